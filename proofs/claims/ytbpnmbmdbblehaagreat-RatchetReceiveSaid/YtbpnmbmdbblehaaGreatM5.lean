/- Part 5 of what the proofs stand on: plain functions of the program, and that they are its functions. -/
import Derived.Test.YtbpnmbmdbblehaaGreatM4
import Derived.KernelRfl
import Derived.Test.YtbpnmbmdbblehaaGreatM3
set_option linter.unusedVariables false
set_option linter.unusedSimpArgs false
namespace Go.AmYtbpnmbmdbblehaaGreat
open Go Go.GxYtbpnmbmdbblehaaGreat
theorem qEo (ls:List (List T)) (hn:ls.length<1000) (h:(ls.map List.length).sum≤100000000):Ev (λ m _=>zf m ls) ls.flatten:=by
 have hfl:∀ l:List (List T),l.flatten.length=(l.map List.length).sum := λ l=>List.length_flatten
 have k2:=qt (P := λ i=>Ev (λ m k=>(ql m k).2 ls ls.length i (ls.take i).flatten) ls.flatten) ls (by omega)
  (λ hc=>by
   refine Ev.loop ?_
   simp only [JO,yL]
   refine Ev.cf hc ?_
   rw [List.take_length]
   exact Ev.pure _)
  (λ i x hx hd hc hg hi hP=>by
   refine Ev.loop ?_
   simp only [JO,yL]
   have ht:ls.take (i+1)=ls.take i++[x]:=by rw [List.take_add_one,hx];rfl
   have hs:((ls.take (i+1)).map List.length).sum≤(ls.map List.length).sum:=by
    have:=congrArg (λ l=>(l.map List.length).sum) (List.take_append_drop (i+1) ls)
    simp only [List.map_append,List.sum_append] at this
    omega
   rw [ht] at hs
   simp only [List.map_append,List.sum_append,List.map_cons,List.map_nil,List.sum_cons,List.sum_nil] at hs
   refine Ev.ct hc (Ev.some hg (Ev.ct (qS ?_ (by omega)) ?_))
   ·rw [hfl];omega
   ·rw [hi]
    refine hP.congr λ m k=>?_
    rw [ht,List.flatten_append];simp)
 have k1:=qt (P := λ i=>∀ n:Nat,n+((ls.drop i).map List.length).sum≤100000000→Ev (λ m k=>(ql m k).1 ls n ls ls.length i) ls.flatten) ls (by omega)
  (λ hc n hn=>by
   refine Ev.loop ?_
   simp only [JS,yE]
   refine Ev.cf hc (Ev.some (a:=((),[],())) ?_ (k2 0 (Nat.zero_le _)))
   unfold yB
   rw [show inb (n:Int) 100000000=true from by unfold inb;rw [decide_eq_true_iff];omega]
   rfl)
  (λ i x hx hd hc hg hi hP n hn=>by
   refine Ev.loop ?_
   simp only [JS,yE]
   rw [hd,List.map_cons,List.sum_cons] at hn
   refine Ev.ct hc (Ev.some hg ?_)
   rw [qmP,jg (by omega)]
   refine Ev.cf (qv.2 (by omega)) ?_
   rw [hi]
   exact hP (n+x.length) (by omega))
 refine Ev.succ ?_
 simp only [qe3,yJ]
 refine Ev.diag (L := λ m k=>(ql m k).1 ls 0 ls ls.length 0) ?_
 exact k1 0 (Nat.zero_le _) 0 (by rw [List.drop_zero];omega)
theorem qtM (a b:List T) (h:a.length+b.length≤100000000):Ev (λ m _=>zf m [a,b]) (a++b) :=
 (qEo [a,b] (by simp) (by simpa using h)).res (by simp)
theorem qoD {f:T→Int} {l:List T} {i:Nat} {x:T} (h:l.drop i=x::l.drop (i+1)):((l.drop i).map f).foldl thn 0=if f x≠0 then f x else ((l.drop (i+1)).map f).foldl thn 0:=by
 rw [h,List.map_cons]
 by_cases hx:f x=0
 ·rw [if_neg (by simpa using hx),hx];rfl
 ·rw [if_pos hx]
  exact qH _ hx
theorem qHE (l:List T) (hs:szL l≤100000000):Ev (λ m _=>qhW m l []) (qlS l):=by
 have hl:=ji l
 refine Ev.succ ?_
 simp only [qA6,qgz]
 unfold qlS
 refine Ev.ite (λ h=>?_) λ h=>?_
 ·rw [qr] at h
  rw [if_pos (by omega)]
  exact Ev.pure _
 ·rw [qv] at h
  rw [if_neg (by omega)]
  refine Ev.bind (qtM l [] (by simp only [List.length_nil];omega)) ?_
  rw [List.append_nil]
  have key:=qt (P := λ i=>Ev (λ m k=>qbd m k l l.length i) (((l.drop i).map qs).foldl thn 0)) l (by omega)
   (λ hc=>by
    refine Ev.loop ?_
    simp only [qo2,qgS]
    refine Ev.cf hc ?_
    rw [List.drop_length]
    exact Ev.pure _)
   (λ i x hx hd hc hg hi hP=>by
    refine Ev.loop ?_
    simp only [qo2,qgS,qe]
    have h1:=qbN (List.mem_of_getElem? hx)
    rw [qoD hd]
    refine Ev.ct hc (Ev.some hg (Ev.bind (Ju x (by omega)) (Ev.ite (λ hv=>?_) λ hv=>?_)))
    ·rw [bnt,qh] at hv
     rw [if_pos hv]
     exact Ev.pure _
    ·rw [bnf,qj] at hv
     rw [if_neg (by omega),hi]
     exact hP)
  refine Ev.diag (L := λ m k=>qbd m k l l.length 0) ?_
  exact (key 0 (Nat.zero_le _)).res (by rw [List.drop_zero])
theorem qCt (t:T) (hs:size t≤1000000000):Ev (λ m _=>qdQ m t [] t) (t,0):=by
 refine Ev.succ ?_
 simp only [qvk,qc1,qe]
 refine Ev.bind (ql2 t hs) ?_
 refine Ev.diag (L := λ m k=>qac m k [] ([]:List Int).length 0 t.kind t.name t.sort t.kids 0 [] 0 t.kind t.name t.sort t.kids []) (Ev.loop ?_)
 simp only [qtP,qgO,qe]
 refine Ev.cf rfl ?_
 rw [show T.mk t.kind t.name t.sort t.kids=t from qe t]
 exact Ev.bind (ql2 t hs) (Ev.pure _)
def qd0 (l:List T) (i:Nat):List T:=l.take i++List.replicate (l.length-i) zT
theorem qG1 {l:List T} {i:Nat} (h:i<l.length):(qd0 l i)[i]? = some zT:=by
 unfold qd0
 rw [List.getElem?_append_right (by rw [List.length_take];omega),List.length_take,List.getElem?_replicate,if_pos (by omega)]
theorem qrg {l:List T} {i:Nat} {x:T} (h:l[i]? = some x):(qd0 l i).set i x=qd0 l (i+1):=by
 have hi:=(List.getElem?_eq_some_iff.1 h).1
 unfold qd0
 have h1:l.take (i+1)=l.take i++[x]:=by rw [List.take_add_one,h];rfl
 have h2:List.replicate (l.length-i) zT=zT::List.replicate (l.length-(i+1)) zT:=by
  rw [show l.length-i=(l.length-(i+1))+1 by omega,List.replicate_succ]
 rw [h1,h2,List.set_append_right _ _ (by rw [List.length_take];omega),List.length_take,show i-min i l.length=0 by omega,List.set_cons_zero,List.append_assoc];rfl
theorem qEQ {l:List T} {i:Nat} {x:T} (h:l[i]? = some x):(qd0 l (i+1)).set i x=qd0 l (i+1):=by
 rw [← qrg h,List.set_set]
theorem qFj {l:List T} {i:Nat} {x:T} (h:l[i]? = some x):(qd0 l (i+1))[i]? = some x:=by
 have hi:=(List.getElem?_eq_some_iff.1 h).1
 rw [← qrg h,List.getElem?_set_self (by unfold qd0;rw [List.length_append,List.length_take,List.length_replicate];omega)]
theorem qdu {α : Type} (l:List α) (i:Nat) (v : α):jW l (i:Int) v=l.set i v:=by
 unfold jW
 rw [if_pos (by omega),Int.toNat_natCast]
theorem qIi:∀ (n:Nat) (l:List T),szL l≤n→n≤1000000→Ev (λ m _=>Q9 m l) l:=by
 intro n
 induction n using Nat.strongRecOn with
 | _ n ih =>
 intro l hs hn
 have hl:=ji l
 refine Ev.succ ?_
 simp only [qFe,qi9]
 have key:=qt (P := λ i=>Ev (λ m k=>qdz m (Q9 m) k l l.length i (qd0 l i)) l) l (by omega)
  (λ hc=>by
   refine Ev.loop ?_
   simp only [qs7,qiO]
   refine Ev.cf hc ?_
   exact Ev.ret (by unfold qd0;rw [List.take_length,Nat.sub_self];simp))
  (λ i x hx hd hc hg hi hP=>by
   refine Ev.loop ?_
   simp only [qs7,qiO,qe]
   have h1:=qbN (List.mem_of_getElem? hx)
   have h2:=qG x
   have hib:=(List.getElem?_eq_some_iff.1 hx).1
   have e:jW (qd0 l i) i x=qd0 l (i+1):=by rw [qdu,qrg hx]
   have e2:jW (qd0 l (i+1)) i x=qd0 l (i+1):=by rw [qdu,qEQ hx]
   have g:qd (qd0 l (i+1)) i=some x:=by rw [jt,qFj hx]
   refine Ev.ct hc (Ev.some hg (Ev.bind (qCt x (by omega)) (Ev.some (a:=zT) (by rw [jt,qG1 hib]) (Ev.bind (ih (szL x.kids) (by unfold szL at *;omega) x.kids (Nat.le_refl _) (by unfold szL at *;omega)) ?_))))
   rw [e]
   refine Ev.some g ?_
   rw [show T.mk x.kind x.name x.sort x.kids=x from qe x,e2,hi]
   refine Ev.ite (λ hk=>?_) λ hk=>hP
   rw [qj] at hk
   have hk:x.kids=[]:=List.eq_nil_of_length_eq_zero (by omega)
   refine Ev.some g ?_
   rw [show T.mk x.kind x.name x.sort []=x from by rw [← hk];exact qe x,e2]
   exact hP)
 refine Ev.ct (by unfold qCI;rw [decide_eq_true_iff,Int.toNat_natCast];omega) ?_
 refine Ev.diag (L := λ m k=>qdz m (Q9 m) k l l.length 0 (List.replicate (Int.toNat (l.length:Int)) (T.mk 0 [] 0 []))) ?_
 refine (key 0 (Nat.zero_le _)).congr λ m k=>?_
 unfold qd0
 rw [List.take_zero,Int.toNat_natCast];rfl
theorem qJd (l:List T) (hs:szL l≤900000):Ev (λ m _=>qlN m l) (qmd l):=by
 have hl:=ji l
 refine Ev.succ ?_
 simp only [qFs,qiL]
 unfold qmd
 refine Ev.bind (qHE l (by omega)) (Ev.ite (λ h=>?_) λ h=>?_)
 ·rw [bnt,qh] at h
  rw [if_pos h]
  exact Ev.pure _
 ·rw [bnf,qj] at h
  rw [if_neg (by omega)]
  have key:=qt (P := λ i=>Ev (λ m k=>qdH m k (((l.take i).map jy).foldl zi []) l l.length i 0 [] 0 []) (if qs (JH (zI l))≠0 then (zT,3) else (JH (zI l),0))) l (by omega)
   (λ hc=>by
    refine Ev.loop ?_
    simp only [qtA,qiX,qe]
    refine Ev.cf hc ?_
    rw [List.take_length]
    have h1:=qdZ l
    show Ev (λ m k=>qa (Q9 m (zI l)) _) _
    have h2:=ji (zI l)
    have fin:∀ u:T,u=JH (zI l)→Ev (λ m _=>qa (zy m u) λ v=>cond (qc (ieq v 0)) (some (T.mk 0 [] 0 [],(3:Int))) (some (u,0))) (if qs (JH (zI l))≠0 then (zT,3) else (JH (zI l),0)):=by
     intro u hu
     have hz:size (JH (zI l))≤1+szL (zI l):=by
      unfold JH
      split
      ·rw [qG];show 1+0≤_;omega
      ·split
       ·rename_i _ h1l
        have:(zI l).getD 0 zT∈zI l:=by
         cases hh:zI l with
         | nil=>rw [hh] at h1l;cases h1l
         | cons x r=>exact List.mem_cons_self ..
        have:=qbN this;omega
       ·rw [qG];exact Nat.le_refl _
     subst hu
     refine Ev.bind (Ju _ (by omega)) (Ev.ite (λ h=>?_) λ h=>?_)
     ·rw [bnt,qh] at h
      rw [if_pos h];exact Ev.pure _
     ·rw [bnf,qj] at h
      rw [if_neg (by omega)];exact Ev.pure _
    refine Ev.bind (qIi _ (zI l) (Nat.le_refl _) (by omega)) (Ev.ite (λ h0=>?_) λ h0=>?_)
    ·rw [qj] at h0
     exact fin _ (by unfold JH;rw [if_pos (by omega)];rfl)
    ·rw [qh] at h0
     refine Ev.ite (λ h1=>?_) λ h1=>?_
     ·rw [qj] at h1
      refine Ev.some (a:=(zI l).getD 0 zT) ?_ (fin _ (by unfold JH;rw [if_neg (by omega),if_pos (by omega)]))
      rw [Jo,List.getD_eq_getElem?_getD]
      cases hh:zI l with
      | nil=>rw [hh] at h1;simp at h1
      | cons x r=>rfl
     ·rw [qh] at h1
      exact fin _ (by unfold JH;rw [if_neg (by omega),if_neg (by omega)];rfl))
   (λ i x hx hd hc hg hi hP=>by
    refine Ev.loop ?_
    simp only [qtA,qiX,qe]
    have hm:=List.mem_of_getElem? hx
    have h1:=qbN hm
    have h2:=qdZ (l.take i)
    have h3:=jQ hx
    have h4:=qjB x
    refine Ev.ct hc (Ev.some hg (Ev.bind (qHk x (by omega)) (Ev.bind (qzX _ _ ?_) ?_)))
    ·unfold zI at h2;omega
    ·rw [hi]
     refine hP.congr λ m k=>?_
     rw [qi8 hx])
  refine Ev.diag (L := λ m k=>qdH m k [] l l.length 0 0 [] 0 []) ?_
  exact key 0 (Nat.zero_le _)
end Go.AmYtbpnmbmdbblehaaGreat
namespace Go.AmYtbpnmbmdbblehaaGreat
open Go Go.GxYtbpnmbmdbblehaaGreat
theorem qJ8 (l:List T) (t:T) (hs:szL l+size t≤1000000000):Ev (λ m _=>qhS m l t) (l.any λ x=>yy x t):=by
 have hl:=ji l
 refine Ev.succ ?_
 simp only [qAH,qgQ]
 have key:=qt (P := λ i=>Ev (λ m k=>qbj m k l i t.kind t.name t.sort t.kids) ((l.drop i).any λ x=>yy x t)) l (by omega)
  (λ hc=>by
   refine Ev.loop ?_
   simp only [qov,qgr]
   refine Ev.cf hc (Ev.ret ?_)
   rw [List.drop_length];rfl)
  (λ i x hx hd hc hg hi hP=>by
   refine Ev.loop ?_
   simp only [qov,qgr,qe]
   have h1:=qbN (List.mem_of_getElem? hx)
   rw [hd,List.any_cons,show T.mk t.kind t.name t.sort t.kids=t from qe t]
   refine Ev.ct hc (Ev.some hg (Ev.bind (qbi x t (by omega) (by omega)) (Ev.ite (λ h=>?_) λ h=>?_)))
   ·rw [h];exact Ev.pure _
   ·rw [h,hi];exact hP)
 refine Ev.diag (L := λ m k=>qbj m k l 0 t.kind t.name t.sort t.kids) ?_
 exact (key 0 (Nat.zero_le _)).res (by rw [List.drop_zero])
theorem qAm (t:T):∀ (l:List T) (s:List T × Bool),(l.foldl (Q6 t) s).1.length≤s.1.length+2*l.length
 | [],s=>by simp
 | x::l,s=>by
   have h:=qAm t l (Q6 t s x)
   have:(Q6 t s x).1.length≤s.1.length+2:=by
    unfold Q6
    split
    ·simp only [List.length_append,List.length_cons,List.length_nil]
     split<;>simp
    ·simp
   rw [List.foldl_cons,List.length_cons];omega
theorem qEJ (l:List T) (t:T) (hs:szL l+size t≤1000000000):Ev (λ m _=>qf1 m l t) (qvp l t):=by
 have hl:=ji l
 refine Ev.succ ?_
 simp only [qAR,qgM]
 have hlen:∀ i,((l.take i).foldl (Q6 t) ([],false)).1.length≤2*l.length := λ i=>by
  have:=qAm t (l.take i) ([],false)
  have h2:(l.take i).length≤l.length:=by rw [List.length_take];omega
  simp only [List.length_nil] at this;omega
 have key:=qt (P := λ i=>Ev (λ m k=>qbe m k l ((l.take i).foldl (Q6 t) ([],false)).2 i t.kind t.name t.sort t.kids ((l.take i).foldl (Q6 t) ([],false)).1) (qvp l t)) l (by omega)
  (λ hc=>by
   refine Ev.loop ?_
   simp only [qn3,qgR]
   refine Ev.cf hc ?_
   rw [List.take_length]
   unfold qvp
   have:=hlen l.length
   rw [List.take_length] at this
   refine Ev.ite (λ h=>?_) λ h=>?_
   ·rw [bnt] at h
    rw [if_neg (by rw [h];decide),show T.mk t.kind t.name t.sort t.kids=t from qe t]
    exact Ev.ct (qS (by omega) (by omega)) (Ev.pure _)
   ·rw [bnf] at h
    rw [if_pos h]
    exact Ev.pure _)
  (λ i x hx hd hc hg hi hP=>by
   refine Ev.loop ?_
   simp only [qn3,qgR,qe]
   have h1:=qbN (List.mem_of_getElem? hx)
   have h2:=hlen i
   have hstep:(l.take (i+1)).foldl (Q6 t) ([],false)=Q6 t ((l.take i).foldl (Q6 t) ([],false)) x:=by
    rw [List.take_add_one,hx,List.foldl_append];rfl
   rw [hstep] at hP
   generalize (l.take i).foldl (Q6 t) ([],false)=s at *
   rw [show T.mk t.kind t.name t.sort t.kids=t from qe t,hi]
   refine Ev.ct hc (Ev.some hg (Ev.bind (qhJ t (by omega) x (by omega)) (Ev.ite (λ h=>?_) λ h=>?_)))
   ·rw [bnt] at h
    refine Ev.ite (λ hc1=>?_) λ hc1=>?_
    ·rw [qcf] at hc1
     unfold Q6 at hP
     rw [if_pos ⟨h,hc1⟩] at hP
     refine Ev.ite (λ hc2=>?_) λ hc2=>?_
     ·rw [qr] at hc2
      rw [if_pos hc2] at hP
      exact Ev.ct (qS (by omega) (by omega)) (Ev.some hg (Ev.ct (qS (by rw [List.length_append];simp only [List.length_cons,List.length_nil];omega) (by omega)) hP))
     ·rw [qv] at hc2
      rw [if_neg (by omega),List.append_nil] at hP
      exact Ev.some hg (Ev.ct (qS (by omega) (by omega)) hP)
    ·rw [qiW] at hc1
     unfold Q6 at hP
     rw [if_neg (by omega)] at hP
     exact Ev.some hg (Ev.ct (qS (by omega) (by omega)) hP)
   ·rw [bnf] at h
    unfold Q6 at hP
    rw [if_neg (by rw [h];intro hh;cases hh.1)] at hP
    exact Ev.some hg (Ev.ct (qS (by omega) (by omega)) hP))
 refine Ev.diag (L := λ m k=>qbe m k l false 0 t.kind t.name t.sort t.kids []) ?_
 exact key 0 (Nat.zero_le _)
theorem qJ2 (l:List T) (t:T) (hs:szL l+size t≤1000000000):Ev (λ m _=>qdY m l t) (qhp l t):=by
 have hl:=ji l
 refine Ev.succ ?_
 simp only [qu5,qcY,qe]
 unfold qhp
 refine Ev.bind (qJ8 l t hs) (Ev.ite (λ h=>?_) λ h=>?_)
 ·rw [bnt] at h
  rw [if_neg (by rw [h];decide)]
  exact Ev.bind (qEJ l t hs) (Ev.pure _)
 ·rw [bnf] at h
  rw [if_pos h]
  have key:=qt (P := λ i=>Ev (λ m k=>QX m k l i t.kind t.name t.sort t.kids ((l.take i).filter λ x => !yy x t)) (l.filter λ x => !yy x t)) l (by omega)
   (λ hc=>by
    refine Ev.loop ?_
    simp only [qkX,qc0]
    refine Ev.cf hc ?_
    rw [List.take_length]
    exact Ev.pure _)
   (λ i x hx hd hc hg hi hP=>by
    refine Ev.loop ?_
    simp only [qkX,qc0,qe]
    have h1:=qbN (List.mem_of_getElem? hx)
    have h2:((l.take i).filter λ x => !yy x t).length≤l.length:=Nat.le_trans (List.length_filter_le _ _) (by rw [List.length_take];omega)
    rw [List.take_add_one,hx,List.filter_append] at hP
    rw [show T.mk t.kind t.name t.sort t.kids=t from qe t,hi]
    refine Ev.ct hc (Ev.some hg (Ev.bind (qbi x t (by omega) (by omega)) (Ev.ite (λ h=>?_) λ h=>?_)))
    ·rw [bnt] at h
     have e:(Option.some x).toList.filter (λ x => !yy x t)=[x]:=by show [x].filter _=_;simp [h]
     rw [e] at hP
     exact Ev.some hg (Ev.ct (qS (by omega) (by omega)) hP)
    ·rw [bnf] at h
     have e:(Option.some x).toList.filter (λ x => !yy x t)=[]:=by show [x].filter _=_;simp [h]
     rw [e,List.append_nil] at hP
     exact hP)
  refine Ev.diag (L := λ m k=>QX m k l 0 t.kind t.name t.sort t.kids []) ?_
  exact key 0 (Nat.zero_le _)
theorem qux (t:T):∀ l:List T,szL (Qq l t)≤szL l+size t
 | []=>by rw [Qq,qK];omega
 | x::l=>by
   have:=qux t l
   rw [Qq]
   split
   ·rw [qK,qK];omega
   ·split
    ·omega
    ·rw [qK,qK];omega
theorem qvY (p:T→Bool):∀ l:List T,szL (l.filter p)≤szL l
 | []=>Nat.le_refl _
 | x::l=>by
   have:=qvY p l
   rw [List.filter_cons]
   split
   ·rw [qK,qK];omega
   ·rw [qK];omega
theorem qJb (l:List T) (t:T):szL (qhp l t)≤szL l+size t:=by
 unfold qhp
 split
 ·exact Nat.le_trans (qvY _ l) (by omega)
 ·rw [qqq];exact qux t l
theorem qr4:∀ (b a:List T),szL (b.foldl qhp a)≤szL a+szL b
 | [],a=>by simp [szL]
 | x::b,a=>by
   have h1:=qr4 b (qhp a x)
   have h2:=qJb a x
   rw [List.foldl_cons,qK];omega
theorem qy8 (a b:List T) (hs:szL a+szL b≤1000000000):Ev (λ m _=>qez m a b) (qiV a b):=by
 have h1:=ji a
 have h2:=ji b
 refine Ev.succ ?_
 simp only [qAj,qfm]
 have key:=qt (P := λ i=>Ev (λ m k=>Jt m k b ((b.take i).foldl qhp a) i) (qiV a b)) b (by omega)
  (λ hc=>by
   refine Ev.loop ?_
   simp only [qnm,qfu]
   refine Ev.cf hc ?_
   rw [List.take_length]
   exact Ev.pure _)
  (λ i x hx hd hc hg hi hP=>by
   refine Ev.loop ?_
   simp only [qnm,qfu,qe]
   have h3:=jQ hx
   have h4:=qr4 (b.take i) a
   rw [List.take_add_one,hx,List.foldl_append] at hP
   refine Ev.ct hc (Ev.some hg (Ev.bind (qJ2 _ x (by omega)) ?_))
   rw [hi]
   exact hP)
 refine Ev.ct (qS (by simp only [List.length_nil];omega) (by omega)) ?_
 have main:Ev (λ m _=>Jt m m b a 0) (qiV a b):=Ev.diag (L := λ m k=>Jt m k b a 0) (key 0 (Nat.zero_le _))
 exact Ev.case (λ h=>by rw [h] at main ⊢;exact main) λ x r h=>by rw [h] at main ⊢;exact main
theorem qGn (t:T):size t≤1000000000→Ev (λ m _=>zx m t) (jy t):=by
 induction t using T.ind with
 | h t ih =>
   intro hs
   have hl:=yM t
   have hz:=qG t
   refine Ev.succ ?_
   simp only [qqA,qbB,qe]
   have key:=qt (P := λ i=>Ev (λ m k=>jp m (zx m) k (((t.kids.take i).map jy).foldl zi []) i t.kind t.name t.sort t.kids) ((t.kids.map jy).foldl zi [])) t.kids (by omega)
    (λ hc=>by
     refine Ev.loop ?_
     simp only [qiz,qbw]
     refine Ev.cf hc ?_
     rw [List.take_length]
     exact Ev.pure _)
    (λ i x hx hd hc hg hi hP=>by
     refine Ev.loop ?_
     simp only [qiz,qbw,qe]
     have hm:=List.mem_of_getElem? hx
     have h1:=yO t x hm
     have h2:=qdZ (t.kids.take i)
     have h3:=jQ hx
     have h4:=qjB x
     have ha:Asc (((t.kids.take i).map jy).foldl zi []):=qgD _ _ List.Pairwise.nil λ l hl=>by
      obtain ⟨k,_,rfl⟩:=List.mem_map.1 hl
      exact qkr k
     refine Ev.ct hc (Ev.some hg (Ev.bind (ih x hm (by omega)) (Ev.bind (qy8 _ _ ?_) ?_)))
     ·unfold zI at h2;unfold szL at *;omega
     ·rw [hi,qzE ha (qkr x)]
      refine hP.congr λ m k=>?_
      rw [qi8 hx])
   have main:Ev (λ m _=>jp m (zx m) m [] 0 t.kind t.name t.sort t.kids) ((t.kids.map jy).foldl zi []) :=
    Ev.diag (L := λ m k=>jp m (zx m) k [] 0 t.kind t.name t.sort t.kids) (key 0 (Nat.zero_le _))
   rw [qj1]
   by_cases h3:t.kind=3
   ·have hk:ieq t.kind 3=true:=qj.2 h3
    have hk':qc (ieq t.kind 3)=false:=bnf.2 hk
    refine Ev.ct hk ?_
    refine Ev.ite (λ hn=>?_) λ hn=>?_
    ·rw [jb] at hn
     have hnz:isN t qbn=true:=yz.2 ⟨h3,hn⟩
     have hnx:isN t qcU=false:=by
      rw [← Bool.not_eq_true,yz];rintro ⟨_,h⟩;rw [hn] at h;exact absurd h (by decide)
     refine Ev.ite (λ he=>?_) λ he=>?_
     ·rw [qj] at he
      have he:t.kids=[]:=List.eq_nil_of_length_eq_zero (by omega)
      rw [hnz,he]
      exact Ev.pure _
     ·rw [qh] at he
      have he:t.kids.isEmpty=false:=by
       cases hh:t.kids with
       | nil=>rw [hh] at he;exact absurd rfl he
       | cons _ _=>rfl
      rw [hnz,he,hnx]
      exact Ev.cf hk' (Ev.ct (by rw [hn];rfl) (Ev.pure _))
    ·have hn':=jl.1 hn
     have hnz:isN t qbn=false:=by
      rw [← Bool.not_eq_true,yz];rintro ⟨_,h⟩;exact hn' h
     rw [hnz]
     refine Ev.cf hk' (Ev.ite (λ hx=>?_) λ hx=>?_)
     ·have hnx:isN t qcU=false:=by
        rw [← Bool.not_eq_true,yz];rintro ⟨_,h⟩;exact jl.1 (bnt.1 hx) h
      rw [hnx]
      exact Ev.pure _
     ·rw [show isN t qcU=true from yz.2 ⟨h3,jb.1 (bnf.1 hx)⟩]
      exact main
   ·have hk:ieq t.kind 3=false:=qh.2 h3
    have hnn:∀ n,isN t n=false := λ n=>by
     rw [← Bool.not_eq_true,yz];rintro ⟨h,_⟩;exact h3 h
    rw [hnn,hnn]
    exact Ev.cf hk (Ev.ct (bnt.2 hk) (Ev.pure _))
theorem qDf:qs (apT qbn [])=0:=by
 unfold qs
 rw [qbW,qG,qbG]
 have:Qp (apT qbn [])=0:=by decide
 show (if Qp (apT qbn [])≠0 then Qp (apT qbn []) else _)=0
 rw [this];rfl
theorem qCZ (l:List T) (hs:szL l≤100000000):Ev (λ m _=>qeX m l (apT qbn [])) (qlS l):=by
 have hl:=ji l
 refine Ev.succ ?_
 simp only [qw5,qer]
 unfold qlS
 refine Ev.ite (λ h=>?_) λ h=>?_
 ·rw [qr] at h
  rw [if_pos (by omega)]
  exact Ev.pure _
 ·rw [qv] at h
  rw [if_neg (by omega)]
  have key:=qt (P := λ i=>Ev (λ m k=>JE m k l i 3 qbn 0 []) (((l.drop i).map qs).foldl thn 0)) l (by omega)
   (λ hc=>by
    refine Ev.loop ?_
    simp only [qlp,qep]
    refine Ev.cf hc ?_
    rw [List.drop_length]
    refine Ev.bind (qaN (T.mk 3 qbn 0 []) (by rw [qG];show 1+0≤_;omega)) ?_
    exact Ev.ret qDf)
   (λ i x hx hd hc hg hi hP=>by
    refine Ev.loop ?_
    simp only [qlp,qep,qe]
    have h1:=qbN (List.mem_of_getElem? hx)
    rw [qoD hd]
    refine Ev.ct hc (Ev.some hg (Ev.bind (qaN x (by omega)) (Ev.ite (λ hv=>?_) λ hv=>?_)))
    ·rw [bnt,qh] at hv
     rw [if_pos hv]
     exact Ev.pure _
    ·rw [bnf,qj] at hv
     rw [if_neg (by omega),hi]
     exact hP)
  refine Ev.diag (L := λ m k=>JE m k l 0 3 qbn 0 []) ?_
  exact (key 0 (Nat.zero_le _)).res (by rw [List.drop_zero])
theorem qBI (l:List T):size (JH l)≤1+szL l:=by
 unfold JH
 split
 ·rw [qG];show 1+0≤_;omega
 ·split
  ·rename_i _ h1l
   have:l.getD 0 zT∈l:=by
    cases l with
    | nil=>cases h1l
    | cons x r=>exact List.mem_cons_self ..
   have:=qbN this;omega
  ·rw [qG];exact Nat.le_refl _
theorem qFn (l:List T) (hs:szL l≤1000000000):Ev (λ m _=>qgk m l) (JH l):=by
 have hl:=ji l
 refine Ev.succ ?_
 simp only [qxU,qig,qe]
 unfold JH
 refine Ev.ite (λ h0=>?_) λ h0=>?_
 ·rw [qj] at h0
  rw [if_pos (by omega)]
  exact Ev.bind (qbR _ [] (by simp)) (Ev.pure _)
 ·rw [qh] at h0
  rw [if_neg (by omega)]
  refine Ev.ite (λ h1=>?_) λ h1=>?_
  ·rw [qj] at h1
   rw [if_pos (by omega)]
   refine Ev.some (a:=l.getD 0 zT) ?_ (Ev.pure _)
   rw [Jo,List.getD_eq_getElem?_getD]
   cases l with
   | nil=>simp at h1
   | cons x r=>rfl
  ·rw [qh] at h1
   rw [if_neg (by omega)]
   exact Ev.ct (qS (by simp only [List.length_nil];omega) (by omega)) (Ev.case (λ h=>Ev.ret (by rw [h];rfl)) λ x r h=>Ev.ret (by rw [h];rfl))
theorem qIk (l:List T) (hs:szL l≤900000):Ev (λ m _=>qib m l) (qmd l):=by
 have hl:=ji l
 refine Ev.succ ?_
 simp only [qAD,qgd]
 unfold qmd
 have z:Ev (λ m _=>qf6 m) (apT qbn []):=by
  refine Ev.succ ?_
  simp only [qxZ,qie,qe]
  exact Ev.bind (qbR _ [] (by simp)) (Ev.pure _)
 refine Ev.bind z ?_
 rw [qe]
 refine Ev.bind (qCZ l (by omega)) (Ev.ite (λ h=>?_) λ h=>?_)
 ·rw [bnt,qh] at h
  rw [if_pos h]
  exact Ev.pure _
 ·rw [bnf,qj] at h
  rw [if_neg (by omega)]
  have key:=qt (P := λ i=>Ev (λ m k=>qa7 m k l (((l.take i).map jy).foldl zi []) i 0 [] 0 []) (if qs (JH (zI l))≠0 then (zT,3) else (JH (zI l),0))) l (by omega)
   (λ hc=>by
    refine Ev.loop ?_
    simp only [qoK,qg0,qe]
    refine Ev.cf hc ?_
    rw [List.take_length]
    have h1:=qdZ l
    have h2:=qBI (zI l)
    refine Ev.bind (qFn (zI l) (by omega)) (Ev.bind (qaN _ (by omega)) (Ev.ite (λ h=>?_) λ h=>?_))
    ·rw [bnt,qh] at h
     rw [if_pos h];exact Ev.pure _
    ·rw [bnf,qj] at h
     rw [if_neg (by omega)];exact Ev.pure _)
   (λ i x hx hd hc hg hi hP=>by
    refine Ev.loop ?_
    simp only [qoK,qg0,qe]
    have hm:=List.mem_of_getElem? hx
    have h1:=qbN hm
    have h2:=qdZ (l.take i)
    have h3:=jQ hx
    have h4:=qjB x
    have ha:Asc (((l.take i).map jy).foldl zi []):=qgD _ _ List.Pairwise.nil λ l hl=>by
     obtain ⟨k,_,rfl⟩:=List.mem_map.1 hl
     exact qkr k
    refine Ev.ct hc (Ev.some hg (Ev.bind (qGn x (by omega)) (Ev.bind (qy8 _ _ ?_) ?_)))
    ·unfold zI at h2;omega
    ·rw [hi,qzE ha (qkr x)]
     refine hP.congr λ m k=>?_
     rw [qi8 hx])
  refine Ev.diag (L := λ m k=>qa7 m k l [] 0 0 [] 0 []) ?_
  exact key 0 (Nat.zero_le _)
end Go.AmYtbpnmbmdbblehaaGreat
namespace Go.GxYtbpnmbmdbblehaaGreat
def qfB (l:List Pw):Prop:=Asc (l.map (·.1))
def NzP (l:List Pw):Prop:=∀ p∈l,p.2≠0
theorem qfY {p:Pw} {l:List Pw}:qfB (p::l)↔(∀ q∈l,qp p.1 q.1=-1)∧qfB l:=by
 unfold qfB
 rw [List.map_cons,qam]
 simp
theorem qdM {p:Pw} {l:List Pw}:NzP (p::l)↔p.2≠0∧NzP l:=by
 unfold NzP;simp
def Qi (l:List Pw):Nat:=(l.map λ p=>p.2.natAbs).sum
theorem qmD:∀ (l:List Pw) (t:T) (n:Int) (p:Pw),p∈yn l t n→p.1=t∨p∈l
 | [],t,n,p,h=>by simp [yn] at h;exact .inl (by rw [h])
 | (x,m)::l,t,n,p,h=>by
   rw [yn] at h
   split at h
   ·rcases List.mem_cons.1 h with h | h
    ·exact .inl (by rw [h])
    ·exact .inr h
   ·split at h
    ·rename_i h0
     split at h
     ·exact .inr (List.mem_cons_of_mem _ h)
     ·rcases List.mem_cons.1 h with h | h
      ·left;rw [h];exact (Jv t x h0).symm
      ·exact .inr (List.mem_cons_of_mem _ h)
    ·rcases List.mem_cons.1 h with h | h
     ·exact .inr (h▸List.mem_cons_self ..)
     ·rcases qmD l t n p h with h | h
      ·exact .inl h
      ·exact .inr (List.mem_cons_of_mem _ h)
theorem qzC:∀ (l:List Pw) (t:T) (n:Int),qfB l→qfB (yn l t n)
 | [],_,_,_=>List.pairwise_singleton _ _
 | (x,m)::l,t,n,h=>by
   obtain ⟨h1,h2⟩:=qfY.1 h
   rw [yn]
   have hr:=zL.rng t x
   split
   ·rename_i hlt
    refine qfY.2 ⟨λ q hq=>?_,h⟩
    rcases List.mem_cons.1 hq with e | hq
    ·rw [e];exact hlt
    ·exact qeb hlt (h1 q hq)
   ·split
    ·split
     ·exact h2
     ·exact qfY.2 ⟨h1,h2⟩
    ·refine qfY.2 ⟨λ q hq=>?_,qzC l t n h2⟩
     rcases qmD l t n q hq with e | hq
     ·rw [e];exact qtZ.1 (show qp t x=1 by omega)
     ·exact h1 q hq
theorem qBY:∀ (l:List Pw) (t:T) (n:Int),NzP l→n≠0→NzP (yn l t n)
 | [],_,_,_,hn=>by intro p hp;simp [yn] at hp;rw [hp];exact hn
 | (x,m)::l,t,n,h,hn=>by
   obtain ⟨h1,h2⟩:=qdM.1 h
   rw [yn]
   split
   ·exact qdM.2 ⟨hn,h⟩
   ·split
    ·split
     ·exact h2
     ·exact qdM.2 ⟨by assumption,h2⟩
    ·exact qdM.2 ⟨h1,qBY l t n h2 hn⟩
theorem qqH:∀ (l:List Pw) (t:T) (n:Int),Qi (yn l t n)≤Qi l+n.natAbs
 | [],t,n=>by simp [yn,Qi]
 | (x,m)::l,t,n=>by
   have ih:=qqH l t n
   unfold Qi at ih ⊢
   rw [yn]
   split
   ·simp only [List.map_cons,List.sum_cons];omega
   ·split
    ·split
     ·simp only [List.map_cons,List.sum_cons];omega
     ·simp only [List.map_cons,List.sum_cons];omega
    ·simp only [List.map_cons,List.sum_cons];omega
theorem qqT:∀ (l:List Pw) (t:T) (n:Int),(yn l t n).length≤l.length+1
 | [],t,n=>by simp [yn]
 | (x,m)::l,t,n=>by
   have ih:=qqT l t n
   rw [yn]
   split
   ·simp
   ·split
    ·split
     ·simp;omega
     ·simp
    ·simp only [List.length_cons];omega
theorem qzZ (l:List Pw) (p:Pw) (h:p∈l):p.2.natAbs≤Qi l:=by
 unfold Qi
 induction l with
 | nil=>cases h
 | cons q l ih =>
   simp only [List.map_cons,List.sum_cons]
   rcases List.mem_cons.1 h with e | h
   ·rw [e];omega
   ·have:=ih h;omega
noncomputable def yF (t:T) (n:Int) (s:List Pw × Bool) (p:Pw):List Pw × Bool :=
 ((if s.2=false∧qp t p.1<0 then s.1++[(t,n)] else s.1)++(if (if qp t p.1=0 then p.2+n else p.2)=0 then [] else [(p.1,if qp t p.1=0 then p.2+n else p.2)]),
   s.2||decide (qp t p.1≤0))
noncomputable def qDS (l:List Pw) (t:T) (n:Int):List Pw:=if (l.foldl (yF t n) ([],false)).2 then (l.foldl (yF t n) ([],false)).1 else (l.foldl (yF t n) ([],false)).1++[(t,n)]
theorem qm0 (t:T) (n:Int):∀ (l out:List Pw),NzP l→(∀ q∈l,qp t q.1=-1)→l.foldl (yF t n) (out,true)=(out++l,true)
 | [],out,_,_=>by simp
 | (x,m)::l,out,h,k=>by
   obtain ⟨h1,h2⟩:=qdM.1 h
   have k1:=k _ (List.mem_cons_self ..)
   simp only at k1 h1
   have e:yF t n (out,true) (x,m)=(out++[(x,m)],true):=by simp [yF,k1,h1]
   rw [List.foldl_cons,e,qm0 t n l _ h2 λ q hq=>k q (List.mem_cons_of_mem _ hq)]
   simp
theorem qqk (t:T) (n:Int):∀ (l out:List Pw),NzP l→qfB l→(if (l.foldl (yF t n) (out,false)).2 then (l.foldl (yF t n) (out,false)).1 else (l.foldl (yF t n) (out,false)).1++[(t,n)])=out++yn l t n
 | [],out,_,_=>by simp [yn]
 | (x,m)::l,out,h,k=>by
   obtain ⟨h1,h2⟩:=qdM.1 h
   obtain ⟨k1,k2⟩:=qfY.1 k
   simp only at h1 k1
   have hr:=zL.rng t x
   rw [List.foldl_cons,yn]
   by_cases c1:qp t x=-1
   ·have e:yF t n (out,false) (x,m)=(out++[(t,n)]++[(x,m)],true):=by simp [yF,c1,h1]
    rw [e,qm0 t n l _ h2 λ q hq=>qeb c1 (k1 q hq),if_pos c1]
    simp
   ·by_cases c2:qp t x=0
    ·have e:yF t n (out,false) (x,m)=(out++(if m+n=0 then [] else [(x,m+n)]),true):=by simp [yF,c2]
     have ex:=Jv t x c2
     rw [e,qm0 t n l _ h2 λ q hq=>by rw [ex];exact k1 q hq,if_neg c1,if_pos c2]
     by_cases c3:m+n=0
     ·simp [c3]
     ·simp [c3]
    ·have e:yF t n (out,false) (x,m)=(out++[(x,m)],false):=by
       have g1:¬ qp t x<0:=by omega
       have g2:¬ qp t x≤0:=by omega
       simp [yF,g1,g2,c2,h1]
     rw [e,qqk t n l _ h2 k2,if_neg c1,if_neg c2]
     simp
theorem qHR {l:List Pw} (h:NzP l) (k:qfB l) (t:T) (n:Int):qDS l t n=yn l t n:=by
 have:=qqk t n l [] h k
 simpa [qDS] using this
def Jn (l:List Pw):Prop:=qfB l∧NzP l
theorem Jn.nil:Jn []:=⟨List.Pairwise.nil,λ _ h=>by cases h⟩
theorem Jn.ins {l:List Pw} (h:Jn l) (t:T) {n:Int} (hn:n≠0):Jn (yn l t n):=⟨qzC l t n h.1,qBY l t n h.2 hn⟩
theorem qI9 {t:T} {n:Int} (h:n≠0):qaq t n≠0:=by unfold qaq;split<;>omega
theorem qF3 (t:T) (n:Int):(qaq t n).natAbs=n.natAbs:=by unfold qaq;split<;>omega
theorem qCi (fs:List T) (n:Int) (P:List Pw→Prop) (h:∀ k∈fs,∀ l,P l→P (y8 k l n)):∀ l,P l→P ((fs.map y8).foldl (λ l f=>f l n) l):=by
 induction fs with
 | nil=>intro l hl;exact hl
 | cons k fs ih=>intro l hl;exact ih (λ k hk=>h k (List.mem_cons_of_mem _ hk)) _ (h k (List.mem_cons_self ..) l hl)
theorem qFL (t:T):∀ (l:List Pw) (n:Int),n≠0→Jn l→Jn (y8 t l n):=by
 refine T.ind (P := λ t=>∀ (l:List Pw) (n:Int),n≠0→Jn l→Jn (y8 t l n)) ?_ t
 intro t ih l n hn h
 rw [qfV]
 split
 ·exact qCi t.kids (qaq t n) Jn (λ k hk l hl=>ih k hk l _ (qI9 hn) hl) l h
 ·exact h.ins t hn
theorem qGs (t:T):∀ (l:List Pw) (n:Int),Qi (y8 t l n)≤Qi l+size t*n.natAbs∧(y8 t l n).length≤l.length+size t:=by
 refine T.ind (P := λ t=>∀ (l:List Pw) (n:Int),Qi (y8 t l n)≤Qi l+size t*n.natAbs∧(y8 t l n).length≤l.length+size t) ?_ t
 intro t ih l n
 rw [qfV,qG]
 split
 ·have:∀ (fs:List T),(∀ k∈fs,k∈t.kids)→∀ l,Qi ((fs.map y8).foldl (λ l f=>f l (qaq t n)) l)≤Qi l+(fs.map size).sum*n.natAbs∧((fs.map y8).foldl (λ l f=>f l (qaq t n)) l).length≤l.length+(fs.map size).sum:=by
    intro fs
    induction fs with
    | nil=>intro _ l;simp
    | cons k fs ihf =>
      intro hf l
      have h1:=ih k (hf k (List.mem_cons_self ..)) l (qaq t n)
      rw [qF3] at h1
      have h2:=ihf (λ k hk=>hf k (List.mem_cons_of_mem _ hk)) (y8 k l (qaq t n))
      simp only [List.map_cons,List.foldl_cons,List.sum_cons,Nat.add_mul] at h2 ⊢
      omega
  have:=this t.kids (λ _ h=>h) l
  rw [Nat.add_mul]
  omega
 ·have h1:=qqH l t n
  have h2:=qqT l t n
  rw [Nat.add_mul]
  omega
theorem qoV:∀ (b a:List Pw),Jn a→NzP b→Jn (QC a b)
 | [],a,h,_=>h
 | p::b,a,h,k=>qoV b (yn a p.1 p.2) (h.ins p.1 (qdM.1 k).1) (qdM.1 k).2
theorem qru:∀ (b a:List Pw),Qi (QC a b)≤Qi a+Qi b∧(QC a b).length≤a.length+b.length
 | [],a=>by simp [QC,Qi]
 | p::b,a=>by
   have h1:=qru b (yn a p.1 p.2)
   have h2:=qqH a p.1 p.2
   have h3:=qqT a p.1 p.2
   have e:Qi (p::b)=p.2.natAbs+Qi b:=by simp [Qi]
   rw [show QC a (p::b)=QC (yn a p.1 p.2) b from rfl,e,List.length_cons]
   omega
noncomputable def ixP:List Pw→T→Nat
 | [],_=>0
 | p::l,t=>if qp p.1 t=-1 then ixP l t+1 else 0
theorem qFd:∀ (l:List Pw) (t:T),ixP l t≤l.length
 | [],_=>Nat.le_refl _
 | p::l,t=>by
   have:=qFd l t
   rw [ixP]
   split
   ·simp;omega
   ·omega
theorem qEs:∀ (l:List Pw) (t:T) (i:Nat),i≤l.length→(∀ k p,k<i→l[k]? = some p→qp p.1 t=-1)→(∀ p,l[i]? = some p→qp p.1 t≠-1)→i=ixP l t
 | [],_,i,h,_,_=>by simp at h;rw [h];rfl
 | p::l,t,0,_,_,h=>by rw [ixP,if_neg (h p rfl)]
 | p::l,t,i+1,h,k,m=>by
   rw [ixP,if_pos (k 0 p (by omega) rfl)]
   rw [← qEs l t i (by simpa using h) (λ j q hj hq=>k (j+1) q (by omega) (by simpa using hq)) (λ q hq=>m q (by simpa using hq))]
theorem qB7:∀ (l:List Pw) (t:T) (n:Int) (x:T) (m:Int),l[ixP l t]? = some (x,m)→qp x t=0 →
  yn l t n=if m+n=0 then l.take (ixP l t)++l.drop (ixP l t+1) else l.take (ixP l t)++[(x,m+n)]++l.drop (ixP l t+1)
 | [],_,_,_,_,h,_=>by simp at h
 | (y,k)::l,t,n,x,m,h,h0=>by
   have an:=zL.anti y t
   have rg:=zL.rng y t
   rw [ixP] at h
   rw [yn,ixP]
   simp only at h ⊢
   by_cases c:qp y t=-1
   ·rw [if_pos c] at h
    rw [if_neg (by omega),if_neg (by omega),if_pos c,qB7 l t n x m (by simpa using h) h0]
    split<;>simp
   ·rw [if_neg c] at h
    simp at h
    obtain ⟨rfl,rfl⟩:=h
    rw [if_neg (by omega),if_pos (by omega),if_neg c]
    split<;>simp
theorem qzj:∀ (l:List Pw) (t:T) (n:Int),(∀ p,l[ixP l t]? = some p→qp p.1 t≠0)→yn l t n=l.take (ixP l t)++[(t,n)]++l.drop (ixP l t)
 | [],_,_,_=>by simp [yn,ixP]
 | (y,k)::l,t,n,h=>by
   have an:=zL.anti y t
   have rg:=zL.rng y t
   rw [ixP] at h
   rw [yn,ixP]
   simp only at h ⊢
   by_cases c:qp y t=-1
   ·rw [if_pos c] at h
    rw [if_neg (by omega),if_neg (by omega),if_pos c,qzj l t n λ p hp=>h p (by simpa using hp)]
    simp
   ·rw [if_neg c] at h
    have:=h (y,k) rfl
    simp only at this
    rw [if_pos (by omega),if_neg c]
    simp
theorem qCe {l:List Pw} (h:qfB l) {i j:Nat} {p q:Pw} (hi:l[i]? = some p) (hj:l[j]? = some q) (hij:i<j):qp p.1 q.1=-1:=by
 unfold qfB Asc at h
 rw [List.pairwise_iff_getElem] at h
 obtain ⟨hi1,hi2⟩:=List.getElem?_eq_some_iff.1 hi
 obtain ⟨hj1,hj2⟩:=List.getElem?_eq_some_iff.1 hj
 have:=h i j (by simpa using hi1) (by simpa using hj1) hij
 simpa [hi2,hj2] using this
end Go.GxYtbpnmbmdbblehaaGreat
namespace Go.AmYtbpnmbmdbblehaaGreat
open Go Go.GxYtbpnmbmdbblehaaGreat
theorem qBW (t:T):Ev (λ m _=>JD m t) (qcb t):=by
 refine Ev.succ ?_
 simp only [qpR,qdw]
 unfold qcb
 by_cases h3:t.kind=3
 ·refine Ev.ct (qj.2 h3) (Ev.ite (λ h=>?_) λ h=>(Ev.ite (λ h2=>?_) λ h2=>?_))
  ·rw [jb] at h
   exact Ev.ret (by rw [h3,h];rfl)
  ·rw [jb] at h2
   exact Ev.ret (by rw [h3,h2];rfl)
  ·rw [jl] at h h2
   exact Ev.ret (by
    have a1:(t.name==qeN)=false:=by rw [beq_eq_false_iff_ne];exact h
    have a2:(t.name==Qh)=false:=by rw [beq_eq_false_iff_ne];exact h2
    rw [h3,a1,a2];rfl)
 ·exact Ev.cf (qh.2 h3) (Ev.ret (by have:(t.kind==3)=false:=by rw [beq_eq_false_iff_ne];exact h3
                                    rw [this];rfl))
theorem qkk (t:T):size t≤100000000→Ev (λ m _=>zc m t) t:=by
 induction t using T.ind with
 | h t ih =>
   intro hs
   have hl:=yM t
   refine Ev.succ ?_
   simp only [qqQ,qbu]
   have hc:zH 0 t.kids=some ((),t.kids,()):=by
    unfold zH
    rw [show Nat.ble t.kids.length 100000000=true from Nat.ble_eq_true_of_le (by omega)];rfl
   refine Ev.some hc ?_
   have key:=qt (P := λ i=>Ev (λ m k=>jT m (zc m) k t.kids.length i t.kind t.name t.sort 0 [] 0 t.kids []) t) t.kids (by omega)
    (λ hc=>by
     refine Ev.loop ?_
     simp only [qiD,qbs]
     exact Ev.cf hc (Ev.ret (qe t)))
    (λ i x hx hd hc hg hi hP=>by
     refine Ev.loop ?_
     simp only [qiD,qbs,qe]
     have hm:=List.mem_of_getElem? hx
     have h1:=yO t x hm
     have e:jW t.kids (i:Int) x=t.kids:=by
      rw [qdu]
      obtain ⟨h2,h3⟩:=List.getElem?_eq_some_iff.1 hx
      rw [← h3,List.set_getElem_self]
     refine Ev.ct hc (Ev.some hg (Ev.bind (ih x hm (by omega)) (Ev.some hg ?_)))
     rw [e,hi]
     exact hP)
   refine Ev.diag (L := λ m k=>jT m (zc m) k t.kids.length 0 t.kind t.name t.sort 0 [] 0 t.kids []) ?_
   exact key 0 (Nat.zero_le _)
theorem qKp (lo hi:Nat) (h:lo+hi≤1000000000):iw .i64 (qmV .u64 (iw .u64 (iw .i64 (qf (lo:Int) (hi:Int)))) 1)=(((lo+hi) / 2:Nat):Int):=by
 rw [qmP,show iw .i64 ((lo+hi:Nat):Int)=((lo+hi:Nat):Int) from jg (by omega),show iw .u64 ((lo+hi:Nat):Int)=((lo+hi:Nat):Int) from IntWalk.u64_in _ (by omega)]
 have:qmV .u64 ((lo+hi:Nat):Int) 1=(((lo+hi) / 2:Nat):Int):=by
  unfold qmV
  show Int.fdiv _ 2=_
  rw [Int.fdiv_eq_ediv_of_nonneg _ (by decide)];omega
 rw [this,jg (by omega)]
noncomputable def szP (l:List Pw):Nat:=(l.map λ p=>size p.1).sum
theorem qah (p:Pw) (l:List Pw):szP (p::l)=size p.1+szP l:=by simp [szP]
theorem qbS:∀ l:List Pw,l.length≤szP l
 | []=>Nat.zero_le _
 | p::l=>by
   have:=qbS l
   have:=size_pos p.1
   rw [qah,List.length_cons];omega
theorem qeq:∀ {l:List Pw} {p:Pw},p∈l→size p.1≤szP l
 | q::l,p,h=>by
   rw [qah]
   rcases List.mem_cons.1 h with rfl | h
   ·omega
   ·have:=qeq h;omega
theorem qBV:∀ (l:List Pw) (t:T) (n:Int),szP (yn l t n)≤szP l+size t
 | [],t,n=>by rw [yn,qah];show size t+0≤0+size t;omega
 | (x,m)::l,t,n=>by
   have:=qBV l t n
   rw [yn]
   split
   ·rw [qah,qah];show size t+(size x+_)≤size x+_+size t;omega
   ·split
    ·split
     ·rw [qah];show _≤size x+_+_;omega
     ·rw [qah,qah];show size x+_≤size x+_+_;omega
    ·rw [qah,qah];show size x+_≤size x+_+_;omega
theorem qyJ (p:Pw) (t:T) (h1:size p.1≤1000000000) (h2:size t≤1000000000):Ev (λ m _=>QE m p t) (qp p.1 t):=by
 refine Ev.succ ?_
 simp only [qnK,qcw,qe]
 exact Ev.bind (qba _ h1 _ h2) (Ev.pure _)
noncomputable def qrB (l:List Pw) (t:T):Bool:=match l[Go.GxYtbpnmbmdbblehaaGreat.ixP l t]? with
 | some p=>ieq (qp p.1 t) 0
 | none=>false
theorem qIf {l:List Pw} (ha:qfB l) (t:T) (hs:szP l+size t≤100000000):∀ (d lo hi:Nat),hi≤lo+d→lo≤hi→hi≤l.length→(∀ k p,k<lo→l[k]? = some p→qp p.1 t=-1)→(∀ k p,hi≤k→l[k]? = some p→qp p.1 t≠-1) →
  Ev (λ m k=>qn m k l l.length lo hi t.kind t.name t.sort t.kids) ((Go.GxYtbpnmbmdbblehaaGreat.ixP l t:Int),qrB l t):=by
 have hl:=qbS l
 intro d
 induction d with
 | zero =>
   intro lo hi h1 h2 h3 h4 h5
   have:lo=hi:=by omega
   subst this
   have hix:=qEs l t lo h3 h4 (λ p hp=>h5 lo p (Nat.le_refl _) hp)
   subst hix
   refine Ev.loop ?_
   simp only [yd,qE,qe]
   rw [show T.mk t.kind t.name t.sort t.kids=t from qe t]
   refine Ev.cf (qv.2 (Int.le_refl _)) (Ev.ite (λ h=>?_) λ h=>?_)
   ·rw [qr] at h
    have hlt:Go.GxYtbpnmbmdbblehaaGreat.ixP l t<l.length:=by omega
    obtain ⟨p,hg⟩:∃ p,l[Go.GxYtbpnmbmdbblehaaGreat.ixP l t]? = some p:=⟨_,List.getElem?_eq_getElem hlt⟩
    have hm:=qeq (List.mem_of_getElem? hg)
    refine Ev.some (a:=p) (by rw [jt,hg]) (Ev.bind (qyJ (p.1,p.2) _ (Nat.le_trans hm (by omega)) (by omega)) (Ev.ret ?_))
    unfold qrB
    rw [hg]
   ·rw [qv] at h
    refine Ev.ret ?_
    unfold qrB
    rw [List.getElem?_eq_none (by omega)]
 | succ d ih =>
   intro lo hi h1 h2 h3 h4 h5
   by_cases he:lo=hi
   ·exact ih lo hi (by omega) h2 h3 h4 h5
   refine Ev.loop ?_
   simp only [yd,qE,qe]
   rw [show T.mk t.kind t.name t.sort t.kids=t from qe t,qKp lo hi (by omega)]
   have hm1:(lo+hi) / 2<hi:=by omega
   have hm2:lo≤(lo+hi) / 2:=by omega
   generalize (lo+hi) / 2=mid at *
   have hlt:mid<l.length:=by omega
   obtain ⟨p,hg⟩:∃ p,l[mid]? = some p:=⟨_,List.getElem?_eq_getElem hlt⟩
   have hm:=qeq (List.mem_of_getElem? hg)
   refine Ev.ct (qr.2 (by omega)) (Ev.some (a:=p) (by rw [jt,hg]) (Ev.bind (qyJ (p.1,p.2) _ (Nat.le_trans hm (by omega)) (by omega)) (Ev.ite (λ hc=>?_) λ hc=>?_)))
   ·rw [qr] at hc
    have hc:qp p.1 t<0:=hc
    have hc:qp p.1 t=-1:=by rcases zL.rng p.1 t with h | h | h<;>omega
    rw [show qf ((mid:Nat):Int) 1=((mid+1:Nat):Int) from by unfold qf;omega,jg (by omega)]
    refine ih (mid+1) hi (by omega) (by omega) h3 (λ k q hk hp=>?_) h5
    by_cases hkm:k=mid
    ·subst hkm;rw [hg] at hp;cases hp;exact hc
    ·exact zL.trans _ _ _ (qCe ha hp hg (by omega)) hc
   ·rw [qv] at hc
    have hc:0≤qp p.1 t:=hc
    refine ih lo mid (by omega) hm2 (by omega) h4 (λ k q hk hp=>?_)
    by_cases hkm:k=mid
    ·subst hkm;rw [hg] at hp;cases hp;omega
    ·intro hcp
     have:=zL.trans _ _ _ (qCe ha hg hp (by omega)) hcp
     omega
theorem qKy {l:List Pw} (ha:qfB l) (t:T) (hs:szP l+size t≤100000000):Ev (λ m _=>qy m l t) ((Go.GxYtbpnmbmdbblehaaGreat.ixP l t:Int),qrB l t):=by
 refine Ev.succ ?_
 simp only [Qm,qD]
 refine Ev.diag (L := λ m k=>qn m k l l.length 0 l.length t.kind t.name t.sort t.kids) ?_
 exact qIf ha t hs l.length 0 l.length (by omega) (Nat.zero_le _) (Nat.le_refl _) (λ k p hk=>by omega) (λ k p hk hp=>by rw [List.getElem?_eq_none hk] at hp;cases hp)
theorem qrZ {l:List Pw} (ha:qfB l) (t:T) (n:Int) (hs:szP l+size t≤90000000) (hlen:l.length≤90000) (hn:Qi l+n.natAbs≤1000000000000):Ev (λ m _=>JC m l (t,n)) ((),yn l t n,()):=by
 have hl:=qbS l
 have hix:=qFd l t
 refine Ev.succ ?_
 simp only [qpW,qd2,qe]
 refine Ev.bind (qKy ha t (by omega)) (Ev.ite (λ h=>?_) λ h=>?_)
 ·rw [bnt] at h
  refine Ev.bind (qkk t (by omega)) ?_
  have hI:zo 0 l (Go.GxYtbpnmbmdbblehaaGreat.ixP l t:Int) [(re t,n)]=some ((),yn l t n,()):=by
   unfold zo
   rw [show inb (Go.GxYtbpnmbmdbblehaaGreat.ixP l t:Int) l.length=true from by unfold inb;rw [decide_eq_true_iff];omega,show Nat.ble l.length 100000=true from Nat.ble_eq_true_of_le (by omega)]
   rw [qzj l t n λ p hp hc=>by
    unfold qrB at h
    simp only [hp] at h
    rw [qh] at h
    exact h hc]
   rw [Int.toNat_natCast,qe,List.append_assoc];rfl
  rw [qe] at hI
  refine Ev.some hI (Ev.pure _)
 ·rw [bnf] at h
  cases hg:l[Go.GxYtbpnmbmdbblehaaGreat.ixP l t]? with
  | none=>unfold qrB at h;simp only [hg] at h;cases h
  | some p =>
    obtain ⟨x,k⟩:=p
    have hc:qp x t=0:=by
     unfold qrB at h
     simp only [hg] at h
     exact qj.1 h
    have hm:=qzZ l _ (List.mem_of_getElem? hg)
    have hlt:Go.GxYtbpnmbmdbblehaaGreat.ixP l t<l.length:=(List.getElem?_eq_some_iff.1 hg).1
    simp only at hm
    have e1:iw .i64 (qf k n)=k+n:=by
     unfold qf
     exact jg (by omega)
    have gset:qd (jW l (Go.GxYtbpnmbmdbblehaaGreat.ixP l t:Int) (x,k+n)) (Go.GxYtbpnmbmdbblehaaGreat.ixP l t:Int)=some (x,k+n):=by
     rw [qdu,jt,List.getElem?_set_self hlt]
    have hsplit:l.set (Go.GxYtbpnmbmdbblehaaGreat.ixP l t) (x,k+n)=l.take (Go.GxYtbpnmbmdbblehaaGreat.ixP l t)++[(x,k+n)]++l.drop (Go.GxYtbpnmbmdbblehaaGreat.ixP l t+1):=by
     rw [List.set_eq_take_append_cons_drop,if_pos hlt,List.append_assoc];rfl
    refine Ev.some (by rw [jt,hg]) (Ev.some (by rw [jt,hg]) ?_)
    simp only [qe,e1]
    refine Ev.some gset ?_
    rw [qB7 l t n x k hg hc]
    refine Ev.ite (λ hz=>?_) λ hz=>?_
    ·rw [qj] at hz
     rw [if_pos hz]
     have hD:zp 0 (jW l (Go.GxYtbpnmbmdbblehaaGreat.ixP l t:Int) (x,k+n)) (Go.GxYtbpnmbmdbblehaaGreat.ixP l t:Int) (iw .i64 (qf (Go.GxYtbpnmbmdbblehaaGreat.ixP l t:Int) 1))=some ((),l.take (Go.GxYtbpnmbmdbblehaaGreat.ixP l t)++l.drop (Go.GxYtbpnmbmdbblehaaGreat.ixP l t+1),()):=by
      rw [show qf (Go.GxYtbpnmbmdbblehaaGreat.ixP l t:Int) 1=((Go.GxYtbpnmbmdbblehaaGreat.ixP l t+1:Nat):Int) from by unfold qf;omega,jg (by omega),qdu]
      unfold zp
      rw [List.length_set,show inb ((Go.GxYtbpnmbmdbblehaaGreat.ixP l t+1:Nat):Int) l.length=true from by unfold inb;rw [decide_eq_true_iff];omega,show inb (Go.GxYtbpnmbmdbblehaaGreat.ixP l t:Int) l.length=true from by unfold inb;rw [decide_eq_true_iff];omega,
       show ieq ((Go.GxYtbpnmbmdbblehaaGreat.ixP l t+1:Nat):Int) (qf (Go.GxYtbpnmbmdbblehaaGreat.ixP l t:Int) 1)=true from qj.2 (by unfold qf;omega),show Nat.ble l.length 100000=true from Nat.ble_eq_true_of_le (by omega)]
      rw [Int.toNat_natCast,List.take_set_of_le (Nat.le_refl _),List.drop_set_of_lt (by omega)];rfl
     exact Ev.some hD (Ev.pure _)
    ·rw [qh] at hz
     rw [if_neg hz]
     refine Ev.ret ?_
     rw [qdu,hsplit]
end Go.AmYtbpnmbmdbblehaaGreat
namespace Go.GxYtbpnmbmdbblehaaGreat
open Go.RowKit
theorem qyk (q:Option T) (p:Pw):pvK q p=if qs p.1≠0 then qs p.1 else if qcb p.1 then 1 else if p.2=0∨p.2 < -1000∨1000<p.2 then 7 else match q with | some x=>if 0≤qp x p.1 then 5 else 0 | none=>0:=rfl
theorem qyV:∀ (l:List Pw) (q:Option T),pvL q l=0→qfB l∧(∀ p∈l,p.2≠0∧p.2.natAbs≤1000)∧(∀ x,q=some x→∀ p∈l,qp x p.1=-1)∧(∀ p∈l,qs p.1=0∧qcb p.1=false)
 | [],q,_=>⟨List.Pairwise.nil,(λ _ h=>by cases h),(λ _ _ _ h=>by cases h),(λ _ h=>by cases h)⟩
 | p::l,q,h=>by
   rw [pvL] at h
   unfold thn at h
   split at h
   rotate_left
   ·rename_i h1;exact absurd h h1
   ·rename_i h1
    have hk:=qyk q p
    obtain ⟨i1,i2,i3,i4⟩:=qyV l (some p.1) h
    rw [hk] at h1
    split at h1
    ·rename_i h2;exact absurd h1 h2
    rename_i h2
    split at h1
    ·cases h1
    rename_i h3
    split at h1
    ·cases h1
    rename_i h4
    have hq:∀ x,q=some x→qp x p.1=-1 := λ x hx=>by
     subst hx
     simp only at h1
     split at h1
     ·cases h1
     ·rename_i h5
      rcases zL.rng x p.1 with h | h | h<;>omega
    refine ⟨qfY.2 ⟨λ r hr=>i3 _ rfl r hr,i1⟩,λ r hr=>?_,λ x hx r hr=>?_,λ r hr=>?_⟩
    ·rcases List.mem_cons.1 hr with rfl | hr
     ·omega
     ·exact i2 r hr
    ·rcases List.mem_cons.1 hr with rfl | hr
     ·exact hq x hx
     ·exact qeb (hq x hx) (by have:=i3 _ rfl r hr;omega)
    ·rcases List.mem_cons.1 hr with rfl | hr
     ·exact ⟨by omega,by simpa using h3⟩
     ·exact i4 r hr
theorem qaT {l:List Pw} (h:QM l=0):Jn l∧l.length≤200∧(∀ p∈l,p.2.natAbs≤1000)∧(∀ p∈l,qs p.1=0∧qcb p.1=false):=by
 unfold QM at h
 split at h
 ·cases h
 ·obtain ⟨i1,i2,-,i4⟩:=qyV l none h
  exact ⟨⟨i1,λ p hp=>(i2 p hp).1⟩,by omega,λ p hp=>(i2 p hp).2,i4⟩
theorem qlV (k:Nat):∀ (l:List Pw),(∀ p∈l,p.2.natAbs≤k)→Qi l≤l.length*k
 | [],_=>by simp [Qi]
 | p::l,h=>by
   have h1:=qlV k l λ q hq=>h q (List.mem_cons_of_mem _ hq)
   have h2:=h p (List.mem_cons_self ..)
   have e:Qi (p::l)=p.2.natAbs+Qi l:=rfl
   rw [e,List.length_cons,Nat.add_mul];omega
theorem qqx:∀ (b a:List Pw) (p:Pw),p∈QC a b→(∃ q∈a,q.1=p.1)∨∃ q∈b,q.1=p.1
 | [],a,p,h => .inl ⟨p,h,rfl⟩
 | r::b,a,p,h=>by
   rcases qqx b (yn a r.1 r.2) p h with ⟨q,hq,e⟩ | ⟨q,hq,e⟩
   ·rcases qmD a r.1 r.2 q hq with h1 | h1
    ·exact .inr ⟨r,List.mem_cons_self ..,by rw [← h1];exact e⟩
    ·exact .inl ⟨q,h1,e⟩
   ·exact .inr ⟨q,List.mem_cons_of_mem _ hq,e⟩
theorem qvP (a b:List Pw) (p:Pw):QC a (b++[p])=yn (QC a b) p.1 p.2:=by unfold QC;rw [List.foldl_append];rfl
theorem qCW {a b:List Pw} (ha:QM a=0) (hb:QM b=0) (S:Nat) (hsa:∀ p∈a,size p.1≤S) (hsb:∀ p∈b,size p.1≤S) (j:Nat) :
  qfB (QC a (b.take j))∧(QC a (b.take j)).length≤400∧(∀ p∈QC a (b.take j),p.2.natAbs≤1000000)∧(∀ p∈QC a (b.take j),size p.1≤S):=by
 obtain ⟨g1,l1,k1,-⟩:=qaT ha
 obtain ⟨g2,l2,k2,-⟩:=qaT hb
 have hm:∀ p∈b.take j,p∈b := λ p hp=>List.mem_of_mem_take hp
 have hg:=qoV (b.take j) a g1 λ p hp=>g2.2 p (hm p hp)
 obtain ⟨h1,h2⟩:=qru (b.take j) a
 have h3:=qlV 1000 a k1
 have h4:=qlV 1000 (b.take j) λ p hp=>k2 p (hm p hp)
 have h5:(b.take j).length≤200:=by rw [List.length_take];omega
 refine ⟨hg.1,by omega,λ p hp=>?_,λ p hp=>?_⟩
 ·have:=qzZ _ p hp
  omega
 ·rcases qqx _ _ p hp with ⟨q,hq,e⟩ | ⟨q,hq,e⟩
  ·rw [← e];exact hsa q hq
  ·rw [← e];exact hsb q (hm q hq)
end Go.GxYtbpnmbmdbblehaaGreat
namespace Go.AmYtbpnmbmdbblehaaGreat
open Go Go.GxYtbpnmbmdbblehaaGreat
theorem jY {t:T} (h:qs t=0):size t≤400:=by
 unfold qs at h
 split at h
 ·rename_i h1;exact absurd h h1
 ·split at h
  ·cases h
  ·omega
theorem qpH {t:T}:qcb t=true↔t.kind=3∧(t.name=qeN∨t.name=Qh∨t.name=qgN):=by
 unfold qcb
 simp only [Bool.and_eq_true,Bool.or_eq_true,beq_iff_eq]
 constructor
 ·rintro ⟨h,(h1 | h1) | h1⟩
  ·exact ⟨h,.inl h1⟩
  ·exact ⟨h,.inr (.inl h1)⟩
  ·exact ⟨h,.inr (.inr h1)⟩
 ·rintro ⟨h,h1 | h1 | h1⟩
  ·exact ⟨h,.inl (.inl h1)⟩
  ·exact ⟨h,.inl (.inr h1)⟩
  ·exact ⟨h,.inr h1⟩
theorem qCl (t:T):∀ (l:List Pw) (n:Int),szP (y8 t l n)≤szP l+size t:=by
 refine T.ind (P := λ t=>∀ (l:List Pw) (n:Int),szP (y8 t l n)≤szP l+size t) ?_ t
 intro t ih l n
 rw [qfV]
 have hz:=qG t
 split
 ·have:∀ (fs:List T),(∀ k∈fs,k∈t.kids)→∀ l,szP ((fs.map y8).foldl (λ l f=>f l (qaq t n)) l)≤szP l+(fs.map size).sum:=by
    intro fs
    induction fs with
    | nil=>intro _ l;simp
    | cons k fs ihf =>
      intro hf l
      have h1:=ih k (hf k (List.mem_cons_self ..)) l (qaq t n)
      have h2:=ihf (λ k hk=>hf k (List.mem_cons_of_mem _ hk)) (y8 k l (qaq t n))
      simp only [List.map_cons,List.foldl_cons,List.sum_cons] at h2 ⊢
      omega
  have:=this t.kids (λ _ h=>h) l
  omega
 ·exact qBV l t n
noncomputable def qeH (ks:List T) (sg:Int) (l:List Pw) (i:Nat):List Pw:=((ks.take i).map y8).foldl (λ l f=>f l sg) l
theorem qwe {ks:List T} {i:Nat} {x:T} (h:ks[i]? = some x) (sg:Int) (l:List Pw):qeH ks sg l (i+1)=y8 x (qeH ks sg l i) sg:=by
 unfold qeH
 rw [List.take_add_one,h,List.map_append,List.foldl_append];rfl
theorem qmz (sg:Int) (hsg:sg≠0):∀ (ks:List T) (l:List Pw),Jn l→Jn ((ks.map y8).foldl (λ l f=>f l sg) l)∧szP ((ks.map y8).foldl (λ l f=>f l sg) l)≤szP l+szL ks ∧
  Qi ((ks.map y8).foldl (λ l f=>f l sg) l)≤Qi l+szL ks*sg.natAbs∧((ks.map y8).foldl (λ l f=>f l sg) l).length≤l.length+szL ks
 | [],l,h=>⟨h,by simp,by simp,by simp⟩
 | k::ks,l,h=>by
   obtain ⟨i1,i2,i3,i4⟩:=qmz sg hsg ks (y8 k l sg) (qFL k l sg hsg h)
   have h1:=qCl k l sg
   obtain ⟨h2,h3⟩:=qGs k l sg
   rw [List.map_cons,List.foldl_cons,qK,Nat.add_mul]
   exact ⟨i1,by omega,by omega,by omega⟩
noncomputable def qj9 (t:T) (l:List Pw) (n:Int):Unit × List Pw × Bool × Unit:=((),if arT t then y8 t l n else [],arT t,())
theorem qDj (t:T):∀ (l:List Pw) (n:Int),n≠0→Jn l→szP l+size t≤80000→Qi l+size t*n.natAbs≤100000000000→Ev (λ m _=>za m l t n) (qj9 t l n):=by
 induction t using T.ind with
 | h t ih =>
   intro l n hn hg hs hb
   have hl:=yM t
   have hz:=qG t
   have hll:=qbS l
   refine Ev.succ ?_
   simp only [qoA,qax,qe]
   refine Ev.bind (qBW t) (Ev.ite (λ h=>?_) λ h=>?_)
   ·rw [bnt] at h
    have hmul:n.natAbs≤size t*n.natAbs:=Nat.le_mul_of_pos_left _ (size_pos t)
    refine Ev.bind (qrZ hg.1 t n (by omega) (by omega) (by omega)) (Ev.ret ?_)
    unfold qj9
    rw [qti,qfV,h];rfl
   rw [bnf] at h
   obtain ⟨h3,hname⟩:=qpH.1 h
   have har:arT t=(arK t&&(t.kids.map arT).all id):=by rw [qti,h];rfl
   have loop:∀ sg:Int,sg≠0→sg.natAbs=n.natAbs→qaq t n=sg→arK t=true→Ev (λ m _=>yW m (za m) m sg t.kids t.kids.length 0 l) (qj9 t l n):=by
    intro sg hsg hab hsn hk
    have hcol:y8 t l n=qeH t.kids sg l t.kids.length:=by rw [qfV,h,if_pos rfl,hsn];unfold qeH;rw [List.take_length]
    have key:=qt (P := λ i=>(∀ k∈t.kids.take i,arT k=true)→Ev (λ m k=>yW m (za m) k sg t.kids t.kids.length i (qeH t.kids sg l i)) (qj9 t l n)) t.kids (by omega)
     (λ hc ha=>by
      refine Ev.loop ?_
      simp only [qg1,qav]
      refine Ev.cf hc (Ev.ret ?_)
      unfold qj9
      have:arT t=true:=by
       rw [har,hk,Bool.true_and,List.all_eq_true]
       intro b hb
       obtain ⟨k,hk1,rfl⟩:=List.mem_map.1 hb
       rw [List.take_length] at ha
       exact ha k hk1
      rw [this,if_pos rfl,hcol])
     (λ i x hx hd hc hgt hi hP ha=>by
      refine Ev.loop ?_
      simp only [qg1,qav,qe]
      have hm:=List.mem_of_getElem? hx
      have h1:=yO t x hm
      obtain ⟨f1,f2,f3,f4⟩:=qmz sg hsg (t.kids.take i) l hg
      have h5:=jQ hx
      have h6:szL t.kids+1=size t:=by unfold szL;omega
      have h7:szL (t.kids.take i)*sg.natAbs+size x*sg.natAbs≤size t*n.natAbs:=by
       rw [← Nat.add_mul,hab]
       exact Nat.mul_le_mul_right _ (by omega)
      refine Ev.ct hc (Ev.some hgt (Ev.bind (ih x hm (qeH t.kids sg l i) sg hsg f1 (by unfold qeH;omega) (by unfold qeH;omega)) (Ev.ite (λ hb1=>?_) λ hb1=>?_)))
      ·rw [bnt] at hb1
       have hb1:arT x=false:=hb1
       refine Ev.ret ?_
       unfold qj9
       have:arT t=false:=by
        rw [har,hk,Bool.true_and,← Bool.not_eq_true,List.all_eq_true]
        intro hall
        have:=hall (arT x) (List.mem_map_of_mem hm)
        rw [hb1] at this;cases this
       rw [this];rfl
      ·rw [bnf] at hb1
       have hb1:arT x=true:=hb1
       have hP:=hP λ k hk'=>by
        rw [List.take_add_one,hx] at hk'
        rcases List.mem_append.1 hk' with hk' | hk'
        ·exact ha k hk'
        ·rw [show k=x from by simpa using hk'];exact hb1
       rw [hi]
       refine hP.congr λ m k=>?_
       unfold qj9
       rw [qwe hx,hb1];rfl)
    refine Ev.diag (L := λ m k=>yW m (za m) k sg t.kids t.kids.length 0 l) ?_
    exact (key 0 (Nat.zero_le _)) (λ k hk=>by rw [List.take_zero] at hk;cases hk)
   have bad:arK t=false→Ev (λ _ _=>some ((),[],false,())) (qj9 t l n) := λ hk=>by
    refine Ev.ret ?_
    unfold qj9
    rw [har,hk];rfl
   have hneg:iw .i64 (QK 0 n)=-n:=by
    have hmul:n.natAbs≤size t*n.natAbs:=Nat.le_mul_of_pos_left _ (size_pos t)
    unfold QK
    rw [jg (by omega)];omega
   rcases hname with hn1 | hn1 | hn1
   ·refine Ev.cf (by rw [hn1];rfl) (Ev.cf (by rw [hn1];rfl) (Ev.ct (by rw [hn1];rfl) (Ev.ite (λ hk=>?_) λ hk=>?_)))
    ·rw [qr] at hk
     exact bad (by unfold arK;rw [hn1,decide_eq_true (show t.kids.length<2 by omega)];rfl)
    ·rw [qv] at hk
     exact Ev.cf (by rw [hn1];rfl) (loop n hn rfl (by unfold qaq;rw [hn1];rfl) (by unfold arK;rw [hn1,decide_eq_false (show ¬ t.kids.length<2 by omega)];rfl))
   ·refine Ev.cf (by rw [hn1];rfl) (Ev.ct (by rw [hn1];rfl) (Ev.ite (λ hk=>?_) λ hk=>?_))
    ·rw [bnt,qh] at hk
     exact bad (by unfold arK;rw [hn1,show (t.kids.length != 1)=true from by rw [bne_iff_ne];omega];rfl)
    ·rw [bnf,qj] at hk
     rw [hneg]
     exact Ev.cf (by rw [hn1];rfl) (Ev.ct (by rw [hn1];rfl) (loop (-n) (by omega) (by omega) (by unfold qaq;rw [if_pos hn1]) (by unfold arK;rw [hn1,show (t.kids.length != 1)=false from by rw [bne_eq_false_iff_eq];omega];rfl)))
   ·refine Ev.ct (by rw [hn1];rfl) (Ev.ite (λ hk=>?_) λ hk=>?_)
    ·rw [bnt,qh] at hk
     exact bad (by unfold arK;rw [hn1,show (t.kids.length != 0)=true from by rw [bne_iff_ne];omega];rfl)
    ·rw [bnf,qj] at hk
     exact Ev.cf (by rw [hn1];rfl) (Ev.cf (by rw [hn1];rfl) (Ev.cf (by rw [hn1];rfl) (loop n hn rfl (by unfold qaq;rw [hn1];rfl) (by unfold arK;rw [hn1,show (t.kids.length != 0)=false from by rw [bne_eq_false_iff_eq];omega];rfl))))
theorem qxV (t:T) (hs:size t≤1000000000):Ev (λ m _=>J6 m t) (ofP t):=by
 refine Ev.succ ?_
 simp only [qwW,qhg,qe]
 unfold ofP
 refine Ev.bind (Ju t hs) (Ev.ite (λ h=>?_) λ h=>?_)
 ·rw [bnt,qh] at h
  rw [if_pos h];exact Ev.pure _
 ·rw [bnf,qj] at h
  have hz:=jY h
  rw [if_neg (by omega)]
  refine Ev.bind (qDj t [] 1 (by decide) Jn.nil (by show 0+_≤_;omega) (by show 0+size t*1≤_;omega)) (Ev.ite (λ h1=>?_) λ h1=>?_)
  ·rw [bnt] at h1
   have h1:arT t=false:=h1
   rw [if_pos h1];exact Ev.pure _
  ·rw [bnf] at h1
   have h1:arT t=true:=h1
   rw [if_neg (by rw [h1];decide)]
   have e:(qj9 t [] 1).2.1=y8 t [] 1:=by unfold qj9;rw [h1];rfl
   rw [e]
   refine Ev.ite (λ h2=>?_) λ h2=>?_
   ·rw [qr] at h2
    rw [if_pos (by omega)];exact Ev.pure _
   ·rw [qv] at h2
    rw [if_neg (by omega)];exact Ev.pure _
noncomputable def qdi (l:List Pw) (i:Nat):Option T:=if i=0 then none else (l[i-1]?).map (·.1)
theorem qiR {l:List Pw} {i:Nat} {p:Pw} (h:l[i]? = some p):qdi l (i+1)=some p.1:=by
 unfold qdi
 rw [if_neg (by omega),Nat.add_sub_cancel,h];rfl
theorem qn0 (l:List Pw) (hs:szP l≤1000000000):Ev (λ m _=>Jc m l) (QM l):=by
 have hl:=qbS l
 refine Ev.succ ?_
 simp only [qqr,qbr]
 unfold QM
 refine Ev.ite (λ h=>?_) λ h=>?_
 ·rw [qr] at h
  rw [if_pos (by omega)];exact Ev.pure _
 rw [qv] at h
 rw [if_neg (by omega)]
 have key:=qt (P := λ i=>Ev (λ m k=>jo m k l l l.length i) (pvL (qdi l i) (l.drop i))) l (by omega)
  (λ hc=>by
   refine Ev.loop ?_
   simp only [qiv,qbv]
   refine Ev.cf hc (Ev.ret ?_)
   rw [List.drop_length];rfl)
  (λ i x hx hd hc hg hi hP=>by
   refine Ev.loop ?_
   simp only [qiv,qbv,qe]
   have h1:=qeq (List.mem_of_getElem? hx)
   rw [qiR hx] at hP
   rw [hd,pvL]
   have hk:=qyk (qdi l i) x
   have bad:∀ e:Int,pvK (qdi l i) x=e→e≠0→Ev (λ _ _=>some e) (thn (pvK (qdi l i) x) (pvL (some x.1) (l.drop (i+1)))) := λ e he h0=>by
    rw [he]
    exact Ev.ret (by unfold thn;rw [if_neg h0])
   have good:pvK (qdi l i) x=0→Ev (λ m k=>jo m k l l l.length ((i+1:Nat):Int)) (thn (pvK (qdi l i) x) (pvL (some x.1) (l.drop (i+1)))) := λ he=>by
    rw [he]
    exact hP.res (by unfold thn;rw [if_pos rfl])
   refine Ev.ct hc (Ev.some hg (Ev.bind (Ju x.1 (by omega)) (Ev.ite (λ hv=>?_) λ hv=>?_)))
   ·rw [bnt,qh] at hv
    exact bad _ (by rw [hk,if_pos hv]) hv
   rw [bnf,qj] at hv
   rw [if_neg (by omega)] at hk
   refine Ev.bind (qBW x.1) (Ev.ite (λ hv2=>?_) λ hv2=>?_)
   ·exact bad 1 (by rw [hk,if_pos hv2]) (by decide)
   rw [if_neg (by rw [hv2];decide)] at hk
   refine Ev.ite (λ hz=>?_) λ hz=>?_
   ·rw [qj] at hz
    exact bad 7 (by rw [hk,if_pos (by omega)]) (by decide)
   rw [qh] at hz
   refine Ev.ite (λ hz2=>?_) λ hz2=>?_
   ·rw [qr] at hz2
    exact bad 7 (by rw [hk,if_pos (by omega)]) (by decide)
   rw [qv] at hz2
   refine Ev.ite (λ hz3=>?_) λ hz3=>?_
   ·rw [qr] at hz3
    exact bad 7 (by rw [hk,if_pos (by omega)]) (by decide)
   rw [qv] at hz3
   rw [if_neg (by omega)] at hk
   rw [hi]
   refine Ev.ite (λ h0=>?_) λ h0=>?_
   ·rw [qr] at h0
    obtain ⟨j,rfl⟩:∃ j,i=j+1:=⟨i-1,by omega⟩
    have hlt:j<l.length:=by have:=(List.getElem?_eq_some_iff.1 hx).1;omega
    obtain ⟨q,hq⟩:∃ q,l[j]? = some q:=⟨_,List.getElem?_eq_getElem hlt⟩
    have h2:=qeq (List.mem_of_getElem? hq)
    rw [qiR hq] at hk bad good ⊢
    simp only at hk
    refine Ev.some (a:=q) (by rw [show QK ((j+1:Nat):Int) 1=((j:Nat):Int) from by unfold QK;omega,jg (by omega),jt,hq]) (Ev.bind (qba q.1 (by omega) x.1 (by omega)) (Ev.ite (λ hc2=>?_) λ hc2=>?_))
    ·rw [qcf] at hc2
     exact bad 5 (by rw [hk,if_pos hc2]) (by decide)
    ·rw [qiW] at hc2
     exact good (by rw [hk,if_neg (by omega)])
   ·rw [qv] at h0
    have:i=0:=by omega
    subst this
    exact good (by rw [hk];rfl))
 refine Ev.diag (L := λ m k=>jo m k l l l.length 0) ?_
 exact key 0 (Nat.zero_le _)
end Go.AmYtbpnmbmdbblehaaGreat
namespace Go.AmYtbpnmbmdbblehaaGreat
open Go Go.GxYtbpnmbmdbblehaaGreat
theorem zV {α : Type} {l:List α} {i:Nat} {x : α} (h:l[i]? = some x):l.take (i+1)=l.take i++[x]:=by rw [List.take_add_one,h];rfl
theorem qqM (a b:List Pw):zN (a++b)=zN a++zN b:=by unfold zN;rw [List.flatMap_append]
theorem qrh (a b:List Pw):zU (a++b)=zU a++zU b:=by unfold zU;rw [List.flatMap_append]
theorem qqw (p:Pw):zN [p]=List.replicate p.2.toNat p.1:=by unfold zN;simp
theorem qqW (p:Pw):zU [p]=List.replicate (-p.2).toNat (apT Qh [p.1]):=by unfold zU;simp
theorem qBJ (n:Nat) (x:T):szL (List.replicate n x)=n*size x:=by
 induction n with
 | zero=>simp [szL]
 | succ n ih=>rw [List.replicate_succ,qK,ih,Nat.add_mul];omega
theorem qAf (t:T):size (apT Qh [t])=1+size t:=by rw [qG];show 1+(size t+0)=_;omega
theorem qnb {P:Nat→Prop} (N:Int) (hN:N≤1000000) (hend:P N.toNat) (hstep:∀ j:Nat,(j:Int)<N→iw .i64 (qf (j:Int) 1)=((j+1:Nat):Int)→P (j+1)→P j):∀ j:Nat,j≤N.toNat→P j:=by
 intro j hj
 obtain ⟨d,hd⟩:∃ d,N.toNat=j+d:=⟨N.toNat-j,by omega⟩
 induction d generalizing j with
 | zero =>
   have:j=N.toNat:=by omega
   subst this;exact hend
 | succ d ih =>
   refine hstep j (by omega) ?_ (ih (j+1) (by omega) (by omega))
   unfold qf
   rw [jg (by omega)];omega
theorem qJe {l:List Pw} {p:Pw} (hp:p∈l) (h:8<p.2):8<(zN l++zU l).length:=by
 have:(List.replicate p.2.toNat p.1).length≤(zN l).length:=Nat.le_trans (List.sublist_flatten_of_mem (List.mem_map_of_mem (f := λ p:Pw=>List.replicate p.2.toNat p.1) hp)).length_le (by unfold zN;rw [List.flatMap_def];exact Nat.le_refl _)
 rw [List.length_replicate] at this
 rw [List.length_append];omega
theorem qIh {l:List Pw} {p:Pw} (hp:p∈l) (h:p.2 < -8):8<(zN l++zU l).length:=by
 have:(List.replicate (-p.2).toNat (apT Qh [p.1])).length≤(zU l).length:=Nat.le_trans (List.sublist_flatten_of_mem (List.mem_map_of_mem (f := λ p:Pw=>List.replicate (-p.2).toNat (apT Qh [p.1])) hp)).length_le (by unfold zU;rw [List.flatMap_def];exact Nat.le_refl _)
 rw [List.length_replicate] at this
 rw [List.length_append];omega
theorem qBR (o:List T):size (Jp o)≤1+szL o:=by
 unfold Jp
 split
 ·rw [qG];show 1+0≤_;omega
 ·split
  ·rename_i _ h1l
   have:o.getD 0 zT∈o:=by
    cases o with
    | nil=>cases h1l
    | cons x r=>exact List.mem_cons_self ..
   have:=qbN this;omega
  ·rw [qG];exact Nat.le_refl _
theorem qod {l:List Pw} (hsz:∀ p∈l,size p.1≤400):∀ (ks:List Pw),(∀ p∈ks,p∈l∧-8≤p.2∧p.2≤8)→(zN ks).length≤8*ks.length∧(zU ks).length≤8*ks.length∧szL (zN ks)≤3200*ks.length∧szL (zU ks)≤3208*ks.length
 | [],_=>⟨Nat.le_refl _,Nat.le_refl _,Nat.le_refl _,Nat.le_refl _⟩
 | p::ks,h=>by
   obtain ⟨i1,i2,i3,i4⟩:=qod hsz ks λ q hq=>h q (List.mem_cons_of_mem _ hq)
   obtain ⟨h1,h2,h3⟩:=h p (List.mem_cons_self ..)
   have h4:=hsz p h1
   have e1:zN (p::ks)=List.replicate p.2.toNat p.1++zN ks:=by rw [show p::ks=[p]++ks from rfl,qqM,qqw]
   have e2:zU (p::ks)=List.replicate (-p.2).toNat (apT Qh [p.1])++zU ks:=by rw [show p::ks=[p]++ks from rfl,qrh,qqW]
   have m1:p.2.toNat*size p.1≤8*400:=Nat.mul_le_mul (by omega) h4
   have m2:(-p.2).toNat*(1+size p.1)≤8*401:=Nat.mul_le_mul (by omega) (by omega)
   rw [e1,e2,qhx,qhx,qBJ,qBJ,qAf]
   simp only [List.length_append,List.length_replicate,List.length_cons]
   refine ⟨by omega,by omega,by omega,by omega⟩
noncomputable def qk4 (o:List T):T × Int:=if 8<o.length then (zT,3) else if qs (Jp o)≠0 then (zT,qs (Jp o)) else (Jp o,0)
theorem qoa {l:List Pw} (h:QM l=0):qaw l=qk4 (zN l++zU l):=by
 unfold qaw qk4
 rw [if_neg (by omega)]
theorem qzM (l:List Pw) (hs:szP l≤1000000000):Ev (λ m _=>jM m l) (qaw l):=by
 refine Ev.succ ?_
 simp only [qtp,qcv]
 refine Ev.bind (qn0 l hs) (Ev.ite (λ h=>?_) λ h=>?_)
 ·rw [bnt,qh] at h
  unfold qaw
  rw [if_pos h];exact Ev.pure _
 rw [bnf,qj] at h
 obtain ⟨_,hlen,hN,hV⟩:=qaT h
 have hsz:∀ p∈l,size p.1≤400 := λ p hp=>jY (hV p hp).1
 rw [qoa h]
 have key:=qt (P := λ i=>(∀ p∈l.take i,p∈l∧-8≤p.2∧p.2≤8)→Ev (λ m k=>(qw m k).1 l l.length i 0 [] 0 [] (zN (l.take i)) (zU (l.take i))) (qk4 (zN l++zU l))) l (by omega)
  (λ hc hb=>by
   refine Ev.loop ?_
   simp only [qjZ,qb4,qe]
   rw [List.take_length] at hb ⊢
   obtain ⟨b1,b2,b3,b4⟩:=qod hsz l hb
   refine Ev.cf hc (Ev.bind (qtM (zN l) (zU l) (by omega)) ?_)
   have ho:szL (zN l++zU l)≤10000000:=by rw [qhx];omega
   generalize zN l++zU l=o at *
   have hol:=ji o
   have hoz:=qBR o
   unfold qk4
   refine Ev.ite (λ h8=>?_) λ h8=>?_
   ·rw [qr] at h8
    rw [if_pos (by omega)];exact Ev.pure _
   rw [qv] at h8
   rw [if_neg (by omega)]
   have fin:∀ u:T,u=Jp o→Ev (λ m _=>qa (zy m u) λ v=>cond (qc (ieq v 0)) (some (T.mk 0 [] 0 [],v)) (some (u,0))) (if qs (Jp o)≠0 then (zT,qs (Jp o)) else (Jp o,0)):=by
    intro u hu
    subst hu
    refine Ev.bind (Ju _ (by omega)) (Ev.ite (λ h=>?_) λ h=>?_)
    ·rw [bnt,qh] at h
     rw [if_pos h];exact Ev.pure _
    ·rw [bnf,qj] at h
     rw [if_neg (by omega)];exact Ev.pure _
   have app:∀ (n:List UInt8) (x:List T),Ev (λ m _=>qbJ m n x) (apT n x) := λ n x=>Ev.succ (Ev.pure _)
   refine Ev.bind (app [109,117,108] o) (Ev.ite (λ h0=>?_) λ h0=>?_)
   ·rw [qj] at h0
    exact Ev.bind (app [111,110,101] []) (fin _ (by unfold Jp;rw [if_pos (by omega)];rfl))
   ·rw [qh] at h0
    refine Ev.ite (λ h1=>?_) λ h1=>?_
    ·rw [qj] at h1
     refine Ev.some (a:=o.getD 0 zT) ?_ (fin _ (by unfold Jp;rw [if_neg (by omega),if_pos (by omega)]))
     rw [Jo,List.getD_eq_getElem?_getD]
     cases o with
     | nil=>simp at h1
     | cons x r=>rfl
    ·rw [qh] at h1
     exact fin _ (by unfold Jp;rw [if_neg (by omega),if_neg (by omega)];rfl))
  (λ i p hx hd hc hg hi hP hb=>by
   refine Ev.loop ?_
   simp only [qjZ,qb4]
   have hm:=List.mem_of_getElem? hx
   have hn:=hN p hm
   have hz:=hsz p hm
   have hib:=(List.getElem?_eq_some_iff.1 hx).1
   refine Ev.ct hc (Ev.some hg (Ev.ite (λ h8=>?_) λ h8=>?_))
   ·rw [qr] at h8
    unfold qk4
    rw [if_pos (qJe hm h8)];exact Ev.pure _
   rw [qv] at h8
   refine Ev.ite (λ h9=>?_) λ h9=>?_
   ·rw [qr] at h9
    unfold qk4
    rw [if_pos (qIh hm h9)];exact Ev.pure _
   rw [qv] at h9
   obtain ⟨b1,b2,b3,b4⟩:=qod hsz _ hb
   have htl:(l.take i).length≤200:=by rw [List.length_take];omega
   have hP:=hP λ q hq=>by
    rw [zV hx] at hq
    rcases List.mem_append.1 hq with hq | hq
    ·exact hb q hq
    ·rw [show q=p from by simpa using hq];exact ⟨hm,h9,h8⟩
   rw [zV hx,qqM,qrh,qqw,qqW] at hP
   generalize zN (l.take i)=P0 at *
   generalize zU (l.take i)=N0 at *
   have k3:=qnb (P := λ j=>Ev (λ m k=>(qw m k).2.2 l l.length i (-p.2) j 0 [] 0 p.1.kind p.1.name p.1.sort p.1.kids p.2 [] (P0++List.replicate p.2.toNat p.1) (N0++List.replicate j (apT Qh [p.1]))) (qk4 (zN l++zU l))) (-p.2) (by omega)
    (by
     refine Ev.loop ?_
     simp only [qjG,qcp]
     refine Ev.cf (qv.2 (by omega)) ?_
     rw [hi]
     exact hP)
    (λ j hj hji hPj=>by
     refine Ev.loop ?_
     simp only [qjG,qcp,qe]
     rw [show T.mk p.1.kind p.1.name p.1.sort p.1.kids=p.1 from qe p.1,hji]
     refine Ev.ct (qr.2 hj) (Ev.bind (qkk p.1 (by omega)) (Ev.bind (a:=apT Qh [p.1]) (Ev.succ (Ev.pure _)) (Ev.ct (qS (by rw [List.length_append,List.length_replicate];omega) (by omega)) ?_)))
     refine hPj.congr λ m k=>?_
     rw [List.replicate_succ',List.append_assoc])
   have k2:=qnb (P := λ j=>Ev (λ m k=>(qw m k).2.1 l l.length i p.2 j 0 [] 0 p.1.kind p.1.name p.1.sort p.1.kids p.2 [] (P0++List.replicate j p.1) N0) (qk4 (zN l++zU l))) p.2 (by omega)
    (by
     refine Ev.loop ?_
     simp only [qjl,qch]
     refine Ev.cf (qv.2 (by omega)) ?_
     rw [show iw .i64 (QK 0 p.2)=-p.2 from by unfold QK;rw [jg (by omega)];omega]
     have:=k3 0 (Nat.zero_le _)
     rw [List.replicate_zero,List.append_nil] at this
     exact this)
    (λ j hj hji hPj=>by
     refine Ev.loop ?_
     simp only [qjl,qch,qe]
     rw [show T.mk p.1.kind p.1.name p.1.sort p.1.kids=p.1 from qe p.1,hji]
     refine Ev.ct (qr.2 hj) (Ev.bind (qkk p.1 (by omega)) (Ev.ct (qS (by rw [List.length_append,List.length_replicate];omega) (by omega)) ?_))
     refine hPj.congr λ m k=>?_
     rw [List.replicate_succ',List.append_assoc])
   have:=k2 0 (Nat.zero_le _)
   rw [List.replicate_zero,List.append_nil] at this
   exact this)
 refine Ev.diag (L := λ m k=>(qw m k).1 l l.length 0 0 [] 0 [] [] []) ?_
 exact (key 0 (Nat.zero_le _)) (λ p hp=>by rw [List.take_zero] at hp;cases hp)
theorem qIn (l:List Pw) (hs:szP l≤100000000):Ev (λ m _=>qa1 m l) ((),l,()):=by
 have hl:=qbS l
 refine Ev.succ ?_
 simp only [qpZ,qaL]
 have key:=qt (P := λ i=>Ev (λ m k=>jC m k l l.length i (l.take i)) ((),l,())) l (by omega)
  (λ hc=>by
   refine Ev.loop ?_
   simp only [qh6,qaW]
   refine Ev.cf hc ?_
   rw [List.take_length];exact Ev.pure _)
  (λ i p hx hd hc hg hi hP=>by
   refine Ev.loop ?_
   simp only [qh6,qaW,qe]
   have h1:=qeq (List.mem_of_getElem? hx)
   have h2:(l.take i).length≤l.length:=by rw [List.length_take];omega
   refine Ev.ct hc (Ev.some hg (Ev.bind (qkk p.1 (by omega)) (Ev.ct (qS (by omega) (by omega)) ?_)))
   rw [hi]
   refine hP.congr λ m k=>?_
   rw [zV hx])
 refine Ev.diag (L := λ m k=>jC m k l l.length 0 []) ?_
 exact key 0 (Nat.zero_le _)
theorem qvw (p:Pw) (l:List Pw):qk8 (p::l)=((decide (p.2 < -1000)||decide (1000<p.2))||qk8 l):=rfl
theorem qIM (l:List Pw) (hl:l.length≤1000000000):∃ v,Ev (λ m _=>qZ m l) v∧ile 0 v=qk8 l:=by
 have key:=qt (P := λ i=>∃ v,Ev (λ m k=>qx m k l l.length i) v∧ile 0 v=qk8 (l.drop i)) l (by omega)
  (λ hc=>by
   refine ⟨-1,Ev.loop ?_,by rw [List.drop_length];rfl⟩
   simp only [yf,qR]
   exact Ev.cf hc (Ev.pure _))
  (λ i p hx hd hc hg hi hP=>by
   obtain ⟨v,hv,hf⟩:=hP
   rw [hd,qvw]
   have hq:Ev (λ m _=>JN m (p.1,p.2)) (decide (p.2 < -1000)||decide (1000<p.2)):=by
    refine Ev.succ ?_
    simp only [qnP,qci]
    refine Ev.ite (λ h=>?_) λ h=>?_
    ·rw [qr] at h
     exact Ev.ret (by rw [decide_eq_true h];rfl)
    ·rw [qv] at h
     exact Ev.ret (by rw [decide_eq_false (show ¬ p.2 < -1000 by omega)];rfl)
   cases hb:decide (p.2 < -1000)||decide (1000<p.2) with
   | true =>
     refine ⟨i,Ev.loop ?_,by rw [Bool.true_or,qcf];omega⟩
     simp only [yf,qR,qe]
     exact Ev.ct hc (Ev.some hg (Ev.bind hq (Ev.ct hb (Ev.pure _))))
   | false =>
     refine ⟨v,Ev.loop ?_,by rw [Bool.false_or];exact hf⟩
     simp only [yf,qR,qe]
     refine Ev.ct hc (Ev.some hg (Ev.bind hq (Ev.cf hb ?_)))
     rw [hi];exact hv)
 obtain ⟨v,hv,hf⟩:=key 0 (Nat.zero_le _)
 refine ⟨v,Ev.succ ?_,by rw [hf,List.drop_zero]⟩
 simp only [qa2,zq]
 exact Ev.diag (L := λ m k=>qx m k l l.length 0) hv
noncomputable def qmp (l:List Pw):List Pw × Int:=if qk8 l then ([],7) else if 200<l.length then ([],3) else (l,0)
theorem qIb (l:List Pw) (hl:l.length≤1000000000):Ev (λ m _=>qaX m l) (qmp l):=by
 obtain ⟨v,hv,hf⟩:=qIM l hl
 refine Ev.succ ?_
 simp only [qpX,qdP]
 have hc:Ev (λ m _=>qT m l) (qk8 l):=by
  refine Ev.succ ?_
  simp only [qar,zP]
  exact Ev.bind hv (Ev.ret hf)
 unfold qmp
 refine Ev.bind hc (Ev.ite (λ h=>?_) λ h=>?_)
 ·rw [if_pos h];exact Ev.pure _
 ·rw [if_neg (by rw [h];decide)]
  refine Ev.ite (λ h2=>?_) λ h2=>?_
  ·rw [qr] at h2
   rw [if_pos (by omega)];exact Ev.pure _
  ·rw [qv] at h2
   rw [if_neg (by omega)];exact Ev.pure _
theorem qEb (S:Nat):∀ l:List Pw,(∀ p∈l,size p.1≤S)→szP l≤l.length*S
 | [],_=>by simp [szP]
 | p::l,h=>by
   have h1:=qEb S l λ q hq=>h q (List.mem_cons_of_mem _ hq)
   have h2:=h p (List.mem_cons_self ..)
   rw [qah,List.length_cons,Nat.add_mul];omega
theorem qty (a b:List Pw):qjq a b=if QM a≠0 then ([],QM a) else if QM b≠0 then ([],QM b) else qmp (QC a b):=rfl
theorem qf4 {a b:List Pw} (ha:QM a=0) (hb:QM b=0) (j:Nat) :
  Jn (QC a (b.take j))∧(QC a (b.take j)).length≤400∧szP (QC a (b.take j))≤160000∧Qi (QC a (b.take j))≤400000:=by
 obtain ⟨g1,l1,k1,v1⟩:=qaT ha
 obtain ⟨g2,l2,k2,v2⟩:=qaT hb
 have hm:∀ p∈b.take j,p∈b := λ p hp=>List.mem_of_mem_take hp
 obtain ⟨h1,h2,h3,h4⟩:=qCW ha hb 400 (λ p hp=>jY (v1 p hp).1) (λ p hp=>jY (v2 p hp).1) j
 have h5:=qEb 400 _ h4
 obtain ⟨h6,_⟩:=qru (b.take j) a
 have h7:=qlV 1000 a k1
 have h8:=qlV 1000 (b.take j) λ p hp=>k2 p (hm p hp)
 have h9:(b.take j).length≤200:=by rw [List.length_take];omega
 refine ⟨qoV _ _ g1 λ p hp=>g2.2 p (hm p hp),h2,Nat.le_trans h5 (Nat.mul_le_mul_right 400 h2),?_⟩
 have m1:a.length*1000≤200*1000:=Nat.mul_le_mul_right _ l1
 have m2:(b.take j).length*1000≤200*1000:=Nat.mul_le_mul_right _ h9
 omega
theorem qI1 (a b:List Pw) (ha:szP a≤100000000) (hb:szP b≤100000000):Ev (λ m _=>qdy m a b) (qjq a b):=by
 have hl:=qbS b
 refine Ev.succ ?_
 simp only [qvf,qcZ]
 rw [qty]
 refine Ev.bind (qn0 a (by omega)) (Ev.ite (λ h=>?_) λ h=>?_)
 ·rw [bnt,qh] at h
  rw [if_pos h];exact Ev.pure _
 rw [bnf,qj] at h
 rw [if_neg (by omega)]
 refine Ev.bind (qn0 b (by omega)) (Ev.ite (λ h2=>?_) λ h2=>?_)
 ·rw [bnt,qh] at h2
  rw [if_pos h2];exact Ev.pure _
 rw [bnf,qj] at h2
 rw [if_neg (by omega)]
 refine Ev.bind (qIn a ha) ?_
 have key:=qt (P := λ i=>Ev (λ m k=>QY m k b b.length i (QC a (b.take i))) (qmp (QC a b))) b (by omega)
  (λ hc=>by
   refine Ev.loop ?_
   simp only [qkw,qc3]
   rw [List.take_length]
   obtain ⟨_,b2,_,_⟩:=qf4 h h2 b.length
   rw [List.take_length] at b2
   exact Ev.cf hc (Ev.bind (qIb _ (by omega)) (Ev.pure _)))
  (λ i p hx hd hc hg hi hP=>by
   refine Ev.loop ?_
   simp only [qkw,qc3,qe]
   have hm:=List.mem_of_getElem? hx
   obtain ⟨b1,b2,b3,b4⟩:=qf4 h h2 i
   obtain ⟨_,_,hn,hv⟩:=qaT h2
   have hz:=jY (hv p hm).1
   have hnp:=hn p hm
   refine Ev.ct hc (Ev.some hg (Ev.bind (qrZ b1.1 p.1 p.2 (by omega) (by omega) (by omega)) ?_))
   rw [hi]
   refine hP.congr λ m k=>?_
   rw [zV hx,qvP])
 refine Ev.diag (L := λ m k=>QY m k b b.length 0 a) ?_
 exact key 0 (Nat.zero_le _)
end Go.AmYtbpnmbmdbblehaaGreat
namespace Go.AmYtbpnmbmdbblehaaGreat
open Go Go.GxYtbpnmbmdbblehaaGreat
theorem qzG (t:T):Ev (λ m _=>JL m t) (qcb t):=by
 refine Ev.succ ?_
 simp only [qsT,qfw]
 unfold qcb
 by_cases h3:t.kind=3
 ·refine Ev.ct (qj.2 h3) (Ev.ite (λ h=>?_) λ h=>(Ev.ite (λ h2=>?_) λ h2=>?_))
  ·rw [jb] at h
   exact Ev.ret (by rw [h3,h];rfl)
  ·rw [jb] at h2
   exact Ev.ret (by rw [h3,h2];rfl)
  ·rw [jl] at h h2
   exact Ev.ret (by
    have a1:(t.name==qeN)=false:=by rw [beq_eq_false_iff_ne];exact h
    have a2:(t.name==Qh)=false:=by rw [beq_eq_false_iff_ne];exact h2
    rw [h3,a1,a2];rfl)
 ·exact Ev.cf (qh.2 h3) (Ev.ret (by have:(t.kind==3)=false:=by rw [beq_eq_false_iff_ne];exact h3
                                    rw [this];rfl))
theorem qFt (t:T):size t≤1000000000→Ev (λ m _=>yw m t) (arT t):=by
 induction t using T.ind with
 | h t ih =>
   intro hs
   have hl:=yM t
   refine Ev.succ ?_
   simp only [qwH,qef,qe]
   refine Ev.bind (qzG t) (Ev.ite (λ h=>?_) λ h=>?_)
   ·rw [bnt] at h
    exact Ev.ret (by rw [qti,h];rfl)
   rw [bnf] at h
   obtain ⟨h3,hname⟩:=qpH.1 h
   have har:arT t=(arK t&&(t.kids.map arT).all id):=by rw [qti,h];rfl
   have loop:arK t=true→Ev (λ m _=>QG m (yw m) m t.kids.length 0 t.kind t.name t.sort t.kids) (arT t):=by
    intro hk
    rw [har,hk,Bool.true_and]
    have key:=qt (P := λ i=>Ev (λ m k=>QG m (yw m) k t.kids.length i t.kind t.name t.sort t.kids) (((t.kids.drop i).map arT).all id)) t.kids (by omega)
     (λ hc=>by
      refine Ev.loop ?_
      simp only [qlW,qd6]
      refine Ev.cf hc (Ev.ret ?_)
      rw [List.drop_length];rfl)
     (λ i x hx hd hc hg hi hP=>by
      refine Ev.loop ?_
      simp only [qlW,qd6,qe]
      have hm:=List.mem_of_getElem? hx
      have h1:=yO t x hm
      rw [hd,List.map_cons,List.all_cons]
      refine Ev.ct hc (Ev.some hg (Ev.bind (ih x hm (by omega)) (Ev.ite (λ hb=>?_) λ hb=>?_)))
      ·rw [bnt] at hb
       rw [hb];exact Ev.pure _
      ·rw [bnf] at hb
       rw [hb,hi]
       exact hP)
    refine Ev.diag (L := λ m k=>QG m (yw m) k t.kids.length 0 t.kind t.name t.sort t.kids) ?_
    exact (key 0 (Nat.zero_le _)).res (by rw [List.drop_zero])
   have bad:arK t=false→Ev (λ _ _=>some false) (arT t) := λ hk=>Ev.ret (by rw [har,hk];rfl)
   rcases hname with hn1 | hn1 | hn1
   ·refine Ev.ct (by rw [hn1];rfl) (Ev.ite (λ hk=>?_) λ hk=>?_)
    ·rw [qr] at hk
     exact bad (by unfold arK;rw [hn1,decide_eq_true (show t.kids.length<2 by omega)];rfl)
    ·rw [qv] at hk
     exact Ev.cf (by rw [hn1];rfl) (Ev.cf (by rw [hn1];rfl) (loop (by unfold arK;rw [hn1,decide_eq_false (show ¬ t.kids.length<2 by omega)];rfl)))
   ·refine Ev.cf (by rw [hn1];rfl) (Ev.ct (by rw [hn1];rfl) (Ev.ite (λ hk=>?_) λ hk=>?_))
    ·rw [bnt,qh] at hk
     exact bad (by unfold arK;rw [hn1,show (t.kids.length != 1)=true from by rw [bne_iff_ne];omega];rfl)
    ·rw [bnf,qj] at hk
     exact Ev.cf (by rw [hn1];rfl) (loop (by unfold arK;rw [hn1,show (t.kids.length != 1)=false from by rw [bne_eq_false_iff_eq];omega];rfl))
   ·refine Ev.cf (by rw [hn1];rfl) (Ev.cf (by rw [hn1];rfl) (Ev.ct (by rw [hn1];rfl) (Ev.ite (λ hk=>?_) λ hk=>?_)))
    ·rw [bnt,qh] at hk
     exact bad (by unfold arK;rw [hn1,show (t.kids.length != 0)=true from by rw [bne_iff_ne];omega];rfl)
    ·rw [bnf,qj] at hk
     exact loop (by unfold arK;rw [hn1,show (t.kids.length != 0)=false from by rw [bne_eq_false_iff_eq];omega];rfl)
theorem qvu (t:T) (n:Int):∀ (l:List Pw) (s:List Pw × Bool),(l.foldl (yF t n) s).1.length≤s.1.length+2*l.length
 | [],s=>by simp
 | x::l,s=>by
   have h:=qvu t n l (yF t n s x)
   have:(yF t n s x).1.length≤s.1.length+2:=by
    unfold yF
    simp only [List.length_append]
    have a:(if s.2=false∧qp t x.1<0 then s.1++[(t,n)] else s.1).length≤s.1.length+1:=by split<;>simp
    have b:(if (if qp t x.1=0 then x.2+n else x.2)=0 then ([]:List Pw) else [(x.1,if qp t x.1=0 then x.2+n else x.2)]).length≤1:=by generalize (if qp t x.1=0 then x.2+n else x.2)=z;split<;>simp
    omega
   rw [List.foldl_cons,List.length_cons];omega
theorem qB2 {l:List Pw} (hg:Jn l) (t:T) (n:Int) (hs:szP l+size t≤1000000000) (hn:Qi l+n.natAbs≤1000000000000):Ev (λ m _=>qfL m l t n) ((),yn l t n,()):=by
 have hl:=qbS l
 refine Ev.succ ?_
 simp only [qAO,qgZ]
 have hlen:∀ i,((l.take i).foldl (yF t n) ([],false)).1.length≤2*l.length := λ i=>by
  have:=qvu t n (l.take i) ([],false)
  have h2:(l.take i).length≤l.length:=by rw [List.length_take];omega
  simp only [List.length_nil] at this;omega
 have key:=qt (P := λ i=>Ev (λ m k=>Jm m k n ((l.take i).foldl (yF t n) ([],false)).2 i t.kind t.name t.sort t.kids l ((l.take i).foldl (yF t n) ([],false)).1) ((),yn l t n,())) l (by omega)
  (λ hc=>by
   refine Ev.loop ?_
   simp only [qoF,qgA]
   refine Ev.cf hc ?_
   have:=hlen l.length
   have he:=qHR hg.2 hg.1 t n
   rw [List.take_length] at this ⊢
   unfold qDS at he
   refine Ev.ite (λ h=>?_) λ h=>?_
   ·rw [bnt] at h
    rw [if_neg (by rw [h];decide)] at he
    rw [show T.mk t.kind t.name t.sort t.kids=t from qe t,he]
    exact Ev.ct (qS (by omega) (by omega)) (Ev.pure _)
   ·rw [bnf] at h
    rw [if_pos h] at he
    rw [he]
    exact Ev.pure _)
  (λ i p hx hd hc hgt hi hP=>by
   refine Ev.loop ?_
   simp only [qoF,qgA,qe]
   have hm:=List.mem_of_getElem? hx
   have h1:=qeq hm
   have h2:=hlen i
   have h3:=qzZ l p hm
   have hnz:=hg.2 p hm
   rw [zV hx,List.foldl_append] at hP
   generalize (l.take i).foldl (yF t n) ([],false)=s at *
   have go:∀ (b:Bool) (o:List Pw),yF t n s p=(o,b)→Ev (λ m k=>Jm m k n b ((i+1:Nat):Int) t.kind t.name t.sort t.kids l o) ((),yn l t n,()) := λ b o e=>by
    have hP:Ev (λ m k=>Jm m k n (yF t n s p).2 ((i+1:Nat):Int) t.kind t.name t.sort t.kids l (yF t n s p).1) ((),yn l t n,()):=hP
    rw [e] at hP;exact hP
   have e1:iw .i64 (qf p.2 n)=p.2+n:=by unfold qf;exact jg (by omega)
   rw [show T.mk t.kind t.name t.sort t.kids=t from qe t,hi]
   have hz0:qc (ieq p.2 0)=true:=bnt.2 (qh.2 hnz)
   refine Ev.ct hc (Ev.some hgt (Ev.bind (qhJ t (by omega) p.1 (by omega)) (Ev.ite (λ h=>?_) λ h=>?_)))
   ·rw [bnt] at h
    refine Ev.ite (λ hc1=>?_) λ hc1=>?_
    ·rw [qr] at hc1
     refine Ev.ct (qS (by omega) (by omega)) (Ev.some hgt (Ev.cf (qh.2 (by omega)) (Ev.ct hz0 (Ev.ct (qS (by rw [List.length_append];simp only [List.length_cons,List.length_nil];omega) (by omega)) (go _ _ ?_)))))
     unfold yF
     rw [if_pos ⟨h,hc1⟩,if_neg (show ¬ qp t p.1=0 by omega),if_neg hnz,decide_eq_true (show qp t p.1≤0 by omega),Bool.or_true]
    ·rw [qv] at hc1
     refine Ev.some hgt (Ev.ite (λ hc2=>?_) λ hc2=>?_)
     ·rw [qj] at hc2
      refine Ev.ite (λ hz=>?_) λ hz=>?_
      ·rw [bnt,qh,e1] at hz
       refine Ev.ct (qS (by omega) (by omega)) (go _ _ ?_)
       rw [e1]
       unfold yF
       rw [if_neg (by omega),if_pos hc2,if_neg hz,decide_eq_true (show qp t p.1≤0 by omega),Bool.or_true]
      ·rw [bnf,qj,e1] at hz
       refine go _ _ ?_
       unfold yF
       rw [if_neg (by omega),if_pos hc2,if_pos hz,decide_eq_true (show qp t p.1≤0 by omega),Bool.or_true,List.append_nil]
     ·rw [qh] at hc2
      refine Ev.ct hz0 (Ev.ct (qS (by omega) (by omega)) (go _ _ ?_))
      unfold yF
      rw [if_neg (by omega),if_neg hc2,if_neg hnz,decide_eq_false (show ¬ qp t p.1≤0 by omega),Bool.or_false]
   ·rw [bnf] at h
    refine Ev.some hgt (Ev.ite (λ hc2=>?_) λ hc2=>?_)
    ·rw [qj] at hc2
     refine Ev.ite (λ hz=>?_) λ hz=>?_
     ·rw [bnt,qh,e1] at hz
      refine Ev.ct (qS (by omega) (by omega)) (go _ _ ?_)
      rw [e1]
      unfold yF
      rw [if_neg (by omega),if_pos hc2,if_neg hz,decide_eq_true (show qp t p.1≤0 by omega),Bool.or_true]
     ·rw [bnf,qj,e1] at hz
      refine go _ _ ?_
      unfold yF
      rw [if_neg (by omega),if_pos hc2,if_pos hz,decide_eq_true (show qp t p.1≤0 by omega),Bool.or_true,List.append_nil]
    ·rw [qh] at hc2
     refine Ev.ct hz0 (Ev.ct (qS (by omega) (by omega)) (go _ _ ?_))
     unfold yF
     rw [if_neg (by rw [h];intro hh;cases hh.1),if_neg hc2,if_neg hnz,h,Bool.true_or])
 refine Ev.diag (L := λ m k=>Jm m k n false 0 t.kind t.name t.sort t.kids l []) ?_
 exact key 0 (Nat.zero_le _)
theorem qAJ (t:T):∀ (l:List Pw) (n:Int),n≠0→Jn l→szP l+size t≤80000000→Qi l+size t*n.natAbs≤100000000000→Ev (λ m _=>zK m l t n) ((),y8 t l n,()):=by
 induction t using T.ind with
 | h t ih =>
   intro l n hn hg hs hb
   have hl:=yM t
   have hz:=qG t
   refine Ev.succ ?_
   simp only [qtk,qb7,qe]
   have hmul:n.natAbs≤size t*n.natAbs:=Nat.le_mul_of_pos_left _ (size_pos t)
   refine Ev.bind (qzG t) (Ev.ite (λ h=>?_) λ h=>?_)
   ·rw [bnt] at h
    refine Ev.bind (qB2 hg t n (by omega) (by omega)) (Ev.ret ?_)
    rw [qfV,h];rfl
   rw [bnf] at h
   obtain ⟨h3,hname⟩:=qpH.1 h
   have loop:∀ sg:Int,sg≠0→sg.natAbs=n.natAbs→qaq t n=sg→Ev (λ m _=>jH m (zK m) m sg 0 t.kind t.name t.sort t.kids l) ((),y8 t l n,()):=by
    intro sg hsg hab hsn
    have hcol:y8 t l n=qeH t.kids sg l t.kids.length:=by rw [qfV,h,if_pos rfl,hsn];unfold qeH;rw [List.take_length]
    rw [hcol]
    have key:=qt (P := λ i=>Ev (λ m k=>jH m (zK m) k sg i t.kind t.name t.sort t.kids (qeH t.kids sg l i)) ((),qeH t.kids sg l t.kids.length,())) t.kids (by omega)
     (λ hc=>by
      refine Ev.loop ?_
      simp only [qjj,qce]
      exact Ev.cf hc (Ev.pure _))
     (λ i x hx hd hc hgt hi hP=>by
      refine Ev.loop ?_
      simp only [qjj,qce,qe]
      have hm:=List.mem_of_getElem? hx
      have h1:=yO t x hm
      obtain ⟨f1,f2,f3,f4⟩:=qmz sg hsg (t.kids.take i) l hg
      have h5:=jQ hx
      have h6:szL t.kids+1=size t:=by unfold szL;omega
      have h7:szL (t.kids.take i)*sg.natAbs+size x*sg.natAbs≤size t*n.natAbs:=by
       rw [← Nat.add_mul,hab]
       exact Nat.mul_le_mul_right _ (by omega)
      refine Ev.ct hc (Ev.some hgt (Ev.bind (ih x hm (qeH t.kids sg l i) sg hsg f1 (by unfold qeH;omega) (by unfold qeH;omega)) ?_))
      rw [hi]
      refine hP.congr λ m k=>?_
      rw [qwe hx])
    refine Ev.diag (L := λ m k=>jH m (zK m) k sg 0 t.kind t.name t.sort t.kids l) ?_
    exact key 0 (Nat.zero_le _)
   have hneg:iw .i64 (QK 0 n)=-n:=by
    unfold QK
    rw [jg (by omega)];omega
   refine Ev.ite (λ hk=>?_) λ hk=>?_
   ·rw [jb] at hk
    rw [hneg]
    exact loop (-n) (by omega) (by omega) (by unfold qaq;rw [if_pos (show t.name=Qh from hk)])
   ·rw [jl] at hk
    exact loop n hn rfl (by unfold qaq;rw [if_neg (show ¬ t.name=Qh from hk)])
theorem qzO (t:T) (hs:size t≤1000000000):Ev (λ m _=>qfH m t) (ofP t):=by
 refine Ev.succ ?_
 simp only [qC1,qk5,qe]
 unfold ofP
 refine Ev.bind (qaN t hs) (Ev.ite (λ h=>?_) λ h=>?_)
 ·rw [bnt,qh] at h
  rw [if_pos h];exact Ev.pure _
 ·rw [bnf,qj] at h
  have hz:=jY h
  rw [if_neg (by omega)]
  refine Ev.bind (qFt t hs) (Ev.ite (λ h1=>?_) λ h1=>?_)
  ·rw [bnt] at h1
   rw [if_pos h1];exact Ev.pure _
  ·rw [bnf] at h1
   rw [if_neg (by rw [h1];decide)]
   refine Ev.bind (qAJ t [] 1 (by decide) Jn.nil (by show 0+_≤_;omega) (by show 0+size t*1≤_;omega)) (Ev.ite (λ h2=>?_) λ h2=>?_)
   ·rw [qr] at h2
    have h2:(200:Int)<((y8 t [] 1).length:Int):=h2
    rw [if_pos (by omega)];exact Ev.pure _
   ·rw [qv] at h2
    have h2:((y8 t [] 1).length:Int)≤200:=h2
    rw [if_neg (by omega)];exact Ev.pure _
theorem qqK (l:List Pw) (hs:szP l≤1000000000):Ev (λ m _=>qbk m l) (QM l):=by
 have hl:=qbS l
 refine Ev.succ ?_
 simp only [qw9,qed]
 unfold QM
 refine Ev.ite (λ h=>?_) λ h=>?_
 ·rw [qr] at h
  rw [if_pos (by omega)];exact Ev.pure _
 rw [qv] at h
 rw [if_neg (by omega)]
 have key:=qt (P := λ i=>Ev (λ m k=>QF m k l i) (pvL (qdi l i) (l.drop i))) l (by omega)
  (λ hc=>by
   refine Ev.loop ?_
   simp only [qlK,qd5]
   refine Ev.cf hc (Ev.ret ?_)
   rw [List.drop_length];rfl)
  (λ i x hx hd hc hg hi hP=>by
   refine Ev.loop ?_
   simp only [qlK,qd5,qe]
   have h1:=qeq (List.mem_of_getElem? hx)
   rw [qiR hx] at hP
   rw [hd,pvL]
   have hk:=qyk (qdi l i) x
   have bad:∀ e:Int,pvK (qdi l i) x=e→e≠0→Ev (λ _ _=>some e) (thn (pvK (qdi l i) x) (pvL (some x.1) (l.drop (i+1)))) := λ e he h0=>by
    rw [he]
    exact Ev.ret (by unfold thn;rw [if_neg h0])
   have good:pvK (qdi l i) x=0→Ev (λ m k=>QF m k l ((i+1:Nat):Int)) (thn (pvK (qdi l i) x) (pvL (some x.1) (l.drop (i+1)))) := λ he=>by
    rw [he]
    exact hP.res (by unfold thn;rw [if_pos rfl])
   refine Ev.ct hc (Ev.some hg (Ev.bind (qaN x.1 (by omega)) (Ev.ite (λ hv=>?_) λ hv=>?_)))
   ·rw [bnt,qh] at hv
    exact bad _ (by rw [hk,if_pos hv]) hv
   rw [bnf,qj] at hv
   rw [if_neg (by omega)] at hk
   refine Ev.some hg (Ev.bind (qzG x.1) (Ev.ite (λ hv2=>?_) λ hv2=>?_))
   ·exact bad 1 (by rw [hk,if_pos hv2]) (by decide)
   rw [if_neg (by rw [hv2];decide)] at hk
   refine Ev.some hg (Ev.ite (λ hz=>?_) λ hz=>?_)
   ·rw [qj] at hz
    exact bad 7 (by rw [hk,if_pos (by omega)]) (by decide)
   rw [qh] at hz
   refine Ev.some hg (Ev.ite (λ hz2=>?_) λ hz2=>?_)
   ·rw [qr] at hz2
    exact bad 7 (by rw [hk,if_pos (by omega)]) (by decide)
   rw [qv] at hz2
   refine Ev.some hg (Ev.ite (λ hz3=>?_) λ hz3=>?_)
   ·rw [qr] at hz3
    exact bad 7 (by rw [hk,if_pos (by omega)]) (by decide)
   rw [qv] at hz3
   rw [if_neg (by omega)] at hk
   rw [hi]
   refine Ev.ite (λ h0=>?_) λ h0=>?_
   ·rw [qr] at h0
    obtain ⟨j,rfl⟩:∃ j,i=j+1:=⟨i-1,by omega⟩
    have hlt:j<l.length:=by have:=(List.getElem?_eq_some_iff.1 hx).1;omega
    obtain ⟨q,hq⟩:∃ q,l[j]? = some q:=⟨_,List.getElem?_eq_getElem hlt⟩
    have h2:=qeq (List.mem_of_getElem? hq)
    rw [qiR hq] at hk bad good ⊢
    simp only at hk
    refine Ev.some (a:=q) (by rw [show QK ((j+1:Nat):Int) 1=((j:Nat):Int) from by unfold QK;omega,jg (by omega),jt,hq]) (Ev.some hg (Ev.bind (qhJ q.1 (by omega) x.1 (by omega)) (Ev.ite (λ hc2=>?_) λ hc2=>?_)))
    ·rw [qcf] at hc2
     exact bad 5 (by rw [hk,if_pos hc2]) (by decide)
    ·rw [qiW] at hc2
     exact good (by rw [hk,if_neg (by omega)])
   ·rw [qv] at h0
    have:i=0:=by omega
    subst this
    exact good (by rw [hk];rfl))
 refine Ev.diag (L := λ m k=>QF m k l 0) ?_
 exact key 0 (Nat.zero_le _)
end Go.AmYtbpnmbmdbblehaaGreat
namespace Go.AmYtbpnmbmdbblehaaGreat
open Go Go.GxYtbpnmbmdbblehaaGreat
theorem qs6 (A:List T) (x:T) (h:(A.take 9).length<9):A.take 9++[x]=(A++[x]).take 9:=by
 rw [List.length_take] at h
 rw [List.take_of_length_le (by omega),List.take_of_length_le (by rw [List.length_append];simp only [List.length_cons,List.length_nil];omega)]
theorem qsf (A B:List T) (h:¬ (A.take 9).length<9):A.take 9=(A++B).take 9:=by
 rw [List.length_take] at h
 rw [List.take_append_of_le_length (by omega)]
theorem qGo (l:List Pw) (hl:l.length≤1000) (hn:∀ p∈l,p.2.natAbs≤1000):Ev (λ m _=>qbE m l) ((zN l++zU l).take 9):=by
 refine Ev.succ ?_
 simp only [qq6,qbx]
 have l9:∀ A:List T,(A.take 9).length≤9 := λ A=>by rw [List.length_take];omega
 have k3:=qt (P := λ i=>Ev (λ m k=>(qk m k).2.2.1 l i ((zN l++zU (l.take i)).take 9)) ((zN l++zU l).take 9)) l (by omega)
  (λ hc=>by
   refine Ev.loop ?_
   simp only [qiE,qbz]
   refine Ev.cf hc ?_
   rw [List.take_length];exact Ev.pure _)
  (λ i p hx hd hc hg hi hP=>by
   refine Ev.loop ?_
   simp only [qiE,qbz]
   refine Ev.ct hc ?_
   have hnp:=hn p (List.mem_of_getElem? hx)
   rw [zV hx,qrh,qqW,← List.append_assoc] at hP
   generalize zN l++zU (l.take i)=A at *
   have hneg:iw .i64 (QK 0 p.2)=-p.2:=by unfold QK;rw [jg (by omega)];omega
   have k4:=qnb (P := λ j=>Ev (λ m k=>(qk m k).2.2.2 l i j ((A++List.replicate j (apT Qh [p.1])).take 9)) ((zN l++zU l).take 9)) (-p.2) (by omega)
    (by
     refine Ev.loop ?_
     simp only [qix,qbt,qe]
     refine Ev.some hg (Ev.cf (by rw [hneg,qv];omega) ?_)
     rw [hi]
     exact hP)
    (λ j hj hji hPj=>by
     refine Ev.loop ?_
     simp only [qix,qbt,qe]
     rw [List.replicate_succ',← List.append_assoc] at hPj
     have h9:=l9 (A++List.replicate j (apT Qh [p.1]))
     refine Ev.some hg (Ev.ct (by rw [hneg,qr];exact hj) (Ev.ite (λ h=>?_) λ h=>?_))
     ·rw [qr] at h
      refine Ev.some hg (Ev.bind (qbR [105,110,118] [p.1] (by simp)) (Ev.ct (qS (by omega) (by omega)) ?_))
      rw [hji]
      refine hPj.congr λ m k=>?_
      rw [← qs6 _ _ (by omega)];rfl
     ·rw [qv] at h
      rw [hi]
      refine hP.congr λ m k=>?_
      obtain ⟨d,hd2⟩:∃ d,(-p.2).toNat=j+d:=⟨(-p.2).toNat-j,by omega⟩
      rw [hd2,← List.replicate_append_replicate,← List.append_assoc,← qsf (A++List.replicate j (apT Qh [p.1])) _ (by omega)])
   have:=k4 0 (Nat.zero_le _)
   rw [List.replicate_zero,List.append_nil] at this
   exact this)
 have k1:=qt (P := λ i=>Ev (λ m k=>(qk m k).1 l i ((zN (l.take i)).take 9)) ((zN l++zU l).take 9)) l (by omega)
  (λ hc=>by
   refine Ev.loop ?_
   simp only [qiG,qbq]
   refine Ev.cf hc ?_
   rw [List.take_length]
   have:=k3 0 (Nat.zero_le _)
   rw [List.take_zero,show zU []=[] from rfl,List.append_nil] at this
   exact this)
  (λ i p hx hd hc hg hi hP=>by
   refine Ev.loop ?_
   simp only [qiG,qbq]
   refine Ev.ct hc ?_
   have hnp:=hn p (List.mem_of_getElem? hx)
   rw [zV hx,qqM,qqw] at hP
   generalize zN (l.take i)=A at *
   have k2:=qnb (P := λ j=>Ev (λ m k=>(qk m k).2.1 l i j ((A++List.replicate j p.1).take 9)) ((zN l++zU l).take 9)) p.2 (by omega)
    (by
     refine Ev.loop ?_
     simp only [qiA,qbp,qe]
     refine Ev.some hg (Ev.cf (by rw [qv];omega) ?_)
     rw [hi]
     exact hP)
    (λ j hj hji hPj=>by
     refine Ev.loop ?_
     simp only [qiA,qbp,qe]
     rw [List.replicate_succ',← List.append_assoc] at hPj
     have h9:=l9 (A++List.replicate j p.1)
     refine Ev.some hg (Ev.ct (by rw [qr];exact hj) (Ev.ite (λ h=>?_) λ h=>?_))
     ·rw [qr] at h
      refine Ev.some hg (Ev.ct (qS (by omega) (by omega)) ?_)
      rw [hji]
      refine hPj.congr λ m k=>?_
      rw [← qs6 _ _ (by omega)]
     ·rw [qv] at h
      rw [hi]
      refine hP.congr λ m k=>?_
      obtain ⟨d,hd2⟩:∃ d,p.2.toNat=j+d:=⟨p.2.toNat-j,by omega⟩
      rw [hd2,← List.replicate_append_replicate,← List.append_assoc,← qsf (A++List.replicate j p.1) _ (by omega)])
   have:=k2 0 (Nat.zero_le _)
   rw [List.replicate_zero,List.append_nil] at this
   exact this)
 refine Ev.diag (L := λ m k=>(qk m k).1 l 0 []) ?_
 exact k1 0 (Nat.zero_le _)
theorem qIq (S:Nat):∀ l:List Pw,(∀ p∈l,size p.1≤S)→(∀ x∈zN l,size x≤S)∧∀ x∈zU l,size x≤1+S:=by
 intro l h
 refine ⟨λ x hx=>?_,λ x hx=>?_⟩
 ·unfold zN at hx
  obtain ⟨p,hp,hx⟩:=List.mem_flatMap.1 hx
  rw [List.eq_of_mem_replicate hx];exact h p hp
 ·unfold zU at hx
  obtain ⟨p,hp,hx⟩:=List.mem_flatMap.1 hx
  rw [List.eq_of_mem_replicate hx,qAf]
  have:=h p hp;omega
theorem qFC (S:Nat):∀ l:List T,(∀ x∈l,size x≤S)→szL l≤l.length*S
 | [],_=>by simp [szL]
 | x::l,h=>by
   have h1:=qFC S l λ q hq=>h q (List.mem_cons_of_mem _ hq)
   have h2:=h x (List.mem_cons_self ..)
   rw [qK,List.length_cons,Nat.add_mul];omega
theorem qze (l:List Pw) (hs:szP l≤1000000000):Ev (λ m _=>qa6 m l) (qaw l):=by
 refine Ev.succ ?_
 simp only [qyv,qih,qe]
 refine Ev.bind (qqK l hs) (Ev.ite (λ h=>?_) λ h=>?_)
 ·rw [bnt,qh] at h
  unfold qaw
  rw [if_pos h];exact Ev.pure _
 rw [bnf,qj] at h
 obtain ⟨_,hlen,hN,hV⟩:=qaT h
 have hsz:∀ p∈l,size p.1≤400 := λ p hp=>jY (hV p hp).1
 rw [qoa h]
 obtain ⟨s1,s2⟩:=qIq 400 l hsz
 have hall:∀ x∈zN l++zU l,size x≤401 := λ x hx=>by
  rcases List.mem_append.1 hx with hx | hx
  ·have:=s1 x hx;omega
  ·exact s2 x hx
 refine Ev.bind (qGo l (by omega) hN) ?_
 generalize zN l++zU l=A at *
 unfold qk4
 refine Ev.ite (λ h8=>?_) λ h8=>?_
 ·rw [qr,List.length_take] at h8
  rw [if_pos (by omega)];exact Ev.pure _
 rw [qv,List.length_take] at h8
 rw [if_neg (by omega),List.take_of_length_le (by omega)]
 have ho:=qFC 401 A hall
 have hoz:=qBR A
 have hm:A.length*401≤8*401:=Nat.mul_le_mul_right _ (by omega)
 have fin:∀ u:T,u=Jp A→Ev (λ m _=>qa (zM m u) λ v=>cond (qc (ieq v 0)) (some (T.mk 0 [] 0 [],v)) (some (u,0))) (if qs (Jp A)≠0 then (zT,qs (Jp A)) else (Jp A,0)):=by
  intro u hu
  subst hu
  refine Ev.bind (qaN _ (by omega)) (Ev.ite (λ h=>?_) λ h=>?_)
  ·rw [bnt,qh] at h
   rw [if_pos h];exact Ev.pure _
  ·rw [bnf,qj] at h
   rw [if_neg (by omega)];exact Ev.pure _
 refine Ev.bind (qbR [109,117,108] A (by omega)) (Ev.ite (λ h0=>?_) λ h0=>?_)
 ·rw [qj] at h0
  refine Ev.bind (qbR [111,110,101] [] (by simp)) (Ev.cf (qh.2 (by omega)) (fin _ (by unfold Jp;rw [if_pos (by omega)];rfl)))
 ·rw [qh] at h0
  refine Ev.ite (λ h1=>?_) λ h1=>?_
  ·rw [qj] at h1
   refine Ev.some (a:=A.getD 0 zT) ?_ (fin _ (by unfold Jp;rw [if_neg (by omega),if_pos (by omega)]))
   rw [Jo,List.getD_eq_getElem?_getD]
   cases A with
   | nil=>simp at h1
   | cons x r=>rfl
  ·rw [qh] at h1
   exact fin _ (by unfold Jp;rw [if_neg (by omega),if_neg (by omega)];rfl)
theorem qFD (l:List Pw) (hl:l.length≤1000000000):Ev (λ m _=>qcC m l) (if qk8 l then 7 else if 200<l.length then 3 else 0):=by
 refine Ev.succ ?_
 simp only [qsP,qcg]
 have key:=qt (P := λ i=>Ev (λ m k=>Qu m k l i) (if qk8 (l.drop i) then (7:Int) else if 200<l.length then 3 else 0)) l (by omega)
  (λ hc=>by
   refine Ev.loop ?_
   simp only [qjI,qcx]
   rw [List.drop_length,if_neg (by decide)]
   refine Ev.cf hc (Ev.ite (λ h=>?_) λ h=>?_)
   ·rw [qr] at h
    rw [if_pos (by omega)];exact Ev.pure _
   ·rw [qv] at h
    rw [if_neg (by omega)];exact Ev.pure _)
  (λ i p hx hd hc hg hi hP=>by
   refine Ev.loop ?_
   simp only [qjI,qcx]
   rw [hd,qvw]
   refine Ev.ct hc (Ev.some hg (Ev.ite (λ h=>?_) λ h=>?_))
   ·rw [qr] at h
    rw [decide_eq_true h,Bool.true_or,Bool.true_or,if_pos rfl];exact Ev.pure _
   ·rw [qv] at h
    rw [decide_eq_false (show ¬ p.2 < -1000 by omega),Bool.false_or]
    refine Ev.some hg (Ev.ite (λ h2=>?_) λ h2=>?_)
    ·rw [qr] at h2
     rw [decide_eq_true h2,Bool.true_or,if_pos rfl];exact Ev.pure _
    ·rw [qv] at h2
     rw [decide_eq_false (show ¬ 1000<p.2 by omega),Bool.false_or,hi]
     exact hP)
 refine Ev.diag (L := λ m k=>Qu m k l 0) ?_
 exact (key 0 (Nat.zero_le _)).res (by rw [List.drop_zero])
theorem qIQ (a b:List Pw) (ha:szP a≤100000000) (hb:szP b≤100000000):Ev (λ m _=>qhP m a b) (qjq a b):=by
 have hl:=qbS b
 have hla:=qbS a
 refine Ev.succ ?_
 simp only [qAV,qgq]
 rw [qty]
 refine Ev.bind (qqK a (by omega)) (Ev.ite (λ h=>?_) λ h=>?_)
 ·rw [bnt,qh] at h
  rw [if_pos h];exact Ev.pure _
 rw [bnf,qj] at h
 rw [if_neg (by omega)]
 refine Ev.bind (qqK b (by omega)) (Ev.ite (λ h2=>?_) λ h2=>?_)
 ·rw [bnt,qh] at h2
  rw [if_pos h2];exact Ev.pure _
 rw [bnf,qj] at h2
 rw [if_neg (by omega)]
 have key:=qt (P := λ i=>Ev (λ m k=>J8 m k b i (QC a (b.take i))) (qmp (QC a b))) b (by omega)
  (λ hc=>by
   refine Ev.loop ?_
   simp only [qoN,qgP]
   rw [List.take_length]
   obtain ⟨_,b2,_,_⟩:=qf4 h h2 b.length
   rw [List.take_length] at b2
   refine Ev.cf hc (Ev.bind (qFD _ (by omega)) ?_)
   unfold qmp
   by_cases hf:qk8 (QC a b)=true
   ·rw [if_pos hf,if_pos hf]
    exact Ev.ct rfl (Ev.pure _)
   ·rw [if_neg hf,if_neg hf]
    by_cases h200:200<(QC a b).length
    ·rw [if_pos h200,if_pos h200]
     exact Ev.ct rfl (Ev.pure _)
    ·rw [if_neg h200,if_neg h200]
     exact Ev.cf rfl (Ev.pure _))
  (λ i p hx hd hc hg hi hP=>by
   refine Ev.loop ?_
   simp only [qoN,qgP,qe]
   have hm:=List.mem_of_getElem? hx
   obtain ⟨b1,b2,b3,b4⟩:=qf4 h h2 i
   obtain ⟨_,_,hn,hv⟩:=qaT h2
   have hz:=jY (hv p hm).1
   have hnp:=hn p hm
   refine Ev.ct hc (Ev.some hg (Ev.some hg (Ev.bind (qB2 b1 p.1 p.2 (by omega) (by omega)) ?_)))
   rw [hi]
   refine hP.congr λ m k=>?_
   rw [zV hx,qvP])
 refine Ev.ct (qS (by simp only [List.length_nil];omega) (by omega)) ?_
 have main:Ev (λ m _=>J8 m m b 0 a) (qmp (QC a b)):=Ev.diag (L := λ m k=>J8 m k b 0 a) (key 0 (Nat.zero_le _))
 exact Ev.case (λ h=>by rw [h] at main ⊢;exact main) λ x r h=>by rw [h] at main ⊢;exact main
end Go.AmYtbpnmbmdbblehaaGreat
namespace Go.AmYtbpnmbmdbblehaaGreat
open Go Go.GxYtbpnmbmdbblehaaGreat Go.Lib
theorem qks {t:T} (h:qg4 t=0):qs t=0∧qP t=0:=by
 unfold qg4 at h
 exact qfD h
theorem qjx {t:T} (h:qP t=0) {n:List UInt8} (hn:isN t n=true) {a b c:Int} (hs:qA n=(a,b,c)):a≤(t.kids.length:Int)∧(t.kids.length:Int)≤b∧∀ k∈t.kids,qP k=0:=by
 obtain ⟨h3,rfl⟩:=yz.1 hn
 obtain ⟨h1,h2⟩:=qfN h3 h
 obtain ⟨_,g1,g2,_⟩:=qyb h3 h1
 rw [hs] at g1 g2
 exact ⟨g1,g2,h2⟩
end Go.AmYtbpnmbmdbblehaaGreat
namespace Go.AmYtbpnmbmdbblehaaGreat
open Go Go.GxYtbpnmbmdbblehaaGreat
def Cl (P:T→Prop):Prop:=∀ t:T,t.kind=3→P t→∀ k∈t.kids,P k
theorem qkp:∀ (n:Nat) (a b:List T),a.length+b.length≤n→∀ x∈zi a b,x∈a∨x∈b
 | _,[],b,_,x,h=>by rw [zi] at h;exact .inr h
 | _,z::a,[],_,x,h=>by rw [zi] at h;exact .inl h
 | 0,z::a,y::b,hn,x,h=>by simp at hn
 | n+1,z::a,y::b,hn,x,h=>by
   simp only [List.length_cons] at hn
   rw [zi] at h
   split at h
   ·rcases List.mem_cons.1 h with rfl | h
    ·exact .inl (List.mem_cons_self ..)
    ·rcases qkp n a (y::b) (by simp;omega) x h with h | h
     ·exact .inl (List.mem_cons_of_mem _ h)
     ·exact .inr h
   ·split at h
    ·rcases List.mem_cons.1 h with rfl | h
     ·exact .inr (List.mem_cons_self ..)
     ·rcases qkp n (z::a) b (by simp;omega) x h with h | h
      ·exact .inl h
      ·exact .inr (List.mem_cons_of_mem _ h)
    ·rcases qkp n a b (by omega) x h with h | h
     ·exact .inl (List.mem_cons_of_mem _ h)
     ·exact .inr (List.mem_cons_of_mem _ h)
theorem qju:∀ (ls:List (List T)) (a:List T),∀ x∈ls.foldl zi a,x∈a∨∃ l∈ls,x∈l
 | [],a,x,h => .inl h
 | l::ls,a,x,h=>by
   rcases qju ls (zi a l) x h with h | ⟨m,hm,h⟩
   ·rcases qkp _ a l (Nat.le_refl _) x h with h | h
    ·exact .inl h
    ·exact .inr ⟨l,List.mem_cons_self ..,h⟩
   ·exact .inr ⟨m,List.mem_cons_of_mem _ hm,h⟩
theorem qHQ {P:T→Prop} (hP:Cl P) (t:T):P t→∀ x∈jy t,P x:=by
 refine T.ind (P := λ t=>P t→∀ x∈jy t,P x) ?_ t
 intro t ih ht x hx
 rw [qj1] at hx
 split at hx
 ·cases hx
 ·split at hx
  ·rename_i hn
   rcases qju _ _ x hx with h | ⟨l,hl,h⟩
   ·cases h
   ·obtain ⟨k,hk,rfl⟩:=List.mem_map.1 hl
    exact ih k hk (hP t (yz.1 hn).1 ht k hk) x h
  ·rw [List.mem_singleton.1 hx];exact ht
theorem qwk {P:T→Prop} (hP:Cl P) {l:List T} (h:∀ k∈l,P k):∀ x∈zI l,P x:=by
 intro x hx
 rcases qju _ _ x hx with h1 | ⟨m,hm,h1⟩
 ·cases h1
 ·obtain ⟨k,hk,rfl⟩:=List.mem_map.1 hm
  exact qHQ hP k (h k hk) x h1
theorem qH4 {P:T→Prop} {l:List Pw} {t:T} (n:Int) (ht:P t) (hl:∀ p∈l,P p.1):∀ p∈yn l t n,P p.1:=by
 intro p hp
 rcases qmD l t n p hp with h | h
 ·rw [h];exact ht
 ·exact hl p h
theorem qI7 {P:T→Prop} (hP:Cl P) (t:T):P t→∀ (l:List Pw) (n:Int),(∀ p∈l,P p.1)→∀ p∈y8 t l n,P p.1:=by
 refine T.ind (P := λ t=>P t→∀ (l:List Pw) (n:Int),(∀ p∈l,P p.1)→∀ p∈y8 t l n,P p.1) ?_ t
 intro t ih ht l n hl
 rw [qfV]
 split
 ·rename_i hs
  have h3:=(qpH.1 hs).1
  exact qCi t.kids (qaq t n) (λ l=>∀ p∈l,P p.1) (λ k hk l hl=>ih k hk (hP t h3 ht k hk) l _ hl) l hl
 ·exact qH4 n ht hl
theorem qh5 {P:T→Prop} (hP:Cl P) {t:T} (ht:P t):∀ p∈(ofP t).1,P p.1:=by
 intro p hp
 unfold ofP at hp
 split at hp
 ·cases hp
 ·split at hp
  ·cases hp
  ·split at hp
   ·cases hp
   ·exact qI7 hP t ht [] 1 (λ _ h=>by cases h) p hp
theorem qBr {P:T→Prop} {a b:List Pw} (ha:∀ p∈a,P p.1) (hb:∀ p∈b,P p.1):∀ p∈(qjq a b).1,P p.1:=by
 intro p hp
 unfold qjq at hp
 split at hp
 ·cases hp
 ·split at hp
  ·cases hp
  ·split at hp
   ·cases hp
   ·split at hp
    ·cases hp
    ·rcases qqx b a p hp with ⟨q,hq,e⟩ | ⟨q,hq,e⟩
     ·rw [← e];exact ha q hq
     ·rw [← e];exact hb q hq
theorem qxM {l:List Pw} {x:T} (h:x∈zN l):∃ p∈l,x=p.1:=by
 unfold zN at h
 obtain ⟨p,hp,h⟩:=List.mem_flatMap.1 h
 exact ⟨p,hp,List.eq_of_mem_replicate h⟩
theorem qyU {l:List Pw} {x:T} (h:x∈zU l):∃ p∈l,x=apT Qh [p.1]:=by
 unfold zU at h
 obtain ⟨p,hp,h⟩:=List.mem_flatMap.1 h
 exact ⟨p,hp,List.eq_of_mem_replicate h⟩
theorem Jr:Cl λ t=>qP t=0 := λ t h3 h=>(qfN h3 h).2
theorem qjV:∀ (l:List Int),(∀ y∈l,y=0)→l.foldl thn 0=0
 | [],_=>rfl
 | z::l,h=>by
   rw [j7,h z (List.mem_cons_self ..)]
   exact qjV l λ y hy=>h y (List.mem_cons_of_mem _ hy)
theorem qgJ {t:T} (h:qaC t=0) (hk:∀ k∈t.kids,qP k=0):qP t=0:=by
 rw [qje]
 split
 ·rfl
 ·rw [h]
  refine qjV _ λ y hy=>?_
  obtain ⟨k,hk',rfl⟩:=List.mem_map.1 hy
  exact hk k hk'
theorem qb9 {n:List UInt8} {ks:List T} (h1:(qA n).2.2≠0) (h2:(qA n).1≤(ks.length:Int)) (h3:(ks.length:Int)≤(qA n).2.1) (h4:J1 (apT n ks)=false):qaC (apT n ks)=0:=by
 unfold qaC
 show (if (3:Int)≠3 then (0:Int) else if (qA n).2.2=0 then 10 else if (ks.length:Int)<(qA n).1∨(qA n).2.1<(ks.length:Int) then 6 else if J1 (apT n ks) then 10 else 0)=0
 rw [if_neg (by decide),if_neg h1,if_neg (by omega),h4];rfl
theorem qfZ {n:List UInt8} (h1:n≠qhw) (h2:n≠nSk) (h3:n≠qqn) (ks:List T):J1 (apT n ks)=false:=by
 unfold J1
 rw [if_neg (show ¬ (apT n ks).name=qhw from h1),if_neg (show ¬ ((apT n ks).name=nSk∨(apT n ks).name=qqn) from λ h=>h.elim h2 h3)]
theorem qa3:qP zT=0:=by rw [qje];rfl
theorem qaf {P:T→Prop} (hP:Cl P) (hz:P zT) {t:T} (h3:t.kind=3) (ht:P t) (i:Nat):P (kid t i):=by
 by_cases h:i<t.kids.length
 ·exact hP t h3 ht _ (qBw h)
 ·unfold kid
  rw [List.getD_eq_getElem?_getD,List.getElem?_eq_none (by omega)];exact hz
theorem qpE {P:T→Prop} (hz:P zT) {l:List T} (h:∀ x∈l,P x):P (l.getD 0 zT):=by
 cases l with
 | nil=>exact hz
 | cons x r=>exact h x (List.mem_cons_self ..)
theorem qFH {t:T} (h3:t.kind=3) (h:qs t=0):t.kids.length≤8:=by
 unfold qs at h
 split at h
 ·rename_i h1;exact absurd h h1
 ·rename_i h1
  have h2:=(qk6 (t:=t) (by omega)).1
  unfold Qp qet at h2
  rw [if_neg (by omega),if_pos h3] at h2
  split at h2
  ·cases h2
  ·split at h2
   ·split at h2
    ·cases h2
    ·omega
   ·cases h2
theorem qwb {l:List Pw} (hl:∀ p∈l,qP p.1=0) (h:(qaw l).2=0):qP (qaw l).1=0:=by
 by_cases hp:QM l=0
 ·rw [qoa hp] at h ⊢
  unfold qk4 at h ⊢
  by_cases h8:8<(zN l++zU l).length
  ·rw [if_pos h8] at h;cases h
  rw [if_neg h8] at h ⊢
  by_cases hv:qs (Jp (zN l++zU l))=0
  ·rw [if_neg (by omega)]
   have hall:∀ x∈zN l++zU l,qP x=0 := λ x hx=>by
    rcases List.mem_append.1 hx with hx | hx
    ·obtain ⟨p,hp,rfl⟩:=qxM hx
     exact hl p hp
    ·obtain ⟨p,hp,rfl⟩:=qyU hx
     exact qgJ (qb9 (by decide) (by show (1:Int)≤1;decide) (by show (1:Int)≤1;decide) (qfZ (by decide) (by decide) (by decide) _)) λ k hk=>by rw [List.mem_singleton.1 hk];exact hl p hp
   generalize zN l++zU l=o at *
   unfold Jp
   split
   ·exact qgJ (qb9 (by decide) (by show (0:Int)≤0;decide) (by show (0:Int)≤0;decide) (qfZ (by decide) (by decide) (by decide) _)) λ k hk=>by cases hk
   ·split
    ·exact qpE (P := λ t=>qP t=0) qa3 hall
    ·rename_i h0 h1
     exact qgJ (qb9 (by decide) (by show (2:Int)≤_;omega) (by show _≤(8:Int);omega) (qfZ (by decide) (by decide) (by decide) _)) hall
  ·rw [if_pos hv] at h;exact absurd h hv
 ·unfold qaw at h
  rw [if_pos hp] at h
  exact absurd h hp
theorem qzR {b:T} {l:List Pw} (hb:qP b=0) (hl:∀ p∈l,qP p.1=0) (h:(qha b l).2=0):qP (qha b l).1=0:=by
 unfold qha at h ⊢
 split at h
 ·rename_i h0;rw [if_pos h0];exact hb
 ·rename_i h0
  rw [if_neg h0]
  split at h
  ·rename_i h1;exact absurd h h1
  ·rename_i h1
   rw [if_neg h1]
   refine qgJ (qb9 (by decide) (by show (2:Int)≤2;decide) (by show (2:Int)≤2;decide) (qfZ (by decide) (by decide) (by decide) _)) λ k hk=>?_
   rcases List.mem_cons.1 hk with rfl | hk
   ·exact hb
   ·rw [List.mem_singleton.1 hk];exact qwb hl (by omega)
theorem qFZ {n:List UInt8} {ks:List T} (hks:∀ k∈ks,qP k=0) (hK:qaC (apT n ks)=0) (h0:(Q7 (apT n ks)).2=0):qP (Q7 (apT n ks)).1=0:=by
 have ht:qP (apT n ks)=0:=qgJ hK hks
 unfold Q7 at h0 ⊢
 by_cases hd:isD (apT n ks).name=true
 ·rw [if_pos hd]
  show qP (qiq _)=0
  unfold qiq
  split
  ·rename_i hf
   have hk0:(kid (apT n ks) 0).kind=3:=by
    unfold zQ at hf
    split at hf
    ·exact (yz.1 hf).1
    ·split at hf
     ·rw [Bool.and_eq_true] at hf;exact (yz.1 hf.1).1
     ·split at hf
      ·rw [Bool.and_eq_true,Bool.and_eq_true] at hf;exact (yz.1 hf.1.1).1
      ·split at hf
       ·rw [Bool.and_eq_true,Bool.and_eq_true] at hf;exact (yz.1 hf.1.1).1
       ·split at hf
        ·exact (yz.1 hf).1
        ·cases hf
   exact qaf Jr qa3 hk0 (qaf Jr qa3 rfl ht 0) _
  ·exact ht
 rw [if_neg hd] at h0 ⊢
 by_cases hx:(apT n ks).name=qcU
 ·rw [if_pos hx] at h0 ⊢
  unfold qmd at h0 ⊢
  split at h0
  ·rename_i h1;exact absurd h0 h1
  rename_i h1
  rw [if_neg h1]
  split at h0
  ·cases h0
  rename_i h2
  rw [if_neg h2]
  show qP (JH (zI ks))=0
  have hv:qs (JH (zI ks))=0:=by
   have:¬ qs (JH (zI (apT n ks).kids))≠0:=h2
   exact Decidable.of_not_not this
  have hall:=qwk Jr hks
  generalize zI ks=o at *
  unfold JH at hv ⊢
  split
  ·exact qgJ (qb9 (by decide) (by show (0:Int)≤0;decide) (by show (0:Int)≤0;decide) (qfZ (by decide) (by decide) (by decide) _)) λ k hk=>by cases hk
  ·rename_i g0
   split
   ·exact qpE (P := λ t=>qP t=0) qa3 hall
   ·rename_i g1
    rw [if_neg g0,if_neg g1] at hv
    have hl8:o.length≤8:=qFH (t:=apT qcU o) rfl hv
    exact qgJ (qb9 (by decide) (by show (2:Int)≤_;omega) (by show _≤(8:Int);omega) (qfZ (by decide) (by decide) (by decide) _)) hall
 rw [if_neg hx] at h0 ⊢
 by_cases hm:(apT n ks).name=qeN∨(apT n ks).name=Qh∨(apT n ks).name=qgN
 ·rw [if_pos hm] at h0 ⊢
  unfold qkN at h0 ⊢
  split at h0
  ·rename_i h1;exact absurd h0 h1
  rename_i h1
  rw [if_neg h1]
  exact qwb (qh5 Jr ht) h0
 rw [if_neg hm] at h0 ⊢
 by_cases he:(apT n ks).name=qcV
 ·rw [if_pos he] at h0 ⊢
  have hb:=qaf Jr qa3 (t:=apT n ks) rfl ht 0
  have hy:=qaf Jr qa3 (t:=apT n ks) rfl ht 1
  generalize kid (apT n ks) 0=b at *
  generalize kid (apT n ks) 1=y at *
  unfold qmR at h0 ⊢
  split at h0
  ·rename_i h1;exact absurd h0 h1
  rename_i h1
  rw [if_neg h1]
  split at h0
  ·rename_i hbe
   rw [if_pos hbe]
   split at h0
   ·rename_i h2;exact absurd h0 h2
   rename_i h2
   rw [if_neg h2]
   split at h0
   ·rename_i h3;exact absurd h0 h3
   rename_i h3
   rw [if_neg h3]
   have hb3:=(yz.1 hbe).1
   exact qzR (qaf Jr qa3 hb3 hb 0) (qBr (P := λ t=>qP t=0) (qh5 Jr (qaf Jr qa3 hb3 hb 1)) (qh5 Jr hy)) h0
  ·rename_i hbe
   rw [if_neg hbe]
   exact qzR hb (qh5 Jr hy) h0
 ·rw [if_neg he];exact ht
theorem qja:size zT=1:=by rw [qG];rfl
theorem JQ (t:T) (i:Nat):size (kid t i)≤size t:=by
 have:=size_pos t
 by_cases h:i<t.kids.length
 ·have:=yO t _ (qBw h);omega
 ·unfold kid
  rw [List.getD_eq_getElem?_getD,List.getElem?_eq_none (by omega)]
  show size zT≤_
  rw [qja];omega
theorem qxN (l:List Pw):size (qaw l).1≤400:=by
 unfold qaw
 have:=qja
 split
 ·show size zT≤_;omega
 ·split
  ·show size zT≤_;omega
  ·split
   ·show size zT≤_;omega
   ·rename_i h
    exact jY (Decidable.of_not_not h)
theorem qBi (b:T) (l:List Pw):size (qha b l).1≤401+size b:=by
 unfold qha
 have:=qja
 have:=qxN l
 split
 ·show size b≤_;omega
 ·split
  ·show size zT≤_;omega
  ·rw [qG];show 1+(size b+(size (qaw l).1+0))≤_;omega
theorem qJc (n:List UInt8) (ks:List T):size (Q7 (apT n ks)).1≤402+szL ks:=by
 have hz:=qja
 have ht:size (apT n ks)=1+szL ks:=qG _
 unfold Q7
 split
 ·show size (qiq _)≤_
  unfold qiq
  split
  ·have h1:=JQ (apT n ks) 0
   have h2:=JQ (kid (apT n ks) 0) (if (apT n ks).name=quS then 1 else 0)
   omega
  ·omega
 ·split
  ·unfold qmd
   split
   ·show size zT≤_;omega
   ·split
    ·show size zT≤_;omega
    ·have h1:=qBI (zI (apT n ks).kids)
     have h2:=qdZ (apT n ks).kids
     have h3:szL (apT n ks).kids=szL ks:=rfl
     show size (JH _)≤_
     omega
  ·split
   ·unfold qkN
    split
    ·show size zT≤_;omega
    ·have:=qxN (ofP (apT n ks)).1;omega
   ·split
    ·have h0:=JQ (apT n ks) 0
     generalize kid (apT n ks) 0=b at *
     generalize kid (apT n ks) 1=y at *
     unfold qmR
     split
     ·show size zT≤_;omega
     ·split
      ·split
       ·show size zT≤_;omega
       ·split
        ·show size zT≤_;omega
        ·have h1:=qBi (kid b 0) (qjq (ofP (kid b 1)).1 (ofP y).1).1
         have h2:=JQ b 0
         omega
      ·have h1:=qBi b (ofP y).1
       omega
    ·show size (apT n ks)≤_;omega
theorem qtX (t:T):size (zj t).1≤402*size t:=by
 refine T.ind (P := λ t=>size (zj t).1≤402*size t) ?_ t
 intro t ih
 have hz:=qja
 have hp:=size_pos t
 rw [qls]
 split
 ·show size t≤_;omega
 ·split
  ·show size zT≤_;omega
  ·have h1:=qJc t.name ((t.kids.map zj).map (·.1))
   have h2:szL ((t.kids.map zj).map (·.1))≤402*szL t.kids:=by
    have:∀ l:List T,(∀ k∈l,k∈t.kids)→szL ((l.map zj).map (·.1))≤402*szL l:=by
     intro l
     induction l with
     | nil=>intro _;exact Nat.le_refl _
     | cons k l ihl =>
       intro h
       have h1:=ih k (h k (List.mem_cons_self ..))
       have h2:=ihl λ x hx=>h x (List.mem_cons_of_mem _ hx)
       rw [List.map_cons,List.map_cons,qK,qK];omega
    exact this t.kids λ _ h=>h
   have h3:size t=1+szL t.kids:=qG t
   omega
theorem qp6:∀ (l:List Int),l.foldl thn 0=0→∀ y∈l,y=0
 | [],_,y,hy=>by cases hy
 | z::l,h,y,hy=>by
   rw [j7] at h
   by_cases hz:z=0
   ·subst hz
    rcases List.mem_cons.1 hy with rfl | hy
    ·rfl
    ·exact qp6 l h y hy
   ·rw [qH _ hz] at h;exact absurd h hz
theorem qfW {t:T} (h:t.kind≠3):zj t=(t,0):=by rw [qls,if_pos h]
theorem qGa {t:T} (h3:t.kind=3) (h:(zj t).2=0):(∀ k∈t.kids,(zj k).2=0)∧zj t=Q7 (apT t.name ((t.kids.map zj).map (·.1))):=by
 rw [qls,if_neg (λ hh=>hh h3)] at h ⊢
 split at h
 ·rename_i h1;exact absurd h h1
 ·rename_i h1
  rw [if_neg h1]
  refine ⟨λ k hk=>?_,rfl⟩
  exact qp6 _ (Decidable.of_not_not h1) _ (List.mem_map.2 ⟨_,List.mem_map.2 ⟨k,hk,rfl⟩,rfl⟩)
theorem qHn (l:List T) (h:∀ k∈l,k.kind≠3):(l.map zj).map (·.1)=l:=by
 induction l with
 | nil=>rfl
 | cons k l ih =>
   rw [List.map_cons,List.map_cons,qfW (h k (List.mem_cons_self ..)),ih λ x hx=>h x (List.mem_cons_of_mem _ hx)]
theorem qy5 {t:T} (h3:t.kind=3) (h:qaC t=0):qaC (apT t.name ((t.kids.map zj).map (·.1)))=0:=by
 obtain ⟨h1,h2,h4,h5⟩:=qyb h3 h
 refine qb9 h1 (by simpa using h2) (by simpa using h4) ?_
 unfold J1 at h5 ⊢
 show (if t.name=qhw then decide ((kid (apT t.name ((t.kids.map zj).map (·.1))) 0).kind≠2) else if t.name=nSk∨t.name=qqn then ((t.kids.map zj).map (·.1)).any λ k=>decide (k.kind=3)||decide (k.sort≠1) else false)=false
 split
 ·rename_i hn
  rw [if_pos hn] at h5
  have hk:(kid t 0).kind=2:=by simpa using h5
  cases hl:t.kids with
  | nil =>
    unfold kid at hk
    rw [hl] at hk
    exact absurd hk (by decide)
  | cons x r =>
    have hx:kid t 0=x:=by unfold kid;rw [hl];rfl
    rw [hx] at hk
    show decide ((zj x).1.kind≠2)=false
    rw [qfW (by omega)]
    simpa using hk
 ·rename_i hn
  rw [if_neg hn] at h5
  split
  ·rename_i hs
   rw [if_pos hs] at h5
   rw [qHn t.kids λ k hk hk3=>?_]
   ·exact h5
   ·have:=List.any_eq_false.1 h5 k hk
    rw [hk3] at this
    exact this rfl
  ·rfl
theorem qFP (t:T):qP t=0→(zj t).2=0→qP (zj t).1=0:=by
 refine T.ind (P := λ t=>qP t=0→(zj t).2=0→qP (zj t).1=0) ?_ t
 intro t ih hc h0
 by_cases h3:t.kind=3
 ·obtain ⟨h1,h2⟩:=qGa h3 h0
  obtain ⟨g1,g2⟩:=qfN h3 hc
  rw [h2] at h0 ⊢
  refine qFZ (λ k hk=>?_) (qy5 h3 g1) h0
  obtain ⟨q,hq,rfl⟩:=List.mem_map.1 hk
  obtain ⟨j,hj,rfl⟩:=List.mem_map.1 hq
  exact ih j hj (g2 j hj) (h1 j hj)
 ·rw [qfW h3];exact hc
end Go.AmYtbpnmbmdbblehaaGreat
namespace Go.AmYtbpnmbmdbblehaaGreat
open Go Go.GxYtbpnmbmdbblehaaGreat
theorem zm (t:T) {b:Bool} (h:zQ t=b):qiq t=if b then kid (kid t 0) (if t.name=quS then 1 else 0) else t:=by unfold qiq;rw [h]
theorem qbK {t:T} (h:qP t=0) {n:List UInt8} (hn:isN t n=true) {a b c:Int} (hs:qA n=(a,b,c)) {i:Nat} (hi:(i:Int)<a):qd t.kids (i:Int)=some (kid t i):=by
 have:=(qjx h hn hs).1
 exact qur (by omega)
theorem qC7 (t:T) (h3:t.kind=3) (hc:qP t=0) (hD:isD t.name=true) (hs:size t≤1000000000):Ev (λ m _=>J9 m t) (qiq t):=by
 have hz:∀ i,size (kid t i)≤size t:=JQ t
 have hzz:∀ i j,size (kid (kid t i) j)≤1000000000 := λ i j=>by have:=JQ (kid t i) j;have:=hz i;omega
 have hzzz:∀ i j k,size (kid (kid (kid t i) j) k)≤1000000000 := λ i j k=>by have:=JQ (kid (kid t i) j) k;have:=hzz i j;omega
 have hck:∀ i,qP (kid t i)=0 := λ i=>qaf Jr qa3 h3 hc i
 have hckk:∀ i j,(kid t i).kind=3→qP (kid (kid t i) j)=0 := λ i j h=>qaf Jr qa3 h (hck i) j
 have isT:isN t t.name=true:=yz.2 ⟨h3,rfl⟩
 have k0:∀ {u:T} {n:List UInt8},qP u=0→isN u n=true→∀ {b c:Int},qA n=(1,b,c)→qd u.kids 0=some (kid u 0) := λ h hn _ _ e=>qbK (i:=0) h hn e (by decide)
 have k20:∀ {u:T} {n:List UInt8},qP u=0→isN u n=true→∀ {b c:Int},qA n=(2,b,c)→qd u.kids 0=some (kid u 0) := λ h hn _ _ e=>qbK (i:=0) h hn e (by decide)
 have k21:∀ {u:T} {n:List UInt8},qP u=0→isN u n=true→∀ {b c:Int},qA n=(2,b,c)→qd u.kids 1=some (kid u 1) := λ h hn _ _ e=>qbK (i:=1) h hn e (by decide)
 have sP:qA qmt=(2,2,1):=by decide
 have sE:qA qdG=(2,2,1):=by decide
 have sA:qA qhK=(2,2,1):=by decide
 have sK:qA nPk=(1,1,1):=by decide
 have sS:qA qek=(2,2,1):=by decide
 unfold isD at hD
 simp only [Bool.or_eq_true,beq_iff_eq] at hD
 refine Ev.succ ?_
 simp only [qq4,qeP,qe]
 have one:∀ {a b c:Int},qA t.name=(a,b,c)→a=b→(t.kids.length:Int)=a := λ e hab=>by
  have:=qjx hc isT e;omega
 rcases hD with ((((hn | hn) | hn) | hn) | hn) | hn
 ·have hl:=one (a:=1) (b:=1) (c:=3) (by rw [hn];decide) rfl
  refine Ev.some (qdb (by omega)) (Ev.cf (qv.2 (by omega)) (Ev.ct (by rw [hn];rfl) (Ev.bind (qiM _ _) ?_)))
  have hf:zQ t=isN (kid t 0) qmt:=by unfold zQ;rw [if_pos (.inl hn)]
  refine Ev.ite (λ h=>?_) λ h=>?_
  ·refine Ev.some (k20 (hck 0) h sP) (Ev.ret ?_)
   rw [zm t (hf.trans h),if_pos rfl,if_neg (by rw [hn];decide)]
  ·refine Ev.ret ?_
   rw [zm t (hf.trans h),if_neg (by decide)]
 ·have hl:=one (a:=1) (b:=1) (c:=3) (by rw [hn];decide) rfl
  refine Ev.some (qdb (by omega)) (Ev.cf (qv.2 (by omega)) (Ev.cf (by rw [hn];rfl) (Ev.ct (by rw [hn];rfl) (Ev.bind (qiM _ _) ?_))))
  have hf:zQ t=isN (kid t 0) qmt:=by unfold zQ;rw [if_pos (.inr hn)]
  refine Ev.ite (λ h=>?_) λ h=>?_
  ·refine Ev.some (k21 (hck 0) h sP) (Ev.ret ?_)
   rw [zm t (hf.trans h),if_pos rfl,if_pos hn]
  ·refine Ev.ret ?_
   rw [zm t (hf.trans h),if_neg (by decide)]
 ·have hl:=one (a:=2) (b:=2) (c:=3) (by rw [hn];decide) rfl
  refine Ev.some (qdb (by omega)) (Ev.ct (qr.2 (by omega)) (Ev.some (qpw (by omega)) (Ev.cf (by rw [hn];rfl) (Ev.cf (by rw [hn];rfl) (Ev.ct (by rw [hn];rfl) (Ev.bind (qiM _ _) ?_))))))
  have hf:zQ t=(isN (kid t 0) qdG&&yy (kid (kid t 0) 1) (kid t 1)):=by unfold zQ;rw [if_neg (by rw [hn];decide),if_pos hn]
  refine Ev.ite (λ h=>?_) λ h=>?_
  ·refine Ev.some (k21 (hck 0) h sE) (Ev.bind (qmE _ _ (hzz 0 1) (by have:=hz 1;omega)) (Ev.ite (λ h2=>?_) λ h2=>?_))
   ·refine Ev.some (k20 (hck 0) h sE) (Ev.ret ?_)
    rw [zm t (b:=true) (by rw [hf,show isN (kid t 0) qdG=true from h,h2];rfl),if_pos rfl,if_neg (by rw [hn];decide)]
   ·refine Ev.ret ?_
    rw [zm t (b:=false) (by rw [hf,h2,Bool.and_false]),if_neg (by decide)]
  ·refine Ev.ret ?_
   rw [zm t (b:=false) (by rw [hf,show isN (kid t 0) qdG=false from h];rfl),if_neg (by decide)]
 ·have hl:=one (a:=2) (b:=2) (c:=3) (by rw [hn];decide) rfl
  refine Ev.some (qdb (by omega)) (Ev.ct (qr.2 (by omega)) (Ev.some (qpw (by omega)) (Ev.cf (by rw [hn];rfl) (Ev.cf (by rw [hn];rfl) (Ev.cf (by rw [hn];rfl) (Ev.ct (by rw [hn];rfl) (Ev.bind (qiM _ _) ?_)))))))
  have hf:zQ t=(isN (kid t 0) qhK&&isN (kid (kid t 0) 1) nPk&&yy (kid (kid (kid t 0) 1) 0) (kid t 1)):=by unfold zQ;rw [if_neg (by rw [hn];decide),if_neg (by rw [hn];decide),if_pos hn]
  refine Ev.ite (λ h=>?_) λ h=>?_
  ·have hk3:=(yz.1 h).1
   refine Ev.some (k21 (hck 0) h sA) (Ev.bind (qiM _ _) (Ev.ite (λ h2=>?_) λ h2=>?_))
   ·refine Ev.some (k21 (hck 0) h sA) (Ev.some (k0 (hckk 0 1 hk3) h2 sK) (Ev.bind (qmE _ _ (hzzz 0 1 0) (by have:=hz 1;omega)) (Ev.ite (λ h4=>?_) λ h4=>?_)))
    ·refine Ev.some (k20 (hck 0) h sA) (Ev.ret ?_)
     rw [zm t (b:=true) (by rw [hf,show isN (kid t 0) qhK=true from h,show isN (kid (kid t 0) 1) nPk=true from h2,h4];rfl),if_pos rfl,if_neg (by rw [hn];decide)]
    ·refine Ev.ret ?_
     rw [zm t (b:=false) (by rw [hf,h4,Bool.and_false]),if_neg (by decide)]
   ·refine Ev.ret ?_
    rw [zm t (b:=false) (by rw [hf,show isN (kid (kid t 0) 1) nPk=false from h2,Bool.and_false,Bool.false_and]),if_neg (by decide)]
  ·refine Ev.ret ?_
   rw [zm t (b:=false) (by rw [hf,show isN (kid t 0) qhK=false from h];rfl),if_neg (by decide)]
 ·have hl:=one (a:=2) (b:=2) (c:=3) (by rw [hn];decide) rfl
  refine Ev.some (qdb (by omega)) (Ev.ct (qr.2 (by omega)) (Ev.some (qpw (by omega)) (Ev.cf (by rw [hn];rfl) (Ev.cf (by rw [hn];rfl) (Ev.cf (by rw [hn];rfl) (Ev.cf (by rw [hn];rfl) (Ev.ct (by rw [hn];rfl) (Ev.bind (qiM _ _) ?_))))))))
  have hf:zQ t=(isN (kid t 0) qek&&isN (kid t 1) nPk&&yy (kid (kid t 0) 1) (kid (kid t 1) 0)):=by unfold zQ;rw [if_neg (by rw [hn];decide),if_neg (by rw [hn];decide),if_neg (by rw [hn];decide),if_pos hn]
  refine Ev.ite (λ h=>?_) λ h=>?_
  ·refine Ev.bind (qiM _ _) (Ev.ite (λ h2=>?_) λ h2=>?_)
   ·refine Ev.some (k21 (hck 0) h sS) (Ev.some (k0 (hck 1) h2 sK) (Ev.bind (qmE _ _ (hzz 0 1) (hzz 1 0)) (Ev.ite (λ h4=>?_) λ h4=>?_)))
    ·refine Ev.some (k20 (hck 0) h sS) (Ev.ret ?_)
     rw [zm t (b:=true) (by rw [hf,show isN (kid t 0) qek=true from h,show isN (kid t 1) nPk=true from h2,h4];rfl),if_pos rfl,if_neg (by rw [hn];decide)]
    ·refine Ev.ret ?_
     rw [zm t (b:=false) (by rw [hf,h4,Bool.and_false]),if_neg (by decide)]
   ·refine Ev.ret ?_
    rw [zm t (b:=false) (by rw [hf,show isN (kid t 1) nPk=false from h2,Bool.and_false,Bool.false_and]),if_neg (by decide)]
  ·refine Ev.ret ?_
   rw [zm t (b:=false) (by rw [hf,show isN (kid t 0) qek=false from h];rfl),if_neg (by decide)]
 ·have hl:=one (a:=1) (b:=1) (c:=3) (by rw [hn];decide) rfl
  refine Ev.some (qdb (by omega)) (Ev.cf (qv.2 (by omega)) (Ev.cf (by rw [hn];rfl) (Ev.cf (by rw [hn];rfl) (Ev.cf (by rw [hn];rfl) (Ev.cf (by rw [hn];rfl) (Ev.cf (by rw [hn];rfl) (Ev.ct (by rw [hn];rfl) (Ev.bind (qiM _ _) ?_))))))))
  have hf:zQ t=isN (kid t 0) qek:=by unfold zQ;rw [if_neg (by rw [hn];decide),if_neg (by rw [hn];decide),if_neg (by rw [hn];decide),if_neg (by rw [hn];decide),if_pos hn]
  refine Ev.ite (λ h=>?_) λ h=>?_
  ·refine Ev.some (k20 (hck 0) h sS) (Ev.ret ?_)
   rw [zm t (hf.trans h),if_pos rfl,if_neg (by rw [hn];decide)]
  ·refine Ev.ret ?_
   rw [zm t (hf.trans h),if_neg (by decide)]
end Go.AmYtbpnmbmdbblehaaGreat
namespace Go.AmYtbpnmbmdbblehaaGreat
open Go Go.GxYtbpnmbmdbblehaaGreat
noncomputable def qeQ:T→Prop:=T.para λ t rs=>(t.kind=3→t.sort=0)∧∀ p∈rs,p
theorem qlz (t:T):qeQ t↔(t.kind=3→t.sort=0)∧∀ k∈t.kids,qeQ k:=by
 have h:qeQ t=((t.kind=3→t.sort=0)∧∀ p∈t.kids.map qeQ,p):=T.para_eq _ _
 rw [h]
 refine and_congr_right λ _=>⟨λ h k hk=>h _ (List.mem_map_of_mem hk),λ h p hp=>?_⟩
 obtain ⟨k,hk,rfl⟩:=List.mem_map.1 hp
 exact h k hk
theorem qon:Cl qeQ := λ t _ h=>((qlz t).1 h).2
theorem qx1:qeQ zT:=(qlz zT).2 ⟨λ h=>absurd h (by decide),λ _ h=>by cases h⟩
theorem qBt (n:List UInt8) (ks:List T) (h:∀ k∈ks,qeQ k):qeQ (apT n ks):=(qlz _).2 ⟨λ _=>rfl,h⟩
theorem qDC {t:T} (h3:t.kind=3) (h:Qp t=0):t.sort=0:=by
 unfold Qp qet at h
 rw [if_neg (by omega),if_pos h3] at h
 split at h
 ·cases h
 ·omega
theorem qFA (t:T):zC t=0→qeQ t:=by
 refine T.ind (P := λ t=>zC t=0→qeQ t) ?_ t
 intro t ih h
 obtain ⟨h1,h2⟩:=qk6 h
 exact (qlz t).2 ⟨λ h3=>qDC h3 h1,λ k hk=>ih k hk (h2 k hk)⟩
theorem qqj {t:T} (h:qs t=0):zC t=0:=by
 unfold qs at h
 split at h
 ·rename_i h1;exact absurd h h1
 ·rename_i h1;exact Decidable.of_not_not h1
theorem qIE {P:T→Prop} (hP:Cl P) (hz:P zT) (hap:∀ n ks,(∀ k∈ks,P k)→P (apT n ks)) {n:List UInt8} {ks:List T} (hks:∀ k∈ks,P k):P (Q7 (apT n ks)).1:=by
 have ht:=hap n ks hks
 have hkid:∀ {t:T} (i:Nat),P t→t.kind=3→P (kid t i) := λ i h h3=>qaf hP hz h3 h i
 have hterm:∀ l:List Pw,(∀ p∈l,P p.1)→P (qaw l).1:=by
  intro l hl
  unfold qaw
  split
  ·exact hz
  ·split
   ·exact hz
   ·split
    ·exact hz
    ·have hall:∀ x∈zN l++zU l,P x := λ x hx=>by
       rcases List.mem_append.1 hx with hx | hx
       ·obtain ⟨p,hp,rfl⟩:=qxM hx
        exact hl p hp
       ·obtain ⟨p,hp,rfl⟩:=qyU hx
        exact hap _ _ λ k hk=>by rw [List.mem_singleton.1 hk];exact hl p hp
     show P (Jp _)
     generalize zN l++zU l=o at *
     unfold Jp
     split
     ·exact hap _ _ λ k hk=>by cases hk
     ·split
      ·exact qpE hz hall
      ·exact hap _ _ hall
 have hexp:∀ (b:T) (l:List Pw),P b→(∀ p∈l,P p.1)→P (qha b l).1:=by
  intro b l hb hl
  unfold qha
  split
  ·exact hb
  ·split
   ·exact hz
   ·refine hap _ _ λ k hk=>?_
    rcases List.mem_cons.1 hk with rfl | hk
    ·exact hb
    ·rw [List.mem_singleton.1 hk];exact hterm l hl
 unfold Q7
 split
 ·show P (qiq _)
  unfold qiq
  split
  ·rename_i hf
   have hk0:(kid (apT n ks) 0).kind=3:=by
    unfold zQ at hf
    split at hf
    ·exact (yz.1 hf).1
    ·split at hf
     ·rw [Bool.and_eq_true] at hf;exact (yz.1 hf.1).1
     ·split at hf
      ·rw [Bool.and_eq_true,Bool.and_eq_true] at hf;exact (yz.1 hf.1.1).1
      ·split at hf
       ·rw [Bool.and_eq_true,Bool.and_eq_true] at hf;exact (yz.1 hf.1.1).1
       ·split at hf
        ·exact (yz.1 hf).1
        ·cases hf
   exact hkid _ (hkid 0 ht rfl) hk0
  ·exact ht
 ·split
  ·unfold qmd
   split
   ·exact hz
   ·split
    ·exact hz
    ·have hall:=qwk hP hks
     show P (JH (zI ks))
     generalize zI ks=o at *
     unfold JH
     split
     ·exact hap _ _ λ k hk=>by cases hk
     ·split
      ·exact qpE hz hall
      ·exact hap _ _ hall
  ·split
   ·unfold qkN
    split
    ·exact hz
    ·exact hterm _ (qh5 hP ht)
   ·split
    ·have hb:=hkid (t:=apT n ks) 0 ht rfl
     have hy:=hkid (t:=apT n ks) 1 ht rfl
     generalize kid (apT n ks) 0=b at *
     generalize kid (apT n ks) 1=y at *
     unfold qmR
     split
     ·exact hz
     ·split
      ·rename_i hbe
       have hb3:=(yz.1 hbe).1
       split
       ·exact hz
       ·split
        ·exact hz
        ·exact hexp _ _ (hkid 0 hb hb3) (qBr (qh5 hP (hkid 1 hb hb3)) (qh5 hP hy))
      ·exact hexp _ _ hb (qh5 hP hy)
    ·exact ht
theorem qI0 {P:T→Prop} (hP:Cl P) (hz:P zT) (hap:∀ n ks,(∀ k∈ks,P k)→P (apT n ks)) (t:T):P t→P (zj t).1:=by
 refine T.ind (P := λ t=>P t→P (zj t).1) ?_ t
 intro t ih h
 rw [qls]
 split
 ·exact h
 ·rename_i h3
  split
  ·exact hz
  ·refine qIE hP hz hap λ k hk=>?_
   obtain ⟨q,hq,rfl⟩:=List.mem_map.1 hk
   obtain ⟨j,hj,rfl⟩:=List.mem_map.1 hq
   exact ih j hj (hP t (Decidable.of_not_not h3) h j hj)
theorem qBj {u x:T} (hc:qP u=0) (hs:qeQ u):yy u (apT nPk [x])=(isN u nPk&&yy (kid u 0) x):=by
 rw [Bool.eq_iff_iff,Bool.and_eq_true,jv,jv]
 constructor
 ·rintro rfl
  exact ⟨yz.2 ⟨rfl,rfl⟩,rfl⟩
 ·rintro ⟨h1,h2⟩
  obtain ⟨h3,hn⟩:=yz.1 h1
  have har:=qjx hc h1 (a:=1) (b:=1) (c:=1) (by decide)
  have hso:=((qlz u).1 hs).1 h3
  cases u with
  | mk k n so ks =>
    have h3:k=3:=h3
    have hn:n=nPk:=hn
    have hso:so=0:=hso
    have hl:ks.length=1:=by
     have h1:(1:Int)≤(ks.length:Int):=har.1
     have h2:(ks.length:Int)≤1:=har.2.1
     omega
    cases ks with
    | nil=>cases hl
    | cons y r =>
      cases r with
      | nil =>
        have:y=x:=h2
        subst h3;subst hn;subst hso;subst this;rfl
      | cons z r=>simp at hl
theorem qsB (a b:T):yy a b=yy b a:=by
 rw [Bool.eq_iff_iff,jv,jv];exact eq_comm
theorem qA1 (t:T) (h3:t.kind=3) (hc:qP t=0) (hso:qeQ t) (hD:isD t.name=true) (hs:size t≤900000000):Ev (λ m _=>qcF m t) (qiq t,zQ t):=by
 have hz:∀ i,size (kid t i)≤size t:=JQ t
 have hzz:∀ i j,size (kid (kid t i) j)≤900000000 := λ i j=>by have:=JQ (kid t i) j;have:=hz i;omega
 have hck:∀ i,qP (kid t i)=0 := λ i=>qaf Jr qa3 h3 hc i
 have hckk:∀ i j,(kid t i).kind=3→qP (kid (kid t i) j)=0 := λ i j h=>qaf Jr qa3 h (hck i) j
 have hsk:∀ i,qeQ (kid t i) := λ i=>qaf qon qx1 h3 hso i
 have hskk:∀ i j,(kid t i).kind=3→qeQ (kid (kid t i) j) := λ i j h=>qaf qon qx1 h (hsk i) j
 have isT:isN t t.name=true:=yz.2 ⟨h3,rfl⟩
 have k20:∀ {u:T} {n:List UInt8},qP u=0→isN u n=true→∀ {b c:Int},qA n=(2,b,c)→qd u.kids 0=some (kid u 0) := λ h hn _ _ e=>qbK (i:=0) h hn e (by decide)
 have k21:∀ {u:T} {n:List UInt8},qP u=0→isN u n=true→∀ {b c:Int},qA n=(2,b,c)→qd u.kids 1=some (kid u 1) := λ h hn _ _ e=>qbK (i:=1) h hn e (by decide)
 have sP:qA qmt=(2,2,1):=by decide
 have sE:qA qdG=(2,2,1):=by decide
 have sA:qA qhK=(2,2,1):=by decide
 have sS:qA qek=(2,2,1):=by decide
 unfold isD at hD
 simp only [Bool.or_eq_true,beq_iff_eq] at hD
 refine Ev.succ ?_
 simp only [qsn,qfx,qe]
 have one:∀ {a b c:Int},qA t.name=(a,b,c)→a=b→(t.kids.length:Int)=a := λ e hab=>by
  have:=qjx hc isT e;omega
 have size_pk:∀ x:T,size (apT nPk [x])=1+size x := λ x=>by rw [qG];show 1+(size x+0)=_;omega
 rcases hD with ((((hn | hn) | hn) | hn) | hn) | hn
 ·have hl:=one (a:=1) (b:=1) (c:=3) (by rw [hn];decide) rfl
  refine Ev.some (qdb (by omega)) (Ev.ct (by rw [hn];rfl) (Ev.bind (qh1 _ _) ?_))
  have hf:zQ t=isN (kid t 0) qmt:=by unfold zQ;rw [if_pos (.inl hn)]
  refine Ev.ite (λ h=>?_) λ h=>?_
  ·refine Ev.some (k20 (hck 0) h sP) (Ev.ret ?_)
   rw [zm t (hf.trans h),if_pos rfl,if_neg (by rw [hn];decide),hf.trans h]
  ·repeat (refine Ev.cf (by rw [hn];rfl) ?_)
   refine Ev.ret ?_
   rw [zm t (hf.trans h),if_neg (by decide),hf.trans h]
 ·have hl:=one (a:=1) (b:=1) (c:=3) (by rw [hn];decide) rfl
  refine Ev.some (qdb (by omega)) (Ev.cf (by rw [hn];rfl) (Ev.ct (by rw [hn];rfl) (Ev.bind (qh1 _ _) ?_)))
  have hf:zQ t=isN (kid t 0) qmt:=by unfold zQ;rw [if_pos (.inr hn)]
  refine Ev.ite (λ h=>?_) λ h=>?_
  ·refine Ev.some (k21 (hck 0) h sP) (Ev.ret ?_)
   rw [zm t (hf.trans h),if_pos rfl,if_pos hn,hf.trans h]
  ·repeat (refine Ev.cf (by rw [hn];rfl) ?_)
   refine Ev.ret ?_
   rw [zm t (hf.trans h),if_neg (by decide),hf.trans h]
 ·have hl:=one (a:=2) (b:=2) (c:=3) (by rw [hn];decide) rfl
  refine Ev.some (qdb (by omega)) (Ev.cf (by rw [hn];rfl) (Ev.cf (by rw [hn];rfl) (Ev.ct (by rw [hn];rfl) (Ev.bind (qh1 _ _) ?_))))
  have hf:zQ t=(isN (kid t 0) qdG&&yy (kid (kid t 0) 1) (kid t 1)):=by unfold zQ;rw [if_neg (by rw [hn];decide),if_pos hn]
  refine Ev.ite (λ h=>?_) λ h=>?_
  ·refine Ev.some (k21 (hck 0) h sE) (Ev.some (qpw (by omega)) (Ev.bind (qbi _ _ (by have:=hzz 0 1;omega) (by have:=hz 1;omega)) (Ev.ite (λ h2=>?_) λ h2=>?_)))
   ·have hb:zQ t=true:=by rw [hf,show isN (kid t 0) qdG=true from h,h2];rfl
    refine Ev.some (k20 (hck 0) h sE) (Ev.ret ?_)
    rw [zm t hb,if_pos rfl,if_neg (by rw [hn];decide),hb]
   ·have hb:zQ t=false:=by rw [hf,h2,Bool.and_false]
    repeat (refine Ev.cf (by rw [hn];rfl) ?_)
    refine Ev.ret ?_
    rw [zm t hb,if_neg (by decide),hb]
  ·have hb:zQ t=false:=by rw [hf,show isN (kid t 0) qdG=false from h];rfl
   repeat (refine Ev.cf (by rw [hn];rfl) ?_)
   refine Ev.ret ?_
   rw [zm t hb,if_neg (by decide),hb]
 ·have hl:=one (a:=2) (b:=2) (c:=3) (by rw [hn];decide) rfl
  refine Ev.some (qdb (by omega)) (Ev.cf (by rw [hn];rfl) (Ev.cf (by rw [hn];rfl) (Ev.cf (by rw [hn];rfl) (Ev.ct (by rw [hn];rfl) (Ev.bind (qh1 _ _) ?_)))))
  have hf:zQ t=(isN (kid t 0) qhK&&isN (kid (kid t 0) 1) nPk&&yy (kid (kid (kid t 0) 1) 0) (kid t 1)):=by unfold zQ;rw [if_neg (by rw [hn];decide),if_neg (by rw [hn];decide),if_pos hn]
  refine Ev.ite (λ h=>?_) λ h=>?_
  ·have hk3:=(yz.1 h).1
   refine Ev.some (k21 (hck 0) h sA) (Ev.some (qpw (by omega)) (Ev.bind (qbR nPk [kid t 1] (by simp)) (Ev.bind (qbi _ _ (by have:=hzz 0 1;omega) (by rw [size_pk];have:=hz 1;omega)) ?_)))
   rw [qBj (hckk 0 1 hk3) (hskk 0 1 hk3)]
   refine Ev.ite (λ h2=>?_) λ h2=>?_
   ·have hb:zQ t=true:=by rw [hf,show isN (kid t 0) qhK=true from h,Bool.true_and,h2]
    refine Ev.some (k20 (hck 0) h sA) (Ev.ret ?_)
    rw [zm t hb,if_pos rfl,if_neg (by rw [hn];decide),hb]
   ·have hb:zQ t=false:=by rw [hf,show isN (kid t 0) qhK=true from h,Bool.true_and,h2]
    repeat (refine Ev.cf (by rw [hn];rfl) ?_)
    refine Ev.ret ?_
    rw [zm t hb,if_neg (by decide),hb]
  ·have hb:zQ t=false:=by rw [hf,show isN (kid t 0) qhK=false from h];rfl
   repeat (refine Ev.cf (by rw [hn];rfl) ?_)
   refine Ev.ret ?_
   rw [zm t hb,if_neg (by decide),hb]
 ·have hl:=one (a:=2) (b:=2) (c:=3) (by rw [hn];decide) rfl
  refine Ev.some (qdb (by omega)) (Ev.cf (by rw [hn];rfl) (Ev.cf (by rw [hn];rfl) (Ev.cf (by rw [hn];rfl) (Ev.cf (by rw [hn];rfl) (Ev.ct (by rw [hn];rfl) (Ev.bind (qh1 _ _) ?_))))))
  have hf:zQ t=(isN (kid t 0) qek&&isN (kid t 1) nPk&&yy (kid (kid t 0) 1) (kid (kid t 1) 0)):=by unfold zQ;rw [if_neg (by rw [hn];decide),if_neg (by rw [hn];decide),if_neg (by rw [hn];decide),if_pos hn]
  refine Ev.ite (λ h=>?_) λ h=>?_
  ·refine Ev.some (qpw (by omega)) (Ev.some (k21 (hck 0) h sS) (Ev.bind (qbR nPk [kid (kid t 0) 1] (by simp)) (Ev.bind (qbi _ _ (by have:=hz 1;omega) (by rw [size_pk];have:=hzz 0 1;omega)) ?_)))
   rw [qBj (hck 1) (hsk 1),qsB (kid (kid t 1) 0)]
   refine Ev.ite (λ h2=>?_) λ h2=>?_
   ·have hb:zQ t=true:=by rw [hf,show isN (kid t 0) qek=true from h,Bool.true_and,h2]
    refine Ev.some (k20 (hck 0) h sS) (Ev.ret ?_)
    rw [zm t hb,if_pos rfl,if_neg (by rw [hn];decide),hb]
   ·have hb:zQ t=false:=by rw [hf,show isN (kid t 0) qek=true from h,Bool.true_and,h2]
    repeat (refine Ev.cf (by rw [hn];rfl) ?_)
    refine Ev.ret ?_
    rw [zm t hb,if_neg (by decide),hb]
  ·have hb:zQ t=false:=by rw [hf,show isN (kid t 0) qek=false from h];rfl
   repeat (refine Ev.cf (by rw [hn];rfl) ?_)
   refine Ev.ret ?_
   rw [zm t hb,if_neg (by decide),hb]
 ·have hl:=one (a:=1) (b:=1) (c:=3) (by rw [hn];decide) rfl
  refine Ev.some (qdb (by omega)) (Ev.cf (by rw [hn];rfl) (Ev.cf (by rw [hn];rfl) (Ev.cf (by rw [hn];rfl) (Ev.cf (by rw [hn];rfl) (Ev.cf (by rw [hn];rfl) (Ev.ct (by rw [hn];rfl) (Ev.bind (qh1 _ _) ?_)))))))
  have hf:zQ t=isN (kid t 0) qek:=by unfold zQ;rw [if_neg (by rw [hn];decide),if_neg (by rw [hn];decide),if_neg (by rw [hn];decide),if_neg (by rw [hn];decide),if_pos hn]
  refine Ev.ite (λ h=>?_) λ h=>?_
  ·refine Ev.some (k20 (hck 0) h sS) (Ev.ret ?_)
   rw [zm t (hf.trans h),if_pos rfl,if_neg (by rw [hn];decide),hf.trans h]
  ·repeat (refine Ev.cf (by rw [hn];rfl) ?_)
   refine Ev.ret ?_
   rw [zm t (hf.trans h),if_neg (by decide),hf.trans h]
end Go.AmYtbpnmbmdbblehaaGreat
namespace Go.AmYtbpnmbmdbblehaaGreat
open Go Go.GxYtbpnmbmdbblehaaGreat
theorem qh0 (t:T):szP (ofP t).1≤400:=by
 unfold ofP
 split
 ·exact Nat.zero_le _
 ·rename_i h
  split
  ·exact Nat.zero_le _
  ·split
   ·exact Nat.zero_le _
   ·have h1:=qCl t [] 1
    have h2:=jY (Decidable.of_not_not h)
    have h3:szP ([]:List Pw)=0:=rfl
    show szP (y8 t [] 1)≤_
    omega
theorem qBE (a b:List Pw):szP (qjq a b).1≤160000:=by
 unfold qjq
 split
 ·exact Nat.zero_le _
 ·rename_i h1
  split
  ·exact Nat.zero_le _
  ·rename_i h2
   split
   ·exact Nat.zero_le _
   ·split
    ·exact Nat.zero_le _
    ·obtain ⟨_,_,h,_⟩:=qf4 (Decidable.of_not_not h1) (Decidable.of_not_not h2) b.length
     rw [List.take_length] at h
     exact h
theorem qG6 (b e:T) (hb:qP b=0) (hsb:size b≤1000000000) (hse:size e≤1000000000):Ev (λ m _=>qdq m b e) (qmR b e):=by
 refine Ev.succ ?_
 simp only [qud,qga,qe]
 have fin:∀ (l:List Pw) (x:T),szP l≤1000000000→Ev (λ m _=>cond (ieq (l.length:Int) 0) (some (x,(0:Int))) (qa (jM m l) λ v=>cond (qc (ieq v.2 0)) (some (T.mk 0 [] 0 [],v.2)) (qa (qem m [101,120,112] [x,v.1]) λ w=>some (w,0)))) (qha x l):=by
  intro l x hl
  unfold qha
  refine Ev.ite (λ h=>?_) λ h=>?_
  ·rw [qj] at h
   rw [if_pos (by omega)];exact Ev.pure _
  ·rw [qh] at h
   rw [if_neg (by omega)]
   refine Ev.bind (qzM l hl) (Ev.ite (λ h=>?_) λ h=>?_)
   ·rw [bnt,qh] at h
    rw [if_pos h];exact Ev.pure _
   ·rw [bnf,qj] at h
    rw [if_neg (by omega)]
    exact Ev.bind (qJo _ _) (Ev.pure _)
 unfold qmR
 refine Ev.bind (qxV e hse) (Ev.ite (λ h=>?_) λ h=>?_)
 ·rw [bnt,qh] at h
  rw [if_pos h];exact Ev.pure _
 rw [bnf,qj] at h
 rw [if_neg (by omega)]
 refine Ev.bind (qiM _ _) (Ev.ite (λ hx=>?_) λ hx=>?_)
 ·rw [if_pos (show isN b qcV=true from hx)]
  have h1:=JQ b 1
  refine Ev.some (qbK (i:=1) hb hx (a:=2) (b:=2) (c:=1) (by decide) (by decide)) (Ev.bind (qxV _ (by omega)) (Ev.ite (λ h2=>?_) λ h2=>?_))
  ·rw [bnt,qh] at h2
   rw [if_pos h2];exact Ev.pure _
  rw [bnf,qj] at h2
  rw [if_neg (by omega)]
  have h3:=qh0 (kid b 1)
  have h4:=qh0 e
  have h5:=qBE (ofP (kid b 1)).1 (ofP e).1
  refine Ev.bind (qI1 _ _ (by omega) (by omega)) (Ev.ite (λ h2=>?_) λ h2=>?_)
  ·rw [bnt,qh] at h2
   rw [if_pos h2];exact Ev.pure _
  rw [bnf,qj] at h2
  rw [if_neg (by omega)]
  exact Ev.some (qbK (i:=0) hb hx (a:=2) (b:=2) (c:=1) (by decide) (by decide)) (fin _ _ (by omega))
 ·rw [if_neg (by rw [show isN b qcV=false from hx];decide)]
  have h4:=qh0 e
  exact fin _ _ (by omega)
theorem qGp (b e:T) (hb:qP b=0) (hsb:size b≤1000000000) (hse:size e≤1000000000):Ev (λ m _=>qe2 m b e) (qmR b e):=by
 refine Ev.succ ?_
 simp only [qxh,qhd,qe]
 have fin:∀ (l:List Pw) (x:T),szP l≤1000000000→Ev (λ m _=>cond (ieq (l.length:Int) 0) (some (x,(0:Int))) (qa (qa6 m l) λ v=>cond (qc (ieq v.2 0)) (some (T.mk 0 [] 0 [],v.2)) (qa (yC m [101,120,112] [x,v.1]) λ w=>some (w,0)))) (qha x l):=by
  intro l x hl
  unfold qha
  refine Ev.ite (λ h=>?_) λ h=>?_
  ·rw [qj] at h
   rw [if_pos (by omega)];exact Ev.pure _
  ·rw [qh] at h
   rw [if_neg (by omega)]
   refine Ev.bind (qze l hl) (Ev.ite (λ h=>?_) λ h=>?_)
   ·rw [bnt,qh] at h
    rw [if_pos h];exact Ev.pure _
   ·rw [bnf,qj] at h
    rw [if_neg (by omega)]
    exact Ev.bind (qbR _ _ (by simp)) (Ev.pure _)
 unfold qmR
 refine Ev.bind (qzO e hse) (Ev.ite (λ h=>?_) λ h=>?_)
 ·rw [bnt,qh] at h
  rw [if_pos h];exact Ev.pure _
 rw [bnf,qj] at h
 rw [if_neg (by omega)]
 refine Ev.bind (qh1 _ _) (Ev.ite (λ hx=>?_) λ hx=>?_)
 ·rw [if_pos (show isN b qcV=true from hx)]
  have h1:=JQ b 1
  refine Ev.some (qbK (i:=1) hb hx (a:=2) (b:=2) (c:=1) (by decide) (by decide)) (Ev.bind (qzO _ (by omega)) (Ev.ite (λ h2=>?_) λ h2=>?_))
  ·rw [bnt,qh] at h2
   rw [if_pos h2];exact Ev.pure _
  rw [bnf,qj] at h2
  rw [if_neg (by omega)]
  have h3:=qh0 (kid b 1)
  have h4:=qh0 e
  have h5:=qBE (ofP (kid b 1)).1 (ofP e).1
  refine Ev.bind (qIQ _ _ (by omega) (by omega)) (Ev.ite (λ h2=>?_) λ h2=>?_)
  ·rw [bnt,qh] at h2
   rw [if_pos h2];exact Ev.pure _
  rw [bnf,qj] at h2
  rw [if_neg (by omega)]
  exact Ev.some (qbK (i:=0) hb hx (a:=2) (b:=2) (c:=1) (by decide) (by decide)) (fin _ _ (by omega))
 ·rw [if_neg (by rw [show isN b qcV=false from hx];decide)]
  have h4:=qh0 e
  exact fin _ _ (by omega)
theorem qyM {t:T} (h:isD t.name=true):Q7 t=(qiq t,0):=by unfold Q7;rw [if_pos h]
theorem qyO {t:T} (h:t.name=qcU):Q7 t=qmd t.kids:=by unfold Q7;rw [if_neg (by rw [h];decide),if_pos h]
theorem qxY {t:T} (h:t.name=qeN∨t.name=Qh∨t.name=qgN):Q7 t=qkN t:=by
 unfold Q7
 rw [if_neg (by rcases h with h | h | h<;>rw [h]<;>decide),if_neg (by rcases h with h | h | h<;>rw [h]<;>decide),if_pos h]
theorem qyC {t:T} (h:t.name=qcV):Q7 t=qmR (kid t 0) (kid t 1):=by
 unfold Q7
 rw [if_neg (by rw [h];decide),if_neg (by rw [h];decide),if_neg (by rw [h];decide),if_pos h]
theorem qnT {t:T} (h1:isD t.name=false) (h2:t.name≠qcU) (h3:¬ (t.name=qeN∨t.name=Qh∨t.name=qgN)) (h4:t.name≠qcV):Q7 t=(t,0):=by
 unfold Q7
 rw [if_neg (by rw [h1];decide),if_neg h2,if_neg h3,if_neg h4]
theorem qE2 (n:List UInt8):(qA n).2.2=3↔isD n=true:=by
 constructor
 ·intro h
  rcases qs0 n with h1 | ⟨r,hr,hn,h1⟩
  ·rw [qtf h1] at h;cases h
  ·rw [qmN h1] at h
   have:jx.all (λ r => !decide (r.2.2.2=3)||isD r.1)=true:=by decide
   have:=List.all_eq_true.1 this r hr
   rw [decide_eq_true h] at this
   rw [← hn];exact this
 ·intro h
  unfold isD at h
  simp only [Bool.or_eq_true,beq_iff_eq] at h
  rcases h with ((((hn | hn) | hn) | hn) | hn) | hn<;>rw [hn]<;>decide
noncomputable def nks (l:List T):List T:=(l.map zj).map (·.1)
theorem qpB (l:List T):(nks l).length=l.length:=by unfold nks;simp
theorem qFM (l:List T):szL (nks l)≤402*szL l:=by
 induction l with
 | nil=>exact Nat.le_refl _
 | cons k l ih =>
   have:=qtX k
   show szL ((zj k).1::nks l)≤_
   rw [qK,qK];omega
theorem qzA {l:List T} {i:Nat} {x:T} (h:l[i]? = some x):nks (l.take (i+1))=nks (l.take i)++[(zj x).1]:=by
 unfold nks
 rw [zV h,List.map_append,List.map_append];rfl
noncomputable def erN (l:List T):Int:=((l.map zj).map (·.2)).foldl thn 0
theorem qzW {l:List T} {i:Nat} {x:T} (h:l.drop i=x::l.drop (i+1)):erN (l.drop i)=if (zj x).2≠0 then (zj x).2 else erN (l.drop (i+1)):=by
 unfold erN
 rw [h,List.map_cons,List.map_cons]
 by_cases hx:(zj x).2=0
 ·rw [if_neg (by omega),hx];rfl
 ·rw [if_pos hx];exact qH _ hx
theorem quH {t:T} (h3:t.kind=3):zj t=if erN t.kids≠0 then (zT,erN t.kids) else Q7 (apT t.name (nks t.kids)):=by rw [qls,if_neg (λ h=>h h3)];rfl
theorem qCm {t:T} (h3:t.kind=3) (hc:qP t=0) (he:∀ k∈t.kids,(zj k).2=0):qP (apT t.name (nks t.kids))=0∧∀ k∈nks t.kids,qP k=0:=by
 obtain ⟨g1,g2⟩:=qfN h3 hc
 have hk:∀ k∈nks t.kids,qP k=0 := λ k hk=>by
  obtain ⟨q,hq,rfl⟩:=List.mem_map.1 hk
  obtain ⟨j,hj,rfl⟩:=List.mem_map.1 hq
  exact qFP j (g2 j hj) (he j hj)
 exact ⟨qgJ (qy5 h3 g1) hk,hk⟩
theorem qEg (t:T):size t≤2000→qP t=0→Ev (λ m _=>zR m t) (zj t):=by
 induction t using T.ind with
 | h t ih =>
   intro hs hc
   have hl:=yM t
   have hz:=qG t
   refine Ev.succ ?_
   simp only [qsa,qcc,qe]
   by_cases h3:t.kind=3
   rotate_left
   ·refine Ev.ct (bnt.2 (qh.2 h3)) (Ev.ret (qfW h3).symm)
   refine Ev.cf (bnf.2 (qj.2 h3)) ?_
   rw [quH h3]
   have hck:=(qfN h3 hc).2
   have key:=qt (P := λ i=>(∀ k∈t.kids.take i,(zj k).2=0)→Ev (λ m k=>Qw m (zR m) k t.kids t.kids.length i t.kind t.name t.sort t.kids 0 [] 0 3 t.name 0 [] (nks (t.kids.take i))) (if erN (t.kids.drop i)≠0 then (zT,erN (t.kids.drop i)) else Q7 (apT t.name (nks t.kids)))) t.kids (by omega)
    (λ hlen he=>by
     refine Ev.loop ?_
     simp only [qjX,qb3,qe]
     refine Ev.cf hlen ?_
     rw [List.take_length] at he ⊢
     rw [List.drop_length,if_neg (show ¬ erN []≠0 from λ h=>h rfl)]
     obtain ⟨c1,c2⟩:=qCm h3 hc he
     have s1:=qFM t.kids
     have s2:szL t.kids+1=size t:=by unfold szL;omega
     have hnl:=qpB t.kids
     generalize nks t.kids=ks at *
     have hu:T.mk 3 t.name 0 ks=apT t.name ks:=rfl
     rw [hu]
     have su:size (apT t.name ks)=1+szL ks:=qG _
     have des:isD t.name=true→Ev (λ m _=>qa (J9 m (apT t.name ks)) λ v=>some (v,(0:Int))) (Q7 (apT t.name ks)) := λ hd=>by
      rw [qyM (show isD (apT t.name ks).name=true from hd)]
      exact Ev.bind (qC7 _ rfl c1 hd (by omega)) (Ev.pure _)
     have prod:t.name=qeN∨t.name=Qh∨t.name=qgN→Ev (λ m _=>qa (J6 m (apT t.name ks)) λ v=>cond (qc (ieq v.2 0)) (some (T.mk 0 [] 0 [],v.2)) (qa (jM m v.1) λ w=>some (w.1,w.2))) (Q7 (apT t.name ks)) := λ hm=>by
      rw [qxY (show (apT t.name ks).name=qeN∨(apT t.name ks).name=Qh∨(apT t.name ks).name=qgN from hm)]
      unfold qkN
      have h4:=qh0 (apT t.name ks)
      refine Ev.bind (qxV _ (by omega)) (Ev.ite (λ h=>?_) λ h=>?_)
      ·rw [bnt,qh] at h
       rw [if_pos h];exact Ev.pure _
      ·rw [bnf,qj] at h
       rw [if_neg (by omega)]
       exact Ev.bind (qzM _ (by omega)) (Ev.pure _)
     refine Ev.ite (λ h=>des (by rw [jb.1 h];decide)) λ h1=>?_
     refine Ev.ite (λ h=>des (by rw [jb.1 h];decide)) λ h2=>?_
     refine Ev.ite (λ h=>des (by rw [jb.1 h];decide)) λ h3'=>?_
     refine Ev.ite (λ h=>des (by rw [jb.1 h];decide)) λ h4=>?_
     refine Ev.ite (λ h=>des (by rw [jb.1 h];decide)) λ h5=>?_
     refine Ev.ite (λ h=>des (by rw [jb.1 h];decide)) λ h6=>?_
     refine Ev.ite (λ h=>?_) λ h7=>?_
     ·rw [qyO (show (apT t.name ks).name=qcU from jb.1 h)]
      exact Ev.bind (qJd ks (by omega)) (Ev.pure _)
     refine Ev.ite (λ h=>prod (.inl (jb.1 h))) λ h8=>?_
     refine Ev.ite (λ h=>prod (.inr (.inl (jb.1 h)))) λ h9=>?_
     refine Ev.ite (λ h=>prod (.inr (.inr (jb.1 h)))) λ h10=>?_
     refine Ev.ite (λ h=>?_) λ h11=>?_
     ·have hn:t.name=qcV:=jb.1 h
      rw [qyC (show (apT t.name ks).name=qcV from hn)]
      have isE:isN (apT t.name ks) qcV=true:=yz.2 ⟨rfl,hn⟩
      have q0:=JQ (apT t.name ks) 0
      have q1:=JQ (apT t.name ks) 1
      refine Ev.some (qbK (t:=apT t.name ks) (i:=0) c1 isE (a:=2) (b:=2) (c:=1) (by decide) (by decide)) (Ev.some (qbK (t:=apT t.name ks) (i:=1) c1 isE (a:=2) (b:=2) (c:=1) (by decide) (by decide)) ?_)
      exact Ev.bind (qG6 _ _ (qaf Jr qa3 rfl c1 0) (by omega) (by omega)) (Ev.pure _)
     ·rw [qnT (t:=apT t.name ks) (show isD t.name=false from by
          rw [← Bool.not_eq_true]
          intro hd
          unfold isD at hd
          simp only [Bool.or_eq_true,beq_iff_eq] at hd
          rcases hd with ((((hn | hn) | hn) | hn) | hn) | hn
          ·exact jl.1 h1 hn
          ·exact jl.1 h2 hn
          ·exact jl.1 h3' hn
          ·exact jl.1 h4 hn
          ·exact jl.1 h5 hn
          ·exact jl.1 h6 hn) (jl.1 h7) (λ h=>by rcases h with h | h | h;exact jl.1 h8 h;exact jl.1 h9 h;exact jl.1 h10 h) (jl.1 h11)]
      exact Ev.pure _)
    (λ i x hx hd hlen hg hi hP he=>by
     refine Ev.loop ?_
     simp only [qjX,qb3,qe]
     have hm:=List.mem_of_getElem? hx
     have hlt:=yO t x hm
     rw [qzW hd]
     refine Ev.ct hlen (Ev.some hg (Ev.bind (ih x hm (by omega) (hck x hm)) (Ev.ite (λ h=>?_) λ h=>?_)))
     ·rw [bnt,qh] at h
      rw [if_pos (show (if (zj x).2≠0 then (zj x).2 else erN (t.kids.drop (i+1)))≠0 from by rw [if_pos h];exact h),if_pos h]
      exact Ev.pure _
     ·rw [bnf,qj] at h
      rw [if_neg (show ¬ (zj x).2≠0 from by omega)]
      have h4:(nks (t.kids.take i)).length≤t.kids.length:=by rw [qpB,List.length_take];omega
      refine Ev.ct (qS (by omega) (by omega)) ?_
      have hP:=hP λ k hk=>by
       rw [zV hx] at hk
       rcases List.mem_append.1 hk with hk | hk
       ·exact he k hk
       ·rw [List.mem_singleton.1 hk];exact h
      rw [hi]
      refine hP.congr λ m k=>?_
      rw [qzA hx])
   have hk3:=h3
   refine Ev.diag (L := λ m k=>Qw m (zR m) k t.kids t.kids.length 0 t.kind t.name t.sort t.kids 0 [] 0 3 t.name 0 [] []) ?_
   exact (key 0 (Nat.zero_le _)) (λ k hk=>by rw [List.take_zero] at hk;cases hk)
theorem qDb (t:T):size t≤2000→qP t=0→qeQ t→Ev (λ m _=>yl m t) (zj t):=by
 induction t using T.ind with
 | h t ih =>
   intro hs hc hso
   have hl:=yM t
   have hz:=qG t
   refine Ev.succ ?_
   simp only [qtW,qda,qe]
   by_cases h3:t.kind=3
   rotate_left
   ·refine Ev.ct (bnt.2 (qh.2 h3)) (Ev.ret (qfW h3).symm)
   refine Ev.cf (bnf.2 (qj.2 h3)) ?_
   rw [quH h3]
   have hck:=(qfN h3 hc).2
   have key:=qt (P := λ i=>(∀ k∈t.kids.take i,(zj k).2=0)→Ev (λ m k=>Q8 m (yl m) k i t.kind t.name t.sort t.kids 0 [] 0 [] (nks (t.kids.take i))) (if erN (t.kids.drop i)≠0 then (zT,erN (t.kids.drop i)) else Q7 (apT t.name (nks t.kids)))) t.kids (by omega)
    (λ hlen he=>by
     refine Ev.loop ?_
     simp only [qkm,qdk,qe]
     refine Ev.cf hlen ?_
     rw [List.take_length] at he ⊢
     rw [List.drop_length,if_neg (show ¬ erN []≠0 from λ h=>h rfl)]
     obtain ⟨c1,c2⟩:=qCm h3 hc he
     have o1:qeQ (apT t.name (nks t.kids)):=qBt _ _ λ k hk=>by
      obtain ⟨q,hq,rfl⟩:=List.mem_map.1 hk
      obtain ⟨j,hj,rfl⟩:=List.mem_map.1 hq
      exact qI0 qon qx1 qBt j (qon t h3 hso j hj)
     have s1:=qFM t.kids
     have s2:szL t.kids+1=size t:=by unfold szL;omega
     have hnl:=qpB t.kids
     generalize nks t.kids=ks at *
     have su:size (apT t.name ks)=1+szL ks:=qG _
     have prod:t.name=qeN∨t.name=Qh∨t.name=qgN→Ev (λ m _=>qa (qaI m (apT t.name ks)) λ w=>some (w.1,w.2)) (Q7 (apT t.name ks)) := λ hm=>by
      rw [qxY (show (apT t.name ks).name=qeN∨(apT t.name ks).name=Qh∨(apT t.name ks).name=qgN from hm)]
      have h4:=qh0 (apT t.name ks)
      have:Ev (λ m _=>qaI m (apT t.name ks)) (qkN (apT t.name ks)):=by
       refine Ev.succ ?_
       simp only [qtL,qfA,qe]
       unfold qkN
       refine Ev.bind (qzO _ (by omega)) (Ev.ite (λ h=>?_) λ h=>?_)
       ·rw [bnt,qh] at h
        rw [if_pos h];exact Ev.pure _
       ·rw [bnf,qj] at h
        rw [if_neg (by omega)]
        exact Ev.bind (qze _ (by omega)) (Ev.pure _)
      exact Ev.bind this (Ev.pure _)
     have hksl:=ji ks
     refine Ev.bind (qbR t.name ks (by omega)) (Ev.bind (qt3 t.name) (Ev.ite (λ h=>?_) λ h1=>?_))
     ·have hd:=(qE2 t.name).1 (qj.1 h)
      rw [qyM (show isD (apT t.name ks).name=true from hd)]
      exact Ev.bind (qA1 _ rfl c1 o1 hd (by omega)) (Ev.pure _)
     refine Ev.ite (λ h=>?_) λ h7=>?_
     ·rw [qyO (show (apT t.name ks).name=qcU from jb.1 h)]
      exact Ev.bind (qIk ks (by omega)) (Ev.pure _)
     refine Ev.ite (λ h=>prod (.inl (jb.1 h))) λ h8=>?_
     refine Ev.ite (λ h=>prod (.inr (.inl (jb.1 h)))) λ h9=>?_
     refine Ev.ite (λ h=>prod (.inr (.inr (jb.1 h)))) λ h10=>?_
     refine Ev.ite (λ h=>?_) λ h11=>?_
     ·have hn:t.name=qcV:=jb.1 h
      rw [qyC (show (apT t.name ks).name=qcV from hn)]
      have isE:isN (apT t.name ks) qcV=true:=yz.2 ⟨rfl,hn⟩
      have q0:=JQ (apT t.name ks) 0
      have q1:=JQ (apT t.name ks) 1
      refine Ev.some (qbK (t:=apT t.name ks) (i:=0) c1 isE (a:=2) (b:=2) (c:=1) (by decide) (by decide)) (Ev.some (qbK (t:=apT t.name ks) (i:=1) c1 isE (a:=2) (b:=2) (c:=1) (by decide) (by decide)) ?_)
      exact Ev.bind (qGp _ _ (qaf Jr qa3 rfl c1 0) (by omega) (by omega)) (Ev.pure _)
     ·rw [qnT (t:=apT t.name ks) (show isD t.name=false from by
          rw [← Bool.not_eq_true,← qE2]
          exact qh.1 h1) (jl.1 h7) (λ h=>by rcases h with h | h | h;exact jl.1 h8 h;exact jl.1 h9 h;exact jl.1 h10 h) (jl.1 h11)]
      exact Ev.pure _)
    (λ i x hx hd hlen hg hi hP he=>by
     refine Ev.loop ?_
     simp only [qkm,qdk,qe]
     have hm:=List.mem_of_getElem? hx
     have hlt:=yO t x hm
     rw [qzW hd]
     refine Ev.ct hlen (Ev.some hg (Ev.bind (ih x hm (by omega) (hck x hm) (qon t h3 hso x hm)) (Ev.ite (λ h=>?_) λ h=>?_)))
     ·rw [bnt,qh] at h
      rw [if_pos (show (if (zj x).2≠0 then (zj x).2 else erN (t.kids.drop (i+1)))≠0 from by rw [if_pos h];exact h),if_pos h]
      exact Ev.pure _
     ·rw [bnf,qj] at h
      rw [if_neg (show ¬ (zj x).2≠0 from by omega)]
      have h4:(nks (t.kids.take i)).length≤t.kids.length:=by rw [qpB,List.length_take];omega
      refine Ev.ct (qS (by omega) (by omega)) ?_
      have hP:=hP λ k hk=>by
       rw [zV hx] at hk
       rcases List.mem_append.1 hk with hk | hk
       ·exact he k hk
       ·rw [List.mem_singleton.1 hk];exact h
      rw [hi]
      refine hP.congr λ m k=>?_
      rw [qzA hx])
   refine Ev.diag (L := λ m k=>Q8 m (yl m) k 0 t.kind t.name t.sort t.kids 0 [] 0 [] []) ?_
   exact (key 0 (Nat.zero_le _)) (λ k hk=>by rw [List.take_zero] at hk;cases hk)
theorem qgL (t:T):qhv t=if qg4 t≠0 then (zT,qg4 t) else if (zj t).2≠0 then (zT,(zj t).2) else if qs (zj t).1≠0 then (zT,qs (zj t).1) else zj t:=rfl
theorem qDz (t:T) (hs:size t≤1000000000):Ev (λ m _=>qcG m t) (qhv t):=by
 refine Ev.succ ?_
 simp only [qtt,qfI,qe]
 rw [qgL]
 refine Ev.bind (qI4 t hs) (Ev.ite (λ h=>?_) λ h=>?_)
 ·rw [bnt,qh] at h
  rw [if_pos h];exact Ev.pure _
 rw [bnf,qj] at h
 rw [if_neg (by omega)]
 obtain ⟨hv,hc⟩:=qks h
 have hz:=jY hv
 have hn:=qtX t
 refine Ev.bind (qEg t (by omega) hc) (Ev.ite (λ h2=>?_) λ h2=>?_)
 ·rw [qj] at h2
  rw [if_neg (by omega)]
  refine Ev.bind (Ju _ (by omega)) (Ev.ite (λ h3=>?_) λ h3=>?_)
  ·rw [bnt,qh] at h3
   rw [if_pos h3];exact Ev.pure _
  ·rw [bnf,qj] at h3
   rw [if_neg (by omega)]
   exact Ev.ret (by rw [← h2])
 ·rw [qh] at h2
  rw [if_pos h2]
  exact Ev.ct (bnt.2 (qh.2 h2)) (Ev.pure _)
theorem qC4 (t:T) (hs:size t≤1000000000):Ev (λ m _=>qdX m t) (qhv t):=by
 refine Ev.succ ?_
 simp only [quf,qgc,qe]
 rw [qgL]
 refine Ev.bind (qIW t hs) (Ev.ite (λ h=>?_) λ h=>?_)
 ·rw [bnt,qh] at h
  rw [if_pos h];exact Ev.pure _
 rw [bnf,qj] at h
 rw [if_neg (by omega)]
 obtain ⟨hv,hc⟩:=qks h
 have hz:=jY hv
 have hn:=qtX t
 refine Ev.bind (qDb t (by omega) hc (qFA t (qqj hv))) (Ev.ite (λ h2=>?_) λ h2=>?_)
 ·rw [bnt,qh] at h2
  rw [if_pos h2];exact Ev.pure _
 rw [bnf,qj] at h2
 rw [if_neg (by omega)]
 refine Ev.bind (qaN _ (by omega)) (Ev.ite (λ h3=>?_) λ h3=>?_)
 ·rw [bnt,qh] at h3
  rw [if_pos h3];exact Ev.pure _
 ·rw [bnf,qj] at h3
  rw [if_neg (by omega)]
  exact Ev.ret (by rw [← h2])
theorem qrX (t:T):size (qhv t).1≤400:=by
 rw [qgL]
 have:=qja
 split
 ·show size zT≤_;omega
 ·split
  ·show size zT≤_;omega
  ·split
   ·show size zT≤_;omega
   ·rename_i h
    exact jY (Decidable.of_not_not h)
end Go.AmYtbpnmbmdbblehaaGreat
namespace Go.AmYtbpnmbmdbblehaaGreat
open Go Go.GxYtbpnmbmdbblehaaGreat
noncomputable def qeZ (p:List UInt8→Bool):T→Bool:=T.para λ t rs=>(!(t.kind==3)||p t.name)&&rs.all id
theorem qkE (p:List UInt8→Bool) (t:T):qeZ p t=((!(t.kind==3)||p t.name)&&(t.kids.map (qeZ p)).all id):=T.para_eq _ _
noncomputable def Q0:T→List T:=T.para λ t rs=>t::rs.flatten
theorem qll (t:T):Q0 t=t::(t.kids.map Q0).flatten:=T.para_eq _ _
theorem qmo (t:T):(Q0 t).length=size t:=by
 refine T.ind (P := λ t=>(Q0 t).length=size t) ?_ t
 intro t ih
 rw [qll,qG,List.length_cons,List.length_flatten,List.map_map]
 have:t.kids.map (List.length ∘ Q0)=t.kids.map size:=List.map_congr_left λ k hk=>ih k hk
 rw [this];omega
theorem qIy (t:T):∀ u∈Q0 t,size u≤size t:=by
 refine T.ind (P := λ t=>∀ u∈Q0 t,size u≤size t) ?_ t
 intro t ih u hu
 rw [qll] at hu
 rcases List.mem_cons.1 hu with rfl | hu
 ·exact Nat.le_refl _
 ·obtain ⟨l,hl,hu⟩:=List.mem_flatten.1 hu
  obtain ⟨k,hk,rfl⟩:=List.mem_map.1 hl
  have h1:=ih k hk u hu
  have h2:=yO t k hk
  omega
theorem qDF (p:List UInt8→Bool) (t:T):(Q0 t).all (λ u => !(u.kind==3)||p u.name)=qeZ p t:=by
 refine T.ind (P := λ t=>(Q0 t).all (λ u => !(u.kind==3)||p u.name)=qeZ p t) ?_ t
 intro t ih
 rw [qll,qkE,List.all_cons,List.all_flatten]
 congr 1
 rw [List.all_map,List.all_map]
 rw [Bool.eq_iff_iff,List.all_eq_true,List.all_eq_true]
 exact ⟨λ h k hk=>(ih k hk).symm.trans (h k hk),λ h k hk=>(ih k hk).trans (h k hk)⟩
def pPl (n:List UInt8):Bool:=qc (ieq (qA n).2.2 3)
theorem qEL (n:List UInt8):Ev (λ m _=>qbM m n) (pPl n):=by
 refine Ev.succ ?_
 simp only [qrR,qeM]
 refine Ev.bind (qwj n) (Ev.ret ?_)
 unfold pPl
 rw [← qqo]
theorem qEi (t:T):size t≤1000000000→Ev (λ m _=>qJ m t) (qeZ pPl t):=by
 induction t using T.ind with
 | h t ih =>
   intro hs
   have hl:=yM t
   refine Ev.succ ?_
   simp only [qmj,JB]
   have key:=qt (P := λ i=>Ev (λ m k=>yk m (qJ m) k t.kids t.kids.length i) (((t.kids.drop i).map (qeZ pPl)).all id)) t.kids (by omega)
    (λ hc=>by
     refine Ev.loop ?_
     simp only [qfR,Jx]
     refine Ev.cf hc (Ev.ret ?_)
     rw [List.drop_length];rfl)
    (λ i x hx hd hc hg hi hP=>by
     refine Ev.loop ?_
     simp only [qfR,Jx,qe]
     have hm:=List.mem_of_getElem? hx
     have h1:=yO t x hm
     rw [hd,List.map_cons,List.all_cons]
     refine Ev.ct hc (Ev.some hg (Ev.bind (ih x hm (by omega)) (Ev.ite (λ hb=>?_) λ hb=>?_)))
     ·rw [bnt] at hb
      rw [hb];exact Ev.pure _
     ·rw [bnf] at hb
      rw [hb,hi]
      exact hP)
   have main:Ev (λ m _=>yk m (qJ m) m t.kids t.kids.length 0) ((t.kids.map (qeZ pPl)).all id) :=
    Ev.diag (L := λ m k=>yk m (qJ m) k t.kids t.kids.length 0) ((key 0 (Nat.zero_le _)).res (by rw [List.drop_zero]))
   rw [qkE]
   refine Ev.ite (λ h3=>?_) λ h3=>?_
   ·rw [qj] at h3
    have hk:(!(t.kind==3))=false:=by rw [h3];rfl
    rw [hk,Bool.false_or]
    refine Ev.bind (qEL t.name) (Ev.ite (λ h=>?_) λ h=>?_)
    ·rw [bnt] at h
     rw [h];exact Ev.pure _
    ·rw [bnf] at h
     rw [h];exact main
   ·rw [qh] at h3
    have hk:(!(t.kind==3))=true:=by rw [Bool.not_eq_true',beq_eq_false_iff_ne];exact h3
    rw [hk,Bool.true_or]
    exact main
theorem qCc (t:T):size t≤1000000000→Ev (λ m _=>jr m t) (Q0 t):=by
 induction t using T.ind with
 | h t ih =>
   intro hs
   have hl:=yM t
   have hln:=qmo t
   refine Ev.succ ?_
   simp only [qAW,qgW,qe]
   rw [qll] at hln ⊢
   have hpre:∀ i,((t.kids.take i).map Q0).flatten.length≤(t.kids.map Q0).flatten.length := λ i=>by
    have:=congrArg (λ l=>(l.map Q0).flatten.length) (List.take_append_drop i t.kids)
    simp only [List.map_append,List.flatten_append,List.length_append] at this
    omega
   have key:=qt (P := λ i=>Ev (λ m k=>qbl m (jr m) k i t.kind t.name t.sort t.kids (t::((t.kids.take i).map Q0).flatten)) (t::(t.kids.map Q0).flatten)) t.kids (by omega)
    (λ hc=>by
     refine Ev.loop ?_
     simp only [qnV,qgT]
     refine Ev.cf hc ?_
     rw [List.take_length];exact Ev.pure _)
    (λ i x hx hd hc hg hi hP=>by
     refine Ev.loop ?_
     simp only [qnV,qgT,qe]
     have hm:=List.mem_of_getElem? hx
     have h1:=yO t x hm
     have h2:=hpre (i+1)
     have e:((t.kids.take (i+1)).map Q0).flatten=((t.kids.take i).map Q0).flatten++Q0 x:=by
      rw [zV hx,List.map_append,List.flatten_append];simp
     rw [e,List.length_append] at h2
     rw [e] at hP
     rw [List.length_cons] at hln
     refine Ev.ct hc (Ev.some hg (Ev.bind (ih x hm (by omega)) (Ev.ct (qS (by rw [List.length_cons];omega) (by omega)) ?_)))
     rw [hi]
     exact hP)
   refine Ev.diag (L := λ m k=>qbl m (jr m) k 0 t.kind t.name t.sort t.kids [t]) ?_
   exact key 0 (Nat.zero_le _)
noncomputable def qaP (t:T):Bool:=decide ((qhv t).2=0)&&(yy (qhv t).1 t&&qeZ pPl t)
theorem qEn (t:T) (hs:size t≤1000000000):Ev (λ m _=>qdO m t) (qaP t):=by
 have h1:=qrX t
 refine Ev.succ ?_
 simp only [qum,qgl,qe]
 unfold qaP
 refine Ev.bind (qDz t hs) (Ev.ite (λ h=>?_) λ h=>?_)
 ·rw [qj] at h
  rw [decide_eq_true h,Bool.true_and]
  refine Ev.bind (qmE _ _ (by omega) hs) (Ev.ite (λ h2=>?_) λ h2=>?_)
  ·rw [h2,Bool.true_and]
   exact Ev.bind (qEi t hs) (Ev.pure _)
  ·rw [h2,Bool.false_and];exact Ev.pure _
 ·rw [qh] at h
  rw [decide_eq_false h,Bool.false_and];exact Ev.pure _
theorem qFf (t:T) (hs:size t≤1000000000):Ev (λ m _=>qeV m t) (qaP t):=by
 have h1:=qrX t
 refine Ev.succ ?_
 simp only [qxt,qee,qe]
 unfold qaP
 refine Ev.bind (qC4 t hs) (Ev.ite (λ h=>?_) λ h=>?_)
 ·rw [bnt,qh] at h
  rw [decide_eq_false h,Bool.false_and];exact Ev.pure _
 rw [bnf,qj] at h
 rw [decide_eq_true h,Bool.true_and,qsB]
 refine Ev.bind (qbi _ _ hs (by omega)) (Ev.ite (λ h2=>?_) λ h2=>?_)
 ·rw [bnt] at h2
  rw [h2,Bool.false_and];exact Ev.pure _
 rw [bnf] at h2
 rw [h2,Bool.true_and,← qDF]
 refine Ev.bind (qCc t hs) ?_
 have hln:=qmo t
 generalize Q0 t=l at *
 have key:=qt (P := λ i=>Ev (λ m k=>JM m k l i) ((l.drop i).all λ u => !(u.kind==3)||pPl u.name)) l (by omega)
  (λ hc=>by
   refine Ev.loop ?_
   simp only [qlJ,qex]
   refine Ev.cf hc (Ev.ret ?_)
   rw [List.drop_length];rfl)
  (λ i x hx hd hc hg hi hP=>by
   refine Ev.loop ?_
   simp only [qlJ,qex]
   rw [hd,List.all_cons]
   refine Ev.ct hc (Ev.some hg (Ev.ite (λ h3=>?_) λ h3=>?_))
   ·rw [qj] at h3
    have hk:(!(x.kind==3))=false:=by rw [h3];rfl
    rw [hk,Bool.false_or]
    refine Ev.some hg (Ev.bind (qt3 x.name) (Ev.ite (λ hk3=>?_) λ hk3=>?_))
    ·have:pPl x.name=false:=by unfold pPl;rw [hk3];rfl
     rw [this];exact Ev.pure _
    ·rw [hi]
     refine hP.res ?_
     have:pPl x.name=true:=by unfold pPl;rw [hk3];rfl
     rw [this];rfl
   ·rw [qh] at h3
    have hk:(!(x.kind==3))=true:=by rw [Bool.not_eq_true',beq_eq_false_iff_ne];exact h3
    rw [hk,Bool.true_or,hi,Bool.true_and]
    exact hP)
 refine Ev.diag (L := λ m k=>JM m k l 0) ?_
 exact (key 0 (Nat.zero_le _)).res (by rw [List.drop_zero])
end Go.AmYtbpnmbmdbblehaaGreat
namespace Go.AmYtbpnmbmdbblehaaGreat
open Go Go.GxYtbpnmbmdbblehaaGreat Go.Sort Go.Proofs Go.Proofs.YtbpnmbmdbblehaaGreat
noncomputable def zu (k:Int) (t:T):List T:=(Q0 t).filter λ x=>decide (x.kind=k)
noncomputable def qfU (t:T):Bool:=(zu 1 t).isEmpty
theorem qkQ (k:Int) (t:T):zu k t=(if t.kind=k then [t] else [])++(t.kids.map (zu k)).flatten:=by
 unfold zu
 rw [qll,List.filter_cons,List.filter_flatten,List.map_map]
 by_cases h:t.kind=k<;>simp [h,Function.comp_def,zu]
theorem qi3 (k:Int) (t:T):(zu k t).length≤size t:=by
 have:=List.length_filter_le (λ x:T=>decide (x.kind=k)) (Q0 t)
 rw [qmo] at this
 exact this
theorem qvt (k:Int) (t:T):∀ u∈zu k t,size u≤size t := λ u hu=>qIy t u ((List.mem_filter.1 hu).1)
theorem qBG {s:Nat}:∀ {l:List T},(∀ u∈l,size u≤s)→szL l≤l.length*s
 | [],_=>by simp [szL]
 | x::l,h=>by
   have:=qBG λ u hu=>h u (List.mem_cons_of_mem _ hu)
   have h1:=h x (List.mem_cons_self ..)
   rw [qK,List.length_cons,Nat.succ_mul];omega
theorem qG9 (x:T) (k:Int) (l:List T) (hl:l.length≤1000000000):Ev (λ m _=>QB m x k l) ((k,l++(if x.kind=k then [x] else []),()),()):=by
 refine Ev.succ ?_
 simp only [qlh,qaz,qe]
 by_cases h:x.kind=k
 ·rw [if_pos h]
  refine Ev.ct (qj.2 h) (Ev.ct (qS (by omega) (by omega)) (Ev.some (a:=T.mk 0 [] 0 []) (by rw [jt];simp) (Ev.ret ?_)))
  rw [qdu]
  simp
 ·rw [if_neg h,List.append_nil]
  exact Ev.cf (qh.2 h) (Ev.pure _)
theorem qI6 (t:T) (k:Int):size t≤1000000000→∀ l:List T,l.length+size t≤1000000000→Ev (λ m _=>zb m t k l) ((k,l++zu k t,()),()):=by
 induction t using T.ind with
 | h t ih =>
   intro hs l hl
   have hkl:=yM t
   refine Ev.succ ?_
   simp only [qnM,JY,qe]
   refine Ev.bind (qG9 t k l (by omega)) ?_
   simp only
   obtain ⟨l0,hl0⟩:∃ l0,l0=l++(if t.kind=k then [t] else []):=⟨_,rfl⟩
   rw [← hl0]
   have hfl:=qi3 k t
   rw [qkQ,List.length_append] at hfl
   have hl0n:l0.length+((t.kids.map (zu k)).flatten).length=l.length+((if t.kind=k then [t] else []).length+((t.kids.map (zu k)).flatten).length):=by rw [hl0,List.length_append];omega
   have hpre:∀ i,((t.kids.take i).map (zu k)).flatten.length≤(t.kids.map (zu k)).flatten.length := λ i=>by
    have:=congrArg (λ l=>(l.map (zu k)).flatten.length) (List.take_append_drop i t.kids)
    simp only [List.map_append,List.flatten_append,List.length_append] at this
    omega
   have hsz:∀ i x,t.kids[i]? = some x→l0.length+((t.kids.take i).map (zu k)).flatten.length+size x≤1000000000 := λ i x hx=>by
    have h1:((t.kids.take i).map (zu k)).flatten.length≤szL (t.kids.take i):=by
     have aux:∀ l:List T,((l.map (zu k)).flatten).length≤szL l:=by
      intro l
      induction l with
      | nil=>simp [szL]
      | cons y l ih'=>rw [List.map_cons,List.flatten_cons,List.length_append,qK];have:=qi3 k y;omega
     exact aux _
    have h2:=jQ hx
    have h3:szL t.kids+1≤size t:=by rw [qG];unfold szL;omega
    have h4:l0.length≤l.length+1:=by rw [hl0,List.length_append];split<;>simp
    omega
   have key:=qt (P := λ i=>Ev (λ m kk=>jd m (zb m) kk t.kids t.kids.length i k (l0++((t.kids.take i).map (zu k)).flatten)) ((k,l0++(t.kids.map (zu k)).flatten,()),())) t.kids (by omega)
    (λ hc=>by
     refine Ev.loop ?_
     simp only [qgI,J5]
     refine Ev.cf hc ?_
     rw [List.take_length];exact Ev.pure _)
    (λ i x hx hd hc hg hi hP=>by
     refine Ev.loop ?_
     simp only [qgI,J5,qe]
     have hm:=List.mem_of_getElem? hx
     have h1:=yO t x hm
     refine Ev.ct hc (Ev.some hg (Ev.bind (ih x hm (by omega) _ (by rw [List.length_append];exact hsz i x hx)) ?_))
     rw [hi]
     have e:((t.kids.take (i+1)).map (zu k)).flatten=((t.kids.take i).map (zu k)).flatten++zu k x:=by
      rw [zV hx,List.map_append,List.flatten_append];simp
     rw [e,← List.append_assoc] at hP
     exact hP)
   rw [qkQ,← List.append_assoc,← hl0]
   refine Ev.diag (L := λ m kk=>jd m (zb m) kk t.kids t.kids.length 0 k l0) ?_
   have:=key 0 (Nat.zero_le _)
   simpa using this
theorem qH3 {F G:T→T→Option Int} {l:List T} (h:∀ x∈l,∀ y∈l,F x y=G x y):QI F l=QI G l:=by
 funext i j
 unfold QI
 cases hx:l[i % l.length]? with
 | none=>rfl
 | some x=>cases hy:l[j % l.length]? with
   | none=>rfl
   | some y=>simp only;rw [h x (List.mem_of_getElem? hx) y (List.mem_of_getElem? hy)]
theorem qvD {β : Type} {F:T→T→Option β} {l:List T} (h:∀ x∈l,∀ y∈l,(F x y).isSome=true):qbP F l=true :=
 List.all_eq_true.2 λ x hx=>List.all_eq_true.2 λ y hy=>h x hx y hy
theorem qH7 {n:Nat} {lt:Nat→Nat→Bool} (h:SWO lt):qrF n lt=true:=by
 unfold qrF
 refine List.all_eq_true.2 λ i _=>?_
 rw [Bool.and_eq_true]
 refine ⟨by rw [h.irrefl];rfl,List.all_eq_true.2 λ j _=>List.all_eq_true.2 λ k _=>?_⟩
 rw [Bool.and_eq_true]
 constructor
 ·cases h1:lt i j with
  | false=>rfl
  | true=>cases h2:lt j k with
    | false=>rfl
    | true=>rw [h.trans i j k h1 h2];rfl
 ·cases h1:lt i j with
  | true=>rfl
  | false=>cases h2:lt j k with
    | true=>rfl
    | false=>rw [h.ntrans i j k h1 h2];rfl
theorem qKJ (l:List T):SWO (ltOf (QI (λ x y=>some (qp x y)) l)):=by
 have hlt:∀ i j,ltOf (QI (λ x y=>some (qp x y)) l) i j=true↔∃ x y,l[i % l.length]? = some x∧l[j % l.length]? = some y∧qp x y=-1 := λ i j=>by
  unfold ltOf QI
  rw [decide_eq_true_iff]
  cases hx:l[i % l.length]? with
  | none=>simp
  | some x=>cases hy:l[j % l.length]? with
    | none=>simp
    | some y =>
      simp only [Option.getD_some]
      have:=zL.rng x y
      constructor
      ·intro h;exact ⟨x,y,rfl,rfl,by omega⟩
      ·rintro ⟨_,_,h1,h2,h3⟩;cases h1;cases h2;omega
 refine ⟨λ i=>?_,λ i j k h1 h2=>?_,λ i j k h1 h2=>?_⟩
 ·rw [Bool.eq_false_iff]
  intro h
  obtain ⟨x,y,h1,h2,h3⟩:=(hlt _ _).1 h
  rw [h1] at h2;cases h2
  rw [qkz] at h3;cases h3
 ·obtain ⟨x,y,a1,a2,a3⟩:=(hlt _ _).1 h1
  obtain ⟨y',z,b1,b2,b3⟩:=(hlt _ _).1 h2
  rw [a2] at b1;cases b1
  exact (hlt _ _).2 ⟨x,z,a1,b2,zL.trans x y z a3 b3⟩
 ·rw [Bool.eq_false_iff] at h1 h2 ⊢
  intro h
  obtain ⟨x,z,a1,a2,a3⟩:=(hlt _ _).1 h
  have hn:0<l.length:=by have:=getElem?_lt a1;omega
  obtain ⟨y,hj⟩:∃ y,l[j % l.length]? = some y:=⟨_,List.getElem?_eq_getElem (Nat.mod_lt _ hn)⟩
  have n1:qp x y≠-1 := λ he=>h1 ((hlt _ _).2 ⟨x,_,a1,hj,he⟩)
  have n2:qp y z≠-1 := λ he=>h2 ((hlt _ _).2 ⟨_,z,hj,a2,he⟩)
  have r1:=zL.rng x y
  have r2:=zL.rng y z
  rcases r1 with r1 | r1 | r1
  ·exact n1 r1
  ·have:=Jv _ _ r1
   rw [← this] at n2;exact n2 a3
  ·rcases r2 with r2 | r2 | r2
   ·exact n2 r2
   ·have:=Jv _ _ r2
    rw [this] at n1;exact n1 a3
   ·have e1:qp y x=-1:=by rw [zL.anti];omega
    have e2:qp z y=-1:=by rw [zL.anti];omega
    have e3:=zL.trans _ _ _ e2 e1
    have e4:=zL.anti x z
    omega
theorem qyp {β : Type} {F:Nat→T→T→Option β} {g:T→T → β} (l:List T) (h:∀ x∈l,∀ y∈l,Ev (λ m _=>F m x y) (g x y)):∃ B,∀ m,B≤m→∀ x∈l,∀ y∈l,F m x y=some (g x y):=by
 have one:∀ (x:T),(∀ y∈l,Ev (λ m _=>F m x y) (g x y))→∀ r:List T,(∀ y∈r,y∈l)→∃ B,∀ m,B≤m→∀ y∈r,F m x y=some (g x y):=by
  intro x hx r
  induction r with
  | nil=>exact λ _=>⟨0,λ _ _ y hy=>by cases hy⟩
  | cons y r ih =>
    intro hr
    obtain ⟨B,hB⟩:=ih λ z hz=>hr z (List.mem_cons_of_mem _ hz)
    obtain ⟨D,hD⟩:=hx y (hr y (List.mem_cons_self ..))
    refine ⟨max B D,λ m hm z hz=>?_⟩
    rcases List.mem_cons.1 hz with rfl | hz
    ·exact hD m D (by omega) (Nat.le_refl _)
    ·exact hB m (by omega) z hz
 have two:∀ r:List T,(∀ y∈r,y∈l)→∃ B,∀ m,B≤m→∀ x∈r,∀ y∈l,F m x y=some (g x y):=by
  intro r
  induction r with
  | nil=>exact λ _=>⟨0,λ _ _ y hy=>by cases hy⟩
  | cons x r ih =>
    intro hr
    obtain ⟨B,hB⟩:=ih λ z hz=>hr z (List.mem_cons_of_mem _ hz)
    obtain ⟨D,hD⟩:=one x (h x (hr x (List.mem_cons_self ..))) l λ _ h=>h
    refine ⟨max B D,λ m hm z hz=>?_⟩
    rcases List.mem_cons.1 hz with rfl | hz
    ·exact hD m (by omega)
    ·exact hB m (by omega) z hz
 exact two l λ _ h=>h
theorem qyG {α : Type} {l:List α} {ix:List Nat}:∀ x∈pick l ix,x∈l := λ x hx=>by
 unfold pick at hx
 obtain ⟨i,_,h⟩:=List.mem_filterMap.1 hx
 exact List.mem_of_getElem? h
theorem qIu (l:List T) (hl:l.length≤100000) (hs:∀ t∈l,size t≤1000000000):∃ l',Ev (λ m _=>qV m l) l'∧l'.length=l.length∧∀ x∈l',x∈l:=by
 cases hl0:l with
 | nil=>exact ⟨[],Ev.succ (Ev.congr (Ev.pure _) λ m _=>rfl),rfl,λ x h=>h⟩
 | cons x0 r0 =>
   rw [← hl0]
   obtain ⟨B,hB⟩:=qyp (F := λ m x y=>qu m x y) l λ x hx y hy=>qba x (hs x hx) y (hs y hy)
   have hne:l≠[]:=by rw [hl0];exact List.cons_ne_nil _ _
   have hO:=qKJ l
   obtain ⟨hp,_⟩:=qqe (λ x y=>some (qp x y)) l hO
   have hlt:∀ i∈qan (λ x y=>some (qp x y)) l,i<l.length := λ i hi=>List.mem_range.1 (hp.mem_iff.1 hi)
   refine ⟨pick l (qan (λ x y=>some (qp x y)) l),Ev.succ ⟨B,λ m k hm _=>?_⟩,by rw [qmQ hlt,hp.length_eq,List.length_range],qyG⟩
   show qV (m+1) l=_
   rw [qbV]
   have hcf:QI (qu m) l=QI (λ x y=>some (qp x y)) l:=qH3 (hB m hm)
   have hall:qbP (qu m) l=true:=qvD λ x hx y hy=>by rw [hB m hm x hx y hy];rfl
   have hix:qan (qu m) l=qan (λ x y=>some (qp x y)) l:=by unfold qan;rw [hcf]
   have e:qpC (qu m) l=cond (Nat.ble l.length 100000&&(qbP (qu m) l&&qrF l.length (ltOf (QI (qu m) l)))) (some (pick l (qan (qu m) l))) none:=by rw [hl0];rfl
   rw [e,hcf,hall,hix,qH7 hO,show Nat.ble l.length 100000=true from Nat.ble_eq_true_of_le hl]
   rfl
theorem qDL (l:List T) (hl:l.length≤100000) (hs:∀ t∈l,size t≤1000000000):∃ l',Ev (λ m _=>qF m l) ((),l',())∧(l'=[]↔l=[])∧l'.length≤l.length∧∀ x∈l',x∈l:=by
 cases hl0:l with
 | nil=>exact ⟨[],Ev.succ (Ev.congr (Ev.pure _) λ m _=>rfl),Iff.rfl,Nat.le_refl _,λ x h=>h⟩
 | cons x0 r0 =>
   rw [← hl0]
   obtain ⟨B,hB⟩:=qyp (F := λ m x y=>yg m x y) (g := λ x y=>ieq (qp x y) 0) l λ x hx y hy=>by
    refine Ev.succ ?_
    simp only [qrv,qeG,qe]
    exact Ev.bind (qba x (hs x hx) y (hs y hy)) (Ev.pure _)
   have hne:l≠[]:=by rw [hl0];exact List.cons_ne_nil _ _
   have hpos:0<l.length:=List.length_pos_iff.2 hne
   obtain ⟨ef,hef⟩:∃ ef,ef=qjC (λ x y=>some (ieq (qp x y) 0)) l:=⟨_,rfl⟩
   have hlt:∀ i∈zt ef l.length,i<l.length:=qv3
   have hlen:(zt ef l.length).length≤l.length:=by
    have:=List.length_filter_le (λ i=>decide (i=0) || !ef i (i-1)) (List.range l.length)
    rw [List.length_range] at this
    exact this
   have h0:0∈zt ef l.length:=List.mem_filter.2 ⟨List.mem_range.2 hpos,by simp⟩
   refine ⟨pick l (zt ef l.length),Ev.succ ⟨B,λ m k hm _=>?_⟩,⟨λ h=>?_,λ h=>absurd h hne⟩,by rw [qmQ hlt];exact hlen,qyG⟩
   ·show qF (m+1) l=_
    rw [qaU]
    have hee:qjC (yg m) l=ef:=by
     rw [hef]
     funext i j
     unfold qjC
     cases hx:l[i % l.length]? with
     | none=>rfl
     | some x=>cases hy:l[j % l.length]? with
       | none=>rfl
       | some y=>simp only;rw [hB m hm x (List.mem_of_getElem? hx) y (List.mem_of_getElem? hy)]
    have hall:qbP (yg m) l=true:=qvD λ x hx y hy=>by rw [hB m hm x hx y hy];rfl
    have e:qxH (yg m) l=cond (Nat.ble l.length 100000&&qbP (yg m) l) (some (pick l (zt (qjC (yg m) l) l.length))) none:=by rw [hl0];rfl
    unfold qsU
    rw [e,hall,hee,show Nat.ble l.length 100000=true from Nat.ble_eq_true_of_le hl]
    rfl
   ·have:=qmQ hlt
    rw [h] at this
    have h1:=List.length_pos_of_mem h0
    simp at this
    omega
theorem qDR (l:List T) (hl:l.length≤100000) (hs:∀ t∈l,size t≤1000000000):∃ l',Ev (λ m _=>qdJ m l) ((),l',())∧(l'=[]↔l=[]):=by
 obtain ⟨l1,e1,n1,m1⟩:=qIu l hl hs
 obtain ⟨l2,e2,n2,n3,m2⟩:=qDL l1 (by omega) λ t ht=>hs t (m1 t ht)
 refine ⟨l2,?_,n2.trans ⟨λ h=>List.eq_nil_of_length_eq_zero (by rw [← n1,h];rfl),λ h=>List.eq_nil_of_length_eq_zero (by rw [n1,h];rfl)⟩⟩
 refine Ev.succ ?_
 simp only [quO,qdd]
 refine Ev.bind e1 (Ev.ct (by rw [n1,Nat.beq_refl]) (Ev.bind e2 ?_))
 have key:=qt (P := λ i=>Ev (λ m k=>Ja m k l2.length i l2) ((),l2,())) l2 (by omega)
  (λ hc=>by
   refine Ev.loop ?_
   simp only [qkZ,qdn]
   exact Ev.cf hc (Ev.pure _))
  (λ i x hx hd hc hg hi hP=>by
   refine Ev.loop ?_
   simp only [qkZ,qdn,qe]
   refine Ev.ct hc (Ev.some hg (Ev.bind (ql2 x (hs x (m1 x (m2 x (List.mem_of_getElem? hx))))) (Ev.some hg ?_)))
   rw [hi]
   have e:jW l2 (i:Int) x=l2:=by
    rw [qdu]
    apply List.ext_getElem?
    intro j
    by_cases hj:i=j
    ·subst hj;rw [List.getElem?_set_self (getElem?_lt hx)];exact hx.symm
    ·rw [List.getElem?_set_ne hj]
   rw [e]
   exact hP)
 exact Ev.diag (L := λ m k=>Ja m k l2.length 0 l2) (key 0 (Nat.zero_le _))
theorem qIC (t:T) (hs:size t≤100000):∃ l,Ev (λ m _=>qh3 m t) l∧(l=[]↔zu 1 t=[]):=by
 obtain ⟨l,h1,h2⟩:=qDR (zu 1 t) (Nat.le_trans (qi3 1 t) hs) λ u hu=>by have:=qvt 1 t u hu;omega
 refine ⟨l,?_,h2⟩
 refine Ev.succ ?_
 simp only [qAs,qjM,qe]
 refine Ev.bind (a:=l) (Ev.succ ?_) (Ev.pure _)
 simp only [qwx,qg3,qe]
 have hw:=qI6 t 1 (by omega) [] (by rw [List.length_nil];omega)
 rw [List.nil_append] at hw
 exact Ev.bind hw (Ev.bind h1 (Ev.ret rfl))
noncomputable def yc (t:T):Bool:=qaP t&&qfU t
theorem ql7 (t:T) (hs:size t≤100000):Ev (λ m _=>jR m t) (yc t):=by
 obtain ⟨l,h1,h2⟩:=qIC t hs
 refine Ev.succ ?_
 simp only [qsV,qfC,qe]
 refine Ev.bind (qEn t (by omega)) ?_
 unfold yc qfU
 cases qaP t with
 | false=>exact Ev.cf rfl (Ev.pure _)
 | true =>
   refine Ev.ct rfl (Ev.bind h1 (Ev.ret ?_))
   rw [Bool.true_and]
   by_cases h:zu 1 t=[]
   ·rw [h,h2.2 h];rfl
   ·have hl:l≠[] := λ hl=>h (h2.1 hl)
    have hp:0<l.length:=List.length_pos_iff.2 hl
    rw [qh.2 (by omega)]
    cases hk:zu 1 t with
    | nil=>exact absurd hk h
    | cons x r=>rfl
theorem qBT (l:List T) (t:T):Qq l t≠[]:=by
 cases l with
 | nil=>simp [Qq]
 | cons x l =>
   unfold Qq
   repeat' split
   all_goals exact List.cons_ne_nil _ _
theorem qJC (l:List T) (hs:szL l≤1000000000):Ev (λ m _=>qhR m l) (l.foldl Qq []):=by
 have hll:=ji l
 refine Ev.succ ?_
 simp only [qA5,qge]
 have fs:∀ (l acc:List T),szL (l.foldl Qq acc)≤szL acc+szL l:=by
  intro l
  induction l with
  | nil=>intro acc;simp [szL]
  | cons x l ih=>intro acc;rw [List.foldl_cons,qK];have:=ih (Qq acc x);have:=qux x acc;omega
 have key:=qt (P := λ i=>Ev (λ m k=>qbm m k l ((l.take i).foldl Qq []) i) (l.foldl Qq [])) l (by omega)
  (λ hc=>by
   refine Ev.loop ?_
   simp only [qop,qf7]
   refine Ev.cf hc ?_
   rw [List.take_length];exact Ev.pure _)
  (λ i x hx hd hc hg hi hP=>by
   refine Ev.loop ?_
   simp only [qop,qf7,qe]
   have h1:=fs (l.take i) []
   have h2:=jQ hx
   have h0:szL ([]:List T)=0:=rfl
   refine Ev.ct hc (Ev.some hg (Ev.bind (qEJ _ x (by omega)) ?_))
   rw [hi,qqq]
   rw [zV hx,List.foldl_append] at hP
   exact hP)
 exact Ev.diag (L := λ m k=>qbm m k l [] 0) (key 0 (Nat.zero_le _))
theorem qFr (l:List T):l.foldl Qq []=[]↔l=[]:=by
 constructor
 ·intro h
  cases hl:l with
  | nil=>rfl
  | cons x r =>
    exfalso
    have ne:∀ (r acc:List T),acc≠[]→r.foldl Qq acc≠[]:=by
     intro r
     induction r with
     | nil=>intro acc h;exact h
     | cons y r ih=>intro acc _;exact ih _ (qBT _ _)
    rw [hl,List.foldl_cons] at h
    exact ne r _ (qBT _ _) h
 ·intro h;rw [h];rfl
theorem qFR (t:T) (k:Int) (hs:size t≤10000):Ev (λ m _=>qgE m t k) ((zu k t).foldl Qq []):=by
 refine Ev.succ ?_
 simp only [qyL,qfk,qe]
 refine Ev.bind (qCc t (by omega)) ?_
 have hlen:=qmo t
 have hksz:szL (zu k t)≤1000000000:=by
  have h1:=qBG (qvt k t)
  have h2:(zu k t).length*size t≤10000*10000:=Nat.mul_le_mul (Nat.le_trans (qi3 k t) hs) hs
  omega
 have key:=qt (P := λ i=>Ev (λ m kk=>qat m kk k (Q0 t) i (((Q0 t).take i).filter λ x=>decide (x.kind=k))) ((zu k t).foldl Qq [])) (Q0 t) (by omega)
  (λ hc=>by
   refine Ev.loop ?_
   simp only [qnA,qfa]
   refine Ev.cf hc ?_
   rw [List.take_length]
   exact Ev.bind (qJC (zu k t) hksz) (Ev.pure _))
  (λ i x hx hd hc hg hi hP=>by
   refine Ev.loop ?_
   simp only [qnA,qfa,qe]
   have h3:=List.length_filter_le (λ x:T=>decide (x.kind=k)) ((Q0 t).take i)
   have h4:=List.length_take_le' i (Q0 t)
   rw [zV hx,List.filter_append] at hP
   refine Ev.ct hc (Ev.some hg ?_)
   by_cases hk:x.kind=k
   ·refine Ev.ct (qj.2 hk) (Ev.some hg (Ev.ct (qS (by omega) (by omega)) ?_))
    rw [hi]
    simpa [hk] using hP
   ·refine Ev.cf (qh.2 hk) ?_
    rw [hi]
    simpa [hk] using hP)
 exact Ev.diag (L := λ m kk=>qat m kk k (Q0 t) 0 []) (key 0 (Nat.zero_le _))
theorem qmn (t:T) (hs:size t≤10000):Ev (λ m _=>Qo m t) (yc t):=by
 refine Ev.succ ?_
 simp only [qvc,qgg,qe]
 refine Ev.bind (qFf t (by omega)) ?_
 unfold yc qfU
 cases qaP t with
 | false=>exact Ev.cf rfl (Ev.pure _)
 | true =>
   have hv:Ev (λ m _=>qf9 m t) ((zu 1 t).foldl Qq []):=by
    refine Ev.succ ?_
    simp only [qxP,qii,qe]
    exact Ev.bind (qFR t 1 hs) (Ev.pure _)
   have hg:Ev (λ m _=>qdp m t) (zu 1 t).isEmpty:=by
    refine Ev.succ ?_
    simp only [qvq,qgv,qe]
    refine Ev.bind hv (Ev.ret ?_)
    by_cases h:zu 1 t=[]
    ·rw [h];rfl
    ·have hl:(zu 1 t).foldl Qq []≠[] := λ hl=>h ((qFr _).1 hl)
     have hp:0<((zu 1 t).foldl Qq []).length:=List.length_pos_iff.2 hl
     rw [qh.2 (by omega)]
     cases hk:zu 1 t with
     | nil=>exact absurd hk h
     | cons x r=>rfl
   rw [Bool.true_and]
   exact Ev.ct rfl (Ev.bind hg (Ev.pure _))
end Go.AmYtbpnmbmdbblehaaGreat
namespace Go.AmYtbpnmbmdbblehaaGreat
theorem qE7 (n:Nat):qbb (n+3000)=some true:=by kernel_rfl
end Go.AmYtbpnmbmdbblehaaGreat
namespace Go.AmYtbpnmbmdbblehaaGreat
open Go Go.GxYtbpnmbmdbblehaaGreat
abbrev Rt:=T × (Int × (List (Int × T) × Int))
theorem qlY (t:T):T.mk t.kind t.name t.sort t.kids=t:=qe t
theorem qtg:Ev (λ m _=>qbb m) true:=⟨3000,λ m k hm _=>by
 obtain ⟨n,rfl⟩:∃ n,m=n+3000:=⟨m-3000,by omega⟩
 exact qE7 n⟩
theorem qoM (t:T) (hs:size t≤1000000000):Ev (λ m _=>yQ m t) t:=by
 have hA:Ev (λ m _=>qlk m t []) (t,0):=by
  refine Ev.succ ?_
  simp only [qEz,qiT]
  refine Ev.diag (L := λ m k=>qfM m k [] (([]:List Int).length) 0 t.kind t.name t.sort t.kids 0 [] 0 []) (Ev.loop ?_)
  simp only [qCT,qna,qlY,qe]
  exact Ev.cf rfl (Ev.bind (ql2 t hs) (Ev.pure _))
 refine Ev.succ ?_
 simp only [qqU,qeI,qe]
 exact Ev.bind hA (Ev.pure _)
def nHa:List UInt8:=[104,97,115,104]
def nPa:List UInt8:=[112,97,105,114]
def nCh:List UInt8:=[99,104,97,105,110]
def nMs:List UInt8:=[109,101,115,115,97,103,101]
def qcS (s:List UInt8):T := .mk 2 s 5 []
def qc4 (c w:T):T := .mk 3 nHa 0 [.mk 3 nPa 0 [c,w]]
def jF (c:T):T:=qc4 c (qcS nCh)
def yA (c:T):T:=qc4 c (qcS nMs)
theorem qka (s:List UInt8):size (qcS s)=1:=by rw [qG];rfl
theorem qsL (c w:T):size (qc4 c w)=size c+size w+2:=by
 unfold qc4
 rw [qG]
 show 1+([T.mk 3 nPa 0 [c,w]].map size).sum=_
 rw [List.map_cons,List.map_nil,List.sum_cons,List.sum_nil,qG]
 show 1+(1+([c,w].map size).sum+0)=_
 simp only [List.map_cons,List.map_nil,List.sum_cons,List.sum_nil]
 omega
theorem qb1 (c:T):size (jF c)=size c+3:=by unfold jF;rw [qsL,qka]
theorem qfy (c:T):size (yA c)=size c+3:=by unfold yA;rw [qsL,qka]
theorem qs3 (c w:T) (h1:size c≤1000000000) (h2:size w≤1000000000):Ev (λ m _=>Jz m c w) (qc4 c w):=by
 refine Ev.succ ?_
 simp only [qp5,qdv,qe]
 exact Ev.bind (qoM c h1) (Ev.bind (qoM w h2) (Ev.pure _))
theorem qEI (s:List UInt8):Ev (λ m _=>qe0 m s) (qcS s):=Ev.succ (Ev.pure _)
theorem qBM (c:T) (h:size c≤1000000000):Ev (λ m _=>qbO m c) (jF c):=by
 refine Ev.succ ?_
 simp only [qtY,qf8,qe]
 exact Ev.bind (qEI _) (Ev.bind (qs3 c _ h (by rw [qka];omega)) (Ev.pure _))
theorem qE9 (c:T) (h:size c≤1000000000):Ev (λ m _=>qcO m c) (yA c):=by
 refine Ev.succ ?_
 simp only [qxv,qhi,qe]
 exact Ev.bind (qEI _) (Ev.bind (qs3 c _ h (by rw [qka];omega)) (Ev.pure _))
theorem qqh (c:T) (s:List UInt8):Ev (λ m _=>qaH m c s) (qc4 c (qcS s)):=by
 refine Ev.succ ?_
 simp only [qsA,qfG,qe]
 refine Ev.bind (a:=qcS s) (Ev.succ (Ev.pure _)) (Ev.bind (qbR _ _ (by simp)) (Ev.bind (qbR _ _ (by simp)) (Ev.ret rfl)))
theorem qro (c:T):Ev (λ m _=>jN m c) (jF c):=by
 refine Ev.succ ?_
 simp only [qzJ,qio,qe]
 exact Ev.bind (qqh c _) (Ev.ret rfl)
theorem qBc (c:T):Ev (λ m _=>qaV m c) (yA c):=by
 refine Ev.succ ?_
 simp only [qAN,qjO,qe]
 exact Ev.bind (qqh c _) (Ev.ret rfl)
theorem qBf (t:T) (h:size t≤1000000000):Ev (λ m _=>qaR m t) (!decide (qs t=0)):=by
 refine Ev.succ ?_
 simp only [qzi,qij,qe]
 refine Ev.bind (qaN t h) (Ev.ret ?_)
 by_cases h0:qs t=0
 ·rw [qj.2 h0,decide_eq_true h0];rfl
 ·rw [qh.2 h0,decide_eq_false h0];rfl
def t00:T := .mk 0 [] 0 []
end Go.AmYtbpnmbmdbblehaaGreat
namespace Go.AmYtbpnmbmdbblehaaGreat
open Go Go.GxYtbpnmbmdbblehaaGreat
theorem Ev.iff {α : Type} {F G:Nat→Nat→Option α} {r s : α} {b:Bool} {p:Prop} [Decidable p] (hb:b=true↔p) (h:p→Ev F r) (g:¬p→Ev G s):Ev (λ m k=>cond b (F m k) (G m k)) (if p then r else s):=by
 by_cases hp:p
 ·rw [if_pos hp];exact Ev.ct (hb.2 hp) (h hp)
 ·rw [if_neg hp];exact Ev.cf (Bool.eq_false_iff.2 λ e=>hp (hb.1 e)) (g hp)
noncomputable def yb (n:Int):Int→List (Int × T)→Int
 | _,[]=>0
 | last,s::l=>if s.1≤last then 1 else if n≤s.1 then 1 else if yc s.2=false then 1 else yb n s.1 l
noncomputable def Jy (r:Rt):Int :=
 if yc r.1=false then 1 else if r.2.1<0 then 1 else if 1000<r.2.1 then 1 else if r.2.2.2<0 then 1 else if 8<r.2.2.2 then 1
 else if r.2.2.2<(r.2.2.1.length:Int) then 1 else yb r.2.1 (-1) r.2.2.1
def Small (s:Nat) (r:Rt):Prop:=r.2.2.1.length<2 ^ 40∧size r.1≤s∧∀ x∈r.2.2.1,size x.2≤s
theorem qqa (r:Rt) (h:Small 10000 r):Ev (λ m _=>qaG m r) (Jy r):=by
 obtain ⟨c,n,l,w⟩:=r
 obtain ⟨hl,h0,h1⟩:=h
 simp only at hl h0 h1
 refine Ev.succ ?_
 simp only [qsH,qcs,qe]
 refine Ev.bind (ql7 c (by omega)) ?_
 unfold Jy
 refine Ev.iff bnt (λ _=>Ev.pure _) λ _=>Ev.iff qr (λ _=>Ev.pure _) λ _=>Ev.iff qr (λ _=>Ev.pure _) λ _=>Ev.iff qr (λ _=>Ev.pure _) λ _=>Ev.iff qr (λ _=>Ev.pure _) λ _=>Ev.iff qr (λ _=>Ev.pure _) λ _=>?_
 have key:=qt (P := λ i=>∀ last,Ev (λ m k=>Qt m k last l l.length i c.kind c.name c.sort c.kids n l w) (yb n last (l.drop i))) l (by omega)
  (λ hc last=>by
   refine Ev.loop ?_
   simp only [qjt,qb8]
   rw [List.drop_length]
   exact Ev.cf hc (Ev.pure _))
  (λ i x hx hd hc hg hi hP last=>by
   refine Ev.loop ?_
   simp only [qjt,qb8,qe]
   rw [hd]
   refine Ev.ct hc (Ev.some hg (Ev.iff qcf (λ _=>Ev.pure _) λ _=>Ev.iff qcf (λ _=>Ev.pure _) λ _=>?_))
   refine Ev.bind (ql7 x.2 (by have:=h1 x (List.mem_of_getElem? hx);omega)) (Ev.iff bnt (λ _=>Ev.pure _) λ _=>?_)
   rw [hi]
   exact hP x.1)
 exact Ev.diag (L := λ m k=>Qt m k (-1) l l.length 0 c.kind c.name c.sort c.kids n l w) (key 0 (Nat.zero_le _) (-1))
theorem qAI (r:Rt) (h:Small 10000 r):Ev (λ m _=>qcN m r) (Jy r):=by
 obtain ⟨c,n,l,w⟩:=r
 obtain ⟨hl,h0,h1⟩:=h
 simp only at hl h0 h1
 refine Ev.succ ?_
 simp only [qxr,qd4,qe]
 refine Ev.bind (qmn c h0) ?_
 unfold Jy
 refine Ev.iff bnt (λ _=>Ev.pure _) λ _=>Ev.iff qr (λ _=>Ev.pure _) λ _=>Ev.iff qr (λ _=>Ev.pure _) λ _=>Ev.iff qr (λ _=>Ev.pure _) λ _=>Ev.iff qr (λ _=>Ev.pure _) λ _=>Ev.iff qr (λ _=>Ev.pure _) λ _=>?_
 have key:=qt (P := λ i=>∀ last,Ev (λ m k=>JG m k last i c.kind c.name c.sort c.kids n l w) (yb n last (l.drop i))) l (by omega)
  (λ hc last=>by
   refine Ev.loop ?_
   simp only [qlZ,qeD]
   rw [List.drop_length]
   exact Ev.cf hc (Ev.pure _))
  (λ i x hx hd hc hg hi hP last=>by
   refine Ev.loop ?_
   simp only [qlZ,qeD,qe]
   rw [hd]
   refine Ev.ct hc (Ev.some hg (Ev.iff qcf (λ _=>Ev.pure _) λ _=>Ev.some hg (Ev.iff qcf (λ _=>Ev.pure _) λ _=>Ev.some hg ?_)))
   refine Ev.bind (qmn x.2 (h1 x (List.mem_of_getElem? hx))) (Ev.iff bnt (λ _=>Ev.pure _) λ _=>Ev.some hg ?_)
   rw [hi]
   exact hP x.1)
 exact Ev.diag (L := λ m k=>JG m k (-1) 0 c.kind c.name c.sort c.kids n l w) (key 0 (Nat.zero_le _) (-1))
def qjE (r:Rt):List T:=r.1::r.2.2.1.map (·.2)
theorem qDH (r:Rt) (h:r.2.2.1.length<2 ^ 40):Ev (λ m _=>qdB m r) (qjE r):=by
 obtain ⟨c,n,l,w⟩:=r
 have hl:=h
 simp only at hl
 refine Ev.succ ?_
 simp only [quI,qdc,qe]
 have key:=qt (P := λ i=>∀ o,o.length≤i+1→Ev (λ m k=>Jb m k i c.kind c.name c.sort c.kids n l w o) (o++(l.drop i).map (·.2))) l (by omega)
  (λ hc o ho=>by
   refine Ev.loop ?_
   simp only [qkS,qc5]
   rw [List.drop_length,List.map_nil,List.append_nil]
   exact Ev.cf hc (Ev.pure _))
  (λ i x hx hd hc hg hi hP o ho=>by
   refine Ev.loop ?_
   simp only [qkS,qc5,qe]
   have hb:=getElem?_lt hx
   refine Ev.ct hc (Ev.some hg (Ev.ct (qS (by omega) (by omega)) ?_))
   have hP':=hP (o++[x.2]) (by rw [List.length_append,List.length_singleton];omega)
   rw [List.append_assoc,List.singleton_append] at hP'
   rw [hi,hd,List.map_cons]
   exact hP')
 refine Ev.diag (L := λ m k=>Jb m k 0 c.kind c.name c.sort c.kids n l w [c]) ?_
 exact key 0 (Nat.zero_le _) [c] (by simp)
noncomputable def qsv (r:Rt):Bool:=decide (r.2.2.1.length≤12)&&(decide ((qjE r).length≤13)&&qmu (qjE r) 600)
theorem qHL (r:Rt) (hl:r.2.2.1.length<2 ^ 62) (hf:∀ x∈qjE r,qjk x):Ev (λ m _=>qhX m r) (qsv r):=by
 obtain ⟨c,n,l,w⟩:=r
 refine Ev.succ ?_
 simp only [qA7,qjs,qe]
 unfold qsv
 by_cases h:l.length≤12
 ·refine Ev.ct (qcf.2 (by omega)) (Ev.bind (qDH _ (by show l.length<_;omega)) (Ev.bind (qE5 _ (by show (l.map _).length+1<_;rw [List.length_map];omega) hf 13 600 (by omega) (by omega)) (Ev.ret ?_)))
  rw [decide_eq_true (show ((c,n,l,w):Rt).2.2.1.length≤12 from h),Bool.true_and]
 ·refine Ev.cf (qiW.2 (by omega)) (Ev.ret ?_)
  rw [decide_eq_false (show ¬((c,n,l,w):Rt).2.2.1.length≤12 from h)];rfl
def qDg (r:Rt):Prop:=qjk r.1∧(IntKind.i64.min≤r.2.1∧r.2.1≤IntKind.i64.max)∧(r.2.2.1.length<2 ^ 62∧∀ x∈r.2.2.1,(IntKind.i64.min≤x.1∧x.1≤IntKind.i64.max)∧qjk x.2)∧(IntKind.i64.min≤r.2.2.2∧r.2.2.2≤IntKind.i64.max)
theorem qDg.fit {r:Rt} (h:qDg r):∀ x∈qjE r,qjk x := λ x hx=>by
 rcases List.mem_cons.1 hx with rfl | hx
 ·exact h.1
 ·obtain ⟨y,hy,rfl⟩:=List.mem_map.1 hx
  exact (h.2.2.1.2 y hy).2
theorem qAZ {r:Rt} (h:qsv r=true):Small 600 r∧r.2.2.1.length≤12:=by
 unfold qsv at h
 rw [Bool.and_eq_true,Bool.and_eq_true,decide_eq_true_iff] at h
 have hs:=qyY (by omega) h.2.2
 exact ⟨⟨by have:=h.1;omega,by have:=hs r.1 (List.mem_cons_self ..);omega,λ x hx=>by have:=hs x.2 (List.mem_cons_of_mem _ (List.mem_map.2 ⟨x,hx,rfl⟩));omega⟩,h.1⟩
theorem Small.mono {a b:Nat} {r:Rt} (h:Small a r) (hab:a≤b):Small b r:=⟨h.1,Nat.le_trans h.2.1 hab,λ x hx=>Nat.le_trans (h.2.2 x hx) hab⟩
end Go.AmYtbpnmbmdbblehaaGreat
namespace Go.AmYtbpnmbmdbblehaaGreat
open Go Go.GxYtbpnmbmdbblehaaGreat
theorem qeU {c:T} (h:qaP c=true):qs c=0∧qP c=0∧zj c=(c,0)∧qeZ pPl c=true:=by
 unfold qaP at h
 rw [Bool.and_eq_true,Bool.and_eq_true,decide_eq_true_iff] at h
 obtain ⟨h1,h2,h3⟩:=h
 rw [jv] at h2
 rw [qgL] at h1 h2
 by_cases a1:qg4 c=0
 ·rw [if_neg (by rw [a1];decide)] at h1 h2
  by_cases a2:(zj c).2=0
  ·rw [if_neg (by rw [a2];decide)] at h1 h2
   by_cases a3:qs (zj c).1=0
   ·rw [if_neg (by rw [a3];decide)] at h1 h2
    exact ⟨(qks a1).1,(qks a1).2,Prod.ext h2 a2,h3⟩
   ·rw [if_pos a3] at h1;exact absurd h1 a3
  ·rw [if_pos a2] at h1;exact absurd h1 a2
 ·rw [if_pos a1] at h1;exact absurd h1 a1
theorem qy9 {c:T} (h1:qs c=0) (h2:qP c=0) (h3:zj c=(c,0)) (h4:qeZ pPl c=true):qaP c=true:=by
 have hv:qg4 c=0:=by unfold qg4;rw [h1,h2];rfl
 have hn:qhv c=(c,0):=by
  rw [qgL,if_neg (by rw [hv];decide),h3,if_neg (λ h=>h rfl),if_neg (by show ¬ qs c≠0;rw [h1];decide)]
 unfold qaP
 rw [hn,h4,Bool.and_true,Bool.and_eq_true]
 exact ⟨decide_eq_true rfl,jv.2 rfl⟩
theorem qFx {n:List UInt8} {ks:List T} (hk:∀ k∈ks,qaP k=true) (hK:qaC (apT n ks)=0) (hp:pPl n=true) (h1:isD n=false) (h2:n≠qcU) (h3:¬ (n=qeN∨n=Qh∨n=qgN)) (h4:n≠qcV) (hv:qs (apT n ks)=0):qaP (apT n ks)=true:=by
 have hks:nks ks=ks:=by
  unfold nks
  rw [List.map_map]
  conv=>rhs;rw [← List.map_id ks]
  exact List.map_congr_left λ k hk'=>by rw [Function.comp_apply,(qeU (hk k hk')).2.2.1];rfl
 have her:erN ks=0:=qjV _ λ y hy=>by
  obtain ⟨x,hx,rfl⟩:=List.mem_map.1 hy
  obtain ⟨k,hk',rfl⟩:=List.mem_map.1 hx
  rw [(qeU (hk k hk')).2.2.1]
 refine qy9 hv (qgJ hK λ k hk'=>(qeU (hk k hk')).2.1) ?_ ?_
 ·rw [quH rfl]
  show (if erN ks≠0 then _ else Q7 (apT n (nks ks)))=_
  rw [if_neg (by rw [her];decide),hks,qnT (t:=apT n ks) h1 h2 h3 h4]
 ·rw [qkE,Bool.and_eq_true]
  constructor
  ·show (!((3:Int)==3)||pPl n)=true
   rw [hp,Bool.or_true]
  ·rw [List.all_eq_true]
   intro x hx
   obtain ⟨k,hk',rfl⟩:=List.mem_map.1 hx
   exact (qeU (hk k hk')).2.2.2
theorem qCL {n:List UInt8} {ks:List T} (hk:∀ k∈ks,qfU k=true):qfU (apT n ks)=true:=by
 have:zu 1 (apT n ks)=[]:=by
  rw [qkQ,if_neg (by show ¬ ((3:Int)=1);decide),List.nil_append,List.flatten_eq_nil_iff]
  intro l hl
  obtain ⟨k,hk',rfl⟩:=List.mem_map.1 hl
  exact List.isEmpty_iff.1 (hk k hk')
 unfold qfU
 rw [this];rfl
theorem qvZ {n:List UInt8} {ks:List T} (hk:∀ k∈ks,yc k=true) (hK:qaC (apT n ks)=0) (hp:pPl n=true) (h1:isD n=false) (h2:n≠qcU) (h3:¬ (n=qeN∨n=Qh∨n=qgN)) (h4:n≠qcV) (hv:qs (apT n ks)=0):yc (apT n ks)=true:=by
 unfold yc
 rw [Bool.and_eq_true]
 have hk':∀ k∈ks,qaP k=true∧qfU k=true := λ k h=>by have:=hk k h;unfold yc at this;rwa [Bool.and_eq_true] at this
 exact ⟨qFx (λ k h=>(hk' k h).1) hK hp h1 h2 h3 h4 hv,qCL λ k h=>(hk' k h).2⟩
theorem qn9 {t k:T} (h:qs t=0) (hk:k∈t.kids):qs k=0:=by
 have hn:=qqj h
 have hk0:=(qk6 hn).2 k hk
 unfold qs at h ⊢
 rw [if_neg (by rw [hn];decide)] at h
 rw [if_neg (by rw [hk0];decide),if_neg]
 have h1:¬ (400<size t∨40<Qk t) := λ h'=>by rw [if_pos h'] at h;exact absurd h (by decide)
 have h2:=yO t k hk
 have h3:Qk k≤Qk t:=by
  rw [qbG t]
  have aux:∀ (l:List T),k∈l→∀ a,Qk k≤(l.map Qk).foldl max a:=by
   intro l
   induction l with
   | nil=>intro h;cases h
   | cons x l ih =>
     intro h a
     rw [List.map_cons,List.foldl_cons]
     rcases List.mem_cons.1 h with rfl | h
     ·exact Nat.le_trans (Nat.le_max_right _ _) (qyo _ _)
     ·exact ih h _
  have:=aux t.kids hk 0
  omega
 omega
theorem qsj {c w:T} (hc:yc c=true) (hw:yc w=true) (hv:qs (qc4 c w)=0):yc (qc4 c w)=true:=by
 have hp:yc (apT nPa [c,w])=true:=by
  refine qvZ (λ k hk=>?_) (qb9 (by decide) (show (qA nPa).1≤2 by decide) (show 2≤(qA nPa).2.1 by decide) (qfZ (by decide) (by decide) (by decide) _)) (by decide) (by decide) (by decide) (by decide) (by decide) (qn9 hv (List.mem_singleton.2 rfl))
  rcases List.mem_cons.1 hk with rfl | hk
  ·exact hc
  ·rw [List.mem_singleton.1 hk];exact hw
 refine qvZ (n:=nHa) (ks:=[apT nPa [c,w]]) (λ k hk=>?_) (qb9 (by decide) (show (qA nHa).1≤1 by decide) (show 1≤(qA nHa).2.1 by decide) (qfZ (by decide) (by decide) (by decide) _)) (by decide) (by decide) (by decide) (by decide) (by decide) hv
 rw [List.mem_singleton.1 hk];exact hp
theorem qvE {s:List UInt8} (hn:jh s=true):yc (qcS s)=true:=by
 have h0:zC (qcS s)=0:=by
  rw [qbW]
  show qet 2 5 0 (jh s)=0
  rw [hn];rfl
 have hv:qs (qcS s)=0:=by
  unfold qs
  rw [if_neg (by rw [h0];decide),qka,qbG]
  rfl
 unfold yc
 rw [Bool.and_eq_true]
 constructor
 ·refine qy9 hv (by rw [qje];rfl) (qfW (by show ¬ ((2:Int)=3);decide)) ?_
  rw [qkE];rfl
 ·unfold qfU
  rw [qkQ];rfl
theorem qtC {c:T} (hc:yc c=true) (hv:qs (jF c)=0):yc (jF c)=true:=qsj hc (qvE (by decide)) hv
theorem qEj {c:T} (hc:yc c=true) (hv:qs (yA c)=0):yc (yA c)=true:=qsj hc (qvE (by decide)) hv
theorem qr2 (n:Int):∀ (l:List (Int × T)) (last:Int),yb n last l=0∨yb n last l=1
 | [],_ => .inl rfl
 | s::l,last=>by
   unfold yb
   split
   ·exact .inr rfl
   split
   ·exact .inr rfl
   split
   ·exact .inr rfl
   ·exact qr2 n l s.1
theorem qA4 (r:Rt):Jy r=0∨Jy r=1:=by
 unfold Jy
 iterate 6
  split
  ·exact .inr rfl
 exact qr2 _ _ _
theorem qqi {n n':Int} (h:n≤n'):∀ (l:List (Int × T)) (last:Int),yb n last l=0→yb n' last l=0
 | [],_ => λ h=>h
 | s::l,last=>by
   unfold yb
   intro h0
   split at h0
   ·cases h0
   split at h0
   ·cases h0
   split at h0
   ·cases h0
   ·rename_i a b c
    rw [if_neg a,if_neg (by omega),if_neg c]
    exact qqi h l s.1 h0
theorem qfr {r:Rt} (h:Jy r=0):yc r.1=true∧0≤r.2.1∧r.2.1≤1000∧0≤r.2.2.2∧r.2.2.2≤8∧(r.2.2.1.length:Int)≤r.2.2.2∧yb r.2.1 (-1) r.2.2.1=0:=by
 unfold Jy at h
 iterate 6
  split at h
  ·cases h
 rename_i a b c d e f
 exact ⟨Bool.not_eq_false _▸a,by omega,by omega,by omega,by omega,by omega,h⟩
theorem qr3 {r:Rt} (h:yc r.1=true∧0≤r.2.1∧r.2.1≤1000∧0≤r.2.2.2∧r.2.2.2≤8∧(r.2.2.1.length:Int)≤r.2.2.2∧yb r.2.1 (-1) r.2.2.1=0):Jy r=0:=by
 obtain ⟨h1,h2,h3,h4,h5,h6,h7⟩:=h
 unfold Jy
 rw [if_neg (by rw [h1];decide),if_neg (by omega),if_neg (by omega),if_neg (by omega),if_neg (by omega),if_neg (by omega)]
 exact h7
theorem qJq (r:Rt) (h:Small 1000000000 r):Ev (λ m _=>qeT m r) ((),(r.1,r.2.1,r.2.2.1,r.2.2.2,()),()):=by
 obtain ⟨c,n,l,w⟩:=r
 obtain ⟨hl,h0,h1⟩:=h
 simp only at hl h0 h1
 refine Ev.succ ?_
 simp only [qwI,qen,qe]
 refine Ev.bind (qoM c h0) ?_
 have key:=qt (P := λ i=>∀ o,o.length≤i→Ev (λ m k=>JF m k l l.length i c.kind c.name c.sort c.kids n l w 0 [] 0 0 0 [] [] o) ((),(c,n,o++l.drop i,w,()),())) l (by omega)
  (λ hc o ho=>by
   refine Ev.loop ?_
   simp only [qlG,qeh,qlY]
   rw [List.drop_length,List.append_nil]
   exact Ev.cf hc (Ev.pure _))
  (λ i x hx hd hc hg hi hP o ho=>by
   refine Ev.loop ?_
   simp only [qlG,qeh,qe]
   have hb:=getElem?_lt hx
   refine Ev.ct hc (Ev.some hg (Ev.bind (qoM x.2 (h1 x (List.mem_of_getElem? hx))) (Ev.ct (qS (by omega) (by omega)) ?_)))
   have hP':=hP (o++[x]) (by rw [List.length_append,List.length_singleton];omega)
   rw [List.append_assoc,List.singleton_append] at hP'
   rw [hi,hd]
   exact hP')
 exact Ev.diag (L := λ m k=>JF m k l l.length 0 c.kind c.name c.sort c.kids n l w 0 [] 0 0 0 [] [] []) (key 0 (Nat.zero_le _) [] (by simp))
def r00:Rt:=(t00,(0,([],0)))
theorem qmK {a b:Int}:qc (ieq a b)=true↔a≠b:=by rw [bnt,qh]
end Go.AmYtbpnmbmdbblehaaGreat
namespace Go.AmYtbpnmbmdbblehaaGreat
open Go Go.GxYtbpnmbmdbblehaaGreat Go.Proofs.YtbpnmbmdbblehaaGreat
noncomputable def qhI (b k:T):T × Bool:=if isN b qdG&&yy (kid b 1) k then (kid b 0,true) else (t00,false)
def qb6 (w:Int) (l:List (Int × T)) (s:Int × T):List (Int × T):=if w<((l++[s]).length:Int) then (l++[s]).drop 1 else l++[s]
abbrev Rr:=Rt × (T × Int)
def bad (e:Int):Rr:=(r00,(t00,e))
noncomputable def JW (w:Int) (b:T):Nat→T→Int→List (Int × T)→Rr
 | 0,c,n,l=>if qs (yA c)≠0 then bad 3 else if qs (jF c)≠0 then bad 3 else if (qhI b (yA c)).2=false then bad 11 else ((jF c,(n+1,(l,w))),((qhI b (yA c)).1,0))
 | d+1,c,n,l=>JW w b d (jF c) (n+1) (qb6 w l (n,yA c))
def qe5 (l:List (Int × T)) (bn:Int):Int:=qdI (qcI l bn) l.length 0
noncomputable def qgX (r:Rt) (bn:Int) (b:T):Rr :=
 if Jy r≠0 then bad 1 else if yc b=false then bad 10
 else if bn<r.2.1 then
  (if qe5 r.2.2.1 bn<0 then bad 21 else if (qhI b (r.2.2.1.getD (qe5 r.2.2.1 bn).toNat (0,t00)).2).2=false then bad 11
   else ((r.1,(r.2.1,(r.2.2.1.take (qe5 r.2.2.1 bn).toNat++r.2.2.1.drop ((qe5 r.2.2.1 bn).toNat+1),r.2.2.2))),((qhI b (r.2.2.1.getD (qe5 r.2.2.1 bn).toNat (0,t00)).2).1,0)))
 else if r.2.1+r.2.2.2<bn then bad 7 else if 1000≤bn then bad 7 else JW r.2.2.2 b (bn-r.2.1).toNat r.1 r.2.1 r.2.2.1
theorem qwm {s:List UInt8} (hn:jh s=true):zC (qcS s)=0:=by
 rw [qbW]
 show qet 2 5 0 (jh s)=0
 rw [hn];rfl
theorem qsF (c w:T):zC (qc4 c w)=thn (zC c) (zC w):=by
 have hp:zC (T.mk 3 nPa 0 [c,w])=thn (zC c) (zC w):=by
  rw [qbW]
  show ([c,w].map zC).foldl thn (qet 3 0 2 (jh nPa))=_
  rw [show qet 3 0 2 (jh nPa)=0 by decide]
  show thn (thn 0 (zC c)) (zC w)=_
  rw [show thn 0 (zC c)=zC c from rfl]
 unfold qc4
 rw [qbW]
 show ([T.mk 3 nPa 0 [c,w]].map zC).foldl thn (qet 3 0 1 (jh nHa))=_
 rw [show qet 3 0 1 (jh nHa)=0 by decide]
 show thn 0 (zC (T.mk 3 nPa 0 [c,w]))=_
 rw [hp];rfl
theorem qyR (c:T) (s:List UInt8):Qk (qc4 c (qcS s))=max (Qk c) 1+2:=by
 have ht:Qk (qcS s)=1:=by rw [qbG];rfl
 have hp:Qk (T.mk 3 nPa 0 [c,qcS s])=max (Qk c) 1+1:=by
  rw [qbG]
  show ([c,qcS s].map Qk).foldl max 0+1=_
  simp only [List.map_cons,List.map_nil,List.foldl_cons,List.foldl_nil,ht]
  omega
 unfold qc4
 rw [qbG]
 show ([T.mk 3 nPa 0 [c,qcS s]].map Qk).foldl max 0+1=_
 simp only [List.map_cons,List.map_nil,List.foldl_cons,List.foldl_nil,hp]
 omega
theorem qbQ (c:T):qs (yA c)=qs (jF c):=by
 have h1:zC (yA c)=zC (jF c):=by
  show zC (qc4 c (qcS nMs))=zC (qc4 c (qcS nCh))
  rw [qsF,qsF,qwm (by decide),qwm (by decide)]
 have h2:Qk (yA c)=Qk (jF c):=(qyR c nMs).trans (qyR c nCh).symm
 have h3:size (yA c)=size (jF c):=(qfy c).trans (qb1 c).symm
 unfold qs
 rw [h1,h2,h3]
theorem qz2 {c:T} (h:qs (jF c)≠0):qs (jF (jF c))≠0 := λ h0=>by
 have h1:qs (T.mk 3 nPa 0 [jF c,qcS nCh])=0:=qn9 h0 (List.mem_singleton.2 rfl)
 exact h (qn9 h1 (List.mem_cons_self ..))
theorem qkV {w:Int} {b:T}:∀ (d:Nat) {c:T} {n:Int} {l:List (Int × T)},qs (jF c)≠0→JW w b d c n l=bad 3
 | 0,c,n,l,h=>by rw [JW,if_pos (by rw [qbQ];exact h)]
 | d+1,c,n,l,h=>by rw [JW];exact qkV d (qz2 h)
theorem J7 {n last:Int} {s:Int × T} {l:List (Int × T)}:yb n last (s::l)=0↔last<s.1∧s.1<n∧yc s.2=true∧yb n s.1 l=0:=by
 rw [yb]
 by_cases h1:s.1≤last
 ·rw [if_pos h1];exact ⟨λ h=>(by cases h),λ h=>by omega⟩
 rw [if_neg h1]
 by_cases h2:n≤s.1
 ·rw [if_pos h2];exact ⟨λ h=>(by cases h),λ h=>by omega⟩
 rw [if_neg h2]
 by_cases h3:yc s.2=false
 ·rw [if_pos h3];exact ⟨λ h=>(by cases h),λ h=>by rw [h3] at h;exact absurd h.2.2.1 (by decide)⟩
 rw [if_neg h3]
 exact ⟨λ h=>⟨by omega,by omega,Bool.not_eq_false _▸h3,h⟩,λ h=>h.2.2.2⟩
theorem qsc {n a b:Int} (hab:a≤b) {l:List (Int × T)} (h:yb n b l=0):yb n a l=0:=by
 cases l with
 | nil=>rfl
 | cons s l=>rw [J7] at h ⊢;exact ⟨by omega,h.2⟩
theorem qsZ {n:Int}:∀ (l:List (Int × T)) (last:Int) (i:Nat),yb n last l=0→yb n last (l.take i++l.drop (i+1))=0
 | [],last,i,_=>by simp [yb]
 | s::l,last,0,h=>by
   rw [J7] at h
   exact qsc (by omega) h.2.2.2
 | s::l,last,i+1,h=>by
   rw [J7] at h
   show yb n last (s::(l.take i++l.drop (i+1)))=0
   rw [J7]
   exact ⟨h.1,h.2.1,h.2.2.1,qsZ l s.1 i h.2.2.2⟩
theorem qtD {n:Int} {k:T} (hk:yc k=true):∀ (l:List (Int × T)) (last:Int),last<n→yb n last l=0→yb (n+1) last (l++[(n,k)])=0
 | [],last,hl,_=>by
   show yb (n+1) last ((n,k)::[])=0
   rw [J7]
   exact ⟨hl,by show n<n+1;omega,hk,rfl⟩
 | s::l,last,hl,h=>by
   rw [J7] at h
   show yb (n+1) last (s::(l++[(n,k)]))=0
   rw [J7]
   exact ⟨h.1,by omega,h.2.2.1,qtD hk l s.1 h.2.1 h.2.2.2⟩
theorem qAq {n last:Int} {l:List (Int × T)} (h:yb n last l=0):yb n last (l.drop 1)=0:=by
 cases l with
 | nil=>rfl
 | cons s l=>rw [J7] at h;exact qsc (by omega) h.2.2.2
theorem qC6 {n w:Int} {k:T} (hk:yc k=true) {l:List (Int × T)} (hn:0≤n) (h:yb n (-1) l=0):yb (n+1) (-1) (qb6 w l (n,k))=0:=by
 have:=qtD hk l (-1) (by omega) h
 unfold qb6
 split
 ·exact qAq this
 ·exact this
theorem qGr {w:Int} {s:Int × T} {l:List (Int × T)} (h:(l.length:Int)≤w):((qb6 w l s).length:Int)≤w:=by
 unfold qb6
 split
 ·rw [List.length_drop,List.length_append,List.length_singleton];omega
 ·omega
theorem qGz {w:Int} {s:Int × T} {l:List (Int × T)}:∀ x∈qb6 w l s,x∈l∨x=s := λ x hx=>by
 have:x∈l++[s]:=by
  unfold qb6 at hx
  split at hx
  ·exact List.mem_of_mem_drop hx
  ·exact hx
 rcases List.mem_append.1 this with h | h
 ·exact .inl h
 ·exact .inr (List.mem_singleton.1 h)
theorem qqg {w:Int} {b:T} (hw:0≤w∧w≤8):∀ (d:Nat) {c:T} {n:Int} {l:List (Int × T)},yc c=true→0≤n→n+d<1000→(l.length:Int)≤w→yb n (-1) l=0→(JW w b d c n l).2.2=0→Jy (JW w b d c n l).1=0
 | 0,c,n,l,hc,hn,hd,hl,hs,h=>by
   rw [JW] at h ⊢
   split at h
   ·cases h
   split at h
   ·cases h
   split at h
   ·cases h
   rename_i a1 a2 a3
   rw [if_neg a1,if_neg a2,if_neg a3]
   exact qr3 ⟨qtC hc (Decidable.not_not.1 a2),by show 0≤n+1;omega,by show n+1≤1000;omega,hw.1,hw.2,hl,qqi (by show n≤n+1;omega) _ _ hs⟩
 | d+1,c,n,l,hc,hn,hd,hl,hs,h=>by
   rw [JW] at h ⊢
   by_cases hv:qs (jF c)=0
   ·exact qqg hw d (qtC hc hv) (by omega) (by omega) (qGr hl) (qC6 (qEj hc (by rw [qbQ];exact hv)) hn hs) h
   ·rw [qkV d (qz2 hv)] at h;cases h
theorem qAy {r:Rt} {bn:Int} {b:T} (h:(qgX r bn b).2.2=0):Jy (qgX r bn b).1=0:=by
 unfold qgX at h ⊢
 split at h
 ·cases h
 rename_i a1
 obtain ⟨h1,h2,h3,h4,h5,h6,h7⟩:=qfr (Decidable.not_not.1 a1)
 split at h
 ·cases h
 rename_i a2
 rw [if_neg a1,if_neg a2]
 split at h
 ·rename_i a3
  rw [if_pos a3]
  split at h
  ·cases h
  split at h
  ·cases h
  rename_i a4 a5
  rw [if_neg a4,if_neg a5]
  refine qr3 ⟨h1,h2,h3,h4,h5,?_,qsZ _ _ _ h7⟩
  show ((r.2.2.1.take _++r.2.2.1.drop _).length:Int)≤r.2.2.2
  rw [List.length_append,List.length_take,List.length_drop];omega
 rename_i a3
 rw [if_neg a3]
 split at h
 ·cases h
 split at h
 ·cases h
 rename_i a4 a5
 rw [if_neg a4,if_neg a5]
 exact qqg ⟨h4,h5⟩ _ h1 h2 (by omega) h6 h7 h
theorem qrx:size t00=1:=by rw [qG];rfl
theorem qyH (b k:T):size (qhI b k).1≤size b:=by
 unfold qhI
 split
 ·exact JQ b 0
 ·show size t00≤_
  rw [qrx]
  have:=qG b
  omega
theorem qdF {M:Nat} (hM:1≤M) (e:Int):Small M (bad e).1∧size (bad e).2.1≤M:=⟨⟨by show 0<_;omega,by show size t00≤_;rw [qrx];omega,λ x hx=>by cases hx⟩,by show size t00≤_;rw [qrx];omega⟩
theorem qp9 {w:Int} {b:T} {M:Nat} (hM:1≤M) (hb:size b≤M):∀ (d:Nat) {c:T} {n:Int} {l:List (Int × T)},size c+3*(d+1)≤M→l.length+d<2 ^ 40→(∀ x∈l,size x.2≤M)→Small M (JW w b d c n l).1∧size (JW w b d c n l).2.1≤M
 | 0,c,n,l,hc,hl,hx=>by
   rw [JW]
   iterate 3
    split
    ·exact qdF hM _
   exact ⟨⟨by show l.length<_;omega,by show size (jF c)≤_;rw [qb1];omega,hx⟩,Nat.le_trans (qyH _ _) hb⟩
 | d+1,c,n,l,hc,hl,hx=>by
   rw [JW]
   refine qp9 hM hb d (by rw [qb1];omega) ?_ λ x h=>?_
   ·have:(qb6 w l (n,yA c)).length≤l.length+1:=by
      unfold qb6
      split
      ·rw [List.length_drop,List.length_append,List.length_singleton];omega
      ·rw [List.length_append,List.length_singleton];omega
    omega
   ·rcases qGz x h with h | rfl
    ·exact hx x h
    ·show size (yA c)≤M
     rw [qfy];omega
theorem qA8 {r:Rt} {bn:Int} {b:T} (hr:Small 600 r) (hb:size b≤100):Small 10000 (qgX r bn b).1∧size (qgX r bn b).2.1≤10000:=by
 have hc:=hr.2.1
 unfold qgX
 split
 ·exact qdF (by omega) _
 rename_i a1
 obtain ⟨h1,h2,h3,h4,h5,h6,h7⟩:=qfr (Decidable.not_not.1 a1)
 split
 ·exact qdF (by omega) _
 split
 ·split
  ·exact qdF (by omega) _
  split
  ·exact qdF (by omega) _
  refine ⟨⟨?_,by show size r.1≤_;omega,λ x hx=>?_⟩,Nat.le_trans (qyH _ _) (by omega)⟩
  ·show (r.2.2.1.take _++r.2.2.1.drop _).length<_
   rw [List.length_append,List.length_take,List.length_drop]
   have:=hr.1
   omega
  ·have:x∈r.2.2.1:=(List.mem_append.1 hx).elim List.mem_of_mem_take List.mem_of_mem_drop
   have:=hr.2.2 x this
   omega
 split
 ·exact qdF (by omega) _
 split
 ·exact qdF (by omega) _
 exact qp9 (by omega) (by omega) _ (by omega) (by have:=hr.1;omega) λ x hx=>by have:=hr.2.2 x hx;omega
theorem qwf (ef:Nat→Bool):∀ (n i:Nat),(qdI ef n i=-1∧∀ j,j<n→ef (i+j)=false)∨∃ j,j<n∧qdI ef n i=((i+j:Nat):Int)∧ef (i+j)=true
 | 0,i => .inl ⟨rfl,λ j hj=>absurd hj (Nat.not_lt_zero _)⟩
 | n+1,i=>by
   rw [qdI]
   cases he:ef i with
   | true=>exact .inr ⟨0,by omega,rfl,he⟩
   | false =>
     rcases qwf ef n (i+1) with ⟨h1,h2⟩ | ⟨j,h1,h2,h3⟩
     ·refine .inl ⟨h1,λ j hj=>?_⟩
      cases j with
      | zero=>exact he
      | succ j=>rw [show i+(j+1)=i+1+j by omega];exact h2 j (by omega)
     ·exact .inr ⟨j+1,by omega,by rw [show i+(j+1)=i+1+j by omega];exact h2,by rw [show i+(j+1)=i+1+j by omega];exact h3⟩
theorem qp7 (l:List (Int × T)) (bn:Int):qe5 l bn=-1∨∃ j x,l[j]? = some x∧qe5 l bn=((j:Nat):Int):=by
 rcases qwf (qcI l bn) l.length 0 with ⟨h,_⟩ | ⟨j,h1,h2,h3⟩
 ·exact .inl h
 ·exact .inr ⟨j,l[j],List.getElem?_eq_getElem h1,by show qdI _ _ _=_;rw [h2,Nat.zero_add]⟩
end Go.AmYtbpnmbmdbblehaaGreat
namespace Go.AmYtbpnmbmdbblehaaGreat
open Go Go.GxYtbpnmbmdbblehaaGreat Go.Proofs.YtbpnmbmdbblehaaGreat
theorem qzF {b:T} (hb:qP b=0) (hi:isN b qdG=true):∃ x y,b.kids=[x,y]:=by
 obtain ⟨a1,a2,_⟩:=qjx hb hi (show qA qdG=(2,2,1) by decide)
 cases hk:b.kids with
 | nil=>rw [hk] at a1;exact absurd a1 (by decide)
 | cons x l=>cases l with
   | nil=>rw [hk] at a1;exact absurd a1 (by show ¬ ((2:Int)≤((1:Nat):Int));decide)
   | cons y l=>cases l with
     | nil=>exact ⟨x,y,rfl⟩
     | cons z l =>
       rw [hk] at a2
       simp only [List.length_cons] at a2
       omega
theorem qBl {b:T}:isN b qdG=true↔b.kind=3∧b.name=qdG:=by
 unfold isN
 rw [Bool.and_eq_true,beq_iff_eq,beq_iff_eq]
theorem qy7 (b k:T) (hb:qP b=0) (h1:size b≤100000) (h2:size k≤100000):Ev (λ m _=>qaa m b k) (qhI b k):=by
 refine Ev.succ ?_
 simp only [qqD,qeJ,qe]
 unfold qhI
 by_cases hi:isN b qdG=true
 ·obtain ⟨h3,hn⟩:=qBl.1 hi
  obtain ⟨x,y,hk⟩:=qzF hb hi
  have hx:=yO b x (by rw [hk];exact List.mem_cons_self ..)
  have hy:=yO b y (by rw [hk];exact List.mem_cons_of_mem _ (List.mem_cons_self ..))
  have e0:kid b 0=x:=by unfold kid;rw [hk];rfl
  have e1:kid b 1=y:=by unfold kid;rw [hk];rfl
  rw [hi,Bool.true_and,e0,e1]
  refine Ev.cf (bnf.2 (qj.2 h3)) (Ev.cf (bnf.2 (jb.2 hn)) (Ev.some (a:=y) (by rw [hk];rfl) (Ev.bind (qba y (by omega) k (by omega)) ?_)))
  by_cases he:y=k
  ·rw [if_pos (jv.2 he)]
   refine Ev.cf (bnf.2 (qj.2 (by rw [he];exact qkz k))) (Ev.some (a:=x) (by rw [hk];rfl) (Ev.bind (qoM x (by omega)) (Ev.pure _)))
  ·rw [if_neg λ h=>he (jv.1 h)]
   exact Ev.ct (qmK.2 λ h=>he (Jv _ _ h)) (Ev.pure _)
 ·rw [Bool.not_eq_true] at hi
  rw [hi,Bool.false_and,if_neg (by decide)]
  by_cases h3:b.kind=3
  ·refine Ev.cf (bnf.2 (qj.2 h3)) (Ev.ct (bnt.2 (jl.2 λ hn=>?_)) (Ev.pure _))
   rw [qBl.2 ⟨h3,hn⟩] at hi;cases hi
  ·exact Ev.ct (qmK.2 h3) (Ev.pure _)
theorem qzu (b k:T) (hb:qP b=0) (h1:size b≤100000) (h2:size k≤100000):Ev (λ m _=>qew m b k) (qhI b k):=by
 refine Ev.succ ?_
 simp only [qxT,qik,qe]
 refine Ev.bind (qh1 b _) ?_
 unfold qhI
 show Ev (λ m k'=>cond (qc (isN b qdG)) _ _) _
 cases hi:isN b qdG with
 | false =>
   rw [Bool.false_and,if_neg (by decide)]
   exact Ev.ct rfl (Ev.pure _)
 | true =>
   obtain ⟨x,y,hk⟩:=qzF hb hi
   have hy:=yO b y (by rw [hk];exact List.mem_cons_of_mem _ (List.mem_cons_self ..))
   have e0:kid b 0=x:=by unfold kid;rw [hk];rfl
   have e1:kid b 1=y:=by unfold kid;rw [hk];rfl
   rw [Bool.true_and,e0,e1]
   refine Ev.cf rfl (Ev.some (a:=y) (by rw [hk];rfl) (Ev.bind (qbi y k (by omega) (by omega)) ?_))
   cases hs:yy y k with
   | false=>rw [if_neg (by decide)];exact Ev.ct rfl (Ev.pure _)
   | true=>rw [if_pos rfl];exact Ev.cf rfl (Ev.some (a:=x) (by rw [hk];rfl) (Ev.pure _))
theorem qFw {l:List (Int × T)} {bn:Int} {i:Nat} {x:Int × T} (h:l[i]? = some x):qcI l bn i=(x.1==bn):=by
 unfold qcI
 have h':(l:List (Val zX))[i]? = some x:=h
 rw [h']
theorem qGT (r:Rt) (bn:Int) (h:r.2.2.1.length<2 ^ 40):Ev (λ m _=>qgC m r bn) (qe5 r.2.2.1 bn):=by
 obtain ⟨c,n,l,w⟩:=r
 have hl:=h
 simp only at hl
 refine Ev.succ ?_
 simp only [qzw,qfj]
 have key:=qt (P := λ i=>Ev (λ m k=>qau m k bn i c.kind c.name c.sort c.kids n l w) (qdI (qcI l bn) (l.length-i) i)) l (by omega)
  (λ hc=>by
   refine Ev.loop ?_
   simp only [qni,qft]
   rw [Nat.sub_self]
   exact Ev.cf hc (Ev.pure _))
  (λ i x hx hd hc hg hi hP=>by
   refine Ev.loop ?_
   simp only [qni,qft]
   have hb:=getElem?_lt hx
   rw [show l.length-i=(l.length-(i+1))+1 by omega,qdI,qFw hx]
   refine Ev.ct hc (Ev.some hg ?_)
   by_cases he:x.1=bn
   ·rw [show (x.1==bn)=true from beq_iff_eq.2 he]
    exact Ev.ct (qj.2 he) (Ev.pure _)
   ·rw [show (x.1==bn)=false from beq_eq_false_iff_ne.2 he]
    refine Ev.cf (qh.2 he) ?_
    rw [hi]
    exact hP)
 exact Ev.diag (L := λ m k=>qau m k bn 0 c.kind c.name c.sort c.kids n l w) (key 0 (Nat.zero_le _))
theorem qAP {l:List (Int × T)} (h:l.length≤100000) (bn:Int) (b:T):zg 0 l (bn,b)=some (qe5 l bn):=by
 unfold zg
 rw [Nat.ble_eq_true_of_le h]
 rfl
theorem qAY {l:List (Int × T)} (h:l.length≤100000) {j:Nat} (hj:j<l.length):zA 0 l (j:Int) (iw .i64 (qf (j:Int) 1))=some ((),l.take j++l.drop (j+1),()):=by
 have e:iw .i64 (qf (j:Int) 1)=((j+1:Nat):Int):=by
  rw [jg (by unfold qf;omega)];unfold qf;omega
 rw [e]
 unfold zA
 have e1:inb ((j+1:Nat):Int) l.length=true:=by unfold inb;exact decide_eq_true (by omega)
 have e2:inb (j:Int) l.length=true:=by unfold inb;exact decide_eq_true (by omega)
 have e3:ieq ((j+1:Nat):Int) (qf (j:Int) 1)=true:=qj.2 (by unfold qf;omega)
 rw [e1,e2,e3,Nat.ble_eq_true_of_le h,Int.toNat_natCast]
 rfl
end Go.AmYtbpnmbmdbblehaaGreat
namespace Go.AmYtbpnmbmdbblehaaGreat
open Go Go.GxYtbpnmbmdbblehaaGreat
theorem qEm (r:Rt) (hl:r.2.2.1.length<2 ^ 62) (h0:size r.1≤1000000000) (h1:∀ s∈r.2.2.1,size s.2≤1000000000):Ev (λ m _=>qgu m r r) true:=by
 obtain ⟨c,n,l,w⟩:=r
 refine Ev.succ ?_
 simp only [qy6,qfg,qe]
 have eq0:∀ x:Int,qc (ieq x x)=false := λ x=>bnf.2 (qj.2 rfl)
 refine Ev.cf (eq0 _) (Ev.cf (eq0 _) (Ev.cf (eq0 _) (Ev.bind (qbi c c h0 h0) (Ev.cf (bnf.2 (jv.2 rfl)) ?_))))
 have key:=qt (P := λ i=>Ev (λ m k=>qaj m k i c.kind c.name c.sort c.kids n l w c.kind c.name c.sort c.kids n l w) true) l hl
  (λ hc=>by
   refine Ev.loop ?_
   simp only [qnl,qfs]
   exact Ev.cf hc (Ev.pure _))
  (λ i x hx hd hc hg hi hP=>by
   refine Ev.loop ?_
   simp only [qnl,qfs,qe]
   have h2:=h1 x (List.mem_of_getElem? hx)
   refine Ev.ct hc (Ev.some hg (Ev.some hg (Ev.cf (eq0 _) (Ev.some hg (Ev.some hg (Ev.bind (qbi _ _ h2 h2) (Ev.cf (bnf.2 (jv.2 rfl)) ?_)))))))
   rw [hi]
   exact hP)
 exact Ev.diag (L := λ m k=>qaj m k 0 c.kind c.name c.sort c.kids n l w c.kind c.name c.sort c.kids n l w) (key 0 (Nat.zero_le _))
end Go.AmYtbpnmbmdbblehaaGreat
namespace Go.AmYtbpnmbmdbblehaaGreat
open Go Go.GxYtbpnmbmdbblehaaGreat Go.Proofs.YtbpnmbmdbblehaaGreat
theorem qvU (l:List (Int × T)) (s:Int × T):inb 1 (l++[s]).length=true:=by
 unfold inb
 rw [List.length_append,List.length_singleton]
 exact decide_eq_true (by omega)
theorem qtw {l:List (Int × T)} (h:l.length<2 ^ 40):zD (l.length+1) 64=true:=qS (by omega) (by omega)
theorem qAU (r:Rt) (hc:size r.1≤100000) (hl:r.2.2.1.length<2 ^ 40) (hn:-9223372036854775808≤r.2.1+1∧r.2.1+1≤9223372036854775807):Ev (λ m _=>qcE m r) (jF r.1,(r.2.1+1,(qb6 r.2.2.2 r.2.2.1 (r.2.1,yA r.1),r.2.2.2))):=by
 obtain ⟨c,n,l,w⟩:=r
 simp only at hc hl hn
 have e:iw .i64 (qf n 1)=n+1:=by rw [jg (by unfold qf;omega)];rfl
 have core:∀ L:List (Int × T),L.length<2 ^ 40→Ev (λ m (_:Nat)=>qa (qaV m c) λ v3=>cond (zD (List.length L+1) 64)
   (cond (ilt w (List.length (L++[(n,v3)]))) (cond (inb 1 (List.length (L++[(n,v3)]))) (qa (jN m c) λ v4 =>
   some (v4,(iw .i64 (qf n 1),(List.drop (Int.toNat 1) (L++[(n,v3)]),w)))) none) (qa (jN m c) λ v5 =>
   some (v5,(iw .i64 (qf n 1),(L++[(n,v3)],w))))) none) (jF c,(n+1,(qb6 w L (n,yA c),w))) := λ L hL=>by
  refine Ev.bind (qBc c) (Ev.ct (qtw hL) ?_)
  rw [e]
  unfold qb6
  by_cases h:w<((L++[(n,yA c)]).length:Int)
  ·rw [if_pos h]
   exact Ev.ct (qr.2 h) (Ev.ct (qvU _ _) (Ev.bind (qro c) (Ev.pure _)))
  ·rw [if_neg h]
   exact Ev.cf (qv.2 (by omega)) (Ev.bind (qro c) (Ev.pure _))
 refine Ev.succ ?_
 simp only [qr1,qfF,qe]
 refine Ev.ct (qS (by rw [List.length_nil];omega) (by omega)) (Ev.case (λ h=>?_) λ x t h=>?_)
 ·subst h
  exact core [] (by rw [List.length_nil];omega)
 ·subst h
  exact core (x::t) hl
theorem qDJ (w:Int) (b:T) (bn:Int) (hb:qP b=0) (hbs:size b≤10000) (hbn:bn≤2000):∀ (d:Nat) (c:T) (n:Int) (l:List (Int × T)),bn=n+d→0≤n→size c+3*(d+1)≤50000→l.length+d<2 ^ 40 →
  Ev (λ m k=>QD m k c.kind c.name c.sort c.kids n l w bn b.kind b.name b.sort b.kids 0 [] 0 0 0 0 [] 0 [] [] []) (JW w b d c n l):=by
 intro d
 induction d with
 | zero =>
   intro c n l he hn hc hl
   refine Ev.loop ?_
   simp only [qj7,qcj,qlY,qe]
   have e:iw .i64 (qf n 1)=n+1:=by rw [jg (by unfold qf;omega)];rfl
   refine Ev.cf (qv.2 (by omega)) (Ev.bind (qBc c) (Ev.bind (qro c) (Ev.bind (qBf _ (by rw [qb1];omega)) ?_)))
   by_cases hv:qs (jF c)=0
   ·have hk:qs (yA c)=0:=by rw [qbQ];exact hv
    rw [JW,if_neg (by rw [hk];decide),if_neg (by rw [hv];decide)]
    refine Ev.cf (by rw [decide_eq_true hv];rfl) (Ev.bind (qBf _ (by rw [qfy];omega)) (Ev.cf (by rw [decide_eq_true hk];rfl) (Ev.bind (qzu b (yA c) hb (by omega) (by rw [qfy];omega)) ?_)))
    refine Ev.iff bnt (λ _=>Ev.pure _) λ _=>?_
    rw [e]
    exact Ev.pure _
   ·rw [qkV 0 hv]
    exact Ev.ct (by rw [decide_eq_false hv];rfl) (Ev.pure _)
 | succ d ih =>
   intro c n l he hn hc hl
   refine Ev.loop ?_
   simp only [qj7,qcj,qlY,qe]
   refine Ev.ct (qr.2 (by omega)) (Ev.bind (qAU (c,(n,(l,w))) (by show size c≤_;omega) (by show l.length<_;omega) (by show _≤n+1∧n+1≤_;omega)) ?_)
   rw [JW]
   refine ih (jF c) (n+1) (qb6 w l (n,yA c)) (by omega) (by omega) (by rw [qb1];omega) ?_
   have:(qb6 w l (n,yA c)).length≤l.length+1:=by
    unfold qb6
    split
    ·rw [List.length_drop,List.length_append,List.length_singleton];omega
    ·rw [List.length_append,List.length_singleton];omega
   omega
theorem qCy (w:Int) (b:T) (bn:Int) (hb:qP b=0) (hbs:size b≤10000) (hbn:bn≤2000):∀ (d:Nat) (c:T) (n:Int) (l:List (Int × T)),bn=n+d→0≤n→size c+3*(d+1)≤50000→l.length+d<2 ^ 40 →
  Ev (λ m k=>jD m k bn b.kind b.name b.sort b.kids 0 [] 0 0 0 0 [] 0 c.kind c.name c.sort c.kids n w [] [] [] l) (JW w b d c n l):=by
 intro d
 induction d with
 | zero =>
   intro c n l he hn hc hl
   refine Ev.loop ?_
   simp only [qhY,qaM,qlY,qe]
   have e:iw .i64 (qf n 1)=n+1:=by rw [jg (by unfold qf;omega)];rfl
   refine Ev.bind (qE9 c (by omega)) (Ev.bind (qBM c (by omega)) (Ev.bind (Ju _ (by rw [qfy];omega)) ?_))
   rw [JW]
   refine Ev.iff qmK (λ _=>Ev.pure _) λ _=>Ev.bind (Ju _ (by rw [qb1];omega)) (Ev.iff qmK (λ _=>Ev.pure _) λ _=>Ev.ct (qj.2 (by omega)) (Ev.bind (qy7 b (yA c) hb (by omega) (by rw [qfy];omega)) ?_))
   refine Ev.iff bnt (λ _=>Ev.pure _) λ _=>?_
   rw [e]
   exact Ev.pure _
 | succ d ih =>
   intro c n l he hn hc hl
   refine Ev.loop ?_
   simp only [qhY,qaM,qlY,qe]
   have e:iw .i64 (qf n 1)=n+1:=by rw [jg (by unfold qf;omega)];rfl
   refine Ev.bind (qE9 c (by omega)) (Ev.bind (qBM c (by omega)) (Ev.bind (Ju _ (by rw [qfy];omega)) ?_))
   by_cases hv:qs (jF c)=0
   ·have hk:qs (yA c)=0:=by rw [qbQ];exact hv
    refine Ev.cf (bnf.2 (qj.2 hk)) (Ev.bind (Ju _ (by rw [qb1];omega)) (Ev.cf (bnf.2 (qj.2 hv)) (Ev.cf (qh.2 (by omega)) (Ev.ct (qtw (by omega)) ?_))))
    rw [JW,e]
    have ha:(qb6 w l (n,yA c)).length≤l.length+1:=by
     unfold qb6
     split
     ·rw [List.length_drop,List.length_append,List.length_singleton];omega
     ·rw [List.length_append,List.length_singleton];omega
    have key:=ih (jF c) (n+1) (qb6 w l (n,yA c)) (by omega) (by omega) (by rw [qb1];omega) (by omega)
    unfold qb6 at key ⊢
    by_cases h:w<((l++[(n,yA c)]).length:Int)
    ·rw [if_pos h] at key ⊢
     exact Ev.ct (qr.2 h) (Ev.ct (qvU _ _) key)
    ·rw [if_neg h] at key ⊢
     exact Ev.cf (qv.2 (by omega)) key
   ·rw [qkV _ hv]
    exact Ev.ct (qmK.2 (by rw [qbQ];exact hv)) (Ev.pure _)
theorem qvB {b:T} (h:yc b=true):qP b=0:=by
 unfold yc at h
 rw [Bool.and_eq_true] at h
 exact (qeU h.1).2.1
theorem qFO (r:Rt) (bn:Int) (b:T) (h:Small 10000 r) (hbs:size b≤10000):Ev (λ m _=>jI m r (bn,b)) (qgX r bn b):=by
 obtain ⟨c,n,l,w⟩:=r
 have h0:=h.2.1
 have h1:=h.2.2
 simp only at h0 h1
 refine Ev.succ ?_
 simp only [qp0,qaS,qe]
 unfold qgX
 refine Ev.bind (qqa _ h) (Ev.iff qmK (λ _=>Ev.pure _) λ hv=>Ev.bind (ql7 b (by omega)) (Ev.iff bnt (λ _=>Ev.pure _) λ hb=>Ev.bind (qJq _ (h.mono (by omega))) ?_))
 obtain ⟨f1,f2,f3,f4,f5,f6,f7⟩:=qfr (Decidable.not_not.1 hv)
 simp only at f1 f2 f3 f4 f5 f6 f7
 have hck:=qvB (Bool.not_eq_false _▸hb)
 refine Ev.iff qr (λ hlt=>?_) λ hge=>?_
 ·refine Ev.some (qAP (l:=l) (by omega) bn b) (Ev.iff qr (λ _=>Ev.pure _) λ hs=>?_)
  rcases qp7 l bn with hm | ⟨j,x,hx,hj⟩
  ·rw [hm] at hs;exact absurd (by decide) hs
  have hjl:=getElem?_lt hx
  have hxs:=h1 x (List.mem_of_getElem? hx)
  simp only [hj,Int.toNat_natCast,List.getD_eq_getElem?_getD,hx,Option.getD_some]
  refine Ev.some (a:=x) (by rw [jt];exact hx) (Ev.bind (qy7 b x.2 hck (by omega) (by omega)) (Ev.iff bnt (λ _=>Ev.pure _) λ _=>Ev.some (qAY (by omega) hjl) (Ev.pure _)))
 ·have e2:iw .i64 (qf n w)=n+w:=by rw [jg (by unfold qf;omega)];rfl
  rw [e2]
  refine Ev.iff qr (λ _=>Ev.pure _) λ hw=>Ev.iff qcf (λ _=>Ev.pure _) λ hk=>?_
  simp only at hge hw hk
  exact Ev.diag (L := λ m k=>jD m k bn b.kind b.name b.sort b.kids 0 [] 0 0 0 0 [] 0 c.kind c.name c.sort c.kids n w [] [] [] l) (qCy w b bn hck (by omega) (by omega) (bn-n).toNat c n l (by omega) f2 (by omega) (by omega))
theorem qD0 (l:List (Int × T)) (j:Nat):zS l 0 (j:Int)=l.take j:=by
 unfold zS
 rw [Int.toNat_natCast]
 rfl
theorem qEw (l:List (Int × T)) (j:Nat):zS l ((j+1:Nat):Int) (l.length:Int)=l.drop (j+1):=by
 unfold zS
 rw [Int.toNat_natCast,Int.toNat_natCast,List.take_length]
theorem qG3 (r:Rt) (bn:Int) (b:T) (h:Small 10000 r) (hbs:size b≤10000):Ev (λ m _=>qcB m r (bn,b)) (qgX r bn b):=by
 obtain ⟨c,n,l,w⟩:=r
 have h0:=h.2.1
 have h1:=h.2.2
 simp only at h0 h1
 refine Ev.succ ?_
 simp only [qtl,qcz,qe]
 unfold qgX
 refine Ev.bind (qAI _ h) (Ev.iff qmK (λ hv=>Ev.ret ?_) λ hv=>Ev.bind (qmn b hbs) (Ev.iff bnt (λ _=>Ev.pure _) λ hb=>Ev.bind (qGT _ bn h.1) ?_))
 ·rw [(qA4 (c,n,l,w)).resolve_left hv];rfl
 obtain ⟨f1,f2,f3,f4,f5,f6,f7⟩:=qfr (Decidable.not_not.1 hv)
 simp only at f1 f2 f3 f4 f5 f6 f7
 have hck:=qvB (Bool.not_eq_false _▸hb)
 have e2:iw .i64 (qf n w)=n+w:=by rw [jg (by unfold qf;omega)];rfl
 rw [e2]
 by_cases hlt:bn<n
 ·rw [if_pos (show bn<((c,n,l,w):Rt).2.1 from hlt)]
  refine Ev.ct (qr.2 hlt) (Ev.iff qr (λ _=>Ev.pure _) λ hs=>?_)
  rcases qp7 l bn with hm | ⟨j,x,hx,hj⟩
  ·rw [show qe5 ((c,n,l,w):Rt).2.2.1 bn=-1 from hm] at hs;exact absurd (by decide) hs
  have hjl:=getElem?_lt hx
  have hxs:=h1 x (List.mem_of_getElem? hx)
  have e:iw .i64 (qf (j:Int) 1)=((j+1:Nat):Int):=by
   rw [jg (by unfold qf;omega)];unfold qf;omega
  refine Ev.cf (qv.2 (by omega)) (Ev.cf (qiW.2 (by omega)) (Ev.ct (qr.2 hlt) ?_))
  simp only [hj,Int.toNat_natCast,List.getD_eq_getElem?_getD,hx,Option.getD_some,e,qD0,qEw,List.nil_append]
  refine Ev.some (a:=x) (by rw [jt];exact hx) (Ev.bind (qzu b x.2 hck (by omega) (by omega)) (Ev.iff bnt (λ _=>Ev.pure _) λ _=>?_))
  refine Ev.ct (by unfold inb;exact decide_eq_true (by omega)) (Ev.ct (by unfold inb;exact decide_eq_true (by omega)) (Ev.ct (qS (by rw [List.length_nil,List.length_take];omega) (by omega)) (Ev.case (λ hn=>?_) λ x1 t1 hn=>?_)))
  ·refine Ev.ct (by unfold inb;exact decide_eq_true (by omega)) (Ev.ct (by unfold inb;exact decide_eq_true (by omega)) (Ev.ct (qS (by rw [List.length_nil,List.length_drop];omega) (by omega)) (Ev.case (λ hm=>Ev.ret ?_) λ x2 t2 hm=>Ev.ret ?_)))
   ·rw [hn,hm];rfl
   ·rw [hn,hm];rfl
  ·refine Ev.ct (by unfold inb;exact decide_eq_true (by omega)) (Ev.ct (by unfold inb;exact decide_eq_true (by omega)) (Ev.ct (qS ?_ (by omega)) (Ev.ret ?_)))
   ·rw [← hn,List.length_take,List.length_drop];omega
   ·rw [hn]
 ·rw [if_neg (show ¬ bn<((c,n,l,w):Rt).2.1 from hlt)]
  refine Ev.cf (qv.2 (by omega)) (Ev.iff qr (λ _=>Ev.pure _) λ hw=>Ev.iff qcf (λ _=>Ev.pure _) λ hk=>Ev.cf (qv.2 (by omega)) ?_)
  simp only at hw hk
  exact Ev.diag (L := λ m k=>QD m k c.kind c.name c.sort c.kids n l w bn b.kind b.name b.sort b.kids 0 [] 0 0 0 0 [] 0 [] [] []) (qDJ w b bn hck (by omega) (by omega) (bn-n).toNat c n l (by omega) f2 (by omega) (by omega))
theorem ratchetReceive_ev (r:Rt) (b:Int × T) (hf:qDg r) (hfb:(IntKind.i64.min≤b.1∧b.1≤IntKind.i64.max)∧qjk b.2):Ev (λ m _=>law53_RatchetReceive m r b) true:=by
 obtain ⟨bn,b⟩:=b
 refine Ev.succ ?_
 simp only [qk9,qaD,qe]
 have hj:Ev (λ m _=>qa (qbb m) λ v2=>some v2) true:=Ev.bind qtg (Ev.pure _)
 refine Ev.bind qtg (Ev.cf rfl (Ev.bind (qHL r hf.2.2.1.1 hf.fit) ?_))
 cases hb:qsv r with
 | false=>exact Ev.ct rfl hj
 | true =>
   obtain ⟨hs,h12⟩:=qAZ hb
   refine Ev.cf rfl (Ev.bind (qE5 [b] (by simp) (λ x hx=>by rw [List.mem_singleton.1 hx];exact hfb.2) 1 100 (by omega) (by omega)) ?_)
   cases hb2:(decide ([b].length≤1)&&qmu [b] 100) with
   | false=>exact Ev.ct rfl hj
   | true =>
     rw [Bool.and_eq_true] at hb2
     have hms:size b≤100:=by have:=qyY (by omega) hb2.2 b (List.mem_singleton.2 rfl);omega
     obtain ⟨s1,s2⟩:=qA8 (bn:=bn) hs hms
     refine Ev.cf rfl (Ev.bind (qFO r bn b (hs.mono (by omega)) (by omega)) (Ev.bind (qG3 r bn b (hs.mono (by omega)) (by omega)) (Ev.ct (qj.2 rfl) ?_)))
     refine Ev.bind (qEm (qgX r bn b).1 (by have:=s1.1;omega) (by have:=s1.2.1;omega) λ x hx=>by have:=s1.2.2 x hx;omega) (Ev.ct rfl (Ev.bind (qbi _ _ (by omega) (by omega)) (Ev.ct (jv.2 rfl) ?_)))
     refine Ev.ite (λ _=>Ev.pure _) λ he=>?_
     rw [bnf,qj] at he
     refine Ev.bind (qqa _ s1) (Ev.ret ?_)
     rw [qAy he];rfl
end Go.AmYtbpnmbmdbblehaaGreat
namespace Go.AmYtbpnmbmdbblehaaGreat
open Go Go.GxYtbpnmbmdbblehaaGreat
set_option linter.unusedVariables false
set_option maxRecDepth 100000
open Go.Proofs.Tryz (f4 f10 f11 f12 f13 f14 f16 f17 f18 f19 f20 f21 f22 f23 f25 f28 f35 f38 f39 f40 f41 f42 f43 f44 f45 f46 f47 f48 f49 f50 f51 f54 f56 f57 f58 f62 f64 f65 f66 f67 f68 f69 f70 f71 f72 f73 f74 f75 f76 f77 f78 f79 f81 f85 f86 f87 f88 f89 f90 f91 f92 f93 f94 f95 f96 f97 f98 f99 f100 f101 f102 f103 f104 f120 f121 f122 f123 f124 f125 f127 f128 f129 f130 f131 f132 f133 f134 f143 f146 f147 f148 f149 f150 f151 f152 f156 f157 f158 f159 f160 f161 f163 f164 f167 f168 f169 f172 f173 f174 f175 f176 f177 f178 f179 f180 f181 f182 f183 f184 f185 f188 f189 f190 f191 f192 f193 f195 f197 f198 f199 f202 f203 f214 f215 f219 f220 f223 f224 f235)
noncomputable def i4:FI:=⟨f4,[.val (.pair .term (.pair (.int .i64) (.pair (.list (.pair (.int .i64) .term)) (.int .i64)))),.val (.pair (.int .i64) .term)],[.bool],[],[],λ m x=>law53_RatchetReceive m x.1 x.2.1⟩
noncomputable def i10:FI:=⟨f10,[],[.bool],[],[],λ m x=>qbb m⟩
noncomputable def i11:FI:=⟨f11,[.val (.list .term),.val (.int .i64),.val (.int .i64)],[.bool],[(4,[(0,.list .term),(2,.keep),(7,.keep)])],[],λ m x=>qfX m x.1 x.2.1 x.2.2.1⟩
noncomputable def i12:FI:=⟨f12,[.val .term],[(.pair .term (.pair (.int .i64) (.pair (.list (.pair (.int .i64) .term)) (.int .i64)))),(.int .i64)],[],[],λ m x=>qk7 m x.1⟩
noncomputable def i13:FI:=⟨f13,[.val .term],[(.pair .term (.pair (.int .i64) (.pair (.list (.pair (.int .i64) .term)) (.int .i64)))),(.int .i64)],[],[],λ m x=>qoI m x.1⟩
noncomputable def i14:FI:=⟨f14,[.val .term,.val (.int .i64)],[.term,(.int .i64)],[(7,[(4,.box [.keep,.keep,.keep,.row .term false]),(6,.box [.keep,.keep,.keep,.list .term]),(21,.keep),(22,.keep)])],[],λ m x=>qhL m x.1 x.2.1⟩
noncomputable def i16:FI:=⟨f16,[.val (.pair .term (.pair (.int .i64) (.pair (.list (.pair (.int .i64) .term)) (.int .i64)))),.val (.pair .term (.pair (.int .i64) (.pair (.list (.pair (.int .i64) .term)) (.int .i64))))],[.bool],[(4,[(2,.box [.keep,.keep,.keep,.list .term,.keep,.list (.pair (.int .i64) .term),.keep]),(3,.box [.keep,.keep,.keep,.list .term,.keep,.list (.pair (.int .i64) .term),.keep]),(5,.keep)])],[],λ m x=>qgu m x.1 x.2.1⟩
noncomputable def i17:FI:=⟨f17,[.val .term,.val .term],[.bool],[],[],λ m x=>yI m x.1 x.2.1⟩
noncomputable def i18:FI:=⟨f18,[.val (.pair .term (.pair (.int .i64) (.pair (.list (.pair (.int .i64) .term)) (.int .i64))))],[.bool],[],[],λ m x=>qhX m x.1⟩
noncomputable def i19:FI:=⟨f19,[.val (.pair .term (.pair (.int .i64) (.pair (.list (.pair (.int .i64) .term)) (.int .i64)))),.val (.pair (.int .i64) .term)],[(.pair .term (.pair (.int .i64) (.pair (.list (.pair (.int .i64) .term)) (.int .i64)))),.term,(.int .i64)],[(17,[(3,.box [.keep,.keep,.keep,.keep,.list .term]),(4,.box [.keep,.keep,.keep,.row .term false,.keep,.row (.pair (.int .i64) .term) false,.keep]),(5,.box [.keep,.keep,.keep,.row .term false]),(7,.box [.keep,.keep,.keep,.list .term,.keep,.row (.pair (.int .i64) .term) true,.keep])])],[],λ m x=>jI m x.1 x.2.1⟩
noncomputable def i20:FI:=⟨f20,[.val (.pair .term (.pair (.int .i64) (.pair (.list (.pair (.int .i64) .term)) (.int .i64)))),.val (.pair (.int .i64) .term)],[(.pair .term (.pair (.int .i64) (.pair (.list (.pair (.int .i64) .term)) (.int .i64)))),.term,(.int .i64)],[(17,[(2,.box [.keep,.keep,.keep,.list .term,.keep,.list (.pair (.int .i64) .term),.keep]),(3,.box [.keep,.keep,.keep,.keep,.list .term]),(4,.box [.keep,.keep,.keep,.row .term false,.keep,.row (.pair (.int .i64) .term) false,.keep]),(5,.box [.keep,.keep,.keep,.row .term false])])],[],λ m x=>qcB m x.1 x.2.1⟩
noncomputable def i21:FI:=⟨f21,[.val (.pair .term (.pair (.int .i64) (.pair (.list (.pair (.int .i64) .term)) (.int .i64))))],[(.int .i64)],[(5,[(1,.box [.keep,.keep,.keep,.list .term,.keep,.list (.pair (.int .i64) .term),.keep]),(3,.keep),(39,.list (.pair (.int .i64) .term)),(40,.keep),(41,.keep)])],[],λ m x=>qaG m x.1⟩
noncomputable def i22:FI:=⟨f22,[],[.term],[],[],λ m x=>qey m⟩
noncomputable def i23:FI:=⟨f23,[.val .str,.val (.int .i64)],[.term],[],[],λ m x=>qgV m x.1 x.2.1⟩
noncomputable def i25:FI:=⟨f25,[.val (.pair .term (.pair (.int .i64) (.pair (.list (.pair (.int .i64) .term)) (.int .i64))))],[(.int .i64)],[(5,[(1,.box [.keep,.keep,.keep,.list .term,.keep,.list (.pair (.int .i64) .term),.keep]),(3,.keep),(4,.keep)])],[],λ m x=>qcN m x.1⟩
noncomputable def i28:FI:=⟨f28,[.val (.pair .term (.pair (.int .i64) (.pair (.list (.pair (.int .i64) .term)) (.int .i64))))],[(.list .term)],[(3,[(1,.box [.keep,.keep,.keep,.list .term,.keep,.list (.pair (.int .i64) .term),.keep]),(3,.row .term true),(4,.keep)])],[],λ m x=>qdB m x.1⟩
noncomputable def i35:FI:=⟨f35,[.val (.pair .term (.pair (.int .i64) (.pair (.list (.pair (.int .i64) .term)) (.int .i64)))),.val .term],[(.pair .term (.pair (.int .i64) (.pair (.list (.pair (.int .i64) .term)) (.int .i64)))),(.pair (.int .i64) .term),(.int .i64)],[],[],λ m x=>qmy m x.1 x.2.1⟩
noncomputable def i38:FI:=⟨f38,[.val .str],[.term,(.int .i64)],[],[],λ m x=>qhH m x.1⟩
noncomputable def i39:FI:=⟨f39,[.val (.int .i64)],[(.list (.pair (.int .i64) .term))],[(4,[(0,.keep),(3,.box [.keep,.keep,.keep,.list .term,.keep,.list (.pair (.int .i64) .term),.keep]),(5,.row (.pair (.int .i64) .term) false),(6,.keep)])],[],λ m x=>qm8 m x.1⟩
noncomputable def i40:FI:=⟨f40,[.val .term,.val (.int .i64)],[(.int .i64)],[(5,[(1,.keep),(2,.box [.keep,.keep,.keep,.list .term]),(5,.keep)])],[],λ m x=>yt m x.1 x.2.1⟩
noncomputable def i41:FI:=⟨f41,[.val .term],[.bool],[],[],λ m x=>jR m x.1⟩
noncomputable def i42:FI:=⟨f42,[.val .term],[.term],[],[],λ m x=>yQ m x.1⟩
noncomputable def i43:FI:=⟨f43,[.val .term],[.bool],[],[],λ m x=>Qo m x.1⟩
noncomputable def i44:FI:=⟨f44,[.val .term],[.term],[],[],λ m x=>qbO m x.1⟩
noncomputable def i45:FI:=⟨f45,[.val .term],[(.int .i64)],[],[],λ m x=>zy m x.1⟩
noncomputable def i46:FI:=⟨f46,[.val .term],[.term],[],[],λ m x=>qcO m x.1⟩
noncomputable def i47:FI:=⟨f47,[.val .term],[.term],[],[],λ m x=>jN m x.1⟩
noncomputable def i48:FI:=⟨f48,[.val .term],[.bool],[],[],λ m x=>qaR m x.1⟩
noncomputable def i49:FI:=⟨f49,[.val .term],[.term],[],[],λ m x=>qaV m x.1⟩
noncomputable def i50:FI:=⟨f50,[.val .term,.val .term],[(.int .i64)],[(18,[(2,.box [.keep,.keep,.keep,.list .term]),(3,.box [.keep,.keep,.keep,.list .term]),(9,.keep)])],[],λ m x=>zl m x.1 x.2.1⟩
noncomputable def i51:SI:=⟨f51,[.val (.pair .term (.pair (.int .i64) (.pair (.list (.pair (.int .i64) .term)) (.int .i64))))],[.agg [.val .term,.val (.int .i64),.row (.pair (.int .i64) .term),.val (.int .i64)]],[(4,[(1,.box [.keep,.keep,.keep,.list .term,.keep,.list (.pair (.int .i64) .term),.keep]),(2,.box [.keep,.keep,.keep,.row .term false,.keep,.row (.pair (.int .i64) .term) false,.keep]),(3,.row (.pair (.int .i64) .term) false),(11,.list (.pair (.int .i64) .term)),(12,.keep),(13,.keep)])],[],λ m x=>qeT m x.1⟩
noncomputable def i54:FI:=⟨f54,[.val .term,.val .term],[.term,.bool],[],[],λ m x=>qaa m x.1 x.2.1⟩
noncomputable def i56:FI:=⟨f56,[.val (.pair .term (.pair (.int .i64) (.pair (.list (.pair (.int .i64) .term)) (.int .i64)))),.val (.int .i64)],[(.int .i64)],[(2,[(1,.keep),(2,.box [.keep,.keep,.keep,.list .term,.keep,.list (.pair (.int .i64) .term),.keep]),(5,.keep)])],[],λ m x=>qgC m x.1 x.2.1⟩
noncomputable def i57:FI:=⟨f57,[.val .term,.val .term],[.term,.bool],[],[],λ m x=>qew m x.1 x.2.1⟩
noncomputable def i58:FI:=⟨f58,[.val (.pair .term (.pair (.int .i64) (.pair (.list (.pair (.int .i64) .term)) (.int .i64))))],[(.pair .term (.pair (.int .i64) (.pair (.list (.pair (.int .i64) .term)) (.int .i64))))],[],[],λ m x=>qcE m x.1⟩
noncomputable def i62:FI:=⟨f62,[.val (.list .term)],[(.list .term)],[(3,[(0,.list .term),(3,.list .term),(4,.keep)])],[],λ m x=>qhR m x.1⟩
noncomputable def i64:FI:=⟨f64,[.val .str,.val (.list .term)],[.term],[],[],λ m x=>yC m x.1 x.2.1⟩
noncomputable def i65:FI:=⟨f65,[.val .term,.val .term],[.term],[],[],λ m x=>Jz m x.1 x.2.1⟩
noncomputable def i66:FI:=⟨f66,[.val .str,.val (.int .i64)],[.term,.str,.bool],[(13,[(0,.keep),(1,.keep),(4,.box [.keep,.keep,.keep,.row .term false]),(7,.box [.keep,.keep,.keep,.row .term false])])],[],λ m x=>qf3 m x.1 x.2.1⟩
noncomputable def i67:FI:=⟨f67,[.val .term],[(.int .i64)],[],[],λ m x=>zM m x.1⟩
noncomputable def i68:FI:=⟨f68,[.val .term],[.bool],[],[],λ m x=>qdO m x.1⟩
noncomputable def i69:FI:=⟨f69,[.val .term],[(.list .term)],[],[],λ m x=>qh3 m x.1⟩
noncomputable def i70:FI:=⟨f70,[.val .term,.val (.list (.int .i64))],[.term,(.int .i64)],[(2,[(2,.box [.keep,.keep,.keep,.list .term]),(4,.box [.keep,.keep,.keep,.row .term false]),(8,.list (.int .i64)),(9,.keep),(10,.keep)])],[],λ m x=>qlk m x.1 x.2.1⟩
noncomputable def i71:FI:=⟨f71,[.val .term],[.bool],[(6,[(5,.list .term),(6,.keep)])],[],λ m x=>qeV m x.1⟩
noncomputable def i72:FI:=⟨f72,[.val .term],[.bool],[],[],λ m x=>qdp m x.1⟩
noncomputable def i73:FI:=⟨f73,[.val .str],[.term],[],[],λ m x=>qe0 m x.1⟩
noncomputable def i74:SI:=⟨f74,[.val .term,.val (.int .i64),.box [.val (.int .i64)],.box [.val (.int .i64)]],[.one (.val (.int .i64))],[(17,[(1,.keep),(2,.box [.keep]),(3,.box [.keep]),(57,.list .term),(58,.keep),(59,.keep)])],[],λ m x=>zJ m x.1 x.2.1 x.2.2.1 x.2.2.2.1⟩
noncomputable def i75:FI:=⟨f75,[.val .term,.val .str],[.term],[],[],λ m x=>qaH m x.1 x.2.1⟩
noncomputable def i76:FI:=⟨f76,[.val (.int .i64),.val (.int .i64)],[(.int .i64)],[],[],λ m x=>Js m x.1 x.2.1⟩
noncomputable def i77:FI:=⟨f77,[.val .term],[(.int .i64)],[(3,[(1,.box [.keep,.keep,.keep,.list .term]),(3,.keep),(4,.keep)])],[],λ m x=>yK m x.1⟩
noncomputable def i78:FI:=⟨f78,[.val .term,.val .term],[(.int .i64)],[(11,[(2,.box [.keep,.keep,.keep,.list .term]),(3,.box [.keep,.keep,.keep,.list .term]),(5,.keep),(6,.keep)])],[],λ m x=>qu m x.1 x.2.1⟩
noncomputable def i79:FI:=⟨f79,[.val .term,.val .str],[.bool],[],[],λ m x=>JK m x.1 x.2.1⟩
noncomputable def i81:FI:=⟨f81,[.val (.list .term),.val .term],[.bool],[(2,[(0,.list .term),(3,.box [.keep,.keep,.keep,.list .term]),(5,.keep)])],[],λ m x=>qhS m x.1 x.2.1⟩
noncomputable def i85:FI:=⟨f85,[.val (.list .term),.val .term],[(.list .term)],[(4,[(0,.list .term),(3,.box [.keep,.keep,.keep,.list .term]),(5,.row .term false),(6,.keep),(7,.keep)])],[],λ m x=>qf1 m x.1 x.2.1⟩
noncomputable def i86:FI:=⟨f86,[.val .str],[.str],[(2,[(0,.keep),(3,.keep)])],[],λ m x=>qgf m x.1⟩
noncomputable def i87:FI:=⟨f87,[.val .str],[.bool],[(4,[(0,.keep),(3,.keep)])],[],λ m x=>Qy m x.1⟩
noncomputable def i88:FI:=⟨f88,[.val .term,.val .str],[.term,.str,.bool],[(5,[(1,.keep),(2,.box [.keep,.keep,.keep,.list .term]),(4,.box [.keep,.keep,.keep,.row .term false]),(7,.keep),(8,.keep)])],[],λ m x=>qiP m x.1 x.2.1⟩
noncomputable def i89:FI:=⟨f89,[.val .term],[(.int .i64)],[(5,[(1,.box [.keep,.keep,.keep,.list .term]),(4,.keep)])],[],λ m x=>yT m x.1⟩
noncomputable def i90:FI:=⟨f90,[.val .term],[(.int .i64)],[(3,[(1,.box [.keep,.keep,.keep,.list .term]),(3,.keep),(4,.keep)])],[],λ m x=>yR m x.1⟩
noncomputable def i91:FI:=⟨f91,[.val .term],[.term,(.int .i64)],[],[],λ m x=>qcG m x.1⟩
noncomputable def i92:FI:=⟨f92,[.val .term,.val .term],[.bool],[],[],λ m x=>Qn m x.1 x.2.1⟩
noncomputable def i93:FI:=⟨f93,[.val .term,.fn],[.bool],[(4,[(1,.keep),(18,.list .term),(19,.keep),(20,.keep)])],[],λ m x=>qJ m x.1⟩
noncomputable def i94:FI:=⟨f94,[.val .str],[.bool],[],[],λ m x=>qbM m x.1⟩
noncomputable def i95:FI:=⟨f95,[.val .str],[(.pair .str (.pair (.int .i64) (.pair (.int .i64) (.int .i64))))],[(2,[(0,.keep),(2,.box [.keep,.keep,.keep,.keep]),(5,.list (.pair .str (.pair (.int .i64) (.pair (.int .i64) (.int .i64))))),(6,.keep),(7,.keep)])],[],λ m x=>qaJ m x.1⟩
noncomputable def i96:FI:=⟨f96,[.val .term,.val (.int .i64)],[(.list .term)],[],[],λ m x=>qhO m x.1 x.2.1⟩
noncomputable def i97:FI:=⟨f97,[.val .term],[.term],[(4,[(1,.box [.keep,.keep,.keep,.row .term false]),(2,.box [.keep,.keep,.keep,.row .term false]),(9,.list .term),(10,.keep),(11,.keep)])],[],λ m x=>yo m x.1⟩
noncomputable def i98:FI:=⟨f98,[.val .term],[.term,(.int .i64)],[],[],λ m x=>qdX m x.1⟩
noncomputable def i99:FI:=⟨f99,[.val .term],[(.list .term)],[(3,[(1,.box [.keep,.keep,.keep,.list .term]),(3,.row .term true),(4,.keep)])],[],λ m x=>jr m x.1⟩
noncomputable def qGm:FI:=⟨f100,[.val .str],[(.int .i64)],[(3,[(0,.keep),(3,.list (.pair .str (.pair (.int .i64) (.pair (.int .i64) (.int .i64))))),(4,.keep)])],[],λ m x=>qcd m x.1⟩
noncomputable def qKe:FI:=⟨f101,[.val .term],[(.list .term)],[],[],λ m x=>qf9 m x.1⟩
noncomputable def qHo:FI:=⟨f102,[.val .str],[.bool],[(4,[(0,.keep),(38,.keep),(39,.keep)])],[],λ m x=>qbh m x.1⟩
noncomputable def qJW:FI:=⟨f103,[.val (.int .i64),.val (.int .i64)],[(.int .i64)],[],[],λ m x=>qbY m x.1 x.2.1⟩
noncomputable def qHe:FI:=⟨f104,[.val .term],[(.int .i64)],[(3,[(3,.keep),(7,.list .term),(8,.keep),(9,.keep)])],[],λ m x=>ju m x.1⟩
noncomputable def qJO:FI:=⟨f120,[.val (.int .u8)],[.bool],[],[],λ m x=>qap m x.1⟩
noncomputable def qJl:FI:=⟨f121,[.val (.int .u8)],[.bool],[],[],λ m x=>qcQ m x.1⟩
noncomputable def qJy:FI:=⟨f122,[.val (.int .i64)],[.str],[],[],λ m x=>qmr m x.1⟩
noncomputable def qJF:FI:=⟨f123,[.val .term],[(.int .i64)],[],[],λ m x=>qgs m x.1⟩
noncomputable def qKw:FI:=⟨f124,[.val .term],[(.int .i64)],[],[],λ m x=>qdr m x.1⟩
noncomputable def qGF:FI:=⟨f125,[.val .term],[.term,(.int .i64)],[(5,[(1,.box [.keep,.keep,.keep,.list .term]),(2,.box [.keep,.keep,.keep,.row .term false]),(4,.box [.keep,.keep,.keep,.row .term false]),(19,.list .term),(20,.keep),(21,.keep)])],[],λ m x=>zR m x.1⟩
noncomputable def qGC:SI:=⟨f127,[.val .term,.clo 128 2,.box [.val (.int .i64)],.box [.row .term]],[],[(3,[(1,.fn [.box [.keep],.box [.row .term false]]),(10,.list .term),(11,.keep),(12,.keep)])],[],λ m x=>zb m x.1 x.2.1 x.2.2.1⟩
noncomputable def qKk:SI:=⟨f128,[.val .term,.box [.val (.int .i64)],.box [.row .term]],[],[],[],λ m x=>QB m x.1 x.2.1 x.2.2.1⟩
noncomputable def qHS:SI:=⟨f129,[.row .term],[.one (.row .term)],[(4,[(0,.row .term false),(9,.keep),(10,.keep)])],[],λ m x=>qdJ m x.1⟩
noncomputable def qKi:FI:=⟨f130,[.val .term],[(.int .i64)],[],[],λ m x=>qeY m x.1⟩
noncomputable def qGJ:FI:=⟨f131,[.val .term],[.term,(.int .i64)],[(5,[(1,.box [.keep,.keep,.keep,.list .term]),(2,.box [.keep,.keep,.keep,.row .term false]),(4,.row .term false),(5,.keep)])],[],λ m x=>yl m x.1⟩
noncomputable def qKt:FI:=⟨f132,[],[(.list (.pair .str (.pair (.int .i64) (.pair (.int .i64) (.int .i64)))))],[],[],λ m x=>qfq m⟩
noncomputable def qHg:FI:=⟨f133,[.val .term,.val (.int .i64)],[(.list .term)],[(4,[(1,.keep),(5,.row .term false),(6,.list .term),(7,.keep)])],[],λ m x=>qgE m x.1 x.2.1⟩
noncomputable def qJu:FI:=⟨f134,[.val (.int .u8)],[.bool],[],[],λ m x=>qfT m x.1⟩
noncomputable def qFU:FI:=⟨f143,[.val (.list (.pair .term (.int .i64))),.val (.list (.pair .term (.int .i64)))],[(.list (.pair .term (.int .i64))),(.int .i64)],[(9,[(1,.list (.pair .term (.int .i64))),(8,.row (.pair .term (.int .i64)) false),(9,.keep)])],[],λ m x=>qhP m x.1 x.2.1⟩
noncomputable def qKc:FI:=⟨f146,[.val .term],[(.list (.pair .term (.int .i64))),(.int .i64)],[],[],λ m x=>qfH m x.1⟩
noncomputable def qDk:FI:=⟨f147,[.val .term],[(.int .i64)],[(13,[(1,.box [.keep,.keep,.keep,.list .term]),(38,.list .term),(39,.keep),(40,.keep)]),(22,[(62,.list .term),(63,.keep),(64,.keep)])],[],λ m x=>qB m x.1⟩
noncomputable def qJ6:FI:=⟨f148,[.val .term],[.term],[],[],λ m x=>J9 m x.1⟩
noncomputable def qGb:FI:=⟨f149,[.val (.list .term)],[.term,(.int .i64)],[(6,[(2,.box [.keep,.keep,.keep,.row .term true]),(5,.list .term),(15,.list .term),(16,.keep),(17,.keep)])],[],λ m x=>qlN m x.1⟩
noncomputable def qJA:FI:=⟨f150,[.val .term],[(.list (.pair .term (.int .i64))),(.int .i64)],[],[],λ m x=>J6 m x.1⟩
noncomputable def qzs:FI:=⟨f151,[.val (.list (.pair .term (.int .i64)))],[.term,(.int .i64)],[(6,[(2,.box [.keep,.keep,.keep,.row .term false]),(5,.row .term false),(6,.row .term false),(18,.list (.pair .term (.int .i64))),(19,.keep),(20,.keep)]),(11,[(2,.box [.keep,.keep,.keep,.row .term false]),(5,.row .term false),(6,.row .term false),(8,.box [.keep,.keep,.keep,.list .term,.keep]),(18,.list (.pair .term (.int .i64))),(19,.keep),(20,.keep),(34,.keep),(35,.keep)]),(15,[(2,.box [.keep,.keep,.keep,.row .term false]),(5,.row .term false),(6,.row .term false),(8,.box [.keep,.keep,.keep,.list .term,.keep]),(18,.list (.pair .term (.int .i64))),(19,.keep),(20,.keep),(46,.keep),(47,.keep)])],[],λ m x=>jM m x.1⟩
noncomputable def qJV:FI:=⟨f152,[.val .term,.val .term],[.term,(.int .i64)],[],[],λ m x=>qdq m x.1 x.2.1⟩
noncomputable def qKn:FI:=⟨f156,[.val .term,.val .term],[.bool],[],[],λ m x=>yg m x.1 x.2.1⟩
noncomputable def qF8:FI:=⟨f157,[.val .term],[(.int .i64)],[(11,[(1,.box [.keep,.keep,.keep,.list .term]),(4,.keep)])],[],λ m x=>yx m x.1⟩
noncomputable def qKs:FI:=⟨f158,[.val .term],[.term,.bool],[],[],λ m x=>qcF m x.1⟩
noncomputable def qHh:FI:=⟨f159,[.val (.list .term)],[.term,(.int .i64)],[(6,[(0,.list .term),(2,.box [.keep,.keep,.keep,.row .term true]),(5,.list .term),(6,.keep)])],[],λ m x=>qib m x.1⟩
noncomputable def qKo:FI:=⟨f160,[.val .term],[.term,(.int .i64)],[],[],λ m x=>qaI m x.1⟩
noncomputable def qJp:FI:=⟨f161,[.val .term,.val .term],[.term,(.int .i64)],[],[],λ m x=>qe2 m x.1 x.2.1⟩
noncomputable def qHj:FI:=⟨f163,[.val .term],[(.list .term)],[(7,[(1,.box [.keep,.keep,.keep,.list .term]),(3,.list .term),(4,.keep)])],[],λ m x=>zx m x.1⟩
noncomputable def qGt:FI:=⟨f164,[.val (.list .term),.val .term],[(.int .i64)],[(4,[(0,.list .term),(3,.box [.keep,.keep,.keep,.list .term]),(5,.keep)])],[],λ m x=>qeX m x.1 x.2.1⟩
noncomputable def qG7:FI:=⟨f167,[.val (.list (.pair .term (.int .i64)))],[(.int .i64)],[(4,[(0,.list (.pair .term (.int .i64))),(3,.keep)])],[],λ m x=>qbk m x.1⟩
noncomputable def qHf:SI:=⟨f168,[.row (.pair .term (.int .i64)),.val .term,.val (.int .i64)],[.one (.row (.pair .term (.int .i64)))],[(4,[(0,.row (.pair .term (.int .i64)) false),(2,.keep),(4,.box [.keep,.keep,.keep,.list .term]),(7,.row (.pair .term (.int .i64)) false),(8,.keep),(9,.keep)])],[],λ m x=>qfL m x.1 x.2.1 x.2.2.1⟩
noncomputable def qGd:FI:=⟨f169,[.val (.list (.pair .term (.int .i64)))],[(.int .i64)],[(2,[(0,.list (.pair .term (.int .i64))),(3,.keep)])],[],λ m x=>qcC m x.1⟩
noncomputable def qGG:FI:=⟨f172,[.val .term],[.bool],[(7,[(1,.box [.keep,.keep,.keep,.list .term]),(3,.keep),(4,.keep)])],[],λ m x=>yw m x.1⟩
noncomputable def qF1:SI:=⟨f173,[.row (.pair .term (.int .i64)),.val .term,.val (.int .i64)],[.one (.row (.pair .term (.int .i64)))],[(6,[(0,.row (.pair .term (.int .i64)) false),(2,.keep),(4,.box [.keep,.keep,.keep,.list .term]),(7,.keep)])],[],λ m x=>zK m x.1 x.2.1 x.2.2.1⟩
noncomputable def qKh:FI:=⟨f174,[.val .term,.val .str],[.bool],[],[],λ m x=>yD m x.1 x.2.1⟩
noncomputable def qGP:FI:=⟨f175,[.val (.list .term),.val (.list .term)],[(.int .i64)],[(4,[(14,.list .term),(15,.keep),(16,.keep)])],[],λ m x=>qhW m x.1 x.2.1⟩
noncomputable def qHa:FI:=⟨f176,[.val (.list .term),.val (.list .term)],[(.list .term)],[(2,[(0,.list .term),(1,.list .term),(5,.row .term false)])],[],λ m x=>qhs m x.1 x.2.1⟩
noncomputable def qGI:FI:=⟨f177,[.val .term],[(.list .term)],[(6,[(3,.list .term),(31,.list .term),(32,.keep),(33,.keep)])],[],λ m x=>zW m x.1⟩
noncomputable def qHw:FI:=⟨f178,[.val (.list .term)],[(.list .term)],[(3,[(3,.row .term false),(9,.list .term),(10,.keep),(11,.keep)])],[],λ m x=>Q9 m x.1⟩
noncomputable def qHb:SI:=⟨f179,[.row (.pair .term (.int .i64)),.val .term,.val (.int .i64)],[.one (.row (.pair .term (.int .i64))),.one (.val .bool)],[(12,[(0,.row (.pair .term (.int .i64)) false),(2,.keep),(52,.list .term),(53,.keep),(54,.keep)])],[],λ m x=>za m x.1 x.2.1 x.2.2.1⟩
noncomputable def qGR:FI:=⟨f180,[.val (.list (.pair .term (.int .i64)))],[(.int .i64)],[(4,[(0,.list (.pair .term (.int .i64))),(9,.list (.pair .term (.int .i64))),(10,.keep),(11,.keep)])],[],λ m x=>Jc m x.1⟩
noncomputable def qGH:FI:=⟨f181,[.val .term],[.term],[(3,[(1,.box [.keep,.keep,.keep,.row .term false]),(2,.box [.keep,.keep,.keep,.row .term false]),(10,.row .term false),(11,.keep),(12,.keep)])],[],λ m x=>zc m x.1⟩
noncomputable def qKb:FI:=⟨f182,[.val .str,.val (.list .term)],[.term],[],[],λ m x=>qbJ m x.1 x.2.1⟩
noncomputable def qCv:FI:=⟨f183,[.val (.list (.list .term))],[(.list .term)],[(3,[(0,.list (.list .term)),(3,.keep),(9,.list (.list .term)),(10,.keep),(11,.keep)]),(11,[(6,.row .term false),(25,.list (.list .term)),(26,.keep),(27,.keep)])],[],λ m x=>zf m x.1⟩
noncomputable def qHm:FI:=⟨f184,[.val (.list (.pair .term (.int .i64))),.val (.list (.pair .term (.int .i64)))],[(.list (.pair .term (.int .i64))),(.int .i64)],[(9,[(8,.row (.pair .term (.int .i64)) false),(23,.list (.pair .term (.int .i64))),(24,.keep),(25,.keep)])],[],λ m x=>qdy m x.1 x.2.1⟩
noncomputable def qJs:FI:=⟨f185,[.val .str,.val (.list .term)],[.term],[],[],λ m x=>qem m x.1 x.2.1⟩
noncomputable def qGV:FI:=⟨f188,[.val .term],[.bool],[(3,[(1,.box [.keep,.keep,.keep,.list .term]),(3,.list (.pair .str (.pair (.int .i64) (.pair (.int .i64) (.int .i64))))),(4,.keep)])],[],λ m x=>qgo m x.1⟩
noncomputable def qGg:FI:=⟨f189,[.val .term],[.bool],[(4,[(1,.box [.keep,.keep,.keep,.list .term]),(3,.keep)])],[],λ m x=>qdL m x.1⟩
noncomputable def qJm:FI:=⟨f190,[],[.term],[],[],λ m x=>qf6 m⟩
noncomputable def qHi:FI:=⟨f191,[.val (.list .term),.val (.list .term)],[(.list .term)],[(3,[(1,.list .term),(5,.plist .term),(6,.keep)])],[],λ m x=>qez m x.1 x.2.1⟩
noncomputable def qKr:FI:=⟨f192,[.val (.list .term)],[.term],[],[],λ m x=>qgk m x.1⟩
noncomputable def qJE:FI:=⟨f193,[.val (.list (.pair .term (.int .i64)))],[.term,(.int .i64)],[],[],λ m x=>qa6 m x.1⟩
noncomputable def qKm:FI:=⟨f195,[.val .term],[.bool],[],[],λ m x=>JL m x.1⟩
noncomputable def qHF:FI:=⟨f197,[.val .term,.val (.list (.int .i64)),.val .term],[.term,(.int .i64)],[(4,[(5,.box [.keep,.keep,.keep,.list .term]),(6,.box [.keep,.keep,.keep,.row .term false]),(8,.box [.keep,.keep,.keep,.list .term]),(9,.box []),(14,.list (.int .i64)),(15,.keep),(16,.keep)])],[],λ m x=>qdQ m x.1 x.2.1 x.2.2.1⟩
noncomputable def qJx:FI:=⟨f198,[.val .term],[.bool],[],[],λ m x=>JD m x.1⟩
noncomputable def qJU:SI:=⟨f199,[.row (.pair .term (.int .i64)),.val (.pair .term (.int .i64))],[.one (.row (.pair .term (.int .i64)))],[],[],λ m x=>JC m x.1 x.2.1⟩
noncomputable def qGx:SI:=⟨f202,[.val (.list (.pair .term (.int .i64)))],[.one (.row (.pair .term (.int .i64)))],[(3,[(3,.row (.pair .term (.int .i64)) false),(6,.list (.pair .term (.int .i64))),(7,.keep),(8,.keep)])],[],λ m x=>qa1 m x.1⟩
noncomputable def qJ5:FI:=⟨f203,[.val (.list (.pair .term (.int .i64)))],[(.list (.pair .term (.int .i64))),(.int .i64)],[],[],λ m x=>qaX m x.1⟩
noncomputable def qF6:FI:=⟨f214,[.val (.list .term),.val .term],[(.list .term)],[(5,[(0,.list .term),(3,.box [.keep,.keep,.keep,.list .term]),(5,.row .term false),(6,.keep)])],[],λ m x=>qdY m x.1 x.2.1⟩
noncomputable def qu6:FI:=⟨f215,[.val (.list (.pair .term (.int .i64)))],[(.list .term)],[(3,[(0,.list (.pair .term (.int .i64))),(3,.row .term false),(4,.keep)]),(6,[(0,.list (.pair .term (.int .i64))),(3,.row .term false),(4,.keep),(5,.keep)]),(10,[(0,.list (.pair .term (.int .i64))),(3,.row .term false),(6,.keep)]),(13,[(0,.list (.pair .term (.int .i64))),(3,.row .term false),(6,.keep),(7,.keep)])],[],λ m x=>qbE m x.1⟩
noncomputable def qG8:FI:=⟨f219,[.val (.list (.pair .term (.int .i64))),.val .term,.fn],[(.int .i64),.bool],[(3,[(0,.list (.pair .term (.int .i64))),(2,.keep),(4,.box [.keep,.keep,.keep,.list .term]),(8,.keep),(9,.keep),(10,.keep)])],[],λ m x=>qy m x.1 x.2.1⟩
noncomputable def qJI:FI:=⟨f220,[.val (.pair .term (.int .i64)),.val .term],[(.int .i64)],[],[],λ m x=>QE m x.1 x.2.1⟩
noncomputable def qJR:FI:=⟨f223,[.val (.list (.pair .term (.int .i64))),.fn],[.bool],[],[],λ m x=>qT m x.1⟩
noncomputable def qJ7:FI:=⟨f224,[.val (.pair .term (.int .i64))],[.bool],[],[],λ m x=>JN m x.1⟩
noncomputable def qHs:FI:=⟨f235,[.val (.list (.pair .term (.int .i64))),.fn],[(.int .i64)],[(2,[(0,.list (.pair .term (.int .i64))),(1,.keep),(7,.keep),(8,.keep)])],[],λ m x=>qZ m x.1⟩
noncomputable def elT (f:Nat):Option Ty :=
cond (Nat.blt f 121)
 (cond (Nat.blt f 47)
 (cond (Nat.blt f 27)
 (cond (Nat.beq f 22) (some .term) (none))
 (cond (Nat.blt f 45)
 (cond (Nat.beq f 27) (some (.pair (.int .i64) .term)) (none))
 (cond (Nat.beq f 45) (some (.int .u8)) (none))))
 (cond (Nat.blt f 57)
 (cond (Nat.blt f 49)
 (cond (Nat.beq f 47) (some (.pair (.int .i64) .term)) (none))
 (cond (Nat.beq f 49) (some .str) (none)))
 (cond (Nat.blt f 59)
 (cond (Nat.beq f 57) (some (.int .i64)) (none))
 (cond (Nat.beq f 59) (some (.pair (.int .u8) (.int .u8))) (none)))))
 (cond (Nat.blt f 155)
 (cond (Nat.blt f 130)
 (cond (Nat.blt f 123)
 (cond (Nat.beq f 121) (some (.pair (.list (.int .i64)) (.int .i64))) (none))
 (cond (Nat.beq f 123) (some .bool) (none)))
 (cond (Nat.blt f 137)
 (cond (Nat.beq f 130) (some (.pair .str (.pair (.int .i64) (.pair (.int .i64) (.int .i64))))) (none))
 (cond (Nat.beq f 137) (some (.pair .term (.int .i64))) (none))))
 (cond (Nat.blt f 175)
 (cond (Nat.blt f 163)
 (cond (Nat.beq f 155) (some (.pair (.list .term) (.list (.int .i64)))) (none))
 (cond (Nat.beq f 163) (some (.list (.pair .term (.int .i64)))) (none)))
 (cond (Nat.blt f 182)
 (cond (Nat.beq f 175) (some (.list (.int .i64))) (none))
 (cond (Nat.beq f 182) (some (.list .term)) (none)))))
noncomputable def tb:Tb:=⟨tyT,elT,.node 104 (.node 62 (.node 39 (.node 19 (.node 13 (.node 11 (.node 10 (.node 4 .leaf .leaf (.pure [([],i4)])) .leaf (.pure [([],i10)])) (.node 12 .leaf .leaf (.pure [([],i12)])) (.pure [([],i11)])) (.node 17 (.node 16 (.node 14 .leaf .leaf (.pure [([],i14)])) .leaf (.pure [([],i16)])) (.node 18 .leaf .leaf (.pure [([],i18)])) (.pure [([],i17)])) (.pure [([],i13)])) (.node 25 (.node 22 (.node 21 (.node 20 .leaf .leaf (.pure [([],i20)])) .leaf (.pure [([],i21)])) (.node 23 .leaf .leaf (.pure [([],i23)])) (.pure [([],i22)])) (.node 35 (.node 28 .leaf .leaf (.pure [([],i28)])) (.node 38 .leaf .leaf (.pure [([],i38)])) (.pure [([],i35)])) (.pure [([],i25)])) (.pure [([],i19)])) (.node 49 (.node 44 (.node 42 (.node 41 (.node 40 .leaf .leaf (.pure [([],i40)])) .leaf (.pure [([],i41)])) (.node 43 .leaf .leaf (.pure [([],i43)])) (.pure [([],i42)])) (.node 47 (.node 46 (.node 45 .leaf .leaf (.pure [([],i45)])) .leaf (.pure [([],i46)])) (.node 48 .leaf .leaf (.pure [([],i48)])) (.pure [([],i47)])) (.pure [([],i44)])) (.node 55 (.node 52 (.node 51 (.node 50 .leaf .leaf (.pure [([],i50)])) .leaf (.st i51)) (.node 54 .leaf .leaf (.pure [([],i54)])) (.hk λ _=>⟨[.row (.pair (.int .i64) .term),.clo 53 1,.box [.val (.pair (.int .i64) .term)]],λ x=>zg 0 x.1 x.2.1⟩)) (.node 57 (.node 56 .leaf .leaf (.pure [([],i56)])) (.node 58 .leaf .leaf (.pure [([],i58)])) (.pure [([],i57)])) (.hs ⟨[.row (.pair (.int .i64) .term),.val (.int .i64),.val (.int .i64)],[.one (.row (.pair (.int .i64) .term))],λ x=>zA 0 x.1 x.2.1 x.2.2.1⟩)) (.pure [([],i49)])) (.pure [([],i39)])) (.node 86 (.node 73 (.node 68 (.node 66 (.node 65 (.node 64 .leaf .leaf (.pure [([],i64)])) .leaf (.pure [([],i65)])) (.node 67 .leaf .leaf (.pure [([],i67)])) (.pure [([],i66)])) (.node 71 (.node 70 (.node 69 .leaf .leaf (.pure [([],i69)])) .leaf (.pure [([],i70)])) (.node 72 .leaf .leaf (.pure [([],i72)])) (.pure [([],i71)])) (.pure [([],i68)])) (.node 78 (.node 76 (.node 75 (.node 74 .leaf .leaf (.st i74)) .leaf (.pure [([],i75)])) (.node 77 .leaf .leaf (.pure [([],i77)])) (.pure [([],i76)])) (.node 81 (.node 79 .leaf .leaf (.pure [([],i79)])) (.node 85 .leaf .leaf (.pure [([],i85)])) (.pure [([],i81)])) (.pure [([],i78)])) (.pure [([],i73)])) (.node 95 (.node 91 (.node 89 (.node 88 (.node 87 .leaf .leaf (.pure [([],i87)])) .leaf (.pure [([],i88)])) (.node 90 .leaf .leaf (.pure [([],i90)])) (.pure [([],i89)])) (.node 93 (.node 92 .leaf .leaf (.pure [([],i92)])) (.node 94 .leaf .leaf (.pure [([],i94)])) (.pure [([94],i93)])) (.pure [([],i91)])) (.node 100 (.node 98 (.node 97 (.node 96 .leaf .leaf (.pure [([],i96)])) .leaf (.pure [([],i97)])) (.node 99 .leaf .leaf (.pure [([],i99)])) (.pure [([],i98)])) (.node 102 (.node 101 .leaf .leaf (.pure [([],qKe)])) (.node 103 .leaf .leaf (.pure [([],qJW)])) (.pure [([],qHo)])) (.pure [([],qGm)])) (.pure [([],i95)])) (.pure [([],i86)])) (.pure [([],i62)])) (.node 172 (.node 147 (.node 128 (.node 123 (.node 121 (.node 120 (.node 105 .leaf .leaf (.hp ⟨[.val .str,.val .str],[(.int .i64)],λ x=>strings_Compare 0 x.1 x.2.1⟩)) .leaf (.pure [([],qJO)])) (.node 122 .leaf .leaf (.pure [([],qJy)])) (.pure [([],qJl)])) (.node 126 (.node 125 (.node 124 .leaf .leaf (.pure [([],qKw)])) .leaf (.pure [([],qGF)])) (.node 127 .leaf .leaf (.st qGC)) (.hp ⟨[],[(.list (.pair .str (.pair (.int .i64) (.pair (.int .i64) (.int .i64)))))],λ x=>qhC 0⟩)) (.pure [([],qJF)])) (.node 133 (.node 131 (.node 130 (.node 129 .leaf .leaf (.st qHS)) .leaf (.pure [([],qKi)])) (.node 132 .leaf .leaf (.pure [([],qKt)])) (.pure [([],qGJ)])) (.node 143 (.node 134 .leaf .leaf (.pure [([],qJu)])) (.node 146 .leaf .leaf (.pure [([],qKc)])) (.pure [([],qFU)])) (.pure [([],qHg)])) (.st qKk)) (.node 158 (.node 152 (.node 150 (.node 149 (.node 148 .leaf .leaf (.pure [([],qJ6)])) .leaf (.pure [([],qGb)])) (.node 151 .leaf .leaf (.pure [([],qzs)])) (.pure [([],qJA)])) (.node 156 (.node 155 (.node 154 .leaf .leaf (.hm λ m=>⟨.term,[.clo 78 0],λ x=>qV m x.1⟩)) .leaf (.hx λ m=>⟨[.row .term,.clo 156 0],[.one (.row .term)],λ x=>qF m x.1⟩)) (.node 157 .leaf .leaf (.pure [([],qF8)])) (.pure [([],qKn)])) (.pure [([],qJV)])) (.node 164 (.node 161 (.node 160 (.node 159 .leaf .leaf (.pure [([],qHh)])) .leaf (.pure [([],qKo)])) (.node 163 .leaf .leaf (.pure [([],qHj)])) (.pure [([],qJp)])) (.node 168 (.node 167 .leaf .leaf (.pure [([],qG7)])) (.node 169 .leaf .leaf (.pure [([],qGd)])) (.st qHf)) (.pure [([],qGt)])) (.pure [([],qKs)])) (.pure [([],qDk)])) (.node 193 (.node 182 (.node 177 (.node 175 (.node 174 (.node 173 .leaf .leaf (.st qF1)) .leaf (.pure [([],qKh)])) (.node 176 .leaf .leaf (.pure [([],qHa)])) (.pure [([],qGP)])) (.node 180 (.node 179 (.node 178 .leaf .leaf (.pure [([],qHw)])) .leaf (.st qHb)) (.node 181 .leaf .leaf (.pure [([],qGH)])) (.pure [([],qGR)])) (.pure [([],qGI)])) (.node 189 (.node 185 (.node 184 (.node 183 .leaf .leaf (.pure [([],qCv)])) .leaf (.pure [([],qHm)])) (.node 188 .leaf .leaf (.pure [([],qGV)])) (.pure [([],qJs)])) (.node 191 (.node 190 .leaf .leaf (.pure [([],qJm)])) (.node 192 .leaf .leaf (.pure [([],qKr)])) (.pure [([],qHi)])) (.pure [([],qGg)])) (.pure [([],qKb)])) (.node 214 (.node 200 (.node 198 (.node 197 (.node 195 .leaf .leaf (.pure [([],qKm)])) .leaf (.pure [([],qHF)])) (.node 199 .leaf .leaf (.st qJU)) (.pure [([],qJx)])) (.node 202 (.node 201 .leaf .leaf (.hs ⟨[.nil,.val (.int .i64)],[.one (.row .term)],λ x=>yB 0 x.1⟩)) (.node 203 .leaf .leaf (.pure [([],qJ5)])) (.st qGx)) (.hs ⟨[.val (.list .term)],[.one (.row .term)],λ x=>zH 0 x.1⟩)) (.node 222 (.node 220 (.node 219 (.node 215 .leaf .leaf (.pure [([],qu6)])) .leaf (.pure [([220],qG8)])) (.node 221 .leaf .leaf (.hs ⟨[.row (.pair .term (.int .i64)),.val (.int .i64),.val (.list (.pair .term (.int .i64)))],[.one (.row (.pair .term (.int .i64)))],λ x=>zo 0 x.1 x.2.1 x.2.2.1⟩)) (.pure [([],qJI)])) (.node 224 (.node 223 .leaf .leaf (.pure [([224],qJR)])) (.node 235 .leaf .leaf (.pure [([224],qHs)])) (.pure [([],qJ7)])) (.hs ⟨[.row (.pair .term (.int .i64)),.val (.int .i64),.val (.int .i64)],[.one (.row (.pair .term (.int .i64)))],λ x=>zp 0 x.1 x.2.1 x.2.2.1⟩)) (.pure [([],qF6)])) (.pure [([],qJE)])) (.pure [([],qGG)])) (.pure [([],qHe)])⟩
end Go.AmYtbpnmbmdbblehaaGreat
