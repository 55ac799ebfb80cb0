/- Part 5 of what the proofs stand on: plain functions of the program, and that they are its functions. -/
import Derived.Test.YtbpnmbmdbblehaaGreatM4
import Derived.KernelRfl
import Derived.Test.YtbpnmbmdbblehaaGreatM3
import Derived.Shelf.SlSortCmp.NoneTotal
import Derived.Test.YtbpnmbmdbblehaaGreatProg
import Derived.SliceStrings
import Derived.SizedLaws
import Derived.Test.YtbpnmbmdbblehaaGreatM1
import Derived.ProofKit
import Derived.Test.YtbpnmbmdbblehaaGreatRows
set_option linter.unusedVariables false
set_option linter.unusedSimpArgs false
noncomputable section
namespace Go.AmYtbpnmbmdbblehaaGreat
open Go Go.GxYtbpnmbmdbblehaaGreat
theorem qIg (l:List T) (t:T) (hs:szL l+size t≤1000000000):Ev (λ m _=>qg8 m l t) (l.any λ x=>yJ x t):=by
 have hl:=ja l
 refine Ev.succ ?_
 simp only [qzx,qfj]
 have key:=qr (P := λ i=>Ev (λ m k=>qaN m k l i t.kind t.name t.sort t.kids) ((l.drop i).any λ x=>yJ x t)) l (by omega)
  (λ hc=>by
   refine Ev.loop ?_
   simp only [qnM,qfF]
   refine Ev.cf hc (Ev.ret ?_)
   rw [List.drop_length];rfl)
  (λ i x hx hd hc hg hi hP=>by
   refine Ev.loop ?_
   simp only [qnM,qfF,qe]
   have h1:=qbf (List.mem_of_getElem? hx)
   rw [hd,List.any_cons,show T.mk t.kind t.name t.sort t.kids=t from qe t]
   refine Ev.ct hc (Ev.some hg (Ev.bind (qbD x t (by omega) (by omega)) (Ev.ite (λ h=>?_) λ h=>?_)))
   ·rw [h];exact Ev.pure _
   ·rw [h,hi];exact hP)
 refine Ev.diag (L := λ m k=>qaN m k l 0 t.kind t.name t.sort t.kids) ?_
 exact (key 0 (Nat.zero_le _)).res (by rw [List.drop_zero])
theorem qyp (t:T):∀ (l:List T) (s:List T × Bool),(l.foldl (QH t) s).1.length≤s.1.length+2*l.length
 | [],s=>by simp
 | x::l,s=>by
   have h:=qyp t l (QH t s x)
   have:(QH t s x).1.length≤s.1.length+2:=by
    unfold QH
    split
    ·simp only [List.length_append,List.length_cons,List.length_nil]
     split<;>simp
    ·simp
   rw [List.foldl_cons,List.length_cons];omega
theorem qDT (l:List T) (t:T) (hs:szL l+size t≤1000000000):Ev (λ m _=>qe4 m l t) (qtd l t):=by
 have hl:=ja l
 refine Ev.succ ?_
 simp only [qy7,qfn]
 have hlen:∀ i,((l.take i).foldl (QH t) ([],false)).1.length≤2*l.length := λ i=>by
  have:=qyp t (l.take i) ([],false)
  have h2:(l.take i).length≤l.length:=by rw [List.length_take];omega
  simp only [List.length_nil] at this;omega
 have key:=qr (P := λ i=>Ev (λ m k=>qaZ m k l ((l.take i).foldl (QH t) ([],false)).2 i t.kind t.name t.sort t.kids ((l.take i).foldl (QH t) ([],false)).1) (qtd l t)) l (by omega)
  (λ hc=>by
   refine Ev.loop ?_
   simp only [qnC,qfb]
   refine Ev.cf hc ?_
   rw [List.take_length]
   unfold qtd
   have:=hlen l.length
   rw [List.take_length] at this
   refine Ev.ite (λ h=>?_) λ h=>?_
   ·rw [bnt] at h
    rw [if_neg (by rw [h];decide),show T.mk t.kind t.name t.sort t.kids=t from qe t]
    exact Ev.ct (zh (by omega) (by omega)) (Ev.pure _)
   ·rw [bnf] at h
    rw [if_pos h]
    exact Ev.pure _)
  (λ i x hx hd hc hg hi hP=>by
   refine Ev.loop ?_
   simp only [qnC,qfb,qe]
   have h1:=qbf (List.mem_of_getElem? hx)
   have h2:=hlen i
   have hstep:(l.take (i+1)).foldl (QH t) ([],false)=QH t ((l.take i).foldl (QH t) ([],false)) x:=by
    rw [List.take_add_one,hx,List.foldl_append];rfl
   rw [hstep] at hP
   generalize (l.take i).foldl (QH t) ([],false)=s at *
   rw [show T.mk t.kind t.name t.sort t.kids=t from qe t,hi]
   refine Ev.ct hc (Ev.some hg (Ev.bind (qgO t (by omega) x (by omega)) (Ev.ite (λ h=>?_) λ h=>?_)))
   ·rw [bnt] at h
    refine Ev.ite (λ hc1=>?_) λ hc1=>?_
    ·rw [qgP] at hc1
     unfold QH at hP
     rw [if_pos ⟨h,hc1⟩] at hP
     refine Ev.ite (λ hc2=>?_) λ hc2=>?_
     ·rw [qv] at hc2
      rw [if_pos hc2] at hP
      exact Ev.ct (zh (by omega) (by omega)) (Ev.some hg (Ev.ct (zh (by rw [List.length_append];simp only [List.length_cons,List.length_nil];omega) (by omega)) hP))
     ·rw [qu] at hc2
      rw [if_neg (by omega),List.append_nil] at hP
      exact Ev.some hg (Ev.ct (zh (by omega) (by omega)) hP)
    ·rw [qik] at hc1
     unfold QH at hP
     rw [if_neg (by omega)] at hP
     exact Ev.some hg (Ev.ct (zh (by omega) (by omega)) hP)
   ·rw [bnf] at h
    unfold QH at hP
    rw [if_neg (by rw [h];intro hh;cases hh.1)] at hP
    exact Ev.some hg (Ev.ct (zh (by omega) (by omega)) hP))
 refine Ev.diag (L := λ m k=>qaZ m k l false 0 t.kind t.name t.sort t.kids []) ?_
 exact key 0 (Nat.zero_le _)
theorem qIv (l:List T) (t:T) (hs:szL l+size t≤1000000000):Ev (λ m _=>qdj m l t) (qgo l t):=by
 have hl:=ja l
 refine Ev.succ ?_
 simp only [qtF,qcp,qe]
 unfold qgo
 refine Ev.bind (qIg l t hs) (Ev.ite (λ h=>?_) λ h=>?_)
 ·rw [bnt] at h
  rw [if_neg (by rw [h];decide)]
  exact Ev.bind (qDT l t hs) (Ev.pure _)
 ·rw [bnf] at h
  rw [if_pos h]
  have key:=qr (P := λ i=>Ev (λ m k=>QR m k l i t.kind t.name t.sort t.kids ((l.take i).filter λ x => !yJ x t)) (l.filter λ x => !yJ x t)) l (by omega)
   (λ hc=>by
    refine Ev.loop ?_
    simp only [qjS,qcI]
    refine Ev.cf hc ?_
    rw [List.take_length]
    exact Ev.pure _)
   (λ i x hx hd hc hg hi hP=>by
    refine Ev.loop ?_
    simp only [qjS,qcI,qe]
    have h1:=qbf (List.mem_of_getElem? hx)
    have h2:((l.take i).filter λ x => !yJ x t).length≤l.length:=Nat.le_trans (List.length_filter_le _ _) (by rw [List.length_take];omega)
    rw [List.take_add_one,hx,List.filter_append] at hP
    rw [show T.mk t.kind t.name t.sort t.kids=t from qe t,hi]
    refine Ev.ct hc (Ev.some hg (Ev.bind (qbD x t (by omega) (by omega)) (Ev.ite (λ h=>?_) λ h=>?_)))
    ·rw [bnt] at h
     have e:(Option.some x).toList.filter (λ x => !yJ x t)=[x]:=by show [x].filter _=_;simp [h]
     rw [e] at hP
     exact Ev.some hg (Ev.ct (zh (by omega) (by omega)) hP)
    ·rw [bnf] at h
     have e:(Option.some x).toList.filter (λ x => !yJ x t)=[]:=by show [x].filter _=_;simp [h]
     rw [e,List.append_nil] at hP
     exact hP)
  refine Ev.diag (L := λ m k=>QR m k l 0 t.kind t.name t.sort t.kids []) ?_
  exact key 0 (Nat.zero_le _)
theorem qtn (t:T):∀ l:List T,szL (Qa l t)≤szL l+size t
 | []=>by rw [Qa,qJ];omega
 | x::l=>by
   have:=qtn t l
   rw [Qa]
   split
   ·rw [qJ,qJ];omega
   ·split
    ·omega
    ·rw [qJ,qJ];omega
theorem qvd (p:T→Bool):∀ l:List T,szL (l.filter p)≤szL l
 | []=>Nat.le_refl _
 | x::l=>by
   have:=qvd p l
   rw [List.filter_cons]
   split
   ·rw [qJ,qJ];omega
   ·rw [qJ];omega
theorem qGX (l:List T) (t:T):szL (qgo l t)≤szL l+size t:=by
 unfold qgo
 split
 ·exact Nat.le_trans (qvd _ l) (by omega)
 ·rw [qpW];exact qtn t l
theorem qsC:∀ (b a:List T),szL (b.foldl qgo a)≤szL a+szL b
 | [],a=>by simp [szL]
 | x::b,a=>by
   have h1:=qsC b (qgo a x)
   have h2:=qGX a x
   rw [List.foldl_cons,qJ];omega
theorem qwJ (a b:List T) (hs:szL a+szL b≤1000000000):Ev (λ m _=>qdy m a b) (qhW a b):=by
 have h1:=ja a
 have h2:=ja b
 refine Ev.succ ?_
 simp only [qwV,qeC]
 have key:=qr (P := λ i=>Ev (λ m k=>Je m k b ((b.take i).foldl qgo a) i) (qhW a b)) b (by omega)
  (λ hc=>by
   refine Ev.loop ?_
   simp only [qmt,qes]
   refine Ev.cf hc ?_
   rw [List.take_length]
   exact Ev.pure _)
  (λ i x hx hd hc hg hi hP=>by
   refine Ev.loop ?_
   simp only [qmt,qes,qe]
   have h3:=jA hx
   have h4:=qsC (b.take i) a
   rw [List.take_add_one,hx,List.foldl_append] at hP
   refine Ev.ct hc (Ev.some hg (Ev.bind (qIv _ x (by omega)) ?_))
   rw [hi]
   exact hP)
 refine Ev.ct (zh (by simp only [List.length_nil];omega) (by omega)) ?_
 have main:Ev (λ m _=>Je m m b a 0) (qhW a b):=Ev.diag (L := λ m k=>Je m k b a 0) (key 0 (Nat.zero_le _))
 exact Ev.case (λ h=>by rw [h] at main ⊢;exact main) λ x r h=>by rw [h] at main ⊢;exact main
theorem qFm (t:T):size t≤1000000000→Ev (λ m _=>zr m t) (jr t):=by
 induction t using T.ind with
 | h t ih =>
   intro hs
   have hl:=yF t
   have hz:=qC t
   refine Ev.succ ?_
   simp only [qqe,qbc,qe]
   have key:=qr (P := λ i=>Ev (λ m k=>ji m (zr m) k (((t.kids.take i).map jr).foldl zd []) i t.kind t.name t.sort t.kids) ((t.kids.map jr).foldl zd [])) t.kids (by omega)
    (λ hc=>by
     refine Ev.loop ?_
     simp only [qhN,qa6]
     refine Ev.cf hc ?_
     rw [List.take_length]
     exact Ev.pure _)
    (λ i x hx hd hc hg hi hP=>by
     refine Ev.loop ?_
     simp only [qhN,qa6,qe]
     have hm:=List.mem_of_getElem? hx
     have h1:=jf t x hm
     have h2:=qcW (t.kids.take i)
     have h3:=jA hx
     have h4:=qiV x
     have ha:Asc (((t.kids.take i).map jr).foldl zd []):=qfV _ _ List.Pairwise.nil λ l hl=>by
      obtain ⟨k,_,rfl⟩:=List.mem_map.1 hl
      exact qjL k
     refine Ev.ct hc (Ev.some hg (Ev.bind (ih x hm (by omega)) (Ev.bind (qwJ _ _ ?_) ?_)))
     ·unfold zF at h2;unfold szL at *;omega
     ·rw [hi,qw4 ha (qjL x)]
      refine hP.congr λ m k=>?_
      rw [qhS hx])
   have main:Ev (λ m _=>ji m (zr m) m [] 0 t.kind t.name t.sort t.kids) ((t.kids.map jr).foldl zd []) :=
    Ev.diag (L := λ m k=>ji m (zr m) k [] 0 t.kind t.name t.sort t.kids) (key 0 (Nat.zero_le _))
   rw [qiD]
   by_cases h3:t.kind=3
   ·have hk:ieq t.kind 3=true:=qi.2 h3
    have hk':qc (ieq t.kind 3)=false:=bnf.2 hk
    refine Ev.ct hk ?_
    refine Ev.ite (λ hn=>?_) λ hn=>?_
    ·rw [yZ] at hn
     have hnz:isN t qbb=true:=yr.2 ⟨h3,hn⟩
     have hnx:isN t qd1=false:=by
      rw [← Bool.not_eq_true,yr];rintro ⟨_,h⟩;rw [hn] at h;exact absurd h (by decide)
     refine Ev.ite (λ he=>?_) λ he=>?_
     ·rw [qi] at he
      have he:t.kids=[]:=List.eq_nil_of_length_eq_zero (by omega)
      rw [hnz,he]
      exact Ev.pure _
     ·rw [qg] at he
      have he:t.kids.isEmpty=false:=by
       cases hh:t.kids with
       | nil=>rw [hh] at he;exact absurd rfl he
       | cons _ _=>rfl
      rw [hnz,he,hnx]
      exact Ev.cf hk' (Ev.ct (by rw [hn];rfl) (Ev.pure _))
    ·have hn':=jn.1 hn
     have hnz:isN t qbb=false:=by
      rw [← Bool.not_eq_true,yr];rintro ⟨_,h⟩;exact hn' h
     rw [hnz]
     refine Ev.cf hk' (Ev.ite (λ hx=>?_) λ hx=>?_)
     ·have hnx:isN t qd1=false:=by
        rw [← Bool.not_eq_true,yr];rintro ⟨_,h⟩;exact jn.1 (bnt.1 hx) h
      rw [hnx]
      exact Ev.pure _
     ·rw [show isN t qd1=true from yr.2 ⟨h3,yZ.1 (bnf.1 hx)⟩]
      exact main
   ·have hk:ieq t.kind 3=false:=qg.2 h3
    have hnn:∀ n,isN t n=false := λ n=>by
     rw [← Bool.not_eq_true,yr];rintro ⟨h,_⟩;exact h3 h
    rw [hnn,hnn]
    exact Ev.cf hk (Ev.ct (bnt.2 hk) (Ev.pure _))
theorem qBM:qA (apT qbb [])=0:=by
 unfold qA
 rw [qjx,qC,qim]
 have:Qm (apT qbb [])=0:=by decide
 show (if Qm (apT qbb [])≠0 then Qm (apT qbb []) else _)=0
 rw [this];rfl
theorem qAV (l:List T) (hs:szL l≤100000000):Ev (λ m _=>qd9 m l (apT qbb [])) (qkx l):=by
 have hl:=ja l
 refine Ev.succ ?_
 simp only [qvC,qdH]
 unfold qkx
 refine Ev.ite (λ h=>?_) λ h=>?_
 ·rw [qv] at h
  rw [if_pos (by omega)]
  exact Ev.pure _
 ·rw [qu] at h
  rw [if_neg (by omega)]
  have key:=qr (P := λ i=>Ev (λ m k=>Jt m k l i 3 qbb 0 []) (((l.drop i).map qA).foldl thn 0)) l (by omega)
   (λ hc=>by
    refine Ev.loop ?_
    simp only [qkW,qdp]
    refine Ev.cf hc ?_
    rw [List.drop_length]
    refine Ev.bind (qaC (T.mk 3 qbb 0 []) (by rw [qC];show 1+0≤_;omega)) ?_
    exact Ev.ret qBM)
   (λ i x hx hd hc hg hi hP=>by
    refine Ev.loop ?_
    simp only [qkW,qdp,qe]
    have h1:=qbf (List.mem_of_getElem? hx)
    rw [qne hd]
    refine Ev.ct hc (Ev.some hg (Ev.bind (qaC x (by omega)) (Ev.ite (λ hv=>?_) λ hv=>?_)))
    ·rw [bnt,qg] at hv
     rw [if_pos hv]
     exact Ev.pure _
    ·rw [bnf,qi] at hv
     rw [if_neg (by omega),hi]
     exact hP)
  refine Ev.diag (L := λ m k=>Jt m k l 0 3 qbb 0 []) ?_
  exact (key 0 (Nat.zero_le _)).res (by rw [List.drop_zero])
theorem qAb (l:List T):size (Ju l)≤1+szL l:=by
 unfold Ju
 split
 ·rw [qC];show 1+0≤_;omega
 ·split
  ·rename_i _ h1l
   have:l.getD 0 zT∈l:=by
    cases l with
    | nil=>cases h1l
    | cons x r=>exact List.mem_cons_self ..
   have:=qbf this;omega
  ·rw [qC];exact Nat.le_refl _
theorem qCJ (l:List T) (hs:szL l≤1000000000):Ev (λ m _=>qfw m l) (Ju l):=by
 have hl:=ja l
 refine Ev.succ ?_
 simp only [qwM,qhy,qe]
 unfold Ju
 refine Ev.ite (λ h0=>?_) λ h0=>?_
 ·rw [qi] at h0
  rw [if_pos (by omega)]
  exact Ev.bind (qbl _ [] (by simp)) (Ev.pure _)
 ·rw [qg] at h0
  rw [if_neg (by omega)]
  refine Ev.ite (λ h1=>?_) λ h1=>?_
  ·rw [qi] at h1
   rw [if_pos (by omega)]
   refine Ev.some (a:=l.getD 0 zT) ?_ (Ev.pure _)
   rw [Jb,List.getD_eq_getElem?_getD]
   cases l with
   | nil=>simp at h1
   | cons x r=>rfl
  ·rw [qg] at h1
   rw [if_neg (by omega)]
   exact Ev.ct (zh (by simp only [List.length_nil];omega) (by omega)) (Ev.case (λ h=>Ev.ret (by rw [h];rfl)) λ x r h=>Ev.ret (by rw [h];rfl))
theorem qGE (l:List T) (hs:szL l≤900000):Ev (λ m _=>qgS m l) (qlh l):=by
 have hl:=ja l
 refine Ev.succ ?_
 simp only [qza,qe8]
 unfold qlh
 have z:Ev (λ m _=>qfo m) (apT qbb []):=by
  refine Ev.succ ?_
  simp only [qwD,qhA,qe]
  exact Ev.bind (qbl _ [] (by simp)) (Ev.pure _)
 refine Ev.bind z ?_
 rw [qe]
 refine Ev.bind (qAV l (by omega)) (Ev.ite (λ h=>?_) λ h=>?_)
 ·rw [bnt,qg] at h
  rw [if_pos h]
  exact Ev.pure _
 ·rw [bnf,qi] at h
  rw [if_neg (by omega)]
  have key:=qr (P := λ i=>Ev (λ m k=>qaL m k l (((l.take i).map jr).foldl zd []) i 0 [] 0 []) (if qA (Ju (zF l))≠0 then (zT,3) else (Ju (zF l),0))) l (by omega)
   (λ hc=>by
    refine Ev.loop ?_
    simp only [qmW,qfi,qe]
    refine Ev.cf hc ?_
    rw [List.take_length]
    have h1:=qcW l
    have h2:=qAb (zF l)
    refine Ev.bind (qCJ (zF l) (by omega)) (Ev.bind (qaC _ (by omega)) (Ev.ite (λ h=>?_) λ h=>?_))
    ·rw [bnt,qg] at h
     rw [if_pos h];exact Ev.pure _
    ·rw [bnf,qi] at h
     rw [if_neg (by omega)];exact Ev.pure _)
   (λ i x hx hd hc hg hi hP=>by
    refine Ev.loop ?_
    simp only [qmW,qfi,qe]
    have hm:=List.mem_of_getElem? hx
    have h1:=qbf hm
    have h2:=qcW (l.take i)
    have h3:=jA hx
    have h4:=qiV x
    have ha:Asc (((l.take i).map jr).foldl zd []):=qfV _ _ List.Pairwise.nil λ l hl=>by
     obtain ⟨k,_,rfl⟩:=List.mem_map.1 hl
     exact qjL k
    refine Ev.ct hc (Ev.some hg (Ev.bind (qFm x (by omega)) (Ev.bind (qwJ _ _ ?_) ?_)))
    ·unfold zF at h2;omega
    ·rw [hi,qw4 ha (qjL x)]
     refine hP.congr λ m k=>?_
     rw [qhS hx])
  refine Ev.diag (L := λ m k=>qaL m k l [] 0 0 [] 0 []) ?_
  exact key 0 (Nat.zero_le _)
end Go.AmYtbpnmbmdbblehaaGreat
namespace Go.GxYtbpnmbmdbblehaaGreat
def qeP (l:List Pw):Prop:=Asc (l.map (·.1))
def NzP (l:List Pw):Prop:=∀ p∈l,p.2≠0
theorem qeU {p:Pw} {l:List Pw}:qeP (p::l)↔(∀ q∈l,qp p.1 q.1=-1)∧qeP l:=by
 unfold qeP
 rw [List.map_cons,J0]
 simp
theorem qc1 {p:Pw} {l:List Pw}:NzP (p::l)↔p.2≠0∧NzP l:=by
 unfold NzP;simp
def jY (l:List Pw):Nat:=(l.map λ p=>p.2.natAbs).sum
theorem ql1:∀ (l:List Pw) (t:T) (n:Int) (p:Pw),p∈yg l t n→p.1=t∨p∈l
 | [],t,n,p,h=>by simp [yg] at h;exact .inl (by rw [h])
 | (x,m)::l,t,n,p,h=>by
   rw [yg] at h
   split at h
   ·rcases List.mem_cons.1 h with h | h
    ·exact .inl (by rw [h])
    ·exact .inr h
   ·split at h
    ·rename_i h0
     split at h
     ·exact .inr (List.mem_cons_of_mem _ h)
     ·rcases List.mem_cons.1 h with h | h
      ·left;rw [h];exact (JQ t x h0).symm
      ·exact .inr (List.mem_cons_of_mem _ h)
    ·rcases List.mem_cons.1 h with h | h
     ·exact .inr (h▸List.mem_cons_self ..)
     ·rcases ql1 l t n p h with h | h
      ·exact .inl h
      ·exact .inr (List.mem_cons_of_mem _ h)
theorem qyy:∀ (l:List Pw) (t:T) (n:Int),qeP l→qeP (yg l t n)
 | [],_,_,_=>List.pairwise_singleton _ _
 | (x,m)::l,t,n,h=>by
   obtain ⟨h1,h2⟩:=qeU.1 h
   rw [yg]
   have hr:=zH.rng t x
   split
   ·rename_i hlt
    refine qeU.2 ⟨λ q hq=>?_,h⟩
    rcases List.mem_cons.1 hq with e | hq
    ·rw [e];exact hlt
    ·exact qdQ hlt (h1 q hq)
   ·split
    ·split
     ·exact h2
     ·exact qeU.2 ⟨h1,h2⟩
    ·refine qeU.2 ⟨λ q hq=>?_,qyy l t n h2⟩
     rcases ql1 l t n q hq with e | hq
     ·rw [e];exact qud.1 (show qp t x=1 by omega)
     ·exact h1 q hq
theorem qzO:∀ (l:List Pw) (t:T) (n:Int),NzP l→n≠0→NzP (yg l t n)
 | [],_,_,_,hn=>by intro p hp;simp [yg] at hp;rw [hp];exact hn
 | (x,m)::l,t,n,h,hn=>by
   obtain ⟨h1,h2⟩:=qc1.1 h
   rw [yg]
   split
   ·exact qc1.2 ⟨hn,h⟩
   ·split
    ·split
     ·exact h2
     ·exact qc1.2 ⟨by assumption,h2⟩
    ·exact qc1.2 ⟨h1,qzO l t n h2 hn⟩
theorem qpJ:∀ (l:List Pw) (t:T) (n:Int),jY (yg l t n)≤jY l+n.natAbs
 | [],t,n=>by simp [yg,jY]
 | (x,m)::l,t,n=>by
   have ih:=qpJ l t n
   unfold jY at ih ⊢
   rw [yg]
   split
   ·simp only [List.map_cons,List.sum_cons];omega
   ·split
    ·split
     ·simp only [List.map_cons,List.sum_cons];omega
     ·simp only [List.map_cons,List.sum_cons];omega
    ·simp only [List.map_cons,List.sum_cons];omega
theorem qpY:∀ (l:List Pw) (t:T) (n:Int),(yg l t n).length≤l.length+1
 | [],t,n=>by simp [yg]
 | (x,m)::l,t,n=>by
   have ih:=qpY l t n
   rw [yg]
   split
   ·simp
   ·split
    ·split
     ·simp;omega
     ·simp
    ·simp only [List.length_cons];omega
theorem qyX (l:List Pw) (p:Pw) (h:p∈l):p.2.natAbs≤jY l:=by
 unfold jY
 induction l with
 | nil=>cases h
 | cons q l ih =>
   simp only [List.map_cons,List.sum_cons]
   rcases List.mem_cons.1 h with e | h
   ·rw [e];omega
   ·have:=ih h;omega
def yB (t:T) (n:Int) (s:List Pw × Bool) (p:Pw):List Pw × Bool :=
 ((if s.2=false∧qp t p.1<0 then s.1++[(t,n)] else s.1)++(if (if qp t p.1=0 then p.2+n else p.2)=0 then [] else [(p.1,if qp t p.1=0 then p.2+n else p.2)]),
   s.2||decide (qp t p.1≤0))
def qB0 (l:List Pw) (t:T) (n:Int):List Pw:=if (l.foldl (yB t n) ([],false)).2 then (l.foldl (yB t n) ([],false)).1 else (l.foldl (yB t n) ([],false)).1++[(t,n)]
theorem qlA (t:T) (n:Int):∀ (l out:List Pw),NzP l→(∀ q∈l,qp t q.1=-1)→l.foldl (yB t n) (out,true)=(out++l,true)
 | [],out,_,_=>by simp
 | (x,m)::l,out,h,k=>by
   obtain ⟨h1,h2⟩:=qc1.1 h
   have k1:=k _ (List.mem_cons_self ..)
   simp only at k1 h1
   have e:yB t n (out,true) (x,m)=(out++[(x,m)],true):=by simp [yB,k1,h1]
   rw [List.foldl_cons,e,qlA t n l _ h2 λ q hq=>k q (List.mem_cons_of_mem _ hq)]
   simp
theorem qpn (t:T) (n:Int):∀ (l out:List Pw),NzP l→qeP l→(if (l.foldl (yB t n) (out,false)).2 then (l.foldl (yB t n) (out,false)).1 else (l.foldl (yB t n) (out,false)).1++[(t,n)])=out++yg l t n
 | [],out,_,_=>by simp [yg]
 | (x,m)::l,out,h,k=>by
   obtain ⟨h1,h2⟩:=qc1.1 h
   obtain ⟨k1,k2⟩:=qeU.1 k
   simp only at h1 k1
   have hr:=zH.rng t x
   rw [List.foldl_cons,yg]
   by_cases c1:qp t x=-1
   ·have e:yB t n (out,false) (x,m)=(out++[(t,n)]++[(x,m)],true):=by simp [yB,c1,h1]
    rw [e,qlA t n l _ h2 λ q hq=>qdQ c1 (k1 q hq),if_pos c1]
    simp
   ·by_cases c2:qp t x=0
    ·have e:yB t n (out,false) (x,m)=(out++(if m+n=0 then [] else [(x,m+n)]),true):=by simp [yB,c2]
     have ex:=JQ t x c2
     rw [e,qlA t n l _ h2 λ q hq=>by rw [ex];exact k1 q hq,if_neg c1,if_pos c2]
     by_cases c3:m+n=0
     ·simp [c3]
     ·simp [c3]
    ·have e:yB t n (out,false) (x,m)=(out++[(x,m)],false):=by
       have g1:¬ qp t x<0:=by omega
       have g2:¬ qp t x≤0:=by omega
       simp [yB,g1,g2,c2,h1]
     rw [e,qpn t n l _ h2 k2,if_neg c1,if_neg c2]
     simp
theorem qEh {l:List Pw} (h:NzP l) (k:qeP l) (t:T) (n:Int):qB0 l t n=yg l t n:=by
 have:=qpn t n l [] h k
 simpa [qB0] using this
def Q5 (l:List Pw):Prop:=qeP l∧NzP l
theorem Q5.nil:Q5 []:=⟨List.Pairwise.nil,λ _ h=>by cases h⟩
theorem Q5.ins {l:List Pw} (h:Q5 l) (t:T) {n:Int} (hn:n≠0):Q5 (yg l t n):=⟨qyy l t n h.1,qzO l t n h.2 hn⟩
theorem qGs {t:T} {n:Int} (h:n≠0):J4 t n≠0:=by unfold J4;split<;>omega
theorem qD7 (t:T) (n:Int):(J4 t n).natAbs=n.natAbs:=by unfold J4;split<;>omega
theorem qz8 (fs:List T) (n:Int) (P:List Pw→Prop) (h:∀ k∈fs,∀ l,P l→P (yS k l n)):∀ l,P l→P ((fs.map yS).foldl (λ l f=>f l n) l):=by
 induction fs with
 | nil=>intro l hl;exact hl
 | cons k fs ih=>intro l hl;exact ih (λ k hk=>h k (List.mem_cons_of_mem _ hk)) _ (h k (List.mem_cons_self ..) l hl)
theorem qCw (t:T):∀ (l:List Pw) (n:Int),n≠0→Q5 l→Q5 (yS t l n):=by
 refine T.ind (P := λ t=>∀ (l:List Pw) (n:Int),n≠0→Q5 l→Q5 (yS t l n)) ?_ t
 intro t ih l n hn h
 rw [qeS]
 split
 ·exact qz8 t.kids (J4 t n) Q5 (λ k hk l hl=>ih k hk l _ (qGs hn) hl) l h
 ·exact h.ins t hn
theorem qFb (t:T):∀ (l:List Pw) (n:Int),jY (yS t l n)≤jY l+size t*n.natAbs∧(yS t l n).length≤l.length+size t:=by
 refine T.ind (P := λ t=>∀ (l:List Pw) (n:Int),jY (yS t l n)≤jY l+size t*n.natAbs∧(yS t l n).length≤l.length+size t) ?_ t
 intro t ih l n
 rw [qeS,qC]
 split
 ·have:∀ (fs:List T),(∀ k∈fs,k∈t.kids)→∀ l,jY ((fs.map yS).foldl (λ l f=>f l (J4 t n)) l)≤jY l+(fs.map size).sum*n.natAbs∧((fs.map yS).foldl (λ l f=>f l (J4 t n)) l).length≤l.length+(fs.map size).sum:=by
    intro fs
    induction fs with
    | nil=>intro _ l;simp
    | cons k fs ihf =>
      intro hf l
      have h1:=ih k (hf k (List.mem_cons_self ..)) l (J4 t n)
      rw [qD7] at h1
      have h2:=ihf (λ k hk=>hf k (List.mem_cons_of_mem _ hk)) (yS k l (J4 t n))
      simp only [List.map_cons,List.foldl_cons,List.sum_cons,Nat.add_mul] at h2 ⊢
      omega
  have:=this t.kids (λ _ h=>h) l
  rw [Nat.add_mul]
  omega
 ·have h1:=qpJ l t n
  have h2:=qpY l t n
  rw [Nat.add_mul]
  omega
theorem qol:∀ (b a:List Pw),Q5 a→NzP b→Q5 (Qk a b)
 | [],a,h,_=>h
 | p::b,a,h,k=>qol b (yg a p.1 p.2) (h.ins p.1 (qc1.1 k).1) (qc1.1 k).2
theorem qpz:∀ (b a:List Pw),jY (Qk a b)≤jY a+jY b∧(Qk a b).length≤a.length+b.length
 | [],a=>by simp [Qk,jY]
 | p::b,a=>by
   have h1:=qpz b (yg a p.1 p.2)
   have h2:=qpJ a p.1 p.2
   have h3:=qpY a p.1 p.2
   have e:jY (p::b)=p.2.natAbs+jY b:=by simp [jY]
   rw [show Qk a (p::b)=Qk (yg a p.1 p.2) b from rfl,e,List.length_cons]
   omega
def ixP:List Pw→T→Nat
 | [],_=>0
 | p::l,t=>if qp p.1 t=-1 then ixP l t+1 else 0
theorem qCH:∀ (l:List Pw) (t:T),ixP l t≤l.length
 | [],_=>Nat.le_refl _
 | p::l,t=>by
   have:=qCH l t
   rw [ixP]
   split
   ·simp;omega
   ·omega
theorem qDn:∀ (l:List Pw) (t:T) (i:Nat),i≤l.length→(∀ k p,k<i→l[k]? = some p→qp p.1 t=-1)→(∀ p,l[i]? = some p→qp p.1 t≠-1)→i=ixP l t
 | [],_,i,h,_,_=>by simp at h;rw [h];rfl
 | p::l,t,0,_,_,h=>by rw [ixP,if_neg (h p rfl)]
 | p::l,t,i+1,h,k,m=>by
   rw [ixP,if_pos (k 0 p (by omega) rfl)]
   rw [← qDn l t i (by simpa using h) (λ j q hj hq=>k (j+1) q (by omega) (by simpa using hq)) (λ q hq=>m q (by simpa using hq))]
theorem qAt:∀ (l:List Pw) (t:T) (n:Int) (x:T) (m:Int),l[ixP l t]? = some (x,m)→qp x t=0 →
  yg l t n=if m+n=0 then l.take (ixP l t)++l.drop (ixP l t+1) else l.take (ixP l t)++[(x,m+n)]++l.drop (ixP l t+1)
 | [],_,_,_,_,h,_=>by simp at h
 | (y,k)::l,t,n,x,m,h,h0=>by
   have an:=zH.anti y t
   have rg:=zH.rng y t
   rw [ixP] at h
   rw [yg,ixP]
   simp only at h ⊢
   by_cases c:qp y t=-1
   ·rw [if_pos c] at h
    rw [if_neg (by omega),if_neg (by omega),if_pos c,qAt l t n x m (by simpa using h) h0]
    split<;>simp
   ·rw [if_neg c] at h
    simp at h
    obtain ⟨rfl,rfl⟩:=h
    rw [if_neg (by omega),if_pos (by omega),if_neg c]
    split<;>simp
theorem qx1:∀ (l:List Pw) (t:T) (n:Int),(∀ p,l[ixP l t]? = some p→qp p.1 t≠0)→yg l t n=l.take (ixP l t)++[(t,n)]++l.drop (ixP l t)
 | [],_,_,_=>by simp [yg,ixP]
 | (y,k)::l,t,n,h=>by
   have an:=zH.anti y t
   have rg:=zH.rng y t
   rw [ixP] at h
   rw [yg,ixP]
   simp only at h ⊢
   by_cases c:qp y t=-1
   ·rw [if_pos c] at h
    rw [if_neg (by omega),if_neg (by omega),if_pos c,qx1 l t n λ p hp=>h p (by simpa using hp)]
    simp
   ·rw [if_neg c] at h
    have:=h (y,k) rfl
    simp only at this
    rw [if_pos (by omega),if_neg c]
    simp
theorem qAy {l:List Pw} (h:qeP l) {i j:Nat} {p q:Pw} (hi:l[i]? = some p) (hj:l[j]? = some q) (hij:i<j):qp p.1 q.1=-1:=by
 unfold qeP Asc at h
 rw [List.pairwise_iff_getElem] at h
 obtain ⟨hi1,hi2⟩:=List.getElem?_eq_some_iff.1 hi
 obtain ⟨hj1,hj2⟩:=List.getElem?_eq_some_iff.1 hj
 have:=h i j (by simpa using hi1) (by simpa using hj1) hij
 simpa [hi2,hj2] using this
end Go.GxYtbpnmbmdbblehaaGreat
namespace Go.AmYtbpnmbmdbblehaaGreat
open Go Go.GxYtbpnmbmdbblehaaGreat
theorem qAE (t:T):Ev (λ m _=>Jn m t) (qbL t):=by
 refine Ev.succ ?_
 simp only [qo2,qcP]
 unfold qbL
 by_cases h3:t.kind=3
 ·refine Ev.ct (qi.2 h3) (Ev.ite (λ h=>?_) λ h=>(Ev.ite (λ h2=>?_) λ h2=>?_))
  ·rw [yZ] at h
   exact Ev.ret (by rw [h3,h];rfl)
  ·rw [yZ] at h2
   exact Ev.ret (by rw [h3,h2];rfl)
  ·rw [jn] at h h2
   exact Ev.ret (by
    have a1:(t.name==qfO)=false:=by rw [beq_eq_false_iff_ne];exact h
    have a2:(t.name==Qx)=false:=by rw [beq_eq_false_iff_ne];exact h2
    rw [h3,a1,a2];rfl)
 ·exact Ev.cf (qg.2 h3) (Ev.ret (by have:(t.kind==3)=false:=by rw [beq_eq_false_iff_ne];exact h3
                                    rw [this];rfl))
theorem qjB (t:T):size t≤100000000→Ev (λ m _=>za m t) t:=by
 induction t using T.ind with
 | h t ih =>
   intro hs
   have hl:=yF t
   refine Ev.succ ?_
   simp only [qql,qa2]
   have hc:zC 0 t.kids=some ((),t.kids,()):=by
    unfold zC
    rw [show Nat.ble t.kids.length 100000000=true from Nat.ble_eq_true_of_le (by omega)];rfl
   refine Ev.some hc ?_
   have key:=qr (P := λ i=>Ev (λ m k=>jJ m (za m) k t.kids.length i t.kind t.name t.sort 0 [] 0 t.kids []) t) t.kids (by omega)
    (λ hc=>by
     refine Ev.loop ?_
     simp only [qhG,qa0]
     exact Ev.cf hc (Ev.ret (qe t)))
    (λ i x hx hd hc hg hi hP=>by
     refine Ev.loop ?_
     simp only [qhG,qa0,qe]
     have hm:=List.mem_of_getElem? hx
     have h1:=jf t x hm
     have e:jK t.kids (i:Int) x=t.kids:=by
      rw [qc5]
      obtain ⟨h2,h3⟩:=List.getElem?_eq_some_iff.1 hx
      rw [← h3,List.set_getElem_self]
     refine Ev.ct hc (Ev.some hg (Ev.bind (ih x hm (by omega)) (Ev.some hg ?_)))
     rw [e,hi]
     exact hP)
   refine Ev.diag (L := λ m k=>jJ m (za m) k t.kids.length 0 t.kind t.name t.sort 0 [] 0 t.kids []) ?_
   exact key 0 (Nat.zero_le _)
theorem qIn (lo hi:Nat) (h:lo+hi≤1000000000):iw .i64 (qmg .u64 (iw .u64 (iw .i64 (qj (lo:Int) (hi:Int)))) 1)=(((lo+hi) / 2:Nat):Int):=by
 rw [ql0,show iw .i64 ((lo+hi:Nat):Int)=((lo+hi:Nat):Int) from Qn (by omega),show iw .u64 ((lo+hi:Nat):Int)=((lo+hi:Nat):Int) from IntWalk.u64_in _ (by omega)]
 have:qmg .u64 ((lo+hi:Nat):Int) 1=(((lo+hi) / 2:Nat):Int):=by
  unfold qmg
  show Int.fdiv _ 2=_
  rw [Int.fdiv_eq_ediv_of_nonneg _ (by decide)];omega
 rw [this,Qn (by omega)]
def szP (l:List Pw):Nat:=(l.map λ p=>size p.1).sum
theorem J8 (p:Pw) (l:List Pw):szP (p::l)=size p.1+szP l:=by simp [szP]
theorem qbk:∀ l:List Pw,l.length≤szP l
 | []=>Nat.zero_le _
 | p::l=>by
   have:=qbk l
   have:=size_pos p.1
   rw [J8,List.length_cons];omega
theorem qdk:∀ {l:List Pw} {p:Pw},p∈l→size p.1≤szP l
 | q::l,p,h=>by
   rw [J8]
   rcases List.mem_cons.1 h with rfl | h
   ·omega
   ·have:=qdk h;omega
theorem qzQ:∀ (l:List Pw) (t:T) (n:Int),szP (yg l t n)≤szP l+size t
 | [],t,n=>by rw [yg,J8];show size t+0≤0+size t;omega
 | (x,m)::l,t,n=>by
   have:=qzQ l t n
   rw [yg]
   split
   ·rw [J8,J8];show size t+(size x+_)≤size x+_+size t;omega
   ·split
    ·split
     ·rw [J8];show _≤size x+_+_;omega
     ·rw [J8,J8];show size x+_≤size x+_+_;omega
    ·rw [J8,J8];show size x+_≤size x+_+_;omega
theorem qyd (p:Pw) (t:T) (h1:size p.1≤1000000000) (h2:size t≤1000000000):Ev (λ m _=>Qp m p t) (qp p.1 t):=by
 refine Ev.succ ?_
 simp only [qmS,qbG,qe]
 exact Ev.bind (qce _ h1 _ h2) (Ev.pure _)
def qpM (l:List Pw) (t:T):Bool:=match l[Go.GxYtbpnmbmdbblehaaGreat.ixP l t]? with
 | some p=>ieq (qp p.1 t) 0
 | none=>false
theorem qG3 {l:List Pw} (ha:qeP l) (t:T) (hs:szP l+size t≤100000000):∀ (d lo hi:Nat),hi≤lo+d→lo≤hi→hi≤l.length→(∀ k p,k<lo→l[k]? = some p→qp p.1 t=-1)→(∀ k p,hi≤k→l[k]? = some p→qp p.1 t≠-1) →
  Ev (λ m k=>qn m k l l.length lo hi t.kind t.name t.sort t.kids) ((Go.GxYtbpnmbmdbblehaaGreat.ixP l t:Int),qpM l t):=by
 have hl:=qbk l
 intro d
 induction d with
 | zero =>
   intro lo hi h1 h2 h3 h4 h5
   have:lo=hi:=by omega
   subst this
   have hix:=qDn l t lo h3 h4 (λ p hp=>h5 lo p (Nat.le_refl _) hp)
   subst hix
   refine Ev.loop ?_
   simp only [zY,qE,qe]
   rw [show T.mk t.kind t.name t.sort t.kids=t from qe t]
   refine Ev.cf (qu.2 (Int.le_refl _)) (Ev.ite (λ h=>?_) λ h=>?_)
   ·rw [qv] at h
    have hlt:Go.GxYtbpnmbmdbblehaaGreat.ixP l t<l.length:=by omega
    obtain ⟨p,hg⟩:∃ p,l[Go.GxYtbpnmbmdbblehaaGreat.ixP l t]? = some p:=⟨_,List.getElem?_eq_getElem hlt⟩
    have hm:=qdk (List.mem_of_getElem? hg)
    refine Ev.some (a:=p) (by rw [jG,hg]) (Ev.bind (qyd (p.1,p.2) _ (Nat.le_trans hm (by omega)) (by omega)) (Ev.ret ?_))
    unfold qpM
    rw [hg]
   ·rw [qu] at h
    refine Ev.ret ?_
    unfold qpM
    rw [List.getElem?_eq_none (by omega)]
 | succ d ih =>
   intro lo hi h1 h2 h3 h4 h5
   by_cases he:lo=hi
   ·exact ih lo hi (by omega) h2 h3 h4 h5
   refine Ev.loop ?_
   simp only [zY,qE,qe]
   rw [show T.mk t.kind t.name t.sort t.kids=t from qe t,qIn lo hi (by omega)]
   have hm1:(lo+hi) / 2<hi:=by omega
   have hm2:lo≤(lo+hi) / 2:=by omega
   generalize (lo+hi) / 2=mid at *
   have hlt:mid<l.length:=by omega
   obtain ⟨p,hg⟩:∃ p,l[mid]? = some p:=⟨_,List.getElem?_eq_getElem hlt⟩
   have hm:=qdk (List.mem_of_getElem? hg)
   refine Ev.ct (qv.2 (by omega)) (Ev.some (a:=p) (by rw [jG,hg]) (Ev.bind (qyd (p.1,p.2) _ (Nat.le_trans hm (by omega)) (by omega)) (Ev.ite (λ hc=>?_) λ hc=>?_)))
   ·rw [qv] at hc
    have hc:qp p.1 t<0:=hc
    have hc:qp p.1 t=-1:=by rcases zH.rng p.1 t with h | h | h<;>omega
    rw [show qj ((mid:Nat):Int) 1=((mid+1:Nat):Int) from by unfold qj;omega,Qn (by omega)]
    refine ih (mid+1) hi (by omega) (by omega) h3 (λ k q hk hp=>?_) h5
    by_cases hkm:k=mid
    ·subst hkm;rw [hg] at hp;cases hp;exact hc
    ·exact zH.trans _ _ _ (qAy ha hp hg (by omega)) hc
   ·rw [qu] at hc
    have hc:0≤qp p.1 t:=hc
    refine ih lo mid (by omega) hm2 (by omega) h4 (λ k q hk hp=>?_)
    by_cases hkm:k=mid
    ·subst hkm;rw [hg] at hp;cases hp;omega
    ·intro hcp
     have:=zH.trans _ _ _ (qAy ha hg hp (by omega)) hcp
     omega
theorem qIP {l:List Pw} (ha:qeP l) (t:T) (hs:szP l+size t≤100000000):Ev (λ m _=>qx m l t) ((Go.GxYtbpnmbmdbblehaaGreat.ixP l t:Int),qpM l t):=by
 refine Ev.succ ?_
 simp only [j8,qD]
 refine Ev.diag (L := λ m k=>qn m k l l.length 0 l.length t.kind t.name t.sort t.kids) ?_
 exact qG3 ha t hs l.length 0 l.length (by omega) (Nat.zero_le _) (Nat.le_refl _) (λ k p hk=>by omega) (λ k p hk hp=>by rw [List.getElem?_eq_none hk] at hp;cases hp)
theorem qsb {l:List Pw} (ha:qeP l) (t:T) (n:Int) (hs:szP l+size t≤90000000) (hlen:l.length≤90000) (hn:jY l+n.natAbs≤1000000000000):Ev (λ m _=>Ji m l (t,n)) ((),yg l t n,()):=by
 have hl:=qbk l
 have hix:=qCH l t
 refine Ev.succ ?_
 simp only [qpg,qc2,qe]
 refine Ev.bind (qIP ha t (by omega)) (Ev.ite (λ h=>?_) λ h=>?_)
 ·rw [bnt] at h
  refine Ev.bind (qjB t (by omega)) ?_
  have hI:zl 0 l (Go.GxYtbpnmbmdbblehaaGreat.ixP l t:Int) [(re t,n)]=some ((),yg l t n,()):=by
   unfold zl
   rw [show inb (Go.GxYtbpnmbmdbblehaaGreat.ixP l t:Int) l.length=true from by unfold inb;rw [decide_eq_true_iff];omega,show Nat.ble l.length 100000=true from Nat.ble_eq_true_of_le (by omega)]
   rw [qx1 l t n λ p hp hc=>by
    unfold qpM at h
    simp only [hp] at h
    rw [qg] at h
    exact h hc]
   rw [Int.toNat_natCast,qe,List.append_assoc];rfl
  rw [qe] at hI
  refine Ev.some hI (Ev.pure _)
 ·rw [bnf] at h
  cases hg:l[Go.GxYtbpnmbmdbblehaaGreat.ixP l t]? with
  | none=>unfold qpM at h;simp only [hg] at h;cases h
  | some p =>
    obtain ⟨x,k⟩:=p
    have hc:qp x t=0:=by
     unfold qpM at h
     simp only [hg] at h
     exact qi.1 h
    have hm:=qyX l _ (List.mem_of_getElem? hg)
    have hlt:Go.GxYtbpnmbmdbblehaaGreat.ixP l t<l.length:=(List.getElem?_eq_some_iff.1 hg).1
    simp only at hm
    have e1:iw .i64 (qj k n)=k+n:=by
     unfold qj
     exact Qn (by omega)
    have gset:qd (jK l (Go.GxYtbpnmbmdbblehaaGreat.ixP l t:Int) (x,k+n)) (Go.GxYtbpnmbmdbblehaaGreat.ixP l t:Int)=some (x,k+n):=by
     rw [qc5,jG,List.getElem?_set_self hlt]
    have hsplit:l.set (Go.GxYtbpnmbmdbblehaaGreat.ixP l t) (x,k+n)=l.take (Go.GxYtbpnmbmdbblehaaGreat.ixP l t)++[(x,k+n)]++l.drop (Go.GxYtbpnmbmdbblehaaGreat.ixP l t+1):=by
     rw [List.set_eq_take_append_cons_drop,if_pos hlt,List.append_assoc];rfl
    refine Ev.some (by rw [jG,hg]) (Ev.some (by rw [jG,hg]) ?_)
    simp only [qe,e1]
    refine Ev.some gset ?_
    rw [qAt l t n x k hg hc]
    refine Ev.ite (λ hz=>?_) λ hz=>?_
    ·rw [qi] at hz
     rw [if_pos hz]
     have hD:zk 0 (jK l (Go.GxYtbpnmbmdbblehaaGreat.ixP l t:Int) (x,k+n)) (Go.GxYtbpnmbmdbblehaaGreat.ixP l t:Int) (iw .i64 (qj (Go.GxYtbpnmbmdbblehaaGreat.ixP l t:Int) 1))=some ((),l.take (Go.GxYtbpnmbmdbblehaaGreat.ixP l t)++l.drop (Go.GxYtbpnmbmdbblehaaGreat.ixP l t+1),()):=by
      rw [show qj (Go.GxYtbpnmbmdbblehaaGreat.ixP l t:Int) 1=((Go.GxYtbpnmbmdbblehaaGreat.ixP l t+1:Nat):Int) from by unfold qj;omega,Qn (by omega),qc5]
      unfold zk
      rw [List.length_set,show inb ((Go.GxYtbpnmbmdbblehaaGreat.ixP l t+1:Nat):Int) l.length=true from by unfold inb;rw [decide_eq_true_iff];omega,show inb (Go.GxYtbpnmbmdbblehaaGreat.ixP l t:Int) l.length=true from by unfold inb;rw [decide_eq_true_iff];omega,
       show ieq ((Go.GxYtbpnmbmdbblehaaGreat.ixP l t+1:Nat):Int) (qj (Go.GxYtbpnmbmdbblehaaGreat.ixP l t:Int) 1)=true from qi.2 (by unfold qj;omega),show Nat.ble l.length 100000=true from Nat.ble_eq_true_of_le (by omega)]
      rw [Int.toNat_natCast,List.take_set_of_le (Nat.le_refl _),List.drop_set_of_lt (by omega)];rfl
     exact Ev.some hD (Ev.pure _)
    ·rw [qg] at hz
     rw [if_neg hz]
     refine Ev.ret ?_
     rw [qc5,hsplit]
end Go.AmYtbpnmbmdbblehaaGreat
namespace Go.GxYtbpnmbmdbblehaaGreat
open Go.RowKit
theorem qxo (q:Option T) (p:Pw):pvK q p=if qA p.1≠0 then qA p.1 else if qbL p.1 then 1 else if p.2=0∨p.2 < -1000∨1000<p.2 then 7 else match q with | some x=>if 0≤qp x p.1 then 5 else 0 | none=>0:=rfl
theorem qxF:∀ (l:List Pw) (q:Option T),pvL q l=0→qeP l∧(∀ p∈l,p.2≠0∧p.2.natAbs≤1000)∧(∀ x,q=some x→∀ p∈l,qp x p.1=-1)∧(∀ p∈l,qA p.1=0∧qbL p.1=false)
 | [],q,_=>⟨List.Pairwise.nil,(λ _ h=>by cases h),(λ _ _ _ h=>by cases h),(λ _ h=>by cases h)⟩
 | p::l,q,h=>by
   rw [pvL] at h
   unfold thn at h
   split at h
   rotate_left
   ·rename_i h1;exact absurd h h1
   ·rename_i h1
    have hk:=qxo q p
    obtain ⟨i1,i2,i3,i4⟩:=qxF l (some p.1) h
    rw [hk] at h1
    split at h1
    ·rename_i h2;exact absurd h1 h2
    rename_i h2
    split at h1
    ·cases h1
    rename_i h3
    split at h1
    ·cases h1
    rename_i h4
    have hq:∀ x,q=some x→qp x p.1=-1 := λ x hx=>by
     subst hx
     simp only at h1
     split at h1
     ·cases h1
     ·rename_i h5
      rcases zH.rng x p.1 with h | h | h<;>omega
    refine ⟨qeU.2 ⟨λ r hr=>i3 _ rfl r hr,i1⟩,λ r hr=>?_,λ x hx r hr=>?_,λ r hr=>?_⟩
    ·rcases List.mem_cons.1 hr with rfl | hr
     ·omega
     ·exact i2 r hr
    ·rcases List.mem_cons.1 hr with rfl | hr
     ·exact hq x hx
     ·exact qdQ (hq x hx) (by have:=i3 _ rfl r hr;omega)
    ·rcases List.mem_cons.1 hr with rfl | hr
     ·exact ⟨by omega,by simpa using h3⟩
     ·exact i4 r hr
theorem qax {l:List Pw} (h:QA l=0):Q5 l∧l.length≤200∧(∀ p∈l,p.2.natAbs≤1000)∧(∀ p∈l,qA p.1=0∧qbL p.1=false):=by
 unfold QA at h
 split at h
 ·cases h
 ·obtain ⟨i1,i2,-,i4⟩:=qxF l none h
  exact ⟨⟨i1,λ p hp=>(i2 p hp).1⟩,by omega,λ p hp=>(i2 p hp).2,i4⟩
theorem qkZ (k:Nat):∀ (l:List Pw),(∀ p∈l,p.2.natAbs≤k)→jY l≤l.length*k
 | [],_=>by simp [jY]
 | p::l,h=>by
   have h1:=qkZ k l λ q hq=>h q (List.mem_cons_of_mem _ hq)
   have h2:=h p (List.mem_cons_self ..)
   have e:jY (p::l)=p.2.natAbs+jY l:=rfl
   rw [e,List.length_cons,Nat.add_mul];omega
theorem qp8:∀ (b a:List Pw) (p:Pw),p∈Qk a b→(∃ q∈a,q.1=p.1)∨∃ q∈b,q.1=p.1
 | [],a,p,h => .inl ⟨p,h,rfl⟩
 | r::b,a,p,h=>by
   rcases qp8 b (yg a r.1 r.2) p h with ⟨q,hq,e⟩ | ⟨q,hq,e⟩
   ·rcases ql1 a r.1 r.2 q hq with h1 | h1
    ·exact .inr ⟨r,List.mem_cons_self ..,by rw [← h1];exact e⟩
    ·exact .inl ⟨q,h1,e⟩
   ·exact .inr ⟨q,List.mem_cons_of_mem _ hq,e⟩
theorem qvh (a b:List Pw) (p:Pw):Qk a (b++[p])=yg (Qk a b) p.1 p.2:=by unfold Qk;rw [List.foldl_append];rfl
theorem qBV {a b:List Pw} (ha:QA a=0) (hb:QA b=0) (S:Nat) (hsa:∀ p∈a,size p.1≤S) (hsb:∀ p∈b,size p.1≤S) (j:Nat) :
  qeP (Qk a (b.take j))∧(Qk a (b.take j)).length≤400∧(∀ p∈Qk a (b.take j),p.2.natAbs≤1000000)∧(∀ p∈Qk a (b.take j),size p.1≤S):=by
 obtain ⟨g1,l1,k1,-⟩:=qax ha
 obtain ⟨g2,l2,k2,-⟩:=qax hb
 have hm:∀ p∈b.take j,p∈b := λ p hp=>List.mem_of_mem_take hp
 have hg:=qol (b.take j) a g1 λ p hp=>g2.2 p (hm p hp)
 obtain ⟨h1,h2⟩:=qpz (b.take j) a
 have h3:=qkZ 1000 a k1
 have h4:=qkZ 1000 (b.take j) λ p hp=>k2 p (hm p hp)
 have h5:(b.take j).length≤200:=by rw [List.length_take];omega
 refine ⟨hg.1,by omega,λ p hp=>?_,λ p hp=>?_⟩
 ·have:=qyX _ p hp
  omega
 ·rcases qp8 _ _ p hp with ⟨q,hq,e⟩ | ⟨q,hq,e⟩
  ·rw [← e];exact hsa q hq
  ·rw [← e];exact hsb q (hm q hq)
end Go.GxYtbpnmbmdbblehaaGreat
namespace Go.AmYtbpnmbmdbblehaaGreat
open Go Go.GxYtbpnmbmdbblehaaGreat
theorem jT {t:T} (h:qA t=0):size t≤400:=by
 unfold qA at h
 split at h
 ·rename_i h1;exact absurd h h1
 ·split at h
  ·cases h
  ·omega
theorem qou {t:T}:qbL t=true↔t.kind=3∧(t.name=qfO∨t.name=Qx∨t.name=qhm):=by
 unfold qbL
 simp only [Bool.and_eq_true,Bool.or_eq_true,beq_iff_eq]
 constructor
 ·rintro ⟨h,(h1 | h1) | h1⟩
  ·exact ⟨h,.inl h1⟩
  ·exact ⟨h,.inr (.inl h1)⟩
  ·exact ⟨h,.inr (.inr h1)⟩
 ·rintro ⟨h,h1 | h1 | h1⟩
  ·exact ⟨h,.inl (.inl h1)⟩
  ·exact ⟨h,.inl (.inr h1)⟩
  ·exact ⟨h,.inr h1⟩
theorem qAh (t:T):∀ (l:List Pw) (n:Int),szP (yS t l n)≤szP l+size t:=by
 refine T.ind (P := λ t=>∀ (l:List Pw) (n:Int),szP (yS t l n)≤szP l+size t) ?_ t
 intro t ih l n
 rw [qeS]
 have hz:=qC t
 split
 ·have:∀ (fs:List T),(∀ k∈fs,k∈t.kids)→∀ l,szP ((fs.map yS).foldl (λ l f=>f l (J4 t n)) l)≤szP l+(fs.map size).sum:=by
    intro fs
    induction fs with
    | nil=>intro _ l;simp
    | cons k fs ihf =>
      intro hf l
      have h1:=ih k (hf k (List.mem_cons_self ..)) l (J4 t n)
      have h2:=ihf (λ k hk=>hf k (List.mem_cons_of_mem _ hk)) (yS k l (J4 t n))
      simp only [List.map_cons,List.foldl_cons,List.sum_cons] at h2 ⊢
      omega
  have:=this t.kids (λ _ h=>h) l
  omega
 ·exact qzQ l t n
def qd6 (ks:List T) (sg:Int) (l:List Pw) (i:Nat):List Pw:=((ks.take i).map yS).foldl (λ l f=>f l sg) l
theorem qu4 {ks:List T} {i:Nat} {x:T} (h:ks[i]? = some x) (sg:Int) (l:List Pw):qd6 ks sg l (i+1)=yS x (qd6 ks sg l i) sg:=by
 unfold qd6
 rw [List.take_add_one,h,List.map_append,List.foldl_append];rfl
theorem qli (sg:Int) (hsg:sg≠0):∀ (ks:List T) (l:List Pw),Q5 l→Q5 ((ks.map yS).foldl (λ l f=>f l sg) l)∧szP ((ks.map yS).foldl (λ l f=>f l sg) l)≤szP l+szL ks ∧
  jY ((ks.map yS).foldl (λ l f=>f l sg) l)≤jY l+szL ks*sg.natAbs∧((ks.map yS).foldl (λ l f=>f l sg) l).length≤l.length+szL ks
 | [],l,h=>⟨h,by simp,by simp,by simp⟩
 | k::ks,l,h=>by
   obtain ⟨i1,i2,i3,i4⟩:=qli sg hsg ks (yS k l sg) (qCw k l sg hsg h)
   have h1:=qAh k l sg
   obtain ⟨h2,h3⟩:=qFb k l sg
   rw [List.map_cons,List.foldl_cons,qJ,Nat.add_mul]
   exact ⟨i1,by omega,by omega,by omega⟩
def qi8 (t:T) (l:List Pw) (n:Int):Unit × List Pw × Bool × Unit:=((),if arT t then yS t l n else [],arT t,())
theorem qBX (t:T):∀ (l:List Pw) (n:Int),n≠0→Q5 l→szP l+size t≤80000→jY l+size t*n.natAbs≤100000000000→Ev (λ m _=>qY m l t n) (qi8 t l n):=by
 induction t using T.ind with
 | h t ih =>
   intro l n hn hg hs hb
   have hl:=yF t
   have hz:=qC t
   have hll:=qbk l
   refine Ev.succ ?_
   simp only [qnD,qab,qe]
   refine Ev.bind (qAE t) (Ev.ite (λ h=>?_) λ h=>?_)
   ·rw [bnt] at h
    have hmul:n.natAbs≤size t*n.natAbs:=Nat.le_mul_of_pos_left _ (size_pos t)
    refine Ev.bind (qsb hg.1 t n (by omega) (by omega) (by omega)) (Ev.ret ?_)
    unfold qi8
    rw [qrU,qeS,h];rfl
   rw [bnf] at h
   obtain ⟨h3,hname⟩:=qou.1 h
   have har:arT t=(arK t&&(t.kids.map arT).all id):=by rw [qrU,h];rfl
   have loop:∀ sg:Int,sg≠0→sg.natAbs=n.natAbs→J4 t n=sg→arK t=true→Ev (λ m _=>yQ m (qY m) m sg t.kids t.kids.length 0 l) (qi8 t l n):=by
    intro sg hsg hab hsn hk
    have hcol:yS t l n=qd6 t.kids sg l t.kids.length:=by rw [qeS,h,if_pos rfl,hsn];unfold qd6;rw [List.take_length]
    have key:=qr (P := λ i=>(∀ k∈t.kids.take i,arT k=true)→Ev (λ m k=>yQ m (qY m) k sg t.kids t.kids.length i (qd6 t.kids sg l i)) (qi8 t l n)) t.kids (by omega)
     (λ hc ha=>by
      refine Ev.loop ?_
      simp only [qf7,qac]
      refine Ev.cf hc (Ev.ret ?_)
      unfold qi8
      have:arT t=true:=by
       rw [har,hk,Bool.true_and,List.all_eq_true]
       intro b hb
       obtain ⟨k,hk1,rfl⟩:=List.mem_map.1 hb
       rw [List.take_length] at ha
       exact ha k hk1
      rw [this,if_pos rfl,hcol])
     (λ i x hx hd hc hgt hi hP ha=>by
      refine Ev.loop ?_
      simp only [qf7,qac,qe]
      have hm:=List.mem_of_getElem? hx
      have h1:=jf t x hm
      obtain ⟨f1,f2,f3,f4⟩:=qli sg hsg (t.kids.take i) l hg
      have h5:=jA hx
      have h6:szL t.kids+1=size t:=by unfold szL;omega
      have h7:szL (t.kids.take i)*sg.natAbs+size x*sg.natAbs≤size t*n.natAbs:=by
       rw [← Nat.add_mul,hab]
       exact Nat.mul_le_mul_right _ (by omega)
      refine Ev.ct hc (Ev.some hgt (Ev.bind (ih x hm (qd6 t.kids sg l i) sg hsg f1 (by unfold qd6;omega) (by unfold qd6;omega)) (Ev.ite (λ hb1=>?_) λ hb1=>?_)))
      ·rw [bnt] at hb1
       have hb1:arT x=false:=hb1
       refine Ev.ret ?_
       unfold qi8
       have:arT t=false:=by
        rw [har,hk,Bool.true_and,← Bool.not_eq_true,List.all_eq_true]
        intro hall
        have:=hall (arT x) (List.mem_map_of_mem hm)
        rw [hb1] at this;cases this
       rw [this];rfl
      ·rw [bnf] at hb1
       have hb1:arT x=true:=hb1
       have hP:=hP λ k hk'=>by
        rw [List.take_add_one,hx] at hk'
        rcases List.mem_append.1 hk' with hk' | hk'
        ·exact ha k hk'
        ·rw [show k=x from by simpa using hk'];exact hb1
       rw [hi]
       refine hP.congr λ m k=>?_
       unfold qi8
       rw [qu4 hx,hb1];rfl)
    refine Ev.diag (L := λ m k=>yQ m (qY m) k sg t.kids t.kids.length 0 l) ?_
    exact (key 0 (Nat.zero_le _)) (λ k hk=>by rw [List.take_zero] at hk;cases hk)
   have bad:arK t=false→Ev (λ _ _=>some ((),[],false,())) (qi8 t l n) := λ hk=>by
    refine Ev.ret ?_
    unfold qi8
    rw [har,hk];rfl
   have hneg:iw .i64 (jM 0 n)=-n:=by
    have hmul:n.natAbs≤size t*n.natAbs:=Nat.le_mul_of_pos_left _ (size_pos t)
    unfold jM
    rw [Qn (by omega)];omega
   rcases hname with hn1 | hn1 | hn1
   ·refine Ev.cf (by rw [hn1];rfl) (Ev.cf (by rw [hn1];rfl) (Ev.ct (by rw [hn1];rfl) (Ev.ite (λ hk=>?_) λ hk=>?_)))
    ·rw [qv] at hk
     exact bad (by unfold arK;rw [hn1,decide_eq_true (show t.kids.length<2 by omega)];rfl)
    ·rw [qu] at hk
     exact Ev.cf (by rw [hn1];rfl) (loop n hn rfl (by unfold J4;rw [hn1];rfl) (by unfold arK;rw [hn1,decide_eq_false (show ¬ t.kids.length<2 by omega)];rfl))
   ·refine Ev.cf (by rw [hn1];rfl) (Ev.ct (by rw [hn1];rfl) (Ev.ite (λ hk=>?_) λ hk=>?_))
    ·rw [bnt,qg] at hk
     exact bad (by unfold arK;rw [hn1,show (t.kids.length != 1)=true from by rw [bne_iff_ne];omega];rfl)
    ·rw [bnf,qi] at hk
     rw [hneg]
     exact Ev.cf (by rw [hn1];rfl) (Ev.ct (by rw [hn1];rfl) (loop (-n) (by omega) (by omega) (by unfold J4;rw [if_pos hn1]) (by unfold arK;rw [hn1,show (t.kids.length != 1)=false from by rw [bne_eq_false_iff_eq];omega];rfl)))
   ·refine Ev.ct (by rw [hn1];rfl) (Ev.ite (λ hk=>?_) λ hk=>?_)
    ·rw [bnt,qg] at hk
     exact bad (by unfold arK;rw [hn1,show (t.kids.length != 0)=true from by rw [bne_iff_ne];omega];rfl)
    ·rw [bnf,qi] at hk
     exact Ev.cf (by rw [hn1];rfl) (Ev.cf (by rw [hn1];rfl) (Ev.cf (by rw [hn1];rfl) (loop n hn rfl (by unfold J4;rw [hn1];rfl) (by unfold arK;rw [hn1,show (t.kids.length != 0)=false from by rw [bne_eq_false_iff_eq];omega];rfl))))
theorem qyt (t:T) (hs:size t≤1000000000):Ev (λ m _=>JP m t) (ofP t):=by
 refine Ev.succ ?_
 simp only [qvM,qgq,qe]
 unfold ofP
 refine Ev.bind (qaD t hs) (Ev.ite (λ h=>?_) λ h=>?_)
 ·rw [bnt,qg] at h
  rw [if_pos h];exact Ev.pure _
 ·rw [bnf,qi] at h
  have hz:=jT h
  rw [if_neg (by omega)]
  refine Ev.bind (qBX t [] 1 (by decide) Q5.nil (by show 0+_≤_;omega) (by show 0+size t*1≤_;omega)) (Ev.ite (λ h1=>?_) λ h1=>?_)
  ·rw [bnt] at h1
   have h1:arT t=false:=h1
   rw [if_pos h1];exact Ev.pure _
  ·rw [bnf] at h1
   have h1:arT t=true:=h1
   rw [if_neg (by rw [h1];decide)]
   have e:(qi8 t [] 1).2.1=yS t [] 1:=by unfold qi8;rw [h1];rfl
   rw [e]
   refine Ev.ite (λ h2=>?_) λ h2=>?_
   ·rw [qv] at h2
    rw [if_pos (by omega)];exact Ev.pure _
   ·rw [qu] at h2
    rw [if_neg (by omega)];exact Ev.pure _
def qcG (l:List Pw) (i:Nat):Option T:=if i=0 then none else (l[i-1]?).map (·.1)
theorem qhZ {l:List Pw} {i:Nat} {p:Pw} (h:l[i]? = some p):qcG l (i+1)=some p.1:=by
 unfold qcG
 rw [if_neg (by omega),Nat.add_sub_cancel,h];rfl
theorem qnH (l:List Pw) (hs:szP l≤1000000000):Ev (λ m _=>QM m l) (QA l):=by
 have hl:=qbk l
 refine Ev.succ ?_
 simp only [qqx,qbe]
 unfold QA
 refine Ev.ite (λ h=>?_) λ h=>?_
 ·rw [qv] at h
  rw [if_pos (by omega)];exact Ev.pure _
 rw [qu] at h
 rw [if_neg (by omega)]
 have key:=qr (P := λ i=>Ev (λ m k=>jm m k l l l.length i) (pvL (qcG l i) (l.drop i))) l (by omega)
  (λ hc=>by
   refine Ev.loop ?_
   simp only [qhI,qa1]
   refine Ev.cf hc (Ev.ret ?_)
   rw [List.drop_length];rfl)
  (λ i x hx hd hc hg hi hP=>by
   refine Ev.loop ?_
   simp only [qhI,qa1,qe]
   have h1:=qdk (List.mem_of_getElem? hx)
   rw [qhZ hx] at hP
   rw [hd,pvL]
   have hk:=qxo (qcG l i) x
   have bad:∀ e:Int,pvK (qcG l i) x=e→e≠0→Ev (λ _ _=>some e) (thn (pvK (qcG l i) x) (pvL (some x.1) (l.drop (i+1)))) := λ e he h0=>by
    rw [he]
    exact Ev.ret (by unfold thn;rw [if_neg h0])
   have good:pvK (qcG l i) x=0→Ev (λ m k=>jm m k l l l.length ((i+1:Nat):Int)) (thn (pvK (qcG l i) x) (pvL (some x.1) (l.drop (i+1)))) := λ he=>by
    rw [he]
    exact hP.res (by unfold thn;rw [if_pos rfl])
   refine Ev.ct hc (Ev.some hg (Ev.bind (qaD x.1 (by omega)) (Ev.ite (λ hv=>?_) λ hv=>?_)))
   ·rw [bnt,qg] at hv
    exact bad _ (by rw [hk,if_pos hv]) hv
   rw [bnf,qi] at hv
   rw [if_neg (by omega)] at hk
   refine Ev.bind (qAE x.1) (Ev.ite (λ hv2=>?_) λ hv2=>?_)
   ·exact bad 1 (by rw [hk,if_pos hv2]) (by decide)
   rw [if_neg (by rw [hv2];decide)] at hk
   refine Ev.ite (λ hz=>?_) λ hz=>?_
   ·rw [qi] at hz
    exact bad 7 (by rw [hk,if_pos (by omega)]) (by decide)
   rw [qg] at hz
   refine Ev.ite (λ hz2=>?_) λ hz2=>?_
   ·rw [qv] at hz2
    exact bad 7 (by rw [hk,if_pos (by omega)]) (by decide)
   rw [qu] at hz2
   refine Ev.ite (λ hz3=>?_) λ hz3=>?_
   ·rw [qv] at hz3
    exact bad 7 (by rw [hk,if_pos (by omega)]) (by decide)
   rw [qu] at hz3
   rw [if_neg (by omega)] at hk
   rw [hi]
   refine Ev.ite (λ h0=>?_) λ h0=>?_
   ·rw [qv] at h0
    obtain ⟨j,rfl⟩:∃ j,i=j+1:=⟨i-1,by omega⟩
    have hlt:j<l.length:=by have:=(List.getElem?_eq_some_iff.1 hx).1;omega
    obtain ⟨q,hq⟩:∃ q,l[j]? = some q:=⟨_,List.getElem?_eq_getElem hlt⟩
    have h2:=qdk (List.mem_of_getElem? hq)
    rw [qhZ hq] at hk bad good ⊢
    simp only at hk
    refine Ev.some (a:=q) (by rw [show jM ((j+1:Nat):Int) 1=((j:Nat):Int) from by unfold jM;omega,Qn (by omega),jG,hq]) (Ev.bind (qce q.1 (by omega) x.1 (by omega)) (Ev.ite (λ hc2=>?_) λ hc2=>?_))
    ·rw [qgP] at hc2
     exact bad 5 (by rw [hk,if_pos hc2]) (by decide)
    ·rw [qik] at hc2
     exact good (by rw [hk,if_neg (by omega)])
   ·rw [qu] at h0
    have:i=0:=by omega
    subst this
    exact good (by rw [hk];rfl))
 refine Ev.diag (L := λ m k=>jm m k l l l.length 0) ?_
 exact key 0 (Nat.zero_le _)
end Go.AmYtbpnmbmdbblehaaGreat
namespace Go.AmYtbpnmbmdbblehaaGreat
open Go Go.GxYtbpnmbmdbblehaaGreat
theorem zQ {α : Type} {l:List α} {i:Nat} {x : α} (h:l[i]? = some x):l.take (i+1)=l.take i++[x]:=by rw [List.take_add_one,h];rfl
theorem qpS (a b:List Pw):zK (a++b)=zK a++zK b:=by unfold zK;rw [List.flatMap_append]
theorem qqa (a b:List Pw):zP (a++b)=zP a++zP b:=by unfold zP;rw [List.flatMap_append]
theorem qpv (p:Pw):zK [p]=List.replicate p.2.toNat p.1:=by unfold zK;simp
theorem qqg (p:Pw):zP [p]=List.replicate (-p.2).toNat (apT Qx [p.1]):=by unfold zP;simp
theorem qzM (n:Nat) (x:T):szL (List.replicate n x)=n*size x:=by
 induction n with
 | zero=>simp [szL]
 | succ n ih=>rw [List.replicate_succ,qJ,ih,Nat.add_mul];omega
theorem qwY (t:T):size (apT Qx [t])=1+size t:=by rw [qC];show 1+(size t+0)=_;omega
theorem qly {P:Nat→Prop} (N:Int) (hN:N≤1000000) (hend:P N.toNat) (hstep:∀ j:Nat,(j:Int)<N→iw .i64 (qj (j:Int) 1)=((j+1:Nat):Int)→P (j+1)→P j):∀ j:Nat,j≤N.toNat→P j:=by
 intro j hj
 obtain ⟨d,hd⟩:∃ d,N.toNat=j+d:=⟨N.toNat-j,by omega⟩
 induction d generalizing j with
 | zero =>
   have:j=N.toNat:=by omega
   subst this;exact hend
 | succ d ih =>
   refine hstep j (by omega) ?_ (ih (j+1) (by omega) (by omega))
   unfold qj
   rw [Qn (by omega)];omega
theorem qHv {l:List Pw} {p:Pw} (hp:p∈l) (h:8<p.2):8<(zK l++zP l).length:=by
 have:(List.replicate p.2.toNat p.1).length≤(zK l).length:=Nat.le_trans (List.sublist_flatten_of_mem (List.mem_map_of_mem (f := λ p:Pw=>List.replicate p.2.toNat p.1) hp)).length_le (by unfold zK;rw [List.flatMap_def];exact Nat.le_refl _)
 rw [List.length_replicate] at this
 rw [List.length_append];omega
theorem qHl {l:List Pw} {p:Pw} (hp:p∈l) (h:p.2 < -8):8<(zK l++zP l).length:=by
 have:(List.replicate (-p.2).toNat (apT Qx [p.1])).length≤(zP l).length:=Nat.le_trans (List.sublist_flatten_of_mem (List.mem_map_of_mem (f := λ p:Pw=>List.replicate (-p.2).toNat (apT Qx [p.1])) hp)).length_le (by unfold zP;rw [List.flatMap_def];exact Nat.le_refl _)
 rw [List.length_replicate] at this
 rw [List.length_append];omega
theorem qAI (o:List T):size (Q8 o)≤1+szL o:=by
 unfold Q8
 split
 ·rw [qC];show 1+0≤_;omega
 ·split
  ·rename_i _ h1l
   have:o.getD 0 zT∈o:=by
    cases o with
    | nil=>cases h1l
    | cons x r=>exact List.mem_cons_self ..
   have:=qbf this;omega
  ·rw [qC];exact Nat.le_refl _
theorem qm3 {l:List Pw} (hsz:∀ p∈l,size p.1≤400):∀ (ks:List Pw),(∀ p∈ks,p∈l∧-8≤p.2∧p.2≤8)→(zK ks).length≤8*ks.length∧(zP ks).length≤8*ks.length∧szL (zK ks)≤3200*ks.length∧szL (zP ks)≤3208*ks.length
 | [],_=>⟨Nat.le_refl _,Nat.le_refl _,Nat.le_refl _,Nat.le_refl _⟩
 | p::ks,h=>by
   obtain ⟨i1,i2,i3,i4⟩:=qm3 hsz ks λ q hq=>h q (List.mem_cons_of_mem _ hq)
   obtain ⟨h1,h2,h3⟩:=h p (List.mem_cons_self ..)
   have h4:=hsz p h1
   have e1:zK (p::ks)=List.replicate p.2.toNat p.1++zK ks:=by rw [show p::ks=[p]++ks from rfl,qpS,qpv]
   have e2:zP (p::ks)=List.replicate (-p.2).toNat (apT Qx [p.1])++zP ks:=by rw [show p::ks=[p]++ks from rfl,qqa,qqg]
   have m1:p.2.toNat*size p.1≤8*400:=Nat.mul_le_mul (by omega) h4
   have m2:(-p.2).toNat*(1+size p.1)≤8*401:=Nat.mul_le_mul (by omega) (by omega)
   rw [e1,e2,qgy,qgy,qzM,qzM,qwY]
   simp only [List.length_append,List.length_replicate,List.length_cons]
   refine ⟨by omega,by omega,by omega,by omega⟩
def qko (o:List T):T × Int:=if 8<o.length then (zT,3) else if qA (Q8 o)≠0 then (zT,qA (Q8 o)) else (Q8 o,0)
theorem qn3 {l:List Pw} (h:QA l=0):qad l=qko (zK l++zP l):=by
 unfold qad qko
 rw [if_neg (by omega)]
theorem qx6 (l:List Pw) (hs:szP l≤1000000000):Ev (λ m _=>jB m l) (qad l):=by
 refine Ev.succ ?_
 simp only [qr0,qbB]
 refine Ev.bind (qnH l hs) (Ev.ite (λ h=>?_) λ h=>?_)
 ·rw [bnt,qg] at h
  unfold qad
  rw [if_pos h];exact Ev.pure _
 rw [bnf,qi] at h
 obtain ⟨_,hlen,hN,hV⟩:=qax h
 have hsz:∀ p∈l,size p.1≤400 := λ p hp=>jT (hV p hp).1
 rw [qn3 h]
 have key:=qr (P := λ i=>(∀ p∈l.take i,p∈l∧-8≤p.2∧p.2≤8)→Ev (λ m k=>(qt m k).1 l l.length i 0 [] 0 [] (zK (l.take i)) (zP (l.take i))) (qko (zK l++zP l))) l (by omega)
  (λ hc hb=>by
   refine Ev.loop ?_
   simp only [qiK,qbJ,qe]
   rw [List.take_length] at hb ⊢
   obtain ⟨b1,b2,b3,b4⟩:=qm3 hsz l hb
   refine Ev.cf hc (Ev.bind (qr5 (zK l) (zP l) (by omega)) ?_)
   have ho:szL (zK l++zP l)≤10000000:=by rw [qgy];omega
   generalize zK l++zP l=o at *
   have hol:=ja o
   have hoz:=qAI o
   unfold qko
   refine Ev.ite (λ h8=>?_) λ h8=>?_
   ·rw [qv] at h8
    rw [if_pos (by omega)];exact Ev.pure _
   rw [qu] at h8
   rw [if_neg (by omega)]
   have fin:∀ u:T,u=Q8 o→Ev (λ m _=>qa (zu m u) λ v=>cond (qc (ieq v 0)) (some (T.mk 0 [] 0 [],v)) (some (u,0))) (if qA (Q8 o)≠0 then (zT,qA (Q8 o)) else (Q8 o,0)):=by
    intro u hu
    subst hu
    refine Ev.bind (qaD _ (by omega)) (Ev.ite (λ h=>?_) λ h=>?_)
    ·rw [bnt,qg] at h
     rw [if_pos h];exact Ev.pure _
    ·rw [bnf,qi] at h
     rw [if_neg (by omega)];exact Ev.pure _
   have app:∀ (n:List UInt8) (x:List T),Ev (λ m _=>qbi m n x) (apT n x) := λ n x=>Ev.succ (Ev.pure _)
   refine Ev.bind (app [109,117,108] o) (Ev.ite (λ h0=>?_) λ h0=>?_)
   ·rw [qi] at h0
    exact Ev.bind (app [111,110,101] []) (fin _ (by unfold Q8;rw [if_pos (by omega)];rfl))
   ·rw [qg] at h0
    refine Ev.ite (λ h1=>?_) λ h1=>?_
    ·rw [qi] at h1
     refine Ev.some (a:=o.getD 0 zT) ?_ (fin _ (by unfold Q8;rw [if_neg (by omega),if_pos (by omega)]))
     rw [Jb,List.getD_eq_getElem?_getD]
     cases o with
     | nil=>simp at h1
     | cons x r=>rfl
    ·rw [qg] at h1
     exact fin _ (by unfold Q8;rw [if_neg (by omega),if_neg (by omega)];rfl))
  (λ i p hx hd hc hg hi hP hb=>by
   refine Ev.loop ?_
   simp only [qiK,qbJ]
   have hm:=List.mem_of_getElem? hx
   have hn:=hN p hm
   have hz:=hsz p hm
   have hib:=(List.getElem?_eq_some_iff.1 hx).1
   refine Ev.ct hc (Ev.some hg (Ev.ite (λ h8=>?_) λ h8=>?_))
   ·rw [qv] at h8
    unfold qko
    rw [if_pos (qHv hm h8)];exact Ev.pure _
   rw [qu] at h8
   refine Ev.ite (λ h9=>?_) λ h9=>?_
   ·rw [qv] at h9
    unfold qko
    rw [if_pos (qHl hm h9)];exact Ev.pure _
   rw [qu] at h9
   obtain ⟨b1,b2,b3,b4⟩:=qm3 hsz _ hb
   have htl:(l.take i).length≤200:=by rw [List.length_take];omega
   have hP:=hP λ q hq=>by
    rw [zQ hx] at hq
    rcases List.mem_append.1 hq with hq | hq
    ·exact hb q hq
    ·rw [show q=p from by simpa using hq];exact ⟨hm,h9,h8⟩
   rw [zQ hx,qpS,qqa,qpv,qqg] at hP
   generalize zK (l.take i)=P0 at *
   generalize zP (l.take i)=N0 at *
   have k3:=qly (P := λ j=>Ev (λ m k=>(qt m k).2.2 l l.length i (-p.2) j 0 [] 0 p.1.kind p.1.name p.1.sort p.1.kids p.2 [] (P0++List.replicate p.2.toNat p.1) (N0++List.replicate j (apT Qx [p.1]))) (qko (zK l++zP l))) (-p.2) (by omega)
    (by
     refine Ev.loop ?_
     simp only [qi3,qbR]
     refine Ev.cf (qu.2 (by omega)) ?_
     rw [hi]
     exact hP)
    (λ j hj hji hPj=>by
     refine Ev.loop ?_
     simp only [qi3,qbR,qe]
     rw [show T.mk p.1.kind p.1.name p.1.sort p.1.kids=p.1 from qe p.1,hji]
     refine Ev.ct (qv.2 hj) (Ev.bind (qjB p.1 (by omega)) (Ev.bind (a:=apT Qx [p.1]) (Ev.succ (Ev.pure _)) (Ev.ct (zh (by rw [List.length_append,List.length_replicate];omega) (by omega)) ?_)))
     refine hPj.congr λ m k=>?_
     rw [List.replicate_succ',List.append_assoc])
   have k2:=qly (P := λ j=>Ev (λ m k=>(qt m k).2.1 l l.length i p.2 j 0 [] 0 p.1.kind p.1.name p.1.sort p.1.kids p.2 [] (P0++List.replicate j p.1) N0) (qko (zK l++zP l))) p.2 (by omega)
    (by
     refine Ev.loop ?_
     simp only [qiI,qbE]
     refine Ev.cf (qu.2 (by omega)) ?_
     rw [show iw .i64 (jM 0 p.2)=-p.2 from by unfold jM;rw [Qn (by omega)];omega]
     have:=k3 0 (Nat.zero_le _)
     rw [List.replicate_zero,List.append_nil] at this
     exact this)
    (λ j hj hji hPj=>by
     refine Ev.loop ?_
     simp only [qiI,qbE,qe]
     rw [show T.mk p.1.kind p.1.name p.1.sort p.1.kids=p.1 from qe p.1,hji]
     refine Ev.ct (qv.2 hj) (Ev.bind (qjB p.1 (by omega)) (Ev.ct (zh (by rw [List.length_append,List.length_replicate];omega) (by omega)) ?_))
     refine hPj.congr λ m k=>?_
     rw [List.replicate_succ',List.append_assoc])
   have:=k2 0 (Nat.zero_le _)
   rw [List.replicate_zero,List.append_nil] at this
   exact this)
 refine Ev.diag (L := λ m k=>(qt m k).1 l l.length 0 0 [] 0 [] [] []) ?_
 exact (key 0 (Nat.zero_le _)) (λ p hp=>by rw [List.take_zero] at hp;cases hp)
theorem qG8 (l:List Pw) (hs:szP l≤100000000):Ev (λ m _=>qar m l) ((),l,()):=by
 have hl:=qbk l
 refine Ev.succ ?_
 simp only [qpe,qaH]
 have key:=qr (P := λ i=>Ev (λ m k=>ju m k l l.length i (l.take i)) ((),l,())) l (by omega)
  (λ hc=>by
   refine Ev.loop ?_
   simp only [qgT,qaB]
   refine Ev.cf hc ?_
   rw [List.take_length];exact Ev.pure _)
  (λ i p hx hd hc hg hi hP=>by
   refine Ev.loop ?_
   simp only [qgT,qaB,qe]
   have h1:=qdk (List.mem_of_getElem? hx)
   have h2:(l.take i).length≤l.length:=by rw [List.length_take];omega
   refine Ev.ct hc (Ev.some hg (Ev.bind (qjB p.1 (by omega)) (Ev.ct (zh (by omega) (by omega)) ?_)))
   rw [hi]
   refine hP.congr λ m k=>?_
   rw [zQ hx])
 refine Ev.diag (L := λ m k=>ju m k l l.length 0 []) ?_
 exact key 0 (Nat.zero_le _)
theorem quP (p:Pw) (l:List Pw):qkp (p::l)=((decide (p.2 < -1000)||decide (1000<p.2))||qkp l):=rfl
theorem qGI (l:List Pw) (hl:l.length≤1000000000):∃ v,Ev (λ m _=>qW m l) v∧ile 0 v=qkp l:=by
 have key:=qr (P := λ i=>∃ v,Ev (λ m k=>qw m k l l.length i) v∧ile 0 v=qkp (l.drop i)) l (by omega)
  (λ hc=>by
   refine ⟨-1,Ev.loop ?_,by rw [List.drop_length];rfl⟩
   simp only [zZ,qP]
   exact Ev.cf hc (Ev.pure _))
  (λ i p hx hd hc hg hi hP=>by
   obtain ⟨v,hv,hf⟩:=hP
   rw [hd,quP]
   have hq:Ev (λ m _=>Jx m (p.1,p.2)) (decide (p.2 < -1000)||decide (1000<p.2)):=by
    refine Ev.succ ?_
    simp only [qmU,qb0]
    refine Ev.ite (λ h=>?_) λ h=>?_
    ·rw [qv] at h
     exact Ev.ret (by rw [decide_eq_true h];rfl)
    ·rw [qu] at h
     exact Ev.ret (by rw [decide_eq_false (show ¬ p.2 < -1000 by omega)];rfl)
   cases hb:decide (p.2 < -1000)||decide (1000<p.2) with
   | true =>
     refine ⟨i,Ev.loop ?_,by rw [Bool.true_or,qgP];omega⟩
     simp only [zZ,qP,qe]
     exact Ev.ct hc (Ev.some hg (Ev.bind hq (Ev.ct hb (Ev.pure _))))
   | false =>
     refine ⟨v,Ev.loop ?_,by rw [Bool.false_or];exact hf⟩
     simp only [zZ,qP,qe]
     refine Ev.ct hc (Ev.some hg (Ev.bind hq (Ev.cf hb ?_)))
     rw [hi];exact hv)
 obtain ⟨v,hv,hf⟩:=key 0 (Nat.zero_le _)
 refine ⟨v,Ev.succ ?_,by rw [hf,List.drop_zero]⟩
 simp only [qas,zm]
 exact Ev.diag (L := λ m k=>qw m k l l.length 0) hv
def ql3 (l:List Pw):List Pw × Int:=if qkp l then ([],7) else if 200<l.length then ([],3) else (l,0)
theorem qHt (l:List Pw) (hl:l.length≤1000000000):Ev (λ m _=>qaG m l) (ql3 l):=by
 obtain ⟨v,hv,hf⟩:=qGI l hl
 refine Ev.succ ?_
 simp only [qpf,qcS]
 have hc:Ev (λ m _=>qO m l) (qkp l):=by
  refine Ev.succ ?_
  simp only [J3,zL]
  exact Ev.bind hv (Ev.ret hf)
 unfold ql3
 refine Ev.bind hc (Ev.ite (λ h=>?_) λ h=>?_)
 ·rw [if_pos h];exact Ev.pure _
 ·rw [if_neg (by rw [h];decide)]
  refine Ev.ite (λ h2=>?_) λ h2=>?_
  ·rw [qv] at h2
   rw [if_pos (by omega)];exact Ev.pure _
  ·rw [qu] at h2
   rw [if_neg (by omega)];exact Ev.pure _
theorem qCv (S:Nat):∀ l:List Pw,(∀ p∈l,size p.1≤S)→szP l≤l.length*S
 | [],_=>by simp [szP]
 | p::l,h=>by
   have h1:=qCv S l λ q hq=>h q (List.mem_cons_of_mem _ hq)
   have h2:=h p (List.mem_cons_self ..)
   rw [J8,List.length_cons,Nat.add_mul];omega
theorem qrH (a b:List Pw):qiG a b=if QA a≠0 then ([],QA a) else if QA b≠0 then ([],QA b) else ql3 (Qk a b):=rfl
theorem qfv {a b:List Pw} (ha:QA a=0) (hb:QA b=0) (j:Nat) :
  Q5 (Qk a (b.take j))∧(Qk a (b.take j)).length≤400∧szP (Qk a (b.take j))≤160000∧jY (Qk a (b.take j))≤400000:=by
 obtain ⟨g1,l1,k1,v1⟩:=qax ha
 obtain ⟨g2,l2,k2,v2⟩:=qax hb
 have hm:∀ p∈b.take j,p∈b := λ p hp=>List.mem_of_mem_take hp
 obtain ⟨h1,h2,h3,h4⟩:=qBV ha hb 400 (λ p hp=>jT (v1 p hp).1) (λ p hp=>jT (v2 p hp).1) j
 have h5:=qCv 400 _ h4
 obtain ⟨h6,_⟩:=qpz (b.take j) a
 have h7:=qkZ 1000 a k1
 have h8:=qkZ 1000 (b.take j) λ p hp=>k2 p (hm p hp)
 have h9:(b.take j).length≤200:=by rw [List.length_take];omega
 refine ⟨qol _ _ g1 λ p hp=>g2.2 p (hm p hp),h2,Nat.le_trans h5 (Nat.mul_le_mul_right 400 h2),?_⟩
 have m1:a.length*1000≤200*1000:=Nat.mul_le_mul_right _ l1
 have m2:(b.take j).length*1000≤200*1000:=Nat.mul_le_mul_right _ h9
 omega
theorem qGK (a b:List Pw) (ha:szP a≤100000000) (hb:szP b≤100000000):Ev (λ m _=>qcT m a b) (qiG a b):=by
 have hl:=qbk b
 refine Ev.succ ?_
 simp only [qs3,qcu]
 rw [qrH]
 refine Ev.bind (qnH a (by omega)) (Ev.ite (λ h=>?_) λ h=>?_)
 ·rw [bnt,qg] at h
  rw [if_pos h];exact Ev.pure _
 rw [bnf,qi] at h
 rw [if_neg (by omega)]
 refine Ev.bind (qnH b (by omega)) (Ev.ite (λ h2=>?_) λ h2=>?_)
 ·rw [bnt,qg] at h2
  rw [if_pos h2];exact Ev.pure _
 rw [bnf,qi] at h2
 rw [if_neg (by omega)]
 refine Ev.bind (qG8 a ha) ?_
 have key:=qr (P := λ i=>Ev (λ m k=>QP m k b b.length i (Qk a (b.take i))) (ql3 (Qk a b))) b (by omega)
  (λ hc=>by
   refine Ev.loop ?_
   simp only [qjO,qcH]
   rw [List.take_length]
   obtain ⟨_,b2,_,_⟩:=qfv h h2 b.length
   rw [List.take_length] at b2
   exact Ev.cf hc (Ev.bind (qHt _ (by omega)) (Ev.pure _)))
  (λ i p hx hd hc hg hi hP=>by
   refine Ev.loop ?_
   simp only [qjO,qcH,qe]
   have hm:=List.mem_of_getElem? hx
   obtain ⟨b1,b2,b3,b4⟩:=qfv h h2 i
   obtain ⟨_,_,hn,hv⟩:=qax h2
   have hz:=jT (hv p hm).1
   have hnp:=hn p hm
   refine Ev.ct hc (Ev.some hg (Ev.bind (qsb b1.1 p.1 p.2 (by omega) (by omega) (by omega)) ?_))
   rw [hi]
   refine hP.congr λ m k=>?_
   rw [zQ hx,qvh])
 refine Ev.diag (L := λ m k=>QP m k b b.length 0 a) ?_
 exact key 0 (Nat.zero_le _)
end Go.AmYtbpnmbmdbblehaaGreat
namespace Go.AmYtbpnmbmdbblehaaGreat
open Go Go.GxYtbpnmbmdbblehaaGreat
theorem qxG (t:T):Ev (λ m _=>Jp m t) (qbL t):=by
 refine Ev.succ ?_
 simp only [qr3,qeI]
 unfold qbL
 by_cases h3:t.kind=3
 ·refine Ev.ct (qi.2 h3) (Ev.ite (λ h=>?_) λ h=>(Ev.ite (λ h2=>?_) λ h2=>?_))
  ·rw [yZ] at h
   exact Ev.ret (by rw [h3,h];rfl)
  ·rw [yZ] at h2
   exact Ev.ret (by rw [h3,h2];rfl)
  ·rw [jn] at h h2
   exact Ev.ret (by
    have a1:(t.name==qfO)=false:=by rw [beq_eq_false_iff_ne];exact h
    have a2:(t.name==Qx)=false:=by rw [beq_eq_false_iff_ne];exact h2
    rw [h3,a1,a2];rfl)
 ·exact Ev.cf (qg.2 h3) (Ev.ret (by have:(t.kind==3)=false:=by rw [beq_eq_false_iff_ne];exact h3
                                    rw [this];rfl))
theorem qCs (t:T):size t≤1000000000→Ev (λ m _=>yn m t) (arT t):=by
 induction t using T.ind with
 | h t ih =>
   intro hs
   have hl:=yF t
   refine Ev.succ ?_
   simp only [qvx,qdM,qe]
   refine Ev.bind (qxG t) (Ev.ite (λ h=>?_) λ h=>?_)
   ·rw [bnt] at h
    exact Ev.ret (by rw [qrU,h];rfl)
   rw [bnf] at h
   obtain ⟨h3,hname⟩:=qou.1 h
   have har:arT t=(arK t&&(t.kids.map arT).all id):=by rw [qrU,h];rfl
   have loop:arK t=true→Ev (λ m _=>Qq m (yn m) m t.kids.length 0 t.kind t.name t.sort t.kids) (arT t):=by
    intro hk
    rw [har,hk,Bool.true_and]
    have key:=qr (P := λ i=>Ev (λ m k=>Qq m (yn m) k t.kids.length i t.kind t.name t.sort t.kids) (((t.kids.drop i).map arT).all id)) t.kids (by omega)
     (λ hc=>by
      refine Ev.loop ?_
      simp only [qkE,qdK]
      refine Ev.cf hc (Ev.ret ?_)
      rw [List.drop_length];rfl)
     (λ i x hx hd hc hg hi hP=>by
      refine Ev.loop ?_
      simp only [qkE,qdK,qe]
      have hm:=List.mem_of_getElem? hx
      have h1:=jf t x hm
      rw [hd,List.map_cons,List.all_cons]
      refine Ev.ct hc (Ev.some hg (Ev.bind (ih x hm (by omega)) (Ev.ite (λ hb=>?_) λ hb=>?_)))
      ·rw [bnt] at hb
       rw [hb];exact Ev.pure _
      ·rw [bnf] at hb
       rw [hb,hi]
       exact hP)
    refine Ev.diag (L := λ m k=>Qq m (yn m) k t.kids.length 0 t.kind t.name t.sort t.kids) ?_
    exact (key 0 (Nat.zero_le _)).res (by rw [List.drop_zero])
   have bad:arK t=false→Ev (λ _ _=>some false) (arT t) := λ hk=>Ev.ret (by rw [har,hk];rfl)
   rcases hname with hn1 | hn1 | hn1
   ·refine Ev.ct (by rw [hn1];rfl) (Ev.ite (λ hk=>?_) λ hk=>?_)
    ·rw [qv] at hk
     exact bad (by unfold arK;rw [hn1,decide_eq_true (show t.kids.length<2 by omega)];rfl)
    ·rw [qu] at hk
     exact Ev.cf (by rw [hn1];rfl) (Ev.cf (by rw [hn1];rfl) (loop (by unfold arK;rw [hn1,decide_eq_false (show ¬ t.kids.length<2 by omega)];rfl)))
   ·refine Ev.cf (by rw [hn1];rfl) (Ev.ct (by rw [hn1];rfl) (Ev.ite (λ hk=>?_) λ hk=>?_))
    ·rw [bnt,qg] at hk
     exact bad (by unfold arK;rw [hn1,show (t.kids.length != 1)=true from by rw [bne_iff_ne];omega];rfl)
    ·rw [bnf,qi] at hk
     exact Ev.cf (by rw [hn1];rfl) (loop (by unfold arK;rw [hn1,show (t.kids.length != 1)=false from by rw [bne_eq_false_iff_eq];omega];rfl))
   ·refine Ev.cf (by rw [hn1];rfl) (Ev.cf (by rw [hn1];rfl) (Ev.ct (by rw [hn1];rfl) (Ev.ite (λ hk=>?_) λ hk=>?_)))
    ·rw [bnt,qg] at hk
     exact bad (by unfold arK;rw [hn1,show (t.kids.length != 0)=true from by rw [bne_iff_ne];omega];rfl)
    ·rw [bnf,qi] at hk
     exact loop (by unfold arK;rw [hn1,show (t.kids.length != 0)=false from by rw [bne_eq_false_iff_eq];omega];rfl)
theorem quk (t:T) (n:Int):∀ (l:List Pw) (s:List Pw × Bool),(l.foldl (yB t n) s).1.length≤s.1.length+2*l.length
 | [],s=>by simp
 | x::l,s=>by
   have h:=quk t n l (yB t n s x)
   have:(yB t n s x).1.length≤s.1.length+2:=by
    unfold yB
    simp only [List.length_append]
    have a:(if s.2=false∧qp t x.1<0 then s.1++[(t,n)] else s.1).length≤s.1.length+1:=by split<;>simp
    have b:(if (if qp t x.1=0 then x.2+n else x.2)=0 then ([]:List Pw) else [(x.1,if qp t x.1=0 then x.2+n else x.2)]).length≤1:=by generalize (if qp t x.1=0 then x.2+n else x.2)=z;split<;>simp
    omega
   rw [List.foldl_cons,List.length_cons];omega
theorem qAp {l:List Pw} (hg:Q5 l) (t:T) (n:Int) (hs:szP l+size t≤1000000000) (hn:jY l+n.natAbs≤1000000000000):Ev (λ m _=>qe1 m l t n) ((),yg l t n,()):=by
 have hl:=qbk l
 refine Ev.succ ?_
 simp only [qzE,qfH]
 have hlen:∀ i,((l.take i).foldl (yB t n) ([],false)).1.length≤2*l.length := λ i=>by
  have:=quk t n (l.take i) ([],false)
  have h2:(l.take i).length≤l.length:=by rw [List.length_take];omega
  simp only [List.length_nil] at this;omega
 have key:=qr (P := λ i=>Ev (λ m k=>Q3 m k n ((l.take i).foldl (yB t n) ([],false)).2 i t.kind t.name t.sort t.kids l ((l.take i).foldl (yB t n) ([],false)).1) ((),yg l t n,())) l (by omega)
  (λ hc=>by
   refine Ev.loop ?_
   simp only [qnY,qfB]
   refine Ev.cf hc ?_
   have:=hlen l.length
   have he:=qEh hg.2 hg.1 t n
   rw [List.take_length] at this ⊢
   unfold qB0 at he
   refine Ev.ite (λ h=>?_) λ h=>?_
   ·rw [bnt] at h
    rw [if_neg (by rw [h];decide)] at he
    rw [show T.mk t.kind t.name t.sort t.kids=t from qe t,he]
    exact Ev.ct (zh (by omega) (by omega)) (Ev.pure _)
   ·rw [bnf] at h
    rw [if_pos h] at he
    rw [he]
    exact Ev.pure _)
  (λ i p hx hd hc hgt hi hP=>by
   refine Ev.loop ?_
   simp only [qnY,qfB,qe]
   have hm:=List.mem_of_getElem? hx
   have h1:=qdk hm
   have h2:=hlen i
   have h3:=qyX l p hm
   have hnz:=hg.2 p hm
   rw [zQ hx,List.foldl_append] at hP
   generalize (l.take i).foldl (yB t n) ([],false)=s at *
   have go:∀ (b:Bool) (o:List Pw),yB t n s p=(o,b)→Ev (λ m k=>Q3 m k n b ((i+1:Nat):Int) t.kind t.name t.sort t.kids l o) ((),yg l t n,()) := λ b o e=>by
    have hP:Ev (λ m k=>Q3 m k n (yB t n s p).2 ((i+1:Nat):Int) t.kind t.name t.sort t.kids l (yB t n s p).1) ((),yg l t n,()):=hP
    rw [e] at hP;exact hP
   have e1:iw .i64 (qj p.2 n)=p.2+n:=by unfold qj;exact Qn (by omega)
   rw [show T.mk t.kind t.name t.sort t.kids=t from qe t,hi]
   have hz0:qc (ieq p.2 0)=true:=bnt.2 (qg.2 hnz)
   refine Ev.ct hc (Ev.some hgt (Ev.bind (qgO t (by omega) p.1 (by omega)) (Ev.ite (λ h=>?_) λ h=>?_)))
   ·rw [bnt] at h
    refine Ev.ite (λ hc1=>?_) λ hc1=>?_
    ·rw [qv] at hc1
     refine Ev.ct (zh (by omega) (by omega)) (Ev.some hgt (Ev.cf (qg.2 (by omega)) (Ev.ct hz0 (Ev.ct (zh (by rw [List.length_append];simp only [List.length_cons,List.length_nil];omega) (by omega)) (go _ _ ?_)))))
     unfold yB
     rw [if_pos ⟨h,hc1⟩,if_neg (show ¬ qp t p.1=0 by omega),if_neg hnz,decide_eq_true (show qp t p.1≤0 by omega),Bool.or_true]
    ·rw [qu] at hc1
     refine Ev.some hgt (Ev.ite (λ hc2=>?_) λ hc2=>?_)
     ·rw [qi] at hc2
      refine Ev.ite (λ hz=>?_) λ hz=>?_
      ·rw [bnt,qg,e1] at hz
       refine Ev.ct (zh (by omega) (by omega)) (go _ _ ?_)
       rw [e1]
       unfold yB
       rw [if_neg (by omega),if_pos hc2,if_neg hz,decide_eq_true (show qp t p.1≤0 by omega),Bool.or_true]
      ·rw [bnf,qi,e1] at hz
       refine go _ _ ?_
       unfold yB
       rw [if_neg (by omega),if_pos hc2,if_pos hz,decide_eq_true (show qp t p.1≤0 by omega),Bool.or_true,List.append_nil]
     ·rw [qg] at hc2
      refine Ev.ct hz0 (Ev.ct (zh (by omega) (by omega)) (go _ _ ?_))
      unfold yB
      rw [if_neg (by omega),if_neg hc2,if_neg hnz,decide_eq_false (show ¬ qp t p.1≤0 by omega),Bool.or_false]
   ·rw [bnf] at h
    refine Ev.some hgt (Ev.ite (λ hc2=>?_) λ hc2=>?_)
    ·rw [qi] at hc2
     refine Ev.ite (λ hz=>?_) λ hz=>?_
     ·rw [bnt,qg,e1] at hz
      refine Ev.ct (zh (by omega) (by omega)) (go _ _ ?_)
      rw [e1]
      unfold yB
      rw [if_neg (by omega),if_pos hc2,if_neg hz,decide_eq_true (show qp t p.1≤0 by omega),Bool.or_true]
     ·rw [bnf,qi,e1] at hz
      refine go _ _ ?_
      unfold yB
      rw [if_neg (by omega),if_pos hc2,if_pos hz,decide_eq_true (show qp t p.1≤0 by omega),Bool.or_true,List.append_nil]
    ·rw [qg] at hc2
     refine Ev.ct hz0 (Ev.ct (zh (by omega) (by omega)) (go _ _ ?_))
     unfold yB
     rw [if_neg (by rw [h];intro hh;cases hh.1),if_neg hc2,if_neg hnz,h,Bool.true_or])
 refine Ev.diag (L := λ m k=>Q3 m k n false 0 t.kind t.name t.sort t.kids l []) ?_
 exact key 0 (Nat.zero_le _)
theorem qy5 (t:T):∀ (l:List Pw) (n:Int),n≠0→Q5 l→szP l+size t≤80000000→jY l+size t*n.natAbs≤100000000000→Ev (λ m _=>zG m l t n) ((),yS t l n,()):=by
 induction t using T.ind with
 | h t ih =>
   intro l n hn hg hs hb
   have hl:=yF t
   have hz:=qC t
   refine Ev.succ ?_
   simp only [qrq,qbW,qe]
   have hmul:n.natAbs≤size t*n.natAbs:=Nat.le_mul_of_pos_left _ (size_pos t)
   refine Ev.bind (qxG t) (Ev.ite (λ h=>?_) λ h=>?_)
   ·rw [bnt] at h
    refine Ev.bind (qAp hg t n (by omega) (by omega)) (Ev.ret ?_)
    rw [qeS,h];rfl
   rw [bnf] at h
   obtain ⟨h3,hname⟩:=qou.1 h
   have loop:∀ sg:Int,sg≠0→sg.natAbs=n.natAbs→J4 t n=sg→Ev (λ m _=>jv m (zG m) m sg 0 t.kind t.name t.sort t.kids l) ((),yS t l n,()):=by
    intro sg hsg hab hsn
    have hcol:yS t l n=qd6 t.kids sg l t.kids.length:=by rw [qeS,h,if_pos rfl,hsn];unfold qd6;rw [List.take_length]
    rw [hcol]
    have key:=qr (P := λ i=>Ev (λ m k=>jv m (zG m) k sg i t.kind t.name t.sort t.kids (qd6 t.kids sg l i)) ((),qd6 t.kids sg l t.kids.length,())) t.kids (by omega)
     (λ hc=>by
      refine Ev.loop ?_
      simp only [qi4,qbM]
      exact Ev.cf hc (Ev.pure _))
     (λ i x hx hd hc hgt hi hP=>by
      refine Ev.loop ?_
      simp only [qi4,qbM,qe]
      have hm:=List.mem_of_getElem? hx
      have h1:=jf t x hm
      obtain ⟨f1,f2,f3,f4⟩:=qli sg hsg (t.kids.take i) l hg
      have h5:=jA hx
      have h6:szL t.kids+1=size t:=by unfold szL;omega
      have h7:szL (t.kids.take i)*sg.natAbs+size x*sg.natAbs≤size t*n.natAbs:=by
       rw [← Nat.add_mul,hab]
       exact Nat.mul_le_mul_right _ (by omega)
      refine Ev.ct hc (Ev.some hgt (Ev.bind (ih x hm (qd6 t.kids sg l i) sg hsg f1 (by unfold qd6;omega) (by unfold qd6;omega)) ?_))
      rw [hi]
      refine hP.congr λ m k=>?_
      rw [qu4 hx])
    refine Ev.diag (L := λ m k=>jv m (zG m) k sg 0 t.kind t.name t.sort t.kids l) ?_
    exact key 0 (Nat.zero_le _)
   have hneg:iw .i64 (jM 0 n)=-n:=by
    unfold jM
    rw [Qn (by omega)];omega
   refine Ev.ite (λ hk=>?_) λ hk=>?_
   ·rw [yZ] at hk
    rw [hneg]
    exact loop (-n) (by omega) (by omega) (by unfold J4;rw [if_pos (show t.name=Qx from hk)])
   ·rw [jn] at hk
    exact loop n hn rfl (by unfold J4;rw [if_neg (show ¬ t.name=Qx from hk)])
theorem qyz (t:T) (hs:size t≤1000000000):Ev (λ m _=>qeO m t) (ofP t):=by
 refine Ev.succ ?_
 simp only [qA7,qkb,qe]
 unfold ofP
 refine Ev.bind (qaC t hs) (Ev.ite (λ h=>?_) λ h=>?_)
 ·rw [bnt,qg] at h
  rw [if_pos h];exact Ev.pure _
 ·rw [bnf,qi] at h
  have hz:=jT h
  rw [if_neg (by omega)]
  refine Ev.bind (qCs t hs) (Ev.ite (λ h1=>?_) λ h1=>?_)
  ·rw [bnt] at h1
   rw [if_pos h1];exact Ev.pure _
  ·rw [bnf] at h1
   rw [if_neg (by rw [h1];decide)]
   refine Ev.bind (qy5 t [] 1 (by decide) Q5.nil (by show 0+_≤_;omega) (by show 0+size t*1≤_;omega)) (Ev.ite (λ h2=>?_) λ h2=>?_)
   ·rw [qv] at h2
    have h2:(200:Int)<((yS t [] 1).length:Int):=h2
    rw [if_pos (by omega)];exact Ev.pure _
   ·rw [qu] at h2
    have h2:((yS t [] 1).length:Int)≤200:=h2
    rw [if_neg (by omega)];exact Ev.pure _
theorem qqu (l:List Pw) (hs:szP l≤1000000000):Ev (λ m _=>qaX m l) (QA l):=by
 have hl:=qbk l
 refine Ev.succ ?_
 simp only [qv8,qdG]
 unfold QA
 refine Ev.ite (λ h=>?_) λ h=>?_
 ·rw [qv] at h
  rw [if_pos (by omega)];exact Ev.pure _
 rw [qu] at h
 rw [if_neg (by omega)]
 have key:=qr (P := λ i=>Ev (λ m k=>Qt m k l i) (pvL (qcG l i) (l.drop i))) l (by omega)
  (λ hc=>by
   refine Ev.loop ?_
   simp only [qkB,qdO]
   refine Ev.cf hc (Ev.ret ?_)
   rw [List.drop_length];rfl)
  (λ i x hx hd hc hg hi hP=>by
   refine Ev.loop ?_
   simp only [qkB,qdO,qe]
   have h1:=qdk (List.mem_of_getElem? hx)
   rw [qhZ hx] at hP
   rw [hd,pvL]
   have hk:=qxo (qcG l i) x
   have bad:∀ e:Int,pvK (qcG l i) x=e→e≠0→Ev (λ _ _=>some e) (thn (pvK (qcG l i) x) (pvL (some x.1) (l.drop (i+1)))) := λ e he h0=>by
    rw [he]
    exact Ev.ret (by unfold thn;rw [if_neg h0])
   have good:pvK (qcG l i) x=0→Ev (λ m k=>Qt m k l ((i+1:Nat):Int)) (thn (pvK (qcG l i) x) (pvL (some x.1) (l.drop (i+1)))) := λ he=>by
    rw [he]
    exact hP.res (by unfold thn;rw [if_pos rfl])
   refine Ev.ct hc (Ev.some hg (Ev.bind (qaC x.1 (by omega)) (Ev.ite (λ hv=>?_) λ hv=>?_)))
   ·rw [bnt,qg] at hv
    exact bad _ (by rw [hk,if_pos hv]) hv
   rw [bnf,qi] at hv
   rw [if_neg (by omega)] at hk
   refine Ev.some hg (Ev.bind (qxG x.1) (Ev.ite (λ hv2=>?_) λ hv2=>?_))
   ·exact bad 1 (by rw [hk,if_pos hv2]) (by decide)
   rw [if_neg (by rw [hv2];decide)] at hk
   refine Ev.some hg (Ev.ite (λ hz=>?_) λ hz=>?_)
   ·rw [qi] at hz
    exact bad 7 (by rw [hk,if_pos (by omega)]) (by decide)
   rw [qg] at hz
   refine Ev.some hg (Ev.ite (λ hz2=>?_) λ hz2=>?_)
   ·rw [qv] at hz2
    exact bad 7 (by rw [hk,if_pos (by omega)]) (by decide)
   rw [qu] at hz2
   refine Ev.some hg (Ev.ite (λ hz3=>?_) λ hz3=>?_)
   ·rw [qv] at hz3
    exact bad 7 (by rw [hk,if_pos (by omega)]) (by decide)
   rw [qu] at hz3
   rw [if_neg (by omega)] at hk
   rw [hi]
   refine Ev.ite (λ h0=>?_) λ h0=>?_
   ·rw [qv] at h0
    obtain ⟨j,rfl⟩:∃ j,i=j+1:=⟨i-1,by omega⟩
    have hlt:j<l.length:=by have:=(List.getElem?_eq_some_iff.1 hx).1;omega
    obtain ⟨q,hq⟩:∃ q,l[j]? = some q:=⟨_,List.getElem?_eq_getElem hlt⟩
    have h2:=qdk (List.mem_of_getElem? hq)
    rw [qhZ hq] at hk bad good ⊢
    simp only at hk
    refine Ev.some (a:=q) (by rw [show jM ((j+1:Nat):Int) 1=((j:Nat):Int) from by unfold jM;omega,Qn (by omega),jG,hq]) (Ev.some hg (Ev.bind (qgO q.1 (by omega) x.1 (by omega)) (Ev.ite (λ hc2=>?_) λ hc2=>?_)))
    ·rw [qgP] at hc2
     exact bad 5 (by rw [hk,if_pos hc2]) (by decide)
    ·rw [qik] at hc2
     exact good (by rw [hk,if_neg (by omega)])
   ·rw [qu] at h0
    have:i=0:=by omega
    subst this
    exact good (by rw [hk];rfl))
 refine Ev.diag (L := λ m k=>Qt m k l 0) ?_
 exact key 0 (Nat.zero_le _)
end Go.AmYtbpnmbmdbblehaaGreat
namespace Go.AmYtbpnmbmdbblehaaGreat
open Go Go.GxYtbpnmbmdbblehaaGreat
theorem qrM (A:List T) (x:T) (h:(A.take 9).length<9):A.take 9++[x]=(A++[x]).take 9:=by
 rw [List.length_take] at h
 rw [List.take_of_length_le (by omega),List.take_of_length_le (by rw [List.length_append];simp only [List.length_cons,List.length_nil];omega)]
theorem qrv (A B:List T) (h:¬ (A.take 9).length<9):A.take 9=(A++B).take 9:=by
 rw [List.length_take] at h
 rw [List.take_append_of_le_length (by omega)]
theorem qE4 (l:List Pw) (hl:l.length≤1000) (hn:∀ p∈l,p.2.natAbs≤1000):Ev (λ m _=>qbt m l) ((zK l++zP l).take 9):=by
 refine Ev.succ ?_
 simp only [qqC,qa5]
 have l9:∀ A:List T,(A.take 9).length≤9 := λ A=>by rw [List.length_take];omega
 have k3:=qr (P := λ i=>Ev (λ m k=>(qk m k).2.2.1 l i ((zK l++zP (l.take i)).take 9)) ((zK l++zP l).take 9)) l (by omega)
  (λ hc=>by
   refine Ev.loop ?_
   simp only [qhQ,qba]
   refine Ev.cf hc ?_
   rw [List.take_length];exact Ev.pure _)
  (λ i p hx hd hc hg hi hP=>by
   refine Ev.loop ?_
   simp only [qhQ,qba]
   refine Ev.ct hc ?_
   have hnp:=hn p (List.mem_of_getElem? hx)
   rw [zQ hx,qqa,qqg,← List.append_assoc] at hP
   generalize zK l++zP (l.take i)=A at *
   have hneg:iw .i64 (jM 0 p.2)=-p.2:=by unfold jM;rw [Qn (by omega)];omega
   have k4:=qly (P := λ j=>Ev (λ m k=>(qk m k).2.2.2 l i j ((A++List.replicate j (apT Qx [p.1])).take 9)) ((zK l++zP l).take 9)) (-p.2) (by omega)
    (by
     refine Ev.loop ?_
     simp only [qhM,qa8,qe]
     refine Ev.some hg (Ev.cf (by rw [hneg,qu];omega) ?_)
     rw [hi]
     exact hP)
    (λ j hj hji hPj=>by
     refine Ev.loop ?_
     simp only [qhM,qa8,qe]
     rw [List.replicate_succ',← List.append_assoc] at hPj
     have h9:=l9 (A++List.replicate j (apT Qx [p.1]))
     refine Ev.some hg (Ev.ct (by rw [hneg,qv];exact hj) (Ev.ite (λ h=>?_) λ h=>?_))
     ·rw [qv] at h
      refine Ev.some hg (Ev.bind (qbl [105,110,118] [p.1] (by simp)) (Ev.ct (zh (by omega) (by omega)) ?_))
      rw [hji]
      refine hPj.congr λ m k=>?_
      rw [← qrM _ _ (by omega)];rfl
     ·rw [qu] at h
      rw [hi]
      refine hP.congr λ m k=>?_
      obtain ⟨d,hd2⟩:∃ d,(-p.2).toNat=j+d:=⟨(-p.2).toNat-j,by omega⟩
      rw [hd2,← List.replicate_append_replicate,← List.append_assoc,← qrv (A++List.replicate j (apT Qx [p.1])) _ (by omega)])
   have:=k4 0 (Nat.zero_le _)
   rw [List.replicate_zero,List.append_nil] at this
   exact this)
 have k1:=qr (P := λ i=>Ev (λ m k=>(qk m k).1 l i ((zK (l.take i)).take 9)) ((zK l++zP l).take 9)) l (by omega)
  (λ hc=>by
   refine Ev.loop ?_
   simp only [qhJ,qa4]
   refine Ev.cf hc ?_
   rw [List.take_length]
   have:=k3 0 (Nat.zero_le _)
   rw [List.take_zero,show zP []=[] from rfl,List.append_nil] at this
   exact this)
  (λ i p hx hd hc hg hi hP=>by
   refine Ev.loop ?_
   simp only [qhJ,qa4]
   refine Ev.ct hc ?_
   have hnp:=hn p (List.mem_of_getElem? hx)
   rw [zQ hx,qpS,qpv] at hP
   generalize zK (l.take i)=A at *
   have k2:=qly (P := λ j=>Ev (λ m k=>(qk m k).2.1 l i j ((A++List.replicate j p.1).take 9)) ((zK l++zP l).take 9)) p.2 (by omega)
    (by
     refine Ev.loop ?_
     simp only [qhD,qa7,qe]
     refine Ev.some hg (Ev.cf (by rw [qu];omega) ?_)
     rw [hi]
     exact hP)
    (λ j hj hji hPj=>by
     refine Ev.loop ?_
     simp only [qhD,qa7,qe]
     rw [List.replicate_succ',← List.append_assoc] at hPj
     have h9:=l9 (A++List.replicate j p.1)
     refine Ev.some hg (Ev.ct (by rw [qv];exact hj) (Ev.ite (λ h=>?_) λ h=>?_))
     ·rw [qv] at h
      refine Ev.some hg (Ev.ct (zh (by omega) (by omega)) ?_)
      rw [hji]
      refine hPj.congr λ m k=>?_
      rw [← qrM _ _ (by omega)]
     ·rw [qu] at h
      rw [hi]
      refine hP.congr λ m k=>?_
      obtain ⟨d,hd2⟩:∃ d,p.2.toNat=j+d:=⟨p.2.toNat-j,by omega⟩
      rw [hd2,← List.replicate_append_replicate,← List.append_assoc,← qrv (A++List.replicate j p.1) _ (by omega)])
   have:=k2 0 (Nat.zero_le _)
   rw [List.replicate_zero,List.append_nil] at this
   exact this)
 refine Ev.diag (L := λ m k=>(qk m k).1 l 0 []) ?_
 exact k1 0 (Nat.zero_le _)
theorem qGU (S:Nat):∀ l:List Pw,(∀ p∈l,size p.1≤S)→(∀ x∈zK l,size x≤S)∧∀ x∈zP l,size x≤1+S:=by
 intro l h
 refine ⟨λ x hx=>?_,λ x hx=>?_⟩
 ·unfold zK at hx
  obtain ⟨p,hp,hx⟩:=List.mem_flatMap.1 hx
  rw [List.eq_of_mem_replicate hx];exact h p hp
 ·unfold zP at hx
  obtain ⟨p,hp,hx⟩:=List.mem_flatMap.1 hx
  rw [List.eq_of_mem_replicate hx,qwY]
  have:=h p hp;omega
theorem qDe (S:Nat):∀ l:List T,(∀ x∈l,size x≤S)→szL l≤l.length*S
 | [],_=>by simp [szL]
 | x::l,h=>by
   have h1:=qDe S l λ q hq=>h q (List.mem_cons_of_mem _ hq)
   have h2:=h x (List.mem_cons_self ..)
   rw [qJ,List.length_cons,Nat.add_mul];omega
theorem qwA (l:List Pw) (hs:szP l≤1000000000):Ev (λ m _=>qaA m l) (qad l):=by
 refine Ev.succ ?_
 simp only [qxj,qhk,qe]
 refine Ev.bind (qqu l hs) (Ev.ite (λ h=>?_) λ h=>?_)
 ·rw [bnt,qg] at h
  unfold qad
  rw [if_pos h];exact Ev.pure _
 rw [bnf,qi] at h
 obtain ⟨_,hlen,hN,hV⟩:=qax h
 have hsz:∀ p∈l,size p.1≤400 := λ p hp=>jT (hV p hp).1
 rw [qn3 h]
 obtain ⟨s1,s2⟩:=qGU 400 l hsz
 have hall:∀ x∈zK l++zP l,size x≤401 := λ x hx=>by
  rcases List.mem_append.1 hx with hx | hx
  ·have:=s1 x hx;omega
  ·exact s2 x hx
 refine Ev.bind (qE4 l (by omega) hN) ?_
 generalize zK l++zP l=A at *
 unfold qko
 refine Ev.ite (λ h8=>?_) λ h8=>?_
 ·rw [qv,List.length_take] at h8
  rw [if_pos (by omega)];exact Ev.pure _
 rw [qu,List.length_take] at h8
 rw [if_neg (by omega),List.take_of_length_le (by omega)]
 have ho:=qDe 401 A hall
 have hoz:=qAI A
 have hm:A.length*401≤8*401:=Nat.mul_le_mul_right _ (by omega)
 have fin:∀ u:T,u=Q8 A→Ev (λ m _=>qa (zI m u) λ v=>cond (qc (ieq v 0)) (some (T.mk 0 [] 0 [],v)) (some (u,0))) (if qA (Q8 A)≠0 then (zT,qA (Q8 A)) else (Q8 A,0)):=by
  intro u hu
  subst hu
  refine Ev.bind (qaC _ (by omega)) (Ev.ite (λ h=>?_) λ h=>?_)
  ·rw [bnt,qg] at h
   rw [if_pos h];exact Ev.pure _
  ·rw [bnf,qi] at h
   rw [if_neg (by omega)];exact Ev.pure _
 refine Ev.bind (qbl [109,117,108] A (by omega)) (Ev.ite (λ h0=>?_) λ h0=>?_)
 ·rw [qi] at h0
  refine Ev.bind (qbl [111,110,101] [] (by simp)) (Ev.cf (qg.2 (by omega)) (fin _ (by unfold Q8;rw [if_pos (by omega)];rfl)))
 ·rw [qg] at h0
  refine Ev.ite (λ h1=>?_) λ h1=>?_
  ·rw [qi] at h1
   refine Ev.some (a:=A.getD 0 zT) ?_ (fin _ (by unfold Q8;rw [if_neg (by omega),if_pos (by omega)]))
   rw [Jb,List.getD_eq_getElem?_getD]
   cases A with
   | nil=>simp at h1
   | cons x r=>rfl
  ·rw [qg] at h1
   exact fin _ (by unfold Q8;rw [if_neg (by omega),if_neg (by omega)];rfl)
theorem qCZ (l:List Pw) (hl:l.length≤1000000000):Ev (λ m _=>qb8 m l) (if qkp l then 7 else if 200<l.length then 3 else 0):=by
 refine Ev.succ ?_
 simp only [qsK,qbQ]
 have key:=qr (P := λ i=>Ev (λ m k=>Qj m k l i) (if qkp (l.drop i) then (7:Int) else if 200<l.length then 3 else 0)) l (by omega)
  (λ hc=>by
   refine Ev.loop ?_
   simp only [qiE,qbX]
   rw [List.drop_length,if_neg (by decide)]
   refine Ev.cf hc (Ev.ite (λ h=>?_) λ h=>?_)
   ·rw [qv] at h
    rw [if_pos (by omega)];exact Ev.pure _
   ·rw [qu] at h
    rw [if_neg (by omega)];exact Ev.pure _)
  (λ i p hx hd hc hg hi hP=>by
   refine Ev.loop ?_
   simp only [qiE,qbX]
   rw [hd,quP]
   refine Ev.ct hc (Ev.some hg (Ev.ite (λ h=>?_) λ h=>?_))
   ·rw [qv] at h
    rw [decide_eq_true h,Bool.true_or,Bool.true_or,if_pos rfl];exact Ev.pure _
   ·rw [qu] at h
    rw [decide_eq_false (show ¬ p.2 < -1000 by omega),Bool.false_or]
    refine Ev.some hg (Ev.ite (λ h2=>?_) λ h2=>?_)
    ·rw [qv] at h2
     rw [decide_eq_true h2,Bool.true_or,if_pos rfl];exact Ev.pure _
    ·rw [qu] at h2
     rw [decide_eq_false (show ¬ 1000<p.2 by omega),Bool.false_or,hi]
     exact hP)
 refine Ev.diag (L := λ m k=>Qj m k l 0) ?_
 exact (key 0 (Nat.zero_le _)).res (by rw [List.drop_zero])
theorem qGC (a b:List Pw) (ha:szP a≤100000000) (hb:szP b≤100000000):Ev (λ m _=>qg3 m a b) (qiG a b):=by
 have hl:=qbk b
 have hla:=qbk a
 refine Ev.succ ?_
 simp only [qzk,qfI]
 rw [qrH]
 refine Ev.bind (qqu a (by omega)) (Ev.ite (λ h=>?_) λ h=>?_)
 ·rw [bnt,qg] at h
  rw [if_pos h];exact Ev.pure _
 rw [bnf,qi] at h
 rw [if_neg (by omega)]
 refine Ev.bind (qqu b (by omega)) (Ev.ite (λ h2=>?_) λ h2=>?_)
 ·rw [bnt,qg] at h2
  rw [if_pos h2];exact Ev.pure _
 rw [bnf,qi] at h2
 rw [if_neg (by omega)]
 have key:=qr (P := λ i=>Ev (λ m k=>JO m k b i (Qk a (b.take i))) (ql3 (Qk a b))) b (by omega)
  (λ hc=>by
   refine Ev.loop ?_
   simp only [qng,qfr]
   rw [List.take_length]
   obtain ⟨_,b2,_,_⟩:=qfv h h2 b.length
   rw [List.take_length] at b2
   refine Ev.cf hc (Ev.bind (qCZ _ (by omega)) ?_)
   unfold ql3
   by_cases hf:qkp (Qk a b)=true
   ·rw [if_pos hf,if_pos hf]
    exact Ev.ct rfl (Ev.pure _)
   ·rw [if_neg hf,if_neg hf]
    by_cases h200:200<(Qk a b).length
    ·rw [if_pos h200,if_pos h200]
     exact Ev.ct rfl (Ev.pure _)
    ·rw [if_neg h200,if_neg h200]
     exact Ev.cf rfl (Ev.pure _))
  (λ i p hx hd hc hg hi hP=>by
   refine Ev.loop ?_
   simp only [qng,qfr,qe]
   have hm:=List.mem_of_getElem? hx
   obtain ⟨b1,b2,b3,b4⟩:=qfv h h2 i
   obtain ⟨_,_,hn,hv⟩:=qax h2
   have hz:=jT (hv p hm).1
   have hnp:=hn p hm
   refine Ev.ct hc (Ev.some hg (Ev.some hg (Ev.bind (qAp b1 p.1 p.2 (by omega) (by omega)) ?_)))
   rw [hi]
   refine hP.congr λ m k=>?_
   rw [zQ hx,qvh])
 refine Ev.ct (zh (by simp only [List.length_nil];omega) (by omega)) ?_
 have main:Ev (λ m _=>JO m m b 0 a) (ql3 (Qk a b)):=Ev.diag (L := λ m k=>JO m k b 0 a) (key 0 (Nat.zero_le _))
 exact Ev.case (λ h=>by rw [h] at main ⊢;exact main) λ x r h=>by rw [h] at main ⊢;exact main
end Go.AmYtbpnmbmdbblehaaGreat
namespace Go.AmYtbpnmbmdbblehaaGreat
open Go Go.GxYtbpnmbmdbblehaaGreat Go.Lib
theorem quC {t:T} (h:qkl t=0):qA t=0∧zb t=0:=by
 unfold qkl at h
 exact qeJ h
theorem qk9 {t:T} (h:zb t=0) {n:List UInt8} (hn:isN t n=true) {a b c:Int} (hs:qG n=(a,b,c)):a≤(t.kids.length:Int)∧(t.kids.length:Int)≤b∧∀ k∈t.kids,zb k=0:=by
 obtain ⟨h3,rfl⟩:=yr.1 hn
 obtain ⟨h1,h2⟩:=qe7 h3 h
 obtain ⟨_,g1,g2,_⟩:=qxC h3 h1
 rw [hs] at g1 g2
 exact ⟨g1,g2,h2⟩
end Go.AmYtbpnmbmdbblehaaGreat
namespace Go.AmYtbpnmbmdbblehaaGreat
open Go Go.GxYtbpnmbmdbblehaaGreat
def Cl (P:T→Prop):Prop:=∀ t:T,t.kind=3→P t→∀ k∈t.kids,P k
theorem qj0:∀ (n:Nat) (a b:List T),a.length+b.length≤n→∀ x∈zd a b,x∈a∨x∈b
 | _,[],b,_,x,h=>by rw [zd] at h;exact .inr h
 | _,z::a,[],_,x,h=>by rw [zd] at h;exact .inl h
 | 0,z::a,y::b,hn,x,h=>by simp at hn
 | n+1,z::a,y::b,hn,x,h=>by
   simp only [List.length_cons] at hn
   rw [zd] at h
   split at h
   ·rcases List.mem_cons.1 h with rfl | h
    ·exact .inl (List.mem_cons_self ..)
    ·rcases qj0 n a (y::b) (by simp;omega) x h with h | h
     ·exact .inl (List.mem_cons_of_mem _ h)
     ·exact .inr h
   ·split at h
    ·rcases List.mem_cons.1 h with rfl | h
     ·exact .inr (List.mem_cons_self ..)
     ·rcases qj0 n (z::a) b (by simp;omega) x h with h | h
      ·exact .inl h
      ·exact .inr (List.mem_cons_of_mem _ h)
    ·rcases qj0 n a b (by omega) x h with h | h
     ·exact .inl (List.mem_cons_of_mem _ h)
     ·exact .inr (List.mem_cons_of_mem _ h)
theorem qiz:∀ (ls:List (List T)) (a:List T),∀ x∈ls.foldl zd a,x∈a∨∃ l∈ls,x∈l
 | [],a,x,h => .inl h
 | l::ls,a,x,h=>by
   rcases qiz ls (zd a l) x h with h | ⟨m,hm,h⟩
   ·rcases qj0 _ a l (Nat.le_refl _) x h with h | h
    ·exact .inl h
    ·exact .inr ⟨l,List.mem_cons_self ..,h⟩
   ·exact .inr ⟨m,List.mem_cons_of_mem _ hm,h⟩
theorem qEr {P:T→Prop} (hP:Cl P) (t:T):P t→∀ x∈jr t,P x:=by
 refine T.ind (P := λ t=>P t→∀ x∈jr t,P x) ?_ t
 intro t ih ht x hx
 rw [qiD] at hx
 split at hx
 ·cases hx
 ·split at hx
  ·rename_i hn
   rcases qiz _ _ x hx with h | ⟨l,hl,h⟩
   ·cases h
   ·obtain ⟨k,hk,rfl⟩:=List.mem_map.1 hl
    exact ih k hk (hP t (yr.1 hn).1 ht k hk) x h
  ·rw [List.mem_singleton.1 hx];exact ht
theorem quX {P:T→Prop} (hP:Cl P) {l:List T} (h:∀ k∈l,P k):∀ x∈zF l,P x:=by
 intro x hx
 rcases qiz _ _ x hx with h1 | ⟨m,hm,h1⟩
 ·cases h1
 ·obtain ⟨k,hk,rfl⟩:=List.mem_map.1 hm
  exact qEr hP k (h k hk) x h1
theorem qHc {P:T→Prop} {l:List Pw} {t:T} (n:Int) (ht:P t) (hl:∀ p∈l,P p.1):∀ p∈yg l t n,P p.1:=by
 intro p hp
 rcases ql1 l t n p hp with h | h
 ·rw [h];exact ht
 ·exact hl p h
theorem qG9 {P:T→Prop} (hP:Cl P) (t:T):P t→∀ (l:List Pw) (n:Int),(∀ p∈l,P p.1)→∀ p∈yS t l n,P p.1:=by
 refine T.ind (P := λ t=>P t→∀ (l:List Pw) (n:Int),(∀ p∈l,P p.1)→∀ p∈yS t l n,P p.1) ?_ t
 intro t ih ht l n hl
 rw [qeS]
 split
 ·rename_i hs
  have h3:=(qou.1 hs).1
  exact qz8 t.kids (J4 t n) (λ l=>∀ p∈l,P p.1) (λ k hk l hl=>ih k hk (hP t h3 ht k hk) l _ hl) l hl
 ·exact qHc n ht hl
theorem qg6 {P:T→Prop} (hP:Cl P) {t:T} (ht:P t):∀ p∈(ofP t).1,P p.1:=by
 intro p hp
 unfold ofP at hp
 split at hp
 ·cases hp
 ·split at hp
  ·cases hp
  ·split at hp
   ·cases hp
   ·exact qG9 hP t ht [] 1 (λ _ h=>by cases h) p hp
theorem qz3 {P:T→Prop} {a b:List Pw} (ha:∀ p∈a,P p.1) (hb:∀ p∈b,P p.1):∀ p∈(qiG a b).1,P p.1:=by
 intro p hp
 unfold qiG at hp
 split at hp
 ·cases hp
 ·split at hp
  ·cases hp
  ·split at hp
   ·cases hp
   ·split at hp
    ·cases hp
    ·rcases qp8 b a p hp with ⟨q,hq,e⟩ | ⟨q,hq,e⟩
     ·rw [← e];exact ha q hq
     ·rw [← e];exact hb q hq
theorem qyF {l:List Pw} {x:T} (h:x∈zK l):∃ p∈l,x=p.1:=by
 unfold zK at h
 obtain ⟨p,hp,h⟩:=List.mem_flatMap.1 h
 exact ⟨p,hp,List.eq_of_mem_replicate h⟩
theorem qxd {l:List Pw} {x:T} (h:x∈zP l):∃ p∈l,x=apT Qx [p.1]:=by
 unfold zP at h
 obtain ⟨p,hp,h⟩:=List.mem_flatMap.1 h
 exact ⟨p,hp,List.eq_of_mem_replicate h⟩
theorem Q9:Cl λ t=>zb t=0 := λ t h3 h=>(qe7 h3 h).2
theorem qnn:∀ (l:List Int),(∀ y∈l,y=0)→l.foldl thn 0=0
 | [],_=>rfl
 | z::l,h=>by
   rw [jP,h z (List.mem_cons_self ..)]
   exact qnn l λ y hy=>h y (List.mem_cons_of_mem _ hy)
theorem qg1 {t:T} (h:qbv t=0) (hk:∀ k∈t.kids,zb k=0):zb t=0:=by
 rw [qk6]
 split
 ·rfl
 ·rw [h]
  refine qnn _ λ y hy=>?_
  obtain ⟨k,hk',rfl⟩:=List.mem_map.1 hy
  exact hk k hk'
theorem qeK {n:List UInt8} {ks:List T} (h1:(qG n).2.2≠0) (h2:(qG n).1≤(ks.length:Int)) (h3:(ks.length:Int)≤(qG n).2.1) (h4:JL (apT n ks)=false):qbv (apT n ks)=0:=by
 unfold qbv
 show (if (3:Int)≠3 then (0:Int) else if (qG n).2.2=0 then 10 else if (ks.length:Int)<(qG n).1∨(qG n).2.1<(ks.length:Int) then 6 else if JL (apT n ks) then 10 else 0)=0
 rw [if_neg (by decide),if_neg h1,if_neg (by omega),h4];rfl
theorem qil {n:List UInt8} (h1:n≠qgn) (h2:n≠nSk) (h3:n≠qqA) (ks:List T):JL (apT n ks)=false:=by
 unfold JL
 rw [if_neg (show ¬ (apT n ks).name=qgn from h1),if_neg (show ¬ ((apT n ks).name=nSk∨(apT n ks).name=qqA) from λ h=>h.elim h2 h3)]
theorem qaJ:zb zT=0:=by rw [qk6];rfl
theorem J2 {P:T→Prop} (hP:Cl P) (hz:P zT) {t:T} (h3:t.kind=3) (ht:P t) (i:Nat):P (kid t i):=by
 by_cases h:i<t.kids.length
 ·exact hP t h3 ht _ (qAL h)
 ·unfold kid
  rw [List.getD_eq_getElem?_getD,List.getElem?_eq_none (by omega)];exact hz
theorem qoD {P:T→Prop} (hz:P zT) {l:List T} (h:∀ x∈l,P x):P (l.getD 0 zT):=by
 cases l with
 | nil=>exact hz
 | cons x r=>exact h x (List.mem_cons_self ..)
theorem qDs {t:T} (h3:t.kind=3) (h:qA t=0):t.kids.length≤8:=by
 unfold qA at h
 split at h
 ·rename_i h1;exact absurd h h1
 ·rename_i h1
  have h2:=(qpi (t:=t) (by omega)).1
  unfold Qm qlM at h2
  rw [if_neg (by omega),if_pos h3] at h2
  split at h2
  ·cases h2
  ·split at h2
   ·split at h2
    ·cases h2
    ·omega
   ·cases h2
theorem quG {l:List Pw} (hl:∀ p∈l,zb p.1=0) (h:(qad l).2=0):zb (qad l).1=0:=by
 by_cases hp:QA l=0
 ·rw [qn3 hp] at h ⊢
  unfold qko at h ⊢
  by_cases h8:8<(zK l++zP l).length
  ·rw [if_pos h8] at h;cases h
  rw [if_neg h8] at h ⊢
  by_cases hv:qA (Q8 (zK l++zP l))=0
  ·rw [if_neg (by omega)]
   have hall:∀ x∈zK l++zP l,zb x=0 := λ x hx=>by
    rcases List.mem_append.1 hx with hx | hx
    ·obtain ⟨p,hp,rfl⟩:=qyF hx
     exact hl p hp
    ·obtain ⟨p,hp,rfl⟩:=qxd hx
     exact qg1 (qeK (by decide) (by show (1:Int)≤1;decide) (by show (1:Int)≤1;decide) (qil (by decide) (by decide) (by decide) _)) λ k hk=>by rw [List.mem_singleton.1 hk];exact hl p hp
   generalize zK l++zP l=o at *
   unfold Q8
   split
   ·exact qg1 (qeK (by decide) (by show (0:Int)≤0;decide) (by show (0:Int)≤0;decide) (qil (by decide) (by decide) (by decide) _)) λ k hk=>by cases hk
   ·split
    ·exact qoD (P := λ t=>zb t=0) qaJ hall
    ·rename_i h0 h1
     exact qg1 (qeK (by decide) (by show (2:Int)≤_;omega) (by show _≤(8:Int);omega) (qil (by decide) (by decide) (by decide) _)) hall
  ·rw [if_pos hv] at h;exact absurd h hv
 ·unfold qad at h
  rw [if_pos hp] at h
  exact absurd h hp
theorem qx3 {b:T} {l:List Pw} (hb:zb b=0) (hl:∀ p∈l,zb p.1=0) (h:(qgg b l).2=0):zb (qgg b l).1=0:=by
 unfold qgg at h ⊢
 split at h
 ·rename_i h0;rw [if_pos h0];exact hb
 ·rename_i h0
  rw [if_neg h0]
  split at h
  ·rename_i h1;exact absurd h h1
  ·rename_i h1
   rw [if_neg h1]
   refine qg1 (qeK (by decide) (by show (2:Int)≤2;decide) (by show (2:Int)≤2;decide) (qil (by decide) (by decide) (by decide) _)) λ k hk=>?_
   rcases List.mem_cons.1 hk with rfl | hk
   ·exact hb
   ·rw [List.mem_singleton.1 hk];exact quG hl (by omega)
theorem qEZ {n:List UInt8} {ks:List T} (hks:∀ k∈ks,zb k=0) (hK:qbv (apT n ks)=0) (h0:(Jd (apT n ks)).2=0):zb (Jd (apT n ks)).1=0:=by
 have ht:zb (apT n ks)=0:=qg1 hK hks
 unfold Jd at h0 ⊢
 by_cases hd:isD (apT n ks).name=true
 ·rw [if_pos hd]
  show zb (qhz _)=0
  unfold qhz
  split
  ·rename_i hf
   have hk0:(kid (apT n ks) 0).kind=3:=by
    unfold zN at hf
    split at hf
    ·exact (yr.1 hf).1
    ·split at hf
     ·rw [Bool.and_eq_true] at hf;exact (yr.1 hf.1).1
     ·split at hf
      ·rw [Bool.and_eq_true,Bool.and_eq_true] at hf;exact (yr.1 hf.1.1).1
      ·split at hf
       ·rw [Bool.and_eq_true,Bool.and_eq_true] at hf;exact (yr.1 hf.1.1).1
       ·split at hf
        ·exact (yr.1 hf).1
        ·cases hf
   exact J2 Q9 qaJ hk0 (J2 Q9 qaJ rfl ht 0) _
  ·exact ht
 rw [if_neg hd] at h0 ⊢
 by_cases hx:(apT n ks).name=qd1
 ·rw [if_pos hx] at h0 ⊢
  unfold qlh at h0 ⊢
  split at h0
  ·rename_i h1;exact absurd h0 h1
  rename_i h1
  rw [if_neg h1]
  split at h0
  ·cases h0
  rename_i h2
  rw [if_neg h2]
  show zb (Ju (zF ks))=0
  have hv:qA (Ju (zF ks))=0:=by
   have:¬ qA (Ju (zF (apT n ks).kids))≠0:=h2
   exact Decidable.of_not_not this
  have hall:=quX Q9 hks
  generalize zF ks=o at *
  unfold Ju at hv ⊢
  split
  ·exact qg1 (qeK (by decide) (by show (0:Int)≤0;decide) (by show (0:Int)≤0;decide) (qil (by decide) (by decide) (by decide) _)) λ k hk=>by cases hk
  ·rename_i g0
   split
   ·exact qoD (P := λ t=>zb t=0) qaJ hall
   ·rename_i g1
    rw [if_neg g0,if_neg g1] at hv
    have hl8:o.length≤8:=qDs (t:=apT qd1 o) rfl hv
    exact qg1 (qeK (by decide) (by show (2:Int)≤_;omega) (by show _≤(8:Int);omega) (qil (by decide) (by decide) (by decide) _)) hall
 rw [if_neg hx] at h0 ⊢
 by_cases hm:(apT n ks).name=qfO∨(apT n ks).name=Qx∨(apT n ks).name=qhm
 ·rw [if_pos hm] at h0 ⊢
  unfold qjz at h0 ⊢
  split at h0
  ·rename_i h1;exact absurd h0 h1
  rename_i h1
  rw [if_neg h1]
  exact quG (qg6 Q9 ht) h0
 rw [if_neg hm] at h0 ⊢
 by_cases he:(apT n ks).name=qdX
 ·rw [if_pos he] at h0 ⊢
  have hb:=J2 Q9 qaJ (t:=apT n ks) rfl ht 0
  have hy:=J2 Q9 qaJ (t:=apT n ks) rfl ht 1
  generalize kid (apT n ks) 0=b at *
  generalize kid (apT n ks) 1=y at *
  unfold ql9 at h0 ⊢
  split at h0
  ·rename_i h1;exact absurd h0 h1
  rename_i h1
  rw [if_neg h1]
  split at h0
  ·rename_i hbe
   rw [if_pos hbe]
   split at h0
   ·rename_i h2;exact absurd h0 h2
   rename_i h2
   rw [if_neg h2]
   split at h0
   ·rename_i h3;exact absurd h0 h3
   rename_i h3
   rw [if_neg h3]
   have hb3:=(yr.1 hbe).1
   exact qx3 (J2 Q9 qaJ hb3 hb 0) (qz3 (P := λ t=>zb t=0) (qg6 Q9 (J2 Q9 qaJ hb3 hb 1)) (qg6 Q9 hy)) h0
  ·rename_i hbe
   rw [if_neg hbe]
   exact qx3 hb (qg6 Q9 hy) h0
 ·rw [if_neg he];exact ht
theorem qir:size zT=1:=by rw [qC];rfl
theorem J9 (t:T) (i:Nat):size (kid t i)≤size t:=by
 have:=size_pos t
 by_cases h:i<t.kids.length
 ·have:=jf t _ (qAL h);omega
 ·unfold kid
  rw [List.getD_eq_getElem?_getD,List.getElem?_eq_none (by omega)]
  show size zT≤_
  rw [qir];omega
theorem qwG (l:List Pw):size (qad l).1≤400:=by
 unfold qad
 have:=qir
 split
 ·show size zT≤_;omega
 ·split
  ·show size zT≤_;omega
  ·split
   ·show size zT≤_;omega
   ·rename_i h
    exact jT (Decidable.of_not_not h)
theorem qzY (b:T) (l:List Pw):size (qgg b l).1≤401+size b:=by
 unfold qgg
 have:=qir
 have:=qwG l
 split
 ·show size b≤_;omega
 ·split
  ·show size zT≤_;omega
  ·rw [qC];show 1+(size b+(size (qad l).1+0))≤_;omega
theorem qG4 (n:List UInt8) (ks:List T):size (Jd (apT n ks)).1≤402+szL ks:=by
 have hz:=qir
 have ht:size (apT n ks)=1+szL ks:=qC _
 unfold Jd
 split
 ·show size (qhz _)≤_
  unfold qhz
  split
  ·have h1:=J9 (apT n ks) 0
   have h2:=J9 (kid (apT n ks) 0) (if (apT n ks).name=qta then 1 else 0)
   omega
  ·omega
 ·split
  ·unfold qlh
   split
   ·show size zT≤_;omega
   ·split
    ·show size zT≤_;omega
    ·have h1:=qAb (zF (apT n ks).kids)
     have h2:=qcW (apT n ks).kids
     have h3:szL (apT n ks).kids=szL ks:=rfl
     show size (Ju _)≤_
     omega
  ·split
   ·unfold qjz
    split
    ·show size zT≤_;omega
    ·have:=qwG (ofP (apT n ks)).1;omega
   ·split
    ·have h0:=J9 (apT n ks) 0
     generalize kid (apT n ks) 0=b at *
     generalize kid (apT n ks) 1=y at *
     unfold ql9
     split
     ·show size zT≤_;omega
     ·split
      ·split
       ·show size zT≤_;omega
       ·split
        ·show size zT≤_;omega
        ·have h1:=qzY (kid b 0) (qiG (ofP (kid b 1)).1 (ofP y).1).1
         have h2:=J9 b 0
         omega
      ·have h1:=qzY b (ofP y).1
       omega
    ·show size (apT n ks)≤_;omega
theorem qtp (t:T):size (zw t).1≤402*size t:=by
 refine T.ind (P := λ t=>size (zw t).1≤402*size t) ?_ t
 intro t ih
 have hz:=qir
 have hp:=size_pos t
 rw [qkJ]
 split
 ·show size t≤_;omega
 ·split
  ·show size zT≤_;omega
  ·have h1:=qG4 t.name ((t.kids.map zw).map (·.1))
   have h2:szL ((t.kids.map zw).map (·.1))≤402*szL t.kids:=by
    have:∀ l:List T,(∀ k∈l,k∈t.kids)→szL ((l.map zw).map (·.1))≤402*szL l:=by
     intro l
     induction l with
     | nil=>intro _;exact Nat.le_refl _
     | cons k l ihl =>
       intro h
       have h1:=ih k (h k (List.mem_cons_self ..))
       have h2:=ihl λ x hx=>h x (List.mem_cons_of_mem _ hx)
       rw [List.map_cons,List.map_cons,qJ,qJ];omega
    exact this t.kids λ _ h=>h
   have h3:size t=1+szL t.kids:=qC t
   omega
theorem qpr:∀ (l:List Int),l.foldl thn 0=0→∀ y∈l,y=0
 | [],_,y,hy=>by cases hy
 | z::l,h,y,hy=>by
   rw [jP] at h
   by_cases hz:z=0
   ·subst hz
    rcases List.mem_cons.1 hy with rfl | hy
    ·rfl
    ·exact qpr l h y hy
   ·rw [qH _ hz] at h;exact absurd h hz
theorem qg2 {t:T} (h:t.kind≠3):zw t=(t,0):=by rw [qkJ,if_pos h]
theorem qF6 {t:T} (h3:t.kind=3) (h:(zw t).2=0):(∀ k∈t.kids,(zw k).2=0)∧zw t=Jd (apT t.name ((t.kids.map zw).map (·.1))):=by
 rw [qkJ,if_neg (λ hh=>hh h3)] at h ⊢
 split at h
 ·rename_i h1;exact absurd h h1
 ·rename_i h1
  rw [if_neg h1]
  refine ⟨λ k hk=>?_,rfl⟩
  exact qpr _ (Decidable.of_not_not h1) _ (List.mem_map.2 ⟨_,List.mem_map.2 ⟨k,hk,rfl⟩,rfl⟩)
theorem qEc (l:List T) (h:∀ k∈l,k.kind≠3):(l.map zw).map (·.1)=l:=by
 induction l with
 | nil=>rfl
 | cons k l ih =>
   rw [List.map_cons,List.map_cons,qg2 (h k (List.mem_cons_self ..)),ih λ x hx=>h x (List.mem_cons_of_mem _ hx)]
theorem qw6 {t:T} (h3:t.kind=3) (h:qbv t=0):qbv (apT t.name ((t.kids.map zw).map (·.1)))=0:=by
 obtain ⟨h1,h2,h4,h5⟩:=qxC h3 h
 refine qeK h1 (by simpa using h2) (by simpa using h4) ?_
 unfold JL at h5 ⊢
 show (if t.name=qgn then decide ((kid (apT t.name ((t.kids.map zw).map (·.1))) 0).kind≠2) else if t.name=nSk∨t.name=qqA then ((t.kids.map zw).map (·.1)).any λ k=>decide (k.kind=3)||decide (k.sort≠1) else false)=false
 split
 ·rename_i hn
  rw [if_pos hn] at h5
  have hk:(kid t 0).kind=2:=by simpa using h5
  cases hl:t.kids with
  | nil =>
    unfold kid at hk
    rw [hl] at hk
    exact absurd hk (by decide)
  | cons x r =>
    have hx:kid t 0=x:=by unfold kid;rw [hl];rfl
    rw [hx] at hk
    show decide ((zw x).1.kind≠2)=false
    rw [qg2 (by omega)]
    simpa using hk
 ·rename_i hn
  rw [if_neg hn] at h5
  split
  ·rename_i hs
   rw [if_pos hs] at h5
   rw [qEc t.kids λ k hk hk3=>?_]
   ·exact h5
   ·have:=List.any_eq_false.1 h5 k hk
    rw [hk3] at this
    exact this rfl
  ·rfl
theorem qFo (t:T):zb t=0→(zw t).2=0→zb (zw t).1=0:=by
 refine T.ind (P := λ t=>zb t=0→(zw t).2=0→zb (zw t).1=0) ?_ t
 intro t ih hc h0
 by_cases h3:t.kind=3
 ·obtain ⟨h1,h2⟩:=qF6 h3 h0
  obtain ⟨g1,g2⟩:=qe7 h3 hc
  rw [h2] at h0 ⊢
  refine qEZ (λ k hk=>?_) (qw6 h3 g1) h0
  obtain ⟨q,hq,rfl⟩:=List.mem_map.1 hk
  obtain ⟨j,hj,rfl⟩:=List.mem_map.1 hq
  exact ih j hj (g2 j hj) (h1 j hj)
 ·rw [qg2 h3];exact hc
end Go.AmYtbpnmbmdbblehaaGreat
namespace Go.AmYtbpnmbmdbblehaaGreat
open Go Go.GxYtbpnmbmdbblehaaGreat
theorem zj (t:T) {b:Bool} (h:zN t=b):qhz t=if b then kid (kid t 0) (if t.name=qta then 1 else 0) else t:=by unfold qhz;rw [h]
theorem qbq {t:T} (h:zb t=0) {n:List UInt8} (hn:isN t n=true) {a b c:Int} (hs:qG n=(a,b,c)) {i:Nat} (hi:(i:Int)<a):qd t.kids (i:Int)=some (kid t i):=by
 have:=(qk9 h hn hs).1
 exact qtx (by omega)
theorem qA4 (t:T) (h3:t.kind=3) (hc:zb t=0) (hD:isD t.name=true) (hs:size t≤1000000000):Ev (λ m _=>JR m t) (qhz t):=by
 have hz:∀ i,size (kid t i)≤size t:=J9 t
 have hzz:∀ i j,size (kid (kid t i) j)≤1000000000 := λ i j=>by have:=J9 (kid t i) j;have:=hz i;omega
 have hzzz:∀ i j k,size (kid (kid (kid t i) j) k)≤1000000000 := λ i j k=>by have:=J9 (kid (kid t i) j) k;have:=hzz i j;omega
 have hck:∀ i,zb (kid t i)=0 := λ i=>J2 Q9 qaJ h3 hc i
 have hckk:∀ i j,(kid t i).kind=3→zb (kid (kid t i) j)=0 := λ i j h=>J2 Q9 qaJ h (hck i) j
 have isT:isN t t.name=true:=yr.2 ⟨h3,rfl⟩
 have k0:∀ {u:T} {n:List UInt8},zb u=0→isN u n=true→∀ {b c:Int},qG n=(1,b,c)→qd u.kids 0=some (kid u 0) := λ h hn _ _ e=>qbq (i:=0) h hn e (by decide)
 have k20:∀ {u:T} {n:List UInt8},zb u=0→isN u n=true→∀ {b c:Int},qG n=(2,b,c)→qd u.kids 0=some (kid u 0) := λ h hn _ _ e=>qbq (i:=0) h hn e (by decide)
 have k21:∀ {u:T} {n:List UInt8},zb u=0→isN u n=true→∀ {b c:Int},qG n=(2,b,c)→qd u.kids 1=some (kid u 1) := λ h hn _ _ e=>qbq (i:=1) h hn e (by decide)
 have sP:qG qlD=(2,2,1):=by decide
 have sE:qG qln=(2,2,1):=by decide
 have sA:qG qgL=(2,2,1):=by decide
 have sK:qG nPk=(1,1,1):=by decide
 have sS:qG qdJ=(2,2,1):=by decide
 unfold isD at hD
 simp only [Bool.or_eq_true,beq_iff_eq] at hD
 refine Ev.succ ?_
 simp only [qqj,qdZ,qe]
 have one:∀ {a b c:Int},qG t.name=(a,b,c)→a=b→(t.kids.length:Int)=a := λ e hab=>by
  have:=qk9 hc isT e;omega
 rcases hD with ((((hn | hn) | hn) | hn) | hn) | hn
 ·have hl:=one (a:=1) (b:=1) (c:=3) (by rw [hn];decide) rfl
  refine Ev.some (qcm (by omega)) (Ev.cf (qu.2 (by omega)) (Ev.ct (by rw [hn];rfl) (Ev.bind (qh1 _ _) ?_)))
  have hf:zN t=isN (kid t 0) qlD:=by unfold zN;rw [if_pos (.inl hn)]
  refine Ev.ite (λ h=>?_) λ h=>?_
  ·refine Ev.some (k20 (hck 0) h sP) (Ev.ret ?_)
   rw [zj t (hf.trans h),if_pos rfl,if_neg (by rw [hn];decide)]
  ·refine Ev.ret ?_
   rw [zj t (hf.trans h),if_neg (by decide)]
 ·have hl:=one (a:=1) (b:=1) (c:=3) (by rw [hn];decide) rfl
  refine Ev.some (qcm (by omega)) (Ev.cf (qu.2 (by omega)) (Ev.cf (by rw [hn];rfl) (Ev.ct (by rw [hn];rfl) (Ev.bind (qh1 _ _) ?_))))
  have hf:zN t=isN (kid t 0) qlD:=by unfold zN;rw [if_pos (.inr hn)]
  refine Ev.ite (λ h=>?_) λ h=>?_
  ·refine Ev.some (k21 (hck 0) h sP) (Ev.ret ?_)
   rw [zj t (hf.trans h),if_pos rfl,if_pos hn]
  ·refine Ev.ret ?_
   rw [zj t (hf.trans h),if_neg (by decide)]
 ·have hl:=one (a:=2) (b:=2) (c:=3) (by rw [hn];decide) rfl
  refine Ev.some (qcm (by omega)) (Ev.ct (qv.2 (by omega)) (Ev.some (qoq (by omega)) (Ev.cf (by rw [hn];rfl) (Ev.cf (by rw [hn];rfl) (Ev.ct (by rw [hn];rfl) (Ev.bind (qh1 _ _) ?_))))))
  have hf:zN t=(isN (kid t 0) qln&&yJ (kid (kid t 0) 1) (kid t 1)):=by unfold zN;rw [if_neg (by rw [hn];decide),if_pos hn]
  refine Ev.ite (λ h=>?_) λ h=>?_
  ·refine Ev.some (k21 (hck 0) h sE) (Ev.bind (qlK _ _ (hzz 0 1) (by have:=hz 1;omega)) (Ev.ite (λ h2=>?_) λ h2=>?_))
   ·refine Ev.some (k20 (hck 0) h sE) (Ev.ret ?_)
    rw [zj t (b:=true) (by rw [hf,show isN (kid t 0) qln=true from h,h2];rfl),if_pos rfl,if_neg (by rw [hn];decide)]
   ·refine Ev.ret ?_
    rw [zj t (b:=false) (by rw [hf,h2,Bool.and_false]),if_neg (by decide)]
  ·refine Ev.ret ?_
   rw [zj t (b:=false) (by rw [hf,show isN (kid t 0) qln=false from h];rfl),if_neg (by decide)]
 ·have hl:=one (a:=2) (b:=2) (c:=3) (by rw [hn];decide) rfl
  refine Ev.some (qcm (by omega)) (Ev.ct (qv.2 (by omega)) (Ev.some (qoq (by omega)) (Ev.cf (by rw [hn];rfl) (Ev.cf (by rw [hn];rfl) (Ev.cf (by rw [hn];rfl) (Ev.ct (by rw [hn];rfl) (Ev.bind (qh1 _ _) ?_)))))))
  have hf:zN t=(isN (kid t 0) qgL&&isN (kid (kid t 0) 1) nPk&&yJ (kid (kid (kid t 0) 1) 0) (kid t 1)):=by unfold zN;rw [if_neg (by rw [hn];decide),if_neg (by rw [hn];decide),if_pos hn]
  refine Ev.ite (λ h=>?_) λ h=>?_
  ·have hk3:=(yr.1 h).1
   refine Ev.some (k21 (hck 0) h sA) (Ev.bind (qh1 _ _) (Ev.ite (λ h2=>?_) λ h2=>?_))
   ·refine Ev.some (k21 (hck 0) h sA) (Ev.some (k0 (hckk 0 1 hk3) h2 sK) (Ev.bind (qlK _ _ (hzzz 0 1 0) (by have:=hz 1;omega)) (Ev.ite (λ h4=>?_) λ h4=>?_)))
    ·refine Ev.some (k20 (hck 0) h sA) (Ev.ret ?_)
     rw [zj t (b:=true) (by rw [hf,show isN (kid t 0) qgL=true from h,show isN (kid (kid t 0) 1) nPk=true from h2,h4];rfl),if_pos rfl,if_neg (by rw [hn];decide)]
    ·refine Ev.ret ?_
     rw [zj t (b:=false) (by rw [hf,h4,Bool.and_false]),if_neg (by decide)]
   ·refine Ev.ret ?_
    rw [zj t (b:=false) (by rw [hf,show isN (kid (kid t 0) 1) nPk=false from h2,Bool.and_false,Bool.false_and]),if_neg (by decide)]
  ·refine Ev.ret ?_
   rw [zj t (b:=false) (by rw [hf,show isN (kid t 0) qgL=false from h];rfl),if_neg (by decide)]
 ·have hl:=one (a:=2) (b:=2) (c:=3) (by rw [hn];decide) rfl
  refine Ev.some (qcm (by omega)) (Ev.ct (qv.2 (by omega)) (Ev.some (qoq (by omega)) (Ev.cf (by rw [hn];rfl) (Ev.cf (by rw [hn];rfl) (Ev.cf (by rw [hn];rfl) (Ev.cf (by rw [hn];rfl) (Ev.ct (by rw [hn];rfl) (Ev.bind (qh1 _ _) ?_))))))))
  have hf:zN t=(isN (kid t 0) qdJ&&isN (kid t 1) nPk&&yJ (kid (kid t 0) 1) (kid (kid t 1) 0)):=by unfold zN;rw [if_neg (by rw [hn];decide),if_neg (by rw [hn];decide),if_neg (by rw [hn];decide),if_pos hn]
  refine Ev.ite (λ h=>?_) λ h=>?_
  ·refine Ev.bind (qh1 _ _) (Ev.ite (λ h2=>?_) λ h2=>?_)
   ·refine Ev.some (k21 (hck 0) h sS) (Ev.some (k0 (hck 1) h2 sK) (Ev.bind (qlK _ _ (hzz 0 1) (hzz 1 0)) (Ev.ite (λ h4=>?_) λ h4=>?_)))
    ·refine Ev.some (k20 (hck 0) h sS) (Ev.ret ?_)
     rw [zj t (b:=true) (by rw [hf,show isN (kid t 0) qdJ=true from h,show isN (kid t 1) nPk=true from h2,h4];rfl),if_pos rfl,if_neg (by rw [hn];decide)]
    ·refine Ev.ret ?_
     rw [zj t (b:=false) (by rw [hf,h4,Bool.and_false]),if_neg (by decide)]
   ·refine Ev.ret ?_
    rw [zj t (b:=false) (by rw [hf,show isN (kid t 1) nPk=false from h2,Bool.and_false,Bool.false_and]),if_neg (by decide)]
  ·refine Ev.ret ?_
   rw [zj t (b:=false) (by rw [hf,show isN (kid t 0) qdJ=false from h];rfl),if_neg (by decide)]
 ·have hl:=one (a:=1) (b:=1) (c:=3) (by rw [hn];decide) rfl
  refine Ev.some (qcm (by omega)) (Ev.cf (qu.2 (by omega)) (Ev.cf (by rw [hn];rfl) (Ev.cf (by rw [hn];rfl) (Ev.cf (by rw [hn];rfl) (Ev.cf (by rw [hn];rfl) (Ev.cf (by rw [hn];rfl) (Ev.ct (by rw [hn];rfl) (Ev.bind (qh1 _ _) ?_))))))))
  have hf:zN t=isN (kid t 0) qdJ:=by unfold zN;rw [if_neg (by rw [hn];decide),if_neg (by rw [hn];decide),if_neg (by rw [hn];decide),if_neg (by rw [hn];decide),if_pos hn]
  refine Ev.ite (λ h=>?_) λ h=>?_
  ·refine Ev.some (k20 (hck 0) h sS) (Ev.ret ?_)
   rw [zj t (hf.trans h),if_pos rfl,if_neg (by rw [hn];decide)]
  ·refine Ev.ret ?_
   rw [zj t (hf.trans h),if_neg (by decide)]
end Go.AmYtbpnmbmdbblehaaGreat
namespace Go.AmYtbpnmbmdbblehaaGreat
open Go Go.GxYtbpnmbmdbblehaaGreat
def qd5:T→Prop:=T.para λ t rs=>(t.kind=3→t.sort=0)∧∀ p∈rs,p
theorem qk5 (t:T):qd5 t↔(t.kind=3→t.sort=0)∧∀ k∈t.kids,qd5 k:=by
 have h:qd5 t=((t.kind=3→t.sort=0)∧∀ p∈t.kids.map qd5,p):=T.para_eq _ _
 rw [h]
 refine and_congr_right λ _=>⟨λ h k hk=>h _ (List.mem_map_of_mem hk),λ h p hp=>?_⟩
 obtain ⟨k,hk,rfl⟩:=List.mem_map.1 hp
 exact h k hk
theorem qnO:Cl qd5 := λ t _ h=>((qk5 t).1 h).2
theorem qx8:qd5 zT:=(qk5 zT).2 ⟨λ h=>absurd h (by decide),λ _ h=>by cases h⟩
theorem qzX (n:List UInt8) (ks:List T) (h:∀ k∈ks,qd5 k):qd5 (apT n ks):=(qk5 _).2 ⟨λ _=>rfl,h⟩
theorem qBS {t:T} (h3:t.kind=3) (h:Qm t=0):t.sort=0:=by
 unfold Qm qlM at h
 rw [if_neg (by omega),if_pos h3] at h
 split at h
 ·cases h
 ·omega
theorem qDH (t:T):Jz t=0→qd5 t:=by
 refine T.ind (P := λ t=>Jz t=0→qd5 t) ?_ t
 intro t ih h
 obtain ⟨h1,h2⟩:=qpi h
 exact (qk5 t).2 ⟨λ h3=>qBS h3 h1,λ k hk=>ih k hk (h2 k hk)⟩
theorem qzB {t:T} (h:qA t=0):Jz t=0:=by
 unfold qA at h
 split at h
 ·rename_i h1;exact absurd h h1
 ·rename_i h1;exact Decidable.of_not_not h1
theorem qGZ {P:T→Prop} (hP:Cl P) (hz:P zT) (hap:∀ n ks,(∀ k∈ks,P k)→P (apT n ks)) {n:List UInt8} {ks:List T} (hks:∀ k∈ks,P k):P (Jd (apT n ks)).1:=by
 have ht:=hap n ks hks
 have hkid:∀ {t:T} (i:Nat),P t→t.kind=3→P (kid t i) := λ i h h3=>J2 hP hz h3 h i
 have hterm:∀ l:List Pw,(∀ p∈l,P p.1)→P (qad l).1:=by
  intro l hl
  unfold qad
  split
  ·exact hz
  ·split
   ·exact hz
   ·split
    ·exact hz
    ·have hall:∀ x∈zK l++zP l,P x := λ x hx=>by
       rcases List.mem_append.1 hx with hx | hx
       ·obtain ⟨p,hp,rfl⟩:=qyF hx
        exact hl p hp
       ·obtain ⟨p,hp,rfl⟩:=qxd hx
        exact hap _ _ λ k hk=>by rw [List.mem_singleton.1 hk];exact hl p hp
     show P (Q8 _)
     generalize zK l++zP l=o at *
     unfold Q8
     split
     ·exact hap _ _ λ k hk=>by cases hk
     ·split
      ·exact qoD hz hall
      ·exact hap _ _ hall
 have hexp:∀ (b:T) (l:List Pw),P b→(∀ p∈l,P p.1)→P (qgg b l).1:=by
  intro b l hb hl
  unfold qgg
  split
  ·exact hb
  ·split
   ·exact hz
   ·refine hap _ _ λ k hk=>?_
    rcases List.mem_cons.1 hk with rfl | hk
    ·exact hb
    ·rw [List.mem_singleton.1 hk];exact hterm l hl
 unfold Jd
 split
 ·show P (qhz _)
  unfold qhz
  split
  ·rename_i hf
   have hk0:(kid (apT n ks) 0).kind=3:=by
    unfold zN at hf
    split at hf
    ·exact (yr.1 hf).1
    ·split at hf
     ·rw [Bool.and_eq_true] at hf;exact (yr.1 hf.1).1
     ·split at hf
      ·rw [Bool.and_eq_true,Bool.and_eq_true] at hf;exact (yr.1 hf.1.1).1
      ·split at hf
       ·rw [Bool.and_eq_true,Bool.and_eq_true] at hf;exact (yr.1 hf.1.1).1
       ·split at hf
        ·exact (yr.1 hf).1
        ·cases hf
   exact hkid _ (hkid 0 ht rfl) hk0
  ·exact ht
 ·split
  ·unfold qlh
   split
   ·exact hz
   ·split
    ·exact hz
    ·have hall:=quX hP hks
     show P (Ju (zF ks))
     generalize zF ks=o at *
     unfold Ju
     split
     ·exact hap _ _ λ k hk=>by cases hk
     ·split
      ·exact qoD hz hall
      ·exact hap _ _ hall
  ·split
   ·unfold qjz
    split
    ·exact hz
    ·exact hterm _ (qg6 hP ht)
   ·split
    ·have hb:=hkid (t:=apT n ks) 0 ht rfl
     have hy:=hkid (t:=apT n ks) 1 ht rfl
     generalize kid (apT n ks) 0=b at *
     generalize kid (apT n ks) 1=y at *
     unfold ql9
     split
     ·exact hz
     ·split
      ·rename_i hbe
       have hb3:=(yr.1 hbe).1
       split
       ·exact hz
       ·split
        ·exact hz
        ·exact hexp _ _ (hkid 0 hb hb3) (qz3 (qg6 hP (hkid 1 hb hb3)) (qg6 hP hy))
      ·exact hexp _ _ hb (qg6 hP hy)
    ·exact ht
theorem qGY {P:T→Prop} (hP:Cl P) (hz:P zT) (hap:∀ n ks,(∀ k∈ks,P k)→P (apT n ks)) (t:T):P t→P (zw t).1:=by
 refine T.ind (P := λ t=>P t→P (zw t).1) ?_ t
 intro t ih h
 rw [qkJ]
 split
 ·exact h
 ·rename_i h3
  split
  ·exact hz
  ·refine qGZ hP hz hap λ k hk=>?_
   obtain ⟨q,hq,rfl⟩:=List.mem_map.1 hk
   obtain ⟨j,hj,rfl⟩:=List.mem_map.1 hq
   exact ih j hj (hP t (Decidable.of_not_not h3) h j hj)
theorem qAc {u x:T} (hc:zb u=0) (hs:qd5 u):yJ u (apT nPk [x])=(isN u nPk&&yJ (kid u 0) x):=by
 rw [Bool.eq_iff_iff,Bool.and_eq_true,Jf,Jf]
 constructor
 ·rintro rfl
  exact ⟨yr.2 ⟨rfl,rfl⟩,rfl⟩
 ·rintro ⟨h1,h2⟩
  obtain ⟨h3,hn⟩:=yr.1 h1
  have har:=qk9 hc h1 (a:=1) (b:=1) (c:=1) (by decide)
  have hso:=((qk5 u).1 hs).1 h3
  cases u with
  | mk k n so ks =>
    have h3:k=3:=h3
    have hn:n=nPk:=hn
    have hso:so=0:=hso
    have hl:ks.length=1:=by
     have h1:(1:Int)≤(ks.length:Int):=har.1
     have h2:(ks.length:Int)≤1:=har.2.1
     omega
    cases ks with
    | nil=>cases hl
    | cons y r =>
      cases r with
      | nil =>
        have:y=x:=h2
        subst h3;subst hn;subst hso;subst this;rfl
      | cons z r=>simp at hl
theorem qsm (a b:T):yJ a b=yJ b a:=by
 rw [Bool.eq_iff_iff,Jf,Jf];exact eq_comm
theorem qzy (t:T) (h3:t.kind=3) (hc:zb t=0) (hso:qd5 t) (hD:isD t.name=true) (hs:size t≤900000000):Ev (λ m _=>qb5 m t) (qhz t,zN t):=by
 have hz:∀ i,size (kid t i)≤size t:=J9 t
 have hzz:∀ i j,size (kid (kid t i) j)≤900000000 := λ i j=>by have:=J9 (kid t i) j;have:=hz i;omega
 have hck:∀ i,zb (kid t i)=0 := λ i=>J2 Q9 qaJ h3 hc i
 have hckk:∀ i j,(kid t i).kind=3→zb (kid (kid t i) j)=0 := λ i j h=>J2 Q9 qaJ h (hck i) j
 have hsk:∀ i,qd5 (kid t i) := λ i=>J2 qnO qx8 h3 hso i
 have hskk:∀ i j,(kid t i).kind=3→qd5 (kid (kid t i) j) := λ i j h=>J2 qnO qx8 h (hsk i) j
 have isT:isN t t.name=true:=yr.2 ⟨h3,rfl⟩
 have k20:∀ {u:T} {n:List UInt8},zb u=0→isN u n=true→∀ {b c:Int},qG n=(2,b,c)→qd u.kids 0=some (kid u 0) := λ h hn _ _ e=>qbq (i:=0) h hn e (by decide)
 have k21:∀ {u:T} {n:List UInt8},zb u=0→isN u n=true→∀ {b c:Int},qG n=(2,b,c)→qd u.kids 1=some (kid u 1) := λ h hn _ _ e=>qbq (i:=1) h hn e (by decide)
 have sP:qG qlD=(2,2,1):=by decide
 have sE:qG qln=(2,2,1):=by decide
 have sA:qG qgL=(2,2,1):=by decide
 have sS:qG qdJ=(2,2,1):=by decide
 unfold isD at hD
 simp only [Bool.or_eq_true,beq_iff_eq] at hD
 refine Ev.succ ?_
 simp only [qrf,qeF,qe]
 have one:∀ {a b c:Int},qG t.name=(a,b,c)→a=b→(t.kids.length:Int)=a := λ e hab=>by
  have:=qk9 hc isT e;omega
 have size_pk:∀ x:T,size (apT nPk [x])=1+size x := λ x=>by rw [qC];show 1+(size x+0)=_;omega
 rcases hD with ((((hn | hn) | hn) | hn) | hn) | hn
 ·have hl:=one (a:=1) (b:=1) (c:=3) (by rw [hn];decide) rfl
  refine Ev.some (qcm (by omega)) (Ev.ct (by rw [hn];rfl) (Ev.bind (qjo _ _) ?_))
  have hf:zN t=isN (kid t 0) qlD:=by unfold zN;rw [if_pos (.inl hn)]
  refine Ev.ite (λ h=>?_) λ h=>?_
  ·refine Ev.some (k20 (hck 0) h sP) (Ev.ret ?_)
   rw [zj t (hf.trans h),if_pos rfl,if_neg (by rw [hn];decide),hf.trans h]
  ·repeat (refine Ev.cf (by rw [hn];rfl) ?_)
   refine Ev.ret ?_
   rw [zj t (hf.trans h),if_neg (by decide),hf.trans h]
 ·have hl:=one (a:=1) (b:=1) (c:=3) (by rw [hn];decide) rfl
  refine Ev.some (qcm (by omega)) (Ev.cf (by rw [hn];rfl) (Ev.ct (by rw [hn];rfl) (Ev.bind (qjo _ _) ?_)))
  have hf:zN t=isN (kid t 0) qlD:=by unfold zN;rw [if_pos (.inr hn)]
  refine Ev.ite (λ h=>?_) λ h=>?_
  ·refine Ev.some (k21 (hck 0) h sP) (Ev.ret ?_)
   rw [zj t (hf.trans h),if_pos rfl,if_pos hn,hf.trans h]
  ·repeat (refine Ev.cf (by rw [hn];rfl) ?_)
   refine Ev.ret ?_
   rw [zj t (hf.trans h),if_neg (by decide),hf.trans h]
 ·have hl:=one (a:=2) (b:=2) (c:=3) (by rw [hn];decide) rfl
  refine Ev.some (qcm (by omega)) (Ev.cf (by rw [hn];rfl) (Ev.cf (by rw [hn];rfl) (Ev.ct (by rw [hn];rfl) (Ev.bind (qjo _ _) ?_))))
  have hf:zN t=(isN (kid t 0) qln&&yJ (kid (kid t 0) 1) (kid t 1)):=by unfold zN;rw [if_neg (by rw [hn];decide),if_pos hn]
  refine Ev.ite (λ h=>?_) λ h=>?_
  ·refine Ev.some (k21 (hck 0) h sE) (Ev.some (qoq (by omega)) (Ev.bind (qbD _ _ (by have:=hzz 0 1;omega) (by have:=hz 1;omega)) (Ev.ite (λ h2=>?_) λ h2=>?_)))
   ·have hb:zN t=true:=by rw [hf,show isN (kid t 0) qln=true from h,h2];rfl
    refine Ev.some (k20 (hck 0) h sE) (Ev.ret ?_)
    rw [zj t hb,if_pos rfl,if_neg (by rw [hn];decide),hb]
   ·have hb:zN t=false:=by rw [hf,h2,Bool.and_false]
    repeat (refine Ev.cf (by rw [hn];rfl) ?_)
    refine Ev.ret ?_
    rw [zj t hb,if_neg (by decide),hb]
  ·have hb:zN t=false:=by rw [hf,show isN (kid t 0) qln=false from h];rfl
   repeat (refine Ev.cf (by rw [hn];rfl) ?_)
   refine Ev.ret ?_
   rw [zj t hb,if_neg (by decide),hb]
 ·have hl:=one (a:=2) (b:=2) (c:=3) (by rw [hn];decide) rfl
  refine Ev.some (qcm (by omega)) (Ev.cf (by rw [hn];rfl) (Ev.cf (by rw [hn];rfl) (Ev.cf (by rw [hn];rfl) (Ev.ct (by rw [hn];rfl) (Ev.bind (qjo _ _) ?_)))))
  have hf:zN t=(isN (kid t 0) qgL&&isN (kid (kid t 0) 1) nPk&&yJ (kid (kid (kid t 0) 1) 0) (kid t 1)):=by unfold zN;rw [if_neg (by rw [hn];decide),if_neg (by rw [hn];decide),if_pos hn]
  refine Ev.ite (λ h=>?_) λ h=>?_
  ·have hk3:=(yr.1 h).1
   refine Ev.some (k21 (hck 0) h sA) (Ev.some (qoq (by omega)) (Ev.bind (qbl nPk [kid t 1] (by simp)) (Ev.bind (qbD _ _ (by have:=hzz 0 1;omega) (by rw [size_pk];have:=hz 1;omega)) ?_)))
   rw [qAc (hckk 0 1 hk3) (hskk 0 1 hk3)]
   refine Ev.ite (λ h2=>?_) λ h2=>?_
   ·have hb:zN t=true:=by rw [hf,show isN (kid t 0) qgL=true from h,Bool.true_and,h2]
    refine Ev.some (k20 (hck 0) h sA) (Ev.ret ?_)
    rw [zj t hb,if_pos rfl,if_neg (by rw [hn];decide),hb]
   ·have hb:zN t=false:=by rw [hf,show isN (kid t 0) qgL=true from h,Bool.true_and,h2]
    repeat (refine Ev.cf (by rw [hn];rfl) ?_)
    refine Ev.ret ?_
    rw [zj t hb,if_neg (by decide),hb]
  ·have hb:zN t=false:=by rw [hf,show isN (kid t 0) qgL=false from h];rfl
   repeat (refine Ev.cf (by rw [hn];rfl) ?_)
   refine Ev.ret ?_
   rw [zj t hb,if_neg (by decide),hb]
 ·have hl:=one (a:=2) (b:=2) (c:=3) (by rw [hn];decide) rfl
  refine Ev.some (qcm (by omega)) (Ev.cf (by rw [hn];rfl) (Ev.cf (by rw [hn];rfl) (Ev.cf (by rw [hn];rfl) (Ev.cf (by rw [hn];rfl) (Ev.ct (by rw [hn];rfl) (Ev.bind (qjo _ _) ?_))))))
  have hf:zN t=(isN (kid t 0) qdJ&&isN (kid t 1) nPk&&yJ (kid (kid t 0) 1) (kid (kid t 1) 0)):=by unfold zN;rw [if_neg (by rw [hn];decide),if_neg (by rw [hn];decide),if_neg (by rw [hn];decide),if_pos hn]
  refine Ev.ite (λ h=>?_) λ h=>?_
  ·refine Ev.some (qoq (by omega)) (Ev.some (k21 (hck 0) h sS) (Ev.bind (qbl nPk [kid (kid t 0) 1] (by simp)) (Ev.bind (qbD _ _ (by have:=hz 1;omega) (by rw [size_pk];have:=hzz 0 1;omega)) ?_)))
   rw [qAc (hck 1) (hsk 1),qsm (kid (kid t 1) 0)]
   refine Ev.ite (λ h2=>?_) λ h2=>?_
   ·have hb:zN t=true:=by rw [hf,show isN (kid t 0) qdJ=true from h,Bool.true_and,h2]
    refine Ev.some (k20 (hck 0) h sS) (Ev.ret ?_)
    rw [zj t hb,if_pos rfl,if_neg (by rw [hn];decide),hb]
   ·have hb:zN t=false:=by rw [hf,show isN (kid t 0) qdJ=true from h,Bool.true_and,h2]
    repeat (refine Ev.cf (by rw [hn];rfl) ?_)
    refine Ev.ret ?_
    rw [zj t hb,if_neg (by decide),hb]
  ·have hb:zN t=false:=by rw [hf,show isN (kid t 0) qdJ=false from h];rfl
   repeat (refine Ev.cf (by rw [hn];rfl) ?_)
   refine Ev.ret ?_
   rw [zj t hb,if_neg (by decide),hb]
 ·have hl:=one (a:=1) (b:=1) (c:=3) (by rw [hn];decide) rfl
  refine Ev.some (qcm (by omega)) (Ev.cf (by rw [hn];rfl) (Ev.cf (by rw [hn];rfl) (Ev.cf (by rw [hn];rfl) (Ev.cf (by rw [hn];rfl) (Ev.cf (by rw [hn];rfl) (Ev.ct (by rw [hn];rfl) (Ev.bind (qjo _ _) ?_)))))))
  have hf:zN t=isN (kid t 0) qdJ:=by unfold zN;rw [if_neg (by rw [hn];decide),if_neg (by rw [hn];decide),if_neg (by rw [hn];decide),if_neg (by rw [hn];decide),if_pos hn]
  refine Ev.ite (λ h=>?_) λ h=>?_
  ·refine Ev.some (k20 (hck 0) h sS) (Ev.ret ?_)
   rw [zj t (hf.trans h),if_pos rfl,if_neg (by rw [hn];decide),hf.trans h]
  ·repeat (refine Ev.cf (by rw [hn];rfl) ?_)
   refine Ev.ret ?_
   rw [zj t (hf.trans h),if_neg (by decide),hf.trans h]
end Go.AmYtbpnmbmdbblehaaGreat
namespace Go.AmYtbpnmbmdbblehaaGreat
open Go Go.GxYtbpnmbmdbblehaaGreat
theorem qg0 (t:T):szP (ofP t).1≤400:=by
 unfold ofP
 split
 ·exact Nat.zero_le _
 ·rename_i h
  split
  ·exact Nat.zero_le _
  ·split
   ·exact Nat.zero_le _
   ·have h1:=qAh t [] 1
    have h2:=jT (Decidable.of_not_not h)
    have h3:szP ([]:List Pw)=0:=rfl
    show szP (yS t [] 1)≤_
    omega
theorem qAM (a b:List Pw):szP (qiG a b).1≤160000:=by
 unfold qiG
 split
 ·exact Nat.zero_le _
 ·rename_i h1
  split
  ·exact Nat.zero_le _
  ·rename_i h2
   split
   ·exact Nat.zero_le _
   ·split
    ·exact Nat.zero_le _
    ·obtain ⟨_,_,h,_⟩:=qfv (Decidable.of_not_not h1) (Decidable.of_not_not h2) b.length
     rw [List.take_length] at h
     exact h
theorem qEd (b e:T) (hb:zb b=0) (hsb:size b≤1000000000) (hse:size e≤1000000000):Ev (λ m _=>qcK m b e) (ql9 b e):=by
 refine Ev.succ ?_
 simp only [qtL,qf2,qe]
 have fin:∀ (l:List Pw) (x:T),szP l≤1000000000→Ev (λ m _=>cond (ieq (l.length:Int) 0) (some (x,(0:Int))) (qa (jB m l) λ v=>cond (qc (ieq v.2 0)) (some (T.mk 0 [] 0 [],v.2)) (qa (qdL m [101,120,112] [x,v.1]) λ w=>some (w,0)))) (qgg x l):=by
  intro l x hl
  unfold qgg
  refine Ev.ite (λ h=>?_) λ h=>?_
  ·rw [qi] at h
   rw [if_pos (by omega)];exact Ev.pure _
  ·rw [qg] at h
   rw [if_neg (by omega)]
   refine Ev.bind (qx6 l hl) (Ev.ite (λ h=>?_) λ h=>?_)
   ·rw [bnt,qg] at h
    rw [if_pos h];exact Ev.pure _
   ·rw [bnf,qi] at h
    rw [if_neg (by omega)]
    exact Ev.bind (qHK _ _) (Ev.pure _)
 unfold ql9
 refine Ev.bind (qyt e hse) (Ev.ite (λ h=>?_) λ h=>?_)
 ·rw [bnt,qg] at h
  rw [if_pos h];exact Ev.pure _
 rw [bnf,qi] at h
 rw [if_neg (by omega)]
 refine Ev.bind (qh1 _ _) (Ev.ite (λ hx=>?_) λ hx=>?_)
 ·rw [if_pos (show isN b qdX=true from hx)]
  have h1:=J9 b 1
  refine Ev.some (qbq (i:=1) hb hx (a:=2) (b:=2) (c:=1) (by decide) (by decide)) (Ev.bind (qyt _ (by omega)) (Ev.ite (λ h2=>?_) λ h2=>?_))
  ·rw [bnt,qg] at h2
   rw [if_pos h2];exact Ev.pure _
  rw [bnf,qi] at h2
  rw [if_neg (by omega)]
  have h3:=qg0 (kid b 1)
  have h4:=qg0 e
  have h5:=qAM (ofP (kid b 1)).1 (ofP e).1
  refine Ev.bind (qGK _ _ (by omega) (by omega)) (Ev.ite (λ h2=>?_) λ h2=>?_)
  ·rw [bnt,qg] at h2
   rw [if_pos h2];exact Ev.pure _
  rw [bnf,qi] at h2
  rw [if_neg (by omega)]
  exact Ev.some (qbq (i:=0) hb hx (a:=2) (b:=2) (c:=1) (by decide) (by decide)) (fin _ _ (by omega))
 ·rw [if_neg (by rw [show isN b qdX=false from hx];decide)]
  have h4:=qg0 e
  exact fin _ _ (by omega)
theorem qE3 (b e:T) (hb:zb b=0) (hsb:size b≤1000000000) (hse:size e≤1000000000):Ev (λ m _=>qed m b e) (ql9 b e):=by
 refine Ev.succ ?_
 simp only [qvK,qgE,qe]
 have fin:∀ (l:List Pw) (x:T),szP l≤1000000000→Ev (λ m _=>cond (ieq (l.length:Int) 0) (some (x,(0:Int))) (qa (qaA m l) λ v=>cond (qc (ieq v.2 0)) (some (T.mk 0 [] 0 [],v.2)) (qa (yu m [101,120,112] [x,v.1]) λ w=>some (w,0)))) (qgg x l):=by
  intro l x hl
  unfold qgg
  refine Ev.ite (λ h=>?_) λ h=>?_
  ·rw [qi] at h
   rw [if_pos (by omega)];exact Ev.pure _
  ·rw [qg] at h
   rw [if_neg (by omega)]
   refine Ev.bind (qwA l hl) (Ev.ite (λ h=>?_) λ h=>?_)
   ·rw [bnt,qg] at h
    rw [if_pos h];exact Ev.pure _
   ·rw [bnf,qi] at h
    rw [if_neg (by omega)]
    exact Ev.bind (qbl _ _ (by simp)) (Ev.pure _)
 unfold ql9
 refine Ev.bind (qyz e hse) (Ev.ite (λ h=>?_) λ h=>?_)
 ·rw [bnt,qg] at h
  rw [if_pos h];exact Ev.pure _
 rw [bnf,qi] at h
 rw [if_neg (by omega)]
 refine Ev.bind (qjo _ _) (Ev.ite (λ hx=>?_) λ hx=>?_)
 ·rw [if_pos (show isN b qdX=true from hx)]
  have h1:=J9 b 1
  refine Ev.some (qbq (i:=1) hb hx (a:=2) (b:=2) (c:=1) (by decide) (by decide)) (Ev.bind (qyz _ (by omega)) (Ev.ite (λ h2=>?_) λ h2=>?_))
  ·rw [bnt,qg] at h2
   rw [if_pos h2];exact Ev.pure _
  rw [bnf,qi] at h2
  rw [if_neg (by omega)]
  have h3:=qg0 (kid b 1)
  have h4:=qg0 e
  have h5:=qAM (ofP (kid b 1)).1 (ofP e).1
  refine Ev.bind (qGC _ _ (by omega) (by omega)) (Ev.ite (λ h2=>?_) λ h2=>?_)
  ·rw [bnt,qg] at h2
   rw [if_pos h2];exact Ev.pure _
  rw [bnf,qi] at h2
  rw [if_neg (by omega)]
  exact Ev.some (qbq (i:=0) hb hx (a:=2) (b:=2) (c:=1) (by decide) (by decide)) (fin _ _ (by omega))
 ·rw [if_neg (by rw [show isN b qdX=false from hx];decide)]
  have h4:=qg0 e
  exact fin _ _ (by omega)
theorem qyW {t:T} (h:isD t.name=true):Jd t=(qhz t,0):=by unfold Jd;rw [if_pos h]
theorem qxH {t:T} (h:t.name=qd1):Jd t=qlh t.kids:=by unfold Jd;rw [if_neg (by rw [h];decide),if_pos h]
theorem qyo {t:T} (h:t.name=qfO∨t.name=Qx∨t.name=qhm):Jd t=qjz t:=by
 unfold Jd
 rw [if_neg (by rcases h with h | h | h<;>rw [h]<;>decide),if_neg (by rcases h with h | h | h<;>rw [h]<;>decide),if_pos h]
theorem qxn {t:T} (h:t.name=qdX):Jd t=ql9 (kid t 0) (kid t 1):=by
 unfold Jd
 rw [if_neg (by rw [h];decide),if_neg (by rw [h];decide),if_neg (by rw [h];decide),if_pos h]
theorem qu8 {t:T} (h1:isD t.name=false) (h2:t.name≠qd1) (h3:¬ (t.name=qfO∨t.name=Qx∨t.name=qhm)) (h4:t.name≠qdX):Jd t=(t,0):=by
 unfold Jd
 rw [if_neg (by rw [h1];decide),if_neg h2,if_neg h3,if_neg h4]
theorem qC0 (n:List UInt8):(qG n).2.2=3↔isD n=true:=by
 constructor
 ·intro h
  rcases qrE n with h1 | ⟨r,hr,hn,h1⟩
  ·rw [qrS h1] at h;cases h
  ·rw [qmc h1] at h
   have:jp.all (λ r => !decide (r.2.2.2=3)||isD r.1)=true:=by decide
   have:=List.all_eq_true.1 this r hr
   rw [decide_eq_true h] at this
   rw [← hn];exact this
 ·intro h
  unfold isD at h
  simp only [Bool.or_eq_true,beq_iff_eq] at h
  rcases h with ((((hn | hn) | hn) | hn) | hn) | hn<;>rw [hn]<;>decide
def nks (l:List T):List T:=(l.map zw).map (·.1)
theorem qoS (l:List T):(nks l).length=l.length:=by unfold nks;simp
theorem qDj (l:List T):szL (nks l)≤402*szL l:=by
 induction l with
 | nil=>exact Nat.le_refl _
 | cons k l ih =>
   have:=qtp k
   show szL ((zw k).1::nks l)≤_
   rw [qJ,qJ];omega
theorem qxD {l:List T} {i:Nat} {x:T} (h:l[i]? = some x):nks (l.take (i+1))=nks (l.take i)++[(zw x).1]:=by
 unfold nks
 rw [zQ h,List.map_append,List.map_append];rfl
def erN (l:List T):Int:=((l.map zw).map (·.2)).foldl thn 0
theorem qxt {l:List T} {i:Nat} {x:T} (h:l.drop i=x::l.drop (i+1)):erN (l.drop i)=if (zw x).2≠0 then (zw x).2 else erN (l.drop (i+1)):=by
 unfold erN
 rw [h,List.map_cons,List.map_cons]
 by_cases hx:(zw x).2=0
 ·rw [if_neg (by omega),hx];rfl
 ·rw [if_pos hx];exact qH _ hx
theorem qAP {t:T} (h3:t.kind=3):zw t=if erN t.kids≠0 then (zT,erN t.kids) else Jd (apT t.name (nks t.kids)):=by rw [qkJ,if_neg (λ h=>h h3)];rfl
theorem qAT {t:T} (h3:t.kind=3) (hc:zb t=0) (he:∀ k∈t.kids,(zw k).2=0):zb (apT t.name (nks t.kids))=0∧∀ k∈nks t.kids,zb k=0:=by
 obtain ⟨g1,g2⟩:=qe7 h3 hc
 have hk:∀ k∈nks t.kids,zb k=0 := λ k hk=>by
  obtain ⟨q,hq,rfl⟩:=List.mem_map.1 hk
  obtain ⟨j,hj,rfl⟩:=List.mem_map.1 hq
  exact qFo j (g2 j hj) (he j hj)
 exact ⟨qg1 (qw6 h3 g1) hk,hk⟩
theorem qDM (t:T):size t≤2000→zb t=0→Ev (λ m _=>zM m t) (zw t):=by
 induction t using T.ind with
 | h t ih =>
   intro hs hc
   have hl:=yF t
   have hz:=qC t
   refine Ev.succ ?_
   simp only [qrL,qbH,qe]
   by_cases h3:t.kind=3
   rotate_left
   ·refine Ev.ct (bnt.2 (qg.2 h3)) (Ev.ret (qg2 h3).symm)
   refine Ev.cf (bnf.2 (qi.2 h3)) ?_
   rw [qAP h3]
   have hck:=(qe7 h3 hc).2
   have key:=qr (P := λ i=>(∀ k∈t.kids.take i,(zw k).2=0)→Ev (λ m k=>Qb m (zM m) k t.kids t.kids.length i t.kind t.name t.sort t.kids 0 [] 0 3 t.name 0 [] (nks (t.kids.take i))) (if erN (t.kids.drop i)≠0 then (zT,erN (t.kids.drop i)) else Jd (apT t.name (nks t.kids)))) t.kids (by omega)
    (λ hlen he=>by
     refine Ev.loop ?_
     simp only [qiC,qbC,qe]
     refine Ev.cf hlen ?_
     rw [List.take_length] at he ⊢
     rw [List.drop_length,if_neg (show ¬ erN []≠0 from λ h=>h rfl)]
     obtain ⟨c1,c2⟩:=qAT h3 hc he
     have s1:=qDj t.kids
     have s2:szL t.kids+1=size t:=by unfold szL;omega
     have hnl:=qoS t.kids
     generalize nks t.kids=ks at *
     have hu:T.mk 3 t.name 0 ks=apT t.name ks:=rfl
     rw [hu]
     have su:size (apT t.name ks)=1+szL ks:=qC _
     have des:isD t.name=true→Ev (λ m _=>qa (JR m (apT t.name ks)) λ v=>some (v,(0:Int))) (Jd (apT t.name ks)) := λ hd=>by
      rw [qyW (show isD (apT t.name ks).name=true from hd)]
      exact Ev.bind (qA4 _ rfl c1 hd (by omega)) (Ev.pure _)
     have prod:t.name=qfO∨t.name=Qx∨t.name=qhm→Ev (λ m _=>qa (JP m (apT t.name ks)) λ v=>cond (qc (ieq v.2 0)) (some (T.mk 0 [] 0 [],v.2)) (qa (jB m v.1) λ w=>some (w.1,w.2))) (Jd (apT t.name ks)) := λ hm=>by
      rw [qyo (show (apT t.name ks).name=qfO∨(apT t.name ks).name=Qx∨(apT t.name ks).name=qhm from hm)]
      unfold qjz
      have h4:=qg0 (apT t.name ks)
      refine Ev.bind (qyt _ (by omega)) (Ev.ite (λ h=>?_) λ h=>?_)
      ·rw [bnt,qg] at h
       rw [if_pos h];exact Ev.pure _
      ·rw [bnf,qi] at h
       rw [if_neg (by omega)]
       exact Ev.bind (qx6 _ (by omega)) (Ev.pure _)
     refine Ev.ite (λ h=>des (by rw [yZ.1 h];decide)) λ h1=>?_
     refine Ev.ite (λ h=>des (by rw [yZ.1 h];decide)) λ h2=>?_
     refine Ev.ite (λ h=>des (by rw [yZ.1 h];decide)) λ h3'=>?_
     refine Ev.ite (λ h=>des (by rw [yZ.1 h];decide)) λ h4=>?_
     refine Ev.ite (λ h=>des (by rw [yZ.1 h];decide)) λ h5=>?_
     refine Ev.ite (λ h=>des (by rw [yZ.1 h];decide)) λ h6=>?_
     refine Ev.ite (λ h=>?_) λ h7=>?_
     ·rw [qxH (show (apT t.name ks).name=qd1 from yZ.1 h)]
      exact Ev.bind (qGr ks (by omega)) (Ev.pure _)
     refine Ev.ite (λ h=>prod (.inl (yZ.1 h))) λ h8=>?_
     refine Ev.ite (λ h=>prod (.inr (.inl (yZ.1 h)))) λ h9=>?_
     refine Ev.ite (λ h=>prod (.inr (.inr (yZ.1 h)))) λ h10=>?_
     refine Ev.ite (λ h=>?_) λ h11=>?_
     ·have hn:t.name=qdX:=yZ.1 h
      rw [qxn (show (apT t.name ks).name=qdX from hn)]
      have isE:isN (apT t.name ks) qdX=true:=yr.2 ⟨rfl,hn⟩
      have q0:=J9 (apT t.name ks) 0
      have q1:=J9 (apT t.name ks) 1
      refine Ev.some (qbq (t:=apT t.name ks) (i:=0) c1 isE (a:=2) (b:=2) (c:=1) (by decide) (by decide)) (Ev.some (qbq (t:=apT t.name ks) (i:=1) c1 isE (a:=2) (b:=2) (c:=1) (by decide) (by decide)) ?_)
      exact Ev.bind (qEd _ _ (J2 Q9 qaJ rfl c1 0) (by omega) (by omega)) (Ev.pure _)
     ·rw [qu8 (t:=apT t.name ks) (show isD t.name=false from by
          rw [← Bool.not_eq_true]
          intro hd
          unfold isD at hd
          simp only [Bool.or_eq_true,beq_iff_eq] at hd
          rcases hd with ((((hn | hn) | hn) | hn) | hn) | hn
          ·exact jn.1 h1 hn
          ·exact jn.1 h2 hn
          ·exact jn.1 h3' hn
          ·exact jn.1 h4 hn
          ·exact jn.1 h5 hn
          ·exact jn.1 h6 hn) (jn.1 h7) (λ h=>by rcases h with h | h | h;exact jn.1 h8 h;exact jn.1 h9 h;exact jn.1 h10 h) (jn.1 h11)]
      exact Ev.pure _)
    (λ i x hx hd hlen hg hi hP he=>by
     refine Ev.loop ?_
     simp only [qiC,qbC,qe]
     have hm:=List.mem_of_getElem? hx
     have hlt:=jf t x hm
     rw [qxt hd]
     refine Ev.ct hlen (Ev.some hg (Ev.bind (ih x hm (by omega) (hck x hm)) (Ev.ite (λ h=>?_) λ h=>?_)))
     ·rw [bnt,qg] at h
      rw [if_pos (show (if (zw x).2≠0 then (zw x).2 else erN (t.kids.drop (i+1)))≠0 from by rw [if_pos h];exact h),if_pos h]
      exact Ev.pure _
     ·rw [bnf,qi] at h
      rw [if_neg (show ¬ (zw x).2≠0 from by omega)]
      have h4:(nks (t.kids.take i)).length≤t.kids.length:=by rw [qoS,List.length_take];omega
      refine Ev.ct (zh (by omega) (by omega)) ?_
      have hP:=hP λ k hk=>by
       rw [zQ hx] at hk
       rcases List.mem_append.1 hk with hk | hk
       ·exact he k hk
       ·rw [List.mem_singleton.1 hk];exact h
      rw [hi]
      refine hP.congr λ m k=>?_
      rw [qxD hx])
   have hk3:=h3
   refine Ev.diag (L := λ m k=>Qb m (zM m) k t.kids t.kids.length 0 t.kind t.name t.sort t.kids 0 [] 0 3 t.name 0 [] []) ?_
   exact (key 0 (Nat.zero_le _)) (λ k hk=>by rw [List.take_zero] at hk;cases hk)
theorem qA9 (t:T):size t≤2000→zb t=0→qd5 t→Ev (λ m _=>ye m t) (zw t):=by
 induction t using T.ind with
 | h t ih =>
   intro hs hc hso
   have hl:=yF t
   have hz:=qC t
   refine Ev.succ ?_
   simp only [qs7,qcs,qe]
   by_cases h3:t.kind=3
   rotate_left
   ·refine Ev.ct (bnt.2 (qg.2 h3)) (Ev.ret (qg2 h3).symm)
   refine Ev.cf (bnf.2 (qi.2 h3)) ?_
   rw [qAP h3]
   have hck:=(qe7 h3 hc).2
   have key:=qr (P := λ i=>(∀ k∈t.kids.take i,(zw k).2=0)→Ev (λ m k=>QD m (ye m) k i t.kind t.name t.sort t.kids 0 [] 0 [] (nks (t.kids.take i))) (if erN (t.kids.drop i)≠0 then (zT,erN (t.kids.drop i)) else Jd (apT t.name (nks t.kids)))) t.kids (by omega)
    (λ hlen he=>by
     refine Ev.loop ?_
     simp only [qj3,qcn,qe]
     refine Ev.cf hlen ?_
     rw [List.take_length] at he ⊢
     rw [List.drop_length,if_neg (show ¬ erN []≠0 from λ h=>h rfl)]
     obtain ⟨c1,c2⟩:=qAT h3 hc he
     have o1:qd5 (apT t.name (nks t.kids)):=qzX _ _ λ k hk=>by
      obtain ⟨q,hq,rfl⟩:=List.mem_map.1 hk
      obtain ⟨j,hj,rfl⟩:=List.mem_map.1 hq
      exact qGY qnO qx8 qzX j (qnO t h3 hso j hj)
     have s1:=qDj t.kids
     have s2:szL t.kids+1=size t:=by unfold szL;omega
     have hnl:=qoS t.kids
     generalize nks t.kids=ks at *
     have su:size (apT t.name ks)=1+szL ks:=qC _
     have prod:t.name=qfO∨t.name=Qx∨t.name=qhm→Ev (λ m _=>qa (qam m (apT t.name ks)) λ w=>some (w.1,w.2)) (Jd (apT t.name ks)) := λ hm=>by
      rw [qyo (show (apT t.name ks).name=qfO∨(apT t.name ks).name=Qx∨(apT t.name ks).name=qhm from hm)]
      have h4:=qg0 (apT t.name ks)
      have:Ev (λ m _=>qam m (apT t.name ks)) (qjz (apT t.name ks)):=by
       refine Ev.succ ?_
       simp only [qsM,qeM,qe]
       unfold qjz
       refine Ev.bind (qyz _ (by omega)) (Ev.ite (λ h=>?_) λ h=>?_)
       ·rw [bnt,qg] at h
        rw [if_pos h];exact Ev.pure _
       ·rw [bnf,qi] at h
        rw [if_neg (by omega)]
        exact Ev.bind (qwA _ (by omega)) (Ev.pure _)
      exact Ev.bind this (Ev.pure _)
     have hksl:=ja ks
     refine Ev.bind (qbl t.name ks (by omega)) (Ev.bind (qtQ t.name) (Ev.ite (λ h=>?_) λ h1=>?_))
     ·have hd:=(qC0 t.name).1 (qi.1 h)
      rw [qyW (show isD (apT t.name ks).name=true from hd)]
      exact Ev.bind (qzy _ rfl c1 o1 hd (by omega)) (Ev.pure _)
     refine Ev.ite (λ h=>?_) λ h7=>?_
     ·rw [qxH (show (apT t.name ks).name=qd1 from yZ.1 h)]
      exact Ev.bind (qGE ks (by omega)) (Ev.pure _)
     refine Ev.ite (λ h=>prod (.inl (yZ.1 h))) λ h8=>?_
     refine Ev.ite (λ h=>prod (.inr (.inl (yZ.1 h)))) λ h9=>?_
     refine Ev.ite (λ h=>prod (.inr (.inr (yZ.1 h)))) λ h10=>?_
     refine Ev.ite (λ h=>?_) λ h11=>?_
     ·have hn:t.name=qdX:=yZ.1 h
      rw [qxn (show (apT t.name ks).name=qdX from hn)]
      have isE:isN (apT t.name ks) qdX=true:=yr.2 ⟨rfl,hn⟩
      have q0:=J9 (apT t.name ks) 0
      have q1:=J9 (apT t.name ks) 1
      refine Ev.some (qbq (t:=apT t.name ks) (i:=0) c1 isE (a:=2) (b:=2) (c:=1) (by decide) (by decide)) (Ev.some (qbq (t:=apT t.name ks) (i:=1) c1 isE (a:=2) (b:=2) (c:=1) (by decide) (by decide)) ?_)
      exact Ev.bind (qE3 _ _ (J2 Q9 qaJ rfl c1 0) (by omega) (by omega)) (Ev.pure _)
     ·rw [qu8 (t:=apT t.name ks) (show isD t.name=false from by
          rw [← Bool.not_eq_true,← qC0]
          exact qg.1 h1) (jn.1 h7) (λ h=>by rcases h with h | h | h;exact jn.1 h8 h;exact jn.1 h9 h;exact jn.1 h10 h) (jn.1 h11)]
      exact Ev.pure _)
    (λ i x hx hd hlen hg hi hP he=>by
     refine Ev.loop ?_
     simp only [qj3,qcn,qe]
     have hm:=List.mem_of_getElem? hx
     have hlt:=jf t x hm
     rw [qxt hd]
     refine Ev.ct hlen (Ev.some hg (Ev.bind (ih x hm (by omega) (hck x hm) (qnO t h3 hso x hm)) (Ev.ite (λ h=>?_) λ h=>?_)))
     ·rw [bnt,qg] at h
      rw [if_pos (show (if (zw x).2≠0 then (zw x).2 else erN (t.kids.drop (i+1)))≠0 from by rw [if_pos h];exact h),if_pos h]
      exact Ev.pure _
     ·rw [bnf,qi] at h
      rw [if_neg (show ¬ (zw x).2≠0 from by omega)]
      have h4:(nks (t.kids.take i)).length≤t.kids.length:=by rw [qoS,List.length_take];omega
      refine Ev.ct (zh (by omega) (by omega)) ?_
      have hP:=hP λ k hk=>by
       rw [zQ hx] at hk
       rcases List.mem_append.1 hk with hk | hk
       ·exact he k hk
       ·rw [List.mem_singleton.1 hk];exact h
      rw [hi]
      refine hP.congr λ m k=>?_
      rw [qxD hx])
   refine Ev.diag (L := λ m k=>QD m (ye m) k 0 t.kind t.name t.sort t.kids 0 [] 0 [] []) ?_
   exact (key 0 (Nat.zero_le _)) (λ k hk=>by rw [List.take_zero] at hk;cases hk)
theorem qlL (t:T):qin t=if qkl t≠0 then (zT,qkl t) else if (zw t).2≠0 then (zT,(zw t).2) else if qA (zw t).1≠0 then (zT,qA (zw t).1) else zw t:=rfl
theorem qB4 (t:T) (hs:size t≤1000000000):Ev (λ m _=>qb6 m t) (qin t):=by
 refine Ev.succ ?_
 simp only [qsq,qeN,qe]
 rw [qlL]
 refine Ev.bind (qGv t hs) (Ev.ite (λ h=>?_) λ h=>?_)
 ·rw [bnt,qg] at h
  rw [if_pos h];exact Ev.pure _
 rw [bnf,qi] at h
 rw [if_neg (by omega)]
 obtain ⟨hv,hc⟩:=quC h
 have hz:=jT hv
 have hn:=qtp t
 refine Ev.bind (qDM t (by omega) hc) (Ev.ite (λ h2=>?_) λ h2=>?_)
 ·rw [qi] at h2
  rw [if_neg (by omega)]
  refine Ev.bind (qaD _ (by omega)) (Ev.ite (λ h3=>?_) λ h3=>?_)
  ·rw [bnt,qg] at h3
   rw [if_pos h3];exact Ev.pure _
  ·rw [bnf,qi] at h3
   rw [if_neg (by omega)]
   exact Ev.ret (by rw [← h2])
 ·rw [qg] at h2
  rw [if_pos h2]
  exact Ev.ct (bnt.2 (qg.2 h2)) (Ev.pure _)
theorem qBW (t:T) (hs:size t≤1000000000):Ev (λ m _=>qdc m t) (qin t):=by
 refine Ev.succ ?_
 simp only [qs0,qfJ,qe]
 rw [qlL]
 refine Ev.bind (qG2 t hs) (Ev.ite (λ h=>?_) λ h=>?_)
 ·rw [bnt,qg] at h
  rw [if_pos h];exact Ev.pure _
 rw [bnf,qi] at h
 rw [if_neg (by omega)]
 obtain ⟨hv,hc⟩:=quC h
 have hz:=jT hv
 have hn:=qtp t
 refine Ev.bind (qA9 t (by omega) hc (qDH t (qzB hv))) (Ev.ite (λ h2=>?_) λ h2=>?_)
 ·rw [bnt,qg] at h2
  rw [if_pos h2];exact Ev.pure _
 rw [bnf,qi] at h2
 rw [if_neg (by omega)]
 refine Ev.bind (qaC _ (by omega)) (Ev.ite (λ h3=>?_) λ h3=>?_)
 ·rw [bnt,qg] at h3
  rw [if_pos h3];exact Ev.pure _
 ·rw [bnf,qi] at h3
  rw [if_neg (by omega)]
  exact Ev.ret (by rw [← h2])
theorem qrj (t:T):size (qin t).1≤400:=by
 rw [qlL]
 have:=qir
 split
 ·show size zT≤_;omega
 ·split
  ·show size zT≤_;omega
  ·split
   ·show size zT≤_;omega
   ·rename_i h
    exact jT (Decidable.of_not_not h)
end Go.AmYtbpnmbmdbblehaaGreat
namespace Go.AmYtbpnmbmdbblehaaGreat
open Go Go.GxYtbpnmbmdbblehaaGreat
def qhc (p:List UInt8→Bool):T→Bool:=T.para λ t rs=>(!(t.kind==3)||p t.name)&&rs.all id
theorem qu0 (p:List UInt8→Bool) (t:T):qhc p t=((!(t.kind==3)||p t.name)&&(t.kids.map (qhc p)).all id):=T.para_eq _ _
def QW:T→List T:=T.para λ t rs=>t::rs.flatten
theorem qk2 (t:T):QW t=t::(t.kids.map QW).flatten:=T.para_eq _ _
theorem qlE (t:T):(QW t).length=size t:=by
 refine T.ind (P := λ t=>(QW t).length=size t) ?_ t
 intro t ih
 rw [qk2,qC,List.length_cons,List.length_flatten,List.map_map]
 have:t.kids.map (List.length ∘ QW)=t.kids.map size:=List.map_congr_left λ k hk=>ih k hk
 rw [this];omega
theorem qGl (t:T):∀ u∈QW t,size u≤size t:=by
 refine T.ind (P := λ t=>∀ u∈QW t,size u≤size t) ?_ t
 intro t ih u hu
 rw [qk2] at hu
 rcases List.mem_cons.1 hu with rfl | hu
 ·exact Nat.le_refl _
 ·obtain ⟨l,hl,hu⟩:=List.mem_flatten.1 hu
  obtain ⟨k,hk,rfl⟩:=List.mem_map.1 hl
  have h1:=ih k hk u hu
  have h2:=jf t k hk
  omega
theorem qBQ (p:List UInt8→Bool) (t:T):(QW t).all (λ u => !(u.kind==3)||p u.name)=qhc p t:=by
 refine T.ind (P := λ t=>(QW t).all (λ u => !(u.kind==3)||p u.name)=qhc p t) ?_ t
 intro t ih
 rw [qk2,qu0,List.all_cons,List.all_flatten]
 congr 1
 rw [List.all_map,List.all_map]
 rw [Bool.eq_iff_iff,List.all_eq_true,List.all_eq_true]
 exact ⟨λ h k hk=>(ih k hk).symm.trans (h k hk),λ h k hk=>(ih k hk).trans (h k hk)⟩
def pPl (n:List UInt8):Bool:=qc (ieq (qG n).2.2 3)
theorem qCQ (n:List UInt8):Ev (λ m _=>qbw m n) (pPl n):=by
 refine Ev.succ ?_
 simp only [qqM,qdU]
 refine Ev.bind (qve n) (Ev.ret ?_)
 unfold pPl
 rw [← qqy]
theorem qDY (t:T):size t≤1000000000→Ev (λ m _=>qI m t) (qhc pPl t):=by
 induction t using T.ind with
 | h t ih =>
   intro hs
   have hl:=yF t
   refine Ev.succ ?_
   simp only [qlc,Jl]
   have key:=qr (P := λ i=>Ev (λ m k=>yh m (qI m) k t.kids t.kids.length i) (((t.kids.drop i).map (qhc pPl)).all id)) t.kids (by omega)
    (λ hc=>by
     refine Ev.loop ?_
     simp only [qeW,Jm]
     refine Ev.cf hc (Ev.ret ?_)
     rw [List.drop_length];rfl)
    (λ i x hx hd hc hg hi hP=>by
     refine Ev.loop ?_
     simp only [qeW,Jm,qe]
     have hm:=List.mem_of_getElem? hx
     have h1:=jf t x hm
     rw [hd,List.map_cons,List.all_cons]
     refine Ev.ct hc (Ev.some hg (Ev.bind (ih x hm (by omega)) (Ev.ite (λ hb=>?_) λ hb=>?_)))
     ·rw [bnt] at hb
      rw [hb];exact Ev.pure _
     ·rw [bnf] at hb
      rw [hb,hi]
      exact hP)
   have main:Ev (λ m _=>yh m (qI m) m t.kids t.kids.length 0) ((t.kids.map (qhc pPl)).all id) :=
    Ev.diag (L := λ m k=>yh m (qI m) k t.kids t.kids.length 0) ((key 0 (Nat.zero_le _)).res (by rw [List.drop_zero]))
   rw [qu0]
   refine Ev.ite (λ h3=>?_) λ h3=>?_
   ·rw [qi] at h3
    have hk:(!(t.kind==3))=false:=by rw [h3];rfl
    rw [hk,Bool.false_or]
    refine Ev.bind (qCQ t.name) (Ev.ite (λ h=>?_) λ h=>?_)
    ·rw [bnt] at h
     rw [h];exact Ev.pure _
    ·rw [bnf] at h
     rw [h];exact main
   ·rw [qg] at h3
    have hk:(!(t.kind==3))=true:=by rw [Bool.not_eq_true',beq_eq_false_iff_ne];exact h3
    rw [hk,Bool.true_or]
    exact main
theorem qzL (t:T):size t≤1000000000→Ev (λ m _=>jk m t) (QW t):=by
 induction t using T.ind with
 | h t ih =>
   intro hs
   have hl:=yF t
   have hln:=qlE t
   refine Ev.succ ?_
   simp only [qzF,qfp,qe]
   rw [qk2] at hln ⊢
   have hpre:∀ i,((t.kids.take i).map QW).flatten.length≤(t.kids.map QW).flatten.length := λ i=>by
    have:=congrArg (λ l=>(l.map QW).flatten.length) (List.take_append_drop i t.kids)
    simp only [List.map_append,List.flatten_append,List.length_append] at this
    omega
   have key:=qr (P := λ i=>Ev (λ m k=>qaS m (jk m) k i t.kind t.name t.sort t.kids (t::((t.kids.take i).map QW).flatten)) (t::(t.kids.map QW).flatten)) t.kids (by omega)
    (λ hc=>by
     refine Ev.loop ?_
     simp only [qn4,qfh]
     refine Ev.cf hc ?_
     rw [List.take_length];exact Ev.pure _)
    (λ i x hx hd hc hg hi hP=>by
     refine Ev.loop ?_
     simp only [qn4,qfh,qe]
     have hm:=List.mem_of_getElem? hx
     have h1:=jf t x hm
     have h2:=hpre (i+1)
     have e:((t.kids.take (i+1)).map QW).flatten=((t.kids.take i).map QW).flatten++QW x:=by
      rw [zQ hx,List.map_append,List.flatten_append];simp
     rw [e,List.length_append] at h2
     rw [e] at hP
     rw [List.length_cons] at hln
     refine Ev.ct hc (Ev.some hg (Ev.bind (ih x hm (by omega)) (Ev.ct (zh (by rw [List.length_cons];omega) (by omega)) ?_)))
     rw [hi]
     exact hP)
   refine Ev.diag (L := λ m k=>qaS m (jk m) k 0 t.kind t.name t.sort t.kids [t]) ?_
   exact key 0 (Nat.zero_le _)
def qiO (t:T):Bool:=decide ((qin t).2=0)&&(yJ (qin t).1 t&&qhc pPl t)
theorem qDI (t:T) (hs:size t≤1000000000):Ev (λ m _=>qcY m t) (qiO t):=by
 have h1:=qrj t
 refine Ev.succ ?_
 simp only [qto,qfG,qe]
 unfold qiO
 refine Ev.bind (qB4 t hs) (Ev.ite (λ h=>?_) λ h=>?_)
 ·rw [qi] at h
  rw [decide_eq_true h,Bool.true_and]
  refine Ev.bind (qlK _ _ (by omega) hs) (Ev.ite (λ h2=>?_) λ h2=>?_)
  ·rw [h2,Bool.true_and]
   exact Ev.bind (qDY t hs) (Ev.pure _)
  ·rw [h2,Bool.false_and];exact Ev.pure _
 ·rw [qg] at h
  rw [decide_eq_false h,Bool.false_and];exact Ev.pure _
theorem qDA (t:T) (hs:size t≤1000000000):Ev (λ m _=>qd8 m t) (qiO t):=by
 have h1:=qrj t
 refine Ev.succ ?_
 simp only [qvk,qdE,qe]
 unfold qiO
 refine Ev.bind (qBW t hs) (Ev.ite (λ h=>?_) λ h=>?_)
 ·rw [bnt,qg] at h
  rw [decide_eq_false h,Bool.false_and];exact Ev.pure _
 rw [bnf,qi] at h
 rw [decide_eq_true h,Bool.true_and,qsm]
 refine Ev.bind (qbD _ _ hs (by omega)) (Ev.ite (λ h2=>?_) λ h2=>?_)
 ·rw [bnt] at h2
  rw [h2,Bool.false_and];exact Ev.pure _
 rw [bnf] at h2
 rw [h2,Bool.true_and,← qBQ]
 refine Ev.bind (qzL t hs) ?_
 have hln:=qlE t
 generalize QW t=l at *
 have key:=qr (P := λ i=>Ev (λ m k=>Jr m k l i) ((l.drop i).all λ u => !(u.kind==3)||pPl u.name)) l (by omega)
  (λ hc=>by
   refine Ev.loop ?_
   simp only [qk3,qdl]
   refine Ev.cf hc (Ev.ret ?_)
   rw [List.drop_length];rfl)
  (λ i x hx hd hc hg hi hP=>by
   refine Ev.loop ?_
   simp only [qk3,qdl]
   rw [hd,List.all_cons]
   refine Ev.ct hc (Ev.some hg (Ev.ite (λ h3=>?_) λ h3=>?_))
   ·rw [qi] at h3
    have hk:(!(x.kind==3))=false:=by rw [h3];rfl
    rw [hk,Bool.false_or]
    refine Ev.some hg (Ev.bind (qtQ x.name) (Ev.ite (λ hk3=>?_) λ hk3=>?_))
    ·have:pPl x.name=false:=by unfold pPl;rw [hk3];rfl
     rw [this];exact Ev.pure _
    ·rw [hi]
     refine hP.res ?_
     have:pPl x.name=true:=by unfold pPl;rw [hk3];rfl
     rw [this];rfl
   ·rw [qg] at h3
    have hk:(!(x.kind==3))=true:=by rw [Bool.not_eq_true',beq_eq_false_iff_ne];exact h3
    rw [hk,Bool.true_or,hi,Bool.true_and]
    exact hP)
 refine Ev.diag (L := λ m k=>Jr m k l 0) ?_
 exact (key 0 (Nat.zero_le _)).res (by rw [List.drop_zero])
end Go.AmYtbpnmbmdbblehaaGreat
namespace Go.AmYtbpnmbmdbblehaaGreat
open Go Go.GxYtbpnmbmdbblehaaGreat Go.Sort Go.Proofs Go.Proofs.YtbpnmbmdbblehaaGreat
def zt (k:Int) (t:T):List T:=(QW t).filter λ x=>decide (x.kind=k)
def qtR (t:T):Bool:=(zt 1 t).isEmpty
theorem quE (k:Int) (t:T):zt k t=(if t.kind=k then [t] else [])++(t.kids.map (zt k)).flatten:=by
 unfold zt
 rw [qk2,List.filter_cons,List.filter_flatten,List.map_map]
 by_cases h:t.kind=k<;>simp [h,Function.comp_def,zt]
theorem qh7 (k:Int) (t:T):(zt k t).length≤size t:=by
 have:=List.length_filter_le (λ x:T=>decide (x.kind=k)) (QW t)
 rw [qlE] at this
 exact this
theorem quQ (k:Int) (t:T):∀ u∈zt k t,size u≤size t := λ u hu=>qGl t u ((List.mem_filter.1 hu).1)
theorem qzN {s:Nat}:∀ {l:List T},(∀ u∈l,size u≤s)→szL l≤l.length*s
 | [],_=>by simp [szL]
 | x::l,h=>by
   have:=qzN λ u hu=>h u (List.mem_cons_of_mem _ hu)
   have h1:=h x (List.mem_cons_self ..)
   rw [qJ,List.length_cons,Nat.succ_mul];omega
theorem qFV (x:T) (k:Int) (l:List T) (hl:l.length≤1000000000):Ev (λ m _=>Qo m x k l) ((k,l++(if x.kind=k then [x] else []),()),()):=by
 refine Ev.succ ?_
 simp only [qki,qai,qe]
 by_cases h:x.kind=k
 ·rw [if_pos h]
  refine Ev.ct (qi.2 h) (Ev.ct (zh (by omega) (by omega)) (Ev.some (a:=T.mk 0 [] 0 []) (by rw [jG];simp) (Ev.ret ?_)))
  rw [qc5]
  simp
 ·rw [if_neg h,List.append_nil]
  exact Ev.cf (qg.2 h) (Ev.pure _)
theorem qGn (t:T) (k:Int):size t≤1000000000→∀ l:List T,l.length+size t≤1000000000→Ev (λ m _=>qZ m t k l) ((k,l++zt k t,()),()):=by
 induction t using T.ind with
 | h t ih =>
   intro hs l hl
   have hkl:=yF t
   refine Ev.succ ?_
   simp only [qmV,JM,qe]
   refine Ev.bind (qFV t k l (by omega)) ?_
   simp only
   obtain ⟨l0,hl0⟩:∃ l0,l0=l++(if t.kind=k then [t] else []):=⟨_,rfl⟩
   rw [← hl0]
   have hfl:=qh7 k t
   rw [quE,List.length_append] at hfl
   have hl0n:l0.length+((t.kids.map (zt k)).flatten).length=l.length+((if t.kind=k then [t] else []).length+((t.kids.map (zt k)).flatten).length):=by rw [hl0,List.length_append];omega
   have hpre:∀ i,((t.kids.take i).map (zt k)).flatten.length≤(t.kids.map (zt k)).flatten.length := λ i=>by
    have:=congrArg (λ l=>(l.map (zt k)).flatten.length) (List.take_append_drop i t.kids)
    simp only [List.map_append,List.flatten_append,List.length_append] at this
    omega
   have hsz:∀ i x,t.kids[i]? = some x→l0.length+((t.kids.take i).map (zt k)).flatten.length+size x≤1000000000 := λ i x hx=>by
    have h1:((t.kids.take i).map (zt k)).flatten.length≤szL (t.kids.take i):=by
     have aux:∀ l:List T,((l.map (zt k)).flatten).length≤szL l:=by
      intro l
      induction l with
      | nil=>simp [szL]
      | cons y l ih'=>rw [List.map_cons,List.flatten_cons,List.length_append,qJ];have:=qh7 k y;omega
     exact aux _
    have h2:=jA hx
    have h3:szL t.kids+1≤size t:=by rw [qC];unfold szL;omega
    have h4:l0.length≤l.length+1:=by rw [hl0,List.length_append];split<;>simp
    omega
   have key:=qr (P := λ i=>Ev (λ m kk=>yX m (qZ m) kk t.kids t.kids.length i k (l0++((t.kids.take i).map (zt k)).flatten)) ((k,l0++(t.kids.map (zt k)).flatten,()),())) t.kids (by omega)
    (λ hc=>by
     refine Ev.loop ?_
     simp only [qfT,JH]
     refine Ev.cf hc ?_
     rw [List.take_length];exact Ev.pure _)
    (λ i x hx hd hc hg hi hP=>by
     refine Ev.loop ?_
     simp only [qfT,JH,qe]
     have hm:=List.mem_of_getElem? hx
     have h1:=jf t x hm
     refine Ev.ct hc (Ev.some hg (Ev.bind (ih x hm (by omega) _ (by rw [List.length_append];exact hsz i x hx)) ?_))
     rw [hi]
     have e:((t.kids.take (i+1)).map (zt k)).flatten=((t.kids.take i).map (zt k)).flatten++zt k x:=by
      rw [zQ hx,List.map_append,List.flatten_append];simp
     rw [e,← List.append_assoc] at hP
     exact hP)
   rw [quE,← List.append_assoc,← hl0]
   refine Ev.diag (L := λ m kk=>yX m (qZ m) kk t.kids t.kids.length 0 k l0) ?_
   have:=key 0 (Nat.zero_le _)
   simpa using this
theorem qGG {F G:T→T→Option Int} {l:List T} (h:∀ x∈l,∀ y∈l,F x y=G x y):Qv F l=Qv G l:=by
 funext i j
 unfold Qv
 cases hx:l[i % l.length]? with
 | none=>rfl
 | some x=>cases hy:l[j % l.length]? with
   | none=>rfl
   | some y=>simp only;rw [h x (List.mem_of_getElem? hx) y (List.mem_of_getElem? hy)]
theorem qva {β : Type} {F:T→T→Option β} {l:List T} (h:∀ x∈l,∀ y∈l,(F x y).isSome=true):qbo F l=true :=
 List.all_eq_true.2 λ x hx=>List.all_eq_true.2 λ y hy=>h x hx y hy
theorem qHp {n:Nat} {lt:Nat→Nat→Bool} (h:SWO lt):qqw n lt=true:=by
 unfold qqw
 refine List.all_eq_true.2 λ i _=>?_
 rw [Bool.and_eq_true]
 refine ⟨by rw [h.irrefl];rfl,List.all_eq_true.2 λ j _=>List.all_eq_true.2 λ k _=>?_⟩
 rw [Bool.and_eq_true]
 constructor
 ·cases h1:lt i j with
  | false=>rfl
  | true=>cases h2:lt j k with
    | false=>rfl
    | true=>rw [h.trans i j k h1 h2];rfl
 ·cases h1:lt i j with
  | true=>rfl
  | false=>cases h2:lt j k with
    | true=>rfl
    | false=>rw [h.ntrans i j k h1 h2];rfl
theorem qI0 (l:List T):SWO (ltOf (Qv (λ x y=>some (qp x y)) l)):=by
 have hlt:∀ i j,ltOf (Qv (λ x y=>some (qp x y)) l) i j=true↔∃ x y,l[i % l.length]? = some x∧l[j % l.length]? = some y∧qp x y=-1 := λ i j=>by
  unfold ltOf Qv
  rw [decide_eq_true_iff]
  cases hx:l[i % l.length]? with
  | none=>simp
  | some x=>cases hy:l[j % l.length]? with
    | none=>simp
    | some y =>
      simp only [Option.getD_some]
      have:=zH.rng x y
      constructor
      ·intro h;exact ⟨x,y,rfl,rfl,by omega⟩
      ·rintro ⟨_,_,h1,h2,h3⟩;cases h1;cases h2;omega
 refine ⟨λ i=>?_,λ i j k h1 h2=>?_,λ i j k h1 h2=>?_⟩
 ·rw [Bool.eq_false_iff]
  intro h
  obtain ⟨x,y,h1,h2,h3⟩:=(hlt _ _).1 h
  rw [h1] at h2;cases h2
  rw [qod] at h3;cases h3
 ·obtain ⟨x,y,a1,a2,a3⟩:=(hlt _ _).1 h1
  obtain ⟨y',z,b1,b2,b3⟩:=(hlt _ _).1 h2
  rw [a2] at b1;cases b1
  exact (hlt _ _).2 ⟨x,z,a1,b2,zH.trans x y z a3 b3⟩
 ·rw [Bool.eq_false_iff] at h1 h2 ⊢
  intro h
  obtain ⟨x,z,a1,a2,a3⟩:=(hlt _ _).1 h
  have hn:0<l.length:=by have:=getElem?_lt a1;omega
  obtain ⟨y,hj⟩:∃ y,l[j % l.length]? = some y:=⟨_,List.getElem?_eq_getElem (Nat.mod_lt _ hn)⟩
  have n1:qp x y≠-1 := λ he=>h1 ((hlt _ _).2 ⟨x,_,a1,hj,he⟩)
  have n2:qp y z≠-1 := λ he=>h2 ((hlt _ _).2 ⟨_,z,hj,a2,he⟩)
  have r1:=zH.rng x y
  have r2:=zH.rng y z
  rcases r1 with r1 | r1 | r1
  ·exact n1 r1
  ·have:=JQ _ _ r1
   rw [← this] at n2;exact n2 a3
  ·rcases r2 with r2 | r2 | r2
   ·exact n2 r2
   ·have:=JQ _ _ r2
    rw [this] at n1;exact n1 a3
   ·have e1:qp y x=-1:=by rw [zH.anti];omega
    have e2:qp z y=-1:=by rw [zH.anti];omega
    have e3:=zH.trans _ _ _ e2 e1
    have e4:=zH.anti x z
    omega
theorem qw2 {β : Type} {F:Nat→T→T→Option β} {g:T→T → β} (l:List T) (h:∀ x∈l,∀ y∈l,Ev (λ m _=>F m x y) (g x y)):∃ B,∀ m,B≤m→∀ x∈l,∀ y∈l,F m x y=some (g x y):=by
 have one:∀ (x:T),(∀ y∈l,Ev (λ m _=>F m x y) (g x y))→∀ r:List T,(∀ y∈r,y∈l)→∃ B,∀ m,B≤m→∀ y∈r,F m x y=some (g x y):=by
  intro x hx r
  induction r with
  | nil=>exact λ _=>⟨0,λ _ _ y hy=>by cases hy⟩
  | cons y r ih =>
    intro hr
    obtain ⟨B,hB⟩:=ih λ z hz=>hr z (List.mem_cons_of_mem _ hz)
    obtain ⟨D,hD⟩:=hx y (hr y (List.mem_cons_self ..))
    refine ⟨max B D,λ m hm z hz=>?_⟩
    rcases List.mem_cons.1 hz with rfl | hz
    ·exact hD m D (by omega) (Nat.le_refl _)
    ·exact hB m (by omega) z hz
 have two:∀ r:List T,(∀ y∈r,y∈l)→∃ B,∀ m,B≤m→∀ x∈r,∀ y∈l,F m x y=some (g x y):=by
  intro r
  induction r with
  | nil=>exact λ _=>⟨0,λ _ _ y hy=>by cases hy⟩
  | cons x r ih =>
    intro hr
    obtain ⟨B,hB⟩:=ih λ z hz=>hr z (List.mem_cons_of_mem _ hz)
    obtain ⟨D,hD⟩:=one x (h x (hr x (List.mem_cons_self ..))) l λ _ h=>h
    refine ⟨max B D,λ m hm z hz=>?_⟩
    rcases List.mem_cons.1 hz with rfl | hz
    ·exact hD m (by omega)
    ·exact hB m (by omega) z hz
 exact two l λ _ h=>h
theorem qwU {α : Type} {l:List α} {ix:List Nat}:∀ x∈pick l ix,x∈l := λ x hx=>by
 unfold pick at hx
 obtain ⟨i,_,h⟩:=List.mem_filterMap.1 hx
 exact List.mem_of_getElem? h
theorem qHg (l:List T) (hl:l.length≤100000) (hs:∀ t∈l,size t≤1000000000):∃ l',Ev (λ m _=>qS m l) l'∧l'.length=l.length∧∀ x∈l',x∈l:=by
 cases hl0:l with
 | nil=>exact ⟨[],Ev.succ (Ev.congr (Ev.pure _) λ m _=>rfl),rfl,λ x h=>h⟩
 | cons x0 r0 =>
   rw [← hl0]
   obtain ⟨B,hB⟩:=qw2 (F := λ m x y=>qs m x y) l λ x hx y hy=>qce x (hs x hx) y (hs y hy)
   have hne:l≠[]:=by rw [hl0];exact List.cons_ne_nil _ _
   have hO:=qI0 l
   obtain ⟨hp,_⟩:=qpj (λ x y=>some (qp x y)) l hO
   have hlt:∀ i∈J6 (λ x y=>some (qp x y)) l,i<l.length := λ i hi=>List.mem_range.1 (hp.mem_iff.1 hi)
   refine ⟨pick l (J6 (λ x y=>some (qp x y)) l),Ev.succ ⟨B,λ m k hm _=>?_⟩,by rw [qmi hlt,hp.length_eq,List.length_range],qwU⟩
   show qS (m+1) l=_
   rw [qbx]
   have hcf:Qv (qs m) l=Qv (λ x y=>some (qp x y)) l:=qGG (hB m hm)
   have hall:qbo (qs m) l=true:=qva λ x hx y hy=>by rw [hB m hm x hx y hy];rfl
   have hix:J6 (qs m) l=J6 (λ x y=>some (qp x y)) l:=by unfold J6;rw [hcf]
   have e:qoF (qs m) l=cond (Nat.ble l.length 100000&&(qbo (qs m) l&&qqw l.length (ltOf (Qv (qs m) l)))) (some (pick l (J6 (qs m) l))) none:=by rw [hl0];rfl
   rw [e,hcf,hall,hix,qHp hO,show Nat.ble l.length 100000=true from Nat.ble_eq_true_of_le hl]
   rfl
theorem qBr (l:List T) (hl:l.length≤100000) (hs:∀ t∈l,size t≤1000000000):∃ l',Ev (λ m _=>qF m l) ((),l',())∧(l'=[]↔l=[])∧l'.length≤l.length∧∀ x∈l',x∈l:=by
 cases hl0:l with
 | nil=>exact ⟨[],Ev.succ (Ev.congr (Ev.pure _) λ m _=>rfl),Iff.rfl,Nat.le_refl _,λ x h=>h⟩
 | cons x0 r0 =>
   rw [← hl0]
   obtain ⟨B,hB⟩:=qw2 (F := λ m x y=>ya m x y) (g := λ x y=>ieq (qp x y) 0) l λ x hx y hy=>by
    refine Ev.succ ?_
    simp only [qqc,qdW,qe]
    exact Ev.bind (qce x (hs x hx) y (hs y hy)) (Ev.pure _)
   have hne:l≠[]:=by rw [hl0];exact List.cons_ne_nil _ _
   have hpos:0<l.length:=List.length_pos_iff.2 hne
   obtain ⟨ef,hef⟩:∃ ef,ef=qiT (λ x y=>some (ieq (qp x y) 0)) l:=⟨_,rfl⟩
   have hlt:∀ i∈zp ef l.length,i<l.length:=qus
   have hlen:(zp ef l.length).length≤l.length:=by
    have:=List.length_filter_le (λ i=>decide (i=0) || !ef i (i-1)) (List.range l.length)
    rw [List.length_range] at this
    exact this
   have h0:0∈zp ef l.length:=List.mem_filter.2 ⟨List.mem_range.2 hpos,by simp⟩
   refine ⟨pick l (zp ef l.length),Ev.succ ⟨B,λ m k hm _=>?_⟩,⟨λ h=>?_,λ h=>absurd h hne⟩,by rw [qmi hlt];exact hlen,qwU⟩
   ·show qF (m+1) l=_
    rw [qaq]
    have hee:qiT (ya m) l=ef:=by
     rw [hef]
     funext i j
     unfold qiT
     cases hx:l[i % l.length]? with
     | none=>rfl
     | some x=>cases hy:l[j % l.length]? with
       | none=>rfl
       | some y=>simp only;rw [hB m hm x (List.mem_of_getElem? hx) y (List.mem_of_getElem? hy)]
    have hall:qbo (ya m) l=true:=qva λ x hx y hy=>by rw [hB m hm x hx y hy];rfl
    have e:qwx (ya m) l=cond (Nat.ble l.length 100000&&qbo (ya m) l) (some (pick l (zp (qiT (ya m) l) l.length))) none:=by rw [hl0];rfl
    unfold qrQ
    rw [e,hall,hee,show Nat.ble l.length 100000=true from Nat.ble_eq_true_of_le hl]
    rfl
   ·have:=qmi hlt
    rw [h] at this
    have h1:=List.length_pos_of_mem h0
    simp at this
    omega
theorem qBN (l:List T) (hl:l.length≤100000) (hs:∀ t∈l,size t≤1000000000):∃ l',Ev (λ m _=>qdi m l) ((),l',())∧(l'=[]↔l=[]):=by
 obtain ⟨l1,e1,n1,m1⟩:=qHg l hl hs
 obtain ⟨l2,e2,n2,n3,m2⟩:=qBr l1 (by omega) λ t ht=>hs t (m1 t ht)
 refine ⟨l2,?_,n2.trans ⟨λ h=>List.eq_nil_of_length_eq_zero (by rw [← n1,h];rfl),λ h=>List.eq_nil_of_length_eq_zero (by rw [n1,h];rfl)⟩⟩
 refine Ev.succ ?_
 simp only [qtE,qcC]
 refine Ev.bind e1 (Ev.ct (by rw [n1,Nat.beq_refl]) (Ev.bind e2 ?_))
 have key:=qr (P := λ i=>Ev (λ m k=>QT m k l2.length i l2) ((),l2,())) l2 (by omega)
  (λ hc=>by
   refine Ev.loop ?_
   simp only [qjt,qcx]
   exact Ev.cf hc (Ev.pure _))
  (λ i x hx hd hc hg hi hP=>by
   refine Ev.loop ?_
   simp only [qjt,qcx,qe]
   refine Ev.ct hc (Ev.some hg (Ev.bind (qlC x (hs x (m1 x (m2 x (List.mem_of_getElem? hx))))) (Ev.some hg ?_)))
   rw [hi]
   have e:jK l2 (i:Int) x=l2:=by
    rw [qc5]
    apply List.ext_getElem?
    intro j
    by_cases hj:i=j
    ·subst hj;rw [List.getElem?_set_self (getElem?_lt hx)];exact hx.symm
    ·rw [List.getElem?_set_ne hj]
   rw [e]
   exact hP)
 exact Ev.diag (L := λ m k=>QT m k l2.length 0 l2) (key 0 (Nat.zero_le _))
theorem qG0 (t:T) (hs:size t≤100000):∃ l,Ev (λ m _=>qhb m t) l∧(l=[]↔zt 1 t=[]):=by
 obtain ⟨l,h1,h2⟩:=qBN (zt 1 t) (Nat.le_trans (qh7 1 t) hs) λ u hu=>by have:=quQ 1 t u hu;omega
 refine ⟨l,?_,h2⟩
 refine Ev.succ ?_
 simp only [qzb,qiR,qe]
 refine Ev.bind (a:=l) (Ev.succ ?_) (Ev.pure _)
 simp only [qvF,qgf,qe]
 have hw:=qGn t 1 (by omega) [] (by rw [List.length_nil];omega)
 rw [List.nil_append] at hw
 exact Ev.bind hw (Ev.bind h1 (Ev.ret rfl))
def qec (t:T):Bool:=qiO t&&qtR t
theorem qr8 (t:T) (hs:size t≤100000):Ev (λ m _=>jE m t) (qec t):=by
 obtain ⟨l,h1,h2⟩:=qG0 t hs
 refine Ev.succ ?_
 simp only [qsa,qeG,qe]
 refine Ev.bind (qDI t (by omega)) ?_
 unfold qec qtR
 cases qiO t with
 | false=>exact Ev.cf rfl (Ev.pure _)
 | true =>
   refine Ev.ct rfl (Ev.bind h1 (Ev.ret ?_))
   rw [Bool.true_and]
   by_cases h:zt 1 t=[]
   ·rw [h,h2.2 h];rfl
   ·have hl:l≠[] := λ hl=>h (h2.1 hl)
    have hp:0<l.length:=List.length_pos_iff.2 hl
    rw [qg.2 (by omega)]
    cases hk:zt 1 t with
    | nil=>exact absurd hk h
    | cons x r=>rfl
theorem qzT (l:List T) (t:T):Qa l t≠[]:=by
 cases l with
 | nil=>simp [Qa]
 | cons x l =>
   unfold Qa
   repeat' split
   all_goals exact List.cons_ne_nil _ _
theorem qIh (l:List T) (hs:szL l≤1000000000):Ev (λ m _=>qhd m l) (l.foldl Qa []):=by
 have hll:=ja l
 refine Ev.succ ?_
 simp only [qzr,qfQ]
 have fs:∀ (l acc:List T),szL (l.foldl Qa acc)≤szL acc+szL l:=by
  intro l
  induction l with
  | nil=>intro acc;simp [szL]
  | cons x l ih=>intro acc;rw [List.foldl_cons,qJ];have:=ih (Qa acc x);have:=qtn x acc;omega
 have key:=qr (P := λ i=>Ev (λ m k=>qaY m k l ((l.take i).foldl Qa []) i) (l.foldl Qa [])) l (by omega)
  (λ hc=>by
   refine Ev.loop ?_
   simp only [qm5,qfq]
   refine Ev.cf hc ?_
   rw [List.take_length];exact Ev.pure _)
  (λ i x hx hd hc hg hi hP=>by
   refine Ev.loop ?_
   simp only [qm5,qfq,qe]
   have h1:=fs (l.take i) []
   have h2:=jA hx
   have h0:szL ([]:List T)=0:=rfl
   refine Ev.ct hc (Ev.some hg (Ev.bind (qDT _ x (by omega)) ?_))
   rw [hi,qpW]
   rw [zQ hx,List.foldl_append] at hP
   exact hP)
 exact Ev.diag (L := λ m k=>qaY m k l [] 0) (key 0 (Nat.zero_le _))
theorem qDl (l:List T):l.foldl Qa []=[]↔l=[]:=by
 constructor
 ·intro h
  cases hl:l with
  | nil=>rfl
  | cons x r =>
    exfalso
    have ne:∀ (r acc:List T),acc≠[]→r.foldl Qa acc≠[]:=by
     intro r
     induction r with
     | nil=>intro acc h;exact h
     | cons y r ih=>intro acc _;exact ih _ (qzT _ _)
    rw [hl,List.foldl_cons] at h
    exact ne r _ (qzT _ _) h
 ·intro h;rw [h];rfl
theorem qFH (t:T) (k:Int) (hs:size t≤10000):Ev (λ m _=>qfA m t k) ((zt k t).foldl Qa []):=by
 refine Ev.succ ?_
 simp only [qxO,qeA,qe]
 refine Ev.bind (qzL t (by omega)) ?_
 have hlen:=qlE t
 have hksz:szL (zt k t)≤1000000000:=by
  have h1:=qzN (quQ k t)
  have h2:(zt k t).length*size t≤10000*10000:=Nat.mul_le_mul (Nat.le_trans (qh7 k t) hs) hs
  omega
 have key:=qr (P := λ i=>Ev (λ m kk=>J5 m kk k (QW t) i (((QW t).take i).filter λ x=>decide (x.kind=k))) ((zt k t).foldl Qa [])) (QW t) (by omega)
  (λ hc=>by
   refine Ev.loop ?_
   simp only [qmq,qeq]
   refine Ev.cf hc ?_
   rw [List.take_length]
   exact Ev.bind (qIh (zt k t) hksz) (Ev.pure _))
  (λ i x hx hd hc hg hi hP=>by
   refine Ev.loop ?_
   simp only [qmq,qeq,qe]
   have h3:=List.length_filter_le (λ x:T=>decide (x.kind=k)) ((QW t).take i)
   have h4:=List.length_take_le' i (QW t)
   rw [zQ hx,List.filter_append] at hP
   refine Ev.ct hc (Ev.some hg ?_)
   by_cases hk:x.kind=k
   ·refine Ev.ct (qi.2 hk) (Ev.some hg (Ev.ct (zh (by omega) (by omega)) ?_))
    rw [hi]
    simpa [hk] using hP
   ·refine Ev.cf (qg.2 hk) ?_
    rw [hi]
    simpa [hk] using hP)
 exact Ev.diag (L := λ m kk=>J5 m kk k (QW t) 0 []) (key 0 (Nat.zero_le _))
theorem qrs (t:T) (hs:size t≤10000):Ev (λ m _=>Qf m t) (qec t):=by
 refine Ev.succ ?_
 simp only [qtN,qfa,qe]
 refine Ev.bind (qDA t (by omega)) ?_
 unfold qec qtR
 cases qiO t with
 | false=>exact Ev.cf rfl (Ev.pure _)
 | true =>
   have hv:Ev (λ m _=>qfN m t) ((zt 1 t).foldl Qa []):=by
    refine Ev.succ ?_
    simp only [qw8,qhs,qe]
    exact Ev.bind (qFH t 1 hs) (Ev.pure _)
   have hg:Ev (λ m _=>qcL m t) (zt 1 t).isEmpty:=by
    refine Ev.succ ?_
    simp only [qtf,qf0,qe]
    refine Ev.bind hv (Ev.ret ?_)
    by_cases h:zt 1 t=[]
    ·rw [h];rfl
    ·have hl:(zt 1 t).foldl Qa []≠[] := λ hl=>h ((qDl _).1 hl)
     have hp:0<((zt 1 t).foldl Qa []).length:=List.length_pos_iff.2 hl
     rw [qg.2 (by omega)]
     cases hk:zt 1 t with
     | nil=>exact absurd hk h
     | cons x r=>rfl
   rw [Bool.true_and]
   exact Ev.ct rfl (Ev.bind hg (Ev.pure _))
end Go.AmYtbpnmbmdbblehaaGreat
namespace Go.AmYtbpnmbmdbblehaaGreat
theorem qC2 (n:Nat):qaK (n+3000)=some true:=by kernel_rfl
end Go.AmYtbpnmbmdbblehaaGreat
namespace Go.AmYtbpnmbmdbblehaaGreat
open Go Go.GxYtbpnmbmdbblehaaGreat
abbrev Rt:=T × (Int × (List (Int × T) × Int))
theorem qm9 (t:T):T.mk t.kind t.name t.sort t.kids=t:=qe t
theorem qsH:Ev (λ m _=>qaK m) true:=⟨3000,λ m k hm _=>by
 obtain ⟨n,rfl⟩:∃ n,m=n+3000:=⟨m-3000,by omega⟩
 exact qC2 n⟩
theorem qsn (t:T) (hs:size t≤1000000000):Ev (λ m _=>yE m t) t:=by
 have hA:Ev (λ m _=>qkz m t []) (t,0):=by
  refine Ev.succ ?_
  simp only [qDS,qh4]
  refine Ev.diag (L := λ m k=>qe3 m k [] (([]:List Int).length) 0 t.kind t.name t.sort t.kids 0 [] 0 []) (Ev.loop ?_)
  simp only [qBA,qlN,qm9,qe]
  exact Ev.cf rfl (Ev.bind (qlC t hs) (Ev.pure _))
 refine Ev.succ ?_
 simp only [qqH,qd3,qe]
 exact Ev.bind hA (Ev.pure _)
def nHa:List UInt8:=[104,97,115,104]
def nPa:List UInt8:=[112,97,105,114]
def nCh:List UInt8:=[99,104,97,105,110]
def nMs:List UInt8:=[109,101,115,115,97,103,101]
def qsS (s:List UInt8):T := .mk 2 s 5 []
def qow (c w:T):T := .mk 3 nHa 0 [.mk 3 nPa 0 [c,w]]
def qfg (c:T):T:=qow c (qsS nCh)
def qgU (c:T):T:=qow c (qsS nMs)
theorem ql7 (s:List UInt8):size (qsS s)=1:=by rw [qC];rfl
theorem qst (c w:T):size (qow c w)=size c+size w+2:=by
 unfold qow
 rw [qC]
 show 1+([T.mk 3 nPa 0 [c,w]].map size).sum=_
 rw [List.map_cons,List.map_nil,List.sum_cons,List.sum_nil,qC]
 show 1+(1+([c,w].map size).sum+0)=_
 simp only [List.map_cons,List.map_nil,List.sum_cons,List.sum_nil]
 omega
theorem qg5 (c:T):size (qfg c)=size c+3:=by unfold qfg;rw [qst,ql7]
theorem qqd (c:T):size (qgU c)=size c+3:=by unfold qgU;rw [qst,ql7]
theorem qsl (c w:T) (h1:size c≤1000000000) (h2:size w≤1000000000):Ev (λ m _=>Jj m c w) (qow c w):=by
 refine Ev.succ ?_
 simp only [qpa,qcM,qe]
 exact Ev.bind (qsn c h1) (Ev.bind (qsn w h2) (Ev.pure _))
theorem qDw (s:List UInt8):Ev (λ m _=>qeb m s) (qsS s):=Ev.succ (Ev.pure _)
theorem qGu (c:T) (h:size c≤1000000000):Ev (λ m _=>qbj m c) (qfg c):=by
 refine Ev.succ ?_
 simp only [qs2,qfX,qe]
 exact Ev.bind (qDw _) (Ev.bind (qsl c _ h (by rw [ql7];omega)) (Ev.pure _))
theorem qIc (c:T) (h:size c≤1000000000):Ev (λ m _=>qca m c) (qgU c):=by
 refine Ev.succ ?_
 simp only [qwm,qgw,qe]
 exact Ev.bind (qDw _) (Ev.bind (qsl c _ h (by rw [ql7];omega)) (Ev.pure _))
theorem qpq (c:T) (s:List UInt8):Ev (λ m _=>qao m c s) (qow c (qsS s)):=by
 refine Ev.succ ?_
 simp only [qsj,qeH,qe]
 refine Ev.bind (a:=qsS s) (Ev.succ (Ev.pure _)) (Ev.bind (qbl _ _ (by simp)) (Ev.bind (qbl _ _ (by simp)) (Ev.ret rfl)))
theorem qEQ (c:T):Ev (λ m _=>qdq m c) (qfg c):=by
 refine Ev.succ ?_
 simp only [qxc,qhB,qe]
 exact Ev.bind (qpq c _) (Ev.ret rfl)
theorem qGo (c:T):Ev (λ m _=>qe5 m c) (qgU c):=by
 refine Ev.succ ?_
 simp only [qy9,qiQ,qe]
 exact Ev.bind (qpq c _) (Ev.ret rfl)
theorem qAN (t:T) (h:size t≤1000000000):Ev (λ m _=>qav m t) (!decide (qA t=0)):=by
 refine Ev.succ ?_
 simp only [qxw,qhv,qe]
 refine Ev.bind (qaC t h) (Ev.ret ?_)
 by_cases h0:qA t=0
 ·rw [qi.2 h0,decide_eq_true h0];rfl
 ·rw [qg.2 h0,decide_eq_false h0];rfl
def t00:T := .mk 0 [] 0 []
def qjc:Nat→T→T × Int
 | 0,c=>if qA (qgU c)=0 then (qgU c,0) else (t00,3)
 | n+1,c=>if qA (qfg c)=0 then qjc n (qfg c) else (t00,3)
theorem qu5:∀ (n:Nat) (c:T),size (qjc n c).1≤size c+3*n+3
 | 0,c=>by
   unfold qjc;split
   ·rw [qqd];omega
   ·show size t00≤_;rw [show size t00=1 by rw [qC];rfl];omega
 | n+1,c=>by
   have:=qu5 n (qfg c)
   rw [qg5] at this
   unfold qjc;split
   ·omega
   ·show size t00≤_;rw [show size t00=1 by rw [qC];rfl];omega
def qtS (t:T) (i:Int):T × Int:=if qec t=false then (t00,10) else if i<0 then (t00,7) else if 1000≤i then (t00,7) else qjc i.toNat t
theorem qG6 (t:T) (i:Int) (hs:size t≤10000):Ev (λ m _=>qaR m t i) (qtS t i):=by
 refine Ev.succ ?_
 simp only [qvP,qdm,qe]
 refine Ev.bind (qr8 t (by omega)) ?_
 unfold qtS
 cases hb:qec t with
 | false=>exact Ev.ct rfl (Ev.pure _)
 | true =>
   rw [if_neg (by decide)]
   refine Ev.cf rfl ?_
   by_cases h1:i<0
   ·rw [if_pos h1];exact Ev.ct (qv.2 h1) (Ev.pure _)
   rw [if_neg h1]
   refine Ev.cf (qu.2 (by omega)) ?_
   by_cases h2:1000≤i
   ·rw [if_pos h2];exact Ev.ct (qgP.2 h2) (Ev.pure _)
   rw [if_neg h2]
   refine Ev.cf (qik.2 (by omega)) (Ev.bind (qsn t (by omega)) ?_)
   obtain ⟨n,rfl⟩:=Int.eq_ofNat_of_zero_le (by omega:0≤i)
   rw [Int.toNat_natCast]
   have key:∀ (d j:Nat) (c:T),n=j+d→size c+3*d≤100000→Ev (λ m k=>Jo m k n j 0 [] 0 c.kind c.name c.sort c.kids []) (qjc d c):=by
    intro d
    induction d with
    | zero =>
      intro j c hn hc
      refine Ev.loop ?_
      simp only [qkL,qdr,qm9,qe]
      refine Ev.cf (qu.2 (by omega)) (Ev.bind (qIc c (by omega)) (Ev.bind (qaD _ (by rw [qqd];omega)) ?_))
      unfold qjc
      by_cases h0:qA (qgU c)=0
      ·rw [if_pos h0,h0];exact Ev.cf rfl (Ev.pure _)
      ·rw [if_neg h0];exact Ev.ct (by rw [qg.2 h0];rfl) (Ev.pure _)
    | succ d ih =>
      intro j c hn hc
      refine Ev.loop ?_
      simp only [qkL,qdr,qm9,qe]
      refine Ev.ct (qv.2 (by omega)) (Ev.bind (qGu c (by omega)) (Ev.bind (qaD _ (by rw [qg5];omega)) ?_))
      unfold qjc
      by_cases h0:qA (qfg c)=0
      ·rw [if_pos h0,h0]
       refine Ev.cf rfl ?_
       rw [show qj (j:Int) 1=((j+1:Nat):Int) by unfold qj;omega,Qn (by omega)]
       exact ih (j+1) (qfg c) (by omega) (by rw [qg5];omega)
      ·rw [if_neg h0];exact Ev.ct (by rw [qg.2 h0];rfl) (Ev.pure _)
   exact Ev.diag (L := λ m k=>Jo m k n 0 0 [] 0 t.kind t.name t.sort t.kids []) (key n 0 t (by omega) (by omega))
theorem qGQ (t:T) (i:Int) (hs:size t≤10000):Ev (λ m _=>qgY m t i) (qtS t i):=by
 refine Ev.succ ?_
 simp only [qzi,qfM,qe]
 refine Ev.bind (qrs t hs) ?_
 unfold qtS
 cases hb:qec t with
 | false=>exact Ev.ct rfl (Ev.pure _)
 | true =>
   rw [if_neg (by decide)]
   refine Ev.cf rfl ?_
   by_cases h1:i<0
   ·rw [if_pos h1];exact Ev.ct (qv.2 h1) (Ev.pure _)
   rw [if_neg h1]
   refine Ev.cf (qu.2 (by omega)) ?_
   by_cases h2:1000≤i
   ·rw [if_pos h2];exact Ev.ct (qgP.2 h2) (Ev.pure _)
   rw [if_neg h2]
   refine Ev.cf (qik.2 (by omega)) ?_
   obtain ⟨n,rfl⟩:=Int.eq_ofNat_of_zero_le (by omega:0≤i)
   rw [Int.toNat_natCast]
   have key:∀ (d:Nat) (c:T),d≤1000→size c+3*d≤100000→Ev (λ m k=>qaQ m k d c.kind c.name c.sort c.kids 0 [] 0 []) (qjc d c):=by
    intro d
    induction d with
    | zero =>
      intro c hd hc
      refine Ev.loop ?_
      simp only [qn8,qfP,qm9,qe]
      refine Ev.cf (qu.2 (by omega)) (Ev.bind (qGo c) (Ev.bind (qAN _ (by rw [qqd];omega)) ?_))
      unfold qjc
      by_cases h0:qA (qgU c)=0
      ·rw [if_pos h0,decide_eq_true h0];exact Ev.cf rfl (Ev.pure _)
      ·rw [if_neg h0,decide_eq_false h0];exact Ev.ct rfl (Ev.pure _)
    | succ d ih =>
      intro c hd hc
      refine Ev.loop ?_
      simp only [qn8,qfP,qm9,qe]
      refine Ev.ct (qv.2 (by omega)) (Ev.bind (qEQ c) (Ev.bind (qAN _ (by rw [qg5];omega)) ?_))
      unfold qjc
      by_cases h0:qA (qfg c)=0
      ·rw [if_pos h0,decide_eq_true h0]
       refine Ev.cf rfl ?_
       rw [show jM ((d+1:Nat):Int) 1=(d:Int) by unfold jM;omega,Qn (by omega)]
       exact ih (qfg c) (by omega) (by rw [qg5];omega)
      ·rw [if_neg h0,decide_eq_false h0];exact Ev.ct rfl (Ev.pure _)
   exact Ev.diag (L := λ m k=>qaQ m k n t.kind t.name t.sort t.kids 0 [] 0 []) (key n t (by omega) (by omega))
def qnl (t:T):Rt × Int:=if qec t=false then ((t00,(0,([],0))),10) else ((t,(0,([],4))),0)
theorem qGT (t:T) (hs:size t≤10000):Ev (λ m _=>qcd m t) (qnl t):=by
 refine Ev.succ ?_
 simp only [qwe,qgD,qe]
 refine Ev.bind (qr8 t (by omega)) ?_
 unfold qnl
 cases hb:qec t with
 | false=>exact Ev.ct rfl (Ev.pure _)
 | true =>
   rw [if_neg (by decide)]
   exact Ev.cf rfl (Ev.bind (qsn t (by omega)) (Ev.pure _))
theorem qGt (t:T) (hs:size t≤10000):Ev (λ m _=>qeZ m t) (qnl t):=by
 refine Ev.succ ?_
 simp only [qzw,qji,qe]
 refine Ev.bind (qrs t hs) ?_
 unfold qnl
 cases hb:qec t with
 | false=>exact Ev.ct rfl (Ev.pure _)
 | true =>
   rw [if_neg (by decide)]
   exact Ev.cf rfl (Ev.pure _)
theorem qDh (r:Rt) (hl:r.2.2.1.length<2 ^ 62) (h0:size r.1≤1000000000) (h1:∀ s∈r.2.2.1,size s.2≤1000000000):Ev (λ m _=>qfL m r r) true:=by
 obtain ⟨c,n,l,w⟩:=r
 refine Ev.succ ?_
 simp only [qyZ,qey,qe]
 have eq0:∀ x:Int,qc (ieq x x)=false := λ x=>bnf.2 (qi.2 rfl)
 refine Ev.cf (eq0 _) (Ev.cf (eq0 _) (Ev.cf (eq0 _) (Ev.bind (qbD c c h0 h0) (Ev.cf (bnf.2 (Jf.2 rfl)) ?_))))
 have key:=qr (P := λ i=>Ev (λ m k=>JY m k i c.kind c.name c.sort c.kids n l w c.kind c.name c.sort c.kids n l w) true) l hl
  (λ hc=>by
   refine Ev.loop ?_
   simp only [qmF,qen]
   exact Ev.cf hc (Ev.pure _))
  (λ i x hx hd hc hg hi hP=>by
   refine Ev.loop ?_
   simp only [qmF,qen,qe]
   have h2:=h1 x (List.mem_of_getElem? hx)
   refine Ev.ct hc (Ev.some hg (Ev.some hg (Ev.cf (eq0 _) (Ev.some hg (Ev.some hg (Ev.bind (qbD _ _ h2 h2) (Ev.cf (bnf.2 (Jf.2 rfl)) ?_)))))))
   rw [hi]
   exact hP)
 exact Ev.diag (L := λ m k=>JY m k 0 c.kind c.name c.sort c.kids n l w c.kind c.name c.sort c.kids n l w) (key 0 (Nat.zero_le _))
theorem ratchetNew_ev (t:T) (i:Int) (hf:qpX t) (_:IntKind.i64.min≤i∧i≤IntKind.i64.max):Ev (λ m _=>law53_RatchetNew m t i) true:=by
 refine Ev.succ ?_
 simp only [qoj,qcg,qe]
 have hj:Ev (λ m _=>qa (qaK m) λ v2=>some v2) true:=Ev.bind qsH (Ev.pure _)
 refine Ev.bind qsH (Ev.cf rfl (Ev.bind (qHG [t] (by simp) (λ x hx=>by rw [List.mem_singleton.1 hx];exact hf) 1 100 (by omega) (by omega)) ?_))
 cases hb:(decide ([t].length≤1)&&qnS [t] 100) with
 | false=>exact Ev.ct rfl hj
 | true =>
   rw [Bool.and_eq_true] at hb
   have hs:size t≤100:=by have:=qFP (by omega) hb.2 t (List.mem_singleton.2 rfl);omega
   refine Ev.cf rfl (Ev.bind (qGT t (by omega)) (Ev.bind (qGt t (by omega)) (Ev.bind (qG6 t i (by omega)) (Ev.bind (qGQ t i (by omega)) ?_))))
   have hks:size (qtS t i).1≤10000:=by
    have h0:size t00=1:=by rw [qC];rfl
    unfold qtS
    split
    ·show size t00≤_;omega
    split
    ·show size t00≤_;omega
    split
    ·show size t00≤_;omega
    ·have:=qu5 i.toNat t;omega
   have hns:size (qnl t).1.1≤10000∧(qnl t).1.2.2.1=[]:=by
    have h0:size t00=1:=by rw [qC];rfl
    unfold qnl
    split
    ·exact ⟨by show size t00≤_;omega,rfl⟩
    ·exact ⟨by show size t≤_;omega,rfl⟩
   refine Ev.ct (qi.2 rfl) (Ev.bind (qDh (qnl t).1 (by rw [hns.2];decide) (by omega) (by rw [hns.2];intro s hs;cases hs)) (Ev.ct rfl (Ev.ct (qi.2 rfl) (Ev.bind (qbD _ _ (by omega) (by omega)) ?_))))
   exact Ev.ret (Jf.2 rfl)
end Go.AmYtbpnmbmdbblehaaGreat
namespace Go.AmYtbpnmbmdbblehaaGreat
open Go Go.GxYtbpnmbmdbblehaaGreat
set_option linter.unusedVariables false
set_option maxRecDepth 100000
open Go.Proofs.Tryz (f3 f10 f11 f12 f13 f14 f15 f16 f17 f19 f21 f22 f23 f25 f35 f38 f39 f40 f41 f42 f43 f44 f45 f46 f47 f48 f49 f50 f51 f54 f62 f64 f65 f66 f67 f68 f69 f70 f71 f72 f73 f74 f75 f76 f77 f78 f79 f81 f85 f86 f87 f88 f89 f90 f91 f92 f93 f94 f95 f96 f97 f98 f99 f100 f101 f102 f103 f104 f120 f121 f122 f123 f124 f125 f127 f128 f129 f130 f131 f132 f133 f134 f143 f146 f147 f148 f149 f150 f151 f152 f156 f157 f158 f159 f160 f161 f163 f164 f167 f168 f169 f172 f173 f174 f175 f176 f177 f178 f179 f180 f181 f182 f183 f184 f185 f188 f189 f190 f191 f192 f193 f195 f197 f198 f199 f202 f203 f214 f215 f219 f220 f223 f224 f235)
def i3:FI:=⟨f3,[.val .term,.val (.int .i64)],[.bool],[],[],λ m x=>law53_RatchetNew m x.1 x.2.1⟩
def i10:FI:=⟨f10,[],[.bool],[],[],λ m x=>qaK m⟩
def i11:FI:=⟨f11,[.val (.list .term),.val (.int .i64),.val (.int .i64)],[.bool],[(4,[(0,.list .term),(2,.keep),(7,.keep)])],[],λ m x=>qhg m x.1 x.2.1 x.2.2.1⟩
def i12:FI:=⟨f12,[.val .term],[(.pair .term (.pair (.int .i64) (.pair (.list (.pair (.int .i64) .term)) (.int .i64)))),(.int .i64)],[],[],λ m x=>qcd m x.1⟩
def i13:FI:=⟨f13,[.val .term],[(.pair .term (.pair (.int .i64) (.pair (.list (.pair (.int .i64) .term)) (.int .i64)))),(.int .i64)],[],[],λ m x=>qeZ m x.1⟩
def i14:FI:=⟨f14,[.val .term,.val (.int .i64)],[.term,(.int .i64)],[(7,[(4,.box [.keep,.keep,.keep,.row .term false]),(6,.box [.keep,.keep,.keep,.list .term]),(21,.keep),(22,.keep)])],[],λ m x=>qaR m x.1 x.2.1⟩
def i15:FI:=⟨f15,[.val .term,.val (.int .i64)],[.term,(.int .i64)],[(5,[(1,.keep),(2,.box [.keep,.keep,.keep,.list .term]),(4,.box [.keep,.keep,.keep,.row .term false])])],[],λ m x=>qgY m x.1 x.2.1⟩
def i16:FI:=⟨f16,[.val (.pair .term (.pair (.int .i64) (.pair (.list (.pair (.int .i64) .term)) (.int .i64)))),.val (.pair .term (.pair (.int .i64) (.pair (.list (.pair (.int .i64) .term)) (.int .i64))))],[.bool],[(4,[(2,.box [.keep,.keep,.keep,.list .term,.keep,.list (.pair (.int .i64) .term),.keep]),(3,.box [.keep,.keep,.keep,.list .term,.keep,.list (.pair (.int .i64) .term),.keep]),(5,.keep)])],[],λ m x=>qfL m x.1 x.2.1⟩
def i17:FI:=⟨f17,[.val .term,.val .term],[.bool],[],[],λ m x=>yR m x.1 x.2.1⟩
def i19:FI:=⟨f19,[.val (.pair .term (.pair (.int .i64) (.pair (.list (.pair (.int .i64) .term)) (.int .i64)))),.val (.pair (.int .i64) .term)],[(.pair .term (.pair (.int .i64) (.pair (.list (.pair (.int .i64) .term)) (.int .i64)))),.term,(.int .i64)],[(17,[(3,.box [.keep,.keep,.keep,.keep,.list .term]),(4,.box [.keep,.keep,.keep,.row .term false,.keep,.row (.pair (.int .i64) .term) false,.keep]),(5,.box [.keep,.keep,.keep,.row .term false]),(7,.box [.keep,.keep,.keep,.list .term,.keep,.row (.pair (.int .i64) .term) false,.keep])])],[],λ m x=>qaE m x.1 x.2.1⟩
def i21:FI:=⟨f21,[.val (.pair .term (.pair (.int .i64) (.pair (.list (.pair (.int .i64) .term)) (.int .i64))))],[(.int .i64)],[(5,[(1,.box [.keep,.keep,.keep,.list .term,.keep,.list (.pair (.int .i64) .term),.keep]),(3,.keep),(39,.list (.pair (.int .i64) .term)),(40,.keep),(41,.keep)])],[],λ m x=>qhr m x.1⟩
def i22:FI:=⟨f22,[],[.term],[],[],λ m x=>qdC m⟩
def i23:FI:=⟨f23,[.val .str,.val (.int .i64)],[.term],[],[],λ m x=>qfu m x.1 x.2.1⟩
def i25:FI:=⟨f25,[.val (.pair .term (.pair (.int .i64) (.pair (.list (.pair (.int .i64) .term)) (.int .i64))))],[(.int .i64)],[(5,[(1,.box [.keep,.keep,.keep,.list .term,.keep,.list (.pair (.int .i64) .term),.keep]),(3,.keep),(4,.keep)])],[],λ m x=>qj8 m x.1⟩
def i35:FI:=⟨f35,[.val (.pair .term (.pair (.int .i64) (.pair (.list (.pair (.int .i64) .term)) (.int .i64)))),.val .term],[(.pair .term (.pair (.int .i64) (.pair (.list (.pair (.int .i64) .term)) (.int .i64)))),(.pair (.int .i64) .term),(.int .i64)],[],[],λ m x=>qlj m x.1 x.2.1⟩
def i38:FI:=⟨f38,[.val .str],[.term,(.int .i64)],[],[],λ m x=>qgK m x.1⟩
def i39:FI:=⟨f39,[.val (.int .i64)],[(.list (.pair (.int .i64) .term))],[(4,[(0,.keep),(3,.box [.keep,.keep,.keep,.list .term,.keep,.list (.pair (.int .i64) .term),.keep]),(5,.row (.pair (.int .i64) .term) false),(6,.keep)])],[],λ m x=>qlS m x.1⟩
def i40:FI:=⟨f40,[.val .term,.val (.int .i64)],[(.int .i64)],[(5,[(1,.keep),(2,.box [.keep,.keep,.keep,.list .term]),(5,.keep)])],[],λ m x=>yi m x.1 x.2.1⟩
def i41:FI:=⟨f41,[.val .term],[.bool],[],[],λ m x=>jE m x.1⟩
def i42:FI:=⟨f42,[.val .term],[.term],[],[],λ m x=>yE m x.1⟩
def i43:FI:=⟨f43,[.val .term],[.bool],[],[],λ m x=>Qf m x.1⟩
def i44:FI:=⟨f44,[.val .term],[.term],[],[],λ m x=>qbj m x.1⟩
def i45:FI:=⟨f45,[.val .term],[(.int .i64)],[],[],λ m x=>zu m x.1⟩
def i46:FI:=⟨f46,[.val .term],[.term],[],[],λ m x=>qca m x.1⟩
def i47:FI:=⟨f47,[.val .term],[.term],[],[],λ m x=>qdq m x.1⟩
def i48:FI:=⟨f48,[.val .term],[.bool],[],[],λ m x=>qav m x.1⟩
def i49:FI:=⟨f49,[.val .term],[.term],[],[],λ m x=>qe5 m x.1⟩
def i50:FI:=⟨f50,[.val .term,.val .term],[(.int .i64)],[(18,[(2,.box [.keep,.keep,.keep,.list .term]),(3,.box [.keep,.keep,.keep,.list .term]),(9,.keep)])],[],λ m x=>zi m x.1 x.2.1⟩
def i51:SI:=⟨f51,[.val (.pair .term (.pair (.int .i64) (.pair (.list (.pair (.int .i64) .term)) (.int .i64))))],[.agg [.val .term,.val (.int .i64),.row (.pair (.int .i64) .term),.val (.int .i64)]],[(4,[(1,.box [.keep,.keep,.keep,.list .term,.keep,.list (.pair (.int .i64) .term),.keep]),(2,.box [.keep,.keep,.keep,.row .term false,.keep,.row (.pair (.int .i64) .term) false,.keep]),(3,.row (.pair (.int .i64) .term) false),(11,.list (.pair (.int .i64) .term)),(12,.keep),(13,.keep)])],[],λ m x=>qkk m x.1⟩
def i54:FI:=⟨f54,[.val .term,.val .term],[.term,.bool],[],[],λ m x=>qdt m x.1 x.2.1⟩
def i62:FI:=⟨f62,[.val (.list .term)],[(.list .term)],[(3,[(0,.list .term),(3,.list .term),(4,.keep)])],[],λ m x=>qhd m x.1⟩
def i64:FI:=⟨f64,[.val .str,.val (.list .term)],[.term],[],[],λ m x=>yu m x.1 x.2.1⟩
def i65:FI:=⟨f65,[.val .term,.val .term],[.term],[],[],λ m x=>Jj m x.1 x.2.1⟩
def i66:FI:=⟨f66,[.val .str,.val (.int .i64)],[.term,.str,.bool],[(13,[(0,.keep),(1,.keep),(4,.box [.keep,.keep,.keep,.row .term false]),(7,.box [.keep,.keep,.keep,.row .term false])])],[],λ m x=>qe9 m x.1 x.2.1⟩
def i67:FI:=⟨f67,[.val .term],[(.int .i64)],[],[],λ m x=>zI m x.1⟩
def i68:FI:=⟨f68,[.val .term],[.bool],[],[],λ m x=>qcY m x.1⟩
def i69:FI:=⟨f69,[.val .term],[(.list .term)],[],[],λ m x=>qhb m x.1⟩
def i70:FI:=⟨f70,[.val .term,.val (.list (.int .i64))],[.term,(.int .i64)],[(2,[(2,.box [.keep,.keep,.keep,.list .term]),(4,.box [.keep,.keep,.keep,.row .term false]),(8,.list (.int .i64)),(9,.keep),(10,.keep)])],[],λ m x=>qkz m x.1 x.2.1⟩
def i71:FI:=⟨f71,[.val .term],[.bool],[(6,[(5,.list .term),(6,.keep)])],[],λ m x=>qd8 m x.1⟩
def i72:FI:=⟨f72,[.val .term],[.bool],[],[],λ m x=>qcL m x.1⟩
def i73:FI:=⟨f73,[.val .str],[.term],[],[],λ m x=>qeb m x.1⟩
def i74:SI:=⟨f74,[.val .term,.val (.int .i64),.box [.val (.int .i64)],.box [.val (.int .i64)]],[.one (.val (.int .i64))],[(17,[(1,.keep),(2,.box [.keep]),(3,.box [.keep]),(57,.list .term),(58,.keep),(59,.keep)])],[],λ m x=>zD m x.1 x.2.1 x.2.2.1 x.2.2.2.1⟩
def i75:FI:=⟨f75,[.val .term,.val .str],[.term],[],[],λ m x=>qao m x.1 x.2.1⟩
def i76:FI:=⟨f76,[.val (.int .i64),.val (.int .i64)],[(.int .i64)],[],[],λ m x=>Ja m x.1 x.2.1⟩
def i77:FI:=⟨f77,[.val .term],[(.int .i64)],[(3,[(1,.box [.keep,.keep,.keep,.list .term]),(3,.keep),(4,.keep)])],[],λ m x=>yz m x.1⟩
def i78:FI:=⟨f78,[.val .term,.val .term],[(.int .i64)],[(11,[(2,.box [.keep,.keep,.keep,.list .term]),(3,.box [.keep,.keep,.keep,.list .term]),(5,.keep),(6,.keep)])],[],λ m x=>qs m x.1 x.2.1⟩
def i79:FI:=⟨f79,[.val .term,.val .str],[.bool],[],[],λ m x=>J1 m x.1 x.2.1⟩
def i81:FI:=⟨f81,[.val (.list .term),.val .term],[.bool],[(2,[(0,.list .term),(3,.box [.keep,.keep,.keep,.list .term]),(5,.keep)])],[],λ m x=>qg8 m x.1 x.2.1⟩
def i85:FI:=⟨f85,[.val (.list .term),.val .term],[(.list .term)],[(4,[(0,.list .term),(3,.box [.keep,.keep,.keep,.list .term]),(5,.row .term false),(6,.keep),(7,.keep)])],[],λ m x=>qe4 m x.1 x.2.1⟩
def i86:FI:=⟨f86,[.val .str],[.str],[(2,[(0,.keep),(3,.keep)])],[],λ m x=>qfY m x.1⟩
def i87:FI:=⟨f87,[.val .str],[.bool],[(4,[(0,.keep),(3,.keep)])],[],λ m x=>Qh m x.1⟩
def i88:FI:=⟨f88,[.val .term,.val .str],[.term,.str,.bool],[(5,[(1,.keep),(2,.box [.keep,.keep,.keep,.list .term]),(4,.box [.keep,.keep,.keep,.row .term false]),(7,.keep),(8,.keep)])],[],λ m x=>qh9 m x.1 x.2.1⟩
def i89:FI:=⟨f89,[.val .term],[(.int .i64)],[(5,[(1,.box [.keep,.keep,.keep,.list .term]),(4,.keep)])],[],λ m x=>yH m x.1⟩
def i90:FI:=⟨f90,[.val .term],[(.int .i64)],[(3,[(1,.box [.keep,.keep,.keep,.list .term]),(3,.keep),(4,.keep)])],[],λ m x=>yK m x.1⟩
def i91:FI:=⟨f91,[.val .term],[.term,(.int .i64)],[],[],λ m x=>qb6 m x.1⟩
def i92:FI:=⟨f92,[.val .term,.val .term],[.bool],[],[],λ m x=>j9 m x.1 x.2.1⟩
def i93:FI:=⟨f93,[.val .term,.fn],[.bool],[(4,[(1,.keep),(18,.list .term),(19,.keep),(20,.keep)])],[],λ m x=>qI m x.1⟩
def i94:FI:=⟨f94,[.val .str],[.bool],[],[],λ m x=>qbw m x.1⟩
def i95:FI:=⟨f95,[.val .str],[(.pair .str (.pair (.int .i64) (.pair (.int .i64) (.int .i64))))],[(2,[(0,.keep),(2,.box [.keep,.keep,.keep,.keep]),(5,.list (.pair .str (.pair (.int .i64) (.pair (.int .i64) (.int .i64))))),(6,.keep),(7,.keep)])],[],λ m x=>qal m x.1⟩
def i96:FI:=⟨f96,[.val .term,.val (.int .i64)],[(.list .term)],[],[],λ m x=>qgI m x.1 x.2.1⟩
def i97:FI:=⟨f97,[.val .term],[.term],[(4,[(1,.box [.keep,.keep,.keep,.row .term false]),(2,.box [.keep,.keep,.keep,.row .term false]),(9,.list .term),(10,.keep),(11,.keep)])],[],λ m x=>yb m x.1⟩
def i98:FI:=⟨f98,[.val .term],[.term,(.int .i64)],[],[],λ m x=>qdc m x.1⟩
def i99:FI:=⟨f99,[.val .term],[(.list .term)],[(3,[(1,.box [.keep,.keep,.keep,.list .term]),(3,.row .term true),(4,.keep)])],[],λ m x=>jk m x.1⟩
def qFk:FI:=⟨f100,[.val .str],[(.int .i64)],[(3,[(0,.keep),(3,.list (.pair .str (.pair (.int .i64) (.pair (.int .i64) (.int .i64))))),(4,.keep)])],[],λ m x=>qb1 m x.1⟩
def qH7:FI:=⟨f101,[.val .term],[(.list .term)],[],[],λ m x=>qfN m x.1⟩
def qFx:FI:=⟨f102,[.val .str],[.bool],[(4,[(0,.keep),(38,.keep),(39,.keep)])],[],λ m x=>qaW m x.1⟩
def qIl:FI:=⟨f103,[.val (.int .i64),.val (.int .i64)],[(.int .i64)],[],[],λ m x=>qby m x.1 x.2.1⟩
def qFq:FI:=⟨f104,[.val .term],[(.int .i64)],[(3,[(3,.keep),(7,.list .term),(8,.keep),(9,.keep)])],[],λ m x=>je m x.1⟩
def qHO:FI:=⟨f120,[.val (.int .u8)],[.bool],[],[],λ m x=>JZ m x.1⟩
def qHQ:FI:=⟨f121,[.val (.int .u8)],[.bool],[],[],λ m x=>qcf m x.1⟩
def qIb:FI:=⟨f122,[.val (.int .i64)],[.str],[],[],λ m x=>qlm m x.1⟩
def qIu:FI:=⟨f123,[.val .term],[(.int .i64)],[],[],λ m x=>qfC m x.1⟩
def qHI:FI:=⟨f124,[.val .term],[(.int .i64)],[],[],λ m x=>qcQ m x.1⟩
def qE6:FI:=⟨f125,[.val .term],[.term,(.int .i64)],[(5,[(1,.box [.keep,.keep,.keep,.list .term]),(2,.box [.keep,.keep,.keep,.row .term false]),(4,.box [.keep,.keep,.keep,.row .term false]),(19,.list .term),(20,.keep),(21,.keep)])],[],λ m x=>zM m x.1⟩
def qEe:SI:=⟨f127,[.val .term,.clo 128 2,.box [.val (.int .i64)],.box [.row .term]],[],[(3,[(1,.fn [.box [.keep],.box [.row .term false]]),(10,.list .term),(11,.keep),(12,.keep)])],[],λ m x=>qZ m x.1 x.2.1 x.2.2.1⟩
def qH9:SI:=⟨f128,[.val .term,.box [.val (.int .i64)],.box [.row .term]],[],[],[],λ m x=>Qo m x.1 x.2.1 x.2.2.1⟩
def qEu:SI:=⟨f129,[.row .term],[.one (.row .term)],[(4,[(0,.row .term false),(9,.keep),(10,.keep)])],[],λ m x=>qdi m x.1⟩
def qIH:FI:=⟨f130,[.val .term],[(.int .i64)],[],[],λ m x=>qee m x.1⟩
def qED:FI:=⟨f131,[.val .term],[.term,(.int .i64)],[(5,[(1,.box [.keep,.keep,.keep,.list .term]),(2,.box [.keep,.keep,.keep,.row .term false]),(4,.row .term false),(5,.keep)])],[],λ m x=>ye m x.1⟩
def qIy:FI:=⟨f132,[],[(.list (.pair .str (.pair (.int .i64) (.pair (.int .i64) (.int .i64)))))],[],[],λ m x=>qex m⟩
def qFr:FI:=⟨f133,[.val .term,.val (.int .i64)],[(.list .term)],[(4,[(1,.keep),(5,.row .term false),(6,.list .term),(7,.keep)])],[],λ m x=>qfA m x.1 x.2.1⟩
def qIp:FI:=⟨f134,[.val (.int .u8)],[.bool],[],[],λ m x=>qeY m x.1⟩
def qE9:FI:=⟨f143,[.val (.list (.pair .term (.int .i64))),.val (.list (.pair .term (.int .i64)))],[(.list (.pair .term (.int .i64))),(.int .i64)],[(9,[(1,.list (.pair .term (.int .i64))),(8,.row (.pair .term (.int .i64)) false),(9,.keep)])],[],λ m x=>qg3 m x.1 x.2.1⟩
def qId:FI:=⟨f146,[.val .term],[(.list (.pair .term (.int .i64))),(.int .i64)],[],[],λ m x=>qeO m x.1⟩
def qCa:FI:=⟨f147,[.val .term],[(.int .i64)],[(13,[(1,.box [.keep,.keep,.keep,.list .term]),(38,.list .term),(39,.keep),(40,.keep)]),(22,[(62,.list .term),(63,.keep),(64,.keep)])],[],λ m x=>qz m x.1⟩
def qHA:FI:=⟨f148,[.val .term],[.term],[],[],λ m x=>JR m x.1⟩
def qFE:FI:=⟨f149,[.val (.list .term)],[.term,(.int .i64)],[(6,[(2,.box [.keep,.keep,.keep,.row .term true]),(5,.list .term),(15,.list .term),(16,.keep),(17,.keep)])],[],λ m x=>qkS m x.1⟩
def qHV:FI:=⟨f150,[.val .term],[(.list (.pair .term (.int .i64))),(.int .i64)],[],[],λ m x=>JP m x.1⟩
def qwQ:FI:=⟨f151,[.val (.list (.pair .term (.int .i64)))],[.term,(.int .i64)],[(6,[(2,.box [.keep,.keep,.keep,.row .term false]),(5,.row .term false),(6,.row .term false),(18,.list (.pair .term (.int .i64))),(19,.keep),(20,.keep)]),(11,[(2,.box [.keep,.keep,.keep,.row .term false]),(5,.row .term false),(6,.row .term false),(8,.box [.keep,.keep,.keep,.list .term,.keep]),(18,.list (.pair .term (.int .i64))),(19,.keep),(20,.keep),(34,.keep),(35,.keep)]),(15,[(2,.box [.keep,.keep,.keep,.row .term false]),(5,.row .term false),(6,.row .term false),(8,.box [.keep,.keep,.keep,.list .term,.keep]),(18,.list (.pair .term (.int .i64))),(19,.keep),(20,.keep),(46,.keep),(47,.keep)])],[],λ m x=>jB m x.1⟩
def qHT:FI:=⟨f152,[.val .term,.val .term],[.term,(.int .i64)],[],[],λ m x=>qcK m x.1 x.2.1⟩
def qHY:FI:=⟨f156,[.val .term,.val .term],[.bool],[],[],λ m x=>ya m x.1 x.2.1⟩
def qEs:FI:=⟨f157,[.val .term],[(.int .i64)],[(11,[(1,.box [.keep,.keep,.keep,.list .term]),(4,.keep)])],[],λ m x=>yq m x.1⟩
def qIO:FI:=⟨f158,[.val .term],[.term,.bool],[],[],λ m x=>qb5 m x.1⟩
def qEo:FI:=⟨f159,[.val (.list .term)],[.term,(.int .i64)],[(6,[(0,.list .term),(2,.box [.keep,.keep,.keep,.row .term true]),(5,.list .term),(6,.keep)])],[],λ m x=>qgS m x.1⟩
def qII:FI:=⟨f160,[.val .term],[.term,(.int .i64)],[],[],λ m x=>qam m x.1⟩
def qHJ:FI:=⟨f161,[.val .term,.val .term],[.term,(.int .i64)],[],[],λ m x=>qed m x.1 x.2.1⟩
def qFL:FI:=⟨f163,[.val .term],[(.list .term)],[(7,[(1,.box [.keep,.keep,.keep,.list .term]),(3,.list .term),(4,.keep)])],[],λ m x=>zr m x.1⟩
def qEg:FI:=⟨f164,[.val (.list .term),.val .term],[(.int .i64)],[(4,[(0,.list .term),(3,.box [.keep,.keep,.keep,.list .term]),(5,.keep)])],[],λ m x=>qd9 m x.1 x.2.1⟩
def qFe:FI:=⟨f167,[.val (.list (.pair .term (.int .i64)))],[(.int .i64)],[(4,[(0,.list (.pair .term (.int .i64))),(3,.keep)])],[],λ m x=>qaX m x.1⟩
def qEW:SI:=⟨f168,[.row (.pair .term (.int .i64)),.val .term,.val (.int .i64)],[.one (.row (.pair .term (.int .i64)))],[(4,[(0,.row (.pair .term (.int .i64)) false),(2,.keep),(4,.box [.keep,.keep,.keep,.list .term]),(7,.row (.pair .term (.int .i64)) false),(8,.keep),(9,.keep)])],[],λ m x=>qe1 m x.1 x.2.1 x.2.2.1⟩
def qEf:FI:=⟨f169,[.val (.list (.pair .term (.int .i64)))],[(.int .i64)],[(2,[(0,.list (.pair .term (.int .i64))),(3,.keep)])],[],λ m x=>qb8 m x.1⟩
def qEm:FI:=⟨f172,[.val .term],[.bool],[(7,[(1,.box [.keep,.keep,.keep,.list .term]),(3,.keep),(4,.keep)])],[],λ m x=>yn m x.1⟩
def qFf:SI:=⟨f173,[.row (.pair .term (.int .i64)),.val .term,.val (.int .i64)],[.one (.row (.pair .term (.int .i64)))],[(6,[(0,.row (.pair .term (.int .i64)) false),(2,.keep),(4,.box [.keep,.keep,.keep,.list .term]),(7,.keep)])],[],λ m x=>zG m x.1 x.2.1 x.2.2.1⟩
def qHP:FI:=⟨f174,[.val .term,.val .str],[.bool],[],[],λ m x=>yv m x.1 x.2.1⟩
def qEn:FI:=⟨f175,[.val (.list .term),.val (.list .term)],[(.int .i64)],[(4,[(14,.list .term),(15,.keep),(16,.keep)])],[],λ m x=>qgX m x.1 x.2.1⟩
def qEL:FI:=⟨f176,[.val (.list .term),.val (.list .term)],[(.list .term)],[(2,[(0,.list .term),(1,.list .term),(5,.row .term false)])],[],λ m x=>qgh m x.1 x.2.1⟩
def qFA:FI:=⟨f177,[.val .term],[(.list .term)],[(6,[(3,.list .term),(31,.list .term),(32,.keep),(33,.keep)])],[],λ m x=>zO m x.1⟩
def qFB:FI:=⟨f178,[.val (.list .term)],[(.list .term)],[(3,[(3,.row .term false),(9,.list .term),(10,.keep),(11,.keep)])],[],λ m x=>QF m x.1⟩
def qFh:SI:=⟨f179,[.row (.pair .term (.int .i64)),.val .term,.val (.int .i64)],[.one (.row (.pair .term (.int .i64))),.one (.val .bool)],[(12,[(0,.row (.pair .term (.int .i64)) false),(2,.keep),(52,.list .term),(53,.keep),(54,.keep)])],[],λ m x=>qY m x.1 x.2.1 x.2.2.1⟩
def qD8:FI:=⟨f180,[.val (.list (.pair .term (.int .i64)))],[(.int .i64)],[(4,[(0,.list (.pair .term (.int .i64))),(9,.list (.pair .term (.int .i64))),(10,.keep),(11,.keep)])],[],λ m x=>QM m x.1⟩
def qFn:FI:=⟨f181,[.val .term],[.term],[(3,[(1,.box [.keep,.keep,.keep,.row .term false]),(2,.box [.keep,.keep,.keep,.row .term false]),(10,.row .term false),(11,.keep),(12,.keep)])],[],λ m x=>za m x.1⟩
def qIL:FI:=⟨f182,[.val .str,.val (.list .term)],[.term],[],[],λ m x=>qbi m x.1 x.2.1⟩
def qBh:FI:=⟨f183,[.val (.list (.list .term))],[(.list .term)],[(3,[(0,.list (.list .term)),(3,.keep),(9,.list (.list .term)),(10,.keep),(11,.keep)]),(11,[(6,.row .term false),(25,.list (.list .term)),(26,.keep),(27,.keep)])],[],λ m x=>zc m x.1⟩
def qEw:FI:=⟨f184,[.val (.list (.pair .term (.int .i64))),.val (.list (.pair .term (.int .i64)))],[(.list (.pair .term (.int .i64))),(.int .i64)],[(9,[(8,.row (.pair .term (.int .i64)) false),(23,.list (.pair .term (.int .i64))),(24,.keep),(25,.keep)])],[],λ m x=>qcT m x.1 x.2.1⟩
def qIM:FI:=⟨f185,[.val .str,.val (.list .term)],[.term],[],[],λ m x=>qdL m x.1 x.2.1⟩
def qE5:FI:=⟨f188,[.val .term],[.bool],[(3,[(1,.box [.keep,.keep,.keep,.list .term]),(3,.list (.pair .str (.pair (.int .i64) (.pair (.int .i64) (.int .i64))))),(4,.keep)])],[],λ m x=>qf4 m x.1⟩
def qFu:FI:=⟨f189,[.val .term],[.bool],[(4,[(1,.box [.keep,.keep,.keep,.list .term]),(3,.keep)])],[],λ m x=>qcU m x.1⟩
def qHN:FI:=⟨f190,[],[.term],[],[],λ m x=>qfo m⟩
def qEx:FI:=⟨f191,[.val (.list .term),.val (.list .term)],[(.list .term)],[(3,[(1,.list .term),(5,.plist .term),(6,.keep)])],[],λ m x=>qdy m x.1 x.2.1⟩
def qH1:FI:=⟨f192,[.val (.list .term)],[.term],[],[],λ m x=>qfw m x.1⟩
def qHM:FI:=⟨f193,[.val (.list (.pair .term (.int .i64)))],[.term,(.int .i64)],[],[],λ m x=>qaA m x.1⟩
def qIK:FI:=⟨f195,[.val .term],[.bool],[],[],λ m x=>Jp m x.1⟩
def qFp:FI:=⟨f197,[.val .term,.val (.list (.int .i64)),.val .term],[.term,(.int .i64)],[(4,[(5,.box [.keep,.keep,.keep,.list .term]),(6,.box [.keep,.keep,.keep,.row .term false]),(8,.box [.keep,.keep,.keep,.list .term]),(9,.box []),(14,.list (.int .i64)),(15,.keep),(16,.keep)])],[],λ m x=>qcX m x.1 x.2.1 x.2.2.1⟩
def qIx:FI:=⟨f198,[.val .term],[.bool],[],[],λ m x=>Jn m x.1⟩
def qHF:SI:=⟨f199,[.row (.pair .term (.int .i64)),.val (.pair .term (.int .i64))],[.one (.row (.pair .term (.int .i64)))],[],[],λ m x=>Ji m x.1 x.2.1⟩
def qF0:SI:=⟨f202,[.val (.list (.pair .term (.int .i64)))],[.one (.row (.pair .term (.int .i64)))],[(3,[(3,.row (.pair .term (.int .i64)) false),(6,.list (.pair .term (.int .i64))),(7,.keep),(8,.keep)])],[],λ m x=>qar m x.1⟩
def qIo:FI:=⟨f203,[.val (.list (.pair .term (.int .i64)))],[(.list (.pair .term (.int .i64))),(.int .i64)],[],[],λ m x=>qaG m x.1⟩
def qEX:FI:=⟨f214,[.val (.list .term),.val .term],[(.list .term)],[(5,[(0,.list .term),(3,.box [.keep,.keep,.keep,.list .term]),(5,.row .term false),(6,.keep)])],[],λ m x=>qdj m x.1 x.2.1⟩
def qsP:FI:=⟨f215,[.val (.list (.pair .term (.int .i64)))],[(.list .term)],[(3,[(0,.list (.pair .term (.int .i64))),(3,.row .term false),(4,.keep)]),(6,[(0,.list (.pair .term (.int .i64))),(3,.row .term false),(4,.keep),(5,.keep)]),(10,[(0,.list (.pair .term (.int .i64))),(3,.row .term false),(6,.keep)]),(13,[(0,.list (.pair .term (.int .i64))),(3,.row .term false),(6,.keep),(7,.keep)])],[],λ m x=>qbt m x.1⟩
def qEi:FI:=⟨f219,[.val (.list (.pair .term (.int .i64))),.val .term,.fn],[(.int .i64),.bool],[(3,[(0,.list (.pair .term (.int .i64))),(2,.keep),(4,.box [.keep,.keep,.keep,.list .term]),(8,.keep),(9,.keep),(10,.keep)])],[],λ m x=>qx m x.1 x.2.1⟩
def qIz:FI:=⟨f220,[.val (.pair .term (.int .i64)),.val .term],[(.int .i64)],[],[],λ m x=>Qp m x.1 x.2.1⟩
def qIr:FI:=⟨f223,[.val (.list (.pair .term (.int .i64))),.fn],[.bool],[],[],λ m x=>qO m x.1⟩
def qIC:FI:=⟨f224,[.val (.pair .term (.int .i64))],[.bool],[],[],λ m x=>Jx m x.1⟩
def qE8:FI:=⟨f235,[.val (.list (.pair .term (.int .i64))),.fn],[(.int .i64)],[(2,[(0,.list (.pair .term (.int .i64))),(1,.keep),(7,.keep),(8,.keep)])],[],λ m x=>qW m x.1⟩
def elT (f:Nat):Option Ty :=
cond (Nat.blt f 121)
 (cond (Nat.blt f 47)
 (cond (Nat.blt f 27)
 (cond (Nat.beq f 22) (some .term) (none))
 (cond (Nat.blt f 45)
 (cond (Nat.beq f 27) (some (.pair (.int .i64) .term)) (none))
 (cond (Nat.beq f 45) (some (.int .u8)) (none))))
 (cond (Nat.blt f 57)
 (cond (Nat.blt f 49)
 (cond (Nat.beq f 47) (some (.pair (.int .i64) .term)) (none))
 (cond (Nat.beq f 49) (some .str) (none)))
 (cond (Nat.blt f 59)
 (cond (Nat.beq f 57) (some (.int .i64)) (none))
 (cond (Nat.beq f 59) (some (.pair (.int .u8) (.int .u8))) (none)))))
 (cond (Nat.blt f 155)
 (cond (Nat.blt f 130)
 (cond (Nat.blt f 123)
 (cond (Nat.beq f 121) (some (.pair (.list (.int .i64)) (.int .i64))) (none))
 (cond (Nat.beq f 123) (some .bool) (none)))
 (cond (Nat.blt f 137)
 (cond (Nat.beq f 130) (some (.pair .str (.pair (.int .i64) (.pair (.int .i64) (.int .i64))))) (none))
 (cond (Nat.beq f 137) (some (.pair .term (.int .i64))) (none))))
 (cond (Nat.blt f 175)
 (cond (Nat.blt f 163)
 (cond (Nat.beq f 155) (some (.pair (.list .term) (.list (.int .i64)))) (none))
 (cond (Nat.beq f 163) (some (.list (.pair .term (.int .i64)))) (none)))
 (cond (Nat.blt f 182)
 (cond (Nat.beq f 175) (some (.list (.int .i64))) (none))
 (cond (Nat.beq f 182) (some (.list .term)) (none)))))
def tb:Tb:=⟨tyT,elT,.node 121 (.node 67 (.node 41 (.node 19 (.node 13 (.node 11 (.node 10 (.node 3 .leaf .leaf (.pure [([],i3)])) .leaf (.pure [([],i10)])) (.node 12 .leaf .leaf (.pure [([],i12)])) (.pure [([],i11)])) (.node 16 (.node 15 (.node 14 .leaf .leaf (.pure [([],i14)])) .leaf (.pure [([],i15)])) (.node 17 .leaf .leaf (.pure [([],i17)])) (.pure [([],i16)])) (.pure [([],i13)])) (.node 35 (.node 23 (.node 22 (.node 21 .leaf .leaf (.pure [([],i21)])) .leaf (.pure [([],i22)])) (.node 25 .leaf .leaf (.pure [([],i25)])) (.pure [([],i23)])) (.node 39 (.node 38 .leaf .leaf (.pure [([],i38)])) (.node 40 .leaf .leaf (.pure [([],i40)])) (.pure [([],i39)])) (.pure [([],i35)])) (.pure [([],i19)])) (.node 50 (.node 46 (.node 44 (.node 43 (.node 42 .leaf .leaf (.pure [([],i42)])) .leaf (.pure [([],i43)])) (.node 45 .leaf .leaf (.pure [([],i45)])) (.pure [([],i44)])) (.node 48 (.node 47 .leaf .leaf (.pure [([],i47)])) (.node 49 .leaf .leaf (.pure [([],i49)])) (.pure [([],i48)])) (.pure [([],i46)])) (.node 62 (.node 54 (.node 52 (.node 51 .leaf .leaf (.st i51)) .leaf (.hk λ _=>⟨[.row (.pair (.int .i64) .term),.clo 53 1,.box [.val (.pair (.int .i64) .term)]],λ x=>yM 0 x.1 x.2.1⟩)) (.node 55 .leaf .leaf (.hs ⟨[.row (.pair (.int .i64) .term),.val (.int .i64),.val (.int .i64)],[.one (.row (.pair (.int .i64) .term))],λ x=>yV 0 x.1 x.2.1 x.2.2.1⟩)) (.pure [([],i54)])) (.node 65 (.node 64 .leaf .leaf (.pure [([],i64)])) (.node 66 .leaf .leaf (.pure [([],i66)])) (.pure [([],i65)])) (.pure [([],i62)])) (.pure [([],i50)])) (.pure [([],i41)])) (.node 89 (.node 76 (.node 72 (.node 70 (.node 69 (.node 68 .leaf .leaf (.pure [([],i68)])) .leaf (.pure [([],i69)])) (.node 71 .leaf .leaf (.pure [([],i71)])) (.pure [([],i70)])) (.node 74 (.node 73 .leaf .leaf (.pure [([],i73)])) (.node 75 .leaf .leaf (.pure [([],i75)])) (.st i74)) (.pure [([],i72)])) (.node 85 (.node 79 (.node 78 (.node 77 .leaf .leaf (.pure [([],i77)])) .leaf (.pure [([],i78)])) (.node 81 .leaf .leaf (.pure [([],i81)])) (.pure [([],i79)])) (.node 87 (.node 86 .leaf .leaf (.pure [([],i86)])) (.node 88 .leaf .leaf (.pure [([],i88)])) (.pure [([],i87)])) (.pure [([],i85)])) (.pure [([],i76)])) (.node 98 (.node 94 (.node 92 (.node 91 (.node 90 .leaf .leaf (.pure [([],i90)])) .leaf (.pure [([],i91)])) (.node 93 .leaf .leaf (.pure [([94],i93)])) (.pure [([],i92)])) (.node 96 (.node 95 .leaf .leaf (.pure [([],i95)])) (.node 97 .leaf .leaf (.pure [([],i97)])) (.pure [([],i96)])) (.pure [([],i94)])) (.node 103 (.node 101 (.node 100 (.node 99 .leaf .leaf (.pure [([],i99)])) .leaf (.pure [([],qFk)])) (.node 102 .leaf .leaf (.pure [([],qFx)])) (.pure [([],qH7)])) (.node 105 (.node 104 .leaf .leaf (.pure [([],qFq)])) (.node 120 .leaf .leaf (.pure [([],qHO)])) (.hp ⟨[.val .str,.val .str],[(.int .i64)],λ x=>strings_Compare 0 x.1 x.2.1⟩)) (.pure [([],qIl)])) (.pure [([],i98)])) (.pure [([],i89)])) (.pure [([],i67)])) (.node 173 (.node 149 (.node 130 (.node 126 (.node 124 (.node 123 (.node 122 .leaf .leaf (.pure [([],qIb)])) .leaf (.pure [([],qIu)])) (.node 125 .leaf .leaf (.pure [([],qE6)])) (.pure [([],qHI)])) (.node 128 (.node 127 .leaf .leaf (.st qEe)) (.node 129 .leaf .leaf (.st qEu)) (.st qH9)) (.hp ⟨[],[(.list (.pair .str (.pair (.int .i64) (.pair (.int .i64) (.int .i64)))))],λ x=>qgC 0⟩)) (.node 143 (.node 133 (.node 132 (.node 131 .leaf .leaf (.pure [([],qED)])) .leaf (.pure [([],qIy)])) (.node 134 .leaf .leaf (.pure [([],qIp)])) (.pure [([],qFr)])) (.node 147 (.node 146 .leaf .leaf (.pure [([],qId)])) (.node 148 .leaf .leaf (.pure [([],qHA)])) (.pure [([],qCa)])) (.pure [([],qE9)])) (.pure [([],qIH)])) (.node 159 (.node 155 (.node 152 (.node 151 (.node 150 .leaf .leaf (.pure [([],qHV)])) .leaf (.pure [([],qwQ)])) (.node 154 .leaf .leaf (.hm λ m=>⟨.term,[.clo 78 0],λ x=>qS m x.1⟩)) (.pure [([],qHT)])) (.node 157 (.node 156 .leaf .leaf (.pure [([],qHY)])) (.node 158 .leaf .leaf (.pure [([],qIO)])) (.pure [([],qEs)])) (.hx λ m=>⟨[.row .term,.clo 156 0],[.one (.row .term)],λ x=>qF m x.1⟩)) (.node 167 (.node 163 (.node 161 (.node 160 .leaf .leaf (.pure [([],qII)])) .leaf (.pure [([],qHJ)])) (.node 164 .leaf .leaf (.pure [([],qEg)])) (.pure [([],qFL)])) (.node 169 (.node 168 .leaf .leaf (.st qEW)) (.node 172 .leaf .leaf (.pure [([],qEm)])) (.pure [([],qEf)])) (.pure [([],qFe)])) (.pure [([],qEo)])) (.pure [([],qFE)])) (.node 193 (.node 182 (.node 178 (.node 176 (.node 175 (.node 174 .leaf .leaf (.pure [([],qHP)])) .leaf (.pure [([],qEn)])) (.node 177 .leaf .leaf (.pure [([],qFA)])) (.pure [([],qEL)])) (.node 180 (.node 179 .leaf .leaf (.st qFh)) (.node 181 .leaf .leaf (.pure [([],qFn)])) (.pure [([],qD8)])) (.pure [([],qFB)])) (.node 189 (.node 185 (.node 184 (.node 183 .leaf .leaf (.pure [([],qBh)])) .leaf (.pure [([],qEw)])) (.node 188 .leaf .leaf (.pure [([],qE5)])) (.pure [([],qIM)])) (.node 191 (.node 190 .leaf .leaf (.pure [([],qHN)])) (.node 192 .leaf .leaf (.pure [([],qH1)])) (.pure [([],qEx)])) (.pure [([],qFu)])) (.pure [([],qIL)])) (.node 214 (.node 200 (.node 198 (.node 197 (.node 195 .leaf .leaf (.pure [([],qIK)])) .leaf (.pure [([],qFp)])) (.node 199 .leaf .leaf (.st qHF)) (.pure [([],qIx)])) (.node 202 (.node 201 .leaf .leaf (.hs ⟨[.nil,.val (.int .i64)],[.one (.row .term)],λ x=>yt 0 x.1⟩)) (.node 203 .leaf .leaf (.pure [([],qIo)])) (.st qF0)) (.hs ⟨[.val (.list .term)],[.one (.row .term)],λ x=>zC 0 x.1⟩)) (.node 222 (.node 220 (.node 219 (.node 215 .leaf .leaf (.pure [([],qsP)])) .leaf (.pure [([220],qEi)])) (.node 221 .leaf .leaf (.hs ⟨[.row (.pair .term (.int .i64)),.val (.int .i64),.val (.list (.pair .term (.int .i64)))],[.one (.row (.pair .term (.int .i64)))],λ x=>zl 0 x.1 x.2.1 x.2.2.1⟩)) (.pure [([],qIz)])) (.node 224 (.node 223 .leaf .leaf (.pure [([224],qIr)])) (.node 235 .leaf .leaf (.pure [([224],qE8)])) (.pure [([],qIC)])) (.hs ⟨[.row (.pair .term (.int .i64)),.val (.int .i64),.val (.int .i64)],[.one (.row (.pair .term (.int .i64)))],λ x=>zk 0 x.1 x.2.1 x.2.2.1⟩)) (.pure [([],qEX)])) (.pure [([],qHM)])) (.st qFf)) (.pure [([],qHQ)])⟩
end Go.AmYtbpnmbmdbblehaaGreat
namespace Go.AmYtbpnmbmdbblehaaGreat
open Go Go.GxYtbpnmbmdbblehaaGreat
set_option linter.unusedVariables false
set_option maxRecDepth 100000
theorem qwB (m a0):qeY (m+1) a0=tb.runP1 m qIp [] (a0,()):=by kernel_rfl
def qkA (m k x0 x1 x2):=tb.PL qFx 4 m k [(0,.s x0),(38,.i .i64 x1),(39,.i .i64 x2)] ⟨[],[]⟩
theorem qsg (m k):jC m k=qkA m k:=qQ (M:=qkA m) rfl (λ _=>by kernel_rfl) k
theorem qt6 (m a0):qaW (m+1) a0=tb.runP1 m qFx [] (a0,()):=(congrArg (λ L=>qdP m L a0) (qsg m m)).trans (by kernel_rfl)
def qmv (m k x0 x1 x2 x3 x4 x5):=tb.QL i74 17 m k [(1,.i .i64 x0),(2,.ptr 0 0),(3,.ptr 1 0),(57,.sl .term x1 1),(58,.i .i64 x2),(59,.i .i64 x3)] ⟨[[.i .i64 x4],[.i .i64 x5]],[]⟩
theorem qua (m k):yU m (zD m) k=qmv m k:=qQ (M:=qmv m) rfl (λ _=>by kernel_rfl) k
theorem qvu (m a0 a1 a2 a3):zD (m+1) a0 a1 a2 a3=tb.runS1 m i74 (a0,a1,a2,a3,()):=(congrArg (λ L=>qer m (zD m) L a0 a1 a2 a3) (qua m m)).trans (by kernel_rfl)
theorem qvn (m a0):zu (m+1) a0=tb.runP1 m i45 [] (a0,()):=by kernel_rfl
def qi0 (m k x0 x1 x2 x3 x4 x5 x6 x7):=tb.PL i95 2 m k [(0,.s x0),(2,.ptr 0 0),(5,.sl (.pair .str (.pair (.int .i64) (.pair (.int .i64) (.int .i64)))) x1 1),(6,.i .i64 x2),(7,.i .i64 x3)] ⟨[[.s x4,.i .i64 x5,.i .i64 x6,.i .i64 x7]],[]⟩
theorem qo8 (m k):Ql m k=qi0 m k:=qQ (M:=qi0 m) rfl (λ _=>by kernel_rfl) k
theorem qqB (m a0):qal (m+1) a0=tb.runP1 m i95 [] (a0,()):=(congrArg (λ L=>qbU m L a0) (qo8 m m)).trans (by kernel_rfl)
def qj2 (m k x0 x1 x2 x3 x4 x5 x6):=tb.PL qCa 13 m k [(1,.ptr 0 0),(38,.sl .term x0 1),(39,.i .i64 x1),(40,.i .i64 x2)] ⟨[[.i .i64 x3,.s x4,.i .i64 x5,.sl .term x6 1]],[]⟩
def qjA (m k x0 x1 x2):=tb.PL qCa 22 m k [(62,.sl .term x0 1),(63,.i .i64 x1),(64,.i .i64 x2)] ⟨[],[]⟩
theorem qqN (m k):qN m (qz m) k=(qj2 m k,qjA m k):=qQ (M := λ k=>(qj2 m k,qjA m k)) rfl (λ _=>by kernel_rfl) k
theorem qqX (m a0):qz (m+1) a0=tb.runP1 m qCa [] (a0,()):=(congrArg (a₁ := qN m (qz m) m) (λ L=>qcF m (qz m) L.1 L.2 a0) (qqN m m)).trans (by kernel_rfl)
theorem qrD (m a0):qcQ (m+1) a0=tb.runP1 m qHI [] (a0,()):=by kernel_rfl
theorem qyq (m a0 a1):qby (m+1) a0 a1=tb.runP1 m qIl [] (a0,a1,()):=by kernel_rfl
def qnj (m k x0 x1 x2 x3):=tb.PL qFq 3 m k [(3,.i .i64 x0),(7,.sl .term x1 1),(8,.i .i64 x2),(9,.i .i64 x3)] ⟨[],[]⟩
theorem qwb (m k):qaU m (je m) k=qnj m k:=qQ (M:=qnj m) rfl (λ _=>by kernel_rfl) k
theorem qyl (m a0):je (m+1) a0=tb.runP1 m qFq [] (a0,()):=(congrArg (λ L=>qft m (je m) L a0) (qwb m m)).trans (by kernel_rfl)
def qjY (m k x0 x1 x2 x3 x4 x5 x6 x7 x8 x9):=tb.PL i78 11 m k [(2,.ptr 0 0),(3,.ptr 1 0),(5,.i .i64 x0),(6,.i .i64 x1)] ⟨[[.i .i64 x2,.s x3,.i .i64 x4,.sl .term x5 1],[.i .i64 x6,.s x7,.i .i64 x8,.sl .term x9 1]],[]⟩
theorem qp0 (m k):jo m (qs m) k=qjY m k:=qQ (M:=qjY m) rfl (λ _=>by kernel_rfl) k
theorem qsx (m a0 a1):qs (m+1) a0 a1=tb.runP1 m i78 [] (a0,a1,()):=(congrArg (λ L=>qcq m (qs m) L a0 a1) (qp0 m m)).trans (by kernel_rfl)
theorem qtD (m a0 a1):j9 (m+1) a0 a1=tb.runP1 m i92 [] (a0,a1,()):=by kernel_rfl
theorem qyU (m a0 a1):yv (m+1) a0 a1=tb.runP1 m qHP [] (a0,a1,()):=by kernel_rfl
theorem qoY (m a0):JR (m+1) a0=tb.runP1 m qHA [] (a0,()):=by kernel_rfl
def JA (m k x0 x1 x2 x3 x4):=tb.PL qBh 3 m k [(0,.sl (.list .term) x0 1),(3,.i .i64 x1),(9,.sl (.list .term) x2 1),(10,.i .i64 x3),(11,.i .i64 x4)] ⟨[],[]⟩
def Jw (m k x0 x1 x2 x3):=tb.PL qBh 11 m k [(6,.row 0 0),(25,.sl (.list .term) x0 1),(26,.i .i64 x1),(27,.i .i64 x2)] ⟨[],[⟨.term,x3,0,0,false⟩]⟩
theorem qdx (m k):ql m k=(JA m k,Jw m k):=qQ (M := λ k=>(JA m k,Jw m k)) rfl (λ _=>by kernel_rfl) k
theorem qdY (m a0):zc (m+1) a0=tb.runP1 m qBh [] (a0,()):=(congrArg (a₁ := ql m m) (λ L=>yC m L.1 L.2 a0) (qdx m m)).trans (by kernel_rfl)
def qnL (m k x0 x1 x2):=tb.PL qEn 4 m k [(14,.sl .term x0 1),(15,.i .i64 x1),(16,.i .i64 x2)] ⟨[],[]⟩
theorem qvj (m k):qaO m k=qnL m k:=qQ (M:=qnL m) rfl (λ _=>by kernel_rfl) k
theorem qw5 (m a0 a1):qgX (m+1) a0 a1=tb.runP1 m qEn [] (a0,a1,()):=(congrArg (λ L=>qfl m L a0 a1) (qvj m m)).trans (by kernel_rfl)
def qpk (m k x0 x1 x2):=tb.PL qEL 2 m k [(0,.sl .term x0 1),(1,.sl .term x1 1),(5,.row 0 0)] ⟨[],[⟨.term,x2,0,0,false⟩]⟩
theorem qxU (m k):qbS m k=qpk m k:=qQ (M:=qpk m) rfl (λ _=>by kernel_rfl) k
theorem qzD (m a0 a1):qgh (m+1) a0 a1=tb.runP1 m qEL [] (a0,a1,()):=(congrArg (λ L=>qgJ m L a0 a1) (qxU m m)).trans (by kernel_rfl)
def qjw (m k x0 x1 x2 x3):=tb.PL qFA 6 m k [(3,.sl .term x0 1),(31,.sl .term x1 1),(32,.i .i64 x2),(33,.i .i64 x3)] ⟨[],[]⟩
theorem qqV (m k):jR m (zO m) k=qjw m k:=qQ (M:=qjw m) rfl (λ _=>by kernel_rfl) k
theorem qrp (m a0):zO (m+1) a0=tb.runP1 m qFA [] (a0,()):=(congrArg (λ L=>qcA m (zO m) L a0) (qqV m m)).trans (by kernel_rfl)
def qmH (m k x0 x1 x2 x3 x4 x5 x6 x7 x8 x9 x10):=tb.PL i97 4 m k [(1,.ptr 0 0),(2,.ptr 1 0),(9,.sl .term x0 1),(10,.i .i64 x1),(11,.i .i64 x2)] ⟨[[.i .i64 x3,.s x4,.i .i64 x5,.row 0 0],[.i .i64 x6,.s x7,.i .i64 x8,.row 1 0]],[⟨.term,x9,0,0,false⟩,⟨.term,x10,0,0,false⟩]⟩
theorem qtc (m k):JX m (yb m) k=qmH m k:=qQ (M:=qmH m) rfl (λ _=>by kernel_rfl) k
theorem qwk (m a0):yb (m+1) a0=tb.runP1 m i97 [] (a0,()):=(congrArg (λ L=>qej m (yb m) L a0) (qtc m m)).trans (by kernel_rfl)
def qjC (m k x0 x1 x2 x3 x4 x5 x6 x7 x8 x9 x10 x11 x12 x13 x14):=tb.PL qFp 4 m k [(5,.ptr 0 0),(6,.ptr 1 0),(8,.ptr 2 0),(9,.ptr 2 0),(14,.sl (.int .i64) x0 1),(15,.i .i64 x1),(16,.i .i64 x2)] ⟨[[.i .i64 x3,.s x4,.i .i64 x5,.sl .term x6 1],[.i .i64 x7,.s x8,.i .i64 x9,.row 0 0],[.i .i64 x10,.s x11,.i .i64 x12,.sl .term x13 1]],[⟨.term,x14,0,0,false⟩]⟩
theorem qpV (m k):JS m k=qjC m k:=qQ (M:=qjC m) rfl (λ _=>by kernel_rfl) k
theorem qrN (m a0 a1 a2):qcX (m+1) a0 a1 a2=tb.runP1 m qFp [] (a0,a1,a2,()):=(congrArg (λ L=>qcD m L a0 a1 a2) (qpV m m)).trans (by kernel_rfl)
def qqZ (m k x0 x1 x2 x3):=tb.PL qFB 3 m k [(3,.row 0 0),(9,.sl .term x0 1),(10,.i .i64 x1),(11,.i .i64 x2)] ⟨[],[⟨.term,x3,0,0,false⟩]⟩
theorem qzs (m k):qc4 m (QF m) k=qqZ m k:=qQ (M:=qqZ m) rfl (λ _=>by kernel_rfl) k
theorem qB5 (m a0):QF (m+1) a0=tb.runP1 m qFB [] (a0,()):=(congrArg (λ L=>qh3 m (QF m) L a0) (qzs m m)).trans (by kernel_rfl)
def qsw (m k x0 x1 x2 x3 x4 x5 x6 x7):=tb.PL qFE 6 m k [(2,.ptr 0 0),(5,.sl .term x0 1),(15,.sl .term x1 1),(16,.i .i64 x2),(17,.i .i64 x3)] ⟨[[.i .i64 x4,.s x5,.i .i64 x6,.row 0 0]],[⟨.term,x7,0,0,true⟩]⟩
theorem qzG (m k):qc0 m k=qsw m k:=qQ (M:=qsw m) rfl (λ _=>by kernel_rfl) k
theorem qCh (m a0):qkS (m+1) a0=tb.runP1 m qFE [] (a0,()):=(congrArg (λ L=>qib m L a0) (qzG m m)).trans (by kernel_rfl)
theorem qn7 (m a0):Jn (m+1) a0=tb.runP1 m qIx [] (a0,()):=by kernel_rfl
def qhH (m k x0 x1 x2 x3 x4 x5 x6 x7 x8 x9):=tb.PL qFn 3 m k [(1,.ptr 0 0),(2,.ptr 1 0),(10,.row 0 0),(11,.i .i64 x0),(12,.i .i64 x1)] ⟨[[.i .i64 x2,.s x3,.i .i64 x4,.row 0 0],[.i .i64 x5,.s x6,.i .i64 x7,.row 1 0]],[⟨.term,x8,0,0,false⟩,⟨.term,x9,0,0,false⟩]⟩
theorem qmZ (m k):jJ m (za m) k=qhH m k:=qQ (M:=qhH m) rfl (λ _=>by kernel_rfl) k
theorem qoX (m a0):za (m+1) a0=tb.runP1 m qFn [] (a0,()):=(congrArg (λ L=>qa2 m (za m) L a0) (qmZ m m)).trans (by kernel_rfl)
theorem qlk (m a0 a1):Qp (m+1) a0 a1=tb.runP1 m qIz [] (a0,a1,()):=by kernel_rfl
def zX (m k x0 x1 x2 x3 x4 x5 x6 x7):=tb.PL qEi 3 m k [(0,.sl (.pair .term (.int .i64)) x0 1),(2,.fn 220 []),(4,.ptr 0 0),(8,.i .i64 x1),(9,.i .i64 x2),(10,.i .i64 x3)] ⟨[[.i .i64 x4,.s x5,.i .i64 x6,.sl .term x7 1]],[]⟩
theorem jN (m k):qn m k=zX m k:=qQ (M:=zX m) rfl (λ _=>by kernel_rfl) k
theorem j7 (m a0 a1):qx (m+1) a0 a1=tb.runP1 m qEi [220] (a0,a1,()):=(congrArg (λ L=>qD m L a0 a1) (jN m m)).trans (by kernel_rfl)
theorem qnX (m a0 a1):Ji (m+1) a0 a1=tb.runS1 m qHF (a0,a1,()):=by kernel_rfl
def qf6 (m k x0 x1 x2 x3 x4):=tb.QL qFh 12 m k [(0,.row 0 0),(2,.i .i64 x0),(52,.sl .term x1 1),(53,.i .i64 x2),(54,.i .i64 x3)] ⟨[],[⟨(.pair .term (.int .i64)),x4,0,0,false⟩]⟩
theorem qlv (m k):yQ m (qY m) k=qf6 m k:=qQ (M:=qf6 m) rfl (λ _=>by kernel_rfl) k
theorem qmO (m a0 a1 a2):qY (m+1) a0 a1 a2=tb.runS1 m qFh (a0,a1,a2,()):=(congrArg (λ L=>qab m (qY m) L a0 a1 a2) (qlv m m)).trans (by kernel_rfl)
theorem qtm (m a0):JP (m+1) a0=tb.runP1 m qHV [] (a0,()):=by kernel_rfl
def qhL (m k x0 x1 x2 x3):=tb.PL qD8 4 m k [(0,.sl (.pair .term (.int .i64)) x0 1),(9,.sl (.pair .term (.int .i64)) x1 1),(10,.i .i64 x2),(11,.i .i64 x3)] ⟨[],[]⟩
theorem qm7 (m k):jm m k=qhL m k:=qQ (M:=qhL m) rfl (λ _=>by kernel_rfl) k
theorem qpc (m a0):QM (m+1) a0=tb.runP1 m qD8 [] (a0,()):=(congrArg (λ L=>qbe m L a0) (qm7 m m)).trans (by kernel_rfl)
theorem qsG (m a0 a1):qbi (m+1) a0 a1=tb.runP1 m qIL [] (a0,a1,()):=by kernel_rfl
def qiJ (m k x0 x1 x2 x3 x4 x5 x6 x7 x8):=tb.PL qwQ 6 m k [(2,.ptr 0 0),(5,.row 1 0),(6,.row 2 0),(18,.sl (.pair .term (.int .i64)) x0 1),(19,.i .i64 x1),(20,.i .i64 x2)] ⟨[[.i .i64 x3,.s x4,.i .i64 x5,.row 0 0]],[⟨.term,x6,0,0,false⟩,⟨.term,x7,0,0,false⟩,⟨.term,x8,0,0,false⟩]⟩
def qiZ (m k x0 x1 x2 x3 x4 x5 x6 x7 x8 x9 x10 x11 x12 x13 x14 x15):=tb.PL qwQ 11 m k [(2,.ptr 0 0),(5,.row 1 0),(6,.row 2 0),(8,.ptr 1 0),(18,.sl (.pair .term (.int .i64)) x0 1),(19,.i .i64 x1),(20,.i .i64 x2),(34,.i .i64 x3),(35,.i .i64 x4)] ⟨[[.i .i64 x5,.s x6,.i .i64 x7,.row 0 0],[.i .i64 x8,.s x9,.i .i64 x10,.sl .term x11 1,.i .i64 x12]],[⟨.term,x13,0,0,false⟩,⟨.term,x14,0,0,false⟩,⟨.term,x15,0,0,false⟩]⟩
def qiP (m k x0 x1 x2 x3 x4 x5 x6 x7 x8 x9 x10 x11 x12 x13 x14 x15):=tb.PL qwQ 15 m k [(2,.ptr 0 0),(5,.row 1 0),(6,.row 2 0),(8,.ptr 1 0),(18,.sl (.pair .term (.int .i64)) x0 1),(19,.i .i64 x1),(20,.i .i64 x2),(46,.i .i64 x3),(47,.i .i64 x4)] ⟨[[.i .i64 x5,.s x6,.i .i64 x7,.row 0 0],[.i .i64 x8,.s x9,.i .i64 x10,.sl .term x11 1,.i .i64 x12]],[⟨.term,x13,0,0,false⟩,⟨.term,x14,0,0,false⟩,⟨.term,x15,0,0,false⟩]⟩
theorem qo7 (m k):qt m k=(qiJ m k,qiZ m k,qiP m k):=qQ (M := λ k=>(qiJ m k,qiZ m k,qiP m k)) rfl (λ _=>by kernel_rfl) k
theorem qpA (m a0):jB (m+1) a0=tb.runP1 m qwQ [] (a0,()):=(congrArg (a₁ := qt m m) (λ L=>qbB m L.1 L.2.1 L.2.2 a0) (qo7 m m)).trans (by kernel_rfl)
def qhf (m k x0 x1 x2 x3):=tb.QL qF0 3 m k [(3,.row 0 0),(6,.sl (.pair .term (.int .i64)) x0 1),(7,.i .i64 x1),(8,.i .i64 x2)] ⟨[],[⟨(.pair .term (.int .i64)),x3,0,0,false⟩]⟩
theorem qmQ (m k):ju m k=qhf m k:=qQ (M:=qhf m) rfl (λ _=>by kernel_rfl) k
theorem qna (m a0):qar (m+1) a0=tb.runS1 m qF0 (a0,()):=(congrArg (λ L=>qaH m L a0) (qmQ m m)).trans (by kernel_rfl)
theorem qlO (m a0):Jx (m+1) a0=tb.runP1 m qIC [] (a0,()):=by kernel_rfl
def js (m k x0 x1 x2):=tb.PL qE8 2 m k [(0,.sl (.pair .term (.int .i64)) x0 1),(1,.fn 224 []),(7,.i .i64 x1),(8,.i .i64 x2)] ⟨[],[]⟩
theorem qae (m k):qw m k=js m k:=qQ (M:=js m) rfl (λ _=>by kernel_rfl) k
theorem qaf (m a0):qW (m+1) a0=tb.runP1 m qE8 [224] (a0,()):=(congrArg (λ L=>zm m L a0) (qae m m)).trans (by kernel_rfl)
theorem JT (m a0):qO (m+1) a0=tb.runP1 m qIr [224] (a0,()):=by kernel_rfl
theorem qm6 (m a0):qaG (m+1) a0=tb.runP1 m qIo [] (a0,()):=by kernel_rfl
def qjE (m k x0 x1 x2 x3):=tb.PL qEw 9 m k [(8,.row 0 0),(23,.sl (.pair .term (.int .i64)) x0 1),(24,.i .i64 x1),(25,.i .i64 x2)] ⟨[],[⟨(.pair .term (.int .i64)),x3,0,0,false⟩]⟩
theorem qqb (m k):QP m k=qjE m k:=qQ (M:=qjE m) rfl (λ _=>by kernel_rfl) k
theorem qq5 (m a0 a1):qcT (m+1) a0 a1=tb.runP1 m qEw [] (a0,a1,()):=(congrArg (λ L=>qcu m L a0 a1) (qqb m m)).trans (by kernel_rfl)
theorem qv1 (m a0 a1):qdL (m+1) a0 a1=tb.runP1 m qIM [] (a0,a1,()):=by kernel_rfl
theorem qsB (m a0 a1):qcK (m+1) a0 a1=tb.runP1 m qHT [] (a0,a1,()):=by kernel_rfl
def qjm (m k x0 x1 x2 x3 x4 x5 x6 x7 x8 x9 x10 x11 x12 x13 x14):=tb.PL qE6 5 m k [(1,.ptr 0 0),(2,.ptr 1 0),(4,.ptr 2 0),(19,.sl .term x0 1),(20,.i .i64 x1),(21,.i .i64 x2)] ⟨[[.i .i64 x3,.s x4,.i .i64 x5,.sl .term x6 1],[.i .i64 x7,.s x8,.i .i64 x9,.row 0 0],[.i .i64 x10,.s x11,.i .i64 x12,.row 1 0]],[⟨.term,x13,0,0,false⟩,⟨.term,x14,0,0,false⟩]⟩
theorem qpd (m k):Qb m (zM m) k=qjm m k:=qQ (M:=qjm m) rfl (λ _=>by kernel_rfl) k
theorem qpO (m a0):zM (m+1) a0=tb.runP1 m qE6 [] (a0,()):=(congrArg (λ L=>qbH m (zM m) L a0) (qpd m m)).trans (by kernel_rfl)
theorem qqG (m a0):qb6 (m+1) a0=tb.runP1 m i91 [] (a0,()):=by kernel_rfl
theorem qph (m a0):qbw (m+1) a0=tb.runP1 m i94 [] (a0,()):=by kernel_rfl
def qeV (m k x0 x1 x2):=tb.PL i93 4 m k [(1,.fn 94 []),(18,.sl .term x0 1),(19,.i .i64 x1),(20,.i .i64 x2)] ⟨[],[]⟩
theorem qkc (m k):yh m (qI m) k=qeV m k:=qQ (M:=qeV m) rfl (λ _=>by kernel_rfl) k
theorem qks (m a0):qI (m+1) a0=tb.runP1 m i93 [94] (a0,()):=(congrArg (λ L=>Jl m (qI m) L a0) (qkc m m)).trans (by kernel_rfl)
theorem qrI (m a0):qcY (m+1) a0=tb.runP1 m i68 [] (a0,()):=by kernel_rfl
theorem qjq (m a0 a1 a2):Qo (m+1) a0 a1 a2=tb.runS1 m qH9 (a0,a1,a2,()):=by kernel_rfl
def qfe (m k x0 x1 x2 x3 x4):=tb.QL qEe 3 m k [(1,.fn 128 [.ptr 0 0,.ptr 1 0]),(10,.sl .term x0 1),(11,.i .i64 x1),(12,.i .i64 x2)] ⟨[[.i .i64 x3],[.row 0 0]],[⟨.term,x4,0,0,false⟩]⟩
theorem qkI (m k):yX m (qZ m) k=qfe m k:=qQ (M:=qfe m) rfl (λ _=>by kernel_rfl) k
theorem qme (m a0 a1_0 a1_1):qZ (m+1) a0 a1_0 a1_1=tb.runS1 m qEe (a0,a1_0,a1_1,()):=(congrArg (λ L=>JM m (qZ m) L a0 a1_0 a1_1) (qkI m m)).trans (by kernel_rfl)
theorem qo5 (m a0 a1):ya (m+1) a0 a1=tb.runP1 m qHY [] (a0,a1,()):=by kernel_rfl
def qj6 (m k x0 x1 x2):=tb.QL qEu 4 m k [(0,.row 0 0),(9,.i .i64 x0),(10,.i .i64 x1)] ⟨[],[⟨.term,x2,0,0,false⟩]⟩
theorem qqq (m k):QT m k=qj6 m k:=qQ (M:=qj6 m) rfl (λ _=>by kernel_rfl) k
theorem qsd (m a0):qdi (m+1) a0=tb.runS1 m qEu (a0,()):=(congrArg (λ L=>qcC m L a0) (qqq m m)).trans (by kernel_rfl)
theorem qtv (m a0 a1):qgI (m+1) a0 a1=tb.runP1 m i96 [] (a0,a1,()):=by kernel_rfl
theorem qxW (m a0):qhb (m+1) a0=tb.runP1 m i69 [] (a0,()):=by kernel_rfl
theorem qqF (m a0):jE (m+1) a0=tb.runP1 m i41 [] (a0,()):=by kernel_rfl
def qrY (m k x0 x1 x2 x3 x4 x5 x6 x7 x8 x9 x10):=tb.PL i70 2 m k [(2,.ptr 0 0),(4,.ptr 1 0),(8,.sl (.int .i64) x0 1),(9,.i .i64 x1),(10,.i .i64 x2)] ⟨[[.i .i64 x3,.s x4,.i .i64 x5,.sl .term x6 1],[.i .i64 x7,.s x8,.i .i64 x9,.row 0 0]],[⟨.term,x10,0,0,false⟩]⟩
theorem qzI (m k):qe3 m k=qrY m k:=qQ (M:=qrY m) rfl (λ _=>by kernel_rfl) k
theorem qBg (m a0 a1):qkz (m+1) a0 a1=tb.runP1 m i70 [] (a0,a1,()):=(congrArg (λ L=>qh4 m L a0 a1) (qzI m m)).trans (by kernel_rfl)
theorem qoZ (m a0):yE (m+1) a0=tb.runP1 m i42 [] (a0,()):=by kernel_rfl
theorem qsW (m a0):qcd (m+1) a0=tb.runP1 m i12 [] (a0,()):=by kernel_rfl
theorem qnE (m a0 a1):Jj (m+1) a0 a1=tb.runP1 m i65 [] (a0,a1,()):=by kernel_rfl
theorem qtK (m a0):qeb (m+1) a0=tb.runP1 m i73 [] (a0,()):=by kernel_rfl
theorem qsN (m a0):qbj (m+1) a0=tb.runP1 m i44 [] (a0,()):=by kernel_rfl
theorem qs6 (m a0):qca (m+1) a0=tb.runP1 m i46 [] (a0,()):=by kernel_rfl
def qkq (m k x0 x1 x2 x3 x4 x5 x6 x7 x8 x9):=tb.PL i14 7 m k [(4,.ptr 0 0),(6,.ptr 1 0),(21,.i .i64 x0),(22,.i .i64 x1)] ⟨[[.i .i64 x2,.s x3,.i .i64 x4,.row 0 0],[.i .i64 x5,.s x6,.i .i64 x7,.sl .term x8 1]],[⟨.term,x9,0,0,false⟩]⟩
theorem qq8 (m k):Jo m k=qkq m k:=qQ (M:=qkq m) rfl (λ _=>by kernel_rfl) k
theorem qtV (m a0 a1):qaR (m+1) a0 a1=tb.runP1 m i14 [] (a0,a1,()):=(congrArg (λ L=>qdm m L a0 a1) (qq8 m m)).trans (by kernel_rfl)
theorem qsD (m a0 a1):Ja (m+1) a0 a1=tb.runP1 m i76 [] (a0,a1,()):=by kernel_rfl
def qmr (m k x0 x1 x2 x3 x4 x5):=tb.PL i77 3 m k [(1,.ptr 0 0),(3,.i .i64 x0),(4,.i .i64 x1)] ⟨[[.i .i64 x2,.s x3,.i .i64 x4,.sl .term x5 1]],[]⟩
theorem qtY (m k):J7 m (yz m) k=qmr m k:=qQ (M:=qmr m) rfl (λ _=>by kernel_rfl) k
theorem qvs (m a0):yz (m+1) a0=tb.runP1 m i77 [] (a0,()):=(congrArg (λ L=>qeB m (yz m) L a0) (qtY m m)).trans (by kernel_rfl)
def qjg (m k x0 x1 x2 x3 x4 x5 x6 x7 x8):=tb.PL i50 18 m k [(2,.ptr 0 0),(3,.ptr 1 0),(9,.i .i64 x0)] ⟨[[.i .i64 x1,.s x2,.i .i64 x3,.sl .term x4 1],[.i .i64 x5,.s x6,.i .i64 x7,.sl .term x8 1]],[]⟩
theorem qpb (m k):Qi m (zi m) k=qjg m k:=qQ (M:=qjg m) rfl (λ _=>by kernel_rfl) k
theorem qpu (m a0 a1):zi (m+1) a0 a1=tb.runP1 m i50 [] (a0,a1,()):=(congrArg (λ L=>qbK m (zi m) L a0 a1) (qpb m m)).trans (by kernel_rfl)
theorem qvS (m a0 a1):yR (m+1) a0 a1=tb.runP1 m i17 [] (a0,a1,()):=by kernel_rfl
def qjb (m k x0 x1 x2 x3 x4 x5 x6 x7 x8 x9 x10):=tb.PL i21 5 m k [(1,.ptr 0 0),(3,.i .i64 x0),(39,.sl (.pair (.int .i64) .term) x1 1),(40,.i .i64 x2),(41,.i .i64 x3)] ⟨[[.i .i64 x4,.s x5,.i .i64 x6,.sl .term x7 1,.i .i64 x8,.sl (.pair (.int .i64) .term) x9 1,.i .i64 x10]],[]⟩
theorem qo0 (m k):qjJ m k=qjb m k:=qQ (M:=qjb m) rfl (λ _=>by kernel_rfl) k
theorem qpx (m a0):qhr (m+1) a0=tb.runP1 m i21 [] (a0,()):=(congrArg (λ L=>qiX m L a0) (qo0 m m)).trans (by kernel_rfl)
def qkw (m k x0 x1 x2 x3 x4 x5 x6 x7 x8 x9 x10 x11 x12 x13 x14 x15 x16 x17):=tb.QL i51 4 m k [(1,.ptr 0 0),(2,.ptr 1 0),(3,.row 2 0),(11,.sl (.pair (.int .i64) .term) x0 1),(12,.i .i64 x1),(13,.i .i64 x2)] ⟨[[.i .i64 x3,.s x4,.i .i64 x5,.sl .term x6 1,.i .i64 x7,.sl (.pair (.int .i64) .term) x8 1,.i .i64 x9],[.i .i64 x10,.s x11,.i .i64 x12,.row 0 0,.i .i64 x13,.row 1 0,.i .i64 x14]],[⟨.term,x15,0,0,false⟩,⟨(.pair (.int .i64) .term),x16,0,0,false⟩,⟨(.pair (.int .i64) .term),x17,0,0,false⟩]⟩
theorem qrV (m k):qmG m k=qkw m k:=qQ (M:=qkw m) rfl (λ _=>by kernel_rfl) k
theorem qtP (m a0):qkk (m+1) a0=tb.runS1 m i51 (a0,()):=(congrArg (λ L=>qkG m L a0) (qrV m m)).trans (by kernel_rfl)
theorem qo4 (m a0 a1):qdt (m+1) a0 a1=tb.runP1 m i54 [] (a0,a1,()):=by kernel_rfl
def qgR (m k x0 x1 x2 x3 x4 x5 x6 x7 x8 x9 x10 x11 x12 x13 x14 x15 x16 x17 x18 x19 x20 x21 x22):=tb.PL i19 17 m k [(3,.ptr 0 0),(4,.ptr 1 0),(5,.ptr 2 0),(7,.ptr 3 0)] ⟨[[.i .i64 x0,.i .i64 x1,.s x2,.i .i64 x3,.sl .term x4 1],[.i .i64 x5,.s x6,.i .i64 x7,.row 0 0,.i .i64 x8,.row 1 0,.i .i64 x9],[.i .i64 x10,.s x11,.i .i64 x12,.row 2 0],[.i .i64 x13,.s x14,.i .i64 x15,.sl .term x16 1,.i .i64 x17,.row 3 0,.i .i64 x18]],[⟨.term,x19,0,0,false⟩,⟨(.pair (.int .i64) .term),x20,0,0,false⟩,⟨.term,x21,0,0,false⟩,⟨(.pair (.int .i64) .term),x22,0,0,false⟩]⟩
theorem qmP (m k):qhE m k=qgR m k:=qQ (M:=qgR m) rfl (λ _=>by kernel_rfl) k
theorem qnB (m a0 a1):qaE (m+1) a0 a1=tb.runP1 m i19 [] (a0,a1,()):=(congrArg (λ L=>qg4 m L a0 a1) (qmP m m)).trans (by kernel_rfl)
theorem qvy (m a0 a1):qfu (m+1) a0 a1=tb.runP1 m i23 [] (a0,a1,()):=by kernel_rfl
theorem qv0 (m):qdC (m+1)=tb.runP1 m i22 [] (()):=by kernel_rfl
theorem qrF (m a0):JZ (m+1) a0=tb.runP1 m qHO [] (a0,()):=by kernel_rfl
theorem qsX (m a0):qcf (m+1) a0=tb.runP1 m qHQ [] (a0,()):=by kernel_rfl
def qmy (m k x0 x1):=tb.PL i86 2 m k [(0,.s x0),(3,.i .i64 x1)] ⟨[],[]⟩
theorem qtX (m k):qn1 m k=qmy m k:=qQ (M:=qmy m) rfl (λ _=>by kernel_rfl) k
theorem qwl (m a0):qfY (m+1) a0=tb.runP1 m i86 [] (a0,()):=(congrArg (λ L=>qmC m L a0) (qtX m m)).trans (by kernel_rfl)
def qjV (m k x0 x1):=tb.PL i87 4 m k [(0,.s x0),(3,.i .i64 x1)] ⟨[],[]⟩
theorem qqi (m k):QE m k=qjV m k:=qQ (M:=qjV m) rfl (λ _=>by kernel_rfl) k
theorem qrZ (m a0):Qh (m+1) a0=tb.runP1 m i87 [] (a0,()):=(congrArg (λ L=>qco m L a0) (qqi m m)).trans (by kernel_rfl)
theorem qv6 (m a0):qlm (m+1) a0=tb.runP1 m qIb [] (a0,()):=by kernel_rfl
def qmp (m k x0 x1 x2 x3 x4 x5 x6 x7 x8 x9 x10):=tb.PL i88 5 m k [(1,.s x0),(2,.ptr 0 0),(4,.ptr 1 0),(7,.s x1),(8,.i .i64 x2)] ⟨[[.i .i64 x3,.s x4,.i .i64 x5,.sl .term x6 1],[.i .i64 x7,.s x8,.i .i64 x9,.row 0 0]],[⟨.term,x10,0,0,false⟩]⟩
theorem quc (m k):qoa m k=qmp m k:=qQ (M:=qmp m) rfl (λ _=>by kernel_rfl) k
theorem qvz (m a0 a1):qh9 (m+1) a0 a1=tb.runP1 m i88 [] (a0,a1,()):=(congrArg (λ L=>qmE m L a0 a1) (quc m m)).trans (by kernel_rfl)
def qmL (m k x0 x1 x2 x3 x4 x5 x6 x7 x8 x9):=tb.PL i66 13 m k [(0,.s x0),(1,.i .i64 x1),(4,.ptr 0 0),(7,.ptr 1 0)] ⟨[[.i .i64 x2,.s x3,.i .i64 x4,.row 0 0],[.i .i64 x5,.s x6,.i .i64 x7,.row 1 0]],[⟨.term,x8,0,0,false⟩,⟨.term,x9,0,0,false⟩]⟩
theorem qsO (m k):qns m (qe9 m) k=qmL m k:=qQ (M:=qmL m) rfl (λ _=>by kernel_rfl) k
theorem qvo (m a0 a1):qe9 (m+1) a0 a1=tb.runP1 m i66 [] (a0,a1,()):=(congrArg (λ L=>qmK m (qe9 m) L a0 a1) (qsO m m)).trans (by kernel_rfl)
theorem qvE (m a0):qfC (m+1) a0=tb.runP1 m qIu [] (a0,()):=by kernel_rfl
def qkU (m k x0 x1 x2 x3 x4):=tb.PL i89 5 m k [(1,.ptr 0 0),(4,.i .i64 x0)] ⟨[[.i .i64 x1,.s x2,.i .i64 x3,.sl .term x4 1]],[]⟩
theorem qrK (m k):Jq m (yH m) k=qkU m k:=qQ (M:=qkU m) rfl (λ _=>by kernel_rfl) k
theorem qtU (m a0):yH (m+1) a0=tb.runP1 m i89 [] (a0,()):=(congrArg (λ L=>qds m (yH m) L a0) (qrK m m)).trans (by kernel_rfl)
def qkD (m k x0 x1 x2 x3 x4 x5):=tb.PL i90 3 m k [(1,.ptr 0 0),(3,.i .i64 x0),(4,.i .i64 x1)] ⟨[[.i .i64 x2,.s x3,.i .i64 x4,.sl .term x5 1]],[]⟩
theorem qr7 (m k):Js m (yK m) k=qkD m k:=qQ (M:=qkD m) rfl (λ _=>by kernel_rfl) k
theorem qsQ (m a0):yK (m+1) a0=tb.runP1 m i90 [] (a0,()):=(congrArg (λ L=>qdF m (yK m) L a0) (qr7 m m)).trans (by kernel_rfl)
theorem qt9 (m a0):zI (m+1) a0=tb.runP1 m i67 [] (a0,()):=by kernel_rfl
theorem qt4 (m a0):qgK (m+1) a0=tb.runP1 m i38 [] (a0,()):=by kernel_rfl
theorem qqE (m):qex (m+1)=tb.runP1 m qIy [] (()):=by kernel_rfl
def qmu (m k x0 x1 x2):=tb.PL qFk 3 m k [(0,.s x0),(3,.sl (.pair .str (.pair (.int .i64) (.pair (.int .i64) (.int .i64)))) x1 1),(4,.i .i64 x2)] ⟨[],[]⟩
theorem qtH (m k):JV m k=qmu m k:=qQ (M:=qmu m) rfl (λ _=>by kernel_rfl) k
theorem qwi (m a0):qb1 (m+1) a0=tb.runP1 m qFk [] (a0,()):=(congrArg (λ L=>qet m L a0) (qtH m m)).trans (by kernel_rfl)
def qmJ (m k x0 x1 x2 x3 x4 x5):=tb.PL qE5 3 m k [(1,.ptr 0 0),(3,.sl (.pair .str (.pair (.int .i64) (.pair (.int .i64) (.int .i64)))) x0 1),(4,.i .i64 x1)] ⟨[[.i .i64 x2,.s x3,.i .i64 x4,.sl .term x5 1]],[]⟩
theorem qtG (m k):JU m k=qmJ m k:=qQ (M:=qmJ m) rfl (λ _=>by kernel_rfl) k
theorem qvt (m a0):qf4 (m+1) a0=tb.runP1 m qE5 [] (a0,()):=(congrArg (λ L=>qew m L a0) (qtG m m)).trans (by kernel_rfl)
def qjT (m k x0 x1 x2 x3 x4):=tb.PL qFu 4 m k [(1,.ptr 0 0),(3,.i .i64 x0)] ⟨[[.i .i64 x1,.s x2,.i .i64 x3,.sl .term x4 1]],[]⟩
theorem qpQ (m k):QS m k=qjT m k:=qQ (M:=qjT m) rfl (λ _=>by kernel_rfl) k
theorem qq3 (m a0):qcU (m+1) a0=tb.runP1 m qFu [] (a0,()):=(congrArg (λ L=>qcz m L a0) (qpQ m m)).trans (by kernel_rfl)
def qkN (m k x0 x1 x2 x3 x4):=tb.PL qEs 11 m k [(1,.ptr 0 0),(4,.i .i64 x0)] ⟨[[.i .i64 x1,.s x2,.i .i64 x3,.sl .term x4 1]],[]⟩
theorem qr4 (m k):Qs m (yq m) k=qkN m k:=qQ (M:=qkN m) rfl (λ _=>by kernel_rfl) k
theorem qsT (m a0):yq (m+1) a0=tb.runP1 m qEs [] (a0,()):=(congrArg (λ L=>qdA m (yq m) L a0) (qr4 m m)).trans (by kernel_rfl)
theorem qtZ (m a0):qee (m+1) a0=tb.runP1 m qIH [] (a0,()):=by kernel_rfl
theorem qyx (m a0 a1):yu (m+1) a0 a1=tb.runP1 m i64 [] (a0,a1,()):=by kernel_rfl
theorem qze (m a0 a1):J1 (m+1) a0 a1=tb.runP1 m i79 [] (a0,a1,()):=by kernel_rfl
theorem qqR (m a0):qb5 (m+1) a0=tb.runP1 m qIO [] (a0,()):=by kernel_rfl
def qm8 (m k x0 x1 x2 x3 x4 x5):=tb.PL i81 2 m k [(0,.sl .term x0 1),(3,.ptr 0 0),(5,.i .i64 x1)] ⟨[[.i .i64 x2,.s x3,.i .i64 x4,.sl .term x5 1]],[]⟩
theorem qvD (m k):qaN m k=qm8 m k:=qQ (M:=qm8 m) rfl (λ _=>by kernel_rfl) k
theorem qxv (m a0 a1):qg8 (m+1) a0 a1=tb.runP1 m i81 [] (a0,a1,()):=(congrArg (λ L=>qfj m L a0 a1) (qvD m m)).trans (by kernel_rfl)
def qob (m k x0 x1 x2 x3 x4 x5 x6 x7):=tb.PL i85 4 m k [(0,.sl .term x0 1),(3,.ptr 0 0),(5,.row 0 0),(6,.b x1),(7,.i .i64 x2)] ⟨[[.i .i64 x3,.s x4,.i .i64 x5,.sl .term x6 1]],[⟨.term,x7,0,0,false⟩]⟩
theorem qvv (m k):qaZ m k=qob m k:=qQ (M:=qob m) rfl (λ _=>by kernel_rfl) k
theorem qx5 (m a0 a1):qe4 (m+1) a0 a1=tb.runP1 m i85 [] (a0,a1,()):=(congrArg (λ L=>qfn m L a0 a1) (qvv m m)).trans (by kernel_rfl)
def qju (m k x0 x1 x2 x3 x4 x5 x6):=tb.PL qEX 5 m k [(0,.sl .term x0 1),(3,.ptr 0 0),(5,.row 0 0),(6,.i .i64 x1)] ⟨[[.i .i64 x2,.s x3,.i .i64 x4,.sl .term x5 1]],[⟨.term,x6,0,0,false⟩]⟩
theorem qqf (m k):QR m k=qju m k:=qQ (M:=qju m) rfl (λ _=>by kernel_rfl) k
theorem qsk (m a0 a1):qdj (m+1) a0 a1=tb.runP1 m qEX [] (a0,a1,()):=(congrArg (λ L=>qcp m L a0 a1) (qqf m m)).trans (by kernel_rfl)
def qmM (m k x0 x1 x2):=tb.PL qEx 3 m k [(1,.sl .term x0 1),(5,.sl .term x1 1),(6,.i .i64 x2)] ⟨[],[]⟩
theorem qs9 (m k):Je m k=qmM m k:=qQ (M:=qmM m) rfl (λ _=>by kernel_rfl) k
theorem qvG (m a0 a1):qdy (m+1) a0 a1=tb.runP1 m qEx [] (a0,a1,()):=(congrArg (λ L=>qeC m L a0 a1) (qs9 m m)).trans (by kernel_rfl)
def qhF (m k x0 x1 x2 x3 x4 x5):=tb.PL qFL 7 m k [(1,.ptr 0 0),(3,.sl .term x0 1),(4,.i .i64 x1)] ⟨[[.i .i64 x2,.s x3,.i .i64 x4,.sl .term x5 1]],[]⟩
theorem qom (m k):ji m (zr m) k=qhF m k:=qQ (M:=qhF m) rfl (λ _=>by kernel_rfl) k
theorem qo9 (m a0):zr (m+1) a0=tb.runP1 m qFL [] (a0,()):=(congrArg (λ L=>qbc m (zr m) L a0) (qom m m)).trans (by kernel_rfl)
def qkH (m k x0 x1 x2 x3 x4 x5):=tb.PL qEg 4 m k [(0,.sl .term x0 1),(3,.ptr 0 0),(5,.i .i64 x1)] ⟨[[.i .i64 x2,.s x3,.i .i64 x4,.sl .term x5 1]],[]⟩
theorem qsh (m k):Jt m k=qkH m k:=qQ (M:=qkH m) rfl (λ _=>by kernel_rfl) k
theorem quh (m a0 a1):qd9 (m+1) a0 a1=tb.runP1 m qEg [] (a0,a1,()):=(congrArg (λ L=>qdH m L a0 a1) (qsh m m)).trans (by kernel_rfl)
theorem qvV (m):qfo (m+1)=tb.runP1 m qHN [] (()):=by kernel_rfl
theorem qvL (m a0):qfw (m+1) a0=tb.runP1 m qH1 [] (a0,()):=by kernel_rfl
def qm4 (m k x0 x1 x2 x3 x4 x5 x6):=tb.PL qEo 6 m k [(0,.sl .term x0 1),(2,.ptr 0 0),(5,.sl .term x1 1),(6,.i .i64 x2)] ⟨[[.i .i64 x3,.s x4,.i .i64 x5,.row 0 0]],[⟨.term,x6,0,0,true⟩]⟩
theorem qvY (m k):qaL m k=qm4 m k:=qQ (M:=qm4 m) rfl (λ _=>by kernel_rfl) k
theorem qx9 (m a0):qgS (m+1) a0=tb.runP1 m qEo [] (a0,()):=(congrArg (λ L=>qe8 m L a0) (qvY m m)).trans (by kernel_rfl)
theorem qp1 (m a0):Jp (m+1) a0=tb.runP1 m qIK [] (a0,()):=by kernel_rfl
def qkR (m k x0 x1 x2 x3 x4 x5):=tb.PL qEm 7 m k [(1,.ptr 0 0),(3,.i .i64 x0),(4,.i .i64 x1)] ⟨[[.i .i64 x2,.s x3,.i .i64 x4,.sl .term x5 1]],[]⟩
theorem qq2 (m k):Qq m (yn m) k=qkR m k:=qQ (M:=qkR m) rfl (λ _=>by kernel_rfl) k
theorem qtC (m a0):yn (m+1) a0=tb.runP1 m qEm [] (a0,()):=(congrArg (λ L=>qdM m (yn m) L a0) (qq2 m m)).trans (by kernel_rfl)
def qnI (m k x0 x1 x2 x3 x4 x5 x6 x7 x8):=tb.QL qEW 4 m k [(0,.row 0 0),(2,.i .i64 x0),(4,.ptr 0 0),(7,.row 1 0),(8,.b x1),(9,.i .i64 x2)] ⟨[[.i .i64 x3,.s x4,.i .i64 x5,.sl .term x6 1]],[⟨(.pair .term (.int .i64)),x7,0,0,false⟩,⟨(.pair .term (.int .i64)),x8,0,0,false⟩]⟩
theorem qv4 (m k):Q3 m k=qnI m k:=qQ (M:=qnI m) rfl (λ _=>by kernel_rfl) k
theorem qwI (m a0 a1 a2):qe1 (m+1) a0 a1 a2=tb.runS1 m qEW (a0,a1,a2,()):=(congrArg (λ L=>qfH m L a0 a1 a2) (qv4 m m)).trans (by kernel_rfl)
def qjh (m k x0 x1 x2 x3 x4 x5 x6):=tb.QL qFf 6 m k [(0,.row 0 0),(2,.i .i64 x0),(4,.ptr 0 0),(7,.i .i64 x1)] ⟨[[.i .i64 x2,.s x3,.i .i64 x4,.sl .term x5 1]],[⟨(.pair .term (.int .i64)),x6,0,0,false⟩]⟩
theorem qoV (m k):jv m (zG m) k=qjh m k:=qQ (M:=qjh m) rfl (λ _=>by kernel_rfl) k
theorem qp3 (m a0 a1 a2):zG (m+1) a0 a1 a2=tb.runS1 m qFf (a0,a1,a2,()):=(congrArg (λ L=>qbW m (zG m) L a0 a1 a2) (qoV m m)).trans (by kernel_rfl)
theorem qzg (m a0):qeO (m+1) a0=tb.runP1 m qId [] (a0,()):=by kernel_rfl
def qkF (m k x0 x1):=tb.PL qFe 4 m k [(0,.sl (.pair .term (.int .i64)) x0 1),(3,.i .i64 x1)] ⟨[],[]⟩
theorem qr9 (m k):Qt m k=qkF m k:=qQ (M:=qkF m) rfl (λ _=>by kernel_rfl) k
theorem qsY (m a0):qaX (m+1) a0=tb.runP1 m qFe [] (a0,()):=(congrArg (λ L=>qdG m L a0) (qr9 m m)).trans (by kernel_rfl)
def qhP (m k x0 x1 x2):=tb.PL qsP 3 m k [(0,.sl (.pair .term (.int .i64)) x0 1),(3,.row 0 0),(4,.i .i64 x1)] ⟨[],[⟨.term,x2,0,0,false⟩]⟩
def qhK (m k x0 x1 x2 x3):=tb.PL qsP 6 m k [(0,.sl (.pair .term (.int .i64)) x0 1),(3,.row 0 0),(4,.i .i64 x1),(5,.i .i64 x2)] ⟨[],[⟨.term,x3,0,0,false⟩]⟩
def qhO (m k x0 x1 x2):=tb.PL qsP 10 m k [(0,.sl (.pair .term (.int .i64)) x0 1),(3,.row 0 0),(6,.i .i64 x1)] ⟨[],[⟨.term,x2,0,0,false⟩]⟩
def qhC (m k x0 x1 x2 x3):=tb.PL qsP 13 m k [(0,.sl (.pair .term (.int .i64)) x0 1),(3,.row 0 0),(6,.i .i64 x1),(7,.i .i64 x2)] ⟨[],[⟨.term,x3,0,0,false⟩]⟩
theorem qnv (m k):qk m k=(qhP m k,qhK m k,qhO m k,qhC m k):=qQ (M := λ k=>(qhP m k,qhK m k,qhO m k,qhC m k)) rfl (λ _=>by kernel_rfl) k
theorem qo6 (m a0):qbt (m+1) a0=tb.runP1 m qsP [] (a0,()):=(congrArg (a₁ := qk m m) (λ L=>qa5 m L.1 L.2.1 L.2.2.1 L.2.2.2 a0) (qnv m m)).trans (by kernel_rfl)
theorem qvN (m a0):qaA (m+1) a0=tb.runP1 m qHM [] (a0,()):=by kernel_rfl
theorem qqU (m a0):qam (m+1) a0=tb.runP1 m qII [] (a0,()):=by kernel_rfl
def qiH (m k x0 x1):=tb.PL qEf 2 m k [(0,.sl (.pair .term (.int .i64)) x0 1),(3,.i .i64 x1)] ⟨[],[]⟩
theorem qo3 (m k):Qj m k=qiH m k:=qQ (M:=qiH m) rfl (λ _=>by kernel_rfl) k
theorem qpI (m a0):qb8 (m+1) a0=tb.runP1 m qEf [] (a0,()):=(congrArg (λ L=>qbQ m L a0) (qo3 m m)).trans (by kernel_rfl)
def qn6 (m k x0 x1 x2):=tb.PL qE9 9 m k [(1,.sl (.pair .term (.int .i64)) x0 1),(8,.row 0 0),(9,.i .i64 x1)] ⟨[],[⟨(.pair .term (.int .i64)),x2,0,0,false⟩]⟩
theorem qv5 (m k):JO m k=qn6 m k:=qQ (M:=qn6 m) rfl (λ _=>by kernel_rfl) k
theorem qyP (m a0 a1):qg3 (m+1) a0 a1=tb.runP1 m qE9 [] (a0,a1,()):=(congrArg (λ L=>qfI m L a0 a1) (qv5 m m)).trans (by kernel_rfl)
theorem qtr (m a0 a1):qed (m+1) a0 a1=tb.runP1 m qHJ [] (a0,a1,()):=by kernel_rfl
def qjr (m k x0 x1 x2 x3 x4 x5 x6 x7 x8 x9):=tb.PL qED 5 m k [(1,.ptr 0 0),(2,.ptr 1 0),(4,.row 1 0),(5,.i .i64 x0)] ⟨[[.i .i64 x1,.s x2,.i .i64 x3,.sl .term x4 1],[.i .i64 x5,.s x6,.i .i64 x7,.row 0 0]],[⟨.term,x8,0,0,false⟩,⟨.term,x9,0,0,false⟩]⟩
theorem qqO (m k):QD m (ye m) k=qjr m k:=qQ (M:=qjr m) rfl (λ _=>by kernel_rfl) k
theorem qrr (m a0):ye (m+1) a0=tb.runP1 m qED [] (a0,()):=(congrArg (λ L=>qcs m (ye m) L a0) (qqO m m)).trans (by kernel_rfl)
theorem qrB (m a0):qdc (m+1) a0=tb.runP1 m i98 [] (a0,()):=by kernel_rfl
def qnQ (m k x0 x1 x2 x3 x4 x5):=tb.PL i99 3 m k [(1,.ptr 0 0),(3,.row 0 0),(4,.i .i64 x0)] ⟨[[.i .i64 x1,.s x2,.i .i64 x3,.sl .term x4 1]],[⟨.term,x5,0,0,true⟩]⟩
theorem qv3 (m k):qaS m (jk m) k=qnQ m k:=qQ (M:=qnQ m) rfl (λ _=>by kernel_rfl) k
theorem qya (m a0):jk (m+1) a0=tb.runP1 m i99 [] (a0,()):=(congrArg (λ L=>qfp m (jk m) L a0) (qv3 m m)).trans (by kernel_rfl)
def qkQ (m k x0 x1):=tb.PL i71 6 m k [(5,.sl .term x0 1),(6,.i .i64 x1)] ⟨[],[]⟩
theorem qq7 (m k):Jr m k=qkQ m k:=qQ (M:=qkQ m) rfl (λ _=>by kernel_rfl) k
theorem qtW (m a0):qd8 (m+1) a0=tb.runP1 m i71 [] (a0,()):=(congrArg (λ L=>qdE m L a0) (qq7 m m)).trans (by kernel_rfl)
def qm1 (m k x0 x1 x2):=tb.PL i62 3 m k [(0,.sl .term x0 1),(3,.sl .term x1 1),(4,.i .i64 x2)] ⟨[],[]⟩
theorem qv9 (m k):qaY m k=qm1 m k:=qQ (M:=qm1 m) rfl (λ _=>by kernel_rfl) k
theorem qyr (m a0):qhd (m+1) a0=tb.runP1 m i62 [] (a0,()):=(congrArg (λ L=>qfQ m L a0) (qv9 m m)).trans (by kernel_rfl)
def qmA (m k x0 x1 x2 x3):=tb.PL qFr 4 m k [(1,.i .i64 x0),(5,.row 0 0),(6,.sl .term x1 1),(7,.i .i64 x2)] ⟨[],[⟨.term,x3,0,0,false⟩]⟩
theorem qtI (m k):J5 m k=qmA m k:=qQ (M:=qmA m) rfl (λ _=>by kernel_rfl) k
theorem qvp (m a0 a1):qfA (m+1) a0 a1=tb.runP1 m qFr [] (a0,a1,()):=(congrArg (λ L=>qeA m L a0 a1) (qtI m m)).trans (by kernel_rfl)
theorem qvJ (m a0):qfN (m+1) a0=tb.runP1 m qH7 [] (a0,()):=by kernel_rfl
theorem qrO (m a0):qcL (m+1) a0=tb.runP1 m i72 [] (a0,()):=by kernel_rfl
theorem qrR (m a0):Qf (m+1) a0=tb.runP1 m i43 [] (a0,()):=by kernel_rfl
theorem qwX (m a0):qeZ (m+1) a0=tb.runP1 m i13 [] (a0,()):=by kernel_rfl
def qkT (m k x0 x1 x2 x3 x4 x5 x6 x7 x8):=tb.PL i25 5 m k [(1,.ptr 0 0),(3,.i .i64 x0),(4,.i .i64 x1)] ⟨[[.i .i64 x2,.s x3,.i .i64 x4,.sl .term x5 1,.i .i64 x6,.sl (.pair (.int .i64) .term) x7 1,.i .i64 x8]],[]⟩
theorem qq6 (m k):qmo m k=qkT m k:=qQ (M:=qkT m) rfl (λ _=>by kernel_rfl) k
theorem qsZ (m a0):qj8 (m+1) a0=tb.runP1 m i25 [] (a0,()):=(congrArg (λ L=>qk1 m L a0) (qq6 m m)).trans (by kernel_rfl)
theorem qpG (m a0 a1):qao (m+1) a0 a1=tb.runP1 m i75 [] (a0,a1,()):=by kernel_rfl
theorem qwg (m a0):qdq (m+1) a0=tb.runP1 m i47 [] (a0,()):=by kernel_rfl
theorem qvW (m a0):qav (m+1) a0=tb.runP1 m i48 [] (a0,()):=by kernel_rfl
theorem qyc (m a0):qe5 (m+1) a0=tb.runP1 m i49 [] (a0,()):=by kernel_rfl
theorem qwf (m a0 a1):qlj (m+1) a0 a1=tb.runP1 m i35 [] (a0,a1,()):=by kernel_rfl
def qmI (m k x0 x1 x2 x3 x4 x5 x6 x7 x8 x9):=tb.PL i39 4 m k [(0,.i .i64 x0),(3,.ptr 0 0),(5,.row 0 0),(6,.i .i64 x1)] ⟨[[.i .i64 x2,.s x3,.i .i64 x4,.sl .term x5 1,.i .i64 x6,.sl (.pair (.int .i64) .term) x7 1,.i .i64 x8]],[⟨(.pair (.int .i64) .term),x9,0,0,false⟩]⟩
theorem qtj (m k):qnk m k=qmI m k:=qQ (M:=qmI m) rfl (λ _=>by kernel_rfl) k
theorem qvZ (m a0):qlS (m+1) a0=tb.runP1 m i39 [] (a0,()):=(congrArg (λ L=>qmN m L a0) (qtj m m)).trans (by kernel_rfl)
theorem qtg (m):qaK (m+1)=tb.runP1 m i10 [] (()):=by kernel_rfl
def qjy (m k x0 x1 x2 x3 x4 x5):=tb.PL i40 5 m k [(1,.i .i64 x0),(2,.ptr 0 0),(5,.i .i64 x1)] ⟨[[.i .i64 x2,.s x3,.i .i64 x4,.sl .term x5 1]],[]⟩
theorem qp9 (m k):QN m (yi m) k=qjy m k:=qQ (M:=qjy m) rfl (λ _=>by kernel_rfl) k
theorem qrG (m a0 a1):yi (m+1) a0 a1=tb.runP1 m i40 [] (a0,a1,()):=(congrArg (λ L=>qcE m (yi m) L a0 a1) (qp9 m m)).trans (by kernel_rfl)
def qmX (m k x0 x1 x2):=tb.PL i11 4 m k [(0,.sl .term x0 1),(2,.i .i64 x1),(7,.i .i64 x2)] ⟨[],[]⟩
theorem qvB (m k):qaM m k=qmX m k:=qQ (M:=qmX m) rfl (λ _=>by kernel_rfl) k
theorem qyH (m a0 a1 a2):qhg (m+1) a0 a1 a2=tb.runP1 m i11 [] (a0,a1,a2,()):=(congrArg (λ L=>qfD m L a0 a1 a2) (qvB m m)).trans (by kernel_rfl)
def qnR (m k x0 x1 x2 x3 x4 x5 x6 x7 x8):=tb.PL i15 5 m k [(1,.i .i64 x0),(2,.ptr 0 0),(4,.ptr 1 0)] ⟨[[.i .i64 x1,.s x2,.i .i64 x3,.sl .term x4 1],[.i .i64 x5,.s x6,.i .i64 x7,.row 0 0]],[⟨.term,x8,0,0,false⟩]⟩
theorem qwc (m k):qaQ m k=qnR m k:=qQ (M:=qnR m) rfl (λ _=>by kernel_rfl) k
theorem qw9 (m a0 a1):qgY (m+1) a0 a1=tb.runP1 m i15 [] (a0,a1,()):=(congrArg (λ L=>qfM m L a0 a1) (qwc m m)).trans (by kernel_rfl)
def qmB (m k x0 x1 x2 x3 x4 x5 x6 x7 x8 x9 x10 x11 x12 x13 x14):=tb.PL i16 4 m k [(2,.ptr 0 0),(3,.ptr 1 0),(5,.i .i64 x0)] ⟨[[.i .i64 x1,.s x2,.i .i64 x3,.sl .term x4 1,.i .i64 x5,.sl (.pair (.int .i64) .term) x6 1,.i .i64 x7],[.i .i64 x8,.s x9,.i .i64 x10,.sl .term x11 1,.i .i64 x12,.sl (.pair (.int .i64) .term) x13 1,.i .i64 x14]],[]⟩
theorem qti (m k):JY m k=qmB m k:=qQ (M:=qmB m) rfl (λ _=>by kernel_rfl) k
theorem qvq (m a0 a1):qfL (m+1) a0 a1=tb.runP1 m i16 [] (a0,a1,()):=(congrArg (λ L=>qey m L a0 a1) (qti m m)).trans (by kernel_rfl)
theorem qmT (m a0 a1):law53_RatchetNew (m+1) a0 a1=tb.runP1 m i3 [] (a0,a1,()):=by kernel_rfl
end Go.AmYtbpnmbmdbblehaaGreat
namespace Go.Proofs
open Go.Shelf
def Tryz.sortTrm_ren:Go.Shelf.Ren:=⟨λ | 6=>154 | 15=>187 | 14=>186 | 28=>212 | 29=>213 | 20=>204 | 21=>205 | 22=>206 | 23=>207 | 24=>208 | 25=>209 | 26=>210 | 27=>211 | 46=>225 | 47=>226 | 48=>227 | 49=>228 | 50=>229 | 57=>236 | n=>n,λ | 22=>22 | 24=>24 | 25=>78 | 3=>3 | 39=>172 | 0=>0 | 53=>194 | 55=>196 | 4=>4 | 46=>187 | 45=>186 | 50=>191 | 5=>5 | 9=>9 | 66=>210 | 70=>100 | 76=>222 | 77=>223 | n=>n,λ | n=>n⟩
theorem Tryz.sortTrm:Go.Proofs.SlLaysF0.n6 Tryz.prog Tryz.sortTrm_ren:={
 mixed:=by kernel_rfl
 f6:=⟨Tryz.f154.name,by decide,Tryz.func154.trans (congrArg some (by kernel_rfl))⟩
 f14:=⟨Tryz.f186.name,by decide,Tryz.func186.trans (congrArg some (by kernel_rfl))⟩
 f15:=Tryz.func187.trans (congrArg some (by kernel_rfl))
 f20:=⟨Tryz.f204.name,by decide,Tryz.func204.trans (congrArg some (by kernel_rfl))⟩
 f21:=⟨Tryz.f205.name,by decide,Tryz.func205.trans (congrArg some (by kernel_rfl))⟩
 f22:=⟨Tryz.f206.name,by decide,Tryz.func206.trans (congrArg some (by kernel_rfl))⟩
 f23:=⟨Tryz.f207.name,by decide,Tryz.func207.trans (congrArg some (by kernel_rfl))⟩
 f24:=⟨Tryz.f208.name,by decide,Tryz.func208.trans (congrArg some (by kernel_rfl))⟩
 f25:=⟨Tryz.f209.name,by decide,Tryz.func209.trans (congrArg some (by kernel_rfl))⟩
 f26:=⟨Tryz.f210.name,by decide,Tryz.func210.trans (congrArg some (by kernel_rfl))⟩
 f27:=⟨Tryz.f211.name,by decide,Tryz.func211.trans (congrArg some (by kernel_rfl))⟩
 f28:=Tryz.func212.trans (congrArg some (by kernel_rfl))
 f29:=Tryz.func213.trans (congrArg some (by kernel_rfl))
 f46:=⟨Tryz.f225.name,by decide,Tryz.func225.trans (congrArg some (by kernel_rfl))⟩
 f47:=Tryz.func226.trans (congrArg some (by kernel_rfl))
 f48:=Tryz.func227.trans (congrArg some (by kernel_rfl))
 f49:=⟨Tryz.f228.name,by decide,Tryz.func228.trans (congrArg some (by kernel_rfl))⟩
 f50:=⟨Tryz.f229.name,by decide,Tryz.func229.trans (congrArg some (by kernel_rfl))⟩
 f57:=⟨Tryz.f236.name,by decide,Tryz.func236.trans (congrArg some (by kernel_rfl))⟩
 t0:=Tryz.underlying0
 a0:=Tryz.isAgg0
 z0:=Tryz.sizeOf0
 v0:=Tryz.zeroValue0
 t3:=Tryz.underlying3
 a3:=Tryz.isAgg3
 z3:=Tryz.sizeOf3
 v3:=Tryz.zeroValue3
 t4:=Tryz.underlying4
 a4:=Tryz.isAgg4
 z4:=Tryz.sizeOf4
 v4:=Tryz.zeroValue4
 t5:=Tryz.underlying5
 a5:=Tryz.isAgg5
 z5:=Tryz.sizeOf5
 v5:=Tryz.zeroValue5
 t9:=Tryz.underlying9
 a9:=Tryz.isAgg9
 z9:=Tryz.sizeOf9
 v9:=Tryz.zeroValue9
 t22:=Tryz.underlying22
 a22:=Tryz.isAgg22
 z22:=Tryz.sizeOf22
 v22:=Tryz.zeroValue22
 t25:=Tryz.underlying78
 a25:=Tryz.isAgg78
 z25:=Tryz.sizeOf78
 v25:=Tryz.zeroValue78
 t39:=Tryz.underlying172
 a39:=Tryz.isAgg172
 z39:=Tryz.sizeOf172
 v39:=Tryz.zeroValue172
 t45:=Tryz.underlying186
 a45:=Tryz.isAgg186
 z45:=Tryz.sizeOf186
 v45:=Tryz.zeroValue186
 t46:=Tryz.underlying187
 a46:=Tryz.isAgg187
 z46:=Tryz.sizeOf187
 v46:=Tryz.zeroValue187
 t50:=Tryz.underlying191
 a50:=Tryz.isAgg191
 z50:=Tryz.sizeOf191
 v50:=Tryz.zeroValue191
 t53:=Tryz.underlying194
 a53:=Tryz.isAgg194
 z53:=Tryz.sizeOf194
 v53:=Tryz.zeroValue194
 t55:=Tryz.underlying196
 a55:=Tryz.isAgg196
 z55:=Tryz.sizeOf196
 v55:=Tryz.zeroValue196
 t66:=Tryz.underlying210
 a66:=Tryz.isAgg210
 z66:=Tryz.sizeOf210
 v66:=Tryz.zeroValue210
 t70:=Tryz.underlying100
 a70:=Tryz.isAgg100
 z70:=Tryz.sizeOf100
 v70:=Tryz.zeroValue100
 t76:=Tryz.underlying222
 a76:=Tryz.isAgg222
 z76:=Tryz.sizeOf222
 v76:=Tryz.zeroValue222
 t77:=Tryz.underlying223
 a77:=Tryz.isAgg223
 z77:=Tryz.sizeOf223
 v77:=Tryz.zeroValue223 }
end Go.Proofs
namespace Go.AmYtbpnmbmdbblehaaGreat
open Go Go.GxYtbpnmbmdbblehaaGreat
set_option linter.unusedVariables false
set_option maxRecDepth 100000
theorem qaV (m:Nat) (h:yj Go.Proofs.Tryz.prog (tb.at m).pc.cfg):qX Go.Proofs.Tryz.prog 154 (mgP ⟨.term,[.clo 78 0],λ x=>qS (m+1) x.1⟩):=qCz (τ := .term) Go.Proofs.Tryz.sortTrm (λ _=>rfl) Go.Proofs.Tryz.isAgg24 Go.Proofs.Tryz.sizeOf24 (qCp (τ := .term) (ρ := (.int .i64)) (qAD h (by kernel_rfl)) (F := λ x y=>qs m x y) (by kernel_rfl) (λ _=>rfl)) (QO Go.Proofs.Tryz.func154 (by kernel_rfl)) (λ _ _ h=>h)
theorem JW (m:Nat) (h:yj Go.Proofs.Tryz.prog (tb.at m).pc.cfg):qX Go.Proofs.Tryz.prog 155 (sgP ⟨[.row .term,.clo 156 0],[.one (.row .term)],λ x=>qF (m+1) x.1⟩):=qyL (qCp (τ := .term) (ρ := .bool) (qAD h (by kernel_rfl)) (F := λ x y=>ya m x y) (by kernel_rfl) (λ _=>rfl)) (λ _ _ h=>qBH h)
theorem tb_ok:∀ m,yj Go.Proofs.Tryz.prog (tb.at m).pc.cfg:=Tb.all_ok (by kernel_rfl) qCl (by kernel_rfl) ⟨nl1 ⟨Go.Proofs.Tryz.func121,λ _=>rfl,λ m a=>qsX m a.1,trivial⟩,⟨nl1 ⟨Go.Proofs.Tryz.func67,λ _=>rfl,λ m a=>qt9 m a.1,trivial⟩,⟨nl1 ⟨Go.Proofs.Tryz.func41,λ _=>rfl,λ m a=>qqF m a.1,trivial⟩,⟨nl1 ⟨Go.Proofs.Tryz.func19,λ _=>rfl,λ m a=>qnB m a.1 a.2.1,trivial⟩,⟨nl1 ⟨Go.Proofs.Tryz.func13,λ _=>rfl,λ m a=>qwX m a.1,trivial⟩,⟨nl1 ⟨Go.Proofs.Tryz.func11,λ _=>rfl,λ m a=>qyH m a.1 a.2.1 a.2.2.1,trivial⟩,⟨nl1 ⟨Go.Proofs.Tryz.func10,λ _=>rfl,λ m a=>qtg m,trivial⟩,⟨nl1 ⟨Go.Proofs.Tryz.func3,λ _=>rfl,λ m a=>qmT m a.1 a.2.1,trivial⟩,trivial,trivial⟩,trivial⟩,⟨nl1 ⟨Go.Proofs.Tryz.func12,λ _=>rfl,λ m a=>qsW m a.1,trivial⟩,trivial,trivial⟩⟩,⟨nl1 ⟨Go.Proofs.Tryz.func16,λ _=>rfl,λ m a=>qvq m a.1 a.2.1,trivial⟩,⟨nl1 ⟨Go.Proofs.Tryz.func15,λ _=>rfl,λ m a=>qw9 m a.1 a.2.1,trivial⟩,⟨nl1 ⟨Go.Proofs.Tryz.func14,λ _=>rfl,λ m a=>qtV m a.1 a.2.1,trivial⟩,trivial,trivial⟩,trivial⟩,⟨nl1 ⟨Go.Proofs.Tryz.func17,λ _=>rfl,λ m a=>qvS m a.1 a.2.1,trivial⟩,trivial,trivial⟩⟩⟩,⟨nl1 ⟨Go.Proofs.Tryz.func35,λ _=>rfl,λ m a=>qwf m a.1 a.2.1,trivial⟩,⟨nl1 ⟨Go.Proofs.Tryz.func23,λ _=>rfl,λ m a=>qvy m a.1 a.2.1,trivial⟩,⟨nl1 ⟨Go.Proofs.Tryz.func22,λ _=>rfl,λ m a=>qv0 m,trivial⟩,⟨nl1 ⟨Go.Proofs.Tryz.func21,λ _=>rfl,λ m a=>qpx m a.1,trivial⟩,trivial,trivial⟩,trivial⟩,⟨nl1 ⟨Go.Proofs.Tryz.func25,λ _=>rfl,λ m a=>qsZ m a.1,trivial⟩,trivial,trivial⟩⟩,⟨nl1 ⟨Go.Proofs.Tryz.func39,λ _=>rfl,λ m a=>qvZ m a.1,trivial⟩,⟨nl1 ⟨Go.Proofs.Tryz.func38,λ _=>rfl,λ m a=>qt4 m a.1,trivial⟩,trivial,trivial⟩,⟨nl1 ⟨Go.Proofs.Tryz.func40,λ _=>rfl,λ m a=>qrG m a.1 a.2.1,trivial⟩,trivial,trivial⟩⟩⟩⟩,⟨nl1 ⟨Go.Proofs.Tryz.func50,λ _=>rfl,λ m a=>qpu m a.1 a.2.1,trivial⟩,⟨nl1 ⟨Go.Proofs.Tryz.func46,λ _=>rfl,λ m a=>qs6 m a.1,trivial⟩,⟨nl1 ⟨Go.Proofs.Tryz.func44,λ _=>rfl,λ m a=>qsN m a.1,trivial⟩,⟨nl1 ⟨Go.Proofs.Tryz.func43,λ _=>rfl,λ m a=>qrR m a.1,trivial⟩,⟨nl1 ⟨Go.Proofs.Tryz.func42,λ _=>rfl,λ m a=>qoZ m a.1,trivial⟩,trivial,trivial⟩,trivial⟩,⟨nl1 ⟨Go.Proofs.Tryz.func45,λ _=>rfl,λ m a=>qvn m a.1,trivial⟩,trivial,trivial⟩⟩,⟨nl1 ⟨Go.Proofs.Tryz.func48,λ _=>rfl,λ m a=>qvW m a.1,trivial⟩,⟨nl1 ⟨Go.Proofs.Tryz.func47,λ _=>rfl,λ m a=>qwg m a.1,trivial⟩,trivial,trivial⟩,⟨nl1 ⟨Go.Proofs.Tryz.func49,λ _=>rfl,λ m a=>qyc m a.1,trivial⟩,trivial,trivial⟩⟩⟩,⟨nl1 ⟨Go.Proofs.Tryz.func62,λ _=>rfl,λ m a=>qyr m a.1,trivial⟩,⟨nl1 ⟨Go.Proofs.Tryz.func54,λ _=>rfl,λ m a=>qo4 m a.1 a.2.1,trivial⟩,⟨⟨jt,λ _ _=>jt⟩,⟨⟨Go.Proofs.Tryz.func51,λ _=>rfl,λ m a=>qtP m a.1⟩,trivial,trivial⟩,trivial⟩,⟨qc7 (m:=0),trivial,trivial⟩⟩,⟨nl1 ⟨Go.Proofs.Tryz.func65,λ _=>rfl,λ m a=>qnE m a.1 a.2.1,trivial⟩,⟨nl1 ⟨Go.Proofs.Tryz.func64,λ _=>rfl,λ m a=>qyx m a.1 a.2.1,trivial⟩,trivial,trivial⟩,⟨nl1 ⟨Go.Proofs.Tryz.func66,λ _=>rfl,λ m a=>qvo m a.1 a.2.1,trivial⟩,trivial,trivial⟩⟩⟩⟩⟩,⟨nl1 ⟨Go.Proofs.Tryz.func89,λ _=>rfl,λ m a=>qtU m a.1,trivial⟩,⟨nl1 ⟨Go.Proofs.Tryz.func76,λ _=>rfl,λ m a=>qsD m a.1 a.2.1,trivial⟩,⟨nl1 ⟨Go.Proofs.Tryz.func72,λ _=>rfl,λ m a=>qrO m a.1,trivial⟩,⟨nl1 ⟨Go.Proofs.Tryz.func70,λ _=>rfl,λ m a=>qBg m a.1 a.2.1,trivial⟩,⟨nl1 ⟨Go.Proofs.Tryz.func69,λ _=>rfl,λ m a=>qxW m a.1,trivial⟩,⟨nl1 ⟨Go.Proofs.Tryz.func68,λ _=>rfl,λ m a=>qrI m a.1,trivial⟩,trivial,trivial⟩,trivial⟩,⟨nl1 ⟨Go.Proofs.Tryz.func71,λ _=>rfl,λ m a=>qtW m a.1,trivial⟩,trivial,trivial⟩⟩,⟨⟨Go.Proofs.Tryz.func74,λ _=>rfl,λ m a=>qvu m a.1 a.2.1 a.2.2.1 a.2.2.2.1⟩,⟨nl1 ⟨Go.Proofs.Tryz.func73,λ _=>rfl,λ m a=>qtK m a.1,trivial⟩,trivial,trivial⟩,⟨nl1 ⟨Go.Proofs.Tryz.func75,λ _=>rfl,λ m a=>qpG m a.1 a.2.1,trivial⟩,trivial,trivial⟩⟩⟩,⟨nl1 ⟨Go.Proofs.Tryz.func85,λ _=>rfl,λ m a=>qx5 m a.1 a.2.1,trivial⟩,⟨nl1 ⟨Go.Proofs.Tryz.func79,λ _=>rfl,λ m a=>qze m a.1 a.2.1,trivial⟩,⟨nl1 ⟨Go.Proofs.Tryz.func78,λ _=>rfl,λ m a=>qsx m a.1 a.2.1,trivial⟩,⟨nl1 ⟨Go.Proofs.Tryz.func77,λ _=>rfl,λ m a=>qvs m a.1,trivial⟩,trivial,trivial⟩,trivial⟩,⟨nl1 ⟨Go.Proofs.Tryz.func81,λ _=>rfl,λ m a=>qxv m a.1 a.2.1,trivial⟩,trivial,trivial⟩⟩,⟨nl1 ⟨Go.Proofs.Tryz.func87,λ _=>rfl,λ m a=>qrZ m a.1,trivial⟩,⟨nl1 ⟨Go.Proofs.Tryz.func86,λ _=>rfl,λ m a=>qwl m a.1,trivial⟩,trivial,trivial⟩,⟨nl1 ⟨Go.Proofs.Tryz.func88,λ _=>rfl,λ m a=>qvz m a.1 a.2.1,trivial⟩,trivial,trivial⟩⟩⟩⟩,⟨nl1 ⟨Go.Proofs.Tryz.func98,λ _=>rfl,λ m a=>qrB m a.1,trivial⟩,⟨nl1 ⟨Go.Proofs.Tryz.func94,λ _=>rfl,λ m a=>qph m a.1,trivial⟩,⟨nl1 ⟨Go.Proofs.Tryz.func92,λ _=>rfl,λ m a=>qtD m a.1 a.2.1,trivial⟩,⟨nl1 ⟨Go.Proofs.Tryz.func91,λ _=>rfl,λ m a=>qqG m a.1,trivial⟩,⟨nl1 ⟨Go.Proofs.Tryz.func90,λ _=>rfl,λ m a=>qsQ m a.1,trivial⟩,trivial,trivial⟩,trivial⟩,⟨nl1 ⟨Go.Proofs.Tryz.func93,λ _=>rfl,λ m a=>qks m a.1,trivial⟩,trivial,trivial⟩⟩,⟨nl1 ⟨Go.Proofs.Tryz.func96,λ _=>rfl,λ m a=>qtv m a.1 a.2.1,trivial⟩,⟨nl1 ⟨Go.Proofs.Tryz.func95,λ _=>rfl,λ m a=>qqB m a.1,trivial⟩,trivial,trivial⟩,⟨nl1 ⟨Go.Proofs.Tryz.func97,λ _=>rfl,λ m a=>qwk m a.1,trivial⟩,trivial,trivial⟩⟩⟩,⟨nl1 ⟨Go.Proofs.Tryz.func103,λ _=>rfl,λ m a=>qyq m a.1 a.2.1,trivial⟩,⟨nl1 ⟨Go.Proofs.Tryz.func101,λ _=>rfl,λ m a=>qvJ m a.1,trivial⟩,⟨nl1 ⟨Go.Proofs.Tryz.func100,λ _=>rfl,λ m a=>qwi m a.1,trivial⟩,⟨nl1 ⟨Go.Proofs.Tryz.func99,λ _=>rfl,λ m a=>qya m a.1,trivial⟩,trivial,trivial⟩,trivial⟩,⟨nl1 ⟨Go.Proofs.Tryz.func102,λ _=>rfl,λ m a=>qt6 m a.1,trivial⟩,trivial,trivial⟩⟩,⟨λ c hc=>qlP (m:=0) hc,⟨nl1 ⟨Go.Proofs.Tryz.func104,λ _=>rfl,λ m a=>qyl m a.1,trivial⟩,trivial,trivial⟩,⟨nl1 ⟨Go.Proofs.Tryz.func120,λ _=>rfl,λ m a=>qrF m a.1,trivial⟩,trivial,trivial⟩⟩⟩⟩⟩⟩,⟨⟨Go.Proofs.Tryz.func173,λ _=>rfl,λ m a=>qp3 m a.1 a.2.1 a.2.2.1⟩,⟨nl1 ⟨Go.Proofs.Tryz.func149,λ _=>rfl,λ m a=>qCh m a.1,trivial⟩,⟨nl1 ⟨Go.Proofs.Tryz.func130,λ _=>rfl,λ m a=>qtZ m a.1,trivial⟩,⟨λ c hc=>qmR (m:=0) hc,⟨nl1 ⟨Go.Proofs.Tryz.func124,λ _=>rfl,λ m a=>qrD m a.1,trivial⟩,⟨nl1 ⟨Go.Proofs.Tryz.func123,λ _=>rfl,λ m a=>qvE m a.1,trivial⟩,⟨nl1 ⟨Go.Proofs.Tryz.func122,λ _=>rfl,λ m a=>qv6 m a.1,trivial⟩,trivial,trivial⟩,trivial⟩,⟨nl1 ⟨Go.Proofs.Tryz.func125,λ _=>rfl,λ m a=>qpO m a.1,trivial⟩,trivial,trivial⟩⟩,⟨⟨Go.Proofs.Tryz.func128,λ _=>rfl,λ m a=>qjq m a.1 a.2.1 a.2.2.1⟩,⟨⟨Go.Proofs.Tryz.func127,λ _=>rfl,λ m a=>qme m a.1 a.2.1 a.2.2.1⟩,trivial,trivial⟩,⟨⟨Go.Proofs.Tryz.func129,λ _=>rfl,λ m a=>qsd m a.1⟩,trivial,trivial⟩⟩⟩,⟨nl1 ⟨Go.Proofs.Tryz.func143,λ _=>rfl,λ m a=>qyP m a.1 a.2.1,trivial⟩,⟨nl1 ⟨Go.Proofs.Tryz.func133,λ _=>rfl,λ m a=>qvp m a.1 a.2.1,trivial⟩,⟨nl1 ⟨Go.Proofs.Tryz.func132,λ _=>rfl,λ m a=>qqE m,trivial⟩,⟨nl1 ⟨Go.Proofs.Tryz.func131,λ _=>rfl,λ m a=>qrr m a.1,trivial⟩,trivial,trivial⟩,trivial⟩,⟨nl1 ⟨Go.Proofs.Tryz.func134,λ _=>rfl,λ m a=>qwB m a.1,trivial⟩,trivial,trivial⟩⟩,⟨nl1 ⟨Go.Proofs.Tryz.func147,λ _=>rfl,λ m a=>qqX m a.1,trivial⟩,⟨nl1 ⟨Go.Proofs.Tryz.func146,λ _=>rfl,λ m a=>qzg m a.1,trivial⟩,trivial,trivial⟩,⟨nl1 ⟨Go.Proofs.Tryz.func148,λ _=>rfl,λ m a=>qoY m a.1,trivial⟩,trivial,trivial⟩⟩⟩⟩,⟨nl1 ⟨Go.Proofs.Tryz.func159,λ _=>rfl,λ m a=>qx9 m a.1,trivial⟩,⟨⟨qsz (QO Go.Proofs.Tryz.func155 (by kernel_rfl)) λ _=>rfl,λ m h=>JW m h⟩,⟨nl1 ⟨Go.Proofs.Tryz.func152,λ _=>rfl,λ m a=>qsB m a.1 a.2.1,trivial⟩,⟨nl1 ⟨Go.Proofs.Tryz.func151,λ _=>rfl,λ m a=>qpA m a.1,trivial⟩,⟨nl1 ⟨Go.Proofs.Tryz.func150,λ _=>rfl,λ m a=>qtm m a.1,trivial⟩,trivial,trivial⟩,trivial⟩,⟨⟨qDa (QO Go.Proofs.Tryz.func154 (by kernel_rfl)) λ _=>rfl,λ m h=>qaV m h⟩,trivial,trivial⟩⟩,⟨nl1 ⟨Go.Proofs.Tryz.func157,λ _=>rfl,λ m a=>qsT m a.1,trivial⟩,⟨nl1 ⟨Go.Proofs.Tryz.func156,λ _=>rfl,λ m a=>qo5 m a.1 a.2.1,trivial⟩,trivial,trivial⟩,⟨nl1 ⟨Go.Proofs.Tryz.func158,λ _=>rfl,λ m a=>qqR m a.1,trivial⟩,trivial,trivial⟩⟩⟩,⟨nl1 ⟨Go.Proofs.Tryz.func167,λ _=>rfl,λ m a=>qsY m a.1,trivial⟩,⟨nl1 ⟨Go.Proofs.Tryz.func163,λ _=>rfl,λ m a=>qo9 m a.1,trivial⟩,⟨nl1 ⟨Go.Proofs.Tryz.func161,λ _=>rfl,λ m a=>qtr m a.1 a.2.1,trivial⟩,⟨nl1 ⟨Go.Proofs.Tryz.func160,λ _=>rfl,λ m a=>qqU m a.1,trivial⟩,trivial,trivial⟩,trivial⟩,⟨nl1 ⟨Go.Proofs.Tryz.func164,λ _=>rfl,λ m a=>quh m a.1 a.2.1,trivial⟩,trivial,trivial⟩⟩,⟨nl1 ⟨Go.Proofs.Tryz.func169,λ _=>rfl,λ m a=>qpI m a.1,trivial⟩,⟨⟨Go.Proofs.Tryz.func168,λ _=>rfl,λ m a=>qwI m a.1 a.2.1 a.2.2.1⟩,trivial,trivial⟩,⟨nl1 ⟨Go.Proofs.Tryz.func172,λ _=>rfl,λ m a=>qtC m a.1,trivial⟩,trivial,trivial⟩⟩⟩⟩⟩,⟨nl1 ⟨Go.Proofs.Tryz.func193,λ _=>rfl,λ m a=>qvN m a.1,trivial⟩,⟨nl1 ⟨Go.Proofs.Tryz.func182,λ _=>rfl,λ m a=>qsG m a.1 a.2.1,trivial⟩,⟨nl1 ⟨Go.Proofs.Tryz.func178,λ _=>rfl,λ m a=>qB5 m a.1,trivial⟩,⟨nl1 ⟨Go.Proofs.Tryz.func176,λ _=>rfl,λ m a=>qzD m a.1 a.2.1,trivial⟩,⟨nl1 ⟨Go.Proofs.Tryz.func175,λ _=>rfl,λ m a=>qw5 m a.1 a.2.1,trivial⟩,⟨nl1 ⟨Go.Proofs.Tryz.func174,λ _=>rfl,λ m a=>qyU m a.1 a.2.1,trivial⟩,trivial,trivial⟩,trivial⟩,⟨nl1 ⟨Go.Proofs.Tryz.func177,λ _=>rfl,λ m a=>qrp m a.1,trivial⟩,trivial,trivial⟩⟩,⟨nl1 ⟨Go.Proofs.Tryz.func180,λ _=>rfl,λ m a=>qpc m a.1,trivial⟩,⟨⟨Go.Proofs.Tryz.func179,λ _=>rfl,λ m a=>qmO m a.1 a.2.1 a.2.2.1⟩,trivial,trivial⟩,⟨nl1 ⟨Go.Proofs.Tryz.func181,λ _=>rfl,λ m a=>qoX m a.1,trivial⟩,trivial,trivial⟩⟩⟩,⟨nl1 ⟨Go.Proofs.Tryz.func189,λ _=>rfl,λ m a=>qq3 m a.1,trivial⟩,⟨nl1 ⟨Go.Proofs.Tryz.func185,λ _=>rfl,λ m a=>qv1 m a.1 a.2.1,trivial⟩,⟨nl1 ⟨Go.Proofs.Tryz.func184,λ _=>rfl,λ m a=>qq5 m a.1 a.2.1,trivial⟩,⟨nl1 ⟨Go.Proofs.Tryz.func183,λ _=>rfl,λ m a=>qdY m a.1,trivial⟩,trivial,trivial⟩,trivial⟩,⟨nl1 ⟨Go.Proofs.Tryz.func188,λ _=>rfl,λ m a=>qvt m a.1,trivial⟩,trivial,trivial⟩⟩,⟨nl1 ⟨Go.Proofs.Tryz.func191,λ _=>rfl,λ m a=>qvG m a.1 a.2.1,trivial⟩,⟨nl1 ⟨Go.Proofs.Tryz.func190,λ _=>rfl,λ m a=>qvV m,trivial⟩,trivial,trivial⟩,⟨nl1 ⟨Go.Proofs.Tryz.func192,λ _=>rfl,λ m a=>qvL m a.1,trivial⟩,trivial,trivial⟩⟩⟩⟩,⟨nl1 ⟨Go.Proofs.Tryz.func214,λ _=>rfl,λ m a=>qsk m a.1 a.2.1,trivial⟩,⟨qdo (m:=0),⟨nl1 ⟨Go.Proofs.Tryz.func198,λ _=>rfl,λ m a=>qn7 m a.1,trivial⟩,⟨nl1 ⟨Go.Proofs.Tryz.func197,λ _=>rfl,λ m a=>qrN m a.1 a.2.1 a.2.2.1,trivial⟩,⟨nl1 ⟨Go.Proofs.Tryz.func195,λ _=>rfl,λ m a=>qp1 m a.1,trivial⟩,trivial,trivial⟩,trivial⟩,⟨⟨Go.Proofs.Tryz.func199,λ _=>rfl,λ m a=>qnX m a.1 a.2.1⟩,trivial,trivial⟩⟩,⟨⟨Go.Proofs.Tryz.func202,λ _=>rfl,λ m a=>qna m a.1⟩,⟨qdT (m:=0),trivial,trivial⟩,⟨nl1 ⟨Go.Proofs.Tryz.func203,λ _=>rfl,λ m a=>qm6 m a.1,trivial⟩,trivial,trivial⟩⟩⟩,⟨qcj (m:=0),⟨nl1 ⟨Go.Proofs.Tryz.func220,λ _=>rfl,λ m a=>qlk m a.1 a.2.1,trivial⟩,⟨nl1 ⟨Go.Proofs.Tryz.func219,λ _=>rfl,λ m a=>j7 m a.1 a.2.1,trivial⟩,⟨nl1 ⟨Go.Proofs.Tryz.func215,λ _=>rfl,λ m a=>qo6 m a.1,trivial⟩,trivial,trivial⟩,trivial⟩,⟨qck (m:=0),trivial,trivial⟩⟩,⟨nl1 ⟨Go.Proofs.Tryz.func224,λ _=>rfl,λ m a=>qlO m a.1,trivial⟩,⟨nl1 ⟨Go.Proofs.Tryz.func223,λ _=>rfl,λ m a=>JT m a.1,trivial⟩,trivial,trivial⟩,⟨nl1 ⟨Go.Proofs.Tryz.func235,λ _=>rfl,λ m a=>qaf m a.1,trivial⟩,trivial,trivial⟩⟩⟩⟩⟩⟩⟩
end Go.AmYtbpnmbmdbblehaaGreat
namespace Go.AmYtbpnmbmdbblehaaGreat
open Go Go.GxYtbpnmbmdbblehaaGreat Go.RowKit
open Go.ChangeShapes Go.WideShapes Go.ChangeAt Go.WideMaps Go.WideElems
theorem qu7 (b o j:Nat):(⟨b,o,none⟩:Addr).add j=⟨b,o+j,none⟩:=by unfold Addr.add;split<;>simp_all
mutual
def tyM (P:Program):Nat→Ty→TypeId→Bool
 | 0,_,_=>false
 | _+1,.int k,t=>match P.underlying t with
   | some (.int k')=>decide (k'=k)&&decide (P.cellsOf t=1)
   | _=>false
 | _+1,.bool,t=>match P.underlying t with
   | some .bool=>decide (P.cellsOf t=1)
   | _=>false
 | _+1,.str,t=>match P.underlying t with
   | some .string=>decide (P.cellsOf t=1)
   | _=>false
 | n+1,.list a,t=>match P.underlying t with
   | some (.slice e)=>decide (P.cellsOf t=1)&&decide (P.cellsOf e=a.size)&&decide (0<P.bytesOf e)&&tyM P n a e
   | _=>false
 | n+1,.term,t=>qBP P n t
 | n+1,.pair a b,t=>match P.underlying t with
   | some (.struct fs)=>decide (P.cellsOf t=a.size+b.size)&&fsM P n (.pair a b) 0 fs.toList
   | _=>false
 | n+1,.one a,t=>match P.underlying t with
   | some (.struct fs)=>decide (P.cellsOf t=a.size)&&fsM P n a 0 fs.toList
   | _=>false
def fsM (P:Program):Nat→Ty→Nat→List Field→Bool
 | 0,_,_,_=>false
 | n+1,τ,off,[f]=>decide (f.offset=off)&&decide (P.cellsOf f.type = τ.size)&&tyM P n τ f.type
 | n+1,.pair a b,off,f::g::r=>decide (f.offset=off)&&decide (P.cellsOf f.type=a.size)&&tyM P n a f.type&&fsM P n b (off+a.size) (g::r)
 | _+1,_,_,_=>false
def qBP (P:Program):Nat→TypeId→Bool
 | 0,_=>false
 | n+1,t=>match P.underlying t with
   | some (.struct fs)=>match fs.toList with
     | [f0,f1,f2,f3]=>decide (P.cellsOf t=4)&&decide (f0.offset=0)&&decide (f1.offset=1)&&decide (f2.offset=2)&&decide (f3.offset=3)&&decide (P.cellsOf f3.type=1) &&
      tyM P n (.int .i64) f0.type&&tyM P n .str f1.type&&tyM P n (.int .i64) f2.type&&(match P.underlying f3.type with
      | some (.slice e)=>decide (e=t)&&decide (0<P.bytesOf t)
      | _=>false)
     | _=>false
   | _=>false
end
def qke:(τ : Ty)→Val τ → Prop
 | .int k,n=>k.min≤n∧n≤k.max
 | .bool,_=>True
 | .str,s=>s.length<2 ^ 62
 | .term,t=>qpX t
 | .list a,l=>l.length<2 ^ 62∧∀ x∈l,qke a x
 | .pair a b,p=>qke a p.1∧qke b p.2
 | .one a,v=>qke a v
def ghW (W:World):Gh:=⟨λ b o=>match W.cell? ⟨b,o,none⟩ with | some u=>if u.oneCell'=true then some u else none | none=>none,0,λ _=>0,0,λ _=>0,λ _=>0,λ _=>0,λ _=>0⟩
theorem qAd {W:World} {b o:Nat} {u:Value}:(ghW W).mem b o=some u↔W.cell? ⟨b,o,none⟩=some u∧u.oneCell'=true:=by
 show (match W.cell? ⟨b,o,none⟩ with | some u=>if u.oneCell'=true then some u else none | none=>none)=some u↔_
 cases W.cell? ⟨b,o,none⟩ with
 | none=>simp
 | some v =>
   simp only [Option.some.injEq]
   constructor
   ·intro h
    split at h
    ·cases h;exact ⟨rfl,‹_›⟩
    ·cases h
   ·rintro ⟨rfl,h⟩
    rw [if_pos h]
theorem qGV (W:World):Inv (ghW W) emp W :=
 ⟨rfl,rfl,λ b o u h=>qAd.1 h,λ i cs h=>(by cases h),λ i j h=>absurd h (Nat.not_lt_zero _),λ i h=>absurd h (Nat.not_lt_zero _),λ r R h=>(by cases h),λ r r' h=>absurd h (Nat.not_lt_zero _)⟩
theorem cells_len {W:World} {zV:Nat} {a:Addr}:∀ {n:Nat} {cs:List Value},W.cells? zV a n=some cs→cs.length=n∧∀ j u,cs[j]? = some u→W.cell? (a.add j)=some u:=by
 intro n cs h
 unfold World.cells? at h
 split at h
 case isFalse=>cases h
 have h1:=mapM_some_length h
 rw [List.length_range] at h1
 refine ⟨h1,λ j u hj=>?_⟩
 have hlt:=getElem?_lt hj
 have:=mapM_some_get h j j (by rw [List.getElem?_range (by omega)])
 rw [this];exact hj
section
variable {H:Type} {enc:TypeId × Value→H} {P:Program} {W:World}
def qCj (enc:TypeId × Value→H) (P:Program) (W:World) (fuel:Nat):Prop:=∀ (n:Nat) (τ : Ty) (t:TypeId) (cs:List Value) (x:DataW H × List MemPlace),tyM P n τ t=true→DataW.trod enc P W 0 (λ _=>true) true fuel t cs=some x→(∀ k∈x.1.weights P t,k≤reachBytes) →
 ∃ v:Val τ,RepL (ghW W) (qm τ v) cs∧(∀ u∈cs,u.oneCell'=true)∧qke τ v
theorem qkr {e:TypeId}:∀ {ds:List (DataW H)} {d:DataW H},d∈ds→∀ n∈d.weights P e,n∈DataW.weightsAll P e ds
 | d0::ds,d,h,n,hn=>by
   simp only [DataW.weightsAll,List.mem_append]
   rcases List.mem_cons.1 h with rfl | h
   ·exact Or.inl hn
   ·exact Or.inr (qkr h n hn)
theorem qyQ {n k:Nat} (h:n*k≤reachBytes) (hk:0<k):n<2 ^ 62:=by
 have:n*1≤n*k:=Nat.mul_le_mul_left _ hk
 have h2:reachBytes=140737488351232:=rfl
 omega
theorem qDf {α β : Type} {n:Nat} {Q:Nat → α → β → Prop} (h0:0<n) (h:∀ i,i<n→∃ a b,Q i a b):∃ (f:Nat → α) (g:Nat → β),∀ i,i<n→Q i (f i) (g i):=by
 obtain ⟨a0,b0,_⟩:=h 0 h0
 refine ⟨λ i=>if hi:i<n then (h i hi).choose else a0,λ i=>if hi:i<n then (h i hi).choose_spec.choose else b0,λ i hi=>?_⟩
 simp only [dif_pos hi]
 exact (h i hi).choose_spec.choose_spec
theorem qyb {Γ : Gh} {x:AV} {u:Value} (h:Rep Γ x u):RepL Γ [x] [u]:=RepL.cons h RepL.nil
theorem qvc {fuel:Nat} (hA:∀ f,f<fuel→qCj enc P W f) {a:Ty} {t e:TypeId} {m:Nat} {cs:List Value} {x:DataW H × List MemPlace} (ht:P.underlying t=some (.slice e)) (hc:P.cellsOf e=a.size) (hb:0<P.bytesOf e) (hm:tyM P m a e=true)
  (h:DataW.trod enc P W 0 (λ _=>true) true fuel t cs=some x) (hw:∀ k∈x.1.weights P t,k≤reachBytes) :
  ∃ (l:List (Val a)) (u:Value),cs=[u]∧u.oneCell'=true∧Rep (ghW W) (.sl a.size (l.map (qm a)) 1) u∧l.length<2 ^ 62∧∀ v∈l,qke a v:=by
 rcases DataW.trod_slice ht h with ⟨rfl,rfl⟩ | ⟨ad,len,cap,elems,rest,n,rfl,rfl,rfl,_,hl,_,hlen,hel,_,_⟩
 ·refine ⟨[],_,rfl,rfl,?_,by simp,(by intro v hv;cases hv)⟩
  exact .sl _ _ _ none 0 0 0 0 (λ _ _=>undef) rfl (λ _=>Nat.le_refl _) (λ h=>by omega) (by intro e he;cases he) (by intro e he;cases he) (Ty.size_pos a) (.inl rfl) (by intro i e j x hi;cases hi) (by intro i e j x hi;cases hi)
 ·have hwt:(elems.length+rest.length)*P.bytesOf e≤reachBytes∧∀ k∈DataW.weightsAll P e (elems.map (·.1)),k≤reachBytes:=by
    simp only [DataW.weights,ht,List.length_map,List.mem_cons,List.mem_append] at hw
    exact ⟨hw _ (.inl rfl),λ k hk=>hw k (.inr (.inl hk))⟩
  have each:∀ i,i<len→∃ (v:Val a) (us:List Value),RepL (ghW W) (qm a v) us∧(∀ u∈us,u.oneCell'=true)∧qke a v∧(∀ j u,us[j]? = some u→W.cell? ((ad.add (i*a.size)).add j)=some u):=by
   intro i hi
   have h1:=hel i hi
   rw [List.getElem?_eq_getElem (by omega),hc,Option.bind_eq_some_iff] at h1
   obtain ⟨us,h2,h3⟩:=h1
   obtain ⟨q1,q2⟩:=cells_len h2
   obtain ⟨v,g1,g2,g3⟩:=hA n (Nat.lt_succ_self _) m a e us _ hm h3 λ k hk=>hwt.2 k (qkr (List.mem_map_of_mem (List.getElem_mem _)) k hk)
   exact ⟨v,us,g1,g2,g3,q2⟩
  by_cases h0:len=0
  ·subst h0
   refine ⟨[],_,rfl,rfl,?_,by simp,(by intro v hv;cases hv)⟩
   exact .sl _ _ _ _ 0 cap 0 0 (λ _ _=>undef) rfl (λ _=>hl) (λ h=>by omega) (by intro e he;cases he) (by intro e he;cases he) (Ty.size_pos a) (.inl rfl) (by intro i e j x hi;cases hi) (by intro i e j x hi;cases hi)
  obtain ⟨b,o,rfl⟩:∃ b o,ad=⟨b,o,none⟩:=by
   obtain ⟨v,us,g1,_,_,g4⟩:=each 0 (by omega)
   have hl1:us.length=a.size:=by rw [g1.len];exact jI a v
   have hp:=Ty.size_pos a
   have h1:=g4 0 _ (List.getElem?_eq_getElem (by omega))
   rw [Nat.zero_mul] at h1
   have e1:(ad.add 0).add 0=ad:=rfl
   rw [e1] at h1
   obtain ⟨b,o,sp⟩:=ad
   unfold World.cell? at h1
   split at h1
   ·split at h1
    ·cases h1
    ·rename_i hs
     cases sp with
     | none=>exact ⟨b,o,rfl⟩
     | some s=>simp at hs
   ·cases h1
  obtain ⟨vv,uu,hvu⟩:=qDf (by omega:0<len) each
  have w1 := λ i hi=>(hvu i hi).1
  have w2 := λ i hi=>(hvu i hi).2.1
  have w3 := λ i hi=>(hvu i hi).2.2.1
  have w4 := λ i hi=>(hvu i hi).2.2.2
  have hget:∀ i,i<len→((List.range len).map vv)[i]? = some (vv i) := λ i hi=>by rw [List.getElem?_map,List.getElem?_range hi];rfl
  have hcell:∀ (i:Nat) (e':List AV) (j:Nat) (y:AV),(((List.range len).map vv).map (qm a))[i]? = some e'→e'[j]? = some y→i<len∧∃ u,(uu i)[j]? = some u∧Rep (ghW W) y u∧(ghW W).mem b (o+i*a.size+j)=some u:=by
   intro i e' j y h1 h2
   have hi:i<len:=by have:=getElem?_lt h1;simpa using this
   rw [List.getElem?_map,hget i hi] at h1
   cases h1
   obtain ⟨u,q1,q2⟩:=(w1 i hi).get h2
   refine ⟨hi,u,q1,q2,qAd.2 ⟨?_,w2 i hi u (List.mem_of_getElem? q1)⟩⟩
   have:=w4 i hi j u q1
   rw [qu7,qu7] at this
   exact this
  refine ⟨(List.range len).map vv,_,rfl,rfl,?_,?_,?_⟩
  ·refine .sl _ _ _ _ len cap b o (λ i j=>(uu i).getD j undef) (by simp) (λ _=>hl) (λ h=>by omega) ?_ ?_ (Ty.size_pos a) (.inr rfl) ?_ ?_
   ·intro e' he
    obtain ⟨v,_,rfl⟩:=List.mem_map.1 he
    exact jI a v
   ·intro e' he
    obtain ⟨v,_,rfl⟩:=List.mem_map.1 he
    exact zR a v
   ·intro i e' j y h1 h2
    obtain ⟨_,u,q1,q2,q3⟩:=hcell i e' j y h1 h2
    rw [List.getD_eq_getElem?_getD,q1];exact q3
   ·intro i e' j y h1 h2
    obtain ⟨_,u,q1,q2,q3⟩:=hcell i e' j y h1 h2
    rw [List.getD_eq_getElem?_getD,q1];exact q2
  ·rw [List.length_map,List.length_range,← hlen]
   refine qyQ (k:=P.bytesOf e) (Nat.le_trans (Nat.mul_le_mul_right _ ?_) hwt.1) hb
   omega
  ·intro v hv
   obtain ⟨i,hi,rfl⟩:=List.mem_map.1 hv
   exact w3 i (List.mem_range.1 hi)
theorem qrt {fuel:Nat} (hA:qCj enc P W fuel):∀ (n:Nat) (τ : Ty) (off:Nat) (fs:List Field) (cs:List Value) (xs:List (DataW H × List MemPlace)),fsM P n τ off fs=true→xs.length=fs.length →
  (∀ (i:Nat) (f:Field),fs[i]? = some f→DataW.trod enc P W 0 (λ _=>true) true fuel f.type ((cs.drop f.offset).take (P.cellsOf f.type))=xs[i]?)→(∀ k∈DataW.weightsEach P (fs.map (·.type)) (xs.map (·.1)),k≤reachBytes)→off + τ.size≤cs.length →
  ∃ v:Val τ,RepL (ghW W) (qm τ v) ((cs.drop off).take τ.size)∧(∀ u∈(cs.drop off).take τ.size,u.oneCell'=true)∧qke τ v:=by
 intro n
 induction n with
 | zero=>intro τ off fs cs xs h;simp [fsM] at h
 | succ n ih =>
   intro τ off fs cs xs h hl hx hw hlen
   have one:∀ f x,fs=[f]→xs=[x]→(decide (f.offset=off)&&decide (P.cellsOf f.type = τ.size)&&tyM P n τ f.type)=true→∃ v:Val τ,RepL (ghW W) (qm τ v) ((cs.drop off).take τ.size)∧(∀ u∈(cs.drop off).take τ.size,u.oneCell'=true)∧qke τ v:=by
    intro f x hf hxs h
    simp only [Bool.and_eq_true,decide_eq_true_eq] at h
    obtain ⟨⟨h1,h2⟩,h3⟩:=h
    subst hf;subst hxs
    have h4:=hx 0 f rfl
    rw [h1,h2] at h4
    exact hA n τ f.type _ x h3 h4 λ k hk=>hw k (by simp only [List.map_cons,List.map_nil,DataW.weightsEach,List.append_nil];exact hk)
   cases fs with
   | nil=>cases τ <;> simp [fsM] at h
   | cons f r =>
     cases xs with
     | nil=>simp at hl
     | cons x xs =>
       cases r with
       | nil =>
         have hxn:xs=[]:=List.eq_nil_of_length_eq_zero (by simpa using hl)
         subst hxn
         refine one f x rfl rfl ?_
         cases τ <;> exact h
       | cons g r =>
         cases τ with
         | pair a b =>
           simp only [fsM,Bool.and_eq_true,decide_eq_true_eq] at h
           obtain ⟨⟨⟨h1,h2⟩,h3⟩,h4⟩:=h
           have h5:=hx 0 f rfl
           rw [h1,h2] at h5
           have hsz:off+(a.size+b.size)≤cs.length:=hlen
           simp only [List.map_cons,DataW.weightsEach,List.mem_append] at hw
           obtain ⟨v,v1,v2,v3⟩:=hA n a f.type _ x h3 h5 λ k hk=>hw k (.inl hk)
           obtain ⟨v',v1',v2',v3'⟩:=ih b (off+a.size) (g::r) cs xs h4 (by simpa using hl) (λ i f' hf'=>hx (i+1) f' hf') (λ k hk=>hw k (.inr hk)) (by omega)
           have e:(cs.drop off).take (a.size+b.size)=(cs.drop off).take a.size++(cs.drop (off+a.size)).take b.size:=by
            rw [List.take_add,List.drop_drop]
           refine ⟨(v,v'),?_,?_,v3,v3'⟩
           ·show RepL _ (qm a v++qm b v') ((cs.drop off).take (a.size+b.size))
            rw [e];exact v1.append v1'
           ·show ∀ u∈(cs.drop off).take (a.size+b.size),_
            rw [e]
            intro u hu
            exact (List.mem_append.1 hu).elim (v2 u) (v2' u)
         | _=>simp [fsM] at h
theorem qGf {Γ : Gh} (k:IntKind) (n:Int):RepL Γ (qm (.int k) n) [.int k n]:=qyb (.v _ rfl)
theorem qFC:∀ fuel,qCj enc P W fuel:=by
 intro fuel
 induction fuel using Nat.strongRecOn with
 | ind fuel ihA =>
   have ints:∀ {k:IntKind} {t:TypeId} {cs:List Value} {x:DataW H × List MemPlace} {f:Nat},P.underlying t=some (.int k)→DataW.trod enc P W 0 (λ _=>true) true f t cs=some x→∃ n:Int,cs=[.int k n]∧k.min≤n∧n≤k.max:=by
    intro k t cs x f ht h
    obtain ⟨n,rfl,_,hwf⟩:=DataW.trod_int ht h
    simp only [Lit.wf,Bool.and_eq_true,decide_eq_true_eq] at hwf
    exact ⟨n,rfl,hwf⟩
   have strs:∀ {t:TypeId} {cs:List Value} {x:DataW H × List MemPlace} {f:Nat},P.underlying t=some .string→DataW.trod enc P W 0 (λ _=>true) true f t cs=some x→(∀ k∈x.1.weights P t,k≤reachBytes)→∃ s:ByteArray,cs=[.string s]∧s.data.toList.length<2 ^ 62:=by
    intro t cs x f ht h hw
    obtain ⟨s,rfl,rfl,_⟩:=DataW.trod_string ht h
    refine ⟨s,rfl,?_⟩
    have:=hw s.data.toList.length (by simp [DataW.weights])
    exact qyQ (k:=1) (by omega) (by decide)
   intro n τ t cs x hm h hw
   cases n with
   | zero=>cases τ <;> simp [tyM] at hm
   | succ n =>
   cases τ with
   | int k =>
     simp only [tyM] at hm
     split at hm
     ·rename_i k' ht
      simp only [Bool.and_eq_true,decide_eq_true_eq] at hm
      obtain ⟨rfl,_⟩:=hm
      obtain ⟨i,rfl,h1,h2⟩:=ints ht h
      exact ⟨i,qGf _ _,by intro u hu;rw [List.mem_singleton.1 hu];rfl,h1,h2⟩
     ·cases hm
   | bool =>
     simp only [tyM] at hm
     split at hm
     ·rename_i ht
      obtain ⟨b,rfl,_⟩:=DataW.trod_bool ht h
      exact ⟨b,qyb (.v _ rfl),by intro u hu;rw [List.mem_singleton.1 hu];rfl,trivial⟩
     ·cases hm
   | str =>
     simp only [tyM] at hm
     split at hm
     ·rename_i ht
      obtain ⟨s,rfl,h1⟩:=strs ht h hw
      refine ⟨s.data.toList,?_,by intro u hu;rw [List.mem_singleton.1 hu];rfl,h1⟩
      exact qyb (.v _ rfl)
     ·cases hm
   | list a =>
     simp only [tyM] at hm
     split at hm
     ·rename_i e ht
      simp only [Bool.and_eq_true,decide_eq_true_eq] at hm
      obtain ⟨⟨⟨_,hc⟩,hb⟩,hm⟩:=hm
      obtain ⟨l,u,rfl,h1,h2,h3,h4⟩:=qvc (λ f hf=>ihA f hf) ht hc hb hm h hw
      exact ⟨l,qyb h2,by intro u' hu;rw [List.mem_singleton.1 hu];exact h1,h3,h4⟩
     ·cases hm
   | pair a b =>
     simp only [tyM] at hm
     split at hm
     ·rename_i fs ht
      simp only [Bool.and_eq_true,decide_eq_true_eq] at hm
      obtain ⟨hc,hm⟩:=hm
      obtain ⟨xs,f,rfl,rfl,h1,h2,h3⟩:=DataW.trod_struct ht h
      have hsz:(Ty.pair a b).size=a.size+b.size:=rfl
      obtain ⟨v,v1,v2,v3⟩:=qrt (ihA f (Nat.lt_succ_self _)) n (.pair a b) 0 fs.toList cs xs hm (by simpa using h2) (λ i g hg=>h3 i g (by simpa using hg)) (by simpa [DataW.weights,ht] using hw) (by rw [h1,hc,hsz];omega)
      rw [List.drop_zero,List.take_of_length_le (by rw [h1,hc,hsz];exact Nat.le_refl _)] at v1 v2
      exact ⟨v,v1,v2,v3⟩
     ·cases hm
   | one a =>
     simp only [tyM] at hm
     split at hm
     ·rename_i fs ht
      simp only [Bool.and_eq_true,decide_eq_true_eq] at hm
      obtain ⟨hc,hm⟩:=hm
      obtain ⟨xs,f,rfl,rfl,h1,h2,h3⟩:=DataW.trod_struct ht h
      obtain ⟨v,v1,v2,v3⟩:=qrt (ihA f (Nat.lt_succ_self _)) n a 0 fs.toList cs xs hm (by simpa using h2) (λ i g hg=>h3 i g (by simpa using hg)) (by simpa [DataW.weights,ht] using hw) (by rw [h1,hc];omega)
      rw [List.drop_zero,List.take_of_length_le (by rw [h1,hc];exact Nat.le_refl _)] at v1 v2
      exact ⟨v,v1,v2,v3⟩
     ·cases hm
   | term =>
     have hm0:=hm
     simp only [tyM] at hm
     cases n with
     | zero=>simp [qBP] at hm
     | succ n =>
     simp only [qBP] at hm
     split at hm
     case h_2=>cases hm
     rename_i fs ht
     split at hm
     case h_2=>cases hm
     rename_i f0 f1 f2 f3 hfs
     simp only [Bool.and_eq_true,decide_eq_true_eq] at hm
     obtain ⟨⟨⟨⟨⟨⟨⟨⟨⟨hc,o0⟩,o1⟩,o2⟩,o3⟩,hc3⟩,m0⟩,m1⟩,m2⟩,m3⟩:=hm
     split at m3
     case h_2=>cases m3
     rename_i e ht3
     simp only [Bool.and_eq_true,decide_eq_true_eq] at m3
     obtain ⟨rfl,hb⟩:=m3
     obtain ⟨xs,f,rfl,rfl,h1,h2,h3⟩:=DataW.trod_struct ht h
     have hsz:fs.size=4:=by rw [← Array.length_toList,hfs];rfl
     rw [hsz] at h2
     rw [hc] at h1
     obtain ⟨c0,c1,c2,c3,rfl⟩:∃ c0 c1 c2 c3,cs=[c0,c1,c2,c3]:=by
      match cs,h1 with
      | [a,b,c,d],_=>exact ⟨a,b,c,d,rfl⟩
     obtain ⟨x0,x1,x2,x3,rfl⟩:∃ x0 x1 x2 x3,xs=[x0,x1,x2,x3]:=by
      match xs,h2 with
      | [a,b,c,d],_=>exact ⟨a,b,c,d,rfl⟩
     have fg:∀ i g,[f0,f1,f2,f3][i]? = some g→fs[i]? = some g := λ i g hg=>by rw [← hfs,Array.getElem?_toList] at hg;exact hg
     have s0:=h3 0 f0 (fg 0 _ rfl)
     have s1:=h3 1 f1 (fg 1 _ rfl)
     have s2:=h3 2 f2 (fg 2 _ rfl)
     have s3:=h3 3 f3 (fg 3 _ rfl)
     have cOf:∀ {τ : Ty} {t:TypeId},(∃ k,τ = .int k) ∨ τ = .str→tyM P n τ t=true→P.cellsOf t=1:=by
      intro τ t hτ hm
      cases n with
      | zero=>cases τ <;> simp [tyM] at hm
      | succ n =>
        rcases hτ with ⟨k,rfl⟩ | rfl
        ·simp only [tyM] at hm
         split at hm
         ·simp only [Bool.and_eq_true,decide_eq_true_eq] at hm;exact hm.2
         ·cases hm
        ·simp only [tyM] at hm
         split at hm
         ·exact of_decide_eq_true hm
         ·cases hm
     have uInt:∀ {k:IntKind} {t:TypeId},tyM P n (.int k) t=true→P.underlying t=some (.int k):=by
      intro k t hm
      cases n with
      | zero=>simp [tyM] at hm
      | succ n =>
        simp only [tyM] at hm
        split at hm
        ·rename_i k' ht
         simp only [Bool.and_eq_true,decide_eq_true_eq] at hm
         rw [ht,hm.1]
        ·cases hm
     have uStr:∀ {t:TypeId},tyM P n .str t=true→P.underlying t=some .string:=by
      intro t hm
      cases n with
      | zero=>simp [tyM] at hm
      | succ n =>
        simp only [tyM] at hm
        split at hm
        ·assumption
        ·cases hm
     rw [o0,cOf (.inl ⟨_,rfl⟩) m0] at s0
     rw [o1,cOf (.inr rfl) m1] at s1
     rw [o2,cOf (.inl ⟨_,rfl⟩) m2] at s2
     rw [o3,hc3] at s3
     have hwE:∀ k∈DataW.weightsEach P [f0.type,f1.type,f2.type,f3.type] [x0.1,x1.1,x2.1,x3.1],k≤reachBytes:=by
      intro k hk
      refine hw k ?_
      simp only [DataW.weights,ht,hfs]
      exact hk
     simp only [DataW.weightsEach,List.mem_append] at hwE
     obtain ⟨i0,e0,_,_⟩:=ints (uInt m0) (f:=f) (x:=x0) s0
     obtain ⟨i1,e1,b1⟩:=strs (uStr m1) (f:=f) (x:=x1) s1 λ k hk=>hwE k (.inr (.inl hk))
     obtain ⟨i2,e2,_,_⟩:=ints (uInt m2) (f:=f) (x:=x2) s2
     obtain ⟨l,u,e3,b3,r3,l3,v3⟩:=qvc (a := .term) (λ g hg=>ihA g (Nat.lt_succ_of_lt hg)) ht3 hc hb hm0 s3 λ k hk=>hwE k (.inr (.inr (.inr (.inl hk))))
     have g0:c0 = .int .i64 i0:=by simpa using e0
     have g1:c1 = .string i1:=by simpa using e1
     have g2:c2 = .int .i64 i2:=by simpa using e2
     have g3:c3=u:=by simpa using e3
     subst g0;subst g1;subst g2;subst g3
     refine ⟨.mk i0 i1.data.toList i2 l,?_,?_,(qAq _).2 ⟨l3,b1,v3⟩⟩
     ·show RepL _ (Q0 _) _
      rw [Q0,qlz]
      exact RepL.cons (.v _ rfl) (RepL.cons (.v _ rfl) (RepL.cons (.v _ rfl) (qyb r3)))
     ·intro u hu
      simp only [List.mem_cons,List.not_mem_nil,or_false] at hu
      rcases hu with rfl | rfl | rfl | rfl
      ·rfl
      ·rfl
      ·rfl
      ·exact b3
end
end Go.AmYtbpnmbmdbblehaaGreat
namespace Go.GxYtbpnmbmdbblehaaGreat
open Go.RowKit Go.ChangeShapes Go.WideShapes Go.ChangeAt
open Go.WideMaps Go.WideElems
section
variable {H:Type} {enc:TypeId × Value→H} {P:Program}
theorem qmD (hl:laidOutB P=true) {W W':World} (hb:Below W.heap.size W W'):∀ {ts:List TypeId} {vs:List Value} {ds:List (DataW H)} {ps:List MemPlace},
  (∀ t∈ts,P.readableRec t=true∧t<P.types.size)→DataW.TrodAll enc P W 0 (λ _=>true) true ts vs ds ps→(∀ x∈ps,x.block<W.heap.size) →
  DataW.TrodAll enc P W' 0 (λ b=>decide (b<W.heap.size)) true ts vs ds ps
 | [],[],[],_,_,h,_=>h
 | t::ts,v::vs,d::ds,_,hr,⟨p,q,h1,h2,he⟩,hlt=>by
   subst he
   refine ⟨p,q,?_,?_,rfl⟩
   ·exact Below.trod hl (hr t (List.mem_cons_self ..)).1 (hr t (List.mem_cons_self ..)).2 h1 hb λ x hx=>hlt x (List.mem_append_left _ hx)
   ·exact qmD hl hb (λ t ht=>hr t (List.mem_cons_of_mem _ ht)) h2 λ x hx=>hlt x (List.mem_append_right _ hx)
 | [],[],_::_,_,_,h,_=>h.elim
 | [],_::_,_,_,_,h,_=>h.elim
 | _::_,[],_,_,_,h,_=>h.elim
 | _::_,_::_,[],_,_,h,_=>h.elim
theorem qFW {f:Func} {s:ChangeSpec} {apart fresh handsOn:Bool} {W W':World} {args:Array Value} {ds gs:List (DataW H)} {before:List MemPlace} {ts:List TypeId} {T:TypeId}
  (hl:laidOutB P=true) (hts:f.params.toList=ts) (hr:ts.all (λ t=>P.readableRec t&&decide (t<P.types.size))=true) (hv:s.vars=[])
  (hrt:f.resultTypes = #[T]) (hT:P.underlying T=some .bool)
  (hW:DataW.Whole enc P f.params.toList s.vars apart W args.toList ds gs before)
  (hres:(s.fn H (ds++gs)).results=[.lit (.bool true)]) (hargs:(s.fn H (ds++gs)).args=ds) (hvs:(s.fn H (ds++gs)).vars=[])
  (hb:Below W.heap.size W W'):s.post enc P f apart fresh handsOn false W args (.bool true) W':=by
 have hW':=hW
 have hlt := λ x hx=>hW'.lt x hx
 obtain ⟨p,q,hA,hV,rfl,hfz,hnd⟩:=hW
 rw [hv] at hV
 have hgs:gs=[]∧q=[]:=trodVars_none hV
 obtain ⟨rfl,rfl⟩:=hgs
 rw [List.append_nil] at *
 refine ⟨ds,[],p,[],p,[],?_,?_,?_,?_,?_,λ h=>by cases h⟩
 ·exact hW'
 ·rw [hrt,List.append_nil,hres]
  exact trodAll_mk1 (shut_bool hT _)
 ·rw [List.append_nil,hargs]
  refine qmD hl hb (ts:=f.params.toList) ?_ hA hlt
  intro t ht
  rw [hts] at ht
  have:=List.all_eq_true.1 hr t ht
  simpa using this
 ·rw [List.append_nil,hvs,hv]
  rfl
 ·exact hb.frame _
end
end Go.GxYtbpnmbmdbblehaaGreat
namespace Go.Proofs.YtbpnmbmdbblehaaGreat
theorem Tryz.own:ownKnob Tryz.prog.godebug=none:=by kernel_rfl
theorem Tryz.laidOut:laidOutB Tryz.prog=true:=by kernel_rfl
end Go.Proofs.YtbpnmbmdbblehaaGreat
namespace Go.AmYtbpnmbmdbblehaaGreat
open Go Go.GxYtbpnmbmdbblehaaGreat Go.RowKit
theorem quZ:∀ (τ : Ty) (v:Val τ),jO τ (yG τ v)=some v:=by
 intro τ v
 have h:=QI τ v
 cases τ <;> exact h
def qxY:List ATy→Bool
 | []=>true
 | .val _::r=>qxY r
 | .fn::_=>false
theorem qok:∀ (ts:List ATy) (a:qat ts),qxY ts=true→qcb ts (jw ts a [])=some a∧qd4 (jw ts a [])=[]
 | [],_,_=>⟨rfl,rfl⟩
 | .val τ :: r,a,h=>by
   obtain ⟨h1,h2⟩:=qok r a.2 h
   constructor
   ·show qkf (jO τ) (qcb r) (yG τ a.1::jw r a.2 [])=_
    simp only [qkf,quZ,h1]
   ·show qd4 (yG τ a.1::jw r a.2 [])=[]
    have:=(qbn (quZ τ a.1)).2
    cases hx:yG τ a.1<;>first | exact h2 | exact absurd hx (this _ _)
 | .fn::_,_,h=>by cases h
theorem law_calls {P:Program} {f:FuncId} {c:TC} (hp:qX P f (Qz (yL c f))) {ts:List ATy} {fn:qat ts→Option (qcN [.bool])} (hg:c.pf f []=some ⟨ts,[.bool],fn⟩) (ht:qxY ts=true) {a:qat ts} (hv:fn a=some true)
  {W:World} {vals:List Value} (hr:RepL (ghW W) (jw ts a []) vals):Calls P f vals.toArray W λ e w'=>e = .returned (.bool true)∧Below W.heap.size W w':=by
 obtain ⟨h1,h2⟩:=qok ts a ht
 have hs:yL c f (jw ts a [])=some (.v (.bool true)):=by
  unfold yL
  rw [h2,hg]
  simp only
  rw [h1]
  simp only
  rw [hv]
  rfl
 have hpp:Qz (yL c f) emp (jw ts a [])=some (.v (.bool true),none):=by
  show (match yL c f (jw ts a []) with | some v=>some (v,none) | none=>none)=_
  rw [hs]
 have:=hp.2 (ghW W) emp W (jw ts a []) vals _ (qGV W) hr hpp
 refine Calls.mono this ?_
 rintro e w' ⟨v,Γ',rfl,hx,_,hrv,_⟩
 have hv:=zq hrv
 subst hv
 refine ⟨rfl,hx.os,hx.tape,hx.output,hx.size,λ b hb=>hx.block b hb ?_⟩
 rintro (⟨i,hi,_⟩ | ⟨r,hr,_⟩)
 ·exact absurd hi (Nat.not_lt_zero _)
 ·exact absurd hr (Nat.not_lt_zero _)
theorem qyJ {Γ : Gh} {τ : Ty} {x:Val τ} {v:Value} (h:RepL Γ (qm τ x) v.cells.toList) (h1:∀ u∈v.cells.toList,u.oneCell'=true) (hs : τ.agg=true → τ.size≠1) (hna : τ.agg=false→∀ cs,v ≠ .agg cs):Rep Γ (yG τ x) v:=by
 have hlen:=h.len
 rw [jI] at hlen
 have agg:yG τ x = .agg (qm τ x) → τ.agg=true→Rep Γ (yG τ x) v:=by
  intro he ha
  rw [he]
  have hne:=hs ha
  cases v with
  | agg cs=>exact .agg _ _ h.len h1 h.rep
  | _=>exact absurd (show τ.size=1 by rw [← hlen];rfl) hne
 have one:∀ {y:AV},qm τ x=[y]→yG τ x=y → τ.agg=false→Rep Γ (yG τ x) v:=by
  intro y he hy ha
  have hc:v.cells = #[v]:=by
   cases v with
   | agg cs=>exact absurd rfl (hna ha cs)
   | _=>rfl
  rw [he,hc] at h
  rw [hy]
  exact h.rep 0 y v rfl rfl
 cases τ with
 | term=>exact agg rfl rfl
 | pair a b=>exact agg rfl rfl
 | one a=>exact agg rfl rfl
 | _=>exact one rfl rfl rfl
open Go.ChangeShapes Go.WideShapes Go.ChangeAt Go.WideMaps Go.WideElems
theorem qHy {P:Program} {n:Nat} {τ : Ty} {t:TypeId} {W:World} {zV:Nat} {v:Value} (hm:tyM P n τ t=true) (hv:Value.okWide P W .any zV t v) : τ.agg=false→∀ cs,v ≠ .agg cs:=by
 intro ha cs
 cases n with
 | zero=>cases τ <;> simp [tyM] at hm
 | succ n =>
 cases τ with
 | int k =>
   simp only [tyM] at hm
   split at hm
   ·rename_i ht;obtain ⟨_,rfl⟩:=okWide_int ht hv;intro h;cases h
   ·cases hm
 | bool =>
   simp only [tyM] at hm
   split at hm
   ·rename_i ht;obtain ⟨_,rfl⟩:=okWide_bool ht hv;intro h;cases h
   ·cases hm
 | str =>
   simp only [tyM] at hm
   split at hm
   ·rename_i ht;obtain ⟨_,rfl⟩:=okWide_string ht hv;intro h;cases h
   ·cases hm
 | list a =>
   simp only [tyM] at hm
   split at hm
   ·rename_i e ht;obtain ⟨_,_,_,rfl⟩:=okWide_slice ht hv;intro h;cases h
   ·cases hm
 | _=>cases ha
theorem arg_val {H:Type} {enc:TypeId × Value→H} {P:Program} {W:World} {n:Nat} {τ : Ty} {t:TypeId} {v:Value} {d:DataW H} {ps:List MemPlace} {zV:Nat} (hm:tyM P n τ t=true) (hs : τ.agg=true → τ.size≠1) (hv:Value.okWide P W .any zV t v)
  (h:DataW.Trod enc P W 0 (λ _=>true) true t v d ps) (hw:∀ k∈d.weights P t,k≤reachBytes):∃ x:Val τ,Rep (ghW W) (yG τ x) v∧qke τ x:=by
 obtain ⟨fuel,hf⟩:=h
 obtain ⟨x,h1,h2,h3⟩:=qFC fuel n τ t v.cells.toList (d,ps) hm hf hw
 exact ⟨x,qyJ h1 h2 hs (qHy hm hv),h3⟩
end Go.AmYtbpnmbmdbblehaaGreat
end
