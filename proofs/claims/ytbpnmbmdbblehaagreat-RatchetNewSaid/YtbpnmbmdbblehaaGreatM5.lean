/- Part 5 of what the proofs stand on: plain functions of the program, and that they are its functions. -/
import Derived.Test.YtbpnmbmdbblehaaGreatM4
import Derived.KernelRfl
import Derived.Test.YtbpnmbmdbblehaaGreatM3
import Derived.Shelf.SlSortCmp.NoneTotal
import Derived.Test.YtbpnmbmdbblehaaGreatProg
import Derived.SliceStrings
import Derived.SizedLaws
import Derived.Test.YtbpnmbmdbblehaaGreatM1
import Derived.ProofKit
import Derived.Test.YtbpnmbmdbblehaaGreatRows
set_option linter.unusedVariables false
set_option linter.unusedSimpArgs false
namespace Go.AmYtbpnmbmdbblehaaGreat
open Go Go.GxYtbpnmbmdbblehaaGreat
theorem qIk (l:List T) (t:T) (hs:szL l+size t≤1000000000):Ev (λ m _=>qgY m l t) (l.any λ x=>yI x t):=by
 have hl:=y9 l
 refine Ev.succ ?_
 simp only [qzh,qfc]
 have key:=qr (P := λ i=>Ev (λ m k=>qaN m k l i t.kind t.name t.sort t.kids) ((l.drop i).any λ x=>yI x t)) l (by omega)
  (λ hc=>by
   refine Ev.loop ?_
   simp only [qnc,qfT]
   refine Ev.cf hc (Ev.ret ?_)
   rw [List.drop_length];rfl)
  (λ i x hx hd hc hg hi hP=>by
   refine Ev.loop ?_
   simp only [qnc,qfT,qe]
   have h1:=qbw (List.mem_of_getElem? hx)
   rw [hd,List.any_cons,show T.mk t.kind t.name t.sort t.kids=t from qe t]
   refine Ev.ct hc (Ev.some hg (Ev.bind (qb0 x t (by omega) (by omega)) (Ev.ite (λ h=>?_) λ h=>?_)))
   ·rw [h];exact Ev.pure _
   ·rw [h,hi];exact hP)
 refine Ev.diag (L := λ m k=>qaN m k l 0 t.kind t.name t.sort t.kids) ?_
 exact (key 0 (Nat.zero_le _)).res (by rw [List.drop_zero])
theorem qx4 (t:T):∀ (l:List T) (s:List T × Bool),(l.foldl (QV t) s).1.length≤s.1.length+2*l.length
 | [],s=>by simp
 | x::l,s=>by
   have h:=qx4 t l (QV t s x)
   have:(QV t s x).1.length≤s.1.length+2:=by
    unfold QV
    split
    ·simp only [List.length_append,List.length_cons,List.length_nil]
     split<;>simp
    ·simp
   rw [List.foldl_cons,List.length_cons];omega
theorem qCq (l:List T) (t:T) (hs:szL l+size t≤1000000000):Ev (λ m _=>qeX m l t) (qtm l t):=by
 have hl:=y9 l
 refine Ev.succ ?_
 simp only [qzH,qfX]
 have hlen:∀ i,((l.take i).foldl (QV t) ([],false)).1.length≤2*l.length := λ i=>by
  have:=qx4 t (l.take i) ([],false)
  have h2:(l.take i).length≤l.length:=by rw [List.length_take];omega
  simp only [List.length_nil] at this;omega
 have key:=qr (P := λ i=>Ev (λ m k=>qaV m k l ((l.take i).foldl (QV t) ([],false)).2 i t.kind t.name t.sort t.kids ((l.take i).foldl (QV t) ([],false)).1) (qtm l t)) l (by omega)
  (λ hc=>by
   refine Ev.loop ?_
   simp only [qnd,qe9]
   refine Ev.cf hc ?_
   rw [List.take_length]
   unfold qtm
   have:=hlen l.length
   rw [List.take_length] at this
   refine Ev.ite (λ h=>?_) λ h=>?_
   ·rw [bnt] at h
    rw [if_neg (by rw [h];decide),show T.mk t.kind t.name t.sort t.kids=t from qe t]
    exact Ev.ct (zh (by omega) (by omega)) (Ev.pure _)
   ·rw [bnf] at h
    rw [if_pos h]
    exact Ev.pure _)
  (λ i x hx hd hc hg hi hP=>by
   refine Ev.loop ?_
   simp only [qnd,qe9,qe]
   have h1:=qbw (List.mem_of_getElem? hx)
   have h2:=hlen i
   have hstep:(l.take (i+1)).foldl (QV t) ([],false)=QV t ((l.take i).foldl (QV t) ([],false)) x:=by
    rw [List.take_add_one,hx,List.foldl_append];rfl
   rw [hstep] at hP
   generalize (l.take i).foldl (QV t) ([],false)=s at *
   rw [show T.mk t.kind t.name t.sort t.kids=t from qe t,hi]
   refine Ev.ct hc (Ev.some hg (Ev.bind (qgJ t (by omega) x (by omega)) (Ev.ite (λ h=>?_) λ h=>?_)))
   ·rw [bnt] at h
    refine Ev.ite (λ hc1=>?_) λ hc1=>?_
    ·rw [qgM] at hc1
     unfold QV at hP
     rw [if_pos ⟨h,hc1⟩] at hP
     refine Ev.ite (λ hc2=>?_) λ hc2=>?_
     ·rw [qu] at hc2
      rw [if_pos hc2] at hP
      exact Ev.ct (zh (by omega) (by omega)) (Ev.some hg (Ev.ct (zh (by rw [List.length_append];simp only [List.length_cons,List.length_nil];omega) (by omega)) hP))
     ·rw [qv] at hc2
      rw [if_neg (by omega),List.append_nil] at hP
      exact Ev.some hg (Ev.ct (zh (by omega) (by omega)) hP)
    ·rw [qic] at hc1
     unfold QV at hP
     rw [if_neg (by omega)] at hP
     exact Ev.some hg (Ev.ct (zh (by omega) (by omega)) hP)
   ·rw [bnf] at h
    unfold QV at hP
    rw [if_neg (by rw [h];intro hh;cases hh.1)] at hP
    exact Ev.some hg (Ev.ct (zh (by omega) (by omega)) hP))
 refine Ev.diag (L := λ m k=>qaV m k l false 0 t.kind t.name t.sort t.kids []) ?_
 exact key 0 (Nat.zero_le _)
theorem qHA (l:List T) (t:T) (hs:szL l+size t≤1000000000):Ev (λ m _=>qcZ m l t) (qgz l t):=by
 have hl:=y9 l
 refine Ev.succ ?_
 simp only [qt2,qcB,qe]
 unfold qgz
 refine Ev.bind (qIk l t hs) (Ev.ite (λ h=>?_) λ h=>?_)
 ·rw [bnt] at h
  rw [if_neg (by rw [h];decide)]
  exact Ev.bind (qCq l t hs) (Ev.pure _)
 ·rw [bnf] at h
  rw [if_pos h]
  have key:=qr (P := λ i=>Ev (λ m k=>QS m k l i t.kind t.name t.sort t.kids ((l.take i).filter λ x => !yI x t)) (l.filter λ x => !yI x t)) l (by omega)
   (λ hc=>by
    refine Ev.loop ?_
    simp only [qjS,qcv]
    refine Ev.cf hc ?_
    rw [List.take_length]
    exact Ev.pure _)
   (λ i x hx hd hc hg hi hP=>by
    refine Ev.loop ?_
    simp only [qjS,qcv,qe]
    have h1:=qbw (List.mem_of_getElem? hx)
    have h2:((l.take i).filter λ x => !yI x t).length≤l.length:=Nat.le_trans (List.length_filter_le _ _) (by rw [List.length_take];omega)
    rw [List.take_add_one,hx,List.filter_append] at hP
    rw [show T.mk t.kind t.name t.sort t.kids=t from qe t,hi]
    refine Ev.ct hc (Ev.some hg (Ev.bind (qb0 x t (by omega) (by omega)) (Ev.ite (λ h=>?_) λ h=>?_)))
    ·rw [bnt] at h
     have e:(Option.some x).toList.filter (λ x => !yI x t)=[x]:=by show [x].filter _=_;simp [h]
     rw [e] at hP
     exact Ev.some hg (Ev.ct (zh (by omega) (by omega)) hP)
    ·rw [bnf] at h
     have e:(Option.some x).toList.filter (λ x => !yI x t)=[]:=by show [x].filter _=_;simp [h]
     rw [e,List.append_nil] at hP
     exact hP)
  refine Ev.diag (L := λ m k=>QS m k l 0 t.kind t.name t.sort t.kids []) ?_
  exact key 0 (Nat.zero_le _)
theorem qs0 (t:T):∀ l:List T,szL (Ql l t)≤szL l+size t
 | []=>by rw [Ql,qJ];omega
 | x::l=>by
   have:=qs0 t l
   rw [Ql]
   split
   ·rw [qJ,qJ];omega
   ·split
    ·omega
    ·rw [qJ,qJ];omega
theorem quQ (p:T→Bool):∀ l:List T,szL (l.filter p)≤szL l
 | []=>Nat.le_refl _
 | x::l=>by
   have:=quQ p l
   rw [List.filter_cons]
   split
   ·rw [qJ,qJ];omega
   ·rw [qJ];omega
theorem qGz (l:List T) (t:T):szL (qgz l t)≤szL l+size t:=by
 unfold qgz
 split
 ·exact Nat.le_trans (quQ _ l) (by omega)
 ·rw [qqi];exact qs0 t l
theorem qsG:∀ (b a:List T),szL (b.foldl qgz a)≤szL a+szL b
 | [],a=>by simp [szL]
 | x::b,a=>by
   have h1:=qsG b (qgz a x)
   have h2:=qGz a x
   rw [List.foldl_cons,qJ];omega
theorem qyC (a b:List T) (hs:szL a+szL b≤1000000000):Ev (λ m _=>qdz m a b) (qid a b):=by
 have h1:=y9 a
 have h2:=y9 b
 refine Ev.succ ?_
 simp only [qyF,qek]
 have key:=qr (P := λ i=>Ev (λ m k=>Jc m k b ((b.take i).foldl qgz a) i) (qid a b)) b (by omega)
  (λ hc=>by
   refine Ev.loop ?_
   simp only [qmr,qep]
   refine Ev.cf hc ?_
   rw [List.take_length]
   exact Ev.pure _)
  (λ i x hx hd hc hg hi hP=>by
   refine Ev.loop ?_
   simp only [qmr,qep,qe]
   have h3:=jD hx
   have h4:=qsG (b.take i) a
   rw [List.take_add_one,hx,List.foldl_append] at hP
   refine Ev.ct hc (Ev.some hg (Ev.bind (qHA _ x (by omega)) ?_))
   rw [hi]
   exact hP)
 refine Ev.ct (zh (by simp only [List.length_nil];omega) (by omega)) ?_
 have main:Ev (λ m _=>Jc m m b a 0) (qid a b):=Ev.diag (L := λ m k=>Jc m k b a 0) (key 0 (Nat.zero_le _))
 exact Ev.case (λ h=>by rw [h] at main ⊢;exact main) λ x r h=>by rw [h] at main ⊢;exact main
theorem qF5 (t:T):size t≤1000000000→Ev (λ m _=>zr m t) (jn t):=by
 induction t using T.ind with
 | h t ih =>
   intro hs
   have hl:=yG t
   have hz:=qC t
   refine Ev.succ ?_
   simp only [qp1,qa2,qe]
   have key:=qr (P := λ i=>Ev (λ m k=>jk m (zr m) k (((t.kids.take i).map jn).foldl zf []) i t.kind t.name t.sort t.kids) ((t.kids.map jn).foldl zf [])) t.kids (by omega)
    (λ hc=>by
     refine Ev.loop ?_
     simp only [qhE,qa7]
     refine Ev.cf hc ?_
     rw [List.take_length]
     exact Ev.pure _)
    (λ i x hx hd hc hg hi hP=>by
     refine Ev.loop ?_
     simp only [qhE,qa7,qe]
     have hm:=List.mem_of_getElem? hx
     have h1:=jf t x hm
     have h2:=qc7 (t.kids.take i)
     have h3:=jD hx
     have h4:=qiS x
     have ha:Asc (((t.kids.take i).map jn).foldl zf []):=qfK _ _ List.Pairwise.nil λ l hl=>by
      obtain ⟨k,_,rfl⟩:=List.mem_map.1 hl
      exact qjY k
     refine Ev.ct hc (Ev.some hg (Ev.bind (ih x hm (by omega)) (Ev.bind (qyC _ _ ?_) ?_)))
     ·unfold zD at h2;unfold szL at *;omega
     ·rw [hi,qyt ha (qjY x)]
      refine hP.congr λ m k=>?_
      rw [qhT hx])
   have main:Ev (λ m _=>jk m (zr m) m [] 0 t.kind t.name t.sort t.kids) ((t.kids.map jn).foldl zf []) :=
    Ev.diag (L := λ m k=>jk m (zr m) k [] 0 t.kind t.name t.sort t.kids) (key 0 (Nat.zero_le _))
   rw [qi7]
   by_cases h3:t.kind=3
   ·have hk:ieq t.kind 3=true:=qi.2 h3
    have hk':qc (ieq t.kind 3)=false:=bnf.2 hk
    refine Ev.ct hk ?_
    refine Ev.ite (λ hn=>?_) λ hn=>?_
    ·rw [y8] at hn
     have hnz:isN t qbe=true:=yr.2 ⟨h3,hn⟩
     have hnx:isN t qd4=false:=by
      rw [← Bool.not_eq_true,yr];rintro ⟨_,h⟩;rw [hn] at h;exact absurd h (by decide)
     refine Ev.ite (λ he=>?_) λ he=>?_
     ·rw [qi] at he
      have he:t.kids=[]:=List.eq_nil_of_length_eq_zero (by omega)
      rw [hnz,he]
      exact Ev.pure _
     ·rw [qg] at he
      have he:t.kids.isEmpty=false:=by
       cases hh:t.kids with
       | nil=>rw [hh] at he;exact absurd rfl he
       | cons _ _=>rfl
      rw [hnz,he,hnx]
      exact Ev.cf hk' (Ev.ct (by rw [hn];rfl) (Ev.pure _))
    ·have hn':=jq.1 hn
     have hnz:isN t qbe=false:=by
      rw [← Bool.not_eq_true,yr];rintro ⟨_,h⟩;exact hn' h
     rw [hnz]
     refine Ev.cf hk' (Ev.ite (λ hx=>?_) λ hx=>?_)
     ·have hnx:isN t qd4=false:=by
        rw [← Bool.not_eq_true,yr];rintro ⟨_,h⟩;exact jq.1 (bnt.1 hx) h
      rw [hnx]
      exact Ev.pure _
     ·rw [show isN t qd4=true from yr.2 ⟨h3,y8.1 (bnf.1 hx)⟩]
      exact main
   ·have hk:ieq t.kind 3=false:=qg.2 h3
    have hnn:∀ n,isN t n=false := λ n=>by
     rw [← Bool.not_eq_true,yr];rintro ⟨h,_⟩;exact h3 h
    rw [hnn,hnn]
    exact Ev.cf hk (Ev.ct (bnt.2 hk) (Ev.pure _))
theorem qBv:qA (apT qbe [])=0:=by
 unfold qA
 rw [qju,qC,qip]
 have:Qk (apT qbe [])=0:=by decide
 show (if Qk (apT qbe [])≠0 then Qk (apT qbe []) else _)=0
 rw [this];rfl
theorem qCh (l:List T) (hs:szL l≤100000000):Ev (λ m _=>qd8 m l (apT qbe [])) (qkG l):=by
 have hl:=y9 l
 refine Ev.succ ?_
 simp only [qv8,qdt]
 unfold qkG
 refine Ev.ite (λ h=>?_) λ h=>?_
 ·rw [qu] at h
  rw [if_pos (by omega)]
  exact Ev.pure _
 ·rw [qv] at h
  rw [if_neg (by omega)]
  have key:=qr (P := λ i=>Ev (λ m k=>Jq m k l i 3 qbe 0 []) (((l.drop i).map qA).foldl thn 0)) l (by omega)
   (λ hc=>by
    refine Ev.loop ?_
    simp only [qkH,qdH]
    refine Ev.cf hc ?_
    rw [List.drop_length]
    refine Ev.bind (qay (T.mk 3 qbe 0 []) (by rw [qC];show 1+0≤_;omega)) ?_
    exact Ev.ret qBv)
   (λ i x hx hd hc hg hi hP=>by
    refine Ev.loop ?_
    simp only [qkH,qdH,qe]
    have h1:=qbw (List.mem_of_getElem? hx)
    rw [qm5 hd]
    refine Ev.ct hc (Ev.some hg (Ev.bind (qay x (by omega)) (Ev.ite (λ hv=>?_) λ hv=>?_)))
    ·rw [bnt,qg] at hv
     rw [if_pos hv]
     exact Ev.pure _
    ·rw [bnf,qi] at hv
     rw [if_neg (by omega),hi]
     exact hP)
  refine Ev.diag (L := λ m k=>Jq m k l 0 3 qbe 0 []) ?_
  exact (key 0 (Nat.zero_le _)).res (by rw [List.drop_zero])
theorem qzS (l:List T):size (Jr l)≤1+szL l:=by
 unfold Jr
 split
 ·rw [qC];show 1+0≤_;omega
 ·split
  ·rename_i _ h1l
   have:l.getD 0 zT∈l:=by
    cases l with
    | nil=>cases h1l
    | cons x r=>exact List.mem_cons_self ..
   have:=qbw this;omega
  ·rw [qC];exact Nat.le_refl _
theorem qDy (l:List T) (hs:szL l≤1000000000):Ev (λ m _=>qfn m l) (Jr l):=by
 have hl:=y9 l
 refine Ev.succ ?_
 simp only [qxZ,qhx,qe]
 unfold Jr
 refine Ev.ite (λ h0=>?_) λ h0=>?_
 ·rw [qi] at h0
  rw [if_pos (by omega)]
  exact Ev.bind (qbl _ [] (by simp)) (Ev.pure _)
 ·rw [qg] at h0
  rw [if_neg (by omega)]
  refine Ev.ite (λ h1=>?_) λ h1=>?_
  ·rw [qi] at h1
   rw [if_pos (by omega)]
   refine Ev.some (a:=l.getD 0 zT) ?_ (Ev.pure _)
   rw [Ja,List.getD_eq_getElem?_getD]
   cases l with
   | nil=>simp at h1
   | cons x r=>rfl
  ·rw [qg] at h1
   rw [if_neg (by omega)]
   exact Ev.ct (zh (by simp only [List.length_nil];omega) (by omega)) (Ev.case (λ h=>Ev.ret (by rw [h];rfl)) λ x r h=>Ev.ret (by rw [h];rfl))
theorem qGV (l:List T) (hs:szL l≤900000):Ev (λ m _=>qg9 m l) (qlQ l):=by
 have hl:=y9 l
 refine Ev.succ ?_
 simp only [qzm,qfk]
 unfold qlQ
 have z:Ev (λ m _=>qfr m) (apT qbe []):=by
  refine Ev.succ ?_
  simp only [qyJ,qhu,qe]
  exact Ev.bind (qbl _ [] (by simp)) (Ev.pure _)
 refine Ev.bind z ?_
 rw [qe]
 refine Ev.bind (qCh l (by omega)) (Ev.ite (λ h=>?_) λ h=>?_)
 ·rw [bnt,qg] at h
  rw [if_pos h]
  exact Ev.pure _
 ·rw [bnf,qi] at h
  rw [if_neg (by omega)]
  have key:=qr (P := λ i=>Ev (λ m k=>qaS m k l (((l.take i).map jn).foldl zf []) i 0 [] 0 []) (if qA (Jr (zD l))≠0 then (zT,3) else (Jr (zD l),0))) l (by omega)
   (λ hc=>by
    refine Ev.loop ?_
    simp only [qnK,qfq,qe]
    refine Ev.cf hc ?_
    rw [List.take_length]
    have h1:=qc7 l
    have h2:=qzS (zD l)
    refine Ev.bind (qDy (zD l) (by omega)) (Ev.bind (qay _ (by omega)) (Ev.ite (λ h=>?_) λ h=>?_))
    ·rw [bnt,qg] at h
     rw [if_pos h];exact Ev.pure _
    ·rw [bnf,qi] at h
     rw [if_neg (by omega)];exact Ev.pure _)
   (λ i x hx hd hc hg hi hP=>by
    refine Ev.loop ?_
    simp only [qnK,qfq,qe]
    have hm:=List.mem_of_getElem? hx
    have h1:=qbw hm
    have h2:=qc7 (l.take i)
    have h3:=jD hx
    have h4:=qiS x
    have ha:Asc (((l.take i).map jn).foldl zf []):=qfK _ _ List.Pairwise.nil λ l hl=>by
     obtain ⟨k,_,rfl⟩:=List.mem_map.1 hl
     exact qjY k
    refine Ev.ct hc (Ev.some hg (Ev.bind (qF5 x (by omega)) (Ev.bind (qyC _ _ ?_) ?_)))
    ·unfold zD at h2;omega
    ·rw [hi,qyt ha (qjY x)]
     refine hP.congr λ m k=>?_
     rw [qhT hx])
  refine Ev.diag (L := λ m k=>qaS m k l [] 0 0 [] 0 []) ?_
  exact key 0 (Nat.zero_le _)
end Go.AmYtbpnmbmdbblehaaGreat
namespace Go.GxYtbpnmbmdbblehaaGreat
def qeK (l:List Pw):Prop:=Asc (l.map (·.1))
def NzP (l:List Pw):Prop:=∀ p∈l,p.2≠0
theorem qe4 {p:Pw} {l:List Pw}:qeK (p::l)↔(∀ q∈l,qp p.1 q.1=-1)∧qeK l:=by
 unfold qeK
 rw [List.map_cons,JW]
 simp
theorem qcT {p:Pw} {l:List Pw}:NzP (p::l)↔p.2≠0∧NzP l:=by
 unfold NzP;simp
def jZ (l:List Pw):Nat:=(l.map λ p=>p.2.natAbs).sum
theorem qlP:∀ (l:List Pw) (t:T) (n:Int) (p:Pw),p∈yb l t n→p.1=t∨p∈l
 | [],t,n,p,h=>by simp [yb] at h;exact .inl (by rw [h])
 | (x,m)::l,t,n,p,h=>by
   rw [yb] at h
   split at h
   ·rcases List.mem_cons.1 h with h | h
    ·exact .inl (by rw [h])
    ·exact .inr h
   ·split at h
    ·rename_i h0
     split at h
     ·exact .inr (List.mem_cons_of_mem _ h)
     ·rcases List.mem_cons.1 h with h | h
      ·left;rw [h];exact (JQ t x h0).symm
      ·exact .inr (List.mem_cons_of_mem _ h)
    ·rcases List.mem_cons.1 h with h | h
     ·exact .inr (h▸List.mem_cons_self ..)
     ·rcases qlP l t n p h with h | h
      ·exact .inl h
      ·exact .inr (List.mem_cons_of_mem _ h)
theorem qw5:∀ (l:List Pw) (t:T) (n:Int),qeK l→qeK (yb l t n)
 | [],_,_,_=>List.pairwise_singleton _ _
 | (x,m)::l,t,n,h=>by
   obtain ⟨h1,h2⟩:=qe4.1 h
   rw [yb]
   have hr:=zH.rng t x
   split
   ·rename_i hlt
    refine qe4.2 ⟨λ q hq=>?_,h⟩
    rcases List.mem_cons.1 hq with e | hq
    ·rw [e];exact hlt
    ·exact qdR hlt (h1 q hq)
   ·split
    ·split
     ·exact h2
     ·exact qe4.2 ⟨h1,h2⟩
    ·refine qe4.2 ⟨λ q hq=>?_,qw5 l t n h2⟩
     rcases qlP l t n q hq with e | hq
     ·rw [e];exact qt1.1 (show qp t x=1 by omega)
     ·exact h1 q hq
theorem qAE:∀ (l:List Pw) (t:T) (n:Int),NzP l→n≠0→NzP (yb l t n)
 | [],_,_,_,hn=>by intro p hp;simp [yb] at hp;rw [hp];exact hn
 | (x,m)::l,t,n,h,hn=>by
   obtain ⟨h1,h2⟩:=qcT.1 h
   rw [yb]
   split
   ·exact qcT.2 ⟨hn,h⟩
   ·split
    ·split
     ·exact h2
     ·exact qcT.2 ⟨by assumption,h2⟩
    ·exact qcT.2 ⟨h1,qAE l t n h2 hn⟩
theorem qqc:∀ (l:List Pw) (t:T) (n:Int),jZ (yb l t n)≤jZ l+n.natAbs
 | [],t,n=>by simp [yb,jZ]
 | (x,m)::l,t,n=>by
   have ih:=qqc l t n
   unfold jZ at ih ⊢
   rw [yb]
   split
   ·simp only [List.map_cons,List.sum_cons];omega
   ·split
    ·split
     ·simp only [List.map_cons,List.sum_cons];omega
     ·simp only [List.map_cons,List.sum_cons];omega
    ·simp only [List.map_cons,List.sum_cons];omega
theorem qqu:∀ (l:List Pw) (t:T) (n:Int),(yb l t n).length≤l.length+1
 | [],t,n=>by simp [yb]
 | (x,m)::l,t,n=>by
   have ih:=qqu l t n
   rw [yb]
   split
   ·simp
   ·split
    ·split
     ·simp;omega
     ·simp
    ·simp only [List.length_cons];omega
theorem qwJ (l:List Pw) (p:Pw) (h:p∈l):p.2.natAbs≤jZ l:=by
 unfold jZ
 induction l with
 | nil=>cases h
 | cons q l ih =>
   simp only [List.map_cons,List.sum_cons]
   rcases List.mem_cons.1 h with e | h
   ·rw [e];omega
   ·have:=ih h;omega
noncomputable def yy (t:T) (n:Int) (s:List Pw × Bool) (p:Pw):List Pw × Bool :=
 ((if s.2=false∧qp t p.1<0 then s.1++[(t,n)] else s.1)++(if (if qp t p.1=0 then p.2+n else p.2)=0 then [] else [(p.1,if qp t p.1=0 then p.2+n else p.2)]),
   s.2||decide (qp t p.1≤0))
noncomputable def qA1 (l:List Pw) (t:T) (n:Int):List Pw:=if (l.foldl (yy t n) ([],false)).2 then (l.foldl (yy t n) ([],false)).1 else (l.foldl (yy t n) ([],false)).1++[(t,n)]
theorem qlM (t:T) (n:Int):∀ (l out:List Pw),NzP l→(∀ q∈l,qp t q.1=-1)→l.foldl (yy t n) (out,true)=(out++l,true)
 | [],out,_,_=>by simp
 | (x,m)::l,out,h,k=>by
   obtain ⟨h1,h2⟩:=qcT.1 h
   have k1:=k _ (List.mem_cons_self ..)
   simp only at k1 h1
   have e:yy t n (out,true) (x,m)=(out++[(x,m)],true):=by simp [yy,k1,h1]
   rw [List.foldl_cons,e,qlM t n l _ h2 λ q hq=>k q (List.mem_cons_of_mem _ hq)]
   simp
theorem qpr (t:T) (n:Int):∀ (l out:List Pw),NzP l→qeK l→(if (l.foldl (yy t n) (out,false)).2 then (l.foldl (yy t n) (out,false)).1 else (l.foldl (yy t n) (out,false)).1++[(t,n)])=out++yb l t n
 | [],out,_,_=>by simp [yb]
 | (x,m)::l,out,h,k=>by
   obtain ⟨h1,h2⟩:=qcT.1 h
   obtain ⟨k1,k2⟩:=qe4.1 k
   simp only at h1 k1
   have hr:=zH.rng t x
   rw [List.foldl_cons,yb]
   by_cases c1:qp t x=-1
   ·have e:yy t n (out,false) (x,m)=(out++[(t,n)]++[(x,m)],true):=by simp [yy,c1,h1]
    rw [e,qlM t n l _ h2 λ q hq=>qdR c1 (k1 q hq),if_pos c1]
    simp
   ·by_cases c2:qp t x=0
    ·have e:yy t n (out,false) (x,m)=(out++(if m+n=0 then [] else [(x,m+n)]),true):=by simp [yy,c2]
     have ex:=JQ t x c2
     rw [e,qlM t n l _ h2 λ q hq=>by rw [ex];exact k1 q hq,if_neg c1,if_pos c2]
     by_cases c3:m+n=0
     ·simp [c3]
     ·simp [c3]
    ·have e:yy t n (out,false) (x,m)=(out++[(x,m)],false):=by
       have g1:¬ qp t x<0:=by omega
       have g2:¬ qp t x≤0:=by omega
       simp [yy,g1,g2,c2,h1]
     rw [e,qpr t n l _ h2 k2,if_neg c1,if_neg c2]
     simp
theorem qFh {l:List Pw} (h:NzP l) (k:qeK l) (t:T) (n:Int):qA1 l t n=yb l t n:=by
 have:=qpr t n l [] h k
 simpa [qA1] using this
def Q6 (l:List Pw):Prop:=qeK l∧NzP l
theorem Q6.nil:Q6 []:=⟨List.Pairwise.nil,λ _ h=>by cases h⟩
theorem Q6.ins {l:List Pw} (h:Q6 l) (t:T) {n:Int} (hn:n≠0):Q6 (yb l t n):=⟨qw5 l t n h.1,qAE l t n h.2 hn⟩
theorem qG1 {t:T} {n:Int} (h:n≠0):J8 t n≠0:=by unfold J8;split<;>omega
theorem qFZ (t:T) (n:Int):(J8 t n).natAbs=n.natAbs:=by unfold J8;split<;>omega
theorem qAC (fs:List T) (n:Int) (P:List Pw→Prop) (h:∀ k∈fs,∀ l,P l→P (yR k l n)):∀ l,P l→P ((fs.map yR).foldl (λ l f=>f l n) l):=by
 induction fs with
 | nil=>intro l hl;exact hl
 | cons k fs ih=>intro l hl;exact ih (λ k hk=>h k (List.mem_cons_of_mem _ hk)) _ (h k (List.mem_cons_self ..) l hl)
theorem qCO (t:T):∀ (l:List Pw) (n:Int),n≠0→Q6 l→Q6 (yR t l n):=by
 refine T.ind (P := λ t=>∀ (l:List Pw) (n:Int),n≠0→Q6 l→Q6 (yR t l n)) ?_ t
 intro t ih l n hn h
 rw [qeV]
 split
 ·exact qAC t.kids (J8 t n) Q6 (λ k hk l hl=>ih k hk l _ (qG1 hn) hl) l h
 ·exact h.ins t hn
theorem qEu (t:T):∀ (l:List Pw) (n:Int),jZ (yR t l n)≤jZ l+size t*n.natAbs∧(yR t l n).length≤l.length+size t:=by
 refine T.ind (P := λ t=>∀ (l:List Pw) (n:Int),jZ (yR t l n)≤jZ l+size t*n.natAbs∧(yR t l n).length≤l.length+size t) ?_ t
 intro t ih l n
 rw [qeV,qC]
 split
 ·have:∀ (fs:List T),(∀ k∈fs,k∈t.kids)→∀ l,jZ ((fs.map yR).foldl (λ l f=>f l (J8 t n)) l)≤jZ l+(fs.map size).sum*n.natAbs∧((fs.map yR).foldl (λ l f=>f l (J8 t n)) l).length≤l.length+(fs.map size).sum:=by
    intro fs
    induction fs with
    | nil=>intro _ l;simp
    | cons k fs ihf =>
      intro hf l
      have h1:=ih k (hf k (List.mem_cons_self ..)) l (J8 t n)
      rw [qFZ] at h1
      have h2:=ihf (λ k hk=>hf k (List.mem_cons_of_mem _ hk)) (yR k l (J8 t n))
      simp only [List.map_cons,List.foldl_cons,List.sum_cons,Nat.add_mul] at h2 ⊢
      omega
  have:=this t.kids (λ _ h=>h) l
  rw [Nat.add_mul]
  omega
 ·have h1:=qqc l t n
  have h2:=qqu l t n
  rw [Nat.add_mul]
  omega
theorem qnl:∀ (b a:List Pw),Q6 a→NzP b→Q6 (Qn a b)
 | [],a,h,_=>h
 | p::b,a,h,k=>qnl b (yb a p.1 p.2) (h.ins p.1 (qcT.1 k).1) (qcT.1 k).2
theorem qpM:∀ (b a:List Pw),jZ (Qn a b)≤jZ a+jZ b∧(Qn a b).length≤a.length+b.length
 | [],a=>by simp [Qn,jZ]
 | p::b,a=>by
   have h1:=qpM b (yb a p.1 p.2)
   have h2:=qqc a p.1 p.2
   have h3:=qqu a p.1 p.2
   have e:jZ (p::b)=p.2.natAbs+jZ b:=by simp [jZ]
   rw [show Qn a (p::b)=Qn (yb a p.1 p.2) b from rfl,e,List.length_cons]
   omega
noncomputable def ixP:List Pw→T→Nat
 | [],_=>0
 | p::l,t=>if qp p.1 t=-1 then ixP l t+1 else 0
theorem qDw:∀ (l:List Pw) (t:T),ixP l t≤l.length
 | [],_=>Nat.le_refl _
 | p::l,t=>by
   have:=qDw l t
   rw [ixP]
   split
   ·simp;omega
   ·omega
theorem qC3:∀ (l:List Pw) (t:T) (i:Nat),i≤l.length→(∀ k p,k<i→l[k]? = some p→qp p.1 t=-1)→(∀ p,l[i]? = some p→qp p.1 t≠-1)→i=ixP l t
 | [],_,i,h,_,_=>by simp at h;rw [h];rfl
 | p::l,t,0,_,_,h=>by rw [ixP,if_neg (h p rfl)]
 | p::l,t,i+1,h,k,m=>by
   rw [ixP,if_pos (k 0 p (by omega) rfl)]
   rw [← qC3 l t i (by simpa using h) (λ j q hj hq=>k (j+1) q (by omega) (by simpa using hq)) (λ q hq=>m q (by simpa using hq))]
theorem qAA:∀ (l:List Pw) (t:T) (n:Int) (x:T) (m:Int),l[ixP l t]? = some (x,m)→qp x t=0 →
  yb l t n=if m+n=0 then l.take (ixP l t)++l.drop (ixP l t+1) else l.take (ixP l t)++[(x,m+n)]++l.drop (ixP l t+1)
 | [],_,_,_,_,h,_=>by simp at h
 | (y,k)::l,t,n,x,m,h,h0=>by
   have an:=zH.anti y t
   have rg:=zH.rng y t
   rw [ixP] at h
   rw [yb,ixP]
   simp only at h ⊢
   by_cases c:qp y t=-1
   ·rw [if_pos c] at h
    rw [if_neg (by omega),if_neg (by omega),if_pos c,qAA l t n x m (by simpa using h) h0]
    split<;>simp
   ·rw [if_neg c] at h
    simp at h
    obtain ⟨rfl,rfl⟩:=h
    rw [if_neg (by omega),if_pos (by omega),if_neg c]
    split<;>simp
theorem qxM:∀ (l:List Pw) (t:T) (n:Int),(∀ p,l[ixP l t]? = some p→qp p.1 t≠0)→yb l t n=l.take (ixP l t)++[(t,n)]++l.drop (ixP l t)
 | [],_,_,_=>by simp [yb,ixP]
 | (y,k)::l,t,n,h=>by
   have an:=zH.anti y t
   have rg:=zH.rng y t
   rw [ixP] at h
   rw [yb,ixP]
   simp only at h ⊢
   by_cases c:qp y t=-1
   ·rw [if_pos c] at h
    rw [if_neg (by omega),if_neg (by omega),if_pos c,qxM l t n λ p hp=>h p (by simpa using hp)]
    simp
   ·rw [if_neg c] at h
    have:=h (y,k) rfl
    simp only at this
    rw [if_pos (by omega),if_neg c]
    simp
theorem qzQ {l:List Pw} (h:qeK l) {i j:Nat} {p q:Pw} (hi:l[i]? = some p) (hj:l[j]? = some q) (hij:i<j):qp p.1 q.1=-1:=by
 unfold qeK Asc at h
 rw [List.pairwise_iff_getElem] at h
 obtain ⟨hi1,hi2⟩:=List.getElem?_eq_some_iff.1 hi
 obtain ⟨hj1,hj2⟩:=List.getElem?_eq_some_iff.1 hj
 have:=h i j (by simpa using hi1) (by simpa using hj1) hij
 simpa [hi2,hj2] using this
end Go.GxYtbpnmbmdbblehaaGreat
namespace Go.AmYtbpnmbmdbblehaaGreat
open Go Go.GxYtbpnmbmdbblehaaGreat
theorem qAL (t:T):Ev (λ m _=>Jm m t) (qbF t):=by
 refine Ev.succ ?_
 simp only [qo3,qdj]
 unfold qbF
 by_cases h3:t.kind=3
 ·refine Ev.ct (qi.2 h3) (Ev.ite (λ h=>?_) λ h=>(Ev.ite (λ h2=>?_) λ h2=>?_))
  ·rw [y8] at h
   exact Ev.ret (by rw [h3,h];rfl)
  ·rw [y8] at h2
   exact Ev.ret (by rw [h3,h2];rfl)
  ·rw [jq] at h h2
   exact Ev.ret (by
    have a1:(t.name==qfm)=false:=by rw [beq_eq_false_iff_ne];exact h
    have a2:(t.name==Qw)=false:=by rw [beq_eq_false_iff_ne];exact h2
    rw [h3,a1,a2];rfl)
 ·exact Ev.cf (qg.2 h3) (Ev.ret (by have:(t.kind==3)=false:=by rw [beq_eq_false_iff_ne];exact h3
                                    rw [this];rfl))
theorem qjQ (t:T):size t≤100000000→Ev (λ m _=>q9 m t) t:=by
 induction t using T.ind with
 | h t ih =>
   intro hs
   have hl:=yG t
   refine Ev.succ ?_
   simp only [qqb,qa0]
   have hc:zC 0 t.kids=some ((),t.kids,()):=by
    unfold zC
    rw [show Nat.ble t.kids.length 100000000=true from Nat.ble_eq_true_of_le (by omega)];rfl
   refine Ev.some hc ?_
   have key:=qr (P := λ i=>Ev (λ m k=>jM m (q9 m) k t.kids.length i t.kind t.name t.sort 0 [] 0 t.kids []) t) t.kids (by omega)
    (λ hc=>by
     refine Ev.loop ?_
     simp only [qhM,qa8]
     exact Ev.cf hc (Ev.ret (qe t)))
    (λ i x hx hd hc hg hi hP=>by
     refine Ev.loop ?_
     simp only [qhM,qa8,qe]
     have hm:=List.mem_of_getElem? hx
     have h1:=jf t x hm
     have e:jH t.kids (i:Int) x=t.kids:=by
      rw [qdi]
      obtain ⟨h2,h3⟩:=List.getElem?_eq_some_iff.1 hx
      rw [← h3,List.set_getElem_self]
     refine Ev.ct hc (Ev.some hg (Ev.bind (ih x hm (by omega)) (Ev.some hg ?_)))
     rw [e,hi]
     exact hP)
   refine Ev.diag (L := λ m k=>jM m (q9 m) k t.kids.length 0 t.kind t.name t.sort 0 [] 0 t.kids []) ?_
   exact key 0 (Nat.zero_le _)
theorem qHW (lo hi:Nat) (h:lo+hi≤1000000000):iw .i64 (qmh .u64 (iw .u64 (iw .i64 (qj (lo:Int) (hi:Int)))) 1)=(((lo+hi) / 2:Nat):Int):=by
 rw [qla,show iw .i64 ((lo+hi:Nat):Int)=((lo+hi:Nat):Int) from Qo (by omega),show iw .u64 ((lo+hi:Nat):Int)=((lo+hi:Nat):Int) from IntWalk.u64_in _ (by omega)]
 have:qmh .u64 ((lo+hi:Nat):Int) 1=(((lo+hi) / 2:Nat):Int):=by
  unfold qmh
  show Int.fdiv _ 2=_
  rw [Int.fdiv_eq_ediv_of_nonneg _ (by decide)];omega
 rw [this,Qo (by omega)]
noncomputable def szP (l:List Pw):Nat:=(l.map λ p=>size p.1).sum
theorem JZ (p:Pw) (l:List Pw):szP (p::l)=size p.1+szP l:=by simp [szP]
theorem qbv:∀ l:List Pw,l.length≤szP l
 | []=>Nat.zero_le _
 | p::l=>by
   have:=qbv l
   have:=size_pos p.1
   rw [JZ,List.length_cons];omega
theorem qdA:∀ {l:List Pw} {p:Pw},p∈l→size p.1≤szP l
 | q::l,p,h=>by
   rw [JZ]
   rcases List.mem_cons.1 h with rfl | h
   ·omega
   ·have:=qdA h;omega
theorem qAc:∀ (l:List Pw) (t:T) (n:Int),szP (yb l t n)≤szP l+size t
 | [],t,n=>by rw [yb,JZ];show size t+0≤0+size t;omega
 | (x,m)::l,t,n=>by
   have:=qAc l t n
   rw [yb]
   split
   ·rw [JZ,JZ];show size t+(size x+_)≤size x+_+size t;omega
   ·split
    ·split
     ·rw [JZ];show _≤size x+_+_;omega
     ·rw [JZ,JZ];show size x+_≤size x+_+_;omega
    ·rw [JZ,JZ];show size x+_≤size x+_+_;omega
theorem qyP (p:Pw) (t:T) (h1:size p.1≤1000000000) (h2:size t≤1000000000):Ev (λ m _=>Qp m p t) (qp p.1 t):=by
 refine Ev.succ ?_
 simp only [qmQ,qbI,qe]
 exact Ev.bind (qca _ h1 _ h2) (Ev.pure _)
noncomputable def qpX (l:List Pw) (t:T):Bool:=match l[Go.GxYtbpnmbmdbblehaaGreat.ixP l t]? with
 | some p=>ieq (qp p.1 t) 0
 | none=>false
theorem qGy {l:List Pw} (ha:qeK l) (t:T) (hs:szP l+size t≤100000000):∀ (d lo hi:Nat),hi≤lo+d→lo≤hi→hi≤l.length→(∀ k p,k<lo→l[k]? = some p→qp p.1 t=-1)→(∀ k p,hi≤k→l[k]? = some p→qp p.1 t≠-1) →
  Ev (λ m k=>qn m k l l.length lo hi t.kind t.name t.sort t.kids) ((Go.GxYtbpnmbmdbblehaaGreat.ixP l t:Int),qpX l t):=by
 have hl:=qbv l
 intro d
 induction d with
 | zero =>
   intro lo hi h1 h2 h3 h4 h5
   have:lo=hi:=by omega
   subst this
   have hix:=qC3 l t lo h3 h4 (λ p hp=>h5 lo p (Nat.le_refl _) hp)
   subst hix
   refine Ev.loop ?_
   simp only [zW,qD,qe]
   rw [show T.mk t.kind t.name t.sort t.kids=t from qe t]
   refine Ev.cf (qv.2 (Int.le_refl _)) (Ev.ite (λ h=>?_) λ h=>?_)
   ·rw [qu] at h
    have hlt:Go.GxYtbpnmbmdbblehaaGreat.ixP l t<l.length:=by omega
    obtain ⟨p,hg⟩:∃ p,l[Go.GxYtbpnmbmdbblehaaGreat.ixP l t]? = some p:=⟨_,List.getElem?_eq_getElem hlt⟩
    have hm:=qdA (List.mem_of_getElem? hg)
    refine Ev.some (a:=p) (by rw [jI,hg]) (Ev.bind (qyP (p.1,p.2) _ (Nat.le_trans hm (by omega)) (by omega)) (Ev.ret ?_))
    unfold qpX
    rw [hg]
   ·rw [qv] at h
    refine Ev.ret ?_
    unfold qpX
    rw [List.getElem?_eq_none (by omega)]
 | succ d ih =>
   intro lo hi h1 h2 h3 h4 h5
   by_cases he:lo=hi
   ·exact ih lo hi (by omega) h2 h3 h4 h5
   refine Ev.loop ?_
   simp only [zW,qD,qe]
   rw [show T.mk t.kind t.name t.sort t.kids=t from qe t,qHW lo hi (by omega)]
   have hm1:(lo+hi) / 2<hi:=by omega
   have hm2:lo≤(lo+hi) / 2:=by omega
   generalize (lo+hi) / 2=mid at *
   have hlt:mid<l.length:=by omega
   obtain ⟨p,hg⟩:∃ p,l[mid]? = some p:=⟨_,List.getElem?_eq_getElem hlt⟩
   have hm:=qdA (List.mem_of_getElem? hg)
   refine Ev.ct (qu.2 (by omega)) (Ev.some (a:=p) (by rw [jI,hg]) (Ev.bind (qyP (p.1,p.2) _ (Nat.le_trans hm (by omega)) (by omega)) (Ev.ite (λ hc=>?_) λ hc=>?_)))
   ·rw [qu] at hc
    have hc:qp p.1 t<0:=hc
    have hc:qp p.1 t=-1:=by rcases zH.rng p.1 t with h | h | h<;>omega
    rw [show qj ((mid:Nat):Int) 1=((mid+1:Nat):Int) from by unfold qj;omega,Qo (by omega)]
    refine ih (mid+1) hi (by omega) (by omega) h3 (λ k q hk hp=>?_) h5
    by_cases hkm:k=mid
    ·subst hkm;rw [hg] at hp;cases hp;exact hc
    ·exact zH.trans _ _ _ (qzQ ha hp hg (by omega)) hc
   ·rw [qv] at hc
    have hc:0≤qp p.1 t:=hc
    refine ih lo mid (by omega) hm2 (by omega) h4 (λ k q hk hp=>?_)
    by_cases hkm:k=mid
    ·subst hkm;rw [hg] at hp;cases hp;omega
    ·intro hcp
     have:=zH.trans _ _ _ (qzQ ha hg hp (by omega)) hcp
     omega
theorem qIT {l:List Pw} (ha:qeK l) (t:T) (hs:szP l+size t≤100000000):Ev (λ m _=>qx m l t) ((Go.GxYtbpnmbmdbblehaaGreat.ixP l t:Int),qpX l t):=by
 refine Ev.succ ?_
 simp only [j8,qE]
 refine Ev.diag (L := λ m k=>qn m k l l.length 0 l.length t.kind t.name t.sort t.kids) ?_
 exact qGy ha t hs l.length 0 l.length (by omega) (Nat.zero_le _) (Nat.le_refl _) (λ k p hk=>by omega) (λ k p hk hp=>by rw [List.getElem?_eq_none hk] at hp;cases hp)
theorem qrH {l:List Pw} (ha:qeK l) (t:T) (n:Int) (hs:szP l+size t≤90000000) (hlen:l.length≤90000) (hn:jZ l+n.natAbs≤1000000000000):Ev (λ m _=>Jn m l (t,n)) ((),yb l t n,()):=by
 have hl:=qbv l
 have hix:=qDw l t
 refine Ev.succ ?_
 simp only [qo9,qcK,qe]
 refine Ev.bind (qIT ha t (by omega)) (Ev.ite (λ h=>?_) λ h=>?_)
 ·rw [bnt] at h
  refine Ev.bind (qjQ t (by omega)) ?_
  have hI:zj 0 l (Go.GxYtbpnmbmdbblehaaGreat.ixP l t:Int) [(re t,n)]=some ((),yb l t n,()):=by
   unfold zj
   rw [show inb (Go.GxYtbpnmbmdbblehaaGreat.ixP l t:Int) l.length=true from by unfold inb;rw [decide_eq_true_iff];omega,show Nat.ble l.length 100000=true from Nat.ble_eq_true_of_le (by omega)]
   rw [qxM l t n λ p hp hc=>by
    unfold qpX at h
    simp only [hp] at h
    rw [qg] at h
    exact h hc]
   rw [Int.toNat_natCast,qe,List.append_assoc];rfl
  rw [qe] at hI
  refine Ev.some hI (Ev.pure _)
 ·rw [bnf] at h
  cases hg:l[Go.GxYtbpnmbmdbblehaaGreat.ixP l t]? with
  | none=>unfold qpX at h;simp only [hg] at h;cases h
  | some p =>
    obtain ⟨x,k⟩:=p
    have hc:qp x t=0:=by
     unfold qpX at h
     simp only [hg] at h
     exact qi.1 h
    have hm:=qwJ l _ (List.mem_of_getElem? hg)
    have hlt:Go.GxYtbpnmbmdbblehaaGreat.ixP l t<l.length:=(List.getElem?_eq_some_iff.1 hg).1
    simp only at hm
    have e1:iw .i64 (qj k n)=k+n:=by
     unfold qj
     exact Qo (by omega)
    have gset:qd (jH l (Go.GxYtbpnmbmdbblehaaGreat.ixP l t:Int) (x,k+n)) (Go.GxYtbpnmbmdbblehaaGreat.ixP l t:Int)=some (x,k+n):=by
     rw [qdi,jI,List.getElem?_set_self hlt]
    have hsplit:l.set (Go.GxYtbpnmbmdbblehaaGreat.ixP l t) (x,k+n)=l.take (Go.GxYtbpnmbmdbblehaaGreat.ixP l t)++[(x,k+n)]++l.drop (Go.GxYtbpnmbmdbblehaaGreat.ixP l t+1):=by
     rw [List.set_eq_take_append_cons_drop,if_pos hlt,List.append_assoc];rfl
    refine Ev.some (by rw [jI,hg]) (Ev.some (by rw [jI,hg]) ?_)
    simp only [qe,e1]
    refine Ev.some gset ?_
    rw [qAA l t n x k hg hc]
    refine Ev.ite (λ hz=>?_) λ hz=>?_
    ·rw [qi] at hz
     rw [if_pos hz]
     have hD:zl 0 (jH l (Go.GxYtbpnmbmdbblehaaGreat.ixP l t:Int) (x,k+n)) (Go.GxYtbpnmbmdbblehaaGreat.ixP l t:Int) (iw .i64 (qj (Go.GxYtbpnmbmdbblehaaGreat.ixP l t:Int) 1))=some ((),l.take (Go.GxYtbpnmbmdbblehaaGreat.ixP l t)++l.drop (Go.GxYtbpnmbmdbblehaaGreat.ixP l t+1),()):=by
      rw [show qj (Go.GxYtbpnmbmdbblehaaGreat.ixP l t:Int) 1=((Go.GxYtbpnmbmdbblehaaGreat.ixP l t+1:Nat):Int) from by unfold qj;omega,Qo (by omega),qdi]
      unfold zl
      rw [List.length_set,show inb ((Go.GxYtbpnmbmdbblehaaGreat.ixP l t+1:Nat):Int) l.length=true from by unfold inb;rw [decide_eq_true_iff];omega,show inb (Go.GxYtbpnmbmdbblehaaGreat.ixP l t:Int) l.length=true from by unfold inb;rw [decide_eq_true_iff];omega,
       show ieq ((Go.GxYtbpnmbmdbblehaaGreat.ixP l t+1:Nat):Int) (qj (Go.GxYtbpnmbmdbblehaaGreat.ixP l t:Int) 1)=true from qi.2 (by unfold qj;omega),show Nat.ble l.length 100000=true from Nat.ble_eq_true_of_le (by omega)]
      rw [Int.toNat_natCast,List.take_set_of_le (Nat.le_refl _),List.drop_set_of_lt (by omega)];rfl
     exact Ev.some hD (Ev.pure _)
    ·rw [qg] at hz
     rw [if_neg hz]
     refine Ev.ret ?_
     rw [qdi,hsplit]
end Go.AmYtbpnmbmdbblehaaGreat
namespace Go.GxYtbpnmbmdbblehaaGreat
open Go.RowKit
theorem qye (q:Option T) (p:Pw):pvK q p=if qA p.1≠0 then qA p.1 else if qbF p.1 then 1 else if p.2=0∨p.2 < -1000∨1000<p.2 then 7 else match q with | some x=>if 0≤qp x p.1 then 5 else 0 | none=>0:=rfl
theorem qys:∀ (l:List Pw) (q:Option T),pvL q l=0→qeK l∧(∀ p∈l,p.2≠0∧p.2.natAbs≤1000)∧(∀ x,q=some x→∀ p∈l,qp x p.1=-1)∧(∀ p∈l,qA p.1=0∧qbF p.1=false)
 | [],q,_=>⟨List.Pairwise.nil,(λ _ h=>by cases h),(λ _ _ _ h=>by cases h),(λ _ h=>by cases h)⟩
 | p::l,q,h=>by
   rw [pvL] at h
   unfold thn at h
   split at h
   rotate_left
   ·rename_i h1;exact absurd h h1
   ·rename_i h1
    have hk:=qye q p
    obtain ⟨i1,i2,i3,i4⟩:=qys l (some p.1) h
    rw [hk] at h1
    split at h1
    ·rename_i h2;exact absurd h1 h2
    rename_i h2
    split at h1
    ·cases h1
    rename_i h3
    split at h1
    ·cases h1
    rename_i h4
    have hq:∀ x,q=some x→qp x p.1=-1 := λ x hx=>by
     subst hx
     simp only at h1
     split at h1
     ·cases h1
     ·rename_i h5
      rcases zH.rng x p.1 with h | h | h<;>omega
    refine ⟨qe4.2 ⟨λ r hr=>i3 _ rfl r hr,i1⟩,λ r hr=>?_,λ x hx r hr=>?_,λ r hr=>?_⟩
    ·rcases List.mem_cons.1 hr with rfl | hr
     ·omega
     ·exact i2 r hr
    ·rcases List.mem_cons.1 hr with rfl | hr
     ·exact hq x hx
     ·exact qdR (hq x hx) (by have:=i3 _ rfl r hr;omega)
    ·rcases List.mem_cons.1 hr with rfl | hr
     ·exact ⟨by omega,by simpa using h3⟩
     ·exact i4 r hr
theorem qap {l:List Pw} (h:QC l=0):Q6 l∧l.length≤200∧(∀ p∈l,p.2.natAbs≤1000)∧(∀ p∈l,qA p.1=0∧qbF p.1=false):=by
 unfold QC at h
 split at h
 ·cases h
 ·obtain ⟨i1,i2,-,i4⟩:=qys l none h
  exact ⟨⟨i1,λ p hp=>(i2 p hp).1⟩,by omega,λ p hp=>(i2 p hp).2,i4⟩
theorem qkL (k:Nat):∀ (l:List Pw),(∀ p∈l,p.2.natAbs≤k)→jZ l≤l.length*k
 | [],_=>by simp [jZ]
 | p::l,h=>by
   have h1:=qkL k l λ q hq=>h q (List.mem_cons_of_mem _ hq)
   have h2:=h p (List.mem_cons_self ..)
   have e:jZ (p::l)=p.2.natAbs+jZ l:=rfl
   rw [e,List.length_cons,Nat.add_mul];omega
theorem qqP:∀ (b a:List Pw) (p:Pw),p∈Qn a b→(∃ q∈a,q.1=p.1)∨∃ q∈b,q.1=p.1
 | [],a,p,h => .inl ⟨p,h,rfl⟩
 | r::b,a,p,h=>by
   rcases qqP b (yb a r.1 r.2) p h with ⟨q,hq,e⟩ | ⟨q,hq,e⟩
   ·rcases qlP a r.1 r.2 q hq with h1 | h1
    ·exact .inr ⟨r,List.mem_cons_self ..,by rw [← h1];exact e⟩
    ·exact .inl ⟨q,h1,e⟩
   ·exact .inr ⟨q,List.mem_cons_of_mem _ hq,e⟩
theorem qux (a b:List Pw) (p:Pw):Qn a (b++[p])=yb (Qn a b) p.1 p.2:=by unfold Qn;rw [List.foldl_append];rfl
theorem qBR {a b:List Pw} (ha:QC a=0) (hb:QC b=0) (S:Nat) (hsa:∀ p∈a,size p.1≤S) (hsb:∀ p∈b,size p.1≤S) (j:Nat) :
  qeK (Qn a (b.take j))∧(Qn a (b.take j)).length≤400∧(∀ p∈Qn a (b.take j),p.2.natAbs≤1000000)∧(∀ p∈Qn a (b.take j),size p.1≤S):=by
 obtain ⟨g1,l1,k1,-⟩:=qap ha
 obtain ⟨g2,l2,k2,-⟩:=qap hb
 have hm:∀ p∈b.take j,p∈b := λ p hp=>List.mem_of_mem_take hp
 have hg:=qnl (b.take j) a g1 λ p hp=>g2.2 p (hm p hp)
 obtain ⟨h1,h2⟩:=qpM (b.take j) a
 have h3:=qkL 1000 a k1
 have h4:=qkL 1000 (b.take j) λ p hp=>k2 p (hm p hp)
 have h5:(b.take j).length≤200:=by rw [List.length_take];omega
 refine ⟨hg.1,by omega,λ p hp=>?_,λ p hp=>?_⟩
 ·have:=qwJ _ p hp
  omega
 ·rcases qqP _ _ p hp with ⟨q,hq,e⟩ | ⟨q,hq,e⟩
  ·rw [← e];exact hsa q hq
  ·rw [← e];exact hsb q (hm q hq)
end Go.GxYtbpnmbmdbblehaaGreat
namespace Go.AmYtbpnmbmdbblehaaGreat
open Go Go.GxYtbpnmbmdbblehaaGreat
theorem jN {t:T} (h:qA t=0):size t≤400:=by
 unfold qA at h
 split at h
 ·rename_i h1;exact absurd h h1
 ·split at h
  ·cases h
  ·omega
theorem qoB {t:T}:qbF t=true↔t.kind=3∧(t.name=qfm∨t.name=Qw∨t.name=qho):=by
 unfold qbF
 simp only [Bool.and_eq_true,Bool.or_eq_true,beq_iff_eq]
 constructor
 ·rintro ⟨h,(h1 | h1) | h1⟩
  ·exact ⟨h,.inl h1⟩
  ·exact ⟨h,.inr (.inl h1)⟩
  ·exact ⟨h,.inr (.inr h1)⟩
 ·rintro ⟨h,h1 | h1 | h1⟩
  ·exact ⟨h,.inl (.inl h1)⟩
  ·exact ⟨h,.inl (.inr h1)⟩
  ·exact ⟨h,.inr h1⟩
theorem qAd (t:T):∀ (l:List Pw) (n:Int),szP (yR t l n)≤szP l+size t:=by
 refine T.ind (P := λ t=>∀ (l:List Pw) (n:Int),szP (yR t l n)≤szP l+size t) ?_ t
 intro t ih l n
 rw [qeV]
 have hz:=qC t
 split
 ·have:∀ (fs:List T),(∀ k∈fs,k∈t.kids)→∀ l,szP ((fs.map yR).foldl (λ l f=>f l (J8 t n)) l)≤szP l+(fs.map size).sum:=by
    intro fs
    induction fs with
    | nil=>intro _ l;simp
    | cons k fs ihf =>
      intro hf l
      have h1:=ih k (hf k (List.mem_cons_self ..)) l (J8 t n)
      have h2:=ihf (λ k hk=>hf k (List.mem_cons_of_mem _ hk)) (yR k l (J8 t n))
      simp only [List.map_cons,List.foldl_cons,List.sum_cons] at h2 ⊢
      omega
  have:=this t.kids (λ _ h=>h) l
  omega
 ·exact qAc l t n
noncomputable def qdY (ks:List T) (sg:Int) (l:List Pw) (i:Nat):List Pw:=((ks.take i).map yR).foldl (λ l f=>f l sg) l
theorem quA {ks:List T} {i:Nat} {x:T} (h:ks[i]? = some x) (sg:Int) (l:List Pw):qdY ks sg l (i+1)=yR x (qdY ks sg l i) sg:=by
 unfold qdY
 rw [List.take_add_one,h,List.map_append,List.foldl_append];rfl
theorem qlr (sg:Int) (hsg:sg≠0):∀ (ks:List T) (l:List Pw),Q6 l→Q6 ((ks.map yR).foldl (λ l f=>f l sg) l)∧szP ((ks.map yR).foldl (λ l f=>f l sg) l)≤szP l+szL ks ∧
  jZ ((ks.map yR).foldl (λ l f=>f l sg) l)≤jZ l+szL ks*sg.natAbs∧((ks.map yR).foldl (λ l f=>f l sg) l).length≤l.length+szL ks
 | [],l,h=>⟨h,by simp,by simp,by simp⟩
 | k::ks,l,h=>by
   obtain ⟨i1,i2,i3,i4⟩:=qlr sg hsg ks (yR k l sg) (qCO k l sg hsg h)
   have h1:=qAd k l sg
   obtain ⟨h2,h3⟩:=qEu k l sg
   rw [List.map_cons,List.foldl_cons,qJ,Nat.add_mul]
   exact ⟨i1,by omega,by omega,by omega⟩
noncomputable def qiF (t:T) (l:List Pw) (n:Int):Unit × List Pw × Bool × Unit:=((),if arT t then yR t l n else [],arT t,())
theorem qBK (t:T):∀ (l:List Pw) (n:Int),n≠0→Q6 l→szP l+size t≤80000→jZ l+size t*n.natAbs≤100000000000→Ev (λ m _=>qY m l t n) (qiF t l n):=by
 induction t using T.ind with
 | h t ih =>
   intro l n hn hg hs hb
   have hl:=yG t
   have hz:=qC t
   have hll:=qbv l
   refine Ev.succ ?_
   simp only [qn1,qab,qe]
   refine Ev.bind (qAL t) (Ev.ite (λ h=>?_) λ h=>?_)
   ·rw [bnt] at h
    have hmul:n.natAbs≤size t*n.natAbs:=Nat.le_mul_of_pos_left _ (size_pos t)
    refine Ev.bind (qrH hg.1 t n (by omega) (by omega) (by omega)) (Ev.ret ?_)
    unfold qiF
    rw [qrh,qeV,h];rfl
   rw [bnf] at h
   obtain ⟨h3,hname⟩:=qoB.1 h
   have har:arT t=(arK t&&(t.kids.map arT).all id):=by rw [qrh,h];rfl
   have loop:∀ sg:Int,sg≠0→sg.natAbs=n.natAbs→J8 t n=sg→arK t=true→Ev (λ m _=>yN m (qY m) m sg t.kids t.kids.length 0 l) (qiF t l n):=by
    intro sg hsg hab hsn hk
    have hcol:yR t l n=qdY t.kids sg l t.kids.length:=by rw [qeV,h,if_pos rfl,hsn];unfold qdY;rw [List.take_length]
    have key:=qr (P := λ i=>(∀ k∈t.kids.take i,arT k=true)→Ev (λ m k=>yN m (qY m) k sg t.kids t.kids.length i (qdY t.kids sg l i)) (qiF t l n)) t.kids (by omega)
     (λ hc ha=>by
      refine Ev.loop ?_
      simp only [qf7,qad]
      refine Ev.cf hc (Ev.ret ?_)
      unfold qiF
      have:arT t=true:=by
       rw [har,hk,Bool.true_and,List.all_eq_true]
       intro b hb
       obtain ⟨k,hk1,rfl⟩:=List.mem_map.1 hb
       rw [List.take_length] at ha
       exact ha k hk1
      rw [this,if_pos rfl,hcol])
     (λ i x hx hd hc hgt hi hP ha=>by
      refine Ev.loop ?_
      simp only [qf7,qad,qe]
      have hm:=List.mem_of_getElem? hx
      have h1:=jf t x hm
      obtain ⟨f1,f2,f3,f4⟩:=qlr sg hsg (t.kids.take i) l hg
      have h5:=jD hx
      have h6:szL t.kids+1=size t:=by unfold szL;omega
      have h7:szL (t.kids.take i)*sg.natAbs+size x*sg.natAbs≤size t*n.natAbs:=by
       rw [← Nat.add_mul,hab]
       exact Nat.mul_le_mul_right _ (by omega)
      refine Ev.ct hc (Ev.some hgt (Ev.bind (ih x hm (qdY t.kids sg l i) sg hsg f1 (by unfold qdY;omega) (by unfold qdY;omega)) (Ev.ite (λ hb1=>?_) λ hb1=>?_)))
      ·rw [bnt] at hb1
       have hb1:arT x=false:=hb1
       refine Ev.ret ?_
       unfold qiF
       have:arT t=false:=by
        rw [har,hk,Bool.true_and,← Bool.not_eq_true,List.all_eq_true]
        intro hall
        have:=hall (arT x) (List.mem_map_of_mem hm)
        rw [hb1] at this;cases this
       rw [this];rfl
      ·rw [bnf] at hb1
       have hb1:arT x=true:=hb1
       have hP:=hP λ k hk'=>by
        rw [List.take_add_one,hx] at hk'
        rcases List.mem_append.1 hk' with hk' | hk'
        ·exact ha k hk'
        ·rw [show k=x from by simpa using hk'];exact hb1
       rw [hi]
       refine hP.congr λ m k=>?_
       unfold qiF
       rw [quA hx,hb1];rfl)
    refine Ev.diag (L := λ m k=>yN m (qY m) k sg t.kids t.kids.length 0 l) ?_
    exact (key 0 (Nat.zero_le _)) (λ k hk=>by rw [List.take_zero] at hk;cases hk)
   have bad:arK t=false→Ev (λ _ _=>some ((),[],false,())) (qiF t l n) := λ hk=>by
    refine Ev.ret ?_
    unfold qiF
    rw [har,hk];rfl
   have hneg:iw .i64 (jK 0 n)=-n:=by
    have hmul:n.natAbs≤size t*n.natAbs:=Nat.le_mul_of_pos_left _ (size_pos t)
    unfold jK
    rw [Qo (by omega)];omega
   rcases hname with hn1 | hn1 | hn1
   ·refine Ev.cf (by rw [hn1];rfl) (Ev.cf (by rw [hn1];rfl) (Ev.ct (by rw [hn1];rfl) (Ev.ite (λ hk=>?_) λ hk=>?_)))
    ·rw [qu] at hk
     exact bad (by unfold arK;rw [hn1,decide_eq_true (show t.kids.length<2 by omega)];rfl)
    ·rw [qv] at hk
     exact Ev.cf (by rw [hn1];rfl) (loop n hn rfl (by unfold J8;rw [hn1];rfl) (by unfold arK;rw [hn1,decide_eq_false (show ¬ t.kids.length<2 by omega)];rfl))
   ·refine Ev.cf (by rw [hn1];rfl) (Ev.ct (by rw [hn1];rfl) (Ev.ite (λ hk=>?_) λ hk=>?_))
    ·rw [bnt,qg] at hk
     exact bad (by unfold arK;rw [hn1,show (t.kids.length != 1)=true from by rw [bne_iff_ne];omega];rfl)
    ·rw [bnf,qi] at hk
     rw [hneg]
     exact Ev.cf (by rw [hn1];rfl) (Ev.ct (by rw [hn1];rfl) (loop (-n) (by omega) (by omega) (by unfold J8;rw [if_pos hn1]) (by unfold arK;rw [hn1,show (t.kids.length != 1)=false from by rw [bne_eq_false_iff_eq];omega];rfl)))
   ·refine Ev.ct (by rw [hn1];rfl) (Ev.ite (λ hk=>?_) λ hk=>?_)
    ·rw [bnt,qg] at hk
     exact bad (by unfold arK;rw [hn1,show (t.kids.length != 0)=true from by rw [bne_iff_ne];omega];rfl)
    ·rw [bnf,qi] at hk
     exact Ev.cf (by rw [hn1];rfl) (Ev.cf (by rw [hn1];rfl) (Ev.cf (by rw [hn1];rfl) (loop n hn rfl (by unfold J8;rw [hn1];rfl) (by unfold arK;rw [hn1,show (t.kids.length != 0)=false from by rw [bne_eq_false_iff_eq];omega];rfl))))
theorem qx7 (t:T) (hs:size t≤1000000000):Ev (λ m _=>JO m t) (ofP t):=by
 refine Ev.succ ?_
 simp only [qv1,qgw,qe]
 unfold ofP
 refine Ev.bind (qar t hs) (Ev.ite (λ h=>?_) λ h=>?_)
 ·rw [bnt,qg] at h
  rw [if_pos h];exact Ev.pure _
 ·rw [bnf,qi] at h
  have hz:=jN h
  rw [if_neg (by omega)]
  refine Ev.bind (qBK t [] 1 (by decide) Q6.nil (by show 0+_≤_;omega) (by show 0+size t*1≤_;omega)) (Ev.ite (λ h1=>?_) λ h1=>?_)
  ·rw [bnt] at h1
   have h1:arT t=false:=h1
   rw [if_pos h1];exact Ev.pure _
  ·rw [bnf] at h1
   have h1:arT t=true:=h1
   rw [if_neg (by rw [h1];decide)]
   have e:(qiF t [] 1).2.1=yR t [] 1:=by unfold qiF;rw [h1];rfl
   rw [e]
   refine Ev.ite (λ h2=>?_) λ h2=>?_
   ·rw [qu] at h2
    rw [if_pos (by omega)];exact Ev.pure _
   ·rw [qv] at h2
    rw [if_neg (by omega)];exact Ev.pure _
noncomputable def qcF (l:List Pw) (i:Nat):Option T:=if i=0 then none else (l[i-1]?).map (·.1)
theorem qh8 {l:List Pw} {i:Nat} {p:Pw} (h:l[i]? = some p):qcF l (i+1)=some p.1:=by
 unfold qcF
 rw [if_neg (by omega),Nat.add_sub_cancel,h];rfl
theorem qnE (l:List Pw) (hs:szP l≤1000000000):Ev (λ m _=>QQ m l) (QC l):=by
 have hl:=qbv l
 refine Ev.succ ?_
 simp only [qqp,qa5]
 unfold QC
 refine Ev.ite (λ h=>?_) λ h=>?_
 ·rw [qu] at h
  rw [if_pos (by omega)];exact Ev.pure _
 rw [qv] at h
 rw [if_neg (by omega)]
 have key:=qr (P := λ i=>Ev (λ m k=>jg m k l l l.length i) (pvL (qcF l i) (l.drop i))) l (by omega)
  (λ hc=>by
   refine Ev.loop ?_
   simp only [qhP,qba]
   refine Ev.cf hc (Ev.ret ?_)
   rw [List.drop_length];rfl)
  (λ i x hx hd hc hg hi hP=>by
   refine Ev.loop ?_
   simp only [qhP,qba,qe]
   have h1:=qdA (List.mem_of_getElem? hx)
   rw [qh8 hx] at hP
   rw [hd,pvL]
   have hk:=qye (qcF l i) x
   have bad:∀ e:Int,pvK (qcF l i) x=e→e≠0→Ev (λ _ _=>some e) (thn (pvK (qcF l i) x) (pvL (some x.1) (l.drop (i+1)))) := λ e he h0=>by
    rw [he]
    exact Ev.ret (by unfold thn;rw [if_neg h0])
   have good:pvK (qcF l i) x=0→Ev (λ m k=>jg m k l l l.length ((i+1:Nat):Int)) (thn (pvK (qcF l i) x) (pvL (some x.1) (l.drop (i+1)))) := λ he=>by
    rw [he]
    exact hP.res (by unfold thn;rw [if_pos rfl])
   refine Ev.ct hc (Ev.some hg (Ev.bind (qar x.1 (by omega)) (Ev.ite (λ hv=>?_) λ hv=>?_)))
   ·rw [bnt,qg] at hv
    exact bad _ (by rw [hk,if_pos hv]) hv
   rw [bnf,qi] at hv
   rw [if_neg (by omega)] at hk
   refine Ev.bind (qAL x.1) (Ev.ite (λ hv2=>?_) λ hv2=>?_)
   ·exact bad 1 (by rw [hk,if_pos hv2]) (by decide)
   rw [if_neg (by rw [hv2];decide)] at hk
   refine Ev.ite (λ hz=>?_) λ hz=>?_
   ·rw [qi] at hz
    exact bad 7 (by rw [hk,if_pos (by omega)]) (by decide)
   rw [qg] at hz
   refine Ev.ite (λ hz2=>?_) λ hz2=>?_
   ·rw [qu] at hz2
    exact bad 7 (by rw [hk,if_pos (by omega)]) (by decide)
   rw [qv] at hz2
   refine Ev.ite (λ hz3=>?_) λ hz3=>?_
   ·rw [qu] at hz3
    exact bad 7 (by rw [hk,if_pos (by omega)]) (by decide)
   rw [qv] at hz3
   rw [if_neg (by omega)] at hk
   rw [hi]
   refine Ev.ite (λ h0=>?_) λ h0=>?_
   ·rw [qu] at h0
    obtain ⟨j,rfl⟩:∃ j,i=j+1:=⟨i-1,by omega⟩
    have hlt:j<l.length:=by have:=(List.getElem?_eq_some_iff.1 hx).1;omega
    obtain ⟨q,hq⟩:∃ q,l[j]? = some q:=⟨_,List.getElem?_eq_getElem hlt⟩
    have h2:=qdA (List.mem_of_getElem? hq)
    rw [qh8 hq] at hk bad good ⊢
    simp only at hk
    refine Ev.some (a:=q) (by rw [show jK ((j+1:Nat):Int) 1=((j:Nat):Int) from by unfold jK;omega,Qo (by omega),jI,hq]) (Ev.bind (qca q.1 (by omega) x.1 (by omega)) (Ev.ite (λ hc2=>?_) λ hc2=>?_))
    ·rw [qgM] at hc2
     exact bad 5 (by rw [hk,if_pos hc2]) (by decide)
    ·rw [qic] at hc2
     exact good (by rw [hk,if_neg (by omega)])
   ·rw [qv] at h0
    have:i=0:=by omega
    subst this
    exact good (by rw [hk];rfl))
 refine Ev.diag (L := λ m k=>jg m k l l l.length 0) ?_
 exact key 0 (Nat.zero_le _)
end Go.AmYtbpnmbmdbblehaaGreat
namespace Go.AmYtbpnmbmdbblehaaGreat
open Go Go.GxYtbpnmbmdbblehaaGreat
theorem zP {α : Type} {l:List α} {i:Nat} {x : α} (h:l[i]? = some x):l.take (i+1)=l.take i++[x]:=by rw [List.take_add_one,h];rfl
theorem qqk (a b:List Pw):zJ (a++b)=zJ a++zJ b:=by unfold zJ;rw [List.flatMap_append]
theorem qqz (a b:List Pw):zQ (a++b)=zQ a++zQ b:=by unfold zQ;rw [List.flatMap_append]
theorem qqm (p:Pw):zJ [p]=List.replicate p.2.toNat p.1:=by unfold zJ;simp
theorem qqw (p:Pw):zQ [p]=List.replicate (-p.2).toNat (apT Qw [p.1]):=by unfold zQ;simp
theorem qAa (n:Nat) (x:T):szL (List.replicate n x)=n*size x:=by
 induction n with
 | zero=>simp [szL]
 | succ n ih=>rw [List.replicate_succ,qJ,ih,Nat.add_mul];omega
theorem qx5 (t:T):size (apT Qw [t])=1+size t:=by rw [qC];show 1+(size t+0)=_;omega
theorem qlX {P:Nat→Prop} (N:Int) (hN:N≤1000000) (hend:P N.toNat) (hstep:∀ j:Nat,(j:Int)<N→iw .i64 (qj (j:Int) 1)=((j+1:Nat):Int)→P (j+1)→P j):∀ j:Nat,j≤N.toNat→P j:=by
 intro j hj
 obtain ⟨d,hd⟩:∃ d,N.toNat=j+d:=⟨N.toNat-j,by omega⟩
 induction d generalizing j with
 | zero =>
   have:j=N.toNat:=by omega
   subst this;exact hend
 | succ d ih =>
   refine hstep j (by omega) ?_ (ih (j+1) (by omega) (by omega))
   unfold qj
   rw [Qo (by omega)];omega
theorem qHd {l:List Pw} {p:Pw} (hp:p∈l) (h:8<p.2):8<(zJ l++zQ l).length:=by
 have:(List.replicate p.2.toNat p.1).length≤(zJ l).length:=Nat.le_trans (List.sublist_flatten_of_mem (List.mem_map_of_mem (f := λ p:Pw=>List.replicate p.2.toNat p.1) hp)).length_le (by unfold zJ;rw [List.flatMap_def];exact Nat.le_refl _)
 rw [List.length_replicate] at this
 rw [List.length_append];omega
theorem qGK {l:List Pw} {p:Pw} (hp:p∈l) (h:p.2 < -8):8<(zJ l++zQ l).length:=by
 have:(List.replicate (-p.2).toNat (apT Qw [p.1])).length≤(zQ l).length:=Nat.le_trans (List.sublist_flatten_of_mem (List.mem_map_of_mem (f := λ p:Pw=>List.replicate (-p.2).toNat (apT Qw [p.1])) hp)).length_le (by unfold zQ;rw [List.flatMap_def];exact Nat.le_refl _)
 rw [List.length_replicate] at this
 rw [List.length_append];omega
theorem qz9 (o:List T):size (Jg o)≤1+szL o:=by
 unfold Jg
 split
 ·rw [qC];show 1+0≤_;omega
 ·split
  ·rename_i _ h1l
   have:o.getD 0 zT∈o:=by
    cases o with
    | nil=>cases h1l
    | cons x r=>exact List.mem_cons_self ..
   have:=qbw this;omega
  ·rw [qC];exact Nat.le_refl _
theorem qnz {l:List Pw} (hsz:∀ p∈l,size p.1≤400):∀ (ks:List Pw),(∀ p∈ks,p∈l∧-8≤p.2∧p.2≤8)→(zJ ks).length≤8*ks.length∧(zQ ks).length≤8*ks.length∧szL (zJ ks)≤3200*ks.length∧szL (zQ ks)≤3208*ks.length
 | [],_=>⟨Nat.le_refl _,Nat.le_refl _,Nat.le_refl _,Nat.le_refl _⟩
 | p::ks,h=>by
   obtain ⟨i1,i2,i3,i4⟩:=qnz hsz ks λ q hq=>h q (List.mem_cons_of_mem _ hq)
   obtain ⟨h1,h2,h3⟩:=h p (List.mem_cons_self ..)
   have h4:=hsz p h1
   have e1:zJ (p::ks)=List.replicate p.2.toNat p.1++zJ ks:=by rw [show p::ks=[p]++ks from rfl,qqk,qqm]
   have e2:zQ (p::ks)=List.replicate (-p.2).toNat (apT Qw [p.1])++zQ ks:=by rw [show p::ks=[p]++ks from rfl,qqz,qqw]
   have m1:p.2.toNat*size p.1≤8*400:=Nat.mul_le_mul (by omega) h4
   have m2:(-p.2).toNat*(1+size p.1)≤8*401:=Nat.mul_le_mul (by omega) (by omega)
   rw [e1,e2,qgd,qgd,qAa,qAa,qx5]
   simp only [List.length_append,List.length_replicate,List.length_cons]
   refine ⟨by omega,by omega,by omega,by omega⟩
noncomputable def qkb (o:List T):T × Int:=if 8<o.length then (zT,3) else if qA (Jg o)≠0 then (zT,qA (Jg o)) else (Jg o,0)
theorem qm3 {l:List Pw} (h:QC l=0):qac l=qkb (zJ l++zQ l):=by
 unfold qac qkb
 rw [if_neg (by omega)]
theorem qyM (l:List Pw) (hs:szP l≤1000000000):Ev (λ m _=>jE m l) (qac l):=by
 refine Ev.succ ?_
 simp only [qri,qbR]
 refine Ev.bind (qnE l hs) (Ev.ite (λ h=>?_) λ h=>?_)
 ·rw [bnt,qg] at h
  unfold qac
  rw [if_pos h];exact Ev.pure _
 rw [bnf,qi] at h
 obtain ⟨_,hlen,hN,hV⟩:=qap h
 have hsz:∀ p∈l,size p.1≤400 := λ p hp=>jN (hV p hp).1
 rw [qm3 h]
 have key:=qr (P := λ i=>(∀ p∈l.take i,p∈l∧-8≤p.2∧p.2≤8)→Ev (λ m k=>(qt m k).1 l l.length i 0 [] 0 [] (zJ (l.take i)) (zQ (l.take i))) (qkb (zJ l++zQ l))) l (by omega)
  (λ hc hb=>by
   refine Ev.loop ?_
   simp only [qjl,qbQ,qe]
   rw [List.take_length] at hb ⊢
   obtain ⟨b1,b2,b3,b4⟩:=qnz hsz l hb
   refine Ev.cf hc (Ev.bind (qsa (zJ l) (zQ l) (by omega)) ?_)
   have ho:szL (zJ l++zQ l)≤10000000:=by rw [qgd];omega
   generalize zJ l++zQ l=o at *
   have hol:=y9 o
   have hoz:=qz9 o
   unfold qkb
   refine Ev.ite (λ h8=>?_) λ h8=>?_
   ·rw [qu] at h8
    rw [if_pos (by omega)];exact Ev.pure _
   rw [qv] at h8
   rw [if_neg (by omega)]
   have fin:∀ u:T,u=Jg o→Ev (λ m _=>qa (zu m u) λ v=>cond (qc (ieq v 0)) (some (T.mk 0 [] 0 [],v)) (some (u,0))) (if qA (Jg o)≠0 then (zT,qA (Jg o)) else (Jg o,0)):=by
    intro u hu
    subst hu
    refine Ev.bind (qar _ (by omega)) (Ev.ite (λ h=>?_) λ h=>?_)
    ·rw [bnt,qg] at h
     rw [if_pos h];exact Ev.pure _
    ·rw [bnf,qi] at h
     rw [if_neg (by omega)];exact Ev.pure _
   have app:∀ (n:List UInt8) (x:List T),Ev (λ m _=>qbj m n x) (apT n x) := λ n x=>Ev.succ (Ev.pure _)
   refine Ev.bind (app [109,117,108] o) (Ev.ite (λ h0=>?_) λ h0=>?_)
   ·rw [qi] at h0
    exact Ev.bind (app [111,110,101] []) (fin _ (by unfold Jg;rw [if_pos (by omega)];rfl))
   ·rw [qg] at h0
    refine Ev.ite (λ h1=>?_) λ h1=>?_
    ·rw [qi] at h1
     refine Ev.some (a:=o.getD 0 zT) ?_ (fin _ (by unfold Jg;rw [if_neg (by omega),if_pos (by omega)]))
     rw [Ja,List.getD_eq_getElem?_getD]
     cases o with
     | nil=>simp at h1
     | cons x r=>rfl
    ·rw [qg] at h1
     exact fin _ (by unfold Jg;rw [if_neg (by omega),if_neg (by omega)];rfl))
  (λ i p hx hd hc hg hi hP hb=>by
   refine Ev.loop ?_
   simp only [qjl,qbQ]
   have hm:=List.mem_of_getElem? hx
   have hn:=hN p hm
   have hz:=hsz p hm
   have hib:=(List.getElem?_eq_some_iff.1 hx).1
   refine Ev.ct hc (Ev.some hg (Ev.ite (λ h8=>?_) λ h8=>?_))
   ·rw [qu] at h8
    unfold qkb
    rw [if_pos (qHd hm h8)];exact Ev.pure _
   rw [qv] at h8
   refine Ev.ite (λ h9=>?_) λ h9=>?_
   ·rw [qu] at h9
    unfold qkb
    rw [if_pos (qGK hm h9)];exact Ev.pure _
   rw [qv] at h9
   obtain ⟨b1,b2,b3,b4⟩:=qnz hsz _ hb
   have htl:(l.take i).length≤200:=by rw [List.length_take];omega
   have hP:=hP λ q hq=>by
    rw [zP hx] at hq
    rcases List.mem_append.1 hq with hq | hq
    ·exact hb q hq
    ·rw [show q=p from by simpa using hq];exact ⟨hm,h9,h8⟩
   rw [zP hx,qqk,qqz,qqm,qqw] at hP
   generalize zJ (l.take i)=P0 at *
   generalize zQ (l.take i)=N0 at *
   have k3:=qlX (P := λ j=>Ev (λ m k=>(qt m k).2.2 l l.length i (-p.2) j 0 [] 0 p.1.kind p.1.name p.1.sort p.1.kids p.2 [] (P0++List.replicate p.2.toNat p.1) (N0++List.replicate j (apT Qw [p.1]))) (qkb (zJ l++zQ l))) (-p.2) (by omega)
    (by
     refine Ev.loop ?_
     simp only [qi2,qbJ]
     refine Ev.cf (qv.2 (by omega)) ?_
     rw [hi]
     exact hP)
    (λ j hj hji hPj=>by
     refine Ev.loop ?_
     simp only [qi2,qbJ,qe]
     rw [show T.mk p.1.kind p.1.name p.1.sort p.1.kids=p.1 from qe p.1,hji]
     refine Ev.ct (qu.2 hj) (Ev.bind (qjQ p.1 (by omega)) (Ev.bind (a:=apT Qw [p.1]) (Ev.succ (Ev.pure _)) (Ev.ct (zh (by rw [List.length_append,List.length_replicate];omega) (by omega)) ?_)))
     refine hPj.congr λ m k=>?_
     rw [List.replicate_succ',List.append_assoc])
   have k2:=qlX (P := λ j=>Ev (λ m k=>(qt m k).2.1 l l.length i p.2 j 0 [] 0 p.1.kind p.1.name p.1.sort p.1.kids p.2 [] (P0++List.replicate j p.1) N0) (qkb (zJ l++zQ l))) p.2 (by omega)
    (by
     refine Ev.loop ?_
     simp only [qiY,qbO]
     refine Ev.cf (qv.2 (by omega)) ?_
     rw [show iw .i64 (jK 0 p.2)=-p.2 from by unfold jK;rw [Qo (by omega)];omega]
     have:=k3 0 (Nat.zero_le _)
     rw [List.replicate_zero,List.append_nil] at this
     exact this)
    (λ j hj hji hPj=>by
     refine Ev.loop ?_
     simp only [qiY,qbO,qe]
     rw [show T.mk p.1.kind p.1.name p.1.sort p.1.kids=p.1 from qe p.1,hji]
     refine Ev.ct (qu.2 hj) (Ev.bind (qjQ p.1 (by omega)) (Ev.ct (zh (by rw [List.length_append,List.length_replicate];omega) (by omega)) ?_))
     refine hPj.congr λ m k=>?_
     rw [List.replicate_succ',List.append_assoc])
   have:=k2 0 (Nat.zero_le _)
   rw [List.replicate_zero,List.append_nil] at this
   exact this)
 refine Ev.diag (L := λ m k=>(qt m k).1 l l.length 0 0 [] 0 [] [] []) ?_
 exact (key 0 (Nat.zero_le _)) (λ p hp=>by rw [List.take_zero] at hp;cases hp)
theorem qHw (l:List Pw) (hs:szP l≤100000000):Ev (λ m _=>qaA m l) ((),l,()):=by
 have hl:=qbv l
 refine Ev.succ ?_
 simp only [qpc,qav]
 have key:=qr (P := λ i=>Ev (λ m k=>ju m k l l.length i (l.take i)) ((),l,())) l (by omega)
  (λ hc=>by
   refine Ev.loop ?_
   simp only [qg7,qaw]
   refine Ev.cf hc ?_
   rw [List.take_length];exact Ev.pure _)
  (λ i p hx hd hc hg hi hP=>by
   refine Ev.loop ?_
   simp only [qg7,qaw,qe]
   have h1:=qdA (List.mem_of_getElem? hx)
   have h2:(l.take i).length≤l.length:=by rw [List.length_take];omega
   refine Ev.ct hc (Ev.some hg (Ev.bind (qjQ p.1 (by omega)) (Ev.ct (zh (by omega) (by omega)) ?_)))
   rw [hi]
   refine hP.congr λ m k=>?_
   rw [zP hx])
 refine Ev.diag (L := λ m k=>ju m k l l.length 0 []) ?_
 exact key 0 (Nat.zero_le _)
theorem quZ (p:Pw) (l:List Pw):qkc (p::l)=((decide (p.2 < -1000)||decide (1000<p.2))||qkc l):=rfl
theorem qGu (l:List Pw) (hl:l.length≤1000000000):∃ v,Ev (λ m _=>qW m l) v∧ile 0 v=qkc l:=by
 have key:=qr (P := λ i=>∃ v,Ev (λ m k=>qw m k l l.length i) v∧ile 0 v=qkc (l.drop i)) l (by omega)
  (λ hc=>by
   refine ⟨-1,Ev.loop ?_,by rw [List.drop_length];rfl⟩
   simp only [zZ,qO]
   exact Ev.cf hc (Ev.pure _))
  (λ i p hx hd hc hg hi hP=>by
   obtain ⟨v,hv,hf⟩:=hP
   rw [hd,quZ]
   have hq:Ev (λ m _=>Jx m (p.1,p.2)) (decide (p.2 < -1000)||decide (1000<p.2)):=by
    refine Ev.succ ?_
    simp only [qmR,qbU]
    refine Ev.ite (λ h=>?_) λ h=>?_
    ·rw [qu] at h
     exact Ev.ret (by rw [decide_eq_true h];rfl)
    ·rw [qv] at h
     exact Ev.ret (by rw [decide_eq_false (show ¬ p.2 < -1000 by omega)];rfl)
   cases hb:decide (p.2 < -1000)||decide (1000<p.2) with
   | true =>
     refine ⟨i,Ev.loop ?_,by rw [Bool.true_or,qgM];omega⟩
     simp only [zZ,qO,qe]
     exact Ev.ct hc (Ev.some hg (Ev.bind hq (Ev.ct hb (Ev.pure _))))
   | false =>
     refine ⟨v,Ev.loop ?_,by rw [Bool.false_or];exact hf⟩
     simp only [zZ,qO,qe]
     refine Ev.ct hc (Ev.some hg (Ev.bind hq (Ev.cf hb ?_)))
     rw [hi];exact hv)
 obtain ⟨v,hv,hf⟩:=key 0 (Nat.zero_le _)
 refine ⟨v,Ev.succ ?_,by rw [hf,List.drop_zero]⟩
 simp only [qaz,zm]
 exact Ev.diag (L := λ m k=>qw m k l l.length 0) hv
noncomputable def qlL (l:List Pw):List Pw × Int:=if qkc l then ([],7) else if 200<l.length then ([],3) else (l,0)
theorem qGE (l:List Pw) (hl:l.length≤1000000000):Ev (λ m _=>qaI m l) (qlL l):=by
 obtain ⟨v,hv,hf⟩:=qGu l hl
 refine Ev.succ ?_
 simp only [qo1,qcO]
 have hc:Ev (λ m _=>qQ m l) (qkc l):=by
  refine Ev.succ ?_
  simp only [JX,zK]
  exact Ev.bind hv (Ev.ret hf)
 unfold qlL
 refine Ev.bind hc (Ev.ite (λ h=>?_) λ h=>?_)
 ·rw [if_pos h];exact Ev.pure _
 ·rw [if_neg (by rw [h];decide)]
  refine Ev.ite (λ h2=>?_) λ h2=>?_
  ·rw [qu] at h2
   rw [if_pos (by omega)];exact Ev.pure _
  ·rw [qv] at h2
   rw [if_neg (by omega)];exact Ev.pure _
theorem qDc (S:Nat):∀ l:List Pw,(∀ p∈l,size p.1≤S)→szP l≤l.length*S
 | [],_=>by simp [szP]
 | p::l,h=>by
   have h1:=qDc S l λ q hq=>h q (List.mem_cons_of_mem _ hq)
   have h2:=h p (List.mem_cons_self ..)
   rw [JZ,List.length_cons,Nat.add_mul];omega
theorem qrj (a b:List Pw):qiG a b=if QC a≠0 then ([],QC a) else if QC b≠0 then ([],QC b) else qlL (Qn a b):=rfl
theorem qf2 {a b:List Pw} (ha:QC a=0) (hb:QC b=0) (j:Nat) :
  Q6 (Qn a (b.take j))∧(Qn a (b.take j)).length≤400∧szP (Qn a (b.take j))≤160000∧jZ (Qn a (b.take j))≤400000:=by
 obtain ⟨g1,l1,k1,v1⟩:=qap ha
 obtain ⟨g2,l2,k2,v2⟩:=qap hb
 have hm:∀ p∈b.take j,p∈b := λ p hp=>List.mem_of_mem_take hp
 obtain ⟨h1,h2,h3,h4⟩:=qBR ha hb 400 (λ p hp=>jN (v1 p hp).1) (λ p hp=>jN (v2 p hp).1) j
 have h5:=qDc 400 _ h4
 obtain ⟨h6,_⟩:=qpM (b.take j) a
 have h7:=qkL 1000 a k1
 have h8:=qkL 1000 (b.take j) λ p hp=>k2 p (hm p hp)
 have h9:(b.take j).length≤200:=by rw [List.length_take];omega
 refine ⟨qnl _ _ g1 λ p hp=>g2.2 p (hm p hp),h2,Nat.le_trans h5 (Nat.mul_le_mul_right 400 h2),?_⟩
 have m1:a.length*1000≤200*1000:=Nat.mul_le_mul_right _ l1
 have m2:(b.take j).length*1000≤200*1000:=Nat.mul_le_mul_right _ h9
 omega
theorem qHs (a b:List Pw) (ha:szP a≤100000000) (hb:szP b≤100000000):Ev (λ m _=>qc9 m a b) (qiG a b):=by
 have hl:=qbv b
 refine Ev.succ ?_
 simp only [qtf,qcz]
 rw [qrj]
 refine Ev.bind (qnE a (by omega)) (Ev.ite (λ h=>?_) λ h=>?_)
 ·rw [bnt,qg] at h
  rw [if_pos h];exact Ev.pure _
 rw [bnf,qi] at h
 rw [if_neg (by omega)]
 refine Ev.bind (qnE b (by omega)) (Ev.ite (λ h2=>?_) λ h2=>?_)
 ·rw [bnt,qg] at h2
  rw [if_pos h2];exact Ev.pure _
 rw [bnf,qi] at h2
 rw [if_neg (by omega)]
 refine Ev.bind (qHw a ha) ?_
 have key:=qr (P := λ i=>Ev (λ m k=>QF m k b b.length i (Qn a (b.take i))) (qlL (Qn a b))) b (by omega)
  (λ hc=>by
   refine Ev.loop ?_
   simp only [qjC,qcs]
   rw [List.take_length]
   obtain ⟨_,b2,_,_⟩:=qf2 h h2 b.length
   rw [List.take_length] at b2
   exact Ev.cf hc (Ev.bind (qGE _ (by omega)) (Ev.pure _)))
  (λ i p hx hd hc hg hi hP=>by
   refine Ev.loop ?_
   simp only [qjC,qcs,qe]
   have hm:=List.mem_of_getElem? hx
   obtain ⟨b1,b2,b3,b4⟩:=qf2 h h2 i
   obtain ⟨_,_,hn,hv⟩:=qap h2
   have hz:=jN (hv p hm).1
   have hnp:=hn p hm
   refine Ev.ct hc (Ev.some hg (Ev.bind (qrH b1.1 p.1 p.2 (by omega) (by omega) (by omega)) ?_))
   rw [hi]
   refine hP.congr λ m k=>?_
   rw [zP hx,qux])
 refine Ev.diag (L := λ m k=>QF m k b b.length 0 a) ?_
 exact key 0 (Nat.zero_le _)
end Go.AmYtbpnmbmdbblehaaGreat
namespace Go.AmYtbpnmbmdbblehaaGreat
open Go Go.GxYtbpnmbmdbblehaaGreat
theorem qwK (t:T):Ev (λ m _=>Jt m t) (qbF t):=by
 refine Ev.succ ?_
 simp only [qsq,qeN]
 unfold qbF
 by_cases h3:t.kind=3
 ·refine Ev.ct (qi.2 h3) (Ev.ite (λ h=>?_) λ h=>(Ev.ite (λ h2=>?_) λ h2=>?_))
  ·rw [y8] at h
   exact Ev.ret (by rw [h3,h];rfl)
  ·rw [y8] at h2
   exact Ev.ret (by rw [h3,h2];rfl)
  ·rw [jq] at h h2
   exact Ev.ret (by
    have a1:(t.name==qfm)=false:=by rw [beq_eq_false_iff_ne];exact h
    have a2:(t.name==Qw)=false:=by rw [beq_eq_false_iff_ne];exact h2
    rw [h3,a1,a2];rfl)
 ·exact Ev.cf (qg.2 h3) (Ev.ret (by have:(t.kind==3)=false:=by rw [beq_eq_false_iff_ne];exact h3
                                    rw [this];rfl))
theorem qDx (t:T):size t≤1000000000→Ev (λ m _=>yn m t) (arT t):=by
 induction t using T.ind with
 | h t ih =>
   intro hs
   have hl:=yG t
   refine Ev.succ ?_
   simp only [qwj,qds,qe]
   refine Ev.bind (qwK t) (Ev.ite (λ h=>?_) λ h=>?_)
   ·rw [bnt] at h
    exact Ev.ret (by rw [qrh,h];rfl)
   rw [bnf] at h
   obtain ⟨h3,hname⟩:=qoB.1 h
   have har:arT t=(arK t&&(t.kids.map arT).all id):=by rw [qrh,h];rfl
   have loop:arK t=true→Ev (λ m _=>Qt m (yn m) m t.kids.length 0 t.kind t.name t.sort t.kids) (arT t):=by
    intro hk
    rw [har,hk,Bool.true_and]
    have key:=qr (P := λ i=>Ev (λ m k=>Qt m (yn m) k t.kids.length i t.kind t.name t.sort t.kids) (((t.kids.drop i).map arT).all id)) t.kids (by omega)
     (λ hc=>by
      refine Ev.loop ?_
      simp only [qkU,qdp]
      refine Ev.cf hc (Ev.ret ?_)
      rw [List.drop_length];rfl)
     (λ i x hx hd hc hg hi hP=>by
      refine Ev.loop ?_
      simp only [qkU,qdp,qe]
      have hm:=List.mem_of_getElem? hx
      have h1:=jf t x hm
      rw [hd,List.map_cons,List.all_cons]
      refine Ev.ct hc (Ev.some hg (Ev.bind (ih x hm (by omega)) (Ev.ite (λ hb=>?_) λ hb=>?_)))
      ·rw [bnt] at hb
       rw [hb];exact Ev.pure _
      ·rw [bnf] at hb
       rw [hb,hi]
       exact hP)
    refine Ev.diag (L := λ m k=>Qt m (yn m) k t.kids.length 0 t.kind t.name t.sort t.kids) ?_
    exact (key 0 (Nat.zero_le _)).res (by rw [List.drop_zero])
   have bad:arK t=false→Ev (λ _ _=>some false) (arT t) := λ hk=>Ev.ret (by rw [har,hk];rfl)
   rcases hname with hn1 | hn1 | hn1
   ·refine Ev.ct (by rw [hn1];rfl) (Ev.ite (λ hk=>?_) λ hk=>?_)
    ·rw [qu] at hk
     exact bad (by unfold arK;rw [hn1,decide_eq_true (show t.kids.length<2 by omega)];rfl)
    ·rw [qv] at hk
     exact Ev.cf (by rw [hn1];rfl) (Ev.cf (by rw [hn1];rfl) (loop (by unfold arK;rw [hn1,decide_eq_false (show ¬ t.kids.length<2 by omega)];rfl)))
   ·refine Ev.cf (by rw [hn1];rfl) (Ev.ct (by rw [hn1];rfl) (Ev.ite (λ hk=>?_) λ hk=>?_))
    ·rw [bnt,qg] at hk
     exact bad (by unfold arK;rw [hn1,show (t.kids.length != 1)=true from by rw [bne_iff_ne];omega];rfl)
    ·rw [bnf,qi] at hk
     exact Ev.cf (by rw [hn1];rfl) (loop (by unfold arK;rw [hn1,show (t.kids.length != 1)=false from by rw [bne_eq_false_iff_eq];omega];rfl))
   ·refine Ev.cf (by rw [hn1];rfl) (Ev.cf (by rw [hn1];rfl) (Ev.ct (by rw [hn1];rfl) (Ev.ite (λ hk=>?_) λ hk=>?_)))
    ·rw [bnt,qg] at hk
     exact bad (by unfold arK;rw [hn1,show (t.kids.length != 0)=true from by rw [bne_iff_ne];omega];rfl)
    ·rw [bnf,qi] at hk
     exact loop (by unfold arK;rw [hn1,show (t.kids.length != 0)=false from by rw [bne_eq_false_iff_eq];omega];rfl)
theorem quq (t:T) (n:Int):∀ (l:List Pw) (s:List Pw × Bool),(l.foldl (yy t n) s).1.length≤s.1.length+2*l.length
 | [],s=>by simp
 | x::l,s=>by
   have h:=quq t n l (yy t n s x)
   have:(yy t n s x).1.length≤s.1.length+2:=by
    unfold yy
    simp only [List.length_append]
    have a:(if s.2=false∧qp t x.1<0 then s.1++[(t,n)] else s.1).length≤s.1.length+1:=by split<;>simp
    have b:(if (if qp t x.1=0 then x.2+n else x.2)=0 then ([]:List Pw) else [(x.1,if qp t x.1=0 then x.2+n else x.2)]).length≤1:=by generalize (if qp t x.1=0 then x.2+n else x.2)=z;split<;>simp
    omega
   rw [List.foldl_cons,List.length_cons];omega
theorem qAt {l:List Pw} (hg:Q6 l) (t:T) (n:Int) (hs:szP l+size t≤1000000000) (hn:jZ l+n.natAbs≤1000000000000):Ev (λ m _=>qe6 m l t n) ((),yb l t n,()):=by
 have hl:=qbv l
 refine Ev.succ ?_
 simp only [qzn,qfl]
 have hlen:∀ i,((l.take i).foldl (yy t n) ([],false)).1.length≤2*l.length := λ i=>by
  have:=quq t n (l.take i) ([],false)
  have h2:(l.take i).length≤l.length:=by rw [List.length_take];omega
  simp only [List.length_nil] at this;omega
 have key:=qr (P := λ i=>Ev (λ m k=>Q3 m k n ((l.take i).foldl (yy t n) ([],false)).2 i t.kind t.name t.sort t.kids l ((l.take i).foldl (yy t n) ([],false)).1) ((),yb l t n,())) l (by omega)
  (λ hc=>by
   refine Ev.loop ?_
   simp only [qn0,qfM]
   refine Ev.cf hc ?_
   have:=hlen l.length
   have he:=qFh hg.2 hg.1 t n
   rw [List.take_length] at this ⊢
   unfold qA1 at he
   refine Ev.ite (λ h=>?_) λ h=>?_
   ·rw [bnt] at h
    rw [if_neg (by rw [h];decide)] at he
    rw [show T.mk t.kind t.name t.sort t.kids=t from qe t,he]
    exact Ev.ct (zh (by omega) (by omega)) (Ev.pure _)
   ·rw [bnf] at h
    rw [if_pos h] at he
    rw [he]
    exact Ev.pure _)
  (λ i p hx hd hc hgt hi hP=>by
   refine Ev.loop ?_
   simp only [qn0,qfM,qe]
   have hm:=List.mem_of_getElem? hx
   have h1:=qdA hm
   have h2:=hlen i
   have h3:=qwJ l p hm
   have hnz:=hg.2 p hm
   rw [zP hx,List.foldl_append] at hP
   generalize (l.take i).foldl (yy t n) ([],false)=s at *
   have go:∀ (b:Bool) (o:List Pw),yy t n s p=(o,b)→Ev (λ m k=>Q3 m k n b ((i+1:Nat):Int) t.kind t.name t.sort t.kids l o) ((),yb l t n,()) := λ b o e=>by
    have hP:Ev (λ m k=>Q3 m k n (yy t n s p).2 ((i+1:Nat):Int) t.kind t.name t.sort t.kids l (yy t n s p).1) ((),yb l t n,()):=hP
    rw [e] at hP;exact hP
   have e1:iw .i64 (qj p.2 n)=p.2+n:=by unfold qj;exact Qo (by omega)
   rw [show T.mk t.kind t.name t.sort t.kids=t from qe t,hi]
   have hz0:qc (ieq p.2 0)=true:=bnt.2 (qg.2 hnz)
   refine Ev.ct hc (Ev.some hgt (Ev.bind (qgJ t (by omega) p.1 (by omega)) (Ev.ite (λ h=>?_) λ h=>?_)))
   ·rw [bnt] at h
    refine Ev.ite (λ hc1=>?_) λ hc1=>?_
    ·rw [qu] at hc1
     refine Ev.ct (zh (by omega) (by omega)) (Ev.some hgt (Ev.cf (qg.2 (by omega)) (Ev.ct hz0 (Ev.ct (zh (by rw [List.length_append];simp only [List.length_cons,List.length_nil];omega) (by omega)) (go _ _ ?_)))))
     unfold yy
     rw [if_pos ⟨h,hc1⟩,if_neg (show ¬ qp t p.1=0 by omega),if_neg hnz,decide_eq_true (show qp t p.1≤0 by omega),Bool.or_true]
    ·rw [qv] at hc1
     refine Ev.some hgt (Ev.ite (λ hc2=>?_) λ hc2=>?_)
     ·rw [qi] at hc2
      refine Ev.ite (λ hz=>?_) λ hz=>?_
      ·rw [bnt,qg,e1] at hz
       refine Ev.ct (zh (by omega) (by omega)) (go _ _ ?_)
       rw [e1]
       unfold yy
       rw [if_neg (by omega),if_pos hc2,if_neg hz,decide_eq_true (show qp t p.1≤0 by omega),Bool.or_true]
      ·rw [bnf,qi,e1] at hz
       refine go _ _ ?_
       unfold yy
       rw [if_neg (by omega),if_pos hc2,if_pos hz,decide_eq_true (show qp t p.1≤0 by omega),Bool.or_true,List.append_nil]
     ·rw [qg] at hc2
      refine Ev.ct hz0 (Ev.ct (zh (by omega) (by omega)) (go _ _ ?_))
      unfold yy
      rw [if_neg (by omega),if_neg hc2,if_neg hnz,decide_eq_false (show ¬ qp t p.1≤0 by omega),Bool.or_false]
   ·rw [bnf] at h
    refine Ev.some hgt (Ev.ite (λ hc2=>?_) λ hc2=>?_)
    ·rw [qi] at hc2
     refine Ev.ite (λ hz=>?_) λ hz=>?_
     ·rw [bnt,qg,e1] at hz
      refine Ev.ct (zh (by omega) (by omega)) (go _ _ ?_)
      rw [e1]
      unfold yy
      rw [if_neg (by omega),if_pos hc2,if_neg hz,decide_eq_true (show qp t p.1≤0 by omega),Bool.or_true]
     ·rw [bnf,qi,e1] at hz
      refine go _ _ ?_
      unfold yy
      rw [if_neg (by omega),if_pos hc2,if_pos hz,decide_eq_true (show qp t p.1≤0 by omega),Bool.or_true,List.append_nil]
    ·rw [qg] at hc2
     refine Ev.ct hz0 (Ev.ct (zh (by omega) (by omega)) (go _ _ ?_))
     unfold yy
     rw [if_neg (by rw [h];intro hh;cases hh.1),if_neg hc2,if_neg hnz,h,Bool.true_or])
 refine Ev.diag (L := λ m k=>Q3 m k n false 0 t.kind t.name t.sort t.kids l []) ?_
 exact key 0 (Nat.zero_le _)
theorem qzw (t:T):∀ (l:List Pw) (n:Int),n≠0→Q6 l→szP l+size t≤80000000→jZ l+size t*n.natAbs≤100000000000→Ev (λ m _=>zG m l t n) ((),yR t l n,()):=by
 induction t using T.ind with
 | h t ih =>
   intro l n hn hg hs hb
   have hl:=yG t
   have hz:=qC t
   refine Ev.succ ?_
   simp only [qrm,qbH,qe]
   have hmul:n.natAbs≤size t*n.natAbs:=Nat.le_mul_of_pos_left _ (size_pos t)
   refine Ev.bind (qwK t) (Ev.ite (λ h=>?_) λ h=>?_)
   ·rw [bnt] at h
    refine Ev.bind (qAt hg t n (by omega) (by omega)) (Ev.ret ?_)
    rw [qeV,h];rfl
   rw [bnf] at h
   obtain ⟨h3,hname⟩:=qoB.1 h
   have loop:∀ sg:Int,sg≠0→sg.natAbs=n.natAbs→J8 t n=sg→Ev (λ m _=>jw m (zG m) m sg 0 t.kind t.name t.sort t.kids l) ((),yR t l n,()):=by
    intro sg hsg hab hsn
    have hcol:yR t l n=qdY t.kids sg l t.kids.length:=by rw [qeV,h,if_pos rfl,hsn];unfold qdY;rw [List.take_length]
    rw [hcol]
    have key:=qr (P := λ i=>Ev (λ m k=>jw m (zG m) k sg i t.kind t.name t.sort t.kids (qdY t.kids sg l i)) ((),qdY t.kids sg l t.kids.length,())) t.kids (by omega)
     (λ hc=>by
      refine Ev.loop ?_
      simp only [qiP,qbE]
      exact Ev.cf hc (Ev.pure _))
     (λ i x hx hd hc hgt hi hP=>by
      refine Ev.loop ?_
      simp only [qiP,qbE,qe]
      have hm:=List.mem_of_getElem? hx
      have h1:=jf t x hm
      obtain ⟨f1,f2,f3,f4⟩:=qlr sg hsg (t.kids.take i) l hg
      have h5:=jD hx
      have h6:szL t.kids+1=size t:=by unfold szL;omega
      have h7:szL (t.kids.take i)*sg.natAbs+size x*sg.natAbs≤size t*n.natAbs:=by
       rw [← Nat.add_mul,hab]
       exact Nat.mul_le_mul_right _ (by omega)
      refine Ev.ct hc (Ev.some hgt (Ev.bind (ih x hm (qdY t.kids sg l i) sg hsg f1 (by unfold qdY;omega) (by unfold qdY;omega)) ?_))
      rw [hi]
      refine hP.congr λ m k=>?_
      rw [quA hx])
    refine Ev.diag (L := λ m k=>jw m (zG m) k sg 0 t.kind t.name t.sort t.kids l) ?_
    exact key 0 (Nat.zero_le _)
   have hneg:iw .i64 (jK 0 n)=-n:=by
    unfold jK
    rw [Qo (by omega)];omega
   refine Ev.ite (λ hk=>?_) λ hk=>?_
   ·rw [y8] at hk
    rw [hneg]
    exact loop (-n) (by omega) (by omega) (by unfold J8;rw [if_pos (show t.name=Qw from hk)])
   ·rw [jq] at hk
    exact loop n hn rfl (by unfold J8;rw [if_neg (show ¬ t.name=Qw from hk)])
theorem qyl (t:T) (hs:size t≤1000000000):Ev (λ m _=>qeM m t) (ofP t):=by
 refine Ev.succ ?_
 simp only [qBU,qkf,qe]
 unfold ofP
 refine Ev.bind (qay t hs) (Ev.ite (λ h=>?_) λ h=>?_)
 ·rw [bnt,qg] at h
  rw [if_pos h];exact Ev.pure _
 ·rw [bnf,qi] at h
  have hz:=jN h
  rw [if_neg (by omega)]
  refine Ev.bind (qDx t hs) (Ev.ite (λ h1=>?_) λ h1=>?_)
  ·rw [bnt] at h1
   rw [if_pos h1];exact Ev.pure _
  ·rw [bnf] at h1
   rw [if_neg (by rw [h1];decide)]
   refine Ev.bind (qzw t [] 1 (by decide) Q6.nil (by show 0+_≤_;omega) (by show 0+size t*1≤_;omega)) (Ev.ite (λ h2=>?_) λ h2=>?_)
   ·rw [qu] at h2
    have h2:(200:Int)<((yR t [] 1).length:Int):=h2
    rw [if_pos (by omega)];exact Ev.pure _
   ·rw [qv] at h2
    have h2:((yR t [] 1).length:Int)≤200:=h2
    rw [if_neg (by omega)];exact Ev.pure _
theorem qpz (l:List Pw) (hs:szP l≤1000000000):Ev (λ m _=>qaM m l) (QC l):=by
 have hl:=qbv l
 refine Ev.succ ?_
 simp only [qvn,qdM]
 unfold QC
 refine Ev.ite (λ h=>?_) λ h=>?_
 ·rw [qu] at h
  rw [if_pos (by omega)];exact Ev.pure _
 rw [qv] at h
 rw [if_neg (by omega)]
 have key:=qr (P := λ i=>Ev (λ m k=>Qu m k l i) (pvL (qcF l i) (l.drop i))) l (by omega)
  (λ hc=>by
   refine Ev.loop ?_
   simp only [qkJ,qdC]
   refine Ev.cf hc (Ev.ret ?_)
   rw [List.drop_length];rfl)
  (λ i x hx hd hc hg hi hP=>by
   refine Ev.loop ?_
   simp only [qkJ,qdC,qe]
   have h1:=qdA (List.mem_of_getElem? hx)
   rw [qh8 hx] at hP
   rw [hd,pvL]
   have hk:=qye (qcF l i) x
   have bad:∀ e:Int,pvK (qcF l i) x=e→e≠0→Ev (λ _ _=>some e) (thn (pvK (qcF l i) x) (pvL (some x.1) (l.drop (i+1)))) := λ e he h0=>by
    rw [he]
    exact Ev.ret (by unfold thn;rw [if_neg h0])
   have good:pvK (qcF l i) x=0→Ev (λ m k=>Qu m k l ((i+1:Nat):Int)) (thn (pvK (qcF l i) x) (pvL (some x.1) (l.drop (i+1)))) := λ he=>by
    rw [he]
    exact hP.res (by unfold thn;rw [if_pos rfl])
   refine Ev.ct hc (Ev.some hg (Ev.bind (qay x.1 (by omega)) (Ev.ite (λ hv=>?_) λ hv=>?_)))
   ·rw [bnt,qg] at hv
    exact bad _ (by rw [hk,if_pos hv]) hv
   rw [bnf,qi] at hv
   rw [if_neg (by omega)] at hk
   refine Ev.some hg (Ev.bind (qwK x.1) (Ev.ite (λ hv2=>?_) λ hv2=>?_))
   ·exact bad 1 (by rw [hk,if_pos hv2]) (by decide)
   rw [if_neg (by rw [hv2];decide)] at hk
   refine Ev.some hg (Ev.ite (λ hz=>?_) λ hz=>?_)
   ·rw [qi] at hz
    exact bad 7 (by rw [hk,if_pos (by omega)]) (by decide)
   rw [qg] at hz
   refine Ev.some hg (Ev.ite (λ hz2=>?_) λ hz2=>?_)
   ·rw [qu] at hz2
    exact bad 7 (by rw [hk,if_pos (by omega)]) (by decide)
   rw [qv] at hz2
   refine Ev.some hg (Ev.ite (λ hz3=>?_) λ hz3=>?_)
   ·rw [qu] at hz3
    exact bad 7 (by rw [hk,if_pos (by omega)]) (by decide)
   rw [qv] at hz3
   rw [if_neg (by omega)] at hk
   rw [hi]
   refine Ev.ite (λ h0=>?_) λ h0=>?_
   ·rw [qu] at h0
    obtain ⟨j,rfl⟩:∃ j,i=j+1:=⟨i-1,by omega⟩
    have hlt:j<l.length:=by have:=(List.getElem?_eq_some_iff.1 hx).1;omega
    obtain ⟨q,hq⟩:∃ q,l[j]? = some q:=⟨_,List.getElem?_eq_getElem hlt⟩
    have h2:=qdA (List.mem_of_getElem? hq)
    rw [qh8 hq] at hk bad good ⊢
    simp only at hk
    refine Ev.some (a:=q) (by rw [show jK ((j+1:Nat):Int) 1=((j:Nat):Int) from by unfold jK;omega,Qo (by omega),jI,hq]) (Ev.some hg (Ev.bind (qgJ q.1 (by omega) x.1 (by omega)) (Ev.ite (λ hc2=>?_) λ hc2=>?_)))
    ·rw [qgM] at hc2
     exact bad 5 (by rw [hk,if_pos hc2]) (by decide)
    ·rw [qic] at hc2
     exact good (by rw [hk,if_neg (by omega)])
   ·rw [qv] at h0
    have:i=0:=by omega
    subst this
    exact good (by rw [hk];rfl))
 refine Ev.diag (L := λ m k=>Qu m k l 0) ?_
 exact key 0 (Nat.zero_le _)
end Go.AmYtbpnmbmdbblehaaGreat
namespace Go.AmYtbpnmbmdbblehaaGreat
open Go Go.GxYtbpnmbmdbblehaaGreat
theorem qso (A:List T) (x:T) (h:(A.take 9).length<9):A.take 9++[x]=(A++[x]).take 9:=by
 rw [List.length_take] at h
 rw [List.take_of_length_le (by omega),List.take_of_length_le (by rw [List.length_append];simp only [List.length_cons,List.length_nil];omega)]
theorem qsv (A B:List T) (h:¬ (A.take 9).length<9):A.take 9=(A++B).take 9:=by
 rw [List.length_take] at h
 rw [List.take_append_of_le_length (by omega)]
theorem qE4 (l:List Pw) (hl:l.length≤1000) (hn:∀ p∈l,p.2.natAbs≤1000):Ev (λ m _=>qbh m l) ((zJ l++zQ l).take 9):=by
 refine Ev.succ ?_
 simp only [qqE,qa1]
 have l9:∀ A:List T,(A.take 9).length≤9 := λ A=>by rw [List.length_take];omega
 have k3:=qr (P := λ i=>Ev (λ m k=>(qk m k).2.2.1 l i ((zJ l++zQ (l.take i)).take 9)) ((zJ l++zQ l).take 9)) l (by omega)
  (λ hc=>by
   refine Ev.loop ?_
   simp only [qhO,qbc]
   refine Ev.cf hc ?_
   rw [List.take_length];exact Ev.pure _)
  (λ i p hx hd hc hg hi hP=>by
   refine Ev.loop ?_
   simp only [qhO,qbc]
   refine Ev.ct hc ?_
   have hnp:=hn p (List.mem_of_getElem? hx)
   rw [zP hx,qqz,qqw,← List.append_assoc] at hP
   generalize zJ l++zQ (l.take i)=A at *
   have hneg:iw .i64 (jK 0 p.2)=-p.2:=by unfold jK;rw [Qo (by omega)];omega
   have k4:=qlX (P := λ j=>Ev (λ m k=>(qk m k).2.2.2 l i j ((A++List.replicate j (apT Qw [p.1])).take 9)) ((zJ l++zQ l).take 9)) (-p.2) (by omega)
    (by
     refine Ev.loop ?_
     simp only [qhL,qbb,qe]
     refine Ev.some hg (Ev.cf (by rw [hneg,qv];omega) ?_)
     rw [hi]
     exact hP)
    (λ j hj hji hPj=>by
     refine Ev.loop ?_
     simp only [qhL,qbb,qe]
     rw [List.replicate_succ',← List.append_assoc] at hPj
     have h9:=l9 (A++List.replicate j (apT Qw [p.1]))
     refine Ev.some hg (Ev.ct (by rw [hneg,qu];exact hj) (Ev.ite (λ h=>?_) λ h=>?_))
     ·rw [qu] at h
      refine Ev.some hg (Ev.bind (qbl [105,110,118] [p.1] (by simp)) (Ev.ct (zh (by omega) (by omega)) ?_))
      rw [hji]
      refine hPj.congr λ m k=>?_
      rw [← qso _ _ (by omega)];rfl
     ·rw [qv] at h
      rw [hi]
      refine hP.congr λ m k=>?_
      obtain ⟨d,hd2⟩:∃ d,(-p.2).toNat=j+d:=⟨(-p.2).toNat-j,by omega⟩
      rw [hd2,← List.replicate_append_replicate,← List.append_assoc,← qsv (A++List.replicate j (apT Qw [p.1])) _ (by omega)])
   have:=k4 0 (Nat.zero_le _)
   rw [List.replicate_zero,List.append_nil] at this
   exact this)
 have k1:=qr (P := λ i=>Ev (λ m k=>(qk m k).1 l i ((zJ (l.take i)).take 9)) ((zJ l++zQ l).take 9)) l (by omega)
  (λ hc=>by
   refine Ev.loop ?_
   simp only [qhK,qbd]
   refine Ev.cf hc ?_
   rw [List.take_length]
   have:=k3 0 (Nat.zero_le _)
   rw [List.take_zero,show zQ []=[] from rfl,List.append_nil] at this
   exact this)
  (λ i p hx hd hc hg hi hP=>by
   refine Ev.loop ?_
   simp only [qhK,qbd]
   refine Ev.ct hc ?_
   have hnp:=hn p (List.mem_of_getElem? hx)
   rw [zP hx,qqk,qqm] at hP
   generalize zJ (l.take i)=A at *
   have k2:=qlX (P := λ j=>Ev (λ m k=>(qk m k).2.1 l i j ((A++List.replicate j p.1).take 9)) ((zJ l++zQ l).take 9)) p.2 (by omega)
    (by
     refine Ev.loop ?_
     simp only [qhN,qa3,qe]
     refine Ev.some hg (Ev.cf (by rw [qv];omega) ?_)
     rw [hi]
     exact hP)
    (λ j hj hji hPj=>by
     refine Ev.loop ?_
     simp only [qhN,qa3,qe]
     rw [List.replicate_succ',← List.append_assoc] at hPj
     have h9:=l9 (A++List.replicate j p.1)
     refine Ev.some hg (Ev.ct (by rw [qu];exact hj) (Ev.ite (λ h=>?_) λ h=>?_))
     ·rw [qu] at h
      refine Ev.some hg (Ev.ct (zh (by omega) (by omega)) ?_)
      rw [hji]
      refine hPj.congr λ m k=>?_
      rw [← qso _ _ (by omega)]
     ·rw [qv] at h
      rw [hi]
      refine hP.congr λ m k=>?_
      obtain ⟨d,hd2⟩:∃ d,p.2.toNat=j+d:=⟨p.2.toNat-j,by omega⟩
      rw [hd2,← List.replicate_append_replicate,← List.append_assoc,← qsv (A++List.replicate j p.1) _ (by omega)])
   have:=k2 0 (Nat.zero_le _)
   rw [List.replicate_zero,List.append_nil] at this
   exact this)
 refine Ev.diag (L := λ m k=>(qk m k).1 l 0 []) ?_
 exact k1 0 (Nat.zero_le _)
theorem qHb (S:Nat):∀ l:List Pw,(∀ p∈l,size p.1≤S)→(∀ x∈zJ l,size x≤S)∧∀ x∈zQ l,size x≤1+S:=by
 intro l h
 refine ⟨λ x hx=>?_,λ x hx=>?_⟩
 ·unfold zJ at hx
  obtain ⟨p,hp,hx⟩:=List.mem_flatMap.1 hx
  rw [List.eq_of_mem_replicate hx];exact h p hp
 ·unfold zQ at hx
  obtain ⟨p,hp,hx⟩:=List.mem_flatMap.1 hx
  rw [List.eq_of_mem_replicate hx,qx5]
  have:=h p hp;omega
theorem qDl (S:Nat):∀ l:List T,(∀ x∈l,size x≤S)→szL l≤l.length*S
 | [],_=>by simp [szL]
 | x::l,h=>by
   have h1:=qDl S l λ q hq=>h q (List.mem_cons_of_mem _ hq)
   have h2:=h x (List.mem_cons_self ..)
   rw [qJ,List.length_cons,Nat.add_mul];omega
theorem qxh (l:List Pw) (hs:szP l≤1000000000):Ev (λ m _=>qaG m l) (qac l):=by
 refine Ev.succ ?_
 simp only [qyi,qhm,qe]
 refine Ev.bind (qpz l hs) (Ev.ite (λ h=>?_) λ h=>?_)
 ·rw [bnt,qg] at h
  unfold qac
  rw [if_pos h];exact Ev.pure _
 rw [bnf,qi] at h
 obtain ⟨_,hlen,hN,hV⟩:=qap h
 have hsz:∀ p∈l,size p.1≤400 := λ p hp=>jN (hV p hp).1
 rw [qm3 h]
 obtain ⟨s1,s2⟩:=qHb 400 l hsz
 have hall:∀ x∈zJ l++zQ l,size x≤401 := λ x hx=>by
  rcases List.mem_append.1 hx with hx | hx
  ·have:=s1 x hx;omega
  ·exact s2 x hx
 refine Ev.bind (qE4 l (by omega) hN) ?_
 generalize zJ l++zQ l=A at *
 unfold qkb
 refine Ev.ite (λ h8=>?_) λ h8=>?_
 ·rw [qu,List.length_take] at h8
  rw [if_pos (by omega)];exact Ev.pure _
 rw [qv,List.length_take] at h8
 rw [if_neg (by omega),List.take_of_length_le (by omega)]
 have ho:=qDl 401 A hall
 have hoz:=qz9 A
 have hm:A.length*401≤8*401:=Nat.mul_le_mul_right _ (by omega)
 have fin:∀ u:T,u=Jg A→Ev (λ m _=>qa (zI m u) λ v=>cond (qc (ieq v 0)) (some (T.mk 0 [] 0 [],v)) (some (u,0))) (if qA (Jg A)≠0 then (zT,qA (Jg A)) else (Jg A,0)):=by
  intro u hu
  subst hu
  refine Ev.bind (qay _ (by omega)) (Ev.ite (λ h=>?_) λ h=>?_)
  ·rw [bnt,qg] at h
   rw [if_pos h];exact Ev.pure _
  ·rw [bnf,qi] at h
   rw [if_neg (by omega)];exact Ev.pure _
 refine Ev.bind (qbl [109,117,108] A (by omega)) (Ev.ite (λ h0=>?_) λ h0=>?_)
 ·rw [qi] at h0
  refine Ev.bind (qbl [111,110,101] [] (by simp)) (Ev.cf (qg.2 (by omega)) (fin _ (by unfold Jg;rw [if_pos (by omega)];rfl)))
 ·rw [qg] at h0
  refine Ev.ite (λ h1=>?_) λ h1=>?_
  ·rw [qi] at h1
   refine Ev.some (a:=A.getD 0 zT) ?_ (fin _ (by unfold Jg;rw [if_neg (by omega),if_pos (by omega)]))
   rw [Ja,List.getD_eq_getElem?_getD]
   cases A with
   | nil=>simp at h1
   | cons x r=>rfl
  ·rw [qg] at h1
   exact fin _ (by unfold Jg;rw [if_neg (by omega),if_neg (by omega)];rfl)
theorem qDT (l:List Pw) (hl:l.length≤1000000000):Ev (λ m _=>qb4 m l) (if qkc l then 7 else if 200<l.length then 3 else 0):=by
 refine Ev.succ ?_
 simp only [qr5,qb1]
 have key:=qr (P := λ i=>Ev (λ m k=>Qa m k l i) (if qkc (l.drop i) then (7:Int) else if 200<l.length then 3 else 0)) l (by omega)
  (λ hc=>by
   refine Ev.loop ?_
   simp only [qi0,qbT]
   rw [List.drop_length,if_neg (by decide)]
   refine Ev.cf hc (Ev.ite (λ h=>?_) λ h=>?_)
   ·rw [qu] at h
    rw [if_pos (by omega)];exact Ev.pure _
   ·rw [qv] at h
    rw [if_neg (by omega)];exact Ev.pure _)
  (λ i p hx hd hc hg hi hP=>by
   refine Ev.loop ?_
   simp only [qi0,qbT]
   rw [hd,quZ]
   refine Ev.ct hc (Ev.some hg (Ev.ite (λ h=>?_) λ h=>?_))
   ·rw [qu] at h
    rw [decide_eq_true h,Bool.true_or,Bool.true_or,if_pos rfl];exact Ev.pure _
   ·rw [qv] at h
    rw [decide_eq_false (show ¬ p.2 < -1000 by omega),Bool.false_or]
    refine Ev.some hg (Ev.ite (λ h2=>?_) λ h2=>?_)
    ·rw [qu] at h2
     rw [decide_eq_true h2,Bool.true_or,if_pos rfl];exact Ev.pure _
    ·rw [qv] at h2
     rw [decide_eq_false (show ¬ 1000<p.2 by omega),Bool.false_or,hi]
     exact hP)
 refine Ev.diag (L := λ m k=>Qa m k l 0) ?_
 exact (key 0 (Nat.zero_le _)).res (by rw [List.drop_zero])
theorem qGS (a b:List Pw) (ha:szP a≤100000000) (hb:szP b≤100000000):Ev (λ m _=>qhb m a b) (qiG a b):=by
 have hl:=qbv b
 have hla:=qbv a
 refine Ev.succ ?_
 simp only [qy3,qfE]
 rw [qrj]
 refine Ev.bind (qpz a (by omega)) (Ev.ite (λ h=>?_) λ h=>?_)
 ·rw [bnt,qg] at h
  rw [if_pos h];exact Ev.pure _
 rw [bnf,qi] at h
 rw [if_neg (by omega)]
 refine Ev.bind (qpz b (by omega)) (Ev.ite (λ h2=>?_) λ h2=>?_)
 ·rw [bnt,qg] at h2
  rw [if_pos h2];exact Ev.pure _
 rw [bnf,qi] at h2
 rw [if_neg (by omega)]
 have key:=qr (P := λ i=>Ev (λ m k=>JP m k b i (Qn a (b.take i))) (qlL (Qn a b))) b (by omega)
  (λ hc=>by
   refine Ev.loop ?_
   simp only [qom,qfg]
   rw [List.take_length]
   obtain ⟨_,b2,_,_⟩:=qf2 h h2 b.length
   rw [List.take_length] at b2
   refine Ev.cf hc (Ev.bind (qDT _ (by omega)) ?_)
   unfold qlL
   by_cases hf:qkc (Qn a b)=true
   ·rw [if_pos hf,if_pos hf]
    exact Ev.ct rfl (Ev.pure _)
   ·rw [if_neg hf,if_neg hf]
    by_cases h200:200<(Qn a b).length
    ·rw [if_pos h200,if_pos h200]
     exact Ev.ct rfl (Ev.pure _)
    ·rw [if_neg h200,if_neg h200]
     exact Ev.cf rfl (Ev.pure _))
  (λ i p hx hd hc hg hi hP=>by
   refine Ev.loop ?_
   simp only [qom,qfg,qe]
   have hm:=List.mem_of_getElem? hx
   obtain ⟨b1,b2,b3,b4⟩:=qf2 h h2 i
   obtain ⟨_,_,hn,hv⟩:=qap h2
   have hz:=jN (hv p hm).1
   have hnp:=hn p hm
   refine Ev.ct hc (Ev.some hg (Ev.some hg (Ev.bind (qAt b1 p.1 p.2 (by omega) (by omega)) ?_)))
   rw [hi]
   refine hP.congr λ m k=>?_
   rw [zP hx,qux])
 refine Ev.ct (zh (by simp only [List.length_nil];omega) (by omega)) ?_
 have main:Ev (λ m _=>JP m m b 0 a) (qlL (Qn a b)):=Ev.diag (L := λ m k=>JP m k b 0 a) (key 0 (Nat.zero_le _))
 exact Ev.case (λ h=>by rw [h] at main ⊢;exact main) λ x r h=>by rw [h] at main ⊢;exact main
end Go.AmYtbpnmbmdbblehaaGreat
namespace Go.AmYtbpnmbmdbblehaaGreat
open Go Go.GxYtbpnmbmdbblehaaGreat Go.Lib
theorem quj {t:T} (h:qke t=0):qA t=0∧zb t=0:=by
 unfold qke at h
 exact qeF h
theorem qlC {t:T} (h:zb t=0) {n:List UInt8} (hn:isN t n=true) {a b c:Int} (hs:qG n=(a,b,c)):a≤(t.kids.length:Int)∧(t.kids.length:Int)≤b∧∀ k∈t.kids,zb k=0:=by
 obtain ⟨h3,rfl⟩:=yr.1 hn
 obtain ⟨h1,h2⟩:=qe0 h3 h
 obtain ⟨_,g1,g2,_⟩:=qxO h3 h1
 rw [hs] at g1 g2
 exact ⟨g1,g2,h2⟩
end Go.AmYtbpnmbmdbblehaaGreat
namespace Go.AmYtbpnmbmdbblehaaGreat
open Go Go.GxYtbpnmbmdbblehaaGreat
def Cl (P:T→Prop):Prop:=∀ t:T,t.kind=3→P t→∀ k∈t.kids,P k
theorem qjt:∀ (n:Nat) (a b:List T),a.length+b.length≤n→∀ x∈zf a b,x∈a∨x∈b
 | _,[],b,_,x,h=>by rw [zf] at h;exact .inr h
 | _,z::a,[],_,x,h=>by rw [zf] at h;exact .inl h
 | 0,z::a,y::b,hn,x,h=>by simp at hn
 | n+1,z::a,y::b,hn,x,h=>by
   simp only [List.length_cons] at hn
   rw [zf] at h
   split at h
   ·rcases List.mem_cons.1 h with rfl | h
    ·exact .inl (List.mem_cons_self ..)
    ·rcases qjt n a (y::b) (by simp;omega) x h with h | h
     ·exact .inl (List.mem_cons_of_mem _ h)
     ·exact .inr h
   ·split at h
    ·rcases List.mem_cons.1 h with rfl | h
     ·exact .inr (List.mem_cons_self ..)
     ·rcases qjt n (z::a) b (by simp;omega) x h with h | h
      ·exact .inl h
      ·exact .inr (List.mem_cons_of_mem _ h)
    ·rcases qjt n a b (by omega) x h with h | h
     ·exact .inl (List.mem_cons_of_mem _ h)
     ·exact .inr (List.mem_cons_of_mem _ h)
theorem qiH:∀ (ls:List (List T)) (a:List T),∀ x∈ls.foldl zf a,x∈a∨∃ l∈ls,x∈l
 | [],a,x,h => .inl h
 | l::ls,a,x,h=>by
   rcases qiH ls (zf a l) x h with h | ⟨m,hm,h⟩
   ·rcases qjt _ a l (Nat.le_refl _) x h with h | h
    ·exact .inl h
    ·exact .inr ⟨l,List.mem_cons_self ..,h⟩
   ·exact .inr ⟨m,List.mem_cons_of_mem _ hm,h⟩
theorem qFH {P:T→Prop} (hP:Cl P) (t:T):P t→∀ x∈jn t,P x:=by
 refine T.ind (P := λ t=>P t→∀ x∈jn t,P x) ?_ t
 intro t ih ht x hx
 rw [qi7] at hx
 split at hx
 ·cases hx
 ·split at hx
  ·rename_i hn
   rcases qiH _ _ x hx with h | ⟨l,hl,h⟩
   ·cases h
   ·obtain ⟨k,hk,rfl⟩:=List.mem_map.1 hl
    exact ih k hk (hP t (yr.1 hn).1 ht k hk) x h
  ·rw [List.mem_singleton.1 hx];exact ht
theorem qu1 {P:T→Prop} (hP:Cl P) {l:List T} (h:∀ k∈l,P k):∀ x∈zD l,P x:=by
 intro x hx
 rcases qiH _ _ x hx with h1 | ⟨m,hm,h1⟩
 ·cases h1
 ·obtain ⟨k,hk,rfl⟩:=List.mem_map.1 hm
  exact qFH hP k (h k hk) x h1
theorem qGB {P:T→Prop} {l:List Pw} {t:T} (n:Int) (ht:P t) (hl:∀ p∈l,P p.1):∀ p∈yb l t n,P p.1:=by
 intro p hp
 rcases qlP l t n p hp with h | h
 ·rw [h];exact ht
 ·exact hl p h
theorem qHt {P:T→Prop} (hP:Cl P) (t:T):P t→∀ (l:List Pw) (n:Int),(∀ p∈l,P p.1)→∀ p∈yR t l n,P p.1:=by
 refine T.ind (P := λ t=>P t→∀ (l:List Pw) (n:Int),(∀ p∈l,P p.1)→∀ p∈yR t l n,P p.1) ?_ t
 intro t ih ht l n hl
 rw [qeV]
 split
 ·rename_i hs
  have h3:=(qoB.1 hs).1
  exact qAC t.kids (J8 t n) (λ l=>∀ p∈l,P p.1) (λ k hk l hl=>ih k hk (hP t h3 ht k hk) l _ hl) l hl
 ·exact qGB n ht hl
theorem qhg {P:T→Prop} (hP:Cl P) {t:T} (ht:P t):∀ p∈(ofP t).1,P p.1:=by
 intro p hp
 unfold ofP at hp
 split at hp
 ·cases hp
 ·split at hp
  ·cases hp
  ·split at hp
   ·cases hp
   ·exact qHt hP t ht [] 1 (λ _ h=>by cases h) p hp
theorem qAO {P:T→Prop} {a b:List Pw} (ha:∀ p∈a,P p.1) (hb:∀ p∈b,P p.1):∀ p∈(qiG a b).1,P p.1:=by
 intro p hp
 unfold qiG at hp
 split at hp
 ·cases hp
 ·split at hp
  ·cases hp
  ·split at hp
   ·cases hp
   ·split at hp
    ·cases hp
    ·rcases qqP b a p hp with ⟨q,hq,e⟩ | ⟨q,hq,e⟩
     ·rw [← e];exact ha q hq
     ·rw [← e];exact hb q hq
theorem qyn {l:List Pw} {x:T} (h:x∈zJ l):∃ p∈l,x=p.1:=by
 unfold zJ at h
 obtain ⟨p,hp,h⟩:=List.mem_flatMap.1 h
 exact ⟨p,hp,List.eq_of_mem_replicate h⟩
theorem qyk {l:List Pw} {x:T} (h:x∈zQ l):∃ p∈l,x=apT Qw [p.1]:=by
 unfold zQ at h
 obtain ⟨p,hp,h⟩:=List.mem_flatMap.1 h
 exact ⟨p,hp,List.eq_of_mem_replicate h⟩
theorem Je:Cl λ t=>zb t=0 := λ t h3 h=>(qe0 h3 h).2
theorem qnF:∀ (l:List Int),(∀ y∈l,y=0)→l.foldl thn 0=0
 | [],_=>rfl
 | z::l,h=>by
   rw [jT,h z (List.mem_cons_self ..)]
   exact qnF l λ y hy=>h y (List.mem_cons_of_mem _ hy)
theorem qgW {t:T} (h:qbg t=0) (hk:∀ k∈t.kids,zb k=0):zb t=0:=by
 rw [qkr]
 split
 ·rfl
 ·rw [h]
  refine qnF _ λ y hy=>?_
  obtain ⟨k,hk',rfl⟩:=List.mem_map.1 hy
  exact hk k hk'
theorem qeJ {n:List UInt8} {ks:List T} (h1:(qG n).2.2≠0) (h2:(qG n).1≤(ks.length:Int)) (h3:(ks.length:Int)≤(qG n).2.1) (h4:JJ (apT n ks)=false):qbg (apT n ks)=0:=by
 unfold qbg
 show (if (3:Int)≠3 then (0:Int) else if (qG n).2.2=0 then 10 else if (ks.length:Int)<(qG n).1∨(qG n).2.1<(ks.length:Int) then 6 else if JJ (apT n ks) then 10 else 0)=0
 rw [if_neg (by decide),if_neg h1,if_neg (by omega),h4];rfl
theorem qiq {n:List UInt8} (h1:n≠qgD) (h2:n≠nSk) (h3:n≠qpw) (ks:List T):JJ (apT n ks)=false:=by
 unfold JJ
 rw [if_neg (show ¬ (apT n ks).name=qgD from h1),if_neg (show ¬ ((apT n ks).name=nSk∨(apT n ks).name=qpw) from λ h=>h.elim h2 h3)]
theorem qas:zb zT=0:=by rw [qkr];rfl
theorem J0 {P:T→Prop} (hP:Cl P) (hz:P zT) {t:T} (h3:t.kind=3) (ht:P t) (i:Nat):P (kid t i):=by
 by_cases h:i<t.kids.length
 ·exact hP t h3 ht _ (qAp h)
 ·unfold kid
  rw [List.getD_eq_getElem?_getD,List.getElem?_eq_none (by omega)];exact hz
theorem qoJ {P:T→Prop} (hz:P zT) {l:List T} (h:∀ x∈l,P x):P (l.getD 0 zT):=by
 cases l with
 | nil=>exact hz
 | cons x r=>exact h x (List.mem_cons_self ..)
theorem qC9 {t:T} (h3:t.kind=3) (h:qA t=0):t.kids.length≤8:=by
 unfold qA at h
 split at h
 ·rename_i h1;exact absurd h h1
 ·rename_i h1
  have h2:=(qpt (t:=t) (by omega)).1
  unfold Qk qlT at h2
  rw [if_neg (by omega),if_pos h3] at h2
  split at h2
  ·cases h2
  ·split at h2
   ·split at h2
    ·cases h2
    ·omega
   ·cases h2
theorem qul {l:List Pw} (hl:∀ p∈l,zb p.1=0) (h:(qac l).2=0):zb (qac l).1=0:=by
 by_cases hp:QC l=0
 ·rw [qm3 hp] at h ⊢
  unfold qkb at h ⊢
  by_cases h8:8<(zJ l++zQ l).length
  ·rw [if_pos h8] at h;cases h
  rw [if_neg h8] at h ⊢
  by_cases hv:qA (Jg (zJ l++zQ l))=0
  ·rw [if_neg (by omega)]
   have hall:∀ x∈zJ l++zQ l,zb x=0 := λ x hx=>by
    rcases List.mem_append.1 hx with hx | hx
    ·obtain ⟨p,hp,rfl⟩:=qyn hx
     exact hl p hp
    ·obtain ⟨p,hp,rfl⟩:=qyk hx
     exact qgW (qeJ (by decide) (by show (1:Int)≤1;decide) (by show (1:Int)≤1;decide) (qiq (by decide) (by decide) (by decide) _)) λ k hk=>by rw [List.mem_singleton.1 hk];exact hl p hp
   generalize zJ l++zQ l=o at *
   unfold Jg
   split
   ·exact qgW (qeJ (by decide) (by show (0:Int)≤0;decide) (by show (0:Int)≤0;decide) (qiq (by decide) (by decide) (by decide) _)) λ k hk=>by cases hk
   ·split
    ·exact qoJ (P := λ t=>zb t=0) qas hall
    ·rename_i h0 h1
     exact qgW (qeJ (by decide) (by show (2:Int)≤_;omega) (by show _≤(8:Int);omega) (qiq (by decide) (by decide) (by decide) _)) hall
  ·rw [if_pos hv] at h;exact absurd h hv
 ·unfold qac at h
  rw [if_pos hp] at h
  exact absurd h hp
theorem qxF {b:T} {l:List Pw} (hb:zb b=0) (hl:∀ p∈l,zb p.1=0) (h:(qgk b l).2=0):zb (qgk b l).1=0:=by
 unfold qgk at h ⊢
 split at h
 ·rename_i h0;rw [if_pos h0];exact hb
 ·rename_i h0
  rw [if_neg h0]
  split at h
  ·rename_i h1;exact absurd h h1
  ·rename_i h1
   rw [if_neg h1]
   refine qgW (qeJ (by decide) (by show (2:Int)≤2;decide) (by show (2:Int)≤2;decide) (qiq (by decide) (by decide) (by decide) _)) λ k hk=>?_
   rcases List.mem_cons.1 hk with rfl | hk
   ·exact hb
   ·rw [List.mem_singleton.1 hk];exact qul hl (by omega)
theorem qE9 {n:List UInt8} {ks:List T} (hks:∀ k∈ks,zb k=0) (hK:qbg (apT n ks)=0) (h0:(Jb (apT n ks)).2=0):zb (Jb (apT n ks)).1=0:=by
 have ht:zb (apT n ks)=0:=qgW hK hks
 unfold Jb at h0 ⊢
 by_cases hd:isD (apT n ks).name=true
 ·rw [if_pos hd]
  show zb (qhl _)=0
  unfold qhl
  split
  ·rename_i hf
   have hk0:(kid (apT n ks) 0).kind=3:=by
    unfold zN at hf
    split at hf
    ·exact (yr.1 hf).1
    ·split at hf
     ·rw [Bool.and_eq_true] at hf;exact (yr.1 hf.1).1
     ·split at hf
      ·rw [Bool.and_eq_true,Bool.and_eq_true] at hf;exact (yr.1 hf.1.1).1
      ·split at hf
       ·rw [Bool.and_eq_true,Bool.and_eq_true] at hf;exact (yr.1 hf.1.1).1
       ·split at hf
        ·exact (yr.1 hf).1
        ·cases hf
   exact J0 Je qas hk0 (J0 Je qas rfl ht 0) _
  ·exact ht
 rw [if_neg hd] at h0 ⊢
 by_cases hx:(apT n ks).name=qd4
 ·rw [if_pos hx] at h0 ⊢
  unfold qlQ at h0 ⊢
  split at h0
  ·rename_i h1;exact absurd h0 h1
  rename_i h1
  rw [if_neg h1]
  split at h0
  ·cases h0
  rename_i h2
  rw [if_neg h2]
  show zb (Jr (zD ks))=0
  have hv:qA (Jr (zD ks))=0:=by
   have:¬ qA (Jr (zD (apT n ks).kids))≠0:=h2
   exact Decidable.of_not_not this
  have hall:=qu1 Je hks
  generalize zD ks=o at *
  unfold Jr at hv ⊢
  split
  ·exact qgW (qeJ (by decide) (by show (0:Int)≤0;decide) (by show (0:Int)≤0;decide) (qiq (by decide) (by decide) (by decide) _)) λ k hk=>by cases hk
  ·rename_i g0
   split
   ·exact qoJ (P := λ t=>zb t=0) qas hall
   ·rename_i g1
    rw [if_neg g0,if_neg g1] at hv
    have hl8:o.length≤8:=qC9 (t:=apT qd4 o) rfl hv
    exact qgW (qeJ (by decide) (by show (2:Int)≤_;omega) (by show _≤(8:Int);omega) (qiq (by decide) (by decide) (by decide) _)) hall
 rw [if_neg hx] at h0 ⊢
 by_cases hm:(apT n ks).name=qfm∨(apT n ks).name=Qw∨(apT n ks).name=qho
 ·rw [if_pos hm] at h0 ⊢
  unfold qjU at h0 ⊢
  split at h0
  ·rename_i h1;exact absurd h0 h1
  rename_i h1
  rw [if_neg h1]
  exact qul (qhg Je ht) h0
 rw [if_neg hm] at h0 ⊢
 by_cases he:(apT n ks).name=qd6
 ·rw [if_pos he] at h0 ⊢
  have hb:=J0 Je qas (t:=apT n ks) rfl ht 0
  have hy:=J0 Je qas (t:=apT n ks) rfl ht 1
  generalize kid (apT n ks) 0=b at *
  generalize kid (apT n ks) 1=y at *
  unfold qma at h0 ⊢
  split at h0
  ·rename_i h1;exact absurd h0 h1
  rename_i h1
  rw [if_neg h1]
  split at h0
  ·rename_i hbe
   rw [if_pos hbe]
   split at h0
   ·rename_i h2;exact absurd h0 h2
   rename_i h2
   rw [if_neg h2]
   split at h0
   ·rename_i h3;exact absurd h0 h3
   rename_i h3
   rw [if_neg h3]
   have hb3:=(yr.1 hbe).1
   exact qxF (J0 Je qas hb3 hb 0) (qAO (P := λ t=>zb t=0) (qhg Je (J0 Je qas hb3 hb 1)) (qhg Je hy)) h0
  ·rename_i hbe
   rw [if_neg hbe]
   exact qxF hb (qhg Je hy) h0
 ·rw [if_neg he];exact ht
theorem qis:size zT=1:=by rw [qC];rfl
theorem J9 (t:T) (i:Nat):size (kid t i)≤size t:=by
 have:=size_pos t
 by_cases h:i<t.kids.length
 ·have:=jf t _ (qAp h);omega
 ·unfold kid
  rw [List.getD_eq_getElem?_getD,List.getElem?_eq_none (by omega)]
  show size zT≤_
  rw [qis];omega
theorem qyO (l:List Pw):size (qac l).1≤400:=by
 unfold qac
 have:=qis
 split
 ·show size zT≤_;omega
 ·split
  ·show size zT≤_;omega
  ·split
   ·show size zT≤_;omega
   ·rename_i h
    exact jN (Decidable.of_not_not h)
theorem qzX (b:T) (l:List Pw):size (qgk b l).1≤401+size b:=by
 unfold qgk
 have:=qis
 have:=qyO l
 split
 ·show size b≤_;omega
 ·split
  ·show size zT≤_;omega
  ·rw [qC];show 1+(size b+(size (qac l).1+0))≤_;omega
theorem qG0 (n:List UInt8) (ks:List T):size (Jb (apT n ks)).1≤402+szL ks:=by
 have hz:=qis
 have ht:size (apT n ks)=1+szL ks:=qC _
 unfold Jb
 split
 ·show size (qhl _)≤_
  unfold qhl
  split
  ·have h1:=J9 (apT n ks) 0
   have h2:=J9 (kid (apT n ks) 0) (if (apT n ks).name=qtq then 1 else 0)
   omega
  ·omega
 ·split
  ·unfold qlQ
   split
   ·show size zT≤_;omega
   ·split
    ·show size zT≤_;omega
    ·have h1:=qzS (zD (apT n ks).kids)
     have h2:=qc7 (apT n ks).kids
     have h3:szL (apT n ks).kids=szL ks:=rfl
     show size (Jr _)≤_
     omega
  ·split
   ·unfold qjU
    split
    ·show size zT≤_;omega
    ·have:=qyO (ofP (apT n ks)).1;omega
   ·split
    ·have h0:=J9 (apT n ks) 0
     generalize kid (apT n ks) 0=b at *
     generalize kid (apT n ks) 1=y at *
     unfold qma
     split
     ·show size zT≤_;omega
     ·split
      ·split
       ·show size zT≤_;omega
       ·split
        ·show size zT≤_;omega
        ·have h1:=qzX (kid b 0) (qiG (ofP (kid b 1)).1 (ofP y).1).1
         have h2:=J9 b 0
         omega
      ·have h1:=qzX b (ofP y).1
       omega
    ·show size (apT n ks)≤_;omega
theorem qsP (t:T):size (zw t).1≤402*size t:=by
 refine T.ind (P := λ t=>size (zw t).1≤402*size t) ?_ t
 intro t ih
 have hz:=qis
 have hp:=size_pos t
 rw [qkW]
 split
 ·show size t≤_;omega
 ·split
  ·show size zT≤_;omega
  ·have h1:=qG0 t.name ((t.kids.map zw).map (·.1))
   have h2:szL ((t.kids.map zw).map (·.1))≤402*szL t.kids:=by
    have:∀ l:List T,(∀ k∈l,k∈t.kids)→szL ((l.map zw).map (·.1))≤402*szL l:=by
     intro l
     induction l with
     | nil=>intro _;exact Nat.le_refl _
     | cons k l ihl =>
       intro h
       have h1:=ih k (h k (List.mem_cons_self ..))
       have h2:=ihl λ x hx=>h x (List.mem_cons_of_mem _ hx)
       rw [List.map_cons,List.map_cons,qJ,qJ];omega
    exact this t.kids λ _ h=>h
   have h3:size t=1+szL t.kids:=qC t
   omega
theorem qpi:∀ (l:List Int),l.foldl thn 0=0→∀ y∈l,y=0
 | [],_,y,hy=>by cases hy
 | z::l,h,y,hy=>by
   rw [jT] at h
   by_cases hz:z=0
   ·subst hz
    rcases List.mem_cons.1 hy with rfl | hy
    ·rfl
    ·exact qpi l h y hy
   ·rw [qI _ hz] at h;exact absurd h hz
theorem qgV {t:T} (h:t.kind≠3):zw t=(t,0):=by rw [qkW,if_pos h]
theorem qFa {t:T} (h3:t.kind=3) (h:(zw t).2=0):(∀ k∈t.kids,(zw k).2=0)∧zw t=Jb (apT t.name ((t.kids.map zw).map (·.1))):=by
 rw [qkW,if_neg (λ hh=>hh h3)] at h ⊢
 split at h
 ·rename_i h1;exact absurd h h1
 ·rename_i h1
  rw [if_neg h1]
  refine ⟨λ k hk=>?_,rfl⟩
  exact qpi _ (Decidable.of_not_not h1) _ (List.mem_map.2 ⟨_,List.mem_map.2 ⟨k,hk,rfl⟩,rfl⟩)
theorem qEK (l:List T) (h:∀ k∈l,k.kind≠3):(l.map zw).map (·.1)=l:=by
 induction l with
 | nil=>rfl
 | cons k l ih =>
   rw [List.map_cons,List.map_cons,qgV (h k (List.mem_cons_self ..)),ih λ x hx=>h x (List.mem_cons_of_mem _ hx)]
theorem qyr {t:T} (h3:t.kind=3) (h:qbg t=0):qbg (apT t.name ((t.kids.map zw).map (·.1)))=0:=by
 obtain ⟨h1,h2,h4,h5⟩:=qxO h3 h
 refine qeJ h1 (by simpa using h2) (by simpa using h4) ?_
 unfold JJ at h5 ⊢
 show (if t.name=qgD then decide ((kid (apT t.name ((t.kids.map zw).map (·.1))) 0).kind≠2) else if t.name=nSk∨t.name=qpw then ((t.kids.map zw).map (·.1)).any λ k=>decide (k.kind=3)||decide (k.sort≠1) else false)=false
 split
 ·rename_i hn
  rw [if_pos hn] at h5
  have hk:(kid t 0).kind=2:=by simpa using h5
  cases hl:t.kids with
  | nil =>
    unfold kid at hk
    rw [hl] at hk
    exact absurd hk (by decide)
  | cons x r =>
    have hx:kid t 0=x:=by unfold kid;rw [hl];rfl
    rw [hx] at hk
    show decide ((zw x).1.kind≠2)=false
    rw [qgV (by omega)]
    simpa using hk
 ·rename_i hn
  rw [if_neg hn] at h5
  split
  ·rename_i hs
   rw [if_pos hs] at h5
   rw [qEK t.kids λ k hk hk3=>?_]
   ·exact h5
   ·have:=List.any_eq_false.1 h5 k hk
    rw [hk3] at this
    exact this rfl
  ·rfl
theorem qE1 (t:T):zb t=0→(zw t).2=0→zb (zw t).1=0:=by
 refine T.ind (P := λ t=>zb t=0→(zw t).2=0→zb (zw t).1=0) ?_ t
 intro t ih hc h0
 by_cases h3:t.kind=3
 ·obtain ⟨h1,h2⟩:=qFa h3 h0
  obtain ⟨g1,g2⟩:=qe0 h3 hc
  rw [h2] at h0 ⊢
  refine qE9 (λ k hk=>?_) (qyr h3 g1) h0
  obtain ⟨q,hq,rfl⟩:=List.mem_map.1 hk
  obtain ⟨j,hj,rfl⟩:=List.mem_map.1 hq
  exact ih j hj (g2 j hj) (h1 j hj)
 ·rw [qgV h3];exact hc
end Go.AmYtbpnmbmdbblehaaGreat
namespace Go.AmYtbpnmbmdbblehaaGreat
open Go Go.GxYtbpnmbmdbblehaaGreat
theorem zk (t:T) {b:Bool} (h:zN t=b):qhl t=if b then kid (kid t 0) (if t.name=qtq then 1 else 0) else t:=by unfold qhl;rw [h]
theorem qbo {t:T} (h:zb t=0) {n:List UInt8} (hn:isN t n=true) {a b c:Int} (hs:qG n=(a,b,c)) {i:Nat} (hi:(i:Int)<a):qd t.kids (i:Int)=some (kid t i):=by
 have:=(qlC h hn hs).1
 exact qt0 (by omega)
theorem qA6 (t:T) (h3:t.kind=3) (hc:zb t=0) (hD:isD t.name=true) (hs:size t≤1000000000):Ev (λ m _=>JS m t) (qhl t):=by
 have hz:∀ i,size (kid t i)≤size t:=J9 t
 have hzz:∀ i j,size (kid (kid t i) j)≤1000000000 := λ i j=>by have:=J9 (kid t i) j;have:=hz i;omega
 have hzzz:∀ i j k,size (kid (kid (kid t i) j) k)≤1000000000 := λ i j k=>by have:=J9 (kid (kid t i) j) k;have:=hzz i j;omega
 have hck:∀ i,zb (kid t i)=0 := λ i=>J0 Je qas h3 hc i
 have hckk:∀ i j,(kid t i).kind=3→zb (kid (kid t i) j)=0 := λ i j h=>J0 Je qas h (hck i) j
 have isT:isN t t.name=true:=yr.2 ⟨h3,rfl⟩
 have k0:∀ {u:T} {n:List UInt8},zb u=0→isN u n=true→∀ {b c:Int},qG n=(1,b,c)→qd u.kids 0=some (kid u 0) := λ h hn _ _ e=>qbo (i:=0) h hn e (by decide)
 have k20:∀ {u:T} {n:List UInt8},zb u=0→isN u n=true→∀ {b c:Int},qG n=(2,b,c)→qd u.kids 0=some (kid u 0) := λ h hn _ _ e=>qbo (i:=0) h hn e (by decide)
 have k21:∀ {u:T} {n:List UInt8},zb u=0→isN u n=true→∀ {b c:Int},qG n=(2,b,c)→qd u.kids 1=some (kid u 1) := λ h hn _ _ e=>qbo (i:=1) h hn e (by decide)
 have sP:qG qlU=(2,2,1):=by decide
 have sE:qG qmf=(2,2,1):=by decide
 have sA:qG qgO=(2,2,1):=by decide
 have sK:qG nPk=(1,1,1):=by decide
 have sS:qG qdn=(2,2,1):=by decide
 unfold isD at hD
 simp only [Bool.or_eq_true,beq_iff_eq] at hD
 refine Ev.succ ?_
 simp only [qqO,qdZ,qe]
 have one:∀ {a b c:Int},qG t.name=(a,b,c)→a=b→(t.kids.length:Int)=a := λ e hab=>by
  have:=qlC hc isT e;omega
 rcases hD with ((((hn | hn) | hn) | hn) | hn) | hn
 ·have hl:=one (a:=1) (b:=1) (c:=3) (by rw [hn];decide) rfl
  refine Ev.some (qcG (by omega)) (Ev.cf (qv.2 (by omega)) (Ev.ct (by rw [hn];rfl) (Ev.bind (qhZ _ _) ?_)))
  have hf:zN t=isN (kid t 0) qlU:=by unfold zN;rw [if_pos (.inl hn)]
  refine Ev.ite (λ h=>?_) λ h=>?_
  ·refine Ev.some (k20 (hck 0) h sP) (Ev.ret ?_)
   rw [zk t (hf.trans h),if_pos rfl,if_neg (by rw [hn];decide)]
  ·refine Ev.ret ?_
   rw [zk t (hf.trans h),if_neg (by decide)]
 ·have hl:=one (a:=1) (b:=1) (c:=3) (by rw [hn];decide) rfl
  refine Ev.some (qcG (by omega)) (Ev.cf (qv.2 (by omega)) (Ev.cf (by rw [hn];rfl) (Ev.ct (by rw [hn];rfl) (Ev.bind (qhZ _ _) ?_))))
  have hf:zN t=isN (kid t 0) qlU:=by unfold zN;rw [if_pos (.inr hn)]
  refine Ev.ite (λ h=>?_) λ h=>?_
  ·refine Ev.some (k21 (hck 0) h sP) (Ev.ret ?_)
   rw [zk t (hf.trans h),if_pos rfl,if_pos hn]
  ·refine Ev.ret ?_
   rw [zk t (hf.trans h),if_neg (by decide)]
 ·have hl:=one (a:=2) (b:=2) (c:=3) (by rw [hn];decide) rfl
  refine Ev.some (qcG (by omega)) (Ev.ct (qu.2 (by omega)) (Ev.some (qoF (by omega)) (Ev.cf (by rw [hn];rfl) (Ev.cf (by rw [hn];rfl) (Ev.ct (by rw [hn];rfl) (Ev.bind (qhZ _ _) ?_))))))
  have hf:zN t=(isN (kid t 0) qmf&&yI (kid (kid t 0) 1) (kid t 1)):=by unfold zN;rw [if_neg (by rw [hn];decide),if_pos hn]
  refine Ev.ite (λ h=>?_) λ h=>?_
  ·refine Ev.some (k21 (hck 0) h sE) (Ev.bind (qli _ _ (hzz 0 1) (by have:=hz 1;omega)) (Ev.ite (λ h2=>?_) λ h2=>?_))
   ·refine Ev.some (k20 (hck 0) h sE) (Ev.ret ?_)
    rw [zk t (b:=true) (by rw [hf,show isN (kid t 0) qmf=true from h,h2];rfl),if_pos rfl,if_neg (by rw [hn];decide)]
   ·refine Ev.ret ?_
    rw [zk t (b:=false) (by rw [hf,h2,Bool.and_false]),if_neg (by decide)]
  ·refine Ev.ret ?_
   rw [zk t (b:=false) (by rw [hf,show isN (kid t 0) qmf=false from h];rfl),if_neg (by decide)]
 ·have hl:=one (a:=2) (b:=2) (c:=3) (by rw [hn];decide) rfl
  refine Ev.some (qcG (by omega)) (Ev.ct (qu.2 (by omega)) (Ev.some (qoF (by omega)) (Ev.cf (by rw [hn];rfl) (Ev.cf (by rw [hn];rfl) (Ev.cf (by rw [hn];rfl) (Ev.ct (by rw [hn];rfl) (Ev.bind (qhZ _ _) ?_)))))))
  have hf:zN t=(isN (kid t 0) qgO&&isN (kid (kid t 0) 1) nPk&&yI (kid (kid (kid t 0) 1) 0) (kid t 1)):=by unfold zN;rw [if_neg (by rw [hn];decide),if_neg (by rw [hn];decide),if_pos hn]
  refine Ev.ite (λ h=>?_) λ h=>?_
  ·have hk3:=(yr.1 h).1
   refine Ev.some (k21 (hck 0) h sA) (Ev.bind (qhZ _ _) (Ev.ite (λ h2=>?_) λ h2=>?_))
   ·refine Ev.some (k21 (hck 0) h sA) (Ev.some (k0 (hckk 0 1 hk3) h2 sK) (Ev.bind (qli _ _ (hzzz 0 1 0) (by have:=hz 1;omega)) (Ev.ite (λ h4=>?_) λ h4=>?_)))
    ·refine Ev.some (k20 (hck 0) h sA) (Ev.ret ?_)
     rw [zk t (b:=true) (by rw [hf,show isN (kid t 0) qgO=true from h,show isN (kid (kid t 0) 1) nPk=true from h2,h4];rfl),if_pos rfl,if_neg (by rw [hn];decide)]
    ·refine Ev.ret ?_
     rw [zk t (b:=false) (by rw [hf,h4,Bool.and_false]),if_neg (by decide)]
   ·refine Ev.ret ?_
    rw [zk t (b:=false) (by rw [hf,show isN (kid (kid t 0) 1) nPk=false from h2,Bool.and_false,Bool.false_and]),if_neg (by decide)]
  ·refine Ev.ret ?_
   rw [zk t (b:=false) (by rw [hf,show isN (kid t 0) qgO=false from h];rfl),if_neg (by decide)]
 ·have hl:=one (a:=2) (b:=2) (c:=3) (by rw [hn];decide) rfl
  refine Ev.some (qcG (by omega)) (Ev.ct (qu.2 (by omega)) (Ev.some (qoF (by omega)) (Ev.cf (by rw [hn];rfl) (Ev.cf (by rw [hn];rfl) (Ev.cf (by rw [hn];rfl) (Ev.cf (by rw [hn];rfl) (Ev.ct (by rw [hn];rfl) (Ev.bind (qhZ _ _) ?_))))))))
  have hf:zN t=(isN (kid t 0) qdn&&isN (kid t 1) nPk&&yI (kid (kid t 0) 1) (kid (kid t 1) 0)):=by unfold zN;rw [if_neg (by rw [hn];decide),if_neg (by rw [hn];decide),if_neg (by rw [hn];decide),if_pos hn]
  refine Ev.ite (λ h=>?_) λ h=>?_
  ·refine Ev.bind (qhZ _ _) (Ev.ite (λ h2=>?_) λ h2=>?_)
   ·refine Ev.some (k21 (hck 0) h sS) (Ev.some (k0 (hck 1) h2 sK) (Ev.bind (qli _ _ (hzz 0 1) (hzz 1 0)) (Ev.ite (λ h4=>?_) λ h4=>?_)))
    ·refine Ev.some (k20 (hck 0) h sS) (Ev.ret ?_)
     rw [zk t (b:=true) (by rw [hf,show isN (kid t 0) qdn=true from h,show isN (kid t 1) nPk=true from h2,h4];rfl),if_pos rfl,if_neg (by rw [hn];decide)]
    ·refine Ev.ret ?_
     rw [zk t (b:=false) (by rw [hf,h4,Bool.and_false]),if_neg (by decide)]
   ·refine Ev.ret ?_
    rw [zk t (b:=false) (by rw [hf,show isN (kid t 1) nPk=false from h2,Bool.and_false,Bool.false_and]),if_neg (by decide)]
  ·refine Ev.ret ?_
   rw [zk t (b:=false) (by rw [hf,show isN (kid t 0) qdn=false from h];rfl),if_neg (by decide)]
 ·have hl:=one (a:=1) (b:=1) (c:=3) (by rw [hn];decide) rfl
  refine Ev.some (qcG (by omega)) (Ev.cf (qv.2 (by omega)) (Ev.cf (by rw [hn];rfl) (Ev.cf (by rw [hn];rfl) (Ev.cf (by rw [hn];rfl) (Ev.cf (by rw [hn];rfl) (Ev.cf (by rw [hn];rfl) (Ev.ct (by rw [hn];rfl) (Ev.bind (qhZ _ _) ?_))))))))
  have hf:zN t=isN (kid t 0) qdn:=by unfold zN;rw [if_neg (by rw [hn];decide),if_neg (by rw [hn];decide),if_neg (by rw [hn];decide),if_neg (by rw [hn];decide),if_pos hn]
  refine Ev.ite (λ h=>?_) λ h=>?_
  ·refine Ev.some (k20 (hck 0) h sS) (Ev.ret ?_)
   rw [zk t (hf.trans h),if_pos rfl,if_neg (by rw [hn];decide)]
  ·refine Ev.ret ?_
   rw [zk t (hf.trans h),if_neg (by decide)]
end Go.AmYtbpnmbmdbblehaaGreat
namespace Go.AmYtbpnmbmdbblehaaGreat
open Go Go.GxYtbpnmbmdbblehaaGreat
noncomputable def qdU:T→Prop:=T.para λ t rs=>(t.kind=3→t.sort=0)∧∀ p∈rs,p
theorem qk2 (t:T):qdU t↔(t.kind=3→t.sort=0)∧∀ k∈t.kids,qdU k:=by
 have h:qdU t=((t.kind=3→t.sort=0)∧∀ p∈t.kids.map qdU,p):=T.para_eq _ _
 rw [h]
 refine and_congr_right λ _=>⟨λ h k hk=>h _ (List.mem_map_of_mem hk),λ h p hp=>?_⟩
 obtain ⟨k,hk,rfl⟩:=List.mem_map.1 hp
 exact h k hk
theorem qnw:Cl qdU := λ t _ h=>((qk2 t).1 h).2
theorem qyR:qdU zT:=(qk2 zT).2 ⟨λ h=>absurd h (by decide),λ _ h=>by cases h⟩
theorem qAI (n:List UInt8) (ks:List T) (h:∀ k∈ks,qdU k):qdU (apT n ks):=(qk2 _).2 ⟨λ _=>rfl,h⟩
theorem qBD {t:T} (h3:t.kind=3) (h:Qk t=0):t.sort=0:=by
 unfold Qk qlT at h
 rw [if_neg (by omega),if_pos h3] at h
 split at h
 ·cases h
 ·omega
theorem qDr (t:T):Jw t=0→qdU t:=by
 refine T.ind (P := λ t=>Jw t=0→qdU t) ?_ t
 intro t ih h
 obtain ⟨h1,h2⟩:=qpt h
 exact (qk2 t).2 ⟨λ h3=>qBD h3 h1,λ k hk=>ih k hk (h2 k hk)⟩
theorem qzl {t:T} (h:qA t=0):Jw t=0:=by
 unfold qA at h
 split at h
 ·rename_i h1;exact absurd h h1
 ·rename_i h1;exact Decidable.of_not_not h1
theorem qG2 {P:T→Prop} (hP:Cl P) (hz:P zT) (hap:∀ n ks,(∀ k∈ks,P k)→P (apT n ks)) {n:List UInt8} {ks:List T} (hks:∀ k∈ks,P k):P (Jb (apT n ks)).1:=by
 have ht:=hap n ks hks
 have hkid:∀ {t:T} (i:Nat),P t→t.kind=3→P (kid t i) := λ i h h3=>J0 hP hz h3 h i
 have hterm:∀ l:List Pw,(∀ p∈l,P p.1)→P (qac l).1:=by
  intro l hl
  unfold qac
  split
  ·exact hz
  ·split
   ·exact hz
   ·split
    ·exact hz
    ·have hall:∀ x∈zJ l++zQ l,P x := λ x hx=>by
       rcases List.mem_append.1 hx with hx | hx
       ·obtain ⟨p,hp,rfl⟩:=qyn hx
        exact hl p hp
       ·obtain ⟨p,hp,rfl⟩:=qyk hx
        exact hap _ _ λ k hk=>by rw [List.mem_singleton.1 hk];exact hl p hp
     show P (Jg _)
     generalize zJ l++zQ l=o at *
     unfold Jg
     split
     ·exact hap _ _ λ k hk=>by cases hk
     ·split
      ·exact qoJ hz hall
      ·exact hap _ _ hall
 have hexp:∀ (b:T) (l:List Pw),P b→(∀ p∈l,P p.1)→P (qgk b l).1:=by
  intro b l hb hl
  unfold qgk
  split
  ·exact hb
  ·split
   ·exact hz
   ·refine hap _ _ λ k hk=>?_
    rcases List.mem_cons.1 hk with rfl | hk
    ·exact hb
    ·rw [List.mem_singleton.1 hk];exact hterm l hl
 unfold Jb
 split
 ·show P (qhl _)
  unfold qhl
  split
  ·rename_i hf
   have hk0:(kid (apT n ks) 0).kind=3:=by
    unfold zN at hf
    split at hf
    ·exact (yr.1 hf).1
    ·split at hf
     ·rw [Bool.and_eq_true] at hf;exact (yr.1 hf.1).1
     ·split at hf
      ·rw [Bool.and_eq_true,Bool.and_eq_true] at hf;exact (yr.1 hf.1.1).1
      ·split at hf
       ·rw [Bool.and_eq_true,Bool.and_eq_true] at hf;exact (yr.1 hf.1.1).1
       ·split at hf
        ·exact (yr.1 hf).1
        ·cases hf
   exact hkid _ (hkid 0 ht rfl) hk0
  ·exact ht
 ·split
  ·unfold qlQ
   split
   ·exact hz
   ·split
    ·exact hz
    ·have hall:=qu1 hP hks
     show P (Jr (zD ks))
     generalize zD ks=o at *
     unfold Jr
     split
     ·exact hap _ _ λ k hk=>by cases hk
     ·split
      ·exact qoJ hz hall
      ·exact hap _ _ hall
  ·split
   ·unfold qjU
    split
    ·exact hz
    ·exact hterm _ (qhg hP ht)
   ·split
    ·have hb:=hkid (t:=apT n ks) 0 ht rfl
     have hy:=hkid (t:=apT n ks) 1 ht rfl
     generalize kid (apT n ks) 0=b at *
     generalize kid (apT n ks) 1=y at *
     unfold qma
     split
     ·exact hz
     ·split
      ·rename_i hbe
       have hb3:=(yr.1 hbe).1
       split
       ·exact hz
       ·split
        ·exact hz
        ·exact hexp _ _ (hkid 0 hb hb3) (qAO (qhg hP (hkid 1 hb hb3)) (qhg hP hy))
      ·exact hexp _ _ hb (qhg hP hy)
    ·exact ht
theorem qHp {P:T→Prop} (hP:Cl P) (hz:P zT) (hap:∀ n ks,(∀ k∈ks,P k)→P (apT n ks)) (t:T):P t→P (zw t).1:=by
 refine T.ind (P := λ t=>P t→P (zw t).1) ?_ t
 intro t ih h
 rw [qkW]
 split
 ·exact h
 ·rename_i h3
  split
  ·exact hz
  ·refine qG2 hP hz hap λ k hk=>?_
   obtain ⟨q,hq,rfl⟩:=List.mem_map.1 hk
   obtain ⟨j,hj,rfl⟩:=List.mem_map.1 hq
   exact ih j hj (hP t (Decidable.of_not_not h3) h j hj)
theorem qz1 {u x:T} (hc:zb u=0) (hs:qdU u):yI u (apT nPk [x])=(isN u nPk&&yI (kid u 0) x):=by
 rw [Bool.eq_iff_iff,Bool.and_eq_true,Q9,Q9]
 constructor
 ·rintro rfl
  exact ⟨yr.2 ⟨rfl,rfl⟩,rfl⟩
 ·rintro ⟨h1,h2⟩
  obtain ⟨h3,hn⟩:=yr.1 h1
  have har:=qlC hc h1 (a:=1) (b:=1) (c:=1) (by decide)
  have hso:=((qk2 u).1 hs).1 h3
  cases u with
  | mk k n so ks =>
    have h3:k=3:=h3
    have hn:n=nPk:=hn
    have hso:so=0:=hso
    have hl:ks.length=1:=by
     have h1:(1:Int)≤(ks.length:Int):=har.1
     have h2:(ks.length:Int)≤1:=har.2.1
     omega
    cases ks with
    | nil=>cases hl
    | cons y r =>
      cases r with
      | nil =>
        have:y=x:=h2
        subst h3;subst hn;subst hso;subst this;rfl
      | cons z r=>simp at hl
theorem qq4 (a b:T):yI a b=yI b a:=by
 rw [Bool.eq_iff_iff,Q9,Q9];exact eq_comm
theorem qy4 (t:T) (h3:t.kind=3) (hc:zb t=0) (hso:qdU t) (hD:isD t.name=true) (hs:size t≤900000000):Ev (λ m _=>qb6 m t) (qhl t,zN t):=by
 have hz:∀ i,size (kid t i)≤size t:=J9 t
 have hzz:∀ i j,size (kid (kid t i) j)≤900000000 := λ i j=>by have:=J9 (kid t i) j;have:=hz i;omega
 have hck:∀ i,zb (kid t i)=0 := λ i=>J0 Je qas h3 hc i
 have hckk:∀ i j,(kid t i).kind=3→zb (kid (kid t i) j)=0 := λ i j h=>J0 Je qas h (hck i) j
 have hsk:∀ i,qdU (kid t i) := λ i=>J0 qnw qyR h3 hso i
 have hskk:∀ i j,(kid t i).kind=3→qdU (kid (kid t i) j) := λ i j h=>J0 qnw qyR h (hsk i) j
 have isT:isN t t.name=true:=yr.2 ⟨h3,rfl⟩
 have k20:∀ {u:T} {n:List UInt8},zb u=0→isN u n=true→∀ {b c:Int},qG n=(2,b,c)→qd u.kids 0=some (kid u 0) := λ h hn _ _ e=>qbo (i:=0) h hn e (by decide)
 have k21:∀ {u:T} {n:List UInt8},zb u=0→isN u n=true→∀ {b c:Int},qG n=(2,b,c)→qd u.kids 1=some (kid u 1) := λ h hn _ _ e=>qbo (i:=1) h hn e (by decide)
 have sP:qG qlU=(2,2,1):=by decide
 have sE:qG qmf=(2,2,1):=by decide
 have sA:qG qgO=(2,2,1):=by decide
 have sS:qG qdn=(2,2,1):=by decide
 unfold isD at hD
 simp only [Bool.or_eq_true,beq_iff_eq] at hD
 refine Ev.succ ?_
 simp only [qr1,qeO,qe]
 have one:∀ {a b c:Int},qG t.name=(a,b,c)→a=b→(t.kids.length:Int)=a := λ e hab=>by
  have:=qlC hc isT e;omega
 have size_pk:∀ x:T,size (apT nPk [x])=1+size x := λ x=>by rw [qC];show 1+(size x+0)=_;omega
 rcases hD with ((((hn | hn) | hn) | hn) | hn) | hn
 ·have hl:=one (a:=1) (b:=1) (c:=3) (by rw [hn];decide) rfl
  refine Ev.some (qcG (by omega)) (Ev.ct (by rw [hn];rfl) (Ev.bind (qjf _ _) ?_))
  have hf:zN t=isN (kid t 0) qlU:=by unfold zN;rw [if_pos (.inl hn)]
  refine Ev.ite (λ h=>?_) λ h=>?_
  ·refine Ev.some (k20 (hck 0) h sP) (Ev.ret ?_)
   rw [zk t (hf.trans h),if_pos rfl,if_neg (by rw [hn];decide),hf.trans h]
  ·repeat (refine Ev.cf (by rw [hn];rfl) ?_)
   refine Ev.ret ?_
   rw [zk t (hf.trans h),if_neg (by decide),hf.trans h]
 ·have hl:=one (a:=1) (b:=1) (c:=3) (by rw [hn];decide) rfl
  refine Ev.some (qcG (by omega)) (Ev.cf (by rw [hn];rfl) (Ev.ct (by rw [hn];rfl) (Ev.bind (qjf _ _) ?_)))
  have hf:zN t=isN (kid t 0) qlU:=by unfold zN;rw [if_pos (.inr hn)]
  refine Ev.ite (λ h=>?_) λ h=>?_
  ·refine Ev.some (k21 (hck 0) h sP) (Ev.ret ?_)
   rw [zk t (hf.trans h),if_pos rfl,if_pos hn,hf.trans h]
  ·repeat (refine Ev.cf (by rw [hn];rfl) ?_)
   refine Ev.ret ?_
   rw [zk t (hf.trans h),if_neg (by decide),hf.trans h]
 ·have hl:=one (a:=2) (b:=2) (c:=3) (by rw [hn];decide) rfl
  refine Ev.some (qcG (by omega)) (Ev.cf (by rw [hn];rfl) (Ev.cf (by rw [hn];rfl) (Ev.ct (by rw [hn];rfl) (Ev.bind (qjf _ _) ?_))))
  have hf:zN t=(isN (kid t 0) qmf&&yI (kid (kid t 0) 1) (kid t 1)):=by unfold zN;rw [if_neg (by rw [hn];decide),if_pos hn]
  refine Ev.ite (λ h=>?_) λ h=>?_
  ·refine Ev.some (k21 (hck 0) h sE) (Ev.some (qoF (by omega)) (Ev.bind (qb0 _ _ (by have:=hzz 0 1;omega) (by have:=hz 1;omega)) (Ev.ite (λ h2=>?_) λ h2=>?_)))
   ·have hb:zN t=true:=by rw [hf,show isN (kid t 0) qmf=true from h,h2];rfl
    refine Ev.some (k20 (hck 0) h sE) (Ev.ret ?_)
    rw [zk t hb,if_pos rfl,if_neg (by rw [hn];decide),hb]
   ·have hb:zN t=false:=by rw [hf,h2,Bool.and_false]
    repeat (refine Ev.cf (by rw [hn];rfl) ?_)
    refine Ev.ret ?_
    rw [zk t hb,if_neg (by decide),hb]
  ·have hb:zN t=false:=by rw [hf,show isN (kid t 0) qmf=false from h];rfl
   repeat (refine Ev.cf (by rw [hn];rfl) ?_)
   refine Ev.ret ?_
   rw [zk t hb,if_neg (by decide),hb]
 ·have hl:=one (a:=2) (b:=2) (c:=3) (by rw [hn];decide) rfl
  refine Ev.some (qcG (by omega)) (Ev.cf (by rw [hn];rfl) (Ev.cf (by rw [hn];rfl) (Ev.cf (by rw [hn];rfl) (Ev.ct (by rw [hn];rfl) (Ev.bind (qjf _ _) ?_)))))
  have hf:zN t=(isN (kid t 0) qgO&&isN (kid (kid t 0) 1) nPk&&yI (kid (kid (kid t 0) 1) 0) (kid t 1)):=by unfold zN;rw [if_neg (by rw [hn];decide),if_neg (by rw [hn];decide),if_pos hn]
  refine Ev.ite (λ h=>?_) λ h=>?_
  ·have hk3:=(yr.1 h).1
   refine Ev.some (k21 (hck 0) h sA) (Ev.some (qoF (by omega)) (Ev.bind (qbl nPk [kid t 1] (by simp)) (Ev.bind (qb0 _ _ (by have:=hzz 0 1;omega) (by rw [size_pk];have:=hz 1;omega)) ?_)))
   rw [qz1 (hckk 0 1 hk3) (hskk 0 1 hk3)]
   refine Ev.ite (λ h2=>?_) λ h2=>?_
   ·have hb:zN t=true:=by rw [hf,show isN (kid t 0) qgO=true from h,Bool.true_and,h2]
    refine Ev.some (k20 (hck 0) h sA) (Ev.ret ?_)
    rw [zk t hb,if_pos rfl,if_neg (by rw [hn];decide),hb]
   ·have hb:zN t=false:=by rw [hf,show isN (kid t 0) qgO=true from h,Bool.true_and,h2]
    repeat (refine Ev.cf (by rw [hn];rfl) ?_)
    refine Ev.ret ?_
    rw [zk t hb,if_neg (by decide),hb]
  ·have hb:zN t=false:=by rw [hf,show isN (kid t 0) qgO=false from h];rfl
   repeat (refine Ev.cf (by rw [hn];rfl) ?_)
   refine Ev.ret ?_
   rw [zk t hb,if_neg (by decide),hb]
 ·have hl:=one (a:=2) (b:=2) (c:=3) (by rw [hn];decide) rfl
  refine Ev.some (qcG (by omega)) (Ev.cf (by rw [hn];rfl) (Ev.cf (by rw [hn];rfl) (Ev.cf (by rw [hn];rfl) (Ev.cf (by rw [hn];rfl) (Ev.ct (by rw [hn];rfl) (Ev.bind (qjf _ _) ?_))))))
  have hf:zN t=(isN (kid t 0) qdn&&isN (kid t 1) nPk&&yI (kid (kid t 0) 1) (kid (kid t 1) 0)):=by unfold zN;rw [if_neg (by rw [hn];decide),if_neg (by rw [hn];decide),if_neg (by rw [hn];decide),if_pos hn]
  refine Ev.ite (λ h=>?_) λ h=>?_
  ·refine Ev.some (qoF (by omega)) (Ev.some (k21 (hck 0) h sS) (Ev.bind (qbl nPk [kid (kid t 0) 1] (by simp)) (Ev.bind (qb0 _ _ (by have:=hz 1;omega) (by rw [size_pk];have:=hzz 0 1;omega)) ?_)))
   rw [qz1 (hck 1) (hsk 1),qq4 (kid (kid t 1) 0)]
   refine Ev.ite (λ h2=>?_) λ h2=>?_
   ·have hb:zN t=true:=by rw [hf,show isN (kid t 0) qdn=true from h,Bool.true_and,h2]
    refine Ev.some (k20 (hck 0) h sS) (Ev.ret ?_)
    rw [zk t hb,if_pos rfl,if_neg (by rw [hn];decide),hb]
   ·have hb:zN t=false:=by rw [hf,show isN (kid t 0) qdn=true from h,Bool.true_and,h2]
    repeat (refine Ev.cf (by rw [hn];rfl) ?_)
    refine Ev.ret ?_
    rw [zk t hb,if_neg (by decide),hb]
  ·have hb:zN t=false:=by rw [hf,show isN (kid t 0) qdn=false from h];rfl
   repeat (refine Ev.cf (by rw [hn];rfl) ?_)
   refine Ev.ret ?_
   rw [zk t hb,if_neg (by decide),hb]
 ·have hl:=one (a:=1) (b:=1) (c:=3) (by rw [hn];decide) rfl
  refine Ev.some (qcG (by omega)) (Ev.cf (by rw [hn];rfl) (Ev.cf (by rw [hn];rfl) (Ev.cf (by rw [hn];rfl) (Ev.cf (by rw [hn];rfl) (Ev.cf (by rw [hn];rfl) (Ev.ct (by rw [hn];rfl) (Ev.bind (qjf _ _) ?_)))))))
  have hf:zN t=isN (kid t 0) qdn:=by unfold zN;rw [if_neg (by rw [hn];decide),if_neg (by rw [hn];decide),if_neg (by rw [hn];decide),if_neg (by rw [hn];decide),if_pos hn]
  refine Ev.ite (λ h=>?_) λ h=>?_
  ·refine Ev.some (k20 (hck 0) h sS) (Ev.ret ?_)
   rw [zk t (hf.trans h),if_pos rfl,if_neg (by rw [hn];decide),hf.trans h]
  ·repeat (refine Ev.cf (by rw [hn];rfl) ?_)
   refine Ev.ret ?_
   rw [zk t (hf.trans h),if_neg (by decide),hf.trans h]
end Go.AmYtbpnmbmdbblehaaGreat
namespace Go.AmYtbpnmbmdbblehaaGreat
open Go Go.GxYtbpnmbmdbblehaaGreat
theorem qg8 (t:T):szP (ofP t).1≤400:=by
 unfold ofP
 split
 ·exact Nat.zero_le _
 ·rename_i h
  split
  ·exact Nat.zero_le _
  ·split
   ·exact Nat.zero_le _
   ·have h1:=qAd t [] 1
    have h2:=jN (Decidable.of_not_not h)
    have h3:szP ([]:List Pw)=0:=rfl
    show szP (yR t [] 1)≤_
    omega
theorem qAQ (a b:List Pw):szP (qiG a b).1≤160000:=by
 unfold qiG
 split
 ·exact Nat.zero_le _
 ·rename_i h1
  split
  ·exact Nat.zero_le _
  ·rename_i h2
   split
   ·exact Nat.zero_le _
   ·split
    ·exact Nat.zero_le _
    ·obtain ⟨_,_,h,_⟩:=qf2 (Decidable.of_not_not h1) (Decidable.of_not_not h2) b.length
     rw [List.take_length] at h
     exact h
theorem qEI (b e:T) (hb:zb b=0) (hsb:size b≤1000000000) (hse:size e≤1000000000):Ev (λ m _=>qcP m b e) (qma b e):=by
 refine Ev.succ ?_
 simp only [qtr,qe8,qe]
 have fin:∀ (l:List Pw) (x:T),szP l≤1000000000→Ev (λ m _=>cond (ieq (l.length:Int) 0) (some (x,(0:Int))) (qa (jE m l) λ v=>cond (qc (ieq v.2 0)) (some (T.mk 0 [] 0 [],v.2)) (qa (qdk m [101,120,112] [x,v.1]) λ w=>some (w,0)))) (qgk x l):=by
  intro l x hl
  unfold qgk
  refine Ev.ite (λ h=>?_) λ h=>?_
  ·rw [qi] at h
   rw [if_pos (by omega)];exact Ev.pure _
  ·rw [qg] at h
   rw [if_neg (by omega)]
   refine Ev.bind (qyM l hl) (Ev.ite (λ h=>?_) λ h=>?_)
   ·rw [bnt,qg] at h
    rw [if_pos h];exact Ev.pure _
   ·rw [bnf,qi] at h
    rw [if_neg (by omega)]
    exact Ev.bind (qHR _ _) (Ev.pure _)
 unfold qma
 refine Ev.bind (qx7 e hse) (Ev.ite (λ h=>?_) λ h=>?_)
 ·rw [bnt,qg] at h
  rw [if_pos h];exact Ev.pure _
 rw [bnf,qi] at h
 rw [if_neg (by omega)]
 refine Ev.bind (qhZ _ _) (Ev.ite (λ hx=>?_) λ hx=>?_)
 ·rw [if_pos (show isN b qd6=true from hx)]
  have h1:=J9 b 1
  refine Ev.some (qbo (i:=1) hb hx (a:=2) (b:=2) (c:=1) (by decide) (by decide)) (Ev.bind (qx7 _ (by omega)) (Ev.ite (λ h2=>?_) λ h2=>?_))
  ·rw [bnt,qg] at h2
   rw [if_pos h2];exact Ev.pure _
  rw [bnf,qi] at h2
  rw [if_neg (by omega)]
  have h3:=qg8 (kid b 1)
  have h4:=qg8 e
  have h5:=qAQ (ofP (kid b 1)).1 (ofP e).1
  refine Ev.bind (qHs _ _ (by omega) (by omega)) (Ev.ite (λ h2=>?_) λ h2=>?_)
  ·rw [bnt,qg] at h2
   rw [if_pos h2];exact Ev.pure _
  rw [bnf,qi] at h2
  rw [if_neg (by omega)]
  exact Ev.some (qbo (i:=0) hb hx (a:=2) (b:=2) (c:=1) (by decide) (by decide)) (fin _ _ (by omega))
 ·rw [if_neg (by rw [show isN b qd6=false from hx];decide)]
  have h4:=qg8 e
  exact fin _ _ (by omega)
theorem qEJ (b e:T) (hb:zb b=0) (hsb:size b≤1000000000) (hse:size e≤1000000000):Ev (λ m _=>qeg m b e) (qma b e):=by
 refine Ev.succ ?_
 simp only [qvZ,qf9,qe]
 have fin:∀ (l:List Pw) (x:T),szP l≤1000000000→Ev (λ m _=>cond (ieq (l.length:Int) 0) (some (x,(0:Int))) (qa (qaG m l) λ v=>cond (qc (ieq v.2 0)) (some (T.mk 0 [] 0 [],v.2)) (qa (yu m [101,120,112] [x,v.1]) λ w=>some (w,0)))) (qgk x l):=by
  intro l x hl
  unfold qgk
  refine Ev.ite (λ h=>?_) λ h=>?_
  ·rw [qi] at h
   rw [if_pos (by omega)];exact Ev.pure _
  ·rw [qg] at h
   rw [if_neg (by omega)]
   refine Ev.bind (qxh l hl) (Ev.ite (λ h=>?_) λ h=>?_)
   ·rw [bnt,qg] at h
    rw [if_pos h];exact Ev.pure _
   ·rw [bnf,qi] at h
    rw [if_neg (by omega)]
    exact Ev.bind (qbl _ _ (by simp)) (Ev.pure _)
 unfold qma
 refine Ev.bind (qyl e hse) (Ev.ite (λ h=>?_) λ h=>?_)
 ·rw [bnt,qg] at h
  rw [if_pos h];exact Ev.pure _
 rw [bnf,qi] at h
 rw [if_neg (by omega)]
 refine Ev.bind (qjf _ _) (Ev.ite (λ hx=>?_) λ hx=>?_)
 ·rw [if_pos (show isN b qd6=true from hx)]
  have h1:=J9 b 1
  refine Ev.some (qbo (i:=1) hb hx (a:=2) (b:=2) (c:=1) (by decide) (by decide)) (Ev.bind (qyl _ (by omega)) (Ev.ite (λ h2=>?_) λ h2=>?_))
  ·rw [bnt,qg] at h2
   rw [if_pos h2];exact Ev.pure _
  rw [bnf,qi] at h2
  rw [if_neg (by omega)]
  have h3:=qg8 (kid b 1)
  have h4:=qg8 e
  have h5:=qAQ (ofP (kid b 1)).1 (ofP e).1
  refine Ev.bind (qGS _ _ (by omega) (by omega)) (Ev.ite (λ h2=>?_) λ h2=>?_)
  ·rw [bnt,qg] at h2
   rw [if_pos h2];exact Ev.pure _
  rw [bnf,qi] at h2
  rw [if_neg (by omega)]
  exact Ev.some (qbo (i:=0) hb hx (a:=2) (b:=2) (c:=1) (by decide) (by decide)) (fin _ _ (by omega))
 ·rw [if_neg (by rw [show isN b qd6=false from hx];decide)]
  have h4:=qg8 e
  exact fin _ _ (by omega)
theorem qw1 {t:T} (h:isD t.name=true):Jb t=(qhl t,0):=by unfold Jb;rw [if_pos h]
theorem qx9 {t:T} (h:t.name=qd4):Jb t=qlQ t.kids:=by unfold Jb;rw [if_neg (by rw [h];decide),if_pos h]
theorem qxy {t:T} (h:t.name=qfm∨t.name=Qw∨t.name=qho):Jb t=qjU t:=by
 unfold Jb
 rw [if_neg (by rcases h with h | h | h<;>rw [h]<;>decide),if_neg (by rcases h with h | h | h<;>rw [h]<;>decide),if_pos h]
theorem qwQ {t:T} (h:t.name=qd6):Jb t=qma (kid t 0) (kid t 1):=by
 unfold Jb
 rw [if_neg (by rw [h];decide),if_neg (by rw [h];decide),if_neg (by rw [h];decide),if_pos h]
theorem quH {t:T} (h1:isD t.name=false) (h2:t.name≠qd4) (h3:¬ (t.name=qfm∨t.name=Qw∨t.name=qho)) (h4:t.name≠qd6):Jb t=(t,0):=by
 unfold Jb
 rw [if_neg (by rw [h1];decide),if_neg h2,if_neg h3,if_neg h4]
theorem qCo (n:List UInt8):(qG n).2.2=3↔isD n=true:=by
 constructor
 ·intro h
  rcases qrb n with h1 | ⟨r,hr,hn,h1⟩
  ·rw [qsK h1] at h;cases h
  ·rw [qmb h1] at h
   have:jr.all (λ r => !decide (r.2.2.2=3)||isD r.1)=true:=by decide
   have:=List.all_eq_true.1 this r hr
   rw [decide_eq_true h] at this
   rw [← hn];exact this
 ·intro h
  unfold isD at h
  simp only [Bool.or_eq_true,beq_iff_eq] at h
  rcases h with ((((hn | hn) | hn) | hn) | hn) | hn<;>rw [hn]<;>decide
noncomputable def nks (l:List T):List T:=(l.map zw).map (·.1)
theorem qoA (l:List T):(nks l).length=l.length:=by unfold nks;simp
theorem qC0 (l:List T):szL (nks l)≤402*szL l:=by
 induction l with
 | nil=>exact Nat.le_refl _
 | cons k l ih =>
   have:=qsP k
   show szL ((zw k).1::nks l)≤_
   rw [qJ,qJ];omega
theorem qxb {l:List T} {i:Nat} {x:T} (h:l[i]? = some x):nks (l.take (i+1))=nks (l.take i)++[(zw x).1]:=by
 unfold nks
 rw [zP h,List.map_append,List.map_append];rfl
noncomputable def erN (l:List T):Int:=((l.map zw).map (·.2)).foldl thn 0
theorem qyX {l:List T} {i:Nat} {x:T} (h:l.drop i=x::l.drop (i+1)):erN (l.drop i)=if (zw x).2≠0 then (zw x).2 else erN (l.drop (i+1)):=by
 unfold erN
 rw [h,List.map_cons,List.map_cons]
 by_cases hx:(zw x).2=0
 ·rw [if_neg (by omega),hx];rfl
 ·rw [if_pos hx];exact qI _ hx
theorem qzU {t:T} (h3:t.kind=3):zw t=if erN t.kids≠0 then (zT,erN t.kids) else Jb (apT t.name (nks t.kids)):=by rw [qkW,if_neg (λ h=>h h3)];rfl
theorem qzK {t:T} (h3:t.kind=3) (hc:zb t=0) (he:∀ k∈t.kids,(zw k).2=0):zb (apT t.name (nks t.kids))=0∧∀ k∈nks t.kids,zb k=0:=by
 obtain ⟨g1,g2⟩:=qe0 h3 hc
 have hk:∀ k∈nks t.kids,zb k=0 := λ k hk=>by
  obtain ⟨q,hq,rfl⟩:=List.mem_map.1 hk
  obtain ⟨j,hj,rfl⟩:=List.mem_map.1 hq
  exact qE1 j (g2 j hj) (he j hj)
 exact ⟨qgW (qyr h3 g1) hk,hk⟩
theorem qCp (t:T):size t≤2000→zb t=0→Ev (λ m _=>zM m t) (zw t):=by
 induction t using T.ind with
 | h t ih =>
   intro hs hc
   have hl:=yG t
   have hz:=qC t
   refine Ev.succ ?_
   simp only [qrK,qbB,qe]
   by_cases h3:t.kind=3
   rotate_left
   ·refine Ev.ct (bnt.2 (qg.2 h3)) (Ev.ret (qgV h3).symm)
   refine Ev.cf (bnf.2 (qi.2 h3)) ?_
   rw [qzU h3]
   have hck:=(qe0 h3 hc).2
   have key:=qr (P := λ i=>(∀ k∈t.kids.take i,(zw k).2=0)→Ev (λ m k=>Qe m (zM m) k t.kids t.kids.length i t.kind t.name t.sort t.kids 0 [] 0 3 t.name 0 [] (nks (t.kids.take i))) (if erN (t.kids.drop i)≠0 then (zT,erN (t.kids.drop i)) else Jb (apT t.name (nks t.kids)))) t.kids (by omega)
    (λ hlen he=>by
     refine Ev.loop ?_
     simp only [qiM,qbM,qe]
     refine Ev.cf hlen ?_
     rw [List.take_length] at he ⊢
     rw [List.drop_length,if_neg (show ¬ erN []≠0 from λ h=>h rfl)]
     obtain ⟨c1,c2⟩:=qzK h3 hc he
     have s1:=qC0 t.kids
     have s2:szL t.kids+1=size t:=by unfold szL;omega
     have hnl:=qoA t.kids
     generalize nks t.kids=ks at *
     have hu:T.mk 3 t.name 0 ks=apT t.name ks:=rfl
     rw [hu]
     have su:size (apT t.name ks)=1+szL ks:=qC _
     have des:isD t.name=true→Ev (λ m _=>qa (JS m (apT t.name ks)) λ v=>some (v,(0:Int))) (Jb (apT t.name ks)) := λ hd=>by
      rw [qw1 (show isD (apT t.name ks).name=true from hd)]
      exact Ev.bind (qA6 _ rfl c1 hd (by omega)) (Ev.pure _)
     have prod:t.name=qfm∨t.name=Qw∨t.name=qho→Ev (λ m _=>qa (JO m (apT t.name ks)) λ v=>cond (qc (ieq v.2 0)) (some (T.mk 0 [] 0 [],v.2)) (qa (jE m v.1) λ w=>some (w.1,w.2))) (Jb (apT t.name ks)) := λ hm=>by
      rw [qxy (show (apT t.name ks).name=qfm∨(apT t.name ks).name=Qw∨(apT t.name ks).name=qho from hm)]
      unfold qjU
      have h4:=qg8 (apT t.name ks)
      refine Ev.bind (qx7 _ (by omega)) (Ev.ite (λ h=>?_) λ h=>?_)
      ·rw [bnt,qg] at h
       rw [if_pos h];exact Ev.pure _
      ·rw [bnf,qi] at h
       rw [if_neg (by omega)]
       exact Ev.bind (qyM _ (by omega)) (Ev.pure _)
     refine Ev.ite (λ h=>des (by rw [y8.1 h];decide)) λ h1=>?_
     refine Ev.ite (λ h=>des (by rw [y8.1 h];decide)) λ h2=>?_
     refine Ev.ite (λ h=>des (by rw [y8.1 h];decide)) λ h3'=>?_
     refine Ev.ite (λ h=>des (by rw [y8.1 h];decide)) λ h4=>?_
     refine Ev.ite (λ h=>des (by rw [y8.1 h];decide)) λ h5=>?_
     refine Ev.ite (λ h=>des (by rw [y8.1 h];decide)) λ h6=>?_
     refine Ev.ite (λ h=>?_) λ h7=>?_
     ·rw [qx9 (show (apT t.name ks).name=qd4 from y8.1 h)]
      exact Ev.bind (qGg ks (by omega)) (Ev.pure _)
     refine Ev.ite (λ h=>prod (.inl (y8.1 h))) λ h8=>?_
     refine Ev.ite (λ h=>prod (.inr (.inl (y8.1 h)))) λ h9=>?_
     refine Ev.ite (λ h=>prod (.inr (.inr (y8.1 h)))) λ h10=>?_
     refine Ev.ite (λ h=>?_) λ h11=>?_
     ·have hn:t.name=qd6:=y8.1 h
      rw [qwQ (show (apT t.name ks).name=qd6 from hn)]
      have isE:isN (apT t.name ks) qd6=true:=yr.2 ⟨rfl,hn⟩
      have q0:=J9 (apT t.name ks) 0
      have q1:=J9 (apT t.name ks) 1
      refine Ev.some (qbo (t:=apT t.name ks) (i:=0) c1 isE (a:=2) (b:=2) (c:=1) (by decide) (by decide)) (Ev.some (qbo (t:=apT t.name ks) (i:=1) c1 isE (a:=2) (b:=2) (c:=1) (by decide) (by decide)) ?_)
      exact Ev.bind (qEI _ _ (J0 Je qas rfl c1 0) (by omega) (by omega)) (Ev.pure _)
     ·rw [quH (t:=apT t.name ks) (show isD t.name=false from by
          rw [← Bool.not_eq_true]
          intro hd
          unfold isD at hd
          simp only [Bool.or_eq_true,beq_iff_eq] at hd
          rcases hd with ((((hn | hn) | hn) | hn) | hn) | hn
          ·exact jq.1 h1 hn
          ·exact jq.1 h2 hn
          ·exact jq.1 h3' hn
          ·exact jq.1 h4 hn
          ·exact jq.1 h5 hn
          ·exact jq.1 h6 hn) (jq.1 h7) (λ h=>by rcases h with h | h | h;exact jq.1 h8 h;exact jq.1 h9 h;exact jq.1 h10 h) (jq.1 h11)]
      exact Ev.pure _)
    (λ i x hx hd hlen hg hi hP he=>by
     refine Ev.loop ?_
     simp only [qiM,qbM,qe]
     have hm:=List.mem_of_getElem? hx
     have hlt:=jf t x hm
     rw [qyX hd]
     refine Ev.ct hlen (Ev.some hg (Ev.bind (ih x hm (by omega) (hck x hm)) (Ev.ite (λ h=>?_) λ h=>?_)))
     ·rw [bnt,qg] at h
      rw [if_pos (show (if (zw x).2≠0 then (zw x).2 else erN (t.kids.drop (i+1)))≠0 from by rw [if_pos h];exact h),if_pos h]
      exact Ev.pure _
     ·rw [bnf,qi] at h
      rw [if_neg (show ¬ (zw x).2≠0 from by omega)]
      have h4:(nks (t.kids.take i)).length≤t.kids.length:=by rw [qoA,List.length_take];omega
      refine Ev.ct (zh (by omega) (by omega)) ?_
      have hP:=hP λ k hk=>by
       rw [zP hx] at hk
       rcases List.mem_append.1 hk with hk | hk
       ·exact he k hk
       ·rw [List.mem_singleton.1 hk];exact h
      rw [hi]
      refine hP.congr λ m k=>?_
      rw [qxb hx])
   have hk3:=h3
   refine Ev.diag (L := λ m k=>Qe m (zM m) k t.kids t.kids.length 0 t.kind t.name t.sort t.kids 0 [] 0 3 t.name 0 [] []) ?_
   exact (key 0 (Nat.zero_le _)) (λ k hk=>by rw [List.take_zero] at hk;cases hk)
theorem qCa (t:T):size t≤2000→zb t=0→qdU t→Ev (λ m _=>yf m t) (zw t):=by
 induction t using T.ind with
 | h t ih =>
   intro hs hc hso
   have hl:=yG t
   have hz:=qC t
   refine Ev.succ ?_
   simp only [qt5,qcr,qe]
   by_cases h3:t.kind=3
   rotate_left
   ·refine Ev.ct (bnt.2 (qg.2 h3)) (Ev.ret (qgV h3).symm)
   refine Ev.cf (bnf.2 (qi.2 h3)) ?_
   rw [qzU h3]
   have hck:=(qe0 h3 hc).2
   have key:=qr (P := λ i=>(∀ k∈t.kids.take i,(zw k).2=0)→Ev (λ m k=>QR m (yf m) k i t.kind t.name t.sort t.kids 0 [] 0 [] (nks (t.kids.take i))) (if erN (t.kids.drop i)≠0 then (zT,erN (t.kids.drop i)) else Jb (apT t.name (nks t.kids)))) t.kids (by omega)
    (λ hlen he=>by
     refine Ev.loop ?_
     simp only [qjO,qcI,qe]
     refine Ev.cf hlen ?_
     rw [List.take_length] at he ⊢
     rw [List.drop_length,if_neg (show ¬ erN []≠0 from λ h=>h rfl)]
     obtain ⟨c1,c2⟩:=qzK h3 hc he
     have o1:qdU (apT t.name (nks t.kids)):=qAI _ _ λ k hk=>by
      obtain ⟨q,hq,rfl⟩:=List.mem_map.1 hk
      obtain ⟨j,hj,rfl⟩:=List.mem_map.1 hq
      exact qHp qnw qyR qAI j (qnw t h3 hso j hj)
     have s1:=qC0 t.kids
     have s2:szL t.kids+1=size t:=by unfold szL;omega
     have hnl:=qoA t.kids
     generalize nks t.kids=ks at *
     have su:size (apT t.name ks)=1+szL ks:=qC _
     have prod:t.name=qfm∨t.name=Qw∨t.name=qho→Ev (λ m _=>qa (qan m (apT t.name ks)) λ w=>some (w.1,w.2)) (Jb (apT t.name ks)) := λ hm=>by
      rw [qxy (show (apT t.name ks).name=qfm∨(apT t.name ks).name=Qw∨(apT t.name ks).name=qho from hm)]
      have h4:=qg8 (apT t.name ks)
      have:Ev (λ m _=>qan m (apT t.name ks)) (qjU (apT t.name ks)):=by
       refine Ev.succ ?_
       simp only [qru,qeE,qe]
       unfold qjU
       refine Ev.bind (qyl _ (by omega)) (Ev.ite (λ h=>?_) λ h=>?_)
       ·rw [bnt,qg] at h
        rw [if_pos h];exact Ev.pure _
       ·rw [bnf,qi] at h
        rw [if_neg (by omega)]
        exact Ev.bind (qxh _ (by omega)) (Ev.pure _)
      exact Ev.bind this (Ev.pure _)
     have hksl:=y9 ks
     refine Ev.bind (qbl t.name ks (by omega)) (Ev.bind (qtA t.name) (Ev.ite (λ h=>?_) λ h1=>?_))
     ·have hd:=(qCo t.name).1 (qi.1 h)
      rw [qw1 (show isD (apT t.name ks).name=true from hd)]
      exact Ev.bind (qy4 _ rfl c1 o1 hd (by omega)) (Ev.pure _)
     refine Ev.ite (λ h=>?_) λ h7=>?_
     ·rw [qx9 (show (apT t.name ks).name=qd4 from y8.1 h)]
      exact Ev.bind (qGV ks (by omega)) (Ev.pure _)
     refine Ev.ite (λ h=>prod (.inl (y8.1 h))) λ h8=>?_
     refine Ev.ite (λ h=>prod (.inr (.inl (y8.1 h)))) λ h9=>?_
     refine Ev.ite (λ h=>prod (.inr (.inr (y8.1 h)))) λ h10=>?_
     refine Ev.ite (λ h=>?_) λ h11=>?_
     ·have hn:t.name=qd6:=y8.1 h
      rw [qwQ (show (apT t.name ks).name=qd6 from hn)]
      have isE:isN (apT t.name ks) qd6=true:=yr.2 ⟨rfl,hn⟩
      have q0:=J9 (apT t.name ks) 0
      have q1:=J9 (apT t.name ks) 1
      refine Ev.some (qbo (t:=apT t.name ks) (i:=0) c1 isE (a:=2) (b:=2) (c:=1) (by decide) (by decide)) (Ev.some (qbo (t:=apT t.name ks) (i:=1) c1 isE (a:=2) (b:=2) (c:=1) (by decide) (by decide)) ?_)
      exact Ev.bind (qEJ _ _ (J0 Je qas rfl c1 0) (by omega) (by omega)) (Ev.pure _)
     ·rw [quH (t:=apT t.name ks) (show isD t.name=false from by
          rw [← Bool.not_eq_true,← qCo]
          exact qg.1 h1) (jq.1 h7) (λ h=>by rcases h with h | h | h;exact jq.1 h8 h;exact jq.1 h9 h;exact jq.1 h10 h) (jq.1 h11)]
      exact Ev.pure _)
    (λ i x hx hd hlen hg hi hP he=>by
     refine Ev.loop ?_
     simp only [qjO,qcI,qe]
     have hm:=List.mem_of_getElem? hx
     have hlt:=jf t x hm
     rw [qyX hd]
     refine Ev.ct hlen (Ev.some hg (Ev.bind (ih x hm (by omega) (hck x hm) (qnw t h3 hso x hm)) (Ev.ite (λ h=>?_) λ h=>?_)))
     ·rw [bnt,qg] at h
      rw [if_pos (show (if (zw x).2≠0 then (zw x).2 else erN (t.kids.drop (i+1)))≠0 from by rw [if_pos h];exact h),if_pos h]
      exact Ev.pure _
     ·rw [bnf,qi] at h
      rw [if_neg (show ¬ (zw x).2≠0 from by omega)]
      have h4:(nks (t.kids.take i)).length≤t.kids.length:=by rw [qoA,List.length_take];omega
      refine Ev.ct (zh (by omega) (by omega)) ?_
      have hP:=hP λ k hk=>by
       rw [zP hx] at hk
       rcases List.mem_append.1 hk with hk | hk
       ·exact he k hk
       ·rw [List.mem_singleton.1 hk];exact h
      rw [hi]
      refine hP.congr λ m k=>?_
      rw [qxb hx])
   refine Ev.diag (L := λ m k=>QR m (yf m) k 0 t.kind t.name t.sort t.kids 0 [] 0 [] []) ?_
   exact (key 0 (Nat.zero_le _)) (λ k hk=>by rw [List.take_zero] at hk;cases hk)
theorem qlb (t:T):qio t=if qke t≠0 then (zT,qke t) else if (zw t).2≠0 then (zT,(zw t).2) else if qA (zw t).1≠0 then (zT,qA (zw t).1) else zw t:=rfl
theorem qBo (t:T) (hs:size t≤1000000000):Ev (λ m _=>qb3 m t) (qio t):=by
 refine Ev.succ ?_
 simp only [qq6,qeD,qe]
 rw [qlb]
 refine Ev.bind (qHo t hs) (Ev.ite (λ h=>?_) λ h=>?_)
 ·rw [bnt,qg] at h
  rw [if_pos h];exact Ev.pure _
 rw [bnf,qi] at h
 rw [if_neg (by omega)]
 obtain ⟨hv,hc⟩:=quj h
 have hz:=jN hv
 have hn:=qsP t
 refine Ev.bind (qCp t (by omega) hc) (Ev.ite (λ h2=>?_) λ h2=>?_)
 ·rw [qi] at h2
  rw [if_neg (by omega)]
  refine Ev.bind (qar _ (by omega)) (Ev.ite (λ h3=>?_) λ h3=>?_)
  ·rw [bnt,qg] at h3
   rw [if_pos h3];exact Ev.pure _
  ·rw [bnf,qi] at h3
   rw [if_neg (by omega)]
   exact Ev.ret (by rw [← h2])
 ·rw [qg] at h2
  rw [if_pos h2]
  exact Ev.ct (bnt.2 (qg.2 h2)) (Ev.pure _)
theorem qA8 (t:T) (hs:size t≤1000000000):Ev (λ m _=>qcM m t) (qio t):=by
 refine Ev.succ ?_
 simp only [qtB,qft,qe]
 rw [qlb]
 refine Ev.bind (qGL t hs) (Ev.ite (λ h=>?_) λ h=>?_)
 ·rw [bnt,qg] at h
  rw [if_pos h];exact Ev.pure _
 rw [bnf,qi] at h
 rw [if_neg (by omega)]
 obtain ⟨hv,hc⟩:=quj h
 have hz:=jN hv
 have hn:=qsP t
 refine Ev.bind (qCa t (by omega) hc (qDr t (qzl hv))) (Ev.ite (λ h2=>?_) λ h2=>?_)
 ·rw [bnt,qg] at h2
  rw [if_pos h2];exact Ev.pure _
 rw [bnf,qi] at h2
 rw [if_neg (by omega)]
 refine Ev.bind (qay _ (by omega)) (Ev.ite (λ h3=>?_) λ h3=>?_)
 ·rw [bnt,qg] at h3
  rw [if_pos h3];exact Ev.pure _
 ·rw [bnf,qi] at h3
  rw [if_neg (by omega)]
  exact Ev.ret (by rw [← h2])
theorem qq0 (t:T):size (qio t).1≤400:=by
 rw [qlb]
 have:=qis
 split
 ·show size zT≤_;omega
 ·split
  ·show size zT≤_;omega
  ·split
   ·show size zT≤_;omega
   ·rename_i h
    exact jN (Decidable.of_not_not h)
end Go.AmYtbpnmbmdbblehaaGreat
namespace Go.AmYtbpnmbmdbblehaaGreat
open Go Go.GxYtbpnmbmdbblehaaGreat
noncomputable def qgU (p:List UInt8→Bool):T→Bool:=T.para λ t rs=>(!(t.kind==3)||p t.name)&&rs.all id
theorem qu9 (p:List UInt8→Bool) (t:T):qgU p t=((!(t.kind==3)||p t.name)&&(t.kids.map (qgU p)).all id):=T.para_eq _ _
noncomputable def QY:T→List T:=T.para λ t rs=>t::rs.flatten
theorem qkQ (t:T):QY t=t::(t.kids.map QY).flatten:=T.para_eq _ _
theorem qle (t:T):(QY t).length=size t:=by
 refine T.ind (P := λ t=>(QY t).length=size t) ?_ t
 intro t ih
 rw [qkQ,qC,List.length_cons,List.length_flatten,List.map_map]
 have:t.kids.map (List.length ∘ QY)=t.kids.map size:=List.map_congr_left λ k hk=>ih k hk
 rw [this];omega
theorem qHq (t:T):∀ u∈QY t,size u≤size t:=by
 refine T.ind (P := λ t=>∀ u∈QY t,size u≤size t) ?_ t
 intro t ih u hu
 rw [qkQ] at hu
 rcases List.mem_cons.1 hu with rfl | hu
 ·exact Nat.le_refl _
 ·obtain ⟨l,hl,hu⟩:=List.mem_flatten.1 hu
  obtain ⟨k,hk,rfl⟩:=List.mem_map.1 hl
  have h1:=ih k hk u hu
  have h2:=jf t k hk
  omega
theorem qBG (p:List UInt8→Bool) (t:T):(QY t).all (λ u => !(u.kind==3)||p u.name)=qgU p t:=by
 refine T.ind (P := λ t=>(QY t).all (λ u => !(u.kind==3)||p u.name)=qgU p t) ?_ t
 intro t ih
 rw [qkQ,qu9,List.all_cons,List.all_flatten]
 congr 1
 rw [List.all_map,List.all_map]
 rw [Bool.eq_iff_iff,List.all_eq_true,List.all_eq_true]
 exact ⟨λ h k hk=>(ih k hk).symm.trans (h k hk),λ h k hk=>(ih k hk).trans (h k hk)⟩
def pPl (n:List UInt8):Bool:=qc (ieq (qG n).2.2 3)
theorem qDR (n:List UInt8):Ev (λ m _=>qbn m n) (pPl n):=by
 refine Ev.succ ?_
 simp only [qqG,qd5]
 refine Ev.bind (quI n) (Ev.ret ?_)
 unfold pPl
 rw [← qqN]
theorem qDj (t:T):size t≤1000000000→Ev (λ m _=>qH m t) (qgU pPl t):=by
 induction t using T.ind with
 | h t ih =>
   intro hs
   have hl:=yG t
   refine Ev.succ ?_
   simp only [qlh,Jh]
   have key:=qr (P := λ i=>Ev (λ m k=>yk m (qH m) k t.kids t.kids.length i) (((t.kids.drop i).map (qgU pPl)).all id)) t.kids (by omega)
    (λ hc=>by
     refine Ev.loop ?_
     simp only [qeZ,Ji]
     refine Ev.cf hc (Ev.ret ?_)
     rw [List.drop_length];rfl)
    (λ i x hx hd hc hg hi hP=>by
     refine Ev.loop ?_
     simp only [qeZ,Ji,qe]
     have hm:=List.mem_of_getElem? hx
     have h1:=jf t x hm
     rw [hd,List.map_cons,List.all_cons]
     refine Ev.ct hc (Ev.some hg (Ev.bind (ih x hm (by omega)) (Ev.ite (λ hb=>?_) λ hb=>?_)))
     ·rw [bnt] at hb
      rw [hb];exact Ev.pure _
     ·rw [bnf] at hb
      rw [hb,hi]
      exact hP)
   have main:Ev (λ m _=>yk m (qH m) m t.kids t.kids.length 0) ((t.kids.map (qgU pPl)).all id) :=
    Ev.diag (L := λ m k=>yk m (qH m) k t.kids t.kids.length 0) ((key 0 (Nat.zero_le _)).res (by rw [List.drop_zero]))
   rw [qu9]
   refine Ev.ite (λ h3=>?_) λ h3=>?_
   ·rw [qi] at h3
    have hk:(!(t.kind==3))=false:=by rw [h3];rfl
    rw [hk,Bool.false_or]
    refine Ev.bind (qDR t.name) (Ev.ite (λ h=>?_) λ h=>?_)
    ·rw [bnt] at h
     rw [h];exact Ev.pure _
    ·rw [bnf] at h
     rw [h];exact main
   ·rw [qg] at h3
    have hk:(!(t.kind==3))=true:=by rw [Bool.not_eq_true',beq_eq_false_iff_ne];exact h3
    rw [hk,Bool.true_or]
    exact main
theorem qz7 (t:T):size t≤1000000000→Ev (λ m _=>jh m t) (QY t):=by
 induction t using T.ind with
 | h t ih =>
   intro hs
   have hl:=yG t
   have hln:=qle t
   refine Ev.succ ?_
   simp only [qzB,qfQ,qe]
   rw [qkQ] at hln ⊢
   have hpre:∀ i,((t.kids.take i).map QY).flatten.length≤(t.kids.map QY).flatten.length := λ i=>by
    have:=congrArg (λ l=>(l.map QY).flatten.length) (List.take_append_drop i t.kids)
    simp only [List.map_append,List.flatten_append,List.length_append] at this
    omega
   have key:=qr (P := λ i=>Ev (λ m k=>qaU m (jh m) k i t.kind t.name t.sort t.kids (t::((t.kids.take i).map QY).flatten)) (t::(t.kids.map QY).flatten)) t.kids (by omega)
    (λ hc=>by
     refine Ev.loop ?_
     simp only [qnS,qf5]
     refine Ev.cf hc ?_
     rw [List.take_length];exact Ev.pure _)
    (λ i x hx hd hc hg hi hP=>by
     refine Ev.loop ?_
     simp only [qnS,qf5,qe]
     have hm:=List.mem_of_getElem? hx
     have h1:=jf t x hm
     have h2:=hpre (i+1)
     have e:((t.kids.take (i+1)).map QY).flatten=((t.kids.take i).map QY).flatten++QY x:=by
      rw [zP hx,List.map_append,List.flatten_append];simp
     rw [e,List.length_append] at h2
     rw [e] at hP
     rw [List.length_cons] at hln
     refine Ev.ct hc (Ev.some hg (Ev.bind (ih x hm (by omega)) (Ev.ct (zh (by rw [List.length_cons];omega) (by omega)) ?_)))
     rw [hi]
     exact hP)
   refine Ev.diag (L := λ m k=>qaU m (jh m) k 0 t.kind t.name t.sort t.kids [t]) ?_
   exact key 0 (Nat.zero_le _)
noncomputable def qiz (t:T):Bool:=decide ((qio t).2=0)&&(yI (qio t).1 t&&qgU pPl t)
theorem qCr (t:T) (hs:size t≤1000000000):Ev (λ m _=>qdb m t) (qiz t):=by
 have h1:=qq0 t
 refine Ev.succ ?_
 simp only [qs1,qfS,qe]
 unfold qiz
 refine Ev.bind (qBo t hs) (Ev.ite (λ h=>?_) λ h=>?_)
 ·rw [qi] at h
  rw [decide_eq_true h,Bool.true_and]
  refine Ev.bind (qli _ _ (by omega) hs) (Ev.ite (λ h2=>?_) λ h2=>?_)
  ·rw [h2,Bool.true_and]
   exact Ev.bind (qDj t hs) (Ev.pure _)
  ·rw [h2,Bool.false_and];exact Ev.pure _
 ·rw [qg] at h
  rw [decide_eq_false h,Bool.false_and];exact Ev.pure _
theorem qDu (t:T) (hs:size t≤1000000000):Ev (λ m _=>qef m t) (qiz t):=by
 have h1:=qq0 t
 refine Ev.succ ?_
 simp only [qwf,qdF,qe]
 unfold qiz
 refine Ev.bind (qA8 t hs) (Ev.ite (λ h=>?_) λ h=>?_)
 ·rw [bnt,qg] at h
  rw [decide_eq_false h,Bool.false_and];exact Ev.pure _
 rw [bnf,qi] at h
 rw [decide_eq_true h,Bool.true_and,qq4]
 refine Ev.bind (qb0 _ _ hs (by omega)) (Ev.ite (λ h2=>?_) λ h2=>?_)
 ·rw [bnt] at h2
  rw [h2,Bool.false_and];exact Ev.pure _
 rw [bnf] at h2
 rw [h2,Bool.true_and,← qBG]
 refine Ev.bind (qz7 t hs) ?_
 have hln:=qle t
 generalize QY t=l at *
 have key:=qr (P := λ i=>Ev (λ m k=>Jp m k l i) ((l.drop i).all λ u => !(u.kind==3)||pPl u.name)) l (by omega)
  (λ hc=>by
   refine Ev.loop ?_
   simp only [qkD,qdo]
   refine Ev.cf hc (Ev.ret ?_)
   rw [List.drop_length];rfl)
  (λ i x hx hd hc hg hi hP=>by
   refine Ev.loop ?_
   simp only [qkD,qdo]
   rw [hd,List.all_cons]
   refine Ev.ct hc (Ev.some hg (Ev.ite (λ h3=>?_) λ h3=>?_))
   ·rw [qi] at h3
    have hk:(!(x.kind==3))=false:=by rw [h3];rfl
    rw [hk,Bool.false_or]
    refine Ev.some hg (Ev.bind (qtA x.name) (Ev.ite (λ hk3=>?_) λ hk3=>?_))
    ·have:pPl x.name=false:=by unfold pPl;rw [hk3];rfl
     rw [this];exact Ev.pure _
    ·rw [hi]
     refine hP.res ?_
     have:pPl x.name=true:=by unfold pPl;rw [hk3];rfl
     rw [this];rfl
   ·rw [qg] at h3
    have hk:(!(x.kind==3))=true:=by rw [Bool.not_eq_true',beq_eq_false_iff_ne];exact h3
    rw [hk,Bool.true_or,hi,Bool.true_and]
    exact hP)
 refine Ev.diag (L := λ m k=>Jp m k l 0) ?_
 exact (key 0 (Nat.zero_le _)).res (by rw [List.drop_zero])
end Go.AmYtbpnmbmdbblehaaGreat
namespace Go.AmYtbpnmbmdbblehaaGreat
open Go Go.GxYtbpnmbmdbblehaaGreat Go.Sort Go.Proofs Go.Proofs.YtbpnmbmdbblehaaGreat
noncomputable def zt (k:Int) (t:T):List T:=(QY t).filter λ x=>decide (x.kind=k)
noncomputable def qsO (t:T):Bool:=(zt 1 t).isEmpty
theorem quy (k:Int) (t:T):zt k t=(if t.kind=k then [t] else [])++(t.kids.map (zt k)).flatten:=by
 unfold zt
 rw [qkQ,List.filter_cons,List.filter_flatten,List.map_map]
 by_cases h:t.kind=k<;>simp [h,Function.comp_def,zt]
theorem qih (k:Int) (t:T):(zt k t).length≤size t:=by
 have:=List.length_filter_le (λ x:T=>decide (x.kind=k)) (QY t)
 rw [qle] at this
 exact this
theorem quT (k:Int) (t:T):∀ u∈zt k t,size u≤size t := λ u hu=>qHq t u ((List.mem_filter.1 hu).1)
theorem qAy {s:Nat}:∀ {l:List T},(∀ u∈l,size u≤s)→szL l≤l.length*s
 | [],_=>by simp [szL]
 | x::l,h=>by
   have:=qAy λ u hu=>h u (List.mem_cons_of_mem _ hu)
   have h1:=h x (List.mem_cons_self ..)
   rw [qJ,List.length_cons,Nat.succ_mul];omega
theorem qFg (x:T) (k:Int) (l:List T) (hl:l.length≤1000000000):Ev (λ m _=>Qm m x k l) ((k,l++(if x.kind=k then [x] else []),()),()):=by
 refine Ev.succ ?_
 simp only [qkj,qaf,qe]
 by_cases h:x.kind=k
 ·rw [if_pos h]
  refine Ev.ct (qi.2 h) (Ev.ct (zh (by omega) (by omega)) (Ev.some (a:=T.mk 0 [] 0 []) (by rw [jI];simp) (Ev.ret ?_)))
  rw [qdi]
  simp
 ·rw [if_neg h,List.append_nil]
  exact Ev.cf (qg.2 h) (Ev.pure _)
theorem qGf (t:T) (k:Int):size t≤1000000000→∀ l:List T,l.length+size t≤1000000000→Ev (λ m _=>qZ m t k l) ((k,l++zt k t,()),()):=by
 induction t using T.ind with
 | h t ih =>
   intro hs l hl
   have hkl:=yG t
   refine Ev.succ ?_
   simp only [qmT,JI,qe]
   refine Ev.bind (qFg t k l (by omega)) ?_
   simp only
   obtain ⟨l0,hl0⟩:∃ l0,l0=l++(if t.kind=k then [t] else []):=⟨_,rfl⟩
   rw [← hl0]
   have hfl:=qih k t
   rw [quy,List.length_append] at hfl
   have hl0n:l0.length+((t.kids.map (zt k)).flatten).length=l.length+((if t.kind=k then [t] else []).length+((t.kids.map (zt k)).flatten).length):=by rw [hl0,List.length_append];omega
   have hpre:∀ i,((t.kids.take i).map (zt k)).flatten.length≤(t.kids.map (zt k)).flatten.length := λ i=>by
    have:=congrArg (λ l=>(l.map (zt k)).flatten.length) (List.take_append_drop i t.kids)
    simp only [List.map_append,List.flatten_append,List.length_append] at this
    omega
   have hsz:∀ i x,t.kids[i]? = some x→l0.length+((t.kids.take i).map (zt k)).flatten.length+size x≤1000000000 := λ i x hx=>by
    have h1:((t.kids.take i).map (zt k)).flatten.length≤szL (t.kids.take i):=by
     have aux:∀ l:List T,((l.map (zt k)).flatten).length≤szL l:=by
      intro l
      induction l with
      | nil=>simp [szL]
      | cons y l ih'=>rw [List.map_cons,List.flatten_cons,List.length_append,qJ];have:=qih k y;omega
     exact aux _
    have h2:=jD hx
    have h3:szL t.kids+1≤size t:=by rw [qC];unfold szL;omega
    have h4:l0.length≤l.length+1:=by rw [hl0,List.length_append];split<;>simp
    omega
   have key:=qr (P := λ i=>Ev (λ m kk=>yW m (qZ m) kk t.kids t.kids.length i k (l0++((t.kids.take i).map (zt k)).flatten)) ((k,l0++(t.kids.map (zt k)).flatten,()),())) t.kids (by omega)
    (λ hc=>by
     refine Ev.loop ?_
     simp only [qfD,JL]
     refine Ev.cf hc ?_
     rw [List.take_length];exact Ev.pure _)
    (λ i x hx hd hc hg hi hP=>by
     refine Ev.loop ?_
     simp only [qfD,JL,qe]
     have hm:=List.mem_of_getElem? hx
     have h1:=jf t x hm
     refine Ev.ct hc (Ev.some hg (Ev.bind (ih x hm (by omega) _ (by rw [List.length_append];exact hsz i x hx)) ?_))
     rw [hi]
     have e:((t.kids.take (i+1)).map (zt k)).flatten=((t.kids.take i).map (zt k)).flatten++zt k x:=by
      rw [zP hx,List.map_append,List.flatten_append];simp
     rw [e,← List.append_assoc] at hP
     exact hP)
   rw [quy,← List.append_assoc,← hl0]
   refine Ev.diag (L := λ m kk=>yW m (qZ m) kk t.kids t.kids.length 0 k l0) ?_
   have:=key 0 (Nat.zero_le _)
   simpa using this
theorem qHm {F G:T→T→Option Int} {l:List T} (h:∀ x∈l,∀ y∈l,F x y=G x y):Qx F l=Qx G l:=by
 funext i j
 unfold Qx
 cases hx:l[i % l.length]? with
 | none=>rfl
 | some x=>cases hy:l[j % l.length]? with
   | none=>rfl
   | some y=>simp only;rw [h x (List.mem_of_getElem? hx) y (List.mem_of_getElem? hy)]
theorem quS {β : Type} {F:T→T→Option β} {l:List T} (h:∀ x∈l,∀ y∈l,(F x y).isSome=true):qbr F l=true :=
 List.all_eq_true.2 λ x hx=>List.all_eq_true.2 λ y hy=>h x hx y hy
theorem qG4 {n:Nat} {lt:Nat→Nat→Bool} (h:SWO lt):qqg n lt=true:=by
 unfold qqg
 refine List.all_eq_true.2 λ i _=>?_
 rw [Bool.and_eq_true]
 refine ⟨by rw [h.irrefl];rfl,List.all_eq_true.2 λ j _=>List.all_eq_true.2 λ k _=>?_⟩
 rw [Bool.and_eq_true]
 constructor
 ·cases h1:lt i j with
  | false=>rfl
  | true=>cases h2:lt j k with
    | false=>rfl
    | true=>rw [h.trans i j k h1 h2];rfl
 ·cases h1:lt i j with
  | true=>rfl
  | false=>cases h2:lt j k with
    | true=>rfl
    | false=>rw [h.ntrans i j k h1 h2];rfl
theorem qI0 (l:List T):SWO (ltOf (Qx (λ x y=>some (qp x y)) l)):=by
 have hlt:∀ i j,ltOf (Qx (λ x y=>some (qp x y)) l) i j=true↔∃ x y,l[i % l.length]? = some x∧l[j % l.length]? = some y∧qp x y=-1 := λ i j=>by
  unfold ltOf Qx
  rw [decide_eq_true_iff]
  cases hx:l[i % l.length]? with
  | none=>simp
  | some x=>cases hy:l[j % l.length]? with
    | none=>simp
    | some y =>
      simp only [Option.getD_some]
      have:=zH.rng x y
      constructor
      ·intro h;exact ⟨x,y,rfl,rfl,by omega⟩
      ·rintro ⟨_,_,h1,h2,h3⟩;cases h1;cases h2;omega
 refine ⟨λ i=>?_,λ i j k h1 h2=>?_,λ i j k h1 h2=>?_⟩
 ·rw [Bool.eq_false_iff]
  intro h
  obtain ⟨x,y,h1,h2,h3⟩:=(hlt _ _).1 h
  rw [h1] at h2;cases h2
  rw [qmX] at h3;cases h3
 ·obtain ⟨x,y,a1,a2,a3⟩:=(hlt _ _).1 h1
  obtain ⟨y',z,b1,b2,b3⟩:=(hlt _ _).1 h2
  rw [a2] at b1;cases b1
  exact (hlt _ _).2 ⟨x,z,a1,b2,zH.trans x y z a3 b3⟩
 ·rw [Bool.eq_false_iff] at h1 h2 ⊢
  intro h
  obtain ⟨x,z,a1,a2,a3⟩:=(hlt _ _).1 h
  have hn:0<l.length:=by have:=getElem?_lt a1;omega
  obtain ⟨y,hj⟩:∃ y,l[j % l.length]? = some y:=⟨_,List.getElem?_eq_getElem (Nat.mod_lt _ hn)⟩
  have n1:qp x y≠-1 := λ he=>h1 ((hlt _ _).2 ⟨x,_,a1,hj,he⟩)
  have n2:qp y z≠-1 := λ he=>h2 ((hlt _ _).2 ⟨_,z,hj,a2,he⟩)
  have r1:=zH.rng x y
  have r2:=zH.rng y z
  rcases r1 with r1 | r1 | r1
  ·exact n1 r1
  ·have:=JQ _ _ r1
   rw [← this] at n2;exact n2 a3
  ·rcases r2 with r2 | r2 | r2
   ·exact n2 r2
   ·have:=JQ _ _ r2
    rw [this] at n1;exact n1 a3
   ·have e1:qp y x=-1:=by rw [zH.anti];omega
    have e2:qp z y=-1:=by rw [zH.anti];omega
    have e3:=zH.trans _ _ _ e2 e1
    have e4:=zH.anti x z
    omega
theorem qwW {β : Type} {F:Nat→T→T→Option β} {g:T→T → β} (l:List T) (h:∀ x∈l,∀ y∈l,Ev (λ m _=>F m x y) (g x y)):∃ B,∀ m,B≤m→∀ x∈l,∀ y∈l,F m x y=some (g x y):=by
 have one:∀ (x:T),(∀ y∈l,Ev (λ m _=>F m x y) (g x y))→∀ r:List T,(∀ y∈r,y∈l)→∃ B,∀ m,B≤m→∀ y∈r,F m x y=some (g x y):=by
  intro x hx r
  induction r with
  | nil=>exact λ _=>⟨0,λ _ _ y hy=>by cases hy⟩
  | cons y r ih =>
    intro hr
    obtain ⟨B,hB⟩:=ih λ z hz=>hr z (List.mem_cons_of_mem _ hz)
    obtain ⟨D,hD⟩:=hx y (hr y (List.mem_cons_self ..))
    refine ⟨max B D,λ m hm z hz=>?_⟩
    rcases List.mem_cons.1 hz with rfl | hz
    ·exact hD m D (by omega) (Nat.le_refl _)
    ·exact hB m (by omega) z hz
 have two:∀ r:List T,(∀ y∈r,y∈l)→∃ B,∀ m,B≤m→∀ x∈r,∀ y∈l,F m x y=some (g x y):=by
  intro r
  induction r with
  | nil=>exact λ _=>⟨0,λ _ _ y hy=>by cases hy⟩
  | cons x r ih =>
    intro hr
    obtain ⟨B,hB⟩:=ih λ z hz=>hr z (List.mem_cons_of_mem _ hz)
    obtain ⟨D,hD⟩:=one x (h x (hr x (List.mem_cons_self ..))) l λ _ h=>h
    refine ⟨max B D,λ m hm z hz=>?_⟩
    rcases List.mem_cons.1 hz with rfl | hz
    ·exact hD m (by omega)
    ·exact hB m (by omega) z hz
 exact two l λ _ h=>h
theorem qxS {α : Type} {l:List α} {ix:List Nat}:∀ x∈pick l ix,x∈l := λ x hx=>by
 unfold pick at hx
 obtain ⟨i,_,h⟩:=List.mem_filterMap.1 hx
 exact List.mem_of_getElem? h
theorem qGX (l:List T) (hl:l.length≤100000) (hs:∀ t∈l,size t≤1000000000):∃ l',Ev (λ m _=>qS m l) l'∧l'.length=l.length∧∀ x∈l',x∈l:=by
 cases hl0:l with
 | nil=>exact ⟨[],Ev.succ (Ev.congr (Ev.pure _) λ m _=>rfl),rfl,λ x h=>h⟩
 | cons x0 r0 =>
   rw [← hl0]
   obtain ⟨B,hB⟩:=qwW (F := λ m x y=>qs m x y) l λ x hx y hy=>qca x (hs x hx) y (hs y hy)
   have hne:l≠[]:=by rw [hl0];exact List.cons_ne_nil _ _
   have hO:=qI0 l
   obtain ⟨hp,_⟩:=qpk (λ x y=>some (qp x y)) l hO
   have hlt:∀ i∈JY (λ x y=>some (qp x y)) l,i<l.length := λ i hi=>List.mem_range.1 (hp.mem_iff.1 hi)
   refine ⟨pick l (JY (λ x y=>some (qp x y)) l),Ev.succ ⟨B,λ m k hm _=>?_⟩,by rw [ql3 hlt,hp.length_eq,List.length_range],qxS⟩
   show qS (m+1) l=_
   rw [qbx]
   have hcf:Qx (qs m) l=Qx (λ x y=>some (qp x y)) l:=qHm (hB m hm)
   have hall:qbr (qs m) l=true:=quS λ x hx y hy=>by rw [hB m hm x hx y hy];rfl
   have hix:JY (qs m) l=JY (λ x y=>some (qp x y)) l:=by unfold JY;rw [hcf]
   have e:qoG (qs m) l=cond (Nat.ble l.length 100000&&(qbr (qs m) l&&qqg l.length (ltOf (Qx (qs m) l)))) (some (pick l (JY (qs m) l))) none:=by rw [hl0];rfl
   rw [e,hcf,hall,hix,qG4 hO,show Nat.ble l.length 100000=true from Nat.ble_eq_true_of_le hl]
   rfl
theorem qBY (l:List T) (hl:l.length≤100000) (hs:∀ t∈l,size t≤1000000000):∃ l',Ev (λ m _=>qF m l) ((),l',())∧(l'=[]↔l=[])∧l'.length≤l.length∧∀ x∈l',x∈l:=by
 cases hl0:l with
 | nil=>exact ⟨[],Ev.succ (Ev.congr (Ev.pure _) λ m _=>rfl),Iff.rfl,Nat.le_refl _,λ x h=>h⟩
 | cons x0 r0 =>
   rw [← hl0]
   obtain ⟨B,hB⟩:=qwW (F := λ m x y=>ya m x y) (g := λ x y=>ieq (qp x y) 0) l λ x hx y hy=>by
    refine Ev.succ ?_
    simp only [qpx,qdW,qe]
    exact Ev.bind (qca x (hs x hx) y (hs y hy)) (Ev.pure _)
   have hne:l≠[]:=by rw [hl0];exact List.cons_ne_nil _ _
   have hpos:0<l.length:=List.length_pos_iff.2 hne
   obtain ⟨ef,hef⟩:∃ ef,ef=qiI (λ x y=>some (ieq (qp x y) 0)) l:=⟨_,rfl⟩
   have hlt:∀ i∈zp ef l.length,i<l.length:=qu8
   have hlen:(zp ef l.length).length≤l.length:=by
    have:=List.length_filter_le (λ i=>decide (i=0) || !ef i (i-1)) (List.range l.length)
    rw [List.length_range] at this
    exact this
   have h0:0∈zp ef l.length:=List.mem_filter.2 ⟨List.mem_range.2 hpos,by simp⟩
   refine ⟨pick l (zp ef l.length),Ev.succ ⟨B,λ m k hm _=>?_⟩,⟨λ h=>?_,λ h=>absurd h hne⟩,by rw [ql3 hlt];exact hlen,qxS⟩
   ·show qF (m+1) l=_
    rw [qax]
    have hee:qiI (ya m) l=ef:=by
     rw [hef]
     funext i j
     unfold qiI
     cases hx:l[i % l.length]? with
     | none=>rfl
     | some x=>cases hy:l[j % l.length]? with
       | none=>rfl
       | some y=>simp only;rw [hB m hm x (List.mem_of_getElem? hx) y (List.mem_of_getElem? hy)]
    have hall:qbr (ya m) l=true:=quS λ x hx y hy=>by rw [hB m hm x hx y hy];rfl
    have e:qwo (ya m) l=cond (Nat.ble l.length 100000&&qbr (ya m) l) (some (pick l (zp (qiI (ya m) l) l.length))) none:=by rw [hl0];rfl
    unfold qr4
    rw [e,hall,hee,show Nat.ble l.length 100000=true from Nat.ble_eq_true_of_le hl]
    rfl
   ·have:=ql3 hlt
    rw [h] at this
    have h1:=List.length_pos_of_mem h0
    simp at this
    omega
theorem qBa (l:List T) (hl:l.length≤100000) (hs:∀ t∈l,size t≤1000000000):∃ l',Ev (λ m _=>qcR m l) ((),l',())∧(l'=[]↔l=[]):=by
 obtain ⟨l1,e1,n1,m1⟩:=qGX l hl hs
 obtain ⟨l2,e2,n2,n3,m2⟩:=qBY l1 (by omega) λ t ht=>hs t (m1 t ht)
 refine ⟨l2,?_,n2.trans ⟨λ h=>List.eq_nil_of_length_eq_zero (by rw [← n1,h];rfl),λ h=>List.eq_nil_of_length_eq_zero (by rw [n1,h];rfl)⟩⟩
 refine Ev.succ ?_
 simp only [qtp,qcy]
 refine Ev.bind e1 (Ev.ct (by rw [n1,Nat.beq_refl]) (Ev.bind e2 ?_))
 have key:=qr (P := λ i=>Ev (λ m k=>QN m k l2.length i l2) ((),l2,())) l2 (by omega)
  (λ hc=>by
   refine Ev.loop ?_
   simp only [qjL,qcm]
   exact Ev.cf hc (Ev.pure _))
  (λ i x hx hd hc hg hi hP=>by
   refine Ev.loop ?_
   simp only [qjL,qcm,qe]
   refine Ev.ct hc (Ev.some hg (Ev.bind (qlJ x (hs x (m1 x (m2 x (List.mem_of_getElem? hx))))) (Ev.some hg ?_)))
   rw [hi]
   have e:jH l2 (i:Int) x=l2:=by
    rw [qdi]
    apply List.ext_getElem?
    intro j
    by_cases hj:i=j
    ·subst hj;rw [List.getElem?_set_self (getElem?_lt hx)];exact hx.symm
    ·rw [List.getElem?_set_ne hj]
   rw [e]
   exact hP)
 exact Ev.diag (L := λ m k=>QN m k l2.length 0 l2) (key 0 (Nat.zero_le _))
theorem qGq (t:T) (hs:size t≤100000):∃ l,Ev (λ m _=>qg1 m t) l∧(l=[]↔zt 1 t=[]):=by
 obtain ⟨l,h1,h2⟩:=qBa (zt 1 t) (Nat.le_trans (qih 1 t) hs) λ u hu=>by have:=quT 1 t u hu;omega
 refine ⟨l,?_,h2⟩
 refine Ev.succ ?_
 simp only [qzb,qi9,qe]
 refine Ev.bind (a:=l) (Ev.succ ?_) (Ev.pure _)
 simp only [qvw,qf8,qe]
 have hw:=qGf t 1 (by omega) [] (by rw [List.length_nil];omega)
 rw [List.nil_append] at hw
 exact Ev.bind hw (Ev.bind h1 (Ev.ret rfl))
noncomputable def qei (t:T):Bool:=qiz t&&qsO t
theorem qqY (t:T) (hs:size t≤100000):Ev (λ m _=>jC m t) (qei t):=by
 obtain ⟨l,h1,h2⟩:=qGq t hs
 refine Ev.succ ?_
 simp only [qrd,qeP,qe]
 refine Ev.bind (qCr t (by omega)) ?_
 unfold qei qsO
 cases qiz t with
 | false=>exact Ev.cf rfl (Ev.pure _)
 | true =>
   refine Ev.ct rfl (Ev.bind h1 (Ev.ret ?_))
   rw [Bool.true_and]
   by_cases h:zt 1 t=[]
   ·rw [h,h2.2 h];rfl
   ·have hl:l≠[] := λ hl=>h (h2.1 hl)
    have hp:0<l.length:=List.length_pos_iff.2 hl
    rw [qg.2 (by omega)]
    cases hk:zt 1 t with
    | nil=>exact absurd hk h
    | cons x r=>rfl
theorem qAJ (l:List T) (t:T):Ql l t≠[]:=by
 cases l with
 | nil=>simp [Ql]
 | cons x l =>
   unfold Ql
   repeat' split
   all_goals exact List.cons_ne_nil _ _
theorem qHF (l:List T) (hs:szL l≤1000000000):Ev (λ m _=>qg6 m l) (l.foldl Ql []):=by
 have hll:=y9 l
 refine Ev.succ ?_
 simp only [qzE,qfI]
 have fs:∀ (l acc:List T),szL (l.foldl Ql acc)≤szL acc+szL l:=by
  intro l
  induction l with
  | nil=>intro acc;simp [szL]
  | cons x l ih=>intro acc;rw [List.foldl_cons,qJ];have:=ih (Ql acc x);have:=qs0 x acc;omega
 have key:=qr (P := λ i=>Ev (λ m k=>qaZ m k l ((l.take i).foldl Ql []) i) (l.foldl Ql [])) l (by omega)
  (λ hc=>by
   refine Ev.loop ?_
   simp only [qm9,qfe]
   refine Ev.cf hc ?_
   rw [List.take_length];exact Ev.pure _)
  (λ i x hx hd hc hg hi hP=>by
   refine Ev.loop ?_
   simp only [qm9,qfe,qe]
   have h1:=fs (l.take i) []
   have h2:=jD hx
   have h0:szL ([]:List T)=0:=rfl
   refine Ev.ct hc (Ev.some hg (Ev.bind (qCq _ x (by omega)) ?_))
   rw [hi,qqi]
   rw [zP hx,List.foldl_append] at hP
   exact hP)
 exact Ev.diag (L := λ m k=>qaZ m k l [] 0) (key 0 (Nat.zero_le _))
theorem qDh (l:List T):l.foldl Ql []=[]↔l=[]:=by
 constructor
 ·intro h
  cases hl:l with
  | nil=>rfl
  | cons x r =>
    exfalso
    have ne:∀ (r acc:List T),acc≠[]→r.foldl Ql acc≠[]:=by
     intro r
     induction r with
     | nil=>intro acc h;exact h
     | cons y r ih=>intro acc _;exact ih _ (qAJ _ _)
    rw [hl,List.foldl_cons] at h
    exact ne r _ (qAJ _ _) h
 ·intro h;rw [h];rfl
theorem qEz (t:T) (k:Int) (hs:size t≤10000):Ev (λ m _=>qfh m t k) ((zt k t).foldl Ql []):=by
 refine Ev.succ ?_
 simp only [qxC,qey,qe]
 refine Ev.bind (qz7 t (by omega)) ?_
 have hlen:=qle t
 have hksz:szL (zt k t)≤1000000000:=by
  have h1:=qAy (quT k t)
  have h2:(zt k t).length*size t≤10000*10000:=Nat.mul_le_mul (Nat.le_trans (qih k t) hs) hs
  omega
 have key:=qr (P := λ i=>Ev (λ m kk=>JV m kk k (QY t) i (((QY t).take i).filter λ x=>decide (x.kind=k))) ((zt k t).foldl Ql [])) (QY t) (by omega)
  (λ hc=>by
   refine Ev.loop ?_
   simp only [qmm,qen]
   refine Ev.cf hc ?_
   rw [List.take_length]
   exact Ev.bind (qHF (zt k t) hksz) (Ev.pure _))
  (λ i x hx hd hc hg hi hP=>by
   refine Ev.loop ?_
   simp only [qmm,qen,qe]
   have h3:=List.length_filter_le (λ x:T=>decide (x.kind=k)) ((QY t).take i)
   have h4:=List.length_take_le' i (QY t)
   rw [zP hx,List.filter_append] at hP
   refine Ev.ct hc (Ev.some hg ?_)
   by_cases hk:x.kind=k
   ·refine Ev.ct (qi.2 hk) (Ev.some hg (Ev.ct (zh (by omega) (by omega)) ?_))
    rw [hi]
    simpa [hk] using hP
   ·refine Ev.cf (qg.2 hk) ?_
    rw [hi]
    simpa [hk] using hP)
 exact Ev.diag (L := λ m kk=>JV m kk k (QY t) 0 []) (key 0 (Nat.zero_le _))
theorem qsu (t:T) (hs:size t≤10000):Ev (λ m _=>Qi m t) (qei t):=by
 refine Ev.succ ?_
 simp only [qtg,qf0,qe]
 refine Ev.bind (qDu t (by omega)) ?_
 unfold qei qsO
 cases qiz t with
 | false=>exact Ev.cf rfl (Ev.pure _)
 | true =>
   have hv:Ev (λ m _=>qf4 m t) ((zt 1 t).foldl Ql []):=by
    refine Ev.succ ?_
    simp only [qx0,qhB,qe]
    exact Ev.bind (qEz t 1 hs) (Ev.pure _)
   have hg:Ev (λ m _=>qc5 m t) (zt 1 t).isEmpty:=by
    refine Ev.succ ?_
    simp only [qtb,qf3,qe]
    refine Ev.bind hv (Ev.ret ?_)
    by_cases h:zt 1 t=[]
    ·rw [h];rfl
    ·have hl:(zt 1 t).foldl Ql []≠[] := λ hl=>h ((qDh _).1 hl)
     have hp:0<((zt 1 t).foldl Ql []).length:=List.length_pos_iff.2 hl
     rw [qg.2 (by omega)]
     cases hk:zt 1 t with
     | nil=>exact absurd hk h
     | cons x r=>rfl
   rw [Bool.true_and]
   exact Ev.ct rfl (Ev.bind hg (Ev.pure _))
end Go.AmYtbpnmbmdbblehaaGreat
namespace Go.AmYtbpnmbmdbblehaaGreat
theorem qDg (n:Nat):qaY (n+3000)=some true:=by kernel_rfl
end Go.AmYtbpnmbmdbblehaaGreat
namespace Go.AmYtbpnmbmdbblehaaGreat
open Go Go.GxYtbpnmbmdbblehaaGreat
abbrev Rt:=T × (Int × (List (Int × T) × Int))
theorem qm4 (t:T):T.mk t.kind t.name t.sort t.kids=t:=qe t
theorem qrT:Ev (λ m _=>qaY m) true:=⟨3000,λ m k hm _=>by
 obtain ⟨n,rfl⟩:∃ n,m=n+3000:=⟨m-3000,by omega⟩
 exact qDg n⟩
theorem qr0 (t:T) (hs:size t≤1000000000):Ev (λ m _=>yE m t) t:=by
 have hA:Ev (λ m _=>qkX m t []) (t,0):=by
  refine Ev.succ ?_
  simp only [qDZ,qik]
  refine Ev.diag (L := λ m k=>qeQ m k [] (([]:List Int).length) 0 t.kind t.name t.sort t.kids 0 [] 0 []) (Ev.loop ?_)
  simp only [qAV,ql6,qm4,qe]
  exact Ev.cf rfl (Ev.bind (qlJ t hs) (Ev.pure _))
 refine Ev.succ ?_
 simp only [qqq,qd0,qe]
 exact Ev.bind hA (Ev.pure _)
def nHa:List UInt8:=[104,97,115,104]
def nPa:List UInt8:=[112,97,105,114]
def nCh:List UInt8:=[99,104,97,105,110]
def nMs:List UInt8:=[109,101,115,115,97,103,101]
def qt6 (s:List UInt8):T := .mk 2 s 5 []
def qou (c w:T):T := .mk 3 nHa 0 [.mk 3 nPa 0 [c,w]]
def qfG (c:T):T:=qou c (qt6 nCh)
def qhh (c:T):T:=qou c (qt6 nMs)
theorem qmi (s:List UInt8):size (qt6 s)=1:=by rw [qC];rfl
theorem qrS (c w:T):size (qou c w)=size c+size w+2:=by
 unfold qou
 rw [qC]
 show 1+([T.mk 3 nPa 0 [c,w]].map size).sum=_
 rw [List.map_cons,List.map_nil,List.sum_cons,List.sum_nil,qC]
 show 1+(1+([c,w].map size).sum+0)=_
 simp only [List.map_cons,List.map_nil,List.sum_cons,List.sum_nil]
 omega
theorem qhe (c:T):size (qfG c)=size c+3:=by unfold qfG;rw [qrS,qmi]
theorem qqf (c:T):size (qhh c)=size c+3:=by unfold qhh;rw [qrS,qmi]
theorem qsr (c w:T) (h1:size c≤1000000000) (h2:size w≤1000000000):Ev (λ m _=>Jl m c w) (qou c w):=by
 refine Ev.succ ?_
 simp only [qo4,qc6,qe]
 exact Ev.bind (qr0 c h1) (Ev.bind (qr0 w h2) (Ev.pure _))
theorem qCZ (s:List UInt8):Ev (λ m _=>qed m s) (qt6 s):=Ev.succ (Ev.pure _)
theorem qHh (c:T) (h:size c≤1000000000):Ev (λ m _=>qbq m c) (qfG c):=by
 refine Ev.succ ?_
 simp only [qtJ,qfa,qe]
 exact Ev.bind (qCZ _) (Ev.bind (qsr c _ h (by rw [qmi];omega)) (Ev.pure _))
theorem qHM (c:T) (h:size c≤1000000000):Ev (λ m _=>qce m c) (qhh c):=by
 refine Ev.succ ?_
 simp only [qvx,qgu,qe]
 exact Ev.bind (qCZ _) (Ev.bind (qsr c _ h (by rw [qmi];omega)) (Ev.pure _))
theorem qpo (c:T) (s:List UInt8):Ev (λ m _=>qak m c s) (qou c (qt6 s)):=by
 refine Ev.succ ?_
 simp only [qsF,qeI,qe]
 refine Ev.bind (a:=qt6 s) (Ev.succ (Ev.pure _)) (Ev.bind (qbl _ _ (by simp)) (Ev.bind (qbl _ _ (by simp)) (Ev.ret rfl)))
theorem qFV (c:T):Ev (λ m _=>qdm m c) (qfG c):=by
 refine Ev.succ ?_
 simp only [qwF,qhw,qe]
 exact Ev.bind (qpo c _) (Ev.ret rfl)
theorem qGR (c:T):Ev (λ m _=>qeY m c) (qhh c):=by
 refine Ev.succ ?_
 simp only [qzd,qiw,qe]
 exact Ev.bind (qpo c _) (Ev.ret rfl)
theorem qAq (t:T) (h:size t≤1000000000):Ev (λ m _=>qaE m t) (!decide (qA t=0)):=by
 refine Ev.succ ?_
 simp only [qw2,qhq,qe]
 refine Ev.bind (qay t h) (Ev.ret ?_)
 by_cases h0:qA t=0
 ·rw [qi.2 h0,decide_eq_true h0];rfl
 ·rw [qg.2 h0,decide_eq_false h0];rfl
def t00:T := .mk 0 [] 0 []
noncomputable def qiU:Nat→T→T × Int
 | 0,c=>if qA (qhh c)=0 then (qhh c,0) else (t00,3)
 | n+1,c=>if qA (qfG c)=0 then qiU n (qfG c) else (t00,3)
theorem quK:∀ (n:Nat) (c:T),size (qiU n c).1≤size c+3*n+3
 | 0,c=>by
   unfold qiU;split
   ·rw [qqf];omega
   ·show size t00≤_;rw [show size t00=1 by rw [qC];rfl];omega
 | n+1,c=>by
   have:=quK n (qfG c)
   rw [qhe] at this
   unfold qiU;split
   ·omega
   ·show size t00≤_;rw [show size t00=1 by rw [qC];rfl];omega
noncomputable def qty (t:T) (i:Int):T × Int:=if qei t=false then (t00,10) else if i<0 then (t00,7) else if 1000≤i then (t00,7) else qiU i.toNat t
theorem qGF (t:T) (i:Int) (hs:size t≤10000):Ev (λ m _=>qaQ m t i) (qty t i):=by
 refine Ev.succ ?_
 simp only [qvk,qdx,qe]
 refine Ev.bind (qqY t (by omega)) ?_
 unfold qty
 cases hb:qei t with
 | false=>exact Ev.ct rfl (Ev.pure _)
 | true =>
   rw [if_neg (by decide)]
   refine Ev.cf rfl ?_
   by_cases h1:i<0
   ·rw [if_pos h1];exact Ev.ct (qu.2 h1) (Ev.pure _)
   rw [if_neg h1]
   refine Ev.cf (qv.2 (by omega)) ?_
   by_cases h2:1000≤i
   ·rw [if_pos h2];exact Ev.ct (qgM.2 h2) (Ev.pure _)
   rw [if_neg h2]
   refine Ev.cf (qic.2 (by omega)) (Ev.bind (qr0 t (by omega)) ?_)
   obtain ⟨n,rfl⟩:=Int.eq_ofNat_of_zero_le (by omega:0≤i)
   rw [Int.toNat_natCast]
   have key:∀ (d j:Nat) (c:T),n=j+d→size c+3*d≤100000→Ev (λ m k=>Js m k n j 0 [] 0 c.kind c.name c.sort c.kids []) (qiU d c):=by
    intro d
    induction d with
    | zero =>
      intro j c hn hc
      refine Ev.loop ?_
      simp only [qkI,qdr,qm4,qe]
      refine Ev.cf (qv.2 (by omega)) (Ev.bind (qHM c (by omega)) (Ev.bind (qar _ (by rw [qqf];omega)) ?_))
      unfold qiU
      by_cases h0:qA (qhh c)=0
      ·rw [if_pos h0,h0];exact Ev.cf rfl (Ev.pure _)
      ·rw [if_neg h0];exact Ev.ct (by rw [qg.2 h0];rfl) (Ev.pure _)
    | succ d ih =>
      intro j c hn hc
      refine Ev.loop ?_
      simp only [qkI,qdr,qm4,qe]
      refine Ev.ct (qu.2 (by omega)) (Ev.bind (qHh c (by omega)) (Ev.bind (qar _ (by rw [qhe];omega)) ?_))
      unfold qiU
      by_cases h0:qA (qfG c)=0
      ·rw [if_pos h0,h0]
       refine Ev.cf rfl ?_
       rw [show qj (j:Int) 1=((j+1:Nat):Int) by unfold qj;omega,Qo (by omega)]
       exact ih (j+1) (qfG c) (by omega) (by rw [qhe];omega)
      ·rw [if_neg h0];exact Ev.ct (by rw [qg.2 h0];rfl) (Ev.pure _)
   exact Ev.diag (L := λ m k=>Js m k n 0 0 [] 0 t.kind t.name t.sort t.kids []) (key n 0 t (by omega) (by omega))
theorem qGx (t:T) (i:Int) (hs:size t≤10000):Ev (λ m _=>qg2 m t i) (qty t i):=by
 refine Ev.succ ?_
 simp only [qy8,qfL,qe]
 refine Ev.bind (qsu t hs) ?_
 unfold qty
 cases hb:qei t with
 | false=>exact Ev.ct rfl (Ev.pure _)
 | true =>
   rw [if_neg (by decide)]
   refine Ev.cf rfl ?_
   by_cases h1:i<0
   ·rw [if_pos h1];exact Ev.ct (qu.2 h1) (Ev.pure _)
   rw [if_neg h1]
   refine Ev.cf (qv.2 (by omega)) ?_
   by_cases h2:1000≤i
   ·rw [if_pos h2];exact Ev.ct (qgM.2 h2) (Ev.pure _)
   rw [if_neg h2]
   refine Ev.cf (qic.2 (by omega)) ?_
   obtain ⟨n,rfl⟩:=Int.eq_ofNat_of_zero_le (by omega:0≤i)
   rw [Int.toNat_natCast]
   have key:∀ (d:Nat) (c:T),d≤1000→size c+3*d≤100000→Ev (λ m k=>qaX m k d c.kind c.name c.sort c.kids 0 [] 0 []) (qiU d c):=by
    intro d
    induction d with
    | zero =>
      intro c hd hc
      refine Ev.loop ?_
      simp only [qnY,qff,qm4,qe]
      refine Ev.cf (qv.2 (by omega)) (Ev.bind (qGR c) (Ev.bind (qAq _ (by rw [qqf];omega)) ?_))
      unfold qiU
      by_cases h0:qA (qhh c)=0
      ·rw [if_pos h0,decide_eq_true h0];exact Ev.cf rfl (Ev.pure _)
      ·rw [if_neg h0,decide_eq_false h0];exact Ev.ct rfl (Ev.pure _)
    | succ d ih =>
      intro c hd hc
      refine Ev.loop ?_
      simp only [qnY,qff,qm4,qe]
      refine Ev.ct (qu.2 (by omega)) (Ev.bind (qFV c) (Ev.bind (qAq _ (by rw [qhe];omega)) ?_))
      unfold qiU
      by_cases h0:qA (qfG c)=0
      ·rw [if_pos h0,decide_eq_true h0]
       refine Ev.cf rfl ?_
       rw [show jK ((d+1:Nat):Int) 1=(d:Int) by unfold jK;omega,Qo (by omega)]
       exact ih (qfG c) (by omega) (by rw [qhe];omega)
      ·rw [if_neg h0,decide_eq_false h0];exact Ev.ct rfl (Ev.pure _)
   exact Ev.diag (L := λ m k=>qaX m k n t.kind t.name t.sort t.kids 0 [] 0 []) (key n t (by omega) (by omega))
noncomputable def qnX (t:T):Rt × Int:=if qei t=false then ((t00,(0,([],0))),10) else ((t,(0,([],4))),0)
theorem qGT (t:T) (hs:size t≤10000):Ev (λ m _=>qcf m t) (qnX t):=by
 refine Ev.succ ?_
 simp only [qvA,qgg,qe]
 refine Ev.bind (qqY t (by omega)) ?_
 unfold qnX
 cases hb:qei t with
 | false=>exact Ev.ct rfl (Ev.pure _)
 | true =>
   rw [if_neg (by decide)]
   exact Ev.cf rfl (Ev.bind (qr0 t (by omega)) (Ev.pure _))
theorem qGi (t:T) (hs:size t≤10000):Ev (λ m _=>qe3 m t) (qnX t):=by
 refine Ev.succ ?_
 simp only [qzy,qi5,qe]
 refine Ev.bind (qsu t hs) ?_
 unfold qnX
 cases hb:qei t with
 | false=>exact Ev.ct rfl (Ev.pure _)
 | true =>
   rw [if_neg (by decide)]
   exact Ev.cf rfl (Ev.pure _)
theorem qC2 (r:Rt) (hl:r.2.2.1.length<2 ^ 62) (h0:size r.1≤1000000000) (h1:∀ s∈r.2.2.1,size s.2≤1000000000):Ev (λ m _=>qfY m r r) true:=by
 obtain ⟨c,n,l,w⟩:=r
 refine Ev.succ ?_
 simp only [qwH,qew,qe]
 have eq0:∀ x:Int,qc (ieq x x)=false := λ x=>bnf.2 (qi.2 rfl)
 refine Ev.cf (eq0 _) (Ev.cf (eq0 _) (Ev.cf (eq0 _) (Ev.bind (qb0 c c h0 h0) (Ev.cf (bnf.2 (Q9.2 rfl)) ?_))))
 have key:=qr (P := λ i=>Ev (λ m k=>J1 m k i c.kind c.name c.sort c.kids n l w c.kind c.name c.sort c.kids n l w) true) l hl
  (λ hc=>by
   refine Ev.loop ?_
   simp only [qmz,qev]
   exact Ev.cf hc (Ev.pure _))
  (λ i x hx hd hc hg hi hP=>by
   refine Ev.loop ?_
   simp only [qmz,qev,qe]
   have h2:=h1 x (List.mem_of_getElem? hx)
   refine Ev.ct hc (Ev.some hg (Ev.some hg (Ev.cf (eq0 _) (Ev.some hg (Ev.some hg (Ev.bind (qb0 _ _ h2 h2) (Ev.cf (bnf.2 (Q9.2 rfl)) ?_)))))))
   rw [hi]
   exact hP)
 exact Ev.diag (L := λ m k=>J1 m k 0 c.kind c.name c.sort c.kids n l w c.kind c.name c.sort c.kids n l w) (key 0 (Nat.zero_le _))
theorem ratchetNew_ev (t:T) (i:Int) (hf:qp7 t) (_:IntKind.i64.min≤i∧i≤IntKind.i64.max):Ev (λ m _=>law53_RatchetNew m t i) true:=by
 refine Ev.succ ?_
 simp only [qob,qci,qe]
 have hj:Ev (λ m _=>qa (qaY m) λ v2=>some v2) true:=Ev.bind qrT (Ev.pure _)
 refine Ev.bind qrT (Ev.cf rfl (Ev.bind (qHB [t] (by simp) (λ x hx=>by rw [List.mem_singleton.1 hx];exact hf) 1 100 (by omega) (by omega)) ?_))
 cases hb:(decide ([t].length≤1)&&qm2 [t] 100) with
 | false=>exact Ev.ct rfl hj
 | true =>
   rw [Bool.and_eq_true] at hb
   have hs:size t≤100:=by have:=qFS (by omega) hb.2 t (List.mem_singleton.2 rfl);omega
   refine Ev.cf rfl (Ev.bind (qGT t (by omega)) (Ev.bind (qGi t (by omega)) (Ev.bind (qGF t i (by omega)) (Ev.bind (qGx t i (by omega)) ?_))))
   have hks:size (qty t i).1≤10000:=by
    have h0:size t00=1:=by rw [qC];rfl
    unfold qty
    split
    ·show size t00≤_;omega
    split
    ·show size t00≤_;omega
    split
    ·show size t00≤_;omega
    ·have:=quK i.toNat t;omega
   have hns:size (qnX t).1.1≤10000∧(qnX t).1.2.2.1=[]:=by
    have h0:size t00=1:=by rw [qC];rfl
    unfold qnX
    split
    ·exact ⟨by show size t00≤_;omega,rfl⟩
    ·exact ⟨by show size t≤_;omega,rfl⟩
   refine Ev.ct (qi.2 rfl) (Ev.bind (qC2 (qnX t).1 (by rw [hns.2];decide) (by omega) (by rw [hns.2];intro s hs;cases hs)) (Ev.ct rfl (Ev.ct (qi.2 rfl) (Ev.bind (qb0 _ _ (by omega) (by omega)) ?_))))
   exact Ev.ret (Q9.2 rfl)
end Go.AmYtbpnmbmdbblehaaGreat
namespace Go.AmYtbpnmbmdbblehaaGreat
open Go Go.GxYtbpnmbmdbblehaaGreat
set_option linter.unusedVariables false
set_option maxRecDepth 100000
open Go.Proofs.Tryz (f3 f10 f11 f12 f13 f14 f15 f16 f17 f19 f21 f22 f23 f25 f35 f38 f39 f40 f41 f42 f43 f44 f45 f46 f47 f48 f49 f50 f51 f54 f62 f64 f65 f66 f67 f68 f69 f70 f71 f72 f73 f74 f75 f76 f77 f78 f79 f81 f85 f86 f87 f88 f89 f90 f91 f92 f93 f94 f95 f96 f97 f98 f99 f100 f101 f102 f103 f104 f120 f121 f122 f123 f124 f125 f127 f128 f129 f130 f131 f132 f133 f134 f143 f146 f147 f148 f149 f150 f151 f152 f156 f157 f158 f159 f160 f161 f163 f164 f167 f168 f169 f172 f173 f174 f175 f176 f177 f178 f179 f180 f181 f182 f183 f184 f185 f188 f189 f190 f191 f192 f193 f195 f197 f198 f199 f202 f203 f214 f215 f219 f220 f223 f224 f235)
noncomputable def i3:FI:=⟨f3,[.val .term,.val (.int .i64)],[.bool],[],[],λ m x=>law53_RatchetNew m x.1 x.2.1⟩
noncomputable def i10:FI:=⟨f10,[],[.bool],[],[],λ m x=>qaY m⟩
noncomputable def i11:FI:=⟨f11,[.val (.list .term),.val (.int .i64),.val (.int .i64)],[.bool],[(4,[(0,.list .term),(2,.keep),(7,.keep)])],[],λ m x=>qg0 m x.1 x.2.1 x.2.2.1⟩
noncomputable def i12:FI:=⟨f12,[.val .term],[(.pair .term (.pair (.int .i64) (.pair (.list (.pair (.int .i64) .term)) (.int .i64)))),(.int .i64)],[],[],λ m x=>qcf m x.1⟩
noncomputable def i13:FI:=⟨f13,[.val .term],[(.pair .term (.pair (.int .i64) (.pair (.list (.pair (.int .i64) .term)) (.int .i64)))),(.int .i64)],[],[],λ m x=>qe3 m x.1⟩
noncomputable def i14:FI:=⟨f14,[.val .term,.val (.int .i64)],[.term,(.int .i64)],[(7,[(4,.box [.keep,.keep,.keep,.row .term false]),(6,.box [.keep,.keep,.keep,.list .term]),(21,.keep),(22,.keep)])],[],λ m x=>qaQ m x.1 x.2.1⟩
noncomputable def i15:FI:=⟨f15,[.val .term,.val (.int .i64)],[.term,(.int .i64)],[(5,[(1,.keep),(2,.box [.keep,.keep,.keep,.list .term]),(4,.box [.keep,.keep,.keep,.row .term false])])],[],λ m x=>qg2 m x.1 x.2.1⟩
noncomputable def i16:FI:=⟨f16,[.val (.pair .term (.pair (.int .i64) (.pair (.list (.pair (.int .i64) .term)) (.int .i64)))),.val (.pair .term (.pair (.int .i64) (.pair (.list (.pair (.int .i64) .term)) (.int .i64))))],[.bool],[(4,[(2,.box [.keep,.keep,.keep,.list .term,.keep,.list (.pair (.int .i64) .term),.keep]),(3,.box [.keep,.keep,.keep,.list .term,.keep,.list (.pair (.int .i64) .term),.keep]),(5,.keep)])],[],λ m x=>qfY m x.1 x.2.1⟩
noncomputable def i17:FI:=⟨f17,[.val .term,.val .term],[.bool],[],[],λ m x=>yS m x.1 x.2.1⟩
noncomputable def i19:FI:=⟨f19,[.val (.pair .term (.pair (.int .i64) (.pair (.list (.pair (.int .i64) .term)) (.int .i64)))),.val (.pair (.int .i64) .term)],[(.pair .term (.pair (.int .i64) (.pair (.list (.pair (.int .i64) .term)) (.int .i64)))),.term,(.int .i64)],[(17,[(3,.box [.keep,.keep,.keep,.keep,.list .term]),(4,.box [.keep,.keep,.keep,.row .term false,.keep,.row (.pair (.int .i64) .term) false,.keep]),(5,.box [.keep,.keep,.keep,.row .term false]),(7,.box [.keep,.keep,.keep,.list .term,.keep,.row (.pair (.int .i64) .term) false,.keep])])],[],λ m x=>qaB m x.1 x.2.1⟩
noncomputable def i21:FI:=⟨f21,[.val (.pair .term (.pair (.int .i64) (.pair (.list (.pair (.int .i64) .term)) (.int .i64))))],[(.int .i64)],[(5,[(1,.box [.keep,.keep,.keep,.list .term,.keep,.list (.pair (.int .i64) .term),.keep]),(3,.keep),(39,.list (.pair (.int .i64) .term)),(40,.keep),(41,.keep)])],[],λ m x=>qhp m x.1⟩
noncomputable def i22:FI:=⟨f22,[],[.term],[],[],λ m x=>qdQ m⟩
noncomputable def i23:FI:=⟨f23,[.val .str,.val (.int .i64)],[.term],[],[],λ m x=>qfu m x.1 x.2.1⟩
noncomputable def i25:FI:=⟨f25,[.val (.pair .term (.pair (.int .i64) (.pair (.list (.pair (.int .i64) .term)) (.int .i64))))],[(.int .i64)],[(5,[(1,.box [.keep,.keep,.keep,.list .term,.keep,.list (.pair (.int .i64) .term),.keep]),(3,.keep),(4,.keep)])],[],λ m x=>qkp m x.1⟩
noncomputable def i35:FI:=⟨f35,[.val (.pair .term (.pair (.int .i64) (.pair (.list (.pair (.int .i64) .term)) (.int .i64)))),.val .term],[(.pair .term (.pair (.int .i64) (.pair (.list (.pair (.int .i64) .term)) (.int .i64)))),(.pair (.int .i64) .term),(.int .i64)],[],[],λ m x=>ql4 m x.1 x.2.1⟩
noncomputable def i38:FI:=⟨f38,[.val .str],[.term,(.int .i64)],[],[],λ m x=>qgP m x.1⟩
noncomputable def i39:FI:=⟨f39,[.val (.int .i64)],[(.list (.pair (.int .i64) .term))],[(4,[(0,.keep),(3,.box [.keep,.keep,.keep,.list .term,.keep,.list (.pair (.int .i64) .term),.keep]),(5,.row (.pair (.int .i64) .term) false),(6,.keep)])],[],λ m x=>qlZ m x.1⟩
noncomputable def i40:FI:=⟨f40,[.val .term,.val (.int .i64)],[(.int .i64)],[(5,[(1,.keep),(2,.box [.keep,.keep,.keep,.list .term]),(5,.keep)])],[],λ m x=>ye m x.1 x.2.1⟩
noncomputable def i41:FI:=⟨f41,[.val .term],[.bool],[],[],λ m x=>jC m x.1⟩
noncomputable def i42:FI:=⟨f42,[.val .term],[.term],[],[],λ m x=>yE m x.1⟩
noncomputable def i43:FI:=⟨f43,[.val .term],[.bool],[],[],λ m x=>Qi m x.1⟩
noncomputable def i44:FI:=⟨f44,[.val .term],[.term],[],[],λ m x=>qbq m x.1⟩
noncomputable def i45:FI:=⟨f45,[.val .term],[(.int .i64)],[],[],λ m x=>zu m x.1⟩
noncomputable def i46:FI:=⟨f46,[.val .term],[.term],[],[],λ m x=>qce m x.1⟩
noncomputable def i47:FI:=⟨f47,[.val .term],[.term],[],[],λ m x=>qdm m x.1⟩
noncomputable def i48:FI:=⟨f48,[.val .term],[.bool],[],[],λ m x=>qaE m x.1⟩
noncomputable def i49:FI:=⟨f49,[.val .term],[.term],[],[],λ m x=>qeY m x.1⟩
noncomputable def i50:FI:=⟨f50,[.val .term,.val .term],[(.int .i64)],[(18,[(2,.box [.keep,.keep,.keep,.list .term]),(3,.box [.keep,.keep,.keep,.list .term]),(9,.keep)])],[],λ m x=>zi m x.1 x.2.1⟩
noncomputable def i51:SI:=⟨f51,[.val (.pair .term (.pair (.int .i64) (.pair (.list (.pair (.int .i64) .term)) (.int .i64))))],[.agg [.val .term,.val (.int .i64),.row (.pair (.int .i64) .term),.val (.int .i64)]],[(4,[(1,.box [.keep,.keep,.keep,.list .term,.keep,.list (.pair (.int .i64) .term),.keep]),(2,.box [.keep,.keep,.keep,.row .term false,.keep,.row (.pair (.int .i64) .term) false,.keep]),(3,.row (.pair (.int .i64) .term) false),(11,.list (.pair (.int .i64) .term)),(12,.keep),(13,.keep)])],[],λ m x=>qkm m x.1⟩
noncomputable def i54:FI:=⟨f54,[.val .term,.val .term],[.term,.bool],[],[],λ m x=>qdI m x.1 x.2.1⟩
noncomputable def i62:FI:=⟨f62,[.val (.list .term)],[(.list .term)],[(3,[(0,.list .term),(3,.list .term),(4,.keep)])],[],λ m x=>qg6 m x.1⟩
noncomputable def i64:FI:=⟨f64,[.val .str,.val (.list .term)],[.term],[],[],λ m x=>yu m x.1 x.2.1⟩
noncomputable def i65:FI:=⟨f65,[.val .term,.val .term],[.term],[],[],λ m x=>Jl m x.1 x.2.1⟩
noncomputable def i66:FI:=⟨f66,[.val .str,.val (.int .i64)],[.term,.str,.bool],[(13,[(0,.keep),(1,.keep),(4,.box [.keep,.keep,.keep,.row .term false]),(7,.box [.keep,.keep,.keep,.row .term false])])],[],λ m x=>qfR m x.1 x.2.1⟩
noncomputable def i67:FI:=⟨f67,[.val .term],[(.int .i64)],[],[],λ m x=>zI m x.1⟩
noncomputable def i68:FI:=⟨f68,[.val .term],[.bool],[],[],λ m x=>qdb m x.1⟩
noncomputable def i69:FI:=⟨f69,[.val .term],[(.list .term)],[],[],λ m x=>qg1 m x.1⟩
noncomputable def i70:FI:=⟨f70,[.val .term,.val (.list (.int .i64))],[.term,(.int .i64)],[(2,[(2,.box [.keep,.keep,.keep,.list .term]),(4,.box [.keep,.keep,.keep,.row .term false]),(8,.list (.int .i64)),(9,.keep),(10,.keep)])],[],λ m x=>qkX m x.1 x.2.1⟩
noncomputable def i71:FI:=⟨f71,[.val .term],[.bool],[(6,[(5,.list .term),(6,.keep)])],[],λ m x=>qef m x.1⟩
noncomputable def i72:FI:=⟨f72,[.val .term],[.bool],[],[],λ m x=>qc5 m x.1⟩
noncomputable def i73:FI:=⟨f73,[.val .str],[.term],[],[],λ m x=>qed m x.1⟩
noncomputable def i74:SI:=⟨f74,[.val .term,.val (.int .i64),.box [.val (.int .i64)],.box [.val (.int .i64)]],[.one (.val (.int .i64))],[(17,[(1,.keep),(2,.box [.keep]),(3,.box [.keep]),(57,.list .term),(58,.keep),(59,.keep)])],[],λ m x=>zF m x.1 x.2.1 x.2.2.1 x.2.2.2.1⟩
noncomputable def i75:FI:=⟨f75,[.val .term,.val .str],[.term],[],[],λ m x=>qak m x.1 x.2.1⟩
noncomputable def i76:FI:=⟨f76,[.val (.int .i64),.val (.int .i64)],[(.int .i64)],[],[],λ m x=>Jf m x.1 x.2.1⟩
noncomputable def i77:FI:=⟨f77,[.val .term],[(.int .i64)],[(3,[(1,.box [.keep,.keep,.keep,.list .term]),(3,.keep),(4,.keep)])],[],λ m x=>yA m x.1⟩
noncomputable def i78:FI:=⟨f78,[.val .term,.val .term],[(.int .i64)],[(11,[(2,.box [.keep,.keep,.keep,.list .term]),(3,.box [.keep,.keep,.keep,.list .term]),(5,.keep),(6,.keep)])],[],λ m x=>qs m x.1 x.2.1⟩
noncomputable def i79:FI:=⟨f79,[.val .term,.val .str],[.bool],[],[],λ m x=>J6 m x.1 x.2.1⟩
noncomputable def i81:FI:=⟨f81,[.val (.list .term),.val .term],[.bool],[(2,[(0,.list .term),(3,.box [.keep,.keep,.keep,.list .term]),(5,.keep)])],[],λ m x=>qgY m x.1 x.2.1⟩
noncomputable def i85:FI:=⟨f85,[.val (.list .term),.val .term],[(.list .term)],[(4,[(0,.list .term),(3,.box [.keep,.keep,.keep,.list .term]),(5,.row .term false),(6,.keep),(7,.keep)])],[],λ m x=>qeX m x.1 x.2.1⟩
noncomputable def i86:FI:=⟨f86,[.val .str],[.str],[(2,[(0,.keep),(3,.keep)])],[],λ m x=>qfj m x.1⟩
noncomputable def i87:FI:=⟨f87,[.val .str],[.bool],[(4,[(0,.keep),(3,.keep)])],[],λ m x=>Qb m x.1⟩
noncomputable def i88:FI:=⟨f88,[.val .term,.val .str],[.term,.str,.bool],[(5,[(1,.keep),(2,.box [.keep,.keep,.keep,.list .term]),(4,.box [.keep,.keep,.keep,.row .term false]),(7,.keep),(8,.keep)])],[],λ m x=>qib m x.1 x.2.1⟩
noncomputable def i89:FI:=⟨f89,[.val .term],[(.int .i64)],[(5,[(1,.box [.keep,.keep,.keep,.list .term]),(4,.keep)])],[],λ m x=>yH m x.1⟩
noncomputable def i90:FI:=⟨f90,[.val .term],[(.int .i64)],[(3,[(1,.box [.keep,.keep,.keep,.list .term]),(3,.keep),(4,.keep)])],[],λ m x=>yK m x.1⟩
noncomputable def i91:FI:=⟨f91,[.val .term],[.term,(.int .i64)],[],[],λ m x=>qb3 m x.1⟩
noncomputable def i92:FI:=⟨f92,[.val .term,.val .term],[.bool],[],[],λ m x=>j9 m x.1 x.2.1⟩
noncomputable def i93:FI:=⟨f93,[.val .term,.fn],[.bool],[(4,[(1,.keep),(18,.list .term),(19,.keep),(20,.keep)])],[],λ m x=>qH m x.1⟩
noncomputable def i94:FI:=⟨f94,[.val .str],[.bool],[],[],λ m x=>qbn m x.1⟩
noncomputable def i95:FI:=⟨f95,[.val .str],[(.pair .str (.pair (.int .i64) (.pair (.int .i64) (.int .i64))))],[(2,[(0,.keep),(2,.box [.keep,.keep,.keep,.keep]),(5,.list (.pair .str (.pair (.int .i64) (.pair (.int .i64) (.int .i64))))),(6,.keep),(7,.keep)])],[],λ m x=>qal m x.1⟩
noncomputable def i96:FI:=⟨f96,[.val .term,.val (.int .i64)],[(.list .term)],[],[],λ m x=>qgH m x.1 x.2.1⟩
noncomputable def i97:FI:=⟨f97,[.val .term],[.term],[(4,[(1,.box [.keep,.keep,.keep,.row .term false]),(2,.box [.keep,.keep,.keep,.row .term false]),(9,.list .term),(10,.keep),(11,.keep)])],[],λ m x=>yg m x.1⟩
noncomputable def i98:FI:=⟨f98,[.val .term],[.term,(.int .i64)],[],[],λ m x=>qcM m x.1⟩
noncomputable def i99:FI:=⟨f99,[.val .term],[(.list .term)],[(3,[(1,.box [.keep,.keep,.keep,.list .term]),(3,.row .term true),(4,.keep)])],[],λ m x=>jh m x.1⟩
noncomputable def qFP:FI:=⟨f100,[.val .str],[(.int .i64)],[(3,[(0,.keep),(3,.list (.pair .str (.pair (.int .i64) (.pair (.int .i64) (.int .i64))))),(4,.keep)])],[],λ m x=>qbW m x.1⟩
noncomputable def qIC:FI:=⟨f101,[.val .term],[(.list .term)],[],[],λ m x=>qf4 m x.1⟩
noncomputable def qF2:FI:=⟨f102,[.val .str],[.bool],[(4,[(0,.keep),(38,.keep),(39,.keep)])],[],λ m x=>qaO m x.1⟩
noncomputable def qHU:FI:=⟨f103,[.val (.int .i64),.val (.int .i64)],[(.int .i64)],[],[],λ m x=>qbz m x.1 x.2.1⟩
noncomputable def qEq:FI:=⟨f104,[.val .term],[(.int .i64)],[(3,[(3,.keep),(7,.list .term),(8,.keep),(9,.keep)])],[],λ m x=>ji m x.1⟩
noncomputable def qIv:FI:=⟨f120,[.val (.int .u8)],[.bool],[],[],λ m x=>J7 m x.1⟩
noncomputable def qIO:FI:=⟨f121,[.val (.int .u8)],[.bool],[],[],λ m x=>qcd m x.1⟩
noncomputable def qH0:FI:=⟨f122,[.val (.int .i64)],[.str],[],[],λ m x=>qlv m x.1⟩
noncomputable def qIK:FI:=⟨f123,[.val .term],[(.int .i64)],[],[],λ m x=>qfO m x.1⟩
noncomputable def qHH:FI:=⟨f124,[.val .term],[(.int .i64)],[],[],λ m x=>qcJ m x.1⟩
noncomputable def qEi:FI:=⟨f125,[.val .term],[.term,(.int .i64)],[(5,[(1,.box [.keep,.keep,.keep,.list .term]),(2,.box [.keep,.keep,.keep,.row .term false]),(4,.box [.keep,.keep,.keep,.row .term false]),(19,.list .term),(20,.keep),(21,.keep)])],[],λ m x=>zM m x.1⟩
noncomputable def qEw:SI:=⟨f127,[.val .term,.clo 128 2,.box [.val (.int .i64)],.box [.row .term]],[],[(3,[(1,.fn [.box [.keep],.box [.row .term false]]),(10,.list .term),(11,.keep),(12,.keep)])],[],λ m x=>qZ m x.1 x.2.1 x.2.2.1⟩
noncomputable def qIH:SI:=⟨f128,[.val .term,.box [.val (.int .i64)],.box [.row .term]],[],[],[],λ m x=>Qm m x.1 x.2.1 x.2.2.1⟩
noncomputable def qF3:SI:=⟨f129,[.row .term],[.one (.row .term)],[(4,[(0,.row .term false),(9,.keep),(10,.keep)])],[],λ m x=>qcR m x.1⟩
noncomputable def qHZ:FI:=⟨f130,[.val .term],[(.int .i64)],[],[],λ m x=>qea m x.1⟩
noncomputable def qEY:FI:=⟨f131,[.val .term],[.term,(.int .i64)],[(5,[(1,.box [.keep,.keep,.keep,.list .term]),(2,.box [.keep,.keep,.keep,.row .term false]),(4,.row .term false),(5,.keep)])],[],λ m x=>yf m x.1⟩
noncomputable def qIo:FI:=⟨f132,[],[(.list (.pair .str (.pair (.int .i64) (.pair (.int .i64) (.int .i64)))))],[],[],λ m x=>qeo m⟩
noncomputable def qFX:FI:=⟨f133,[.val .term,.val (.int .i64)],[(.list .term)],[(4,[(1,.keep),(5,.row .term false),(6,.list .term),(7,.keep)])],[],λ m x=>qfh m x.1 x.2.1⟩
noncomputable def qHL:FI:=⟨f134,[.val (.int .u8)],[.bool],[],[],λ m x=>qeT m x.1⟩
noncomputable def qEv:FI:=⟨f143,[.val (.list (.pair .term (.int .i64))),.val (.list (.pair .term (.int .i64)))],[(.list (.pair .term (.int .i64))),(.int .i64)],[(9,[(1,.list (.pair .term (.int .i64))),(8,.row (.pair .term (.int .i64)) false),(9,.keep)])],[],λ m x=>qhb m x.1 x.2.1⟩
noncomputable def qHz:FI:=⟨f146,[.val .term],[(.list (.pair .term (.int .i64))),(.int .i64)],[],[],λ m x=>qeM m x.1⟩
noncomputable def qCe:FI:=⟨f147,[.val .term],[(.int .i64)],[(13,[(1,.box [.keep,.keep,.keep,.list .term]),(38,.list .term),(39,.keep),(40,.keep)]),(22,[(62,.list .term),(63,.keep),(64,.keep)])],[],λ m x=>qz m x.1⟩
noncomputable def qIn:FI:=⟨f148,[.val .term],[.term],[],[],λ m x=>JS m x.1⟩
noncomputable def qEB:FI:=⟨f149,[.val (.list .term)],[.term,(.int .i64)],[(6,[(2,.box [.keep,.keep,.keep,.row .term true]),(5,.list .term),(15,.list .term),(16,.keep),(17,.keep)])],[],λ m x=>qkx m x.1⟩
noncomputable def qH1:FI:=⟨f150,[.val .term],[(.list (.pair .term (.int .i64))),(.int .i64)],[],[],λ m x=>JO m x.1⟩
noncomputable def qx3:FI:=⟨f151,[.val (.list (.pair .term (.int .i64)))],[.term,(.int .i64)],[(6,[(2,.box [.keep,.keep,.keep,.row .term false]),(5,.row .term false),(6,.row .term false),(18,.list (.pair .term (.int .i64))),(19,.keep),(20,.keep)]),(11,[(2,.box [.keep,.keep,.keep,.row .term false]),(5,.row .term false),(6,.row .term false),(8,.box [.keep,.keep,.keep,.list .term,.keep]),(18,.list (.pair .term (.int .i64))),(19,.keep),(20,.keep),(34,.keep),(35,.keep)]),(15,[(2,.box [.keep,.keep,.keep,.row .term false]),(5,.row .term false),(6,.row .term false),(8,.box [.keep,.keep,.keep,.list .term,.keep]),(18,.list (.pair .term (.int .i64))),(19,.keep),(20,.keep),(46,.keep),(47,.keep)])],[],λ m x=>jE m x.1⟩
noncomputable def qIh:FI:=⟨f152,[.val .term,.val .term],[.term,(.int .i64)],[],[],λ m x=>qcP m x.1 x.2.1⟩
noncomputable def qHP:FI:=⟨f156,[.val .term,.val .term],[.bool],[],[],λ m x=>ya m x.1 x.2.1⟩
noncomputable def qEV:FI:=⟨f157,[.val .term],[(.int .i64)],[(11,[(1,.box [.keep,.keep,.keep,.list .term]),(4,.keep)])],[],λ m x=>yq m x.1⟩
noncomputable def qID:FI:=⟨f158,[.val .term],[.term,.bool],[],[],λ m x=>qb6 m x.1⟩
noncomputable def qFm:FI:=⟨f159,[.val (.list .term)],[.term,(.int .i64)],[(6,[(0,.list .term),(2,.box [.keep,.keep,.keep,.row .term true]),(5,.list .term),(6,.keep)])],[],λ m x=>qg9 m x.1⟩
noncomputable def qHO:FI:=⟨f160,[.val .term],[.term,(.int .i64)],[],[],λ m x=>qan m x.1⟩
noncomputable def qIq:FI:=⟨f161,[.val .term,.val .term],[.term,(.int .i64)],[],[],λ m x=>qeg m x.1 x.2.1⟩
noncomputable def qEg:FI:=⟨f163,[.val .term],[(.list .term)],[(7,[(1,.box [.keep,.keep,.keep,.list .term]),(3,.list .term),(4,.keep)])],[],λ m x=>zr m x.1⟩
noncomputable def qFx:FI:=⟨f164,[.val (.list .term),.val .term],[(.int .i64)],[(4,[(0,.list .term),(3,.box [.keep,.keep,.keep,.list .term]),(5,.keep)])],[],λ m x=>qd8 m x.1 x.2.1⟩
noncomputable def qE8:FI:=⟨f167,[.val (.list (.pair .term (.int .i64)))],[(.int .i64)],[(4,[(0,.list (.pair .term (.int .i64))),(3,.keep)])],[],λ m x=>qaM m x.1⟩
noncomputable def qEr:SI:=⟨f168,[.row (.pair .term (.int .i64)),.val .term,.val (.int .i64)],[.one (.row (.pair .term (.int .i64)))],[(4,[(0,.row (.pair .term (.int .i64)) false),(2,.keep),(4,.box [.keep,.keep,.keep,.list .term]),(7,.row (.pair .term (.int .i64)) false),(8,.keep),(9,.keep)])],[],λ m x=>qe6 m x.1 x.2.1 x.2.2.1⟩
noncomputable def qER:FI:=⟨f169,[.val (.list (.pair .term (.int .i64)))],[(.int .i64)],[(2,[(0,.list (.pair .term (.int .i64))),(3,.keep)])],[],λ m x=>qb4 m x.1⟩
noncomputable def qFt:FI:=⟨f172,[.val .term],[.bool],[(7,[(1,.box [.keep,.keep,.keep,.list .term]),(3,.keep),(4,.keep)])],[],λ m x=>yn m x.1⟩
noncomputable def qEU:SI:=⟨f173,[.row (.pair .term (.int .i64)),.val .term,.val (.int .i64)],[.one (.row (.pair .term (.int .i64)))],[(6,[(0,.row (.pair .term (.int .i64)) false),(2,.keep),(4,.box [.keep,.keep,.keep,.list .term]),(7,.keep)])],[],λ m x=>zG m x.1 x.2.1 x.2.2.1⟩
noncomputable def qIi:FI:=⟨f174,[.val .term,.val .str],[.bool],[],[],λ m x=>yv m x.1 x.2.1⟩
noncomputable def qEs:FI:=⟨f175,[.val (.list .term),.val (.list .term)],[(.int .i64)],[(4,[(14,.list .term),(15,.keep),(16,.keep)])],[],λ m x=>qgS m x.1 x.2.1⟩
noncomputable def qEy:FI:=⟨f176,[.val (.list .term),.val (.list .term)],[(.list .term)],[(2,[(0,.list .term),(1,.list .term),(5,.row .term false)])],[],λ m x=>qga m x.1 x.2.1⟩
noncomputable def qET:FI:=⟨f177,[.val .term],[(.list .term)],[(6,[(3,.list .term),(31,.list .term),(32,.keep),(33,.keep)])],[],λ m x=>zO m x.1⟩
noncomputable def qEe:FI:=⟨f178,[.val (.list .term)],[(.list .term)],[(3,[(3,.row .term false),(9,.list .term),(10,.keep),(11,.keep)])],[],λ m x=>QD m x.1⟩
noncomputable def qE5:SI:=⟨f179,[.row (.pair .term (.int .i64)),.val .term,.val (.int .i64)],[.one (.row (.pair .term (.int .i64))),.one (.val .bool)],[(12,[(0,.row (.pair .term (.int .i64)) false),(2,.keep),(52,.list .term),(53,.keep),(54,.keep)])],[],λ m x=>qY m x.1 x.2.1 x.2.2.1⟩
noncomputable def qFM:FI:=⟨f180,[.val (.list (.pair .term (.int .i64)))],[(.int .i64)],[(4,[(0,.list (.pair .term (.int .i64))),(9,.list (.pair .term (.int .i64))),(10,.keep),(11,.keep)])],[],λ m x=>QQ m x.1⟩
noncomputable def qD8:FI:=⟨f181,[.val .term],[.term],[(3,[(1,.box [.keep,.keep,.keep,.row .term false]),(2,.box [.keep,.keep,.keep,.row .term false]),(10,.row .term false),(11,.keep),(12,.keep)])],[],λ m x=>q9 m x.1⟩
noncomputable def qIA:FI:=⟨f182,[.val .str,.val (.list .term)],[.term],[],[],λ m x=>qbj m x.1 x.2.1⟩
noncomputable def qAY:FI:=⟨f183,[.val (.list (.list .term))],[(.list .term)],[(3,[(0,.list (.list .term)),(3,.keep),(9,.list (.list .term)),(10,.keep),(11,.keep)]),(11,[(6,.row .term false),(25,.list (.list .term)),(26,.keep),(27,.keep)])],[],λ m x=>zc m x.1⟩
noncomputable def qEh:FI:=⟨f184,[.val (.list (.pair .term (.int .i64))),.val (.list (.pair .term (.int .i64)))],[(.list (.pair .term (.int .i64))),(.int .i64)],[(9,[(8,.row (.pair .term (.int .i64)) false),(23,.list (.pair .term (.int .i64))),(24,.keep),(25,.keep)])],[],λ m x=>qc9 m x.1 x.2.1⟩
noncomputable def qHJ:FI:=⟨f185,[.val .str,.val (.list .term)],[.term],[],[],λ m x=>qdk m x.1 x.2.1⟩
noncomputable def qEX:FI:=⟨f188,[.val .term],[.bool],[(3,[(1,.box [.keep,.keep,.keep,.list .term]),(3,.list (.pair .str (.pair (.int .i64) (.pair (.int .i64) (.int .i64))))),(4,.keep)])],[],λ m x=>qfZ m x.1⟩
noncomputable def qFf:FI:=⟨f189,[.val .term],[.bool],[(4,[(1,.box [.keep,.keep,.keep,.list .term]),(3,.keep)])],[],λ m x=>qde m x.1⟩
noncomputable def qHQ:FI:=⟨f190,[],[.term],[],[],λ m x=>qfr m⟩
noncomputable def qFc:FI:=⟨f191,[.val (.list .term),.val (.list .term)],[(.list .term)],[(3,[(1,.list .term),(5,.plist .term),(6,.keep)])],[],λ m x=>qdz m x.1 x.2.1⟩
noncomputable def qIm:FI:=⟨f192,[.val (.list .term)],[.term],[],[],λ m x=>qfn m x.1⟩
noncomputable def qHC:FI:=⟨f193,[.val (.list (.pair .term (.int .i64)))],[.term,(.int .i64)],[],[],λ m x=>qaG m x.1⟩
noncomputable def qIu:FI:=⟨f195,[.val .term],[.bool],[],[],λ m x=>Jt m x.1⟩
noncomputable def qEL:FI:=⟨f197,[.val .term,.val (.list (.int .i64)),.val .term],[.term,(.int .i64)],[(4,[(5,.box [.keep,.keep,.keep,.list .term]),(6,.box [.keep,.keep,.keep,.row .term false]),(8,.box [.keep,.keep,.keep,.list .term]),(9,.box []),(14,.list (.int .i64)),(15,.keep),(16,.keep)])],[],λ m x=>qc8 m x.1 x.2.1 x.2.2.1⟩
noncomputable def qIc:FI:=⟨f198,[.val .term],[.bool],[],[],λ m x=>Jm m x.1⟩
noncomputable def qHI:SI:=⟨f199,[.row (.pair .term (.int .i64)),.val (.pair .term (.int .i64))],[.one (.row (.pair .term (.int .i64)))],[],[],λ m x=>Jn m x.1 x.2.1⟩
noncomputable def qES:SI:=⟨f202,[.val (.list (.pair .term (.int .i64)))],[.one (.row (.pair .term (.int .i64)))],[(3,[(3,.row (.pair .term (.int .i64)) false),(6,.list (.pair .term (.int .i64))),(7,.keep),(8,.keep)])],[],λ m x=>qaA m x.1⟩
noncomputable def qIB:FI:=⟨f203,[.val (.list (.pair .term (.int .i64)))],[(.list (.pair .term (.int .i64))),(.int .i64)],[],[],λ m x=>qaI m x.1⟩
noncomputable def qEC:FI:=⟨f214,[.val (.list .term),.val .term],[(.list .term)],[(5,[(0,.list .term),(3,.box [.keep,.keep,.keep,.list .term]),(5,.row .term false),(6,.keep)])],[],λ m x=>qcZ m x.1 x.2.1⟩
noncomputable def qtS:FI:=⟨f215,[.val (.list (.pair .term (.int .i64)))],[(.list .term)],[(3,[(0,.list (.pair .term (.int .i64))),(3,.row .term false),(4,.keep)]),(6,[(0,.list (.pair .term (.int .i64))),(3,.row .term false),(4,.keep),(5,.keep)]),(10,[(0,.list (.pair .term (.int .i64))),(3,.row .term false),(6,.keep)]),(13,[(0,.list (.pair .term (.int .i64))),(3,.row .term false),(6,.keep),(7,.keep)])],[],λ m x=>qbh m x.1⟩
noncomputable def qE7:FI:=⟨f219,[.val (.list (.pair .term (.int .i64))),.val .term,.fn],[(.int .i64),.bool],[(3,[(0,.list (.pair .term (.int .i64))),(2,.keep),(4,.box [.keep,.keep,.keep,.list .term]),(8,.keep),(9,.keep),(10,.keep)])],[],λ m x=>qx m x.1 x.2.1⟩
noncomputable def qH8:FI:=⟨f220,[.val (.pair .term (.int .i64)),.val .term],[(.int .i64)],[],[],λ m x=>Qp m x.1 x.2.1⟩
noncomputable def qH9:FI:=⟨f223,[.val (.list (.pair .term (.int .i64))),.fn],[.bool],[],[],λ m x=>qQ m x.1⟩
noncomputable def qHT:FI:=⟨f224,[.val (.pair .term (.int .i64))],[.bool],[],[],λ m x=>Jx m x.1⟩
noncomputable def qFs:FI:=⟨f235,[.val (.list (.pair .term (.int .i64))),.fn],[(.int .i64)],[(2,[(0,.list (.pair .term (.int .i64))),(1,.keep),(7,.keep),(8,.keep)])],[],λ m x=>qW m x.1⟩
noncomputable def elT (f:Nat):Option Ty :=
cond (Nat.blt f 121)
 (cond (Nat.blt f 47)
 (cond (Nat.blt f 27)
 (cond (Nat.beq f 22) (some .term) (none))
 (cond (Nat.blt f 45)
 (cond (Nat.beq f 27) (some (.pair (.int .i64) .term)) (none))
 (cond (Nat.beq f 45) (some (.int .u8)) (none))))
 (cond (Nat.blt f 57)
 (cond (Nat.blt f 49)
 (cond (Nat.beq f 47) (some (.pair (.int .i64) .term)) (none))
 (cond (Nat.beq f 49) (some .str) (none)))
 (cond (Nat.blt f 59)
 (cond (Nat.beq f 57) (some (.int .i64)) (none))
 (cond (Nat.beq f 59) (some (.pair (.int .u8) (.int .u8))) (none)))))
 (cond (Nat.blt f 155)
 (cond (Nat.blt f 130)
 (cond (Nat.blt f 123)
 (cond (Nat.beq f 121) (some (.pair (.list (.int .i64)) (.int .i64))) (none))
 (cond (Nat.beq f 123) (some .bool) (none)))
 (cond (Nat.blt f 137)
 (cond (Nat.beq f 130) (some (.pair .str (.pair (.int .i64) (.pair (.int .i64) (.int .i64))))) (none))
 (cond (Nat.beq f 137) (some (.pair .term (.int .i64))) (none))))
 (cond (Nat.blt f 175)
 (cond (Nat.blt f 163)
 (cond (Nat.beq f 155) (some (.pair (.list .term) (.list (.int .i64)))) (none))
 (cond (Nat.beq f 163) (some (.list (.pair .term (.int .i64)))) (none)))
 (cond (Nat.blt f 182)
 (cond (Nat.beq f 175) (some (.list (.int .i64))) (none))
 (cond (Nat.beq f 182) (some (.list .term)) (none)))))
noncomputable def tb:Tb:=⟨tyT,elT,.node 121 (.node 67 (.node 41 (.node 19 (.node 13 (.node 11 (.node 10 (.node 3 .leaf .leaf (.pure [([],i3)])) .leaf (.pure [([],i10)])) (.node 12 .leaf .leaf (.pure [([],i12)])) (.pure [([],i11)])) (.node 16 (.node 15 (.node 14 .leaf .leaf (.pure [([],i14)])) .leaf (.pure [([],i15)])) (.node 17 .leaf .leaf (.pure [([],i17)])) (.pure [([],i16)])) (.pure [([],i13)])) (.node 35 (.node 23 (.node 22 (.node 21 .leaf .leaf (.pure [([],i21)])) .leaf (.pure [([],i22)])) (.node 25 .leaf .leaf (.pure [([],i25)])) (.pure [([],i23)])) (.node 39 (.node 38 .leaf .leaf (.pure [([],i38)])) (.node 40 .leaf .leaf (.pure [([],i40)])) (.pure [([],i39)])) (.pure [([],i35)])) (.pure [([],i19)])) (.node 50 (.node 46 (.node 44 (.node 43 (.node 42 .leaf .leaf (.pure [([],i42)])) .leaf (.pure [([],i43)])) (.node 45 .leaf .leaf (.pure [([],i45)])) (.pure [([],i44)])) (.node 48 (.node 47 .leaf .leaf (.pure [([],i47)])) (.node 49 .leaf .leaf (.pure [([],i49)])) (.pure [([],i48)])) (.pure [([],i46)])) (.node 62 (.node 54 (.node 52 (.node 51 .leaf .leaf (.st i51)) .leaf (.hk λ _=>⟨[.row (.pair (.int .i64) .term),.clo 53 1,.box [.val (.pair (.int .i64) .term)]],λ x=>yM 0 x.1 x.2.1⟩)) (.node 55 .leaf .leaf (.hs ⟨[.row (.pair (.int .i64) .term),.val (.int .i64),.val (.int .i64)],[.one (.row (.pair (.int .i64) .term))],λ x=>yV 0 x.1 x.2.1 x.2.2.1⟩)) (.pure [([],i54)])) (.node 65 (.node 64 .leaf .leaf (.pure [([],i64)])) (.node 66 .leaf .leaf (.pure [([],i66)])) (.pure [([],i65)])) (.pure [([],i62)])) (.pure [([],i50)])) (.pure [([],i41)])) (.node 89 (.node 76 (.node 72 (.node 70 (.node 69 (.node 68 .leaf .leaf (.pure [([],i68)])) .leaf (.pure [([],i69)])) (.node 71 .leaf .leaf (.pure [([],i71)])) (.pure [([],i70)])) (.node 74 (.node 73 .leaf .leaf (.pure [([],i73)])) (.node 75 .leaf .leaf (.pure [([],i75)])) (.st i74)) (.pure [([],i72)])) (.node 85 (.node 79 (.node 78 (.node 77 .leaf .leaf (.pure [([],i77)])) .leaf (.pure [([],i78)])) (.node 81 .leaf .leaf (.pure [([],i81)])) (.pure [([],i79)])) (.node 87 (.node 86 .leaf .leaf (.pure [([],i86)])) (.node 88 .leaf .leaf (.pure [([],i88)])) (.pure [([],i87)])) (.pure [([],i85)])) (.pure [([],i76)])) (.node 98 (.node 94 (.node 92 (.node 91 (.node 90 .leaf .leaf (.pure [([],i90)])) .leaf (.pure [([],i91)])) (.node 93 .leaf .leaf (.pure [([94],i93)])) (.pure [([],i92)])) (.node 96 (.node 95 .leaf .leaf (.pure [([],i95)])) (.node 97 .leaf .leaf (.pure [([],i97)])) (.pure [([],i96)])) (.pure [([],i94)])) (.node 103 (.node 101 (.node 100 (.node 99 .leaf .leaf (.pure [([],i99)])) .leaf (.pure [([],qFP)])) (.node 102 .leaf .leaf (.pure [([],qF2)])) (.pure [([],qIC)])) (.node 105 (.node 104 .leaf .leaf (.pure [([],qEq)])) (.node 120 .leaf .leaf (.pure [([],qIv)])) (.hp ⟨[.val .str,.val .str],[(.int .i64)],λ x=>strings_Compare 0 x.1 x.2.1⟩)) (.pure [([],qHU)])) (.pure [([],i98)])) (.pure [([],i89)])) (.pure [([],i67)])) (.node 173 (.node 149 (.node 130 (.node 126 (.node 124 (.node 123 (.node 122 .leaf .leaf (.pure [([],qH0)])) .leaf (.pure [([],qIK)])) (.node 125 .leaf .leaf (.pure [([],qEi)])) (.pure [([],qHH)])) (.node 128 (.node 127 .leaf .leaf (.st qEw)) (.node 129 .leaf .leaf (.st qF3)) (.st qIH)) (.hp ⟨[],[(.list (.pair .str (.pair (.int .i64) (.pair (.int .i64) (.int .i64)))))],λ x=>qgB 0⟩)) (.node 143 (.node 133 (.node 132 (.node 131 .leaf .leaf (.pure [([],qEY)])) .leaf (.pure [([],qIo)])) (.node 134 .leaf .leaf (.pure [([],qHL)])) (.pure [([],qFX)])) (.node 147 (.node 146 .leaf .leaf (.pure [([],qHz)])) (.node 148 .leaf .leaf (.pure [([],qIn)])) (.pure [([],qCe)])) (.pure [([],qEv)])) (.pure [([],qHZ)])) (.node 159 (.node 155 (.node 152 (.node 151 (.node 150 .leaf .leaf (.pure [([],qH1)])) .leaf (.pure [([],qx3)])) (.node 154 .leaf .leaf (.hm λ m=>⟨.term,[.clo 78 0],λ x=>qS m x.1⟩)) (.pure [([],qIh)])) (.node 157 (.node 156 .leaf .leaf (.pure [([],qHP)])) (.node 158 .leaf .leaf (.pure [([],qID)])) (.pure [([],qEV)])) (.hx λ m=>⟨[.row .term,.clo 156 0],[.one (.row .term)],λ x=>qF m x.1⟩)) (.node 167 (.node 163 (.node 161 (.node 160 .leaf .leaf (.pure [([],qHO)])) .leaf (.pure [([],qIq)])) (.node 164 .leaf .leaf (.pure [([],qFx)])) (.pure [([],qEg)])) (.node 169 (.node 168 .leaf .leaf (.st qEr)) (.node 172 .leaf .leaf (.pure [([],qFt)])) (.pure [([],qER)])) (.pure [([],qE8)])) (.pure [([],qFm)])) (.pure [([],qEB)])) (.node 193 (.node 182 (.node 178 (.node 176 (.node 175 (.node 174 .leaf .leaf (.pure [([],qIi)])) .leaf (.pure [([],qEs)])) (.node 177 .leaf .leaf (.pure [([],qET)])) (.pure [([],qEy)])) (.node 180 (.node 179 .leaf .leaf (.st qE5)) (.node 181 .leaf .leaf (.pure [([],qD8)])) (.pure [([],qFM)])) (.pure [([],qEe)])) (.node 189 (.node 185 (.node 184 (.node 183 .leaf .leaf (.pure [([],qAY)])) .leaf (.pure [([],qEh)])) (.node 188 .leaf .leaf (.pure [([],qEX)])) (.pure [([],qHJ)])) (.node 191 (.node 190 .leaf .leaf (.pure [([],qHQ)])) (.node 192 .leaf .leaf (.pure [([],qIm)])) (.pure [([],qFc)])) (.pure [([],qFf)])) (.pure [([],qIA)])) (.node 214 (.node 200 (.node 198 (.node 197 (.node 195 .leaf .leaf (.pure [([],qIu)])) .leaf (.pure [([],qEL)])) (.node 199 .leaf .leaf (.st qHI)) (.pure [([],qIc)])) (.node 202 (.node 201 .leaf .leaf (.hs ⟨[.nil,.val (.int .i64)],[.one (.row .term)],λ x=>yt 0 x.1⟩)) (.node 203 .leaf .leaf (.pure [([],qIB)])) (.st qES)) (.hs ⟨[.val (.list .term)],[.one (.row .term)],λ x=>zC 0 x.1⟩)) (.node 222 (.node 220 (.node 219 (.node 215 .leaf .leaf (.pure [([],qtS)])) .leaf (.pure [([220],qE7)])) (.node 221 .leaf .leaf (.hs ⟨[.row (.pair .term (.int .i64)),.val (.int .i64),.val (.list (.pair .term (.int .i64)))],[.one (.row (.pair .term (.int .i64)))],λ x=>zj 0 x.1 x.2.1 x.2.2.1⟩)) (.pure [([],qH8)])) (.node 224 (.node 223 .leaf .leaf (.pure [([224],qH9)])) (.node 235 .leaf .leaf (.pure [([224],qFs)])) (.pure [([],qHT)])) (.hs ⟨[.row (.pair .term (.int .i64)),.val (.int .i64),.val (.int .i64)],[.one (.row (.pair .term (.int .i64)))],λ x=>zl 0 x.1 x.2.1 x.2.2.1⟩)) (.pure [([],qEC)])) (.pure [([],qHC)])) (.st qEU)) (.pure [([],qIO)])⟩
end Go.AmYtbpnmbmdbblehaaGreat
namespace Go.AmYtbpnmbmdbblehaaGreat
open Go Go.GxYtbpnmbmdbblehaaGreat
set_option linter.unusedVariables false
set_option maxRecDepth 100000
theorem qwG (m a0):qeT (m+1) a0=tb.runP1 m qHL [] (a0,()):=by kernel_rfl
noncomputable def qkM (m k x0 x1 x2):=tb.PL qF2 4 m k [(0,.s x0),(38,.i .i64 x1),(39,.i .i64 x2)] ⟨[],[]⟩
theorem qrs (m k):jF m k=qkM m k:=qP (M:=qkM m) rfl (λ _=>by kernel_rfl) k
theorem qtZ (m a0):qaO (m+1) a0=tb.runP1 m qF2 [] (a0,()):=(congrArg (λ L=>qdD m L a0) (qrs m m)).trans (by kernel_rfl)
noncomputable def qmC (m k x0 x1 x2 x3 x4 x5):=tb.QL i74 17 m k [(1,.i .i64 x0),(2,.ptr 0 0),(3,.ptr 1 0),(57,.sl .term x1 1),(58,.i .i64 x2),(59,.i .i64 x3)] ⟨[[.i .i64 x4],[.i .i64 x5]],[]⟩
theorem qtt (m k):yU m (zF m) k=qmC m k:=qP (M:=qmC m) rfl (λ _=>by kernel_rfl) k
theorem qvG (m a0 a1 a2 a3):zF (m+1) a0 a1 a2 a3=tb.runS1 m i74 (a0,a1,a2,a3,()):=(congrArg (λ L=>qeB m (zF m) L a0 a1 a2 a3) (qtt m m)).trans (by kernel_rfl)
theorem qvz (m a0):zu (m+1) a0=tb.runP1 m i45 [] (a0,()):=by kernel_rfl
noncomputable def qiQ (m k x0 x1 x2 x3 x4 x5 x6 x7):=tb.PL i95 2 m k [(0,.s x0),(2,.ptr 0 0),(5,.sl (.pair .str (.pair (.int .i64) (.pair (.int .i64) (.int .i64)))) x1 1),(6,.i .i64 x2),(7,.i .i64 x3)] ⟨[[.s x4,.i .i64 x5,.i .i64 x6,.i .i64 x7]],[]⟩
theorem qo7 (m k):Qc m k=qiQ m k:=qP (M:=qiQ m) rfl (λ _=>by kernel_rfl) k
theorem qqA (m a0):qal (m+1) a0=tb.runP1 m i95 [] (a0,()):=(congrArg (λ L=>qbZ m L a0) (qo7 m m)).trans (by kernel_rfl)
noncomputable def qjs (m k x0 x1 x2 x3 x4 x5 x6):=tb.PL qCe 13 m k [(1,.ptr 0 0),(38,.sl .term x0 1),(39,.i .i64 x1),(40,.i .i64 x2)] ⟨[[.i .i64 x3,.s x4,.i .i64 x5,.sl .term x6 1]],[]⟩
noncomputable def qjE (m k x0 x1 x2):=tb.PL qCe 22 m k [(62,.sl .term x0 1),(63,.i .i64 x1),(64,.i .i64 x2)] ⟨[],[]⟩
theorem qpN (m k):qM m (qz m) k=(qjs m k,qjE m k):=qP (M := λ k=>(qjs m k,qjE m k)) rfl (λ _=>by kernel_rfl) k
theorem qqW (m a0):qz (m+1) a0=tb.runP1 m qCe [] (a0,()):=(congrArg (a₁ := qM m (qz m) m) (λ L=>qcl m (qz m) L.1 L.2 a0) (qpN m m)).trans (by kernel_rfl)
theorem qrk (m a0):qcJ (m+1) a0=tb.runP1 m qHH [] (a0,()):=by kernel_rfl
theorem qxz (m a0 a1):qbz (m+1) a0 a1=tb.runP1 m qHU [] (a0,a1,()):=by kernel_rfl
noncomputable def qoh (m k x0 x1 x2 x3):=tb.PL qEq 3 m k [(3,.i .i64 x0),(7,.sl .term x1 1),(8,.i .i64 x2),(9,.i .i64 x3)] ⟨[],[]⟩
theorem qvs (m k):qaT m (ji m) k=qoh m k:=qP (M:=qoh m) rfl (λ _=>by kernel_rfl) k
theorem qxj (m a0):ji (m+1) a0=tb.runP1 m qEq [] (a0,()):=(congrArg (λ L=>qfv m (ji m) L a0) (qvs m m)).trans (by kernel_rfl)
noncomputable def qj2 (m k x0 x1 x2 x3 x4 x5 x6 x7 x8 x9):=tb.PL i78 11 m k [(2,.ptr 0 0),(3,.ptr 1 0),(5,.i .i64 x0),(6,.i .i64 x1)] ⟨[[.i .i64 x2,.s x3,.i .i64 x4,.sl .term x5 1],[.i .i64 x6,.s x7,.i .i64 x8,.sl .term x9 1]],[]⟩
theorem qpy (m k):jp m (qs m) k=qj2 m k:=qP (M:=qj2 m) rfl (λ _=>by kernel_rfl) k
theorem qrD (m a0 a1):qs (m+1) a0 a1=tb.runP1 m i78 [] (a0,a1,()):=(congrArg (λ L=>qco m (qs m) L a0 a1) (qpy m m)).trans (by kernel_rfl)
theorem qs9 (m a0 a1):j9 (m+1) a0 a1=tb.runP1 m i92 [] (a0,a1,()):=by kernel_rfl
theorem qxI (m a0 a1):yv (m+1) a0 a1=tb.runP1 m qIi [] (a0,a1,()):=by kernel_rfl
theorem qpg (m a0):JS (m+1) a0=tb.runP1 m qIn [] (a0,()):=by kernel_rfl
noncomputable def JB (m k x0 x1 x2 x3 x4):=tb.PL qAY 3 m k [(0,.sl (.list .term) x0 1),(3,.i .i64 x1),(9,.sl (.list .term) x2 1),(10,.i .i64 x3),(11,.i .i64 x4)] ⟨[],[]⟩
noncomputable def Jy (m k x0 x1 x2 x3):=tb.PL qAY 11 m k [(6,.row 0 0),(25,.sl (.list .term) x0 1),(26,.i .i64 x1),(27,.i .i64 x2)] ⟨[],[⟨.term,x3,0,0,false⟩]⟩
theorem qdS (m k):ql m k=(JB m k,Jy m k):=qP (M := λ k=>(JB m k,Jy m k)) rfl (λ _=>by kernel_rfl) k
theorem qd3 (m a0):zc (m+1) a0=tb.runP1 m qAY [] (a0,()):=(congrArg (a₁ := ql m m) (λ L=>yz m L.1 L.2 a0) (qdS m m)).trans (by kernel_rfl)
noncomputable def qnW (m k x0 x1 x2):=tb.PL qEs 4 m k [(14,.sl .term x0 1),(15,.i .i64 x1),(16,.i .i64 x2)] ⟨[],[]⟩
theorem qvt (m k):qaR m k=qnW m k:=qP (M:=qnW m) rfl (λ _=>by kernel_rfl) k
theorem qyK (m a0 a1):qgS (m+1) a0 a1=tb.runP1 m qEs [] (a0,a1,()):=(congrArg (λ L=>qfx m L a0 a1) (qvt m m)).trans (by kernel_rfl)
noncomputable def qpp (m k x0 x1 x2):=tb.PL qEy 2 m k [(0,.sl .term x0 1),(1,.sl .term x1 1),(5,.row 0 0)] ⟨[],[⟨.term,x2,0,0,false⟩]⟩
theorem qxt (m k):qbD m k=qpp m k:=qP (M:=qpp m) rfl (λ _=>by kernel_rfl) k
theorem qza (m a0 a1):qga (m+1) a0 a1=tb.runP1 m qEy [] (a0,a1,()):=(congrArg (λ L=>qgN m L a0 a1) (qxt m m)).trans (by kernel_rfl)
noncomputable def qjM (m k x0 x1 x2 x3):=tb.PL qET 6 m k [(3,.sl .term x0 1),(31,.sl .term x1 1),(32,.i .i64 x2),(33,.i .i64 x3)] ⟨[],[]⟩
theorem qp9 (m k):jO m (zO m) k=qjM m k:=qP (M:=qjM m) rfl (λ _=>by kernel_rfl) k
theorem qrx (m a0):zO (m+1) a0=tb.runP1 m qET [] (a0,()):=(congrArg (λ L=>qcn m (zO m) L a0) (qp9 m m)).trans (by kernel_rfl)
noncomputable def qmM (m k x0 x1 x2 x3 x4 x5 x6 x7 x8 x9 x10):=tb.PL i97 4 m k [(1,.ptr 0 0),(2,.ptr 1 0),(9,.sl .term x0 1),(10,.i .i64 x1),(11,.i .i64 x2)] ⟨[[.i .i64 x3,.s x4,.i .i64 x5,.row 0 0],[.i .i64 x6,.s x7,.i .i64 x8,.row 1 0]],[⟨.term,x9,0,0,false⟩,⟨.term,x10,0,0,false⟩]⟩
theorem qth (m k):JU m (yg m) k=qmM m k:=qP (M:=qmM m) rfl (λ _=>by kernel_rfl) k
theorem qvv (m a0):yg (m+1) a0=tb.runP1 m i97 [] (a0,()):=(congrArg (λ L=>qeC m (yg m) L a0) (qth m m)).trans (by kernel_rfl)
noncomputable def qjP (m k x0 x1 x2 x3 x4 x5 x6 x7 x8 x9 x10 x11 x12 x13 x14):=tb.PL qEL 4 m k [(5,.ptr 0 0),(6,.ptr 1 0),(8,.ptr 2 0),(9,.ptr 2 0),(14,.sl (.int .i64) x0 1),(15,.i .i64 x1),(16,.i .i64 x2)] ⟨[[.i .i64 x3,.s x4,.i .i64 x5,.sl .term x6 1],[.i .i64 x7,.s x8,.i .i64 x9,.row 0 0],[.i .i64 x10,.s x11,.i .i64 x12,.sl .term x13 1]],[⟨.term,x14,0,0,false⟩]⟩
theorem qqD (m k):JR m k=qjP m k:=qP (M:=qjP m) rfl (λ _=>by kernel_rfl) k
theorem qrG (m a0 a1 a2):qc8 (m+1) a0 a1 a2=tb.runP1 m qEL [] (a0,a1,a2,()):=(congrArg (λ L=>qcp m L a0 a1 a2) (qqD m m)).trans (by kernel_rfl)
noncomputable def qq8 (m k x0 x1 x2 x3):=tb.PL qEe 3 m k [(3,.row 0 0),(9,.sl .term x0 1),(10,.i .i64 x1),(11,.i .i64 x2)] ⟨[],[⟨.term,x3,0,0,false⟩]⟩
theorem qzt (m k):qda m (QD m) k=qq8 m k:=qP (M:=qq8 m) rfl (λ _=>by kernel_rfl) k
theorem qB0 (m a0):QD (m+1) a0=tb.runP1 m qEe [] (a0,()):=(congrArg (λ L=>qh6 m (QD m) L a0) (qzt m m)).trans (by kernel_rfl)
noncomputable def qra (m k x0 x1 x2 x3 x4 x5 x6 x7):=tb.PL qEB 6 m k [(2,.ptr 0 0),(5,.sl .term x0 1),(15,.sl .term x1 1),(16,.i .i64 x2),(17,.i .i64 x3)] ⟨[[.i .i64 x4,.s x5,.i .i64 x6,.row 0 0]],[⟨.term,x7,0,0,true⟩]⟩
theorem qzo (m k):qcV m k=qra m k:=qP (M:=qra m) rfl (λ _=>by kernel_rfl) k
theorem qA3 (m a0):qkx (m+1) a0=tb.runP1 m qEB [] (a0,()):=(congrArg (λ L=>qhS m L a0) (qzo m m)).trans (by kernel_rfl)
theorem qnU (m a0):Jm (m+1) a0=tb.runP1 m qIc [] (a0,()):=by kernel_rfl
noncomputable def qhC (m k x0 x1 x2 x3 x4 x5 x6 x7 x8 x9):=tb.PL qD8 3 m k [(1,.ptr 0 0),(2,.ptr 1 0),(10,.row 0 0),(11,.i .i64 x0),(12,.i .i64 x1)] ⟨[[.i .i64 x2,.s x3,.i .i64 x4,.row 0 0],[.i .i64 x5,.s x6,.i .i64 x7,.row 1 0]],[⟨.term,x8,0,0,false⟩,⟨.term,x9,0,0,false⟩]⟩
theorem qns (m k):jM m (q9 m) k=qhC m k:=qP (M:=qhC m) rfl (λ _=>by kernel_rfl) k
theorem qo6 (m a0):q9 (m+1) a0=tb.runP1 m qD8 [] (a0,()):=(congrArg (λ L=>qa0 m (q9 m) L a0) (qns m m)).trans (by kernel_rfl)
theorem ql7 (m a0 a1):Qp (m+1) a0 a1=tb.runP1 m qH8 [] (a0,a1,()):=by kernel_rfl
noncomputable def zX (m k x0 x1 x2 x3 x4 x5 x6 x7):=tb.PL qE7 3 m k [(0,.sl (.pair .term (.int .i64)) x0 1),(2,.fn 220 []),(4,.ptr 0 0),(8,.i .i64 x1),(9,.i .i64 x2),(10,.i .i64 x3)] ⟨[[.i .i64 x4,.s x5,.i .i64 x6,.sl .term x7 1]],[]⟩
theorem jS (m k):qn m k=zX m k:=qP (M:=zX m) rfl (λ _=>by kernel_rfl) k
theorem j7 (m a0 a1):qx (m+1) a0 a1=tb.runP1 m qE7 [220] (a0,a1,()):=(congrArg (λ L=>qE m L a0 a1) (jS m m)).trans (by kernel_rfl)
theorem qm1 (m a0 a1):Jn (m+1) a0 a1=tb.runS1 m qHI (a0,a1,()):=by kernel_rfl
noncomputable def qf6 (m k x0 x1 x2 x3 x4):=tb.QL qE5 12 m k [(0,.row 0 0),(2,.i .i64 x0),(52,.sl .term x1 1),(53,.i .i64 x2),(54,.i .i64 x3)] ⟨[],[⟨(.pair .term (.int .i64)),x4,0,0,false⟩]⟩
theorem qlD (m k):yN m (qY m) k=qf6 m k:=qP (M:=qf6 m) rfl (λ _=>by kernel_rfl) k
theorem qmU (m a0 a1 a2):qY (m+1) a0 a1 a2=tb.runS1 m qE5 (a0,a1,a2,()):=(congrArg (λ L=>qab m (qY m) L a0 a1 a2) (qlD m m)).trans (by kernel_rfl)
theorem qtd (m a0):JO (m+1) a0=tb.runP1 m qH1 [] (a0,()):=by kernel_rfl
noncomputable def qhH (m k x0 x1 x2 x3):=tb.PL qFM 4 m k [(0,.sl (.pair .term (.int .i64)) x0 1),(9,.sl (.pair .term (.int .i64)) x1 1),(10,.i .i64 x2),(11,.i .i64 x3)] ⟨[],[]⟩
theorem qnm (m k):jg m k=qhH m k:=qP (M:=qhH m) rfl (λ _=>by kernel_rfl) k
theorem qo2 (m a0):QQ (m+1) a0=tb.runP1 m qFM [] (a0,()):=(congrArg (λ L=>qa5 m L a0) (qnm m m)).trans (by kernel_rfl)
theorem qrE (m a0 a1):qbj (m+1) a0 a1=tb.runP1 m qIA [] (a0,a1,()):=by kernel_rfl
noncomputable def qiC (m k x0 x1 x2 x3 x4 x5 x6 x7 x8):=tb.PL qx3 6 m k [(2,.ptr 0 0),(5,.row 1 0),(6,.row 2 0),(18,.sl (.pair .term (.int .i64)) x0 1),(19,.i .i64 x1),(20,.i .i64 x2)] ⟨[[.i .i64 x3,.s x4,.i .i64 x5,.row 0 0]],[⟨.term,x6,0,0,false⟩,⟨.term,x7,0,0,false⟩,⟨.term,x8,0,0,false⟩]⟩
noncomputable def qiD (m k x0 x1 x2 x3 x4 x5 x6 x7 x8 x9 x10 x11 x12 x13 x14 x15):=tb.PL qx3 11 m k [(2,.ptr 0 0),(5,.row 1 0),(6,.row 2 0),(8,.ptr 1 0),(18,.sl (.pair .term (.int .i64)) x0 1),(19,.i .i64 x1),(20,.i .i64 x2),(34,.i .i64 x3),(35,.i .i64 x4)] ⟨[[.i .i64 x5,.s x6,.i .i64 x7,.row 0 0],[.i .i64 x8,.s x9,.i .i64 x10,.sl .term x11 1,.i .i64 x12]],[⟨.term,x13,0,0,false⟩,⟨.term,x14,0,0,false⟩,⟨.term,x15,0,0,false⟩]⟩
noncomputable def qiT (m k x0 x1 x2 x3 x4 x5 x6 x7 x8 x9 x10 x11 x12 x13 x14 x15):=tb.PL qx3 15 m k [(2,.ptr 0 0),(5,.row 1 0),(6,.row 2 0),(8,.ptr 1 0),(18,.sl (.pair .term (.int .i64)) x0 1),(19,.i .i64 x1),(20,.i .i64 x2),(46,.i .i64 x3),(47,.i .i64 x4)] ⟨[[.i .i64 x5,.s x6,.i .i64 x7,.row 0 0],[.i .i64 x8,.s x9,.i .i64 x10,.sl .term x11 1,.i .i64 x12]],[⟨.term,x13,0,0,false⟩,⟨.term,x14,0,0,false⟩,⟨.term,x15,0,0,false⟩]⟩
theorem qpb (m k):qt m k=(qiC m k,qiD m k,qiT m k):=qP (M := λ k=>(qiC m k,qiD m k,qiT m k)) rfl (λ _=>by kernel_rfl) k
theorem qpF (m a0):jE (m+1) a0=tb.runP1 m qx3 [] (a0,()):=(congrArg (a₁ := qt m m) (λ L=>qbR m L.1 L.2.1 L.2.2 a0) (qpb m m)).trans (by kernel_rfl)
noncomputable def qgQ (m k x0 x1 x2 x3):=tb.QL qES 3 m k [(3,.row 0 0),(6,.sl (.pair .term (.int .i64)) x0 1),(7,.i .i64 x1),(8,.i .i64 x2)] ⟨[],[⟨(.pair .term (.int .i64)),x3,0,0,false⟩]⟩
theorem qmV (m k):ju m k=qgQ m k:=qP (M:=qgQ m) rfl (λ _=>by kernel_rfl) k
theorem qnV (m a0):qaA (m+1) a0=tb.runS1 m qES (a0,()):=(congrArg (λ L=>qav m L a0) (qmV m m)).trans (by kernel_rfl)
theorem qlz (m a0):Jx (m+1) a0=tb.runP1 m qHT [] (a0,()):=by kernel_rfl
noncomputable def jt (m k x0 x1 x2):=tb.PL qFs 2 m k [(0,.sl (.pair .term (.int .i64)) x0 1),(1,.fn 224 []),(7,.i .i64 x1),(8,.i .i64 x2)] ⟨[],[]⟩
theorem qae (m k):qw m k=jt m k:=qP (M:=jt m) rfl (λ _=>by kernel_rfl) k
theorem qag (m a0):qW (m+1) a0=tb.runP1 m qFs [224] (a0,()):=(congrArg (λ L=>zm m L a0) (qae m m)).trans (by kernel_rfl)
theorem JT (m a0):qQ (m+1) a0=tb.runP1 m qH9 [224] (a0,()):=by kernel_rfl
theorem qm0 (m a0):qaI (m+1) a0=tb.runP1 m qIB [] (a0,()):=by kernel_rfl
noncomputable def qjw (m k x0 x1 x2 x3):=tb.PL qEh 9 m k [(8,.row 0 0),(23,.sl (.pair .term (.int .i64)) x0 1),(24,.i .i64 x1),(25,.i .i64 x2)] ⟨[],[⟨(.pair .term (.int .i64)),x3,0,0,false⟩]⟩
theorem qpZ (m k):QF m k=qjw m k:=qP (M:=qjw m) rfl (λ _=>by kernel_rfl) k
theorem qsA (m a0 a1):qc9 (m+1) a0 a1=tb.runP1 m qEh [] (a0,a1,()):=(congrArg (λ L=>qcz m L a0 a1) (qpZ m m)).trans (by kernel_rfl)
theorem qwm (m a0 a1):qdk (m+1) a0 a1=tb.runP1 m qHJ [] (a0,a1,()):=by kernel_rfl
theorem qrl (m a0 a1):qcP (m+1) a0 a1=tb.runP1 m qIh [] (a0,a1,()):=by kernel_rfl
noncomputable def qiW (m k x0 x1 x2 x3 x4 x5 x6 x7 x8 x9 x10 x11 x12 x13 x14):=tb.PL qEi 5 m k [(1,.ptr 0 0),(2,.ptr 1 0),(4,.ptr 2 0),(19,.sl .term x0 1),(20,.i .i64 x1),(21,.i .i64 x2)] ⟨[[.i .i64 x3,.s x4,.i .i64 x5,.sl .term x6 1],[.i .i64 x7,.s x8,.i .i64 x9,.row 0 0],[.i .i64 x10,.s x11,.i .i64 x12,.row 1 0]],[⟨.term,x13,0,0,false⟩,⟨.term,x14,0,0,false⟩]⟩
theorem qph (m k):Qe m (zM m) k=qiW m k:=qP (M:=qiW m) rfl (λ _=>by kernel_rfl) k
theorem qpP (m a0):zM (m+1) a0=tb.runP1 m qEi [] (a0,()):=(congrArg (λ L=>qbB m (zM m) L a0) (qph m m)).trans (by kernel_rfl)
theorem qpK (m a0):qb3 (m+1) a0=tb.runP1 m i91 [] (a0,()):=by kernel_rfl
theorem qpa (m a0):qbn (m+1) a0=tb.runP1 m i94 [] (a0,()):=by kernel_rfl
noncomputable def qeW (m k x0 x1 x2):=tb.PL i93 4 m k [(1,.fn 94 []),(18,.sl .term x0 1),(19,.i .i64 x1),(20,.i .i64 x2)] ⟨[],[]⟩
theorem qkg (m k):yk m (qH m) k=qeW m k:=qP (M:=qeW m) rfl (λ _=>by kernel_rfl) k
theorem qk1 (m a0):qH (m+1) a0=tb.runP1 m i93 [94] (a0,()):=(congrArg (λ L=>Jh m (qH m) L a0) (qkg m m)).trans (by kernel_rfl)
theorem qss (m a0):qdb (m+1) a0=tb.runP1 m i68 [] (a0,()):=by kernel_rfl
theorem qjq (m a0 a1 a2):Qm (m+1) a0 a1 a2=tb.runS1 m qIH (a0,a1,a2,()):=by kernel_rfl
noncomputable def qfs (m k x0 x1 x2 x3 x4):=tb.QL qEw 3 m k [(1,.fn 128 [.ptr 0 0,.ptr 1 0]),(10,.sl .term x0 1),(11,.i .i64 x1),(12,.i .i64 x2)] ⟨[[.i .i64 x3],[.row 0 0]],[⟨.term,x4,0,0,false⟩]⟩
theorem qky (m k):yW m (qZ m) k=qfs m k:=qP (M:=qfs m) rfl (λ _=>by kernel_rfl) k
theorem qlI (m a0 a1_0 a1_1):qZ (m+1) a0 a1_0 a1_1=tb.runS1 m qEw (a0,a1_0,a1_1,()):=(congrArg (λ L=>JI m (qZ m) L a0 a1_0 a1_1) (qky m m)).trans (by kernel_rfl)
theorem qo0 (m a0 a1):ya (m+1) a0 a1=tb.runP1 m qHP [] (a0,a1,()):=by kernel_rfl
noncomputable def qjI (m k x0 x1 x2):=tb.QL qF3 4 m k [(0,.row 0 0),(9,.i .i64 x0),(10,.i .i64 x1)] ⟨[],[⟨.term,x2,0,0,false⟩]⟩
theorem qqT (m k):QN m k=qjI m k:=qP (M:=qjI m) rfl (λ _=>by kernel_rfl) k
theorem qsB (m a0):qcR (m+1) a0=tb.runS1 m qF3 (a0,()):=(congrArg (λ L=>qcy m L a0) (qqT m m)).trans (by kernel_rfl)
theorem qto (m a0 a1):qgH (m+1) a0 a1=tb.runP1 m i96 [] (a0,a1,()):=by kernel_rfl
theorem qwD (m a0):qg1 (m+1) a0=tb.runP1 m i69 [] (a0,()):=by kernel_rfl
theorem qpY (m a0):jC (m+1) a0=tb.runP1 m i41 [] (a0,()):=by kernel_rfl
noncomputable def qqZ (m k x0 x1 x2 x3 x4 x5 x6 x7 x8 x9 x10):=tb.PL i70 2 m k [(2,.ptr 0 0),(4,.ptr 1 0),(8,.sl (.int .i64) x0 1),(9,.i .i64 x1),(10,.i .i64 x2)] ⟨[[.i .i64 x3,.s x4,.i .i64 x5,.sl .term x6 1],[.i .i64 x7,.s x8,.i .i64 x9,.row 0 0]],[⟨.term,x10,0,0,false⟩]⟩
theorem qzC (m k):qeQ m k=qqZ m k:=qP (M:=qqZ m) rfl (λ _=>by kernel_rfl) k
theorem qBz (m a0 a1):qkX (m+1) a0 a1=tb.runP1 m i70 [] (a0,a1,()):=(congrArg (λ L=>qik m L a0 a1) (qzC m m)).trans (by kernel_rfl)
theorem qoX (m a0):yE (m+1) a0=tb.runP1 m i42 [] (a0,()):=by kernel_rfl
theorem qtN (m a0):qcf (m+1) a0=tb.runP1 m i12 [] (a0,()):=by kernel_rfl
theorem qoe (m a0 a1):Jl (m+1) a0 a1=tb.runP1 m i65 [] (a0,a1,()):=by kernel_rfl
theorem qtY (m a0):qed (m+1) a0=tb.runP1 m i73 [] (a0,()):=by kernel_rfl
theorem qrX (m a0):qbq (m+1) a0=tb.runP1 m i44 [] (a0,()):=by kernel_rfl
theorem qtx (m a0):qce (m+1) a0=tb.runP1 m i46 [] (a0,()):=by kernel_rfl
noncomputable def qk6 (m k x0 x1 x2 x3 x4 x5 x6 x7 x8 x9):=tb.PL i14 7 m k [(4,.ptr 0 0),(6,.ptr 1 0),(21,.i .i64 x0),(22,.i .i64 x1)] ⟨[[.i .i64 x2,.s x3,.i .i64 x4,.row 0 0],[.i .i64 x5,.s x6,.i .i64 x7,.sl .term x8 1]],[⟨.term,x9,0,0,false⟩]⟩
theorem qsN (m k):Js m k=qk6 m k:=qP (M:=qk6 m) rfl (λ _=>by kernel_rfl) k
theorem qt9 (m a0 a1):qaQ (m+1) a0 a1=tb.runP1 m i14 [] (a0,a1,()):=(congrArg (λ L=>qdx m L a0 a1) (qsN m m)).trans (by kernel_rfl)
theorem qrO (m a0 a1):Jf (m+1) a0 a1=tb.runP1 m i76 [] (a0,a1,()):=by kernel_rfl
noncomputable def qmo (m k x0 x1 x2 x3 x4 x5):=tb.PL i77 3 m k [(1,.ptr 0 0),(3,.i .i64 x0),(4,.i .i64 x1)] ⟨[[.i .i64 x2,.s x3,.i .i64 x4,.sl .term x5 1]],[]⟩
theorem qte (m k):J5 m (yA m) k=qmo m k:=qP (M:=qmo m) rfl (λ _=>by kernel_rfl) k
theorem qv4 (m a0):yA (m+1) a0=tb.runP1 m i77 [] (a0,()):=(congrArg (λ L=>qel m (yA m) L a0) (qte m m)).trans (by kernel_rfl)
noncomputable def qiy (m k x0 x1 x2 x3 x4 x5 x6 x7 x8):=tb.PL i50 18 m k [(2,.ptr 0 0),(3,.ptr 1 0),(9,.i .i64 x0)] ⟨[[.i .i64 x1,.s x2,.i .i64 x3,.sl .term x4 1],[.i .i64 x5,.s x6,.i .i64 x7,.sl .term x8 1]],[]⟩
theorem qpf (m k):Qg m (zi m) k=qiy m k:=qP (M:=qiy m) rfl (λ _=>by kernel_rfl) k
theorem qp8 (m a0 a1):zi (m+1) a0 a1=tb.runP1 m i50 [] (a0,a1,()):=(congrArg (λ L=>qbN m (zi m) L a0 a1) (qpf m m)).trans (by kernel_rfl)
theorem qvC (m a0 a1):yS (m+1) a0 a1=tb.runP1 m i17 [] (a0,a1,()):=by kernel_rfl
noncomputable def qjk (m k x0 x1 x2 x3 x4 x5 x6 x7 x8 x9 x10):=tb.PL i21 5 m k [(1,.ptr 0 0),(3,.i .i64 x0),(39,.sl (.pair (.int .i64) .term) x1 1),(40,.i .i64 x2),(41,.i .i64 x3)] ⟨[[.i .i64 x4,.s x5,.i .i64 x6,.sl .term x7 1,.i .i64 x8,.sl (.pair (.int .i64) .term) x9 1,.i .i64 x10]],[]⟩
theorem qpd (m k):qjr m k=qjk m k:=qP (M:=qjk m) rfl (λ _=>by kernel_rfl) k
theorem qql (m a0):qhp (m+1) a0=tb.runP1 m i21 [] (a0,()):=(congrArg (λ L=>qi1 m L a0) (qpd m m)).trans (by kernel_rfl)
noncomputable def qkK (m k x0 x1 x2 x3 x4 x5 x6 x7 x8 x9 x10 x11 x12 x13 x14 x15 x16 x17):=tb.QL i51 4 m k [(1,.ptr 0 0),(2,.ptr 1 0),(3,.row 2 0),(11,.sl (.pair (.int .i64) .term) x0 1),(12,.i .i64 x1),(13,.i .i64 x2)] ⟨[[.i .i64 x3,.s x4,.i .i64 x5,.sl .term x6 1,.i .i64 x7,.sl (.pair (.int .i64) .term) x8 1,.i .i64 x9],[.i .i64 x10,.s x11,.i .i64 x12,.row 0 0,.i .i64 x13,.row 1 0,.i .i64 x14]],[⟨.term,x15,0,0,false⟩,⟨(.pair (.int .i64) .term),x16,0,0,false⟩,⟨(.pair (.int .i64) .term),x17,0,0,false⟩]⟩
theorem qqX (m k):qml m k=qkK m k:=qP (M:=qkK m) rfl (λ _=>by kernel_rfl) k
theorem qsW (m a0):qkm (m+1) a0=tb.runS1 m i51 (a0,()):=(congrArg (λ L=>qkY m L a0) (qqX m m)).trans (by kernel_rfl)
theorem qo8 (m a0 a1):qdI (m+1) a0 a1=tb.runP1 m i54 [] (a0,a1,()):=by kernel_rfl
noncomputable def qhf (m k x0 x1 x2 x3 x4 x5 x6 x7 x8 x9 x10 x11 x12 x13 x14 x15 x16 x17 x18 x19 x20 x21 x22):=tb.PL i19 17 m k [(3,.ptr 0 0),(4,.ptr 1 0),(5,.ptr 2 0),(7,.ptr 3 0)] ⟨[[.i .i64 x0,.i .i64 x1,.s x2,.i .i64 x3,.sl .term x4 1],[.i .i64 x5,.s x6,.i .i64 x7,.row 0 0,.i .i64 x8,.row 1 0,.i .i64 x9],[.i .i64 x10,.s x11,.i .i64 x12,.row 2 0],[.i .i64 x13,.s x14,.i .i64 x15,.sl .term x16 1,.i .i64 x17,.row 3 0,.i .i64 x18]],[⟨.term,x19,0,0,false⟩,⟨(.pair (.int .i64) .term),x20,0,0,false⟩,⟨.term,x21,0,0,false⟩,⟨(.pair (.int .i64) .term),x22,0,0,false⟩]⟩
theorem qmS (m k):qhF m k=qhf m k:=qP (M:=qhf m) rfl (λ _=>by kernel_rfl) k
theorem qn8 (m a0 a1):qaB (m+1) a0 a1=tb.runP1 m i19 [] (a0,a1,()):=(congrArg (λ L=>qgZ m L a0 a1) (qmS m m)).trans (by kernel_rfl)
theorem qvT (m a0 a1):qfu (m+1) a0 a1=tb.runP1 m i23 [] (a0,a1,()):=by kernel_rfl
theorem qv9 (m):qdQ (m+1)=tb.runP1 m i22 [] (()):=by kernel_rfl
theorem qrg (m a0):J7 (m+1) a0=tb.runP1 m qIv [] (a0,()):=by kernel_rfl
theorem qt7 (m a0):qcd (m+1) a0=tb.runP1 m qIO [] (a0,()):=by kernel_rfl
noncomputable def qmw (m k x0 x1):=tb.PL i86 2 m k [(0,.s x0),(3,.i .i64 x1)] ⟨[],[]⟩
theorem qt4 (m k):qod m k=qmw m k:=qP (M:=qmw m) rfl (λ _=>by kernel_rfl) k
theorem qv0 (m a0):qfj (m+1) a0=tb.runP1 m i86 [] (a0,()):=(congrArg (λ L=>qmv m L a0) (qt4 m m)).trans (by kernel_rfl)
noncomputable def qjJ (m k x0 x1):=tb.PL i87 4 m k [(0,.s x0),(3,.i .i64 x1)] ⟨[],[]⟩
theorem qqV (m k):QJ m k=qjJ m k:=qP (M:=qjJ m) rfl (λ _=>by kernel_rfl) k
theorem qrZ (m a0):Qb (m+1) a0=tb.runP1 m i87 [] (a0,()):=(congrArg (λ L=>qcH m L a0) (qqV m m)).trans (by kernel_rfl)
theorem qvN (m a0):qlv (m+1) a0=tb.runP1 m qH0 [] (a0,()):=by kernel_rfl
noncomputable def qmA (m k x0 x1 x2 x3 x4 x5 x6 x7 x8 x9 x10):=tb.PL i88 5 m k [(1,.s x0),(2,.ptr 0 0),(4,.ptr 1 0),(7,.s x1),(8,.i .i64 x2)] ⟨[[.i .i64 x3,.s x4,.i .i64 x5,.sl .term x6 1],[.i .i64 x7,.s x8,.i .i64 x9,.row 0 0]],[⟨.term,x10,0,0,false⟩]⟩
theorem qsU (m k):qnI m k=qmA m k:=qP (M:=qmA m) rfl (λ _=>by kernel_rfl) k
theorem qvP (m a0 a1):qib (m+1) a0 a1=tb.runP1 m i88 [] (a0,a1,()):=(congrArg (λ L=>qmL m L a0 a1) (qsU m m)).trans (by kernel_rfl)
noncomputable def qmF (m k x0 x1 x2 x3 x4 x5 x6 x7 x8 x9):=tb.PL i66 13 m k [(0,.s x0),(1,.i .i64 x1),(4,.ptr 0 0),(7,.ptr 1 0)] ⟨[[.i .i64 x2,.s x3,.i .i64 x4,.row 0 0],[.i .i64 x5,.s x6,.i .i64 x7,.row 1 0]],[⟨.term,x8,0,0,false⟩,⟨.term,x9,0,0,false⟩]⟩
theorem quf (m k):qn6 m (qfR m) k=qmF m k:=qP (M:=qmF m) rfl (λ _=>by kernel_rfl) k
theorem qvr (m a0 a1):qfR (m+1) a0 a1=tb.runP1 m i66 [] (a0,a1,()):=(congrArg (λ L=>qmn m (qfR m) L a0 a1) (quf m m)).trans (by kernel_rfl)
theorem qv7 (m a0):qfO (m+1) a0=tb.runP1 m qIK [] (a0,()):=by kernel_rfl
noncomputable def qks (m k x0 x1 x2 x3 x4):=tb.PL i89 5 m k [(1,.ptr 0 0),(4,.i .i64 x0)] ⟨[[.i .i64 x1,.s x2,.i .i64 x3,.sl .term x4 1]],[]⟩
theorem qq5 (m k):Jo m (yH m) k=qks m k:=qP (M:=qks m) rfl (λ _=>by kernel_rfl) k
theorem qsY (m a0):yH (m+1) a0=tb.runP1 m i89 [] (a0,()):=(congrArg (λ L=>qdE m (yH m) L a0) (qq5 m m)).trans (by kernel_rfl)
noncomputable def qkq (m k x0 x1 x2 x3 x4 x5):=tb.PL i90 3 m k [(1,.ptr 0 0),(3,.i .i64 x0),(4,.i .i64 x1)] ⟨[[.i .i64 x2,.s x3,.i .i64 x4,.sl .term x5 1]],[]⟩
theorem qsy (m k):Ju m (yK m) k=qkq m k:=qP (M:=qkq m) rfl (λ _=>by kernel_rfl) k
theorem qsT (m a0):yK (m+1) a0=tb.runP1 m i90 [] (a0,()):=(congrArg (λ L=>qdP m (yK m) L a0) (qsy m m)).trans (by kernel_rfl)
theorem qtF (m a0):zI (m+1) a0=tb.runP1 m i67 [] (a0,()):=by kernel_rfl
theorem qtM (m a0):qgP (m+1) a0=tb.runP1 m i38 [] (a0,()):=by kernel_rfl
theorem qpE (m):qeo (m+1)=tb.runP1 m qIo [] (()):=by kernel_rfl
noncomputable def qmN (m k x0 x1 x2):=tb.PL qFP 3 m k [(0,.s x0),(3,.sl (.pair .str (.pair (.int .i64) (.pair (.int .i64) (.int .i64)))) x1 1),(4,.i .i64 x2)] ⟨[],[]⟩
theorem qug (m k):J2 m k=qmN m k:=qP (M:=qmN m) rfl (λ _=>by kernel_rfl) k
theorem qwl (m a0):qbW (m+1) a0=tb.runP1 m qFP [] (a0,()):=(congrArg (λ L=>qex m L a0) (qug m m)).trans (by kernel_rfl)
noncomputable def qmJ (m k x0 x1 x2 x3 x4 x5):=tb.PL qEX 3 m k [(1,.ptr 0 0),(3,.sl (.pair .str (.pair (.int .i64) (.pair (.int .i64) (.int .i64)))) x0 1),(4,.i .i64 x1)] ⟨[[.i .i64 x2,.s x3,.i .i64 x4,.sl .term x5 1]],[]⟩
theorem qs6 (m k):J3 m k=qmJ m k:=qP (M:=qmJ m) rfl (λ _=>by kernel_rfl) k
theorem qvp (m a0):qfZ (m+1) a0=tb.runP1 m qEX [] (a0,()):=(congrArg (λ L=>qes m L a0) (qs6 m m)).trans (by kernel_rfl)
noncomputable def qjy (m k x0 x1 x2 x3 x4):=tb.PL qFf 4 m k [(1,.ptr 0 0),(3,.i .i64 x0)] ⟨[[.i .i64 x1,.s x2,.i .i64 x3,.sl .term x4 1]],[]⟩
theorem qqy (m k):QO m k=qjy m k:=qP (M:=qjy m) rfl (λ _=>by kernel_rfl) k
theorem qsj (m a0):qde (m+1) a0=tb.runP1 m qFf [] (a0,()):=(congrArg (λ L=>qcA m L a0) (qqy m m)).trans (by kernel_rfl)
noncomputable def qkz (m k x0 x1 x2 x3 x4):=tb.PL qEV 11 m k [(1,.ptr 0 0),(4,.i .i64 x0)] ⟨[[.i .i64 x1,.s x2,.i .i64 x3,.sl .term x4 1]],[]⟩
theorem qsM (m k):Qq m (yq m) k=qkz m k:=qP (M:=qkz m) rfl (λ _=>by kernel_rfl) k
theorem qtE (m a0):yq (m+1) a0=tb.runP1 m qEV [] (a0,()):=(congrArg (λ L=>qdv m (yq m) L a0) (qsM m m)).trans (by kernel_rfl)
theorem qtK (m a0):qea (m+1) a0=tb.runP1 m qHZ [] (a0,()):=by kernel_rfl
theorem qxx (m a0 a1):yu (m+1) a0 a1=tb.runP1 m i64 [] (a0,a1,()):=by kernel_rfl
theorem qzx (m a0 a1):J6 (m+1) a0 a1=tb.runP1 m i79 [] (a0,a1,()):=by kernel_rfl
theorem qqI (m a0):qb6 (m+1) a0=tb.runP1 m qID [] (a0,()):=by kernel_rfl
noncomputable def qnN (m k x0 x1 x2 x3 x4 x5):=tb.PL i81 2 m k [(0,.sl .term x0 1),(3,.ptr 0 0),(5,.i .i64 x1)] ⟨[[.i .i64 x2,.s x3,.i .i64 x4,.sl .term x5 1]],[]⟩
theorem qvL (m k):qaN m k=qnN m k:=qP (M:=qnN m) rfl (λ _=>by kernel_rfl) k
theorem qw6 (m a0 a1):qgY (m+1) a0 a1=tb.runP1 m i81 [] (a0,a1,()):=(congrArg (λ L=>qfc m L a0 a1) (qvL m m)).trans (by kernel_rfl)
noncomputable def qnj (m k x0 x1 x2 x3 x4 x5 x6 x7):=tb.PL i85 4 m k [(0,.sl .term x0 1),(3,.ptr 0 0),(5,.row 0 0),(6,.b x1),(7,.i .i64 x2)] ⟨[[.i .i64 x3,.s x4,.i .i64 x5,.sl .term x6 1]],[⟨.term,x7,0,0,false⟩]⟩
theorem qvl (m k):qaV m k=qnj m k:=qP (M:=qnj m) rfl (λ _=>by kernel_rfl) k
theorem qxk (m a0 a1):qeX (m+1) a0 a1=tb.runP1 m i85 [] (a0,a1,()):=(congrArg (λ L=>qfX m L a0 a1) (qvl m m)).trans (by kernel_rfl)
noncomputable def qjK (m k x0 x1 x2 x3 x4 x5 x6):=tb.PL qEC 5 m k [(0,.sl .term x0 1),(3,.ptr 0 0),(5,.row 0 0),(6,.i .i64 x1)] ⟨[[.i .i64 x2,.s x3,.i .i64 x4,.sl .term x5 1]],[⟨.term,x6,0,0,false⟩]⟩
theorem qp4 (m k):QS m k=qjK m k:=qP (M:=qjK m) rfl (λ _=>by kernel_rfl) k
theorem qr8 (m a0 a1):qcZ (m+1) a0 a1=tb.runP1 m qEC [] (a0,a1,()):=(congrArg (λ L=>qcB m L a0 a1) (qp4 m m)).trans (by kernel_rfl)
noncomputable def qmx (m k x0 x1 x2):=tb.PL qFc 3 m k [(1,.sl .term x0 1),(5,.sl .term x1 1),(6,.i .i64 x2)] ⟨[],[]⟩
theorem qua (m k):Jc m k=qmx m k:=qP (M:=qmx m) rfl (λ _=>by kernel_rfl) k
theorem qvH (m a0 a1):qdz (m+1) a0 a1=tb.runP1 m qFc [] (a0,a1,()):=(congrArg (λ L=>qek m L a0 a1) (qua m m)).trans (by kernel_rfl)
noncomputable def qhJ (m k x0 x1 x2 x3 x4 x5):=tb.PL qEg 7 m k [(1,.ptr 0 0),(3,.sl .term x0 1),(4,.i .i64 x1)] ⟨[[.i .i64 x2,.s x3,.i .i64 x4,.sl .term x5 1]],[]⟩
theorem qof (m k):jk m (zr m) k=qhJ m k:=qP (M:=qhJ m) rfl (λ _=>by kernel_rfl) k
theorem qoW (m a0):zr (m+1) a0=tb.runP1 m qEg [] (a0,()):=(congrArg (λ L=>qa2 m (zr m) L a0) (qof m m)).trans (by kernel_rfl)
noncomputable def qkT (m k x0 x1 x2 x3 x4 x5):=tb.PL qFx 4 m k [(0,.sl .term x0 1),(3,.ptr 0 0),(5,.i .i64 x1)] ⟨[[.i .i64 x2,.s x3,.i .i64 x4,.sl .term x5 1]],[]⟩
theorem qq7 (m k):Jq m k=qkT m k:=qP (M:=qkT m) rfl (λ _=>by kernel_rfl) k
theorem qud (m a0 a1):qd8 (m+1) a0 a1=tb.runP1 m qFx [] (a0,a1,()):=(congrArg (λ L=>qdt m L a0 a1) (qq7 m m)).trans (by kernel_rfl)
theorem qvO (m):qfr (m+1)=tb.runP1 m qHQ [] (()):=by kernel_rfl
theorem qvy (m a0):qfn (m+1) a0=tb.runP1 m qIm [] (a0,()):=by kernel_rfl
noncomputable def qnB (m k x0 x1 x2 x3 x4 x5 x6):=tb.PL qFm 6 m k [(0,.sl .term x0 1),(2,.ptr 0 0),(5,.sl .term x1 1),(6,.i .i64 x2)] ⟨[[.i .i64 x3,.s x4,.i .i64 x5,.row 0 0]],[⟨.term,x6,0,0,true⟩]⟩
theorem qvM (m k):qaS m k=qnB m k:=qP (M:=qnB m) rfl (λ _=>by kernel_rfl) k
theorem qxe (m a0):qg9 (m+1) a0=tb.runP1 m qFm [] (a0,()):=(congrArg (λ L=>qfk m L a0) (qvM m m)).trans (by kernel_rfl)
theorem qp3 (m a0):Jt (m+1) a0=tb.runP1 m qIu [] (a0,()):=by kernel_rfl
noncomputable def qkA (m k x0 x1 x2 x3 x4 x5):=tb.PL qFt 7 m k [(1,.ptr 0 0),(3,.i .i64 x0),(4,.i .i64 x1)] ⟨[[.i .i64 x2,.s x3,.i .i64 x4,.sl .term x5 1]],[]⟩
theorem qrQ (m k):Qt m (yn m) k=qkA m k:=qP (M:=qkA m) rfl (λ _=>by kernel_rfl) k
theorem qtT (m a0):yn (m+1) a0=tb.runP1 m qFt [] (a0,()):=(congrArg (λ L=>qds m (yn m) L a0) (qrQ m m)).trans (by kernel_rfl)
noncomputable def qoj (m k x0 x1 x2 x3 x4 x5 x6 x7 x8):=tb.QL qEr 4 m k [(0,.row 0 0),(2,.i .i64 x0),(4,.ptr 0 0),(7,.row 1 0),(8,.b x1),(9,.i .i64 x2)] ⟨[[.i .i64 x3,.s x4,.i .i64 x5,.sl .term x6 1]],[⟨(.pair .term (.int .i64)),x7,0,0,false⟩,⟨(.pair .term (.int .i64)),x8,0,0,false⟩]⟩
theorem qvW (m k):Q3 m k=qoj m k:=qP (M:=qoj m) rfl (λ _=>by kernel_rfl) k
theorem qxo (m a0 a1 a2):qe6 (m+1) a0 a1 a2=tb.runS1 m qEr (a0,a1,a2,()):=(congrArg (λ L=>qfl m L a0 a1 a2) (qvW m m)).trans (by kernel_rfl)
noncomputable def qje (m k x0 x1 x2 x3 x4 x5 x6):=tb.QL qEU 6 m k [(0,.row 0 0),(2,.i .i64 x0),(4,.ptr 0 0),(7,.i .i64 x1)] ⟨[[.i .i64 x2,.s x3,.i .i64 x4,.sl .term x5 1]],[⟨(.pair .term (.int .i64)),x6,0,0,false⟩]⟩
theorem qoY (m k):jw m (zG m) k=qje m k:=qP (M:=qje m) rfl (λ _=>by kernel_rfl) k
theorem qpB (m a0 a1 a2):zG (m+1) a0 a1 a2=tb.runS1 m qEU (a0,a1,a2,()):=(congrArg (λ L=>qbH m (zG m) L a0 a1 a2) (qoY m m)).trans (by kernel_rfl)
theorem qzG (m a0):qeM (m+1) a0=tb.runP1 m qHz [] (a0,()):=by kernel_rfl
noncomputable def qkP (m k x0 x1):=tb.PL qE8 4 m k [(0,.sl (.pair .term (.int .i64)) x0 1),(3,.i .i64 x1)] ⟨[],[]⟩
theorem qrV (m k):Qu m k=qkP m k:=qP (M:=qkP m) rfl (λ _=>by kernel_rfl) k
theorem qtG (m a0):qaM (m+1) a0=tb.runP1 m qE8 [] (a0,()):=(congrArg (λ L=>qdM m L a0) (qrV m m)).trans (by kernel_rfl)
noncomputable def qhQ (m k x0 x1 x2):=tb.PL qtS 3 m k [(0,.sl (.pair .term (.int .i64)) x0 1),(3,.row 0 0),(4,.i .i64 x1)] ⟨[],[⟨.term,x2,0,0,false⟩]⟩
noncomputable def qhD (m k x0 x1 x2 x3):=tb.PL qtS 6 m k [(0,.sl (.pair .term (.int .i64)) x0 1),(3,.row 0 0),(4,.i .i64 x1),(5,.i .i64 x2)] ⟨[],[⟨.term,x3,0,0,false⟩]⟩
noncomputable def qhI (m k x0 x1 x2):=tb.PL qtS 10 m k [(0,.sl (.pair .term (.int .i64)) x0 1),(3,.row 0 0),(6,.i .i64 x1)] ⟨[],[⟨.term,x2,0,0,false⟩]⟩
noncomputable def qhG (m k x0 x1 x2 x3):=tb.PL qtS 13 m k [(0,.sl (.pair .term (.int .i64)) x0 1),(3,.row 0 0),(6,.i .i64 x1),(7,.i .i64 x2)] ⟨[],[⟨.term,x3,0,0,false⟩]⟩
theorem qnA (m k):qk m k=(qhQ m k,qhD m k,qhI m k,qhG m k):=qP (M := λ k=>(qhQ m k,qhD m k,qhI m k,qhG m k)) rfl (λ _=>by kernel_rfl) k
theorem qo5 (m a0):qbh (m+1) a0=tb.runP1 m qtS [] (a0,()):=(congrArg (a₁ := qk m m) (λ L=>qa1 m L.1 L.2.1 L.2.2.1 L.2.2.2 a0) (qnA m m)).trans (by kernel_rfl)
theorem qwh (m a0):qaG (m+1) a0=tb.runP1 m qHC [] (a0,()):=by kernel_rfl
theorem qpO (m a0):qan (m+1) a0=tb.runP1 m qHO [] (a0,()):=by kernel_rfl
noncomputable def qiJ (m k x0 x1):=tb.PL qER 2 m k [(0,.sl (.pair .term (.int .i64)) x0 1),(3,.i .i64 x1)] ⟨[],[]⟩
theorem qoZ (m k):Qa m k=qiJ m k:=qP (M:=qiJ m) rfl (λ _=>by kernel_rfl) k
theorem qp5 (m a0):qb4 (m+1) a0=tb.runP1 m qER [] (a0,()):=(congrArg (λ L=>qb1 m L a0) (qoZ m m)).trans (by kernel_rfl)
noncomputable def qnq (m k x0 x1 x2):=tb.PL qEv 9 m k [(1,.sl (.pair .term (.int .i64)) x0 1),(8,.row 0 0),(9,.i .i64 x1)] ⟨[],[⟨(.pair .term (.int .i64)),x2,0,0,false⟩]⟩
theorem qvq (m k):JP m k=qnq m k:=qP (M:=qnq m) rfl (λ _=>by kernel_rfl) k
theorem qwI (m a0 a1):qhb (m+1) a0 a1=tb.runP1 m qEv [] (a0,a1,()):=(congrArg (λ L=>qfE m L a0 a1) (qvq m m)).trans (by kernel_rfl)
theorem qtk (m a0 a1):qeg (m+1) a0 a1=tb.runP1 m qIq [] (a0,a1,()):=by kernel_rfl
noncomputable def qjG (m k x0 x1 x2 x3 x4 x5 x6 x7 x8 x9):=tb.PL qEY 5 m k [(1,.ptr 0 0),(2,.ptr 1 0),(4,.row 1 0),(5,.i .i64 x0)] ⟨[[.i .i64 x1,.s x2,.i .i64 x3,.sl .term x4 1],[.i .i64 x5,.s x6,.i .i64 x7,.row 0 0]],[⟨.term,x8,0,0,false⟩,⟨.term,x9,0,0,false⟩]⟩
theorem qpL (m k):QR m (yf m) k=qjG m k:=qP (M:=qjG m) rfl (λ _=>by kernel_rfl) k
theorem qsl (m a0):yf (m+1) a0=tb.runP1 m qEY [] (a0,()):=(congrArg (λ L=>qcr m (yf m) L a0) (qpL m m)).trans (by kernel_rfl)
theorem qr6 (m a0):qcM (m+1) a0=tb.runP1 m i98 [] (a0,()):=by kernel_rfl
noncomputable def qn9 (m k x0 x1 x2 x3 x4 x5):=tb.PL i99 3 m k [(1,.ptr 0 0),(3,.row 0 0),(4,.i .i64 x0)] ⟨[[.i .i64 x1,.s x2,.i .i64 x3,.sl .term x4 1]],[⟨.term,x5,0,0,true⟩]⟩
theorem qvY (m k):qaU m (jh m) k=qn9 m k:=qP (M:=qn9 m) rfl (λ _=>by kernel_rfl) k
theorem qwM (m a0):jh (m+1) a0=tb.runP1 m i99 [] (a0,()):=(congrArg (λ L=>qfQ m (jh m) L a0) (qvY m m)).trans (by kernel_rfl)
noncomputable def qkw (m k x0 x1):=tb.PL i71 6 m k [(5,.sl .term x0 1),(6,.i .i64 x1)] ⟨[],[]⟩
theorem qrq (m k):Jp m k=qkw m k:=qP (M:=qkw m) rfl (λ _=>by kernel_rfl) k
theorem qtI (m a0):qef (m+1) a0=tb.runP1 m i71 [] (a0,()):=(congrArg (λ L=>qdF m L a0) (qrq m m)).trans (by kernel_rfl)
noncomputable def qnM (m k x0 x1 x2):=tb.PL i62 3 m k [(0,.sl .term x0 1),(3,.sl .term x1 1),(4,.i .i64 x2)] ⟨[],[]⟩
theorem qvS (m k):qaZ m k=qnM m k:=qP (M:=qnM m) rfl (λ _=>by kernel_rfl) k
theorem qyg (m a0):qg6 (m+1) a0=tb.runP1 m i62 [] (a0,()):=(congrArg (λ L=>qfI m L a0) (qvS m m)).trans (by kernel_rfl)
noncomputable def qmy (m k x0 x1 x2 x3):=tb.PL qFX 4 m k [(1,.i .i64 x0),(5,.row 0 0),(6,.sl .term x1 1),(7,.i .i64 x2)] ⟨[],[⟨.term,x3,0,0,false⟩]⟩
theorem qtC (m k):JV m k=qmy m k:=qP (M:=qmy m) rfl (λ _=>by kernel_rfl) k
theorem qv5 (m a0 a1):qfh (m+1) a0 a1=tb.runP1 m qFX [] (a0,a1,()):=(congrArg (λ L=>qey m L a0 a1) (qtC m m)).trans (by kernel_rfl)
theorem qvD (m a0):qf4 (m+1) a0=tb.runP1 m qIC [] (a0,()):=by kernel_rfl
theorem qrI (m a0):qc5 (m+1) a0=tb.runP1 m i72 [] (a0,()):=by kernel_rfl
theorem qsJ (m a0):Qi (m+1) a0=tb.runP1 m i43 [] (a0,()):=by kernel_rfl
theorem qxq (m a0):qe3 (m+1) a0=tb.runP1 m i13 [] (a0,()):=by kernel_rfl
noncomputable def qkF (m k x0 x1 x2 x3 x4 x5 x6 x7 x8):=tb.PL i25 5 m k [(1,.ptr 0 0),(3,.i .i64 x0),(4,.i .i64 x1)] ⟨[[.i .i64 x2,.s x3,.i .i64 x4,.sl .term x5 1,.i .i64 x6,.sl (.pair (.int .i64) .term) x7 1,.i .i64 x8]],[]⟩
theorem qrc (m k):qmt m k=qkF m k:=qP (M:=qkF m) rfl (λ _=>by kernel_rfl) k
theorem qt3 (m a0):qkp (m+1) a0=tb.runP1 m i25 [] (a0,()):=(congrArg (λ L=>qk3 m L a0) (qrc m m)).trans (by kernel_rfl)
theorem qqs (m a0 a1):qak (m+1) a0 a1=tb.runP1 m i75 [] (a0,a1,()):=by kernel_rfl
theorem qvB (m a0):qdm (m+1) a0=tb.runP1 m i47 [] (a0,()):=by kernel_rfl
theorem qvE (m a0):qaE (m+1) a0=tb.runP1 m i48 [] (a0,()):=by kernel_rfl
theorem qxA (m a0):qeY (m+1) a0=tb.runP1 m i49 [] (a0,()):=by kernel_rfl
theorem qwb (m a0 a1):ql4 (m+1) a0 a1=tb.runP1 m i35 [] (a0,a1,()):=by kernel_rfl
noncomputable def qmp (m k x0 x1 x2 x3 x4 x5 x6 x7 x8 x9):=tb.PL i39 4 m k [(0,.i .i64 x0),(3,.ptr 0 0),(5,.row 0 0),(6,.i .i64 x1)] ⟨[[.i .i64 x2,.s x3,.i .i64 x4,.sl .term x5 1,.i .i64 x6,.sl (.pair (.int .i64) .term) x7 1,.i .i64 x8]],[⟨(.pair (.int .i64) .term),x9,0,0,false⟩]⟩
theorem qtX (m k):qnk m k=qmp m k:=qP (M:=qmp m) rfl (λ _=>by kernel_rfl) k
theorem qvI (m a0):qlZ (m+1) a0=tb.runP1 m i39 [] (a0,()):=(congrArg (λ L=>qmI m L a0) (qtX m m)).trans (by kernel_rfl)
theorem qta (m):qaY (m+1)=tb.runP1 m i10 [] (()):=by kernel_rfl
noncomputable def qj5 (m k x0 x1 x2 x3 x4 x5):=tb.PL i40 5 m k [(1,.i .i64 x0),(2,.ptr 0 0),(5,.i .i64 x1)] ⟨[[.i .i64 x2,.s x3,.i .i64 x4,.sl .term x5 1]],[]⟩
theorem qqK (m k):QP m (ye m) k=qj5 m k:=qP (M:=qj5 m) rfl (λ _=>by kernel_rfl) k
theorem qrM (m a0 a1):ye (m+1) a0 a1=tb.runP1 m i40 [] (a0,a1,()):=(congrArg (λ L=>qcw m (ye m) L a0 a1) (qqK m m)).trans (by kernel_rfl)
noncomputable def qn2 (m k x0 x1 x2):=tb.PL i11 4 m k [(0,.sl .term x0 1),(2,.i .i64 x1),(7,.i .i64 x2)] ⟨[],[]⟩
theorem qv6 (m k):qaK m k=qn2 m k:=qP (M:=qn2 m) rfl (λ _=>by kernel_rfl) k
theorem qwO (m a0 a1 a2):qg0 (m+1) a0 a1 a2=tb.runP1 m i11 [] (a0,a1,a2,()):=(congrArg (λ L=>qfN m L a0 a1 a2) (qv6 m m)).trans (by kernel_rfl)
noncomputable def qnp (m k x0 x1 x2 x3 x4 x5 x6 x7 x8):=tb.PL i15 5 m k [(1,.i .i64 x0),(2,.ptr 0 0),(4,.ptr 1 0)] ⟨[[.i .i64 x1,.s x2,.i .i64 x3,.sl .term x4 1],[.i .i64 x5,.s x6,.i .i64 x7,.row 0 0]],[⟨.term,x8,0,0,false⟩]⟩
theorem qwi (m k):qaX m k=qnp m k:=qP (M:=qnp m) rfl (λ _=>by kernel_rfl) k
theorem qyw (m a0 a1):qg2 (m+1) a0 a1=tb.runP1 m i15 [] (a0,a1,()):=(congrArg (λ L=>qfL m L a0 a1) (qwi m m)).trans (by kernel_rfl)
noncomputable def qmB (m k x0 x1 x2 x3 x4 x5 x6 x7 x8 x9 x10 x11 x12 x13 x14):=tb.PL i16 4 m k [(2,.ptr 0 0),(3,.ptr 1 0),(5,.i .i64 x0)] ⟨[[.i .i64 x1,.s x2,.i .i64 x3,.sl .term x4 1,.i .i64 x5,.sl (.pair (.int .i64) .term) x6 1,.i .i64 x7],[.i .i64 x8,.s x9,.i .i64 x10,.sl .term x11 1,.i .i64 x12,.sl (.pair (.int .i64) .term) x13 1,.i .i64 x14]],[]⟩
theorem qti (m k):J1 m k=qmB m k:=qP (M:=qmB m) rfl (λ _=>by kernel_rfl) k
theorem qv2 (m a0 a1):qfY (m+1) a0 a1=tb.runP1 m i16 [] (a0,a1,()):=(congrArg (λ L=>qew m L a0 a1) (qti m m)).trans (by kernel_rfl)
theorem qmO (m a0 a1):law53_RatchetNew (m+1) a0 a1=tb.runP1 m i3 [] (a0,a1,()):=by kernel_rfl
end Go.AmYtbpnmbmdbblehaaGreat
namespace Go.Proofs
open Go.Shelf
def Tryz.sortTrm_ren:Go.Shelf.Ren:=⟨λ | 6=>154 | 15=>187 | 14=>186 | 28=>212 | 29=>213 | 20=>204 | 21=>205 | 22=>206 | 23=>207 | 24=>208 | 25=>209 | 26=>210 | 27=>211 | 46=>225 | 47=>226 | 48=>227 | 49=>228 | 50=>229 | 57=>236 | n=>n,λ | 22=>22 | 24=>24 | 25=>78 | 3=>3 | 39=>172 | 0=>0 | 53=>194 | 55=>196 | 4=>4 | 46=>187 | 45=>186 | 50=>191 | 5=>5 | 9=>9 | 66=>210 | 70=>100 | 76=>222 | 77=>223 | n=>n,λ | n=>n⟩
theorem Tryz.sortTrm:Go.Proofs.SlLaysF0.n6 Tryz.prog Tryz.sortTrm_ren:={
 mixed:=by kernel_rfl
 f6:=⟨Tryz.f154.name,by decide,Tryz.func154.trans (congrArg some (by kernel_rfl))⟩
 f14:=⟨Tryz.f186.name,by decide,Tryz.func186.trans (congrArg some (by kernel_rfl))⟩
 f15:=Tryz.func187.trans (congrArg some (by kernel_rfl))
 f20:=⟨Tryz.f204.name,by decide,Tryz.func204.trans (congrArg some (by kernel_rfl))⟩
 f21:=⟨Tryz.f205.name,by decide,Tryz.func205.trans (congrArg some (by kernel_rfl))⟩
 f22:=⟨Tryz.f206.name,by decide,Tryz.func206.trans (congrArg some (by kernel_rfl))⟩
 f23:=⟨Tryz.f207.name,by decide,Tryz.func207.trans (congrArg some (by kernel_rfl))⟩
 f24:=⟨Tryz.f208.name,by decide,Tryz.func208.trans (congrArg some (by kernel_rfl))⟩
 f25:=⟨Tryz.f209.name,by decide,Tryz.func209.trans (congrArg some (by kernel_rfl))⟩
 f26:=⟨Tryz.f210.name,by decide,Tryz.func210.trans (congrArg some (by kernel_rfl))⟩
 f27:=⟨Tryz.f211.name,by decide,Tryz.func211.trans (congrArg some (by kernel_rfl))⟩
 f28:=Tryz.func212.trans (congrArg some (by kernel_rfl))
 f29:=Tryz.func213.trans (congrArg some (by kernel_rfl))
 f46:=⟨Tryz.f225.name,by decide,Tryz.func225.trans (congrArg some (by kernel_rfl))⟩
 f47:=Tryz.func226.trans (congrArg some (by kernel_rfl))
 f48:=Tryz.func227.trans (congrArg some (by kernel_rfl))
 f49:=⟨Tryz.f228.name,by decide,Tryz.func228.trans (congrArg some (by kernel_rfl))⟩
 f50:=⟨Tryz.f229.name,by decide,Tryz.func229.trans (congrArg some (by kernel_rfl))⟩
 f57:=⟨Tryz.f236.name,by decide,Tryz.func236.trans (congrArg some (by kernel_rfl))⟩
 t0:=Tryz.underlying0
 a0:=Tryz.isAgg0
 z0:=Tryz.sizeOf0
 v0:=Tryz.zeroValue0
 t3:=Tryz.underlying3
 a3:=Tryz.isAgg3
 z3:=Tryz.sizeOf3
 v3:=Tryz.zeroValue3
 t4:=Tryz.underlying4
 a4:=Tryz.isAgg4
 z4:=Tryz.sizeOf4
 v4:=Tryz.zeroValue4
 t5:=Tryz.underlying5
 a5:=Tryz.isAgg5
 z5:=Tryz.sizeOf5
 v5:=Tryz.zeroValue5
 t9:=Tryz.underlying9
 a9:=Tryz.isAgg9
 z9:=Tryz.sizeOf9
 v9:=Tryz.zeroValue9
 t22:=Tryz.underlying22
 a22:=Tryz.isAgg22
 z22:=Tryz.sizeOf22
 v22:=Tryz.zeroValue22
 t25:=Tryz.underlying78
 a25:=Tryz.isAgg78
 z25:=Tryz.sizeOf78
 v25:=Tryz.zeroValue78
 t39:=Tryz.underlying172
 a39:=Tryz.isAgg172
 z39:=Tryz.sizeOf172
 v39:=Tryz.zeroValue172
 t45:=Tryz.underlying186
 a45:=Tryz.isAgg186
 z45:=Tryz.sizeOf186
 v45:=Tryz.zeroValue186
 t46:=Tryz.underlying187
 a46:=Tryz.isAgg187
 z46:=Tryz.sizeOf187
 v46:=Tryz.zeroValue187
 t50:=Tryz.underlying191
 a50:=Tryz.isAgg191
 z50:=Tryz.sizeOf191
 v50:=Tryz.zeroValue191
 t53:=Tryz.underlying194
 a53:=Tryz.isAgg194
 z53:=Tryz.sizeOf194
 v53:=Tryz.zeroValue194
 t55:=Tryz.underlying196
 a55:=Tryz.isAgg196
 z55:=Tryz.sizeOf196
 v55:=Tryz.zeroValue196
 t66:=Tryz.underlying210
 a66:=Tryz.isAgg210
 z66:=Tryz.sizeOf210
 v66:=Tryz.zeroValue210
 t70:=Tryz.underlying100
 a70:=Tryz.isAgg100
 z70:=Tryz.sizeOf100
 v70:=Tryz.zeroValue100
 t76:=Tryz.underlying222
 a76:=Tryz.isAgg222
 z76:=Tryz.sizeOf222
 v76:=Tryz.zeroValue222
 t77:=Tryz.underlying223
 a77:=Tryz.isAgg223
 z77:=Tryz.sizeOf223
 v77:=Tryz.zeroValue223 }
end Go.Proofs
namespace Go.AmYtbpnmbmdbblehaaGreat
open Go Go.GxYtbpnmbmdbblehaaGreat
set_option linter.unusedVariables false
set_option maxRecDepth 100000
theorem qaW (m:Nat) (h:yc Go.Proofs.Tryz.prog (tb.at m).pc.cfg):qX Go.Proofs.Tryz.prog 154 (mgP ⟨.term,[.clo 78 0],λ x=>qS (m+1) x.1⟩):=qCU (τ := .term) Go.Proofs.Tryz.sortTrm (λ _=>rfl) Go.Proofs.Tryz.isAgg24 Go.Proofs.Tryz.sizeOf24 (qDs (τ := .term) (ρ := (.int .i64)) (qz5 h (by kernel_rfl)) (F := λ x y=>qs m x y) (by kernel_rfl) (λ _=>rfl)) (QM Go.Proofs.Tryz.func154 (by kernel_rfl)) (λ _ _ h=>h)
theorem J4 (m:Nat) (h:yc Go.Proofs.Tryz.prog (tb.at m).pc.cfg):qX Go.Proofs.Tryz.prog 155 (sgP ⟨[.row .term,.clo 156 0],[.one (.row .term)],λ x=>qF (m+1) x.1⟩):=qxY (qDs (τ := .term) (ρ := .bool) (qz5 h (by kernel_rfl)) (F := λ x y=>ya m x y) (by kernel_rfl) (λ _=>rfl)) (λ _ _ h=>qBI h)
theorem tb_ok:∀ m,yc Go.Proofs.Tryz.prog (tb.at m).pc.cfg:=Tb.all_ok (by kernel_rfl) qDt (by kernel_rfl) ⟨nl1 ⟨Go.Proofs.Tryz.func121,λ _=>rfl,λ m a=>qt7 m a.1,trivial⟩,⟨nl1 ⟨Go.Proofs.Tryz.func67,λ _=>rfl,λ m a=>qtF m a.1,trivial⟩,⟨nl1 ⟨Go.Proofs.Tryz.func41,λ _=>rfl,λ m a=>qpY m a.1,trivial⟩,⟨nl1 ⟨Go.Proofs.Tryz.func19,λ _=>rfl,λ m a=>qn8 m a.1 a.2.1,trivial⟩,⟨nl1 ⟨Go.Proofs.Tryz.func13,λ _=>rfl,λ m a=>qxq m a.1,trivial⟩,⟨nl1 ⟨Go.Proofs.Tryz.func11,λ _=>rfl,λ m a=>qwO m a.1 a.2.1 a.2.2.1,trivial⟩,⟨nl1 ⟨Go.Proofs.Tryz.func10,λ _=>rfl,λ m a=>qta m,trivial⟩,⟨nl1 ⟨Go.Proofs.Tryz.func3,λ _=>rfl,λ m a=>qmO m a.1 a.2.1,trivial⟩,trivial,trivial⟩,trivial⟩,⟨nl1 ⟨Go.Proofs.Tryz.func12,λ _=>rfl,λ m a=>qtN m a.1,trivial⟩,trivial,trivial⟩⟩,⟨nl1 ⟨Go.Proofs.Tryz.func16,λ _=>rfl,λ m a=>qv2 m a.1 a.2.1,trivial⟩,⟨nl1 ⟨Go.Proofs.Tryz.func15,λ _=>rfl,λ m a=>qyw m a.1 a.2.1,trivial⟩,⟨nl1 ⟨Go.Proofs.Tryz.func14,λ _=>rfl,λ m a=>qt9 m a.1 a.2.1,trivial⟩,trivial,trivial⟩,trivial⟩,⟨nl1 ⟨Go.Proofs.Tryz.func17,λ _=>rfl,λ m a=>qvC m a.1 a.2.1,trivial⟩,trivial,trivial⟩⟩⟩,⟨nl1 ⟨Go.Proofs.Tryz.func35,λ _=>rfl,λ m a=>qwb m a.1 a.2.1,trivial⟩,⟨nl1 ⟨Go.Proofs.Tryz.func23,λ _=>rfl,λ m a=>qvT m a.1 a.2.1,trivial⟩,⟨nl1 ⟨Go.Proofs.Tryz.func22,λ _=>rfl,λ m a=>qv9 m,trivial⟩,⟨nl1 ⟨Go.Proofs.Tryz.func21,λ _=>rfl,λ m a=>qql m a.1,trivial⟩,trivial,trivial⟩,trivial⟩,⟨nl1 ⟨Go.Proofs.Tryz.func25,λ _=>rfl,λ m a=>qt3 m a.1,trivial⟩,trivial,trivial⟩⟩,⟨nl1 ⟨Go.Proofs.Tryz.func39,λ _=>rfl,λ m a=>qvI m a.1,trivial⟩,⟨nl1 ⟨Go.Proofs.Tryz.func38,λ _=>rfl,λ m a=>qtM m a.1,trivial⟩,trivial,trivial⟩,⟨nl1 ⟨Go.Proofs.Tryz.func40,λ _=>rfl,λ m a=>qrM m a.1 a.2.1,trivial⟩,trivial,trivial⟩⟩⟩⟩,⟨nl1 ⟨Go.Proofs.Tryz.func50,λ _=>rfl,λ m a=>qp8 m a.1 a.2.1,trivial⟩,⟨nl1 ⟨Go.Proofs.Tryz.func46,λ _=>rfl,λ m a=>qtx m a.1,trivial⟩,⟨nl1 ⟨Go.Proofs.Tryz.func44,λ _=>rfl,λ m a=>qrX m a.1,trivial⟩,⟨nl1 ⟨Go.Proofs.Tryz.func43,λ _=>rfl,λ m a=>qsJ m a.1,trivial⟩,⟨nl1 ⟨Go.Proofs.Tryz.func42,λ _=>rfl,λ m a=>qoX m a.1,trivial⟩,trivial,trivial⟩,trivial⟩,⟨nl1 ⟨Go.Proofs.Tryz.func45,λ _=>rfl,λ m a=>qvz m a.1,trivial⟩,trivial,trivial⟩⟩,⟨nl1 ⟨Go.Proofs.Tryz.func48,λ _=>rfl,λ m a=>qvE m a.1,trivial⟩,⟨nl1 ⟨Go.Proofs.Tryz.func47,λ _=>rfl,λ m a=>qvB m a.1,trivial⟩,trivial,trivial⟩,⟨nl1 ⟨Go.Proofs.Tryz.func49,λ _=>rfl,λ m a=>qxA m a.1,trivial⟩,trivial,trivial⟩⟩⟩,⟨nl1 ⟨Go.Proofs.Tryz.func62,λ _=>rfl,λ m a=>qyg m a.1,trivial⟩,⟨nl1 ⟨Go.Proofs.Tryz.func54,λ _=>rfl,λ m a=>qo8 m a.1 a.2.1,trivial⟩,⟨⟨js,λ _ _=>js⟩,⟨⟨Go.Proofs.Tryz.func51,λ _=>rfl,λ m a=>qsW m a.1⟩,trivial,trivial⟩,trivial⟩,⟨qc4 (m:=0),trivial,trivial⟩⟩,⟨nl1 ⟨Go.Proofs.Tryz.func65,λ _=>rfl,λ m a=>qoe m a.1 a.2.1,trivial⟩,⟨nl1 ⟨Go.Proofs.Tryz.func64,λ _=>rfl,λ m a=>qxx m a.1 a.2.1,trivial⟩,trivial,trivial⟩,⟨nl1 ⟨Go.Proofs.Tryz.func66,λ _=>rfl,λ m a=>qvr m a.1 a.2.1,trivial⟩,trivial,trivial⟩⟩⟩⟩⟩,⟨nl1 ⟨Go.Proofs.Tryz.func89,λ _=>rfl,λ m a=>qsY m a.1,trivial⟩,⟨nl1 ⟨Go.Proofs.Tryz.func76,λ _=>rfl,λ m a=>qrO m a.1 a.2.1,trivial⟩,⟨nl1 ⟨Go.Proofs.Tryz.func72,λ _=>rfl,λ m a=>qrI m a.1,trivial⟩,⟨nl1 ⟨Go.Proofs.Tryz.func70,λ _=>rfl,λ m a=>qBz m a.1 a.2.1,trivial⟩,⟨nl1 ⟨Go.Proofs.Tryz.func69,λ _=>rfl,λ m a=>qwD m a.1,trivial⟩,⟨nl1 ⟨Go.Proofs.Tryz.func68,λ _=>rfl,λ m a=>qss m a.1,trivial⟩,trivial,trivial⟩,trivial⟩,⟨nl1 ⟨Go.Proofs.Tryz.func71,λ _=>rfl,λ m a=>qtI m a.1,trivial⟩,trivial,trivial⟩⟩,⟨⟨Go.Proofs.Tryz.func74,λ _=>rfl,λ m a=>qvG m a.1 a.2.1 a.2.2.1 a.2.2.2.1⟩,⟨nl1 ⟨Go.Proofs.Tryz.func73,λ _=>rfl,λ m a=>qtY m a.1,trivial⟩,trivial,trivial⟩,⟨nl1 ⟨Go.Proofs.Tryz.func75,λ _=>rfl,λ m a=>qqs m a.1 a.2.1,trivial⟩,trivial,trivial⟩⟩⟩,⟨nl1 ⟨Go.Proofs.Tryz.func85,λ _=>rfl,λ m a=>qxk m a.1 a.2.1,trivial⟩,⟨nl1 ⟨Go.Proofs.Tryz.func79,λ _=>rfl,λ m a=>qzx m a.1 a.2.1,trivial⟩,⟨nl1 ⟨Go.Proofs.Tryz.func78,λ _=>rfl,λ m a=>qrD m a.1 a.2.1,trivial⟩,⟨nl1 ⟨Go.Proofs.Tryz.func77,λ _=>rfl,λ m a=>qv4 m a.1,trivial⟩,trivial,trivial⟩,trivial⟩,⟨nl1 ⟨Go.Proofs.Tryz.func81,λ _=>rfl,λ m a=>qw6 m a.1 a.2.1,trivial⟩,trivial,trivial⟩⟩,⟨nl1 ⟨Go.Proofs.Tryz.func87,λ _=>rfl,λ m a=>qrZ m a.1,trivial⟩,⟨nl1 ⟨Go.Proofs.Tryz.func86,λ _=>rfl,λ m a=>qv0 m a.1,trivial⟩,trivial,trivial⟩,⟨nl1 ⟨Go.Proofs.Tryz.func88,λ _=>rfl,λ m a=>qvP m a.1 a.2.1,trivial⟩,trivial,trivial⟩⟩⟩⟩,⟨nl1 ⟨Go.Proofs.Tryz.func98,λ _=>rfl,λ m a=>qr6 m a.1,trivial⟩,⟨nl1 ⟨Go.Proofs.Tryz.func94,λ _=>rfl,λ m a=>qpa m a.1,trivial⟩,⟨nl1 ⟨Go.Proofs.Tryz.func92,λ _=>rfl,λ m a=>qs9 m a.1 a.2.1,trivial⟩,⟨nl1 ⟨Go.Proofs.Tryz.func91,λ _=>rfl,λ m a=>qpK m a.1,trivial⟩,⟨nl1 ⟨Go.Proofs.Tryz.func90,λ _=>rfl,λ m a=>qsT m a.1,trivial⟩,trivial,trivial⟩,trivial⟩,⟨nl1 ⟨Go.Proofs.Tryz.func93,λ _=>rfl,λ m a=>qk1 m a.1,trivial⟩,trivial,trivial⟩⟩,⟨nl1 ⟨Go.Proofs.Tryz.func96,λ _=>rfl,λ m a=>qto m a.1 a.2.1,trivial⟩,⟨nl1 ⟨Go.Proofs.Tryz.func95,λ _=>rfl,λ m a=>qqA m a.1,trivial⟩,trivial,trivial⟩,⟨nl1 ⟨Go.Proofs.Tryz.func97,λ _=>rfl,λ m a=>qvv m a.1,trivial⟩,trivial,trivial⟩⟩⟩,⟨nl1 ⟨Go.Proofs.Tryz.func103,λ _=>rfl,λ m a=>qxz m a.1 a.2.1,trivial⟩,⟨nl1 ⟨Go.Proofs.Tryz.func101,λ _=>rfl,λ m a=>qvD m a.1,trivial⟩,⟨nl1 ⟨Go.Proofs.Tryz.func100,λ _=>rfl,λ m a=>qwl m a.1,trivial⟩,⟨nl1 ⟨Go.Proofs.Tryz.func99,λ _=>rfl,λ m a=>qwM m a.1,trivial⟩,trivial,trivial⟩,trivial⟩,⟨nl1 ⟨Go.Proofs.Tryz.func102,λ _=>rfl,λ m a=>qtZ m a.1,trivial⟩,trivial,trivial⟩⟩,⟨λ c hc=>qlG (m:=0) hc,⟨nl1 ⟨Go.Proofs.Tryz.func104,λ _=>rfl,λ m a=>qxj m a.1,trivial⟩,trivial,trivial⟩,⟨nl1 ⟨Go.Proofs.Tryz.func120,λ _=>rfl,λ m a=>qrg m a.1,trivial⟩,trivial,trivial⟩⟩⟩⟩⟩⟩,⟨⟨Go.Proofs.Tryz.func173,λ _=>rfl,λ m a=>qpB m a.1 a.2.1 a.2.2.1⟩,⟨nl1 ⟨Go.Proofs.Tryz.func149,λ _=>rfl,λ m a=>qA3 m a.1,trivial⟩,⟨nl1 ⟨Go.Proofs.Tryz.func130,λ _=>rfl,λ m a=>qtK m a.1,trivial⟩,⟨λ c hc=>qmP (m:=0) hc,⟨nl1 ⟨Go.Proofs.Tryz.func124,λ _=>rfl,λ m a=>qrk m a.1,trivial⟩,⟨nl1 ⟨Go.Proofs.Tryz.func123,λ _=>rfl,λ m a=>qv7 m a.1,trivial⟩,⟨nl1 ⟨Go.Proofs.Tryz.func122,λ _=>rfl,λ m a=>qvN m a.1,trivial⟩,trivial,trivial⟩,trivial⟩,⟨nl1 ⟨Go.Proofs.Tryz.func125,λ _=>rfl,λ m a=>qpP m a.1,trivial⟩,trivial,trivial⟩⟩,⟨⟨Go.Proofs.Tryz.func128,λ _=>rfl,λ m a=>qjq m a.1 a.2.1 a.2.2.1⟩,⟨⟨Go.Proofs.Tryz.func127,λ _=>rfl,λ m a=>qlI m a.1 a.2.1 a.2.2.1⟩,trivial,trivial⟩,⟨⟨Go.Proofs.Tryz.func129,λ _=>rfl,λ m a=>qsB m a.1⟩,trivial,trivial⟩⟩⟩,⟨nl1 ⟨Go.Proofs.Tryz.func143,λ _=>rfl,λ m a=>qwI m a.1 a.2.1,trivial⟩,⟨nl1 ⟨Go.Proofs.Tryz.func133,λ _=>rfl,λ m a=>qv5 m a.1 a.2.1,trivial⟩,⟨nl1 ⟨Go.Proofs.Tryz.func132,λ _=>rfl,λ m a=>qpE m,trivial⟩,⟨nl1 ⟨Go.Proofs.Tryz.func131,λ _=>rfl,λ m a=>qsl m a.1,trivial⟩,trivial,trivial⟩,trivial⟩,⟨nl1 ⟨Go.Proofs.Tryz.func134,λ _=>rfl,λ m a=>qwG m a.1,trivial⟩,trivial,trivial⟩⟩,⟨nl1 ⟨Go.Proofs.Tryz.func147,λ _=>rfl,λ m a=>qqW m a.1,trivial⟩,⟨nl1 ⟨Go.Proofs.Tryz.func146,λ _=>rfl,λ m a=>qzG m a.1,trivial⟩,trivial,trivial⟩,⟨nl1 ⟨Go.Proofs.Tryz.func148,λ _=>rfl,λ m a=>qpg m a.1,trivial⟩,trivial,trivial⟩⟩⟩⟩,⟨nl1 ⟨Go.Proofs.Tryz.func159,λ _=>rfl,λ m a=>qxe m a.1,trivial⟩,⟨⟨qsH (QM Go.Proofs.Tryz.func155 (by kernel_rfl)) λ _=>rfl,λ m h=>J4 m h⟩,⟨nl1 ⟨Go.Proofs.Tryz.func152,λ _=>rfl,λ m a=>qrl m a.1 a.2.1,trivial⟩,⟨nl1 ⟨Go.Proofs.Tryz.func151,λ _=>rfl,λ m a=>qpF m a.1,trivial⟩,⟨nl1 ⟨Go.Proofs.Tryz.func150,λ _=>rfl,λ m a=>qtd m a.1,trivial⟩,trivial,trivial⟩,trivial⟩,⟨⟨qDU (QM Go.Proofs.Tryz.func154 (by kernel_rfl)) λ _=>rfl,λ m h=>qaW m h⟩,trivial,trivial⟩⟩,⟨nl1 ⟨Go.Proofs.Tryz.func157,λ _=>rfl,λ m a=>qtE m a.1,trivial⟩,⟨nl1 ⟨Go.Proofs.Tryz.func156,λ _=>rfl,λ m a=>qo0 m a.1 a.2.1,trivial⟩,trivial,trivial⟩,⟨nl1 ⟨Go.Proofs.Tryz.func158,λ _=>rfl,λ m a=>qqI m a.1,trivial⟩,trivial,trivial⟩⟩⟩,⟨nl1 ⟨Go.Proofs.Tryz.func167,λ _=>rfl,λ m a=>qtG m a.1,trivial⟩,⟨nl1 ⟨Go.Proofs.Tryz.func163,λ _=>rfl,λ m a=>qoW m a.1,trivial⟩,⟨nl1 ⟨Go.Proofs.Tryz.func161,λ _=>rfl,λ m a=>qtk m a.1 a.2.1,trivial⟩,⟨nl1 ⟨Go.Proofs.Tryz.func160,λ _=>rfl,λ m a=>qpO m a.1,trivial⟩,trivial,trivial⟩,trivial⟩,⟨nl1 ⟨Go.Proofs.Tryz.func164,λ _=>rfl,λ m a=>qud m a.1 a.2.1,trivial⟩,trivial,trivial⟩⟩,⟨nl1 ⟨Go.Proofs.Tryz.func169,λ _=>rfl,λ m a=>qp5 m a.1,trivial⟩,⟨⟨Go.Proofs.Tryz.func168,λ _=>rfl,λ m a=>qxo m a.1 a.2.1 a.2.2.1⟩,trivial,trivial⟩,⟨nl1 ⟨Go.Proofs.Tryz.func172,λ _=>rfl,λ m a=>qtT m a.1,trivial⟩,trivial,trivial⟩⟩⟩⟩⟩,⟨nl1 ⟨Go.Proofs.Tryz.func193,λ _=>rfl,λ m a=>qwh m a.1,trivial⟩,⟨nl1 ⟨Go.Proofs.Tryz.func182,λ _=>rfl,λ m a=>qrE m a.1 a.2.1,trivial⟩,⟨nl1 ⟨Go.Proofs.Tryz.func178,λ _=>rfl,λ m a=>qB0 m a.1,trivial⟩,⟨nl1 ⟨Go.Proofs.Tryz.func176,λ _=>rfl,λ m a=>qza m a.1 a.2.1,trivial⟩,⟨nl1 ⟨Go.Proofs.Tryz.func175,λ _=>rfl,λ m a=>qyK m a.1 a.2.1,trivial⟩,⟨nl1 ⟨Go.Proofs.Tryz.func174,λ _=>rfl,λ m a=>qxI m a.1 a.2.1,trivial⟩,trivial,trivial⟩,trivial⟩,⟨nl1 ⟨Go.Proofs.Tryz.func177,λ _=>rfl,λ m a=>qrx m a.1,trivial⟩,trivial,trivial⟩⟩,⟨nl1 ⟨Go.Proofs.Tryz.func180,λ _=>rfl,λ m a=>qo2 m a.1,trivial⟩,⟨⟨Go.Proofs.Tryz.func179,λ _=>rfl,λ m a=>qmU m a.1 a.2.1 a.2.2.1⟩,trivial,trivial⟩,⟨nl1 ⟨Go.Proofs.Tryz.func181,λ _=>rfl,λ m a=>qo6 m a.1,trivial⟩,trivial,trivial⟩⟩⟩,⟨nl1 ⟨Go.Proofs.Tryz.func189,λ _=>rfl,λ m a=>qsj m a.1,trivial⟩,⟨nl1 ⟨Go.Proofs.Tryz.func185,λ _=>rfl,λ m a=>qwm m a.1 a.2.1,trivial⟩,⟨nl1 ⟨Go.Proofs.Tryz.func184,λ _=>rfl,λ m a=>qsA m a.1 a.2.1,trivial⟩,⟨nl1 ⟨Go.Proofs.Tryz.func183,λ _=>rfl,λ m a=>qd3 m a.1,trivial⟩,trivial,trivial⟩,trivial⟩,⟨nl1 ⟨Go.Proofs.Tryz.func188,λ _=>rfl,λ m a=>qvp m a.1,trivial⟩,trivial,trivial⟩⟩,⟨nl1 ⟨Go.Proofs.Tryz.func191,λ _=>rfl,λ m a=>qvH m a.1 a.2.1,trivial⟩,⟨nl1 ⟨Go.Proofs.Tryz.func190,λ _=>rfl,λ m a=>qvO m,trivial⟩,trivial,trivial⟩,⟨nl1 ⟨Go.Proofs.Tryz.func192,λ _=>rfl,λ m a=>qvy m a.1,trivial⟩,trivial,trivial⟩⟩⟩⟩,⟨nl1 ⟨Go.Proofs.Tryz.func214,λ _=>rfl,λ m a=>qr8 m a.1 a.2.1,trivial⟩,⟨qdy (m:=0),⟨nl1 ⟨Go.Proofs.Tryz.func198,λ _=>rfl,λ m a=>qnU m a.1,trivial⟩,⟨nl1 ⟨Go.Proofs.Tryz.func197,λ _=>rfl,λ m a=>qrG m a.1 a.2.1 a.2.2.1,trivial⟩,⟨nl1 ⟨Go.Proofs.Tryz.func195,λ _=>rfl,λ m a=>qp3 m a.1,trivial⟩,trivial,trivial⟩,trivial⟩,⟨⟨Go.Proofs.Tryz.func199,λ _=>rfl,λ m a=>qm1 m a.1 a.2.1⟩,trivial,trivial⟩⟩,⟨⟨Go.Proofs.Tryz.func202,λ _=>rfl,λ m a=>qnV m a.1⟩,⟨qd1 (m:=0),trivial,trivial⟩,⟨nl1 ⟨Go.Proofs.Tryz.func203,λ _=>rfl,λ m a=>qm0 m a.1,trivial⟩,trivial,trivial⟩⟩⟩,⟨qch (m:=0),⟨nl1 ⟨Go.Proofs.Tryz.func220,λ _=>rfl,λ m a=>ql7 m a.1 a.2.1,trivial⟩,⟨nl1 ⟨Go.Proofs.Tryz.func219,λ _=>rfl,λ m a=>j7 m a.1 a.2.1,trivial⟩,⟨nl1 ⟨Go.Proofs.Tryz.func215,λ _=>rfl,λ m a=>qo5 m a.1,trivial⟩,trivial,trivial⟩,trivial⟩,⟨qck (m:=0),trivial,trivial⟩⟩,⟨nl1 ⟨Go.Proofs.Tryz.func224,λ _=>rfl,λ m a=>qlz m a.1,trivial⟩,⟨nl1 ⟨Go.Proofs.Tryz.func223,λ _=>rfl,λ m a=>JT m a.1,trivial⟩,trivial,trivial⟩,⟨nl1 ⟨Go.Proofs.Tryz.func235,λ _=>rfl,λ m a=>qag m a.1,trivial⟩,trivial,trivial⟩⟩⟩⟩⟩⟩⟩
end Go.AmYtbpnmbmdbblehaaGreat
namespace Go.AmYtbpnmbmdbblehaaGreat
open Go Go.GxYtbpnmbmdbblehaaGreat Go.RowKit
open Go.ChangeShapes Go.WideShapes Go.ChangeAt Go.WideMaps Go.WideElems
theorem quz (b o j:Nat):(⟨b,o,none⟩:Addr).add j=⟨b,o+j,none⟩:=by unfold Addr.add;split<;>simp_all
mutual
def tyM (P:Program):Nat→Ty→TypeId→Bool
 | 0,_,_=>false
 | _+1,.int k,t=>match P.underlying t with
   | some (.int k')=>decide (k'=k)&&decide (P.cellsOf t=1)
   | _=>false
 | _+1,.bool,t=>match P.underlying t with
   | some .bool=>decide (P.cellsOf t=1)
   | _=>false
 | _+1,.str,t=>match P.underlying t with
   | some .string=>decide (P.cellsOf t=1)
   | _=>false
 | n+1,.list a,t=>match P.underlying t with
   | some (.slice e)=>decide (P.cellsOf t=1)&&decide (P.cellsOf e=a.size)&&decide (0<P.bytesOf e)&&tyM P n a e
   | _=>false
 | n+1,.term,t=>qBl P n t
 | n+1,.pair a b,t=>match P.underlying t with
   | some (.struct fs)=>decide (P.cellsOf t=a.size+b.size)&&fsM P n (.pair a b) 0 fs.toList
   | _=>false
 | n+1,.one a,t=>match P.underlying t with
   | some (.struct fs)=>decide (P.cellsOf t=a.size)&&fsM P n a 0 fs.toList
   | _=>false
def fsM (P:Program):Nat→Ty→Nat→List Field→Bool
 | 0,_,_,_=>false
 | n+1,τ,off,[f]=>decide (f.offset=off)&&decide (P.cellsOf f.type = τ.size)&&tyM P n τ f.type
 | n+1,.pair a b,off,f::g::r=>decide (f.offset=off)&&decide (P.cellsOf f.type=a.size)&&tyM P n a f.type&&fsM P n b (off+a.size) (g::r)
 | _+1,_,_,_=>false
def qBl (P:Program):Nat→TypeId→Bool
 | 0,_=>false
 | n+1,t=>match P.underlying t with
   | some (.struct fs)=>match fs.toList with
     | [f0,f1,f2,f3]=>decide (P.cellsOf t=4)&&decide (f0.offset=0)&&decide (f1.offset=1)&&decide (f2.offset=2)&&decide (f3.offset=3)&&decide (P.cellsOf f3.type=1) &&
      tyM P n (.int .i64) f0.type&&tyM P n .str f1.type&&tyM P n (.int .i64) f2.type&&(match P.underlying f3.type with
      | some (.slice e)=>decide (e=t)&&decide (0<P.bytesOf t)
      | _=>false)
     | _=>false
   | _=>false
end
def qkk:(τ : Ty)→Val τ → Prop
 | .int k,n=>k.min≤n∧n≤k.max
 | .bool,_=>True
 | .str,s=>s.length<2 ^ 62
 | .term,t=>qp7 t
 | .list a,l=>l.length<2 ^ 62∧∀ x∈l,qkk a x
 | .pair a b,p=>qkk a p.1∧qkk b p.2
 | .one a,v=>qkk a v
def ghW (W:World):Gh:=⟨λ b o=>match W.cell? ⟨b,o,none⟩ with | some u=>if u.oneCell'=true then some u else none | none=>none,0,λ _=>0,0,λ _=>0,λ _=>0,λ _=>0,λ _=>0⟩
theorem qzN {W:World} {b o:Nat} {u:Value}:(ghW W).mem b o=some u↔W.cell? ⟨b,o,none⟩=some u∧u.oneCell'=true:=by
 show (match W.cell? ⟨b,o,none⟩ with | some u=>if u.oneCell'=true then some u else none | none=>none)=some u↔_
 cases W.cell? ⟨b,o,none⟩ with
 | none=>simp
 | some v =>
   simp only [Option.some.injEq]
   constructor
   ·intro h
    split at h
    ·cases h;exact ⟨rfl,‹_›⟩
    ·cases h
   ·rintro ⟨rfl,h⟩
    rw [if_pos h]
theorem qGh (W:World):Inv (ghW W) emp W :=
 ⟨rfl,rfl,λ b o u h=>qzN.1 h,λ i cs h=>(by cases h),λ i j h=>absurd h (Nat.not_lt_zero _),λ i h=>absurd h (Nat.not_lt_zero _),λ r R h=>(by cases h),λ r r' h=>absurd h (Nat.not_lt_zero _)⟩
theorem cells_len {W:World} {zV:Nat} {a:Addr}:∀ {n:Nat} {cs:List Value},W.cells? zV a n=some cs→cs.length=n∧∀ j u,cs[j]? = some u→W.cell? (a.add j)=some u:=by
 intro n cs h
 unfold World.cells? at h
 split at h
 case isFalse=>cases h
 have h1:=mapM_some_length h
 rw [List.length_range] at h1
 refine ⟨h1,λ j u hj=>?_⟩
 have hlt:=getElem?_lt hj
 have:=mapM_some_get h j j (by rw [List.getElem?_range (by omega)])
 rw [this];exact hj
section
variable {H:Type} {enc:TypeId × Value→H} {P:Program} {W:World}
def qAZ (enc:TypeId × Value→H) (P:Program) (W:World) (fuel:Nat):Prop:=∀ (n:Nat) (τ : Ty) (t:TypeId) (cs:List Value) (x:DataW H × List MemPlace),tyM P n τ t=true→DataW.trod enc P W 0 (λ _=>true) true fuel t cs=some x→(∀ k∈x.1.weights P t,k≤reachBytes) →
 ∃ v:Val τ,RepL (ghW W) (qm τ v) cs∧(∀ u∈cs,u.oneCell'=true)∧qkk τ v
theorem qkv {e:TypeId}:∀ {ds:List (DataW H)} {d:DataW H},d∈ds→∀ n∈d.weights P e,n∈DataW.weightsAll P e ds
 | d0::ds,d,h,n,hn=>by
   simp only [DataW.weightsAll,List.mem_append]
   rcases List.mem_cons.1 h with rfl | h
   ·exact Or.inl hn
   ·exact Or.inr (qkv h n hn)
theorem qxX {n k:Nat} (h:n*k≤reachBytes) (hk:0<k):n<2 ^ 62:=by
 have:n*1≤n*k:=Nat.mul_le_mul_left _ hk
 have h2:reachBytes=140737488351232:=rfl
 omega
theorem qDz {α β : Type} {n:Nat} {Q:Nat → α → β → Prop} (h0:0<n) (h:∀ i,i<n→∃ a b,Q i a b):∃ (f:Nat → α) (g:Nat → β),∀ i,i<n→Q i (f i) (g i):=by
 obtain ⟨a0,b0,_⟩:=h 0 h0
 refine ⟨λ i=>if hi:i<n then (h i hi).choose else a0,λ i=>if hi:i<n then (h i hi).choose_spec.choose else b0,λ i hi=>?_⟩
 simp only [dif_pos hi]
 exact (h i hi).choose_spec.choose_spec
theorem qx6 {Γ : Gh} {x:AV} {u:Value} (h:Rep Γ x u):RepL Γ [x] [u]:=RepL.cons h RepL.nil
theorem quw {fuel:Nat} (hA:∀ f,f<fuel→qAZ enc P W f) {a:Ty} {t e:TypeId} {m:Nat} {cs:List Value} {x:DataW H × List MemPlace} (ht:P.underlying t=some (.slice e)) (hc:P.cellsOf e=a.size) (hb:0<P.bytesOf e) (hm:tyM P m a e=true)
  (h:DataW.trod enc P W 0 (λ _=>true) true fuel t cs=some x) (hw:∀ k∈x.1.weights P t,k≤reachBytes) :
  ∃ (l:List (Val a)) (u:Value),cs=[u]∧u.oneCell'=true∧Rep (ghW W) (.sl a.size (l.map (qm a)) 1) u∧l.length<2 ^ 62∧∀ v∈l,qkk a v:=by
 rcases DataW.trod_slice ht h with ⟨rfl,rfl⟩ | ⟨ad,len,cap,elems,rest,n,rfl,rfl,rfl,_,hl,_,hlen,hel,_,_⟩
 ·refine ⟨[],_,rfl,rfl,?_,by simp,(by intro v hv;cases hv)⟩
  exact .sl _ _ _ none 0 0 0 0 (λ _ _=>undef) rfl (λ _=>Nat.le_refl _) (λ h=>by omega) (by intro e he;cases he) (by intro e he;cases he) (Ty.size_pos a) (.inl rfl) (by intro i e j x hi;cases hi) (by intro i e j x hi;cases hi)
 ·have hwt:(elems.length+rest.length)*P.bytesOf e≤reachBytes∧∀ k∈DataW.weightsAll P e (elems.map (·.1)),k≤reachBytes:=by
    simp only [DataW.weights,ht,List.length_map,List.mem_cons,List.mem_append] at hw
    exact ⟨hw _ (.inl rfl),λ k hk=>hw k (.inr (.inl hk))⟩
  have each:∀ i,i<len→∃ (v:Val a) (us:List Value),RepL (ghW W) (qm a v) us∧(∀ u∈us,u.oneCell'=true)∧qkk a v∧(∀ j u,us[j]? = some u→W.cell? ((ad.add (i*a.size)).add j)=some u):=by
   intro i hi
   have h1:=hel i hi
   rw [List.getElem?_eq_getElem (by omega),hc,Option.bind_eq_some_iff] at h1
   obtain ⟨us,h2,h3⟩:=h1
   obtain ⟨q1,q2⟩:=cells_len h2
   obtain ⟨v,g1,g2,g3⟩:=hA n (Nat.lt_succ_self _) m a e us _ hm h3 λ k hk=>hwt.2 k (qkv (List.mem_map_of_mem (List.getElem_mem _)) k hk)
   exact ⟨v,us,g1,g2,g3,q2⟩
  by_cases h0:len=0
  ·subst h0
   refine ⟨[],_,rfl,rfl,?_,by simp,(by intro v hv;cases hv)⟩
   exact .sl _ _ _ _ 0 cap 0 0 (λ _ _=>undef) rfl (λ _=>hl) (λ h=>by omega) (by intro e he;cases he) (by intro e he;cases he) (Ty.size_pos a) (.inl rfl) (by intro i e j x hi;cases hi) (by intro i e j x hi;cases hi)
  obtain ⟨b,o,rfl⟩:∃ b o,ad=⟨b,o,none⟩:=by
   obtain ⟨v,us,g1,_,_,g4⟩:=each 0 (by omega)
   have hl1:us.length=a.size:=by rw [g1.len];exact jL a v
   have hp:=Ty.size_pos a
   have h1:=g4 0 _ (List.getElem?_eq_getElem (by omega))
   rw [Nat.zero_mul] at h1
   have e1:(ad.add 0).add 0=ad:=rfl
   rw [e1] at h1
   obtain ⟨b,o,sp⟩:=ad
   unfold World.cell? at h1
   split at h1
   ·split at h1
    ·cases h1
    ·rename_i hs
     cases sp with
     | none=>exact ⟨b,o,rfl⟩
     | some s=>simp at hs
   ·cases h1
  obtain ⟨vv,uu,hvu⟩:=qDz (by omega:0<len) each
  have w1 := λ i hi=>(hvu i hi).1
  have w2 := λ i hi=>(hvu i hi).2.1
  have w3 := λ i hi=>(hvu i hi).2.2.1
  have w4 := λ i hi=>(hvu i hi).2.2.2
  have hget:∀ i,i<len→((List.range len).map vv)[i]? = some (vv i) := λ i hi=>by rw [List.getElem?_map,List.getElem?_range hi];rfl
  have hcell:∀ (i:Nat) (e':List AV) (j:Nat) (y:AV),(((List.range len).map vv).map (qm a))[i]? = some e'→e'[j]? = some y→i<len∧∃ u,(uu i)[j]? = some u∧Rep (ghW W) y u∧(ghW W).mem b (o+i*a.size+j)=some u:=by
   intro i e' j y h1 h2
   have hi:i<len:=by have:=getElem?_lt h1;simpa using this
   rw [List.getElem?_map,hget i hi] at h1
   cases h1
   obtain ⟨u,q1,q2⟩:=(w1 i hi).get h2
   refine ⟨hi,u,q1,q2,qzN.2 ⟨?_,w2 i hi u (List.mem_of_getElem? q1)⟩⟩
   have:=w4 i hi j u q1
   rw [quz,quz] at this
   exact this
  refine ⟨(List.range len).map vv,_,rfl,rfl,?_,?_,?_⟩
  ·refine .sl _ _ _ _ len cap b o (λ i j=>(uu i).getD j undef) (by simp) (λ _=>hl) (λ h=>by omega) ?_ ?_ (Ty.size_pos a) (.inr rfl) ?_ ?_
   ·intro e' he
    obtain ⟨v,_,rfl⟩:=List.mem_map.1 he
    exact jL a v
   ·intro e' he
    obtain ⟨v,_,rfl⟩:=List.mem_map.1 he
    exact zR a v
   ·intro i e' j y h1 h2
    obtain ⟨_,u,q1,q2,q3⟩:=hcell i e' j y h1 h2
    rw [List.getD_eq_getElem?_getD,q1];exact q3
   ·intro i e' j y h1 h2
    obtain ⟨_,u,q1,q2,q3⟩:=hcell i e' j y h1 h2
    rw [List.getD_eq_getElem?_getD,q1];exact q2
  ·rw [List.length_map,List.length_range,← hlen]
   refine qxX (k:=P.bytesOf e) (Nat.le_trans (Nat.mul_le_mul_right _ ?_) hwt.1) hb
   omega
  ·intro v hv
   obtain ⟨i,hi,rfl⟩:=List.mem_map.1 hv
   exact w3 i (List.mem_range.1 hi)
theorem qsz {fuel:Nat} (hA:qAZ enc P W fuel):∀ (n:Nat) (τ : Ty) (off:Nat) (fs:List Field) (cs:List Value) (xs:List (DataW H × List MemPlace)),fsM P n τ off fs=true→xs.length=fs.length →
  (∀ (i:Nat) (f:Field),fs[i]? = some f→DataW.trod enc P W 0 (λ _=>true) true fuel f.type ((cs.drop f.offset).take (P.cellsOf f.type))=xs[i]?)→(∀ k∈DataW.weightsEach P (fs.map (·.type)) (xs.map (·.1)),k≤reachBytes)→off + τ.size≤cs.length →
  ∃ v:Val τ,RepL (ghW W) (qm τ v) ((cs.drop off).take τ.size)∧(∀ u∈(cs.drop off).take τ.size,u.oneCell'=true)∧qkk τ v:=by
 intro n
 induction n with
 | zero=>intro τ off fs cs xs h;simp [fsM] at h
 | succ n ih =>
   intro τ off fs cs xs h hl hx hw hlen
   have one:∀ f x,fs=[f]→xs=[x]→(decide (f.offset=off)&&decide (P.cellsOf f.type = τ.size)&&tyM P n τ f.type)=true→∃ v:Val τ,RepL (ghW W) (qm τ v) ((cs.drop off).take τ.size)∧(∀ u∈(cs.drop off).take τ.size,u.oneCell'=true)∧qkk τ v:=by
    intro f x hf hxs h
    simp only [Bool.and_eq_true,decide_eq_true_eq] at h
    obtain ⟨⟨h1,h2⟩,h3⟩:=h
    subst hf;subst hxs
    have h4:=hx 0 f rfl
    rw [h1,h2] at h4
    exact hA n τ f.type _ x h3 h4 λ k hk=>hw k (by simp only [List.map_cons,List.map_nil,DataW.weightsEach,List.append_nil];exact hk)
   cases fs with
   | nil=>cases τ <;> simp [fsM] at h
   | cons f r =>
     cases xs with
     | nil=>simp at hl
     | cons x xs =>
       cases r with
       | nil =>
         have hxn:xs=[]:=List.eq_nil_of_length_eq_zero (by simpa using hl)
         subst hxn
         refine one f x rfl rfl ?_
         cases τ <;> exact h
       | cons g r =>
         cases τ with
         | pair a b =>
           simp only [fsM,Bool.and_eq_true,decide_eq_true_eq] at h
           obtain ⟨⟨⟨h1,h2⟩,h3⟩,h4⟩:=h
           have h5:=hx 0 f rfl
           rw [h1,h2] at h5
           have hsz:off+(a.size+b.size)≤cs.length:=hlen
           simp only [List.map_cons,DataW.weightsEach,List.mem_append] at hw
           obtain ⟨v,v1,v2,v3⟩:=hA n a f.type _ x h3 h5 λ k hk=>hw k (.inl hk)
           obtain ⟨v',v1',v2',v3'⟩:=ih b (off+a.size) (g::r) cs xs h4 (by simpa using hl) (λ i f' hf'=>hx (i+1) f' hf') (λ k hk=>hw k (.inr hk)) (by omega)
           have e:(cs.drop off).take (a.size+b.size)=(cs.drop off).take a.size++(cs.drop (off+a.size)).take b.size:=by
            rw [List.take_add,List.drop_drop]
           refine ⟨(v,v'),?_,?_,v3,v3'⟩
           ·show RepL _ (qm a v++qm b v') ((cs.drop off).take (a.size+b.size))
            rw [e];exact v1.append v1'
           ·show ∀ u∈(cs.drop off).take (a.size+b.size),_
            rw [e]
            intro u hu
            exact (List.mem_append.1 hu).elim (v2 u) (v2' u)
         | _=>simp [fsM] at h
theorem qHj {Γ : Gh} (k:IntKind) (n:Int):RepL Γ (qm (.int k) n) [.int k n]:=qx6 (.v _ rfl)
theorem qFR:∀ fuel,qAZ enc P W fuel:=by
 intro fuel
 induction fuel using Nat.strongRecOn with
 | ind fuel ihA =>
   have ints:∀ {k:IntKind} {t:TypeId} {cs:List Value} {x:DataW H × List MemPlace} {f:Nat},P.underlying t=some (.int k)→DataW.trod enc P W 0 (λ _=>true) true f t cs=some x→∃ n:Int,cs=[.int k n]∧k.min≤n∧n≤k.max:=by
    intro k t cs x f ht h
    obtain ⟨n,rfl,_,hwf⟩:=DataW.trod_int ht h
    simp only [Lit.wf,Bool.and_eq_true,decide_eq_true_eq] at hwf
    exact ⟨n,rfl,hwf⟩
   have strs:∀ {t:TypeId} {cs:List Value} {x:DataW H × List MemPlace} {f:Nat},P.underlying t=some .string→DataW.trod enc P W 0 (λ _=>true) true f t cs=some x→(∀ k∈x.1.weights P t,k≤reachBytes)→∃ s:ByteArray,cs=[.string s]∧s.data.toList.length<2 ^ 62:=by
    intro t cs x f ht h hw
    obtain ⟨s,rfl,rfl,_⟩:=DataW.trod_string ht h
    refine ⟨s,rfl,?_⟩
    have:=hw s.data.toList.length (by simp [DataW.weights])
    exact qxX (k:=1) (by omega) (by decide)
   intro n τ t cs x hm h hw
   cases n with
   | zero=>cases τ <;> simp [tyM] at hm
   | succ n =>
   cases τ with
   | int k =>
     simp only [tyM] at hm
     split at hm
     ·rename_i k' ht
      simp only [Bool.and_eq_true,decide_eq_true_eq] at hm
      obtain ⟨rfl,_⟩:=hm
      obtain ⟨i,rfl,h1,h2⟩:=ints ht h
      exact ⟨i,qHj _ _,by intro u hu;rw [List.mem_singleton.1 hu];rfl,h1,h2⟩
     ·cases hm
   | bool =>
     simp only [tyM] at hm
     split at hm
     ·rename_i ht
      obtain ⟨b,rfl,_⟩:=DataW.trod_bool ht h
      exact ⟨b,qx6 (.v _ rfl),by intro u hu;rw [List.mem_singleton.1 hu];rfl,trivial⟩
     ·cases hm
   | str =>
     simp only [tyM] at hm
     split at hm
     ·rename_i ht
      obtain ⟨s,rfl,h1⟩:=strs ht h hw
      refine ⟨s.data.toList,?_,by intro u hu;rw [List.mem_singleton.1 hu];rfl,h1⟩
      exact qx6 (.v _ rfl)
     ·cases hm
   | list a =>
     simp only [tyM] at hm
     split at hm
     ·rename_i e ht
      simp only [Bool.and_eq_true,decide_eq_true_eq] at hm
      obtain ⟨⟨⟨_,hc⟩,hb⟩,hm⟩:=hm
      obtain ⟨l,u,rfl,h1,h2,h3,h4⟩:=quw (λ f hf=>ihA f hf) ht hc hb hm h hw
      exact ⟨l,qx6 h2,by intro u' hu;rw [List.mem_singleton.1 hu];exact h1,h3,h4⟩
     ·cases hm
   | pair a b =>
     simp only [tyM] at hm
     split at hm
     ·rename_i fs ht
      simp only [Bool.and_eq_true,decide_eq_true_eq] at hm
      obtain ⟨hc,hm⟩:=hm
      obtain ⟨xs,f,rfl,rfl,h1,h2,h3⟩:=DataW.trod_struct ht h
      have hsz:(Ty.pair a b).size=a.size+b.size:=rfl
      obtain ⟨v,v1,v2,v3⟩:=qsz (ihA f (Nat.lt_succ_self _)) n (.pair a b) 0 fs.toList cs xs hm (by simpa using h2) (λ i g hg=>h3 i g (by simpa using hg)) (by simpa [DataW.weights,ht] using hw) (by rw [h1,hc,hsz];omega)
      rw [List.drop_zero,List.take_of_length_le (by rw [h1,hc,hsz];exact Nat.le_refl _)] at v1 v2
      exact ⟨v,v1,v2,v3⟩
     ·cases hm
   | one a =>
     simp only [tyM] at hm
     split at hm
     ·rename_i fs ht
      simp only [Bool.and_eq_true,decide_eq_true_eq] at hm
      obtain ⟨hc,hm⟩:=hm
      obtain ⟨xs,f,rfl,rfl,h1,h2,h3⟩:=DataW.trod_struct ht h
      obtain ⟨v,v1,v2,v3⟩:=qsz (ihA f (Nat.lt_succ_self _)) n a 0 fs.toList cs xs hm (by simpa using h2) (λ i g hg=>h3 i g (by simpa using hg)) (by simpa [DataW.weights,ht] using hw) (by rw [h1,hc];omega)
      rw [List.drop_zero,List.take_of_length_le (by rw [h1,hc];exact Nat.le_refl _)] at v1 v2
      exact ⟨v,v1,v2,v3⟩
     ·cases hm
   | term =>
     have hm0:=hm
     simp only [tyM] at hm
     cases n with
     | zero=>simp [qBl] at hm
     | succ n =>
     simp only [qBl] at hm
     split at hm
     case h_2=>cases hm
     rename_i fs ht
     split at hm
     case h_2=>cases hm
     rename_i f0 f1 f2 f3 hfs
     simp only [Bool.and_eq_true,decide_eq_true_eq] at hm
     obtain ⟨⟨⟨⟨⟨⟨⟨⟨⟨hc,o0⟩,o1⟩,o2⟩,o3⟩,hc3⟩,m0⟩,m1⟩,m2⟩,m3⟩:=hm
     split at m3
     case h_2=>cases m3
     rename_i e ht3
     simp only [Bool.and_eq_true,decide_eq_true_eq] at m3
     obtain ⟨rfl,hb⟩:=m3
     obtain ⟨xs,f,rfl,rfl,h1,h2,h3⟩:=DataW.trod_struct ht h
     have hsz:fs.size=4:=by rw [← Array.length_toList,hfs];rfl
     rw [hsz] at h2
     rw [hc] at h1
     obtain ⟨c0,c1,c2,c3,rfl⟩:∃ c0 c1 c2 c3,cs=[c0,c1,c2,c3]:=by
      match cs,h1 with
      | [a,b,c,d],_=>exact ⟨a,b,c,d,rfl⟩
     obtain ⟨x0,x1,x2,x3,rfl⟩:∃ x0 x1 x2 x3,xs=[x0,x1,x2,x3]:=by
      match xs,h2 with
      | [a,b,c,d],_=>exact ⟨a,b,c,d,rfl⟩
     have fg:∀ i g,[f0,f1,f2,f3][i]? = some g→fs[i]? = some g := λ i g hg=>by rw [← hfs,Array.getElem?_toList] at hg;exact hg
     have s0:=h3 0 f0 (fg 0 _ rfl)
     have s1:=h3 1 f1 (fg 1 _ rfl)
     have s2:=h3 2 f2 (fg 2 _ rfl)
     have s3:=h3 3 f3 (fg 3 _ rfl)
     have cOf:∀ {τ : Ty} {t:TypeId},(∃ k,τ = .int k) ∨ τ = .str→tyM P n τ t=true→P.cellsOf t=1:=by
      intro τ t hτ hm
      cases n with
      | zero=>cases τ <;> simp [tyM] at hm
      | succ n =>
        rcases hτ with ⟨k,rfl⟩ | rfl
        ·simp only [tyM] at hm
         split at hm
         ·simp only [Bool.and_eq_true,decide_eq_true_eq] at hm;exact hm.2
         ·cases hm
        ·simp only [tyM] at hm
         split at hm
         ·exact of_decide_eq_true hm
         ·cases hm
     have uInt:∀ {k:IntKind} {t:TypeId},tyM P n (.int k) t=true→P.underlying t=some (.int k):=by
      intro k t hm
      cases n with
      | zero=>simp [tyM] at hm
      | succ n =>
        simp only [tyM] at hm
        split at hm
        ·rename_i k' ht
         simp only [Bool.and_eq_true,decide_eq_true_eq] at hm
         rw [ht,hm.1]
        ·cases hm
     have uStr:∀ {t:TypeId},tyM P n .str t=true→P.underlying t=some .string:=by
      intro t hm
      cases n with
      | zero=>simp [tyM] at hm
      | succ n =>
        simp only [tyM] at hm
        split at hm
        ·assumption
        ·cases hm
     rw [o0,cOf (.inl ⟨_,rfl⟩) m0] at s0
     rw [o1,cOf (.inr rfl) m1] at s1
     rw [o2,cOf (.inl ⟨_,rfl⟩) m2] at s2
     rw [o3,hc3] at s3
     have hwE:∀ k∈DataW.weightsEach P [f0.type,f1.type,f2.type,f3.type] [x0.1,x1.1,x2.1,x3.1],k≤reachBytes:=by
      intro k hk
      refine hw k ?_
      simp only [DataW.weights,ht,hfs]
      exact hk
     simp only [DataW.weightsEach,List.mem_append] at hwE
     obtain ⟨i0,e0,_,_⟩:=ints (uInt m0) (f:=f) (x:=x0) s0
     obtain ⟨i1,e1,b1⟩:=strs (uStr m1) (f:=f) (x:=x1) s1 λ k hk=>hwE k (.inr (.inl hk))
     obtain ⟨i2,e2,_,_⟩:=ints (uInt m2) (f:=f) (x:=x2) s2
     obtain ⟨l,u,e3,b3,r3,l3,v3⟩:=quw (a := .term) (λ g hg=>ihA g (Nat.lt_succ_of_lt hg)) ht3 hc hb hm0 s3 λ k hk=>hwE k (.inr (.inr (.inr (.inl hk))))
     have g0:c0 = .int .i64 i0:=by simpa using e0
     have g1:c1 = .string i1:=by simpa using e1
     have g2:c2 = .int .i64 i2:=by simpa using e2
     have g3:c3=u:=by simpa using e3
     subst g0;subst g1;subst g2;subst g3
     refine ⟨.mk i0 i1.data.toList i2 l,?_,?_,(qAR _).2 ⟨l3,b1,v3⟩⟩
     ·show RepL _ (QZ _) _
      rw [QZ,qlg]
      exact RepL.cons (.v _ rfl) (RepL.cons (.v _ rfl) (RepL.cons (.v _ rfl) (qx6 r3)))
     ·intro u hu
      simp only [List.mem_cons,List.not_mem_nil,or_false] at hu
      rcases hu with rfl | rfl | rfl | rfl
      ·rfl
      ·rfl
      ·rfl
      ·exact b3
end
end Go.AmYtbpnmbmdbblehaaGreat
namespace Go.GxYtbpnmbmdbblehaaGreat
open Go.RowKit Go.ChangeShapes Go.WideShapes Go.ChangeAt
open Go.WideMaps Go.WideElems
section
variable {H:Type} {enc:TypeId × Value→H} {P:Program}
theorem qmD (hl:laidOutB P=true) {W W':World} (hb:Below W.heap.size W W'):∀ {ts:List TypeId} {vs:List Value} {ds:List (DataW H)} {ps:List MemPlace},
  (∀ t∈ts,P.readableRec t=true∧t<P.types.size)→DataW.TrodAll enc P W 0 (λ _=>true) true ts vs ds ps→(∀ x∈ps,x.block<W.heap.size) →
  DataW.TrodAll enc P W' 0 (λ b=>decide (b<W.heap.size)) true ts vs ds ps
 | [],[],[],_,_,h,_=>h
 | t::ts,v::vs,d::ds,_,hr,⟨p,q,h1,h2,he⟩,hlt=>by
   subst he
   refine ⟨p,q,?_,?_,rfl⟩
   ·exact Below.trod hl (hr t (List.mem_cons_self ..)).1 (hr t (List.mem_cons_self ..)).2 h1 hb λ x hx=>hlt x (List.mem_append_left _ hx)
   ·exact qmD hl hb (λ t ht=>hr t (List.mem_cons_of_mem _ ht)) h2 λ x hx=>hlt x (List.mem_append_right _ hx)
 | [],[],_::_,_,_,h,_=>h.elim
 | [],_::_,_,_,_,h,_=>h.elim
 | _::_,[],_,_,_,h,_=>h.elim
 | _::_,_::_,[],_,_,h,_=>h.elim
theorem qEM {f:Func} {s:ChangeSpec} {apart fresh handsOn:Bool} {W W':World} {args:Array Value} {ds gs:List (DataW H)} {before:List MemPlace} {ts:List TypeId} {T:TypeId}
  (hl:laidOutB P=true) (hts:f.params.toList=ts) (hr:ts.all (λ t=>P.readableRec t&&decide (t<P.types.size))=true) (hv:s.vars=[])
  (hrt:f.resultTypes = #[T]) (hT:P.underlying T=some .bool)
  (hW:DataW.Whole enc P f.params.toList s.vars apart W args.toList ds gs before)
  (hres:(s.fn H (ds++gs)).results=[.lit (.bool true)]) (hargs:(s.fn H (ds++gs)).args=ds) (hvs:(s.fn H (ds++gs)).vars=[])
  (hb:Below W.heap.size W W'):s.post enc P f apart fresh handsOn false W args (.bool true) W':=by
 have hW':=hW
 have hlt := λ x hx=>hW'.lt x hx
 obtain ⟨p,q,hA,hV,rfl,hfz,hnd⟩:=hW
 rw [hv] at hV
 have hgs:gs=[]∧q=[]:=trodVars_none hV
 obtain ⟨rfl,rfl⟩:=hgs
 rw [List.append_nil] at *
 refine ⟨ds,[],p,[],p,[],?_,?_,?_,?_,?_,λ h=>by cases h⟩
 ·exact hW'
 ·rw [hrt,List.append_nil,hres]
  exact trodAll_mk1 (shut_bool hT _)
 ·rw [List.append_nil,hargs]
  refine qmD hl hb (ts:=f.params.toList) ?_ hA hlt
  intro t ht
  rw [hts] at ht
  have:=List.all_eq_true.1 hr t ht
  simpa using this
 ·rw [List.append_nil,hvs,hv]
  rfl
 ·exact hb.frame _
end
end Go.GxYtbpnmbmdbblehaaGreat
namespace Go.Proofs.YtbpnmbmdbblehaaGreat
theorem Tryz.own:ownKnob Tryz.prog.godebug=none:=by kernel_rfl
theorem Tryz.laidOut:laidOutB Tryz.prog=true:=by kernel_rfl
end Go.Proofs.YtbpnmbmdbblehaaGreat
namespace Go.AmYtbpnmbmdbblehaaGreat
open Go Go.GxYtbpnmbmdbblehaaGreat Go.RowKit
theorem quM:∀ (τ : Ty) (v:Val τ),jQ τ (yD τ v)=some v:=by
 intro τ v
 have h:=QU τ v
 cases τ <;> exact h
def qxv:List ATy→Bool
 | []=>true
 | .val _::r=>qxv r
 | .fn::_=>false
theorem qmW:∀ (ts:List ATy) (a:qaH ts),qxv ts=true→qcb ts (jx ts a [])=some a∧qdT (jx ts a [])=[]
 | [],_,_=>⟨rfl,rfl⟩
 | .val τ :: r,a,h=>by
   obtain ⟨h1,h2⟩:=qmW r a.2 h
   constructor
   ·show qkn (jQ τ) (qcb r) (yD τ a.1::jx r a.2 [])=_
    simp only [qkn,quM,h1]
   ·show qdT (yD τ a.1::jx r a.2 [])=[]
    have:=(qbm (quM τ a.1)).2
    cases hx:yD τ a.1<;>first | exact h2 | exact absurd hx (this _ _)
 | .fn::_,_,h=>by cases h
theorem law_calls {P:Program} {f:FuncId} {c:TC} (hp:qX P f (QB (yL c f))) {ts:List ATy} {fn:qaH ts→Option (qdg [.bool])} (hg:c.pf f []=some ⟨ts,[.bool],fn⟩) (ht:qxv ts=true) {a:qaH ts} (hv:fn a=some true)
  {W:World} {vals:List Value} (hr:RepL (ghW W) (jx ts a []) vals):Calls P f vals.toArray W λ e w'=>e = .returned (.bool true)∧Below W.heap.size W w':=by
 obtain ⟨h1,h2⟩:=qmW ts a ht
 have hs:yL c f (jx ts a [])=some (.v (.bool true)):=by
  unfold yL
  rw [h2,hg]
  simp only
  rw [h1]
  simp only
  rw [hv]
  rfl
 have hpp:QB (yL c f) emp (jx ts a [])=some (.v (.bool true),none):=by
  show (match yL c f (jx ts a []) with | some v=>some (v,none) | none=>none)=_
  rw [hs]
 have:=hp.2 (ghW W) emp W (jx ts a []) vals _ (qGh W) hr hpp
 refine Calls.mono this ?_
 rintro e w' ⟨v,Γ',rfl,hx,_,hrv,_⟩
 have hv:=zq hrv
 subst hv
 refine ⟨rfl,hx.os,hx.tape,hx.output,hx.size,λ b hb=>hx.block b hb ?_⟩
 rintro (⟨i,hi,_⟩ | ⟨r,hr,_⟩)
 ·exact absurd hi (Nat.not_lt_zero _)
 ·exact absurd hr (Nat.not_lt_zero _)
theorem qyc {Γ : Gh} {τ : Ty} {x:Val τ} {v:Value} (h:RepL Γ (qm τ x) v.cells.toList) (h1:∀ u∈v.cells.toList,u.oneCell'=true) (hs : τ.agg=true → τ.size≠1) (hna : τ.agg=false→∀ cs,v ≠ .agg cs):Rep Γ (yD τ x) v:=by
 have hlen:=h.len
 rw [jL] at hlen
 have agg:yD τ x = .agg (qm τ x) → τ.agg=true→Rep Γ (yD τ x) v:=by
  intro he ha
  rw [he]
  have hne:=hs ha
  cases v with
  | agg cs=>exact .agg _ _ h.len h1 h.rep
  | _=>exact absurd (show τ.size=1 by rw [← hlen];rfl) hne
 have one:∀ {y:AV},qm τ x=[y]→yD τ x=y → τ.agg=false→Rep Γ (yD τ x) v:=by
  intro y he hy ha
  have hc:v.cells = #[v]:=by
   cases v with
   | agg cs=>exact absurd rfl (hna ha cs)
   | _=>rfl
  rw [he,hc] at h
  rw [hy]
  exact h.rep 0 y v rfl rfl
 cases τ with
 | term=>exact agg rfl rfl
 | pair a b=>exact agg rfl rfl
 | one a=>exact agg rfl rfl
 | _=>exact one rfl rfl rfl
open Go.ChangeShapes Go.WideShapes Go.ChangeAt Go.WideMaps Go.WideElems
theorem qGZ {P:Program} {n:Nat} {τ : Ty} {t:TypeId} {W:World} {zV:Nat} {v:Value} (hm:tyM P n τ t=true) (hv:Value.okWide P W .any zV t v) : τ.agg=false→∀ cs,v ≠ .agg cs:=by
 intro ha cs
 cases n with
 | zero=>cases τ <;> simp [tyM] at hm
 | succ n =>
 cases τ with
 | int k =>
   simp only [tyM] at hm
   split at hm
   ·rename_i ht;obtain ⟨_,rfl⟩:=okWide_int ht hv;intro h;cases h
   ·cases hm
 | bool =>
   simp only [tyM] at hm
   split at hm
   ·rename_i ht;obtain ⟨_,rfl⟩:=okWide_bool ht hv;intro h;cases h
   ·cases hm
 | str =>
   simp only [tyM] at hm
   split at hm
   ·rename_i ht;obtain ⟨_,rfl⟩:=okWide_string ht hv;intro h;cases h
   ·cases hm
 | list a =>
   simp only [tyM] at hm
   split at hm
   ·rename_i e ht;obtain ⟨_,_,_,rfl⟩:=okWide_slice ht hv;intro h;cases h
   ·cases hm
 | _=>cases ha
theorem arg_val {H:Type} {enc:TypeId × Value→H} {P:Program} {W:World} {n:Nat} {τ : Ty} {t:TypeId} {v:Value} {d:DataW H} {ps:List MemPlace} {zV:Nat} (hm:tyM P n τ t=true) (hs : τ.agg=true → τ.size≠1) (hv:Value.okWide P W .any zV t v)
  (h:DataW.Trod enc P W 0 (λ _=>true) true t v d ps) (hw:∀ k∈d.weights P t,k≤reachBytes):∃ x:Val τ,Rep (ghW W) (yD τ x) v∧qkk τ x:=by
 obtain ⟨fuel,hf⟩:=h
 obtain ⟨x,h1,h2,h3⟩:=qFR fuel n τ t v.cells.toList (d,ps) hm hf hw
 exact ⟨x,qyc h1 h2 hs (qGZ hm hv),h3⟩
end Go.AmYtbpnmbmdbblehaaGreat
