/- Part 5 of what the proofs stand on: plain functions of the program, and that they are its functions. -/
import Derived.Test.YtckmkimhkhilgaaGreatM4
import Derived.KernelRfl
set_option linter.unusedVariables false
set_option linter.unusedSimpArgs false
namespace Go.AmZ
open Go Go.GxZ Go.Lib
theorem qkV (a b:Int):Ev (λ m _=>JD m a b) (sgn a b):=by
 refine Ev.succ ?_
 simp only [qvg,qg3]
 unfold sgn
 refine Ev.ite (λ h=>?_) λ h=>?_
 ·exact Ev.ret (by rw [if_pos (qy.1 h)])
 ·rw [qx] at h
  refine Ev.ite (λ h'=>?_) λ h'=>?_
  ·rw [qy] at h'
   exact Ev.ret (by rw [if_neg (by omega),if_pos h'])
  ·rw [qx] at h'
   exact Ev.ret (by rw [if_neg (by omega),if_neg (by omega)])
theorem qr8 {l:List T} {i:Nat} {x:T} (h:l.drop i=x::l.drop (i+1)):((l.drop i).map size).sum=size x+((l.drop (i+1)).map size).sum:=by
 rw [h,List.map_cons,List.sum_cons]
theorem qrE (t:T):size t<=1000000000->Ev (λ m _=>yL m t) (size t:Int):=by
 induction t using T.ind with
 | h t ih =>
   intro hs
   refine Ev.succ ?_
   simp only [qyb,qfi]
   have hl:=yh t
   have he:=qX t
   have key:=qs (P := λ i=>∀ acc:Nat,acc+((t.kids.drop i).map size).sum<=1000000000->Ev (λ m k=>qaH m (yL m) k acc i t.kind t.name t.sort t.kids) ((acc+((t.kids.drop i).map size).sum:Nat):Int)) t.kids (by omega)
    (λ hc acc _=>by
     refine Ev.loop ?_
     simp only [qnV,qfm]
     refine Ev.cf hc ?_
     exact Ev.ret (by simp))
    (λ i x hx hd hc hg hi hP acc ha=>by
     rw [qr8 hd] at ha |-
     refine Ev.loop ?_
     simp only [qnV,qfm]
     refine Ev.ct hc (Ev.some hg ?_)
     rw [qi]
     refine Ev.bind (ih x (List.mem_of_getElem? hx) (by omega)) ?_
     rw [hi,qnp,QC (by omega)]
     refine (hP (acc+size x) (by omega)).res (by congr 1;omega))
   refine Ev.diag (L := λ m k=>qaH m (yL m) k 1 0 t.kind t.name t.sort t.kids) ?_
   refine (key 0 (Nat.zero_le _) 1 (by simp;omega)).res (by rw [List.drop_zero,he])
theorem qyn (a b:Nat):qlG (a:Int) (b:Int)=((max a b:Nat):Int):=by unfold qlG;split<;>omega
theorem qpS (a b:Int):Ev (λ m _=>qci m a b) (sgn a b):=by
 refine Ev.succ ?_
 simp only [qAv,qjV]
 unfold sgn
 refine Ev.ite (λ h=>?_) λ h=>?_
 ·exact Ev.ret (by rw [if_pos (qy.1 h)])
 ·rw [qx] at h
  refine Ev.ite (λ h'=>?_) λ h'=>?_
  ·rw [qy] at h'
   exact Ev.ret (by rw [if_neg (by omega),if_pos h'])
  ·rw [qx] at h'
   exact Ev.ret (by rw [if_neg (by omega),if_neg (by omega)])
theorem qy8 (t:T):size t<=1000000000->Ev (λ m _=>jC m t) (size t:Int):=by
 induction t using T.ind with
 | h t ih =>
   intro hs
   refine Ev.succ ?_
   simp only [qAw,qgL]
   have hl:=yh t
   have he:=qX t
   have key:=qs (P := λ i=>∀ acc:Nat,acc+((t.kids.drop i).map size).sum<=1000000000->Ev (λ m k=>qbt m (jC m) k acc t.kids t.kids.length i) ((acc+((t.kids.drop i).map size).sum:Nat):Int)) t.kids (by omega)
    (λ hc acc _=>by
     refine Ev.loop ?_
     simp only [qoz,qgd]
     refine Ev.cf hc ?_
     exact Ev.ret (by simp))
    (λ i x hx hd hc hg hi hP acc ha=>by
     rw [qr8 hd] at ha |-
     refine Ev.loop ?_
     simp only [qoz,qgd]
     refine Ev.ct hc (Ev.some hg ?_)
     rw [qi]
     refine Ev.bind (ih x (List.mem_of_getElem? hx) (by omega)) ?_
     rw [hi,qnp,QC (by omega)]
     refine (hP (acc+size x) (by omega)).res (by congr 1;omega))
   refine Ev.diag (L := λ m k=>qbt m (jC m) k 1 t.kids t.kids.length 0) ?_
   refine (key 0 (Nat.zero_le _) 1 (by simp;omega)).res (by rw [List.drop_zero,he])
theorem qFd (t:T):size t<=1000000000->Ev (λ m _=>yU m t) (qeO t:Int):=by
 induction t using T.ind with
 | h t ih =>
   intro hs
   refine Ev.succ ?_
   simp only [qwK,qel]
   have hl:=yh t
   have he:=qX t
   have key:=qs (P := λ i=>∀ acc:Nat,acc<=1000000000->Ev (λ m k=>JQ m (yU m) k acc i t.kind t.name t.sort t.kids) ((((t.kids.drop i).map qeO).foldl max acc+1:Nat):Int)) t.kids (by omega)
    (λ hc acc _=>by
     refine Ev.loop ?_
     simp only [qms,qep]
     refine Ev.cf hc ?_
     rw [show qh (acc:Int) 1=((acc+1:Nat):Int) by unfold qh;omega,QC (by omega)]
     exact Ev.ret (by simp))
    (λ i x hx hd hc hg hi hP acc ha=>by
     refine Ev.loop ?_
     simp only [qms,qep]
     refine Ev.ct hc (Ev.some hg ?_)
     rw [qi]
     have hm:=List.mem_of_getElem? hx
     have h1:=jg t x hm
     have h2:=qA5 x
     refine Ev.bind (ih x hm (by omega)) ?_
     rw [hi,qyn]
     refine (hP (max acc (qeO x)) (by omega)).res ?_
     rw [hd,List.map_cons,List.foldl_cons])
   refine Ev.diag (L := λ m k=>JQ m (yU m) k 0 0 t.kind t.name t.sort t.kids) ?_
   refine (key 0 (Nat.zero_le _) 0 (by omega)).res (by rw [List.drop_zero,qjs])
theorem qxN (fs:List (T->Int)):Qx fs []=0:=by cases fs<;>rfl
theorem qvD {l m:List T} {i:Nat} {x y:T} (h1:l.drop i=x::l.drop (i+1)) (h2:m.drop i=y::m.drop (i+1)):Qx ((l.drop i).map qp) (m.drop i)=thn (qp x y) (Qx ((l.drop (i+1)).map qp) (m.drop (i+1))):=by
 rw [h1,h2,List.map_cons];rfl
theorem qyU {l:List T} {i:Nat} {y:T} (h:l[i]? = some y):l.drop i=y::l.drop (i+1):=by
 obtain ⟨hlt,rfl⟩:=List.getElem?_eq_some_iff.1 h
 exact List.drop_eq_getElem_cons hlt
theorem qrb (a b:List UInt8):slt a b=decide (compareBytes a b=-1):=qn5 a b
theorem qy4 (a b:List UInt8):qo0 (slt a b) (qv a b)=decide (compareBytes a b≠1):=by
 rw [qrb]
 unfold qo0 qv
 rcases qnh a b with h | h | h
 ·rw [h];rfl
 ·have:=qls a b h
  subst this
  rw [h];simp
 ·have:(a==b)=false:=by
    rw [beq_eq_false_iff_ne];intro he;subst he;rw [qvN] at h;omega
  rw [h,this];rfl
theorem qhU (a:T):size a<=1000000000->∀ b,size b<=1000000000->Ev (λ m _=>zr m a b) (qp a b):=by
 induction a using T.ind with
 | h a ih =>
   intro ha b hb
   refine Ev.succ ?_
   simp only [qs9,qcs,qi]
   have hla:=yh a
   have hlb:=yh b
   rw [qfV]
   unfold qip
   refine Ev.bind (qrE a ha) (Ev.bind (qrE b hb) (Ev.bind (qkV _ _) ?_))
   refine Ev.ite (λ h=>?_) λ h=>?_
   ·rw [bnt,qg] at h
    exact Ev.ret (by rw [Qj (by rw [Qj h];exact h),Qj h])
   rw [bnf,qj] at h
   rw [h,show ∀ y,thn 0 y=y from λ y=>rfl]
   refine Ev.bind (qkV _ _) ?_
   refine Ev.ite (λ h=>?_) λ h=>?_
   ·rw [bnt,qg] at h
    exact Ev.ret (by rw [Qj (by rw [Qj h];exact h),Qj h])
   rw [bnf,qj] at h
   rw [h,show ∀ y,thn 0 y=y from λ y=>rfl]
   refine Ev.ite (λ h=>?_) λ h=>?_
   ·rw [qrb,decide_eq_true_iff] at h
    exact Ev.ret (by rw [h];rfl)
   rw [qrb,decide_eq_false_iff_not] at h
   refine Ev.ite (λ h'=>?_) λ h'=>?_
   ·rw [bnt,qy4,decide_eq_false_iff_not,Decidable.not_not] at h'
    exact Ev.ret (by rw [h'];rfl)
   rw [bnf,qy4,decide_eq_true_iff] at h'
   have h0:compareBytes a.name b.name=0:=by have:=qnh a.name b.name;omega
   rw [h0,show ∀ y,thn 0 y=y from λ y=>rfl]
   refine Ev.bind (qkV _ _) ?_
   refine Ev.ite (λ h=>?_) λ h=>?_
   ·rw [bnt,qg] at h
    exact Ev.ret (by rw [Qj (by rw [Qj h];exact h),Qj h])
   rw [bnf,qj] at h
   rw [h,show ∀ y,thn 0 y=y from λ y=>rfl]
   refine Ev.bind (qkV _ _) ?_
   refine Ev.ite (λ h=>?_) λ h=>?_
   ·rw [bnt,qg] at h
    exact Ev.ret (by rw [Qj h])
   rw [bnf,qj] at h
   rw [h,show ∀ y,thn 0 y=y from λ y=>rfl]
   have hlen:a.kids.length=b.kids.length:=by have:=qjP h;omega
   have key:=qs (P := λ i=>Ev (λ m k=>QI m (zr m) k i a.kind a.name a.sort a.kids b.kind b.name b.sort b.kids) (Qx ((a.kids.drop i).map qp) (b.kids.drop i))) a.kids (by omega)
    (λ hc=>by
     refine Ev.loop ?_
     simp only [qj1,qcu]
     refine Ev.cf hc ?_
     exact Ev.ret (by rw [hlen,List.drop_length,qxN]))
    (λ i x hx hd hc hg hi hP=>by
     refine Ev.loop ?_
     simp only [qj1,qcu,qi]
     have hib:i<b.kids.length:=by have:=(List.getElem?_eq_some_iff.1 hx).1;omega
     have hy:=List.getElem?_eq_getElem hib
     have hmx:=List.mem_of_getElem? hx
     have h1:=jg a x hmx
     have h2:=jg b _ (List.mem_of_getElem? hy)
     refine Ev.ct hc (Ev.some hg (Ev.some (by rw [jq];exact hy) ?_))
     rw [qvD hd (qyU hy)]
     refine Ev.bind (ih x hmx (by omega) _ (by omega)) ?_
     refine Ev.ite (λ h=>?_) λ h=>?_
     ·rw [bnt,qg] at h
      exact Ev.ret (by rw [Qj h])
     ·rw [bnf,qj] at h
      rw [h,hi]
      exact hP)
   refine Ev.diag (L := λ m k=>QI m (zr m) k 0 a.kind a.name a.sort a.kids b.kind b.name b.sort b.kids) ?_
   exact (key 0 (Nat.zero_le _)).res (by rw [List.drop_zero,List.drop_zero])
theorem qFl (a b:List UInt8):Ev (λ m _=>strings_Compare 0 a b) (compareBytes a b):=Ev.pure _
theorem qcW (a:T):size a<=1000000000->∀ b,size b<=1000000000->Ev (λ m _=>qu m a b) (qp a b):=by
 induction a using T.ind with
 | h a ih =>
   intro ha b hb
   refine Ev.succ ?_
   simp only [qvb,qdr,qi]
   have hla:=yh a
   have hlb:=yh b
   rw [qfV]
   unfold qip
   have stop:∀ c:Int,c≠0->∀ i:Int,Ev (λ m k=>jH m (qu m) k c i a.kind a.name a.sort a.kids b.kind b.name b.sort b.kids) c:=by
    intro c hc i
    refine Ev.loop ?_
    simp only [qgD,qbb]
    exact Ev.cf (qg.2 hc) (Ev.pure c)
   have key:a.kids.length=b.kids.length->∀ i,i<=a.kids.length->Ev (λ m k=>jH m (qu m) k 0 i a.kind a.name a.sort a.kids b.kind b.name b.sort b.kids) (Qx ((a.kids.drop i).map qp) (b.kids.drop i)) := λ hlen=>qs a.kids (by omega)
    (λ hc=>by
     refine Ev.loop ?_
     simp only [qgD,qbb]
     refine Ev.ct rfl (Ev.cf hc ?_)
     exact Ev.ret (by rw [hlen,List.drop_length,qxN]))
    (λ i x hx hd hc hg hi hP=>by
     refine Ev.loop ?_
     simp only [qgD,qbb,qi]
     have hib:i<b.kids.length:=by have:=(List.getElem?_eq_some_iff.1 hx).1;omega
     have hy:=List.getElem?_eq_getElem hib
     have hmx:=List.mem_of_getElem? hx
     have h1:=jg a x hmx
     have h2:=jg b _ (List.mem_of_getElem? hy)
     refine Ev.ct rfl (Ev.ct hc (Ev.some hg (Ev.some (by rw [jq];exact hy) ?_)))
     rw [qvD hd (qyU hy)]
     refine Ev.bind (ih x hmx (by omega) _ (by omega)) ?_
     rw [hi]
     by_cases h:qp x b.kids[i]=0
     ·rw [h];exact hP
     ·rw [Qj h];exact stop _ h _)
   have fin:∀ c:Int,(c=0->a.kids.length=b.kids.length)->Ev (λ m k=>jH m (qu m) m c 0 a.kind a.name a.sort a.kids b.kind b.name b.sort b.kids) (thn c (Qx (a.kids.map qp) b.kids)):=by
    intro c hc
    refine Ev.diag (L := λ m k=>jH m (qu m) k c 0 a.kind a.name a.sort a.kids b.kind b.name b.sort b.kids) ?_
    by_cases h:c=0
    ·subst h
     exact (key (hc rfl) 0 (Nat.zero_le _)).res (by rw [List.drop_zero,List.drop_zero];rfl)
    ·rw [Qj h];exact stop c h 0
   refine Ev.bind (qy8 a ha) (Ev.bind (qy8 b hb) (Ev.bind (qpS _ _) ?_))
   have z0:∀ y,thn 0 y=y := λ y=>rfl
   by_cases h1:sgn (size a:Int) (size b)=0
   ·rw [h1,z0]
    refine Ev.ct rfl (Ev.bind (qpS _ _) ?_)
    by_cases h2:sgn a.kind b.kind=0
    ·rw [h2,z0]
     refine Ev.ct rfl (Ev.bind (qFl _ _) ?_)
     by_cases h3:compareBytes a.name b.name=0
     ·rw [h3,z0]
      refine Ev.ct rfl (Ev.bind (qpS _ _) ?_)
      by_cases h4:sgn a.sort b.sort=0
      ·rw [h4,z0]
       refine Ev.ct rfl (Ev.bind (qpS _ _) ?_)
       exact fin _ λ h=>by have:=qjP h;omega
      ·rw [Qj h4]
       refine Ev.cf (qg.2 h4) ?_
       exact fin _ λ h=>absurd h h4
     ·rw [Qj h3]
      refine Ev.cf (qg.2 h3) (Ev.cf (qg.2 h3) ?_)
      exact fin _ λ h=>absurd h h3
    ·rw [Qj h2]
     refine Ev.cf (qg.2 h2) (Ev.cf (qg.2 h2) (Ev.cf (qg.2 h2) ?_))
     exact fin _ λ h=>absurd h h2
   ·rw [Qj h1]
    refine Ev.cf (qg.2 h1) (Ev.cf (qg.2 h1) (Ev.cf (qg.2 h1) (Ev.cf (qg.2 h1) ?_)))
    exact fin _ λ h=>absurd h h1
theorem qB4 (a b:T):ieq (qp a b) 0=yX a b:=by
 unfold yX
 rw [Bool.eq_iff_iff,qj,decide_eq_true_iff]
 exact qGZ a b
theorem qhg (a b:T) (ha:size a<=1000000000) (hb:size b<=1000000000):Ev (λ m _=>QA m a b) (yX a b):=by
 refine Ev.succ ?_
 simp only [qy1,qir,qi]
 refine Ev.bind (qhU a ha b hb) ?_
 exact Ev.ret (qB4 a b)
theorem qmQ (a b:T) (ha:size a<=1000000000) (hb:size b<=1000000000):Ev (λ m _=>Qu m a b) (yX a b):=by
 refine Ev.succ ?_
 simp only [qwN,qhs,qi]
 refine Ev.bind (qcW a ha b hb) ?_
 exact Ev.ret (qB4 a b)
end Go.AmZ
namespace Go.AmZ
open Go Go.GxZ Go.Lib
theorem qIX (a b:Int):ieq a b=decide (a=b):=by rw [Bool.eq_iff_iff,qj,decide_eq_true_iff]
theorem qvY (c:Int):Ev (λ m _=>qbW m c) (qhj c):=by
 refine Ev.succ ?_
 simp only [quU,qgl]
 refine (Ev.pure (qhj c)).congr λ m k=>?_
 unfold qhj ile
 by_cases h1:97<=c<;>by_cases h2:c<=122<;>by_cases h3:65<=c<;>by_cases h4:c<=90<;>simp [h1,h2,h3,h4]
theorem qGg (c:Int):Ev (λ m _=>qfb m c) (qrN c):=by
 refine Ev.succ ?_
 simp only [qxg,qhu]
 refine (Ev.pure (qrN c)).congr λ m k=>?_
 unfold qrN ile
 by_cases h1:48<=c<;>by_cases h2:c<=57<;>simp [h1,h2]
theorem qAZ (c:Int):Ev (λ m _=>qfZ m c) (J9 c):=by
 refine Ev.succ ?_
 simp only [qAd,qkj]
 refine (Ev.pure (J9 c)).congr λ m k=>?_
 simp only [qIX]
 unfold J9 qhj qrN ile
 by_cases h1:97<=c<;>by_cases h2:c<=122<;>by_cases h3:65<=c<;>by_cases h4:c<=90<;>by_cases h5:48<=c<;>by_cases h6:c<=57<;>by_cases h7:c=95<;>by_cases h8:c=35<;>simp [h1,h2,h3,h4,h5,h6,h7,h8]
theorem qDz (l:List UInt8):Ev (λ m _=>qaB m l) (QB l):=by
 refine Ev.succ ?_
 simp only [qvB,qdj]
 cases l with
 | nil=>exact Ev.ct rfl (Ev.pure _)
 | cons c r =>
   refine Ev.cf (qg.2 (by simp;omega)) ?_
   refine Ev.ite (λ h=>?_) λ h=>?_
   ·rw [qy] at h
    refine Ev.ret ?_
    unfold QB
    rw [decide_eq_false (show ¬ (c::r).length<=24 by omega)]
    simp
   rw [qx] at h
   refine Ev.some (JA _) (Ev.bind (qvY _) ?_)
   have hn:QB (c::r)=(qhj (c.toNat:Int)&&(c::r).all λ c=>J9 (c.toNat:Int)):=by
    unfold QB
    rw [decide_eq_true (show (c::r).length<=24 by omega)]
    simp
   rw [hn]
   cases hc:qhj (c.toNat:Int) with
   | false=>exact Ev.ct rfl (Ev.pure _)
   | true =>
     refine Ev.cf rfl ?_
     have key:=qs (P := λ i=>Ev (λ m k=>Jm m k (c::r) i) (((c::r).drop i).all λ c=>J9 (c.toNat:Int))) (c::r) (by omega)
      (λ hc=>by
       refine Ev.loop ?_
       simp only [qkQ,qdg]
       refine Ev.cf hc (Ev.ret ?_)
       rw [List.drop_length];rfl)
      (λ i x hx hd hc hg hi hP=>by
       refine Ev.loop ?_
       simp only [qkQ,qdg]
       refine Ev.ct hc (Ev.some hg (Ev.bind (qvY _) ?_))
       rw [hd,List.all_cons,hi]
       cases h1:qhj (x.toNat:Int) with
       | true=>exact Ev.cf rfl (hP.res (by simp [J9,h1]))
       | false =>
         refine Ev.ct rfl (Ev.some hg (Ev.bind (qGg _) ?_))
         cases h2:qrN (x.toNat:Int) with
         | true=>exact Ev.cf rfl (hP.res (by simp [J9,h2]))
         | false =>
           refine Ev.ct rfl (Ev.some hg ?_)
           by_cases h3:(x.toNat:Int)=95
           ·exact Ev.cf (bnf.2 (qj.2 h3)) (hP.res (by simp [J9,h3]))
           ·refine Ev.ct (bnt.2 (qg.2 h3)) (Ev.some hg ?_)
            by_cases h4:(x.toNat:Int)=35
            ·exact Ev.cf (bnf.2 (qj.2 h4)) (hP.res (by simp [J9,h4]))
            ·exact Ev.ct (bnt.2 (qg.2 h4)) (Ev.ret (by unfold J9;rw [h1,h2,decide_eq_false h3,decide_eq_false h4];rfl)))
     refine Ev.diag (L := λ m k=>Jm m k (c::r) 0) ?_
     exact (key 0 (Nat.zero_le _)).res (by rw [List.drop_zero];rfl)
theorem qHn (c:Int):(J9 c&&(!(decide (48<=c)&&decide (c<=57))&&(!(decide (c=95)) && !(decide (c=35)))))=qhj c:=by
 unfold J9 qrN
 cases h:qhj c with
 | true =>
   unfold qhj at h
   rw [Bool.or_eq_true,decide_eq_true_iff,decide_eq_true_iff] at h
   rw [decide_eq_false (show ¬ (c=95) by omega),decide_eq_false (show ¬ (c=35) by omega)]
   have:(decide (48<=c)&&decide (c<=57))=false:=by
    rw [Bool.and_eq_false_iff,decide_eq_false_iff_not,decide_eq_false_iff_not];omega
   rw [this];rfl
 | false =>
   by_cases h1:48<=c<;>by_cases h2:c<=57<;>by_cases h3:c=95<;>by_cases h4:c=35<;>simp [h1,h2,h3,h4]
theorem qCr (l:List UInt8):Ev (λ m _=>qbn m l) (QB l):=by
 refine Ev.succ ?_
 simp only [qwQ,qd6]
 cases l with
 | nil=>exact Ev.ct rfl (Ev.pure _)
 | cons c r =>
   refine Ev.cf rfl ?_
   refine Ev.ite (λ h=>?_) λ h=>?_
   ·rw [qy] at h
    refine Ev.ret ?_
    unfold QB
    rw [decide_eq_false (show ¬ (c::r).length<=24 by omega)]
    simp
   rw [qx] at h
   refine Ev.some (JA _) (Ev.bind (qAZ _) ?_)
   have hn:QB (c::r)=(qhj (c.toNat:Int)&&(c::r).all λ c=>J9 (c.toNat:Int)):=by
    unfold QB
    rw [decide_eq_true (show (c::r).length<=24 by omega)]
    simp
   rw [hn,<- qHn]
   have key:=qs (P := λ i=>Ev (λ m k=>jX m k (c::r) (c::r).length i) (((c::r).drop i).all λ c=>J9 (c.toNat:Int))) (c::r) (by omega)
    (λ hc=>by
     refine Ev.loop ?_
     simp only [ql1,qef]
     refine Ev.cf hc (Ev.ret ?_)
     rw [List.drop_length];rfl)
    (λ i x hx hd hc hg hi hP=>by
     refine Ev.loop ?_
     simp only [ql1,qef]
     refine Ev.ct hc (Ev.some hg (Ev.bind (qAZ _) ?_))
     rw [hd,List.all_cons,hi]
     cases h1:J9 (x.toNat:Int) with
     | true=>exact Ev.cf rfl (hP.res (by simp))
     | false=>exact Ev.ct rfl (Ev.pure _))
   have fin:Ev (λ m _=>jX m m (c::r) (c::r).length 0) ((c::r).all λ c=>J9 (c.toNat:Int)):=by
    refine Ev.diag (L := λ m k=>jX m k (c::r) (c::r).length 0) ?_
    exact (key 0 (Nat.zero_le _)).res (by rw [List.drop_zero])
   have hz:qc (c::r) 0=some c:=JA _
   have h95:Ev (λ m _=>cond (ieq (c.toNat:Int) 95) (some false) (qa (qc (c::r) 0) λ v=>cond (ieq (v.toNat:Int) 35) (some false) (jX m m (c::r) (c::r).length 0))) ((!(decide ((c.toNat:Int)=95)) && !(decide ((c.toNat:Int)=35)))&&(c::r).all λ c=>J9 (c.toNat:Int)):=by
    by_cases h3:(c.toNat:Int)=95
    ·exact Ev.ct (qj.2 h3) (Ev.ret (by rw [decide_eq_true h3];rfl))
    ·refine Ev.cf (qg.2 h3) (Ev.some hz ?_)
     rw [decide_eq_false h3]
     by_cases h4:(c.toNat:Int)=35
     ·exact Ev.ct (qj.2 h4) (Ev.ret (by rw [decide_eq_true h4];rfl))
     ·refine Ev.cf (qg.2 h4) (fin.res ?_)
      rw [decide_eq_false h4];rfl
   cases h1:J9 (c.toNat:Int) with
   | false=>exact Ev.ct rfl (Ev.pure _)
   | true =>
     refine Ev.cf rfl (Ev.some hz ?_)
     by_cases h5:48<=(c.toNat:Int)
     ·refine Ev.ct (qjc.2 h5) (Ev.some hz ?_)
      by_cases h6:(c.toNat:Int)<=57
      ·exact Ev.ct (qjc.2 h6) (Ev.ret (by rw [decide_eq_true h5,decide_eq_true h6];rfl))
      ·refine Ev.cf (qgx.2 (by omega)) (Ev.some hz ?_)
       exact h95.res (by rw [decide_eq_true h5,decide_eq_false h6];rfl)
     ·refine Ev.cf (qgx.2 (by omega)) (Ev.some hz ?_)
      exact h95.res (by rw [decide_eq_false h5];rfl)
theorem qIK (t:T):Ev (λ m _=>qgf m t) (jV t):=by
 refine Ev.succ ?_
 simp only [qyH,qiw]
 unfold jV qlz
 have nm:∀ {R:Int},(∀ b,QB t.name=b->(if b then (if 8<t.kids.length then 3 else 0) else 2)=R)->Ev (λ m _=>qa (qaB m t.name) λ v=>cond (qe v) (some 2) (cond (ilt 8 (t.kids.length:Int)) (some 3) (some 0))) R:=by
  intro R h
  refine Ev.bind (qDz _) ?_
  refine Ev.res ?_ (h _ rfl)
  cases hn:QB t.name with
  | false=>exact Ev.ct rfl (Ev.pure _)
  | true =>
    refine Ev.cf rfl ?_
    refine Ev.ite (λ h=>?_) λ h=>?_
    ·rw [qy] at h;exact Ev.ret (by rw [if_pos rfl,if_pos (by omega)])
    ·rw [qx] at h;exact Ev.ret (by rw [if_pos rfl,if_neg (by omega)])
 have leaf:t.kids.length=0->∀ {R:Int},(∀ b,QB t.name=b->(if b then 0 else 2)=R)->Ev (λ m _=>qa (qaB m t.name) λ v=>cond (qe v) (some 2) (cond (ilt 8 (t.kids.length:Int)) (some 3) (some 0))) R:=by
  intro h0 R h
  refine nm λ b hb=>?_
  rw [if_neg (show ¬ 8<t.kids.length by omega)]
  exact h b hb
 by_cases h1:t.kind=1
 ·rw [if_pos (.inl h1)]
  refine Ev.ct (qj.2 h1) ?_
  refine Ev.ite (λ h=>?_) λ h=>?_
  ·rw [qy] at h;exact Ev.ret (by rw [if_pos (.inl h)])
  rw [qx] at h
  refine Ev.ite (λ h'=>?_) λ h'=>?_
  ·rw [qy] at h';exact Ev.ret (by rw [if_pos (.inr (.inl h'))])
  rw [qx] at h'
  refine Ev.ite (λ h''=>?_) λ h''=>?_
  ·rw [qy] at h'';exact Ev.ret (by rw [if_pos (.inr (.inr (by omega)))])
  rw [qx] at h''
  rw [if_neg (by omega)]
  exact leaf (by omega) λ b hb=>by rw [hb]
 refine Ev.cf (qg.2 h1) ?_
 by_cases h2:t.kind=2
 ·rw [if_pos (.inr h2)]
  refine Ev.cf (bnf.2 (qj.2 h2)) ?_
  refine Ev.ite (λ h=>?_) λ h=>?_
  ·rw [qy] at h;exact Ev.ret (by rw [if_pos (.inl h)])
  rw [qx] at h
  refine Ev.ite (λ h'=>?_) λ h'=>?_
  ·rw [qy] at h';exact Ev.ret (by rw [if_pos (.inr (.inl h'))])
  rw [qx] at h'
  refine Ev.cf (bnf.2 (qj.2 h2)) (Ev.ct (qj.2 h2) ?_)
  refine Ev.ite (λ h''=>?_) λ h''=>?_
  ·rw [qy] at h'';exact Ev.ret (by rw [if_pos (.inr (.inr (by omega)))])
  rw [qx] at h''
  rw [if_neg (by omega)]
  exact leaf (by omega) λ b hb=>by rw [hb]
 refine Ev.ct (bnt.2 (qg.2 h2)) ?_
 rw [if_neg (by omega)]
 by_cases h3:t.kind=3
 ·rw [if_pos h3]
  refine Ev.cf (bnf.2 (qj.2 h3)) ?_
  refine Ev.ite (λ h=>?_) λ h=>?_
  ·rw [qy] at h;exact Ev.ret (by rw [if_pos (by omega)])
  rw [qx] at h
  refine Ev.ite (λ h'=>?_) λ h'=>?_
  ·rw [qy] at h';exact Ev.ret (by rw [if_pos (by omega)])
  rw [qx] at h'
  refine Ev.ct (bnt.2 (qg.2 h2)) ?_
  refine Ev.ite (λ h''=>?_) λ h''=>?_
  ·rw [bnt,qg] at h'';exact Ev.ret (by rw [if_pos h''])
  rw [bnf,qj] at h''
  rw [if_neg (by omega)]
  refine Ev.cf (qg.2 h2) ?_
  exact nm λ b hb=>by rw [hb]
 ·rw [if_neg h3]
  exact Ev.ct (bnt.2 (qg.2 h3)) (Ev.pure _)
theorem qGN (t:T):size t<=1000000000->Ev (λ m _=>yY m t) (Qw t):=by
 induction t using T.ind with
 | h t ih =>
   intro hs
   refine Ev.succ ?_
   simp only [qxq,qeh,qi]
   have hl:=yh t
   have key:=qs (P := λ i=>Ev (λ m k=>JT m (yY m) k i t.kind t.name t.sort t.kids) (((t.kids.drop i).map Qw).foldl thn 0)) t.kids (by omega)
    (λ hc=>by
     refine Ev.loop ?_
     simp only [qmj,qeC]
     refine Ev.cf hc ?_
     exact Ev.ret (by simp))
    (λ i x hx hd hc hg hi hP=>by
     refine Ev.loop ?_
     simp only [qmj,qeC,qi]
     refine Ev.ct hc (Ev.some hg ?_)
     have hm:=List.mem_of_getElem? hx
     have h1:=jg t x hm
     refine Ev.bind (ih x hm (by omega)) ?_
     rw [hd,List.map_cons,Qc,hi]
     refine Ev.ite (λ h=>?_) λ h=>?_
     ·rw [bnt,qg] at h;exact Ev.ret (by rw [qK _ h])
     ·rw [bnf,qj] at h;rw [h];exact hP)
   rw [qk7]
   refine Ev.bind (qIK t) ?_
   refine Ev.ite (λ h=>?_) λ h=>?_
   ·rw [bnt,qg] at h;exact Ev.ret (by rw [qK _ h])
   ·rw [bnf,qj] at h;rw [h]
    refine Ev.diag (L := λ m k=>JT m (yY m) k 0 t.kind t.name t.sort t.kids) ?_
    exact (key 0 (Nat.zero_le _)).res (by rw [List.drop_zero])
theorem qcf (t:T) (hs:size t<=1000000000):Ev (λ m _=>yB m t) (qT t):=by
 refine Ev.succ ?_
 simp only [qw2,qhB,qi]
 unfold qT
 refine Ev.bind (qGN t hs) ?_
 refine Ev.ite (λ h=>?_) λ h=>?_
 ·rw [bnt,qg] at h;exact Ev.ret (by rw [if_pos h])
 rw [bnf,qj] at h
 rw [if_neg (by omega)]
 refine Ev.bind (qrE t hs) ?_
 refine Ev.ite (λ h=>?_) λ h=>?_
 ·rw [qy] at h;exact Ev.ret (by rw [if_pos (.inl (by omega))])
 rw [qx] at h
 refine Ev.bind (qFd t hs) ?_
 refine Ev.ite (λ h=>?_) λ h=>?_
 ·rw [qy] at h;exact Ev.ret (by rw [if_pos (.inr (by omega))])
 ·rw [qx] at h;exact Ev.ret (by rw [if_neg (by omega)])
end Go.AmZ
namespace Go.AmZ
open Go Go.GxZ Go.Lib
theorem qzi (lev d:Nat):∀ (l:List Nat) (c:Nat),l.foldl (λ a x=>max a (lev+x)) (max d (lev+c))=max d (lev+l.foldl max c)
 | [],c=>rfl
 | x::l,c=>by
   rw [List.foldl_cons,List.foldl_cons,<- qzi lev d l (max c x)]
   congr 1;omega
def qJt (lev n d:Nat) (e:Int) (s:Nat) (x:Nat) (r:(Int × Int × Unit) × (Int × Unit)):Prop:=r.2.1=e/\(e=0->r.1.1=((n+s:Nat):Int)/\r.1.2.1=((max d (lev+x):Nat):Int))
theorem qF1 (t:T):size t<=1000000000->∀ lev n d:Nat,lev+size t<=2000000000->n+size t<=2000000000->d<=2000000000->∃ r,Ev (λ m _=>zK m t lev n d) r/\qJt lev n d (Qw t) (size t) (qeO t-1) r:=by
 induction t using T.ind with
 | h t ih =>
   intro hs lev n d hlev hn hd0
   have hl:=yh t
   have hsz:=qX t
   have key:=qs (P := λ i=>∀ n d:Nat,n+((t.kids.drop i).map size).sum<=2000000000->d<=2000000000->∃ r,Ev (λ m k=>jh m (zK m) k lev t.kids t.kids.length i n d) r/\r.2.1=((t.kids.drop i).map Qw).foldl thn 0/\(((t.kids.drop i).map Qw).foldl thn 0=0->r.1.1=((n+((t.kids.drop i).map size).sum:Nat):Int)/\r.1.2.1=((((t.kids.drop i).map qeO).foldl (λ a x=>max a (lev+x)) d:Nat):Int))) t.kids (by omega)
    (λ hc n d _ _=>by
     refine ⟨((n,d,()),(0,())),?_,?_,λ _=>⟨?_,?_⟩⟩
     ·refine Ev.loop ?_
      simp only [qnT,qfy]
      exact Ev.cf hc (Ev.pure _)
     ·simp
     ·simp
     ·simp)
    (λ i x hx hd hc hg hi hP n d hn hd1=>by
     have hm:=List.mem_of_getElem? hx
     have h1:=jg t x hm
     rw [qr8 hd] at hn
     obtain ⟨r,hr,he,hz⟩:=ih x hm (by omega) (lev+1) n d (by omega) (by omega) hd1
     have hstep:∀ r' ,(r.2.1≠0->r'=((r.1.1,r.1.2.1,()),(r.2.1,())))->(r.2.1=0->Ev (λ m k=>jh m (zK m) k lev t.kids t.kids.length ((i+1:Nat):Int) r.1.1 r.1.2.1) r')->Ev (λ m k=>jh m (zK m) k lev t.kids t.kids.length i n d) r':=by
      intro r' g1 g2
      refine Ev.loop ?_
      simp only [qnT,qfy,qi]
      refine Ev.ct hc (Ev.some hg ?_)
      rw [show qh (lev:Int) 1=((lev+1:Nat):Int) by unfold qh;omega,QC (by omega),hi]
      refine Ev.bind hr ?_
      refine Ev.ite (λ h=>?_) λ h=>?_
      ·rw [bnt,qg] at h;exact Ev.ret (g1 h).symm
      ·rw [bnf,qj] at h;exact g2 h
     rw [hd,List.map_cons,List.map_cons,List.map_cons,List.sum_cons,Qc,List.foldl_cons]
     by_cases h0:Qw x=0
     ·obtain ⟨z1,z2⟩:=hz h0
      have hdep:=qA5 x
      obtain ⟨r',g1,g2,g3⟩:=hP (n+size x) (max d (lev+1+(qeO x-1))) (by omega) (by omega)
      refine ⟨r',hstep r' (λ h=>absurd (he.trans h0) h) (λ _=>by rw [z1,z2];exact g1),by rw [h0];exact g2,λ hh=>?_⟩
      rw [h0] at hh
      obtain ⟨q1,q2⟩:=g3 hh
      refine ⟨by rw [q1];congr 1;omega,?_⟩
      rw [q2]
      have:qeO x ≥ 1:=by rw [qjs];omega
      rw [show max d (lev+1+(qeO x-1))=max d (lev+qeO x) by omega]
     ·refine ⟨((r.1.1,r.1.2.1,()),(r.2.1,())),hstep _ (λ _=>rfl) (λ h=>absurd (he.symm.trans h) h0),?_,λ hh=>?_⟩
      ·rw [qK _ h0];exact he
      ·rw [qK _ h0] at hh;exact absurd hh h0)
   have start:∀ r,(jV t≠0->r=((((n+1:Nat):Int),((max d lev:Nat):Int),()),(jV t,())))->(jV t=0->Ev (λ m _=>jh m (zK m) m lev t.kids t.kids.length 0 ((n+1:Nat):Int) ((max d lev:Nat):Int)) r)->Ev (λ m _=>zK m t lev n d) r:=by
    intro r g1 g2
    refine Ev.succ ?_
    simp only [qyM,qfl]
    rw [show qh (n:Int) 1=((n+1:Nat):Int) by unfold qh;omega,QC (by omega),qyn]
    have err:∀ e,jV t=e->e≠0->Ev (λ _ _=>some ((((n+1:Nat):Int),((max d lev:Nat):Int),()),(e,()))) r:=by
     intro e he h
     refine Ev.ret ?_
     subst he
     exact (g1 h).symm
    have nm:(t.kind=3\/t.kids.length=0)->(∀ b,QB t.name=b->(if b then (if 8<t.kids.length then 3 else 0) else 2)=jV t)->Ev (λ m _=>qa (qbn m t.name) λ v=>cond (qe v) (some ((((n+1:Nat):Int),((max d lev:Nat):Int),()),(2,()))) (cond (ilt 8 (t.kids.length:Int)) (some ((((n+1:Nat):Int),((max d lev:Nat):Int),()),(3,()))) (jh m (zK m) m lev t.kids t.kids.length 0 ((n+1:Nat):Int) ((max d lev:Nat):Int)))) r:=by
     intro _ h
     have h:=h _ rfl
     refine Ev.bind (qCr _) ?_
     cases hn:QB t.name with
     | false=>rw [hn] at h;exact Ev.ct rfl (err 2 h.symm (by decide))
     | true =>
       rw [hn,if_pos rfl] at h
       refine Ev.cf rfl ?_
       refine Ev.ite (λ h'=>?_) λ h'=>?_
       ·rw [qy] at h';rw [if_pos (by omega)] at h;exact err 3 h.symm (by decide)
       ·rw [qx] at h';rw [if_neg (by omega)] at h;exact g2 h.symm
    have leafE:∀ k,t.kind=k->(k=1\/k=2)->jV t=if t.sort<0\/5<t.sort\/0<t.kids.length then 1 else if QB t.name then 0 else 2:=by
     intro k hk h
     unfold jV qlz
     rw [hk,if_pos h]
    have leaf:∀ k,t.kind=k->(k=1\/k=2)->Ev (λ m _=>cond (ilt t.sort 0) (some ((((n+1:Nat):Int),((max d lev:Nat):Int),()),(1,()))) (cond (ilt 5 t.sort) (some ((((n+1:Nat):Int),((max d lev:Nat):Int),()),(1,()))) (cond (ilt 0 (t.kids.length:Int)) (some ((((n+1:Nat):Int),((max d lev:Nat):Int),()),(1,()))) (qa (qbn m t.name) λ v=>cond (qe v) (some ((((n+1:Nat):Int),((max d lev:Nat):Int),()),(2,()))) (cond (ilt 8 (t.kids.length:Int)) (some ((((n+1:Nat):Int),((max d lev:Nat):Int),()),(3,()))) (jh m (zK m) m lev t.kids t.kids.length 0 ((n+1:Nat):Int) ((max d lev:Nat):Int))))))) r:=by
     intro k hk h
     have hE:=leafE k hk h
     refine Ev.ite (λ h'=>?_) λ h'=>?_
     ·rw [qy] at h';exact err 1 (by rw [hE,if_pos (.inl h')]) (by decide)
     rw [qx] at h'
     refine Ev.ite (λ h1=>?_) λ h1=>?_
     ·rw [qy] at h1;exact err 1 (by rw [hE,if_pos (.inr (.inl h1))]) (by decide)
     rw [qx] at h1
     refine Ev.ite (λ h2=>?_) λ h2=>?_
     ·rw [qy] at h2;exact err 1 (by rw [hE,if_pos (.inr (.inr (by omega)))]) (by decide)
     rw [qx] at h2
     rw [if_neg (by omega)] at hE
     refine nm (.inr (by omega)) λ b hb=>?_
     rw [hE,hb,if_neg (show ¬ 8<t.kids.length by omega)]
    by_cases h1:t.kind=1
    ·exact Ev.ct (qj.2 h1) (leaf 1 h1 (.inl rfl))
    refine Ev.cf (qg.2 h1) ?_
    by_cases h2:t.kind=2
    ·exact Ev.ct (qj.2 h2) (leaf 2 h2 (.inr rfl))
    refine Ev.cf (qg.2 h2) ?_
    by_cases h3:t.kind=3
    ·refine Ev.ct (qj.2 h3) ?_
     have hE:jV t=if t.sort≠0 then 1 else if QB t.name then (if 8<t.kids.length then 3 else 0) else 2:=by
      unfold jV qlz
      rw [if_neg (by omega),if_pos h3]
     refine Ev.ite (λ h'=>?_) λ h'=>?_
     ·rw [bnt,qg] at h';exact err 1 (by rw [hE,if_pos h']) (by decide)
     rw [bnf,qj] at h'
     rw [if_neg (by omega)] at hE
     exact nm (.inl h3) λ b hb=>by rw [hE,hb]
    ·refine Ev.cf (qg.2 h3) ?_
     refine err 1 ?_ (by decide)
     unfold jV qlz
     rw [if_neg (by omega),if_neg h3]
   rw [qk7]
   by_cases h0:jV t=0
   ·rw [h0]
    obtain ⟨r,g1,g2,g3⟩:=key 0 (Nat.zero_le _) (n+1) (max d lev) (by rw [List.drop_zero];omega) (by omega)
    rw [List.drop_zero] at g2 g3
    refine ⟨r,start r (λ h=>absurd h0 h) (λ _=>Ev.diag (L := λ m k=>jh m (zK m) k lev t.kids t.kids.length 0 ((n+1:Nat):Int) ((max d lev:Nat):Int)) g1),g2,λ hh=>?_⟩
    obtain ⟨q1,q2⟩:=g3 hh
    refine ⟨by rw [q1];congr 1;omega,?_⟩
    rw [q2,show max d lev=max d (lev+0) by omega,qzi,qjs,Nat.add_sub_cancel]
   ·refine ⟨_,start _ (λ _=>rfl) (λ h=>absurd h h0),?_,λ hh=>?_⟩
    ·rw [qK _ h0]
    ·rw [qK _ h0] at hh;exact absurd hh h0
theorem qdy (t:T) (hs:size t<=1000000000):Ev (λ m _=>ya m t) (qT t):=by
 refine Ev.succ ?_
 simp only [qyp,qiE,qi]
 unfold qT
 obtain ⟨r,h1,h2,h3⟩:=qF1 t hs 1 0 0 (by omega) (by omega) (by omega)
 refine Ev.bind h1 ?_
 rw [h2]
 refine Ev.ite (λ h=>?_) λ h=>?_
 ·rw [bnt,qg] at h;exact Ev.ret (by rw [if_pos h])
 rw [bnf,qj] at h
 obtain ⟨q1,q2⟩:=h3 h
 have hd:qeO t ≥ 1:=by rw [qjs];omega
 rw [if_neg (by omega),q1,q2]
 refine Ev.ite (λ h=>?_) λ h=>?_
 ·rw [qy] at h;exact Ev.ret (by rw [if_pos (.inl (by omega))])
 rw [qx] at h
 refine Ev.ite (λ h=>?_) λ h=>?_
 ·rw [qy] at h;exact Ev.ret (by rw [if_pos (.inr (by omega))])
 ·rw [qx] at h;exact Ev.ret (by rw [if_neg (by omega)])
theorem qqU (t:T):size t<=1000000000->Ev (λ m _=>yJ m t) t:=by
 induction t using T.ind with
 | h t ih =>
   intro hs
   refine Ev.succ ?_
   simp only [qzH,qfk]
   have hl:=yh t
   have key:=qs (P := λ i=>Ev (λ m k=>qay m (yJ m) k t.kids t.kids.length i t.kind t.name t.sort 0 [] 0 (t.kids.take i) []) t) t.kids (by omega)
    (λ hc=>by
     refine Ev.loop ?_
     simp only [qnQ,qfh]
     refine Ev.cf hc ?_
     rw [List.take_length]
     exact Ev.ret (qi t))
    (λ i x hx hd hc hg hi hP=>by
     refine Ev.loop ?_
     simp only [qnQ,qfh,qi]
     have hm:=List.mem_of_getElem? hx
     have h1:=jg t x hm
     refine Ev.ct hc (Ev.some hg (Ev.bind (ih x hm (by omega)) (Ev.ct (q9 ?_ (by omega)) ?_)))
     ·have:(t.kids.take i).length<=t.kids.length:=by rw [List.length_take];omega
      omega
     ·rw [hi]
      refine hP.congr λ m k=>?_
      rw [List.take_add_one,hx];rfl)
   refine Ev.diag (L := λ m k=>qay m (yJ m) k t.kids t.kids.length 0 t.kind t.name t.sort 0 [] 0 [] []) ?_
   exact key 0 (Nat.zero_le _)
noncomputable def qre:T->Prop:=T.para λ t rs=>t.kids.length<2 ^ 62/\t.name.length<2 ^ 62/\∀ p∈rs,p
theorem qBz (t:T):qre t↔t.kids.length<2 ^ 62/\t.name.length<2 ^ 62/\∀ k∈t.kids,qre k:=by
 unfold qre
 rw [T.para_eq]
 exact ⟨λ ⟨a,b,c⟩=>⟨a,b,λ k hk=>c _ (List.mem_map_of_mem hk)⟩,λ ⟨a,b,c⟩=>⟨a,b,λ p hp=>by obtain ⟨k,hk,rfl⟩:=List.mem_map.1 hp;exact c k hk⟩⟩
theorem qEZ (t:T):qre t->∀ mm:Int,-1000000000<=mm->mm<=1000000000->Ev (λ m _=>yo m t mm) (qaS t mm):=by
 induction t using T.ind with
 | h t ih =>
   intro hf mm hm0 hm1
   obtain ⟨f1,f2,f3⟩:=(qBz t).1 hf
   refine Ev.succ ?_
   simp only [quv,qdp]
   rw [qB0]
   refine Ev.ite (λ h=>?_) λ h=>?_
   ·rw [qjc] at h;exact Ev.ret (by rw [if_pos (.inl h)])
   rw [qgx] at h
   refine Ev.ite (λ h'=>?_) λ h'=>?_
   ·rw [qy] at h';exact Ev.ret (by rw [if_pos (.inr (by omega))])
   rw [qx] at h'
   rw [if_neg (by omega),show yQ mm 1=mm-1 from rfl,QC (by omega)]
   have key:=qs (P := λ i=>∀ mm:Int,0<=mm->mm<=1000000000->Ev (λ m k=>Jb m (yo m) k mm i t.kind t.name t.sort t.kids) (qj7 ((t.kids.drop i).map qaS) mm)) t.kids f1
    (λ hc mm _ _=>by
     refine Ev.loop ?_
     simp only [qlg,qdw]
     refine Ev.cf hc ?_
     rw [List.drop_length]
     exact Ev.pure _)
    (λ i x hx hd hc hg hi hP mm hm0 hm1=>by
     refine Ev.loop ?_
     simp only [qlg,qdw,qi]
     have hm:=List.mem_of_getElem? hx
     refine Ev.ct hc (Ev.some hg (Ev.bind (ih x hm (f3 x hm) mm (by omega) (by omega)) ?_))
     rw [hd,List.map_cons,qj7,hi]
     have:=qpk x mm
     refine Ev.ite (λ h=>?_) λ h=>?_
     ·rw [qy] at h;exact Ev.ret (by rw [if_pos h])
     ·rw [qx] at h
      rw [if_neg (by omega)]
      exact hP _ (by omega) (by omega))
   refine Ev.diag (L := λ m k=>Jb m (yo m) k (mm-1) 0 t.kind t.name t.sort t.kids) ?_
   exact (key 0 (Nat.zero_le _) (mm-1) (by omega) (by omega)).res (by rw [List.drop_zero])
theorem qKo (l:List T) (hl:l.length<2 ^ 62) (hf:∀ t∈l,qre t) (n:Nat) (mm:Int) (hm0:0<=mm) (hm1:mm<=1000000000):Ev (λ m _=>qhY m l n mm) (decide (l.length<=n)&&qpm l mm):=by
 refine Ev.succ ?_
 simp only [qAC,qgu]
 refine Ev.ite (λ h=>?_) λ h=>?_
 ·rw [qy] at h;exact Ev.ret (by rw [decide_eq_false (by omega)];rfl)
 rw [qx] at h
 rw [decide_eq_true (by omega),Bool.true_and]
 have key:=qs (P := λ i=>∀ mm:Int,0<=mm->mm<=1000000000->Ev (λ m k=>qbq m k l mm i) (qpm (l.drop i) mm)) l hl
  (λ hc mm _ _=>by
   refine Ev.loop ?_
   simp only [qo4,qgM]
   refine Ev.cf hc ?_
   rw [List.drop_length]
   exact Ev.pure _)
  (λ i x hx hd hc hg hi hP mm hm0 hm1=>by
   refine Ev.loop ?_
   simp only [qo4,qgM,qi]
   have hm:=List.mem_of_getElem? hx
   refine Ev.ct hc (Ev.some hg (Ev.bind (qEZ x (hf x hm) mm (by omega) (by omega)) ?_))
   rw [hd,qpm,hi]
   have:=qpk x mm
   refine Ev.ite (λ h=>?_) λ h=>?_
   ·rw [qy] at h;exact Ev.ret (by rw [if_pos h])
   ·rw [qx] at h
    rw [if_neg (by omega)]
    exact hP _ (by omega) (by omega))
 refine Ev.diag (L := λ m k=>qbq m k l mm 0) ?_
 exact (key 0 (Nat.zero_le _) mm hm0 hm1).res (by rw [List.drop_zero])
theorem qGQ {l:List T} {mm:Int} (hm:0<=mm) (h:qpm l mm=true):∀ t∈l,(size t:Int)<=mm := λ t ht=>by
 have h1:=qwl l mm hm h
 have h2:=qi4 l t ht
 omega
end Go.AmZ
namespace Go.GxZ
def qsP (t:T):Int:=if (qE t.name).2.2=0 then 10 else if qlD jm t.name t.kids.length=false then 6 else if (qE t.name).2.2=2/\qjv t=false then 10 else 0
theorem qtL (n:List UInt8):(jm.find? λ r=>r.1==n)=none\/∃ r∈jm,r.1=n/\(jm.find? λ r=>r.1==n)=some r:=by
 cases h:jm.find? λ r=>r.1==n with
 | none=>exact .inl rfl
 | some r=>exact .inr ⟨r,List.mem_of_find?_eq_some h,by simpa using List.find?_some h,rfl⟩
theorem qti {n:List UInt8} (h:(jm.find? λ r=>r.1==n)=none):qE n=(0,0,0):=by unfold qE;rw [h];rfl
theorem qm4 {n:List UInt8} {r:List UInt8 × Int × Int × Int} (h:(jm.find? λ r=>r.1==n)=some r):qE n=r.2:=by unfold qE;rw [h];rfl
def qHH (r:List UInt8 × Int × Int × Int):Bool :=
 decide (r.2.2.2≠0)&&decide (0<=r.2.1)&&decide (r.2.2.1<=8)&&(decide (r.2.2.2=2)==(r.1==qgn||r.1==nSk||r.1==qr7))&&(decide (r.2.2.2=2)==decide (r.2.2.2=2/\1<=r.2.1))&&(decide (r.2.2.2=3)==(r.1==qGW||r.1==qux||r.1==qFC||r.1==qCt||r.1==qCz||r.1==qDs))
theorem qIj:jm.all qHH=true:=by decide
theorem qt1 {n:List UInt8} (h:(qE n).2.2≠0):qGO jm n=true/\quD jm n=qE n/\0<=(qE n).1/\(qE n).2.1<=8/\((qE n).2.2=2↔n=qgn\/n=nSk\/n=qr7)/\((qE n).2.2=2->1<=(qE n).1)/\((qE n).2.2=3↔isD n=true):=by
 rcases qtL n with h0 | ⟨r,hr,hn,h0⟩
 ·rw [qti h0] at h;exact absurd rfl h
 ·have hk:=List.all_eq_true.1 qIj r hr
  subst hn
  rw [qm4 h0]
  unfold qHH at hk
  simp only [Bool.and_eq_true,beq_iff_eq,decide_eq_true_eq] at hk
  obtain ⟨⟨⟨⟨⟨h1,h2⟩,h3⟩,h4⟩,h5⟩,h6⟩:=hk
  refine ⟨List.any_eq_true.2 ⟨r,hr,by simp⟩,qm4 h0,h2,h3,?_,?_,?_⟩
  ·constructor
   ·intro h
    rw [decide_eq_true h] at h4
    have:=h4.symm
    simp only [Bool.or_eq_true,beq_iff_eq] at this
    exact or_assoc.1 this
   ·intro h
    by_cases hh:r.2.2.2=2
    ·exact hh
    ·rw [decide_eq_false hh] at h4
     have:=h4.symm
     simp only [Bool.or_eq_false_iff,beq_eq_false_iff_ne] at this
     rcases h with h | h | h
     ·exact absurd h this.1.1
     ·exact absurd h this.1.2
     ·exact absurd h this.2
  ·intro h
   rw [decide_eq_true h] at h5
   have:=of_decide_eq_true h5.symm
   exact this.2
  ·unfold isD
   rw [<- h6]
   simp
theorem qFw (t:T) (h3:t.kind=3):qsP t=qb3 t:=by
 unfold qsP qb3
 rw [if_neg (show ¬ (t.kind≠3) from λ h=>h h3)]
 by_cases h0:(qE t.name).2.2=0
 ·rw [if_pos h0,if_pos h0]
 ·rw [if_neg h0,if_neg h0]
  obtain ⟨k1,k2,k3,k4,k5,k6,k7⟩:=qt1 h0
  have e1:qlD jm t.name t.kids.length=(decide ((qE t.name).1<=(t.kids.length:Int))&&decide ((t.kids.length:Int)<=(qE t.name).2.1)):=by
   unfold qlD;rw [k1,k2,Bool.true_and]
  rw [e1]
  by_cases h1:(t.kids.length:Int)<(qE t.name).1\/(qE t.name).2.1<(t.kids.length:Int)
  ·rw [if_pos h1,if_pos]
   rw [Bool.and_eq_false_iff,decide_eq_false_iff_not,decide_eq_false_iff_not]
   omega
  ·rw [if_neg h1,if_neg]
   ·have e2:(qE t.name).2.2=2/\qjv t=false↔J5 t=true:=by
      rw [k5]
      unfold qjv J5
      by_cases hn:t.name=qgn
      ·rw [if_pos hn,if_pos hn]
       simp [hn]
      ·rw [if_neg hn,if_neg hn]
       by_cases hs:t.name=nSk\/t.name=qr7
       ·rw [if_pos hs]
        have:agB t.kids = !(t.kids.any λ k=>decide (k.kind=3)||decide (k.sort≠1)):=by
         unfold agB
         generalize t.kids=l
         induction l with
         | nil=>rfl
         | cons x l ih=>simp only [List.all_cons,List.any_cons,ih,Bool.not_or];congr 1;congr 1;by_cases h:x.sort=1<;>simp [bne,h]
        rw [this]
        simp [hs]
       ·rw [if_neg hs]
        constructor
        ·rintro ⟨h,_⟩
         rcases h with h | h
         ·exact absurd h hn
         ·exact absurd h hs
        ·intro h;cases h
    by_cases hp:J5 t=true
    ·rw [if_pos hp,if_pos (e2.2 hp)]
    ·rw [if_neg hp,if_neg (λ h=>hp (e2.1 h))]
   ·rw [Bool.and_eq_false_iff,decide_eq_false_iff_not,decide_eq_false_iff_not]
    omega
theorem qcg {t:T} (h3:t.kind=3) (h:zh t=0):qb3 t=0/\(∀ k∈t.kids,zh k=0):=by
 rw [qmt,if_neg (show ¬ (t.kind≠3) from λ h=>h h3)] at h
 by_cases h0:qb3 t=0
 ·refine ⟨h0,?_⟩
  rw [h0] at h
  generalize t.kids=l at *
  induction l with
  | nil=>intro k hk;cases hk
  | cons x l ih =>
    rw [List.map_cons,Qc] at h
    by_cases hx:zh x=0
    ·rw [hx] at h
     intro k hk
     rcases List.mem_cons.1 hk with rfl | hk
     ·exact hx
     ·exact ih h k hk
    ·rw [qK _ hx] at h;exact absurd h hx
 ·rw [qK _ h0] at h;exact absurd h h0
end Go.GxZ
namespace Go.AmZ
open Go Go.GxZ Go.Lib
theorem qjm (t:T) (n:List UInt8):Ev (λ m _=>yH m t n) (isN t n):=by
 refine Ev.succ ?_
 simp only [qAg,qkf]
 unfold isN
 refine Ev.ite (λ h=>?_) λ h=>?_
 ·rw [qj] at h;exact Ev.ret (by rw [h];rfl)
 ·rw [qg] at h;exact Ev.ret (by rw [show (t.kind==3)=false from beq_eq_false_iff_ne.2 h];rfl)
theorem qkx (t:T) (n:List UInt8):Ev (λ m _=>qaG m t n) (isN t n):=by
 refine Ev.succ ?_
 simp only [qCQ,qlI]
 unfold isN
 refine Ev.ite (λ h=>?_) λ h=>?_
 ·rw [qj] at h;exact Ev.ret (by rw [h];rfl)
 ·rw [qg] at h;exact Ev.ret (by rw [show (t.kind==3)=false from beq_eq_false_iff_ne.2 h];rfl)
theorem qJO (n:List UInt8) (l:List T):Ev (λ m _=>qej m n l) (apT n l):=Ev.succ (Ev.pure _)
theorem qew (n:List UInt8) (l:List T) (hl:l.length<=1000000000):Ev (λ m _=>jA m n l) (apT n l):=by
 refine Ev.succ ?_
 simp only [qAJ,qj0]
 refine Ev.ct (q9 (by simp;omega) (by omega)) ?_
 refine Ev.case (λ h=>?_) λ x t h=>?_
 ·subst h;exact Ev.pure _
 ·subst h;exact Ev.pure _
def qGn (n:List UInt8):List UInt8 × Int × Int × Int:=(jm.find? λ r=>r.1==n).getD ([],0,0,0)
theorem qrc (n:List UInt8):(qGn n).2=qE n:=by
 unfold qGn qE
 cases jm.find? λ r=>r.1==n<;>rfl
theorem qwf (n:List UInt8):Ev (λ m _=>qaW m n) (qGn n):=by
 refine Ev.succ ?_
 simp only [qst,qcF]
 refine Ev.bind (a:=jm) (Ev.pure _) ?_
 have key:=qs (P := λ i=>Ev (λ m k=>Qv m k n jm jm.length i [] 0 0 0) (((jm.drop i).find? λ r=>r.1==n).getD ([],0,0,0))) jm (by decide)
  (λ hc=>by
   refine Ev.loop ?_
   simp only [qjG,qcM]
   refine Ev.cf hc ?_
   exact Ev.pure _)
  (λ i x hx hd hc hg hi hP=>by
   refine Ev.loop ?_
   simp only [qjG,qcM]
   refine Ev.ct hc (Ev.some hg ?_)
   rw [hd,List.find?_cons,hi]
   refine Ev.ite (λ h=>?_) λ h=>?_
   ·exact Ev.ret (by rw [show (x.1==n)=true from h];rfl)
   ·rw [show (x.1==n)=false from h];exact hP)
 refine Ev.diag (L := λ m k=>Qv m k n jm jm.length 0 [] 0 0 0) ?_
 exact key 0 (Nat.zero_le _)
theorem qq1 {t:T} (h3:t.kind=3) (h:qb3 t=0):(qE t.name).2.2≠0/\(qE t.name).1<=(t.kids.length:Int)/\(t.kids.length:Int)<=(qE t.name).2.1/\J5 t=false:=by
 unfold qb3 at h
 rw [if_neg (show ¬ t.kind≠3 from λ hh=>hh h3)] at h
 split at h
 ·omega
 rename_i h1
 split at h
 ·omega
 rename_i h2
 split at h
 ·omega
 rename_i h4
 exact ⟨h1,by omega,by omega,by simpa using h4⟩
theorem quw {t:T} {i:Nat} (h:i<t.kids.length):qc t.kids (i:Int)=some (kid t i):=by
 rw [jq]
 unfold kid
 rw [List.getD_eq_getElem?_getD,List.getElem?_eq_getElem h];rfl
theorem qdl {t:T} (h:0<t.kids.length):qc t.kids 0=some (kid t 0):=quw (i:=0) h
theorem qpQ {t:T} (h:1<t.kids.length):qc t.kids 1=some (kid t 1):=quw (i:=1) h
theorem qBw {t:T} {i:Nat} (h:i<t.kids.length):kid t i∈t.kids:=by
 unfold kid
 rw [List.getD_eq_getElem?_getD,List.getElem?_eq_getElem h]
 exact List.getElem_mem h
theorem yC {t:T} {n:List UInt8}:isN t n=true↔t.kind=3/\t.name=n:=by
 unfold isN
 rw [Bool.and_eq_true,beq_iff_eq,beq_iff_eq]
theorem qEx (t:T):size t<=1000000000->Ev (λ m _=>qD m t) (zh t):=by
 induction t using T.ind with
 | h t ih =>
   intro hs
   refine Ev.succ ?_
   simp only [quh,qdi]
   have hl:=yh t
   rw [qmt]
   refine Ev.ite (λ h=>?_) λ h3=>?_
   ·rw [bnt,qg] at h;exact Ev.ret (by rw [if_pos h])
   rw [bnf,qj] at h3
   rw [if_neg (show ¬ t.kind≠3 from λ hh=>hh h3)]
   have k2:=qs (P := λ i=>Ev (λ m k=>(qP m (qD m) k).2 t.kids t.kids.length i) (((t.kids.drop i).map zh).foldl thn 0)) t.kids (by omega)
    (λ hc=>by
     refine Ev.loop ?_
     simp only [qlu,qdf]
     refine Ev.cf hc ?_
     exact Ev.ret (by simp))
    (λ i x hx hd hc hg hi hP=>by
     refine Ev.loop ?_
     simp only [qlu,qdf,qi]
     have hm:=List.mem_of_getElem? hx
     have h1:=jg t x hm
     refine Ev.ct hc (Ev.some hg (Ev.bind (ih x hm (by omega)) ?_))
     rw [hd,List.map_cons,Qc,hi]
     refine Ev.ite (λ h=>?_) λ h=>?_
     ·rw [bnt,qg] at h;exact Ev.ret (by rw [qK _ h])
     ·rw [bnf,qj] at h;rw [h];exact hP)
   have k2':Ev (λ m k=>(qP m (qD m) k).2 t.kids t.kids.length 0) ((t.kids.map zh).foldl thn 0):=(k2 0 (Nat.zero_le _)).res (by rw [List.drop_zero])
   have k1:=qs (P := λ i=>Ev (λ m k=>(qP m (qD m) k).1 t.kids t.kids.length i t.kind t.name t.sort t.kids) (if (t.kids.drop i).any (λ k=>decide (k.kind=3)||decide (k.sort≠1))=true then 10 else (t.kids.map zh).foldl thn 0)) t.kids (by omega)
    (λ hc=>by
     refine Ev.loop ?_
     simp only [qk9,qdq]
     refine Ev.cf hc ?_
     refine k2'.res ?_
     rw [List.drop_length];rfl)
    (λ i x hx hd hc hg hi hP=>by
     refine Ev.loop ?_
     simp only [qk9,qdq,qi]
     refine Ev.ct hc (Ev.some hg ?_)
     rw [hd,List.any_cons,hi]
     refine Ev.ite (λ h=>?_) λ h=>?_
     ·rw [qj] at h;exact Ev.ret (by rw [decide_eq_true h];rfl)
     rw [qg] at h
     rw [decide_eq_false h]
     refine Ev.ite (λ h'=>?_) λ h'=>?_
     ·rw [bnt,qg] at h';exact Ev.ret (by rw [decide_eq_true h'];rfl)
     ·rw [bnf,qj] at h';rw [decide_eq_false (λ hh=>hh h')];exact hP)
   have fin2:qb3 t=0->Ev (λ m _=>(qP m (qD m) m).2 t.kids t.kids.length 0) ((t.kids.map zh).foldl thn (qb3 t)) := λ h=>by
    rw [h]
    exact Ev.diag (L := λ m k=>(qP m (qD m) k).2 t.kids t.kids.length 0) k2'
   have fin1:J5 t=t.kids.any (λ k=>decide (k.kind=3)||decide (k.sort≠1))->qb3 t=(if J5 t=true then 10 else 0)->Ev (λ m _=>(qP m (qD m) m).1 t.kids t.kids.length 0 t.kind t.name t.sort t.kids) ((t.kids.map zh).foldl thn (qb3 t)) := λ hp h=>by
    refine (Ev.diag (L := λ m k=>(qP m (qD m) k).1 t.kids t.kids.length 0 t.kind t.name t.sort t.kids) (k1 0 (Nat.zero_le _))).res ?_
    rw [List.drop_zero,<- hp,h]
    split
    ·rw [qK _ (by decide)]
    ·rfl
   refine Ev.bind (qwf t.name) ?_
   rw [qrc]
   have hK:qb3 t=if (qE t.name).2.2=0 then 10 else if (t.kids.length:Int)<(qE t.name).1\/(qE t.name).2.1<(t.kids.length:Int) then 6 else if J5 t=true then 10 else 0:=by
    unfold qb3
    rw [if_neg (show ¬ t.kind≠3 from λ hh=>hh h3)]
   refine Ev.ite (λ h=>?_) λ h=>?_
   ·rw [qj] at h;rw [if_pos h] at hK;exact Ev.ret (by rw [hK,qK _ (by decide)])
   rw [qg] at h
   rw [if_neg h] at hK
   refine Ev.ite (λ h1=>?_) λ h1=>?_
   ·rw [qy] at h1;rw [if_pos (.inl h1)] at hK;exact Ev.ret (by rw [hK,qK _ (by decide)])
   rw [qx] at h1
   refine Ev.ite (λ h2=>?_) λ h2=>?_
   ·rw [qy] at h2;rw [if_pos (.inr h2)] at hK;exact Ev.ret (by rw [hK,qK _ (by decide)])
   rw [qx] at h2
   rw [if_neg (by omega)] at hK
   refine Ev.ite (λ hn=>?_) λ hn=>?_
   ·rw [yT] at hn
    refine fin1 ?_ hK
    unfold J5
    rw [hn,if_neg (by decide),if_pos (.inl rfl)]
   rw [jE] at hn
   refine Ev.ite (λ hn'=>?_) λ hn'=>?_
   ·rw [yT] at hn'
    refine fin1 ?_ hK
    unfold J5
    rw [hn',if_neg (by decide),if_pos (.inr rfl)]
   rw [jE] at hn'
   refine Ev.ite (λ hw=>?_) λ hw=>?_
   ·rw [yT] at hw
    have hpos:0<t.kids.length:=by
     rw [hw,show (qE [110,101,119]).1=1 from by decide] at h1
     omega
    refine Ev.some (qdl hpos) ?_
    have hp:J5 t=decide ((kid t 0).kind≠2):=by
     unfold J5
     rw [if_pos (show t.name=qgn from hw)]
    refine Ev.ite (λ hh=>?_) λ hh=>?_
    ·rw [bnt,qg] at hh
     rw [hp,decide_eq_true hh,if_pos rfl] at hK
     exact Ev.ret (by rw [hK,qK _ (by decide)])
    ·rw [bnf,qj] at hh
     rw [hp,decide_eq_false (λ g=>g hh)] at hK
     exact fin2 hK
   ·rw [jE] at hw
    refine fin2 ?_
    have:J5 t=false:=by
     unfold J5
     rw [if_neg (show ¬ t.name=qgn from hw),if_neg (λ h=>h.elim hn hn')]
    rw [this] at hK
    exact hK
theorem qBS (t:T) (hs:size t<=1000000000):Ev (λ m _=>qb0 m t) (qc5 t):=by
 refine Ev.succ ?_
 simp only [quE,qgH,qi]
 unfold qc5
 refine Ev.bind (qdy t hs) ?_
 refine Ev.ite (λ h=>?_) λ h=>?_
 ·rw [bnt,qg] at h;exact Ev.ret (by rw [Qj h])
 ·rw [bnf,qj] at h;rw [h];exact Ev.bind (qEx t hs) (Ev.pure _)
theorem qu4 (n:List UInt8):Ev (λ m _=>qck m n) (qE n).2.2:=by
 refine Ev.succ ?_
 simp only [qxV,qfw]
 refine Ev.bind (a:=jm) (Ev.succ (Ev.pure _)) ?_
 have key:=qs (P := λ i=>Ev (λ m k=>qal m k n jm i) (((jm.drop i).find? λ r=>r.1==n).getD ([],0,0,0)).2.2.2) jm (by decide)
  (λ hc=>by
   refine Ev.loop ?_
   simp only [qnZ,qfs]
   refine Ev.cf hc ?_
   exact Ev.pure _)
  (λ i x hx hd hc hg hi hP=>by
   refine Ev.loop ?_
   simp only [qnZ,qfs]
   refine Ev.ct hc (Ev.some hg ?_)
   rw [hd,List.find?_cons,hi]
   refine Ev.ite (λ h=>?_) λ h=>?_
   ·refine Ev.some hg (Ev.ret ?_)
    rw [show (x.1==n)=true from h];rfl
   ·rw [show (x.1==n)=false from h];exact hP)
 refine Ev.diag (L := λ m k=>qal m k n jm 0) ?_
 exact (key 0 (Nat.zero_le _)).res (by rw [<- qrc];rfl)
theorem qIL (t:T):Ev (λ m _=>qgV m t) (qlD jm t.name t.kids.length):=by
 refine Ev.succ ?_
 simp only [qx0,qfj]
 refine Ev.bind (a:=jm) (Ev.succ (Ev.pure _)) ?_
 have key:=qs (P := λ i=>Ev (λ m k=>qax m k jm i t.kind t.name t.sort t.kids) (qlD (jm.drop i) t.name t.kids.length)) jm (by decide)
  (λ hc=>by
   refine Ev.loop ?_
   simp only [qn2,qfu]
   refine Ev.cf hc ?_
   exact Ev.pure _)
  (λ i x hx hd hc hg hi hP=>by
   refine Ev.loop ?_
   simp only [qn2,qfu]
   refine Ev.ct hc (Ev.some hg ?_)
   rw [hd,qD4,hi]
   refine Ev.ite (λ h=>?_) λ h=>?_
   ·rw [if_pos (show (x.1==t.name)=true from h)]
    refine Ev.some hg ?_
    refine Ev.ite (λ h'=>?_) λ h'=>?_
    ·rw [qjc] at h'
     refine Ev.some hg (Ev.ret ?_)
     rw [decide_eq_true h'];rfl
    ·rw [qgx] at h'
     exact Ev.ret (by rw [decide_eq_false (by omega)];rfl)
   ·rw [if_neg (by rw [show (x.1==t.name)=false from h];decide)];exact hP)
 refine Ev.diag (L := λ m k=>qax m k jm 0 t.kind t.name t.sort t.kids) ?_
 exact key 0 (Nat.zero_le _)
theorem qDE (t:T) (hl:t.kids.length<2 ^ 62) (hpos:t.name=qgn->0<t.kids.length):Ev (λ m _=>qdY m t) (qjv t):=by
 refine Ev.succ ?_
 simp only [quA,qdb]
 unfold qjv
 refine Ev.ite (λ h=>?_) λ h=>?_
 ·rw [yT] at h
  rw [if_pos (show t.name=qgn from h)]
  refine Ev.some (qdl (hpos h)) (Ev.pure _)
 rw [jE] at h
 rw [if_neg (show ¬ t.name=qgn from h)]
 have key:=qs (P := λ i=>Ev (λ m k=>Jh m k i t.kind t.name t.sort t.kids) (agB (t.kids.drop i))) t.kids hl
  (λ hc=>by
   refine Ev.loop ?_
   simp only [qlm,qdh]
   refine Ev.cf hc ?_
   exact Ev.ret (by rw [List.drop_length];rfl))
  (λ i x hx hd hc hg hi hP=>by
   refine Ev.loop ?_
   simp only [qlm,qdh]
   refine Ev.ct hc (Ev.some hg ?_)
   rw [hd,qHz,hi]
   refine Ev.ite (λ h=>?_) λ h=>?_
   ·exact Ev.ret (by rw [show (x.kind==3)=true from h];rfl)
   rw [show (x.kind==3)=false from h]
   refine Ev.some hg ?_
   refine Ev.ite (λ h'=>?_) λ h'=>?_
   ·rw [bnt,qg] at h'
    exact Ev.ret (by rw [show (x.sort != 1)=true from bne_iff_ne.2 h'];rfl)
   ·rw [bnf,qj] at h'
    rw [show (x.sort != 1)=false by rw [h'];rfl]
    exact hP)
 refine Ev.diag (L := λ m k=>Jh m k 0 t.kind t.name t.sort t.kids) ?_
 exact (key 0 (Nat.zero_le _)).res (by rw [List.drop_zero])
theorem qDH (t:T):size t<=1000000000->Ev (λ m _=>yA m t) (zh t):=by
 induction t using T.ind with
 | h t ih =>
   intro hs
   refine Ev.succ ?_
   simp only [qwH,qem,qi]
   have hl:=yh t
   rw [qmt]
   refine Ev.ite (λ h=>?_) λ h3=>?_
   ·rw [bnt,qg] at h;exact Ev.ret (by rw [if_pos h])
   rw [bnf,qj] at h3
   rw [if_neg (show ¬ t.kind≠3 from λ hh=>hh h3),<- qFw t h3]
   have key:=qs (P := λ i=>Ev (λ m k=>QP m (yA m) k i t.kind t.name t.sort t.kids) (((t.kids.drop i).map zh).foldl thn 0)) t.kids (by omega)
    (λ hc=>by
     refine Ev.loop ?_
     simp only [qmd,qer]
     refine Ev.cf hc ?_
     exact Ev.ret (by simp))
    (λ i x hx hd hc hg hi hP=>by
     refine Ev.loop ?_
     simp only [qmd,qer,qi]
     have hm:=List.mem_of_getElem? hx
     have h1:=jg t x hm
     refine Ev.ct hc (Ev.some hg (Ev.bind (ih x hm (by omega)) ?_))
     rw [hd,List.map_cons,Qc,hi]
     refine Ev.ite (λ h=>?_) λ h=>?_
     ·rw [bnt,qg] at h;exact Ev.ret (by rw [qK _ h])
     ·rw [bnf,qj] at h;rw [h];exact hP)
   have fin:qsP t=0->Ev (λ m _=>QP m (yA m) m 0 t.kind t.name t.sort t.kids) ((t.kids.map zh).foldl thn (qsP t)) := λ h=>by
    rw [h]
    exact (Ev.diag (L := λ m k=>QP m (yA m) k 0 t.kind t.name t.sort t.kids) (key 0 (Nat.zero_le _))).res (by rw [List.drop_zero])
   unfold qsP at fin |-
   refine Ev.bind (qu4 t.name) ?_
   refine Ev.ite (λ h=>?_) λ h=>?_
   ·rw [qj] at h;rw [if_pos h];exact Ev.ret (by rw [qK _ (by decide)])
   rw [qg] at h
   rw [if_neg h] at fin |-
   refine Ev.bind (qIL t) ?_
   cases hf:qlD jm t.name t.kids.length with
   | false =>
     refine Ev.ct rfl ?_
     rw [if_pos rfl];exact Ev.ret (by rw [qK _ (by decide)])
   | true =>
     rw [hf,if_neg (by decide)] at fin
     rw [if_neg (by decide)]
     refine Ev.cf rfl ?_
     refine Ev.ite (λ h2=>?_) λ h2=>?_
     ·rw [qj] at h2
      refine Ev.bind (qDE t (by omega) λ hn=>?_) ?_
      ·obtain ⟨k1,k2,k3,k4,k5,k6,k7⟩:=qt1 h
       have h6:=k6 h2
       unfold qlD at hf
       rw [k1,k2,Bool.true_and,Bool.and_eq_true,decide_eq_true_iff] at hf
       omega
      cases ha:qjv t with
      | false =>
        refine Ev.ct rfl ?_
        rw [if_pos ⟨h2,rfl⟩]
        exact Ev.ret (by rw [qK _ (by decide)])
      | true =>
        rw [ha,if_neg (by rintro ⟨_,h⟩;cases h)] at fin
        rw [if_neg (by rintro ⟨_,h⟩;cases h)]
        exact Ev.cf rfl (fin rfl)
     ·rw [qg] at h2
      rw [if_neg (by rintro ⟨h,_⟩;exact h2 h)] at fin |-
      exact fin rfl
theorem qBn (t:T) (hs:size t<=1000000000):Ev (λ m _=>qc0 m t) (qc5 t):=by
 refine Ev.succ ?_
 simp only [qxl,qhn,qi]
 unfold qc5
 refine Ev.bind (qcf t hs) ?_
 refine Ev.ite (λ h=>?_) λ h=>?_
 ·rw [bnt,qg] at h;exact Ev.ret (by rw [Qj h])
 ·rw [bnf,qj] at h;rw [h];exact Ev.bind (qDH t hs) (Ev.pure _)
end Go.AmZ
namespace Go.GxZ
def Asc (l:List T):Prop:=l.Pairwise λ a b=>qp a b=-1
theorem yi {a:T}:qp a a≠-1:=by rw [qpd];decide
theorem qu0 {a b:T}:qp a b=1↔qp b a=-1:=by
 have:=zP.anti a b;omega
theorem qeF {a b c:T} (h1:qp a b=-1) (h2:qp b c=-1):qp a c=-1:=zP.trans a b c h1 h2
theorem qat {x:T} {l:List T}:Asc (x::l)↔(∀ y∈l,qp x y=-1)/\Asc l:=List.pairwise_cons
theorem qAO:∀ (l m:List T),Asc l->Asc m->(∀ x,x∈l↔x∈m)->l=m
 | [],[],_,_,_=>rfl
 | [],y::m,_,_,h=>absurd ((h y).2 (List.mem_cons_self ..)) (by simp)
 | x::l,[],_,_,h=>absurd ((h x).1 (List.mem_cons_self ..)) (by simp)
 | x::l,y::m,hl,hm,h=>by
   obtain ⟨hl1,hl2⟩:=qat.1 hl
   obtain ⟨hm1,hm2⟩:=qat.1 hm
   have hx:=(h x).1 (List.mem_cons_self ..)
   have hy:=(h y).2 (List.mem_cons_self ..)
   have e:x=y:=by
    rcases List.mem_cons.1 hx with e | hx
    ·exact e
    rcases List.mem_cons.1 hy with e | hy
    ·exact e.symm
    exact absurd (qeF (hl1 y hy) (hm1 x hx)) yi
   subst e
   rw [qAO l m hl2 hm2 λ z=>?_]
   constructor
   ·intro hz
    rcases List.mem_cons.1 ((h z).1 (List.mem_cons_of_mem _ hz)) with e | h'
    ·subst e;exact absurd (hl1 z hz) yi
    ·exact h'
   ·intro hz
    rcases List.mem_cons.1 ((h z).2 (List.mem_cons_of_mem _ hz)) with e | h'
    ·subst e;exact absurd (hm1 z hz) yi
    ·exact h'
theorem qsr (n:Nat):∀ (a b:List T),a.length+b.length<=n->Asc a->Asc b->Asc (zl a b)/\(∀ x,x∈zl a b↔¬(x∈a↔x∈b)):=by
 induction n with
 | zero =>
   intro a b h _ _
   obtain rfl:a=[]:=List.length_eq_zero_iff.1 (by omega)
   obtain rfl:b=[]:=List.length_eq_zero_iff.1 (by omega)
   rw [zl]
   exact ⟨List.Pairwise.nil,by simp⟩
 | succ n ih =>
   intro a b h ha hb
   match a,b with
   | [],b=>rw [zl];exact ⟨hb,by simp⟩
   | x::a,[]=>rw [zl];exact ⟨ha,by simp [Classical.or_iff_not_imp_left]⟩
   | x::a,y::b =>
     rw [zl]
     obtain ⟨ha1,ha2⟩:=qat.1 ha
     obtain ⟨hb1,hb2⟩:=qat.1 hb
     simp only [List.length_cons] at h
     by_cases h1:qp x y=-1
     ·rw [if_pos h1]
      obtain ⟨k1,k2⟩:=ih a (y::b) (by simp;omega) ha2 hb
      have hxn:x ∉ y::b:=by
       intro h
       rcases List.mem_cons.1 h with e | h
       ·subst e;exact yi h1
       ·exact yi (qeF h1 (hb1 x h))
      have hxa:x ∉ a := λ h=>yi (ha1 x h)
      refine ⟨qat.2 ⟨λ z hz=>?_,k1⟩,λ z=>?_⟩
      ·have:=(k2 z).1 hz
       by_cases hza:z∈a
       ·exact ha1 z hza
       ·have hzb:z∈y::b:=by
          by_cases hzb:z∈y::b
          ·exact hzb
          ·exact absurd ⟨λ h=>absurd h hza,λ h=>absurd h hzb⟩ this
        rcases List.mem_cons.1 hzb with e | h'
        ·rw [e];exact h1
        ·exact qeF h1 (hb1 z h')
      ·rw [List.mem_cons,k2,List.mem_cons (a:=z) (b:=x)]
       by_cases e:z=x
       ·subst e
        simp [hxn]
       ·simp [e]
     ·rw [if_neg h1]
      by_cases h2:qp x y=1
      ·rw [if_pos h2]
       have h3:=qu0.1 h2
       obtain ⟨k1,k2⟩:=ih (x::a) b (by simp;omega) ha hb2
       have hyn:y ∉ x::a:=by
        intro h
        rcases List.mem_cons.1 h with e | h
        ·subst e;exact yi h3
        ·exact yi (qeF h3 (ha1 y h))
       have hyb:y ∉ b := λ h=>yi (hb1 y h)
       refine ⟨qat.2 ⟨λ z hz=>?_,k1⟩,λ z=>?_⟩
       ·have:=(k2 z).1 hz
        by_cases hzb:z∈b
        ·exact hb1 z hzb
        ·have hza:z∈x::a:=by
           by_cases hza:z∈x::a
           ·exact hza
           ·exact absurd ⟨λ h=>absurd h hza,λ h=>absurd h hzb⟩ this
         rcases List.mem_cons.1 hza with e | h'
         ·rw [e];exact h3
         ·exact qeF h3 (ha1 z h')
       ·rw [List.mem_cons,k2,List.mem_cons (a:=z) (b:=y)]
        by_cases e:z=y
        ·subst e
         simp [hyn]
        ·simp [e]
      ·rw [if_neg h2]
       have h3:qp x y=0:=by have:=zP.rng x y;omega
       have e:=qah x y h3
       subst e
       obtain ⟨k1,k2⟩:=ih a b (by omega) ha2 hb2
       refine ⟨k1,λ z=>?_⟩
       rw [k2,List.mem_cons,List.mem_cons]
       by_cases e:z=x
       ·subst e
        have:z ∉ a := λ h=>yi (ha1 z h)
        have:z ∉ b := λ h=>yi (hb1 z h)
        simp [*]
       ·simp [e]
theorem qvT {a b:List T} (ha:Asc a) (hb:Asc b):Asc (zl a b):=(qsr _ a b (Nat.le_refl _) ha hb).1
theorem qEj {a b:List T} (ha:Asc a) (hb:Asc b) (x:T):x∈zl a b↔¬(x∈a↔x∈b):=(qsr _ a b (Nat.le_refl _) ha hb).2 x
theorem qgj:∀ (ls:List (List T)) (a:List T),Asc a->(∀ l∈ls,Asc l)->Asc (ls.foldl zl a)
 | [],_,h,_=>h
 | l::ls,a,h,k=>qgj ls _ (qvT h (k l (List.mem_cons_self ..))) λ m hm=>k m (List.mem_cons_of_mem _ hm)
theorem qlv (t:T):Asc (jJ t):=by
 refine T.ind (P := λ t=>Asc (jJ t)) ?_ t
 intro t ih
 rw [qjM]
 split
 ·exact List.Pairwise.nil
 ·split
  ·exact qgj _ _ List.Pairwise.nil λ l hl=>by
    obtain ⟨k,hk,rfl⟩:=List.mem_map.1 hl
    exact ih k hk
  ·exact List.pairwise_singleton _ _
noncomputable def Je (t:T) (s:List T × Bool) (x:T):List T × Bool :=
 if s.2=false/\qp t x<=0 then (s.1++(if qp t x<0 then [t] else [])++[x],true) else (s.1++[x],s.2)
noncomputable def qvs (l:List T) (t:T):List T:=if (l.foldl (Je t) ([],false)).2 then (l.foldl (Je t) ([],false)).1 else (l.foldl (Je t) ([],false)).1++[t]
noncomputable def qhH (l:List T) (t:T):List T:=if l.any (λ x=>yX x t) then l.filter (λ x => !yX x t) else qvs l t
noncomputable def qjk (a b:List T):List T:=b.foldl qhH a
theorem qwx (t:T):∀ (l out:List T),l.foldl (Je t) (out,true)=(out++l,true)
 | [],out=>by simp
 | x::l,out=>by
   have e:Je t (out,true) x=(out++[x],true):=by simp [Je]
   rw [List.foldl_cons,e,qwx t l]
   simp
noncomputable def Qz:List T->T->List T
 | [],t=>[t]
 | x::l,t=>if qp t x<0 then t::x::l else if qp t x=0 then x::l else x::Qz l t
theorem qsq (t:T):∀ (l out:List T),(if (l.foldl (Je t) (out,false)).2 then (l.foldl (Je t) (out,false)).1 else (l.foldl (Je t) (out,false)).1++[t])=out++Qz l t
 | [],out=>by simp [Qz]
 | x::l,out=>by
   rw [List.foldl_cons]
   by_cases h:qp t x<=0
   ·have e:Je t (out,false) x=(out++(if qp t x<0 then [t] else [])++[x],true):=by simp [Je,h]
    rw [e,qwx,Qz]
    by_cases h0:qp t x<0
    ·simp [h0]
    ·have:qp t x=0:=by omega
     simp [this]
   ·have e:Je t (out,false) x=(out++[x],false):=by simp [Je,h]
    rw [e,qsq t l,Qz,if_neg (by omega),if_neg (by omega)]
    simp
theorem qqP (l:List T) (t:T):qvs l t=Qz l t:=by
 have:=qsq t l []
 simpa [qvs] using this
theorem qr4 (t:T):∀ (l:List T) (x:T),x∈Qz l t↔x∈l\/x=t
 | [],x=>by simp [Qz]
 | y::l,x=>by
   rw [Qz]
   split
   ·simp only [List.mem_cons]
    constructor
    ·rintro (h | h | h)<;>simp [h]
    ·rintro ((h | h) | h)<;>simp [h]
   ·split
    ·rename_i h
     have:=qah t y h
     subst this
     simp only [List.mem_cons]
     constructor
     ·rintro (h | h)<;>simp [h]
     ·rintro ((h | h) | h)<;>simp [h]
    ·rw [List.mem_cons,qr4 t l x,List.mem_cons]
     constructor
     ·rintro (h | h | h)<;>simp [h]
     ·rintro ((h | h) | h)<;>simp [h]
theorem qyt (t:T):∀ (l:List T),Asc l->Asc (Qz l t)
 | [],_=>List.pairwise_singleton _ _
 | y::l,h=>by
   obtain ⟨h1,h2⟩:=qat.1 h
   rw [Qz]
   have hr:=zP.rng t y
   split
   ·have hlt:qp t y=-1:=by omega
    refine qat.2 ⟨λ z hz=>?_,h⟩
    rcases List.mem_cons.1 hz with e | hz
    ·rw [e];exact hlt
    ·exact qeF hlt (h1 z hz)
   ·split
    ·exact h
    ·refine qat.2 ⟨λ z hz=>?_,qyt t l h2⟩
     rcases (qr4 t l z).1 hz with hz | e
     ·exact h1 z hz
     ·rw [e];exact qu0.1 (by omega)
theorem qcj {a b:T}:yX a b=true↔a=b:=by unfold yX;exact decide_eq_true_iff
theorem qEG {l:List T} (h:Asc l) (t:T):Asc (qhH l t)/\∀ x,x∈qhH l t↔¬(x∈l↔x=t):=by
 unfold qhH
 by_cases hm:t∈l
 ·have h1:(l.any λ x=>yX x t)=true:=List.any_eq_true.2 ⟨t,hm,qcj.2 rfl⟩
  rw [if_pos h1]
  refine ⟨List.Pairwise.filter _ h,λ x=>?_⟩
  rw [List.mem_filter]
  by_cases e:x=t
  ·subst e
   simp [hm,qcj.2 rfl]
  ·have:yX x t=false:=by
     cases hh:yX x t
     ·rfl
     ·exact absurd (qcj.1 hh) e
   simp [e,this]
 ·rw [if_neg (λ hh=>by
    obtain ⟨x,hx,he⟩:=List.any_eq_true.1 hh
    exact hm (by rw [<- qcj.1 he];exact hx)),qqP]
  refine ⟨qyt t l h,λ x=>?_⟩
  rw [qr4]
  by_cases e:x=t
  ·subst e;simp [hm]
  ·simp [e]
theorem qmZ:∀ (b a:List T),Asc a->Asc b->Asc (qjk a b)/\∀ x,x∈qjk a b↔¬(x∈a↔x∈b)
 | [],a,ha,_=>⟨ha,λ x=>by simp [qjk]⟩
 | y::b,a,ha,hb=>by
   obtain ⟨hb1,hb2⟩:=qat.1 hb
   obtain ⟨k1,k2⟩:=qEG ha y
   obtain ⟨m1,m2⟩:=qmZ b (qhH a y) k1 hb2
   refine ⟨m1,λ x=>?_⟩
   rw [show qjk a (y::b)=qjk (qhH a y) b from rfl,m2,k2,List.mem_cons]
   by_cases e:x=y
   ·subst e
    have:x ∉ b := λ h=>yi (hb1 x h)
    by_cases hx:x∈a<;>simp [this,hx]
   ·by_cases hx:x∈a<;>by_cases hy:x∈b<;>simp [e,hx,hy]
theorem qyf {a b:List T} (ha:Asc a) (hb:Asc b):qjk a b=zl a b :=
 qAO _ _ (qmZ b a ha hb).1 (qvT ha hb) λ x=>by rw [(qmZ b a ha hb).2,qEj ha hb]
end Go.GxZ
namespace Go.AmZ
open Go Go.GxZ Go.Lib
noncomputable def szL (l:List T):Nat:=(l.map size).sum
theorem qN (x:T) (l:List T):szL (x::l)=size x+szL l:=by simp [szL]
theorem qhx (a b:List T):szL (a++b)=szL a+szL b:=by simp [szL]
theorem jn:∀ l:List T,l.length<=szL l
 | []=>Nat.zero_le _
 | x::l=>by
   have:=jn l
   have:=size_pos x
   rw [qN,List.length_cons];omega
theorem qca {l:List T} {x:T} (h:x∈l):size x<=szL l:=qi4 l x h
theorem qnx:∀ (n:Nat) (a b:List T),a.length+b.length<=n->szL (zl a b)<=szL a+szL b
 | _,[],b,_=>by rw [zl];omega
 | _,x::a,[],_=>by rw [zl];omega
 | 0,x::a,y::b,h=>by simp at h
 | n+1,x::a,y::b,h=>by
   simp only [List.length_cons] at h
   rw [zl]
   split
   ·have:=qnx n a (y::b) (by simp;omega)
    rw [qN,qN];omega
   ·split
    ·have:=qnx n (x::a) b (by simp;omega)
     rw [qN y,qN y];omega
    ·have:=qnx n a b (by omega)
     rw [qN,qN];omega
theorem qqI:∀ (ls:List (List T)) (a:List T),szL (ls.foldl zl a)<=szL a+(ls.map szL).sum
 | [],_=>by simp
 | l::ls,a=>by
   have h1:=qqI ls (zl a l)
   have h2:=qnx _ a l (Nat.le_refl _)
   simp only [List.foldl_cons,List.map_cons,List.sum_cons]
   omega
theorem qsK (f g:T->Nat):∀ l:List T,(∀ k∈l,f k<=g k)->(l.map f).sum<=(l.map g).sum
 | [],_=>Nat.le_refl _
 | x::l,h=>by
   have h1:=h x (List.mem_cons_self ..)
   have h2:=qsK f g l λ k hk=>h k (List.mem_cons_of_mem _ hk)
   simp only [List.map_cons,List.sum_cons];omega
theorem qyR (l:List T) (h:∀ k∈l,szL (jJ k)<=size k):szL ((l.map jJ).foldl zl [])<=szL l:=by
 refine Nat.le_trans (qqI _ _) ?_
 rw [List.map_map]
 have:=qsK (szL ∘ jJ) size l h
 show 0+_<=(l.map size).sum
 omega
theorem qjW (t:T):szL (jJ t)<=size t:=by
 refine T.ind (P := λ t=>szL (jJ t)<=size t) ?_ t
 intro t ih
 rw [qjM]
 split
 ·exact Nat.zero_le _
 ·split
  ·have:=qyR t.kids ih
   have:=qX t
   unfold szL at *;omega
  ·show szL [t]<=_
   rw [qN];exact Nat.le_refl _
theorem qdO (l:List T):szL (zL l)<=szL l:=qyR l λ k _=>qjW k
theorem qmU (x:T) (l:List T):qfO (x::l) 1 (((x::l).length:Nat):Int)=l:=by
 unfold qfO
 rw [Int.toNat_natCast,List.take_length];rfl
theorem qmV (n:Nat):inb (n:Int) n=true:=by unfold inb;rw [decide_eq_true_iff];omega
theorem qpM (x:T) (l:List T):inb 1 (Int.toNat (((x::l).length:Nat):Int))=true:=by
 unfold inb;rw [decide_eq_true_iff,Int.toNat_natCast,List.length_cons];omega
theorem qx9 (x:T) (l:List T):ilt 0 (((x::l).length:Nat):Int)=true:=by rw [qy,List.length_cons];omega
theorem qCu:∀ (n:Nat) (a b acc:List T),a.length+b.length<=n->szL acc+szL a+szL b<=1000000000->Ev (λ m k=>qcv m k a b acc) (acc++zl a b):=by
 intro n
 induction n with
 | zero =>
   intro a b acc hn hs
   have:a=[]:=List.eq_nil_of_length_eq_zero (by omega)
   subst this
   have:b=[]:=List.eq_nil_of_length_eq_zero (by omega)
   subst this
   refine Ev.loop ?_
   simp only [qqz,qhW]
   have:=jn acc
   exact Ev.cf rfl (Ev.ct (q9 (by simp only [List.length_nil];omega) (by omega)) (Ev.ct (q9 (by simp only [List.length_nil,List.append_nil];omega) (by omega)) (Ev.ret (by rw [zl];simp))))
 | succ n ih =>
   intro a b acc hn hs
   refine Ev.loop ?_
   simp only [qqz,qhW,qi]
   have h1:=jn acc
   have h2:=jn a
   have h3:=jn b
   cases a with
   | nil =>
     refine Ev.cf rfl (Ev.ct (q9 (by simp only [List.length_nil];omega) (by omega)) (Ev.ct (q9 (by simp only [List.append_nil];omega) (by omega)) (Ev.ret (by rw [zl];simp))))
   | cons x a =>
     refine Ev.ct (qx9 x a) ?_
     cases b with
     | nil =>
       refine Ev.cf rfl (Ev.ct (q9 (by omega) (by omega)) (Ev.ct (q9 (by rw [List.length_append];simp only [List.length_nil];omega) (by omega)) (Ev.ret (by rw [zl];simp))))
     | cons y b =>
       rw [qN,qN] at hs
       refine Ev.ct (qx9 y b) (Ev.some (JA _) (Ev.some (JA _) (Ev.bind (qcW x (by omega) y (by omega)) ?_)))
       rw [zl]
       simp only [List.length_cons] at hn h2 h3
       rw [qN] at h2 h3
       refine Ev.ite (λ hc=>?_) λ hc=>?_
       ·rw [qy] at hc
        have hc:qp x y=-1:=by rcases zP.rng x y with h | h | h<;>omega
        rw [if_pos hc]
        refine Ev.some (JA _) (Ev.ct (q9 (by omega) (by omega)) (Ev.ct (qmV _) (Ev.ct (qpM x a) ?_)))
        rw [qmU]
        refine (ih a (y::b) (acc++[x]) (by simp only [List.length_cons];omega) (by rw [qhx,qN,qN];show szL acc+(size x+0)+_+_<=_;omega)).res (by simp)
       ·rw [qx] at hc
        rw [if_neg (by omega)]
        refine Ev.ite (λ hd=>?_) λ hd=>?_
        ·rw [qy] at hd
         have hd:qp x y=1:=by rcases zP.rng x y with h | h | h<;>omega
         rw [if_pos hd]
         refine Ev.some (JA _) (Ev.ct (q9 (by omega) (by omega)) (Ev.ct (qmV _) (Ev.ct (qpM y b) ?_)))
         rw [qmU]
         refine (ih (x::a) b (acc++[y]) (by simp only [List.length_cons];omega) (by rw [qhx,qN,qN];show szL acc+(size y+0)+_+_<=_;omega)).res (by simp)
        ·rw [qx] at hd
         rw [if_neg (by omega)]
         refine Ev.ct (qmV _) (Ev.ct (qpM x a) (Ev.ct (qmV _) (Ev.ct (qpM y b) ?_)))
         rw [qmU,qmU]
         exact ih a b acc (by omega) (by omega)
theorem qxJ (a b:List T) (hs:szL a+szL b<=1000000000):Ev (λ m _=>qht m a b) (zl a b):=by
 refine Ev.succ ?_
 simp only [qDq,qhQ]
 refine Ev.diag (L := λ m k=>qcv m k a b []) ?_
 exact qCu _ a b [] (Nat.le_refl _) (by show 0+_+_<=_;omega)
theorem qAp (l:List T) (i:Nat):szL (l.take i)<=szL l:=by
 have:=congrArg szL (List.take_append_drop i l)
 rw [qhx] at this;omega
theorem j7 {l:List T} {i:Nat} {x:T} (h:l[i]? = some x):szL (l.take i)+size x<=szL l:=by
 have h1:l.take (i+1)=l.take i++[x]:=by rw [List.take_add_one,h];rfl
 have h2:=qAp l (i+1)
 rw [h1,qhx,qN] at h2
 have:szL ([]:List T)=0:=rfl
 omega
theorem qi6 {l:List T} {i:Nat} {x:T} (h:l[i]? = some x):((l.take (i+1)).map jJ).foldl zl []=zl (((l.take i).map jJ).foldl zl []) (jJ x):=by
 rw [List.take_add_one,h,List.map_append,List.foldl_append];rfl
theorem qGl (t:T):size t<=1000000000->Ev (λ m _=>zX m t) (jJ t):=by
 induction t using T.ind with
 | h t ih =>
   intro hs
   have hl:=yh t
   have hz:=qX t
   refine Ev.succ ?_
   simp only [quX,qdc,qi]
   have key:=qs (P := λ i=>Ev (λ m k=>Qk m (zX m) k (((t.kids.take i).map jJ).foldl zl []) t.kids t.kids.length i) ((t.kids.map jJ).foldl zl [])) t.kids (by omega)
    (λ hc=>by
     refine Ev.loop ?_
     simp only [qlf,qdm]
     refine Ev.cf hc ?_
     rw [List.take_length]
     exact Ev.pure _)
    (λ i x hx hd hc hg hi hP=>by
     refine Ev.loop ?_
     simp only [qlf,qdm,qi]
     have hm:=List.mem_of_getElem? hx
     have h1:=jg t x hm
     have h2:=qdO (t.kids.take i)
     have h3:=j7 hx
     have h4:=qjW x
     refine Ev.ct hc (Ev.some hg (Ev.bind (ih x hm (by omega)) (Ev.bind (qxJ _ _ ?_) ?_)))
     ·unfold zL at h2;unfold szL at *;omega
     ·rw [hi]
      refine hP.congr λ m k=>?_
      rw [qi6 hx])
   have main:Ev (λ m _=>Qk m (zX m) m [] t.kids t.kids.length 0) ((t.kids.map jJ).foldl zl []) :=
    Ev.diag (L := λ m k=>Qk m (zX m) k [] t.kids t.kids.length 0) (key 0 (Nat.zero_le _))
   rw [qjM]
   by_cases h3:t.kind=3
   ·have hk:ieq t.kind 3=true:=qj.2 h3
    refine Ev.ct hk ?_
    refine Ev.ite (λ hn=>?_) λ hn=>?_
    ·rw [yT] at hn
     have hnz:isN t qbF=true:=yC.2 ⟨h3,hn⟩
     have hnx:isN t qb1=false:=by
      rw [<- Bool.not_eq_true,yC];rintro ⟨_,h⟩;rw [hn] at h;exact absurd h (by decide)
     refine Ev.ite (λ he=>?_) λ he=>?_
     ·rw [qj] at he
      have he:t.kids=[]:=List.eq_nil_of_length_eq_zero (by omega)
      rw [hnz,he]
      exact Ev.pure _
     ·rw [qg] at he
      have he:t.kids.isEmpty=false:=by
       cases hh:t.kids with
       | nil=>rw [hh] at he;exact absurd rfl he
       | cons _ _=>rfl
      rw [hnz,he,hnx]
      exact Ev.ct hk (Ev.cf (by rw [hn];rfl) (Ev.pure _))
    ·have hn':=jE.1 hn
     have hnz:isN t qbF=false:=by
      rw [<- Bool.not_eq_true,yC];rintro ⟨_,h⟩;exact hn' h
     rw [hnz]
     refine Ev.ct hk (Ev.ite (λ hx=>?_) λ hx=>?_)
     ·rw [show isN t qb1=true from yC.2 ⟨h3,yT.1 hx⟩]
      exact main
     ·have hnx:isN t qb1=false:=by
        rw [<- Bool.not_eq_true,yC];rintro ⟨_,h⟩;exact jE.1 hx h
      rw [hnx]
      exact Ev.pure _
   ·have hk:ieq t.kind 3=false:=qg.2 h3
    have hnn:∀ n,isN t n=false := λ n=>by
     rw [<- Bool.not_eq_true,yC];rintro ⟨h,_⟩;exact h3 h
    rw [hnn,hnn]
    exact Ev.cf hk (Ev.cf hk (Ev.pure _))
end Go.AmZ
namespace Go.AmZ
open Go Go.GxZ
theorem qET (ls:List (List T)) (hn:ls.length<1000) (h:(ls.map List.length).sum<=100000000):Ev (λ m _=>zi m ls) ls.flatten:=by
 have hfl:∀ l:List (List T),l.flatten.length=(l.map List.length).sum := λ l=>List.length_flatten
 have k2:=qs (P := λ i=>Ev (λ m k=>(qm m k).2 ls ls.length i (ls.take i).flatten) ls.flatten) ls (by omega)
  (λ hc=>by
   refine Ev.loop ?_
   simp only [J2,yO]
   refine Ev.cf hc ?_
   rw [List.take_length]
   exact Ev.pure _)
  (λ i x hx hd hc hg hi hP=>by
   refine Ev.loop ?_
   simp only [J2,yO]
   have ht:ls.take (i+1)=ls.take i++[x]:=by rw [List.take_add_one,hx];rfl
   have hs:((ls.take (i+1)).map List.length).sum<=(ls.map List.length).sum:=by
    have:=congrArg (λ l=>(l.map List.length).sum) (List.take_append_drop (i+1) ls)
    simp only [List.map_append,List.sum_append] at this
    omega
   rw [ht] at hs
   simp only [List.map_append,List.sum_append,List.map_cons,List.map_nil,List.sum_cons,List.sum_nil] at hs
   refine Ev.ct hc (Ev.some hg (Ev.ct (q9 ?_ (by omega)) ?_))
   ·rw [hfl];omega
   ·rw [hi]
    refine hP.congr λ m k=>?_
    rw [ht,List.flatten_append];simp)
 have k1:=qs (P := λ i=>∀ n:Nat,n+((ls.drop i).map List.length).sum<=100000000->Ev (λ m k=>(qm m k).1 ls n ls ls.length i) ls.flatten) ls (by omega)
  (λ hc n hn=>by
   refine Ev.loop ?_
   simp only [J3,yP]
   refine Ev.cf hc (Ev.some (a:=((),[],())) ?_ (k2 0 (Nat.zero_le _)))
   unfold yE
   rw [show inb (n:Int) 100000000=true from by unfold inb;rw [decide_eq_true_iff];omega]
   rfl)
  (λ i x hx hd hc hg hi hP n hn=>by
   refine Ev.loop ?_
   simp only [J3,yP]
   rw [hd,List.map_cons,List.sum_cons] at hn
   refine Ev.ct hc (Ev.some hg ?_)
   rw [qnp,QC (by omega)]
   refine Ev.cf (qx.2 (by omega)) ?_
   rw [hi]
   exact hP (n+x.length) (by omega))
 refine Ev.succ ?_
 simp only [qfd,yK]
 refine Ev.diag (L := λ m k=>(qm m k).1 ls 0 ls ls.length 0) ?_
 exact k1 0 (Nat.zero_le _) 0 (by rw [List.drop_zero];omega)
theorem qs3 (a b:List T) (h:a.length+b.length<=100000000):Ev (λ m _=>zi m [a,b]) (a++b) :=
 (qET [a,b] (by simp) (by simpa using h)).res (by simp)
theorem qow {f:T->Int} {l:List T} {i:Nat} {x:T} (h:l.drop i=x::l.drop (i+1)):((l.drop i).map f).foldl thn 0=if f x≠0 then f x else ((l.drop (i+1)).map f).foldl thn 0:=by
 rw [h,List.map_cons]
 by_cases hx:f x=0
 ·rw [if_neg (by simpa using hx),hx];rfl
 ·rw [if_pos hx]
  exact qK _ hx
theorem qFQ (l:List T) (hs:szL l<=100000000):Ev (λ m _=>qie m l []) (ql7 l):=by
 have hl:=jn l
 refine Ev.succ ?_
 simp only [qAa,qgg]
 unfold ql7
 refine Ev.ite (λ h=>?_) λ h=>?_
 ·rw [qy] at h
  rw [if_pos (by omega)]
  exact Ev.pure _
 ·rw [qx] at h
  rw [if_neg (by omega)]
  refine Ev.bind (qs3 l [] (by simp only [List.length_nil];omega)) ?_
  rw [List.append_nil]
  have key:=qs (P := λ i=>Ev (λ m k=>qbm m k l l.length i) (((l.drop i).map qT).foldl thn 0)) l (by omega)
   (λ hc=>by
    refine Ev.loop ?_
    simp only [qoJ,qgy]
    refine Ev.cf hc ?_
    rw [List.drop_length]
    exact Ev.pure _)
   (λ i x hx hd hc hg hi hP=>by
    refine Ev.loop ?_
    simp only [qoJ,qgy,qi]
    have h1:=qca (List.mem_of_getElem? hx)
    rw [qow hd]
    refine Ev.ct hc (Ev.some hg (Ev.bind (qdy x (by omega)) (Ev.ite (λ hv=>?_) λ hv=>?_)))
    ·rw [bnt,qg] at hv
     rw [if_pos hv]
     exact Ev.pure _
    ·rw [bnf,qj] at hv
     rw [if_neg (by omega),hi]
     exact hP)
  refine Ev.diag (L := λ m k=>qbm m k l l.length 0) ?_
  exact (key 0 (Nat.zero_le _)).res (by rw [List.drop_zero])
theorem qC5 (t:T) (hs:size t<=1000000000):Ev (λ m _=>qdK m t [] t) (t,0):=by
 refine Ev.succ ?_
 simp only [qu8,qdo,qi]
 refine Ev.bind (qqU t hs) ?_
 refine Ev.diag (L := λ m k=>qak m k [] ([]:List Int).length 0 t.kind t.name t.sort t.kids 0 [] 0 t.kind t.name t.sort t.kids []) (Ev.loop ?_)
 simp only [qsk,qgi,qi]
 refine Ev.cf rfl ?_
 rw [show T.mk t.kind t.name t.sort t.kids=t from qi t]
 exact Ev.bind (qqU t hs) (Ev.pure _)
def qdH (l:List T) (i:Nat):List T:=l.take i++List.replicate (l.length-i) zT
theorem qHp {l:List T} {i:Nat} (h:i<l.length):(qdH l i)[i]? = some zT:=by
 unfold qdH
 rw [List.getElem?_append_right (by rw [List.length_take];omega),List.length_take,List.getElem?_replicate,if_pos (by omega)]
theorem qrB {l:List T} {i:Nat} {x:T} (h:l[i]? = some x):(qdH l i).set i x=qdH l (i+1):=by
 have hi:=(List.getElem?_eq_some_iff.1 h).1
 unfold qdH
 have h1:l.take (i+1)=l.take i++[x]:=by rw [List.take_add_one,h];rfl
 have h2:List.replicate (l.length-i) zT=zT::List.replicate (l.length-(i+1)) zT:=by
  rw [show l.length-i=(l.length-(i+1))+1 by omega,List.replicate_succ]
 rw [h1,h2,List.set_append_right _ _ (by rw [List.length_take];omega),List.length_take,show i-min i l.length=0 by omega,List.set_cons_zero,List.append_assoc];rfl
theorem qD8 {l:List T} {i:Nat} {x:T} (h:l[i]? = some x):(qdH l (i+1)).set i x=qdH l (i+1):=by
 rw [<- qrB h,List.set_set]
theorem qFg {l:List T} {i:Nat} {x:T} (h:l[i]? = some x):(qdH l (i+1))[i]? = some x:=by
 have hi:=(List.getElem?_eq_some_iff.1 h).1
 rw [<- qrB h,List.getElem?_set_self (by unfold qdH;rw [List.length_append,List.length_take,List.length_replicate];omega)]
theorem qdX {α : Type} (l:List α) (i:Nat) (v : α):y8 l (i:Int) v=l.set i v:=by
 unfold y8
 rw [if_pos (by omega),Int.toNat_natCast]
theorem qHW:∀ (n:Nat) (l:List T),szL l<=n->n<=1000000->Ev (λ m _=>Jj m l) l:=by
 intro n
 induction n using Nat.strongRecOn with
 | _ n ih =>
 intro l hs hn
 have hl:=jn l
 refine Ev.succ ?_
 simp only [qEz,qiZ]
 have key:=qs (P := λ i=>Ev (λ m k=>qdx m (Jj m) k l l.length i (qdH l i)) l) l (by omega)
  (λ hc=>by
   refine Ev.loop ?_
   simp only [qsI,qi8]
   refine Ev.cf hc ?_
   exact Ev.ret (by unfold qdH;rw [List.take_length,Nat.sub_self];simp))
  (λ i x hx hd hc hg hi hP=>by
   refine Ev.loop ?_
   simp only [qsI,qi8,qi]
   have h1:=qca (List.mem_of_getElem? hx)
   have h2:=qX x
   have hib:=(List.getElem?_eq_some_iff.1 hx).1
   have e:y8 (qdH l i) i x=qdH l (i+1):=by rw [qdX,qrB hx]
   have e2:y8 (qdH l (i+1)) i x=qdH l (i+1):=by rw [qdX,qD8 hx]
   have g:qc (qdH l (i+1)) i=some x:=by rw [jq,qFg hx]
   refine Ev.ct hc (Ev.some hg (Ev.bind (qC5 x (by omega)) (Ev.some (a:=zT) (by rw [jq,qHp hib]) (Ev.bind (ih (szL x.kids) (by unfold szL at *;omega) x.kids (Nat.le_refl _) (by unfold szL at *;omega)) ?_))))
   rw [e]
   refine Ev.some g ?_
   rw [show T.mk x.kind x.name x.sort x.kids=x from qi x,e2,hi]
   refine Ev.ite (λ hk=>?_) λ hk=>hP
   rw [qj] at hk
   have hk:x.kids=[]:=List.eq_nil_of_length_eq_zero (by omega)
   refine Ev.some g ?_
   rw [show T.mk x.kind x.name x.sort []=x from by rw [<- hk];exact qi x,e2]
   exact hP)
 refine Ev.ct (by unfold qCv;rw [decide_eq_true_iff,Int.toNat_natCast];omega) ?_
 refine Ev.diag (L := λ m k=>qdx m (Jj m) k l l.length 0 (List.replicate (Int.toNat (l.length:Int)) (T.mk 0 [] 0 []))) ?_
 refine (key 0 (Nat.zero_le _)).congr λ m k=>?_
 unfold qdH
 rw [List.take_zero,Int.toNat_natCast];rfl
theorem qIf (l:List T) (hs:szL l<=900000):Ev (λ m _=>qmu m l) (qnB l):=by
 have hl:=jn l
 refine Ev.succ ?_
 simp only [qDN,qi9]
 unfold qnB
 refine Ev.bind (qFQ l (by omega)) (Ev.ite (λ h=>?_) λ h=>?_)
 ·rw [bnt,qg] at h
  rw [if_pos h]
  exact Ev.pure _
 ·rw [bnf,qj] at h
  rw [if_neg (by omega)]
  have key:=qs (P := λ i=>Ev (λ m k=>qd2 m k (((l.take i).map jJ).foldl zl []) l l.length i 0 [] 0 []) (if qT (JR (zL l))≠0 then (zT,3) else (JR (zL l),0))) l (by omega)
   (λ hc=>by
    refine Ev.loop ?_
    simp only [qsU,qjf,qi]
    refine Ev.cf hc ?_
    rw [List.take_length]
    have h1:=qdO l
    show Ev (λ m k=>qa (Jj m (zL l)) _) _
    have h2:=jn (zL l)
    have fin:∀ u:T,u=JR (zL l)->Ev (λ m _=>qa (ya m u) λ v=>cond (qe (ieq v 0)) (some (T.mk 0 [] 0 [],(3:Int))) (some (u,0))) (if qT (JR (zL l))≠0 then (zT,3) else (JR (zL l),0)):=by
     intro u hu
     have hz:size (JR (zL l))<=1+szL (zL l):=by
      unfold JR
      split
      ·rw [qX];show 1+0<=_;omega
      ·split
       ·rename_i _ h1l
        have:(zL l).getD 0 zT∈zL l:=by
         cases hh:zL l with
         | nil=>rw [hh] at h1l;cases h1l
         | cons x r=>exact List.mem_cons_self ..
        have:=qca this;omega
       ·rw [qX];exact Nat.le_refl _
     subst hu
     refine Ev.bind (qdy _ (by omega)) (Ev.ite (λ h=>?_) λ h=>?_)
     ·rw [bnt,qg] at h
      rw [if_pos h];exact Ev.pure _
     ·rw [bnf,qj] at h
      rw [if_neg (by omega)];exact Ev.pure _
    refine Ev.bind (qHW _ (zL l) (Nat.le_refl _) (by omega)) (Ev.ite (λ h0=>?_) λ h0=>?_)
    ·rw [qj] at h0
     exact fin _ (by unfold JR;rw [if_pos (by omega)];rfl)
    ·rw [qg] at h0
     refine Ev.ite (λ h1=>?_) λ h1=>?_
     ·rw [qj] at h1
      refine Ev.some (a:=(zL l).getD 0 zT) ?_ (fin _ (by unfold JR;rw [if_neg (by omega),if_pos (by omega)]))
      rw [JA,List.getD_eq_getElem?_getD]
      cases hh:zL l with
      | nil=>rw [hh] at h1;simp at h1
      | cons x r=>rfl
     ·rw [qg] at h1
      exact fin _ (by unfold JR;rw [if_neg (by omega),if_neg (by omega)];rfl))
   (λ i x hx hd hc hg hi hP=>by
    refine Ev.loop ?_
    simp only [qsU,qjf,qi]
    have hm:=List.mem_of_getElem? hx
    have h1:=qca hm
    have h2:=qdO (l.take i)
    have h3:=j7 hx
    have h4:=qjW x
    refine Ev.ct hc (Ev.some hg (Ev.bind (qGl x (by omega)) (Ev.bind (qxJ _ _ ?_) ?_)))
    ·unfold zL at h2;omega
    ·rw [hi]
     refine hP.congr λ m k=>?_
     rw [qi6 hx])
  refine Ev.diag (L := λ m k=>qd2 m k [] l l.length 0 0 [] 0 []) ?_
  exact key 0 (Nat.zero_le _)
end Go.AmZ
namespace Go.AmZ
open Go Go.GxZ
theorem qJN (l:List T) (t:T) (hs:szL l+size t<=1000000000):Ev (λ m _=>qh8 m l t) (l.any λ x=>yX x t):=by
 have hl:=jn l
 refine Ev.succ ?_
 simp only [qAf,qgt]
 have key:=qs (P := λ i=>Ev (λ m k=>qbw m k l i t.kind t.name t.sort t.kids) ((l.drop i).any λ x=>yX x t)) l (by omega)
  (λ hc=>by
   refine Ev.loop ?_
   simp only [qpe,qgO]
   refine Ev.cf hc (Ev.ret ?_)
   rw [List.drop_length];rfl)
  (λ i x hx hd hc hg hi hP=>by
   refine Ev.loop ?_
   simp only [qpe,qgO,qi]
   have h1:=qca (List.mem_of_getElem? hx)
   rw [hd,List.any_cons,show T.mk t.kind t.name t.sort t.kids=t from qi t]
   refine Ev.ct hc (Ev.some hg (Ev.bind (qhg x t (by omega) (by omega)) (Ev.ite (λ h=>?_) λ h=>?_)))
   ·rw [h];exact Ev.pure _
   ·rw [h,hi];exact hP)
 refine Ev.diag (L := λ m k=>qbw m k l 0 t.kind t.name t.sort t.kids) ?_
 exact (key 0 (Nat.zero_le _)).res (by rw [List.drop_zero])
theorem qyk (t:T):∀ (l:List T) (s:List T × Bool),(l.foldl (Je t) s).1.length<=s.1.length+2*l.length
 | [],s=>by simp
 | x::l,s=>by
   have h:=qyk t l (Je t s x)
   have:(Je t s x).1.length<=s.1.length+2:=by
    unfold Je
    split
    ·simp only [List.length_append,List.length_cons,List.length_nil]
     split<;>simp
    ·simp
   rw [List.foldl_cons,List.length_cons];omega
theorem qEI (l:List T) (t:T) (hs:szL l+size t<=1000000000):Ev (λ m _=>qfU m l t) (qvs l t):=by
 have hl:=jn l
 refine Ev.succ ?_
 simp only [qAm,qgQ]
 have hlen:∀ i,((l.take i).foldl (Je t) ([],false)).1.length<=2*l.length := λ i=>by
  have:=qyk t (l.take i) ([],false)
  have h2:(l.take i).length<=l.length:=by rw [List.length_take];omega
  simp only [List.length_nil] at this;omega
 have key:=qs (P := λ i=>Ev (λ m k=>qbC m k l ((l.take i).foldl (Je t) ([],false)).2 i t.kind t.name t.sort t.kids ((l.take i).foldl (Je t) ([],false)).1) (qvs l t)) l (by omega)
  (λ hc=>by
   refine Ev.loop ?_
   simp only [qoT,qg4]
   refine Ev.cf hc ?_
   rw [List.take_length]
   unfold qvs
   have:=hlen l.length
   rw [List.take_length] at this
   refine Ev.ite (λ h=>?_) λ h=>?_
   ·rw [bnt] at h
    rw [if_neg (by rw [h];decide),show T.mk t.kind t.name t.sort t.kids=t from qi t]
    exact Ev.ct (q9 (by omega) (by omega)) (Ev.pure _)
   ·rw [bnf] at h
    rw [if_pos h]
    exact Ev.pure _)
  (λ i x hx hd hc hg hi hP=>by
   refine Ev.loop ?_
   simp only [qoT,qg4,qi]
   have h1:=qca (List.mem_of_getElem? hx)
   have h2:=hlen i
   have hstep:(l.take (i+1)).foldl (Je t) ([],false)=Je t ((l.take i).foldl (Je t) ([],false)) x:=by
    rw [List.take_add_one,hx,List.foldl_append];rfl
   rw [hstep] at hP
   generalize (l.take i).foldl (Je t) ([],false)=s at *
   rw [show T.mk t.kind t.name t.sort t.kids=t from qi t,hi]
   refine Ev.ct hc (Ev.some hg (Ev.bind (qhU t (by omega) x (by omega)) (Ev.ite (λ h=>?_) λ h=>?_)))
   ·rw [bnt] at h
    refine Ev.ite (λ hc1=>?_) λ hc1=>?_
    ·rw [qjc] at hc1
     unfold Je at hP
     rw [if_pos ⟨h,hc1⟩] at hP
     refine Ev.ite (λ hc2=>?_) λ hc2=>?_
     ·rw [qy] at hc2
      rw [if_pos hc2] at hP
      exact Ev.ct (q9 (by omega) (by omega)) (Ev.some hg (Ev.ct (q9 (by rw [List.length_append];simp only [List.length_cons,List.length_nil];omega) (by omega)) hP))
     ·rw [qx] at hc2
      rw [if_neg (by omega),List.append_nil] at hP
      exact Ev.some hg (Ev.ct (q9 (by omega) (by omega)) hP)
    ·rw [qgx] at hc1
     unfold Je at hP
     rw [if_neg (by omega)] at hP
     exact Ev.some hg (Ev.ct (q9 (by omega) (by omega)) hP)
   ·rw [bnf] at h
    unfold Je at hP
    rw [if_neg (by rw [h];intro hh;cases hh.1)] at hP
    exact Ev.some hg (Ev.ct (q9 (by omega) (by omega)) hP))
 refine Ev.diag (L := λ m k=>qbC m k l false 0 t.kind t.name t.sort t.kids []) ?_
 exact key 0 (Nat.zero_le _)
theorem qJz (l:List T) (t:T) (hs:szL l+size t<=1000000000):Ev (λ m _=>qdN m l t) (qhH l t):=by
 have hl:=jn l
 refine Ev.succ ?_
 simp only [quB,qda,qi]
 unfold qhH
 refine Ev.bind (qJN l t hs) (Ev.ite (λ h=>?_) λ h=>?_)
 ·rw [bnt] at h
  rw [if_neg (by rw [h];decide)]
  exact Ev.bind (qEI l t hs) (Ev.pure _)
 ·rw [bnf] at h
  rw [if_pos h]
  have key:=qs (P := λ i=>Ev (λ m k=>Jp m k l i t.kind t.name t.sort t.kids ((l.take i).filter λ x => !yX x t)) (l.filter λ x => !yX x t)) l (by omega)
   (λ hc=>by
    refine Ev.loop ?_
    simp only [qkZ,qc9]
    refine Ev.cf hc ?_
    rw [List.take_length]
    exact Ev.pure _)
   (λ i x hx hd hc hg hi hP=>by
    refine Ev.loop ?_
    simp only [qkZ,qc9,qi]
    have h1:=qca (List.mem_of_getElem? hx)
    have h2:((l.take i).filter λ x => !yX x t).length<=l.length:=Nat.le_trans (List.length_filter_le _ _) (by rw [List.length_take];omega)
    rw [List.take_add_one,hx,List.filter_append] at hP
    rw [show T.mk t.kind t.name t.sort t.kids=t from qi t,hi]
    refine Ev.ct hc (Ev.some hg (Ev.bind (qhg x t (by omega) (by omega)) (Ev.ite (λ h=>?_) λ h=>?_)))
    ·rw [bnt] at h
     have e:(Option.some x).toList.filter (λ x => !yX x t)=[x]:=by show [x].filter _=_;simp [h]
     rw [e] at hP
     exact Ev.some hg (Ev.ct (q9 (by omega) (by omega)) hP)
    ·rw [bnf] at h
     have e:(Option.some x).toList.filter (λ x => !yX x t)=[]:=by show [x].filter _=_;simp [h]
     rw [e,List.append_nil] at hP
     exact hP)
  refine Ev.diag (L := λ m k=>Jp m k l 0 t.kind t.name t.sort t.kids []) ?_
  exact key 0 (Nat.zero_le _)
theorem qvx (t:T):∀ l:List T,szL (Qz l t)<=szL l+size t
 | []=>by rw [Qz,qN];omega
 | x::l=>by
   have:=qvx t l
   rw [Qz]
   split
   ·rw [qN,qN];omega
   ·split
    ·omega
    ·rw [qN,qN];omega
theorem qwy (p:T->Bool):∀ l:List T,szL (l.filter p)<=szL l
 | []=>Nat.le_refl _
 | x::l=>by
   have:=qwy p l
   rw [List.filter_cons]
   split
   ·rw [qN,qN];omega
   ·rw [qN];omega
theorem qHP (l:List T) (t:T):szL (qhH l t)<=szL l+size t:=by
 unfold qhH
 split
 ·exact Nat.le_trans (qwy _ l) (by omega)
 ·rw [qqP];exact qvx t l
theorem qtz:∀ (b a:List T),szL (b.foldl qhH a)<=szL a+szL b
 | [],a=>by simp [szL]
 | x::b,a=>by
   have h1:=qtz b (qhH a x)
   have h2:=qHP a x
   rw [List.foldl_cons,qN];omega
theorem qyu (a b:List T) (hs:szL a+szL b<=1000000000):Ev (λ m _=>qeq m a b) (qjk a b):=by
 have h1:=jn a
 have h2:=jn b
 refine Ev.succ ?_
 simp only [qyG,qfp]
 have key:=qs (P := λ i=>Ev (λ m k=>JF m k b ((b.take i).foldl qhH a) i) (qjk a b)) b (by omega)
  (λ hc=>by
   refine Ev.loop ?_
   simp only [qn1,qfr]
   refine Ev.cf hc ?_
   rw [List.take_length]
   exact Ev.pure _)
  (λ i x hx hd hc hg hi hP=>by
   refine Ev.loop ?_
   simp only [qn1,qfr,qi]
   have h3:=j7 hx
   have h4:=qtz (b.take i) a
   rw [List.take_add_one,hx,List.foldl_append] at hP
   refine Ev.ct hc (Ev.some hg (Ev.bind (qJz _ x (by omega)) ?_))
   rw [hi]
   exact hP)
 refine Ev.ct (q9 (by simp only [List.length_nil];omega) (by omega)) ?_
 have main:Ev (λ m _=>JF m m b a 0) (qjk a b):=Ev.diag (L := λ m k=>JF m k b a 0) (key 0 (Nat.zero_le _))
 exact Ev.case (λ h=>by rw [h] at main |-;exact main) λ x r h=>by rw [h] at main |-;exact main
theorem qFq (t:T):size t<=1000000000->Ev (λ m _=>zC m t) (jJ t):=by
 induction t using T.ind with
 | h t ih =>
   intro hs
   have hl:=yh t
   have hz:=qX t
   refine Ev.succ ?_
   simp only [qqL,qbD,qi]
   have key:=qs (P := λ i=>Ev (λ m k=>jy m (zC m) k (((t.kids.take i).map jJ).foldl zl []) i t.kind t.name t.sort t.kids) ((t.kids.map jJ).foldl zl [])) t.kids (by omega)
    (λ hc=>by
     refine Ev.loop ?_
     simp only [qiV,qbE]
     refine Ev.cf hc ?_
     rw [List.take_length]
     exact Ev.pure _)
    (λ i x hx hd hc hg hi hP=>by
     refine Ev.loop ?_
     simp only [qiV,qbE,qi]
     have hm:=List.mem_of_getElem? hx
     have h1:=jg t x hm
     have h2:=qdO (t.kids.take i)
     have h3:=j7 hx
     have h4:=qjW x
     have ha:Asc (((t.kids.take i).map jJ).foldl zl []):=qgj _ _ List.Pairwise.nil λ l hl=>by
      obtain ⟨k,_,rfl⟩:=List.mem_map.1 hl
      exact qlv k
     refine Ev.ct hc (Ev.some hg (Ev.bind (ih x hm (by omega)) (Ev.bind (qyu _ _ ?_) ?_)))
     ·unfold zL at h2;unfold szL at *;omega
     ·rw [hi,qyf ha (qlv x)]
      refine hP.congr λ m k=>?_
      rw [qi6 hx])
   have main:Ev (λ m _=>jy m (zC m) m [] 0 t.kind t.name t.sort t.kids) ((t.kids.map jJ).foldl zl []) :=
    Ev.diag (L := λ m k=>jy m (zC m) k [] 0 t.kind t.name t.sort t.kids) (key 0 (Nat.zero_le _))
   rw [qjM]
   by_cases h3:t.kind=3
   ·have hk:ieq t.kind 3=true:=qj.2 h3
    have hk':qe (ieq t.kind 3)=false:=bnf.2 hk
    refine Ev.ct hk ?_
    refine Ev.ite (λ hn=>?_) λ hn=>?_
    ·rw [yT] at hn
     have hnz:isN t qbF=true:=yC.2 ⟨h3,hn⟩
     have hnx:isN t qb1=false:=by
      rw [<- Bool.not_eq_true,yC];rintro ⟨_,h⟩;rw [hn] at h;exact absurd h (by decide)
     refine Ev.ite (λ he=>?_) λ he=>?_
     ·rw [qj] at he
      have he:t.kids=[]:=List.eq_nil_of_length_eq_zero (by omega)
      rw [hnz,he]
      exact Ev.pure _
     ·rw [qg] at he
      have he:t.kids.isEmpty=false:=by
       cases hh:t.kids with
       | nil=>rw [hh] at he;exact absurd rfl he
       | cons _ _=>rfl
      rw [hnz,he,hnx]
      exact Ev.cf hk' (Ev.ct (by rw [hn];rfl) (Ev.pure _))
    ·have hn':=jE.1 hn
     have hnz:isN t qbF=false:=by
      rw [<- Bool.not_eq_true,yC];rintro ⟨_,h⟩;exact hn' h
     rw [hnz]
     refine Ev.cf hk' (Ev.ite (λ hx=>?_) λ hx=>?_)
     ·have hnx:isN t qb1=false:=by
        rw [<- Bool.not_eq_true,yC];rintro ⟨_,h⟩;exact jE.1 (bnt.1 hx) h
      rw [hnx]
      exact Ev.pure _
     ·rw [show isN t qb1=true from yC.2 ⟨h3,yT.1 (bnf.1 hx)⟩]
      exact main
   ·have hk:ieq t.kind 3=false:=qg.2 h3
    have hnn:∀ n,isN t n=false := λ n=>by
     rw [<- Bool.not_eq_true,yC];rintro ⟨h,_⟩;exact h3 h
    rw [hnn,hnn]
    exact Ev.cf hk (Ev.ct (bnt.2 hk) (Ev.pure _))
theorem qCU:qT (apT qbF [])=0:=by
 unfold qT
 rw [qk7,qX,qjs]
 have:jV (apT qbF [])=0:=by decide
 show (if jV (apT qbF [])≠0 then jV (apT qbF []) else _)=0
 rw [this];rfl
theorem qCK (l:List T) (hs:szL l<=100000000):Ev (λ m _=>qe4 m l (apT qbF [])) (ql7 l):=by
 have hl:=jn l
 refine Ev.succ ?_
 simp only [qwR,qeG]
 unfold ql7
 refine Ev.ite (λ h=>?_) λ h=>?_
 ·rw [qy] at h
  rw [if_pos (by omega)]
  exact Ev.pure _
 ·rw [qx] at h
  rw [if_neg (by omega)]
  have key:=qs (P := λ i=>Ev (λ m k=>JY m k l i 3 qbF 0 []) (((l.drop i).map qT).foldl thn 0)) l (by omega)
   (λ hc=>by
    refine Ev.loop ?_
    simp only [qlX,qeo]
    refine Ev.cf hc ?_
    rw [List.drop_length]
    refine Ev.bind (qcf (T.mk 3 qbF 0 []) (by rw [qX];show 1+0<=_;omega)) ?_
    exact Ev.ret qCU)
   (λ i x hx hd hc hg hi hP=>by
    refine Ev.loop ?_
    simp only [qlX,qeo,qi]
    have h1:=qca (List.mem_of_getElem? hx)
    rw [qow hd]
    refine Ev.ct hc (Ev.some hg (Ev.bind (qcf x (by omega)) (Ev.ite (λ hv=>?_) λ hv=>?_)))
    ·rw [bnt,qg] at hv
     rw [if_pos hv]
     exact Ev.pure _
    ·rw [bnf,qj] at hv
     rw [if_neg (by omega),hi]
     exact hP)
  refine Ev.diag (L := λ m k=>JY m k l 0 3 qbF 0 []) ?_
  exact (key 0 (Nat.zero_le _)).res (by rw [List.drop_zero])
theorem qBa (l:List T):size (JR l)<=1+szL l:=by
 unfold JR
 split
 ·rw [qX];show 1+0<=_;omega
 ·split
  ·rename_i _ h1l
   have:l.getD 0 zT∈l:=by
    cases l with
    | nil=>cases h1l
    | cons x r=>exact List.mem_cons_self ..
   have:=qca this;omega
  ·rw [qX];exact Nat.le_refl _
theorem qEU (l:List T) (hs:szL l<=1000000000):Ev (λ m _=>qgY m l) (JR l):=by
 have hl:=jn l
 refine Ev.succ ?_
 simp only [qxZ,qiu,qi]
 unfold JR
 refine Ev.ite (λ h0=>?_) λ h0=>?_
 ·rw [qj] at h0
  rw [if_pos (by omega)]
  exact Ev.bind (qew _ [] (by simp)) (Ev.pure _)
 ·rw [qg] at h0
  rw [if_neg (by omega)]
  refine Ev.ite (λ h1=>?_) λ h1=>?_
  ·rw [qj] at h1
   rw [if_pos (by omega)]
   refine Ev.some (a:=l.getD 0 zT) ?_ (Ev.pure _)
   rw [JA,List.getD_eq_getElem?_getD]
   cases l with
   | nil=>simp at h1
   | cons x r=>rfl
  ·rw [qg] at h1
   rw [if_neg (by omega)]
   exact Ev.ct (q9 (by simp only [List.length_nil];omega) (by omega)) (Ev.case (λ h=>Ev.ret (by rw [h];rfl)) λ x r h=>Ev.ret (by rw [h];rfl))
theorem qH1 (l:List T) (hs:szL l<=900000):Ev (λ m _=>qia m l) (qnB l):=by
 have hl:=jn l
 refine Ev.succ ?_
 simp only [qAF,qgE]
 unfold qnB
 have z:Ev (λ m _=>qgp m) (apT qbF []):=by
  refine Ev.succ ?_
  simp only [qxH,qim,qi]
  exact Ev.bind (qew _ [] (by simp)) (Ev.pure _)
 refine Ev.bind z ?_
 rw [qi]
 refine Ev.bind (qCK l (by omega)) (Ev.ite (λ h=>?_) λ h=>?_)
 ·rw [bnt,qg] at h
  rw [if_pos h]
  exact Ev.pure _
 ·rw [bnf,qj] at h
  rw [if_neg (by omega)]
  have key:=qs (P := λ i=>Ev (λ m k=>qbu m k l (((l.take i).map jJ).foldl zl []) i 0 [] 0 []) (if qT (JR (zL l))≠0 then (zT,3) else (JR (zL l),0))) l (by omega)
   (λ hc=>by
    refine Ev.loop ?_
    simp only [qok,qgB,qi]
    refine Ev.cf hc ?_
    rw [List.take_length]
    have h1:=qdO l
    have h2:=qBa (zL l)
    refine Ev.bind (qEU (zL l) (by omega)) (Ev.bind (qcf _ (by omega)) (Ev.ite (λ h=>?_) λ h=>?_))
    ·rw [bnt,qg] at h
     rw [if_pos h];exact Ev.pure _
    ·rw [bnf,qj] at h
     rw [if_neg (by omega)];exact Ev.pure _)
   (λ i x hx hd hc hg hi hP=>by
    refine Ev.loop ?_
    simp only [qok,qgB,qi]
    have hm:=List.mem_of_getElem? hx
    have h1:=qca hm
    have h2:=qdO (l.take i)
    have h3:=j7 hx
    have h4:=qjW x
    have ha:Asc (((l.take i).map jJ).foldl zl []):=qgj _ _ List.Pairwise.nil λ l hl=>by
     obtain ⟨k,_,rfl⟩:=List.mem_map.1 hl
     exact qlv k
    refine Ev.ct hc (Ev.some hg (Ev.bind (qFq x (by omega)) (Ev.bind (qyu _ _ ?_) ?_)))
    ·unfold zL at h2;omega
    ·rw [hi,qyf ha (qlv x)]
     refine hP.congr λ m k=>?_
     rw [qi6 hx])
  refine Ev.diag (L := λ m k=>qbu m k l [] 0 0 [] 0 []) ?_
  exact key 0 (Nat.zero_le _)
end Go.AmZ
namespace Go.GxZ
def qfH (l:List Pw):Prop:=Asc (l.map (·.1))
def NzP (l:List Pw):Prop:=∀ p∈l,p.2≠0
theorem qf6 {p:Pw} {l:List Pw}:qfH (p::l)↔(∀ q∈l,qp p.1 q.1=-1)/\qfH l:=by
 unfold qfH
 rw [List.map_cons,qat]
 simp
theorem qd3 {p:Pw} {l:List Pw}:NzP (p::l)↔p.2≠0/\NzP l:=by
 unfold NzP;simp
def Qq (l:List Pw):Nat:=(l.map λ p=>p.2.natAbs).sum
theorem qnv:∀ (l:List Pw) (t:T) (n:Int) (p:Pw),p∈yr l t n->p.1=t\/p∈l
 | [],t,n,p,h=>by simp [yr] at h;exact .inl (by rw [h])
 | (x,m)::l,t,n,p,h=>by
   rw [yr] at h
   split at h
   ·rcases List.mem_cons.1 h with h | h
    ·exact .inl (by rw [h])
    ·exact .inr h
   ·split at h
    ·rename_i h0
     split at h
     ·exact .inr (List.mem_cons_of_mem _ h)
     ·rcases List.mem_cons.1 h with h | h
      ·left;rw [h];exact (qah t x h0).symm
      ·exact .inr (List.mem_cons_of_mem _ h)
    ·rcases List.mem_cons.1 h with h | h
     ·exact .inr (h▸List.mem_cons_self ..)
     ·rcases qnv l t n p h with h | h
      ·exact .inl h
      ·exact .inr (List.mem_cons_of_mem _ h)
theorem qzj:∀ (l:List Pw) (t:T) (n:Int),qfH l->qfH (yr l t n)
 | [],_,_,_=>List.pairwise_singleton _ _
 | (x,m)::l,t,n,h=>by
   obtain ⟨h1,h2⟩:=qf6.1 h
   rw [yr]
   have hr:=zP.rng t x
   split
   ·rename_i hlt
    refine qf6.2 ⟨λ q hq=>?_,h⟩
    rcases List.mem_cons.1 hq with e | hq
    ·rw [e];exact hlt
    ·exact qeF hlt (h1 q hq)
   ·split
    ·split
     ·exact h2
     ·exact qf6.2 ⟨h1,h2⟩
    ·refine qf6.2 ⟨λ q hq=>?_,qzj l t n h2⟩
     rcases qnv l t n q hq with e | hq
     ·rw [e];exact qu0.1 (show qp t x=1 by omega)
     ·exact h1 q hq
theorem qAV:∀ (l:List Pw) (t:T) (n:Int),NzP l->n≠0->NzP (yr l t n)
 | [],_,_,_,hn=>by intro p hp;simp [yr] at hp;rw [hp];exact hn
 | (x,m)::l,t,n,h,hn=>by
   obtain ⟨h1,h2⟩:=qd3.1 h
   rw [yr]
   split
   ·exact qd3.2 ⟨hn,h⟩
   ·split
    ·split
     ·exact h2
     ·exact qd3.2 ⟨by assumption,h2⟩
    ·exact qd3.2 ⟨h1,qAV l t n h2 hn⟩
theorem qqN:∀ (l:List Pw) (t:T) (n:Int),Qq (yr l t n)<=Qq l+n.natAbs
 | [],t,n=>by simp [yr,Qq]
 | (x,m)::l,t,n=>by
   have ih:=qqN l t n
   unfold Qq at ih |-
   rw [yr]
   split
   ·simp only [List.map_cons,List.sum_cons];omega
   ·split
    ·split
     ·simp only [List.map_cons,List.sum_cons];omega
     ·simp only [List.map_cons,List.sum_cons];omega
    ·simp only [List.map_cons,List.sum_cons];omega
theorem qrD:∀ (l:List Pw) (t:T) (n:Int),(yr l t n).length<=l.length+1
 | [],t,n=>by simp [yr]
 | (x,m)::l,t,n=>by
   have ih:=qrD l t n
   rw [yr]
   split
   ·simp
   ·split
    ·split
     ·simp;omega
     ·simp
    ·simp only [List.length_cons];omega
theorem qyA (l:List Pw) (p:Pw) (h:p∈l):p.2.natAbs<=Qq l:=by
 unfold Qq
 induction l with
 | nil=>cases h
 | cons q l ih =>
   simp only [List.map_cons,List.sum_cons]
   rcases List.mem_cons.1 h with e | h
   ·rw [e];omega
   ·have:=ih h;omega
noncomputable def yN (t:T) (n:Int) (s:List Pw × Bool) (p:Pw):List Pw × Bool :=
 ((if s.2=false/\qp t p.1<0 then s.1++[(t,n)] else s.1)++(if (if qp t p.1=0 then p.2+n else p.2)=0 then [] else [(p.1,if qp t p.1=0 then p.2+n else p.2)]),
   s.2||decide (qp t p.1<=0))
noncomputable def qDx (l:List Pw) (t:T) (n:Int):List Pw:=if (l.foldl (yN t n) ([],false)).2 then (l.foldl (yN t n) ([],false)).1 else (l.foldl (yN t n) ([],false)).1++[(t,n)]
theorem qnw (t:T) (n:Int):∀ (l out:List Pw),NzP l->(∀ q∈l,qp t q.1=-1)->l.foldl (yN t n) (out,true)=(out++l,true)
 | [],out,_,_=>by simp
 | (x,m)::l,out,h,k=>by
   obtain ⟨h1,h2⟩:=qd3.1 h
   have k1:=k _ (List.mem_cons_self ..)
   simp only at k1 h1
   have e:yN t n (out,true) (x,m)=(out++[(x,m)],true):=by simp [yN,k1,h1]
   rw [List.foldl_cons,e,qnw t n l _ h2 λ q hq=>k q (List.mem_cons_of_mem _ hq)]
   simp
theorem qqx (t:T) (n:Int):∀ (l out:List Pw),NzP l->qfH l->(if (l.foldl (yN t n) (out,false)).2 then (l.foldl (yN t n) (out,false)).1 else (l.foldl (yN t n) (out,false)).1++[(t,n)])=out++yr l t n
 | [],out,_,_=>by simp [yr]
 | (x,m)::l,out,h,k=>by
   obtain ⟨h1,h2⟩:=qd3.1 h
   obtain ⟨k1,k2⟩:=qf6.1 k
   simp only at h1 k1
   have hr:=zP.rng t x
   rw [List.foldl_cons,yr]
   by_cases c1:qp t x=-1
   ·have e:yN t n (out,false) (x,m)=(out++[(t,n)]++[(x,m)],true):=by simp [yN,c1,h1]
    rw [e,qnw t n l _ h2 λ q hq=>qeF c1 (k1 q hq),if_pos c1]
    simp
   ·by_cases c2:qp t x=0
    ·have e:yN t n (out,false) (x,m)=(out++(if m+n=0 then [] else [(x,m+n)]),true):=by simp [yN,c2]
     have ex:=qah t x c2
     rw [e,qnw t n l _ h2 λ q hq=>by rw [ex];exact k1 q hq,if_neg c1,if_pos c2]
     by_cases c3:m+n=0
     ·simp [c3]
     ·simp [c3]
    ·have e:yN t n (out,false) (x,m)=(out++[(x,m)],false):=by
       have g1:¬ qp t x<0:=by omega
       have g2:¬ qp t x<=0:=by omega
       simp [yN,g1,g2,c2,h1]
     rw [e,qqx t n l _ h2 k2,if_neg c1,if_neg c2]
     simp
theorem qGR {l:List Pw} (h:NzP l) (k:qfH l) (t:T) (n:Int):qDx l t n=yr l t n:=by
 have:=qqx t n l [] h k
 simpa [qDx] using this
def Jx (l:List Pw):Prop:=qfH l/\NzP l
theorem Jx.nil:Jx []:=⟨List.Pairwise.nil,λ _ h=>by cases h⟩
theorem Jx.ins {l:List Pw} (h:Jx l) (t:T) {n:Int} (hn:n≠0):Jx (yr l t n):=⟨qzj l t n h.1,qAV l t n h.2 hn⟩
theorem qIW {t:T} {n:Int} (h:n≠0):qau t n≠0:=by unfold qau;split<;>omega
theorem qFz (t:T) (n:Int):(qau t n).natAbs=n.natAbs:=by unfold qau;split<;>omega
theorem qBW (fs:List T) (n:Int) (P:List Pw->Prop) (h:∀ k∈fs,∀ l,P l->P (je k l n)):∀ l,P l->P ((fs.map je).foldl (λ l f=>f l n) l):=by
 induction fs with
 | nil=>intro l hl;exact hl
 | cons k fs ih=>intro l hl;exact ih (λ k hk=>h k (List.mem_cons_of_mem _ hk)) _ (h k (List.mem_cons_self ..) l hl)
theorem qEa (t:T):∀ (l:List Pw) (n:Int),n≠0->Jx l->Jx (je t l n):=by
 refine T.ind (P := λ t=>∀ (l:List Pw) (n:Int),n≠0->Jx l->Jx (je t l n)) ?_ t
 intro t ih l n hn h
 rw [qf7]
 split
 ·exact qBW t.kids (qau t n) Jx (λ k hk l hl=>ih k hk l _ (qIW hn) hl) l h
 ·exact h.ins t hn
theorem qFX (t:T):∀ (l:List Pw) (n:Int),Qq (je t l n)<=Qq l+size t*n.natAbs/\(je t l n).length<=l.length+size t:=by
 refine T.ind (P := λ t=>∀ (l:List Pw) (n:Int),Qq (je t l n)<=Qq l+size t*n.natAbs/\(je t l n).length<=l.length+size t) ?_ t
 intro t ih l n
 rw [qf7,qX]
 split
 ·have:∀ (fs:List T),(∀ k∈fs,k∈t.kids)->∀ l,Qq ((fs.map je).foldl (λ l f=>f l (qau t n)) l)<=Qq l+(fs.map size).sum*n.natAbs/\((fs.map je).foldl (λ l f=>f l (qau t n)) l).length<=l.length+(fs.map size).sum:=by
    intro fs
    induction fs with
    | nil=>intro _ l;simp
    | cons k fs ihf =>
      intro hf l
      have h1:=ih k (hf k (List.mem_cons_self ..)) l (qau t n)
      rw [qFz] at h1
      have h2:=ihf (λ k hk=>hf k (List.mem_cons_of_mem _ hk)) (je k l (qau t n))
      simp only [List.map_cons,List.foldl_cons,List.sum_cons,Nat.add_mul] at h2 |-
      omega
  have:=this t.kids (λ _ h=>h) l
  rw [Nat.add_mul]
  omega
 ·have h1:=qqN l t n
  have h2:=qrD l t n
  rw [Nat.add_mul]
  omega
theorem qpG:∀ (b a:List Pw),Jx a->NzP b->Jx (QG a b)
 | [],a,h,_=>h
 | p::b,a,h,k=>qpG b (yr a p.1 p.2) (h.ins p.1 (qd3.1 k).1) (qd3.1 k).2
theorem qrg:∀ (b a:List Pw),Qq (QG a b)<=Qq a+Qq b/\(QG a b).length<=a.length+b.length
 | [],a=>by simp [QG,Qq]
 | p::b,a=>by
   have h1:=qrg b (yr a p.1 p.2)
   have h2:=qqN a p.1 p.2
   have h3:=qrD a p.1 p.2
   have e:Qq (p::b)=p.2.natAbs+Qq b:=by simp [Qq]
   rw [show QG a (p::b)=QG (yr a p.1 p.2) b from rfl,e,List.length_cons]
   omega
noncomputable def ixP:List Pw->T->Nat
 | [],_=>0
 | p::l,t=>if qp p.1 t=-1 then ixP l t+1 else 0
theorem qEm:∀ (l:List Pw) (t:T),ixP l t<=l.length
 | [],_=>Nat.le_refl _
 | p::l,t=>by
   have:=qEm l t
   rw [ixP]
   split
   ·simp;omega
   ·omega
theorem qDT:∀ (l:List Pw) (t:T) (i:Nat),i<=l.length->(∀ k p,k<i->l[k]? = some p->qp p.1 t=-1)->(∀ p,l[i]? = some p->qp p.1 t≠-1)->i=ixP l t
 | [],_,i,h,_,_=>by simp at h;rw [h];rfl
 | p::l,t,0,_,_,h=>by rw [ixP,if_neg (h p rfl)]
 | p::l,t,i+1,h,k,m=>by
   rw [ixP,if_pos (k 0 p (by omega) rfl)]
   rw [<- qDT l t i (by simpa using h) (λ j q hj hq=>k (j+1) q (by omega) (by simpa using hq)) (λ q hq=>m q (by simpa using hq))]
theorem qBp:∀ (l:List Pw) (t:T) (n:Int) (x:T) (m:Int),l[ixP l t]? = some (x,m)->qp x t=0 ->
  yr l t n=if m+n=0 then l.take (ixP l t)++l.drop (ixP l t+1) else l.take (ixP l t)++[(x,m+n)]++l.drop (ixP l t+1)
 | [],_,_,_,_,h,_=>by simp at h
 | (y,k)::l,t,n,x,m,h,h0=>by
   have an:=zP.anti y t
   have rg:=zP.rng y t
   rw [ixP] at h
   rw [yr,ixP]
   simp only at h |-
   by_cases c:qp y t=-1
   ·rw [if_pos c] at h
    rw [if_neg (by omega),if_neg (by omega),if_pos c,qBp l t n x m (by simpa using h) h0]
    split<;>simp
   ·rw [if_neg c] at h
    simp at h
    obtain ⟨rfl,rfl⟩:=h
    rw [if_neg (by omega),if_pos (by omega),if_neg c]
    split<;>simp
theorem qz7:∀ (l:List Pw) (t:T) (n:Int),(∀ p,l[ixP l t]? = some p->qp p.1 t≠0)->yr l t n=l.take (ixP l t)++[(t,n)]++l.drop (ixP l t)
 | [],_,_,_=>by simp [yr,ixP]
 | (y,k)::l,t,n,h=>by
   have an:=zP.anti y t
   have rg:=zP.rng y t
   rw [ixP] at h
   rw [yr,ixP]
   simp only at h |-
   by_cases c:qp y t=-1
   ·rw [if_pos c] at h
    rw [if_neg (by omega),if_neg (by omega),if_pos c,qz7 l t n λ p hp=>h p (by simpa using hp)]
    simp
   ·rw [if_neg c] at h
    have:=h (y,k) rfl
    simp only at this
    rw [if_pos (by omega),if_neg c]
    simp
theorem qBQ {l:List Pw} (h:qfH l) {i j:Nat} {p q:Pw} (hi:l[i]? = some p) (hj:l[j]? = some q) (hij:i<j):qp p.1 q.1=-1:=by
 unfold qfH Asc at h
 rw [List.pairwise_iff_getElem] at h
 obtain ⟨hi1,hi2⟩:=List.getElem?_eq_some_iff.1 hi
 obtain ⟨hj1,hj2⟩:=List.getElem?_eq_some_iff.1 hj
 have:=h i j (by simpa using hi1) (by simpa using hj1) hij
 simpa [hi2,hj2] using this
end Go.GxZ
namespace Go.AmZ
open Go Go.GxZ
theorem qBD (t:T):Ev (λ m _=>JK m t) (qcH t):=by
 refine Ev.succ ?_
 simp only [qqe,qdI]
 unfold qcH
 by_cases h3:t.kind=3
 ·refine Ev.ct (qj.2 h3) (Ev.ite (λ h=>?_) λ h=>(Ev.ite (λ h2=>?_) λ h2=>?_))
  ·rw [yT] at h
   exact Ev.ret (by rw [h3,h];rfl)
  ·rw [yT] at h2
   exact Ev.ret (by rw [h3,h2];rfl)
  ·rw [jE] at h h2
   exact Ev.ret (by
    have a1:(t.name==qdQ)=false:=by rw [beq_eq_false_iff_ne];exact h
    have a2:(t.name==QV)=false:=by rw [beq_eq_false_iff_ne];exact h2
    rw [h3,a1,a2];rfl)
 ·exact Ev.cf (qg.2 h3) (Ev.ret (by have:(t.kind==3)=false:=by rw [beq_eq_false_iff_ne];exact h3
                                    rw [this];rfl))
theorem qkM (t:T):size t<=100000000->Ev (λ m _=>zg m t) t:=by
 induction t using T.ind with
 | h t ih =>
   intro hs
   have hl:=yh t
   refine Ev.succ ?_
   simp only [qri,qbH]
   have hc:zJ 0 t.kids=some ((),t.kids,()):=by
    unfold zJ
    rw [show Nat.ble t.kids.length 100000000=true from Nat.ble_eq_true_of_le (by omega)];rfl
   refine Ev.some hc ?_
   have key:=qs (P := λ i=>Ev (λ m k=>j8 m (zg m) k t.kids.length i t.kind t.name t.sort 0 [] 0 t.kids []) t) t.kids (by omega)
    (λ hc=>by
     refine Ev.loop ?_
     simp only [qiJ,qbK]
     exact Ev.cf hc (Ev.ret (qi t)))
    (λ i x hx hd hc hg hi hP=>by
     refine Ev.loop ?_
     simp only [qiJ,qbK,qi]
     have hm:=List.mem_of_getElem? hx
     have h1:=jg t x hm
     have e:y8 t.kids (i:Int) x=t.kids:=by
      rw [qdX]
      obtain ⟨h2,h3⟩:=List.getElem?_eq_some_iff.1 hx
      rw [<- h3,List.set_getElem_self]
     refine Ev.ct hc (Ev.some hg (Ev.bind (ih x hm (by omega)) (Ev.some hg ?_)))
     rw [e,hi]
     exact hP)
   refine Ev.diag (L := λ m k=>j8 m (zg m) k t.kids.length 0 t.kind t.name t.sort 0 [] 0 t.kids []) ?_
   exact key 0 (Nat.zero_le _)
theorem qJG (lo hi:Nat) (h:lo+hi<=1000000000):iw .i64 (qaT .u64 (iw .u64 (iw .i64 (qh (lo:Int) (hi:Int)))) 1)=(((lo+hi) / 2:Nat):Int):=by
 rw [qnp,show iw .i64 ((lo+hi:Nat):Int)=((lo+hi:Nat):Int) from QC (by omega),show iw .u64 ((lo+hi:Nat):Int)=((lo+hi:Nat):Int) from IntWalk.u64_in _ (by omega)]
 have:qaT .u64 ((lo+hi:Nat):Int) 1=(((lo+hi) / 2:Nat):Int):=by
  unfold qaT
  show Int.fdiv _ 2=_
  rw [Int.fdiv_eq_ediv_of_nonneg _ (by decide)];omega
 rw [this,QC (by omega)]
noncomputable def szP (l:List Pw):Nat:=(l.map λ p=>size p.1).sum
theorem qaq (p:Pw) (l:List Pw):szP (p::l)=size p.1+szP l:=by simp [szP]
theorem qbZ:∀ l:List Pw,l.length<=szP l
 | []=>Nat.zero_le _
 | p::l=>by
   have:=qbZ l
   have:=size_pos p.1
   rw [qaq,List.length_cons];omega
theorem qet:∀ {l:List Pw} {p:Pw},p∈l->size p.1<=szP l
 | q::l,p,h=>by
   rw [qaq]
   rcases List.mem_cons.1 h with rfl | h
   ·omega
   ·have:=qet h;omega
theorem qA9:∀ (l:List Pw) (t:T) (n:Int),szP (yr l t n)<=szP l+size t
 | [],t,n=>by rw [yr,qaq];show size t+0<=0+size t;omega
 | (x,m)::l,t,n=>by
   have:=qA9 l t n
   rw [yr]
   split
   ·rw [qaq,qaq];show size t+(size x+_)<=size x+_+size t;omega
   ·split
    ·split
     ·rw [qaq];show _<=size x+_+_;omega
     ·rw [qaq,qaq];show size x+_<=size x+_+_;omega
    ·rw [qaq,qaq];show size x+_<=size x+_+_;omega
theorem qzz (p:Pw) (t:T) (h1:size p.1<=1000000000) (h2:size t<=1000000000):Ev (λ m _=>QM m p t) (qp p.1 t):=by
 refine Ev.succ ?_
 simp only [qn9,qco,qi]
 exact Ev.bind (qcW _ h1 _ h2) (Ev.pure _)
noncomputable def qqT (l:List Pw) (t:T):Bool:=match l[Go.GxZ.ixP l t]? with
 | some p=>ieq (qp p.1 t) 0
 | none=>false
theorem qHU {l:List Pw} (ha:qfH l) (t:T) (hs:szP l+size t<=100000000):∀ (d lo hi:Nat),hi<=lo+d->lo<=hi->hi<=l.length->(∀ k p,k<lo->l[k]? = some p->qp p.1 t=-1)->(∀ k p,hi<=k->l[k]? = some p->qp p.1 t≠-1) ->
  Ev (λ m k=>qn m k l l.length lo hi t.kind t.name t.sort t.kids) ((Go.GxZ.ixP l t:Int),qqT l t):=by
 have hl:=qbZ l
 intro d
 induction d with
 | zero =>
   intro lo hi h1 h2 h3 h4 h5
   have:lo=hi:=by omega
   subst this
   have hix:=qDT l t lo h3 h4 (λ p hp=>h5 lo p (Nat.le_refl _) hp)
   subst hix
   refine Ev.loop ?_
   simp only [yd,qF,qi]
   rw [show T.mk t.kind t.name t.sort t.kids=t from qi t]
   refine Ev.cf (qx.2 (Int.le_refl _)) (Ev.ite (λ h=>?_) λ h=>?_)
   ·rw [qy] at h
    have hlt:Go.GxZ.ixP l t<l.length:=by omega
    obtain ⟨p,hg⟩:∃ p,l[Go.GxZ.ixP l t]? = some p:=⟨_,List.getElem?_eq_getElem hlt⟩
    have hm:=qet (List.mem_of_getElem? hg)
    refine Ev.some (a:=p) (by rw [jq,hg]) (Ev.bind (qzz (p.1,p.2) _ (Nat.le_trans hm (by omega)) (by omega)) (Ev.ret ?_))
    unfold qqT
    rw [hg]
   ·rw [qx] at h
    refine Ev.ret ?_
    unfold qqT
    rw [List.getElem?_eq_none (by omega)]
 | succ d ih =>
   intro lo hi h1 h2 h3 h4 h5
   by_cases he:lo=hi
   ·exact ih lo hi (by omega) h2 h3 h4 h5
   refine Ev.loop ?_
   simp only [yd,qF,qi]
   rw [show T.mk t.kind t.name t.sort t.kids=t from qi t,qJG lo hi (by omega)]
   have hm1:(lo+hi) / 2<hi:=by omega
   have hm2:lo<=(lo+hi) / 2:=by omega
   generalize (lo+hi) / 2=mid at *
   have hlt:mid<l.length:=by omega
   obtain ⟨p,hg⟩:∃ p,l[mid]? = some p:=⟨_,List.getElem?_eq_getElem hlt⟩
   have hm:=qet (List.mem_of_getElem? hg)
   refine Ev.ct (qy.2 (by omega)) (Ev.some (a:=p) (by rw [jq,hg]) (Ev.bind (qzz (p.1,p.2) _ (Nat.le_trans hm (by omega)) (by omega)) (Ev.ite (λ hc=>?_) λ hc=>?_)))
   ·rw [qy] at hc
    have hc:qp p.1 t<0:=hc
    have hc:qp p.1 t=-1:=by rcases zP.rng p.1 t with h | h | h<;>omega
    rw [show qh ((mid:Nat):Int) 1=((mid+1:Nat):Int) from by unfold qh;omega,QC (by omega)]
    refine ih (mid+1) hi (by omega) (by omega) h3 (λ k q hk hp=>?_) h5
    by_cases hkm:k=mid
    ·subst hkm;rw [hg] at hp;cases hp;exact hc
    ·exact zP.trans _ _ _ (qBQ ha hp hg (by omega)) hc
   ·rw [qx] at hc
    have hc:0<=qp p.1 t:=hc
    refine ih lo mid (by omega) hm2 (by omega) h4 (λ k q hk hp=>?_)
    by_cases hkm:k=mid
    ·subst hkm;rw [hg] at hp;cases hp;omega
    ·intro hcp
     have:=zP.trans _ _ _ (qBQ ha hg hp (by omega)) hcp
     omega
theorem qKw {l:List Pw} (ha:qfH l) (t:T) (hs:szP l+size t<=100000000):Ev (λ m _=>qB m l t) ((Go.GxZ.ixP l t:Int),qqT l t):=by
 refine Ev.succ ?_
 simp only [Qt,qG]
 refine Ev.diag (L := λ m k=>qn m k l l.length 0 l.length t.kind t.name t.sort t.kids) ?_
 exact qHU ha t hs l.length 0 l.length (by omega) (Nat.zero_le _) (Nat.le_refl _) (λ k p hk=>by omega) (λ k p hk hp=>by rw [List.getElem?_eq_none hk] at hp;cases hp)
theorem qt5 {l:List Pw} (ha:qfH l) (t:T) (n:Int) (hs:szP l+size t<=90000000) (hlen:l.length<=90000) (hn:Qq l+n.natAbs<=1000000000000):Ev (λ m _=>JO m l (t,n)) ((),yr l t n,()):=by
 have hl:=qbZ l
 have hix:=qEm l t
 refine Ev.succ ?_
 simp only [qqj,qdz,qi]
 refine Ev.bind (qKw ha t (by omega)) (Ev.ite (λ h=>?_) λ h=>?_)
 ·rw [bnt] at h
  refine Ev.bind (qkM t (by omega)) ?_
  have hI:zt 0 l (Go.GxZ.ixP l t:Int) [(re t,n)]=some ((),yr l t n,()):=by
   unfold zt
   rw [show inb (Go.GxZ.ixP l t:Int) l.length=true from by unfold inb;rw [decide_eq_true_iff];omega,show Nat.ble l.length 100000=true from Nat.ble_eq_true_of_le (by omega)]
   rw [qz7 l t n λ p hp hc=>by
    unfold qqT at h
    simp only [hp] at h
    rw [qg] at h
    exact h hc]
   rw [Int.toNat_natCast,qi,List.append_assoc];rfl
  rw [qi] at hI
  refine Ev.some hI (Ev.pure _)
 ·rw [bnf] at h
  cases hg:l[Go.GxZ.ixP l t]? with
  | none=>unfold qqT at h;simp only [hg] at h;cases h
  | some p =>
    obtain ⟨x,k⟩:=p
    have hc:qp x t=0:=by
     unfold qqT at h
     simp only [hg] at h
     exact qj.1 h
    have hm:=qyA l _ (List.mem_of_getElem? hg)
    have hlt:Go.GxZ.ixP l t<l.length:=(List.getElem?_eq_some_iff.1 hg).1
    simp only at hm
    have e1:iw .i64 (qh k n)=k+n:=by
     unfold qh
     exact QC (by omega)
    have gset:qc (y8 l (Go.GxZ.ixP l t:Int) (x,k+n)) (Go.GxZ.ixP l t:Int)=some (x,k+n):=by
     rw [qdX,jq,List.getElem?_set_self hlt]
    have hsplit:l.set (Go.GxZ.ixP l t) (x,k+n)=l.take (Go.GxZ.ixP l t)++[(x,k+n)]++l.drop (Go.GxZ.ixP l t+1):=by
     rw [List.set_eq_take_append_cons_drop,if_pos hlt,List.append_assoc];rfl
    refine Ev.some (by rw [jq,hg]) (Ev.some (by rw [jq,hg]) ?_)
    simp only [qi,e1]
    refine Ev.some gset ?_
    rw [qBp l t n x k hg hc]
    refine Ev.ite (λ hz=>?_) λ hz=>?_
    ·rw [qj] at hz
     rw [if_pos hz]
     have hD:zw 0 (y8 l (Go.GxZ.ixP l t:Int) (x,k+n)) (Go.GxZ.ixP l t:Int) (iw .i64 (qh (Go.GxZ.ixP l t:Int) 1))=some ((),l.take (Go.GxZ.ixP l t)++l.drop (Go.GxZ.ixP l t+1),()):=by
      rw [show qh (Go.GxZ.ixP l t:Int) 1=((Go.GxZ.ixP l t+1:Nat):Int) from by unfold qh;omega,QC (by omega),qdX]
      unfold zw
      rw [List.length_set,show inb ((Go.GxZ.ixP l t+1:Nat):Int) l.length=true from by unfold inb;rw [decide_eq_true_iff];omega,show inb (Go.GxZ.ixP l t:Int) l.length=true from by unfold inb;rw [decide_eq_true_iff];omega,
       show ieq ((Go.GxZ.ixP l t+1:Nat):Int) (qh (Go.GxZ.ixP l t:Int) 1)=true from qj.2 (by unfold qh;omega),show Nat.ble l.length 100000=true from Nat.ble_eq_true_of_le (by omega)]
      rw [Int.toNat_natCast,List.take_set_of_le (Nat.le_refl _),List.drop_set_of_lt (by omega)];rfl
     exact Ev.some hD (Ev.pure _)
    ·rw [qg] at hz
     rw [if_neg hz]
     refine Ev.ret ?_
     rw [qdX,hsplit]
end Go.AmZ
namespace Go.GxZ
open Go.RowKit
theorem qxR (q:Option T) (p:Pw):pvK q p=if qT p.1≠0 then qT p.1 else if qcH p.1 then 1 else if p.2=0\/p.2 < -1000\/1000<p.2 then 7 else match q with | some x=>if 0<=qp x p.1 then 5 else 0 | none=>0:=rfl
theorem qyl:∀ (l:List Pw) (q:Option T),pvL q l=0->qfH l/\(∀ p∈l,p.2≠0/\p.2.natAbs<=1000)/\(∀ x,q=some x->∀ p∈l,qp x p.1=-1)/\(∀ p∈l,qT p.1=0/\qcH p.1=false)
 | [],q,_=>⟨List.Pairwise.nil,(λ _ h=>by cases h),(λ _ _ _ h=>by cases h),(λ _ h=>by cases h)⟩
 | p::l,q,h=>by
   rw [pvL] at h
   unfold thn at h
   split at h
   rotate_left
   ·rename_i h1;exact absurd h h1
   ·rename_i h1
    have hk:=qxR q p
    obtain ⟨i1,i2,i3,i4⟩:=qyl l (some p.1) h
    rw [hk] at h1
    split at h1
    ·rename_i h2;exact absurd h1 h2
    rename_i h2
    split at h1
    ·cases h1
    rename_i h3
    split at h1
    ·cases h1
    rename_i h4
    have hq:∀ x,q=some x->qp x p.1=-1 := λ x hx=>by
     subst hx
     simp only at h1
     split at h1
     ·cases h1
     ·rename_i h5
      rcases zP.rng x p.1 with h | h | h<;>omega
    refine ⟨qf6.2 ⟨λ r hr=>i3 _ rfl r hr,i1⟩,λ r hr=>?_,λ x hx r hr=>?_,λ r hr=>?_⟩
    ·rcases List.mem_cons.1 hr with rfl | hr
     ·omega
     ·exact i2 r hr
    ·rcases List.mem_cons.1 hr with rfl | hr
     ·exact hq x hx
     ·exact qeF (hq x hx) (by have:=i3 _ rfl r hr;omega)
    ·rcases List.mem_cons.1 hr with rfl | hr
     ·exact ⟨by omega,by simpa using h3⟩
     ·exact i4 r hr
theorem qa0 {l:List Pw} (h:Q0 l=0):Jx l/\l.length<=200/\(∀ p∈l,p.2.natAbs<=1000)/\(∀ p∈l,qT p.1=0/\qcH p.1=false):=by
 unfold Q0 at h
 split at h
 ·cases h
 ·obtain ⟨i1,i2,-,i4⟩:=qyl l none h
  exact ⟨⟨i1,λ p hp=>(i2 p hp).1⟩,by omega,λ p hp=>(i2 p hp).2,i4⟩
theorem qmq (k:Nat):∀ (l:List Pw),(∀ p∈l,p.2.natAbs<=k)->Qq l<=l.length*k
 | [],_=>by simp [Qq]
 | p::l,h=>by
   have h1:=qmq k l λ q hq=>h q (List.mem_cons_of_mem _ hq)
   have h2:=h p (List.mem_cons_self ..)
   have e:Qq (p::l)=p.2.natAbs+Qq l:=rfl
   rw [e,List.length_cons,Nat.add_mul];omega
theorem qrO:∀ (b a:List Pw) (p:Pw),p∈QG a b->(∃ q∈a,q.1=p.1)\/∃ q∈b,q.1=p.1
 | [],a,p,h => .inl ⟨p,h,rfl⟩
 | r::b,a,p,h=>by
   rcases qrO b (yr a r.1 r.2) p h with ⟨q,hq,e⟩ | ⟨q,hq,e⟩
   ·rcases qnv a r.1 r.2 q hq with h1 | h1
    ·exact .inr ⟨r,List.mem_cons_self ..,by rw [<- h1];exact e⟩
    ·exact .inl ⟨q,h1,e⟩
   ·exact .inr ⟨q,List.mem_cons_of_mem _ hq,e⟩
theorem qvX (a b:List Pw) (p:Pw):QG a (b++[p])=yr (QG a b) p.1 p.2:=by unfold QG;rw [List.foldl_append];rfl
theorem qCk {a b:List Pw} (ha:Q0 a=0) (hb:Q0 b=0) (S:Nat) (hsa:∀ p∈a,size p.1<=S) (hsb:∀ p∈b,size p.1<=S) (j:Nat) :
  qfH (QG a (b.take j))/\(QG a (b.take j)).length<=400/\(∀ p∈QG a (b.take j),p.2.natAbs<=1000000)/\(∀ p∈QG a (b.take j),size p.1<=S):=by
 obtain ⟨g1,l1,k1,-⟩:=qa0 ha
 obtain ⟨g2,l2,k2,-⟩:=qa0 hb
 have hm:∀ p∈b.take j,p∈b := λ p hp=>List.mem_of_mem_take hp
 have hg:=qpG (b.take j) a g1 λ p hp=>g2.2 p (hm p hp)
 obtain ⟨h1,h2⟩:=qrg (b.take j) a
 have h3:=qmq 1000 a k1
 have h4:=qmq 1000 (b.take j) λ p hp=>k2 p (hm p hp)
 have h5:(b.take j).length<=200:=by rw [List.length_take];omega
 refine ⟨hg.1,by omega,λ p hp=>?_,λ p hp=>?_⟩
 ·have:=qyA _ p hp
  omega
 ·rcases qrO _ _ p hp with ⟨q,hq,e⟩ | ⟨q,hq,e⟩
  ·rw [<- e];exact hsa q hq
  ·rw [<- e];exact hsb q (hm q hq)
end Go.GxZ
namespace Go.AmZ
open Go Go.GxZ
theorem Ql {t:T} (h:qT t=0):size t<=400:=by
 unfold qT at h
 split at h
 ·rename_i h1;exact absurd h h1
 ·split at h
  ·cases h
  ·omega
theorem qpK {t:T}:qcH t=true↔t.kind=3/\(t.name=qdQ\/t.name=QV\/t.name=qin):=by
 unfold qcH
 simp only [Bool.and_eq_true,Bool.or_eq_true,beq_iff_eq]
 constructor
 ·rintro ⟨h,(h1 | h1) | h1⟩
  ·exact ⟨h,.inl h1⟩
  ·exact ⟨h,.inr (.inl h1)⟩
  ·exact ⟨h,.inr (.inr h1)⟩
 ·rintro ⟨h,h1 | h1 | h1⟩
  ·exact ⟨h,.inl (.inl h1)⟩
  ·exact ⟨h,.inl (.inr h1)⟩
  ·exact ⟨h,.inr h1⟩
theorem qBx (t:T):∀ (l:List Pw) (n:Int),szP (je t l n)<=szP l+size t:=by
 refine T.ind (P := λ t=>∀ (l:List Pw) (n:Int),szP (je t l n)<=szP l+size t) ?_ t
 intro t ih l n
 rw [qf7]
 have hz:=qX t
 split
 ·have:∀ (fs:List T),(∀ k∈fs,k∈t.kids)->∀ l,szP ((fs.map je).foldl (λ l f=>f l (qau t n)) l)<=szP l+(fs.map size).sum:=by
    intro fs
    induction fs with
    | nil=>intro _ l;simp
    | cons k fs ihf =>
      intro hf l
      have h1:=ih k (hf k (List.mem_cons_self ..)) l (qau t n)
      have h2:=ihf (λ k hk=>hf k (List.mem_cons_of_mem _ hk)) (je k l (qau t n))
      simp only [List.map_cons,List.foldl_cons,List.sum_cons] at h2 |-
      omega
  have:=this t.kids (λ _ h=>h) l
  omega
 ·exact qA9 l t n
noncomputable def qeX (ks:List T) (sg:Int) (l:List Pw) (i:Nat):List Pw:=((ks.take i).map je).foldl (λ l f=>f l sg) l
theorem qwr {ks:List T} {i:Nat} {x:T} (h:ks[i]? = some x) (sg:Int) (l:List Pw):qeX ks sg l (i+1)=je x (qeX ks sg l i) sg:=by
 unfold qeX
 rw [List.take_add_one,h,List.map_append,List.foldl_append];rfl
theorem qnK (sg:Int) (hsg:sg≠0):∀ (ks:List T) (l:List Pw),Jx l->Jx ((ks.map je).foldl (λ l f=>f l sg) l)/\szP ((ks.map je).foldl (λ l f=>f l sg) l)<=szP l+szL ks /\
  Qq ((ks.map je).foldl (λ l f=>f l sg) l)<=Qq l+szL ks*sg.natAbs/\((ks.map je).foldl (λ l f=>f l sg) l).length<=l.length+szL ks
 | [],l,h=>⟨h,by simp,by simp,by simp⟩
 | k::ks,l,h=>by
   obtain ⟨i1,i2,i3,i4⟩:=qnK sg hsg ks (je k l sg) (qEa k l sg hsg h)
   have h1:=qBx k l sg
   obtain ⟨h2,h3⟩:=qFX k l sg
   rw [List.map_cons,List.foldl_cons,qN,Nat.add_mul]
   exact ⟨i1,by omega,by omega,by omega⟩
noncomputable def qj8 (t:T) (l:List Pw) (n:Int):Unit × List Pw × Bool × Unit:=((),if arT t then je t l n else [],arT t,())
theorem qCF (t:T):∀ (l:List Pw) (n:Int),n≠0->Jx l->szP l+size t<=80000->Qq l+size t*n.natAbs<=100000000000->Ev (λ m _=>zd m l t n) (qj8 t l n):=by
 induction t using T.ind with
 | h t ih =>
   intro l n hn hg hs hb
   have hl:=yh t
   have hz:=qX t
   have hll:=qbZ l
   refine Ev.succ ?_
   simp only [qo5,qaL,qi]
   refine Ev.bind (qBD t) (Ev.ite (λ h=>?_) λ h=>?_)
   ·rw [bnt] at h
    have hmul:n.natAbs<=size t*n.natAbs:=Nat.le_mul_of_pos_left _ (size_pos t)
    refine Ev.bind (qt5 hg.1 t n (by omega) (by omega) (by omega)) (Ev.ret ?_)
    unfold qj8
    rw [qtx,qf7,h];rfl
   rw [bnf] at h
   obtain ⟨h3,hname⟩:=qpK.1 h
   have har:arT t=(arK t&&(t.kids.map arT).all id):=by rw [qtx,h];rfl
   have loop:∀ sg:Int,sg≠0->sg.natAbs=n.natAbs->qau t n=sg->arK t=true->Ev (λ m _=>y9 m (zd m) m sg t.kids t.kids.length 0 l) (qj8 t l n):=by
    intro sg hsg hab hsn hk
    have hcol:je t l n=qeX t.kids sg l t.kids.length:=by rw [qf7,h,if_pos rfl,hsn];unfold qeX;rw [List.take_length]
    have key:=qs (P := λ i=>(∀ k∈t.kids.take i,arT k=true)->Ev (λ m k=>y9 m (zd m) k sg t.kids t.kids.length i (qeX t.kids sg l i)) (qj8 t l n)) t.kids (by omega)
     (λ hc ha=>by
      refine Ev.loop ?_
      simp only [qg9,qaO]
      refine Ev.cf hc (Ev.ret ?_)
      unfold qj8
      have:arT t=true:=by
       rw [har,hk,Bool.true_and,List.all_eq_true]
       intro b hb
       obtain ⟨k,hk1,rfl⟩:=List.mem_map.1 hb
       rw [List.take_length] at ha
       exact ha k hk1
      rw [this,if_pos rfl,hcol])
     (λ i x hx hd hc hgt hi hP ha=>by
      refine Ev.loop ?_
      simp only [qg9,qaO,qi]
      have hm:=List.mem_of_getElem? hx
      have h1:=jg t x hm
      obtain ⟨f1,f2,f3,f4⟩:=qnK sg hsg (t.kids.take i) l hg
      have h5:=j7 hx
      have h6:szL t.kids+1=size t:=by unfold szL;omega
      have h7:szL (t.kids.take i)*sg.natAbs+size x*sg.natAbs<=size t*n.natAbs:=by
       rw [<- Nat.add_mul,hab]
       exact Nat.mul_le_mul_right _ (by omega)
      refine Ev.ct hc (Ev.some hgt (Ev.bind (ih x hm (qeX t.kids sg l i) sg hsg f1 (by unfold qeX;omega) (by unfold qeX;omega)) (Ev.ite (λ hb1=>?_) λ hb1=>?_)))
      ·rw [bnt] at hb1
       have hb1:arT x=false:=hb1
       refine Ev.ret ?_
       unfold qj8
       have:arT t=false:=by
        rw [har,hk,Bool.true_and,<- Bool.not_eq_true,List.all_eq_true]
        intro hall
        have:=hall (arT x) (List.mem_map_of_mem hm)
        rw [hb1] at this;cases this
       rw [this];rfl
      ·rw [bnf] at hb1
       have hb1:arT x=true:=hb1
       have hP:=hP λ k hk'=>by
        rw [List.take_add_one,hx] at hk'
        rcases List.mem_append.1 hk' with hk' | hk'
        ·exact ha k hk'
        ·rw [show k=x from by simpa using hk'];exact hb1
       rw [hi]
       refine hP.congr λ m k=>?_
       unfold qj8
       rw [qwr hx,hb1];rfl)
    refine Ev.diag (L := λ m k=>y9 m (zd m) k sg t.kids t.kids.length 0 l) ?_
    exact (key 0 (Nat.zero_le _)) (λ k hk=>by rw [List.take_zero] at hk;cases hk)
   have bad:arK t=false->Ev (λ _ _=>some ((),[],false,())) (qj8 t l n) := λ hk=>by
    refine Ev.ret ?_
    unfold qj8
    rw [har,hk];rfl
   have hneg:iw .i64 (yQ 0 n)=-n:=by
    have hmul:n.natAbs<=size t*n.natAbs:=Nat.le_mul_of_pos_left _ (size_pos t)
    unfold yQ
    rw [QC (by omega)];omega
   rcases hname with hn1 | hn1 | hn1
   ·refine Ev.cf (by rw [hn1];rfl) (Ev.cf (by rw [hn1];rfl) (Ev.ct (by rw [hn1];rfl) (Ev.ite (λ hk=>?_) λ hk=>?_)))
    ·rw [qy] at hk
     exact bad (by unfold arK;rw [hn1,decide_eq_true (show t.kids.length<2 by omega)];rfl)
    ·rw [qx] at hk
     exact Ev.cf (by rw [hn1];rfl) (loop n hn rfl (by unfold qau;rw [hn1];rfl) (by unfold arK;rw [hn1,decide_eq_false (show ¬ t.kids.length<2 by omega)];rfl))
   ·refine Ev.cf (by rw [hn1];rfl) (Ev.ct (by rw [hn1];rfl) (Ev.ite (λ hk=>?_) λ hk=>?_))
    ·rw [bnt,qg] at hk
     exact bad (by unfold arK;rw [hn1,show (t.kids.length != 1)=true from by rw [bne_iff_ne];omega];rfl)
    ·rw [bnf,qj] at hk
     rw [hneg]
     exact Ev.cf (by rw [hn1];rfl) (Ev.ct (by rw [hn1];rfl) (loop (-n) (by omega) (by omega) (by unfold qau;rw [if_pos hn1]) (by unfold arK;rw [hn1,show (t.kids.length != 1)=false from by rw [bne_eq_false_iff_eq];omega];rfl)))
   ·refine Ev.ct (by rw [hn1];rfl) (Ev.ite (λ hk=>?_) λ hk=>?_)
    ·rw [bnt,qg] at hk
     exact bad (by unfold arK;rw [hn1,show (t.kids.length != 0)=true from by rw [bne_iff_ne];omega];rfl)
    ·rw [bnf,qj] at hk
     exact Ev.cf (by rw [hn1];rfl) (Ev.cf (by rw [hn1];rfl) (Ev.cf (by rw [hn1];rfl) (loop n hn rfl (by unfold qau;rw [hn1];rfl) (by unfold arK;rw [hn1,show (t.kids.length != 0)=false from by rw [bne_eq_false_iff_eq];omega];rfl))))
theorem qze (t:T) (hs:size t<=1000000000):Ev (λ m _=>qaf m t) (ofP t):=by
 refine Ev.succ ?_
 simp only [qxk,qhL,qi]
 unfold ofP
 refine Ev.bind (qdy t hs) (Ev.ite (λ h=>?_) λ h=>?_)
 ·rw [bnt,qg] at h
  rw [if_pos h];exact Ev.pure _
 ·rw [bnf,qj] at h
  have hz:=Ql h
  rw [if_neg (by omega)]
  refine Ev.bind (qCF t [] 1 (by decide) Jx.nil (by show 0+_<=_;omega) (by show 0+size t*1<=_;omega)) (Ev.ite (λ h1=>?_) λ h1=>?_)
  ·rw [bnt] at h1
   have h1:arT t=false:=h1
   rw [if_pos h1];exact Ev.pure _
  ·rw [bnf] at h1
   have h1:arT t=true:=h1
   rw [if_neg (by rw [h1];decide)]
   have e:(qj8 t [] 1).2.1=je t [] 1:=by unfold qj8;rw [h1];rfl
   rw [e]
   refine Ev.ite (λ h2=>?_) λ h2=>?_
   ·rw [qy] at h2
    rw [if_pos (by omega)];exact Ev.pure _
   ·rw [qx] at h2
    rw [if_neg (by omega)];exact Ev.pure _
noncomputable def qdt (l:List Pw) (i:Nat):Option T:=if i=0 then none else (l[i-1]?).map (·.1)
theorem qjb {l:List Pw} {i:Nat} {p:Pw} (h:l[i]? = some p):qdt l (i+1)=some p.1:=by
 unfold qdt
 rw [if_neg (by omega),Nat.add_sub_cancel,h];rfl
theorem qpE (l:List Pw) (hs:szP l<=1000000000):Ev (λ m _=>Jl m l) (Q0 l):=by
 have hl:=qbZ l
 refine Ev.succ ?_
 simp only [qry,qbG]
 unfold Q0
 refine Ev.ite (λ h=>?_) λ h=>?_
 ·rw [qy] at h
  rw [if_pos (by omega)];exact Ev.pure _
 rw [qx] at h
 rw [if_neg (by omega)]
 have key:=qs (P := λ i=>Ev (λ m k=>jv m k l l l.length i) (pvL (qdt l i) (l.drop i))) l (by omega)
  (λ hc=>by
   refine Ev.loop ?_
   simp only [qiM,qbL]
   refine Ev.cf hc (Ev.ret ?_)
   rw [List.drop_length];rfl)
  (λ i x hx hd hc hg hi hP=>by
   refine Ev.loop ?_
   simp only [qiM,qbL,qi]
   have h1:=qet (List.mem_of_getElem? hx)
   rw [qjb hx] at hP
   rw [hd,pvL]
   have hk:=qxR (qdt l i) x
   have bad:∀ e:Int,pvK (qdt l i) x=e->e≠0->Ev (λ _ _=>some e) (thn (pvK (qdt l i) x) (pvL (some x.1) (l.drop (i+1)))) := λ e he h0=>by
    rw [he]
    exact Ev.ret (by unfold thn;rw [if_neg h0])
   have good:pvK (qdt l i) x=0->Ev (λ m k=>jv m k l l l.length ((i+1:Nat):Int)) (thn (pvK (qdt l i) x) (pvL (some x.1) (l.drop (i+1)))) := λ he=>by
    rw [he]
    exact hP.res (by unfold thn;rw [if_pos rfl])
   refine Ev.ct hc (Ev.some hg (Ev.bind (qdy x.1 (by omega)) (Ev.ite (λ hv=>?_) λ hv=>?_)))
   ·rw [bnt,qg] at hv
    exact bad _ (by rw [hk,if_pos hv]) hv
   rw [bnf,qj] at hv
   rw [if_neg (by omega)] at hk
   refine Ev.bind (qBD x.1) (Ev.ite (λ hv2=>?_) λ hv2=>?_)
   ·exact bad 1 (by rw [hk,if_pos hv2]) (by decide)
   rw [if_neg (by rw [hv2];decide)] at hk
   refine Ev.ite (λ hz=>?_) λ hz=>?_
   ·rw [qj] at hz
    exact bad 7 (by rw [hk,if_pos (by omega)]) (by decide)
   rw [qg] at hz
   refine Ev.ite (λ hz2=>?_) λ hz2=>?_
   ·rw [qy] at hz2
    exact bad 7 (by rw [hk,if_pos (by omega)]) (by decide)
   rw [qx] at hz2
   refine Ev.ite (λ hz3=>?_) λ hz3=>?_
   ·rw [qy] at hz3
    exact bad 7 (by rw [hk,if_pos (by omega)]) (by decide)
   rw [qx] at hz3
   rw [if_neg (by omega)] at hk
   rw [hi]
   refine Ev.ite (λ h0=>?_) λ h0=>?_
   ·rw [qy] at h0
    obtain ⟨j,rfl⟩:∃ j,i=j+1:=⟨i-1,by omega⟩
    have hlt:j<l.length:=by have:=(List.getElem?_eq_some_iff.1 hx).1;omega
    obtain ⟨q,hq⟩:∃ q,l[j]? = some q:=⟨_,List.getElem?_eq_getElem hlt⟩
    have h2:=qet (List.mem_of_getElem? hq)
    rw [qjb hq] at hk bad good |-
    simp only at hk
    refine Ev.some (a:=q) (by rw [show yQ ((j+1:Nat):Int) 1=((j:Nat):Int) from by unfold yQ;omega,QC (by omega),jq,hq]) (Ev.bind (qcW q.1 (by omega) x.1 (by omega)) (Ev.ite (λ hc2=>?_) λ hc2=>?_))
    ·rw [qjc] at hc2
     exact bad 5 (by rw [hk,if_pos hc2]) (by decide)
    ·rw [qgx] at hc2
     exact good (by rw [hk,if_neg (by omega)])
   ·rw [qx] at h0
    have:i=0:=by omega
    subst this
    exact good (by rw [hk];rfl))
 refine Ev.diag (L := λ m k=>jv m k l l l.length 0) ?_
 exact key 0 (Nat.zero_le _)
end Go.AmZ
namespace Go.AmZ
open Go Go.GxZ
theorem zN {α : Type} {l:List α} {i:Nat} {x : α} (h:l[i]? = some x):l.take (i+1)=l.take i++[x]:=by rw [List.take_add_one,h];rfl
theorem qr2 (a b:List Pw):zR (a++b)=zR a++zR b:=by unfold zR;rw [List.flatMap_append]
theorem qq4 (a b:List Pw):zY (a++b)=zY a++zY b:=by unfold zY;rw [List.flatMap_append]
theorem qrm (p:Pw):zR [p]=List.replicate p.2.toNat p.1:=by unfold zR;simp
theorem qsa (p:Pw):zY [p]=List.replicate (-p.2).toNat (apT QV [p.1]):=by unfold zY;simp
theorem qB6 (n:Nat) (x:T):szL (List.replicate n x)=n*size x:=by
 induction n with
 | zero=>simp [szL]
 | succ n ih=>rw [List.replicate_succ,qN,ih,Nat.add_mul];omega
theorem qzn (t:T):size (apT QV [t])=1+size t:=by rw [qX];show 1+(size t+0)=_;omega
theorem qmR {P:Nat->Prop} (N:Int) (hN:N<=1000000) (hend:P N.toNat) (hstep:∀ j:Nat,(j:Int)<N->iw .i64 (qh (j:Int) 1)=((j+1:Nat):Int)->P (j+1)->P j):∀ j:Nat,j<=N.toNat->P j:=by
 intro j hj
 obtain ⟨d,hd⟩:∃ d,N.toNat=j+d:=⟨N.toNat-j,by omega⟩
 induction d generalizing j with
 | zero =>
   have:j=N.toNat:=by omega
   subst this;exact hend
 | succ d ih =>
   refine hstep j (by omega) ?_ (ih (j+1) (by omega) (by omega))
   unfold qh
   rw [QC (by omega)];omega
theorem qIc {l:List Pw} {p:Pw} (hp:p∈l) (h:8<p.2):8<(zR l++zY l).length:=by
 have:(List.replicate p.2.toNat p.1).length<=(zR l).length:=Nat.le_trans (List.sublist_flatten_of_mem (List.mem_map_of_mem (f := λ p:Pw=>List.replicate p.2.toNat p.1) hp)).length_le (by unfold zR;rw [List.flatMap_def];exact Nat.le_refl _)
 rw [List.length_replicate] at this
 rw [List.length_append];omega
theorem qId {l:List Pw} {p:Pw} (hp:p∈l) (h:p.2 < -8):8<(zR l++zY l).length:=by
 have:(List.replicate (-p.2).toNat (apT QV [p.1])).length<=(zY l).length:=Nat.le_trans (List.sublist_flatten_of_mem (List.mem_map_of_mem (f := λ p:Pw=>List.replicate (-p.2).toNat (apT QV [p.1])) hp)).length_le (by unfold zY;rw [List.flatMap_def];exact Nat.le_refl _)
 rw [List.length_replicate] at this
 rw [List.length_append];omega
theorem qBP (o:List T):size (JH o)<=1+szL o:=by
 unfold JH
 split
 ·rw [qX];show 1+0<=_;omega
 ·split
  ·rename_i _ h1l
   have:o.getD 0 zT∈o:=by
    cases o with
    | nil=>cases h1l
    | cons x r=>exact List.mem_cons_self ..
   have:=qca this;omega
  ·rw [qX];exact Nat.le_refl _
theorem qoB {l:List Pw} (hsz:∀ p∈l,size p.1<=400):∀ (ks:List Pw),(∀ p∈ks,p∈l/\-8<=p.2/\p.2<=8)->(zR ks).length<=8*ks.length/\(zY ks).length<=8*ks.length/\szL (zR ks)<=3200*ks.length/\szL (zY ks)<=3208*ks.length
 | [],_=>⟨Nat.le_refl _,Nat.le_refl _,Nat.le_refl _,Nat.le_refl _⟩
 | p::ks,h=>by
   obtain ⟨i1,i2,i3,i4⟩:=qoB hsz ks λ q hq=>h q (List.mem_cons_of_mem _ hq)
   obtain ⟨h1,h2,h3⟩:=h p (List.mem_cons_self ..)
   have h4:=hsz p h1
   have e1:zR (p::ks)=List.replicate p.2.toNat p.1++zR ks:=by rw [show p::ks=[p]++ks from rfl,qr2,qrm]
   have e2:zY (p::ks)=List.replicate (-p.2).toNat (apT QV [p.1])++zY ks:=by rw [show p::ks=[p]++ks from rfl,qq4,qsa]
   have m1:p.2.toNat*size p.1<=8*400:=Nat.mul_le_mul (by omega) h4
   have m2:(-p.2).toNat*(1+size p.1)<=8*401:=Nat.mul_le_mul (by omega) (by omega)
   rw [e1,e2,qhx,qhx,qB6,qB6,qzn]
   simp only [List.length_append,List.length_replicate,List.length_cons]
   refine ⟨by omega,by omega,by omega,by omega⟩
noncomputable def qlO (o:List T):T × Int:=if 8<o.length then (zT,3) else if qT (JH o)≠0 then (zT,qT (JH o)) else (JH o,0)
theorem qoG {l:List Pw} (h:Q0 l=0):qaJ l=qlO (zR l++zY l):=by
 unfold qaJ qlO
 rw [if_neg (by omega)]
theorem qzU (l:List Pw) (hs:szP l<=1000000000):Ev (λ m _=>jY m l) (qaJ l):=by
 refine Ev.succ ?_
 simp only [qtQ,qcJ]
 refine Ev.bind (qpE l hs) (Ev.ite (λ h=>?_) λ h=>?_)
 ·rw [bnt,qg] at h
  unfold qaJ
  rw [if_pos h];exact Ev.pure _
 rw [bnf,qj] at h
 obtain ⟨_,hlen,hN,hV⟩:=qa0 h
 have hsz:∀ p∈l,size p.1<=400 := λ p hp=>Ql (hV p hp).1
 rw [qoG h]
 have key:=qs (P := λ i=>(∀ p∈l.take i,p∈l/\-8<=p.2/\p.2<=8)->Ev (λ m k=>(qw m k).1 l l.length i 0 [] 0 [] (zR (l.take i)) (zY (l.take i))) (qlO (zR l++zY l))) l (by omega)
  (λ hc hb=>by
   refine Ev.loop ?_
   simp only [qjJ,qcC,qi]
   rw [List.take_length] at hb |-
   obtain ⟨b1,b2,b3,b4⟩:=qoB hsz l hb
   refine Ev.cf hc (Ev.bind (qs3 (zR l) (zY l) (by omega)) ?_)
   have ho:szL (zR l++zY l)<=10000000:=by rw [qhx];omega
   generalize zR l++zY l=o at *
   have hol:=jn o
   have hoz:=qBP o
   unfold qlO
   refine Ev.ite (λ h8=>?_) λ h8=>?_
   ·rw [qy] at h8
    rw [if_pos (by omega)];exact Ev.pure _
   rw [qx] at h8
   rw [if_neg (by omega)]
   have fin:∀ u:T,u=JH o->Ev (λ m _=>qa (ya m u) λ v=>cond (qe (ieq v 0)) (some (T.mk 0 [] 0 [],v)) (some (u,0))) (if qT (JH o)≠0 then (zT,qT (JH o)) else (JH o,0)):=by
    intro u hu
    subst hu
    refine Ev.bind (qdy _ (by omega)) (Ev.ite (λ h=>?_) λ h=>?_)
    ·rw [bnt,qg] at h
     rw [if_pos h];exact Ev.pure _
    ·rw [bnf,qj] at h
     rw [if_neg (by omega)];exact Ev.pure _
   have app:∀ (n:List UInt8) (x:List T),Ev (λ m _=>qcd m n x) (apT n x) := λ n x=>Ev.succ (Ev.pure _)
   refine Ev.bind (app [109,117,108] o) (Ev.ite (λ h0=>?_) λ h0=>?_)
   ·rw [qj] at h0
    exact Ev.bind (app [111,110,101] []) (fin _ (by unfold JH;rw [if_pos (by omega)];rfl))
   ·rw [qg] at h0
    refine Ev.ite (λ h1=>?_) λ h1=>?_
    ·rw [qj] at h1
     refine Ev.some (a:=o.getD 0 zT) ?_ (fin _ (by unfold JH;rw [if_neg (by omega),if_pos (by omega)]))
     rw [JA,List.getD_eq_getElem?_getD]
     cases o with
     | nil=>simp at h1
     | cons x r=>rfl
    ·rw [qg] at h1
     exact fin _ (by unfold JH;rw [if_neg (by omega),if_neg (by omega)];rfl))
  (λ i p hx hd hc hg hi hP hb=>by
   refine Ev.loop ?_
   simp only [qjJ,qcC]
   have hm:=List.mem_of_getElem? hx
   have hn:=hN p hm
   have hz:=hsz p hm
   have hib:=(List.getElem?_eq_some_iff.1 hx).1
   refine Ev.ct hc (Ev.some hg (Ev.ite (λ h8=>?_) λ h8=>?_))
   ·rw [qy] at h8
    unfold qlO
    rw [if_pos (qIc hm h8)];exact Ev.pure _
   rw [qx] at h8
   refine Ev.ite (λ h9=>?_) λ h9=>?_
   ·rw [qy] at h9
    unfold qlO
    rw [if_pos (qId hm h9)];exact Ev.pure _
   rw [qx] at h9
   obtain ⟨b1,b2,b3,b4⟩:=qoB hsz _ hb
   have htl:(l.take i).length<=200:=by rw [List.length_take];omega
   have hP:=hP λ q hq=>by
    rw [zN hx] at hq
    rcases List.mem_append.1 hq with hq | hq
    ·exact hb q hq
    ·rw [show q=p from by simpa using hq];exact ⟨hm,h9,h8⟩
   rw [zN hx,qr2,qq4,qrm,qsa] at hP
   generalize zR (l.take i)=P0 at *
   generalize zY (l.take i)=N0 at *
   have k3:=qmR (P := λ j=>Ev (λ m k=>(qw m k).2.2 l l.length i (-p.2) j 0 [] 0 p.1.kind p.1.name p.1.sort p.1.kids p.2 [] (P0++List.replicate p.2.toNat p.1) (N0++List.replicate j (apT QV [p.1]))) (qlO (zR l++zY l))) (-p.2) (by omega)
    (by
     refine Ev.loop ?_
     simp only [qj4,qcx]
     refine Ev.cf (qx.2 (by omega)) ?_
     rw [hi]
     exact hP)
    (λ j hj hji hPj=>by
     refine Ev.loop ?_
     simp only [qj4,qcx,qi]
     rw [show T.mk p.1.kind p.1.name p.1.sort p.1.kids=p.1 from qi p.1,hji]
     refine Ev.ct (qy.2 hj) (Ev.bind (qkM p.1 (by omega)) (Ev.bind (a:=apT QV [p.1]) (Ev.succ (Ev.pure _)) (Ev.ct (q9 (by rw [List.length_append,List.length_replicate];omega) (by omega)) ?_)))
     refine hPj.congr λ m k=>?_
     rw [List.replicate_succ',List.append_assoc])
   have k2:=qmR (P := λ j=>Ev (λ m k=>(qw m k).2.1 l l.length i p.2 j 0 [] 0 p.1.kind p.1.name p.1.sort p.1.kids p.2 [] (P0++List.replicate j p.1) N0) (qlO (zR l++zY l))) p.2 (by omega)
    (by
     refine Ev.loop ?_
     simp only [qjA,qcL]
     refine Ev.cf (qx.2 (by omega)) ?_
     rw [show iw .i64 (yQ 0 p.2)=-p.2 from by unfold yQ;rw [QC (by omega)];omega]
     have:=k3 0 (Nat.zero_le _)
     rw [List.replicate_zero,List.append_nil] at this
     exact this)
    (λ j hj hji hPj=>by
     refine Ev.loop ?_
     simp only [qjA,qcL,qi]
     rw [show T.mk p.1.kind p.1.name p.1.sort p.1.kids=p.1 from qi p.1,hji]
     refine Ev.ct (qy.2 hj) (Ev.bind (qkM p.1 (by omega)) (Ev.ct (q9 (by rw [List.length_append,List.length_replicate];omega) (by omega)) ?_))
     refine hPj.congr λ m k=>?_
     rw [List.replicate_succ',List.append_assoc])
   have:=k2 0 (Nat.zero_le _)
   rw [List.replicate_zero,List.append_nil] at this
   exact this)
 refine Ev.diag (L := λ m k=>(qw m k).1 l l.length 0 0 [] 0 [] [] []) ?_
 exact (key 0 (Nat.zero_le _)) (λ p hp=>by rw [List.take_zero] at hp;cases hp)
theorem qIa (l:List Pw) (hs:szP l<=100000000):Ev (λ m _=>qbf m l) ((),l,()):=by
 have hl:=qbZ l
 refine Ev.succ ?_
 simp only [qqw,qba]
 have key:=qs (P := λ i=>Ev (λ m k=>jM m k l l.length i (l.take i)) ((),l,())) l (by omega)
  (λ hc=>by
   refine Ev.loop ?_
   simp only [qhZ,qa4]
   refine Ev.cf hc ?_
   rw [List.take_length];exact Ev.pure _)
  (λ i p hx hd hc hg hi hP=>by
   refine Ev.loop ?_
   simp only [qhZ,qa4,qi]
   have h1:=qet (List.mem_of_getElem? hx)
   have h2:(l.take i).length<=l.length:=by rw [List.length_take];omega
   refine Ev.ct hc (Ev.some hg (Ev.bind (qkM p.1 (by omega)) (Ev.ct (q9 (by omega) (by omega)) ?_)))
   rw [hi]
   refine hP.congr λ m k=>?_
   rw [zN hx])
 refine Ev.diag (L := λ m k=>jM m k l l.length 0 []) ?_
 exact key 0 (Nat.zero_le _)
theorem qwi (p:Pw) (l:List Pw):qlR (p::l)=((decide (p.2 < -1000)||decide (1000<p.2))||qlR l):=rfl
theorem qH3 (l:List Pw) (hl:l.length<=1000000000):∃ v,Ev (λ m _=>zc m l) v/\ile 0 v=qlR l:=by
 have key:=qs (P := λ i=>∃ v,Ev (λ m k=>qz m k l l.length i) v/\ile 0 v=qlR (l.drop i)) l (by omega)
  (λ hc=>by
   refine ⟨-1,Ev.loop ?_,by rw [List.drop_length];rfl⟩
   simp only [yf,qR]
   exact Ev.cf hc (Ev.pure _))
  (λ i p hx hd hc hg hi hP=>by
   obtain ⟨v,hv,hf⟩:=hP
   rw [hd,qwi]
   have hq:Ev (λ m _=>J1 m (p.1,p.2)) (decide (p.2 < -1000)||decide (1000<p.2)):=by
    refine Ev.succ ?_
    simp only [qod,qcE]
    refine Ev.ite (λ h=>?_) λ h=>?_
    ·rw [qy] at h
     exact Ev.ret (by rw [decide_eq_true h];rfl)
    ·rw [qx] at h
     exact Ev.ret (by rw [decide_eq_false (show ¬ p.2 < -1000 by omega)];rfl)
   cases hb:decide (p.2 < -1000)||decide (1000<p.2) with
   | true =>
     refine ⟨i,Ev.loop ?_,by rw [Bool.true_or,qjc];omega⟩
     simp only [yf,qR,qi]
     exact Ev.ct hc (Ev.some hg (Ev.bind hq (Ev.ct hb (Ev.pure _))))
   | false =>
     refine ⟨v,Ev.loop ?_,by rw [Bool.false_or];exact hf⟩
     simp only [yf,qR,qi]
     refine Ev.ct hc (Ev.some hg (Ev.bind hq (Ev.cf hb ?_)))
     rw [hi];exact hv)
 obtain ⟨v,hv,hf⟩:=key 0 (Nat.zero_le _)
 refine ⟨v,Ev.succ ?_,by rw [hf,List.drop_zero]⟩
 simp only [qa7,zy]
 exact Ev.diag (L := λ m k=>qz m k l l.length 0) hv
noncomputable def qnF (l:List Pw):List Pw × Int:=if qlR l then ([],7) else if 200<l.length then ([],3) else (l,0)
theorem qHQ (l:List Pw) (hl:l.length<=1000000000):Ev (λ m _=>qbg m l) (qnF l):=by
 obtain ⟨v,hv,hf⟩:=qH3 l hl
 refine Ev.succ ?_
 simp only [qql,qdS]
 have hc:Ev (λ m _=>qS m l) (qlR l):=by
  refine Ev.succ ?_
  simp only [qap,zU]
  exact Ev.bind hv (Ev.ret hf)
 unfold qnF
 refine Ev.bind hc (Ev.ite (λ h=>?_) λ h=>?_)
 ·rw [if_pos h];exact Ev.pure _
 ·rw [if_neg (by rw [h];decide)]
  refine Ev.ite (λ h2=>?_) λ h2=>?_
  ·rw [qy] at h2
   rw [if_pos (by omega)];exact Ev.pure _
  ·rw [qx] at h2
   rw [if_neg (by omega)];exact Ev.pure _
theorem qD1 (S:Nat):∀ l:List Pw,(∀ p∈l,size p.1<=S)->szP l<=l.length*S
 | [],_=>by simp [szP]
 | p::l,h=>by
   have h1:=qD1 S l λ q hq=>h q (List.mem_cons_of_mem _ hq)
   have h2:=h p (List.mem_cons_self ..)
   rw [qaq,List.length_cons,Nat.add_mul];omega
theorem qtB (a b:List Pw):qjK a b=if Q0 a≠0 then ([],Q0 a) else if Q0 b≠0 then ([],Q0 b) else qnF (QG a b):=rfl
theorem qgv {a b:List Pw} (ha:Q0 a=0) (hb:Q0 b=0) (j:Nat) :
  Jx (QG a (b.take j))/\(QG a (b.take j)).length<=400/\szP (QG a (b.take j))<=160000/\Qq (QG a (b.take j))<=400000:=by
 obtain ⟨g1,l1,k1,v1⟩:=qa0 ha
 obtain ⟨g2,l2,k2,v2⟩:=qa0 hb
 have hm:∀ p∈b.take j,p∈b := λ p hp=>List.mem_of_mem_take hp
 obtain ⟨h1,h2,h3,h4⟩:=qCk ha hb 400 (λ p hp=>Ql (v1 p hp).1) (λ p hp=>Ql (v2 p hp).1) j
 have h5:=qD1 400 _ h4
 obtain ⟨h6,_⟩:=qrg (b.take j) a
 have h7:=qmq 1000 a k1
 have h8:=qmq 1000 (b.take j) λ p hp=>k2 p (hm p hp)
 have h9:(b.take j).length<=200:=by rw [List.length_take];omega
 refine ⟨qpG _ _ g1 λ p hp=>g2.2 p (hm p hp),h2,Nat.le_trans h5 (Nat.mul_le_mul_right 400 h2),?_⟩
 have m1:a.length*1000<=200*1000:=Nat.mul_le_mul_right _ l1
 have m2:(b.take j).length*1000<=200*1000:=Nat.mul_le_mul_right _ h9
 omega
theorem qIJ (a b:List Pw) (ha:szP a<=100000000) (hb:szP b<=100000000):Ev (λ m _=>qdB m a b) (qjK a b):=by
 have hl:=qbZ b
 refine Ev.succ ?_
 simp only [qu6,qdd]
 rw [qtB]
 refine Ev.bind (qpE a (by omega)) (Ev.ite (λ h=>?_) λ h=>?_)
 ·rw [bnt,qg] at h
  rw [if_pos h];exact Ev.pure _
 rw [bnf,qj] at h
 rw [if_neg (by omega)]
 refine Ev.bind (qpE b (by omega)) (Ev.ite (λ h2=>?_) λ h2=>?_)
 ·rw [bnt,qg] at h2
  rw [if_pos h2];exact Ev.pure _
 rw [bnf,qj] at h2
 rw [if_neg (by omega)]
 refine Ev.bind (qIa a ha) ?_
 have key:=qs (P := λ i=>Ev (λ m k=>Ji m k b b.length i (QG a (b.take i))) (qnF (QG a b))) b (by omega)
  (λ hc=>by
   refine Ev.loop ?_
   simp only [qk1,qde]
   rw [List.take_length]
   obtain ⟨_,b2,_,_⟩:=qgv h h2 b.length
   rw [List.take_length] at b2
   exact Ev.cf hc (Ev.bind (qHQ _ (by omega)) (Ev.pure _)))
  (λ i p hx hd hc hg hi hP=>by
   refine Ev.loop ?_
   simp only [qk1,qde,qi]
   have hm:=List.mem_of_getElem? hx
   obtain ⟨b1,b2,b3,b4⟩:=qgv h h2 i
   obtain ⟨_,_,hn,hv⟩:=qa0 h2
   have hz:=Ql (hv p hm).1
   have hnp:=hn p hm
   refine Ev.ct hc (Ev.some hg (Ev.bind (qt5 b1.1 p.1 p.2 (by omega) (by omega) (by omega)) ?_))
   rw [hi]
   refine hP.congr λ m k=>?_
   rw [zN hx,qvX])
 refine Ev.diag (L := λ m k=>Ji m k b b.length 0 a) ?_
 exact key 0 (Nat.zero_le _)
end Go.AmZ
namespace Go.AmZ
open Go Go.GxZ
theorem qyo (t:T):Ev (λ m _=>JX m t) (qcH t):=by
 refine Ev.succ ?_
 simp only [qtV,qfB]
 unfold qcH
 by_cases h3:t.kind=3
 ·refine Ev.ct (qj.2 h3) (Ev.ite (λ h=>?_) λ h=>(Ev.ite (λ h2=>?_) λ h2=>?_))
  ·rw [yT] at h
   exact Ev.ret (by rw [h3,h];rfl)
  ·rw [yT] at h2
   exact Ev.ret (by rw [h3,h2];rfl)
  ·rw [jE] at h h2
   exact Ev.ret (by
    have a1:(t.name==qdQ)=false:=by rw [beq_eq_false_iff_ne];exact h
    have a2:(t.name==QV)=false:=by rw [beq_eq_false_iff_ne];exact h2
    rw [h3,a1,a2];rfl)
 ·exact Ev.cf (qg.2 h3) (Ev.ret (by have:(t.kind==3)=false:=by rw [beq_eq_false_iff_ne];exact h3
                                    rw [this];rfl))
theorem qEc (t:T):size t<=1000000000->Ev (λ m _=>yw m t) (arT t):=by
 induction t using T.ind with
 | h t ih =>
   intro hs
   have hl:=yh t
   refine Ev.succ ?_
   simp only [qxe,qeB,qi]
   refine Ev.bind (qyo t) (Ev.ite (λ h=>?_) λ h=>?_)
   ·rw [bnt] at h
    exact Ev.ret (by rw [qtx,h];rfl)
   rw [bnf] at h
   obtain ⟨h3,hname⟩:=qpK.1 h
   have har:arT t=(arK t&&(t.kids.map arT).all id):=by rw [qtx,h];rfl
   have loop:arK t=true->Ev (λ m _=>QO m (yw m) m t.kids.length 0 t.kind t.name t.sort t.kids) (arT t):=by
    intro hk
    rw [har,hk,Bool.true_and]
    have key:=qs (P := λ i=>Ev (λ m k=>QO m (yw m) k t.kids.length i t.kind t.name t.sort t.kids) (((t.kids.drop i).map arT).all id)) t.kids (by omega)
     (λ hc=>by
      refine Ev.loop ?_
      simp only [qmh,qec]
      refine Ev.cf hc (Ev.ret ?_)
      rw [List.drop_length];rfl)
     (λ i x hx hd hc hg hi hP=>by
      refine Ev.loop ?_
      simp only [qmh,qec,qi]
      have hm:=List.mem_of_getElem? hx
      have h1:=jg t x hm
      rw [hd,List.map_cons,List.all_cons]
      refine Ev.ct hc (Ev.some hg (Ev.bind (ih x hm (by omega)) (Ev.ite (λ hb=>?_) λ hb=>?_)))
      ·rw [bnt] at hb
       rw [hb];exact Ev.pure _
      ·rw [bnf] at hb
       rw [hb,hi]
       exact hP)
    refine Ev.diag (L := λ m k=>QO m (yw m) k t.kids.length 0 t.kind t.name t.sort t.kids) ?_
    exact (key 0 (Nat.zero_le _)).res (by rw [List.drop_zero])
   have bad:arK t=false->Ev (λ _ _=>some false) (arT t) := λ hk=>Ev.ret (by rw [har,hk];rfl)
   rcases hname with hn1 | hn1 | hn1
   ·refine Ev.ct (by rw [hn1];rfl) (Ev.ite (λ hk=>?_) λ hk=>?_)
    ·rw [qy] at hk
     exact bad (by unfold arK;rw [hn1,decide_eq_true (show t.kids.length<2 by omega)];rfl)
    ·rw [qx] at hk
     exact Ev.cf (by rw [hn1];rfl) (Ev.cf (by rw [hn1];rfl) (loop (by unfold arK;rw [hn1,decide_eq_false (show ¬ t.kids.length<2 by omega)];rfl)))
   ·refine Ev.cf (by rw [hn1];rfl) (Ev.ct (by rw [hn1];rfl) (Ev.ite (λ hk=>?_) λ hk=>?_))
    ·rw [bnt,qg] at hk
     exact bad (by unfold arK;rw [hn1,show (t.kids.length != 1)=true from by rw [bne_iff_ne];omega];rfl)
    ·rw [bnf,qj] at hk
     exact Ev.cf (by rw [hn1];rfl) (loop (by unfold arK;rw [hn1,show (t.kids.length != 1)=false from by rw [bne_eq_false_iff_eq];omega];rfl))
   ·refine Ev.cf (by rw [hn1];rfl) (Ev.cf (by rw [hn1];rfl) (Ev.ct (by rw [hn1];rfl) (Ev.ite (λ hk=>?_) λ hk=>?_)))
    ·rw [bnt,qg] at hk
     exact bad (by unfold arK;rw [hn1,show (t.kids.length != 0)=true from by rw [bne_iff_ne];omega];rfl)
    ·rw [bnf,qj] at hk
     exact loop (by unfold arK;rw [hn1,show (t.kids.length != 0)=false from by rw [bne_eq_false_iff_eq];omega];rfl)
theorem qv6 (t:T) (n:Int):∀ (l:List Pw) (s:List Pw × Bool),(l.foldl (yN t n) s).1.length<=s.1.length+2*l.length
 | [],s=>by simp
 | x::l,s=>by
   have h:=qv6 t n l (yN t n s x)
   have:(yN t n s x).1.length<=s.1.length+2:=by
    unfold yN
    simp only [List.length_append]
    have a:(if s.2=false/\qp t x.1<0 then s.1++[(t,n)] else s.1).length<=s.1.length+1:=by split<;>simp
    have b:(if (if qp t x.1=0 then x.2+n else x.2)=0 then ([]:List Pw) else [(x.1,if qp t x.1=0 then x.2+n else x.2)]).length<=1:=by generalize (if qp t x.1=0 then x.2+n else x.2)=z;split<;>simp
    omega
   rw [List.foldl_cons,List.length_cons];omega
theorem qBy {l:List Pw} (hg:Jx l) (t:T) (n:Int) (hs:szP l+size t<=1000000000) (hn:Qq l+n.natAbs<=1000000000000):Ev (λ m _=>qfW m l t n) ((),yr l t n,()):=by
 have hl:=qbZ l
 refine Ev.succ ?_
 simp only [qAc,qgG]
 have hlen:∀ i,((l.take i).foldl (yN t n) ([],false)).1.length<=2*l.length := λ i=>by
  have:=qv6 t n (l.take i) ([],false)
  have h2:(l.take i).length<=l.length:=by rw [List.length_take];omega
  simp only [List.length_nil] at this;omega
 have key:=qs (P := λ i=>Ev (λ m k=>Jt m k n ((l.take i).foldl (yN t n) ([],false)).2 i t.kind t.name t.sort t.kids l ((l.take i).foldl (yN t n) ([],false)).1) ((),yr l t n,())) l (by omega)
  (λ hc=>by
   refine Ev.loop ?_
   simp only [qph,qgU]
   refine Ev.cf hc ?_
   have:=hlen l.length
   have he:=qGR hg.2 hg.1 t n
   rw [List.take_length] at this |-
   unfold qDx at he
   refine Ev.ite (λ h=>?_) λ h=>?_
   ·rw [bnt] at h
    rw [if_neg (by rw [h];decide)] at he
    rw [show T.mk t.kind t.name t.sort t.kids=t from qi t,he]
    exact Ev.ct (q9 (by omega) (by omega)) (Ev.pure _)
   ·rw [bnf] at h
    rw [if_pos h] at he
    rw [he]
    exact Ev.pure _)
  (λ i p hx hd hc hgt hi hP=>by
   refine Ev.loop ?_
   simp only [qph,qgU,qi]
   have hm:=List.mem_of_getElem? hx
   have h1:=qet hm
   have h2:=hlen i
   have h3:=qyA l p hm
   have hnz:=hg.2 p hm
   rw [zN hx,List.foldl_append] at hP
   generalize (l.take i).foldl (yN t n) ([],false)=s at *
   have go:∀ (b:Bool) (o:List Pw),yN t n s p=(o,b)->Ev (λ m k=>Jt m k n b ((i+1:Nat):Int) t.kind t.name t.sort t.kids l o) ((),yr l t n,()) := λ b o e=>by
    have hP:Ev (λ m k=>Jt m k n (yN t n s p).2 ((i+1:Nat):Int) t.kind t.name t.sort t.kids l (yN t n s p).1) ((),yr l t n,()):=hP
    rw [e] at hP;exact hP
   have e1:iw .i64 (qh p.2 n)=p.2+n:=by unfold qh;exact QC (by omega)
   rw [show T.mk t.kind t.name t.sort t.kids=t from qi t,hi]
   have hz0:qe (ieq p.2 0)=true:=bnt.2 (qg.2 hnz)
   refine Ev.ct hc (Ev.some hgt (Ev.bind (qhU t (by omega) p.1 (by omega)) (Ev.ite (λ h=>?_) λ h=>?_)))
   ·rw [bnt] at h
    refine Ev.ite (λ hc1=>?_) λ hc1=>?_
    ·rw [qy] at hc1
     refine Ev.ct (q9 (by omega) (by omega)) (Ev.some hgt (Ev.cf (qg.2 (by omega)) (Ev.ct hz0 (Ev.ct (q9 (by rw [List.length_append];simp only [List.length_cons,List.length_nil];omega) (by omega)) (go _ _ ?_)))))
     unfold yN
     rw [if_pos ⟨h,hc1⟩,if_neg (show ¬ qp t p.1=0 by omega),if_neg hnz,decide_eq_true (show qp t p.1<=0 by omega),Bool.or_true]
    ·rw [qx] at hc1
     refine Ev.some hgt (Ev.ite (λ hc2=>?_) λ hc2=>?_)
     ·rw [qj] at hc2
      refine Ev.ite (λ hz=>?_) λ hz=>?_
      ·rw [bnt,qg,e1] at hz
       refine Ev.ct (q9 (by omega) (by omega)) (go _ _ ?_)
       rw [e1]
       unfold yN
       rw [if_neg (by omega),if_pos hc2,if_neg hz,decide_eq_true (show qp t p.1<=0 by omega),Bool.or_true]
      ·rw [bnf,qj,e1] at hz
       refine go _ _ ?_
       unfold yN
       rw [if_neg (by omega),if_pos hc2,if_pos hz,decide_eq_true (show qp t p.1<=0 by omega),Bool.or_true,List.append_nil]
     ·rw [qg] at hc2
      refine Ev.ct hz0 (Ev.ct (q9 (by omega) (by omega)) (go _ _ ?_))
      unfold yN
      rw [if_neg (by omega),if_neg hc2,if_neg hnz,decide_eq_false (show ¬ qp t p.1<=0 by omega),Bool.or_false]
   ·rw [bnf] at h
    refine Ev.some hgt (Ev.ite (λ hc2=>?_) λ hc2=>?_)
    ·rw [qj] at hc2
     refine Ev.ite (λ hz=>?_) λ hz=>?_
     ·rw [bnt,qg,e1] at hz
      refine Ev.ct (q9 (by omega) (by omega)) (go _ _ ?_)
      rw [e1]
      unfold yN
      rw [if_neg (by omega),if_pos hc2,if_neg hz,decide_eq_true (show qp t p.1<=0 by omega),Bool.or_true]
     ·rw [bnf,qj,e1] at hz
      refine go _ _ ?_
      unfold yN
      rw [if_neg (by omega),if_pos hc2,if_pos hz,decide_eq_true (show qp t p.1<=0 by omega),Bool.or_true,List.append_nil]
    ·rw [qg] at hc2
     refine Ev.ct hz0 (Ev.ct (q9 (by omega) (by omega)) (go _ _ ?_))
     unfold yN
     rw [if_neg (by rw [h];intro hh;cases hh.1),if_neg hc2,if_neg hnz,h,Bool.true_or])
 refine Ev.diag (L := λ m k=>Jt m k n false 0 t.kind t.name t.sort t.kids l []) ?_
 exact key 0 (Nat.zero_le _)
theorem qAj (t:T):∀ (l:List Pw) (n:Int),n≠0->Jx l->szP l+size t<=80000000->Qq l+size t*n.natAbs<=100000000000->Ev (λ m _=>zM m l t n) ((),je t l n,()):=by
 induction t using T.ind with
 | h t ih =>
   intro l n hn hg hs hb
   have hl:=yh t
   have hz:=qX t
   refine Ev.succ ?_
   simp only [qs2,qcB,qi]
   have hmul:n.natAbs<=size t*n.natAbs:=Nat.le_mul_of_pos_left _ (size_pos t)
   refine Ev.bind (qyo t) (Ev.ite (λ h=>?_) λ h=>?_)
   ·rw [bnt] at h
    refine Ev.bind (qBy hg t n (by omega) (by omega)) (Ev.ret ?_)
    rw [qf7,h];rfl
   rw [bnf] at h
   obtain ⟨h3,hname⟩:=qpK.1 h
   have loop:∀ sg:Int,sg≠0->sg.natAbs=n.natAbs->qau t n=sg->Ev (λ m _=>jO m (zM m) m sg 0 t.kind t.name t.sort t.kids l) ((),je t l n,()):=by
    intro sg hsg hab hsn
    have hcol:je t l n=qeX t.kids sg l t.kids.length:=by rw [qf7,h,if_pos rfl,hsn];unfold qeX;rw [List.take_length]
    rw [hcol]
    have key:=qs (P := λ i=>Ev (λ m k=>jO m (zM m) k sg i t.kind t.name t.sort t.kids (qeX t.kids sg l i)) ((),qeX t.kids sg l t.kids.length,())) t.kids (by omega)
     (λ hc=>by
      refine Ev.loop ?_
      simp only [qjE,qcG]
      exact Ev.cf hc (Ev.pure _))
     (λ i x hx hd hc hgt hi hP=>by
      refine Ev.loop ?_
      simp only [qjE,qcG,qi]
      have hm:=List.mem_of_getElem? hx
      have h1:=jg t x hm
      obtain ⟨f1,f2,f3,f4⟩:=qnK sg hsg (t.kids.take i) l hg
      have h5:=j7 hx
      have h6:szL t.kids+1=size t:=by unfold szL;omega
      have h7:szL (t.kids.take i)*sg.natAbs+size x*sg.natAbs<=size t*n.natAbs:=by
       rw [<- Nat.add_mul,hab]
       exact Nat.mul_le_mul_right _ (by omega)
      refine Ev.ct hc (Ev.some hgt (Ev.bind (ih x hm (qeX t.kids sg l i) sg hsg f1 (by unfold qeX;omega) (by unfold qeX;omega)) ?_))
      rw [hi]
      refine hP.congr λ m k=>?_
      rw [qwr hx])
    refine Ev.diag (L := λ m k=>jO m (zM m) k sg 0 t.kind t.name t.sort t.kids l) ?_
    exact key 0 (Nat.zero_le _)
   have hneg:iw .i64 (yQ 0 n)=-n:=by
    unfold yQ
    rw [QC (by omega)];omega
   refine Ev.ite (λ hk=>?_) λ hk=>?_
   ·rw [yT] at hk
    rw [hneg]
    exact loop (-n) (by omega) (by omega) (by unfold qau;rw [if_pos (show t.name=QV from hk)])
   ·rw [jE] at hk
    exact loop n hn rfl (by unfold qau;rw [if_neg (show ¬ t.name=QV from hk)])
theorem qyE (t:T) (hs:size t<=1000000000):Ev (λ m _=>qfI m t) (ofP t):=by
 refine Ev.succ ?_
 simp only [qCs,qlK,qi]
 unfold ofP
 refine Ev.bind (qcf t hs) (Ev.ite (λ h=>?_) λ h=>?_)
 ·rw [bnt,qg] at h
  rw [if_pos h];exact Ev.pure _
 ·rw [bnf,qj] at h
  have hz:=Ql h
  rw [if_neg (by omega)]
  refine Ev.bind (qEc t hs) (Ev.ite (λ h1=>?_) λ h1=>?_)
  ·rw [bnt] at h1
   rw [if_pos h1];exact Ev.pure _
  ·rw [bnf] at h1
   rw [if_neg (by rw [h1];decide)]
   refine Ev.bind (qAj t [] 1 (by decide) Jx.nil (by show 0+_<=_;omega) (by show 0+size t*1<=_;omega)) (Ev.ite (λ h2=>?_) λ h2=>?_)
   ·rw [qy] at h2
    have h2:(200:Int)<((je t [] 1).length:Int):=h2
    rw [if_pos (by omega)];exact Ev.pure _
   ·rw [qx] at h2
    have h2:((je t [] 1).length:Int)<=200:=h2
    rw [if_neg (by omega)];exact Ev.pure _
theorem qqW (l:List Pw) (hs:szP l<=1000000000):Ev (λ m _=>qbB m l) (Q0 l):=by
 have hl:=qbZ l
 refine Ev.succ ?_
 simp only [qwL,qes]
 unfold Q0
 refine Ev.ite (λ h=>?_) λ h=>?_
 ·rw [qy] at h
  rw [if_pos (by omega)];exact Ev.pure _
 rw [qx] at h
 rw [if_neg (by omega)]
 have key:=qs (P := λ i=>Ev (λ m k=>QR m k l i) (pvL (qdt l i) (l.drop i))) l (by omega)
  (λ hc=>by
   refine Ev.loop ?_
   simp only [ql5,qeu]
   refine Ev.cf hc (Ev.ret ?_)
   rw [List.drop_length];rfl)
  (λ i x hx hd hc hg hi hP=>by
   refine Ev.loop ?_
   simp only [ql5,qeu,qi]
   have h1:=qet (List.mem_of_getElem? hx)
   rw [qjb hx] at hP
   rw [hd,pvL]
   have hk:=qxR (qdt l i) x
   have bad:∀ e:Int,pvK (qdt l i) x=e->e≠0->Ev (λ _ _=>some e) (thn (pvK (qdt l i) x) (pvL (some x.1) (l.drop (i+1)))) := λ e he h0=>by
    rw [he]
    exact Ev.ret (by unfold thn;rw [if_neg h0])
   have good:pvK (qdt l i) x=0->Ev (λ m k=>QR m k l ((i+1:Nat):Int)) (thn (pvK (qdt l i) x) (pvL (some x.1) (l.drop (i+1)))) := λ he=>by
    rw [he]
    exact hP.res (by unfold thn;rw [if_pos rfl])
   refine Ev.ct hc (Ev.some hg (Ev.bind (qcf x.1 (by omega)) (Ev.ite (λ hv=>?_) λ hv=>?_)))
   ·rw [bnt,qg] at hv
    exact bad _ (by rw [hk,if_pos hv]) hv
   rw [bnf,qj] at hv
   rw [if_neg (by omega)] at hk
   refine Ev.some hg (Ev.bind (qyo x.1) (Ev.ite (λ hv2=>?_) λ hv2=>?_))
   ·exact bad 1 (by rw [hk,if_pos hv2]) (by decide)
   rw [if_neg (by rw [hv2];decide)] at hk
   refine Ev.some hg (Ev.ite (λ hz=>?_) λ hz=>?_)
   ·rw [qj] at hz
    exact bad 7 (by rw [hk,if_pos (by omega)]) (by decide)
   rw [qg] at hz
   refine Ev.some hg (Ev.ite (λ hz2=>?_) λ hz2=>?_)
   ·rw [qy] at hz2
    exact bad 7 (by rw [hk,if_pos (by omega)]) (by decide)
   rw [qx] at hz2
   refine Ev.some hg (Ev.ite (λ hz3=>?_) λ hz3=>?_)
   ·rw [qy] at hz3
    exact bad 7 (by rw [hk,if_pos (by omega)]) (by decide)
   rw [qx] at hz3
   rw [if_neg (by omega)] at hk
   rw [hi]
   refine Ev.ite (λ h0=>?_) λ h0=>?_
   ·rw [qy] at h0
    obtain ⟨j,rfl⟩:∃ j,i=j+1:=⟨i-1,by omega⟩
    have hlt:j<l.length:=by have:=(List.getElem?_eq_some_iff.1 hx).1;omega
    obtain ⟨q,hq⟩:∃ q,l[j]? = some q:=⟨_,List.getElem?_eq_getElem hlt⟩
    have h2:=qet (List.mem_of_getElem? hq)
    rw [qjb hq] at hk bad good |-
    simp only at hk
    refine Ev.some (a:=q) (by rw [show yQ ((j+1:Nat):Int) 1=((j:Nat):Int) from by unfold yQ;omega,QC (by omega),jq,hq]) (Ev.some hg (Ev.bind (qhU q.1 (by omega) x.1 (by omega)) (Ev.ite (λ hc2=>?_) λ hc2=>?_)))
    ·rw [qjc] at hc2
     exact bad 5 (by rw [hk,if_pos hc2]) (by decide)
    ·rw [qgx] at hc2
     exact good (by rw [hk,if_neg (by omega)])
   ·rw [qx] at h0
    have:i=0:=by omega
    subst this
    exact good (by rw [hk];rfl))
 refine Ev.diag (L := λ m k=>QR m k l 0) ?_
 exact key 0 (Nat.zero_le _)
end Go.AmZ
namespace Go.AmZ
open Go Go.GxZ
theorem qsH (A:List T) (x:T) (h:(A.take 9).length<9):A.take 9++[x]=(A++[x]).take 9:=by
 rw [List.length_take] at h
 rw [List.take_of_length_le (by omega),List.take_of_length_le (by rw [List.length_append];simp only [List.length_cons,List.length_nil];omega)]
theorem qtf (A B:List T) (h:¬ (A.take 9).length<9):A.take 9=(A++B).take 9:=by
 rw [List.length_take] at h
 rw [List.take_append_of_le_length (by omega)]
theorem qFM (l:List Pw) (hl:l.length<=1000) (hn:∀ p∈l,p.2.natAbs<=1000):Ev (λ m _=>qbU m l) ((zR l++zY l).take 9):=by
 refine Ev.succ ?_
 simp only [qrs,qbR]
 have l9:∀ A:List T,(A.take 9).length<=9 := λ A=>by rw [List.length_take];omega
 have k3:=qs (P := λ i=>Ev (λ m k=>(qk m k).2.2.1 l i ((zR l++zY (l.take i)).take 9)) ((zR l++zY l).take 9)) l (by omega)
  (λ hc=>by
   refine Ev.loop ?_
   simp only [qiX,qbM]
   refine Ev.cf hc ?_
   rw [List.take_length];exact Ev.pure _)
  (λ i p hx hd hc hg hi hP=>by
   refine Ev.loop ?_
   simp only [qiX,qbM]
   refine Ev.ct hc ?_
   have hnp:=hn p (List.mem_of_getElem? hx)
   rw [zN hx,qq4,qsa,<- List.append_assoc] at hP
   generalize zR l++zY (l.take i)=A at *
   have hneg:iw .i64 (yQ 0 p.2)=-p.2:=by unfold yQ;rw [QC (by omega)];omega
   have k4:=qmR (P := λ j=>Ev (λ m k=>(qk m k).2.2.2 l i j ((A++List.replicate j (apT QV [p.1])).take 9)) ((zR l++zY l).take 9)) (-p.2) (by omega)
    (by
     refine Ev.loop ?_
     simp only [qiL,qbI,qi]
     refine Ev.some hg (Ev.cf (by rw [hneg,qx];omega) ?_)
     rw [hi]
     exact hP)
    (λ j hj hji hPj=>by
     refine Ev.loop ?_
     simp only [qiL,qbI,qi]
     rw [List.replicate_succ',<- List.append_assoc] at hPj
     have h9:=l9 (A++List.replicate j (apT QV [p.1]))
     refine Ev.some hg (Ev.ct (by rw [hneg,qy];exact hj) (Ev.ite (λ h=>?_) λ h=>?_))
     ·rw [qy] at h
      refine Ev.some hg (Ev.bind (qew [105,110,118] [p.1] (by simp)) (Ev.ct (q9 (by omega) (by omega)) ?_))
      rw [hji]
      refine hPj.congr λ m k=>?_
      rw [<- qsH _ _ (by omega)];rfl
     ·rw [qx] at h
      rw [hi]
      refine hP.congr λ m k=>?_
      obtain ⟨d,hd2⟩:∃ d,(-p.2).toNat=j+d:=⟨(-p.2).toNat-j,by omega⟩
      rw [hd2,<- List.replicate_append_replicate,<- List.append_assoc,<- qtf (A++List.replicate j (apT QV [p.1])) _ (by omega)])
   have:=k4 0 (Nat.zero_le _)
   rw [List.replicate_zero,List.append_nil] at this
   exact this)
 have k1:=qs (P := λ i=>Ev (λ m k=>(qk m k).1 l i ((zR (l.take i)).take 9)) ((zR l++zY l).take 9)) l (by omega)
  (λ hc=>by
   refine Ev.loop ?_
   simp only [qiS,qbS]
   refine Ev.cf hc ?_
   rw [List.take_length]
   have:=k3 0 (Nat.zero_le _)
   rw [List.take_zero,show zY []=[] from rfl,List.append_nil] at this
   exact this)
  (λ i p hx hd hc hg hi hP=>by
   refine Ev.loop ?_
   simp only [qiS,qbS]
   refine Ev.ct hc ?_
   have hnp:=hn p (List.mem_of_getElem? hx)
   rw [zN hx,qr2,qrm] at hP
   generalize zR (l.take i)=A at *
   have k2:=qmR (P := λ j=>Ev (λ m k=>(qk m k).2.1 l i j ((A++List.replicate j p.1).take 9)) ((zR l++zY l).take 9)) p.2 (by omega)
    (by
     refine Ev.loop ?_
     simp only [qiI,qbQ,qi]
     refine Ev.some hg (Ev.cf (by rw [qx];omega) ?_)
     rw [hi]
     exact hP)
    (λ j hj hji hPj=>by
     refine Ev.loop ?_
     simp only [qiI,qbQ,qi]
     rw [List.replicate_succ',<- List.append_assoc] at hPj
     have h9:=l9 (A++List.replicate j p.1)
     refine Ev.some hg (Ev.ct (by rw [qy];exact hj) (Ev.ite (λ h=>?_) λ h=>?_))
     ·rw [qy] at h
      refine Ev.some hg (Ev.ct (q9 (by omega) (by omega)) ?_)
      rw [hji]
      refine hPj.congr λ m k=>?_
      rw [<- qsH _ _ (by omega)]
     ·rw [qx] at h
      rw [hi]
      refine hP.congr λ m k=>?_
      obtain ⟨d,hd2⟩:∃ d,p.2.toNat=j+d:=⟨p.2.toNat-j,by omega⟩
      rw [hd2,<- List.replicate_append_replicate,<- List.append_assoc,<- qtf (A++List.replicate j p.1) _ (by omega)])
   have:=k2 0 (Nat.zero_le _)
   rw [List.replicate_zero,List.append_nil] at this
   exact this)
 refine Ev.diag (L := λ m k=>(qk m k).1 l 0 []) ?_
 exact k1 0 (Nat.zero_le _)
theorem qIl (S:Nat):∀ l:List Pw,(∀ p∈l,size p.1<=S)->(∀ x∈zR l,size x<=S)/\∀ x∈zY l,size x<=1+S:=by
 intro l h
 refine ⟨λ x hx=>?_,λ x hx=>?_⟩
 ·unfold zR at hx
  obtain ⟨p,hp,hx⟩:=List.mem_flatMap.1 hx
  rw [List.eq_of_mem_replicate hx];exact h p hp
 ·unfold zY at hx
  obtain ⟨p,hp,hx⟩:=List.mem_flatMap.1 hx
  rw [List.eq_of_mem_replicate hx,qzn]
  have:=h p hp;omega
theorem qE3 (S:Nat):∀ l:List T,(∀ x∈l,size x<=S)->szL l<=l.length*S
 | [],_=>by simp [szL]
 | x::l,h=>by
   have h1:=qE3 S l λ q hq=>h q (List.mem_cons_of_mem _ hq)
   have h2:=h x (List.mem_cons_self ..)
   rw [qN,List.length_cons,Nat.add_mul];omega
theorem qxT (l:List Pw) (hs:szP l<=1000000000):Ev (λ m _=>qa5 m l) (qaJ l):=by
 refine Ev.succ ?_
 simp only [qz0,qit,qi]
 refine Ev.bind (qqW l hs) (Ev.ite (λ h=>?_) λ h=>?_)
 ·rw [bnt,qg] at h
  unfold qaJ
  rw [if_pos h];exact Ev.pure _
 rw [bnf,qj] at h
 obtain ⟨_,hlen,hN,hV⟩:=qa0 h
 have hsz:∀ p∈l,size p.1<=400 := λ p hp=>Ql (hV p hp).1
 rw [qoG h]
 obtain ⟨s1,s2⟩:=qIl 400 l hsz
 have hall:∀ x∈zR l++zY l,size x<=401 := λ x hx=>by
  rcases List.mem_append.1 hx with hx | hx
  ·have:=s1 x hx;omega
  ·exact s2 x hx
 refine Ev.bind (qFM l (by omega) hN) ?_
 generalize zR l++zY l=A at *
 unfold qlO
 refine Ev.ite (λ h8=>?_) λ h8=>?_
 ·rw [qy,List.length_take] at h8
  rw [if_pos (by omega)];exact Ev.pure _
 rw [qx,List.length_take] at h8
 rw [if_neg (by omega),List.take_of_length_le (by omega)]
 have ho:=qE3 401 A hall
 have hoz:=qBP A
 have hm:A.length*401<=8*401:=Nat.mul_le_mul_right _ (by omega)
 have fin:∀ u:T,u=JH A->Ev (λ m _=>qa (yB m u) λ v=>cond (qe (ieq v 0)) (some (T.mk 0 [] 0 [],v)) (some (u,0))) (if qT (JH A)≠0 then (zT,qT (JH A)) else (JH A,0)):=by
  intro u hu
  subst hu
  refine Ev.bind (qcf _ (by omega)) (Ev.ite (λ h=>?_) λ h=>?_)
  ·rw [bnt,qg] at h
   rw [if_pos h];exact Ev.pure _
  ·rw [bnf,qj] at h
   rw [if_neg (by omega)];exact Ev.pure _
 refine Ev.bind (qew [109,117,108] A (by omega)) (Ev.ite (λ h0=>?_) λ h0=>?_)
 ·rw [qj] at h0
  refine Ev.bind (qew [111,110,101] [] (by simp)) (Ev.cf (qg.2 (by omega)) (fin _ (by unfold JH;rw [if_pos (by omega)];rfl)))
 ·rw [qg] at h0
  refine Ev.ite (λ h1=>?_) λ h1=>?_
  ·rw [qj] at h1
   refine Ev.some (a:=A.getD 0 zT) ?_ (fin _ (by unfold JH;rw [if_neg (by omega),if_pos (by omega)]))
   rw [JA,List.getD_eq_getElem?_getD]
   cases A with
   | nil=>simp at h1
   | cons x r=>rfl
  ·rw [qg] at h1
   exact fin _ (by unfold JH;rw [if_neg (by omega),if_neg (by omega)];rfl)
theorem qDW (l:List Pw) (hl:l.length<=1000000000):Ev (λ m _=>qcS m l) (if qlR l then 7 else if 200<l.length then 3 else 0):=by
 refine Ev.succ ?_
 simp only [qsS,qcI]
 have key:=qs (P := λ i=>Ev (λ m k=>QH m k l i) (if qlR (l.drop i) then (7:Int) else if 200<l.length then 3 else 0)) l (by omega)
  (λ hc=>by
   refine Ev.loop ?_
   simp only [qkc,qcw]
   rw [List.drop_length,if_neg (by decide)]
   refine Ev.cf hc (Ev.ite (λ h=>?_) λ h=>?_)
   ·rw [qy] at h
    rw [if_pos (by omega)];exact Ev.pure _
   ·rw [qx] at h
    rw [if_neg (by omega)];exact Ev.pure _)
  (λ i p hx hd hc hg hi hP=>by
   refine Ev.loop ?_
   simp only [qkc,qcw]
   rw [hd,qwi]
   refine Ev.ct hc (Ev.some hg (Ev.ite (λ h=>?_) λ h=>?_))
   ·rw [qy] at h
    rw [decide_eq_true h,Bool.true_or,Bool.true_or,if_pos rfl];exact Ev.pure _
   ·rw [qx] at h
    rw [decide_eq_false (show ¬ p.2 < -1000 by omega),Bool.false_or]
    refine Ev.some hg (Ev.ite (λ h2=>?_) λ h2=>?_)
    ·rw [qy] at h2
     rw [decide_eq_true h2,Bool.true_or,if_pos rfl];exact Ev.pure _
    ·rw [qx] at h2
     rw [decide_eq_false (show ¬ 1000<p.2 by omega),Bool.false_or,hi]
     exact hP)
 refine Ev.diag (L := λ m k=>QH m k l 0) ?_
 exact (key 0 (Nat.zero_le _)).res (by rw [List.drop_zero])
theorem qID (a b:List Pw) (ha:szP a<=100000000) (hb:szP b<=100000000):Ev (λ m _=>qh3 m a b) (qjK a b):=by
 have hl:=qbZ b
 have hla:=qbZ a
 refine Ev.succ ?_
 simp only [qz9,qgX]
 rw [qtB]
 refine Ev.bind (qqW a (by omega)) (Ev.ite (λ h=>?_) λ h=>?_)
 ·rw [bnt,qg] at h
  rw [if_pos h];exact Ev.pure _
 rw [bnf,qj] at h
 rw [if_neg (by omega)]
 refine Ev.bind (qqW b (by omega)) (Ev.ite (λ h2=>?_) λ h2=>?_)
 ·rw [bnt,qg] at h2
  rw [if_pos h2];exact Ev.pure _
 rw [bnf,qj] at h2
 rw [if_neg (by omega)]
 have key:=qs (P := λ i=>Ev (λ m k=>qag m k b i (QG a (b.take i))) (qnF (QG a b))) b (by omega)
  (λ hc=>by
   refine Ev.loop ?_
   simp only [qoH,qgZ]
   rw [List.take_length]
   obtain ⟨_,b2,_,_⟩:=qgv h h2 b.length
   rw [List.take_length] at b2
   refine Ev.cf hc (Ev.bind (qDW _ (by omega)) ?_)
   unfold qnF
   by_cases hf:qlR (QG a b)=true
   ·rw [if_pos hf,if_pos hf]
    exact Ev.ct rfl (Ev.pure _)
   ·rw [if_neg hf,if_neg hf]
    by_cases h200:200<(QG a b).length
    ·rw [if_pos h200,if_pos h200]
     exact Ev.ct rfl (Ev.pure _)
    ·rw [if_neg h200,if_neg h200]
     exact Ev.cf rfl (Ev.pure _))
  (λ i p hx hd hc hg hi hP=>by
   refine Ev.loop ?_
   simp only [qoH,qgZ,qi]
   have hm:=List.mem_of_getElem? hx
   obtain ⟨b1,b2,b3,b4⟩:=qgv h h2 i
   obtain ⟨_,_,hn,hv⟩:=qa0 h2
   have hz:=Ql (hv p hm).1
   have hnp:=hn p hm
   refine Ev.ct hc (Ev.some hg (Ev.some hg (Ev.bind (qBy b1 p.1 p.2 (by omega) (by omega)) ?_)))
   rw [hi]
   refine hP.congr λ m k=>?_
   rw [zN hx,qvX])
 refine Ev.ct (q9 (by simp only [List.length_nil];omega) (by omega)) ?_
 have main:Ev (λ m _=>qag m m b 0 a) (qnF (QG a b)):=Ev.diag (L := λ m k=>qag m k b 0 a) (key 0 (Nat.zero_le _))
 exact Ev.case (λ h=>by rw [h] at main |-;exact main) λ x r h=>by rw [h] at main |-;exact main
end Go.AmZ
namespace Go.AmZ
open Go Go.GxZ Go.Lib
theorem qpx {t:T} (h:qc5 t=0):qT t=0/\zh t=0:=by
 unfold qc5 at h
 exact qfG h
theorem qm6 {t:T} (h:zh t=0) {n:List UInt8} (hn:isN t n=true) {a b c:Int} (hs:qE n=(a,b,c)):a<=(t.kids.length:Int)/\(t.kids.length:Int)<=b/\∀ k∈t.kids,zh k=0:=by
 obtain ⟨h3,rfl⟩:=yC.1 hn
 obtain ⟨h1,h2⟩:=qcg h3 h
 obtain ⟨_,g1,g2,_⟩:=qq1 h3 h1
 rw [hs] at g1 g2
 exact ⟨g1,g2,h2⟩
end Go.AmZ
namespace Go.AmZ
open Go Go.GxZ
def Cl (P:T->Prop):Prop:=∀ t:T,t.kind=3->P t->∀ k∈t.kids,P k
theorem qkP:∀ (n:Nat) (a b:List T),a.length+b.length<=n->∀ x∈zl a b,x∈a\/x∈b
 | _,[],b,_,x,h=>by rw [zl] at h;exact .inr h
 | _,z::a,[],_,x,h=>by rw [zl] at h;exact .inl h
 | 0,z::a,y::b,hn,x,h=>by simp at hn
 | n+1,z::a,y::b,hn,x,h=>by
   simp only [List.length_cons] at hn
   rw [zl] at h
   split at h
   ·rcases List.mem_cons.1 h with rfl | h
    ·exact .inl (List.mem_cons_self ..)
    ·rcases qkP n a (y::b) (by simp;omega) x h with h | h
     ·exact .inl (List.mem_cons_of_mem _ h)
     ·exact .inr h
   ·split at h
    ·rcases List.mem_cons.1 h with rfl | h
     ·exact .inr (List.mem_cons_self ..)
     ·rcases qkP n (z::a) b (by simp;omega) x h with h | h
      ·exact .inl h
      ·exact .inr (List.mem_cons_of_mem _ h)
    ·rcases qkP n a b (by omega) x h with h | h
     ·exact .inl (List.mem_cons_of_mem _ h)
     ·exact .inr (List.mem_cons_of_mem _ h)
theorem qjX:∀ (ls:List (List T)) (a:List T),∀ x∈ls.foldl zl a,x∈a\/∃ l∈ls,x∈l
 | [],a,x,h => .inl h
 | l::ls,a,x,h=>by
   rcases qjX ls (zl a l) x h with h | ⟨m,hm,h⟩
   ·rcases qkP _ a l (Nat.le_refl _) x h with h | h
    ·exact .inl h
    ·exact .inr ⟨l,List.mem_cons_self ..,h⟩
   ·exact .inr ⟨m,List.mem_cons_of_mem _ hm,h⟩
theorem qHA {P:T->Prop} (hP:Cl P) (t:T):P t->∀ x∈jJ t,P x:=by
 refine T.ind (P := λ t=>P t->∀ x∈jJ t,P x) ?_ t
 intro t ih ht x hx
 rw [qjM] at hx
 split at hx
 ·cases hx
 ·split at hx
  ·rename_i hn
   rcases qjX _ _ x hx with h | ⟨l,hl,h⟩
   ·cases h
   ·obtain ⟨k,hk,rfl⟩:=List.mem_map.1 hl
    exact ih k hk (hP t (yC.1 hn).1 ht k hk) x h
  ·rw [List.mem_singleton.1 hx];exact ht
theorem qww {P:T->Prop} (hP:Cl P) {l:List T} (h:∀ k∈l,P k):∀ x∈zL l,P x:=by
 intro x hx
 rcases qjX _ _ x hx with h1 | ⟨m,hm,h1⟩
 ·cases h1
 ·obtain ⟨k,hk,rfl⟩:=List.mem_map.1 hm
  exact qHA hP k (h k hk) x h1
theorem qIY {P:T->Prop} {l:List Pw} {t:T} (n:Int) (ht:P t) (hl:∀ p∈l,P p.1):∀ p∈yr l t n,P p.1:=by
 intro p hp
 rcases qnv l t n p hp with h | h
 ·rw [h];exact ht
 ·exact hl p h
theorem qIR {P:T->Prop} (hP:Cl P) (t:T):P t->∀ (l:List Pw) (n:Int),(∀ p∈l,P p.1)->∀ p∈je t l n,P p.1:=by
 refine T.ind (P := λ t=>P t->∀ (l:List Pw) (n:Int),(∀ p∈l,P p.1)->∀ p∈je t l n,P p.1) ?_ t
 intro t ih ht l n hl
 rw [qf7]
 split
 ·rename_i hs
  have h3:=(qpK.1 hs).1
  exact qBW t.kids (qau t n) (λ l=>∀ p∈l,P p.1) (λ k hk l hl=>ih k hk (hP t h3 ht k hk) l _ hl) l hl
 ·exact qIY n ht hl
theorem qh2 {P:T->Prop} (hP:Cl P) {t:T} (ht:P t):∀ p∈(ofP t).1,P p.1:=by
 intro p hp
 unfold ofP at hp
 split at hp
 ·cases hp
 ·split at hp
  ·cases hp
  ·split at hp
   ·cases hp
   ·exact qIR hP t ht [] 1 (λ _ h=>by cases h) p hp
theorem qA7 {P:T->Prop} {a b:List Pw} (ha:∀ p∈a,P p.1) (hb:∀ p∈b,P p.1):∀ p∈(qjK a b).1,P p.1:=by
 intro p hp
 unfold qjK at hp
 split at hp
 ·cases hp
 ·split at hp
  ·cases hp
  ·split at hp
   ·cases hp
   ·split at hp
    ·cases hp
    ·rcases qrO b a p hp with ⟨q,hq,e⟩ | ⟨q,hq,e⟩
     ·rw [<- e];exact ha q hq
     ·rw [<- e];exact hb q hq
theorem qzw {l:List Pw} {x:T} (h:x∈zR l):∃ p∈l,x=p.1:=by
 unfold zR at h
 obtain ⟨p,hp,h⟩:=List.mem_flatMap.1 h
 exact ⟨p,hp,List.eq_of_mem_replicate h⟩
theorem qzI {l:List Pw} {x:T} (h:x∈zY l):∃ p∈l,x=apT QV [p.1]:=by
 unfold zY at h
 obtain ⟨p,hp,h⟩:=List.mem_flatMap.1 h
 exact ⟨p,hp,List.eq_of_mem_replicate h⟩
theorem JB:Cl λ t=>zh t=0 := λ t h3 h=>(qcg h3 h).2
theorem qoK:∀ (l:List Int),(∀ y∈l,y=0)->l.foldl thn 0=0
 | [],_=>rfl
 | z::l,h=>by
   rw [Qc,h z (List.mem_cons_self ..)]
   exact qoK l λ y hy=>h y (List.mem_cons_of_mem _ hy)
theorem qh1 {t:T} (h:qb3 t=0) (hk:∀ k∈t.kids,zh k=0):zh t=0:=by
 rw [qmt]
 split
 ·rfl
 ·rw [h]
  refine qoK _ λ y hy=>?_
  obtain ⟨k,hk',rfl⟩:=List.mem_map.1 hy
  exact hk k hk'
theorem qfE {n:List UInt8} {ks:List T} (h1:(qE n).2.2≠0) (h2:(qE n).1<=(ks.length:Int)) (h3:(ks.length:Int)<=(qE n).2.1) (h4:J5 (apT n ks)=false):qb3 (apT n ks)=0:=by
 unfold qb3
 show (if (3:Int)≠3 then (0:Int) else if (qE n).2.2=0 then 10 else if (ks.length:Int)<(qE n).1\/(qE n).2.1<(ks.length:Int) then 6 else if J5 (apT n ks) then 10 else 0)=0
 rw [if_neg (by decide),if_neg h1,if_neg (by omega),h4];rfl
theorem qjx {n:List UInt8} (h1:n≠qgn) (h2:n≠nSk) (h3:n≠qr7) (ks:List T):J5 (apT n ks)=false:=by
 unfold J5
 rw [if_neg (show ¬ (apT n ks).name=qgn from h1),if_neg (show ¬ ((apT n ks).name=nSk\/(apT n ks).name=qr7) from λ h=>h.elim h2 h3)]
theorem qa3:zh zT=0:=by rw [qmt];rfl
theorem qav {P:T->Prop} (hP:Cl P) (hz:P zT) {t:T} (h3:t.kind=3) (ht:P t) (i:Nat):P (kid t i):=by
 by_cases h:i<t.kids.length
 ·exact hP t h3 ht _ (qBw h)
 ·unfold kid
  rw [List.getD_eq_getElem?_getD,List.getElem?_eq_none (by omega)];exact hz
theorem qp7 {P:T->Prop} (hz:P zT) {l:List T} (h:∀ x∈l,P x):P (l.getD 0 zT):=by
 cases l with
 | nil=>exact hz
 | cons x r=>exact h x (List.mem_cons_self ..)
theorem qE0 {t:T} (h3:t.kind=3) (h:qT t=0):t.kids.length<=8:=by
 unfold qT at h
 split at h
 ·rename_i h1;exact absurd h h1
 ·rename_i h1
  have h2:=(qlC (t:=t) (by omega)).1
  unfold jV qlz at h2
  rw [if_neg (by omega),if_pos h3] at h2
  split at h2
  ·cases h2
  ·split at h2
   ·split at h2
    ·cases h2
    ·omega
   ·cases h2
theorem qvI {l:List Pw} (hl:∀ p∈l,zh p.1=0) (h:(qaJ l).2=0):zh (qaJ l).1=0:=by
 by_cases hp:Q0 l=0
 ·rw [qoG hp] at h |-
  unfold qlO at h |-
  by_cases h8:8<(zR l++zY l).length
  ·rw [if_pos h8] at h;cases h
  rw [if_neg h8] at h |-
  by_cases hv:qT (JH (zR l++zY l))=0
  ·rw [if_neg (by omega)]
   have hall:∀ x∈zR l++zY l,zh x=0 := λ x hx=>by
    rcases List.mem_append.1 hx with hx | hx
    ·obtain ⟨p,hp,rfl⟩:=qzw hx
     exact hl p hp
    ·obtain ⟨p,hp,rfl⟩:=qzI hx
     exact qh1 (qfE (by decide) (by show (1:Int)<=1;decide) (by show (1:Int)<=1;decide) (qjx (by decide) (by decide) (by decide) _)) λ k hk=>by rw [List.mem_singleton.1 hk];exact hl p hp
   generalize zR l++zY l=o at *
   unfold JH
   split
   ·exact qh1 (qfE (by decide) (by show (0:Int)<=0;decide) (by show (0:Int)<=0;decide) (qjx (by decide) (by decide) (by decide) _)) λ k hk=>by cases hk
   ·split
    ·exact qp7 (P := λ t=>zh t=0) qa3 hall
    ·rename_i h0 h1
     exact qh1 (qfE (by decide) (by show (2:Int)<=_;omega) (by show _<=(8:Int);omega) (qjx (by decide) (by decide) (by decide) _)) hall
  ·rw [if_pos hv] at h;exact absurd h hv
 ·unfold qaJ at h
  rw [if_pos hp] at h
  exact absurd h hp
theorem qzJ {b:T} {l:List Pw} (hb:zh b=0) (hl:∀ p∈l,zh p.1=0) (h:(qhz b l).2=0):zh (qhz b l).1=0:=by
 unfold qhz at h |-
 split at h
 ·rename_i h0;rw [if_pos h0];exact hb
 ·rename_i h0
  rw [if_neg h0]
  split at h
  ·rename_i h1;exact absurd h h1
  ·rename_i h1
   rw [if_neg h1]
   refine qh1 (qfE (by decide) (by show (2:Int)<=2;decide) (by show (2:Int)<=2;decide) (qjx (by decide) (by decide) (by decide) _)) λ k hk=>?_
   rcases List.mem_cons.1 hk with rfl | hk
   ·exact hb
   ·rw [List.mem_singleton.1 hk];exact qvI hl (by omega)
theorem qGa {n:List UInt8} {ks:List T} (hks:∀ k∈ks,zh k=0) (hK:qb3 (apT n ks)=0) (h0:(JE (apT n ks)).2=0):zh (JE (apT n ks)).1=0:=by
 have ht:zh (apT n ks)=0:=qh1 hK hks
 unfold JE at h0 |-
 by_cases hd:isD (apT n ks).name=true
 ·rw [if_pos hd]
  show zh (qiv _)=0
  unfold qiv
  split
  ·rename_i hf
   have hk0:(kid (apT n ks) 0).kind=3:=by
    unfold zW at hf
    split at hf
    ·exact (yC.1 hf).1
    ·split at hf
     ·rw [Bool.and_eq_true] at hf;exact (yC.1 hf.1).1
     ·split at hf
      ·rw [Bool.and_eq_true,Bool.and_eq_true] at hf;exact (yC.1 hf.1.1).1
      ·split at hf
       ·rw [Bool.and_eq_true,Bool.and_eq_true] at hf;exact (yC.1 hf.1.1).1
       ·split at hf
        ·exact (yC.1 hf).1
        ·cases hf
   exact qav JB qa3 hk0 (qav JB qa3 rfl ht 0) _
  ·exact ht
 rw [if_neg hd] at h0 |-
 by_cases hx:(apT n ks).name=qb1
 ·rw [if_pos hx] at h0 |-
  unfold qnB at h0 |-
  split at h0
  ·rename_i h1;exact absurd h0 h1
  rename_i h1
  rw [if_neg h1]
  split at h0
  ·cases h0
  rename_i h2
  rw [if_neg h2]
  show zh (JR (zL ks))=0
  have hv:qT (JR (zL ks))=0:=by
   have:¬ qT (JR (zL (apT n ks).kids))≠0:=h2
   exact Decidable.of_not_not this
  have hall:=qww JB hks
  generalize zL ks=o at *
  unfold JR at hv |-
  split
  ·exact qh1 (qfE (by decide) (by show (0:Int)<=0;decide) (by show (0:Int)<=0;decide) (qjx (by decide) (by decide) (by decide) _)) λ k hk=>by cases hk
  ·rename_i g0
   split
   ·exact qp7 (P := λ t=>zh t=0) qa3 hall
   ·rename_i g1
    rw [if_neg g0,if_neg g1] at hv
    have hl8:o.length<=8:=qE0 (t:=apT qb1 o) rfl hv
    exact qh1 (qfE (by decide) (by show (2:Int)<=_;omega) (by show _<=(8:Int);omega) (qjx (by decide) (by decide) (by decide) _)) hall
 rw [if_neg hx] at h0 |-
 by_cases hm:(apT n ks).name=qdQ\/(apT n ks).name=QV\/(apT n ks).name=qin
 ·rw [if_pos hm] at h0 |-
  unfold qlq at h0 |-
  split at h0
  ·rename_i h1;exact absurd h0 h1
  rename_i h1
  rw [if_neg h1]
  exact qvI (qh2 JB ht) h0
 rw [if_neg hm] at h0 |-
 by_cases he:(apT n ks).name=qeN
 ·rw [if_pos he] at h0 |-
  have hb:=qav JB qa3 (t:=apT n ks) rfl ht 0
  have hy:=qav JB qa3 (t:=apT n ks) rfl ht 1
  generalize kid (apT n ks) 0=b at *
  generalize kid (apT n ks) 1=y at *
  unfold qmI at h0 |-
  split at h0
  ·rename_i h1;exact absurd h0 h1
  rename_i h1
  rw [if_neg h1]
  split at h0
  ·rename_i hbe
   rw [if_pos hbe]
   split at h0
   ·rename_i h2;exact absurd h0 h2
   rename_i h2
   rw [if_neg h2]
   split at h0
   ·rename_i h3;exact absurd h0 h3
   rename_i h3
   rw [if_neg h3]
   have hb3:=(yC.1 hbe).1
   exact qzJ (qav JB qa3 hb3 hb 0) (qA7 (P := λ t=>zh t=0) (qh2 JB (qav JB qa3 hb3 hb 1)) (qh2 JB hy)) h0
  ·rename_i hbe
   rw [if_neg hbe]
   exact qzJ hb (qh2 JB hy) h0
 ·rw [if_neg he];exact ht
theorem qju:size zT=1:=by rw [qX];rfl
theorem qaF (t:T) (i:Nat):size (kid t i)<=size t:=by
 have:=size_pos t
 by_cases h:i<t.kids.length
 ·have:=jg t _ (qBw h);omega
 ·unfold kid
  rw [List.getD_eq_getElem?_getD,List.getElem?_eq_none (by omega)]
  show size zT<=_
  rw [qju];omega
theorem qzd (l:List Pw):size (qaJ l).1<=400:=by
 unfold qaJ
 have:=qju
 split
 ·show size zT<=_;omega
 ·split
  ·show size zT<=_;omega
  ·split
   ·show size zT<=_;omega
   ·rename_i h
    exact Ql (Decidable.of_not_not h)
theorem qAN (b:T) (l:List Pw):size (qhz b l).1<=401+size b:=by
 unfold qhz
 have:=qju
 have:=qzd l
 split
 ·show size b<=_;omega
 ·split
  ·show size zT<=_;omega
  ·rw [qX];show 1+(size b+(size (qaJ l).1+0))<=_;omega
theorem qIO (n:List UInt8) (ks:List T):size (JE (apT n ks)).1<=402+szL ks:=by
 have hz:=qju
 have ht:size (apT n ks)=1+szL ks:=qX _
 unfold JE
 split
 ·show size (qiv _)<=_
  unfold qiv
  split
  ·have h1:=qaF (apT n ks) 0
   have h2:=qaF (kid (apT n ks) 0) (if (apT n ks).name=qux then 1 else 0)
   omega
  ·omega
 ·split
  ·unfold qnB
   split
   ·show size zT<=_;omega
   ·split
    ·show size zT<=_;omega
    ·have h1:=qBa (zL (apT n ks).kids)
     have h2:=qdO (apT n ks).kids
     have h3:szL (apT n ks).kids=szL ks:=rfl
     show size (JR _)<=_
     omega
  ·split
   ·unfold qlq
    split
    ·show size zT<=_;omega
    ·have:=qzd (ofP (apT n ks)).1;omega
   ·split
    ·have h0:=qaF (apT n ks) 0
     generalize kid (apT n ks) 0=b at *
     generalize kid (apT n ks) 1=y at *
     unfold qmI
     split
     ·show size zT<=_;omega
     ·split
      ·split
       ·show size zT<=_;omega
       ·split
        ·show size zT<=_;omega
        ·have h1:=qAN (kid b 0) (qjK (ofP (kid b 1)).1 (ofP y).1).1
         have h2:=qaF b 0
         omega
      ·have h1:=qAN b (ofP y).1
       omega
    ·show size (apT n ks)<=_;omega
theorem quu (t:T):size (zD t).1<=402*size t:=by
 refine T.ind (P := λ t=>size (zD t).1<=402*size t) ?_ t
 intro t ih
 have hz:=qju
 have hp:=size_pos t
 rw [qmi]
 split
 ·show size t<=_;omega
 ·split
  ·show size zT<=_;omega
  ·have h1:=qIO t.name ((t.kids.map zD).map (·.1))
   have h2:szL ((t.kids.map zD).map (·.1))<=402*szL t.kids:=by
    have:∀ l:List T,(∀ k∈l,k∈t.kids)->szL ((l.map zD).map (·.1))<=402*szL l:=by
     intro l
     induction l with
     | nil=>intro _;exact Nat.le_refl _
     | cons k l ihl =>
       intro h
       have h1:=ih k (h k (List.mem_cons_self ..))
       have h2:=ihl λ x hx=>h x (List.mem_cons_of_mem _ hx)
       rw [List.map_cons,List.map_cons,qN,qN];omega
    exact this t.kids λ _ h=>h
   have h3:size t=1+szL t.kids:=qX t
   omega
theorem qqB:∀ (l:List Int),l.foldl thn 0=0->∀ y∈l,y=0
 | [],_,y,hy=>by cases hy
 | z::l,h,y,hy=>by
   rw [Qc] at h
   by_cases hz:z=0
   ·subst hz
    rcases List.mem_cons.1 hy with rfl | hy
    ·rfl
    ·exact qqB l h y hy
   ·rw [qK _ hz] at h;exact absurd h hz
theorem qii {t:T} (h:t.kind≠3):zD t=(t,0):=by rw [qmi,if_pos h]
theorem qGd {t:T} (h3:t.kind=3) (h:(zD t).2=0):(∀ k∈t.kids,(zD k).2=0)/\zD t=JE (apT t.name ((t.kids.map zD).map (·.1))):=by
 rw [qmi,if_neg (λ hh=>hh h3)] at h |-
 split at h
 ·rename_i h1;exact absurd h h1
 ·rename_i h1
  rw [if_neg h1]
  refine ⟨λ k hk=>?_,rfl⟩
  exact qqB _ (Decidable.of_not_not h1) _ (List.mem_map.2 ⟨_,List.mem_map.2 ⟨k,hk,rfl⟩,rfl⟩)
theorem qHh (l:List T) (h:∀ k∈l,k.kind≠3):(l.map zD).map (·.1)=l:=by
 induction l with
 | nil=>rfl
 | cons k l ih =>
   rw [List.map_cons,List.map_cons,qii (h k (List.mem_cons_self ..)),ih λ x hx=>h x (List.mem_cons_of_mem _ hx)]
theorem qy3 {t:T} (h3:t.kind=3) (h:qb3 t=0):qb3 (apT t.name ((t.kids.map zD).map (·.1)))=0:=by
 obtain ⟨h1,h2,h4,h5⟩:=qq1 h3 h
 refine qfE h1 (by simpa using h2) (by simpa using h4) ?_
 unfold J5 at h5 |-
 show (if t.name=qgn then decide ((kid (apT t.name ((t.kids.map zD).map (·.1))) 0).kind≠2) else if t.name=nSk\/t.name=qr7 then ((t.kids.map zD).map (·.1)).any λ k=>decide (k.kind=3)||decide (k.sort≠1) else false)=false
 split
 ·rename_i hn
  rw [if_pos hn] at h5
  have hk:(kid t 0).kind=2:=by simpa using h5
  cases hl:t.kids with
  | nil =>
    unfold kid at hk
    rw [hl] at hk
    exact absurd hk (by decide)
  | cons x r =>
    have hx:kid t 0=x:=by unfold kid;rw [hl];rfl
    rw [hx] at hk
    show decide ((zD x).1.kind≠2)=false
    rw [qii (by omega)]
    simpa using hk
 ·rename_i hn
  rw [if_neg hn] at h5
  split
  ·rename_i hs
   rw [if_pos hs] at h5
   rw [qHh t.kids λ k hk hk3=>?_]
   ·exact h5
   ·have:=List.any_eq_false.1 h5 k hk
    rw [hk3] at this
    exact this rfl
  ·rfl
theorem qGY (t:T):zh t=0->(zD t).2=0->zh (zD t).1=0:=by
 refine T.ind (P := λ t=>zh t=0->(zD t).2=0->zh (zD t).1=0) ?_ t
 intro t ih hc h0
 by_cases h3:t.kind=3
 ·obtain ⟨h1,h2⟩:=qGd h3 h0
  obtain ⟨g1,g2⟩:=qcg h3 hc
  rw [h2] at h0 |-
  refine qGa (λ k hk=>?_) (qy3 h3 g1) h0
  obtain ⟨q,hq,rfl⟩:=List.mem_map.1 hk
  obtain ⟨j,hj,rfl⟩:=List.mem_map.1 hq
  exact ih j hj (g2 j hj) (h1 j hj)
 ·rw [qii h3];exact hc
end Go.AmZ
namespace Go.AmZ
open Go Go.GxZ
theorem zu (t:T) {b:Bool} (h:zW t=b):qiv t=if b then kid (kid t 0) (if t.name=qux then 1 else 0) else t:=by unfold qiv;rw [h]
theorem qb7 {t:T} (h:zh t=0) {n:List UInt8} (hn:isN t n=true) {a b c:Int} (hs:qE n=(a,b,c)) {i:Nat} (hi:(i:Int)<a):qc t.kids (i:Int)=some (kid t i):=by
 have:=(qm6 h hn hs).1
 exact quw (by omega)
theorem qB9 (t:T) (h3:t.kind=3) (hc:zh t=0) (hD:isD t.name=true) (hs:size t<=1000000000):Ev (λ m _=>qaj m t) (qiv t):=by
 have hz:∀ i,size (kid t i)<=size t:=qaF t
 have hzz:∀ i j,size (kid (kid t i) j)<=1000000000 := λ i j=>by have:=qaF (kid t i) j;have:=hz i;omega
 have hzzz:∀ i j k,size (kid (kid (kid t i) j) k)<=1000000000 := λ i j k=>by have:=qaF (kid (kid t i) j) k;have:=hzz i j;omega
 have hck:∀ i,zh (kid t i)=0 := λ i=>qav JB qa3 h3 hc i
 have hckk:∀ i j,(kid t i).kind=3->zh (kid (kid t i) j)=0 := λ i j h=>qav JB qa3 h (hck i) j
 have isT:isN t t.name=true:=yC.2 ⟨h3,rfl⟩
 have k0:∀ {u:T} {n:List UInt8},zh u=0->isN u n=true->∀ {b c:Int},qE n=(1,b,c)->qc u.kids 0=some (kid u 0) := λ h hn _ _ e=>qb7 (i:=0) h hn e (by decide)
 have k20:∀ {u:T} {n:List UInt8},zh u=0->isN u n=true->∀ {b c:Int},qE n=(2,b,c)->qc u.kids 0=some (kid u 0) := λ h hn _ _ e=>qb7 (i:=0) h hn e (by decide)
 have k21:∀ {u:T} {n:List UInt8},zh u=0->isN u n=true->∀ {b c:Int},qE n=(2,b,c)->qc u.kids 1=some (kid u 1) := λ h hn _ _ e=>qb7 (i:=1) h hn e (by decide)
 have sP:qE qnz=(2,2,1):=by decide
 have sE:qE qnc=(2,2,1):=by decide
 have sA:qE qhP=(2,2,1):=by decide
 have sK:qE nPk=(1,1,1):=by decide
 have sS:qE qez=(2,2,1):=by decide
 unfold isD at hD
 simp only [Bool.or_eq_true,beq_iff_eq] at hD
 refine Ev.succ ?_
 simp only [qrF,qeS,qi]
 have one:∀ {a b c:Int},qE t.name=(a,b,c)->a=b->(t.kids.length:Int)=a := λ e hab=>by
  have:=qm6 hc isT e;omega
 rcases hD with ((((hn | hn) | hn) | hn) | hn) | hn
 ·have hl:=one (a:=1) (b:=1) (c:=3) (by rw [hn];decide) rfl
  refine Ev.some (qdl (by omega)) (Ev.cf (qx.2 (by omega)) (Ev.ct (by rw [hn];rfl) (Ev.bind (qjm _ _) ?_)))
  have hf:zW t=isN (kid t 0) qnz:=by unfold zW;rw [if_pos (.inl hn)]
  refine Ev.ite (λ h=>?_) λ h=>?_
  ·refine Ev.some (k20 (hck 0) h sP) (Ev.ret ?_)
   rw [zu t (hf.trans h),if_pos rfl,if_neg (by rw [hn];decide)]
  ·refine Ev.ret ?_
   rw [zu t (hf.trans h),if_neg (by decide)]
 ·have hl:=one (a:=1) (b:=1) (c:=3) (by rw [hn];decide) rfl
  refine Ev.some (qdl (by omega)) (Ev.cf (qx.2 (by omega)) (Ev.cf (by rw [hn];rfl) (Ev.ct (by rw [hn];rfl) (Ev.bind (qjm _ _) ?_))))
  have hf:zW t=isN (kid t 0) qnz:=by unfold zW;rw [if_pos (.inr hn)]
  refine Ev.ite (λ h=>?_) λ h=>?_
  ·refine Ev.some (k21 (hck 0) h sP) (Ev.ret ?_)
   rw [zu t (hf.trans h),if_pos rfl,if_pos hn]
  ·refine Ev.ret ?_
   rw [zu t (hf.trans h),if_neg (by decide)]
 ·have hl:=one (a:=2) (b:=2) (c:=3) (by rw [hn];decide) rfl
  refine Ev.some (qdl (by omega)) (Ev.ct (qy.2 (by omega)) (Ev.some (qpQ (by omega)) (Ev.cf (by rw [hn];rfl) (Ev.cf (by rw [hn];rfl) (Ev.ct (by rw [hn];rfl) (Ev.bind (qjm _ _) ?_))))))
  have hf:zW t=(isN (kid t 0) qnc&&yX (kid (kid t 0) 1) (kid t 1)):=by unfold zW;rw [if_neg (by rw [hn];decide),if_pos hn]
  refine Ev.ite (λ h=>?_) λ h=>?_
  ·refine Ev.some (k21 (hck 0) h sE) (Ev.bind (qmQ _ _ (hzz 0 1) (by have:=hz 1;omega)) (Ev.ite (λ h2=>?_) λ h2=>?_))
   ·refine Ev.some (k20 (hck 0) h sE) (Ev.ret ?_)
    rw [zu t (b:=true) (by rw [hf,show isN (kid t 0) qnc=true from h,h2];rfl),if_pos rfl,if_neg (by rw [hn];decide)]
   ·refine Ev.ret ?_
    rw [zu t (b:=false) (by rw [hf,h2,Bool.and_false]),if_neg (by decide)]
  ·refine Ev.ret ?_
   rw [zu t (b:=false) (by rw [hf,show isN (kid t 0) qnc=false from h];rfl),if_neg (by decide)]
 ·have hl:=one (a:=2) (b:=2) (c:=3) (by rw [hn];decide) rfl
  refine Ev.some (qdl (by omega)) (Ev.ct (qy.2 (by omega)) (Ev.some (qpQ (by omega)) (Ev.cf (by rw [hn];rfl) (Ev.cf (by rw [hn];rfl) (Ev.cf (by rw [hn];rfl) (Ev.ct (by rw [hn];rfl) (Ev.bind (qjm _ _) ?_)))))))
  have hf:zW t=(isN (kid t 0) qhP&&isN (kid (kid t 0) 1) nPk&&yX (kid (kid (kid t 0) 1) 0) (kid t 1)):=by unfold zW;rw [if_neg (by rw [hn];decide),if_neg (by rw [hn];decide),if_pos hn]
  refine Ev.ite (λ h=>?_) λ h=>?_
  ·have hk3:=(yC.1 h).1
   refine Ev.some (k21 (hck 0) h sA) (Ev.bind (qjm _ _) (Ev.ite (λ h2=>?_) λ h2=>?_))
   ·refine Ev.some (k21 (hck 0) h sA) (Ev.some (k0 (hckk 0 1 hk3) h2 sK) (Ev.bind (qmQ _ _ (hzzz 0 1 0) (by have:=hz 1;omega)) (Ev.ite (λ h4=>?_) λ h4=>?_)))
    ·refine Ev.some (k20 (hck 0) h sA) (Ev.ret ?_)
     rw [zu t (b:=true) (by rw [hf,show isN (kid t 0) qhP=true from h,show isN (kid (kid t 0) 1) nPk=true from h2,h4];rfl),if_pos rfl,if_neg (by rw [hn];decide)]
    ·refine Ev.ret ?_
     rw [zu t (b:=false) (by rw [hf,h4,Bool.and_false]),if_neg (by decide)]
   ·refine Ev.ret ?_
    rw [zu t (b:=false) (by rw [hf,show isN (kid (kid t 0) 1) nPk=false from h2,Bool.and_false,Bool.false_and]),if_neg (by decide)]
  ·refine Ev.ret ?_
   rw [zu t (b:=false) (by rw [hf,show isN (kid t 0) qhP=false from h];rfl),if_neg (by decide)]
 ·have hl:=one (a:=2) (b:=2) (c:=3) (by rw [hn];decide) rfl
  refine Ev.some (qdl (by omega)) (Ev.ct (qy.2 (by omega)) (Ev.some (qpQ (by omega)) (Ev.cf (by rw [hn];rfl) (Ev.cf (by rw [hn];rfl) (Ev.cf (by rw [hn];rfl) (Ev.cf (by rw [hn];rfl) (Ev.ct (by rw [hn];rfl) (Ev.bind (qjm _ _) ?_))))))))
  have hf:zW t=(isN (kid t 0) qez&&isN (kid t 1) nPk&&yX (kid (kid t 0) 1) (kid (kid t 1) 0)):=by unfold zW;rw [if_neg (by rw [hn];decide),if_neg (by rw [hn];decide),if_neg (by rw [hn];decide),if_pos hn]
  refine Ev.ite (λ h=>?_) λ h=>?_
  ·refine Ev.bind (qjm _ _) (Ev.ite (λ h2=>?_) λ h2=>?_)
   ·refine Ev.some (k21 (hck 0) h sS) (Ev.some (k0 (hck 1) h2 sK) (Ev.bind (qmQ _ _ (hzz 0 1) (hzz 1 0)) (Ev.ite (λ h4=>?_) λ h4=>?_)))
    ·refine Ev.some (k20 (hck 0) h sS) (Ev.ret ?_)
     rw [zu t (b:=true) (by rw [hf,show isN (kid t 0) qez=true from h,show isN (kid t 1) nPk=true from h2,h4];rfl),if_pos rfl,if_neg (by rw [hn];decide)]
    ·refine Ev.ret ?_
     rw [zu t (b:=false) (by rw [hf,h4,Bool.and_false]),if_neg (by decide)]
   ·refine Ev.ret ?_
    rw [zu t (b:=false) (by rw [hf,show isN (kid t 1) nPk=false from h2,Bool.and_false,Bool.false_and]),if_neg (by decide)]
  ·refine Ev.ret ?_
   rw [zu t (b:=false) (by rw [hf,show isN (kid t 0) qez=false from h];rfl),if_neg (by decide)]
 ·have hl:=one (a:=1) (b:=1) (c:=3) (by rw [hn];decide) rfl
  refine Ev.some (qdl (by omega)) (Ev.cf (qx.2 (by omega)) (Ev.cf (by rw [hn];rfl) (Ev.cf (by rw [hn];rfl) (Ev.cf (by rw [hn];rfl) (Ev.cf (by rw [hn];rfl) (Ev.cf (by rw [hn];rfl) (Ev.ct (by rw [hn];rfl) (Ev.bind (qjm _ _) ?_))))))))
  have hf:zW t=isN (kid t 0) qez:=by unfold zW;rw [if_neg (by rw [hn];decide),if_neg (by rw [hn];decide),if_neg (by rw [hn];decide),if_neg (by rw [hn];decide),if_pos hn]
  refine Ev.ite (λ h=>?_) λ h=>?_
  ·refine Ev.some (k20 (hck 0) h sS) (Ev.ret ?_)
   rw [zu t (hf.trans h),if_pos rfl,if_neg (by rw [hn];decide)]
  ·refine Ev.ret ?_
   rw [zu t (hf.trans h),if_neg (by decide)]
end Go.AmZ
namespace Go.AmZ
open Go Go.GxZ
noncomputable def qeT:T->Prop:=T.para λ t rs=>(t.kind=3->t.sort=0)/\∀ p∈rs,p
theorem qma (t:T):qeT t↔(t.kind=3->t.sort=0)/\∀ k∈t.kids,qeT k:=by
 have h:qeT t=((t.kind=3->t.sort=0)/\∀ p∈t.kids.map qeT,p):=T.para_eq _ _
 rw [h]
 refine and_congr_right λ _=>⟨λ h k hk=>h _ (List.mem_map_of_mem hk),λ h p hp=>?_⟩
 obtain ⟨k,hk,rfl⟩:=List.mem_map.1 hp
 exact h k hk
theorem qoS:Cl qeT := λ t _ h=>((qma t).1 h).2
theorem qzV:qeT zT:=(qma zT).2 ⟨λ h=>absurd h (by decide),λ _ h=>by cases h⟩
theorem qBC (n:List UInt8) (ks:List T) (h:∀ k∈ks,qeT k):qeT (apT n ks):=(qma _).2 ⟨λ _=>rfl,h⟩
theorem qCD {t:T} (h3:t.kind=3) (h:jV t=0):t.sort=0:=by
 unfold jV qlz at h
 rw [if_neg (by omega),if_pos h3] at h
 split at h
 ·cases h
 ·omega
theorem qES (t:T):Qw t=0->qeT t:=by
 refine T.ind (P := λ t=>Qw t=0->qeT t) ?_ t
 intro t ih h
 obtain ⟨h1,h2⟩:=qlC h
 exact (qma t).2 ⟨λ h3=>qCD h3 h1,λ k hk=>ih k hk (h2 k hk)⟩
theorem qAi {t:T} (h:qT t=0):Qw t=0:=by
 unfold qT at h
 split at h
 ·rename_i h1;exact absurd h h1
 ·rename_i h1;exact Decidable.of_not_not h1
theorem qHV {P:T->Prop} (hP:Cl P) (hz:P zT) (hap:∀ n ks,(∀ k∈ks,P k)->P (apT n ks)) {n:List UInt8} {ks:List T} (hks:∀ k∈ks,P k):P (JE (apT n ks)).1:=by
 have ht:=hap n ks hks
 have hkid:∀ {t:T} (i:Nat),P t->t.kind=3->P (kid t i) := λ i h h3=>qav hP hz h3 h i
 have hterm:∀ l:List Pw,(∀ p∈l,P p.1)->P (qaJ l).1:=by
  intro l hl
  unfold qaJ
  split
  ·exact hz
  ·split
   ·exact hz
   ·split
    ·exact hz
    ·have hall:∀ x∈zR l++zY l,P x := λ x hx=>by
       rcases List.mem_append.1 hx with hx | hx
       ·obtain ⟨p,hp,rfl⟩:=qzw hx
        exact hl p hp
       ·obtain ⟨p,hp,rfl⟩:=qzI hx
        exact hap _ _ λ k hk=>by rw [List.mem_singleton.1 hk];exact hl p hp
     show P (JH _)
     generalize zR l++zY l=o at *
     unfold JH
     split
     ·exact hap _ _ λ k hk=>by cases hk
     ·split
      ·exact qp7 hz hall
      ·exact hap _ _ hall
 have hexp:∀ (b:T) (l:List Pw),P b->(∀ p∈l,P p.1)->P (qhz b l).1:=by
  intro b l hb hl
  unfold qhz
  split
  ·exact hb
  ·split
   ·exact hz
   ·refine hap _ _ λ k hk=>?_
    rcases List.mem_cons.1 hk with rfl | hk
    ·exact hb
    ·rw [List.mem_singleton.1 hk];exact hterm l hl
 unfold JE
 split
 ·show P (qiv _)
  unfold qiv
  split
  ·rename_i hf
   have hk0:(kid (apT n ks) 0).kind=3:=by
    unfold zW at hf
    split at hf
    ·exact (yC.1 hf).1
    ·split at hf
     ·rw [Bool.and_eq_true] at hf;exact (yC.1 hf.1).1
     ·split at hf
      ·rw [Bool.and_eq_true,Bool.and_eq_true] at hf;exact (yC.1 hf.1.1).1
      ·split at hf
       ·rw [Bool.and_eq_true,Bool.and_eq_true] at hf;exact (yC.1 hf.1.1).1
       ·split at hf
        ·exact (yC.1 hf).1
        ·cases hf
   exact hkid _ (hkid 0 ht rfl) hk0
  ·exact ht
 ·split
  ·unfold qnB
   split
   ·exact hz
   ·split
    ·exact hz
    ·have hall:=qww hP hks
     show P (JR (zL ks))
     generalize zL ks=o at *
     unfold JR
     split
     ·exact hap _ _ λ k hk=>by cases hk
     ·split
      ·exact qp7 hz hall
      ·exact hap _ _ hall
  ·split
   ·unfold qlq
    split
    ·exact hz
    ·exact hterm _ (qh2 hP ht)
   ·split
    ·have hb:=hkid (t:=apT n ks) 0 ht rfl
     have hy:=hkid (t:=apT n ks) 1 ht rfl
     generalize kid (apT n ks) 0=b at *
     generalize kid (apT n ks) 1=y at *
     unfold qmI
     split
     ·exact hz
     ·split
      ·rename_i hbe
       have hb3:=(yC.1 hbe).1
       split
       ·exact hz
       ·split
        ·exact hz
        ·exact hexp _ _ (hkid 0 hb hb3) (qA7 (qh2 hP (hkid 1 hb hb3)) (qh2 hP hy))
      ·exact hexp _ _ hb (qh2 hP hy)
    ·exact ht
theorem qIA {P:T->Prop} (hP:Cl P) (hz:P zT) (hap:∀ n ks,(∀ k∈ks,P k)->P (apT n ks)) (t:T):P t->P (zD t).1:=by
 refine T.ind (P := λ t=>P t->P (zD t).1) ?_ t
 intro t ih h
 rw [qmi]
 split
 ·exact h
 ·rename_i h3
  split
  ·exact hz
  ·refine qHV hP hz hap λ k hk=>?_
   obtain ⟨q,hq,rfl⟩:=List.mem_map.1 hk
   obtain ⟨j,hj,rfl⟩:=List.mem_map.1 hq
   exact ih j hj (hP t (Decidable.of_not_not h3) h j hj)
theorem qBY {u x:T} (hc:zh u=0) (hs:qeT u):yX u (apT nPk [x])=(isN u nPk&&yX (kid u 0) x):=by
 rw [Bool.eq_iff_iff,Bool.and_eq_true,qcj,qcj]
 constructor
 ·rintro rfl
  exact ⟨yC.2 ⟨rfl,rfl⟩,rfl⟩
 ·rintro ⟨h1,h2⟩
  obtain ⟨h3,hn⟩:=yC.1 h1
  have har:=qm6 hc h1 (a:=1) (b:=1) (c:=1) (by decide)
  have hso:=((qma u).1 hs).1 h3
  cases u with
  | mk k n so ks =>
    have h3:k=3:=h3
    have hn:n=nPk:=hn
    have hso:so=0:=hso
    have hl:ks.length=1:=by
     have h1:(1:Int)<=(ks.length:Int):=har.1
     have h2:(ks.length:Int)<=1:=har.2.1
     omega
    cases ks with
    | nil=>cases hl
    | cons y r =>
      cases r with
      | nil =>
        have:y=x:=h2
        subst h3;subst hn;subst hso;subst this;rfl
      | cons z r=>simp at hl
theorem qsh (a b:T):yX a b=yX b a:=by
 rw [Bool.eq_iff_iff,qcj,qcj];exact eq_comm
theorem qAK (t:T) (h3:t.kind=3) (hc:zh t=0) (hso:qeT t) (hD:isD t.name=true) (hs:size t<=900000000):Ev (λ m _=>qcT m t) (qiv t,zW t):=by
 have hz:∀ i,size (kid t i)<=size t:=qaF t
 have hzz:∀ i j,size (kid (kid t i) j)<=900000000 := λ i j=>by have:=qaF (kid t i) j;have:=hz i;omega
 have hck:∀ i,zh (kid t i)=0 := λ i=>qav JB qa3 h3 hc i
 have hckk:∀ i j,(kid t i).kind=3->zh (kid (kid t i) j)=0 := λ i j h=>qav JB qa3 h (hck i) j
 have hsk:∀ i,qeT (kid t i) := λ i=>qav qoS qzV h3 hso i
 have hskk:∀ i j,(kid t i).kind=3->qeT (kid (kid t i) j) := λ i j h=>qav qoS qzV h (hsk i) j
 have isT:isN t t.name=true:=yC.2 ⟨h3,rfl⟩
 have k20:∀ {u:T} {n:List UInt8},zh u=0->isN u n=true->∀ {b c:Int},qE n=(2,b,c)->qc u.kids 0=some (kid u 0) := λ h hn _ _ e=>qb7 (i:=0) h hn e (by decide)
 have k21:∀ {u:T} {n:List UInt8},zh u=0->isN u n=true->∀ {b c:Int},qE n=(2,b,c)->qc u.kids 1=some (kid u 1) := λ h hn _ _ e=>qb7 (i:=1) h hn e (by decide)
 have sP:qE qnz=(2,2,1):=by decide
 have sE:qE qnc=(2,2,1):=by decide
 have sA:qE qhP=(2,2,1):=by decide
 have sS:qE qez=(2,2,1):=by decide
 unfold isD at hD
 simp only [Bool.or_eq_true,beq_iff_eq] at hD
 refine Ev.succ ?_
 simp only [qse,qfF,qi]
 have one:∀ {a b c:Int},qE t.name=(a,b,c)->a=b->(t.kids.length:Int)=a := λ e hab=>by
  have:=qm6 hc isT e;omega
 have size_pk:∀ x:T,size (apT nPk [x])=1+size x := λ x=>by rw [qX];show 1+(size x+0)=_;omega
 rcases hD with ((((hn | hn) | hn) | hn) | hn) | hn
 ·have hl:=one (a:=1) (b:=1) (c:=3) (by rw [hn];decide) rfl
  refine Ev.some (qdl (by omega)) (Ev.ct (by rw [hn];rfl) (Ev.bind (qkx _ _) ?_))
  have hf:zW t=isN (kid t 0) qnz:=by unfold zW;rw [if_pos (.inl hn)]
  refine Ev.ite (λ h=>?_) λ h=>?_
  ·refine Ev.some (k20 (hck 0) h sP) (Ev.ret ?_)
   rw [zu t (hf.trans h),if_pos rfl,if_neg (by rw [hn];decide),hf.trans h]
  ·repeat (refine Ev.cf (by rw [hn];rfl) ?_)
   refine Ev.ret ?_
   rw [zu t (hf.trans h),if_neg (by decide),hf.trans h]
 ·have hl:=one (a:=1) (b:=1) (c:=3) (by rw [hn];decide) rfl
  refine Ev.some (qdl (by omega)) (Ev.cf (by rw [hn];rfl) (Ev.ct (by rw [hn];rfl) (Ev.bind (qkx _ _) ?_)))
  have hf:zW t=isN (kid t 0) qnz:=by unfold zW;rw [if_pos (.inr hn)]
  refine Ev.ite (λ h=>?_) λ h=>?_
  ·refine Ev.some (k21 (hck 0) h sP) (Ev.ret ?_)
   rw [zu t (hf.trans h),if_pos rfl,if_pos hn,hf.trans h]
  ·repeat (refine Ev.cf (by rw [hn];rfl) ?_)
   refine Ev.ret ?_
   rw [zu t (hf.trans h),if_neg (by decide),hf.trans h]
 ·have hl:=one (a:=2) (b:=2) (c:=3) (by rw [hn];decide) rfl
  refine Ev.some (qdl (by omega)) (Ev.cf (by rw [hn];rfl) (Ev.cf (by rw [hn];rfl) (Ev.ct (by rw [hn];rfl) (Ev.bind (qkx _ _) ?_))))
  have hf:zW t=(isN (kid t 0) qnc&&yX (kid (kid t 0) 1) (kid t 1)):=by unfold zW;rw [if_neg (by rw [hn];decide),if_pos hn]
  refine Ev.ite (λ h=>?_) λ h=>?_
  ·refine Ev.some (k21 (hck 0) h sE) (Ev.some (qpQ (by omega)) (Ev.bind (qhg _ _ (by have:=hzz 0 1;omega) (by have:=hz 1;omega)) (Ev.ite (λ h2=>?_) λ h2=>?_)))
   ·have hb:zW t=true:=by rw [hf,show isN (kid t 0) qnc=true from h,h2];rfl
    refine Ev.some (k20 (hck 0) h sE) (Ev.ret ?_)
    rw [zu t hb,if_pos rfl,if_neg (by rw [hn];decide),hb]
   ·have hb:zW t=false:=by rw [hf,h2,Bool.and_false]
    repeat (refine Ev.cf (by rw [hn];rfl) ?_)
    refine Ev.ret ?_
    rw [zu t hb,if_neg (by decide),hb]
  ·have hb:zW t=false:=by rw [hf,show isN (kid t 0) qnc=false from h];rfl
   repeat (refine Ev.cf (by rw [hn];rfl) ?_)
   refine Ev.ret ?_
   rw [zu t hb,if_neg (by decide),hb]
 ·have hl:=one (a:=2) (b:=2) (c:=3) (by rw [hn];decide) rfl
  refine Ev.some (qdl (by omega)) (Ev.cf (by rw [hn];rfl) (Ev.cf (by rw [hn];rfl) (Ev.cf (by rw [hn];rfl) (Ev.ct (by rw [hn];rfl) (Ev.bind (qkx _ _) ?_)))))
  have hf:zW t=(isN (kid t 0) qhP&&isN (kid (kid t 0) 1) nPk&&yX (kid (kid (kid t 0) 1) 0) (kid t 1)):=by unfold zW;rw [if_neg (by rw [hn];decide),if_neg (by rw [hn];decide),if_pos hn]
  refine Ev.ite (λ h=>?_) λ h=>?_
  ·have hk3:=(yC.1 h).1
   refine Ev.some (k21 (hck 0) h sA) (Ev.some (qpQ (by omega)) (Ev.bind (qew nPk [kid t 1] (by simp)) (Ev.bind (qhg _ _ (by have:=hzz 0 1;omega) (by rw [size_pk];have:=hz 1;omega)) ?_)))
   rw [qBY (hckk 0 1 hk3) (hskk 0 1 hk3)]
   refine Ev.ite (λ h2=>?_) λ h2=>?_
   ·have hb:zW t=true:=by rw [hf,show isN (kid t 0) qhP=true from h,Bool.true_and,h2]
    refine Ev.some (k20 (hck 0) h sA) (Ev.ret ?_)
    rw [zu t hb,if_pos rfl,if_neg (by rw [hn];decide),hb]
   ·have hb:zW t=false:=by rw [hf,show isN (kid t 0) qhP=true from h,Bool.true_and,h2]
    repeat (refine Ev.cf (by rw [hn];rfl) ?_)
    refine Ev.ret ?_
    rw [zu t hb,if_neg (by decide),hb]
  ·have hb:zW t=false:=by rw [hf,show isN (kid t 0) qhP=false from h];rfl
   repeat (refine Ev.cf (by rw [hn];rfl) ?_)
   refine Ev.ret ?_
   rw [zu t hb,if_neg (by decide),hb]
 ·have hl:=one (a:=2) (b:=2) (c:=3) (by rw [hn];decide) rfl
  refine Ev.some (qdl (by omega)) (Ev.cf (by rw [hn];rfl) (Ev.cf (by rw [hn];rfl) (Ev.cf (by rw [hn];rfl) (Ev.cf (by rw [hn];rfl) (Ev.ct (by rw [hn];rfl) (Ev.bind (qkx _ _) ?_))))))
  have hf:zW t=(isN (kid t 0) qez&&isN (kid t 1) nPk&&yX (kid (kid t 0) 1) (kid (kid t 1) 0)):=by unfold zW;rw [if_neg (by rw [hn];decide),if_neg (by rw [hn];decide),if_neg (by rw [hn];decide),if_pos hn]
  refine Ev.ite (λ h=>?_) λ h=>?_
  ·refine Ev.some (qpQ (by omega)) (Ev.some (k21 (hck 0) h sS) (Ev.bind (qew nPk [kid (kid t 0) 1] (by simp)) (Ev.bind (qhg _ _ (by have:=hz 1;omega) (by rw [size_pk];have:=hzz 0 1;omega)) ?_)))
   rw [qBY (hck 1) (hsk 1),qsh (kid (kid t 1) 0)]
   refine Ev.ite (λ h2=>?_) λ h2=>?_
   ·have hb:zW t=true:=by rw [hf,show isN (kid t 0) qez=true from h,Bool.true_and,h2]
    refine Ev.some (k20 (hck 0) h sS) (Ev.ret ?_)
    rw [zu t hb,if_pos rfl,if_neg (by rw [hn];decide),hb]
   ·have hb:zW t=false:=by rw [hf,show isN (kid t 0) qez=true from h,Bool.true_and,h2]
    repeat (refine Ev.cf (by rw [hn];rfl) ?_)
    refine Ev.ret ?_
    rw [zu t hb,if_neg (by decide),hb]
  ·have hb:zW t=false:=by rw [hf,show isN (kid t 0) qez=false from h];rfl
   repeat (refine Ev.cf (by rw [hn];rfl) ?_)
   refine Ev.ret ?_
   rw [zu t hb,if_neg (by decide),hb]
 ·have hl:=one (a:=1) (b:=1) (c:=3) (by rw [hn];decide) rfl
  refine Ev.some (qdl (by omega)) (Ev.cf (by rw [hn];rfl) (Ev.cf (by rw [hn];rfl) (Ev.cf (by rw [hn];rfl) (Ev.cf (by rw [hn];rfl) (Ev.cf (by rw [hn];rfl) (Ev.ct (by rw [hn];rfl) (Ev.bind (qkx _ _) ?_)))))))
  have hf:zW t=isN (kid t 0) qez:=by unfold zW;rw [if_neg (by rw [hn];decide),if_neg (by rw [hn];decide),if_neg (by rw [hn];decide),if_neg (by rw [hn];decide),if_pos hn]
  refine Ev.ite (λ h=>?_) λ h=>?_
  ·refine Ev.some (k20 (hck 0) h sS) (Ev.ret ?_)
   rw [zu t (hf.trans h),if_pos rfl,if_neg (by rw [hn];decide),hf.trans h]
  ·repeat (refine Ev.cf (by rw [hn];rfl) ?_)
   refine Ev.ret ?_
   rw [zu t (hf.trans h),if_neg (by decide),hf.trans h]
end Go.AmZ
namespace Go.AmZ
open Go Go.GxZ
theorem qh6 (t:T):szP (ofP t).1<=400:=by
 unfold ofP
 split
 ·exact Nat.zero_le _
 ·rename_i h
  split
  ·exact Nat.zero_le _
  ·split
   ·exact Nat.zero_le _
   ·have h1:=qBx t [] 1
    have h2:=Ql (Decidable.of_not_not h)
    have h3:szP ([]:List Pw)=0:=rfl
    show szP (je t [] 1)<=_
    omega
theorem qBO (a b:List Pw):szP (qjK a b).1<=160000:=by
 unfold qjK
 split
 ·exact Nat.zero_le _
 ·rename_i h1
  split
  ·exact Nat.zero_le _
  ·rename_i h2
   split
   ·exact Nat.zero_le _
   ·split
    ·exact Nat.zero_le _
    ·obtain ⟨_,_,h,_⟩:=qgv (Decidable.of_not_not h1) (Decidable.of_not_not h2) b.length
     rw [List.take_length] at h
     exact h
theorem qF9 (b e:T) (hb:zh b=0) (hsb:size b<=1000000000) (hse:size e<=1000000000):Ev (λ m _=>qd0 m b e) (qmI b e):=by
 refine Ev.succ ?_
 simp only [quH,qgm,qi]
 have fin:∀ (l:List Pw) (x:T),szP l<=1000000000->Ev (λ m _=>cond (ieq (l.length:Int) 0) (some (x,(0:Int))) (qa (jY m l) λ v=>cond (qe (ieq v.2 0)) (some (T.mk 0 [] 0 [],v.2)) (qa (qej m [101,120,112] [x,v.1]) λ w=>some (w,0)))) (qhz x l):=by
  intro l x hl
  unfold qhz
  refine Ev.ite (λ h=>?_) λ h=>?_
  ·rw [qj] at h
   rw [if_pos (by omega)];exact Ev.pure _
  ·rw [qg] at h
   rw [if_neg (by omega)]
   refine Ev.bind (qzU l hl) (Ev.ite (λ h=>?_) λ h=>?_)
   ·rw [bnt,qg] at h
    rw [if_pos h];exact Ev.pure _
   ·rw [bnf,qj] at h
    rw [if_neg (by omega)]
    exact Ev.bind (qJO _ _) (Ev.pure _)
 unfold qmI
 refine Ev.bind (qze e hse) (Ev.ite (λ h=>?_) λ h=>?_)
 ·rw [bnt,qg] at h
  rw [if_pos h];exact Ev.pure _
 rw [bnf,qj] at h
 rw [if_neg (by omega)]
 refine Ev.bind (qjm _ _) (Ev.ite (λ hx=>?_) λ hx=>?_)
 ·rw [if_pos (show isN b qeN=true from hx)]
  have h1:=qaF b 1
  refine Ev.some (qb7 (i:=1) hb hx (a:=2) (b:=2) (c:=1) (by decide) (by decide)) (Ev.bind (qze _ (by omega)) (Ev.ite (λ h2=>?_) λ h2=>?_))
  ·rw [bnt,qg] at h2
   rw [if_pos h2];exact Ev.pure _
  rw [bnf,qj] at h2
  rw [if_neg (by omega)]
  have h3:=qh6 (kid b 1)
  have h4:=qh6 e
  have h5:=qBO (ofP (kid b 1)).1 (ofP e).1
  refine Ev.bind (qIJ _ _ (by omega) (by omega)) (Ev.ite (λ h2=>?_) λ h2=>?_)
  ·rw [bnt,qg] at h2
   rw [if_pos h2];exact Ev.pure _
  rw [bnf,qj] at h2
  rw [if_neg (by omega)]
  exact Ev.some (qb7 (i:=0) hb hx (a:=2) (b:=2) (c:=1) (by decide) (by decide)) (fin _ _ (by omega))
 ·rw [if_neg (by rw [show isN b qeN=false from hx];decide)]
  have h4:=qh6 e
  exact fin _ _ (by omega)
theorem qGS (b e:T) (hb:zh b=0) (hsb:size b<=1000000000) (hse:size e<=1000000000):Ev (λ m _=>qeY m b e) (qmI b e):=by
 refine Ev.succ ?_
 simp only [qxc,qhN,qi]
 have fin:∀ (l:List Pw) (x:T),szP l<=1000000000->Ev (λ m _=>cond (ieq (l.length:Int) 0) (some (x,(0:Int))) (qa (qa5 m l) λ v=>cond (qe (ieq v.2 0)) (some (T.mk 0 [] 0 [],v.2)) (qa (jA m [101,120,112] [x,v.1]) λ w=>some (w,0)))) (qhz x l):=by
  intro l x hl
  unfold qhz
  refine Ev.ite (λ h=>?_) λ h=>?_
  ·rw [qj] at h
   rw [if_pos (by omega)];exact Ev.pure _
  ·rw [qg] at h
   rw [if_neg (by omega)]
   refine Ev.bind (qxT l hl) (Ev.ite (λ h=>?_) λ h=>?_)
   ·rw [bnt,qg] at h
    rw [if_pos h];exact Ev.pure _
   ·rw [bnf,qj] at h
    rw [if_neg (by omega)]
    exact Ev.bind (qew _ _ (by simp)) (Ev.pure _)
 unfold qmI
 refine Ev.bind (qyE e hse) (Ev.ite (λ h=>?_) λ h=>?_)
 ·rw [bnt,qg] at h
  rw [if_pos h];exact Ev.pure _
 rw [bnf,qj] at h
 rw [if_neg (by omega)]
 refine Ev.bind (qkx _ _) (Ev.ite (λ hx=>?_) λ hx=>?_)
 ·rw [if_pos (show isN b qeN=true from hx)]
  have h1:=qaF b 1
  refine Ev.some (qb7 (i:=1) hb hx (a:=2) (b:=2) (c:=1) (by decide) (by decide)) (Ev.bind (qyE _ (by omega)) (Ev.ite (λ h2=>?_) λ h2=>?_))
  ·rw [bnt,qg] at h2
   rw [if_pos h2];exact Ev.pure _
  rw [bnf,qj] at h2
  rw [if_neg (by omega)]
  have h3:=qh6 (kid b 1)
  have h4:=qh6 e
  have h5:=qBO (ofP (kid b 1)).1 (ofP e).1
  refine Ev.bind (qID _ _ (by omega) (by omega)) (Ev.ite (λ h2=>?_) λ h2=>?_)
  ·rw [bnt,qg] at h2
   rw [if_pos h2];exact Ev.pure _
  rw [bnf,qj] at h2
  rw [if_neg (by omega)]
  exact Ev.some (qb7 (i:=0) hb hx (a:=2) (b:=2) (c:=1) (by decide) (by decide)) (fin _ _ (by omega))
 ·rw [if_neg (by rw [show isN b qeN=false from hx];decide)]
  have h4:=qh6 e
  exact fin _ _ (by omega)
theorem qyc {t:T} (h:isD t.name=true):JE t=(qiv t,0):=by unfold JE;rw [if_pos h]
theorem qx2 {t:T} (h:t.name=qb1):JE t=qnB t.kids:=by unfold JE;rw [if_neg (by rw [h];decide),if_pos h]
theorem qyv {t:T} (h:t.name=qdQ\/t.name=QV\/t.name=qin):JE t=qlq t:=by
 unfold JE
 rw [if_neg (by rcases h with h | h | h<;>rw [h]<;>decide),if_neg (by rcases h with h | h | h<;>rw [h]<;>decide),if_pos h]
theorem qz2 {t:T} (h:t.name=qeN):JE t=qmI (kid t 0) (kid t 1):=by
 unfold JE
 rw [if_neg (by rw [h];decide),if_neg (by rw [h];decide),if_neg (by rw [h];decide),if_pos h]
theorem qv3 {t:T} (h1:isD t.name=false) (h2:t.name≠qb1) (h3:¬ (t.name=qdQ\/t.name=QV\/t.name=qin)) (h4:t.name≠qeN):JE t=(t,0):=by
 unfold JE
 rw [if_neg (by rw [h1];decide),if_neg h2,if_neg h3,if_neg h4]
theorem qEl (n:List UInt8):(qE n).2.2=3↔isD n=true:=by
 constructor
 ·intro h
  rcases qtL n with h1 | ⟨r,hr,hn,h1⟩
  ·rw [qti h1] at h;cases h
  ·rw [qm4 h1] at h
   have:jm.all (λ r => !decide (r.2.2.2=3)||isD r.1)=true:=by decide
   have:=List.all_eq_true.1 this r hr
   rw [decide_eq_true h] at this
   rw [<- hn];exact this
 ·intro h
  unfold isD at h
  simp only [Bool.or_eq_true,beq_iff_eq] at h
  rcases h with ((((hn | hn) | hn) | hn) | hn) | hn<;>rw [hn]<;>decide
noncomputable def nks (l:List T):List T:=(l.map zD).map (·.1)
theorem qp0 (l:List T):(nks l).length=l.length:=by unfold nks;simp
theorem qD6 (l:List T):szL (nks l)<=402*szL l:=by
 induction l with
 | nil=>exact Nat.le_refl _
 | cons k l ih =>
   have:=quu k
   show szL ((zD k).1::nks l)<=_
   rw [qN,qN];omega
theorem qxX {l:List T} {i:Nat} {x:T} (h:l[i]? = some x):nks (l.take (i+1))=nks (l.take i)++[(zD x).1]:=by
 unfold nks
 rw [zN h,List.map_append,List.map_append];rfl
noncomputable def erN (l:List T):Int:=((l.map zD).map (·.2)).foldl thn 0
theorem qy6 {l:List T} {i:Nat} {x:T} (h:l.drop i=x::l.drop (i+1)):erN (l.drop i)=if (zD x).2≠0 then (zD x).2 else erN (l.drop (i+1)):=by
 unfold erN
 rw [h,List.map_cons,List.map_cons]
 by_cases hx:(zD x).2=0
 ·rw [if_neg (by omega),hx];rfl
 ·rw [if_pos hx];exact qK _ hx
theorem qBg {t:T} (h3:t.kind=3):zD t=if erN t.kids≠0 then (zT,erN t.kids) else JE (apT t.name (nks t.kids)):=by rw [qmi,if_neg (λ h=>h h3)];rfl
theorem qBl {t:T} (h3:t.kind=3) (hc:zh t=0) (he:∀ k∈t.kids,(zD k).2=0):zh (apT t.name (nks t.kids))=0/\∀ k∈nks t.kids,zh k=0:=by
 obtain ⟨g1,g2⟩:=qcg h3 hc
 have hk:∀ k∈nks t.kids,zh k=0 := λ k hk=>by
  obtain ⟨q,hq,rfl⟩:=List.mem_map.1 hk
  obtain ⟨j,hj,rfl⟩:=List.mem_map.1 hq
  exact qGY j (g2 j hj) (he j hj)
 exact ⟨qh1 (qy3 h3 g1) hk,hk⟩
theorem qDD (t:T):size t<=2000->zh t=0->Ev (λ m _=>zV m t) (zD t):=by
 induction t using T.ind with
 | h t ih =>
   intro hs hc
   have hl:=yh t
   have hz:=qX t
   refine Ev.succ ?_
   simp only [qty,qcn,qi]
   by_cases h3:t.kind=3
   rotate_left
   ·refine Ev.ct (bnt.2 (qg.2 h3)) (Ev.ret (qii h3).symm)
   refine Ev.cf (bnf.2 (qj.2 h3)) ?_
   rw [qBg h3]
   have hck:=(qcg h3 hc).2
   have key:=qs (P := λ i=>(∀ k∈t.kids.take i,(zD k).2=0)->Ev (λ m k=>QD m (zV m) k t.kids t.kids.length i t.kind t.name t.sort t.kids 0 [] 0 3 t.name 0 [] (nks (t.kids.take i))) (if erN (t.kids.drop i)≠0 then (zT,erN (t.kids.drop i)) else JE (apT t.name (nks t.kids)))) t.kids (by omega)
    (λ hlen he=>by
     refine Ev.loop ?_
     simp only [qku,qcq,qi]
     refine Ev.cf hlen ?_
     rw [List.take_length] at he |-
     rw [List.drop_length,if_neg (show ¬ erN []≠0 from λ h=>h rfl)]
     obtain ⟨c1,c2⟩:=qBl h3 hc he
     have s1:=qD6 t.kids
     have s2:szL t.kids+1=size t:=by unfold szL;omega
     have hnl:=qp0 t.kids
     generalize nks t.kids=ks at *
     have hu:T.mk 3 t.name 0 ks=apT t.name ks:=rfl
     rw [hu]
     have su:size (apT t.name ks)=1+szL ks:=qX _
     have des:isD t.name=true->Ev (λ m _=>qa (qaj m (apT t.name ks)) λ v=>some (v,(0:Int))) (JE (apT t.name ks)) := λ hd=>by
      rw [qyc (show isD (apT t.name ks).name=true from hd)]
      exact Ev.bind (qB9 _ rfl c1 hd (by omega)) (Ev.pure _)
     have prod:t.name=qdQ\/t.name=QV\/t.name=qin->Ev (λ m _=>qa (qaf m (apT t.name ks)) λ v=>cond (qe (ieq v.2 0)) (some (T.mk 0 [] 0 [],v.2)) (qa (jY m v.1) λ w=>some (w.1,w.2))) (JE (apT t.name ks)) := λ hm=>by
      rw [qyv (show (apT t.name ks).name=qdQ\/(apT t.name ks).name=QV\/(apT t.name ks).name=qin from hm)]
      unfold qlq
      have h4:=qh6 (apT t.name ks)
      refine Ev.bind (qze _ (by omega)) (Ev.ite (λ h=>?_) λ h=>?_)
      ·rw [bnt,qg] at h
       rw [if_pos h];exact Ev.pure _
      ·rw [bnf,qj] at h
       rw [if_neg (by omega)]
       exact Ev.bind (qzU _ (by omega)) (Ev.pure _)
     refine Ev.ite (λ h=>des (by rw [yT.1 h];decide)) λ h1=>?_
     refine Ev.ite (λ h=>des (by rw [yT.1 h];decide)) λ h2=>?_
     refine Ev.ite (λ h=>des (by rw [yT.1 h];decide)) λ h3'=>?_
     refine Ev.ite (λ h=>des (by rw [yT.1 h];decide)) λ h4=>?_
     refine Ev.ite (λ h=>des (by rw [yT.1 h];decide)) λ h5=>?_
     refine Ev.ite (λ h=>des (by rw [yT.1 h];decide)) λ h6=>?_
     refine Ev.ite (λ h=>?_) λ h7=>?_
     ·rw [qx2 (show (apT t.name ks).name=qb1 from yT.1 h)]
      exact Ev.bind (qIf ks (by omega)) (Ev.pure _)
     refine Ev.ite (λ h=>prod (.inl (yT.1 h))) λ h8=>?_
     refine Ev.ite (λ h=>prod (.inr (.inl (yT.1 h)))) λ h9=>?_
     refine Ev.ite (λ h=>prod (.inr (.inr (yT.1 h)))) λ h10=>?_
     refine Ev.ite (λ h=>?_) λ h11=>?_
     ·have hn:t.name=qeN:=yT.1 h
      rw [qz2 (show (apT t.name ks).name=qeN from hn)]
      have isE:isN (apT t.name ks) qeN=true:=yC.2 ⟨rfl,hn⟩
      have q0:=qaF (apT t.name ks) 0
      have q1:=qaF (apT t.name ks) 1
      refine Ev.some (qb7 (t:=apT t.name ks) (i:=0) c1 isE (a:=2) (b:=2) (c:=1) (by decide) (by decide)) (Ev.some (qb7 (t:=apT t.name ks) (i:=1) c1 isE (a:=2) (b:=2) (c:=1) (by decide) (by decide)) ?_)
      exact Ev.bind (qF9 _ _ (qav JB qa3 rfl c1 0) (by omega) (by omega)) (Ev.pure _)
     ·rw [qv3 (t:=apT t.name ks) (show isD t.name=false from by
          rw [<- Bool.not_eq_true]
          intro hd
          unfold isD at hd
          simp only [Bool.or_eq_true,beq_iff_eq] at hd
          rcases hd with ((((hn | hn) | hn) | hn) | hn) | hn
          ·exact jE.1 h1 hn
          ·exact jE.1 h2 hn
          ·exact jE.1 h3' hn
          ·exact jE.1 h4 hn
          ·exact jE.1 h5 hn
          ·exact jE.1 h6 hn) (jE.1 h7) (λ h=>by rcases h with h | h | h;exact jE.1 h8 h;exact jE.1 h9 h;exact jE.1 h10 h) (jE.1 h11)]
      exact Ev.pure _)
    (λ i x hx hd hlen hg hi hP he=>by
     refine Ev.loop ?_
     simp only [qku,qcq,qi]
     have hm:=List.mem_of_getElem? hx
     have hlt:=jg t x hm
     rw [qy6 hd]
     refine Ev.ct hlen (Ev.some hg (Ev.bind (ih x hm (by omega) (hck x hm)) (Ev.ite (λ h=>?_) λ h=>?_)))
     ·rw [bnt,qg] at h
      rw [if_pos (show (if (zD x).2≠0 then (zD x).2 else erN (t.kids.drop (i+1)))≠0 from by rw [if_pos h];exact h),if_pos h]
      exact Ev.pure _
     ·rw [bnf,qj] at h
      rw [if_neg (show ¬ (zD x).2≠0 from by omega)]
      have h4:(nks (t.kids.take i)).length<=t.kids.length:=by rw [qp0,List.length_take];omega
      refine Ev.ct (q9 (by omega) (by omega)) ?_
      have hP:=hP λ k hk=>by
       rw [zN hx] at hk
       rcases List.mem_append.1 hk with hk | hk
       ·exact he k hk
       ·rw [List.mem_singleton.1 hk];exact h
      rw [hi]
      refine hP.congr λ m k=>?_
      rw [qxX hx])
   have hk3:=h3
   refine Ev.diag (L := λ m k=>QD m (zV m) k t.kids t.kids.length 0 t.kind t.name t.sort t.kids 0 [] 0 3 t.name 0 [] []) ?_
   exact (key 0 (Nat.zero_le _)) (λ k hk=>by rw [List.take_zero] at hk;cases hk)
theorem qCm (t:T):size t<=2000->zh t=0->qeT t->Ev (λ m _=>yv m t) (zD t):=by
 induction t using T.ind with
 | h t ih =>
   intro hs hc hso
   have hl:=yh t
   have hz:=qX t
   refine Ev.succ ?_
   simp only [qu1,qdn,qi]
   by_cases h3:t.kind=3
   rotate_left
   ·refine Ev.ct (bnt.2 (qg.2 h3)) (Ev.ret (qii h3).symm)
   refine Ev.cf (bnf.2 (qj.2 h3)) ?_
   rw [qBg h3]
   have hck:=(qcg h3 hc).2
   have key:=qs (P := λ i=>(∀ k∈t.kids.take i,(zD k).2=0)->Ev (λ m k=>Jo m (yv m) k i t.kind t.name t.sort t.kids 0 [] 0 [] (nks (t.kids.take i))) (if erN (t.kids.drop i)≠0 then (zT,erN (t.kids.drop i)) else JE (apT t.name (nks t.kids)))) t.kids (by omega)
    (λ hlen he=>by
     refine Ev.loop ?_
     simp only [qlc,qds,qi]
     refine Ev.cf hlen ?_
     rw [List.take_length] at he |-
     rw [List.drop_length,if_neg (show ¬ erN []≠0 from λ h=>h rfl)]
     obtain ⟨c1,c2⟩:=qBl h3 hc he
     have o1:qeT (apT t.name (nks t.kids)):=qBC _ _ λ k hk=>by
      obtain ⟨q,hq,rfl⟩:=List.mem_map.1 hk
      obtain ⟨j,hj,rfl⟩:=List.mem_map.1 hq
      exact qIA qoS qzV qBC j (qoS t h3 hso j hj)
     have s1:=qD6 t.kids
     have s2:szL t.kids+1=size t:=by unfold szL;omega
     have hnl:=qp0 t.kids
     generalize nks t.kids=ks at *
     have su:size (apT t.name ks)=1+szL ks:=qX _
     have prod:t.name=qdQ\/t.name=QV\/t.name=qin->Ev (λ m _=>qa (qaX m (apT t.name ks)) λ w=>some (w.1,w.2)) (JE (apT t.name ks)) := λ hm=>by
      rw [qyv (show (apT t.name ks).name=qdQ\/(apT t.name ks).name=QV\/(apT t.name ks).name=qin from hm)]
      have h4:=qh6 (apT t.name ks)
      have:Ev (λ m _=>qaX m (apT t.name ks)) (qlq (apT t.name ks)):=by
       refine Ev.succ ?_
       simp only [qtr,qfL,qi]
       unfold qlq
       refine Ev.bind (qyE _ (by omega)) (Ev.ite (λ h=>?_) λ h=>?_)
       ·rw [bnt,qg] at h
        rw [if_pos h];exact Ev.pure _
       ·rw [bnf,qj] at h
        rw [if_neg (by omega)]
        exact Ev.bind (qxT _ (by omega)) (Ev.pure _)
      exact Ev.bind this (Ev.pure _)
     have hksl:=jn ks
     refine Ev.bind (qew t.name ks (by omega)) (Ev.bind (qu4 t.name) (Ev.ite (λ h=>?_) λ h1=>?_))
     ·have hd:=(qEl t.name).1 (qj.1 h)
      rw [qyc (show isD (apT t.name ks).name=true from hd)]
      exact Ev.bind (qAK _ rfl c1 o1 hd (by omega)) (Ev.pure _)
     refine Ev.ite (λ h=>?_) λ h7=>?_
     ·rw [qx2 (show (apT t.name ks).name=qb1 from yT.1 h)]
      exact Ev.bind (qH1 ks (by omega)) (Ev.pure _)
     refine Ev.ite (λ h=>prod (.inl (yT.1 h))) λ h8=>?_
     refine Ev.ite (λ h=>prod (.inr (.inl (yT.1 h)))) λ h9=>?_
     refine Ev.ite (λ h=>prod (.inr (.inr (yT.1 h)))) λ h10=>?_
     refine Ev.ite (λ h=>?_) λ h11=>?_
     ·have hn:t.name=qeN:=yT.1 h
      rw [qz2 (show (apT t.name ks).name=qeN from hn)]
      have isE:isN (apT t.name ks) qeN=true:=yC.2 ⟨rfl,hn⟩
      have q0:=qaF (apT t.name ks) 0
      have q1:=qaF (apT t.name ks) 1
      refine Ev.some (qb7 (t:=apT t.name ks) (i:=0) c1 isE (a:=2) (b:=2) (c:=1) (by decide) (by decide)) (Ev.some (qb7 (t:=apT t.name ks) (i:=1) c1 isE (a:=2) (b:=2) (c:=1) (by decide) (by decide)) ?_)
      exact Ev.bind (qGS _ _ (qav JB qa3 rfl c1 0) (by omega) (by omega)) (Ev.pure _)
     ·rw [qv3 (t:=apT t.name ks) (show isD t.name=false from by
          rw [<- Bool.not_eq_true,<- qEl]
          exact qg.1 h1) (jE.1 h7) (λ h=>by rcases h with h | h | h;exact jE.1 h8 h;exact jE.1 h9 h;exact jE.1 h10 h) (jE.1 h11)]
      exact Ev.pure _)
    (λ i x hx hd hlen hg hi hP he=>by
     refine Ev.loop ?_
     simp only [qlc,qds,qi]
     have hm:=List.mem_of_getElem? hx
     have hlt:=jg t x hm
     rw [qy6 hd]
     refine Ev.ct hlen (Ev.some hg (Ev.bind (ih x hm (by omega) (hck x hm) (qoS t h3 hso x hm)) (Ev.ite (λ h=>?_) λ h=>?_)))
     ·rw [bnt,qg] at h
      rw [if_pos (show (if (zD x).2≠0 then (zD x).2 else erN (t.kids.drop (i+1)))≠0 from by rw [if_pos h];exact h),if_pos h]
      exact Ev.pure _
     ·rw [bnf,qj] at h
      rw [if_neg (show ¬ (zD x).2≠0 from by omega)]
      have h4:(nks (t.kids.take i)).length<=t.kids.length:=by rw [qp0,List.length_take];omega
      refine Ev.ct (q9 (by omega) (by omega)) ?_
      have hP:=hP λ k hk=>by
       rw [zN hx] at hk
       rcases List.mem_append.1 hk with hk | hk
       ·exact he k hk
       ·rw [List.mem_singleton.1 hk];exact h
      rw [hi]
      refine hP.congr λ m k=>?_
      rw [qxX hx])
   refine Ev.diag (L := λ m k=>Jo m (yv m) k 0 t.kind t.name t.sort t.kids 0 [] 0 [] []) ?_
   exact (key 0 (Nat.zero_le _)) (λ k hk=>by rw [List.take_zero] at hk;cases hk)
theorem qnD (t:T):qjt t=if qc5 t≠0 then (zT,qc5 t) else if (zD t).2≠0 then (zT,(zD t).2) else if qT (zD t).1≠0 then (zT,qT (zD t).1) else zD t:=rfl
theorem qCb (t:T) (hs:size t<=1000000000):Ev (λ m _=>qcO m t) (qjt t):=by
 refine Ev.succ ?_
 simp only [qt6,qfJ,qi]
 rw [qnD]
 refine Ev.bind (qBS t hs) (Ev.ite (λ h=>?_) λ h=>?_)
 ·rw [bnt,qg] at h
  rw [if_pos h];exact Ev.pure _
 rw [bnf,qj] at h
 rw [if_neg (by omega)]
 obtain ⟨hv,hc⟩:=qpx h
 have hz:=Ql hv
 have hn:=quu t
 refine Ev.bind (qDD t (by omega) hc) (Ev.ite (λ h2=>?_) λ h2=>?_)
 ·rw [qj] at h2
  rw [if_neg (by omega)]
  refine Ev.bind (qdy _ (by omega)) (Ev.ite (λ h3=>?_) λ h3=>?_)
  ·rw [bnt,qg] at h3
   rw [if_pos h3];exact Ev.pure _
  ·rw [bnf,qj] at h3
   rw [if_neg (by omega)]
   exact Ev.ret (by rw [<- h2])
 ·rw [qg] at h2
  rw [if_pos h2]
  exact Ev.ct (bnt.2 (qg.2 h2)) (Ev.pure _)
theorem qC4 (t:T) (hs:size t<=1000000000):Ev (λ m _=>qdJ m t) (qjt t):=by
 refine Ev.succ ?_
 simp only [qvd,qgr,qi]
 rw [qnD]
 refine Ev.bind (qBn t hs) (Ev.ite (λ h=>?_) λ h=>?_)
 ·rw [bnt,qg] at h
  rw [if_pos h];exact Ev.pure _
 rw [bnf,qj] at h
 rw [if_neg (by omega)]
 obtain ⟨hv,hc⟩:=qpx h
 have hz:=Ql hv
 have hn:=quu t
 refine Ev.bind (qCm t (by omega) hc (qES t (qAi hv))) (Ev.ite (λ h2=>?_) λ h2=>?_)
 ·rw [bnt,qg] at h2
  rw [if_pos h2];exact Ev.pure _
 rw [bnf,qj] at h2
 rw [if_neg (by omega)]
 refine Ev.bind (qcf _ (by omega)) (Ev.ite (λ h3=>?_) λ h3=>?_)
 ·rw [bnt,qg] at h3
  rw [if_pos h3];exact Ev.pure _
 ·rw [bnf,qj] at h3
  rw [if_neg (by omega)]
  exact Ev.ret (by rw [<- h2])
theorem qt4 (t:T):size (qjt t).1<=400:=by
 rw [qnD]
 have:=qju
 split
 ·show size zT<=_;omega
 ·split
  ·show size zT<=_;omega
  ·split
   ·show size zT<=_;omega
   ·rename_i h
    exact Ql (Decidable.of_not_not h)
end Go.AmZ
namespace Go.AmZ
open Go Go.GxZ
noncomputable def qeZ (p:List UInt8->Bool):T->Bool:=T.para λ t rs=>(!(t.kind==3)||p t.name)&&rs.all id
theorem qpB (p:List UInt8->Bool) (t:T):qeZ p t=((!(t.kind==3)||p t.name)&&(t.kids.map (qeZ p)).all id):=T.para_eq _ _
noncomputable def QW:T->List T:=T.para λ t rs=>t::rs.flatten
theorem qfY (t:T):QW t=t::(t.kids.map QW).flatten:=T.para_eq _ _
theorem qnA (t:T):(QW t).length=size t:=by
 refine T.ind (P := λ t=>(QW t).length=size t) ?_ t
 intro t ih
 rw [qfY,qX,List.length_cons,List.length_flatten,List.map_map]
 have:t.kids.map (List.length ∘ QW)=t.kids.map size:=List.map_congr_left λ k hk=>ih k hk
 rw [this];omega
theorem qIG (t:T):∀ u∈QW t,size u<=size t:=by
 refine T.ind (P := λ t=>∀ u∈QW t,size u<=size t) ?_ t
 intro t ih u hu
 rw [qfY] at hu
 rcases List.mem_cons.1 hu with rfl | hu
 ·exact Nat.le_refl _
 ·obtain ⟨l,hl,hu⟩:=List.mem_flatten.1 hu
  obtain ⟨k,hk,rfl⟩:=List.mem_map.1 hl
  have h1:=ih k hk u hu
  have h2:=jg t k hk
  omega
theorem qCM (p:List UInt8->Bool) (t:T):(QW t).all (λ u => !(u.kind==3)||p u.name)=qeZ p t:=by
 refine T.ind (P := λ t=>(QW t).all (λ u => !(u.kind==3)||p u.name)=qeZ p t) ?_ t
 intro t ih
 rw [qfY,qpB,List.all_cons,List.all_flatten]
 congr 1
 rw [List.all_map,List.all_map]
 rw [Bool.eq_iff_iff,List.all_eq_true,List.all_eq_true]
 exact ⟨λ h k hk=>(ih k hk).symm.trans (h k hk),λ h k hk=>(ih k hk).trans (h k hk)⟩
def pPl (n:List UInt8):Bool:=qe (ieq (qE n).2.2 3)
theorem qDC (n:List UInt8):Ev (λ m _=>qbX m n) (pPl n):=by
 refine Ev.succ ?_
 simp only [qrL,qeV]
 refine Ev.bind (qwf n) (Ev.ret ?_)
 unfold pPl
 rw [<- qrc]
theorem qE6 (t:T):size t<=1000000000->Ev (λ m _=>qL m t) (qeZ pPl t):=by
 induction t using T.ind with
 | h t ih =>
   intro hs
   have hl:=yh t
   refine Ev.succ ?_
   simp only [qm0,JI]
   have key:=qs (P := λ i=>Ev (λ m k=>yu m (qL m) k t.kids t.kids.length i) (((t.kids.drop i).map (qeZ pPl)).all id)) t.kids (by omega)
    (λ hc=>by
     refine Ev.loop ?_
     simp only [qf3,JJ]
     refine Ev.cf hc (Ev.ret ?_)
     rw [List.drop_length];rfl)
    (λ i x hx hd hc hg hi hP=>by
     refine Ev.loop ?_
     simp only [qf3,JJ,qi]
     have hm:=List.mem_of_getElem? hx
     have h1:=jg t x hm
     rw [hd,List.map_cons,List.all_cons]
     refine Ev.ct hc (Ev.some hg (Ev.bind (ih x hm (by omega)) (Ev.ite (λ hb=>?_) λ hb=>?_)))
     ·rw [bnt] at hb
      rw [hb];exact Ev.pure _
     ·rw [bnf] at hb
      rw [hb,hi]
      exact hP)
   have main:Ev (λ m _=>yu m (qL m) m t.kids t.kids.length 0) ((t.kids.map (qeZ pPl)).all id) :=
    Ev.diag (L := λ m k=>yu m (qL m) k t.kids t.kids.length 0) ((key 0 (Nat.zero_le _)).res (by rw [List.drop_zero]))
   rw [qpB]
   refine Ev.ite (λ h3=>?_) λ h3=>?_
   ·rw [qj] at h3
    have hk:(!(t.kind==3))=false:=by rw [h3];rfl
    rw [hk,Bool.false_or]
    refine Ev.bind (qDC t.name) (Ev.ite (λ h=>?_) λ h=>?_)
    ·rw [bnt] at h
     rw [h];exact Ev.pure _
    ·rw [bnf] at h
     rw [h];exact main
   ·rw [qg] at h3
    have hk:(!(t.kind==3))=true:=by rw [Bool.not_eq_true',beq_eq_false_iff_ne];exact h3
    rw [hk,Bool.true_or]
    exact main
theorem qBI (t:T):size t<=1000000000->Ev (λ m _=>jw m t) (QW t):=by
 induction t using T.ind with
 | h t ih =>
   intro hs
   have hl:=yh t
   have hln:=qnA t
   refine Ev.succ ?_
   simp only [qAq,qgA,qi]
   rw [qfY] at hln |-
   have hpre:∀ i,((t.kids.take i).map QW).flatten.length<=(t.kids.map QW).flatten.length := λ i=>by
    have:=congrArg (λ l=>(l.map QW).flatten.length) (List.take_append_drop i t.kids)
    simp only [List.map_append,List.flatten_append,List.length_append] at this
    omega
   have key:=qs (P := λ i=>Ev (λ m k=>qbr m (jw m) k i t.kind t.name t.sort t.kids (t::((t.kids.take i).map QW).flatten)) (t::(t.kids.map QW).flatten)) t.kids (by omega)
    (λ hc=>by
     refine Ev.loop ?_
     simp only [qoN,qgh]
     refine Ev.cf hc ?_
     rw [List.take_length];exact Ev.pure _)
    (λ i x hx hd hc hg hi hP=>by
     refine Ev.loop ?_
     simp only [qoN,qgh,qi]
     have hm:=List.mem_of_getElem? hx
     have h1:=jg t x hm
     have h2:=hpre (i+1)
     have e:((t.kids.take (i+1)).map QW).flatten=((t.kids.take i).map QW).flatten++QW x:=by
      rw [zN hx,List.map_append,List.flatten_append];simp
     rw [e,List.length_append] at h2
     rw [e] at hP
     rw [List.length_cons] at hln
     refine Ev.ct hc (Ev.some hg (Ev.bind (ih x hm (by omega)) (Ev.ct (q9 (by rw [List.length_cons];omega) (by omega)) ?_)))
     rw [hi]
     exact hP)
   refine Ev.diag (L := λ m k=>qbr m (jw m) k 0 t.kind t.name t.sort t.kids [t]) ?_
   exact key 0 (Nat.zero_le _)
noncomputable def qdL (t:T):Bool:=decide ((qjt t).2=0)&&(yX (qjt t).1 t&&qeZ pPl t)
theorem qEN (t:T) (hs:size t<=1000000000):Ev (λ m _=>qbV m t) (qdL t):=by
 have h1:=qt4 t
 refine Ev.succ ?_
 simp only [quN,qf9,qi]
 unfold qdL
 refine Ev.bind (qCb t hs) (Ev.ite (λ h=>?_) λ h=>?_)
 ·rw [qj] at h
  rw [decide_eq_true h,Bool.true_and]
  refine Ev.bind (qmQ _ _ (by omega) hs) (Ev.ite (λ h2=>?_) λ h2=>?_)
  ·rw [h2,Bool.true_and]
   exact Ev.bind (qE6 t hs) (Ev.pure _)
  ·rw [h2,Bool.false_and];exact Ev.pure _
 ·rw [qg] at h
  rw [decide_eq_false h,Bool.false_and];exact Ev.pure _
theorem qEH (t:T) (hs:size t<=1000000000):Ev (λ m _=>qe8 m t) (qdL t):=by
 have h1:=qt4 t
 refine Ev.succ ?_
 simp only [qw9,qeb,qi]
 unfold qdL
 refine Ev.bind (qC4 t hs) (Ev.ite (λ h=>?_) λ h=>?_)
 ·rw [bnt,qg] at h
  rw [decide_eq_false h,Bool.false_and];exact Ev.pure _
 rw [bnf,qj] at h
 rw [decide_eq_true h,Bool.true_and,qsh]
 refine Ev.bind (qhg _ _ hs (by omega)) (Ev.ite (λ h2=>?_) λ h2=>?_)
 ·rw [bnt] at h2
  rw [h2,Bool.false_and];exact Ev.pure _
 rw [bnf] at h2
 rw [h2,Bool.true_and,<- qCM]
 refine Ev.bind (qBI t hs) ?_
 have hln:=qnA t
 generalize QW t=l at *
 have key:=qs (P := λ i=>Ev (λ m k=>JS m k l i) ((l.drop i).all λ u => !(u.kind==3)||pPl u.name)) l (by omega)
  (λ hc=>by
   refine Ev.loop ?_
   simp only [qme,qen]
   refine Ev.cf hc (Ev.ret ?_)
   rw [List.drop_length];rfl)
  (λ i x hx hd hc hg hi hP=>by
   refine Ev.loop ?_
   simp only [qme,qen]
   rw [hd,List.all_cons]
   refine Ev.ct hc (Ev.some hg (Ev.ite (λ h3=>?_) λ h3=>?_))
   ·rw [qj] at h3
    have hk:(!(x.kind==3))=false:=by rw [h3];rfl
    rw [hk,Bool.false_or]
    refine Ev.some hg (Ev.bind (qu4 x.name) (Ev.ite (λ hk3=>?_) λ hk3=>?_))
    ·have:pPl x.name=false:=by unfold pPl;rw [hk3];rfl
     rw [this];exact Ev.pure _
    ·rw [hi]
     refine hP.res ?_
     have:pPl x.name=true:=by unfold pPl;rw [hk3];rfl
     rw [this];rfl
   ·rw [qg] at h3
    have hk:(!(x.kind==3))=true:=by rw [Bool.not_eq_true',beq_eq_false_iff_ne];exact h3
    rw [hk,Bool.true_or,hi,Bool.true_and]
    exact hP)
 refine Ev.diag (L := λ m k=>JS m k l 0) ?_
 exact (key 0 (Nat.zero_le _)).res (by rw [List.drop_zero])
end Go.AmZ
namespace Go.AmZ
open Go Go.GxZ Go.Sort Go.Proofs Go.Proofs.YtckmkimhkhilgaaGreat
noncomputable def zG (k:Int) (t:T):List T:=(QW t).filter λ x=>decide (x.kind=k)
noncomputable def qei (t:T):Bool:=(zG 1 t).isEmpty
theorem qpu (k:Int) (t:T):zG k t=(if t.kind=k then [t] else [])++(t.kids.map (zG k)).flatten:=by
 unfold zG
 rw [qfY,List.filter_cons,List.filter_flatten,List.map_map]
 by_cases h:t.kind=k<;>simp [h,Function.comp_def,zG]
theorem qje (k:Int) (t:T):(zG k t).length<=size t:=by
 have:=List.length_filter_le (λ x:T=>decide (x.kind=k)) (QW t)
 rw [qnA] at this
 exact this
theorem qvL (k:Int) (t:T):∀ u∈zG k t,size u<=size t := λ u hu=>qIG t u ((List.mem_filter.1 hu).1)
theorem qBF {s:Nat}:∀ {l:List T},(∀ u∈l,size u<=s)->szL l<=l.length*s
 | [],_=>by simp [szL]
 | x::l,h=>by
   have:=qBF λ u hu=>h u (List.mem_cons_of_mem _ hu)
   have h1:=h x (List.mem_cons_self ..)
   rw [qN,List.length_cons,Nat.succ_mul];omega
theorem qFW (x:T) (k:Int) (l:List T) (hl:l.length<=1000000000):Ev (λ m _=>QF m x k l) ((k,l++(if x.kind=k then [x] else []),()),()):=by
 refine Ev.succ ?_
 simp only [qlA,qaU,qi]
 by_cases h:x.kind=k
 ·rw [if_pos h]
  refine Ev.ct (qj.2 h) (Ev.ct (q9 (by omega) (by omega)) (Ev.some (a:=T.mk 0 [] 0 []) (by rw [jq];simp) (Ev.ret ?_)))
  rw [qdX]
  simp
 ·rw [if_neg h,List.append_nil]
  exact Ev.cf (qg.2 h) (Ev.pure _)
theorem qIu (t:T) (k:Int):size t<=1000000000->∀ l:List T,l.length+size t<=1000000000->Ev (λ m _=>zp m t k l) ((k,l++zG k t,()),()):=by
 induction t using T.ind with
 | h t ih =>
   intro hs l hl
   have hkl:=yh t
   refine Ev.succ ?_
   simp only [qoE,qaM,qi]
   refine Ev.bind (qFW t k l (by omega)) ?_
   simp only
   obtain ⟨l0,hl0⟩:∃ l0,l0=l++(if t.kind=k then [t] else []):=⟨_,rfl⟩
   rw [<- hl0]
   have hfl:=qje k t
   rw [qpu,List.length_append] at hfl
   have hl0n:l0.length+((t.kids.map (zG k)).flatten).length=l.length+((if t.kind=k then [t] else []).length+((t.kids.map (zG k)).flatten).length):=by rw [hl0,List.length_append];omega
   have hpre:∀ i,((t.kids.take i).map (zG k)).flatten.length<=(t.kids.map (zG k)).flatten.length := λ i=>by
    have:=congrArg (λ l=>(l.map (zG k)).flatten.length) (List.take_append_drop i t.kids)
    simp only [List.map_append,List.flatten_append,List.length_append] at this
    omega
   have hsz:∀ i x,t.kids[i]? = some x->l0.length+((t.kids.take i).map (zG k)).flatten.length+size x<=1000000000 := λ i x hx=>by
    have h1:((t.kids.take i).map (zG k)).flatten.length<=szL (t.kids.take i):=by
     have aux:∀ l:List T,((l.map (zG k)).flatten).length<=szL l:=by
      intro l
      induction l with
      | nil=>simp [szL]
      | cons y l ih'=>rw [List.map_cons,List.flatten_cons,List.length_append,qN];have:=qje k y;omega
     exact aux _
    have h2:=j7 hx
    have h3:szL t.kids+1<=size t:=by rw [qX];unfold szL;omega
    have h4:l0.length<=l.length+1:=by rw [hl0,List.length_append];split<;>simp
    omega
   have key:=qs (P := λ i=>Ev (λ m kk=>jz m (zp m) kk t.kids t.kids.length i k (l0++((t.kids.take i).map (zG k)).flatten)) ((k,l0++(t.kids.map (zG k)).flatten,()),())) t.kids (by omega)
    (λ hc=>by
     refine Ev.loop ?_
     simp only [qha,qaN]
     refine Ev.cf hc ?_
     rw [List.take_length];exact Ev.pure _)
    (λ i x hx hd hc hg hi hP=>by
     refine Ev.loop ?_
     simp only [qha,qaN,qi]
     have hm:=List.mem_of_getElem? hx
     have h1:=jg t x hm
     refine Ev.ct hc (Ev.some hg (Ev.bind (ih x hm (by omega) _ (by rw [List.length_append];exact hsz i x hx)) ?_))
     rw [hi]
     have e:((t.kids.take (i+1)).map (zG k)).flatten=((t.kids.take i).map (zG k)).flatten++zG k x:=by
      rw [zN hx,List.map_append,List.flatten_append];simp
     rw [e,<- List.append_assoc] at hP
     exact hP)
   rw [qpu,<- List.append_assoc,<- hl0]
   refine Ev.diag (L := λ m kk=>jz m (zp m) kk t.kids t.kids.length 0 k l0) ?_
   have:=key 0 (Nat.zero_le _)
   simpa using this
theorem qIm {F G:T->T->Option Int} {l:List T} (h:∀ x∈l,∀ y∈l,F x y=G x y):QX F l=QX G l:=by
 funext i j
 unfold QX
 cases hx:l[i % l.length]? with
 | none=>rfl
 | some x=>cases hy:l[j % l.length]? with
   | none=>rfl
   | some y=>simp only;rw [h x (List.mem_of_getElem? hx) y (List.mem_of_getElem? hy)]
theorem qvK {β : Type} {F:T->T->Option β} {l:List T} (h:∀ x∈l,∀ y∈l,(F x y).isSome=true):qbT F l=true :=
 List.all_eq_true.2 λ x hx=>List.all_eq_true.2 λ y hy=>h x hx y hy
theorem qHT {n:Nat} {lt:Nat->Nat->Bool} (h:SWO lt):qrl n lt=true:=by
 unfold qrl
 refine List.all_eq_true.2 λ i _=>?_
 rw [Bool.and_eq_true]
 refine ⟨by rw [h.irrefl];rfl,List.all_eq_true.2 λ j _=>List.all_eq_true.2 λ k _=>?_⟩
 rw [Bool.and_eq_true]
 constructor
 ·cases h1:lt i j with
  | false=>rfl
  | true=>cases h2:lt j k with
    | false=>rfl
    | true=>rw [h.trans i j k h1 h2];rfl
 ·cases h1:lt i j with
  | true=>rfl
  | false=>cases h2:lt j k with
    | true=>rfl
    | false=>rw [h.ntrans i j k h1 h2];rfl
theorem qKC (l:List T):SWO (ltOf (QX (λ x y=>some (qp x y)) l)):=by
 have hlt:∀ i j,ltOf (QX (λ x y=>some (qp x y)) l) i j=true↔∃ x y,l[i % l.length]? = some x/\l[j % l.length]? = some y/\qp x y=-1 := λ i j=>by
  unfold ltOf QX
  rw [decide_eq_true_iff]
  cases hx:l[i % l.length]? with
  | none=>simp
  | some x=>cases hy:l[j % l.length]? with
    | none=>simp
    | some y =>
      simp only [Option.getD_some]
      have:=zP.rng x y
      constructor
      ·intro h;exact ⟨x,y,rfl,rfl,by omega⟩
      ·rintro ⟨_,_,h1,h2,h3⟩;cases h1;cases h2;omega
 refine ⟨λ i=>?_,λ i j k h1 h2=>?_,λ i j k h1 h2=>?_⟩
 ·rw [Bool.eq_false_iff]
  intro h
  obtain ⟨x,y,h1,h2,h3⟩:=(hlt _ _).1 h
  rw [h1] at h2;cases h2
  rw [qpd] at h3;cases h3
 ·obtain ⟨x,y,a1,a2,a3⟩:=(hlt _ _).1 h1
  obtain ⟨y',z,b1,b2,b3⟩:=(hlt _ _).1 h2
  rw [a2] at b1;cases b1
  exact (hlt _ _).2 ⟨x,z,a1,b2,zP.trans x y z a3 b3⟩
 ·rw [Bool.eq_false_iff] at h1 h2 |-
  intro h
  obtain ⟨x,z,a1,a2,a3⟩:=(hlt _ _).1 h
  have hn:0<l.length:=by have:=getElem?_lt a1;omega
  obtain ⟨y,hj⟩:∃ y,l[j % l.length]? = some y:=⟨_,List.getElem?_eq_getElem (Nat.mod_lt _ hn)⟩
  have n1:qp x y≠-1 := λ he=>h1 ((hlt _ _).2 ⟨x,_,a1,hj,he⟩)
  have n2:qp y z≠-1 := λ he=>h2 ((hlt _ _).2 ⟨_,z,hj,a2,he⟩)
  have r1:=zP.rng x y
  have r2:=zP.rng y z
  rcases r1 with r1 | r1 | r1
  ·exact n1 r1
  ·have:=qah _ _ r1
   rw [<- this] at n2;exact n2 a3
  ·rcases r2 with r2 | r2 | r2
   ·exact n2 r2
   ·have:=qah _ _ r2
    rw [this] at n1;exact n1 a3
   ·have e1:qp y x=-1:=by rw [zP.anti];omega
    have e2:qp z y=-1:=by rw [zP.anti];omega
    have e3:=zP.trans _ _ _ e2 e1
    have e4:=zP.anti x z
    omega
theorem qy2 {β : Type} {F:Nat->T->T->Option β} {g:T->T -> β} (l:List T) (h:∀ x∈l,∀ y∈l,Ev (λ m _=>F m x y) (g x y)):∃ B,∀ m,B<=m->∀ x∈l,∀ y∈l,F m x y=some (g x y):=by
 have one:∀ (x:T),(∀ y∈l,Ev (λ m _=>F m x y) (g x y))->∀ r:List T,(∀ y∈r,y∈l)->∃ B,∀ m,B<=m->∀ y∈r,F m x y=some (g x y):=by
  intro x hx r
  induction r with
  | nil=>exact λ _=>⟨0,λ _ _ y hy=>by cases hy⟩
  | cons y r ih =>
    intro hr
    obtain ⟨B,hB⟩:=ih λ z hz=>hr z (List.mem_cons_of_mem _ hz)
    obtain ⟨D,hD⟩:=hx y (hr y (List.mem_cons_self ..))
    refine ⟨max B D,λ m hm z hz=>?_⟩
    rcases List.mem_cons.1 hz with rfl | hz
    ·exact hD m D (by omega) (Nat.le_refl _)
    ·exact hB m (by omega) z hz
 have two:∀ r:List T,(∀ y∈r,y∈l)->∃ B,∀ m,B<=m->∀ x∈r,∀ y∈l,F m x y=some (g x y):=by
  intro r
  induction r with
  | nil=>exact λ _=>⟨0,λ _ _ y hy=>by cases hy⟩
  | cons x r ih =>
    intro hr
    obtain ⟨B,hB⟩:=ih λ z hz=>hr z (List.mem_cons_of_mem _ hz)
    obtain ⟨D,hD⟩:=one x (h x (hr x (List.mem_cons_self ..))) l λ _ h=>h
    refine ⟨max B D,λ m hm z hz=>?_⟩
    rcases List.mem_cons.1 hz with rfl | hz
    ·exact hD m (by omega)
    ·exact hB m (by omega) z hz
 exact two l λ _ h=>h
theorem qxS {α : Type} {l:List α} {ix:List Nat}:∀ x∈pick l ix,x∈l := λ x hx=>by
 unfold pick at hx
 obtain ⟨i,_,h⟩:=List.mem_filterMap.1 hx
 exact List.mem_of_getElem? h
theorem qH7 (l:List T) (hl:l.length<=100000) (hs:∀ t∈l,size t<=1000000000):∃ l',Ev (λ m _=>qW m l) l'/\l'.length=l.length/\∀ x∈l',x∈l:=by
 cases hl0:l with
 | nil=>exact ⟨[],Ev.succ (Ev.congr (Ev.pure _) λ m _=>rfl),rfl,λ x h=>h⟩
 | cons x0 r0 =>
   rw [<- hl0]
   obtain ⟨B,hB⟩:=qy2 (F := λ m x y=>qu m x y) l λ x hx y hy=>qcW x (hs x hx) y (hs y hy)
   have hne:l≠[]:=by rw [hl0];exact List.cons_ne_nil _ _
   have hO:=qKC l
   obtain ⟨hp,_⟩:=qqH (λ x y=>some (qp x y)) l hO
   have hlt:∀ i∈qaA (λ x y=>some (qp x y)) l,i<l.length := λ i hi=>List.mem_range.1 (hp.mem_iff.1 hi)
   refine ⟨pick l (qaA (λ x y=>some (qp x y)) l),Ev.succ ⟨B,λ m k hm _=>?_⟩,by rw [qmN hlt,hp.length_eq,List.length_range],qxS⟩
   show qW (m+1) l=_
   rw [qce]
   have hcf:QX (qu m) l=QX (λ x y=>some (qp x y)) l:=qIm (hB m hm)
   have hall:qbT (qu m) l=true:=qvK λ x hx y hy=>by rw [hB m hm x hx y hy];rfl
   have hix:qaA (qu m) l=qaA (λ x y=>some (qp x y)) l:=by unfold qaA;rw [hcf]
   have e:qp6 (qu m) l=cond (Nat.ble l.length 100000&&(qbT (qu m) l&&qrl l.length (ltOf (QX (qu m) l)))) (some (pick l (qaA (qu m) l))) none:=by rw [hl0];rfl
   rw [e,hcf,hall,hix,qHT hO,show Nat.ble l.length 100000=true from Nat.ble_eq_true_of_le hl]
   rfl
theorem qDj (l:List T) (hl:l.length<=100000) (hs:∀ t∈l,size t<=1000000000):∃ l',Ev (λ m _=>qH m l) ((),l',())/\(l'=[]↔l=[])/\l'.length<=l.length/\∀ x∈l',x∈l:=by
 cases hl0:l with
 | nil=>exact ⟨[],Ev.succ (Ev.congr (Ev.pure _) λ m _=>rfl),Iff.rfl,Nat.le_refl _,λ x h=>h⟩
 | cons x0 r0 =>
   rw [<- hl0]
   obtain ⟨B,hB⟩:=qy2 (F := λ m x y=>yj m x y) (g := λ x y=>ieq (qp x y) 0) l λ x hx y hy=>by
    refine Ev.succ ?_
    simp only [qrx,qeQ,qi]
    exact Ev.bind (qcW x (hs x hx) y (hs y hy)) (Ev.pure _)
   have hne:l≠[]:=by rw [hl0];exact List.cons_ne_nil _ _
   have hpos:0<l.length:=List.length_pos_iff.2 hne
   obtain ⟨ef,hef⟩:∃ ef,ef=qjS (λ x y=>some (ieq (qp x y) 0)) l:=⟨_,rfl⟩
   have hlt:∀ i∈zA ef l.length,i<l.length:=qv8
   have hlen:(zA ef l.length).length<=l.length:=by
    have:=List.length_filter_le (λ i=>decide (i=0) || !ef i (i-1)) (List.range l.length)
    rw [List.length_range] at this
    exact this
   have h0:0∈zA ef l.length:=List.mem_filter.2 ⟨List.mem_range.2 hpos,by simp⟩
   refine ⟨pick l (zA ef l.length),Ev.succ ⟨B,λ m k hm _=>?_⟩,⟨λ h=>?_,λ h=>absurd h hne⟩,by rw [qmN hlt];exact hlen,qxS⟩
   ·show qH (m+1) l=_
    rw [qbk]
    have hee:qjS (yj m) l=ef:=by
     rw [hef]
     funext i j
     unfold qjS
     cases hx:l[i % l.length]? with
     | none=>rfl
     | some x=>cases hy:l[j % l.length]? with
       | none=>rfl
       | some y=>simp only;rw [hB m hm x (List.mem_of_getElem? hx) y (List.mem_of_getElem? hy)]
    have hall:qbT (yj m) l=true:=qvK λ x hx y hy=>by rw [hB m hm x hx y hy];rfl
    have e:qxA (yj m) l=cond (Nat.ble l.length 100000&&qbT (yj m) l) (some (pick l (zA (qjS (yj m) l) l.length))) none:=by rw [hl0];rfl
    unfold qsZ
    rw [e,hall,hee,show Nat.ble l.length 100000=true from Nat.ble_eq_true_of_le hl]
    rfl
   ·have:=qmN hlt
    rw [h] at this
    have h1:=List.length_pos_of_mem h0
    simp at this
    omega
theorem qC8 (l:List T) (hl:l.length<=100000) (hs:∀ t∈l,size t<=1000000000):∃ l',Ev (λ m _=>qdD m l) ((),l',())/\(l'=[]↔l=[]):=by
 obtain ⟨l1,e1,n1,m1⟩:=qH7 l hl hs
 obtain ⟨l2,e2,n2,n3,m2⟩:=qDj l1 (by omega) λ t ht=>hs t (m1 t ht)
 refine ⟨l2,?_,n2.trans ⟨λ h=>List.eq_nil_of_length_eq_zero (by rw [<- n1,h];rfl),λ h=>List.eq_nil_of_length_eq_zero (by rw [n1,h];rfl)⟩⟩
 refine Ev.succ ?_
 simp only [qvn,qdv]
 refine Ev.bind e1 (Ev.ct (by rw [n1,Nat.beq_refl]) (Ev.bind e2 ?_))
 have key:=qs (P := λ i=>Ev (λ m k=>Jf m k l2.length i l2) ((),l2,())) l2 (by omega)
  (λ hc=>by
   refine Ev.loop ?_
   simp only [qk8,qdu]
   exact Ev.cf hc (Ev.pure _))
  (λ i x hx hd hc hg hi hP=>by
   refine Ev.loop ?_
   simp only [qk8,qdu,qi]
   refine Ev.ct hc (Ev.some hg (Ev.bind (qqU x (hs x (m1 x (m2 x (List.mem_of_getElem? hx))))) (Ev.some hg ?_)))
   rw [hi]
   have e:y8 l2 (i:Int) x=l2:=by
    rw [qdX]
    apply List.ext_getElem?
    intro j
    by_cases hj:i=j
    ·subst hj;rw [List.getElem?_set_self (getElem?_lt hx)];exact hx.symm
    ·rw [List.getElem?_set_ne hj]
   rw [e]
   exact hP)
 exact Ev.diag (L := λ m k=>Jf m k l2.length 0 l2) (key 0 (Nat.zero_le _))
theorem qIs (t:T) (hs:size t<=100000):∃ l,Ev (λ m _=>qhX m t) l/\(l=[]↔zG 1 t=[]):=by
 obtain ⟨l,h1,h2⟩:=qC8 (zG 1 t) (Nat.le_trans (qje 1 t) hs) λ u hu=>by have:=qvL 1 t u hu;omega
 refine ⟨l,?_,h2⟩
 refine Ev.succ ?_
 simp only [qAy,qjN,qi]
 refine Ev.bind (a:=l) (Ev.succ ?_) (Ev.pure _)
 simp only [qw4,qhq,qi]
 have hw:=qIu t 1 (by omega) [] (by rw [List.length_nil];omega)
 rw [List.nil_append] at hw
 exact Ev.bind hw (Ev.bind h1 (Ev.ret rfl))
theorem qBd (l:List T) (t:T):Qz l t≠[]:=by
 cases l with
 | nil=>simp [Qz]
 | cons x l =>
   unfold Qz
   repeat' split
   all_goals exact List.cons_ne_nil _ _
theorem qJ5 (l:List T) (hs:szL l<=1000000000):Ev (λ m _=>qib m l) (l.foldl Qz []):=by
 have hll:=jn l
 refine Ev.succ ?_
 simp only [qAk,qgS]
 have fs:∀ (l acc:List T),szL (l.foldl Qz acc)<=szL acc+szL l:=by
  intro l
  induction l with
  | nil=>intro acc;simp [szL]
  | cons x l ih=>intro acc;rw [List.foldl_cons,qN];have:=ih (Qz acc x);have:=qvx x acc;omega
 have key:=qs (P := λ i=>Ev (λ m k=>qby m k l ((l.take i).foldl Qz []) i) (l.foldl Qz [])) l (by omega)
  (λ hc=>by
   refine Ev.loop ?_
   simp only [qoP,qgI]
   refine Ev.cf hc ?_
   rw [List.take_length];exact Ev.pure _)
  (λ i x hx hd hc hg hi hP=>by
   refine Ev.loop ?_
   simp only [qoP,qgI,qi]
   have h1:=fs (l.take i) []
   have h2:=j7 hx
   have h0:szL ([]:List T)=0:=rfl
   refine Ev.ct hc (Ev.some hg (Ev.bind (qEI _ x (by omega)) ?_))
   rw [hi,qqP]
   rw [zN hx,List.foldl_append] at hP
   exact hP)
 exact Ev.diag (L := λ m k=>qby m k l [] 0) (key 0 (Nat.zero_le _))
theorem qE9 (l:List T):l.foldl Qz []=[]↔l=[]:=by
 constructor
 ·intro h
  cases hl:l with
  | nil=>rfl
  | cons x r =>
    exfalso
    have ne:∀ (r acc:List T),acc≠[]->r.foldl Qz acc≠[]:=by
     intro r
     induction r with
     | nil=>intro acc h;exact h
     | cons y r ih=>intro acc _;exact ih _ (qBd _ _)
    rw [hl,List.foldl_cons] at h
    exact ne r _ (qBd _ _) h
 ·intro h;rw [h];rfl
theorem qG9 (t:T) (k:Int) (hs:size t<=10000):Ev (λ m _=>qg5 m t k) ((zG k t).foldl Qz []):=by
 refine Ev.succ ?_
 simp only [qyh,qfv,qi]
 refine Ev.bind (qBI t (by omega)) ?_
 have hlen:=qnA t
 have hksz:szL (zG k t)<=1000000000:=by
  have h1:=qBF (qvL k t)
  have h2:(zG k t).length*size t<=10000*10000:=Nat.mul_le_mul (Nat.le_trans (qje k t) hs) hs
  omega
 have key:=qs (P := λ i=>Ev (λ m kk=>qaw m kk k (QW t) i (((QW t).take i).filter λ x=>decide (x.kind=k))) ((zG k t).foldl Qz [])) (QW t) (by omega)
  (λ hc=>by
   refine Ev.loop ?_
   simp only [qn8,qfn]
   refine Ev.cf hc ?_
   rw [List.take_length]
   exact Ev.bind (qJ5 (zG k t) hksz) (Ev.pure _))
  (λ i x hx hd hc hg hi hP=>by
   refine Ev.loop ?_
   simp only [qn8,qfn,qi]
   have h3:=List.length_filter_le (λ x:T=>decide (x.kind=k)) ((QW t).take i)
   have h4:=List.length_take_le' i (QW t)
   rw [zN hx,List.filter_append] at hP
   refine Ev.ct hc (Ev.some hg ?_)
   by_cases hk:x.kind=k
   ·refine Ev.ct (qj.2 hk) (Ev.some hg (Ev.ct (q9 (by omega) (by omega)) ?_))
    rw [hi]
    simpa [hk] using hP
   ·refine Ev.cf (qg.2 hk) ?_
    rw [hi]
    simpa [hk] using hP)
 exact Ev.diag (L := λ m kk=>qaw m kk k (QW t) 0 []) (key 0 (Nat.zero_le _))
theorem qEd (t:T) (hs:size t<=10000):Ev (λ m _=>qdC m t) (qei t):=by
 have hv:Ev (λ m _=>qgw m t) ((zG 1 t).foldl Qz []):=by
  refine Ev.succ ?_
  simp only [qye,qiq,qi]
  exact Ev.bind (qG9 t 1 hs) (Ev.pure _)
 refine Ev.succ ?_
 simp only [quY,qgc,qi]
 refine Ev.bind hv (Ev.ret ?_)
 unfold qei
 by_cases h:zG 1 t=[]
 ·rw [h];rfl
 ·have hl:(zG 1 t).foldl Qz []≠[] := λ hl=>h ((qE9 _).1 hl)
  have hp:0<((zG 1 t).foldl Qz []).length:=List.length_pos_iff.2 hl
  rw [qg.2 (by omega)]
  cases hk:zG 1 t with
  | nil=>exact absurd hk h
  | cons x r=>rfl
end Go.AmZ
namespace Go.AmZ
open Go Go.GxZ
def nmL:List (List UInt8):=[[112,97,105,114],[101,110,99],[97,101,110,99],[112,107],[115,105,103,110],[104,97,115,104],[120,111,114],[122,101,114,111],[101,120,112],[109,117,108],[105,110,118],[111,110,101],[115,107],[115,104,107],[110,101,119]]
def esL:List (List UInt8 × (Int × Int)):=[([112,97,105,114],(2,2)),([101,110,99],(2,2)),([97,101,110,99],(2,2)),([112,107],(1,1)),([115,105,103,110],(2,2)),([104,97,115,104],(1,1)),([120,111,114],(2,8)),([122,101,114,111],(0,0)),([101,120,112],(2,2)),([109,117,108],(2,8)),([105,110,118],(1,1)),([111,110,101],(0,0)),([115,107],(1,1)),([115,104,107],(2,2)),([110,101,119],(1,8))]
theorem qHF:esL.map (·.1)=nmL:=rfl
def qjF (n:List UInt8):Bool:=qv n qb1||(qv n qdQ||qv n qgn)
def qnn:List (List UInt8 × (Int × Int))->List UInt8->Nat->Int
 | [],_,_=>-1
 | r::l,n,i=>if qv r.1 n=true then (i:Int) else qnn l n (i+1)
def qny:List (List UInt8)->List UInt8->Nat->Int
 | [],_,_=>0
 | r::l,n,i=>if qv r n=true then (i:Int) else qny l n (i+1)
theorem qE1:∀ (l:List (List UInt8 × (Int × Int))) (n:List UInt8) (i:Nat),n∈l.map (·.1)->qnn l n i=qny (l.map (·.1)) n i/\∃ (j:Nat) (r:List UInt8 × (Int × Int)),qnn l n i=((i+j:Nat):Int)/\l[j]? = some r/\r.1=n
 | [],_,_,h=>by cases h
 | r::l,n,i,h=>by
   rw [qnn,List.map_cons,qny]
   by_cases he:qv r.1 n=true
   ·rw [if_pos he,if_pos he]
    exact ⟨rfl,0,r,rfl,rfl,yT.1 he⟩
   ·rw [if_neg he,if_neg he]
    rw [List.map_cons] at h
    rcases List.mem_cons.1 h with h | h
    ·exact absurd (yT.2 h.symm) he
    ·obtain ⟨h1,j,q,h2,h3,h4⟩:=qE1 l n (i+1) h
     exact ⟨h1,j+1,q,by rw [h2];omega,by simpa using h3,h4⟩
def hdE (n:List UInt8):Int:=iw .u8 (iw .i64 (qh 16 (qny nmL n 0)))
noncomputable def bI:T->List Int:=T.para λ t rs=>if t.kind=2 then [iw .u8 t.sort,iw .u8 t.name.length]++Q9 t.name else (if qjF t.name then [hdE t.name]++[iw .u8 t.kids.length] else [hdE t.name])++rs.flatten
theorem qtk (t:T):bI t=if t.kind=2 then [iw .u8 t.sort,iw .u8 t.name.length]++Q9 t.name else (if qjF t.name then [hdE t.name]++[iw .u8 t.kids.length] else [hdE t.name])++(t.kids.map bI).flatten:=T.para_eq _ _
def okN (u:T):Prop:=(u.kind=2\/u.kind=3/\u.name∈nmL)/\u.name.length<=24
def okE (t:T):Prop:=∀ u∈QW t,okN u
theorem qve {t:T} (h:okE t):okN t:=h t (by rw [qfY];exact List.mem_cons_self ..)
theorem qud {t k:T} (h:okE t) (hk:k∈t.kids):okE k := λ u hu=>h u (by
 rw [qfY]
 exact List.mem_cons_of_mem _ (List.mem_flatten.2 ⟨_,List.mem_map.2 ⟨k,hk,rfl⟩,hu⟩))
theorem qtE (s:List UInt8):(Q9 s).length=s.length:=List.length_map ..
theorem qd9 (s:List Int):(yl s).length=s.length:=List.length_map ..
theorem qnO (a b:List Int):yl (a++b)=yl a++yl b:=List.map_append ..
theorem qGc (s:List UInt8):yl (Q9 s)=s:=by
 unfold yl Q9
 rw [List.map_map]
 refine (List.map_congr_left (g:=id) λ c _=>?_).trans (List.map_id _)
 show UInt8.ofNat (Int.toNat ((c.toNat:Nat):Int))=c
 rw [Int.toNat_natCast];exact UInt8.ofNat_toNat
theorem qJK (t:T):okE t->(bI t).length<=26*size t:=by
 induction t using T.ind with
 | h t ih =>
   intro h
   have h1:=(qve h).2
   rw [qtk,qX]
   split
   ·rw [List.length_append,qtE]
    show 2+_<=_
    omega
   ·have aux:∀ l:List T,(∀ k∈l,k∈t.kids)->((l.map bI).flatten).length<=26*(l.map size).sum:=by
      intro l
      induction l with
      | nil=>intro _;exact Nat.zero_le _
      | cons k l ihl =>
        intro hl
        have h1:=ih k (hl k (List.mem_cons_self ..)) (qud h (hl k (List.mem_cons_self ..)))
        have h2:=ihl λ x hx=>hl x (List.mem_cons_of_mem _ hx)
        rw [List.map_cons,List.flatten_cons,List.length_append,List.map_cons,List.sum_cons]
        omega
    have:=aux t.kids λ _ h=>h
    rw [List.length_append]
    have h3:(if qjF t.name=true then [hdE t.name]++[iw .u8 t.kids.length] else [hdE t.name]).length<=2:=by split<;>simp
    omega
theorem qIU {n:List UInt8} (h:(qE n).2.2≠0) (hp:pPl n=true):n∈nmL:=by
 have all:∀ r∈jm,r.2.2.2≠3->r.1∈nmL:=by decide
 unfold pPl at hp
 unfold qE at h hp
 cases hf:jm.find? λ r=>r.1==n with
 | none=>rw [hf] at h;exact absurd rfl h
 | some r =>
   rw [hf] at hp
   have h1:=List.mem_of_find?_eq_some hf
   have h2:=List.find?_some hf
   have h3:r.1=n:=by simpa using h2
   rw [bnt,qg] at hp
   rw [<- h3]
   exact all r h1 hp
theorem qCP {t:T} (h:jV t=0):t.name.length<=24/\(t.kind=1\/t.kind=2\/t.kind=3)/\(t.kind≠3->t.kids=[]):=by
 unfold jV qlz at h
 have hn:QB t.name=true->t.name.length<=24 := λ hn=>by
  unfold QB at hn
  simp only [Bool.and_eq_true,decide_eq_true_eq] at hn
  exact hn.1.1.2
 cases hk:QB t.name with
 | false =>
   rw [hk] at h
   simp only [Bool.false_eq_true,if_false] at h
   exfalso;revert h
   repeat' split
   all_goals omega
 | true =>
   rw [hk] at h
   refine ⟨hn hk,?_,λ h3=>?_⟩
   ·revert h;repeat' split
    all_goals intro h;omega
   ·apply List.eq_nil_of_length_eq_zero
    revert h;repeat' split
    all_goals intro h;omega
theorem qJ2 (t:T):Qw t=0->zh t=0->qeZ pPl t=true->zG 1 t=[]->okE t:=by
 induction t using T.ind with
 | h t ih =>
   intro h1 h2 h3 h4
   obtain ⟨g1,g2⟩:=qlC h1
   obtain ⟨l1,l2,l3⟩:=qCP g1
   rw [qpB,Bool.and_eq_true] at h3
   rw [qpu] at h4
   obtain ⟨k1,k2⟩:=List.append_eq_nil_iff.1 h4
   have hk1:t.kind≠1 := λ h=>by rw [if_pos h] at k1;cases k1
   intro u hu
   rw [qfY] at hu
   rcases List.mem_cons.1 hu with rfl | hu
   ·refine ⟨?_,l1⟩
    rcases l2 with h | h | h
    ·exact absurd h hk1
    ·exact .inl h
    ·refine .inr ⟨h,?_⟩
     obtain ⟨c1,_⟩:=qcg h h2
     obtain ⟨s1,_⟩:=qq1 h c1
     have hp:=h3.1
     rw [show (u.kind==3)=true from beq_iff_eq.2 h] at hp
     exact qIU s1 (by simpa using hp)
   ·obtain ⟨l,hl,hu⟩:=List.mem_flatten.1 hu
    obtain ⟨k,hk,rfl⟩:=List.mem_map.1 hl
    have h3':t.kind=3:=by
     by_cases h:t.kind=3
     ·exact h
     ·rw [l3 h] at hk;cases hk
    obtain ⟨_,c2⟩:=qcg h3' h2
    refine ih k hk (g2 k hk) (c2 k hk) ?_ ?_ u hu
    ·have:=List.all_eq_true.1 h3.2 (qeZ pPl k) (List.mem_map.2 ⟨k,hk,rfl⟩)
     exact this
    ·exact List.flatten_eq_nil_iff.1 k2 _ (List.mem_map.2 ⟨k,hk,rfl⟩)
end Go.AmZ
namespace Go.AmZ
open Go Go.GxZ
theorem qBo (t:T):T.mk t.kind t.name t.sort t.kids=t:=qi t
theorem qJA (t:T):Ev (λ m _=>qC m esL t) ((t,()),(qnn esL t.name 0,())):=by
 refine Ev.succ ?_
 simp only [Q7,qI]
 have key:=qs (P := λ i=>Ev (λ m k=>qr m k esL esL.length i t.kind t.name t.sort t.kids) ((t,()),(qnn (esL.drop i) t.name i,()))) esL (by decide)
  (λ hc=>by
   refine Ev.loop ?_
   simp only [yD,qJ]
   refine Ev.cf hc (Ev.ret ?_)
   rw [List.drop_length,qnn,qBo])
  (λ i x hx hd hc hg hi hP=>by
   refine Ev.loop ?_
   simp only [yD,qJ,qBo]
   refine Ev.ct hc (Ev.some hg ?_)
   refine Ev.bind (a:=((t,()),(qv x.1 t.name,()))) (Ev.succ (Ev.ret ?_)) ?_
   ·show _=_
    simp only [qky,qao,qi]
   rw [hd,qnn,hi]
   refine Ev.ite (λ h=>?_) λ h=>?_
   ·rw [if_pos h];simp only [qi];exact Ev.pure _
   ·rw [if_neg (by rw [show qv x.1 t.name=false from h];decide)];exact hP)
 exact Ev.diag (L := λ m k=>qr m k esL esL.length 0 t.kind t.name t.sort t.kids) (key 0 (Nat.zero_le _))
theorem qIP (n:List UInt8):Ev (λ m _=>qfc m n) (qny nmL n 0):=by
 refine Ev.succ ?_
 simp only [qwX,qed]
 refine Ev.bind (a:=nmL) (Ev.succ (Ev.pure _)) ?_
 have key:=qs (P := λ i=>Ev (λ m k=>JV m k n nmL i) (qny (nmL.drop i) n i)) nmL (by decide)
  (λ hc=>by
   refine Ev.loop ?_
   simp only [ql9,qea]
   refine Ev.cf hc (Ev.ret ?_)
   rw [List.drop_length,qny])
  (λ i x hx hd hc hg hi hP=>by
   refine Ev.loop ?_
   simp only [ql9,qea]
   refine Ev.ct hc (Ev.some hg ?_)
   rw [hd,qny,hi]
   refine Ev.ite (λ h=>?_) λ h=>?_
   ·rw [if_pos h];exact Ev.pure _
   ·rw [if_neg (by rw [h];decide)];exact hP)
 exact Ev.diag (L := λ m k=>JV m k n nmL 0) (key 0 (Nat.zero_le _))
theorem qIi (n:List UInt8):Ev (λ m _=>qcN m n) (qjF n):=by
 refine Ev.succ ?_
 simp only [qts,qfK]
 unfold qjF
 refine Ev.ite (λ h=>Ev.ret ?_) λ h=>Ev.ite (λ h2=>Ev.ret ?_) λ h2=>Ev.ret ?_
 ·rw [show qv n qb1=true from h];rfl
 ·rw [show qv n qb1=false from h,show qv n qdQ=true from h2];rfl
 ·rw [show qv n qb1=false from h,show qv n qdQ=false from h2];rfl
theorem qKe:∀ r∈esL,qe (ieq r.2.1 r.2.2)=qjF r.1:=by decide
theorem qwe (t:T) (i:Nat):((t.kids.take i).map bI).flatten.length<=(t.kids.map bI).flatten.length:=by
 have:=congrArg (λ l=>(l.map bI).flatten.length) (List.take_append_drop i t.kids)
 simp only [List.map_append,List.flatten_append,List.length_append] at this
 omega
theorem qkT {t x:T} {i:Nat} (hx:t.kids[i]? = some x):((t.kids.take (i+1)).map bI).flatten=((t.kids.take i).map bI).flatten++bI x:=by
 rw [zN hx,List.map_append,List.flatten_append];simp
theorem qHd (t:T):okE t->size t<=100000->∀ out:List Int,out.length+(bI t).length<=1000000000->Ev (λ m _=>zB m out t) ((),(out++bI t,())):=by
 induction t using T.ind with
 | h t ih =>
   intro hok hs out hl
   obtain ⟨hk,hn⟩:=qve hok
   refine Ev.succ ?_
   simp only [qrz,qbJ,qi]
   rcases hk with hk | ⟨hk,hm⟩
   ·rw [qtk,if_pos hk]
    refine Ev.ct (bnt.2 (qg.2 (by omega))) ?_
    refine Ev.ct (q9 (by omega) (by omega)) ?_
    refine Ev.ct (q9 (by rw [List.length_append,qtE];show (out.length+2+_)*1<=_;omega) (by omega)) (Ev.ret ?_)
    rw [List.append_assoc]
   ·have hk2:t.kind≠2:=by omega
    refine Ev.cf (bnf.2 (qj.2 hk)) ?_
    obtain ⟨p1,j,r,p2,p3,p4⟩:=qE1 esL t.name 0 (by rw [qHF];exact hm)
    rw [Nat.zero_add] at p2
    refine Ev.bind (a:=esL) (Ev.succ (Ev.pure _)) (Ev.bind (qJA t) ?_)
    refine Ev.ct (q9 (by omega) (by omega)) (Ev.bind (a:=esL) (Ev.succ (Ev.pure _)) (Ev.some (a:=r) (by rw [p2,jq,p3]) ?_))
    refine Ev.bind (a:=qjF t.name) (Ev.succ (Ev.ret ?_)) ?_
    ·simp only [qjj,JU]
     rw [<- p4];exact qKe r (List.mem_of_getElem? p3)
    rw [show iw .u8 (iw .i64 (qh 16 (qnn esL t.name 0)))=hdE t.name by unfold hdE;rw [p1,qHF]]
    obtain ⟨hd,hhd⟩:∃ hd,hd=(if qjF t.name then [hdE t.name]++[iw .u8 (t.kids.length:Int)] else [hdE t.name]):=⟨_,rfl⟩
    have hb:bI t=hd++(t.kids.map bI).flatten:=by rw [qtk,if_neg hk2,hhd]
    rw [hb,List.length_append] at hl
    have hkl:=yh t
    have key:=qs (P := λ i=>Ev (λ m k=>ju m (zB m) k t.kids t.kids.length i ((out++hd)++((t.kids.take i).map bI).flatten)) ((),(out++bI t,()))) t.kids (by omega)
     (λ hc=>by
      refine Ev.loop ?_
      simp only [qiQ,qbO]
      refine Ev.cf hc (Ev.ret ?_)
      rw [List.take_length,hb,List.append_assoc])
     (λ i x hx hdr hc hg hi hP=>by
      refine Ev.loop ?_
      simp only [qiQ,qbO,qi]
      have hm:=List.mem_of_getElem? hx
      have h1:=jg t x hm
      have h2:=qwe t (i+1)
      rw [qkT hx,List.length_append] at h2
      refine Ev.ct hc (Ev.some hg (Ev.bind (ih x hm (qud hok hm) (by omega) _ (by rw [List.length_append,List.length_append];omega)) ?_))
      rw [qkT hx,<- List.append_assoc] at hP
      rw [hi]
      exact hP)
    have fin:=key 0 (Nat.zero_le _)
    rw [List.take_zero,List.map_nil,List.flatten_nil,List.append_nil] at fin
    cases hcn:qjF t.name with
    | true =>
      rw [hcn] at hhd
      have hhd:hd=[hdE t.name]++[iw .u8 (t.kids.length:Int)]:=hhd
      have hdl:hd.length=2:=by rw [hhd];rfl
      rw [hhd,<- List.append_assoc] at fin
      exact Ev.ct rfl (Ev.ct (q9 (by rw [List.length_append];show (out.length+1+1)*1<=_;omega) (by omega)) (Ev.diag (L := λ m k=>ju m (zB m) k t.kids t.kids.length 0 _) fin))
    | false =>
      rw [hcn] at hhd
      have hhd:hd=[hdE t.name]:=hhd
      rw [hhd] at fin
      exact Ev.cf rfl (Ev.diag (L := λ m k=>ju m (zB m) k t.kids t.kids.length 0 _) fin)
theorem qD0 (t:T):okE t->size t<=100000->(bI t).length<=1000000000->Ev (λ m _=>yy m t) (yl (bI t)):=by
 induction t using T.ind with
 | h t ih =>
   intro hok hs hl
   obtain ⟨hk,hn⟩:=qve hok
   refine Ev.succ ?_
   simp only [qwU,qd8]
   rcases hk with hk | ⟨hk,hm⟩
   ·rw [qtk,if_pos hk,qnO,qGc]
    exact Ev.ct (qj.2 hk) (Ev.ct (qmb (by rw [qd9];show 2+_<_;omega)) (Ev.pure _))
   ·have hk2:t.kind≠2:=by omega
    refine Ev.cf (qg.2 hk2) (Ev.bind (qIP t.name) (Ev.bind (qIi t.name) ?_))
    rw [show iw .u8 (iw .i64 (qh 16 (qny nmL t.name 0)))=hdE t.name from rfl]
    obtain ⟨hd,hhd⟩:∃ hd,hd=(if qjF t.name then [hdE t.name]++[iw .u8 (t.kids.length:Int)] else [hdE t.name]):=⟨_,rfl⟩
    have hb:bI t=hd++(t.kids.map bI).flatten:=by rw [qtk,if_neg hk2,hhd]
    rw [hb,List.length_append] at hl
    have hkl:=yh t
    have key:=qs (P := λ i=>Ev (λ m k=>QQ m (yy m) k (yl (hd++((t.kids.take i).map bI).flatten)) i t.kind t.name t.sort t.kids) (yl (bI t))) t.kids (by omega)
     (λ hc=>by
      refine Ev.loop ?_
      simp only [qmr,qek]
      refine Ev.cf hc (Ev.ret ?_)
      rw [List.take_length,hb])
     (λ i x hx hdr hc hg hi hP=>by
      refine Ev.loop ?_
      simp only [qmr,qek,qi]
      have hm:=List.mem_of_getElem? hx
      have h1:=jg t x hm
      have h2:=qwe t (i+1)
      rw [qkT hx,List.length_append] at h2
      refine Ev.ct hc (Ev.some hg (Ev.bind (ih x hm (qud hok hm) (by omega) (by omega)) (Ev.ct (qmb (by rw [qd9,qd9,List.length_append];omega)) ?_)))
      rw [qkT hx,<- List.append_assoc,qnO] at hP
      rw [hi]
      exact hP)
    have fin:=key 0 (Nat.zero_le _)
    rw [List.take_zero,List.map_nil,List.flatten_nil,List.append_nil] at fin
    cases hcn:qjF t.name with
    | true =>
      rw [hcn] at hhd
      have hhd:hd=[hdE t.name]++[iw .u8 (t.kids.length:Int)]:=hhd
      rw [hhd,qnO] at fin
      exact Ev.ct rfl (Ev.ct (qmb (by rw [qd9,qd9];show 1+1<_;omega)) (Ev.diag (L := λ m k=>QQ m (yy m) k _ 0 t.kind t.name t.sort t.kids) fin))
    | false =>
      rw [hcn] at hhd
      have hhd:hd=[hdE t.name]:=hhd
      rw [hhd] at fin
      exact Ev.cf rfl (Ev.diag (L := λ m k=>QQ m (yy m) k _ 0 t.kind t.name t.sort t.kids) fin)
end Go.AmZ
namespace Go.AmZ
theorem qEA (n:Nat):qcX (n+3000)=some true:=by kernel_rfl
end Go.AmZ
namespace Go.AmZ
open Go Go.GxZ
noncomputable def qbY (t:T):Int:=if qc5 t≠0 then qc5 t else if qei t=false then 13 else if qdL t=false then 10 else 0
noncomputable def qeP (t:T):List UInt8:=if qbY t=0 then yl (bI t) else []
theorem qu7 {t:T} (h1:qc5 t=0) (h2:qei t=true) (h3:qdL t=true):okE t:=by
 obtain ⟨g1,g2⟩:=qpx h1
 have g3:Qw t=0:=by
  unfold qT at g1
  by_cases h:Qw t=0
  ·exact h
  ·rw [if_pos h] at g1;exact absurd g1 h
 unfold qdL at h3
 simp only [Bool.and_eq_true] at h3
 exact qJ2 t g3 g2 h3.2.2 (List.isEmpty_iff.1 h2)
theorem quz {t:T} (h:okE t) (hs:size t<=10000):(bI t).length<=260000:=by
 have:=qJK t h
 omega
theorem qJZ (t:T) (hs:size t<=10000):Ev (λ m _=>qbd m t) (qeP t,qbY t):=by
 refine Ev.succ ?_
 simp only [qqv,qdR,qi]
 refine Ev.bind (qBS t (by omega)) ?_
 obtain ⟨l,v1,v2⟩:=qIs t (by omega)
 by_cases h1:qc5 t=0
 ·refine Ev.cf (bnf.2 (qj.2 h1)) (Ev.bind v1 ?_)
  cases h2:qei t with
  | false =>
    have hk:zG 1 t≠[] := λ h=>by unfold qei at h2;rw [h] at h2;cases h2
    have hl:l≠[] := λ h=>hk (v2.1 h)
    have:=List.length_pos_iff.2 hl
    refine Ev.ct (qy.2 (by omega)) (Ev.ret ?_)
    have he:qbY t=13:=by unfold qbY;rw [if_neg (λ h=>h h1),if_pos h2]
    unfold qeP
    rw [he];rfl
  | true =>
    have hl:l=[]:=v2.2 (List.isEmpty_iff.1 h2)
    refine Ev.cf (qx.2 (by rw [hl];exact Int.le_refl _)) (Ev.bind (qEN t (by omega)) ?_)
    cases h3:qdL t with
    | false =>
      refine Ev.ct rfl (Ev.ret ?_)
      have he:qbY t=10:=by unfold qbY;rw [if_neg (λ h=>h h1),if_neg (by rw [h2];decide),if_pos h3]
      unfold qeP
      rw [he];rfl
    | true =>
      have hok:=qu7 h1 h2 h3
      have hb:=quz hok hs
      refine Ev.cf rfl (Ev.bind (qHd t hok (by omega) [] (by show 0+_<=_;omega)) (Ev.ret ?_))
      have he:qbY t=0:=by unfold qbY;rw [if_neg (λ h=>h h1),if_neg (by rw [h2];decide),if_neg (by rw [h3];decide)]
      unfold qeP
      rw [he];rfl
 ·refine Ev.ct (bnt.2 (qg.2 h1)) (Ev.ret ?_)
  have he:qbY t=qc5 t:=if_pos h1
  unfold qeP
  rw [he,if_neg h1]
theorem qIe (t:T) (hs:size t<=10000):Ev (λ m _=>qdF m t) (qeP t,qbY t):=by
 refine Ev.succ ?_
 simp only [quj,qg2,qi]
 have hr:Ev (λ m _=>qe0 m t) (qbY t):=by
  refine Ev.succ ?_
  simp only [qwZ,qhJ,qi]
  refine Ev.bind (qBn t (by omega)) ?_
  unfold qbY
  by_cases h1:qc5 t=0
  ·rw [if_neg (λ h=>h h1)]
   refine Ev.cf (bnf.2 (qj.2 h1)) (Ev.bind (qEd t hs) ?_)
   cases h2:qei t with
   | false=>exact Ev.ct rfl (Ev.pure _)
   | true =>
     refine Ev.cf rfl (Ev.bind (qEH t (by omega)) ?_)
     cases h3:qdL t with
     | false=>exact Ev.ct rfl (Ev.pure _)
     | true=>exact Ev.cf rfl (Ev.pure _)
  ·rw [if_pos h1]
   exact Ev.ct (bnt.2 (qg.2 h1)) (Ev.pure _)
 refine Ev.bind hr ?_
 by_cases he:qbY t=0
 ·have hok:okE t:=by
    unfold qbY at he
    by_cases h1:qc5 t=0
    ·rw [if_neg (λ h=>h h1)] at he
     cases h2:qei t with
     | false=>rw [if_pos h2] at he;exact absurd he (by decide)
     | true =>
       rw [if_neg (by rw [h2];decide)] at he
       cases h3:qdL t with
       | false=>rw [if_pos h3] at he;exact absurd he (by decide)
       | true=>exact qu7 h1 h2 h3
    ·rw [if_pos h1] at he;exact absurd he h1
  have hb:=quz hok hs
  refine Ev.cf (bnf.2 (qj.2 he)) (Ev.bind (qD0 t hok (by omega) (by omega)) (Ev.ret ?_))
  unfold qeP
  rw [if_pos he,he]
 ·refine Ev.ct (bnt.2 (qg.2 he)) (Ev.ret ?_)
  unfold qeP
  rw [if_neg he]
theorem qzD (t:T) (hs:size t<=10000):(qeP t).length<=260000:=by
 unfold qeP
 by_cases he:qbY t=0
 ·rw [if_pos he,qd9]
  refine quz ?_ hs
  unfold qbY at he
  by_cases h1:qc5 t=0
  ·rw [if_neg (λ h=>h h1)] at he
   cases h2:qei t with
   | false=>rw [if_pos h2] at he;exact absurd he (by decide)
   | true =>
     rw [if_neg (by rw [h2];decide)] at he
     cases h3:qdL t with
     | false=>rw [if_pos h3] at he;exact absurd he (by decide)
     | true=>exact qu7 h1 h2 h3
  ·rw [if_pos h1] at he;exact absurd he h1
 ·rw [if_neg he];exact Nat.zero_le _
abbrev Pk:=Int × (Int × (List UInt8 × Bool))
theorem qyx (n:Int) (l:List Pk) (i:Int):Ev (λ m _=>jo m (n,l,()) i) (((n,l,()),()),(decide (0<=i/\i<n),())):=by
 refine Ev.succ ?_
 simp only [qkA,qaE]
 refine Ev.ite (λ h=>Ev.ret ?_) λ h=>Ev.ret ?_
 ·rw [qjc] at h
  have:ilt i n=decide (0<=i/\i<n):=by
   by_cases h2:i<n
   ·rw [qy.2 h2,decide_eq_true ⟨h,h2⟩]
   ·rw [qx.2 (by omega),decide_eq_false (by omega)]
  rw [this]
 ·rw [qgx] at h
  rw [decide_eq_false (by omega)]
theorem qHZ (n:Int) (l:List Pk) (a b:Int) (t:T) (ha:0<=a/\a<n) (hb:0<=b/\b<n) (hl:l.length<400) (hs:size t<=10000) :
  Ev (λ m _=>jI m (n,l,()) a b t) (if qbY t=0 then (((n,l++[(a,b,qpT (qeP t),true)],()),()),((l.length:Int),0,())) else (((n,l,()),()),(0,qbY t,()))):=by
 refine Ev.succ ?_
 simp only [qlB,qaR,qi]
 refine Ev.bind (qyx n l a) ?_
 refine Ev.cf (by show qe (decide _)=false;rw [decide_eq_true ha];rfl) (Ev.bind (qyx n l b) ?_)
 refine Ev.cf (by show qe (decide _)=false;rw [decide_eq_true hb];rfl) ?_
 refine Ev.cf (qgx.2 (by show (l.length:Int)<400;omega)) (Ev.bind (qJZ t hs) ?_)
 by_cases he:qbY t=0
 ·rw [if_pos he]
  have h1:=qzD t hs
  refine Ev.cf (bnf.2 (qj.2 he)) (Ev.bind (qH8 (qeP t) (by omega)) ?_)
  refine Ev.bind (a:=(((n,l++[(a,b,qpT (qeP t),true)],()),()),((l.length:Int),0,()))) (Ev.succ ?_) (Ev.pure _)
  simp only [ql4,qbx]
  refine Ev.cf (qgx.2 (by show (l.length:Int)<400;omega)) (Ev.ct (q9 (by show (l.length+1)*40<=_;omega) (by omega)) (Ev.ret ?_))
  have e:iw .i64 (yQ (((l++[(a,b,qpT (qeP t),true)]).length:Nat):Int) 1)=(l.length:Int):=by
   rw [List.length_append]
   show iw .i64 (yQ (((l.length+1:Nat)):Int) 1)=_
   rw [QC (by unfold yQ;omega)];unfold yQ;omega
  rw [e]
 ·rw [if_neg he]
  exact Ev.ct (bnt.2 (qg.2 he)) (Ev.pure _)
theorem qGb (n:Int) (l:List Pk) (i:Nat) (p:Pk) (h:l[i]? = some p):Ev (λ m _=>Qe m (n,l,()) i) (((n,l,()),()),(p.2.2.1,0,())):=by
 have hi:i<l.length:=(List.getElem?_eq_some_iff.1 h).1
 refine Ev.succ ?_
 simp only [qkE,qan]
 exact Ev.cf (qx.2 (by omega)) (Ev.cf (qgx.2 (by show (i:Int)<(l.length:Int);omega)) (Ev.some (a:=p) (by rw [jq];exact h) (Ev.pure _)))
theorem qta:Ev (λ m _=>qcX m) true:=⟨3000,λ m k hm _=>by
 obtain ⟨n,rfl⟩:∃ n,m=n+3000:=⟨m-3000,by omega⟩
 exact qEA n⟩
theorem networkSends_ev (l:List T) (hfit:l.length<2 ^ 62/\∀ t∈l,qre t):Ev (λ m _=>law31_NetworkSends m l) true:=by
 obtain ⟨hl,hf⟩:=hfit
 refine Ev.succ ?_
 simp only [qne,JM]
 refine Ev.bind qta (Ev.cf rfl (Ev.bind (qKo l hl hf 30 2000 (by decide) (by decide)) ?_))
 cases hfw:decide (l.length<=30)&&qpm l 2000 with
 | false=>exact Ev.ct rfl (Ev.bind qta (Ev.pure _))
 | true =>
 simp only [Bool.and_eq_true,decide_eq_true_eq] at hfw
 obtain ⟨h30,hfew⟩:=hfw
 have hsz:∀ t∈l,size t<=10000 := λ t ht=>by have:=qGQ (by decide) hfew t ht;omega
 refine Ev.cf rfl (Ev.bind (a:=((),(some (3,[],()),0,()))) (Ev.succ ?_) ?_)
 ·simp only [qwP,qhM]
  exact Ev.cf rfl (Ev.cf rfl (Ev.pure _))
 show Ev (λ m _=>cond (qe (ieq 0 0)) (some false) (yp m m 0 l l.length 0 3 [])) true
 refine Ev.cf rfl ?_
 have key:=qs (P := λ i=>∀ pk:List Pk,pk.length<=i->Ev (λ m k=>yp m k pk.length l l.length i 3 pk) true) l (by omega)
  (λ hc pk hp=>by
   refine Ev.loop ?_
   simp only [qfX,JP]
   exact Ev.cf hc (Ev.pure _))
  (λ i x hx hd hc hg hi hP pk hp=>by
   have hil:i<l.length:=(List.getElem?_eq_some_iff.1 hx).1
   have hxs:=hsz x (List.mem_of_getElem? hx)
   have hes:=qzD x hxs
   refine Ev.loop ?_
   simp only [qfX,JP,qi]
   have r1:Ja (i:Int) 3=(i:Int) % 3:=IntWalk.rem_in _ _ (by omega)
   have q1:iw .i64 (qfz (i:Int) 3)=(i:Int) / 3:=IntWalk.i64_quo _ _ ⟨by omega,by omega,by omega⟩
   have r2:Ja ((i:Int) / 3) 3=(i:Int) / 3 % 3:=IntWalk.rem_in _ _ (by omega)
   rw [r1,q1,r2]
   refine Ev.ct hc (Ev.some hg (Ev.bind (qHZ 3 pk _ _ x (by omega) (by omega) (by omega) hxs) (Ev.bind (qIe x hxs) ?_)))
   by_cases he:qbY x=0
   ·rw [if_pos he]
    refine Ev.cf (bnf.2 (qj.2 he.symm)) (Ev.cf rfl (Ev.bind (qGb 3 _ pk.length _ (by rw [List.getElem?_append_right (Nat.le_refl _),Nat.sub_self];rfl)) ?_))
    refine Ev.cf (bnf.2 (qj.2 rfl)) (Ev.cf rfl (Ev.bind (qGI (qeP x) (by omega)) ?_))
    refine Ev.cf (bnf.2 (yT.2 rfl)) ?_
    have:=hP (pk++[((i:Int) % 3,(i:Int) / 3 % 3,qpT (qeP x),true)]) (by rw [List.length_append];show pk.length+1<=_;omega)
    rw [List.length_append] at this
    rw [hi]
    have e:iw .i64 (qh (pk.length:Int) 1)=((pk.length+1:Nat):Int):=by
     rw [show qh (pk.length:Int) 1=((pk.length+1:Nat):Int) by unfold qh;omega,QC (by omega)]
    rw [e]
    exact this
   ·rw [if_neg he]
    refine Ev.cf (bnf.2 (qj.2 rfl)) (Ev.ct (bnt.2 (qg.2 he)) ?_)
    rw [hi]
    exact hP pk (by omega))
 exact Ev.diag (L := λ m k=>yp m k 0 l l.length 0 3 []) (key 0 (Nat.zero_le _) [] (Nat.le_refl _))
end Go.AmZ
