/- Part 5 of what the proofs stand on: plain functions of the program, and that they are its functions. -/
import Derived.Test.YtbpnmbmdbblehaaGreatM4
import Derived.KernelRfl
import Derived.Test.YtbpnmbmdbblehaaGreatM3
import Derived.Shelf.SlSortCmp.NoneTotal
import Derived.Test.YtbpnmbmdbblehaaGreatProg
set_option linter.unusedVariables false
set_option linter.unusedSimpArgs false
namespace Go.GxZ
noncomputable def QG:T->Nat:=T.para λ _ rs=>rs.foldl max 0+1
theorem qdP (t:T):QG t=(t.kids.map QG).foldl max 0+1:=T.para_eq _ _
theorem qvT (l:List Nat):∀ (a b:Nat),a<=b->(∀ x∈l,x<=b)->l.foldl max a<=b:=by
 induction l with
 | nil=>intro a b h _;exact h
 | cons x l ih=>intro a b h hx;exact ih _ _ (Nat.max_le.2 ⟨h,hx x (List.mem_cons_self ..)⟩) λ y hy=>hx y (List.mem_cons_of_mem _ hy)
theorem qFS (t:T):QG t<=size t:=by
 refine T.ind (P := λ t=>QG t<=size t) ?_ t
 intro t ih
 rw [qdP,zc]
 have:(t.kids.map QG).foldl max 0<=(t.kids.map size).sum:=by
  refine qvT _ _ _ (Nat.zero_le _) λ x hx=>?_
  obtain ⟨k,hk,rfl⟩:=List.mem_map.1 hx
  exact Nat.le_trans (ih k hk) (qkF _ _ hk)
 omega
def qoE (c:Int):Bool:=decide (97<=c/\c<=122)||decide (65<=c/\c<=90)
def qDE (c:Int):Bool:=decide (48<=c/\c<=57)
def qdj (c:Int):Bool:=qoE c||qDE c||decide (c=95)||decide (c=35)
def Jv (l:List UInt8):Bool:=decide (0<l.length)&&decide (l.length<=24)&&qoE ((l.getD 0 0).toNat:Int)&&l.all λ c=>qdj (c.toNat:Int)
def qfd (k so:Int) (n:Nat) (ok:Bool):Int :=
 if k=1\/k=2 then (if so<0\/5<so\/0<n then 1 else if ok then 0 else 2)
 else if k=3 then (if so≠0 then 1 else if ok then (if 8<n then 3 else 0) else 2)
 else 1
def qax (t:T):Int:=qfd t.kind t.sort t.kids.length (Jv t.name)
noncomputable def zV:T->Int:=T.para λ t rs=>rs.foldl thn (qax t)
theorem qfr (t:T):zV t=(t.kids.map zV).foldl thn (qax t):=T.para_eq _ _
theorem j9 {x:Int} (h:x≠0) (y:Int):thn x y=x:=if_neg h
theorem zt (l:List Int):∀ {x:Int},x≠0->l.foldl thn x=x:=by
 induction l with
 | nil=>intro x _;rfl
 | cons y l ih=>intro x h;rw [List.foldl_cons,j9 h];exact ih h
theorem Jr (l:List Int) (x:Int):(x::l).foldl thn 0=l.foldl thn x:=rfl
theorem qom {t:T} (h:zV t=0):qax t=0/\(∀ k∈t.kids,zV k=0):=by
 rw [qfr] at h
 by_cases h0:qax t=0
 ·refine ⟨h0,?_⟩
  rw [h0] at h
  generalize t.kids=l at *
  clear h0
  induction l with
  | nil=>intro k hk;cases hk
  | cons x l ih =>
    rw [List.map_cons,Jr] at h
    by_cases hx:zV x=0
    ·rw [hx] at h
     intro k hk
     rcases List.mem_cons.1 hk with rfl | hk
     ·exact hx
     ·exact ih h k hk
    ·rw [zt _ hx] at h;exact absurd h hx
 ·rw [zt _ h0] at h;exact absurd h h0
noncomputable def qx (t:T):Int:=if zV t≠0 then zV t else if 400<size t\/40<QG t then 3 else 0
theorem qwN (l:List Nat):∀ a:Nat,a<=l.foldl max a:=by
 induction l with
 | nil=>intro a;exact Nat.le_refl _
 | cons x l ih=>intro a;exact Nat.le_trans (Nat.le_max_left a x) (ih _)
noncomputable instance:DecidableEq T := λ _ _=>Classical.propDecidable _
noncomputable def qbR (a b:T):Bool:=decide (a=b)
def qiF:List (List UInt8 × Int × Int × Int):=[
 ([112,97,105,114],2,2,1),
 ([101,110,99],2,2,1),
 ([97,101,110,99],2,2,1),
 ([112,107],1,1,1),
 ([115,105,103,110],2,2,1),
 ([104,97,115,104],1,1,1),
 ([120,111,114],2,8,1),
 ([122,101,114,111],0,0,1),
 ([101,120,112],2,2,1),
 ([109,117,108],2,8,1),
 ([105,110,118],1,1,1),
 ([111,110,101],0,0,1),
 ([115,107],1,1,2),
 ([115,104,107],2,2,2),
 ([110,101,119],1,8,2),
 ([102,115,116],1,1,3),
 ([115,110,100],1,1,3),
 ([100,101,99],2,2,3),
 ([97,100,101,99],2,2,3),
 ([111,112,101,110],2,2,3),
 ([114,101,97,100],1,1,3)]
def qvC:List UInt8:=[112,97,105,114]
def qe4:List UInt8:=[101,110,99]
def qrT:List UInt8:=[97,101,110,99]
def nPk:List UInt8:=[112,107]
def qkc:List UInt8:=[115,105,103,110]
def qfM:List UInt8:=[120,111,114]
def qqo:List UInt8:=[122,101,114,111]
def qhg:List UInt8:=[101,120,112]
def qhr:List UInt8:=[109,117,108]
def qaJ:List UInt8:=[105,110,118]
def qiL:List UInt8:=[111,110,101]
def nSk:List UInt8:=[115,107]
def qAx:List UInt8:=[115,104,107]
def qsq:List UInt8:=[110,101,119]
def qH1:List UInt8:=[102,115,116]
def qwA:List UInt8:=[115,110,100]
def qHM:List UInt8:=[100,101,99]
def qFx:List UInt8:=[97,100,101,99]
def qFs:List UInt8:=[111,112,101,110]
def qFz:List UInt8:=[114,101,97,100]
def zT:T := .mk 0 [] 0 []
def kid (t:T) (i:Nat):T:=t.kids.getD i zT
def apT (n:List UInt8) (l:List T):T := .mk 3 n 0 l
def isN (t:T) (n:List UInt8):Bool:=t.kind==3&&t.name==n
def yF (n:List UInt8):Int × Int × Int:=((qiF.find? λ r=>r.1==n).map (·.2)).getD (0,0,0)
def qaz (t:T):Bool :=
 if t.name=qsq then decide ((kid t 0).kind≠2)
 else if t.name=nSk\/t.name=qAx then t.kids.any λ k=>decide (k.kind=3)||decide (k.sort≠1) else false
def qbC (t:T):Int :=
 if t.kind≠3 then 0 else if (yF t.name).2.2=0 then 10 else if (t.kids.length:Int)<(yF t.name).1\/(yF t.name).2.1<(t.kids.length:Int) then 6 else if qaz t then 10 else 0
noncomputable def zo:T->Int:=T.para λ t rs=>if t.kind≠3 then 0 else rs.foldl thn (qbC t)
theorem qnl (t:T):zo t=if t.kind≠3 then 0 else (t.kids.map zo).foldl thn (qbC t):=T.para_eq _ _
noncomputable def qkl (t:T):Int:=thn (qx t) (zo t)
noncomputable def qbb (t:T):Bool :=
 if t.name=qH1\/t.name=qwA then isN (kid t 0) qvC
 else if t.name=qHM then isN (kid t 0) qe4&&qbR (kid (kid t 0) 1) (kid t 1)
 else if t.name=qFx then isN (kid t 0) qrT&&isN (kid (kid t 0) 1) nPk&&qbR (kid (kid (kid t 0) 1) 0) (kid t 1)
 else if t.name=qFs then isN (kid t 0) qkc&&isN (kid t 1) nPk&&qbR (kid (kid t 0) 1) (kid (kid t 1) 0)
 else if t.name=qFz then isN (kid t 0) qkc else false
noncomputable def qjU (t:T):T:=if qbb t then kid (kid t 0) (if t.name=qwA then 1 else 0) else t
def qcI (t:T):Bool:=t.kind==3&&(t.name==qhr||t.name==qaJ||t.name==qiL)
abbrev Pw:=T × Int
noncomputable def yQ:List Pw->T->Int->List Pw
 | [],t,n=>[(t,n)]
 | (x,m)::l,t,n=>if qw t x=-1 then (t,n)::(x,m)::l else if qw t x=0 then (if m+n=0 then l else (x,m+n)::l) else (x,m)::yQ l t n
def arK (t:T):Bool := !(t.name==qiL&&t.kids.length != 0||t.name==qaJ&&t.kids.length != 1||t.name==qhr&&decide (t.kids.length<2))
noncomputable def arT:T->Bool:=T.para λ t rs => !qcI t||(arK t&&rs.all id)
theorem qBy (t:T):arT t=(!qcI t||(arK t&&(t.kids.map arT).all id)):=T.para_eq _ _
def qaB (t:T) (n:Int):Int:=if t.name=qaJ then -n else n
noncomputable def jd:T->List Pw->Int->List Pw:=T.para λ t rs l n=>if qcI t then rs.foldl (λ l f=>f l (qaB t n)) l else yQ l t n
theorem qgB (t:T) (l:List Pw) (n:Int):jd t l n=if qcI t then (t.kids.map jd).foldl (λ l f=>f l (qaB t n)) l else yQ l t n:=by
 have h:jd t = λ l n=>if qcI t then (t.kids.map jd).foldl (λ l f=>f l (qaB t n)) l else yQ l t n:=T.para_eq _ _
 rw [h]
noncomputable def ofP (t:T):List Pw × Int :=
 if qx t≠0 then ([],qx t) else if arT t=false then ([],6) else if 200<(jd t [] 1).length then ([],3) else (jd t [] 1,0)
noncomputable def pvK (q:Option T) (p:Pw):Int :=
 if qx p.1≠0 then qx p.1 else if qcI p.1 then 1 else if p.2=0\/p.2 < -1000\/1000<p.2 then 7 else match q with | some x=>if 0<=qw x p.1 then 5 else 0 | none=>0
noncomputable def pvL:Option T->List Pw->Int
 | _,[]=>0
 | q,p::l=>thn (pvK q p) (pvL (some p.1) l)
noncomputable def QV (l:List Pw):Int:=if 200<l.length then 3 else pvL none l
def jm (l:List Pw):List T:=l.flatMap λ p=>List.replicate p.2.toNat p.1
def jk (l:List Pw):List T:=l.flatMap λ p=>List.replicate (-p.2).toNat (apT qaJ [p.1])
def qbY (o:List T):T:=if o.length=0 then apT qiL [] else if o.length=1 then o.getD 0 zT else apT qhr o
noncomputable def qbN (l:List Pw):T × Int :=
 if QV l≠0 then (zT,QV l) else if 8<(jm l++jk l).length then (zT,3)
 else if qx (qbY (jm l++jk l))≠0 then (zT,qx (qbY (jm l++jk l))) else (qbY (jm l++jk l),0)
def qpb (l:List Pw):Bool:=l.any λ p=>decide (p.2 < -1000)||decide (1000<p.2)
noncomputable def Jg (a b:List Pw):List Pw:=b.foldl (λ l p=>yQ l p.1 p.2) a
noncomputable def qiM (a b:List Pw):List Pw × Int :=
 if QV a≠0 then ([],QV a) else if QV b≠0 then ([],QV b) else if qpb (Jg a b) then ([],7) else if 200<(Jg a b).length then ([],3) else (Jg a b,0)
noncomputable def yx:List T->List T->List T
 | [],b=>b
 | x::a,[]=>x::a
 | x::a,y::b=>if qw x y=-1 then x::yx a (y::b) else if qw x y=1 then y::yx (x::a) b else yx a b
termination_by a b=>a.length+b.length
noncomputable def JI:T->List T:=T.para λ t rs=>if isN t qqo&&t.kids.isEmpty then [] else if isN t qfM then rs.foldl yx [] else [t]
theorem qos (t:T):JI t=if isN t qqo&&t.kids.isEmpty then [] else if isN t qfM then (t.kids.map JI).foldl yx [] else [t]:=T.para_eq _ _
noncomputable def qqU (l:List T):Int:=if 200<l.length then 3 else (l.map qx).foldl thn 0
noncomputable def yB (l:List T):List T:=(l.map JI).foldl yx []
def qbg (o:List T):T:=if o.length=0 then apT qqo [] else if o.length=1 then o.getD 0 zT else apT qfM o
noncomputable def qr8 (l:List T):T × Int :=
 if qqU l≠0 then (zT,qqU l) else if qx (qbg (yB l))≠0 then (zT,3) else (qbg (yB l),0)
noncomputable def qkh (b:T) (l:List Pw):T × Int :=
 if l.length=0 then (b,0) else if (qbN l).2≠0 then (zT,(qbN l).2) else (apT qhg [b,(qbN l).1],0)
noncomputable def qsQ (b e:T):T × Int :=
 if (ofP e).2≠0 then (zT,(ofP e).2)
 else if isN b qhg then
  (if (ofP (kid b 1)).2≠0 then (zT,(ofP (kid b 1)).2)
   else if (qiM (ofP (kid b 1)).1 (ofP e).1).2≠0 then (zT,(qiM (ofP (kid b 1)).1 (ofP e).1).2)
   else qkh (kid b 0) (qiM (ofP (kid b 1)).1 (ofP e).1).1)
 else qkh b (ofP e).1
def isD (n:List UInt8):Bool:=n==qH1||n==qwA||n==qHM||n==qFx||n==qFs||n==qFz
noncomputable def qqF (t:T):T × Int:=if (ofP t).2≠0 then (zT,(ofP t).2) else qbN (ofP t).1
noncomputable def JN (t:T):T × Int :=
 if isD t.name then (qjU t,0) else if t.name=qfM then qr8 t.kids
 else if t.name=qhr\/t.name=qaJ\/t.name=qiL then qqF t
 else if t.name=qhg then qsQ (kid t 0) (kid t 1) else (t,0)
noncomputable def zB:T->T × Int:=T.para λ t rs =>
 if t.kind≠3 then (t,0) else if (rs.map (·.2)).foldl thn 0≠0 then (zT,(rs.map (·.2)).foldl thn 0) else JN (apT t.name (rs.map (·.1)))
theorem qnm (t:T):zB t=if t.kind≠3 then (t,0) else if ((t.kids.map zB).map (·.2)).foldl thn 0≠0 then (zT,((t.kids.map zB).map (·.2)).foldl thn 0) else JN (apT t.name ((t.kids.map zB).map (·.1))):=T.para_eq _ _
noncomputable def qjt (t:T):T × Int :=
 if qkl t≠0 then (zT,qkl t) else if (zB t).2≠0 then (zT,(zB t).2) else if qx (zB t).1≠0 then (zT,qx (zB t).1) else zB t
end Go.GxZ
namespace Go.AmZ
open Go Go.GxZ Go.Lib
theorem qh7 (a b:Int):Ev (λ m _=>QQ m a b) (sgn a b):=by
 refine Ev.succ ?_
 simp only [qta,qeh]
 unfold sgn
 refine Ev.ite (λ h=>?_) λ h=>?_
 ·exact Ev.ret (by rw [if_pos (zf.1 h)])
 ·rw [zA] at h
  refine Ev.ite (λ h'=>?_) λ h'=>?_
  ·rw [zf] at h'
   exact Ev.ret (by rw [if_neg (by omega),if_pos h'])
  ·rw [zA] at h'
   exact Ev.ret (by rw [if_neg (by omega),if_neg (by omega)])
theorem qo1 {l:List T} {i:Nat} {x:T} (h:l.drop i=x::l.drop (i+1)):((l.drop i).map size).sum=size x+((l.drop (i+1)).map size).sum:=by
 rw [h,List.map_cons,List.sum_cons]
theorem qxL (t:T):size t<=1000000000->Ev (λ m _=>yo m t) (size t:Int):=by
 induction t using T.ind with
 | h t ih =>
   intro hs
   refine Ev.succ ?_
   simp only [qxz,qdn]
   have hl:=Qy t
   have he:=zc t
   have key:=zp (P := λ i=>∀ acc:Nat,acc+((t.kids.drop i).map size).sum<=1000000000->Ev (λ m k=>Jt m (yo m) k acc i t.kind t.name t.sort t.kids) ((acc+((t.kids.drop i).map size).sum:Nat):Int)) t.kids (by omega)
    (λ hc acc _=>by
     refine Ev.loop ?_
     simp only [qlf,qdh]
     refine Ev.cf hc ?_
     exact Ev.ret (by simp))
    (λ i x hx hd hc hg hi hP acc ha=>by
     rw [qo1 hd] at ha |-
     refine Ev.loop ?_
     simp only [qlf,qdh]
     refine Ev.ct hc (Ev.some hg ?_)
     rw [qk]
     refine Ev.bind (ih x (List.mem_of_getElem? hx) (by omega)) ?_
     rw [hi,qkk,jV (by omega)]
     refine (hP (acc+size x) (by omega)).res (by congr 1;omega))
   refine Ev.diag (L := λ m k=>Jt m (yo m) k 1 0 t.kind t.name t.sort t.kids) ?_
   refine (key 0 (Nat.zero_le _) 1 (by simp;omega)).res (by rw [List.drop_zero,he])
theorem qDR (a b:Nat):qdD (a:Int) (b:Int)=((max a b:Nat):Int):=by unfold qdD;split<;>omega
theorem qnj (a b:Int):Ev (λ m _=>qaS m a b) (sgn a b):=by
 refine Ev.succ ?_
 simp only [qyn,qhs]
 unfold sgn
 refine Ev.ite (λ h=>?_) λ h=>?_
 ·exact Ev.ret (by rw [if_pos (zf.1 h)])
 ·rw [zA] at h
  refine Ev.ite (λ h'=>?_) λ h'=>?_
  ·rw [zf] at h'
   exact Ev.ret (by rw [if_neg (by omega),if_pos h'])
  ·rw [zA] at h'
   exact Ev.ret (by rw [if_neg (by omega),if_neg (by omega)])
theorem qxq (t:T):size t<=1000000000->Ev (λ m _=>yW m t) (size t:Int):=by
 induction t using T.ind with
 | h t ih =>
   intro hs
   refine Ev.succ ?_
   simp only [qyb,qef]
   have hl:=Qy t
   have he:=zc t
   have key:=zp (P := λ i=>∀ acc:Nat,acc+((t.kids.drop i).map size).sum<=1000000000->Ev (λ m k=>qaq m (yW m) k acc t.kids t.kids.length i) ((acc+((t.kids.drop i).map size).sum:Nat):Int)) t.kids (by omega)
    (λ hc acc _=>by
     refine Ev.loop ?_
     simp only [qlO,qd9]
     refine Ev.cf hc ?_
     exact Ev.ret (by simp))
    (λ i x hx hd hc hg hi hP acc ha=>by
     rw [qo1 hd] at ha |-
     refine Ev.loop ?_
     simp only [qlO,qd9]
     refine Ev.ct hc (Ev.some hg ?_)
     rw [qk]
     refine Ev.bind (ih x (List.mem_of_getElem? hx) (by omega)) ?_
     rw [hi,qkk,jV (by omega)]
     refine (hP (acc+size x) (by omega)).res (by congr 1;omega))
   refine Ev.diag (L := λ m k=>qaq m (yW m) k 1 t.kids t.kids.length 0) ?_
   refine (key 0 (Nat.zero_le _) 1 (by simp;omega)).res (by rw [List.drop_zero,he])
theorem qwI (fs:List (T->Int)):Qe fs []=0:=by cases fs<;>rfl
theorem qt6 {l m:List T} {i:Nat} {x y:T} (h1:l.drop i=x::l.drop (i+1)) (h2:m.drop i=y::m.drop (i+1)):Qe ((l.drop i).map qw) (m.drop i)=thn (qw x y) (Qe ((l.drop (i+1)).map qw) (m.drop (i+1))):=by
 rw [h1,h2,List.map_cons];rfl
theorem qw2 {l:List T} {i:Nat} {y:T} (h:l[i]? = some y):l.drop i=y::l.drop (i+1):=by
 obtain ⟨hlt,rfl⟩:=List.getElem?_eq_some_iff.1 h
 exact List.drop_eq_getElem_cons hlt
theorem qpc (a b:List UInt8):slt a b=decide (compareBytes a b=-1):=qk7 a b
theorem qxA (a b:List UInt8):qmg (slt a b) (qz a b)=decide (compareBytes a b≠1):=by
 rw [qpc]
 unfold qmg qz
 rcases qkg a b with h | h | h
 ·rw [h];rfl
 ·have:=qh1 a b h
  subst this
  rw [h];simp
 ·have:(a==b)=false:=by
    rw [beq_eq_false_iff_ne];intro he;subst he;rw [qt5] at h;omega
  rw [h,this];rfl
theorem qyB (a:T):size a<=1000000000->∀ b,size b<=1000000000->Ev (λ m _=>zh m a b) (qw a b):=by
 induction a using T.ind with
 | h a ih =>
   intro ha b hb
   refine Ev.succ ?_
   simp only [qrs,qa8,qk]
   have hla:=Qy a
   have hlb:=Qy b
   rw [qdO]
   unfold qfV
   refine Ev.bind (qxL a ha) (Ev.bind (qxL b hb) (Ev.bind (qh7 _ _) ?_))
   refine Ev.ite (λ h=>?_) λ h=>?_
   ·rw [bnt,qr] at h
    exact Ev.ret (by rw [j9 (by rw [j9 h];exact h),j9 h])
   rw [bnf,qs] at h
   rw [h,show ∀ y,thn 0 y=y from λ y=>rfl]
   refine Ev.bind (qh7 _ _) ?_
   refine Ev.ite (λ h=>?_) λ h=>?_
   ·rw [bnt,qr] at h
    exact Ev.ret (by rw [j9 (by rw [j9 h];exact h),j9 h])
   rw [bnf,qs] at h
   rw [h,show ∀ y,thn 0 y=y from λ y=>rfl]
   refine Ev.ite (λ h=>?_) λ h=>?_
   ·rw [qpc,decide_eq_true_iff] at h
    exact Ev.ret (by rw [h];rfl)
   rw [qpc,decide_eq_false_iff_not] at h
   refine Ev.ite (λ h'=>?_) λ h'=>?_
   ·rw [bnt,qxA,decide_eq_false_iff_not,Decidable.not_not] at h'
    exact Ev.ret (by rw [h'];rfl)
   rw [bnf,qxA,decide_eq_true_iff] at h'
   have h0:compareBytes a.name b.name=0:=by have:=qkg a.name b.name;omega
   rw [h0,show ∀ y,thn 0 y=y from λ y=>rfl]
   refine Ev.bind (qh7 _ _) ?_
   refine Ev.ite (λ h=>?_) λ h=>?_
   ·rw [bnt,qr] at h
    exact Ev.ret (by rw [j9 (by rw [j9 h];exact h),j9 h])
   rw [bnf,qs] at h
   rw [h,show ∀ y,thn 0 y=y from λ y=>rfl]
   refine Ev.bind (qh7 _ _) ?_
   refine Ev.ite (λ h=>?_) λ h=>?_
   ·rw [bnt,qr] at h
    exact Ev.ret (by rw [j9 h])
   rw [bnf,qs] at h
   rw [h,show ∀ y,thn 0 y=y from λ y=>rfl]
   have hlen:a.kids.length=b.kids.length:=by have:=qhG h;omega
   have key:=zp (P := λ i=>Ev (λ m k=>Qg m (zh m) k i a.kind a.name a.sort a.kids b.kind b.name b.sort b.kids) (Qe ((a.kids.drop i).map qw) (b.kids.drop i))) a.kids (by omega)
    (λ hc=>by
     refine Ev.loop ?_
     simp only [qg6,qaV]
     refine Ev.cf hc ?_
     exact Ev.ret (by rw [hlen,List.drop_length,qwI]))
    (λ i x hx hd hc hg hi hP=>by
     refine Ev.loop ?_
     simp only [qg6,qaV,qk]
     have hib:i<b.kids.length:=by have:=(List.getElem?_eq_some_iff.1 hx).1;omega
     have hy:=List.getElem?_eq_getElem hib
     have hmx:=List.mem_of_getElem? hx
     have h1:=Qu a x hmx
     have h2:=Qu b _ (List.mem_of_getElem? hy)
     refine Ev.ct hc (Ev.some hg (Ev.some (by rw [yY];exact hy) ?_))
     rw [qt6 hd (qw2 hy)]
     refine Ev.bind (ih x hmx (by omega) _ (by omega)) ?_
     refine Ev.ite (λ h=>?_) λ h=>?_
     ·rw [bnt,qr] at h
      exact Ev.ret (by rw [j9 h])
     ·rw [bnf,qs] at h
      rw [h,hi]
      exact hP)
   refine Ev.diag (L := λ m k=>Qg m (zh m) k 0 a.kind a.name a.sort a.kids b.kind b.name b.sort b.kids) ?_
   exact (key 0 (Nat.zero_le _)).res (by rw [List.drop_zero,List.drop_zero])
theorem qCd (a b:List UInt8):Ev (λ m _=>strings_Compare 0 a b) (compareBytes a b):=Ev.pure _
theorem qao (a:T):size a<=1000000000->∀ b,size b<=1000000000->Ev (λ m _=>qm m a b) (qw a b):=by
 induction a using T.ind with
 | h a ih =>
   intro ha b hb
   refine Ev.succ ?_
   simp only [qsn,qbI,qk]
   have hla:=Qy a
   have hlb:=Qy b
   rw [qdO]
   unfold qfV
   have stop:∀ c:Int,c≠0->∀ i:Int,Ev (λ m k=>jb m (qm m) k c i a.kind a.name a.sort a.kids b.kind b.name b.sort b.kids) c:=by
    intro c hc i
    refine Ev.loop ?_
    simp only [qeq,qag]
    exact Ev.cf (qr.2 hc) (Ev.pure c)
   have key:a.kids.length=b.kids.length->∀ i,i<=a.kids.length->Ev (λ m k=>jb m (qm m) k 0 i a.kind a.name a.sort a.kids b.kind b.name b.sort b.kids) (Qe ((a.kids.drop i).map qw) (b.kids.drop i)) := λ hlen=>zp a.kids (by omega)
    (λ hc=>by
     refine Ev.loop ?_
     simp only [qeq,qag]
     refine Ev.ct rfl (Ev.cf hc ?_)
     exact Ev.ret (by rw [hlen,List.drop_length,qwI]))
    (λ i x hx hd hc hg hi hP=>by
     refine Ev.loop ?_
     simp only [qeq,qag,qk]
     have hib:i<b.kids.length:=by have:=(List.getElem?_eq_some_iff.1 hx).1;omega
     have hy:=List.getElem?_eq_getElem hib
     have hmx:=List.mem_of_getElem? hx
     have h1:=Qu a x hmx
     have h2:=Qu b _ (List.mem_of_getElem? hy)
     refine Ev.ct rfl (Ev.ct hc (Ev.some hg (Ev.some (by rw [yY];exact hy) ?_)))
     rw [qt6 hd (qw2 hy)]
     refine Ev.bind (ih x hmx (by omega) _ (by omega)) ?_
     rw [hi]
     by_cases h:qw x b.kids[i]=0
     ·rw [h];exact hP
     ·rw [j9 h];exact stop _ h _)
   have fin:∀ c:Int,(c=0->a.kids.length=b.kids.length)->Ev (λ m k=>jb m (qm m) m c 0 a.kind a.name a.sort a.kids b.kind b.name b.sort b.kids) (thn c (Qe (a.kids.map qw) b.kids)):=by
    intro c hc
    refine Ev.diag (L := λ m k=>jb m (qm m) k c 0 a.kind a.name a.sort a.kids b.kind b.name b.sort b.kids) ?_
    by_cases h:c=0
    ·subst h
     exact (key (hc rfl) 0 (Nat.zero_le _)).res (by rw [List.drop_zero,List.drop_zero];rfl)
    ·rw [j9 h];exact stop c h 0
   refine Ev.bind (qxq a ha) (Ev.bind (qxq b hb) (Ev.bind (qnj _ _) ?_))
   have z0:∀ y,thn 0 y=y := λ y=>rfl
   by_cases h1:sgn (size a:Int) (size b)=0
   ·rw [h1,z0]
    refine Ev.ct rfl (Ev.bind (qnj _ _) ?_)
    by_cases h2:sgn a.kind b.kind=0
    ·rw [h2,z0]
     refine Ev.ct rfl (Ev.bind (qCd _ _) ?_)
     by_cases h3:compareBytes a.name b.name=0
     ·rw [h3,z0]
      refine Ev.ct rfl (Ev.bind (qnj _ _) ?_)
      by_cases h4:sgn a.sort b.sort=0
      ·rw [h4,z0]
       refine Ev.ct rfl (Ev.bind (qnj _ _) ?_)
       exact fin _ λ h=>by have:=qhG h;omega
      ·rw [j9 h4]
       refine Ev.cf (qr.2 h4) ?_
       exact fin _ λ h=>absurd h h4
     ·rw [j9 h3]
      refine Ev.cf (qr.2 h3) (Ev.cf (qr.2 h3) ?_)
      exact fin _ λ h=>absurd h h3
    ·rw [j9 h2]
     refine Ev.cf (qr.2 h2) (Ev.cf (qr.2 h2) (Ev.cf (qr.2 h2) ?_))
     exact fin _ λ h=>absurd h h2
   ·rw [j9 h1]
    refine Ev.cf (qr.2 h1) (Ev.cf (qr.2 h1) (Ev.cf (qr.2 h1) (Ev.cf (qr.2 h1) ?_)))
    exact fin _ λ h=>absurd h h1
theorem qzn (a b:T):ieq (qw a b) 0=qbR a b:=by
 unfold qbR
 rw [Bool.eq_iff_iff,qs,decide_eq_true_iff]
 exact qFo a b
theorem qDB (a b:T) (ha:size a<=1000000000) (hb:size b<=1000000000):Ev (λ m _=>yP m a b) (qbR a b):=by
 refine Ev.succ ?_
 simp only [qxi,qfT,qk]
 refine Ev.bind (qyB a ha b hb) ?_
 exact Ev.ret (qzn a b)
theorem qjN (a b:T) (ha:size a<=1000000000) (hb:size b<=1000000000):Ev (λ m _=>jU m a b) (qbR a b):=by
 refine Ev.succ ?_
 simp only [quK,qe8,qk]
 refine Ev.bind (qao a ha b hb) ?_
 exact Ev.ret (qzn a b)
end Go.AmZ
namespace Go.AmZ
open Go Go.GxZ Go.Lib
theorem qFD (a b:Int):ieq a b=decide (a=b):=by rw [Bool.eq_iff_iff,qs,decide_eq_true_iff]
theorem qzm (c:Int):Ev (λ m _=>qdJ m c) (qdj c):=by
 refine Ev.succ ?_
 simp only [qx2,qg1]
 refine (Ev.pure (qdj c)).congr λ m k=>?_
 simp only [qFD]
 unfold qdj qoE qDE ile
 by_cases h1:97<=c<;>by_cases h2:c<=122<;>by_cases h3:65<=c<;>by_cases h4:c<=90<;>by_cases h5:48<=c<;>by_cases h6:c<=57<;>by_cases h7:c=95<;>by_cases h8:c=35<;>simp [h1,h2,h3,h4,h5,h6,h7,h8]
theorem qEX (c:Int):(qdj c&&(!(decide (48<=c)&&decide (c<=57))&&(!(decide (c=95)) && !(decide (c=35)))))=qoE c:=by
 unfold qdj qDE
 cases h:qoE c with
 | true =>
   unfold qoE at h
   rw [Bool.or_eq_true,decide_eq_true_iff,decide_eq_true_iff] at h
   rw [decide_eq_false (show ¬ (c=95) by omega),decide_eq_false (show ¬ (c=35) by omega)]
   have:(decide (48<=c)&&decide (c<=57))=false:=by
    rw [Bool.and_eq_false_iff,decide_eq_false_iff_not,decide_eq_false_iff_not];omega
   rw [this];rfl
 | false =>
   by_cases h1:48<=c<;>by_cases h2:c<=57<;>by_cases h3:c=95<;>by_cases h4:c=35<;>simp [h1,h2,h3,h4]
theorem qAm (l:List UInt8):Ev (λ m _=>qar m l) (Jv l):=by
 refine Ev.succ ?_
 simp only [quQ,qcA]
 cases l with
 | nil=>exact Ev.ct rfl (Ev.pure _)
 | cons c r =>
   refine Ev.cf rfl ?_
   refine Ev.ite (λ h=>?_) λ h=>?_
   ·rw [zf] at h
    refine Ev.ret ?_
    unfold Jv
    rw [decide_eq_false (show ¬ (c::r).length<=24 by omega)]
    simp
   rw [zA] at h
   refine Ev.some (qaQ _) (Ev.bind (qzm _) ?_)
   have hn:Jv (c::r)=(qoE (c.toNat:Int)&&(c::r).all λ c=>qdj (c.toNat:Int)):=by
    unfold Jv
    rw [decide_eq_true (show (c::r).length<=24 by omega)]
    simp
   rw [hn,<- qEX]
   have key:=zp (P := λ i=>Ev (λ m k=>jB m k (c::r) (c::r).length i) (((c::r).drop i).all λ c=>qdj (c.toNat:Int))) (c::r) (by omega)
    (λ hc=>by
     refine Ev.loop ?_
     simp only [qjd,qcF]
     refine Ev.cf hc (Ev.ret ?_)
     rw [List.drop_length];rfl)
    (λ i x hx hd hc hg hi hP=>by
     refine Ev.loop ?_
     simp only [qjd,qcF]
     refine Ev.ct hc (Ev.some hg (Ev.bind (qzm _) ?_))
     rw [hd,List.all_cons,hi]
     cases h1:qdj (x.toNat:Int) with
     | true=>exact Ev.cf rfl (hP.res (by simp))
     | false=>exact Ev.ct rfl (Ev.pure _))
   have fin:Ev (λ m _=>jB m m (c::r) (c::r).length 0) ((c::r).all λ c=>qdj (c.toNat:Int)):=by
    refine Ev.diag (L := λ m k=>jB m k (c::r) (c::r).length 0) ?_
    exact (key 0 (Nat.zero_le _)).res (by rw [List.drop_zero])
   have hz:qc (c::r) 0=some c:=qaQ _
   have h95:Ev (λ m _=>cond (ieq (c.toNat:Int) 95) (some false) (qa (qc (c::r) 0) λ v=>cond (ieq (v.toNat:Int) 35) (some false) (jB m m (c::r) (c::r).length 0))) ((!(decide ((c.toNat:Int)=95)) && !(decide ((c.toNat:Int)=35)))&&(c::r).all λ c=>qdj (c.toNat:Int)):=by
    by_cases h3:(c.toNat:Int)=95
    ·exact Ev.ct (qs.2 h3) (Ev.ret (by rw [decide_eq_true h3];rfl))
    ·refine Ev.cf (qr.2 h3) (Ev.some hz ?_)
     rw [decide_eq_false h3]
     by_cases h4:(c.toNat:Int)=35
     ·exact Ev.ct (qs.2 h4) (Ev.ret (by rw [decide_eq_true h4];rfl))
     ·refine Ev.cf (qr.2 h4) (fin.res ?_)
      rw [decide_eq_false h4];rfl
   cases h1:qdj (c.toNat:Int) with
   | false=>exact Ev.ct rfl (Ev.pure _)
   | true =>
     refine Ev.cf rfl (Ev.some hz ?_)
     by_cases h5:48<=(c.toNat:Int)
     ·refine Ev.ct (qgq.2 h5) (Ev.some hz ?_)
      by_cases h6:(c.toNat:Int)<=57
      ·exact Ev.ct (qgq.2 h6) (Ev.ret (by rw [decide_eq_true h5,decide_eq_true h6];rfl))
      ·refine Ev.cf (qqM.2 (by omega)) (Ev.some hz ?_)
       exact h95.res (by rw [decide_eq_true h5,decide_eq_false h6];rfl)
     ·refine Ev.cf (qqM.2 (by omega)) (Ev.some hz ?_)
      exact h95.res (by rw [decide_eq_false h5];rfl)
end Go.AmZ
namespace Go.AmZ
open Go Go.GxZ Go.Lib
theorem qvS (lev d:Nat):∀ (l:List Nat) (c:Nat),l.foldl (λ a x=>max a (lev+x)) (max d (lev+c))=max d (lev+l.foldl max c)
 | [],c=>rfl
 | x::l,c=>by
   rw [List.foldl_cons,List.foldl_cons,<- qvS lev d l (max c x)]
   congr 1;omega
def qHP (lev n d:Nat) (e:Int) (s:Nat) (x:Nat) (r:(Int × Int × Unit) × (Int × Unit)):Prop:=r.2.1=e/\(e=0->r.1.1=((n+s:Nat):Int)/\r.1.2.1=((max d (lev+x):Nat):Int))
theorem qD1 (t:T):size t<=1000000000->∀ lev n d:Nat,lev+size t<=2000000000->n+size t<=2000000000->d<=2000000000->∃ r,Ev (λ m _=>zy m t lev n d) r/\qHP lev n d (zV t) (size t) (QG t-1) r:=by
 induction t using T.ind with
 | h t ih =>
   intro hs lev n d hlev hn hd0
   have hl:=Qy t
   have hsz:=zc t
   have key:=zp (P := λ i=>∀ n d:Nat,n+((t.kids.drop i).map size).sum<=2000000000->d<=2000000000->∃ r,Ev (λ m k=>yI m (zy m) k lev t.kids t.kids.length i n d) r/\r.2.1=((t.kids.drop i).map zV).foldl thn 0/\(((t.kids.drop i).map zV).foldl thn 0=0->r.1.1=((n+((t.kids.drop i).map size).sum:Nat):Int)/\r.1.2.1=((((t.kids.drop i).map QG).foldl (λ a x=>max a (lev+x)) d:Nat):Int))) t.kids (by omega)
    (λ hc n d _ _=>by
     refine ⟨((n,d,()),(0,())),?_,?_,λ _=>⟨?_,?_⟩⟩
     ·refine Ev.loop ?_
      simp only [qlw,qdi]
      exact Ev.cf hc (Ev.pure _)
     ·simp
     ·simp
     ·simp)
    (λ i x hx hd hc hg hi hP n d hn hd1=>by
     have hm:=List.mem_of_getElem? hx
     have h1:=Qu t x hm
     rw [qo1 hd] at hn
     obtain ⟨r,hr,he,hz⟩:=ih x hm (by omega) (lev+1) n d (by omega) (by omega) hd1
     have hstep:∀ r' ,(r.2.1≠0->r'=((r.1.1,r.1.2.1,()),(r.2.1,())))->(r.2.1=0->Ev (λ m k=>yI m (zy m) k lev t.kids t.kids.length ((i+1:Nat):Int) r.1.1 r.1.2.1) r')->Ev (λ m k=>yI m (zy m) k lev t.kids t.kids.length i n d) r':=by
      intro r' g1 g2
      refine Ev.loop ?_
      simp only [qlw,qdi,qk]
      refine Ev.ct hc (Ev.some hg ?_)
      rw [show qf (lev:Int) 1=((lev+1:Nat):Int) by unfold qf;omega,jV (by omega),hi]
      refine Ev.bind hr ?_
      refine Ev.ite (λ h=>?_) λ h=>?_
      ·rw [bnt,qr] at h;exact Ev.ret (g1 h).symm
      ·rw [bnf,qs] at h;exact g2 h
     rw [hd,List.map_cons,List.map_cons,List.map_cons,List.sum_cons,Jr,List.foldl_cons]
     by_cases h0:zV x=0
     ·obtain ⟨z1,z2⟩:=hz h0
      have hdep:=qFS x
      obtain ⟨r',g1,g2,g3⟩:=hP (n+size x) (max d (lev+1+(QG x-1))) (by omega) (by omega)
      refine ⟨r',hstep r' (λ h=>absurd (he.trans h0) h) (λ _=>by rw [z1,z2];exact g1),by rw [h0];exact g2,λ hh=>?_⟩
      rw [h0] at hh
      obtain ⟨q1,q2⟩:=g3 hh
      refine ⟨by rw [q1];congr 1;omega,?_⟩
      rw [q2]
      have:QG x ≥ 1:=by rw [qdP];omega
      rw [show max d (lev+1+(QG x-1))=max d (lev+QG x) by omega]
     ·refine ⟨((r.1.1,r.1.2.1,()),(r.2.1,())),hstep _ (λ _=>rfl) (λ h=>absurd (he.symm.trans h) h0),?_,λ hh=>?_⟩
      ·rw [zt _ h0];exact he
      ·rw [zt _ h0] at hh;exact absurd hh h0)
   have start:∀ r,(qax t≠0->r=((((n+1:Nat):Int),((max d lev:Nat):Int),()),(qax t,())))->(qax t=0->Ev (λ m _=>yI m (zy m) m lev t.kids t.kids.length 0 ((n+1:Nat):Int) ((max d lev:Nat):Int)) r)->Ev (λ m _=>zy m t lev n d) r:=by
    intro r g1 g2
    refine Ev.succ ?_
    simp only [qw0,qdr]
    rw [show qf (n:Int) 1=((n+1:Nat):Int) by unfold qf;omega,jV (by omega),qDR]
    have err:∀ e,qax t=e->e≠0->Ev (λ _ _=>some ((((n+1:Nat):Int),((max d lev:Nat):Int),()),(e,()))) r:=by
     intro e he h
     refine Ev.ret ?_
     subst he
     exact (g1 h).symm
    have nm:(t.kind=3\/t.kids.length=0)->(∀ b,Jv t.name=b->(if b then (if 8<t.kids.length then 3 else 0) else 2)=qax t)->Ev (λ m _=>qa (qar m t.name) λ v=>cond (qd v) (some ((((n+1:Nat):Int),((max d lev:Nat):Int),()),(2,()))) (cond (ilt 8 (t.kids.length:Int)) (some ((((n+1:Nat):Int),((max d lev:Nat):Int),()),(3,()))) (yI m (zy m) m lev t.kids t.kids.length 0 ((n+1:Nat):Int) ((max d lev:Nat):Int)))) r:=by
     intro _ h
     have h:=h _ rfl
     refine Ev.bind (qAm _) ?_
     cases hn:Jv t.name with
     | false=>rw [hn] at h;exact Ev.ct rfl (err 2 h.symm (by decide))
     | true =>
       rw [hn,if_pos rfl] at h
       refine Ev.cf rfl ?_
       refine Ev.ite (λ h'=>?_) λ h'=>?_
       ·rw [zf] at h';rw [if_pos (by omega)] at h;exact err 3 h.symm (by decide)
       ·rw [zA] at h';rw [if_neg (by omega)] at h;exact g2 h.symm
    have leafE:∀ k,t.kind=k->(k=1\/k=2)->qax t=if t.sort<0\/5<t.sort\/0<t.kids.length then 1 else if Jv t.name then 0 else 2:=by
     intro k hk h
     unfold qax qfd
     rw [hk,if_pos h]
    have leaf:∀ k,t.kind=k->(k=1\/k=2)->Ev (λ m _=>cond (ilt t.sort 0) (some ((((n+1:Nat):Int),((max d lev:Nat):Int),()),(1,()))) (cond (ilt 5 t.sort) (some ((((n+1:Nat):Int),((max d lev:Nat):Int),()),(1,()))) (cond (ilt 0 (t.kids.length:Int)) (some ((((n+1:Nat):Int),((max d lev:Nat):Int),()),(1,()))) (qa (qar m t.name) λ v=>cond (qd v) (some ((((n+1:Nat):Int),((max d lev:Nat):Int),()),(2,()))) (cond (ilt 8 (t.kids.length:Int)) (some ((((n+1:Nat):Int),((max d lev:Nat):Int),()),(3,()))) (yI m (zy m) m lev t.kids t.kids.length 0 ((n+1:Nat):Int) ((max d lev:Nat):Int))))))) r:=by
     intro k hk h
     have hE:=leafE k hk h
     refine Ev.ite (λ h'=>?_) λ h'=>?_
     ·rw [zf] at h';exact err 1 (by rw [hE,if_pos (.inl h')]) (by decide)
     rw [zA] at h'
     refine Ev.ite (λ h1=>?_) λ h1=>?_
     ·rw [zf] at h1;exact err 1 (by rw [hE,if_pos (.inr (.inl h1))]) (by decide)
     rw [zA] at h1
     refine Ev.ite (λ h2=>?_) λ h2=>?_
     ·rw [zf] at h2;exact err 1 (by rw [hE,if_pos (.inr (.inr (by omega)))]) (by decide)
     rw [zA] at h2
     rw [if_neg (by omega)] at hE
     refine nm (.inr (by omega)) λ b hb=>?_
     rw [hE,hb,if_neg (show ¬ 8<t.kids.length by omega)]
    by_cases h1:t.kind=1
    ·exact Ev.ct (qs.2 h1) (leaf 1 h1 (.inl rfl))
    refine Ev.cf (qr.2 h1) ?_
    by_cases h2:t.kind=2
    ·exact Ev.ct (qs.2 h2) (leaf 2 h2 (.inr rfl))
    refine Ev.cf (qr.2 h2) ?_
    by_cases h3:t.kind=3
    ·refine Ev.ct (qs.2 h3) ?_
     have hE:qax t=if t.sort≠0 then 1 else if Jv t.name then (if 8<t.kids.length then 3 else 0) else 2:=by
      unfold qax qfd
      rw [if_neg (by omega),if_pos h3]
     refine Ev.ite (λ h'=>?_) λ h'=>?_
     ·rw [bnt,qr] at h';exact err 1 (by rw [hE,if_pos h']) (by decide)
     rw [bnf,qs] at h'
     rw [if_neg (by omega)] at hE
     exact nm (.inl h3) λ b hb=>by rw [hE,hb]
    ·refine Ev.cf (qr.2 h3) ?_
     refine err 1 ?_ (by decide)
     unfold qax qfd
     rw [if_neg (by omega),if_neg h3]
   rw [qfr]
   by_cases h0:qax t=0
   ·rw [h0]
    obtain ⟨r,g1,g2,g3⟩:=key 0 (Nat.zero_le _) (n+1) (max d lev) (by rw [List.drop_zero];omega) (by omega)
    rw [List.drop_zero] at g2 g3
    refine ⟨r,start r (λ h=>absurd h0 h) (λ _=>Ev.diag (L := λ m k=>yI m (zy m) k lev t.kids t.kids.length 0 ((n+1:Nat):Int) ((max d lev:Nat):Int)) g1),g2,λ hh=>?_⟩
    obtain ⟨q1,q2⟩:=g3 hh
    refine ⟨by rw [q1];congr 1;omega,?_⟩
    rw [q2,show max d lev=max d (lev+0) by omega,qvS,qdP,Nat.add_sub_cancel]
   ·refine ⟨_,start _ (λ _=>rfl) (λ h=>absurd h h0),?_,λ hh=>?_⟩
    ·rw [zt _ h0]
    ·rw [zt _ h0] at hh;exact absurd hh h0
theorem ja (t:T) (hs:size t<=1000000000):Ev (λ m _=>qH m t) (qx t):=by
 refine Ev.succ ?_
 simp only [qwb,qfQ,qk]
 unfold qx
 obtain ⟨r,h1,h2,h3⟩:=qD1 t hs 1 0 0 (by omega) (by omega) (by omega)
 refine Ev.bind h1 ?_
 rw [h2]
 refine Ev.ite (λ h=>?_) λ h=>?_
 ·rw [bnt,qr] at h;exact Ev.ret (by rw [if_pos h])
 rw [bnf,qs] at h
 obtain ⟨q1,q2⟩:=h3 h
 have hd:QG t ≥ 1:=by rw [qdP];omega
 rw [if_neg (by omega),q1,q2]
 refine Ev.ite (λ h=>?_) λ h=>?_
 ·rw [zf] at h;exact Ev.ret (by rw [if_pos (.inl (by omega))])
 rw [zA] at h
 refine Ev.ite (λ h=>?_) λ h=>?_
 ·rw [zf] at h;exact Ev.ret (by rw [if_pos (.inr (by omega))])
 ·rw [zA] at h;exact Ev.ret (by rw [if_neg (by omega)])
theorem qkm (t:T):size t<=1000000000->Ev (λ m _=>yd m t) t:=by
 induction t using T.ind with
 | h t ih =>
   intro hs
   refine Ev.succ ?_
   simp only [qxM,qdq]
   have hl:=Qy t
   have key:=zp (P := λ i=>Ev (λ m k=>JA m (yd m) k t.kids t.kids.length i t.kind t.name t.sort 0 [] 0 (t.kids.take i) []) t) t.kids (by omega)
    (λ hc=>by
     refine Ev.loop ?_
     simp only [qlm,qdp]
     refine Ev.cf hc ?_
     rw [List.take_length]
     exact Ev.ret (qk t))
    (λ i x hx hd hc hg hi hP=>by
     refine Ev.loop ?_
     simp only [qlm,qdp,qk]
     have hm:=List.mem_of_getElem? hx
     have h1:=Qu t x hm
     refine Ev.ct hc (Ev.some hg (Ev.bind (ih x hm (by omega)) (Ev.ct (jW ?_ (by omega)) ?_)))
     ·have:(t.kids.take i).length<=t.kids.length:=by rw [List.length_take];omega
      omega
     ·rw [hi]
      refine hP.congr λ m k=>?_
      rw [List.take_add_one,hx];rfl)
   refine Ev.diag (L := λ m k=>JA m (yd m) k t.kids t.kids.length 0 t.kind t.name t.sort 0 [] 0 [] []) ?_
   exact key 0 (Nat.zero_le _)
noncomputable def qoX:T->Prop:=T.para λ t rs=>t.kids.length<2 ^ 62/\t.name.length<2 ^ 62/\∀ p∈rs,p
theorem qF8 (t:T):qoX t↔t.kids.length<2 ^ 62/\t.name.length<2 ^ 62/\∀ k∈t.kids,qoX k:=by
 unfold qoX
 rw [T.para_eq]
 exact ⟨λ ⟨a,b,c⟩=>⟨a,b,λ k hk=>c _ (List.mem_map_of_mem hk)⟩,λ ⟨a,b,c⟩=>⟨a,b,λ p hp=>by obtain ⟨k,hk,rfl⟩:=List.mem_map.1 hp;exact c k hk⟩⟩
end Go.AmZ
namespace Go.GxZ
theorem qfw {t:T} (h3:t.kind=3) (h:zo t=0):qbC t=0/\(∀ k∈t.kids,zo k=0):=by
 rw [qnl,if_neg (show ¬ (t.kind≠3) from λ h=>h h3)] at h
 by_cases h0:qbC t=0
 ·refine ⟨h0,?_⟩
  rw [h0] at h
  generalize t.kids=l at *
  induction l with
  | nil=>intro k hk;cases hk
  | cons x l ih =>
    rw [List.map_cons,Jr] at h
    by_cases hx:zo x=0
    ·rw [hx] at h
     intro k hk
     rcases List.mem_cons.1 hk with rfl | hk
     ·exact hx
     ·exact ih h k hk
    ·rw [zt _ hx] at h;exact absurd h hx
 ·rw [zt _ h0] at h;exact absurd h h0
end Go.GxZ
namespace Go.AmZ
open Go Go.GxZ Go.Lib
theorem qgz (t:T) (n:List UInt8):Ev (λ m _=>yj m t n) (isN t n):=by
 refine Ev.succ ?_
 simp only [qx5,qgV]
 unfold isN
 refine Ev.ite (λ h=>?_) λ h=>?_
 ·rw [qs] at h;exact Ev.ret (by rw [h];rfl)
 ·rw [qr] at h;exact Ev.ret (by rw [show (t.kind==3)=false from beq_eq_false_iff_ne.2 h];rfl)
theorem qG9 (n:List UInt8) (l:List T):Ev (λ m _=>qcC m n l) (apT n l):=Ev.succ (Ev.pure _)
def qD6 (n:List UInt8):List UInt8 × Int × Int × Int:=(qiF.find? λ r=>r.1==n).getD ([],0,0,0)
theorem qxp (n:List UInt8):(qD6 n).2=yF n:=by
 unfold qD6 yF
 cases qiF.find? λ r=>r.1==n<;>rfl
theorem qtF (n:List UInt8):Ev (λ m _=>JR m n) (qD6 n):=by
 refine Ev.succ ?_
 simp only [qqb,qaY]
 refine Ev.bind (a:=qiF) (Ev.pure _) ?_
 have key:=zp (P := λ i=>Ev (λ m k=>jY m k n qiF qiF.length i [] 0 0 0) (((qiF.drop i).find? λ r=>r.1==n).getD ([],0,0,0))) qiF (by decide)
  (λ hc=>by
   refine Ev.loop ?_
   simp only [qg9,qa3]
   refine Ev.cf hc ?_
   exact Ev.pure _)
  (λ i x hx hd hc hg hi hP=>by
   refine Ev.loop ?_
   simp only [qg9,qa3]
   refine Ev.ct hc (Ev.some hg ?_)
   rw [hd,List.find?_cons,hi]
   refine Ev.ite (λ h=>?_) λ h=>?_
   ·exact Ev.ret (by rw [show (x.1==n)=true from h];rfl)
   ·rw [show (x.1==n)=false from h];exact hP)
 refine Ev.diag (L := λ m k=>jY m k n qiF qiF.length 0 [] 0 0 0) ?_
 exact key 0 (Nat.zero_le _)
theorem qwB {t:T} (h3:t.kind=3) (h:qbC t=0):(yF t.name).2.2≠0/\(yF t.name).1<=(t.kids.length:Int)/\(t.kids.length:Int)<=(yF t.name).2.1/\qaz t=false:=by
 unfold qbC at h
 rw [if_neg (show ¬ t.kind≠3 from λ hh=>hh h3)] at h
 split at h
 ·omega
 rename_i h1
 split at h
 ·omega
 rename_i h2
 split at h
 ·omega
 rename_i h4
 exact ⟨h1,by omega,by omega,by simpa using h4⟩
theorem qsM {t:T} {i:Nat} (h:i<t.kids.length):qc t.kids (i:Int)=some (kid t i):=by
 rw [yY]
 unfold kid
 rw [List.getD_eq_getElem?_getD,List.getElem?_eq_getElem h];rfl
theorem qkM {t:T} (h:0<t.kids.length):qc t.kids 0=some (kid t 0):=qsM (i:=0) h
theorem qA6 {t:T} (h:1<t.kids.length):qc t.kids 1=some (kid t 1):=qsM (i:=1) h
theorem qze {t:T} {i:Nat} (h:i<t.kids.length):kid t i∈t.kids:=by
 unfold kid
 rw [List.getD_eq_getElem?_getD,List.getElem?_eq_getElem h]
 exact List.getElem_mem h
theorem J9 {t:T} {n:List UInt8}:isN t n=true↔t.kind=3/\t.name=n:=by
 unfold isN
 rw [Bool.and_eq_true,beq_iff_eq,beq_iff_eq]
theorem qBw (t:T):size t<=1000000000->Ev (λ m _=>qy m t) (zo t):=by
 induction t using T.ind with
 | h t ih =>
   intro hs
   refine Ev.succ ?_
   simp only [qs0,qbT]
   have hl:=Qy t
   rw [qnl]
   refine Ev.ite (λ h=>?_) λ h3=>?_
   ·rw [bnt,qr] at h;exact Ev.ret (by rw [if_pos h])
   rw [bnf,qs] at h3
   rw [if_neg (show ¬ t.kind≠3 from λ hh=>hh h3)]
   have k2:=zp (P := λ i=>Ev (λ m k=>(qI m (qy m) k).2 t.kids t.kids.length i) (((t.kids.drop i).map zo).foldl thn 0)) t.kids (by omega)
    (λ hc=>by
     refine Ev.loop ?_
     simp only [qh8,qbG]
     refine Ev.cf hc ?_
     exact Ev.ret (by simp))
    (λ i x hx hd hc hg hi hP=>by
     refine Ev.loop ?_
     simp only [qh8,qbG,qk]
     have hm:=List.mem_of_getElem? hx
     have h1:=Qu t x hm
     refine Ev.ct hc (Ev.some hg (Ev.bind (ih x hm (by omega)) ?_))
     rw [hd,List.map_cons,Jr,hi]
     refine Ev.ite (λ h=>?_) λ h=>?_
     ·rw [bnt,qr] at h;exact Ev.ret (by rw [zt _ h])
     ·rw [bnf,qs] at h;rw [h];exact hP)
   have k2':Ev (λ m k=>(qI m (qy m) k).2 t.kids t.kids.length 0) ((t.kids.map zo).foldl thn 0):=(k2 0 (Nat.zero_le _)).res (by rw [List.drop_zero])
   have k1:=zp (P := λ i=>Ev (λ m k=>(qI m (qy m) k).1 t.kids t.kids.length i t.kind t.name t.sort t.kids) (if (t.kids.drop i).any (λ k=>decide (k.kind=3)||decide (k.sort≠1))=true then 10 else (t.kids.map zo).foldl thn 0)) t.kids (by omega)
    (λ hc=>by
     refine Ev.loop ?_
     simp only [qig,qbS]
     refine Ev.cf hc ?_
     refine k2'.res ?_
     rw [List.drop_length];rfl)
    (λ i x hx hd hc hg hi hP=>by
     refine Ev.loop ?_
     simp only [qig,qbS,qk]
     refine Ev.ct hc (Ev.some hg ?_)
     rw [hd,List.any_cons,hi]
     refine Ev.ite (λ h=>?_) λ h=>?_
     ·rw [qs] at h;exact Ev.ret (by rw [decide_eq_true h];rfl)
     rw [qr] at h
     rw [decide_eq_false h]
     refine Ev.ite (λ h'=>?_) λ h'=>?_
     ·rw [bnt,qr] at h';exact Ev.ret (by rw [decide_eq_true h'];rfl)
     ·rw [bnf,qs] at h';rw [decide_eq_false (λ hh=>hh h')];exact hP)
   have fin2:qbC t=0->Ev (λ m _=>(qI m (qy m) m).2 t.kids t.kids.length 0) ((t.kids.map zo).foldl thn (qbC t)) := λ h=>by
    rw [h]
    exact Ev.diag (L := λ m k=>(qI m (qy m) k).2 t.kids t.kids.length 0) k2'
   have fin1:qaz t=t.kids.any (λ k=>decide (k.kind=3)||decide (k.sort≠1))->qbC t=(if qaz t=true then 10 else 0)->Ev (λ m _=>(qI m (qy m) m).1 t.kids t.kids.length 0 t.kind t.name t.sort t.kids) ((t.kids.map zo).foldl thn (qbC t)) := λ hp h=>by
    refine (Ev.diag (L := λ m k=>(qI m (qy m) k).1 t.kids t.kids.length 0 t.kind t.name t.sort t.kids) (k1 0 (Nat.zero_le _))).res ?_
    rw [List.drop_zero,<- hp,h]
    split
    ·rw [zt _ (by decide)]
    ·rfl
   refine Ev.bind (qtF t.name) ?_
   rw [qxp]
   have hK:qbC t=if (yF t.name).2.2=0 then 10 else if (t.kids.length:Int)<(yF t.name).1\/(yF t.name).2.1<(t.kids.length:Int) then 6 else if qaz t=true then 10 else 0:=by
    unfold qbC
    rw [if_neg (show ¬ t.kind≠3 from λ hh=>hh h3)]
   refine Ev.ite (λ h=>?_) λ h=>?_
   ·rw [qs] at h;rw [if_pos h] at hK;exact Ev.ret (by rw [hK,zt _ (by decide)])
   rw [qr] at h
   rw [if_neg h] at hK
   refine Ev.ite (λ h1=>?_) λ h1=>?_
   ·rw [zf] at h1;rw [if_pos (.inl h1)] at hK;exact Ev.ret (by rw [hK,zt _ (by decide)])
   rw [zA] at h1
   refine Ev.ite (λ h2=>?_) λ h2=>?_
   ·rw [zf] at h2;rw [if_pos (.inr h2)] at hK;exact Ev.ret (by rw [hK,zt _ (by decide)])
   rw [zA] at h2
   rw [if_neg (by omega)] at hK
   refine Ev.ite (λ hn=>?_) λ hn=>?_
   ·rw [Ji] at hn
    refine fin1 ?_ hK
    unfold qaz
    rw [hn,if_neg (by decide),if_pos (.inl rfl)]
   rw [JG] at hn
   refine Ev.ite (λ hn'=>?_) λ hn'=>?_
   ·rw [Ji] at hn'
    refine fin1 ?_ hK
    unfold qaz
    rw [hn',if_neg (by decide),if_pos (.inr rfl)]
   rw [JG] at hn'
   refine Ev.ite (λ hw=>?_) λ hw=>?_
   ·rw [Ji] at hw
    have hpos:0<t.kids.length:=by
     rw [hw,show (yF [110,101,119]).1=1 from by decide] at h1
     omega
    refine Ev.some (qkM hpos) ?_
    have hp:qaz t=decide ((kid t 0).kind≠2):=by
     unfold qaz
     rw [if_pos (show t.name=qsq from hw)]
    refine Ev.ite (λ hh=>?_) λ hh=>?_
    ·rw [bnt,qr] at hh
     rw [hp,decide_eq_true hh,if_pos rfl] at hK
     exact Ev.ret (by rw [hK,zt _ (by decide)])
    ·rw [bnf,qs] at hh
     rw [hp,decide_eq_false (λ g=>g hh)] at hK
     exact fin2 hK
   ·rw [JG] at hw
    refine fin2 ?_
    have:qaz t=false:=by
     unfold qaz
     rw [if_neg (show ¬ t.name=qsq from hw),if_neg (λ h=>h.elim hn hn')]
    rw [this] at hK
    exact hK
theorem qGO (t:T) (hs:size t<=1000000000):Ev (λ m _=>qb3 m t) (qkl t):=by
 refine Ev.succ ?_
 simp only [qsT,qen,qk]
 unfold qkl
 refine Ev.bind (ja t hs) ?_
 refine Ev.ite (λ h=>?_) λ h=>?_
 ·rw [bnt,qr] at h;exact Ev.ret (by rw [j9 h])
 ·rw [bnf,qs] at h;rw [h];exact Ev.bind (qBw t hs) (Ev.pure _)
end Go.AmZ
namespace Go.GxZ
def Asc (l:List T):Prop:=l.Pairwise λ a b=>qw a b=-1
theorem qFI {a b:T}:qw a b=1↔qw b a=-1:=by
 have:=yf.anti a b;omega
theorem qzI {a b c:T} (h1:qw a b=-1) (h2:qw b c=-1):qw a c=-1:=yf.trans a b c h1 h2
theorem qEx {x:T} {l:List T}:Asc (x::l)↔(∀ y∈l,qw x y=-1)/\Asc l:=List.pairwise_cons
theorem qfJ {a b:T}:qbR a b=true↔a=b:=by unfold qbR;exact decide_eq_true_iff
end Go.GxZ
namespace Go.AmZ
open Go Go.GxZ Go.Lib
noncomputable def szL (l:List T):Nat:=(l.map size).sum
theorem zL (x:T) (l:List T):szL (x::l)=size x+szL l:=by simp [szL]
theorem qeR (a b:List T):szL (a++b)=szL a+szL b:=by simp [szL]
theorem qbv:∀ l:List T,l.length<=szL l
 | []=>Nat.zero_le _
 | x::l=>by
   have:=qbv l
   have:=size_pos x
   rw [zL,List.length_cons];omega
theorem qgN {l:List T} {x:T} (h:x∈l):size x<=szL l:=qkF l x h
theorem qkK:∀ (n:Nat) (a b:List T),a.length+b.length<=n->szL (yx a b)<=szL a+szL b
 | _,[],b,_=>by rw [yx];omega
 | _,x::a,[],_=>by rw [yx];omega
 | 0,x::a,y::b,h=>by simp at h
 | n+1,x::a,y::b,h=>by
   simp only [List.length_cons] at h
   rw [yx]
   split
   ·have:=qkK n a (y::b) (by simp;omega)
    rw [zL,zL];omega
   ·split
    ·have:=qkK n (x::a) b (by simp;omega)
     rw [zL y,zL y];omega
    ·have:=qkK n a b (by omega)
     rw [zL,zL];omega
theorem qn6:∀ (ls:List (List T)) (a:List T),szL (ls.foldl yx a)<=szL a+(ls.map szL).sum
 | [],_=>by simp
 | l::ls,a=>by
   have h1:=qn6 ls (yx a l)
   have h2:=qkK _ a l (Nat.le_refl _)
   simp only [List.foldl_cons,List.map_cons,List.sum_cons]
   omega
theorem qrn (f g:T->Nat):∀ l:List T,(∀ k∈l,f k<=g k)->(l.map f).sum<=(l.map g).sum
 | [],_=>Nat.le_refl _
 | x::l,h=>by
   have h1:=h x (List.mem_cons_self ..)
   have h2:=qrn f g l λ k hk=>h k (List.mem_cons_of_mem _ hk)
   simp only [List.map_cons,List.sum_cons];omega
theorem qxd (l:List T) (h:∀ k∈l,szL (JI k)<=size k):szL ((l.map JI).foldl yx [])<=szL l:=by
 refine Nat.le_trans (qn6 _ _) ?_
 rw [List.map_map]
 have:=qrn (szL ∘ JI) size l h
 show 0+_<=(l.map size).sum
 omega
theorem qo4 (t:T):szL (JI t)<=size t:=by
 refine T.ind (P := λ t=>szL (JI t)<=size t) ?_ t
 intro t ih
 rw [qos]
 split
 ·exact Nat.zero_le _
 ·split
  ·have:=qxd t.kids ih
   have:=zc t
   unfold szL at *;omega
  ·show szL [t]<=_
   rw [zL];exact Nat.le_refl _
theorem qil (l:List T):szL (yB l)<=szL l:=qxd l λ k _=>qo4 k
theorem qkV (x:T) (l:List T):yL (x::l) 1 (((x::l).length:Nat):Int)=l:=by
 unfold yL
 rw [Int.toNat_natCast,List.take_length];rfl
theorem qjY (n:Nat):inb (n:Int) n=true:=by unfold inb;rw [decide_eq_true_iff];omega
theorem qno (x:T) (l:List T):inb 1 (Int.toNat (((x::l).length:Nat):Int))=true:=by
 unfold inb;rw [decide_eq_true_iff,Int.toNat_natCast,List.length_cons];omega
theorem qwm (x:T) (l:List T):ilt 0 (((x::l).length:Nat):Int)=true:=by rw [zf,List.length_cons];omega
theorem qAW:∀ (n:Nat) (a b acc:List T),a.length+b.length<=n->szL acc+szL a+szL b<=1000000000->Ev (λ m k=>qbd m k a b acc) (acc++yx a b):=by
 intro n
 induction n with
 | zero =>
   intro a b acc hn hs
   have:a=[]:=List.eq_nil_of_length_eq_zero (by omega)
   subst this
   have:b=[]:=List.eq_nil_of_length_eq_zero (by omega)
   subst this
   refine Ev.loop ?_
   simp only [qog,qfe]
   have:=qbv acc
   exact Ev.cf rfl (Ev.ct (jW (by simp only [List.length_nil];omega) (by omega)) (Ev.ct (jW (by simp only [List.length_nil,List.append_nil];omega) (by omega)) (Ev.ret (by rw [yx];simp))))
 | succ n ih =>
   intro a b acc hn hs
   refine Ev.loop ?_
   simp only [qog,qfe,qk]
   have h1:=qbv acc
   have h2:=qbv a
   have h3:=qbv b
   cases a with
   | nil =>
     refine Ev.cf rfl (Ev.ct (jW (by simp only [List.length_nil];omega) (by omega)) (Ev.ct (jW (by simp only [List.append_nil];omega) (by omega)) (Ev.ret (by rw [yx];simp))))
   | cons x a =>
     refine Ev.ct (qwm x a) ?_
     cases b with
     | nil =>
       refine Ev.cf rfl (Ev.ct (jW (by omega) (by omega)) (Ev.ct (jW (by rw [List.length_append];simp only [List.length_nil];omega) (by omega)) (Ev.ret (by rw [yx];simp))))
     | cons y b =>
       rw [zL,zL] at hs
       refine Ev.ct (qwm y b) (Ev.some (qaQ _) (Ev.some (qaQ _) (Ev.bind (qao x (by omega) y (by omega)) ?_)))
       rw [yx]
       simp only [List.length_cons] at hn h2 h3
       rw [zL] at h2 h3
       refine Ev.ite (λ hc=>?_) λ hc=>?_
       ·rw [zf] at hc
        have hc:qw x y=-1:=by rcases yf.rng x y with h | h | h<;>omega
        rw [if_pos hc]
        refine Ev.some (qaQ _) (Ev.ct (jW (by omega) (by omega)) (Ev.ct (qjY _) (Ev.ct (qno x a) ?_)))
        rw [qkV]
        refine (ih a (y::b) (acc++[x]) (by simp only [List.length_cons];omega) (by rw [qeR,zL,zL];show szL acc+(size x+0)+_+_<=_;omega)).res (by simp)
       ·rw [zA] at hc
        rw [if_neg (by omega)]
        refine Ev.ite (λ hd=>?_) λ hd=>?_
        ·rw [zf] at hd
         have hd:qw x y=1:=by rcases yf.rng x y with h | h | h<;>omega
         rw [if_pos hd]
         refine Ev.some (qaQ _) (Ev.ct (jW (by omega) (by omega)) (Ev.ct (qjY _) (Ev.ct (qno y b) ?_)))
         rw [qkV]
         refine (ih (x::a) b (acc++[y]) (by simp only [List.length_cons];omega) (by rw [qeR,zL,zL];show szL acc+(size y+0)+_+_<=_;omega)).res (by simp)
        ·rw [zA] at hd
         rw [if_neg (by omega)]
         refine Ev.ct (qjY _) (Ev.ct (qno x a) (Ev.ct (qjY _) (Ev.ct (qno y b) ?_)))
         rw [qkV,qkV]
         exact ih a b acc (by omega) (by omega)
theorem qv3 (a b:List T) (hs:szL a+szL b<=1000000000):Ev (λ m _=>qe2 m a b) (yx a b):=by
 refine Ev.succ ?_
 simp only [qAE,qff]
 refine Ev.diag (L := λ m k=>qbd m k a b []) ?_
 exact qAW _ a b [] (Nat.le_refl _) (by show 0+_+_<=_;omega)
theorem qx8 (l:List T) (i:Nat):szL (l.take i)<=szL l:=by
 have:=congrArg szL (List.take_append_drop i l)
 rw [qeR] at this;omega
theorem qdl {l:List T} {i:Nat} {x:T} (h:l[i]? = some x):szL (l.take i)+size x<=szL l:=by
 have h1:l.take (i+1)=l.take i++[x]:=by rw [List.take_add_one,h];rfl
 have h2:=qx8 l (i+1)
 rw [h1,qeR,zL] at h2
 have:szL ([]:List T)=0:=rfl
 omega
theorem qqg {l:List T} {i:Nat} {x:T} (h:l[i]? = some x):((l.take (i+1)).map JI).foldl yx []=yx (((l.take i).map JI).foldl yx []) (JI x):=by
 rw [List.take_add_one,h,List.map_append,List.foldl_append];rfl
theorem qDN (t:T):size t<=1000000000->Ev (λ m _=>zM m t) (JI t):=by
 induction t using T.ind with
 | h t ih =>
   intro hs
   have hl:=Qy t
   have hz:=zc t
   refine Ev.succ ?_
   simp only [qsb,qbL,qk]
   have key:=zp (P := λ i=>Ev (λ m k=>jK m (zM m) k (((t.kids.take i).map JI).foldl yx []) t.kids t.kids.length i) ((t.kids.map JI).foldl yx [])) t.kids (by omega)
    (λ hc=>by
     refine Ev.loop ?_
     simp only [qin,qbQ]
     refine Ev.cf hc ?_
     rw [List.take_length]
     exact Ev.pure _)
    (λ i x hx hd hc hg hi hP=>by
     refine Ev.loop ?_
     simp only [qin,qbQ,qk]
     have hm:=List.mem_of_getElem? hx
     have h1:=Qu t x hm
     have h2:=qil (t.kids.take i)
     have h3:=qdl hx
     have h4:=qo4 x
     refine Ev.ct hc (Ev.some hg (Ev.bind (ih x hm (by omega)) (Ev.bind (qv3 _ _ ?_) ?_)))
     ·unfold yB at h2;unfold szL at *;omega
     ·rw [hi]
      refine hP.congr λ m k=>?_
      rw [qqg hx])
   have main:Ev (λ m _=>jK m (zM m) m [] t.kids t.kids.length 0) ((t.kids.map JI).foldl yx []) :=
    Ev.diag (L := λ m k=>jK m (zM m) k [] t.kids t.kids.length 0) (key 0 (Nat.zero_le _))
   rw [qos]
   by_cases h3:t.kind=3
   ·have hk:ieq t.kind 3=true:=qs.2 h3
    refine Ev.ct hk ?_
    refine Ev.ite (λ hn=>?_) λ hn=>?_
    ·rw [Ji] at hn
     have hnz:isN t qqo=true:=J9.2 ⟨h3,hn⟩
     have hnx:isN t qfM=false:=by
      rw [<- Bool.not_eq_true,J9];rintro ⟨_,h⟩;rw [hn] at h;exact absurd h (by decide)
     refine Ev.ite (λ he=>?_) λ he=>?_
     ·rw [qs] at he
      have he:t.kids=[]:=List.eq_nil_of_length_eq_zero (by omega)
      rw [hnz,he]
      exact Ev.pure _
     ·rw [qr] at he
      have he:t.kids.isEmpty=false:=by
       cases hh:t.kids with
       | nil=>rw [hh] at he;exact absurd rfl he
       | cons _ _=>rfl
      rw [hnz,he,hnx]
      exact Ev.ct hk (Ev.cf (by rw [hn];rfl) (Ev.pure _))
    ·have hn':=JG.1 hn
     have hnz:isN t qqo=false:=by
      rw [<- Bool.not_eq_true,J9];rintro ⟨_,h⟩;exact hn' h
     rw [hnz]
     refine Ev.ct hk (Ev.ite (λ hx=>?_) λ hx=>?_)
     ·rw [show isN t qfM=true from J9.2 ⟨h3,Ji.1 hx⟩]
      exact main
     ·have hnx:isN t qfM=false:=by
        rw [<- Bool.not_eq_true,J9];rintro ⟨_,h⟩;exact JG.1 hx h
      rw [hnx]
      exact Ev.pure _
   ·have hk:ieq t.kind 3=false:=qr.2 h3
    have hnn:∀ n,isN t n=false := λ n=>by
     rw [<- Bool.not_eq_true,J9];rintro ⟨h,_⟩;exact h3 h
    rw [hnn,hnn]
    exact Ev.cf hk (Ev.cf hk (Ev.pure _))
end Go.AmZ
namespace Go.AmZ
open Go Go.GxZ
theorem qB7 (ls:List (List T)) (hn:ls.length<1000) (h:(ls.map List.length).sum<=100000000):Ev (λ m _=>q9 m ls) ls.flatten:=by
 have hfl:∀ l:List (List T),l.flatten.length=(l.map List.length).sum := λ l=>List.length_flatten
 have k2:=zp (P := λ i=>Ev (λ m k=>(qi m k).2 ls ls.length i (ls.take i).flatten) ls.flatten) ls (by omega)
  (λ hc=>by
   refine Ev.loop ?_
   simp only [Q7,yl]
   refine Ev.cf hc ?_
   rw [List.take_length]
   exact Ev.pure _)
  (λ i x hx hd hc hg hi hP=>by
   refine Ev.loop ?_
   simp only [Q7,yl]
   have ht:ls.take (i+1)=ls.take i++[x]:=by rw [List.take_add_one,hx];rfl
   have hs:((ls.take (i+1)).map List.length).sum<=(ls.map List.length).sum:=by
    have:=congrArg (λ l=>(l.map List.length).sum) (List.take_append_drop (i+1) ls)
    simp only [List.map_append,List.sum_append] at this
    omega
   rw [ht] at hs
   simp only [List.map_append,List.sum_append,List.map_cons,List.map_nil,List.sum_cons,List.sum_nil] at hs
   refine Ev.ct hc (Ev.some hg (Ev.ct (jW ?_ (by omega)) ?_))
   ·rw [hfl];omega
   ·rw [hi]
    refine hP.congr λ m k=>?_
    rw [ht,List.flatten_append];simp)
 have k1:=zp (P := λ i=>∀ n:Nat,n+((ls.drop i).map List.length).sum<=100000000->Ev (λ m k=>(qi m k).1 ls n ls ls.length i) ls.flatten) ls (by omega)
  (λ hc n hn=>by
   refine Ev.loop ?_
   simp only [Q6,yn]
   refine Ev.cf hc (Ev.some (a:=((),[],())) ?_ (k2 0 (Nat.zero_le _)))
   unfold yh
   rw [show inb (n:Int) 100000000=true from by unfold inb;rw [decide_eq_true_iff];omega]
   rfl)
  (λ i x hx hd hc hg hi hP n hn=>by
   refine Ev.loop ?_
   simp only [Q6,yn]
   rw [hd,List.map_cons,List.sum_cons] at hn
   refine Ev.ct hc (Ev.some hg ?_)
   rw [qkk,jV (by omega)]
   refine Ev.cf (zA.2 (by omega)) ?_
   rw [hi]
   exact hP (n+x.length) (by omega))
 refine Ev.succ ?_
 simp only [qc5,ym]
 refine Ev.diag (L := λ m k=>(qi m k).1 ls 0 ls ls.length 0) ?_
 exact k1 0 (Nat.zero_le _) 0 (by rw [List.drop_zero];omega)
theorem qp7 (a b:List T) (h:a.length+b.length<=100000000):Ev (λ m _=>q9 m [a,b]) (a++b) :=
 (qB7 [a,b] (by simp) (by simpa using h)).res (by simp)
theorem qw5 {f:T->Int} {l:List T} {i:Nat} {x:T} (h:l.drop i=x::l.drop (i+1)):((l.drop i).map f).foldl thn 0=if f x≠0 then f x else ((l.drop (i+1)).map f).foldl thn 0:=by
 rw [h,List.map_cons]
 by_cases hx:f x=0
 ·rw [if_neg (by simpa using hx),hx];rfl
 ·rw [if_pos hx]
  exact zt _ hx
theorem qDr (l:List T) (hs:szL l<=100000000):Ev (λ m _=>qfD m l []) (qqU l):=by
 have hl:=qbv l
 refine Ev.succ ?_
 simp only [qx3,qew]
 unfold qqU
 refine Ev.ite (λ h=>?_) λ h=>?_
 ·rw [zf] at h
  rw [if_pos (by omega)]
  exact Ev.pure _
 ·rw [zA] at h
  rw [if_neg (by omega)]
  refine Ev.bind (qp7 l [] (by simp only [List.length_nil];omega)) ?_
  rw [List.append_nil]
  have key:=zp (P := λ i=>Ev (λ m k=>qai m k l l.length i) (((l.drop i).map qx).foldl thn 0)) l (by omega)
   (λ hc=>by
    refine Ev.loop ?_
    simp only [qmP,qd5]
    refine Ev.cf hc ?_
    rw [List.drop_length]
    exact Ev.pure _)
   (λ i x hx hd hc hg hi hP=>by
    refine Ev.loop ?_
    simp only [qmP,qd5,qk]
    have h1:=qgN (List.mem_of_getElem? hx)
    rw [qw5 hd]
    refine Ev.ct hc (Ev.some hg (Ev.bind (ja x (by omega)) (Ev.ite (λ hv=>?_) λ hv=>?_)))
    ·rw [bnt,qr] at hv
     rw [if_pos hv]
     exact Ev.pure _
    ·rw [bnf,qs] at hv
     rw [if_neg (by omega),hi]
     exact hP)
  refine Ev.diag (L := λ m k=>qai m k l l.length 0) ?_
  exact (key 0 (Nat.zero_le _)).res (by rw [List.drop_zero])
theorem qAc (t:T) (hs:size t<=1000000000):Ev (λ m _=>qb7 m t [] t) (t,0):=by
 refine Ev.succ ?_
 simp only [qs4,qbM,qk]
 refine Ev.bind (qkm t hs) ?_
 refine Ev.diag (L := λ m k=>Jo m k [] ([]:List Int).length 0 t.kind t.name t.sort t.kids 0 [] 0 t.kind t.name t.sort t.kids []) (Ev.loop ?_)
 simp only [qqw,qej,qk]
 refine Ev.cf rfl ?_
 rw [show T.mk t.kind t.name t.sort t.kids=t from qk t]
 exact Ev.bind (qkm t hs) (Ev.pure _)
def qcs (l:List T) (i:Nat):List T:=l.take i++List.replicate (l.length-i) zT
theorem qCX {l:List T} {i:Nat} (h:i<l.length):(qcs l i)[i]? = some zT:=by
 unfold qcs
 rw [List.getElem?_append_right (by rw [List.length_take];omega),List.length_take,List.getElem?_replicate,if_pos (by omega)]
theorem qo3 {l:List T} {i:Nat} {x:T} (h:l[i]? = some x):(qcs l i).set i x=qcs l (i+1):=by
 have hi:=(List.getElem?_eq_some_iff.1 h).1
 unfold qcs
 have h1:l.take (i+1)=l.take i++[x]:=by rw [List.take_add_one,h];rfl
 have h2:List.replicate (l.length-i) zT=zT::List.replicate (l.length-(i+1)) zT:=by
  rw [show l.length-i=(l.length-(i+1))+1 by omega,List.replicate_succ]
 rw [h1,h2,List.set_append_right _ _ (by rw [List.length_take];omega),List.length_take,show i-min i l.length=0 by omega,List.set_cons_zero,List.append_assoc];rfl
theorem qBL {l:List T} {i:Nat} {x:T} (h:l[i]? = some x):(qcs l (i+1)).set i x=qcs l (i+1):=by
 rw [<- qo3 h,List.set_set]
theorem qCp {l:List T} {i:Nat} {x:T} (h:l[i]? = some x):(qcs l (i+1))[i]? = some x:=by
 have hi:=(List.getElem?_eq_some_iff.1 h).1
 rw [<- qo3 h,List.getElem?_set_self (by unfold qcs;rw [List.length_append,List.length_take,List.length_replicate];omega)]
theorem qbU {α : Type} (l:List α) (i:Nat) (v : α):jD l (i:Int) v=l.set i v:=by
 unfold jD
 rw [if_pos (by omega),Int.toNat_natCast]
theorem qF2:∀ (n:Nat) (l:List T),szL l<=n->n<=1000000->Ev (λ m _=>QE m l) l:=by
 intro n
 induction n using Nat.strongRecOn with
 | _ n ih =>
 intro l hs hn
 have hl:=qbv l
 refine Ev.succ ?_
 simp only [qBS,qgy]
 have key:=zp (P := λ i=>Ev (λ m k=>qcv m (QE m) k l l.length i (qcs l i)) l) l (by omega)
  (λ hc=>by
   refine Ev.loop ?_
   simp only [qrk,qgo]
   refine Ev.cf hc ?_
   exact Ev.ret (by unfold qcs;rw [List.take_length,Nat.sub_self];simp))
  (λ i x hx hd hc hg hi hP=>by
   refine Ev.loop ?_
   simp only [qrk,qgo,qk]
   have h1:=qgN (List.mem_of_getElem? hx)
   have h2:=zc x
   have hib:=(List.getElem?_eq_some_iff.1 hx).1
   have e:jD (qcs l i) i x=qcs l (i+1):=by rw [qbU,qo3 hx]
   have e2:jD (qcs l (i+1)) i x=qcs l (i+1):=by rw [qbU,qBL hx]
   have g:qc (qcs l (i+1)) i=some x:=by rw [yY,qCp hx]
   refine Ev.ct hc (Ev.some hg (Ev.bind (qAc x (by omega)) (Ev.some (a:=zT) (by rw [yY,qCX hib]) (Ev.bind (ih (szL x.kids) (by unfold szL at *;omega) x.kids (Nat.le_refl _) (by unfold szL at *;omega)) ?_))))
   rw [e]
   refine Ev.some g ?_
   rw [show T.mk x.kind x.name x.sort x.kids=x from qk x,e2,hi]
   refine Ev.ite (λ hk=>?_) λ hk=>hP
   rw [qs] at hk
   have hk:x.kids=[]:=List.eq_nil_of_length_eq_zero (by omega)
   refine Ev.some g ?_
   rw [show T.mk x.kind x.name x.sort []=x from by rw [<- hk];exact qk x,e2]
   exact hP)
 refine Ev.ct (by unfold qz4;rw [decide_eq_true_iff,Int.toNat_natCast];omega) ?_
 refine Ev.diag (L := λ m k=>qcv m (QE m) k l l.length 0 (List.replicate (Int.toNat (l.length:Int)) (T.mk 0 [] 0 []))) ?_
 refine (key 0 (Nat.zero_le _)).congr λ m k=>?_
 unfold qcs
 rw [List.take_zero,Int.toNat_natCast];rfl
theorem qGD (l:List T) (hs:szL l<=900000):Ev (λ m _=>qjf m l) (qr8 l):=by
 have hl:=qbv l
 refine Ev.succ ?_
 simp only [qB4,qgd]
 unfold qr8
 refine Ev.bind (qDr l (by omega)) (Ev.ite (λ h=>?_) λ h=>?_)
 ·rw [bnt,qr] at h
  rw [if_pos h]
  exact Ev.pure _
 ·rw [bnf,qs] at h
  rw [if_neg (by omega)]
  have key:=zp (P := λ i=>Ev (λ m k=>qco m k (((l.take i).map JI).foldl yx []) l l.length i 0 [] 0 []) (if qx (qbg (yB l))≠0 then (zT,3) else (qbg (yB l),0))) l (by omega)
   (λ hc=>by
    refine Ev.loop ?_
    simp only [qrK,qgk,qk]
    refine Ev.cf hc ?_
    rw [List.take_length]
    have h1:=qil l
    show Ev (λ m k=>qa (QE m (yB l)) _) _
    have h2:=qbv (yB l)
    have fin:∀ u:T,u=qbg (yB l)->Ev (λ m _=>qa (qH m u) λ v=>cond (qd (ieq v 0)) (some (T.mk 0 [] 0 [],(3:Int))) (some (u,0))) (if qx (qbg (yB l))≠0 then (zT,3) else (qbg (yB l),0)):=by
     intro u hu
     have hz:size (qbg (yB l))<=1+szL (yB l):=by
      unfold qbg
      split
      ·rw [zc];show 1+0<=_;omega
      ·split
       ·rename_i _ h1l
        have:(yB l).getD 0 zT∈yB l:=by
         cases hh:yB l with
         | nil=>rw [hh] at h1l;cases h1l
         | cons x r=>exact List.mem_cons_self ..
        have:=qgN this;omega
       ·rw [zc];exact Nat.le_refl _
     subst hu
     refine Ev.bind (ja _ (by omega)) (Ev.ite (λ h=>?_) λ h=>?_)
     ·rw [bnt,qr] at h
      rw [if_pos h];exact Ev.pure _
     ·rw [bnf,qs] at h
      rw [if_neg (by omega)];exact Ev.pure _
    refine Ev.bind (qF2 _ (yB l) (Nat.le_refl _) (by omega)) (Ev.ite (λ h0=>?_) λ h0=>?_)
    ·rw [qs] at h0
     exact fin _ (by unfold qbg;rw [if_pos (by omega)];rfl)
    ·rw [qr] at h0
     refine Ev.ite (λ h1=>?_) λ h1=>?_
     ·rw [qs] at h1
      refine Ev.some (a:=(yB l).getD 0 zT) ?_ (fin _ (by unfold qbg;rw [if_neg (by omega),if_pos (by omega)]))
      rw [qaQ,List.getD_eq_getElem?_getD]
      cases hh:yB l with
      | nil=>rw [hh] at h1;simp at h1
      | cons x r=>rfl
     ·rw [qr] at h1
      exact fin _ (by unfold qbg;rw [if_neg (by omega),if_neg (by omega)];rfl))
   (λ i x hx hd hc hg hi hP=>by
    refine Ev.loop ?_
    simp only [qrK,qgk,qk]
    have hm:=List.mem_of_getElem? hx
    have h1:=qgN hm
    have h2:=qil (l.take i)
    have h3:=qdl hx
    have h4:=qo4 x
    refine Ev.ct hc (Ev.some hg (Ev.bind (qDN x (by omega)) (Ev.bind (qv3 _ _ ?_) ?_)))
    ·unfold yB at h2;omega
    ·rw [hi]
     refine hP.congr λ m k=>?_
     rw [qqg hx])
  refine Ev.diag (L := λ m k=>qco m k [] l l.length 0 0 [] 0 []) ?_
  exact key 0 (Nat.zero_le _)
end Go.AmZ
namespace Go.AmZ
open Go Go.GxZ
theorem qFH (l:List T):size (qbg l)<=1+szL l:=by
 unfold qbg
 split
 ·rw [zc];show 1+0<=_;omega
 ·split
  ·rename_i _ h1l
   have:l.getD 0 zT∈l:=by
    cases l with
    | nil=>cases h1l
    | cons x r=>exact List.mem_cons_self ..
   have:=qgN this;omega
  ·rw [zc];exact Nat.le_refl _
end Go.AmZ
namespace Go.GxZ
def qe3 (l:List Pw):Prop:=Asc (l.map (·.1))
def NzP (l:List Pw):Prop:=∀ p∈l,p.2≠0
theorem qfx {p:Pw} {l:List Pw}:qe3 (p::l)↔(∀ q∈l,qw p.1 q.1=-1)/\qe3 l:=by
 unfold qe3
 rw [List.map_cons,qEx]
 simp
theorem qeO {p:Pw} {l:List Pw}:NzP (p::l)↔p.2≠0/\NzP l:=by
 unfold NzP;simp
def Qm (l:List Pw):Nat:=(l.map λ p=>p.2.natAbs).sum
theorem qkG:∀ (l:List Pw) (t:T) (n:Int) (p:Pw),p∈yQ l t n->p.1=t\/p∈l
 | [],t,n,p,h=>by simp [yQ] at h;exact .inl (by rw [h])
 | (x,m)::l,t,n,p,h=>by
   rw [yQ] at h
   split at h
   ·rcases List.mem_cons.1 h with h | h
    ·exact .inl (by rw [h])
    ·exact .inr h
   ·split at h
    ·rename_i h0
     split at h
     ·exact .inr (List.mem_cons_of_mem _ h)
     ·rcases List.mem_cons.1 h with h | h
      ·left;rw [h];exact (qaT t x h0).symm
      ·exact .inr (List.mem_cons_of_mem _ h)
    ·rcases List.mem_cons.1 h with h | h
     ·exact .inr (h▸List.mem_cons_self ..)
     ·rcases qkG l t n p h with h | h
      ·exact .inl h
      ·exact .inr (List.mem_cons_of_mem _ h)
theorem qxY:∀ (l:List Pw) (t:T) (n:Int),qe3 l->qe3 (yQ l t n)
 | [],_,_,_=>List.pairwise_singleton _ _
 | (x,m)::l,t,n,h=>by
   obtain ⟨h1,h2⟩:=qfx.1 h
   rw [yQ]
   have hr:=yf.rng t x
   split
   ·rename_i hlt
    refine qfx.2 ⟨λ q hq=>?_,h⟩
    rcases List.mem_cons.1 hq with e | hq
    ·rw [e];exact hlt
    ·exact qzI hlt (h1 q hq)
   ·split
    ·split
     ·exact h2
     ·exact qfx.2 ⟨h1,h2⟩
    ·refine qfx.2 ⟨λ q hq=>?_,qxY l t n h2⟩
     rcases qkG l t n q hq with e | hq
     ·rw [e];exact qFI.1 (show qw t x=1 by omega)
     ·exact h1 q hq
theorem qyI:∀ (l:List Pw) (t:T) (n:Int),NzP l->n≠0->NzP (yQ l t n)
 | [],_,_,_,hn=>by intro p hp;simp [yQ] at hp;rw [hp];exact hn
 | (x,m)::l,t,n,h,hn=>by
   obtain ⟨h1,h2⟩:=qeO.1 h
   rw [yQ]
   split
   ·exact qeO.2 ⟨hn,h⟩
   ·split
    ·split
     ·exact h2
     ·exact qeO.2 ⟨by assumption,h2⟩
    ·exact qeO.2 ⟨h1,qyI l t n h2 hn⟩
theorem qoN:∀ (l:List Pw) (t:T) (n:Int),Qm (yQ l t n)<=Qm l+n.natAbs
 | [],t,n=>by simp [yQ,Qm]
 | (x,m)::l,t,n=>by
   have ih:=qoN l t n
   unfold Qm at ih |-
   rw [yQ]
   split
   ·simp only [List.map_cons,List.sum_cons];omega
   ·split
    ·split
     ·simp only [List.map_cons,List.sum_cons];omega
     ·simp only [List.map_cons,List.sum_cons];omega
    ·simp only [List.map_cons,List.sum_cons];omega
theorem qoW:∀ (l:List Pw) (t:T) (n:Int),(yQ l t n).length<=l.length+1
 | [],t,n=>by simp [yQ]
 | (x,m)::l,t,n=>by
   have ih:=qoW l t n
   rw [yQ]
   split
   ·simp
   ·split
    ·split
     ·simp;omega
     ·simp
    ·simp only [List.length_cons];omega
theorem qBg (l:List Pw) (p:Pw) (h:p∈l):p.2.natAbs<=Qm l:=by
 unfold Qm
 induction l with
 | nil=>cases h
 | cons q l ih =>
   simp only [List.map_cons,List.sum_cons]
   rcases List.mem_cons.1 h with e | h
   ·rw [e];omega
   ·have:=ih h;omega
def JJ (l:List Pw):Prop:=qe3 l/\NzP l
theorem JJ.nil:JJ []:=⟨List.Pairwise.nil,λ _ h=>by cases h⟩
theorem JJ.ins {l:List Pw} (h:JJ l) (t:T) {n:Int} (hn:n≠0):JJ (yQ l t n):=⟨qxY l t n h.1,qyI l t n h.2 hn⟩
theorem qGT {t:T} {n:Int} (h:n≠0):qaB t n≠0:=by unfold qaB;split<;>omega
theorem qD2 (t:T) (n:Int):(qaB t n).natAbs=n.natAbs:=by unfold qaB;split<;>omega
theorem qyM (fs:List T) (n:Int) (P:List Pw->Prop) (h:∀ k∈fs,∀ l,P l->P (jd k l n)):∀ l,P l->P ((fs.map jd).foldl (λ l f=>f l n) l):=by
 induction fs with
 | nil=>intro l hl;exact hl
 | cons k fs ih=>intro l hl;exact ih (λ k hk=>h k (List.mem_cons_of_mem _ hk)) _ (h k (List.mem_cons_self ..) l hl)
theorem qBk (t:T):∀ (l:List Pw) (n:Int),n≠0->JJ l->JJ (jd t l n):=by
 refine T.ind (P := λ t=>∀ (l:List Pw) (n:Int),n≠0->JJ l->JJ (jd t l n)) ?_ t
 intro t ih l n hn h
 rw [qgB]
 split
 ·exact qyM t.kids (qaB t n) JJ (λ k hk l hl=>ih k hk l _ (qGT hn) hl) l h
 ·exact h.ins t hn
theorem qEL (t:T):∀ (l:List Pw) (n:Int),Qm (jd t l n)<=Qm l+size t*n.natAbs/\(jd t l n).length<=l.length+size t:=by
 refine T.ind (P := λ t=>∀ (l:List Pw) (n:Int),Qm (jd t l n)<=Qm l+size t*n.natAbs/\(jd t l n).length<=l.length+size t) ?_ t
 intro t ih l n
 rw [qgB,zc]
 split
 ·have:∀ (fs:List T),(∀ k∈fs,k∈t.kids)->∀ l,Qm ((fs.map jd).foldl (λ l f=>f l (qaB t n)) l)<=Qm l+(fs.map size).sum*n.natAbs/\((fs.map jd).foldl (λ l f=>f l (qaB t n)) l).length<=l.length+(fs.map size).sum:=by
    intro fs
    induction fs with
    | nil=>intro _ l;simp
    | cons k fs ihf =>
      intro hf l
      have h1:=ih k (hf k (List.mem_cons_self ..)) l (qaB t n)
      rw [qD2] at h1
      have h2:=ihf (λ k hk=>hf k (List.mem_cons_of_mem _ hk)) (jd k l (qaB t n))
      simp only [List.map_cons,List.foldl_cons,List.sum_cons,Nat.add_mul] at h2 |-
      omega
  have:=this t.kids (λ _ h=>h) l
  rw [Nat.add_mul]
  omega
 ·have h1:=qoN l t n
  have h2:=qoW l t n
  rw [Nat.add_mul]
  omega
theorem qlZ:∀ (b a:List Pw),JJ a->NzP b->JJ (Jg a b)
 | [],a,h,_=>h
 | p::b,a,h,k=>qlZ b (yQ a p.1 p.2) (h.ins p.1 (qeO.1 k).1) (qeO.1 k).2
theorem qoB:∀ (b a:List Pw),Qm (Jg a b)<=Qm a+Qm b/\(Jg a b).length<=a.length+b.length
 | [],a=>by simp [Jg,Qm]
 | p::b,a=>by
   have h1:=qoB b (yQ a p.1 p.2)
   have h2:=qoN a p.1 p.2
   have h3:=qoW a p.1 p.2
   have e:Qm (p::b)=p.2.natAbs+Qm b:=by simp [Qm]
   rw [show Jg a (p::b)=Jg (yQ a p.1 p.2) b from rfl,e,List.length_cons]
   omega
noncomputable def ixP:List Pw->T->Nat
 | [],_=>0
 | p::l,t=>if qw p.1 t=-1 then ixP l t+1 else 0
theorem qBj:∀ (l:List Pw) (t:T),ixP l t<=l.length
 | [],_=>Nat.le_refl _
 | p::l,t=>by
   have:=qBj l t
   rw [ixP]
   split
   ·simp;omega
   ·omega
theorem qCg:∀ (l:List Pw) (t:T) (i:Nat),i<=l.length->(∀ k p,k<i->l[k]? = some p->qw p.1 t=-1)->(∀ p,l[i]? = some p->qw p.1 t≠-1)->i=ixP l t
 | [],_,i,h,_,_=>by simp at h;rw [h];rfl
 | p::l,t,0,_,_,h=>by rw [ixP,if_neg (h p rfl)]
 | p::l,t,i+1,h,k,m=>by
   rw [ixP,if_pos (k 0 p (by omega) rfl)]
   rw [<- qCg l t i (by simpa using h) (λ j q hj hq=>k (j+1) q (by omega) (by simpa using hq)) (λ q hq=>m q (by simpa using hq))]
theorem qzB:∀ (l:List Pw) (t:T) (n:Int) (x:T) (m:Int),l[ixP l t]? = some (x,m)->qw x t=0 ->
  yQ l t n=if m+n=0 then l.take (ixP l t)++l.drop (ixP l t+1) else l.take (ixP l t)++[(x,m+n)]++l.drop (ixP l t+1)
 | [],_,_,_,_,h,_=>by simp at h
 | (y,k)::l,t,n,x,m,h,h0=>by
   have an:=yf.anti y t
   have rg:=yf.rng y t
   rw [ixP] at h
   rw [yQ,ixP]
   simp only at h |-
   by_cases c:qw y t=-1
   ·rw [if_pos c] at h
    rw [if_neg (by omega),if_neg (by omega),if_pos c,qzB l t n x m (by simpa using h) h0]
    split<;>simp
   ·rw [if_neg c] at h
    simp at h
    obtain ⟨rfl,rfl⟩:=h
    rw [if_neg (by omega),if_pos (by omega),if_neg c]
    split<;>simp
theorem qxx:∀ (l:List Pw) (t:T) (n:Int),(∀ p,l[ixP l t]? = some p->qw p.1 t≠0)->yQ l t n=l.take (ixP l t)++[(t,n)]++l.drop (ixP l t)
 | [],_,_,_=>by simp [yQ,ixP]
 | (y,k)::l,t,n,h=>by
   have an:=yf.anti y t
   have rg:=yf.rng y t
   rw [ixP] at h
   rw [yQ,ixP]
   simp only at h |-
   by_cases c:qw y t=-1
   ·rw [if_pos c] at h
    rw [if_neg (by omega),if_neg (by omega),if_pos c,qxx l t n λ p hp=>h p (by simpa using hp)]
    simp
   ·rw [if_neg c] at h
    have:=h (y,k) rfl
    simp only at this
    rw [if_pos (by omega),if_neg c]
    simp
theorem qzz {l:List Pw} (h:qe3 l) {i j:Nat} {p q:Pw} (hi:l[i]? = some p) (hj:l[j]? = some q) (hij:i<j):qw p.1 q.1=-1:=by
 unfold qe3 Asc at h
 rw [List.pairwise_iff_getElem] at h
 obtain ⟨hi1,hi2⟩:=List.getElem?_eq_some_iff.1 hi
 obtain ⟨hj1,hj2⟩:=List.getElem?_eq_some_iff.1 hj
 have:=h i j (by simpa using hi1) (by simpa using hj1) hij
 simpa [hi2,hj2] using this
end Go.GxZ
namespace Go.AmZ
open Go Go.GxZ
theorem qzi (t:T):Ev (λ m _=>QU m t) (qcI t):=by
 refine Ev.succ ?_
 simp only [qn0,qb1]
 unfold qcI
 by_cases h3:t.kind=3
 ·refine Ev.ct (qs.2 h3) (Ev.ite (λ h=>?_) λ h=>(Ev.ite (λ h2=>?_) λ h2=>?_))
  ·rw [Ji] at h
   exact Ev.ret (by rw [h3,h];rfl)
  ·rw [Ji] at h2
   exact Ev.ret (by rw [h3,h2];rfl)
  ·rw [JG] at h h2
   exact Ev.ret (by
    have a1:(t.name==qhr)=false:=by rw [beq_eq_false_iff_ne];exact h
    have a2:(t.name==qaJ)=false:=by rw [beq_eq_false_iff_ne];exact h2
    rw [h3,a1,a2];rfl)
 ·exact Ev.cf (qr.2 h3) (Ev.ret (by have:(t.kind==3)=false:=by rw [beq_eq_false_iff_ne];exact h3
                                    rw [this];rfl))
theorem qh9 (t:T):size t<=100000000->Ev (λ m _=>qZ m t) t:=by
 induction t using T.ind with
 | h t ih =>
   intro hs
   have hl:=Qy t
   refine Ev.succ ?_
   simp only [qps,qau]
   have hc:zx 0 t.kids=some ((),t.kids,()):=by
    unfold zx
    rw [show Nat.ble t.kids.length 100000000=true from Nat.ble_eq_true_of_le (by omega)];rfl
   refine Ev.some hc ?_
   have key:=zp (P := λ i=>Ev (λ m k=>jE m (qZ m) k t.kids.length i t.kind t.name t.sort 0 [] 0 t.kids []) t) t.kids (by omega)
    (λ hc=>by
     refine Ev.loop ?_
     simp only [qf9,qav]
     exact Ev.cf hc (Ev.ret (qk t)))
    (λ i x hx hd hc hg hi hP=>by
     refine Ev.loop ?_
     simp only [qf9,qav,qk]
     have hm:=List.mem_of_getElem? hx
     have h1:=Qu t x hm
     have e:jD t.kids (i:Int) x=t.kids:=by
      rw [qbU]
      obtain ⟨h2,h3⟩:=List.getElem?_eq_some_iff.1 hx
      rw [<- h3,List.set_getElem_self]
     refine Ev.ct hc (Ev.some hg (Ev.bind (ih x hm (by omega)) (Ev.some hg ?_)))
     rw [e,hi]
     exact hP)
   refine Ev.diag (L := λ m k=>jE m (qZ m) k t.kids.length 0 t.kind t.name t.sort 0 [] 0 t.kids []) ?_
   exact key 0 (Nat.zero_le _)
theorem qHk (lo hi:Nat) (h:lo+hi<=1000000000):iw .i64 (qkI .u64 (iw .u64 (iw .i64 (qf (lo:Int) (hi:Int)))) 1)=(((lo+hi) / 2:Nat):Int):=by
 rw [qkk,show iw .i64 ((lo+hi:Nat):Int)=((lo+hi:Nat):Int) from jV (by omega),show iw .u64 ((lo+hi:Nat):Int)=((lo+hi:Nat):Int) from IntWalk.u64_in _ (by omega)]
 have:qkI .u64 ((lo+hi:Nat):Int) 1=(((lo+hi) / 2:Nat):Int):=by
  unfold qkI
  show Int.fdiv _ 2=_
  rw [Int.fdiv_eq_ediv_of_nonneg _ (by decide)];omega
 rw [this,jV (by omega)]
noncomputable def szP (l:List Pw):Nat:=(l.map λ p=>size p.1).sum
theorem Jy (p:Pw) (l:List Pw):szP (p::l)=size p.1+szP l:=by simp [szP]
theorem qe7:∀ l:List Pw,l.length<=szP l
 | []=>Nat.zero_le _
 | p::l=>by
   have:=qe7 l
   have:=size_pos p.1
   rw [Jy,List.length_cons];omega
theorem qgF:∀ {l:List Pw} {p:Pw},p∈l->size p.1<=szP l
 | q::l,p,h=>by
   rw [Jy]
   rcases List.mem_cons.1 h with rfl | h
   ·omega
   ·have:=qgF h;omega
theorem qzC:∀ (l:List Pw) (t:T) (n:Int),szP (yQ l t n)<=szP l+size t
 | [],t,n=>by rw [yQ,Jy];show size t+0<=0+size t;omega
 | (x,m)::l,t,n=>by
   have:=qzC l t n
   rw [yQ]
   split
   ·rw [Jy,Jy];show size t+(size x+_)<=size x+_+size t;omega
   ·split
    ·split
     ·rw [Jy];show _<=size x+_+_;omega
     ·rw [Jy,Jy];show size x+_<=size x+_+_;omega
    ·rw [Jy,Jy];show size x+_<=size x+_+_;omega
theorem qv8 (p:Pw) (t:T) (h1:size p.1<=1000000000) (h2:size t<=1000000000):Ev (λ m _=>Qh m p t) (qw p.1 t):=by
 refine Ev.succ ?_
 simp only [qly,qa5,qk]
 exact Ev.bind (qao _ h1 _ h2) (Ev.pure _)
noncomputable def qo6 (l:List Pw) (t:T):Bool:=match l[Go.GxZ.ixP l t]? with
 | some p=>ieq (qw p.1 t) 0
 | none=>false
theorem qGa {l:List Pw} (ha:qe3 l) (t:T) (hs:szP l+size t<=100000000):∀ (d lo hi:Nat),hi<=lo+d->lo<=hi->hi<=l.length->(∀ k p,k<lo->l[k]? = some p->qw p.1 t=-1)->(∀ k p,hi<=k->l[k]? = some p->qw p.1 t≠-1) ->
  Ev (λ m k=>qj m k l l.length lo hi t.kind t.name t.sort t.kids) ((Go.GxZ.ixP l t:Int),qo6 l t):=by
 have hl:=qe7 l
 intro d
 induction d with
 | zero =>
   intro lo hi h1 h2 h3 h4 h5
   have:lo=hi:=by omega
   subst this
   have hix:=qCg l t lo h3 h4 (λ p hp=>h5 lo p (Nat.le_refl _) hp)
   subst hix
   refine Ev.loop ?_
   simp only [zS,qA,qk]
   rw [show T.mk t.kind t.name t.sort t.kids=t from qk t]
   refine Ev.cf (zA.2 (Int.le_refl _)) (Ev.ite (λ h=>?_) λ h=>?_)
   ·rw [zf] at h
    have hlt:Go.GxZ.ixP l t<l.length:=by omega
    obtain ⟨p,hg⟩:∃ p,l[Go.GxZ.ixP l t]? = some p:=⟨_,List.getElem?_eq_getElem hlt⟩
    have hm:=qgF (List.mem_of_getElem? hg)
    refine Ev.some (a:=p) (by rw [yY,hg]) (Ev.bind (qv8 (p.1,p.2) _ (Nat.le_trans hm (by omega)) (by omega)) (Ev.ret ?_))
    unfold qo6
    rw [hg]
   ·rw [zA] at h
    refine Ev.ret ?_
    unfold qo6
    rw [List.getElem?_eq_none (by omega)]
 | succ d ih =>
   intro lo hi h1 h2 h3 h4 h5
   by_cases he:lo=hi
   ·exact ih lo hi (by omega) h2 h3 h4 h5
   refine Ev.loop ?_
   simp only [zS,qA,qk]
   rw [show T.mk t.kind t.name t.sort t.kids=t from qk t,qHk lo hi (by omega)]
   have hm1:(lo+hi) / 2<hi:=by omega
   have hm2:lo<=(lo+hi) / 2:=by omega
   generalize (lo+hi) / 2=mid at *
   have hlt:mid<l.length:=by omega
   obtain ⟨p,hg⟩:∃ p,l[mid]? = some p:=⟨_,List.getElem?_eq_getElem hlt⟩
   have hm:=qgF (List.mem_of_getElem? hg)
   refine Ev.ct (zf.2 (by omega)) (Ev.some (a:=p) (by rw [yY,hg]) (Ev.bind (qv8 (p.1,p.2) _ (Nat.le_trans hm (by omega)) (by omega)) (Ev.ite (λ hc=>?_) λ hc=>?_)))
   ·rw [zf] at hc
    have hc:qw p.1 t<0:=hc
    have hc:qw p.1 t=-1:=by rcases yf.rng p.1 t with h | h | h<;>omega
    rw [show qf ((mid:Nat):Int) 1=((mid+1:Nat):Int) from by unfold qf;omega,jV (by omega)]
    refine ih (mid+1) hi (by omega) (by omega) h3 (λ k q hk hp=>?_) h5
    by_cases hkm:k=mid
    ·subst hkm;rw [hg] at hp;cases hp;exact hc
    ·exact yf.trans _ _ _ (qzz ha hp hg (by omega)) hc
   ·rw [zA] at hc
    have hc:0<=qw p.1 t:=hc
    refine ih lo mid (by omega) hm2 (by omega) h4 (λ k q hk hp=>?_)
    by_cases hkm:k=mid
    ·subst hkm;rw [hg] at hp;cases hp;omega
    ·intro hcp
     have:=yf.trans _ _ _ (qzz ha hg hp (by omega)) hcp
     omega
theorem qIb {l:List Pw} (ha:qe3 l) (t:T) (hs:szP l+size t<=100000000):Ev (λ m _=>qv m l t) ((Go.GxZ.ixP l t:Int),qo6 l t):=by
 refine Ev.succ ?_
 simp only [jT,qB]
 refine Ev.diag (L := λ m k=>qj m k l l.length 0 l.length t.kind t.name t.sort t.kids) ?_
 exact qGa ha t hs l.length 0 l.length (by omega) (Nat.zero_le _) (Nat.le_refl _) (λ k p hk=>by omega) (λ k p hk hp=>by rw [List.getElem?_eq_none hk] at hp;cases hp)
theorem qqV {l:List Pw} (ha:qe3 l) (t:T) (n:Int) (hs:szP l+size t<=90000000) (hlen:l.length<=90000) (hn:Qm l+n.natAbs<=1000000000000):Ev (λ m _=>QY m l (t,n)) ((),yQ l t n,()):=by
 have hl:=qe7 l
 have hix:=qBj l t
 refine Ev.succ ?_
 simp only [qnG,qcf,qk]
 refine Ev.bind (qIb ha t (by omega)) (Ev.ite (λ h=>?_) λ h=>?_)
 ·rw [bnt] at h
  refine Ev.bind (qh9 t (by omega)) ?_
  have hI:zj 0 l (Go.GxZ.ixP l t:Int) [(re t,n)]=some ((),yQ l t n,()):=by
   unfold zj
   rw [show inb (Go.GxZ.ixP l t:Int) l.length=true from by unfold inb;rw [decide_eq_true_iff];omega,show Nat.ble l.length 100000=true from Nat.ble_eq_true_of_le (by omega)]
   rw [qxx l t n λ p hp hc=>by
    unfold qo6 at h
    simp only [hp] at h
    rw [qr] at h
    exact h hc]
   rw [Int.toNat_natCast,qk,List.append_assoc];rfl
  rw [qk] at hI
  refine Ev.some hI (Ev.pure _)
 ·rw [bnf] at h
  cases hg:l[Go.GxZ.ixP l t]? with
  | none=>unfold qo6 at h;simp only [hg] at h;cases h
  | some p =>
    obtain ⟨x,k⟩:=p
    have hc:qw x t=0:=by
     unfold qo6 at h
     simp only [hg] at h
     exact qs.1 h
    have hm:=qBg l _ (List.mem_of_getElem? hg)
    have hlt:Go.GxZ.ixP l t<l.length:=(List.getElem?_eq_some_iff.1 hg).1
    simp only at hm
    have e1:iw .i64 (qf k n)=k+n:=by
     unfold qf
     exact jV (by omega)
    have gset:qc (jD l (Go.GxZ.ixP l t:Int) (x,k+n)) (Go.GxZ.ixP l t:Int)=some (x,k+n):=by
     rw [qbU,yY,List.getElem?_set_self hlt]
    have hsplit:l.set (Go.GxZ.ixP l t) (x,k+n)=l.take (Go.GxZ.ixP l t)++[(x,k+n)]++l.drop (Go.GxZ.ixP l t+1):=by
     rw [List.set_eq_take_append_cons_drop,if_pos hlt,List.append_assoc];rfl
    refine Ev.some (by rw [yY,hg]) (Ev.some (by rw [yY,hg]) ?_)
    simp only [qk,e1]
    refine Ev.some gset ?_
    rw [qzB l t n x k hg hc]
    refine Ev.ite (λ hz=>?_) λ hz=>?_
    ·rw [qs] at hz
     rw [if_pos hz]
     have hD:zi 0 (jD l (Go.GxZ.ixP l t:Int) (x,k+n)) (Go.GxZ.ixP l t:Int) (iw .i64 (qf (Go.GxZ.ixP l t:Int) 1))=some ((),l.take (Go.GxZ.ixP l t)++l.drop (Go.GxZ.ixP l t+1),()):=by
      rw [show qf (Go.GxZ.ixP l t:Int) 1=((Go.GxZ.ixP l t+1:Nat):Int) from by unfold qf;omega,jV (by omega),qbU]
      unfold zi
      rw [List.length_set,show inb ((Go.GxZ.ixP l t+1:Nat):Int) l.length=true from by unfold inb;rw [decide_eq_true_iff];omega,show inb (Go.GxZ.ixP l t:Int) l.length=true from by unfold inb;rw [decide_eq_true_iff];omega,
       show ieq ((Go.GxZ.ixP l t+1:Nat):Int) (qf (Go.GxZ.ixP l t:Int) 1)=true from qs.2 (by unfold qf;omega),show Nat.ble l.length 100000=true from Nat.ble_eq_true_of_le (by omega)]
      rw [Int.toNat_natCast,List.take_set_of_le (Nat.le_refl _),List.drop_set_of_lt (by omega)];rfl
     exact Ev.some hD (Ev.pure _)
    ·rw [qr] at hz
     rw [if_neg hz]
     refine Ev.ret ?_
     rw [qbU,hsplit]
end Go.AmZ
namespace Go.GxZ
open Go.RowKit
theorem qBl (q:Option T) (p:Pw):pvK q p=if qx p.1≠0 then qx p.1 else if qcI p.1 then 1 else if p.2=0\/p.2 < -1000\/1000<p.2 then 7 else match q with | some x=>if 0<=qw x p.1 then 5 else 0 | none=>0:=rfl
theorem qwM:∀ (l:List Pw) (q:Option T),pvL q l=0->qe3 l/\(∀ p∈l,p.2≠0/\p.2.natAbs<=1000)/\(∀ x,q=some x->∀ p∈l,qw x p.1=-1)/\(∀ p∈l,qx p.1=0/\qcI p.1=false)
 | [],q,_=>⟨List.Pairwise.nil,(λ _ h=>by cases h),(λ _ _ _ h=>by cases h),(λ _ h=>by cases h)⟩
 | p::l,q,h=>by
   rw [pvL] at h
   unfold thn at h
   split at h
   rotate_left
   ·rename_i h1;exact absurd h h1
   ·rename_i h1
    have hk:=qBl q p
    obtain ⟨i1,i2,i3,i4⟩:=qwM l (some p.1) h
    rw [hk] at h1
    split at h1
    ·rename_i h2;exact absurd h1 h2
    rename_i h2
    split at h1
    ·cases h1
    rename_i h3
    split at h1
    ·cases h1
    rename_i h4
    have hq:∀ x,q=some x->qw x p.1=-1 := λ x hx=>by
     subst hx
     simp only at h1
     split at h1
     ·cases h1
     ·rename_i h5
      rcases yf.rng x p.1 with h | h | h<;>omega
    refine ⟨qfx.2 ⟨λ r hr=>i3 _ rfl r hr,i1⟩,λ r hr=>?_,λ x hx r hr=>?_,λ r hr=>?_⟩
    ·rcases List.mem_cons.1 hr with rfl | hr
     ·omega
     ·exact i2 r hr
    ·rcases List.mem_cons.1 hr with rfl | hr
     ·exact hq x hx
     ·exact qzI (hq x hx) (by have:=i3 _ rfl r hr;omega)
    ·rcases List.mem_cons.1 hr with rfl | hr
     ·exact ⟨by omega,by simpa using h3⟩
     ·exact i4 r hr
theorem qcD {l:List Pw} (h:QV l=0):JJ l/\l.length<=200/\(∀ p∈l,p.2.natAbs<=1000)/\(∀ p∈l,qx p.1=0/\qcI p.1=false):=by
 unfold QV at h
 split at h
 ·cases h
 ·obtain ⟨i1,i2,-,i4⟩:=qwM l none h
  exact ⟨⟨i1,λ p hp=>(i2 p hp).1⟩,by omega,λ p hp=>(i2 p hp).2,i4⟩
theorem qi6 (k:Nat):∀ (l:List Pw),(∀ p∈l,p.2.natAbs<=k)->Qm l<=l.length*k
 | [],_=>by simp [Qm]
 | p::l,h=>by
   have h1:=qi6 k l λ q hq=>h q (List.mem_cons_of_mem _ hq)
   have h2:=h p (List.mem_cons_self ..)
   have e:Qm (p::l)=p.2.natAbs+Qm l:=rfl
   rw [e,List.length_cons,Nat.add_mul];omega
theorem qpT:∀ (b a:List Pw) (p:Pw),p∈Jg a b->(∃ q∈a,q.1=p.1)\/∃ q∈b,q.1=p.1
 | [],a,p,h => .inl ⟨p,h,rfl⟩
 | r::b,a,p,h=>by
   rcases qpT b (yQ a r.1 r.2) p h with ⟨q,hq,e⟩ | ⟨q,hq,e⟩
   ·rcases qkG a r.1 r.2 q hq with h1 | h1
    ·exact .inr ⟨r,List.mem_cons_self ..,by rw [<- h1];exact e⟩
    ·exact .inl ⟨q,h1,e⟩
   ·exact .inr ⟨q,List.mem_cons_of_mem _ hq,e⟩
theorem qBo (a b:List Pw) (p:Pw):Jg a (b++[p])=yQ (Jg a b) p.1 p.2:=by unfold Jg;rw [List.foldl_append];rfl
theorem qA8 {a b:List Pw} (ha:QV a=0) (hb:QV b=0) (S:Nat) (hsa:∀ p∈a,size p.1<=S) (hsb:∀ p∈b,size p.1<=S) (j:Nat) :
  qe3 (Jg a (b.take j))/\(Jg a (b.take j)).length<=400/\(∀ p∈Jg a (b.take j),p.2.natAbs<=1000000)/\(∀ p∈Jg a (b.take j),size p.1<=S):=by
 obtain ⟨g1,l1,k1,-⟩:=qcD ha
 obtain ⟨g2,l2,k2,-⟩:=qcD hb
 have hm:∀ p∈b.take j,p∈b := λ p hp=>List.mem_of_mem_take hp
 have hg:=qlZ (b.take j) a g1 λ p hp=>g2.2 p (hm p hp)
 obtain ⟨h1,h2⟩:=qoB (b.take j) a
 have h3:=qi6 1000 a k1
 have h4:=qi6 1000 (b.take j) λ p hp=>k2 p (hm p hp)
 have h5:(b.take j).length<=200:=by rw [List.length_take];omega
 refine ⟨hg.1,by omega,λ p hp=>?_,λ p hp=>?_⟩
 ·have:=qBg _ p hp
  omega
 ·rcases qpT _ _ p hp with ⟨q,hq,e⟩ | ⟨q,hq,e⟩
  ·rw [<- e];exact hsa q hq
  ·rw [<- e];exact hsb q (hm q hq)
end Go.GxZ
namespace Go.AmZ
open Go Go.GxZ
theorem J5 {t:T} (h:qx t=0):size t<=400:=by
 unfold qx at h
 split at h
 ·rename_i h1;exact absurd h h1
 ·split at h
  ·cases h
  ·omega
theorem qyT {t:T}:qcI t=true↔t.kind=3/\(t.name=qhr\/t.name=qaJ\/t.name=qiL):=by
 unfold qcI
 simp only [Bool.and_eq_true,Bool.or_eq_true,beq_iff_eq]
 constructor
 ·rintro ⟨h,(h1 | h1) | h1⟩
  ·exact ⟨h,.inl h1⟩
  ·exact ⟨h,.inr (.inl h1)⟩
  ·exact ⟨h,.inr (.inr h1)⟩
 ·rintro ⟨h,h1 | h1 | h1⟩
  ·exact ⟨h,.inl (.inl h1)⟩
  ·exact ⟨h,.inl (.inr h1)⟩
  ·exact ⟨h,.inr h1⟩
theorem qyN (t:T):∀ (l:List Pw) (n:Int),szP (jd t l n)<=szP l+size t:=by
 refine T.ind (P := λ t=>∀ (l:List Pw) (n:Int),szP (jd t l n)<=szP l+size t) ?_ t
 intro t ih l n
 rw [qgB]
 have hz:=zc t
 split
 ·have:∀ (fs:List T),(∀ k∈fs,k∈t.kids)->∀ l,szP ((fs.map jd).foldl (λ l f=>f l (qaB t n)) l)<=szP l+(fs.map size).sum:=by
    intro fs
    induction fs with
    | nil=>intro _ l;simp
    | cons k fs ihf =>
      intro hf l
      have h1:=ih k (hf k (List.mem_cons_self ..)) l (qaB t n)
      have h2:=ihf (λ k hk=>hf k (List.mem_cons_of_mem _ hk)) (jd k l (qaB t n))
      simp only [List.map_cons,List.foldl_cons,List.sum_cons] at h2 |-
      omega
  have:=this t.kids (λ _ h=>h) l
  omega
 ·exact qzC l t n
noncomputable def qjS (ks:List T) (sg:Int) (l:List Pw) (i:Nat):List Pw:=((ks.take i).map jd).foldl (λ l f=>f l sg) l
theorem qBH {ks:List T} {i:Nat} {x:T} (h:ks[i]? = some x) (sg:Int) (l:List Pw):qjS ks sg l (i+1)=jd x (qjS ks sg l i) sg:=by
 unfold qjS
 rw [List.take_add_one,h,List.map_append,List.foldl_append];rfl
theorem qp2 (sg:Int) (hsg:sg≠0):∀ (ks:List T) (l:List Pw),JJ l->JJ ((ks.map jd).foldl (λ l f=>f l sg) l)/\szP ((ks.map jd).foldl (λ l f=>f l sg) l)<=szP l+szL ks /\
  Qm ((ks.map jd).foldl (λ l f=>f l sg) l)<=Qm l+szL ks*sg.natAbs/\((ks.map jd).foldl (λ l f=>f l sg) l).length<=l.length+szL ks
 | [],l,h=>⟨h,by simp,by simp,by simp⟩
 | k::ks,l,h=>by
   obtain ⟨i1,i2,i3,i4⟩:=qp2 sg hsg ks (jd k l sg) (qBk k l sg hsg h)
   have h1:=qyN k l sg
   obtain ⟨h2,h3⟩:=qEL k l sg
   rw [List.map_cons,List.foldl_cons,zL,Nat.add_mul]
   exact ⟨i1,by omega,by omega,by omega⟩
noncomputable def qhm (t:T) (l:List Pw) (n:Int):Unit × List Pw × Bool × Unit:=((),if arT t then jd t l n else [],arT t,())
theorem qAB (t:T):∀ (l:List Pw) (n:Int),n≠0->JJ l->szP l+size t<=80000->Qm l+size t*n.natAbs<=100000000000->Ev (λ m _=>qX m l t n) (qhm t l n):=by
 induction t using T.ind with
 | h t ih =>
   intro l n hn hg hs hb
   have hl:=Qy t
   have hz:=zc t
   have hll:=qe7 l
   refine Ev.succ ?_
   simp only [qm5,JK,qk]
   refine Ev.bind (qzi t) (Ev.ite (λ h=>?_) λ h=>?_)
   ·rw [bnt] at h
    have hmul:n.natAbs<=size t*n.natAbs:=Nat.le_mul_of_pos_left _ (size_pos t)
    refine Ev.bind (qqV hg.1 t n (by omega) (by omega) (by omega)) (Ev.ret ?_)
    unfold qhm
    rw [qBy,qgB,h];rfl
   rw [bnf] at h
   obtain ⟨h3,hname⟩:=qyT.1 h
   have har:arT t=(arK t&&(t.kids.map arT).all id):=by rw [qBy,h];rfl
   have loop:∀ sg:Int,sg≠0->sg.natAbs=n.natAbs->qaB t n=sg->arK t=true->Ev (λ m _=>yA m (qX m) m sg t.kids t.kids.length 0 l) (qhm t l n):=by
    intro sg hsg hab hsn hk
    have hcol:jd t l n=qjS t.kids sg l t.kids.length:=by rw [qgB,h,if_pos rfl,hsn];unfold qjS;rw [List.take_length]
    have key:=zp (P := λ i=>(∀ k∈t.kids.take i,arT k=true)->Ev (λ m k=>yA m (qX m) k sg t.kids t.kids.length i (qjS t.kids sg l i)) (qhm t l n)) t.kids (by omega)
     (λ hc ha=>by
      refine Ev.loop ?_
      simp only [qez,JL]
      refine Ev.cf hc (Ev.ret ?_)
      unfold qhm
      have:arT t=true:=by
       rw [har,hk,Bool.true_and,List.all_eq_true]
       intro b hb
       obtain ⟨k,hk1,rfl⟩:=List.mem_map.1 hb
       rw [List.take_length] at ha
       exact ha k hk1
      rw [this,if_pos rfl,hcol])
     (λ i x hx hd hc hgt hi hP ha=>by
      refine Ev.loop ?_
      simp only [qez,JL,qk]
      have hm:=List.mem_of_getElem? hx
      have h1:=Qu t x hm
      obtain ⟨f1,f2,f3,f4⟩:=qp2 sg hsg (t.kids.take i) l hg
      have h5:=qdl hx
      have h6:szL t.kids+1=size t:=by unfold szL;omega
      have h7:szL (t.kids.take i)*sg.natAbs+size x*sg.natAbs<=size t*n.natAbs:=by
       rw [<- Nat.add_mul,hab]
       exact Nat.mul_le_mul_right _ (by omega)
      refine Ev.ct hc (Ev.some hgt (Ev.bind (ih x hm (qjS t.kids sg l i) sg hsg f1 (by unfold qjS;omega) (by unfold qjS;omega)) (Ev.ite (λ hb1=>?_) λ hb1=>?_)))
      ·rw [bnt] at hb1
       have hb1:arT x=false:=hb1
       refine Ev.ret ?_
       unfold qhm
       have:arT t=false:=by
        rw [har,hk,Bool.true_and,<- Bool.not_eq_true,List.all_eq_true]
        intro hall
        have:=hall (arT x) (List.mem_map_of_mem hm)
        rw [hb1] at this;cases this
       rw [this];rfl
      ·rw [bnf] at hb1
       have hb1:arT x=true:=hb1
       have hP:=hP λ k hk'=>by
        rw [List.take_add_one,hx] at hk'
        rcases List.mem_append.1 hk' with hk' | hk'
        ·exact ha k hk'
        ·rw [show k=x from by simpa using hk'];exact hb1
       rw [hi]
       refine hP.congr λ m k=>?_
       unfold qhm
       rw [qBH hx,hb1];rfl)
    refine Ev.diag (L := λ m k=>yA m (qX m) k sg t.kids t.kids.length 0 l) ?_
    exact (key 0 (Nat.zero_le _)) (λ k hk=>by rw [List.take_zero] at hk;cases hk)
   have bad:arK t=false->Ev (λ _ _=>some ((),[],false,())) (qhm t l n) := λ hk=>by
    refine Ev.ret ?_
    unfold qhm
    rw [har,hk];rfl
   have hneg:iw .i64 (qaC 0 n)=-n:=by
    have hmul:n.natAbs<=size t*n.natAbs:=Nat.le_mul_of_pos_left _ (size_pos t)
    unfold qaC
    rw [jV (by omega)];omega
   rcases hname with hn1 | hn1 | hn1
   ·refine Ev.cf (by rw [hn1];rfl) (Ev.cf (by rw [hn1];rfl) (Ev.ct (by rw [hn1];rfl) (Ev.ite (λ hk=>?_) λ hk=>?_)))
    ·rw [zf] at hk
     exact bad (by unfold arK;rw [hn1,decide_eq_true (show t.kids.length<2 by omega)];rfl)
    ·rw [zA] at hk
     exact Ev.cf (by rw [hn1];rfl) (loop n hn rfl (by unfold qaB;rw [hn1];rfl) (by unfold arK;rw [hn1,decide_eq_false (show ¬ t.kids.length<2 by omega)];rfl))
   ·refine Ev.cf (by rw [hn1];rfl) (Ev.ct (by rw [hn1];rfl) (Ev.ite (λ hk=>?_) λ hk=>?_))
    ·rw [bnt,qr] at hk
     exact bad (by unfold arK;rw [hn1,show (t.kids.length != 1)=true from by rw [bne_iff_ne];omega];rfl)
    ·rw [bnf,qs] at hk
     rw [hneg]
     exact Ev.cf (by rw [hn1];rfl) (Ev.ct (by rw [hn1];rfl) (loop (-n) (by omega) (by omega) (by unfold qaB;rw [if_pos hn1]) (by unfold arK;rw [hn1,show (t.kids.length != 1)=false from by rw [bne_eq_false_iff_eq];omega];rfl)))
   ·refine Ev.ct (by rw [hn1];rfl) (Ev.ite (λ hk=>?_) λ hk=>?_)
    ·rw [bnt,qr] at hk
     exact bad (by unfold arK;rw [hn1,show (t.kids.length != 0)=true from by rw [bne_iff_ne];omega];rfl)
    ·rw [bnf,qs] at hk
     exact Ev.cf (by rw [hn1];rfl) (Ev.cf (by rw [hn1];rfl) (Ev.cf (by rw [hn1];rfl) (loop n hn rfl (by unfold qaB;rw [hn1];rfl) (by unfold arK;rw [hn1,show (t.kids.length != 0)=false from by rw [bne_eq_false_iff_eq];omega];rfl))))
theorem qwe (t:T) (hs:size t<=1000000000):Ev (λ m _=>Jm m t) (ofP t):=by
 refine Ev.succ ?_
 simp only [quz,qeQ,qk]
 unfold ofP
 refine Ev.bind (ja t hs) (Ev.ite (λ h=>?_) λ h=>?_)
 ·rw [bnt,qr] at h
  rw [if_pos h];exact Ev.pure _
 ·rw [bnf,qs] at h
  have hz:=J5 h
  rw [if_neg (by omega)]
  refine Ev.bind (qAB t [] 1 (by decide) JJ.nil (by show 0+_<=_;omega) (by show 0+size t*1<=_;omega)) (Ev.ite (λ h1=>?_) λ h1=>?_)
  ·rw [bnt] at h1
   have h1:arT t=false:=h1
   rw [if_pos h1];exact Ev.pure _
  ·rw [bnf] at h1
   have h1:arT t=true:=h1
   rw [if_neg (by rw [h1];decide)]
   have e:(qhm t [] 1).2.1=jd t [] 1:=by unfold qhm;rw [h1];rfl
   rw [e]
   refine Ev.ite (λ h2=>?_) λ h2=>?_
   ·rw [zf] at h2
    rw [if_pos (by omega)];exact Ev.pure _
   ·rw [zA] at h2
    rw [if_neg (by omega)];exact Ev.pure _
noncomputable def qia (l:List Pw) (i:Nat):Option T:=if i=0 then none else (l[i-1]?).map (·.1)
theorem qqC {l:List Pw} {i:Nat} {p:Pw} (h:l[i]? = some p):qia l (i+1)=some p.1:=by
 unfold qia
 rw [if_neg (by omega),Nat.add_sub_cancel,h];rfl
theorem qmb (l:List Pw) (hs:szP l<=1000000000):Ev (λ m _=>Qv m l) (QV l):=by
 have hl:=qe7 l
 refine Ev.succ ?_
 simp only [qpH,qay]
 unfold QV
 refine Ev.ite (λ h=>?_) λ h=>?_
 ·rw [zf] at h
  rw [if_pos (by omega)];exact Ev.pure _
 rw [zA] at h
 rw [if_neg (by omega)]
 have key:=zp (P := λ i=>Ev (λ m k=>yX m k l l l.length i) (pvL (qia l i) (l.drop i))) l (by omega)
  (λ hc=>by
   refine Ev.loop ?_
   simp only [qf2,qas]
   refine Ev.cf hc (Ev.ret ?_)
   rw [List.drop_length];rfl)
  (λ i x hx hd hc hg hi hP=>by
   refine Ev.loop ?_
   simp only [qf2,qas,qk]
   have h1:=qgF (List.mem_of_getElem? hx)
   rw [qqC hx] at hP
   rw [hd,pvL]
   have hk:=qBl (qia l i) x
   have bad:∀ e:Int,pvK (qia l i) x=e->e≠0->Ev (λ _ _=>some e) (thn (pvK (qia l i) x) (pvL (some x.1) (l.drop (i+1)))) := λ e he h0=>by
    rw [he]
    exact Ev.ret (by unfold thn;rw [if_neg h0])
   have good:pvK (qia l i) x=0->Ev (λ m k=>yX m k l l l.length ((i+1:Nat):Int)) (thn (pvK (qia l i) x) (pvL (some x.1) (l.drop (i+1)))) := λ he=>by
    rw [he]
    exact hP.res (by unfold thn;rw [if_pos rfl])
   refine Ev.ct hc (Ev.some hg (Ev.bind (ja x.1 (by omega)) (Ev.ite (λ hv=>?_) λ hv=>?_)))
   ·rw [bnt,qr] at hv
    exact bad _ (by rw [hk,if_pos hv]) hv
   rw [bnf,qs] at hv
   rw [if_neg (by omega)] at hk
   refine Ev.bind (qzi x.1) (Ev.ite (λ hv2=>?_) λ hv2=>?_)
   ·exact bad 1 (by rw [hk,if_pos hv2]) (by decide)
   rw [if_neg (by rw [hv2];decide)] at hk
   refine Ev.ite (λ hz=>?_) λ hz=>?_
   ·rw [qs] at hz
    exact bad 7 (by rw [hk,if_pos (by omega)]) (by decide)
   rw [qr] at hz
   refine Ev.ite (λ hz2=>?_) λ hz2=>?_
   ·rw [zf] at hz2
    exact bad 7 (by rw [hk,if_pos (by omega)]) (by decide)
   rw [zA] at hz2
   refine Ev.ite (λ hz3=>?_) λ hz3=>?_
   ·rw [zf] at hz3
    exact bad 7 (by rw [hk,if_pos (by omega)]) (by decide)
   rw [zA] at hz3
   rw [if_neg (by omega)] at hk
   rw [hi]
   refine Ev.ite (λ h0=>?_) λ h0=>?_
   ·rw [zf] at h0
    obtain ⟨j,rfl⟩:∃ j,i=j+1:=⟨i-1,by omega⟩
    have hlt:j<l.length:=by have:=(List.getElem?_eq_some_iff.1 hx).1;omega
    obtain ⟨q,hq⟩:∃ q,l[j]? = some q:=⟨_,List.getElem?_eq_getElem hlt⟩
    have h2:=qgF (List.mem_of_getElem? hq)
    rw [qqC hq] at hk bad good |-
    simp only at hk
    refine Ev.some (a:=q) (by rw [show qaC ((j+1:Nat):Int) 1=((j:Nat):Int) from by unfold qaC;omega,jV (by omega),yY,hq]) (Ev.bind (qao q.1 (by omega) x.1 (by omega)) (Ev.ite (λ hc2=>?_) λ hc2=>?_))
    ·rw [qgq] at hc2
     exact bad 5 (by rw [hk,if_pos hc2]) (by decide)
    ·rw [qqM] at hc2
     exact good (by rw [hk,if_neg (by omega)])
   ·rw [zA] at h0
    have:i=0:=by omega
    subst this
    exact good (by rw [hk];rfl))
 refine Ev.diag (L := λ m k=>yX m k l l l.length 0) ?_
 exact key 0 (Nat.zero_le _)
end Go.AmZ
namespace Go.AmZ
open Go Go.GxZ
theorem JB {α : Type} {l:List α} {i:Nat} {x : α} (h:l[i]? = some x):l.take (i+1)=l.take i++[x]:=by rw [List.take_add_one,h];rfl
theorem qv6 (a b:List Pw):jm (a++b)=jm a++jm b:=by unfold jm;rw [List.flatMap_append]
theorem qxZ (a b:List Pw):jk (a++b)=jk a++jk b:=by unfold jk;rw [List.flatMap_append]
theorem qwF (p:Pw):jm [p]=List.replicate p.2.toNat p.1:=by unfold jm;simp
theorem qxJ (p:Pw):jk [p]=List.replicate (-p.2).toNat (apT qaJ [p.1]):=by unfold jk;simp
theorem qzr (n:Nat) (x:T):szL (List.replicate n x)=n*size x:=by
 induction n with
 | zero=>simp [szL]
 | succ n ih=>rw [List.replicate_succ,zL,ih,Nat.add_mul];omega
theorem qEN (t:T):size (apT qaJ [t])=1+size t:=by rw [zc];show 1+(size t+0)=_;omega
theorem qxb {P:Nat->Prop} (N:Int) (hN:N<=1000000) (hend:P N.toNat) (hstep:∀ j:Nat,(j:Int)<N->iw .i64 (qf (j:Int) 1)=((j+1:Nat):Int)->P (j+1)->P j):∀ j:Nat,j<=N.toNat->P j:=by
 intro j hj
 obtain ⟨d,hd⟩:∃ d,N.toNat=j+d:=⟨N.toNat-j,by omega⟩
 induction d generalizing j with
 | zero =>
   have:j=N.toNat:=by omega
   subst this;exact hend
 | succ d ih =>
   refine hstep j (by omega) ?_ (ih (j+1) (by omega) (by omega))
   unfold qf
   rw [jV (by omega)];omega
theorem qGn {l:List Pw} {p:Pw} (hp:p∈l) (h:8<p.2):8<(jm l++jk l).length:=by
 have:(List.replicate p.2.toNat p.1).length<=(jm l).length:=Nat.le_trans (List.sublist_flatten_of_mem (List.mem_map_of_mem (f := λ p:Pw=>List.replicate p.2.toNat p.1) hp)).length_le (by unfold jm;rw [List.flatMap_def];exact Nat.le_refl _)
 rw [List.length_replicate] at this
 rw [List.length_append];omega
theorem qGv {l:List Pw} {p:Pw} (hp:p∈l) (h:p.2 < -8):8<(jm l++jk l).length:=by
 have:(List.replicate (-p.2).toNat (apT qaJ [p.1])).length<=(jk l).length:=Nat.le_trans (List.sublist_flatten_of_mem (List.mem_map_of_mem (f := λ p:Pw=>List.replicate (-p.2).toNat (apT qaJ [p.1])) hp)).length_le (by unfold jk;rw [List.flatMap_def];exact Nat.le_refl _)
 rw [List.length_replicate] at this
 rw [List.length_append];omega
theorem qGc (o:List T):size (qbY o)<=1+szL o:=by
 unfold qbY
 split
 ·rw [zc];show 1+0<=_;omega
 ·split
  ·rename_i _ h1l
   have:o.getD 0 zT∈o:=by
    cases o with
    | nil=>cases h1l
    | cons x r=>exact List.mem_cons_self ..
   have:=qgN this;omega
  ·rw [zc];exact Nat.le_refl _
theorem qmu {l:List Pw} (hsz:∀ p∈l,size p.1<=400):∀ (ks:List Pw),(∀ p∈ks,p∈l/\-8<=p.2/\p.2<=8)->(jm ks).length<=8*ks.length/\(jk ks).length<=8*ks.length/\szL (jm ks)<=3200*ks.length/\szL (jk ks)<=3208*ks.length
 | [],_=>⟨Nat.le_refl _,Nat.le_refl _,Nat.le_refl _,Nat.le_refl _⟩
 | p::ks,h=>by
   obtain ⟨i1,i2,i3,i4⟩:=qmu hsz ks λ q hq=>h q (List.mem_cons_of_mem _ hq)
   obtain ⟨h1,h2,h3⟩:=h p (List.mem_cons_self ..)
   have h4:=hsz p h1
   have e1:jm (p::ks)=List.replicate p.2.toNat p.1++jm ks:=by rw [show p::ks=[p]++ks from rfl,qv6,qwF]
   have e2:jk (p::ks)=List.replicate (-p.2).toNat (apT qaJ [p.1])++jk ks:=by rw [show p::ks=[p]++ks from rfl,qxZ,qxJ]
   have m1:p.2.toNat*size p.1<=8*400:=Nat.mul_le_mul (by omega) h4
   have m2:(-p.2).toNat*(1+size p.1)<=8*401:=Nat.mul_le_mul (by omega) (by omega)
   rw [e1,e2,qeR,qeR,qzr,qzr,qEN]
   simp only [List.length_append,List.length_replicate,List.length_cons]
   refine ⟨by omega,by omega,by omega,by omega⟩
noncomputable def qjT (o:List T):T × Int:=if 8<o.length then (zT,3) else if qx (qbY o)≠0 then (zT,qx (qbY o)) else (qbY o,0)
theorem qt1 {l:List Pw} (h:QV l=0):qbN l=qjT (jm l++jk l):=by
 unfold qbN qjT
 rw [if_neg (by omega)]
theorem qxr (l:List Pw) (hs:szP l<=1000000000):Ev (λ m _=>jA m l) (qbN l):=by
 refine Ev.succ ?_
 simp only [qq6,qbe]
 refine Ev.bind (qmb l hs) (Ev.ite (λ h=>?_) λ h=>?_)
 ·rw [bnt,qr] at h
  unfold qbN
  rw [if_pos h];exact Ev.pure _
 rw [bnf,qs] at h
 obtain ⟨_,hlen,hN,hV⟩:=qcD h
 have hsz:∀ p∈l,size p.1<=400 := λ p hp=>J5 (hV p hp).1
 rw [qt1 h]
 have key:=zp (P := λ i=>(∀ p∈l.take i,p∈l/\-8<=p.2/\p.2<=8)->Ev (λ m k=>(qp m k).1 l l.length i 0 [] 0 [] (jm (l.take i)) (jk (l.take i))) (qjT (jm l++jk l))) l (by omega)
  (λ hc hb=>by
   refine Ev.loop ?_
   simp only [qho,qa4,qk]
   rw [List.take_length] at hb |-
   obtain ⟨b1,b2,b3,b4⟩:=qmu hsz l hb
   refine Ev.cf hc (Ev.bind (qp7 (jm l) (jk l) (by omega)) ?_)
   have ho:szL (jm l++jk l)<=10000000:=by rw [qeR];omega
   generalize jm l++jk l=o at *
   have hol:=qbv o
   have hoz:=qGc o
   unfold qjT
   refine Ev.ite (λ h8=>?_) λ h8=>?_
   ·rw [zf] at h8
    rw [if_pos (by omega)];exact Ev.pure _
   rw [zA] at h8
   rw [if_neg (by omega)]
   have fin:∀ u:T,u=qbY o->Ev (λ m _=>qa (qH m u) λ v=>cond (qd (ieq v 0)) (some (T.mk 0 [] 0 [],v)) (some (u,0))) (if qx (qbY o)≠0 then (zT,qx (qbY o)) else (qbY o,0)):=by
    intro u hu
    subst hu
    refine Ev.bind (ja _ (by omega)) (Ev.ite (λ h=>?_) λ h=>?_)
    ·rw [bnt,qr] at h
     rw [if_pos h];exact Ev.pure _
    ·rw [bnf,qs] at h
     rw [if_neg (by omega)];exact Ev.pure _
   have app:∀ (n:List UInt8) (x:List T),Ev (λ m _=>qaH m n x) (apT n x) := λ n x=>Ev.succ (Ev.pure _)
   refine Ev.bind (app [109,117,108] o) (Ev.ite (λ h0=>?_) λ h0=>?_)
   ·rw [qs] at h0
    exact Ev.bind (app [111,110,101] []) (fin _ (by unfold qbY;rw [if_pos (by omega)];rfl))
   ·rw [qr] at h0
    refine Ev.ite (λ h1=>?_) λ h1=>?_
    ·rw [qs] at h1
     refine Ev.some (a:=o.getD 0 zT) ?_ (fin _ (by unfold qbY;rw [if_neg (by omega),if_pos (by omega)]))
     rw [qaQ,List.getD_eq_getElem?_getD]
     cases o with
     | nil=>simp at h1
     | cons x r=>rfl
    ·rw [qr] at h1
     exact fin _ (by unfold qbY;rw [if_neg (by omega),if_neg (by omega)];rfl))
  (λ i p hx hd hc hg hi hP hb=>by
   refine Ev.loop ?_
   simp only [qho,qa4]
   have hm:=List.mem_of_getElem? hx
   have hn:=hN p hm
   have hz:=hsz p hm
   have hib:=(List.getElem?_eq_some_iff.1 hx).1
   refine Ev.ct hc (Ev.some hg (Ev.ite (λ h8=>?_) λ h8=>?_))
   ·rw [zf] at h8
    unfold qjT
    rw [if_pos (qGn hm h8)];exact Ev.pure _
   rw [zA] at h8
   refine Ev.ite (λ h9=>?_) λ h9=>?_
   ·rw [zf] at h9
    unfold qjT
    rw [if_pos (qGv hm h9)];exact Ev.pure _
   rw [zA] at h9
   obtain ⟨b1,b2,b3,b4⟩:=qmu hsz _ hb
   have htl:(l.take i).length<=200:=by rw [List.length_take];omega
   have hP:=hP λ q hq=>by
    rw [JB hx] at hq
    rcases List.mem_append.1 hq with hq | hq
    ·exact hb q hq
    ·rw [show q=p from by simpa using hq];exact ⟨hm,h9,h8⟩
   rw [JB hx,qv6,qxZ,qwF,qxJ] at hP
   generalize jm (l.take i)=P0 at *
   generalize jk (l.take i)=N0 at *
   have k3:=qxb (P := λ j=>Ev (λ m k=>(qp m k).2.2 l l.length i (-p.2) j 0 [] 0 p.1.kind p.1.name p.1.sort p.1.kids p.2 [] (P0++List.replicate p.2.toNat p.1) (N0++List.replicate j (apT qaJ [p.1]))) (qjT (jm l++jk l))) (-p.2) (by omega)
    (by
     refine Ev.loop ?_
     simp only [qht,qba]
     refine Ev.cf (zA.2 (by omega)) ?_
     rw [hi]
     exact hP)
    (λ j hj hji hPj=>by
     refine Ev.loop ?_
     simp only [qht,qba,qk]
     rw [show T.mk p.1.kind p.1.name p.1.sort p.1.kids=p.1 from qk p.1,hji]
     refine Ev.ct (zf.2 hj) (Ev.bind (qh9 p.1 (by omega)) (Ev.bind (a:=apT qaJ [p.1]) (Ev.succ (Ev.pure _)) (Ev.ct (jW (by rw [List.length_append,List.length_replicate];omega) (by omega)) ?_)))
     refine hPj.congr λ m k=>?_
     rw [List.replicate_succ',List.append_assoc])
   have k2:=qxb (P := λ j=>Ev (λ m k=>(qp m k).2.1 l l.length i p.2 j 0 [] 0 p.1.kind p.1.name p.1.sort p.1.kids p.2 [] (P0++List.replicate j p.1) N0) (qjT (jm l++jk l))) p.2 (by omega)
    (by
     refine Ev.loop ?_
     simp only [qgP,qa1]
     refine Ev.cf (zA.2 (by omega)) ?_
     rw [show iw .i64 (qaC 0 p.2)=-p.2 from by unfold qaC;rw [jV (by omega)];omega]
     have:=k3 0 (Nat.zero_le _)
     rw [List.replicate_zero,List.append_nil] at this
     exact this)
    (λ j hj hji hPj=>by
     refine Ev.loop ?_
     simp only [qgP,qa1,qk]
     rw [show T.mk p.1.kind p.1.name p.1.sort p.1.kids=p.1 from qk p.1,hji]
     refine Ev.ct (zf.2 hj) (Ev.bind (qh9 p.1 (by omega)) (Ev.ct (jW (by rw [List.length_append,List.length_replicate];omega) (by omega)) ?_))
     refine hPj.congr λ m k=>?_
     rw [List.replicate_succ',List.append_assoc])
   have:=k2 0 (Nat.zero_le _)
   rw [List.replicate_zero,List.append_nil] at this
   exact this)
 refine Ev.diag (L := λ m k=>(qp m k).1 l l.length 0 0 [] 0 [] [] []) ?_
 exact (key 0 (Nat.zero_le _)) (λ p hp=>by rw [List.take_zero] at hp;cases hp)
theorem qGS (l:List Pw) (hs:szP l<=100000000):Ev (λ m _=>JY m l) ((),l,()):=by
 have hl:=qe7 l
 refine Ev.succ ?_
 simp only [qn2,J8]
 have key:=zp (P := λ i=>Ev (λ m k=>jl m k l l.length i (l.take i)) ((),l,())) l (by omega)
  (λ hc=>by
   refine Ev.loop ?_
   simp only [qfG,qad]
   refine Ev.cf hc ?_
   rw [List.take_length];exact Ev.pure _)
  (λ i p hx hd hc hg hi hP=>by
   refine Ev.loop ?_
   simp only [qfG,qad,qk]
   have h1:=qgF (List.mem_of_getElem? hx)
   have h2:(l.take i).length<=l.length:=by rw [List.length_take];omega
   refine Ev.ct hc (Ev.some hg (Ev.bind (qh9 p.1 (by omega)) (Ev.ct (jW (by omega) (by omega)) ?_)))
   rw [hi]
   refine hP.congr λ m k=>?_
   rw [JB hx])
 refine Ev.diag (L := λ m k=>jl m k l l.length 0 []) ?_
 exact key 0 (Nat.zero_le _)
theorem qBt (p:Pw) (l:List Pw):qpb (p::l)=((decide (p.2 < -1000)||decide (1000<p.2))||qpb l):=rfl
theorem qFZ (l:List Pw) (hl:l.length<=1000000000):∃ v,Ev (λ m _=>qU m l) v/\ile 0 v=qpb l:=by
 have key:=zp (P := λ i=>∃ v,Ev (λ m k=>qu m k l l.length i) v/\ile 0 v=qpb (l.drop i)) l (by omega)
  (λ hc=>by
   refine ⟨-1,Ev.loop ?_,by rw [List.drop_length];rfl⟩
   simp only [zW,qJ]
   exact Ev.cf hc (Ev.pure _))
  (λ i p hx hd hc hg hi hP=>by
   obtain ⟨v,hv,hf⟩:=hP
   rw [hd,qBt]
   have hq:Ev (λ m _=>Q8 m (p.1,p.2)) (decide (p.2 < -1000)||decide (1000<p.2)):=by
    refine Ev.succ ?_
    simp only [qlz,qbh]
    refine Ev.ite (λ h=>?_) λ h=>?_
    ·rw [zf] at h
     exact Ev.ret (by rw [decide_eq_true h];rfl)
    ·rw [zA] at h
     exact Ev.ret (by rw [decide_eq_false (show ¬ p.2 < -1000 by omega)];rfl)
   cases hb:decide (p.2 < -1000)||decide (1000<p.2) with
   | true =>
     refine ⟨i,Ev.loop ?_,by rw [Bool.true_or,qgq];omega⟩
     simp only [zW,qJ,qk]
     exact Ev.ct hc (Ev.some hg (Ev.bind hq (Ev.ct hb (Ev.pure _))))
   | false =>
     refine ⟨v,Ev.loop ?_,by rw [Bool.false_or];exact hf⟩
     simp only [zW,qJ,qk]
     refine Ev.ct hc (Ev.some hg (Ev.bind hq (Ev.cf hb ?_)))
     rw [hi];exact hv)
 obtain ⟨v,hv,hf⟩:=key 0 (Nat.zero_le _)
 refine ⟨v,Ev.succ ?_,by rw [hf,List.drop_zero]⟩
 simp only [JU,zk]
 exact Ev.diag (L := λ m k=>qu m k l l.length 0) hv
noncomputable def qvu (l:List Pw):List Pw × Int:=if qpb l then ([],7) else if 200<l.length then ([],3) else (l,0)
theorem qF4 (l:List Pw) (hl:l.length<=1000000000):Ev (λ m _=>J6 m l) (qvu l):=by
 obtain ⟨v,hv,hf⟩:=qFZ l hl
 refine Ev.succ ?_
 simp only [qnT,qcq]
 have hc:Ev (λ m _=>qK m l) (qpb l):=by
  refine Ev.succ ?_
  simp only [Jz,zG]
  exact Ev.bind hv (Ev.ret hf)
 unfold qvu
 refine Ev.bind hc (Ev.ite (λ h=>?_) λ h=>?_)
 ·rw [if_pos h];exact Ev.pure _
 ·rw [if_neg (by rw [h];decide)]
  refine Ev.ite (λ h2=>?_) λ h2=>?_
  ·rw [zf] at h2
   rw [if_pos (by omega)];exact Ev.pure _
  ·rw [zA] at h2
   rw [if_neg (by omega)];exact Ev.pure _
theorem qBs (S:Nat):∀ l:List Pw,(∀ p∈l,size p.1<=S)->szP l<=l.length*S
 | [],_=>by simp [szP]
 | p::l,h=>by
   have h1:=qBs S l λ q hq=>h q (List.mem_cons_of_mem _ hq)
   have h2:=h p (List.mem_cons_self ..)
   rw [Jy,List.length_cons,Nat.add_mul];omega
theorem qAb (a b:List Pw):qiM a b=if QV a≠0 then ([],QV a) else if QV b≠0 then ([],QV b) else qvu (Jg a b):=rfl
theorem qkS {a b:List Pw} (ha:QV a=0) (hb:QV b=0) (j:Nat) :
  JJ (Jg a (b.take j))/\(Jg a (b.take j)).length<=400/\szP (Jg a (b.take j))<=160000/\Qm (Jg a (b.take j))<=400000:=by
 obtain ⟨g1,l1,k1,v1⟩:=qcD ha
 obtain ⟨g2,l2,k2,v2⟩:=qcD hb
 have hm:∀ p∈b.take j,p∈b := λ p hp=>List.mem_of_mem_take hp
 obtain ⟨h1,h2,h3,h4⟩:=qA8 ha hb 400 (λ p hp=>J5 (v1 p hp).1) (λ p hp=>J5 (v2 p hp).1) j
 have h5:=qBs 400 _ h4
 obtain ⟨h6,_⟩:=qoB (b.take j) a
 have h7:=qi6 1000 a k1
 have h8:=qi6 1000 (b.take j) λ p hp=>k2 p (hm p hp)
 have h9:(b.take j).length<=200:=by rw [List.length_take];omega
 refine ⟨qlZ _ _ g1 λ p hp=>g2.2 p (hm p hp),h2,Nat.le_trans h5 (Nat.mul_le_mul_right 400 h2),?_⟩
 have m1:a.length*1000<=200*1000:=Nat.mul_le_mul_right _ l1
 have m2:(b.take j).length*1000<=200*1000:=Nat.mul_le_mul_right _ h9
 omega
theorem qGr (a b:List Pw) (ha:szP a<=100000000) (hb:szP b<=100000000):Ev (λ m _=>qbZ m a b) (qiM a b):=by
 have hl:=qe7 b
 refine Ev.succ ?_
 simp only [qtk,qbH]
 rw [qAb]
 refine Ev.bind (qmb a (by omega)) (Ev.ite (λ h=>?_) λ h=>?_)
 ·rw [bnt,qr] at h
  rw [if_pos h];exact Ev.pure _
 rw [bnf,qs] at h
 rw [if_neg (by omega)]
 refine Ev.bind (qmb b (by omega)) (Ev.ite (λ h2=>?_) λ h2=>?_)
 ·rw [bnt,qr] at h2
  rw [if_pos h2];exact Ev.pure _
 rw [bnf,qs] at h2
 rw [if_neg (by omega)]
 refine Ev.bind (qGS a ha) ?_
 have key:=zp (P := λ i=>Ev (λ m k=>QA m k b b.length i (Jg a (b.take i))) (qvu (Jg a b))) b (by omega)
  (λ hc=>by
   refine Ev.loop ?_
   simp only [qhP,qbP]
   rw [List.take_length]
   obtain ⟨_,b2,_,_⟩:=qkS h h2 b.length
   rw [List.take_length] at b2
   exact Ev.cf hc (Ev.bind (qF4 _ (by omega)) (Ev.pure _)))
  (λ i p hx hd hc hg hi hP=>by
   refine Ev.loop ?_
   simp only [qhP,qbP,qk]
   have hm:=List.mem_of_getElem? hx
   obtain ⟨b1,b2,b3,b4⟩:=qkS h h2 i
   obtain ⟨_,_,hn,hv⟩:=qcD h2
   have hz:=J5 (hv p hm).1
   have hnp:=hn p hm
   refine Ev.ct hc (Ev.some hg (Ev.bind (qqV b1.1 p.1 p.2 (by omega) (by omega) (by omega)) ?_))
   rw [hi]
   refine hP.congr λ m k=>?_
   rw [JB hx,qBo])
 refine Ev.diag (L := λ m k=>QA m k b b.length 0 a) ?_
 exact key 0 (Nat.zero_le _)
end Go.AmZ
namespace Go.AmZ
open Go Go.GxZ
end Go.AmZ
namespace Go.AmZ
open Go Go.GxZ
end Go.AmZ
namespace Go.AmZ
open Go Go.GxZ Go.Lib
theorem qlM {t:T} (h:qkl t=0):qx t=0/\zo t=0:=by
 unfold qkl at h
 exact qdF h
theorem qpP {t:T} (h:zo t=0) {n:List UInt8} (hn:isN t n=true) {a b c:Int} (hs:yF n=(a,b,c)):a<=(t.kids.length:Int)/\(t.kids.length:Int)<=b/\∀ k∈t.kids,zo k=0:=by
 obtain ⟨h3,rfl⟩:=J9.1 hn
 obtain ⟨h1,h2⟩:=qfw h3 h
 obtain ⟨_,g1,g2,_⟩:=qwB h3 h1
 rw [hs] at g1 g2
 exact ⟨g1,g2,h2⟩
end Go.AmZ
namespace Go.AmZ
open Go Go.GxZ
def Cl (P:T->Prop):Prop:=∀ t:T,t.kind=3->P t->∀ k∈t.kids,P k
theorem qib:∀ (n:Nat) (a b:List T),a.length+b.length<=n->∀ x∈yx a b,x∈a\/x∈b
 | _,[],b,_,x,h=>by rw [yx] at h;exact .inr h
 | _,z::a,[],_,x,h=>by rw [yx] at h;exact .inl h
 | 0,z::a,y::b,hn,x,h=>by simp at hn
 | n+1,z::a,y::b,hn,x,h=>by
   simp only [List.length_cons] at hn
   rw [yx] at h
   split at h
   ·rcases List.mem_cons.1 h with rfl | h
    ·exact .inl (List.mem_cons_self ..)
    ·rcases qib n a (y::b) (by simp;omega) x h with h | h
     ·exact .inl (List.mem_cons_of_mem _ h)
     ·exact .inr h
   ·split at h
    ·rcases List.mem_cons.1 h with rfl | h
     ·exact .inr (List.mem_cons_self ..)
     ·rcases qib n (z::a) b (by simp;omega) x h with h | h
      ·exact .inl h
      ·exact .inr (List.mem_cons_of_mem _ h)
    ·rcases qib n a b (by omega) x h with h | h
     ·exact .inl (List.mem_cons_of_mem _ h)
     ·exact .inr (List.mem_cons_of_mem _ h)
theorem qgZ:∀ (ls:List (List T)) (a:List T),∀ x∈ls.foldl yx a,x∈a\/∃ l∈ls,x∈l
 | [],a,x,h => .inl h
 | l::ls,a,x,h=>by
   rcases qgZ ls (yx a l) x h with h | ⟨m,hm,h⟩
   ·rcases qib _ a l (Nat.le_refl _) x h with h | h
    ·exact .inl h
    ·exact .inr ⟨l,List.mem_cons_self ..,h⟩
   ·exact .inr ⟨m,List.mem_cons_of_mem _ hm,h⟩
theorem qDk {P:T->Prop} (hP:Cl P) (t:T):P t->∀ x∈JI t,P x:=by
 refine T.ind (P := λ t=>P t->∀ x∈JI t,P x) ?_ t
 intro t ih ht x hx
 rw [qos] at hx
 split at hx
 ·cases hx
 ·split at hx
  ·rename_i hn
   rcases qgZ _ _ x hx with h | ⟨l,hl,h⟩
   ·cases h
   ·obtain ⟨k,hk,rfl⟩:=List.mem_map.1 hl
    exact ih k hk (hP t (J9.1 hn).1 ht k hk) x h
  ·rw [List.mem_singleton.1 hx];exact ht
theorem qBf {P:T->Prop} (hP:Cl P) {l:List T} (h:∀ k∈l,P k):∀ x∈yB l,P x:=by
 intro x hx
 rcases qgZ _ _ x hx with h1 | ⟨m,hm,h1⟩
 ·cases h1
 ·obtain ⟨k,hk,rfl⟩:=List.mem_map.1 hm
  exact qDk hP k (h k hk) x h1
theorem qGj {P:T->Prop} {l:List Pw} {t:T} (n:Int) (ht:P t) (hl:∀ p∈l,P p.1):∀ p∈yQ l t n,P p.1:=by
 intro p hp
 rcases qkG l t n p hp with h | h
 ·rw [h];exact ht
 ·exact hl p h
theorem qFT {P:T->Prop} (hP:Cl P) (t:T):P t->∀ (l:List Pw) (n:Int),(∀ p∈l,P p.1)->∀ p∈jd t l n,P p.1:=by
 refine T.ind (P := λ t=>P t->∀ (l:List Pw) (n:Int),(∀ p∈l,P p.1)->∀ p∈jd t l n,P p.1) ?_ t
 intro t ih ht l n hl
 rw [qgB]
 split
 ·rename_i hs
  have h3:=(qyT.1 hs).1
  exact qyM t.kids (qaB t n) (λ l=>∀ p∈l,P p.1) (λ k hk l hl=>ih k hk (hP t h3 ht k hk) l _ hl) l hl
 ·exact qGj n ht hl
theorem qrc {P:T->Prop} (hP:Cl P) {t:T} (ht:P t):∀ p∈(ofP t).1,P p.1:=by
 intro p hp
 unfold ofP at hp
 split at hp
 ·cases hp
 ·split at hp
  ·cases hp
  ·split at hp
   ·cases hp
   ·exact qFT hP t ht [] 1 (λ _ h=>by cases h) p hp
theorem qGu {P:T->Prop} {a b:List Pw} (ha:∀ p∈a,P p.1) (hb:∀ p∈b,P p.1):∀ p∈(qiM a b).1,P p.1:=by
 intro p hp
 unfold qiM at hp
 split at hp
 ·cases hp
 ·split at hp
  ·cases hp
  ·split at hp
   ·cases hp
   ·split at hp
    ·cases hp
    ·rcases qpT b a p hp with ⟨q,hq,e⟩ | ⟨q,hq,e⟩
     ·rw [<- e];exact ha q hq
     ·rw [<- e];exact hb q hq
theorem qDb {l:List Pw} {x:T} (h:x∈jm l):∃ p∈l,x=p.1:=by
 unfold jm at h
 obtain ⟨p,hp,h⟩:=List.mem_flatMap.1 h
 exact ⟨p,hp,List.eq_of_mem_replicate h⟩
theorem qER {l:List Pw} {x:T} (h:x∈jk l):∃ p∈l,x=apT qaJ [p.1]:=by
 unfold jk at h
 obtain ⟨p,hp,h⟩:=List.mem_flatMap.1 h
 exact ⟨p,hp,List.eq_of_mem_replicate h⟩
theorem qaf:Cl λ t=>zo t=0 := λ t h3 h=>(qfw h3 h).2
theorem qlR:∀ (l:List Int),(∀ y∈l,y=0)->l.foldl thn 0=0
 | [],_=>rfl
 | z::l,h=>by
   rw [Jr,h z (List.mem_cons_self ..)]
   exact qlR l λ y hy=>h y (List.mem_cons_of_mem _ hy)
theorem qft {t:T} (h:qbC t=0) (hk:∀ k∈t.kids,zo k=0):zo t=0:=by
 rw [qnl]
 split
 ·rfl
 ·rw [h]
  refine qlR _ λ y hy=>?_
  obtain ⟨k,hk',rfl⟩:=List.mem_map.1 hy
  exact hk k hk'
theorem qdB {n:List UInt8} {ks:List T} (h1:(yF n).2.2≠0) (h2:(yF n).1<=(ks.length:Int)) (h3:(ks.length:Int)<=(yF n).2.1) (h4:qaz (apT n ks)=false):qbC (apT n ks)=0:=by
 unfold qbC
 show (if (3:Int)≠3 then (0:Int) else if (yF n).2.2=0 then 10 else if (ks.length:Int)<(yF n).1\/(yF n).2.1<(ks.length:Int) then 6 else if qaz (apT n ks) then 10 else 0)=0
 rw [if_neg (by decide),if_neg h1,if_neg (by omega),h4];rfl
theorem qgH {n:List UInt8} (h1:n≠qsq) (h2:n≠nSk) (h3:n≠qAx) (ks:List T):qaz (apT n ks)=false:=by
 unfold qaz
 rw [if_neg (show ¬ (apT n ks).name=qsq from h1),if_neg (show ¬ ((apT n ks).name=nSk\/(apT n ks).name=qAx) from λ h=>h.elim h2 h3)]
theorem qcm:zo zT=0:=by rw [qnl];rfl
theorem qel {P:T->Prop} (hP:Cl P) (hz:P zT) {t:T} (h3:t.kind=3) (ht:P t) (i:Nat):P (kid t i):=by
 by_cases h:i<t.kids.length
 ·exact hP t h3 ht _ (qze h)
 ·unfold kid
  rw [List.getD_eq_getElem?_getD,List.getElem?_eq_none (by omega)];exact hz
theorem qyX {P:T->Prop} (hz:P zT) {l:List T} (h:∀ x∈l,P x):P (l.getD 0 zT):=by
 cases l with
 | nil=>exact hz
 | cons x r=>exact h x (List.mem_cons_self ..)
theorem qCo {t:T} (h3:t.kind=3) (h:qx t=0):t.kids.length<=8:=by
 unfold qx at h
 split at h
 ·rename_i h1;exact absurd h h1
 ·rename_i h1
  have h2:=(qom (t:=t) (by omega)).1
  unfold qax qfd at h2
  rw [if_neg (by omega),if_pos h3] at h2
  split at h2
  ·cases h2
  ·split at h2
   ·split at h2
    ·cases h2
    ·omega
   ·cases h2
theorem qtQ {l:List Pw} (hl:∀ p∈l,zo p.1=0) (h:(qbN l).2=0):zo (qbN l).1=0:=by
 by_cases hp:QV l=0
 ·rw [qt1 hp] at h |-
  unfold qjT at h |-
  by_cases h8:8<(jm l++jk l).length
  ·rw [if_pos h8] at h;cases h
  rw [if_neg h8] at h |-
  by_cases hv:qx (qbY (jm l++jk l))=0
  ·rw [if_neg (by omega)]
   have hall:∀ x∈jm l++jk l,zo x=0 := λ x hx=>by
    rcases List.mem_append.1 hx with hx | hx
    ·obtain ⟨p,hp,rfl⟩:=qDb hx
     exact hl p hp
    ·obtain ⟨p,hp,rfl⟩:=qER hx
     exact qft (qdB (by decide) (by show (1:Int)<=1;decide) (by show (1:Int)<=1;decide) (qgH (by decide) (by decide) (by decide) _)) λ k hk=>by rw [List.mem_singleton.1 hk];exact hl p hp
   generalize jm l++jk l=o at *
   unfold qbY
   split
   ·exact qft (qdB (by decide) (by show (0:Int)<=0;decide) (by show (0:Int)<=0;decide) (qgH (by decide) (by decide) (by decide) _)) λ k hk=>by cases hk
   ·split
    ·exact qyX (P := λ t=>zo t=0) qcm hall
    ·rename_i h0 h1
     exact qft (qdB (by decide) (by show (2:Int)<=_;omega) (by show _<=(8:Int);omega) (qgH (by decide) (by decide) (by decide) _)) hall
  ·rw [if_pos hv] at h;exact absurd h hv
 ·unfold qbN at h
  rw [if_pos hp] at h
  exact absurd h hp
theorem qxG {b:T} {l:List Pw} (hb:zo b=0) (hl:∀ p∈l,zo p.1=0) (h:(qkh b l).2=0):zo (qkh b l).1=0:=by
 unfold qkh at h |-
 split at h
 ·rename_i h0;rw [if_pos h0];exact hb
 ·rename_i h0
  rw [if_neg h0]
  split at h
  ·rename_i h1;exact absurd h h1
  ·rename_i h1
   rw [if_neg h1]
   refine qft (qdB (by decide) (by show (2:Int)<=2;decide) (by show (2:Int)<=2;decide) (qgH (by decide) (by decide) (by decide) _)) λ k hk=>?_
   rcases List.mem_cons.1 hk with rfl | hk
   ·exact hb
   ·rw [List.mem_singleton.1 hk];exact qtQ hl (by omega)
theorem qFg {n:List UInt8} {ks:List T} (hks:∀ k∈ks,zo k=0) (hK:qbC (apT n ks)=0) (h0:(JN (apT n ks)).2=0):zo (JN (apT n ks)).1=0:=by
 have ht:zo (apT n ks)=0:=qft hK hks
 unfold JN at h0 |-
 by_cases hd:isD (apT n ks).name=true
 ·rw [if_pos hd]
  show zo (qjU _)=0
  unfold qjU
  split
  ·rename_i hf
   have hk0:(kid (apT n ks) 0).kind=3:=by
    unfold qbb at hf
    split at hf
    ·exact (J9.1 hf).1
    ·split at hf
     ·rw [Bool.and_eq_true] at hf;exact (J9.1 hf.1).1
     ·split at hf
      ·rw [Bool.and_eq_true,Bool.and_eq_true] at hf;exact (J9.1 hf.1.1).1
      ·split at hf
       ·rw [Bool.and_eq_true,Bool.and_eq_true] at hf;exact (J9.1 hf.1.1).1
       ·split at hf
        ·exact (J9.1 hf).1
        ·cases hf
   exact qel qaf qcm hk0 (qel qaf qcm rfl ht 0) _
  ·exact ht
 rw [if_neg hd] at h0 |-
 by_cases hx:(apT n ks).name=qfM
 ·rw [if_pos hx] at h0 |-
  unfold qr8 at h0 |-
  split at h0
  ·rename_i h1;exact absurd h0 h1
  rename_i h1
  rw [if_neg h1]
  split at h0
  ·cases h0
  rename_i h2
  rw [if_neg h2]
  show zo (qbg (yB ks))=0
  have hv:qx (qbg (yB ks))=0:=by
   have:¬ qx (qbg (yB (apT n ks).kids))≠0:=h2
   exact Decidable.of_not_not this
  have hall:=qBf qaf hks
  generalize yB ks=o at *
  unfold qbg at hv |-
  split
  ·exact qft (qdB (by decide) (by show (0:Int)<=0;decide) (by show (0:Int)<=0;decide) (qgH (by decide) (by decide) (by decide) _)) λ k hk=>by cases hk
  ·rename_i g0
   split
   ·exact qyX (P := λ t=>zo t=0) qcm hall
   ·rename_i g1
    rw [if_neg g0,if_neg g1] at hv
    have hl8:o.length<=8:=qCo (t:=apT qfM o) rfl hv
    exact qft (qdB (by decide) (by show (2:Int)<=_;omega) (by show _<=(8:Int);omega) (qgH (by decide) (by decide) (by decide) _)) hall
 rw [if_neg hx] at h0 |-
 by_cases hm:(apT n ks).name=qhr\/(apT n ks).name=qaJ\/(apT n ks).name=qiL
 ·rw [if_pos hm] at h0 |-
  unfold qqF at h0 |-
  split at h0
  ·rename_i h1;exact absurd h0 h1
  rename_i h1
  rw [if_neg h1]
  exact qtQ (qrc qaf ht) h0
 rw [if_neg hm] at h0 |-
 by_cases he:(apT n ks).name=qhg
 ·rw [if_pos he] at h0 |-
  have hb:=qel qaf qcm (t:=apT n ks) rfl ht 0
  have hy:=qel qaf qcm (t:=apT n ks) rfl ht 1
  generalize kid (apT n ks) 0=b at *
  generalize kid (apT n ks) 1=y at *
  unfold qsQ at h0 |-
  split at h0
  ·rename_i h1;exact absurd h0 h1
  rename_i h1
  rw [if_neg h1]
  split at h0
  ·rename_i hbe
   rw [if_pos hbe]
   split at h0
   ·rename_i h2;exact absurd h0 h2
   rename_i h2
   rw [if_neg h2]
   split at h0
   ·rename_i h3;exact absurd h0 h3
   rename_i h3
   rw [if_neg h3]
   have hb3:=(J9.1 hbe).1
   exact qxG (qel qaf qcm hb3 hb 0) (qGu (P := λ t=>zo t=0) (qrc qaf (qel qaf qcm hb3 hb 1)) (qrc qaf hy)) h0
  ·rename_i hbe
   rw [if_neg hbe]
   exact qxG hb (qrc qaf hy) h0
 ·rw [if_neg he];exact ht
theorem qgJ:size zT=1:=by rw [zc];rfl
theorem qdb (t:T) (i:Nat):size (kid t i)<=size t:=by
 have:=size_pos t
 by_cases h:i<t.kids.length
 ·have:=Qu t _ (qze h);omega
 ·unfold kid
  rw [List.getD_eq_getElem?_getD,List.getElem?_eq_none (by omega)]
  show size zT<=_
  rw [qgJ];omega
theorem qv7 (l:List Pw):size (qbN l).1<=400:=by
 unfold qbN
 have:=qgJ
 split
 ·show size zT<=_;omega
 ·split
  ·show size zT<=_;omega
  ·split
   ·show size zT<=_;omega
   ·rename_i h
    exact J5 (Decidable.of_not_not h)
theorem qzD (b:T) (l:List Pw):size (qkh b l).1<=401+size b:=by
 unfold qkh
 have:=qgJ
 have:=qv7 l
 split
 ·show size b<=_;omega
 ·split
  ·show size zT<=_;omega
  ·rw [zc];show 1+(size b+(size (qbN l).1+0))<=_;omega
theorem qGw (n:List UInt8) (ks:List T):size (JN (apT n ks)).1<=402+szL ks:=by
 have hz:=qgJ
 have ht:size (apT n ks)=1+szL ks:=zc _
 unfold JN
 split
 ·show size (qjU _)<=_
  unfold qjU
  split
  ·have h1:=qdb (apT n ks) 0
   have h2:=qdb (kid (apT n ks) 0) (if (apT n ks).name=qwA then 1 else 0)
   omega
  ·omega
 ·split
  ·unfold qr8
   split
   ·show size zT<=_;omega
   ·split
    ·show size zT<=_;omega
    ·have h1:=qFH (yB (apT n ks).kids)
     have h2:=qil (apT n ks).kids
     have h3:szL (apT n ks).kids=szL ks:=rfl
     show size (qbg _)<=_
     omega
  ·split
   ·unfold qqF
    split
    ·show size zT<=_;omega
    ·have:=qv7 (ofP (apT n ks)).1;omega
   ·split
    ·have h0:=qdb (apT n ks) 0
     generalize kid (apT n ks) 0=b at *
     generalize kid (apT n ks) 1=y at *
     unfold qsQ
     split
     ·show size zT<=_;omega
     ·split
      ·split
       ·show size zT<=_;omega
       ·split
        ·show size zT<=_;omega
        ·have h1:=qzD (kid b 0) (qiM (ofP (kid b 1)).1 (ofP y).1).1
         have h2:=qdb b 0
         omega
      ·have h1:=qzD b (ofP y).1
       omega
    ·show size (apT n ks)<=_;omega
theorem qzH (t:T):size (zB t).1<=402*size t:=by
 refine T.ind (P := λ t=>size (zB t).1<=402*size t) ?_ t
 intro t ih
 have hz:=qgJ
 have hp:=size_pos t
 rw [qnm]
 split
 ·show size t<=_;omega
 ·split
  ·show size zT<=_;omega
  ·have h1:=qGw t.name ((t.kids.map zB).map (·.1))
   have h2:szL ((t.kids.map zB).map (·.1))<=402*szL t.kids:=by
    have:∀ l:List T,(∀ k∈l,k∈t.kids)->szL ((l.map zB).map (·.1))<=402*szL l:=by
     intro l
     induction l with
     | nil=>intro _;exact Nat.le_refl _
     | cons k l ihl =>
       intro h
       have h1:=ih k (h k (List.mem_cons_self ..))
       have h2:=ihl λ x hx=>h x (List.mem_cons_of_mem _ hx)
       rw [List.map_cons,List.map_cons,zL,zL];omega
    exact this t.kids λ _ h=>h
   have h3:size t=1+szL t.kids:=zc t
   omega
theorem qod:∀ (l:List Int),l.foldl thn 0=0->∀ y∈l,y=0
 | [],_,y,hy=>by cases hy
 | z::l,h,y,hy=>by
   rw [Jr] at h
   by_cases hz:z=0
   ·subst hz
    rcases List.mem_cons.1 hy with rfl | hy
    ·rfl
    ·exact qod l h y hy
   ·rw [zt _ hz] at h;exact absurd h hz
theorem qh5 {t:T} (h:t.kind≠3):zB t=(t,0):=by rw [qnm,if_pos h]
theorem qEG {t:T} (h3:t.kind=3) (h:(zB t).2=0):(∀ k∈t.kids,(zB k).2=0)/\zB t=JN (apT t.name ((t.kids.map zB).map (·.1))):=by
 rw [qnm,if_neg (λ hh=>hh h3)] at h |-
 split at h
 ·rename_i h1;exact absurd h h1
 ·rename_i h1
  rw [if_neg h1]
  refine ⟨λ k hk=>?_,rfl⟩
  exact qod _ (Decidable.of_not_not h1) _ (List.mem_map.2 ⟨_,List.mem_map.2 ⟨k,hk,rfl⟩,rfl⟩)
theorem qE9 (l:List T) (h:∀ k∈l,k.kind≠3):(l.map zB).map (·.1)=l:=by
 induction l with
 | nil=>rfl
 | cons k l ih =>
   rw [List.map_cons,List.map_cons,qh5 (h k (List.mem_cons_self ..)),ih λ x hx=>h x (List.mem_cons_of_mem _ hx)]
theorem qwk {t:T} (h3:t.kind=3) (h:qbC t=0):qbC (apT t.name ((t.kids.map zB).map (·.1)))=0:=by
 obtain ⟨h1,h2,h4,h5⟩:=qwB h3 h
 refine qdB h1 (by simpa using h2) (by simpa using h4) ?_
 unfold qaz at h5 |-
 show (if t.name=qsq then decide ((kid (apT t.name ((t.kids.map zB).map (·.1))) 0).kind≠2) else if t.name=nSk\/t.name=qAx then ((t.kids.map zB).map (·.1)).any λ k=>decide (k.kind=3)||decide (k.sort≠1) else false)=false
 split
 ·rename_i hn
  rw [if_pos hn] at h5
  have hk:(kid t 0).kind=2:=by simpa using h5
  cases hl:t.kids with
  | nil =>
    unfold kid at hk
    rw [hl] at hk
    exact absurd hk (by decide)
  | cons x r =>
    have hx:kid t 0=x:=by unfold kid;rw [hl];rfl
    rw [hx] at hk
    show decide ((zB x).1.kind≠2)=false
    rw [qh5 (by omega)]
    simpa using hk
 ·rename_i hn
  rw [if_neg hn] at h5
  split
  ·rename_i hs
   rw [if_pos hs] at h5
   rw [qE9 t.kids λ k hk hk3=>?_]
   ·exact h5
   ·have:=List.any_eq_false.1 h5 k hk
    rw [hk3] at this
    exact this rfl
  ·rfl
theorem qD7 (t:T):zo t=0->(zB t).2=0->zo (zB t).1=0:=by
 refine T.ind (P := λ t=>zo t=0->(zB t).2=0->zo (zB t).1=0) ?_ t
 intro t ih hc h0
 by_cases h3:t.kind=3
 ·obtain ⟨h1,h2⟩:=qEG h3 h0
  obtain ⟨g1,g2⟩:=qfw h3 hc
  rw [h2] at h0 |-
  refine qFg (λ k hk=>?_) (qwk h3 g1) h0
  obtain ⟨q,hq,rfl⟩:=List.mem_map.1 hk
  obtain ⟨j,hj,rfl⟩:=List.mem_map.1 hq
  exact ih j hj (g2 j hj) (h1 j hj)
 ·rw [qh5 h3];exact hc
end Go.AmZ
namespace Go.AmZ
open Go Go.GxZ
theorem jH (t:T) {b:Bool} (h:qbb t=b):qjU t=if b then kid (kid t 0) (if t.name=qwA then 1 else 0) else t:=by unfold qjU;rw [h]
theorem qhq {t:T} (h:zo t=0) {n:List UInt8} (hn:isN t n=true) {a b c:Int} (hs:yF n=(a,b,c)) {i:Nat} (hi:(i:Int)<a):qc t.kids (i:Int)=some (kid t i):=by
 have:=(qpP h hn hs).1
 exact qsM (by omega)
theorem qAF (t:T) (h3:t.kind=3) (hc:zo t=0) (hD:isD t.name=true) (hs:size t<=1000000000):Ev (λ m _=>Jq m t) (qjU t):=by
 have hz:∀ i,size (kid t i)<=size t:=qdb t
 have hzz:∀ i j,size (kid (kid t i) j)<=1000000000 := λ i j=>by have:=qdb (kid t i) j;have:=hz i;omega
 have hzzz:∀ i j k,size (kid (kid (kid t i) j) k)<=1000000000 := λ i j k=>by have:=qdb (kid (kid t i) j) k;have:=hzz i j;omega
 have hck:∀ i,zo (kid t i)=0 := λ i=>qel qaf qcm h3 hc i
 have hckk:∀ i j,(kid t i).kind=3->zo (kid (kid t i) j)=0 := λ i j h=>qel qaf qcm h (hck i) j
 have isT:isN t t.name=true:=J9.2 ⟨h3,rfl⟩
 have k0:∀ {u:T} {n:List UInt8},zo u=0->isN u n=true->∀ {b c:Int},yF n=(1,b,c)->qc u.kids 0=some (kid u 0) := λ h hn _ _ e=>qhq (i:=0) h hn e (by decide)
 have k20:∀ {u:T} {n:List UInt8},zo u=0->isN u n=true->∀ {b c:Int},yF n=(2,b,c)->qc u.kids 0=some (kid u 0) := λ h hn _ _ e=>qhq (i:=0) h hn e (by decide)
 have k21:∀ {u:T} {n:List UInt8},zo u=0->isN u n=true->∀ {b c:Int},yF n=(2,b,c)->qc u.kids 1=some (kid u 1) := λ h hn _ _ e=>qhq (i:=1) h hn e (by decide)
 have sP:yF qvC=(2,2,1):=by decide
 have sE:yF qe4=(2,2,1):=by decide
 have sA:yF qrT=(2,2,1):=by decide
 have sK:yF nPk=(1,1,1):=by decide
 have sS:yF qkc=(2,2,1):=by decide
 unfold isD at hD
 simp only [Bool.or_eq_true,beq_iff_eq] at hD
 refine Ev.succ ?_
 simp only [qpa,qc1,qk]
 have one:∀ {a b c:Int},yF t.name=(a,b,c)->a=b->(t.kids.length:Int)=a := λ e hab=>by
  have:=qpP hc isT e;omega
 rcases hD with ((((hn | hn) | hn) | hn) | hn) | hn
 ·have hl:=one (a:=1) (b:=1) (c:=3) (by rw [hn];decide) rfl
  refine Ev.some (qkM (by omega)) (Ev.cf (zA.2 (by omega)) (Ev.ct (by rw [hn];rfl) (Ev.bind (qgz _ _) ?_)))
  have hf:qbb t=isN (kid t 0) qvC:=by unfold qbb;rw [if_pos (.inl hn)]
  refine Ev.ite (λ h=>?_) λ h=>?_
  ·refine Ev.some (k20 (hck 0) h sP) (Ev.ret ?_)
   rw [jH t (hf.trans h),if_pos rfl,if_neg (by rw [hn];decide)]
  ·refine Ev.ret ?_
   rw [jH t (hf.trans h),if_neg (by decide)]
 ·have hl:=one (a:=1) (b:=1) (c:=3) (by rw [hn];decide) rfl
  refine Ev.some (qkM (by omega)) (Ev.cf (zA.2 (by omega)) (Ev.cf (by rw [hn];rfl) (Ev.ct (by rw [hn];rfl) (Ev.bind (qgz _ _) ?_))))
  have hf:qbb t=isN (kid t 0) qvC:=by unfold qbb;rw [if_pos (.inr hn)]
  refine Ev.ite (λ h=>?_) λ h=>?_
  ·refine Ev.some (k21 (hck 0) h sP) (Ev.ret ?_)
   rw [jH t (hf.trans h),if_pos rfl,if_pos hn]
  ·refine Ev.ret ?_
   rw [jH t (hf.trans h),if_neg (by decide)]
 ·have hl:=one (a:=2) (b:=2) (c:=3) (by rw [hn];decide) rfl
  refine Ev.some (qkM (by omega)) (Ev.ct (zf.2 (by omega)) (Ev.some (qA6 (by omega)) (Ev.cf (by rw [hn];rfl) (Ev.cf (by rw [hn];rfl) (Ev.ct (by rw [hn];rfl) (Ev.bind (qgz _ _) ?_))))))
  have hf:qbb t=(isN (kid t 0) qe4&&qbR (kid (kid t 0) 1) (kid t 1)):=by unfold qbb;rw [if_neg (by rw [hn];decide),if_pos hn]
  refine Ev.ite (λ h=>?_) λ h=>?_
  ·refine Ev.some (k21 (hck 0) h sE) (Ev.bind (qjN _ _ (hzz 0 1) (by have:=hz 1;omega)) (Ev.ite (λ h2=>?_) λ h2=>?_))
   ·refine Ev.some (k20 (hck 0) h sE) (Ev.ret ?_)
    rw [jH t (b:=true) (by rw [hf,show isN (kid t 0) qe4=true from h,h2];rfl),if_pos rfl,if_neg (by rw [hn];decide)]
   ·refine Ev.ret ?_
    rw [jH t (b:=false) (by rw [hf,h2,Bool.and_false]),if_neg (by decide)]
  ·refine Ev.ret ?_
   rw [jH t (b:=false) (by rw [hf,show isN (kid t 0) qe4=false from h];rfl),if_neg (by decide)]
 ·have hl:=one (a:=2) (b:=2) (c:=3) (by rw [hn];decide) rfl
  refine Ev.some (qkM (by omega)) (Ev.ct (zf.2 (by omega)) (Ev.some (qA6 (by omega)) (Ev.cf (by rw [hn];rfl) (Ev.cf (by rw [hn];rfl) (Ev.cf (by rw [hn];rfl) (Ev.ct (by rw [hn];rfl) (Ev.bind (qgz _ _) ?_)))))))
  have hf:qbb t=(isN (kid t 0) qrT&&isN (kid (kid t 0) 1) nPk&&qbR (kid (kid (kid t 0) 1) 0) (kid t 1)):=by unfold qbb;rw [if_neg (by rw [hn];decide),if_neg (by rw [hn];decide),if_pos hn]
  refine Ev.ite (λ h=>?_) λ h=>?_
  ·have hk3:=(J9.1 h).1
   refine Ev.some (k21 (hck 0) h sA) (Ev.bind (qgz _ _) (Ev.ite (λ h2=>?_) λ h2=>?_))
   ·refine Ev.some (k21 (hck 0) h sA) (Ev.some (k0 (hckk 0 1 hk3) h2 sK) (Ev.bind (qjN _ _ (hzzz 0 1 0) (by have:=hz 1;omega)) (Ev.ite (λ h4=>?_) λ h4=>?_)))
    ·refine Ev.some (k20 (hck 0) h sA) (Ev.ret ?_)
     rw [jH t (b:=true) (by rw [hf,show isN (kid t 0) qrT=true from h,show isN (kid (kid t 0) 1) nPk=true from h2,h4];rfl),if_pos rfl,if_neg (by rw [hn];decide)]
    ·refine Ev.ret ?_
     rw [jH t (b:=false) (by rw [hf,h4,Bool.and_false]),if_neg (by decide)]
   ·refine Ev.ret ?_
    rw [jH t (b:=false) (by rw [hf,show isN (kid (kid t 0) 1) nPk=false from h2,Bool.and_false,Bool.false_and]),if_neg (by decide)]
  ·refine Ev.ret ?_
   rw [jH t (b:=false) (by rw [hf,show isN (kid t 0) qrT=false from h];rfl),if_neg (by decide)]
 ·have hl:=one (a:=2) (b:=2) (c:=3) (by rw [hn];decide) rfl
  refine Ev.some (qkM (by omega)) (Ev.ct (zf.2 (by omega)) (Ev.some (qA6 (by omega)) (Ev.cf (by rw [hn];rfl) (Ev.cf (by rw [hn];rfl) (Ev.cf (by rw [hn];rfl) (Ev.cf (by rw [hn];rfl) (Ev.ct (by rw [hn];rfl) (Ev.bind (qgz _ _) ?_))))))))
  have hf:qbb t=(isN (kid t 0) qkc&&isN (kid t 1) nPk&&qbR (kid (kid t 0) 1) (kid (kid t 1) 0)):=by unfold qbb;rw [if_neg (by rw [hn];decide),if_neg (by rw [hn];decide),if_neg (by rw [hn];decide),if_pos hn]
  refine Ev.ite (λ h=>?_) λ h=>?_
  ·refine Ev.bind (qgz _ _) (Ev.ite (λ h2=>?_) λ h2=>?_)
   ·refine Ev.some (k21 (hck 0) h sS) (Ev.some (k0 (hck 1) h2 sK) (Ev.bind (qjN _ _ (hzz 0 1) (hzz 1 0)) (Ev.ite (λ h4=>?_) λ h4=>?_)))
    ·refine Ev.some (k20 (hck 0) h sS) (Ev.ret ?_)
     rw [jH t (b:=true) (by rw [hf,show isN (kid t 0) qkc=true from h,show isN (kid t 1) nPk=true from h2,h4];rfl),if_pos rfl,if_neg (by rw [hn];decide)]
    ·refine Ev.ret ?_
     rw [jH t (b:=false) (by rw [hf,h4,Bool.and_false]),if_neg (by decide)]
   ·refine Ev.ret ?_
    rw [jH t (b:=false) (by rw [hf,show isN (kid t 1) nPk=false from h2,Bool.and_false,Bool.false_and]),if_neg (by decide)]
  ·refine Ev.ret ?_
   rw [jH t (b:=false) (by rw [hf,show isN (kid t 0) qkc=false from h];rfl),if_neg (by decide)]
 ·have hl:=one (a:=1) (b:=1) (c:=3) (by rw [hn];decide) rfl
  refine Ev.some (qkM (by omega)) (Ev.cf (zA.2 (by omega)) (Ev.cf (by rw [hn];rfl) (Ev.cf (by rw [hn];rfl) (Ev.cf (by rw [hn];rfl) (Ev.cf (by rw [hn];rfl) (Ev.cf (by rw [hn];rfl) (Ev.ct (by rw [hn];rfl) (Ev.bind (qgz _ _) ?_))))))))
  have hf:qbb t=isN (kid t 0) qkc:=by unfold qbb;rw [if_neg (by rw [hn];decide),if_neg (by rw [hn];decide),if_neg (by rw [hn];decide),if_neg (by rw [hn];decide),if_pos hn]
  refine Ev.ite (λ h=>?_) λ h=>?_
  ·refine Ev.some (k20 (hck 0) h sS) (Ev.ret ?_)
   rw [jH t (hf.trans h),if_pos rfl,if_neg (by rw [hn];decide)]
  ·refine Ev.ret ?_
   rw [jH t (hf.trans h),if_neg (by decide)]
end Go.AmZ
namespace Go.AmZ
open Go Go.GxZ
theorem qyz {t:T} (h:qx t=0):zV t=0:=by
 unfold qx at h
 split at h
 ·rename_i h1;exact absurd h h1
 ·rename_i h1;exact Decidable.of_not_not h1
end Go.AmZ
namespace Go.AmZ
open Go Go.GxZ
theorem qqJ (t:T):szP (ofP t).1<=400:=by
 unfold ofP
 split
 ·exact Nat.zero_le _
 ·rename_i h
  split
  ·exact Nat.zero_le _
  ·split
   ·exact Nat.zero_le _
   ·have h1:=qyN t [] 1
    have h2:=J5 (Decidable.of_not_not h)
    have h3:szP ([]:List Pw)=0:=rfl
    show szP (jd t [] 1)<=_
    omega
theorem qGH (a b:List Pw):szP (qiM a b).1<=160000:=by
 unfold qiM
 split
 ·exact Nat.zero_le _
 ·rename_i h1
  split
  ·exact Nat.zero_le _
  ·rename_i h2
   split
   ·exact Nat.zero_le _
   ·split
    ·exact Nat.zero_le _
    ·obtain ⟨_,_,h,_⟩:=qkS (Decidable.of_not_not h1) (Decidable.of_not_not h2) b.length
     rw [List.take_length] at h
     exact h
theorem qE2 (b e:T) (hb:zo b=0) (hsb:size b<=1000000000) (hse:size e<=1000000000):Ev (λ m _=>qcd m b e) (qsQ b e):=by
 refine Ev.succ ?_
 simp only [qtg,qec,qk]
 have fin:∀ (l:List Pw) (x:T),szP l<=1000000000->Ev (λ m _=>cond (ieq (l.length:Int) 0) (some (x,(0:Int))) (qa (jA m l) λ v=>cond (qd (ieq v.2 0)) (some (T.mk 0 [] 0 [],v.2)) (qa (qcC m [101,120,112] [x,v.1]) λ w=>some (w,0)))) (qkh x l):=by
  intro l x hl
  unfold qkh
  refine Ev.ite (λ h=>?_) λ h=>?_
  ·rw [qs] at h
   rw [if_pos (by omega)];exact Ev.pure _
  ·rw [qr] at h
   rw [if_neg (by omega)]
   refine Ev.bind (qxr l hl) (Ev.ite (λ h=>?_) λ h=>?_)
   ·rw [bnt,qr] at h
    rw [if_pos h];exact Ev.pure _
   ·rw [bnf,qs] at h
    rw [if_neg (by omega)]
    exact Ev.bind (qG9 _ _) (Ev.pure _)
 unfold qsQ
 refine Ev.bind (qwe e hse) (Ev.ite (λ h=>?_) λ h=>?_)
 ·rw [bnt,qr] at h
  rw [if_pos h];exact Ev.pure _
 rw [bnf,qs] at h
 rw [if_neg (by omega)]
 refine Ev.bind (qgz _ _) (Ev.ite (λ hx=>?_) λ hx=>?_)
 ·rw [if_pos (show isN b qhg=true from hx)]
  have h1:=qdb b 1
  refine Ev.some (qhq (i:=1) hb hx (a:=2) (b:=2) (c:=1) (by decide) (by decide)) (Ev.bind (qwe _ (by omega)) (Ev.ite (λ h2=>?_) λ h2=>?_))
  ·rw [bnt,qr] at h2
   rw [if_pos h2];exact Ev.pure _
  rw [bnf,qs] at h2
  rw [if_neg (by omega)]
  have h3:=qqJ (kid b 1)
  have h4:=qqJ e
  have h5:=qGH (ofP (kid b 1)).1 (ofP e).1
  refine Ev.bind (qGr _ _ (by omega) (by omega)) (Ev.ite (λ h2=>?_) λ h2=>?_)
  ·rw [bnt,qr] at h2
   rw [if_pos h2];exact Ev.pure _
  rw [bnf,qs] at h2
  rw [if_neg (by omega)]
  exact Ev.some (qhq (i:=0) hb hx (a:=2) (b:=2) (c:=1) (by decide) (by decide)) (fin _ _ (by omega))
 ·rw [if_neg (by rw [show isN b qhg=false from hx];decide)]
  have h4:=qqJ e
  exact fin _ _ (by omega)
theorem qDw {t:T} (h:isD t.name=true):JN t=(qjU t,0):=by unfold JN;rw [if_pos h]
theorem qD0 {t:T} (h:t.name=qfM):JN t=qr8 t.kids:=by unfold JN;rw [if_neg (by rw [h];decide),if_pos h]
theorem qEh {t:T} (h:t.name=qhr\/t.name=qaJ\/t.name=qiL):JN t=qqF t:=by
 unfold JN
 rw [if_neg (by rcases h with h | h | h<;>rw [h]<;>decide),if_neg (by rcases h with h | h | h<;>rw [h]<;>decide),if_pos h]
theorem qCY {t:T} (h:t.name=qhg):JN t=qsQ (kid t 0) (kid t 1):=by
 unfold JN
 rw [if_neg (by rw [h];decide),if_neg (by rw [h];decide),if_neg (by rw [h];decide),if_pos h]
theorem qBc {t:T} (h1:isD t.name=false) (h2:t.name≠qfM) (h3:¬ (t.name=qhr\/t.name=qaJ\/t.name=qiL)) (h4:t.name≠qhg):JN t=(t,0):=by
 unfold JN
 rw [if_neg (by rw [h1];decide),if_neg h2,if_neg h3,if_neg h4]
noncomputable def nks (l:List T):List T:=(l.map zB).map (·.1)
theorem qy9 (l:List T):(nks l).length=l.length:=by unfold nks;simp
theorem qHD (l:List T):szL (nks l)<=402*szL l:=by
 induction l with
 | nil=>exact Nat.le_refl _
 | cons k l ih =>
   have:=qzH k
   show szL ((zB k).1::nks l)<=_
   rw [zL,zL];omega
theorem qC7 {l:List T} {i:Nat} {x:T} (h:l[i]? = some x):nks (l.take (i+1))=nks (l.take i)++[(zB x).1]:=by
 unfold nks
 rw [JB h,List.map_append,List.map_append];rfl
noncomputable def erN (l:List T):Int:=((l.map zB).map (·.2)).foldl thn 0
theorem qDy {l:List T} {i:Nat} {x:T} (h:l.drop i=x::l.drop (i+1)):erN (l.drop i)=if (zB x).2≠0 then (zB x).2 else erN (l.drop (i+1)):=by
 unfold erN
 rw [h,List.map_cons,List.map_cons]
 by_cases hx:(zB x).2=0
 ·rw [if_neg (by omega),hx];rfl
 ·rw [if_pos hx];exact zt _ hx
theorem qGl {t:T} (h3:t.kind=3):zB t=if erN t.kids≠0 then (zT,erN t.kids) else JN (apT t.name (nks t.kids)):=by rw [qnm,if_neg (λ h=>h h3)];rfl
theorem qGP {t:T} (h3:t.kind=3) (hc:zo t=0) (he:∀ k∈t.kids,(zB k).2=0):zo (apT t.name (nks t.kids))=0/\∀ k∈nks t.kids,zo k=0:=by
 obtain ⟨g1,g2⟩:=qfw h3 hc
 have hk:∀ k∈nks t.kids,zo k=0 := λ k hk=>by
  obtain ⟨q,hq,rfl⟩:=List.mem_map.1 hk
  obtain ⟨j,hj,rfl⟩:=List.mem_map.1 hq
  exact qD7 j (g2 j hj) (he j hj)
 exact ⟨qft (qwk h3 g1) hk,hk⟩
theorem qCv (t:T):size t<=2000->zo t=0->Ev (λ m _=>zH m t) (zB t):=by
 induction t using T.ind with
 | h t ih =>
   intro hs hc
   have hl:=Qy t
   have hz:=zc t
   refine Ev.succ ?_
   simp only [qry,qbc,qk]
   by_cases h3:t.kind=3
   rotate_left
   ·refine Ev.ct (bnt.2 (qr.2 h3)) (Ev.ret (qh5 h3).symm)
   refine Ev.cf (bnf.2 (qs.2 h3)) ?_
   rw [qGl h3]
   have hck:=(qfw h3 hc).2
   have key:=zp (P := λ i=>(∀ k∈t.kids.take i,(zB k).2=0)->Ev (λ m k=>Qb m (zH m) k t.kids t.kids.length i t.kind t.name t.sort t.kids 0 [] 0 3 t.name 0 [] (nks (t.kids.take i))) (if erN (t.kids.drop i)≠0 then (zT,erN (t.kids.drop i)) else JN (apT t.name (nks t.kids)))) t.kids (by omega)
    (λ hlen he=>by
     refine Ev.loop ?_
     simp only [qg2,qbf,qk]
     refine Ev.cf hlen ?_
     rw [List.take_length] at he |-
     rw [List.drop_length,if_neg (show ¬ erN []≠0 from λ h=>h rfl)]
     obtain ⟨c1,c2⟩:=qGP h3 hc he
     have s1:=qHD t.kids
     have s2:szL t.kids+1=size t:=by unfold szL;omega
     have hnl:=qy9 t.kids
     generalize nks t.kids=ks at *
     have hu:T.mk 3 t.name 0 ks=apT t.name ks:=rfl
     rw [hu]
     have su:size (apT t.name ks)=1+szL ks:=zc _
     have des:isD t.name=true->Ev (λ m _=>qa (Jq m (apT t.name ks)) λ v=>some (v,(0:Int))) (JN (apT t.name ks)) := λ hd=>by
      rw [qDw (show isD (apT t.name ks).name=true from hd)]
      exact Ev.bind (qAF _ rfl c1 hd (by omega)) (Ev.pure _)
     have prod:t.name=qhr\/t.name=qaJ\/t.name=qiL->Ev (λ m _=>qa (Jm m (apT t.name ks)) λ v=>cond (qd (ieq v.2 0)) (some (T.mk 0 [] 0 [],v.2)) (qa (jA m v.1) λ w=>some (w.1,w.2))) (JN (apT t.name ks)) := λ hm=>by
      rw [qEh (show (apT t.name ks).name=qhr\/(apT t.name ks).name=qaJ\/(apT t.name ks).name=qiL from hm)]
      unfold qqF
      have h4:=qqJ (apT t.name ks)
      refine Ev.bind (qwe _ (by omega)) (Ev.ite (λ h=>?_) λ h=>?_)
      ·rw [bnt,qr] at h
       rw [if_pos h];exact Ev.pure _
      ·rw [bnf,qs] at h
       rw [if_neg (by omega)]
       exact Ev.bind (qxr _ (by omega)) (Ev.pure _)
     refine Ev.ite (λ h=>des (by rw [Ji.1 h];decide)) λ h1=>?_
     refine Ev.ite (λ h=>des (by rw [Ji.1 h];decide)) λ h2=>?_
     refine Ev.ite (λ h=>des (by rw [Ji.1 h];decide)) λ h3'=>?_
     refine Ev.ite (λ h=>des (by rw [Ji.1 h];decide)) λ h4=>?_
     refine Ev.ite (λ h=>des (by rw [Ji.1 h];decide)) λ h5=>?_
     refine Ev.ite (λ h=>des (by rw [Ji.1 h];decide)) λ h6=>?_
     refine Ev.ite (λ h=>?_) λ h7=>?_
     ·rw [qD0 (show (apT t.name ks).name=qfM from Ji.1 h)]
      exact Ev.bind (qGD ks (by omega)) (Ev.pure _)
     refine Ev.ite (λ h=>prod (.inl (Ji.1 h))) λ h8=>?_
     refine Ev.ite (λ h=>prod (.inr (.inl (Ji.1 h)))) λ h9=>?_
     refine Ev.ite (λ h=>prod (.inr (.inr (Ji.1 h)))) λ h10=>?_
     refine Ev.ite (λ h=>?_) λ h11=>?_
     ·have hn:t.name=qhg:=Ji.1 h
      rw [qCY (show (apT t.name ks).name=qhg from hn)]
      have isE:isN (apT t.name ks) qhg=true:=J9.2 ⟨rfl,hn⟩
      have q0:=qdb (apT t.name ks) 0
      have q1:=qdb (apT t.name ks) 1
      refine Ev.some (qhq (t:=apT t.name ks) (i:=0) c1 isE (a:=2) (b:=2) (c:=1) (by decide) (by decide)) (Ev.some (qhq (t:=apT t.name ks) (i:=1) c1 isE (a:=2) (b:=2) (c:=1) (by decide) (by decide)) ?_)
      exact Ev.bind (qE2 _ _ (qel qaf qcm rfl c1 0) (by omega) (by omega)) (Ev.pure _)
     ·rw [qBc (t:=apT t.name ks) (show isD t.name=false from by
          rw [<- Bool.not_eq_true]
          intro hd
          unfold isD at hd
          simp only [Bool.or_eq_true,beq_iff_eq] at hd
          rcases hd with ((((hn | hn) | hn) | hn) | hn) | hn
          ·exact JG.1 h1 hn
          ·exact JG.1 h2 hn
          ·exact JG.1 h3' hn
          ·exact JG.1 h4 hn
          ·exact JG.1 h5 hn
          ·exact JG.1 h6 hn) (JG.1 h7) (λ h=>by rcases h with h | h | h;exact JG.1 h8 h;exact JG.1 h9 h;exact JG.1 h10 h) (JG.1 h11)]
      exact Ev.pure _)
    (λ i x hx hd hlen hg hi hP he=>by
     refine Ev.loop ?_
     simp only [qg2,qbf,qk]
     have hm:=List.mem_of_getElem? hx
     have hlt:=Qu t x hm
     rw [qDy hd]
     refine Ev.ct hlen (Ev.some hg (Ev.bind (ih x hm (by omega) (hck x hm)) (Ev.ite (λ h=>?_) λ h=>?_)))
     ·rw [bnt,qr] at h
      rw [if_pos (show (if (zB x).2≠0 then (zB x).2 else erN (t.kids.drop (i+1)))≠0 from by rw [if_pos h];exact h),if_pos h]
      exact Ev.pure _
     ·rw [bnf,qs] at h
      rw [if_neg (show ¬ (zB x).2≠0 from by omega)]
      have h4:(nks (t.kids.take i)).length<=t.kids.length:=by rw [qy9,List.length_take];omega
      refine Ev.ct (jW (by omega) (by omega)) ?_
      have hP:=hP λ k hk=>by
       rw [JB hx] at hk
       rcases List.mem_append.1 hk with hk | hk
       ·exact he k hk
       ·rw [List.mem_singleton.1 hk];exact h
      rw [hi]
      refine hP.congr λ m k=>?_
      rw [qC7 hx])
   have hk3:=h3
   refine Ev.diag (L := λ m k=>Qb m (zH m) k t.kids t.kids.length 0 t.kind t.name t.sort t.kids 0 [] 0 3 t.name 0 [] []) ?_
   exact (key 0 (Nat.zero_le _)) (λ k hk=>by rw [List.take_zero] at hk;cases hk)
theorem qkT (t:T):qjt t=if qkl t≠0 then (zT,qkl t) else if (zB t).2≠0 then (zT,(zB t).2) else if qx (zB t).1≠0 then (zT,qx (zB t).1) else zB t:=rfl
theorem qz6 (t:T) (hs:size t<=1000000000):Ev (λ m _=>qbk m t) (qjt t):=by
 refine Ev.succ ?_
 simp only [qrd,qdI,qk]
 rw [qkT]
 refine Ev.bind (qGO t hs) (Ev.ite (λ h=>?_) λ h=>?_)
 ·rw [bnt,qr] at h
  rw [if_pos h];exact Ev.pure _
 rw [bnf,qs] at h
 rw [if_neg (by omega)]
 obtain ⟨hv,hc⟩:=qlM h
 have hz:=J5 hv
 have hn:=qzH t
 refine Ev.bind (qCv t (by omega) hc) (Ev.ite (λ h2=>?_) λ h2=>?_)
 ·rw [qs] at h2
  rw [if_neg (by omega)]
  refine Ev.bind (ja _ (by omega)) (Ev.ite (λ h3=>?_) λ h3=>?_)
  ·rw [bnt,qr] at h3
   rw [if_pos h3];exact Ev.pure _
  ·rw [bnf,qs] at h3
   rw [if_neg (by omega)]
   exact Ev.ret (by rw [<- h2])
 ·rw [qr] at h2
  rw [if_pos h2]
  exact Ev.ct (bnt.2 (qr.2 h2)) (Ev.pure _)
theorem qAG (t:T):size (qjt t).1<=400:=by
 rw [qkT]
 have:=qgJ
 split
 ·show size zT<=_;omega
 ·split
  ·show size zT<=_;omega
  ·split
   ·show size zT<=_;omega
   ·rename_i h
    exact J5 (Decidable.of_not_not h)
end Go.AmZ
namespace Go.AmZ
open Go Go.GxZ
noncomputable def qgT (p:List UInt8->Bool):T->Bool:=T.para λ t rs=>(!(t.kind==3)||p t.name)&&rs.all id
theorem qCF (p:List UInt8->Bool) (t:T):qgT p t=((!(t.kind==3)||p t.name)&&(t.kids.map (qgT p)).all id):=T.para_eq _ _
noncomputable def qj1:T->List T:=T.para λ t rs=>t::rs.flatten
theorem qr0 (t:T):qj1 t=t::(t.kids.map qj1).flatten:=T.para_eq _ _
theorem qEn (t:T):(qj1 t).length=size t:=by
 refine T.ind (P := λ t=>(qj1 t).length=size t) ?_ t
 intro t ih
 rw [qr0,zc,List.length_cons,List.length_flatten,List.map_map]
 have:t.kids.map (List.length ∘ qj1)=t.kids.map size:=List.map_congr_left λ k hk=>ih k hk
 rw [this];omega
theorem qFG (t:T):∀ u∈qj1 t,size u<=size t:=by
 refine T.ind (P := λ t=>∀ u∈qj1 t,size u<=size t) ?_ t
 intro t ih u hu
 rw [qr0] at hu
 rcases List.mem_cons.1 hu with rfl | hu
 ·exact Nat.le_refl _
 ·obtain ⟨l,hl,hu⟩:=List.mem_flatten.1 hu
  obtain ⟨k,hk,rfl⟩:=List.mem_map.1 hl
  have h1:=ih k hk u hu
  have h2:=Qu t k hk
  omega
def pPl (n:List UInt8):Bool:=qd (ieq (yF n).2.2 3)
theorem qCq (n:List UInt8):Ev (λ m _=>qaA m n) (pPl n):=by
 refine Ev.succ ?_
 simp only [qou,qc0]
 refine Ev.bind (qtF n) (Ev.ret ?_)
 unfold pPl
 rw [<- qxp]
theorem qBR (t:T):size t<=1000000000->Ev (λ m _=>qE m t) (qgT pPl t):=by
 induction t using T.ind with
 | h t ih =>
   intro hs
   have hl:=Qy t
   refine Ev.succ ?_
   simp only [qkx,QZ]
   have key:=zp (P := λ i=>Ev (λ m k=>zZ m (qE m) k t.kids t.kids.length i) (((t.kids.drop i).map (qgT pPl)).all id)) t.kids (by omega)
    (λ hc=>by
     refine Ev.loop ?_
     simp only [qdV,QX]
     refine Ev.cf hc (Ev.ret ?_)
     rw [List.drop_length];rfl)
    (λ i x hx hd hc hg hi hP=>by
     refine Ev.loop ?_
     simp only [qdV,QX,qk]
     have hm:=List.mem_of_getElem? hx
     have h1:=Qu t x hm
     rw [hd,List.map_cons,List.all_cons]
     refine Ev.ct hc (Ev.some hg (Ev.bind (ih x hm (by omega)) (Ev.ite (λ hb=>?_) λ hb=>?_)))
     ·rw [bnt] at hb
      rw [hb];exact Ev.pure _
     ·rw [bnf] at hb
      rw [hb,hi]
      exact hP)
   have main:Ev (λ m _=>zZ m (qE m) m t.kids t.kids.length 0) ((t.kids.map (qgT pPl)).all id) :=
    Ev.diag (L := λ m k=>zZ m (qE m) k t.kids t.kids.length 0) ((key 0 (Nat.zero_le _)).res (by rw [List.drop_zero]))
   rw [qCF]
   refine Ev.ite (λ h3=>?_) λ h3=>?_
   ·rw [qs] at h3
    have hk:(!(t.kind==3))=false:=by rw [h3];rfl
    rw [hk,Bool.false_or]
    refine Ev.bind (qCq t.name) (Ev.ite (λ h=>?_) λ h=>?_)
    ·rw [bnt] at h
     rw [h];exact Ev.pure _
    ·rw [bnf] at h
     rw [h];exact main
   ·rw [qr] at h3
    have hk:(!(t.kind==3))=true:=by rw [Bool.not_eq_true',beq_eq_false_iff_ne];exact h3
    rw [hk,Bool.true_or]
    exact main
noncomputable def qjg (t:T):Bool:=decide ((qjt t).2=0)&&(qbR (qjt t).1 t&&qgT pPl t)
theorem qCz (t:T) (hs:size t<=1000000000):Ev (λ m _=>qbW m t) (qjg t):=by
 have h1:=qAG t
 refine Ev.succ ?_
 simp only [qsK,qex,qk]
 unfold qjg
 refine Ev.bind (qz6 t hs) (Ev.ite (λ h=>?_) λ h=>?_)
 ·rw [qs] at h
  rw [decide_eq_true h,Bool.true_and]
  refine Ev.bind (qjN _ _ (by omega) hs) (Ev.ite (λ h2=>?_) λ h2=>?_)
  ·rw [h2,Bool.true_and]
   exact Ev.bind (qBR t hs) (Ev.pure _)
  ·rw [h2,Bool.false_and];exact Ev.pure _
 ·rw [qr] at h
  rw [decide_eq_false h,Bool.false_and];exact Ev.pure _
end Go.AmZ
namespace Go.AmZ
open Go Go.GxZ Go.Sort Go.Proofs Go.Proofs.YtbpnmbmdbblehaaGreat
noncomputable def yG (k:Int) (t:T):List T:=(qj1 t).filter λ x=>decide (x.kind=k)
noncomputable def qzJ (t:T):Bool:=(yG 1 t).isEmpty
theorem qtY (k:Int) (t:T):yG k t=(if t.kind=k then [t] else [])++(t.kids.map (yG k)).flatten:=by
 unfold yG
 rw [qr0,List.filter_cons,List.filter_flatten,List.map_map]
 by_cases h:t.kind=k<;>simp [h,Function.comp_def,yG]
theorem qky (k:Int) (t:T):(yG k t).length<=size t:=by
 have:=List.length_filter_le (λ x:T=>decide (x.kind=k)) (qj1 t)
 rw [qEn] at this
 exact this
theorem qBT (k:Int) (t:T):∀ u∈yG k t,size u<=size t := λ u hu=>qFG t u ((List.mem_filter.1 hu).1)
theorem qDc (x:T) (k:Int) (l:List T) (hl:l.length<=1000000000):Ev (λ m _=>Qa m x k l) ((k,l++(if x.kind=k then [x] else []),()),()):=by
 refine Ev.succ ?_
 simp only [qiK,JO,qk]
 by_cases h:x.kind=k
 ·rw [if_pos h]
  refine Ev.ct (qs.2 h) (Ev.ct (jW (by omega) (by omega)) (Ev.some (a:=T.mk 0 [] 0 []) (by rw [yY];simp) (Ev.ret ?_)))
  rw [qbU]
  simp
 ·rw [if_neg h,List.append_nil]
  exact Ev.cf (qr.2 h) (Ev.pure _)
theorem qGg (t:T) (k:Int):size t<=1000000000->∀ l:List T,l.length+size t<=1000000000->Ev (λ m _=>qY m t k l) ((k,l++yG k t,()),()):=by
 induction t using T.ind with
 | h t ih =>
   intro hs l hl
   have hkl:=Qy t
   refine Ev.succ ?_
   simp only [qlE,Jb,qk]
   refine Ev.bind (qDc t k l (by omega)) ?_
   simp only
   obtain ⟨l0,hl0⟩:∃ l0,l0=l++(if t.kind=k then [t] else []):=⟨_,rfl⟩
   rw [<- hl0]
   have hfl:=qky k t
   rw [qtY,List.length_append] at hfl
   have hl0n:l0.length+((t.kids.map (yG k)).flatten).length=l.length+((if t.kind=k then [t] else []).length+((t.kids.map (yG k)).flatten).length):=by rw [hl0,List.length_append];omega
   have hpre:∀ i,((t.kids.take i).map (yG k)).flatten.length<=(t.kids.map (yG k)).flatten.length := λ i=>by
    have:=congrArg (λ l=>(l.map (yG k)).flatten.length) (List.take_append_drop i t.kids)
    simp only [List.map_append,List.flatten_append,List.length_append] at this
    omega
   have hsz:∀ i x,t.kids[i]? = some x->l0.length+((t.kids.take i).map (yG k)).flatten.length+size x<=1000000000 := λ i x hx=>by
    have h1:((t.kids.take i).map (yG k)).flatten.length<=szL (t.kids.take i):=by
     have aux:∀ l:List T,((l.map (yG k)).flatten).length<=szL l:=by
      intro l
      induction l with
      | nil=>simp [szL]
      | cons y l ih'=>rw [List.map_cons,List.flatten_cons,List.length_append,zL];have:=qky k y;omega
     exact aux _
    have h2:=qdl hx
    have h3:szL t.kids+1<=size t:=by rw [zc];unfold szL;omega
    have h4:l0.length<=l.length+1:=by rw [hl0,List.length_append];split<;>simp
    omega
   have key:=zp (P := λ i=>Ev (λ m kk=>yN m (qY m) kk t.kids t.kids.length i k (l0++((t.kids.take i).map (yG k)).flatten)) ((k,l0++(t.kids.map (yG k)).flatten,()),())) t.kids (by omega)
    (λ hc=>by
     refine Ev.loop ?_
     simp only [qet,Jk]
     refine Ev.cf hc ?_
     rw [List.take_length];exact Ev.pure _)
    (λ i x hx hd hc hg hi hP=>by
     refine Ev.loop ?_
     simp only [qet,Jk,qk]
     have hm:=List.mem_of_getElem? hx
     have h1:=Qu t x hm
     refine Ev.ct hc (Ev.some hg (Ev.bind (ih x hm (by omega) _ (by rw [List.length_append];exact hsz i x hx)) ?_))
     rw [hi]
     have e:((t.kids.take (i+1)).map (yG k)).flatten=((t.kids.take i).map (yG k)).flatten++yG k x:=by
      rw [JB hx,List.map_append,List.flatten_append];simp
     rw [e,<- List.append_assoc] at hP
     exact hP)
   rw [qtY,<- List.append_assoc,<- hl0]
   refine Ev.diag (L := λ m kk=>yN m (qY m) kk t.kids t.kids.length 0 k l0) ?_
   have:=key 0 (Nat.zero_le _)
   simpa using this
theorem qFK {F G:T->T->Option Int} {l:List T} (h:∀ x∈l,∀ y∈l,F x y=G x y):Qj F l=Qj G l:=by
 funext i j
 unfold Qj
 cases hx:l[i % l.length]? with
 | none=>rfl
 | some x=>cases hy:l[j % l.length]? with
   | none=>rfl
   | some y=>simp only;rw [h x (List.mem_of_getElem? hx) y (List.mem_of_getElem? hy)]
theorem quh {β : Type} {F:T->T->Option β} {l:List T} (h:∀ x∈l,∀ y∈l,(F x y).isSome=true):qaE F l=true :=
 List.all_eq_true.2 λ x hx=>List.all_eq_true.2 λ y hy=>h x hx y hy
theorem qGy {n:Nat} {lt:Nat->Nat->Bool} (h:SWO lt):qoU n lt=true:=by
 unfold qoU
 refine List.all_eq_true.2 λ i _=>?_
 rw [Bool.and_eq_true]
 refine ⟨by rw [h.irrefl];rfl,List.all_eq_true.2 λ j _=>List.all_eq_true.2 λ k _=>?_⟩
 rw [Bool.and_eq_true]
 constructor
 ·cases h1:lt i j with
  | false=>rfl
  | true=>cases h2:lt j k with
    | false=>rfl
    | true=>rw [h.trans i j k h1 h2];rfl
 ·cases h1:lt i j with
  | true=>rfl
  | false=>cases h2:lt j k with
    | true=>rfl
    | false=>rw [h.ntrans i j k h1 h2];rfl
theorem qIl (l:List T):SWO (ltOf (Qj (λ x y=>some (qw x y)) l)):=by
 have hlt:∀ i j,ltOf (Qj (λ x y=>some (qw x y)) l) i j=true↔∃ x y,l[i % l.length]? = some x/\l[j % l.length]? = some y/\qw x y=-1 := λ i j=>by
  unfold ltOf Qj
  rw [decide_eq_true_iff]
  cases hx:l[i % l.length]? with
  | none=>simp
  | some x=>cases hy:l[j % l.length]? with
    | none=>simp
    | some y =>
      simp only [Option.getD_some]
      have:=yf.rng x y
      constructor
      ·intro h;exact ⟨x,y,rfl,rfl,by omega⟩
      ·rintro ⟨_,_,h1,h2,h3⟩;cases h1;cases h2;omega
 refine ⟨λ i=>?_,λ i j k h1 h2=>?_,λ i j k h1 h2=>?_⟩
 ·rw [Bool.eq_false_iff]
  intro h
  obtain ⟨x,y,h1,h2,h3⟩:=(hlt _ _).1 h
  rw [h1] at h2;cases h2
  rw [qna] at h3;cases h3
 ·obtain ⟨x,y,a1,a2,a3⟩:=(hlt _ _).1 h1
  obtain ⟨y',z,b1,b2,b3⟩:=(hlt _ _).1 h2
  rw [a2] at b1;cases b1
  exact (hlt _ _).2 ⟨x,z,a1,b2,yf.trans x y z a3 b3⟩
 ·rw [Bool.eq_false_iff] at h1 h2 |-
  intro h
  obtain ⟨x,z,a1,a2,a3⟩:=(hlt _ _).1 h
  have hn:0<l.length:=by have:=getElem?_lt a1;omega
  obtain ⟨y,hj⟩:∃ y,l[j % l.length]? = some y:=⟨_,List.getElem?_eq_getElem (Nat.mod_lt _ hn)⟩
  have n1:qw x y≠-1 := λ he=>h1 ((hlt _ _).2 ⟨x,_,a1,hj,he⟩)
  have n2:qw y z≠-1 := λ he=>h2 ((hlt _ _).2 ⟨_,z,hj,a2,he⟩)
  have r1:=yf.rng x y
  have r2:=yf.rng y z
  rcases r1 with r1 | r1 | r1
  ·exact n1 r1
  ·have:=qaT _ _ r1
   rw [<- this] at n2;exact n2 a3
  ·rcases r2 with r2 | r2 | r2
   ·exact n2 r2
   ·have:=qaT _ _ r2
    rw [this] at n1;exact n1 a3
   ·have e1:qw y x=-1:=by rw [yf.anti];omega
    have e2:qw z y=-1:=by rw [yf.anti];omega
    have e3:=yf.trans _ _ _ e2 e1
    have e4:=yf.anti x z
    omega
theorem qwh {β : Type} {F:Nat->T->T->Option β} {g:T->T -> β} (l:List T) (h:∀ x∈l,∀ y∈l,Ev (λ m _=>F m x y) (g x y)):∃ B,∀ m,B<=m->∀ x∈l,∀ y∈l,F m x y=some (g x y):=by
 have one:∀ (x:T),(∀ y∈l,Ev (λ m _=>F m x y) (g x y))->∀ r:List T,(∀ y∈r,y∈l)->∃ B,∀ m,B<=m->∀ y∈r,F m x y=some (g x y):=by
  intro x hx r
  induction r with
  | nil=>exact λ _=>⟨0,λ _ _ y hy=>by cases hy⟩
  | cons y r ih =>
    intro hr
    obtain ⟨B,hB⟩:=ih λ z hz=>hr z (List.mem_cons_of_mem _ hz)
    obtain ⟨D,hD⟩:=hx y (hr y (List.mem_cons_self ..))
    refine ⟨max B D,λ m hm z hz=>?_⟩
    rcases List.mem_cons.1 hz with rfl | hz
    ·exact hD m D (by omega) (Nat.le_refl _)
    ·exact hB m (by omega) z hz
 have two:∀ r:List T,(∀ y∈r,y∈l)->∃ B,∀ m,B<=m->∀ x∈r,∀ y∈l,F m x y=some (g x y):=by
  intro r
  induction r with
  | nil=>exact λ _=>⟨0,λ _ _ y hy=>by cases hy⟩
  | cons x r ih =>
    intro hr
    obtain ⟨B,hB⟩:=ih λ z hz=>hr z (List.mem_cons_of_mem _ hz)
    obtain ⟨D,hD⟩:=one x (h x (hr x (List.mem_cons_self ..))) l λ _ h=>h
    refine ⟨max B D,λ m hm z hz=>?_⟩
    rcases List.mem_cons.1 hz with rfl | hz
    ·exact hD m (by omega)
    ·exact hB m (by omega) z hz
 exact two l λ _ h=>h
theorem qxy {α : Type} {l:List α} {ix:List Nat}:∀ x∈pick l ix,x∈l := λ x hx=>by
 unfold pick at hx
 obtain ⟨i,_,h⟩:=List.mem_filterMap.1 hx
 exact List.mem_of_getElem? h
theorem qGN (l:List T) (hl:l.length<=100000) (hs:∀ t∈l,size t<=1000000000):∃ l',Ev (λ m _=>qN m l) l'/\l'.length=l.length/\∀ x∈l',x∈l:=by
 cases hl0:l with
 | nil=>exact ⟨[],Ev.succ (Ev.congr (Ev.pure _) λ m _=>rfl),rfl,λ x h=>h⟩
 | cons x0 r0 =>
   rw [<- hl0]
   obtain ⟨B,hB⟩:=qwh (F := λ m x y=>qm m x y) l λ x hx y hy=>qao x (hs x hx) y (hs y hy)
   have hne:l≠[]:=by rw [hl0];exact List.cons_ne_nil _ _
   have hO:=qIl l
   obtain ⟨hp,_⟩:=qoa (λ x y=>some (qw x y)) l hO
   have hlt:∀ i∈Jw (λ x y=>some (qw x y)) l,i<l.length := λ i hi=>List.mem_range.1 (hp.mem_iff.1 hi)
   refine ⟨pick l (Jw (λ x y=>some (qw x y)) l),Ev.succ ⟨B,λ m k hm _=>?_⟩,by rw [qkQ hlt,hp.length_eq,List.length_range],qxy⟩
   show qN (m+1) l=_
   rw [qaP]
   have hcf:Qj (qm m) l=Qj (λ x y=>some (qw x y)) l:=qFK (hB m hm)
   have hall:qaE (qm m) l=true:=quh λ x hx y hy=>by rw [hB m hm x hx y hy];rfl
   have hix:Jw (qm m) l=Jw (λ x y=>some (qw x y)) l:=by unfold Jw;rw [hcf]
   have e:qnu (qm m) l=cond (Nat.ble l.length 100000&&(qaE (qm m) l&&qoU l.length (ltOf (Qj (qm m) l)))) (some (pick l (Jw (qm m) l))) none:=by rw [hl0];rfl
   rw [e,hcf,hall,hix,qGy hO,show Nat.ble l.length 100000=true from Nat.ble_eq_true_of_le hl]
   rfl
theorem qz2 (l:List T) (hl:l.length<=100000) (hs:∀ t∈l,size t<=1000000000):∃ l',Ev (λ m _=>qC m l) ((),l',())/\(l'=[]↔l=[])/\l'.length<=l.length/\∀ x∈l',x∈l:=by
 cases hl0:l with
 | nil=>exact ⟨[],Ev.succ (Ev.congr (Ev.pure _) λ m _=>rfl),Iff.rfl,Nat.le_refl _,λ x h=>h⟩
 | cons x0 r0 =>
   rw [<- hl0]
   obtain ⟨B,hB⟩:=qwh (F := λ m x y=>zY m x y) (g := λ x y=>ieq (qw x y) 0) l λ x hx y hy=>by
    refine Ev.succ ?_
    simp only [qow,qcY,qk]
    exact Ev.bind (qao x (hs x hx) y (hs y hy)) (Ev.pure _)
   have hne:l≠[]:=by rw [hl0];exact List.cons_ne_nil _ _
   have hpos:0<l.length:=List.length_pos_iff.2 hne
   obtain ⟨ef,hef⟩:∃ ef,ef=qhy (λ x y=>some (ieq (qw x y) 0)) l:=⟨_,rfl⟩
   have hlt:∀ i∈zm ef l.length,i<l.length:=qtr
   have hlen:(zm ef l.length).length<=l.length:=by
    have:=List.length_filter_le (λ i=>decide (i=0) || !ef i (i-1)) (List.range l.length)
    rw [List.length_range] at this
    exact this
   have h0:0∈zm ef l.length:=List.mem_filter.2 ⟨List.mem_range.2 hpos,by simp⟩
   refine ⟨pick l (zm ef l.length),Ev.succ ⟨B,λ m k hm _=>?_⟩,⟨λ h=>?_,λ h=>absurd h hne⟩,by rw [qkQ hlt];exact hlen,qxy⟩
   ·show qC (m+1) l=_
    rw [JX]
    have hee:qhy (zY m) l=ef:=by
     rw [hef]
     funext i j
     unfold qhy
     cases hx:l[i % l.length]? with
     | none=>rfl
     | some x=>cases hy:l[j % l.length]? with
       | none=>rfl
       | some y=>simp only;rw [hB m hm x (List.mem_of_getElem? hx) y (List.mem_of_getElem? hy)]
    have hall:qaE (zY m) l=true:=quh λ x hx y hy=>by rw [hB m hm x hx y hy];rfl
    have e:qvx (zY m) l=cond (Nat.ble l.length 100000&&qaE (zY m) l) (some (pick l (zm (qhy (zY m) l) l.length))) none:=by rw [hl0];rfl
    unfold qrz
    rw [e,hall,hee,show Nat.ble l.length 100000=true from Nat.ble_eq_true_of_le hl]
    rfl
   ·have:=qkQ hlt
    rw [h] at this
    have h1:=List.length_pos_of_mem h0
    simp at this
    omega
theorem qA7 (l:List T) (hl:l.length<=100000) (hs:∀ t∈l,size t<=1000000000):∃ l',Ev (λ m _=>qb9 m l) ((),l',())/\(l'=[]↔l=[]):=by
 obtain ⟨l1,e1,n1,m1⟩:=qGN l hl hs
 obtain ⟨l2,e2,n2,n3,m2⟩:=qz2 l1 (by omega) λ t ht=>hs t (m1 t ht)
 refine ⟨l2,?_,n2.trans ⟨λ h=>List.eq_nil_of_length_eq_zero (by rw [<- n1,h];rfl),λ h=>List.eq_nil_of_length_eq_zero (by rw [n1,h];rfl)⟩⟩
 refine Ev.succ ?_
 simp only [qsx,qbK]
 refine Ev.bind e1 (Ev.ct (by rw [n1,Nat.beq_refl]) (Ev.bind e2 ?_))
 have key:=zp (P := λ i=>Ev (λ m k=>Qx m k l2.length i l2) ((),l2,())) l2 (by omega)
  (λ hc=>by
   refine Ev.loop ?_
   simp only [qh3,qbO]
   exact Ev.cf hc (Ev.pure _))
  (λ i x hx hd hc hg hi hP=>by
   refine Ev.loop ?_
   simp only [qh3,qbO,qk]
   refine Ev.ct hc (Ev.some hg (Ev.bind (qkm x (hs x (m1 x (m2 x (List.mem_of_getElem? hx))))) (Ev.some hg ?_)))
   rw [hi]
   have e:jD l2 (i:Int) x=l2:=by
    rw [qbU]
    apply List.ext_getElem?
    intro j
    by_cases hj:i=j
    ·subst hj;rw [List.getElem?_set_self (getElem?_lt hx)];exact hx.symm
    ·rw [List.getElem?_set_ne hj]
   rw [e]
   exact hP)
 exact Ev.diag (L := λ m k=>Qx m k l2.length 0 l2) (key 0 (Nat.zero_le _))
theorem qFJ (t:T) (hs:size t<=100000):∃ l,Ev (λ m _=>qfq m t) l/\(l=[]↔yG 1 t=[]):=by
 obtain ⟨l,h1,h2⟩:=qA7 (yG 1 t) (Nat.le_trans (qky 1 t) hs) λ u hu=>by have:=qBT 1 t u hu;omega
 refine ⟨l,?_,h2⟩
 refine Ev.succ ?_
 simp only [qyp,qhn,qk]
 refine Ev.bind (a:=l) (Ev.succ ?_) (Ev.pure _)
 simp only [qva,qeW,qk]
 have hw:=qGg t 1 (by omega) [] (by rw [List.length_nil];omega)
 rw [List.nil_append] at hw
 exact Ev.bind hw (Ev.bind h1 (Ev.ret rfl))
end Go.AmZ
namespace Go.AmZ
open Go Go.GxZ Go.Sort Go.Proofs Go.Proofs.YtbpnmbmdbblehaaGreat
noncomputable def Qt (t:T):Bool:=qjg t&&qzJ t
theorem Je (t:T) (hs:size t<=100000):Ev (λ m _=>za m t) (Qt t):=by
 obtain ⟨l,h1,h2⟩:=qFJ t hs
 refine Ev.succ ?_
 simp only [qrm,qdE,qk]
 refine Ev.bind (qCz t (by omega)) ?_
 unfold Qt qzJ
 cases qjg t with
 | false=>exact Ev.cf rfl (Ev.pure _)
 | true =>
   refine Ev.ct rfl (Ev.bind h1 (Ev.ret ?_))
   rw [Bool.true_and]
   by_cases h:yG 1 t=[]
   ·rw [h,h2.2 h];rfl
   ·have hl:l≠[] := λ hl=>h (h2.1 hl)
    have hp:0<l.length:=List.length_pos_iff.2 hl
    rw [qr.2 (by omega)]
    cases hk:yG 1 t with
    | nil=>exact absurd hk h
    | cons x r=>rfl
end Go.AmZ
namespace Go.AmZ
theorem qBq (n:Nat):qda (n+3000)=some true:=by kernel_rfl
end Go.AmZ
namespace Go.AmZ
open Go Go.GxZ
abbrev Rt:=T × (Int × (List (Int × T) × Int))
theorem qpW (t:T):T.mk t.kind t.name t.sort t.kids=t:=qk t
theorem qAk:Ev (λ m _=>qda m) true:=⟨3000,λ m k hm _=>by
 obtain ⟨n,rfl⟩:∃ n,m=n+3000:=⟨m-3000,by omega⟩
 exact qBq n⟩
theorem qhD (t:T) (hs:size t<=1000000000):Ev (λ m _=>zX m t) t:=by
 have hA:Ev (λ m _=>qji m t []) (t,0):=by
  refine Ev.succ ?_
  simp only [qCL,qgj]
  refine Ev.diag (L := λ m k=>qdT m k [] (([]:List Int).length) 0 t.kind t.name t.sort t.kids 0 [] 0 []) (Ev.loop ?_)
  simp only [qAQ,qkO,qpW,qk]
  exact Ev.cf rfl (Ev.bind (qkm t hs) (Ev.pure _))
 refine Ev.succ ?_
 simp only [qo2,qcW,qk]
 exact Ev.bind hA (Ev.pure _)
def nHa:List UInt8:=[104,97,115,104]
def nPa:List UInt8:=[112,97,105,114]
def nCh:List UInt8:=[99,104,97,105,110]
def nMs:List UInt8:=[109,101,115,115,97,103,101]
def qeJ (s:List UInt8):T := .mk 2 s 5 []
def qd1 (c w:T):T := .mk 3 nHa 0 [.mk 3 nPa 0 [c,w]]
def jw (c:T):T:=qd1 c (qeJ nCh)
def jf (c:T):T:=qd1 c (qeJ nMs)
theorem qj7 (s:List UInt8):size (qeJ s)=1:=by rw [zc];rfl
theorem qqx (c w:T):size (qd1 c w)=size c+size w+2:=by
 unfold qd1
 rw [zc]
 show 1+([T.mk 3 nPa 0 [c,w]].map size).sum=_
 rw [List.map_cons,List.map_nil,List.sum_cons,List.sum_nil,zc]
 show 1+(1+([c,w].map size).sum+0)=_
 simp only [List.map_cons,List.map_nil,List.sum_cons,List.sum_nil]
 omega
theorem qbV (c:T):size (jw c)=size c+3:=by unfold jw;rw [qqx,qj7]
theorem qfb (c:T):size (jf c)=size c+3:=by unfold jf;rw [qqx,qj7]
theorem qqD (c w:T) (h1:size c<=1000000000) (h2:size w<=1000000000):Ev (λ m _=>QW m c w) (qd1 c w):=by
 refine Ev.succ ?_
 simp only [qnN,qch,qk]
 exact Ev.bind (qhD c h1) (Ev.bind (qhD w h2) (Ev.pure _))
theorem qCf (s:List UInt8):Ev (λ m _=>qc3 m s) (qeJ s):=Ev.succ (Ev.pure _)
theorem qsL (c:T) (h:size c<=1000000000):Ev (λ m _=>JC m c) (jw c):=by
 refine Ev.succ ?_
 simp only [qtj,qd8,qk]
 exact Ev.bind (qCf _) (Ev.bind (qqD c _ h (by rw [qj7];omega)) (Ev.pure _))
theorem qwi (c:T) (h:size c<=1000000000):Ev (λ m _=>qah m c) (jf c):=by
 refine Ev.succ ?_
 simp only [qux,qeT,qk]
 exact Ev.bind (qCf _) (Ev.bind (qqD c _ h (by rw [qj7];omega)) (Ev.pure _))
def t00:T := .mk 0 [] 0 []
end Go.AmZ
namespace Go.AmZ
open Go Go.GxZ
theorem Ev.iff {α : Type} {F G:Nat->Nat->Option α} {r s : α} {b:Bool} {p:Prop} [Decidable p] (hb:b=true↔p) (h:p->Ev F r) (g:¬p->Ev G s):Ev (λ m k=>cond b (F m k) (G m k)) (if p then r else s):=by
 by_cases hp:p
 ·rw [if_pos hp];exact Ev.ct (hb.2 hp) (h hp)
 ·rw [if_neg hp];exact Ev.cf (Bool.eq_false_iff.2 λ e=>hp (hb.1 e)) (g hp)
noncomputable def zR (n:Int):Int->List (Int × T)->Int
 | _,[]=>0
 | last,s::l=>if s.1<=last then 1 else if n<=s.1 then 1 else if Qt s.2=false then 1 else zR n s.1 l
noncomputable def qbx (r:Rt):Int :=
 if Qt r.1=false then 1 else if r.2.1<0 then 1 else if 1000<r.2.1 then 1 else if r.2.2.2<0 then 1 else if 8<r.2.2.2 then 1
 else if r.2.2.2<(r.2.2.1.length:Int) then 1 else zR r.2.1 (-1) r.2.2.1
def Small (s:Nat) (r:Rt):Prop:=r.2.2.1.length<2 ^ 40/\size r.1<=s/\∀ x∈r.2.2.1,size x.2<=s
theorem qop (r:Rt) (h:Small 10000 r):Ev (λ m _=>JT m r) (qbx r):=by
 obtain ⟨c,n,l,w⟩:=r
 obtain ⟨hl,h0,h1⟩:=h
 simp only at hl h0 h1
 refine Ev.succ ?_
 simp only [qpU,qa9,qk]
 refine Ev.bind (Je c (by omega)) ?_
 unfold qbx
 refine Ev.iff bnt (λ _=>Ev.pure _) λ _=>Ev.iff zf (λ _=>Ev.pure _) λ _=>Ev.iff zf (λ _=>Ev.pure _) λ _=>Ev.iff zf (λ _=>Ev.pure _) λ _=>Ev.iff zf (λ _=>Ev.pure _) λ _=>Ev.iff zf (λ _=>Ev.pure _) λ _=>?_
 have key:=zp (P := λ i=>∀ last,Ev (λ m k=>Qf m k last l l.length i c.kind c.name c.sort c.kids n l w) (zR n last (l.drop i))) l (by omega)
  (λ hc last=>by
   refine Ev.loop ?_
   simp only [qhM,qaZ]
   rw [List.drop_length]
   exact Ev.cf hc (Ev.pure _))
  (λ i x hx hd hc hg hi hP last=>by
   refine Ev.loop ?_
   simp only [qhM,qaZ,qk]
   rw [hd]
   refine Ev.ct hc (Ev.some hg (Ev.iff qgq (λ _=>Ev.pure _) λ _=>Ev.iff qgq (λ _=>Ev.pure _) λ _=>?_))
   refine Ev.bind (Je x.2 (by have:=h1 x (List.mem_of_getElem? hx);omega)) (Ev.iff bnt (λ _=>Ev.pure _) λ _=>?_)
   rw [hi]
   exact hP x.1)
 exact Ev.diag (L := λ m k=>Qf m k (-1) l l.length 0 c.kind c.name c.sort c.kids n l w) (key 0 (Nat.zero_le _) (-1))
def qEs (r:Rt):List T:=r.1::r.2.2.1.map (·.2)
def qFA (r:Rt):Prop:=qoX r.1/\(IntKind.i64.min<=r.2.1/\r.2.1<=IntKind.i64.max)/\(r.2.2.1.length<2 ^ 62/\∀ x∈r.2.2.1,(IntKind.i64.min<=x.1/\x.1<=IntKind.i64.max)/\qoX x.2)/\(IntKind.i64.min<=r.2.2.2/\r.2.2.2<=IntKind.i64.max)
theorem qFA.fit {r:Rt} (h:qFA r):∀ x∈qEs r,qoX x := λ x hx=>by
 rcases List.mem_cons.1 hx with rfl | hx
 ·exact h.1
 ·obtain ⟨y,hy,rfl⟩:=List.mem_map.1 hx
  exact (h.2.2.1.2 y hy).2
theorem Small.mono {a b:Nat} {r:Rt} (h:Small a r) (hab:a<=b):Small b r:=⟨h.1,Nat.le_trans h.2.1 hab,λ x hx=>Nat.le_trans (h.2.2 x hx) hab⟩
end Go.AmZ
namespace Go.AmZ
open Go Go.GxZ
theorem qyr {c:T} (h:qjg c=true):qx c=0/\zo c=0/\zB c=(c,0)/\qgT pPl c=true:=by
 unfold qjg at h
 rw [Bool.and_eq_true,Bool.and_eq_true,decide_eq_true_iff] at h
 obtain ⟨h1,h2,h3⟩:=h
 rw [qfJ] at h2
 rw [qkT] at h1 h2
 by_cases a1:qkl c=0
 ·rw [if_neg (by rw [a1];decide)] at h1 h2
  by_cases a2:(zB c).2=0
  ·rw [if_neg (by rw [a2];decide)] at h1 h2
   by_cases a3:qx (zB c).1=0
   ·rw [if_neg (by rw [a3];decide)] at h1 h2
    exact ⟨(qlM a1).1,(qlM a1).2,Prod.ext h2 a2,h3⟩
   ·rw [if_pos a3] at h1;exact absurd h1 a3
  ·rw [if_pos a2] at h1;exact absurd h1 a2
 ·rw [if_pos a1] at h1;exact absurd h1 a1
theorem qtX {t k:T} (h:qx t=0) (hk:k∈t.kids):qx k=0:=by
 have hn:=qyz h
 have hk0:=(qom hn).2 k hk
 unfold qx at h |-
 rw [if_neg (by rw [hn];decide)] at h
 rw [if_neg (by rw [hk0];decide),if_neg]
 have h1:¬ (400<size t\/40<QG t) := λ h'=>by rw [if_pos h'] at h;exact absurd h (by decide)
 have h2:=Qu t k hk
 have h3:QG k<=QG t:=by
  rw [qdP t]
  have aux:∀ (l:List T),k∈l->∀ a,QG k<=(l.map QG).foldl max a:=by
   intro l
   induction l with
   | nil=>intro h;cases h
   | cons x l ih =>
     intro h a
     rw [List.map_cons,List.foldl_cons]
     rcases List.mem_cons.1 h with rfl | h
     ·exact Nat.le_trans (Nat.le_max_right _ _) (qwN _ _)
     ·exact ih h _
  have:=aux t.kids hk 0
  omega
 omega
theorem qoo {n n':Int} (h:n<=n'):∀ (l:List (Int × T)) (last:Int),zR n last l=0->zR n' last l=0
 | [],_ => λ h=>h
 | s::l,last=>by
   unfold zR
   intro h0
   split at h0
   ·cases h0
   split at h0
   ·cases h0
   split at h0
   ·cases h0
   ·rename_i a b c
    rw [if_neg a,if_neg (by omega),if_neg c]
    exact qoo h l s.1 h0
theorem qlg {r:Rt} (h:qbx r=0):Qt r.1=true/\0<=r.2.1/\r.2.1<=1000/\0<=r.2.2.2/\r.2.2.2<=8/\(r.2.2.1.length:Int)<=r.2.2.2/\zR r.2.1 (-1) r.2.2.1=0:=by
 unfold qbx at h
 iterate 6
  split at h
  ·cases h
 rename_i a b c d e f
 exact ⟨Bool.not_eq_false _▸a,by omega,by omega,by omega,by omega,by omega,h⟩
theorem qpY {r:Rt} (h:Qt r.1=true/\0<=r.2.1/\r.2.1<=1000/\0<=r.2.2.2/\r.2.2.2<=8/\(r.2.2.1.length:Int)<=r.2.2.2/\zR r.2.1 (-1) r.2.2.1=0):qbx r=0:=by
 obtain ⟨h1,h2,h3,h4,h5,h6,h7⟩:=h
 unfold qbx
 rw [if_neg (by rw [h1];decide),if_neg (by omega),if_neg (by omega),if_neg (by omega),if_neg (by omega),if_neg (by omega)]
 exact h7
theorem qBr (r:Rt) (h:Small 1000000000 r):Ev (λ m _=>qbz m r) ((),(r.1,r.2.1,r.2.2.1,r.2.2.2,()),()):=by
 obtain ⟨c,n,l,w⟩:=r
 obtain ⟨hl,h0,h1⟩:=h
 simp only at hl h0 h1
 refine Ev.succ ?_
 simp only [quP,qcL,qk]
 refine Ev.bind (qhD c h0) ?_
 have key:=zp (P := λ i=>∀ o,o.length<=i->Ev (λ m k=>Q3 m k l l.length i c.kind c.name c.sort c.kids n l w 0 [] 0 0 0 [] [] o) ((),(c,n,o++l.drop i,w,()),())) l (by omega)
  (λ hc o ho=>by
   refine Ev.loop ?_
   simp only [qi9,qcT,qpW]
   rw [List.drop_length,List.append_nil]
   exact Ev.cf hc (Ev.pure _))
  (λ i x hx hd hc hg hi hP o ho=>by
   refine Ev.loop ?_
   simp only [qi9,qcT,qk]
   have hb:=getElem?_lt hx
   refine Ev.ct hc (Ev.some hg (Ev.bind (qhD x.2 (h1 x (List.mem_of_getElem? hx))) (Ev.ct (jW (by omega) (by omega)) ?_)))
   have hP':=hP (o++[x]) (by rw [List.length_append,List.length_singleton];omega)
   rw [List.append_assoc,List.singleton_append] at hP'
   rw [hi,hd]
   exact hP')
 exact Ev.diag (L := λ m k=>Q3 m k l l.length 0 c.kind c.name c.sort c.kids n l w 0 [] 0 0 0 [] [] []) (key 0 (Nat.zero_le _) [] (by simp))
def r00:Rt:=(t00,(0,([],0)))
def qoC (m k:T):T := .mk 3 qe4 0 [m,k]
theorem qvE (m k:T):size (qoC m k)=size m+size k+1:=by
 unfold qoC
 rw [zc]
 show 1+([m,k].map size).sum=_
 simp only [List.map_cons,List.map_nil,List.sum_cons,List.sum_nil]
 omega
noncomputable def qvr (r:Rt) (m:T):Rt × ((Int × T) × Int) :=
 if qbx r≠0 then (r00,((0,t00),1)) else if Qt m=false then (r00,((0,t00),10)) else if r.2.1=1000 then (r00,((0,t00),7))
 else if qx (jw r.1)≠0 then (r00,((0,t00),3)) else if qx (qoC m (jf r.1))≠0 then (r00,((0,t00),3))
 else ((jw r.1,(r.2.1+1,(r.2.2.1,r.2.2.2))),((r.2.1,qoC m (jf r.1)),0))
theorem qgt {a b:Int}:qd (ieq a b)=true↔a≠b:=by rw [bnt,qr]
end Go.AmZ
namespace Go.AmZ
open Go Go.GxZ Go.Proofs.YtbpnmbmdbblehaaGreat
noncomputable def qgb (b k:T):T × Bool:=if isN b qe4&&qbR (kid b 1) k then (kid b 0,true) else (t00,false)
def qfX (w:Int) (l:List (Int × T)) (s:Int × T):List (Int × T):=if w<((l++[s]).length:Int) then (l++[s]).drop 1 else l++[s]
abbrev Rr:=Rt × (T × Int)
def bad (e:Int):Rr:=(r00,(t00,e))
noncomputable def qds (w:Int) (b:T):Nat->T->Int->List (Int × T)->Rr
 | 0,c,n,l=>if qx (jf c)≠0 then bad 3 else if qx (jw c)≠0 then bad 3 else if (qgb b (jf c)).2=false then bad 11 else ((jw c,(n+1,(l,w))),((qgb b (jf c)).1,0))
 | d+1,c,n,l=>qds w b d (jw c) (n+1) (qfX w l (n,jf c))
def qbl (l:List (Int × T)) (bn:Int):Int:=qdA (qbo l bn) l.length 0
noncomputable def qei (r:Rt) (bn:Int) (b:T):Rr :=
 if qbx r≠0 then bad 1 else if Qt b=false then bad 10
 else if bn<r.2.1 then
  (if qbl r.2.2.1 bn<0 then bad 21 else if (qgb b (r.2.2.1.getD (qbl r.2.2.1 bn).toNat (0,t00)).2).2=false then bad 11
   else ((r.1,(r.2.1,(r.2.2.1.take (qbl r.2.2.1 bn).toNat++r.2.2.1.drop ((qbl r.2.2.1 bn).toNat+1),r.2.2.2))),((qgb b (r.2.2.1.getD (qbl r.2.2.1 bn).toNat (0,t00)).2).1,0)))
 else if r.2.1+r.2.2.2<bn then bad 7 else if 1000<=bn then bad 7 else qds r.2.2.2 b (bn-r.2.1).toNat r.1 r.2.1 r.2.2.1
theorem qt3 {s:List UInt8} (hn:Jv s=true):zV (qeJ s)=0:=by
 rw [qfr]
 show qfd 2 5 0 (Jv s)=0
 rw [hn];rfl
theorem qq7 (c w:T):zV (qd1 c w)=thn (zV c) (zV w):=by
 have hp:zV (T.mk 3 nPa 0 [c,w])=thn (zV c) (zV w):=by
  rw [qfr]
  show ([c,w].map zV).foldl thn (qfd 3 0 2 (Jv nPa))=_
  rw [show qfd 3 0 2 (Jv nPa)=0 by decide]
  show thn (thn 0 (zV c)) (zV w)=_
  rw [show thn 0 (zV c)=zV c from rfl]
 unfold qd1
 rw [qfr]
 show ([T.mk 3 nPa 0 [c,w]].map zV).foldl thn (qfd 3 0 1 (Jv nHa))=_
 rw [show qfd 3 0 1 (Jv nHa)=0 by decide]
 show thn 0 (zV (T.mk 3 nPa 0 [c,w]))=_
 rw [hp];rfl
theorem qv2 (c:T) (s:List UInt8):QG (qd1 c (qeJ s))=max (QG c) 1+2:=by
 have ht:QG (qeJ s)=1:=by rw [qdP];rfl
 have hp:QG (T.mk 3 nPa 0 [c,qeJ s])=max (QG c) 1+1:=by
  rw [qdP]
  show ([c,qeJ s].map QG).foldl max 0+1=_
  simp only [List.map_cons,List.map_nil,List.foldl_cons,List.foldl_nil,ht]
  omega
 unfold qd1
 rw [qdP]
 show ([T.mk 3 nPa 0 [c,qeJ s]].map QG).foldl max 0+1=_
 simp only [List.map_cons,List.map_nil,List.foldl_cons,List.foldl_nil,hp]
 omega
theorem qcN (c:T):qx (jf c)=qx (jw c):=by
 have h1:zV (jf c)=zV (jw c):=by
  show zV (qd1 c (qeJ nMs))=zV (qd1 c (qeJ nCh))
  rw [qq7,qq7,qt3 (by decide),qt3 (by decide)]
 have h2:QG (jf c)=QG (jw c):=(qv2 c nMs).trans (qv2 c nCh).symm
 have h3:size (jf c)=size (jw c):=(qfb c).trans (qbV c).symm
 unfold qx
 rw [h1,h2,h3]
theorem qEH {c:T} (h:qx (jw c)≠0):qx (jw (jw c))≠0 := λ h0=>by
 have h1:qx (T.mk 3 nPa 0 [jw c,qeJ nCh])=0:=qtX h0 (List.mem_singleton.2 rfl)
 exact h (qtX h1 (List.mem_cons_self ..))
theorem qts {w:Int} {b:T}:∀ (d:Nat) {c:T} {n:Int} {l:List (Int × T)},qx (jw c)≠0->qds w b d c n l=bad 3
 | 0,c,n,l,h=>by rw [qds,if_pos (by rw [qcN];exact h)]
 | d+1,c,n,l,h=>by rw [qds];exact qts d (qEH h)
theorem yK {n last:Int} {s:Int × T} {l:List (Int × T)}:zR n last (s::l)=0↔last<s.1/\s.1<n/\Qt s.2=true/\zR n s.1 l=0:=by
 rw [zR]
 by_cases h1:s.1<=last
 ·rw [if_pos h1];exact ⟨λ h=>(by cases h),λ h=>by omega⟩
 rw [if_neg h1]
 by_cases h2:n<=s.1
 ·rw [if_pos h2];exact ⟨λ h=>(by cases h),λ h=>by omega⟩
 rw [if_neg h2]
 by_cases h3:Qt s.2=false
 ·rw [if_pos h3];exact ⟨λ h=>(by cases h),λ h=>by rw [h3] at h;exact absurd h.2.2.1 (by decide)⟩
 rw [if_neg h3]
 exact ⟨λ h=>⟨by omega,by omega,Bool.not_eq_false _▸h3,h⟩,λ h=>h.2.2.2⟩
theorem qrS {n a b:Int} (hab:a<=b) {l:List (Int × T)} (h:zR n b l=0):zR n a l=0:=by
 cases l with
 | nil=>rfl
 | cons s l=>rw [yK] at h |-;exact ⟨by omega,h.2⟩
theorem qrW {n:Int}:∀ (l:List (Int × T)) (last:Int) (i:Nat),zR n last l=0->zR n last (l.take i++l.drop (i+1))=0
 | [],last,i,_=>by simp [zR]
 | s::l,last,0,h=>by
   rw [yK] at h
   exact qrS (by omega) h.2.2.2
 | s::l,last,i+1,h=>by
   rw [yK] at h
   show zR n last (s::(l.take i++l.drop (i+1)))=0
   rw [yK]
   exact ⟨h.1,h.2.1,h.2.2.1,qrW l s.1 i h.2.2.2⟩
theorem qrO {n:Int} {k:T} (hk:Qt k=true):∀ (l:List (Int × T)) (last:Int),last<n->zR n last l=0->zR (n+1) last (l++[(n,k)])=0
 | [],last,hl,_=>by
   show zR (n+1) last ((n,k)::[])=0
   rw [yK]
   exact ⟨hl,by show n<n+1;omega,hk,rfl⟩
 | s::l,last,hl,h=>by
   rw [yK] at h
   show zR (n+1) last (s::(l++[(n,k)]))=0
   rw [yK]
   exact ⟨h.1,by omega,h.2.2.1,qrO hk l s.1 h.2.1 h.2.2.2⟩
theorem qyk {n last:Int} {l:List (Int × T)} (h:zR n last l=0):zR n last (l.drop 1)=0:=by
 cases l with
 | nil=>rfl
 | cons s l=>rw [yK] at h;exact qrS (by omega) h.2.2.2
theorem qAV {n w:Int} {k:T} (hk:Qt k=true) {l:List (Int × T)} (hn:0<=n) (h:zR n (-1) l=0):zR (n+1) (-1) (qfX w l (n,k))=0:=by
 have:=qrO hk l (-1) (by omega) h
 unfold qfX
 split
 ·exact qyk this
 ·exact this
theorem qEU {w:Int} {s:Int × T} {l:List (Int × T)} (h:(l.length:Int)<=w):((qfX w l s).length:Int)<=w:=by
 unfold qfX
 split
 ·rw [List.length_drop,List.length_append,List.length_singleton];omega
 ·omega
theorem qEk {w:Int} {s:Int × T} {l:List (Int × T)}:∀ x∈qfX w l s,x∈l\/x=s := λ x hx=>by
 have:x∈l++[s]:=by
  unfold qfX at hx
  split at hx
  ·exact List.mem_of_mem_drop hx
  ·exact hx
 rcases List.mem_append.1 this with h | h
 ·exact .inl h
 ·exact .inr (List.mem_singleton.1 h)
theorem qm2 (ef:Nat->Bool):∀ (n i:Nat),(qdA ef n i=-1/\∀ j,j<n->ef (i+j)=false)\/∃ j,j<n/\qdA ef n i=((i+j:Nat):Int)/\ef (i+j)=true
 | 0,i => .inl ⟨rfl,λ j hj=>absurd hj (Nat.not_lt_zero _)⟩
 | n+1,i=>by
   rw [qdA]
   cases he:ef i with
   | true=>exact .inr ⟨0,by omega,rfl,he⟩
   | false =>
     rcases qm2 ef n (i+1) with ⟨h1,h2⟩ | ⟨j,h1,h2,h3⟩
     ·refine .inl ⟨h1,λ j hj=>?_⟩
      cases j with
      | zero=>exact he
      | succ j=>rw [show i+(j+1)=i+1+j by omega];exact h2 j (by omega)
     ·exact .inr ⟨j+1,by omega,by rw [show i+(j+1)=i+1+j by omega];exact h2,by rw [show i+(j+1)=i+1+j by omega];exact h3⟩
theorem qyd (l:List (Int × T)) (bn:Int):qbl l bn=-1\/∃ j x,l[j]? = some x/\qbl l bn=((j:Nat):Int):=by
 rcases qm2 (qbo l bn) l.length 0 with ⟨h,_⟩ | ⟨j,h1,h2,h3⟩
 ·exact .inl h
 ·exact .inr ⟨j,l[j],List.getElem?_eq_getElem h1,by show qdA _ _ _=_;rw [h2,Nat.zero_add]⟩
end Go.AmZ
namespace Go.AmZ
open Go Go.GxZ Go.Proofs.YtbpnmbmdbblehaaGreat
theorem qFm {b:T} (hb:zo b=0) (hi:isN b qe4=true):∃ x y,b.kids=[x,y]:=by
 obtain ⟨a1,a2,_⟩:=qpP hb hi (show yF qe4=(2,2,1) by decide)
 cases hk:b.kids with
 | nil=>rw [hk] at a1;exact absurd a1 (by decide)
 | cons x l=>cases l with
   | nil=>rw [hk] at a1;exact absurd a1 (by show ¬ ((2:Int)<=((1:Nat):Int));decide)
   | cons y l=>cases l with
     | nil=>exact ⟨x,y,rfl⟩
     | cons z l =>
       rw [hk] at a2
       simp only [List.length_cons] at a2
       omega
theorem qyV {b:T}:isN b qe4=true↔b.kind=3/\b.name=qe4:=by
 unfold isN
 rw [Bool.and_eq_true,beq_iff_eq,beq_iff_eq]
theorem qxX (b k:T) (hb:zo b=0) (h1:size b<=100000) (h2:size k<=100000):Ev (λ m _=>Jp m b k) (qgb b k):=by
 refine Ev.succ ?_
 simp only [qpJ,qcU,qk]
 unfold qgb
 by_cases hi:isN b qe4=true
 ·obtain ⟨h3,hn⟩:=qyV.1 hi
  obtain ⟨x,y,hk⟩:=qFm hb hi
  have hx:=Qu b x (by rw [hk];exact List.mem_cons_self ..)
  have hy:=Qu b y (by rw [hk];exact List.mem_cons_of_mem _ (List.mem_cons_self ..))
  have e0:kid b 0=x:=by unfold kid;rw [hk];rfl
  have e1:kid b 1=y:=by unfold kid;rw [hk];rfl
  rw [hi,Bool.true_and,e0,e1]
  refine Ev.cf (bnf.2 (qs.2 h3)) (Ev.cf (bnf.2 (Ji.2 hn)) (Ev.some (a:=y) (by rw [hk];rfl) (Ev.bind (qao y (by omega) k (by omega)) ?_)))
  by_cases he:y=k
  ·rw [if_pos (qfJ.2 he)]
   refine Ev.cf (bnf.2 (qs.2 (by rw [he];exact qna k))) (Ev.some (a:=x) (by rw [hk];rfl) (Ev.bind (qhD x (by omega)) (Ev.pure _)))
  ·rw [if_neg λ h=>he (qfJ.1 h)]
   exact Ev.ct (qgt.2 λ h=>he (qaT _ _ h)) (Ev.pure _)
 ·rw [Bool.not_eq_true] at hi
  rw [hi,Bool.false_and,if_neg (by decide)]
  by_cases h3:b.kind=3
  ·refine Ev.cf (bnf.2 (qs.2 h3)) (Ev.ct (bnt.2 (JG.2 λ hn=>?_)) (Ev.pure _))
   rw [qyV.2 ⟨h3,hn⟩] at hi;cases hi
  ·exact Ev.ct (qgt.2 h3) (Ev.pure _)
theorem qCR {l:List (Int × T)} {bn:Int} {i:Nat} {x:Int × T} (h:l[i]? = some x):qbo l bn i=(x.1==bn):=by
 unfold qbo
 have h':(l:List (Val zI))[i]? = some x:=h
 rw [h']
theorem qyx {l:List (Int × T)} (h:l.length<=100000) (bn:Int) (b:T):zb 0 l (bn,b)=some (qbl l bn):=by
 unfold zb
 rw [Nat.ble_eq_true_of_le h]
 rfl
theorem qya {l:List (Int × T)} (h:l.length<=100000) {j:Nat} (hj:j<l.length):zq 0 l (j:Int) (iw .i64 (qf (j:Int) 1))=some ((),l.take j++l.drop (j+1),()):=by
 have e:iw .i64 (qf (j:Int) 1)=((j+1:Nat):Int):=by
  rw [jV (by unfold qf;omega)];unfold qf;omega
 rw [e]
 unfold zq
 have e1:inb ((j+1:Nat):Int) l.length=true:=by unfold inb;exact decide_eq_true (by omega)
 have e2:inb (j:Int) l.length=true:=by unfold inb;exact decide_eq_true (by omega)
 have e3:ieq ((j+1:Nat):Int) (qf (j:Int) 1)=true:=qs.2 (by unfold qf;omega)
 rw [e1,e2,e3,Nat.ble_eq_true_of_le h,Int.toNat_natCast]
 rfl
end Go.AmZ
namespace Go.AmZ
open Go Go.GxZ Go.Proofs.YtbpnmbmdbblehaaGreat
theorem qBJ (l:List (Int × T)) (s:Int × T):inb 1 (l++[s]).length=true:=by
 unfold inb
 rw [List.length_append,List.length_singleton]
 exact decide_eq_true (by omega)
theorem qAj {l:List (Int × T)} (h:l.length<2 ^ 40):zJ (l.length+1) 64=true:=jW (by omega) (by omega)
theorem qAz (w:Int) (b:T) (bn:Int) (hb:zo b=0) (hbs:size b<=10000) (hbn:bn<=2000):∀ (d:Nat) (c:T) (n:Int) (l:List (Int × T)),bn=n+d->0<=n->size c+3*(d+1)<=50000->l.length+d<2 ^ 40 ->
  Ev (λ m k=>ji m k bn b.kind b.name b.sort b.kids 0 [] 0 0 0 0 [] 0 c.kind c.name c.sort c.kids n w [] [] [] l) (qds w b d c n l):=by
 intro d
 induction d with
 | zero =>
   intro c n l he hn hc hl
   refine Ev.loop ?_
   simp only [qfy,J3,qpW,qk]
   have e:iw .i64 (qf n 1)=n+1:=by rw [jV (by unfold qf;omega)];rfl
   refine Ev.bind (qwi c (by omega)) (Ev.bind (qsL c (by omega)) (Ev.bind (ja _ (by rw [qfb];omega)) ?_))
   rw [qds]
   refine Ev.iff qgt (λ _=>Ev.pure _) λ _=>Ev.bind (ja _ (by rw [qbV];omega)) (Ev.iff qgt (λ _=>Ev.pure _) λ _=>Ev.ct (qs.2 (by omega)) (Ev.bind (qxX b (jf c) hb (by omega) (by rw [qfb];omega)) ?_))
   refine Ev.iff bnt (λ _=>Ev.pure _) λ _=>?_
   rw [e]
   exact Ev.pure _
 | succ d ih =>
   intro c n l he hn hc hl
   refine Ev.loop ?_
   simp only [qfy,J3,qpW,qk]
   have e:iw .i64 (qf n 1)=n+1:=by rw [jV (by unfold qf;omega)];rfl
   refine Ev.bind (qwi c (by omega)) (Ev.bind (qsL c (by omega)) (Ev.bind (ja _ (by rw [qfb];omega)) ?_))
   by_cases hv:qx (jw c)=0
   ·have hk:qx (jf c)=0:=by rw [qcN];exact hv
    refine Ev.cf (bnf.2 (qs.2 hk)) (Ev.bind (ja _ (by rw [qbV];omega)) (Ev.cf (bnf.2 (qs.2 hv)) (Ev.cf (qr.2 (by omega)) (Ev.ct (qAj (by omega)) ?_))))
    rw [qds,e]
    have ha:(qfX w l (n,jf c)).length<=l.length+1:=by
     unfold qfX
     split
     ·rw [List.length_drop,List.length_append,List.length_singleton];omega
     ·rw [List.length_append,List.length_singleton];omega
    have key:=ih (jw c) (n+1) (qfX w l (n,jf c)) (by omega) (by omega) (by rw [qbV];omega) (by omega)
    unfold qfX at key |-
    by_cases h:w<((l++[(n,jf c)]).length:Int)
    ·rw [if_pos h] at key |-
     exact Ev.ct (zf.2 h) (Ev.ct (qBJ _ _) key)
    ·rw [if_neg h] at key |-
     exact Ev.cf (zA.2 (by omega)) key
   ·rw [qts _ hv]
    exact Ev.ct (qgt.2 (by rw [qcN];exact hv)) (Ev.pure _)
theorem qBM {b:T} (h:Qt b=true):zo b=0:=by
 unfold Qt at h
 rw [Bool.and_eq_true] at h
 exact (qyr h.1).2.1
theorem qEW (r:Rt) (bn:Int) (b:T) (h:Small 10000 r) (hbs:size b<=10000):Ev (λ m _=>jn m r (bn,b)) (qei r bn b):=by
 obtain ⟨c,n,l,w⟩:=r
 have h0:=h.2.1
 have h1:=h.2.2
 simp only at h0 h1
 refine Ev.succ ?_
 simp only [qnU,J4,qk]
 unfold qei
 refine Ev.bind (qop _ h) (Ev.iff qgt (λ _=>Ev.pure _) λ hv=>Ev.bind (Je b (by omega)) (Ev.iff bnt (λ _=>Ev.pure _) λ hb=>Ev.bind (qBr _ (h.mono (by omega))) ?_))
 obtain ⟨f1,f2,f3,f4,f5,f6,f7⟩:=qlg (Decidable.not_not.1 hv)
 simp only at f1 f2 f3 f4 f5 f6 f7
 have hck:=qBM (Bool.not_eq_false _▸hb)
 refine Ev.iff zf (λ hlt=>?_) λ hge=>?_
 ·refine Ev.some (qyx (l:=l) (by omega) bn b) (Ev.iff zf (λ _=>Ev.pure _) λ hs=>?_)
  rcases qyd l bn with hm | ⟨j,x,hx,hj⟩
  ·rw [hm] at hs;exact absurd (by decide) hs
  have hjl:=getElem?_lt hx
  have hxs:=h1 x (List.mem_of_getElem? hx)
  simp only [hj,Int.toNat_natCast,List.getD_eq_getElem?_getD,hx,Option.getD_some]
  refine Ev.some (a:=x) (by rw [yY];exact hx) (Ev.bind (qxX b x.2 hck (by omega) (by omega)) (Ev.iff bnt (λ _=>Ev.pure _) λ _=>Ev.some (qya (by omega) hjl) (Ev.pure _)))
 ·have e2:iw .i64 (qf n w)=n+w:=by rw [jV (by unfold qf;omega)];rfl
  rw [e2]
  refine Ev.iff zf (λ _=>Ev.pure _) λ hw=>Ev.iff qgq (λ _=>Ev.pure _) λ hk=>?_
  simp only at hge hw hk
  exact Ev.diag (L := λ m k=>ji m k bn b.kind b.name b.sort b.kids 0 [] 0 0 0 0 [] 0 c.kind c.name c.sort c.kids n w [] [] [] l) (qAz w b bn hck (by omega) (by omega) (bn-n).toNat c n l (by omega) f2 (by omega) (by omega))
end Go.AmZ
namespace Go.AmZ
open Go Go.GxZ
theorem qFn (r:Rt) (m:T) (h:Small 10000 r) (hm:size m<=10000):Ev (λ n _=>qcu n r m) (qvr r m):=by
 obtain ⟨c,n,l,w⟩:=r
 have h0:=h.2.1
 simp only at h0
 refine Ev.succ ?_
 simp only [qsO,qdY,qk]
 unfold qvr
 refine Ev.bind (qop _ h) (Ev.iff qgt (λ _=>Ev.pure _) λ hv=>Ev.bind (Je m (by omega)) (Ev.iff bnt (λ _=>Ev.pure _) λ _=>Ev.iff qs (λ _=>Ev.pure _) λ _=>?_))
 have hf:=qlg (Decidable.not_not.1 hv)
 simp only at hf
 refine Ev.bind (qBr _ (h.mono (by omega))) (Ev.bind (qhD m (by omega)) (Ev.bind (qwi c (by omega)) (Ev.bind (qsL c (by omega)) ?_)))
 refine Ev.bind (ja _ (by rw [qbV];omega)) (Ev.iff qgt (λ _=>Ev.pure _) λ _=>Ev.bind (ja (qoC m (jf c)) (by rw [qvE,qfb];omega)) (Ev.iff qgt (λ _=>Ev.pure _) λ _=>Ev.ret ?_))
 have e:iw .i64 (qf n 1)=n+1:=by rw [jV (by unfold qf;omega)];rfl
 show (((jw c,(iw .i64 (qf n 1),(l,w))),((n,qoC m (jf c)),0)):Rt × ((Int × T) × Int))=_
 rw [e]
end Go.AmZ
namespace Go.AmZ
open Go Go.GxZ
def chT:Nat->T
 | 0 => .mk 2 [114] 2 []
 | i+1=>jw (chT i)
def qcj (i:Nat):T:=jf (chT i)
def sdT (i:Nat):T := .mk 2 (([[112],[113],[111]]:List (List UInt8)).getD (i % 3) []) 4 []
def jR (i:Nat):T:=qoC (sdT i) (qcj i)
theorem Ev.val {α : Type} {F:Nat->Nat->Option α} {r s : α} (h:Ev F r) (g:∀ n,F (n+3000) (n+3000)=Option.some s):r=s:=by
 obtain ⟨B,h⟩:=h
 have:=h (B+3000) (B+3000) (by omega) (by omega)
 rw [g B] at this
 cases this;rfl
def isT (x:Option Bool):Bool:=match x with
 | some true=>true
 | _=>false
def isZ (x:Option Int):Bool:=match x with
 | some n=>ieq n 0
 | none=>false
theorem qpV {x:Option Bool} (h:isT x=true):x=some true:=by
 unfold isT at h
 split at h
 ·rfl
 ·cases h
theorem qCT {x:Option Int} (h:isZ x=true):x=some 0:=by
 unfold isZ at h
 split at h
 ·rw [qs] at h;rw [h]
 ·cases h
theorem qG8 (n:Nat):((List.range 10).all λ i=>isT (za (n+3000) (chT i))&&(isT (za (n+3000) (qcj i))&&isZ (qH (n+3000) (jw (chT i)))))=true:=by kernel_rfl
theorem qH8 (n:Nat):((List.range 8).all λ i=>isT (za (n+3000) (sdT i))&&(isT (za (n+3000) (jR i))&&isZ (qH (n+3000) (jR i))))=true:=by kernel_rfl
theorem qeC:∀ i,size (chT i)=3*i+1
 | 0=>by rw [chT,zc];rfl
 | i+1=>by rw [chT,qbV,qeC i];omega
theorem qs6 (i:Nat):size (sdT i)=1:=by rw [sdT,zc];rfl
theorem qmH (i:Nat):size (qcj i)=3*i+4:=by rw [qcj,qfb,qeC]
theorem qtz (i:Nat):size (jR i)=3*i+6:=by rw [jR,qvE,qs6,qmH];omega
theorem qg4 {i:Nat} (hi:i<10):Qt (chT i)=true/\Qt (qcj i)=true/\qx (jw (chT i))=0:=by
 have s1:=qeC i
 have s2:=qmH i
 have key:∀ n,isT (za (n+3000) (chT i))=true/\isT (za (n+3000) (qcj i))=true/\isZ (qH (n+3000) (jw (chT i)))=true := λ n=>by
  have:=List.all_eq_true.1 (qG8 n) i (List.mem_range.2 hi)
  simpa [Bool.and_eq_true] using this
 exact ⟨Ev.val (Je (chT i) (by omega)) λ n=>qpV (key n).1,Ev.val (Je (qcj i) (by omega)) λ n=>qpV (key n).2.1,Ev.val (ja (jw (chT i)) (by rw [qbV];omega)) λ n=>qCT (key n).2.2⟩
theorem qoA {i:Nat} (hi:i<8):Qt (sdT i)=true/\Qt (jR i)=true/\qx (jR i)=0:=by
 have s1:=qs6 i
 have s2:=qtz i
 have key:∀ n,isT (za (n+3000) (sdT i))=true/\isT (za (n+3000) (jR i))=true/\isZ (qH (n+3000) (jR i))=true := λ n=>by
  have:=List.all_eq_true.1 (qH8 n) i (List.mem_range.2 hi)
  simpa [Bool.and_eq_true] using this
 exact ⟨Ev.val (Je (sdT i) (by omega)) λ n=>qpV (key n).1,Ev.val (Je (jR i) (by omega)) λ n=>qpV (key n).2.1,Ev.val (ja (jR i) (by omega)) λ n=>qCT (key n).2.2⟩
theorem qvU (i:Nat):qgb (jR i) (qcj i)=(sdT i,true):=by
 unfold qgb
 have h1:isN (jR i) qe4=true:=rfl
 have h2:kid (jR i) 1=qcj i:=rfl
 have h3:kid (jR i) 0=sdT i:=rfl
 rw [h1,h2,h3,qfJ.2 rfl];rfl
structure Gi (nx:Nat) (l:List (Int × T)) (G:List Bool):Prop where
 le:nx<=8
 len:(l.length:Int)<=4
 asc:zR (nx:Int) (-1) l=0
 slot:∀ s∈l,∃ i:Nat,s=((i:Int),qcj i)/\i<nx/\G.getD i false=false
 got:∀ i,i<8->G.getD i false=true->i<nx
 gl8:G.length=8
def rvT (nx:Nat) (l:List (Int × T)):Rt:=(chT nx,((nx:Int),(l,4)))
theorem Gi.valid {nx:Nat} {l:List (Int × T)} {G:List Bool} (h:Gi nx l G):qbx (rvT nx l)=0 :=
 qpY ⟨(qg4 (by have:=h.le;omega)).1,by show (0:Int)<=nx;omega,by show (nx:Int)<=1000;have:=h.le;omega,by show (0:Int)<=4;omega,by show (4:Int)<=8;omega,h.len,h.asc⟩
theorem Gi.small {nx:Nat} {l:List (Int × T)} {G:List Bool} (h:Gi nx l G):Small 10000 (rvT nx l) :=
 ⟨by show l.length<_;have:=h.len;omega,by show size (chT nx)<=_;rw [qeC];have:=h.le;omega,λ s hs=>by
  obtain ⟨i,rfl,hi,_⟩:=h.slot s hs
  show size (qcj i)<=_
  rw [qmH];have:=h.le;omega⟩
theorem qxm {n:Int}:∀ (l:List (Int × T)) (last:Int),zR n last l=0->∀ (j:Nat) (s:Int × T),l[j]? = some s->last<s.1
 | [],_,_,j,s,h=>by cases h
 | x::l,last,h,0,s,hs=>by cases hs;exact (yK.1 h).1
 | x::l,last,h,j+1,s,hs=>by
   obtain ⟨h1,_,_,h4⟩:=yK.1 h
   have:=qxm l x.1 h4 j s hs
   omega
theorem qCm {n:Int}:∀ (l:List (Int × T)) (last:Int),zR n last l=0->∀ (i j:Nat) (s t:Int × T),l[i]? = some s->l[j]? = some t->s.1=t.1->i=j
 | [],_,_,i,j,s,t,h,_,_=>by cases h
 | x::l,last,h,0,0,s,t,_,_,_=>rfl
 | x::l,last,h,0,j+1,s,t,h1,h2,he=>by
   obtain ⟨_,_,_,h4⟩:=yK.1 h
   cases h1
   have:=qxm l x.1 h4 j t h2
   omega
 | x::l,last,h,i+1,0,s,t,h1,h2,he=>by
   obtain ⟨_,_,_,h4⟩:=yK.1 h
   cases h2
   have:=qxm l x.1 h4 i s h1
   omega
 | x::l,last,h,i+1,j+1,s,t,h1,h2,he=>by
   obtain ⟨_,_,_,h4⟩:=yK.1 h
   rw [qCm l x.1 h4 i j s t h1 h2 he]
theorem qjH {G:List Bool} {n i:Nat} (hn:n<G.length):(G.set n true).getD i false=if i=n then true else G.getD i false:=by
 rw [List.getD_eq_getElem?_getD,List.getElem?_set]
 by_cases h:n=i
 ·subst h
  rw [if_pos rfl,if_pos hn,if_pos rfl];rfl
 ·rw [if_neg h,if_neg (Ne.symm h),List.getD_eq_getElem?_getD]
theorem qBK {nx:Nat} {l:List (Int × T)} {G:List Bool} (h:Gi nx l G) {n:Nat} (hn:n<nx) :
  (qei (rvT nx l) n (jR n)).2.2=21\/∃ l',qei (rvT nx l) n (jR n)=(rvT nx l',(sdT n,0))/\G.getD n false=false/\Gi nx l' (G.set n true):=by
 have h8:=h.le
 unfold qei
 rw [if_neg (λ hh=>hh h.valid),if_neg (by rw [(qoA (by omega)).2.1];decide),if_pos (show (n:Int)<(rvT nx l).2.1 by show (n:Int)<nx;omega)]
 show (if qbl l n<0 then bad 21 else _).2.2=21\/_
 rcases qm2 (qbo l n) l.length 0 with ⟨g,_⟩ | ⟨j,g1,g2,g3⟩
 ·left
  have g:qbl l n=-1:=g
  rw [if_pos (by rw [g];decide)];rfl
 ·right
  rw [Nat.zero_add] at g2 g3
  have g2:qbl l n=(j:Int):=g2
  have hx:=List.getElem?_eq_getElem g1
  rw [qCR hx] at g3
  have hxn:l[j].1=(n:Int):=beq_iff_eq.1 g3
  obtain ⟨i,hi,hi2,hi3⟩:=h.slot _ (List.getElem_mem g1)
  have hin:i=n:=by rw [hi] at hxn;have:(i:Int)=n:=hxn;omega
  subst hin
  refine ⟨l.take j++l.drop (j+1),?_,hi3,⟨h8,?_,qrW l _ j h.asc,λ s hs=>?_,λ q hq hg=>?_,by rw [List.length_set];exact h.gl8⟩⟩
  ·have g2':qbl (rvT nx l).2.2.1 (i:Int)=(j:Int):=g2
   rw [g2',if_neg (by omega)]
   have e:(rvT nx l).2.2.1.getD (((j:Nat):Int)).toNat (0,t00)=((i:Int),qcj i):=by
    show l.getD _ _=_
    rw [Int.toNat_natCast,List.getD_eq_getElem?_getD,hx,hi];rfl
   rw [e]
   show (if (qgb (jR i) (qcj i)).2=false then _ else _)=_
   rw [qvU,if_neg (by intro hh;cases hh),Int.toNat_natCast];rfl
  ·rw [List.length_append,List.length_take,List.length_drop];have:=h.len;omega
  ·have hm:∃ q,q≠j/\l[q]? = some s:=by
     rcases List.mem_append.1 hs with hs | hs
     ·obtain ⟨q,hq⟩:=List.getElem?_of_mem hs
      rw [List.getElem?_take] at hq
      split at hq
      ·exact ⟨q,by omega,hq⟩
      ·cases hq
     ·obtain ⟨q,hq⟩:=List.getElem?_of_mem hs
      rw [List.getElem?_drop] at hq
      exact ⟨j+1+q,by omega,hq⟩
   obtain ⟨q,hqj,hq⟩:=hm
   obtain ⟨p,hp,hp2,hp3⟩:=h.slot s (List.mem_of_getElem? hq)
   refine ⟨p,hp,hp2,?_⟩
   have hpi:p≠i := λ he=>hqj (qCm l _ h.asc q j s _ hq hx (by rw [hp,hi,he]))
   rw [qjH (by rw [h.gl8];omega),if_neg hpi];exact hp3
  ·rw [qjH (by rw [h.gl8];omega)] at hg
   by_cases hqi:q=i
   ·omega
   ·rw [if_neg hqi] at hg;exact h.got q hq hg
theorem qtI {n:Nat} (hn:n<8) {G:List Bool}:∀ (d k:Nat) (l:List (Int × T)),k+d=n->(l.length:Int)<=4->zR (k:Int) (-1) l=0->(∀ s∈l,∃ i:Nat,s=((i:Int),qcj i)/\i<k/\G.getD i false=false)->(∀ i,k<=i->i<8->G.getD i false=false) ->
  ∃ l',qds 4 (jR n) d (chT k) k l=(rvT (n+1) l',(sdT n,0))/\(l'.length:Int)<=4/\zR (n:Int) (-1) l'=0/\∀ s∈l',∃ i:Nat,s=((i:Int),qcj i)/\i<n/\G.getD i false=false
 | 0,k,l,hk,h1,h2,h3,_=>by
   obtain rfl:k=n:=by omega
   refine ⟨l,?_,h1,h2,h3⟩
   have hv:=(qg4 (i:=k) (by omega)).2.2
   rw [qds,if_neg (by rw [qcN];exact λ hh=>hh hv),if_neg (λ hh=>hh hv)]
   rw [show jf (chT k)=qcj k from rfl,qvU,if_neg (by intro hh;cases hh)];rfl
 | d+1,k,l,hk,h1,h2,h3,h4=>by
   rw [qds]
   have:=qtI hn (G:=G) d (k+1) (qfX 4 l ((k:Int),qcj k)) (by omega) (qEU h1) (qAV (qg4 (i:=k) (by omega)).2.1 (by omega) h2) (λ s hs=>by
    rcases qEk s hs with hs | rfl
    ·obtain ⟨i,g1,g2,g3⟩:=h3 s hs
     exact ⟨i,g1,by omega,g3⟩
    ·exact ⟨k,rfl,by omega,h4 k (Nat.le_refl _) (by omega)⟩) λ i hi hi8=>h4 i (by omega) hi8
   exact this
theorem qBz {nx:Nat} {l:List (Int × T)} {G:List Bool} (h:Gi nx l G) {n:Nat} (hn:nx<=n) (h8:n<8) :
  (nx+4<n->(qei (rvT nx l) n (jR n)).2.2=7)/\(n<=nx+4->∃ l',qei (rvT nx l) n (jR n)=(rvT (n+1) l',(sdT n,0))/\Gi (n+1) l' (G.set n true)):=by
 have e:qei (rvT nx l) n (jR n)=if (nx:Int)+4<n then bad 7 else if 1000<=(n:Int) then bad 7 else qds 4 (jR n) ((n:Int)-nx).toNat (chT nx) nx l:=by
  unfold qei
  rw [if_neg (λ hh=>hh h.valid),if_neg (by rw [(qoA h8).2.1];decide),if_neg (show ¬ (n:Int)<(rvT nx l).2.1 by show ¬ (n:Int)<nx;omega)];rfl
 have hng:∀ i,nx<=i->i<8->G.getD i false=false := λ i h1 h2=>by
  cases hg:G.getD i false with
  | false=>rfl
  | true=>have:=h.got i h2 hg;omega
 refine ⟨λ hlt=>by rw [e,if_pos (by omega)];rfl,λ hle=>?_⟩
 rw [e,if_neg (by omega),if_neg (by omega),show ((n:Int)-nx).toNat=n-nx by omega]
 obtain ⟨l',g1,g2,g3,g4⟩:=qtI h8 (G:=G) (n-nx) nx l (by omega) h.len h.asc h.slot hng
 refine ⟨l',g1,⟨by omega,g2,qoo (by omega) l' _ g3,λ s hs=>?_,λ q hq hg=>?_,by rw [List.length_set];exact h.gl8⟩⟩
 ·obtain ⟨i,k1,k2,k3⟩:=g4 s hs
  refine ⟨i,k1,by omega,?_⟩
  rw [qjH (by rw [h.gl8];omega),if_neg (by omega)];exact k3
 ·rw [qjH (by rw [h.gl8];omega)] at hg
  by_cases hqn:q=n
  ·omega
  ·rw [if_neg hqn] at hg
   have:=h.got q hq hg
   omega
end Go.AmZ
namespace Go.AmZ
open Go Go.GxZ
def snL (i:Nat):List (Int × T):=(List.range i).map λ j=>(((j:Nat):Int),jR j)
def sdL (i:Nat):List T:=(List.range i).map sdT
theorem qEe (i:Nat):snL (i+1)=snL i++[((i:Int),jR i)]:=by unfold snL;rw [List.range_succ,List.map_append];rfl
theorem qFh (i:Nat):sdL (i+1)=sdL i++[sdT i]:=by unfold sdL;rw [List.range_succ,List.map_append];rfl
theorem qGp (i:Nat):(snL i).length=i:=by unfold snL;rw [List.length_map,List.length_range]
theorem qFC (i:Nat):(sdL i).length=i:=by unfold sdL;rw [List.length_map,List.length_range]
theorem qF5 {n:Nat} (h:n<8):qc (snL 8) (n:Int)=some ((n:Int),jR n):=by
 rw [yY];unfold snL
 rw [List.getElem?_map,List.getElem?_range h];rfl
theorem qyY {n:Nat} (h:n<8):qc (sdL 8) (n:Int)=some (sdT n):=by
 rw [yY];unfold sdL
 rw [List.getElem?_map,List.getElem?_range h];rfl
theorem qFw (t:T):T.mk t.kind t.name t.sort t.kids=t:=qk t
theorem qyQ:Ev (λ m _=>QJ m) (chT 0):=by
 refine Ev.succ ?_
 simp only [qxs,qfY,qk]
 exact Ev.bind (a:=chT 0) (Ev.succ (Ev.pure _)) (Ev.pure _)
theorem qBV:Ev (λ m _=>qam m (chT 0)) (rvT 0 [],0):=by
 refine Ev.succ ?_
 simp only [quW,qe9,qk]
 refine Ev.bind (a:=true) ((Je (chT 0) (by rw [qeC];omega)).res (qg4 (i:=0) (by omega)).1) (Ev.cf rfl ?_)
 exact Ev.bind (qhD (chT 0) (by rw [qeC];omega)) (Ev.pure _)
theorem qCW {i:Nat} (hi:i<8):qvr (rvT i []) (sdT i)=(rvT (i+1) [],(((i:Int),jR i),0)):=by
 have h1:=qg4 (i:=i) (by omega)
 have h2:=qoA hi
 have hv:qbx (rvT i [])=0:=qpY ⟨h1.1,by show (0:Int)<=i;omega,by show (i:Int)<=1000;omega,by show (0:Int)<=4;omega,by show (4:Int)<=8;omega,by show (0:Int)<=4;omega,rfl⟩
 unfold qvr
 rw [if_neg (λ hh=>hh hv),if_neg (by rw [h2.1];decide),if_neg (by show ¬ (i:Int)=1000;omega),if_neg (λ hh=>hh h1.2.2),if_neg (λ hh=>hh h2.2.2)]
 rfl
theorem qCU:∀ i,i<8->qc ([[112],[113],[111]]:List (List UInt8)) (Ql ((i:Nat):Int) 3)=some (([[112],[113],[111]]:List (List UInt8)).getD (i % 3) []):=by decide
theorem qHB {n:Nat} (hn:n<8) (b0 b1 b2 b3 b4 b5 b6 b7:Bool):[cond (ieq (n:Int) 0) true b0,cond (ieq (n:Int) 1) true b1,cond (ieq (n:Int) 2) true b2,cond (ieq (n:Int) 3) true b3,cond (ieq (n:Int) 4) true b4,cond (ieq (n:Int) 5) true b5,cond (ieq (n:Int) 6) true b6,cond (ieq (n:Int) 7) true b7]=[b0,b1,b2,b3,b4,b5,b6,b7].set n true:=by
 match n,hn with
 | 0,_ | 1,_ | 2,_ | 3,_ | 4,_ | 5,_ | 6,_ | 7,_=>rfl
theorem qIk {n:Nat} (hn:n<8) (b0 b1 b2 b3 b4 b5 b6 b7:Bool):qc [b0,b1,b2,b3,b4,b5,b6,b7] (n:Int)=some ([b0,b1,b2,b3,b4,b5,b6,b7].getD n false):=by
 match n,hn with
 | 0,_ | 1,_ | 2,_ | 3,_ | 4,_ | 5,_ | 6,_ | 7,_=>rfl
theorem qfg {n:Nat} (h:n<8):ixb (n:Int) 8=true:=decide_eq_true ⟨by omega,by omega⟩
theorem ratchetDelivers_ev (l:List Int) (hfit:l.length<2 ^ 62/\∀ x∈l,IntKind.u8.min<=x/\x<=IntKind.u8.max):Ev (λ m _=>law53_RatchetDelivers m l) true:=by
 obtain ⟨hl,hx8⟩:=hfit
 have hsd:∀ i,size (sdT i)<=10000 := λ i=>by rw [qs6];omega
 have key:=zp (P := λ i=>∀ (nx:Nat) (sl:List (Int × T)) (b0 b1 b2 b3 b4 b5 b6 b7:Bool),Gi nx sl [b0,b1,b2,b3,b4,b5,b6,b7] ->
   Ev (λ m k=>(qn m k).2 l nx i (chT nx).kind (chT nx).name (chT nx).sort (chT nx).kids nx sl 4 b0 b1 b2 b3 b4 b5 b6 b7 (snL 8) (sdL 8)) true) l hl
  (λ hc nx sl b0 b1 b2 b3 b4 b5 b6 b7 hG=>by
   refine Ev.loop ?_
   simp only [qcl,jZ]
   exact Ev.cf hc (Ev.pure _))
  (λ i x hx hd hc hg hi hP nx sl b0 b1 b2 b3 b4 b5 b6 b7 hG=>by
   refine Ev.loop ?_
   simp only [qcl,jZ,qk,qFw]
   refine Ev.ct hc (Ev.ite (λ _=>?_) λ _=>Ev.pure _)
   refine Ev.some hg ?_
   obtain ⟨x0,x1⟩:=hx8 x (List.mem_of_getElem? hx)
   have x0:0<=x:=x0
   have x1:x<=255:=x1
   obtain ⟨n,hn⟩:∃ n:Nat,n=(x % 8).toNat:=⟨_,rfl⟩
   have hn8:n<8:=by omega
   have en:Ql (iw .i64 x) 8=(n:Int):=by
    rw [jV (by omega),show Ql x 8=x % 8 from IntWalk.rem_in _ _ x0];omega
   have hle:=hG.le
   have e4:iw .i64 (qf (nx:Int) 4)=(nx:Int)+4:=jV (by unfold qf;omega)
   have e1:iw .i64 (qf (n:Int) 1)=(n:Int)+1:=jV (by unfold qf;omega)
   rw [en,e4,e1,hi]
   have hrv:=qEW (rvT nx sl) n (jR n) hG.small (by rw [qtz];omega)
   refine Ev.some (qF5 hn8) ?_
   have hv4:=qIk hn8 b0 b1 b2 b3 b4 b5 b6 b7
   have hsame:Ev (λ m _=>yP m (sdT n) (sdT n)) true:=(qDB _ _ (by have:=hsd n;omega) (by have:=hsd n;omega)).res (qfJ.2 rfl)
   have stay:Ev (λ m k=>(qn m k).2 l nx ((i+1:Nat):Int) (chT nx).kind (chT nx).name (chT nx).sort (chT nx).kids nx sl 4 b0 b1 b2 b3 b4 b5 b6 b7 (snL 8) (sdL 8)) true:=hP nx sl b0 b1 b2 b3 b4 b5 b6 b7 hG
   by_cases hp:n<nx
   ·have c1:ilt ((nx:Int)+4) (n:Int)=false:=zA.2 (by omega)
    have c2:ile (nx:Int) (n:Int)=false:=qqM.2 (by omega)
    rcases qBK hG hp with h21 | ⟨l',hr,hgn,hG'⟩
    ·obtain ⟨r,hr⟩:∃ r,r=qei (rvT nx sl) n (jR n):=⟨_,rfl⟩
     rw [<- hr] at h21
     refine Ev.bind (a:=r) (hrv.res hr.symm) (Ev.ct (qfg hn8) (Ev.some hv4 ?_))
     refine Ev.ite (λ _=>Ev.cf (bnf.2 (qs.2 h21)) ?_) λ _=>?_
     ·exact Ev.cf c1 (Ev.cf c2 (Ev.cf (qr.2 (by rw [h21];decide)) stay))
     ·exact Ev.cf c1 (Ev.cf c2 (Ev.cf (qr.2 (by rw [h21];decide)) stay))
    ·refine Ev.bind (a:=(rvT nx l',(sdT n,0))) (hrv.res hr) (Ev.ct (qfg hn8) (Ev.some hv4 ?_))
     refine Ev.cf hgn (Ev.cf c1 (Ev.cf c2 (Ev.ct (qs.2 rfl) (Ev.ct (qfg hn8) (Ev.some hv4 (Ev.cf hgn (Ev.some (qyY hn8) (Ev.bind hsame (Ev.cf rfl (Ev.ct (qfg hn8) (Ev.ct (qfg hn8) ?_)))))))))))
     rw [<- qHB hn8] at hG'
     have em:qdD (nx:Int) ((n:Int)+1)=nx:=by unfold qdD;rw [if_neg (by omega)]
     rw [em]
     exact hP nx l' _ _ _ _ _ _ _ _ hG'
   ·have c2:ile (nx:Int) (n:Int)=true:=qgq.2 (by omega)
    have hgn:[b0,b1,b2,b3,b4,b5,b6,b7].getD n false=false:=by
     cases hg2:[b0,b1,b2,b3,b4,b5,b6,b7].getD n false with
     | false=>rfl
     | true=>have:=hG.got n hn8 hg2;omega
    obtain ⟨far,near⟩:=qBz hG (n:=n) (by omega) hn8
    by_cases hf:nx+4<n
    ·have h7:=far hf
     obtain ⟨r,hr⟩:∃ r,r=qei (rvT nx sl) n (jR n):=⟨_,rfl⟩
     rw [<- hr] at h7
     refine Ev.bind (a:=r) (hrv.res hr.symm) (Ev.ct (qfg hn8) (Ev.some hv4 ?_))
     exact Ev.cf hgn (Ev.ct (zf.2 (by omega)) (Ev.cf (bnf.2 (qs.2 h7)) (Ev.ct c2 (Ev.cf (qqM.2 (by omega)) (Ev.cf (qr.2 (by rw [h7];decide)) stay)))))
    ·obtain ⟨l',hr,hG'⟩:=near (by omega)
     refine Ev.bind (a:=(rvT (n+1) l',(sdT n,0))) (hrv.res hr) (Ev.ct (qfg hn8) (Ev.some hv4 ?_))
     refine Ev.cf hgn (Ev.cf (zA.2 (by omega)) (Ev.ct c2 (Ev.ct (qgq.2 (by omega)) (Ev.cf rfl (Ev.ct (qs.2 rfl) (Ev.ct (qfg hn8) (Ev.some hv4 (Ev.cf hgn (Ev.some (qyY hn8) (Ev.bind hsame (Ev.cf rfl (Ev.ct (qfg hn8) (Ev.ct (qfg hn8) ?_)))))))))))))
     rw [<- qHB hn8] at hG'
     have em:qdD (nx:Int) ((n:Int)+1)=((n+1:Nat):Int):=by unfold qdD;rw [if_pos (by omega)];omega
     rw [em]
     exact hP (n+1) l' _ _ _ _ _ _ _ _ hG')
 have hG0:Gi 0 [] [false,false,false,false,false,false,false,false]:=⟨by omega,by show (0:Int)<=4;omega,rfl,λ s hs=>(by cases hs),λ i hi hg=>(by
  match i,hi with
  | 0,_ | 1,_ | 2,_ | 3,_ | 4,_ | 5,_ | 6,_ | 7,_=>cases hg),rfl⟩
 have sends:=zp (P := λ i=>Ev (λ m k=>(qn m k).1 l i (chT i).kind (chT i).name (chT i).sort (chT i).kids i [] 4 (chT 0).kind (chT 0).name (chT 0).sort (chT 0).kids 0 [] 4 (snL i) (sdL i)) true) ([0,1,2,3,4,5,6,7]:List Nat) (by decide)
  (λ hc=>by
   refine Ev.loop ?_
   simp only [qcb,j7]
   exact Ev.cf hc (key 0 (Nat.zero_le _) 0 [] _ _ _ _ _ _ _ _ hG0))
  (λ i x hx hd hc hg hi hP=>by
   have hi8:i<8:=(List.getElem?_eq_some_iff.1 hx).1
   refine Ev.loop ?_
   simp only [qcb,j7,qk,qFw]
   refine Ev.ct hc (Ev.some (qCU i hi8) (Ev.bind (a:=sdT i) (Ev.succ (Ev.pure _)) ?_))
   refine Ev.bind (a:=(rvT (i+1) [],(((i:Int),jR i),0))) ((qFn (rvT i []) (sdT i) ⟨by show 0<_;omega,by show size (chT i)<=_;rw [qeC];omega,λ s hs=>by cases hs⟩ (hsd i)).res (qCW hi8)) ?_
   refine Ev.cf (bnf.2 (qs.2 rfl)) (Ev.ct (jW (by rw [qGp];omega) (by omega)) (Ev.ct (jW (by rw [qFC];omega) (by omega)) ?_))
   rw [hi]
   rw [qEe,qFh] at hP
   exact hP)
 refine Ev.succ ?_
 simp only [qhN,Qc,qk]
 refine Ev.bind qAk (Ev.cf rfl (Ev.bind qyQ (Ev.bind qBV (Ev.bind qyQ (Ev.bind qBV (Ev.cf rfl (Ev.cf rfl ?_)))))))
 exact Ev.diag (L := λ m k=>(qn m k).1 l 0 (chT 0).kind (chT 0).name (chT 0).sort (chT 0).kids 0 [] 4 (chT 0).kind (chT 0).name (chT 0).sort (chT 0).kids 0 [] 4 [] []) (sends 0 (Nat.zero_le _))
end Go.AmZ
namespace Go.AmZ
open Go Go.GxZ
set_option linter.unusedVariables false
set_option maxRecDepth 100000
open Go.Proofs.Tryz (f5 f10 f12 f13 f14 f17 f19 f21 f22 f23 f24 f25 f35 f38 f39 f41 f42 f43 f44 f45 f46 f47 f48 f49 f50 f51 f54 f62 f64 f65 f66 f67 f68 f69 f70 f71 f72 f73 f74 f75 f76 f77 f78 f79 f81 f85 f86 f87 f88 f89 f90 f91 f92 f93 f94 f95 f96 f97 f98 f99 f100 f101 f102 f103 f104 f120 f121 f122 f123 f124 f125 f127 f128 f129 f130 f131 f132 f133 f134 f143 f146 f147 f148 f149 f150 f151 f152 f156 f157 f158 f159 f160 f161 f163 f164 f167 f168 f169 f172 f173 f174 f175 f176 f177 f178 f179 f180 f181 f182 f183 f184 f185 f188 f189 f190 f191 f192 f193 f195 f197 f198 f199 f202 f203 f214 f215 f219 f220 f223 f224 f235)
noncomputable def i5:FI:=⟨f5,[.val (.list (.int .u8))],[.bool],[(10,[(0,.list (.int .u8)),(3,.box [.keep,.keep,.keep,.list .term,.keep,.list (.pair (.int .i64) .term),.keep]),(5,.box [.keep,.keep,.keep,.list .term,.keep,.list (.pair (.int .i64) .term),.keep]),(7,.row (.pair (.int .i64) .term) false),(8,.row .term false),(39,.keep)]),(21,[(0,.list (.int .u8)),(5,.box [.keep,.keep,.keep,.list .term,.keep,.list (.pair (.int .i64) .term),.keep]),(7,.row (.pair (.int .i64) .term) false),(8,.row .term false),(14,.box [.keep,.keep,.keep,.keep,.keep,.keep,.keep,.keep]),(15,.keep),(16,.keep)])],[],λ m x=>law53_RatchetDelivers m x.1⟩
noncomputable def i10:FI:=⟨f10,[],[.bool],[],[],λ m x=>qda m⟩
noncomputable def i12:FI:=⟨f12,[.val .term],[(.pair .term (.pair (.int .i64) (.pair (.list (.pair (.int .i64) .term)) (.int .i64)))),(.int .i64)],[],[],λ m x=>qam m x.1⟩
noncomputable def i13:FI:=⟨f13,[.val .term],[(.pair .term (.pair (.int .i64) (.pair (.list (.pair (.int .i64) .term)) (.int .i64)))),(.int .i64)],[],[],λ m x=>qlU m x.1⟩
noncomputable def i14:FI:=⟨f14,[.val .term,.val (.int .i64)],[.term,(.int .i64)],[(7,[(4,.box [.keep,.keep,.keep,.row .term false]),(6,.box [.keep,.keep,.keep,.list .term]),(21,.keep),(22,.keep)])],[],λ m x=>qfk m x.1 x.2.1⟩
noncomputable def i17:FI:=⟨f17,[.val .term,.val .term],[.bool],[],[],λ m x=>yP m x.1 x.2.1⟩
noncomputable def i19:FI:=⟨f19,[.val (.pair .term (.pair (.int .i64) (.pair (.list (.pair (.int .i64) .term)) (.int .i64)))),.val (.pair (.int .i64) .term)],[(.pair .term (.pair (.int .i64) (.pair (.list (.pair (.int .i64) .term)) (.int .i64)))),.term,(.int .i64)],[(17,[(3,.box [.keep,.keep,.keep,.keep,.list .term]),(4,.box [.keep,.keep,.keep,.row .term false,.keep,.row (.pair (.int .i64) .term) false,.keep]),(5,.box [.keep,.keep,.keep,.row .term false]),(7,.box [.keep,.keep,.keep,.list .term,.keep,.row (.pair (.int .i64) .term) true,.keep])])],[],λ m x=>jn m x.1 x.2.1⟩
noncomputable def i21:FI:=⟨f21,[.val (.pair .term (.pair (.int .i64) (.pair (.list (.pair (.int .i64) .term)) (.int .i64))))],[(.int .i64)],[(5,[(1,.box [.keep,.keep,.keep,.list .term,.keep,.list (.pair (.int .i64) .term),.keep]),(3,.keep),(39,.list (.pair (.int .i64) .term)),(40,.keep),(41,.keep)])],[],λ m x=>JT m x.1⟩
noncomputable def i22:FI:=⟨f22,[],[.term],[],[],λ m x=>QJ m⟩
noncomputable def i23:FI:=⟨f23,[.val .str,.val (.int .i64)],[.term],[],[],λ m x=>qcQ m x.1 x.2.1⟩
noncomputable def i24:FI:=⟨f24,[.val (.pair .term (.pair (.int .i64) (.pair (.list (.pair (.int .i64) .term)) (.int .i64)))),.val .term],[(.pair .term (.pair (.int .i64) (.pair (.list (.pair (.int .i64) .term)) (.int .i64)))),(.pair (.int .i64) .term),(.int .i64)],[],[],λ m x=>qcu m x.1 x.2.1⟩
noncomputable def i25:FI:=⟨f25,[.val (.pair .term (.pair (.int .i64) (.pair (.list (.pair (.int .i64) .term)) (.int .i64))))],[(.int .i64)],[(5,[(1,.box [.keep,.keep,.keep,.list .term,.keep,.list (.pair (.int .i64) .term),.keep]),(3,.keep),(4,.keep)])],[],λ m x=>qiR m x.1⟩
noncomputable def i35:FI:=⟨f35,[.val (.pair .term (.pair (.int .i64) (.pair (.list (.pair (.int .i64) .term)) (.int .i64)))),.val .term],[(.pair .term (.pair (.int .i64) (.pair (.list (.pair (.int .i64) .term)) (.int .i64)))),(.pair (.int .i64) .term),(.int .i64)],[],[],λ m x=>qkU m x.1 x.2.1⟩
noncomputable def i38:FI:=⟨f38,[.val .str],[.term,(.int .i64)],[],[],λ m x=>qfh m x.1⟩
noncomputable def i39:FI:=⟨f39,[.val (.int .i64)],[(.list (.pair (.int .i64) .term))],[(4,[(0,.keep),(3,.box [.keep,.keep,.keep,.list .term,.keep,.list (.pair (.int .i64) .term),.keep]),(5,.row (.pair (.int .i64) .term) false),(6,.keep)])],[],λ m x=>qjZ m x.1⟩
noncomputable def i41:FI:=⟨f41,[.val .term],[.bool],[],[],λ m x=>za m x.1⟩
noncomputable def i42:FI:=⟨f42,[.val .term],[.term],[],[],λ m x=>zX m x.1⟩
noncomputable def i43:FI:=⟨f43,[.val .term],[.bool],[],[],λ m x=>qaF m x.1⟩
noncomputable def i44:FI:=⟨f44,[.val .term],[.term],[],[],λ m x=>JC m x.1⟩
noncomputable def i45:FI:=⟨f45,[.val .term],[(.int .i64)],[],[],λ m x=>qH m x.1⟩
noncomputable def i46:FI:=⟨f46,[.val .term],[.term],[],[],λ m x=>qah m x.1⟩
noncomputable def i47:FI:=⟨f47,[.val .term],[.term],[],[],λ m x=>qkq m x.1⟩
noncomputable def i48:FI:=⟨f48,[.val .term],[.bool],[],[],λ m x=>qgn m x.1⟩
noncomputable def i49:FI:=⟨f49,[.val .term],[.term],[],[],λ m x=>qmy m x.1⟩
noncomputable def i50:FI:=⟨f50,[.val .term,.val .term],[(.int .i64)],[(18,[(2,.box [.keep,.keep,.keep,.list .term]),(3,.box [.keep,.keep,.keep,.list .term]),(9,.keep)])],[],λ m x=>zh m x.1 x.2.1⟩
noncomputable def i51:SI:=⟨f51,[.val (.pair .term (.pair (.int .i64) (.pair (.list (.pair (.int .i64) .term)) (.int .i64))))],[.agg [.val .term,.val (.int .i64),.row (.pair (.int .i64) .term),.val (.int .i64)]],[(4,[(1,.box [.keep,.keep,.keep,.list .term,.keep,.list (.pair (.int .i64) .term),.keep]),(2,.box [.keep,.keep,.keep,.row .term false,.keep,.row (.pair (.int .i64) .term) false,.keep]),(3,.row (.pair (.int .i64) .term) false),(11,.list (.pair (.int .i64) .term)),(12,.keep),(13,.keep)])],[],λ m x=>qbz m x.1⟩
noncomputable def i54:FI:=⟨f54,[.val .term,.val .term],[.term,.bool],[],[],λ m x=>Jp m x.1 x.2.1⟩
noncomputable def i62:FI:=⟨f62,[.val (.list .term)],[(.list .term)],[(3,[(0,.list .term),(3,.list .term),(4,.keep)])],[],λ m x=>qm7 m x.1⟩
noncomputable def i64:FI:=⟨f64,[.val .str,.val (.list .term)],[.term],[],[],λ m x=>yU m x.1 x.2.1⟩
noncomputable def i65:FI:=⟨f65,[.val .term,.val .term],[.term],[],[],λ m x=>QW m x.1 x.2.1⟩
noncomputable def i66:FI:=⟨f66,[.val .str,.val (.int .i64)],[.term,.str,.bool],[(13,[(0,.keep),(1,.keep),(4,.box [.keep,.keep,.keep,.row .term false]),(7,.box [.keep,.keep,.keep,.row .term false])])],[],λ m x=>qd6 m x.1 x.2.1⟩
noncomputable def i67:FI:=⟨f67,[.val .term],[(.int .i64)],[],[],λ m x=>yw m x.1⟩
noncomputable def i68:FI:=⟨f68,[.val .term],[.bool],[],[],λ m x=>qbW m x.1⟩
noncomputable def i69:FI:=⟨f69,[.val .term],[(.list .term)],[],[],λ m x=>qfq m x.1⟩
noncomputable def i70:FI:=⟨f70,[.val .term,.val (.list (.int .i64))],[.term,(.int .i64)],[(2,[(2,.box [.keep,.keep,.keep,.list .term]),(4,.box [.keep,.keep,.keep,.row .term false]),(8,.list (.int .i64)),(9,.keep),(10,.keep)])],[],λ m x=>qji m x.1 x.2.1⟩
noncomputable def i71:FI:=⟨f71,[.val .term],[.bool],[(6,[(5,.list .term),(6,.keep)])],[],λ m x=>qiI m x.1⟩
noncomputable def i72:FI:=⟨f72,[.val .term],[.bool],[],[],λ m x=>qhx m x.1⟩
noncomputable def i73:FI:=⟨f73,[.val .str],[.term],[],[],λ m x=>qc3 m x.1⟩
noncomputable def i74:SI:=⟨f74,[.val .term,.val (.int .i64),.box [.val (.int .i64)],.box [.val (.int .i64)]],[.one (.val (.int .i64))],[(17,[(1,.keep),(2,.box [.keep]),(3,.box [.keep]),(57,.list .term),(58,.keep),(59,.keep)])],[],λ m x=>zy m x.1 x.2.1 x.2.2.1 x.2.2.2.1⟩
noncomputable def i75:FI:=⟨f75,[.val .term,.val .str],[.term],[],[],λ m x=>qdk m x.1 x.2.1⟩
noncomputable def i76:FI:=⟨f76,[.val (.int .i64),.val (.int .i64)],[(.int .i64)],[],[],λ m x=>QQ m x.1 x.2.1⟩
noncomputable def i77:FI:=⟨f77,[.val .term],[(.int .i64)],[(3,[(1,.box [.keep,.keep,.keep,.list .term]),(3,.keep),(4,.keep)])],[],λ m x=>yo m x.1⟩
noncomputable def i78:FI:=⟨f78,[.val .term,.val .term],[(.int .i64)],[(11,[(2,.box [.keep,.keep,.keep,.list .term]),(3,.box [.keep,.keep,.keep,.list .term]),(5,.keep),(6,.keep)])],[],λ m x=>qm m x.1 x.2.1⟩
noncomputable def i79:FI:=⟨f79,[.val .term,.val .str],[.bool],[],[],λ m x=>qa6 m x.1 x.2.1⟩
noncomputable def i81:FI:=⟨f81,[.val (.list .term),.val .term],[.bool],[(2,[(0,.list .term),(3,.box [.keep,.keep,.keep,.list .term]),(5,.keep)])],[],λ m x=>qmJ m x.1 x.2.1⟩
noncomputable def i85:FI:=⟨f85,[.val (.list .term),.val .term],[(.list .term)],[(4,[(0,.list .term),(3,.box [.keep,.keep,.keep,.list .term]),(5,.row .term false),(6,.keep),(7,.keep)])],[],λ m x=>qiz m x.1 x.2.1⟩
noncomputable def i86:FI:=⟨f86,[.val .str],[.str],[(2,[(0,.keep),(3,.keep)])],[],λ m x=>qeg m x.1⟩
noncomputable def i87:FI:=⟨f87,[.val .str],[.bool],[(4,[(0,.keep),(3,.keep)])],[],λ m x=>qb4 m x.1⟩
noncomputable def i88:FI:=⟨f88,[.val .term,.val .str],[.term,.str,.bool],[(5,[(1,.keep),(2,.box [.keep,.keep,.keep,.list .term]),(4,.box [.keep,.keep,.keep,.row .term false]),(7,.keep),(8,.keep)])],[],λ m x=>qgs m x.1 x.2.1⟩
noncomputable def i89:FI:=⟨f89,[.val .term],[(.int .i64)],[(5,[(1,.box [.keep,.keep,.keep,.list .term]),(4,.keep)])],[],λ m x=>qdd m x.1⟩
noncomputable def i90:FI:=⟨f90,[.val .term],[(.int .i64)],[(3,[(1,.box [.keep,.keep,.keep,.list .term]),(3,.keep),(4,.keep)])],[],λ m x=>qdg m x.1⟩
noncomputable def i91:FI:=⟨f91,[.val .term],[.term,(.int .i64)],[],[],λ m x=>qbk m x.1⟩
noncomputable def i92:FI:=⟨f92,[.val .term,.val .term],[.bool],[],[],λ m x=>jU m x.1 x.2.1⟩
noncomputable def i93:FI:=⟨f93,[.val .term,.fn],[.bool],[(4,[(1,.keep),(18,.list .term),(19,.keep),(20,.keep)])],[],λ m x=>qE m x.1⟩
noncomputable def i94:FI:=⟨f94,[.val .str],[.bool],[],[],λ m x=>qaA m x.1⟩
noncomputable def i95:FI:=⟨f95,[.val .str],[(.pair .str (.pair (.int .i64) (.pair (.int .i64) (.int .i64))))],[(2,[(0,.keep),(2,.box [.keep,.keep,.keep,.keep]),(5,.list (.pair .str (.pair (.int .i64) (.pair (.int .i64) (.int .i64))))),(6,.keep),(7,.keep)])],[],λ m x=>JR m x.1⟩
noncomputable def i96:FI:=⟨f96,[.val .term,.val (.int .i64)],[(.list .term)],[],[],λ m x=>qfl m x.1 x.2.1⟩
noncomputable def i97:FI:=⟨f97,[.val .term],[.term],[(4,[(1,.box [.keep,.keep,.keep,.row .term false]),(2,.box [.keep,.keep,.keep,.row .term false]),(9,.list .term),(10,.keep),(11,.keep)])],[],λ m x=>yd m x.1⟩
noncomputable def i98:FI:=⟨f98,[.val .term],[.term,(.int .i64)],[],[],λ m x=>qhI m x.1⟩
noncomputable def i99:FI:=⟨f99,[.val .term],[(.list .term)],[(3,[(1,.box [.keep,.keep,.keep,.list .term]),(3,.row .term true),(4,.keep)])],[],λ m x=>qdU m x.1⟩
noncomputable def qDF:FI:=⟨f100,[.val .str],[(.int .i64)],[(3,[(0,.keep),(3,.list (.pair .str (.pair (.int .i64) (.pair (.int .i64) (.int .i64))))),(4,.keep)])],[],λ m x=>qes m x.1⟩
noncomputable def qHT:FI:=⟨f101,[.val .term],[(.list .term)],[],[],λ m x=>qkf m x.1⟩
noncomputable def qDW:FI:=⟨f102,[.val .str],[.bool],[(4,[(0,.keep),(38,.keep),(39,.keep)])],[],λ m x=>qar m x.1⟩
noncomputable def qGW:FI:=⟨f103,[.val (.int .i64),.val (.int .i64)],[(.int .i64)],[],[],λ m x=>qaS m x.1 x.2.1⟩
noncomputable def qEP:FI:=⟨f104,[.val .term],[(.int .i64)],[(3,[(3,.keep),(7,.list .term),(8,.keep),(9,.keep)])],[],λ m x=>yW m x.1⟩
noncomputable def qG4:FI:=⟨f120,[.val (.int .u8)],[.bool],[],[],λ m x=>qcw m x.1⟩
noncomputable def qHF:FI:=⟨f121,[.val (.int .u8)],[.bool],[],[],λ m x=>qfi m x.1⟩
noncomputable def qHd:FI:=⟨f122,[.val (.int .i64)],[.str],[],[],λ m x=>qkd m x.1⟩
noncomputable def qHR:FI:=⟨f123,[.val .term],[(.int .i64)],[],[],λ m x=>qj6 m x.1⟩
noncomputable def qHO:FI:=⟨f124,[.val .term],[(.int .i64)],[],[],λ m x=>qb3 m x.1⟩
noncomputable def qEz:FI:=⟨f125,[.val .term],[.term,(.int .i64)],[(5,[(1,.box [.keep,.keep,.keep,.list .term]),(2,.box [.keep,.keep,.keep,.row .term false]),(4,.box [.keep,.keep,.keep,.row .term false]),(19,.list .term),(20,.keep),(21,.keep)])],[],λ m x=>zH m x.1⟩
noncomputable def qC1:SI:=⟨f127,[.val .term,.clo 128 2,.box [.val (.int .i64)],.box [.row .term]],[],[(3,[(1,.fn [.box [.keep],.box [.row .term false]]),(10,.list .term),(11,.keep),(12,.keep)])],[],λ m x=>qY m x.1 x.2.1 x.2.2.1⟩
noncomputable def qHq:SI:=⟨f128,[.val .term,.box [.val (.int .i64)],.box [.row .term]],[],[],[],λ m x=>Qa m x.1 x.2.1 x.2.2.1⟩
noncomputable def qC9:SI:=⟨f129,[.row .term],[.one (.row .term)],[(4,[(0,.row .term false),(9,.keep),(10,.keep)])],[],λ m x=>qb9 m x.1⟩
noncomputable def qHc:FI:=⟨f130,[.val .term],[(.int .i64)],[],[],λ m x=>qiD m x.1⟩
noncomputable def qDl:FI:=⟨f131,[.val .term],[.term,(.int .i64)],[(5,[(1,.box [.keep,.keep,.keep,.list .term]),(2,.box [.keep,.keep,.keep,.row .term false]),(4,.row .term false),(5,.keep)])],[],λ m x=>qb8 m x.1⟩
noncomputable def qHg:FI:=⟨f132,[],[(.list (.pair .str (.pair (.int .i64) (.pair (.int .i64) (.int .i64)))))],[],[],λ m x=>qdt m⟩
noncomputable def qDo:FI:=⟨f133,[.val .term,.val (.int .i64)],[(.list .term)],[(4,[(1,.keep),(5,.row .term false),(6,.list .term),(7,.keep)])],[],λ m x=>qjM m x.1 x.2.1⟩
noncomputable def qHi:FI:=⟨f134,[.val (.int .u8)],[.bool],[],[],λ m x=>qdJ m x.1⟩
noncomputable def qDX:FI:=⟨f143,[.val (.list (.pair .term (.int .i64))),.val (.list (.pair .term (.int .i64)))],[(.list (.pair .term (.int .i64))),(.int .i64)],[(9,[(1,.list (.pair .term (.int .i64))),(8,.row (.pair .term (.int .i64)) false),(9,.keep)])],[],λ m x=>qmf m x.1 x.2.1⟩
noncomputable def qHH:FI:=⟨f146,[.val .term],[(.list (.pair .term (.int .i64))),(.int .i64)],[],[],λ m x=>qhC m x.1⟩
noncomputable def qAS:FI:=⟨f147,[.val .term],[(.int .i64)],[(13,[(1,.box [.keep,.keep,.keep,.list .term]),(38,.list .term),(39,.keep),(40,.keep)]),(22,[(62,.list .term),(63,.keep),(64,.keep)])],[],λ m x=>qy m x.1⟩
noncomputable def qHI:FI:=⟨f148,[.val .term],[.term],[],[],λ m x=>Jq m x.1⟩
noncomputable def qDz:FI:=⟨f149,[.val (.list .term)],[.term,(.int .i64)],[(6,[(2,.box [.keep,.keep,.keep,.row .term true]),(5,.list .term),(15,.list .term),(16,.keep),(17,.keep)])],[],λ m x=>qjf m x.1⟩
noncomputable def qHZ:FI:=⟨f150,[.val .term],[(.list (.pair .term (.int .i64))),(.int .i64)],[],[],λ m x=>Jm m x.1⟩
noncomputable def qw6:FI:=⟨f151,[.val (.list (.pair .term (.int .i64)))],[.term,(.int .i64)],[(6,[(2,.box [.keep,.keep,.keep,.row .term false]),(5,.row .term false),(6,.row .term false),(18,.list (.pair .term (.int .i64))),(19,.keep),(20,.keep)]),(11,[(2,.box [.keep,.keep,.keep,.row .term false]),(5,.row .term false),(6,.row .term false),(8,.box [.keep,.keep,.keep,.list .term,.keep]),(18,.list (.pair .term (.int .i64))),(19,.keep),(20,.keep),(34,.keep),(35,.keep)]),(15,[(2,.box [.keep,.keep,.keep,.row .term false]),(5,.row .term false),(6,.row .term false),(8,.box [.keep,.keep,.keep,.list .term,.keep]),(18,.list (.pair .term (.int .i64))),(19,.keep),(20,.keep),(46,.keep),(47,.keep)])],[],λ m x=>jA m x.1⟩
noncomputable def qHW:FI:=⟨f152,[.val .term,.val .term],[.term,(.int .i64)],[],[],λ m x=>qcd m x.1 x.2.1⟩
noncomputable def qHa:FI:=⟨f156,[.val .term,.val .term],[.bool],[],[],λ m x=>zY m x.1 x.2.1⟩
noncomputable def qFd:FI:=⟨f157,[.val .term],[(.int .i64)],[(11,[(1,.box [.keep,.keep,.keep,.list .term]),(4,.keep)])],[],λ m x=>qdf m x.1⟩
noncomputable def qHS:FI:=⟨f158,[.val .term],[.term,.bool],[],[],λ m x=>qfR m x.1⟩
noncomputable def qEJ:FI:=⟨f159,[.val (.list .term)],[.term,(.int .i64)],[(6,[(0,.list .term),(2,.box [.keep,.keep,.keep,.row .term true]),(5,.list .term),(6,.keep)])],[],λ m x=>qm8 m x.1⟩
noncomputable def qHE:FI:=⟨f160,[.val .term],[.term,(.int .i64)],[],[],λ m x=>qfU m x.1⟩
noncomputable def qG1:FI:=⟨f161,[.val .term,.val .term],[.term,(.int .i64)],[],[],λ m x=>qiN m x.1 x.2.1⟩
noncomputable def qDv:FI:=⟨f163,[.val .term],[(.list .term)],[(7,[(1,.box [.keep,.keep,.keep,.list .term]),(3,.list .term),(4,.keep)])],[],λ m x=>qaK m x.1⟩
noncomputable def qDf:FI:=⟨f164,[.val (.list .term),.val .term],[(.int .i64)],[(4,[(0,.list .term),(3,.box [.keep,.keep,.keep,.list .term]),(5,.keep)])],[],λ m x=>qiQ m x.1 x.2.1⟩
noncomputable def qDY:FI:=⟨f167,[.val (.list (.pair .term (.int .i64)))],[(.int .i64)],[(4,[(0,.list (.pair .term (.int .i64))),(3,.keep)])],[],λ m x=>qc4 m x.1⟩
noncomputable def qEm:SI:=⟨f168,[.row (.pair .term (.int .i64)),.val .term,.val (.int .i64)],[.one (.row (.pair .term (.int .i64)))],[(4,[(0,.row (.pair .term (.int .i64)) false),(2,.keep),(4,.box [.keep,.keep,.keep,.list .term]),(7,.row (.pair .term (.int .i64)) false),(8,.keep),(9,.keep)])],[],λ m x=>qim m x.1 x.2.1 x.2.2.1⟩
noncomputable def qFc:FI:=⟨f169,[.val (.list (.pair .term (.int .i64)))],[(.int .i64)],[(2,[(0,.list (.pair .term (.int .i64))),(3,.keep)])],[],λ m x=>qfW m x.1⟩
noncomputable def qE8:FI:=⟨f172,[.val .term],[.bool],[(7,[(1,.box [.keep,.keep,.keep,.list .term]),(3,.keep),(4,.keep)])],[],λ m x=>qc6 m x.1⟩
noncomputable def qEy:SI:=⟨f173,[.row (.pair .term (.int .i64)),.val .term,.val (.int .i64)],[.one (.row (.pair .term (.int .i64)))],[(6,[(0,.row (.pair .term (.int .i64)) false),(2,.keep),(4,.box [.keep,.keep,.keep,.list .term]),(7,.keep)])],[],λ m x=>qbm m x.1 x.2.1 x.2.2.1⟩
noncomputable def qHA:FI:=⟨f174,[.val .term,.val .str],[.bool],[],[],λ m x=>yj m x.1 x.2.1⟩
noncomputable def qEM:FI:=⟨f175,[.val (.list .term),.val (.list .term)],[(.int .i64)],[(4,[(14,.list .term),(15,.keep),(16,.keep)])],[],λ m x=>qfD m x.1 x.2.1⟩
noncomputable def qDD:FI:=⟨f176,[.val (.list .term),.val (.list .term)],[(.list .term)],[(2,[(0,.list .term),(1,.list .term),(5,.row .term false)])],[],λ m x=>qe2 m x.1 x.2.1⟩
noncomputable def qC4:FI:=⟨f177,[.val .term],[(.list .term)],[(6,[(3,.list .term),(31,.list .term),(32,.keep),(33,.keep)])],[],λ m x=>zM m x.1⟩
noncomputable def qDO:FI:=⟨f178,[.val (.list .term)],[(.list .term)],[(3,[(3,.row .term false),(9,.list .term),(10,.keep),(11,.keep)])],[],λ m x=>QE m x.1⟩
noncomputable def qEg:SI:=⟨f179,[.row (.pair .term (.int .i64)),.val .term,.val (.int .i64)],[.one (.row (.pair .term (.int .i64))),.one (.val .bool)],[(12,[(0,.row (.pair .term (.int .i64)) false),(2,.keep),(52,.list .term),(53,.keep),(54,.keep)])],[],λ m x=>qX m x.1 x.2.1 x.2.2.1⟩
noncomputable def qCV:FI:=⟨f180,[.val (.list (.pair .term (.int .i64)))],[(.int .i64)],[(4,[(0,.list (.pair .term (.int .i64))),(9,.list (.pair .term (.int .i64))),(10,.keep),(11,.keep)])],[],λ m x=>Qv m x.1⟩
noncomputable def qE4:FI:=⟨f181,[.val .term],[.term],[(3,[(1,.box [.keep,.keep,.keep,.row .term false]),(2,.box [.keep,.keep,.keep,.row .term false]),(10,.row .term false),(11,.keep),(12,.keep)])],[],λ m x=>qZ m x.1⟩
noncomputable def qHK:FI:=⟨f182,[.val .str,.val (.list .term)],[.term],[],[],λ m x=>qaH m x.1 x.2.1⟩
noncomputable def qAv:FI:=⟨f183,[.val (.list (.list .term))],[(.list .term)],[(3,[(0,.list (.list .term)),(3,.keep),(9,.list (.list .term)),(10,.keep),(11,.keep)]),(11,[(6,.row .term false),(25,.list (.list .term)),(26,.keep),(27,.keep)])],[],λ m x=>q9 m x.1⟩
noncomputable def qC3:FI:=⟨f184,[.val (.list (.pair .term (.int .i64))),.val (.list (.pair .term (.int .i64)))],[(.list (.pair .term (.int .i64))),(.int .i64)],[(9,[(8,.row (.pair .term (.int .i64)) false),(23,.list (.pair .term (.int .i64))),(24,.keep),(25,.keep)])],[],λ m x=>qbZ m x.1 x.2.1⟩
noncomputable def qHl:FI:=⟨f185,[.val .str,.val (.list .term)],[.term],[],[],λ m x=>qcC m x.1 x.2.1⟩
noncomputable def qDq:FI:=⟨f188,[.val .term],[.bool],[(3,[(1,.box [.keep,.keep,.keep,.list .term]),(3,.list (.pair .str (.pair (.int .i64) (.pair (.int .i64) (.int .i64))))),(4,.keep)])],[],λ m x=>qkj m x.1⟩
noncomputable def qFl:FI:=⟨f189,[.val .term],[.bool],[(4,[(1,.box [.keep,.keep,.keep,.list .term]),(3,.keep)])],[],λ m x=>qhu m x.1⟩
noncomputable def qHu:FI:=⟨f190,[],[.term],[],[],λ m x=>qjF m⟩
noncomputable def qDa:FI:=⟨f191,[.val (.list .term),.val (.list .term)],[(.list .term)],[(3,[(1,.list .term),(5,.plist .term),(6,.keep)])],[],λ m x=>qgx m x.1 x.2.1⟩
noncomputable def qG5:FI:=⟨f192,[.val (.list .term)],[.term],[],[],λ m x=>qkP m x.1⟩
noncomputable def qHt:FI:=⟨f193,[.val (.list (.pair .term (.int .i64)))],[.term,(.int .i64)],[],[],λ m x=>qeb m x.1⟩
noncomputable def qH4:FI:=⟨f195,[.val .term],[.bool],[],[],λ m x=>qbq m x.1⟩
noncomputable def qDS:FI:=⟨f197,[.val .term,.val (.list (.int .i64)),.val .term],[.term,(.int .i64)],[(4,[(5,.box [.keep,.keep,.keep,.list .term]),(6,.box [.keep,.keep,.keep,.row .term false]),(8,.box [.keep,.keep,.keep,.list .term]),(9,.box []),(14,.list (.int .i64)),(15,.keep),(16,.keep)])],[],λ m x=>qb7 m x.1 x.2.1 x.2.2.1⟩
noncomputable def qHz:FI:=⟨f198,[.val .term],[.bool],[],[],λ m x=>QU m x.1⟩
noncomputable def qHC:SI:=⟨f199,[.row (.pair .term (.int .i64)),.val (.pair .term (.int .i64))],[.one (.row (.pair .term (.int .i64)))],[],[],λ m x=>QY m x.1 x.2.1⟩
noncomputable def qFk:SI:=⟨f202,[.val (.list (.pair .term (.int .i64)))],[.one (.row (.pair .term (.int .i64)))],[(3,[(3,.row (.pair .term (.int .i64)) false),(6,.list (.pair .term (.int .i64))),(7,.keep),(8,.keep)])],[],λ m x=>JY m x.1⟩
noncomputable def qG3:FI:=⟨f203,[.val (.list (.pair .term (.int .i64)))],[(.list (.pair .term (.int .i64))),(.int .i64)],[],[],λ m x=>J6 m x.1⟩
noncomputable def qET:FI:=⟨f214,[.val (.list .term),.val .term],[(.list .term)],[(5,[(0,.list .term),(3,.box [.keep,.keep,.keep,.list .term]),(5,.row .term false),(6,.keep)])],[],λ m x=>qgO m x.1 x.2.1⟩
noncomputable def qsP:FI:=⟨f215,[.val (.list (.pair .term (.int .i64)))],[(.list .term)],[(3,[(0,.list (.pair .term (.int .i64))),(3,.row .term false),(4,.keep)]),(6,[(0,.list (.pair .term (.int .i64))),(3,.row .term false),(4,.keep),(5,.keep)]),(10,[(0,.list (.pair .term (.int .i64))),(3,.row .term false),(6,.keep)]),(13,[(0,.list (.pair .term (.int .i64))),(3,.row .term false),(6,.keep),(7,.keep)])],[],λ m x=>qeP m x.1⟩
noncomputable def qDe:FI:=⟨f219,[.val (.list (.pair .term (.int .i64))),.val .term,.fn],[(.int .i64),.bool],[(3,[(0,.list (.pair .term (.int .i64))),(2,.keep),(4,.box [.keep,.keep,.keep,.list .term]),(8,.keep),(9,.keep),(10,.keep)])],[],λ m x=>qv m x.1 x.2.1⟩
noncomputable def qG7:FI:=⟨f220,[.val (.pair .term (.int .i64)),.val .term],[(.int .i64)],[],[],λ m x=>Qh m x.1 x.2.1⟩
noncomputable def qG0:FI:=⟨f223,[.val (.list (.pair .term (.int .i64))),.fn],[.bool],[],[],λ m x=>qK m x.1⟩
noncomputable def qHG:FI:=⟨f224,[.val (.pair .term (.int .i64))],[.bool],[],[],λ m x=>Q8 m x.1⟩
noncomputable def qEI:FI:=⟨f235,[.val (.list (.pair .term (.int .i64))),.fn],[(.int .i64)],[(2,[(0,.list (.pair .term (.int .i64))),(1,.keep),(7,.keep),(8,.keep)])],[],λ m x=>qU m x.1⟩
noncomputable def elT (f:Nat):Option Ty :=
cond (Nat.blt f 121)
 (cond (Nat.blt f 47)
 (cond (Nat.blt f 27)
 (cond (Nat.beq f 22) (some .term) (none))
 (cond (Nat.blt f 45)
 (cond (Nat.beq f 27) (some (.pair (.int .i64) .term)) (none))
 (cond (Nat.beq f 45) (some (.int .u8)) (none))))
 (cond (Nat.blt f 57)
 (cond (Nat.blt f 49)
 (cond (Nat.beq f 47) (some (.pair (.int .i64) .term)) (none))
 (cond (Nat.beq f 49) (some .str) (none)))
 (cond (Nat.blt f 59)
 (cond (Nat.beq f 57) (some (.int .i64)) (none))
 (cond (Nat.beq f 59) (some (.pair (.int .u8) (.int .u8))) (none)))))
 (cond (Nat.blt f 155)
 (cond (Nat.blt f 130)
 (cond (Nat.blt f 123)
 (cond (Nat.beq f 121) (some (.pair (.list (.int .i64)) (.int .i64))) (none))
 (cond (Nat.beq f 123) (some .bool) (none)))
 (cond (Nat.blt f 137)
 (cond (Nat.beq f 130) (some (.pair .str (.pair (.int .i64) (.pair (.int .i64) (.int .i64))))) (none))
 (cond (Nat.beq f 137) (some (.pair .term (.int .i64))) (none))))
 (cond (Nat.blt f 175)
 (cond (Nat.blt f 163)
 (cond (Nat.beq f 155) (some (.pair (.list .term) (.list (.int .i64)))) (none))
 (cond (Nat.beq f 163) (some (.list (.pair .term (.int .i64)))) (none)))
 (cond (Nat.blt f 182)
 (cond (Nat.beq f 175) (some (.list (.int .i64))) (none))
 (cond (Nat.beq f 182) (some (.list .term)) (none)))))
noncomputable def tb:Tb:=⟨tyT,elT,.node 122 (.node 69 (.node 43 (.node 22 (.node 14 (.node 12 (.node 10 (.node 5 .leaf .leaf (.pure [([],i5)])) .leaf (.pure [([],i10)])) (.node 13 .leaf .leaf (.pure [([],i13)])) (.pure [([],i12)])) (.node 19 (.node 17 .leaf .leaf (.pure [([],i17)])) (.node 21 .leaf .leaf (.pure [([],i21)])) (.pure [([],i19)])) (.pure [([],i14)])) (.node 38 (.node 25 (.node 24 (.node 23 .leaf .leaf (.pure [([],i23)])) .leaf (.pure [([],i24)])) (.node 35 .leaf .leaf (.pure [([],i35)])) (.pure [([],i25)])) (.node 41 (.node 39 .leaf .leaf (.pure [([],i39)])) (.node 42 .leaf .leaf (.pure [([],i42)])) (.pure [([],i41)])) (.pure [([],i38)])) (.pure [([],i22)])) (.node 52 (.node 48 (.node 46 (.node 45 (.node 44 .leaf .leaf (.pure [([],i44)])) .leaf (.pure [([],i45)])) (.node 47 .leaf .leaf (.pure [([],i47)])) (.pure [([],i46)])) (.node 50 (.node 49 .leaf .leaf (.pure [([],i49)])) (.node 51 .leaf .leaf (.st i51)) (.pure [([],i50)])) (.pure [([],i48)])) (.node 65 (.node 62 (.node 55 (.node 54 .leaf .leaf (.pure [([],i54)])) .leaf (.hs ⟨[.row (.pair (.int .i64) .term),.val (.int .i64),.val (.int .i64)],[.one (.row (.pair (.int .i64) .term))],λ x=>zq 0 x.1 x.2.1 x.2.2.1⟩)) (.node 64 .leaf .leaf (.pure [([],i64)])) (.pure [([],i62)])) (.node 67 (.node 66 .leaf .leaf (.pure [([],i66)])) (.node 68 .leaf .leaf (.pure [([],i68)])) (.pure [([],i67)])) (.pure [([],i65)])) (.hk λ _=>⟨[.row (.pair (.int .i64) .term),.clo 53 1,.box [.val (.pair (.int .i64) .term)]],λ x=>zb 0 x.1 x.2.1⟩)) (.pure [([],i43)])) (.node 91 (.node 78 (.node 74 (.node 72 (.node 71 (.node 70 .leaf .leaf (.pure [([],i70)])) .leaf (.pure [([],i71)])) (.node 73 .leaf .leaf (.pure [([],i73)])) (.pure [([],i72)])) (.node 76 (.node 75 .leaf .leaf (.pure [([],i75)])) (.node 77 .leaf .leaf (.pure [([],i77)])) (.pure [([],i76)])) (.st i74)) (.node 87 (.node 85 (.node 81 (.node 79 .leaf .leaf (.pure [([],i79)])) .leaf (.pure [([],i81)])) (.node 86 .leaf .leaf (.pure [([],i86)])) (.pure [([],i85)])) (.node 89 (.node 88 .leaf .leaf (.pure [([],i88)])) (.node 90 .leaf .leaf (.pure [([],i90)])) (.pure [([],i89)])) (.pure [([],i87)])) (.pure [([],i78)])) (.node 100 (.node 96 (.node 94 (.node 93 (.node 92 .leaf .leaf (.pure [([],i92)])) .leaf (.pure [([94],i93)])) (.node 95 .leaf .leaf (.pure [([],i95)])) (.pure [([],i94)])) (.node 98 (.node 97 .leaf .leaf (.pure [([],i97)])) (.node 99 .leaf .leaf (.pure [([],i99)])) (.pure [([],i98)])) (.pure [([],i96)])) (.node 104 (.node 102 (.node 101 .leaf .leaf (.pure [([],qHT)])) (.node 103 .leaf .leaf (.pure [([],qGW)])) (.pure [([],qDW)])) (.node 120 (.node 105 .leaf .leaf (.hp ⟨[.val .str,.val .str],[(.int .i64)],λ x=>strings_Compare 0 x.1 x.2.1⟩)) (.node 121 .leaf .leaf (.pure [([],qHF)])) (.pure [([],qG4)])) (.pure [([],qEP)])) (.pure [([],qDF)])) (.pure [([],i91)])) (.pure [([],i69)])) (.node 174 (.node 150 (.node 131 (.node 127 (.node 125 (.node 124 (.node 123 .leaf .leaf (.pure [([],qHR)])) .leaf (.pure [([],qHO)])) (.node 126 .leaf .leaf (.hp ⟨[],[(.list (.pair .str (.pair (.int .i64) (.pair (.int .i64) (.int .i64)))))],λ x=>qeF 0⟩)) (.pure [([],qEz)])) (.node 129 (.node 128 .leaf .leaf (.st qHq)) (.node 130 .leaf .leaf (.pure [([],qHc)])) (.st qC9)) (.st qC1)) (.node 146 (.node 134 (.node 133 (.node 132 .leaf .leaf (.pure [([],qHg)])) .leaf (.pure [([],qDo)])) (.node 143 .leaf .leaf (.pure [([],qDX)])) (.pure [([],qHi)])) (.node 148 (.node 147 .leaf .leaf (.pure [([],qAS)])) (.node 149 .leaf .leaf (.pure [([],qDz)])) (.pure [([],qHI)])) (.pure [([],qHH)])) (.pure [([],qDl)])) (.node 160 (.node 156 (.node 154 (.node 152 (.node 151 .leaf .leaf (.pure [([],qw6)])) .leaf (.pure [([],qHW)])) (.node 155 .leaf .leaf (.hx λ m=>⟨[.row .term,.clo 156 0],[.one (.row .term)],λ x=>qC m x.1⟩)) (.hm λ m=>⟨.term,[.clo 78 0],λ x=>qN m x.1⟩)) (.node 158 (.node 157 .leaf .leaf (.pure [([],qFd)])) (.node 159 .leaf .leaf (.pure [([],qEJ)])) (.pure [([],qHS)])) (.pure [([],qHa)])) (.node 168 (.node 164 (.node 163 (.node 161 .leaf .leaf (.pure [([],qG1)])) .leaf (.pure [([],qDv)])) (.node 167 .leaf .leaf (.pure [([],qDY)])) (.pure [([],qDf)])) (.node 172 (.node 169 .leaf .leaf (.pure [([],qFc)])) (.node 173 .leaf .leaf (.st qEy)) (.pure [([],qE8)])) (.st qEm)) (.pure [([],qHE)])) (.pure [([],qHZ)])) (.node 195 (.node 183 (.node 179 (.node 177 (.node 176 (.node 175 .leaf .leaf (.pure [([],qEM)])) .leaf (.pure [([],qDD)])) (.node 178 .leaf .leaf (.pure [([],qDO)])) (.pure [([],qC4)])) (.node 181 (.node 180 .leaf .leaf (.pure [([],qCV)])) (.node 182 .leaf .leaf (.pure [([],qHK)])) (.pure [([],qE4)])) (.st qEg)) (.node 190 (.node 188 (.node 185 (.node 184 .leaf .leaf (.pure [([],qC3)])) .leaf (.pure [([],qHl)])) (.node 189 .leaf .leaf (.pure [([],qFl)])) (.pure [([],qDq)])) (.node 192 (.node 191 .leaf .leaf (.pure [([],qDa)])) (.node 193 .leaf .leaf (.pure [([],qHt)])) (.pure [([],qG5)])) (.pure [([],qHu)])) (.pure [([],qAv)])) (.node 215 (.node 201 (.node 199 (.node 198 (.node 197 .leaf .leaf (.pure [([],qDS)])) .leaf (.pure [([],qHz)])) (.node 200 .leaf .leaf (.hs ⟨[.val (.list .term)],[.one (.row .term)],λ x=>zx 0 x.1⟩)) (.st qHC)) (.node 203 (.node 202 .leaf .leaf (.st qFk)) (.node 214 .leaf .leaf (.pure [([],qET)])) (.pure [([],qG3)])) (.hs ⟨[.nil,.val (.int .i64)],[.one (.row .term)],λ x=>yh 0 x.1⟩)) (.node 222 (.node 220 (.node 219 .leaf .leaf (.pure [([220],qDe)])) (.node 221 .leaf .leaf (.hs ⟨[.row (.pair .term (.int .i64)),.val (.int .i64),.val (.list (.pair .term (.int .i64)))],[.one (.row (.pair .term (.int .i64)))],λ x=>zj 0 x.1 x.2.1 x.2.2.1⟩)) (.pure [([],qG7)])) (.node 224 (.node 223 .leaf .leaf (.pure [([224],qG0)])) (.node 235 .leaf .leaf (.pure [([224],qEI)])) (.pure [([],qHG)])) (.hs ⟨[.row (.pair .term (.int .i64)),.val (.int .i64),.val (.int .i64)],[.one (.row (.pair .term (.int .i64)))],λ x=>zi 0 x.1 x.2.1 x.2.2.1⟩)) (.pure [([],qsP)])) (.pure [([],qH4)])) (.pure [([],qHA)])) (.pure [([],qHd)])⟩
end Go.AmZ
namespace Go.AmZ
open Go Go.GxZ
set_option linter.unusedVariables false
set_option maxRecDepth 100000
theorem qwl (m a0):qdJ (m+1) a0=tb.runP1 m qHi [] (a0,()):=by kernel_rfl
noncomputable def qjo (m k x0 x1 x2):=tb.PL qDW 4 m k [(0,.s x0),(38,.i .i64 x1),(39,.i .i64 x2)] ⟨[],[]⟩
theorem qrX (m k):jB m k=qjo m k:=qQ (M:=qjo m) rfl (λ _=>by kernel_rfl) k
theorem qsE (m a0):qar (m+1) a0=tb.runP1 m qDW [] (a0,()):=(congrArg (λ L=>qcA m L a0) (qrX m m)).trans (by kernel_rfl)
noncomputable def qk4 (m k x0 x1 x2 x3 x4 x5):=tb.QL i74 17 m k [(1,.i .i64 x0),(2,.ptr 0 0),(3,.ptr 1 0),(57,.sl .term x1 1),(58,.i .i64 x2),(59,.i .i64 x3)] ⟨[[.i .i64 x4],[.i .i64 x5]],[]⟩
theorem qsw (m k):yI m (zy m) k=qk4 m k:=qQ (M:=qk4 m) rfl (λ _=>by kernel_rfl) k
theorem qvg (m a0 a1 a2 a3):zy (m+1) a0 a1 a2 a3=tb.runS1 m i74 (a0,a1,a2,a3,()):=(congrArg (λ L=>qdr m (zy m) L a0 a1 a2 a3) (qsw m m)).trans (by kernel_rfl)
theorem quY (m a0):qH (m+1) a0=tb.runP1 m i45 [] (a0,()):=by kernel_rfl
noncomputable def qhL (m k x0 x1 x2 x3 x4 x5 x6 x7):=tb.PL i95 2 m k [(0,.s x0),(2,.ptr 0 0),(5,.sl (.pair .str (.pair (.int .i64) (.pair (.int .i64) (.int .i64)))) x1 1),(6,.i .i64 x2),(7,.i .i64 x3)] ⟨[[.s x4,.i .i64 x5,.i .i64 x6,.i .i64 x7]],[]⟩
theorem qnP (m k):jY m k=qhL m k:=qQ (M:=qhL m) rfl (λ _=>by kernel_rfl) k
theorem qpt (m a0):JR (m+1) a0=tb.runP1 m i95 [] (a0,()):=(congrArg (λ L=>qaY m L a0) (qnP m m)).trans (by kernel_rfl)
noncomputable def qij (m k x0 x1 x2 x3 x4 x5 x6):=tb.PL qAS 13 m k [(1,.ptr 0 0),(38,.sl .term x0 1),(39,.i .i64 x1),(40,.i .i64 x2)] ⟨[[.i .i64 x3,.s x4,.i .i64 x5,.sl .term x6 1]],[]⟩
noncomputable def qhZ (m k x0 x1 x2):=tb.PL qAS 22 m k [(62,.sl .term x0 1),(63,.i .i64 x1),(64,.i .i64 x2)] ⟨[],[]⟩
theorem qpr (m k):qI m (qy m) k=(qij m k,qhZ m k):=qQ (M := λ k=>(qij m k,qhZ m k)) rfl (λ _=>by kernel_rfl) k
theorem qqp (m a0):qy (m+1) a0=tb.runP1 m qAS [] (a0,()):=(congrArg (a₁ := qI m (qy m) m) (λ L=>qbT m (qy m) L.1 L.2 a0) (qpr m m)).trans (by kernel_rfl)
theorem qqK (m a0):qb3 (m+1) a0=tb.runP1 m qHO [] (a0,()):=by kernel_rfl
theorem qw8 (m a0 a1):qaS (m+1) a0 a1=tb.runP1 m qGW [] (a0,a1,()):=by kernel_rfl
noncomputable def qlG (m k x0 x1 x2 x3):=tb.PL qEP 3 m k [(3,.i .i64 x0),(7,.sl .term x1 1),(8,.i .i64 x2),(9,.i .i64 x3)] ⟨[],[]⟩
theorem quX (m k):qaq m (yW m) k=qlG m k:=qQ (M:=qlG m) rfl (λ _=>by kernel_rfl) k
theorem qvZ (m a0):yW (m+1) a0=tb.runP1 m qEP [] (a0,()):=(congrArg (λ L=>qef m (yW m) L a0) (quX m m)).trans (by kernel_rfl)
noncomputable def qio (m k x0 x1 x2 x3 x4 x5 x6 x7 x8 x9):=tb.PL i78 11 m k [(2,.ptr 0 0),(3,.ptr 1 0),(5,.i .i64 x0),(6,.i .i64 x1)] ⟨[[.i .i64 x2,.s x3,.i .i64 x4,.sl .term x5 1],[.i .i64 x6,.s x7,.i .i64 x8,.sl .term x9 1]],[]⟩
theorem qpD (m k):jb m (qm m) k=qio m k:=qQ (M:=qio m) rfl (λ _=>by kernel_rfl) k
theorem qqO (m a0 a1):qm (m+1) a0 a1=tb.runP1 m i78 [] (a0,a1,()):=(congrArg (λ L=>qbI m (qm m) L a0 a1) (qpD m m)).trans (by kernel_rfl)
theorem qtc (m a0 a1):jU (m+1) a0 a1=tb.runP1 m i92 [] (a0,a1,()):=by kernel_rfl
theorem qxU (m a0 a1):yj (m+1) a0 a1=tb.runP1 m qHA [] (a0,a1,()):=by kernel_rfl
theorem qnR (m a0):Jq (m+1) a0=tb.runP1 m qHI [] (a0,()):=by kernel_rfl
noncomputable def Q4 (m k x0 x1 x2 x3 x4):=tb.PL qAv 3 m k [(0,.sl (.list .term) x0 1),(3,.i .i64 x1),(9,.sl (.list .term) x2 1),(10,.i .i64 x3),(11,.i .i64 x4)] ⟨[],[]⟩
noncomputable def Q5 (m k x0 x1 x2 x3):=tb.PL qAv 11 m k [(6,.row 0 0),(25,.sl (.list .term) x0 1),(26,.i .i64 x1),(27,.i .i64 x2)] ⟨[],[⟨.term,x3,0,0,false⟩]⟩
theorem qcJ (m k):qi m k=(Q4 m k,Q5 m k):=qQ (M := λ k=>(Q4 m k,Q5 m k)) rfl (λ _=>by kernel_rfl) k
theorem qcZ (m a0):q9 (m+1) a0=tb.runP1 m qAv [] (a0,()):=(congrArg (a₁ := qi m m) (λ L=>ym m L.1 L.2 a0) (qcJ m m)).trans (by kernel_rfl)
noncomputable def qlW (m k x0 x1 x2):=tb.PL qEM 4 m k [(14,.sl .term x0 1),(15,.i .i64 x1),(16,.i .i64 x2)] ⟨[],[]⟩
theorem qul (m k):qai m k=qlW m k:=qQ (M:=qlW m) rfl (λ _=>by kernel_rfl) k
theorem qwC (m a0 a1):qfD (m+1) a0 a1=tb.runP1 m qEM [] (a0,a1,()):=(congrArg (λ L=>qew m L a0 a1) (qul m m)).trans (by kernel_rfl)
noncomputable def qof (m k x0 x1 x2):=tb.PL qDD 2 m k [(0,.sl .term x0 1),(1,.sl .term x1 1),(5,.row 0 0)] ⟨[],[⟨.term,x2,0,0,false⟩]⟩
theorem qwG (m k):qbd m k=qof m k:=qQ (M:=qof m) rfl (λ _=>by kernel_rfl) k
theorem qyC (m a0 a1):qe2 (m+1) a0 a1=tb.runP1 m qDD [] (a0,a1,()):=(congrArg (λ L=>qff m L a0 a1) (qwG m m)).trans (by kernel_rfl)
noncomputable def qhS (m k x0 x1 x2 x3):=tb.PL qC4 6 m k [(3,.sl .term x0 1),(31,.sl .term x1 1),(32,.i .i64 x2),(33,.i .i64 x3)] ⟨[],[]⟩
theorem qpe (m k):jK m (zM m) k=qhS m k:=qQ (M:=qhS m) rfl (λ _=>by kernel_rfl) k
theorem qq0 (m a0):zM (m+1) a0=tb.runP1 m qC4 [] (a0,()):=(congrArg (λ L=>qbL m (zM m) L a0) (qpe m m)).trans (by kernel_rfl)
noncomputable def qk8 (m k x0 x1 x2 x3 x4 x5 x6 x7 x8 x9 x10):=tb.PL i97 4 m k [(1,.ptr 0 0),(2,.ptr 1 0),(9,.sl .term x0 1),(10,.i .i64 x1),(11,.i .i64 x2)] ⟨[[.i .i64 x3,.s x4,.i .i64 x5,.row 0 0],[.i .i64 x6,.s x7,.i .i64 x8,.row 1 0]],[⟨.term,x9,0,0,false⟩,⟨.term,x10,0,0,false⟩]⟩
theorem qsm (m k):JA m (yd m) k=qk8 m k:=qQ (M:=qk8 m) rfl (λ _=>by kernel_rfl) k
theorem quD (m a0):yd (m+1) a0=tb.runP1 m i97 [] (a0,()):=(congrArg (λ L=>qdq m (yd m) L a0) (qsm m m)).trans (by kernel_rfl)
noncomputable def qh4 (m k x0 x1 x2 x3 x4 x5 x6 x7 x8 x9 x10 x11 x12 x13 x14):=tb.PL qDS 4 m k [(5,.ptr 0 0),(6,.ptr 1 0),(8,.ptr 2 0),(9,.ptr 2 0),(14,.sl (.int .i64) x0 1),(15,.i .i64 x1),(16,.i .i64 x2)] ⟨[[.i .i64 x3,.s x4,.i .i64 x5,.sl .term x6 1],[.i .i64 x7,.s x8,.i .i64 x9,.row 0 0],[.i .i64 x10,.s x11,.i .i64 x12,.sl .term x13 1]],[⟨.term,x14,0,0,false⟩]⟩
theorem qpn (m k):Jo m k=qh4 m k:=qQ (M:=qh4 m) rfl (λ _=>by kernel_rfl) k
theorem qq8 (m a0 a1 a2):qb7 (m+1) a0 a1 a2=tb.runP1 m qDS [] (a0,a1,a2,()):=(congrArg (λ L=>qbM m L a0 a1 a2) (qpn m m)).trans (by kernel_rfl)
noncomputable def qro (m k x0 x1 x2 x3):=tb.PL qDO 3 m k [(3,.row 0 0),(9,.sl .term x0 1),(10,.i .i64 x1),(11,.i .i64 x2)] ⟨[],[⟨.term,x3,0,0,false⟩]⟩
theorem qyv (m k):qcv m (QE m) k=qro m k:=qQ (M:=qro m) rfl (λ _=>by kernel_rfl) k
theorem qAH (m a0):QE (m+1) a0=tb.runP1 m qDO [] (a0,()):=(congrArg (λ L=>qgy m (QE m) L a0) (qyv m m)).trans (by kernel_rfl)
noncomputable def qrL (m k x0 x1 x2 x3 x4 x5 x6 x7):=tb.PL qDz 6 m k [(2,.ptr 0 0),(5,.sl .term x0 1),(15,.sl .term x1 1),(16,.i .i64 x2),(17,.i .i64 x3)] ⟨[[.i .i64 x4,.s x5,.i .i64 x6,.row 0 0]],[⟨.term,x7,0,0,true⟩]⟩
theorem qyo (m k):qco m k=qrL m k:=qQ (M:=qrL m) rfl (λ _=>by kernel_rfl) k
theorem qzX (m a0):qjf (m+1) a0=tb.runP1 m qDz [] (a0,()):=(congrArg (λ L=>qgd m L a0) (qyo m m)).trans (by kernel_rfl)
theorem qm9 (m a0):QU (m+1) a0=tb.runP1 m qHz [] (a0,()):=by kernel_rfl
noncomputable def qf5 (m k x0 x1 x2 x3 x4 x5 x6 x7 x8 x9):=tb.PL qE4 3 m k [(1,.ptr 0 0),(2,.ptr 1 0),(10,.row 0 0),(11,.i .i64 x0),(12,.i .i64 x1)] ⟨[[.i .i64 x2,.s x3,.i .i64 x4,.row 0 0],[.i .i64 x5,.s x6,.i .i64 x7,.row 1 0]],[⟨.term,x8,0,0,false⟩,⟨.term,x9,0,0,false⟩]⟩
theorem qmS (m k):jE m (qZ m) k=qf5 m k:=qQ (M:=qf5 m) rfl (λ _=>by kernel_rfl) k
theorem qnZ (m a0):qZ (m+1) a0=tb.runP1 m qE4 [] (a0,()):=(congrArg (λ L=>qau m (qZ m) L a0) (qmS m m)).trans (by kernel_rfl)
theorem qj0 (m a0 a1):Qh (m+1) a0 a1=tb.runP1 m qG7 [] (a0,a1,()):=by kernel_rfl
noncomputable def zU (m k x0 x1 x2 x3 x4 x5 x6 x7):=tb.PL qDe 3 m k [(0,.sl (.pair .term (.int .i64)) x0 1),(2,.fn 220 []),(4,.ptr 0 0),(8,.i .i64 x1),(9,.i .i64 x2),(10,.i .i64 x3)] ⟨[[.i .i64 x4,.s x5,.i .i64 x6,.sl .term x7 1]],[]⟩
theorem jI (m k):qj m k=zU m k:=qQ (M:=zU m) rfl (λ _=>by kernel_rfl) k
theorem jQ (m a0 a1):qv (m+1) a0 a1=tb.runP1 m qDe [220] (a0,a1,()):=(congrArg (λ L=>qB m L a0 a1) (jI m m)).trans (by kernel_rfl)
theorem qmx (m a0 a1):QY (m+1) a0 a1=tb.runS1 m qHC (a0,a1,()):=by kernel_rfl
noncomputable def qey (m k x0 x1 x2 x3 x4):=tb.QL qEg 12 m k [(0,.row 0 0),(2,.i .i64 x0),(52,.sl .term x1 1),(53,.i .i64 x2),(54,.i .i64 x3)] ⟨[],[⟨(.pair .term (.int .i64)),x4,0,0,false⟩]⟩
theorem qj2 (m k):yA m (qX m) k=qey m k:=qQ (M:=qey m) rfl (λ _=>by kernel_rfl) k
theorem qlA (m a0 a1 a2):qX (m+1) a0 a1 a2=tb.runS1 m qEg (a0,a1,a2,()):=(congrArg (λ L=>JK m (qX m) L a0 a1 a2) (qj2 m m)).trans (by kernel_rfl)
theorem qsa (m a0):Jm (m+1) a0=tb.runP1 m qHZ [] (a0,()):=by kernel_rfl
noncomputable def qf7 (m k x0 x1 x2 x3):=tb.PL qCV 4 m k [(0,.sl (.pair .term (.int .i64)) x0 1),(9,.sl (.pair .term (.int .i64)) x1 1),(10,.i .i64 x2),(11,.i .i64 x3)] ⟨[],[]⟩
theorem qmX (m k):yX m k=qf7 m k:=qQ (M:=qf7 m) rfl (λ _=>by kernel_rfl) k
theorem qnO (m a0):Qv (m+1) a0=tb.runP1 m qCV [] (a0,()):=(congrArg (λ L=>qay m L a0) (qmX m m)).trans (by kernel_rfl)
theorem qqe (m a0 a1):qaH (m+1) a0 a1=tb.runP1 m qHK [] (a0,a1,()):=by kernel_rfl
noncomputable def qhc (m k x0 x1 x2 x3 x4 x5 x6 x7 x8):=tb.PL qw6 6 m k [(2,.ptr 0 0),(5,.row 1 0),(6,.row 2 0),(18,.sl (.pair .term (.int .i64)) x0 1),(19,.i .i64 x1),(20,.i .i64 x2)] ⟨[[.i .i64 x3,.s x4,.i .i64 x5,.row 0 0]],[⟨.term,x6,0,0,false⟩,⟨.term,x7,0,0,false⟩,⟨.term,x8,0,0,false⟩]⟩
noncomputable def qhl (m k x0 x1 x2 x3 x4 x5 x6 x7 x8 x9 x10 x11 x12 x13 x14 x15):=tb.PL qw6 11 m k [(2,.ptr 0 0),(5,.row 1 0),(6,.row 2 0),(8,.ptr 1 0),(18,.sl (.pair .term (.int .i64)) x0 1),(19,.i .i64 x1),(20,.i .i64 x2),(34,.i .i64 x3),(35,.i .i64 x4)] ⟨[[.i .i64 x5,.s x6,.i .i64 x7,.row 0 0],[.i .i64 x8,.s x9,.i .i64 x10,.sl .term x11 1,.i .i64 x12]],[⟨.term,x13,0,0,false⟩,⟨.term,x14,0,0,false⟩,⟨.term,x15,0,0,false⟩]⟩
noncomputable def qgW (m k x0 x1 x2 x3 x4 x5 x6 x7 x8 x9 x10 x11 x12 x13 x14 x15):=tb.PL qw6 15 m k [(2,.ptr 0 0),(5,.row 1 0),(6,.row 2 0),(8,.ptr 1 0),(18,.sl (.pair .term (.int .i64)) x0 1),(19,.i .i64 x1),(20,.i .i64 x2),(46,.i .i64 x3),(47,.i .i64 x4)] ⟨[[.i .i64 x5,.s x6,.i .i64 x7,.row 0 0],[.i .i64 x8,.s x9,.i .i64 x10,.sl .term x11 1,.i .i64 x12]],[⟨.term,x13,0,0,false⟩,⟨.term,x14,0,0,false⟩,⟨.term,x15,0,0,false⟩]⟩
theorem qnY (m k):qp m k=(qhc m k,qhl m k,qgW m k):=qQ (M := λ k=>(qhc m k,qhl m k,qgW m k)) rfl (λ _=>by kernel_rfl) k
theorem qoz (m a0):jA (m+1) a0=tb.runP1 m qw6 [] (a0,()):=(congrArg (a₁ := qp m m) (λ L=>qbe m L.1 L.2.1 L.2.2 a0) (qnY m m)).trans (by kernel_rfl)
noncomputable def qfv (m k x0 x1 x2 x3):=tb.QL qFk 3 m k [(3,.row 0 0),(6,.sl (.pair .term (.int .i64)) x0 1),(7,.i .i64 x1),(8,.i .i64 x2)] ⟨[],[⟨(.pair .term (.int .i64)),x3,0,0,false⟩]⟩
theorem qlF (m k):jl m k=qfv m k:=qQ (M:=qfv m) rfl (λ _=>by kernel_rfl) k
theorem qlY (m a0):JY (m+1) a0=tb.runS1 m qFk (a0,()):=(congrArg (λ L=>J8 m L a0) (qlF m m)).trans (by kernel_rfl)
theorem qko (m a0):Q8 (m+1) a0=tb.runP1 m qHG [] (a0,()):=by kernel_rfl
noncomputable def jg (m k x0 x1 x2):=tb.PL qEI 2 m k [(0,.sl (.pair .term (.int .i64)) x0 1),(1,.fn 224 []),(7,.i .i64 x1),(8,.i .i64 x2)] ⟨[],[]⟩
theorem JM (m k):qu m k=jg m k:=qQ (M:=jg m) rfl (λ _=>by kernel_rfl) k
theorem JP (m a0):qU (m+1) a0=tb.runP1 m qEI [224] (a0,()):=(congrArg (λ L=>zk m L a0) (JM m m)).trans (by kernel_rfl)
theorem Jn (m a0):qK (m+1) a0=tb.runP1 m qG0 [224] (a0,()):=by kernel_rfl
theorem qlN (m a0):J6 (m+1) a0=tb.runP1 m qG3 [] (a0,()):=by kernel_rfl
noncomputable def qiq (m k x0 x1 x2 x3):=tb.PL qC3 9 m k [(8,.row 0 0),(23,.sl (.pair .term (.int .i64)) x0 1),(24,.i .i64 x1),(25,.i .i64 x2)] ⟨[],[⟨(.pair .term (.int .i64)),x3,0,0,false⟩]⟩
theorem qoQ (m k):QA m k=qiq m k:=qQ (M:=qiq m) rfl (λ _=>by kernel_rfl) k
theorem qp4 (m a0 a1):qbZ (m+1) a0 a1=tb.runP1 m qC3 [] (a0,a1,()):=(congrArg (λ L=>qbH m L a0 a1) (qoQ m m)).trans (by kernel_rfl)
theorem qvj (m a0 a1):qcC (m+1) a0 a1=tb.runP1 m qHl [] (a0,a1,()):=by kernel_rfl
theorem qrP (m a0 a1):qcd (m+1) a0 a1=tb.runP1 m qHW [] (a0,a1,()):=by kernel_rfl
noncomputable def qhB (m k x0 x1 x2 x3 x4 x5 x6 x7 x8 x9 x10 x11 x12 x13 x14):=tb.PL qEz 5 m k [(1,.ptr 0 0),(2,.ptr 1 0),(4,.ptr 2 0),(19,.sl .term x0 1),(20,.i .i64 x1),(21,.i .i64 x2)] ⟨[[.i .i64 x3,.s x4,.i .i64 x5,.sl .term x6 1],[.i .i64 x7,.s x8,.i .i64 x9,.row 0 0],[.i .i64 x10,.s x11,.i .i64 x12,.row 1 0]],[⟨.term,x13,0,0,false⟩,⟨.term,x14,0,0,false⟩]⟩
theorem qnS (m k):Qb m (zH m) k=qhB m k:=qQ (M:=qhB m) rfl (λ _=>by kernel_rfl) k
theorem qpQ (m a0):zH (m+1) a0=tb.runP1 m qEz [] (a0,()):=(congrArg (λ L=>qbc m (zH m) L a0) (qnS m m)).trans (by kernel_rfl)
theorem qoO (m a0):qbk (m+1) a0=tb.runP1 m i91 [] (a0,()):=by kernel_rfl
theorem qnK (m a0):qaA (m+1) a0=tb.runP1 m i94 [] (a0,()):=by kernel_rfl
noncomputable def qdK (m k x0 x1 x2):=tb.PL i93 4 m k [(1,.fn 94 []),(18,.sl .term x0 1),(19,.i .i64 x1),(20,.i .i64 x2)] ⟨[],[]⟩
theorem qiG (m k):zZ m (qE m) k=qdK m k:=qQ (M:=qdK m) rfl (λ _=>by kernel_rfl) k
theorem qjD (m a0):qE (m+1) a0=tb.runP1 m i93 [94] (a0,()):=(congrArg (λ L=>QZ m (qE m) L a0) (qiG m m)).trans (by kernel_rfl)
theorem qqy (m a0):qbW (m+1) a0=tb.runP1 m i68 [] (a0,()):=by kernel_rfl
theorem qhO (m a0 a1 a2):Qa (m+1) a0 a1 a2=tb.runS1 m qHq (a0,a1,a2,()):=by kernel_rfl
noncomputable def qdZ (m k x0 x1 x2 x3 x4):=tb.QL qC1 3 m k [(1,.fn 128 [.ptr 0 0,.ptr 1 0]),(10,.sl .term x0 1),(11,.i .i64 x1),(12,.i .i64 x2)] ⟨[[.i .i64 x3],[.row 0 0]],[⟨.term,x4,0,0,false⟩]⟩
theorem qjn (m k):yN m (qY m) k=qdZ m k:=qQ (M:=qdZ m) rfl (λ _=>by kernel_rfl) k
theorem qkv (m a0 a1_0 a1_1):qY (m+1) a0 a1_0 a1_1=tb.runS1 m qC1 (a0,a1_0,a1_1,()):=(congrArg (λ L=>Jb m (qY m) L a0 a1_0 a1_1) (qjn m m)).trans (by kernel_rfl)
theorem qnJ (m a0 a1):zY (m+1) a0 a1=tb.runP1 m qHa [] (a0,a1,()):=by kernel_rfl
noncomputable def qik (m k x0 x1 x2):=tb.QL qC9 4 m k [(0,.row 0 0),(9,.i .i64 x0),(10,.i .i64 x1)] ⟨[],[⟨.term,x2,0,0,false⟩]⟩
theorem qoY (m k):Qx m k=qik m k:=qQ (M:=qik m) rfl (λ _=>by kernel_rfl) k
theorem qqc (m a0):qb9 (m+1) a0=tb.runS1 m qC9 (a0,()):=(congrArg (λ L=>qbK m L a0) (qoY m m)).trans (by kernel_rfl)
theorem qto (m a0 a1):qfl (m+1) a0 a1=tb.runP1 m i96 [] (a0,a1,()):=by kernel_rfl
theorem qvV (m a0):qfq (m+1) a0=tb.runP1 m i69 [] (a0,()):=by kernel_rfl
theorem qpF (m a0):za (m+1) a0=tb.runP1 m i41 [] (a0,()):=by kernel_rfl
noncomputable def qrA (m k x0 x1 x2 x3 x4 x5 x6 x7 x8 x9 x10):=tb.PL i70 2 m k [(2,.ptr 0 0),(4,.ptr 1 0),(8,.sl (.int .i64) x0 1),(9,.i .i64 x1),(10,.i .i64 x2)] ⟨[[.i .i64 x3,.s x4,.i .i64 x5,.sl .term x6 1],[.i .i64 x7,.s x8,.i .i64 x9,.row 0 0]],[⟨.term,x10,0,0,false⟩]⟩
theorem qys (m k):qdT m k=qrA m k:=qQ (M:=qrA m) rfl (λ _=>by kernel_rfl) k
theorem qz8 (m a0 a1):qji (m+1) a0 a1=tb.runP1 m i70 [] (a0,a1,()):=(congrArg (λ L=>qgj m L a0 a1) (qys m m)).trans (by kernel_rfl)
theorem qnV (m a0):zX (m+1) a0=tb.runP1 m i42 [] (a0,()):=by kernel_rfl
theorem qsp (m a0):qam (m+1) a0=tb.runP1 m i12 [] (a0,()):=by kernel_rfl
theorem qmn (m a0 a1):QW (m+1) a0 a1=tb.runP1 m i65 [] (a0,a1,()):=by kernel_rfl
theorem qr9 (m a0):qc3 (m+1) a0=tb.runP1 m i73 [] (a0,()):=by kernel_rfl
theorem qp3 (m a0):JC (m+1) a0=tb.runP1 m i44 [] (a0,()):=by kernel_rfl
theorem qs7 (m a0):qah (m+1) a0=tb.runP1 m i46 [] (a0,()):=by kernel_rfl
noncomputable def qjj (m k x0 x1 x2 x3 x4 x5 x6 x7 x8 x9):=tb.PL i14 7 m k [(4,.ptr 0 0),(6,.ptr 1 0),(21,.i .i64 x0),(22,.i .i64 x1)] ⟨[[.i .i64 x2,.s x3,.i .i64 x4,.row 0 0],[.i .i64 x5,.s x6,.i .i64 x7,.sl .term x8 1]],[⟨.term,x9,0,0,false⟩]⟩
theorem qq1 (m k):qlj m k=qjj m k:=qQ (M:=qjj m) rfl (λ _=>by kernel_rfl) k
theorem qsG (m a0 a1):qfk (m+1) a0 a1=tb.runP1 m i14 [] (a0,a1,()):=(congrArg (λ L=>qiU m L a0 a1) (qq1 m m)).trans (by kernel_rfl)
theorem qqh (m a0 a1):QQ (m+1) a0 a1=tb.runP1 m i76 [] (a0,a1,()):=by kernel_rfl
noncomputable def qlq (m k x0 x1 x2 x3 x4 x5):=tb.PL i77 3 m k [(1,.ptr 0 0),(3,.i .i64 x0),(4,.i .i64 x1)] ⟨[[.i .i64 x2,.s x3,.i .i64 x4,.sl .term x5 1]],[]⟩
theorem qsF (m k):Jt m (yo m) k=qlq m k:=qQ (M:=qlq m) rfl (λ _=>by kernel_rfl) k
theorem quN (m a0):yo (m+1) a0=tb.runP1 m i77 [] (a0,()):=(congrArg (λ L=>qdn m (yo m) L a0) (qsF m m)).trans (by kernel_rfl)
noncomputable def qgY (m k x0 x1 x2 x3 x4 x5 x6 x7 x8):=tb.PL i50 18 m k [(2,.ptr 0 0),(3,.ptr 1 0),(9,.i .i64 x0)] ⟨[[.i .i64 x1,.s x2,.i .i64 x3,.sl .term x4 1],[.i .i64 x5,.s x6,.i .i64 x7,.sl .term x8 1]],[]⟩
theorem qnF (m k):Qg m (zh m) k=qgY m k:=qQ (M:=qgY m) rfl (λ _=>by kernel_rfl) k
theorem qpC (m a0 a1):zh (m+1) a0 a1=tb.runP1 m i50 [] (a0,a1,()):=(congrArg (λ L=>qa8 m (zh m) L a0 a1) (qnF m m)).trans (by kernel_rfl)
theorem qu8 (m a0 a1):yP (m+1) a0 a1=tb.runP1 m i17 [] (a0,a1,()):=by kernel_rfl
noncomputable def qg3 (m k x0 x1 x2 x3 x4 x5 x6 x7 x8 x9 x10):=tb.PL i21 5 m k [(1,.ptr 0 0),(3,.i .i64 x0),(39,.sl (.pair (.int .i64) .term) x1 1),(40,.i .i64 x2),(41,.i .i64 x3)] ⟨[[.i .i64 x4,.s x5,.i .i64 x6,.sl .term x7 1,.i .i64 x8,.sl (.pair (.int .i64) .term) x9 1,.i .i64 x10]],[]⟩
theorem qnX (m k):Qf m k=qg3 m k:=qQ (M:=qg3 m) rfl (λ _=>by kernel_rfl) k
theorem qoR (m a0):JT (m+1) a0=tb.runP1 m i21 [] (a0,()):=(congrArg (λ L=>qa9 m L a0) (qnX m m)).trans (by kernel_rfl)
noncomputable def qjC (m k x0 x1 x2 x3 x4 x5 x6 x7 x8 x9 x10 x11 x12 x13 x14 x15 x16 x17):=tb.QL i51 4 m k [(1,.ptr 0 0),(2,.ptr 1 0),(3,.row 2 0),(11,.sl (.pair (.int .i64) .term) x0 1),(12,.i .i64 x1),(13,.i .i64 x2)] ⟨[[.i .i64 x3,.s x4,.i .i64 x5,.sl .term x6 1,.i .i64 x7,.sl (.pair (.int .i64) .term) x8 1,.i .i64 x9],[.i .i64 x10,.s x11,.i .i64 x12,.row 0 0,.i .i64 x13,.row 1 0,.i .i64 x14]],[⟨.term,x15,0,0,false⟩,⟨(.pair (.int .i64) .term),x16,0,0,false⟩,⟨(.pair (.int .i64) .term),x17,0,0,false⟩]⟩
theorem qrQ (m k):Q3 m k=qjC m k:=qQ (M:=qjC m) rfl (λ _=>by kernel_rfl) k
theorem qsS (m a0):qbz (m+1) a0=tb.runS1 m i51 (a0,()):=(congrArg (λ L=>qcL m L a0) (qrQ m m)).trans (by kernel_rfl)
theorem qn1 (m a0 a1):Jp (m+1) a0 a1=tb.runP1 m i54 [] (a0,a1,()):=by kernel_rfl
noncomputable def qfs (m k x0 x1 x2 x3 x4 x5 x6 x7 x8 x9 x10 x11 x12 x13 x14 x15 x16 x17 x18 x19 x20 x21 x22):=tb.PL i19 17 m k [(3,.ptr 0 0),(4,.ptr 1 0),(5,.ptr 2 0),(7,.ptr 3 0)] ⟨[[.i .i64 x0,.i .i64 x1,.s x2,.i .i64 x3,.sl .term x4 1],[.i .i64 x5,.s x6,.i .i64 x7,.row 0 0,.i .i64 x8,.row 1 0,.i .i64 x9],[.i .i64 x10,.s x11,.i .i64 x12,.row 2 0],[.i .i64 x13,.s x14,.i .i64 x15,.sl .term x16 1,.i .i64 x17,.row 3 0,.i .i64 x18]],[⟨.term,x19,0,0,false⟩,⟨(.pair (.int .i64) .term),x20,0,0,false⟩,⟨.term,x21,0,0,false⟩,⟨(.pair (.int .i64) .term),x22,0,0,true⟩]⟩
theorem qlD (m k):ji m k=qfs m k:=qQ (M:=qfs m) rfl (λ _=>by kernel_rfl) k
theorem qmh (m a0 a1):jn (m+1) a0 a1=tb.runP1 m i19 [] (a0,a1,()):=(congrArg (λ L=>J4 m L a0 a1) (qlD m m)).trans (by kernel_rfl)
theorem qvm (m a0 a1):qcQ (m+1) a0 a1=tb.runP1 m i23 [] (a0,a1,()):=by kernel_rfl
theorem qur (m):QJ (m+1)=tb.runP1 m i22 [] (()):=by kernel_rfl
theorem qre (m a0):qcw (m+1) a0=tb.runP1 m qG4 [] (a0,()):=by kernel_rfl
theorem qsi (m a0):qfi (m+1) a0=tb.runP1 m qHF [] (a0,()):=by kernel_rfl
noncomputable def qlh (m k x0 x1):=tb.PL i86 2 m k [(0,.s x0),(3,.i .i64 x1)] ⟨[],[]⟩
theorem qrY (m k):qmq m k=qlh m k:=qQ (M:=qlh m) rfl (λ _=>by kernel_rfl) k
theorem quG (m a0):qeg (m+1) a0=tb.runP1 m i86 [] (a0,()):=(congrArg (λ L=>qlu m L a0) (qrY m m)).trans (by kernel_rfl)
noncomputable def qhX (m k x0 x1):=tb.PL i87 4 m k [(0,.s x0),(3,.i .i64 x1)] ⟨[],[]⟩
theorem qpm (m k):qi3 m k=qhX m k:=qQ (M:=qhX m) rfl (λ _=>by kernel_rfl) k
theorem qrN (m a0):qb4 (m+1) a0=tb.runP1 m i87 [] (a0,()):=(congrArg (λ L=>qhR m L a0) (qpm m m)).trans (by kernel_rfl)
theorem quF (m a0):qkd (m+1) a0=tb.runP1 m qHd [] (a0,()):=by kernel_rfl
noncomputable def qlx (m k x0 x1 x2 x3 x4 x5 x6 x7 x8 x9 x10):=tb.PL i88 5 m k [(1,.s x0),(2,.ptr 0 0),(4,.ptr 1 0),(7,.s x1),(8,.i .i64 x2)] ⟨[[.i .i64 x3,.s x4,.i .i64 x5,.sl .term x6 1],[.i .i64 x7,.s x8,.i .i64 x9,.row 0 0]],[⟨.term,x10,0,0,false⟩]⟩
theorem qsh (m k):qmO m k=qlx m k:=qQ (M:=qlx m) rfl (λ _=>by kernel_rfl) k
theorem qvb (m a0 a1):qgs (m+1) a0 a1=tb.runP1 m i88 [] (a0,a1,()):=(congrArg (λ L=>qk1 m L a0 a1) (qsh m m)).trans (by kernel_rfl)
noncomputable def qlp (m k x0 x1 x2 x3 x4 x5 x6 x7 x8 x9):=tb.PL i66 13 m k [(0,.s x0),(1,.i .i64 x1),(4,.ptr 0 0),(7,.ptr 1 0)] ⟨[[.i .i64 x2,.s x3,.i .i64 x4,.row 0 0],[.i .i64 x5,.s x6,.i .i64 x7,.row 1 0]],[⟨.term,x8,0,0,false⟩,⟨.term,x9,0,0,false⟩]⟩
theorem qte (m k):ql7 m (qd6 m) k=qlp m k:=qQ (M:=qlp m) rfl (λ _=>by kernel_rfl) k
theorem quA (m a0 a1):qd6 (m+1) a0 a1=tb.runP1 m i66 [] (a0,a1,()):=(congrArg (λ L=>qlo m (qd6 m) L a0 a1) (qte m m)).trans (by kernel_rfl)
theorem qvk (m a0):qj6 (m+1) a0=tb.runP1 m qHR [] (a0,()):=by kernel_rfl
noncomputable def qi2 (m k x0 x1 x2 x3 x4):=tb.PL i89 5 m k [(1,.ptr 0 0),(4,.i .i64 x0)] ⟨[[.i .i64 x1,.s x2,.i .i64 x3,.sl .term x4 1]],[]⟩
theorem qqE (m k):qla m (qdd m) k=qi2 m k:=qQ (M:=qi2 m) rfl (λ _=>by kernel_rfl) k
theorem qs9 (m a0):qdd (m+1) a0=tb.runP1 m i89 [] (a0,()):=(congrArg (λ L=>qjc m (qdd m) L a0) (qqE m m)).trans (by kernel_rfl)
noncomputable def qiW (m k x0 x1 x2 x3 x4 x5):=tb.PL i90 3 m k [(1,.ptr 0 0),(3,.i .i64 x0),(4,.i .i64 x1)] ⟨[[.i .i64 x2,.s x3,.i .i64 x4,.sl .term x5 1]],[]⟩
theorem qp0 (m k):qk3 m (qdg m) k=qiW m k:=qQ (M:=qiW m) rfl (λ _=>by kernel_rfl) k
theorem qrZ (m a0):qdg (m+1) a0=tb.runP1 m i90 [] (a0,()):=(congrArg (λ L=>qjz m (qdg m) L a0) (qp0 m m)).trans (by kernel_rfl)
theorem qr5 (m a0):yw (m+1) a0=tb.runP1 m i67 [] (a0,()):=by kernel_rfl
theorem qsl (m a0):qfh (m+1) a0=tb.runP1 m i38 [] (a0,()):=by kernel_rfl
theorem qpl (m):qdt (m+1)=tb.runP1 m qHg [] (()):=by kernel_rfl
noncomputable def qk9 (m k x0 x1 x2):=tb.PL qDF 3 m k [(0,.s x0),(3,.sl (.pair .str (.pair (.int .i64) (.pair (.int .i64) (.int .i64)))) x1 1),(4,.i .i64 x2)] ⟨[],[]⟩
theorem qs2 (m k):qmT m k=qk9 m k:=qQ (M:=qk9 m) rfl (λ _=>by kernel_rfl) k
theorem qvd (m a0):qes (m+1) a0=tb.runP1 m qDF [] (a0,()):=(congrArg (λ L=>qln m L a0) (qs2 m m)).trans (by kernel_rfl)
noncomputable def qli (m k x0 x1 x2 x3 x4 x5):=tb.PL qDq 3 m k [(1,.ptr 0 0),(3,.sl (.pair .str (.pair (.int .i64) (.pair (.int .i64) (.int .i64)))) x0 1),(4,.i .i64 x1)] ⟨[[.i .i64 x2,.s x3,.i .i64 x4,.sl .term x5 1]],[]⟩
theorem qs3 (m k):ql3 m k=qli m k:=qQ (M:=qli m) rfl (λ _=>by kernel_rfl) k
theorem qun (m a0):qkj (m+1) a0=tb.runP1 m qDq [] (a0,()):=(congrArg (λ L=>qk6 m L a0) (qs3 m m)).trans (by kernel_rfl)
noncomputable def qif (m k x0 x1 x2 x3 x4):=tb.PL qFl 4 m k [(1,.ptr 0 0),(3,.i .i64 x0)] ⟨[[.i .i64 x1,.s x2,.i .i64 x3,.sl .term x4 1]],[]⟩
theorem qpM (m k):qi0 m k=qif m k:=qQ (M:=qif m) rfl (λ _=>by kernel_rfl) k
theorem qqW (m a0):qhu (m+1) a0=tb.runP1 m qFl [] (a0,()):=(congrArg (λ L=>qhV m L a0) (qpM m m)).trans (by kernel_rfl)
noncomputable def qjq (m k x0 x1 x2 x3 x4):=tb.PL qFd 11 m k [(1,.ptr 0 0),(4,.i .i64 x0)] ⟨[[.i .i64 x1,.s x2,.i .i64 x3,.sl .term x4 1]],[]⟩
theorem qrf (m k):qle m (qdf m) k=qjq m k:=qQ (M:=qjq m) rfl (λ _=>by kernel_rfl) k
theorem qth (m a0):qdf (m+1) a0=tb.runP1 m qFd [] (a0,()):=(congrArg (λ L=>qiY m (qdf m) L a0) (qrf m m)).trans (by kernel_rfl)
theorem qsv (m a0):qiD (m+1) a0=tb.runP1 m qHc [] (a0,()):=by kernel_rfl
theorem qwq (m a0 a1):yU (m+1) a0 a1=tb.runP1 m i64 [] (a0,a1,()):=by kernel_rfl
theorem qx6 (m a0 a1):qa6 (m+1) a0 a1=tb.runP1 m i79 [] (a0,a1,()):=by kernel_rfl
theorem qpy (m a0):qfR (m+1) a0=tb.runP1 m qHS [] (a0,()):=by kernel_rfl
noncomputable def qmE (m k x0 x1 x2 x3 x4 x5):=tb.PL i81 2 m k [(0,.sl .term x0 1),(3,.ptr 0 0),(5,.i .i64 x1)] ⟨[[.i .i64 x2,.s x3,.i .i64 x4,.sl .term x5 1]],[]⟩
theorem qu2 (m k):qoi m k=qmE m k:=qQ (M:=qmE m) rfl (λ _=>by kernel_rfl) k
theorem qwz (m a0 a1):qmJ (m+1) a0 a1=tb.runP1 m i81 [] (a0,a1,()):=(congrArg (λ L=>qmd m L a0 a1) (qu2 m m)).trans (by kernel_rfl)
noncomputable def qmU (m k x0 x1 x2 x3 x4 x5 x6 x7):=tb.PL i85 4 m k [(0,.sl .term x0 1),(3,.ptr 0 0),(5,.row 0 0),(6,.b x1),(7,.i .i64 x2)] ⟨[[.i .i64 x3,.s x4,.i .i64 x5,.sl .term x6 1]],[⟨.term,x7,0,0,false⟩]⟩
theorem quw (m k):qoj m k=qmU m k:=qQ (M:=qmU m) rfl (λ _=>by kernel_rfl) k
theorem qwO (m a0 a1):qiz (m+1) a0 a1=tb.runP1 m i85 [] (a0,a1,()):=(congrArg (λ L=>qlK m L a0 a1) (quw m m)).trans (by kernel_rfl)
noncomputable def qii (m k x0 x1 x2 x3 x4 x5 x6):=tb.PL qET 5 m k [(0,.sl .term x0 1),(3,.ptr 0 0),(5,.row 0 0),(6,.i .i64 x1)] ⟨[[.i .i64 x2,.s x3,.i .i64 x4,.sl .term x5 1]],[⟨.term,x6,0,0,false⟩]⟩
theorem qoP (m k):qi7 m k=qii m k:=qQ (M:=qii m) rfl (λ _=>by kernel_rfl) k
theorem qrp (m a0 a1):qgO (m+1) a0 a1=tb.runP1 m qET [] (a0,a1,()):=(congrArg (λ L=>qh6 m L a0 a1) (qoP m m)).trans (by kernel_rfl)
noncomputable def qld (m k x0 x1 x2):=tb.PL qDa 3 m k [(1,.sl .term x0 1),(5,.sl .term x1 1),(6,.i .i64 x2)] ⟨[],[]⟩
theorem qtd (m k):qmD m k=qld m k:=qQ (M:=qld m) rfl (λ _=>by kernel_rfl) k
theorem qus (m a0 a1):qgx (m+1) a0 a1=tb.runP1 m qDa [] (a0,a1,()):=(congrArg (λ L=>qlr m L a0 a1) (qtd m m)).trans (by kernel_rfl)
noncomputable def qga (m k x0 x1 x2 x3 x4 x5):=tb.PL qDv 7 m k [(1,.ptr 0 0),(3,.sl .term x0 1),(4,.i .i64 x1)] ⟨[[.i .i64 x2,.s x3,.i .i64 x4,.sl .term x5 1]],[]⟩
theorem qmA (m k):qha m (qaK m) k=qga m k:=qQ (M:=qga m) rfl (λ _=>by kernel_rfl) k
theorem qnI (m a0):qaK (m+1) a0=tb.runP1 m qDv [] (a0,()):=(congrArg (λ L=>qf8 m (qaK m) L a0) (qmA m m)).trans (by kernel_rfl)
noncomputable def qjB (m k x0 x1 x2 x3 x4 x5):=tb.PL qDf 4 m k [(0,.sl .term x0 1),(3,.ptr 0 0),(5,.i .i64 x1)] ⟨[[.i .i64 x2,.s x3,.i .i64 x4,.sl .term x5 1]],[]⟩
theorem qqY (m k):qk2 m k=qjB m k:=qQ (M:=qjB m) rfl (λ _=>by kernel_rfl) k
theorem qs5 (m a0 a1):qiQ (m+1) a0 a1=tb.runP1 m qDf [] (a0,a1,()):=(congrArg (λ L=>qjb m L a0 a1) (qqY m m)).trans (by kernel_rfl)
theorem qvi (m):qjF (m+1)=tb.runP1 m qHu [] (()):=by kernel_rfl
theorem quU (m a0):qkP (m+1) a0=tb.runP1 m qG5 [] (a0,()):=by kernel_rfl
noncomputable def qmK (m k x0 x1 x2 x3 x4 x5 x6):=tb.PL qEJ 6 m k [(0,.sl .term x0 1),(2,.ptr 0 0),(5,.sl .term x1 1),(6,.i .i64 x2)] ⟨[[.i .i64 x3,.s x4,.i .i64 x5,.row 0 0]],[⟨.term,x6,0,0,true⟩]⟩
theorem qvl (m k):qok m k=qmK m k:=qQ (M:=qmK m) rfl (λ _=>by kernel_rfl) k
theorem qxK (m a0):qm8 (m+1) a0=tb.runP1 m qEJ [] (a0,()):=(congrArg (λ L=>qlT m L a0) (qvl m m)).trans (by kernel_rfl)
theorem qpg (m a0):qbq (m+1) a0=tb.runP1 m qH4 [] (a0,()):=by kernel_rfl
noncomputable def qjk (m k x0 x1 x2 x3 x4 x5):=tb.PL qE8 7 m k [(1,.ptr 0 0),(3,.i .i64 x0),(4,.i .i64 x1)] ⟨[[.i .i64 x2,.s x3,.i .i64 x4,.sl .term x5 1]],[]⟩
theorem qqi (m k):qls m (qc6 m) k=qjk m k:=qQ (M:=qjk m) rfl (λ _=>by kernel_rfl) k
theorem qr7 (m a0):qc6 (m+1) a0=tb.runP1 m qE8 [] (a0,()):=(congrArg (λ L=>qjs m (qc6 m) L a0) (qqi m m)).trans (by kernel_rfl)
noncomputable def qmv (m k x0 x1 x2 x3 x4 x5 x6 x7 x8):=tb.QL qEm 4 m k [(0,.row 0 0),(2,.i .i64 x0),(4,.ptr 0 0),(7,.row 1 0),(8,.b x1),(9,.i .i64 x2)] ⟨[[.i .i64 x3,.s x4,.i .i64 x5,.sl .term x6 1]],[⟨(.pair .term (.int .i64)),x7,0,0,false⟩,⟨(.pair .term (.int .i64)),x8,0,0,false⟩]⟩
theorem quq (m k):qoc m k=qmv m k:=qQ (M:=qmv m) rfl (λ _=>by kernel_rfl) k
theorem qxQ (m a0 a1 a2):qim (m+1) a0 a1 a2=tb.runS1 m qEm (a0,a1,a2,()):=(congrArg (λ L=>qmV m L a0 a1 a2) (quq m m)).trans (by kernel_rfl)
noncomputable def qhb (m k x0 x1 x2 x3 x4 x5 x6):=tb.QL qEy 6 m k [(0,.row 0 0),(2,.i .i64 x0),(4,.ptr 0 0),(7,.i .i64 x1)] ⟨[[.i .i64 x2,.s x3,.i .i64 x4,.sl .term x5 1]],[⟨(.pair .term (.int .i64)),x6,0,0,false⟩]⟩
theorem qnH (m k):qiw m (qbm m) k=qhb m k:=qQ (M:=qhb m) rfl (λ _=>by kernel_rfl) k
theorem qoK (m a0 a1 a2):qbm (m+1) a0 a1 a2=tb.runS1 m qEy (a0,a1,a2,()):=(congrArg (λ L=>qhj m (qbm m) L a0 a1 a2) (qnH m m)).trans (by kernel_rfl)
theorem qyu (m a0):qhC (m+1) a0=tb.runP1 m qHH [] (a0,()):=by kernel_rfl
noncomputable def qjp (m k x0 x1):=tb.PL qDY 4 m k [(0,.sl (.pair .term (.int .i64)) x0 1),(3,.i .i64 x1)] ⟨[],[]⟩
theorem qqR (m k):qk0 m k=qjp m k:=qQ (M:=qjp m) rfl (λ _=>by kernel_rfl) k
theorem qss (m a0):qc4 (m+1) a0=tb.runP1 m qDY [] (a0,()):=(congrArg (λ L=>qjv m L a0) (qqR m m)).trans (by kernel_rfl)
noncomputable def qf0 (m k x0 x1 x2):=tb.PL qsP 3 m k [(0,.sl (.pair .term (.int .i64)) x0 1),(3,.row 0 0),(4,.i .i64 x1)] ⟨[],[⟨.term,x2,0,0,false⟩]⟩
noncomputable def qf1 (m k x0 x1 x2 x3):=tb.PL qsP 6 m k [(0,.sl (.pair .term (.int .i64)) x0 1),(3,.row 0 0),(4,.i .i64 x1),(5,.i .i64 x2)] ⟨[],[⟨.term,x3,0,0,false⟩]⟩
noncomputable def qf6 (m k x0 x1 x2):=tb.PL qsP 10 m k [(0,.sl (.pair .term (.int .i64)) x0 1),(3,.row 0 0),(6,.i .i64 x1)] ⟨[],[⟨.term,x2,0,0,false⟩]⟩
noncomputable def qf4 (m k x0 x1 x2 x3):=tb.PL qsP 13 m k [(0,.sl (.pair .term (.int .i64)) x0 1),(3,.row 0 0),(6,.i .i64 x1),(7,.i .i64 x2)] ⟨[],[⟨.term,x3,0,0,false⟩]⟩
theorem qmQ (m k):QB m k=(qf0 m k,qf1 m k,qf6 m k,qf4 m k):=qQ (M := λ k=>(qf0 m k,qf1 m k,qf6 m k,qf4 m k)) rfl (λ _=>by kernel_rfl) k
theorem qnL (m a0):qeP (m+1) a0=tb.runP1 m qsP [] (a0,()):=(congrArg (a₁ := QB m m) (λ L=>qf3 m L.1 L.2.1 L.2.2.1 L.2.2.2 a0) (qmQ m m)).trans (by kernel_rfl)
theorem quy (m a0):qeb (m+1) a0=tb.runP1 m qHt [] (a0,()):=by kernel_rfl
theorem qpq (m a0):qfU (m+1) a0=tb.runP1 m qHE [] (a0,()):=by kernel_rfl
noncomputable def qg5 (m k x0 x1):=tb.PL qFc 2 m k [(0,.sl (.pair .term (.int .i64)) x0 1),(3,.i .i64 x1)] ⟨[],[]⟩
theorem qn3 (m k):qir m k=qg5 m k:=qQ (M:=qg5 m) rfl (λ _=>by kernel_rfl) k
theorem qoH (m a0):qfW (m+1) a0=tb.runP1 m qFc [] (a0,()):=(congrArg (λ L=>qhJ m L a0) (qn3 m m)).trans (by kernel_rfl)
noncomputable def qmz (m k x0 x1 x2):=tb.PL qDX 9 m k [(1,.sl (.pair .term (.int .i64)) x0 1),(8,.row 0 0),(9,.i .i64 x1)] ⟨[],[⟨(.pair .term (.int .i64)),x2,0,0,false⟩]⟩
theorem qvc (m k):qoe m k=qmz m k:=qQ (M:=qmz m) rfl (λ _=>by kernel_rfl) k
theorem qwf (m a0 a1):qmf (m+1) a0 a1=tb.runP1 m qDX [] (a0,a1,()):=(congrArg (λ L=>qlI m L a0 a1) (qvc m m)).trans (by kernel_rfl)
theorem qsu (m a0 a1):qiN (m+1) a0 a1=tb.runP1 m qG1 [] (a0,a1,()):=by kernel_rfl
noncomputable def qh2 (m k x0 x1 x2 x3 x4 x5 x6 x7 x8 x9):=tb.PL qDl 5 m k [(1,.ptr 0 0),(2,.ptr 1 0),(4,.row 1 0),(5,.i .i64 x0)] ⟨[[.i .i64 x1,.s x2,.i .i64 x3,.sl .term x4 1],[.i .i64 x5,.s x6,.i .i64 x7,.row 0 0]],[⟨.term,x8,0,0,false⟩,⟨.term,x9,0,0,false⟩]⟩
theorem qoD (m k):qi5 m (qb8 m) k=qh2 m k:=qQ (M:=qh2 m) rfl (λ _=>by kernel_rfl) k
theorem qqm (m a0):qb8 (m+1) a0=tb.runP1 m qDl [] (a0,()):=(congrArg (λ L=>qhT m (qb8 m) L a0) (qoD m m)).trans (by kernel_rfl)
theorem qqn (m a0):qhI (m+1) a0=tb.runP1 m i98 [] (a0,()):=by kernel_rfl
noncomputable def ql1 (m k x0 x1 x2 x3 x4 x5):=tb.PL i99 3 m k [(1,.ptr 0 0),(3,.row 0 0),(4,.i .i64 x0)] ⟨[[.i .i64 x1,.s x2,.i .i64 x3,.sl .term x4 1]],[⟨.term,x5,0,0,true⟩]⟩
theorem quu (m k):qn4 m (qdU m) k=ql1 m k:=qQ (M:=ql1 m) rfl (λ _=>by kernel_rfl) k
theorem qwr (m a0):qdU (m+1) a0=tb.runP1 m i99 [] (a0,()):=(congrArg (λ L=>qlJ m (qdU m) L a0) (quu m m)).trans (by kernel_rfl)
noncomputable def qjl (m k x0 x1):=tb.PL i71 6 m k [(5,.sl .term x0 1),(6,.i .i64 x1)] ⟨[],[]⟩
theorem qpX (m k):qlb m k=qjl m k:=qQ (M:=qjl m) rfl (λ _=>by kernel_rfl) k
theorem qsD (m a0):qiI (m+1) a0=tb.runP1 m i71 [] (a0,()):=(congrArg (λ L=>qjh m L a0) (qpX m m)).trans (by kernel_rfl)
noncomputable def ql4 (m k x0 x1 x2):=tb.PL i62 3 m k [(0,.sl .term x0 1),(3,.sl .term x1 1),(4,.i .i64 x2)] ⟨[],[]⟩
theorem qu9 (m k):qn9 m k=ql4 m k:=qQ (M:=ql4 m) rfl (λ _=>by kernel_rfl) k
theorem qwV (m a0):qm7 (m+1) a0=tb.runP1 m i62 [] (a0,()):=(congrArg (λ L=>qmI m L a0) (qu9 m m)).trans (by kernel_rfl)
noncomputable def qlk (m k x0 x1 x2 x3):=tb.PL qDo 4 m k [(1,.i .i64 x0),(5,.row 0 0),(6,.sl .term x1 1),(7,.i .i64 x2)] ⟨[],[⟨.term,x3,0,0,false⟩]⟩
theorem qtq (m k):ql8 m k=qlk m k:=qQ (M:=qlk m) rfl (λ _=>by kernel_rfl) k
theorem qu1 (m a0 a1):qjM (m+1) a0 a1=tb.runP1 m qDo [] (a0,a1,()):=(congrArg (λ L=>qll m L a0 a1) (qtq m m)).trans (by kernel_rfl)
theorem qu5 (m a0):qkf (m+1) a0=tb.runP1 m qHT [] (a0,()):=by kernel_rfl
theorem qrB (m a0):qhx (m+1) a0=tb.runP1 m i72 [] (a0,()):=by kernel_rfl
theorem qrh (m a0):qaF (m+1) a0=tb.runP1 m i43 [] (a0,()):=by kernel_rfl
theorem qwu (m a0):qlU (m+1) a0=tb.runP1 m i13 [] (a0,()):=by kernel_rfl
noncomputable def qjr (m k x0 x1 x2 x3 x4 x5 x6 x7 x8):=tb.PL i25 5 m k [(1,.ptr 0 0),(3,.i .i64 x0),(4,.i .i64 x1)] ⟨[[.i .i64 x2,.s x3,.i .i64 x4,.sl .term x5 1,.i .i64 x6,.sl (.pair (.int .i64) .term) x7 1,.i .i64 x8]],[]⟩
theorem qqz (m k):qkZ m k=qjr m k:=qQ (M:=qjr m) rfl (λ _=>by kernel_rfl) k
theorem qti (m a0):qiR (m+1) a0=tb.runP1 m i25 [] (a0,()):=(congrArg (λ L=>qjy m L a0) (qqz m m)).trans (by kernel_rfl)
theorem qpL (m a0 a1):qdk (m+1) a0 a1=tb.runP1 m i75 [] (a0,a1,()):=by kernel_rfl
theorem qu4 (m a0):qkq (m+1) a0=tb.runP1 m i47 [] (a0,()):=by kernel_rfl
theorem quI (m a0):qgn (m+1) a0=tb.runP1 m i48 [] (a0,()):=by kernel_rfl
theorem qvF (m a0):qmy (m+1) a0=tb.runP1 m i49 [] (a0,()):=by kernel_rfl
theorem quv (m a0 a1):qkU (m+1) a0 a1=tb.runP1 m i35 [] (a0,a1,()):=by kernel_rfl
noncomputable def qlv (m k x0 x1 x2 x3 x4 x5 x6 x7 x8 x9):=tb.PL i39 4 m k [(0,.i .i64 x0),(3,.ptr 0 0),(5,.row 0 0),(6,.i .i64 x1)] ⟨[[.i .i64 x2,.s x3,.i .i64 x4,.sl .term x5 1,.i .i64 x6,.sl (.pair (.int .i64) .term) x7 1,.i .i64 x8]],[⟨(.pair (.int .i64) .term),x9,0,0,false⟩]⟩
theorem qr6 (m k):qma m k=qlv m k:=qQ (M:=qlv m) rfl (λ _=>by kernel_rfl) k
theorem quC (m a0):qjZ (m+1) a0=tb.runP1 m i39 [] (a0,()):=(congrArg (λ L=>qk5 m L a0) (qr6 m m)).trans (by kernel_rfl)
theorem qsU (m):qda (m+1)=tb.runP1 m i10 [] (()):=by kernel_rfl
theorem qqj (m a0 a1):qcu (m+1) a0 a1=tb.runP1 m i24 [] (a0,a1,()):=by kernel_rfl
noncomputable def qb6 (m k x0 x1 x2 x3 x4 x5 x6 x7 x8 x9 x10 x11 x12 x13 x14 x15 x16 x17):=tb.PL i5 10 m k [(0,.sl (.int .u8) x0 1),(3,.ptr 0 0),(5,.ptr 1 0),(7,.row 0 0),(8,.row 1 0),(39,.i .i64 x1)] ⟨[[.i .i64 x2,.s x3,.i .i64 x4,.sl .term x5 1,.i .i64 x6,.sl (.pair (.int .i64) .term) x7 1,.i .i64 x8],[.i .i64 x9,.s x10,.i .i64 x11,.sl .term x12 1,.i .i64 x13,.sl (.pair (.int .i64) .term) x14 1,.i .i64 x15]],[⟨(.pair (.int .i64) .term),x16,0,0,false⟩,⟨.term,x17,0,0,false⟩]⟩
noncomputable def qcn (m k x0 x1 x2 x3 x4 x5 x6 x7 x8 x9 x10 x11 x12 x13 x14 x15 x16 x17 x18 x19):=tb.PL i5 21 m k [(0,.sl (.int .u8) x0 1),(5,.ptr 0 0),(7,.row 0 0),(8,.row 1 0),(14,.ptr 1 0),(15,.i .i64 x1),(16,.i .i64 x2)] ⟨[[.i .i64 x3,.s x4,.i .i64 x5,.sl .term x6 1,.i .i64 x7,.sl (.pair (.int .i64) .term) x8 1,.i .i64 x9],[.b x10,.b x11,.b x12,.b x13,.b x14,.b x15,.b x16,.b x17]],[⟨(.pair (.int .i64) .term),x18,0,0,false⟩,⟨.term,x19,0,0,false⟩]⟩
theorem qgh (m k):qn m k=(qb6 m k,qcn m k):=qQ (M := λ k=>(qb6 m k,qcn m k)) rfl (λ _=>by kernel_rfl) k
theorem qhi (m a0):law53_RatchetDelivers (m+1) a0=tb.runP1 m i5 [] (a0,()):=(congrArg (a₁ := qn m m) (λ L=>Qc m L.1 L.2 a0) (qgh m m)).trans (by kernel_rfl)
end Go.AmZ
namespace Go.Proofs
open Go.Shelf
def Tryz.sortTrm_ren:Go.Shelf.Ren:=⟨λ | 6=>154 | 15=>187 | 14=>186 | 28=>212 | 29=>213 | 20=>204 | 21=>205 | 22=>206 | 23=>207 | 24=>208 | 25=>209 | 26=>210 | 27=>211 | 46=>225 | 47=>226 | 48=>227 | 49=>228 | 50=>229 | 57=>236 | n=>n,λ | 22=>22 | 24=>24 | 25=>78 | 3=>3 | 39=>172 | 0=>0 | 53=>194 | 55=>196 | 4=>4 | 46=>187 | 45=>186 | 50=>191 | 5=>5 | 9=>9 | 66=>210 | 70=>100 | 76=>222 | 77=>223 | n=>n,λ | n=>n⟩
theorem Tryz.sortTrm:Go.Proofs.SlLaysF0.n6 Tryz.prog Tryz.sortTrm_ren:={
 mixed:=by kernel_rfl
 f6:=⟨Tryz.f154.name,by decide,Tryz.func154.trans (congrArg some (by kernel_rfl))⟩
 f14:=⟨Tryz.f186.name,by decide,Tryz.func186.trans (congrArg some (by kernel_rfl))⟩
 f15:=Tryz.func187.trans (congrArg some (by kernel_rfl))
 f20:=⟨Tryz.f204.name,by decide,Tryz.func204.trans (congrArg some (by kernel_rfl))⟩
 f21:=⟨Tryz.f205.name,by decide,Tryz.func205.trans (congrArg some (by kernel_rfl))⟩
 f22:=⟨Tryz.f206.name,by decide,Tryz.func206.trans (congrArg some (by kernel_rfl))⟩
 f23:=⟨Tryz.f207.name,by decide,Tryz.func207.trans (congrArg some (by kernel_rfl))⟩
 f24:=⟨Tryz.f208.name,by decide,Tryz.func208.trans (congrArg some (by kernel_rfl))⟩
 f25:=⟨Tryz.f209.name,by decide,Tryz.func209.trans (congrArg some (by kernel_rfl))⟩
 f26:=⟨Tryz.f210.name,by decide,Tryz.func210.trans (congrArg some (by kernel_rfl))⟩
 f27:=⟨Tryz.f211.name,by decide,Tryz.func211.trans (congrArg some (by kernel_rfl))⟩
 f28:=Tryz.func212.trans (congrArg some (by kernel_rfl))
 f29:=Tryz.func213.trans (congrArg some (by kernel_rfl))
 f46:=⟨Tryz.f225.name,by decide,Tryz.func225.trans (congrArg some (by kernel_rfl))⟩
 f47:=Tryz.func226.trans (congrArg some (by kernel_rfl))
 f48:=Tryz.func227.trans (congrArg some (by kernel_rfl))
 f49:=⟨Tryz.f228.name,by decide,Tryz.func228.trans (congrArg some (by kernel_rfl))⟩
 f50:=⟨Tryz.f229.name,by decide,Tryz.func229.trans (congrArg some (by kernel_rfl))⟩
 f57:=⟨Tryz.f236.name,by decide,Tryz.func236.trans (congrArg some (by kernel_rfl))⟩
 t0:=Tryz.underlying0
 a0:=Tryz.isAgg0
 z0:=Tryz.sizeOf0
 v0:=Tryz.zeroValue0
 t3:=Tryz.underlying3
 a3:=Tryz.isAgg3
 z3:=Tryz.sizeOf3
 v3:=Tryz.zeroValue3
 t4:=Tryz.underlying4
 a4:=Tryz.isAgg4
 z4:=Tryz.sizeOf4
 v4:=Tryz.zeroValue4
 t5:=Tryz.underlying5
 a5:=Tryz.isAgg5
 z5:=Tryz.sizeOf5
 v5:=Tryz.zeroValue5
 t9:=Tryz.underlying9
 a9:=Tryz.isAgg9
 z9:=Tryz.sizeOf9
 v9:=Tryz.zeroValue9
 t22:=Tryz.underlying22
 a22:=Tryz.isAgg22
 z22:=Tryz.sizeOf22
 v22:=Tryz.zeroValue22
 t25:=Tryz.underlying78
 a25:=Tryz.isAgg78
 z25:=Tryz.sizeOf78
 v25:=Tryz.zeroValue78
 t39:=Tryz.underlying172
 a39:=Tryz.isAgg172
 z39:=Tryz.sizeOf172
 v39:=Tryz.zeroValue172
 t45:=Tryz.underlying186
 a45:=Tryz.isAgg186
 z45:=Tryz.sizeOf186
 v45:=Tryz.zeroValue186
 t46:=Tryz.underlying187
 a46:=Tryz.isAgg187
 z46:=Tryz.sizeOf187
 v46:=Tryz.zeroValue187
 t50:=Tryz.underlying191
 a50:=Tryz.isAgg191
 z50:=Tryz.sizeOf191
 v50:=Tryz.zeroValue191
 t53:=Tryz.underlying194
 a53:=Tryz.isAgg194
 z53:=Tryz.sizeOf194
 v53:=Tryz.zeroValue194
 t55:=Tryz.underlying196
 a55:=Tryz.isAgg196
 z55:=Tryz.sizeOf196
 v55:=Tryz.zeroValue196
 t66:=Tryz.underlying210
 a66:=Tryz.isAgg210
 z66:=Tryz.sizeOf210
 v66:=Tryz.zeroValue210
 t70:=Tryz.underlying100
 a70:=Tryz.isAgg100
 z70:=Tryz.sizeOf100
 v70:=Tryz.zeroValue100
 t76:=Tryz.underlying222
 a76:=Tryz.isAgg222
 z76:=Tryz.sizeOf222
 v76:=Tryz.zeroValue222
 t77:=Tryz.underlying223
 a77:=Tryz.isAgg223
 z77:=Tryz.sizeOf223
 v77:=Tryz.zeroValue223 }
end Go.Proofs
namespace Go.AmZ
open Go Go.GxZ
set_option linter.unusedVariables false
set_option maxRecDepth 100000
theorem qak (m:Nat) (h:yc Go.Proofs.Tryz.prog (tb.at m).pc.cfg):qT Go.Proofs.Tryz.prog 154 (mgP ⟨.term,[.clo 78 0],λ x=>qN (m+1) x.1⟩):=qBE (τ := .term) Go.Proofs.Tryz.sortTrm (λ _=>rfl) Go.Proofs.Tryz.isAgg24 Go.Proofs.Tryz.sizeOf24 (qCH (τ := .term) (ρ := (.int .i64)) (qyP h (by kernel_rfl)) (F := λ x y=>qm m x y) (by kernel_rfl) (λ _=>rfl)) (Qw Go.Proofs.Tryz.func154 (by kernel_rfl)) (λ _ _ h=>h)
theorem JD (m:Nat) (h:yc Go.Proofs.Tryz.prog (tb.at m).pc.cfg):qT Go.Proofs.Tryz.prog 155 (sgP ⟨[.row .term,.clo 156 0],[.one (.row .term)],λ x=>qC (m+1) x.1⟩):=qvH (qCH (τ := .term) (ρ := .bool) (qyP h (by kernel_rfl)) (F := λ x y=>zY m x y) (by kernel_rfl) (λ _=>rfl)) (λ _ _ h=>qAo h)
theorem tb_ok:∀ m,yc Go.Proofs.Tryz.prog (tb.at m).pc.cfg:=Tb.all_ok (by kernel_rfl) qBa (by kernel_rfl) ⟨nl1 ⟨Go.Proofs.Tryz.func122,λ _=>rfl,λ m a=>quF m a.1,trivial⟩,⟨nl1 ⟨Go.Proofs.Tryz.func69,λ _=>rfl,λ m a=>qvV m a.1,trivial⟩,⟨nl1 ⟨Go.Proofs.Tryz.func43,λ _=>rfl,λ m a=>qrh m a.1,trivial⟩,⟨nl1 ⟨Go.Proofs.Tryz.func22,λ _=>rfl,λ m a=>qur m,trivial⟩,⟨nl1 ⟨Go.Proofs.Tryz.func14,λ _=>rfl,λ m a=>qsG m a.1 a.2.1,trivial⟩,⟨nl1 ⟨Go.Proofs.Tryz.func12,λ _=>rfl,λ m a=>qsp m a.1,trivial⟩,⟨nl1 ⟨Go.Proofs.Tryz.func10,λ _=>rfl,λ m a=>qsU m,trivial⟩,⟨nl1 ⟨Go.Proofs.Tryz.func5,λ _=>rfl,λ m a=>qhi m a.1,trivial⟩,trivial,trivial⟩,trivial⟩,⟨nl1 ⟨Go.Proofs.Tryz.func13,λ _=>rfl,λ m a=>qwu m a.1,trivial⟩,trivial,trivial⟩⟩,⟨nl1 ⟨Go.Proofs.Tryz.func19,λ _=>rfl,λ m a=>qmh m a.1 a.2.1,trivial⟩,⟨nl1 ⟨Go.Proofs.Tryz.func17,λ _=>rfl,λ m a=>qu8 m a.1 a.2.1,trivial⟩,trivial,trivial⟩,⟨nl1 ⟨Go.Proofs.Tryz.func21,λ _=>rfl,λ m a=>qoR m a.1,trivial⟩,trivial,trivial⟩⟩⟩,⟨nl1 ⟨Go.Proofs.Tryz.func38,λ _=>rfl,λ m a=>qsl m a.1,trivial⟩,⟨nl1 ⟨Go.Proofs.Tryz.func25,λ _=>rfl,λ m a=>qti m a.1,trivial⟩,⟨nl1 ⟨Go.Proofs.Tryz.func24,λ _=>rfl,λ m a=>qqj m a.1 a.2.1,trivial⟩,⟨nl1 ⟨Go.Proofs.Tryz.func23,λ _=>rfl,λ m a=>qvm m a.1 a.2.1,trivial⟩,trivial,trivial⟩,trivial⟩,⟨nl1 ⟨Go.Proofs.Tryz.func35,λ _=>rfl,λ m a=>quv m a.1 a.2.1,trivial⟩,trivial,trivial⟩⟩,⟨nl1 ⟨Go.Proofs.Tryz.func41,λ _=>rfl,λ m a=>qpF m a.1,trivial⟩,⟨nl1 ⟨Go.Proofs.Tryz.func39,λ _=>rfl,λ m a=>quC m a.1,trivial⟩,trivial,trivial⟩,⟨nl1 ⟨Go.Proofs.Tryz.func42,λ _=>rfl,λ m a=>qnV m a.1,trivial⟩,trivial,trivial⟩⟩⟩⟩,⟨⟨jh,λ _ _=>jh⟩,⟨nl1 ⟨Go.Proofs.Tryz.func48,λ _=>rfl,λ m a=>quI m a.1,trivial⟩,⟨nl1 ⟨Go.Proofs.Tryz.func46,λ _=>rfl,λ m a=>qs7 m a.1,trivial⟩,⟨nl1 ⟨Go.Proofs.Tryz.func45,λ _=>rfl,λ m a=>quY m a.1,trivial⟩,⟨nl1 ⟨Go.Proofs.Tryz.func44,λ _=>rfl,λ m a=>qp3 m a.1,trivial⟩,trivial,trivial⟩,trivial⟩,⟨nl1 ⟨Go.Proofs.Tryz.func47,λ _=>rfl,λ m a=>qu4 m a.1,trivial⟩,trivial,trivial⟩⟩,⟨nl1 ⟨Go.Proofs.Tryz.func50,λ _=>rfl,λ m a=>qpC m a.1 a.2.1,trivial⟩,⟨nl1 ⟨Go.Proofs.Tryz.func49,λ _=>rfl,λ m a=>qvF m a.1,trivial⟩,trivial,trivial⟩,⟨⟨Go.Proofs.Tryz.func51,λ _=>rfl,λ m a=>qsS m a.1⟩,trivial,trivial⟩⟩⟩,⟨nl1 ⟨Go.Proofs.Tryz.func65,λ _=>rfl,λ m a=>qmn m a.1 a.2.1,trivial⟩,⟨nl1 ⟨Go.Proofs.Tryz.func62,λ _=>rfl,λ m a=>qwV m a.1,trivial⟩,⟨qce (m:=0),⟨nl1 ⟨Go.Proofs.Tryz.func54,λ _=>rfl,λ m a=>qn1 m a.1 a.2.1,trivial⟩,trivial,trivial⟩,trivial⟩,⟨nl1 ⟨Go.Proofs.Tryz.func64,λ _=>rfl,λ m a=>qwq m a.1 a.2.1,trivial⟩,trivial,trivial⟩⟩,⟨nl1 ⟨Go.Proofs.Tryz.func67,λ _=>rfl,λ m a=>qr5 m a.1,trivial⟩,⟨nl1 ⟨Go.Proofs.Tryz.func66,λ _=>rfl,λ m a=>quA m a.1 a.2.1,trivial⟩,trivial,trivial⟩,⟨nl1 ⟨Go.Proofs.Tryz.func68,λ _=>rfl,λ m a=>qqy m a.1,trivial⟩,trivial,trivial⟩⟩⟩⟩⟩,⟨nl1 ⟨Go.Proofs.Tryz.func91,λ _=>rfl,λ m a=>qoO m a.1,trivial⟩,⟨nl1 ⟨Go.Proofs.Tryz.func78,λ _=>rfl,λ m a=>qqO m a.1 a.2.1,trivial⟩,⟨⟨Go.Proofs.Tryz.func74,λ _=>rfl,λ m a=>qvg m a.1 a.2.1 a.2.2.1 a.2.2.2.1⟩,⟨nl1 ⟨Go.Proofs.Tryz.func72,λ _=>rfl,λ m a=>qrB m a.1,trivial⟩,⟨nl1 ⟨Go.Proofs.Tryz.func71,λ _=>rfl,λ m a=>qsD m a.1,trivial⟩,⟨nl1 ⟨Go.Proofs.Tryz.func70,λ _=>rfl,λ m a=>qz8 m a.1 a.2.1,trivial⟩,trivial,trivial⟩,trivial⟩,⟨nl1 ⟨Go.Proofs.Tryz.func73,λ _=>rfl,λ m a=>qr9 m a.1,trivial⟩,trivial,trivial⟩⟩,⟨nl1 ⟨Go.Proofs.Tryz.func76,λ _=>rfl,λ m a=>qqh m a.1 a.2.1,trivial⟩,⟨nl1 ⟨Go.Proofs.Tryz.func75,λ _=>rfl,λ m a=>qpL m a.1 a.2.1,trivial⟩,trivial,trivial⟩,⟨nl1 ⟨Go.Proofs.Tryz.func77,λ _=>rfl,λ m a=>quN m a.1,trivial⟩,trivial,trivial⟩⟩⟩,⟨nl1 ⟨Go.Proofs.Tryz.func87,λ _=>rfl,λ m a=>qrN m a.1,trivial⟩,⟨nl1 ⟨Go.Proofs.Tryz.func85,λ _=>rfl,λ m a=>qwO m a.1 a.2.1,trivial⟩,⟨nl1 ⟨Go.Proofs.Tryz.func81,λ _=>rfl,λ m a=>qwz m a.1 a.2.1,trivial⟩,⟨nl1 ⟨Go.Proofs.Tryz.func79,λ _=>rfl,λ m a=>qx6 m a.1 a.2.1,trivial⟩,trivial,trivial⟩,trivial⟩,⟨nl1 ⟨Go.Proofs.Tryz.func86,λ _=>rfl,λ m a=>quG m a.1,trivial⟩,trivial,trivial⟩⟩,⟨nl1 ⟨Go.Proofs.Tryz.func89,λ _=>rfl,λ m a=>qs9 m a.1,trivial⟩,⟨nl1 ⟨Go.Proofs.Tryz.func88,λ _=>rfl,λ m a=>qvb m a.1 a.2.1,trivial⟩,trivial,trivial⟩,⟨nl1 ⟨Go.Proofs.Tryz.func90,λ _=>rfl,λ m a=>qrZ m a.1,trivial⟩,trivial,trivial⟩⟩⟩⟩,⟨nl1 ⟨Go.Proofs.Tryz.func100,λ _=>rfl,λ m a=>qvd m a.1,trivial⟩,⟨nl1 ⟨Go.Proofs.Tryz.func96,λ _=>rfl,λ m a=>qto m a.1 a.2.1,trivial⟩,⟨nl1 ⟨Go.Proofs.Tryz.func94,λ _=>rfl,λ m a=>qnK m a.1,trivial⟩,⟨nl1 ⟨Go.Proofs.Tryz.func93,λ _=>rfl,λ m a=>qjD m a.1,trivial⟩,⟨nl1 ⟨Go.Proofs.Tryz.func92,λ _=>rfl,λ m a=>qtc m a.1 a.2.1,trivial⟩,trivial,trivial⟩,trivial⟩,⟨nl1 ⟨Go.Proofs.Tryz.func95,λ _=>rfl,λ m a=>qpt m a.1,trivial⟩,trivial,trivial⟩⟩,⟨nl1 ⟨Go.Proofs.Tryz.func98,λ _=>rfl,λ m a=>qqn m a.1,trivial⟩,⟨nl1 ⟨Go.Proofs.Tryz.func97,λ _=>rfl,λ m a=>quD m a.1,trivial⟩,trivial,trivial⟩,⟨nl1 ⟨Go.Proofs.Tryz.func99,λ _=>rfl,λ m a=>qwr m a.1,trivial⟩,trivial,trivial⟩⟩⟩,⟨nl1 ⟨Go.Proofs.Tryz.func104,λ _=>rfl,λ m a=>qvZ m a.1,trivial⟩,⟨nl1 ⟨Go.Proofs.Tryz.func102,λ _=>rfl,λ m a=>qsE m a.1,trivial⟩,⟨nl1 ⟨Go.Proofs.Tryz.func101,λ _=>rfl,λ m a=>qu5 m a.1,trivial⟩,trivial,trivial⟩,⟨nl1 ⟨Go.Proofs.Tryz.func103,λ _=>rfl,λ m a=>qw8 m a.1 a.2.1,trivial⟩,trivial,trivial⟩⟩,⟨nl1 ⟨Go.Proofs.Tryz.func120,λ _=>rfl,λ m a=>qre m a.1,trivial⟩,⟨λ c hc=>qkA (m:=0) hc,trivial,trivial⟩,⟨nl1 ⟨Go.Proofs.Tryz.func121,λ _=>rfl,λ m a=>qsi m a.1,trivial⟩,trivial,trivial⟩⟩⟩⟩⟩⟩,⟨nl1 ⟨Go.Proofs.Tryz.func174,λ _=>rfl,λ m a=>qxU m a.1 a.2.1,trivial⟩,⟨nl1 ⟨Go.Proofs.Tryz.func150,λ _=>rfl,λ m a=>qsa m a.1,trivial⟩,⟨nl1 ⟨Go.Proofs.Tryz.func131,λ _=>rfl,λ m a=>qqm m a.1,trivial⟩,⟨⟨Go.Proofs.Tryz.func127,λ _=>rfl,λ m a=>qkv m a.1 a.2.1 a.2.2.1⟩,⟨nl1 ⟨Go.Proofs.Tryz.func125,λ _=>rfl,λ m a=>qpQ m a.1,trivial⟩,⟨nl1 ⟨Go.Proofs.Tryz.func124,λ _=>rfl,λ m a=>qqK m a.1,trivial⟩,⟨nl1 ⟨Go.Proofs.Tryz.func123,λ _=>rfl,λ m a=>qvk m a.1,trivial⟩,trivial,trivial⟩,trivial⟩,⟨λ c hc=>qlC (m:=0) hc,trivial,trivial⟩⟩,⟨⟨Go.Proofs.Tryz.func129,λ _=>rfl,λ m a=>qqc m a.1⟩,⟨⟨Go.Proofs.Tryz.func128,λ _=>rfl,λ m a=>qhO m a.1 a.2.1 a.2.2.1⟩,trivial,trivial⟩,⟨nl1 ⟨Go.Proofs.Tryz.func130,λ _=>rfl,λ m a=>qsv m a.1,trivial⟩,trivial,trivial⟩⟩⟩,⟨nl1 ⟨Go.Proofs.Tryz.func146,λ _=>rfl,λ m a=>qyu m a.1,trivial⟩,⟨nl1 ⟨Go.Proofs.Tryz.func134,λ _=>rfl,λ m a=>qwl m a.1,trivial⟩,⟨nl1 ⟨Go.Proofs.Tryz.func133,λ _=>rfl,λ m a=>qu1 m a.1 a.2.1,trivial⟩,⟨nl1 ⟨Go.Proofs.Tryz.func132,λ _=>rfl,λ m a=>qpl m,trivial⟩,trivial,trivial⟩,trivial⟩,⟨nl1 ⟨Go.Proofs.Tryz.func143,λ _=>rfl,λ m a=>qwf m a.1 a.2.1,trivial⟩,trivial,trivial⟩⟩,⟨nl1 ⟨Go.Proofs.Tryz.func148,λ _=>rfl,λ m a=>qnR m a.1,trivial⟩,⟨nl1 ⟨Go.Proofs.Tryz.func147,λ _=>rfl,λ m a=>qqp m a.1,trivial⟩,trivial,trivial⟩,⟨nl1 ⟨Go.Proofs.Tryz.func149,λ _=>rfl,λ m a=>qzX m a.1,trivial⟩,trivial,trivial⟩⟩⟩⟩,⟨nl1 ⟨Go.Proofs.Tryz.func160,λ _=>rfl,λ m a=>qpq m a.1,trivial⟩,⟨nl1 ⟨Go.Proofs.Tryz.func156,λ _=>rfl,λ m a=>qnJ m a.1 a.2.1,trivial⟩,⟨⟨qB1 (Qw Go.Proofs.Tryz.func154 (by kernel_rfl)) λ _=>rfl,λ m h=>qak m h⟩,⟨nl1 ⟨Go.Proofs.Tryz.func152,λ _=>rfl,λ m a=>qrP m a.1 a.2.1,trivial⟩,⟨nl1 ⟨Go.Proofs.Tryz.func151,λ _=>rfl,λ m a=>qoz m a.1,trivial⟩,trivial,trivial⟩,trivial⟩,⟨⟨qp8 (Qw Go.Proofs.Tryz.func155 (by kernel_rfl)) λ _=>rfl,λ m h=>JD m h⟩,trivial,trivial⟩⟩,⟨nl1 ⟨Go.Proofs.Tryz.func158,λ _=>rfl,λ m a=>qpy m a.1,trivial⟩,⟨nl1 ⟨Go.Proofs.Tryz.func157,λ _=>rfl,λ m a=>qth m a.1,trivial⟩,trivial,trivial⟩,⟨nl1 ⟨Go.Proofs.Tryz.func159,λ _=>rfl,λ m a=>qxK m a.1,trivial⟩,trivial,trivial⟩⟩⟩,⟨⟨Go.Proofs.Tryz.func168,λ _=>rfl,λ m a=>qxQ m a.1 a.2.1 a.2.2.1⟩,⟨nl1 ⟨Go.Proofs.Tryz.func164,λ _=>rfl,λ m a=>qs5 m a.1 a.2.1,trivial⟩,⟨nl1 ⟨Go.Proofs.Tryz.func163,λ _=>rfl,λ m a=>qnI m a.1,trivial⟩,⟨nl1 ⟨Go.Proofs.Tryz.func161,λ _=>rfl,λ m a=>qsu m a.1 a.2.1,trivial⟩,trivial,trivial⟩,trivial⟩,⟨nl1 ⟨Go.Proofs.Tryz.func167,λ _=>rfl,λ m a=>qss m a.1,trivial⟩,trivial,trivial⟩⟩,⟨nl1 ⟨Go.Proofs.Tryz.func172,λ _=>rfl,λ m a=>qr7 m a.1,trivial⟩,⟨nl1 ⟨Go.Proofs.Tryz.func169,λ _=>rfl,λ m a=>qoH m a.1,trivial⟩,trivial,trivial⟩,⟨⟨Go.Proofs.Tryz.func173,λ _=>rfl,λ m a=>qoK m a.1 a.2.1 a.2.2.1⟩,trivial,trivial⟩⟩⟩⟩⟩,⟨nl1 ⟨Go.Proofs.Tryz.func195,λ _=>rfl,λ m a=>qpg m a.1,trivial⟩,⟨nl1 ⟨Go.Proofs.Tryz.func183,λ _=>rfl,λ m a=>qcZ m a.1,trivial⟩,⟨⟨Go.Proofs.Tryz.func179,λ _=>rfl,λ m a=>qlA m a.1 a.2.1 a.2.2.1⟩,⟨nl1 ⟨Go.Proofs.Tryz.func177,λ _=>rfl,λ m a=>qq0 m a.1,trivial⟩,⟨nl1 ⟨Go.Proofs.Tryz.func176,λ _=>rfl,λ m a=>qyC m a.1 a.2.1,trivial⟩,⟨nl1 ⟨Go.Proofs.Tryz.func175,λ _=>rfl,λ m a=>qwC m a.1 a.2.1,trivial⟩,trivial,trivial⟩,trivial⟩,⟨nl1 ⟨Go.Proofs.Tryz.func178,λ _=>rfl,λ m a=>qAH m a.1,trivial⟩,trivial,trivial⟩⟩,⟨nl1 ⟨Go.Proofs.Tryz.func181,λ _=>rfl,λ m a=>qnZ m a.1,trivial⟩,⟨nl1 ⟨Go.Proofs.Tryz.func180,λ _=>rfl,λ m a=>qnO m a.1,trivial⟩,trivial,trivial⟩,⟨nl1 ⟨Go.Proofs.Tryz.func182,λ _=>rfl,λ m a=>qqe m a.1 a.2.1,trivial⟩,trivial,trivial⟩⟩⟩,⟨nl1 ⟨Go.Proofs.Tryz.func190,λ _=>rfl,λ m a=>qvi m,trivial⟩,⟨nl1 ⟨Go.Proofs.Tryz.func188,λ _=>rfl,λ m a=>qun m a.1,trivial⟩,⟨nl1 ⟨Go.Proofs.Tryz.func185,λ _=>rfl,λ m a=>qvj m a.1 a.2.1,trivial⟩,⟨nl1 ⟨Go.Proofs.Tryz.func184,λ _=>rfl,λ m a=>qp4 m a.1 a.2.1,trivial⟩,trivial,trivial⟩,trivial⟩,⟨nl1 ⟨Go.Proofs.Tryz.func189,λ _=>rfl,λ m a=>qqW m a.1,trivial⟩,trivial,trivial⟩⟩,⟨nl1 ⟨Go.Proofs.Tryz.func192,λ _=>rfl,λ m a=>quU m a.1,trivial⟩,⟨nl1 ⟨Go.Proofs.Tryz.func191,λ _=>rfl,λ m a=>qus m a.1 a.2.1,trivial⟩,trivial,trivial⟩,⟨nl1 ⟨Go.Proofs.Tryz.func193,λ _=>rfl,λ m a=>quy m a.1,trivial⟩,trivial,trivial⟩⟩⟩⟩,⟨nl1 ⟨Go.Proofs.Tryz.func215,λ _=>rfl,λ m a=>qnL m a.1,trivial⟩,⟨qcV (m:=0),⟨⟨Go.Proofs.Tryz.func199,λ _=>rfl,λ m a=>qmx m a.1 a.2.1⟩,⟨nl1 ⟨Go.Proofs.Tryz.func198,λ _=>rfl,λ m a=>qm9 m a.1,trivial⟩,⟨nl1 ⟨Go.Proofs.Tryz.func197,λ _=>rfl,λ m a=>qq8 m a.1 a.2.1 a.2.2.1,trivial⟩,trivial,trivial⟩,trivial⟩,⟨qcS (m:=0),trivial,trivial⟩⟩,⟨nl1 ⟨Go.Proofs.Tryz.func203,λ _=>rfl,λ m a=>qlN m a.1,trivial⟩,⟨⟨Go.Proofs.Tryz.func202,λ _=>rfl,λ m a=>qlY m a.1⟩,trivial,trivial⟩,⟨nl1 ⟨Go.Proofs.Tryz.func214,λ _=>rfl,λ m a=>qrp m a.1 a.2.1,trivial⟩,trivial,trivial⟩⟩⟩,⟨qbB (m:=0),⟨nl1 ⟨Go.Proofs.Tryz.func220,λ _=>rfl,λ m a=>qj0 m a.1 a.2.1,trivial⟩,⟨nl1 ⟨Go.Proofs.Tryz.func219,λ _=>rfl,λ m a=>jQ m a.1 a.2.1,trivial⟩,trivial,trivial⟩,⟨qbD (m:=0),trivial,trivial⟩⟩,⟨nl1 ⟨Go.Proofs.Tryz.func224,λ _=>rfl,λ m a=>qko m a.1,trivial⟩,⟨nl1 ⟨Go.Proofs.Tryz.func223,λ _=>rfl,λ m a=>Jn m a.1,trivial⟩,trivial,trivial⟩,⟨nl1 ⟨Go.Proofs.Tryz.func235,λ _=>rfl,λ m a=>JP m a.1,trivial⟩,trivial,trivial⟩⟩⟩⟩⟩⟩⟩
end Go.AmZ
