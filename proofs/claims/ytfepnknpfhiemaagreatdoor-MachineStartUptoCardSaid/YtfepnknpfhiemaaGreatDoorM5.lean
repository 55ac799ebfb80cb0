/- Part 5 of what the proofs stand on: plain functions of the program, and that they are its functions. -/
import Derived.Test.YtfepnknpfhiemaaGreatDoorM4
import Derived.KernelRfl
import Derived.Test.YtfepnknpfhiemaaGreatDoorM3
import Derived.SliceStrings
import Derived.SizedLaws
import Derived.Test.YtfepnknpfhiemaaGreatDoorRows
import Derived.Shelf.SlSortCmp.NoneTotal
import Derived.Test.YtfepnknpfhiemaaGreatDoorProg
set_option linter.unusedVariables false
set_option linter.unusedSimpArgs false
set_option linter.defProp false
noncomputable section
open Option renaming some->Z,none->U
open Bool renaming true->O,false->Y
open Decidable renaming decide->J
open List renaming length->X
open Array renaming toList->V
open Go renaming Value->aj,World->aA,TypeId->aQ,Program->aZ
namespace Go.AmZ
open GxZ
def mV(p:aa aN->Bool):T->Bool:=T.para λ t a=>(!(t.kind==3)||p t.name)&&a.all id
def GC(p:aa aN->Bool)(t:T):mV p t=((!(t.kind==3)||p t.name)&&(t.kids.map (mV p)).all id):=T.para_eq _ _
def dD:T->aa T:=T.para λ t a=>t::a.flatten
theorem pN(t:T):dD t=t::(t.kids.map dD).flatten:=T.para_eq _ _
def GW(t:T):X (dD t)=size t:=by
 refine T.ind (P:=λ t=>X (dD t)=size t) ?_ t;intro t a;rw[pN,cM,bE,List.length_flatten,jQ];have:t.kids.map (X ∘ dD)=t.kids.map size:=ss λ k b=>a k b;rw[this];omega
def qqH(t:T):∀u∈dD t,size u<=size t:=by
 refine T.ind (P:=λ t=>∀u∈dD t,size u<=size t) ?_ t;intro t c u a;rw[pN]at a;obtain rfl|a:=bi.1 a
 .exact ak _
 .let⟨l,d,a⟩:=mI.1 a;obtain⟨k,b,rfl⟩:=bF.1 d;have f:=c k b u a;have e:=dW t k b;omega
def ql1(p:aa aN->Bool)(t:T):(dD t).all (λ u => !(u.kind==3)||p u.name)=mV p t:=by
 refine T.ind (P:=λ t=>(dD t).all (λ u => !(u.kind==3)||p u.name)=mV p t) ?_ t;intro t b;rw[pN,GC,dy,List.all_flatten];congr 1;rw[QG,QG];rw[iX,bz,bz];exact⟨λ h k a=>(b k a).symm.trans (h k a),λ h k a=>(b k a).trans (h k a)⟩
def pPl(n:aa aN):Bool:=ap (ieq (bW n).2.2 3)
def qr(n:aa aN):Bool:=n==lr||n==vb||n==mA||n==mn||n==gk||n==mu
def pFr(n:aa aN):Bool := !qr n&&pPl n
def qmw(n:aa aN):Ev (λ m _=>D1 m n) (pPl n):=by
 apply aB;simp only[qfl,Kk];refine ah (L1 n) (am ?_);unfold pPl;rw[<-Ho]
def nU{n x:aa aN}(h:n=x)(a:qr x=O):qr n=O:=by rw[h];exact a
def Y7{n:aa aN}(e:n≠lr)(d:n≠vb)(c:n≠mA)(b:n≠mn)(a:n≠gk):qr n=(n==mu):=by
 unfold qr;rw[jq.2 e,jq.2 d,jq.2 c,jq.2 b,jq.2 a];rfl
def qm1(t:T):size t<=1000000000->Ev (λ m _=>kP m t) (mV pPl t):=by
 induction t using T.ind with
 |h t j=>
   intro r;have s:=fE t;apply aB;simp only[qdW,Cv]
   have d:=aV (P:=λ i=>Ev (λ m k=>qI m (kP m) k t.kids (X t.kids) i) (((t.kids.drop i).map (mV pPl)).all id)) t.kids (by omega)
    (λ f=>by
     apply aq;simp only[Rb,Cy];refine ai f (am ?_);rw[bR];rfl)
    (λ i x l p f o n q=>by
     apply aq;simp only[Rb,Cy,ay];have g:=aK l;have u:=dW t x g;rw[p,aU,dy];refine ag f (al o (ah (j x g (by omega)) (av (λ b=>?_) λ b=>?_)))
     .rw[bnt]at b;rw[b];exact au _
     .rw[bnf]at b;rw[b,n];exact q)
   have a:Ev (λ m _=>qI m (kP m) m t.kids (X t.kids) 0) ((t.kids.map (mV pPl)).all id):=
    bd (L:=λ m k=>qI m (kP m) k t.kids (X t.kids) 0) ((d 0 (aG _)).res (by rw[bH]))
   rw[GC];refine av (λ c=>?_) λ c=>?_
   .rw[aD]at c;have e:(!(t.kind==3))=Y:=by rw[c];rfl
    rw[e,pi];refine ah (qmw t.name) (av (λ h=>?_) λ h=>?_)
    .rw[bnt]at h;rw[h];exact au _
    .rw[bnf]at h;rw[h];exact a
   .rw[aC]at c;have e:(!(t.kind==3))=O:=by rw[eD,jq];exact c
    rw[e,vP];exact a
def XO(t:T):size t<=1000000000->Ev (λ m _=>kU m t) (dD t):=by
 induction t using T.ind with
 |h t n=>
   intro r;have s:=fE t;have b:=GW t;apply aB;simp only[qkQ,Fp,ay];rw[pN]at b |-
   have a:∀i,((t.kids.take i).map dD).flatten.length<=(t.kids.map dD).flatten.length:=λ i=>by
    have:=bB (λ l=>(l.map dD).flatten.length) (ot i t.kids);simp only[eK,QR,aM]at this;omega
   have c:=aV (P:=λ i=>Ev (λ m k=>ui m (kU m) k i t.kind t.name t.sort t.kids (t::((t.kids.take i).map dD).flatten)) (t::(t.kids.map dD).flatten)) t.kids (by omega)
    (λ d=>by
     apply aq;simp only[Tv,EW];apply ai d;rw[dg];exact au _)
    (λ i x f u d p o j=>by
     apply aq;simp only[Tv,EW,ay];have g:=aK f;have v:=dW t x g;have q:=a (i+1)
     have e:((t.kids.take (i+1)).map dD).flatten=((t.kids.take i).map dD).flatten++dD x:=by
      rw[oA f,eK,QR];simp
     rw[e,aM]at q;rw[e]at j;rw[bE]at b;refine ag d (al p (ah (n x g (by omega)) (ag (bI (by rw[bE];omega)) ?_)));rw[o];exact j)
   apply bd (L:=λ m k=>ui m (kU m) k 0 t.kind t.name t.sort t.kids [t]);exact c 0 (aG _)
def xZ(t:T):Bool:=J (my t=0)&&mV pFr t
def uU(t:T):Bool:=J ((xt t).2=0)&&(cg (xt t).1 t&&mV pPl t)
def qny(t:T)(a:size t<=1000000000:=by omega):Ev (λ m _=>zM m t) (uU t):=by
 have c:=qlk t;apply aB;simp only[qhd,Kw,ay];unfold uU;refine ah (qmg t a) (av (λ h=>?_) λ h=>?_)
 .rw[aD]at h;rw[bg h,cv];refine ah (Hx _ _ (by omega) a) (av (λ b=>?_) λ b=>?_)
  .rw[b,cv];exact ah (qm1 t a) (au _)
  .rw[b,mE];exact au _
 .rw[aC]at h;rw[bv h,mE];exact au _
section
open Go.Sort Proofs Proofs.YtfepnknpfhiemaaGreatDoor
def bP(k:Int)(t:T):aa T:=(dD t).filter λ x=>J (x.kind=k)
def oJ(t:T):Bool:=(bP 1 t).isEmpty
def oD(k:Int)(t:T):bP k t=(if t.kind=k then[t]else[])++(t.kids.map (bP k)).flatten:=by
 unfold bP;grind [bP,pN,List.map_map,Function.comp_def]
theorem wQ(k:Int)(t:T):X (bP k t)<=size t:=by
 have:=qcg (λ x:T=>J (x.kind=k)) (dD t);rw[GW]at this;exact this
def wU(k:Int)(t:T):∀u∈bP k t,size u<=size t:=λ u a=>qqH t u ((kJ.1 a).1)
def Nt{s:Nat}:∀{l:aa T},(∀u∈l,size u<=s)->szL l<=X l*s
 |[],_=>by simp[szL]
 |x::l,h=>by
   have:=Nt λ u a=>h u (aT _ a);grind [List.mem_cons_self,eE,List.length_cons,Nat.succ_mul]
def qoT(x:T)(k:Int)(l:aa T)(b:X l<=1000000000:=by omega):Ev (λ m _=>CJ m x k l) ((k,l++(if x.kind=k then[x]else[]),()),()):=by
 apply aB;simp only[qdI,J5,ay];by_cases h:x.kind=k
 .rw[af h];refine ag (aD.2 h) (ag (bI) (al (a:=T.mk 0 [] 0 []) (by rw[db];simp) (am ?_)));rw[pL];simp
 .rw[ae h,bK];exact ai (aC.2 h) (au _)
def qp6(t:T)(k:Int):size t<=1000000000->∀l:aa T,X l+size t<=1000000000->Ev (λ m _=>lG m t k l) ((k,l++bP k t,()),()):=by
 induction t using T.ind with
 |h t v=>
   intro C l D;have w:=fE t;apply aB;simp only[qee,CH,ay];apply ah (qoT t k l);simp only;obtain⟨a,b⟩:∃a,a=l++(if t.kind=k then[t]else[]):=⟨_,rfl⟩
   rw[<-b];have j:=wQ k t;rw[oD,aM]at j;have r:X a+X ((t.kids.map (bP k)).flatten)=X l+(X (if t.kind=k then[t]else[])+X ((t.kids.map (bP k)).flatten)):=by rw[b,aM];omega
   have p:∀i,((t.kids.take i).map (bP k)).flatten.length<=(t.kids.map (bP k)).flatten.length:=λ i=>by
    have:=bB (λ l=>(l.map (bP k)).flatten.length) (ot i t.kids);grind
   have g:∀i x,t.kids[i]?=Z x->X a+((t.kids.take i).map (bP k)).flatten.length+size x<=1000000000:=λ i x c=>by
    have B:((t.kids.take i).map (bP k)).flatten.length<=szL (t.kids.take i):=by
     have o:∀l:aa T,X ((l.map (bP k)).flatten)<=szL l:=by
      intro l
      induction l with
      |nil=>simp[szL]
      |cons y l u=>rw[aU,ou,aM,eE];have:=wQ k y;omega
     exact o _
    have F:=zA c;grind [szL,cM,List.length_append]
   have f:=aV (P:=λ i=>Ev (λ m d=>sM m (lG m) d t.kids (X t.kids) i k (a++((t.kids.take i).map (bP k)).flatten)) ((k,a++(t.kids.map (bP k)).flatten,()),())) t.kids (by omega)
    (λ n=>by
     apply aq;simp only[Rk,CG];apply ai n;rw[dg];exact au _)
    (λ i x c E n A z s=>by
     apply aq;simp only[Rk,CG,ay];have q:=aK c;have B:=dW t x q;refine ag n (al A (ah (v x q (by omega) _ (by rw[aM];exact g i x c)) ?_));rw[z]
     have e:((t.kids.take (i+1)).map (bP k)).flatten=((t.kids.take i).map (bP k)).flatten++bP k x:=by
      rw[oA c,eK,QR];simp
     rw[e,<-bA]at s;exact s)
   rw[oD,<-bA,<-b];apply bd (L:=λ m d=>sM m (lG m) d t.kids (X t.kids) 0 k a);have:=f 0 (aG _);simpa using this
def qqT{F G:T->T->ab Int}{l:aa T}(h:∀x∈l,∀y∈l,F x y=G x y):da F l=da G l:=by
 grind [da]
def U1{a:Type}{F:T->T->ab a}{l:aa T}(h:∀x∈l,∀y∈l,(F x y).isSome=O):ko F l=O:=
 bz.2 λ x c=>bz.2 λ y b=>h x c y b
theorem XB{n:Nat}{lt:Nat->Nat->Bool}(h:SWO lt):rU n lt=O:=by
 unfold rU;refine bz.2 λ i _=>?_;rw[aJ];refine⟨by rw[h.irrefl];rfl,bz.2 λ j _=>bz.2 λ k _=>?_⟩;rw[aJ];constructor
 .cases b:lt i j with
  |false=>rfl
  |true=>cases a:lt j k with
    |false=>rfl
    |true=>rw[h.trans i j k b a];rfl
 .cases b:lt i j with
  |true=>rfl
  |false=>cases a:lt j k with
    |true=>rfl
    |false=>rw[h.ntrans i j k b a];rfl
theorem qba(l:List T):SWO (ltOf (da (λ x y=>some (aO x y)) l)):=by
 have hlt:∀ i j,ltOf (da (λ x y=>some (aO x y)) l) i j=true↔∃ x y,l[i % l.length]?=some x/\l[j % l.length]?=some y/\aO x y=-1 := λ i j=>by
  unfold ltOf da;rw[cV];cases hx:l[i % l.length]? with
  | none=>simp
  | some x=>cases hy:l[j % l.length]? with
    | none=>simp
    | some y =>
      simp only[QS];have:=dV.rng x y;constructor
      ·intro h;exact⟨x,y,rfl,rfl,by omega⟩
      ·rintro⟨_,_,h1,h2,h3⟩;cases h1;cases h2;omega
 refine⟨λ i=>?_,λ i j k h1 h2=>?_,λ i j k h1 h2=>?_⟩
 ·rw[oy];grind [nG]
 ·obtain⟨x,y,a1,a2,a3⟩:=(hlt _ _).1 h1;obtain⟨y',z,b1,b2,b3⟩:=(hlt _ _).1 h2;rw[a2]at b1;cases b1;exact(hlt _ _).2 ⟨x,z,a1,b2,dV.trans x y z a3 b3⟩
 ·rw[oy]at h1 h2 |-
  intro h;obtain⟨x,z,a1,a2,a3⟩:=(hlt _ _).1 h;have hn:0<l.length:=by have:=getElem?_lt a1;omega
  obtain⟨y,hj⟩:∃ y,l[j % l.length]?=some y:=⟨_,aS (si _ hn)⟩
  have n1:aO x y≠-1 := λ he=>h1 ((hlt _ _).2 ⟨x,_,a1,hj,he⟩);have n2:aO y z≠-1 := λ he=>h2 ((hlt _ _).2 ⟨_,z,hj,a2,he⟩);have r1:=dV.rng x y;have r2:=dV.rng y z;rcases r1 with r1 | r1 | r1
  ·exact n1 r1
  ·grind [mQ]
  ·rcases r2 with r2 | r2 | r2
   ·exact n2 r2
   ·grind [mQ]
   ·have e1:aO y x=-1:=by rw[dV.anti];omega
    have e2:aO z y=-1:=by rw[dV.anti];omega
    have e3:=dV.trans _ _ _ e2 e1;have e4:=dV.anti x z;omega
def M8{k:Type}{F:Nat->T->T->ab k}{g:T->T->k}(l:aa T)(h:∀x∈l,∀y∈l,Ev (λ m _=>F m x y) (g x y)):∃B,∀m,B<=m->∀x∈l,∀y∈l,F m x y=Z (g x y):=by
 have d:∀(x:T),(∀y∈l,Ev (λ m _=>F m x y) (g x y))->∀r:aa T,(∀y∈r,y∈l)->∃B,∀m,B<=m->∀y∈r,F m x y=Z (g x y):=by
  intro x n r
  induction r with
  |nil=>exact λ _=>⟨0,λ _ _ y f=>by cases f⟩
  |cons y r e=>
    intro b;let⟨B,j⟩:=e λ z a=>b z (aT _ a);let⟨D,i⟩:=n y (b y (aX ..));refine⟨max B D,λ m o z a=>?_⟩;obtain rfl|a:=bi.1 a
    .exact i m D (by omega) (ak _)
    .exact j m (by omega) z a
 have c:∀r:aa T,(∀y∈r,y∈l)->∃B,∀m,B<=m->∀x∈r,∀y∈l,F m x y=Z (g x y):=by
  intro r
  induction r with
  |nil=>exact λ _=>⟨0,λ _ _ y f=>by cases f⟩
  |cons x r e=>
    intro b;let⟨B,j⟩:=e λ z a=>b z (aT _ a);let⟨D,i⟩:=d x (h x (b x (aX ..))) l λ _ h=>h;refine⟨max B D,λ m o z a=>?_⟩;obtain rfl|a:=bi.1 a
    .exact i m (by omega)
    .exact j m (by omega) z a
 exact c l λ _ h=>h
def qoe{α:Type}{l:aa α}{b:aa Nat}:∀x∈pick l b,x∈l:=λ x a=>by
 unfold pick at a;let⟨i,_,h⟩:=nD.1 a;exact aK h
def Y4(l:aa T)(o:szL l<=1000000000):Ev (λ m _=>Ap m l) (l.foldl dE []):=by
 have g:=kW l;apply aB;simp only[qkG,Fo]
 have n:∀(l a:aa T),szL (l.foldl dE a)<=szL a+szL l:=by
  intro l
  induction l with
  |nil=>intro a;simp[szL]
  |cons x l f=>intro a;rw[jP,eE];have:=f (dE a x);have:=Yx x a;omega
 have b:=aV (P:=λ i=>Ev (λ m k=>ub m k l ((l.take i).foldl dE []) i) (l.foldl dE [])) l (by omega)
  (λ c=>by
   apply aq;simp only[Td,Fl];apply ai c;rw[dg];exact au _)
  (λ i x d p c j h e=>by
   apply aq;simp only[Td,Fl,ay];have r:=n (l.take i) [];have q:=zA d;have s:szL ([]:aa T)=0:=rfl;refine ag c (al j (ah (qrJ _ x) ?_));rw[h,qpJ];rw[oA d,QQ]at e;exact e)
 exact bd (L:=λ m k=>ub m k l [] 0) (b 0 (aG _))
def qps(t:T)(k:Int)(g:size t<=10000):Ev (λ m _=>Gc m t k) ((bP k t).foldl dE []):=by
 apply aB;simp only[qkq,Eu,ay];apply ah (XO t (by omega));have h:=GW t
 have a:szL (bP k t)<=1000000000:=by
  have s:=Nt (wU k t);have r:X (bP k t)*size t<=10000*10000:=QJ (bL (wQ k t) g) g;omega
 have d:=aV (P:=λ i=>Ev (λ m c=>tJ m c k (dD t) i (((dD t).take i).filter λ x=>J (x.kind=k))) ((bP k t).foldl dE [])) (dD t) (by omega)
  (λ e=>by
   apply aq;simp only[SZ,ET];apply ai e;rw[dg];exact ah (Y4 (bP k t) a) (au _))
  (λ i x n o e l j f=>by
   apply aq;simp only[SZ,ET,ay];have q:=qcg (λ x:T=>J (x.kind=k)) ((dD t).take i);have p:=List.length_take_le' i (dD t);rw[oA n,List.filter_append]at f;refine ag e (al l ?_);by_cases b:x.kind=k
   .refine ag (aD.2 b) (al l (ag (bI) ?_));rw[j];simpa[b]using f
   .apply ai (aC.2 b);rw[j];simpa[b]using f)
 exact bd (L:=λ m c=>tJ m c k (dD t) 0 []) (d 0 (aG _))
def IN(l:aa T):Prop:=l.Pairwise λ a b=>aO b a≠-1
def XK{R:T->T->Prop}{l:aa T}{a:aa Nat}(h:a.Pairwise λ i j=>∀x,l[i]?=Z x->∀y,l[j]?=Z y->R x y):(pick l a).Pairwise R:=by
 grind [pick]
def Ub:∀l:aa T,(List.range (X l)).filterMap (λ i=>l[i]?)=l
 |[]=>rfl
 |x::l=>by
   rw[bE,qch,qF,List.filterMap_map];have:=Ub l;simpa[BU]using this
theorem W8(l:List T)(hl:l.length<=100000)(hs:∀ t∈l,size t<=1000000000):∃ l',Ev (λ m _=>sF m l) l'/\l'.Perm l/\IN l':=by
 cases hl0:l with
 | nil=>exact⟨[],aB (B5 (au _) λ m _=>rfl),.refl _,List.Pairwise.nil⟩
 | cons x0 r0 =>
   rw[<- hl0];obtain⟨B,hB⟩:=M8 (F := λ m x y=>cW m x y) l λ x hx y hy=>mM x (hs x hx) y (hs y hy);have hne:l≠[]:=by rw[hl0];exact QK _ _
   have hO:=qba l;obtain⟨hp,hq⟩:=Lw (λ x y=>some (aO x y)) l hO;have hlt:∀ i∈eF (λ x y=>some (aO x y)) l,i<l.length := λ i hi=>jS.1 (hp.mem_iff.1 hi);refine⟨pick l (eF (λ x y=>some (aO x y)) l),aB ⟨B,λ m k hm _=>?_⟩,?_,XK ?_⟩
   ·show sF (m+1) l=_;rw[qc0];have hcf:da (cW m) l=da (λ x y=>some (aO x y)) l:=qqT (hB m hm);have hall:ko (cW m) l=true:=U1 λ x hx y hy=>by rw[hB m hm x hx y hy];rfl
    have hix:eF (cW m) l=eF (λ x y=>some (aO x y)) l:=by unfold eF;rw[hcf]
    have e:oT (cW m) l=cond (Nat.ble l.length 100000&&(ko (cW m) l&&rU l.length (ltOf (da (cW m) l)))) (some (pick l (eF (cW m) l))) none:=by rw[hl0];rfl
    grind [XB,Nat.ble_eq_true_of_le]
   ·have:=hp.filterMap λ i=>l[i]?;rw[Ub]at this;exact this
   ·generalize eF (λ x y=>some (aO x y)) l=ix at hp hq hlt |-
    have hn:ix.length=l.length:=by rw[hp.length_eq,vW]
    rw[vY];intro i j hi hj hij x hx y hy hc;have:=hq i j (aG _) hij (by omega);rw[pn ix.toArray i (by simpa using hi),pn ix.toArray j (by simpa using hj)]at this;have h1:=hlt _ (fX hi);have h2:=hlt _ (fX hj);unfold ltOf da at this;grind [decide_eq_false_iff_not,Nat.mod_eq_of_lt]
def qkE(l:aa T)(P:X l<=100000)(A:∀t∈l,size t<=1000000000)(L:IN l):∃l',Ev (λ m _=>we m l) ((),l',())/\Asc l'/\X l'<=X l/\∀x,x∈l'↔x∈l:=by
 cases f:l with
 |nil=>exact⟨[],aB (B5 (au _) λ m _=>rfl),List.Pairwise.nil,ak _,λ x=>Iff.rfl⟩
 |cons M N=>
   rw[<-f]
   let⟨B,E⟩:=M8 (F:=λ m x y=>nF m x y) (g:=λ x y=>ieq (aO x y) 0) l λ x a y b=>by
    apply aB;simp only[qfM,Kn,ay];exact ah (mM x (A x a) y (A y b)) (au _)
   have v:l≠[]:=by rw[f];exact QK _ _
   have h:0<X l:=BP.2 v;obtain⟨d,p⟩:∃d,d=nv (λ x y=>Z (ieq (aO x y) 0)) l:=⟨_,rfl⟩
   have w:∀i∈cX d (X l),i<X l:=U4
   have n:X (cX d (X l))<=X l:=by
    have:=qcg (λ i=>J (i=0) || !d i (i-1)) (List.range (X l));rw[vW]at this;exact this
   have c:∀i x y,l[i]?=Z x->l[i-1]?=Z y->d i (i-1)=ieq (aO x y) 0:=λ i x y a b=>by
    have s:=getElem?_lt a;have Q:=getElem?_lt b;rw[p];grind [nv,Nat.mod_eq_of_lt]
   have H:∀i j x y,i<j->l[i]?=Z x->l[j]?=Z y->aO y x≠-1:=λ i j x y o a b=>by
    have s:=vY.1 L i j (getElem?_lt a) (getElem?_lt b) o;grind
   refine⟨pick l (cX d (X l)),aB ⟨B,λ m k C _=>?_⟩,XK ?_,by rw[WK w];exact n,λ x=>⟨qoe x,λ a=>?_⟩⟩
   .show we (m+1) l=_;rw[qcL]
    have K:nv (nF m) l=d:=by
     rw[p];funext i j;unfold nv;cases a:l[i%X l]? with
     |none=>rfl
     |some x=>cases b:l[j%X l]? with
       |none=>rfl
       |some y=>simp only;rw[E m C x (aK a) y (aK b)]
    have D:ko (nF m) l=O:=U1 λ x a y b=>by rw[E m C x a y b];rfl
    have e:II (nF m) l=cond (Nat.ble (X l) 100000&&ko (nF m) l) (Z (pick l (cX (nv (nF m) l) (X l)))) U:=by rw[f];rfl
    grind [A9,Nat.ble_eq_true_of_le]
   .unfold cX;rw[List.pairwise_filter];refine List.pairwise_lt_range.imp λ{i j} o _ I x a y b=>?_;have s:=getElem?_lt b;obtain⟨z,q⟩:∃z,l[j-1]?=Z z:=⟨_,aS (by omega)⟩
    rw[c j y z b q,bv (show ¬ j=0 by omega),pi,eD,aC]at I;grind [GX,nG,rh]
   .let⟨i,r⟩:=mD a;clear a
    induction i with
    |zero=>exact nD.2 ⟨0,kJ.2 ⟨jS.2 h,by simp⟩,r⟩
    |succ i G=>
      have s:=getElem?_lt r;obtain⟨z,q⟩:∃z,l[i]?=Z z:=⟨_,aS (by omega)⟩
      by_cases u:z=x
      .subst u;exact G q
      .refine nD.2 ⟨i+1,kJ.2 ⟨jS.2 s,?_⟩,r⟩;rw[c (i+1) x z r q,gO,eD,aC];grind [mQ]
def wZ:∀(l a:aa T),Asc a->Asc (l.foldl dE a)/\∀x,x∈l.foldl dE a↔x∈a\/x∈l
 |[],a,h=>⟨h,λ x=>by simp⟩
 |y::l,a,h=>by
   let⟨c,b⟩:=wZ l (dE a y) (Wj y a h);refine⟨c,λ x=>?_⟩;rw[jP,b,MJ,bi,B2]
def bo(t:T):aa T:=(bP 1 t).foldl dE []
def mR(t x:T):x∈bo t↔x∈bP 1 t:=by
 unfold bo;rw[(wZ _ [] List.Pairwise.nil).2];simp
def MX(t:T):∀l:aa T,X (dE l t)<=X l+1
 |[]=>ak _
 |x::l=>by
   have:=MX t l;grind [dE]
def xk(t:T):X (bo t)<=size t:=by
 have b:∀(l a:aa T),X (l.foldl dE a)<=X a+X l:=by
  intro l
  induction l with
  |nil=>intro a;simp
  |cons y l c=>intro a;rw[jP,bE];have:=c (dE a y);have:=MX y a;omega
 have d:X (bo t)<=X ([]:aa T)+X (bP 1 t):=b (bP 1 t) [];grind [wQ,List.length_nil]
def AE(t:T)(E:size t<=100000:=by omega):Ev (λ m _=>pH m t) (bo t):=by
 have p:∀u∈bP 1 t,size u<=1000000000:=λ u w=>by have:=wU 1 t u w;omega
 have F:=wQ 1 t;let⟨n,e1,d,B⟩:=W8 (bP 1 t) (by omega) p;have s:=d.length_eq;have l:∀x∈n,size x<=1000000000:=λ x c=>p x (d.mem_iff.1 c);let⟨b,A,C,D,h⟩:=qkE n (by omega) l B
 have v:b=bo t:=AO _ _ C (wZ _ [] List.Pairwise.nil).1 λ x=>by
  rw[h,d.mem_iff,<-mR]
 apply aB;simp only[qld,Lr,ay];refine ah (a:=bo t) (aB ?_) (au _);simp only[qi4,KU,ay];have o:=qp6 t 1 (by omega) [] (by rw[eJ];omega);rw[eZ]at o;rw[<-v];refine ah o (ah (a:=((),b,())) (aB ?_) (am rfl));simp only[qhZ,DO];refine ah e1 (ag (by simp[s]) (ah A ?_))
 have f:=aV (P:=λ i=>Ev (λ m k=>te m k (X b) i b) ((),b,())) b (by omega)
  (λ g=>by
   apply aq;simp only[Sj,DP];exact ai g (au _))
  (λ i x c G g r y z=>by
   apply aq;simp only[Sj,DP,ay];refine ag g (al r (ah (Hw x (l x ((h x).1 (aK c)))) (al r ?_)));rw[y]
   have e:dJ b (i:Int) x=b:=by
    rw[pL];apply qC;intro j;by_cases q:i=j
    .subst q;rw[gx (getElem?_lt c)];exact c.symm
    .rw[kK q]
   rw[e];exact z)
 exact bd (L:=λ m k=>te m k (X b) 0 b) (f 0 (aG _))
def Ax(t:T)(a:size t<=10000:=by omega):Ev (λ m _=>pB m t) (bo t):=by
 apply aB;simp only[qjL,La,ay];exact ah (qps t 1 a) (au _)
end
abbrev KM:=aa ((aa aN×Int)×T)
abbrev eqK:aa aN×Int->aa aN×Int->Bool:=veq (.pair .str (.int .i64))
def qrX{a b:aa aN×Int}:eqK a b=O↔a=b:=by
 show(bq a.1 b.1&&ieq a.2 b.2)=O↔_;rw[aJ,cU,aD,Prod.ext_iff]
def Vk{K W:Type}[DecidableEq K]{e:K->K->Bool}(d:∀{a b},e a b=O↔a=b)(v:W)(c k:K):∀s:aa (K×W),dC e (iW e s k v) c=if c=k then Z v else dC e s c
 |[]=>by
   show cond (e c k) (Z v) U=_;by_cases h:c=k
   .rw[d.2 h,af h];rfl
   .rw[oy.2 λ g=>h (d.1 g),ae h];rfl
 |p::s=>by
   show dC e (cond (e k p.1) ((p.1,v)::s) (p::iW e s k v)) c=if c=k then Z v else cond (e c p.1) (Z p.2) (dC e s c);have i:=Vk d v c k s;by_cases f:k=p.1
   .rw[d.2 f];show cond (e c p.1) (Z v) (dC e s c)=_;grind
   .rw[oy.2 λ g=>f (d.1 g)];show cond (e c p.1) (Z p.2) (dC e (iW e s k v) c)=_;grind
def M5(v:T)(a k:aa aN×Int)(s:KM):dC eqK (iW eqK s k v) a=if a=k then Z v else dC eqK s a:=Vk qrX v a k s
def kOf(x:T):aa aN×Int:=(x.name,x.sort)
def nZ(p t:T):Bool:=J (p.sort=0\/(t.kind≠3/\t.sort=p.sort))
def oV(p t:T):Bool:=J (aW p=0/\aW t=0/\p.kind=1)&&nZ p t
def alk(p t:T):Bool:=J (p.kind=3/\t.kind=3/\p.name=t.name/\X p.kids=X t.kids)
def mtL{S:Type}:aa (T->S->S×Bool)->aa T->S->S×Bool
 |r::a,k::b,s=>if(r k s).2=O then mtL a b (r k s).1 else((r k s).1,Y)
 |_,_,s=>(s,O)
def mtP:T->T->KM->KM×Bool:=T.para λ p a t s=>
 if p.kind=1 then(match dC eqK s (kOf p)with
  |Z u=>(s,cg u t)
  |U=>(iW eqK s (kOf p) t,oV p t))
 else if alk p t=Y then(s,cg p t)else mtL a t.kids s
def mtR:T->T->aa (T×T)->aa (T×T)×Bool:=T.para λ p a t s=>
 if p.kind=1 then(s++[(p,t)],nZ p t)else if p.kind=2 then(s,cg p t)else if alk p t=Y then(s,Y)else mtL a t.kids s
def N9(p t:T)(s:KM):mtP p t s=if p.kind=1 then(match dC eqK s (kOf p)with
  |Z u=>(s,cg u t)
  |U=>(iW eqK s (kOf p) t,oV p t))
 else if alk p t=Y then(s,cg p t)else mtL (p.kids.map mtP) t.kids s:=by
 unfold mtP;rw[T.para_eq]
def pT(p t:T)(s:aa (T×T)):mtR p t s=if p.kind=1 then(s++[(p,t)],nZ p t)else if p.kind=2 then(s,cg p t)else if alk p t=Y then(s,Y)else mtL (p.kids.map mtR) t.kids s:=by
 unfold mtR;rw[T.para_eq]
def Yj(p:T):∀t s,mtR p t s=(s++(mtR p t []).1,(mtR p t []).2):=by
 induction p using T.ind with
 |h p i=>
   intro t s
   have e:∀(ps:aa T),(∀x∈ps,∀t s,mtR x t s=(s++(mtR x t []).1,(mtR x t []).2))->∀ts s,mtL (ps.map mtR) ts s=(s++(mtL (ps.map mtR) ts []).1,(mtL (ps.map mtR) ts []).2):=by
    intro ps
    induction ps with
    |nil=>intro _ ts s;simp[mtL]
    |cons x ps b=>
      intro c ts s;have g:=c x (aX ..);have d:=b λ y f=>c y (aT _ f);cases ts with
      |nil=>simp[mtL]
      |cons y ts=>
        rw[aU,mtL,mtL,g y s];simp only;by_cases a:(mtR x y []).2=O
        .rw[af a,af a,d ts (s++_),d ts (mtR x y []).1,bA]
        .rw[ae a,ae a]
   rw[pT,pT];grind
def pK:∀(ps ts:aa T) (s:aa (T×T)),mtL (ps.map mtR) ts s=(s++(mtL (ps.map mtR) ts []).1,(mtL (ps.map mtR) ts []).2)
 |[],ts,s|x::ps,[],s=>by simp[mtL]
 |x::ps,y::ts,s=>by
   rw[aU,mtL,mtL,Yj x y s];simp only;by_cases a:(mtR x y []).2=O
   .rw[af a,af a,pK ps ts (s++_),pK ps ts (mtR x y []).1,bA]
   .rw[ae a,ae a]
def YO(p:T):∀t,(mtR p t []).1.length<=size p:=by
 induction p using T.ind with
 |h p k=>
   intro t
   have g:∀(ps:aa T),(∀x∈ps,∀t,(mtR x t []).1.length<=size x)->∀ts,(mtL (ps.map mtR) ts []).1.length<=(ps.map size).sum:=by
    intro ps
    induction ps with
    |nil=>intro _ ts;simp[mtL]
    |cons x ps c=>
      intro e ts;have b:=e x (aX ..);have a:=c λ y i=>e y (aT _ i);cases ts with
      |nil=>simp[mtL]
      |cons y ts=>
        rw[aU,mtL,aU,gc];have d:=b y;by_cases f:(mtR x y []).2=O
        .rw[af f];have l:=a ts;rw[pK,aM];omega
        .rw[ae f];simp only;omega
   have j:=size_pos p;rw[pT];by_cases b:p.kind=1
   .rw[af b];simpa using j
   .rw[ae b];by_cases a:p.kind=2
    .rw[af a];simp
    .rw[ae a];by_cases d:alk p t=Y
     .rw[af d];simp
     .rw[ae d,cM];grind
def W3(p t:T)(g:size p<=1000000000:=by omega)(f:size t<=1000000000:=by omega):Ev (λ m _=>Ae m p t) (oV p t):=by
 apply aB;simp only[qjN,Lg,ay];unfold oV nZ;apply ah (iN p g);by_cases d:aW p=0
 case neg=>exact ag (bnt.2 (aC.2 d)) (am (by simp[d]))
 refine ai (bnf.2 (aD.2 d)) (ah (iN t f) ?_);by_cases c:aW t=0
 case neg=>exact ag (bnt.2 (aC.2 c)) (am (by simp[c]))
 apply ai (bnf.2 (aD.2 c));by_cases b:p.kind=1
 case neg=>exact ag (bnt.2 (aC.2 b)) (am (by simp[b]))
 apply ai (bnf.2 (aD.2 b));by_cases a:p.sort=0
 .exact ag (aD.2 a) (am (by simp[d,c,b,a]))
 apply ai (aC.2 a);by_cases e:t.kind=3
 .exact ai (bnf.2 (aD.2 e)) (am (by simp[a,e]))
 .refine ag (bnt.2 (aC.2 e)) (am ?_);grind [aD,aC]
def qpE(p t:T):Ev (λ m _=>F3 m p t) (nZ p t):=by
 apply aB;simp only[qj0,Ld];unfold nZ;by_cases a:p.sort=0
 .exact ag (aD.2 a) (am (by simp[a]))
 apply ai (aC.2 a);by_cases b:t.kind=3
 .exact ai (bnf.2 (aD.2 b)) (am (by simp[a,b]))
 .refine ag (bnt.2 (aC.2 b)) (am ?_);grind [aD,aC]
def qoO(p t:T):Ev (λ m _=>FN m p t) (alk p t):=by
 apply aB;simp only[qi3,KL];unfold alk;by_cases c:p.kind=3
 case neg=>exact ai (aC.2 c) (am (by simp[c]))
 apply ag (aD.2 c);by_cases b:t.kind=3
 case neg=>exact ai (aC.2 b) (am (by simp[b]))
 apply ag (aD.2 b);by_cases a:p.name=t.name
 case neg=>exact ai (di.2 a) (am (by simp[a]))
 refine ag (cU.2 a) (am ?_);grind [aD,aC]
def qmV(p t:T):Ev (λ m _=>Gd m p t) (alk p t):=by
 apply aB;simp only[qjZ,K7];unfold alk;by_cases c:p.kind=3
 case neg=>exact ai (aC.2 c) (am (by simp[c]))
 apply ag (aD.2 c);by_cases b:t.kind=3
 case neg=>exact ai (aC.2 b) (am (by simp[b]))
 apply ag (aD.2 b);by_cases a:p.name=t.name
 case neg=>exact ai (di.2 a) (am (by simp[a]))
 refine ag (cU.2 a) (am ?_);grind [aD,aC]
def Nh(a b:T)(d:size a<=1000000000:=by omega)(c:size b<=1000000000:=by omega):Ev (λ m _=>uk m a b) (cg a b):=by
 apply aB;simp only[qkp,Lb,ay];exact ah (mM a d b c) (am (H7 a b))
def N6(x:T):Ev (λ m _=>wW m x) (kOf x):=aB (B5 (au (kOf x)) λ _ _=>rfl)
def qpb(x:T):Ev (λ m _=>Lv m x) (ieq x.kind 1):=aB (B5 (au (ieq x.kind 1)) λ _ _=>rfl)
def SmK(n:Nat)(s:KM):Prop:=∀k v,dC eqK s k=Z v->size v<=n
def SmK.put{n:Nat}{s:KM}(h:SmK n s){t:T}(b:size t<=n)(k:aa aN×Int):SmK n (iW eqK s k t):=λ c v a=>by
 rw[M5]at a;split at a
 .cases a;exact b
 .exact h _ _ a
def Ze(n:Nat)(p:T):∀t s,SmK n s->size t<=n->SmK n (mtP p t s).1:=by
 induction p using T.ind with
 |h p j=>
   intro t s b g
   have c:∀(ps:aa T),(∀x∈ps,∀t s,SmK n s->size t<=n->SmK n (mtP x t s).1)->∀ts s,SmK n s->(∀y∈ts,size y<=n)->SmK n (mtL (ps.map mtP) ts s).1:=by
    intro ps
    induction ps with
    |nil=>intro _ ts s h _;simpa[mtL]using h
    |cons x ps d=>
      intro f ts s h a;cases ts with
      |nil=>simpa[mtL]using h
      |cons y ts=>
        have i:=f x (aX ..) y s h (a y (aX ..));rw[aU,mtL];split
        .exact d (λ z e=>f z (aT _ e)) ts _ i λ z e=>a z (aT _ e)
        .exact i
   rw[N9];split
   .split
    .exact b
    .exact b.put g _
   .split
    .exact b
    .exact c p.kids j t.kids s b λ y k=>bL (ph (dW t y k)) g
def ON{p t:T}(h:alk p t=O):X p.kids=X t.kids:=(bG h).2.2.2
def qoH(p:T):∀t s,size p<=1000000->size t<=1000000->SmK 1000000 s->Ev (λ m _=>mL m p t s) (((mtP p t s).1,()),((mtP p t s).2,())):=by
 induction p using T.ind with
 |h p r=>
   intro t s H G c;apply aB;simp only[qip,Eh,ay];rw[N9];apply ah (qpb p);by_cases e:p.kind=1
   .rw[af e];refine ag (aD.2 e) (ah (N6 p) ?_);show Ev (λ m _=>cond (oU eqK s (kOf p)) (ac (uk m (lw eqK (T.mk 0 [] 0 []) s (kOf p)) t) _) (ac (wW m p) _)) _;cases b:dC eqK s (kOf p)with
    |some u=>
      have e1:oU eqK s (kOf p)=O:=by unfold oU;rw[b];rfl
      have D:lw eqK (T.mk 0 [] 0 []) s (kOf p)=u:=by unfold lw;rw[b];rfl
      have:=c _ _ b;rw[D];exact ag e1 (ah (Nh u t) (au _))
    |none=>
      have e1:oU eqK s (kOf p)=Y:=by unfold oU;rw[b];rfl
      exact ai e1 (ah (N6 p) (ah (W3 p t) (au _)))
   .rw[ae e];refine ai (aC.2 e) (ah (qoO p t) ?_);cases C:alk p t with
    |false=>
      rw[af rfl];exact ag rfl (ah (Nh p t) (au _))
    |true=>
      rw[ae (by decide)];apply ai rfl;have q:=ON C;have v:=fE p
      have f:=aV (P:=λ i=>∀s,SmK 1000000 s->Ev (λ m k=>wF m (mL m) k (X p.kids) i s p.kind p.name p.sort p.kids t.kind t.name t.sort t.kids) (((mtL ((p.kids.drop i).map mtP) (t.kids.drop i) s).1,()),((mtL ((p.kids.drop i).map mtP) (t.kids.drop i) s).2,()))) p.kids (by omega)
       (λ l s _=>by
        apply aq;simp only[Sv,Ed];apply ai l;rw[bR];exact am (by simp[mtL]))
       (λ i x n A l b z B s c=>by
        apply aq;simp only[Sv,Ed,ay];have w:=getElem?_lt n;obtain⟨y,d⟩:∃y,t.kids[i]?=Z y:=⟨_,aS (by omega)⟩
        have o:=aK n;have g:=aK d;have F:=dW p x o;have E:=dW t y g
        have j:t.kids.drop i=y::t.kids.drop (i+1):=by
         rw[yP (by omega)];rw[aS (by omega)]at d;rw[jp d]
        refine ag l (al b (al (a:=y) (by rw[db];exact d) (ah (r x o y s (by omega) (by omega) c) ?_)));rw[A,j,aU,mtL];cases I:(mtP x y s).2 with
        |false=>rw[ae (by decide)];exact ag rfl (au _)
        |true=>
          rw[af rfl];apply ai rfl;rw[z];exact B _ (Ze 1000000 x y s c (by omega)))
      have:=f 0 (aG _) s c;grind [Ev.diag]
def qmk(p:T):∀t s,size t<=1000000->X s+size p<=1000000->Ev (λ m _=>lK m p t s) ((),((mtR p t s).1,((mtR p t s).2,()))):=by
 induction p using T.ind with
 |h p u=>
   intro t s F f;have G:=size_pos p;apply aB;simp only[qje,Ec,ay];rw[pT];by_cases d:p.kind=1
   .rw[af d];exact ag (aD.2 d) (ag (bI) (ah (qpE p t) (au _)))
   .rw[ae d];apply ai (aC.2 d);by_cases c:p.kind=2
    .rw[af c];exact ag (aD.2 c) (ah (lP p t) (au _))
    rw[ae c];refine ai (aC.2 c) (ah (qmV p t) ?_);cases D:alk p t with
    |false=>
      rw[af rfl];exact ag rfl (au _)
    |true=>
      rw[ae (by decide)];apply ai rfl;have o:=ON D;have z:=fE p
      have stop:∀(i:Nat) (s:aa (T×T)),Ev (λ m k=>tx m (lK m) k Y i p.kind p.name p.sort p.kids t.kind t.name t.sort t.kids s) ((),(s,(Y,()))):=λ i s=>by
       apply aq;simp only[KR,zw];exact av (λ _=>au _) λ _=>au _
      have e:=aV (P:=λ i=>∀s:aa (T×T),X s+szL (p.kids.drop i)<=1000000->Ev (λ m k=>tx m (lK m) k O i p.kind p.name p.sort p.kids t.kind t.name t.sort t.kids s) ((),((mtL ((p.kids.drop i).map mtR) (t.kids.drop i) s).1,((mtL ((p.kids.drop i).map mtR) (t.kids.drop i) s).2,())))) p.kids (by omega)
       (λ l s _=>by
        apply aq;simp only[KR,zw];apply ai l;rw[bR];exact am (by simp[mtL]))
       (λ i x n r l B q C s f=>by
        apply aq;simp only[KR,zw,ay];have A:=getElem?_lt n;obtain⟨y,b⟩:∃y,t.kids[i]?=Z y:=⟨_,aS (by omega)⟩
        have w:=aK n;have g:=aK b;have E:=dW t y g
        have j:t.kids.drop i=y::t.kids.drop (i+1):=by
         rw[yP (by omega)];rw[aS (by omega)]at b;rw[jp b]
        rw[r,eE]at f;refine ag l (ag rfl (al B (al (a:=y) (by rw[db];exact b) (ah (u x w y s (by omega) (by omega)) ?_))));rw[r,j,aU,mtL];have H:=YO x y;have v:=Yj x y s;cases I:(mtR x y s).2 with
        |false=>rw[ae (by decide)];simp only;rw[q];exact stop (i+1) _
        |true=>
          rw[af rfl];simp only;rw[q];apply C _;rw[v];simp only[aM];omega)
      have:=e 0 (aG _) s (by rw[bH];rw[cM]at f;unfold szL;omega);grind [Ev.diag]
def ZQ{x y:Int}(h:thn x y=0):x=0/\y=0:=by
 unfold thn at h;by_cases a:x=0
 .rw[af a]at h;exact⟨a,h⟩
 .rw[ae a]at h;exact absurd h a
def FL:∀(l:aa Int) (x:Int),l.foldl thn x=0->x=0/\∀y∈l,y=0
 |[],x,h=>⟨h,by simp⟩
 |y::l,x,h=>by
   let⟨f,d⟩:=FL l (thn x y) h;let⟨c,b⟩:=ZQ f;exact⟨c,λ z a=>(bi.1 a).elim (λ e=>e▸b) (d z)⟩
def uP{t:T}(h:aW t=0):jC t=0/\size t<=400/\gN t<=40:=by
 unfold aW at h;by_cases a:jC t=0
 .rw[ae (λ g=>g a)]at h;by_cases b:400<size t\/40<gN t
  .rw[af b]at h;cases h
  .exact⟨a,by omega,by omega⟩
 .rw[af a]at h;exact absurd h a
def qU{t k:T}(h:aW t=0)(c:k∈t.kids):aW k=0:=by
 let⟨d,o,n⟩:=uP h;rw[uv]at d;have i:=(FL _ _ d).2 _ (iY c);have m:=dW t k c
 have j:gN k<=gN t:=by
  rw[xB t]
  have:∀(l:aa Nat) (a x:Nat),x∈l->x<=l.foldl max a:=by
   intro l
   induction l with
   |nil=>intro a x b;cases b
   |cons y l e=>
     intro a x b;obtain rfl|b:=bi.1 b
     .exact bL (qbQ a x) (qjt l _)
     .exact e _ x b
  have:=this _ 0 _ (iY (f:=gN) c);omega
 unfold aW;rw[ae (λ g=>g i),ifN]
def zX{t:T}(h:aW t=0):((t.kind=1\/t.kind=2)/\t.kids=[])\/t.kind=3:=by
 have d:=(uP h).1;rw[uv]at d;have a:=(FL _ _ d).1;unfold fI na at a;by_cases c:t.kind=1\/t.kind=2
 .rw[af c]at a;by_cases b:t.sort<0\/5<t.sort\/0<X t.kids
  .rw[af b]at a;cases a
  .exact .inl ⟨c,cR (by omega)⟩
 .rw[ae c]at a;by_cases b:t.kind=3
  .exact .inr b
  .rw[ae b]at a;cases a
def qm7{t:T}(h:aW t=0)(e:t.kind=1):0<=t.sort/\t.sort<=5/\X t.name<=24:=by
 have d:=(uP h).1;rw[uv]at d;have a:=(FL _ _ d).1;unfold fI na at a;rw[af (.inl e)]at a;by_cases c:t.sort<0\/5<t.sort\/0<X t.kids
 .rw[af c]at a;cases a
 .rw[ae c]at a;cases b:dc t.name with
  |false=>rw[b]at a;cases a
  |true=>
    unfold dc at b;simp only[aJ,cH]at b;exact⟨by omega,by omega,b.1.1.2⟩
def qsd(so:Int)(v:T):Prop:=so=0\/(v.kind≠3/\v.sort=so)
def Jp(s:KM):Prop:=∀k v,dC eqK s k=Z v->qsd k.2 v
def fQ:aa (T×T)->KM->KM×Bool
 |[],s=>(s,O)
 |a::l,s=>match dC eqK s (kOf a.1)with
   |Z v=>if v=a.2 then fQ l s else(s,Y)
   |U=>fQ l (iW eqK s (kOf a.1) a.2)
def MI:∀(a b:aa (T×T)) (s:KM),fQ (a++b) s=if(fQ a s).2=O then fQ b (fQ a s).1 else fQ a s
 |[],b,s=>rfl
 |x::a,b,s=>by
   rw[BW,fQ,fQ];cases dC eqK s (kOf x.1)with
   |some v=>
     simp only;by_cases h:v=x.2
     .rw[af h,af h];exact MI a b s
     .rw[ae h,ae h];rfl
   |none=>exact MI a b _
def qbt(p:T):Prop:=∀t s,aW p=0->aW t=0->Jp s->
 ((mtP p t s).2=O↔(mtR p t []).2=O/\(fQ (mtR p t []).1 s).2=O)/\((mtP p t s).2=O->(mtP p t s).1=(fQ (mtR p t []).1 s).1/\Jp (mtP p t s).1)
def qa1:∀(ps:aa T),(∀x∈ps,qbt x)->(∀x∈ps,aW x=0)->∀(ts:aa T),(∀y∈ts,aW y=0)->∀s,Jp s->
  ((mtL (ps.map mtP) ts s).2=O↔(mtL (ps.map mtR) ts []).2=O/\(fQ (mtL (ps.map mtR) ts []).1 s).2=O)/\((mtL (ps.map mtP) ts s).2=O->(mtL (ps.map mtP) ts s).1=(fQ (mtL (ps.map mtR) ts []).1 s).1/\Jp (mtL (ps.map mtP) ts s).1)
 |[],_,_,ts,_,s,c|x::ps,_,_,[],_,s,c=>by simp[mtL,fQ,c]
 |x::ps,i,j,y::ts,g,s,c=>by
   let⟨f,l⟩:=i x (aX ..) y s (j x (aX ..)) (g y (aX ..)) c;have k:=qa1 ps (λ z b=>i z (aT _ b)) (λ z b=>j z (aT _ b)) ts λ z b=>g z (aT _ b);rw[aU,aU,mtL,mtL];by_cases e:(mtR x y []).2=O
   .rw[af e,pK];simp only[MI];by_cases d:(fQ (mtR x y []).1 s).2=O
    .rw[af d];have a:=f.2 ⟨e,d⟩;let⟨n,m⟩:=l a;rw[af a,<-n];exact k (mtP x y s).1 m
    .rw[ae d];have a:¬ (mtP x y s).2=O:=λ h=>d (f.1 h).2;rw[ae a];exact⟨⟨λ h=>absurd h lD,λ h=>absurd h.2 d⟩,λ h=>absurd h lD⟩
   .have a:¬ (mtP x y s).2=O:=λ h=>e (f.1 h).1;rw[ae e,ae a];exact⟨⟨λ h=>absurd h lD,λ h=>absurd h.1 lD⟩,λ h=>absurd h lD⟩
def qqg(p:T):qbt p:=by
 induction p using T.ind with
 |h p m=>
   intro t s g i b;rw[N9,pT];by_cases c:p.kind=1
   .have r:oV p t=nZ p t:=by unfold oV;rw[bg ⟨g,i,c⟩,cv]
    rw[af c,af c];simp only[eZ,fQ];cases q:dC eqK s (kOf p)with
    |some u=>
      simp only;by_cases f:u=t
      .subst f;have:nZ p u=O:=bg (b _ _ q);simp[eL.2 rfl,this,b]
      .have:cg u t=Y:=oy.2 λ h=>f (eL.1 h);simp[f,this]
    |none=>
      simp only;rw[r];refine⟨⟨λ h=>⟨h,trivial⟩,λ h=>h.1⟩,λ h=>⟨trivial,λ k v d=>?_⟩⟩;rw[M5]at d;split at d
      .next e=>cases d;subst e;have z:p.sort=0\/(t.kind≠3/\t.sort=p.sort):=bG h;exact z
      .exact b _ _ d
   .rw[ae c,ae c];by_cases l:p.kind=2
    .have a:alk p t=Y:=bv λ h=>by have:=h.1;omega
     rw[af l,af a];simp[fQ,b]
    .rw[ae l];by_cases a:alk p t=Y
     .have j:p.kind=3:=(zX g).elim (λ h=>absurd h.1 (by omega)) id
      have w:cg p t=Y:=oy.2 λ h=>by
       have:=eL.1 h;subst this;exact of_decide_eq_false a ⟨j,j,rfl,rfl⟩
      rw[af a,af a];simp[w]
     .rw[ae a,ae a];exact qa1 p.kids m (λ x o=>qU g o) t.kids (λ y n=>qU i n) s b
def HU(p:T):∀t,aW p=0->(mtR p t []).2=O->(mtR p t []).1.map Prod.fst=bP 1 p:=by
 induction p using T.ind with
 |h p n=>
   intro t k a;rw[pT]at a |-
   rw[oD];by_cases f:p.kind=1
   .have e:p.kids=[]:=(zX k).elim (λ h=>h.2) λ h=>by omega
    rw[af f,af f,e];rfl
   .rw[ae f]at a |-
    rw[ae f,eZ];by_cases e:p.kind=2
    .have b:p.kids=[]:=(zX k).elim (λ h=>h.2) λ h=>by omega
     rw[af e,b];rfl
    .rw[ae e]at a |-
     by_cases b:alk p t=Y
     .rw[af b]at a;cases a
     .rw[ae b]at a |-
      have d:=ON (by simpa using b)
      have g:∀(ps:aa T),(∀x∈ps,∀t,aW x=0->(mtR x t []).2=O->(mtR x t []).1.map Prod.fst=bP 1 x)->(∀x∈ps,aW x=0)->∀ts:aa T,X ps=X ts->(mtL (ps.map mtR) ts []).2=O->(mtL (ps.map mtR) ts []).1.map Prod.fst=(ps.map (bP 1)).flatten:=by
       intro ps
       induction ps with
       |nil=>intro _ _ ts _ _;simp[mtL]
       |cons x ps i=>
         intro c m ts d a;cases ts with
         |nil=>cases d
         |cons y ts=>
           rw[aU,mtL]at a |-
           by_cases l:(mtR x y []).2=O
           .rw[af l,pK]at a |-
            rw[eK,aU,ou,c x (aX ..) y (m x (aX ..)) l];rw[i (λ z j=>c z (aT _ j)) (λ z j=>m z (aT _ j)) ts (by simpa using d) a]
           .rw[ae l]at a;cases a
      exact g p.kids n (λ x c=>qU k c) t.kids d a
def GD{p:T}:aW p=0->∀x∈bP 1 p,x.kind=1/\x.kids=[]:=by
 induction p using T.ind with
 |h p d=>
   intro b x a;rw[oD,aR]at a;obtain a|a:=a
   .split at a
    .next f=>rw[cQ]at a;subst a;exact⟨f,(zX b).elim (λ h=>h.2) λ h=>by omega⟩
    .cases a
   .let⟨l,e,a⟩:=mI.1 a;obtain⟨k,c,rfl⟩:=bF.1 e;exact d k c (qU b c) x a
def qrj{x y:T}(b:x.kind=1/\x.kids=[])(a:y.kind=1/\y.kids=[])(h:kOf x=kOf y):x=y:=by
 cases x;cases y;obtain⟨rfl,rfl⟩:=b;obtain⟨rfl,rfl⟩:=a;cases h;rfl
def lkA(l:aa (T×T))(x:T):ab T:=(l.find? λ a=>cg a.1 x).map Prod.snd
def xn(a:T×T)(l:aa (T×T))(x:T):lkA (a::l) x=if a.1=x then Z a.2 else lkA l x:=by
 unfold lkA;rw[qcd];by_cases h:a.1=x
 .rw[eL.2 h,af h];rfl
 .rw[show cg a.1 x=Y from oy.2 λ g=>h (eL.1 g),ae h]
def YC:∀(l:aa (T×T)),(∀a∈l,a.1.kind=1/\a.1.kids=[])->∀s:KM,
  ((fQ l s).2=O↔(∀a∈l,∀v,dC eqK s (kOf a.1)=Z v->v=a.2)/\l.Pairwise λ a b=>a.1=b.1->a.2=b.2)
  /\ ((fQ l s).2=O->∀x:T,x.kind=1/\x.kids=[]->dC eqK (fQ l s).1 (kOf x)=match dC eqK s (kOf x)with|some v=>Z v|none=>lkA l x)
 |[],_,s=>by
   refine⟨by simp[fQ],λ _ x _=>?_⟩;show dC eqK s (kOf x)=_;cases dC eqK s (kOf x)<;>rfl
 |a::l,n,s=>by
   have u:=n a (aX ..);have t:=YC l λ b c=>n b (aT _ c);rw[fQ];cases f:dC eqK s (kOf a.1)with
   |some v=>
     simp only;by_cases h:v=a.2
     .rw[af h];let⟨q,p⟩:=t s;refine⟨q.trans ⟨λ⟨i,j⟩=>⟨λ b c w d=>?_,mH.2 ⟨λ b c e=>?_,j⟩⟩,λ⟨i,j⟩=>⟨λ b c=>i b (aT _ c),(mH.1 j).2⟩⟩,λ k x m=>?_⟩
      .obtain rfl|c:=bi.1 c
       .rw[f]at d;cases d;exact h
       .exact i b c w d
      .have:=i b c v (by rw[<-e];exact f);rw[<-h,this]
      .rw[p k x m,xn];cases r:dC eqK s (kOf x)with
       |some w=>rfl
       |none=>rw[ae (λ e=>by rw[e,r]at f;cases f)]
     .rw[ae h];exact⟨⟨λ g=>absurd g lD,λ g=>absurd (g.1 a (aX ..) v f) h⟩,λ g=>absurd g lD⟩
   |none=>
     simp only;let⟨q,p⟩:=t (iW eqK s (kOf a.1) a.2)
     have o:∀x:T,x.kind=1/\x.kids=[]->dC eqK (iW eqK s (kOf a.1) a.2) (kOf x)=if a.1=x then Z a.2 else dC eqK s (kOf x):=λ x m=>by
      rw[M5];by_cases e:a.1=x
      .rw[af e,af (by rw[e])]
      .rw[ae e,ae λ g=>e (qrj u m g.symm)]
     refine⟨q.trans ⟨λ⟨i,j⟩=>⟨λ b c w d=>?_,mH.2 ⟨λ b c e=>?_,j⟩⟩,λ⟨i,j⟩=>⟨λ b c w d=>?_,(mH.1 j).2⟩⟩,λ k x m=>?_⟩
     .obtain rfl|c:=bi.1 c
      .rw[f]at d;cases d
      .apply i b c w;rw[o _ (n b (aT _ c)),ae λ e=>by rw[e,d]at f;cases f];exact d
     .exact i b c a.2 (by rw[o _ (n b (aT _ c)),af e])
     .rw[o _ (n b (aT _ c))]at d;split at d
      .next e=>cases d;exact(mH.1 j).1 b c e
      .exact i b (aT _ c) w d
     .rw[p k x m,o x m,xn];by_cases e:a.1=x
      .rw[af e,af e,<-e,f]
      .rw[ae e,ae e]
def Hr{l:aa (T×T)}{x:T}(h:x∈l.map Prod.fst):∃u,lkA l x=Z u:=by
 induction l with
 |nil=>cases h
 |cons a l b=>
   rw[xn];by_cases e:a.1=x
   .exact⟨_,af e⟩
   .rw[ae e];obtain h|h:=bi.1 h
    .exact absurd h.symm e
    .exact b h
def qru(p:T):∀t,∀a∈(mtR p t []).1,size a.1<=size p/\size a.2<=size t:=by
 induction p using T.ind with
 |h p l=>
   intro t a b
   have e:∀(n m:Nat) (ps:aa T),(∀x∈ps,size x<=n/\∀t,∀a∈(mtR x t []).1,size a.1<=size x/\size a.2<=size t)->∀ts:aa T,(∀y∈ts,size y<=m)->∀a∈(mtL (ps.map mtR) ts []).1,size a.1<=n/\size a.2<=m:=by
    intro n m ps
    induction ps with
    |nil=>intro _ ts _ a b;simp[mtL]at b
    |cons x ps f=>
      intro c ts d a b;cases ts with
      |nil=>simp[mtL]at b
      |cons y ts=>
        have j:=c x (aX ..);have q:=d y (aX ..)
        have k:∀a∈(mtR x y []).1,size a.1<=n/\size a.2<=m:=λ a b=>by
         have i:=j.2 y a b;exact⟨bL i.1 j.1,bL i.2 q⟩
        rw[aU,mtL]at b;split at b
        .rw[pK]at b;obtain b|b:=aR.1 b
         .exact k a b
         .exact f (λ z g=>c z (aT _ g)) ts (λ z g=>d z (aT _ g)) a b
        .exact k a b
   rw[pT]at b;split at b
   .grind
   .split at b
    .cases b
    .split at b
     .cases b
     .exact e (size p) (size t) p.kids (λ x c=>⟨ph (dW p x c),l x c⟩) t.kids (λ y o=>ph (dW t y o)) a b
def qam(l:aa (T×T)):Prop:=l.Pairwise λ a b=>a.1=b.1->a.2=b.2
def jN(l:aa (T×T))(x:T):ab (T×T):=match lkA l x with
 |Z u=>if cg u x=O then U else Z (x,u)
 |U=>U
open Classical in
def vw(p t:T):aa (T×T)×Int:=if(mtR p t []).2=true/\qam (mtR p t []).1 then((bo p).filterMap (jN (mtR p t []).1),0)else([],11)
def XZ(n:Nat):SmK n []:=λ _ _ h=>by cases h
theorem qnu(p t:T)(d:aW p=0)(w:aW t=0):Ev (λ m _=>zR m p t) (vw p t):=by
 obtain⟨_,L,_⟩:=uP d;obtain⟨_,t1,_⟩:=uP w;refine aB ?_;simp only[K9,wx,ay];refine ah (a:=0) (aB ?_) ?_
 .simp only[Lh,zt,ay];refine ah (iN p (by omega)) (ai (by rw[d];rfl) (ah (iN t (by omega)) (am w)))
 refine ai rfl (ah (qoH p t [] (by omega) (by omega) (XZ _)) ?_);obtain⟨D,K⟩:=qqg p t [] d w λ _ _ h=>by cases h
 have c:=λ h=>HU p t d h;have y:=Ze 1000000 p t [] (XZ _) (by omega);have j:=λ g=>YC (mtR p t []).1 g [];unfold vw;by_cases q:(mtP p t []).2=true
 .obtain⟨C,I⟩:=D.1 q;have g:∀a∈(mtR p t []).1,a.1.kind=1/\a.1.kids=[]:=λ a B=>GD d _ (by rw[<-c C];exact iY B);obtain⟨N,M⟩:=j g;rw[af ⟨C,(N.1 I).2⟩];refine ai (bnf.2 q) (ah (AE p (by omega)) ?_)
  have n:∀x∈bo p,∃u,lkA (mtR p t []).1 x=some u/\dC eqK (mtP p t []).1 (kOf x)=some u:=λ x f=>by
   have F:=(mR p x).1 f;obtain⟨u,r⟩:=Hr (l:=(mtR p t []).1) (by rw[c C];exact F);refine⟨u,r,?_⟩;rw[(K q).1,M I x (GD d x F)];exact r
  have v:(bo p).length<=400:=bL (xk p) L;have e:∀x∈bo p,size x<=400:=λ x f=>by have:=wU 1 p x ((mR p x).1 f);omega
  generalize bo p=vs at n v e |-
  have s:=aV (P:=λ i=>∀b:List (T×T),b.length+(vs.drop i).length<=400->Ev (λ m k=>wG m k vs vs.length i (mtP p t []).1 b) (b++(vs.drop i).filterMap (jN (mtR p t []).1),0)) vs (by omega)
   (λ z b _=>by
    refine aq ?_;simp only[SH,El];refine ai z ?_;rw[bR];exact am (by simp))
   (λ i x f G z hg W H b S=>by
    refine aq ?_;simp only[SH,El,ay];have E:=aK f;obtain⟨u,r,o⟩:=n x E;have R:=y _ _ o;have Q:=e x E;rw[G,bE]at S;refine ag z (al hg (ah (N6 x) ?_))
    have e2:lw eqK (T.mk 0 [] 0 []) (mtP p t []).1 ((kOf x).1,(kOf x).2)=u:=by
     show lw eqK _ _ (kOf x)=u;unfold lw;rw[o];rfl
    rw[e2];refine ah (Nh u x (by omega) (by omega)) ?_;have A:jN (mtR p t []).1 x=if cg u x=true then none else some (x,u):=by unfold jN;rw[r]
    rw[G,qF,A,W];cases hs:cg u x with
    |true=>exact ai rfl (by rw[af rfl];exact H b (by omega))
    |false=>
      refine ag rfl (ag (bI (by omega) (by omega)) ?_);rw[ae (by decide)];have:=H (b++[(x,u)]) (by rw[aM];simp only[bE,eJ];omega);rw[bA]at this;exact this)
  have:=s 0 (aG _) [] (by rw[bH,eJ];omega);grind [Ev.diag]
 .rw[ae λ h=>q (D.2 ⟨h.1,?_⟩)]
  .exact ag (bnt.2 (by simpa using q)) (au _)
  .have g:∀a∈(mtR p t []).1,a.1.kind=1/\a.1.kids=[]:=λ a B=>GD d _ (by rw[<-c h.1];exact iY B);exact(j g).1.2 ⟨λ _ _ _ h=>(by cases h),h.2⟩
def qnp(p t:T)(hp:aW p=0)(ht:aW t=0):Ev (λ m _=>zO m p t) (vw p t):=by
 let⟨_,p1,_⟩:=uP hp;let⟨_,t1,_⟩:=uP ht;apply aB;simp only[K8,wy,ay];refine ah (a:=0) (aB ?_) ?_
 .simp only[Ln,zC,ay];refine ah (uA p) (ai (by rw[hp];rfl) (ah (uA t) (am ht)))
 refine ai rfl (ah (qmk p t [] (by omega) (by rw[eJ];omega)) ?_);unfold vw;by_cases z:(mtR p t []).2=O
 case neg=>exact ag (bnt.2 (by simpa using z)) (am (by rw[ae λ h=>z h.1]))
 have a7:=qru p t;have a9:=YO p t;have a4:=HU p t hp z;apply ai (bnf.2 z);generalize (mtR p t []).1=l at *;have ar:X (bo p)<=400:=bL (xk p) p1;have K:∀x∈bo p,size x<=400:=λ x H=>by have:=wU 1 p x ((mR p x).1 H);omega
 have E:∀(i:Nat) (a:T×T),l[i]?=Z a->size a.1<=400/\size a.2<=400:=λ i a u=>by
  grind
 have C:∀i,i<X l->∃a,l[i]?=Z a:=λ i B=>⟨_,aS B⟩
 have a3:Ev (λ m k=>(cr m k).2.2.1 (bo p) 0 l []) ((bo p).filterMap (jN l),0):=by
  generalize bo p=vs at ar K |-
  have ad:=aV (P:=λ i=>∀n:aa (T×T),X n+X (vs.drop i)<=400->Ev (λ m k=>(cr m k).2.2.1 vs i l n) (n++(vs.drop i).filterMap (jN l),0)) vs (by omega)
   (λ q n _=>by
    apply aq;simp only[Sy,Em];apply ai q;rw[bR];exact am (by simp))
   (λ i x H hd q hg B hP n ho=>by
    apply aq;simp only[Sy,Em];apply ag q;have a5:=K x (aK H);rw[hd,bE]at ho;rw[hd]
    have f:=aV (P:=λ j=>lkA (l.drop j) x=lkA l x->Ev (λ m k=>(cr m k).2.2.2 vs i j l n) (n++(x::vs.drop (i+1)).filterMap (jN l),0)) l (by omega)
     (λ a2 s=>by
      apply aq;simp only[So,D2];apply ai a2;rw[B];have G:jN l x=U:=by unfold jN;rw[<-s,bR];rfl
      rw[qF,G];exact hP n (by omega))
     (λ j a u a0 a1 F az hQ s=>by
      apply aq;simp only[So,D2,ay];have an:=E j a u;refine ag a1 (al F (al hg (ah (lP a.1 x) ?_)));rw[a0,xn]at s;cases M:cg a.1 x with
      |false=>
        apply ai rfl;rw[az];exact hQ (by rw[<-s,ae λ e=>by rw[eL.2 e]at M;cases M])
      |true=>
        rw[af (eL.1 M)]at s;have G:jN l x=if cg a.2 x=O then U else Z (x,a.2):=by unfold jN;rw[<-s]
        refine ag rfl (al F (al hg (ah (lP a.2 x) ?_)));rw[qF,G,B];cases a8:cg a.2 x with
        |true=>exact ai rfl (by rw[af rfl];exact hP n (by omega))
        |false=>
          refine ag rfl (al hg (al F (ag (bI) ?_)));rw[ae (by decide)];have:=hP (n++[(x,a.2)]) (by rw[aM];simp only[bE,eJ];omega);rw[bA]at this;exact this)
    have:=f 0 (aG _) (by rw[bH]);exact this)
  have:=ad 0 (aG _) [] (by rw[bH,eJ];omega);grind
 have f:∀(i:Nat) (a:T×T),l[i]?=Z a->∀R,(Ev (λ m k=>(cr m k).1 ((i+1:Nat):Int) p.kind p.name p.sort p.kids l) R)->∀d j,i=j+d->
   ((∃c b,j<=c/\c<i/\l[c]?=Z b/\b.1=a.1/\b.2≠a.2)->Ev (λ m k=>(cr m k).2.1 i j p.kind p.name p.sort p.kids l) ([],11))/\
   ((¬ ∃c b,j<=c/\c<i/\l[c]?=Z b/\b.1=a.1/\b.2≠a.2)->Ev (λ m k=>(cr m k).2.1 i j p.kind p.name p.sort p.kids l) R):=by
  intro i a u R hR d;have bb:=getElem?_lt u;have an:=E i a u
  induction d with
  |zero=>
    intro j hj;obtain rfl:i=j:=by omega
    refine⟨λ⟨c,b,A,r,_⟩=>by omega,λ _=>aq ?_⟩;simp only[KZ,zu];apply ai (ba.2 (by omega));rw[show iw .i64 (aw (i:Int) 1)=((i+1:Nat):Int)from by rw[show(1:Int)=((1:Nat):Int)from rfl,qX,dA]];exact hR
  |succ d ih=>
    intro j hj;let⟨b,z⟩:=C j (by omega);have a6:=E j b z;let⟨Q,N⟩:=ih (j+1) (by omega);have ga:ao l (i:Int)=Z a:=by rw[db];exact u
    have gb:ao l (j:Int)=Z b:=by rw[db];exact z
    have aE:iw .i64 (aw (j:Int) 1)=((j+1:Nat):Int):=by rw[show(1:Int)=((1:Nat):Int)from rfl,qX,dA]
    have step:∀W,(¬ (b.1=a.1/\b.2≠a.2))->Ev (λ m k=>(cr m k).2.1 i ((j+1:Nat):Int) p.kind p.name p.sort p.kids l) W->Ev (λ m k=>(cr m k).2.1 i j p.kind p.name p.sort p.kids l) W:=λ W y S=>by
     apply aq;simp only[KZ,zu,ay];refine ag (aY.2 (by omega)) (al ga (al gb (ah (lP a.1 b.1) ?_)));rw[aE];cases M:cg a.1 b.1 with
     |false=>exact ai rfl S
     |true=>
       refine ag rfl (al ga (al gb (ah (lP a.2 b.2) ?_)));have:a.2=b.2:=yO λ e=>y ⟨(eL.1 M).symm,λ g=>e g.symm⟩;exact ai (by rw[eL.2 this];rfl) S
    refine⟨λ⟨c,b',A,r,v,w,I⟩=>?_,λ y=>step R (λ h=>y ⟨j,b,ak _,by omega,z,h⟩) (N λ⟨c,b',A,r⟩=>y ⟨c,b',by omega,r⟩)⟩;by_cases q:b.1=a.1/\b.2≠a.2
    .apply aq;simp only[KZ,zu,ay];refine ag (aY.2 (by omega)) (al ga (al gb (ah (lP a.1 b.1) (ag (eL.2 q.1.symm) (al ga (al gb (ah (lP a.2 b.2) (ag ?_ (au _)))))))));rw[show cg a.2 b.2=Y from oy.2 λ g=>q.2 (eL.1 g).symm];rfl
    .refine step _ q (Q ⟨c,b',?_,r,v,w,I⟩);by_cases e:c=j
     .subst e;rw[z]at v;cases v;exact absurd ⟨w,I⟩ q
     .omega
 have D:∀d i,X l=i+d->
   ((∃o a c b,i<=o/\l[o]?=Z a/\c<o/\l[c]?=Z b/\b.1=a.1/\b.2≠a.2)->Ev (λ m k=>(cr m k).1 i p.kind p.name p.sort p.kids l) ([],11))/\
   ((¬ ∃o a c b,i<=o/\l[o]?=Z a/\c<o/\l[c]?=Z b/\b.1=a.1/\b.2≠a.2)->Ev (λ m k=>(cr m k).1 i p.kind p.name p.sort p.kids l) ((bo p).filterMap (jN l),0)):=by
  intro d
  induction d with
  |zero=>
    intro i B;refine⟨λ⟨o,a,_,_,A,r,_⟩=>by have:=getElem?_lt r;omega,λ _=>aq ?_⟩;simp only[SG,D4,ay];refine ai (ba.2 (by omega)) (ah (a:=bo p) ?_ a3);rw[show T.mk p.kind p.name p.sort p.kids=p from by cases p;rfl];exact Ax p
  |succ d ih=>
    intro i B;let⟨a,u⟩:=C i (by omega);let⟨Q,N⟩:=ih (i+1) (by omega)
    have step:∀W,Ev (λ m k=>(cr m k).2.1 i ((0:Nat):Int) p.kind p.name p.sort p.kids l) W->Ev (λ m k=>(cr m k).1 i p.kind p.name p.sort p.kids l) W:=λ W S=>by
     apply aq;simp only[SG,D4];exact ag (aY.2 (by omega)) S
    by_cases q:∃c b,0<=c/\c<i/\l[c]?=Z b/\b.1=a.1/\b.2≠a.2
    .let⟨c,b,h0,A,r,v,w⟩:=q;refine⟨λ _=>step _ ?_,λ y=>absurd ⟨i,a,c,b,ak _,u,A,r,v,w⟩ y⟩;by_cases H:∃o a c b,i+1<=o/\l[o]?=Z a/\c<o/\l[c]?=Z b/\b.1=a.1/\b.2≠a.2
     .exact(f i a u _ (Q H) i 0 (by omega)).1 ⟨c,b,h0,A,r,v,w⟩
     .exact(f i a u _ (N H) i 0 (by omega)).1 ⟨c,b,h0,A,r,v,w⟩
    .refine⟨λ⟨o,a',c,b,A,r,v,w,I⟩=>step _ ((f i a u _ (Q ⟨o,a',c,b,?_,r,v,w,I⟩) i 0 (by omega)).2 q),λ y=>step _ ((f i a u _ (N λ⟨o,a',c,b,A,r⟩=>y ⟨o,a',c,b,by omega,r⟩) i 0 (by omega)).2 q)⟩;by_cases e:o=i
     .subst e;rw[u]at r;cases r;exact absurd ⟨c,b,aG _,v,w,I⟩ q
     .omega
 let⟨o1,o2⟩:=D (X l) 0 (by omega);by_cases q:qam l
 .rw[af ⟨z,q⟩];refine bd (L:=λ m k=>(cr m k).1 0 p.kind p.name p.sort p.kids l) (o2 λ⟨o,a,c,b,_,r,v,w,I,h6⟩=>h6 ?_);have:=vY.1 q c o (getElem?_lt w) (getElem?_lt r) v;grind
 .rw[ae λ h=>q h.2];refine bd (L:=λ m k=>(cr m k).1 0 p.kind p.name p.sort p.kids l) (o1 (yO λ y=>q (vY.2 λ j i hj B ax e=>yO λ h=>y ⟨i,l[i],j,l[j],aG _,aS B,ax,aS hj,e,h⟩)))
def qqz(n:aa aN):Ev (λ m _=>DQ m n) (qr n):=by
 apply aB;simp only[qeS,Kd];have a:qr n=O->Ev (λ _ _=>Z O) (qr n):=λ h=>am h.symm;refine av (λ h=>a (nU (cU.1 h) (by decide))) λ f=>?_;refine av (λ h=>a (nU (cU.1 h) (by decide))) λ e=>?_;refine av (λ h=>a (nU (cU.1 h) (by decide))) λ d=>?_;refine av (λ h=>a (nU (cU.1 h) (by decide))) λ c=>?_;refine av (λ h=>a (nU (cU.1 h) (by decide))) λ b=>?_;apply am;rw[Y7 (di.1 f) (di.1 e) (di.1 d) (di.1 c) (di.1 b)];rfl
def qov(n:aa aN):Ev (λ m _=>Ew m n) (pFr n):=by
 apply aB;simp only[qf4,Ks];have a:qr n=O->Ev (λ _ _=>Z Y) (pFr n):=λ h=>am (by unfold pFr;rw[h];rfl);refine av (λ h=>a (nU (cU.1 h) (by decide))) λ g=>?_;refine av (λ h=>a (nU (cU.1 h) (by decide))) λ f=>?_;refine av (λ h=>a (nU (cU.1 h) (by decide))) λ e=>?_;refine av (λ h=>a (nU (cU.1 h) (by decide))) λ d=>?_;refine av (λ h=>a (nU (cU.1 h) (by decide))) λ c=>?_;refine av (λ h=>a (nU (cU.1 h) (by decide))) λ b=>?_;refine ah (L1 n) (am ?_);unfold pFr pPl;rw[Y7 (di.1 g) (di.1 f) (di.1 e) (di.1 d) (di.1 c),show(n==mu)=Y from jq.2 (di.1 b),<-Ho];rfl
def qmK(t:T):size t<=1000000000->Ev (λ m _=>kQ m t) (mV pFr t):=by
 induction t using T.ind with
 |h t j=>
   intro r;have s:=fE t;apply aB;simp only[qdS,CA]
   have d:=aV (P:=λ i=>Ev (λ m k=>qJ m (kQ m) k t.kids (X t.kids) i) (((t.kids.drop i).map (mV pFr)).all id)) t.kids (by omega)
    (λ f=>by
     apply aq;simp only[Re,Cz];refine ai f (am ?_);rw[bR];rfl)
    (λ i x l p f o n q=>by
     apply aq;simp only[Re,Cz,ay];have g:=aK l;have u:=dW t x g;rw[p,aU,dy];refine ag f (al o (ah (j x g (by omega)) (av (λ b=>?_) λ b=>?_)))
     .rw[bnt]at b;rw[b];exact au _
     .rw[bnf]at b;rw[b,n];exact q)
   have a:Ev (λ m _=>qJ m (kQ m) m t.kids (X t.kids) 0) ((t.kids.map (mV pFr)).all id):=
    bd (L:=λ m k=>qJ m (kQ m) k t.kids (X t.kids) 0) ((d 0 (aG _)).res (by rw[bH]))
   rw[GC];refine av (λ c=>?_) λ c=>?_
   .rw[aD]at c;have e:(!(t.kind==3))=Y:=by rw[c];rfl
    rw[e,pi];refine ah (qov t.name) (av (λ h=>?_) λ h=>?_)
    .rw[bnt]at h;rw[h];exact au _
    .rw[bnf]at h;rw[h];exact a
   .rw[aC]at c;have e:(!(t.kind==3))=O:=by rw[eD,jq];exact c
    rw[e,vP];exact a
def qot(t:T)(a:size t<=1000000000):Ev (λ m _=>FM m t) (xZ t):=by
 apply aB;simp only[qiW,KS,ay];unfold xZ;refine ah (XP t a) (av (λ h=>?_) λ h=>?_)
 .rw[aD]at h;rw[bg h,cv];exact ah (qmK t a) (au _)
 .rw[aC]at h;rw[bv h,mE];exact au _
def qoM(t:T)(n:size t<=1000000000):Ev (λ m _=>Ge m t) (xZ t):=by
 apply aB;simp only[qjq,Eo,ay];unfold xZ;refine ah (qqO t n) (av (λ h=>?_) λ h=>?_)
 .rw[bnt,aC]at h;rw[bv h,mE];exact au _
 rw[bnf,aD]at h;rw[bg h,cv,<-ql1];apply ah (XO t n);have p:=GW t;generalize dD t=l at*
 have c:=aV (P:=λ i=>Ev (λ m k=>tG m k l i) ((l.drop i).all λ u => !(u.kind==3)||pFr u.name)) l (by omega)
  (λ f=>by
   apply aq;simp only[SP,EQ];refine ai f (am ?_);rw[bR];rfl)
  (λ i x r q f e o j=>by
   apply aq;simp only[SP,EQ];rw[q,dy];refine ag f (al e (av (λ b=>?_) λ b=>?_))
   .rw[aD]at b;have d:(!(x.kind==3))=Y:=by rw[b];rfl
    rw[d,pi];unfold pFr at j |-
    refine al e (ah (qqz x.name) (av (λ g=>?_) λ g=>?_))
    .rw[g];exact au _
    rw[g];refine al e (ah (YJ x.name) (av (λ a=>?_) λ a=>?_))
    .unfold pPl;rw[a];exact au _
    .rw[o];apply j.res;have:pPl x.name=O:=by unfold pPl;rw[a];rfl
     rw[this];rfl
   .rw[aC]at b;have d:(!(x.kind==3))=O:=by rw[eD,jq];exact b
    rw[d,vP,o,cv];exact j)
 apply bd (L:=λ m k=>tG m k l 0);exact(c 0 (aG _)).res (by rw[bH])
abbrev fL:=Int×(T×(T×(Int×aa T)))
abbrev eU:=T×aa fL
abbrev cO:=Int×(aa T×(aa T×aa eU))
def qpZ(l:aa T)(t:T):(l.any λ x=>cg x t)=J (t∈l):=by
 rw[iX,QF,cV];exact⟨λ⟨x,b,a⟩=>eL.1 a▸b,λ h=>⟨t,h,eL.2 rfl⟩⟩
def NN(l:aa T)(t:T)(a:szL l+size t<=1000000000:=by omega):Ev (λ m _=>ur m l t) (J (t∈l)):=(qrq l t a).res (qpZ l t)
def Nm(a b:T)(d:size a<=1000000000:=by omega)(c:size b<=1000000000:=by omega):Ev (λ m _=>wH m a b) (cg a b):=by
 apply aB;simp only[qh9,Kt,ay];exact ah (mM a d b c) (am (H7 a b))
def Iv(p:Prop)(h:¬ p):(0:Int)<=-1↔p:=⟨λ e=>absurd e (by decide),λ e=>absurd e h⟩
def AN(l:aa T)(t:T)(v:szL l+size t<=1000000000:=by omega):Ev (λ m _=>ug m l t) (J (t∈l)):=by
 have w:=kW l
 have f:=aV (P:=λ i=>∃c:Int,Ev (λ m k=>sB m k l (X l) i t.kind t.name t.sort t.kids) ((t,()),(c,()))/\(0<=c↔t∈l.drop i)) l (by omega)
  (λ d=>⟨-1,aq (by
   simp only[JP,yS,show T.mk t.kind t.name t.sort t.kids=t from ay t];exact ai d (au _)),Iv _ (by rw[bR];exact sq)⟩)
  (λ i x r o d n s ⟨c,u,g⟩=>by
   have q:=pO (aK r)
   have j:Ev (λ m _=>CT m x t) ((t,()),(cg x t,())):=by
    apply aB;simp only[qd8,J7,ay];exact ah (Nm x t) (au _)
   cases b:cg x t with
   |true=>
     refine⟨i,aq ?_,⟨λ _=>by rw[o,eL.1 b];exact aX ..,λ _=>by omega⟩⟩;simp only[JP,yS,ay,show T.mk t.kind t.name t.sort t.kids=t from ay t];exact ag d (al n (ah j (ag b (au _))))
   |false=>
     refine⟨c,aq ?_,?_⟩
     .simp only[JP,yS,ay,show T.mk t.kind t.name t.sort t.kids=t from ay t];refine ag d (al n (ah j (ai b ?_)));rw[s];exact u
     .rw[g,o,bi];refine⟨.inr,λ h=>h.elim (λ e=>?_) id⟩;rw[e,eL.2 rfl]at b;cases b)
 let⟨c,q,p⟩:=f 0 (aG _);rw[bH]at p;apply aB;simp only[qiZ,KY,ay];refine ah (a:=((t,()),(J (t∈l),()))) (aB ?_) (au _);simp only[qcA,JL,ay];refine ah (a:=((t,()),(c,()))) (aB ?_) (am ?_)
 .simp only[qcU,Ce];exact bd (L:=λ m k=>sB m k l (X l) 0 t.kind t.name t.sort t.kids) q
 .have:ile 0 c=J (t∈l):=by rw[iX,gK,p,cV]
  rw[this]
def usB(t:T):Bool:=xZ t&&(J (size t<=60) && !(bo t).any λ x=>J (x.sort=5))
def lV{t:T}(h:usB t=O):size t<=60:=by
 unfold usB at h;simp only[aJ,cH]at h;exact h.2.1
def qm6(l:aa T)(o:X l<2^62:=by omega):Ev (λ m _=>Cg m l) ((),((l.any λ x=>J (x.sort=5)),())):=by
 have e:=aV (P:=λ i=>∃c:Int,Ev (λ m k=>sD m k l (X l) i) ((),(c,()))/\(0<=c↔((l.drop i).any λ x=>J (x.sort=5))=O)) l o
  (λ d=>⟨-1,aq (by
   simp only[JR,yU];exact ai d (au _)),Iv _ (by rw[bR];exact lD)⟩)
  (λ i x s j d h p ⟨c,q,f⟩=>by
   have g:Ev (λ m _=>Ko m x) (ieq x.sort 5):=aB (au _);cases b:ieq x.sort 5 with
   |true=>
     refine⟨i,aq ?_,⟨λ _=>by rw[j,vX,bg (aD.1 b)];rfl,λ _=>by omega⟩⟩;simp only[JR,yU,ay];exact ag d (al h (ah g (ag b (au _))))
   |false=>
     refine⟨c,aq ?_,?_⟩
     .simp only[JR,yU,ay];refine ag d (al h (ah g (ai b ?_)));rw[p];exact q
     .rw[f,j,vX,bv (aC.1 b),pi])
 let⟨c,r,n⟩:=e 0 (aG _);rw[bH]at n;apply aB;simp only[qcD,JM];refine ah (a:=((),(c,()))) (aB ?_) (am ?_)
 .simp only[qcX,Ch];exact bd (L:=λ m k=>sD m k l (X l) 0) r
 .have:ile 0 c=(l.any λ x=>J (x.sort=5)):=by rw[iX,gK,n]
  rw[this]
def mP(t:T)(b:size t<=1000000000):Ev (λ m _=>tg m t) (usB t):=by
 apply aB;simp only[qf2,Kl,ay];unfold usB;refine ah (qot t b) (av (λ h=>?_) λ h=>am (by rw[h];rfl));rw[h,cv];refine ah (Nc t b) (av (λ a=>?_) λ a=>am ?_)
 .rw[gK]at a;rw[bg (by omega),cv];have c:=xk t;exact ah (AE t) (ah (qm6 _) (am (by cases((bo t).any λ x=>J (x.sort=5))<;>rfl)))
 .rw[li]at a;rw[bv (by omega)];rfl
def Zr(l:aa T)(r:X l<2^62)(q:∀t∈l,size t<=1000000000):Ev (λ m _=>yV m l) ((),(!l.all usB,())):=by
 have e:=aV (P:=λ i=>∃c:Int,Ev (λ m k=>sC m k l (X l) i) ((),(c,()))/\(0<=c↔(l.drop i).all usB=Y)) l r
  (λ d=>⟨-1,aq (by
   simp only[JS,yT];exact ai d (au _)),Iv _ (by rw[bR];exact λ h=>by cases h)⟩)
  (λ i x p n d j s ⟨c,u,f⟩=>by
   have g:Ev (λ m _=>CF m x) (ap (usB x)):=by
    apply aB;simp only[qdw,J1,ay];exact ah (mP x (q x (aK p))) (au _)
   cases b:usB x with
   |false=>
     refine⟨i,aq ?_,⟨λ _=>by rw[n,dy,b];rfl,λ _=>by omega⟩⟩;simp only[JS,yT,ay];exact ag d (al j (ah g (ag (by rw[b];rfl) (au _))))
   |true=>
     refine⟨c,aq ?_,?_⟩
     .simp only[JS,yT,ay];refine ag d (al j (ah g (ai (by rw[b];rfl) ?_)));rw[s];exact u
     .rw[f,n,dy,b,cv])
 let⟨c,v,o⟩:=e 0 (aG _);rw[bH]at o;apply aB;simp only[qcE,JN];refine ah (a:=((),(c,()))) (aB ?_) (am ?_)
 .simp only[qcY,Cf];exact bd (L:=λ m k=>sC m k l (X l) 0) v
 .have:ile 0 c = !l.all usB:=by rw[iX,gK,o,eD]
  rw[this]
def lq(l vs:aa T):aa T:=vs.foldl (λ l x=>if x∈l then l else l++[x]) l
def G4:∀(vs l:aa T) (x:T),x∈lq l vs↔x∈l\/x∈vs
 |[],l,x=>by simp[lq]
 |v::vs,l,x=>by
   show x∈lq (if v∈l then l else l++[v]) vs↔_;rw[G4 vs,bi];split
   .next h=>exact⟨λ g=>g.imp_right .inr,λ g=>g.elim .inl λ g=>g.elim (λ e=>.inl (e▸h)) .inr⟩
   .rw[aR,cQ,B2]
def Ns:∀(vs l:aa T),l.Nodup->(lq l vs).Nodup
 |[],l,h=>h
 |v::vs,l,h=>by
   apply Ns vs _;show(if v∈l then l else l++[v]).Nodup;split
   .exact h
   .next c=>rw[B3];exact⟨h,by simp,λ a f b d=>by rw[cQ.1 d];exact λ e=>c (e▸f)⟩
def G1:∀(vs l:aa T),X (lq l vs)<=X l+X vs
 |[],l=>ak _
 |v::vs,l=>by
   have:=G1 vs (if v∈l then l else l++[v]);show(lq (if v∈l then l else l++[v]) vs).length<=_;rw[bE];split at this
   .rw[af (by assumption)];omega
   .rw[ae (by assumption)];simp only[aM,im]at this;omega
def SmL(n:Nat)(l:aa T):Prop:=X l<=n/\∀t∈l,size t<=1000
def SmL.mono{n a:Nat}{l:aa T}(h:SmL n l)(b:n<=a):SmL a l:=⟨bL h.1 b,h.2⟩
def SmL.sz{n:Nat}{l:aa T}(h:SmL n l):szL l<=n*1000:=bL (Nt h.2) (bZ _ h.1)
def uR{t:T}(h:usB t=O):SmL 60 (bo t):=
 ⟨by have:=xk t;have:=lV h;omega,λ x a=>by have:=wU 1 t x ((mR t x).1 a);have:=lV h;omega⟩
def SmL.add{n:Nat}{l vs:aa T}(h:SmL n l)(g:SmL 60 vs):SmL (n+60) (lq l vs):=
 ⟨by have:=G1 vs l;have:=h.1;have:=g.1;omega,λ t a=>((G4 vs l t).1 a).elim (h.2 t) (g.2 t)⟩
def Yd(l:aa T)(t:T)(b:usB t=O)(q:SmL 100000 l):Ev (λ m _=>zh m l t) ((lq l (bo t),()),()):=by
 have f:=uR b;have y:=lV b
 have d:=aV (P:=λ i=>∀l:aa T,SmL (100000+i) l->Ev (λ m k=>sI m k (bo t) (X (bo t)) i l) ((lq l ((bo t).drop i),()),())) (bo t) (by have:=f.1;omega)
  (λ g l _=>aq (by
   simp only[Rh,CE];refine ai g (am ?_);rw[bR];rfl))
  (λ i x j w g v n o l c=>aq (by
   have u:=getElem?_lt j;have p:=f.1;have e:=f.2 x (aK j);have r:=c.sz;have s:=c.1;simp only[Rh,CE,ay];refine ag g (al v (ah (AN l x) ?_));rw[w];show Ev _ ((lq (if x∈l then l else l++[x]) _,()),());by_cases h:x∈l
   .rw[af h,n];exact ai (bnf.2 (bg h)) (o l ⟨by omega,c.2⟩)
   .rw[ae h,n];refine ag (bnt.2 (bv h)) (ag (bI) (al (a:=T.mk 0 [] 0 []) (by rw[db];simp) ?_));rw[pL,show(l++[T.mk 0 [] 0 []]).set (X l) x=l++[x] by simp]
    exact o _ ⟨by simp only[aM,im];omega,λ t b=>by
     obtain b|b:=aR.1 b
     .exact c.2 t b
     .rw[cQ.1 b];exact e⟩))
 apply aB;simp only[qdY,CC,ay];apply ah (AE t);exact(bd (L:=λ m k=>sI m k (bo t) (X (bo t)) 0 l) (d 0 (aG _) l q)).res (by rw[bH])
section
def cn(a:fL)(l:aa T):Int:=
 if a.1=1 then(if usB a.2.1=O/\usB a.2.2.1=O then(if a.2.1.kind=1/\a.2.1∈l then 0 else 13)else 10)
 else if(if a.1=2 then[a.2.1]else a.2.2.2.2).all usB=O then(if ∀t∈(if a.1=2 then[a.2.1]else a.2.2.2.2),∀x∈bo t,x∈l then 0 else 13)else 10
def bY(a:fL):aa T:=if a.1=1 then bo a.2.2.1 else[]
def qlj{a:fL}{l l':aa T}(h:∀x,x∈l↔x∈l'):cn a l=cn a l':=by
 unfold cn;simp only[h]
def dd:aa fL->aa T->Int
 |[],_=>0
 |a::r,l=>if cn a l=0 then dd r (l++bY a)else cn a l
def FF:∀{r:aa fL}{l l':aa T},(∀x,x∈l↔x∈l')->dd r l=dd r l'
 |[],_,_,_=>rfl
 |a::r,l,l',h=>by
   simp only[dd,qlj h];rw[FF (r:=r) (l:=l++bY a) (l':=l'++bY a) λ x=>by rw[aR,aR,h]]
def fV(f:Bool)(b:eU)(l:aa T):Int:=if f=O\/usB b.1=O then dd b.2 (l++(if f=O then[]else bo b.1))else 10
def lm(f:Bool)(b:eU):aa T:=(if f=O then[]else bo b.1)++(b.2.map bY).flatten
def qlO{f:Bool}{b:eU}{l l':aa T}(h:∀x,x∈l↔x∈l'):fV f b l=fV f b l':=by
 unfold fV;rw[FF (l:=l++(if f=O then[]else bo b.1)) (l':=l'++(if f=O then[]else bo b.1)) λ x=>by rw[aR,aR,h]]
def jh:Bool->aa eU->aa T->Int
 |_,[],_=>0
 |f,b::r,l=>if fV f b l=0 then jh Y r (l++lm f b)else fV f b l
def ll:Bool->aa eU->aa T
 |_,[]=>[]
 |f,b::r=>lm f b++ll Y r
def TI:∀{r:aa eU}{f:Bool}{l l':aa T},(∀x,x∈l↔x∈l')->jh f r l=jh f r l'
 |[],_,_,_,_=>rfl
 |b::r,f,l,l',h=>by
   simp only[jh,qlO h];rw[TI (r:=r) (l:=l++lm f b) (l':=l'++lm f b) λ x=>by rw[aR,aR,h]]
def mw(l:aa T):aa T:=l.foldl dE []
def AB(l:aa T)(x:T):x∈mw l↔x∈l:=by
 have:=(wZ l [] List.Pairwise.nil).2 x;unfold mw;rw[this];simp
def G7(l:aa T):Asc (mw l):=(wZ l [] List.Pairwise.nil).1
def oY(e:Int)(s:aa T):aa T×Int:=if e=0 then(s,0)else([],e)
def dX(m:cO)(n:Nat):aa T×Int:=
 oY (jh O (m.2.2.2.take n) (m.2.1++m.2.2.1)) (mw ((m.2.1++m.2.2.1)++ll O (m.2.2.2.take n)))
def SmA(a:fL):Prop:=size a.2.1<=1000000000/\size a.2.2.1<=1000000000/\X a.2.2.2.2<=1000000/\∀t∈a.2.2.2.2,size t<=1000000000
def SmB(b:eU):Prop:=size b.1<=1000000000/\X b.2<=20/\∀a∈b.2,SmA a
def Nw{a:fL}{l:aa T}(h:cn a l=0):SmL 60 (bY a):=by
 unfold bY;unfold cn at h;split
 .rename_i d;rw[af d]at h;split at h
  .next c=>exact uR c.2
  .cases h
 .exact⟨aG _,λ t b=>by cases b⟩
section
variable {m0:Nat}
def qrU(B:aa fL)(j:Nat)(ts:aa T)(i:Nat)(l vs:aa T)(u:SmL 50000 l)(o:SmL 60 vs){r:(aa T×Unit)×(Int×Unit)}(e:(¬ ∀x∈vs,x∈l)->r=((l,()),(13,())))
  (f:(∀x∈vs,x∈l)->Ev (λ m k=>(cC m k).2.1 B (X B) j ts (X ts) ((i+1:Nat):Int) l) r) (v:iw .i64 (aw (i:Int) 1)=((i+1:Nat):Int)):
  Ev (λ m k=>(cC m k).2.2 B (X B) j ts (X ts) i vs (X vs) 0 l) r:=by
 have t:=u.sz
 have d:=aV (P:=λ q=>(∀x∈vs.take q,x∈l)->Ev (λ m k=>(cC m k).2.2 B (X B) j ts (X ts) i vs (X vs) q l) r) vs (by have:=o.1;omega)
  (λ n h=>aq (by
   simp only[Rd,Cx];rw[dg]at h;apply ai n;rw[v];exact f h))
  (λ q x b A n w s z h=>aq (by
   have p:=o.2 x (aK b);simp only[Rd,Cx,ay];refine ag n (al w (ah (AN l x) ?_));by_cases c:x∈l
   .apply ai (bnf.2 (bg c));rw[s];refine z λ y a=>?_;rw[dN,b]at a;obtain a|a:=aR.1 a
    .exact h y a
    .simp at a;rw[a];exact c
   .exact ag (bnt.2 (bv c)) (am (e λ g=>c (g x (aK b))).symm)))
 exact d 0 (aG _) λ x b=>by simp at b
def TU(B:aa fL)(j:Nat)(ts:aa T)(l:aa T)(v:SmL 50000 l)(s:X ts<=1000000)(a:ts.all usB=O){r:(aa T×Unit)×(Int×Unit)}(f:(¬ ∀t∈ts,∀x∈bo t,x∈l)->r=((l,()),(13,())))
  (n:(∀t∈ts,∀x∈bo t,x∈l)->Ev (λ m k=>(cC m k).1 B (X B) ((j+1:Nat):Int) l) r) (w:iw .i64 (aw (j:Int) 1)=((j+1:Nat):Int)):
  Ev (λ m k=>(cC m k).2.1 B (X B) j ts (X ts) 0 l) r:=by
 rw[bz]at a
 have d:=aV (P:=λ i=>(∀t∈ts.take i,∀x∈bo t,x∈l)->Ev (λ m k=>(cC m k).2.1 B (X B) j ts (X ts) i l) r) ts (by omega)
  (λ o h=>aq (by
   simp only[Rg,Cw];rw[dg]at h;apply ai o;rw[w];exact n h))
  (λ i t e E o z y A h=>aq (by
   have p:=a t (aK e);have D:=lV p;simp only[Rg,Cw,ay];refine ag o (al z (ah (AE t) ?_));refine qrU B j ts i l (bo t) v (uR p) (λ g=>f λ C=>g (C t (aK e))) (λ g=>A λ u b=>?_) y;rw[dN,e]at b;obtain c|c:=aR.1 b
   .exact h u c
   .simp at c;rw[c];exact g))
 exact d 0 (aG _) λ x q=>by simp at q
def qre(B:aa fL)(hB:X B<=20)(hA:∀a∈B,SmA a):∀i,i<=X B->∀l:aa T,SmL (25000+60*i) l->∃l',Ev (λ m k=>(cC m k).1 B (X B) i l) ((l',()),(dd (B.drop i) l,()))/\
  (dd (B.drop i) l=0->(∀x,x∈l'↔x∈l\/x∈((B.drop i).map bY).flatten)/\(l.Nodup->l'.Nodup)/\SmL (X l+60*(X B-i)) l'):=by
 refine aV (P:=λ i=>∀l:aa T,SmL (25000+60*i) l->∃l',Ev (λ m k=>(cC m k).1 B (X B) i l) ((l',()),(dd (B.drop i) l,()))/\
  (dd (B.drop i) l=0->(∀x,x∈l'↔x∈l\/x∈((B.drop i).map bY).flatten)/\(l.Nodup->l'.Nodup)/\SmL (X l+60*(X B-i)) l')) B (by omega) (λ n l w=>?_) (λ i a Q hd n s L hP l w=>?_)
 .refine⟨l,aq ?_,λ _=>?_⟩
  .simp only[qH,oz];refine ai n (am ?_);rw[bR];rfl
  .rw[bR];exact⟨λ x=>by simp,id,by omega,w.2⟩
 .have ax:=getElem?_lt Q;let⟨v,E,z3,z4⟩:=hA a (aK Q);have ar:=w.1;have q:SmL 50000 l:=⟨by omega,w.2⟩
  have an:=q.sz;rw[hd,aU,ou];simp only[dd]
  have f:∀e,cn a l=e->e≠0->Ev (λ m k=>(cC m k).1 B (X B) i l) ((l,()),(e,()))->∃l',Ev (λ m k=>(cC m k).1 B (X B) i l) ((l',()),(if cn a l=0 then dd (B.drop (i+1)) (l++bY a)else cn a l,()))/\((if cn a l=0 then dd (B.drop (i+1)) (l++bY a)else cn a l)=0->(∀x,x∈l'↔x∈l\/x∈bY a++((B.drop (i+1)).map bY).flatten)/\(l.Nodup->l'.Nodup)/\SmL (X l+60*(X B-i)) l'):=λ e D g u=>by
   rw[D,ae g];exact⟨l,u,λ h=>absurd h g⟩
  have R:∀y:aa T,cn a l=0->y=lq l (bY a)->Ev (λ m k=>(cC m k).1 B (X B) i l)=(λ r=>Ev (λ m k=>(cC m k).1 B (X B) i l) r)->(∀r,Ev (λ m k=>(cC m k).1 B (X B) ((i+1:Nat):Int) y) r->Ev (λ m k=>(cC m k).1 B (X B) i l) r)->∃l',Ev (λ m k=>(cC m k).1 B (X B) i l) ((l',()),(if cn a l=0 then dd (B.drop (i+1)) (l++bY a)else cn a l,()))/\((if cn a l=0 then dd (B.drop (i+1)) (l++bY a)else cn a l)=0->(∀x,x∈l'↔x∈l\/x∈bY a++((B.drop (i+1)).map bY).flatten)/\(l.Nodup->l'.Nodup)/\SmL (X l+60*(X B-i)) l'):=λ y D g _ u=>by
   rw[af D];have p:=SmL.add w (Nw D);rw[<-g]at p;have o:∀x,x∈y↔x∈l++bY a:=λ x=>by rw[g,G4,aR]
   let⟨l',W,S⟩:=hP y ⟨by have:=p.1;omega,p.2⟩;rw[FF o]at W S;refine⟨l',u _ W,λ h=>?_⟩;let⟨k1,k2,k3,k4⟩:=S h;have N:=G1 (bY a) l;have:=(Nw D).1;refine⟨λ x=>?_,λ hn=>k2 (by rw[g];exact Ns _ _ hn),?_,k4⟩
   .rw[k1,o,aR,aR,B2]
   .rw[g]at k3;omega
  by_cases j:a.1=1
  .have b:cn a l=if usB a.2.1=O/\usB a.2.2.1=O then(if a.2.1.kind=1/\a.2.1∈l then 0 else 13)else 10:=by unfold cn;rw[af j]
   have M:bY a=bo a.2.2.1:=by unfold bY;rw[af j]
   cases u1:usB a.2.1 with
   |false=>
     refine f 10 (by rw[b,ae (λ h=>by rw[u1]at h;exact absurd h.1 (by decide))]) (by decide) (aq ?_);simp only[qH,oz,ay];exact ag n (al s (ag (aD.2 j) (ah (mP _ v) (ag (by rw[u1];rfl) (au _)))))
   |true=>
   cases u2:usB a.2.2.1 with
   |false=>
     refine f 10 (by rw[b,ae (λ h=>by rw[u2]at h;exact absurd h.2 (by decide))]) (by decide) (aq ?_);simp only[qH,oz,ay];exact ag n (al s (ag (aD.2 j) (ah (mP _ v) (ai (by rw[u1];rfl) (ah (mP _ E) (ag (by rw[u2];rfl) (au _)))))))
   |true=>
   rw[af ⟨u1,u2⟩]at b;have ad:=lV u1;by_cases C:a.2.1.kind=1
   case neg=>
    refine f 13 (by rw[b,ae (λ h=>C h.1)]) (by decide) (aq ?_);simp only[qH,oz,ay];exact ag n (al s (ag (aD.2 j) (ah (mP _ v) (ai (by rw[u1];rfl) (ah (mP _ E) (ai (by rw[u2];rfl) (ag (bnt.2 (aC.2 C)) (au _))))))))
   by_cases G:a.2.1∈l
   case neg=>
    refine f 13 (by rw[b,ae (λ h=>G h.2)]) (by decide) (aq ?_);simp only[qH,oz,ay];exact ag n (al s (ag (aD.2 j) (ah (mP _ v) (ai (by rw[u1];rfl) (ah (mP _ E) (ai (by rw[u2];rfl) (ai (bnf.2 (aD.2 C)) (ah (AN l _) (ag (bnt.2 (bv G)) (au _))))))))))
   refine R (lq l (bo a.2.2.1)) (by rw[b,af ⟨C,G⟩]) (by rw[M]) rfl λ r K=>aq ?_;simp only[qH,oz,ay];refine ag n (al s (ag (aD.2 j) (ah (mP _ v) (ai (by rw[u1];rfl) (ah (mP _ E) (ai (by rw[u2];rfl) (ai (bnf.2 (aD.2 C)) (ah (AN l _) (ai (bnf.2 (bg G)) (ah (Yd l _ u2 ⟨by omega,w.2⟩) ?_))))))))));rw[L];exact K
  .have M:bY a=[]:=by unfold bY;rw[ae j]
   have z:∀ts:aa T,(if a.1=2 then[a.2.1]else a.2.2.2.2)=ts->X ts<=1000000->(∀r,(ts.all usB=Y->r=((l,()),(10,())))->(ts.all usB=O->Ev (λ m k=>(cC m k).2.1 B (X B) i ts (X ts) 0 l) r)->Ev (λ m k=>(cC m k).1 B (X B) i l) r)->∃l',Ev (λ m k=>(cC m k).1 B (X B) i l) ((l',()),(if cn a l=0 then dd (B.drop (i+1)) (l++bY a)else cn a l,()))/\((if cn a l=0 then dd (B.drop (i+1)) (l++bY a)else cn a l)=0->(∀x,x∈l'↔x∈l\/x∈bY a++((B.drop (i+1)).map bY).flatten)/\(l.Nodup->l'.Nodup)/\SmL (X l+60*(X B-i)) l'):=λ ts I A c=>by
    have b:cn a l=if ts.all usB=O then(if ∀t∈ts,∀x∈bo t,x∈l then 0 else 13)else 10:=by unfold cn;rw[ae j,I]
    cases d:ts.all usB with
    |false=>
      refine f 10 (by rw[b,d];rfl) (by decide) (c _ (λ _=>rfl) λ h=>?_);rw[d]at h;cases h
    |true=>
      rw[af d]at b;by_cases F:∀t∈ts,∀x∈bo t,x∈l
      .refine R l (by rw[b,af F]) (by rw[M];rfl) rfl λ r K=>c r (λ h=>by rw[d]at h;cases h) λ _=>?_;exact TU B i ts l q A d (λ h=>absurd F h) (λ _=>K) L
      .refine f 13 (by rw[b,ae F]) (by decide) (c _ (λ h=>by rw[d]at h;cases h) λ _=>?_);exact TU B i ts l q A d (λ _=>rfl) (λ h=>absurd h F) L
   by_cases H:a.1=2
   .refine z [a.2.1] (by rw[af H]) (by simp) λ r g u=>aq ?_;simp only[qH,oz,ay];refine ag n (al s (ai (aC.2 j) (ag (aD.2 H) (ah (Zr [a.2.1] (by simp) (λ t ht=>by rw[cQ.1 ht];exact v)) ?_))));cases d:[a.2.1].all usB with
    |false=>exact ag rfl (am (g d).symm)
    |true=>exact ai rfl (u d)
   .refine z a.2.2.2.2 (by rw[ae H]) z3 λ r g u=>aq ?_;simp only[qH,oz,ay];refine ag n (al s (ai (aC.2 j) (ai (aC.2 H) (ah (Zr a.2.2.2.2 (by omega) z4) ?_))));cases d:a.2.2.2.2.all usB with
    |false=>exact ag rfl (am (g d).symm)
    |true=>exact ai rfl (u d)
end
end
def qrs(l:aa T)(f:Bool)(b:eU)(v:SmB b)(i:SmL 20000 l):∃l',Ev (λ m _=>CN m l b f) ((l',()),(fV f b l,()))/\
  (fV f b l=0->(∀x,x∈l'↔x∈l\/x∈lm f b)/\(l.Nodup->l'.Nodup)/\SmL (X l+1300) l'):=by
 let⟨q,A,z⟩:=v
 have p:∀c:aa T,SmL (X l+60) c->(∀x,x∈c↔x∈l++(if f=O then[]else bo b.1))->(l.Nodup->c.Nodup)->(f=O\/usB b.1=O)->∃l',Ev (λ m k=>(cC m k).1 b.2 (X b.2) 0 c) ((l',()),(fV f b l,()))/\(fV f b l=0->(∀x,x∈l'↔x∈l\/x∈lm f b)/\(l.Nodup->l'.Nodup)/\SmL (X l+1300) l'):=λ c n o y w=>by
  let⟨l',g,d⟩:=qre b.2 A z 0 (aG _) c ⟨by have:=n.1;have:=i.1;omega,n.2⟩;rw[bH]at g d
  have e:fV f b l=dd b.2 c:=by
   unfold fV;rw[af w];exact FF λ x=>(o x).symm
  rw[e];refine⟨l',g,λ h=>?_⟩;let⟨t,s,B,r⟩:=d h;refine⟨λ x=>?_,λ u=>s (y u),by have:=n.1;omega,r⟩;unfold lm;rw[t,o,aR,aR,B2]
 cases f with
 |true=>
   let⟨l',g,d⟩:=p l ⟨by omega,i.2⟩ (λ x=>by rw[af rfl,bK]) id (.inl rfl);refine⟨l',aB ?_,d⟩;simp only[J8,wm,ay];exact ai rfl (bd (L:=λ m k=>(cC m k).1 b.2 (X b.2) 0 l) g)
 |false=>
   cases a:usB b.1 with
   |false=>
     refine⟨l,aB ?_,λ h=>?_⟩
     .simp only[J8,wm,ay];refine ag rfl (ah (mP b.1 q) (ag (by rw[a];rfl) (am ?_)));unfold fV;rw[ae (by rw[a];simp)]
     .unfold fV at h;rw[ae (by rw[a];simp)]at h;cases h
   |true=>
     have j:=i.add (uR a);let⟨l',g,d⟩:=p (lq l (bo b.1)) ⟨by have:=G1 (bo b.1) l;have:=(uR a).1;omega,j.2⟩ (λ x=>by rw[G4,ae (by decide),aR]) (Ns _ _) (.inr a);refine⟨l',aB ?_,d⟩;simp only[J8,wm,ay];refine ag rfl (ah (mP b.1 q) (ai (by rw[a];rfl) (ah (Yd l b.1 a ⟨by have:=i.1;omega,i.2⟩) ?_)));exact bd (L:=λ m k=>(cC m k).1 b.2 (X b.2) 0 (lq l (bo b.1))) g
def qrN{l:aa T}(h:IN l)(c:l.Nodup):Asc l:=by
 refine List.Pairwise.imp₂ (R:=λ a b=>aO b a≠-1) (S:=λ a b=>a≠b) (λ a b e d=>?_) h c;obtain h|h|h:=GX a b
 .exact h
 .exact absurd h d
 .exact absurd h e
def qqj{l l':aa T}(h:l'.Perm l)(c:IN l')(b:l.Nodup){s:aa T}(a:∀x,x∈s↔x∈l):l'=mw s:=
 AO _ _ (qrN c (h.nodup_iff.2 b)) (G7 s) λ x=>by rw[AB,a,h.mem_iff]
def Gr{α:Type}(l:aa α)(n:Nat):gq l 0 (n:Int)=l.take n:=by
 unfold gq;simp
def WU(a:cO)(u:SmL 6 a.2.1)(w:SmL 6 a.2.2.1)(c:(a.2.1++a.2.2.1).Nodup)(n:Nat)(R:n<=X a.2.2.2)(v:X a.2.2.2<=12)(H:∀b∈a.2.2.2,SmB b):Ev (λ m _=>tp m a n) (dX a n):=by
 have W:=u.1;have S:=w.1;apply aB;simp only[qgw,Do];refine ah (Gk a.2.1 a.2.2.1) (ag (by unfold inb;rw[cV];omega) (ag (by unfold inb;rw[cV];omega) ?_));simp only[Gr];obtain⟨B,d⟩:∃B,B=a.2.2.2.take n:=⟨_,rfl⟩
 have K:X B<=12:=by rw[d,bj];omega
 have q:∀b∈B,SmB b:=λ b h=>H b (by rw[d]at h;exact fY h);unfold dX;rw[<-d]
 have j:=aV (P:=λ i=>∀l:aa T,SmL (12+1300*i) l->l.Nodup->Ev (λ m k=>sZ m k B (X B) i l) (oY (jh (J (i=0)) (B.drop i) l) (mw (l++ll (J (i=0)) (B.drop i))))) B (by omega)
  (λ p l g c=>aq (by
   simp only[R3,Dk];have:=g.1;let⟨l',e1,y,Q⟩:=W8 l (by omega) λ t o=>by have:=g.2 t o;omega
   refine ai p (ah e1 (ag (by rw[y.length_eq];exact JC _) (am ?_)));rw[bR,jh,ll,bK,qqj y Q c λ x=>Iff.rfl];rfl))
  (λ i b s G p F E I l g c=>aq (by
   have:=g.1;have D:=getElem?_lt s
   have C:ieq (i:Int) 0=J (i=0):=by
    by_cases h:i=0
    .rw[h];rfl
    .rw[bv h,aC.2 (by omega)]
   simp only[R3,Dk,ay];rw[G,C,jh,ll];let⟨l',N,M⟩:=qrs l (J (i=0)) b (q b (aK s)) ⟨by omega,g.2⟩;refine ag p (al F (ah N ?_));by_cases e:fV (J (i=0)) b l=0
   .let⟨r,A,z⟩:=M e;rw[af e];dsimp only;rw[E];refine ai (by rw[e];rfl) ?_;have f:∀x,x∈l'↔x∈l++lm (J (i=0)) b:=λ x=>by rw[r,aR]
    apply (I l' (z.mono (by omega)) (A c)).res;rw[bv (Nat.succ_ne_zero i),TI f];congr 1;refine AO _ _ (G7 _) (G7 _) λ x=>?_;rw[AB,AB,aR,aR,aR,r,B2]
   .rw[ae e];dsimp only;exact ag (by rw[aC.2 e];rfl) (am (by unfold oY;rw[ae e]))))
 exact(bd (L:=λ m k=>sZ m k B (X B) 0 (a.2.1++a.2.2.1)) (j 0 (aG _) _ ⟨by rw[aM];omega,λ t o=>(aR.1 o).elim (u.2 t) (w.2 t)⟩ c)).res (by rw[bH];rfl)
def Gu(t:T)(d:size t<=1000000000):Ev (λ m _=>ul m t) (usB t):=by
 apply aB;simp only[qjx,ER,ay];unfold usB;refine ah (qoM t d) (av (λ h=>am (by rw[bnt.1 h];rfl)) λ h=>?_);rw[bnf.1 h,cv];refine ah (Hs t d) (av (λ c=>?_) λ c=>?_)
 .rw[aY]at c;exact am (by rw[bv (by omega)];rfl)
 .rw[ba]at c;rw[bg (by omega),cv];have n:=xk t;apply ah (Ax t)
  have a:=aV (P:=λ i=>Ev (λ m k=>tP m k (bo t) i) (!((bo t).drop i).any λ x=>J (x.sort=5))) (bo t) (by omega)
   (λ b=>aq (by
    simp only[S6,EG];refine ai b (am ?_);rw[bR];rfl))
   (λ i x l g b f e j=>aq (by
    simp only[S6,EG];rw[g,vX];refine ag b (al f (av (λ h=>?_) λ h=>?_))
    .exact am (by rw[bg (aD.1 h)];rfl)
    .rw[bv (aC.1 h),pi,e];exact j))
  exact(bd (L:=λ m k=>tP m k (bo t) 0) (a 0 (aG _))).res (by rw[bH])
def qlT(t:T)(l:aa T)(f:usB t=O)(o:SmL 50000 l):Ev (λ m _=>Fj m t l) (J (∀x∈bo t,x∈l)):=by
 have s:=lV f;have e:=uR f;have n:=o.sz;apply aB;simp only[qh4,DC,ay];apply ah (Ax t)
 have b:=aV (P:=λ i=>Ev (λ m k=>tl m k l (bo t) i) (J (∀x∈(bo t).drop i,x∈l))) (bo t) (by have:=e.1;omega)
  (λ d=>aq (by
   simp only[Sf,DV];refine ai d (am ?_);rw[bR];exact(bg λ x c=>by cases c).symm))
  (λ i x c g d q p r=>aq (by
   have j:=e.2 x (aK c);simp only[Sf,DV,ay];refine ag d (al q (ah (NN l x) ?_));by_cases a:x∈l
   .apply ai (bnf.2 (bg a));rw[p];apply r.res;rw[g];simp[a]
   .refine ag (bnt.2 (bv a)) (am ?_);rw[g];exact(bv λ h=>a (h x (aX ..))).symm))
 exact(bd (L:=λ m k=>tl m k l (bo t) 0) (b 0 (aG _))).res (by rw[bH])
def qoL{l v:aa T}(i:X l<=1000000)(j:X v<=1000000){F:Nat->Nat->ab (aa T)}(h:Ev F v):Ev (λ m k=>cond (bD (X ([]:TL)+X l) 56) (jE l (ac (F m k) λ a=>cond (bD (X ([]:TL)+X a) 56) (jE a (Z ((),([],(0:Int),()))) λ g f=>Z ((),([]++(g::f),0,()))) U) λ d c=>ac (F m k) λ b=>cond (bD (X ([]++(d::c))+X b) 56) (Z ((),(([]++(d::c))++b,0,()))) U) U) ((),(l++v,((0:Int),()))):=by
 refine ag (bI (by simp;omega)) (wa (λ e=>?_) λ x t e=>?_)
 .subst e;refine ah h (ag (bI (by simp;omega)) (wa (λ e=>?_) λ x t e=>?_))
  .subst e;exact au _
  .subst e;exact au _
 .subst e;exact ah h (ag (bI (by simp at i |-;omega)) (au _))
def qqy(a:fL)(l:aa T)(ha:SmA a)(z:SmL 50000 l):Ev (λ m _=>Gq m a l) ((),(if cn a l=0 then l++bY a else[],(cn a l,()))):=by
 let⟨H,M,K,I⟩:=ha;have an:=z.sz;have ar:=z.1
 have c:∀{F:Nat->Nat->ab (Unit×(aa T×(Int×Unit)))} (e:Int),cn a l=e->e≠0->Ev F ((),([],(e,())))->Ev F ((),(if cn a l=0 then l++bY a else[],(cn a l,()))):=λ e E h1 h2=>by
  rw[E,ae h1];exact h2
 apply aB;simp only[qk0,Fb,ay];by_cases j:a.1=1
 .have b:cn a l=if usB a.2.1=O/\usB a.2.2.1=O then(if a.2.1.kind=1/\a.2.1∈l then 0 else 13)else 10:=by unfold cn;rw[af j]
  have D:bY a=bo a.2.2.1:=by unfold bY;rw[af j]
  refine ai (aC.2 (by omega)) (ag (aD.2 j) (ah (Gu _ H) ?_));cases u1:usB a.2.1 with
  |false=>exact c 10 (by rw[b,ae (λ h=>by rw[u1]at h;exact absurd h.1 (by decide))]) (by decide) (ag rfl (au _))
  |true=>
  refine ai rfl (ah (Gu _ M) ?_);cases u2:usB a.2.2.1 with
  |false=>exact c 10 (by rw[b,ae (λ h=>by rw[u2]at h;exact absurd h.2 (by decide))]) (by decide) (ag rfl (au _))
  |true=>
  rw[af ⟨u1,u2⟩]at b;have S:=lV u1;have R:=lV u2;have hv:=xk a.2.2.1;apply ai rfl;by_cases r:a.2.1.kind=1
  case neg=>exact c 13 (by rw[b,ae (λ h=>r h.1)]) (by decide) (ag (bnt.2 (aC.2 r)) (au _))
  refine ai (bnf.2 (aD.2 r)) (ah (NN l _) ?_);by_cases f:a.2.1∈l
  case neg=>exact c 13 (by rw[b,ae (λ h=>f h.2)]) (by decide) (ag (bnt.2 (bv f)) (au _))
  apply ai (bnf.2 (bg f));have E:cn a l=0:=by rw[b,af ⟨r,f⟩]
  rw[E,af rfl,D];exact qoL (by omega) (by omega) (Ax _)
 .have D:bY a=[]:=by unfold bY;rw[ae j]
  have n:∀ts:aa T,(if a.1=2 then[a.2.1]else a.2.2.2.2)=ts->X ts<=1000000->(∀t∈ts,size t<=1000000000)->Ev (λ m k=>(iL m k).1 ts 0 l) ((),(if cn a l=0 then l++bY a else[],(cn a l,()))):=λ ts y ad w=>by
   have b:cn a l=if ts.all usB=O then(if ∀t∈ts,∀x∈bo t,x∈l then 0 else 13)else 10:=by unfold cn;rw[ae j,y]
   have N:ts.all usB=O->Ev (λ m k=>(iL m k).2 ts 0 l) ((),(if cn a l=0 then l++bY a else[],(cn a l,()))):=λ o=>by
    rw[af o]at b;have v:=bz.1 o
    have k:=aV (P:=λ i=>(∀t∈ts.take i,∀x∈bo t,x∈l)->Ev (λ m k=>(iL m k).2 ts i l) ((),(if cn a l=0 then l++bY a else[],(cn a l,())))) ts (by omega)
     (λ g h=>aq (by
      simp only[Tt,E6];rw[dg]at h;refine ai g (am ?_);rw[b,af h,af rfl,D,bK]))
     (λ i t d hd g B A C h=>aq (by
      simp only[Tt,E6,ay];refine ag g (al B (ah (qlT t l (v t (aK d)) z) ?_));by_cases q:∀x∈bo t,x∈l
      .apply ai (bnf.2 (bg q));rw[A];refine C λ u f=>?_;rw[dN,d]at f;obtain p|p:=aR.1 f
       .exact h u p
       .simp at p;rw[p];exact q
      .exact c 13 (by rw[b,ae λ G=>q (G t (aK d))]) (by decide) (ag (bnt.2 (bv q)) (au _))))
    exact k 0 (aG _) λ x W=>by simp at W
   have Q:=aV (P:=λ i=>(ts.take i).all usB=O->Ev (λ m k=>(iL m k).1 ts i l) ((),(if cn a l=0 then l++bY a else[],(cn a l,())))) ts (by omega)
    (λ g h=>aq (by
     simp only[Tj,Fx];rw[dg]at h;exact ai g (N h)))
    (λ i t d hd g B A C h=>aq (by
     simp only[Tj,Fx,ay];refine ag g (al B (ah (Gu t (w t (aK d))) ?_));cases o:usB t with
     |true=>
       apply ai rfl;rw[A];apply C;rw[dN,d,qci,h];simp[o]
     |false=>
       refine c 10 ?_ (by decide) (ag rfl (au _));rw[b,ae λ G=>?_];have:=bz.1 G t (aK d);rw[o]at this;cases this))
   exact Q 0 (aG _) rfl
  by_cases s:a.1=2
  .refine ag (aD.2 s) (ai (aC.2 j) ?_);exact bd (L:=λ m k=>(iL m k).1 [a.2.1] 0 l) (n [a.2.1] (by rw[af s]) (by simp) λ t d=>by rw[cQ.1 d];exact H)
  .refine ai (aC.2 s) (ai (aC.2 j) ?_);exact bd (L:=λ m k=>(iL m k).1 a.2.2.2.2 0 l) (n a.2.2.2.2 (by rw[ae s]) K I)
def qnQ(w:cO)(Q:SmL 6 w.2.1)(S:SmL 6 w.2.2.1)(n:Nat)(hn:n<=X w.2.2.2)(y:X w.2.2.2<=12)(W:∀b∈w.2.2.2,SmB b):Ev (λ m _=>FD m w n) (dX w n):=by
 let⟨v,P,o,B⟩:=w;have Q:SmL 6 P:=Q;have S:SmL 6 o:=S;have hn:n<=X B:=hn;have y:X B<=12:=y;have W:∀b∈B,SmB b:=W;have h1:=Q.1;have h2:=S.1;unfold dX
 have M:∀(i:Nat) (b:eU),B[i]?=Z b->∀{r:aa T×Int},(∀j,j<=X b.2->∀l,SmL (20000+60*j) l->(dd (b.2.drop j) l=0->∀l',l'=l++((b.2.drop j).map bY).flatten->SmL (X l+60*(X b.2-j)) l'->Ev (λ m k=>(gQ m k).1 n ((i+1:Nat):Int) v P o B l') r)->(dd (b.2.drop j) l≠0->r=([],dd (b.2.drop j) l))->Ev (λ m k=>(gQ m k).2 n i j v P o B l) r):=λ i b R r=>by
  let⟨b1,b2,b3⟩:=W b (aK R);have az:=getElem?_lt R;have f:ao B (i:Int)=Z b:=by rw[db];exact R
  have ax:iw .i64 (aw (i:Int) 1)=((i+1:Nat):Int):=by rw[show aw (i:Int) 1=((i+1:Nat):Int)from by unfold aw;omega,dA]
  refine aV (P:=λ j=>∀l,SmL (20000+60*j) l->(dd (b.2.drop j) l=0->∀l',l'=l++((b.2.drop j).map bY).flatten->SmL (X l+60*(X b.2-j)) l'->Ev (λ m k=>(gQ m k).1 n ((i+1:Nat):Int) v P o B l') r)->(dd (b.2.drop j) l≠0->r=([],dd (b.2.drop j) l))->Ev (λ m k=>(gQ m k).2 n i j v P o B l) r) b.2 (by omega) (λ s l p c _=>aq ?_) (λ j a ha hd s hg hj hP l p c d=>aq ?_)
  .simp only[SB,DZ];rw[bR]at c;refine al f (ai s ?_);rw[ax];exact c rfl l (by simp) ⟨kH _ _,p.2⟩
  .have a0:=getElem?_lt ha;have ar:=p.1;simp only[SB,DZ,ay];refine al f (ag s (al f (al hg (ah (qqy a l (b3 a (aK ha)) (p.mono (by omega))) ?_))));rw[hd]at c d;simp only[dd]at c d;by_cases D:cn a l=0
   .rw[af D];simp only[af D]at c d;apply ai (bnf.2 (aD.2 D));rw[hj];have G:=Nw D;have an:SmL (X l+60) (l++bY a):=⟨by rw[aM];have:=G.1;omega,λ t I=>(aR.1 I).elim (p.2 t) (G.2 t)⟩
    refine hP _ (an.mono (by omega)) (λ g l' q hs=>c g l' (by rw[q,aU,ou,bA]) (hs.mono (by rw[aM];have:=G.1;omega))) d
   .simp only[ae D]at d;rw[d D];exact ag (bnt.2 (aC.2 D)) (au _)
 obtain⟨z,C⟩:∃z,z=B.take n:=⟨_,rfl⟩
 have u:X z=n:=by rw[C,bj];omega
 have ad:=aV (P:=λ i=>∀l:aa T,SmL (12+1300*i) l->Ev (λ m k=>(gQ m k).1 n i v P o B l) (oY (jh (J (i=0)) (z.drop i) l) (mw (l++ll (J (i=0)) (z.drop i))))) z (by omega)
  (λ s l p=>aq (by
   simp only[Sn,DY];have h3:=p.sz;rw[u]at s;rw[bR,jh,ll,bK,u];refine ai s (ah (Y4 l ?_) (au _));have:(12+1300*n)*1000<=(12+1300*12)*1000:=bZ _ (by omega);rw[u]at h3;omega))
  (λ i b H hd s hg R hP l p=>aq (by
   have ar:=p.1;have az:=getElem?_lt H
   have A:B[i]?=Z b:=by
    rw[C,fM]at H;split at H
    .exact H
    .cases H
   let⟨b1,b2,b3⟩:=W b (aK A);have f:ao B (i:Int)=Z b:=by rw[db];exact A
   simp only[Sn,DY,ay];rw[u]at s;rw[hd,jh,ll];apply ag s
   have go:∀F:aa T,SmL (X l+60) F->F=l++(if J (i=0)=O then[]else bo b.1)->(J (i=0)=O\/usB b.1=O)->Ev (λ m k=>(gQ m k).2 n i 0 v P o B F) (oY (if fV (J (i=0)) b l=0 then jh Y (z.drop (i+1)) (l++lm (J (i=0)) b)else fV (J (i=0)) b l) (mw (l++(lm (J (i=0)) b++ll Y (z.drop (i+1)))))):=λ F g1 g2 g3=>by
    have hE:fV (J (i=0)) b l=dd b.2 F:=by unfold fV;rw[af g3,<-g2]
    refine M i b A 0 (aG _) F (g1.mono (by omega)) (λ h l' q hs=>?_) (λ h=>?_)
    .rw[bH]at h q;rw[hE,af h];have G:l'=l++lm (J (i=0)) b:=by rw[q,g2];unfold lm;rw[bA]
     refine(hP l' (hs.mono (by have:=g1.1;omega))).res ?_;rw[bv (Nat.succ_ne_zero i),<-G,<-bA,<-G]
    .rw[bH]at h |-
     rw[hE,ae h];unfold oY;rw[ae h]
   by_cases K:i=0
   .have e:J (i=0)=O:=bg K;apply ai (ba.2 (by omega));exact go l ⟨by omega,p.2⟩ (by rw[af e,bK]) (.inl e)
   .have e:J (i=0)=Y:=bv K;refine ag (aY.2 (by omega)) (al f (ah (Gu b.1 b1) ?_));cases N:usB b.1 with
    |false=>
      refine ag rfl (am ?_);have:fV (J (i=0)) b l=10:=by unfold fV;rw[e,ae (by rw[N];simp)]
      rw[this];rfl
    |true=>
      have hz:=lV N;have hv:=uR N;have aE:=hv.1;refine ai rfl (al f (ah (Ax b.1) (ag (bI) ?_)));exact go (l++bo b.1) ⟨by rw[aM];omega,λ t I=>(aR.1 I).elim (p.2 t) (hv.2 t)⟩ (by rw[e];rfl) (.inr N)))
 have E:Ev (λ m _=>(gQ m m).1 n 0 v P o B (P++o)) (oY (jh O (B.take n) (P++o)) (mw ((P++o)++ll O (B.take n)))):=by
  refine(bd (L:=λ m k=>(gQ m k).1 n 0 v P o B (P++o)) (ad 0 (aG _) _ ⟨by rw[aM];omega,λ t I=>(aR.1 I).elim (Q.2 t) (S.2 t)⟩)).res ?_;rw[bH,C];rfl
 apply aB;simp only[qja,DX];refine ag (bI (by simp;omega)) (wa (λ e=>?_) λ x t e=>?_)
 .subst e;refine ag (bI (by simp;omega)) (wa (λ e=>?_) λ x t e=>?_)
  .subst e;exact E
  .subst e;exact E
 .subst e;exact ag (bI (by simp at h1 |-;omega)) E
def fm(t:T):Bool:=J (t.kind=0)&&(J (t.name=[])&&(J (t.sort=0)&&J (X t.kids=0)))
def G0(t:T):Ev (λ m _=>lH m t) (fm t):=by
 apply aB;simp only[qgx,Kr];unfold fm;refine av (λ h=>?_) λ h=>am (by rw[bv (aC.1 h)];rfl);rw[bg (aD.1 h),cv];refine av (λ h=>?_) λ h=>am (by rw[bv (di.1 h)];rfl);rw[bg (cU.1 h),cv];refine av (λ h=>?_) λ h=>am (by rw[bv (aC.1 h)];rfl);rw[bg (aD.1 h),cv];exact am (by rw[iX,aD,cV];omega)
def Hu(t:T):Ev (λ m _=>pA m t) (fm t):=by
 apply aB;simp only[qjI,Li];unfold fm;refine av (λ h=>?_) λ h=>am (by rw[bv (aC.1 h)];rfl);rw[bg (aD.1 h),cv];refine av (λ h=>?_) λ h=>am (by rw[bv (di.1 h)];rfl);rw[bg (cU.1 h),cv];refine av (λ h=>?_) λ h=>am (by rw[bv (aC.1 h)];rfl);rw[bg (aD.1 h),cv];exact am (by rw[iX,aD,cV];omega)
def gn:aa T->aa T->Bool
 |_,[]=>O
 |s,x::r=>(J (x.kind=1)&&(J (aW x=0) && !J (x∈s)))&&gn (s++[x]) r
def H6:∀(r s:aa T),gn s r=O->s.Nodup->(s++r).Nodup
 |[],s,_,h=>by rw[bK];exact h
 |x::r,s,h,c=>by
   simp only[gn,aJ,eD,pq]at h
   have:=H6 r (s++[x]) h.2 (by
    rw[B3];exact⟨c,by simp,λ a f b d=>by rw[cQ.1 d];exact λ e=>h.1.2.2 (e▸f)⟩)
   rwa [bA]at this
def My:∀(r s:aa T),gn s r=O->∀x∈r,x.kind=1/\aW x=0
 |[],_,_,x,a=>by cases a
 |y::r,s,h,x,a=>by
   simp only[gn,aJ,cH]at h;obtain rfl|a:=bi.1 a
   .exact⟨h.1.1,h.1.2.1⟩
   .exact My r _ h.2 x a
def kw(a:Nat):Nat->aa T->Bool
 |_,[]=>O
 |k,x::r=>((J (k<a)==J (x.sort=1)) && !J (x.sort=5))&&kw a (k+1) r
def Wn(a:Nat):∀(l:aa T) (k:Nat),a<=k->kw a k l=l.all λ x => !J (x.sort=1) && !J (x.sort=5)
 |[],_,_=>rfl
 |x::l,k,h=>by
   simp only[kw,dy,Wn a l (k+1) (by omega),bv (show ¬ k<a by omega)];cases J (x.sort=1)<;>rfl
def LY(fr:aa T):∀(p:aa T) (k:Nat),kw (k+X p) k (p++fr)=((p.all λ x=>J (x.sort=1))&&fr.all λ x => !J (x.sort=1) && !J (x.sort=5))
 |[],k=>by simp only[eJ,dP,eZ,List.all_nil,cv];exact Wn k fr k (ak _)
 |x::p,k=>by
   have:=LY fr p (k+1);rw[bE,show k+(X p+1)=k+1+X p by omega,BW];simp only[kw,this,dy,bg (show k<k+1+X p by omega)];by_cases h:x.sort=1
   .rw[bg h,bv (show ¬ x.sort=5 by omega)];rfl
   .rw[bv h];rfl
def gi(a:fL):Bool:=
 if a.1=1 then J (a.2.2.2.1=0)&&J (X a.2.2.2.2=0)
 else if a.1=2 then fm a.2.2.1&&(J (a.2.2.2.1=0)&&J (X a.2.2.2.2=0))
 else if a.1=3\/a.1=4 then fm a.2.1&&(fm a.2.2.1&&J (0<=a.2.2.2.1))else Y
def jF(B:aa eU):Bool:=match B with
 |[]=>Y
 |b::_=>J (X B<=12)&&(fm b.1&&B.all λ b=>J (X b.2<=20)&&b.2.all gi)
def GA{B:aa eU}(h:jF B=O):X B<=12/\∀b∈B,X b.2<=20:=by
 cases B with
 |nil=>cases h
 |cons b r=>
   simp only[jF,aJ,cH,bz]at h;exact⟨h.1,λ c a=>(h.2.2 c a).1⟩
def qmG(a:fL):Ev (λ m _=>FT m a) (gi a):=by
 apply aB;simp only[qiv,KO,ay]
 have g:Ev (λ _ _=>cond (ieq a.2.2.2.1 0) (Z (ieq (X a.2.2.2.2) 0)) (Z Y)) (J (a.2.2.2.1=0)&&J (X a.2.2.2.2=0)):=by
  refine av (λ h=>?_) λ h=>am (by rw[bv (aC.1 h)];rfl);rw[bg (aD.1 h),cv];exact am (by rw[iX,aD,cV];omega)
 unfold gi;by_cases e:a.1=1
 .rw[af e];exact ag (aD.2 e) g
 rw[ae e];apply ai (aC.2 e);by_cases d:a.1=2
 .rw[af d];refine ag (aD.2 d) (ah (Hu _) ?_);cases fm a.2.2.1 with
  |true=>exact ag rfl g
  |false=>exact ai rfl (au _)
 rw[ae d];apply ai (aC.2 d)
 have f:Ev (λ m _=>ac (pA m a.2.1) λ j=>cond j (ac (pA m a.2.2.1) λ i=>cond i (Z (ile 0 a.2.2.2.1)) (Z Y)) (Z Y)) (fm a.2.1&&(fm a.2.2.1&&J (0<=a.2.2.2.1))):=by
  apply ah (Hu _);cases fm a.2.1 with
  |false=>exact ai rfl (au _)
  |true=>
    refine ag rfl (ah (Hu _) ?_);cases fm a.2.2.1 with
    |false=>exact ai rfl (au _)
    |true=>exact ag rfl (au _)
 by_cases c:a.1=3
 .rw[af (.inl c)];exact ag (aD.2 c) f
 apply ai (aC.2 c);by_cases b:a.1=4
 .rw[af (.inr b)];exact ag (aD.2 b) f
 .rw[ae (λ h=>h.elim c b)];exact ai (aC.2 b) (au _)
def qlp(e:cO)(t:X e.2.2.2<=1000000):Ev (λ m _=>Fc m e) (jF e.2.2.2):=by
 let⟨l,P,r,B⟩:=e;have t:X B<=1000000:=t;apply aB;simp only[qhv,DK,ay];show Ev _ (jF B);cases c:B with
 |nil=>exact ag rfl (au _)
 |cons g s=>
 rw[<-c];have C:B[0]?=Z g:=by rw[c];rfl
 have v:X B≠0:=by rw[c];simp
 have u:jF B=(J (X B<=12)&&(fm g.1&&B.all λ b=>J (X b.2<=20)&&b.2.all gi)):=by rw[c];rfl
 rw[u];refine ai (aC.2 (by omega)) (av (λ h=>am (by rw[aY]at h;rw[bv (by omega)];rfl)) λ h=>?_);rw[ba]at h;rw[bg (by omega),cv];refine al (by rw[nH];exact C) (ah (Hu g.1) ?_);cases D:fm g.1 with
 |false=>exact ag rfl (au _)
 |true=>
 apply ai rfl;rw[cv]
 have n:=aV (P:=λ i=>Ev (λ m k=>(jX m k).1 i l P r B) ((B.drop i).all λ b=>J (X b.2<=20)&&b.2.all gi)) B (by omega)
  (λ d=>aq (by
   simp only[Si,DT];exact ai d (am (by rw[bR];rfl))))
  (λ i b E y d f x A=>aq (by
   simp only[Si,DT];rw[y,dy];refine ag d (al f (av (λ h=>am (by rw[aY]at h;rw[bv (by omega)];rfl)) λ h=>?_));rw[ba]at h;rw[bg (show X b.2<=20 by omega),cv]
   have k:=aV (P:=λ j=>Ev (λ m k=>(jX m k).2 i j l P r B) ((b.2.drop j).all gi&&(B.drop (i+1)).all λ b=>J (X b.2<=20)&&b.2.all gi)) b.2 (by omega)
    (λ d=>aq (by
     simp only[Se,DW];refine al f (ai d ?_);rw[x,bR];exact A))
    (λ j a G p q o w z=>aq (by
     simp only[Se,DW,ay];rw[p,dy];refine al f (ag q (al f (al o (ah (qmG a) ?_))));cases F:gi a with
     |false=>exact ag rfl (au _)
     |true=>apply ai rfl;rw[w];exact z))
   exact(k 0 (aG _)).res (by rw[bH])))
 exact(bd (L:=λ m k=>(jX m k).1 0 l P r B) (n 0 (aG _))).res (by rw[bH])
def qjQ(l:aa T)(d:SmL 100 l):Ev (λ m _=>th m l) (gn [] l):=by
 have p:=d.1;apply aB;simp only[qfQ,C0]
 have a:=aV (P:=λ i=>Ev (λ m k=>sR m k l i) (gn (l.take i) (l.drop i))) l (by omega)
  (λ f=>aq (by
   simp only[Rv,C6];exact ai f (am (by rw[bR];rfl))))
  (λ i x b s f e r u=>aq (by
   have q:=getElem?_lt b;have j:=d.2 x (aK b);have c:SmL 100 (l.take i):=⟨by rw[bj];omega,λ t o=>d.2 t (fY o)⟩
   have n:=c.sz;simp only[Rv,C6,ay,Gr];rw[s,gn];refine ag f (al e (av (λ h=>am (by rw[bv (aC.1 (bnt.1 h))];rfl)) λ h=>?_));rw[bg (aD.1 (bnf.1 h)),cv];refine al e (ah (uA x) (av (λ h=>am (by rw[bv (aC.1 (bnt.1 h))];rfl)) λ h=>?_));rw[bg (aD.1 (bnf.1 h)),cv];refine ag (by unfold inb;rw[cV];omega) (ag (by unfold inb;rw[cV];omega) (al e (ah (NN (l.take i) x) ?_)));by_cases g:x∈l.take i
   .rw[bg g];exact ag rfl (au _)
   .rw[bv g,r];refine ai rfl (u.res ?_);rw[show l.take (i+1)=l.take i++[x] by rw[dN,b];rfl];rfl))
 exact bd (L:=λ m k=>sR m k l 0) (a 0 (aG _))
def ql3(b:cO)(g:SmL 6 b.2.1)(n:SmL 6 b.2.2.1):Ev (λ m _=>DH m b) (gn [] (b.2.1++b.2.2.1)&&((b.2.1.all λ x=>J (x.sort=1))&&b.2.2.1.all λ x => !J (x.sort=1) && !J (x.sort=5))):=by
 let⟨f,P,a,B⟩:=b;have g:SmL 6 P:=g;have n:SmL 6 a:=n;have z:=g.1;have A:=n.1;show Ev _ (gn [] (P++a)&&((P.all λ x=>J (x.sort=1))&&a.all λ x => !J (x.sort=1) && !J (x.sort=5)))
 have r:=aV (P:=λ i=>Ev (λ m k=>(js m k).2 i f P a B) ((a.drop i).all λ x => !J (x.sort=1) && !J (x.sort=5))) a (by omega)
  (λ c=>aq (by
   simp only[Rn,CP];exact ai c (am (by rw[bR];rfl))))
  (λ i x u p c j o q=>aq (by
   simp only[Rn,CP];rw[p,dy];refine ag c (al j (av (λ h=>am (by rw[bg (aD.1 h)];rfl)) λ h=>?_));rw[bv (aC.1 h)];refine al j (av (λ h=>am (by rw[bg (aD.1 h)];rfl)) λ h=>?_);rw[bv (aC.1 h),o];exact q))
 have s:=aV (P:=λ i=>Ev (λ m k=>(js m k).1 i f P a B) (((P.drop i).all λ x=>J (x.sort=1))&&a.all λ x => !J (x.sort=1) && !J (x.sort=5))) P (by omega)
  (λ c=>aq (by
   simp only[Ro,CR];exact ai c ((r 0 (aG _)).res (by rw[bR,bH];rfl))))
  (λ i x u p c j o q=>aq (by
   simp only[Ro,CR];rw[p,dy];refine ag c (al j (av (λ h=>am (by rw[bv (aC.1 (bnt.1 h))];rfl)) λ h=>?_));rw[bg (aD.1 (bnf.1 h)),o];exact q))
 have d:∀l:aa T,l=P++a->Ev (λ m _=>ac (th m l) λ v=>cond (ap v) (Z Y) ((js m m).1 0 f P a B)) (gn [] (P++a)&&((P.all λ x=>J (x.sort=1))&&a.all λ x => !J (x.sort=1) && !J (x.sort=5))):=λ l y=>by
  subst y;refine ah (qjQ (P++a) ⟨by rw[aM];omega,λ t w=>(aR.1 w).elim (g.2 t) (n.2 t)⟩) ?_;cases gn [] (P++a)with
  |false=>exact ag rfl (au _)
  |true=>exact ai rfl ((bd (L:=λ m k=>(js m k).1 0 f P a B) (s 0 (aG _))).res (by rw[bH];rfl))
 apply aB;simp only[qe9,CW];refine ag (bI (by simp;omega)) (wa (λ e=>?_) λ x t e=>?_)
 .subst e;refine ag (bI (by simp;omega)) (wa (λ e=>?_) λ x t e=>?_)
  .subst e;exact d [] rfl
  .subst e;exact d _ rfl
 .subst e;exact ag (bI (by simp at z |-;omega)) (d _ rfl)
def qp2(a:fL)(B:aa eU)(i:Nat)(A:aa fL)(j:Nat)(x:A[j]?=Z a)(y:X A<=20){r:Bool}(f:gi a=O->Ev (λ m k=>(dR m k).2.2 B (X B) i A (X A) ((j+1:Nat):Int)) r)(t:gi a=Y->r=Y):Ev (λ m k=>(dR m k).2.2 B (X B) i A (X A) j) r:=by
 have z:=getElem?_lt x;have u:iw .i64 (aw (j:Int) 1)=((j+1:Nat):Int):=by rw[show aw (j:Int) 1=((j+1:Nat):Int)from by unfold aw;omega,dA]
 apply aq;simp only[Ry,CY,ay];rw[u];refine ag (aY.2 (by omega)) (al (by rw[db];exact x) ?_);have e:gi a=Y->Ev (λ _ _=>Z Y) r:=λ h=>by rw[t h];exact au _
 have v:¬ a.1=1->¬ a.1=2->(a.1=3\/a.1=4)->Ev (λ m k=>ac (lH m a.2.1) λ p=>cond p (ac (lH m a.2.2.1) λ o=>cond o (cond (ap (ile 0 a.2.2.2.1)) (Z Y) ((dR m k).2.2 B (X B) i A (X A) ((j+1:Nat):Int))) (Z Y)) (Z Y)) r:=λ c d n=>by
  have b:gi a=(fm a.2.1&&(fm a.2.2.1&&J (0<=a.2.2.2.1))):=by unfold gi;rw[ae c,ae d,af n]
  apply ah (G0 _);cases q:fm a.2.1 with
  |false=>exact ai rfl (e (by rw[b,q];rfl))
  |true=>
    refine ag rfl (ah (G0 _) ?_);cases l:fm a.2.2.1 with
    |false=>exact ai rfl (e (by rw[b,q,l];rfl))
    |true=>
      refine ag rfl (av (λ h=>e ?_) λ h=>f ?_)
      .rw[bnt,li]at h;rw[b,q,l,bv (by omega)];rfl
      .rw[bnf,gK]at h;rw[b,q,l,bg h];rfl
 by_cases c:a.1=1
 .have b:gi a=(J (a.2.2.2.1=0)&&J (X a.2.2.2.2=0)):=by unfold gi;rw[af c]
  refine av (λ h=>?_) λ h=>?_
  .rw[aD]at h;refine ag (aD.2 c) (av (λ g=>e ?_) λ g=>f ?_)
   .rw[bnt,aC]at g;rw[b,bg h,bv (by omega)];rfl
   .rw[bnf,aD]at g;rw[b,bg h,bg (by omega)];rfl
  .rw[aC]at h;exact ag (aD.2 c) (e (by rw[b,bv h];rfl))
 by_cases d:a.1=2
 .have b:gi a=(fm a.2.2.1&&(J (a.2.2.2.1=0)&&J (X a.2.2.2.2=0))):=by unfold gi;rw[ae c,af d]
  refine av (λ h=>?_) λ h=>?_
  .rw[aD]at h;refine ai (aC.2 c) (ag (aD.2 d) (av (λ g=>?_) λ g=>e ?_))
   .rw[aD]at g;apply ah (G0 _);cases l:fm a.2.2.1 with
    |false=>exact ag rfl (e (by rw[b,l];rfl))
    |true=>exact ai rfl (f (by rw[b,l,bg h,bg (by omega)];rfl))
   .rw[aC]at g;rw[b,bg h,bv (by omega)];cases fm a.2.2.1<;>rfl
  .rw[aC]at h;exact ai (aC.2 c) (ag (aD.2 d) (e (by rw[b,bv h];cases fm a.2.2.1<;>rfl)))
 have w:Ev (λ m k=>cond (ieq a.1 3) (ac (lH m a.2.1) λ p=>cond p (ac (lH m a.2.2.1) λ o=>cond o (cond (ap (ile 0 a.2.2.2.1)) (Z Y) ((dR m k).2.2 B (X B) i A (X A) ((j+1:Nat):Int))) (Z Y)) (Z Y)) (cond (ieq a.1 4) (ac (lH m a.2.1) λ p=>cond p (ac (lH m a.2.2.1) λ o=>cond o (cond (ap (ile 0 a.2.2.2.1)) (Z Y) ((dR m k).2.2 B (X B) i A (X A) ((j+1:Nat):Int))) (Z Y)) (Z Y)) (Z Y))) r:=by
  by_cases n:a.1=3
  .exact ag (aD.2 n) (v c d (.inl n))
  apply ai (aC.2 n);by_cases s:a.1=4
  .exact ag (aD.2 s) (v c d (.inr s))
  .exact ai (aC.2 s) (e (by unfold gi;rw[ae c,ae d,ae λ h=>h.elim n s]))
 exact av (λ _=>ai (aC.2 c) (ai (aC.2 d) w)) λ _=>ai (aC.2 c) (ai (aC.2 d) w)
def qmy(d:cO)(p:SmL 6 d.2.1)(q:SmL 6 d.2.2.1)(I:X d.2.2.2<=1000000):Ev (λ m _=>Ej m d) ((gn [] (d.2.1++d.2.2.1)&&kw (X d.2.1) 0 (d.2.1++d.2.2.1))&&jF d.2.2.2):=by
 let⟨F,P,n,B⟩:=d;have p:SmL 6 P:=p;have q:SmL 6 n:=q;have I:X B<=1000000:=I;have h1:=p.1;have h2:=q.1;show Ev _ ((gn [] (P++n)&&kw (X P) 0 (P++n))&&jF B);obtain⟨l,H⟩:∃l,l=P++n:=⟨_,rfl⟩
 have g:SmL 12 l:=by rw[H];exact⟨by rw[aM];omega,λ t u=>(aR.1 u).elim (p.2 t) (q.2 t)⟩
 have S:=g.1
 have kb:=aV (P:=λ i=>Ev (λ m k=>(dR m k).2.1 B (X B) i) ((B.drop i).all λ b=>J (X b.2<=20)&&b.2.all gi)) B (by omega)
  (λ e=>aq (by
   simp only[Ru,C9];exact ai e (am (by rw[bR];rfl))))
  (λ i b o A e y w D=>aq (by
   simp only[Ru,C9];rw[A,dy];refine ag e (al y (av (λ h=>am (by rw[aY]at h;rw[bv (by omega)];rfl)) λ h=>?_));rw[ba]at h;rw[bg (show X b.2<=20 by omega),cv]
   have k:=aV (P:=λ j=>Ev (λ m k=>(dR m k).2.2 B (X B) i b.2 (X b.2) j) ((b.2.drop j).all gi&&(B.drop (i+1)).all λ b=>J (X b.2<=20)&&b.2.all gi)) b.2 (by omega)
    (λ e=>aq (by
     simp only[Ry,CY];apply ai e;rw[w,bR];exact D))
    (λ j a ha z ad W hj hQ=>by
     rw[z,dy];exact qp2 a B i b.2 j ha (by omega) (λ v=>by rw[v,cv];exact hQ) (λ v=>by rw[v];rfl))
   exact(k 0 (aG _)).res (by rw[bH])))
 have K:=aV (P:=λ i=>Ev (λ m k=>(dR m k).1 l (X l) i F P n B l) ((gn (l.take i) (l.drop i)&&kw (X P) i (l.drop i))&&jF B)) l (by omega)
  (λ e=>aq (by
   simp only[RB,C5,ay];rw[bR];show Ev _ (jF B);apply ai e;cases f:B with
   |nil=>exact ag rfl (au _)
   |cons r E=>
   rw[<-f];have h0:B[0]?=Z r:=by rw[f];rfl
   have R:X B≠0:=by rw[f];simp
   have N:jF B=(J (X B<=12)&&(fm r.1&&B.all λ b=>J (X b.2<=20)&&b.2.all gi)):=by rw[f];rfl
   rw[N];refine ai (aC.2 (by omega)) (av (λ h=>am (by rw[aY]at h;rw[bv (by omega)];rfl)) λ h=>?_);rw[ba]at h;rw[bg (by omega),cv];refine al (by rw[nH];exact h0) (ah (G0 r.1) ?_);cases hz:fm r.1 with
   |false=>exact ag rfl (au _)
   |true=>
     refine ai rfl ((kb 0 (aG _)).res ?_);rw[bH];rfl))
  (λ i x o A e y w D=>aq (by
   have T:=getElem?_lt o;have M:=g.2 x (aK o);have s:SmL 12 (l.take i):=⟨by rw[bj];omega,λ t u=>g.2 t (fY u)⟩
   have Q:=s.sz;simp only[RB,C5,ay,Gr];rw[A,gn,kw];have c:∀b:Bool,b=Y->Ev (λ _ _=>Z Y) (b&&jF B):=λ b C=>by rw[C];exact au _
   refine ag e (al y (av (λ h=>c _ (by rw[bv (aC.1 (bnt.1 h))];rfl)) λ h=>?_));rw[bg (aD.1 (bnf.1 h)),cv];refine ah (iN x) (av (λ h=>c _ (by rw[bv (aC.1 (bnt.1 h))];rfl)) λ h=>?_);rw[bg (aD.1 (bnf.1 h)),cv];refine ag (by unfold inb;rw[cV];omega) (ag (by unfold inb;rw[cV];omega) (ah (AN (l.take i) x) ?_));by_cases G:x∈l.take i
   .rw[bg G];exact ag rfl (c _ rfl)
   .rw[bv G];apply ai rfl
    have C:dj (ilt (i:Int) (X P:Int)) (ieq x.sort 1)=(J (i<X P)==J (x.sort=1)):=by
     have e1:ilt (i:Int) (X P:Int)=J (i<X P):=by rw[iX,aY,cV];omega
     have e2:ieq x.sort 1=J (x.sort=1):=by rw[iX,aD,cV]
     rw[e1,e2];cases J (i<X P)<;>cases J (x.sort=1)<;>rfl
    rw[C];cases hq:(J (i<X P)==J (x.sort=1))with
    |false=>exact ag rfl (c _ (by simp))
    |true=>
      refine ai rfl (av (λ h=>c _ (by rw[bg (aD.1 h)];simp)) λ h=>?_);rw[bv (aC.1 h),w];apply D.res;rw[show l.take (i+1)=l.take i++[x] by rw[dN,o];rfl];rfl))
 apply aB;simp only[qfT,C7];apply ah (Gk P n);rw[<-H];exact(bd (L:=λ m k=>(dR m k).1 l (X l) 0 F P n B l) (K 0 (aG _))).res (by rw[bH,JH])
def jH(a:cO):Int:=
 if a.1<0\/4<=a.1\/X a.2.1<2\/4<X a.2.1\/(X a.2.1:Int)<=a.1 then 7
 else if((gn [] (a.2.1++a.2.2.1)&&kw (X a.2.1) 0 (a.2.1++a.2.2.1))&&jF a.2.2.2)=O then(dX a (X a.2.2.2)).2 else 1
structure SmM (m:cO):Prop where
 p:SmL 6 m.2.1
 f:SmL 6 m.2.2.1
 n:m.2.2.2.length<=1000000
 b:∀b∈m.2.2.2,b.2.length<=20->SmB b
def A1{a:cO}(h:jH a=0):(gn [] (a.2.1++a.2.2.1)&&kw (X a.2.1) 0 (a.2.1++a.2.2.1))=O/\jF a.2.2.2=O/\(dX a (X a.2.2.2)).2=0/\0<=a.1/\a.1<4/\2<=X a.2.1/\X a.2.1<=4/\a.1<X a.2.1:=by
 unfold jH at h;split at h
 .cases h
 .rename_i c;split at h
  .next b=>rw[aJ]at b;exact⟨b.1,b.2,h,by omega,by omega,by omega,by omega,by omega⟩
  .cases h
def X2{a:cO}(l:SmM a){F:Nat->Nat->ab Int}(c:((gn [] (a.2.1++a.2.2.1)&&kw (X a.2.1) 0 (a.2.1++a.2.2.1))&&jF a.2.2.2)=O->Ev F (dX a (X a.2.2.2)).2)(d:((gn [] (a.2.1++a.2.2.1)&&kw (X a.2.1) 0 (a.2.1++a.2.2.1))&&jF a.2.2.2)=Y->Ev F 1):Ev (λ m k=>cond (ilt a.1 0) (Z 7) (cond (ile 4 a.1) (Z 7) (cond (ilt (X a.2.1) 2) (Z 7) (cond (ilt 4 (X a.2.1)) (Z 7) (cond (ile (X a.2.1) a.1) (Z 7) (F m k)))))) (jH a):=by
 unfold jH;refine av (λ h=>am (by rw[aY]at h;rw[af (.inl h)])) λ j=>?_;refine av (λ h=>am (by rw[gK]at h;rw[af (.inr (.inl h))])) λ i=>?_;refine av (λ h=>am (by rw[aY]at h;rw[af (.inr (.inr (.inl (by omega))))])) λ g=>?_;refine av (λ h=>am (by rw[aY]at h;rw[af (.inr (.inr (.inr (.inl (by omega)))))])) λ f=>?_;refine av (λ h=>am (by rw[gK]at h;rw[af (.inr (.inr (.inr (.inr h))))])) λ e=>?_;rw[ba]at j g f;rw[li]at i e;rw[ifN];cases b:((gn [] (a.2.1++a.2.2.1)&&kw (X a.2.1) 0 (a.2.1++a.2.2.1))&&jF a.2.2.2)with
 |true=>rw[af rfl];exact c b
 |false=>rw[ae (by decide)];exact d b
def Gz(c:cO)(a:SmM c):Ev (λ m _=>zy m c) (jH c):=by
 have d:=qmy c a.p a.f a.n;apply aB;simp only[qgP,Kq];refine X2 a (λ g=>ah d ?_) λ k=>ah d ?_
 .rw[g];rw[aJ,aJ]at g;let⟨j,i⟩:=GA g.2;have e:=H6 _ _ g.1.1 lC;rw[eZ]at e;exact ai rfl (ah (WU c a.p a.f e _ (ak _) j λ b h=>a.b b h (i b h)) (au _))
 .rw[k];exact ag rfl (au _)
def qk6(a:cO)(c:SmM a):Ev (λ m _=>FE m a) (jH a):=by
 have d:=ql3 a c.p c.f;rw[<-LY a.2.2.1 a.2.1 0,bS]at d;have e:=qlp a c.n;apply aB;simp only[qim,KW];refine X2 c (λ h=>ah d ?_) λ h=>ah d ?_
 .rw[aJ]at h;rw[h.1];refine ai rfl (ah e ?_);rw[h.2];let⟨j,i⟩:=GA h.2;exact ai rfl (ah (qnQ a c.p c.f _ (ak _) j λ b g=>c.b b g (i b g)) (au _))
 .cases k:(gn [] (a.2.1++a.2.2.1)&&kw (X a.2.1) 0 (a.2.1++a.2.2.1))with
  |false=>exact ag rfl (au _)
  |true=>
    rw[k,cv]at h;refine ai rfl (ah e ?_);rw[h];exact ag rfl (au _)
section
open Go.Sort Proofs Proofs.YtfepnknpfhiemaaGreatDoor
abbrev Bd:=T×T
def iT(l:aa Bd):Prop:=l.Pairwise λ p q=>aO p.1 q.1=-1
def SmQ(l:aa Bd):Prop:=X l<=3000/\∀p∈l,size p.1<=100000/\size p.2<=100000
def MQ:∀(l m:aa Bd),iT l->iT m->(∀x,x∈l↔x∈m)->l=m
 |[],[],_,_,_=>rfl
 |[],y::m,_,_,h=>absurd ((h y).2 (aX ..)) (by simp)
 |x::l,[],_,_,h=>absurd ((h x).1 (aX ..)) (by simp)
 |x::l,y::m,n,k,h=>by
   let⟨c,i⟩:=mH.1 n;let⟨b,g⟩:=mH.1 k;have f:=(h x).1 (aX ..);have d:=(h y).2 (aX ..)
   have e:x=y:=by
    obtain e|f:=bi.1 f
    .exact e
    obtain e|d:=bi.1 d
    .exact e.symm
    exact absurd (rh (c y d) (b x f)) ww
   subst e;rw[MQ l m i g λ z=>?_];constructor
   .intro a;obtain e|j:=bi.1 ((h z).1 (aT _ a))
    .subst e;exact absurd (c z a) ww
    .exact j
   .intro a;obtain e|j:=bi.1 ((h z).2 (aT _ a))
    .subst e;exact absurd (b z a) ww
    .exact j
theorem qn9(l:List Bd)(hl:l.length<=100000)(hs:∀ p∈l,size p.1<=1000000000)(hnd:(l.map Prod.fst).Nodup):∃ l',Ev (λ m _=>wc m l) l'/\l'.Perm l/\iT l':=by
 cases hl0:l with
 | nil=>exact⟨[],aB (B5 (au _) λ m _=>rfl),.refl _,List.Pairwise.nil⟩
 | cons x0 r0 =>
   rw[<- hl0]
   obtain⟨B,hB⟩:=M8 (F := λ m x y=>cW m x y) (l.map Prod.fst) λ x hx y hy=>mM x (by
    obtain⟨p,hp,rfl⟩:=bF.1 hx;exact hs p hp) y (by
    obtain⟨p,hp,rfl⟩:=bF.1 hy;exact hs p hp)
   have hcmp:∀ m,B+1<=m->∀ x∈l,∀ y∈l,lF m x y=some (aO x.1 y.1) := λ m hm x hx y hy=>by
    obtain⟨n,rfl⟩:∃ n,m=n+1:=⟨m-1,by omega⟩
    simp only[qdu,J2,ay];rw[hB n (by omega) x.1 (iY hx) y.1 (iY hy)];rfl
   have hcfG:∀ F:Bd->Bd->Option Int,(∀ x∈l,∀ y∈l,F x y=some (aO x.1 y.1))->da F l=da (λ x y=>some (aO x y)) (l.map Prod.fst) := λ F hF=>by
    funext i j;unfold da;rw[bO,df,df];cases hx:l[i % l.length]? with
    | none=>rfl
    | some x=>cases hy:l[j % l.length]? with
      | none=>rfl
      | some y=>simp only[ny];rw[hF x (aK hx) y (aK hy)]
   have hO:SWO (ltOf (da (λ x y:Bd=>some (aO x.1 y.1)) l)):=by
    rw[hcfG _ λ _ _ _ _=>rfl];exact qba _
   obtain⟨hp,hq⟩:=Lw (λ x y:Bd=>some (aO x.1 y.1)) l hO;have hlt:∀ i∈eF (λ x y:Bd=>some (aO x.1 y.1)) l,i<l.length := λ i hi=>jS.1 (hp.mem_iff.1 hi)
   have hperm:(pick l (eF (λ x y:Bd=>some (aO x.1 y.1)) l)).Perm l:=by
    have:=hp.filterMap λ i=>l[i]?
    have hr:(List.range l.length).filterMap (λ i=>l[i]?)=l:=by
     have:∀ l:List Bd,(List.range l.length).filterMap (λ i=>l[i]?)=l := λ l=>by
      induction l with
      | nil=>rfl
      | cons x l ih =>
        rw[bE,qch,qF,List.filterMap_map];simpa[BU]using ih
     exact this l
    rw[hr]at this;exact this
   refine⟨pick l (eF (λ x y:Bd=>some (aO x.1 y.1)) l),aB ⟨B+1,λ m k hm _=>?_⟩,hperm,?_⟩
   ·show wc (m+1) l=_;rw[qcu];have hcf:da (lF m) l=da (λ x y:Bd=>some (aO x.1 y.1)) l:=(hcfG _ (hcmp m hm)).trans (hcfG _ λ _ _ _ _=>rfl).symm;have hall:ko (lF m) l=true:=bz.2 λ x hx=>bz.2 λ y hy=>by rw[hcmp m hm x hx y hy];rfl
    have hix:eF (lF m) l=eF (λ x y:Bd=>some (aO x.1 y.1)) l:=by unfold eF;rw[hcf]
    have e:oT (lF m) l=cond (Nat.ble l.length 100000&&(ko (lF m) l&&rU l.length (ltOf (da (lF m) l)))) (some (pick l (eF (lF m) l))) none:=by rw[hl0];rfl
    rw[e,hcf,hall,hix,XB hO,show Nat.ble l.length 100000=true from pj hl];rfl
   ·have hnd':((pick l (eF (λ x y:Bd=>some (aO x.1 y.1)) l)).map Prod.fst).Nodup:=(hperm.map Prod.fst).nodup_iff.2 hnd
    have hnd2:(pick l (eF (λ x y:Bd=>some (aO x.1 y.1)) l)).Pairwise λ p q=>p.1≠q.1:=by
     have:((pick l (eF (λ x y:Bd=>some (aO x.1 y.1)) l)).map Prod.fst).Pairwise (· ≠ ·):=hnd'
     rwa [qcj]at this
    refine List.Pairwise.imp₂ (R := λ p q:Bd=>aO q.1 p.1≠-1) (S := λ p q=>p.1≠q.1) (λ p q h1 h2=>?_) ?_ hnd2
    ·rcases GX p.1 q.1 with h | h | h
     ·exact h
     ·exact absurd h h2
     ·exact absurd h h1
    ·generalize eF (λ x y:Bd=>some (aO x.1 y.1)) l=ix at hp hq hlt |-
     have hn:ix.length=l.length:=by rw[hp.length_eq,vW]
     unfold pick;rw[List.pairwise_filterMap,vY];intro i j hi hj hij x hx y hy hc;have:=hq i j (aG _) hij (by omega);rw[pn ix.toArray i (by simpa using hi),pn ix.toArray j (by simpa using hj)]at this;have h1:=hlt _ (fX hi);have h2:=hlt _ (fX hj);unfold ltOf da at this;rw[pq]at this;simp only[List.getElem_toArray,qB h1,qB h2,hx,hy]at this;rw[hc]at this;exact this (by decide)
def ql8(a b:aa Bd)(h:X a+X b<=100000000:=by omega):Ev (λ m _=>Ck m [a,b]) ((),(a++b,())):=by
 apply aB;simp only[qcZ,Cj]
 have g:∀n:Nat,n<=100000000->wg 0 (n:Int)=Z ((),[],()):=λ n e=>by
  unfold wg;rw[show inb (n:Int) 100000000=O from by unfold inb;rw[cV];omega];rfl
 have c:Ev (λ m k=>(kO m k).2 [a,b] (X ([a,b]:aa (aa Bd)):Nat) 0 []) ((),(a++b,())):=by
  apply aq;simp only[JT,yX];refine ag rfl (al (a:=a) rfl (ag (bI (by simp;omega)) (aq ?_)));simp only[JT,yX];refine ag rfl (al (a:=b) rfl (ag (bI (by simp;omega)) (aq ?_)));simp only[JT,yX];exact ai rfl (au _)
 refine bd (L:=λ m k=>(kO m k).1 [a,b] 0 [a,b] (X ([a,b]:aa (aa Bd)):Nat) 0) (aq ?_);simp only[JU,yW];have e1:iw .i64 (aw 0 (X a:Int))=((X a:Nat):Int):=by rw[show aw 0 (X a:Int)=((X a:Nat):Int) by unfold aw;omega,dA]
 refine ag rfl (al (a:=a) rfl ?_);rw[e1];refine ai (ba.2 (by omega)) (aq ?_);simp only[JU,yW];have d:iw .i64 (aw (X a:Int) (X b:Int))=((X a+X b:Nat):Int):=by rw[qX,dA]
 refine ag rfl (al (a:=b) rfl ?_);rw[d];refine ai (ba.2 (by omega)) (aq ?_);simp only[JU,yW];exact ai rfl (al (g _ h) c)
def YB(a b:aa Bd)(h:X a+X b<=100000)(e:∀p∈a++b,size p.1<=1000000000)(c:((a++b).map Prod.fst).Nodup):∃l',Ev (λ m _=>zg m a b) l'/\l'.Perm (a++b)/\iT l':=by
 let⟨l',g,d,f⟩:=qn9 (a++b) (by rw[aM];omega) e c;refine⟨l',aB ?_,d,f⟩;simp only[qdQ,J6];exact ah (ql8 a b) (ah g (ag (by rw[d.length_eq];exact JC _) (au _)))
def qpN{l:aa Bd}(P:iT l)(N:SmQ l)(t:T)(ht:size t<=100000):∀(d lo b:Nat),b<=lo+d->lo<=b->b<=X l->(∀k p,k<lo->l[k]?=Z p->aO p.1 t=-1)->(∀k p,b<=k->l[k]?=Z p->aO p.1 t≠-1)->
  ∃(x:Nat) (f:Bool),Ev (λ m k=>sx m k l (X l) lo b t.kind t.name t.sort t.kids) ((x:Int),f)/\(f=O->∃p,l[x]?=Z p/\p.1=t)/\(f=Y->∀p∈l,p.1≠t):=by
 have S:=N.1
 have w:∀p∈l,Ev (λ m _=>zf m p t) (aO p.1 t):=λ p r=>by
  apply aB;simp only[qdG,J3,ay];have:=(N.2 p r).1;exact ah (mM p.1 (by omega) t (by omega)) (au _)
 intro d
 induction d with
 |zero=>
   intro lo b W Q K y B;have:lo=b:=by omega
   subst this;by_cases n:lo<X l
   .obtain⟨p,g⟩:∃p,l[lo]?=Z p:=⟨_,aS n⟩
    refine⟨lo,ieq (aO p.1 t) 0,aq ?_,λ h=>⟨p,g,mQ _ _ (aD.1 h)⟩,λ h q D e=>?_⟩
    .simp only[B6,wb,ay];rw[show T.mk t.kind t.name t.sort t.kids=t from ay t];exact ai (ba.2 (Jz _)) (ag (aY.2 (by omega)) (al (a:=p) (by rw[db,g]) (ah (w p (aK g)) (au _))))
    .rw[aC]at h;let⟨k,o⟩:=qsp.1 D;obtain v|rfl|v:=Nat.lt_trichotomy k lo
     .have:=y k q v o;rw[e,nG]at this;cases this
     .rw[g]at o;cases o;rw[e,nG]at h;exact h rfl
     .have:=vY.1 P lo k n (getElem?_lt o) v;rw[QT n|>.2 g,QT (getElem?_lt o)|>.2 o,e]at this;exact B lo p (ak _) g this
   .refine⟨lo,Y,aq ?_,(λ h=>by cases h),λ _ q D e=>?_⟩
    .simp only[B6,wb,ay];exact ai (ba.2 (Jz _)) (ai (ba.2 (by omega)) (au _))
    .let⟨k,o⟩:=qsp.1 D;have:=y k q (by have:=getElem?_lt o;omega) o;rw[e,nG]at this;cases this
 |succ d C=>
   intro lo b W Q K y B;by_cases he:lo=b
   .exact C lo b (by omega) Q K y B
   have R:(lo+b)/2<b:=by omega
   have E:lo<=(lo+b)/2:=by omega
   have s:=Zj lo b;generalize (lo+b)/2=c at *;have n:c<X l:=by omega
   obtain⟨p,g⟩:∃p,l[c]?=Z p:=⟨_,aS n⟩
   have z:∀{i j:Nat}{p q:Bd},l[i]?=Z p->l[j]?=Z q->i<j->aO p.1 q.1=-1:=λ{i j p q} b F G=>by
    have:=vY.1 P i j (getElem?_lt b) (getElem?_lt F) G
    rwa [QT (getElem?_lt b)|>.2 b,QT (getElem?_lt F)|>.2 F]at this
   by_cases A:aO p.1 t=-1
   .let⟨x,f,M,L⟩:=C (c+1) b (by omega) (by omega) K (λ k q o r=>by
      by_cases u:k=c
      .subst u;rw[g]at r;cases r;exact A
      .exact dV.trans _ _ _ (z r g (by omega)) A) B
    refine⟨x,f,aq ?_,L⟩;simp only[B6,wb,ay];rw[show T.mk t.kind t.name t.sort t.kids=t from ay t,s];refine ag (aY.2 (by omega)) (al (a:=p) (by rw[db,g]) (ah (w p (aK g)) (ag (aY.2 (by omega)) ?_)));rw[show aw ((c:Nat):Int) 1=((c+1:Nat):Int)from by unfold aw;omega,dA];exact M
   .let⟨x,f,M,L⟩:=C lo c (by omega) E (by omega) y (λ k q o r=>by
      by_cases u:k=c
      .subst u;rw[g]at r;cases r;exact A
      .intro H;exact A (dV.trans _ _ _ (z g r (by omega)) H))
    refine⟨x,f,aq ?_,L⟩;simp only[B6,wb,ay];rw[show T.mk t.kind t.name t.sort t.kids=t from ay t,s];have I:0<=aO p.1 t:=by obtain h|h|h:=dV.rng p.1 t<;>omega
    exact ag (aY.2 (by omega)) (al (a:=p) (by rw[db,g]) (ah (w p (aK g)) (ai (ba.2 I) M)))
def qoS{l:aa Bd}{t:T}(h:∀p∈l,p.1≠t):lkA l t=U:=by
 unfold lkA;rw[List.find?_eq_none.2 λ p a=>by rw[eL];exact h p a];rfl
def Zc{l:aa Bd}(c:iT l){i:Nat}{p:Bd}(a:l[i]?=Z p):lkA l p.1=Z p.2:=by
 induction l generalizing i with
 |nil=>simp at a
 |cons q l b=>
   let⟨f,d⟩:=mH.1 c;rw[xn];cases i with
   |zero=>simp at a;subst a;rw[af rfl]
   |succ i=>
     have a:l[i]?=Z p:=by simpa using a
     rw[ae (λ e=>by have:=f p (aK a);rw[e,nG]at this;cases this)];exact b d a
def NG{l:aa Bd}(d:iT l)(i:SmQ l)(t:T)(h:size t<=100000:=by omega):Ev (λ m _=>wo m l t) ((lkA l t).getD t,(lkA l t).isSome):=by
 let⟨g,f,q,o,n⟩:=qpN d i t h (X l) 0 (X l) (by omega) (aG _) (ak _) (λ k p c=>by omega) (λ k p c b=>by rw[ox c]at b;cases b)
 have j:Ev (λ m _=>B8 m l t) ((g:Int),f):=by
  apply aB;simp only[qco,B7];exact bd (L:=λ m k=>sx m k l (X l) 0 (X l) t.kind t.name t.sort t.kids) q
 apply aB;simp only[qd4,J9,ay];apply ah j;cases f with
 |true=>
   obtain⟨p,e,rfl⟩:=o rfl;rw[Zc d e];exact ai rfl (al (a:=p) (by rw[db,e]) (au _))
 |false=>
   rw[qoS (n rfl)];exact ag rfl (au _)
def YA(l:aa Bd)(j:SmQ l)(t:T)(w:size t<=100000:=by omega):Ev (λ m _=>Aq m l t) ((lkA l t).getD t):=by
 have p:=j.1;apply aB;simp only[qkR,Fe]
 have f:=aV (P:=λ i=>∀a b c d,Ev (λ m k=>uh m k l i t.kind t.name t.sort t.kids a b c d) ((lkA (l.drop i) t).getD t)) l (by omega)
  (λ g a b c d=>aq (by
   simp only[Tm,Fq];rw[bR];exact ai g (am (ay t))))
  (λ i x o r g n q s a b c d=>aq (by
   let⟨v,u⟩:=j.2 x (aK o);simp only[Tm,Fq,ay];rw[show T.mk t.kind t.name t.sort t.kids=t from ay t,r,xn];refine ag g (al n (ah (lP x.1 t) (av (λ h=>?_) λ h=>?_)))
   .rw[af (eL.1 h)];exact al n (au _)
   .rw[ae (λ e=>by rw[eL.2 e]at h;cases h),q];exact s a b c d))
 exact(bd (L:=λ m k=>uh m k l 0 t.kind t.name t.sort t.kids 0 [] 0 []) (f 0 (aG _) 0 [] 0 [])).res (by rw[bH])
end
abbrev jn:=Int×aa (aa aN)
def qA:aa (aa aN)->aa (aa aN)->Bool
 |_,[]=>O
 |s,a::r=>(dc a && !J (a∈s))&&qA (s++[a]) r
def Uk(a:aa aN)(so:Int)(h:0<=so/\so<=5):aW (T.mk 2 a so [])=0↔dc a=O:=by
 have c:jC (T.mk 2 a so [])=fI (T.mk 2 a so []):=by rw[uv];rfl
 have b:fI (T.mk 2 a so [])=if dc a=O then 0 else 2:=by
  show na 2 so 0 (dc a)=_;unfold na;rw[af (.inr rfl),ifN]
 have f:size (T.mk 2 a so [])=1:=by rw[cM];rfl
 have d:=NO (T.mk 2 a so []);unfold aW;rw[c,b];cases dc a with
 |true=>
   rw[af rfl,ae (by simp),ifN];exact⟨λ _=>rfl,λ _=>rfl⟩
 |false=>
   have e:(if Y=O then(0:Int)else 2)=2:=rfl;rw[e,af (by decide)];exact⟨λ h=>by omega,λ h=>by cases h⟩
def qpu(a:aa aN):Ev (λ m _=>Ek m a) (dc a):=by
 apply aB;simp only[qf1,Kj];refine ah (iN (T.mk 2 a 0 []) (by rw[cM];exact gP rfl)) (am ?_);rw[iX,aD,Uk a 0 (by decide)]
def qk4(l:aa (aa aN))(a:aa aN)(o:X l<2^62):Ev (λ m _=>Cr m l a) (J (a∈l)):=by
 have d:=aV (P:=λ i=>∃b:Int,Ev (λ m k=>sG m k l a (X l) i) b/\(0<=b↔a∈l.drop i)) l o
  (λ c=>⟨-1,aq (by
   simp only[JZ,yZ];exact ai c (au _)),Iv _ (by rw[bR];exact sq)⟩)
  (λ i x t j c g p ⟨b,q,f⟩=>by
   by_cases e:a=x
   .refine⟨i,aq ?_,⟨λ _=>by rw[j,e];exact aX ..,λ _=>by omega⟩⟩;simp only[JZ,yZ];exact ag c (al g (ag (cU.2 e) (au _)))
   .refine⟨b,aq ?_,?_⟩
    .simp only[JZ,yZ];refine ag c (al g (ai (di.2 e) ?_));rw[p];exact q
    .rw[f,j,bi];exact⟨.inr,λ h=>h.elim (λ s=>absurd s e) id⟩)
 let⟨b,r,n⟩:=d 0 (aG _);rw[bH]at n;apply aB;simp only[qda,JY];refine ah (a:=b) (aB ?_) (am ?_)
 .simp only[qdh,Cq];exact bd (L:=λ m k=>sG m k l a (X l) 0) r
 .rw[iX,gK,n,cV]
def kC(a:cO)(s:jn):Bool:=J (s.1=a.1)&&(J (X s.2=X a.2.1)&&qA [] s.2)
def LG(a:cO)(s:jn)(p:X s.2<=1000000:=by omega):Ev (λ m _=>zo m a s) (kC a s):=by
 apply aB;simp only[qfd,CS];unfold kC;refine av (λ h=>am (by rw[bv (aC.1 (bnt.1 h))];rfl)) λ h=>?_;rw[bg (aD.1 (bnf.1 h)),cv];refine av (λ h=>am (by have:=aC.1 (bnt.1 h);rw[bv (by omega)];rfl)) λ h=>?_;have:=aD.1 (bnf.1 h);rw[bg (show X s.2=X a.2.1 by omega),cv]
 have b:=aV (P:=λ i=>Ev (λ m k=>sO m k s.2 (X s.2) i s.1 s.2) (qA (s.2.take i) (s.2.drop i))) s.2 (by omega)
  (λ c=>aq (by
   simp only[Rq,CQ];exact ai c (am (by rw[bR];rfl))))
  (λ i x d l c j g n=>aq (by
   have f:=getElem?_lt d;simp only[Rq,CQ,Gr];rw[l,qA];refine ag c (al j (ah (qpu x) ?_));cases o:dc x with
   |false=>exact ag rfl (au _)
   |true=>
     refine ai rfl (ag (by unfold inb;rw[cV];omega) (ag (by unfold inb;rw[cV];omega) (ah (qk4 (s.2.take i) x (by rw[bj];omega)) ?_)));by_cases e:x∈s.2.take i
     .rw[bg e];exact ag rfl (au _)
     .rw[bv e,g];refine ai rfl (n.res ?_);rw[show s.2.take (i+1)=s.2.take i++[x] by rw[dN,d];rfl];rfl))
 exact bd (L:=λ m k=>sO m k s.2 (X s.2) 0 s.1 s.2) (b 0 (aG _))
def qlL(n:cO)(s:jn)(F:X s.2<=1000000:=by omega):Ev (λ m _=>Gf m n s) (kC n s):=by
 apply aB;simp only[qjD,EC];unfold kC;refine av (λ h=>am (by rw[bv (aC.1 (bnt.1 h))];rfl)) λ h=>?_;rw[bg (aD.1 (bnf.1 h)),cv];refine av (λ h=>am (by have:=aC.1 (bnt.1 h);rw[bv (by omega)];rfl)) λ h=>?_;have:=aD.1 (bnf.1 h);rw[bg (show X s.2=X n.2.1 by omega),cv]
 have o:=aV (P:=λ i=>Ev (λ m k=>(jZ m k).1 i s.1 s.2) (qA (s.2.take i) (s.2.drop i))) s.2 (by omega)
  (λ f=>aq (by
   simp only[S0,EF];exact ai f (am (by rw[bR];rfl))))
  (λ i x q B f r w D=>aq (by
   have v:=getElem?_lt q;simp only[S0,EF];rw[B,qA];refine ag f (al r (ah (U6 x) ?_));cases E:dc x with
   |false=>exact ag rfl (au _)
   |true=>
     apply ai rfl;have g:X (s.2.take i)=i:=by rw[bj];omega
     have k:=aV (P:=λ j=>x ∉ (s.2.take i).take j->Ev (λ m k=>(jZ m k).2 i j s.1 s.2) ((O && !J (x∈s.2.take i))&&qA (s.2.take i++[x]) (s.2.drop (i+1)))) (s.2.take i) (by omega)
      (λ f b=>aq (by
       simp only[SS,EU];rw[dg]at b;rw[g]at f |-
       apply ai f;rw[bv b,w];apply D.res;rw[show s.2.take (i+1)=s.2.take i++[x] by rw[dN,q];rfl];rfl))
      (λ j y c A l z u C b=>aq (by
       simp only[SS,EU];have t:=getElem?_lt c;have p:s.2[j]?=Z y:=by rw[fM]at c;split at c<;>first|exact c|cases c
       rw[g]at l;refine ag l (al (a:=y) (by rw[db];exact p) (al r ?_));by_cases e:y=x
       .refine ag (cU.2 e) (am ?_);rw[bg (e▸aK c)];rfl
       .apply ai (di.2 e);rw[u];apply C;rw[dN,c];intro d;obtain d|d:=aR.1 d
        .exact b d
        .simp at d;exact e d.symm))
     exact k 0 (aG _) (by simp)))
 exact bd (L:=λ m k=>(jZ m k).1 0 s.1 s.2) (o 0 (aG _))
def oc(n:Nat):aa aN:=if n<10 then[UInt8.ofNat (48+n)]else[UInt8.ofNat (48+n/10),UInt8.ofNat (48+n%10)]
def qoK(n:Nat):(List.range 100).all (λ i=>EX (n+8) (i:Int)==Z (oc i))=O:=by kernel_rfl
def qlR(n:Nat):(List.range 100).all (λ i=>Fh (n+8) (i:Int)==Z (oc i))=O:=by kernel_rfl
def qmD(i:Nat)(h:i<100):Ev (λ m _=>EX m (i:Int)) (oc i):=⟨8,λ m k a _=>by
 obtain⟨n,rfl⟩:∃n,m=n+8:=⟨m-8,by omega⟩
 exact eq_of_beq (bz.1 (qoK n) i (jS.2 h))⟩
def qmo(i:Nat)(h:i<100):Ev (λ m _=>Fh m (i:Int)) (oc i):=⟨8,λ m k a _=>by
 obtain⟨n,rfl⟩:∃n,m=n+8:=⟨m-8,by omega⟩
 exact eq_of_beq (bz.1 (qlR n) i (jS.2 h))⟩
def Wa(i:Nat):X (oc i)<=2:=by unfold oc;split<;>simp
def Hz{a b:aa aN}(h:X a+X b<=100000000):lg a b=O:=by
 unfold lg;rw[cV];have:IntKind.i64.max=9223372036854775807:=rfl;omega
def iG(a i:Nat):Nat:=if i=0 then a else if i<=a then i-1 else i
def cF(a:Nat)(b:aa (aa aN)):Nat->aa T->aa Bd
 |_,[]=>[]
 |i,x::r=>(x,T.mk 2 (b.getD (iG a i) []) 1 [])::cF a b (i+1) r
def frN(a:Nat)(x:T):aa aN:=x.name++[35]++oc a
def cq(a:Nat)(l:aa T):aa Bd:=l.map λ x=>(x,T.mk 2 (frN a x) x.sort [])
def cG:aa Bd->Bd->aa Bd
 |[],b=>[b]
 |p::r,b=>if aO b.1 p.1=-1 then b::p::r else p::cG r b
def Hd:∀(l:aa Bd) (b x:Bd),x∈cG l b↔x=b\/x∈l
 |[],b,x=>by simp[cG]
 |p::r,b,x=>by
   simp only[cG];split
   .rw[bi]
   .rw[bi,Hd r,bi];exact⟨λ h=>h.elim (λ h=>.inr (.inl h)) λ h=>h.elim .inl λ h=>.inr (.inr h),λ h=>h.elim (λ h=>.inr (.inl h)) λ h=>h.elim .inl λ h=>.inr (.inr h)⟩
def ML:∀(l:aa Bd) (b:Bd),iT l->(∀p∈l,p.1≠b.1)->iT (cG l b)
 |[],b,_,_=>qce _ _
 |p::r,b,h,d=>by
   let⟨f,g⟩:=mH.1 h;simp only[cG];split
   .next c=>exact mH.2 ⟨λ q a=>(bi.1 a).elim (λ e=>e▸c) λ a=>rh c (f q a),h⟩
   .rename_i c;refine mH.2 ⟨λ q a=>?_,ML r b g λ q a=>d q (aT _ a)⟩;obtain rfl|a:=(Hd r b q).1 a
    .obtain e|e|e:=GX p.1 q.1
     .exact e
     .exact absurd e (d p (aX ..))
     .exact absurd e c
    .exact f q a
def HJ:∀(l:aa Bd) (b:Bd),X (cG l b)=X l+1
 |[],b=>rfl
 |p::r,b=>by
   simp only[cG];split
   .rfl
   .rw[bE,HJ r,bE]
def vB:∀(l c:aa Bd),iT c->((c++l).map Prod.fst).Nodup->iT (l.foldl cG c)/\(∀x,x∈l.foldl cG c↔x∈c\/x∈l)/\X (l.foldl cG c)=X c+X l
 |[],c,h,_=>⟨h,λ x=>by simp,rfl⟩
 |b::l,c,h,i=>by
   have g:∀p∈c,p.1≠b.1:=λ p f e=>by
    rw[eK,B3]at i;exact i.2.2 p.1 (iY f) b.1 (by simp) e
   have d:((cG c b++l).map Prod.fst).Nodup:=by
    have f:∀(a:aa Bd),(cG a b).Perm (b::a):=λ a=>by
     induction a with
     |nil=>exact .refl _
     |cons p r j=>
       simp only[cG];split
       .exact .refl _
       .exact(List.Perm.cons p j).trans (List.Perm.swap b p r)
    have:((cG c b++l).map Prod.fst).Perm ((c++b::l).map Prod.fst):=by
     refine List.Perm.map _ (((f c).append_right l).trans ?_);exact(List.perm_middle (a:=b) (l₁:=c) (l₂:=l)).symm
    exact this.nodup_iff.2 i
   let⟨n,m,k⟩:=vB l (cG c b) (ML c b h g) d;refine⟨n,λ x=>?_,by rw[jP,k,HJ,bE];omega⟩;rw[jP,m,Hd,bi];exact⟨λ h=>h.elim (λ h=>h.elim (λ h=>.inr (.inl h)) .inl) λ h=>.inr (.inr h),λ h=>h.elim (λ h=>.inl (.inr h)) λ h=>h.elim (λ h=>.inl (.inl h)) .inr⟩
def Nb(s:aa Bd)(x t:T)(q:SmQ s)(w:size x<=100000)(y:size t<=100000)(j:x≠t):Ev (λ m _=>wR m s x t) (cG s (x,t)):=by
 have z:=q.1;have c:cg x t=Y:=by rw[oy,Ne,eL];exact j
 apply aB;simp only[qjY,EJ,ay];refine ah (lP x t) (ai c ?_)
 have done:=aV (P:=λ i=>∀a:aa Bd,X a<=10000+i->Ev (λ m k=>qQ m k s O i x.kind x.name x.sort x.kids t.kind t.name t.sort t.kids a) (a++s.drop i)) s (by omega)
  (λ b a _=>aq (by
   simp only[Es,wC,ay];refine ai b (ai rfl (am ?_));rw[bR,bK]))
  (λ i p e l b d f o a r=>aq (by
   have:=getElem?_lt e;simp only[Es,wC,ay];refine ag b (ai rfl (al d (ag (bI) ?_)));rw[f];refine(o (a++[p]) (by rw[aM,im];omega)).res ?_;rw[l,bA];rfl))
 have g:=aV (P:=λ i=>∀a:aa Bd,X a<=i->Ev (λ m k=>qQ m k s Y i x.kind x.name x.sort x.kids t.kind t.name t.sort t.kids a) (a++cG (s.drop i) (x,t))) s (by omega)
  (λ b a r=>aq (by
   simp only[Es,wC,ay];rw[show T.mk x.kind x.name x.sort x.kids=x from ay x,show T.mk t.kind t.name t.sort t.kids=t from ay t];refine ai b (ag rfl (ag (bI) (am ?_)));rw[bR];rfl))
  (λ i p e l b d f o a r=>aq (by
   have:=getElem?_lt e;let⟨v,u⟩:=q.2 p (aK e);simp only[Es,wC,ay];rw[show T.mk x.kind x.name x.sort x.kids=x from ay x,show T.mk t.kind t.name t.sort t.kids=t from ay t,l,cG];refine ag b (ag rfl (al d (ah (Lx x (by omega) p.1 (by omega)) ?_)));by_cases h:aO x p.1=-1
   .rw[af h];refine ag (by rw[h];rfl) (ag (bI) (al d (ag (bI (by rw[aM,im];omega)) ?_)));rw[f];refine(done (i+1) (by omega) ((a++[(x,t)])++[p]) (by simp only[aM,im];omega)).res ?_;simp
   .rw[ae h];have n:0<=aO x p.1:=by obtain h|h|h:=dV.rng x p.1<;>omega
    refine ai (ba.2 n) (al d (ag (bI) ?_));rw[f];refine(o (a++[p]) (by rw[aM,im];omega)).res ?_;simp))
 exact(bd (L:=λ m k=>qQ m k s Y 0 x.kind x.name x.sort x.kids t.kind t.name t.sort t.kids []) (g 0 (aG _) [] (aG _))).res (by rw[bH];rfl)
def pJ(a:Nat)(b:aa (aa aN)):∀(l:aa T) (i:Nat),X (cF a b i l)=X l
 |[],_=>rfl
 |x::l,i=>bB (· + 1) (pJ a b l (i+1))
def MH(a:Nat)(b:aa (aa aN)):∀(l:aa T) (i:Nat),(cF a b i l).map Prod.fst=l
 |[],_=>rfl
 |x::l,i=>bB (x :: ·) (MH a b l (i+1))
def WX(a:Nat)(l:aa T):(cq a l).map Prod.fst=l:=by
 unfold cq;rw[jQ];exact List.map_id'' (λ _=>rfl) l
def Nq(a:aa aN)(so:Int):size (T.mk 2 a so [])=1:=by rw[cM];rfl
def MB(b:Nat)(d:aa (aa aN)):∀(l:aa T) (i:Nat),∀p∈cF b d i l,p.1∈l/\∃a so,p.2=T.mk 2 a so []
 |[],_,p,c=>by cases c
 |x::l,i,p,c=>by
   obtain rfl|c:=bi.1 c
   .exact⟨aX ..,_,_,rfl⟩
   .let⟨f,e⟩:=MB b d l (i+1) p c;exact⟨aT _ f,e⟩
def Xj{b:Nat}{l:aa T}:∀p∈cq b l,p.1∈l/\∃a so,p.2=T.mk 2 a so []:=λ p c=>by
 obtain⟨x,d,rfl⟩:=bF.1 c;exact⟨d,_,_,rfl⟩
def dw(b:cO)(s:jn)(a:Nat):aa Bd×Int:=
 if(b.2.2.1.any λ x=>J (24<X (frN a x)))=O then([],3)else((cF b.1.toNat s.2 0 b.2.1++cq a b.2.2.1).foldl cG [],0)
def NE(x:T)(a:aa aN)(l:aa Bd)(b:X l<=100000:=by omega):Ev (λ m _=>wn m x a l) ((l++[(x,T.mk 2 a x.sort [])],()),()):=by
 apply aB;simp only[qdJ,J4,ay];exact ag (bI) (au _)
structure vF (mc:cO) (s:jn):Prop where
 p:SmL 6 mc.2.1
 f:SmL 6 mc.2.2.1
 nd:(mc.2.1++mc.2.2.1).Nodup
 k:∀x∈mc.2.1++mc.2.2.1,x.kind=1
 so:∀x∈mc.2.1,x.sort=1
 r0:0<=mc.1
 r1:mc.1<mc.2.1.length
 l:s.2.length=mc.2.1.length
 nm:∀x∈mc.2.2.1,x.name.length<=1000000
def IY{a:cO}{s:jn}(h:vF a s)(b:Nat):(([]++(cF a.1.toNat s.2 0 a.2.1++cq b a.2.2.1):aa Bd).map Prod.fst).Nodup:=by
 rw[eZ,eK,MH,WX];exact h.nd
def OA{b:cO}{s:jn}(h:vF b s)(d:Nat):∀p∈cF b.1.toNat s.2 0 b.2.1++cq d b.2.2.1,size p.1<=100000/\size p.2<=100000:=λ p c=>by
 have e:(p.1∈b.2.1\/p.1∈b.2.2.1)/\∃a so,p.2=T.mk 2 a so []:=by
  obtain c|c:=aR.1 c
  .have:=MB _ _ _ _ p c;exact⟨.inl this.1,this.2⟩
  .have:=Xj p c;exact⟨.inr this.1,this.2⟩
 let⟨i,a,so,g⟩:=e;rw[g,Nq];have:size p.1<=1000:=i.elim (h.p.2 p.1) (h.f.2 p.1);omega
def qns(a:aa (aa aN))(r i:Nat)(c:r<X a)(d:0<i:=by omega)(b:i<X a:=by omega):(a.take r++a.drop (r+1))[i-1]?=Z (a.getD (iG r i) []):=by
 unfold iG;rw[ifN];by_cases h:i<=r
 .rw[af h,dq (by rw[bj];omega),vR (by omega),dz,aS (by omega)];rfl
 .rw[ae h,ej (by rw[bj];omega),iJ,bj,jR (by omega),show r+1+(i-1-r)=i by omega,dz,aS b];rfl
def Wu(E:cO)(s:jn)(c:Nat)(hn:c<100)(h:vF E s):Ev (λ m _=>tw m E s c) (dw E s c):=by
 have n:=IY h c;have t:=OA h c;let⟨o,P,e,B⟩:=E;let⟨W,b⟩:=s;let⟨C,S,ad,hk,q,K,r1,hl,u⟩:=h;have C:SmL 6 P:=C;have S:SmL 6 e:=S;have q:∀x∈P,x.sort=1:=q;have K:0<=o:=K;have r1:o<(X P:Int):=r1;have hl:X b=X P:=hl;have u:∀x∈e,X x.name<=1000000:=u;have h1:=C.1;have h2:=S.1;obtain⟨r,rfl⟩:=BY K;have D:r<X b:=by omega
 unfold dw;show Ev _ (if(e.any λ x=>J (24<X (frN c x)))=O then([],3)else((cF r b 0 P++cq c e).foldl cG [],0));have n:(([]++(cF r b 0 P++cq c e):aa Bd).map Prod.fst).Nodup:=n;have t:∀p∈cF r b 0 P++cq c e,size p.1<=100000/\size p.2<=100000:=t;let⟨g1,g2,g3⟩:=vB (cF r b 0 P++cq c e) [] List.Pairwise.nil n;have an:X (cF r b 0 P++cq c e)<=12:=by rw[aM,pJ];unfold cq;rw[bO];omega
 let⟨w,e1,e2,e3⟩:=YB (cF r b 0 P++cq c e) [] (by rw[eJ];omega) (λ p C=>by rw[bK]at C;have:=(t p C).1;omega) (by rw[bK];rwa [eZ]at n);rw[bK]at e2;have hw:w=(cF r b 0 P++cq c e).foldl cG []:=MQ _ _ e3 g1 λ x=>by rw[e2.mem_iff,g2];simp
 rw[hw]at e1
 have kf:=aV (P:=λ i=>∀d:aa Bd,d=cF r b 0 P++cq c (e.take i)->Ev (λ m k=>(jV m k).2 c e (X e) i d) (if((e.drop i).any λ x=>J (24<X (frN c x)))=O then([],3)else((cF r b 0 P++cq c e).foldl cG [],0))) e (by omega)
  (λ v d g=>aq (by
   simp only[RH,Dl,ay];rw[dg]at g;rw[bR,g];exact ai v (ah e1 (au _))))
  (λ i x A hd v R F G d g=>aq (by
   have ar:=u x (aK A);have az:=Wa c;simp only[RH,Dl,ay];rw[hd,vX];have I:lg x.name [35]=O:=Hz (by rw[im];omega);have H:lg (x.name++[35]) (oc c)=O:=Hz (by rw[aM,im];omega);refine ag v (al R (ag I (ah (qmD c hn) (ag H ?_))));refine av (λ h=>?_) λ h=>?_
   .rw[aY]at h;rw[bg (show 24<X (frN c x) by unfold frN;omega)];exact au _
   .rw[ba]at h;rw[bv (show ¬ 24<X (frN c x) by unfold frN;omega),pi]
    have N:X d<=100:=by
     rw[g,aM,pJ];unfold cq;rw[bO,bj];omega
    apply ah (NE x _ d);rw[F];apply G _;rw[g,dN,A];unfold cq;simp[frN]))
 have kp:=aV (P:=λ i=>∀d:aa Bd,d=(cF r b 0 P).take i->Ev (λ m k=>(jV m k).1 c P (X P) i (r:Int) P e B W b d (b.take r++b.drop (r+1))) (if(e.any λ x=>J (24<X (frN c x)))=O then([],3)else((cF r b 0 P++cq c e).foldl cG [],0))) P (by omega)
  (λ v d g=>aq (by
   simp only[R4,Dm,ay];refine ai v ((kf 0 (aG _) d ?_).res (by rw[bH]));rw[g,qE (by rw[pJ];exact ak _)];unfold cq;simp))
  (λ i x A hd v R F G d g=>aq (by
   have ax:=getElem?_lt A;have M:=q x (aK A);have N:X d<=100:=by rw[g,bj,pJ];omega
   have f:d++[(x,T.mk 2 (b.getD (iG r i) []) x.sort [])]=(cF r b 0 P).take (i+1):=by
    rw[g,dN,M]
    have:∀(l:aa T) (j k:Nat) (y:T),l[k]?=Z y->(cF r b j l)[k]?=Z (y,T.mk 2 (b.getD (iG r (j+k)) []) 1 []):=λ l=>by
     induction l with
     |nil=>intro j k y h;simp at h
     |cons z l ih=>
       intro j k y h;cases k with
       |zero=>simp at h;subst h;rfl
       |succ k=>
         have:=ih (j+1) k y (by simpa using h);rw[show j+1+k=j+(k+1) by omega]at this;exact this
    rw[this P 0 i x A,bS];rfl
   simp only[R4,Dm,ay];refine ag v (al R ?_);by_cases Q:i=0
   .refine ag (aD.2 (by omega)) (al (a:=b.getD (iG r i) []) ?_ (ah (NE x _ d) ?_))
    .rw[db,Q];unfold iG;rw[af rfl,dz,aS D];rfl
    .rw[F];exact G _ f
   .refine ai (aC.2 (by omega)) (al (a:=b.getD (iG r i) []) ?_ (ah (NE x _ d) ?_))
    .rw[show eT (i:Int) 1=((i-1:Nat):Int) by unfold eT;omega,dA,db];exact qns b r i D
    .rw[F];exact G _ f))
 apply aB;simp only[qgT,Dr,ay]
 have c1:pt 0 b=Z ((),b,()):=by
  unfold pt;rw[show Nat.ble (X b) 100000000=O from pj (by omega)];rfl
 have c2:wk 0 b (r:Int) (iw .i64 (aw (r:Int) 1))=Z ((),b.take r++b.drop (r+1),()):=by
  rw[show aw (r:Int) 1=((r+1:Nat):Int)from by unfold aw;omega,dA];unfold wk;rw[show inb ((r+1:Nat):Int) (X b)=O from by unfold inb;rw[cV];omega,show inb (r:Int) (X b)=O from by unfold inb;rw[cV];omega,show ieq ((r+1:Nat):Int) (aw (r:Int) 1)=O from aD.2 (by unfold aw;omega),show Nat.ble (X b) 100000=O from pj (by omega),jT];rfl
 refine al c1 (al c2 ?_);exact bd (L:=λ m k=>(jV m k).1 c P (X P) 0 (r:Int) P e B W b [] (b.take r++b.drop (r+1))) (kp 0 (aG _) [] rfl)
def qoJ(M:cO)(s:jn)(b:Nat)(hn:b<100)(h:vF M s):Ev (λ m _=>Ez m M s b) (dw M s b):=by
 have o:=IY h b;have v:=OA h b;let⟨q,P,f,B⟩:=M;let⟨sr,c⟩:=s;let⟨C,N,ax,hk,aE,S,r1,hl,w⟩:=h;have C:SmL 6 P:=C;have N:SmL 6 f:=N;have hk:∀x∈P++f,x.kind=1:=hk;have S:0<=q:=S;have r1:q<(X P:Int):=r1;have hl:X c=X P:=hl;have w:∀x∈f,X x.name<=1000000:=w;have h1:=C.1;have h2:=N.1;obtain⟨r,rfl⟩:=BY S;have a0:r<X c:=by omega
 unfold dw;show Ev _ (if(f.any λ x=>J (24<X (frN b x)))=O then([],3)else((cF r c 0 P++cq b f).foldl cG [],0));have o:(([]++(cF r c 0 P++cq b f):aa Bd).map Prod.fst).Nodup:=o;have v:∀p∈cF r c 0 P++cq b f,size p.1<=100000/\size p.2<=100000:=v
 have sm:∀l l':aa Bd,cF r c 0 P++cq b f=l++l'->SmQ (l.foldl cG [])/\X (l.foldl cG [])<=12:=λ l l' e=>by
  rw[eZ,e,eK,B3]at o;let⟨g1,g2,g3⟩:=vB l [] List.Pairwise.nil (by rw[eZ];exact o.1);have G:X (cF r c 0 P++cq b f)<=12:=by rw[aM,pJ];unfold cq;rw[bO];omega
  rw[e,aM]at G;rw[eJ,bS]at g3;refine⟨⟨by omega,λ p C=>v p ?_⟩,by omega⟩;rw[e];exact nC _ (((g2 p).1 C).elim (λ h=>by cases h) id)
 have u:∀(a:aa aN) (so:Int),Ev (λ m _=>uq m a so) (T.mk 2 a so []):=λ a so=>aB (B5 (au _) λ _ _=>rfl)
 have E:∀x∈P++f,∀(a:aa aN) (so:Int),x≠T.mk 2 a so []:=λ x t a so e=>by
  have:=hk x t;rw[e]at this;cases this
 have kf:=aV (P:=λ i=>∀d:aa Bd,d=(cF r c 0 P++cq b (f.take i)).foldl cG []->Ev (λ m k=>(jW m k).2 b d i (r:Int) P f B) (if((f.drop i).any λ x=>J (24<X (frN b x)))=O then([],3)else((cF r c 0 P++cq b f).foldl cG [],0))) f (by omega)
  (λ A d n=>aq (by
   simp only[R6,Dh,ay];rw[dg]at n;rw[bR,n];exact ai A (au _)))
  (λ i x t hd A K hi hP d n=>aq (by
   have g:=aK t;have az:=w x g;have ad:=N.2 x g;have a2:=Wa b
   have an:cF r c 0 P++cq b f=(cF r c 0 P++cq b (f.take i))++cq b (f.drop i):=by
    rw[bA];unfold cq;rw[<-eK,ot]
   let⟨D,s2⟩:=sm _ _ an;rw[<-n]at D;simp only[R6,Dh,ay];rw[hd,vX];have R:lg x.name [35]=O:=Hz (by rw[im];omega);have Q:lg (x.name++[35]) (oc b)=O:=Hz (by rw[aM,im];omega);refine ag A (al K (ag R (ah (qmo b hn) (ag Q ?_))));refine av (λ h=>?_) λ h=>?_
   .rw[aY]at h;rw[bg (show 24<X (frN b x) by unfold frN;omega)];exact au _
   .rw[ba]at h;rw[bv (show ¬ 24<X (frN b x) by unfold frN;omega),pi];refine al K (al K (ah (u _ _) (ah (Nb d x _ D (by omega) (by rw[Nq];omega) (E x (nA _ g) _ _)) ?_)));rw[hi];apply hP _;rw[n,dN,t];unfold cq;simp[frN]))
 have W:∀(l:aa T) (j k:Nat) (y:T),l[k]?=Z y->(cF r c j l)[k]?=Z (y,T.mk 2 (c.getD (iG r (j+k)) []) 1 []):=λ l=>by
  induction l with
  |nil=>intro j k y h;simp at h
  |cons z l ih=>
    intro j k y h;cases k with
    |zero=>simp at h;subst h;rfl
    |succ k=>
      have:=ih (j+1) k y (by simpa using h);rw[show j+1+k=j+(k+1) by omega]at this;exact this
 have kp:=aV (P:=λ i=>∀d:aa Bd,d=((cF r c 0 P).take i).foldl cG []->Ev (λ m k=>(jW m k).1 b d i (r:Int) P f B sr c) (if(f.any λ x=>J (24<X (frN b x)))=O then([],3)else((cF r c 0 P++cq b f).foldl cG [],0))) P (by omega)
  (λ A d n=>aq (by
   simp only[RX,Dw,ay];refine ai A ((kf 0 (aG _) d ?_).res (by rw[bH]));rw[n,qE (by rw[pJ];exact ak _)];unfold cq;simp))
  (λ i x t hd A K hi hP d n=>aq (by
   have a1:=getElem?_lt t;have g:=aK t;have ad:=C.2 x g;let⟨D,s2⟩:=sm ((cF r c 0 P).take i) ((cF r c 0 P).drop i++cq b f) (by rw[<-bA,ot]);rw[<-n]at D;simp only[RX,Dw,ay]
   have F:Ev (λ m _=>FJ m ((r:Int),(P,(f,B))) (i:Int)) ((iG r i:Nat):Int):=by
    apply aB;simp only[qis,KK];unfold iG;by_cases I:i=0
    .rw[af I];exact ag (aD.2 (by omega)) (au _)
    .rw[ae I];apply ai (aC.2 (by omega));by_cases H:i<=r
     .rw[af H];refine ag (gK.2 (by omega)) (am ?_);rw[show eT (i:Int) 1=((i-1:Nat):Int) by unfold eT;omega,dA]
     .rw[ae H];exact ai (li.2 (by omega)) (au _)
   have ar:iG r i<X c:=by unfold iG;split<;>(try split)<;>omega
   refine ag A (al K (ah F (al (a:=c.getD (iG r i) []) ?_ (ah (u _ _) (ah (Nb d x _ D (by omega) (by rw[Nq];omega) (E x (nC _ g) _ _)) ?_)))))
   .rw[db,dz,aS ar];rfl
   .rw[hi];apply hP _;rw[n,dN,W P 0 i x t,bS];simp))
 apply aB;simp only[qgn,Du];exact bd (L:=λ m k=>(jW m k).1 b [] 0 (r:Int) P f B sr c) (kp 0 (aG _) [] rfl)
def sbE:ab T->aa Bd->Int
 |_,[]=>0
 |q,p::r=>if aW p.1≠0 then aW p.1 else if p.1.kind≠1\/p.1=p.2 then 1 else if aW p.2≠0 then aW p.2 else if oV p.1 p.2=Y then 10 else if(∀y,q=Z y->aO y p.1=-1)then sbE (Z p.1) r else 5
def qAt(l:aa Bd)(i:Nat):ab T:=if i=0 then U else(l[i-1]?).map Prod.fst
def WS{l:aa Bd}{i:Nat}{p:Bd}(h:l[i]?=Z p):qAt l (i+1)=Z p.1:=by
 unfold qAt;rw[ifN,qb5,h];rfl
def sbV(l:aa Bd):Int:=if 200<X l then 3 else sbE U l
def XD:∀(l:aa Bd) (q:ab T),sbE q l=0->iT l/\(∀y,q=Z y->∀p∈l,aO y p.1=-1)/\∀p∈l,p.1.kind=1
 |[],_,_=>⟨List.Pairwise.nil,λ _ _ p b=>(by cases b),λ p b=>(by cases b)⟩
 |p::r,q,h=>by
   simp only[sbE]at h;split at h
   .next g=>exact absurd h g
   split at h
   .cases h
   rename_i i;split at h
   .next g=>exact absurd h g
   split at h
   .cases h
   split at h
   .rename_i d;let⟨k,f,j⟩:=XD r (Z p.1) h;refine⟨mH.2 ⟨λ x a=>f p.1 rfl x a,k⟩,λ y c x a=>?_,λ x a=>?_⟩
    .obtain rfl|a:=bi.1 a
     .exact d y c
     .exact rh (d y c) (f p.1 rfl x a)
    .obtain rfl|a:=bi.1 a
     .exact QU.1 λ e=>i (.inl e)
     .exact j x a
   .cases h
def qjM(l:aa Bd)(o:SmQ l):Ev (λ m _=>wJ m l) (sbV l):=by
 have t:=o.1;apply aB;simp only[qjd,Eg];unfold sbV;refine av (λ h=>am (by rw[aY]at h;rw[ifP])) λ h=>?_;rw[ba]at h;rw[ifN]
 have j:=aV (P:=λ i=>Ev (λ m k=>tD m k l l (X l) i) (sbE (qAt l i) (l.drop i))) l (by omega)
  (λ r=>aq (by
   simp only[Sr,D7];exact ai r (am (by rw[bR];rfl))))
  (λ i p f z r x w s=>aq (by
   let⟨G,F⟩:=o.2 p (aK f);simp only[Sr,D7,ay];rw[z,sbE];refine ag r (al x (ah (iN p.1) (av (λ h=>am (by rw[af (aC.1 (bnt.1 h))])) λ E=>?_)));rw[ae (λ g=>g (aD.1 (bnf.1 E)))];refine av (λ h=>am (by rw[af (.inl (aC.1 (bnt.1 h)))])) λ D=>?_;have u:=aD.1 (bnf.1 D);refine ah (mM p.1 (by omega) p.2 (by omega)) (av (λ h=>am (by rw[af (.inr (mQ _ _ (aD.1 h)))])) λ C=>?_);rw[ae (λ g=>g.elim (λ e=>e u) λ e=>aC.1 C (by rw[e];exact nG _))];refine ah (iN p.2) (av (λ h=>am (by rw[af (aC.1 (bnt.1 h))])) λ B=>?_);rw[ae (λ g=>g (aD.1 (bnf.1 B)))];refine ah (W3 p.1 p.2) (av (λ h=>am (by rw[af (bnt.1 h)])) λ A=>?_);rw[ae (λ g=>by rw[bnf.1 A]at g;cases g),w];by_cases d:i=0
   .refine ai (ba.2 (by omega)) (s.res ?_);rw[af (λ y b=>by rw[d]at b;cases b),WS f]
   .have v:=getElem?_lt f;obtain⟨q,n⟩:∃q,l[i-1]?=Z q:=⟨_,aS (by omega)⟩
    let⟨I,H⟩:=o.2 q (aK n);have c:qAt l i=Z q.1:=by unfold qAt;rw[ae d,n];rfl
    refine ag (aY.2 (by omega)) (al (a:=q) (by rw[show eT (i:Int) 1=((i-1:Nat):Int) by unfold eT;omega,dA,db];exact n) (ah (mM q.1 (by omega) p.1 (by omega)) (av (λ h=>am ?_) λ h=>s.res ?_)))
    .rw[gK]at h;rw[ae λ g=>by have:=g q.1 c;omega]
    .rw[li]at h;rw[af λ y b=>?_,WS f];rw[c]at b;cases b;obtain e|e|e:=dV.rng q.1 p.1<;>omega))
 exact(bd (L:=λ m k=>tD m k l l (X l) 0) (j 0 (aG _))).res (by rw[bH];rfl)
def VW:∀(r:aa eU) (f:Bool),(∀b∈r,SmB b)->∀x∈ll f r,size x<=1000000000
 |[],_,_,x,c=>by cases c
 |b::r,f,h,x,c=>by
   have g:∀t:T,size t<=1000000000->∀y∈bo t,size y<=1000000000:=λ t l y i=>by have:=wU 1 t y ((mR t y).1 i);omega
   simp only[ll]at c;obtain c|c:=aR.1 c
   .have d:=h b (aX ..);unfold lm at c;obtain c|c:=aR.1 c
    .split at c
     .cases c
     .exact g _ d.1 x c
    .let⟨vs,k,e⟩:=mI.1 c;obtain⟨a,j,rfl⟩:=bF.1 k;unfold bY at e;split at e
     .exact g _ (d.2.2 a j).2.1 x e
     .cases e
   .exact VW r Y (λ b d=>h b (aT _ d)) x c
def qqR{c:cO}(d:SmL 6 c.2.1)(e:SmL 6 c.2.2.1)(f:∀b∈c.2.2.2,SmB b)(n:Nat):∀x∈(dX c n).1,size x<=1000000000:=λ x a=>by
 unfold dX oY at a;split at a
 .rw[AB]at a;obtain a|a:=aR.1 a
  .obtain a|a:=aR.1 a
   .have:=d.2 x a;omega
   .have:=e.2 x a;omega
  .exact VW _ _ (λ b h=>f b (fY h)) x a
 .cases a
def XU:∀(l:aa Bd) (q:ab T),sbE q l=0->∀p∈l,aW p.2=0
 |[],_,_,p,c=>by cases c
 |p::r,q,h,x,a=>by
   simp only[sbE]at h;split at h
   .next g=>exact absurd h g
   split at h
   .cases h
   split at h
   .next g=>exact absurd h g
   rename_i b;split at h
   .cases h
   split at h
   .obtain rfl|a:=bi.1 a
    .exact QU.1 b
    .exact XU r _ h x a
   .cases h
def vsz{t:T}(h:aW t=0):size t<=400:=by
 unfold aW at h;split at h
 .next g=>exact absurd h g
 .split at h
  .cases h
  .omega
def V3(t:T):X (bo t)=0↔oJ t=O:=by
 unfold oJ;rw[pg];constructor
 .intro h;have h:=cR h;cases e:bP 1 t with
  |nil=>rfl
  |cons y ys=>
    have:y∈bo t:=(mR t y).2 (by rw[e];exact aX ..);rw[h]at this;cases this
 .intro h;cases e:bo t with
  |nil=>rfl
  |cons y ys=>
    have:y∈bP 1 t:=(mR t y).1 (by rw[e];exact aX ..);rw[h]at this;cases this
def lpB:aa Bd->aa T->Bool
 |p::l,x::B=>(cg p.1 x&&(oJ p.2&&uU p.2))&&lpB l B
 |_,_=>O
def gtB(l I:aa Bd):Bool:=I.all λ p=>(lkA l p.1).isSome&&cg ((lkA l p.1).getD p.1) p.2
def MV{l:aa Bd}{p:Bd}{r:aa Bd}:gtB l (p::r)=(((lkA l p.1).isSome&&cg ((lkA l p.1).getD p.1) p.2)&&gtB l r):=by unfold gtB;rw[dy]
def NC{a:cO}{s:jn}(j:SmM a)(h:jH a=0)(i:kC a s=O):vF a s:=by
 let⟨e,v,u,m,q,t,r,l⟩:=A1 h;rw[aJ]at e;have d:=H6 _ _ e.1 lC;rw[eZ]at d;have k:=My _ _ e.1;have c:=LY a.2.2.1 a.2.1 0;rw[bS,e.2]at c;have c:=c.symm;rw[aJ]at c;unfold kC at i;rw[aJ,aJ]at i
 exact⟨j.p,j.f,d,λ x b=>(k x b).1,λ x b=>by have:=bz.1 c.1 x b;exact bG this,m,l,bG i.2.1,λ x b=>by
  let⟨o,n⟩:=k x (nA _ b);have:=(LA (TQ n)).1;unfold fI na at this;rw[af (.inl o)]at this;split at this
  .cases this
  .cases g:dc x.name with
   |false=>rw[g]at this;cases this
   |true=>
     unfold dc at g;simp only[aJ,cV]at g;omega⟩
abbrev StV:=jn×(Int×(Int×(Int×(Int×aa Bd))))
def mh(a:cO)(s:StV):Prop:=0<=s.2.1/\s.2.1<=99/\0<=s.2.2.2.2.1/\1<=s.2.2.1/\s.2.2.1<=X a.2.2.2/\1<=s.2.2.2.1/\s.2.2.2.1<=3/\(s.2.2.1=X a.2.2.2↔s.2.2.2.1=2)
instance (a:cO)(s:StV):Decidable (mh a s):=by unfold mh;infer_instance
def qt(a:cO)(s:StV):Int:=
 if lpB s.2.2.2.2.2 (dX a s.2.2.1.toNat).1=O then if gtB s.2.2.2.2.2 (dw a s.1 s.2.1.toNat).1=O then 0 else 1 else 1
def Jl(a:cO)(s:StV):Int:=
 if jH a≠0 then jH a else if kC a s.1=Y then 1 else if ¬ mh a s then 1 else if sbV s.2.2.2.2.2≠0 then 1 else if(dw a s.1 s.2.1.toNat).2≠0 then 1 else if(dX a s.2.2.1.toNat).1.length≠X s.2.2.2.2.2 then 1 else qt a s
def qqq{d:cO}{s:jn}(h:vF d s)(c:Nat):(dw d s c).1.length<=100/\∀p∈(dw d s c).1,(size p.1<=100000/\size p.2<=100000)/\p.1≠p.2:=by
 unfold dw;split
 .exact⟨aG _,λ p g=>by cases g⟩
 .let⟨_,n,m⟩:=vB (cF d.1.toNat s.2 0 d.2.1++cq c d.2.2.1) [] List.Pairwise.nil (IY h c);refine⟨?_,λ p g=>?_⟩
  .have a:=h.p.1;have b:=h.f.1;have e:X (cq c d.2.2.1)=X d.2.2.1:=by unfold cq;rw[bO]
   rw[m,aM,pJ,e,eJ];omega
  .have g:p∈cF d.1.toNat s.2 0 d.2.1++cq c d.2.2.1:=((n p).1 g).resolve_left (by simp);refine⟨OA h c p g,?_⟩
   have i:(p.1∈d.2.1\/p.1∈d.2.2.1)/\∃a so,p.2=T.mk 2 a so []:=by
    obtain g|g:=aR.1 g
    .have:=MB _ _ _ _ p g;exact⟨.inl this.1,this.2⟩
    .have:=Xj p g;exact⟨.inr this.1,this.2⟩
   let⟨l,a,so,j⟩:=i;have:=h.k p.1 (aR.2 l);intro e;rw[e,j]at this;cases this
def qa3{a b:Bool}:ap (dj a b)=O↔a≠b:=by cases a<;>cases b<;>simp[ap,dj]
def qri(d:cO)(s:StV)(w:SmQ s.2.2.2.2.2)(f:sbV s.2.2.2.2.2=0)(M:vF d s.1)(R:∀x∈(dX d s.2.2.1.toNat).1,size x<=1000000000)(r:(dX d s.2.2.1.toNat).1.length=X s.2.2.2.2.2):
  Ev (λ m _=>(iq m m).1 (dX d s.2.2.1.toNat).1 (dw d s.1 s.2.1.toNat).1 s.2.2.2.2.2 (X s.2.2.2.2.2) 0 s.1.1 s.1.2 s.2.1 s.2.2.1 s.2.2.2.1 s.2.2.2.2.1 s.2.2.2.2.2) (qt d s):=by
 unfold qt;let⟨S,F⟩:=qqq M s.2.1.toNat;let⟨⟨g,h⟩,c,n,C,b,l⟩:=s;have w:SmQ l:=w;have f:sbV l=0:=f;show Ev (λ m _=>(iq m m).1 (dX d n.toNat).1 (dw d (g,h) c.toNat).1 l (X l) 0 g h c n C b l) _;have r:(dX d n.toNat).1.length=X l:=r;have R:∀x∈(dX d n.toNat).1,size x<=1000000000:=R;show Ev _ (if lpB l (dX d n.toNat).1=O then if gtB l (dw d (g,h) c.toNat).1=O then 0 else 1 else 1)
 replace S:(dw d (g,h) c.toNat).1.length<=100:=S
 replace F:∀p∈(dw d (g,h) c.toNat).1,(size p.1<=100000/\size p.2<=100000)/\p.1≠p.2:=F
 generalize (dX d n.toNat).1=B at *;generalize (dw d (g,h) c.toNat).1=I at *;have ad:=w.1
 have z:sbE U l=0:=by
  unfold sbV at f;split at f
  .cases f
  .exact f
 have ha:=(XD l U z).1;have W:=XU l U z
 have gM:=aV (P:=λ j=>Ev (λ m k=>(iq m k).2 I (X I) j g h c n C b l) (if gtB l (I.drop j)=O then 0 else 1)) I (by omega)
  (λ u=>aq (by
   simp only[RQ,Dv];exact ai u (am (by rw[bR];rfl))))
  (λ j p t N u K hj Q=>aq (by
   let⟨⟨D,T⟩,_⟩:=F p (aK t)
   have z3:size ((lkA l p.1).getD p.1)<=100000:=by
    cases e:lkA l p.1 with
    |none=>exact D
    |some v=>
      unfold lkA at e;cases o:l.find? (λ q=>cg q.1 p.1)with
      |none=>rw[o]at e;cases e
      |some q=>rw[o]at e;cases e;exact(w.2 q (qcc o)).2
   simp only[RQ,Dv,ay];rw[N];refine ag u (al K (ah (NG ha w p.1 D) ?_));obtain e|e:=qsq (lkA l p.1).isSome
   .refine ai (bnf.2 e) (ah (Nm ((lkA l p.1).getD p.1) p.2) ?_);obtain o|o:=qsq (cg ((lkA l p.1).getD p.1) p.2)
    .rw[hj];exact ai (bnf.2 o) (Q.res (by rw[MV,e,o];rfl))
    .exact ag (bnt.2 o) (am (by rw[MV,e,o];rfl))
   .exact ag (bnt.2 e) (am (by rw[MV,e];rfl))))
 have y:∀p∈l,size p.2<=400:=λ p t=>vsz (W p t)
 .have E:=aV (P:=λ i=>Ev (λ m k=>(iq m k).1 B I l (X l) i g h c n C b l) (if lpB (l.drop i) (B.drop i)=O then if gtB l I=O then 0 else 1 else 1)) l (by omega)
    (λ u=>aq (by
     simp only[RM,Dp];rw[bR];exact ai u ((gM 0 (aG _)).res (by rw[bH];rfl))))
    (λ i p t N u K hi Q=>aq (by
     have an:=getElem?_lt t;obtain⟨x,H⟩:∃x,B[i]?=Z x:=⟨_,aS (by omega)⟩
     have G:B.drop i=x::B.drop (i+1):=by
      rw[yP (by omega),(ft.1 H).2]
     have D:=(w.2 p (aK t)).1;have T:=y p (aK t);simp only[RM,Dp,ay];rw[N,G,lpB];refine ag u (al K (al (a:=x) (by rw[db];exact H) (ah (Nm p.1 x (by omega) (R x (aK H))) ?_)));cases cg p.1 x with
     |false=>exact ag rfl (am rfl)
     |true=>
       refine ai rfl (ah (AE p.2) ?_);cases A:oJ p.2 with
       |false=>exact ag (aY.2 (by have:=(not_congr (V3 p.2)).2 (by rw[A];decide);omega)) (am rfl)
       |true=>
         refine ai (ba.2 (by have:=(V3 p.2).2 A;omega)) (ah (qny p.2) ?_);cases uU p.2 with
         |false=>exact ag rfl (am rfl)
         |true=>rw[hi];exact ai rfl (Q.res (by simp only[cv]))))
  exact(bd (L:=λ m k=>(iq m k).1 B I l (X l) 0 g h c n C b l) (E 0 (aG _))).res (by rw[bH,bH])
def qo4(c:cO)(s:StV)(i:SmM c)(L:X s.1.2<=1000000)(M:SmQ s.2.2.2.2.2):
  Ev (λ m _=>tz m c s) (Jl c s):=by
 unfold Jl;by_cases k:jH c=0
 case neg=>
  rw[af k];exact aB (by simp only[Ky,wv];exact ah (Gz c i) (ag (bnt.2 (aC.2 k)) (au _)))
 rw[ae (λ g=>g k)];have K:ap (ieq (jH c) 0)=Y:=bnf.2 (aD.2 k);by_cases d:kC c s.1=Y
 .rw[af d];exact aB (by simp only[Ky,wv];exact ah (Gz c i) (ai K (ah (LG c s.1 L) (ag (bnt.2 d) (au _)))))
 rw[ae d]
 have d:kC c s.1=O:=by cases e:kC c s.1 with
  |true=>rfl
  |false=>exact absurd e d
 have Q:ap (kC c s.1)=Y:=bnf.2 d;have u:=NC i k d;let⟨I,N,w3,w4⟩:=A1 k;rw[aJ]at I;have t:=H6 _ _ I.1 lC;rw[eZ]at t;let⟨S,R⟩:=GA N;have v:∀b∈c.2.2.2,SmB b:=λ b d=>i.b b d (R b d)
 have o:mh c s->Ev (λ m _=>ac (wJ m s.2.2.2.2.2) λ E=>cond (ap (ieq E 0)) (Z 1) (ac (tp m c s.2.2.1) λ n=>ac (tw m c s.1 s.2.1) λ l=>cond (ap (ieq l.2 0)) (Z 1)
   (cond (ap (ieq (X n.1) (X s.2.2.2.2.2))) (Z 1) ((iq m m).1 n.1 l.1 s.2.2.2.2.2 (X s.2.2.2.2.2) 0 s.1.1 s.1.2 s.2.1 s.2.2.1 s.2.2.2.1 s.2.2.2.2.1 s.2.2.2.2.2))))
   (if sbV s.2.2.2.2.2≠0 then 1 else if(dw c s.1 s.2.1.toNat).2≠0 then 1 else if(dX c s.2.2.1.toNat).1.length≠X s.2.2.2.2.2 then 1 else qt c s):=λ z=>by
  let⟨r1,r2,r3,r4,r5,r6,r7,r8⟩:=z;have e1:s.2.2.1=((s.2.2.1.toNat:Nat):Int):=by omega
  have e2:s.2.1=((s.2.1.toNat:Nat):Int):=by omega
  have D:=WU c i.p i.f t s.2.2.1.toNat (by omega) S v;have C:=Wu c s.1 s.2.1.toNat (by omega) u;rw[<-e1]at D;rw[<-e2]at C;have B:=qjM s.2.2.2.2.2 M;by_cases y:sbV s.2.2.2.2.2=0
  case neg=>
   rw[af y];refine ah B (ag (bnt.2 (aC.2 y)) (au _))
  rw[ae (λ g=>g y)];have j:ap (ieq (sbV s.2.2.2.2.2) 0)=Y:=bnf.2 (aD.2 y);by_cases A:(dw c s.1 s.2.1.toNat).2=0
  case neg=>
   rw[af A];exact ah B (ai j (ah D (ah C (ag (bnt.2 (aC.2 A)) (au _)))))
  rw[ae (λ g=>g A)];have x:ap (ieq (dw c s.1 s.2.1.toNat).2 0)=Y:=bnf.2 (aD.2 A);by_cases G:(dX c s.2.2.1.toNat).1.length=X s.2.2.2.2.2
  case neg=>
   rw[af G];exact ah B (ai j (ah D (ah C (ai x (ag (bnt.2 (aC.2 (by omega))) (au _))))))
  rw[ae (λ g=>g G)];have T:=qri c s M y u (qqR i.p i.f v _) G;exact ah B (ai j (ah D (ah C (ai x (ai (bnf.2 (aD.2 (by omega))) T)))))
 have H:¬ mh c s->(if ¬ mh c s then(1:Int)else if sbV s.2.2.2.2.2≠0 then 1 else if(dw c s.1 s.2.1.toNat).2≠0 then 1 else if(dX c s.2.2.1.toNat).1.length≠X s.2.2.2.2.2 then 1 else qt c s)=1:=λ h=>af h;have w:mh c s->(if ¬ mh c s then(1:Int)else if sbV s.2.2.2.2.2≠0 then 1 else if(dw c s.1 s.2.1.toNat).2≠0 then 1 else if(dX c s.2.2.1.toNat).1.length≠X s.2.2.2.2.2 then 1 else qt c s)=(if sbV s.2.2.2.2.2≠0 then 1 else if(dw c s.1 s.2.1.toNat).2≠0 then 1 else if(dX c s.2.2.1.toNat).1.length≠X s.2.2.2.2.2 then 1 else qt c s):=λ h=>ae (λ g=>g h);have no {P:Prop} (h:P) (W:P->¬ mh c s):(1:Int)=(if ¬ mh c s then(1:Int)else if sbV s.2.2.2.2.2≠0 then 1 else if(dw c s.1 s.2.1.toNat).2≠0 then 1 else if(dX c s.2.2.1.toNat).1.length≠X s.2.2.2.2.2 then 1 else qt c s):=(H (W h)).symm
 .apply aB;simp only[Ky,wv];refine ah (Gz c i) (ai K (ah (LG c s.1 L) (ai Q ?_)));refine av (λ h=>am (no (aY.1 h) λ h r=>by have:=r.1;omega)) λ h1=>?_;refine av (λ h=>am (no (aY.1 h) λ h r=>by have:=r.2.1;omega)) λ h2=>?_;refine av (λ h=>am (no (aY.1 h) λ h r=>by have:=r.2.2.1;omega)) λ h3=>?_;refine av (λ h=>am (no (aY.1 h) λ h r=>by have:=r.2.2.2.1;omega)) λ h4=>?_;refine av (λ h=>am (no (aY.1 h) λ h r=>by have:=r.2.2.2.2.1;omega)) λ h5=>?_;rw[ba]at h1 h2 h3 h4 h5
  have F:1<=s.2.2.2.1/\s.2.2.2.1<=3->_:=λ q=>show Ev (λ m _=>cond (ap (dj (ieq s.2.2.1 (X c.2.2.2)) (ieq s.2.2.2.1 2))) (Z 1) (ac (wJ m s.2.2.2.2.2) λ E=>cond (ap (ieq E 0)) (Z 1) (ac (tp m c s.2.2.1) λ n=>ac (tw m c s.1 s.2.1) λ l=>cond (ap (ieq l.2 0)) (Z 1)
   (cond (ap (ieq (X n.1) (X s.2.2.2.2.2))) (Z 1) ((iq m m).1 n.1 l.1 s.2.2.2.2.2 (X s.2.2.2.2.2) 0 s.1.1 s.1.2 s.2.1 s.2.2.1 s.2.2.2.1 s.2.2.2.2.1 s.2.2.2.2.2))))) _ from
   av (λ h=>am (no (qa3.1 h) λ h r=>h (by rw[iX,aD,aD];exact r.2.2.2.2.2.2.2))) λ h=>by
    have z:mh c s:=⟨by omega,by omega,by omega,by omega,by omega,q.1,q.2,by
     have:ieq s.2.2.1 (X c.2.2.2)=ieq s.2.2.2.1 2:=QU.1 λ e=>by rw[qa3.2 e]at h;cases h
     rw[iX,aD,aD]at this;exact this⟩
    rw[w z];exact o z
  refine av (λ h=>?_) λ h=>F (by have:=aD.1 (bnf.1 h);omega);refine av (λ h=>?_) λ h=>F (by have:=aD.1 (bnf.1 h);omega);refine av (λ h=>?_) λ h=>F (by have:=aD.1 (bnf.1 h);omega);next a b=>have a:=aC.1 (bnt.1 a);have b:=aC.1 (bnt.1 b);exact am (no (aC.1 (bnt.1 h)) λ h r=>by have:=r.2.2.2.2.2.1;have:=r.2.2.2.2.2.2.1;omega)
def OJ(t:T)(a:size t<=1000000000:=by omega):Ev (λ m _=>xG m t []) (t,0):=by
 apply aB;simp only[qnZ,FX];refine bd (L:=λ m k=>wX m k [] (X ([]:aa Int)) 0 t.kind t.name t.sort t.kids 0 [] 0 []) (aq ?_);simp only[qlD,LR,show T.mk t.kind t.name t.sort t.kids=t from ay t,ay];exact ai rfl (ah (Hw t a) (au _))
def pvT(s:aa Bd):T->T:=T.para λ p a=>if p.kind=1 then(lkA s p).getD p else T.mk p.kind p.name p.sort a
def A5(s:aa Bd)(p:T):pvT s p=if p.kind=1 then(lkA s p).getD p else T.mk p.kind p.name p.sort (p.kids.map (pvT s)):=by
 unfold pvT;rw[T.para_eq]
def uL{l:aa Bd}{x u:T}(h:lkA l x=Z u):(x,u)∈l:=by
 unfold lkA at h;cases e:l.find? (λ a=>cg a.1 x)with
 |none=>rw[e]at h;cases h
 |some b=>
   rw[e]at h;cases h;have d:=List.find?_some e;have c:=qcc e;rw[<-eL.1 d];exact c
def Yp{l:aa Bd}{x:T}:(∃u,lkA l x=Z u)↔x∈l.map Prod.fst:=by
 refine⟨λ⟨u,h⟩=>bF.2 ⟨_,uL h,rfl⟩,λ h=>Hr h⟩
def qr1{s:aa Bd}(b:SmQ s){t:T}(a:size t<=100000):size ((lkA s t).getD t)<=100000:=by
 cases e:lkA s t with
 |none=>exact a
 |some u=>exact(b.2 _ (uL e)).2
def Nx{s:aa Bd}(n:iT s)(e:SmQ s)(t:T):size t<=100000->Ev (λ m _=>jr m s t) (pvT s t):=by
 induction t using T.ind with
 |h t g=>
   intro c;apply aB;simp only[qd3,CD,ay];rw[A5];refine av (λ h=>?_) λ h=>?_
   .rw[af (aD.1 h)];exact ah (NG n e t c) (ah (OJ ((lkA s t).getD t) (by have:=qr1 e c;omega)) (au _))
   rw[ae (aC.1 h)];have p:=fE t
   have a:=aV (P:=λ i=>Ev (λ m k=>sJ m (jr m) k s t.kids (X t.kids) i 0 [] 0 t.kind t.name t.sort [] ((t.kids.take i).map (pvT s))) (T.mk t.kind t.name t.sort (t.kids.map (pvT s)))) t.kids (by omega)
    (λ b=>aq (by
     simp only[Rj,CB];rw[dg];exact ai b (au _)))
    (λ i x d q b l j o=>aq (by
     simp only[Rj,CB,ay];have f:=aK d;have r:=dW t x f;refine ag b (al l (ah (g x f (by omega)) (ag (bI ?_) ?_)))
     .have:X (t.kids.take i)<=X t.kids:=by rw[bj];omega
      rw[bO];omega
     .rw[j];refine o.congr λ m k=>?_;rw[dN,d,eK];rfl))
   exact bd (L:=λ m k=>sJ m (jr m) k s t.kids (X t.kids) 0 0 [] 0 t.kind t.name t.sort [] []) (a 0 (aG _))
def YK{s:aa Bd}(g:SmQ s)(t:T):size t<=100000->Ev (λ m _=>kV m s t) (pvT s t):=by
 induction t using T.ind with
 |h t e=>
   intro f;apply aB;simp only[qkB,Fv,ay];rw[A5];refine av (λ h=>?_) λ h=>?_
   .rw[af (aD.1 h)];exact ah (YA s g t f) (au _)
   rw[ae (aC.1 h)];have o:=fE t
   have a:=aV (P:=λ i=>Ev (λ m k=>ue m (kV m) k s i t.kind t.name t.sort t.kids 0 [] 0 t.kind t.name t.sort [] ((t.kids.take i).map (pvT s))) (T.mk t.kind t.name t.sort (t.kids.map (pvT s)))) t.kids (by omega)
    (λ b=>aq (by
     simp only[Tx,E5];rw[dg];exact ai b (au _)))
    (λ i x c p b l j n=>aq (by
     simp only[Tx,E5,ay];have d:=aK c;have q:=dW t x d;refine ag b (al l (ah (e x d (by omega)) (ag (bI ?_) ?_)))
     .have:X (t.kids.take i)<=X t.kids:=by rw[bj];omega
      rw[bO];omega
     .rw[j];refine n.congr λ m k=>?_;rw[dN,c,eK];rfl))
   exact bd (L:=λ m k=>ue m (kV m) k s 0 t.kind t.name t.sort t.kids 0 [] 0 t.kind t.name t.sort [] []) (a 0 (aG _))
def WT{s:aa Bd}(e:SmQ s)(l:aa T)(j:X l<=1000000)(d:∀t∈l,size t<=100000):Ev (λ m _=>Aj m s l) (l.map (pvT s)):=by
 apply aB;simp only[qk3,Fu]
 have a:=aV (P:=λ i=>Ev (λ m k=>tY m k s l i ((l.take i).map (pvT s))) (l.map (pvT s))) l (by omega)
  (λ b=>aq (by
   simp only[Ts,E9];rw[dg];exact ai b (au _)))
  (λ i x c n b g f h=>aq (by
   simp only[Ts,E9,ay];refine ag b (al g (ah (YK e x (d x (aK c))) (ag (bI ?_) ?_)))
   .rw[bO,bj];omega
   .rw[f];refine h.congr λ m k=>?_;rw[dN,c,eK];rfl))
 exact bd (L:=λ m k=>tY m k s l 0 []) (a 0 (aG _))
def ZE{s:aa Bd}{K:Nat}(j:1<=K)(g:∀p∈s,size p.2<=K)(t:T):size (pvT s t)<=size t*K:=by
 induction t using T.ind with
 |h t d=>
   have i:=size_pos t;have k:size t<=size t*K:=Nat.le_mul_of_pos_right _ j;rw[A5];split
   .cases e:lkA s t with
    |none=>exact k
    |some u=>have:=g _ (uL e);exact bL this (qcf _ i)
   .rw[cM,cM t];show 1+((t.kids.map (pvT s)).map size).sum<=_
    have:∀l:aa T,(∀x∈l,size (pvT s x)<=size x*K)->((l.map (pvT s)).map size).sum<=(l.map size).sum*K:=λ l=>by
     induction l with
     |nil=>intro _;simp
     |cons x l c=>
       intro h;have a:=h x (aX ..);have b:=c λ y f=>h y (aT _ f);simp only[aU,gc,dM];omega
    have:=this t.kids d;rw[dM];omega
def mi(p t:T):aa Bd×Int:=if aW p≠0 then([],aW p)else if aW t≠0 then([],aW t)else vw p t
def qlQ(p t:T)(d:size p<=1000000000:=by omega)(e:size t<=1000000000:=by omega):Ev (λ m _=>zR m p t) (mi p t):=by
 unfold mi;by_cases b:aW p=0
 .rw[ae (λ g=>g b)];by_cases c:aW t=0
  .rw[ae (λ g=>g c)];exact qnu p t b c
  .rw[af c];apply aB;simp only[K9,wx,ay];refine ah (a:=aW t) (aB ?_) (ag (bnt.2 (aC.2 c)) (au _));simp only[Lh,zt,ay];exact ah (iN p d) (ai (by rw[b];rfl) (ah (iN t e) (au _)))
 .rw[af b];apply aB;simp only[K9,wx,ay];refine ah (a:=aW p) (aB ?_) (ag (bnt.2 (aC.2 b)) (au _));simp only[Lh,zt,ay];exact ah (iN p d) (ag (bnt.2 (aC.2 b)) (au _))
def qls(p t:T)(d:size p<=1000000000:=by omega)(e:size t<=1000000000:=by omega):Ev (λ m _=>zO m p t) (mi p t):=by
 unfold mi;by_cases b:aW p=0
 .rw[ae (λ g=>g b)];by_cases c:aW t=0
  .rw[ae (λ g=>g c)];exact qnp p t b c
  .rw[af c];apply aB;simp only[K8,wy,ay];refine ah (a:=aW t) (aB ?_) (ag (bnt.2 (aC.2 c)) (au _));simp only[Ln,zC,ay];exact ah (uA p d) (ai (by rw[b];rfl) (ah (uA t e) (au _)))
 .rw[af b];apply aB;simp only[K8,wy,ay];refine ah (a:=aW p) (aB ?_) (ag (bnt.2 (aC.2 b)) (au _));simp only[Ln,zC,ay];exact ah (uA p d) (ag (bnt.2 (aC.2 b)) (au _))
def qnG(p:T):∀t,(mtR p t []).2=O->∀a∈(mtR p t []).1,a.2∈dD t/\nZ a.1 a.2=O:=by
 induction p using T.ind with
 |h p m=>
   intro t c a b;rw[pT]at c b;split at c
   .next j=>rw[af j,eZ]at b;rw[cQ.1 b];exact⟨by rw[pN];exact aX ..,c⟩
   rename_i j;rw[ae j]at b;split at c
   .next i=>rw[af i]at b;cases b
   rename_i i;rw[ae i]at b;split at c
   .cases c
   rename_i o;rw[ae o]at b
   have f:∀(ps ts:aa T),(∀x∈ps,x∈p.kids)->(mtL (ps.map mtR) ts []).2=O->∀a∈(mtL (ps.map mtR) ts []).1,a.2∈(ts.map dD).flatten/\nZ a.1 a.2=O:=by
    intro ps
    induction ps with
    |nil=>intro ts _ _ a b;simp[mtL]at b
    |cons x ps g=>
      intro ts k c a b;cases ts with
      |nil=>simp[mtL]at b
      |cons y ts=>
        rw[aU,mtL]at c b;split at c
        .rename_i l;rw[af l,pK]at b;rw[pK]at c;rw[aU,ou];obtain b|b:=aR.1 b
         .let⟨e,d⟩:=m x (k x (aX ..)) y l a b;exact⟨nC _ e,d⟩
         .let⟨e,d⟩:=g ts (λ z n=>k z (aT _ n)) c a b;exact⟨nA _ e,d⟩
        .cases c
   let⟨e,d⟩:=f p.kids t.kids (λ _ h=>h) c a b;exact⟨by rw[pN];exact aT _ e,d⟩
def qm9{t:T}:aW t=0->∀u∈dD t,aW u=0:=by
 induction t using T.ind with
 |h t c=>
   intro h u a;rw[pN]at a;obtain rfl|a:=bi.1 a
   .exact h
   .let⟨l,e,d⟩:=mI.1 a;obtain⟨k,b,rfl⟩:=bF.1 e;exact c k b (qU h b) u d
def qmX{s:aa Bd}(t:∀b∈s,oJ b.2=O)(p:T):aW p=0->∀x,x∈bP 1 (pvT s p)↔x∈bP 1 p/\lkA s x=U:=by
 induction p using T.ind with
 |h p o=>
   intro i x;rw[A5];by_cases d:p.kind=1
   .rw[af d]
    have r:p.kids=[]:=by
     obtain h|h:=zX i
     .exact h.2
     .omega
    have c:bP 1 p=[p]:=by rw[oD,af d,r];rfl
    cases e:lkA s p with
    |none=>
      rw[Option.getD_none,c,cQ];exact⟨λ h=>⟨h,by rw[h];exact e⟩,λ h=>h.1⟩
    |some u=>
      have:=t _ (uL e);have q:bP 1 u=[]:=pg.1 this;rw[QS,q,c];constructor
      .intro h;cases h
      .rintro⟨h,g⟩;rw[cQ.1 h,e]at g;cases g
   .rw[ae d,oD,oD 1 p];show x∈(if p.kind=1 then _ else[])++((p.kids.map (pvT s)).map (bP 1)).flatten↔_;rw[ae d,ae d,eZ,eZ,jQ,mI,mI];constructor
    .rintro⟨l,n,m⟩;obtain⟨k,a,rfl⟩:=bF.1 n;let⟨v,j⟩:=(o k a (qU i a) x).1 m;exact⟨⟨_,iY a,v⟩,j⟩
    .rintro⟨⟨l,n,m⟩,j⟩;obtain⟨k,a,rfl⟩:=bF.1 n;exact⟨_,iY (f:=bP 1 ∘ pvT s) a,(o k a (qU i a) x).2 ⟨m,j⟩⟩
def Jc(b:Bd):Prop:=aW b.1=0/\b.1.kind=1/\b.1≠b.2/\aW b.2=0/\oV b.1 b.2=O
def Zy:∀(l:aa Bd) (q:ab T),iT l->(∀y,q=Z y->∀p∈l,aO y p.1=-1)->(∀b∈l,Jc b)->sbE q l=0
 |[],_,_,_,_=>rfl
 |p::r,q,i,d,h=>by
   let⟨o,n,m,k,j⟩:=h p (aX ..);let⟨t,s⟩:=mH.1 i;rw[sbE,ae (λ g=>g o),ae (λ g=>g.elim (λ e=>e n) m),ae (λ g=>g k),ae (by rw[j];decide),af (λ y a=>d y a p (aX ..))];exact Zy r (Z p.1) s (λ y a x c=>by cases a;exact t x c) λ b f=>h b (aT _ f)
structure QP (Q:T->Prop):Prop where
 all:∀t,Q t->∀u∈dD t,Q u
 gr:∀t,Q t->oJ t=O
 va:∀t,Q t->aW t=0
structure DoI (Q:T->Prop) (L:List T) (n:Nat) (v:List Bd):Prop where
 asc:iT v
 len:v.length<=n
 ks:∀x,x∈v.map Prod.fst↔x∈L
 ok:∀b∈v,Jc b/\Q b.2
def DoI.sm{Q:T->Prop}{L:aa T}{n:Nat}{v:aa Bd}(h:DoI Q L n v)(d:n<=3000):SmQ v:=
 ⟨bL h.len d,λ p c=>by
  let⟨⟨a,_,_,b,_⟩,_⟩:=h.ok p c;have:=vsz a;have:=vsz b;omega⟩
def oW(v:aa Bd)(p t:T):aa Bd×Bool:=if(mi (pvT v p) t).2=0 then((mi (pvT v p) t).1.foldl cG v,O)else([],Y)
def UZ:∀(l a:aa T),X (l.foldl dE a)<=X a+X l
 |[],_=>ak _
 |y::l,a=>by
   rw[jP,bE];have:=UZ l (dE a y);have:=MX y a;omega
def qoj{s:aa Bd}(m:∀b∈s,oJ b.2=O)(p:T):aW p=0->X (bP 1 (pvT s p))<=X (bP 1 p):=by
 induction p using T.ind with
 |h p g=>
   intro j;rw[A5];by_cases c:p.kind=1
   .rw[af c];cases e:lkA s p with
    |none=>exact ak _
    |some u=>
      have k:bP 1 u=[]:=pg.1 (m _ (uL e));rw[QS,k];exact aG _
   .rw[ae c,oD,oD 1 p];show((if p.kind=1 then _ else[])++((p.kids.map (pvT s)).map (bP 1)).flatten).length<=_;rw[ae c,ae c,eZ,eZ]
    have:∀l:aa T,(∀x∈l,X (bP 1 (pvT s x))<=X (bP 1 x))->X (((l.map (pvT s)).map (bP 1)).flatten)<=X ((l.map (bP 1)).flatten):=λ l=>by
     induction l with
     |nil=>intro _;exact ak _
     |cons x l f=>
       intro h;have a:=h x (aX ..);have b:=f λ y i=>h y (aT _ i);simp only[aU,ou,aM];omega
    exact this p.kids λ x d=>g x d (qU j d)
def qq3{l:aa Bd}(h:iT l):(l.map Prod.fst).Nodup:=by
 rw[qsr,qcj];exact List.Pairwise.imp (λ{a b} e g=>by rw[g,nG]at e;cases e) h
def qqZ{l:aa T}(h:Asc l):l.Nodup:=by
 rw[qsr];exact List.Pairwise.imp (λ{a b} e g=>by rw[g,nG]at e;cases e) h
def WR{c:aa Bd}{Q:Bd->Prop}:∀vs:aa T,(∀x∈vs,∃u,jN c x=Z (x,u)/\Q (x,u))->(vs.filterMap (jN c)).map Prod.fst=vs/\∀b∈vs.filterMap (jN c),Q b
 |[],_=>⟨rfl,λ b a=>by cases a⟩
 |x::vs,h=>by
   let⟨u,i,g⟩:=h x (aX ..);let⟨f,e⟩:=WR vs λ y d=>h y (aT _ d);rw[qF,i];refine⟨by rw[aU,f],λ b a=>?_⟩;obtain rfl|a:=bi.1 a
   .exact g
   .exact e b a
theorem qmU{Q:T->Prop}(j:QP Q){L:List T}{n:Nat}{v:List Bd}(h:DoI Q L n v){p t:T}(E:aW p=0)(y:Q t)(a:(mi (pvT v p) t).2=0):
  (mi (pvT v p) t).1.map Prod.fst=bo (pvT v p)/\∀b∈(mi (pvT v p) t).1,Jc b/\Q b.2:=by
 have o:=j.va t y;unfold mi at a |-
 by_cases c:aW (pvT v p)=0
 case neg=>rw[af c]at a;exact absurd a c
 rw[ae (λ g=>g c),ae (λ g=>g o)]at a |-
 unfold vw at a |-
 split at a
 case isFalse=>cases a
 rename_i s;rw[af s];have i:=HU _ t c s.1;have q:=qnG _ t s.1;refine WR _ λ x A=>?_;have r:=(mR _ x).1 A;obtain⟨u,w⟩:=Hr (l:=(mtR (pvT v p) t []).1) (by rw[i];exact r);obtain⟨C,B⟩:=q _ (uL w);have k:=j.all t y u C;obtain⟨m,D⟩:=GD c x r
 have f:x≠u:=λ e=>by
  have:=j.gr u k;rw[<-e]at this;have z:bP 1 x=[]:=pg.1 this;rw[oD,af m]at z;cases z
 have d:=qm9 c x ((kJ.1 r).1);refine⟨u,?_,⟨d,m,f,j.va u k,?_⟩,k⟩
 .unfold jN;rw[w];show(if cg u x=true then none else some (x,u))=_;rw[ae λ e=>f (eL.1 e).symm]
 .unfold oV;rw[bg ⟨d,j.va u k,m⟩,B];rfl
def Vu:∀(l v:aa Bd),iT v->SmQ v->X v+X l<=3000->(∀b∈l,size b.1<=100000/\size b.2<=100000/\b.1≠b.2)->((v++l).map Prod.fst).Nodup->∀(d:aa Bd) (i:Nat),d.drop i=l->X d<2^62->Ev (λ m k=>tn m k d v i) (l.foldl cG v,O)
 |[],v,u,q,z,t,c,d,i,o,n=>by
   have:X d<=i:=List.drop_eq_nil_iff.1 o;apply aq;simp only[Sz,D6];exact ai (ba.2 (by omega)) (au _)
 |b::l,v,u,q,z,t,c,d,i,o,n=>by
   have A:i<X d:=by
    obtain h|h:=qbS i (X d)
    .exact h
    .rw[List.drop_eq_nil_iff.2 h]at o;cases o
   have g:=yP A;rw[o]at g;have B:ao d (i:Int)=Z b:=by rw[db,aS A,(QV g).1]
   let⟨y,w,C⟩:=t b (aX ..)
   have s:∀p∈v,p.1≠b.1:=λ p j e=>by
    rw[eK,B3]at c;exact c.2.2 p.1 (iY j) b.1 (by simp) e
   let⟨H,G,F⟩:=vB [b] v u (by
    refine List.Nodup.sublist ?_ c;refine List.Sublist.map _ (List.Sublist.append_left ?_ _);simp)
   have f:((cG v b++l).map Prod.fst).Nodup:=by
    have j:∀(a:aa Bd),(cG a b).Perm (b::a):=λ a=>by
     induction a with
     |nil=>exact .refl _
     |cons p r D=>
       simp only[cG];split
       .exact .refl _
       .exact(List.Perm.cons p D).trans (List.Perm.swap b p r)
    have:((cG v b++l).map Prod.fst).Perm ((v++b::l).map Prod.fst):=by
     refine List.Perm.map _ (((j v).append_right l).trans ?_);exact(List.perm_middle (a:=b) (l₁:=v) (l₂:=l)).symm
    exact this.nodup_iff.2 c
   rw[bE]at z;apply aq;simp only[Sz,D6,ay];refine ag (aY.2 (by omega)) (al B (al B (ah (Nb v b.1 b.2 q y w C) ?_)));rw[show iw .i64 (aw (i:Int) 1)=((i+1:Nat):Int)from by rw[show(1:Int)=((1:Nat):Int)from rfl,qX,dA]];exact Vu l (cG v b) (ML v b u s) ⟨by rw[HJ];omega,λ p j=>((Hd v b p).1 j).elim (λ e=>by rw[e];exact⟨y,w⟩) (q.2 p)⟩ (by rw[HJ];omega) (λ x E=>t x (aT _ E)) f d (i+1) (QV g).2.symm n
def qoV(p:T):∀t,(mtR p t []).1.length<=size t:=by
 induction p using T.ind with
 |h p i=>
   intro t
   have c:∀(ps:aa T),(∀x∈ps,∀t,(mtR x t []).1.length<=size t)->∀ts:aa T,(mtL (ps.map mtR) ts []).1.length<=(ts.map size).sum:=by
    intro ps
    induction ps with
    |nil=>intro _ ts;simp[mtL]
    |cons x ps d=>
      intro f ts;have b:=f x (aX ..);have a:=d λ y j=>f y (aT _ j);cases ts with
      |nil=>simp[mtL]
      |cons y ts=>
        rw[aU,mtL,aU,gc];have e:=b y;by_cases g:(mtR x y []).2=O
        .rw[af g];have l:=a ts;rw[pK,aM];omega
        .rw[ae g];simp only;omega
   have k:=size_pos t;rw[pT];by_cases b:p.kind=1
   .rw[af b];simpa using k
   .rw[ae b];by_cases a:p.kind=2
    .rw[af a];simp
    .rw[ae a];by_cases e:alk p t=Y
     .rw[af e];simp
     .rw[ae e,cM];have:=c p.kids i t.kids;omega
def LO{Q:T->Prop}(P:QP Q){L:aa T}{n:Nat}{v:aa Bd}(h:DoI Q L n v)(hn:n<=2900)(d:Nat)(p t:T)(hd:60<=d\/size t<=d)(I:aW p=0)(H:size p<=60)(ht:Q t):
  Ev (λ m _=>zd m v p t) (oW v p t)/\Ev (λ m _=>zU m v p t) (oW v p t)/\((oW v p t).2=O->DoI Q (L++bo p) (n+d) (oW v p t).1/\∀b∈v,b∈(oW v p t).1):=by
 have o:=h.sm (by omega);have an:=vsz (P.va t ht)
 have ar:size (pvT v p)<=24000:=by
  have:=ZE (s:=v) (K:=400) (by omega) (λ b i=>vsz (h.ok b i).1.2.2.2.1) p;have:size p*400<=60*400:=bZ _ H;omega
 have e1:=Nx h.asc o p (by omega);have e2:=YK o p (by omega);have W:=qlQ (pvT v p) t;have S:=qls (pvT v p) t;unfold oW;by_cases j:(mi (pvT v p) t).2=0
 case neg=>
  rw[ae j];refine⟨aB ?_,aB ?_,λ g=>by cases g⟩
  .simp only[Q8,Cu,ay];exact ah e1 (ah W (ag (bnt.2 (aC.2 j)) (au _)))
  .simp only[S4,zq,ay];exact ah e2 (ah S (ag (bnt.2 (aC.2 j)) (au _)))
 rw[af j];have B:∀b∈v,oJ b.2=O:=λ b i=>P.gr _ (h.ok b i).2;let⟨C,r⟩:=qmU P h I ht j;have A:=qmX B p I
 have G:X (bo (pvT v p))<=60/\X (bo (pvT v p))<=size t:=by
  have a:=UZ (bP 1 (pvT v p)) [];have b:=qoj B p I;have c:=wQ 1 p;unfold bo;rw[eJ]at a;refine⟨by omega,?_⟩
  have e:X (bP 1 (pvT v p))<=size t:=by
   have j:=j;unfold mi at j;split at j
   .next g=>exact absurd j g
   rename_i E;split at j
   .next g=>exact absurd j g
   unfold vw at j;split at j
   case isFalse=>cases j
   next N=>rw[<-HU _ t (QU.1 E) N.1,bO];exact qoV _ t
  omega
 obtain⟨l,M⟩:∃l,l=(mi (pvT v p) t).1:=⟨_,rfl⟩
 rw[<-M]at C r |-
 have ax:X l<=60/\X l<=size t:=by rw[<-bO (f:=Prod.fst),C];exact G
 have z:∀b∈l,size b.1<=400/\size b.2<=400:=λ b i=>⟨vsz (r b i).1.1,vsz (r b i).1.2.2.2.1⟩
 have F:∀b∈v,size b.1<=400/\size b.2<=400:=λ b i=>⟨vsz (h.ok b i).1.1,vsz (h.ok b i).1.2.2.2.1⟩
 have ad:=h.len
 have q:((v++l).map Prod.fst).Nodup:=by
  rw[eK,C,B3];refine⟨qq3 h.asc,qqZ (wZ _ [] List.Pairwise.nil).1,λ x hx y hy e=>?_⟩;let⟨u,hu⟩:=Hr hx;have:=((A y).1 ((mR _ y).1 hy)).2;rw[<-e,hu]at this;cases this
 let⟨E,D,g3⟩:=vB l v h.asc q;refine⟨aB ?_,aB ?_,λ _=>⟨⟨E,by rw[g3];omega,λ x=>?_,λ b i=>((D b).1 i).elim (h.ok b) (r b)⟩,λ b i=>(D b).2 (.inl i)⟩⟩
 .let⟨w,R,w2,w3⟩:=YB v l (by omega) (λ b i=>by
    have:=(aR.1 i).elim (F b) (z b);omega) q
  have hw:w=l.foldl cG v:=MQ _ _ w3 E λ x=>by rw[w2.mem_iff,D,aR]
  rw[hw]at R;simp only[Q8,Cu,ay];refine ah e1 (ah W (ai (bnf.2 (aD.2 j)) ?_));rw[<-M];exact ah R (au _)
 .simp only[S4,zq,ay];refine ah e2 (ah S (ai (bnf.2 (aD.2 j)) ?_));rw[<-M]
  have:=Vu l v h.asc o (by omega) (λ b i=>by
   have:=z b i;exact⟨by omega,by omega,(r b i).1.2.2.1⟩) q l 0 rfl (by omega)
  exact bd (L:=λ m k=>tn m k l v 0) this
 .have hf:x∈(l.foldl cG v).map Prod.fst↔x∈v.map Prod.fst\/x∈l.map Prod.fst:=by
    simp only[bF,D];exact⟨λ⟨b,i,e⟩=>i.elim (λ i=>.inl ⟨b,i,e⟩) λ i=>.inr ⟨b,i,e⟩,λ i=>i.elim (λ⟨b,i,e⟩=>⟨b,.inl i,e⟩) λ⟨b,i,e⟩=>⟨b,.inr i,e⟩⟩
  rw[hf,C,mR,A,aR,h.ks,mR];refine⟨λ e=>e.elim .inl λ e=>.inr e.1,λ e=>e.elim .inl λ e=>?_⟩;cases N:lkA v x with
  |none=>exact .inr ⟨e,rfl⟩
  |some u=>exact .inl ((h.ks x).1 (Yp.1 ⟨u,N⟩))
abbrev mB:=Int×(Int×aa T)
def doA:aa fL->aa Bd->aa mB->ab (aa Bd×aa mB)
 |[],v,o=>Z (v,o)
 |a::r,v,o=>
   if a.1=1 then(if(oW v a.2.2.1 ((lkA v a.2.1).getD a.2.1)).2=O then doA r (oW v a.2.2.1 ((lkA v a.2.1).getD a.2.1)).1 o else U)
   else if a.1=2 then doA r v (o++[(2,(0,[pvT v a.2.1]))])
   else doA r v (o++[(a.1,(a.2.2.2.1,a.2.2.2.2.map (pvT v)))])
def doR(a:Nat)(s:StV):ab (aa Bd×aa mB)->StV×(aa mB×Bool)
 |U=>(s,([],Y))
 |Z r=>((s.1,(s.2.1,(s.2.2.1+1,((if s.2.2.1+1=(a:Int)then 2 else 1),(s.2.2.2.2.1,r.1))))),(r.2,O))
def Um(v:aa Bd)(d:SmQ v):Ev (λ m _=>zc m v) v:=by
 have l:=d.1;apply aB;simp only[qdA,Ct]
 have a:=aV (P:=λ i=>Ev (λ m k=>sH m k v (X v) i (v.take i)) v) v (by omega)
  (λ b=>aq (by
   simp only[Q7,Cs];rw[dg];exact ai b (au _)))
  (λ i x c n b f e g=>aq (by
   simp only[Q7,Cs,ay];let⟨j,h⟩:=d.2 x (aK c);refine ag b (al f (ah (OJ x.1) (ah (OJ x.2) (ag (bI ?_) ?_))))
   .rw[bj];omega
   .rw[e];refine g.congr λ m k=>?_;rw[dN,c];rfl))
 exact bd (L:=λ m k=>sH m k v (X v) 0 []) (a 0 (aG _))
def qlt(s:StV)(c:X s.1.2<=1000000)(a:SmQ s.2.2.2.2.2):Ev (λ m _=>zr m s) s:=by
 have b:pt 0 s.1.2=Z ((),s.1.2,()):=by
  unfold pt;rw[show Nat.ble (X s.1.2) 100000000=O from pj (by omega)];rfl
 apply aB;simp only[qfq,Ki];exact al b (ah (Um _ a) (au _))
def uy{t:T}(h:usB t=O):aW t=0/\size t<=60:=by
 refine⟨?_,lV h⟩;unfold usB xZ at h;rw[aJ,aJ]at h;exact(ZQ (bG h.1.1)).1
def L6{a:fL}{L:aa T}(h:cn a L=0):(a.1=1/\usB a.2.1=O/\usB a.2.2.1=O/\a.2.1.kind=1/\a.2.1∈L/\bY a=bo a.2.2.1)\/(a.1≠1/\a.1=2/\usB a.2.1=O/\bY a=[])\/(a.1≠1/\a.1≠2/\(∀t∈a.2.2.2.2,usB t=O)/\bY a=[]):=by
 unfold cn at h;unfold bY;by_cases c:a.1=1
 .rw[af c]at h |-
  split at h
  .rename_i b;split at h
   .next e=>exact .inl ⟨c,b.1,b.2,e.1,e.2,rfl⟩
   .cases h
  .cases h
 .rw[ae c]at h |-
  by_cases d:a.1=2
  .rw[af d]at h;split at h
   .next b=>exact .inr (.inl ⟨c,d,bz.1 b _ (cQ.2 rfl),rfl⟩)
   .cases h
  .rw[ae d]at h;split at h
   .next b=>exact .inr (.inr ⟨c,d,bz.1 b,rfl⟩)
   .cases h
def I2{Q:T->Prop}{L:aa T}{n:Nat}{v:aa Bd}(h:DoI Q L n v){x:T}(b:x∈L):Q ((lkA v x).getD x):=by
 let⟨u,a⟩:=Yp.2 ((h.ks x).2 b);rw[a];exact(h.ok _ (uL a)).2
def qok{Q:T->Prop}(hQ:QP Q)(d:Nat)(E:60<=d\/∀t,Q t->size t<=d)(A:aa fL)(hA:X A<=20)(hs:∀a∈A,X a.2.2.2.2<=1000000)(b:Int)(P F:aa T)(B:aa eU)(s:StV)(p:Nat)(z:s.2.2.1=p)(ad:p<1000000)(I:X s.1.2<=1000000)(w:SmQ s.2.2.2.2.2):
  ∀i,i<=X A->∀(L:aa T) (n:Nat) (v:aa Bd) (o:aa mB),DoI Q L n v->n+d*X (A.drop i)<=2900->dd (A.drop i) L=0->X o<=i->
   Ev (λ m k=>(ju m k).1 v A (X A) i b P F B s.1.1 s.1.2 s.2.1 s.2.2.1 s.2.2.2.1 s.2.2.2.2.1 s.2.2.2.2.2 0 0 0 0 0 [] [] o) (doR (X B) s (doA (A.drop i) v o)):=
 aV (P:=λ i=>∀(L:aa T) (n:Nat) (v:aa Bd) (o:aa mB),DoI Q L n v->n+d*X (A.drop i)<=2900->dd (A.drop i) L=0->X o<=i->
   Ev (λ m k=>(ju m k).1 v A (X A) i b P F B s.1.1 s.1.2 s.2.1 s.2.2.1 s.2.2.2.1 s.2.2.2.2.1 s.2.2.2.2.2 0 0 0 0 0 [] [] o) (doR (X B) s (doA (A.drop i) v o))) A (by omega)
  (λ r L n v o c hn _ ho=>aq (by
   simp only[SO,Er];rw[bR,doA,doR];refine ai r (ah (qlt s I w) (ah (Um v (c.sm (by omega))) ?_));dsimp only;rw[z,show iw .i64 (aw (p:Int) 1)=(p:Int)+1 from by rw[show aw (p:Int) 1=((p+1:Nat):Int)from by unfold aw;omega,dA];omega];refine av (λ h=>am ?_) λ h=>am ?_
   .rw[af (aD.1 h)]
   .rw[ae (aC.1 h)]))
  (λ i a ha G r hg C M L n v o c hn e ho=>aq (by
   have an:=getElem?_lt ha;have f:=c.sm (by omega);simp only[SO,Er,ay];rw[G,bE,qck]at hn;rw[G,dd]at e;split at e
   case isFalse h=>exact absurd e h
   rename_i N;rw[G,doA];refine ag r (al hg ?_);obtain⟨k,u1,u2,l,kL,q⟩|⟨l,k,u1,q⟩|⟨l,R,us,q⟩:=L6 N
   .rw[af k];let⟨b1,b2⟩:=uy u1;let⟨c1,c2⟩:=uy u2;have W:=I2 c kL;let⟨m1,_,m3⟩:=LO hQ c (by omega) d a.2.2.1 _ (E.imp id λ g=>g _ W) c1 c2 W;refine ag (aD.2 k) (ah (NG c.asc f a.2.1) (ah m1 ?_));cases hb:(oW v a.2.2.1 ((lkA v a.2.1).getD a.2.1)).2 with
    |false=>rw[ae (by decide)];exact ag rfl (au _)
    |true=>
      rw[af rfl,C];refine ai rfl (M (L++bo a.2.2.1) (n+d) _ o (m3 hb).1 (by omega) (by rw[<-q];exact e) (by omega))
   .rw[ae l,af k,C];let⟨b1,b2⟩:=uy u1;rw[q,bK]at e;refine ai (aC.2 l) (ag (aD.2 k) (ah (Nx c.asc f a.2.1 (by omega)) (ag (bI) ?_)));exact M L n v _ c (by omega) e (by rw[aM,im];omega)
   .rw[ae l,ae R];rw[q,bK]at e;have ax:=hs a (aK ha);refine ai (aC.2 l) (ai (aC.2 R) ?_)
    have u:=aV (P:=λ j=>Ev (λ m k=>(ju m k).2 v A (X A) i a.2.2.2.2 (X a.2.2.2.2) j b P F B s.1.1 s.1.2 s.2.1 s.2.2.1 s.2.2.2.1 s.2.2.2.2.1 s.2.2.2.2.2 0 0 0 0 0 a.1 a.2.2.2.1 [] [] o ((a.2.2.2.2.take j).map (pvT v))) (doR (X B) s (doA (A.drop (i+1)) v (o++[(a.1,(a.2.2.2.1,a.2.2.2.2.map (pvT v)))])))) a.2.2.2.2 (by omega)
     (λ r=>aq (by
      simp only[S9,EP];rw[dg,C];refine ai r (ag (bI) ?_);exact M L n v _ c (by omega) e (by rw[aM,im];omega)))
     (λ j x S ar H D y K=>aq (by
      simp only[S9,EP,ay];have hu:=lV (us x (aK S));refine ag H (al D (ah (Nx c.asc f x (by omega)) (ag (bI ?_) ?_)))
      .rw[bO,bj];omega
      .rw[y];refine K.congr λ m k=>?_;rw[dN,S,eK];rfl))
    exact u 0 (aG _)))
def qn3{Q:T->Prop}(hQ:QP Q)(d:Nat)(x:60<=d\/∀t,Q t->size t<=d)(A:aa fL)(hA:X A<=20)(W:∀a∈A,X a.2.2.2.2<=1000000)(b:Int)(P F:aa T)(B:aa eU)(s:StV)(l:Nat)(u:s.2.2.1=l)(S:l<1000000)(c:T):
  ∀i,i<=X A->∀(L:aa T) (n:Nat) (v:aa Bd) (o:aa mB),DoI Q L n v->n+d*X (A.drop i)<=2900->dd (A.drop i) L=0->X o<=i->
   Ev (λ m k=>qT m k v i b P F B s.1.1 s.1.2 s.2.1 s.2.2.1 s.2.2.2.1 s.2.2.2.2.1 s.2.2.2.2.2 0 0 0 0 0 c.kind c.name c.sort c.kids A [] [] o) (doR (X B) s (doA (A.drop i) v o)):=
 aV (P:=λ i=>∀(L:aa T) (n:Nat) (v:aa Bd) (o:aa mB),DoI Q L n v->n+d*X (A.drop i)<=2900->dd (A.drop i) L=0->X o<=i->
   Ev (λ m k=>qT m k v i b P F B s.1.1 s.1.2 s.2.1 s.2.2.1 s.2.2.2.1 s.2.2.2.2.1 s.2.2.2.2.2 0 0 0 0 0 c.kind c.name c.sort c.kids A [] [] o) (doR (X B) s (doA (A.drop i) v o))) A (by omega)
  (λ z L n v o p I _ ho=>aq (by
   simp only[TJ,FO];rw[bR,doA,doR,u];rw[show iw .i64 (aw (l:Int) 1)=(l:Int)+1 from by rw[show aw (l:Int) 1=((l+1:Nat):Int)from by unfold aw;omega,dA];omega];refine ai z (av (λ h=>am ?_) λ h=>am ?_)
   .rw[af (aD.1 h)]
   .rw[ae (aC.1 h)]))
  (λ i a K y z hg w D L n v o p I e ho=>aq (by
   have ad:=getElem?_lt K;have f:=p.sm (by omega);simp only[TJ,FO,ay];rw[y,bE,qck]at I;rw[y,dd]at e;split at e
   case isFalse h=>exact absurd e h
   rename_i E;rw[y,doA];refine ag z (al hg ?_);obtain⟨k,u1,u2,j,R,q⟩|⟨j,k,u1,q⟩|⟨j,G,us,q⟩:=L6 E
   .rw[af k];let⟨b1,b2⟩:=uy u1;let⟨c1,c2⟩:=uy u2;have H:=I2 p R;let⟨_,N,M⟩:=LO hQ p (by omega) d a.2.2.1 _ (x.imp id λ g=>g _ H) c1 c2 H;refine ag (aD.2 k) (ah (YA v f a.2.1) (ah N ?_));cases hb:(oW v a.2.2.1 ((lkA v a.2.1).getD a.2.1)).2 with
    |false=>rw[ae (by decide)];exact ag rfl (au _)
    |true=>
      rw[af rfl,w];refine ai rfl (D (L++bo a.2.2.1) (n+d) _ o (M hb).1 (by omega) (by rw[<-q];exact e) (by omega))
   .rw[ae j,af k,w];let⟨b1,b2⟩:=uy u1;rw[q,bK]at e;refine ai (aC.2 j) (ag (aD.2 k) (ah (WT f [a.2.1] (by simp) (λ t r=>by rw[cQ.1 r];omega)) (ag (bI) ?_)));rw[k];exact D L n v _ p (by omega) e (by rw[aM,im];omega)
   .rw[ae j,ae G,w];rw[q,bK]at e;have C:=W a (aK K);refine ai (aC.2 j) (ai (aC.2 G) (ah (WT f a.2.2.2.2 C (λ t r=>by have:=lV (us t r);omega)) (ag (bI) ?_)));exact D L n v _ p (by omega) e (by rw[aM,im];omega)))
def qqS{Q:T->Prop}(q:QP Q)(c:cO)(s:StV)(b:eU)(x:c.2.2.2[0]?=Z b)(e:s.2.2.1=0)(h:X s.1.2<=1000000)(d:Nat)(f:60<=d\/∀t,Q t->size t<=d){L:aa T}{n:Nat}(i:DoI Q L n s.2.2.2.2.2)(o:n+d*X b.2<=2900)(u:X b.2<=20)(l:∀a∈b.2,X a.2.2.2.2<=1000000)(r:dd b.2 L=0)(t:T):
  Ev (λ m _=>Ag m c s t) (doR (X c.2.2.2) s (doA b.2 s.2.2.2.2.2 []))/\Ev (λ m _=>Hg m c s t) (doR (X c.2.2.2) s (doA b.2 s.2.2.2.2.2 [])):=by
 have g:=i.sm (by omega);have p:ao c.2.2.2 s.2.2.1=Z b:=by rw[e];exact(db _ 0).trans x
 have w:=qok q d f b.2 u l c.1 c.2.1 c.2.2.1 c.2.2.2 s 0 e (by omega) h g 0 (aG _) L n _ [] i (by rw[bH];exact o) r (ak _);have v:=qn3 q d f b.2 u l c.1 c.2.1 c.2.2.1 c.2.2.2 s 0 e (by omega) b.1 0 (aG _) L n _ [] i (by rw[bH];exact o) r (ak _);rw[bH]at w v;have j:ilt 0 s.2.2.1=Y:=ba.2 (by omega);constructor
 .apply aB;simp only[qj6,EN,ay];refine al p (ai j ?_);exact bd (L:=λ m k=>(ju m k).1 s.2.2.2.2.2 b.2 (X b.2) 0 c.1 c.2.1 c.2.2.1 c.2.2.2 s.1.1 s.1.2 s.2.1 s.2.2.1 s.2.2.2.1 s.2.2.2.2.1 s.2.2.2.2.2 0 0 0 0 0 [] [] []) w
 .apply aB;simp only[qli,FW,ay];refine al p (ai j ?_);exact bd (L:=λ m k=>qT m k s.2.2.2.2.2 0 c.1 c.2.1 c.2.2.1 c.2.2.2 s.1.1 s.1.2 s.2.1 s.2.2.1 s.2.2.2.1 s.2.2.2.2.1 s.2.2.2.2.2 0 0 0 0 0 b.1.kind b.1.name b.1.sort b.1.kids b.2 [] [] []) v
def Oz(e:mB):Prop:=X e.2.2<=1000000/\∀t∈e.2.2,size t<=100000
def YE{Q:T->Prop}{L:aa T}{n:Nat}{v:aa Bd}(h:DoI Q L n v){t:T}(a:usB t=O):size (pvT v t)<=100000:=by
 have:=ZE (s:=v) (K:=400) (by omega) (λ b c=>vsz (h.ok b c).1.2.2.2.1) t;have:size t*400<=60*400:=bZ _ (lV a);omega
def IE{Q:T->Prop}(y:QP Q)(d:Nat)(f:60<=d\/∀t,Q t->size t<=d):∀(A:aa fL) (L:aa T) (n:Nat) (v:aa Bd) (o:aa mB) (r:aa Bd×aa mB),(∀a∈A,X a.2.2.2.2<=1000000)->DoI Q L n v->n+d*X A<=2900->dd A L=0->doA A v o=Z r->DoI Q (L++(A.map bY).flatten) (n+d*X A) r.1/\(∀b∈v,b∈r.1)/\X r.2<=X o+X A/\∀e∈r.2,e∈o\/Oz e
 |[],L,n,v,o,r,_,i,_,_,h=>by
   cases h;exact⟨by simpa using i,λ b m=>m,ak _,λ e q=>.inl q⟩
 |a::A,L,n,v,o,r,E,i,I,j,h=>by
   have l:∀b∈A,X b.2.2.2.2<=1000000:=λ b m=>E b (aT _ m);rw[bE,qck]at I |-
   rw[dd]at j;split at j
   case isFalse g=>exact absurd j g
   rename_i C;rw[aU,ou,<-bA];rw[doA]at h;obtain⟨k,u1,u2,w,D,p⟩|⟨w,k,u1,p⟩|⟨w,G,us,p⟩:=L6 C
   .rw[af k]at h;let⟨P,N⟩:=uy u2;let⟨_,_,F⟩:=LO y i (by omega) d a.2.2.1 _ (f.imp id λ g=>g _ (I2 i D)) P N (I2 i D);split at h
    case isFalse=>cases h
    rename_i m;let⟨M,K⟩:=F m;rw[p]at j |-
    let⟨c,u,z,s⟩:=IE y d f A _ _ _ o r l M (by omega) j h;exact⟨by rw[show n+(d*X A+d)=n+d+d*X A by omega];exact c,λ b m=>u b (K b m),by omega,s⟩
   .rw[ae w,af k]at h;rw[p,bK]at j |-
    let⟨c,u,z,s⟩:=IE y d f A _ _ _ _ r l i (by omega) j h;rw[aM,im]at z;refine⟨⟨c.asc,by have:=c.len;omega,c.ks,c.ok⟩,u,by omega,λ e q=>(s e q).elim (λ h=>(aR.1 h).elim .inl λ h=>.inr ?_) .inr⟩;rw[cQ.1 h];exact⟨by simp,λ t B=>by rw[cQ.1 B];exact YE i u1⟩
   .rw[ae w,ae G]at h;rw[p,bK]at j |-
    let⟨c,u,z,s⟩:=IE y d f A _ _ _ _ r l i (by omega) j h;rw[aM,im]at z;refine⟨⟨c.asc,by have:=c.len;omega,c.ks,c.ok⟩,u,by omega,λ e q=>(s e q).elim (λ h=>(aR.1 h).elim .inl λ h=>.inr ?_) .inr⟩;rw[cQ.1 h];refine⟨?_,λ t B=>?_⟩
    .show(a.2.2.2.2.map (pvT v)).length<=_;rw[bO];exact E a (aX ..)
    .obtain⟨x,H,rfl⟩:=bF.1 B;exact YE i (us x H)
def qmO(n:Nat):zQ (n+3000)=Z O:=by kernel_rfl
def zY:Ev (λ m _=>zQ m) O:=⟨3000,λ m k a _=>by
 obtain⟨n,rfl⟩:∃n,m=n+3000:=⟨m-3000,by omega⟩
 exact qmO n⟩
section
open Lib
def qmI(t:T):kD t->∀a:Int,-1000000000<=a->a<=1000000000->Ev (λ m _=>lJ m t a) (gm t a):=by
 induction t using T.ind with
 |h t j=>
   intro p a d c;let⟨u,v,s⟩:=(Yi t).1 p;apply aB;simp only[qg5,DB];rw[YD];refine av (λ h=>?_) λ h=>?_
   .rw[gK]at h;exact am (by rw[af (.inl h)])
   rw[li]at h;refine av (λ f=>?_) λ f=>?_
   .rw[aY]at f;exact am (by rw[af (.inr (by omega))])
   rw[ba]at f;rw[ifN,show eT a 1=a-1 from rfl,dA]
   have b:=aV (P:=λ i=>∀a:Int,0<=a->a<=1000000000->Ev (λ m k=>tk m (lJ m) k a i t.kind t.name t.sort t.kids) (og ((t.kids.drop i).map gm) a)) t.kids u
    (λ e a _ _=>by
     apply aq;simp only[R9,DF];apply ai e;rw[bR];exact au _)
    (λ i x l q e o n r a d c=>by
     apply aq;simp only[R9,DF,ay];have g:=aK l;refine ag e (al o (ah (j x g (s x g) a (by omega) (by omega)) ?_));rw[q,aU,og,n];have:=L3 x a;refine av (λ h=>?_) λ h=>?_
     .rw[aY]at h;exact am (by rw[af h])
     .rw[ba]at h;rw[ifN];exact r _ (by omega) (by omega))
   apply bd (L:=λ m k=>tk m (lJ m) k (a-1) 0 t.kind t.name t.sort t.kids);exact(b 0 (aG _) (a-1) (by omega) (by omega)).res (by rw[bH])
def Zs(l:aa T)(j:X l<2^62)(q:∀t∈l,kD t)(n:Nat)(a:Int)(c:0<=a)(b:a<=1000000000):Ev (λ m _=>An m l n a) (J (X l<=n)&&pa l a):=by
 apply aB;simp only[qk9,Fa];refine av (λ h=>?_) λ h=>?_
 .rw[aY]at h;exact am (by rw[bv (by omega)];rfl)
 rw[ba]at h;rw[bg (by omega),cv]
 have d:=aV (P:=λ i=>∀a:Int,0<=a->a<=1000000000->Ev (λ m k=>tV m k l a i) (pa (l.drop i) a)) l j
  (λ e a _ _=>by
   apply aq;simp only[Tu,Ft];apply ai e;rw[bR];exact au _)
  (λ i x f r e p o s a c b=>by
   apply aq;simp only[Tu,Ft,ay];have g:=aK f;refine ag e (al p (ah (qmI x (q x g) a (by omega) (by omega)) ?_));rw[r,pa,o];have:=L3 x a;refine av (λ h=>?_) λ h=>?_
   .rw[aY]at h;exact am (by rw[af h])
   .rw[ba]at h;rw[ifN];exact s _ (by omega) (by omega))
 apply bd (L:=λ m k=>tV m k l a 0);exact(d 0 (aG _) a c b).res (by rw[bH])
end
def iI(a:fL):aa T:=a.2.1::a.2.2.1::a.2.2.2.2
def gB(b:eU):aa T:=b.1::(b.2.map iI).flatten
def gM(B:aa eU):aa T:=(B.map gB).flatten
def iV(l:aa T):Prop:=X l<=200/\∀t∈l,size t<=1000
def iV.of{l l':aa T}(h:iV l')(c:X l<=X l')(b:∀t∈l,t∈l'):iV l:=⟨bL c h.1,λ t a=>h.2 t (b t a)⟩
def gB'(b:eU):aa T:=b.1::((b.2.take 30).map iI).flatten
def gM'(B:aa eU):aa T:=(B.map gB').flatten
def X1{α:Type}(f:α->aa T):∀(l:aa α) (n:Nat),((l.take n).map f).flatten.length<=(l.map f).flatten.length
 |[],n|x::l,0=>by simp
 |x::l,n+1=>by
   have:=X1 f l n;simp only[List.take_succ_cons,aU,ou,aM];omega
def Xx:∀B:aa eU,X (gM' B)<=X (gM B)
 |[]=>ak _
 |b::B=>by
   have d:=Xx B;have c:=X1 iI b.2 30;have e1:gM' (b::B)=gB' b++gM' B:=rfl;have a:gM (b::B)=gB b++gM B:=rfl;rw[e1,a,aM,aM];have f:X (gB' b)=((b.2.take 30).map iI).flatten.length+1:=rfl;have e:X (gB b)=(b.2.map iI).flatten.length+1:=rfl;omega
def Xu:∀(B:aa eU) (t:T),t∈gM' B->t∈gM B
 |[],t,h=>by cases h
 |b::B,t,h=>by
   have e1:gM' (b::B)=gB' b++gM' B:=rfl;have f:gM (b::B)=gB b++gM B:=rfl;rw[e1]at h;rw[f];obtain h|h:=aR.1 h
   .apply nC _;obtain rfl|h:=bi.1 h
    .exact aX ..
    .let⟨y,e,d⟩:=mI.1 h;obtain⟨a,c,rfl⟩:=bF.1 e;exact aT _ (mI.2 ⟨_,bF.2 ⟨a,fY c,rfl⟩,d⟩)
   .exact nA _ (Xu B t h)
def qml(o:cO)(hB:X o.2.2.2<=1000000000)(H:∀b∈o.2.2.2,X b.2<=1000000000)
  (hn:X (o.2.1++o.2.2.1)+X (gM o.2.2.2)<=1000000000) (n:∀t∈(o.2.1++o.2.2.1)++gM o.2.2.2,kD t):∃b,Ev (λ m _=>xb m o) b/\(b=O->SmM o):=by
 by_cases h1:6<X o.2.1
 .exact⟨Y,aB (by simp only[FP,tF];exact ag (aY.2 (by omega)) (au _)),λ h=>by cases h⟩
 by_cases h2:6<X o.2.2.1
 .exact⟨Y,aB (by simp only[FP,tF];exact ai (ba.2 (by omega)) (ag (aY.2 (by omega)) (au _))),λ h=>by cases h⟩
 by_cases h3:14<X o.2.2.2
 .exact⟨Y,aB (by simp only[FP,tF];exact ai (ba.2 (by omega)) (ai (ba.2 (by omega)) (ag (aY.2 (by omega)) (au _)))),λ h=>by cases h⟩
 let⟨u,P,F,B⟩:=o
 replace h1:¬ 6<X P:=h1
 replace h2:¬ 6<X F:=h2
 replace h3:¬ 14<X B:=h3
 replace hn:X (P++F)+X (gM B)<=1000000000:=hn
 replace n:∀t∈(P++F)++gM B,kD t:=n
 replace H:∀b∈B,X b.2<=1000000000:=H
 have N:X (P++F)+X (gM' B)<=1000000000:=by have:=Xx B;omega
 have an:∀t∈(P++F)++gM' B,kD t:=λ t h=>n t ((aR.1 h).elim (λ h=>nC _ h) λ h=>nA _ (Xu B t h))
 have ad:=aV (P:=λ i=>∀(f:aa T) (p:Int),f++gM' (B.drop i)=(P++F)++gM' B->∃b,Ev (λ m k=>(ke m k).1 p i u P F B f) b/\(b=O->iV ((P++F)++gM' B))) B (by omega)
  (λ hc f p w=>by
   rw[bR]at w;have w:f=(P++F)++gM' B:=by rw[<-w];exact(bK _).symm
   subst w;have ax:=Zs ((P++F)++gM' B) (by rw[aM];omega) an 200 500 (by decide) (by decide);by_cases hx:p<=40
   .refine⟨J (X ((P++F)++gM' B)<=200)&&pa ((P++F)++gM' B) 500,aq ?_,λ h=>?_⟩
    .simp only[Lm,zF];exact ai hc (ag (gK.2 hx) (ah ax (au _)))
    .rw[aJ]at h;exact⟨bG h.1,λ t n=>by have:=MF (by decide) h.2 t n;omega⟩
   .refine⟨Y,aq ?_,λ h=>by cases h⟩;simp only[Lm,zF];exact ai hc (ai (li.2 (by omega)) (au _)))
  (λ i b A hd hc G hi hP f p w=>by
   have aE:=aK A;have a5:=H b aE;have a4:=getElem?_lt A;have a6:X f+X (gM' (B.drop i))<=1000000000:=by rw[<-aM,w,aM];exact N
   have z:gM' (B.drop i)=gB' b++gM' (B.drop (i+1)):=by rw[hd];rfl
   have D:∀(d j:Nat),30<=j+d->j<=X b.2->j<=30->∀(f:aa T) (p:Int),f++((((b.2.take 30).drop j).map iI).flatten++gM' (B.drop (i+1)))=(P++F)++gM' B->
     ∃r,Ev (λ m k=>(ke m k).2 p i j u P F B f) r/\(r=O->iV ((P++F)++gM' B)):=by
    intro d
    induction d with
    |zero=>
      intro j a0 hj R f p g;have:j=30:=by omega
      subst this;rw[QW (by rw[bj];omega)]at g;let⟨r,s,v⟩:=hP f (p) g;refine⟨r,aq ?_,v⟩;simp only[E7,wI];apply al G;rw[hi];by_cases Q:30<X b.2
      .exact ag (aY.2 (by omega)) (ai (ba.2 (by omega)) s)
      .exact ai (ba.2 (by omega)) s
    |succ d M=>
      intro j a0 hj R f p g;by_cases Q:j<X b.2
      .by_cases ar:j<30
       .obtain⟨a,W⟩:∃a,b.2[j]?=Z a:=⟨_,aS Q⟩
        have az:(b.2.take 30).drop j=a::(b.2.take 30).drop (j+1):=by
         rw[yP (by rw[bj];omega)];congr 1;have:(b.2.take 30)[j]?=Z a:=by rw[vR ar];exact W
         exact(ft.1 this).2
        rw[az,aU,ou]at g
        have a1:X f+(X a.2.2.2.2+2)<=1000000000:=by
         have:=bB X g;simp only[aM,iI,bE]at this N;omega
        let⟨r,s,v⟩:=M (j+1) (by omega) (by omega) (by omega) (((f++[a.2.1])++[a.2.2.1])++a.2.2.2.2) p (by
         rw[<-g];simp only[iI,bA,BW,eZ])
        refine⟨r,aq ?_,v⟩;simp only[E7,wI,ay];refine al G (ag (aY.2 (by omega)) (ag (aY.2 (by omega)) (al G (al (a:=a) (by rw[db];exact W) ?_))));refine ag (bI (by omega) (by decide)) (ag (bI (by rw[aM,im];omega) (by decide)) (ag (bI (by rw[aM,aM,im,im];omega) (by decide)) ?_));rw[show iw .i64 (aw (j:Int) 1)=((j+1:Nat):Int)from by rw[show aw (j:Int) 1=((j+1:Nat):Int)from by unfold aw;omega,dA]];exact s
       .have:j=30:=by omega
        subst this;rw[QW (by rw[bj];omega)]at g;let⟨r,s,v⟩:=hP f p g;refine⟨r,aq ?_,v⟩;simp only[E7,wI];refine al G (ag (aY.2 (by omega)) (ai (ba.2 (by omega)) ?_));rw[hi];exact s
      .rw[QW (by rw[bj];omega)]at g;let⟨r,s,v⟩:=hP f p g;refine⟨r,aq ?_,v⟩;simp only[E7,wI];refine al G (ai (ba.2 (by omega)) ?_);rw[hi];exact s
   have a3:1<=X (gM' (B.drop i)):=by rw[z];simp only[gB',aM,bE];omega
   let⟨r,s,v⟩:=D 30 0 (by omega) (aG _) (by omega) (f++[b.1]) (iw .i64 (aw p (X b.2))) (by
    rw[<-w,z,bH];simp only[gB',bA,BW,eZ])
   refine⟨r,aq ?_,v⟩;simp only[Lm,zF,ay];exact ag hc (al G (ag (bI (by omega) (by decide)) (al G s))))
 let⟨b,s,v⟩:=ad 0 (aG _) (P++F) 0 (by rw[bH]);refine⟨b,aB ?_,λ h=>?_⟩
 .have q:=bd (L:=λ m k=>(ke m k).1 0 0 u P F B (P++F)) s;simp only[FP,tF];refine ai (ba.2 (show(X P:Int)<=6 by omega)) (ai (ba.2 (show(X F:Int)<=6 by omega)) (ai (ba.2 (show(X B:Int)<=14 by omega)) (ag (bI (by show(0+X P)*56<=_;omega) (by decide)) ?_)));refine wa (λ e=>?_) λ x t e=>?_
  .replace e:P=[]:=e
   refine ag (bI (by show(0+X F)*56<=_;omega) (by decide)) (wa (λ C=>?_) λ y t2 C=>?_)
   .replace C:F=[]:=C
    subst e C;exact q
   .replace C:F=y::t2:=C
    subst e C;exact q
  .replace e:P=x::t:=e
   subst e;exact ag (bI (by simp only[eZ,bE]at *;omega) (by decide)) q
 .let⟨g1,I⟩:=v h;have a2:X P+X F<=200:=by rw[aM,aM]at g1;omega
  have K:∀b∈B,∀t∈gB' b,t∈(P++F)++gM' B:=λ b A t n=>nA _ (mI.2 ⟨_,bF.2 ⟨b,A,rfl⟩,n⟩);refine⟨⟨(by show X P<=6;omega),λ t n=>I t (nC _ (nC _ n))⟩,⟨(by show X F<=6;omega),λ t n=>I t (nC _ (nA _ n))⟩,(by show X B<=1000000;omega),λ b A S=>⟨?_,S,λ a w=>?_⟩⟩
  .have:=I b.1 (K b A _ (aX ..));omega
  .have E:∀t∈iI a,t∈(P++F)++gM' B:=λ t n=>K b A t (aT _ (mI.2 ⟨_,bF.2 ⟨a,(by rw[qE (by omega)];exact w),rfl⟩,n⟩));refine⟨by have:=I _ (E a.2.1 (by simp[iI]));omega,by have:=I _ (E a.2.2.1 (by simp[iI]));omega,?_,λ t n=>by have:=I _ (E t (by simp[iI,n]));omega⟩
   have a7:X a.2.2.2.2<=X (gM' B):=by
    have h5:∀(l:aa eU),b∈l->X (gB' b)<=X (gM' l):=by
     intro l
     induction l with
     |nil=>intro h;cases h
     |cons c l M=>
       intro h;have e:gM' (c::l)=gB' c++gM' l:=rfl;rw[e,aM];obtain rfl|h:=bi.1 h
       .omega
       .have:=M h;omega
    have h6:∀(l:aa fL),a∈l->X (iI a)<=(l.map iI).flatten.length:=by
     intro l
     induction l with
     |nil=>intro h;cases h
     |cons c l M=>
       intro h;rw[aU,ou,aM];obtain rfl|h:=bi.1 h
       .omega
       .have:=M h;omega
    have h7:=h5 B A;have h8:=h6 (b.2.take 30) (by rw[qE (by omega)];exact w);have e:X (gB' b)=((b.2.take 30).map iI).flatten.length+1:=rfl;have C:X (iI a)=X a.2.2.2.2+2:=rfl;omega
   rw[aM]at g1;omega
def qnf(l:aa Bd)(B:X l<=1000000000)(g:∀p∈l,kD p.1/\kD p.2):∃b,Ev (λ m _=>GP m l 30 300) b/\(b=O->SmQ l):=by
 let d:aa Bd->aa T:=λ l=>(l.map λ p=>[p.1,p.2]).flatten
 have c:∀l,X (d l)=2*X l:=by
  intro l
  induction l with
  |nil=>rfl
  |cons p l w=>show(p.1::p.2::d l).length=_;simp only[bE,w];omega
 have o:=Zs (d l) (by rw[c];omega) (λ t h=>by
  let⟨y,s,r⟩:=mI.1 h;obtain⟨p,v,rfl⟩:=bF.1 s;obtain rfl|r:=bi.1 r
  .exact(g p v).1
  .exact cQ.1 r▸(g p v).2) 60 300 (by decide) (by decide)
 refine⟨J (X (d l)<=60)&&pa (d l) 300,?_,λ h=>?_⟩
 .have n:=aV (P:=λ i=>Ev (λ m k=>tW m k l 30 300 i (d (l.take i))) (J (X (d l)<=60)&&pa (d l) 300)) l (by omega)
    (λ q=>aq (by
     simp only[Tw,Fm];rw[dg];exact ai q (ah o (au _))))
    (λ i p j C q u z A=>aq (by
     have x:=getElem?_lt j;simp only[Tw,Fm,ay];refine ag q (al u (al u (ag (bI ?_ (by decide)) ?_)))
     .rw[c,bj];omega
     .rw[z]
      have e:d (l.take i)++[p.1,p.2]=d (l.take (i+1)):=by
       show _=(List.map _ (l.take (i+1))).flatten;rw[dN,j];simp[d]
      rw[e];exact A))
  apply aB;simp only[qkz,Fw];exact bd (L:=λ m k=>tW m k l 30 300 0 []) (n 0 (aG _))
 .rw[aJ]at h;have s:=bG h.1;rw[c]at s;refine⟨by omega,λ p j=>?_⟩;have f:∀t∈[p.1,p.2],t∈d l:=λ t g=>mI.2 ⟨_,bF.2 ⟨p,j,rfl⟩,g⟩;have a:=MF (by decide) h.2 p.1 (f _ (by simp));have b:=MF (by decide) h.2 p.2 (f _ (by simp));omega
def qoR(s:StV)(w:X s.1.2<=1000000000)(y:X s.2.2.2.2.2<=1000000000)(v:∀p∈s.2.2.2.2.2,kD p.1/\kD p.2):∃b,Ev (λ m _=>wA m s) b/\(b=O->X s.1.2<=8/\SmQ s.2.2.2.2.2):=by
 let⟨b,q,o⟩:=qnf s.2.2.2.2.2 y v;let⟨⟨t,c⟩,e,u,r,a,l⟩:=s
 have n:=aV (P:=λ i=>∀d:Int,∃b,Ev (λ m k=>sQ m k d i t c e u r a l) b/\(b=O->X c<=8/\SmQ l)) c (by have:X c<=1000000000:=w;omega)
  (λ f d=>by
   by_cases D:X c<=8
   .by_cases C:d<=200
    .refine⟨b,aq ?_,λ h=>⟨D,o h⟩⟩;simp only[C2,wu];exact ai f (ag (gK.2 (by omega)) (ag (gK.2 C) (ah q (au _))))
    .refine⟨Y,aq ?_,λ h=>by cases h⟩;simp only[C2,wu];exact ai f (ag (gK.2 (by omega)) (ai (li.2 (by omega)) (au _)))
   .refine⟨Y,aq ?_,λ h=>by cases h⟩;simp only[C2,wu];exact ai f (ai (li.2 (by omega)) (au _)))
  (λ i x F G f A z B d=>by
   let⟨b,j,g⟩:=B (iw .i64 (aw d (X x)));refine⟨b,aq ?_,g⟩;simp only[C2,wu];rw[z];exact ag f (al A j))
 let⟨E,j,g⟩:=n 0 (aG _) 0;refine⟨E,aB ?_,g⟩;simp only[qfR,C3];exact bd (L:=λ m k=>sQ m k 0 0 t c e u r a l) j
section
open Lib
def qob(l r:aa T)(g:X l<2^62)(u:∀t∈l,size t<=1000000000)(s:∀t∈r,size t<=1000000000):Ev (λ m _=>FU m l r) (J (l=r)):=by
 apply aB;simp only[qi6,D8];refine av (λ h=>?_) λ h=>?_
 .rw[bnt,aC]at h;exact am (by rw[bv];intro a;subst a;exact h rfl)
 rw[bnf,aD]at h
 have b:=aV (P:=λ i=>Ev (λ m k=>tu m k l r i) (J (l.drop i=r.drop i))) l g
  (λ e=>by
   apply aq;simp only[SJ,D9];apply ai e;apply am;rw[bR,QW (by omega),bg rfl])
  (λ i x f p e o j q=>by
   apply aq;simp only[SJ,D9,ay];have d:i<X r:=by have:=(ft.1 f).1;omega
   have c:=aS d;refine ag e (al o (al (by rw[db];exact c) ?_));apply ah (lP x _ (u x (aK f)) (s _ (aK c)));rw[p,Na c,j];unfold cg;by_cases a:x=r[i]
   .rw[bg a];refine ai rfl (q.res ?_);rw[iX,cV,cV,a];exact⟨λ h=>by rw[h],λ h=>(QV h).2⟩
   .rw[bv a];refine ag rfl (am ?_);rw[bv];intro n;exact a (QV n).1)
 apply bd (L:=λ m k=>tu m k l r 0);exact(b 0 (aG _)).res (by rw[bH,bH])
end
def qqK(l:aa (aa aN))(g:X l<=1000000):Ev (λ m _=>EH m l l) O:=by
 have a:=aV (P:=λ i=>Ev (λ m k=>sV m k l l i) O) l (by omega)
  (λ b=>aq (by
   simp only[RL,Dt];exact ai b (au _)))
  (λ i x f h b c d e=>aq (by
   simp only[RL,Dt];rw[d];exact ag b (al c (al c (ai (bnf.2 (cU.2 rfl)) e)))))
 apply aB;simp only[qgJ,Dj];exact ai (bnf.2 (aD.2 rfl)) (bd (L:=λ m k=>sV m k l l 0) (a 0 (aG _)))
def qlA(l:aa Bd)(d:SmQ l):Ev (λ m _=>F4 m l l) O:=by
 have o:=d.1
 have b:=aV (P:=λ i=>Ev (λ m k=>tQ m k l l i) O) l (by omega)
  (λ c=>aq (by
   simp only[SN,EA];exact ai c (au _)))
  (λ i x e n c a f g=>aq (by
   let⟨j,h⟩:=d.2 x (aK e);simp only[SN,EA,ay];rw[f];exact ag c (al a (al a (ah (lP x.1 x.1) (ai (bnf.2 (eL.2 rfl)) (al a (al a (ah (lP x.2 x.2) (ai (bnf.2 (eL.2 rfl)) g))))))))))
 apply aB;simp only[qkw,ES];exact ai (bnf.2 (aD.2 rfl)) (bd (L:=λ m k=>tQ m k l l 0) (b 0 (aG _)))
def qlm(s:StV)(b:X s.1.2<=1000000)(a:SmQ s.2.2.2.2.2):Ev (λ m _=>F7 m s s) O:=by
 apply aB;simp only[qkl,Lc];exact ag (aD.2 rfl) (ah (qqK _ b) (ag rfl (ag (aD.2 rfl) (ag (aD.2 rfl) (ag (aD.2 rfl) (ag (aD.2 rfl) (ah (qlA _ a) (au _))))))))
def qrn(o:aa mB)(q:X o<=1000000)(h:∀e∈o,Oz e):Ev (λ m _=>C8 m o o) O:=by
 have b:=aV (P:=λ i=>Ev (λ m k=>sL m k o o i) O) o (by omega)
  (λ c=>aq (by
   simp only[Rl,CK];exact ai c (au _)))
  (λ i x g r c a l n=>aq (by
   let⟨p,f⟩:=h x (aK g);have d:∀t∈x.2.2,size t<=1000000000:=λ t j=>by have:=f t j;omega
   simp only[Rl,CK];rw[l];exact ag c (al a (al a (ai (bnf.2 (aD.2 rfl)) (al a (al a (ai (bnf.2 (aD.2 rfl)) (al a (al a (ah (qob x.2.2 x.2.2 (by omega) d d) (ai (by rw[bg rfl];rfl) n))))))))))))
 apply aB;simp only[qem,CI];exact ai (bnf.2 (aD.2 rfl)) (bd (L:=λ m k=>sL m k o o 0) (b 0 (aG _)))
def QA(t:T):Prop:=∃a so,t=T.mk 2 a so []/\aW t=0
def VM(a:aa aN)(so:Int):dD (T.mk 2 a so [])=[T.mk 2 a so []]:=by rw[pN];rfl
def Om:QP QA where
 all:=λ t ⟨a,so,e,h⟩ u b=>by
  rw[e,VM,cQ]at b;exact⟨a,so,b,by rw[b,<-e];exact h⟩
 gr:=λ t ⟨a,so,e,h⟩=>by
  rw[e];unfold oJ bP;rw[VM];rfl
 va:=λ t ⟨a,so,e,h⟩=>h
def qlz{t:T}(h:QA t):uU t=O:=by
 obtain⟨a,so,rfl,h⟩:=h;have d:bT (T.mk 2 a so [])=0:=by rw[xw];rfl
 have b:my (T.mk 2 a so [])=0:=by unfold my;rw[h,d];rfl
 have c:ch (T.mk 2 a so [])=(T.mk 2 a so [],0):=Aw (by show(2:Int)≠3;decide)
 have e:xt (T.mk 2 a so [])=(T.mk 2 a so [],0):=by
  rw[LU,ae (λ g=>g b),c,ae (λ g=>g rfl),ae (λ g=>g h)]
 unfold uU;rw[e,bg rfl,eL.2 rfl,GC];rfl
def qnR(x:T)(a:aa aN):nZ x (T.mk 2 a x.sort [])=O:=bg (.inr ⟨by show(2:Int)≠3;decide,rfl⟩)
def UI{x:T}{a:aa aN}(d:aW x=0)(c:x.kind=1)(g:dc a=O):Jc (x,T.mk 2 a x.sort [])/\QA (T.mk 2 a x.sort []):=by
 have f:=qm7 d c;have b:=(Uk a x.sort ⟨f.1,f.2.1⟩).2 g;refine⟨⟨d,c,λ e=>?_,b,?_⟩,a,x.sort,rfl,b⟩
 .have e:x=T.mk 2 a x.sort []:=e;rw[e]at c;cases c
 .unfold oV;rw[bg ⟨d,b,c⟩,qnR];rfl
def Yw:∀(l s:aa (aa aN)),qA s l=O->∀a∈l,dc a=O
 |[],_,_,a,c=>by cases c
 |b::r,s,h,a,c=>by
   simp only[qA,aJ]at h;obtain rfl|c:=bi.1 c
   .exact h.1.1
   .exact Yw r _ h.2 a c
def qmB(n:Nat)(a:n<100):(oc n).all (λ c=>gG (c.toNat:Int))=O:=by
 have:∀i:Fin 100,(oc i.1).all (λ c=>gG (c.toNat:Int))=O:=by decide
 exact this ⟨n,a⟩
def qq1{a:Nat}(c:a<100){x:T}(h:dc x.name=O)(d:X (frN a x)<=24:=by omega):dc (frN a x)=O:=by
 unfold dc at h |-
 rw[aJ,aJ,aJ]at h;let⟨⟨⟨b,i⟩,g⟩,f⟩:=h;have b:=bG b
 have e:(frN a x).getD 0 0=x.name.getD 0 0:=by
  unfold frN;rw[bA,dz,dz,dq b]
 rw[e,g,bg d,bg (show 0<X (frN a x) by unfold frN;rw[bA,aM];omega)];unfold frN;rw[qci,qci,f,qmB a c];rfl
def qjh{x:T}(h:aW x=0)(b:x.kind=1):dc x.name=O:=by
 have:=(LA (TQ h)).1;unfold fI na at this;rw[af (.inl b)]at this;split at this
 .cases this
 .cases a:dc x.name with
  |false=>rw[a]at this;cases this
  |true=>rfl
def qrc{r i n:Nat}(a:r<n:=by omega)(b:i<n:=by omega):iG r i<n:=by
 unfold iG;split
 .exact a
 .split<;>omega
def Xo(a:Nat)(b:aa (aa aN)):∀(l:aa T) (i:Nat),∀p∈cF a b i l,∃j,j<X l/\p.1∈l/\p.2=T.mk 2 (b.getD (iG a (i+j)) []) 1 []
 |[],_,p,c=>by cases c
 |x::l,i,p,c=>by
   obtain rfl|c:=bi.1 c
   .exact⟨0,Nat.zero_lt_succ _,aX ..,rfl⟩
   .let⟨j,f,e,d⟩:=Xo a b l (i+1) p c;exact⟨j+1,QI f,aT _ e,by rw[d,show i+1+j=i+(j+1) by omega]⟩
def qq5{a:cO}{s:jn}(E:SmM a)(y:jH a=0)(d:kC a s=O){c:Nat}(D:c<100)(r:(dw a s c).2=0):DoI QA (a.2.1++a.2.2.1) 12 (dw a s c).1:=by
 have i:=NC E y d;have q:=IY i c;have u:=(A1 y).1;rw[aJ]at u;have w:=My _ _ u.1;unfold kC at d;rw[aJ,aJ]at d;have o:=Yw _ _ d.2.2;unfold dw at r |-
 split at r
 .cases r
 rename_i g;rw[ae g];let⟨H,z,G⟩:=vB (cF a.1.toNat s.2 0 a.2.1++cq c a.2.2.1) [] List.Pairwise.nil q;have K:=i.p.1;have F:=i.f.1;have C:=i.r0;have B:=i.r1;refine⟨H,?_,λ x=>?_,λ b d=>?_⟩
 .rw[G,aM,pJ];unfold cq;rw[bO,eJ];omega
 .have:x∈((cF a.1.toNat s.2 0 a.2.1++cq c a.2.2.1).foldl cG []).map Prod.fst↔x∈(cF a.1.toNat s.2 0 a.2.1++cq c a.2.2.1).map Prod.fst:=by
    simp only[bF,z];exact⟨λ⟨b,d,e⟩=>⟨b,d.resolve_left (by simp),e⟩,λ⟨b,d,e⟩=>⟨b,.inr d,e⟩⟩
  rw[this,eK,MH,WX]
 .have d:b∈cF a.1.toNat s.2 0 a.2.1++cq c a.2.2.1:=((z b).1 d).resolve_left (by simp);obtain d|d:=aR.1 d
  .let⟨j,I,v,A⟩:=Xo _ _ _ _ b d;let⟨n,m⟩:=w b.1 (nC _ v);have k:iG a.1.toNat (0+j)<X s.2:=by rw[i.l];exact qrc
   have h:dc (s.2.getD (iG a.1.toNat (0+j)) [])=O:=by
    rw[dz,aS k];exact o _ (fX k)
   have:=UI m n h;rw[i.so b.1 v,<-A]at this;exact this
  .obtain⟨x,t,rfl⟩:=bF.1 d;let⟨n,m⟩:=w x (nA _ t);have L:¬ 24<X (frN c x):=λ e=>g (QF.2 ⟨x,t,bg e⟩);exact UI m n (qq1 D (qjh m n))
def zSt:StV:=((0,[]),(0,(0,(0,(0,[])))))
def qrY{a:cO}(m:SmM a)(n:jH a=0):∃b,a.2.2.2[0]?=Z b/\X b.2<=20/\SmB b/\dd b.2 (a.2.1++a.2.2.1)=0/\dX a 1=(mw ((a.2.1++a.2.2.1)++(b.2.map bY).flatten),0):=by
 let⟨o,f,d,_⟩:=A1 n;let⟨p,k⟩:=GA f;have i:a.2.2.2≠[]:=λ e=>by rw[e]at f;cases f
 let⟨b,r,c⟩:=List.exists_cons_of_ne_nil i;have j:b∈a.2.2.2:=by rw[c];exact aX ..
 have l:dd b.2 (a.2.1++a.2.2.1)=0:=by
  unfold dX oY at d;rw[dg]at d;split at d
  case isFalse h=>exact absurd d h
  rename_i h;rw[c,jh]at h;split at h
  case isFalse g=>exact absurd h g
  next g=>unfold fV at g;rw[af (.inl rfl),af rfl,bK]at g;exact g
 refine⟨b,by rw[c];rfl,k b j,m.b b j (k b j),l,?_⟩;unfold dX oY;rw[c];show(if jh O [b] _=0 then _ else _)=_
 have:jh O [b] (a.2.1++a.2.2.1)=0:=by
  rw[jh]
  have:fV O b (a.2.1++a.2.2.1)=0:=by
   unfold fV;rw[af (.inl rfl),af rfl,bK];exact l
  rw[af this];rfl
 rw[af this];show(mw _,(0:Int))=_;congr 2;show(a.2.1++a.2.2.1)++ll O [b]=_;simp[ll,lm]
def Zl:∀(v:aa Bd) (B:aa T),v.map Prod.fst=B->(∀b∈v,oJ b.2=O/\uU b.2=O)->lpB v B=O
 |[],_,_,_=>rfl
 |p::v,_,rfl,h=>by
   let⟨d,c⟩:=h p (aX ..);rw[aU,lpB,eL.2 rfl,d,c,Zl v _ rfl λ b a=>h b (aT _ a)];rfl
def qrG{v I:aa Bd}(a:iT v)(h:∀b∈I,b∈v):gtB v I=O:=by
 unfold gtB;rw[bz];intro b d;let⟨i,c,e⟩:=List.mem_iff_getElem.1 (h b d);have:=Zc a (i:=i) (p:=b) (by rw[aS c,e]);rw[this,QS,eL.2 rfl];rfl
def qnX{a:cO}{s:jn}(z:SmM a)(l:jH a=0)(u:kC a s=O){c:Nat}(w:c<100)(t:(dw a s c).2=0){b:eU}(f:dX a 1=(mw ((a.2.1++a.2.2.1)++(b.2.map bY).flatten),0)){n:Nat}{v:aa Bd}(d:DoI QA ((a.2.1++a.2.2.1)++(b.2.map bY).flatten) n v)(r:n<=200)(e:∀p∈(dw a s c).1,p∈v):
  Jl a (s,((c:Int),(0+1,((if(0:Int)+1=(X a.2.2.2:Int)then 2 else 1),(0,v)))))=0:=by
 have k:v.map Prod.fst=mw ((a.2.1++a.2.2.1)++(b.2.map bY).flatten):=by
  refine AO _ _ ?_ (G7 _) λ x=>by rw[AB,d.ks]
  exact qcj.2 d.asc
 have o:=d.len
 have A:0<X a.2.2.2:=by
  obtain h|h:=Qv (X a.2.2.2)
  .have:=(A1 l).2.1;rw[cR h]at this;cases this
  .exact h
 unfold Jl;rw[ae (λ g=>g l),ae (by rw[u];decide)]
 have q:mh a (s,((c:Int),(0+1,((if(0:Int)+1=(X a.2.2.2:Int)then 2 else 1),(0,v))))):=by
  unfold mh;dsimp only;refine⟨by omega,by omega,by omega,by omega,by omega,?_,?_,?_⟩
  .split<;>omega
  .split<;>omega
  .split<;>omega
 rw[ae (λ g=>g q)]
 have j:sbV v=0:=by
  unfold sbV;rw[ifN];exact Zy v U d.asc (λ y m=>by cases m) λ p i=>(d.ok p i).1
 have e1:(0+1:Int).toNat=1:=rfl;dsimp only;rw[ae (λ g=>g j),jT,ae (λ g=>g t),e1,f];dsimp only;rw[<-k,bO,ae (λ g=>g rfl)];unfold qt;dsimp only;rw[e1,f,jT];dsimp only;rw[<-k,af (Zl v _ rfl λ p i=>⟨Om.gr _ (d.ok p i).2,qlz (d.ok p i).2⟩),af (qrG d.asc e)]
def qat{b:cO}{s:jn}{a:Int}{r:StV×(aa mB×Int)}(k:Ev (λ m _=>wD m b s a) r)(j:Ev (λ m _=>zW m b s a) r)(i:X r.1.1.2<=1000000)(c:SmQ r.1.2.2.2.2.2)(d:X r.2.1<=1000000)(f:∀e∈r.2.1,Oz e)(g:r.2.2=0->Ev (λ m _=>tz m b r.1) 0)
  (n:Ev (λ m _=>xb m b) O) (l:Ev (λ m _=>wA m (s,((0:Int),((0:Int),((0:Int),((0:Int),([]:aa Bd))))))) O):Ev (λ m _=>law25_MachineStart m b s a) O:=by
 apply aB;simp only[Ka,zb,ay];refine ah zY (ai rfl (ah n (ai rfl (ah l (ai rfl (ah k (ah j (ag (aD.2 rfl) (ah (qlm r.1 i c) (ag rfl (ah (qrn r.2.1 d f) (ag rfl ?_))))))))))));refine av (λ _=>au _) λ h=>ah (g (aD.1 (bnf.1 h))) (au _)
def qnj(c:cO)(s:jn)(d:Int)(q:SmM c)(hs:X s.2<=8)(W:Ev (λ m _=>xb m c) O)(S:Ev (λ m _=>wA m (s,((0:Int),((0:Int),((0:Int),((0:Int),([]:aa Bd))))))) O):Ev (λ m _=>law25_MachineStart m c s d) O:=by
 have p:=Gz c q;have o:=qk6 c q;have k:=LG c s;have j:=qlL c s;have nq:SmQ ([]:aa Bd):=⟨aG _,λ _ h=>by cases h⟩
 have fail:∀e:Int,e≠0->Ev (λ m _=>wD m c s d) (zSt,([],e))->Ev (λ m _=>zW m c s d) (zSt,([],e))->Ev (λ m _=>law25_MachineStart m c s d) O:=λ e I h1 h2=>
  qat h1 h2 (aG _) nq (aG _) (λ _ h=>by cases h) (λ g=>absurd g I) W S
 by_cases l:jH c=0
 case neg=>
  refine fail _ l (aB ?_) (aB ?_)
  .simp only[sW,pu];exact ah p (ag (bnt.2 (aC.2 l)) (au _))
  .simp only[tC,pv];exact ah o (ag (bnt.2 (aC.2 l)) (au _))
 have i:ap (ieq (jH c) 0)=Y:=bnf.2 (aD.2 l);cases B:kC c s with
 |false=>
   rw[B]at k j;refine fail 1 (by decide) (aB ?_) (aB ?_)
   .simp only[sW,pu];exact ah p (ai i (ah k (ag rfl (au _))))
   .simp only[tC,pv];exact ah o (ai i (ah j (ag rfl (au _))))
 |true=>
   rw[B]at k j;by_cases M:d<0
   .refine fail 7 (by decide) (aB ?_) (aB ?_)
    .simp only[sW,pu];exact ah p (ai i (ah k (ai rfl (ag (aY.2 M) (au _)))))
    .simp only[tC,pv];exact ah o (ai i (ah j (ai rfl (ag (aY.2 M) (au _)))))
   by_cases L:99<d
   .refine fail 7 (by decide) (aB ?_) (aB ?_)
    .simp only[sW,pu];exact ah p (ai i (ah k (ai rfl (ai (ba.2 (by omega)) (ag (aY.2 L) (au _))))))
    .simp only[tC,pv];exact ah o (ai i (ah j (ai rfl (ai (ba.2 (by omega)) (ag (aY.2 L) (au _))))))
   obtain⟨n,rfl⟩:=BY (show 0<=d by omega);have D:n<100:=by omega
   have v:ilt (n:Int) 0=Y:=ba.2 (by omega);have u:ilt 99 (n:Int)=Y:=ba.2 (by omega);have z:=NC q l B;have H:=Wu c s n D z;have G:=qoJ c s n D z;by_cases w:(dw c s n).2=0
   case neg=>
    refine fail _ w (aB ?_) (aB ?_)
    .simp only[sW,pu];exact ah p (ai i (ah k (ai rfl (ai v (ai u (ah H (ag (bnt.2 (aC.2 w)) (au _))))))))
    .simp only[tC,pv];exact ah o (ai i (ah j (ai rfl (ai v (ai u (ah G (ag (bnt.2 (aC.2 w)) (au _))))))))
   have C:ap (ieq (dw c s n).2 0)=Y:=bnf.2 (aD.2 w);let⟨b,c1,c2,c3,R,c5⟩:=qrY q l;have P:=qq5 q l B D w;have y:∀a∈b.2,X a.2.2.2.2<=1000000:=λ a ha=>(c3.2.2 a ha).2.2.1;have A:60<=1\/∀t,QA t->size t<=1:=.inr λ t ⟨a,so,e,_⟩=>by rw[e,cM];exact ak _
   let⟨F,E⟩:=qqS Om c (s,((n:Int),((0:Int),((0:Int),((0:Int),(dw c s n).1))))) b c1 rfl (by show X s.2<=_;omega) 1 A P (by omega) c2 y R (T.mk 0 [] 0 []);cases f:doA b.2 (dw c s n).1 []with
   |none=>
     have f:doA b.2 ((s,((n:Int),((0:Int),((0:Int),((0:Int),(dw c s n).1))))):StV).2.2.2.2.2 []=U:=f;rw[f]at F E;refine fail 11 (by decide) (aB ?_) (aB ?_)
     .simp only[sW,pu];exact ah p (ai i (ah k (ai rfl (ai v (ai u (ah H (ai C (ah F (ag rfl (au _))))))))))
     .simp only[tC,pv];exact ah o (ai i (ah j (ai rfl (ai v (ai u (ah G (ai C (ah E (ag rfl (au _))))))))))
   |some r=>
     let⟨Q,g2,g3,g4⟩:=IE Om 1 A b.2 _ 12 _ [] r y P (by omega) R f;have f:doA b.2 ((s,((n:Int),((0:Int),((0:Int),((0:Int),(dw c s n).1))))):StV).2.2.2.2.2 []=Z r:=f;rw[f]at F E;have K:=qnX q l B D w c5 Q (by omega) g2;have x:=Q.sm (by omega);have N:=qo4 c (s,((n:Int),(0+1,((if(0:Int)+1=(X c.2.2.2:Int)then 2 else 1),(0,r.1))))) q (by show X s.2<=_;omega) x;rw[K]at N;refine qat (r:=((s,((n:Int),(0+1,((if(0:Int)+1=(X c.2.2.2:Int)then 2 else 1),(0,r.1))))),(r.2,0))) (aB ?_) (aB ?_) (by show X s.2<=_;omega) x (by show X r.2<=_;rw[eJ]at g3;omega) (λ e I=>(g4 e I).resolve_left (by simp)) (λ _=>N) W S
     .simp only[sW,pu];exact ah p (ai i (ah k (ai rfl (ai v (ai u (ah H (ai C (ah F (ai rfl (au _))))))))))
     .simp only[tC,pv];exact ah o (ai i (ah j (ai rfl (ai v (ai u (ah G (ai C (ah E (ai rfl (au _))))))))))
section
open RowKit ChangeShapes WideShapes ChangeAt WideMaps WideElems
open Go.Proofs.YtfepnknpfhiemaaGreatDoor.Rows (uptoBulk uptoBulkAll)
def U8(b o j:Nat):(⟨b,o,U⟩:Addr).add j=⟨b,o+j,U⟩:=by unfold Addr.add;split<;>simp_all
def Ty.wt:Ty->Nat
 |.int _|.bool=>1
 |.str=>16
 |.list _=>24
 |.term=>56
 |.pair a b=>a.wt+b.wt
 |.one a=>a.wt
 |.map _ _=>8
def Ty.wt_pos:∀a:Ty,0<a.wt
 |.int _|.bool=>Nat.one_pos
 |.list _=>(by decide:0<24)
 |.str=>(by decide:0<16)
 |.term=>(by decide:0<56)
 |.pair a b=>dl (Ty.wt_pos a) (kH _ _)
 |.one a=>Ty.wt_pos a
 |.map _ _=>(by decide:0<8)
mutual
def tyM(P:aZ):Nat->Ty->aQ->Bool
 |0,_,_=>Y
 |_+1,.int k,t=>match P.underlying t with
   |Z (.int d)=>J (d=k)&&J (P.cellsOf t=1)
   |_=>Y
 |_+1,.bool,t=>match P.underlying t with
   |Z .bool=>J (P.cellsOf t=1)
   |_=>Y
 |_+1,.str,t=>match P.underlying t with
   |Z .string=>J (P.cellsOf t=1)
   |_=>Y
 |n+1,.list a,t=>match P.underlying t with
   |Z (.slice e)=>J (P.cellsOf t=1)&&J (P.cellsOf e=a.size)&&J (a.wt<=P.bytesOf e)&&tyM P n a e
   |_=>Y
 |n+1,.term,t=>Ov P n t
 |n+1,.pair a b,t=>match P.underlying t with
   |Z (.struct c)=>J (P.cellsOf t=a.size+b.size)&&fsM P n (.pair a b) 0 (V c)
   |_=>Y
 |n+1,.one a,t=>match P.underlying t with
   |Z (.struct c)=>J (P.cellsOf t=a.size)&&fsM P n a 0 (V c)
   |_=>Y
 |_+1,.map _ _,_=>Y
def fsM(P:aZ):Nat->Ty->Nat->aa Field->Bool
 |0,_,_,_=>Y
 |n+1,τ,off,[f]=>J (f.offset=off)&&J (P.cellsOf f.type=τ.size)&&tyM P n τ f.type
 |n+1,.pair a b,off,f::g::r=>J (f.offset=off)&&J (P.cellsOf f.type=a.size)&&tyM P n a f.type&&fsM P n b (off+a.size) (g::r)
 |_+1,_,_,_=>Y
def Ov(P:aZ):Nat->aQ->Bool
 |0,_=>Y
 |n+1,t=>match P.underlying t with
   |Z (.struct f)=>match V f with
     |[d,c,b,a]=>J (P.cellsOf t=4)&&J (d.offset=0)&&J (c.offset=1)&&J (b.offset=2)&&J (a.offset=3)&&J (P.cellsOf a.type=1)&&
      tyM P n (.int .i64) d.type&&tyM P n .str c.type&&tyM P n (.int .i64) b.type&&(match P.underlying a.type with
      |Z (.slice e)=>J (e=t)&&J (0<P.bytesOf t)
      |_=>Y)
     |_=>Y
   |_=>Y
end
def jI:(τ:Ty)->Val τ->Prop
 |.int k,n=>k.min<=n/\n<=k.max
 |.bool,_=>True
 |.str,s=>X s<2^62
 |.term,t=>kD t
 |.list a,l=>(X l<2^62/\X l*a.wt<=2^47)/\∀x∈l,jI a x
 |.pair a b,p=>jI a p.1/\jI b p.2
 |.one a,v=>jI a v
 |.map _ _,_=>True
def szV:(τ:Ty)->Val τ->Nat
 |.list a,l=>(l.map (szV a)).sum+1
 |.pair a b,p=>szV a p.1+szV b p.2
 |.one a,v=>szV a v
 |_,_=>1
def ghW(W:aA):Gh:=⟨λ b o=>match W.cell? ⟨b,o,U⟩with|Z u=>if u.oneCell'=O then Z u else U|U=>U,0,λ _=>0,0,λ _=>0,λ _=>0,λ _=>0,λ _=>0,λ _=>0⟩
def XR{W:aA}{b o:Nat}{u:aj}:(ghW W).mem b o=Z u↔W.cell? ⟨b,o,U⟩=Z u/\u.oneCell'=O:=by
 show(match W.cell? ⟨b,o,U⟩with|Z u=>if u.oneCell'=O then Z u else U|U=>U)=Z u↔_;grind
def qqp(W:aA):Inv (ghW W) emp W:=
 ⟨rfl,rfl,λ b o u h=>XR.1 h,λ i cs h=>(by cases h),λ i j h=>absurd h (eY _),λ i h=>absurd h (eY _),λ r R h=>(by cases h),λ r a h=>absurd h (eY _)⟩
def cells_len{W:aA}{cj:Nat}{a:Addr}:∀{n:Nat}{cs:aa aj},W.cells? cj a n=Z cs->X cs=n/\∀j u,cs[j]?=Z u->W.cell? (a.add j)=Z u:=by
 intro n cs h;unfold World.cells? at h;split at h
 case isFalse=>cases h
 have c:=mapM_some_length h;rw[vW]at c;refine⟨c,λ j u b=>?_⟩;have d:=getElem?_lt b;have:=mapM_some_get h j j (by rw[qb2 (by omega)]);rw[this];exact b
section
variable {H:Type}{enc:aQ×aj->H}{P:aZ}{W:aA}
def OE(enc:aQ×aj->H)(P:aZ)(W:aA)(a:Nat):Prop:=∀(n:Nat) (τ:Ty) (t:aQ) (cs:aa aj) (x:DataW H×aa MemPlace),tyM P n τ t=O->DataW.trod enc P W 0 (λ _=>O) O a t cs=Z x->(∀k∈x.1.weights P t,k<=reachBytes)->
 ∃v:Val τ,RepL (ghW W) (aI τ v) cs/\(∀u∈cs,u.oneCell'=O)/\jI τ v/\szV τ v<=uptoBulk x.1
theorem xd(d:DataW H):1<=uptoBulk d:=by
 cases d with
 | lit l=>cases l<;>simp[uptoBulk]
 | nil=>simp[uptoBulk]
 | ptr d=>simp[uptoBulk]
 | slice elems spare=>simp[uptoBulk]
 | agg parts=>simp[uptoBulk]
 | iface t d=>simp[uptoBulk]
 | map entries=>simp[uptoBulk]
 | held h=>simp[uptoBulk]
def WI:∀(a:aa (DataW H)) (f:Nat->Nat),(∀i d,a[i]?=Z d->f i<=uptoBulk d)->((List.range (X a)).map f).sum<=uptoBulkAll a
 |[],f,_=>by simp[uptoBulkAll]
 |d::a,f,h=>by
   have j:=h 0 d rfl;have g:=WI a (λ i=>f (i+1)) λ i c b=>h (i+1) c b;rw[bE,qch,aU,jQ,gc];simp only[uptoBulkAll];have e:(List.map (f ∘ Nat.succ) (List.range (X a))).sum=((List.range (X a)).map λ i=>f (i+1)).sum:=rfl;omega
def Sq{e:aQ}:∀{ds:aa (DataW H)}{d:DataW H},d∈ds->∀n∈d.weights P e,n∈DataW.weightsAll P e ds
 |b::ds,d,h,n,a=>by
   simp only[DataW.weightsAll,aR];obtain rfl|h:=bi.1 h
   .exact Or.inl a
   .exact Or.inr (Sq h n a)
def Wt{n k:Nat}(h:n*k<=reachBytes)(a:0<k):n<2^62:=by
 have:n*1<=n*k:=qcb _ a;have b:reachBytes=140737488351232:=rfl;omega
def qnD{α d:Type}{n:Nat}{Q:Nat->α->d->Prop}(e:0<n)(h:∀i,i<n->∃a b,Q i a b):∃(f:Nat->α) (g:Nat->d),∀i,i<n->Q i (f i) (g i):=by
 let⟨k,j,_⟩:=h 0 e;refine⟨λ i=>if c:i<n then(h i c).choose else k,λ i=>if c:i<n then(h i c).choose_spec.choose else j,λ i c=>?_⟩;grind
def BH{Γ:Gh}{x:AV}{u:aj}(h:Rep Γ x u):RepL Γ [x] [u]:=vZ h RepL.nil
theorem VJ{fuel:Nat}(hA:∀ f,f<fuel->OE enc P W f){a:Ty}{t e:aQ}{m:Nat}{cs:List aj}{x:DataW H × List MemPlace}(ht:P.underlying t=some (.slice e))(hc:P.cellsOf e=a.size)(hb:0<P.bytesOf e)(hm:tyM P m a e=true)
  (h:DataW.trod enc P W 0 (λ _=>true) true fuel t cs=some x) (hw:∀ k∈x.1.weights P t,k<=reachBytes) :
  ∃(l:List (Val a)) (u:aj),cs=[u]/\u.oneCell'=true/\Rep (ghW W) (.sl a.size (l.map (aI a)) 1) u/\(l.length<2 ^ 62/\l.length*P.bytesOf e<=2 ^ 47)/\(∀ v∈l,jI a v)/\(l.map (szV a)).sum+1<=uptoBulk x.1:=by
 rcases DataW.trod_slice ht h with⟨rfl,rfl⟩ | ⟨ad,len,cap,elems,rest,n,rfl,rfl,rfl,_,hl,_,hlen,hel,_,_⟩
 ·refine⟨[],_,rfl,rfl,?_,⟨by simp,by simp⟩,(by intro v hv;cases hv),xd _⟩;exact .sl _ _ _ none 0 0 0 0 (λ _ _=>undef) rfl (λ _=>ak _) (λ h=>by omega) (by intro e he;cases he) (by intro e he;cases he) (iZ a) (.inl rfl) (by intro i e j x hi;cases hi) (by intro i e j x hi;cases hi)
 ·have hwt:(elems.length+rest.length)*P.bytesOf e<=reachBytes/\∀ k∈DataW.weightsAll P e (elems.map (·.1)),k<=reachBytes:=by
    simp only[DataW.weights,ht,bO,bi,aR]at hw;exact⟨hw _ (.inl rfl),λ k hk=>hw k (.inr (.inl hk))⟩
  have each:∀ i,i<len->∃(v:Val a) (us:List aj),RepL (ghW W) (aI a v) us/\(∀ u∈us,u.oneCell'=true)/\jI a v/\(∀ j u,us[j]?=some u->W.cell? ((ad.add (i*a.size)).add j)=some u)/\(∀ d,(elems.map (·.1))[i]?=some d->szV a v<=uptoBulk d):=by
   intro i hi;have h1:=hel i hi;rw[aS (by omega),hc,Option.bind_eq_some_iff]at h1;obtain⟨us,h2,h3⟩:=h1;obtain⟨q1,q2⟩:=cells_len h2;obtain⟨v,g1,g2,g3,g4⟩:=hA n (vS _) m a e us _ hm h3 λ k hk=>hwt.2 k (Sq (iY (fX _)) k hk);exact⟨v,us,g1,g2,g3,q2,λ d hd=>by rw[df,aS (by omega)]at hd;cases hd;exact g4⟩
  by_cases h0:len=0
  ·subst h0;refine⟨[],_,rfl,rfl,?_,⟨by simp,by simp⟩,(by intro v hv;cases hv),xd _⟩;exact .sl _ _ _ _ 0 cap 0 0 (λ _ _=>undef) rfl (λ _=>hl) (λ h=>by omega) (by intro e he;cases he) (by intro e he;cases he) (iZ a) (.inl rfl) (by intro i e j x hi;cases hi) (by intro i e j x hi;cases hi)
  obtain⟨b,o,rfl⟩:∃ b o,ad=⟨b,o,none⟩:=by
   obtain⟨v,us,g1,_,_,g4,_⟩:=each 0 (by omega);have hl1:us.length=a.size:=by rw[g1.len];exact gR a v
   have hp:=iZ a;have h1:=g4 0 _ (aS (by omega));rw[kG]at h1;have e1:(ad.add 0).add 0=ad:=rfl;rw[e1]at h1;obtain⟨b,o,sp⟩:=ad;unfold World.cell? at h1;split at h1
   ·split at h1
    ·cases h1
    ·rename_i hs;cases sp with
     | none=>exact⟨b,o,rfl⟩
     | some s=>simp at hs
   ·cases h1
  obtain⟨vv,uu,hvu⟩:=qnD (by omega:0<len) each;have w1 := λ i hi=>(hvu i hi).1;have w2 := λ i hi=>(hvu i hi).2.1;have w3 := λ i hi=>(hvu i hi).2.2.1;have w4 := λ i hi=>(hvu i hi).2.2.2.1;have w5 := λ i hi=>(hvu i hi).2.2.2.2;have hget:∀ i,i<len->((List.range len).map vv)[i]?=some (vv i) := λ i hi=>by rw[df,qb2 hi];rfl
  have hcell:∀(i:Nat) (e':List AV) (j:Nat) (y:AV),(((List.range len).map vv).map (aI a))[i]?=some e'->e'[j]?=some y->i<len/\∃ u,(uu i)[j]?=some u/\Rep (ghW W) y u/\(ghW W).mem b (o+i*a.size+j)=some u:=by
   intro i e' j y h1 h2;have hi:i<len:=by have:=getElem?_lt h1;simpa using this
   rw[df,hget i hi]at h1;cases h1;obtain⟨u,q1,q2⟩:=(w1 i hi).get h2;refine⟨hi,u,q1,q2,XR.2 ⟨?_,w2 i hi u (aK q1)⟩⟩;have:=w4 i hi j u q1;rw[U8,U8]at this;exact this
  refine⟨(List.range len).map vv,_,rfl,rfl,?_,?_,?_,?_⟩
  ·refine .sl _ _ _ _ len cap b o (λ i j=>(uu i).getD j undef) (by simp) (λ _=>hl) (λ h=>by omega) ?_ ?_ (iZ a) (.inr rfl) ?_ ?_
   ·intro e' he;obtain⟨v,_,rfl⟩:=bF.1 he;exact gR a v
   ·intro e' he;obtain⟨v,_,rfl⟩:=bF.1 he;exact ir a v
   ·intro i e' j y h1 h2;obtain⟨_,u,q1,q2,q3⟩:=hcell i e' j y h1 h2;rw[dz,q1];exact q3
   ·intro i e' j y h1 h2;obtain⟨_,u,q1,q2,q3⟩:=hcell i e' j y h1 h2;rw[dz,q1];exact q2
  ·rw[bO,vW,<- hlen];have hlb:elems.length*P.bytesOf e<=reachBytes:=bL (bZ _ (kH _ _)) hwt.1;exact⟨Wt hlb hb,bL hlb (by decide)⟩
  ·intro v hv;obtain⟨i,hi,rfl⟩:=bF.1 hv;exact w3 i (jS.1 hi)
  ·have hs:=WI (elems.map (·.1)) (λ i=>szV a (vv i)) λ i d hd=>w5 i (by have:=getElem?_lt hd;rw[bO]at this;omega) d hd;rw[bO,hlen]at hs;have e:(((List.range len).map vv).map (szV a)).sum=((List.range len).map λ i=>szV a (vv i)).sum:=by rw[jQ];rfl
   rw[e];simp only[uptoBulk];omega
theorem TY{fuel:Nat}(hA:OE enc P W fuel):∀(n:Nat) (τ : Ty) (off:Nat) (fs:List Field) (cs:List aj) (xs:List (DataW H × List MemPlace)),fsM P n τ off fs=true->xs.length=fs.length ->
  (∀(i:Nat) (f:Field),fs[i]?=some f->DataW.trod enc P W 0 (λ _=>true) true fuel f.type ((cs.drop f.offset).take (P.cellsOf f.type))=xs[i]?)->(∀ k∈DataW.weightsEach P (fs.map (·.type)) (xs.map (·.1)),k<=reachBytes)->off + τ.size<=cs.length ->
  ∃ v:Val τ,RepL (ghW W) (aI τ v) ((cs.drop off).take τ.size)/\(∀ u∈(cs.drop off).take τ.size,u.oneCell'=true)/\jI τ v/\szV τ v<=uptoBulkAll (xs.map (·.1)):=by
 intro n
 induction n with
 | zero=>intro τ off fs cs xs h;simp[fsM]at h
 | succ n ih =>
   intro τ off fs cs xs h hl hx hw hlen
   have one:∀ f x,fs=[f]->xs=[x]->(decide (f.offset=off)&&decide (P.cellsOf f.type = τ.size)&&tyM P n τ f.type)=true->∃ v:Val τ,RepL (ghW W) (aI τ v) ((cs.drop off).take τ.size)/\(∀ u∈(cs.drop off).take τ.size,u.oneCell'=true)/\jI τ v/\szV τ v<=uptoBulkAll (xs.map (·.1)):=by
    intro f x hf hxs h;simp only[aJ,cH]at h;obtain⟨⟨h1,h2⟩,h3⟩:=h;subst hf;subst hxs;have h4:=hx 0 f rfl;rw[h1,h2]at h4;obtain⟨v,q1,q2,q3,q4⟩:=hA n τ f.type _ x h3 h4 λ k hk=>hw k (by simp only[aU,Ju,DataW.weightsEach,bK];exact hk);exact⟨v,q1,q2,q3,q4⟩
   cases fs with
   | nil=>cases τ <;> simp[fsM]at h
   | cons f r =>
     cases xs with
     | nil=>simp at hl
     | cons x xs =>
       cases r with
       | nil =>
         have hxn:xs=[]:=cR (by simpa using hl);subst hxn;refine one f x rfl rfl ?_;cases τ <;> exact h
       | cons g r =>
         cases τ with
         | pair a b =>
           simp only[fsM,aJ,cH]at h;obtain⟨⟨⟨h1,h2⟩,h3⟩,h4⟩:=h;have h5:=hx 0 f rfl;rw[h1,h2]at h5;have hsz:off+(a.size+b.size)<=cs.length:=hlen;simp only[aU,DataW.weightsEach,aR]at hw;obtain⟨v,v1,v2,v3,v4⟩:=hA n a f.type _ x h3 h5 λ k hk=>hw k (.inl hk);obtain⟨v',v1',v2',v3',v4'⟩:=ih b (off+a.size) (g::r) cs xs h4 (by simpa using hl) (λ i f' hf'=>hx (i+1) f' hf') (λ k hk=>hw k (.inr hk)) (by omega)
           have e:(cs.drop off).take (a.size+b.size)=(cs.drop off).take a.size++(cs.drop (off+a.size)).take b.size:=by
            rw[List.take_add,List.drop_drop]
           refine⟨(v,v'),?_,?_,⟨v3,v3'⟩,(by simp only[szV,aU,uptoBulkAll];exact Nat.add_le_add v4 v4')⟩
           ·show RepL _ (aI a v++aI b v') ((cs.drop off).take (a.size+b.size));rw[e];exact v1.append v1'
           ·show ∀ u∈(cs.drop off).take (a.size+b.size),_;rw[e];intro u hu;exact(aR.1 hu).elim (v2 u) (v2' u)
         | _=>simp[fsM]at h
def qpO{Γ:Gh}(k:IntKind)(n:Int):RepL Γ (aI (.int k) n) [.int k n]:=BH (.v _ rfl)
def qpr:∀p,OE enc P W p:=by
 intro p
 induction p using Nat.strongRecOn with
 |ind p A=>
   have q:∀{k:IntKind}{t:aQ}{cs:aa aj}{x:DataW H×aa MemPlace}{f:Nat},P.underlying t=Z (.int k)->DataW.trod enc P W 0 (λ _=>O) O f t cs=Z x->∃n:Int,cs=[.int k n]/\k.min<=n/\n<=k.max:=by
    intro k t cs x f m h;obtain⟨n,rfl,_,S⟩:=DataW.trod_int m h;simp only[Lit.wf,aJ,cH]at S;exact⟨n,rfl,S⟩
   have D:∀{t:aQ}{cs:aa aj}{x:DataW H×aa MemPlace}{f:Nat},P.underlying t=Z .string->DataW.trod enc P W 0 (λ _=>O) O f t cs=Z x->(∀k∈x.1.weights P t,k<=reachBytes)->∃s:io,cs=[.string s]/\X (V s.data)<2^62:=by
    intro t cs x f m h G;obtain⟨s,rfl,rfl,_⟩:=DataW.trod_string m h;refine⟨s,rfl,?_⟩;have:=G (X (V s.data)) (by simp[DataW.weights]);exact Wt (k:=1) (by omega) (by decide)
   intro n τ t cs x j h G;cases n with
   |zero=>cases τ<;>simp[tyM]at j
   |succ n=>
   cases τ with
   |int k=>
     simp only[tyM]at j;split at j
     .next k' m=>simp only[aJ,cH]at j;obtain⟨rfl,_⟩:=j;obtain⟨i,rfl,o,z⟩:=q m h;exact⟨i,qpO _ _,(by intro u w;rw[cQ.1 w];rfl),⟨o,z⟩,xd _⟩
     .cases j
   |bool=>
     simp only[tyM]at j;split at j
     .next m=>obtain⟨b,rfl,_⟩:=DataW.trod_bool m h;exact⟨b,BH (.v _ rfl),(by intro u w;rw[cQ.1 w];rfl),trivial,xd _⟩
     .cases j
   |str=>
     simp only[tyM]at j;split at j
     .next m=>obtain⟨s,rfl,o⟩:=D m h G;refine⟨V s.data,?_,(by intro u w;rw[cQ.1 w];rfl),o,xd _⟩;exact BH (.v _ rfl)
     .cases j
   |list a=>
     simp only[tyM]at j;split at j
     .next e m=>simp only[aJ,cH]at j;let⟨⟨⟨_,y⟩,hb⟩,j⟩:=j;obtain⟨l,u,rfl,o,z,r,h4,h5⟩:=VJ (λ f hf=>A f hf) m y (dl (Ty.wt_pos a) hb) j h G;exact⟨l,BH z,(by intro u' w;rw[cQ.1 w];exact o),⟨⟨r.1,bL (qcb _ hb) r.2⟩,h4⟩,h5⟩
     .cases j
   |pair a b=>
     simp only[tyM]at j;split at j
     .next L m=>simp only[aJ,cH]at j;let⟨y,j⟩:=j;obtain⟨xs,f,rfl,rfl,o,z,r⟩:=DataW.trod_struct m h;have B:(Ty.pair a b).size=a.size+b.size:=rfl;let⟨v,Q,N,M,v4⟩:=TY (A f (vS _)) n (.pair a b) 0 (V L) cs xs j (by simpa using z) (λ i g E=>r i g (by simpa using E)) (by simpa[DataW.weights,m]using G) (by rw[o,y,B];omega);rw[bH,qE (by rw[o,y,B];exact ak _)]at Q N;exact⟨v,Q,N,M,(by simp only[szV,uptoBulk]at v4 |-;omega)⟩
     .cases j
   |one a=>
     simp only[tyM]at j;split at j
     .next L m=>simp only[aJ,cH]at j;let⟨y,j⟩:=j;obtain⟨xs,f,rfl,rfl,o,z,r⟩:=DataW.trod_struct m h;let⟨v,Q,N,M,v4⟩:=TY (A f (vS _)) n a 0 (V L) cs xs j (by simpa using z) (λ i g E=>r i g (by simpa using E)) (by simpa[DataW.weights,m]using G) (by rw[o,y];omega);rw[bH,qE (by rw[o,y];exact ak _)]at Q N;exact⟨v,Q,N,M,(by simp only[szV,uptoBulk]at v4 |-;omega)⟩
     .cases j
   |map a b=>simp[tyM]at j
   |term=>
     have ar:=j;simp only[tyM]at j;cases n with
     |zero=>simp[Ov]at j
     |succ n=>
     simp only[Ov]at j;split at j
     case h_2=>cases j
     rename_i L m;split at j
     case h_2=>cases j
     rename_i f0 f1 f2 f3 I;simp only[aJ,cH]at j;let⟨⟨⟨⟨⟨⟨⟨⟨⟨y,o0⟩,o1⟩,o2⟩,o3⟩,ax⟩,m0⟩,m1⟩,m2⟩,m3⟩:=j;split at m3
     case h_2=>cases m3
     rename_i e an;simp only[aJ,cH]at m3;obtain⟨rfl,hb⟩:=m3;obtain⟨xs,f,rfl,rfl,o,z,r⟩:=DataW.trod_struct m h;have B:L.size=4:=by rw[<-ig,I];rfl
     rw[B]at z;rw[y]at o
     obtain⟨c0,c1,c2,c3,rfl⟩:∃c0 c1 c2 c3,cs=[c0,c1,c2,c3]:=by
      match cs,o with
      |[a,b,c,d],_=>exact⟨a,b,c,d,rfl⟩
     obtain⟨x0,x1,x2,x3,rfl⟩:∃x0 x1 x2 x3,xs=[x0,x1,x2,x3]:=by
      match xs,z with
      |[a,b,c,d],_=>exact⟨a,b,c,d,rfl⟩
     have fg:∀i g,[f0,f1,f2,f3][i]?=Z g->L[i]?=Z g:=λ i g E=>by rw[<-I,gA]at E;exact E
     have s0:=r 0 f0 (fg 0 _ rfl);have s1:=r 1 f1 (fg 1 _ rfl);have s2:=r 2 f2 (fg 2 _ rfl);have s3:=r 3 f3 (fg 3 _ rfl)
     have K:∀{τ:Ty}{t:aQ},(∃k,τ=.int k)\/τ=.str->tyM P n τ t=O->P.cellsOf t=1:=by
      intro τ t ad j;cases n with
      |zero=>cases τ<;>simp[tyM]at j
      |succ n=>
        obtain⟨k,rfl⟩|rfl:=ad
        .simp only[tyM]at j;split at j
         .simp only[aJ,cH]at j;exact j.2
         .cases j
        .simp only[tyM]at j;split at j
         .exact bG j
         .cases j
     have C:∀{k:IntKind}{t:aQ},tyM P n (.int k) t=O->P.underlying t=Z (.int k):=by
      intro k t j;cases n with
      |zero=>simp[tyM]at j
      |succ n=>
        simp only[tyM]at j;split at j
        .next k' m=>simp only[aJ,cH]at j;rw[m,j.1]
        .cases j
     have R:∀{t:aQ},tyM P n .str t=O->P.underlying t=Z .string:=by
      intro t j;cases n with
      |zero=>simp[tyM]at j
      |succ n=>
        simp only[tyM]at j;split at j
        .assumption
        .cases j
     rw[o0,K (.inl ⟨_,rfl⟩) m0]at s0;rw[o1,K (.inr rfl) m1]at s1;rw[o2,K (.inl ⟨_,rfl⟩) m2]at s2;rw[o3,ax]at s3
     have F:∀k∈DataW.weightsEach P [f0.type,f1.type,f2.type,f3.type] [x0.1,x1.1,x2.1,x3.1],k<=reachBytes:=by
      intro k T;apply G k;simp only[DataW.weights,m,I];exact T
     simp only[DataW.weightsEach,aR]at F;let⟨i0,e0,_,_⟩:=q (C m0) (f:=f) (x:=x0) s0;let⟨i1,e1,b1⟩:=D (R m1) (f:=f) (x:=x1) s1 λ k T=>F k (.inr (.inl T));let⟨i2,e2,_,_⟩:=q (C m2) (f:=f) (x:=x2) s2;let⟨l,u,e3,b3,r3,l3,M,_⟩:=VJ (a:=.term) (λ g E=>A g (Nat.lt_succ_of_lt E)) an y hb ar s3 λ k T=>F k (.inr (.inr (.inr (.inl T))));have g0:c0=.int .i64 i0:=by simpa using e0
     have g1:c1=.string i1:=by simpa using e1
     have g2:c2=.int .i64 i2:=by simpa using e2
     have g3:c3=u:=by simpa using e3
     subst g0;subst g1;subst g2;subst g3;refine⟨.mk i0 (V i1.data) i2 l,?_,?_,(Yi _).2 ⟨l3.1,b1,M⟩,xd _⟩
     .show RepL _ (iD _) _;rw[iD,He];exact vZ (.v _ rfl) (vZ (.v _ rfl) (vZ (.v _ rfl) (BH r3)))
     .intro u w;simp only[bi,sq,or_false]at w;obtain rfl|rfl|rfl|rfl:=w
      .rfl
      .rfl
      .rfl
      .exact b3
end
end
abbrev sc:Ty:=.pair (.int .i64) (.pair .term (.pair .term (.pair (.int .i64) (.list .term))))
abbrev qk:Ty:=.pair .term (.list sc)
abbrev tMac:Ty:=.pair (.int .i64) (.pair (.list .term) (.pair (.list .term) (.list qk)))
def HO{a:Ty}(b:∀v:Val a,1<=szV a v):∀l:aa (Val a),X l<=(l.map (szV a)).sum
 |[]=>ak _
 |v::l=>by have:=HO b l;have:=b v;simp only[bE,aU,gc];omega
def Zo{a:Ty}:∀{l:aa (Val a)}{v:Val a},v∈l->szV a v<=(l.map (szV a)).sum
 |x::l,v,h=>by
   simp only[aU,gc];obtain rfl|h:=bi.1 h
   .omega
   .have:=Zo h;omega
def Nr(l:aa T):szV (.list .term) l=X l+1:=by
 show(l.map λ _=>1).sum+1=_
 induction l with
 |nil=>rfl
 |cons x l a=>simp only[aU,gc,bE];omega
def XS:∀A:aa fL,(A.map iI).flatten.length<=(A.map (szV sc)).sum
 |[]=>ak _
 |a::A=>by
   have h:=XS A;have e:szV sc a=1+(1+(1+(1+szV (.list .term) a.2.2.2.2))):=rfl;have b:X (iI a)=X a.2.2.2.2+2:=rfl;rw[Nr]at e;simp only[aU,ou,aM,gc];omega
def Ye:∀B:aa eU,X (gM B)<=(B.map (szV qk)).sum
 |[]=>ak _
 |b::B=>by
   have h:=Ye B;have a:=XS b.2;have e:szV qk b=1+((b.2.map (szV sc)).sum+1):=rfl;have e1:gM (b::B)=gB b++gM B:=rfl;have c:X (gB b)=(b.2.map iI).flatten.length+1:=rfl;rw[e1,aM];simp only[aU,gc];omega
def AW:∀(τ:Ty) (v:Val τ),1<=szV τ v
 |.int _,_|.bool,_|.str,_|.term,_|.map _ _,_=>ak _
 |.list a,l=>Nat.le_add_left _ _
 |.pair a b,p=>bL (AW a p.1) (kH _ _)
 |.one a,v=>AW a v
def qrf(c:cO)(r:jI tMac c)(v:szV tMac c<=1048576:=by omega):X c.2.2.2<=1000000000/\(∀b∈c.2.2.2,X b.2<=1000000000)/\X (c.2.1++c.2.2.1)+X (gM c.2.2.2)<=1000000000/\∀t∈(c.2.1++c.2.2.1)++gM c.2.2.2,kD t:=by
 let⟨g,P,F,B⟩:=c;have s:szV tMac (g,(P,(F,B)))=1+(szV (.list .term) P+(szV (.list .term) F+((B.map (szV qk)).sum+1))):=rfl;rw[Nr,Nr]at s;have w:=HO (a:=qk) (AW qk) B;have u:=Ye B;let⟨_,⟨_,o⟩,⟨_,p⟩,⟨_,q⟩⟩:=r;refine⟨?_,?_,?_,?_⟩
 .show (X B)<=_;omega
 .intro b f
  replace f:b∈B:=f
  have k:=Zo (a:=qk) f;have i:=HO (a:=sc) (AW sc) b.2;have e:szV qk b=1+((b.2.map (szV sc)).sum+1):=rfl;omega
 .show(P++F).length+X (gM B)<=_;rw[aM];omega
 .show ∀t∈(P++F)++gM B,kD t;intro t d;obtain d|d:=aR.1 d
  .obtain d|d:=aR.1 d
   .exact o t d
   .exact p t d
  .let⟨y,k,i⟩:=mI.1 d;obtain⟨b,n,rfl⟩:=bF.1 k;have fb:jI qk b:=q b n;obtain rfl|i:=bi.1 i
   .exact fb.1
   .let⟨z,m,h⟩:=mI.1 i;obtain⟨a,l,rfl⟩:=bF.1 m;have j:jI sc a:=fb.2.2 a l;obtain rfl|h:=bi.1 h
    .exact j.2.1
    .obtain rfl|h:=bi.1 h
     .exact j.2.2.1
     .exact j.2.2.2.2.2 t h
abbrev tSes:Ty:=.pair (.int .i64) (.list .str)
def machineStart_fit(d:cO)(s:jn)(b:Int)(q:jI tMac d)(w:jI tSes s)(v:jI (.int .i64) b)(u:szV tMac d+szV tSes s+szV (.int .i64) b<=1048576):Ev (λ m _=>law25_MachineStart m d s b) O:=by
 let⟨o,g,n,k⟩:=qrf d q;let⟨e,c⟩:=s;have e1:szV tSes (e,c)=1+((c.map (szV .str)).sum+1):=rfl;have l:=HO (a:=.str) (AW .str) c;let⟨t,f,j⟩:=qml d o g n k;let⟨r,i,p⟩:=qoR ((e,c),((0:Int),((0:Int),((0:Int),((0:Int),([]:aa Bd)))))) (by show X c<=_;omega) (aG _) (λ _ h=>by cases h);cases t with
 |false=>
   apply aB;simp only[Ka,zb,ay];exact ah zY (ai rfl (ah f (ag rfl (ah zY (au _)))))
 |true=>
   cases r with
   |false=>
     apply aB;simp only[Ka,zb,ay];exact ah zY (ai rfl (ah f (ai rfl (ah i (ag rfl (ah zY (au _)))))))
   |true=>exact qnj d (e,c) b (j rfl) (p rfl).1 f i
section
set_option maxRecDepth 100000
open Go.Proofs.Tryz (f3 f11 f12 f13 f14 f15 f16 f17 f18 f19 f22 f24 f25 f29 f30 f31 f35 f38 f41 f42 f43 f44 f45 f46 f47 f48 f49 f50 f51 f52 f53 f54 f55 f56 f57 f58 f59 f60 f61 f62 f64 f65 f66 f67 f68 f70 f71 f72 f73 f75 f76 f77 f78 f79 f85 f87 f90 f91 f92 f93 f94 f95 f98 f99 f100 f101 f102 f103 f104 f105 f106 f107 f108 f109 f111 f112 f113 f114 f115 f116 f117 f118 f119 f120 f121 f122 f123 f124 f126 f127 f128 f129 f130 f131 f135 f137 f138 f139 f140 f141 f142 f143 f145 f146 f147 f148 f149 f150 f151 f154 f155 f156 f157 f160 f161 f162 f163 f164 f166 f167 f168 f169 f174 f175 f178 f180 f183 f184 f185 f186 f187 f189 f190 f191 f203 f204 f205 f206 f207 f208 f209 f211 f212 f213 f223 f225 f237 f238 f239 f241 f247 f248 f249 f250 f251 f252 f253 f254 f255 f256 f257 f273 f274 f275 f277 f278 f283 f284 f287 f288 f291)
abbrev y19:Ty:=.int .u8
abbrev y6:Ty:=.int .i64
abbrev y18:Ty:=.list .str
abbrev y9:Ty:=.list .term
abbrev y4:Ty:=.pair .term .term
abbrev y17:Ty:=.pair .str y6
abbrev y7:Ty:=.pair .term y6
abbrev y8:Ty:=.list y4
abbrev y14:Ty:=.pair y6 y18
abbrev y12:Ty:=.list y7
abbrev y16:Ty:=.map y17 .term
abbrev y10:Ty:=.pair y6 (.pair y6 y9)
abbrev y13:Ty:=.list y10
abbrev y11:Ty:=.pair .str (.pair y6 (.pair y6 y6))
abbrev y15:Ty:=.list y11
abbrev y5:Ty:=.pair y6 (.pair .term (.pair .term (.pair y6 y9)))
abbrev y2:Ty:=.pair .term (.list y5)
abbrev y3:Ty:=.pair y14 (.pair y6 (.pair y6 (.pair y6 (.pair y6 y8))))
abbrev y1:Ty:=.pair y6 (.pair y9 (.pair y9 (.list y2)))
abbrev cK:Co:=.keep
abbrev cL:Co:=.list .term
abbrev cA:Co:=.box [cK,cK,cK,cL]
abbrev cB:Co:=.box [cK,cK,cK,.row .term Y]
def i3:FI:=⟨f3,[.val y1,.val y14,.val y6],[.bool],[],[],u3 law25_MachineStart⟩
def i11:FI:=⟨f11,[],[.bool],[],[],u0 zQ⟩
def i12:FI:=⟨f12,[.val y1],[.bool],[(6,[(1,.box [cK,.list .term,.list .term,.list y2]),(3,.row .term Y),(4,cK),(5,cK)]),(11,[(1,.box [cK,.list .term,.list .term,.list y2]),(3,.row .term Y),(4,cK),(5,cK),(6,cK)])],[],u1 xb⟩
def i13:FI:=⟨f13,[.val y3],[.bool],[(3,[(1,.box [cK,.list .str,cK,cK,cK,cK,.list y4]),(3,cK),(4,cK)])],[],u1 wA⟩
def i14:FI:=⟨f14,[.val y1,.val y14,.val y6],[y3,y13,y6],[],[],u3 wD⟩
def i15:FI:=⟨f15,[.val y1,.val y14,.val y6],[y3,y13,y6],[],[],u3 zW⟩
def i16:FI:=⟨f16,[.val y3,.val y3],[.bool],[],[],u2 F7⟩
def i17:FI:=⟨f17,[.val y13,.val y13],[.bool],[(4,[(0,.list y10),(1,.list y10),(5,cK)])],[],u2 C8⟩
def i18:FI:=⟨f18,[.val y1,.val y3],[y6],[(22,[(3,.box [cK,.list .str,cK,cK,cK,cK,.list y4]),(7,cL),(9,.list y4),(101,.list y4),(102,cK),(103,cK)]),(28,[(3,.box [cK,.list .str,cK,cK,cK,cK,.list y4]),(130,.list y4),(131,cK),(132,cK)])],[],u2 tz⟩
def i19:FI:=⟨f19,[.val y9,.val y6,.val y6],[.bool],[(4,[(0,cL),(2,cK),(7,cK)])],[],u3 An⟩
def i22:FI:=⟨f22,[.val y1,.val y3,.val .term],[y3,y13,y6],[],[],u3 KE⟩
def i24:FI:=⟨f24,[.val y6],[y14],[],[],u1 SY⟩
def i25:FI:=⟨f25,[.val y1,.val y3],[.term,y6],[],[],u2 SR⟩
def i29:FI:=⟨f29,[.val .term,.val .term],[.bool],[],[],u2 jy⟩
def i30:FI:=⟨f30,[.val y8,.val .term],[.term],[(2,[(0,.list y4),(3,cA),(4,cB),(5,cK)])],[],u2 Aq⟩
def i31:FI:=⟨f31,[.val .term,.val .term],[y8,y6],[(8,[(2,cA),(7,.row y4 Y),(9,cK)]),(11,[(2,cA),(7,.row y4 Y),(9,cK),(10,cK)]),(18,[(7,.row y4 Y),(11,.row y4 Y),(12,cL),(13,cK)]),(21,[(7,.row y4 Y),(11,.row y4 Y),(12,cL),(13,cK),(14,cK)])],[],u2 zO⟩
def i35:FI:=⟨f35,[.val y1,.val y3],[.bool],[],[],u2 Lo⟩
def i38:FI:=⟨f38,[.val .str,.val y6],[.term],[],[],u2 uq⟩
def i41:FI:=⟨f41,[.val y1],[y6],[],[],u1 zy⟩
def i42:FI:=⟨f42,[.val y1],[y6],[],[],u1 FE⟩
def i43:FI:=⟨f43,[],[y1],[],[],u0 S3⟩
def i44:FI:=⟨f44,[.val .str,.val y9],[.term],[],[],u2 ux⟩
def i45:FI:=⟨f45,[.val y8,.val y6,.val y6],[.bool],[(3,[(0,.list y4),(1,cK),(2,cK),(7,.row .term Y),(8,cK)])],[],u3 GP⟩
def i46:FI:=⟨f46,[.val y1,.val y14],[.bool],[(4,[(3,.box [cK,.list .str]),(22,.list .str),(23,cK),(24,cK)])],[],u2 zo⟩
def i47:FI:=⟨f47,[.val y1,.val y14,.val y6],[y8,y6],[(5,[(2,cK),(3,.box [cK,.list .term,.list .term,.list y2]),(4,.box [cK,.list .str]),(8,.box [.row y4 Y]),(9,.fn [.box []]),(10,.row .str Y),(27,cL),(28,cK),(29,cK)]),(12,[(2,cK),(8,.box [.row y4 Y]),(9,.fn [.box []]),(55,cL),(56,cK),(57,cK)])],[999999],u3 tw⟩
def i48:FI:=⟨f48,[.val y1,.val y3,.val .term],[y3,y13,.bool],[(9,[(3,.box [cK,.list .term,.list .term,.list y2]),(4,.box [cK,.list .str,cK,cK,cK,cK,.list y4]),(6,.box [cK,.row .str O,cK,cK,cK,cK,.row y4 O]),(10,.list y4),(12,.row y10 O),(43,.list y5),(44,cK),(45,cK)]),(14,[(3,.box [cK,.list .term,.list .term,.list y2]),(4,.box [cK,.list .str,cK,cK,cK,cK,.list y4]),(6,.box [cK,.row .str O,cK,cK,cK,cK,.row y4 O]),(10,.list y4),(12,.row y10 O),(17,.box [cK,cK,.row .term Y]),(43,.list y5),(44,cK),(45,cK),(57,cL),(58,cK),(59,cK)])],[],u3 Ag⟩
def i49:FI:=⟨f49,[.val y1,.val y14],[.bool],[(4,[(3,.box [cK,.list .str]),(5,cK)]),(9,[(3,.box [cK,.list .str]),(5,cK),(6,cK)])],[],u2 Gf⟩
def i50:FI:=⟨f50,[.val y1,.val y14,.val y6],[y8,y6],[(3,[(2,cK),(3,.box [cK,.list .term,.list .term,.list y2]),(4,.box [cK,.list .str]),(8,.list y4),(9,cK)]),(7,[(2,cK),(3,.box [cK,.list .term,.list .term,.list y2]),(8,.list y4),(10,cK)])],[72],u3 Ez⟩
def i51:FI:=⟨f51,[.val y1,.val y3,.val .term],[y3,y13,.bool],[(10,[(3,.box [cK,.list .term,.list .term,.list y2]),(4,.box [cK,.list .str,cK,cK,cK,cK,.list y4]),(6,.box [cK,.row .str Y,cK,cK,cK,cK,.row y4 Y]),(9,.box [cK,cK,cK,.list .term,.list y5]),(10,.list y4),(13,.row y10 Y),(14,cK)])],[],u3 Hg⟩
def i52:FI:=⟨f52,[.val y18,.val y18],[.bool],[(4,[(0,.list .str),(1,.list .str),(5,cK)])],[],u2 EH⟩
def i53:FI:=⟨f53,[.val y8,.val y8],[.bool],[(4,[(0,.list y4),(1,.list y4),(5,cK)])],[],u2 F4⟩
def i54:FI:=⟨f54,[.val y9,.val y9],[.bool],[(4,[(0,cL),(1,cL),(5,cK)])],[],u2 FU⟩
def i55:FI:=⟨f55,[.val y8],[y6],[(4,[(0,.list y4),(10,.list y4),(11,cK),(12,cK)])],[],u1 wJ⟩
def i56:FI:=⟨f56,[.val y1,.val y6],[y9,y6],[(3,[(6,.box [.row .term Y]),(21,.list y2),(22,cK),(23,cK)])],[],u2 tp⟩
def i57:FI:=⟨f57,[.val .term,.val .term],[.bool],[],[],u2 wH⟩
def i58:FI:=⟨f58,[.val .term],[y9],[],[],u1 pH⟩
def i59:FI:=⟨f59,[.val .term],[.bool],[],[],u1 zM⟩
def i60:FI:=⟨f60,[.val y8,.val .term],[.term,.bool],[],[],u2 wo⟩
def i61:FI:=⟨f61,[.val .term,.val y6],[y6],[(5,[(1,cK),(2,cA),(5,cK)])],[],u2 lJ⟩
def i62:FI:=⟨f62,[.val .str,.val y6],[.term],[],[],u2 Gt⟩
def i64:FI:=⟨f64,[.val y1,.val y6],[y9,y6],[(3,[(1,cK),(2,.box [cK,.list .term,.list .term,.list y2]),(6,.row .term Y),(7,cK)]),(10,[(1,cK),(2,.box [cK,.list .term,.list .term,.list y2]),(6,.row .term Y),(7,cK),(8,cK)])],[],u2 FD⟩
def i65:FI:=⟨f65,[.val .term,.val y9],[.bool],[(3,[(1,cL),(5,cL),(6,cK)])],[],u2 Fj⟩
def i66:FI:=⟨f66,[.val y9,.val .term],[.bool],[(2,[(0,cL),(3,cA),(5,cK)])],[],u2 ur⟩
def i67:FI:=⟨f67,[.val y1,.val y3],[y6],[],[],u2 Kx⟩
def i68:FI:=⟨f68,[.val y3],[y3],[],[],u1 zr⟩
def i70:FI:=⟨f70,[.val y8,.val .term],[.term],[(7,[(0,.list y4),(4,cB),(9,cB),(35,cL),(36,cK),(37,cK)])],[],u2 jr⟩
def i71:FI:=⟨f71,[.val .term],[y9],[],[],u1 pB⟩
def i72:FI:=⟨f72,[.val y8,.val .term,.val .term],[y8],[(6,[(0,.list y4),(4,cA),(5,cA),(7,.row y4 Y),(8,cK),(9,cK)])],[],u3 wR⟩
def i73:FI:=⟨f73,[.val y8,.val .term],[.term],[(6,[(0,.list y4),(3,cA),(4,cB),(5,cB),(6,cK)])],[],u2 kV⟩
def i75:FI:=⟨f75,[.val .term],[y9],[(3,[(1,cA),(3,.row .term O),(4,cK)])],[],u1 kU⟩
def i76:FI:=⟨f76,[.val .str],[y6],[(3,[(0,cK),(3,.list y11),(4,cK)])],[],u1 Ac⟩
def i77:FI:=⟨f77,[.val .term,.val .term],[y6],[(18,[(2,cA),(3,cA),(9,cK)])],[],u2 jY⟩
def i78:FI:=⟨f78,[.val .term,.val .term],[y6],[],[],u2 LQ⟩
def i79:SI:=⟨f79,[.val .term,.val .term,.row y4],[.one (.row y4),.one (.val .bool)],[(9,[(2,.row y4 Y),(3,cA),(4,cA),(8,cK),(9,cK)])],[],u3 lK⟩
def i85:FI:=⟨f85,[.val y6],[.str],[],[],u1 EX⟩
def i87:FI:=⟨f87,[.val y6],[.str],[],[],u1 Fh⟩
def i90:FI:=⟨f90,[.val y1],[.bool],[(3,[(1,.box [cK,.list .term,.list .term,.list y2]),(3,.plist .term),(19,.row .term O),(20,cK),(21,cK)]),(12,[(79,.list y2),(80,cK),(81,cK)]),(17,[(79,.list y2),(80,cK),(81,cK),(90,.list y5),(91,cK),(92,cK)])],[],u1 Ej⟩
def i91:FI:=⟨f91,[.val y1],[.bool],[(4,[(1,.box [cK,.list .term,.list .term,.list y2]),(3,cK)]),(9,[(1,.box [cK,.list .term,.list .term,.list y2]),(4,cK)])],[],u1 DH⟩
def i92:FI:=⟨f92,[.val y1],[.bool],[(4,[(1,.box [cK,.list .term,.list .term,.list y2]),(3,cK)]),(9,[(1,.box [cK,.list .term,.list .term,.list y2]),(3,cK),(4,cK)])],[],u1 Fc⟩
def i93:FI:=⟨f93,[.val .str],[.bool],[],[],u1 Ek⟩
def i94:FI:=⟨f94,[.val y18,.val .str],[.bool],[],[],u2 Cr⟩
def i95:SI:=⟨f95,[.val .term,.val .str,.box [.row y4]],[],[],[],u3 wn⟩
def i98:FI:=⟨f98,[.val y8,.val y8],[y8],[],[],u2 zg⟩
def i99:FI:=⟨f99,[.val y8,.val .term,.val .term],[y8,.bool],[],[],u3 zd⟩
def O8:FI:=⟨f100,[.val y8],[y8],[(3,[(3,.row y4 Y),(10,.list y4),(11,cK),(12,cK)])],[],u1 zc⟩
def P1:FI:=⟨f101,[.val .str],[.bool],[(4,[(0,cK),(3,cK)])],[],u1 tT⟩
def qbr:FI:=⟨f102,[.val y1,.val y6],[y6],[],[],u2 FJ⟩
def Pa:FI:=⟨f103,[.val y8,.val .term,.val .term],[y8,.bool],[(6,[(8,.list y4),(10,.list y4),(11,cK)])],[],u3 zU⟩
def PQ:FI:=⟨f104,[.val y8,.val y9],[y9],[(3,[(0,.list y4),(1,cL),(5,.row .term Y),(6,cK)])],[],u2 Aj⟩
def qal:FI:=⟨f105,[.val .term],[y6],[],[],u1 fA⟩
def Ql:FI:=⟨f106,[.val .term,.val .term],[y6],[(11,[(2,cA),(3,cA),(5,cK),(6,cK)])],[],u2 cW⟩
def qbD:FI:=⟨f107,[.val .term,.val .term],[.bool],[],[],u2 Ae⟩
def I9:SI:=⟨f108,[.val (.list y9)],[.one (.row .term)],[(3,[(0,.list y9),(3,cK),(9,.list y9),(10,cK),(11,cK)]),(11,[(6,.row .term Y),(25,.list y9),(26,cK),(27,cK)])],[],u1 qG⟩
def BD:SI:=⟨f109,[.box [.row .term],.val y2,.val .bool],[.one (.val y6)],[(6,[(0,.box [.row .term Y]),(25,.list y5),(26,cK),(27,cK)]),(20,[(0,.box [.row .term Y]),(25,.list y5),(26,cK),(27,cK),(72,cL),(73,cK),(74,cK)]),(23,[(0,.box [.row .term Y]),(25,.list y5),(26,cK),(27,cK),(72,cL),(73,cK),(74,cK),(79,cL),(80,cK),(81,cK)])],[],u3 CN⟩
def qao:FI:=⟨f111,[.val .term,.val y6],[y9],[],[],u2 Ly⟩
def qaA:FI:=⟨f112,[.val .term],[.term,y6],[],[],u1 EO⟩
def qau:FI:=⟨f113,[.val .term,.val .term],[.bool],[],[],u2 py⟩
def Pf:FI:=⟨f114,[.val .term,.fn],[.bool],[(4,[(1,cK),(18,cL),(19,cK),(20,cK)])],[],u1 kQ⟩
def NV:FI:=⟨f114,[.val .term,.fn],[.bool],[(4,[(1,cK),(18,cL),(19,cK),(20,cK)])],[],u1 kP⟩
def qay:FI:=⟨f115,[.val .str],[.bool],[],[],u1 D1⟩
def PG:FI:=⟨f116,[.val .str],[y11],[(2,[(0,cK),(2,.box [cK,cK,cK,cK]),(5,.list y11),(6,cK),(7,cK)])],[],u1 wE⟩
def Pp:FI:=⟨f117,[.val y8,.val .term,.fn],[y6,.bool],[(3,[(0,.list y4),(2,cK),(4,cA),(8,cK),(9,cK),(10,cK)])],[],u2 B8⟩
def qbJ:FI:=⟨f118,[.val y4,.val .term],[y6],[],[],u2 zf⟩
def PK:FI:=⟨f119,[.val .term],[.bool],[(5,[(3,cL),(4,cK)])],[],u1 ul⟩
def Jb:SI:=⟨f120,[.val y5,.row .term],[.one (.row .term),.one (.val y6)],[(11,[(1,.row .term Y),(6,cL),(7,cK)]),(16,[(1,.row .term Y),(6,cL),(8,cK)])],[],u2 Gq⟩
def O2:FI:=⟨f121,[.val y9],[y9],[(3,[(0,cL),(3,cL),(4,cK)])],[],u1 Ap⟩
def Qc:FI:=⟨f122,[.val .term,.val (.list y6)],[.term,y6],[(2,[(2,cA),(4,cB),(8,.list y6),(9,cK),(10,cK)])],[],u2 xG⟩
def P5:FI:=⟨f123,[.val .term,.val y6],[y9],[(4,[(1,cK),(5,.row .term Y),(6,cL),(7,cK)])],[],u2 Gc⟩
def qag:FI:=⟨f124,[.val .term],[y6],[],[],u1 FV⟩
def qbs:FI:=⟨f126,[.val .term],[y6],[],[],u1 uf⟩
def qaZ:FI:=⟨f127,[],[y15],[],[],u0 K6⟩
def qaG:FI:=⟨f128,[.val y6,.val y6],[y6],[],[],u2 tM⟩
def Qb:FI:=⟨f129,[.val .term],[y6],[(3,[(1,cA),(3,cK),(4,cK)])],[],u1 jx⟩
def qaH:FI:=⟨f130,[.val .term,.val .term],[.bool],[],[],u2 F3⟩
def qbl:FI:=⟨f131,[.val .term,.val .term],[.bool],[],[],u2 Gd⟩
def ZW:FI:=⟨f135,[.val y6],[.str],[],[],u1 Ri⟩
def qad:FI:=⟨f137,[.val y9,.val .term],[.bool],[],[],u2 ug⟩
def qbd:FI:=⟨f138,[.val .term],[.bool],[],[],u1 lH⟩
def PR:FI:=⟨f139,[.val y9],[.bool],[(2,[(0,cL),(3,cK)])],[],u1 th⟩
def qaK:FI:=⟨f140,[.val .term],[.bool],[],[],u1 pA⟩
def ZY:FI:=⟨f141,[.val y5],[.bool],[],[],u1 FT⟩
def Ps:FI:=⟨f142,[.val y18,.val .str],[y6],[(2,[(0,.list .str),(1,cK),(7,cK),(8,cK)])],[],u2 J0⟩
def Jj:SI:=⟨f143,[.val (.list y8)],[.one (.row y4)],[(3,[(0,.list y8),(3,cK),(9,.list y8),(10,cK),(11,cK)]),(11,[(6,.row y4 Y),(25,.list y8),(26,cK),(27,cK)])],[],u1 Ck⟩
def ZZ:FI:=⟨f145,[.val y4,.val y4],[y6],[],[],u2 lF⟩
def O3:FI:=⟨f146,[.val .term,.val .term],[y8,y6],[(9,[(7,.box []),(8,.row y4 Y),(25,cL),(26,cK),(27,cK)])],[],u2 zR⟩
def ZX:FI:=⟨f147,[.val y19],[.bool],[],[],u1 zK⟩
def qbu:FI:=⟨f148,[.val y19],[.bool],[],[],u1 FG⟩
def Pk:SI:=⟨f149,[.val .term,.val y6,.box [.val y6],.box [.val y6]],[.one (.val y6)],[(17,[(1,cK),(2,.box [cK]),(3,.box [cK]),(57,cL),(58,cK),(59,cK)])],[],u4 iu⟩
def qaI:FI:=⟨f150,[.val y6,.val y6],[y6],[],[],u2 uD⟩
def Qh:FI:=⟨f151,[.val .term],[y6],[(3,[(3,cK),(7,cL),(8,cK),(9,cK)])],[],u1 km⟩
def qaz:FI:=⟨f154,[.val .term],[.bool],[],[],u1 tg⟩
def Ph:SI:=⟨f155,[.box [.row .term],.val .term],[],[(2,[(0,.box [.row .term Y]),(7,cL),(8,cK),(9,cK)])],[],u2 zh⟩
def qa6:SI:=⟨f156,[.val y9,.clo 180 1,.box [.val .term]],[.one (.val .bool)],[],[],u2 JQ⟩
def ZC:SI:=⟨f156,[.val y9,.clo 190 0],[.one (.val .bool)],[],[],u1 Cg⟩
def Zd:SI:=⟨f156,[.val y9,.clo 157 0],[.one (.val .bool)],[],[],u1 yV⟩
def qaN:FI:=⟨f157,[.val .term],[.bool],[],[],u1 CF⟩
def OW:SI:=⟨f160,[.val .term,.clo 161 2,.box [.val y6],.box [.row .term]],[],[(3,[(1,.fn [.box [cK],.box [.row .term Y]]),(10,cL),(11,cK),(12,cK)])],[],u3 lG⟩
def qac:SI:=⟨f161,[.val .term,.box [.val y6],.box [.row .term]],[],[],[],u3 CJ⟩
def Py:SI:=⟨f162,[.row .term],[.one (.row .term)],[(4,[(0,.row .term Y),(9,cK),(10,cK)])],[],u1 Lj⟩
def qaE:FI:=⟨f163,[.val .term],[y6],[],[],u1 zJ⟩
def P8:FI:=⟨f164,[.val .term],[.term,y6],[(5,[(1,cA),(2,cB),(4,cB),(19,cL),(20,cK),(21,cK)])],[],u1 lI⟩
def Qg:FI:=⟨f166,[.val .term],[.bool],[(5,[(3,cL),(4,cK)])],[],u1 Ge⟩
def PY:FI:=⟨f167,[.val y9,.val .term],[y9],[(4,[(0,cL),(3,cA),(5,.row .term Y),(6,cK),(7,cK)])],[],u2 GN⟩
def PW:FI:=⟨f168,[.val .term],[.term],[(4,[(1,cB),(2,cB),(9,cL),(10,cK),(11,cK)])],[],u1 jv⟩
def Pb:FI:=⟨f169,[.val .term],[y6],[(11,[(1,cA),(4,cK)])],[],u1 kT⟩
def Qj:FI:=⟨f174,[.val .term],[y6],[(5,[(1,cA),(4,cK)])],[],u1 lM⟩
def Qa:FI:=⟨f175,[.val .term],[y6],[(3,[(1,cA),(3,cK),(4,cK)])],[],u1 lL⟩
def ZV:FI:=⟨f178,[.val y6,.val y6],[.str],[],[],u2 Q6⟩
def qbB:SI:=⟨f180,[.val .term,.box [.val .term]],[.one (.val .bool)],[],[],u2 CT⟩
def qbf:FI:=⟨f183,[.val .term,.val .term],[y6],[],[],u2 Lu⟩
def Pt:SI:=⟨f184,[.val .term,.val .term,.box [.val y16]],[.one (.val .bool)],[(10,[(2,.box []),(3,cA),(4,cA),(39,cK),(40,cK)])],[],u3 mL⟩
def qaw:FI:=⟨f185,[.val .term],[y17],[],[],u1 wW⟩
def qaa:FI:=⟨f186,[.val .term,.val .term],[.bool],[],[],u2 uk⟩
def Qp:FI:=⟨f187,[.val .str],[.bool],[(4,[(0,cK),(38,cK),(39,cK)])],[],u1 wK⟩
def qaU:FI:=⟨f189,[.val .term],[.bool],[],[],u1 FM⟩
def qbC:FI:=⟨f190,[.val .term],[.bool],[],[],u1 Ko⟩
def O5:SI:=⟨f191,[.val y9,.clo 180 1,.box [.val .term]],[.one (.val y6)],[(2,[(0,cL),(1,.fn [cA]),(7,cK),(8,cK)])],[],u2 JV⟩
def N5:SI:=⟨f191,[.val y9,.clo 190 0],[.one (.val y6)],[(2,[(0,cL),(1,cK),(7,cK),(8,cK)])],[],u1 JX⟩
def N7:SI:=⟨f191,[.val y9,.clo 157 0],[.one (.val y6)],[(2,[(0,cL),(1,cK),(7,cK),(8,cK)])],[],u1 JW⟩
def qas:FI:=⟨f203,[.val .term,.val .term],[.bool],[],[],u2 nF⟩
def I6:FI:=⟨f204,[.val .term],[y6],[(13,[(1,cA),(38,cL),(39,cK),(40,cK)]),(22,[(62,cL),(63,cK),(64,cK)])],[],u1 fy⟩
def qa4:FI:=⟨f205,[.val .term],[.term],[],[],u1 zp⟩
def PU:FI:=⟨f206,[.val y9],[.term,y6],[(6,[(2,.box [cK,cK,cK,.row .term O]),(5,cL),(15,cL),(16,cK),(17,cK)])],[],u1 HX⟩
def qaB:FI:=⟨f207,[.val .term],[y12,y6],[],[],u1 tU⟩
def Bp:FI:=⟨f208,[.val y12],[.term,y6],[(6,[(2,cB),(5,.row .term Y),(6,.row .term Y),(18,.list y7),(19,cK),(20,cK)]),(11,[(2,cB),(5,.row .term Y),(6,.row .term Y),(8,.box [cK,cK,cK,.list .term,cK]),(18,.list y7),(19,cK),(20,cK),(34,cK),(35,cK)]),(15,[(2,cB),(5,.row .term Y),(6,.row .term Y),(8,.box [cK,cK,cK,.list .term,cK]),(18,.list y7),(19,cK),(20,cK),(46,cK),(47,cK)])],[],u1 qP⟩
def qai:FI:=⟨f209,[.val .term,.val .term],[.term,y6],[],[],u2 Fy⟩
def qaD:FI:=⟨f211,[.val .str],[.bool],[],[],u1 DQ⟩
def Qm:FI:=⟨f212,[.val .term],[.bool],[(3,[(1,cA),(3,.list y11),(4,cK)])],[],u1 F2⟩
def Pn:FI:=⟨f213,[.val .term],[.bool],[(4,[(1,cA),(3,cK)])],[],u1 E8⟩
def qaM:FI:=⟨f223,[.val .term],[y6],[],[],u1 Gg⟩
def qaT:FI:=⟨f225,[.val y6],[.str],[],[],u1 Rc⟩
def qbw:FI:=⟨f237,[.val .term],[.bool],[],[],u1 Lv⟩
def ZS:FI:=⟨f238,[.val .term,.val .term],[.bool],[],[],u2 FN⟩
def qa0:FI:=⟨f239,[.val y19],[.bool],[],[],u1 Am⟩
def qaW:FI:=⟨f241,[.val .str],[.bool],[],[],u1 Ew⟩
def qbF:FI:=⟨f247,[.val .term,.val .str],[.bool],[],[],u2 ja⟩
def Qf:FI:=⟨f248,[.val y9,.val y9],[y6],[(4,[(14,.row .term Y),(15,cK),(16,cK)])],[],u2 GF⟩
def PE:FI:=⟨f249,[.val y9,.val y9],[y9],[(2,[(0,cL),(1,cL),(5,.row .term Y)])],[],u2 Az⟩
def P6:FI:=⟨f250,[.val .term],[y9],[(6,[(3,cL),(31,cL),(32,cK),(33,cK)])],[],u1 kS⟩
def PD:FI:=⟨f251,[.val y9],[y9],[(3,[(3,.row .term Y),(9,cL),(10,cK),(11,cK)])],[],u1 kX⟩
def PN:SI:=⟨f252,[.row y7,.val .term,.val y6],[.one (.row y7),.one (.val .bool)],[(12,[(0,.row y7 Y),(2,cK),(52,cL),(53,cK),(54,cK)])],[],u3 kR⟩
def OU:FI:=⟨f253,[.val y12],[y6],[(4,[(0,.list y7),(9,.list y7),(10,cK),(11,cK)])],[],u1 wB⟩
def Pm:FI:=⟨f254,[.val .term],[.term],[(3,[(1,cB),(2,cB),(10,.row .term Y),(11,cK),(12,cK)])],[],u1 jt⟩
def qbv:FI:=⟨f255,[.val .str,.val y9],[.term],[],[],u2 zH⟩
def Qn:FI:=⟨f256,[.val y12,.val y12],[y12,y6],[(9,[(8,.row y7 Y),(23,.list y7),(24,cK),(25,cK)])],[],u2 Fs⟩
def qbG:FI:=⟨f257,[.val .str,.val y9],[.term],[],[],u2 Af⟩
def PM:FI:=⟨f273,[.val .term,.val (.list y6),.val .term],[.term,y6],[(4,[(5,cA),(6,cB),(8,cA),(9,.box []),(14,.list y6),(15,cK),(16,cK)])],[],u3 E0⟩
def qaq:FI:=⟨f274,[.val .term],[.bool],[],[],u1 zl⟩
def qa7:SI:=⟨f275,[.row y7,.val y7],[.one (.row y7)],[],[],u2 zm⟩
def Pj:SI:=⟨f277,[.val y12],[.one (.row y7)],[(3,[(3,.row y7 Y),(6,.list y7),(7,cK),(8,cK)])],[],u1 DI⟩
def qaJ:FI:=⟨f278,[.val y12],[y12,y6],[],[],u1 DG⟩
def O6:FI:=⟨f283,[.val y12,.val .term,.fn],[y6,.bool],[(3,[(0,.list y7),(2,cK),(4,cA),(8,cK),(9,cK),(10,cK)])],[],u2 Cb⟩
def qbH:FI:=⟨f284,[.val y7,.val .term],[y6],[],[],u2 zj⟩
def qbq:FI:=⟨f287,[.val y12,.fn],[.bool],[],[],u1 Cc⟩
def qah:FI:=⟨f288,[.val y7],[.bool],[],[],u1 CX⟩
def P9:FI:=⟨f291,[.val y12,.fn],[y6],[(2,[(0,.list y7),(1,cK),(7,cK),(8,cK)])],[],u1 Ci⟩
def elT(f:Nat):ab Ty:=
cond (Nat.blt f 83)
 (cond (Nat.blt f 32)
 (cond (Nat.blt f 23)
 (cond (Nat.beq f 22) (Z .term) (U))
 (cond (Nat.blt f 26)
 (cond (Nat.beq f 23) (Z y2) (U))
 (cond (Nat.beq f 26) (Z .str) (U))))
 (cond (Nat.blt f 43)
 (cond (Nat.blt f 35)
 (cond (Nat.beq f 32) (Z y4) (U))
 (cond (Nat.beq f 35) (Z y10) (U)))
 (cond (Nat.blt f 76)
 (cond (Nat.beq f 43) (Z y19) (U))
 (cond (Nat.beq f 76) (Z y5) (U)))))
 (cond (Nat.blt f 186)
 (cond (Nat.blt f 159)
 (cond (Nat.blt f 109)
 (cond (Nat.beq f 83) (Z y4) (U))
 (cond (Nat.beq f 109) (Z y4) (U)))
 (cond (Nat.blt f 177)
 (cond (Nat.beq f 159) (Z y11) (U))
 (cond (Nat.beq f 177) (Z y9) (U))))
 (cond (Nat.blt f 195)
 (cond (Nat.blt f 192)
 (cond (Nat.beq f 186) (Z y6) (U))
 (cond (Nat.beq f 192) (Z y8) (U)))
 (cond (Nat.blt f 213)
 (cond (Nat.beq f 195) (Z y16) (U))
 (cond (Nat.beq f 213) (Z y7) (U)))))
def tb:Tb:=⟨tyT,elT,.node 126 (.node 70 (.node 45 (.node 24 (.node 15 (.node 12 (.node 11 (tL 3 (eP i3)) .leaf (eP i11)) (.node 14 (tL 13 (eP i13)) .leaf (eP i14)) (eP i12)) (.node 18 (.node 17 (tL 16 (eP i16)) .leaf (eP i17)) (.node 22 (tL 19 (eP i19)) .leaf (eP i22)) (eP i18)) (eP i15)) (.node 38 (.node 30 (.node 29 (tL 25 (eP i25)) .leaf (eP i29)) (.node 35 (tL 31 (eP i31)) .leaf (eP i35)) (eP i30)) (.node 43 (.node 42 (tL 41 (eP i41)) .leaf (eP i42)) (tL 44 (eP i44)) (eP i43)) (eP i38)) (eP i24)) (.node 57 (.node 51 (.node 48 (.node 47 (tL 46 (eP i46)) .leaf (eP i47)) (.node 50 (tL 49 (eP i49)) .leaf (eP i50)) (eP i48)) (.node 54 (.node 53 (tL 52 (eP i52)) .leaf (eP i53)) (.node 56 (tL 55 (eP i55)) .leaf (eP i56)) (eP i54)) (eP i51)) (.node 64 (.node 60 (.node 59 (tL 58 (eP i58)) .leaf (eP i59)) (.node 62 (tL 61 (eP i61)) .leaf (eP i62)) (eP i60)) (.node 67 (.node 66 (tL 65 (eP i65)) .leaf (eP i66)) (tL 68 (eP i68)) (eP i67)) (eP i64)) (eP i57)) (eP i45)) (.node 102 (.node 91 (.node 77 (.node 73 (.node 72 (tL 71 (eP i71)) .leaf (eP i72)) (.node 76 (tL 75 (eP i75)) .leaf (eP i76)) (eP i73)) (.node 85 (.node 79 (tL 78 (eP i78)) .leaf (eS i79)) (.node 90 (tL 87 (eP i87)) .leaf (eP i90)) (eP i85)) (eP i77)) (.node 97 (.node 94 (.node 93 (tL 92 (eP i92)) .leaf (eP i93)) (.node 96 (tL 95 (eS i95)) .leaf (.hs ⟨[.row .str,.val y6,.val y6],[.one (.row .str)],λ x=>wk 0 x.1 x.2.1 x.2.2.1⟩)) (eP i94)) (.node 100 (.node 99 (tL 98 (eP i98)) .leaf (eP i99)) (tL 101 (eP P1)) (eP O8)) (.hs ⟨[.val y18],[.one (.row .str)],λ x=>pt 0 x.1⟩)) (eP i91)) (.node 114 (.node 108 (.node 105 (.node 104 (tL 103 (eP Pa)) .leaf (eP PQ)) (.node 107 (tL 106 (eP Ql)) .leaf (eP qbD)) (eP qal)) (.node 111 (.node 110 (tL 109 (eS BD)) .leaf (.hm λ m=>⟨.term,[.clo 106 0],λ x=>sF m x.1⟩)) (.node 113 (tL 112 (eP qaA)) .leaf (eP qau)) (eP qao)) (eS I9)) (.node 120 (.node 117 (.node 116 (tL 115 (eP qay)) .leaf (eP PG)) (.node 119 (tL 118 (eP qbJ)) .leaf (eP PK)) (.pure [([118],Pp)])) (.node 123 (.node 122 (tL 121 (eP O2)) .leaf (eP Qc)) (tL 124 (eP qag)) (eP P5)) (eS Jb)) (.pure [([241],Pf),([115],NV)])) (eP qbr)) (eP i70)) (.node 186 (.node 153 (.node 142 (.node 135 (.node 129 (.node 128 (tL 127 (eP qaZ)) .leaf (eP qaG)) (.node 131 (tL 130 (eP qaH)) .leaf (eP qbl)) (eP Qb)) (.node 139 (.node 138 (tL 137 (eP qad)) .leaf (eP qbd)) (.node 141 (tL 140 (eP qaK)) .leaf (eP ZY)) (eP PR)) (eP ZW)) (.node 148 (.node 145 (.node 144 (tL 143 (eS Jj)) .leaf (.hm λ m=>⟨y4,[.clo 145 0],λ x=>wc m x.1⟩)) (.node 147 (tL 146 (eP O3)) .leaf (eP ZX)) (eP ZZ)) (.node 151 (.node 150 (tL 149 (eS Pk)) .leaf (eP qaI)) (.node 152 .leaf .leaf (.hp ⟨[.val .str,.val .str],[y6],λ x=>strings_Compare 0 x.1 x.2.1⟩)) (eP Qh)) (eP qbu)) (eP Ps)) (.node 167 (.node 161 (.node 156 (.node 155 (tL 154 (eP qaz)) .leaf (eS Ph)) (.node 160 (tL 157 (eP qaN)) .leaf (eS OW)) (.sts [([180],qa6),([190],ZC),([157],Zd)])) (.node 164 (.node 163 (tL 162 (eS Py)) .leaf (eP qaE)) (.node 166 (.node 165 .leaf .leaf (.hp ⟨[],[y15],λ x=>KX 0⟩)) .leaf (eP Qg)) (eP P8)) (eS qac)) (.node 180 (.node 174 (.node 169 (tL 168 (eP PW)) .leaf (eP Pb)) (.node 178 (tL 175 (eP Qa)) .leaf (eP ZV)) (eP Qj)) (.node 184 (.node 183 (.node 181 .leaf .leaf (.hs ⟨[.nil,.val y6],[.one (.row y4)],λ x=>wg 0 x.1⟩)) .leaf (eP qbf)) (tL 185 (eP qaw)) (eS Pt)) (eS qbB)) (eP PY)) (.hs ⟨[.nil,.val y6],[.one (.row .term)],λ x=>yY 0 x.1⟩)) (.node 248 (.node 209 (.node 203 (.node 190 (.node 189 (tL 187 (eP Qp)) .leaf (eP qaU)) (.node 202 (.node 191 .leaf .leaf (.sts [([180],O5),([190],N5),([157],N7)])) .leaf (.hx λ m=>⟨[.row .term,.clo 203 0],[.one (.row .term)],λ x=>we m x.1⟩)) (eP qbC)) (.node 206 (.node 205 (tL 204 (eP I6)) .leaf (eP qa4)) (.node 208 (tL 207 (eP qaB)) .leaf (eP Bp)) (eP PU)) (eP qas)) (.node 237 (.node 213 (.node 212 (tL 211 (eP qaD)) .leaf (eP Qm)) (.node 225 (tL 223 (eP qaM)) .leaf (eP qaT)) (eP Pn)) (.node 241 (.node 239 (tL 238 (eP ZS)) .leaf (eP qa0)) (tL 247 (eP qbF)) (eP qaW)) (eP qbw)) (eP qai)) (.node 275 (.node 254 (.node 251 (.node 250 (tL 249 (eP PE)) .leaf (eP P6)) (.node 253 (tL 252 (eS PN)) .leaf (eP OU)) (eP PD)) (.node 257 (.node 256 (tL 255 (eP qbv)) .leaf (eP Qn)) (.node 274 (tL 273 (eP PM)) .leaf (eP qaq)) (eP qbG)) (eP Pm)) (.node 285 (.node 278 (.node 277 (.node 276 .leaf .leaf (.hs ⟨[.val y9],[.one (.row .term)],λ x=>wj 0 x.1⟩)) .leaf (eS Pj)) (.node 284 (tL 283 (.pure [([284],O6)])) .leaf (eP qbH)) (eP qaJ)) (.node 288 (.node 287 (.node 286 .leaf .leaf (.hs ⟨[.row y7,.val y6,.val y6],[.one (.row y7)],λ x=>wi 0 x.1 x.2.1 x.2.2.1⟩)) .leaf (.pure [([288],qbq)])) (tL 291 (.pure [([288],P9)])) (eP qah)) (.hs ⟨[.row y7,.val y6,.val y12],[.one (.row y7)],λ x=>wh 0 x.1 x.2.1 x.2.2.1⟩)) (eS qa7)) (eP Qf)) (eP qaa)) (eP qbs)⟩
end
section
set_option maxRecDepth 100000
universe u v
def bf{α:Type}[NF α]{M:Nat->α}{s:α->α}{k:Nat}(b:NF.z=M 0:=by rfl)(a:(λ k=>M (k+1))=λ k=>s (M k):=by kernel_rfl):be s k=M k:=qr8 b (λ k=>sw a k) k
def okk{b:Tb}{c:aa Nat}{i:FI}(h:(λ m a=>i.F (m+1) a)=λ m a=>b.runP1 m i c a:=by kernel_rfl):okP b c i:=λ m a=>sw (sw h m) a
def okq{b:Tb}{i:SI}(h:(λ m a=>i.F (m+1) a)=λ m a=>b.runS1 m i a:=by kernel_rfl):okS b i:=λ m a=>sw (sw h m) a
def tK{α:Sort u}{a:Sort v}{x y:α}{c:a}(f:α->a)(h:x=y)(e:f y=c:=by kernel_rfl):f x=c:=(bB f h).trans e
def Q4(m k x0 x1 x2 x3 x4):=tb.QL I9 3 m k [(0,.sl y9 x0 1),(3,vI x1),(9,.sl y9 x2 1),(10,vI x3),(11,vI x4)] ⟨[],[]⟩
def Q5(m k x0 x1 x2 x3):=tb.QL I9 11 m k [(6,.row 0 0),(25,.sl y9 x0 1),(26,vI x1),(27,vI x2)] ⟨[],[⟨.term,x3,0,0,Y⟩]⟩
def qc4(m k):jU m k=(Q4 m k,Q5 m k):=bf (M:=λ k=>(Q4 m k,Q5 m k))
def qc6:okS tb I9:=λ m a=>tK (x:=jU m m) (λ L=>Cn m L.1 L.2 a.1) (qc4 m m)
def qdz:okS tb qac:=okq
def qdZ(m k x0 x1 x2 x3 x4):=tb.QL OW 3 m k [(1,.fn 161 [.ptr 0 0,.ptr 1 0]),(10,vT x0),(11,vI x1),(12,vI x2)] ⟨[[vI x3],[.row 0 0]],[⟨.term,x4,0,0,Y⟩]⟩
def qdX(m k):sM m (lG m) k=qdZ m k:=bf
def qd5:okS tb OW:=λ m a=>tK (λ L=>CH m (lG m) L a.1 a.2.1 a.2.2.1) (qdX m m)
def qj1:okP tb [] qaI:=okk
def qjr(m k x0 x1 x2 x3):=tb.PL Qh 3 m k [(3,vI x0),(7,vT x1),(8,vI x2),(9,vI x3)] ⟨[],[]⟩
def qil(m k):tX m (km m) k=qjr m k:=bf
def qjo:okP tb [] Qh:=λ m a=>tK (λ L=>Fk m (km m) L a.1) (qil m m)
def qge(m k x0 x1 x2 x3 x4 x5 x6 x7 x8 x9):=tb.PL Ql 11 m k [(2,.ptr 0 0),(3,.ptr 1 0),(5,vI x0),(6,vI x1)] ⟨[[vI x2,.s x3,vI x4,vT x5],[vI x6,.s x7,vI x8,vT x9]],[]⟩
def qfW(m k):pw m (cW m) k=qge m k:=bf
def qgb:okP tb [] Ql:=λ m a=>tK (λ L=>DL m (cW m) L a.1 a.2.1) (qfW m m)
def qih(m k x0 x1 x2 x3 x4 x5 x6 x7 x8 x9 x10):=tb.PL PW 4 m k [(1,.ptr 0 0),(2,.ptr 1 0),(9,vT x0),(10,vI x1),(11,vI x2)] ⟨[[vI x3,.s x4,vI x5,.row 0 0],[vI x6,.s x7,vI x8,.row 1 0]],[⟨.term,x9,0,0,Y⟩,⟨.term,x10,0,0,Y⟩]⟩
def qha(m k):tH m (jv m) k=qih m k:=bf
def qiO:okP tb [] PW:=λ m a=>tK (λ L=>EB m (jv m) L a.1) (qha m m)
def qfa:okP tb [] qas:=okk
def qgm(m k x0 x1 x2):=tb.QL Py 4 m k [(0,.row 0 0),(9,vI x0),(10,vI x1)] ⟨[],[⟨.term,x2,0,0,Y⟩]⟩
def qfm(m k):te m k=qgm m k:=bf
def qgH:okS tb Py:=λ m a=>tK (λ L=>DO m L a.1) (qfm m m)
def qhS:okP tb [] qao:=okk
def qkx:okP tb [] i58:=okk
def qgI:okP tb [] i57:=okk
def qdV:okS tb qbB:=okq
def qcJ(m k x0 x1 x2 x3 x4 x5 x6):=tb.QL O5 2 m k [(0,vT x0),(1,.fn 180 [.ptr 0 0]),(7,vI x1),(8,vI x2)] ⟨[[vI x3,.s x4,vI x5,vT x6]],[]⟩
def qcH(m k):sB m k=qcJ m k:=bf
def qcN:okS tb O5:=λ m a=>tK (λ L=>Ce m L a.1 a.2.1) (qcH m m)
def qcy:okS tb qa6:=okq
def qh8:okP tb [] qad:=okk
def qec:okP tb [] qbC:=okk
def qcR(m k x0 x1 x2):=tb.QL N5 2 m k [(0,vT x0),(1,.fn 190 []),(7,vI x1),(8,vI x2)] ⟨[],[]⟩
def qcO(m k):sD m k=qcR m k:=bf
def qcT:okS tb N5:=λ m a=>tK (λ L=>Ch m L a.1) (qcO m m)
def qcB:okS tb ZC:=okq
def qfV(m k x0 x1 x2 x3 x4 x5 x6 x7):=tb.PL PG 2 m k [(0,.s x0),(2,.ptr 0 0),(5,.sl y11 x1 1),(6,vI x2),(7,vI x3)] ⟨[[.s x4,vI x5,vI x6,vI x7]],[]⟩
def qe5(m k):ta m k=qfV m k:=bf
def qfo:okP tb [] PG:=λ m a=>tK (λ L=>Df m L a.1) (qe5 m m)
def qfU:okP tb [] qaW:=okk
def qdB(m k x0 x1 x2):=tb.PL Pf 4 m k [(1,.fn 241 []),(18,vT x0),(19,vI x1),(20,vI x2)] ⟨[],[]⟩
def qdr(m k):qJ m (kQ m) k=qdB m k:=bf
def qdL:okP tb [241] Pf:=λ m a=>tK (λ L=>CA m (kQ m) L a.1) (qdr m m)
def qjA:okP tb [] qa0:=okk
def qhh(m k x0 x1 x2):=tb.PL Qp 4 m k [(0,.s x0),(38,vI x1),(39,vI x2)] ⟨[],[]⟩
def qgR(m k):px m k=qhh m k:=bf
def qhr:okP tb [] Qp:=λ m a=>tK (λ L=>Ee m L a.1) (qgR m m)
def qit(m k x0 x1 x2 x3 x4 x5):=tb.QL Pk 17 m k [(1,vI x0),(2,.ptr 0 0),(3,.ptr 1 0),(57,vT x1),(58,vI x2),(59,vI x3)] ⟨[[vI x4],[vI x5]],[]⟩
def qg3(m k):mK m (iu m) k=qit m k:=bf
def qi0:okS tb Pk:=λ m a=>tK (λ L=>EL m (iu m) L a.1 a.2.1 a.2.2.1 a.2.2.2.1) (qg3 m m)
def qiT:okP tb [] qal:=okk
def Sm(m k x0 x1 x2 x3 x4 x5 x6):=tb.PL I6 13 m k [(1,.ptr 0 0),(38,vT x0),(39,vI x1),(40,vI x2)] ⟨[[vI x3,.s x4,vI x5,vT x6]],[]⟩
def Sa(m k x0 x1 x2):=tb.PL I6 22 m k [(62,vT x0),(63,vI x1),(64,vI x2)] ⟨[],[]⟩
def qfn(m k):iK m (fy m) k=(Sm m k,Sa m k):=bf (M:=λ k=>(Sm m k,Sa m k))
def qgz:okP tb [] I6:=λ m a=>tK (x:=iK m (fy m) m) (λ L=>DN m (fy m) L.1 L.2 a.1) (qfn m m)
def qgL:okP tb [] qaE:=okk
def qh0:okP tb [] qaU:=okk
def qff:okP tb [] qaz:=okk
def qdN(m k x0 x1 x2 x3):=tb.QL Ph 2 m k [(0,.ptr 0 0),(7,vT x0),(8,vI x1),(9,vI x2)] ⟨[[.row 0 0]],[⟨.term,x3,0,0,Y⟩]⟩
def qdC(m k):sI m k=qdN m k:=bf
def qdT:okS tb Ph:=λ m a=>tK (λ L=>CC m L a.1 a.2.1) (qdC m m)
def qdn:okP tb [] qaN:=okk
def qcS(m k x0 x1 x2):=tb.QL N7 2 m k [(0,vT x0),(1,.fn 157 []),(7,vI x1),(8,vI x2)] ⟨[],[]⟩
def qcI(m k):sC m k=qcS m k:=bf
def qcQ:okS tb N7:=λ m a=>tK (λ L=>Cf m L a.1) (qcI m m)
def qcz:okS tb Zd:=okq
def Rf(m k x0 x1 x2 x3):=tb.QL BD 6 m k [(0,.ptr 0 0),(25,.sl y5 x0 1),(26,vI x1),(27,vI x2)] ⟨[[.row 0 0]],[⟨.term,x3,0,0,Y⟩]⟩
def Ra(m k x0 x1 x2 x3 x4 x5 x6):=tb.QL BD 20 m k [(0,.ptr 0 0),(25,.sl y5 x0 1),(26,vI x1),(27,vI x2),(72,vT x3),(73,vI x4),(74,vI x5)] ⟨[[.row 0 0]],[⟨.term,x6,0,0,Y⟩]⟩
def Q9(m k x0 x1 x2 x3 x4 x5 x6 x7 x8 x9):=tb.QL BD 23 m k [(0,.ptr 0 0),(25,.sl y5 x0 1),(26,vI x1),(27,vI x2),(72,vT x3),(73,vI x4),(74,vI x5),(79,vT x6),(80,vI x7),(81,vI x8)] ⟨[[.row 0 0]],[⟨.term,x9,0,0,Y⟩]⟩
def qdt(m k):cC m k=(Rf m k,Ra m k,Q9 m k):=bf (M:=λ k=>(Rf m k,Ra m k,Q9 m k))
def qdD:okS tb BD:=λ m a=>tK (x:=cC m m) (λ L=>wm m L.1 L.2.1 L.2.2 a.1 a.2.1 a.2.2.1) (qdt m m)
def qfP(m k x0 x1 x2 x3):=tb.PL i56 3 m k [(6,.ptr 0 0),(21,.sl y2 x0 1),(22,vI x1),(23,vI x2)] ⟨[[.row 0 0]],[⟨.term,x3,0,0,Y⟩]⟩
def qeN(m k):sZ m k=qfP m k:=bf
def qfF:okP tb [] i56:=λ m a=>tK (λ L=>Do m L a.1 a.2.1) (qeN m m)
def qfB:okP tb [] qbd:=okk
def RD(m k x0 x1 x2 x3 x4 x5 x6 x7):=tb.PL i90 3 m k [(1,.ptr 0 0),(3,vT x0),(19,.row 0 0),(20,vI x1),(21,vI x2)] ⟨[[vI x3,vT x4,vT x5,.sl y2 x6 1]],[⟨.term,x7,0,0,O⟩]⟩
def Rx(m k x0 x1 x2):=tb.PL i90 12 m k [(79,.sl y2 x0 1),(80,vI x1),(81,vI x2)] ⟨[],[]⟩
def RF(m k x0 x1 x2 x3 x4 x5):=tb.PL i90 17 m k [(79,.sl y2 x0 1),(80,vI x1),(81,vI x2),(90,.sl y5 x3 1),(91,vI x4),(92,vI x5)] ⟨[],[]⟩
def qer(m k):dR m k=(RD m k,Rx m k,RF m k):=bf (M:=λ k=>(RD m k,Rx m k,RF m k))
def qeL:okP tb [] i90:=λ m a=>tK (x:=dR m m) (λ L=>C7 m L.1 L.2.1 L.2.2 a.1) (qer m m)
def qfJ:okP tb [] i41:=okk
def qe0:okP tb [] i93:=okk
def qdg(m k x0 x1 x2 x3):=tb.PL Ps 2 m k [(0,.sl .str x0 1),(1,.s x1),(7,vI x2),(8,vI x3)] ⟨[],[]⟩
def qdc(m k):sG m k=qdg m k:=bf
def qde:okP tb [] Ps:=λ m a=>tK (λ L=>Cq m L a.1 a.2.1) (qdc m m)
def qc8:okP tb [] i94:=okk
def qeG(m k x0 x1 x2 x3 x4):=tb.PL i46 4 m k [(3,.ptr 0 0),(22,.sl .str x0 1),(23,vI x1),(24,vI x2)] ⟨[[vI x3,.sl .str x4 1]],[]⟩
def qeb(m k):sO m k=qeG m k:=bf
def qeJ:okP tb [] i46:=λ m a=>tK (λ L=>CS m L a.1 a.2.1) (qeb m m)
def qdk:okP tb [] qaT:=okk
def qdf:okP tb [] ZV:=okk
def qdq:okP tb [] ZW:=okk
def qgt:okP tb [] i85:=okk
def qds:okS tb i95:=okq
def QY(m k x0 x1 x2 x3 x4):=tb.QL Jj 3 m k [(0,.sl y8 x0 1),(3,vI x1),(9,.sl y8 x2 1),(10,vI x3),(11,vI x4)] ⟨[],[]⟩
def QZ(m k x0 x1 x2 x3):=tb.QL Jj 11 m k [(6,.row 0 0),(25,.sl y8 x0 1),(26,vI x1),(27,vI x2)] ⟨[],[⟨y4,x3,0,0,Y⟩]⟩
def qcP(m k):kO m k=(QY m k,QZ m k):=bf (M:=λ k=>(QY m k,QZ m k))
def qcW:okS tb Jj:=λ m a=>tK (x:=kO m m) (λ L=>Cj m L.1 L.2 a.1) (qcP m m)
def qdm:okP tb [] ZZ:=okk
def qdH:okP tb [] i98:=okk
def R7(m k x0 x1 x2 x3 x4 x5 x6 x7 x8 x9 x10 x11):=tb.PL i47 5 m k [(2,vI x0),(3,.ptr 0 0),(4,.ptr 1 0),(8,.ptr 2 0),(9,.fn 95 [.ptr 2 0]),(10,.row 1 0),(27,vT x1),(28,vI x2),(29,vI x3)] ⟨[[vI x4,vT x5,vT x6,.sl y2 x7 1],[vI x8,.sl .str x9 1],[.row 0 0]],[⟨y4,x10,0,0,Y⟩,⟨.str,x11,0,0,Y⟩]⟩
def RJ(m k x0 x1 x2 x3 x4):=tb.PL i47 12 m k [(2,vI x0),(8,.ptr 0 0),(9,.fn 95 [.ptr 0 0]),(55,vT x1),(56,vI x2),(57,vI x3)] ⟨[[.row 0 0]],[⟨y4,x4,0,0,Y⟩]⟩
def qeW(m k):jV m k=(R7 m k,RJ m k):=bf (M:=λ k=>(R7 m k,RJ m k))
def qfG:okP tb [] i47:=λ m a=>tK (x:=jV m m) (λ L=>Dr m L.1 L.2 a.1 a.2.1 a.2.2.1) (qeW m m)
def qdv:okP tb [] qbJ:=okk
def qcm(m k x0 x1 x2 x3 x4 x5 x6 x7):=tb.PL Pp 3 m k [(0,.sl y4 x0 1),(2,.fn 118 []),(4,.ptr 0 0),(8,vI x1),(9,vI x2),(10,vI x3)] ⟨[[vI x4,.s x5,vI x6,vT x7]],[]⟩
def qcl(m k):sx m k=qcm m k:=bf
def qcn:okP tb [118] Pp:=λ m a=>tK (λ L=>B7 m L a.1 a.2.1) (qcl m m)
def qdM:okP tb [] i60:=okk
def qlw(m k x0 x1 x2 x3 x4 x5 x6 x7 x8 x9 x10):=tb.PL Qc 2 m k [(2,.ptr 0 0),(4,.ptr 1 0),(8,.sl y6 x0 1),(9,vI x1),(10,vI x2)] ⟨[[vI x3,.s x4,vI x5,vT x6],[vI x7,.s x8,vI x9,.row 0 0]],[⟨.term,x10,0,0,Y⟩]⟩
def qla(m k):wX m k=qlw m k:=bf
def ql4:okP tb [] Qc:=λ m a=>tK (λ L=>FX m L a.1 a.2.1) (qla m m)
def qdp(m k x0 x1 x2 x3):=tb.PL O8 3 m k [(3,.row 0 0),(10,.sl y4 x0 1),(11,vI x1),(12,vI x2)] ⟨[],[⟨y4,x3,0,0,Y⟩]⟩
def qdj(m k):sH m k=qdp m k:=bf
def qdo:okP tb [] O8:=λ m a=>tK (λ L=>Ct m L a.1) (qdj m m)
def qfb:okP tb [] i68:=okk
def qdU(m k x0 x1 x2 x3 x4 x5 x6 x7 x8 x9 x10 x11):=tb.PL i70 7 m k [(0,.sl y4 x0 1),(4,.ptr 0 0),(9,.ptr 1 0),(35,vT x1),(36,vI x2),(37,vI x3)] ⟨[[vI x4,.s x5,vI x6,.row 0 0],[vI x7,.s x8,vI x9,.row 1 0]],[⟨.term,x10,0,0,Y⟩,⟨.term,x11,0,0,Y⟩]⟩
def qdF(m k):sJ m (jr m) k=qdU m k:=bf
def qdP:okP tb [] i70:=λ m a=>tK (λ L=>CD m (jr m) L a.1 a.2.1) (qdF m m)
def qhR:okP tb [] qbf:=okk
def qif:okP tb [] qbD:=okk
def qj3:okP tb [] qaw:=okk
def qiP:okP tb [] qaa:=okk
def qhC:okP tb [] qbw:=okk
def qhJ:okP tb [] ZS:=okk
def qhL(m k x0 x1 x2 x3 x4 x5 x6 x7 x8 x9 x10):=tb.QL Pt 10 m k [(2,.mp 0),(3,.ptr 1 0),(4,.ptr 2 0),(39,vI x0),(40,vI x1)] ⟨[[.mc y17 .term x2],[vI x3,.s x4,vI x5,vT x6],[vI x7,.s x8,vI x9,vT x10]],[]⟩
def qgq(m k):wF m (mL m) k=qhL m k:=bf
def qhg:okS tb Pt:=λ m a=>tK (λ L=>Eh m (mL m) L a.1 a.2.1 a.2.2.1) (qgq m m)
def qhO(m k x0 x1 x2 x3 x4):=tb.PL O3 9 m k [(7,.mp 0),(8,.row 0 0),(25,vT x0),(26,vI x1),(27,vI x2)] ⟨[[.mc y17 .term x3]],[⟨y4,x4,0,0,Y⟩]⟩
def qgS(m k):wG m k=qhO m k:=bf
def qhu:okP tb [] O3:=λ m a=>tK (λ L=>wx m L a.1 a.2.1) (qgS m m)
def qdx:okP tb [] i99:=okk
def S7(m k x0 x1 x2 x3 x4 x5 x6 x7 x8 x9 x10 x11 x12 x13 x14 x15 x16 x17 x18 x19 x20 x21 x22):=tb.PL i48 9 m k [(3,.ptr 0 0),(4,.ptr 1 0),(6,.ptr 2 0),(10,.sl y4 x0 1),(12,.row 2 0),(43,.sl y5 x1 1),(44,vI x2),(45,vI x3)] ⟨[[vI x4,vT x5,vT x6,.sl y2 x7 1],[vI x8,.sl .str x9 1,vI x10,vI x11,vI x12,vI x13,.sl y4 x14 1],[vI x15,.row 0 0,vI x16,vI x17,vI x18,vI x19,.row 1 0]],[⟨.str,x20,0,0,O⟩,⟨y4,x21,0,0,O⟩,⟨y10,x22,0,0,O⟩]⟩
def SU(m k x0 x1 x2 x3 x4 x5 x6 x7 x8 x9 x10 x11 x12 x13 x14 x15 x16 x17 x18 x19 x20 x21 x22 x23 x24 x25 x26 x27 x28):=tb.PL i48 14 m k [(3,.ptr 0 0),(4,.ptr 1 0),(6,.ptr 2 0),(10,.sl y4 x0 1),(12,.row 2 0),(17,.ptr 3 0),(43,.sl y5 x1 1),(44,vI x2),(45,vI x3),(57,vT x4),(58,vI x5),(59,vI x6)] ⟨[[vI x7,vT x8,vT x9,.sl y2 x10 1],[vI x11,.sl .str x12 1,vI x13,vI x14,vI x15,vI x16,.sl y4 x17 1],[vI x18,.row 0 0,vI x19,vI x20,vI x21,vI x22,.row 1 0],[vI x23,vI x24,.row 3 0]],[⟨.str,x25,0,0,O⟩,⟨y4,x26,0,0,O⟩,⟨y10,x27,0,0,O⟩,⟨.term,x28,0,0,Y⟩]⟩
def qhj(m k):ju m k=(S7 m k,SU m k):=bf (M:=λ k=>(S7 m k,SU m k))
def qiz:okP tb [] i48:=λ m a=>tK (x:=ju m m) (λ L=>EN m L.1 L.2 a.1 a.2.1 a.2.2.1) (qhj m m)
def qfy:okP tb [] i14:=okk
def qhN:okP tb [] qau:=okk
def qj8:okP tb [] qbF:=okk
def qe3:okP tb [] qa4:=okk
def qko(m k x0 x1 x2):=tb.PL Qf 4 m k [(14,.row 0 0),(15,vI x0),(16,vI x1)] ⟨[],[⟨.term,x2,0,0,Y⟩]⟩
def qiY(m k):ua m k=qko m k:=bf
def qjv:okP tb [] Qf:=λ m a=>tK (λ L=>Ff m L a.1 a.2.1) (qiY m m)
def qkV(m k x0 x1 x2):=tb.PL PE 2 m k [(0,vT x0),(1,vT x1),(5,.row 0 0)] ⟨[],[⟨.term,x2,0,0,Y⟩]⟩
def qkg(m k):uo m k=qkV m k:=bf
def qkN:okP tb [] PE:=λ m a=>tK (λ L=>FK m L a.1 a.2.1) (qkg m m)
def qf8(m k x0 x1 x2 x3):=tb.PL P6 6 m k [(3,vT x0),(31,vT x1),(32,vI x2),(33,vI x3)] ⟨[],[]⟩
def qfI(m k):qM m (kS m) k=qf8 m k:=bf
def qgf:okP tb [] P6:=λ m a=>tK (λ L=>DM m (kS m) L a.1) (qfI m m)
def qgu(m k x0 x1 x2 x3 x4 x5 x6 x7 x8 x9 x10 x11 x12 x13 x14):=tb.PL PM 4 m k [(5,.ptr 0 0),(6,.ptr 1 0),(8,.ptr 2 0),(9,.ptr 2 0),(14,.sl y6 x0 1),(15,vI x1),(16,vI x2)] ⟨[[vI x3,.s x4,vI x5,vT x6],[vI x7,.s x8,vI x9,.row 0 0],[vI x10,.s x11,vI x12,vT x13]],[⟨.term,x14,0,0,Y⟩]⟩
def qfs(m k):wz m k=qgu m k:=bf
def qgK:okP tb [] PM:=λ m a=>tK (λ L=>DU m L a.1 a.2.1 a.2.2.1) (qfs m m)
def qlP(m k x0 x1 x2 x3):=tb.PL PD 3 m k [(3,.row 0 0),(9,vT x0),(10,vI x1),(11,vI x2)] ⟨[],[⟨.term,x3,0,0,Y⟩]⟩
def qk7(m k):uC m (kX m) k=qlP m k:=bf
def qmf:okP tb [] PD:=λ m a=>tK (λ L=>Gi m (kX m) L a.1) (qk7 m m)
def qlF(m k x0 x1 x2 x3 x4 x5 x6 x7):=tb.PL PU 6 m k [(2,.ptr 0 0),(5,vT x0),(15,vT x1),(16,vI x2),(17,vI x3)] ⟨[[vI x4,.s x5,vI x6,.row 0 0]],[⟨.term,x7,0,0,O⟩]⟩
def qkW(m k):uB m k=qlF m k:=bf
def qlX:okP tb [] PU:=λ m a=>tK (λ L=>F6 m L a.1) (qkW m m)
def qex:okP tb [] qaq:=okk
def qeT(m k x0 x1 x2 x3 x4 x5 x6 x7 x8 x9):=tb.PL Pm 3 m k [(1,.ptr 0 0),(2,.ptr 1 0),(10,.row 0 0),(11,vI x0),(12,vI x1)] ⟨[[vI x2,.s x3,vI x4,.row 0 0],[vI x5,.s x6,vI x7,.row 1 0]],[⟨.term,x8,0,0,Y⟩,⟨.term,x9,0,0,Y⟩]⟩
def qez(m k):sU m (jt m) k=qeT m k:=bf
def qe2:okP tb [] Pm:=λ m a=>tK (λ L=>Da m (jt m) L a.1) (qez m m)
def qd0:okP tb [] qbH:=okk
def qcr(m k x0 x1 x2 x3 x4 x5 x6 x7):=tb.PL O6 3 m k [(0,.sl y7 x0 1),(2,.fn 284 []),(4,.ptr 0 0),(8,vI x1),(9,vI x2),(10,vI x3)] ⟨[[vI x4,.s x5,vI x6,vT x7]],[]⟩
def qcp(m k):sy m k=qcr m k:=bf
def qcq:okP tb [284] O6:=λ m a=>tK (λ L=>Ca m L a.1 a.2.1) (qcp m m)
def qew:okS tb qa7:=okq
def qei(m k x0 x1 x2 x3 x4):=tb.QL PN 12 m k [(0,.row 0 0),(2,vI x0),(52,vT x1),(53,vI x2),(54,vI x3)] ⟨[],[⟨y7,x4,0,0,Y⟩]⟩
def qd9(m k):qK m (kR m) k=qei m k:=bf
def qek:okS tb PN:=λ m a=>tK (λ L=>CL m (kR m) L a.1 a.2.1 a.2.2.1) (qd9 m m)
def qhw:okP tb [] qaB:=okk
def qeV(m k x0 x1 x2 x3):=tb.PL OU 4 m k [(0,.sl y7 x0 1),(9,.sl y7 x1 1),(10,vI x2),(11,vI x3)] ⟨[],[]⟩
def qeq(m k):qL m k=qeV m k:=bf
def qeU:okP tb [] OU:=λ m a=>tK (λ L=>C4 m L a.1) (qeq m m)
def qf7:okP tb [] qbv:=okk
def RP(m k x0 x1 x2 x3 x4 x5 x6 x7 x8):=tb.PL Bp 6 m k [(2,.ptr 0 0),(5,.row 1 0),(6,.row 2 0),(18,.sl y7 x0 1),(19,vI x1),(20,vI x2)] ⟨[[vI x3,.s x4,vI x5,.row 0 0]],[⟨.term,x6,0,0,Y⟩,⟨.term,x7,0,0,Y⟩,⟨.term,x8,0,0,Y⟩]⟩
def RI(m k x0 x1 x2 x3 x4 x5 x6 x7 x8 x9 x10 x11 x12 x13 x14 x15):=tb.PL Bp 11 m k [(2,.ptr 0 0),(5,.row 1 0),(6,.row 2 0),(8,.ptr 1 0),(18,.sl y7 x0 1),(19,vI x1),(20,vI x2),(34,vI x3),(35,vI x4)] ⟨[[vI x5,.s x6,vI x7,.row 0 0],[vI x8,.s x9,vI x10,vT x11,vI x12]],[⟨.term,x13,0,0,Y⟩,⟨.term,x14,0,0,Y⟩,⟨.term,x15,0,0,Y⟩]⟩
def RO(m k x0 x1 x2 x3 x4 x5 x6 x7 x8 x9 x10 x11 x12 x13 x14 x15):=tb.PL Bp 15 m k [(2,.ptr 0 0),(5,.row 1 0),(6,.row 2 0),(8,.ptr 1 0),(18,.sl y7 x0 1),(19,vI x1),(20,vI x2),(46,vI x3),(47,vI x4)] ⟨[[vI x5,.s x6,vI x7,.row 0 0],[vI x8,.s x9,vI x10,vT x11,vI x12]],[⟨.term,x13,0,0,Y⟩,⟨.term,x14,0,0,Y⟩,⟨.term,x15,0,0,Y⟩]⟩
def qe6(m k):fx m k=(RP m k,RI m k,RO m k):=bf (M:=λ k=>(RP m k,RI m k,RO m k))
def qfA:okP tb [] Bp:=λ m a=>tK (x:=fx m m) (λ L=>Dn m L.1 L.2.1 L.2.2 a.1) (qe6 m m)
def qeF(m k x0 x1 x2 x3):=tb.QL Pj 3 m k [(3,.row 0 0),(6,.sl y7 x0 1),(7,vI x1),(8,vI x2)] ⟨[],[⟨y7,x3,0,0,Y⟩]⟩
def qea(m k):sN m k=qeF m k:=bf
def qeo:okS tb Pj:=λ m a=>tK (λ L=>CU m L a.1) (qea m m)
def qd7:okP tb [] qah:=okk
def qcG(m k x0 x1 x2):=tb.PL P9 2 m k [(0,.sl y7 x0 1),(1,.fn 288 []),(7,vI x1),(8,vI x2)] ⟨[],[]⟩
def qcC(m k):wd m k=qcG m k:=bf
def qcF:okP tb [288] P9:=λ m a=>tK (λ L=>Cd m L a.1) (qcC m m)
def qcv:okP tb [288] qbq:=okk
def qeH:okP tb [] qaJ:=okk
def qgo(m k x0 x1 x2 x3):=tb.PL Qn 9 m k [(8,.row 0 0),(23,.sl y7 x0 1),(24,vI x1),(25,vI x2)] ⟨[],[⟨y7,x3,0,0,Y⟩]⟩
def qfY(m k):ti m k=qgo m k:=bf
def qgi:okP tb [] Qn:=λ m a=>tK (λ L=>DE m L a.1 a.2.1) (qfY m m)
def qiJ:okP tb [] qbG:=okk
def qgd:okP tb [] qai:=okk
def qfu(m k x0 x1 x2 x3 x4 x5 x6 x7 x8 x9 x10 x11 x12 x13 x14):=tb.PL P8 5 m k [(1,.ptr 0 0),(2,.ptr 1 0),(4,.ptr 2 0),(19,vT x0),(20,vI x1),(21,vI x2)] ⟨[[vI x3,.s x4,vI x5,vT x6],[vI x7,.s x8,vI x9,.row 0 0],[vI x10,.s x11,vI x12,.row 1 0]],[⟨.term,x13,0,0,Y⟩,⟨.term,x14,0,0,Y⟩]⟩
def qeP(m k):sX m (lI m) k=qfu m k:=bf
def qfp:okP tb [] P8:=λ m a=>tK (λ L=>Di m (lI m) L a.1) (qeP m m)
def qfz:okP tb [] qaA:=okk
def qfg:okP tb [] qay:=okk
def qdK(m k x0 x1 x2):=tb.PL NV 4 m k [(1,.fn 115 []),(18,vT x0),(19,vI x1),(20,vI x2)] ⟨[],[]⟩
def qdy(m k):qI m (kP m) k=qdK m k:=bf
def qdE:okP tb [115] NV:=λ m a=>tK (λ L=>Cv m (kP m) L a.1) (qdy m m)
def qg0:okP tb [] i59:=okk
def qhU(m k x0 x1 x2 x3):=tb.PL i55 4 m k [(0,.sl y4 x0 1),(10,.sl y4 x1 1),(11,vI x2),(12,vI x3)] ⟨[],[]⟩
def qga(m k):tD m k=qhU m k:=bf
def qht:okP tb [] i55:=λ m a=>tK (λ L=>Eg m L a.1) (qga m m)
def RW(m k x0 x1 x2 x3 x4 x5 x6 x7 x8 x9 x10 x11):=tb.PL i18 22 m k [(3,.ptr 0 0),(7,vT x0),(9,.sl y4 x1 1),(101,.sl y4 x2 1),(102,vI x3),(103,vI x4)] ⟨[[vI x5,.sl .str x6 1,vI x7,vI x8,vI x9,vI x10,.sl y4 x11 1]],[]⟩
def RY(m k x0 x1 x2 x3 x4 x5 x6 x7 x8 x9):=tb.PL i18 28 m k [(3,.ptr 0 0),(130,.sl y4 x0 1),(131,vI x1),(132,vI x2)] ⟨[[vI x3,.sl .str x4 1,vI x5,vI x6,vI x7,vI x8,.sl y4 x9 1]],[]⟩
def qfc(m k):iq m k=(RW m k,RY m k):=bf (M:=λ k=>(RW m k,RY m k))
def qfr:okP tb [] i18:=λ m a=>tK (x:=iq m m) (λ L=>wv m L.1 L.2 a.1 a.2.1) (qfc m m)
def qeI:okP tb [] i67:=okk
def qes:okP tb [] i22:=okk
def qfk:okP tb [] i24:=okk
def qfx:okP tb [] i25:=okk
def qgh:okP tb [] qaG:=okk
def qi1(m k x0 x1 x2 x3 x4 x5):=tb.PL Qb 3 m k [(1,.ptr 0 0),(3,vI x0),(4,vI x1)] ⟨[[vI x2,.s x3,vI x4,vT x5]],[]⟩
def qhY(m k):tO m (jx m) k=qi1 m k:=bf
def qiy:okP tb [] Qb:=λ m a=>tK (λ L=>EM m (jx m) L a.1) (qhY m m)
def qfD(m k x0 x1 x2 x3 x4 x5 x6 x7 x8):=tb.PL i77 18 m k [(2,.ptr 0 0),(3,.ptr 1 0),(9,vI x0)] ⟨[[vI x1,.s x2,vI x3,vT x4],[vI x5,.s x6,vI x7,vT x8]],[]⟩
def qeR(m k):sY m (jY m) k=qfD m k:=bf
def qfj:okP tb [] i77:=λ m a=>tK (λ L=>De m (jY m) L a.1 a.2.1) (qeR m m)
def qid:okP tb [] i29:=okk
def qgQ:okP tb [] i35:=okk
def qiw:okP tb [] i38:=okk
def qj4:okP tb [] i44:=okk
def qjp:okP tb [] i62:=okk
def qf3:okP tb [] i43:=okk
def qhF:okP tb [] i11:=okk
def qgA(m k x0 x1 x2 x3 x4 x5):=tb.PL i61 5 m k [(1,vI x0),(2,.ptr 0 0),(5,vI x1)] ⟨[[vI x2,.s x3,vI x4,vT x5]],[]⟩
def qfH(m k):tk m (lJ m) k=qgA m k:=bf
def qgM:okP tb [] i61:=λ m a=>tK (λ L=>DB m (lJ m) L a.1 a.2.1) (qfH m m)
def qj9(m k x0 x1 x2):=tb.PL i19 4 m k [(0,vT x0),(2,vI x1),(7,vI x2)] ⟨[],[]⟩
def qiV(m k):tV m k=qj9 m k:=bf
def qjz:okP tb [] i19:=λ m a=>tK (λ L=>Fa m L a.1 a.2.1 a.2.2.1) (qiV m m)
def Ta(m k x0 x1 x2 x3 x4 x5 x6):=tb.PL i12 6 m k [(1,.ptr 0 0),(3,.row 0 0),(4,vI x0),(5,vI x1)] ⟨[[vI x2,vT x3,vT x4,.sl y2 x5 1]],[⟨.term,x6,0,0,Y⟩]⟩
def Tf(m k x0 x1 x2 x3 x4 x5 x6 x7):=tb.PL i12 11 m k [(1,.ptr 0 0),(3,.row 0 0),(4,vI x0),(5,vI x1),(6,vI x2)] ⟨[[vI x3,vT x4,vT x5,.sl y2 x6 1]],[⟨.term,x7,0,0,Y⟩]⟩
def qjj(m k):ke m k=(Ta m k,Tf m k):=bf (M:=λ k=>(Ta m k,Tf m k))
def qjC:okP tb [] i12:=λ m a=>tK (x:=ke m m) (λ L=>tF m L.1 L.2 a.1) (qjj m m)
def qkh(m k x0 x1 x2 x3 x4):=tb.PL i45 3 m k [(0,.sl y4 x0 1),(1,vI x1),(2,vI x2),(7,.row 0 0),(8,vI x3)] ⟨[],[⟨.term,x4,0,0,Y⟩]⟩
def qjl(m k):tW m k=qkh m k:=bf
def qkt:okP tb [] i45:=λ m a=>tK (λ L=>Fw m L a.1 a.2.1 a.2.2.1) (qjl m m)
def qeQ(m k x0 x1 x2 x3 x4 x5 x6 x7 x8):=tb.PL i13 3 m k [(1,.ptr 0 0),(3,vI x0),(4,vI x1)] ⟨[[vI x2,.sl .str x3 1,vI x4,vI x5,vI x6,vI x7,.sl y4 x8 1]],[]⟩
def qeE(m k):sQ m k=qeQ m k:=bf
def qeO:okP tb [] i13:=λ m a=>tK (λ L=>C3 m L a.1) (qeE m m)
def qjT(m k x0 x1 x2 x3 x4 x5):=tb.PL i75 3 m k [(1,.ptr 0 0),(3,.row 0 0),(4,vI x0)] ⟨[[vI x1,.s x2,vI x3,vT x4]],[⟨.term,x5,0,0,O⟩]⟩
def qiG(m k):ui m (kU m) k=qjT m k:=bf
def qjJ:okP tb [] i75:=λ m a=>tK (λ L=>Fp m (kU m) L a.1) (qiG m m)
def qkf(m k x0 x1 x2 x3 x4 x5 x6 x7):=tb.PL PY 4 m k [(0,vT x0),(3,.ptr 0 0),(5,.row 0 0),(6,.b x1),(7,vI x2)] ⟨[[vI x3,.s x4,vI x5,vT x6]],[⟨.term,x7,0,0,Y⟩]⟩
def qic(m k):tZ m k=qkf m k:=bf
def qj2:okP tb [] PY:=λ m a=>tK (λ L=>EV m L a.1 a.2.1) (qic m m)
def qjF(m k x0 x1 x2):=tb.PL O2 3 m k [(0,vT x0),(3,vT x1),(4,vI x2)] ⟨[],[]⟩
def qiS(m k):ub m k=qjF m k:=bf
def qjS:okP tb [] O2:=λ m a=>tK (λ L=>Fo m L a.1) (qiS m m)
def qi8(m k x0 x1 x2 x3):=tb.PL P5 4 m k [(1,vI x0),(5,.row 0 0),(6,vT x1),(7,vI x2)] ⟨[],[⟨.term,x3,0,0,Y⟩]⟩
def qhA(m k):tJ m k=qi8 m k:=bf
def qi7:okP tb [] P5:=λ m a=>tK (λ L=>Eu m L a.1 a.2.1) (qhA m m)
def qij:okP tb [] i71:=okk
def qfv:okP tb [] qaZ:=okk
def qig(m k x0 x1 x2):=tb.PL i76 3 m k [(0,.s x0),(3,.sl y11 x1 1),(4,vI x2)] ⟨[],[]⟩
def qh2(m k):tI m k=qig m k:=bf
def qiE:okP tb [] i76:=λ m a=>tK (λ L=>Et m L a.1) (qh2 m m)
def qgZ:okP tb [] ZX:=okk
def qhK:okP tb [] qbu:=okk
def qgW(m k x0 x1):=tb.PL P1 4 m k [(0,.s x0),(3,vI x1)] ⟨[],[]⟩
def qfN(m k):tj m k=qgW m k:=bf
def qgl:okP tb [] P1:=λ m a=>tK (λ L=>DJ m L a.1) (qfN m m)
def qjg:okP tb [] qaM:=okk
def qh6(m k x0 x1 x2 x3 x4):=tb.PL Qj 5 m k [(1,.ptr 0 0),(4,vI x0)] ⟨[[vI x1,.s x2,vI x3,vT x4]],[]⟩
def qgs(m k):tq m (lM m) k=qh6 m k:=bf
def qhX:okP tb [] Qj:=λ m a=>tK (λ L=>Eb m (lM m) L a.1) (qgs m m)
def qhs(m k x0 x1 x2 x3 x4 x5):=tb.PL Qa 3 m k [(1,.ptr 0 0),(3,vI x0),(4,vI x1)] ⟨[[vI x2,.s x3,vI x4,vT x5]],[]⟩
def qgB(m k):tv m (lL m) k=qhs m k:=bf
def qhl:okP tb [] Qa:=λ m a=>tK (λ L=>Ea m (lL m) L a.1) (qgB m m)
def qhI:okP tb [] qbs:=okk
def qik(m k x0 x1 x2 x3 x4 x5):=tb.PL Qm 3 m k [(1,.ptr 0 0),(3,.sl y11 x0 1),(4,vI x1)] ⟨[[vI x2,.s x3,vI x4,vT x5]],[]⟩
def qg6(m k):tN m k=qik m k:=bf
def qiK:okP tb [] Qm:=λ m a=>tK (λ L=>EI m L a.1) (qg6 m m)
def qf5(m k x0 x1 x2 x3 x4):=tb.PL Pn 4 m k [(1,.ptr 0 0),(3,vI x0)] ⟨[[vI x1,.s x2,vI x3,vT x4]],[]⟩
def qfi(m k):tf m k=qf5 m k:=bf
def qgX:okP tb [] Pn:=λ m a=>tK (λ L=>DS m L a.1) (qfi m m)
def qhx(m k x0 x1 x2 x3 x4):=tb.PL Pb 11 m k [(1,.ptr 0 0),(4,vI x0)] ⟨[[vI x1,.s x2,vI x3,vT x4]],[]⟩
def qgg(m k):qO m (kT m) k=qhx m k:=bf
def qhk:okP tb [] Pb:=λ m a=>tK (λ L=>Ei m (kT m) L a.1) (qgg m m)
def qhp:okP tb [] qag:=okk
def qeB:okP tb [] qaD:=okk
def qiH(m k x0 x1):=tb.PL Qg 5 m k [(3,vT x0),(4,vI x1)] ⟨[],[]⟩
def qhc(m k):tG m k=qiH m k:=bf
def qib:okP tb [] Qg:=λ m a=>tK (λ L=>Eo m L a.1) (qhc m m)
def qiF(m k x0 x1):=tb.PL PK 5 m k [(3,vT x0),(4,vI x1)] ⟨[],[]⟩
def qhz(m k):tP m k=qiF m k:=bf
def qiN:okP tb [] PK:=λ m a=>tK (λ L=>ER m L a.1) (qhz m m)
def qjH(m k x0 x1 x2 x3 x4 x5):=tb.PL i66 2 m k [(0,vT x0),(3,.ptr 0 0),(5,vI x1)] ⟨[[vI x2,.s x3,vI x4,vT x5]],[]⟩
def qio(m k):uc m k=qjH m k:=bf
def qkj:okP tb [] i66:=λ m a=>tK (λ L=>EZ m L a.1 a.2.1) (qio m m)
def qf6(m k x0 x1 x2):=tb.PL i65 3 m k [(1,vT x0),(5,vT x1),(6,vI x2)] ⟨[],[]⟩
def qfS(m k):tl m k=qf6 m k:=bf
def qgN:okP tb [] i65:=λ m a=>tK (λ L=>DC m L a.1 a.2.1) (qfS m m)
def To(m k x0 x1 x2):=tb.QL Jb 11 m k [(1,.row 0 0),(6,vT x0),(7,vI x1)] ⟨[],[⟨.term,x2,0,0,Y⟩]⟩
def Tk(m k x0 x1 x2):=tb.QL Jb 16 m k [(1,.row 0 0),(6,vT x0),(8,vI x1)] ⟨[],[⟨.term,x2,0,0,Y⟩]⟩
def qiX(m k):iL m k=(To m k,Tk m k):=bf (M:=λ k=>(To m k,Tk m k))
def qkc:okS tb Jb:=λ m a=>tK (x:=iL m m) (λ L=>Fb m L.1 L.2 a.1 a.2.1) (qiX m m)
def SD(m k x0 x1 x2 x3 x4 x5 x6):=tb.PL i64 3 m k [(1,vI x0),(2,.ptr 0 0),(6,.row 0 0),(7,vI x1)] ⟨[[vI x2,vT x3,vT x4,.sl y2 x5 1]],[⟨.term,x6,0,0,Y⟩]⟩
def Su(m k x0 x1 x2 x3 x4 x5 x6 x7):=tb.PL i64 10 m k [(1,vI x0),(2,.ptr 0 0),(6,.row 0 0),(7,vI x1),(8,vI x2)] ⟨[[vI x3,vT x4,vT x5,.sl y2 x6 1]],[⟨.term,x7,0,0,Y⟩]⟩
def qgE(m k):gQ m k=(SD m k,Su m k):=bf (M:=λ k=>(SD m k,Su m k))
def qhf:okP tb [] i64:=λ m a=>tK (x:=gQ m m) (λ L=>DX m L.1 L.2 a.1 a.2.1) (qgE m m)
def qeX(m k x0 x1):=tb.PL PR 2 m k [(0,vT x0),(3,vI x1)] ⟨[],[]⟩
def qeD(m k):sR m k=qeX m k:=bf
def qeK:okP tb [] PR:=λ m a=>tK (λ L=>C0 m L a.1) (qeD m m)
def Rs(m k x0 x1 x2 x3 x4):=tb.PL i91 4 m k [(1,.ptr 0 0),(3,vI x0)] ⟨[[vI x1,vT x2,vT x3,.sl y2 x4 1]],[]⟩
def Rp(m k x0 x1 x2 x3 x4):=tb.PL i91 9 m k [(1,.ptr 0 0),(4,vI x0)] ⟨[[vI x1,vT x2,vT x3,.sl y2 x4 1]],[]⟩
def qeh(m k):js m k=(Rs m k,Rp m k):=bf (M:=λ k=>(Rs m k,Rp m k))
def qet:okP tb [] i91:=λ m a=>tK (x:=js m m) (λ L=>CW m L.1 L.2 a.1) (qeh m m)
def qjc:okP tb [] qaK:=okk
def qhm:okP tb [] ZY:=okk
def Sk(m k x0 x1 x2 x3 x4):=tb.PL i92 4 m k [(1,.ptr 0 0),(3,vI x0)] ⟨[[vI x1,vT x2,vT x3,.sl y2 x4 1]],[]⟩
def Sb(m k x0 x1 x2 x3 x4 x5):=tb.PL i92 9 m k [(1,.ptr 0 0),(3,vI x0),(4,vI x1)] ⟨[[vI x2,vT x3,vT x4,.sl y2 x5 1]],[]⟩
def qfh(m k):jX m k=(Sk m k,Sb m k):=bf (M:=λ k=>(Sk m k,Sb m k))
def qf9:okP tb [] i92:=λ m a=>tK (x:=jX m m) (λ L=>DK m L.1 L.2 a.1) (qfh m m)
def qhi:okP tb [] i42:=okk
def S8(m k x0 x1 x2):=tb.PL i49 4 m k [(3,.ptr 0 0),(5,vI x0)] ⟨[[vI x1,.sl .str x2 1]],[]⟩
def S1(m k x0 x1 x2 x3):=tb.PL i49 9 m k [(3,.ptr 0 0),(5,vI x0),(6,vI x1)] ⟨[[vI x2,.sl .str x3 1]],[]⟩
def qhG(m k):jZ m k=(S8 m k,S1 m k):=bf (M:=λ k=>(S8 m k,S1 m k))
def qii:okP tb [] i49:=λ m a=>tK (x:=jZ m m) (λ L=>EC m L.1 L.2 a.1 a.2.1) (qhG m m)
def qjk(m k x0 x1 x2 x3 x4 x5 x6 x7 x8 x9 x10 x11):=tb.PL i72 6 m k [(0,.sl y4 x0 1),(4,.ptr 0 0),(5,.ptr 1 0),(7,.row 0 0),(8,.b x1),(9,vI x2)] ⟨[[vI x3,.s x4,vI x5,vT x6],[vI x7,.s x8,vI x9,vT x10]],[⟨y4,x11,0,0,Y⟩]⟩
def qhy(m k):qQ m k=qjk m k:=bf
def qi2:okP tb [] i72:=λ m a=>tK (λ L=>EJ m L a.1 a.2.1 a.2.2.1) (qhy m m)
def qgG:okP tb [] i87:=okk
def qg7:okP tb [] qbr:=okk
def RK(m k x0 x1 x2 x3 x4 x5 x6 x7 x8):=tb.PL i50 3 m k [(2,vI x0),(3,.ptr 0 0),(4,.ptr 1 0),(8,.sl y4 x1 1),(9,vI x2)] ⟨[[vI x3,vT x4,vT x5,.sl y2 x6 1],[vI x7,.sl .str x8 1]],[]⟩
def RR(m k x0 x1 x2 x3 x4 x5 x6):=tb.PL i50 7 m k [(2,vI x0),(3,.ptr 0 0),(8,.sl y4 x1 1),(10,vI x2)] ⟨[[vI x3,vT x4,vT x5,.sl y2 x6 1]],[]⟩
def qeZ(m k):jW m k=(RK m k,RR m k):=bf (M:=λ k=>(RK m k,RR m k))
def qfE:okP tb [] i50:=λ m a=>tK (x:=jW m m) (λ L=>Du m L.1 L.2 a.1 a.2.1 a.2.2.1) (qeZ m m)
def qkm(m k x0 x1 x2 x3 x4 x5 x6 x7 x8 x9):=tb.PL i30 2 m k [(0,.sl y4 x0 1),(3,.ptr 0 0),(4,.ptr 1 0),(5,vI x1)] ⟨[[vI x2,.s x3,vI x4,vT x5],[vI x6,.s x7,vI x8,.row 0 0]],[⟨.term,x9,0,0,Y⟩]⟩
def qiM(m k):uh m k=qkm m k:=bf
def qki:okP tb [] i30:=λ m a=>tK (λ L=>Fe m L a.1 a.2.1) (qiM m m)
def qin:okP tb [] i78:=okk
def qiR:okP tb [] qaH:=okk
def qiU:okP tb [] qbl:=okk
def qhH(m k x0 x1 x2 x3 x4 x5 x6 x7 x8 x9 x10):=tb.QL i79 9 m k [(2,.row 0 0),(3,.ptr 0 0),(4,.ptr 1 0),(8,.b x0),(9,vI x1)] ⟨[[vI x2,.s x3,vI x4,vT x5],[vI x6,.s x7,vI x8,vT x9]],[⟨y4,x10,0,0,Y⟩]⟩
def qgc(m k):tx m (lK m) k=qhH m k:=bf
def qhB:okS tb i79:=λ m a=>tK (λ L=>Ec m (lK m) L a.1 a.2.1 a.2.2.1) (qgc m m)
def SE(m k x0 x1 x2 x3 x4 x5):=tb.PL i31 8 m k [(2,.ptr 0 0),(7,.row 0 0),(9,vI x0)] ⟨[[vI x1,.s x2,vI x3,vT x4]],[⟨y4,x5,0,0,Y⟩]⟩
def Sx(m k x0 x1 x2 x3 x4 x5 x6):=tb.PL i31 11 m k [(2,.ptr 0 0),(7,.row 0 0),(9,vI x0),(10,vI x1)] ⟨[[vI x2,.s x3,vI x4,vT x5]],[⟨y4,x6,0,0,Y⟩]⟩
def Ss(m k x0 x1 x2 x3):=tb.PL i31 18 m k [(7,.row 0 0),(11,.row 1 0),(12,vT x0),(13,vI x1)] ⟨[],[⟨y4,x2,0,0,Y⟩,⟨y4,x3,0,0,Y⟩]⟩
def SK(m k x0 x1 x2 x3 x4):=tb.PL i31 21 m k [(7,.row 0 0),(11,.row 1 0),(12,vT x0),(13,vI x1),(14,vI x2)] ⟨[],[⟨y4,x3,0,0,Y⟩,⟨y4,x4,0,0,Y⟩]⟩
def qgr(m k):cr m k=(SE m k,Sx m k,Ss m k,SK m k):=bf (M:=λ k=>(SE m k,Sx m k,Ss m k,SK m k))
def qh5:okP tb [] i31:=λ m a=>tK (x:=cr m m) (λ L=>wy m L.1 L.2.1 L.2.2.1 L.2.2.2 a.1 a.2.1) (qgr m m)
def qjX(m k x0 x1 x2 x3 x4 x5 x6 x7 x8 x9 x10 x11 x12 x13):=tb.PL i73 6 m k [(0,.sl y4 x0 1),(3,.ptr 0 0),(4,.ptr 1 0),(5,.ptr 2 0),(6,vI x1)] ⟨[[vI x2,.s x3,vI x4,vT x5],[vI x6,.s x7,vI x8,.row 0 0],[vI x9,.s x10,vI x11,.row 1 0]],[⟨.term,x12,0,0,Y⟩,⟨.term,x13,0,0,Y⟩]⟩
def qi9(m k):ue m (kV m) k=qjX m k:=bf
def qkv:okP tb [] i73:=λ m a=>tK (λ L=>Fv m (kV m) L a.1 a.2.1) (qi9 m m)
def qhV(m k x0 x1 x2):=tb.PL Pa 6 m k [(8,.sl y4 x0 1),(10,.sl y4 x1 1),(11,vI x2)] ⟨[],[]⟩
def qgv(m k):tn m k=qhV m k:=bf
def qhn:okP tb [] Pa:=λ m a=>tK (λ L=>zq m L a.1 a.2.1 a.2.2.1) (qgv m m)
def qj5(m k x0 x1 x2 x3):=tb.PL PQ 3 m k [(0,.sl y4 x0 1),(1,vT x1),(5,.row 0 0),(6,vI x2)] ⟨[],[⟨.term,x3,0,0,Y⟩]⟩
def qir(m k):tY m k=qj5 m k:=bf
def qjP:okP tb [] PQ:=λ m a=>tK (λ L=>Fu m L a.1 a.2.1) (qir m m)
def qk8(m k x0 x1 x2 x3 x4 x5 x6 x7 x8 x9 x10 x11 x12 x13 x14 x15 x16 x17 x18 x19 x20 x21 x22 x23 x24 x25):=tb.PL i51 10 m k [(3,.ptr 0 0),(4,.ptr 1 0),(6,.ptr 2 0),(9,.ptr 3 0),(10,.sl y4 x0 1),(13,.row 2 0),(14,vI x1)] ⟨[[vI x2,vT x3,vT x4,.sl y2 x5 1],[vI x6,.sl .str x7 1,vI x8,vI x9,vI x10,vI x11,.sl y4 x12 1],[vI x13,.row 0 0,vI x14,vI x15,vI x16,vI x17,.row 1 0],[vI x18,.s x19,vI x20,vT x21,.sl y5 x22 1]],[⟨.str,x23,0,0,Y⟩,⟨y4,x24,0,0,Y⟩,⟨y10,x25,0,0,Y⟩]⟩
def qke(m k):qT m k=qk8 m k:=bf
def qkL:okP tb [] i51:=λ m a=>tK (λ L=>FW m L a.1 a.2.1 a.2.2.1) (qke m m)
def qhM:okP tb [] i15:=okk
def qfC(m k x0 x1 x2):=tb.PL i52 4 m k [(0,.sl .str x0 1),(1,.sl .str x1 1),(5,vI x2)] ⟨[],[]⟩
def qe4(m k):sV m k=qfC m k:=bf
def qf0:okP tb [] i52:=λ m a=>tK (λ L=>Dj m L a.1 a.2.1) (qe4 m m)
def qi5(m k x0 x1 x2):=tb.PL i53 4 m k [(0,.sl y4 x0 1),(1,.sl y4 x1 1),(5,vI x2)] ⟨[],[]⟩
def qhb(m k):tQ m k=qi5 m k:=bf
def qiI:okP tb [] i53:=λ m a=>tK (λ L=>ES m L a.1 a.2.1) (qhb m m)
def qiq:okP tb [] i16:=okk
def qhD(m k x0 x1 x2):=tb.PL i54 4 m k [(0,vT x0),(1,vT x1),(5,vI x2)] ⟨[],[]⟩
def qgj(m k):tu m k=qhD m k:=bf
def qg8:okP tb [] i54:=λ m a=>tK (λ L=>D8 m L a.1 a.2.1) (qgj m m)
def qd2(m k x0 x1 x2):=tb.PL i17 4 m k [(0,.sl y10 x0 1),(1,.sl y10 x1 1),(5,vI x2)] ⟨[],[]⟩
def qdO(m k):sL m k=qd2 m k:=bf
def qd6:okP tb [] i17:=λ m a=>tK (λ L=>CI m L a.1 a.2.1) (qdO m m)
def qdR:okP tb [] i3:=okk
end
end Go.AmZ
namespace Go.Proofs
open Go.Shelf
def Tryz.sortTrm_ren:Go.Shelf.Ren:=⟨λ|6=>110|15=>159|14=>158|28=>200|29=>201|20=>192|21=>193|22=>194|23=>195|24=>196|25=>197|26=>198|27=>199|46=>242|47=>243|48=>244|49=>245|50=>246|57=>272|n=>n,λ|22=>22|24=>47|25=>107|3=>3|39=>183|0=>0|53=>209|55=>211|4=>4|46=>203|45=>202|50=>153|5=>5|9=>9|66=>234|70=>175|76=>254|77=>255|n=>n,λ|n=>n⟩
def Tryz.sortTrm:Go.Proofs.SlLaysF0.n6 Tryz.prog Tryz.sortTrm_ren:={
 mixed:=by kernel_rfl
 f6:=⟨Tryz.f110.name,by decide,Tryz.func110.trans (bB Z (by kernel_rfl))⟩
 f14:=⟨Tryz.f158.name,by decide,Tryz.func158.trans (bB Z (by kernel_rfl))⟩
 f15:=Tryz.func159.trans (bB Z (by kernel_rfl))
 f20:=⟨Tryz.f192.name,by decide,Tryz.func192.trans (bB Z (by kernel_rfl))⟩
 f21:=⟨Tryz.f193.name,by decide,Tryz.func193.trans (bB Z (by kernel_rfl))⟩
 f22:=⟨Tryz.f194.name,by decide,Tryz.func194.trans (bB Z (by kernel_rfl))⟩
 f23:=⟨Tryz.f195.name,by decide,Tryz.func195.trans (bB Z (by kernel_rfl))⟩
 f24:=⟨Tryz.f196.name,by decide,Tryz.func196.trans (bB Z (by kernel_rfl))⟩
 f25:=⟨Tryz.f197.name,by decide,Tryz.func197.trans (bB Z (by kernel_rfl))⟩
 f26:=⟨Tryz.f198.name,by decide,Tryz.func198.trans (bB Z (by kernel_rfl))⟩
 f27:=⟨Tryz.f199.name,by decide,Tryz.func199.trans (bB Z (by kernel_rfl))⟩
 f28:=Tryz.func200.trans (bB Z (by kernel_rfl))
 f29:=Tryz.func201.trans (bB Z (by kernel_rfl))
 f46:=⟨Tryz.f242.name,by decide,Tryz.func242.trans (bB Z (by kernel_rfl))⟩
 f47:=Tryz.func243.trans (bB Z (by kernel_rfl))
 f48:=Tryz.func244.trans (bB Z (by kernel_rfl))
 f49:=⟨Tryz.f245.name,by decide,Tryz.func245.trans (bB Z (by kernel_rfl))⟩
 f50:=⟨Tryz.f246.name,by decide,Tryz.func246.trans (bB Z (by kernel_rfl))⟩
 f57:=⟨Tryz.f272.name,by decide,Tryz.func272.trans (bB Z (by kernel_rfl))⟩
 t0:=Tryz.underlying0
 a0:=Tryz.isAgg0
 z0:=Tryz.sizeOf0
 v0:=Tryz.zeroValue0
 t3:=Tryz.underlying3
 a3:=Tryz.isAgg3
 z3:=Tryz.sizeOf3
 v3:=Tryz.zeroValue3
 t4:=Tryz.underlying4
 a4:=Tryz.isAgg4
 z4:=Tryz.sizeOf4
 v4:=Tryz.zeroValue4
 t5:=Tryz.underlying5
 a5:=Tryz.isAgg5
 z5:=Tryz.sizeOf5
 v5:=Tryz.zeroValue5
 t9:=Tryz.underlying9
 a9:=Tryz.isAgg9
 z9:=Tryz.sizeOf9
 v9:=Tryz.zeroValue9
 t22:=Tryz.underlying22
 a22:=Tryz.isAgg22
 z22:=Tryz.sizeOf22
 v22:=Tryz.zeroValue22
 t25:=Tryz.underlying107
 a25:=Tryz.isAgg107
 z25:=Tryz.sizeOf107
 v25:=Tryz.zeroValue107
 t39:=Tryz.underlying183
 a39:=Tryz.isAgg183
 z39:=Tryz.sizeOf183
 v39:=Tryz.zeroValue183
 t45:=Tryz.underlying202
 a45:=Tryz.isAgg202
 z45:=Tryz.sizeOf202
 v45:=Tryz.zeroValue202
 t46:=Tryz.underlying203
 a46:=Tryz.isAgg203
 z46:=Tryz.sizeOf203
 v46:=Tryz.zeroValue203
 t50:=Tryz.underlying153
 a50:=Tryz.isAgg153
 z50:=Tryz.sizeOf153
 v50:=Tryz.zeroValue153
 t53:=Tryz.underlying209
 a53:=Tryz.isAgg209
 z53:=Tryz.sizeOf209
 v53:=Tryz.zeroValue209
 t55:=Tryz.underlying211
 a55:=Tryz.isAgg211
 z55:=Tryz.sizeOf211
 v55:=Tryz.zeroValue211
 t66:=Tryz.underlying234
 a66:=Tryz.isAgg234
 z66:=Tryz.sizeOf234
 v66:=Tryz.zeroValue234
 t70:=Tryz.underlying175
 a70:=Tryz.isAgg175
 z70:=Tryz.sizeOf175
 v70:=Tryz.zeroValue175
 t76:=Tryz.underlying254
 a76:=Tryz.isAgg254
 z76:=Tryz.sizeOf254
 v76:=Tryz.zeroValue254
 t77:=Tryz.underlying255
 a77:=Tryz.isAgg255
 z77:=Tryz.sizeOf255
 v77:=Tryz.zeroValue255}
end Go.Proofs
namespace Go.Proofs
open Go.Shelf
def Tryz.sortBnd_ren:Go.Shelf.Ren:=⟨λ|14=>182|20=>229|21=>230|22=>231|23=>232|24=>233|25=>234|26=>235|27=>236|46=>269|47=>243|48=>244|49=>270|50=>271|15=>159|57=>282|28=>200|29=>201|n=>n,λ|24=>62|22=>32|3=>3|25=>172|4=>4|0=>0|46=>203|45=>202|50=>153|66=>234|39=>183|55=>211|70=>175|76=>254|77=>255|53=>209|5=>5|9=>9|n=>n,λ|n=>n⟩
def Tryz.sortBnd:Go.Proofs.SlLaysF0.n14 Tryz.prog Tryz.sortBnd_ren:={
 mixed:=by kernel_rfl
 f14:=⟨Tryz.f182.name,by decide,Tryz.func182.trans (bB Z (by kernel_rfl))⟩
 f15:=Tryz.func159.trans (bB Z (by kernel_rfl))
 f20:=⟨Tryz.f229.name,by decide,Tryz.func229.trans (bB Z (by kernel_rfl))⟩
 f21:=⟨Tryz.f230.name,by decide,Tryz.func230.trans (bB Z (by kernel_rfl))⟩
 f22:=⟨Tryz.f231.name,by decide,Tryz.func231.trans (bB Z (by kernel_rfl))⟩
 f23:=⟨Tryz.f232.name,by decide,Tryz.func232.trans (bB Z (by kernel_rfl))⟩
 f24:=⟨Tryz.f233.name,by decide,Tryz.func233.trans (bB Z (by kernel_rfl))⟩
 f25:=⟨Tryz.f234.name,by decide,Tryz.func234.trans (bB Z (by kernel_rfl))⟩
 f26:=⟨Tryz.f235.name,by decide,Tryz.func235.trans (bB Z (by kernel_rfl))⟩
 f27:=⟨Tryz.f236.name,by decide,Tryz.func236.trans (bB Z (by kernel_rfl))⟩
 f28:=Tryz.func200.trans (bB Z (by kernel_rfl))
 f29:=Tryz.func201.trans (bB Z (by kernel_rfl))
 f46:=⟨Tryz.f269.name,by decide,Tryz.func269.trans (bB Z (by kernel_rfl))⟩
 f47:=Tryz.func243.trans (bB Z (by kernel_rfl))
 f48:=Tryz.func244.trans (bB Z (by kernel_rfl))
 f49:=⟨Tryz.f270.name,by decide,Tryz.func270.trans (bB Z (by kernel_rfl))⟩
 f50:=⟨Tryz.f271.name,by decide,Tryz.func271.trans (bB Z (by kernel_rfl))⟩
 f57:=⟨Tryz.f282.name,by decide,Tryz.func282.trans (bB Z (by kernel_rfl))⟩
 t0:=Tryz.underlying0
 a0:=Tryz.isAgg0
 z0:=Tryz.sizeOf0
 v0:=Tryz.zeroValue0
 t3:=Tryz.underlying3
 a3:=Tryz.isAgg3
 z3:=Tryz.sizeOf3
 v3:=Tryz.zeroValue3
 t4:=Tryz.underlying4
 a4:=Tryz.isAgg4
 z4:=Tryz.sizeOf4
 v4:=Tryz.zeroValue4
 t5:=Tryz.underlying5
 a5:=Tryz.isAgg5
 z5:=Tryz.sizeOf5
 v5:=Tryz.zeroValue5
 t9:=Tryz.underlying9
 a9:=Tryz.isAgg9
 z9:=Tryz.sizeOf9
 v9:=Tryz.zeroValue9
 t22:=Tryz.underlying32
 a22:=Tryz.isAgg32
 z22:=Tryz.sizeOf32
 v22:=Tryz.zeroValue32
 t25:=Tryz.underlying172
 a25:=Tryz.isAgg172
 z25:=Tryz.sizeOf172
 v25:=Tryz.zeroValue172
 t39:=Tryz.underlying183
 a39:=Tryz.isAgg183
 z39:=Tryz.sizeOf183
 v39:=Tryz.zeroValue183
 t45:=Tryz.underlying202
 a45:=Tryz.isAgg202
 z45:=Tryz.sizeOf202
 v45:=Tryz.zeroValue202
 t46:=Tryz.underlying203
 a46:=Tryz.isAgg203
 z46:=Tryz.sizeOf203
 v46:=Tryz.zeroValue203
 t50:=Tryz.underlying153
 a50:=Tryz.isAgg153
 z50:=Tryz.sizeOf153
 v50:=Tryz.zeroValue153
 t53:=Tryz.underlying209
 a53:=Tryz.isAgg209
 z53:=Tryz.sizeOf209
 v53:=Tryz.zeroValue209
 t55:=Tryz.underlying211
 a55:=Tryz.isAgg211
 z55:=Tryz.sizeOf211
 v55:=Tryz.zeroValue211
 t66:=Tryz.underlying234
 a66:=Tryz.isAgg234
 z66:=Tryz.sizeOf234
 v66:=Tryz.zeroValue234
 t70:=Tryz.underlying175
 a70:=Tryz.isAgg175
 z70:=Tryz.sizeOf175
 v70:=Tryz.zeroValue175
 t76:=Tryz.underlying254
 a76:=Tryz.isAgg254
 z76:=Tryz.sizeOf254
 v76:=Tryz.zeroValue254
 t77:=Tryz.underlying255
 a77:=Tryz.isAgg255
 z77:=Tryz.sizeOf255
 v77:=Tryz.zeroValue255}
end Go.Proofs
