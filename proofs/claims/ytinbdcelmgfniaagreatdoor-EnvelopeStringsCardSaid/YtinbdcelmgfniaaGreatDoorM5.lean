/- Part 5 of what the proofs stand on: plain functions of the program, and that they are its functions. -/
import Derived.Test.YtinbdcelmgfniaaGreatDoorM4
import Derived.KernelRfl
import Derived.Test.YtinbdcelmgfniaaGreatDoorM3
import Derived.SliceStrings
import Derived.SizedLaws
import Derived.Shelf.SlSortCmp.NoneTotal
import Derived.Test.YtinbdcelmgfniaaGreatDoorProg
import Derived.Test.YtinbdcelmgfniaaGreatDoorM2
set_option linter.unusedVariables false
set_option linter.unusedSimpArgs false
set_option linter.defProp false
noncomputable section
open Option renaming some->Z,none->U
open Bool renaming true->O,false->Y
open Decidable renaming decide->J
open List renaming length->I
open Array renaming toList->V
open Go renaming Value->ah,World->ao,TypeId->aO,Program->aX
namespace Go.AmZ
open GxZ
def Ml(t:T):Ev (λ m _=>wK m t) (kw t):=by
 apply aJ;simp only[qdN,IP];unfold kw;by_cases a:t.kind=3
 .refine aj (aI.2 a) (am (λ h=>?_) λ h=>(am (λ b=>?_) λ b=>?_))
  .rw[cF]at h;exact ay (by rw[a,h];rfl)
  .rw[cF]at b;exact ay (by rw[a,b];rfl)
  .rw[cW]at h b
   exact ay (by
    have d:(t.name==iN)=Y:=by rw[gG];exact h
    have c:(t.name==dZ)=Y:=by rw[gG];exact b
    rw[a,d,c];rfl)
 .exact ak (aG.2 a) (ay (by have:(t.kind==3)=Y:=by rw[gG];exact a
                            rw[this];rfl))
def qjd(t:T):size t<=1000000000->Ev (λ m _=>kZ m t) (arT t):=by
 induction t using T.ind with
 |h t n=>
   intro v;have w:=dK t;apply aJ;simp only[qfn,Di,aH];refine ai (Ml t) (am (λ h=>?_) λ h=>?_)
   .rw[bnt]at h;exact ay (by rw[GR,h];rfl)
   rw[bnf]at h;let⟨y,d⟩:=Gr.1 h;have f:arT t=(arK t&&(t.kids.map arT).all id):=by rw[GR,h];rfl
   have c:arK t=O->Ev (λ m _=>rt m (kZ m) m (I t.kids) 0 t.kind t.name t.sort t.kids) (arT t):=by
    intro b;rw[f,b,ei]
    have g:=bA (P:=λ i=>Ev (λ m k=>rt m (kZ m) k (I t.kids) i t.kind t.name t.sort t.kids) (((t.kids.drop i).map arT).all id)) t.kids (by omega)
     (λ j=>by
      apply aF;simp only[QS,C8];refine ak j (ay ?_);rw[ej];rfl)
     (λ i x o r j q p s=>by
      apply aF;simp only[QS,C8,aH];have l:=aP o;have z:=du t x l;rw[r,aZ,fm];refine aj j (aw q (ai (n x l (by omega)) (am (λ e=>?_) λ e=>?_)))
      .rw[bnt]at e;rw[e];exact ap _
      .rw[bnf]at e;rw[e,p];exact s)
    apply bj (L:=λ m k=>rt m (kZ m) k (I t.kids) 0 t.kind t.name t.sort t.kids);exact(g 0 (aL _)).res (by rw[dl])
   have u:arK t=Y->Ev (λ _ _=>Z Y) (arT t):=λ b=>ay (by rw[f,b];rfl);obtain a|a|a:=d
   .refine aj (by rw[a];rfl) (am (λ b=>?_) λ b=>?_)
    .grind [arK,bf,decide_eq_true]
    .rw[bg]at b;exact ak (by rw[a];rfl) (ak (by rw[a];rfl) (c (by unfold arK;rw[a,gj (show ¬ I t.kids<2 by omega)];rfl)))
   .refine ak (by rw[a];rfl) (aj (by rw[a];rfl) (am (λ b=>?_) λ b=>?_))
    .rw[bnt,aG]at b;grind [arK]
    .rw[bnf,aI]at b;exact ak (by rw[a];rfl) (c (by unfold arK;rw[a,show(I t.kids != 1)=Y from by rw[Pp];omega];rfl))
   .refine ak (by rw[a];rfl) (ak (by rw[a];rfl) (aj (by rw[a];rfl) (am (λ b=>?_) λ b=>?_)))
    .rw[bnt,aG]at b;grind [arK]
    .rw[bnf,aI]at b;exact c (by unfold arK;rw[a,show(I t.kids != 0)=Y from by rw[Pp];omega];rfl)
theorem S4(t:T)(n:Int):∀(l:aa Pw) (s:aa Pw×Bool),(l.foldl (dH t n) s).1.length<=I s.1+2*I l
 |[],s=>by simp
 |x::l,s=>by
   have h:=S4 t n l (dH t n s x);grind [dH]
def WF{l:aa Pw}(y:gP l)(t:T)(n:Int)(D:szP l+size t<=1000000000:=by omega)(E:ee l+n.natAbs<=1000000000000:=by omega):Ev (λ m _=>zC m l t n) ((),cE l t n,()):=by
 have F:=oq l;apply aJ;simp only[qhZ,D4]
 have j:∀i,((l.take i).foldl (dH t n) ([],Y)).1.length<=2*I l:=λ i=>by
  grind [S4,List.length_take,List.length_nil]
 have w:=bA (P:=λ i=>Ev (λ m k=>pS m k n ((l.take i).foldl (dH t n) ([],Y)).2 i t.kind t.name t.sort t.kids l ((l.take i).foldl (dH t n) ([],Y)).1) ((),cE l t n,())) l (by omega)
  (λ z=>by
   apply aF;simp only[Rk,DM];apply ak z;have:=j (I l);have u:=qk7 y.2 y.1 t n;rw[cV]at this |-
   unfold M5 at u;refine am (λ h=>?_) λ h=>?_
   .rw[bnt]at h;rw[af (by rw[h];decide)]at u;rw[show T.mk t.kind t.name t.sort t.kids=t from aH t,u];exact aj (cx) (ap _)
   .rw[bnf]at h;rw[ag h]at u;rw[u];exact ap _)
  (λ i p A G z f B v=>by
   apply aF;simp only[Rk,DM,aH];have x:=aP A;have M:=qi x;have K:=j i;have H:=MA l p x;have d:=y.2 p x;rw[gn A,yz]at v;generalize (l.take i).foldl (dH t n) ([],Y)=s at*
   have r:∀(b:Bool) (o:aa Pw),dH t n s p=(o,b)->Ev (λ m k=>pS m k n b ((i+1:Nat):Int) t.kind t.name t.sort t.kids l o) ((),cE l t n,()):=λ b o e=>by
    have v:Ev (λ m k=>pS m k n (dH t n s p).2 ((i+1:Nat):Int) t.kind t.name t.sort t.kids l (dH t n s p).1) ((),cE l t n,()):=v;rw[e]at v;exact v
   have e1:iw .i64 (aD p.2 n)=p.2+n:=by unfold aD;exact eR
   rw[show T.mk t.kind t.name t.sort t.kids=t from aH t,B];have q:au (ieq p.2 0)=O:=bnt.2 (aG.2 d);refine aj z (aw f (ai (Ep t (by omega) p.1 (by omega)) (am (λ h=>?_) λ h=>?_)))
   .rw[bnt]at h;refine am (λ g=>?_) λ g=>?_
    .rw[bf]at g;refine aj (cx) (aw f (ak (aG.2 (by omega)) (aj q (aj (cx (by rw[aU];simp only[bG,fE];omega)) (r _ _ ?_)))));unfold dH;rw[ag ⟨h,g⟩,af (show ¬ aQ t p.1=0 by omega),af d,cO (show aQ t p.1<=0 by omega),pK]
    .rw[bg]at g;refine aw f (am (λ a=>?_) λ a=>?_)
     .rw[aI]at a;refine am (λ c=>?_) λ c=>?_
      .rw[bnt,aG,e1]at c;refine aj (cx) (r _ _ ?_);rw[e1];unfold dH;rw[ifN,ag a,af c,cO (show aQ t p.1<=0 by omega),pK]
      .rw[bnf,aI,e1]at c;apply r _ _;unfold dH;rw[ifN,ag a,ag c,cO (show aQ t p.1<=0 by omega),pK,bZ]
     .rw[aG]at a;refine aj q (aj (cx) (r _ _ ?_));unfold dH;rw[ifN,af a,af d,gj (show ¬ aQ t p.1<=0 by omega),Bool.or_false]
   .rw[bnf]at h;refine aw f (am (λ a=>?_) λ a=>?_)
    .rw[aI]at a;refine am (λ c=>?_) λ c=>?_
     .rw[bnt,aG,e1]at c;refine aj (cx) (r _ _ ?_);rw[e1];unfold dH;rw[ifN,ag a,af c,cO (show aQ t p.1<=0 by omega),pK]
     .rw[bnf,aI,e1]at c;apply r _ _;unfold dH;rw[ifN,ag a,ag c,cO (show aQ t p.1<=0 by omega),pK,bZ]
    .rw[aG]at a;refine aj q (aj (cx) (r _ _ ?_));unfold dH;rw[af (by rw[h];intro C;cases C.1),af a,af d,h,nO])
 apply bj (L:=λ m k=>pS m k n Y 0 t.kind t.name t.sort t.kids l []);exact w 0 (aL _)
def qhG(t:T):∀(l:aa Pw) (n:Int),n≠0->gP l->szP l+size t<=80000000->ee l+size t*n.natAbs<=100000000000->Ev (λ m _=>kX m l t n) ((),df t l n,()):=by
 induction t using T.ind with
 |h t y=>
   intro l n E w D H;have F:=dK t;have C:=bX t;apply aJ;simp only[qc9,Ct,aH];have u:n.natAbs<=size t*n.natAbs:=ZY _ (size_pos t);refine ai (Ml t) (am (λ h=>?_) λ h=>?_)
   .rw[bnt]at h;refine ai (WF w t n) (ay ?_);rw[rV,h];rfl
   rw[bnf]at h;let⟨Q,g⟩:=Gr.1 h
   have r:∀a:Int,a≠0->a.natAbs=n.natAbs->gd t n=a->Ev (λ m _=>rj m (kX m) m a 0 t.kind t.name t.sort t.kids l) ((),df t l n,()):=by
    intro a b q f;have c:df t l n=jN t.kids a l (I t.kids):=by rw[rV,h,ag rfl,f];unfold jN;rw[cV]
    rw[c]
    have d:=bA (P:=λ i=>Ev (λ m k=>rj m (kX m) k a i t.kind t.name t.sort t.kids (jN t.kids a l i)) ((),jN t.kids a l (I t.kids),())) t.kids (by omega)
     (λ p=>by
      apply aF;simp only[Qf,Cq];exact ak p (ap _))
     (λ i x e G p o z A=>by
      apply aF;simp only[Qf,Cq,aH];have v:=aP e;have R:=du t x v;let⟨B,X,W,S⟩:=JY a b (t.kids.take i) l w;have N:=pP e;have M:szL t.kids+1=size t:=by unfold szL;omega
      have K:szL (t.kids.take i)*a.natAbs+size x*a.natAbs<=size t*n.natAbs:=by
       rw[<-dD,q];exact cj _ (by omega)
      refine aj p (aw o (ai (y x v (jN t.kids a l i) a b B (by unfold jN;omega) (by unfold jN;omega)) ?_));rw[z];refine A.congr λ m k=>?_;rw[Tt e])
    apply bj (L:=λ m k=>rj m (kX m) k a 0 t.kind t.name t.sort t.kids l);exact d 0 (aL _)
   have s:iw .i64 (cr 0 n)=-n:=by
    grind [cr,eR]
   refine am (λ j=>?_) λ j=>?_
   .rw[cF]at j;simp_all [gd,dZ]
   .rw[cW]at j;grind [gd,dZ]
def MM(t:T)(c:size t<=1000000000:=by omega):Ev (λ m _=>xg m t) (ofP t):=by
 apply aJ;simp only[qiM,JN,aH];unfold ofP;refine ai (rI t c) (am (λ h=>?_) λ h=>?_)
 .rw[bnt,aG]at h;rw[ag h];exact ap _
 .rw[bnf,aI]at h;have d:=lY h;rw[ifN];refine ai (qjd t c) (am (λ b=>?_) λ b=>?_)
  .rw[bnt]at b;rw[ag b];exact ap _
  .rw[bnf]at b;rw[af (by rw[b];decide)];refine ai (qhG t [] 1 (by decide) gP.nil (by show 0+_<=_;omega) (by show 0+size t*1<=_;omega)) (am (λ a=>?_) λ a=>?_)
   .rw[bf]at a;have a:(200:Int)<(I (df t [] 1):Int):=a;rw[ifP];exact ap _
   .rw[bg]at a;have a:(I (df t [] 1):Int)<=200:=a;rw[ifN];exact ap _
def Lt(l:aa Pw)(E:szP l<=1000000000:=by omega):Ev (λ m _=>wP m l) (gx l):=by
 have F:=oq l;apply aJ;simp only[qfF,C4];unfold gx;refine am (λ h=>?_) λ h=>?_
 .rw[bf]at h;rw[ifP];exact ap _
 rw[bg]at h;rw[ifN]
 have t:=bA (P:=λ i=>Ev (λ m k=>ru m k l i) (pvL (lw l i) (l.drop i))) l (by omega)
  (λ A=>by
   apply aF;simp only[QR,Do];refine ak A (ay ?_);rw[ej];rfl)
  (λ i x v D A p C B=>by
   apply aF;simp only[QR,Do,aH];have H:=qi (aP v);rw[EK v]at B;rw[D,pvL];have c:=My (lw l i) x
   have b:∀e:Int,pvK (lw l i) x=e->e≠0->Ev (λ _ _=>Z e) (thn (pvK (lw l i) x) (pvL (Z x.1) (l.drop (i+1)))):=λ e z s=>by
    rw[z];exact ay (by unfold thn;rw[af s])
   have d:pvK (lw l i) x=0->Ev (λ m k=>ru m k l ((i+1:Nat):Int)) (thn (pvK (lw l i) x) (pvL (Z x.1) (l.drop (i+1)))):=λ z=>by
    rw[z];exact B.res (by unfold thn;rw[ag rfl])
   refine aj A (aw p (ai (rI x.1) (am (λ r=>?_) λ r=>?_)))
   .rw[bnt,aG]at r;exact b _ (by rw[c,ag r]) r
   rw[bnf,aI]at r;rw[ifN]at c;refine aw p (ai (Ml x.1) (am (λ o=>?_) λ o=>?_))
   .exact b 1 (by rw[c,ag o]) (by decide)
   rw[af (by rw[o];decide)]at c;refine aw p (am (λ u=>?_) λ u=>?_)
   .rw[aI]at u;exact b 7 (by rw[c,ifP]) (by decide)
   rw[aG]at u;refine aw p (am (λ n=>?_) λ n=>?_)
   .rw[bf]at n;exact b 7 (by rw[c,ifP]) (by decide)
   rw[bg]at n;refine aw p (am (λ g=>?_) λ g=>?_)
   .rw[bf]at g;exact b 7 (by rw[c,ifP]) (by decide)
   rw[bg]at g;rw[ifN]at c;rw[C];refine am (λ s=>?_) λ s=>?_
   .rw[bf]at s;obtain⟨j,rfl⟩:∃j,i=j+1:=⟨i-1,by omega⟩
    have y:j<I l:=by have:=(dV.1 v).1;omega
    obtain⟨q,w⟩:∃q,l[j]?=Z q:=⟨_,aV y⟩
    have G:=qi (aP w);rw[EK w]at c b d |-
    simp only at c;refine aw (a:=q) (by rw[show cr ((j+1:Nat):Int) 1=((j:Nat):Int)from by unfold cr;omega,eR,fJ,w]) (aw p (ai (Ep q.1 (by omega) x.1 (by omega)) (am (λ f=>?_) λ f=>?_)))
    .rw[lq]at f;exact b 5 (by rw[c,ag f]) (by decide)
    .rw[pj]at f;exact d (by rw[c,ifN])
   .rw[bg]at s;have:i=0:=by omega
    subst this;exact d (by rw[c];rfl))
 apply bj (L:=λ m k=>ru m k l 0);exact t 0 (aL _)
def SF(A:aa T)(x:T)(h:I (A.take 9)<9:=by omega):A.take 9++[x]=(A++[x]).take 9:=by
 rw[bD]at h;rw[tn (by omega),tn (by rw[aU];simp only[bG,fE];omega)]
def R9(A B:aa T)(h:¬ I (A.take 9)<9:=by omega):A.take 9=(A++B).take 9:=by
 rw[bD]at h;rw[yx (by omega)]
def qls(l:aa Pw)(C:I l<=1000)(u:∀p∈l,p.2.natAbs<=1000):Ev (λ m _=>De m l) ((cw l++cz l).take 9):=by
 apply aJ;simp only[qcv,B8];have t:∀A:aa T,I (A.take 9)<=9:=λ A=>by rw[bD];omega
 have w:=bA (P:=λ i=>Ev (λ m k=>(dn m k).2.2.1 l i ((cw l++cz (l.take i)).take 9)) ((cw l++cz l).take 9)) l (by omega)
  (λ g=>by
   apply aF;simp only[PW,B4];apply ak g;rw[cV];exact ap _)
  (λ i p o z g e q n=>by
   apply aF;simp only[PW,B4];apply aj g;have r:=u p (aP o);rw[gn o,LF,Lb,<-bE]at n;generalize cw l++cz (l.take i)=A at *;have b:iw .i64 (cr 0 p.2)=-p.2:=by unfold cr;rw[eR];omega
   have v:=FP (P:=λ j=>Ev (λ m k=>(dn m k).2.2.2 l i j ((A++List.replicate j (apT dZ [p.1])).take 9)) ((cw l++cz l).take 9)) (-p.2) (by omega)
    (by
     apply aF;simp only[P3,B2,aH];refine aw e (ak (by rw[b,bg];omega) ?_);rw[q];exact n)
    (λ j s c a=>by
     apply aF;simp only[P3,B2,aH];rw[Pq,<-bE]at a;have B:=t (A++List.replicate j (apT dZ [p.1]));refine aw e (aj (by rw[b,bf];exact s) (am (λ h=>?_) λ h=>?_))
     .rw[bf]at h;refine aw e (ai (qk [105,110,118] [p.1] (by simp)) (aj (cx) ?_));rw[c];refine a.congr λ m k=>?_;rw[<-SF _ _];rfl
     .rw[bg]at h;rw[q];refine n.congr λ m k=>?_;obtain⟨d,f⟩:∃d,(-p.2).toNat=j+d:=⟨(-p.2).toNat-j,by omega⟩
      rw[f,<-qoW,<-bE,<-R9 (A++List.replicate j (apT dZ [p.1])) _])
   have:=v 0 (aL _);rw[If,bZ]at this;exact this)
 have y:=bA (P:=λ i=>Ev (λ m k=>(dn m k).1 l i ((cw (l.take i)).take 9)) ((cw l++cz l).take 9)) l (by omega)
  (λ g=>by
   apply aF;simp only[P1,B0];apply ak g;rw[cV];have:=w 0 (aL _);rw[qW,show cz []=[]from rfl,bZ]at this;exact this)
  (λ i p o z g e q n=>by
   apply aF;simp only[P1,B0];apply aj g;have r:=u p (aP o);rw[gn o,KR,K5]at n;generalize cw (l.take i)=A at*
   have x:=FP (P:=λ j=>Ev (λ m k=>(dn m k).2.1 l i j ((A++List.replicate j p.1).take 9)) ((cw l++cz l).take 9)) p.2 (by omega)
    (by
     apply aF;simp only[PZ,B7,aH];refine aw e (ak (by rw[bg];omega) ?_);rw[q];exact n)
    (λ j s c a=>by
     apply aF;simp only[PZ,B7,aH];rw[Pq,<-bE]at a;have B:=t (A++List.replicate j p.1);refine aw e (aj (by rw[bf];exact s) (am (λ h=>?_) λ h=>?_))
     .rw[bf]at h;refine aw e (aj (cx) ?_);rw[c];refine a.congr λ m k=>?_;rw[<-SF _ _]
     .rw[bg]at h;rw[q];refine n.congr λ m k=>?_;obtain⟨d,f⟩:∃d,p.2.toNat=j+d:=⟨p.2.toNat-j,by omega⟩
      rw[f,<-qoW,<-bE,<-R9 (A++List.replicate j p.1) _])
   have:=x 0 (aL _);rw[If,bZ]at this;exact this)
 apply bj (L:=λ m k=>(dn m k).1 l 0 []);exact y 0 (aL _)
def qnO(S:Nat):∀l:aa Pw,(∀p∈l,size p.1<=S)->(∀x∈cw l,size x<=S)/\∀x∈cz l,size x<=1+S:=by
 intro l h;refine⟨λ x a=>?_,λ x a=>?_⟩
 .unfold cw at a;let⟨p,b,a⟩:=ir.1 a;rw[O4 a];exact h p b
 .unfold cz at a;let⟨p,b,a⟩:=ir.1 a;rw[O4 a,UI];have:=h p b;omega
def X7(S:Nat):∀l:aa T,(∀x∈l,size x<=S)->szL l<=I l*S
 |[],_=>by simp[szL]
 |x::l,h=>by
   have c:=X7 S l λ q a=>h q (aS _ a);have b:=h x (aW ..);rw[dz,bG,dD];omega
def Up(l:aa Pw)(q:szP l<=1000000000:=by omega):Ev (λ m _=>uC m l) (ja l):=by
 apply aJ;simp only[qgM,Ju,aH];refine ai (Lt l q) (am (λ h=>?_) λ h=>?_)
 .rw[bnt,aG]at h;unfold ja;rw[ag h];exact ap _
 rw[bnf,aI]at h;let⟨_,j,y,w⟩:=rE h;have f:∀p∈l,size p.1<=400:=λ p s=>lY (w p s).1;rw[Kt h];let⟨n,k⟩:=qnO 400 l f
 have d:∀x∈cw l++cz l,size x<=401:=λ x c=>by
  obtain c|c:=bc.1 c
  .have:=n x c;omega
  .exact k x c
 apply ai (qls l (by omega) y);generalize cw l++cz l=A at *;unfold pE;refine am (λ g=>?_) λ g=>?_
 .rw[bf,bD]at g;rw[ifP];exact ap _
 rw[bg,bD]at g;rw[ifN,tn (by omega)];have z:=X7 401 A d;have t:=W4 A;have B:I A*401<=8*401:=cj _ (by omega)
 have b:∀u:T,u=fD A->Ev (λ m _=>ae (lh m u) λ v=>cond (au (ieq v 0)) (Z (T.mk 0 [] 0 [],v)) (Z (u,0))) (if aN (fD A)≠0 then(zT,aN (fD A))else(fD A,0)):=by
  intro u o;subst o;refine ai (rI _) (am (λ h=>?_) λ h=>?_)
  .rw[bnt,aG]at h;rw[ag h];exact ap _
  .rw[bnf,aI]at h;rw[ifN];exact ap _
 refine ai (qk [109,117,108] A) (am (λ i=>?_) λ i=>?_)
 .rw[aI]at i;refine ai (qk [111,110,101] [] (by simp)) (ak (aG.2 (by omega)) (b _ (by unfold fD;rw[ifP];rfl)))
 .rw[aG]at i;refine am (λ e=>?_) λ e=>?_
  .rw[aI]at e;refine aw (a:=A.getD 0 zT) ?_ (b _ (by unfold fD;rw[ifN,ifP]));rw[nZ,gE];cases A with
   |nil=>simp at e
   |cons x r=>rfl
  .rw[aG]at e;exact b _ (by unfold fD;rw[ifN,ifN];rfl)
def qjP(l:aa Pw)(n:I l<=1000000000:=by omega):Ev (λ m _=>DA m l) (if pF l then 7 else if 200<I l then 3 else 0):=by
 apply aJ;simp only[qdY,Cs]
 have b:=bA (P:=λ i=>Ev (λ m k=>tN m k l i) (if pF (l.drop i)then(7:Int)else if 200<I l then 3 else 0)) l (by omega)
  (λ c=>by
   apply aF;simp only[P9,Cc];rw[ej,af (by decide)];refine ak c (am (λ h=>?_) λ h=>?_)
   .rw[bf]at h;rw[ifP];exact ap _
   .rw[bg]at h;rw[ifN];exact ap _)
  (λ i p j f c d e g=>by
   apply aF;simp only[P9,Cc];rw[f,T5];refine aj c (aw d (am (λ h=>?_) λ h=>?_))
   .rw[bf]at h;rw[cO h,nO,nO,ag rfl];exact ap _
   .rw[bg]at h;rw[gj (show ¬ p.2 < -1000 by omega),pM];refine aw d (am (λ a=>?_) λ a=>?_)
    .rw[bf]at a;rw[cO a,nO,ag rfl];exact ap _
    .rw[bg]at a;rw[gj (show ¬ 1000<p.2 by omega),pM,e];exact g)
 apply bj (L:=λ m k=>tN m k l 0);exact(b 0 (aL _)).res (by rw[dl])
def qmY(a b:aa Pw)(E:szP a<=100000000:=by omega)(D:szP b<=100000000:=by omega):Ev (λ m _=>Fe m a b) (pu a b):=by
 have B:=oq b;have v:=oq a;apply aJ;simp only[qhY,D0];rw[SM];refine ai (Lt a) (am (λ h=>?_) λ h=>?_)
 .rw[bnt,aG]at h;rw[ag h];exact ap _
 rw[bnf,aI]at h;rw[ifN];refine ai (Lt b) (am (λ e=>?_) λ e=>?_)
 .rw[bnt,aG]at e;rw[ag e];exact ap _
 rw[bnf,aI]at e;rw[ifN]
 have g:=bA (P:=λ i=>Ev (λ m k=>rC m k b i (eC a (b.take i))) (vx (eC a b))) b (by omega)
  (λ j=>by
   apply aF;simp only[Rr,DP];rw[cV];let⟨_,q,_,_⟩:=zm h e (I b);rw[cV]at q;refine ak j (ai (qjP _) ?_);unfold vx;by_cases f:pF (eC a b)=O
   .rw[ag f,ag f];exact aj rfl (ap _)
   .rw[af f,af f];by_cases d:200<I (eC a b)
    .rw[ag d,ag d];exact aj rfl (ap _)
    .rw[af d,af d];exact ak rfl (ap _))
  (λ i p l C j o w y=>by
   apply aF;simp only[Rr,DP,aH];have n:=aP l;let⟨z,q,G,F⟩:=zm h e i;let⟨_,_,u,s⟩:=rE e;have A:=lY (s p n).1;have t:=u p n;refine aj j (aw o (aw o (ai (WF z p.1 p.2) ?_)));rw[w];refine y.congr λ m k=>?_;rw[gn l,TZ])
 refine aj (cx (by simp only[fE];omega)) ?_;have c:Ev (λ m _=>rC m m b 0 a) (vx (eC a b)):=bj (L:=λ m k=>rC m k b 0 a) (g 0 (aL _));exact Ev.case (λ h=>by rw[h]at c |-;exact c) λ x r h=>by rw[h]at c |-;exact c
section
open Lib
def uH{t:T}(h:fZ t=0):aN t=0/\bL t=0:=by
 unfold fZ at h;exact uT h
def F6{t:T}(h:bL t=0){n:aa aA}(i:isN t n=O){a b c:Int}(g:bK n=(a,b,c)):a<=(I t.kids:Int)/\(I t.kids:Int)<=b/\∀k∈t.kids,bL k=0:=by
 obtain⟨d,rfl⟩:=dx.1 i;let⟨l,j⟩:=rH d h;let⟨_,f,e,_⟩:=LH d l;rw[g]at f e;exact⟨f,e,j⟩
end
def Cl(P:T->Prop):Prop:=∀t:T,t.kind=3->P t->∀k∈t.kids,P k
def Fu:∀(n:Nat) (a b:aa T),I a+I b<=n->∀x∈cq a b,x∈a\/x∈b
 |_,[],b,_,x,h=>by rw[cq]at h;exact .inr h
 |_,z::a,[],_,x,h=>by rw[cq]at h;exact .inl h
 |0,z::a,y::b,c,x,h=>by simp at c
 |n+1,z::a,y::b,c,x,h=>by
   simp only[bG]at c;rw[cq]at h;split at h
   .obtain rfl|h:=bi.1 h
    .grind
    .rcases Fu n a (y::b) (by simp;omega) x h with h|h
     .grind
     .exact .inr h
   .split at h
    .obtain rfl|h:=bi.1 h
     .grind
     .rcases Fu n (z::a) b (by simp;omega) x h with h|h
      .exact .inl h
      .grind
    .obtain h|h:=Fu n a b (by omega) x h
     .grind
     .grind
def JC:∀(b:aa (aa T)) (a:aa T),∀x∈b.foldl cq a,x∈a\/∃l∈b,x∈l
 |[],a,x,h=>.inl h
 |l::b,a,x,h=>by
   obtain h|⟨m,c,h⟩:=JC b (cq a l) x h
   .obtain h|h:=Fu _ a l (al _) x h
    .exact .inl h
    .grind
   .grind
theorem qlZ{P:T->Prop}(g:Cl P)(t:T):P t->∀x∈eU t,P x:=by
 refine T.ind (P:=λ t=>P t->∀x∈eU t,P x) ?_ t;intro t c d x a;rw[zN]at a;split at a
 .cases a
 .split at a
  .rename_i e;obtain h|⟨l,f,h⟩:=JC _ _ x a
   .cases h
   .obtain⟨k,b,rfl⟩:=bu.1 f;exact c k b (g t (dx.1 e).1 d k b) x h
  .grind
def Td{P:T->Prop}(d:Cl P){l:aa T}(h:∀k∈l,P k):∀x∈dA l,P x:=by
 intro x b;obtain a|⟨m,c,a⟩:=JC _ _ x b
 .cases a
 .grind [qlZ]
def qmD{P:T->Prop}{l:aa Pw}{t:T}(n:Int)(a:P t)(c:∀p∈l,P p.1):∀p∈cE l t n,P p.1:=by
 intro p b;grind [F3]
theorem qnM{P:T->Prop}(f:Cl P)(t:T):P t->∀(l:aa Pw) (n:Int),(∀p∈l,P p.1)->∀p∈df t l n,P p.1:=by
 refine T.ind (P:=λ t=>P t->∀(l:aa Pw) (n:Int),(∀p∈l,P p.1)->∀p∈df t l n,P p.1) ?_ t;intro t d b l n a;rw[rV];split
 .next e=>have g:=(Gr.1 e).1;exact Xu t.kids (gd t n) (λ l=>∀p∈l,P p.1) (λ k c l a=>d k c (f t g b k c) l _ a) l a
 .exact qmD n b a
def sd{P:T->Prop}(c:Cl P){t:T}(a:P t):∀p∈(ofP t).1,P p.1:=by
 intro p b;grind [ofP,qnM]
def V3{P:T->Prop}{a b:aa Pw}(d:∀p∈a,P p.1)(c:∀p∈b,P p.1):∀p∈(pu a b).1,P p.1:=by
 grind [pu,K0]
theorem Uo{l:aa Pw}{x:T}(h:x∈cw l):∃p∈l,x=p.1:=by
 grind [cw]
theorem Vv{l:aa Pw}{x:T}(h:x∈cz l):∃p∈l,x=apT dZ [p.1]:=by
 grind [cz]
def jt:Cl λ t=>bL t=0:=λ t a h=>(rH a h).2
theorem Rl:∀(l:aa Int),(∀y∈l,y=0)->l.foldl thn 0=0
 |[],_=>rfl
 |z::l,h=>by
   rw[rm,h z (aW ..)];exact Rl l λ y a=>h y (aS _ a)
def se{t:T}(h:im t=0)(a:∀k∈t.kids,bL k=0):bL t=0:=by
 grind [Ai,Rl]
def uS{n:aa aA}{ks:aa T}(d:(bK n).2.2≠0)(c:(bK n).1<=(I ks:Int))(b:(I ks:Int)<=(bK n).2.1)(a:iH (apT n ks)=Y):im (apT n ks)=0:=by
 unfold im;show(if(3:Int)≠3 then(0:Int)else if(bK n).2.2=0 then 10 else if(I ks:Int)<(bK n).1\/(bK n).2.1<(I ks:Int)then 6 else if iH (apT n ks)then 10 else 0)=0;grind
def xu{n:aa aA}(c:n≠lD)(b:n≠nSk)(a:n≠vU)(ks:aa T):iH (apT n ks)=Y:=by
 unfold iH;rw[af (show ¬ (apT n ks).name=lD from c),af (show ¬ ((apT n ks).name=nSk\/(apT n ks).name=vU)from λ h=>h.elim b a)]
def nc:bL zT=0:=by rw[Ai];rfl
def ko{P:T->Prop}(b:Cl P)(d:P zT){t:T}(c:t.kind=3)(a:P t)(i:Nat):P (kid t i):=by
 by_cases h:i<I t.kids
 .exact b t c a _ (Wd h)
 .grind [kid]
def qj6{t:T}(b:t.kind=3)(h:aN t=0):I t.kids<=8:=by
 unfold aN at h;split at h
 .next a=>exact absurd h a
 .next a=>have c:=(JJ (t:=t)).1;grind [de,iY]
theorem SY{l:aa Pw}(f:∀p∈l,bL p.1=0)(h:(ja l).2=0):bL (ja l).1=0:=by
 by_cases c:gx l=0
 .rw[Kt c]at h |-
  unfold pE at h |-
  by_cases e:8<I (cw l++cz l)
  .rw[ag e]at h;cases h
  rw[af e]at h |-
  by_cases g:aN (fD (cw l++cz l))=0
  .rw[ifN]
   have a:∀x∈cw l++cz l,bL x=0:=λ x b=>by
    obtain b|b:=bc.1 b
    .grind [Uo]
    .obtain⟨p,c,rfl⟩:=Vv b;exact se (uS (by decide) (by show(1:Int)<=1;decide) (by show(1:Int)<=1;decide) (xu (by decide) (by decide) (by decide) _)) λ k d=>by rw[bW.1 d];exact f p c
   generalize cw l++cz l=o at *;unfold fD;split
   .exact se (uS (by decide) (by show(0:Int)<=0;decide) (by show(0:Int)<=0;decide) (xu (by decide) (by decide) (by decide) _)) λ k d=>by cases d
   .split
    .grind
    .next j i=>exact se (uS (by decide) (by show(2:Int)<=_;omega) (by show _<=(8:Int);omega) (xu (by decide) (by decide) (by decide) _)) a
  .grind
 .grind [ja]
def VK{b:T}{l:aa Pw}(d:bL b=0)(f:∀p∈l,bL p.1=0)(h:(my b l).2=0):bL (my b l).1=0:=by
 unfold my at h |-
 split at h
 .grind
 .rename_i e;rw[af e];split at h
  .next a=>exact absurd h a
  .rename_i a;rw[af a];refine se (uS (by decide) (by show(2:Int)<=2;decide) (by show(2:Int)<=2;decide) (xu (by decide) (by decide) (by decide) _)) λ k c=>?_;obtain rfl|c:=bi.1 c
   .exact d
   .grind [List.mem_singleton,SY]
theorem qlF{n:aa aA}{ks:aa T}(h:∀k∈ks,bL k=0)(A:im (apT n ks)=0)(a:(fe (apT n ks)).2=0):bL (fe (apT n ks)).1=0:=by
 have f:bL (apT n ks)=0:=se A h;unfold fe at a |-
 by_cases w:isD (apT n ks).name=O
 .rw[ag w];show bL (oF _)=0;unfold oF;split
  .rename_i c
   have m:(kid (apT n ks) 0).kind=3:=by
    unfold cZ at c;split at c
    .exact(dx.1 c).1
    .split at c
     .rw[aK]at c;exact(dx.1 c.1).1
     .split at c
      .rw[aK,aK]at c;exact(dx.1 c.1.1).1
      .split at c
       .rw[aK,aK]at c;exact(dx.1 c.1.1).1
       .grind [dx]
   exact ko jt nc m (ko jt nc rfl f 0) _
  .exact f
 rw[af w]at a |-
 by_cases s:(apT n ks).name=gB
 .rw[ag s]at a |-
  unfold qC at a |-
  split at a
  .next d=>exact absurd a d
  rename_i d;rw[af d];split at a
  .cases a
  rename_i g;rw[af g];show bL (fA (dA ks))=0
  have l:aN (fA (dA ks))=0:=by
   have:¬ aN (fA (dA (apT n ks).kids))≠0:=g;exact wn this
  have j:=Td jt h;generalize dA ks=o at *;unfold fA at l |-
  split
  .exact se (uS (by decide) (by show(0:Int)<=0;decide) (by show(0:Int)<=0;decide) (xu (by decide) (by decide) (by decide) _)) λ k z=>by cases z
  .rename_i C;split
   .grind
   .next B=>rw[af C,af B]at l;have x:I o<=8:=qj6 (t:=apT gB o) rfl l;exact se (uS (by decide) (by show(2:Int)<=_;omega) (by show _<=(8:Int);omega) (xu (by decide) (by decide) (by decide) _)) j
 rw[af s]at a |-
 by_cases u:(apT n ks).name=iN\/(apT n ks).name=dZ\/(apT n ks).name=kJ
 .rw[ag u]at a |-
  unfold sx at a |-
  split at a
  .next d=>exact absurd a d
  next d=>rw[af d];exact SY (sd jt f) a
 rw[af u]at a |-
 by_cases v:(apT n ks).name=jc
 .rw[ag v]at a |-
  have p:=ko jt nc (t:=apT n ks) rfl f 0;have r:=ko jt nc (t:=apT n ks) rfl f 1;generalize kid (apT n ks) 0=b at *;generalize kid (apT n ks) 1=y at *;unfold qQ at a |-
  split at a
  .next d=>exact absurd a d
  rename_i d;rw[af d];split at a
  .rename_i e;rw[ag e];split at a
   .next g=>exact absurd a g
   rename_i g;rw[af g];split at a
   .next q=>exact absurd a q
   next q=>rw[af q];have i:=(dx.1 e).1;exact VK (ko jt nc i p 0) (V3 (P:=λ t=>bL t=0) (sd jt (ko jt nc i p 1)) (sd jt r)) a
  .next e=>rw[af e];exact VK p (sd jt r) a
 .rw[af v];exact f
theorem xz:size zT=1:=by rw[bX];rfl
theorem mh(t:T)(i:Nat):size (kid t i)<=size t:=by
 have:=size_pos t;by_cases h:i<I t.kids
 .have:=du t _ (Wd h);omega
 .grind [kid,List.getElem?_eq_none,xz]
theorem Um(l:aa Pw):size (ja l).1<=400:=by
 unfold ja;have:=xz;split
 .show size zT<=_;omega
 .split
  .show size zT<=_;omega
  .split
   .show size zT<=_;omega
   .next h=>exact lY (wn h)
theorem qmo(b:T)(l:aa Pw):size (my b l).1<=401+size b:=by
 unfold my;have:=xz;have:=Um l;split
 .show size b<=_;omega
 .split
  .show size zT<=_;omega
  .rw[bX];show 1+(size b+(size (ja l).1+0))<=_;omega
def qnI(n:aa aA)(ks:aa T):size (fe (apT n ks)).1<=402+szL ks:=by
 have a:=xz;have b:size (apT n ks)=1+szL ks:=bX _;unfold fe;split
 .grind [oF,mh]
 .split
  .unfold qC;split
   .show size zT<=_;omega
   .split
    .show size zT<=_;omega
    .have e:=WY (dA (apT n ks).kids);have d:=uK (apT n ks).kids;have c:szL (apT n ks).kids=szL ks:=rfl;show size (fA _)<=_;omega
  .grind [sx,qQ,Um,mh,qmo]
def Mk(t:T):size (bV t).1<=402*size t:=by
 refine T.ind (P:=λ t=>size (bV t).1<=402*size t) ?_ t;intro t b;have f:=xz;have g:=size_pos t;rw[As];split
 .show size t<=_;omega
 .split
  .show size zT<=_;omega
  .have e:=qnI t.name ((t.kids.map bV).map (·.1))
   have d:szL ((t.kids.map bV).map (·.1))<=402*szL t.kids:=by
    have:∀l:aa T,(∀k∈l,k∈t.kids)->szL ((l.map bV).map (·.1))<=402*szL l:=by
     intro l
     induction l with
     |nil=>intro _;exact al _
     |cons k l a=>
       intro h;have e:=b k (h k (aW ..));have d:=a λ x c=>h x (aS _ c);rw[aZ,aZ,dz,dz];omega
    exact this t.kids λ _ h=>h
   have i:size t=1+szL t.kids:=bX t;omega
def Rx:∀(l:aa Int),l.foldl thn 0=0->∀y∈l,y=0
 |[],_,y,a=>by cases a
 |z::l,h,y,a=>by
   rw[rm]at h;by_cases b:z=0
   .subst b;obtain rfl|a:=bi.1 a
    .rfl
    .exact Rx l h y a
   .grind [fT]
theorem zH{t:T}(h:t.kind≠3):bV t=(t,0):=by rw[As,ag h]
theorem qlJ{t:T}(d:t.kind=3)(h:(bV t).2=0):(∀k∈t.kids,(bV k).2=0)/\bV t=fe (apT t.name ((t.kids.map bV).map (·.1))):=by
 rw[As,af (λ c=>c d)]at h |-
 split at h
 .next a=>exact absurd h a
 .next a=>rw[af a];refine⟨λ k b=>?_,rfl⟩;exact Rx _ (wn a) _ (bu.2 ⟨_,bu.2 ⟨k,b,rfl⟩,rfl⟩)
theorem qk8(l:aa T)(h:∀k∈l,k.kind≠3):(l.map bV).map (·.1)=l:=by
 induction l with
 |nil=>rfl
 |cons k l a=>
   grind [zH,List.mem_cons_self,List.mem_cons_of_mem]
theorem UR{t:T}(i:t.kind=3)(h:im t=0):im (apT t.name ((t.kids.map bV).map (·.1)))=0:=by
 let⟨l,j,g,a⟩:=LH i h;apply uS l (by simpa using j) (by simpa using g);unfold iH at a |-
 show(if t.name=lD then J ((kid (apT t.name ((t.kids.map bV).map (·.1))) 0).kind≠2)else if t.name=nSk\/t.name=vU then((t.kids.map bV).map (·.1)).any λ k=>J (k.kind=3)||J (k.sort≠1)else Y)=Y;split
 .rename_i c;rw[ag c]at a;have b:(kid t 0).kind=2:=by simpa using a
  cases d:t.kids with
  |nil=>
    unfold kid at b;rw[d]at b;exact absurd b (by decide)
  |cons x r=>
    have e:kid t 0=x:=by unfold kid;rw[d];rfl
    rw[e]at b;show J ((bV x).1.kind≠2)=Y;grind [zH]
 .rename_i c;rw[af c]at a;split
  .next f=>rw[ag f]at a;grind [qk8,List.any_eq_false]
  .rfl
theorem qlU(t:T):bL t=0->(bV t).2=0->bL (bV t).1=0:=by
 refine T.ind (P:=λ t=>bL t=0->(bV t).2=0->bL (bV t).1=0) ?_ t;grind [qlJ,rH,qlF,UR,zH]
def dG(t:T){b:Bool}(h:cZ t=b):oF t=if b then kid (kid t 0) (if t.name=A1 then 1 else 0)else t:=by unfold oF;rw[h]
def mi{t:T}(h:bL t=0){n:aa aA}(e:isN t n=O){a b c:Int}(d:bK n=(a,b,c)){i:Nat}(f:(i:Int)<a):av t.kids (i:Int)=Z (kid t i):=by
 have:=(F6 h e d).1;exact LX
def qiI(t:T)(L:t.kind=3)(K:bL t=0)(D:isD t.name=O)(N:size t<=1000000000:=by omega):Ev (λ m _=>yN m t) (oF t):=by
 have B:∀i,size (kid t i)<=size t:=mh t;have r:∀i j,size (kid (kid t i) j)<=1000000000:=λ i j=>by have:=mh (kid t i) j;have:=B i;omega
 have v:∀i j k,size (kid (kid (kid t i) j) k)<=1000000000:=λ i j k=>by have:=mh (kid (kid t i) j) k;have:=r i j;omega
 have f:∀i,bL (kid t i)=0:=λ i=>ko jt nc L K i;have x:∀i j,(kid t i).kind=3->bL (kid (kid t i) j)=0:=λ i j h=>ko jt nc h (f i) j;have A:isN t t.name=O:=dx.2 ⟨L,rfl⟩;have H:∀{u:T}{n:aa aA},bL u=0->isN u n=O->∀{b c:Int},bK n=(1,b,c)->av u.kids 0=Z (kid u 0):=λ h d _ _ e=>mi (i:=0) h d e (by decide);have q:∀{u:T}{n:aa aA},bL u=0->isN u n=O->∀{b c:Int},bK n=(2,b,c)->av u.kids 0=Z (kid u 0):=λ h d _ _ e=>mi (i:=0) h d e (by decide);have p:∀{u:T}{n:aa aA},bL u=0->isN u n=O->∀{b c:Int},bK n=(2,b,c)->av u.kids 1=Z (kid u 1):=λ h d _ _ e=>mi (i:=1) h d e (by decide);have E:bK vw=(2,2,1):=by decide
 have G:bK qD=(2,2,1):=by decide
 have z:bK pi=(2,2,1):=by decide
 have F:bK nPk=(1,1,1):=by decide
 have y:bK mo=(2,2,1):=by decide
 unfold isD at D;simp only[gR,tu]at D;apply aJ;simp only[qcI,IK,aH]
 have l:∀{a b c:Int},bK t.name=(a,b,c)->a=b->(I t.kids:Int)=a:=λ e M=>by
  have:=F6 K A e;omega
 obtain ((((d|d)|d)|d)|d)|d:=D
 .have w:=l (a:=1) (b:=1) (c:=3) (by rw[d];decide) rfl;refine aw (lz) (ak (bg.2 (by omega)) (aj (by rw[d];rfl) (ai (qy _ _) ?_)));have g:cZ t=isN (kid t 0) vw:=by unfold cZ;rw[ag (.inl d)]
  refine am (λ h=>?_) λ h=>?_
  .refine aw (q (f 0) h E) (ay ?_);rw[dG t (g.trans h),ag rfl,af (by rw[d];decide)]
  .apply ay;rw[dG t (g.trans h),af (by decide)]
 .have w:=l (a:=1) (b:=1) (c:=3) (by rw[d];decide) rfl;refine aw (lz) (ak (bg.2 (by omega)) (ak (by rw[d];rfl) (aj (by rw[d];rfl) (ai (qy _ _) ?_))));have g:cZ t=isN (kid t 0) vw:=by unfold cZ;rw[ag (.inr d)]
  refine am (λ h=>?_) λ h=>?_
  .refine aw (p (f 0) h E) (ay ?_);rw[dG t (g.trans h),ag rfl,ag d]
  .apply ay;rw[dG t (g.trans h),af (by decide)]
 .have w:=l (a:=2) (b:=2) (c:=3) (by rw[d];decide) rfl;refine aw (lz) (aj (bf.2 (by omega)) (aw (xS) (ak (by rw[d];rfl) (ak (by rw[d];rfl) (aj (by rw[d];rfl) (ai (qy _ _) ?_))))));have g:cZ t=(isN (kid t 0) qD&&bY (kid (kid t 0) 1) (kid t 1)):=by unfold cZ;rw[af (by rw[d];decide),ag d]
  refine am (λ h=>?_) λ h=>?_
  .refine aw (p (f 0) h G) (ai (FX _ _ (r 0 1) (by have:=B 1;omega)) (am (λ o=>?_) λ o=>?_))
   .refine aw (q (f 0) h G) (ay ?_);rw[dG t (b:=O) (by rw[g,show isN (kid t 0) qD=O from h,o];rfl),ag rfl,af (by rw[d];decide)]
   .apply ay;rw[dG t (b:=Y) (by rw[g,o,wk]),af (by decide)]
  .apply ay;rw[dG t (b:=Y) (by rw[g,show isN (kid t 0) qD=Y from h];rfl),af (by decide)]
 .have w:=l (a:=2) (b:=2) (c:=3) (by rw[d];decide) rfl;refine aw (lz) (aj (bf.2 (by omega)) (aw (xS) (ak (by rw[d];rfl) (ak (by rw[d];rfl) (ak (by rw[d];rfl) (aj (by rw[d];rfl) (ai (qy _ _) ?_)))))));have g:cZ t=(isN (kid t 0) pi&&isN (kid (kid t 0) 1) nPk&&bY (kid (kid (kid t 0) 1) 0) (kid t 1)):=by unfold cZ;rw[af (by rw[d];decide),af (by rw[d];decide),ag d]
  refine am (λ h=>?_) λ h=>?_
  .have C:=(dx.1 h).1;refine aw (p (f 0) h z) (ai (qy _ _) (am (λ o=>?_) λ o=>?_))
   .refine aw (p (f 0) h z) (aw (H (x 0 1 C) o F) (ai (FX _ _ (v 0 1 0) (by have:=B 1;omega)) (am (λ s=>?_) λ s=>?_)))
    .refine aw (q (f 0) h z) (ay ?_);rw[dG t (b:=O) (by rw[g,show isN (kid t 0) pi=O from h,show isN (kid (kid t 0) 1) nPk=O from o,s];rfl),ag rfl,af (by rw[d];decide)]
    .apply ay;rw[dG t (b:=Y) (by rw[g,s,wk]),af (by decide)]
   .apply ay;rw[dG t (b:=Y) (by rw[g,show isN (kid (kid t 0) 1) nPk=Y from o,wk,jz]),af (by decide)]
  .apply ay;rw[dG t (b:=Y) (by rw[g,show isN (kid t 0) pi=Y from h];rfl),af (by decide)]
 .have w:=l (a:=2) (b:=2) (c:=3) (by rw[d];decide) rfl;refine aw (lz) (aj (bf.2 (by omega)) (aw (xS) (ak (by rw[d];rfl) (ak (by rw[d];rfl) (ak (by rw[d];rfl) (ak (by rw[d];rfl) (aj (by rw[d];rfl) (ai (qy _ _) ?_))))))));have g:cZ t=(isN (kid t 0) mo&&isN (kid t 1) nPk&&bY (kid (kid t 0) 1) (kid (kid t 1) 0)):=by unfold cZ;rw[af (by rw[d];decide),af (by rw[d];decide),af (by rw[d];decide),ag d]
  refine am (λ h=>?_) λ h=>?_
  .refine ai (qy _ _) (am (λ o=>?_) λ o=>?_)
   .refine aw (p (f 0) h y) (aw (H (f 1) o F) (ai (FX _ _ (r 0 1) (r 1 0)) (am (λ s=>?_) λ s=>?_)))
    .refine aw (q (f 0) h y) (ay ?_);rw[dG t (b:=O) (by rw[g,show isN (kid t 0) mo=O from h,show isN (kid t 1) nPk=O from o,s];rfl),ag rfl,af (by rw[d];decide)]
    .apply ay;rw[dG t (b:=Y) (by rw[g,s,wk]),af (by decide)]
   .apply ay;rw[dG t (b:=Y) (by rw[g,show isN (kid t 1) nPk=Y from o,wk,jz]),af (by decide)]
  .apply ay;rw[dG t (b:=Y) (by rw[g,show isN (kid t 0) mo=Y from h];rfl),af (by decide)]
 .have w:=l (a:=1) (b:=1) (c:=3) (by rw[d];decide) rfl;refine aw (lz) (ak (bg.2 (by omega)) (ak (by rw[d];rfl) (ak (by rw[d];rfl) (ak (by rw[d];rfl) (ak (by rw[d];rfl) (ak (by rw[d];rfl) (aj (by rw[d];rfl) (ai (qy _ _) ?_))))))));have g:cZ t=isN (kid t 0) mo:=by unfold cZ;rw[af (by rw[d];decide),af (by rw[d];decide),af (by rw[d];decide),af (by rw[d];decide),ag d]
  refine am (λ h=>?_) λ h=>?_
  .refine aw (q (f 0) h y) (ay ?_);rw[dG t (g.trans h),ag rfl,af (by rw[d];decide)]
  .apply ay;rw[dG t (g.trans h),af (by decide)]
def jO:T->Prop:=T.para λ t a=>(t.kind=3->t.sort=0)/\∀p∈a,p
theorem Am(t:T):jO t↔(t.kind=3->t.sort=0)/\∀k∈t.kids,jO k:=by
 have h:jO t=((t.kind=3->t.sort=0)/\∀p∈t.kids.map jO,p):=T.para_eq _ _;rw[h];refine and_congr_right λ _=>⟨λ h k a=>h _ (eF a),λ h p b=>?_⟩
 grind
def AI:Cl jO:=λ t _ h=>((Am t).1 h).2
def Mn:jO zT:=(Am zT).2 ⟨λ h=>absurd h (by decide),λ _ h=>by cases h⟩
def V9(n:aa aA)(ks:aa T)(h:∀k∈ks,jO k):jO (apT n ks):=(Am _).2 ⟨λ _=>rfl,h⟩
theorem qiG{t:T}(a:t.kind=3)(h:de t=0):t.sort=0:=by
 grind [de,iY]
def qje(t:T):cn t=0->jO t:=by
 refine T.ind (P:=λ t=>cn t=0->jO t) ?_ t;grind [JJ,Am,qiG]
def qhA{t:T}(h:aN t=0):cn t=0:=by
 grind [aN]
def qm1{P:T->Prop}(j:Cl P)(d:P zT)(v:∀n ks,(∀k∈ks,P k)->P (apT n ks)){n:aa aA}{ks:aa T}(m:∀k∈ks,P k):P (fe (apT n ks)).1:=by
 have g:=v n ks m;have a:∀{t:T} (i:Nat),P t->t.kind=3->P (kid t i):=λ i h z=>ko j d z h i
 have f:∀l:aa Pw,(∀p∈l,P p.1)->P (ja l).1:=by
  intro l B;unfold ja;split
  .exact d
  .split
   .exact d
   .split
    .exact d
    .have q:∀x∈cw l++cz l,P x:=λ x A=>by
       grind [Uo,Vv,List.mem_singleton]
     grind [fD]
 have e:∀(b:T) (l:aa Pw),P b->(∀p∈l,P p.1)->P (my b l).1:=by
  grind [my]
 unfold fe;split
 .show P (oF _);unfold oF;split
  .rename_i c
   have r:(kid (apT n ks) 0).kind=3:=by
    unfold cZ at c;split at c
    .exact(dx.1 c).1
    .split at c
     .rw[aK]at c;exact(dx.1 c.1).1
     .split at c
      .rw[aK,aK]at c;exact(dx.1 c.1.1).1
      .split at c
       .rw[aK,aK]at c;exact(dx.1 c.1.1).1
       .grind [dx]
   exact a _ (a 0 g rfl) r
  .exact g
 .split
  .unfold qC;split
   .exact d
   .split
    .exact d
    .have q:=Td j m;show P (fA (dA ks));grind [fA]
  .split
   .unfold sx;split
    .exact d
    .exact f _ (sd j g)
   .split
    .have u:=a (t:=apT n ks) 0 g rfl;have w:=a (t:=apT n ks) 1 g rfl;generalize kid (apT n ks) 0=b at *;generalize kid (apT n ks) 1=y at *;unfold qQ;split
     .exact d
     .split
      .rename_i s;have o:=(dx.1 s).1;split
       .exact d
       .split
        .exact d
        .exact e _ _ (a 0 u o) (V3 (sd j (a 1 u o)) (sd j w))
      .exact e _ _ u (sd j w)
    .exact g
def qni{P:T->Prop}(d:Cl P)(b:P zT)(a:∀n ks,(∀k∈ks,P k)->P (apT n ks))(t:T):P t->P (bV t).1:=by
 refine T.ind (P:=λ t=>P t->P (bV t).1) ?_ t;intro t e h;rw[As];split
 .exact h
 .rename_i i;split
  .exact b
  .refine qm1 d b a λ k g=>?_;obtain⟨q,f,rfl⟩:=bu.1 g;obtain⟨j,c,rfl⟩:=bu.1 f;exact e j c (d t (wn i) h j c)
def Xm{u x:T}(m:bL u=0)(l:jO u):bY u (apT nPk [x])=(isN u nPk&&bY (kid u 0) x):=by
 rw[wj,aK,iy,iy];constructor
 .rintro rfl;exact⟨dx.2 ⟨rfl,rfl⟩,rfl⟩
 .rintro⟨h,j⟩;let⟨f,g⟩:=dx.1 h;have e:=F6 m h (a:=1) (b:=1) (c:=1) (by decide);have d:=((Am u).1 l).1 f;cases u with
  |mk k n so ks=>
    have f:k=3:=f;have g:n=nPk:=g;have d:so=0:=d
    have i:I ks=1:=by
     have h:(1:Int)<=(I ks:Int):=e.1;have j:(I ks:Int)<=1:=e.2.1;omega
    cases ks with
    |nil=>cases i
    |cons y r=>
      cases r with
      |nil=>
        have:y=x:=j;subst f;subst g;subst d;subst this;rfl
      |cons z r=>simp at i
def So(a b:T):bY a b=bY b a:=by
 rw[wj,iy,iy];exact eq_comm
def qhw(t:T)(G:t.kind=3)(M:bL t=0)(E:jO t)(F:isD t.name=O)(P:size t<=900000000:=by omega):Ev (λ m _=>Ds m t) (oF t,cZ t):=by
 have B:∀i,size (kid t i)<=size t:=mh t;have s:∀i j,size (kid (kid t i) j)<=900000000:=λ i j=>by have:=mh (kid t i) j;have:=B i;omega
 have k:∀i,bL (kid t i)=0:=λ i=>ko jt nc G M i;have A:∀i j,(kid t i).kind=3->bL (kid (kid t i) j)=0:=λ i j h=>ko jt nc h (k i) j;have w:∀i,jO (kid t i):=λ i=>ko AI Mn G E i;have v:∀i j,(kid t i).kind=3->jO (kid (kid t i) j):=λ i j h=>ko AI Mn h (w i) j;have D:isN t t.name=O:=dx.2 ⟨G,rfl⟩;have p:∀{u:T}{n:aa aA},bL u=0->isN u n=O->∀{b c:Int},bK n=(2,b,c)->av u.kids 0=Z (kid u 0):=λ h d _ _ e=>mi (i:=0) h d e (by decide);have r:∀{u:T}{n:aa aA},bL u=0->isN u n=O->∀{b c:Int},bK n=(2,b,c)->av u.kids 1=Z (kid u 1):=λ h d _ _ e=>mi (i:=1) h d e (by decide);have H:bK vw=(2,2,1):=by decide
 have K:bK qD=(2,2,1):=by decide
 have L:bK pi=(2,2,1):=by decide
 have C:bK mo=(2,2,1):=by decide
 unfold isD at F;simp only[gR,tu]at F;apply aJ;simp only[qdp,IM,aH]
 have o:∀{a b c:Int},bK t.name=(a,b,c)->a=b->(I t.kids:Int)=a:=λ e N=>by
  have:=F6 M D e;omega
 have l:∀x:T,size (apT nPk [x])=1+size x:=λ x=>by rw[bX];show 1+(size x+0)=_;omega
 obtain ((((d|d)|d)|d)|d)|d:=F
 .have y:=o (a:=1) (b:=1) (c:=3) (by rw[d];decide) rfl;refine aw (lz) (aj (by rw[d];rfl) (ai (vd _ _) ?_));have f:cZ t=isN (kid t 0) vw:=by unfold cZ;rw[ag (.inl d)]
  refine am (λ h=>?_) λ h=>?_
  .refine aw (p (k 0) h H) (ay ?_);rw[dG t (f.trans h),ag rfl,af (by rw[d];decide),f.trans h]
  .repeat (refine ak (by rw[d];rfl) ?_)
   apply ay;rw[dG t (f.trans h),af (by decide),f.trans h]
 .have y:=o (a:=1) (b:=1) (c:=3) (by rw[d];decide) rfl;refine aw (lz) (ak (by rw[d];rfl) (aj (by rw[d];rfl) (ai (vd _ _) ?_)));have f:cZ t=isN (kid t 0) vw:=by unfold cZ;rw[ag (.inr d)]
  refine am (λ h=>?_) λ h=>?_
  .refine aw (r (k 0) h H) (ay ?_);rw[dG t (f.trans h),ag rfl,ag d,f.trans h]
  .repeat (refine ak (by rw[d];rfl) ?_)
   apply ay;rw[dG t (f.trans h),af (by decide),f.trans h]
 .have y:=o (a:=2) (b:=2) (c:=3) (by rw[d];decide) rfl;refine aw (lz) (ak (by rw[d];rfl) (ak (by rw[d];rfl) (aj (by rw[d];rfl) (ai (vd _ _) ?_))));have f:cZ t=(isN (kid t 0) qD&&bY (kid (kid t 0) 1) (kid t 1)):=by unfold cZ;rw[af (by rw[d];decide),ag d]
  refine am (λ h=>?_) λ h=>?_
  .refine aw (r (k 0) h K) (aw (xS) (ai (xl _ _ (by have:=s 0 1;omega) (by have:=B 1;omega)) (am (λ q=>?_) λ q=>?_)))
   .have g:cZ t=O:=by rw[f,show isN (kid t 0) qD=O from h,q];rfl
    refine aw (p (k 0) h K) (ay ?_);rw[dG t g,ag rfl,af (by rw[d];decide),g]
   .have g:cZ t=Y:=by rw[f,q,wk]
    repeat (refine ak (by rw[d];rfl) ?_)
    apply ay;rw[dG t g,af (by decide),g]
  .have g:cZ t=Y:=by rw[f,show isN (kid t 0) qD=Y from h];rfl
   repeat (refine ak (by rw[d];rfl) ?_)
   apply ay;rw[dG t g,af (by decide),g]
 .have y:=o (a:=2) (b:=2) (c:=3) (by rw[d];decide) rfl;refine aw (lz) (ak (by rw[d];rfl) (ak (by rw[d];rfl) (ak (by rw[d];rfl) (aj (by rw[d];rfl) (ai (vd _ _) ?_)))));have f:cZ t=(isN (kid t 0) pi&&isN (kid (kid t 0) 1) nPk&&bY (kid (kid (kid t 0) 1) 0) (kid t 1)):=by unfold cZ;rw[af (by rw[d];decide),af (by rw[d];decide),ag d]
  refine am (λ h=>?_) λ h=>?_
  .have z:=(dx.1 h).1;refine aw (r (k 0) h L) (aw (xS) (ai (qk nPk [kid t 1] (by simp)) (ai (xl _ _ (by have:=s 0 1;omega) (by rw[l];have:=B 1;omega)) ?_)));rw[Xm (A 0 1 z) (v 0 1 z)];refine am (λ q=>?_) λ q=>?_
   .have g:cZ t=O:=by rw[f,show isN (kid t 0) pi=O from h,ei,q]
    refine aw (p (k 0) h L) (ay ?_);rw[dG t g,ag rfl,af (by rw[d];decide),g]
   .have g:cZ t=Y:=by rw[f,show isN (kid t 0) pi=O from h,ei,q]
    repeat (refine ak (by rw[d];rfl) ?_)
    apply ay;rw[dG t g,af (by decide),g]
  .have g:cZ t=Y:=by rw[f,show isN (kid t 0) pi=Y from h];rfl
   repeat (refine ak (by rw[d];rfl) ?_)
   apply ay;rw[dG t g,af (by decide),g]
 .have y:=o (a:=2) (b:=2) (c:=3) (by rw[d];decide) rfl;refine aw (lz) (ak (by rw[d];rfl) (ak (by rw[d];rfl) (ak (by rw[d];rfl) (ak (by rw[d];rfl) (aj (by rw[d];rfl) (ai (vd _ _) ?_))))));have f:cZ t=(isN (kid t 0) mo&&isN (kid t 1) nPk&&bY (kid (kid t 0) 1) (kid (kid t 1) 0)):=by unfold cZ;rw[af (by rw[d];decide),af (by rw[d];decide),af (by rw[d];decide),ag d]
  refine am (λ h=>?_) λ h=>?_
  .refine aw (xS) (aw (r (k 0) h C) (ai (qk nPk [kid (kid t 0) 1] (by simp)) (ai (xl _ _ (by have:=B 1;omega) (by rw[l];have:=s 0 1;omega)) ?_)));rw[Xm (k 1) (w 1),So (kid (kid t 1) 0)];refine am (λ q=>?_) λ q=>?_
   .have g:cZ t=O:=by rw[f,show isN (kid t 0) mo=O from h,ei,q]
    refine aw (p (k 0) h C) (ay ?_);rw[dG t g,ag rfl,af (by rw[d];decide),g]
   .have g:cZ t=Y:=by rw[f,show isN (kid t 0) mo=O from h,ei,q]
    repeat (refine ak (by rw[d];rfl) ?_)
    apply ay;rw[dG t g,af (by decide),g]
  .have g:cZ t=Y:=by rw[f,show isN (kid t 0) mo=Y from h];rfl
   repeat (refine ak (by rw[d];rfl) ?_)
   apply ay;rw[dG t g,af (by decide),g]
 .have y:=o (a:=1) (b:=1) (c:=3) (by rw[d];decide) rfl;refine aw (lz) (ak (by rw[d];rfl) (ak (by rw[d];rfl) (ak (by rw[d];rfl) (ak (by rw[d];rfl) (ak (by rw[d];rfl) (aj (by rw[d];rfl) (ai (vd _ _) ?_)))))));have f:cZ t=isN (kid t 0) mo:=by unfold cZ;rw[af (by rw[d];decide),af (by rw[d];decide),af (by rw[d];decide),af (by rw[d];decide),ag d]
  refine am (λ h=>?_) λ h=>?_
  .refine aw (p (k 0) h C) (ay ?_);rw[dG t (f.trans h),ag rfl,af (by rw[d];decide),f.trans h]
  .repeat (refine ak (by rw[d];rfl) ?_)
   apply ay;rw[dG t (f.trans h),af (by decide),f.trans h]
theorem rZ(t:T):szP (ofP t).1<=400:=by
 unfold ofP;split
 .exact aL _
 .rename_i h;split
  .exact aL _
  .split
   .exact aL _
   .have c:=Ws t [] 1;have b:=lY (wn h);have a:szP ([]:aa Pw)=0:=rfl;grind
def Xe(a b:aa Pw):szP (pu a b).1<=160000:=by
 unfold pu;split
 .exact aL _
 .rename_i d;split
  .exact aL _
  .rename_i c;split
   .exact aL _
   .split
    .exact aL _
    .let⟨_,_,h,_⟩:=zm (wn d) (wn c) (I b);grind
def qlk(b e:T)(k:bL b=0)(n:size b<=1000000000:=by omega)(g:size e<=1000000000:=by omega):Ev (λ m _=>DY m b e) (qQ b e):=by
 apply aJ;simp only[qff,I2,aH]
 have j:∀(l:aa Pw) (x:T),szP l<=1000000000->Ev (λ m _=>cond (ieq (I l:Int) 0) (Z (x,(0:Int))) (ae (rz m l) λ v=>cond (au (ieq v.2 0)) (Z (T.mk 0 [] 0 [],v.2)) (ae (zf m [101,120,112] [x,v.1]) λ w=>Z (w,0)))) (my x l):=by
  intro l x o;unfold my;refine am (λ h=>?_) λ h=>?_
  .rw[aI]at h;rw[ifP];exact ap _
  .rw[aG]at h;rw[ifN];refine ai (VT l o) (am (λ h=>?_) λ h=>?_)
   .rw[bnt,aG]at h;rw[ag h];exact ap _
   .rw[bnf,aI]at h;rw[ifN];exact ai (qn4 _ _) (ap _)
 unfold qQ;refine ai (MK e g) (am (λ h=>?_) λ h=>?_)
 .rw[bnt,aG]at h;rw[ag h];exact ap _
 rw[bnf,aI]at h;rw[ifN];refine ai (qy _ _) (am (λ f=>?_) λ f=>?_)
 .rw[ag (show isN b jc=O from f)];have s:=mh b 1;refine aw (mi (i:=1) k f (a:=2) (b:=2) (c:=1) (by decide) (by decide)) (ai (MK _) (am (λ d=>?_) λ d=>?_))
  .rw[bnt,aG]at d;rw[ag d];exact ap _
  rw[bnf,aI]at d;rw[ifN];have r:=rZ (kid b 1);have q:=rZ e;have p:=Xe (ofP (kid b 1)).1 (ofP e).1;refine ai (qnK _ _) (am (λ d=>?_) λ d=>?_)
  .rw[bnt,aG]at d;rw[ag d];exact ap _
  rw[bnf,aI]at d;rw[ifN];exact aw (mi (i:=0) k f (a:=2) (b:=2) (c:=1) (by decide) (by decide)) (j _ _ (by omega))
 .rw[af (by rw[show isN b jc=Y from f];decide)];grind [rZ]
def qln(b e:T)(k:bL b=0)(n:size b<=1000000000:=by omega)(g:size e<=1000000000:=by omega):Ev (λ m _=>Em m b e) (qQ b e):=by
 apply aJ;simp only[qfV,Ji,aH]
 have j:∀(l:aa Pw) (x:T),szP l<=1000000000->Ev (λ m _=>cond (ieq (I l:Int) 0) (Z (x,(0:Int))) (ae (uC m l) λ v=>cond (au (ieq v.2 0)) (Z (T.mk 0 [] 0 [],v.2)) (ae (iz m [101,120,112] [x,v.1]) λ w=>Z (w,0)))) (my x l):=by
  intro l x o;unfold my;refine am (λ h=>?_) λ h=>?_
  .rw[aI]at h;rw[ifP];exact ap _
  .rw[aG]at h;rw[ifN];refine ai (Up l o) (am (λ h=>?_) λ h=>?_)
   .rw[bnt,aG]at h;rw[ag h];exact ap _
   .rw[bnf,aI]at h;rw[ifN];exact ai (qk _ _ (by simp)) (ap _)
 unfold qQ;refine ai (MM e g) (am (λ h=>?_) λ h=>?_)
 .rw[bnt,aG]at h;rw[ag h];exact ap _
 rw[bnf,aI]at h;rw[ifN];refine ai (vd _ _) (am (λ f=>?_) λ f=>?_)
 .rw[ag (show isN b jc=O from f)];have s:=mh b 1;refine aw (mi (i:=1) k f (a:=2) (b:=2) (c:=1) (by decide) (by decide)) (ai (MM _) (am (λ d=>?_) λ d=>?_))
  .rw[bnt,aG]at d;rw[ag d];exact ap _
  rw[bnf,aI]at d;rw[ifN];have r:=rZ (kid b 1);have q:=rZ e;have p:=Xe (ofP (kid b 1)).1 (ofP e).1;refine ai (qmY _ _) (am (λ d=>?_) λ d=>?_)
  .rw[bnt,aG]at d;rw[ag d];exact ap _
  rw[bnf,aI]at d;rw[ifN];exact aw (mi (i:=0) k f (a:=2) (b:=2) (c:=1) (by decide) (by decide)) (j _ _ (by omega))
 .rw[af (by rw[show isN b jc=Y from f];decide)];grind [rZ]
def Vi{t:T}(h:isD t.name=O):fe t=(oF t,0):=by unfold fe;rw[ag h]
def U0{t:T}(h:t.name=gB):fe t=qC t.kids:=by unfold fe;rw[af (by rw[h];decide),ag h]
def Vd{t:T}(h:t.name=iN\/t.name=dZ\/t.name=kJ):fe t=sx t:=by
 unfold fe;rw[af (by obtain h|h|h:=h<;>rw[h]<;>decide),af (by obtain h|h|h:=h<;>rw[h]<;>decide),ag h]
def Uc{t:T}(h:t.name=jc):fe t=qQ (kid t 0) (kid t 1):=by
 unfold fe;rw[af (by rw[h];decide),af (by rw[h];decide),af (by rw[h];decide),ag h]
def To{t:T}(d:isD t.name=Y)(c:t.name≠gB)(b:¬ (t.name=iN\/t.name=dZ\/t.name=kJ))(a:t.name≠jc):fe t=(t,0):=by
 grind [fe]
def X6(n:aa aA):(bK n).2.2=3↔isD n=O:=by
 constructor
 .intro h;obtain b|⟨r,c,a,b⟩:=RY n
  .rw[Sn b]at h;cases h
  .rw[J0 b]at h;have:dj.all (λ r => !J (r.2.2.2=3)||isD r.1)=O:=by decide
   grind
 .intro h;unfold isD at h;simp only[gR,tu]at h;obtain ((((a|a)|a)|a)|a)|a:=h<;>rw[a]<;>decide
def nks(l:aa T):aa T:=(l.map bV).map (·.1)
def Gx(l:aa T):I (nks l)=I l:=by unfold nks;simp
def Xy(l:aa T):szL (nks l)<=402*szL l:=by
 induction l with
 |nil=>exact al _
 |cons k l a=>
   have:=Mk k;show szL ((bV k).1::nks l)<=_;rw[dz,dz];omega
def Uj{l:aa T}{i:Nat}{x:T}(h:l[i]?=Z x):nks (l.take (i+1))=nks (l.take i)++[(bV x).1]:=by
 unfold nks;rw[gn h,ft,ft];rfl
def erN(l:aa T):Int:=((l.map bV).map (·.2)).foldl thn 0
def Ud{l:aa T}{i:Nat}{x:T}(h:l.drop i=x::l.drop (i+1)):erN (l.drop i)=if(bV x).2≠0 then(bV x).2 else erN (l.drop (i+1)):=by
 unfold erN;rw[h,aZ,aZ];by_cases a:(bV x).2=0
 .rw[ifN,a];rfl
 .rw[ag a];exact fT _ a
def Xh{t:T}(a:t.kind=3):bV t=if erN t.kids≠0 then(zT,erN t.kids)else fe (apT t.name (nks t.kids)):=by rw[As,af (λ h=>h a)];rfl
def WX{t:T}(b:t.kind=3)(c:bL t=0)(f:∀k∈t.kids,(bV k).2=0):bL (apT t.name (nks t.kids))=0/\∀k∈nks t.kids,bL k=0:=by
 let⟨d,g⟩:=rH b c
 have a:∀k∈nks t.kids,bL k=0:=λ k a=>by
  obtain⟨q,e,rfl⟩:=bu.1 a;grind [qlU]
 exact⟨se (UR b d) a,a⟩
def qjb(t:T):size t<=2000->bL t=0->Ev (λ m _=>lP m t) (bV t):=by
 induction t using T.ind with
 |h t F=>
   intro hs E;have hl:=dK t;have hz:=bX t;apply aJ;simp only[qdo,Cm,aH];by_cases n:t.kind=3
   rotate_left
   .refine aj (bnt.2 (aG.2 n)) (ay (zH n).symm)
   apply ak (bnf.2 (aI.2 n));rw[Xh n];have y:=(rH n E).2
   have s:=bA (P:=λ i=>(∀k∈t.kids.take i,(bV k).2=0)->Ev (λ m k=>tO m (lP m) k t.kids (I t.kids) i t.kind t.name t.sort t.kids 0 [] 0 3 t.name 0 [] (nks (t.kids.take i))) (if erN (t.kids.drop i)≠0 then(zT,erN (t.kids.drop i))else fe (apT t.name (nks t.kids)))) t.kids (by omega)
    (λ g q=>by
     apply aF;simp only[Qa,Ck,aH];apply ak g;rw[cV]at q |-
     rw[ej,af (show ¬ erN []≠0 from λ h=>h rfl)];let⟨r,c2⟩:=WX n E q;have s1:=Xy t.kids;have s2:szL t.kids+1=size t:=by unfold szL;omega
     have H:=Gx t.kids;generalize nks t.kids=ks at *;have G:T.mk 3 t.name 0 ks=apT t.name ks:=rfl;rw[G];have su:size (apT t.name ks)=1+szL ks:=bX _
     have e:isD t.name=O->Ev (λ m _=>ae (yN m (apT t.name ks)) λ v=>Z (v,(0:Int))) (fe (apT t.name ks)):=λ l=>by
      rw[Vi (show isD (apT t.name ks).name=O from l)];exact ai (qiI _ rfl r l) (ap _)
     have f:t.name=iN\/t.name=dZ\/t.name=kJ->Ev (λ m _=>ae (uy m (apT t.name ks)) λ v=>cond (au (ieq v.2 0)) (Z (T.mk 0 [] 0 [],v.2)) (ae (rz m v.1) λ w=>Z (w.1,w.2))) (fe (apT t.name ks)):=λ p=>by
      rw[Vd (show(apT t.name ks).name=iN\/(apT t.name ks).name=dZ\/(apT t.name ks).name=kJ from p)];unfold sx;have A:=rZ (apT t.name ks);refine ai (MK _) (am (λ h=>?_) λ h=>?_)
      .rw[bnt,aG]at h;rw[ag h];exact ap _
      .rw[bnf,aI]at h;rw[ifN];exact ai (VT _) (ap _)
     refine am (λ h=>e (by rw[cF.1 h];decide)) λ h1=>?_;refine am (λ h=>e (by rw[cF.1 h];decide)) λ h2=>?_;refine am (λ h=>e (by rw[cF.1 h];decide)) λ B=>?_;refine am (λ h=>e (by rw[cF.1 h];decide)) λ A=>?_;refine am (λ h=>e (by rw[cF.1 h];decide)) λ h5=>?_;refine am (λ h=>e (by rw[cF.1 h];decide)) λ X=>?_;refine am (λ h=>?_) λ W=>?_
     .rw[U0 (show(apT t.name ks).name=gB from cF.1 h)];exact ai (qmr ks) (ap _)
     refine am (λ h=>f (.inl (cF.1 h))) λ S=>?_;refine am (λ h=>f (.inr (.inl (cF.1 h)))) λ R=>?_;refine am (λ h=>f (.inr (.inr (cF.1 h)))) λ D=>?_;refine am (λ h=>?_) λ C=>?_
     .have d:t.name=jc:=cF.1 h;rw[Uc (show(apT t.name ks).name=jc from d)];have o:isN (apT t.name ks) jc=O:=dx.2 ⟨rfl,d⟩;have q0:=mh (apT t.name ks) 0;have q1:=mh (apT t.name ks) 1;refine aw (mi (t:=apT t.name ks) (i:=0) r o (a:=2) (b:=2) (c:=1) (by decide) (by decide)) (aw (mi (t:=apT t.name ks) (i:=1) r o (a:=2) (b:=2) (c:=1) (by decide) (by decide)) ?_);exact ai (qlk _ _ (ko jt nc rfl r 0)) (ap _)
     .rw[To (t:=apT t.name ks) (show isD t.name=Y from by
         rw[<-nQ];intro l;unfold isD at l;simp only[gR,tu]at l;obtain ((((d|d)|d)|d)|d)|d:=l
         .exact cW.1 h1 d
         .exact cW.1 h2 d
         .exact cW.1 B d
         .exact cW.1 A d
         .exact cW.1 h5 d
         .exact cW.1 X d) (cW.1 W) (λ h=>by obtain h|h|h:=h;exact cW.1 S h;exact cW.1 R h;exact cW.1 D h) (cW.1 C)]
      exact ap _)
    (λ i x u l g Q N z q=>by
     apply aF;simp only[Qa,Ck,aH];have p:=aP u;have K:=du t x p;rw[Ud l];refine aj g (aw Q (ai (F x p (by omega) (y x p)) (am (λ h=>?_) λ h=>?_)))
     .rw[bnt,aG]at h;rw[ag (show(if(bV x).2≠0 then(bV x).2 else erN (t.kids.drop (i+1)))≠0 from by rw[ag h];exact h),ag h];exact ap _
     .rw[bnf,aI]at h;rw[af (show ¬ (bV x).2≠0 from by omega)];have A:I (nks (t.kids.take i))<=I t.kids:=by rw[Gx,bD];omega
      apply aj (cx)
      have z:=z λ k j=>by
       rw[gn u]at j;obtain j|j:=bc.1 j
       .exact q k j
       .rw[bW.1 j];exact h
      rw[N];refine z.congr λ m k=>?_;rw[Uj u])
   have M:=n;apply bj (L:=λ m k=>tO m (lP m) k t.kids (I t.kids) 0 t.kind t.name t.sort t.kids 0 [] 0 3 t.name 0 [] []);exact(s 0 (aL _)) (λ k j=>by rw[qW]at j;cases j)
def qid(t:T):size t<=2000->bL t=0->jO t->Ev (λ m _=>lQ m t) (bV t):=by
 induction t using T.ind with
 |h t G=>
   intro hs E o;have hl:=dK t;have hz:=bX t;apply aJ;simp only[qd7,CE,aH];by_cases g:t.kind=3
   rotate_left
   .refine aj (bnt.2 (aG.2 g)) (ay (zH g).symm)
   apply ak (bnf.2 (aI.2 g));rw[Xh g];have y:=(rH g E).2
   have u:=bA (P:=λ i=>(∀k∈t.kids.take i,(bV k).2=0)->Ev (λ m k=>tZ m (lQ m) k i t.kind t.name t.sort t.kids 0 [] 0 [] (nks (t.kids.take i))) (if erN (t.kids.drop i)≠0 then(zT,erN (t.kids.drop i))else fe (apT t.name (nks t.kids)))) t.kids (by omega)
    (λ e p=>by
     apply aF;simp only[Qk,CM,aH];apply ak e;rw[cV]at p |-
     rw[ej,af (show ¬ erN []≠0 from λ h=>h rfl)];let⟨s,c2⟩:=WX g E p
     have F:jO (apT t.name (nks t.kids)):=V9 _ _ λ k f=>by
      obtain⟨q,H,rfl⟩:=bu.1 f;obtain⟨j,N,rfl⟩:=bu.1 H;exact qni AI Mn V9 j (AI t g o j N)
     have s1:=Xy t.kids;have s2:szL t.kids+1=size t:=by unfold szL;omega
     have K:=Gx t.kids;generalize nks t.kids=ks at *;have su:size (apT t.name ks)=1+szL ks:=bX _
     have d:t.name=iN\/t.name=dZ\/t.name=kJ->Ev (λ m _=>ae (yP m (apT t.name ks)) λ w=>Z (w.1,w.2)) (fe (apT t.name ks)):=λ l=>by
      rw[Vd (show(apT t.name ks).name=iN\/(apT t.name ks).name=dZ\/(apT t.name ks).name=kJ from l)];have h4:=rZ (apT t.name ks)
      have:Ev (λ m _=>yP m (apT t.name ks)) (sx (apT t.name ks)):=by
       apply aJ;simp only[qdq,IQ,aH];unfold sx;refine ai (MM _) (am (λ h=>?_) λ h=>?_)
       .rw[bnt,aG]at h;rw[ag h];exact ap _
       .rw[bnf,aI]at h;rw[ifN];exact ai (Up _) (ap _)
      exact ai this (ap _)
     have D:=gX ks;refine ai (qk t.name ks) (ai (Gn t.name) (am (λ h=>?_) λ h1=>?_))
     .have r:=(X6 t.name).1 (aI.1 h);rw[Vi (show isD (apT t.name ks).name=O from r)];exact ai (qhw _ rfl s F r) (ap _)
     refine am (λ h=>?_) λ X=>?_
     .rw[U0 (show(apT t.name ks).name=gB from cF.1 h)];exact ai (qny ks) (ap _)
     refine am (λ h=>d (.inl (cF.1 h))) λ W=>?_;refine am (λ h=>d (.inr (.inl (cF.1 h)))) λ S=>?_;refine am (λ h=>d (.inr (.inr (cF.1 h)))) λ B=>?_;refine am (λ h=>?_) λ A=>?_
     .have C:t.name=jc:=cF.1 h;rw[Uc (show(apT t.name ks).name=jc from C)];have n:isN (apT t.name ks) jc=O:=dx.2 ⟨rfl,C⟩;have q0:=mh (apT t.name ks) 0;have q1:=mh (apT t.name ks) 1;refine aw (mi (t:=apT t.name ks) (i:=0) s n (a:=2) (b:=2) (c:=1) (by decide) (by decide)) (aw (mi (t:=apT t.name ks) (i:=1) s n (a:=2) (b:=2) (c:=1) (by decide) (by decide)) ?_);exact ai (qln _ _ (ko jt nc rfl s 0)) (ap _)
     .rw[To (t:=apT t.name ks) (show isD t.name=Y from by
         rw[<-nQ,<-X6];exact aG.1 h1) (cW.1 X) (λ h=>by obtain h|h|h:=h;exact cW.1 W h;exact cW.1 S h;exact cW.1 B h) (cW.1 A)]
      exact ap _)
    (λ i x v r e R Q z p=>by
     apply aF;simp only[Qk,CM,aH];have l:=aP v;have M:=du t x l;rw[Ud r];refine aj e (aw R (ai (G x l (by omega) (y x l) (AI t g o x l)) (am (λ h=>?_) λ h=>?_)))
     .rw[bnt,aG]at h;rw[ag (show(if(bV x).2≠0 then(bV x).2 else erN (t.kids.drop (i+1)))≠0 from by rw[ag h];exact h),ag h];exact ap _
     .rw[bnf,aI]at h;rw[af (show ¬ (bV x).2≠0 from by omega)];have h4:I (nks (t.kids.take i))<=I t.kids:=by rw[Gx,bD];omega
      apply aj (cx)
      have z:=z λ k f=>by
       rw[gn v]at f;obtain f|f:=bc.1 f
       .exact p k f
       .rw[bW.1 f];exact h
      rw[Q];refine z.congr λ m k=>?_;rw[Uj v])
   apply bj (L:=λ m k=>tZ m (lQ m) k 0 t.kind t.name t.sort t.kids 0 [] 0 [] []);exact(u 0 (aL _)) (λ k f=>by rw[qW]at f;cases f)
def J1(t:T):uX t=if fZ t≠0 then(zT,fZ t)else if(bV t).2≠0 then(zT,(bV t).2)else if aN (bV t).1≠0 then(zT,aN (bV t).1)else bV t:=rfl
def qiR(t:T)(d:size t<=1000000000):Ev (λ m _=>DB m t) (uX t):=by
 apply aJ;simp only[qdm,IT,aH];rw[J1];refine ai (Mb t d) (am (λ h=>?_) λ h=>?_)
 .rw[bnt,aG]at h;rw[ag h];exact ap _
 rw[bnf,aI]at h;rw[ifN];let⟨c,e⟩:=uH h;have f:=lY c;have g:=Mk t;refine ai (qjb t (by omega) e) (am (λ a=>?_) λ a=>?_)
 .rw[aI]at a;rw[ifN];refine ai (jG _) (am (λ b=>?_) λ b=>?_)
  .rw[bnt,aG]at b;rw[ag b];exact ap _
  .rw[bnf,aI]at b;rw[ifN];exact ay (by rw[<-a])
 .rw[aG]at a;rw[ag a];exact aj (bnt.2 (aG.2 a)) (ap _)
def qiv(t:T)(d:size t<=1000000000):Ev (λ m _=>Eb m t) (uX t):=by
 apply aJ;simp only[qfh,I4,aH];rw[J1];refine ai (LY t d) (am (λ h=>?_) λ h=>?_)
 .rw[bnt,aG]at h;rw[ag h];exact ap _
 rw[bnf,aI]at h;rw[ifN];let⟨c,e⟩:=uH h;have f:=lY c;have g:=Mk t;refine ai (qid t (by omega) e (qje t (qhA c))) (am (λ a=>?_) λ a=>?_)
 .rw[bnt,aG]at a;rw[ag a];exact ap _
 rw[bnf,aI]at a;rw[ifN];refine ai (rI _) (am (λ b=>?_) λ b=>?_)
 .rw[bnt,aG]at b;rw[ag b];exact ap _
 .rw[bnf,aI]at b;rw[ifN];exact ay (by rw[<-a])
def RZ(t:T):size (uX t).1<=400:=by
 rw[J1];have:=xz;split
 .show size zT<=_;omega
 .split
  .show size zT<=_;omega
  .split
   .show size zT<=_;omega
   .next h=>exact lY (wn h)
def ll(p:aa aA->Bool):T->Bool:=T.para λ t a=>(!(t.kind==3)||p t.name)&&a.all id
def Fg(p:aa aA->Bool)(t:T):ll p t=((!(t.kind==3)||p t.name)&&(t.kids.map (ll p)).all id):=T.para_eq _ _
def eD:T->aa T:=T.para λ t a=>t::a.flatten
theorem rT(t:T):eD t=t::(t.kids.map eD).flatten:=T.para_eq _ _
def zU(t:T):I (eD t)=size t:=by
 refine T.ind (P:=λ t=>I (eD t)=size t) ?_ t;intro t a;rw[rT,bX,bG,List.length_flatten,iu];have:t.kids.map (I ∘ eD)=t.kids.map size:=mL λ k b=>a k b;rw[this];omega
def qmR(t:T):∀u∈eD t,size u<=size t:=by
 refine T.ind (P:=λ t=>∀u∈eD t,size u<=size t) ?_ t;intro t c u a;rw[rT]at a;obtain rfl|a:=bi.1 a
 .exact al _
 .let⟨l,d,a⟩:=jB.1 a;obtain⟨k,b,rfl⟩:=bu.1 d;have f:=c k b u a;have e:=du t k b;omega
def R7(p:aa aA->Bool)(t:T):(eD t).all (λ u => !(u.kind==3)||p u.name)=ll p t:=by
 refine T.ind (P:=λ t=>(eD t).all (λ u => !(u.kind==3)||p u.name)=ll p t) ?_ t;intro t b;rw[rT,Fg,fm,List.all_flatten];congr 1;rw[Pb,Pb];rw[wj,bJ,bJ];exact⟨λ h k a=>(b k a).symm.trans (h k a),λ h k a=>(b k a).trans (h k a)⟩
def pPl(n:aa aA):Bool:=au (ieq (bK n).2.2 3)
def qK(n:aa aA):Bool:=n==gB||n==jb||n==jc||n==iN||n==dZ||n==kJ
def pFr(n:aa aA):Bool := !qK n&&pPl n
def qkl(n:aa aA):Ev (λ m _=>Df m n) (pPl n):=by
 apply aJ;simp only[qcx,IJ];refine ai (Ki n) (ay ?_);unfold pPl;rw[<-FZ]
def oy{n x:aa aA}(h:n=x)(a:qK x=O):qK n=O:=by rw[h];exact a
def XJ{n:aa aA}(e:n≠gB)(d:n≠jb)(c:n≠jc)(b:n≠iN)(a:n≠dZ):qK n=(n==kJ):=by
 unfold qK;rw[gG.2 e,gG.2 d,gG.2 c,gG.2 b,gG.2 a];rfl
def qjZ(t:T):size t<=1000000000->Ev (λ m _=>kU m t) (ll pPl t):=by
 induction t using T.ind with
 |h t j=>
   intro r;have s:=dK t;apply aJ;simp only[qbn,BH]
   have d:=bA (P:=λ i=>Ev (λ m k=>qZ m (kU m) k t.kids (I t.kids) i) (((t.kids.drop i).map (ll pPl)).all id)) t.kids (by omega)
    (λ f=>by
     apply aF;simp only[PG,BG];refine ak f (ay ?_);rw[ej];rfl)
    (λ i x l p f o n q=>by
     apply aF;simp only[PG,BG,aH];have g:=aP l;have u:=du t x g;rw[p,aZ,fm];refine aj f (aw o (ai (j x g (by omega)) (am (λ b=>?_) λ b=>?_)))
     .rw[bnt]at b;rw[b];exact ap _
     .rw[bnf]at b;rw[b,n];exact q)
   have a:Ev (λ m _=>qZ m (kU m) m t.kids (I t.kids) 0) ((t.kids.map (ll pPl)).all id):=
    bj (L:=λ m k=>qZ m (kU m) k t.kids (I t.kids) 0) ((d 0 (aL _)).res (by rw[dl]))
   rw[Fg];refine am (λ c=>?_) λ c=>?_
   .rw[aI]at c;have e:(!(t.kind==3))=Y:=by rw[c];rfl
    rw[e,pM];refine ai (qkl t.name) (am (λ h=>?_) λ h=>?_)
    .rw[bnt]at h;rw[h];exact ap _
    .rw[bnf]at h;rw[h];exact a
   .rw[aG]at c;have e:(!(t.kind==3))=O:=by rw[fF,gG];exact c
    rw[e,nO];exact a
def L1(t:T):size t<=1000000000->Ev (λ m _=>ke m t) (eD t):=by
 induction t using T.ind with
 |h t n=>
   intro r;have s:=dK t;have b:=zU t;apply aJ;simp only[qhI,D5,aH];rw[rT]at b |-
   have a:∀i,((t.kids.take i).map eD).flatten.length<=(t.kids.map eD).flatten.length:=λ i=>by
    have:=aY (λ l=>(l.map eD).flatten.length) (oP i t.kids);simp only[ft,Br,aU]at this;omega
   have c:=bA (P:=λ i=>Ev (λ m k=>uq m (ke m) k i t.kind t.name t.sort t.kids (t::((t.kids.take i).map eD).flatten)) (t::(t.kids.map eD).flatten)) t.kids (by omega)
    (λ d=>by
     apply aF;simp only[Rd,Ed];apply ak d;rw[cV];exact ap _)
    (λ i x f u d p o j=>by
     apply aF;simp only[Rd,Ed,aH];have g:=aP f;have v:=du t x g;have q:=a (i+1)
     have e:((t.kids.take (i+1)).map eD).flatten=((t.kids.take i).map eD).flatten++eD x:=by
      rw[gn f,ft,Br];simp
     rw[e,aU]at q;rw[e]at j;rw[bG]at b;refine aj d (aw p (ai (n x g (by omega)) (aj (cx (by rw[bG];omega)) ?_)));rw[o];exact j)
   apply bj (L:=λ m k=>uq m (ke m) k 0 t.kind t.name t.sort t.kids [t]);exact c 0 (aL _)
def nh(t:T):Bool:=J (fZ t=0)&&ll pFr t
def mZ(t:T):Bool:=J ((uX t).2=0)&&(bY (uX t).1 t&&ll pPl t)
def qjO(t:T)(a:size t<=1000000000:=by omega):Ev (λ m _=>yU m t) (mZ t):=by
 have c:=RZ t;apply aJ;simp only[qfe,I5,aH];unfold mZ;refine ai (qiR t a) (am (λ h=>?_) λ h=>?_)
 .rw[aI]at h;rw[cO h,ei];refine ai (FX _ _ (by omega) a) (am (λ b=>?_) λ b=>?_)
  .rw[b,ei];exact ai (qjZ t a) (ap _)
  .rw[b,jz];exact ap _
 .rw[aG]at h;rw[gj h,jz];exact ap _
def qj9(t:T)(e:size t<=1000000000:=by omega):Ev (λ m _=>Eh m t) (mZ t):=by
 have s:=RZ t;apply aJ;simp only[qfl,Dd,aH];unfold mZ;refine ai (qiv t e) (am (λ h=>?_) λ h=>?_)
 .rw[bnt,aG]at h;rw[gj h,jz];exact ap _
 rw[bnf,aI]at h;rw[cO h,ei,So];refine ai (xl _ _ e) (am (λ c=>?_) λ c=>?_)
 .rw[bnt]at c;rw[c,jz];exact ap _
 rw[bnf]at c;rw[c,ei,<-R7];apply ai (L1 t e);have p:=zU t;generalize eD t=l at*
 have d:=bA (P:=λ i=>Ev (λ m k=>uf m k l i) ((l.drop i).all λ u => !(u.kind==3)||pPl u.name)) l (by omega)
  (λ g=>by
   apply aF;simp only[QF,CZ];refine ak g (ay ?_);rw[ej];rfl)
  (λ i x r q g n j o=>by
   apply aF;simp only[QF,CZ];rw[q,fm];refine aj g (aw n (am (λ b=>?_) λ b=>?_))
   .rw[aI]at b;have f:(!(x.kind==3))=Y:=by rw[b];rfl
    rw[f,pM];refine aw n (ai (Gn x.name) (am (λ a=>?_) λ a=>?_))
    .have:pPl x.name=Y:=by unfold pPl;rw[a];rfl
     rw[this];exact ap _
    .rw[j];apply o.res;have:pPl x.name=O:=by unfold pPl;rw[a];rfl
     rw[this];rfl
   .rw[aG]at b;have f:(!(x.kind==3))=O:=by rw[fF,gG];exact b
    rw[f,nO,j,ei];exact o)
 apply bj (L:=λ m k=>uf m k l 0);exact(d 0 (aL _)).res (by rw[dl])
section
open Go.Sort Proofs Proofs.YtinbdcelmgfniaaGreatDoor
def be(k:Int)(t:T):aa T:=(eD t).filter λ x=>J (x.kind=k)
def xA(t:T):Bool:=(be 1 t).isEmpty
theorem gU(k:Int)(t:T):be k t=(if t.kind=k then[t]else[])++(t.kids.map (be k)).flatten:=by
 unfold be;grind [be,rT,List.map_map,Function.comp_def]
theorem zh(k:Int)(t:T):I (be k t)<=size t:=by
 have:=Po (λ x:T=>J (x.kind=k)) (eD t);rw[zU]at this;exact this
def Fo(k:Int)(t:T):∀u∈be k t,size u<=size t:=λ u a=>qmR t u ((jQ.1 a).1)
def V2{s:Nat}:∀{l:aa T},(∀u∈l,size u<=s)->szL l<=I l*s
 |[],_=>by simp[szL]
 |x::l,h=>by
   have:=V2 λ u a=>h u (aS _ a);grind [List.mem_cons_self,dz,List.length_cons,Nat.succ_mul]
def qk1(x:T)(k:Int)(l:aa T)(b:I l<=1000000000:=by omega):Ev (λ m _=>BL m x k l) ((k,l++(if x.kind=k then[x]else[]),()),()):=by
 apply aJ;simp only[qa2,Ir,aH];by_cases h:x.kind=k
 .rw[ag h];refine aj (aI.2 h) (aj (cx) (aw (a:=T.mk 0 [] 0 []) (by rw[fJ];simp) (ay ?_)));rw[oV];simp
 .rw[af h,bZ];exact ak (aG.2 h) (ap _)
def qnB(t:T)(k:Int):size t<=1000000000->∀l:aa T,I l+size t<=1000000000->Ev (λ m _=>lN m t k l) ((k,l++be k t,()),()):=by
 induction t using T.ind with
 |h t v=>
   intro C l D;have w:=dK t;apply aJ;simp only[qbw,BM,aH];apply ai (qk1 t k l);simp only;obtain⟨a,b⟩:∃a,a=l++(if t.kind=k then[t]else[]):=⟨_,rfl⟩
   rw[<-b];have j:=zh k t;rw[gU,aU]at j;have r:I a+I ((t.kids.map (be k)).flatten)=I l+(I (if t.kind=k then[t]else[])+I ((t.kids.map (be k)).flatten)):=by rw[b,aU];omega
   have p:∀i,((t.kids.take i).map (be k)).flatten.length<=(t.kids.map (be k)).flatten.length:=λ i=>by
    have:=aY (λ l=>(l.map (be k)).flatten.length) (oP i t.kids);grind
   have g:∀i x,t.kids[i]?=Z x->I a+((t.kids.take i).map (be k)).flatten.length+size x<=1000000000:=λ i x c=>by
    have B:((t.kids.take i).map (be k)).flatten.length<=szL (t.kids.take i):=by
     have o:∀l:aa T,I ((l.map (be k)).flatten)<=szL l:=by
      intro l
      induction l with
      |nil=>simp[szL]
      |cons y l u=>rw[aZ,O3,aU,dz];have:=zh k y;omega
     exact o _
    have F:=pP c;grind [szL,bX,List.length_append]
   have f:=bA (P:=λ i=>Ev (λ m d=>tF m (lN m) d t.kids (I t.kids) i k (a++((t.kids.take i).map (be k)).flatten)) ((k,a++(t.kids.map (be k)).flatten,()),())) t.kids (by omega)
    (λ n=>by
     apply aF;simp only[PI,BK];apply ak n;rw[cV];exact ap _)
    (λ i x c E n A z s=>by
     apply aF;simp only[PI,BK,aH];have q:=aP c;have B:=du t x q;refine aj n (aw A (ai (v x q (by omega) _ (by rw[aU];exact g i x c)) ?_));rw[z]
     have e:((t.kids.take (i+1)).map (be k)).flatten=((t.kids.take i).map (be k)).flatten++be k x:=by
      rw[gn c,ft,Br];simp
     rw[e,<-bE]at s;exact s)
   rw[gU,<-bE,<-b];apply bj (L:=λ m d=>tF m (lN m) d t.kids (I t.kids) 0 k a);have:=f 0 (aL _);simpa using this
def qmp{F G:T->T->ac Int}{l:aa T}(h:∀x∈l,∀y∈l,F x y=G x y):di F l=di G l:=by
 grind [di]
def S9{a:Type}{F:T->T->ac a}{l:aa T}(h:∀x∈l,∀y∈l,(F x y).isSome=O):kr F l=O:=
 bJ.2 λ x c=>bJ.2 λ y b=>h x c y b
theorem Xx{n:Nat}{lt:Nat->Nat->Bool}(h:SWO lt):ta n lt=O:=by
 unfold ta;refine bJ.2 λ i _=>?_;rw[aK];refine⟨by rw[h.irrefl];rfl,bJ.2 λ j _=>bJ.2 λ k _=>?_⟩;rw[aK];constructor
 .cases b:lt i j with
  |false=>rfl
  |true=>cases a:lt j k with
    |false=>rfl
    |true=>rw[h.trans i j k b a];rfl
 .cases b:lt i j with
  |true=>rfl
  |false=>cases a:lt j k with
    |true=>rfl
    |false=>rw[h.ntrans i j k b a];rfl
def Zn(l:aa T):SWO (ltOf (di (λ x y=>Z (aQ x y)) l)):=by
 have hlt:∀ i j,ltOf (di (λ x y=>Z (aQ x y)) l) i j=O↔∃ x y,l[i % I l]?=Z x/\l[j % I l]?=Z y/\aQ x y=-1 := λ i j=>by
  unfold ltOf di;rw[gH];cases hx:l[i % I l]? with
  | none=>simp
  | some x=>cases hy:l[j % I l]? with
    | none=>simp
    | some y =>
      simp only[Option.getD_some];have:=eZ.rng x y;constructor
      ·intro h;exact⟨x,y,rfl,rfl,by omega⟩
      ·rintro⟨_,_,h1,h2,h3⟩;cases h1;cases h2;omega
 refine⟨λ i=>?_,λ i j k h1 h2=>?_,λ i j k h1 h2=>?_⟩
 ·rw[tw];grind [Fv]
 ·obtain⟨x,y,a1,a2,a3⟩:=(hlt _ _).1 h1;obtain⟨y',z,b1,b2,b3⟩:=(hlt _ _).1 h2;rw[a2]at b1;cases b1;exact(hlt _ _).2 ⟨x,z,a1,b2,eZ.trans x y z a3 b3⟩
 ·rw[tw]at h1 h2 |-
  intro h;obtain⟨x,z,a1,a2,a3⟩:=(hlt _ _).1 h;have hn:0<I l:=by have:=getElem?_lt a1;omega
  obtain⟨y,hj⟩:∃ y,l[j % I l]?=Z y:=⟨_,aV (qR _ hn)⟩
  have n1:aQ x y≠-1 := λ he=>h1 ((hlt _ _).2 ⟨x,_,a1,hj,he⟩);have n2:aQ y z≠-1 := λ he=>h2 ((hlt _ _).2 ⟨_,z,hj,a2,he⟩);have r1:=eZ.rng x y;have r2:=eZ.rng y z;rcases r1 with r1 | r1 | r1
  ·exact n1 r1
  ·grind [mU]
  ·rcases r2 with r2 | r2 | r2
   ·exact n2 r2
   ·grind [mU]
   ·have e1:aQ y x=-1:=by rw[eZ.anti];omega
    have e2:aQ z y=-1:=by rw[eZ.anti];omega
    have e3:=eZ.trans _ _ _ e2 e1;have e4:=eZ.anti x z;omega
def Lk{k:Type}{F:Nat->T->T->ac k}{g:T->T->k}(l:aa T)(h:∀x∈l,∀y∈l,Ev (λ m _=>F m x y) (g x y)):∃B,∀m,B<=m->∀x∈l,∀y∈l,F m x y=Z (g x y):=by
 have d:∀(x:T),(∀y∈l,Ev (λ m _=>F m x y) (g x y))->∀r:aa T,(∀y∈r,y∈l)->∃B,∀m,B<=m->∀y∈r,F m x y=Z (g x y):=by
  intro x n r
  induction r with
  |nil=>exact λ _=>⟨0,λ _ _ y f=>by cases f⟩
  |cons y r e=>
    intro b;let⟨B,j⟩:=e λ z a=>b z (aS _ a);let⟨D,i⟩:=n y (b y (aW ..));refine⟨max B D,λ m o z a=>?_⟩;obtain rfl|a:=bi.1 a
    .exact i m D (by omega) (al _)
    .exact j m (by omega) z a
 have c:∀r:aa T,(∀y∈r,y∈l)->∃B,∀m,B<=m->∀x∈r,∀y∈l,F m x y=Z (g x y):=by
  intro r
  induction r with
  |nil=>exact λ _=>⟨0,λ _ _ y f=>by cases f⟩
  |cons x r e=>
    intro b;let⟨B,j⟩:=e λ z a=>b z (aS _ a);let⟨D,i⟩:=d x (h x (b x (aW ..))) l λ _ h=>h;refine⟨max B D,λ m o z a=>?_⟩;obtain rfl|a:=bi.1 a
    .exact i m (by omega)
    .exact j m (by omega) z a
 exact c l λ _ h=>h
def Vu{α:Type}{l:aa α}{b:aa Nat}:∀x∈pick l b,x∈l:=λ x a=>by
 unfold pick at a;let⟨i,_,h⟩:=nL.1 a;exact aP h
theorem Xq(l:aa T)(t:T):dq l t≠[]:=by
 cases l with
 |nil=>simp[dq]
 |cons x l=>
   grind [dq]
def qog(l:aa T)(o:szL l<=1000000000):Ev (λ m _=>Fw m l) (l.foldl dq []):=by
 have g:=gX l;apply aJ;simp only[qhF,D6]
 have n:∀(l a:aa T),szL (l.foldl dq a)<=szL a+szL l:=by
  intro l
  induction l with
  |nil=>intro a;simp[szL]
  |cons x l f=>intro a;rw[jy,dz];have:=f (dq a x);have:=Mg x a;omega
 have b:=bA (P:=λ i=>Ev (λ m k=>uv m k l ((l.take i).foldl dq []) i) (l.foldl dq [])) l (by omega)
  (λ c=>by
   apply aF;simp only[Rm,Ec];apply ak c;rw[cV];exact ap _)
  (λ i x d p c j h e=>by
   apply aF;simp only[Rm,Ec,aH];have r:=n (l.take i) [];have q:=pP d;have s:szL ([]:aa T)=0:=rfl;refine aj c (aw j (ai (X9 _ x) ?_));rw[h,KV];rw[gn d,yz]at e;exact e)
 exact bj (L:=λ m k=>uv m k l [] 0) (b 0 (aL _))
theorem qkj(l:aa T):l.foldl dq []=[]↔l=[]:=by
 constructor
 .intro h;cases d:l with
  |nil=>rfl
  |cons x r=>
    exfalso
    have c:∀(r a:aa T),a≠[]->r.foldl dq a≠[]:=by
     intro r
     induction r with
     |nil=>intro a h;exact h
     |cons y r b=>intro a _;exact b _ (Xq _ _)
    grind [Xq]
 .intro h;rw[h];rfl
def qkU(t:T)(k:Int)(g:size t<=10000):Ev (λ m _=>EX m t k) ((be k t).foldl dq []):=by
 apply aJ;simp only[qgB,DI,aH];apply ai (L1 t (by omega));have h:=zU t
 have a:szL (be k t)<=1000000000:=by
  have s:=V2 (Fo k t);have r:I (be k t)*size t<=10000*10000:=Pd (bR (zh k t) g) g;omega
 have d:=bA (P:=λ i=>Ev (λ m c=>uh m c k (eD t) i (((eD t).take i).filter λ x=>J (x.kind=k))) ((be k t).foldl dq [])) (eD t) (by omega)
  (λ e=>by
   apply aF;simp only[QX,Dx];apply ak e;rw[cV];exact ai (qog (be k t) a) (ap _))
  (λ i x n o e l j f=>by
   apply aF;simp only[QX,Dx,aH];have q:=Po (λ x:T=>J (x.kind=k)) ((eD t).take i);have p:=List.length_take_le' i (eD t);rw[gn n,List.filter_append]at f;refine aj e (aw l ?_);by_cases b:x.kind=k
   .refine aj (aI.2 b) (aw l (aj (cx) ?_));rw[j];simpa[b]using f
   .apply ak (aG.2 b);rw[j];simpa[b]using f)
 exact bj (L:=λ m c=>uh m c k (eD t) 0 []) (d 0 (aL _))
def qks(t:T)(b:size t<=10000):Ev (λ m _=>DO m t) (xA t):=by
 have a:Ev (λ m _=>EW m t) ((be 1 t).foldl dq []):=by
  apply aJ;simp only[qgX,Jt,aH];exact ai (qkU t 1 b) (ap _)
 apply aJ;simp only[qe7,I3,aH];refine ai a (ay ?_);grind [xA,qkj,List.length_pos_iff,aG]
def Yg(l:aa T):Prop:=l.Pairwise λ a b=>aQ b a≠-1
def Xv{R:T->T->Prop}{l:aa T}{a:aa Nat}(h:a.Pairwise λ i j=>∀x,l[i]?=Z x->∀y,l[j]?=Z y->R x y):(pick l a).Pairwise R:=by
 grind [pick]
def SD:∀l:aa T,(List.range (I l)).filterMap (λ i=>l[i]?)=l
 |[]=>rfl
 |x::l=>by
   rw[bG,List.range_succ_eq_map,Pg,List.filterMap_map];have:=SD l;simpa[Ib]using this
def qlQ(l:aa T)(hl:I l<=100000)(hs:∀ t∈l,size t<=1000000000):∃ l',Ev (λ m _=>ww m l) l'/\l'.Perm l/\Yg l':=by
 cases hl0:l with
 | nil=>exact⟨[],aJ (Bs (ap _) λ m _=>rfl),.refl _,List.Pairwise.nil⟩
 | cons x0 r0 =>
   rw[<- hl0];obtain⟨B,hB⟩:=Lk (F := λ m x y=>dp m x y) l λ x hx y hy=>oQ x (hs x hx) y (hs y hy);have hne:l≠[]:=by rw[hl0];exact Pf _ _
   have hO:=Zn l;obtain⟨hp,hq⟩:=JK (λ x y=>Z (aQ x y)) l hO;have hlt:∀ i∈gq (λ x y=>Z (aQ x y)) l,i<I l := λ i hi=>nM.1 (hp.mem_iff.1 hi);refine⟨pick l (gq (λ x y=>Z (aQ x y)) l),aJ ⟨B,λ m k hm _=>?_⟩,?_,Xv ?_⟩
   ·show ww (m+1) l=_;rw[qay];have hcf:di (dp m) l=di (λ x y=>Z (aQ x y)) l:=qmp (hB m hm);have hall:kr (dp m) l=O:=S9 λ x hx y hy=>by rw[hB m hm x hx y hy];rfl
    have hix:gq (dp m) l=gq (λ x y=>Z (aQ x y)) l:=by unfold gq;rw[hcf]
    have e:qv (dp m) l=cond (Nat.ble (I l) 100000&&(kr (dp m) l&&ta (I l) (ltOf (di (dp m) l)))) (Z (pick l (gq (dp m) l))) U:=by rw[hl0];rfl
    grind [Xx,Nat.ble_eq_true_of_le]
   ·have:=hp.filterMap λ i=>l[i]?;rw[SD]at this;exact this
   ·generalize gq (λ x y=>Z (aQ x y)) l=ix at hp hq hlt |-
    have hn:I ix=I l:=by rw[hp.length_eq,wm]
    rw[ZX];intro i j hi hj hij x hx y hy hc;have:=hq i j (aL _) hij (by omega);rw[tp ix.toArray i (by simpa using hi),tp ix.toArray j (by simpa using hj)]at this;have h1:=hlt _ (iq hi);have h2:=hlt _ (iq hj);unfold ltOf di at this;grind [decide_eq_false_iff_not,Nat.mod_eq_of_lt]
def qhE(l:aa T)(R:I l<=100000)(C:∀t∈l,size t<=1000000000)(N:Yg l):∃q,Ev (λ m _=>wv m l) ((),q,())/\Asc q/\I q<=I l/\∀x,x∈q↔x∈l:=by
 cases f:l with
 |nil=>exact⟨[],aJ (Bs (ap _) λ m _=>rfl),List.Pairwise.nil,al _,λ x=>Iff.rfl⟩
 |cons P Q=>
   rw[<-f]
   let⟨B,G⟩:=Lk (F:=λ m x y=>nW m x y) (g:=λ x y=>ieq (aQ x y) 0) l λ x a y b=>by
    apply aJ;simp only[qc5,IL,aH];exact ai (oQ x (C x a) y (C y b)) (ap _)
   have w:l≠[]:=by rw[f];exact Pf _ _
   have h:0<I l:=wd.2 w;obtain⟨d,p⟩:∃d,d=nI (λ x y=>Z (ieq (aQ x y) 0)) l:=⟨_,rfl⟩
   have A:∀i∈dg d (I l),i<I l:=Tu
   have n:I (dg d (I l))<=I l:=by
    have:=Po (λ i=>J (i=0) || !d i (i-1)) (List.range (I l));rw[wm]at this;exact this
   have c:∀i x y,l[i]?=Z x->l[i-1]?=Z y->d i (i-1)=ieq (aQ x y) 0:=λ i x y a b=>by
    have u:=getElem?_lt a;have S:=getElem?_lt b;rw[p];grind [nI,Nat.mod_eq_of_lt]
   have K:∀i j x y,i<j->l[i]?=Z x->l[j]?=Z y->aQ y x≠-1:=λ i j x y o a b=>by
    have u:=ZX.1 N i j (getElem?_lt a) (getElem?_lt b) o;grind
   refine⟨pick l (dg d (I l)),aJ ⟨B,λ m k D _=>?_⟩,Xv ?_,by rw[K8 A];exact n,λ x=>⟨Vu x,λ a=>?_⟩⟩
   .show wv (m+1) l=_;rw[qav]
    have M:nI (nW m) l=d:=by
     rw[p];funext i j;unfold nI;cases a:l[i%I l]? with
     |none=>rfl
     |some x=>cases b:l[j%I l]? with
       |none=>rfl
       |some y=>simp only;rw[G m D x (aP a) y (aP b)]
    have E:kr (nW m) l=O:=S9 λ x a y b=>by rw[G m D x a y b];rfl
    have e:Hf (nW m) l=cond (Nat.ble (I l) 100000&&kr (nW m) l) (Z (pick l (dg (nI (nW m) l) (I l)))) U:=by rw[f];rfl
    grind [AS,Nat.ble_eq_true_of_le]
   .unfold dg;rw[List.pairwise_filter];refine List.pairwise_lt_range.imp λ{i j} o _ L x a y b=>?_;have u:=getElem?_lt b;obtain⟨z,r⟩:∃z,l[j-1]?=Z z:=⟨_,aV (by omega)⟩
    rw[c j y z b r,gj (show ¬ j=0 by omega),pM,fF,aG]at L;grind [qlt,Fv,oX]
   .let⟨i,s⟩:=lI a;clear a
    induction i with
    |zero=>exact nL.2 ⟨0,jQ.2 ⟨nM.2 h,by simp⟩,s⟩
    |succ i H=>
      have u:=getElem?_lt s;obtain⟨z,r⟩:∃z,l[i]?=Z z:=⟨_,aV (by omega)⟩
      by_cases v:z=x
      .subst v;exact H r
      .refine nL.2 ⟨i+1,jQ.2 ⟨nM.2 u,?_⟩,s⟩;rw[c (i+1) x z s r,gR,fF,aG];grind [mU]
def Fp:∀(l a:aa T),Asc a->Asc (l.foldl dq a)/\∀x,x∈l.foldl dq a↔x∈a\/x∈l
 |[],a,h=>⟨h,λ x=>by simp⟩
 |y::l,a,h=>by
   let⟨c,b⟩:=Fp l (dq a y) (Ln y a h);refine⟨c,λ x=>?_⟩;rw[jy,b,FM,bi,or_assoc]
def mD(t:T):aa T:=(be 1 t).foldl dq []
def Gf(t x:T):x∈mD t↔x∈be 1 t:=by
 unfold mD;rw[(Fp _ [] List.Pairwise.nil).2];simp
def VA(t:T):∀l:aa T,I (dq l t)<=I l+1
 |[]=>al _
 |x::l=>by
   have:=VA t l;grind [dq]
def Vc(t:T):I (mD t)<=size t:=by
 have b:∀(l a:aa T),I (l.foldl dq a)<=I a+I l:=by
  intro l
  induction l with
  |nil=>intro a;simp
  |cons y l c=>intro a;rw[jy,bG];have:=c (dq a y);have:=VA y a;omega
 have d:I (mD t)<=I ([]:aa T)+I (be 1 t):=b (be 1 t) [];grind [zh,List.length_nil]
def qlH(t:T)(E:size t<=100000:=by omega):Ev (λ m _=>zu m t) (mD t):=by
 have p:∀u∈be 1 t,size u<=1000000000:=λ u w=>by have:=Fo 1 t u w;omega
 have F:=zh 1 t;let⟨n,e1,d,B⟩:=qlQ (be 1 t) (by omega) p;have s:=d.length_eq;have l:∀x∈n,size x<=1000000000:=λ x c=>p x (d.mem_iff.1 c);let⟨b,A,C,D,h⟩:=qhE n (by omega) l B
 have v:b=mD t:=LN _ _ C (Fp _ [] List.Pairwise.nil).1 λ x=>by
  rw[h,d.mem_iff,<-Gf]
 apply aJ;simp only[qhn,Jz,aH];refine ai (a:=mD t) (aJ ?_) (ap _);simp only[qfU,Jh,aH];have o:=qnB t 1 (by omega) [] (by rw[fE];omega);rw[fS]at o;rw[<-v];refine ai o (ai (a:=((),b,())) (aJ ?_) (ay rfl));simp only[qee,CT];refine ai e1 (aj (by simp[s]) (ai A ?_))
 have f:=bA (P:=λ i=>Ev (λ m k=>tW m k (I b) i b) ((),b,())) b (by omega)
  (λ g=>by
   apply aF;simp only[Qy,CQ];exact ak g (ap _))
  (λ i x c G g r y z=>by
   apply aF;simp only[Qy,CQ,aH];refine aj g (aw r (ai (K9 x (l x ((h x).1 (aP c)))) (aw r ?_)));rw[y]
   have e:cy b (i:Int) x=b:=by
    rw[oV];apply pJ;intro j;by_cases q:i=j
    .subst q;rw[gh (getElem?_lt c)];exact c.symm
    .rw[jA q]
   rw[e];exact z)
 exact bj (L:=λ m k=>tW m k (I b) 0 b) (f 0 (aL _))
end
abbrev KM:=aa ((aa aA×Int)×T)
abbrev eqK:aa aA×Int->aa aA×Int->Bool:=veq (.pair .str (.int .i64))
def MR{a b:aa aA×Int}:eqK a b=O↔a=b:=by
 show(aT a.1 b.1&&ieq a.2 b.2)=O↔_;rw[aK,cF,aI,Prod.ext_iff]
def xb{K X:Type}[DecidableEq K]{e:K->K->Bool}(d:∀{a b},e a b=O↔a=b)(v:X)(c k:K):∀s:aa (K×X),bS e (fQ e s k v) c=if c=k then Z v else bS e s c
 |[]=>by
   show cond (e c k) (Z v) U=_;by_cases h:c=k
   .rw[d.2 h,ag h];rfl
   .rw[tw.2 λ g=>h (d.1 g),af h];rfl
 |p::s=>by
   show bS e (cond (e k p.1) ((p.1,v)::s) (p::fQ e s k v)) c=if c=k then Z v else cond (e c p.1) (Z p.2) (bS e s c);have i:=xb d v c k s;by_cases f:k=p.1
   .rw[d.2 f];show cond (e c p.1) (Z v) (bS e s c)=_;grind
   .rw[tw.2 λ g=>f (d.1 g)];show cond (e c p.1) (Z p.2) (bS e (fQ e s k v) c)=_;grind
def K6(v:T)(a k:aa aA×Int)(s:KM):bS eqK (fQ eqK s k v) a=if a=k then Z v else bS eqK s a:=xb MR v a k s
def kOf(x:T):aa aA×Int:=(x.name,x.sort)
def vL(p t:T):Bool:=J (p.sort=0\/(t.kind≠3/\t.sort=p.sort))
def pG(p t:T):Bool:=J (aN p=0/\aN t=0/\p.kind=1)&&vL p t
def alk(p t:T):Bool:=J (p.kind=3/\t.kind=3/\p.name=t.name/\I p.kids=I t.kids)
def mtL{S:Type}:aa (T->S->S×Bool)->aa T->S->S×Bool
 |r::a,k::ks,s=>if(r k s).2=O then mtL a ks (r k s).1 else((r k s).1,Y)
 |_,_,s=>(s,O)
def mtP:T->T->KM->KM×Bool:=T.para λ p a t s=>
 if p.kind=1 then(match bS eqK s (kOf p)with
  |Z u=>(s,bY u t)
  |U=>(fQ eqK s (kOf p) t,pG p t))
 else if alk p t=Y then(s,bY p t)else mtL a t.kids s
def mtR:T->T->aa (T×T)->aa (T×T)×Bool:=T.para λ p a t s=>
 if p.kind=1 then(s++[(p,t)],vL p t)else if p.kind=2 then(s,bY p t)else if alk p t=Y then(s,Y)else mtL a t.kids s
def MH(p t:T)(s:KM):mtP p t s=if p.kind=1 then(match bS eqK s (kOf p)with
  |Z u=>(s,bY u t)
  |U=>(fQ eqK s (kOf p) t,pG p t))
 else if alk p t=Y then(s,bY p t)else mtL (p.kids.map mtP) t.kids s:=by
 unfold mtP;rw[T.para_eq]
def AH(p t:T)(s:aa (T×T)):mtR p t s=if p.kind=1 then(s++[(p,t)],vL p t)else if p.kind=2 then(s,bY p t)else if alk p t=Y then(s,Y)else mtL (p.kids.map mtR) t.kids s:=by
 unfold mtR;rw[T.para_eq]
def qmm(p:T):∀t s,mtR p t s=(s++(mtR p t []).1,(mtR p t []).2):=by
 induction p using T.ind with
 |h p i=>
   intro t s
   have e:∀(ps:aa T),(∀x∈ps,∀t s,mtR x t s=(s++(mtR x t []).1,(mtR x t []).2))->∀ts s,mtL (ps.map mtR) ts s=(s++(mtL (ps.map mtR) ts []).1,(mtL (ps.map mtR) ts []).2):=by
    intro ps
    induction ps with
    |nil=>intro _ ts s;simp[mtL]
    |cons x ps b=>
      intro c ts s;have g:=c x (aW ..);have d:=b λ y f=>c y (aS _ f);cases ts with
      |nil=>simp[mtL]
      |cons y ts=>
        rw[aZ,mtL,mtL,g y s];simp only;by_cases a:(mtR x y []).2=O
        .rw[ag a,ag a,d ts (s++_),d ts (mtR x y []).1,bE]
        .rw[af a,af a]
   rw[AH,AH];grind
def zW:∀(ps ts:aa T) (s:aa (T×T)),mtL (ps.map mtR) ts s=(s++(mtL (ps.map mtR) ts []).1,(mtL (ps.map mtR) ts []).2)
 |[],ts,s|x::ps,[],s=>by simp[mtL]
 |x::ps,y::ts,s=>by
   rw[aZ,mtL,mtL,qmm x y s];simp only;by_cases a:(mtR x y []).2=O
   .rw[ag a,ag a,zW ps ts (s++_),zW ps ts (mtR x y []).1,bE]
   .rw[af a,af a]
def Uz(p t:T)(hp:size p<=1000000000:=by omega)(ht:size t<=1000000000:=by omega):Ev (λ m _=>uF m p t) (pG p t):=by
 apply aJ;simp only[qgV,Jm,aH];unfold pG vL;apply ai (jG p hp);by_cases h1:aN p=0
 case neg=>exact aj (bnt.2 (aG.2 h1)) (ay (by simp[h1]))
 refine ak (bnf.2 (aI.2 h1)) (ai (jG t ht) ?_);by_cases h2:aN t=0
 case neg=>exact aj (bnt.2 (aG.2 h2)) (ay (by simp[h2]))
 apply ak (bnf.2 (aI.2 h2));by_cases h3:p.kind=1
 case neg=>exact aj (bnt.2 (aG.2 h3)) (ay (by simp[h3]))
 apply ak (bnf.2 (aI.2 h3));by_cases h4:p.sort=0
 ·exact aj (aI.2 h4) (ay (by simp[h1,h2,h3,h4]))
 apply ak (aG.2 h4);by_cases h5:t.kind=3
 ·exact ak (bnf.2 (aI.2 h5)) (ay (by simp[h4,h5]))
 ·refine aj (bnt.2 (aG.2 h5)) (ay ?_);grind [aI,aG]
def UB(p t:T):Ev (λ m _=>yZ m p t) (alk p t):=by
 apply aJ;simp only[qgi,Jd];unfold alk;by_cases h1:p.kind=3
 case neg=>exact ak (aG.2 h1) (ay (by simp[h1]))
 apply aj (aI.2 h1);by_cases h2:t.kind=3
 case neg=>exact ak (aG.2 h2) (ay (by simp[h2]))
 apply aj (aI.2 h2);by_cases h3:p.name=t.name
 case neg=>exact ak (cW.2 h3) (ay (by simp[h3]))
 refine aj (cF.2 h3) (ay ?_);grind [aI,aG]
def Aa(a b:T)(d:size a<=1000000000:=by omega)(c:size b<=1000000000:=by omega):Ev (λ m _=>pV m a b) (bY a b):=by
 apply aJ;simp only[qhc,Jr,aH];exact ai (oQ a d b c) (ay (GG a b))
def Aw(x:T):Ev (λ m _=>rG m x) (kOf x):=aJ (Bs (ap (kOf x)) λ _ _=>rfl)
def rN(x:T):Ev (λ m _=>rD m x) (ieq x.kind 1):=aJ (Bs (ap (ieq x.kind 1)) λ _ _=>rfl)
def SmK(n:Nat)(s:KM):Prop:=∀k v,bS eqK s k=Z v->size v<=n
def SmK.put{n:Nat}{s:KM}(h:SmK n s){t:T}(b:size t<=n)(k:aa aA×Int):SmK n (fQ eqK s k t):=λ c v a=>by
 rw[K6]at a;split at a
 .cases a;exact b
 .exact h _ _ a
def XA(n:Nat)(p:T):∀t s,SmK n s->size t<=n->SmK n (mtP p t s).1:=by
 induction p using T.ind with
 |h p j=>
   intro t s b g
   have c:∀(ps:aa T),(∀x∈ps,∀t s,SmK n s->size t<=n->SmK n (mtP x t s).1)->∀ts s,SmK n s->(∀y∈ts,size y<=n)->SmK n (mtL (ps.map mtP) ts s).1:=by
    intro ps
    induction ps with
    |nil=>intro _ ts s h _;simpa[mtL]using h
    |cons x ps d=>
      intro f ts s h a;cases ts with
      |nil=>simpa[mtL]using h
      |cons y ts=>
        have i:=f x (aW ..) y s h (a y (aW ..));rw[aZ,mtL];split
        .exact d (λ z e=>f z (aS _ e)) ts _ i λ z e=>a z (aS _ e)
        .exact i
   rw[MH];split
   .split
    .exact b
    .exact b.put g _
   .split
    .exact b
    .exact c p.kids j t.kids s b λ y k=>bR (qU (du t y k)) g
def Nd{p t:T}(h:alk p t=O):I p.kids=I t.kids:=(bH h).2.2.2
def qkR(p:T):∀t s,size p<=1000000->size t<=1000000->SmK 1000000 s->Ev (λ m _=>mR m p t s) (((mtP p t s).1,()),((mtP p t s).2,())):=by
 induction p using T.ind with
 |h p r=>
   intro t s H G c;apply aJ;simp only[qgf,C2,aH];rw[MH];apply ai (rN p);by_cases e:p.kind=1
   .rw[ag e];refine aj (aI.2 e) (ai (Aw p) ?_);show Ev (λ m _=>cond (lE eqK s (kOf p)) (ae (pV m (cX eqK (T.mk 0 [] 0 []) s (kOf p)) t) _) (ae (rG m p) _)) _;cases b:bS eqK s (kOf p)with
    |some u=>
      have e1:lE eqK s (kOf p)=O:=by unfold lE;rw[b];rfl
      have D:cX eqK (T.mk 0 [] 0 []) s (kOf p)=u:=by unfold cX;rw[b];rfl
      have:=c _ _ b;rw[D];exact aj e1 (ai (Aa u t) (ap _))
    |none=>
      have e1:lE eqK s (kOf p)=Y:=by unfold lE;rw[b];rfl
      exact ak e1 (ai (Aw p) (ai (Uz p t) (ap _)))
   .rw[af e];refine ak (aG.2 e) (ai (UB p t) ?_);cases C:alk p t with
    |false=>
      rw[ag rfl];exact aj rfl (ai (Aa p t) (ap _))
    |true=>
      rw[af (by decide)];apply ak rfl;have q:=Nd C;have v:=dK p
      have f:=bA (P:=λ i=>∀s,SmK 1000000 s->Ev (λ m k=>wH m (mR m) k (I p.kids) i s p.kind p.name p.sort p.kids t.kind t.name t.sort t.kids) (((mtL ((p.kids.drop i).map mtP) (t.kids.drop i) s).1,()),((mtL ((p.kids.drop i).map mtP) (t.kids.drop i) s).2,()))) p.kids (by omega)
       (λ l s _=>by
        apply aF;simp only[QN,C5];apply ak l;rw[ej];exact ay (by simp[mtL]))
       (λ i x n A l b z B s c=>by
        apply aF;simp only[QN,C5,aH];have w:=getElem?_lt n;obtain⟨y,d⟩:∃y,t.kids[i]?=Z y:=⟨_,aV (by omega)⟩
        have o:=aP n;have g:=aP d;have F:=du p x o;have E:=du t y g
        have j:t.kids.drop i=y::t.kids.drop (i+1):=by
         rw[Pl (by omega)];rw[aV (by omega)]at d;rw[kO d]
        refine aj l (aw b (aw (a:=y) (by rw[fJ];exact d) (ai (r x o y s (by omega) (by omega) c) ?_)));rw[A,j,aZ,mtL];cases K:(mtP x y s).2 with
        |false=>rw[af (by decide)];exact aj rfl (ap _)
        |true=>
          rw[ag rfl];apply ak rfl;rw[z];exact B _ (XA 1000000 x y s c (by omega)))
      have:=f 0 (aL _) s c;grind [Ev.diag]
def qoz{x y:Int}(h:thn x y=0):x=0/\y=0:=by
 unfold thn at h;by_cases a:x=0
 .rw[ag a]at h;exact⟨a,h⟩
 .rw[af a]at h;exact absurd h a
def wM:∀(l:aa Int) (x:Int),l.foldl thn x=0->x=0/\∀y∈l,y=0
 |[],x,h=>⟨h,by simp⟩
 |y::l,x,h=>by
   let⟨f,d⟩:=wM l (thn x y) h;let⟨c,b⟩:=qoz f;exact⟨c,λ z a=>(bi.1 a).elim (λ e=>e▸b) (d z)⟩
def dt{t:T}(h:aN t=0):cn t=0/\size t<=400/\bU t<=40:=by
 unfold aN at h;by_cases a:cn t=0
 .rw[af (λ g=>g a)]at h;by_cases b:400<size t\/40<bU t
  .rw[ag b]at h;cases h
  .exact⟨a,by omega,by omega⟩
 .rw[ag a]at h;exact absurd h a
theorem qd{t k:T}(h:aN t=0)(c:k∈t.kids):aN k=0:=by
 let⟨d,o,n⟩:=dt h;rw[nY]at d;have i:=(wM _ _ d).2 _ (eF c);have m:=du t k c
 have j:bU k<=bU t:=by
  rw[jq t]
  have:∀(l:aa Nat) (a x:Nat),x∈l->x<=l.foldl max a:=by
   intro l
   induction l with
   |nil=>intro a x b;cases b
   |cons y l e=>
     intro a x b;obtain rfl|b:=bi.1 b
     .exact bR (OW a x) (Rc l _)
     .exact e _ x b
  have:=this _ 0 _ (eF (f:=bU) c);omega
 unfold aN;rw[af (λ g=>g i),ifN]
def nX{t:T}(h:aN t=0):((t.kind=1\/t.kind=2)/\t.kids=[])\/t.kind=3:=by
 have d:=(dt h).1;rw[nY]at d;have a:=(wM _ _ d).1;unfold de iY at a;by_cases c:t.kind=1\/t.kind=2
 .rw[ag c]at a;by_cases b:t.sort<0\/5<t.sort\/0<I t.kids
  .rw[ag b]at a;cases a
  .exact .inl ⟨c,cJ (by omega)⟩
 .rw[af c]at a;by_cases b:t.kind=3
  .exact .inr b
  .rw[af b]at a;cases a
def Ko{t:T}(h:aN t=0)(e:t.kind=1):0<=t.sort/\t.sort<=5/\I t.name<=24:=by
 have d:=(dt h).1;rw[nY]at d;have a:=(wM _ _ d).1;unfold de iY at a;rw[ag (.inl e)]at a;by_cases c:t.sort<0\/5<t.sort\/0<I t.kids
 .rw[ag c]at a;cases a
 .rw[af c]at a;cases b:dL t.name with
  |false=>rw[b]at a;cases a
  |true=>
    unfold dL at b;simp only[aK,cC]at b;exact⟨by omega,by omega,b.1.1.2⟩
def qI(so:Int)(v:T):Prop:=so=0\/(v.kind≠3/\v.sort=so)
def Hs(s:KM):Prop:=∀k v,bS eqK s k=Z v->qI k.2 v
def gf:aa (T×T)->KM->KM×Bool
 |[],s=>(s,O)
 |a::l,s=>match bS eqK s (kOf a.1)with
   |Z v=>if v=a.2 then gf l s else(s,Y)
   |U=>gf l (fQ eqK s (kOf a.1) a.2)
def Lj:∀(a b:aa (T×T)) (s:KM),gf (a++b) s=if(gf a s).2=O then gf b (gf a s).1 else gf a s
 |[],b,s=>rfl
 |x::a,b,s=>by
   rw[ZL,gf,gf];cases bS eqK s (kOf x.1)with
   |some v=>
     simp only;by_cases h:v=x.2
     .rw[ag h,ag h];exact Lj a b s
     .rw[af h,af h];rfl
   |none=>exact Lj a b _
def Zc(p:T):Prop:=∀t s,aN p=0->aN t=0->Hs s->
 ((mtP p t s).2=O↔(mtR p t []).2=O/\(gf (mtR p t []).1 s).2=O)/\((mtP p t s).2=O->(mtP p t s).1=(gf (mtR p t []).1 s).1/\Hs (mtP p t s).1)
def Yt:∀(ps:aa T),(∀x∈ps,Zc x)->(∀x∈ps,aN x=0)->∀(ts:aa T),(∀y∈ts,aN y=0)->∀s,Hs s->
  ((mtL (ps.map mtP) ts s).2=O↔(mtL (ps.map mtR) ts []).2=O/\(gf (mtL (ps.map mtR) ts []).1 s).2=O)/\((mtL (ps.map mtP) ts s).2=O->(mtL (ps.map mtP) ts s).1=(gf (mtL (ps.map mtR) ts []).1 s).1/\Hs (mtL (ps.map mtP) ts s).1)
 |[],_,_,ts,_,s,c|x::ps,_,_,[],_,s,c=>by simp[mtL,gf,c]
 |x::ps,i,j,y::ts,g,s,c=>by
   let⟨f,l⟩:=i x (aW ..) y s (j x (aW ..)) (g y (aW ..)) c;have k:=Yt ps (λ z b=>i z (aS _ b)) (λ z b=>j z (aS _ b)) ts λ z b=>g z (aS _ b);rw[aZ,aZ,mtL,mtL];by_cases e:(mtR x y []).2=O
   .rw[ag e,zW];simp only[Lj];by_cases d:(gf (mtR x y []).1 s).2=O
    .rw[ag d];have a:=f.2 ⟨e,d⟩;let⟨n,m⟩:=l a;rw[ag a,<-n];exact k (mtP x y s).1 m
    .rw[af d];have a:¬ (mtP x y s).2=O:=λ h=>d (f.1 h).2;rw[af a];exact⟨⟨λ h=>absurd h mK,λ h=>absurd h.2 d⟩,λ h=>absurd h mK⟩
   .have a:¬ (mtP x y s).2=O:=λ h=>e (f.1 h).1;rw[af e,af a];exact⟨⟨λ h=>absurd h mK,λ h=>absurd h.1 mK⟩,λ h=>absurd h mK⟩
def qmu(p:T):Zc p:=by
 induction p using T.ind with
 |h p m=>
   intro t s g i b;rw[MH,AH];by_cases c:p.kind=1
   .have r:pG p t=vL p t:=by unfold pG;rw[cO ⟨g,i,c⟩,ei]
    rw[ag c,ag c];simp only[fS,gf];cases q:bS eqK s (kOf p)with
    |some u=>
      simp only;by_cases f:u=t
      .subst f;have:vL p u=O:=cO (b _ _ q);simp[iy.2 rfl,this,b]
      .have:bY u t=Y:=tw.2 λ h=>f (iy.1 h);simp[f,this]
    |none=>
      simp only;rw[r];refine⟨⟨λ h=>⟨h,trivial⟩,λ h=>h.1⟩,λ h=>⟨trivial,λ k v d=>?_⟩⟩;rw[K6]at d;split at d
      .next e=>cases d;subst e;have z:p.sort=0\/(t.kind≠3/\t.sort=p.sort):=bH h;exact z
      .exact b _ _ d
   .rw[af c,af c];by_cases l:p.kind=2
    .have a:alk p t=Y:=gj λ h=>by have:=h.1;omega
     rw[ag l,ag a];simp[gf,b]
    .rw[af l];by_cases a:alk p t=Y
     .have j:p.kind=3:=(nX g).elim (λ h=>absurd h.1 (by omega)) id
      have w:bY p t=Y:=tw.2 λ h=>by
       have:=iy.1 h;subst this;exact ZT a ⟨j,j,rfl,rfl⟩
      rw[ag a,ag a];simp[w]
     .rw[af a,af a];exact Yt p.kids m (λ x o=>qd g o) t.kids (λ y n=>qd i n) s b
def Wt(p:T):∀t,aN p=0->(mtR p t []).2=O->(mtR p t []).1.map Prod.fst=be 1 p:=by
 induction p using T.ind with
 |h p n=>
   intro t k a;rw[AH]at a |-
   rw[gU];by_cases f:p.kind=1
   .have e:p.kids=[]:=(nX k).elim (λ h=>h.2) λ h=>by omega
    rw[ag f,ag f,e];rfl
   .rw[af f]at a |-
    rw[af f,fS];by_cases e:p.kind=2
    .have b:p.kids=[]:=(nX k).elim (λ h=>h.2) λ h=>by omega
     rw[ag e,b];rfl
    .rw[af e]at a |-
     by_cases b:alk p t=Y
     .rw[ag b]at a;cases a
     .rw[af b]at a |-
      have d:=Nd (by simpa using b)
      have g:∀(ps:aa T),(∀x∈ps,∀t,aN x=0->(mtR x t []).2=O->(mtR x t []).1.map Prod.fst=be 1 x)->(∀x∈ps,aN x=0)->∀ts:aa T,I ps=I ts->(mtL (ps.map mtR) ts []).2=O->(mtL (ps.map mtR) ts []).1.map Prod.fst=(ps.map (be 1)).flatten:=by
       intro ps
       induction ps with
       |nil=>intro _ _ ts _ _;simp[mtL]
       |cons x ps i=>
         intro c m ts d a;cases ts with
         |nil=>cases d
         |cons y ts=>
           rw[aZ,mtL]at a |-
           by_cases l:(mtR x y []).2=O
           .rw[ag l,zW]at a |-
            rw[ft,aZ,O3,c x (aW ..) y (m x (aW ..)) l];rw[i (λ z j=>c z (aS _ j)) (λ z j=>m z (aS _ j)) ts (by simpa using d) a]
           .rw[af l]at a;cases a
      exact g p.kids n (λ x c=>qd k c) t.kids d a
def qb{p:T}:aN p=0->∀x∈be 1 p,x.kind=1/\x.kids=[]:=by
 induction p using T.ind with
 |h p d=>
   intro b x a;rw[gU,bc]at a;obtain a|a:=a
   .split at a
    .next f=>rw[bW]at a;subst a;exact⟨f,(nX b).elim (λ h=>h.2) λ h=>by omega⟩
    .cases a
   .let⟨l,e,a⟩:=jB.1 a;obtain⟨k,c,rfl⟩:=bu.1 e;exact d k c (qd b c) x a
def LW{x y:T}(b:x.kind=1/\x.kids=[])(a:y.kind=1/\y.kids=[])(h:kOf x=kOf y):x=y:=by
 cases x;cases y;obtain⟨rfl,rfl⟩:=b;obtain⟨rfl,rfl⟩:=a;cases h;rfl
def lkA(l:aa (T×T))(x:T):ac T:=(l.find? λ a=>bY a.1 x).map Prod.snd
def xh(a:T×T)(l:aa (T×T))(x:T):lkA (a::l) x=if a.1=x then Z a.2 else lkA l x:=by
 unfold lkA;rw[ZV];by_cases h:a.1=x
 .rw[iy.2 h,ag h];rfl
 .rw[show bY a.1 x=Y from tw.2 λ g=>h (iy.1 g),af h]
def Wb:∀(l:aa (T×T)),(∀a∈l,a.1.kind=1/\a.1.kids=[])->∀s:KM,
  ((gf l s).2=O↔(∀a∈l,∀v,bS eqK s (kOf a.1)=Z v->v=a.2)/\l.Pairwise λ a b=>a.1=b.1->a.2=b.2)
  /\ ((gf l s).2=O->∀x:T,x.kind=1/\x.kids=[]->bS eqK (gf l s).1 (kOf x)=match bS eqK s (kOf x)with|some v=>Z v|none=>lkA l x)
 |[],_,s=>by
   refine⟨by simp[gf],λ _ x _=>?_⟩;show bS eqK s (kOf x)=_;cases bS eqK s (kOf x)<;>rfl
 |a::l,n,s=>by
   have u:=n a (aW ..);have t:=Wb l λ b c=>n b (aS _ c);rw[gf];cases f:bS eqK s (kOf a.1)with
   |some v=>
     simp only;by_cases h:v=a.2
     .rw[ag h];let⟨q,p⟩:=t s;refine⟨q.trans ⟨λ⟨i,j⟩=>⟨λ b c w d=>?_,yy.2 ⟨λ b c e=>?_,j⟩⟩,λ⟨i,j⟩=>⟨λ b c=>i b (aS _ c),(yy.1 j).2⟩⟩,λ k x m=>?_⟩
      .obtain rfl|c:=bi.1 c
       .rw[f]at d;cases d;exact h
       .exact i b c w d
      .have:=i b c v (by rw[<-e];exact f);rw[<-h,this]
      .rw[p k x m,xh];cases r:bS eqK s (kOf x)with
       |some w=>rfl
       |none=>rw[af (λ e=>by rw[e,r]at f;cases f)]
     .rw[af h];exact⟨⟨λ g=>absurd g mK,λ g=>absurd (g.1 a (aW ..) v f) h⟩,λ g=>absurd g mK⟩
   |none=>
     simp only;let⟨q,p⟩:=t (fQ eqK s (kOf a.1) a.2)
     have o:∀x:T,x.kind=1/\x.kids=[]->bS eqK (fQ eqK s (kOf a.1) a.2) (kOf x)=if a.1=x then Z a.2 else bS eqK s (kOf x):=λ x m=>by
      rw[K6];by_cases e:a.1=x
      .rw[ag e,ag (by rw[e])]
      .rw[af e,af λ g=>e (LW u m g.symm)]
     refine⟨q.trans ⟨λ⟨i,j⟩=>⟨λ b c w d=>?_,yy.2 ⟨λ b c e=>?_,j⟩⟩,λ⟨i,j⟩=>⟨λ b c w d=>?_,(yy.1 j).2⟩⟩,λ k x m=>?_⟩
     .obtain rfl|c:=bi.1 c
      .rw[f]at d;cases d
      .apply i b c w;rw[o _ (n b (aS _ c)),af λ e=>by rw[e,d]at f;cases f];exact d
     .exact i b c a.2 (by rw[o _ (n b (aS _ c)),ag e])
     .rw[o _ (n b (aS _ c))]at d;split at d
      .next e=>cases d;exact(yy.1 j).1 b c e
      .exact i b (aS _ c) w d
     .rw[p k x m,o x m,xh];by_cases e:a.1=x
      .rw[ag e,ag e,<-e,f]
      .rw[af e,af e]
def qlg{l:aa (T×T)}{x:T}(h:x∈l.map Prod.fst):∃u,lkA l x=Z u:=by
 induction l with
 |nil=>cases h
 |cons a l b=>
   rw[xh];by_cases e:a.1=x
   .exact⟨_,ag e⟩
   .rw[af e];obtain h|h:=bi.1 h
    .exact absurd h.symm e
    .exact b h
def sub(θ:T->T):T->T:=T.para λ t a=>if t.kind=1 then θ t else .mk t.kind t.name t.sort a
def fW(θ:T->T)(t:T):sub θ t=if t.kind=1 then θ t else .mk t.kind t.name t.sort (t.kids.map (sub θ)):=T.para_eq _ _
def qmI{θ b:T->T}(t:T):(∀x∈be 1 t,θ x=b x)->sub θ t=sub b t:=by
 induction t using T.ind with
 |h t d=>
   intro h;rw[fW,fW];rw[gU]at h;by_cases a:t.kind=1
   .rw[ag a,ag a];exact h t (by rw[ag a];simp)
   .rw[af a,af a];rw[af a,fS]at h;congr 1;exact mL λ k c=>d k c λ x e=>h x (jB.2 ⟨_,eF c,e⟩)
def xG{t x:T}:x∈be 1 t->x.kind=1:=λ h=>bH (jQ.1 h).2
def xc{t k:T}(h:cn t=0)(a:k∈t.kids):cn k=0:=by
 rw[nY]at h;exact(wM _ _ h).2 _ (eF a)
def VN{t:T}(h:de t=0)(e:∀k∈t.kids,cn k=0):cn t=0:=by
 rw[nY,h]
 have:∀l:aa Int,(∀x∈l,x=0)->l.foldl thn 0=0:=by
  intro l
  induction l with
  |nil=>intro _;rfl
  |cons x l c=>intro a;rw[jy,a x (aW ..)];exact c λ y d=>a y (aS _ d)
 refine this _ λ x a=>?_;obtain⟨k,b,rfl⟩:=bu.1 a;exact e k b
def EJ{t:T}(h:cn t=0):de t=0:=by
 rw[nY]at h;exact(wM _ _ h).1
def EL{t:T}(h:cn t=0):((t.kind=1\/t.kind=2)/\t.kids=[])\/t.kind=3:=by
 have a:=EJ h;unfold de iY at a;by_cases c:t.kind=1\/t.kind=2
 .rw[ag c]at a;by_cases b:t.sort<0\/5<t.sort\/0<I t.kids
  .rw[ag b]at a;cases a
  .exact .inl ⟨c,cJ (by omega)⟩
 .rw[af c]at a;by_cases b:t.kind=3
  .exact .inr b
  .rw[af b]at a;cases a
def Kr{θ:T->T}(t:T):cn t=0->(∀x∈be 1 t,cn (θ x)=0)->cn (sub θ t)=0:=by
 induction t using T.ind with
 |h t f=>
   intro h a;rw[fW];rw[gU]at a;by_cases b:t.kind=1
   .rw[ag b];exact a t (by rw[ag b];simp)
   .rw[af b];rw[af b,fS]at a;refine VN ?_ λ k g=>?_
    .have:=EJ h;unfold de at this |-
     show iY t.kind t.sort (I (t.kids.map (sub θ))) (dL t.name)=0;rw[ce];exact this
    .obtain⟨c,e,rfl⟩:=bu.1 g;exact f c e (xc h e) λ x d=>a x (jB.2 ⟨_,eF e,d⟩)
def KP{t:T}(a:cn t=0)(c:size t<=400:=by omega)(b:bU t<=40:=by omega):aN t=0:=by
 unfold aN;rw[af (λ g=>g a),ifN]
def XU{f g:T->Nat}:∀l:aa T,(∀k∈l,f k<=g k)->(l.map f).sum<=(l.map g).sum
 |[],_=>al 0
 |x::l,h=>Nat.add_le_add (h x (aW ..)) (XU l λ k a=>h k (aS _ a))
def max_le{f g:T->Nat}:∀(l:aa T) (a b:Nat),a<=b->(∀k∈l,f k<=g k)->(l.map f).foldl max a<=(l.map g).foldl max b
 |[],_,_,h,_=>h
 |x::l,a,b,h,c=>max_le l _ _ (by have:=c x (aW ..);omega) λ k d=>c k (aS _ d)
def UL(θ:T->T)(t:T):cn t=0->size t<=size (sub θ t)/\bU t<=bU (sub θ t):=by
 induction t using T.ind with
 |h t b=>
   intro h;rw[fW];by_cases d:t.kind=1
   .have c:t.kids=[]:=(EL h).elim (λ h=>h.2) λ h=>by omega
    rw[ag d,bX,jq,c];have:=size_pos (θ t);have e:1<=bU (θ t):=by rw[jq];omega
    exact⟨this,e⟩
   .rw[af d,bX,jq,bX (.mk ..),jq (.mk ..)];show 1+(t.kids.map size).sum<=1+((t.kids.map (sub θ)).map size).sum/\(t.kids.map bU).foldl max 0+1<=((t.kids.map (sub θ)).map bU).foldl max 0+1;rw[iu,iu];have c:=XU (f:=size) (g:=size ∘ sub θ) t.kids λ k a=>(b k a (xc h a)).1;have i:=max_le (f:=bU) (g:=bU ∘ sub θ) t.kids 0 0 (al _) λ k a=>(b k a (xc h a)).2;omega
def cR(v t x:T):T:=if x=v then t else x
def FJ(θ b c:T->T)(t:T):(∀x∈be 1 t,sub θ (b x)=c x)->sub θ (sub b t)=sub c t:=by
 induction t using T.ind with
 |h t e=>
   intro h;rw[gU]at h;rw[fW b,fW c t];by_cases a:t.kind=1
   .rw[ag a,ag a];exact h t (by rw[ag a];simp)
   .rw[af a,af a];rw[af a,fS]at h;rw[fW,af (show ¬ (T.mk t.kind t.name t.sort (t.kids.map (sub b))).kind=1 from a)];show T.mk t.kind t.name t.sort ((t.kids.map (sub b)).map (sub θ))=_;rw[iu];congr 1;exact mL λ k d=>e k d λ x f=>h x (jB.2 ⟨_,eF d,f⟩)
def qh{θ:T->T}{x:T}(h:x.kind=1):sub θ x=θ x:=by rw[fW,ag h]
def zo{x:T}(h:x.kind=1):x∈be 1 x:=by rw[gU,ag h];simp
def KG{θ:T->T}{y:T}(t:T):y∈be 1 (sub θ t)->∃x∈be 1 t,y∈be 1 (θ x):=by
 induction t using T.ind with
 |h t e=>
   intro h;rw[fW]at h;by_cases a:t.kind=1
   .rw[ag a]at h;exact⟨t,zo a,h⟩
   .rw[af a,gU,af (show ¬ (T.mk t.kind t.name t.sort (t.kids.map (sub θ))).kind=1 from a),fS]at h;let⟨l,i,f⟩:=jB.1 h;obtain⟨j,c,rfl⟩:=bu.1 i;obtain⟨k,d,rfl⟩:=bu.1 c;let⟨x,g,b⟩:=e k d f;exact⟨x,by rw[gU];exact yt _ (jB.2 ⟨_,eF d,g⟩),b⟩
def qij{θ:T->T}{x:T}(t:T):cn t=0->x∈be 1 t->size (θ x)<=size (sub θ t)/\(t.kind≠1->size (θ x)<size (sub θ t)):=by
 induction t using T.ind with
 |h t d=>
   intro c h;rw[gU]at h;rw[fW];by_cases a:t.kind=1
   .have i:t.kids=[]:=(EL c).elim (λ h=>h.2) λ h=>by omega
    rw[ag a]at h |-
    rw[i]at h;obtain h|h:=bc.1 h
    .rw[bW.1 h];exact⟨al _,λ g=>absurd a g⟩
    .cases h
   .rw[af a,fS]at h;rw[af a];let⟨l,f,e⟩:=jB.1 h;obtain⟨k,b,rfl⟩:=bu.1 f;have m:=(d k b (xc c b) e).1;have j:=du (T.mk t.kind t.name t.sort (t.kids.map (sub θ))) (sub θ k) (eF b);exact⟨by omega,λ _=>by omega⟩
def qmA(n:aa aA):Ev (λ m _=>CF m n) (qK n):=by
 apply aJ;simp only[qcf,IF];have a:qK n=O->Ev (λ _ _=>Z O) (qK n):=λ h=>ay h.symm;refine am (λ h=>a (oy (cF.1 h) (by decide))) λ f=>?_;refine am (λ h=>a (oy (cF.1 h) (by decide))) λ e=>?_;refine am (λ h=>a (oy (cF.1 h) (by decide))) λ d=>?_;refine am (λ h=>a (oy (cF.1 h) (by decide))) λ c=>?_;refine am (λ h=>a (oy (cF.1 h) (by decide))) λ b=>?_;apply ay;rw[XJ (cW.1 f) (cW.1 e) (cW.1 d) (cW.1 c) (cW.1 b)];rfl
def qlq(n:aa aA):Ev (λ m _=>DG m n) (pFr n):=by
 apply aJ;simp only[qdH,IN];have a:qK n=O->Ev (λ _ _=>Z Y) (pFr n):=λ h=>ay (by unfold pFr;rw[h];rfl);refine am (λ h=>a (oy (cF.1 h) (by decide))) λ g=>?_;refine am (λ h=>a (oy (cF.1 h) (by decide))) λ f=>?_;refine am (λ h=>a (oy (cF.1 h) (by decide))) λ e=>?_;refine am (λ h=>a (oy (cF.1 h) (by decide))) λ d=>?_;refine am (λ h=>a (oy (cF.1 h) (by decide))) λ c=>?_;refine am (λ h=>a (oy (cF.1 h) (by decide))) λ b=>?_;refine ai (Ki n) (ay ?_);unfold pFr pPl;rw[XJ (cW.1 g) (cW.1 f) (cW.1 e) (cW.1 d) (cW.1 c),show(n==kJ)=Y from gG.2 (cW.1 b),<-FZ];rfl
def qko(t:T):size t<=1000000000->Ev (λ m _=>kT m t) (ll pFr t):=by
 induction t using T.ind with
 |h t j=>
   intro r;have s:=dK t;apply aJ;simp only[qa9,BF]
   have d:=bA (P:=λ i=>Ev (λ m k=>qY m (kT m) k t.kids (I t.kids) i) (((t.kids.drop i).map (ll pFr)).all id)) t.kids (by omega)
    (λ f=>by
     apply aF;simp only[PD,BE];refine ak f (ay ?_);rw[ej];rfl)
    (λ i x l p f o n q=>by
     apply aF;simp only[PD,BE,aH];have g:=aP l;have u:=du t x g;rw[p,aZ,fm];refine aj f (aw o (ai (j x g (by omega)) (am (λ b=>?_) λ b=>?_)))
     .rw[bnt]at b;rw[b];exact ap _
     .rw[bnf]at b;rw[b,n];exact q)
   have a:Ev (λ m _=>qY m (kT m) m t.kids (I t.kids) 0) ((t.kids.map (ll pFr)).all id):=
    bj (L:=λ m k=>qY m (kT m) k t.kids (I t.kids) 0) ((d 0 (aL _)).res (by rw[dl]))
   rw[Fg];refine am (λ c=>?_) λ c=>?_
   .rw[aI]at c;have e:(!(t.kind==3))=Y:=by rw[c];rfl
    rw[e,pM];refine ai (qlq t.name) (am (λ h=>?_) λ h=>?_)
    .rw[bnt]at h;rw[h];exact ap _
    .rw[bnf]at h;rw[h];exact a
   .rw[aG]at c;have e:(!(t.kind==3))=O:=by rw[fF,gG];exact c
    rw[e,nO];exact a
def qlG(t:T)(a:size t<=1000000000):Ev (λ m _=>Et m t) (nh t):=by
 apply aJ;simp only[qfX,I9,aH];unfold nh;refine ai (Mb t a) (am (λ h=>?_) λ h=>?_)
 .rw[aI]at h;rw[cO h,ei];exact ai (qko t a) (ap _)
 .rw[aG]at h;rw[gj h,jz];exact ap _
def Ve(t:T)(n:size t<=1000000000:=by omega):Ev (λ m _=>zr m t) (nh t):=by
 apply aJ;simp only[qgq,Du,aH];unfold nh;refine ai (LY t n) (am (λ h=>?_) λ h=>?_)
 .rw[bnt,aG]at h;rw[gj h,jz];exact ap _
 rw[bnf,aI]at h;rw[cO h,ei,<-R7];apply ai (L1 t n);have p:=zU t;generalize eD t=l at*
 have c:=bA (P:=λ i=>Ev (λ m k=>uo m k l i) ((l.drop i).all λ u => !(u.kind==3)||pFr u.name)) l (by omega)
  (λ f=>by
   apply aF;simp only[QT,DE];refine ak f (ay ?_);rw[ej];rfl)
  (λ i x r q f e o j=>by
   apply aF;simp only[QT,DE];rw[q,fm];refine aj f (aw e (am (λ b=>?_) λ b=>?_))
   .rw[aI]at b;have d:(!(x.kind==3))=Y:=by rw[b];rfl
    rw[d,pM];unfold pFr at j |-
    refine aw e (ai (qmA x.name) (am (λ g=>?_) λ g=>?_))
    .rw[g];exact ap _
    rw[g];refine aw e (ai (Gn x.name) (am (λ a=>?_) λ a=>?_))
    .unfold pPl;rw[a];exact ap _
    .rw[o];apply j.res;have:pPl x.name=O:=by unfold pPl;rw[a];rfl
     rw[this];rfl
   .rw[aG]at b;have d:(!(x.kind==3))=O:=by rw[fF,gG];exact b
    rw[d,nO,o,ei];exact j)
 apply bj (L:=λ m k=>uo m k l 0);exact(c 0 (aL _)).res (by rw[dl])
section
open Lib
def qjN(t:T):pv t->∀a:Int,-1000000000<=a->a<=1000000000->Ev (λ m _=>lR m t a) (gC t a):=by
 induction t using T.ind with
 |h t j=>
   intro p a d c;let⟨u,v,s⟩:=(We t).1 p;apply aJ;simp only[qd9,CW];rw[Wc];refine am (λ h=>?_) λ h=>?_
   .rw[lq]at h;exact ay (by rw[ag (.inl h)])
   rw[pj]at h;refine am (λ f=>?_) λ f=>?_
   .rw[bf]at f;exact ay (by rw[ag (.inr (by omega))])
   rw[bg]at f;rw[ifN,show cr a 1=a-1 from rfl,eR]
   have b:=bA (P:=λ i=>∀a:Int,0<=a->a<=1000000000->Ev (λ m k=>tU m (lR m) k a i t.kind t.name t.sort t.kids) (oI ((t.kids.drop i).map gC) a)) t.kids u
    (λ e a _ _=>by
     apply aF;simp only[Qx,Cu];apply ak e;rw[ej];exact ap _)
    (λ i x l q e o n r a d c=>by
     apply aF;simp only[Qx,Cu,aH];have g:=aP l;refine aj e (aw o (ai (j x g (s x g) a (by omega) (by omega)) ?_));rw[q,aZ,oI,n];have:=KA x a;refine am (λ h=>?_) λ h=>?_
     .rw[bf]at h;exact ay (by rw[ag h])
     .rw[bg]at h;rw[ifN];exact r _ (by omega) (by omega))
   apply bj (L:=λ m k=>tU m (lR m) k (a-1) 0 t.kind t.name t.sort t.kids);exact(b 0 (aL _) (a-1) (by omega) (by omega)).res (by rw[dl])
def qnZ(l:aa T)(j:I l<2^62)(q:∀t∈l,pv t)(n:Nat)(a:Int)(c:0<=a)(b:a<=1000000000):Ev (λ m _=>Fs m l n a) (J (I l<=n)&&qG l a):=by
 apply aJ;simp only[qhD,D7];refine am (λ h=>?_) λ h=>?_
 .rw[bf]at h;exact ay (by rw[gj (by omega)];rfl)
 rw[bg]at h;rw[cO (by omega),ei]
 have d:=bA (P:=λ i=>∀a:Int,0<=a->a<=1000000000->Ev (λ m k=>uB m k l a i) (qG (l.drop i) a)) l j
  (λ e a _ _=>by
   apply aF;simp only[Rh,D1];apply ak e;rw[ej];exact ap _)
  (λ i x f r e p o s a c b=>by
   apply aF;simp only[Rh,D1,aH];have g:=aP f;refine aj e (aw p (ai (qjN x (q x g) a (by omega) (by omega)) ?_));rw[r,qG,o];have:=KA x a;refine am (λ h=>?_) λ h=>?_
   .rw[bf]at h;exact ay (by rw[ag h])
   .rw[bg]at h;rw[ifN];exact s _ (by omega) (by omega))
 apply bj (L:=λ m k=>uB m k l a 0);exact(d 0 (aL _) a c b).res (by rw[dl])
end
def qkM(l:aa T)(a:I l<2^62)(b:∀t∈l,pv t):Ev (λ m _=>Ft m l) (J (I l<=20)&&qG l 450):=by
 apply aJ;simp only[qhH,JE];exact ai (qnZ l a b 20 450 (by decide) (by decide)) (ap _)
def mw(p:T):Int:=if fZ p≠0 then fZ p else if nh p=Y then 10 else 0
def XP(p:T)(a:size p<=1000000000:=by omega):Ev (λ m _=>yJ m p) (mw p):=by
 apply aJ;simp only[qbI,IB,aH];unfold mw;apply ai (Mb p a);by_cases h:fZ p=0
 .rw[af (λ g=>g h)];refine ak (bnf.2 (aI.2 h)) (ai (qlG p a) ?_);cases nh p with
  |true=>exact ak rfl (ap _)
  |false=>exact aj rfl (ap _)
 .rw[ag h];exact aj (bnt.2 (aG.2 h)) (ap _)
def Mq{p:T}(h:mw p=0):fZ p=0/\nh p=O:=by
 unfold mw at h;by_cases g:fZ p=0
 .refine⟨g,?_⟩;rw[af (λ e=>e g)]at h;cases a:nh p with
  |true=>rfl
  |false=>rw[a,ag rfl]at h;cases h
 .rw[ag g]at h;exact absurd h g
def yg:aa T->Int
 |[]=>0
 |t::l=>if mw t=0 then yg l else mw t
def Hb(l:aa T):Int:=if 200<I l then 3 else yg l
def WR:∀{l:aa T},(∀t∈l,mw t=0)->yg l=0
 |[],_=>rfl
 |t::l,h=>by rw[yg,ag (h t (aW ..))];exact WR λ x a=>h x (aS _ a)
def qno(l:aa T)(d:∀t∈l,size t<=1000000000)(o:I l<=1000000):Ev (λ m _=>Ca m l) (Hb l):=by
 apply aJ;simp only[qbp,BJ];unfold Hb;by_cases h:200<I l
 .rw[ag h];exact aj (bf.2 (by omega)) (ap _)
 rw[af h];apply ak (bg.2 (by omega))
 have a:=bA (P:=λ i=>Ev (λ m k=>tG m k l (I l) i) (yg (l.drop i))) l (by omega)
  (λ b=>by
   apply aF;simp only[PJ,BI];apply ak b;rw[ej];exact ap _)
  (λ i x c j b f e n=>by
   apply aF;simp only[PJ,BI,aH];refine aj b (aw f (ai (XP x (d x (aP c))) ?_));rw[j,yg,e];by_cases g:mw x=0
   .rw[ag g];exact ak (bnf.2 (aI.2 g)) n
   .rw[af g];exact aj (bnt.2 (aG.2 g)) (ap _))
 exact bj (L:=λ m k=>tG m k l (I l) 0) (a 0 (aL _))
def qkr(n:Nat):wQ (n+3000)=Z O:=by kernel_rfl
def SJ:Ev (λ m _=>wQ m) O:=⟨3000,λ m k a _=>by
 obtain⟨n,rfl⟩:∃n,m=n+3000:=⟨m-3000,by omega⟩
 exact qkr n⟩
def L8{a b:aa aA}(h:I a+I b<1000000000000:=by omega):nl a b=O:=by
 unfold nl;exact tv (by omega)
def Lh:∀f u,I (lG f u)<=f
 |0,_=>al 0
 |f+1,u=>by
   rw[lG];split
   .exact qV (aL f)
   .rw[aU];have:=Lh f (u/10);simp only[bG,fE];omega
def Km(n:Int):I (gK n)<=21:=by
 unfold gK;split
 .have:=Lh 20 n.natAbs;rw[bG];omega
 .have:=Lh 20 n.toNat;omega
def LU(n:Int)(b:0<=n:=by omega)(a:n<=1000000000:=by omega):Ev (λ _ _=>strconv_Itoa 0 n) (gK n):=by
 unfold strconv_Itoa;exact aj (lq.2 (by omega)) (aj (lq.2 (by omega)) (ap _))
theorem nv(t:T):T.mk t.kind t.name t.sort t.kids=t:=by cases t;rfl
def oM(x:T):T->Bool:=T.para λ t rs=>bY x t||rs.any id
def WW(x t:T):oM x t=(bY x t||(t.kids.map (oM x)).any id):=T.para_eq _ _
def Ut{x:T}(d:x.kind=1)(t:T):oM x t=O↔x∈be 1 t:=by
 induction t using T.ind with
 |h t c=>
   rw[WW,gU,gR,iy,bc,List.any_map,Ia];constructor
   .rintro(rfl|⟨k,a,h⟩)
    .rw[ag d];exact .inl (bW.2 rfl)
    .exact .inr (jB.2 ⟨_,eF a,(c k a).1 h⟩)
   .rintro(h|h)
    .split at h
     .exact .inl (bW.1 h)
     .cases h
    .let⟨l,e,b⟩:=jB.1 h;obtain⟨k,a,rfl⟩:=bu.1 e;exact .inr ⟨k,a,(c k a).2 b⟩
def qj8(x:T)(v:size x<=1000000)(t:T):size t<=1000000->Ev (λ m _=>iR m x t) (oM x t):=by
 induction t using T.ind with
 |h t o=>
   intro w;have q:=dK t;apply aJ;simp only[qeU,I1,aH];rw[WW];apply ai (Aa x t);cases z:bY x t with
   |true=>exact aj rfl (ap _)
   |false=>
     rw[pM];refine ak rfl (ai (a:=((x,()),((t.kids.map (oM x)).any id,()))) (aJ ?_) (ap _));simp only[qan,Ik,aH]
     have e:=bA (P:=λ i=>∃j:Int,Ev (λ m k=>tz m (iR m) (kR m) (jT m) (kS m) k t.kids (I t.kids) i x.kind x.name x.sort x.kids) ((x,()),(j,()))/\ile 0 j=((t.kids.drop i).map (oM x)).any id) t.kids (by omega)
      (λ c=>⟨-1,aF (by
       simp only[Im,yB];exact ak c (ay (by rw[nv]))),by rw[ej];rfl⟩)
      (λ i y p s c n r ⟨j,f,b⟩=>by
       have l:=aP p;have u:=du t y l
       have d:Ev (λ m _=>jT m y x) ((x,()),(oM x y,())):=by
        apply aJ;simp only[qba,Iu,aH];exact ai (o y l (by omega)) (ap _)
       rw[s,aZ,Pn];cases g:oM x y with
       |true=>
         refine⟨i,aF ?_,by show ile 0 (i:Int)=O;rw[lq];omega⟩;simp only[Im,yB,aH,nv];rw[g]at d;exact aj c (aw n (ai d (aj rfl (ap _))))
       |false=>
         refine⟨j,aF ?_,by rw[b];rfl⟩;simp only[Im,yB,aH,nv];rw[g]at d;refine aj c (aw n (ai d (ak rfl ?_)));rw[r];exact f)
     let⟨j,f,b⟩:=e 0 (aL _);rw[dl]at b;refine ai (a:=((x,()),(j,()))) (aJ ?_) (ay (by rw[<-b]));simp only[qaw,By];exact bj (L:=λ m k=>tz m (iR m) (kR m) (jT m) (kS m) k t.kids (I t.kids) 0 x.kind x.name x.sort x.kids) f
def qnD{v w:T}(u:v.kind=1/\v.kids=[])(t:T):cn t=0->size t<=1000000->Ev (λ m _=>jm m [(kOf v,w)] t) (([(kOf v,w)],()),(sub (cR v w) t,())):=by
 induction t using T.ind with
 |h t s=>
   intro p E;have z:=dK t;apply aJ;simp only[qht,DZ,aH];rw[fW];apply ai (rN t);by_cases d:t.kind=1
   .have c:t.kids=[]:=(EL p).elim (λ h=>h.2) λ h=>by omega
    rw[ag d];refine aj (aI.2 d) (ai (Aw t) ?_);show Ev (λ m _=>cond (lE eqK [(kOf v,w)] (kOf t)) (Z (([(kOf v,w)],()),(cX eqK (T.mk 0 [] 0 []) [(kOf v,w)] (kOf t),()))) _) _;by_cases f:kOf t=kOf v
    .have e:t=v:=LW ⟨d,c⟩ u f;have e1:bS eqK [(kOf v,w)] (kOf t)=Z w:=by show cond (eqK (kOf t) (kOf v)) _ _=_;rw[MR.2 f];rfl
     refine aj (by unfold lE;rw[e1];rfl) (ay ?_);unfold cX cR;rw[e1,ag e];rfl
    .have e1:bS eqK [(kOf v,w)] (kOf t)=U:=by show cond (eqK (kOf t) (kOf v)) _ _=_;rw[tw.2 λ h=>f (MR.1 h)];rfl
     refine ak (by unfold lE;rw[e1];rfl) (ay ?_);unfold cR;rw[af λ e=>f (by rw[e])]
   .rw[af d];apply ak (aG.2 d);by_cases c:t.kids=[]
    .refine aj (by rw[c];rfl) (ay ?_);rw[c];show _=(([(kOf v,w)],()),(T.mk t.kind t.name t.sort [],()));rw[<-c,nv]
    have o:=wd.2 c;refine ak (aG.2 (by omega)) (aj (by unfold AM;rw[gH,lL];omega) ?_)
    have g:=bA (P:=λ i=>Ev (λ m k=>uw m (jm m) k t.kids (I t.kids) i [(kOf v,w)] t.kind t.name t.sort t.kids 0 [] 0 [] ((t.kids.take i).map (sub (cR v w))++List.replicate (I t.kids-i) (T.mk 0 [] 0 []))) (([(kOf v,w)],()),(T.mk t.kind t.name t.sort (t.kids.map (sub (cR v w))),()))) t.kids (by omega)
     (λ n=>by
      apply aF;simp only[Rn,DT];refine ak n (ay ?_);rw[cV,gF,If,bZ])
     (λ i x j F n C B q=>by
      apply aF;simp only[Rn,DT,aH];have l:=aP j;have D:=du t x l;have A:=getElem?_lt j;have b:I ((t.kids.take i).map (sub (cR v w)))=i:=by rw[ce,bD];omega
      have y:List.replicate (I t.kids-i) (T.mk 0 [] 0 [])=T.mk 0 [] 0 []::List.replicate (I t.kids-(i+1)) (T.mk 0 [] 0 []):=by
       rw[show I t.kids-i=(I t.kids-(i+1))+1 by omega,List.replicate_succ]
      rw[y];refine aj n (aw C (ai (s x l (xc p l) (by omega)) (aw (a:=T.mk 0 [] 0 []) ?_ ?_)))
      .rw[fJ,dy (by omega),b,gF];rfl
      .rw[B,oV,Ie _ _ (by omega),b,gF,List.set_cons_zero];rw[gn j,ft,bE]at q;exact q)
    have r:=g 0 (aL _);rw[qW,nJ,fS,ZQ]at r;exact bj (L:=λ m k=>uw m (jm m) k t.kids (I t.kids) 0 [(kOf v,w)] t.kind t.name t.sort t.kids 0 [] 0 [] (List.replicate (I t.kids) (T.mk 0 [] 0 []))) r
def uQ{α:Type}{A B:aa α}{x:α}{i:Nat}(h:I A=i):av (A++x::B) (i:Int)=Z x:=by
 subst h;rw[fJ,dy (al _),gF];rfl
def UT{α:Type}{A B:aa α}{x y:α}{i:Nat}(h:I A=i):cy (A++x::B) (i:Int) y=A++y::B:=by
 subst h;rw[oV,Ie _ _ (al _),gF];rfl
def XZ{θ:T->T}{n:Nat}(m:1<=n)(t:T):(∀x∈be 1 t,size (θ x)<=n)->size (sub θ t)<=size t*n:=by
 induction t using T.ind with
 |h t f=>
   intro h;rw[gU]at h;rw[fW];have j:=size_pos t;by_cases b:t.kind=1
   .rw[ag b];have:=h t (by rw[ag b];simp);have o:1*n<=size t*n:=cj _ j;omega
   .rw[af b];rw[af b,fS]at h;rw[bX,bX t];show 1+((t.kids.map (sub θ)).map size).sum<=_;rw[iu]
    have d:∀l:aa T,(∀k∈l,size (sub θ k)<=size k*n)->(l.map (size ∘ sub θ)).sum<=(l.map size).sum*n:=by
     intro l
     induction l with
     |nil=>intro _;exact aL _
     |cons x l c=>
       intro e;rw[aZ,ji,aZ,ji,dD];have q:=e x (aW ..);have p:=c λ k a=>e k (aS _ a);show size (sub θ x)+_<=_;omega
    have g:=d t.kids λ k a=>f k a λ x i=>h x (jB.2 ⟨_,eF a,i⟩);rw[dD];omega
def Bh(p:T×T):Bool:=J (aN p.1=0)&&J (aN p.2=0)
def iJ(v t:T)(p:T×T):T×T:=(sub (cR v t) p.1,sub (cR v t) p.2)
def lC(v t:T)(p:T×T):T×T:=(p.1,sub (cR v t) p.2)
def SmL(n:Nat)(l:aa (T×T)):Prop:=∀p∈l,(cn p.1=0/\size p.1<=n)/\cn p.2=0/\size p.2<=n
def vg(v t:T)(ps a:aa (T×T)):Bool:=(ps.map (iJ v t)).all Bh&&(a.map (lC v t)).all λ p=>J (aN p.2=0)
def qnr{v t:T}(S:v.kind=1/\v.kids=[])(W:size t<=1000)(ps c:aa (T×T))(D:SmL 1000 ps)(M:SmL 1000 c)(F:I ps<=1000000)(X:I c<=100000):
  Ev (λ m _=>pN m (ps,c,()) v t) (((ps.map (iJ v t),c.map (lC v t)++[(v,t)],()),()),((if vg v t ps c=O then 0 else 3),())):=by
 have C:∀x,cn x=0->size x<=1000->size (sub (cR v t) x)<=1000000:=λ x _ d=>by
  have:=XZ (θ:=cR v t) (n:=1000) (by decide) x (λ y R=>by
   unfold cR;split
   .exact W
   .have:=Fo 1 x y R;omega)
  have h2:size x*1000<=1000*1000:=cj _ d;omega
 have g:∀x,cn x=0->size x<=1000->Ev (λ m _=>jm m [(kOf v,t)] x) (([(kOf v,t)],()),(sub (cR v t) x,())):=λ x E d=>qnD S x E (by omega);have j:∀x,cn x=0->size x<=1000->Ev (λ m _=>eQ m (sub (cR v t) x)) (aN (sub (cR v t) x)):=λ x E d=>jG _ (by have:=C x E d;omega);apply aJ;simp only[qbR,BS,aH]
 have K:wx 0 ps=Z ((),ps,()):=by
  unfold wx;cases ps with
  |nil=>rfl
  |cons x l=>
    show cond (Nat.ble (I (x::l)) 100000000) _ _=_;rw[tv (bR F (by decide))];rfl
 refine ai (Aw v) (aw K ?_);show Ev (λ m _=>(jC m m).1 (I ps) 0 ps v.kind v.name v.sort v.kids t.kind t.name t.sort t.kids O [(kOf v,t)] c ps) _
 have o:=bA (P:=λ i=>∀b:Bool,Ev (λ m k=>(jC m k).2 (I c) i ps v.kind v.name v.sort v.kids t.kind t.name t.sort t.kids b [(kOf v,t)] ((c.take i).map (lC v t)++c.drop i) (ps.map (iJ v t))) (((ps.map (iJ v t),c.map (lC v t)++[(v,t)],()),()),((if(b&&((c.drop i).map (lC v t)).all λ p=>J (aN p.2=0))=O then 0 else 3),()))) c (by omega)
  (λ r b=>by
   apply aF;simp only[PQ,BP];apply ak r;rw[cV,ej,bZ,nJ,List.all_nil,mJ,nv,nv];refine aj (cx (by rw[ce];omega)) ?_;cases b with
   |true=>exact ak rfl (ap _)
   |false=>exact aj rfl (ap _))
  (λ i x d H r hg s u b=>by
   apply aF;simp only[PQ,BP,aH];have G:=getElem?_lt d;have f:I ((c.take i).map (lC v t))=i:=by rw[ce,bD];omega
   let⟨_,z,w⟩:=M x (aP d);rw[H];refine aj r (aw (uQ f) (ai (g x.2 z w) ?_))
   have a:(c.take i).map (lC v t)++(x.1,sub (cR v t) x.2)::c.drop (i+1)=(c.take (i+1)).map (lC v t)++c.drop (i+1):=by
    rw[gn d,ft,bE];rfl
   rw[aZ,fm];simp only[UT f];cases b with
   |true=>
     refine aj rfl (aw (uQ f) (ai (j x.2 z w) ?_));rw[s,a];have:=u (ieq (aN (sub (cR v t) x.2)) 0)
     have e:ieq (aN (sub (cR v t) x.2)) 0=J (aN (lC v t x).2=0):=by
      show _=J (aN (sub (cR v t) x.2)=0);by_cases h:aN (sub (cR v t) x.2)=0
      .rw[aI.2 h,cO h]
      .rw[aG.2 h,gj h]
     rw[ei,<-e];exact this
   |false=>
     apply ak rfl;rw[s,a];exact u Y)
 have q:=bA (P:=λ i=>∀b:Bool,Ev (λ m k=>(jC m k).1 (I ps) i ps v.kind v.name v.sort v.kids t.kind t.name t.sort t.kids b [(kOf v,t)] c ((ps.take i).map (iJ v t)++ps.drop i)) (((ps.map (iJ v t),c.map (lC v t)++[(v,t)],()),()),((if((b&&((ps.drop i).map (iJ v t)).all Bh)&&(c.map (lC v t)).all λ p=>J (aN p.2=0))=O then 0 else 3),()))) ps (by omega)
  (λ r b=>by
   apply aF;simp only[PO,BT];apply ak r;rw[cV,ej,bZ,nJ,List.all_nil,mJ];have:=o 0 (aL _) b;rw[qW,nJ,fS,dl]at this;exact this)
  (λ i x d H r hg s u b=>by
   apply aF;simp only[PO,BT,aH];have G:=getElem?_lt d;have f:I ((ps.take i).map (iJ v t))=i:=by rw[ce,bD];omega
   let⟨⟨z,w⟩,B,A⟩:=D x (aP d);rw[H];refine aj r (aw (uQ f) (ai (g x.1 z w) ?_))
   have a:(ps.take i).map (iJ v t)++(sub (cR v t) x.1,sub (cR v t) x.2)::ps.drop (i+1)=(ps.take (i+1)).map (iJ v t)++ps.drop (i+1):=by
    rw[gn d,ft,bE];rfl
   rw[aZ,fm];simp only[UT f]
   have Q:∀y:T,ieq (aN y) 0=J (aN y=0):=λ y=>by
    by_cases h:aN y=0
    .rw[aI.2 h,cO h]
    .rw[aG.2 h,gj h]
   have N:Bh (iJ v t x)=(ieq (aN (sub (cR v t) x.1)) 0&&ieq (aN (sub (cR v t) x.2)) 0):=by rw[Q,Q];rfl
   cases b with
   |true=>
     refine aj rfl (aw (uQ f) (ai (j x.1 z w) (aw (uQ f) (ai (g x.2 B A) ?_))));rw[N,ei];cases h1:ieq (aN (sub (cR v t) x.1)) 0 with
     |true=>
       refine aj rfl (aw (uQ f) (ai (j x.2 B A) ?_));rw[s,a,ei];exact u _
     |false=>
       apply ak rfl;rw[s,a,jz];exact u Y
   |false=>
     refine ak rfl (aw (uQ f) (ai (g x.2 B A) ?_));rw[s,a,jz];exact u Y)
 have:=q 0 (aL _) O;rw[qW,nJ,fS,dl,ei]at this;exact bj (L:=λ m k=>(jC m k).1 (I ps) 0 ps v.kind v.name v.sort v.kids t.kind t.name t.sort t.kids O [(kOf v,t)] c ps) this
def TQ{l:aa T}(h:Asc l):l.Nodup:=h.imp λ{a b} c e=>by subst e;exact lO c
def Ka:∀{l m:aa T},l.Nodup->(∀x∈l,x∈m)->I l<=I m
 |[],_,_,_=>aL _
 |x::l,m,f,h=>by
   haveI:DecidableEq T:=λ a b=>Classical.propDecidable (a=b);have d:=h x (aW ..);let⟨i,g⟩:=mI.1 f;have:=Ka (l:=l) (m:=m.erase x) g λ y c=>(List.mem_erase_of_ne λ e=>i (by rw[<-e];exact c)).2 (h y (aS _ c));have j:=List.length_pos_of_mem d;rw[List.length_erase_of_mem d]at this;rw[bG];omega
def dc(ps:aa (T×T)):aa T:=mD (.mk 3 [] 0 (ps.flatMap λ p=>[p.1,p.2]))
theorem lX(ps:aa (T×T))(x:T):x∈dc ps↔∃p∈ps,x∈be 1 p.1\/x∈be 1 p.2:=by
 unfold dc;rw[Gf,gU,af (by show ¬ (3:Int)=1;decide),fS];show x∈((ps.flatMap λ p=>[p.1,p.2]).map (be 1)).flatten↔_;rw[jB];constructor
 .rintro⟨l,d,a⟩;obtain⟨t,b,rfl⟩:=bu.1 d;let⟨p,c,b⟩:=ir.1 b;obtain rfl|b:=bi.1 b
  .exact⟨p,c,.inl a⟩
  .rw[bW.1 b]at a;exact⟨p,c,.inr a⟩
 .rintro⟨p,c,a|a⟩
  .exact⟨_,eF (ir.2 ⟨p,c,aW ..⟩),a⟩
  .exact⟨_,eF (ir.2 ⟨p,c,aS _ (aW ..)⟩),a⟩
def Tc(ps:aa (T×T)):Asc (dc ps):=(Fp _ [] List.Pairwise.nil).1
def VE{ps a:aa (T×T)}(h:∀x∈dc ps,x∈dc a):I (dc ps)<=I (dc a):=Ka (TQ (Tc ps)) h
def qlL{ps a:aa (T×T)}(h:∀x∈dc ps,x∈dc a){y:T}(b:y∈dc a)(d:y ∉ dc ps):I (dc ps)<I (dc a):=by
 have:=Ka (l:=y::dc ps) (m:=dc a) (mI.2 ⟨d,TQ (Tc ps)⟩) λ x c=>(bi.1 c).elim (λ e=>e▸b) (h x);rw[bG]at this;omega
def te(p:T×T):Nat:=max (bU p.1) (bU p.2)
def Hi(a:Nat)(ps:aa (T×T)):Prop:=∀A p B,ps=A++p::B->I B+7*te p<=a+280
def Hi.tail{a:Nat}{p:T×T}{ps:aa (T×T)}(h:Hi a (p::ps)):Hi a ps:=λ A q B e=>h (p::A) q B (by rw[e];rfl)
def qm9(t:T):1<=bU t:=by rw[jq];omega
def Hi.len{a:Nat}{ps:aa (T×T)}(h:Hi a ps):I ps<=a+274:=by
 cases ps with
 |nil=>exact aL _
 |cons p ps=>
   have:=h [] p ps rfl;have b:=qm9 p.1;unfold te at this;rw[bG];omega
def Hi.bind{b:Nat}{p:T×T}{ps a:aa (T×T)}(h:Hi b (p::ps))(f:I a=I ps)(c:∀q∈a,te q<=40):Hi (b+280) a:=λ A q B e=>by
 have d:=h.len;have g:=c q (by rw[e];simp);have:I a=I A+(I B+1):=by rw[e,aU,bG]
 rw[bG]at d;omega
def Wx:∀(l:aa Nat) (a x:Nat),x∈l->x<=l.foldl max a
 |y::l,a,x,b=>by
   obtain rfl|b:=bi.1 b
   .exact bR (OW a x) (Rc l _)
   .exact Wx l _ x b
def LQ{t k:T}(h:k∈t.kids):bU k+1<=bU t:=by
 rw[jq t];exact qV (Wx _ 0 _ (eF h))
def Hi.kids{f:Nat}{a b:T}{ps:aa (T×T)}(h:Hi f ((a,b)::ps))(k:I a.kids<=8):Hi f (a.kids.zip b.kids++ps):=λ A q B e=>by
 obtain⟨C,g,d⟩|⟨C,g,d⟩:=List.append_eq_append_iff.1 e
 .-- the pair lies in ps
  exact h ((a,b)::C) q B (by rw[d];rfl)
 .cases C with
  |nil=>
    rw[fS]at d;exact h [(a,b)] q B (by rw[<-d];rfl)
  |cons c C=>
    cases d;have i:q∈a.kids.zip b.kids:=by rw[g];simp
    have m:=LQ (Ig (a:=q.1) (b:=q.2) i).1;have l:=LQ (Ig (a:=q.1) (b:=q.2) i).2;have g3:=h [] (a,b) ps rfl;have j:I (a.kids.zip b.kids)=I A+(I C+1):=by rw[g,aU,bG]
    rw[ZZ]at j;show(C++ps).length+7*te q<=f+280;rw[aU];unfold te at g3 |-
    simp only at g3;omega
abbrev St3:=aa (T×T)×(aa (T×T)×Int)
def oE(x t:T)(ps a:aa (T×T)):St3:=(ps.map (iJ x t),(a.map (lC x t)++[(x,t)],if vg x t ps a=O then 0 else 3))
def nw(x t:T)(ps a:aa (T×T)):St3:=if pG x t=Y then(ps,(a,11))else if oM x t=O then(ps,(a,12))else oE x t ps a
def vO(a b:T)(ps c:aa (T×T)):St3:=
 if a.sort=b.sort then(if aQ a b<0 then oE b a ps c else oE a b ps c)else if b.sort=0 then oE b a ps c else if a.sort≠0 then(ps,(c,11))else oE a b ps c
def nj(a b:T)(ps c:aa (T×T)):St3:=
 if bY a b=O then(ps,(c,0))else if alk a b=O then(a.kids.zip b.kids++ps,(c,0))
 else if a.kind=1 then(if b.kind=1 then vO a b ps c else nw a b ps c)else if b.kind=1 then nw b a ps c else(ps,(c,11))
def qja{α:Type}(p:α)(ps:aa α):gA (p::ps) 1 (I (p::ps):Int)=ps:=by
 unfold gA;simp
def qnN(a b:T)(ps c:aa (T×T))(r:aN a=0)(q:aN b=0)(G:∀p∈ps,aN p.1=0/\aN p.2=0)(Q:∀p∈c,(p.1.kind=1/\p.1.kids=[]/\aN p.1=0)/\aN p.2=0)(M:I ps<=1000000:=by omega)(K:I c<=100000:=by omega):
  Ev (λ m _=>Cj m ((a,b)::ps,c,())) ((((nj a b ps c).1,(nj a b ps c).2.1,()),()),((nj a b ps c).2.2,())):=by
 let⟨_,S,_⟩:=dt r;let⟨_,R,_⟩:=dt q
 have e:∀x t,x.kind=1->aN x=0->aN t=0->Ev (λ m _=>pN m (ps,c,()) x t) ((((oE x t ps c).1,(oE x t ps c).2.1,()),()),((oE x t ps c).2.2,())):=λ x t s n o=>
  qnr ⟨s,(nX n).elim (λ h=>h.2) λ h=>by omega⟩ (by have:=(dt o).2.1;omega) ps c (λ p H=>by
   let⟨f,d⟩:=G p H;let⟨C,q2,_⟩:=dt f;let⟨B,q4,_⟩:=dt d;exact⟨⟨C,by omega⟩,B,by omega⟩) (λ p H=>by
   let⟨⟨_,_,f⟩,d⟩:=Q p H;let⟨C,q2,_⟩:=dt f;let⟨B,q4,_⟩:=dt d;exact⟨⟨C,by omega⟩,B,by omega⟩) M K
 have F:inb (I ((a,b)::ps):Int) (I ((a,b)::ps))=O:=by unfold inb;rw[gH];omega
 have E:inb 1 (Int.toNat (I ((a,b)::ps):Int))=O:=by unfold inb;rw[gH,lL,bG];omega
 apply aJ;simp only[qbZ,BU,aH,qja];unfold nj;refine aw (a:=(a,b)) rfl (aw (a:=(a,b)) rfl (aj F (aj E (ai (Aa a b) ?_))));cases hs:bY a b with
 |true=>rw[ag rfl];exact aj rfl (ap _)
 |false=>
 rw[af (by decide)];refine ak rfl (ai (UB a b) ?_);cases hk:alk a b with
 |true=>
   rw[ag rfl];apply aj rfl;have v:=Nd hk;have ab:=dK a
   have D:=bA (P:=λ i=>Ev (λ m k=>tH m k (I a.kids) i ps a.kind a.name a.sort a.kids b.kind b.name b.sort b.kids c ((a.kids.take i).zip (b.kids.take i))) (((a.kids.zip b.kids++ps,c,()),()),(0,()))) a.kids (by omega)
    (λ N=>by
     apply aF;simp only[PN,BQ];apply ak N;rw[cV,v,cV];exact aj (cx (by rw[ZZ];omega)) (ap _))
    (λ i x s hd N hg hi X=>by
     apply aF;simp only[PN,BQ,aH];have ad:=getElem?_lt s;obtain⟨y,W⟩:∃y,b.kids[i]?=Z y:=⟨_,aV (by omega)⟩
     have hl:I ((a.kids.take i).zip (b.kids.take i))<=i:=by rw[ZZ,bD];omega
     refine aj N (aw hg (aw (a:=y) (by rw[fJ];exact W) (aj (cx) ?_)));rw[hi];rw[gn s,gn W,List.zip_append (by rw[bD,bD];omega)]at X;exact X)
   exact bj (L:=λ m k=>tH m k (I a.kids) 0 ps a.kind a.name a.sort a.kids b.kind b.name b.sort b.kids c []) (D 0 (aL _))
 |false=>
 rw[af (by decide)];refine ak rfl (ai (rN a) ?_)
 have u:∀x t,x.kind=1->aN x=0->aN t=0->size x<=400->size t<=400->Ev (λ m _=>ae (uF m x t) λ v9=>cond (au v9) (Z (((ps,c,()),()),((11:Int),()))) (ae (iR m x t) λ A=>cond A (Z (((ps,c,()),()),((12:Int),()))) (ae (pN m (ps,c,()) x t) λ l=>Z (((l.1.1.1,l.1.1.2.1,()),()),(l.2.1,()))))) ((((nw x t ps c).1,(nw x t ps c).2.1,()),()),((nw x t ps c).2.2,())):=by
  intro x t s n o zx zt;unfold nw;apply ai (Uz x t);cases hf:pG x t with
  |false=>rw[ag rfl];exact aj rfl (ap _)
  |true=>
    rw[af (by decide)];refine ak rfl (ai (qj8 x (by omega) t (by omega)) ?_);cases ho:oM x t with
    |true=>rw[ag rfl];exact aj rfl (ap _)
    |false=>
      rw[af (by decide)];exact ak rfl (ai (e x t s n o) (ap _))
 by_cases f:a.kind=1
 .rw[ag f];refine aj (aI.2 f) (ai (rN b) ?_);by_cases d:b.kind=1
  .rw[ag d];refine aj (aI.2 d) (ai (a:=((((vO a b ps c).1,(vO a b ps c).2.1,()),()),((vO a b ps c).2.2,()))) (aJ ?_) (ap _));simp only[qcs,IG,aH];unfold vO;by_cases z:a.sort=b.sort
   .rw[ag z];refine aj (aI.2 z) (ai (oQ a (by omega) b (by omega)) ?_);by_cases j:aQ a b<0
    .rw[ag j];exact aj (bf.2 j) (ai (e b a d q r) (ap _))
    .rw[af j];exact ak (bg.2 (by omega)) (ai (e a b f r q) (ap _))
   .rw[af z];apply ak (aG.2 z);by_cases j:b.sort=0
    .rw[ag j];exact aj (aI.2 j) (ai (e b a d q r) (ap _))
    .rw[af j];apply ak (aG.2 j);by_cases w:a.sort=0
     .rw[af (λ g=>g w)];exact ak (bnf.2 (aI.2 w)) (ai (e a b f r q) (ap _))
     .rw[ag w];exact aj (bnt.2 (aG.2 w)) (ap _)
  .rw[af d];refine ak (aG.2 d) (ai (rN b) (ak (aG.2 d) (ai (rN a) (ak (bnf.2 (aI.2 f)) ?_))));exact u a b f r q S R
 .rw[af f];refine ak (aG.2 f) (ai (rN b) ?_);by_cases d:b.kind=1
  .rw[ag d];apply aj (aI.2 d);exact u b a d q r R S
  .rw[af d];exact ak (aG.2 d) (ai (rN a) (aj (bnt.2 (aG.2 f)) (ap _)))
structure US (β:Nat) (ps bs:List (T×T)):Prop where
 v:∀p∈ps,aN p.1=0/\aN p.2=0
 b:∀p∈bs,(p.1.kind=1/\p.1.kids=[]/\aN p.1=0)/\aN p.2=0
 hi:Hi β ps
 n:β+280*(dc ps).length<=280000
 bl:bs.length+(dc ps).length<=1000
structure Sol (θ:T->T) (ps bs:List (T×T)):Prop where
 so:∀x∈dc ps,qI x.sort (θ x)
 eq:∀p∈ps,sub θ p.1=sub θ p.2
 sz:∀p∈ps,size (sub θ p.1)<=400/\bU (sub θ p.1)<=40
 bd:∀p∈bs,θ p.1=sub θ p.2
 bz:∀p∈bs,size (sub θ p.2)<=400/\bU (sub θ p.2)<=40
def xE{θ:T->T}{x t:T}(h:θ x=sub θ t)(u:T):sub θ (sub (cR x t) u)=sub θ u:=FJ θ (cR x t) θ u λ y a=>by
 unfold cR;split
 .next e=>rw[e];exact h.symm
 .exact qh (xG a)
def Fb{x:T}(a:x.kind=1/\x.kids=[]):be 1 x=[x]:=by rw[gU,ag a.1,a.2];rfl
def Ei(u:T):aN u=0->∀y∈be 1 u,aN y=0:=by
 induction u using T.ind with
 |h u d=>
   intro b y a;rw[gU]at a;obtain a|a:=bc.1 a
   .split at a
    .rw[bW.1 a];exact b
    .cases a
   .let⟨l,e,a⟩:=jB.1 a;obtain⟨k,c,rfl⟩:=bu.1 e;exact d k c (qd b c) y a
def qku{x t u:T}(c:aN t=0)(a:aN u=0):cn (sub (cR x t) u)=0:=Kr u (dt a).1 λ y b=>by
 unfold cR;split
 .exact(dt c).1
 .exact(dt (Ei u a y b)).1
def qi6{x t u y:T}(e:aN u=0)(d:y∈be 1 (sub (cR x t) u)):y∈be 1 t\/(y∈be 1 u/\y≠x):=by
 let⟨z,c,a⟩:=KG u d;unfold cR at a;split at a
 .exact .inl a
 .next b=>rw[Fb (qb e z c)]at a;rw[bW.1 a];exact .inr ⟨c,b⟩
def qnv{K:Nat}{a b x t:T}{ps H:aa (T×T)}(h:US K ((a,b)::ps) H)(k:(a=x/\b=t)\/(a=t/\b=x))(l:x.kind=1)(P:x ∉ be 1 t)(j:vg x t ps H=O):
  US (K+280) (ps.map (iJ x t)) (H.map (lC x t)++[(x,t)])/\I (dc (ps.map (iJ x t)))<I (dc ((a,b)::ps))/\∀y∈dc (ps.map (iJ x t)),y∈dc ((a,b)::ps):=by
 have i:=h.v (a,b) (aW ..);have o:aN x=0:=by obtain⟨rfl,rfl⟩|⟨rfl,rfl⟩:=k;exact i.1;exact i.2
 have B:aN t=0:=by obtain⟨rfl,rfl⟩|⟨rfl,rfl⟩:=k;exact i.2;exact i.1
 have A:x.kind=1/\x.kids=[]:=⟨l,(nX o).elim (λ h=>h.2) λ h=>by omega⟩
 unfold vg at j;rw[aK,bJ,bJ]at j;have m:x∈dc ((a,b)::ps):=(lX _ _).2 ⟨(a,b),aW ..,by obtain⟨rfl,rfl⟩|⟨rfl,rfl⟩:=k;exact .inl (zo l);exact .inr (zo l)⟩;have s:∀y∈be 1 t,y∈dc ((a,b)::ps):=λ y c=>(lX _ _).2 ⟨(a,b),aW ..,by obtain⟨rfl,rfl⟩|⟨rfl,rfl⟩:=k;exact .inr c;exact .inl c⟩
 have f:∀y∈dc (ps.map (iJ x t)),y∈dc ((a,b)::ps)/\y≠x:=λ y c=>by
  let⟨Q,E,c⟩:=(lX _ _).1 c;obtain⟨p,d,rfl⟩:=bu.1 E;let⟨M,L⟩:=h.v p (aS _ d)
  have w:∀u,aN u=0->(u=p.1\/u=p.2)->y∈be 1 (sub (cR x t) u)->y∈dc ((a,b)::ps)/\y≠x:=λ u N C c=>by
   obtain g|⟨z,G⟩:=qi6 N c
   .exact⟨s y g,λ e=>P (e▸g)⟩
   .refine⟨(lX _ _).2 ⟨p,aS _ d,?_⟩,G⟩;obtain rfl|rfl:=C
    .exact .inl z
    .exact .inr z
  obtain c|c:=c
  .exact w p.1 M (.inl rfl) c
  .exact w p.2 L (.inr rfl) c
 have F:=qlL (λ y c=>(f y c).1) m λ l=>(f x l).2 rfl
 have r:∀p∈ps.map (iJ x t),aN p.1=0/\aN p.2=0:=λ p d=>by
  have:=j.1 p d;unfold Bh at this;rw[aK,cC,cC]at this;exact this
 have S:=h.n;have R:=h.bl;refine⟨⟨r,λ p d=>?_,h.hi.bind (by rw[ce]) λ q D=>?_,by omega,by rw[aU,ce];simp only[bG,fE];omega⟩,F,λ y c=>(f y c).1⟩
 .obtain d|d:=bc.1 d
  .have g:=bH (j.2 p d);obtain⟨q,D,rfl⟩:=bu.1 d;exact⟨(h.b q D).1,g⟩
  .rw[bW.1 d];exact⟨⟨l,A.2,o⟩,B⟩
 .let⟨z,G⟩:=r q D;have:=(dt z).2.2;have:=(dt G).2.2;unfold te;omega
def Vm{θ:T->T}{s:Nat}{a b x t:T}{ps l:aa (T×T)}(h:US s ((a,b)::ps) l)(e:Sol θ ((a,b)::ps) l)(i:(a=x/\b=t)\/(a=t/\b=x))(C:x.kind=1):
  vg x t ps l=O/\((∀y∈dc (ps.map (iJ x t)),y∈dc ((a,b)::ps))->Sol θ (ps.map (iJ x t)) (l.map (lC x t)++[(x,t)])):=by
 have j:=h.v (a,b) (aW ..);have n:aN t=0:=by obtain⟨rfl,rfl⟩|⟨rfl,rfl⟩:=i;exact j.2;exact j.1
 have g:θ x=sub θ t:=by
  have:=e.eq (a,b) (aW ..);rw[<-qh (θ:=θ) C];obtain⟨rfl,rfl⟩|⟨rfl,rfl⟩:=i
  .exact this
  .exact this.symm
 have m:size (sub θ t)<=400/\bU (sub θ t)<=40:=by
  have r:=e.sz (a,b) (aW ..);have E:=e.eq (a,b) (aW ..);obtain⟨rfl,rfl⟩|⟨rfl,rfl⟩:=i
  .rw[<-E];exact r
  .exact r
 have f:∀u,aN u=0->size (sub θ u)<=400/\bU (sub θ u)<=40->aN (sub (cR x t) u)=0:=λ u D F=>by
  have o:=qku (x:=x) n D;have:=UL θ _ o;rw[xE g]at this;exact KP o
 constructor
 .unfold vg;rw[aK,bJ,bJ];refine⟨λ p c=>?_,λ p c=>?_⟩
  .obtain⟨q,d,rfl⟩:=bu.1 c;let⟨A,w⟩:=h.v q (aS _ d);have z:=e.sz q (aS _ d);unfold Bh;rw[aK,cC,cC];exact⟨f q.1 A z,f q.2 w (by rw[<-e.eq q (aS _ d)];exact z)⟩
  .obtain⟨q,d,rfl⟩:=bu.1 c;exact cO (f q.2 (h.b q d).2 (e.bz q d))
 .intro k;refine⟨λ y B=>e.so y (k y B),λ p c=>?_,λ p c=>?_,λ p c=>?_,λ p c=>?_⟩
  .obtain⟨q,d,rfl⟩:=bu.1 c;show sub θ (sub (cR x t) q.1)=sub θ (sub (cR x t) q.2);rw[xE g,xE g];exact e.eq q (aS _ d)
  .obtain⟨q,d,rfl⟩:=bu.1 c;show size (sub θ (sub (cR x t) q.1))<=400/\bU (sub θ (sub (cR x t) q.1))<=40;rw[xE g];exact e.sz q (aS _ d)
  .obtain c|c:=bc.1 c
   .obtain⟨q,d,rfl⟩:=bu.1 c;show θ q.1=sub θ (sub (cR x t) q.2);rw[xE g];exact e.bd q d
   .rw[bW.1 c];exact g
  .obtain c|c:=bc.1 c
   .obtain⟨q,d,rfl⟩:=bu.1 c;show size (sub θ (sub (cR x t) q.2))<=400/\bU (sub θ (sub (cR x t) q.2))<=40;rw[xE g];exact e.bz q d
   .rw[bW.1 c];exact m
section
open Go.Sort Proofs Proofs.YtinbdcelmgfniaaGreatDoor
theorem qn6(l:List (T × T))(hl:l.length<=100000)(hs:∀ p∈l,size p.1<=1000000000):∃ l',Ev (λ m _=>CJ m l) ((),(l',()))/\l'.length=l.length/\∀ p∈l',p∈l:=by
 have key:∃ l',Ev (λ m _=>wo m l) l'/\l'.length=l.length/\∀ p∈l',p∈l:=by
  cases hl0:l with
  | nil=>exact⟨[],aJ (Bs (ap _) λ m _=>rfl),rfl,λ p hp=>hp⟩
  | cons x0 r0 =>
    rw[<- hl0]
    obtain⟨B,hB⟩:=Lk (F := λ m x y=>dp m x y) (l.map Prod.fst) λ x hx y hy=>oQ x (by
     obtain⟨p,hp,rfl⟩:=bu.1 hx;exact hs p hp) y (by
     obtain⟨p,hp,rfl⟩:=bu.1 hy;exact hs p hp)
    have hcmp:∀ m,B+1<=m->∀ x∈l,∀ y∈l,lM m x y=some (aQ x.1 y.1) := λ m hm x hx y hy=>by
     obtain⟨n,rfl⟩:∃ n,m=n+1:=⟨m-1,by omega⟩
     simp only[qbt,Iw,aH];rw[hB n (by omega) x.1 (eF hx) y.1 (eF hy)];rfl
    have hcfG:∀ F:T × T->T × T->Option Int,(∀ x∈l,∀ y∈l,F x y=some (aQ x.1 y.1))->di F l=di (λ x y=>some (aQ x y)) (l.map Prod.fst) := λ F hF=>by
     funext i j;unfold di;rw[ce,dC,dC];cases hx:l[i % l.length]? with
     | none=>rfl
     | some x=>cases hy:l[j % l.length]? with
       | none=>rfl
       | some y=>simp only[lK];rw[hF x (aP hx) y (aP hy)]
    have hO:SWO (ltOf (di (λ x y:T × T=>some (aQ x.1 y.1)) l)):=by
     rw[hcfG _ λ _ _ _ _=>rfl];exact Zn _
    obtain⟨hp,_⟩:=JK (λ x y:T × T=>some (aQ x.1 y.1)) l hO;have hlt:∀ i∈gq (λ x y:T × T=>some (aQ x.1 y.1)) l,i<l.length := λ i hi=>nM.1 (hp.mem_iff.1 hi);refine⟨pick l (gq (λ x y:T × T=>some (aQ x.1 y.1)) l),aJ ⟨B+1,λ m k hm _=>?_⟩,by rw[K8 hlt,hp.length_eq,wm],Vu⟩;show wo (m+1) l=_;rw[qam];have hcf:di (lM m) l=di (λ x y:T × T=>some (aQ x.1 y.1)) l:=(hcfG _ (hcmp m hm)).trans (hcfG _ λ _ _ _ _=>rfl).symm;have hall:kr (lM m) l=true:=bJ.2 λ x hx=>bJ.2 λ y hy=>by rw[hcmp m hm x hx y hy];rfl
    have hix:gq (lM m) l=gq (λ x y:T × T=>some (aQ x.1 y.1)) l:=by unfold gq;rw[hcf]
    have e:qv (lM m) l=cond (Nat.ble l.length 100000&&(kr (lM m) l&&ta l.length (ltOf (di (lM m) l)))) (some (pick l (gq (lM m) l))) none:=by rw[hl0];rfl
    rw[e,hcf,hall,hix,Xx hO,show Nat.ble l.length 100000=true from tv hl];rfl
 obtain⟨l',h1,h2,h3⟩:=key;refine⟨l',aJ ?_,h2,h3⟩;simp only[qca,ID];exact ai h1 (aj (by rw[h2];exact Nat.beq_refl _) (ap _))
def szQ(ps:aa (T×T)):Nat:=(ps.map λ p=>size p.1+size p.2).sum
def qnf(a b:aa (T×T)):szQ (a++b)=szQ a+szQ b:=by simp[szQ]
def WQ:∀a b:aa T,szQ (a.zip b)<=szL a+szL b
 |[],b|x::a,[]=>by simp[szQ]
 |x::a,y::b=>by
   have:=WQ a b;rw[List.zip_cons_cons,dz,dz];show(size x+size y)+szQ (a.zip b)<=_;omega
def qmZ{t:T}(h:aN t=0):I t.kids<=8:=by
 have a:=EJ (dt h).1;grind [de,iY]
def ss(r:aa (T×T)):Prop:=∀p∈r,(p.1.kind=1/\p.1.kids=[]/\aN p.1=0)/\aN p.2=0
def qlC:∀(n s N:Nat) (ps f:aa (T×T)),US N ps f->I (dc ps)<=n->szQ ps<=s->
  ∃r e,Ev (λ m k=>mP m k ps f) (r,e)/\ss r/\I r<=1000/\∀θ,Sol θ ps f->e=0/\∀p∈r,θ p.1=sub θ p.2:=by
 intro n
 induction n using Nat.strongRecOn with
 |_ n ax=>
 intro s
 induction s using Nat.strongRecOn with
 |_ s P=>
 intro N ps f o hn hs;cases ps with
 |nil=>
   let⟨l',e1,h0,w⟩:=qn6 f (by have:=o.bl;omega) λ p d=>by have:=(dt (o.b p d).1.2.2).2.1;omega
   refine⟨l',0,aF ?_,λ p d=>o.b p (w p d),by have:=o.bl;omega,λ θ c=>⟨rfl,λ p d=>c.bd p (w p d)⟩⟩;simp only[I8,yO];exact ak rfl (ai e1 (ap _))
 |cons p ps=>
   let⟨a,b⟩:=p;have M:aN a=0:=(o.v (a,b) (aW ..)).1;have hb:aN b=0:=(o.v (a,b) (aW ..)).2;have an:=o.hi.len;have bn:=o.n;have bp:=o.bl;rw[bG]at an;have W:=qnN a b ps f M hb (λ p d=>o.v p (aS _ d)) o.b;have a5:szQ ((a,b)::ps)=(size a+size b)+szQ ps:=rfl;have a9:=size_pos a;have a8:=size_pos b
   have C:∀e:Int,e≠0->(nj a b ps f).2.2=e->(∀θ,¬ Sol θ ((a,b)::ps) f)->∃r e,Ev (λ m k=>mP m k ((a,b)::ps) f) (r,e)/\ss r/\I r<=1000/\∀θ,Sol θ ((a,b)::ps) f->e=0/\∀p∈r,θ p.1=sub θ p.2:=λ e he j a0=>by
    refine⟨[],e,aF ?_,(λ p d=>by cases d),aL _,λ θ c=>absurd c (a0 θ)⟩;simp only[I8,yO];refine aj (bf.2 (by rw[bG];omega)) (ai W ?_);rw[j];exact aj (bnt.2 (aG.2 he)) (ap _)
   have go:∀A D,nj a b ps f=(A,(D,0))->(∃r e,Ev (λ m k=>mP m k A D) (r,e)/\ss r/\I r<=1000/\∀θ,Sol θ A D->e=0/\∀p∈r,θ p.1=sub θ p.2)->(∀θ,Sol θ ((a,b)::ps) f->Sol θ A D)->∃r e,Ev (λ m k=>mP m k ((a,b)::ps) f) (r,e)/\ss r/\I r<=1000/\∀θ,Sol θ ((a,b)::ps) f->e=0/\∀p∈r,θ p.1=sub θ p.2:=λ A D j ⟨r,e,w,h2,h3,h4⟩ hsol=>by
    refine⟨r,e,aF ?_,h2,h3,λ θ c=>h4 θ (hsol θ c)⟩;simp only[I8,yO];refine aj (bf.2 (by rw[bG];omega)) (ai W ?_);rw[j];exact ak rfl w
   have tl:∀θ,Sol θ ((a,b)::ps) f->Sol θ ps f:=λ θ h=>⟨λ x u=>h.so x (by
    let⟨p,d,g⟩:=(lX _ _).1 u;exact(lX _ _).2 ⟨p,aS _ d,g⟩),λ p d=>h.eq p (aS _ d),λ p d=>h.sz p (aS _ d),h.bd,h.bz⟩
   have ar:∀x∈dc ps,x∈dc ((a,b)::ps):=λ x u=>by
    grind [lX,List.mem_cons_of_mem]
   have bnd:∀x t,((a=x/\b=t)\/(a=t/\b=x))->x.kind=1->x ∉ be 1 t->nj a b ps f=oE x t ps f->∃r e,Ev (λ m k=>mP m k ((a,b)::ps) f) (r,e)/\ss r/\I r<=1000/\∀θ,Sol θ ((a,b)::ps) f->e=0/\∀p∈r,θ p.1=sub θ p.2:=λ x t q u aE j=>by
    by_cases F:vg x t ps f=O
    .let⟨u1,u2,u3⟩:=qnv o q u aE F;refine go _ _ (by rw[j];unfold oE;rw[ag F]) (ax _ (by omega) _ (N+280) _ _ u1 (al _) (al _)) λ θ c=>(Vm o c q u).2 u3
    .exact C 3 (by decide) (by rw[j];unfold oE;rw[af F]) λ θ c=>F (Vm o c q u).1
   have H:∀θ,Sol θ ((a,b)::ps) f->sub θ a=sub θ b:=λ θ h=>h.eq (a,b) (aW ..);have B:∀θ,Sol θ ((a,b)::ps) f->(a.kind=1->qI a.sort (θ a))/\(b.kind=1->qI b.sort (θ b)):=λ θ h=>⟨λ g=>h.so a ((lX _ _).2 ⟨(a,b),aW ..,.inl (zo g)⟩),λ g=>h.so b ((lX _ _).2 ⟨(a,b),aW ..,.inr (zo g)⟩)⟩
   have a4:I (dc ps)<=I (dc ((a,b)::ps)):=VE ar;by_cases E:bY a b=O
   .refine go ps f (by unfold nj;rw[ag E]) ?_ tl;exact P (szQ ps) (by omega) N ps f ⟨λ p d=>o.v p (aS _ d),o.b,o.hi.tail,by omega,by omega⟩ (by omega) (al _)
   by_cases G:alk a b=O
   .have hk:=bH G
    have R:∀x∈dc (a.kids.zip b.kids++ps),x∈dc ((a,b)::ps):=λ x u=>by
     let⟨p,d,g⟩:=(lX _ _).1 u;obtain d|d:=bc.1 d
     .let⟨m1,m2⟩:=Ig (a:=p.1) (b:=p.2) d;grind [lX,List.mem_cons_self,gU,List.mem_append_right,List.mem_flatten,List.mem_map_of_mem]
     .grind [lX,List.mem_cons_of_mem]
    have h8:I a.kids<=8:=qmZ M;have bb:=VE R;have hz:=WQ a.kids b.kids;have a7:size a=1+szL a.kids:=by rw[bX];rfl
    have a6:size b=1+szL b.kids:=by rw[bX];rfl
    have S:szQ (a.kids.zip b.kids++ps)<s:=by rw[qnf];omega
    refine go (a.kids.zip b.kids++ps) f (by unfold nj;rw[af E,ag G]) ?_ λ θ c=>?_
    .refine P _ S N _ f ⟨λ p d=>?_,o.b,o.hi.kids h8,by omega,by omega⟩ (by omega) (al _);obtain d|d:=bc.1 d
     .grind [List.of_mem_zip,qd]
     .exact o.v p (aS _ d)
    .have e:=H θ c;have L:=c.sz (a,b) (aW ..);rw[fW,fW,ifN,ifN]at e;have e:=aY T.kids e;have e:a.kids.map (sub θ)=b.kids.map (sub θ):=e;have L:size (sub θ a)<=400/\bU (sub θ a)<=40:=L;rw[fW,ifN]at L;refine⟨λ x u=>c.so x (R x u),λ p d=>?_,λ p d=>?_,c.bd,c.bz⟩
     .obtain d|d:=bc.1 d
      .let⟨i,hi⟩:=lI d;let⟨q1,q2⟩:=List.getElem?_zip_eq_some.1 hi;have:=aY (λ l:aa T=>l[i]?) e;grind
      .exact c.eq p (aS _ d)
     .obtain d|d:=bc.1 d
      .let⟨m1,m2⟩:=Ig (a:=p.1) (b:=p.2) d;have g1:=du (T.mk a.kind a.name a.sort (a.kids.map (sub θ))) (sub θ p.1) (eF m1);have g2:=LQ (t:=T.mk a.kind a.name a.sort (a.kids.map (sub θ))) (k:=sub θ p.1) (eF m1);exact⟨by omega,by omega⟩
      .exact c.sz p (aS _ d)
   have z:nj a b ps f=if a.kind=1 then(if b.kind=1 then vO a b ps f else nw a b ps f)else if b.kind=1 then nw b a ps f else(ps,(f,11)):=by unfold nj;rw[af E,af G]
   have a3:∀x t,((a=x/\b=t)\/(a=t/\b=x))->x.kind=1->t.kind≠1->nj a b ps f=nw x t ps f->∃r e,Ev (λ m k=>mP m k ((a,b)::ps) f) (r,e)/\ss r/\I r<=1000/\∀θ,Sol θ ((a,b)::ps) f->e=0/\∀p∈r,θ p.1=sub θ p.2:=λ x t q u ht j=>by
    have az:aN x=0:=by obtain⟨rfl,rfl⟩|⟨rfl,rfl⟩:=q;exact M;exact hb
    have Q:aN t=0:=by obtain⟨rfl,rfl⟩|⟨rfl,rfl⟩:=q;exact hb;exact M
    have he:∀θ,Sol θ ((a,b)::ps) f->θ x=sub θ t:=λ θ h=>by
     have:=H θ h;rw[<-qh (θ:=θ) u];obtain⟨rfl,rfl⟩|⟨rfl,rfl⟩:=q
     .exact this
     .exact this.symm
    have hf:∀θ,Sol θ ((a,b)::ps) f->qI x.sort (θ x):=λ θ h=>by
     obtain⟨rfl,rfl⟩|⟨rfl,rfl⟩:=q
     .exact(B θ h).1 u
     .exact(B θ h).2 u
    cases y:pG x t with
    |false=>
      refine C 11 (by decide) (by rw[j];unfold nw;rw[ag y]) λ θ c=>?_
      have hr:vL x t=Y:=by
       unfold pG at y;rw[cO ⟨az,Q,u⟩,ei]at y;exact y
      have hr:=ZT hr;have w:=hf θ c;rw[he θ c,fW,af ht]at w;apply hr;obtain w|⟨w,h2⟩:=w
      .exact .inl w
      .exact .inr ⟨w,h2⟩
    |true=>
      cases X:oM x t with
      |true=>
        refine C 12 (by decide) (by rw[j];unfold nw;rw[af (by rw[y];decide),ag X]) λ θ c=>?_;have:=(qij (θ:=θ) t (dt Q).1 ((Ut u t).1 X)).2 ht;rw[he θ c]at this;omega
      |false=>
        refine bnd x t q u (λ h=>by rw[(Ut u t).2 h]at X;cases X) (by rw[j];unfold nw;rw[af (by rw[y];decide),af (by rw[X];decide)])
   by_cases K:a.kind=1
   .by_cases kb:b.kind=1
    .rw[ag K,ag kb]at z;have ad:a≠b:=λ e=>E (iy.2 e);have a2:a.kind=1/\a.kids=[]:=⟨K,(nX M).elim (λ h=>h.2) λ h=>by omega⟩
     have a1:b.kind=1/\b.kids=[]:=⟨kb,(nX hb).elim (λ h=>h.2) λ h=>by omega⟩
     have ba:=bnd b a (.inr ⟨rfl,rfl⟩) kb (by rw[Fb a2,bW];exact λ e=>ad e.symm);have ab:=bnd a b (.inl ⟨rfl,rfl⟩) K (by rw[Fb a1,bW];exact ad);unfold vO at z;by_cases q1:a.sort=b.sort
     .grind
     .rw[af q1]at z;by_cases q2:b.sort=0
      .rw[ag q2]at z;exact ba z
      .rw[af q2]at z;by_cases q3:a.sort≠0
       .rw[ag q3]at z;refine C 11 (by decide) (by rw[z]) λ θ c=>?_;have e:=H θ c;rw[qh K,qh kb]at e;let⟨f1,f2⟩:=B θ c;obtain g1|⟨_,g1⟩:=f1 K
        .exact q3 g1
        .obtain g2|⟨_,g2⟩:=f2 kb
         .exact q2 g2
         .grind
       .rw[af q3]at z;exact ab z
    .grind
   .by_cases kb:b.kind=1
    .grind
    .rw[af K,af kb]at z;refine C 11 (by decide) (by rw[z]) λ θ c=>?_;have e:=H θ c;rw[fW,fW,af K,af kb]at e;have e1:a.kind=b.kind:=by have:=aY T.kind e;exact this
     have e2:a.name=b.name:=by have:=aY T.name e;exact this
     have e3:a.sort=b.sort:=by have:=aY T.sort e;exact this
     have e4:a.kids.map (sub θ)=b.kids.map (sub θ):=by have:=aY T.kids e;exact this
     have e5:I a.kids=I b.kids:=by have:=aY I e4;rwa [ce,ce]at this
     obtain⟨w,h2⟩|w:=nX M
     .grind [iy,List.eq_nil_of_length_eq_zero,nv]
     .exact G (cO ⟨w,by omega,e2,e5⟩)
end
def Og(l:aa aA):Nat:=l.foldl (λ a c=>10*a+(c.toNat-48)) 0
def Lg:∀f u,u<10^f->Og (lG f u)=u
 |0,u,h=>by
   have:u=0:=by simpa using h
   rw[this];rfl
 |f+1,u,h=>by
   rw[lG];split
   .show 10*0+((UInt8.ofNat (48+u)).toNat-48)=u;rw[Ps];omega
   .rw[Og,yz];show 10*Og (lG f (u/10))+((UInt8.ofNat (48+u%10)).toNat-48)=u;rw[Lg f (u/10) (Nat.div_lt_of_lt_mul (by rw[tg];exact h)),Ps];omega
def qjR{i j:Nat}(b:i<1000000)(a:j<1000000)(h:gK (i:Int)=gK (j:Int)):i=j:=by
 have e:∀n:Nat,gK (n:Int)=lG 20 n:=λ n=>by unfold gK;rw[ifN];rfl
 rw[e,e]at h;rw[<-Lg 20 i (by omega),h,Lg 20 j (by omega)]
def Uv:∀f u,∀c∈lG f u,ew (c.toNat:Int)=O
 |0,u,c,h=>by cases h
 |f+1,u,c,h=>by
   have a:∀n:Nat,n<10->ew ((UInt8.ofNat (48+n)).toNat:Int)=O:=by decide
   rw[lG]at h;split at h
   .next b=>rw[bW.1 h];exact a u b
   .obtain h|h:=bc.1 h
    .exact Uv f _ c h
    .rw[bW.1 h];exact a _ (qR _ (by decide))
def qiz{c:aA}(b:iL (c.toNat:Int)=O)(i:Nat):dL ([c]++gK (i:Int))=O:=by
 have e:gK (i:Int)=lG 20 i:=by unfold gK;rw[ifN];rfl
 have f:=Km (i:Int);unfold dL;simp only[aK,cC,bJ];refine⟨⟨⟨pI _,?_⟩,b⟩,λ d a=>?_⟩
 .show(gK (i:Int)).length+1<=24;omega
 .obtain rfl|a:=bi.1 a
  .unfold ew;rw[b];rfl
  .rw[e]at a;exact Uv _ _ d a
def kyV(x:T):aa aA:=gK x.sort++x.name
def qmU{x y:T}(f:0<=x.sort/\x.sort<=5)(e:0<=y.sort/\y.sort<=5)(h:kyV x=kyV y):x.sort=y.sort/\x.name=y.name:=by
 have a:∀n:Nat,n<6->gK (n:Int)=[UInt8.ofNat (48+n)]:=by decide
 unfold kyV at h;have e1:x.sort=(x.sort.toNat:Int):=by omega
 have d:y.sort=(y.sort.toNat:Int):=by omega
 rw[e1,d,a _ (by omega),a _ (by omega)]at h;let⟨b,c⟩:=Z0 h;have b:=aY UInt8.toNat b;rw[Ps,Ps]at b;exact⟨by omega,c⟩
abbrev NM:=aa (aa aA×aa aA)
abbrev eqS:aa aA->aa aA->Bool:=veq .str
def G8{a b:aa aA}:eqS a b=O↔a=b:=cF
def Lm{K X:Type}{e:K->K->Bool}{k:K}(v:X):∀{s:aa (K×X)},bS e s k=U->I (fQ e s k v)=I s+1
 |[],_=>rfl
 |p::s,h=>by
   rw[bS]at h;rw[fQ];cases a:e k p.1 with
   |true=>rw[a]at h;cases h
   |false=>rw[a]at h;exact aY (· + 1) (Lm v h)
structure ig (c:UInt8) (s:NM):Prop where
 v:∀k v,bS eqS s k=Z v->∃i:Nat,i<s.length/\v=[c]++gK (i:Int)
 inj:∀k k' v,bS eqS s k=Z v->bS eqS s k'=Z v->k=k'
def ig.nil(c:aA):ig c []:=⟨λ k v h=>(by cases h),λ k a v h=>(by cases h)⟩
def ig.put{c:aA}{s:NM}(h:ig c s){k:aa aA}(o:bS eqS s k=U)(q:I s<100000):ig c (fQ eqS s k ([c]++gK (I s:Int))):=by
 have n:=Lm ([c]++gK (I s:Int)) o
 have a:∀j,bS eqS s j≠Z ([c]++gK (I s:Int)):=λ j b=>by
  let⟨i,p,e⟩:=h.v _ _ b;have:=qjR (by omega) (by omega) (Z0 e).2;omega
 constructor
 .intro j v b;rw[xb G8]at b;rw[n];by_cases e:j=k
  .rw[ag e]at b;cases b;exact⟨I s,tk _,rfl⟩
  .rw[af e]at b;let⟨i,p,e⟩:=h.v _ _ b;exact⟨i,by omega,e⟩
 .intro m l v f d;rw[xb G8]at f d;by_cases e1:m=k
  .by_cases g:l=k
   .rw[e1,g]
   .rw[ag e1]at f;rw[af g]at d;cases f;exact absurd d (a l)
  .rw[af e1]at f;by_cases g:l=k
   .rw[ag g]at d;cases d;exact absurd f (a m)
   .rw[af g]at d;exact h.inj _ _ _ f d
def bF(s:NM)(x:T):T:=.mk x.kind (cX eqS [] s (kyV x)) x.sort x.kids
def AZ(s a:NM):Prop:=∀k v,bS eqS s k=Z v->bS eqS a k=Z v
def qkJ{s a:NM}(h:AZ s a){t:T}(d:∀x∈be 1 t,∃v,bS eqS s (kyV x)=Z v):sub (bF a) t=sub (bF s) t:=qmI t λ x c=>by
 let⟨v,b⟩:=d x c;unfold bF cX;rw[b,h _ _ b]
def Mr{c:aA}(t:T):∀s:NM,(∀u,u=t->aN u=0)->ig c s->I s+size t<=100000->
  ∃b,Ev (λ m _=>jV m t [c] s) ((b,()),(sub (bF b) t,()))/\ig c b/\AZ s b/\I b<=I s+size t/\∀x∈be 1 t,∃v,bS eqS b (kyV x)=Z v:=by
 induction t using T.ind with
 |h t ih=>
   intro s r w S;have r:=r t rfl;have ar:=dK t;have ab:size t=1+szL t.kids:=by rw[bX];rfl
   have A:∀(d i:Nat) (s:NM) (E:Int) (D:aa aA) (o:Int) (n:aa T),ig c s->I t.kids=i+d->I s+szL (t.kids.drop i)<=100000->I n+d<=100000->
     ∃b,Ev (λ m k=>rc m (jV m) k [c] t.kids (I t.kids) i s 0 [] 0 E D o [] n) ((b,()),(T.mk E D o (n++(t.kids.drop i).map (sub (bF b))),()))/\ig c b/\AZ s b/\I b<=I s+szL (t.kids.drop i)/\∀y∈t.kids.drop i,∀x∈be 1 y,∃v,bS eqS b (kyV x)=Z v:=by
    intro d
    induction d with
    |zero=>
      intro i s E D o n w hi S ha;refine⟨s,aF ?_,w,λ _ _ h=>h,kM _ _,?_⟩
      .simp only[PT,B5];exact ak (bg.2 (by omega)) (ay (by rw[qoX (by omega),nJ,bZ]))
      .rw[qoX (by omega)];exact λ y C=>by cases C
    |succ d P=>
      intro i s E D o n w hi S ha;obtain⟨x,j⟩:∃x,t.kids[i]?=Z x:=⟨_,aV (by omega)⟩
      have hm:=aP j
      have K:t.kids.drop i=x::t.kids.drop (i+1):=by
       rw[Pl (by omega)];rw[aV (by omega)]at j;rw[kO j]
      rw[K,dz]at S;let⟨f,e1,Q,F,X,G⟩:=ih x hm s (λ u hu=>by rw[hu];exact qd r hm) w (by omega);let⟨s2,e2,i2,M,n2,k2⟩:=P (i+1) f E D o (n++[sub (bF f) x]) Q (by omega) (by omega) (by rw[aU];simp only[bG,fE];omega);refine⟨s2,aF ?_,i2,λ k v h=>M k v (F k v h),by rw[K,dz];omega,λ y C=>?_⟩
      .simp only[PT,B5,aH];refine aj (bf.2 (by omega)) (aw (a:=x) (by rw[fJ];exact j) (ai e1 (aj (cx) ?_)));have W:iw .i64 (aD (i:Int) 1)=((i+1:Nat):Int):=by rw[show(1:Int)=((1:Nat):Int)from rfl,xq,eR]
       rw[W];rw[bE]at e2;rw[K,aZ,qkJ M G];exact e2
      .rw[K]at C;obtain rfl|C:=bi.1 C
       .exact λ z hz=>(G z hz).elim λ v h=>⟨v,M _ _ h⟩
       .exact k2 y C
   have done:∀f:NM,ig c f->AZ s f->I f<=I s+1->(t.kind=1->∃v,bS eqS f (kyV t)=Z v)->
     ∃b,Ev (λ m _=>rc m (jV m) m [c] t.kids (I t.kids) 0 f 0 [] 0 t.kind (if t.kind=1 then cX eqS [] f (kyV t)else t.name) t.sort [] []) ((b,()),(sub (bF b) t,()))/\ig c b/\AZ s b/\I b<=I s+size t/\∀x∈be 1 t,∃v,bS eqS b (kyV x)=Z v:=by
    intro f p h2 h3 h4;let⟨b,e,Q,F,X,G⟩:=A (I t.kids) 0 f t.kind (if t.kind=1 then cX eqS [] f (kyV t)else t.name) t.sort [] p (by omega) (by rw[dl];omega) (by rw[fE];omega);rw[dl]at X G e
    have N:T.mk t.kind (if t.kind=1 then cX eqS [] f (kyV t)else t.name) t.sort ([]++t.kids.map (sub (bF b)))=sub (bF b) t:=by
     rw[fS,fW];by_cases q:t.kind=1
     .have h5:t.kids=[]:=(nX r).elim (λ h=>h.2) λ h=>by omega
      let⟨v,r⟩:=h4 q;rw[ag q,ag q];unfold bF cX;rw[r,F _ _ r,h5];rfl
     .rw[af q,af q]
    rw[N]at e;refine⟨b,bj (L:=λ m k=>rc m (jV m) k [c] t.kids (I t.kids) 0 f 0 [] 0 t.kind (if t.kind=1 then cX eqS [] f (kyV t)else t.name) t.sort [] []) e,Q,λ k v h=>F k v (h2 k v h),by omega,λ x j=>?_⟩;rw[gU]at j;obtain j|j:=bc.1 j
    .split at j
     .next q=>rw[bW.1 j];exact(h4 q).elim λ v h=>⟨v,F _ _ h⟩
     .cases j
    .let⟨l,hl,j⟩:=jB.1 j;obtain⟨k,q,rfl⟩:=bu.1 hl;exact G k q x j
   have ad:=size_pos t;by_cases p:t.kind=1
   .have H:=Ko r p;have hn:=Km t.sort;cases B:bS eqS s (kyV t)with
    |none=>
      let⟨b,e,h⟩:=done _ (w.put B (by omega)) (λ k v h=>by
       rw[xb G8,af λ g=>by rw[g,B]at h;cases h];exact h) (by rw[Lm _ B];exact al _) λ _=>⟨_,by rw[xb G8,ag rfl]⟩
      refine⟨b,aJ ?_,h⟩;simp only[IR,wC,aH];have an:=Km (I s:Int);refine aj (aI.2 p) (ai (LU t.sort H.1) (aj (L8) (aj (by show aT (cX eqS [] s (kyV t)) []=O;unfold cX;rw[B];rfl) (ai (LU (I s:Int)) (aj (L8 (by show 1+_<_;omega)) ?_)))));rw[ag p]at e;exact e
    |some v=>
      let⟨i,hi,R⟩:=w.v _ _ B;let⟨b,e,h⟩:=done s w (λ _ _ h=>h) (eO _) λ _=>⟨v,B⟩
      refine⟨b,aJ ?_,h⟩;simp only[IR,wC,aH];refine aj (aI.2 p) (ai (LU t.sort H.1) (aj (L8) (ak (by show aT (cX eqS [] s (kyV t)) []=Y;unfold cX;rw[B,R];rfl) ?_)));rw[ag p]at e;exact e
   .let⟨b,e,h⟩:=done s w (λ _ _ h=>h) (eO _) λ h=>absurd h p;refine⟨b,aJ ?_,h⟩;simp only[IR,wC,aH];rw[af p]at e;exact ak (aG.2 p) e
def TT{c:aA}(y:iL (c.toNat:Int)=O){s:NM}(z:ig c s){t:T}(n:aN t=0)(a:∀x∈be 1 t,∃v,bS eqS s (kyV x)=Z v):aN (sub (bF s) t)=0:=by
 have w:=dt n
 have d:∀x∈be 1 t,size (bF s x)=size x/\bU (bF s x)=bU x/\cn (bF s x)=0:=λ x b=>by
  have e:=xG b;have m:=Ei t n x b;let⟨v,o⟩:=a x b;obtain⟨i,_,rfl⟩:=z.v _ _ o;have j:x.kids=[]:=(qb n x b).2;refine⟨by rw[bX,bX x];rfl,by rw[jq,jq x];rfl,VN ?_ λ k a=>?_⟩
  .let⟨C,B,_⟩:=Ko m e;show iY x.kind x.sort (I x.kids) (dL (cX eqS [] s (kyV x)))=0;unfold cX iY;rw[o,j,ag (.inl e),af (by simp only[fE];omega)];show(if dL ([c]++gK (i:Int))=O then(0:Int)else 2)=0;rw[qiz y,ag rfl]
  .have a:k∈x.kids:=a;rw[j]at a;cases a
 have A:∀u:T,(∀x∈be 1 u,size (bF s x)=size x/\bU (bF s x)=bU x/\cn (bF s x)=0)->size (sub (bF s) u)=size u/\bU (sub (bF s) u)=bU u:=by
  intro u
  induction u using T.ind with
  |h u r=>
    intro b;rw[gU]at b;rw[fW];by_cases d:u.kind=1
    .rw[ag d];let⟨q,p,_⟩:=b u (by rw[ag d];simp);exact⟨q,p⟩
    .rw[af d];rw[af d,fS]at b;have g:=λ k a=>r k a λ x l=>b x (jB.2 ⟨_,eF a,l⟩);rw[bX,jq,bX u,jq u];show 1+((u.kids.map (sub (bF s))).map size).sum=_/\((u.kids.map (sub (bF s))).map bU).foldl max 0+1=_;rw[iu,iu];rw[mL (f:=size ∘ sub (bF s)) (g:=size) λ k a=>(g k a).1,mL (f:=bU ∘ sub (bF s)) (g:=bU) λ k a=>(g k a).2];exact⟨rfl,rfl⟩
 let⟨E,D⟩:=A t d;exact KP (Kr t w.1 λ x b=>(d x b).2.2)
def qoj{a b:T}(f:aN a=0)(d:aN b=0):∃r e,Ev (λ m _=>Eo m a b) (r,e)/\ss r/\I r<=1000/\∀θ,Sol θ [(a,b)] []->e=0/\∀p∈r,θ p.1=sub θ p.2:=by
 let⟨_,q,t⟩:=dt f;let⟨_,o,s⟩:=dt d
 have g:I (dc [(a,b)])<=1000:=by
  have h:=Vc (T.mk 3 [] 0 ([(a,b)].flatMap λ p=>[p.1,p.2]));rw[bX]at h;have h:I (dc [(a,b)])<=1+(size a+(size b+0)):=h;omega
 let⟨r,e,n,l,j,i⟩:=qlC 1000 (szQ [(a,b)]) 0 [(a,b)] [] ⟨λ p c=>by rw[bW.1 c];exact⟨f,d⟩,λ p c=>(by cases c),λ A p B h=>(by
  cases A with
  |nil=>
    cases h;show 0+7*te (a,b)<=0+280;unfold te;simp only;omega
  |cons x A=>cases A<;>cases h),by omega,by show 0+_<=_;omega⟩ g (al _)
 refine⟨r,e,aJ ?_,l,j,i⟩;simp only[qft,I6,aH];refine ai (a:=0) (aJ ?_) (ak rfl (ai (a:=(r,e)) (aJ ?_) (ap _)))
 .simp only[Q0,C0,aH];exact ai (jG a) (ak (by rw[f];rfl) (ai (jG b) (ay d)))
 .simp only[qfv,CX];exact bj (L:=λ m k=>mP m k [(a,b)] []) n
def LL{l:aa (T×T)}{x u:T}(h:lkA l x=Z u):(x,u)∈l:=by
 induction l with
 |nil=>cases h
 |cons a l b=>
   rw[xh]at h;by_cases e:a.1=x
   .rw[ag e]at h;cases h;subst e;exact aW ..
   .rw[af e]at h;exact aS _ (b h)
def lkS(r:aa (T×T))(x:T):T:=(lkA r x).getD x
def qmg{r:aa (T×T)}(q:ss r)(C:I r<=1000)(t:T):cn t=0->size t<=100000->Ev (λ m _=>gm m r t) (sub (lkS r) t):=by
 induction t using T.ind with
 |h t w=>
   intro s B;have z:=dK t;apply aJ;simp only[qeI,CH]
   have kids:=bA (P:=λ i=>Ev (λ m k=>(jU m (gm m) k).2 r t.kids (I t.kids) i 0 [] 0 t.kind t.name t.sort [] ((t.kids.take i).map (sub (lkS r)))) (.mk t.kind t.name t.sort (t.kids.map (sub (lkS r))))) t.kids (by omega)
    (λ a=>by
     apply aF;simp only[Qu,CS];refine ak a (ay ?_);rw[cV])
    (λ i x b v a n l c=>by
     apply aF;simp only[Qu,CS,aH];have j:=aP b;have d:=du t x j;have o:I ((t.kids.take i).map (sub (lkS r)))<=I t.kids:=by rw[ce];exact List.length_take_le' i t.kids
     refine aj a (aw n (ai (w x j (xc s j) (by omega)) (aj (cx) ?_)));rw[l];rw[gn b,ft]at c;exact c)
   have f:=bA (P:=λ i=>Ev (λ m k=>(jU m (gm m) k).1 r r (I r) i t.kind t.name t.sort t.kids 0 [] 0 []) (match lkA (r.drop i) t with
    |some u=>u
    |none=>.mk t.kind t.name t.sort (t.kids.map (sub (lkS r))))) r (by omega)
    (λ a=>by
     apply aF;simp only[Ql,Cv];rw[ej];exact ak a (kids 0 (aL _)))
    (λ i x b v a n l c=>by
     apply aF;simp only[Ql,Cv,aH,nv];have A:=(dt (q x (aP b)).1.2.2).2.1;rw[v,xh];refine aj a (aw n (ai (oQ x.1 (by omega) t (by omega)) ?_));rw[GG];by_cases e:x.1=t
     .rw[ag e];exact aj (iy.2 e) (ap _)
     .rw[af e,l];exact ak (tw.2 λ g=>e (iy.1 g)) c)
   have p:=f 0 (aL _);rw[dl]at p
   have y:(match lkA r t with
    |some u=>u
    |none=>.mk t.kind t.name t.sort (t.kids.map (sub (lkS r))))=sub (lkS r) t:=by
    rw[fW];by_cases d:t.kind=1
    .rw[ag d];unfold lkS;cases lkA r t with
     |some u=>rfl
     |none=>
       have o:t.kids=[]:=(EL s).elim (λ h=>h.2) λ h=>by omega
       show T.mk t.kind t.name t.sort (t.kids.map _)=t;rw[o,nJ,<-o,nv]
    .rw[af d];cases h:lkA r t with
     |none=>rfl
     |some u=>exact absurd (q _ (LL h)).1.1 d
   rw[y]at p;exact bj (L:=λ m k=>(jU m (gm m) k).1 r r (I r) 0 t.kind t.name t.sort t.kids 0 [] 0 []) p
def YD(l:aa (T×T)):Prop:=l.Pairwise λ a b=>a.1=b.1->a.2=b.2
def HX(l:aa (T×T))(x:T):ac (T×T):=match lkA l x with
 |Z u=>if bY u x=O then U else Z (x,u)
 |U=>U
open Classical in
def pz(p t:T):aa (T×T)×Int:=if(mtR p t []).2=true/\YD (mtR p t []).1 then((mD p).filterMap (HX (mtR p t []).1),0)else([],11)
def Wo(n:Nat):SmK n []:=λ _ _ h=>by cases h
def S3(p t:T)(d:aN p=0)(w:aN t=0):Ev (λ m _=>yX m p t) (pz p t):=by
 obtain⟨_,M,_⟩:=dt d;obtain⟨_,t1,_⟩:=dt w;apply aJ;simp only[qf5,Dn,aH];refine ai (a:=0) (aJ ?_) ?_
 .simp only[Q0,C0,aH];refine ai (jG p) (ak (by rw[d];rfl) (ai (jG t) (ay w)))
 refine ak rfl (ai (qkR p t [] (by omega) (by omega) (Wo _)) ?_);obtain⟨D,L⟩:=qmu p t [] d w λ _ _ h=>by cases h
 have c:=λ h=>Wt p t d h;have y:=XA 1000000 p t [] (Wo _) (by omega);have j:=λ g=>Wb (mtR p t []).1 g [];unfold pz;by_cases q:(mtP p t []).2=O
 .obtain⟨C,K⟩:=D.1 q;have g:∀a∈(mtR p t []).1,a.1.kind=1/\a.1.kids=[]:=λ a B=>qb d _ (by rw[<-c C];exact eF B);obtain⟨Q,N⟩:=j g;rw[ag ⟨C,(Q.1 K).2⟩];refine ak (bnf.2 q) (ai (qlH p) ?_)
  have n:∀x∈mD p,∃u,lkA (mtR p t []).1 x=Z u/\bS eqK (mtP p t []).1 (kOf x)=Z u:=λ x f=>by
   have F:=(Gf p x).1 f;obtain⟨u,r⟩:=qlg (l:=(mtR p t []).1) (by rw[c C];exact F);refine⟨u,r,?_⟩;rw[(L q).1,N K x (qb d x F)];exact r
  have v:I (mD p)<=400:=bR (Vc p) M;have e:∀x∈mD p,size x<=400:=λ x f=>by have:=Fo 1 p x ((Gf p x).1 f);omega
  generalize mD p=vs at n v e |-
  have s:=bA (P:=λ i=>∀b:aa (T×T),I b+I (vs.drop i)<=400->Ev (λ m k=>wI m k vs (I vs) i (mtP p t []).1 b) (b++(vs.drop i).filterMap (HX (mtR p t []).1),0)) vs (by omega)
   (λ z b _=>by
    apply aF;simp only[QM,C3];apply ak z;rw[ej];exact ay (by simp))
   (λ i x f G z hg X H b W=>by
    apply aF;simp only[QM,C3,aH];have E:=aP f;obtain⟨u,r,o⟩:=n x E;have S:=y _ _ o;have R:=e x E;rw[G,bG]at W;refine aj z (aw hg (ai (Aw x) ?_))
    have e2:cX eqK (T.mk 0 [] 0 []) (mtP p t []).1 ((kOf x).1,(kOf x).2)=u:=by
     show cX eqK _ _ (kOf x)=u;unfold cX;rw[o];rfl
    rw[e2];apply ai (Aa u x);have A:HX (mtR p t []).1 x=if bY u x=O then U else Z (x,u):=by unfold HX;rw[r]
    rw[G,Pg,A,X];cases hs:bY u x with
    |true=>exact ak rfl (by rw[ag rfl];exact H b (by omega))
    |false=>
      refine aj rfl (aj (cx) ?_);rw[af (by decide)];have:=H (b++[(x,u)]) (by rw[aU];simp only[bG,fE];omega);rw[bE]at this;exact this)
  have:=s 0 (aL _) [] (by rw[dl,fE];omega);grind [Ev.diag]
 .rw[af λ h=>q (D.2 ⟨h.1,?_⟩)]
  .exact aj (bnt.2 (by simpa using q)) (ap _)
  .have g:∀a∈(mtR p t []).1,a.1.kind=1/\a.1.kids=[]:=λ a B=>qb d _ (by rw[<-c h.1];exact eF B);exact(j g).1.2 ⟨λ _ _ _ h=>(by cases h),h.2⟩
def qm4(p:T):∀t,aN p=0->aN t=0->(mtR p t []).2=O->(∀a∈(mtR p t []).1,qI a.1.sort a.2)/\∀θ:T->T,(∀a∈(mtR p t []).1,θ a.1=a.2)->sub θ p=t:=by
 induction p using T.ind with
 |h p B=>
   intro t q A b;rw[AH]at b |-
   by_cases l:p.kind=1
   .rw[ag l]at b |-
    refine⟨λ a d=>?_,λ θ c=>?_⟩
    .rw[fS,bW]at d;rw[d];exact bH (p:=p.sort=0\/(t.kind≠3/\t.sort=p.sort)) b
    .rw[qh l];exact c (p,t) (by simp)
   .rw[af l]at b |-
    by_cases f:p.kind=2
    .have e:p.kids=[]:=(nX q).elim (λ h=>h.2) λ h=>by omega
     rw[ag f]at b |-
     refine⟨λ a d=>(by cases d),λ θ _=>?_⟩;rw[<-iy.1 b,fW,af l,e,nJ,<-e,nv]
    .rw[af f]at b |-
     by_cases e:alk p t=Y
     .rw[ag e]at b;cases b
     .rw[af e]at b |-
      have i:=bH (show alk p t=O by simpa using e)
      have n:∀(ps:aa T),(∀x∈ps,∀t,aN x=0->aN t=0->(mtR x t []).2=O->(∀a∈(mtR x t []).1,qI a.1.sort a.2)/\∀θ:T->T,(∀a∈(mtR x t []).1,θ a.1=a.2)->sub θ x=t)->(∀x∈ps,aN x=0)->∀ts:aa T,(∀x∈ts,aN x=0)->I ps=I ts->(mtL (ps.map mtR) ts []).2=O->(∀a∈(mtL (ps.map mtR) ts []).1,qI a.1.sort a.2)/\∀θ:T->T,(∀a∈(mtL (ps.map mtR) ts []).1,θ a.1=a.2)->ps.map (sub θ)=ts:=by
       intro ps
       induction ps with
       |nil=>
         intro _ _ ts _ m _;refine⟨λ a d=>by simp[mtL]at d,λ θ _=>?_⟩;exact(cJ m.symm).symm
       |cons x ps o=>
         intro g w ts k m b;cases ts with
         |nil=>cases m
         |cons y ts=>
           rw[aZ,mtL]at b |-
           by_cases r:(mtR x y []).2=O
           .rw[ag r,zW]at b |-
            let⟨v,s⟩:=g x (aW ..) y (w x (aW ..)) (k y (aW ..)) r;let⟨g3,D⟩:=o (λ z j=>g z (aS _ j)) (λ z j=>w z (aS _ j)) ts (λ z j=>k z (aS _ j)) (by simpa using m) b;refine⟨λ a d=>(bc.1 d).elim (v a) (g3 a),λ θ c=>?_⟩;rw[aZ,s θ λ a d=>c a (H8 _ d),D θ λ a d=>c a (yt _ d)]
           .rw[af r]at b;cases b
      let⟨v,s⟩:=n p.kids B (λ x g=>qd q g) t.kids (λ x g=>qd A g) i.2.2.2 b;refine⟨v,λ θ c=>?_⟩
      have so:∀u:T,aN u=0->u.kind=3->u.sort=0:=λ u C h=>by
       have f:=EJ (dt C).1;unfold de iY at f;rw[ifN,ag h]at f;by_cases e:u.sort≠0
       .rw[ag e]at f;cases f
       .exact Classical.not_not.1 e
      rw[fW,af l,s θ c,i.1,<-i.2.1,i.2.2.1,so p q i.1,<-so t A i.2.1,nv]
def X2:∀{l:aa (T×T)},YD l->∀a∈l,lkA l a.1=Z a.2
 |b::l,h,a,c=>by
   let⟨f,d⟩:=yy.1 h;rw[xh];obtain rfl|c:=bi.1 c
   .exact ag rfl
   .by_cases e:b.1=a.1
    .rw[ag e,f a c e]
    .rw[af e];exact X2 d a c
def WD{p t:T}(d:aN p=0)(g:aN t=0)(h:(pz p t).2=0):∃θ,sub θ p=t/\∀x∈be 1 p,qI x.sort (θ x):=by
 unfold pz at h;split at h
 .rename_i i;let⟨f,j⟩:=i;let⟨l,k⟩:=qm4 p t d g f;have e:∀a∈(mtR p t []).1,lkS (mtR p t []).1 a.1=a.2:=λ a b=>by unfold lkS;rw[X2 j a b];rfl
  refine⟨_,k _ e,λ x c=>?_⟩;rw[<-Wt p t d f]at c;obtain⟨a,b,rfl⟩:=bu.1 c;rw[e a b];exact l a b
 .cases h
def Sj{s:NM}{x y:T}(b:x.kind=1/\x.kids=[])(a:y∈be 1 (bF s x)):y=bF s x:=by
 rw[Fb (x:=bF s x) b]at a;exact bW.1 a
def UV{c:aA}{s:NM}(n:ig c s){p:T}(d:aN p=0)(k:∀x∈be 1 p,∃v,bS eqS s (kyV x)=Z v){x y:T}(b:x∈be 1 p)(a:y∈be 1 p)(h:bF s x=bF s y):x=y:=by
 let⟨v,i⟩:=k x b;let⟨w,g⟩:=k y a;have e:cX eqS [] s (kyV x)=cX eqS [] s (kyV y):=by have:=aY T.name h;exact this
 unfold cX at e;rw[i,g]at e;have e:v=w:=e
 have j:∀z∈be 1 p,0<=z.sort/\z.sort<=5:=λ z f=>by
  let⟨m,l,_⟩:=Ko (Ei p d z f) (xG f);exact⟨m,l⟩
 let⟨e1,o⟩:=qmU (j x b) (j y a) (n.inj _ _ _ i (e▸g));exact LW (qb d x b) (qb d y a) (Prod.ext o e1)
def qiB{b a:NM}(l:ig 97 b)(k:ig 98 a){x y:T}(g:∃v,bS eqS b (kyV x)=Z v)(f:∃v,bS eqS a (kyV y)=Z v):bF b x≠bF a y:=λ h=>by
 let⟨v,d⟩:=g;let⟨w,c⟩:=f;have e:cX eqS [] b (kyV x)=cX eqS [] a (kyV y):=by have:=aY T.name h;exact this
 unfold cX at e;rw[d,c]at e;have e:v=w:=e;obtain⟨i,_,rfl⟩:=l.v _ _ d;obtain⟨j,_,rfl⟩:=k.v _ _ c;exact absurd (Z0 e).1 (by decide)
open Classical in
theorem Ua{p q t:T}{c f:NM}(n:aN p=0)(m:aN q=0)(l:aN t=0)(w:ig 97 c)(u:ig 98 f)(s:∀x∈be 1 p,∃v,bS eqS c (kyV x)=some v)(r:∀x∈be 1 q,∃v,bS eqS f (kyV x)=some v)(D:(pz p t).2=0)(C:(pz q t).2=0):
  ∃θ,Sol θ [(sub (bF c) p,sub (bF f) q)] []/\sub θ (sub (bF c) p)=t:=by
 obtain⟨j,K,F⟩:=WD n l D
 obtain⟨i,H,E⟩:=WD m l C
 obtain⟨_,B,A⟩:=dt l
 let θ:T->T:=λ y=>if h:∃x,x∈be 1 p/\bF c x=y then j h.choose else if h:∃x,x∈be 1 q/\bF f x=y then i h.choose else y
 have e1:∀x∈be 1 p,θ (bF c x)=j x:=λ x b=>by
  have h:∃x',x'∈be 1 p/\bF c x'=bF c x:=⟨x,b,rfl⟩
  show dite _ _ _=_
  rw[dif_pos h,UV w n s h.choose_spec.1 b h.choose_spec.2]
 have z:∀x∈be 1 q,θ (bF f x)=i x:=λ x b=>by
  have h:∃x',x'∈be 1 q/\bF f x'=bF f x:=⟨x,b,rfl⟩
  show dite _ _ _=_
  rw[dif_neg λ⟨x',k,e⟩=>qiB w u (s x' k) (r x b) e,dif_pos h,UV u m r h.choose_spec.1 b h.choose_spec.2]
 have o:sub θ (sub (bF c) p)=t:=by
  rw[FJ θ (bF c) j p λ x b=>by rw[qh (x:=bF c x) (show x.kind=1 from xG b)];exact e1 x b,K]
 have G:sub θ (sub (bF f) q)=t:=by
  rw[FJ θ (bF f) i q λ x b=>by rw[qh (x:=bF f x) (show x.kind=1 from xG b)];exact z x b,H]
 refine⟨θ,⟨λ y d=>?_,λ a g=>?_,λ a g=>?_,λ a g=>(by cases g),λ a g=>(by cases g)⟩,o⟩
 .obtain⟨a,g,d⟩:=(lX _ _).1 d
  rw[bW.1 g]at d
  rcases d with d|d
  .obtain⟨x,b,d⟩:=KG p d
   rw[Sj (qb n x b) d,e1 x b]
   exact F x b
  .obtain⟨x,b,d⟩:=KG q d
   rw[Sj (qb m x b) d,z x b]
   exact E x b
 .rw[bW.1 g];exact o.trans G.symm
 .rw[bW.1 g]
  show size (sub θ (sub (bF c) p))<=400/\bU (sub θ (sub (bF c) p))<=40
  rw[o];exact⟨B,A⟩
def Mh{a b:aa aA}(h:I a+I b<2^62):nl a b=O:=by
 unfold nl;exact tv (by omega)
def nmL:aa (aa aA):=[[112,97,105,114],[101,110,99],[97,101,110,99],[112,107],[115,105,103,110],[104,97,115,104],[120,111,114],[122,101,114,111],[101,120,112],[109,117,108],[105,110,118],[111,110,101],[115,107],[115,104,107],[110,101,119]]
def esL:aa (aa aA×(Int×Int)):=[([112,97,105,114],(2,2)),([101,110,99],(2,2)),([97,101,110,99],(2,2)),([112,107],(1,1)),([115,105,103,110],(2,2)),([104,97,115,104],(1,1)),([120,111,114],(2,8)),([122,101,114,111],(0,0)),([101,120,112],(2,2)),([109,117,108],(2,8)),([105,110,118],(1,1)),([111,110,101],(0,0)),([115,107],(1,1)),([115,104,107],(2,2)),([110,101,119],(1,8))]
def ny(n:aa aA):Bool:=aT n gB||(aT n iN||aT n lD)
def vR:aa (aa aA)->aa aA->Nat->Int
 |[],_,_=>0
 |r::l,n,i=>if aT r n=O then(i:Int)else vR l n (i+1)
def hdE(n:aa aA):Int:=iw .u8 (iw .i64 (aD 16 (vR nmL n 0)))
def bI:T->aa Int:=T.para λ t a=>if t.kind=2 then[iw .u8 t.sort,iw .u8 (I t.name)]++ln t.name else(if ny t.name then[hdE t.name]++[iw .u8 (I t.kids)]else[hdE t.name])++a.flatten
def M8(t:T):bI t=if t.kind=2 then[iw .u8 t.sort,iw .u8 (I t.name)]++ln t.name else(if ny t.name then[hdE t.name]++[iw .u8 (I t.kids)]else[hdE t.name])++(t.kids.map bI).flatten:=T.para_eq _ _
def okN(u:T):Prop:=(u.kind=2\/u.kind=3/\u.name∈nmL)/\I u.name<=24
def okE(t:T):Prop:=∀u∈eD t,okN u
def W6{t:T}(h:okE t):okN t:=h t (by rw[rT];exact aW ..)
def W0{t k:T}(h:okE t)(b:k∈t.kids):okE k:=λ u a=>h u (by
 rw[rT];exact aS _ (jB.2 ⟨_,bu.2 ⟨k,b,rfl⟩,a⟩))
def qiN(s:aa aA):I (ln s)=I s:=ce ..
def wU(s:aa Int):I (gI s)=I s:=ce ..
def JS(a b:aa Int):gI (a++b)=gI a++gI b:=ft ..
def qlb(s:aa aA):gI (ln s)=s:=by
 unfold gI ln;rw[iu];refine(mL (g:=id) λ c _=>?_).trans (List.map_id _);show UInt8.ofNat (Int.toNat ((c.toNat:Nat):Int))=c;rw[lL];exact UInt8.ofNat_toNat
def qof(t:T):okE t->I (bI t)<=26*size t:=by
 induction t using T.ind with
 |h t d=>
   intro h;have f:=(W6 h).2;rw[M8,bX];split
   .rw[aU,qiN];show 2+_<=_;omega
   .have c:∀l:aa T,(∀k∈l,k∈t.kids)->I ((l.map bI).flatten)<=26*(l.map size).sum:=by
      intro l
      induction l with
      |nil=>intro _;exact aL _
      |cons k l a=>
        intro b;have f:=d k (b k (aW ..)) (W0 h (b k (aW ..)));have i:=a λ x e=>b x (aS _ e);rw[aZ,O3,aU,aZ,ji];omega
    have:=c t.kids λ _ h=>h;rw[aU];have g:I (if ny t.name=O then[hdE t.name]++[iw .u8 (I t.kids)]else[hdE t.name])<=2:=by split<;>simp
    omega
def qmT{n:aa aA}(h:(bK n).2.2≠0)(a:pPl n=O):n∈nmL:=by
 have all:∀r∈dj,r.2.2.2≠3->r.1∈nmL:=by decide
 unfold pPl at a;unfold bK at h a;cases b:dj.find? λ r=>r.1==n with
 |none=>rw[b]at h;exact absurd rfl h
 |some r=>
   rw[b]at a;have e:=qoU b;have d:=List.find?_some b;have c:r.1=n:=by simpa using d
   rw[bnt,aG]at a;rw[<-c];exact all r e a
def qh5{t:T}(h:de t=0):I t.name<=24/\(t.kind=1\/t.kind=2\/t.kind=3)/\(t.kind≠3->t.kids=[]):=by
 unfold de iY at h
 have a:dL t.name=O->I t.name<=24:=λ a=>by
  unfold dL at a;simp only[aK,cC]at a;exact a.1.1.2
 cases b:dL t.name with
 |false=>
   rw[b]at h;simp only[wg,wh]at h;exfalso;revert h
   repeat' split
   all_goals omega
 |true=>
   rw[b]at h;refine⟨a b,?_,λ c=>?_⟩
   .revert h;repeat' split
    all_goals intro h;omega
   .apply cJ;revert h;repeat' split
    all_goals intro h;omega
def qnX(t:T):cn t=0->bL t=0->ll pPl t=O->be 1 t=[]->okE t:=by
 induction t using T.ind with
 |h t r=>
   intro v j e i;let⟨x,w⟩:=JJ v;let⟨p,o,n⟩:=qh5 x;rw[Fg,aK]at e;rw[gU]at i;let⟨f,q⟩:=mH.1 i;have c:t.kind≠1:=λ h=>by rw[ag h]at f;cases f
   intro u b;rw[rT]at b;obtain rfl|b:=bi.1 b
   .refine⟨?_,p⟩;obtain h|h|h:=o
    .exact absurd h c
    .exact .inl h
    .refine .inr ⟨h,?_⟩;let⟨z,_⟩:=rH h j;let⟨m,_⟩:=LH h z;have g:=e.1;rw[show(u.kind==3)=O from tu.2 h]at g;exact qmT m (by simpa using g)
   .let⟨l,s,b⟩:=jB.1 b;obtain⟨k,a,rfl⟩:=bu.1 s
    have d:t.kind=3:=by
     by_cases h:t.kind=3
     .exact h
     .rw[n h]at a;cases a
    let⟨_,y⟩:=rH d j;refine r k a (w k a) (y k a) ?_ ?_ u b
    .have:=bJ.1 e.2 (ll pPl k) (bu.2 ⟨k,a,rfl⟩);exact this
    .exact List.flatten_eq_nil_iff.1 q _ (bu.2 ⟨k,a,rfl⟩)
def qmf(n:aa aA):Ev (λ m _=>Ek m n) (vR nmL n 0):=by
 apply aJ;simp only[qf6,Dl];apply ai (a:=nmL) (aJ (ap _))
 have b:=bA (P:=λ i=>Ev (λ m k=>ub m k n nmL i) (vR (nmL.drop i) n i)) nmL (by decide)
  (λ c=>by
   apply aF;simp only[QE,Dh];refine ak c (ay ?_);rw[ej,vR])
  (λ i x j f c e d g=>by
   apply aF;simp only[QE,Dh];refine aj c (aw e ?_);rw[f,vR,d];refine am (λ h=>?_) λ h=>?_
   .rw[ag h];exact ap _
   .rw[af (by rw[h];decide)];exact g)
 exact bj (L:=λ m k=>ub m k n nmL 0) (b 0 (aL _))
def qnl(n:aa aA):Ev (λ m _=>DF m n) (ny n):=by
 apply aJ;simp only[qd2,IS];unfold ny;refine am (λ h=>ay ?_) λ h=>am (λ a=>ay ?_) λ a=>ay ?_
 .rw[show aT n gB=O from h];rfl
 .rw[show aT n gB=Y from h,show aT n iN=O from a];rfl
 .rw[show aT n gB=Y from h,show aT n iN=Y from a];rfl
def qnV:∀r∈esL,au (ieq r.2.1 r.2.2)=ny r.1:=by decide
def qjF(t:T)(i:Nat):((t.kids.take i).map bI).flatten.length<=(t.kids.map bI).flatten.length:=by
 have:=aY (λ l=>(l.map bI).flatten.length) (oP i t.kids);simp only[ft,Br,aU]at this;omega
def Ti{t x:T}{i:Nat}(a:t.kids[i]?=Z x):((t.kids.take (i+1)).map bI).flatten=((t.kids.take i).map bI).flatten++bI x:=by
 rw[gn a,ft,Br];simp
def qkp(t:T):okE t->size t<=100000->I (bI t)<=1000000000->Ev (λ m _=>lg m t) (gI (bI t)):=by
 induction t using T.ind with
 |h t r=>
   intro d A s;let⟨f,B⟩:=W6 d;apply aJ;simp only[qf7,Dg];obtain f|⟨f,j⟩:=f
   .rw[M8,ag f,JS,qlb];exact aj (aI.2 f) (aj (Mh (by rw[wU];show 2+_<_;omega)) (ap _))
   .have e:t.kind≠2:=by omega
    refine ak (aG.2 e) (ai (qmf t.name) (ai (qnl t.name) ?_));rw[show iw .u8 (iw .i64 (aD 16 (vR nmL t.name 0)))=hdE t.name from rfl];obtain⟨c,a⟩:∃c,c=(if ny t.name then[hdE t.name]++[iw .u8 (I t.kids:Int)]else[hdE t.name]):=⟨_,rfl⟩
    have p:bI t=c++(t.kids.map bI).flatten:=by rw[M8,af e,a]
    rw[p,aU]at s;have u:=dK t
    have l:=bA (P:=λ i=>Ev (λ m k=>ry m (lg m) k (gI (c++((t.kids.take i).map bI).flatten)) i t.kind t.name t.sort t.kids) (gI (bI t))) t.kids (by omega)
     (λ o=>by
      apply aF;simp only[QG,Dc];refine ak o (ay ?_);rw[cV,p])
     (λ i x n y o w v q=>by
      apply aF;simp only[QG,Dc,aH];have j:=aP n;have C:=du t x j;have z:=qjF t (i+1);rw[Ti n,aU]at z;refine aj o (aw w (ai (r x j (W0 d j) (by omega) (by omega)) (aj (Mh (by rw[wU,wU,aU];omega)) ?_)));rw[Ti n,<-bE,JS]at q;rw[v];exact q)
    have b:=l 0 (aL _);rw[qW,nJ,List.flatten_nil,bZ]at b;cases g:ny t.name with
    |true=>
      rw[g]at a;have a:c=[hdE t.name]++[iw .u8 (I t.kids:Int)]:=a;rw[a,JS]at b;exact aj rfl (aj (Mh (by rw[wU,wU];show 1+1<_;omega)) (bj (L:=λ m k=>ry m (lg m) k _ 0 t.kind t.name t.sort t.kids) b))
    |false=>
      rw[g]at a;have a:c=[hdE t.name]:=a;rw[a]at b;exact ak rfl (bj (L:=λ m k=>ry m (lg m) k _ 0 t.kind t.name t.sort t.kids) b)
def okC(i:Nat)(c:aA):Bool:=if i=0 then iL (c.toNat:Int)else ew (c.toNat:Int)
def nmE(s:aa aA)(b:Nat):Nat->Nat->ac Nat
 |0,_=>U
 |d+1,i=>match s[b+i]? with
   |U=>Z (b+i)
   |Z c=>cond (okC i c) (nmE s b d (i+1)) (Z (b+i))
def hdN(s:aa aA)(a:Nat):ac (T×Nat)×Nat:=match s[a]? with
 |U=>(U,a)
 |Z c=>if c.toNat<=5 then(match s[a+1]? with
   |U=>(U,a+1)
   |Z n=>if n.toNat<1\/24<n.toNat then(U,a+1)else match nmE s (a+2) n.toNat 0 with
     |Z e=>(U,e)
     |U=>(Z (.mk 2 ((s.take (a+2+n.toNat)).drop (a+2)) c.toNat [],0),a+2+n.toNat))
   else if c.toNat<16 then(U,a)else match esL[c.toNat-16]? with
    |U=>(U,a)
    |Z r=>if ny r.1=O then(match s[a+1]? with
      |U=>(U,a+1)
      |Z k=>if(k.toNat:Int)<r.2.1\/r.2.2<(k.toNat:Int)then(U,a+1)else(Z (.mk 3 r.1 0 [],k.toNat),a+2))
      else(Z (.mk 3 r.1 0 [],r.2.1.toNat),a+1)
def iwc(c:aA):iw .i64 ((c.toNat:Nat):Int)=(c.toNat:Int):=by
 have:=c.toNat_lt;exact eR
def iwn{n:Nat}(d:Nat)(h:n+d<2^62:=by omega):iw .i64 (aD (n:Int) (d:Int))=((n+d:Nat):Int):=by
 rw[xq,eR]
def Gj(s:aa aA)(a:Nat)(b d:Int)(j:I s<2^60):
  Ev (λ m _=>mO m (s,((a:Int),Y)) b d) (match s[a]? with
   |none=>(((s,((a:Int),O)),()),(b,()))
   |some c=>if b<=(c.toNat:Int)/\(c.toNat:Int)<=d then(((s,(((a+1:Nat):Int),Y)),()),((c.toNat:Int),()))else(((s,((a:Int),O)),()),(b,()))):=by
 apply aJ;simp only[qaZ,Ip];apply ak rfl;cases h:s[a]? with
 |none=>exact aj (lq.2 (by have:=wb.1 h;omega)) (ap _)
 |some c=>
   have k:=(dV.1 h).1;have e:av s (a:Int)=Z c:=by rw[fJ];exact h
   refine ak (pj.2 (by omega)) (aw e ?_);rw[iwc];by_cases g:b<=(c.toNat:Int)
   .refine ak (bg.2 g) (aw e ?_);rw[iwc];by_cases f:(c.toNat:Int)<=d
    .have e1:iw .i64 (aD (a:Int) 1)=((a+1:Nat):Int):=iwn 1;rw[e1]
     have i:iw .i64 (cr ((a+1:Nat):Int) 1)=(a:Int):=by
      rw[show cr ((a+1:Nat):Int) 1=(a:Int) by unfold cr;omega,eR]
     rw[i];refine ak (bg.2 f) (aw e (ay ?_));simp only[];rw[ag ⟨g,f⟩,iwc]
    .refine aj (bf.2 (by omega)) (ay ?_);simp only[];rw[af (λ h=>f h.2)]
   .refine aj (bf.2 (by omega)) (ay ?_);simp only[];rw[af (λ h=>g h.1)]
def MG{s:aa aA}{b:Nat}:∀{d i:Nat},nmE s b d i=U->∀j,j<d->b+i+j<I s
 |0,_,_,j,f=>by omega
 |d+1,i,h,j,f=>by
   unfold nmE at h;split at h
   .cases h
   .rename_i c g;have e:=(dV.1 g).1;cases a:okC i c with
    |false=>rw[a]at h;cases h
    |true=>
      rw[a]at h;have h:nmE s b d (i+1)=U:=h;cases j with
      |zero=>exact e
      |succ j=>have:=MG h j (by omega);omega
def qjC{α:Type}(i:Nat)(c:aA)(A B:ac α):(cond (ile 97 (c.toNat:Int)) (cond (ile (c.toNat:Int) 122) A (cond (ile 65 (c.toNat:Int)) (cond (au (ile (c.toNat:Int) 90)) (cond (ieq (i:Int) 0) B (cond (ilt (c.toNat:Int) 48) (cond (au (ieq (c.toNat:Int) 95)) (cond (au (ieq (c.toNat:Int) 35)) B A) A) (cond (ilt 57 (c.toNat:Int)) (cond (au (ieq (c.toNat:Int) 95)) (cond (au (ieq (c.toNat:Int) 35)) B A) A) A))) A) (cond (ieq (i:Int) 0) B (cond (ilt (c.toNat:Int) 48) (cond (au (ieq (c.toNat:Int) 95)) (cond (au (ieq (c.toNat:Int) 35)) B A) A) (cond (ilt 57 (c.toNat:Int)) (cond (au (ieq (c.toNat:Int) 95)) (cond (au (ieq (c.toNat:Int) 35)) B A) A) A))))) (cond (ile 65 (c.toNat:Int)) (cond (au (ile (c.toNat:Int) 90)) (cond (ieq (i:Int) 0) B (cond (ilt (c.toNat:Int) 48) (cond (au (ieq (c.toNat:Int) 95)) (cond (au (ieq (c.toNat:Int) 35)) B A) A) (cond (ilt 57 (c.toNat:Int)) (cond (au (ieq (c.toNat:Int) 95)) (cond (au (ieq (c.toNat:Int) 35)) B A) A) A))) A) (cond (ieq (i:Int) 0) B (cond (ilt (c.toNat:Int) 48) (cond (au (ieq (c.toNat:Int) 95)) (cond (au (ieq (c.toNat:Int) 35)) B A) A) (cond (ilt 57 (c.toNat:Int)) (cond (au (ieq (c.toNat:Int) 95)) (cond (au (ieq (c.toNat:Int) 35)) B A) A) A)))))=cond (okC i c) A B:=by
 generalize a:((c.toNat:Nat):Int)=x;unfold okC;rw[a];clear a;have b:ieq (i:Int) 0=J (i=0):=by rw[L5,wj,gH,gH];omega
 rw[b];simp only[L5];grind [ilt,ew,iL,sY,ile,au]
def VU(s:aa aA)(g:I s<2^60)(b n:Nat)(j:n<=24):∀d i,i+d=n->b+i<=I s->
  Ev (λ m k=>qX m k b n i s ((b+i:Nat):Int) Y) (match nmE s b d i with
   |some e=>(((s,((e:Int),O)),()),([],()))
   |none=>(((s,(((b+n:Nat):Int),Y)),()),((s.take (b+n)).drop b,())))
 |0,i,l,a=>by
   apply aF;simp only[Iq,yD];obtain rfl:i=n:=by omega
   apply ak (bg.2 (H6 _));refine aj (by unfold inb;rw[gH];omega) (aj (by unfold inb;rw[gH];omega) (ay ?_));rfl
 |d+1,i,l,a=>by
   apply aF;simp only[Iq,yD];refine aj (bf.2 (by omega)) (ak rfl ?_);rw[nmE];cases h:s[b+i]? with
   |none=>exact aj (lq.2 (by have:=wb.1 h;omega)) (ap _)
   |some c=>
     have p:=(dV.1 h).1;refine ak (pj.2 (by omega)) (aw (by rw[fJ];exact h) ?_);have f:=VU s g b n j d (i+1) (by omega) (by omega);have e1:iw .i64 (aD (i:Int) 1)=((i+1:Nat):Int):=iwn 1;have o:iw .i64 (aD ((b+i:Nat):Int) 1)=((b+(i+1):Nat):Int):=iwn (n:=b+i) 1;rw[e1,o];refine Bs (F:=λ m k=>cond (okC i c) (qX m k b n ((i+1:Nat):Int) s ((b+(i+1):Nat):Int) Y) (Z (((s,(((b+i:Nat):Int),O)),()),([],())))) ?_ λ m k=>qjC i c _ _;simp only[];cases okC i c with
     |true=>exact f
     |false=>exact ap _
def Vx(s:aa aA)(b a:Int):Ev (λ m k=>qX m k b 1 0 s a O) (((s,(a,O)),()),([],())):=by
 apply aF;simp only[Iq,yD];exact aj rfl (aj rfl (ap _))
def qnp(s:aa aA)(c:I s<2^60)(a:Nat):Ev (λ m _=>yG m (s,((a:Int),Y))) (match s[a]? with
  |none=>(((s,((a:Int),O)),()),([],()))
  |some n=>if n.toNat<1\/24<n.toNat then(((s,((a:Int),O)),()),([],()))else match nmE s (a+1) n.toNat 0 with
    |some e=>(((s,((e:Int),O)),()),([],()))
    |none=>(((s,(((a+1+n.toNat:Nat):Int),Y)),()),((s.take (a+1+n.toNat)).drop (a+1),()))):=by
 apply aJ;simp only[qa3,BD];have b:=Gj s a 1 24 c;cases h:s[a]? with
 |none=>
   rw[h]at b;exact ai b (bj (Vx s a a))
 |some n=>
   rw[h]at b;simp only[]at b |-
   by_cases d:n.toNat<1\/24<n.toNat
   .rw[ifN]at b;rw[ag d];exact ai b (bj (Vx s a a))
   .rw[ifP]at b;rw[af d];have f:=(dV.1 h).1;exact ai b (bj (VU s c (a+1) n.toNat (by omega) n.toNat 0 (by omega) (by omega)))
def oZ:Ev (λ m _=>nV m) esL:=by
 apply aJ;simp only[qbK,IA];exact ap _
def Aq{r:aa aA×(Int×Int)}(a:r∈esL):Ev (λ m _=>tC m (r.1,(r.2.1,r.2.2))) (ny r.1):=by
 apply aJ;simp only[qaI,In];exact ay (qnV r a)
def XK:∀r∈esL,0<=r.2.1/\r.2.1<=8/\r.2.2<=8:=by decide
def Gy(s:aa aA)(D:I s<2^60)(b:Nat):(∀t n p,hdN s b=(Z (t,n),p)->Ev (λ m _=>gT m (s,((b:Int),Y))) (((s,((p:Int),Y)),()),((t.kind,(t.name,(t.sort,([],((n:Int),()))))),())))/\
  (∀e,hdN s b=(U,e)->∃nk nm sk lf,Ev (λ m _=>gT m (s,((b:Int),Y))) (((s,((e:Int),O)),()),((nk,(nm,(sk,([],(lf,()))))),()))):=by
 have P:∃v:(Val RD×Unit)×((Int×aa aA×Int×aa T×Int×Unit)×Unit),Ev (λ m _=>gT m (s,((b:Int),Y))) v/\match hdN s b with
   |(Z (t,n),p)=>v=(((s,((p:Int),Y)),()),((t.kind,(t.name,(t.sort,([],((n:Int),()))))),()))
   |(U,e)=>∃nk nm sk lf,v=(((s,((e:Int),O)),()),((nk,(nm,(sk,([],(lf,()))))),())):=by
  have y:(∀c,s[b]?=Z c->¬ c.toNat<=5)->∃v:(Val RD×Unit)×((Int×aa aA×Int×aa T×Int×Unit)×Unit),Ev (λ m _=>ae (nV m) λ L=>ae (nV m) λ K=>ae (mO m (s,((b:Int),Y)) 16 (iw .i64 (cr (iw .i64 (aD 16 (I K))) 1))) λ i=>ae (av L (iw .i64 (cr i.2.1 16))) λ f=>ae (tC m (f.1,(f.2.1,f.2.2))) λ H=>cond H (ae (mO m (i.1.1.1,(i.1.1.2.1,i.1.1.2.2)) f.2.1 f.2.2) λ l=>Z (((l.1.1.1,(l.1.1.2.1,l.1.1.2.2)),()),((3,(f.1,(0,([],(l.2.1,()))))),()))) (Z (((i.1.1.1,(i.1.1.2.1,i.1.1.2.2)),()),((3,(f.1,(0,([],(f.2.1,()))))),())))) v/\match hdN s b with
   |(Z (t,n),p)=>v=(((s,((p:Int),Y)),()),((t.kind,(t.name,(t.sort,([],((n:Int),()))))),()))
   |(U,e)=>∃nk nm sk lf,v=(((s,((e:Int),O)),()),((nk,(nm,(sk,([],(lf,()))))),())):=by
   intro B;have d:=Gj s b 16 30 D
   have fail:(match s[b]? with
    |none=>True
    |some c=>c.toNat<16\/30<c.toNat)->∃v:(Val RD×Unit)×((Int×aa aA×Int×aa T×Int×Unit)×Unit),Ev (λ m _=>ae (nV m) λ L=>ae (nV m) λ K=>ae (mO m (s,((b:Int),Y)) 16 (iw .i64 (cr (iw .i64 (aD 16 (I K))) 1))) λ i=>ae (av L (iw .i64 (cr i.2.1 16))) λ f=>ae (tC m (f.1,(f.2.1,f.2.2))) λ H=>cond H (ae (mO m (i.1.1.1,(i.1.1.2.1,i.1.1.2.2)) f.2.1 f.2.2) λ l=>Z (((l.1.1.1,(l.1.1.2.1,l.1.1.2.2)),()),((3,(f.1,(0,([],(l.2.1,()))))),()))) (Z (((i.1.1.1,(i.1.1.2.1,i.1.1.2.2)),()),((3,(f.1,(0,([],(f.2.1,()))))),())))) v/\match hdN s b with
   |(Z (t,n),p)=>v=(((s,((p:Int),Y)),()),((t.kind,(t.name,(t.sort,([],((n:Int),()))))),()))
   |(U,e)=>∃nk nm sk lf,v=(((s,((e:Int),O)),()),((nk,(nm,(sk,([],(lf,()))))),())):=by
     intro F
     have M:Ev (λ m _=>mO m (s,((b:Int),Y)) 16 30) (((s,((b:Int),O)),()),(16,())):=by
      cases h:s[b]? with
      |none=>rw[h]at d;exact d
      |some c=>
        rw[h]at d F;simp only[]at d F;rw[ifN]at d;exact d
     have A:hdN s b=(U,b):=by
      unfold hdN;cases h:s[b]? with
      |none=>rfl
      |some c=>
        rw[h]at F;simp only[]at F |-
        rw[af (B c h)];by_cases C:c.toNat<16
        .rw[ag C]
        .rw[af C,show esL[c.toNat-16]?=U from wb.2 (by show 15<=_;omega)]
     rw[A];refine⟨_,ai oZ (ai oZ (ai M (aw (a:=([112,97,105,114],(2,2))) rfl (ai (Aq (r:=([112,97,105,114],(2,2))) (aW ..)) (ak rfl (ap _)))))),3,_,0,_,rfl⟩
   cases h:s[b]? with
   |none=>rw[h]at fail;exact fail trivial
   |some c=>
     by_cases E:c.toNat<16\/30<c.toNat
     .exact fail (by rw[h];exact E)
     .rw[h]at d;simp only[]at d;rw[ifP]at d;have z:c.toNat-16<I esL:=by show _<15;omega
      have o:=aV z;generalize esL[c.toNat-16]=r at o;have g:=aP o;let⟨W,S,R⟩:=XK r g
      have A:hdN s b=(if ny r.1=O then(match s[b+1]? with
        |none=>(U,b+1)
        |some k=>if(k.toNat:Int)<r.2.1\/r.2.2<(k.toNat:Int)then(U,b+1)else(Z (.mk 3 r.1 0 [],k.toNat),b+2))
       else(Z (.mk 3 r.1 0 [],r.2.1.toNat),b+1)):=by
       unfold hdN;rw[h];simp only[];rw[af (B c h),ifN,o]
      rw[A]
      have w:av esL (iw .i64 (cr (c.toNat:Int) 16))=Z r:=by
       rw[show iw .i64 (cr (c.toNat:Int) 16)=((c.toNat-16:Nat):Int) by rw[show cr (c.toNat:Int) 16=((c.toNat-16:Nat):Int) by unfold cr;omega,eR],fJ];exact o
      cases u:ny r.1 with
      |false=>
        rw[af (by decide)];refine⟨_,ai oZ (ai oZ (ai d (aw w (ai (Aq g) (ak u (ap _)))))),?_⟩;have e:((r.2.1.toNat:Nat):Int)=r.2.1:=by omega
        show _=_;rw[e];rfl
      |true=>
        rw[ag rfl];have j:=Gj s (b+1) r.2.1 r.2.2 D;cases q:s[b+1]? with
        |none=>rw[q]at j;exact⟨_,ai oZ (ai oZ (ai d (aw w (ai (Aq g) (aj u (ai j (ap _))))))),3,_,0,_,rfl⟩
        |some k=>
          rw[q]at j;simp only[]at j |-
          by_cases N:(k.toNat:Int)<r.2.1\/r.2.2<(k.toNat:Int)
          .rw[ifN]at j;rw[ag N];exact⟨_,ai oZ (ai oZ (ai d (aw w (ai (Aq g) (aj u (ai j (ap _))))))),3,_,0,_,rfl⟩
          .rw[ifP]at j;rw[af N];exact⟨_,ai oZ (ai oZ (ai d (aw w (ai (Aq g) (aj u (ai j (ap _))))))),rfl⟩
  cases h:s[b]? with
  |none=>
    let⟨v,q,j⟩:=y (by rw[h];intro c u;cases u);refine⟨v,aJ ?_,j⟩;simp only[Is,yE];exact ak (bg.2 (by have:=wb.1 h;omega)) q
  |some c=>
    have X:=(dV.1 h).1;have w:av s (b:Int)=Z c:=by rw[fJ];exact h
    by_cases B:c.toNat<=5
    .have d:=Gj s b 0 5 D;rw[h]at d;simp only[]at d;rw[ifP]at d;have g:=qnp s D (b+1)
     have A:hdN s b=(match s[b+1]? with
      |none=>(U,b+1)
      |some n=>if n.toNat<1\/24<n.toNat then(U,b+1)else match nmE s (b+2) n.toNat 0 with
        |some e=>(U,e)
        |none=>(Z (.mk 2 ((s.take (b+2+n.toNat)).drop (b+2)) c.toNat [],0),b+2+n.toNat)):=by
      unfold hdN;rw[h];simp only[];rw[ag B]
     rw[A]
     have G:∀x,Ev (λ m _=>yG m (s,(((b+1:Nat):Int),Y))) x->Ev (λ m _=>gT m (s,((b:Int),Y))) (((x.1.1.1,(x.1.1.2.1,x.1.1.2.2)),()),((2,(x.2.1,((c.toNat:Int),([],(0,()))))),())):=λ x Q=>by
      apply aJ;simp only[Is,yE];exact aj (bf.2 (by omega)) (aw w (aj (lq.2 (by omega)) (ai d (ai Q (ap _)))))
     cases q:s[b+1]? with
     |none=>rw[q]at g;exact⟨_,G _ g,2,_,_,_,rfl⟩
     |some n=>
       rw[q]at g;simp only[]at g |-
       by_cases E:n.toNat<1\/24<n.toNat
       .rw[ag E]at g |-;exact⟨_,G _ g,2,_,_,_,rfl⟩
       .rw[af E]at g |-
        cases j:nmE s (b+2) n.toNat 0 with
        |some e=>rw[show b+1+1=b+2 from rfl,j]at g;exact⟨_,G _ g,2,_,_,_,rfl⟩
        |none=>rw[show b+1+1=b+2 from rfl,j]at g;exact⟨_,G _ g,rfl⟩
    .let⟨v,q,j⟩:=y (by rw[h];intro c' u;cases u;exact B);refine⟨v,aJ ?_,j⟩;simp only[Is,yE];exact aj (bf.2 (by omega)) (aw w (ak (pj.2 (by omega)) q))
 grind
def jd(R:Nat->ac T×Nat):Nat->Nat->ac (aa T)×Nat
 |0,p=>(Z [],p)
 |n+1,p=>match R p with
   |(U,e)=>(U,e)
   |(Z k,a)=>match jd R n a with
     |(U,e)=>(U,e)
     |(Z ks,q)=>(Z (k::ks),q)
def rdT(s:aa aA):Nat->Nat->ac T×Nat
 |0,p=>(U,p)
 |f+1,p=>match hdN s p with
   |(U,e)=>(U,e)
   |(Z (t,n),q)=>match jd (rdT s f) n q with
     |(U,e)=>(U,e)
     |(Z ks,a)=>(Z (.mk t.kind t.name t.sort ks),a)
def zZ{s:aa aA}{p q n:Nat}{t:T}(h:hdN s p=(Z (t,n),q)):p<q/\q<=I s/\n<=8/\t.kids=[]/\I t.name<=24:=by
 unfold hdN at h;cases g:s[p]? with
 |none=>rw[g]at h;cases h
 |some c=>
   rw[g]at h;have u:=(dV.1 g).1;simp only[]at h;split at h
   .cases a:s[p+1]? with
    |none=>rw[a]at h;cases h
    |some k=>
      rw[a]at h;have f:=(dV.1 a).1;simp only[]at h;split at h
      .cases h
      .rename_i v;cases i:nmE s (p+2) k.toNat 0 with
       |some e=>rw[i]at h;cases h
       |none=>
         rw[i]at h;cases h;have:=MG i (k.toNat-1) (by omega);refine⟨by omega,by omega,by omega,rfl,?_⟩;show((s.take _).drop _).length<=24;rw[je,bD];omega
   .split at h
    .cases h
    .cases d:esL[c.toNat-16]? with
     |none=>rw[d]at h;cases h
     |some r=>
       rw[d]at h;have j:=aP d;let⟨o,m,l⟩:=XK r j;have b:I r.1<=24:=(by decide:∀r∈esL,I r.1<=24) r j;simp only[]at h;split at h
       .cases a:s[p+1]? with
        |none=>rw[a]at h;cases h
        |some k=>
          rw[a]at h;have f:=(dV.1 a).1;simp only[]at h;split at h
          .cases h
          .cases h;exact⟨by omega,by omega,by omega,rfl,b⟩
       .cases h;exact⟨by omega,by omega,by omega,rfl,b⟩
def L4{R:Nat->ac T×Nat}{L:Nat}(h:∀p q t,R p=(Z t,q)->p<q/\q<=L):∀n p q ks,p<=L->jd R n p=(Z ks,q)->p<=q/\q<=L/\I ks=n
 |0,p,q,ks,c,a=>by cases a;exact⟨al _,c,rfl⟩
 |n+1,p,q,ks,c,a=>by
   unfold jd at a;split at a
   .cases a
   .rename_i k l e;let⟨o,i⟩:=h _ _ _ e;split at a
    .cases a
    .next d j b=>cases a;let⟨m,g,f⟩:=L4 h n _ _ _ i b;exact⟨by omega,g,by simp[f]⟩
def GJ(s:aa aA):∀f p q t,rdT s f p=(Z t,q)->p<q/\q<=I s
 |0,p,q,t,h=>by cases h
 |f+1,p,q,t,h=>by
   unfold rdT at h;split at h
   .cases h
   .rename_i e n g b;let⟨k,d,_⟩:=zZ b;split at h
    .cases h
    .next ks i a=>cases h;let⟨j,c,_⟩:=L4 (GJ s f) _ _ _ _ d a;exact⟨by omega,c⟩
def T7{b a:Val RD}{nk sk lf:Int}{nm:aa aA}(h:Ev (λ m _=>gT m b) ((a,()),((nk,(nm,(sk,([],(lf,()))))),()))):Ev (λ m _=>ov (gT m) b) (a,(nk,(nm,(sk,lf)))):=by
 let⟨B,h⟩:=h;refine⟨B,λ m k c d=>?_⟩;have e:gT m b=_:=h m k c d;show ov _ b=_;unfold ov;rw[e]
abbrev RdL:=λ(a:aa (T×Int)) (b:Val RD) (m k:Nat)=>qu (gT m) k a b
def Vs(b:aa (T×Int))(s:aa aA)(a:Int):Ev (RdL b (s,(a,O))) (((s,(a,O)),()),(T.mk 0 [] 0 [],())):=by
 apply aF (L:=RdL b (s,(a,O)));exact ap _
def WS(b:aa (T×Int))(s:aa aA)(a:Int)(t:T)(n:Nat)(i:n<8)(d:I b<=1000000000){c:Val RD}{nk sk lf:Int}{nm:aa aA}(h:Ev (λ m _=>gT m (s,(a,Y))) ((c,()),((nk,(nm,(sk,([],(lf,()))))),()))){r:(Val RD×Unit)×(T×Unit)}
  (e:Ev (RdL ((b++[(t,(n:Int))])++[(T.mk nk nm sk [],lf)]) c) r):Ev (RdL (b++[(t,((n+1:Nat):Int))]) (s,(a,Y))) r:=by
 apply aF (L:=RdL (b++[(t,((n+1:Nat):Int))]) (s,(a,Y)));show Ev (λ m k=>sB (gT m) (qu (gT m) k) (b++[(t,((n+1:Nat):Int))]) (s,(a,Y))) r;unfold sB;have f:I (b++[(t,((n+1:Nat):Int))])=I b+1:=by simp
 rw[f,Pk];refine ak rfl (aw (a:=(t,((n+1:Nat):Int))) (by rw[dy (al _),gF];rfl) ?_);refine aj (bf.2 (by show(0:Int)<((n+1:Nat):Int);omega)) (aj (cx (by omega) (by decide)) (ai (T7 h) ?_));have e1:iw .i64 (cr ((n+1:Nat):Int) 1)=(n:Int):=by rw[show cr ((n+1:Nat):Int) 1=(n:Int) by unfold cr;omega,eR]
 have g:(b++[(t,((n+1:Nat):Int))]).set (I b) (t,iw .i64 (cr ((n+1:Nat):Int) 1))=b++[(t,(n:Int))]:=by
  rw[Ie _ _ (al _),gF,e1];rfl
 show Ev (λ m k=>qu (gT m) k ((b++[(t,((n+1:Nat):Int))]).set (I b) (t,iw .i64 (cr ((n+1:Nat):Int) 1))++[(T.mk nk nm sk [],lf)]) c) r;rw[g];exact e
def qnS(b:aa (T×Int))(s:aa aA)(a:Int)(t x:T)(n:Int)(g:I t.kids<8){r:(Val RD×Unit)×(T×Unit)}
  (d:Ev (RdL (b++[(T.mk t.kind t.name t.sort (t.kids++[x]),n)]) (s,(a,Y))) r):Ev (RdL ((b++[(t,n)])++[(x,0)]) (s,(a,Y))) r:=by
 apply aF (L:=RdL ((b++[(t,n)])++[(x,0)]) (s,(a,Y)));show Ev (λ m k=>sB (gT m) (qu (gT m) k) ((b++[(t,n)])++[(x,0)]) (s,(a,Y))) r;unfold sB;have f:I ((b++[(t,n)])++[(x,(0:Int))])=I b+2:=by simp
 have c:I (b++[(t,n)])=I b+1:=by simp
 rw[f,show I b+2-1=I b+1 from rfl,Pk];refine ak rfl (aw (a:=(x,(0:Int))) (by rw[dy (by omega),c,gF];rfl) ?_);refine ak (bg.2 (H6 _)) (ak rfl (aw (a:=(t,n)) (by rw[dY (by omega),dy (al _),gF];rfl) ?_));refine aj (cx (by show(I t.kids+1)*56<=_;omega) (by decide)) ?_;have e:((b++[(t,n)])++[(x,(0:Int))]).take (I b)=b:=by rw[bE,List.take_left]
 rw[e];exact d
def qkO(s:aa aA)(S:I s<=1000000000):∀f n p t c,I s<p+f->p<=I s->I c<=p->I t.kids+n<=8->
  (∀ks q,jd (rdT s f) n p=(Z ks,q)->∀r,Ev (RdL (c++[(T.mk t.kind t.name t.sort (t.kids++ks),0)]) (s,((q:Int),Y))) r->Ev (RdL (c++[(t,(n:Int))]) (s,((p:Int),Y))) r)/\
  ∀e,jd (rdT s f) n p=(U,e)->Ev (RdL (c++[(t,(n:Int))]) (s,((p:Int),Y))) (((s,((e:Int),O)),()),(T.mk 0 [] 0 [],())):=by
 intro f
 induction f with
 |zero=>intro n p t c D C;omega
 |succ f y=>
   intro n
   induction n with
   |zero=>
     intro p t c D C M L;refine⟨λ ks q a r i=>?_,λ e a=>by cases a⟩;cases a;rw[bZ]at i;have e:T.mk t.kind t.name t.sort t.kids=t:=aH t;rw[e]at i;exact i
   |succ n x=>
     intro p t c D C M L;cases k:hdN s p with
     |mk o m=>
     cases o with
     |none=>
       have l:rdT s (f+1) p=(U,m):=by unfold rdT;rw[k]
       have g:jd (rdT s (f+1)) (n+1) p=(U,m):=by unfold jd;rw[l]
       refine⟨λ ks q a=>(by rw[g]at a;cases a),λ e a=>?_⟩;rw[g]at a;cases a;let⟨nk,nm,sk,lf,z⟩:=(Gy s (by omega) p).2 _ k;exact WS c s p t n (by omega) (by omega) z (Vs _ _ _)
     |some o=>
       let⟨b,v⟩:=o;let⟨W,N,g3,B,_⟩:=zZ k;have z:=(Gy s (by omega) p).1 _ _ _ k;have A:=λ r=>WS c s p t n (by omega) (by omega) z (r:=r);have P:T.mk b.kind b.name b.sort []=b:=by rw[<-B];exact aH b
       rw[P]at A;let⟨G,F⟩:=y v m b (c++[(t,(n:Int))]) (by omega) N (by rw[aU];show I c+1<=m;omega) (by rw[B];show 0+v<=8;omega);cases u:jd (rdT s f) v m with
       |mk o h=>
       cases o with
       |none=>
         have l:rdT s (f+1) p=(U,h):=by unfold rdT;rw[k];simp only[];rw[u]
         have g:jd (rdT s (f+1)) (n+1) p=(U,h):=by unfold jd;rw[l]
         refine⟨λ ks q a=>(by rw[g]at a;cases a),λ e a=>?_⟩;rw[g]at a;cases a;exact A _ (F _ u)
       |some d=>
         have l:rdT s (f+1) p=(Z (.mk b.kind b.name b.sort d),h):=by unfold rdT;rw[k];simp only[];rw[u]
         let⟨Q,E⟩:=GJ s _ _ _ _ l
         have step:∀r,Ev (RdL (c++[(T.mk t.kind t.name t.sort (t.kids++[.mk b.kind b.name b.sort d]),(n:Int))]) (s,((h:Int),Y))) r->Ev (RdL (c++[(t,((n+1:Nat):Int))]) (s,((p:Int),Y))) r:=λ r i=>by
          refine A r (G _ _ u r ?_);rw[B];exact qnS c s h t _ n (by omega) i
         let⟨K,H⟩:=x h (T.mk t.kind t.name t.sort (t.kids++[.mk b.kind b.name b.sort d])) c (by omega) E (by omega) (by show(t.kids++[_]).length+n<=8;rw[aU];show I t.kids+1+n<=8;omega)
         have g:jd (rdT s (f+1)) (n+1) p=(match jd (rdT s (f+1)) n h with
          |(U,e)=>(U,e)
          |(Z ks,q)=>(Z (.mk b.kind b.name b.sort d::ks),q)):=by
          rw[jd,l]
         cases j:jd (rdT s (f+1)) n h with
         |mk o R=>
         rw[j]at g;cases o with
         |none=>
           refine⟨λ ks q a=>(by rw[g]at a;cases a),λ e a=>?_⟩;rw[g]at a;cases a;exact step _ (H _ j)
         |some w=>
           refine⟨λ ks q a r i=>?_,λ e a=>(by rw[g]at a;cases a)⟩;rw[g]at a;cases a;refine step _ (K _ _ j r ?_);show Ev (RdL (c++[(T.mk t.kind t.name t.sort ((t.kids++[.mk b.kind b.name b.sort d])++w),0)]) _) r;rw[bE];exact i
def qj5(s:aa aA)(x:I s<=1000000000):(∀t q,rdT s (I s+1) 0=(Z t,q)->Ev (λ m _=>tD m (s,(0,Y))) (((s,((q:Int),Y)),()),(t,())))/\
  ∀e,rdT s (I s+1) 0=(U,e)->Ev (λ m _=>tD m (s,(0,Y))) (((s,((e:Int),O)),()),(T.mk 0 [] 0 [],())):=by
 have start:∀{d:Val RD}{nk sk lf:Int}{nm:aa aA}{r:(Val RD×Unit)×(T×Unit)},Ev (λ m _=>gT m (s,(0,Y))) ((d,()),((nk,(nm,(sk,([],(lf,()))))),()))->Ev (RdL [(T.mk nk nm sk [],lf)] d) r->Ev (λ m _=>tD m (s,(0,Y))) r:=by
  intro d nk sk lf nm r h y;apply aJ;simp only[qa0];unfold vH;exact ai (T7 h) (bj y)
 cases f:hdN s 0 with
 |mk o k=>
 cases o with
 |none=>
   have c:rdT s (I s+1) 0=(U,k):=by unfold rdT;rw[f]
   refine⟨λ t q a=>(by rw[c]at a;cases a),λ e a=>?_⟩;rw[c]at a;cases a;let⟨nk,nm,sk,lf,n⟩:=(Gy s (by omega) 0).2 _ f;exact start n (Vs _ _ _)
 |some o=>
   let⟨b,l⟩:=o;let⟨B,z,g3,u,_⟩:=zZ f;have n:=(Gy s (by omega) 0).1 _ _ _ f;have p:=λ r=>start n (r:=r);have A:T.mk b.kind b.name b.sort []=b:=by rw[<-u];exact aH b
   rw[A]at p;let⟨w,v⟩:=qkO s x (I s) l k b [] (by omega) z (aL _) (by rw[u];show 0+l<=8;omega);cases i:jd (rdT s (I s)) l k with
   |mk o j=>
   cases o with
   |none=>
     have c:rdT s (I s+1) 0=(U,j):=by unfold rdT;rw[f];simp only[];rw[i]
     refine⟨λ t q a=>(by rw[c]at a;cases a),λ e a=>?_⟩;rw[c]at a;cases a;exact p _ (v _ i)
   |some g=>
     have c:rdT s (I s+1) 0=(Z (.mk b.kind b.name b.sort g),j):=by unfold rdT;rw[f];simp only[];rw[i]
     refine⟨λ t q a=>?_,λ e a=>(by rw[c]at a;cases a)⟩;rw[c]at a;cases a;refine p _ (w _ _ i _ ?_);rw[u];apply aF (L:=RdL ([]++[(T.mk b.kind b.name b.sort ([]++g),(0:Int))]) (s,((j:Int),Y)));exact ap _
def qly{i:Nat}{c:aA}(h:okC i c=O):ew (c.toNat:Int)=O:=by
 unfold okC at h;split at h
 .unfold ew;rw[h];rfl
 .exact h
def qlO{s:aa aA}{b n:Nat}(w:n<24)(x:b+n<I s)(h:∀j c,j<n->s[b+j]?=Z c->okC j c=O){c:aA}(g:s[b+n]?=Z c):dL ((s.take (b+(n+1))).drop b)=okC n c:=by
 have f:I ((s.take (b+(n+1))).drop b)=n+1:=by rw[je,bD];omega
 have a:∀j,j<n+1->((s.take (b+(n+1))).drop b)[j]?=s[b+j]?:=λ j e=>by
  rw[mG,eX,ifP]
 unfold dL;rw[f,cO (show 0<n+1 by omega),cO (show n+1<=24 by omega)]
 have q:∀o,s[b]?=Z o->((s.take (b+(n+1))).drop b).getD 0 0=o:=λ o d=>by
  rw[gE,a 0 (by omega),dE,d];rfl
 cases n with
 |zero=>
   rw[q c g]
   have l:(s.take (b+(0+1))).drop b=[c]:=by
    apply pJ;intro j;cases j with
    |zero=>rw[a 0 (by omega)];exact g
    |succ j=>rw[wb.2 (by omega)];rfl
   rw[l];unfold okC;rw[ag rfl];cases v:iL (c.toNat:Int)with
   |true=>simp[ew,v]
   |false=>rfl
 |succ n=>
   have u:b<I s:=by omega
   have d:=aV u;have k:=h 0 _ (by omega) d;unfold okC at k;rw[ag rfl]at k;rw[q _ d,k];have:okC (n+1) c=ew (c.toNat:Int):=by unfold okC;rw[ifN]
   rw[this];cases p:ew (c.toNat:Int)with
   |true=>
     simp only[ei,bJ];intro y r;let⟨j,e⟩:=ZR.1 r;have t:=(dV.1 e).1;rw[a j (by omega)]at e;by_cases m:j=n+1
     .subst m;rw[g]at e;cases e;exact p
     .exact qly (h j y (by omega) e)
   |false=>
     simp only[ei];rw[List.all_eq_false];refine⟨c,aP (i:=n+1) ?_,by rw[p];decide⟩;rw[a (n+1) (by omega)];exact g
def HA(t:T):Int:=if fZ t≠0 then fZ t else if xA t=Y then 13 else if mZ t=Y then 10 else 0
def qnt{t:T}(d:fZ t=0)(c:xA t=O)(a:mZ t=O):okE t:=by
 let⟨b,e⟩:=uH d
 have g3:cn t=0:=by
  unfold aN at b;by_cases h:cn t=0
  .exact h
  .rw[ag h]at b;exact absurd b h
 unfold mZ at a;simp only[aK]at a;exact qnX t g3 e a.2.2 (wi.1 c)
def qnq{t:T}(h:okE t)(a:size t<=10000):I (bI t)<=260000:=by
 have:=qof t h;omega
def qi1(t:T)(b:size t<=10000:=by omega):Ev (λ m _=>Es m t) (HA t):=by
 apply aJ;simp only[qfj,Jf,aH];apply ai (LY t);unfold HA;by_cases a:fZ t=0
 .rw[af (λ h=>h a)];refine ak (bnf.2 (aI.2 a)) (ai (qks t b) ?_);cases d:xA t with
  |false=>exact aj rfl (ap _)
  |true=>
    refine ak rfl (ai (qj9 t) ?_);cases c:mZ t with
    |false=>exact aj rfl (ap _)
    |true=>exact ak rfl (ap _)
 .rw[ag a];exact aj (bnt.2 (aG.2 a)) (ap _)
def Xp{s:aa aA}{b:Nat}:∀{d i:Nat},nmE s b d i=U->∀j c,j<d->s[b+i+j]?=Z c->okC (i+j) c=O
 |0,_,_,j,_,g,_=>by omega
 |d+1,i,h,j,c,g,a=>by
   unfold nmE at h;split at h
   .cases h
   .rename_i k f;cases e:okC i k with
    |false=>rw[e]at h;cases h
    |true=>
      rw[e]at h;have h:nmE s b d (i+1)=U:=h;cases j with
      |zero=>rw[dE]at a |-;rw[f]at a;cases a;exact e
      |succ j=>have:=Xp h j c (by omega) (by rw[show b+(i+1)+j=b+i+(j+1) by omega];exact a);rw[show i+(j+1)=i+1+j by omega];exact this
def qmX:∀r∈esL,dL r.1=O:=by decide
def qlj{s:aa aA}{p q n:Nat}{t:T}(h:hdN s p=(Z (t,n),q))(ks:aa T)(A:I ks=n):de (.mk t.kind t.name t.sort ks)=0:=by
 have C:=(zZ h).2.2.1;unfold hdN at h;cases o:s[p]? with
 |none=>rw[o]at h;cases h
 |some c=>
   rw[o]at h;simp only[]at h;split at h
   .rename_i D;cases i:s[p+1]? with
    |none=>rw[i]at h;cases h
    |some k=>
      rw[i]at h;simp only[]at h;split at h
      .cases h
      .rename_i z;cases u:nmE s (p+2) k.toNat 0 with
       |some e=>rw[u]at h;cases h
       |none=>
         rw[u]at h;cases h;have y:=MG u;have x:=Xp u;obtain⟨m,w⟩:∃m,k.toNat=m+1:=⟨k.toNat-1,by omega⟩
         have d:=y m (by omega);rw[dE]at d;have g:=aV d;have a:=qlO (s:=s) (b:=p+2) (n:=m) (by omega) d (λ j c B o=>by have:=x j c (by omega) (by rw[dE];exact o);rwa [cI]at this) g;have f:=x m _ (by omega) (by rw[dE];exact g);rw[cI]at f;rw[f]at a;unfold de iY;show(if(2:Int)=1\/(2:Int)=2 then(if(c.toNat:Int)<0\/5<(c.toNat:Int)\/0<I ks then 1 else if dL ((s.take (p+2+k.toNat)).drop (p+2))=O then 0 else 2)else _)=(0:Int);rw[ag (.inr rfl),ifN,w,a,ag rfl]
   .split at h
    .cases h
    .cases v:esL[c.toNat-16]? with
     |none=>rw[v]at h;cases h
     |some r=>
       rw[v]at h;have a:=qmX r (aP v)
       have l:∀m,m=n->de (.mk 3 r.1 0 ks)=0:=λ m w=>by
        unfold de iY;show(if(3:Int)=1\/(3:Int)=2 then _ else if(3:Int)=3 then(if(0:Int)≠0 then 1 else if dL r.1=O then(if 8<I ks then 3 else 0)else 2)else 1)=(0:Int);rw[af (by decide),ag rfl,af (by decide),a,ag rfl,ifN]
       simp only[]at h;split at h
       .cases i:s[p+1]? with
        |none=>rw[i]at h;cases h
        |some k=>
          rw[i]at h;simp only[]at h;split at h
          .cases h
          .cases h;exact l _ rfl
       .cases h;exact l _ rfl
def qig{t:T}(h:de t=0)(b:∀k∈t.kids,cn k=0):cn t=0:=by
 rw[nY,h];generalize t.kids=l at b
 induction l with
 |nil=>rfl
 |cons x l c=>rw[aZ,jy,b x (aW ..)];exact c λ k a=>b k (aS _ a)
def U1{R:Nat->ac T×Nat}(h:∀p q t,R p=(Z t,q)->cn t=0/\p+size t<=q):∀n p q ks,jd R n p=(Z ks,q)->(∀k∈ks,cn k=0)/\p+(ks.map size).sum<=q
 |0,p,q,ks,a=>by cases a;exact⟨λ k d=>(by cases d),al _⟩
 |n+1,p,q,ks,a=>by
   unfold jd at a;split at a
   .cases a
   .rename_i k l d;let⟨i,o⟩:=h _ _ _ d;split at a
    .cases a
    .rename_i e j c;cases a;let⟨g,m⟩:=U1 h n _ _ _ c;refine⟨λ f b=>?_,by rw[aZ,ji];omega⟩;obtain rfl|b:=bi.1 b
     .exact i
     .exact g f b
def W9(s:aa aA):∀f p q t,rdT s f p=(Z t,q)->cn t=0/\p+size t<=q
 |0,p,q,t,h=>by cases h
 |f+1,p,q,t,h=>by
   unfold rdT at h;split at h
   .cases h
   .rename_i g n i b;split at h
    .cases h
    .next ks j a=>cases h;let⟨l,e,_⟩:=zZ b;let⟨d,k⟩:=U1 (W9 s f) _ _ _ _ a;let⟨_,_,c⟩:=L4 (GJ s f) _ _ _ _ e a;refine⟨qig (qlj b ks c) d,?_⟩;rw[bX];show p+(1+(ks.map size).sum)<=q;omega
def sN(s:aa aA):T×(Int×Int):=match rdT s (I s+1) 0 with
 |(U,e)=>(.mk 0 [] 0 [],((e:Int),2))
 |(Z t,q)=>if q≠I s then(.mk 0 [] 0 [],((q:Int),2))else if 400<size t\/40<bU t then(.mk 0 [] 0 [],(0,3))else if mZ t=O then(t,(0,0))else(.mk 0 [] 0 [],(0,10))
def qom(s:aa aA)(e:I s<=1000000000):Ev (λ m _=>wD m s) (sN s):=by
 apply aJ;simp only[qcj,II,aH];unfold sN;let⟨i,g⟩:=qj5 s e;cases b:rdT s (I s+1) 0 with
 |mk o q=>
 cases o with
 |none=>exact ai (g _ b) (aj rfl (ap _))
 |some t=>
   let⟨f,j⟩:=W9 s _ _ _ _ b;let⟨_,k⟩:=GJ s _ _ _ _ b;refine ai (i _ _ b) (ak rfl ?_);simp only[];by_cases a:q=I s
   .rw[af (λ h=>h a)];refine ak (bnf.2 (aI.2 (by omega))) (ai (jG t) ?_);have d:aN t=if 400<size t\/40<bU t then 3 else 0:=by unfold aN;rw[af (λ h=>h f)]
    rw[d];by_cases c:400<size t\/40<bU t
    .rw[ag c,ag c];exact aj rfl (ap _)
    .rw[af c,af c];refine ak rfl (ai (qjO t) ?_);cases l:mZ t with
     |true=>exact ak rfl (ap _)
     |false=>exact aj rfl (ap _)
   .rw[ag a];exact aj (bnt.2 (aG.2 (by omega))) (ap _)
section
open RowKit ChangeShapes WideShapes ChangeAt WideMaps WideElems
theorem qi9(b o j:Nat):(⟨b,o,U⟩:Addr).add j=⟨b,o+j,U⟩:=by unfold Addr.add;split<;>simp_all
def Ty.wt:Ty->Nat
 |.int _|.bool=>1
 |.str=>16
 |.list _=>24
 |.term=>56
 |.pair a b=>a.wt+b.wt
 |.one a=>a.wt
 |.map _ _=>8
def Ty.wt_pos:∀a:Ty,0<a.wt
 |.int _|.bool=>Nat.one_pos
 |.list _=>(by decide:0<24)
 |.str=>(by decide:0<16)
 |.term=>(by decide:0<56)
 |.pair a b=>cU (Ty.wt_pos a) (kM _ _)
 |.one a=>Ty.wt_pos a
 |.map _ _=>(by decide:0<8)
mutual
def tyM(P:aX):Nat->Ty->aO->Bool
 |0,_,_=>Y
 |_+1,.int k,t=>match P.underlying t with
   |Z (.int d)=>J (d=k)&&J (P.cellsOf t=1)
   |_=>Y
 |_+1,.bool,t=>match P.underlying t with
   |Z .bool=>J (P.cellsOf t=1)
   |_=>Y
 |_+1,.str,t=>match P.underlying t with
   |Z .string=>J (P.cellsOf t=1)
   |_=>Y
 |n+1,.list a,t=>match P.underlying t with
   |Z (.slice e)=>J (P.cellsOf t=1)&&J (P.cellsOf e=a.size)&&J (a.wt<=P.bytesOf e)&&tyM P n a e
   |_=>Y
 |n+1,.term,t=>MZ P n t
 |n+1,.pair a b,t=>match P.underlying t with
   |Z (.struct c)=>J (P.cellsOf t=a.size+b.size)&&fsM P n (.pair a b) 0 (V c)
   |_=>Y
 |n+1,.one a,t=>match P.underlying t with
   |Z (.struct c)=>J (P.cellsOf t=a.size)&&fsM P n a 0 (V c)
   |_=>Y
 |_+1,.map _ _,_=>Y
def fsM(P:aX):Nat->Ty->Nat->aa Field->Bool
 |0,_,_,_=>Y
 |n+1,τ,off,[f]=>J (f.offset=off)&&J (P.cellsOf f.type=τ.size)&&tyM P n τ f.type
 |n+1,.pair a b,off,f::g::r=>J (f.offset=off)&&J (P.cellsOf f.type=a.size)&&tyM P n a f.type&&fsM P n b (off+a.size) (g::r)
 |_+1,_,_,_=>Y
def MZ(P:aX):Nat->aO->Bool
 |0,_=>Y
 |n+1,t=>match P.underlying t with
   |Z (.struct f)=>match V f with
     |[d,c,b,a]=>J (P.cellsOf t=4)&&J (d.offset=0)&&J (c.offset=1)&&J (b.offset=2)&&J (a.offset=3)&&J (P.cellsOf a.type=1)&&
      tyM P n (.int .i64) d.type&&tyM P n .str c.type&&tyM P n (.int .i64) b.type&&(match P.underlying a.type with
      |Z (.slice e)=>J (e=t)&&J (0<P.bytesOf t)
      |_=>Y)
     |_=>Y
   |_=>Y
end
def mA:(τ:Ty)->Val τ->Prop
 |.int k,n=>k.min<=n/\n<=k.max
 |.bool,_=>True
 |.str,s=>I s<2^62
 |.term,t=>pv t
 |.list a,l=>(I l<2^62/\I l*a.wt<=2^47)/\∀x∈l,mA a x
 |.pair a b,p=>mA a p.1/\mA b p.2
 |.one a,v=>mA a v
 |.map _ _,_=>True
def ghW(W:ao):Gh:=⟨λ b o=>match W.cell? ⟨b,o,U⟩with|Z u=>if u.oneCell'=O then Z u else U|U=>U,0,λ _=>0,0,λ _=>0,λ _=>0,λ _=>0,λ _=>0,λ _=>0⟩
theorem LP{W:ao}{b o:Nat}{u:ah}:(ghW W).mem b o=Z u↔W.cell? ⟨b,o,U⟩=Z u/\u.oneCell'=O:=by
 show(match W.cell? ⟨b,o,U⟩with|Z u=>if u.oneCell'=O then Z u else U|U=>U)=Z u↔_;grind
def qna{W:ao}{e:aO}{fr:Nat×Nat}(h:W.heap[0]?=Z (.cells Be e fr)):Tab (ghW W) W:=by
 refine⟨⟨e,fr,h⟩,λ b=>b.elim (λ⟨i,a,_⟩=>absurd a (eh i)) λ⟨i,a,_⟩=>absurd a (eh i),?_⟩;have:(ghW W).mem 0 0=Z (.int .u64 1):=LP.2 ⟨by unfold World.cell?;rw[h];rfl,rfl⟩;rw[this];exact λ h=>by cases h
def qmS{W:ao}(a:Tab (ghW W) W):Inv (ghW W) emp W:=
 ⟨rfl,rfl,λ b o u h=>LP.1 h,λ i cs h=>(by cases h),λ i j h=>absurd h (eh _),λ i h=>absurd h (eh _),λ r R h=>(by cases h),λ r c h=>absurd h (eh _),a⟩
def cells_len{W:ao}{bQ:Nat}{a:Addr}:∀{n:Nat} {cs:aa ah},W.cells? bQ a n=Z cs->I cs=n/\∀ j u,cs[j]?=Z u->W.cell? (a.add j)=Z u:=by
 intro n cs h;unfold World.cells? at h;split at h
 case isFalse=>cases h
 have h1:=mapM_some_length h;rw[wm]at h1;refine⟨h1,λ j u hj=>?_⟩;have hlt:=getElem?_lt hj;have:=mapM_some_get h j j (by rw[ZI (by omega)]);rw[this];exact hj
section
variable {H:Type}{enc:aO×ah->H}{P:aX}{W:ao}
def MU(enc:aO×ah->H)(P:aX)(W:ao)(a:Nat):Prop:=∀(n:Nat) (τ:Ty) (t:aO) (cs:aa ah) (x:DataW H×aa MemPlace),tyM P n τ t=O->DataW.trod enc P W 0 (λ _=>O) O a t cs=Z x->(∀k∈x.1.weights P t,k<=reachBytes)->
 ∃v:Val τ,RepL (ghW W) (aq τ v) cs/\(∀u∈cs,u.oneCell'=O)/\mA τ v
def QJ{e:aO}:∀{ds:aa (DataW H)}{d:DataW H},d∈ds->∀n∈d.weights P e,n∈DataW.weightsAll P e ds
 |b::ds,d,h,n,a=>by
   simp only[DataW.weightsAll,bc];obtain rfl|h:=bi.1 h
   .exact Or.inl a
   .exact Or.inr (QJ h n a)
def Ug{n k:Nat}(h:n*k<=reachBytes)(a:0<k):n<2^62:=by
 have:n*1<=n*k:=ZU _ a;have b:reachBytes=140737488351232:=rfl;omega
def qjg{α d:Type}{n:Nat}{Q:Nat->α->d->Prop}(e:0<n)(h:∀i,i<n->∃a b,Q i a b):∃(f:Nat->α) (g:Nat->d),∀i,i<n->Q i (f i) (g i):=by
 let⟨k,j,_⟩:=h 0 e;refine⟨λ i=>if c:i<n then(h i c).choose else k,λ i=>if c:i<n then(h i c).choose_spec.choose else j,λ i c=>?_⟩;grind
def A0{Γ:Gh}{x:AV}{u:ah}(h:Rep Γ x u):RepL Γ [x] [u]:=nU h RepL.nil
def TH{q:Nat}(hA:∀f,f<q->MU enc P W f){a:Ty}{t e:aO}{m:Nat}{cs:aa ah}{x:DataW H×aa MemPlace}(Q:P.underlying t=Z (.slice e))(hc:P.cellsOf e=a.size)(hb:0<P.bytesOf e)(hm:tyM P m a e=O)
  (h:DataW.trod enc P W 0 (λ _=>O) O q t cs=Z x) (X:∀k∈x.1.weights P t,k<=reachBytes):
  ∃(l:aa (Val a)) (u:ah),cs=[u]/\u.oneCell'=O/\Rep (ghW W) (.sl a.size (l.map (aq a)) 1) u/\(I l<2^62/\I l*P.bytesOf e<=2^47)/\∀v∈l,mA a v:=by
 obtain⟨rfl,rfl⟩|⟨ad,d,cap,elems,s,n,rfl,rfl,rfl,_,R,_,z,E,_,_⟩:=DataW.trod_slice Q h
 .refine⟨[],_,rfl,rfl,?_,⟨by simp,by simp⟩,(by intro v D;cases D)⟩;exact .sl _ _ _ U 0 0 0 0 (λ _ _=>undef) rfl (λ _=>al _) (λ h=>by omega) (by intro e he;cases he) (by intro e he;cases he) (jk a) (.inl rfl) (by intro i e j x c;cases c) (by intro i e j x c;cases c)
 .have w:(I elems+I s)*P.bytesOf e<=reachBytes/\∀k∈DataW.weightsAll P e (elems.map (·.1)),k<=reachBytes:=by
    simp only[DataW.weights,Q,ce,bi,bc]at X;simp_all
  have r:∀i,i<d->∃(v:Val a) (us:aa ah),RepL (ghW W) (aq a v) us/\(∀u∈us,u.oneCell'=O)/\mA a v/\(∀j u,us[j]?=Z u->W.cell? ((ad.add (i*a.size)).add j)=Z u):=by
   intro i c;have g:=E i c;rw[aV (by omega),hc,Option.bind_eq_some_iff]at g;let⟨us,G,h3⟩:=g;let⟨T,N⟩:=cells_len G;let⟨v,K,g2,g3⟩:=hA n (tk _) m a e us _ hm h3 λ k hk=>w.2 k (QJ (eF (iq _)) k hk);exact⟨v,us,K,g2,g3,N⟩
  by_cases h0:d=0
  .subst h0;refine⟨[],_,rfl,rfl,?_,⟨by simp,by simp⟩,(by intro v D;cases D)⟩;exact .sl _ _ _ _ 0 cap 0 0 (λ _ _=>undef) rfl (λ _=>R) (λ h=>by omega) (by intro e he;cases he) (by intro e he;cases he) (jk a) (.inl rfl) (by intro i e j x c;cases c) (by intro i e j x c;cases c)
  obtain⟨b,o,rfl⟩:∃b o,ad=⟨b,o,U⟩:=by
   let⟨v,us,K,_,_,g4⟩:=r 0 (by omega);have ab:I us=a.size:=by rw[K.len];exact fK a v
   have hp:=jk a;have g:=g4 0 _ (aV (by omega));rw[kK]at g;have e1:(ad.add 0).add 0=ad:=rfl;rw[e1]at g;let⟨b,o,sp⟩:=ad;unfold World.cell? at g;split at g
   .simp_all
   .cases g
  let⟨C,M,p⟩:=qjg (by omega:0<d) r;have S:=λ i c=>(p i c).1;have w2:=λ i c=>(p i c).2.1;have w3:=λ i c=>(p i c).2.2.1;have w4:=λ i c=>(p i c).2.2.2;have B:∀i,i<d->((List.range d).map C)[i]?=Z (C i):=λ i c=>by rw[dC,ZI c];rfl
  have F:∀(i:Nat) (L:aa AV) (j:Nat) (y:AV),(((List.range d).map C).map (aq a))[i]?=Z L->L[j]?=Z y->i<d/\∃u,(M i)[j]?=Z u/\Rep (ghW W) y u/\(ghW W).mem b (o+i*a.size+j)=Z u:=by
   intro i L j y g G;have c:i<d:=by have:=getElem?_lt g;simpa using this
   rw[dC,B i c]at g;cases g;let⟨u,T,N⟩:=(S i c).get G;grind [LP,List.mem_of_getElem?,qi9]
  refine⟨(List.range d).map C,_,rfl,rfl,?_,?_,?_⟩
  .refine .sl _ _ _ _ d cap b o (λ i j=>(M i).getD j undef) (by simp) (λ _=>R) (λ h=>by omega) ?_ ?_ (jk a) (.inr rfl) ?_ ?_
   .grind [fK]
   .grind [fI]
   .grind
   .grind
  .rw[ce,wm,<-z];have A:I elems*P.bytesOf e<=reachBytes:=bR (cj _ (kM _ _)) w.1;exact⟨Ug A hb,bR A (by decide)⟩
  .grind
def Su{c:Nat}(F:MU enc P W c):∀(n:Nat) (τ:Ty) (off:Nat) (d:aa Field) (cs:aa ah) (xs:aa (DataW H×aa MemPlace)),fsM P n τ off d=O->I xs=I d->
  (∀(i:Nat) (f:Field),d[i]?=Z f->DataW.trod enc P W 0 (λ _=>O) O c f.type ((cs.drop f.offset).take (P.cellsOf f.type))=xs[i]?)->(∀k∈DataW.weightsEach P (d.map (·.type)) (xs.map (·.1)),k<=reachBytes)->off+τ.size<=I cs->
  ∃v:Val τ,RepL (ghW W) (aq τ v) ((cs.drop off).take τ.size)/\(∀u∈(cs.drop off).take τ.size,u.oneCell'=O)/\mA τ v:=by
 intro n
 induction n with
 |zero=>intro τ off d cs xs h;simp[fsM]at h
 |succ n N=>
   intro τ off d cs xs h z y m j
   have s:∀f x,d=[f]->xs=[x]->(J (f.offset=off)&&J (P.cellsOf f.type=τ.size)&&tyM P n τ f.type)=O->∃v:Val τ,RepL (ghW W) (aq τ v) ((cs.drop off).take τ.size)/\(∀u∈(cs.drop off).take τ.size,u.oneCell'=O)/\mA τ v:=by
    intro f x R t h;simp only[aK,cC]at h;let⟨⟨D,C⟩,B⟩:=h;subst R;subst t;have o:=y 0 f rfl;rw[D,C]at o;exact F n τ f.type _ x B o λ k l=>m k (by simp only[aZ,nJ,DataW.weightsEach,bZ];exact l)
   cases d with
   |nil=>cases τ<;>simp[fsM]at h
   |cons f r=>
     cases xs with
     |nil=>simp at z
     |cons x xs=>
       cases r with
       |nil=>
         have w:xs=[]:=cJ (by simpa using z);subst w;apply s f x rfl rfl;cases τ<;>exact h
       |cons g r=>
         cases τ with
         |pair a b=>
           simp only[fsM,aK,cC]at h;let⟨⟨⟨D,C⟩,B⟩,o⟩:=h;have G:=y 0 f rfl;rw[D,C]at G;have Q:off+(a.size+b.size)<=I cs:=j;simp only[aZ,DataW.weightsEach,bc]at m;let⟨v,M,T,K⟩:=F n a f.type _ x B G λ k l=>m k (.inl l);let⟨E,q,L,p⟩:=N b (off+a.size) (g::r) cs xs o (by simpa using z) (λ i S A=>y (i+1) S A) (λ k l=>m k (.inr l)) (by omega)
           have e:(cs.drop off).take (a.size+b.size)=(cs.drop off).take a.size++(cs.drop (off+a.size)).take b.size:=by
            rw[List.take_add,List.drop_drop]
           refine⟨(v,E),?_,?_,K,p⟩
           .show RepL _ (aq a v++aq b E) ((cs.drop off).take (a.size+b.size));rw[e];exact M.append q
           .show ∀u∈(cs.drop off).take (a.size+b.size),_;grind
         |_=>simp[fsM]at h
def qnQ{Γ:Gh}(k:IntKind)(n:Int):RepL Γ (aq (.int k) n) [.int k n]:=A0 (.v _ rfl)
def qkV:∀ fuel,MU enc P W fuel:=by
 intro fuel
 induction fuel using Nat.strongRecOn with
 | ind fuel ihA =>
   have ints:∀{k:IntKind} {t:aO} {cs:aa ah} {x:DataW H × aa MemPlace} {f:Nat},P.underlying t=Z (.int k)->DataW.trod enc P W 0 (λ _=>O) O f t cs=Z x->∃ n:Int,cs=[.int k n]/\k.min<=n/\n<=k.max:=by
    intro k t cs x f ht h;obtain⟨n,rfl,_,hwf⟩:=DataW.trod_int ht h;simp only[Lit.wf,aK,cC]at hwf;exact⟨n,rfl,hwf⟩
   have strs:∀{t:aO} {cs:aa ah} {x:DataW H × aa MemPlace} {f:Nat},P.underlying t=Z .string->DataW.trod enc P W 0 (λ _=>O) O f t cs=Z x->(∀ k∈x.1.weights P t,k<=reachBytes)->∃ s:gS,cs=[.string s]/\I (V s.data)<2 ^ 62:=by
    intro t cs x f ht h hw;obtain⟨s,rfl,rfl,_⟩:=DataW.trod_string ht h;refine⟨s,rfl,?_⟩;have:=hw (I (V s.data)) (by simp[DataW.weights]);exact Ug (k:=1) (by omega) (by decide)
   intro n τ t cs x hm h hw;cases n with
   | zero=>cases τ <;> simp[tyM]at hm
   | succ n =>
   cases τ with
   | int k =>
     simp only[tyM]at hm;split at hm
     ·next k' ht=>simp only[aK,cC]at hm;obtain⟨rfl,_⟩:=hm;obtain⟨i,rfl,h1,h2⟩:=ints ht h;exact⟨i,qnQ _ _,by intro u hu;rw[bW.1 hu];rfl,h1,h2⟩
     ·cases hm
   | bool =>
     simp only[tyM]at hm;split at hm
     ·next ht=>obtain⟨b,rfl,_⟩:=DataW.trod_bool ht h;exact⟨b,A0 (.v _ rfl),by intro u hu;rw[bW.1 hu];rfl,trivial⟩
     ·cases hm
   | str =>
     simp only[tyM]at hm;split at hm
     ·next ht=>obtain⟨s,rfl,h1⟩:=strs ht h hw;refine⟨V s.data,?_,by intro u hu;rw[bW.1 hu];rfl,h1⟩;exact A0 (.v _ rfl)
     ·cases hm
   | list a =>
     simp only[tyM]at hm;split at hm
     ·next e ht=>simp only[aK,cC]at hm;obtain⟨⟨⟨_,hc⟩,hb⟩,hm⟩:=hm;obtain⟨l,u,rfl,h1,h2,h3,h4⟩:=TH (λ f hf=>ihA f hf) ht hc (cU (Ty.wt_pos a) hb) hm h hw;exact⟨l,A0 h2,by intro u' hu;rw[bW.1 hu];exact h1,⟨h3.1,bR (ZU _ hb) h3.2⟩,h4⟩
     ·cases hm
   | pair a b =>
     simp only[tyM]at hm;split at hm
     ·next fs ht=>simp only[aK,cC]at hm;obtain⟨hc,hm⟩:=hm;obtain⟨xs,f,rfl,rfl,h1,h2,h3⟩:=DataW.trod_struct ht h;have hsz:(Ty.pair a b).size=a.size+b.size:=rfl;obtain⟨v,v1,v2,v3⟩:=Su (ihA f (tk _)) n (.pair a b) 0 (V fs) cs xs hm (by simpa using h2) (λ i g hg=>h3 i g (by simpa using hg)) (by simpa[DataW.weights,ht]using hw) (by rw[h1,hc,hsz];omega);rw[dl,tn (by rw[h1,hc,hsz];exact al _)]at v1 v2;exact⟨v,v1,v2,v3⟩
     ·cases hm
   | one a =>
     simp only[tyM]at hm;split at hm
     ·next fs ht=>simp only[aK,cC]at hm;obtain⟨hc,hm⟩:=hm;obtain⟨xs,f,rfl,rfl,h1,h2,h3⟩:=DataW.trod_struct ht h;obtain⟨v,v1,v2,v3⟩:=Su (ihA f (tk _)) n a 0 (V fs) cs xs hm (by simpa using h2) (λ i g hg=>h3 i g (by simpa using hg)) (by simpa[DataW.weights,ht]using hw) (by rw[h1,hc];omega);rw[dl,tn (by rw[h1,hc];exact al _)]at v1 v2;exact⟨v,v1,v2,v3⟩
     ·cases hm
   | map a b=>simp[tyM]at hm
   | term =>
     have hm0:=hm;simp only[tyM]at hm;cases n with
     | zero=>simp[MZ]at hm
     | succ n =>
     simp only[MZ]at hm;split at hm
     case h_2=>cases hm
     rename_i fs ht;split at hm
     case h_2=>cases hm
     rename_i f0 f1 f2 f3 hfs;simp only[aK,cC]at hm;obtain⟨⟨⟨⟨⟨⟨⟨⟨⟨hc,o0⟩,o1⟩,o2⟩,o3⟩,hc3⟩,m0⟩,m1⟩,m2⟩,m3⟩:=hm;split at m3
     case h_2=>cases m3
     rename_i e ht3;simp only[aK,cC]at m3;obtain⟨rfl,hb⟩:=m3;obtain⟨xs,f,rfl,rfl,h1,h2,h3⟩:=DataW.trod_struct ht h;have hsz:fs.size=4:=by rw[<- jg,hfs];rfl
     rw[hsz]at h2;rw[hc]at h1
     obtain⟨c0,c1,c2,c3,rfl⟩:∃ c0 c1 c2 c3,cs=[c0,c1,c2,c3]:=by
      match cs,h1 with
      | [a,b,c,d],_=>exact⟨a,b,c,d,rfl⟩
     obtain⟨x0,x1,x2,x3,rfl⟩:∃ x0 x1 x2 x3,xs=[x0,x1,x2,x3]:=by
      match xs,h2 with
      | [a,b,c,d],_=>exact⟨a,b,c,d,rfl⟩
     have fg:∀ i g,[f0,f1,f2,f3][i]?=Z g->fs[i]?=Z g := λ i g hg=>by rw[<- hfs,jh]at hg;exact hg
     have s0:=h3 0 f0 (fg 0 _ rfl);have s1:=h3 1 f1 (fg 1 _ rfl);have s2:=h3 2 f2 (fg 2 _ rfl);have s3:=h3 3 f3 (fg 3 _ rfl)
     have cOf:∀{τ : Ty} {t:aO},(∃ k,τ = .int k) \/ τ = .str->tyM P n τ t=O->P.cellsOf t=1:=by
      intro τ t hτ hm;cases n with
      | zero=>cases τ <;> simp[tyM]at hm
      | succ n =>
        rcases hτ with⟨k,rfl⟩ | rfl
        ·simp only[tyM]at hm;split at hm
         ·simp only[aK,cC]at hm;exact hm.2
         ·cases hm
        ·simp only[tyM]at hm;split at hm
         ·exact bH hm
         ·cases hm
     have uInt:∀{k:IntKind} {t:aO},tyM P n (.int k) t=O->P.underlying t=Z (.int k):=by
      intro k t hm;cases n with
      | zero=>simp[tyM]at hm
      | succ n =>
        simp only[tyM]at hm;split at hm
        ·next k' ht=>simp only[aK,cC]at hm;rw[ht,hm.1]
        ·cases hm
     have uStr:∀{t:aO},tyM P n .str t=O->P.underlying t=Z .string:=by
      intro t hm;cases n with
      | zero=>simp[tyM]at hm
      | succ n =>
        simp only[tyM]at hm;split at hm
        ·assumption
        ·cases hm
     rw[o0,cOf (.inl ⟨_,rfl⟩) m0]at s0;rw[o1,cOf (.inr rfl) m1]at s1;rw[o2,cOf (.inl ⟨_,rfl⟩) m2]at s2;rw[o3,hc3]at s3
     have hwE:∀ k∈DataW.weightsEach P [f0.type,f1.type,f2.type,f3.type] [x0.1,x1.1,x2.1,x3.1],k<=reachBytes:=by
      intro k hk;apply hw k;simp only[DataW.weights,ht,hfs];exact hk
     simp only[DataW.weightsEach,bc]at hwE;obtain⟨i0,e0,_,_⟩:=ints (uInt m0) (f:=f) (x:=x0) s0;obtain⟨i1,e1,b1⟩:=strs (uStr m1) (f:=f) (x:=x1) s1 λ k hk=>hwE k (.inr (.inl hk));obtain⟨i2,e2,_,_⟩:=ints (uInt m2) (f:=f) (x:=x2) s2;obtain⟨l,u,e3,b3,r3,l3,v3⟩:=TH (a := .term) (λ g hg=>ihA g (Nat.lt_succ_of_lt hg)) ht3 hc hb hm0 s3 λ k hk=>hwE k (.inr (.inr (.inr (.inl hk))));have g0:c0 = .int .i64 i0:=by simpa using e0
     have g1:c1 = .string i1:=by simpa using e1
     have g2:c2 = .int .i64 i2:=by simpa using e2
     have g3:c3=u:=by simpa using e3
     subst g0;subst g1;subst g2;subst g3;refine⟨.mk i0 (V i1.data) i2 l,?_,?_,(We _).2 ⟨l3.1,b1,v3⟩⟩
     ·show RepL _ (gM _) _;rw[gM,zY];exact nU (.v _ rfl) (nU (.v _ rfl) (nU (.v _ rfl) (A0 r3)))
     ·intro u hu;simp only[bi,qS,or_false]at hu;rcases hu with rfl | rfl | rfl | rfl
      ·rfl
      ·rfl
      ·rfl
      ·exact b3
end
end
def qn1:iL ((97:aA).toNat:Int)=O:=by decide
def qn9:iL ((98:aA).toNat:Int)=O:=by decide
def ql7{p q:T}(W:mw p=0)(S:mw q=0):∃r,Ev (λ m _=>tI m [p,q]) r/\∀t,aN t=0->(pz p t).2=0->(pz q t).2=0->r.2.2.2=0:=by
 have l:=(uH (Mq W).1).1;have i:=(uH (Mq S).1).1;let⟨_,zp,_⟩:=dt l;let⟨_,zq,_⟩:=dt i;let⟨f,e1,K,_,_,G⟩:=Mr (c:=97) p [] (λ u w=>by rw[w];exact l) (ig.nil _) (by show 0+_<=_;omega);let⟨s2,e2,H,_,_,F⟩:=Mr (c:=98) q [] (λ u w=>by rw[w];exact i) (ig.nil _) (by show 0+_<=_;omega);let⟨s3,e3,_⟩:=Mr (c:=97) q [] (λ u w=>by rw[w];exact i) (ig.nil _) (by show 0+_<=_;omega);have A:=TT qn1 K l G;have v2:=TT qn9 H i F;let⟨r,e,eu,ha,hl,R⟩:=qoj A v2
 have P:Hb [p,q]=0:=by
  unfold Hb;rw[af (by simp)];refine WR λ x g=>?_;obtain rfl|g:=bi.1 g
  .exact W
  .rw[bW.1 g];exact S
 have v:Ev (λ m k=>(jl m k).1 [p,q] 2 1 0 [] 0 []) (0,(0,(T.mk 0 [] 0 [],15))):=by
  apply aF;simp only[Iy,yF,aH];refine aj rfl (aw (a:=q) rfl (ai e3 (aF ?_)));simp only[Iz,yH];refine ak rfl (aF ?_);simp only[Iy,yF];exact ak rfl (ap _)
 have o:∀a b c d,Ev (λ m k=>(jl m k).2 [p,q] 0 2 2 0 0 [] 0 a b c d []) (0,(0,(T.mk 0 [] 0 [],15))):=λ a b c d=>by
  apply aF;simp only[Iz,yH];exact ak rfl v
 have j:∀C,Ev (λ m k=>cond (au (ieq e 0))
   ((jl m k).2 [p,q] 0 2 2 0 0 [] 0 (sub (bF f) p).kind (sub (bF f) p).name (sub (bF f) p).sort (sub (bF f) p).kids []) (ae (gm m r (sub (bF f) p)) λ Q=>ae (eQ m Q) λ v5=>cond (ieq v5 0) (Z (0,1,Q,0))
     ((jl m k).2 [p,q] 0 2 2 0 0 [] 0 (sub (bF f) p).kind (sub (bF f) p).name (sub (bF f) p).sort (sub (bF f) p).kids []))) C->Ev (λ m _=>tI m [p,q]) C:=λ C h=>by
  apply aJ;simp only[qbx,BN]
  refine ai (qno [p,q] (λ t s=>by
   obtain rfl|s:=bi.1 s
   .omega
   .rw[bW.1 s];omega) (by show 2<=_;omega)) (ak (by rw[P];rfl) ?_)
  refine bj (L:=λ m k=>(jl m k).1 [p,q] 2 0 0 [] 0 []) (aF ?_);simp only[Iy,yF,aH];refine aj rfl (aw (a:=p) rfl (ai e1 (aF ?_)));simp only[Iz,yH,aH,nv];refine aj rfl (aw (a:=q) rfl (ai e2 (ai eu ?_)));exact h
 by_cases B:e=0
 case neg=>exact⟨_,j _ (aj (bnt.2 (aG.2 B)) (o _ _ _ _)),λ t s E D=>(Ua l i s K H G F E D).elim λ θ h=>absurd (R θ h.1).1 B⟩
 have X:=(dt A).1;have hz:=(dt A).2.1
 have z:∀x∈be 1 (sub (bF f) p),cn (lkS r x)=0/\size (lkS r x)<=400:=λ x g=>by
  have g:=dt (Ei _ A x g);unfold lkS;cases h:lkA r x with
  |none=>exact⟨g.1,g.2.1⟩
  |some u=>have:=dt (ha _ (LL h)).2;exact⟨this.1,this.2.1⟩
 have ab:=XZ (θ:=lkS r) (n:=400) (by decide) (sub (bF f) p) λ x g=>(z x g).2;have ad:size (sub (bF f) p)*400<=400*400:=cj _ hz;have ep:=qmg ha hl (sub (bF f) p) X (by omega);have ev:=jG (sub (lkS r) (sub (bF f) p));by_cases M:aN (sub (lkS r) (sub (bF f) p))=0
 .exact⟨_,j _ (ak (bnf.2 (aI.2 B)) (ai ep (ai ev (aj (aI.2 M) (ap _))))),λ _ _ _ _=>rfl⟩
 .refine⟨_,j _ (ak (bnf.2 (aI.2 B)) (ai ep (ai ev (ak (aG.2 M) (o _ _ _ _))))),λ t s E D=>?_⟩;let⟨θ,h1,h2⟩:=Ua l i s K H G F E D;have hb:=(R θ h1).2;have y:=Kr (θ:=lkS r) _ X λ x g=>(z x g).1;have N:=UL θ _ y
  rw[FJ θ (lkS r) θ _ λ x g=>(by
   unfold lkS;cases h:lkA r x with
   |none=>exact qh (xG g)
   |some u=>exact(hb _ (LL h)).symm),h2]at N
  let⟨_,z1,z2⟩:=dt s;exact absurd (KP y) M
def F4{p:T}(h:nh p=O):mw p=0:=by
 have a:fZ p=0:=by
  unfold nh at h;rw[aK,cC]at h;exact h.1
 unfold mw;rw[af (λ g=>g a),h];rfl
def Uh{p:T}{s:aa aA}(k:mw p=0)(n:I s<=1000000000):∃r,Ev (λ m _=>wG m p s) r/\(r.2=0->aN (sN s).1=0/\(pz p (sN s).1).2=0):=by
 have c:=(uH (Mq k).1).1;have l:=qom s n;let⟨_,o,_⟩:=dt c
 have j:(sN s).2.2=0->aN (sN s).1=0:=by
  unfold sN;split
  .exact λ h=>by cases h
  .split
   .exact λ h=>by cases h
   .split
    .exact λ h=>by cases h
    .split
     .rename_i t q _ _ _ h;intro _;unfold mZ at h;rw[aK,cC]at h;have h:=h.1;unfold uX at h;by_cases g:fZ t=0
      .exact(uH g).1
      .rw[ag g]at h;exact absurd h g
     .exact λ h=>by cases h
 generalize sN s=d at l j |-
 let⟨t,a,e⟩:=d
 have start:∀r,Ev (λ m _=>cond (au (ieq e 0)) (Z ([],e)) (ae (yX m p t) λ i=>cond (au (ieq i.2 0)) (Z ([],11)) (Z (i.1,0)))) r->Ev (λ m _=>wG m p s) r:=λ r h=>by
  apply aJ;simp only[qde,IU,aH];exact ai (XP p) (ak (bnf.2 (aI.2 k)) (ai l h))
 by_cases f:e=0
 case neg=>exact⟨_,start _ (aj (bnt.2 (aG.2 f)) (ap _)),λ g=>absurd g f⟩
 have b:=j f;by_cases h:(pz p t).2=0
 .exact⟨_,start _ (ak (bnf.2 (aI.2 f)) (ai (S3 p t c b) (ak (bnf.2 (aI.2 h)) (ap _)))),λ _=>⟨b,h⟩⟩
 .exact⟨_,start _ (ak (bnf.2 (aI.2 f)) (ai (S3 p t c b) (aj (bnt.2 (aG.2 h)) (ap _)))),λ g=>by cases g⟩
def envelopeStrings_ev(p q t:T)(n:mA .term p)(l:mA .term q)(k:mA .term t):Ev (λ m _=>law20_EnvelopeStrings m p q t) O:=by
 have n:pv p:=n;have l:pv q:=l;have k:pv t:=k;apply aJ;simp only[qaU,Io,aH]
 refine ai SJ (ak rfl (ai (qkM [p,q,t] (show 3<2^62 by decide) λ x e=>by
  obtain rfl|e:=bi.1 e
  .exact n
  obtain rfl|e:=bi.1 e
  .exact l
  .rw[bW.1 e];exact k) ?_))
 have no:Ev (λ m _=>ae (wQ m) λ y=>Z y) O:=ai SJ (ap _);cases i:J ([p,q,t].length<=20)&&qG [p,q,t] 450 with
 |false=>exact aj rfl no
 |true=>
 simp only[aK]at i;have j:=qkD (by decide) i.2;have H:=j p (by simp);have G:=j q (by simp);have F:=j t (by simp);refine ak rfl (ai (qi1 t) ?_);by_cases a:HA t=0
 case neg=>exact aj (bnt.2 (aG.2 a)) no
 refine ak (bnf.2 (aI.2 a)) (ai (Ve p) ?_);cases w:nh p with
 |false=>exact aj rfl no
 |true=>
 refine ak rfl (ai (Ve q) ?_);cases v:nh q with
 |false=>exact aj rfl no
 |true=>
 have f:okE t:=by
  have a:=a;unfold HA at a;by_cases b:fZ t=0
  .rw[af (λ h=>h b)]at a;cases d:xA t with
   |false=>rw[ag d]at a;exact absurd a (by decide)
   |true=>
     rw[af (by rw[d];decide)]at a;cases s:mZ t with
     |false=>rw[ag s]at a;exact absurd a (by decide)
     |true=>exact qnt b d s
  .rw[ag b]at a;exact absurd a b
 have K:=qnq f (show size t<=10000 by omega);have B:=qkp t f (by omega) (by omega);have o:I (gI (bI t))<=1000000000:=by rw[wU];omega
 let⟨A,E,u⟩:=Uh (F4 w) o;let⟨z,D,C⟩:=Uh (F4 v) o;let⟨r,c,g⟩:=ql7 (F4 w) (F4 v);refine ak rfl (ai B (ai E (ai D (ai c ?_))));by_cases b:A.2=0
 case neg=>exact aj (bnt.2 (aG.2 b)) (ap _)
 apply ak (bnf.2 (aI.2 b));by_cases d:z.2=0
 case neg=>exact aj (bnt.2 (aG.2 d)) (ap _)
 exact ak (bnf.2 (aI.2 d)) (ay (aI.2 (g _ (u b).1 (u b).2 (C d).2)))
section
set_option maxRecDepth 100000
open Go.Proofs.Tryz (f9 f10 f11 f13 f14 f15 f18 f26 f27 f30 f31 f32 f33 f34 f36 f37 f39 f40 f41 f42 f43 f44 f45 f46 f47 f48 f50 f52 f55 f56 f57 f58 f59 f62 f63 f64 f65 f66 f67 f68 f69 f70 f71 f72 f73 f75 f77 f78 f79 f80 f81 f82 f83 f84 f85 f86 f87 f89 f90 f91 f92 f93 f94 f95 f96 f99 f100 f101 f102 f103 f105 f106 f107 f108 f109 f110 f111 f112 f114 f115 f117 f118 f119 f120 f121 f122 f123 f126 f127 f128 f129 f130 f131 f133 f134 f135 f136 f137 f138 f141 f142 f143 f149 f150 f151 f153 f154 f155 f156 f157 f158 f159 f160 f161 f162 f163 f164 f165 f166 f167 f168 f169 f170 f171 f172 f173 f174 f177 f184 f185 f186 f187 f190 f191 f192 f194 f195 f196 f197 f198 f199 f200 f201 f202 f214 f223 f224 f227 f228 f229 f230 f241)
abbrev y14:Ty:=.int .u8
abbrev y2:Ty:=.int .i64
abbrev y5:Ty:=.list .term
abbrev y3:Ty:=.pair .term .term
abbrev y9:Ty:=.pair .str y2
abbrev y1:Ty:=.pair .term y2
abbrev y7:Ty:=.list y3
abbrev y4:Ty:=.list y1
abbrev y12:Ty:=.map y9 .term
abbrev y11:Ty:=.pair .str (.pair y2 .bool)
abbrev y8:Ty:=.pair .str (.pair y2 y2)
abbrev y13:Ty:=.list y8
abbrev y6:Ty:=.pair .str (.pair y2 (.pair y2 y2))
abbrev y10:Ty:=.list y6
abbrev cK:Co:=.keep
abbrev cL:Co:=.list .term
abbrev cA:Co:=.box [cK,cK,cK,cL]
abbrev cB:Co:=.box [cK,cK,cK,.row .term Y]
def i9:FI:=⟨f9,[.val .term,.val .term,.val .term],[.bool],[],[],u3 law20_EnvelopeStrings⟩
def i10:FI:=⟨f10,[],[.bool],[],[],u0 wQ⟩
def i11:FI:=⟨f11,[.val .str],[.term,y2,y2],[],[],u1 wD⟩
def i13:FI:=⟨f13,[.val .term,.val .term],[.bool],[],[],u2 pW⟩
def i14:FI:=⟨f14,[.val .term],[.str,y2],[],[],u1 Qs⟩
def i15:FI:=⟨f15,[.val y5],[.bool],[],[],u1 Ft⟩
def i18:FI:=⟨f18,[.val .term],[y2],[],[],u1 Es⟩
def i26:FI:=⟨f26,[.val y5],[y2,y2,.term,y2],[(5,[(0,cL),(4,cB),(20,cK),(21,cK)]),(9,[(0,cL),(4,cB),(7,cK),(8,cA),(9,cK),(20,cK),(21,cK)])],[],u1 tI⟩
def i27:FI:=⟨f27,[.val .term,.val .str],[y7,y2],[],[],u2 wG⟩
def i30:FI:=⟨f30,[.val .term],[.bool],[(5,[(3,cL),(4,cK)])],[],u1 zr⟩
def i31:FI:=⟨f31,[.val .term],[.str],[(7,[(1,cA),(3,cK),(4,cK)])],[],u1 lg⟩
def i32:FI:=⟨f32,[.val .str,.val y5],[.term],[],[],u2 iz⟩
def i33:FI:=⟨f33,[.val .str,.val y2],[.term],[],[],u2 EM⟩
def i34:FI:=⟨f34,[.val .str,.val y2],[.term],[],[],u2 FD⟩
def i36:FI:=⟨f36,[.val .term],[y2],[],[],u1 eQ⟩
def i37:FI:=⟨f37,[.val .term],[.bool],[],[],u1 yU⟩
def i39:FI:=⟨f39,[.val .term],[y2],[(3,[(1,cA),(3,cK),(4,cK)])],[],u1 jX⟩
def i40:FI:=⟨f40,[.val .term],[y2],[(3,[(1,cA),(3,cK),(4,cK)])],[],u1 lU⟩
def i41:FI:=⟨f41,[.val .term],[y2],[],[],u1 wN⟩
def i42:FI:=⟨f42,[.val .term],[.bool],[(6,[(5,cL),(6,cK)])],[],u1 Eh⟩
def i43:FI:=⟨f43,[.val .term,.val .term],[y2],[(18,[(2,cA),(3,cA),(9,cK)])],[],u2 jE⟩
def i44:FI:=⟨f44,[.val .term],[y2],[],[],u1 ug⟩
def i45:FI:=⟨f45,[.val .term],[y5],[],[],u1 zu⟩
def i46:SI:=⟨f46,[.row y14,.val .term],[.one (.row y14)],[(8,[(0,.row y14 Y),(46,cL),(47,cK),(48,cK)])],[],u2 Dk⟩
def i47:FI:=⟨f47,[.val y5,.val y2,.val y2],[.bool],[(4,[(0,cL),(2,cK),(7,cK)])],[],u3 Fs⟩
def i48:FI:=⟨f48,[.val .term],[.bool],[],[],u1 DO⟩
def i50:FI:=⟨f50,[.val y5],[y2],[(4,[(9,cL),(10,cK),(11,cK)])],[],u1 Ca⟩
def i52:FI:=⟨f52,[.val y7,.val .term],[.term],[(2,[(0,.list y3),(3,cA),(4,cB),(10,.list y3),(11,cK),(12,cK)]),(10,[(0,.list y3),(4,cB),(7,cB),(27,cL),(28,cK),(29,cK)])],[],u2 gm⟩
def i55:FI:=⟨f55,[.val .term],[y2],[],[],u1 lh⟩
def i56:SI:=⟨f56,[.val .term,.val .str,.box [.val (.map .str .str)]],[.one (.val .term)],[(9,[(1,cK),(2,.box []),(6,cB),(7,cB),(38,cL),(39,cK),(40,cK)])],[],u3 jV⟩
def i57:FI:=⟨f57,[.val .term,.val .term],[y7,y2],[],[],u2 Eo⟩
def i58:FI:=⟨f58,[.val .term],[y2],[],[],u1 yJ⟩
def i59:FI:=⟨f59,[.val .term,.val .term],[y7,y2],[(9,[(7,.box []),(8,.row y3 Y),(25,cL),(26,cK),(27,cK)])],[],u2 yX⟩
def i62:FI:=⟨f62,[.val .term],[y5],[(3,[(1,cA),(3,.row .term O),(4,cK)])],[],u1 ke⟩
def i63:FI:=⟨f63,[.val .str],[.bool],[],[],u1 CF⟩
def i64:FI:=⟨f64,[.val .str],[y2],[(3,[(0,cK),(3,.list y6),(4,cK)])],[],u1 uE⟩
def i65:FI:=⟨f65,[.val .str],[y2],[(3,[(0,cK),(3,.list .str),(4,cK)])],[],u1 Ek⟩
def i66:FI:=⟨f66,[.val .str],[.bool],[],[],u1 DF⟩
def i67:SI:=⟨f67,[.box [.val y11]],[.agg [.val y2,.val .str,.val y2,.row .term,.val y2]],[],[],u1 gT⟩
def i68:SI:=⟨f68,[.val .term,.val y2,.box [.val y2],.box [.val y2]],[.one (.val y2)],[(17,[(1,cK),(2,.box [cK]),(3,.box [cK]),(57,cL),(58,cK),(59,cK)])],[],u4 iv⟩
def i69:FI:=⟨f69,[.val .term],[.term,y2],[],[],u1 DB⟩
def i70:FI:=⟨f70,[.val .term,.val .term],[.bool],[],[],u2 pR⟩
def i71:FI:=⟨f71,[.val .term,.fn],[.bool],[(4,[(1,cK),(18,cL),(19,cK),(20,cK)])],[],u1 kU⟩
def Nb:FI:=⟨f71,[.val .term,.fn],[.bool],[(4,[(1,cK),(18,cL),(19,cK),(20,cK)])],[],u1 kT⟩
def i72:FI:=⟨f72,[.val .str],[.bool],[],[],u1 Df⟩
def i73:FI:=⟨f73,[.val .str],[y6],[(2,[(0,cK),(2,.box [cK,cK,cK,cK]),(5,.list y6),(6,cK),(7,cK)])],[],u1 wJ⟩
def i75:FI:=⟨f75,[],[(.list .str)],[],[],u0 Ry⟩
def i77:FI:=⟨f77,[.val .term],[y2],[(11,[(1,cA),(4,cK)])],[],u1 lc⟩
def i78:FI:=⟨f78,[.val .term],[.term,y2],[],[],u1 Eb⟩
def i79:FI:=⟨f79,[.val y2,.val y2],[y2],[],[],u2 uk⟩
def i80:FI:=⟨f80,[.val .term],[y2],[(13,[(1,cA),(38,cL),(39,cK),(40,cK)]),(22,[(62,cL),(63,cK),(64,cK)])],[],u1 fH⟩
def i81:FI:=⟨f81,[.val .term,.val y2],[y5],[],[],u2 JM⟩
def i82:SI:=⟨f82,[.val y13,.clo 84 1,.box [.val .term]],[.one (.val y2)],[(2,[(0,.list y8),(1,.fn [cA]),(7,cK),(8,cK)])],[],u2 Px⟩
def i83:FI:=⟨f83,[],[y13],[],[],u0 nV⟩
def i84:SI:=⟨f84,[.val y8,.box [.val .term]],[.one (.val .bool)],[],[],u2 PE⟩
def i85:FI:=⟨f85,[.val y8],[.bool],[],[],u1 tC⟩
def i86:FI:=⟨f86,[.val .term,.val y2],[y2],[(5,[(1,cK),(2,cA),(5,cK)])],[],u2 lR⟩
def i87:FI:=⟨f87,[.val .term],[y5],[],[],u1 EW⟩
def i89:FI:=⟨f89,[.val .term,.val .term],[y2],[(11,[(2,cA),(3,cA),(5,cK),(6,cK)])],[],u2 dp⟩
def i90:FI:=⟨f90,[.val .term],[y2],[(5,[(1,cA),(4,cK)])],[],u1 lT⟩
def i91:FI:=⟨f91,[.val .term,.val .term],[y2],[],[],u2 Er⟩
def i92:FI:=⟨f92,[.val y7],[y7,y2],[(2,[(4,.box [.list y3,.row y3 Y])])],[],u1 JG⟩
def i93:FI:=⟨f93,[.val .term],[.bool],[],[],u1 Et⟩
def i94:SI:=⟨f94,[.val .term,.val .term,.box [.val y12]],[.one (.val .bool)],[(10,[(2,.box []),(3,cA),(4,cA),(39,cK),(40,cK)])],[],u3 mR⟩
def i95:FI:=⟨f95,[.val .term],[y9],[],[],u1 rG⟩
def i96:FI:=⟨f96,[.val .term,.val .term],[.bool],[],[],u2 pV⟩
def i99:FI:=⟨f99,[],[y10],[],[],u0 Jl⟩
def Yx:SI:=⟨f100,[.box [.val y11],.val y2,.val y2],[.one (.val y2)],[],[],u3 mO⟩
def NZ:SI:=⟨f101,[.box [.val y11]],[.one (.val .str)],[(4,[(0,.box [cK,cK,cK]),(4,cK),(14,cK),(15,cK)])],[],u1 yG⟩
def OR:FI:=⟨f102,[.val .str],[.bool],[(4,[(0,cK),(38,cK),(39,cK)])],[],u1 wO⟩
def OC:FI:=⟨f103,[.val .term],[.term,y2],[(5,[(1,cA),(2,cB),(4,cB),(19,cL),(20,cK),(21,cK)])],[],u1 lP⟩
def NE:FI:=⟨f105,[.val .str],[.bool],[(4,[(0,cK),(3,cK)])],[],u1 wL⟩
def N2:FI:=⟨f106,[.val .term],[.bool],[(3,[(1,cA),(3,.list y6),(4,cK)])],[],u1 EB⟩
def NH:FI:=⟨f107,[.val .term],[.bool],[(4,[(1,cA),(3,cK)])],[],u1 DL⟩
def OD:FI:=⟨f108,[.val .term],[.term,y2],[(5,[(1,cA),(2,cB),(4,.row .term Y),(5,cK)])],[],u1 lQ⟩
def NY:SI:=⟨f109,[.val .term,.clo 110 2,.box [.val y2],.box [.row .term]],[],[(3,[(1,.fn [.box [cK],.box [.row .term Y]]),(10,cL),(11,cK),(12,cK)])],[],u3 lN⟩
def Yk:SI:=⟨f110,[.val .term,.box [.val y2],.box [.row .term]],[],[],[],u3 BL⟩
def Of:SI:=⟨f111,[.row .term],[.one (.row .term)],[(4,[(0,.row .term Y),(9,cK),(10,cK)])],[],u1 Jx⟩
def NL:FI:=⟨f112,[.val .term,.val y2],[y5],[(4,[(1,cK),(5,.row .term Y),(6,cL),(7,cK)])],[],u2 EX⟩
def Zf:FI:=⟨f114,[.val y2,.val y2],[y2],[],[],u2 uL⟩
def NN:FI:=⟨f115,[.val .term],[y2],[(3,[(3,cK),(7,cL),(8,cK),(9,cK)])],[],u1 li⟩
def Y7:FI:=⟨f117,[.val .term],[y2],[],[],u1 EY⟩
def Nz:SI:=⟨f118,[.box [.val y7,.row y3]],[.one (.val y2)],[(8,[(0,.box [.list y3,.row y3 Y]),(3,cA),(4,cA),(5,.row y3 Y),(39,cK),(40,cK)])],[],u1 Cj⟩
def Yq:SI:=⟨f119,[.row y3],[.one (.row y3)],[],[],u1 CJ⟩
def YE:FI:=⟨f120,[.val .str],[.bool],[],[],u1 DG⟩
def Zv:FI:=⟨f121,[.val .term],[.bool],[],[],u1 rD⟩
def Yr:FI:=⟨f122,[.val .term,.val .term],[.bool],[],[],u2 uF⟩
def YQ:FI:=⟨f123,[.val .term,.val .term],[.bool],[],[],u2 yZ⟩
def Yl:FI:=⟨f126,[.val y14],[.bool],[],[],u1 zD⟩
def Y5:FI:=⟨f127,[.val .term],[.term],[],[],u1 yN⟩
def NJ:FI:=⟨f128,[.val y5],[.term,y2],[(6,[(2,.box [cK,cK,cK,.row .term O]),(5,cL),(15,cL),(16,cK),(17,cK)])],[],u1 Gu⟩
def Zx:FI:=⟨f129,[.val .term],[y4,y2],[],[],u1 uy⟩
def A2:FI:=⟨f130,[.val y4],[.term,y2],[(6,[(2,cB),(5,.row .term Y),(6,.row .term Y),(18,.list y1),(19,cK),(20,cK)]),(11,[(2,cB),(5,.row .term Y),(6,.row .term Y),(8,.box [cK,cK,cK,.list .term,cK]),(18,.list y1),(19,cK),(20,cK),(34,cK),(35,cK)]),(15,[(2,cB),(5,.row .term Y),(6,.row .term Y),(8,.box [cK,cK,cK,.list .term,cK]),(18,.list y1),(19,cK),(20,cK),(46,cK),(47,cK)])],[],u1 rz⟩
def Y3:FI:=⟨f131,[.val .term,.val .term],[.term,y2],[],[],u2 DY⟩
def Zu:FI:=⟨f133,[.val y14],[.bool],[],[],u1 yS⟩
def YI:FI:=⟨f134,[.val y14],[.bool],[],[],u1 Ey⟩
def Za:FI:=⟨f135,[.val .term],[.term,.bool],[],[],u1 Ds⟩
def OS:FI:=⟨f136,[.val y5],[.term,y2],[(6,[(0,cL),(2,.box [cK,cK,cK,.row .term O]),(5,cL),(6,cK)])],[],u1 Fh⟩
def YU:FI:=⟨f137,[.val .term],[.term,y2],[],[],u1 yP⟩
def YG:FI:=⟨f138,[.val .term,.val .term],[.term,y2],[],[],u2 Em⟩
def Yv:FI:=⟨f141,[.val .term,.val .term],[.bool],[],[],u2 nW⟩
def OB:FI:=⟨f142,[.val .term],[.term],[(4,[(1,cB),(2,cB),(9,cL),(10,cK),(11,cK)])],[],u1 jY⟩
def Nt:FI:=⟨f143,[.val y5],[y5],[(3,[(0,cL),(3,cL),(4,cK)])],[],u1 Fw⟩
def Yo:SI:=⟨f149,[.box [.val y7,.row y3],.val .term,.val .term],[.one (.val y2)],[],[],u3 IZ⟩
def Yw:FI:=⟨f150,[.val .term,.val .term],[.bool],[],[],u2 iR⟩
def HJ:SI:=⟨f151,[.box [.val y7,.row y3],.val .term,.val .term],[.one (.val y2)],[(6,[(0,.box [.list y3,.row y3 Y]),(4,cA),(5,cA),(8,.box [cK]),(9,.fn [.box [.box []],.box []]),(10,.row y3 Y),(25,cK),(26,cK)]),(12,[(0,.box [.list y3,.row y3 Y]),(4,cA),(5,cA),(8,.box [cK]),(9,.fn [.box [.box []],.box []]),(10,.row y3 Y),(46,cK),(47,cK)])],[],u3 pN⟩
def YL:FI:=⟨f153,[.val y3,.val y3],[y2],[],[],u2 lM⟩
def Zr:FI:=⟨f154,[.val .term,.val .str],[.bool],[],[],u2 jn⟩
def NX:FI:=⟨f155,[.val y5,.val y5],[y2],[(4,[(14,cL),(15,cK),(16,cK)])],[],u2 E0⟩
def NI:FI:=⟨f156,[.val y5,.val y5],[y5],[(2,[(0,cL),(1,cL),(5,.row .term Y)])],[],u2 Af⟩
def OP:FI:=⟨f157,[.val .term],[y5],[(6,[(3,cL),(31,cL),(32,cK),(33,cK)])],[],u1 kY⟩
def N1:FI:=⟨f158,[.val y5],[y5],[(3,[(3,.row .term Y),(9,cL),(10,cK),(11,cK)])],[],u1 lk⟩
def Ov:SI:=⟨f159,[.row y1,.val .term,.val y2],[.one (.row y1),.one (.val .bool)],[(12,[(0,.row y1 Y),(2,cK),(52,cL),(53,cK),(54,cK)])],[],u3 kV⟩
def Oi:FI:=⟨f160,[.val y4],[y2],[(4,[(0,.list y1),(9,.list y1),(10,cK),(11,cK)])],[],u1 wF⟩
def Ok:FI:=⟨f161,[.val .term],[.term],[(3,[(1,cB),(2,cB),(10,.row .term Y),(11,cK),(12,cK)])],[],u1 jD⟩
def YM:FI:=⟨f162,[.val .str,.val y5],[.term],[],[],u2 yT⟩
def HU:FI:=⟨f163,[.val (.list y5)],[y5],[(3,[(0,.list y5),(3,cK),(9,.list y5),(10,cK),(11,cK)]),(11,[(6,.row .term Y),(25,.list y5),(26,cK),(27,cK)])],[],u1 wA⟩
def N8:FI:=⟨f164,[.val y4,.val y4],[y4,y2],[(9,[(8,.row y1 Y),(23,.list y1),(24,cK),(25,cK)])],[],u2 DU⟩
def YK:FI:=⟨f165,[.val .str,.val y5],[.term],[],[],u2 zf⟩
def YJ:FI:=⟨f166,[.val .term,.val .str],[.bool],[],[],u2 oU⟩
def NV:FI:=⟨f167,[.val y5,.val .term],[y2],[(4,[(0,cL),(3,cA),(5,cK)])],[],u2 Eu⟩
def Y0:FI:=⟨f168,[],[.term],[],[],u0 ET⟩
def OH:FI:=⟨f169,[.val y5,.val y5],[y5],[(3,[(1,cL),(5,.plist .term),(6,cK)])],[],u2 zc⟩
def On:FI:=⟨f170,[.val .term],[y5],[(7,[(1,cA),(3,cL),(4,cK)])],[],u1 kW⟩
def Nu:FI:=⟨f171,[.val y5],[.term],[],[],u1 ES⟩
def Zi:FI:=⟨f172,[.val .term],[y4,y2],[],[],u1 xg⟩
def NR:FI:=⟨f173,[.val y4],[.term,y2],[],[],u1 uC⟩
def OF:FI:=⟨f174,[.val y4,.val y4],[y4,y2],[(9,[(1,.list y1),(8,.row y1 Y),(9,cK)])],[],u2 Fe⟩
def Oo:FI:=⟨f177,[.val y5,.val .term],[y5],[(4,[(0,cL),(3,cA),(5,.row .term Y),(6,cK),(7,cK)])],[],u2 zA⟩
def Zk:SI:=⟨f184,[.val y5,.clo 185 1,.box [.val .term]],[.one (.val .bool)],[],[],u2 kR⟩
def Y6:SI:=⟨f185,[.val .term,.box [.val .term]],[.one (.val .bool)],[],[],u2 jT⟩
def OO:SI:=⟨f187,[.box [.val y12],.val .term],[.one (.val .term)],[(10,[(0,.box []),(3,cA),(4,cB),(7,.row .term Y),(32,cL),(33,cK),(34,cK)])],[],u2 jm⟩
def Nw:FI:=⟨f190,[.val .term,.val (.list y2),.val .term],[.term,y2],[(4,[(5,cA),(6,cB),(8,cA),(9,.box []),(14,.list y2),(15,cK),(16,cK)])],[],u3 DN⟩
def YS:FI:=⟨f191,[.val .term],[.bool],[],[],u1 yM⟩
def Zh:SI:=⟨f192,[.row y1,.val y1],[.one (.row y1)],[],[],u2 yL⟩
def Ox:SI:=⟨f194,[.val y4],[.one (.row y1)],[(3,[(3,.row y1 Y),(6,.list y1),(7,cK),(8,cK)])],[],u1 Cy⟩
def Yp:FI:=⟨f195,[.val y4],[y4,y2],[],[],u1 CI⟩
def Nv:FI:=⟨f196,[.val y5,.val .term],[y5],[(5,[(0,cL),(3,cA),(5,.row .term Y),(6,cK)])],[],u2 Ea⟩
def Oe:FI:=⟨f197,[.val .term],[.bool],[(7,[(1,cA),(3,cK),(4,cK)])],[],u1 kZ⟩
def NK:SI:=⟨f198,[.row y1,.val .term,.val y2],[.one (.row y1)],[(6,[(0,.row y1 Y),(2,cK),(4,cA),(7,cK)])],[],u3 kX⟩
def Ot:FI:=⟨f199,[.val y4],[y2],[(4,[(0,.list y1),(3,cK)])],[],u1 wP⟩
def ye:FI:=⟨f200,[.val y4],[y5],[(3,[(0,.list y1),(3,.row .term Y),(4,cK)]),(6,[(0,.list y1),(3,.row .term Y),(4,cK),(5,cK)]),(10,[(0,.list y1),(3,.row .term Y),(6,cK)]),(13,[(0,.list y1),(3,.row .term Y),(6,cK),(7,cK)])],[],u1 De⟩
def N6:SI:=⟨f201,[.row y1,.val .term,.val y2],[.one (.row y1)],[(4,[(0,.row y1 Y),(2,cK),(4,cA),(7,.row y1 Y),(8,cK),(9,cK)])],[],u3 zC⟩
def OL:FI:=⟨f202,[.val y4],[y2],[(2,[(0,.list y1),(3,cK)])],[],u1 DA⟩
def Oq:SI:=⟨f214,[.val y5,.clo 185 1,.box [.val .term]],[.one (.val y2)],[(2,[(0,cL),(1,.fn [cA]),(7,cK),(8,cK)])],[],u2 kS⟩
def OQ:FI:=⟨f223,[.val y4,.val .term,.fn],[y2,.bool],[(3,[(0,.list y1),(2,cK),(4,cA),(8,cK),(9,cK),(10,cK)])],[],u2 Bv⟩
def Y2:FI:=⟨f224,[.val y1,.val .term],[y2],[],[],u2 yI⟩
def YO:FI:=⟨f227,[.val y4,.fn],[.bool],[],[],u1 Bx⟩
def Ze:FI:=⟨f228,[.val y1],[.bool],[],[],u1 B9⟩
def Np:FI:=⟨f229,[.val y5,.val .term],[.bool],[(2,[(0,cL),(3,cA),(5,cK)])],[],u2 EZ⟩
def Zd:FI:=⟨f230,[.val .term],[.bool],[],[],u1 wK⟩
def NT:FI:=⟨f241,[.val y4,.fn],[y2],[(2,[(0,.list y1),(1,cK),(7,cK),(8,cK)])],[],u1 Bz⟩
def elT(f:Nat):ac Ty:=
cond (Nat.blt f 107)
 (cond (Nat.blt f 73)
 (cond (Nat.blt f 48)
 (cond (Nat.beq f 23) (Z .term) (U))
 (cond (Nat.blt f 66)
 (cond (Nat.beq f 48) (Z y3) (U))
 (cond (Nat.beq f 66) (Z y14) (U))))
 (cond (Nat.blt f 90)
 (cond (Nat.blt f 81)
 (cond (Nat.beq f 73) (Z (.map .str .str)) (U))
 (cond (Nat.beq f 81) (Z y1) (U)))
 (cond (Nat.blt f 97)
 (cond (Nat.beq f 90) (Z .str) (U))
 (cond (Nat.beq f 97) (Z y8) (U)))))
 (cond (Nat.blt f 118)
 (cond (Nat.blt f 108)
 (cond (Nat.beq f 107) (Z y3) (U))
 (cond (Nat.blt f 113)
 (cond (Nat.beq f 108) (Z y12) (U))
 (cond (Nat.beq f 113) (Z y3) (U))))
 (cond (Nat.blt f 180)
 (cond (Nat.blt f 134)
 (cond (Nat.beq f 118) (Z y6) (U))
 (cond (Nat.beq f 134) (Z y1) (U)))
 (cond (Nat.blt f 201)
 (cond (Nat.beq f 180) (Z y5) (U))
 (cond (Nat.beq f 201) (Z y2) (U)))))
def tb:Tb:=⟨tyT,elT,.node 114 (.node 67 (.node 41 (.node 30 (.node 15 (.node 11 (.node 10 (tL 9 (eP i9)) .leaf (eP i10)) (.node 14 (tL 13 (eP i13)) .leaf (eP i14)) (eP i11)) (.node 26 (.node 23 (tL 18 (eP i18)) .leaf (.hs ⟨[.val y5],[.one (.row .term)],λ x=>wB 0 x.1⟩)) (tL 27 (eP i27)) (eP i26)) (eP i15)) (.node 35 (.node 33 (.node 32 (tL 31 (eP i31)) .leaf (eP i32)) (tL 34 (eP i34)) (eP i33)) (.node 39 (.node 37 (tL 36 (eP i36)) .leaf (eP i37)) (tL 40 (eP i40)) (eP i39)) (.hx λ m=>⟨[.box [.val RD]],[.one (.val .term)],λ x=>tD m x.1⟩)) (eP i30)) (.node 55 (.node 47 (.node 44 (.node 43 (tL 42 (eP i42)) .leaf (eP i43)) (.node 46 (tL 45 (eP i45)) .leaf (eS i46)) (eP i44)) (.node 51 (.node 50 (tL 48 (eP i48)) .leaf (eP i50)) (tL 52 (eP i52)) (.hp ⟨[.val y2],[.str],λ x=>strconv_Itoa 0 x.1⟩)) (eP i47)) (.node 62 (.node 58 (.node 57 (tL 56 (eS i56)) .leaf (eP i57)) (tL 59 (eP i59)) (eP i58)) (.node 65 (.node 64 (tL 63 (eP i63)) .leaf (eP i64)) (tL 66 (eP i66)) (eP i65)) (eP i62)) (eP i55)) (eP i41)) (.node 91 (.node 80 (.node 73 (.node 70 (.node 69 (tL 68 (eS i68)) .leaf (eP i69)) (.node 72 (.node 71 .leaf .leaf (.pure [([72],i71),([120],Nb)])) .leaf (eP i72)) (eP i70)) (.node 78 (.node 77 (tL 75 (eP i75)) .leaf (eP i77)) (tL 79 (eP i79)) (eP i78)) (eP i73)) (.node 85 (.node 83 (.node 82 (tL 81 (eP i81)) .leaf (eS i82)) (tL 84 (eS i84)) (eP i83)) (.node 89 (.node 87 (tL 86 (eP i86)) .leaf (eP i87)) (tL 90 (eP i90)) (eP i89)) (eP i85)) (eP i80)) (.node 103 (.node 96 (.node 94 (.node 93 (tL 92 (eP i92)) .leaf (eP i93)) (tL 95 (eP i95)) (eS i94)) (.node 101 (.node 100 (tL 99 (eP i99)) .leaf (eS Yx)) (tL 102 (eP OR)) (eS NZ)) (eP i96)) (.node 108 (.node 106 (.node 105 (.node 104 .leaf .leaf (.hp ⟨[],[y10],λ x=>Ja 0⟩)) .leaf (eP NE)) (tL 107 (eP NH)) (eP N2)) (.node 111 (.node 110 (tL 109 (eS NY)) .leaf (eS Yk)) (tL 112 (eP NL)) (eS Of)) (eP OD)) (eP OC)) (eP i91)) (eS i67)) (.node 163 (.node 138 (.node 127 (.node 120 (.node 117 (.node 116 (tL 115 (eP NN)) .leaf (.hp ⟨[.val .str,.val .str],[y2],λ x=>strings_Compare 0 x.1 x.2.1⟩)) (.node 119 (tL 118 (eS Nz)) .leaf (eS Yq)) (eP Y7)) (.node 123 (.node 122 (tL 121 (eP Zv)) .leaf (eP Yr)) (tL 126 (eP Yl)) (eP YQ)) (eP YE)) (.node 133 (.node 130 (.node 129 (tL 128 (eP NJ)) .leaf (eP Zx)) (tL 131 (eP Y3)) (eP A2)) (.node 136 (.node 135 (tL 134 (eP YI)) .leaf (eP Za)) (tL 137 (eP YU)) (eP OS)) (eP Zu)) (eP Y5)) (.node 153 (.node 143 (.node 141 (.node 140 (.node 139 .leaf .leaf (.hm λ m=>⟨.term,[.clo 89 0],λ x=>ww m x.1⟩)) .leaf (.hx λ m=>⟨[.row .term,.clo 141 0],[.one (.row .term)],λ x=>wv m x.1⟩)) (tL 142 (eP OB)) (eP Yv)) (.node 151 (.node 150 (tL 149 (eS Yo)) .leaf (eP Yw)) (.node 152 .leaf .leaf (.hm λ m=>⟨y3,[.clo 153 0],λ x=>wo m x.1⟩)) (eS HJ)) (eP Nt)) (.node 158 (.node 156 (.node 155 (tL 154 (eP Zr)) .leaf (eP NX)) (tL 157 (eP OP)) (eP NI)) (.node 161 (.node 160 (tL 159 (eS Ov)) .leaf (eP Oi)) (tL 162 (eP YM)) (eP Ok)) (eP N1)) (eP YL)) (eP YG)) (.node 193 (.node 174 (.node 169 (.node 166 (.node 165 (tL 164 (eP N8)) .leaf (eP YK)) (.node 168 (tL 167 (eP NV)) .leaf (eP Y0)) (eP YJ)) (.node 172 (.node 171 (tL 170 (eP On)) .leaf (eP Nu)) (tL 173 (eP NR)) (eP Zi)) (eP OH)) (.node 187 (.node 185 (.node 184 (tL 177 (eP Oo)) .leaf (eS Zk)) (.node 186 .leaf .leaf (.il f186)) (eS Y6)) (.node 191 (.node 190 (.node 188 .leaf .leaf (.hs ⟨[.val y7],[.one (.row y3)],λ x=>wx 0 x.1⟩)) .leaf (eP Nw)) (tL 192 (eS Zh)) (eP YS)) (eS OO)) (eP OF)) (.node 214 (.node 198 (.node 196 (.node 195 (tL 194 (eS Ox)) .leaf (eP Yp)) (tL 197 (eP Oe)) (eP Nv)) (.node 201 (.node 200 (tL 199 (eP Ot)) .leaf (eP ye)) (tL 202 (eP OL)) (eS N6)) (eS NK)) (.node 227 (.node 225 (.node 224 (tL 223 (.pure [([224],OQ)])) .leaf (eP Y2)) (.node 226 .leaf .leaf (.hs ⟨[.row y1,.val y2,.val y2],[.one (.row y1)],λ x=>wy 0 x.1 x.2.1 x.2.2.1⟩)) (.hs ⟨[.row y1,.val y2,.val y4],[.one (.row y1)],λ x=>wz 0 x.1 x.2.1 x.2.2.1⟩)) (.node 230 (.node 229 (tL 228 (eP Ze)) .leaf (eP Np)) (tL 241 (.pure [([228],NT)])) (eP Zd)) (.pure [([228],YO)])) (eS Oq)) (.hs ⟨[.nil,.val y2],[.one (.row .term)],λ x=>yC 0 x.1⟩)) (eP HU)) (eP Zf)⟩
end
section
set_option maxRecDepth 100000
universe u v
def bt{α:Type}[NF α]{M:Nat->α}{s:α->α}{k:Nat}(b:NF.z=M 0:=by rfl)(a:(λ k=>M (k+1))=λ k=>s (M k):=by kernel_rfl):bk s k=M k:=qoH b (λ k=>tj a k) k
def okk{b:Tb}{c:aa Nat}{i:FI}(h:(λ m a=>i.F (m+1) a)=λ m a=>b.runP1 m i c a:=by kernel_rfl):okP b c i:=λ m a=>tj (tj h m) a
def okq{b:Tb}{i:SI}(h:(λ m a=>i.F (m+1) a)=λ m a=>b.runS1 m i a:=by kernel_rfl):okS b i:=λ m a=>tj (tj h m) a
def tK{α:Sort u}{a:Sort v}{x y:α}{c:a}(f:α->a)(h:x=y)(e:f y=c:=by kernel_rfl):f x=c:=(aY f h).trans e
def qbE:okP tb [] i83:=okk
def qaH:okP tb [] i85:=okk
def qaS:okS tb Yx:=okq
def qaT(m k x0 x1 x2 x3 x4 x5):=tb.QL NZ 4 m k [(0,.ptr 0 0),(4,vI x0),(14,vI x1),(15,vI x2)] ⟨[[.s x3,vI x4,.b x5]],[]⟩
def qaL(m k):qX m k=qaT m k:=bt
def qaO:okS tb NZ:=λ m a=>tK (λ L=>BD m L a.1) (qaL m m)
def qaR:okS tb i67:=okq
def qhf:okP tb [] Yl:=okk
def qeE(m k x0 x1 x2):=tb.PL OR 4 m k [(0,.s x0),(38,vI x1),(39,vI x2)] ⟨[],[]⟩
def qdA(m k):pQ m k=qeE m k:=bt
def qeQ:okP tb [] OR:=λ m a=>tK (λ L=>Da m L a.1) (qdA m m)
def qfY(m k x0 x1 x2 x3 x4 x5):=tb.QL i68 17 m k [(1,vI x0),(2,.ptr 0 0),(3,.ptr 1 0),(57,vT x1),(58,vI x2),(59,vI x3)] ⟨[[vI x4],[vI x5]],[]⟩
def qfa(m k):mQ m (iv m) k=qfY m k:=bt
def qfH:okS tb i68:=λ m a=>tK (λ L=>Dq m (iv m) L a.1 a.2.1 a.2.2.1 a.2.2.2.1) (qfa m m)
def qf2:okP tb [] i36:=okk
def qcw(m k x0 x1 x2 x3 x4 x5 x6 x7):=tb.PL i73 2 m k [(0,.s x0),(2,.ptr 0 0),(5,.sl y6 x1 1),(6,vI x2),(7,vI x3)] ⟨[[.s x4,vI x5,vI x6,vI x7]],[]⟩
def qci(m k):tQ m k=qcw m k:=bt
def qcP:okP tb [] i73:=λ m a=>tK (λ L=>Cr m L a.1) (qci m m)
def QB(m k x0 x1 x2 x3 x4 x5 x6):=tb.PL i80 13 m k [(1,.ptr 0 0),(38,vT x0),(39,vI x1),(40,vI x2)] ⟨[[vI x3,.s x4,vI x5,vT x6]],[]⟩
def Qo(m k x0 x1 x2):=tb.PL i80 22 m k [(62,vT x0),(63,vI x1),(64,vI x2)] ⟨[],[]⟩
def qcJ(m k):iQ m (fH m) k=(QB m k,Qo m k):=bt (M:=λ k=>(QB m k,Qo m k))
def qdO:okP tb [] i80:=λ m a=>tK (x:=iQ m (fH m) m) (λ L=>CN m (fH m) L.1 L.2 a.1) (qcJ m m)
def qdD:okP tb [] i44:=okk
def qgY:okP tb [] Zf:=okk
def qgQ(m k x0 x1 x2 x3):=tb.PL NN 3 m k [(3,vI x0),(7,vT x1),(8,vI x2),(9,vI x3)] ⟨[],[]⟩
def qfo(m k):uz m (li m) k=qgQ m k:=bt
def qgP:okP tb [] NN:=λ m a=>tK (λ L=>Ef m (li m) L a.1) (qfo m m)
def qdf(m k x0 x1 x2 x3 x4 x5 x6 x7 x8 x9):=tb.PL i89 11 m k [(2,.ptr 0 0),(3,.ptr 1 0),(5,vI x0),(6,vI x1)] ⟨[[vI x2,.s x3,vI x4,vT x5],[vI x6,.s x7,vI x8,vT x9]],[]⟩
def qc0(m k):pO m (dp m) k=qdf m k:=bt
def qdM:okP tb [] i89:=λ m a=>tK (λ L=>CR m (dp m) L a.1 a.2.1) (qc0 m m)
def qel:okP tb [] i70:=okk
def qgW:okP tb [] Zr:=okk
def qcp:okP tb [] Y5:=okk
def PA(m k x0 x1 x2 x3 x4):=tb.PL HU 3 m k [(0,.sl y5 x0 1),(3,vI x1),(9,.sl y5 x2 1),(10,vI x3),(11,vI x4)] ⟨[],[]⟩
def Py(m k x0 x1 x2 x3):=tb.PL HU 11 m k [(6,.row 0 0),(25,.sl y5 x0 1),(26,vI x1),(27,vI x2)] ⟨[],[⟨.term,x3,0,0,Y⟩]⟩
def qaD(m k):jS m k=(PA m k,Py m k):=bt (M:=λ k=>(PA m k,Py m k))
def qaE:okP tb [] HU:=λ m a=>tK (x:=jS m m) (λ L=>BC m L.1 L.2 a.1) (qaD m m)
def qhb(m k x0 x1 x2):=tb.PL NX 4 m k [(14,vT x0),(15,vI x1),(16,vI x2)] ⟨[],[]⟩
def qgj(m k):uA m k=qhb m k:=bt
def qgK:okP tb [] NX:=λ m a=>tK (λ L=>D2 m L a.1 a.2.1) (qgj m m)
def qhM(m k x0 x1 x2):=tb.PL NI 2 m k [(0,vT x0),(1,vT x1),(5,.row 0 0)] ⟨[],[⟨.term,x2,0,0,Y⟩]⟩
def qgU(m k):uD m k=qhM m k:=bt
def qhS:okP tb [] NI:=λ m a=>tK (λ L=>Ez m L a.1 a.2.1) (qgU m m)
def qdc(m k x0 x1 x2 x3):=tb.PL OP 6 m k [(3,vT x0),(31,vT x1),(32,vI x2),(33,vI x3)] ⟨[],[]⟩
def qc6(m k):rk m (kY m) k=qdc m k:=bt
def qdS:okP tb [] OP:=λ m a=>tK (λ L=>Cz m (kY m) L a.1) (qc6 m m)
def qge(m k x0 x1 x2 x3 x4 x5 x6 x7 x8 x9 x10):=tb.PL OB 4 m k [(1,.ptr 0 0),(2,.ptr 1 0),(9,vT x0),(10,vI x1),(11,vI x2)] ⟨[[vI x3,.s x4,vI x5,.row 0 0],[vI x6,.s x7,vI x8,.row 1 0]],[⟨.term,x9,0,0,Y⟩,⟨.term,x10,0,0,Y⟩]⟩
def qeZ(m k):ul m (jY m) k=qge m k:=bt
def qfA:okP tb [] OB:=λ m a=>tK (λ L=>Dz m (jY m) L a.1) (qeZ m m)
def qdB(m k x0 x1 x2 x3 x4 x5 x6 x7 x8 x9 x10 x11 x12 x13 x14):=tb.PL Nw 4 m k [(5,.ptr 0 0),(6,.ptr 1 0),(8,.ptr 2 0),(9,.ptr 2 0),(14,.sl y2 x0 1),(15,vI x1),(16,vI x2)] ⟨[[vI x3,.s x4,vI x5,vT x6],[vI x7,.s x8,vI x9,.row 0 0],[vI x10,.s x11,vI x12,vT x13]],[⟨.term,x14,0,0,Y⟩]⟩
def qcL(m k):wE m k=qdB m k:=bt
def qd6:okP tb [] Nw:=λ m a=>tK (λ L=>CP m L a.1 a.2.1 a.2.2.1) (qcL m m)
def qiC(m k x0 x1 x2 x3):=tb.PL N1 3 m k [(3,.row 0 0),(9,vT x0),(10,vI x1),(11,vI x2)] ⟨[],[⟨.term,x3,0,0,Y⟩]⟩
def qhJ(m k):uO m (lk m) k=qiC m k:=bt
def qiP:okP tb [] N1:=λ m a=>tK (λ L=>ER m (lk m) L a.1) (qhJ m m)
def qim(m k x0 x1 x2 x3 x4 x5 x6 x7):=tb.PL NJ 6 m k [(2,.ptr 0 0),(5,vT x0),(15,vT x1),(16,vI x2),(17,vI x3)] ⟨[[vI x4,.s x5,vI x6,.row 0 0]],[⟨.term,x7,0,0,O⟩]⟩
def qhQ(m k):uJ m k=qim m k:=bt
def qip:okP tb [] NJ:=λ m a=>tK (λ L=>ED m L a.1) (qhQ m m)
def qbY:okP tb [] YS:=okk
def qco(m k x0 x1 x2 x3 x4 x5 x6 x7 x8 x9):=tb.PL Ok 3 m k [(1,.ptr 0 0),(2,.ptr 1 0),(10,.row 0 0),(11,vI x0),(12,vI x1)] ⟨[[vI x2,.s x3,vI x4,.row 0 0],[vI x5,.s x6,vI x7,.row 1 0]],[⟨.term,x8,0,0,Y⟩,⟨.term,x9,0,0,Y⟩]⟩
def qbG(m k):tM m (jD m) k=qco m k:=bt
def qch:okP tb [] Ok:=λ m a=>tK (λ L=>B3 m (jD m) L a.1) (qbG m m)
def qbo:okP tb [] Y2:=okk
def qaa(m k x0 x1 x2 x3 x4 x5 x6 x7):=tb.PL OQ 3 m k [(0,.sl y1 x0 1),(2,.fn 224 []),(4,.ptr 0 0),(8,vI x1),(9,vI x2),(10,vI x3)] ⟨[[vI x4,.s x5,vI x6,vT x7]],[]⟩
def Z9(m k):tx m k=qaa m k:=bt
def qab:okP tb [224] OQ:=λ m a=>tK (λ L=>Bu m L a.1 a.2.1) (Z9 m m)
def qbT:okS tb Zh:=okq
def qbs(m k x0 x1 x2 x3 x4):=tb.QL Ov 12 m k [(0,.row 0 0),(2,vI x0),(52,vT x1),(53,vI x2),(54,vI x3)] ⟨[],[⟨y1,x4,0,0,Y⟩]⟩
def qbb(m k):ra m (kV m) k=qbs m k:=bt
def qbB:okS tb Ov:=λ m a=>tK (λ L=>BO m (kV m) L a.1 a.2.1 a.2.2.1) (qbb m m)
def qeT:okP tb [] Zx:=okk
def qcd(m k x0 x1 x2 x3):=tb.PL Oi 4 m k [(0,.sl y1 x0 1),(9,.sl y1 x1 1),(10,vI x2),(11,vI x3)] ⟨[],[]⟩
def qbH(m k):rh m k=qcd m k:=bt
def qb7:okP tb [] Oi:=λ m a=>tK (λ L=>B1 m L a.1) (qbH m m)
def qdQ:okP tb [] YM:=okk
def Qh(m k x0 x1 x2 x3 x4 x5 x6 x7 x8):=tb.PL A2 6 m k [(2,.ptr 0 0),(5,.row 1 0),(6,.row 2 0),(18,.sl y1 x0 1),(19,vI x1),(20,vI x2)] ⟨[[vI x3,.s x4,vI x5,.row 0 0]],[⟨.term,x6,0,0,Y⟩,⟨.term,x7,0,0,Y⟩,⟨.term,x8,0,0,Y⟩]⟩
def P8(m k x0 x1 x2 x3 x4 x5 x6 x7 x8 x9 x10 x11 x12 x13 x14 x15):=tb.PL A2 11 m k [(2,.ptr 0 0),(5,.row 1 0),(6,.row 2 0),(8,.ptr 1 0),(18,.sl y1 x0 1),(19,vI x1),(20,vI x2),(34,vI x3),(35,vI x4)] ⟨[[vI x5,.s x6,vI x7,.row 0 0],[vI x8,.s x9,vI x10,vT x11,vI x12]],[⟨.term,x13,0,0,Y⟩,⟨.term,x14,0,0,Y⟩,⟨.term,x15,0,0,Y⟩]⟩
def Qj(m k x0 x1 x2 x3 x4 x5 x6 x7 x8 x9 x10 x11 x12 x13 x14 x15):=tb.PL A2 15 m k [(2,.ptr 0 0),(5,.row 1 0),(6,.row 2 0),(8,.ptr 1 0),(18,.sl y1 x0 1),(19,vI x1),(20,vI x2),(46,vI x3),(47,vI x4)] ⟨[[vI x5,.s x6,vI x7,.row 0 0],[vI x8,.s x9,vI x10,vT x11,vI x12]],[⟨.term,x13,0,0,Y⟩,⟨.term,x14,0,0,Y⟩,⟨.term,x15,0,0,Y⟩]⟩
def qcu(m k):fG m k=(Qh m k,P8 m k,Qj m k):=bt (M:=λ k=>(Qh m k,P8 m k,Qj m k))
def qcG:okP tb [] A2:=λ m a=>tK (x:=fG m m) (λ L=>Cn m L.1 L.2.1 L.2.2 a.1) (qcu m m)
def qbX(m k x0 x1 x2 x3):=tb.QL Ox 3 m k [(3,.row 0 0),(6,.sl y1 x0 1),(7,vI x1),(8,vI x2)] ⟨[],[⟨y1,x3,0,0,Y⟩]⟩
def qbv(m k):tJ m k=qbX m k:=bt
def qbP:okS tb Ox:=λ m a=>tK (λ L=>BX m L a.1) (qbv m m)
def qbe:okP tb [] Ze:=okk
def qaq(m k x0 x1 x2):=tb.PL NT 2 m k [(0,.sl y1 x0 1),(1,.fn 228 []),(7,vI x1),(8,vI x2)] ⟨[],[]⟩
def qao(m k):wu m k=qaq m k:=bt
def qap:okP tb [228] NT:=λ m a=>tK (λ L=>Bw m L a.1) (qao m m)
def qai:okP tb [228] YO:=okk
def qbW:okP tb [] Yp:=okk
def qdz(m k x0 x1 x2 x3):=tb.PL N8 9 m k [(8,.row 0 0),(23,.sl y1 x0 1),(24,vI x1),(25,vI x2)] ⟨[],[⟨y1,x3,0,0,Y⟩]⟩
def qcM(m k):tX m k=qdz m k:=bt
def qdX:okP tb [] N8:=λ m a=>tK (λ L=>CO m L a.1 a.2.1) (qcM m m)
def qfP:okP tb [] YK:=okk
def qdj:okP tb [] Y3:=okk
def qcK(m k x0 x1 x2 x3 x4 x5 x6 x7 x8 x9 x10 x11 x12 x13 x14):=tb.PL OC 5 m k [(1,.ptr 0 0),(2,.ptr 1 0),(4,.ptr 2 0),(19,vT x0),(20,vI x1),(21,vI x2)] ⟨[[vI x3,.s x4,vI x5,vT x6],[vI x7,.s x8,vI x9,.row 0 0],[vI x10,.s x11,vI x12,.row 1 0]],[⟨.term,x13,0,0,Y⟩,⟨.term,x14,0,0,Y⟩]⟩
def qb8(m k):tO m (lP m) k=qcK m k:=bt
def qcB:okP tb [] OC:=λ m a=>tK (λ L=>Cm m (lP m) L a.1) (qb8 m m)
def qcA:okP tb [] i69:=okk
def qb3:okP tb [] i72:=okk
def qa7(m k x0 x1 x2):=tb.PL i71 4 m k [(1,.fn 72 []),(18,vT x0),(19,vI x1),(20,vI x2)] ⟨[],[]⟩
def qaY(m k):qZ m (kU m) k=qa7 m k:=bt
def qa4:okP tb [72] i71:=λ m a=>tK (λ L=>BH m (kU m) L a.1) (qaY m m)
def qdZ:okP tb [] i37:=okk
def qbU:okP tb [] i11:=okk
def qaP:okS tb Yk:=okq
def qbg(m k x0 x1 x2 x3 x4):=tb.QL NY 3 m k [(1,.fn 110 [.ptr 0 0,.ptr 1 0]),(10,vT x0),(11,vI x1),(12,vI x2)] ⟨[[vI x3],[.row 0 0]],[⟨.term,x4,0,0,Y⟩]⟩
def qa8(m k):tF m (lN m) k=qbg m k:=bt
def qbf:okS tb NY:=λ m a=>tK (λ L=>BM m (lN m) L a.1 a.2.1 a.2.2.1) (qa8 m m)
def qb4:okP tb [] Yv:=okk
def qdd(m k x0 x1 x2):=tb.QL Of 4 m k [(0,.row 0 0),(9,vI x0),(10,vI x1)] ⟨[],[⟨.term,x2,0,0,Y⟩]⟩
def qc1(m k):tW m k=qdd m k:=bt
def qdW:okS tb Of:=λ m a=>tK (λ L=>CT m L a.1) (qc1 m m)
def qef:okP tb [] i81:=okk
def qgx:okP tb [] i45:=okk
def qaK:okS tb i84:=okq
def qae(m k x0 x1 x2 x3 x4 x5 x6):=tb.QL i82 2 m k [(0,.sl y8 x0 1),(1,.fn 84 [.ptr 0 0]),(7,vI x1),(8,vI x2)] ⟨[[vI x3,.s x4,vI x5,vT x6]],[]⟩
def qad(m k):Pv m k=qae m k:=bt
def qag:okS tb i82:=λ m a=>tK (λ L=>Pu m L a.1 a.2.1) (qad m m)
def qcn(m k x0 x1 x2 x3):=tb.QL i46 8 m k [(0,.row 0 0),(46,vT x0),(47,vI x1),(48,vI x2)] ⟨[],[⟨y14,x3,0,0,Y⟩]⟩
def qbF(m k):Qi m (Dk m) k=qcn m k:=bt
def qb1:okS tb i46:=λ m a=>tK (λ L=>P6 m (Dk m) L a.1 a.2.1) (qbF m m)
def qbJ:okP tb [] i14:=okk
def qcE:okP tb [] YE:=okk
def qa1(m k x0 x1 x2):=tb.PL Nb 4 m k [(1,.fn 120 []),(18,vT x0),(19,vI x1),(20,vI x2)] ⟨[],[]⟩
def qaQ(m k):qY m (kT m) k=qa1 m k:=bt
def qaV:okP tb [120] Nb:=λ m a=>tK (λ L=>BF m (kT m) L a.1) (qaQ m m)
def qeV:okP tb [] i93:=okk
def qby:okP tb [] i58:=okk
def qbk(m k x0 x1 x2):=tb.PL i50 4 m k [(9,vT x0),(10,vI x1),(11,vI x2)] ⟨[],[]⟩
def qa5(m k):tG m k=qbk m k:=bt
def qbd:okP tb [] i50:=λ m a=>tK (λ L=>BJ m L a.1) (qa5 m m)
def QA(m k x0 x1 x2 x3 x4 x5 x6 x7 x8 x9 x10 x11):=tb.PL i52 2 m k [(0,.sl y3 x0 1),(3,.ptr 0 0),(4,.ptr 1 0),(10,.sl y3 x1 1),(11,vI x2),(12,vI x3)] ⟨[[vI x4,.s x5,vI x6,vT x7],[vI x8,.s x9,vI x10,.row 0 0]],[⟨.term,x11,0,0,Y⟩]⟩
def Qv(m k x0 x1 x2 x3 x4 x5 x6 x7 x8 x9 x10 x11):=tb.PL i52 10 m k [(0,.sl y3 x0 1),(4,.ptr 0 0),(7,.ptr 1 0),(27,vT x1),(28,vI x2),(29,vI x3)] ⟨[[vI x4,.s x5,vI x6,.row 0 0],[vI x7,.s x8,vI x9,.row 1 0]],[⟨.term,x10,0,0,Y⟩,⟨.term,x11,0,0,Y⟩]⟩
def qcO(m k):jU m (gm m) k=(QA m k,Qv m k):=bt (M:=λ k=>(QA m k,Qv m k))
def qd3:okP tb [] i52:=λ m a=>tK (x:=jU m (gm m) m) (λ L=>CH m (gm m) L.1 L.2 a.1 a.2.1) (qcO m m)
def qcm(m k x0 x1 x2 x3 x4 x5 x6 x7 x8 x9 x10 x11 x12):=tb.QL i56 9 m k [(1,.s x0),(2,.mp 0),(6,.ptr 1 0),(7,.ptr 2 0),(38,vT x1),(39,vI x2),(40,vI x3)] ⟨[[.mc .str .str x4],[vI x5,.s x6,vI x7,.row 0 0],[vI x8,.s x9,vI x10,.row 1 0]],[⟨.term,x11,0,0,Y⟩,⟨.term,x12,0,0,Y⟩]⟩
def qbN(m k):rc m (jV m) k=qcm m k:=bt
def qb2:okS tb i56:=λ m a=>tK (λ L=>wC m (jV m) L a.1 a.2.1 a.2.2.1) (qbN m m)
def qet:okP tb [] i91:=okk
def qgc:okP tb [] i96:=okk
def qeO:okP tb [] Zv:=okk
def qfB:okP tb [] Yr:=okk
def qeB:okP tb [] YQ:=okk
def qg7:okP tb [] i95:=okk
def qgA(m k x0 x1 x2 x3 x4 x5 x6 x7 x8 x9 x10 x11 x12):=tb.QL OO 10 m k [(0,.mp 0),(3,.ptr 1 0),(4,.ptr 2 0),(7,.row 1 0),(32,vT x0),(33,vI x1),(34,vI x2)] ⟨[[.mc y9 .term x3],[vI x4,.s x5,vI x6,vT x7],[vI x8,.s x9,vI x10,.row 0 0]],[⟨.term,x11,0,0,Y⟩,⟨.term,x12,0,0,Y⟩]⟩
def qfm(m k):uw m (jm m) k=qgA m k:=bt
def qgG:okS tb OO:=λ m a=>tK (λ L=>DZ m (jm m) L a.1 a.2.1) (qfm m m)
def PM(m k x0 x1 x2 x3 x4 x5 x6 x7 x8 x9 x10 x11 x12 x13 x14):=tb.QL HJ 6 m k [(0,.ptr 0 0),(4,.ptr 1 0),(5,.ptr 2 0),(8,.ptr 3 0),(9,.fn 186 [.ptr 5 0,.ptr 3 0]),(10,.row 1 0),(25,vI x0),(26,vI x1)] ⟨[[.sl y3 x2 1,.row 0 0],[vI x3,.s x4,vI x5,vT x6],[vI x7,.s x8,vI x9,vT x10],[.b x11],[.mc y9 .term x12],[.mp 4]],[⟨y3,x13,0,0,Y⟩,⟨y3,x14,0,0,Y⟩]⟩
def PP(m k x0 x1 x2 x3 x4 x5 x6 x7 x8 x9 x10 x11 x12 x13 x14):=tb.QL HJ 12 m k [(0,.ptr 0 0),(4,.ptr 1 0),(5,.ptr 2 0),(8,.ptr 3 0),(9,.fn 186 [.ptr 5 0,.ptr 3 0]),(10,.row 1 0),(46,vI x0),(47,vI x1)] ⟨[[.sl y3 x2 1,.row 0 0],[vI x3,.s x4,vI x5,vT x6],[vI x7,.s x8,vI x9,vT x10],[.b x11],[.mc y9 .term x12],[.mp 4]],[⟨y3,x13,0,0,Y⟩,⟨y3,x14,0,0,Y⟩]⟩
def qbj(m k):jC m k=(PM m k,PP m k):=bt (M:=λ k=>(PM m k,PP m k))
def qbD:okS tb HJ:=λ m a=>tK (x:=jC m m) (λ L=>BS m L.1 L.2 a.1 a.2.1 a.2.2.1) (qbj m m)
def qbO:okS tb Yo:=okq
def qd1:okP tb [] Yw:=okk
def qak:okS tb Zk:=okq
def qaW:okS tb Y6:=okq
def qat(m k x0 x1 x2 x3 x4 x5 x6):=tb.QL Oq 2 m k [(0,vT x0),(1,.fn 185 [.ptr 0 0]),(7,vI x1),(8,vI x2)] ⟨[[vI x3,.s x4,vI x5,vT x6]],[]⟩
def qar(m k):tz m (iR m) (kR m) (jT m) (kS m) k=qat m k:=bt
def qas:okS tb Oq:=λ m a=>tK (λ L=>By m (iR m) (kR m) (jT m) (kS m) L a.1 a.2.1) (qar m m)
def qbC(m k x0 x1 x2 x3 x4 x5 x6 x7 x8 x9 x10 x11 x12):=tb.QL Nz 8 m k [(0,.ptr 0 0),(3,.ptr 1 0),(4,.ptr 2 0),(5,.row 1 0),(39,vI x0),(40,vI x1)] ⟨[[.sl y3 x2 1,.row 0 0],[vI x3,.s x4,vI x5,vT x6],[vI x7,.s x8,vI x9,vT x10]],[⟨y3,x11,0,0,Y⟩,⟨y3,x12,0,0,Y⟩]⟩
def qbh(m k):tH m k=qbC m k:=bt
def qbA:okS tb Nz:=λ m a=>tK (λ L=>BU m L a.1) (qbh m m)
def qbm:okP tb [] YL:=okk
def qbM:okS tb Yq:=okq
def qex(m k x0 x1):=tb.PL i92 2 m k [(4,.ptr 0 0)] ⟨[[.sl y3 x0 1,.row 0 0]],[⟨y3,x1,0,0,Y⟩]⟩
def qdt(m k):mP m k=qex m k:=bt
def qeC:okP tb [] i92:=λ m a=>tK (λ L=>CX m L a.1) (qdt m m)
def qeX:okP tb [] i57:=okk
def PK(m k x0 x1 x2 x3 x4 x5 x6):=tb.PL i26 5 m k [(0,vT x0),(4,.ptr 0 0),(20,vI x1),(21,vI x2)] ⟨[[vI x3,.s x4,vI x5,.row 0 0]],[⟨.term,x6,0,0,Y⟩]⟩
def PH(m k x0 x1 x2 x3 x4 x5 x6 x7 x8 x9 x10 x11 x12):=tb.PL i26 9 m k [(0,vT x0),(4,.ptr 0 0),(7,vI x1),(8,.ptr 1 0),(9,vI x2),(20,vI x3),(21,vI x4)] ⟨[[vI x5,.s x6,vI x7,.row 0 0],[vI x8,.s x9,vI x10,vT x11]],[⟨.term,x12,0,0,Y⟩]⟩
def qa6(m k):jl m k=(PK m k,PH m k):=bt (M:=λ k=>(PK m k,PH m k))
def qbc:okP tb [] i26:=λ m a=>tK (x:=jl m m) (λ L=>BN m L.1 L.2 a.1) (qa6 m m)
def qgt:okP tb [] i32:=okk
def qfD:okP tb [] i33:=okk
def qha:okP tb [] i34:=okk
def qeM:okP tb [] i10:=okk
def qdi(m k x0 x1 x2 x3 x4 x5):=tb.PL i86 5 m k [(1,vI x0),(2,.ptr 0 0),(5,vI x1)] ⟨[[vI x2,.s x3,vI x4,vT x5]],[]⟩
def qcU(m k):tU m (lR m) k=qdi m k:=bt
def qdT:okP tb [] i86:=λ m a=>tK (λ L=>CW m (lR m) L a.1 a.2.1) (qcU m m)
def qgH(m k x0 x1 x2):=tb.PL i47 4 m k [(0,vT x0),(2,vI x1),(7,vI x2)] ⟨[],[]⟩
def qf3(m k):uB m k=qgH m k:=bt
def qgZ:okP tb [] i47:=λ m a=>tK (λ L=>D7 m L a.1 a.2.1 a.2.2.1) (qf3 m m)
def qgJ:okP tb [] i15:=okk
def qgl(m k x0 x1 x2 x3 x4 x5):=tb.PL i39 3 m k [(1,.ptr 0 0),(3,vI x0),(4,vI x1)] ⟨[[vI x2,.s x3,vI x4,vT x5]],[]⟩
def qey(m k):ui m (jX m) k=qgl m k:=bt
def qfx:okP tb [] i39:=λ m a=>tK (λ L=>DD m (jX m) L a.1) (qey m m)
def qeA(m k x0 x1 x2 x3 x4 x5):=tb.PL i40 3 m k [(1,.ptr 0 0),(3,vI x0),(4,vI x1)] ⟨[[vI x2,.s x3,vI x4,vT x5]],[]⟩
def qda(m k):ue m (lU m) k=qeA m k:=bt
def qe8:okP tb [] i40:=λ m a=>tK (λ L=>C6 m (lU m) L a.1) (qda m m)
def qdU:okP tb [] Zu:=okk
def qfd:okP tb [] YI:=okk
def qc8(m k x0 x1):=tb.PL NE 4 m k [(0,.s x0),(3,vI x1)] ⟨[],[]⟩
def qc7(m k):tT m k=qc8 m k:=bt
def qdu:okP tb [] NE:=λ m a=>tK (λ L=>CG m L a.1) (qc7 m m)
def qfT:okP tb [] Y7:=okk
def qe1(m k x0 x1 x2 x3 x4):=tb.PL i90 5 m k [(1,.ptr 0 0),(4,vI x0)] ⟨[[vI x1,.s x2,vI x3,vT x4]],[]⟩
def qdP(m k):ua m (lT m) k=qe1 m k:=bt
def qej:okP tb [] i90:=λ m a=>tK (λ L=>C7 m (lT m) L a.1) (qdP m m)
def qe9:okP tb [] i55:=okk
def qcR:okP tb [] i99:=okk
def qfG(m k x0 x1 x2):=tb.PL i64 3 m k [(0,.s x0),(3,.sl y6 x1 1),(4,vI x2)] ⟨[],[]⟩
def qeN(m k):um m k=qfG m k:=bt
def qfL:okP tb [] i64:=λ m a=>tK (λ L=>Dy m L a.1) (qeN m m)
def qf0(m k x0 x1 x2 x3 x4 x5):=tb.PL N2 3 m k [(1,.ptr 0 0),(3,.sl y6 x0 1),(4,vI x1)] ⟨[[vI x2,.s x3,vI x4,vT x5]],[]⟩
def qei(m k):uj m k=qf0 m k:=bt
def qfi:okP tb [] N2:=λ m a=>tK (λ L=>DH m L a.1) (qei m m)
def qd0(m k x0 x1 x2 x3 x4):=tb.PL NH 4 m k [(1,.ptr 0 0),(3,vI x0)] ⟨[[vI x1,.s x2,vI x3,vT x4]],[]⟩
def qcZ(m k):tY m k=qd0 m k:=bt
def qdg:okP tb [] NH:=λ m a=>tK (λ L=>CD m L a.1) (qcZ m m)
def qeq(m k x0 x1 x2 x3 x4):=tb.PL i77 11 m k [(1,.ptr 0 0),(4,vI x0)] ⟨[[vI x1,.s x2,vI x3,vT x4]],[]⟩
def qdI(m k):rp m (lc m) k=qeq m k:=bt
def qek:okP tb [] i77:=λ m a=>tK (λ L=>Dj m (lc m) L a.1) (qdI m m)
def qeh:okP tb [] i41:=okk
def qdL:okP tb [] i79:=okk
def qcC(m k x0 x1 x2 x3 x4 x5 x6 x7 x8):=tb.PL i43 18 m k [(2,.ptr 0 0),(3,.ptr 1 0),(9,vI x0)] ⟨[[vI x1,.s x2,vI x3,vT x4],[vI x5,.s x6,vI x7,vT x8]],[]⟩
def qcc(m k):tP m (jE m) k=qcC m k:=bt
def qc2:okP tb [] i43:=λ m a=>tK (λ L=>Cg m (jE m) L a.1 a.2.1) (qcc m m)
def qfs:okP tb [] i13:=okk
def qgF(m k x0 x1 x2 x3 x4 x5):=tb.PL i62 3 m k [(1,.ptr 0 0),(3,.row 0 0),(4,vI x0)] ⟨[[vI x1,.s x2,vI x3,vT x4]],[⟨.term,x5,0,0,O⟩]⟩
def qgb(m k):uq m (ke m) k=qgF m k:=bt
def qgu:okP tb [] i62:=λ m a=>tK (λ L=>D5 m (ke m) L a.1) (qgb m m)
def qhl:okP tb [] YJ:=okk
def qc3:okP tb [] Za:=okk
def qes(m k x0 x1 x2 x3 x4 x5):=tb.PL NV 4 m k [(0,vT x0),(3,.ptr 0 0),(5,vI x1)] ⟨[[vI x2,.s x3,vI x4,vT x5]],[]⟩
def qdk(m k):uc m k=qes m k:=bt
def qem:okP tb [] NV:=λ m a=>tK (λ L=>Dm m L a.1 a.2.1) (qdk m m)
def qf9:okP tb [] Y0:=okk
def qg0(m k x0 x1 x2 x3 x4 x5 x6 x7):=tb.PL Oo 4 m k [(0,vT x0),(3,.ptr 0 0),(5,.row 0 0),(6,.b x1),(7,vI x2)] ⟨[[vI x3,.s x4,vI x5,vT x6]],[⟨.term,x7,0,0,Y⟩]⟩
def qfJ(m k):ur m k=qg0 m k:=bt
def qhi:okP tb [] Oo:=λ m a=>tK (λ L=>DR m L a.1 a.2.1) (qfJ m m)
def qhg(m k x0 x1 x2 x3 x4 x5):=tb.PL Np 2 m k [(0,vT x0),(3,.ptr 0 0),(5,vI x1)] ⟨[[vI x2,.s x3,vI x4,vT x5]],[]⟩
def qfI(m k):ut m k=qhg m k:=bt
def qgs:okP tb [] Np:=λ m a=>tK (λ L=>D9 m L a.1 a.2.1) (qfI m m)
def qdr(m k x0 x1 x2 x3 x4 x5 x6):=tb.PL Nv 5 m k [(0,vT x0),(3,.ptr 0 0),(5,.row 0 0),(6,vI x1)] ⟨[[vI x2,.s x3,vI x4,vT x5]],[⟨.term,x6,0,0,Y⟩]⟩
def qcF(m k):tV m k=qdr m k:=bt
def qdJ:okP tb [] Nv:=λ m a=>tK (λ L=>CK m L a.1 a.2.1) (qcF m m)
def qfS(m k x0 x1 x2):=tb.PL OH 3 m k [(1,vT x0),(5,vT x1),(6,vI x2)] ⟨[],[]⟩
def qew(m k):rA m k=qfS m k:=bt
def qgm:okP tb [] OH:=λ m a=>tK (λ L=>Dw m L a.1 a.2.1) (qew m m)
def qb9(m k x0 x1 x2 x3 x4 x5):=tb.PL On 7 m k [(1,.ptr 0 0),(3,vT x0),(4,vI x1)] ⟨[[vI x2,.s x3,vI x4,vT x5]],[]⟩
def qbL(m k):ri m (kW m) k=qb9 m k:=bt
def qcb:okP tb [] On:=λ m a=>tK (λ L=>BZ m (kW m) L a.1) (qbL m m)
def qfr:okP tb [] Nu:=okk
def qg9(m k x0 x1 x2 x3 x4 x5 x6):=tb.PL OS 6 m k [(0,vT x0),(2,.ptr 0 0),(5,vT x1),(6,vI x2)] ⟨[[vI x3,.s x4,vI x5,.row 0 0]],[⟨.term,x6,0,0,O⟩]⟩
def qfw(m k):ux m k=qg9 m k:=bt
def qg4:okP tb [] OS:=λ m a=>tK (λ L=>DQ m L a.1) (qfw m m)
def qcV:okP tb [] Zd:=okk
def qe4(m k x0 x1 x2 x3 x4 x5):=tb.PL Oe 7 m k [(1,.ptr 0 0),(3,vI x0),(4,vI x1)] ⟨[[vI x2,.s x3,vI x4,vT x5]],[]⟩
def qdV(m k):rt m (kZ m) k=qe4 m k:=bt
def qeF:okP tb [] Oe:=λ m a=>tK (λ L=>Di m (kZ m) L a.1) (qdV m m)
def qgn(m k x0 x1 x2 x3 x4 x5 x6 x7 x8):=tb.QL N6 4 m k [(0,.row 0 0),(2,vI x0),(4,.ptr 0 0),(7,.row 1 0),(8,.b x1),(9,vI x2)] ⟨[[vI x3,.s x4,vI x5,vT x6]],[⟨y1,x7,0,0,Y⟩,⟨y1,x8,0,0,Y⟩]⟩
def qfC(m k):pS m k=qgn m k:=bt
def qgL:okS tb N6:=λ m a=>tK (λ L=>D4 m L a.1 a.2.1 a.2.2.1) (qfC m m)
def qcQ(m k x0 x1 x2 x3 x4 x5 x6):=tb.QL NK 6 m k [(0,.row 0 0),(2,vI x0),(4,.ptr 0 0),(7,vI x1)] ⟨[[vI x2,.s x3,vI x4,vT x5]],[⟨y1,x6,0,0,Y⟩]⟩
def qcq(m k):rj m (kX m) k=qcQ m k:=bt
def qcD:okS tb NK:=λ m a=>tK (λ L=>Ct m (kX m) L a.1 a.2.1 a.2.2.1) (qcq m m)
def qhT:okP tb [] Zi:=okk
def qfb(m k x0 x1):=tb.PL Ot 4 m k [(0,.sl y1 x0 1),(3,vI x1)] ⟨[],[]⟩
def qdy(m k):ru m k=qfb m k:=bt
def qeL:okP tb [] Ot:=λ m a=>tK (λ L=>C4 m L a.1) (qdy m m)
def PV(m k x0 x1 x2):=tb.PL ye 3 m k [(0,.sl y1 x0 1),(3,.row 0 0),(4,vI x1)] ⟨[],[⟨.term,x2,0,0,Y⟩]⟩
def PX(m k x0 x1 x2 x3):=tb.PL ye 6 m k [(0,.sl y1 x0 1),(3,.row 0 0),(4,vI x1),(5,vI x2)] ⟨[],[⟨.term,x3,0,0,Y⟩]⟩
def PY(m k x0 x1 x2):=tb.PL ye 10 m k [(0,.sl y1 x0 1),(3,.row 0 0),(6,vI x1)] ⟨[],[⟨.term,x2,0,0,Y⟩]⟩
def P2(m k x0 x1 x2 x3):=tb.PL ye 13 m k [(0,.sl y1 x0 1),(3,.row 0 0),(6,vI x1),(7,vI x2)] ⟨[],[⟨.term,x3,0,0,Y⟩]⟩
def qbS(m k):dn m k=(PV m k,PX m k,PY m k,P2 m k):=bt (M:=λ k=>(PV m k,PX m k,PY m k,P2 m k))
def qcr:okP tb [] ye:=λ m a=>tK (x:=dn m m) (λ L=>B8 m L.1 L.2.1 L.2.2.1 L.2.2.2 a.1) (qbS m m)
def qfR:okP tb [] NR:=okk
def qcz:okP tb [] YU:=okk
def qc4(m k x0 x1):=tb.PL OL 2 m k [(0,.sl y1 x0 1),(3,vI x1)] ⟨[],[]⟩
def qce(m k):tN m k=qc4 m k:=bt
def qcW:okP tb [] OL:=λ m a=>tK (λ L=>Cs m L a.1) (qce m m)
def qhe(m k x0 x1 x2):=tb.PL OF 9 m k [(1,.sl y1 x0 1),(8,.row 0 0),(9,vI x1)] ⟨[],[⟨y1,x2,0,0,Y⟩]⟩
def qfu(m k):rC m k=qhe m k:=bt
def qgO:okP tb [] OF:=λ m a=>tK (λ L=>D0 m L a.1 a.2.1) (qfu m m)
def qeY:okP tb [] YG:=okk
def qdh(m k x0 x1 x2 x3 x4 x5 x6 x7 x8 x9):=tb.PL OD 5 m k [(1,.ptr 0 0),(2,.ptr 1 0),(4,.row 1 0),(5,vI x0)] ⟨[[vI x1,.s x2,vI x3,vT x4],[vI x5,.s x6,vI x7,.row 0 0]],[⟨.term,x8,0,0,Y⟩,⟨.term,x9,0,0,Y⟩]⟩
def qcT(m k):tZ m (lQ m) k=qdh m k:=bt
def qdK:okP tb [] OD:=λ m a=>tK (λ L=>CE m (lQ m) L a.1) (qcT m m)
def qdn:okP tb [] i78:=okk
def qez(m k x0 x1):=tb.PL i42 6 m k [(5,vT x0),(6,vI x1)] ⟨[],[]⟩
def qd4(m k):uf m k=qez m k:=bt
def qeW:okP tb [] i42:=λ m a=>tK (λ L=>Dd m L a.1) (qd4 m m)
def qgR(m k x0 x1 x2):=tb.PL Nt 3 m k [(0,vT x0),(3,vT x1),(4,vI x2)] ⟨[],[]⟩
def qgd(m k):uv m k=qgR m k:=bt
def qgz:okP tb [] Nt:=λ m a=>tK (λ L=>D6 m L a.1) (qgd m m)
def qfE(m k x0 x1 x2 x3):=tb.PL NL 4 m k [(1,vI x0),(5,.row 0 0),(6,vT x1),(7,vI x2)] ⟨[],[⟨.term,x3,0,0,Y⟩]⟩
def qe6(m k):uh m k=qfE m k:=bt
def qfM:okP tb [] NL:=λ m a=>tK (λ L=>DI m L a.1 a.2.1) (qe6 m m)
def qfk:okP tb [] i87:=okk
def qd5:okP tb [] i48:=okk
def qeo:okP tb [] i18:=okk
def qeu(m k x0 x1 x2 x3 x4 x5 x6 x7 x8 x9 x10):=tb.QL i94 10 m k [(2,.mp 0),(3,.ptr 1 0),(4,.ptr 2 0),(39,vI x0),(40,vI x1)] ⟨[[.mc y9 .term x2],[vI x3,.s x4,vI x5,vT x6],[vI x7,.s x8,vI x9,vT x10]],[]⟩
def qdF(m k):wH m (mR m) k=qeu m k:=bt
def qed:okS tb i94:=λ m a=>tK (λ L=>C2 m (mR m) L a.1 a.2.1 a.2.2.1) (qdF m m)
def qea(m k x0 x1 x2 x3 x4):=tb.PL i59 9 m k [(7,.mp 0),(8,.row 0 0),(25,vT x0),(26,vI x1),(27,vI x2)] ⟨[[.mc y9 .term x3]],[⟨y3,x4,0,0,Y⟩]⟩
def qdR(m k):wI m k=qea m k:=bt
def qeJ:okP tb [] i59:=λ m a=>tK (λ L=>Dn m L a.1 a.2.1) (qdR m m)
def qcy:okP tb [] i27:=okk
def qb0:okP tb [] i63:=okk
def qf1(m k x0 x1):=tb.PL i30 5 m k [(3,vT x0),(4,vI x1)] ⟨[],[]⟩
def qe3(m k):uo m k=qf1 m k:=bt
def qfq:okP tb [] i30:=λ m a=>tK (λ L=>Du m L a.1) (qe3 m m)
def qen:okP tb [] i75:=okk
def qeg(m k x0 x1 x2):=tb.PL i65 3 m k [(0,.s x0),(3,.sl .str x1 1),(4,vI x2)] ⟨[],[]⟩
def qdG(m k):ub m k=qeg m k:=bt
def qeD:okP tb [] i65:=λ m a=>tK (λ L=>Dl m L a.1) (qdG m m)
def qcH:okP tb [] i66:=okk
def qfc(m k x0 x1 x2 x3 x4 x5):=tb.PL i31 7 m k [(1,.ptr 0 0),(3,.s x0),(4,vI x1)] ⟨[[vI x2,.s x3,vI x4,vT x5]],[]⟩
def qdl(m k):ry m (lg m) k=qfc m k:=bt
def qeK:okP tb [] i31:=λ m a=>tK (λ L=>Dg m (lg m) L a.1) (qdl m m)
def qaN:okP tb [] i9:=okk
end
end Go.AmZ
namespace Go.Proofs
open Go.Shelf
def Tryz.sortTrm_ren:Go.Shelf.Ren:=⟨λ|6=>139|15=>176|14=>175|28=>211|29=>179|20=>203|21=>204|22=>205|23=>206|24=>207|25=>208|26=>209|27=>210|46=>231|47=>232|48=>233|49=>234|50=>235|57=>242|n=>n,λ|22=>23|24=>25|25=>64|3=>3|39=>164|0=>0|53=>169|55=>144|4=>4|46=>188|45=>187|50=>192|5=>5|9=>9|66=>209|70=>83|76=>221|77=>222|n=>n,λ|n=>n⟩
def Tryz.sortTrm:Go.Proofs.SlLaysF0.n6 Tryz.prog Tryz.sortTrm_ren:={
 mixed:=by kernel_rfl
 f6:=⟨Tryz.f139.name,by decide,Tryz.func139.trans (aY Z (by kernel_rfl))⟩
 f14:=⟨Tryz.f175.name,by decide,Tryz.func175.trans (aY Z (by kernel_rfl))⟩
 f15:=Tryz.func176.trans (aY Z (by kernel_rfl))
 f20:=⟨Tryz.f203.name,by decide,Tryz.func203.trans (aY Z (by kernel_rfl))⟩
 f21:=⟨Tryz.f204.name,by decide,Tryz.func204.trans (aY Z (by kernel_rfl))⟩
 f22:=⟨Tryz.f205.name,by decide,Tryz.func205.trans (aY Z (by kernel_rfl))⟩
 f23:=⟨Tryz.f206.name,by decide,Tryz.func206.trans (aY Z (by kernel_rfl))⟩
 f24:=⟨Tryz.f207.name,by decide,Tryz.func207.trans (aY Z (by kernel_rfl))⟩
 f25:=⟨Tryz.f208.name,by decide,Tryz.func208.trans (aY Z (by kernel_rfl))⟩
 f26:=⟨Tryz.f209.name,by decide,Tryz.func209.trans (aY Z (by kernel_rfl))⟩
 f27:=⟨Tryz.f210.name,by decide,Tryz.func210.trans (aY Z (by kernel_rfl))⟩
 f28:=Tryz.func211.trans (aY Z (by kernel_rfl))
 f29:=Tryz.func179.trans (aY Z (by kernel_rfl))
 f46:=⟨Tryz.f231.name,by decide,Tryz.func231.trans (aY Z (by kernel_rfl))⟩
 f47:=Tryz.func232.trans (aY Z (by kernel_rfl))
 f48:=Tryz.func233.trans (aY Z (by kernel_rfl))
 f49:=⟨Tryz.f234.name,by decide,Tryz.func234.trans (aY Z (by kernel_rfl))⟩
 f50:=⟨Tryz.f235.name,by decide,Tryz.func235.trans (aY Z (by kernel_rfl))⟩
 f57:=⟨Tryz.f242.name,by decide,Tryz.func242.trans (aY Z (by kernel_rfl))⟩
 t0:=Tryz.underlying0
 a0:=Tryz.isAgg0
 z0:=Tryz.sizeOf0
 v0:=Tryz.zeroValue0
 t3:=Tryz.underlying3
 a3:=Tryz.isAgg3
 z3:=Tryz.sizeOf3
 v3:=Tryz.zeroValue3
 t4:=Tryz.underlying4
 a4:=Tryz.isAgg4
 z4:=Tryz.sizeOf4
 v4:=Tryz.zeroValue4
 t5:=Tryz.underlying5
 a5:=Tryz.isAgg5
 z5:=Tryz.sizeOf5
 v5:=Tryz.zeroValue5
 t9:=Tryz.underlying9
 a9:=Tryz.isAgg9
 z9:=Tryz.sizeOf9
 v9:=Tryz.zeroValue9
 t22:=Tryz.underlying23
 a22:=Tryz.isAgg23
 z22:=Tryz.sizeOf23
 v22:=Tryz.zeroValue23
 t25:=Tryz.underlying64
 a25:=Tryz.isAgg64
 z25:=Tryz.sizeOf64
 v25:=Tryz.zeroValue64
 t39:=Tryz.underlying164
 a39:=Tryz.isAgg164
 z39:=Tryz.sizeOf164
 v39:=Tryz.zeroValue164
 t45:=Tryz.underlying187
 a45:=Tryz.isAgg187
 z45:=Tryz.sizeOf187
 v45:=Tryz.zeroValue187
 t46:=Tryz.underlying188
 a46:=Tryz.isAgg188
 z46:=Tryz.sizeOf188
 v46:=Tryz.zeroValue188
 t50:=Tryz.underlying192
 a50:=Tryz.isAgg192
 z50:=Tryz.sizeOf192
 v50:=Tryz.zeroValue192
 t53:=Tryz.underlying169
 a53:=Tryz.isAgg169
 z53:=Tryz.sizeOf169
 v53:=Tryz.zeroValue169
 t55:=Tryz.underlying144
 a55:=Tryz.isAgg144
 z55:=Tryz.sizeOf144
 v55:=Tryz.zeroValue144
 t66:=Tryz.underlying209
 a66:=Tryz.isAgg209
 z66:=Tryz.sizeOf209
 v66:=Tryz.zeroValue209
 t70:=Tryz.underlying83
 a70:=Tryz.isAgg83
 z70:=Tryz.sizeOf83
 v70:=Tryz.zeroValue83
 t76:=Tryz.underlying221
 a76:=Tryz.isAgg221
 z76:=Tryz.sizeOf221
 v76:=Tryz.zeroValue221
 t77:=Tryz.underlying222
 a77:=Tryz.isAgg222
 z77:=Tryz.sizeOf222
 v77:=Tryz.zeroValue222}
end Go.Proofs
namespace Go.Proofs
open Go.Shelf
def Tryz.sortBnd_ren:Go.Shelf.Ren:=⟨λ|6=>152|15=>176|14=>189|28=>211|29=>179|20=>215|21=>216|22=>217|23=>218|24=>219|25=>220|26=>221|27=>222|46=>236|47=>232|48=>233|49=>237|50=>238|57=>243|n=>n,λ|22=>48|24=>76|25=>150|3=>3|39=>164|0=>0|53=>169|55=>144|4=>4|46=>188|45=>187|50=>192|5=>5|9=>9|66=>209|70=>83|76=>221|77=>222|n=>n,λ|n=>n⟩
def Tryz.sortBnd:Go.Proofs.SlLaysF0.n6 Tryz.prog Tryz.sortBnd_ren:={
 mixed:=by kernel_rfl
 f6:=⟨Tryz.f152.name,by decide,Tryz.func152.trans (aY Z (by kernel_rfl))⟩
 f14:=⟨Tryz.f189.name,by decide,Tryz.func189.trans (aY Z (by kernel_rfl))⟩
 f15:=Tryz.func176.trans (aY Z (by kernel_rfl))
 f20:=⟨Tryz.f215.name,by decide,Tryz.func215.trans (aY Z (by kernel_rfl))⟩
 f21:=⟨Tryz.f216.name,by decide,Tryz.func216.trans (aY Z (by kernel_rfl))⟩
 f22:=⟨Tryz.f217.name,by decide,Tryz.func217.trans (aY Z (by kernel_rfl))⟩
 f23:=⟨Tryz.f218.name,by decide,Tryz.func218.trans (aY Z (by kernel_rfl))⟩
 f24:=⟨Tryz.f219.name,by decide,Tryz.func219.trans (aY Z (by kernel_rfl))⟩
 f25:=⟨Tryz.f220.name,by decide,Tryz.func220.trans (aY Z (by kernel_rfl))⟩
 f26:=⟨Tryz.f221.name,by decide,Tryz.func221.trans (aY Z (by kernel_rfl))⟩
 f27:=⟨Tryz.f222.name,by decide,Tryz.func222.trans (aY Z (by kernel_rfl))⟩
 f28:=Tryz.func211.trans (aY Z (by kernel_rfl))
 f29:=Tryz.func179.trans (aY Z (by kernel_rfl))
 f46:=⟨Tryz.f236.name,by decide,Tryz.func236.trans (aY Z (by kernel_rfl))⟩
 f47:=Tryz.func232.trans (aY Z (by kernel_rfl))
 f48:=Tryz.func233.trans (aY Z (by kernel_rfl))
 f49:=⟨Tryz.f237.name,by decide,Tryz.func237.trans (aY Z (by kernel_rfl))⟩
 f50:=⟨Tryz.f238.name,by decide,Tryz.func238.trans (aY Z (by kernel_rfl))⟩
 f57:=⟨Tryz.f243.name,by decide,Tryz.func243.trans (aY Z (by kernel_rfl))⟩
 t0:=Tryz.underlying0
 a0:=Tryz.isAgg0
 z0:=Tryz.sizeOf0
 v0:=Tryz.zeroValue0
 t3:=Tryz.underlying3
 a3:=Tryz.isAgg3
 z3:=Tryz.sizeOf3
 v3:=Tryz.zeroValue3
 t4:=Tryz.underlying4
 a4:=Tryz.isAgg4
 z4:=Tryz.sizeOf4
 v4:=Tryz.zeroValue4
 t5:=Tryz.underlying5
 a5:=Tryz.isAgg5
 z5:=Tryz.sizeOf5
 v5:=Tryz.zeroValue5
 t9:=Tryz.underlying9
 a9:=Tryz.isAgg9
 z9:=Tryz.sizeOf9
 v9:=Tryz.zeroValue9
 t22:=Tryz.underlying48
 a22:=Tryz.isAgg48
 z22:=Tryz.sizeOf48
 v22:=Tryz.zeroValue48
 t25:=Tryz.underlying150
 a25:=Tryz.isAgg150
 z25:=Tryz.sizeOf150
 v25:=Tryz.zeroValue150
 t39:=Tryz.underlying164
 a39:=Tryz.isAgg164
 z39:=Tryz.sizeOf164
 v39:=Tryz.zeroValue164
 t45:=Tryz.underlying187
 a45:=Tryz.isAgg187
 z45:=Tryz.sizeOf187
 v45:=Tryz.zeroValue187
 t46:=Tryz.underlying188
 a46:=Tryz.isAgg188
 z46:=Tryz.sizeOf188
 v46:=Tryz.zeroValue188
 t50:=Tryz.underlying192
 a50:=Tryz.isAgg192
 z50:=Tryz.sizeOf192
 v50:=Tryz.zeroValue192
 t53:=Tryz.underlying169
 a53:=Tryz.isAgg169
 z53:=Tryz.sizeOf169
 v53:=Tryz.zeroValue169
 t55:=Tryz.underlying144
 a55:=Tryz.isAgg144
 z55:=Tryz.sizeOf144
 v55:=Tryz.zeroValue144
 t66:=Tryz.underlying209
 a66:=Tryz.isAgg209
 z66:=Tryz.sizeOf209
 v66:=Tryz.zeroValue209
 t70:=Tryz.underlying83
 a70:=Tryz.isAgg83
 z70:=Tryz.sizeOf83
 v70:=Tryz.zeroValue83
 t76:=Tryz.underlying221
 a76:=Tryz.isAgg221
 z76:=Tryz.sizeOf221
 v76:=Tryz.zeroValue221
 t77:=Tryz.underlying222
 a77:=Tryz.isAgg222
 z77:=Tryz.sizeOf222
 v77:=Tryz.zeroValue222}
end Go.Proofs
namespace Go.GxZ
open Go.RowKit
def Box(w:ao)(b:Nat)(e d c a:ah):Prop:=
 w.cell? ⟨b,0,U⟩=Z e/\w.cell? ⟨b,1,U⟩=Z d/\w.cell? ⟨b,2,U⟩=Z c/\w.cell? ⟨b,3,U⟩=Z a
def Box.keep{w u:ao}{b:Nat}{g f e d:ah}{B:Nat}(h:Box w b g f e d)(c:b<B)(a:Below B w u):Box u b g f e d:=
 ⟨(a.cell c).trans h.1,(a.cell c).trans h.2.1,(a.cell c).trans h.2.2.1,(a.cell c).trans h.2.2.2⟩
def LS(w:ao)(d c b a:ah)(t:aO):Box (w.alloc (Obj.cells #[d,c,b,a] t)) w.heap.size d c b a:=
 ⟨by rw[World.cell?_alloc_mark];rfl,by rw[World.cell?_alloc_mark];rfl,by rw[World.cell?_alloc_mark];rfl,by rw[World.cell?_alloc_mark];rfl⟩
def qoF(w:ao)(e d c b:ah)(t:aO):
  ∃a,w.alloc (Obj.cells #[e,d,c,b] t)=a/\Below w.heap.size w a/\a.heap.size=w.heap.size+1/\∀u,Below a.heap.size a u->Box u w.heap.size e d c b:=
 ⟨_,rfl,(Below.refl _ _).alloc (al _) _,by simp,λ _ f=>(LS w e d c b t).keep (by simp) f⟩
def NA(w:ao)(d c b a f y1 y2 y3:ah)(t g:aO):
  ∃e,(w.alloc (Obj.cells #[d,c,b,a] t)).alloc (Obj.cells #[f,y1,y2,y3] g)=e/\Below w.heap.size w e/\e.heap.size=w.heap.size+2/\
   ∀u,Below e.heap.size e u->Box u w.heap.size d c b a/\Box u (w.heap.size+1) f y1 y2 y3:=by
 refine⟨_,rfl,((Below.refl _ _).alloc (al _) _).alloc (by simp) _,by simp,λ u h=>⟨?_,?_⟩⟩
 .exact((LS w d c b a t).keep (B:=w.heap.size+1) (by omega) (((Below.refl _ _).alloc (by simp) _))).keep (by simp;omega) h
 .have:=LS (w.alloc (Obj.cells #[d,c,b,a] t)) f y1 y2 y3 g;rw[show(w.alloc (Obj.cells #[d,c,b,a] t)).heap.size=w.heap.size+1 by simp]at this;exact this.keep (by simp) h
def Ta(w:ao)(b:Nat)(n y1 y2 y3 m l g f:ah)(h:Box w b n y1 y2 y3):
  ∃w',(((w.setCell ⟨b,0,U⟩ m).setCell ⟨b,1,U⟩ l).setCell ⟨b,2,U⟩ g).setCell ⟨b,3,U⟩ f=w'/\Box w' b m l g f/\(∀B,B<=b->∀w0,Below B w0 w->Below B w0 w')/\
   w'.heap.size=w.heap.size/\(∀k,k≠b->w'.heap[k]?=w.heap[k]?)/\(∀a,w'.frozen? a=w.frozen? a):=by
 let⟨r,q,p,o⟩:=h;have c:∀i j:Nat,i≠j->(⟨b,i,U⟩:Addr)≠⟨b,j,U⟩:=λ i j h k=>h (by cases k;rfl);refine⟨_,rfl,⟨?_,?_,?_,?_⟩,λ B e w0 h=>(((h.setCell e _).setCell e _).setCell e _).setCell e _,by simp,λ k d=>?_,λ a=>by simp⟩
 .rw[World.cell?_setCell_other _ _ _ _ (c 3 0 (by decide)),World.cell?_setCell_other _ _ _ _ (c 2 0 (by decide)),World.cell?_setCell_other _ _ _ _ (c 1 0 (by decide))];exact World.cell?_setCell_same _ _ _ r
 .rw[World.cell?_setCell_other _ _ _ _ (c 3 1 (by decide)),World.cell?_setCell_other _ _ _ _ (c 2 1 (by decide))];refine World.cell?_setCell_same _ _ _ (u:=y1) ?_;rw[World.cell?_setCell_other _ _ _ _ (c 0 1 (by decide))];exact q
 .rw[World.cell?_setCell_other _ _ _ _ (c 3 2 (by decide))];refine World.cell?_setCell_same _ _ _ (u:=y2) ?_;rw[World.cell?_setCell_other _ _ _ _ (c 1 2 (by decide)),World.cell?_setCell_other _ _ _ _ (c 0 2 (by decide))];exact p
 .refine World.cell?_setCell_same _ _ _ (u:=y3) ?_;rw[World.cell?_setCell_other _ _ _ _ (c 2 3 (by decide)),World.cell?_setCell_other _ _ _ _ (c 1 3 (by decide)),World.cell?_setCell_other _ _ _ _ (c 0 3 (by decide))];exact o
 .rw[Below.heap_setCell _ _ _ _ d,Below.heap_setCell _ _ _ _ d,Below.heap_setCell _ _ _ _ d,Below.heap_setCell _ _ _ _ d]
def Box.same{w u:ao}{b:Nat}{g f e d:ah}(h:Box w b g f e d)(c:u.heap[b]?=w.heap[b]?):Box u b g f e d:=
 ⟨(World.cell?_of_block (w:=w) (a:=⟨b,0,U⟩) c).trans h.1,(World.cell?_of_block (w:=w) (a:=⟨b,1,U⟩) c).trans h.2.1,(World.cell?_of_block (w:=w) (a:=⟨b,2,U⟩) c).trans h.2.2.1,(World.cell?_of_block (w:=w) (a:=⟨b,3,U⟩) c).trans h.2.2.2⟩
end Go.GxZ
