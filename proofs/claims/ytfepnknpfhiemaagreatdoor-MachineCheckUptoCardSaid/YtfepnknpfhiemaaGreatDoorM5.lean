/- Part 5 of what the proofs stand on: plain functions of the program, and that they are its functions. -/
import Derived.Test.YtfepnknpfhiemaaGreatDoorM4
import Derived.KernelRfl
import Derived.Test.YtfepnknpfhiemaaGreatDoorM3
import Derived.SliceStrings
import Derived.SizedLaws
import Derived.Test.YtfepnknpfhiemaaGreatDoorRows
import Derived.Shelf.SlSortCmp.NoneTotal
import Derived.Test.YtfepnknpfhiemaaGreatDoorProg
set_option linter.unusedVariables false
set_option linter.unusedSimpArgs false
set_option linter.defProp false
noncomputable section
open Option renaming some->Z,none->U
open Bool renaming true->O,false->Y
open Decidable renaming decide->X
open List renaming length->J
open Array renaming toList->V
open Go renaming Value->aj,World->aC,TypeId->aQ,Program->ba
namespace Go.AmZ
open GxZ
def N8(t:T):Ev (λ m _=>wQ m t) (kz t):=by
 apply aF;simp only[qhG,Kw];unfold kz;by_cases a:t.kind=3
 .refine ah (aB.2 a) (ak (λ h=>?_) λ h=>(ak (λ b=>?_) λ b=>?_))
  .rw[cr]at h;exact al (by rw[a,h];rfl)
  .rw[cr]at b;exact al (by rw[a,b];rfl)
  .rw[cC]at h b
   exact al (by
    have d:(t.name==jL)=Y:=by rw[gH];exact h
    have c:(t.name==dR)=Y:=by rw[gH];exact b
    rw[a,d,c];rfl)
 .exact ai (ay.2 a) (al (by have:(t.kind==3)=Y:=by rw[gH];exact a
                            rw[this];rfl))
def qoF(t:T):size t<=1000000000->Ev (λ m _=>lc m t) (arT t):=by
 induction t using T.ind with
 |h t n=>
   intro v;have w:=fL t;apply aF;simp only[qkg,DT,aA];refine ag (N8 t) (ak (λ h=>?_) λ h=>?_)
   .rw[bnt]at h;exact al (by rw[Io,h];rfl)
   rw[bnf]at h;let⟨y,d⟩:=HQ.1 h;have f:arT t=(arK t&&(t.kids.map arT).all id):=by rw[Io,h];rfl
   have c:arK t=O->Ev (λ m _=>qY m (lc m) m (J t.kids) 0 t.kind t.name t.sort t.kids) (arT t):=by
    intro b;rw[f,b,bU]
    have g:=aV (P:=λ i=>Ev (λ m k=>qY m (lc m) k (J t.kids) i t.kind t.name t.sort t.kids) (((t.kids.drop i).map arT).all id)) t.kids (by omega)
     (λ j=>by
      apply aw;simp only[SY,D3];refine ai j (al ?_);rw[bO];rfl)
     (λ i x o r j q p s=>by
      apply aw;simp only[SY,D3,aA];have l:=aK o;have z:=fM t x l;rw[r,bh,dt];refine ah j (ao q (ag (n x l (by omega)) (ak (λ e=>?_) λ e=>?_)))
      .rw[bnt]at e;rw[e];exact aq _
      .rw[bnf]at e;rw[e,p];exact s)
    apply bd (L:=λ m k=>qY m (lc m) k (J t.kids) 0 t.kind t.name t.sort t.kids);exact(g 0 (aG _)).res (by rw[bF])
   have u:arK t=Y->Ev (λ _ _=>Z Y) (arT t):=λ b=>al (by rw[f,b];rfl);obtain a|a|a:=d
   .refine ah (by rw[a];rfl) (ak (λ b=>?_) λ b=>?_)
    .grind [arK,aS,decide_eq_true]
    .rw[aT]at b;exact ai (by rw[a];rfl) (ai (by rw[a];rfl) (c (by unfold arK;rw[a,bo (show ¬ J t.kids<2 by omega)];rfl)))
   .refine ai (by rw[a];rfl) (ah (by rw[a];rfl) (ak (λ b=>?_) λ b=>?_))
    .rw[bnt,ay]at b;grind [arK]
    .rw[bnf,aB]at b;exact ai (by rw[a];rfl) (c (by unfold arK;rw[a,show(J t.kids != 1)=Y from by rw[Ra];omega];rfl))
   .refine ai (by rw[a];rfl) (ai (by rw[a];rfl) (ah (by rw[a];rfl) (ak (λ b=>?_) λ b=>?_)))
    .rw[bnt,ay]at b;grind [arK]
    .rw[bnf,aB]at b;exact c (by unfold arK;rw[a,show(J t.kids != 0)=Y from by rw[Ra];omega];rfl)
theorem Wk(t:T)(n:Int):∀(l:aa Pw) (s:aa Pw×Bool),(l.foldl (dD t n) s).1.length<=J s.1+2*J l
 |[],s=>by simp
 |x::l,s=>by
   have h:=Wk t n l (dD t n s x);grind [dD]
def Yn{l:aa Pw}(y:gS l)(t:T)(n:Int)(D:szP l+size t<=1000000000:=by omega)(E:dQ l+n.natAbs<=1000000000000:=by omega):Ev (λ m _=>Ad m l t n) ((),cu l t n,()):=by
 have F:=nX l;apply aF;simp only[qmx,Fv]
 have j:∀i,((l.take i).foldl (dD t n) ([],Y)).1.length<=2*J l:=λ i=>by
  grind [Wk,List.length_take,List.length_nil]
 have w:=aV (P:=λ i=>Ev (λ m k=>pK m k n ((l.take i).foldl (dD t n) ([],Y)).2 i t.kind t.name t.sort t.kids l ((l.take i).foldl (dD t n) ([],Y)).1) ((),cu l t n,())) l (by omega)
  (λ z=>by
   apply aw;simp only[TY,ER];apply ai z;have:=j (J l);have u:=qqN y.2 y.1 t n;rw[cI]at this |-
   unfold Ou at u;refine ak (λ h=>?_) λ h=>?_
   .rw[bnt]at h;rw[ae (by rw[h];decide)]at u;rw[show T.mk t.kind t.name t.sort t.kids=t from aA t,u];exact ah (bD) (aq _)
   .rw[bnf]at h;rw[af h]at u;rw[u];exact aq _)
  (λ i p A G z f B v=>by
   apply aw;simp only[TY,ER,aA];have x:=aK A;have K:=pZ x;have I:=j i;have H:=Od l p x;have d:=y.2 p x;rw[jZ A,BN]at v;generalize (l.take i).foldl (dD t n) ([],Y)=s at*
   have r:∀(b:Bool) (o:aa Pw),dD t n s p=(o,b)->Ev (λ m k=>pK m k n b ((i+1:Nat):Int) t.kind t.name t.sort t.kids l o) ((),cu l t n,()):=λ b o e=>by
    have v:Ev (λ m k=>pK m k n (dD t n s p).2 ((i+1:Nat):Int) t.kind t.name t.sort t.kids l (dD t n s p).1) ((),cu l t n,()):=v;rw[e]at v;exact v
   have e1:iw .i64 (av p.2 n)=p.2+n:=by unfold av;exact dC
   rw[show T.mk t.kind t.name t.sort t.kids=t from aA t,B];have q:am (ieq p.2 0)=O:=bnt.2 (ay.2 d);refine ah z (ao f (ag (wU t (by omega) p.1 (by omega)) (ak (λ h=>?_) λ h=>?_)))
   .rw[bnt]at h;refine ak (λ g=>?_) λ g=>?_
    .rw[aS]at g;refine ah (bD) (ao f (ai (ay.2 (by omega)) (ah q (ah (bD (by rw[aO];simp only[bH,fE];omega)) (r _ _ ?_)))));unfold dD;rw[af ⟨h,g⟩,ae (show ¬ aM t p.1=0 by omega),ae d,bf (show aM t p.1<=0 by omega),pD]
    .rw[aT]at g;refine ao f (ak (λ a=>?_) λ a=>?_)
     .rw[aB]at a;refine ak (λ c=>?_) λ c=>?_
      .rw[bnt,ay,e1]at c;refine ah (bD) (r _ _ ?_);rw[e1];unfold dD;rw[ifN,af a,ae c,bf (show aM t p.1<=0 by omega),pD]
      .rw[bnf,aB,e1]at c;apply r _ _;unfold dD;rw[ifN,af a,af c,bf (show aM t p.1<=0 by omega),pD,bJ]
     .rw[ay]at a;refine ah q (ah (bD) (r _ _ ?_));unfold dD;rw[ifN,ae a,ae d,bo (show ¬ aM t p.1<=0 by omega),Bool.or_false]
   .rw[bnf]at h;refine ao f (ak (λ a=>?_) λ a=>?_)
    .rw[aB]at a;refine ak (λ c=>?_) λ c=>?_
     .rw[bnt,ay,e1]at c;refine ah (bD) (r _ _ ?_);rw[e1];unfold dD;rw[ifN,af a,ae c,bf (show aM t p.1<=0 by omega),pD]
     .rw[bnf,aB,e1]at c;apply r _ _;unfold dD;rw[ifN,af a,af c,bf (show aM t p.1<=0 by omega),pD,bJ]
    .rw[ay]at a;refine ah q (ah (bD) (r _ _ ?_));unfold dD;rw[ae (by rw[h];intro C;cases C.1),ae a,ae d,h,nI])
 apply bd (L:=λ m k=>pK m k n Y 0 t.kind t.name t.sort t.kids l []);exact w 0 (aG _)
def qmM(t:T):∀(l:aa Pw) (n:Int),n≠0->gS l->szP l+size t<=80000000->dQ l+size t*n.natAbs<=100000000000->Ev (λ m _=>kY m l t n) ((),cY t l n,()):=by
 induction t using T.ind with
 |h t y=>
   intro l n E w D H;have F:=fL t;have C:=cM t;apply aF;simp only[qh9,Dd,aA];have u:n.natAbs<=size t*n.natAbs:=qda _ (size_pos t);refine ag (N8 t) (ak (λ h=>?_) λ h=>?_)
   .rw[bnt]at h;refine ag (Yn w t n) (al ?_);rw[rJ,h];rfl
   rw[bnf]at h;let⟨N,g⟩:=HQ.1 h
   have r:∀a:Int,a≠0->a.natAbs=n.natAbs->fZ t n=a->Ev (λ m _=>qV m (kY m) m a 0 t.kind t.name t.sort t.kids l) ((),cY t l n,()):=by
    intro a b q f;have c:cY t l n=jO t.kids a l (J t.kids):=by rw[rJ,h,af rfl,f];unfold jO;rw[cI]
    rw[c]
    have d:=aV (P:=λ i=>Ev (λ m k=>qV m (kY m) k a i t.kind t.name t.sort t.kids (jO t.kids a l i)) ((),jO t.kids a l (J t.kids),())) t.kids (by omega)
     (λ p=>by
      apply aw;simp only[Sg,CU];exact ai p (aq _))
     (λ i x e G p o z A=>by
      apply aw;simp only[Sg,CU,aA];have v:=aK e;have Q:=fM t x v;let⟨B,W,S,R⟩:=LX a b (t.kids.take i) l w;have M:=pH e;have K:szL t.kids+1=size t:=by unfold szL;omega
      have I:szL (t.kids.take i)*a.natAbs+size x*a.natAbs<=size t*n.natAbs:=by
       rw[<-dM,q];exact bY _ (by omega)
      refine ah p (ao o (ag (y x v (jO t.kids a l i) a b B (by unfold jO;omega) (by unfold jO;omega)) ?_));rw[z];refine A.congr λ m k=>?_;rw[Wu e])
    apply bd (L:=λ m k=>qV m (kY m) k a 0 t.kind t.name t.sort t.kids l);exact d 0 (aG _)
   have s:iw .i64 (cX 0 n)=-n:=by
    grind [cX,dC]
   refine ak (λ j=>?_) λ j=>?_
   .rw[cr]at j;simp_all [fZ,dR]
   .rw[cC]at j;grind [fZ,dR]
def On(t:T)(c:size t<=1000000000:=by omega):Ev (λ m _=>xu m t) (ofP t):=by
 apply aF;simp only[qnt,Ly,aA];unfold ofP;refine ag (lT t c) (ak (λ h=>?_) λ h=>?_)
 .rw[bnt,ay]at h;rw[af h];exact aq _
 .rw[bnf,aB]at h;have d:=lU h;rw[ifN];refine ag (qoF t c) (ak (λ b=>?_) λ b=>?_)
  .rw[bnt]at b;rw[af b];exact aq _
  .rw[bnf]at b;rw[ae (by rw[b];decide)];refine ag (qmM t [] 1 (by decide) gS.nil (by show 0+_<=_;omega) (by show 0+size t*1<=_;omega)) (ak (λ a=>?_) λ a=>?_)
   .rw[aS]at a;have a:(200:Int)<(J (cY t [] 1):Int):=a;rw[ifP];exact aq _
   .rw[aT]at a;have a:(J (cY t [] 1):Int)<=200:=a;rw[ifN];exact aq _
def MO(l:aa Pw)(E:szP l<=1000000000:=by omega):Ev (λ m _=>wX m l) (gm l):=by
 have F:=nX l;apply aF;simp only[qj2,DR];unfold gm;refine ak (λ h=>?_) λ h=>?_
 .rw[aS]at h;rw[ifP];exact aq _
 rw[aT]at h;rw[ifN]
 have t:=aV (P:=λ i=>Ev (λ m k=>rc m k l i) (pvL (lm l i) (l.drop i))) l (by omega)
  (λ A=>by
   apply aw;simp only[SW,D0];refine ai A (al ?_);rw[bO];rfl)
  (λ i x v D A p C B=>by
   apply aw;simp only[SW,D0,aA];have H:=pZ (aK v);rw[Gl v]at B;rw[D,pvL];have c:=N2 (lm l i) x
   have b:∀e:Int,pvK (lm l i) x=e->e≠0->Ev (λ _ _=>Z e) (thn (pvK (lm l i) x) (pvL (Z x.1) (l.drop (i+1)))):=λ e z s=>by
    rw[z];exact al (by unfold thn;rw[ae s])
   have d:pvK (lm l i) x=0->Ev (λ m k=>rc m k l ((i+1:Nat):Int)) (thn (pvK (lm l i) x) (pvL (Z x.1) (l.drop (i+1)))):=λ z=>by
    rw[z];exact B.res (by unfold thn;rw[af rfl])
   refine ah A (ao p (ag (lT x.1) (ak (λ r=>?_) λ r=>?_)))
   .rw[bnt,ay]at r;exact b _ (by rw[c,af r]) r
   rw[bnf,aB]at r;rw[ifN]at c;refine ao p (ag (N8 x.1) (ak (λ o=>?_) λ o=>?_))
   .exact b 1 (by rw[c,af o]) (by decide)
   rw[ae (by rw[o];decide)]at c;refine ao p (ak (λ u=>?_) λ u=>?_)
   .rw[aB]at u;exact b 7 (by rw[c,ifP]) (by decide)
   rw[ay]at u;refine ao p (ak (λ n=>?_) λ n=>?_)
   .rw[aS]at n;exact b 7 (by rw[c,ifP]) (by decide)
   rw[aT]at n;refine ao p (ak (λ g=>?_) λ g=>?_)
   .rw[aS]at g;exact b 7 (by rw[c,ifP]) (by decide)
   rw[aT]at g;rw[ifN]at c;rw[C];refine ak (λ s=>?_) λ s=>?_
   .rw[aS]at s;obtain⟨j,rfl⟩:∃j,i=j+1:=⟨i-1,by omega⟩
    have y:j<J l:=by have:=(fd.1 v).1;omega
    obtain⟨q,w⟩:∃q,l[j]?=Z q:=⟨_,aU y⟩
    have G:=pZ (aK w);rw[Gl w]at c b d |-
    simp only at c;refine ao (a:=q) (by rw[show cX ((j+1:Nat):Int) 1=((j:Nat):Int)from by unfold cX;omega,dC,dz,w]) (ao p (ag (wU q.1 (by omega) x.1 (by omega)) (ak (λ f=>?_) λ f=>?_)))
    .rw[fU]at f;exact b 5 (by rw[c,af f]) (by decide)
    .rw[jI]at f;exact d (by rw[c,ifN])
   .rw[aT]at s;have:i=0:=by omega
    subst this;exact d (by rw[c];rfl))
 apply bd (L:=λ m k=>rc m k l 0);exact t 0 (aG _)
def UC(A:aa T)(x:T)(h:J (A.take 9)<9:=by omega):A.take 9++[x]=(A++[x]).take 9:=by
 rw[bg]at h;rw[nL (by omega),nL (by rw[aO];simp only[bH,fE];omega)]
def U4(A B:aa T)(h:¬ J (A.take 9)<9:=by omega):A.take 9=(A++B).take 9:=by
 rw[bg]at h;rw[te (by omega)]
def qqf(l:aa Pw)(C:J l<=1000)(u:∀p∈l,p.2.natAbs<=1000):Ev (λ m _=>Ee m l) ((cm l++cp l).take 9):=by
 apply aF;simp only[qg1,CB];have t:∀A:aa T,J (A.take 9)<=9:=λ A=>by rw[bg];omega
 have w:=aV (P:=λ i=>Ev (λ m k=>(dj m k).2.2.1 l i ((cm l++cp (l.take i)).take 9)) ((cm l++cp l).take 9)) l (by omega)
  (λ g=>by
   apply aw;simp only[RZ,CQ];apply ai g;rw[cI];exact aq _)
  (λ i p o z g e q n=>by
   apply aw;simp only[RZ,CQ];apply ah g;have r:=u p (aK o);rw[jZ o,M9,MM,<-bC]at n;generalize cm l++cp (l.take i)=A at *;have b:iw .i64 (cX 0 p.2)=-p.2:=by unfold cX;rw[dC];omega
   have v:=HG (P:=λ j=>Ev (λ m k=>(dj m k).2.2.2 l i j ((A++List.replicate j (apT dR [p.1])).take 9)) ((cm l++cp l).take 9)) (-p.2) (by omega)
    (by
     apply aw;simp only[R6,CS,aA];refine ao e (ai (by rw[b,aT];omega) ?_);rw[q];exact n)
    (λ j s c a=>by
     apply aw;simp only[R6,CS,aA];rw[Rb,<-bC]at a;have B:=t (A++List.replicate j (apT dR [p.1]));refine ao e (ah (by rw[b,aS];exact s) (ak (λ h=>?_) λ h=>?_))
     .rw[aS]at h;refine ao e (ag (pY [105,110,118] [p.1] (by simp)) (ah (bD) ?_));rw[c];refine a.congr λ m k=>?_;rw[<-UC _ _];rfl
     .rw[aT]at h;rw[q];refine n.congr λ m k=>?_;obtain⟨d,f⟩:∃d,(-p.2).toNat=j+d:=⟨(-p.2).toNat-j,by omega⟩
      rw[f,<-qtz,<-bC,<-U4 (A++List.replicate j (apT dR [p.1])) _])
   have:=v 0 (aG _);rw[Rc,bJ]at this;exact this)
 have y:=aV (P:=λ i=>Ev (λ m k=>(dj m k).1 l i ((cm (l.take i)).take 9)) ((cm l++cp l).take 9)) l (by omega)
  (λ g=>by
   apply aw;simp only[RX,CH];apply ai g;rw[cI];have:=w 0 (aG _);rw[yQ,show cp []=[]from rfl,bJ]at this;exact this)
  (λ i p o z g e q n=>by
   apply aw;simp only[RX,CH];apply ah g;have r:=u p (aK o);rw[jZ o,Nh,M0]at n;generalize cm (l.take i)=A at*
   have x:=HG (P:=λ j=>Ev (λ m k=>(dj m k).2.1 l i j ((A++List.replicate j p.1).take 9)) ((cm l++cp l).take 9)) p.2 (by omega)
    (by
     apply aw;simp only[RS,CF,aA];refine ao e (ai (by rw[aT];omega) ?_);rw[q];exact n)
    (λ j s c a=>by
     apply aw;simp only[RS,CF,aA];rw[Rb,<-bC]at a;have B:=t (A++List.replicate j p.1);refine ao e (ah (by rw[aS];exact s) (ak (λ h=>?_) λ h=>?_))
     .rw[aS]at h;refine ao e (ah (bD) ?_);rw[c];refine a.congr λ m k=>?_;rw[<-UC _ _]
     .rw[aT]at h;rw[q];refine n.congr λ m k=>?_;obtain⟨d,f⟩:∃d,p.2.toNat=j+d:=⟨p.2.toNat-j,by omega⟩
      rw[f,<-qtz,<-bC,<-U4 (A++List.replicate j p.1) _])
   have:=x 0 (aG _);rw[Rc,bJ]at this;exact this)
 apply bd (L:=λ m k=>(dj m k).1 l 0 []);exact y 0 (aG _)
def qq8(S:Nat):∀l:aa Pw,(∀p∈l,size p.1<=S)->(∀x∈cm l,size x<=S)/\∀x∈cp l,size x<=1+S:=by
 intro l h;refine⟨λ x a=>?_,λ x a=>?_⟩
 .unfold cm at a;let⟨p,b,a⟩:=jw.1 a;rw[QS a];exact h p b
 .unfold cp at a;let⟨p,b,a⟩:=jw.1 a;rw[QS a,WM];have:=h p b;omega
def qao(S:Nat):∀l:aa T,(∀x∈l,size x<=S)->szL l<=J l*S
 |[],_=>by simp[szL]
 |x::l,h=>by
   have c:=qao S l λ q a=>h q (bk _ a);have b:=h x (bj ..);rw[dY,bH,dM];omega
def Yb(l:aa Pw)(q:szP l<=1000000000:=by omega):Ev (λ m _=>uG m l) (ja l):=by
 apply aF;simp only[qlL,Ld,aA];refine ag (MO l q) (ak (λ h=>?_) λ h=>?_)
 .rw[bnt,ay]at h;unfold ja;rw[af h];exact aq _
 rw[bnf,aB]at h;let⟨_,j,y,w⟩:=rq h;have f:∀p∈l,size p.1<=400:=λ p s=>lU (w p s).1;rw[L7 h];let⟨n,k⟩:=qq8 400 l f
 have d:∀x∈cm l++cp l,size x<=401:=λ x c=>by
  obtain c|c:=aR.1 c
  .have:=n x c;omega
  .exact k x c
 apply ag (qqf l (by omega) y);generalize cm l++cp l=A at *;unfold py;refine ak (λ g=>?_) λ g=>?_
 .rw[aS,bg]at g;rw[ifP];exact aq _
 rw[aT,bg]at g;rw[ifN,nL (by omega)];have z:=qao 401 A d;have t:=Yz A;have B:J A*401<=8*401:=bY _ (by omega)
 have b:∀u:T,u=fw A->Ev (λ m _=>ab (iA m u) λ v=>cond (am (ieq v 0)) (Z (T.mk 0 [] 0 [],v)) (Z (u,0))) (if bw (fw A)≠0 then(zT,bw (fw A))else(fw A,0)):=by
  intro u o;subst o;refine ag (lT _) (ak (λ h=>?_) λ h=>?_)
  .rw[bnt,ay]at h;rw[af h];exact aq _
  .rw[bnf,aB]at h;rw[ifN];exact aq _
 refine ag (pY [109,117,108] A) (ak (λ i=>?_) λ i=>?_)
 .rw[aB]at i;refine ag (pY [111,110,101] [] (by simp)) (ai (ay.2 (by omega)) (b _ (by unfold fw;rw[ifP];rfl)))
 .rw[ay]at i;refine ak (λ e=>?_) λ e=>?_
  .rw[aB]at e;refine ao (a:=A.getD 0 zT) ?_ (b _ (by unfold fw;rw[ifN,ifP]));rw[lV,dO];cases A with
   |nil=>simp at e
   |cons x r=>rfl
  .rw[ay]at e;exact b _ (by unfold fw;rw[ifN,ifN];rfl)
def qn2(l:aa Pw)(n:J l<=1000000000:=by omega):Ev (λ m _=>Er m l) (if pv l then 7 else if 200<J l then 3 else 0):=by
 apply aF;simp only[qhW,Db]
 have b:=aV (P:=λ i=>Ev (λ m k=>tG m k l i) (if pv (l.drop i)then(7:Int)else if 200<J l then 3 else 0)) l (by omega)
  (λ c=>by
   apply aw;simp only[Sc,De];rw[bO,ae (by decide)];refine ai c (ak (λ h=>?_) λ h=>?_)
   .rw[aS]at h;rw[ifP];exact aq _
   .rw[aT]at h;rw[ifN];exact aq _)
  (λ i p j f c d e g=>by
   apply aw;simp only[Sc,De];rw[f,VF];refine ah c (ao d (ak (λ h=>?_) λ h=>?_))
   .rw[aS]at h;rw[bf h,nI,nI,af rfl];exact aq _
   .rw[aT]at h;rw[bo (show ¬ p.2 < -1000 by omega),mK];refine ao d (ak (λ a=>?_) λ a=>?_)
    .rw[aS]at a;rw[bf a,nI,af rfl];exact aq _
    .rw[aT]at a;rw[bo (show ¬ 1000<p.2 by omega),mK,e];exact g)
 apply bd (L:=λ m k=>tG m k l 0);exact(b 0 (aG _)).res (by rw[bF])
def qru(a b:aa Pw)(E:szP a<=100000000:=by omega)(D:szP b<=100000000:=by omega):Ev (λ m _=>GM m a b) (px a b):=by
 have B:=nX b;have v:=nX a;apply aF;simp only[qmk,Fb];rw[Vf];refine ag (MO a) (ak (λ h=>?_) λ h=>?_)
 .rw[bnt,ay]at h;rw[af h];exact aq _
 rw[bnf,aB]at h;rw[ifN];refine ag (MO b) (ak (λ e=>?_) λ e=>?_)
 .rw[bnt,ay]at e;rw[af e];exact aq _
 rw[bnf,aB]at e;rw[ifN]
 have g:=aV (P:=λ i=>Ev (λ m k=>rp m k b i (eh a (b.take i))) (vx (eh a b))) b (by omega)
  (λ j=>by
   apply aw;simp only[T1,Fe];rw[cI];let⟨_,q,_,_⟩:=zP h e (J b);rw[cI]at q;refine ai j (ag (qn2 _) ?_);unfold vx;by_cases f:pv (eh a b)=O
   .rw[af f,af f];exact ah rfl (aq _)
   .rw[ae f,ae f];by_cases d:200<J (eh a b)
    .rw[af d,af d];exact ah rfl (aq _)
    .rw[ae d,ae d];exact ai rfl (aq _))
  (λ i p l C j o w y=>by
   apply aw;simp only[T1,Fe,aA];have n:=aK l;let⟨z,q,G,F⟩:=zP h e i;let⟨_,_,u,s⟩:=rq e;have A:=lU (s p n).1;have t:=u p n;refine ah j (ao o (ao o (ag (Yn z p.1 p.2) ?_)));rw[w];refine y.congr λ m k=>?_;rw[jZ l,VU])
 refine ah (bD (by simp only[fE];omega)) ?_;have c:Ev (λ m _=>rp m m b 0 a) (vx (eh a b)):=bd (L:=λ m k=>rp m k b 0 a) (g 0 (aG _));exact oJ (λ h=>by rw[h]at c |-;exact c) λ x r h=>by rw[h]at c |-;exact c
section
open Lib
def Wa{t:T}(h:ox t=0):bw t=0/\bL t=0:=by
 unfold ox at h;exact uZ h
def Hf{t:T}(h:bL t=0){n:aa aN}(i:isN t n=O){a b c:Int}(g:bK n=(a,b,c)):a<=(J t.kids:Int)/\(J t.kids:Int)<=b/\∀k∈t.kids,bL k=0:=by
 obtain⟨d,rfl⟩:=du.1 i;let⟨l,j⟩:=xi d h;let⟨_,f,e,_⟩:=WU d l;rw[g]at f e;exact⟨f,e,j⟩
end
def Cl(P:T->Prop):Prop:=∀t:T,t.kind=3->P t->∀k∈t.kids,P k
def GF:∀(n:Nat) (a b:aa T),J a+J b<=n->∀x∈cg a b,x∈a\/x∈b
 |_,[],b,_,x,h=>by rw[cg]at h;exact .inr h
 |_,z::a,[],_,x,h=>by rw[cg]at h;exact .inl h
 |0,z::a,y::b,c,x,h=>by simp at c
 |n+1,z::a,y::b,c,x,h=>by
   simp only[bH]at c;rw[cg]at h;split at h
   .obtain rfl|h:=be.1 h
    .grind
    .rcases GF n a (y::b) (by simp;omega) x h with h|h
     .grind
     .exact .inr h
   .split at h
    .obtain rfl|h:=be.1 h
     .grind
     .rcases GF n (z::a) b (by simp;omega) x h with h|h
      .exact .inl h
      .grind
    .obtain h|h:=GF n a b (by omega) x h
     .grind
     .grind
def Lt:∀(b:aa (aa T)) (a:aa T),∀x∈b.foldl cg a,x∈a\/∃l∈b,x∈l
 |[],a,x,h=>.inl h
 |l::b,a,x,h=>by
   obtain h|⟨m,c,h⟩:=Lt b (cg a l) x h
   .obtain h|h:=GF _ a l (au _) x h
    .exact .inl h
    .grind
   .grind
theorem qpA{P:T->Prop}(g:Cl P)(t:T):P t->∀x∈eL t,P x:=by
 refine T.ind (P:=λ t=>P t->∀x∈eL t,P x) ?_ t;intro t c d x a;rw[Ax]at a;split at a
 .cases a
 .split at a
  .rename_i e;obtain h|⟨l,f,h⟩:=Lt _ _ x a
   .cases h
   .obtain⟨k,b,rfl⟩:=bE.1 f;exact c k b (g t (du.1 e).1 d k b) x h
  .grind
def VO{P:T->Prop}(d:Cl P){l:aa T}(h:∀k∈l,P k):∀x∈dx l,P x:=by
 intro x b;obtain a|⟨m,c,a⟩:=Lt _ _ x b
 .cases a
 .grind [qpA]
def qrL{P:T->Prop}{l:aa Pw}{t:T}(n:Int)(a:P t)(c:∀p∈l,P p.1):∀p∈cu l t n,P p.1:=by
 intro p b;grind [Hm]
theorem qss{P:T->Prop}(f:Cl P)(t:T):P t->∀(l:aa Pw) (n:Int),(∀p∈l,P p.1)->∀p∈cY t l n,P p.1:=by
 refine T.ind (P:=λ t=>P t->∀(l:aa Pw) (n:Int),(∀p∈l,P p.1)->∀p∈cY t l n,P p.1) ?_ t;intro t d b l n a;rw[rJ];split
 .next e=>have g:=(HQ.1 e).1;exact Y2 t.kids (fZ t n) (λ l=>∀p∈l,P p.1) (λ k c l a=>d k c (f t g b k c) l _ a) l a
 .exact qrL n b a
def rU{P:T->Prop}(c:Cl P){t:T}(a:P t):∀p∈(ofP t).1,P p.1:=by
 intro p b;grind [ofP,qss]
def Zy{P:T->Prop}{a b:aa Pw}(d:∀p∈a,P p.1)(c:∀p∈b,P p.1):∀p∈(px a b).1,P p.1:=by
 grind [px,No]
theorem Yh{l:aa Pw}{x:T}(h:x∈cm l):∃p∈l,x=p.1:=by
 grind [cm]
theorem XR{l:aa Pw}{x:T}(h:x∈cp l):∃p∈l,x=apT dR [p.1]:=by
 grind [cp]
def jn:Cl λ t=>bL t=0:=λ t a h=>(xi a h).2
theorem Ub:∀(l:aa Int),(∀y∈l,y=0)->l.foldl thn 0=0
 |[],_=>rfl
 |z::l,h=>by
   rw[qX,h z (bj ..)];exact Ub l λ y a=>h y (bk _ a)
def rT{t:T}(h:ic t=0)(a:∀k∈t.kids,bL k=0):bL t=0:=by
 grind [AD,Ub]
def uV{n:aa aN}{a:aa T}(e:(bK n).2.2≠0)(d:(bK n).1<=(J a:Int))(c:(J a:Int)<=(bK n).2.1)(b:iI (apT n a)=Y):ic (apT n a)=0:=by
 unfold ic;show(if(3:Int)≠3 then(0:Int)else if(bK n).2.2=0 then 10 else if(J a:Int)<(bK n).1\/(bK n).2.1<(J a:Int)then 6 else if iI (apT n a)then 10 else 0)=0;grind
def xG{n:aa aN}(d:n≠mw)(c:n≠nSk)(b:n≠vX)(a:aa T):iI (apT n a)=Y:=by
 unfold iI;rw[ae (show ¬ (apT n a).name=mw from d),ae (show ¬ ((apT n a).name=nSk\/(apT n a).name=vX)from λ h=>h.elim c b)]
def mU:bL zT=0:=by rw[AD];rfl
def kr{P:T->Prop}(b:Cl P)(d:P zT){t:T}(c:t.kind=3)(a:P t)(i:Nat):P (kid t i):=by
 by_cases h:i<J t.kids
 .exact b t c a _ (ZQ h)
 .grind [kid]
def qot{t:T}(b:t.kind=3)(h:bw t=0):J t.kids<=8:=by
 unfold bw at h;split at h
 .next a=>exact absurd h a
 .next a=>have c:=(Lz (t:=t)).1;grind [eM,oj]
theorem Wg{l:aa Pw}(f:∀p∈l,bL p.1=0)(h:(ja l).2=0):bL (ja l).1=0:=by
 by_cases c:gm l=0
 .rw[L7 c]at h |-
  unfold py at h |-
  by_cases e:8<J (cm l++cp l)
  .rw[af e]at h;cases h
  rw[ae e]at h |-
  by_cases g:bw (fw (cm l++cp l))=0
  .rw[ifN]
   have a:∀x∈cm l++cp l,bL x=0:=λ x b=>by
    obtain b|b:=aR.1 b
    .grind [Yh]
    .obtain⟨p,c,rfl⟩:=XR b;exact rT (uV (by decide) (by show(1:Int)<=1;decide) (by show(1:Int)<=1;decide) (xG (by decide) (by decide) (by decide) _)) λ k d=>by rw[dN.1 d];exact f p c
   generalize cm l++cp l=o at *;unfold fw;split
   .exact rT (uV (by decide) (by show(0:Int)<=0;decide) (by show(0:Int)<=0;decide) (xG (by decide) (by decide) (by decide) _)) λ k d=>by cases d
   .split
    .grind
    .next j i=>exact rT (uV (by decide) (by show(2:Int)<=_;omega) (by show _<=(8:Int);omega) (xG (by decide) (by decide) (by decide) _)) a
  .grind
 .grind [ja]
def XM{b:T}{l:aa Pw}(d:bL b=0)(f:∀p∈l,bL p.1=0)(h:(my b l).2=0):bL (my b l).1=0:=by
 unfold my at h |-
 split at h
 .grind
 .rename_i e;rw[ae e];split at h
  .next a=>exact absurd h a
  .rename_i a;rw[ae a];refine rT (uV (by decide) (by show(2:Int)<=2;decide) (by show(2:Int)<=2;decide) (xG (by decide) (by decide) (by decide) _)) λ k c=>?_;obtain rfl|c:=be.1 c
   .exact d
   .grind [List.mem_singleton,Wg]
theorem qpF{n:aa aN}{c:aa T}(i:∀k∈c,bL k=0)(B:ic (apT n c)=0)(a:(eW (apT n c)).2=0):bL (eW (apT n c)).1=0:=by
 have g:bL (apT n c)=0:=rT B i;unfold eW at a |-
 by_cases x:isD (apT n c).name=O
 .rw[af x];show bL (ow _)=0;unfold ow;split
  .rename_i d
   have p:(kid (apT n c) 0).kind=3:=by
    unfold cW at d;split at d
    .exact(du.1 d).1
    .split at d
     .rw[aJ]at d;exact(du.1 d.1).1
     .split at d
      .rw[aJ,aJ]at d;exact(du.1 d.1.1).1
      .split at d
       .rw[aJ,aJ]at d;exact(du.1 d.1.1).1
       .grind [du]
   exact kr jn mU p (kr jn mU rfl g 0) _
  .exact g
 rw[ae x]at a |-
 by_cases u:(apT n c).name=jh
 .rw[af u]at a |-
  unfold qG at a |-
  split at a
  .next e=>exact absurd a e
  rename_i e;rw[ae e];split at a
  .cases a
  rename_i h;rw[ae h];show bL (fy (dx c))=0
  have m:bw (fy (dx c))=0:=by
   have:¬ bw (fy (dx (apT n c).kids))≠0:=h;exact wv this
  have l:=VO jn i;generalize dx c=o at *;unfold fy at m |-
  split
  .exact rT (uV (by decide) (by show(0:Int)<=0;decide) (by show(0:Int)<=0;decide) (xG (by decide) (by decide) (by decide) _)) λ k A=>by cases A
  .rename_i D;split
   .grind
   .next C=>rw[ae D,ae C]at m;have z:J o<=8:=qot (t:=apT jh o) rfl m;exact rT (uV (by decide) (by show(2:Int)<=_;omega) (by show _<=(8:Int);omega) (xG (by decide) (by decide) (by decide) _)) l
 rw[ae u]at a |-
 by_cases v:(apT n c).name=jL\/(apT n c).name=dR\/(apT n c).name=kI
 .rw[af v]at a |-
  unfold sb at a |-
  split at a
  .next e=>exact absurd a e
  next e=>rw[ae e];exact Wg (rU jn g) a
 rw[ae v]at a |-
 by_cases w:(apT n c).name=jg
 .rw[af w]at a |-
  have q:=kr jn mU (t:=apT n c) rfl g 0;have s:=kr jn mU (t:=apT n c) rfl g 1;generalize kid (apT n c) 0=b at *;generalize kid (apT n c) 1=y at *;unfold qC at a |-
  split at a
  .next e=>exact absurd a e
  rename_i e;rw[ae e];split at a
  .rename_i f;rw[af f];split at a
   .next h=>exact absurd a h
   rename_i h;rw[ae h];split at a
   .next r=>exact absurd a r
   next r=>rw[ae r];have j:=(du.1 f).1;exact XM (kr jn mU j q 0) (Zy (P:=λ t=>bL t=0) (rU jn (kr jn mU j q 1)) (rU jn s)) a
  .next f=>rw[ae f];exact XM q (rU jn s) a
 .rw[ae w];exact g
theorem xJ:size zT=1:=by rw[cM];rfl
theorem lZ(t:T)(i:Nat):size (kid t i)<=size t:=by
 have:=size_pos t;by_cases h:i<J t.kids
 .have:=fM t _ (ZQ h);omega
 .grind [kid,List.getElem?_eq_none,xJ]
theorem Xw(l:aa Pw):size (ja l).1<=400:=by
 unfold ja;have:=xJ;split
 .show size zT<=_;omega
 .split
  .show size zT<=_;omega
  .split
   .show size zT<=_;omega
   .next h=>exact lU (wv h)
theorem qsg(b:T)(l:aa Pw):size (my b l).1<=401+size b:=by
 unfold my;have:=xJ;have:=Xw l;split
 .show size b<=_;omega
 .split
  .show size zT<=_;omega
  .rw[cM];show 1+(size b+(size (ja l).1+0))<=_;omega
def qrA(n:aa aN)(a:aa T):size (eW (apT n a)).1<=402+szL a:=by
 have b:=xJ;have c:size (apT n a)=1+szL a:=cM _;unfold eW;split
 .grind [ow,lZ]
 .split
  .unfold qG;split
   .show size zT<=_;omega
   .split
    .show size zT<=_;omega
    .have f:=ZM (dx (apT n a).kids);have e:=uR (apT n a).kids;have d:szL (apT n a).kids=szL a:=rfl;show size (fy _)<=_;omega
  .grind [sb,qC,Xw,lZ,qsg]
def NI(t:T):size (bR t).1<=402*size t:=by
 refine T.ind (P:=λ t=>size (bR t).1<=402*size t) ?_ t;intro t b;have f:=xJ;have g:=size_pos t;rw[AE];split
 .show size t<=_;omega
 .split
  .show size zT<=_;omega
  .have e:=qrA t.name ((t.kids.map bR).map (·.1))
   have d:szL ((t.kids.map bR).map (·.1))<=402*szL t.kids:=by
    have:∀l:aa T,(∀k∈l,k∈t.kids)->szL ((l.map bR).map (·.1))<=402*szL l:=by
     intro l
     induction l with
     |nil=>intro _;exact au _
     |cons k l a=>
       intro h;have e:=b k (h k (bj ..));have d:=a λ x c=>h x (bk _ c);rw[bh,bh,dY,dY];omega
    exact this t.kids λ _ h=>h
   have i:size t=1+szL t.kids:=cM t;omega
def Ut:∀(l:aa Int),l.foldl thn 0=0->∀y∈l,y=0
 |[],_,y,a=>by cases a
 |z::l,h,y,a=>by
   rw[qX]at h;by_cases b:z=0
   .subst b;obtain rfl|a:=be.1 a
    .rfl
    .exact Ut l h y a
   .grind [fS]
theorem Ab{t:T}(h:t.kind≠3):bR t=(t,0):=by rw[AE,af h]
theorem qpz{t:T}(d:t.kind=3)(h:(bR t).2=0):(∀k∈t.kids,(bR k).2=0)/\bR t=eW (apT t.name ((t.kids.map bR).map (·.1))):=by
 rw[AE,ae (λ c=>c d)]at h |-
 split at h
 .next a=>exact absurd h a
 .next a=>rw[ae a];refine⟨λ k b=>?_,rfl⟩;exact Ut _ (wv a) _ (bE.2 ⟨_,bE.2 ⟨k,b,rfl⟩,rfl⟩)
theorem qpB(l:aa T)(h:∀k∈l,k.kind≠3):(l.map bR).map (·.1)=l:=by
 induction l with
 |nil=>rfl
 |cons k l a=>
   grind [Ab,List.mem_cons_self,List.mem_cons_of_mem]
theorem WH{t:T}(i:t.kind=3)(h:ic t=0):ic (apT t.name ((t.kids.map bR).map (·.1)))=0:=by
 let⟨l,j,g,a⟩:=WU i h;apply uV l (by simpa using j) (by simpa using g);unfold iI at a |-
 show(if t.name=mw then X ((kid (apT t.name ((t.kids.map bR).map (·.1))) 0).kind≠2)else if t.name=nSk\/t.name=vX then((t.kids.map bR).map (·.1)).any λ k=>X (k.kind=3)||X (k.sort≠1)else Y)=Y;split
 .rename_i c;rw[af c]at a;have b:(kid t 0).kind=2:=by simpa using a
  cases d:t.kids with
  |nil=>
    unfold kid at b;rw[d]at b;exact absurd b (by decide)
  |cons x r=>
    have e:kid t 0=x:=by unfold kid;rw[d];rfl
    rw[e]at b;show X ((bR x).1.kind≠2)=Y;grind [Ab]
 .rename_i c;rw[ae c]at a;split
  .next f=>rw[af f]at a;grind [qpB,List.any_eq_false]
  .rfl
theorem qqc(t:T):bL t=0->(bR t).2=0->bL (bR t).1=0:=by
 refine T.ind (P:=λ t=>bL t=0->(bR t).2=0->bL (bR t).1=0) ?_ t;grind [qpz,xi,qpF,WH,Ab]
def dB(t:T){b:Bool}(h:cW t=b):ow t=if b then kid (kid t 0) (if t.name=Bj then 1 else 0)else t:=by unfold ow;rw[h]
def md{t:T}(h:bL t=0){n:aa aN}(e:isN t n=O){a b c:Int}(d:bK n=(a,b,c)){i:Nat}(f:(i:Int)<a):ap t.kids (i:Int)=Z (kid t i):=by
 have:=(Hf h e d).1;exact NY
def qno(t:T)(K:t.kind=3)(I:bL t=0)(D:isD t.name=O)(M:size t<=1000000000:=by omega):Ev (λ m _=>zl m t) (ow t):=by
 have B:∀i,size (kid t i)<=size t:=lZ t;have r:∀i j,size (kid (kid t i) j)<=1000000000:=λ i j=>by have:=lZ (kid t i) j;have:=B i;omega
 have v:∀i j k,size (kid (kid (kid t i) j) k)<=1000000000:=λ i j k=>by have:=lZ (kid (kid t i) j) k;have:=r i j;omega
 have f:∀i,bL (kid t i)=0:=λ i=>kr jn mU K I i;have x:∀i j,(kid t i).kind=3->bL (kid (kid t i) j)=0:=λ i j h=>kr jn mU h (f i) j;have A:isN t t.name=O:=du.2 ⟨K,rfl⟩;have H:∀{u:T}{n:aa aN},bL u=0->isN u n=O->∀{b c:Int},bK n=(1,b,c)->ap u.kids 0=Z (kid u 0):=λ h d _ _ e=>md (i:=0) h d e (by decide);have q:∀{u:T}{n:aa aN},bL u=0->isN u n=O->∀{b c:Int},bK n=(2,b,c)->ap u.kids 0=Z (kid u 0):=λ h d _ _ e=>md (i:=0) h d e (by decide);have p:∀{u:T}{n:aa aN},bL u=0->isN u n=O->∀{b c:Int},bK n=(2,b,c)->ap u.kids 1=Z (kid u 1):=λ h d _ _ e=>md (i:=1) h d e (by decide);have E:bK vA=(2,2,1):=by decide
 have G:bK qA=(2,2,1):=by decide
 have z:bK pg=(2,2,1):=by decide
 have F:bK nPk=(1,1,1):=by decide
 have y:bK ml=(2,2,1):=by decide
 unfold isD at D;simp only[gg,wn]at D;apply aF;simp only[qg6,Kl,aA]
 have l:∀{a b c:Int},bK t.name=(a,b,c)->a=b->(J t.kids:Int)=a:=λ e L=>by
  have:=Hf I A e;omega
 obtain ((((d|d)|d)|d)|d)|d:=D
 .have w:=l (a:=1) (b:=1) (c:=3) (by rw[d];decide) rfl;refine ao (lq) (ai (aT.2 (by omega)) (ah (by rw[d];rfl) (ag (qj _ _) ?_)));have g:cW t=isN (kid t 0) vA:=by unfold cW;rw[af (.inl d)]
  refine ak (λ h=>?_) λ h=>?_
  .refine ao (q (f 0) h E) (al ?_);rw[dB t (g.trans h),af rfl,ae (by rw[d];decide)]
  .apply al;rw[dB t (g.trans h),ae (by decide)]
 .have w:=l (a:=1) (b:=1) (c:=3) (by rw[d];decide) rfl;refine ao (lq) (ai (aT.2 (by omega)) (ai (by rw[d];rfl) (ah (by rw[d];rfl) (ag (qj _ _) ?_))));have g:cW t=isN (kid t 0) vA:=by unfold cW;rw[af (.inr d)]
  refine ak (λ h=>?_) λ h=>?_
  .refine ao (p (f 0) h E) (al ?_);rw[dB t (g.trans h),af rfl,af d]
  .apply al;rw[dB t (g.trans h),ae (by decide)]
 .have w:=l (a:=2) (b:=2) (c:=3) (by rw[d];decide) rfl;refine ao (lq) (ah (aS.2 (by omega)) (ao (yk) (ai (by rw[d];rfl) (ai (by rw[d];rfl) (ah (by rw[d];rfl) (ag (qj _ _) ?_))))));have g:cW t=(isN (kid t 0) qA&&cc (kid (kid t 0) 1) (kid t 1)):=by unfold cW;rw[ae (by rw[d];decide),af d]
  refine ak (λ h=>?_) λ h=>?_
  .refine ao (p (f 0) h G) (ag (G1 _ _ (r 0 1) (by have:=B 1;omega)) (ak (λ o=>?_) λ o=>?_))
   .refine ao (q (f 0) h G) (al ?_);rw[dB t (b:=O) (by rw[g,show isN (kid t 0) qA=O from h,o];rfl),af rfl,ae (by rw[d];decide)]
   .apply al;rw[dB t (b:=Y) (by rw[g,o,wh]),ae (by decide)]
  .apply al;rw[dB t (b:=Y) (by rw[g,show isN (kid t 0) qA=Y from h];rfl),ae (by decide)]
 .have w:=l (a:=2) (b:=2) (c:=3) (by rw[d];decide) rfl;refine ao (lq) (ah (aS.2 (by omega)) (ao (yk) (ai (by rw[d];rfl) (ai (by rw[d];rfl) (ai (by rw[d];rfl) (ah (by rw[d];rfl) (ag (qj _ _) ?_)))))));have g:cW t=(isN (kid t 0) pg&&isN (kid (kid t 0) 1) nPk&&cc (kid (kid (kid t 0) 1) 0) (kid t 1)):=by unfold cW;rw[ae (by rw[d];decide),ae (by rw[d];decide),af d]
  refine ak (λ h=>?_) λ h=>?_
  .have C:=(du.1 h).1;refine ao (p (f 0) h z) (ag (qj _ _) (ak (λ o=>?_) λ o=>?_))
   .refine ao (p (f 0) h z) (ao (H (x 0 1 C) o F) (ag (G1 _ _ (v 0 1 0) (by have:=B 1;omega)) (ak (λ s=>?_) λ s=>?_)))
    .refine ao (q (f 0) h z) (al ?_);rw[dB t (b:=O) (by rw[g,show isN (kid t 0) pg=O from h,show isN (kid (kid t 0) 1) nPk=O from o,s];rfl),af rfl,ae (by rw[d];decide)]
    .apply al;rw[dB t (b:=Y) (by rw[g,s,wh]),ae (by decide)]
   .apply al;rw[dB t (b:=Y) (by rw[g,show isN (kid (kid t 0) 1) nPk=Y from o,wh,kP]),ae (by decide)]
  .apply al;rw[dB t (b:=Y) (by rw[g,show isN (kid t 0) pg=Y from h];rfl),ae (by decide)]
 .have w:=l (a:=2) (b:=2) (c:=3) (by rw[d];decide) rfl;refine ao (lq) (ah (aS.2 (by omega)) (ao (yk) (ai (by rw[d];rfl) (ai (by rw[d];rfl) (ai (by rw[d];rfl) (ai (by rw[d];rfl) (ah (by rw[d];rfl) (ag (qj _ _) ?_))))))));have g:cW t=(isN (kid t 0) ml&&isN (kid t 1) nPk&&cc (kid (kid t 0) 1) (kid (kid t 1) 0)):=by unfold cW;rw[ae (by rw[d];decide),ae (by rw[d];decide),ae (by rw[d];decide),af d]
  refine ak (λ h=>?_) λ h=>?_
  .refine ag (qj _ _) (ak (λ o=>?_) λ o=>?_)
   .refine ao (p (f 0) h y) (ao (H (f 1) o F) (ag (G1 _ _ (r 0 1) (r 1 0)) (ak (λ s=>?_) λ s=>?_)))
    .refine ao (q (f 0) h y) (al ?_);rw[dB t (b:=O) (by rw[g,show isN (kid t 0) ml=O from h,show isN (kid t 1) nPk=O from o,s];rfl),af rfl,ae (by rw[d];decide)]
    .apply al;rw[dB t (b:=Y) (by rw[g,s,wh]),ae (by decide)]
   .apply al;rw[dB t (b:=Y) (by rw[g,show isN (kid t 1) nPk=Y from o,wh,kP]),ae (by decide)]
  .apply al;rw[dB t (b:=Y) (by rw[g,show isN (kid t 0) ml=Y from h];rfl),ae (by decide)]
 .have w:=l (a:=1) (b:=1) (c:=3) (by rw[d];decide) rfl;refine ao (lq) (ai (aT.2 (by omega)) (ai (by rw[d];rfl) (ai (by rw[d];rfl) (ai (by rw[d];rfl) (ai (by rw[d];rfl) (ai (by rw[d];rfl) (ah (by rw[d];rfl) (ag (qj _ _) ?_))))))));have g:cW t=isN (kid t 0) ml:=by unfold cW;rw[ae (by rw[d];decide),ae (by rw[d];decide),ae (by rw[d];decide),ae (by rw[d];decide),af d]
  refine ak (λ h=>?_) λ h=>?_
  .refine ao (q (f 0) h y) (al ?_);rw[dB t (g.trans h),af rfl,ae (by rw[d];decide)]
  .apply al;rw[dB t (g.trans h),ae (by decide)]
def jK:T->Prop:=T.para λ t a=>(t.kind=3->t.sort=0)/\∀p∈a,p
theorem AI(t:T):jK t↔(t.kind=3->t.sort=0)/\∀k∈t.kids,jK k:=by
 have h:jK t=((t.kind=3->t.sort=0)/\∀p∈t.kids.map jK,p):=T.para_eq _ _;rw[h];refine and_congr_right λ _=>⟨λ h k a=>h _ (nK a),λ h p b=>?_⟩
 grind
def AS:Cl jK:=λ t _ h=>((AI t).1 h).2
def Oj:jK zT:=(AI zT).2 ⟨λ h=>absurd h (by decide),λ _ h=>by cases h⟩
def Zw(n:aa aN)(a:aa T)(h:∀k∈a,jK k):jK (apT n a):=(AI _).2 ⟨λ _=>rfl,h⟩
theorem qnT{t:T}(a:t.kind=3)(h:eM t=0):t.sort=0:=by
 grind [eM,oj]
def qpu(t:T):iY t=0->jK t:=by
 refine T.ind (P:=λ t=>iY t=0->jK t) ?_ t;grind [Lz,AI,qnT]
def Up{t:T}(h:bw t=0):iY t=0:=by
 grind [bw]
def qsE{P:T->Prop}(m:Cl P)(e:P zT)(w:∀n c,(∀k∈c,P k)->P (apT n c)){n:aa aN}{c:aa T}(o:∀k∈c,P k):P (eW (apT n c)).1:=by
 have j:=w n c o;have a:∀{t:T} (i:Nat),P t->t.kind=3->P (kid t i):=λ i h A=>kr m e A h i
 have g:∀l:aa Pw,(∀p∈l,P p.1)->P (ja l).1:=by
  intro l C;unfold ja;split
  .exact e
  .split
   .exact e
   .split
    .exact e
    .have r:∀x∈cm l++cp l,P x:=λ x B=>by
       grind [Yh,XR,List.mem_singleton]
     grind [fw]
 have f:∀(b:T) (l:aa Pw),P b->(∀p∈l,P p.1)->P (my b l).1:=by
  grind [my]
 unfold eW;split
 .show P (ow _);unfold ow;split
  .rename_i d
   have s:(kid (apT n c) 0).kind=3:=by
    unfold cW at d;split at d
    .exact(du.1 d).1
    .split at d
     .rw[aJ]at d;exact(du.1 d.1).1
     .split at d
      .rw[aJ,aJ]at d;exact(du.1 d.1.1).1
      .split at d
       .rw[aJ,aJ]at d;exact(du.1 d.1.1).1
       .grind [du]
   exact a _ (a 0 j rfl) s
  .exact j
 .split
  .unfold qG;split
   .exact e
   .split
    .exact e
    .have r:=VO m o;show P (fy (dx c));grind [fy]
  .split
   .unfold sb;split
    .exact e
    .exact g _ (rU m j)
   .split
    .have v:=a (t:=apT n c) 0 j rfl;have z:=a (t:=apT n c) 1 j rfl;generalize kid (apT n c) 0=b at *;generalize kid (apT n c) 1=y at *;unfold qC;split
     .exact e
     .split
      .rename_i u;have q:=(du.1 u).1;split
       .exact e
       .split
        .exact e
        .exact f _ _ (a 0 v q) (Zy (rU m (a 1 v q)) (rU m z))
      .exact f _ _ v (rU m z)
    .exact j
def qrr{P:T->Prop}(e:Cl P)(c:P zT)(a:∀n b,(∀k∈b,P k)->P (apT n b))(t:T):P t->P (bR t).1:=by
 refine T.ind (P:=λ t=>P t->P (bR t).1) ?_ t;intro t f h;rw[AE];split
 .exact h
 .rename_i l;split
  .exact c
  .refine qsE e c a λ k i=>?_;obtain⟨q,g,rfl⟩:=bE.1 i;obtain⟨j,d,rfl⟩:=bE.1 g;exact f j d (e t (wv l) h j d)
def Yo{u x:T}(o:bL u=0)(m:jK u):cc u (apT nPk [x])=(isN u nPk&&cc (kid u 0) x):=by
 rw[gG,aJ,gI,gI];constructor
 .rintro rfl;exact⟨du.2 ⟨rfl,rfl⟩,rfl⟩
 .rintro⟨i,l⟩;let⟨g,h⟩:=du.1 i;have e:=Hf o i (a:=1) (b:=1) (c:=1) (by decide);have d:=((AI u).1 m).1 g;cases u with
  |mk k n so f=>
    have g:k=3:=g;have h:n=nPk:=h;have d:so=0:=d
    have j:J f=1:=by
     have i:(1:Int)<=(J f:Int):=e.1;have l:(J f:Int)<=1:=e.2.1;omega
    cases f with
    |nil=>cases j
    |cons y r=>
      cases r with
      |nil=>
        have:y=x:=l;subst g;subst h;subst d;subst this;rfl
      |cons z r=>simp at j
def U3(a b:T):cc a b=cc b a:=by
 rw[gG,gI,gI];exact eq_comm
def qme(t:T)(G:t.kind=3)(L:bL t=0)(E:jK t)(F:isD t.name=O)(N:size t<=900000000:=by omega):Ev (λ m _=>El m t) (ow t,cW t):=by
 have B:∀i,size (kid t i)<=size t:=lZ t;have s:∀i j,size (kid (kid t i) j)<=900000000:=λ i j=>by have:=lZ (kid t i) j;have:=B i;omega
 have k:∀i,bL (kid t i)=0:=λ i=>kr jn mU G L i;have A:∀i j,(kid t i).kind=3->bL (kid (kid t i) j)=0:=λ i j h=>kr jn mU h (k i) j;have w:∀i,jK (kid t i):=λ i=>kr AS Oj G E i;have v:∀i j,(kid t i).kind=3->jK (kid (kid t i) j):=λ i j h=>kr AS Oj h (w i) j;have D:isN t t.name=O:=du.2 ⟨G,rfl⟩;have p:∀{u:T}{n:aa aN},bL u=0->isN u n=O->∀{b c:Int},bK n=(2,b,c)->ap u.kids 0=Z (kid u 0):=λ h d _ _ e=>md (i:=0) h d e (by decide);have r:∀{u:T}{n:aa aN},bL u=0->isN u n=O->∀{b c:Int},bK n=(2,b,c)->ap u.kids 1=Z (kid u 1):=λ h d _ _ e=>md (i:=1) h d e (by decide);have H:bK vA=(2,2,1):=by decide
 have I:bK qA=(2,2,1):=by decide
 have K:bK pg=(2,2,1):=by decide
 have C:bK ml=(2,2,1):=by decide
 unfold isD at F;simp only[gg,wn]at F;apply aF;simp only[qhE,Kx,aA]
 have o:∀{a b c:Int},bK t.name=(a,b,c)->a=b->(J t.kids:Int)=a:=λ e M=>by
  have:=Hf L D e;omega
 have l:∀x:T,size (apT nPk [x])=1+size x:=λ x=>by rw[cM];show 1+(size x+0)=_;omega
 obtain ((((d|d)|d)|d)|d)|d:=F
 .have y:=o (a:=1) (b:=1) (c:=3) (by rw[d];decide) rfl;refine ao (lq) (ah (by rw[d];rfl) (ag (vm _ _) ?_));have f:cW t=isN (kid t 0) vA:=by unfold cW;rw[af (.inl d)]
  refine ak (λ h=>?_) λ h=>?_
  .refine ao (p (k 0) h H) (al ?_);rw[dB t (f.trans h),af rfl,ae (by rw[d];decide),f.trans h]
  .repeat (refine ai (by rw[d];rfl) ?_)
   apply al;rw[dB t (f.trans h),ae (by decide),f.trans h]
 .have y:=o (a:=1) (b:=1) (c:=3) (by rw[d];decide) rfl;refine ao (lq) (ai (by rw[d];rfl) (ah (by rw[d];rfl) (ag (vm _ _) ?_)));have f:cW t=isN (kid t 0) vA:=by unfold cW;rw[af (.inr d)]
  refine ak (λ h=>?_) λ h=>?_
  .refine ao (r (k 0) h H) (al ?_);rw[dB t (f.trans h),af rfl,af d,f.trans h]
  .repeat (refine ai (by rw[d];rfl) ?_)
   apply al;rw[dB t (f.trans h),ae (by decide),f.trans h]
 .have y:=o (a:=2) (b:=2) (c:=3) (by rw[d];decide) rfl;refine ao (lq) (ai (by rw[d];rfl) (ai (by rw[d];rfl) (ah (by rw[d];rfl) (ag (vm _ _) ?_))));have f:cW t=(isN (kid t 0) qA&&cc (kid (kid t 0) 1) (kid t 1)):=by unfold cW;rw[ae (by rw[d];decide),af d]
  refine ak (λ h=>?_) λ h=>?_
  .refine ao (r (k 0) h I) (ao (yk) (ag (nW _ _ (by have:=s 0 1;omega) (by have:=B 1;omega)) (ak (λ q=>?_) λ q=>?_)))
   .have g:cW t=O:=by rw[f,show isN (kid t 0) qA=O from h,q];rfl
    refine ao (p (k 0) h I) (al ?_);rw[dB t g,af rfl,ae (by rw[d];decide),g]
   .have g:cW t=Y:=by rw[f,q,wh]
    repeat (refine ai (by rw[d];rfl) ?_)
    apply al;rw[dB t g,ae (by decide),g]
  .have g:cW t=Y:=by rw[f,show isN (kid t 0) qA=Y from h];rfl
   repeat (refine ai (by rw[d];rfl) ?_)
   apply al;rw[dB t g,ae (by decide),g]
 .have y:=o (a:=2) (b:=2) (c:=3) (by rw[d];decide) rfl;refine ao (lq) (ai (by rw[d];rfl) (ai (by rw[d];rfl) (ai (by rw[d];rfl) (ah (by rw[d];rfl) (ag (vm _ _) ?_)))));have f:cW t=(isN (kid t 0) pg&&isN (kid (kid t 0) 1) nPk&&cc (kid (kid (kid t 0) 1) 0) (kid t 1)):=by unfold cW;rw[ae (by rw[d];decide),ae (by rw[d];decide),af d]
  refine ak (λ h=>?_) λ h=>?_
  .have z:=(du.1 h).1;refine ao (r (k 0) h K) (ao (yk) (ag (pY nPk [kid t 1] (by simp)) (ag (nW _ _ (by have:=s 0 1;omega) (by rw[l];have:=B 1;omega)) ?_)));rw[Yo (A 0 1 z) (v 0 1 z)];refine ak (λ q=>?_) λ q=>?_
   .have g:cW t=O:=by rw[f,show isN (kid t 0) pg=O from h,bU,q]
    refine ao (p (k 0) h K) (al ?_);rw[dB t g,af rfl,ae (by rw[d];decide),g]
   .have g:cW t=Y:=by rw[f,show isN (kid t 0) pg=O from h,bU,q]
    repeat (refine ai (by rw[d];rfl) ?_)
    apply al;rw[dB t g,ae (by decide),g]
  .have g:cW t=Y:=by rw[f,show isN (kid t 0) pg=Y from h];rfl
   repeat (refine ai (by rw[d];rfl) ?_)
   apply al;rw[dB t g,ae (by decide),g]
 .have y:=o (a:=2) (b:=2) (c:=3) (by rw[d];decide) rfl;refine ao (lq) (ai (by rw[d];rfl) (ai (by rw[d];rfl) (ai (by rw[d];rfl) (ai (by rw[d];rfl) (ah (by rw[d];rfl) (ag (vm _ _) ?_))))));have f:cW t=(isN (kid t 0) ml&&isN (kid t 1) nPk&&cc (kid (kid t 0) 1) (kid (kid t 1) 0)):=by unfold cW;rw[ae (by rw[d];decide),ae (by rw[d];decide),ae (by rw[d];decide),af d]
  refine ak (λ h=>?_) λ h=>?_
  .refine ao (yk) (ao (r (k 0) h C) (ag (pY nPk [kid (kid t 0) 1] (by simp)) (ag (nW _ _ (by have:=B 1;omega) (by rw[l];have:=s 0 1;omega)) ?_)));rw[Yo (k 1) (w 1),U3 (kid (kid t 1) 0)];refine ak (λ q=>?_) λ q=>?_
   .have g:cW t=O:=by rw[f,show isN (kid t 0) ml=O from h,bU,q]
    refine ao (p (k 0) h C) (al ?_);rw[dB t g,af rfl,ae (by rw[d];decide),g]
   .have g:cW t=Y:=by rw[f,show isN (kid t 0) ml=O from h,bU,q]
    repeat (refine ai (by rw[d];rfl) ?_)
    apply al;rw[dB t g,ae (by decide),g]
  .have g:cW t=Y:=by rw[f,show isN (kid t 0) ml=Y from h];rfl
   repeat (refine ai (by rw[d];rfl) ?_)
   apply al;rw[dB t g,ae (by decide),g]
 .have y:=o (a:=1) (b:=1) (c:=3) (by rw[d];decide) rfl;refine ao (lq) (ai (by rw[d];rfl) (ai (by rw[d];rfl) (ai (by rw[d];rfl) (ai (by rw[d];rfl) (ai (by rw[d];rfl) (ah (by rw[d];rfl) (ag (vm _ _) ?_)))))));have f:cW t=isN (kid t 0) ml:=by unfold cW;rw[ae (by rw[d];decide),ae (by rw[d];decide),ae (by rw[d];decide),ae (by rw[d];decide),af d]
  refine ak (λ h=>?_) λ h=>?_
  .refine ao (p (k 0) h C) (al ?_);rw[dB t (f.trans h),af rfl,ae (by rw[d];decide),f.trans h]
  .repeat (refine ai (by rw[d];rfl) ?_)
   apply al;rw[dB t (f.trans h),ae (by decide),f.trans h]
theorem rV(t:T):szP (ofP t).1<=400:=by
 unfold ofP;split
 .exact aG _
 .rename_i h;split
  .exact aG _
  .split
   .exact aG _
   .have c:=Zl t [] 1;have b:=lU (wv h);have a:szP ([]:aa Pw)=0:=rfl;grind
def Za(a b:aa Pw):szP (px a b).1<=160000:=by
 unfold px;split
 .exact aG _
 .rename_i d;split
  .exact aG _
  .rename_i c;split
   .exact aG _
   .split
    .exact aG _
    .let⟨_,_,h,_⟩:=zP (wv d) (wv c) (J b);grind
def qqb(b e:T)(k:bL b=0)(n:size b<=1000000000:=by omega)(g:size e<=1000000000:=by omega):Ev (λ m _=>Fy m b e) (qC b e):=by
 apply aF;simp only[qjn,KL,aA]
 have j:∀(l:aa Pw) (x:T),szP l<=1000000000->Ev (λ m _=>cond (ieq (J l:Int) 0) (Z (x,(0:Int))) (ab (rd m l) λ v=>cond (am (ieq v.2 0)) (Z (T.mk 0 [] 0 [],v.2)) (ab (zV m [101,120,112] [x,v.1]) λ w=>Z (w,0)))) (my x l):=by
  intro l x o;unfold my;refine ak (λ h=>?_) λ h=>?_
  .rw[aB]at h;rw[ifP];exact aq _
  .rw[ay]at h;rw[ifN];refine ag (W7 l o) (ak (λ h=>?_) λ h=>?_)
   .rw[bnt,ay]at h;rw[af h];exact aq _
   .rw[bnf,aB]at h;rw[ifN];exact ag (qsT _ _) (aq _)
 unfold qC;refine ag (N6 e g) (ak (λ h=>?_) λ h=>?_)
 .rw[bnt,ay]at h;rw[af h];exact aq _
 rw[bnf,aB]at h;rw[ifN];refine ag (qj _ _) (ak (λ f=>?_) λ f=>?_)
 .rw[af (show isN b jg=O from f)];have s:=lZ b 1;refine ao (md (i:=1) k f (a:=2) (b:=2) (c:=1) (by decide) (by decide)) (ag (N6 _) (ak (λ d=>?_) λ d=>?_))
  .rw[bnt,ay]at d;rw[af d];exact aq _
  rw[bnf,aB]at d;rw[ifN];have r:=rV (kid b 1);have q:=rV e;have p:=Za (ofP (kid b 1)).1 (ofP e).1;refine ag (qrs _ _) (ak (λ d=>?_) λ d=>?_)
  .rw[bnt,ay]at d;rw[af d];exact aq _
  rw[bnf,aB]at d;rw[ifN];exact ao (md (i:=0) k f (a:=2) (b:=2) (c:=1) (by decide) (by decide)) (j _ _ (by omega))
 .rw[ae (by rw[show isN b jg=Y from f];decide)];grind [rV]
def qpS(b e:T)(k:bL b=0)(n:size b<=1000000000:=by omega)(g:size e<=1000000000:=by omega):Ev (λ m _=>FS m b e) (qC b e):=by
 apply aF;simp only[qkH,KZ,aA]
 have j:∀(l:aa Pw) (x:T),szP l<=1000000000->Ev (λ m _=>cond (ieq (J l:Int) 0) (Z (x,(0:Int))) (ab (uG m l) λ v=>cond (am (ieq v.2 0)) (Z (T.mk 0 [] 0 [],v.2)) (ab (gX m [101,120,112] [x,v.1]) λ w=>Z (w,0)))) (my x l):=by
  intro l x o;unfold my;refine ak (λ h=>?_) λ h=>?_
  .rw[aB]at h;rw[ifP];exact aq _
  .rw[ay]at h;rw[ifN];refine ag (Yb l o) (ak (λ h=>?_) λ h=>?_)
   .rw[bnt,ay]at h;rw[af h];exact aq _
   .rw[bnf,aB]at h;rw[ifN];exact ag (pY _ _ (by simp)) (aq _)
 unfold qC;refine ag (On e g) (ak (λ h=>?_) λ h=>?_)
 .rw[bnt,ay]at h;rw[af h];exact aq _
 rw[bnf,aB]at h;rw[ifN];refine ag (vm _ _) (ak (λ f=>?_) λ f=>?_)
 .rw[af (show isN b jg=O from f)];have s:=lZ b 1;refine ao (md (i:=1) k f (a:=2) (b:=2) (c:=1) (by decide) (by decide)) (ag (On _) (ak (λ d=>?_) λ d=>?_))
  .rw[bnt,ay]at d;rw[af d];exact aq _
  rw[bnf,aB]at d;rw[ifN];have r:=rV (kid b 1);have q:=rV e;have p:=Za (ofP (kid b 1)).1 (ofP e).1;refine ag (qru _ _) (ak (λ d=>?_) λ d=>?_)
  .rw[bnt,ay]at d;rw[af d];exact aq _
  rw[bnf,aB]at d;rw[ifN];exact ao (md (i:=0) k f (a:=2) (b:=2) (c:=1) (by decide) (by decide)) (j _ _ (by omega))
 .rw[ae (by rw[show isN b jg=Y from f];decide)];grind [rV]
def X2{t:T}(h:isD t.name=O):eW t=(ow t,0):=by unfold eW;rw[af h]
def Yc{t:T}(h:t.name=jh):eW t=qG t.kids:=by unfold eW;rw[ae (by rw[h];decide),af h]
def Xr{t:T}(h:t.name=jL\/t.name=dR\/t.name=kI):eW t=sb t:=by
 unfold eW;rw[ae (by obtain h|h|h:=h<;>rw[h]<;>decide),ae (by obtain h|h|h:=h<;>rw[h]<;>decide),af h]
def XI{t:T}(h:t.name=jg):eW t=qC (kid t 0) (kid t 1):=by
 unfold eW;rw[ae (by rw[h];decide),ae (by rw[h];decide),ae (by rw[h];decide),af h]
def WA{t:T}(d:isD t.name=Y)(c:t.name≠jh)(b:¬ (t.name=jL\/t.name=dR\/t.name=kI))(a:t.name≠jg):eW t=(t,0):=by
 grind [eW]
def qae(n:aa aN):(bK n).2.2=3↔isD n=O:=by
 constructor
 .intro h;obtain b|⟨r,c,a,b⟩:=Vo n
  .rw[U1 b]at h;cases h
  .rw[LN b]at h;have:dw.all (λ r => !X (r.2.2.2=3)||isD r.1)=O:=by decide
   grind
 .intro h;unfold isD at h;simp only[gg,wn]at h;obtain ((((a|a)|a)|a)|a)|a:=h<;>rw[a]<;>decide
def nks(l:aa T):aa T:=(l.map bR).map (·.1)
def HV(l:aa T):J (nks l)=J l:=by unfold nks;simp
def ZV(l:aa T):szL (nks l)<=402*szL l:=by
 induction l with
 |nil=>exact au _
 |cons k l a=>
   have:=NI k;show szL ((bR k).1::nks l)<=_;rw[dY,dY];omega
def X5{l:aa T}{i:Nat}{x:T}(h:l[i]?=Z x):nks (l.take (i+1))=nks (l.take i)++[(bR x).1]:=by
 unfold nks;rw[jZ h,iS,iS];rfl
def erN(l:aa T):Int:=((l.map bR).map (·.2)).foldl thn 0
def WF{l:aa T}{i:Nat}{x:T}(h:l.drop i=x::l.drop (i+1)):erN (l.drop i)=if(bR x).2≠0 then(bR x).2 else erN (l.drop (i+1)):=by
 unfold erN;rw[h,bh,bh];by_cases a:(bR x).2=0
 .rw[ifN,a];rfl
 .rw[af a];exact fS _ a
def YU{t:T}(a:t.kind=3):bR t=if erN t.kids≠0 then(zT,erN t.kids)else eW (apT t.name (nks t.kids)):=by rw[AE,ae (λ h=>h a)];rfl
def Yw{t:T}(b:t.kind=3)(c:bL t=0)(f:∀k∈t.kids,(bR k).2=0):bL (apT t.name (nks t.kids))=0/\∀k∈nks t.kids,bL k=0:=by
 let⟨d,g⟩:=xi b c
 have a:∀k∈nks t.kids,bL k=0:=λ k a=>by
  obtain⟨q,e,rfl⟩:=bE.1 a;grind [qqc]
 exact⟨rT (WH b d) a,a⟩
def qpo(t:T):size t<=2000->bL t=0->Ev (λ m _=>lL m t) (bR t):=by
 induction t using T.ind with
 |h t G=>
   intro hs F;have hl:=fL t;have hz:=cM t;apply aF;simp only[qhN,Dc,aA];by_cases o:t.kind=3
   rotate_left
   .refine ah (bnt.2 (ay.2 o)) (al (Ab o).symm)
   apply ai (bnf.2 (aB.2 o));rw[YU o];have z:=(xi o F).2
   have u:=aV (P:=λ i=>(∀k∈t.kids.take i,(bR k).2=0)->Ev (λ m k=>tF m (lL m) k t.kids (J t.kids) i t.kind t.name t.sort t.kids 0 [] 0 3 t.name 0 [] (nks (t.kids.take i))) (if erN (t.kids.drop i)≠0 then(zT,erN (t.kids.drop i))else eW (apT t.name (nks t.kids)))) t.kids (by omega)
    (λ j r=>by
     apply aw;simp only[SB,CW,aA];apply ai j;rw[cI]at r |-
     rw[bO,ae (show ¬ erN []≠0 from λ h=>h rfl)];let⟨s,c2⟩:=Yw o F r;have s1:=ZV t.kids;have s2:szL t.kids+1=size t:=by unfold szL;omega
     have I:=HV t.kids;generalize nks t.kids=d at *;have H:T.mk 3 t.name 0 d=apT t.name d:=rfl;rw[H];have su:size (apT t.name d)=1+szL d:=cM _
     have f:isD t.name=O->Ev (λ m _=>ab (zl m (apT t.name d)) λ v=>Z (v,(0:Int))) (eW (apT t.name d)):=λ n=>by
      rw[X2 (show isD (apT t.name d).name=O from n)];exact ag (qno _ rfl s n) (aq _)
     have g:t.name=jL\/t.name=dR\/t.name=kI->Ev (λ m _=>ab (ut m (apT t.name d)) λ v=>cond (am (ieq v.2 0)) (Z (T.mk 0 [] 0 [],v.2)) (ab (rd m v.1) λ w=>Z (w.1,w.2))) (eW (apT t.name d)):=λ q=>by
      rw[Xr (show(apT t.name d).name=jL\/(apT t.name d).name=dR\/(apT t.name d).name=kI from q)];unfold sb;have B:=rV (apT t.name d);refine ag (N6 _) (ak (λ h=>?_) λ h=>?_)
      .rw[bnt,ay]at h;rw[af h];exact aq _
      .rw[bnf,aB]at h;rw[ifN];exact ag (W7 _) (aq _)
     refine ak (λ h=>f (by rw[cr.1 h];decide)) λ h1=>?_;refine ak (λ h=>f (by rw[cr.1 h];decide)) λ h2=>?_;refine ak (λ h=>f (by rw[cr.1 h];decide)) λ C=>?_;refine ak (λ h=>f (by rw[cr.1 h];decide)) λ B=>?_;refine ak (λ h=>f (by rw[cr.1 h];decide)) λ h5=>?_;refine ak (λ h=>f (by rw[cr.1 h];decide)) λ h6=>?_;refine ak (λ h=>?_) λ W=>?_
     .rw[Yc (show(apT t.name d).name=jh from cr.1 h)];exact ag (qsD d) (aq _)
     refine ak (λ h=>g (.inl (cr.1 h))) λ S=>?_;refine ak (λ h=>g (.inr (.inl (cr.1 h)))) λ R=>?_;refine ak (λ h=>g (.inr (.inr (cr.1 h)))) λ E=>?_;refine ak (λ h=>?_) λ D=>?_
     .have e:t.name=jg:=cr.1 h;rw[XI (show(apT t.name d).name=jg from e)];have p:isN (apT t.name d) jg=O:=du.2 ⟨rfl,e⟩;have q0:=lZ (apT t.name d) 0;have q1:=lZ (apT t.name d) 1;refine ao (md (t:=apT t.name d) (i:=0) s p (a:=2) (b:=2) (c:=1) (by decide) (by decide)) (ao (md (t:=apT t.name d) (i:=1) s p (a:=2) (b:=2) (c:=1) (by decide) (by decide)) ?_);exact ag (qqb _ _ (kr jn mU rfl s 0)) (aq _)
     .rw[WA (t:=apT t.name d) (show isD t.name=Y from by
         rw[<-nJ];intro n;unfold isD at n;simp only[gg,wn]at n;obtain ((((e|e)|e)|e)|e)|e:=n
         .exact cC.1 h1 e
         .exact cC.1 h2 e
         .exact cC.1 C e
         .exact cC.1 B e
         .exact cC.1 h5 e
         .exact cC.1 h6 e) (cC.1 W) (λ h=>by obtain h|h|h:=h;exact cC.1 S h;exact cC.1 R h;exact cC.1 E h) (cC.1 D)]
      exact aq _)
    (λ i x y n j Q N A r=>by
     apply aw;simp only[SB,CW,aA];have q:=aK y;have K:=fM t x q;rw[WF n];refine ah j (ao Q (ag (G x q (by omega) (z x q)) (ak (λ h=>?_) λ h=>?_)))
     .rw[bnt,ay]at h;rw[af (show(if(bR x).2≠0 then(bR x).2 else erN (t.kids.drop (i+1)))≠0 from by rw[af h];exact h),af h];exact aq _
     .rw[bnf,aB]at h;rw[ae (show ¬ (bR x).2≠0 from by omega)];have B:J (nks (t.kids.take i))<=J t.kids:=by rw[HV,bg];omega
      apply ah (bD)
      have A:=A λ k l=>by
       rw[jZ y]at l;obtain l|l:=aR.1 l
       .exact r k l
       .rw[dN.1 l];exact h
      rw[N];refine A.congr λ m k=>?_;rw[X5 y])
   have M:=o;apply bd (L:=λ m k=>tF m (lL m) k t.kids (J t.kids) 0 t.kind t.name t.sort t.kids 0 [] 0 3 t.name 0 [] []);exact(u 0 (aG _)) (λ k l=>by rw[yQ]at l;cases l)
def qm9(t:T):size t<=2000->bL t=0->jK t->Ev (λ m _=>lN m t) (bR t):=by
 induction t using T.ind with
 |h t H=>
   intro hs F p;have hl:=fL t;have hz:=cM t;apply aF;simp only[qjg,DL,aA];by_cases l:t.kind=3
   rotate_left
   .refine ah (bnt.2 (ay.2 l)) (al (Ab l).symm)
   apply ai (bnf.2 (aB.2 l));rw[YU l];have z:=(xi l F).2
   have v:=aV (P:=λ i=>(∀k∈t.kids.take i,(bR k).2=0)->Ev (λ m k=>tM m (lN m) k i t.kind t.name t.sort t.kids 0 [] 0 [] (nks (t.kids.take i))) (if erN (t.kids.drop i)≠0 then(zT,erN (t.kids.drop i))else eW (apT t.name (nks t.kids)))) t.kids (by omega)
    (λ f r=>by
     apply aw;simp only[SP,Dp,aA];apply ai f;rw[cI]at r |-
     rw[bO,ae (show ¬ erN []≠0 from λ h=>h rfl)];let⟨u,c2⟩:=Yw l F r
     have G:jK (apT t.name (nks t.kids)):=Zw _ _ λ k g=>by
      obtain⟨q,I,rfl⟩:=bE.1 g;obtain⟨j,N,rfl⟩:=bE.1 I;exact qrr AS Oj Zw j (AS t l p j N)
     have s1:=ZV t.kids;have s2:szL t.kids+1=size t:=by unfold szL;omega
     have K:=HV t.kids;generalize nks t.kids=d at *;have su:size (apT t.name d)=1+szL d:=cM _
     have e:t.name=jL\/t.name=dR\/t.name=kI->Ev (λ m _=>ab (zp m (apT t.name d)) λ w=>Z (w.1,w.2)) (eW (apT t.name d)):=λ n=>by
      rw[Xr (show(apT t.name d).name=jL\/(apT t.name d).name=dR\/(apT t.name d).name=kI from n)];have h4:=rV (apT t.name d)
      have:Ev (λ m _=>zp m (apT t.name d)) (sb (apT t.name d)):=by
       apply aF;simp only[qh3,Kv,aA];unfold sb;refine ag (On _) (ak (λ h=>?_) λ h=>?_)
       .rw[bnt,ay]at h;rw[af h];exact aq _
       .rw[bnf,aB]at h;rw[ifN];exact ag (Yb _) (aq _)
      exact ag this (aq _)
     have E:=gL d;refine ag (pY t.name d) (ag (Ia t.name) (ak (λ h=>?_) λ h1=>?_))
     .have s:=(qae t.name).1 (aB.1 h);rw[X2 (show isD (apT t.name d).name=O from s)];exact ag (qme _ rfl u G s) (aq _)
     refine ak (λ h=>?_) λ h7=>?_
     .rw[Yc (show(apT t.name d).name=jh from cr.1 h)];exact ag (qsB d) (aq _)
     refine ak (λ h=>e (.inl (cr.1 h))) λ W=>?_;refine ak (λ h=>e (.inr (.inl (cr.1 h)))) λ S=>?_;refine ak (λ h=>e (.inr (.inr (cr.1 h)))) λ C=>?_;refine ak (λ h=>?_) λ B=>?_
     .have D:t.name=jg:=cr.1 h;rw[XI (show(apT t.name d).name=jg from D)];have o:isN (apT t.name d) jg=O:=du.2 ⟨rfl,D⟩;have q0:=lZ (apT t.name d) 0;have q1:=lZ (apT t.name d) 1;refine ao (md (t:=apT t.name d) (i:=0) u o (a:=2) (b:=2) (c:=1) (by decide) (by decide)) (ao (md (t:=apT t.name d) (i:=1) u o (a:=2) (b:=2) (c:=1) (by decide) (by decide)) ?_);exact ag (qpS _ _ (kr jn mU rfl u 0)) (aq _)
     .rw[WA (t:=apT t.name d) (show isD t.name=Y from by
         rw[<-nJ,<-qae];exact ay.1 h1) (cC.1 h7) (λ h=>by obtain h|h|h:=h;exact cC.1 W h;exact cC.1 S h;exact cC.1 C h) (cC.1 B)]
      exact aq _)
    (λ i x y s f R Q A r=>by
     apply aw;simp only[SP,Dp,aA];have n:=aK y;have M:=fM t x n;rw[WF s];refine ah f (ao R (ag (H x n (by omega) (z x n) (AS t l p x n)) (ak (λ h=>?_) λ h=>?_)))
     .rw[bnt,ay]at h;rw[af (show(if(bR x).2≠0 then(bR x).2 else erN (t.kids.drop (i+1)))≠0 from by rw[af h];exact h),af h];exact aq _
     .rw[bnf,aB]at h;rw[ae (show ¬ (bR x).2≠0 from by omega)];have h4:J (nks (t.kids.take i))<=J t.kids:=by rw[HV,bg];omega
      apply ah (bD)
      have A:=A λ k g=>by
       rw[jZ y]at g;obtain g|g:=aR.1 g
       .exact r k g
       .rw[dN.1 g];exact h
      rw[Q];refine A.congr λ m k=>?_;rw[X5 y])
   apply bd (L:=λ m k=>tM m (lN m) k 0 t.kind t.name t.sort t.kids 0 [] 0 [] []);exact(v 0 (aG _)) (λ k g=>by rw[yQ]at g;cases g)
def LY(t:T):xK t=if ox t≠0 then(zT,ox t)else if(bR t).2≠0 then(zT,(bR t).2)else if bw (bR t).1≠0 then(zT,bw (bR t).1)else bR t:=rfl
def qm2(t:T)(d:size t<=1000000000):Ev (λ m _=>Ej m t) (xK t):=by
 apply aF;simp only[qib,Kp,aA];rw[LY];refine ag (YC t d) (ak (λ h=>?_) λ h=>?_)
 .rw[bnt,ay]at h;rw[af h];exact aq _
 rw[bnf,aB]at h;rw[ifN];let⟨c,e⟩:=Wa h;have f:=lU c;have g:=NI t;refine ag (qpo t (by omega) e) (ak (λ a=>?_) λ a=>?_)
 .rw[aB]at a;rw[ifN];refine ag (lW _) (ak (λ b=>?_) λ b=>?_)
  .rw[bnt,ay]at b;rw[af b];exact aq _
  .rw[bnf,aB]at b;rw[ifN];exact al (by rw[<-a])
 .rw[ay]at a;rw[af a];exact ah (bnt.2 (ay.2 a)) (aq _)
def qnj(t:T)(d:size t<=1000000000):Ev (λ m _=>Fk m t) (xK t):=by
 apply aF;simp only[qjf,KA,aA];rw[LY];refine ag (YY t d) (ak (λ h=>?_) λ h=>?_)
 .rw[bnt,ay]at h;rw[af h];exact aq _
 rw[bnf,aB]at h;rw[ifN];let⟨c,e⟩:=Wa h;have f:=lU c;have g:=NI t;refine ag (qm9 t (by omega) e (qpu t (Up c))) (ak (λ a=>?_) λ a=>?_)
 .rw[bnt,ay]at a;rw[af a];exact aq _
 rw[bnf,aB]at a;rw[ifN];refine ag (lT _) (ak (λ b=>?_) λ b=>?_)
 .rw[bnt,ay]at b;rw[af b];exact aq _
 .rw[bnf,aB]at b;rw[ifN];exact al (by rw[<-a])
def UX(t:T):size (xK t).1<=400:=by
 rw[LY];have:=xJ;split
 .show size zT<=_;omega
 .split
  .show size zT<=_;omega
  .split
   .show size zT<=_;omega
   .next h=>exact lU (wv h)
def mV(p:aa aN->Bool):T->Bool:=T.para λ t a=>(!(t.kind==3)||p t.name)&&a.all id
def Me(p:aa aN->Bool)(t:T):mV p t=((!(t.kind==3)||p t.name)&&(t.kids.map (mV p)).all id):=T.para_eq _ _
def eE:T->aa T:=T.para λ t a=>t::a.flatten
theorem AP(t:T):eE t=t::(t.kids.map eE).flatten:=T.para_eq _ _
def Ay(t:T):J (eE t)=size t:=by
 refine T.ind (P:=λ t=>J (eE t)=size t) ?_ t;intro t a;rw[AP,cM,bH,List.length_flatten,kN];have:t.kids.map (J ∘ eE)=t.kids.map size:=sY λ k b=>a k b;rw[this];omega
def qr0(t:T):∀u∈eE t,size u<=size t:=by
 refine T.ind (P:=λ t=>∀u∈eE t,size u<=size t) ?_ t;intro t c u a;rw[AP]at a;obtain rfl|a:=be.1 a
 .exact au _
 .let⟨l,d,a⟩:=qN.1 a;obtain⟨k,b,rfl⟩:=bE.1 d;have f:=c k b u a;have e:=fM t k b;omega
def Vj(p:aa aN->Bool)(t:T):(eE t).all (λ u => !(u.kind==3)||p u.name)=mV p t:=by
 refine T.ind (P:=λ t=>(eE t).all (λ u => !(u.kind==3)||p u.name)=mV p t) ?_ t;intro t b;rw[AP,Me,dt,List.all_flatten];congr 1;rw[QY,QY];rw[gG,bB,bB];exact⟨λ h k a=>(b k a).symm.trans (h k a),λ h k a=>(b k a).trans (h k a)⟩
def pPl(n:aa aN):Bool:=am (ieq (bK n).2.2 3)
def qE(n:aa aN):Bool:=n==jh||n==iZ||n==jg||n==jL||n==dR||n==kI
def pFr(n:aa aN):Bool := !qE n&&pPl n
def qpa(n:aa aN):Ev (λ m _=>DS m n) (pPl n):=by
 apply aF;simp only[qgk,Km];refine ag (MA n) (al ?_);unfold pPl;rw[<-G2]
def od{n x:aa aN}(h:n=x)(a:qE x=O):qE n=O:=by rw[h];exact a
def qad{n:aa aN}(e:n≠jh)(d:n≠iZ)(c:n≠jg)(b:n≠jL)(a:n≠dR):qE n=(n==kI):=by
 unfold qE;rw[gH.2 e,gH.2 d,gH.2 c,gH.2 b,gH.2 a];rfl
def qo6(t:T):size t<=1000000000->Ev (λ m _=>kU m t) (mV pPl t):=by
 induction t using T.ind with
 |h t j=>
   intro r;have s:=fL t;apply aF;simp only[qeM,Cf]
   have d:=aV (P:=λ i=>Ev (λ m k=>qQ m (kU m) k t.kids (J t.kids) i) (((t.kids.drop i).map (mV pPl)).all id)) t.kids (by omega)
    (λ f=>by
     apply aw;simp only[Ru,Cg];refine ai f (al ?_);rw[bO];rfl)
    (λ i x l p f o n q=>by
     apply aw;simp only[Ru,Cg,aA];have g:=aK l;have u:=fM t x g;rw[p,bh,dt];refine ah f (ao o (ag (j x g (by omega)) (ak (λ b=>?_) λ b=>?_)))
     .rw[bnt]at b;rw[b];exact aq _
     .rw[bnf]at b;rw[b,n];exact q)
   have a:Ev (λ m _=>qQ m (kU m) m t.kids (J t.kids) 0) ((t.kids.map (mV pPl)).all id):=
    bd (L:=λ m k=>qQ m (kU m) k t.kids (J t.kids) 0) ((d 0 (aG _)).res (by rw[bF]))
   rw[Me];refine ak (λ c=>?_) λ c=>?_
   .rw[aB]at c;have e:(!(t.kind==3))=Y:=by rw[c];rfl
    rw[e,mK];refine ag (qpa t.name) (ak (λ h=>?_) λ h=>?_)
    .rw[bnt]at h;rw[h];exact aq _
    .rw[bnf]at h;rw[h];exact a
   .rw[ay]at c;have e:(!(t.kind==3))=O:=by rw[ew,gH];exact c
    rw[e,nI];exact a
def Ns(t:T):size t<=1000000000->Ev (λ m _=>km m t) (eE t):=by
 induction t using T.ind with
 |h t n=>
   intro r;have s:=fL t;have b:=Ay t;apply aF;simp only[qmi,EQ,aA];rw[AP]at b |-
   have a:∀i,((t.kids.take i).map eE).flatten.length<=(t.kids.map eE).flatten.length:=λ i=>by
    have:=bz (λ l=>(l.map eE).flatten.length) (oF i t.kids);simp only[iS,Q8,aO]at this;omega
   have c:=aV (P:=λ i=>Ev (λ m k=>uv m (km m) k i t.kind t.name t.sort t.kids (t::((t.kids.take i).map eE).flatten)) (t::(t.kids.map eE).flatten)) t.kids (by omega)
    (λ d=>by
     apply aw;simp only[TO,E7];apply ai d;rw[cI];exact aq _)
    (λ i x f u d p o j=>by
     apply aw;simp only[TO,E7,aA];have g:=aK f;have v:=fM t x g;have q:=a (i+1)
     have e:((t.kids.take (i+1)).map eE).flatten=((t.kids.take i).map eE).flatten++eE x:=by
      rw[jZ f,iS,Q8];simp
     rw[e,aO]at q;rw[e]at j;rw[bH]at b;refine ah d (ao p (ag (n x g (by omega)) (ah (bD (by rw[bH];omega)) ?_)));rw[o];exact j)
   apply bd (L:=λ m k=>uv m (km m) k 0 t.kind t.name t.sort t.kids [t]);exact c 0 (aG _)
def Bh(t:T):Bool:=X (ox t=0)&&mV pFr t
def vh(t:T):Bool:=X ((xK t).2=0)&&(cc (xK t).1 t&&mV pPl t)
def qpe(t:T)(a:size t<=1000000000:=by omega):Ev (λ m _=>zr m t) (vh t):=by
 have c:=UX t;apply aF;simp only[qjB,KN,aA];unfold vh;refine ag (qm2 t a) (ak (λ h=>?_) λ h=>?_)
 .rw[aB]at h;rw[bf h,bU];refine ag (G1 _ _ (by omega) a) (ak (λ b=>?_) λ b=>?_)
  .rw[b,bU];exact ag (qo6 t a) (aq _)
  .rw[b,kP];exact aq _
 .rw[ay]at h;rw[bo h,kP];exact aq _
def qn0(t:T)(e:size t<=1000000000:=by omega):Ev (λ m _=>FJ m t) (vh t):=by
 have s:=UX t;apply aF;simp only[qjK,DW,aA];unfold vh;refine ag (qnj t e) (ak (λ h=>?_) λ h=>?_)
 .rw[bnt,ay]at h;rw[bo h,kP];exact aq _
 rw[bnf,aB]at h;rw[bf h,bU,U3];refine ag (nW _ _ e) (ak (λ c=>?_) λ c=>?_)
 .rw[bnt]at c;rw[c,kP];exact aq _
 rw[bnf]at c;rw[c,bU,<-Vj];apply ag (Ns t e);have p:=Ay t;generalize eE t=l at*
 have d:=aV (P:=λ i=>Ev (λ m k=>tX m k l i) ((l.drop i).all λ u => !(u.kind==3)||pPl u.name)) l (by omega)
  (λ g=>by
   apply aw;simp only[SZ,D2];refine ai g (al ?_);rw[bO];rfl)
  (λ i x r q g n j o=>by
   apply aw;simp only[SZ,D2];rw[q,dt];refine ah g (ao n (ak (λ b=>?_) λ b=>?_))
   .rw[aB]at b;have f:(!(x.kind==3))=Y:=by rw[b];rfl
    rw[f,mK];refine ao n (ag (Ia x.name) (ak (λ a=>?_) λ a=>?_))
    .have:pPl x.name=Y:=by unfold pPl;rw[a];rfl
     rw[this];exact aq _
    .rw[j];apply o.res;have:pPl x.name=O:=by unfold pPl;rw[a];rfl
     rw[this];rfl
   .rw[ay]at b;have f:(!(x.kind==3))=O:=by rw[ew,gH];exact b
    rw[f,nI,j,bU];exact o)
 apply bd (L:=λ m k=>tX m k l 0);exact(d 0 (aG _)).res (by rw[bF])
section
open Go.Sort Proofs Proofs.YtfepnknpfhiemaaGreatDoor
def dp(k:Int)(t:T):aa T:=(eE t).filter λ x=>X (x.kind=k)
def ve(t:T):Bool:=(dp 1 t).isEmpty
def VG(k:Int)(t:T):dp k t=(if t.kind=k then[t]else[])++(t.kids.map (dp k)).flatten:=by
 unfold dp;grind [dp,AP,List.map_map,Function.comp_def]
theorem zQ(k:Int)(t:T):J (dp k t)<=size t:=by
 have:=Q9 (λ x:T=>X (x.kind=k)) (eE t);rw[Ay]at this;exact this
def Gv(k:Int)(t:T):∀u∈dp k t,size u<=size t:=λ u a=>qr0 t u ((kO.1 a).1)
def Nv{s:Nat}:∀{l:aa T},(∀u∈l,size u<=s)->szL l<=J l*s
 |[],_=>by simp[szL]
 |x::l,h=>by
   have:=Nv λ u a=>h u (bk _ a);grind [List.mem_cons_self,dY,List.length_cons,Nat.succ_mul]
def qqJ(x:T)(k:Int)(l:aa T)(b:J l<=1000000000:=by omega):Ev (λ m _=>Cm m x k l) ((k,l++(if x.kind=k then[x]else[]),()),()):=by
 apply aF;simp only[qeE,JZ,aA];by_cases h:x.kind=k
 .rw[af h];refine ah (aB.2 h) (ah (bD) (ao (a:=T.mk 0 [] 0 []) (by rw[dz];simp) (al ?_)));rw[pV];simp
 .rw[ae h,bJ];exact ai (ay.2 h) (aq _)
def qrc(t:T)(k:Int):size t<=1000000000->∀l:aa T,J l+size t<=1000000000->Ev (λ m _=>lJ m t k l) ((k,l++dp k t,()),()):=by
 induction t using T.ind with
 |h t v=>
   intro C l D;have w:=fL t;apply aF;simp only[qe4,Cn,aA];apply ag (qqJ t k l);simp only;obtain⟨a,b⟩:∃a,a=l++(if t.kind=k then[t]else[]):=⟨_,rfl⟩
   rw[<-b];have j:=zQ k t;rw[VG,aO]at j;have r:J a+J ((t.kids.map (dp k)).flatten)=J l+(J (if t.kind=k then[t]else[])+J ((t.kids.map (dp k)).flatten)):=by rw[b,aO];omega
   have p:∀i,((t.kids.take i).map (dp k)).flatten.length<=(t.kids.map (dp k)).flatten.length:=λ i=>by
    have:=bz (λ l=>(l.map (dp k)).flatten.length) (oF i t.kids);grind
   have g:∀i x,t.kids[i]?=Z x->J a+((t.kids.take i).map (dp k)).flatten.length+size x<=1000000000:=λ i x c=>by
    have B:((t.kids.take i).map (dp k)).flatten.length<=szL (t.kids.take i):=by
     have o:∀l:aa T,J ((l.map (dp k)).flatten)<=szL l:=by
      intro l
      induction l with
      |nil=>simp[szL]
      |cons y l u=>rw[bh,wb,aO,dY];have:=zQ k y;omega
     exact o _
    have F:=pH c;grind [szL,cM,List.length_append]
   have f:=aV (P:=λ i=>Ev (λ m d=>tq m (lJ m) d t.kids (J t.kids) i k (a++((t.kids.take i).map (dp k)).flatten)) ((k,a++(t.kids.map (dp k)).flatten,()),())) t.kids (by omega)
    (λ n=>by
     apply aw;simp only[RF,Ck];apply ai n;rw[cI];exact aq _)
    (λ i x c E n A z s=>by
     apply aw;simp only[RF,Ck,aA];have q:=aK c;have B:=fM t x q;refine ah n (ao A (ag (v x q (by omega) _ (by rw[aO];exact g i x c)) ?_));rw[z]
     have e:((t.kids.take (i+1)).map (dp k)).flatten=((t.kids.take i).map (dp k)).flatten++dp k x:=by
      rw[jZ c,iS,Q8];simp
     rw[e,<-bC]at s;exact s)
   rw[VG,<-bC,<-b];apply bd (L:=λ m d=>tq m (lJ m) d t.kids (J t.kids) 0 k a);have:=f 0 (aG _);simpa using this
def qrH{F G:T->T->ac Int}{l:aa T}(h:∀x∈l,∀y∈l,F x y=G x y):dd F l=dd G l:=by
 grind [dd]
def WB{a:Type}{F:T->T->ac a}{l:aa T}(h:∀x∈l,∀y∈l,(F x y).isSome=O):kx F l=O:=
 bB.2 λ x c=>bB.2 λ y b=>h x c y b
theorem Yq{n:Nat}{lt:Nat->Nat->Bool}(h:SWO lt):sF n lt=O:=by
 unfold sF;refine bB.2 λ i _=>?_;rw[aJ];refine⟨by rw[h.irrefl];rfl,bB.2 λ j _=>bB.2 λ k _=>?_⟩;rw[aJ];constructor
 .cases b:lt i j with
  |false=>rfl
  |true=>cases a:lt j k with
    |false=>rfl
    |true=>rw[h.trans i j k b a];rfl
 .cases b:lt i j with
  |true=>rfl
  |false=>cases a:lt j k with
    |true=>rfl
    |false=>rw[h.ntrans i j k b a];rfl
theorem qaR(l:List T):SWO (ltOf (dd (λ x y=>some (aM x y)) l)):=by
 have hlt:∀ i j,ltOf (dd (λ x y=>some (aM x y)) l) i j=true↔∃ x y,l[i % l.length]?=some x/\l[j % l.length]?=some y/\aM x y=-1 := λ i j=>by
  unfold ltOf dd;rw[df];cases hx:l[i % l.length]? with
  | none=>simp
  | some x=>cases hy:l[j % l.length]? with
    | none=>simp
    | some y =>
      simp only[Option.getD_some];have:=dA.rng x y;constructor
      ·intro h;exact⟨x,y,rfl,rfl,by omega⟩
      ·rintro⟨_,_,h1,h2,h3⟩;cases h1;cases h2;omega
 refine⟨λ i=>?_,λ i j k h1 h2=>?_,λ i j k h1 h2=>?_⟩
 ·rw[ta];grind [pT]
 ·obtain⟨x,y,a1,a2,a3⟩:=(hlt _ _).1 h1;obtain⟨y',z,b1,b2,b3⟩:=(hlt _ _).1 h2;rw[a2]at b1;cases b1;exact(hlt _ _).2 ⟨x,z,a1,b2,dA.trans x y z a3 b3⟩
 ·rw[ta]at h1 h2 |-
  intro h;obtain⟨x,z,a1,a2,a3⟩:=(hlt _ _).1 h;have hn:0<l.length:=by have:=getElem?_lt a1;omega
  obtain⟨y,hj⟩:∃ y,l[j % l.length]?=some y:=⟨_,aU (sR _ hn)⟩
  have n1:aM x y≠-1 := λ he=>h1 ((hlt _ _).2 ⟨x,_,a1,hj,he⟩);have n2:aM y z≠-1 := λ he=>h2 ((hlt _ _).2 ⟨_,z,hj,a2,he⟩);have r1:=dA.rng x y;have r2:=dA.rng y z;rcases r1 with r1 | r1 | r1
  ·exact n1 r1
  ·grind [lg]
  ·rcases r2 with r2 | r2 | r2
   ·exact n2 r2
   ·grind [lg]
   ·have e1:aM y x=-1:=by rw[dA.anti];omega
    have e2:aM z y=-1:=by rw[dA.anti];omega
    have e3:=dA.trans _ _ _ e2 e1;have e4:=dA.anti x z;omega
def M3{k:Type}{F:Nat->T->T->ac k}{g:T->T->k}(l:aa T)(h:∀x∈l,∀y∈l,Ev (λ m _=>F m x y) (g x y)):∃B,∀m,B<=m->∀x∈l,∀y∈l,F m x y=Z (g x y):=by
 have d:∀(x:T),(∀y∈l,Ev (λ m _=>F m x y) (g x y))->∀r:aa T,(∀y∈r,y∈l)->∃B,∀m,B<=m->∀y∈r,F m x y=Z (g x y):=by
  intro x n r
  induction r with
  |nil=>exact λ _=>⟨0,λ _ _ y f=>by cases f⟩
  |cons y r e=>
    intro b;let⟨B,j⟩:=e λ z a=>b z (bk _ a);let⟨D,i⟩:=n y (b y (bj ..));refine⟨max B D,λ m o z a=>?_⟩;obtain rfl|a:=be.1 a
    .exact i m D (by omega) (au _)
    .exact j m (by omega) z a
 have c:∀r:aa T,(∀y∈r,y∈l)->∃B,∀m,B<=m->∀x∈r,∀y∈l,F m x y=Z (g x y):=by
  intro r
  induction r with
  |nil=>exact λ _=>⟨0,λ _ _ y f=>by cases f⟩
  |cons x r e=>
    intro b;let⟨B,j⟩:=e λ z a=>b z (bk _ a);let⟨D,i⟩:=d x (h x (b x (bj ..))) l λ _ h=>h;refine⟨max B D,λ m o z a=>?_⟩;obtain rfl|a:=be.1 a
    .exact i m (by omega)
    .exact j m (by omega) z a
 exact c l λ _ h=>h
def qqm{α:Type}{l:aa α}{b:aa Nat}:∀x∈pick l b,x∈l:=λ x a=>by
 unfold pick at a;let⟨i,_,h⟩:=nH.1 a;exact aK h
theorem Yl(l:aa T)(t:T):dg l t≠[]:=by
 cases l with
 |nil=>simp[dg]
 |cons x l=>
   grind [dg]
def ZU(l:aa T)(o:szL l<=1000000000):Ev (λ m _=>Ak m l) (l.foldl dg []):=by
 have g:=gL l;apply aF;simp only[qmN,E4]
 have n:∀(l a:aa T),szL (l.foldl dg a)<=szL a+szL l:=by
  intro l
  induction l with
  |nil=>intro a;simp[szL]
  |cons x l f=>intro a;rw[jv,dY];have:=f (dg a x);have:=NE x a;omega
 have b:=aV (P:=λ i=>Ev (λ m k=>uz m k l ((l.take i).foldl dg []) i) (l.foldl dg [])) l (by omega)
  (λ c=>by
   apply aw;simp only[TM,Fj];apply ai c;rw[cI];exact aq _)
  (λ i x d p c j h e=>by
   apply aw;simp only[TM,Fj,aA];have r:=n (l.take i) [];have q:=pH d;have s:szL ([]:aa T)=0:=rfl;refine ah c (ao j (ag (qat _ x) ?_));rw[h,Nm];rw[jZ d,BN]at e;exact e)
 exact bd (L:=λ m k=>uz m k l [] 0) (b 0 (aG _))
theorem qoj(l:aa T):l.foldl dg []=[]↔l=[]:=by
 constructor
 .intro h;cases d:l with
  |nil=>rfl
  |cons x r=>
    exfalso
    have c:∀(r a:aa T),a≠[]->r.foldl dg a≠[]:=by
     intro r
     induction r with
     |nil=>intro a h;exact h
     |cons y r b=>intro a _;exact b _ (Yl _ _)
    grind [Yl]
 .intro h;rw[h];rfl
def WJ(t:T)(k:Int)(g:size t<=10000):Ev (λ m _=>Gg m t k) ((dp k t).foldl dg []):=by
 apply aF;simp only[qk7,Ez,aA];apply ag (Ns t (by omega));have h:=Ay t
 have a:szL (dp k t)<=1000000000:=by
  have s:=Nv (Gv k t);have r:J (dp k t)*size t<=10000*10000:=Q0 (bT (zQ k t) g) g;omega
 have d:=aV (P:=λ i=>Ev (λ m c=>ui m c k (eE t) i (((eE t).take i).filter λ x=>X (x.kind=k))) ((dp k t).foldl dg [])) (eE t) (by omega)
  (λ e=>by
   apply aw;simp only[Tl,Ep];apply ai e;rw[cI];exact ag (ZU (dp k t) a) (aq _))
  (λ i x n o e l j f=>by
   apply aw;simp only[Tl,Ep,aA];have q:=Q9 (λ x:T=>X (x.kind=k)) ((eE t).take i);have p:=List.length_take_le' i (eE t);rw[jZ n,List.filter_append]at f;refine ah e (ao l ?_);by_cases b:x.kind=k
   .refine ah (aB.2 b) (ao l (ah (bD) ?_));rw[j];simpa[b]using f
   .apply ai (ay.2 b);rw[j];simpa[b]using f)
 exact bd (L:=λ m c=>ui m c k (eE t) 0 []) (d 0 (aG _))
def qn9(t:T)(b:size t<=10000:=by omega):Ev (λ m _=>Fc m t) (ve t):=by
 have a:Ev (λ m _=>oL m t) ((dp 1 t).foldl dg []):=by
  apply aF;simp only[TT,EB,aA];exact ag (WJ t 1 b) (aq _)
 apply aF;simp only[qiZ,KF,aA];refine ag a (al ?_);grind [ve,qoj,List.length_pos_iff,ay]
def IR(l:aa T):Prop:=l.Pairwise λ a b=>aM b a≠-1
def Y7{R:T->T->Prop}{l:aa T}{a:aa Nat}(h:a.Pairwise λ i j=>∀x,l[i]?=Z x->∀y,l[j]?=Z y->R x y):(pick l a).Pairwise R:=by
 grind [pick]
def Vi:∀l:aa T,(List.range (J l)).filterMap (λ i=>l[i]?)=l
 |[]=>rfl
 |x::l=>by
   rw[bH,qdb,BL,List.filterMap_map];have:=Vi l;simpa[BH]using this
theorem XO(l:List T)(hl:l.length<=100000)(hs:∀ t∈l,size t<=1000000000):∃ l',Ev (λ m _=>tk m l) l'/\l'.Perm l/\IR l':=by
 cases hl0:l with
 | nil=>exact⟨[],aF (Rg (aq _) λ m _=>rfl),.refl _,List.Pairwise.nil⟩
 | cons x0 r0 =>
   rw[<- hl0];obtain⟨B,hB⟩:=M3 (F := λ m x y=>cZ m x y) l λ x hx y hy=>nN x (hs x hx) y (hs y hy);have hne:l≠[]:=by rw[hl0];exact Q3 _ _
   have hO:=qaR l;obtain⟨hp,hq⟩:=LD (λ x y=>some (aM x y)) l hO;have hlt:∀ i∈eJ (λ x y=>some (aM x y)) l,i<l.length := λ i hi=>jT.1 (hp.mem_iff.1 hi);refine⟨pick l (eJ (λ x y=>some (aM x y)) l),aF ⟨B,λ m k hm _=>?_⟩,?_,Y7 ?_⟩
   ·show tk (m+1) l=_;rw[qdT];have hcf:dd (cZ m) l=dd (λ x y=>some (aM x y)) l:=qrH (hB m hm);have hall:kx (cZ m) l=true:=WB λ x hx y hy=>by rw[hB m hm x hx y hy];rfl
    have hix:eJ (cZ m) l=eJ (λ x y=>some (aM x y)) l:=by unfold eJ;rw[hcf]
    have e:pd (cZ m) l=cond (Nat.ble l.length 100000&&(kx (cZ m) l&&sF l.length (ltOf (dd (cZ m) l)))) (some (pick l (eJ (cZ m) l))) none:=by rw[hl0];rfl
    grind [Yq,Nat.ble_eq_true_of_le]
   ·have:=hp.filterMap λ i=>l[i]?;rw[Vi]at this;exact this
   ·generalize eJ (λ x y=>some (aM x y)) l=ix at hp hq hlt |-
    have hn:ix.length=l.length:=by rw[hp.length_eq,wm]
    rw[BO];intro i j hi hj hij x hx y hy hc;have:=hq i j (aG _) hij (by omega);rw[pE ix.toArray i (by simpa using hi),pE ix.toArray j (by simpa using hj)]at this;have h1:=hlt _ (gC hi);have h2:=hlt _ (gC hj);unfold ltOf dd at this;grind [decide_eq_false_iff_not,Nat.mod_eq_of_lt]
def qms(l:aa T)(P:J l<=100000)(A:∀t∈l,size t<=1000000000)(L:IR l):∃l',Ev (λ m _=>wA m l) ((),l',())/\Asc l'/\J l'<=J l/\∀x,x∈l'↔x∈l:=by
 cases f:l with
 |nil=>exact⟨[],aF (Rg (aq _) λ m _=>rfl),List.Pairwise.nil,au _,λ x=>Iff.rfl⟩
 |cons M N=>
   rw[<-f]
   let⟨B,E⟩:=M3 (F:=λ m x y=>nM m x y) (g:=λ x y=>ieq (aM x y) 0) l λ x a y b=>by
    apply aF;simp only[qg0,Kk,aA];exact ag (nN x (A x a) y (A y b)) (aq _)
   have v:l≠[]:=by rw[f];exact Q3 _ _
   have h:0<J l:=yK.2 v;obtain⟨d,p⟩:∃d,d=ng (λ x y=>Z (ieq (aM x y) 0)) l:=⟨_,rfl⟩
   have w:∀i∈da d (J l),i<J l:=VK
   have n:J (da d (J l))<=J l:=by
    have:=Q9 (λ i=>X (i=0) || !d i (i-1)) (List.range (J l));rw[wm]at this;exact this
   have c:∀i x y,l[i]?=Z x->l[i-1]?=Z y->d i (i-1)=ieq (aM x y) 0:=λ i x y a b=>by
    have s:=getElem?_lt a;have Q:=getElem?_lt b;rw[p];grind [ng,Nat.mod_eq_of_lt]
   have H:∀i j x y,i<j->l[i]?=Z x->l[j]?=Z y->aM y x≠-1:=λ i j x y o a b=>by
    have s:=BO.1 L i j (getElem?_lt a) (getElem?_lt b) o;grind
   refine⟨pick l (da d (J l)),aF ⟨B,λ m k C _=>?_⟩,Y7 ?_,by rw[Xg w];exact n,λ x=>⟨qqm x,λ a=>?_⟩⟩
   .show wA (m+1) l=_;rw[qdC]
    have K:ng (nM m) l=d:=by
     rw[p];funext i j;unfold ng;cases a:l[i%J l]? with
     |none=>rfl
     |some x=>cases b:l[j%J l]? with
       |none=>rfl
       |some y=>simp only;rw[E m C x (aK a) y (aK b)]
    have D:kx (nM m) l=O:=WB λ x a y b=>by rw[E m C x a y b];rfl
    have e:IT (nM m) l=cond (Nat.ble (J l) 100000&&kx (nM m) l) (Z (pick l (da (ng (nM m) l) (J l)))) U:=by rw[f];rfl
    grind [A7,Nat.ble_eq_true_of_le]
   .unfold da;rw[List.pairwise_filter];refine List.pairwise_lt_range.imp λ{i j} o _ I x a y b=>?_;have s:=getElem?_lt b;obtain⟨z,q⟩:∃z,l[j-1]?=Z z:=⟨_,aU (by omega)⟩
    rw[c j y z b q,bo (show ¬ j=0 by omega),mK,ew,ay]at I;grind [GU,pT,lX]
   .let⟨i,r⟩:=mI a;clear a
    induction i with
    |zero=>exact nH.2 ⟨0,kO.2 ⟨jT.2 h,by simp⟩,r⟩
    |succ i G=>
      have s:=getElem?_lt r;obtain⟨z,q⟩:∃z,l[i]?=Z z:=⟨_,aU (by omega)⟩
      by_cases u:z=x
      .subst u;exact G q
      .refine nH.2 ⟨i+1,kO.2 ⟨jT.2 s,?_⟩,r⟩;rw[c (i+1) x z r q,gg,ew,ay];grind [lg]
def Ac:∀(l a:aa T),Asc a->Asc (l.foldl dg a)/\∀x,x∈l.foldl dg a↔x∈a\/x∈l
 |[],a,h=>⟨h,λ x=>by simp⟩
 |y::l,a,h=>by
   let⟨c,b⟩:=Ac l (dg a y) (Nn y a h);refine⟨c,λ x=>?_⟩;rw[jv,b,Hc,be,BM]
def bQ(t:T):aa T:=(dp 1 t).foldl dg []
def AA(t x:T):x∈bQ t↔x∈dp 1 t:=by
 unfold bQ;rw[(Ac _ [] List.Pairwise.nil).2];simp
def Ya(t:T):∀l:aa T,J (dg l t)<=J l+1
 |[]=>au _
 |x::l=>by
   have:=Ya t l;grind [dg]
def G4(t:T):J (bQ t)<=size t:=by
 have b:∀(l a:aa T),J (l.foldl dg a)<=J a+J l:=by
  intro l
  induction l with
  |nil=>intro a;simp
  |cons y l c=>intro a;rw[jv,bH];have:=c (dg a y);have:=Ya y a;omega
 have d:J (bQ t)<=J ([]:aa T)+J (dp 1 t):=b (dp 1 t) [];grind [zQ,List.length_nil]
def Hq(t:T)(E:size t<=100000:=by omega):Ev (λ m _=>pR m t) (bQ t):=by
 have p:∀u∈dp 1 t,size u<=1000000000:=λ u w=>by have:=Gv 1 t u w;omega
 have F:=zQ 1 t;let⟨n,e1,d,B⟩:=XO (dp 1 t) (by omega) p;have s:=d.length_eq;have l:∀x∈n,size x<=1000000000:=λ x c=>p x (d.mem_iff.1 c);let⟨b,A,C,D,h⟩:=qms n (by omega) l B
 have v:b=bQ t:=AK _ _ C (Ac _ [] List.Pairwise.nil).1 λ x=>by
  rw[h,d.mem_iff,<-AA]
 apply aF;simp only[qml,Lx,aA];refine ag (a:=bQ t) (aF ?_) (aq _);simp only[qjT,KS,aA];have o:=qrc t 1 (by omega) [] (by rw[fE];omega);rw[iR]at o;rw[<-v];refine ag o (ag (a:=((),b,())) (aF ?_) (al rfl));simp only[qiJ,DI];refine ag e1 (ah (by simp[s]) (ag A ?_))
 have f:=aV (P:=λ i=>Ev (λ m k=>tP m k (J b) i b) ((),b,())) b (by omega)
  (λ g=>by
   apply aw;simp only[SU,DK];exact ai g (aq _))
  (λ i x c G g r y z=>by
   apply aw;simp only[SU,DK,aA];refine ah g (ao r (ag (Nk x (l x ((h x).1 (aK c)))) (ao r ?_)));rw[y]
   have e:dK b (i:Int) x=b:=by
    rw[pV];apply qK;intro j;by_cases q:i=j
    .subst q;rw[gD (getElem?_lt c)];exact c.symm
    .rw[kQ q]
   rw[e];exact z)
 exact bd (L:=λ m k=>tP m k (J b) 0 b) (f 0 (aG _))
def G8(t:T)(a:size t<=10000:=by omega):Ev (λ m _=>oL m t) (bQ t):=by
 apply aF;simp only[TT,EB,aA];exact ag (WJ t 1 a) (aq _)
end
abbrev KM:=aa ((aa aN×Int)×T)
abbrev eqK:aa aN×Int->aa aN×Int->Bool:=veq (.pair .str (.int .i64))
def qtg{a b:aa aN×Int}:eqK a b=O↔a=b:=by
 show(bc a.1 b.1&&ieq a.2 b.2)=O↔_;rw[aJ,cr,aB,Prod.ext_iff]
def VP{K W:Type}[DecidableEq K]{e:K->K->Bool}(d:∀{a b},e a b=O↔a=b)(v:W)(c k:K):∀s:aa (K×W),kH e (mA e s k v) c=if c=k then Z v else kH e s c
 |[]=>by
   show cond (e c k) (Z v) U=_;by_cases h:c=k
   .rw[d.2 h,af h];rfl
   .rw[ta.2 λ g=>h (d.1 g),ae h];rfl
 |p::s=>by
   show kH e (cond (e k p.1) ((p.1,v)::s) (p::mA e s k v)) c=if c=k then Z v else cond (e c p.1) (Z p.2) (kH e s c);have i:=VP d v c k s;by_cases f:k=p.1
   .rw[d.2 f];show cond (e c p.1) (Z v) (kH e s c)=_;grind
   .rw[ta.2 λ g=>f (d.1 g)];show cond (e c p.1) (Z p.2) (kH e (mA e s k v) c)=_;grind
def qqq(v:T)(a k:aa aN×Int)(s:KM):kH eqK (mA eqK s k v) a=if a=k then Z v else kH eqK s a:=VP qtg v a k s
def O7(p t:T):Bool:=X (p.sort=0\/(t.kind≠3/\t.sort=p.sort))
def vK(p t:T):Bool:=X (bw p=0/\bw t=0/\p.kind=1)&&O7 p t
def qqW(p t:T)(g:size p<=1000000000:=by omega)(f:size t<=1000000000:=by omega):Ev (λ m _=>zM m p t) (vK p t):=by
 apply aF;simp only[qlh,K9,aA];unfold vK O7;apply ag (lW p g);by_cases d:bw p=0
 case neg=>exact ah (bnt.2 (ay.2 d)) (al (by simp[d]))
 refine ai (bnf.2 (aB.2 d)) (ag (lW t f) ?_);by_cases c:bw t=0
 case neg=>exact ah (bnt.2 (ay.2 c)) (al (by simp[c]))
 apply ai (bnf.2 (aB.2 c));by_cases b:p.kind=1
 case neg=>exact ah (bnt.2 (ay.2 b)) (al (by simp[b]))
 apply ai (bnf.2 (aB.2 b));by_cases a:p.sort=0
 .exact ah (aB.2 a) (al (by simp[d,c,b,a]))
 apply ai (ay.2 a);by_cases e:t.kind=3
 .exact ai (bnf.2 (aB.2 e)) (al (by simp[a,e]))
 .refine ah (bnt.2 (ay.2 e)) (al ?_);grind [aB,ay]
def SmK(n:Nat)(s:KM):Prop:=∀k v,kH eqK s k=Z v->size v<=n
def SmK.put{n:Nat}{s:KM}(h:SmK n s){t:T}(b:size t<=n)(k:aa aN×Int):SmK n (mA eqK s k t):=λ c v a=>by
 rw[qqq]at a;split at a
 .cases a;exact b
 .exact h _ _ a
def qtf{x y:Int}(h:thn x y=0):x=0/\y=0:=by
 unfold thn at h;by_cases a:x=0
 .rw[af a]at h;exact⟨a,h⟩
 .rw[ae a]at h;exact absurd h a
def Uo:∀(l:aa Int) (x:Int),l.foldl thn x=0->x=0/\∀y∈l,y=0
 |[],x,h=>⟨h,by simp⟩
 |y::l,x,h=>by
   let⟨f,d⟩:=Uo l (thn x y) h;let⟨c,b⟩:=qtf f;exact⟨c,λ z a=>(be.1 a).elim (λ e=>e▸b) (d z)⟩
def qrg{t:T}(h:bw t=0):iY t=0/\size t<=400/\jf t<=40:=by
 unfold bw at h;by_cases a:iY t=0
 .rw[ae (λ g=>g a)]at h;by_cases b:400<size t\/40<jf t
  .rw[af b]at h;cases h
  .exact⟨a,by omega,by omega⟩
 .rw[af a]at h;exact absurd h a
def qnN{t:T}(h:bw t=0):((t.kind=1\/t.kind=2)/\t.kids=[])\/t.kind=3:=by
 have d:=(qrg h).1;rw[xn]at d;have a:=(Uo _ _ d).1;unfold eM oj at a;by_cases c:t.kind=1\/t.kind=2
 .rw[af c]at a;by_cases b:t.sort<0\/5<t.sort\/0<J t.kids
  .rw[af b]at a;cases a
  .exact .inl ⟨c,cT (by omega)⟩
 .rw[ae c]at a;by_cases b:t.kind=3
  .exact .inr b
  .rw[ae b]at a;cases a
def lkA(l:aa (T×T))(x:T):ac T:=(l.find? λ a=>cc a.1 x).map Prod.snd
def WN(a:T×T)(l:aa (T×T))(x:T):lkA (a::l) x=if a.1=x then Z a.2 else lkA l x:=by
 unfold lkA;rw[qc9];by_cases h:a.1=x
 .rw[gI.2 h,af h];rfl
 .rw[show cc a.1 x=Y from ta.2 λ g=>h (gI.1 g),ae h]
def qro(n:aa aN):Ev (λ m _=>DF m n) (qE n):=by
 apply aF;simp only[qf6,Kc];have a:qE n=O->Ev (λ _ _=>Z O) (qE n):=λ h=>al h.symm;refine ak (λ h=>a (od (cr.1 h) (by decide))) λ f=>?_;refine ak (λ h=>a (od (cr.1 h) (by decide))) λ e=>?_;refine ak (λ h=>a (od (cr.1 h) (by decide))) λ d=>?_;refine ak (λ h=>a (od (cr.1 h) (by decide))) λ c=>?_;refine ak (λ h=>a (od (cr.1 h) (by decide))) λ b=>?_;apply al;rw[qad (cC.1 f) (cC.1 e) (cC.1 d) (cC.1 c) (cC.1 b)];rfl
def qqi(n:aa aN):Ev (λ m _=>EE m n) (pFr n):=by
 apply aF;simp only[qid,Ks];have a:qE n=O->Ev (λ _ _=>Z Y) (pFr n):=λ h=>al (by unfold pFr;rw[h];rfl);refine ak (λ h=>a (od (cr.1 h) (by decide))) λ g=>?_;refine ak (λ h=>a (od (cr.1 h) (by decide))) λ f=>?_;refine ak (λ h=>a (od (cr.1 h) (by decide))) λ e=>?_;refine ak (λ h=>a (od (cr.1 h) (by decide))) λ d=>?_;refine ak (λ h=>a (od (cr.1 h) (by decide))) λ c=>?_;refine ak (λ h=>a (od (cr.1 h) (by decide))) λ b=>?_;refine ag (MA n) (al ?_);unfold pFr pPl;rw[qad (cC.1 g) (cC.1 f) (cC.1 e) (cC.1 d) (cC.1 c),show(n==kI)=Y from gH.2 (cC.1 b),<-G2];rfl
def qoT(t:T):size t<=1000000000->Ev (λ m _=>kV m t) (mV pFr t):=by
 induction t using T.ind with
 |h t j=>
   intro r;have s:=fL t;apply aF;simp only[qeJ,Cc]
   have d:=aV (P:=λ i=>Ev (λ m k=>qR m (kV m) k t.kids (J t.kids) i) (((t.kids.drop i).map (mV pFr)).all id)) t.kids (by omega)
    (λ f=>by
     apply aw;simp only[Rr,Cb];refine ai f (al ?_);rw[bO];rfl)
    (λ i x l p f o n q=>by
     apply aw;simp only[Rr,Cb,aA];have g:=aK l;have u:=fM t x g;rw[p,bh,dt];refine ah f (ao o (ag (j x g (by omega)) (ak (λ b=>?_) λ b=>?_)))
     .rw[bnt]at b;rw[b];exact aq _
     .rw[bnf]at b;rw[b,n];exact q)
   have a:Ev (λ m _=>qR m (kV m) m t.kids (J t.kids) 0) ((t.kids.map (mV pFr)).all id):=
    bd (L:=λ m k=>qR m (kV m) k t.kids (J t.kids) 0) ((d 0 (aG _)).res (by rw[bF]))
   rw[Me];refine ak (λ c=>?_) λ c=>?_
   .rw[aB]at c;have e:(!(t.kind==3))=Y:=by rw[c];rfl
    rw[e,mK];refine ag (qqi t.name) (ak (λ h=>?_) λ h=>?_)
    .rw[bnt]at h;rw[h];exact aq _
    .rw[bnf]at h;rw[h];exact a
   .rw[ay]at c;have e:(!(t.kind==3))=O:=by rw[ew,gH];exact c
    rw[e,nI];exact a
def qpN(t:T)(a:size t<=1000000000):Ev (λ m _=>FP m t) (Bh t):=by
 apply aF;simp only[qjP,K8,aA];unfold Bh;refine ag (YC t a) (ak (λ h=>?_) λ h=>?_)
 .rw[aB]at h;rw[bf h,bU];exact ag (qoT t a) (aq _)
 .rw[ay]at h;rw[bo h,kP];exact aq _
def qpX(t:T)(n:size t<=1000000000):Ev (λ m _=>Gi m t) (Bh t):=by
 apply aF;simp only[qlM,Es,aA];unfold Bh;refine ag (YY t n) (ak (λ h=>?_) λ h=>?_)
 .rw[bnt,ay]at h;rw[bo h,kP];exact aq _
 rw[bnf,aB]at h;rw[bf h,bU,<-Vj];apply ag (Ns t n);have p:=Ay t;generalize eE t=l at*
 have c:=aV (P:=λ i=>Ev (λ m k=>um m k l i) ((l.drop i).all λ u => !(u.kind==3)||pFr u.name)) l (by omega)
  (λ f=>by
   apply aw;simp only[Tx,EN];refine ai f (al ?_);rw[bO];rfl)
  (λ i x r q f e o j=>by
   apply aw;simp only[Tx,EN];rw[q,dt];refine ah f (ao e (ak (λ b=>?_) λ b=>?_))
   .rw[aB]at b;have d:(!(x.kind==3))=Y:=by rw[b];rfl
    rw[d,mK];unfold pFr at j |-
    refine ao e (ag (qro x.name) (ak (λ g=>?_) λ g=>?_))
    .rw[g];exact aq _
    rw[g];refine ao e (ag (Ia x.name) (ak (λ a=>?_) λ a=>?_))
    .unfold pPl;rw[a];exact aq _
    .rw[o];apply j.res;have:pPl x.name=O:=by unfold pPl;rw[a];rfl
     rw[this];rfl
   .rw[ay]at b;have d:(!(x.kind==3))=O:=by rw[ew,gH];exact b
    rw[d,nI,o,bU];exact j)
 apply bd (L:=λ m k=>um m k l 0);exact(c 0 (aG _)).res (by rw[bF])
abbrev iN:=Int×(T×(T×(Int×aa T)))
abbrev gz:=T×aa iN
abbrev de:=Int×(aa T×(aa T×aa gz))
def qsn(l:aa T)(t:T):(l.any λ x=>cc x t)=X (t∈l):=by
 rw[gG,Jv,df];exact⟨λ⟨x,b,a⟩=>gI.1 a▸b,λ h=>⟨t,h,gI.2 rfl⟩⟩
def NJ(l:aa T)(t:T)(a:szL l+size t<=1000000000:=by omega):Ev (λ m _=>ru m l t) (X (t∈l)):=(qay l t a).res (qsn l t)
def MT(a b:T)(d:size a<=1000000000:=by omega)(c:size b<=1000000000:=by omega):Ev (λ m _=>wS m a b) (cc a b):=by
 apply aF;simp only[qjz,KE,aA];exact ag (nN a d b c) (al (NZ a b))
def IC(p:Prop)(h:¬ p):(0:Int)<=-1↔p:=⟨λ e=>absurd e (by decide),λ e=>absurd e h⟩
def AN(l:aa T)(t:T)(v:szL l+size t<=1000000000:=by omega):Ev (λ m _=>uB m l t) (X (t∈l)):=by
 have w:=gL l
 have f:=aV (P:=λ i=>∃c:Int,Ev (λ m k=>th m k l (J l) i t.kind t.name t.sort t.kids) ((t,()),(c,()))/\(0<=c↔t∈l.drop i)) l (by omega)
  (λ d=>⟨-1,aw (by
   simp only[JL,yS,show T.mk t.kind t.name t.sort t.kids=t from aA t];exact ai d (aq _)),IC _ (by rw[bO];exact sX)⟩)
  (λ i x r o d n s ⟨c,u,g⟩=>by
   have q:=mS (aK r)
   have j:Ev (λ m _=>Cz m x t) ((t,()),(cc x t,())):=by
    apply aF;simp only[qeW,J7,aA];exact ag (MT x t) (aq _)
   cases b:cc x t with
   |true=>
     refine⟨i,aw ?_,⟨λ _=>by rw[o,gI.1 b];exact bj ..,λ _=>by omega⟩⟩;simp only[JL,yS,aA,show T.mk t.kind t.name t.sort t.kids=t from aA t];exact ah d (ao n (ag j (ah b (aq _))))
   |false=>
     refine⟨c,aw ?_,?_⟩
     .simp only[JL,yS,aA,show T.mk t.kind t.name t.sort t.kids=t from aA t];refine ah d (ao n (ag j (ai b ?_)));rw[s];exact u
     .rw[g,o,be];refine⟨.inr,λ h=>h.elim (λ e=>?_) id⟩;rw[e,gI.2 rfl]at b;cases b)
 let⟨c,q,p⟩:=f 0 (aG _);rw[bF]at p;apply aF;simp only[qkO,KU,aA];refine ag (a:=((t,()),(X (t∈l),()))) (aF ?_) (aq _);simp only[qdu,JH,aA];refine ag (a:=((t,()),(c,()))) (aF ?_) (al ?_)
 .simp only[qdK,BZ];exact bd (L:=λ m k=>th m k l (J l) 0 t.kind t.name t.sort t.kids) q
 .have:ile 0 c=X (t∈l):=by rw[gG,fU,p,df]
  rw[this]
def usB(t:T):Bool:=Bh t&&(X (size t<=60) && !(bQ t).any λ x=>X (x.sort=5))
def qh{t:T}(h:usB t=O):size t<=60:=by
 unfold usB at h;simp only[aJ,cR]at h;exact h.2.1
def qoR(l:aa T)(o:J l<2^62:=by omega):Ev (λ m _=>B2 m l) ((),((l.any λ x=>X (x.sort=5)),())):=by
 have e:=aV (P:=λ i=>∃c:Int,Ev (λ m k=>ti m k l (J l) i) ((),(c,()))/\(0<=c↔((l.drop i).any λ x=>X (x.sort=5))=O)) l o
  (λ d=>⟨-1,aw (by
   simp only[JO,yT];exact ai d (aq _)),IC _ (by rw[bO];exact we)⟩)
  (λ i x s j d h p ⟨c,q,f⟩=>by
   have g:Ev (λ m _=>Kt m x) (ieq x.sort 5):=aF (aq _);cases b:ieq x.sort 5 with
   |true=>
     refine⟨i,aw ?_,⟨λ _=>by rw[j,wo,bf (aB.1 b)];rfl,λ _=>by omega⟩⟩;simp only[JO,yT,aA];exact ah d (ao h (ag g (ah b (aq _))))
   |false=>
     refine⟨c,aw ?_,?_⟩
     .simp only[JO,yT,aA];refine ah d (ao h (ag g (ai b ?_)));rw[p];exact q
     .rw[f,j,wo,bo (ay.1 b),mK])
 let⟨c,r,n⟩:=e 0 (aG _);rw[bF]at n;apply aF;simp only[qdA,JJ];refine ag (a:=((),(c,()))) (aF ?_) (al ?_)
 .simp only[qdQ,B1];exact bd (L:=λ m k=>ti m k l (J l) 0) r
 .have:ile 0 c=(l.any λ x=>X (x.sort=5)):=by rw[gG,fU,n]
  rw[this]
def mP(t:T)(b:size t<=1000000000):Ev (λ m _=>tU m t) (usB t):=by
 apply aF;simp only[qgz,Kn,aA];unfold usB;refine ag (qpN t b) (ak (λ h=>?_) λ h=>al (by rw[h];rfl));rw[h,bU];refine ag (ML t b) (ak (λ a=>?_) λ a=>al ?_)
 .rw[fU]at a;rw[bf (by omega),bU];have c:=G4 t;exact ag (Hq t) (ag (qoR _) (al (by cases((bQ t).any λ x=>X (x.sort=5))<;>rfl)))
 .rw[jI]at a;rw[bo (by omega)];rfl
def qaj(l:aa T)(r:J l<2^62)(q:∀t∈l,size t<=1000000000):Ev (λ m _=>yU m l) ((),(!l.all usB,())):=by
 have e:=aV (P:=λ i=>∃c:Int,Ev (λ m k=>tj m k l (J l) i) ((),(c,()))/\(0<=c↔(l.drop i).all usB=Y)) l r
  (λ d=>⟨-1,aw (by
   simp only[JN,yV];exact ai d (aq _)),IC _ (by rw[bO];exact λ h=>by cases h)⟩)
  (λ i x p n d j s ⟨c,u,f⟩=>by
   have g:Ev (λ m _=>Cj m x) (am (usB x)):=by
    apply aF;simp only[qel,JY,aA];exact ag (mP x (q x (aK p))) (aq _)
   cases b:usB x with
   |false=>
     refine⟨i,aw ?_,⟨λ _=>by rw[n,dt,b];rfl,λ _=>by omega⟩⟩;simp only[JN,yV,aA];exact ah d (ao j (ag g (ah (by rw[b];rfl) (aq _))))
   |true=>
     refine⟨c,aw ?_,?_⟩
     .simp only[JN,yV,aA];refine ah d (ao j (ag g (ai (by rw[b];rfl) ?_)));rw[s];exact u
     .rw[f,n,dt,b,bU])
 let⟨c,v,o⟩:=e 0 (aG _);rw[bF]at o;apply aF;simp only[qdz,JI];refine ag (a:=((),(c,()))) (aF ?_) (al ?_)
 .simp only[qdP,B0];exact bd (L:=λ m k=>tj m k l (J l) 0) v
 .have:ile 0 c = !l.all usB:=by rw[gG,fU,o,ew]
  rw[this]
def lw(l vs:aa T):aa T:=vs.foldl (λ l x=>if x∈l then l else l++[x]) l
def HA:∀(vs l:aa T) (x:T),x∈lw l vs↔x∈l\/x∈vs
 |[],l,x=>by simp[lw]
 |v::vs,l,x=>by
   show x∈lw (if v∈l then l else l++[v]) vs↔_;rw[HA vs,be];split
   .next h=>exact⟨λ g=>g.imp_right .inr,λ g=>g.elim .inl λ g=>g.elim (λ e=>.inl (e▸h)) .inr⟩
   .rw[aR,dN,BM]
def NQ:∀(vs l:aa T),l.Nodup->(lw l vs).Nodup
 |[],l,h=>h
 |v::vs,l,h=>by
   apply NQ vs _;show(if v∈l then l else l++[v]).Nodup;split
   .exact h
   .next c=>rw[Rd];exact⟨h,by simp,λ a f b d=>by rw[dN.1 d];exact λ e=>c (e▸f)⟩
def Hw:∀(vs l:aa T),J (lw l vs)<=J l+J vs
 |[],l=>au _
 |v::vs,l=>by
   have:=Hw vs (if v∈l then l else l++[v]);show(lw (if v∈l then l else l++[v]) vs).length<=_;rw[bH];split at this
   .rw[af (by assumption)];omega
   .rw[ae (by assumption)];simp only[aO,lH]at this;omega
def SmL(n:Nat)(l:aa T):Prop:=J l<=n/\∀t∈l,size t<=1000
def SmL.mono{n a:Nat}{l:aa T}(h:SmL n l)(b:n<=a):SmL a l:=⟨bT h.1 b,h.2⟩
def SmL.sz{n:Nat}{l:aa T}(h:SmL n l):szL l<=n*1000:=bT (Nv h.2) (bY _ h.1)
def vb{t:T}(h:usB t=O):SmL 60 (bQ t):=
 ⟨by have:=G4 t;have:=qh h;omega,λ x a=>by have:=Gv 1 t x ((AA t x).1 a);have:=qh h;omega⟩
def SmL.add{n:Nat}{l vs:aa T}(h:SmL n l)(g:SmL 60 vs):SmL (n+60) (lw l vs):=
 ⟨by have:=Hw vs l;have:=h.1;have:=g.1;omega,λ t a=>((HA vs l t).1 a).elim (h.2 t) (g.2 t)⟩
def ZG(l:aa T)(t:T)(b:usB t=O)(q:SmL 100000 l):Ev (λ m _=>zd m l t) ((lw l (bQ t),()),()):=by
 have f:=vb b;have y:=qh b
 have d:=aV (P:=λ i=>∀l:aa T,SmL (100000+i) l->Ev (λ m k=>tp m k (bQ t) (J (bQ t)) i l) ((lw l ((bQ t).drop i),()),())) (bQ t) (by have:=f.1;omega)
  (λ g l _=>aw (by
   simp only[RD,Ch];refine ai g (al ?_);rw[bO];rfl))
  (λ i x j w g v n o l c=>aw (by
   have u:=getElem?_lt j;have p:=f.1;have e:=f.2 x (aK j);have r:=c.sz;have s:=c.1;simp only[RD,Ch,aA];refine ah g (ao v (ag (AN l x) ?_));rw[w];show Ev _ ((lw (if x∈l then l else l++[x]) _,()),());by_cases h:x∈l
   .rw[af h,n];exact ai (bnf.2 (bf h)) (o l ⟨by omega,c.2⟩)
   .rw[ae h,n];refine ah (bnt.2 (bo h)) (ah (bD) (ao (a:=T.mk 0 [] 0 []) (by rw[dz];simp) ?_));rw[pV,show(l++[T.mk 0 [] 0 []]).set (J l) x=l++[x] by simp]
    exact o _ ⟨by simp only[aO,lH];omega,λ t b=>by
     obtain b|b:=aR.1 b
     .exact c.2 t b
     .rw[dN.1 b];exact e⟩))
 apply aF;simp only[qeY,Ci,aA];apply ag (Hq t);exact(bd (L:=λ m k=>tp m k (bQ t) (J (bQ t)) 0 l) (d 0 (aG _) l q)).res (by rw[bF])
section
def cv(a:iN)(l:aa T):Int:=
 if a.1=1 then(if usB a.2.1=O/\usB a.2.2.1=O then(if a.2.1.kind=1/\a.2.1∈l then 0 else 13)else 10)
 else if(if a.1=2 then[a.2.1]else a.2.2.2.2).all usB=O then(if ∀t∈(if a.1=2 then[a.2.1]else a.2.2.2.2),∀x∈bQ t,x∈l then 0 else 13)else 10
def cG(a:iN):aa T:=if a.1=1 then bQ a.2.2.1 else[]
def qnS{a:iN}{l l':aa T}(h:∀x,x∈l↔x∈l'):cv a l=cv a l':=by
 unfold cv;simp only[h]
def fo:aa iN->aa T->Int
 |[],_=>0
 |a::r,l=>if cv a l=0 then fo r (l++cG a)else cv a l
def FK:∀{r:aa iN}{l l':aa T},(∀x,x∈l↔x∈l')->fo r l=fo r l'
 |[],_,_,_=>rfl
 |a::r,l,l',h=>by
   simp only[fo,qnS h];rw[FK (r:=r) (l:=l++cG a) (l':=l'++cG a) λ x=>by rw[aR,aR,h]]
def ig(f:Bool)(b:gz)(l:aa T):Int:=if f=O\/usB b.1=O then fo b.2 (l++(if f=O then[]else bQ b.1))else 10
def mz(f:Bool)(b:gz):aa T:=(if f=O then[]else bQ b.1)++(b.2.map cG).flatten
def qnO{f:Bool}{b:gz}{l l':aa T}(h:∀x,x∈l↔x∈l'):ig f b l=ig f b l':=by
 unfold ig;rw[FK (l:=l++(if f=O then[]else bQ b.1)) (l':=l'++(if f=O then[]else bQ b.1)) λ x=>by rw[aR,aR,h]]
def mj:Bool->aa gz->aa T->Int
 |_,[],_=>0
 |f,b::r,l=>if ig f b l=0 then mj Y r (l++mz f b)else ig f b l
def nf:Bool->aa gz->aa T
 |_,[]=>[]
 |f,b::r=>mz f b++nf Y r
def Uq:∀{r:aa gz}{f:Bool}{l l':aa T},(∀x,x∈l↔x∈l')->mj f r l=mj f r l'
 |[],_,_,_,_=>rfl
 |b::r,f,l,l',h=>by
   simp only[mj,qnO h];rw[Uq (r:=r) (l:=l++mz f b) (l':=l'++mz f b) λ x=>by rw[aR,aR,h]]
def qF(l:aa T):aa T:=l.foldl dg []
def GZ(l:aa T)(x:T):x∈qF l↔x∈l:=by
 have:=(Ac l [] List.Pairwise.nil).2 x;unfold qF;rw[this];simp
def Na(l:aa T):Asc (qF l):=(Ac l [] List.Pairwise.nil).1
def sI(e:Int)(s:aa T):aa T×Int:=if e=0 then(s,0)else([],e)
def ej(m:de)(n:Nat):aa T×Int:=
 sI (mj O (m.2.2.2.take n) (m.2.1++m.2.2.1)) (qF ((m.2.1++m.2.2.1)++nf O (m.2.2.2.take n)))
def SmA(a:iN):Prop:=size a.2.1<=1000000000/\size a.2.2.1<=1000000000/\J a.2.2.2.2<=1000000/\∀t∈a.2.2.2.2,size t<=1000000000
def SmB(b:gz):Prop:=size b.1<=1000000000/\J b.2<=20/\∀a∈b.2,SmA a
def Nw{a:iN}{l:aa T}(h:cv a l=0):SmL 60 (cG a):=by
 unfold cG;unfold cv at h;split
 .rename_i d;rw[af d]at h;split at h
  .next c=>exact vb c.2
  .cases h
 .exact⟨aG _,λ t b=>by cases b⟩
section
variable {m0:Nat}
def qtb(B:aa iN)(j:Nat)(ts:aa T)(i:Nat)(l vs:aa T)(u:SmL 50000 l)(o:SmL 60 vs){r:(aa T×Unit)×(Int×Unit)}(e:(¬ ∀x∈vs,x∈l)->r=((l,()),(13,())))
  (f:(∀x∈vs,x∈l)->Ev (λ m k=>(cE m k).2.1 B (J B) j ts (J ts) ((i+1:Nat):Int) l) r) (v:iw .i64 (av (i:Int) 1)=((i+1:Nat):Int)):
  Ev (λ m k=>(cE m k).2.2 B (J B) j ts (J ts) i vs (J vs) 0 l) r:=by
 have t:=u.sz
 have d:=aV (P:=λ q=>(∀x∈vs.take q,x∈l)->Ev (λ m k=>(cE m k).2.2 B (J B) j ts (J ts) i vs (J vs) q l) r) vs (by have:=o.1;omega)
  (λ n h=>aw (by
   simp only[Rt,Ce];rw[cI]at h;apply ai n;rw[v];exact f h))
  (λ q x b A n w s z h=>aw (by
   have p:=o.2 x (aK b);simp only[Rt,Ce,aA];refine ah n (ao w (ag (AN l x) ?_));by_cases c:x∈l
   .apply ai (bnf.2 (bf c));rw[s];refine z λ y a=>?_;rw[eI,b]at a;obtain a|a:=aR.1 a
    .exact h y a
    .simp at a;rw[a];exact c
   .exact ah (bnt.2 (bo c)) (al (e λ g=>c (g x (aK b))).symm)))
 exact d 0 (aG _) λ x b=>by simp at b
def UL(B:aa iN)(j:Nat)(ts:aa T)(l:aa T)(v:SmL 50000 l)(s:J ts<=1000000)(a:ts.all usB=O){r:(aa T×Unit)×(Int×Unit)}(f:(¬ ∀t∈ts,∀x∈bQ t,x∈l)->r=((l,()),(13,())))
  (n:(∀t∈ts,∀x∈bQ t,x∈l)->Ev (λ m k=>(cE m k).1 B (J B) ((j+1:Nat):Int) l) r) (w:iw .i64 (av (j:Int) 1)=((j+1:Nat):Int)):
  Ev (λ m k=>(cE m k).2.1 B (J B) j ts (J ts) 0 l) r:=by
 rw[bB]at a
 have d:=aV (P:=λ i=>(∀t∈ts.take i,∀x∈bQ t,x∈l)->Ev (λ m k=>(cE m k).2.1 B (J B) j ts (J ts) i l) r) ts (by omega)
  (λ o h=>aw (by
   simp only[Rz,Cd];rw[cI]at h;apply ai o;rw[w];exact n h))
  (λ i t e E o z y A h=>aw (by
   have p:=a t (aK e);have D:=qh p;simp only[Rz,Cd,aA];refine ah o (ao z (ag (Hq t) ?_));refine qtb B j ts i l (bQ t) v (vb p) (λ g=>f λ C=>g (C t (aK e))) (λ g=>A λ u b=>?_) y;rw[eI,e]at b;obtain c|c:=aR.1 b
   .exact h u c
   .simp at c;rw[c];exact g))
 exact d 0 (aG _) λ x q=>by simp at q
def qr6(B:aa iN)(hB:J B<=20)(hA:∀a∈B,SmA a):∀i,i<=J B->∀l:aa T,SmL (25000+60*i) l->∃l',Ev (λ m k=>(cE m k).1 B (J B) i l) ((l',()),(fo (B.drop i) l,()))/\
  (fo (B.drop i) l=0->(∀x,x∈l'↔x∈l\/x∈((B.drop i).map cG).flatten)/\(l.Nodup->l'.Nodup)/\SmL (J l+60*(J B-i)) l'):=by
 refine aV (P:=λ i=>∀l:aa T,SmL (25000+60*i) l->∃l',Ev (λ m k=>(cE m k).1 B (J B) i l) ((l',()),(fo (B.drop i) l,()))/\
  (fo (B.drop i) l=0->(∀x,x∈l'↔x∈l\/x∈((B.drop i).map cG).flatten)/\(l.Nodup->l'.Nodup)/\SmL (J l+60*(J B-i)) l')) B (by omega) (λ n l w=>?_) (λ i a Q hd n s L hP l w=>?_)
 .refine⟨l,aw ?_,λ _=>?_⟩
  .simp only[qP,oK];refine ai n (al ?_);rw[bO];rfl
  .rw[bO];exact⟨λ x=>by simp,id,by omega,w.2⟩
 .have ax:=getElem?_lt Q;let⟨v,E,z3,z4⟩:=hA a (aK Q);have ar:=w.1;have q:SmL 50000 l:=⟨by omega,w.2⟩
  have an:=q.sz;rw[hd,bh,wb];simp only[fo]
  have f:∀e,cv a l=e->e≠0->Ev (λ m k=>(cE m k).1 B (J B) i l) ((l,()),(e,()))->∃l',Ev (λ m k=>(cE m k).1 B (J B) i l) ((l',()),(if cv a l=0 then fo (B.drop (i+1)) (l++cG a)else cv a l,()))/\((if cv a l=0 then fo (B.drop (i+1)) (l++cG a)else cv a l)=0->(∀x,x∈l'↔x∈l\/x∈cG a++((B.drop (i+1)).map cG).flatten)/\(l.Nodup->l'.Nodup)/\SmL (J l+60*(J B-i)) l'):=λ e D g u=>by
   rw[D,ae g];exact⟨l,u,λ h=>absurd h g⟩
  have R:∀y:aa T,cv a l=0->y=lw l (cG a)->Ev (λ m k=>(cE m k).1 B (J B) i l)=(λ r=>Ev (λ m k=>(cE m k).1 B (J B) i l) r)->(∀r,Ev (λ m k=>(cE m k).1 B (J B) ((i+1:Nat):Int) y) r->Ev (λ m k=>(cE m k).1 B (J B) i l) r)->∃l',Ev (λ m k=>(cE m k).1 B (J B) i l) ((l',()),(if cv a l=0 then fo (B.drop (i+1)) (l++cG a)else cv a l,()))/\((if cv a l=0 then fo (B.drop (i+1)) (l++cG a)else cv a l)=0->(∀x,x∈l'↔x∈l\/x∈cG a++((B.drop (i+1)).map cG).flatten)/\(l.Nodup->l'.Nodup)/\SmL (J l+60*(J B-i)) l'):=λ y D g _ u=>by
   rw[af D];have p:=SmL.add w (Nw D);rw[<-g]at p;have o:∀x,x∈y↔x∈l++cG a:=λ x=>by rw[g,HA,aR]
   let⟨l',W,S⟩:=hP y ⟨by have:=p.1;omega,p.2⟩;rw[FK o]at W S;refine⟨l',u _ W,λ h=>?_⟩;let⟨k1,k2,k3,k4⟩:=S h;have N:=Hw (cG a) l;have:=(Nw D).1;refine⟨λ x=>?_,λ hn=>k2 (by rw[g];exact NQ _ _ hn),?_,k4⟩
   .rw[k1,o,aR,aR,BM]
   .rw[g]at k3;omega
  by_cases j:a.1=1
  .have b:cv a l=if usB a.2.1=O/\usB a.2.2.1=O then(if a.2.1.kind=1/\a.2.1∈l then 0 else 13)else 10:=by unfold cv;rw[af j]
   have M:cG a=bQ a.2.2.1:=by unfold cG;rw[af j]
   cases u1:usB a.2.1 with
   |false=>
     refine f 10 (by rw[b,ae (λ h=>by rw[u1]at h;exact absurd h.1 (by decide))]) (by decide) (aw ?_);simp only[qP,oK,aA];exact ah n (ao s (ah (aB.2 j) (ag (mP _ v) (ah (by rw[u1];rfl) (aq _)))))
   |true=>
   cases u2:usB a.2.2.1 with
   |false=>
     refine f 10 (by rw[b,ae (λ h=>by rw[u2]at h;exact absurd h.2 (by decide))]) (by decide) (aw ?_);simp only[qP,oK,aA];exact ah n (ao s (ah (aB.2 j) (ag (mP _ v) (ai (by rw[u1];rfl) (ag (mP _ E) (ah (by rw[u2];rfl) (aq _)))))))
   |true=>
   rw[af ⟨u1,u2⟩]at b;have ad:=qh u1;by_cases C:a.2.1.kind=1
   case neg=>
    refine f 13 (by rw[b,ae (λ h=>C h.1)]) (by decide) (aw ?_);simp only[qP,oK,aA];exact ah n (ao s (ah (aB.2 j) (ag (mP _ v) (ai (by rw[u1];rfl) (ag (mP _ E) (ai (by rw[u2];rfl) (ah (bnt.2 (ay.2 C)) (aq _))))))))
   by_cases G:a.2.1∈l
   case neg=>
    refine f 13 (by rw[b,ae (λ h=>G h.2)]) (by decide) (aw ?_);simp only[qP,oK,aA];exact ah n (ao s (ah (aB.2 j) (ag (mP _ v) (ai (by rw[u1];rfl) (ag (mP _ E) (ai (by rw[u2];rfl) (ai (bnf.2 (aB.2 C)) (ag (AN l _) (ah (bnt.2 (bo G)) (aq _))))))))))
   refine R (lw l (bQ a.2.2.1)) (by rw[b,af ⟨C,G⟩]) (by rw[M]) rfl λ r K=>aw ?_;simp only[qP,oK,aA];refine ah n (ao s (ah (aB.2 j) (ag (mP _ v) (ai (by rw[u1];rfl) (ag (mP _ E) (ai (by rw[u2];rfl) (ai (bnf.2 (aB.2 C)) (ag (AN l _) (ai (bnf.2 (bf G)) (ag (ZG l _ u2 ⟨by omega,w.2⟩) ?_))))))))));rw[L];exact K
  .have M:cG a=[]:=by unfold cG;rw[ae j]
   have z:∀ts:aa T,(if a.1=2 then[a.2.1]else a.2.2.2.2)=ts->J ts<=1000000->(∀r,(ts.all usB=Y->r=((l,()),(10,())))->(ts.all usB=O->Ev (λ m k=>(cE m k).2.1 B (J B) i ts (J ts) 0 l) r)->Ev (λ m k=>(cE m k).1 B (J B) i l) r)->∃l',Ev (λ m k=>(cE m k).1 B (J B) i l) ((l',()),(if cv a l=0 then fo (B.drop (i+1)) (l++cG a)else cv a l,()))/\((if cv a l=0 then fo (B.drop (i+1)) (l++cG a)else cv a l)=0->(∀x,x∈l'↔x∈l\/x∈cG a++((B.drop (i+1)).map cG).flatten)/\(l.Nodup->l'.Nodup)/\SmL (J l+60*(J B-i)) l'):=λ ts I A c=>by
    have b:cv a l=if ts.all usB=O then(if ∀t∈ts,∀x∈bQ t,x∈l then 0 else 13)else 10:=by unfold cv;rw[ae j,I]
    cases d:ts.all usB with
    |false=>
      refine f 10 (by rw[b,d];rfl) (by decide) (c _ (λ _=>rfl) λ h=>?_);rw[d]at h;cases h
    |true=>
      rw[af d]at b;by_cases F:∀t∈ts,∀x∈bQ t,x∈l
      .refine R l (by rw[b,af F]) (by rw[M];rfl) rfl λ r K=>c r (λ h=>by rw[d]at h;cases h) λ _=>?_;exact UL B i ts l q A d (λ h=>absurd F h) (λ _=>K) L
      .refine f 13 (by rw[b,ae F]) (by decide) (c _ (λ h=>by rw[d]at h;cases h) λ _=>?_);exact UL B i ts l q A d (λ _=>rfl) (λ h=>absurd h F) L
   by_cases H:a.1=2
   .refine z [a.2.1] (by rw[af H]) (by simp) λ r g u=>aw ?_;simp only[qP,oK,aA];refine ah n (ao s (ai (ay.2 j) (ah (aB.2 H) (ag (qaj [a.2.1] (by simp) (λ t ht=>by rw[dN.1 ht];exact v)) ?_))));cases d:[a.2.1].all usB with
    |false=>exact ah rfl (al (g d).symm)
    |true=>exact ai rfl (u d)
   .refine z a.2.2.2.2 (by rw[ae H]) z3 λ r g u=>aw ?_;simp only[qP,oK,aA];refine ah n (ao s (ai (ay.2 j) (ai (ay.2 H) (ag (qaj a.2.2.2.2 (by omega) z4) ?_))));cases d:a.2.2.2.2.all usB with
    |false=>exact ah rfl (al (g d).symm)
    |true=>exact ai rfl (u d)
end
end
def qsW(l:aa T)(f:Bool)(b:gz)(v:SmB b)(i:SmL 20000 l):∃l',Ev (λ m _=>Cp m l b f) ((l',()),(ig f b l,()))/\
  (ig f b l=0->(∀x,x∈l'↔x∈l\/x∈mz f b)/\(l.Nodup->l'.Nodup)/\SmL (J l+1300) l'):=by
 let⟨q,A,z⟩:=v
 have p:∀c:aa T,SmL (J l+60) c->(∀x,x∈c↔x∈l++(if f=O then[]else bQ b.1))->(l.Nodup->c.Nodup)->(f=O\/usB b.1=O)->∃l',Ev (λ m k=>(cE m k).1 b.2 (J b.2) 0 c) ((l',()),(ig f b l,()))/\(ig f b l=0->(∀x,x∈l'↔x∈l\/x∈mz f b)/\(l.Nodup->l'.Nodup)/\SmL (J l+1300) l'):=λ c n o y w=>by
  let⟨l',g,d⟩:=qr6 b.2 A z 0 (aG _) c ⟨by have:=n.1;have:=i.1;omega,n.2⟩;rw[bF]at g d
  have e:ig f b l=fo b.2 c:=by
   unfold ig;rw[af w];exact FK λ x=>(o x).symm
  rw[e];refine⟨l',g,λ h=>?_⟩;let⟨t,s,B,r⟩:=d h;refine⟨λ x=>?_,λ u=>s (y u),by have:=n.1;omega,r⟩;unfold mz;rw[t,o,aR,aR,BM]
 cases f with
 |true=>
   let⟨l',g,d⟩:=p l ⟨by omega,i.2⟩ (λ x=>by rw[af rfl,bJ]) id (.inl rfl);refine⟨l',aF ?_,d⟩;simp only[J3,wG,aA];exact ai rfl (bd (L:=λ m k=>(cE m k).1 b.2 (J b.2) 0 l) g)
 |false=>
   cases a:usB b.1 with
   |false=>
     refine⟨l,aF ?_,λ h=>?_⟩
     .simp only[J3,wG,aA];refine ah rfl (ag (mP b.1 q) (ah (by rw[a];rfl) (al ?_)));unfold ig;rw[ae (by rw[a];simp)]
     .unfold ig at h;rw[ae (by rw[a];simp)]at h;cases h
   |true=>
     have j:=i.add (vb a);let⟨l',g,d⟩:=p (lw l (bQ b.1)) ⟨by have:=Hw (bQ b.1) l;have:=(vb a).1;omega,j.2⟩ (λ x=>by rw[HA,ae (by decide),aR]) (NQ _ _) (.inr a);refine⟨l',aF ?_,d⟩;simp only[J3,wG,aA];refine ah rfl (ag (mP b.1 q) (ai (by rw[a];rfl) (ag (ZG l b.1 a ⟨by have:=i.1;omega,i.2⟩) ?_)));exact bd (L:=λ m k=>(cE m k).1 b.2 (J b.2) 0 (lw l (bQ b.1))) g
def qsK{l:aa T}(h:IR l)(c:l.Nodup):Asc l:=by
 refine List.Pairwise.imp₂ (R:=λ a b=>aM b a≠-1) (S:=λ a b=>a≠b) (λ a b e d=>?_) h c;obtain h|h|h:=GU a b
 .exact h
 .exact absurd h d
 .exact absurd h e
def qrC{l l':aa T}(h:l'.Perm l)(c:IR l')(b:l.Nodup){s:aa T}(a:∀x,x∈s↔x∈l):l'=qF s:=
 AK _ _ (qsK c (h.nodup_iff.2 b)) (Na s) λ x=>by rw[GZ,a,h.mem_iff]
def GH{α:Type}(l:aa α)(n:Nat):gA l 0 (n:Int)=l.take n:=by
 unfold gA;simp
def XE(a:de)(u:SmL 6 a.2.1)(w:SmL 6 a.2.2.1)(c:(a.2.1++a.2.2.1).Nodup)(n:Nat)(R:n<=J a.2.2.2)(v:J a.2.2.2<=12)(H:∀b∈a.2.2.2,SmB b):Ev (λ m _=>ue m a n) (ej a n):=by
 have W:=u.1;have S:=w.1;apply aF;simp only[qho,CZ];refine ag (F2 a.2.1 a.2.2.1) (ah (by unfold inb;rw[df];omega) (ah (by unfold inb;rw[df];omega) ?_));simp only[GH];obtain⟨B,d⟩:∃B,B=a.2.2.2.take n:=⟨_,rfl⟩
 have K:J B<=12:=by rw[d,bg];omega
 have q:∀b∈B,SmB b:=λ b h=>H b (by rw[d]at h;exact gd h);unfold ej;rw[<-d]
 have j:=aV (P:=λ i=>∀l:aa T,SmL (12+1300*i) l->l.Nodup->Ev (λ m k=>tD m k B (J B) i l) (sI (mj (X (i=0)) (B.drop i) l) (qF (l++nf (X (i=0)) (B.drop i))))) B (by omega)
  (λ p l g c=>aw (by
   simp only[Sq,CY];have:=g.1;let⟨l',e1,y,Q⟩:=XO l (by omega) λ t o=>by have:=g.2 t o;omega
   refine ai p (ag e1 (ah (by rw[y.length_eq];exact Jw _) (al ?_)));rw[bO,mj,nf,bJ,qrC y Q c λ x=>Iff.rfl];rfl))
  (λ i b s G p F E I l g c=>aw (by
   have:=g.1;have D:=getElem?_lt s
   have C:ieq (i:Int) 0=X (i=0):=by
    by_cases h:i=0
    .rw[h];rfl
    .rw[bo h,ay.2 (by omega)]
   simp only[Sq,CY,aA];rw[G,C,mj,nf];let⟨l',N,M⟩:=qsW l (X (i=0)) b (q b (aK s)) ⟨by omega,g.2⟩;refine ah p (ao F (ag N ?_));by_cases e:ig (X (i=0)) b l=0
   .let⟨r,A,z⟩:=M e;rw[af e];dsimp only;rw[E];refine ai (by rw[e];rfl) ?_;have f:∀x,x∈l'↔x∈l++mz (X (i=0)) b:=λ x=>by rw[r,aR]
    apply (I l' (z.mono (by omega)) (A c)).res;rw[bo (Nat.succ_ne_zero i),Uq f];congr 1;refine AK _ _ (Na _) (Na _) λ x=>?_;rw[GZ,GZ,aR,aR,aR,r,BM]
   .rw[ae e];dsimp only;exact ah (by rw[ay.2 e];rfl) (al (by unfold sI;rw[ae e]))))
 exact(bd (L:=λ m k=>tD m k B (J B) 0 (a.2.1++a.2.2.1)) (j 0 (aG _) _ ⟨by rw[aO];omega,λ t o=>(aR.1 o).elim (u.2 t) (w.2 t)⟩ c)).res (by rw[bF];rfl)
def GQ(t:T)(d:size t<=1000000000):Ev (λ m _=>uH m t) (usB t):=by
 apply aF;simp only[qk6,Eo,aA];unfold usB;refine ag (qpX t d) (ak (λ h=>al (by rw[bnt.1 h];rfl)) λ h=>?_);rw[bnf.1 h,bU];refine ag (Hp t d) (ak (λ c=>?_) λ c=>?_)
 .rw[aS]at c;exact al (by rw[bo (by omega)];rfl)
 .rw[aT]at c;rw[bf (by omega),bU];have n:=G4 t;apply ag (G8 t)
  have a:=aV (P:=λ i=>Ev (λ m k=>ug m k (bQ t) i) (!((bQ t).drop i).any λ x=>X (x.sort=5))) (bQ t) (by omega)
   (λ b=>aw (by
    simp only[Tz,EC];refine ai b (al ?_);rw[bO];rfl))
   (λ i x l g b f e j=>aw (by
    simp only[Tz,EC];rw[g,wo];refine ah b (ao f (ak (λ h=>?_) λ h=>?_))
    .exact al (by rw[bf (aB.1 h)];rfl)
    .rw[bo (ay.1 h),mK,e];exact j))
  exact(bd (L:=λ m k=>ug m k (bQ t) 0) (a 0 (aG _))).res (by rw[bF])
def qnq(t:T)(l:aa T)(f:usB t=O)(o:SmL 50000 l):Ev (λ m _=>Fa m t l) (X (∀x∈bQ t,x∈l)):=by
 have s:=qh f;have e:=vb f;have n:=o.sz;apply aF;simp only[qiG,DC,aA];apply ag (G8 t)
 have b:=aV (P:=λ i=>Ev (λ m k=>tQ m k l (bQ t) i) (X (∀x∈(bQ t).drop i,x∈l))) (bQ t) (by have:=e.1;omega)
  (λ d=>aw (by
   simp only[SD,DD];refine ai d (al ?_);rw[bO];exact(bf λ x c=>by cases c).symm))
  (λ i x c g d q p r=>aw (by
   have j:=e.2 x (aK c);simp only[SD,DD,aA];refine ah d (ao q (ag (NJ l x) ?_));by_cases a:x∈l
   .apply ai (bnf.2 (bf a));rw[p];apply r.res;rw[g];simp[a]
   .refine ah (bnt.2 (bo a)) (al ?_);rw[g];exact(bo λ h=>a (h x (bj ..))).symm))
 exact(bd (L:=λ m k=>tQ m k l (bQ t) 0) (b 0 (aG _))).res (by rw[bF])
def qqp{l v:aa T}(i:J l<=1000000)(j:J v<=1000000){F:Nat->Nat->ac (aa T)}(h:Ev F v):Ev (λ m k=>cond (br (J ([]:TL)+J l) 56) (iK l (ab (F m k) λ a=>cond (br (J ([]:TL)+J a) 56) (iK a (Z ((),([],(0:Int),()))) λ g f=>Z ((),([]++(g::f),0,()))) U) λ d c=>ab (F m k) λ b=>cond (br (J ([]++(d::c))+J b) 56) (Z ((),(([]++(d::c))++b,0,()))) U) U) ((),(l++v,((0:Int),()))):=by
 refine ah (bD (by simp;omega)) (oJ (λ e=>?_) λ x t e=>?_)
 .subst e;refine ag h (ah (bD (by simp;omega)) (oJ (λ e=>?_) λ x t e=>?_))
  .subst e;exact aq _
  .subst e;exact aq _
 .subst e;exact ag h (ah (bD (by simp at i |-;omega)) (aq _))
def qsi(a:iN)(l:aa T)(ha:SmA a)(z:SmL 50000 l):Ev (λ m _=>GL m a l) ((),(if cv a l=0 then l++cG a else[],(cv a l,()))):=by
 let⟨H,M,K,I⟩:=ha;have an:=z.sz;have ar:=z.1
 have c:∀{F:Nat->Nat->ac (Unit×(aa T×(Int×Unit)))} (e:Int),cv a l=e->e≠0->Ev F ((),([],(e,())))->Ev F ((),(if cv a l=0 then l++cG a else[],(cv a l,()))):=λ e E h1 h2=>by
  rw[E,ae h1];exact h2
 apply aF;simp only[qmp,FE,aA];by_cases j:a.1=1
 .have b:cv a l=if usB a.2.1=O/\usB a.2.2.1=O then(if a.2.1.kind=1/\a.2.1∈l then 0 else 13)else 10:=by unfold cv;rw[af j]
  have D:cG a=bQ a.2.2.1:=by unfold cG;rw[af j]
  refine ai (ay.2 (by omega)) (ah (aB.2 j) (ag (GQ _ H) ?_));cases u1:usB a.2.1 with
  |false=>exact c 10 (by rw[b,ae (λ h=>by rw[u1]at h;exact absurd h.1 (by decide))]) (by decide) (ah rfl (aq _))
  |true=>
  refine ai rfl (ag (GQ _ M) ?_);cases u2:usB a.2.2.1 with
  |false=>exact c 10 (by rw[b,ae (λ h=>by rw[u2]at h;exact absurd h.2 (by decide))]) (by decide) (ah rfl (aq _))
  |true=>
  rw[af ⟨u1,u2⟩]at b;have S:=qh u1;have R:=qh u2;have hv:=G4 a.2.2.1;apply ai rfl;by_cases r:a.2.1.kind=1
  case neg=>exact c 13 (by rw[b,ae (λ h=>r h.1)]) (by decide) (ah (bnt.2 (ay.2 r)) (aq _))
  refine ai (bnf.2 (aB.2 r)) (ag (NJ l _) ?_);by_cases f:a.2.1∈l
  case neg=>exact c 13 (by rw[b,ae (λ h=>f h.2)]) (by decide) (ah (bnt.2 (bo f)) (aq _))
  apply ai (bnf.2 (bf f));have E:cv a l=0:=by rw[b,af ⟨r,f⟩]
  rw[E,af rfl,D];exact qqp (by omega) (by omega) (G8 _)
 .have D:cG a=[]:=by unfold cG;rw[ae j]
  have n:∀ts:aa T,(if a.1=2 then[a.2.1]else a.2.2.2.2)=ts->J ts<=1000000->(∀t∈ts,size t<=1000000000)->Ev (λ m k=>(iW m k).1 ts 0 l) ((),(if cv a l=0 then l++cG a else[],(cv a l,()))):=λ ts y ad w=>by
   have b:cv a l=if ts.all usB=O then(if ∀t∈ts,∀x∈bQ t,x∈l then 0 else 13)else 10:=by unfold cv;rw[ae j,y]
   have N:ts.all usB=O->Ev (λ m k=>(iW m k).2 ts 0 l) ((),(if cv a l=0 then l++cG a else[],(cv a l,()))):=λ o=>by
    rw[af o]at b;have v:=bB.1 o
    have k:=aV (P:=λ i=>(∀t∈ts.take i,∀x∈bQ t,x∈l)->Ev (λ m k=>(iW m k).2 ts i l) ((),(if cv a l=0 then l++cG a else[],(cv a l,())))) ts (by omega)
     (λ g h=>aw (by
      simp only[Uc,Ff];rw[cI]at h;refine ai g (al ?_);rw[b,af h,af rfl,D,bJ]))
     (λ i t d hd g B A C h=>aw (by
      simp only[Uc,Ff,aA];refine ah g (ao B (ag (qnq t l (v t (aK d)) z) ?_));by_cases q:∀x∈bQ t,x∈l
      .apply ai (bnf.2 (bf q));rw[A];refine C λ u f=>?_;rw[eI,d]at f;obtain p|p:=aR.1 f
       .exact h u p
       .simp at p;rw[p];exact q
      .exact c 13 (by rw[b,ae λ G=>q (G t (aK d))]) (by decide) (ah (bnt.2 (bo q)) (aq _))))
    exact k 0 (aG _) λ x W=>by simp at W
   have Q:=aV (P:=λ i=>(ts.take i).all usB=O->Ev (λ m k=>(iW m k).1 ts i l) ((),(if cv a l=0 then l++cG a else[],(cv a l,())))) ts (by omega)
    (λ g h=>aw (by
     simp only[TJ,EX];rw[cI]at h;exact ai g (N h)))
    (λ i t d hd g B A C h=>aw (by
     simp only[TJ,EX,aA];refine ah g (ao B (ag (GQ t (w t (aK d))) ?_));cases o:usB t with
     |true=>
       apply ai rfl;rw[A];apply C;rw[eI,d,List.all_append,h];simp[o]
     |false=>
       refine c 10 ?_ (by decide) (ah rfl (aq _));rw[b,ae λ G=>?_];have:=bB.1 G t (aK d);rw[o]at this;cases this))
   exact Q 0 (aG _) rfl
  by_cases s:a.1=2
  .refine ah (aB.2 s) (ai (ay.2 j) ?_);exact bd (L:=λ m k=>(iW m k).1 [a.2.1] 0 l) (n [a.2.1] (by rw[af s]) (by simp) λ t d=>by rw[dN.1 d];exact H)
  .refine ai (ay.2 s) (ai (ay.2 j) ?_);exact bd (L:=λ m k=>(iW m k).1 a.2.2.2.2 0 l) (n a.2.2.2.2 (by rw[ae s]) K I)
def Vu(w:de)(Q:SmL 6 w.2.1)(S:SmL 6 w.2.2.1)(n:Nat)(hn:n<=J w.2.2.2)(y:J w.2.2.2<=12)(W:∀b∈w.2.2.2,SmB b):Ev (λ m _=>wW m w n) (ej w n):=by
 let⟨v,P,o,B⟩:=w;have Q:SmL 6 P:=Q;have S:SmL 6 o:=S;have hn:n<=J B:=hn;have y:J B<=12:=y;have W:∀b∈B,SmB b:=W;have h1:=Q.1;have h2:=S.1;unfold ej
 have M:∀(i:Nat) (b:gz),B[i]?=Z b->∀{r:aa T×Int},(∀j,j<=J b.2->∀l,SmL (20000+60*j) l->(fo (b.2.drop j) l=0->∀l',l'=l++((b.2.drop j).map cG).flatten->SmL (J l+60*(J b.2-j)) l'->Ev (λ m k=>(gW m k).1 n ((i+1:Nat):Int) v P o B l') r)->(fo (b.2.drop j) l≠0->r=([],fo (b.2.drop j) l))->Ev (λ m k=>(gW m k).2 n i j v P o B l) r):=λ i b R r=>by
  let⟨b1,b2,b3⟩:=W b (aK R);have az:=getElem?_lt R;have f:ap B (i:Int)=Z b:=by rw[dz];exact R
  have ax:iw .i64 (av (i:Int) 1)=((i+1:Nat):Int):=by rw[show av (i:Int) 1=((i+1:Nat):Int)from by unfold av;omega,dC]
  refine aV (P:=λ j=>∀l,SmL (20000+60*j) l->(fo (b.2.drop j) l=0->∀l',l'=l++((b.2.drop j).map cG).flatten->SmL (J l+60*(J b.2-j)) l'->Ev (λ m k=>(gW m k).1 n ((i+1:Nat):Int) v P o B l') r)->(fo (b.2.drop j) l≠0->r=([],fo (b.2.drop j) l))->Ev (λ m k=>(gW m k).2 n i j v P o B l) r) b.2 (by omega) (λ s l p c _=>aw ?_) (λ j a ha hd s hg hj hP l p c d=>aw ?_)
  .simp only[S3,Ef];rw[bO]at c;refine ao f (ai s ?_);rw[ax];exact c rfl l (by simp) ⟨kM _ _,p.2⟩
  .have a0:=getElem?_lt ha;have ar:=p.1;simp only[S3,Ef,aA];refine ao f (ah s (ao f (ao hg (ag (qsi a l (b3 a (aK ha)) (p.mono (by omega))) ?_))));rw[hd]at c d;simp only[fo]at c d;by_cases D:cv a l=0
   .rw[af D];simp only[af D]at c d;apply ai (bnf.2 (aB.2 D));rw[hj];have G:=Nw D;have an:SmL (J l+60) (l++cG a):=⟨by rw[aO];have:=G.1;omega,λ t I=>(aR.1 I).elim (p.2 t) (G.2 t)⟩
    refine hP _ (an.mono (by omega)) (λ g l' q hs=>c g l' (by rw[q,bh,wb,bC]) (hs.mono (by rw[aO];have:=G.1;omega))) d
   .simp only[ae D]at d;rw[d D];exact ah (bnt.2 (ay.2 D)) (aq _)
 obtain⟨z,C⟩:∃z,z=B.take n:=⟨_,rfl⟩
 have u:J z=n:=by rw[C,bg];omega
 have ad:=aV (P:=λ i=>∀l:aa T,SmL (12+1300*i) l->Ev (λ m k=>(gW m k).1 n i v P o B l) (sI (mj (X (i=0)) (z.drop i) l) (qF (l++nf (X (i=0)) (z.drop i))))) z (by omega)
  (λ s l p=>aw (by
   simp only[Tc,DY];have h3:=p.sz;rw[u]at s;rw[bO,mj,nf,bJ,u];refine ai s (ag (ZU l ?_) (aq _));have:(12+1300*n)*1000<=(12+1300*12)*1000:=bY _ (by omega);rw[u]at h3;omega))
  (λ i b H hd s hg R hP l p=>aw (by
   have ar:=p.1;have az:=getElem?_lt H
   have A:B[i]?=Z b:=by
    rw[C,fR]at H;split at H
    .exact H
    .cases H
   let⟨b1,b2,b3⟩:=W b (aK A);have f:ap B (i:Int)=Z b:=by rw[dz];exact A
   simp only[Tc,DY,aA];rw[u]at s;rw[hd,mj,nf];apply ah s
   have go:∀F:aa T,SmL (J l+60) F->F=l++(if X (i=0)=O then[]else bQ b.1)->(X (i=0)=O\/usB b.1=O)->Ev (λ m k=>(gW m k).2 n i 0 v P o B F) (sI (if ig (X (i=0)) b l=0 then mj Y (z.drop (i+1)) (l++mz (X (i=0)) b)else ig (X (i=0)) b l) (qF (l++(mz (X (i=0)) b++nf Y (z.drop (i+1)))))):=λ F g1 g2 g3=>by
    have hE:ig (X (i=0)) b l=fo b.2 F:=by unfold ig;rw[af g3,<-g2]
    refine M i b A 0 (aG _) F (g1.mono (by omega)) (λ h l' q hs=>?_) (λ h=>?_)
    .rw[bF]at h q;rw[hE,af h];have G:l'=l++mz (X (i=0)) b:=by rw[q,g2];unfold mz;rw[bC]
     refine(hP l' (hs.mono (by have:=g1.1;omega))).res ?_;rw[bo (Nat.succ_ne_zero i),<-G,<-bC,<-G]
    .rw[bF]at h |-
     rw[hE,ae h];unfold sI;rw[ae h]
   by_cases K:i=0
   .have e:X (i=0)=O:=bf K;apply ai (aT.2 (by omega));exact go l ⟨by omega,p.2⟩ (by rw[af e,bJ]) (.inl e)
   .have e:X (i=0)=Y:=bo K;refine ah (aS.2 (by omega)) (ao f (ag (GQ b.1 b1) ?_));cases N:usB b.1 with
    |false=>
      refine ah rfl (al ?_);have:ig (X (i=0)) b l=10:=by unfold ig;rw[e,ae (by rw[N];simp)]
      rw[this];rfl
    |true=>
      have hz:=qh N;have hv:=vb N;have aE:=hv.1;refine ai rfl (ao f (ag (G8 b.1) (ah (bD) ?_)));exact go (l++bQ b.1) ⟨by rw[aO];omega,λ t I=>(aR.1 I).elim (p.2 t) (hv.2 t)⟩ (by rw[e];rfl) (.inr N)))
 have E:Ev (λ m _=>(gW m m).1 n 0 v P o B (P++o)) (sI (mj O (B.take n) (P++o)) (qF ((P++o)++nf O (B.take n)))):=by
  refine(bd (L:=λ m k=>(gW m k).1 n 0 v P o B (P++o)) (ad 0 (aG _) _ ⟨by rw[aO];omega,λ t I=>(aR.1 I).elim (Q.2 t) (S.2 t)⟩)).res ?_;rw[bF,C];rfl
 apply aF;simp only[qj0,Eb];refine ah (bD (by simp;omega)) (oJ (λ e=>?_) λ x t e=>?_)
 .subst e;refine ah (bD (by simp;omega)) (oJ (λ e=>?_) λ x t e=>?_)
  .subst e;exact E
  .subst e;exact E
 .subst e;exact ah (bD (by simp at h1 |-;omega)) E
def fq(t:T):Bool:=X (t.kind=0)&&(X (t.name=[])&&(X (t.sort=0)&&X (J t.kids=0)))
def Ha(t:T):Ev (λ m _=>lK m t) (fq t):=by
 apply aF;simp only[qhD,Ko];unfold fq;refine ak (λ h=>?_) λ h=>al (by rw[bo (ay.1 h)];rfl);rw[bf (aB.1 h),bU];refine ak (λ h=>?_) λ h=>al (by rw[bo (cC.1 h)];rfl);rw[bf (cr.1 h),bU];refine ak (λ h=>?_) λ h=>al (by rw[bo (ay.1 h)];rfl);rw[bf (aB.1 h),bU];exact al (by rw[gG,aB,df];omega)
def Hj(t:T):Ev (λ m _=>pM m t) (fq t):=by
 apply aF;simp only[qlN,Lf];unfold fq;refine ak (λ h=>?_) λ h=>al (by rw[bo (ay.1 h)];rfl);rw[bf (aB.1 h),bU];refine ak (λ h=>?_) λ h=>al (by rw[bo (cC.1 h)];rfl);rw[bf (cr.1 h),bU];refine ak (λ h=>?_) λ h=>al (by rw[bo (ay.1 h)];rfl);rw[bf (aB.1 h),bU];exact al (by rw[gG,aB,df];omega)
def gp:aa T->aa T->Bool
 |_,[]=>O
 |s,x::r=>(X (x.kind=1)&&(X (bw x=0) && !X (x∈s)))&&gp (s++[x]) r
def If:∀(r s:aa T),gp s r=O->s.Nodup->(s++r).Nodup
 |[],s,_,h=>by rw[bJ];exact h
 |x::r,s,h,c=>by
   simp only[gp,aJ,ew,pF]at h
   have:=If r (s++[x]) h.2 (by
    rw[Rd];exact⟨c,by simp,λ a f b d=>by rw[dN.1 d];exact λ e=>h.1.2.2 (e▸f)⟩)
   rwa [bC]at this
def Xk:∀(r s:aa T),gp s r=O->∀x∈r,x.kind=1/\bw x=0
 |[],_,_,x,a=>by cases a
 |y::r,s,h,x,a=>by
   simp only[gp,aJ,cR]at h;obtain rfl|a:=be.1 a
   .exact⟨h.1.1,h.1.2.1⟩
   .exact Xk r _ h.2 x a
def ky(a:Nat):Nat->aa T->Bool
 |_,[]=>O
 |k,x::r=>((X (k<a)==X (x.sort=1)) && !X (x.sort=5))&&ky a (k+1) r
def X9(a:Nat):∀(l:aa T) (k:Nat),a<=k->ky a k l=l.all λ x => !X (x.sort=1) && !X (x.sort=5)
 |[],_,_=>rfl
 |x::l,k,h=>by
   simp only[ky,dt,X9 a l (k+1) (by omega),bo (show ¬ k<a by omega)];cases X (x.sort=1)<;>rfl
def Ms(fr:aa T):∀(p:aa T) (k:Nat),ky (k+J p) k (p++fr)=((p.all λ x=>X (x.sort=1))&&fr.all λ x => !X (x.sort=1) && !X (x.sort=5))
 |[],k=>by simp only[fE,dU,iR,List.all_nil,bU];exact X9 k fr k (au _)
 |x::p,k=>by
   have:=Ms fr p (k+1);rw[bH,show k+(J p+1)=k+1+J p by omega,Jz];simp only[ky,this,dt,bf (show k<k+1+J p by omega)];by_cases h:x.sort=1
   .rw[bf h,bo (show ¬ x.sort=5 by omega)];rfl
   .rw[bo h];rfl
def gu(a:iN):Bool:=
 if a.1=1 then X (a.2.2.2.1=0)&&X (J a.2.2.2.2=0)
 else if a.1=2 then fq a.2.2.1&&(X (a.2.2.2.1=0)&&X (J a.2.2.2.2=0))
 else if a.1=3\/a.1=4 then fq a.2.1&&(fq a.2.2.1&&X (0<=a.2.2.2.1))else Y
def jG(B:aa gz):Bool:=match B with
 |[]=>Y
 |b::_=>X (J B<=12)&&(fq b.1&&B.all λ b=>X (J b.2<=20)&&b.2.all gu)
def L6{B:aa gz}(h:jG B=O):J B<=12/\∀b∈B,J b.2<=20:=by
 cases B with
 |nil=>cases h
 |cons b r=>
   simp only[jG,aJ,cR,bB]at h;exact⟨h.1,λ c a=>(h.2.2 c a).1⟩
def qop(a:iN):Ev (λ m _=>FO m a) (gu a):=by
 apply aF;simp only[qjZ,K0,aA]
 have g:Ev (λ _ _=>cond (ieq a.2.2.2.1 0) (Z (ieq (J a.2.2.2.2) 0)) (Z Y)) (X (a.2.2.2.1=0)&&X (J a.2.2.2.2=0)):=by
  refine ak (λ h=>?_) λ h=>al (by rw[bo (ay.1 h)];rfl);rw[bf (aB.1 h),bU];exact al (by rw[gG,aB,df];omega)
 unfold gu;by_cases e:a.1=1
 .rw[af e];exact ah (aB.2 e) g
 rw[ae e];apply ai (ay.2 e);by_cases d:a.1=2
 .rw[af d];refine ah (aB.2 d) (ag (Hj _) ?_);cases fq a.2.2.1 with
  |true=>exact ah rfl g
  |false=>exact ai rfl (aq _)
 rw[ae d];apply ai (ay.2 d)
 have f:Ev (λ m _=>ab (pM m a.2.1) λ j=>cond j (ab (pM m a.2.2.1) λ i=>cond i (Z (ile 0 a.2.2.2.1)) (Z Y)) (Z Y)) (fq a.2.1&&(fq a.2.2.1&&X (0<=a.2.2.2.1))):=by
  apply ag (Hj _);cases fq a.2.1 with
  |false=>exact ai rfl (aq _)
  |true=>
    refine ah rfl (ag (Hj _) ?_);cases fq a.2.2.1 with
    |false=>exact ai rfl (aq _)
    |true=>exact ah rfl (aq _)
 by_cases c:a.1=3
 .rw[af (.inl c)];exact ah (aB.2 c) f
 apply ai (ay.2 c);by_cases b:a.1=4
 .rw[af (.inr b)];exact ah (aB.2 b) f
 .rw[ae (λ h=>h.elim c b)];exact ai (ay.2 b) (aq _)
def qnW(e:de)(t:J e.2.2.2<=1000000):Ev (λ m _=>Fh m e) (jG e.2.2.2):=by
 let⟨l,P,r,B⟩:=e;have t:J B<=1000000:=t;apply aF;simp only[qiO,DH,aA];show Ev _ (jG B);cases c:B with
 |nil=>exact ah rfl (aq _)
 |cons g s=>
 rw[<-c];have C:B[0]?=Z g:=by rw[c];rfl
 have v:J B≠0:=by rw[c];simp
 have u:jG B=(X (J B<=12)&&(fq g.1&&B.all λ b=>X (J b.2<=20)&&b.2.all gu)):=by rw[c];rfl
 rw[u];refine ai (ay.2 (by omega)) (ak (λ h=>al (by rw[aS]at h;rw[bo (by omega)];rfl)) λ h=>?_);rw[aT]at h;rw[bf (by omega),bU];refine ao (by rw[lV];exact C) (ag (Hj g.1) ?_);cases D:fq g.1 with
 |false=>exact ah rfl (aq _)
 |true=>
 apply ai rfl;rw[bU]
 have n:=aV (P:=λ i=>Ev (λ m k=>(jY m k).1 i l P r B) ((B.drop i).all λ b=>X (J b.2<=20)&&b.2.all gu)) B (by omega)
  (λ d=>aw (by
   simp only[SC,Dn];exact ai d (al (by rw[bO];rfl))))
  (λ i b E y d f x A=>aw (by
   simp only[SC,Dn];rw[y,dt];refine ah d (ao f (ak (λ h=>al (by rw[aS]at h;rw[bo (by omega)];rfl)) λ h=>?_));rw[aT]at h;rw[bf (show J b.2<=20 by omega),bU]
   have k:=aV (P:=λ j=>Ev (λ m k=>(jY m k).2 i j l P r B) ((b.2.drop j).all gu&&(B.drop (i+1)).all λ b=>X (J b.2<=20)&&b.2.all gu)) b.2 (by omega)
    (λ d=>aw (by
     simp only[SM,Do];refine ao f (ai d ?_);rw[x,bO];exact A))
    (λ j a G p q o w z=>aw (by
     simp only[SM,Do,aA];rw[p,dt];refine ao f (ah q (ao f (ao o (ag (qop a) ?_))));cases F:gu a with
     |false=>exact ah rfl (aq _)
     |true=>apply ai rfl;rw[w];exact z))
   exact(k 0 (aG _)).res (by rw[bF])))
 exact(bd (L:=λ m k=>(jY m k).1 0 l P r B) (n 0 (aG _))).res (by rw[bF])
def qlx(l:aa T)(d:SmL 100 l):Ev (λ m _=>tV m l) (gp [] l):=by
 have p:=d.1;apply aF;simp only[qgM,CC]
 have a:=aV (P:=λ i=>Ev (λ m k=>tz m k l i) (gp (l.take i) (l.drop i))) l (by omega)
  (λ f=>aw (by
   simp only[RT,CA];exact ai f (al (by rw[bO];rfl))))
  (λ i x b s f e r u=>aw (by
   have q:=getElem?_lt b;have j:=d.2 x (aK b);have c:SmL 100 (l.take i):=⟨by rw[bg];omega,λ t o=>d.2 t (gd o)⟩
   have n:=c.sz;simp only[RT,CA,aA,GH];rw[s,gp];refine ah f (ao e (ak (λ h=>al (by rw[bo (ay.1 (bnt.1 h))];rfl)) λ h=>?_));rw[bf (aB.1 (bnf.1 h)),bU];refine ao e (ag (lT x) (ak (λ h=>al (by rw[bo (ay.1 (bnt.1 h))];rfl)) λ h=>?_));rw[bf (aB.1 (bnf.1 h)),bU];refine ah (by unfold inb;rw[df];omega) (ah (by unfold inb;rw[df];omega) (ao e (ag (NJ (l.take i) x) ?_)));by_cases g:x∈l.take i
   .rw[bf g];exact ah rfl (aq _)
   .rw[bo g,r];refine ai rfl (u.res ?_);rw[show l.take (i+1)=l.take i++[x] by rw[eI,b];rfl];rfl))
 exact bd (L:=λ m k=>tz m k l 0) (a 0 (aG _))
def qnH(b:de)(g:SmL 6 b.2.1)(n:SmL 6 b.2.2.1):Ev (λ m _=>Dq m b) (gp [] (b.2.1++b.2.2.1)&&((b.2.1.all λ x=>X (x.sort=1))&&b.2.2.1.all λ x => !X (x.sort=1) && !X (x.sort=5))):=by
 let⟨f,P,a,B⟩:=b;have g:SmL 6 P:=g;have n:SmL 6 a:=n;have z:=g.1;have A:=n.1;show Ev _ (gp [] (P++a)&&((P.all λ x=>X (x.sort=1))&&a.all λ x => !X (x.sort=1) && !X (x.sort=5)))
 have r:=aV (P:=λ i=>Ev (λ m k=>(jx m k).2 i f P a B) ((a.drop i).all λ x => !X (x.sort=1) && !X (x.sort=5))) a (by omega)
  (λ c=>aw (by
   simp only[RM,Cs];exact ai c (al (by rw[bO];rfl))))
  (λ i x u p c j o q=>aw (by
   simp only[RM,Cs];rw[p,dt];refine ah c (ao j (ak (λ h=>al (by rw[bf (aB.1 h)];rfl)) λ h=>?_));rw[bo (ay.1 h)];refine ao j (ak (λ h=>al (by rw[bf (aB.1 h)];rfl)) λ h=>?_);rw[bo (ay.1 h),o];exact q))
 have s:=aV (P:=λ i=>Ev (λ m k=>(jx m k).1 i f P a B) (((P.drop i).all λ x=>X (x.sort=1))&&a.all λ x => !X (x.sort=1) && !X (x.sort=5))) P (by omega)
  (λ c=>aw (by
   simp only[RN,Cx];exact ai c ((r 0 (aG _)).res (by rw[bO,bF];rfl))))
  (λ i x u p c j o q=>aw (by
   simp only[RN,Cx];rw[p,dt];refine ah c (ao j (ak (λ h=>al (by rw[bo (ay.1 (bnt.1 h))];rfl)) λ h=>?_));rw[bf (aB.1 (bnf.1 h)),o];exact q))
 have d:∀l:aa T,l=P++a->Ev (λ m _=>ab (tV m l) λ v=>cond (am v) (Z Y) ((jx m m).1 0 f P a B)) (gp [] (P++a)&&((P.all λ x=>X (x.sort=1))&&a.all λ x => !X (x.sort=1) && !X (x.sort=5))):=λ l y=>by
  subst y;refine ag (qlx (P++a) ⟨by rw[aO];omega,λ t w=>(aR.1 w).elim (g.2 t) (n.2 t)⟩) ?_;cases gp [] (P++a)with
  |false=>exact ah rfl (aq _)
  |true=>exact ai rfl ((bd (L:=λ m k=>(jx m k).1 0 f P a B) (s 0 (aG _))).res (by rw[bF];rfl))
 apply aF;simp only[qfT,Ct];refine ah (bD (by simp;omega)) (oJ (λ e=>?_) λ x t e=>?_)
 .subst e;refine ah (bD (by simp;omega)) (oJ (λ e=>?_) λ x t e=>?_)
  .subst e;exact d [] rfl
  .subst e;exact d _ rfl
 .subst e;exact ah (bD (by simp at z |-;omega)) (d _ rfl)
def qrM(a:iN)(B:aa gz)(i:Nat)(A:aa iN)(j:Nat)(x:A[j]?=Z a)(y:J A<=20){r:Bool}(f:gu a=O->Ev (λ m k=>(dW m k).2.2 B (J B) i A (J A) ((j+1:Nat):Int)) r)(t:gu a=Y->r=Y):Ev (λ m k=>(dW m k).2.2 B (J B) i A (J A) j) r:=by
 have z:=getElem?_lt x;have u:iw .i64 (av (j:Int) 1)=((j+1:Nat):Int):=by rw[show av (j:Int) 1=((j+1:Nat):Int)from by unfold av;omega,dC]
 apply aw;simp only[RR,CI,aA];rw[u];refine ah (aS.2 (by omega)) (ao (by rw[dz];exact x) ?_);have e:gu a=Y->Ev (λ _ _=>Z Y) r:=λ h=>by rw[t h];exact aq _
 have v:¬ a.1=1->¬ a.1=2->(a.1=3\/a.1=4)->Ev (λ m k=>ab (lK m a.2.1) λ p=>cond p (ab (lK m a.2.2.1) λ o=>cond o (cond (am (ile 0 a.2.2.2.1)) (Z Y) ((dW m k).2.2 B (J B) i A (J A) ((j+1:Nat):Int))) (Z Y)) (Z Y)) r:=λ c d n=>by
  have b:gu a=(fq a.2.1&&(fq a.2.2.1&&X (0<=a.2.2.2.1))):=by unfold gu;rw[ae c,ae d,af n]
  apply ag (Ha _);cases q:fq a.2.1 with
  |false=>exact ai rfl (e (by rw[b,q];rfl))
  |true=>
    refine ah rfl (ag (Ha _) ?_);cases l:fq a.2.2.1 with
    |false=>exact ai rfl (e (by rw[b,q,l];rfl))
    |true=>
      refine ah rfl (ak (λ h=>e ?_) λ h=>f ?_)
      .rw[bnt,jI]at h;rw[b,q,l,bo (by omega)];rfl
      .rw[bnf,fU]at h;rw[b,q,l,bf h];rfl
 by_cases c:a.1=1
 .have b:gu a=(X (a.2.2.2.1=0)&&X (J a.2.2.2.2=0)):=by unfold gu;rw[af c]
  refine ak (λ h=>?_) λ h=>?_
  .rw[aB]at h;refine ah (aB.2 c) (ak (λ g=>e ?_) λ g=>f ?_)
   .rw[bnt,ay]at g;rw[b,bf h,bo (by omega)];rfl
   .rw[bnf,aB]at g;rw[b,bf h,bf (by omega)];rfl
  .rw[ay]at h;exact ah (aB.2 c) (e (by rw[b,bo h];rfl))
 by_cases d:a.1=2
 .have b:gu a=(fq a.2.2.1&&(X (a.2.2.2.1=0)&&X (J a.2.2.2.2=0))):=by unfold gu;rw[ae c,af d]
  refine ak (λ h=>?_) λ h=>?_
  .rw[aB]at h;refine ai (ay.2 c) (ah (aB.2 d) (ak (λ g=>?_) λ g=>e ?_))
   .rw[aB]at g;apply ag (Ha _);cases l:fq a.2.2.1 with
    |false=>exact ah rfl (e (by rw[b,l];rfl))
    |true=>exact ai rfl (f (by rw[b,l,bf h,bf (by omega)];rfl))
   .rw[ay]at g;rw[b,bf h,bo (by omega)];cases fq a.2.2.1<;>rfl
  .rw[ay]at h;exact ai (ay.2 c) (ah (aB.2 d) (e (by rw[b,bo h];cases fq a.2.2.1<;>rfl)))
 have w:Ev (λ m k=>cond (ieq a.1 3) (ab (lK m a.2.1) λ p=>cond p (ab (lK m a.2.2.1) λ o=>cond o (cond (am (ile 0 a.2.2.2.1)) (Z Y) ((dW m k).2.2 B (J B) i A (J A) ((j+1:Nat):Int))) (Z Y)) (Z Y)) (cond (ieq a.1 4) (ab (lK m a.2.1) λ p=>cond p (ab (lK m a.2.2.1) λ o=>cond o (cond (am (ile 0 a.2.2.2.1)) (Z Y) ((dW m k).2.2 B (J B) i A (J A) ((j+1:Nat):Int))) (Z Y)) (Z Y)) (Z Y))) r:=by
  by_cases n:a.1=3
  .exact ah (aB.2 n) (v c d (.inl n))
  apply ai (ay.2 n);by_cases s:a.1=4
  .exact ah (aB.2 s) (v c d (.inr s))
  .exact ai (ay.2 s) (e (by unfold gu;rw[ae c,ae d,ae λ h=>h.elim n s]))
 exact ak (λ _=>ai (ay.2 c) (ai (ay.2 d) w)) λ _=>ai (ay.2 c) (ai (ay.2 d) w)
def qpp(d:de)(p:SmL 6 d.2.1)(q:SmL 6 d.2.2.1)(I:J d.2.2.2<=1000000):Ev (λ m _=>DZ m d) ((gp [] (d.2.1++d.2.2.1)&&ky (J d.2.1) 0 (d.2.1++d.2.2.1))&&jG d.2.2.2):=by
 let⟨F,P,n,B⟩:=d;have p:SmL 6 P:=p;have q:SmL 6 n:=q;have I:J B<=1000000:=I;have h1:=p.1;have h2:=q.1;show Ev _ ((gp [] (P++n)&&ky (J P) 0 (P++n))&&jG B);obtain⟨l,H⟩:∃l,l=P++n:=⟨_,rfl⟩
 have g:SmL 12 l:=by rw[H];exact⟨by rw[aO];omega,λ t u=>(aR.1 u).elim (p.2 t) (q.2 t)⟩
 have S:=g.1
 have kb:=aV (P:=λ i=>Ev (λ m k=>(dW m k).2.1 B (J B) i) ((B.drop i).all λ b=>X (J b.2<=20)&&b.2.all gu)) B (by omega)
  (λ e=>aw (by
   simp only[R9,CL];exact ai e (al (by rw[bO];rfl))))
  (λ i b o A e y w D=>aw (by
   simp only[R9,CL];rw[A,dt];refine ah e (ao y (ak (λ h=>al (by rw[aS]at h;rw[bo (by omega)];rfl)) λ h=>?_));rw[aT]at h;rw[bf (show J b.2<=20 by omega),bU]
   have k:=aV (P:=λ j=>Ev (λ m k=>(dW m k).2.2 B (J B) i b.2 (J b.2) j) ((b.2.drop j).all gu&&(B.drop (i+1)).all λ b=>X (J b.2<=20)&&b.2.all gu)) b.2 (by omega)
    (λ e=>aw (by
     simp only[RR,CI];apply ai e;rw[w,bO];exact D))
    (λ j a ha z ad W hj hQ=>by
     rw[z,dt];exact qrM a B i b.2 j ha (by omega) (λ v=>by rw[v,bU];exact hQ) (λ v=>by rw[v];rfl))
   exact(k 0 (aG _)).res (by rw[bF])))
 have K:=aV (P:=λ i=>Ev (λ m k=>(dW m k).1 l (J l) i F P n B l) ((gp (l.take i) (l.drop i)&&ky (J P) i (l.drop i))&&jG B)) l (by omega)
  (λ e=>aw (by
   simp only[R8,CD,aA];rw[bO];show Ev _ (jG B);apply ai e;cases f:B with
   |nil=>exact ah rfl (aq _)
   |cons r E=>
   rw[<-f];have h0:B[0]?=Z r:=by rw[f];rfl
   have R:J B≠0:=by rw[f];simp
   have N:jG B=(X (J B<=12)&&(fq r.1&&B.all λ b=>X (J b.2<=20)&&b.2.all gu)):=by rw[f];rfl
   rw[N];refine ai (ay.2 (by omega)) (ak (λ h=>al (by rw[aS]at h;rw[bo (by omega)];rfl)) λ h=>?_);rw[aT]at h;rw[bf (by omega),bU];refine ao (by rw[lV];exact h0) (ag (Ha r.1) ?_);cases hz:fq r.1 with
   |false=>exact ah rfl (aq _)
   |true=>
     refine ai rfl ((kb 0 (aG _)).res ?_);rw[bF];rfl))
  (λ i x o A e y w D=>aw (by
   have T:=getElem?_lt o;have M:=g.2 x (aK o);have s:SmL 12 (l.take i):=⟨by rw[bg];omega,λ t u=>g.2 t (gd u)⟩
   have Q:=s.sz;simp only[R8,CD,aA,GH];rw[A,gp,ky];have c:∀b:Bool,b=Y->Ev (λ _ _=>Z Y) (b&&jG B):=λ b C=>by rw[C];exact aq _
   refine ah e (ao y (ak (λ h=>c _ (by rw[bo (ay.1 (bnt.1 h))];rfl)) λ h=>?_));rw[bf (aB.1 (bnf.1 h)),bU];refine ag (lW x) (ak (λ h=>c _ (by rw[bo (ay.1 (bnt.1 h))];rfl)) λ h=>?_);rw[bf (aB.1 (bnf.1 h)),bU];refine ah (by unfold inb;rw[df];omega) (ah (by unfold inb;rw[df];omega) (ag (AN (l.take i) x) ?_));by_cases G:x∈l.take i
   .rw[bf G];exact ah rfl (c _ rfl)
   .rw[bo G];apply ai rfl
    have C:cQ (ilt (i:Int) (J P:Int)) (ieq x.sort 1)=(X (i<J P)==X (x.sort=1)):=by
     have e1:ilt (i:Int) (J P:Int)=X (i<J P):=by rw[gG,aS,df];omega
     have e2:ieq x.sort 1=X (x.sort=1):=by rw[gG,aB,df]
     rw[e1,e2];cases X (i<J P)<;>cases X (x.sort=1)<;>rfl
    rw[C];cases hq:(X (i<J P)==X (x.sort=1))with
    |false=>exact ah rfl (c _ (by simp))
    |true=>
      refine ai rfl (ak (λ h=>c _ (by rw[bf (aB.1 h)];simp)) λ h=>?_);rw[bo (ay.1 h),w];apply D.res;rw[show l.take (i+1)=l.take i++[x] by rw[eI,o];rfl];rfl))
 apply aF;simp only[qgs,CT];apply ag (F2 P n);rw[<-H];exact(bd (L:=λ m k=>(dW m k).1 l (J l) 0 F P n B l) (K 0 (aG _))).res (by rw[bF,yQ])
def ov(a:de):Int:=
 if a.1<0\/4<=a.1\/J a.2.1<2\/4<J a.2.1\/(J a.2.1:Int)<=a.1 then 7
 else if((gp [] (a.2.1++a.2.2.1)&&ky (J a.2.1) 0 (a.2.1++a.2.2.1))&&jG a.2.2.2)=O then(ej a (J a.2.2.2)).2 else 1
structure SmM (m:de):Prop where
 p:SmL 6 m.2.1
 f:SmL 6 m.2.2.1
 n:m.2.2.2.length<=1000000
 b:∀b∈m.2.2.2,b.2.length<=20->SmB b
def qap{a:de}(h:ov a=0):(gp [] (a.2.1++a.2.2.1)&&ky (J a.2.1) 0 (a.2.1++a.2.2.1))=O/\jG a.2.2.2=O/\(ej a (J a.2.2.2)).2=0/\0<=a.1/\a.1<4/\2<=J a.2.1/\J a.2.1<=4/\a.1<J a.2.1:=by
 unfold ov at h;split at h
 .cases h
 .rename_i c;split at h
  .next b=>rw[aJ]at b;exact⟨b.1,b.2,h,by omega,by omega,by omega,by omega,by omega⟩
  .cases h
def YT{a:de}(l:SmM a){F:Nat->Nat->ac Int}(c:((gp [] (a.2.1++a.2.2.1)&&ky (J a.2.1) 0 (a.2.1++a.2.2.1))&&jG a.2.2.2)=O->Ev F (ej a (J a.2.2.2)).2)(d:((gp [] (a.2.1++a.2.2.1)&&ky (J a.2.1) 0 (a.2.1++a.2.2.1))&&jG a.2.2.2)=Y->Ev F 1):Ev (λ m k=>cond (ilt a.1 0) (Z 7) (cond (ile 4 a.1) (Z 7) (cond (ilt (J a.2.1) 2) (Z 7) (cond (ilt 4 (J a.2.1)) (Z 7) (cond (ile (J a.2.1) a.1) (Z 7) (F m k)))))) (ov a):=by
 unfold ov;refine ak (λ h=>al (by rw[aS]at h;rw[af (.inl h)])) λ j=>?_;refine ak (λ h=>al (by rw[fU]at h;rw[af (.inr (.inl h))])) λ i=>?_;refine ak (λ h=>al (by rw[aS]at h;rw[af (.inr (.inr (.inl (by omega))))])) λ g=>?_;refine ak (λ h=>al (by rw[aS]at h;rw[af (.inr (.inr (.inr (.inl (by omega)))))])) λ f=>?_;refine ak (λ h=>al (by rw[fU]at h;rw[af (.inr (.inr (.inr (.inr h))))])) λ e=>?_;rw[aT]at j g f;rw[jI]at i e;rw[ifN];cases b:((gp [] (a.2.1++a.2.2.1)&&ky (J a.2.1) 0 (a.2.1++a.2.2.1))&&jG a.2.2.2)with
 |true=>rw[af rfl];exact c b
 |false=>rw[ae (by decide)];exact d b
def Md(c:de)(a:SmM c):Ev (λ m _=>zq m c) (ov c):=by
 have d:=qpp c a.p a.f a.n;apply aF;simp only[qhw,Kq];refine YT a (λ g=>ag d ?_) λ k=>ag d ?_
 .rw[g];rw[aJ,aJ]at g;let⟨j,i⟩:=L6 g.2;have e:=If _ _ g.1.1 lE;rw[iR]at e;exact ai rfl (ag (XE c a.p a.f e _ (au _) j λ b h=>a.b b h (i b h)) (aq _))
 .rw[k];exact ah rfl (aq _)
def LF(a:de)(c:SmM a):Ev (λ m _=>FT m a) (ov a):=by
 have d:=qnH a c.p c.f;rw[<-Ms a.2.2.1 a.2.1 0,bS]at d;have e:=qnW a c.n;apply aF;simp only[qkw,KP];refine YT c (λ h=>ag d ?_) λ h=>ag d ?_
 .rw[aJ]at h;rw[h.1];refine ai rfl (ag e ?_);rw[h.2];let⟨j,i⟩:=L6 h.2;exact ai rfl (ag (Vu a c.p c.f _ (au _) j λ b g=>c.b b g (i b g)) (aq _))
 .cases k:(gp [] (a.2.1++a.2.2.1)&&ky (J a.2.1) 0 (a.2.1++a.2.2.1))with
  |false=>exact ah rfl (aq _)
  |true=>
    rw[k,bU]at h;refine ai rfl (ag e ?_);rw[h];exact ah rfl (aq _)
section
open Go.Sort Proofs Proofs.YtfepnknpfhiemaaGreatDoor
abbrev Bd:=T×T
def nh(l:aa Bd):Prop:=l.Pairwise λ p q=>aM p.1 q.1=-1
def SmQ(l:aa Bd):Prop:=J l<=3000/\∀p∈l,size p.1<=100000/\size p.2<=100000
def WI:∀(l m:aa Bd),nh l->nh m->(∀x,x∈l↔x∈m)->l=m
 |[],[],_,_,_=>rfl
 |[],y::m,_,_,h=>absurd ((h y).2 (bj ..)) (by simp)
 |x::l,[],_,_,h=>absurd ((h x).1 (bj ..)) (by simp)
 |x::l,y::m,n,k,h=>by
   let⟨c,i⟩:=wu.1 n;let⟨b,g⟩:=wu.1 k;have f:=(h x).1 (bj ..);have d:=(h y).2 (bj ..)
   have e:x=y:=by
    obtain e|f:=be.1 f
    .exact e
    obtain e|d:=be.1 d
    .exact e.symm
    exact absurd (lX (c y d) (b x f)) jX
   subst e;rw[WI l m i g λ z=>?_];constructor
   .intro a;obtain e|j:=be.1 ((h z).1 (bk _ a))
    .subst e;exact absurd (c z a) jX
    .exact j
   .intro a;obtain e|j:=be.1 ((h z).2 (bk _ a))
    .subst e;exact absurd (b z a) jX
    .exact j
theorem qp8(l:List Bd)(hl:l.length<=100000)(hs:∀ p∈l,size p.1<=1000000000)(hnd:(l.map Prod.fst).Nodup):∃ l',Ev (λ m _=>wy m l) l'/\l'.Perm l/\nh l':=by
 cases hl0:l with
 | nil=>exact⟨[],aF (Rg (aq _) λ m _=>rfl),.refl _,List.Pairwise.nil⟩
 | cons x0 r0 =>
   rw[<- hl0]
   obtain⟨B,hB⟩:=M3 (F := λ m x y=>cZ m x y) (l.map Prod.fst) λ x hx y hy=>nN x (by
    obtain⟨p,hp,rfl⟩:=bE.1 hx;exact hs p hp) y (by
    obtain⟨p,hp,rfl⟩:=bE.1 hy;exact hs p hp)
   have hcmp:∀ m,B+1<=m->∀ x∈l,∀ y∈l,lI m x y=some (aM x.1 y.1) := λ m hm x hx y hy=>by
    obtain⟨n,rfl⟩:∃ n,m=n+1:=⟨m-1,by omega⟩
    simp only[qep,JX,aA];rw[hB n (by omega) x.1 (nK hx) y.1 (nK hy)];rfl
   have hcfG:∀ F:Bd->Bd->Option Int,(∀ x∈l,∀ y∈l,F x y=some (aM x.1 y.1))->dd F l=dd (λ x y=>some (aM x y)) (l.map Prod.fst) := λ F hF=>by
    funext i j;unfold dd;rw[cj,di,di];cases hx:l[i % l.length]? with
    | none=>rfl
    | some x=>cases hy:l[j % l.length]? with
      | none=>rfl
      | some y=>simp only[nF];rw[hF x (aK hx) y (aK hy)]
   have hO:SWO (ltOf (dd (λ x y:Bd=>some (aM x.1 y.1)) l)):=by
    rw[hcfG _ λ _ _ _ _=>rfl];exact qaR _
   obtain⟨hp,hq⟩:=LD (λ x y:Bd=>some (aM x.1 y.1)) l hO;have hlt:∀ i∈eJ (λ x y:Bd=>some (aM x.1 y.1)) l,i<l.length := λ i hi=>jT.1 (hp.mem_iff.1 hi)
   have hperm:(pick l (eJ (λ x y:Bd=>some (aM x.1 y.1)) l)).Perm l:=by
    have:=hp.filterMap λ i=>l[i]?
    have hr:(List.range l.length).filterMap (λ i=>l[i]?)=l:=by
     have:∀ l:List Bd,(List.range l.length).filterMap (λ i=>l[i]?)=l := λ l=>by
      induction l with
      | nil=>rfl
      | cons x l ih =>
        rw[bH,qdb,BL,List.filterMap_map];simpa[BH]using ih
     exact this l
    rw[hr]at this;exact this
   refine⟨pick l (eJ (λ x y:Bd=>some (aM x.1 y.1)) l),aF ⟨B+1,λ m k hm _=>?_⟩,hperm,?_⟩
   ·show wy (m+1) l=_;rw[qdn];have hcf:dd (lI m) l=dd (λ x y:Bd=>some (aM x.1 y.1)) l:=(hcfG _ (hcmp m hm)).trans (hcfG _ λ _ _ _ _=>rfl).symm;have hall:kx (lI m) l=true:=bB.2 λ x hx=>bB.2 λ y hy=>by rw[hcmp m hm x hx y hy];rfl
    have hix:eJ (lI m) l=eJ (λ x y:Bd=>some (aM x.1 y.1)) l:=by unfold eJ;rw[hcf]
    have e:pd (lI m) l=cond (Nat.ble l.length 100000&&(kx (lI m) l&&sF l.length (ltOf (dd (lI m) l)))) (some (pick l (eJ (lI m) l))) none:=by rw[hl0];rfl
    rw[e,hcf,hall,hix,Yq hO,show Nat.ble l.length 100000=true from qM hl];rfl
   ·have hnd':((pick l (eJ (λ x y:Bd=>some (aM x.1 y.1)) l)).map Prod.fst).Nodup:=(hperm.map Prod.fst).nodup_iff.2 hnd
    have hnd2:(pick l (eJ (λ x y:Bd=>some (aM x.1 y.1)) l)).Pairwise λ p q=>p.1≠q.1:=by
     have:((pick l (eJ (λ x y:Bd=>some (aM x.1 y.1)) l)).map Prod.fst).Pairwise (· ≠ ·):=hnd'
     rwa [List.pairwise_map]at this
    refine List.Pairwise.imp₂ (R := λ p q:Bd=>aM q.1 p.1≠-1) (S := λ p q=>p.1≠q.1) (λ p q h1 h2=>?_) ?_ hnd2
    ·rcases GU p.1 q.1 with h | h | h
     ·exact h
     ·exact absurd h h2
     ·exact absurd h h1
    ·generalize eJ (λ x y:Bd=>some (aM x.1 y.1)) l=ix at hp hq hlt |-
     have hn:ix.length=l.length:=by rw[hp.length_eq,wm]
     unfold pick;rw[List.pairwise_filterMap,BO];intro i j hi hj hij x hx y hy hc;have:=hq i j (aG _) hij (by omega);rw[pE ix.toArray i (by simpa using hi),pE ix.toArray j (by simpa using hj)]at this;have h1:=hlt _ (gC hi);have h2:=hlt _ (gC hj);unfold ltOf dd at this;rw[pF]at this;simp only[List.getElem_toArray,qJ h1,qJ h2,hx,hy]at this;rw[hc]at this;exact this (by decide)
def qm3(a b:aa Bd)(h:J a+J b<=100000000:=by omega):Ev (λ m _=>B5 m [a,b]) ((),(a++b,())):=by
 apply aF;simp only[qdS,B3]
 have g:∀n:Nat,n<=100000000->wB 0 (n:Int)=Z ((),[],()):=λ n e=>by
  unfold wB;rw[show inb (n:Int) 100000000=O from by unfold inb;rw[df];omega];rfl
 have c:Ev (λ m k=>(kT m k).2 [a,b] (J ([a,b]:aa (aa Bd)):Nat) 0 []) ((),(a++b,())):=by
  apply aw;simp only[JP,yX];refine ah rfl (ao (a:=a) rfl (ah (bD (by simp;omega)) (aw ?_)));simp only[JP,yX];refine ah rfl (ao (a:=b) rfl (ah (bD (by simp;omega)) (aw ?_)));simp only[JP,yX];exact ai rfl (aq _)
 refine bd (L:=λ m k=>(kT m k).1 [a,b] 0 [a,b] (J ([a,b]:aa (aa Bd)):Nat) 0) (aw ?_);simp only[JQ,yW];have e1:iw .i64 (av 0 (J a:Int))=((J a:Nat):Int):=by rw[show av 0 (J a:Int)=((J a:Nat):Int) by unfold av;omega,dC]
 refine ah rfl (ao (a:=a) rfl ?_);rw[e1];refine ai (aT.2 (by omega)) (aw ?_);simp only[JQ,yW];have d:iw .i64 (av (J a:Int) (J b:Int))=((J a+J b:Nat):Int):=by rw[Aq,dC]
 refine ah rfl (ao (a:=b) rfl ?_);rw[d];refine ai (aT.2 (by omega)) (aw ?_);simp only[JQ,yW];exact ai rfl (ao (g _ h) c)
def qrn(a b:aa Bd)(h:J a+J b<=100000)(e:∀p∈a++b,size p.1<=1000000000)(c:((a++b).map Prod.fst).Nodup):∃l',Ev (λ m _=>zc m a b) l'/\l'.Perm (a++b)/\nh l':=by
 let⟨l',g,d,f⟩:=qp8 (a++b) (by rw[aO];omega) e c;refine⟨l',aF ?_,d,f⟩;simp only[qeI,J2];exact ag (qm3 a b) (ag g (ah (by rw[d.length_eq];exact Jw _) (aq _)))
def qqU{l:aa Bd}(P:nh l)(N:SmQ l)(t:T)(ht:size t<=100000):∀(d lo b:Nat),b<=lo+d->lo<=b->b<=J l->(∀k p,k<lo->l[k]?=Z p->aM p.1 t=-1)->(∀k p,b<=k->l[k]?=Z p->aM p.1 t≠-1)->
  ∃(x:Nat) (f:Bool),Ev (λ m k=>tf m k l (J l) lo b t.kind t.name t.sort t.kids) ((x:Int),f)/\(f=O->∃p,l[x]?=Z p/\p.1=t)/\(f=Y->∀p∈l,p.1≠t):=by
 have S:=N.1
 have w:∀p∈l,Ev (λ m _=>zb m p t) (aM p.1 t):=λ p r=>by
  apply aF;simp only[qez,J0,aA];have:=(N.2 p r).1;exact ag (nN p.1 (by omega) t (by omega)) (aq _)
 intro d
 induction d with
 |zero=>
   intro lo b W Q K y B;have:lo=b:=by omega
   subst this;by_cases n:lo<J l
   .obtain⟨p,g⟩:∃p,l[lo]?=Z p:=⟨_,aU n⟩
    refine⟨lo,ieq (aM p.1 t) 0,aw ?_,λ h=>⟨p,g,lg _ _ (aB.1 h)⟩,λ h q D e=>?_⟩
    .simp only[BQ,wx,aA];rw[show T.mk t.kind t.name t.sort t.kids=t from aA t];exact ai (aT.2 (Js _)) (ah (aS.2 (by omega)) (ao (a:=p) (by rw[dz,g]) (ag (w p (aK g)) (aq _))))
    .rw[ay]at h;let⟨k,o⟩:=qtA.1 D;obtain v|rfl|v:=Nat.lt_trichotomy k lo
     .have:=y k q v o;rw[e,pT]at this;cases this
     .rw[g]at o;cases o;rw[e,pT]at h;exact h rfl
     .have:=BO.1 P lo k n (getElem?_lt o) v;rw[Re n|>.2 g,Re (getElem?_lt o)|>.2 o,e]at this;exact B lo p (au _) g this
   .refine⟨lo,Y,aw ?_,(λ h=>by cases h),λ _ q D e=>?_⟩
    .simp only[BQ,wx,aA];exact ai (aT.2 (Js _)) (ai (aT.2 (by omega)) (aq _))
    .let⟨k,o⟩:=qtA.1 D;have:=y k q (by have:=getElem?_lt o;omega) o;rw[e,pT]at this;cases this
 |succ d C=>
   intro lo b W Q K y B;by_cases he:lo=b
   .exact C lo b (by omega) Q K y B
   have R:(lo+b)/2<b:=by omega
   have E:lo<=(lo+b)/2:=by omega
   have s:=ZX lo b;generalize (lo+b)/2=c at *;have n:c<J l:=by omega
   obtain⟨p,g⟩:∃p,l[c]?=Z p:=⟨_,aU n⟩
   have z:∀{i j:Nat}{p q:Bd},l[i]?=Z p->l[j]?=Z q->i<j->aM p.1 q.1=-1:=λ{i j p q} b F G=>by
    have:=BO.1 P i j (getElem?_lt b) (getElem?_lt F) G
    rwa [Re (getElem?_lt b)|>.2 b,Re (getElem?_lt F)|>.2 F]at this
   by_cases A:aM p.1 t=-1
   .let⟨x,f,M,L⟩:=C (c+1) b (by omega) (by omega) K (λ k q o r=>by
      by_cases u:k=c
      .subst u;rw[g]at r;cases r;exact A
      .exact dA.trans _ _ _ (z r g (by omega)) A) B
    refine⟨x,f,aw ?_,L⟩;simp only[BQ,wx,aA];rw[show T.mk t.kind t.name t.sort t.kids=t from aA t,s];refine ah (aS.2 (by omega)) (ao (a:=p) (by rw[dz,g]) (ag (w p (aK g)) (ah (aS.2 (by omega)) ?_)));rw[show av ((c:Nat):Int) 1=((c+1:Nat):Int)from by unfold av;omega,dC];exact M
   .let⟨x,f,M,L⟩:=C lo c (by omega) E (by omega) y (λ k q o r=>by
      by_cases u:k=c
      .subst u;rw[g]at r;cases r;exact A
      .intro H;exact A (dA.trans _ _ _ (z g r (by omega)) H))
    refine⟨x,f,aw ?_,L⟩;simp only[BQ,wx,aA];rw[show T.mk t.kind t.name t.sort t.kids=t from aA t,s];have I:0<=aM p.1 t:=by obtain h|h|h:=dA.rng p.1 t<;>omega
    exact ah (aS.2 (by omega)) (ao (a:=p) (by rw[dz,g]) (ag (w p (aK g)) (ai (aT.2 I) M)))
def qpL{l:aa Bd}{t:T}(h:∀p∈l,p.1≠t):lkA l t=U:=by
 unfold lkA;rw[List.find?_eq_none.2 λ p a=>by rw[gI];exact h p a];rfl
def qsJ{l:aa Bd}(c:nh l){i:Nat}{p:Bd}(a:l[i]?=Z p):lkA l p.1=Z p.2:=by
 induction l generalizing i with
 |nil=>simp at a
 |cons q l b=>
   let⟨f,d⟩:=wu.1 c;rw[WN];cases i with
   |zero=>simp at a;subst a;rw[af rfl]
   |succ i=>
     have a:l[i]?=Z p:=by simpa using a
     rw[ae (λ e=>by have:=f p (aK a);rw[e,pT]at this;cases this)];exact b d a
def qrU{l:aa Bd}(d:nh l)(i:SmQ l)(t:T)(h:size t<=100000):Ev (λ m _=>wI m l t) ((lkA l t).getD t,(lkA l t).isSome):=by
 let⟨g,f,q,o,n⟩:=qqU d i t h (J l) 0 (J l) (by omega) (aG _) (au _) (λ k p c=>by omega) (λ k p c b=>by rw[oI c]at b;cases b)
 have j:Ev (λ m _=>BS m l t) ((g:Int),f):=by
  apply aF;simp only[qdh,BR];exact bd (L:=λ m k=>tf m k l (J l) 0 (J l) t.kind t.name t.sort t.kids) q
 apply aF;simp only[qeX,J5,aA];apply ag j;cases f with
 |true=>
   obtain⟨p,e,rfl⟩:=o rfl;rw[qsJ d e];exact ai rfl (ao (a:=p) (by rw[dz,e]) (aq _))
 |false=>
   rw[qpL (n rfl)];exact ah rfl (aq _)
def qr3(l:aa Bd)(j:SmQ l)(t:T)(w:size t<=100000):Ev (λ m _=>Gz m l t) ((lkA l t).getD t):=by
 have p:=j.1;apply aF;simp only[qmz,E8]
 have f:=aV (P:=λ i=>∀a b c d,Ev (λ m k=>uE m k l i t.kind t.name t.sort t.kids a b c d) ((lkA (l.drop i) t).getD t)) l (by omega)
  (λ g a b c d=>aw (by
   simp only[T0,EY];rw[bO];exact ai g (al (aA t))))
  (λ i x o r g n q s a b c d=>aw (by
   let⟨v,u⟩:=j.2 x (aK o);simp only[T0,EY,aA];rw[show T.mk t.kind t.name t.sort t.kids=t from aA t,r,WN];refine ah g (ao n (ag (nW x.1 t) (ak (λ h=>?_) λ h=>?_)))
   .rw[af (gI.1 h)];exact ao n (aq _)
   .rw[ae (λ e=>by rw[gI.2 e]at h;cases h),q];exact s a b c d))
 exact(bd (L:=λ m k=>uE m k l 0 t.kind t.name t.sort t.kids 0 [] 0 []) (f 0 (aG _) 0 [] 0 [])).res (by rw[bF])
end
abbrev nD:=Int×aa (aa aN)
def vQ:aa (aa aN)->aa (aa aN)->Bool
 |_,[]=>O
 |s,a::r=>(eT a && !X (a∈s))&&vQ (s++[a]) r
def qm6(a:aa aN)(so:Int)(h:0<=so/\so<=5):bw (T.mk 2 a so [])=0↔eT a=O:=by
 have c:iY (T.mk 2 a so [])=eM (T.mk 2 a so []):=by rw[xn];rfl
 have b:eM (T.mk 2 a so [])=if eT a=O then 0 else 2:=by
  show oj 2 so 0 (eT a)=_;unfold oj;rw[af (.inr rfl),ifN]
 have f:size (T.mk 2 a so [])=1:=by rw[cM];rfl
 have d:=Ny (T.mk 2 a so []);unfold bw;rw[c,b];cases eT a with
 |true=>
   rw[af rfl,ae (by simp),ifN];exact⟨λ _=>rfl,λ _=>rfl⟩
 |false=>
   have e:(if Y=O then(0:Int)else 2)=2:=rfl;rw[e,af (by decide)];exact⟨λ h=>by omega,λ h=>by cases h⟩
def qqF(a:aa aN):Ev (λ m _=>Eg m a) (eT a):=by
 apply aF;simp only[qgL,Kj];refine ag (lW (T.mk 2 a 0 []) (by rw[cM];exact gV rfl)) (al ?_);rw[gG,aB,qm6 a 0 (by decide)]
def qmf(l:aa (aa aN))(a:aa aN)(o:J l<2^62):Ev (λ m _=>Ca m l a) (X (a∈l)):=by
 have d:=aV (P:=λ i=>∃b:Int,Ev (λ m k=>tl m k l a (J l) i) b/\(0<=b↔a∈l.drop i)) l o
  (λ c=>⟨-1,aw (by
   simp only[JV,yY];exact ai c (aq _)),IC _ (by rw[bO];exact sX)⟩)
  (λ i x t j c g p ⟨b,q,f⟩=>by
   by_cases e:a=x
   .refine⟨i,aw ?_,⟨λ _=>by rw[j,e];exact bj ..,λ _=>by omega⟩⟩;simp only[JV,yY];exact ah c (ao g (ah (cr.2 e) (aq _)))
   .refine⟨b,aw ?_,?_⟩
    .simp only[JV,yY];refine ah c (ao g (ai (cC.2 e) ?_));rw[p];exact q
    .rw[f,j,be];exact⟨.inr,λ h=>h.elim (λ s=>absurd s e) id⟩)
 let⟨b,r,n⟩:=d 0 (aG _);rw[bF]at n;apply aF;simp only[qd3,JU];refine ag (a:=b) (aF ?_) (al ?_)
 .simp only[qea,B9];exact bd (L:=λ m k=>tl m k l a (J l) 0) r
 .rw[gG,fU,n,df]
def oq(a:de)(s:nD):Bool:=X (s.1=a.1)&&(X (J s.2=J a.2.1)&&vQ [] s.2)
def Uw(a:de)(s:nD)(p:J s.2<=1000000):Ev (λ m _=>zg m a s) (oq a s):=by
 apply aF;simp only[qf2,Cy];unfold oq;refine ak (λ h=>al (by rw[bo (ay.1 (bnt.1 h))];rfl)) λ h=>?_;rw[bf (aB.1 (bnf.1 h)),bU];refine ak (λ h=>al (by have:=ay.1 (bnt.1 h);rw[bo (by omega)];rfl)) λ h=>?_;have:=aB.1 (bnf.1 h);rw[bf (show J s.2=J a.2.1 by omega),bU]
 have b:=aV (P:=λ i=>Ev (λ m k=>tv m k s.2 (J s.2) i s.1 s.2) (vQ (s.2.take i) (s.2.drop i))) s.2 (by omega)
  (λ c=>aw (by
   simp only[RK,Cu];exact ai c (al (by rw[bO];rfl))))
  (λ i x d l c j g n=>aw (by
   have f:=getElem?_lt d;simp only[RK,Cu,GH];rw[l,vQ];refine ah c (ao j (ag (qqF x) ?_));cases o:eT x with
   |false=>exact ah rfl (aq _)
   |true=>
     refine ai rfl (ah (by unfold inb;rw[df];omega) (ah (by unfold inb;rw[df];omega) (ag (qmf (s.2.take i) x (by rw[bg];omega)) ?_)));by_cases e:x∈s.2.take i
     .rw[bf e];exact ah rfl (aq _)
     .rw[bo e,g];refine ai rfl (n.res ?_);rw[show s.2.take (i+1)=s.2.take i++[x] by rw[eI,d];rfl];rfl))
 exact bd (L:=λ m k=>tv m k s.2 (J s.2) 0 s.1 s.2) (b 0 (aG _))
def UU(n:de)(s:nD)(F:J s.2<=1000000):Ev (λ m _=>F8 m n s) (oq n s):=by
 apply aF;simp only[qlr,EG];unfold oq;refine ak (λ h=>al (by rw[bo (ay.1 (bnt.1 h))];rfl)) λ h=>?_;rw[bf (aB.1 (bnf.1 h)),bU];refine ak (λ h=>al (by have:=ay.1 (bnt.1 h);rw[bo (by omega)];rfl)) λ h=>?_;have:=aB.1 (bnf.1 h);rw[bf (show J s.2=J n.2.1 by omega),bU]
 have o:=aV (P:=λ i=>Ev (λ m k=>(ke m k).1 i s.1 s.2) (vQ (s.2.take i) (s.2.drop i))) s.2 (by omega)
  (λ f=>aw (by
   simp only[Tm,Ey];exact ai f (al (by rw[bO];rfl))))
  (λ i x q B f r w D=>aw (by
   have v:=getElem?_lt q;simp only[Tm,Ey];rw[B,vQ];refine ah f (ao r (ag (Wy x) ?_));cases E:eT x with
   |false=>exact ah rfl (aq _)
   |true=>
     apply ai rfl;have g:J (s.2.take i)=i:=by rw[bg];omega
     have k:=aV (P:=λ j=>x ∉ (s.2.take i).take j->Ev (λ m k=>(ke m k).2 i j s.1 s.2) ((O && !X (x∈s.2.take i))&&vQ (s.2.take i++[x]) (s.2.drop (i+1)))) (s.2.take i) (by omega)
      (λ f b=>aw (by
       simp only[TE,EO];rw[cI]at b;rw[g]at f |-
       apply ai f;rw[bo b,w];apply D.res;rw[show s.2.take (i+1)=s.2.take i++[x] by rw[eI,q];rfl];rfl))
      (λ j y c A l z u C b=>aw (by
       simp only[TE,EO];have t:=getElem?_lt c;have p:s.2[j]?=Z y:=by rw[fR]at c;split at c<;>first|exact c|cases c
       rw[g]at l;refine ah l (ao (a:=y) (by rw[dz];exact p) (ao r ?_));by_cases e:y=x
       .refine ah (cr.2 e) (al ?_);rw[bf (e▸aK c)];rfl
       .apply ai (cC.2 e);rw[u];apply C;rw[eI,c];intro d;obtain d|d:=aR.1 d
        .exact b d
        .simp at d;exact e d.symm))
     exact k 0 (aG _) (by simp)))
 exact bd (L:=λ m k=>(ke m k).1 0 s.1 s.2) (o 0 (aG _))
def qu(n:Nat):aa aN:=if n<10 then[UInt8.ofNat (48+n)]else[UInt8.ofNat (48+n/10),UInt8.ofNat (48+n%10)]
def qqd(n:Nat):(List.range 100).all (λ i=>Fs (n+8) (i:Int)==Z (qu i))=O:=by kernel_rfl
def qnu(n:Nat):(List.range 100).all (λ i=>Fx (n+8) (i:Int)==Z (qu i))=O:=by kernel_rfl
def qo4(i:Nat)(h:i<100):Ev (λ m _=>Fs m (i:Int)) (qu i):=⟨8,λ m k a _=>by
 obtain⟨n,rfl⟩:∃n,m=n+8:=⟨m-8,by omega⟩
 exact eq_of_beq (bB.1 (qqd n) i (jT.2 h))⟩
def qoB(i:Nat)(h:i<100):Ev (λ m _=>Fx m (i:Int)) (qu i):=⟨8,λ m k a _=>by
 obtain⟨n,rfl⟩:∃n,m=n+8:=⟨m-8,by omega⟩
 exact eq_of_beq (bB.1 (qnu n) i (jT.2 h))⟩
def XU(i:Nat):J (qu i)<=2:=by unfold qu;split<;>simp
def Hv{a b:aa aN}(h:J a+J b<=100000000):ln a b=O:=by
 unfold ln;rw[df];have:IntKind.i64.max=9223372036854775807:=rfl;omega
def lD(a i:Nat):Nat:=if i=0 then a else if i<=a then i-1 else i
def dh(a:Nat)(b:aa (aa aN)):Nat->aa T->aa Bd
 |_,[]=>[]
 |i,x::r=>(x,T.mk 2 (b.getD (lD a i) []) 1 [])::dh a b (i+1) r
def frN(a:Nat)(x:T):aa aN:=x.name++[35]++qu a
def cO(a:Nat)(l:aa T):aa Bd:=l.map λ x=>(x,T.mk 2 (frN a x) x.sort [])
def dL:aa Bd->Bd->aa Bd
 |[],b=>[b]
 |p::r,b=>if aM b.1 p.1=-1 then b::p::r else p::dL r b
def MV:∀(l:aa Bd) (b x:Bd),x∈dL l b↔x=b\/x∈l
 |[],b,x=>by simp[dL]
 |p::r,b,x=>by
   simp only[dL];split
   .rw[be]
   .rw[be,MV r,be];exact⟨λ h=>h.elim (λ h=>.inr (.inl h)) λ h=>h.elim .inl λ h=>.inr (.inr h),λ h=>h.elim (λ h=>.inr (.inl h)) λ h=>h.elim .inl λ h=>.inr (.inr h)⟩
def XX:∀(l:aa Bd) (b:Bd),nh l->(∀p∈l,p.1≠b.1)->nh (dL l b)
 |[],b,_,_=>Q7 _ _
 |p::r,b,h,d=>by
   let⟨f,g⟩:=wu.1 h;simp only[dL];split
   .next c=>exact wu.2 ⟨λ q a=>(be.1 a).elim (λ e=>e▸c) λ a=>lX c (f q a),h⟩
   .rename_i c;refine wu.2 ⟨λ q a=>?_,XX r b g λ q a=>d q (bk _ a)⟩;obtain rfl|a:=(MV r b q).1 a
    .obtain e|e|e:=GU p.1 q.1
     .exact e
     .exact absurd e (d p (bj ..))
     .exact absurd e c
    .exact f q a
def WL:∀(l:aa Bd) (b:Bd),J (dL l b)=J l+1
 |[],b=>rfl
 |p::r,b=>by
   simp only[dL];split
   .rfl
   .rw[bH,WL r,bH]
def I7:∀(l c:aa Bd),nh c->((c++l).map Prod.fst).Nodup->nh (l.foldl dL c)/\(∀x,x∈l.foldl dL c↔x∈c\/x∈l)/\J (l.foldl dL c)=J c+J l
 |[],c,h,_=>⟨h,λ x=>by simp,rfl⟩
 |b::l,c,h,i=>by
   have g:∀p∈c,p.1≠b.1:=λ p f e=>by
    rw[iS,Rd]at i;exact i.2.2 p.1 (nK f) b.1 (by simp) e
   have d:((dL c b++l).map Prod.fst).Nodup:=by
    have f:∀(a:aa Bd),(dL a b).Perm (b::a):=λ a=>by
     induction a with
     |nil=>exact .refl _
     |cons p r j=>
       simp only[dL];split
       .exact .refl _
       .exact(List.Perm.cons p j).trans (List.Perm.swap b p r)
    have:((dL c b++l).map Prod.fst).Perm ((c++b::l).map Prod.fst):=by
     refine List.Perm.map _ (((f c).append_right l).trans ?_);exact(List.perm_middle (a:=b) (l₁:=c) (l₂:=l)).symm
    exact this.nodup_iff.2 i
   let⟨n,m,k⟩:=I7 l (dL c b) (XX c b h g) d;refine⟨n,λ x=>?_,by rw[jv,k,WL,bH];omega⟩;rw[jv,m,MV,be];exact⟨λ h=>h.elim (λ h=>h.elim (λ h=>.inr (.inl h)) .inl) λ h=>.inr (.inr h),λ h=>h.elim (λ h=>.inl (.inr h)) λ h=>h.elim (λ h=>.inl (.inl h)) .inr⟩
def XL(s:aa Bd)(x t:T)(q:SmQ s)(w:size x<=100000)(y:size t<=100000)(j:x≠t):Ev (λ m _=>zN m s x t) (dL s (x,t)):=by
 have z:=q.1;have c:cc x t=Y:=by rw[ta,Ne,gI];exact j
 apply aF;simp only[qmb,EA,aA];refine ag (nW x t) (ai c ?_)
 have done:=aV (P:=λ i=>∀a:aa Bd,J a<=10000+i->Ev (λ m k=>rj m k s O i x.kind x.name x.sort x.kids t.kind t.name t.sort t.kids a) (a++s.drop i)) s (by omega)
  (λ b a _=>aw (by
   simp only[EF,wP,aA];refine ai b (ai rfl (al ?_));rw[bO,bJ]))
  (λ i p e l b d f o a r=>aw (by
   have:=getElem?_lt e;simp only[EF,wP,aA];refine ah b (ai rfl (ao d (ah (bD) ?_)));rw[f];refine(o (a++[p]) (by rw[aO,lH];omega)).res ?_;rw[l,bC];rfl))
 have g:=aV (P:=λ i=>∀a:aa Bd,J a<=i->Ev (λ m k=>rj m k s Y i x.kind x.name x.sort x.kids t.kind t.name t.sort t.kids a) (a++dL (s.drop i) (x,t))) s (by omega)
  (λ b a r=>aw (by
   simp only[EF,wP,aA];rw[show T.mk x.kind x.name x.sort x.kids=x from aA x,show T.mk t.kind t.name t.sort t.kids=t from aA t];refine ai b (ah rfl (ah (bD) (al ?_)));rw[bO];rfl))
  (λ i p e l b d f o a r=>aw (by
   have:=getElem?_lt e;let⟨v,u⟩:=q.2 p (aK e);simp only[EF,wP,aA];rw[show T.mk x.kind x.name x.sort x.kids=x from aA x,show T.mk t.kind t.name t.sort t.kids=t from aA t,l,dL];refine ah b (ah rfl (ao d (ag (wU x (by omega) p.1 (by omega)) ?_)));by_cases h:aM x p.1=-1
   .rw[af h];refine ah (by rw[h];rfl) (ah (bD) (ao d (ah (bD (by rw[aO,lH];omega)) ?_)));rw[f];refine(done (i+1) (by omega) ((a++[(x,t)])++[p]) (by simp only[aO,lH];omega)).res ?_;simp
   .rw[ae h];have n:0<=aM x p.1:=by obtain h|h|h:=dA.rng x p.1<;>omega
    refine ai (aT.2 n) (ao d (ah (bD) ?_));rw[f];refine(o (a++[p]) (by rw[aO,lH];omega)).res ?_;simp))
 exact(bd (L:=λ m k=>rj m k s Y 0 x.kind x.name x.sort x.kids t.kind t.name t.sort t.kids []) (g 0 (aG _) [] (aG _))).res (by rw[bF];rfl)
def rD(a:Nat)(b:aa (aa aN)):∀(l:aa T) (i:Nat),J (dh a b i l)=J l
 |[],_=>rfl
 |x::l,i=>bz (· + 1) (rD a b l (i+1))
def W5(a:Nat)(b:aa (aa aN)):∀(l:aa T) (i:Nat),(dh a b i l).map Prod.fst=l
 |[],_=>rfl
 |x::l,i=>bz (x :: ·) (W5 a b l (i+1))
def qpR(a:Nat)(l:aa T):(cO a l).map Prod.fst=l:=by
 unfold cO;rw[kN];exact List.map_id'' (λ _=>rfl) l
def Nx(a:aa aN)(so:Int):size (T.mk 2 a so [])=1:=by rw[cM];rfl
def MD(b:Nat)(d:aa (aa aN)):∀(l:aa T) (i:Nat),∀p∈dh b d i l,p.1∈l/\∃a so,p.2=T.mk 2 a so []
 |[],_,p,c=>by cases c
 |x::l,i,p,c=>by
   obtain rfl|c:=be.1 c
   .exact⟨bj ..,_,_,rfl⟩
   .let⟨f,e⟩:=MD b d l (i+1) p c;exact⟨bk _ f,e⟩
def XA{b:Nat}{l:aa T}:∀p∈cO b l,p.1∈l/\∃a so,p.2=T.mk 2 a so []:=λ p c=>by
 obtain⟨x,d,rfl⟩:=bE.1 c;exact⟨d,_,_,rfl⟩
def fc(b:de)(s:nD)(a:Nat):aa Bd×Int:=
 if(b.2.2.1.any λ x=>X (24<J (frN a x)))=O then([],3)else((dh b.1.toNat s.2 0 b.2.1++cO a b.2.2.1).foldl dL [],0)
def NN(x:T)(a:aa aN)(l:aa Bd)(b:J l<=100000:=by omega):Ev (λ m _=>wH m x a l) ((l++[(x,T.mk 2 a x.sort [])],()),()):=by
 apply aF;simp only[qeF,J1,aA];exact ah (bD) (aq _)
structure vP (mc:de) (s:nD):Prop where
 p:SmL 6 mc.2.1
 f:SmL 6 mc.2.2.1
 nd:(mc.2.1++mc.2.2.1).Nodup
 k:∀x∈mc.2.1++mc.2.2.1,x.kind=1
 so:∀x∈mc.2.1,x.sort=1
 r0:0<=mc.1
 r1:mc.1<mc.2.1.length
 l:s.2.length=mc.2.1.length
 nm:∀x∈mc.2.2.1,x.name.length<=1000000
def OR{a:de}{s:nD}(h:vP a s)(b:Nat):(([]++(dh a.1.toNat s.2 0 a.2.1++cO b a.2.2.1):aa Bd).map Prod.fst).Nodup:=by
 rw[iR,iS,W5,qpR];exact h.nd
def OO{b:de}{s:nD}(h:vP b s)(d:Nat):∀p∈dh b.1.toNat s.2 0 b.2.1++cO d b.2.2.1,size p.1<=100000/\size p.2<=100000:=λ p c=>by
 have e:(p.1∈b.2.1\/p.1∈b.2.2.1)/\∃a so,p.2=T.mk 2 a so []:=by
  obtain c|c:=aR.1 c
  .have:=MD _ _ _ _ p c;exact⟨.inl this.1,this.2⟩
  .have:=XA p c;exact⟨.inr this.1,this.2⟩
 let⟨i,a,so,g⟩:=e;rw[g,Nx];have:size p.1<=1000:=i.elim (h.p.2 p.1) (h.f.2 p.1);omega
def qn7(a:aa (aa aN))(r i:Nat)(c:r<J a)(d:0<i:=by omega)(b:i<J a:=by omega):(a.take r++a.drop (r+1))[i-1]?=Z (a.getD (lD r i) []):=by
 unfold lD;rw[ifN];by_cases h:i<=r
 .rw[af h,dy (by rw[bg];omega),wi (by omega),dO,aU (by omega)];rfl
 .rw[ae h,eu (by rw[bg];omega),iQ,bg,jS (by omega),show r+1+(i-1-r)=i by omega,dO,aU b];rfl
def qqV(E:de)(s:nD)(c:Nat)(hn:c<100)(h:vP E s):Ev (λ m _=>uc m E s c) (fc E s c):=by
 have n:=OR h c;have t:=OO h c;let⟨o,P,e,B⟩:=E;let⟨W,b⟩:=s;let⟨C,S,ad,hk,q,K,r1,hl,u⟩:=h;have C:SmL 6 P:=C;have S:SmL 6 e:=S;have q:∀x∈P,x.sort=1:=q;have K:0<=o:=K;have r1:o<(J P:Int):=r1;have hl:J b=J P:=hl;have u:∀x∈e,J x.name<=1000000:=u;have h1:=C.1;have h2:=S.1;obtain⟨r,rfl⟩:=JC K;have D:r<J b:=by omega
 unfold fc;show Ev _ (if(e.any λ x=>X (24<J (frN c x)))=O then([],3)else((dh r b 0 P++cO c e).foldl dL [],0));have n:(([]++(dh r b 0 P++cO c e):aa Bd).map Prod.fst).Nodup:=n;have t:∀p∈dh r b 0 P++cO c e,size p.1<=100000/\size p.2<=100000:=t;let⟨g1,g2,g3⟩:=I7 (dh r b 0 P++cO c e) [] List.Pairwise.nil n;have an:J (dh r b 0 P++cO c e)<=12:=by rw[aO,rD];unfold cO;rw[cj];omega
 let⟨w,e1,e2,e3⟩:=qrn (dh r b 0 P++cO c e) [] (by rw[fE];omega) (λ p C=>by rw[bJ]at C;have:=(t p C).1;omega) (by rw[bJ];rwa [iR]at n);rw[bJ]at e2;have hw:w=(dh r b 0 P++cO c e).foldl dL []:=WI _ _ e3 g1 λ x=>by rw[e2.mem_iff,g2];simp
 rw[hw]at e1
 have kf:=aV (P:=λ i=>∀d:aa Bd,d=dh r b 0 P++cO c (e.take i)->Ev (λ m k=>(jV m k).2 c e (J e) i d) (if((e.drop i).any λ x=>X (24<J (frN c x)))=O then([],3)else((dh r b 0 P++cO c e).foldl dL [],0))) e (by omega)
  (λ v d g=>aw (by
   simp only[Sy,C1,aA];rw[cI]at g;rw[bO,g];exact ai v (ag e1 (aq _))))
  (λ i x A hd v R F G d g=>aw (by
   have ar:=u x (aK A);have az:=XU c;simp only[Sy,C1,aA];rw[hd,wo];have I:ln x.name [35]=O:=Hv (by rw[lH];omega);have H:ln (x.name++[35]) (qu c)=O:=Hv (by rw[aO,lH];omega);refine ah v (ao R (ah I (ag (qo4 c hn) (ah H ?_))));refine ak (λ h=>?_) λ h=>?_
   .rw[aS]at h;rw[bf (show 24<J (frN c x) by unfold frN;omega)];exact aq _
   .rw[aT]at h;rw[bo (show ¬ 24<J (frN c x) by unfold frN;omega),mK]
    have N:J d<=100:=by
     rw[g,aO,rD];unfold cO;rw[cj,bg];omega
    apply ag (NN x _ d);rw[F];apply G _;rw[g,eI,A];unfold cO;simp[frN]))
 have kp:=aV (P:=λ i=>∀d:aa Bd,d=(dh r b 0 P).take i->Ev (λ m k=>(jV m k).1 c P (J P) i (r:Int) P e B W b d (b.take r++b.drop (r+1))) (if(e.any λ x=>X (24<J (frN c x)))=O then([],3)else((dh r b 0 P++cO c e).foldl dL [],0))) P (by omega)
  (λ v d g=>aw (by
   simp only[Sj,Di,aA];refine ai v ((kf 0 (aG _) d ?_).res (by rw[bF]));rw[g,nL (by rw[rD];exact au _)];unfold cO;simp))
  (λ i x A hd v R F G d g=>aw (by
   have ax:=getElem?_lt A;have M:=q x (aK A);have N:J d<=100:=by rw[g,bg,rD];omega
   have f:d++[(x,T.mk 2 (b.getD (lD r i) []) x.sort [])]=(dh r b 0 P).take (i+1):=by
    rw[g,eI,M]
    have:∀(l:aa T) (j k:Nat) (y:T),l[k]?=Z y->(dh r b j l)[k]?=Z (y,T.mk 2 (b.getD (lD r (j+k)) []) 1 []):=λ l=>by
     induction l with
     |nil=>intro j k y h;simp at h
     |cons z l ih=>
       intro j k y h;cases k with
       |zero=>simp at h;subst h;rfl
       |succ k=>
         have:=ih (j+1) k y (by simpa using h);rw[show j+1+k=j+(k+1) by omega]at this;exact this
    rw[this P 0 i x A,bS];rfl
   simp only[Sj,Di,aA];refine ah v (ao R ?_);by_cases Q:i=0
   .refine ah (aB.2 (by omega)) (ao (a:=b.getD (lD r i) []) ?_ (ag (NN x _ d) ?_))
    .rw[dz,Q];unfold lD;rw[af rfl,dO,aU D];rfl
    .rw[F];exact G _ f
   .refine ai (ay.2 (by omega)) (ao (a:=b.getD (lD r i) []) ?_ (ag (NN x _ d) ?_))
    .rw[show cX (i:Int) 1=((i-1:Nat):Int) by unfold cX;omega,dC,dz];exact qn7 b r i D
    .rw[F];exact G _ f))
 apply aF;simp only[qhf,C3,aA]
 have c1:tn 0 b=Z ((),b,()):=by
  unfold tn;rw[show Nat.ble (J b) 100000000=O from qM (by omega)];rfl
 have c2:wF 0 b (r:Int) (iw .i64 (av (r:Int) 1))=Z ((),b.take r++b.drop (r+1),()):=by
  rw[show av (r:Int) 1=((r+1:Nat):Int)from by unfold av;omega,dC];unfold wF;rw[show inb ((r+1:Nat):Int) (J b)=O from by unfold inb;rw[df];omega,show inb (r:Int) (J b)=O from by unfold inb;rw[df];omega,show ieq ((r+1:Nat):Int) (av (r:Int) 1)=O from aB.2 (by unfold av;omega),show Nat.ble (J b) 100000=O from qM (by omega),lG];rfl
 refine ao c1 (ao c2 ?_);exact bd (L:=λ m k=>(jV m k).1 c P (J P) 0 (r:Int) P e B W b [] (b.take r++b.drop (r+1))) (kp 0 (aG _) [] rfl)
def qq6(M:de)(s:nD)(b:Nat)(hn:b<100)(h:vP M s):Ev (λ m _=>zm m M s b) (fc M s b):=by
 have o:=OR h b;have v:=OO h b;let⟨q,P,f,B⟩:=M;let⟨sr,c⟩:=s;let⟨C,N,ax,hk,aE,S,r1,hl,w⟩:=h;have C:SmL 6 P:=C;have N:SmL 6 f:=N;have hk:∀x∈P++f,x.kind=1:=hk;have S:0<=q:=S;have r1:q<(J P:Int):=r1;have hl:J c=J P:=hl;have w:∀x∈f,J x.name<=1000000:=w;have h1:=C.1;have h2:=N.1;obtain⟨r,rfl⟩:=JC S;have a0:r<J c:=by omega
 unfold fc;show Ev _ (if(f.any λ x=>X (24<J (frN b x)))=O then([],3)else((dh r c 0 P++cO b f).foldl dL [],0));have o:(([]++(dh r c 0 P++cO b f):aa Bd).map Prod.fst).Nodup:=o;have v:∀p∈dh r c 0 P++cO b f,size p.1<=100000/\size p.2<=100000:=v
 have sm:∀l l':aa Bd,dh r c 0 P++cO b f=l++l'->SmQ (l.foldl dL [])/\J (l.foldl dL [])<=12:=λ l l' e=>by
  rw[iR,e,iS,Rd]at o;let⟨g1,g2,g3⟩:=I7 l [] List.Pairwise.nil (by rw[iR];exact o.1);have G:J (dh r c 0 P++cO b f)<=12:=by rw[aO,rD];unfold cO;rw[cj];omega
  rw[e,aO]at G;rw[fE,bS]at g3;refine⟨⟨by omega,λ p C=>v p ?_⟩,by omega⟩;rw[e];exact pC _ (((g2 p).1 C).elim (λ h=>by cases h) id)
 have u:∀(a:aa aN) (so:Int),Ev (λ m _=>pP m a so) (T.mk 2 a so []):=λ a so=>aF (Rg (aq _) λ _ _=>rfl)
 have E:∀x∈P++f,∀(a:aa aN) (so:Int),x≠T.mk 2 a so []:=λ x t a so e=>by
  have:=hk x t;rw[e]at this;cases this
 have kf:=aV (P:=λ i=>∀d:aa Bd,d=(dh r c 0 P++cO b (f.take i)).foldl dL []->Ev (λ m k=>(jW m k).2 b d i (r:Int) P f B) (if((f.drop i).any λ x=>X (24<J (frN b x)))=O then([],3)else((dh r c 0 P++cO b f).foldl dL [],0))) f (by omega)
  (λ A d n=>aw (by
   simp only[Sr,Dg,aA];rw[cI]at n;rw[bO,n];exact ai A (aq _)))
  (λ i x t hd A K hi hP d n=>aw (by
   have g:=aK t;have az:=w x g;have ad:=N.2 x g;have a2:=XU b
   have an:dh r c 0 P++cO b f=(dh r c 0 P++cO b (f.take i))++cO b (f.drop i):=by
    rw[bC];unfold cO;rw[<-iS,oF]
   let⟨D,s2⟩:=sm _ _ an;rw[<-n]at D;simp only[Sr,Dg,aA];rw[hd,wo];have R:ln x.name [35]=O:=Hv (by rw[lH];omega);have Q:ln (x.name++[35]) (qu b)=O:=Hv (by rw[aO,lH];omega);refine ah A (ao K (ah R (ag (qoB b hn) (ah Q ?_))));refine ak (λ h=>?_) λ h=>?_
   .rw[aS]at h;rw[bf (show 24<J (frN b x) by unfold frN;omega)];exact aq _
   .rw[aT]at h;rw[bo (show ¬ 24<J (frN b x) by unfold frN;omega),mK];refine ao K (ao K (ag (u _ _) (ag (XL d x _ D (by omega) (by rw[Nx];omega) (E x (pB _ g) _ _)) ?_)));rw[hi];apply hP _;rw[n,eI,t];unfold cO;simp[frN]))
 have W:∀(l:aa T) (j k:Nat) (y:T),l[k]?=Z y->(dh r c j l)[k]?=Z (y,T.mk 2 (c.getD (lD r (j+k)) []) 1 []):=λ l=>by
  induction l with
  |nil=>intro j k y h;simp at h
  |cons z l ih=>
    intro j k y h;cases k with
    |zero=>simp at h;subst h;rfl
    |succ k=>
      have:=ih (j+1) k y (by simpa using h);rw[show j+1+k=j+(k+1) by omega]at this;exact this
 have kp:=aV (P:=λ i=>∀d:aa Bd,d=((dh r c 0 P).take i).foldl dL []->Ev (λ m k=>(jW m k).1 b d i (r:Int) P f B sr c) (if(f.any λ x=>X (24<J (frN b x)))=O then([],3)else((dh r c 0 P++cO b f).foldl dL [],0))) P (by omega)
  (λ A d n=>aw (by
   simp only[Sw,C5,aA];refine ai A ((kf 0 (aG _) d ?_).res (by rw[bF]));rw[n,nL (by rw[rD];exact au _)];unfold cO;simp))
  (λ i x t hd A K hi hP d n=>aw (by
   have a1:=getElem?_lt t;have g:=aK t;have ad:=C.2 x g;let⟨D,s2⟩:=sm ((dh r c 0 P).take i) ((dh r c 0 P).drop i++cO b f) (by rw[<-bC,oF]);rw[<-n]at D;simp only[Sw,C5,aA]
   have F:Ev (λ m _=>FG m ((r:Int),(P,(f,B))) (i:Int)) ((lD r i:Nat):Int):=by
    apply aF;simp only[qkF,KV];unfold lD;by_cases I:i=0
    .rw[af I];exact ah (aB.2 (by omega)) (aq _)
    .rw[ae I];apply ai (ay.2 (by omega));by_cases H:i<=r
     .rw[af H];refine ah (fU.2 (by omega)) (al ?_);rw[show cX (i:Int) 1=((i-1:Nat):Int) by unfold cX;omega,dC]
     .rw[ae H];exact ai (jI.2 (by omega)) (aq _)
   have ar:lD r i<J c:=by unfold lD;split<;>(try split)<;>omega
   refine ah A (ao K (ag F (ao (a:=c.getD (lD r i) []) ?_ (ag (u _ _) (ag (XL d x _ D (by omega) (by rw[Nx];omega) (E x (pC _ g) _ _)) ?_)))))
   .rw[dz,dO,aU ar];rfl
   .rw[hi];apply hP _;rw[n,eI,W P 0 i x t,bS];simp))
 apply aF;simp only[qim,Da];exact bd (L:=λ m k=>(jW m k).1 b [] 0 (r:Int) P f B sr c) (kp 0 (aG _) [] rfl)
def sbE:ac T->aa Bd->Int
 |_,[]=>0
 |q,p::r=>if bw p.1≠0 then bw p.1 else if p.1.kind≠1\/p.1=p.2 then 1 else if bw p.2≠0 then bw p.2 else if vK p.1 p.2=Y then 10 else if(∀y,q=Z y->aM y p.1=-1)then sbE (Z p.1) r else 5
def qAt(l:aa Bd)(i:Nat):ac T:=if i=0 then U else(l[i-1]?).map Prod.fst
def Ht{l:aa Bd}{i:Nat}{p:Bd}(h:l[i]?=Z p):qAt l (i+1)=Z p.1:=by
 unfold qAt;rw[ifN,qc0,h];rfl
def sbV(l:aa Bd):Int:=if 200<J l then 3 else sbE U l
def YA:∀(l:aa Bd) (q:ac T),sbE q l=0->nh l/\(∀y,q=Z y->∀p∈l,aM y p.1=-1)/\∀p∈l,p.1.kind=1
 |[],_,_=>⟨List.Pairwise.nil,λ _ _ p b=>(by cases b),λ p b=>(by cases b)⟩
 |p::r,q,h=>by
   simp only[sbE]at h;split at h
   .next g=>exact absurd h g
   split at h
   .cases h
   rename_i i;split at h
   .next g=>exact absurd h g
   split at h
   .cases h
   split at h
   .rename_i d;let⟨k,f,j⟩:=YA r (Z p.1) h;refine⟨wu.2 ⟨λ x a=>f p.1 rfl x a,k⟩,λ y c x a=>?_,λ x a=>?_⟩
    .obtain rfl|a:=be.1 a
     .exact d y c
     .exact lX (d y c) (f p.1 rfl x a)
    .obtain rfl|a:=be.1 a
     .exact Rf.1 λ e=>i (.inl e)
     .exact j x a
   .cases h
def qlQ(l:aa Bd)(o:SmQ l):Ev (λ m _=>wY m l) (sbV l):=by
 have t:=o.1;apply aF;simp only[qkk,DV];unfold sbV;refine ak (λ h=>al (by rw[aS]at h;rw[ifP])) λ h=>?_;rw[aT]at h;rw[ifN]
 have j:=aV (P:=λ i=>Ev (λ m k=>uf m k l l (J l) i) (sbE (qAt l i) (l.drop i))) l (by omega)
  (λ r=>aw (by
   simp only[S2,D8];exact ai r (al (by rw[bO];rfl))))
  (λ i p f z r x w s=>aw (by
   let⟨G,F⟩:=o.2 p (aK f);simp only[S2,D8,aA];rw[z,sbE];refine ah r (ao x (ag (lW p.1) (ak (λ h=>al (by rw[af (ay.1 (bnt.1 h))])) λ E=>?_)));rw[ae (λ g=>g (aB.1 (bnf.1 E)))];refine ak (λ h=>al (by rw[af (.inl (ay.1 (bnt.1 h)))])) λ D=>?_;have u:=aB.1 (bnf.1 D);refine ag (nN p.1 (by omega) p.2 (by omega)) (ak (λ h=>al (by rw[af (.inr (lg _ _ (aB.1 h)))])) λ C=>?_);rw[ae (λ g=>g.elim (λ e=>e u) λ e=>ay.1 C (by rw[e];exact pT _))];refine ag (lW p.2) (ak (λ h=>al (by rw[af (ay.1 (bnt.1 h))])) λ B=>?_);rw[ae (λ g=>g (aB.1 (bnf.1 B)))];refine ag (qqW p.1 p.2) (ak (λ h=>al (by rw[af (bnt.1 h)])) λ A=>?_);rw[ae (λ g=>by rw[bnf.1 A]at g;cases g),w];by_cases d:i=0
   .refine ai (aT.2 (by omega)) (s.res ?_);rw[af (λ y b=>by rw[d]at b;cases b),Ht f]
   .have v:=getElem?_lt f;obtain⟨q,n⟩:∃q,l[i-1]?=Z q:=⟨_,aU (by omega)⟩
    let⟨I,H⟩:=o.2 q (aK n);have c:qAt l i=Z q.1:=by unfold qAt;rw[ae d,n];rfl
    refine ah (aS.2 (by omega)) (ao (a:=q) (by rw[show cX (i:Int) 1=((i-1:Nat):Int) by unfold cX;omega,dC,dz];exact n) (ag (nN q.1 (by omega) p.1 (by omega)) (ak (λ h=>al ?_) λ h=>s.res ?_)))
    .rw[fU]at h;rw[ae λ g=>by have:=g q.1 c;omega]
    .rw[jI]at h;rw[af λ y b=>?_,Ht f];rw[c]at b;cases b;obtain e|e|e:=dA.rng q.1 p.1<;>omega))
 exact(bd (L:=λ m k=>uf m k l l (J l) 0) (j 0 (aG _))).res (by rw[bF];rfl)
def qmo(p:Bd)(h:size p.1<=100000/\size p.2<=100000):Ev (λ m _=>EJ m p) (if bw p.1≠0 then bw p.1 else if p.1.kind≠1\/p.1=p.2 then 1 else if bw p.2≠0 then bw p.2 else if vK p.1 p.2=Y then 10 else 0):=by
 let⟨r,q⟩:=h;apply aF;simp only[qih,Ku,aA];refine ag (lT p.1) (ak (λ h=>al (by rw[af (ay.1 (bnt.1 h))])) λ o=>?_);have f:=aB.1 (bnf.1 o);rw[ae (λ g=>g f)];refine ak (λ h=>al (by rw[af (.inl (ay.1 (bnt.1 h)))])) λ n=>?_;have i:=aB.1 (bnf.1 n);refine ag (nW p.1 p.2) (ak (λ h=>al (by rw[af (.inr (gI.1 h))])) λ l=>?_);rw[ae (λ g=>g.elim (λ e=>e i) λ e=>by rw[gI.2 e]at l;cases l)];refine ag (lT p.2) (ak (λ h=>al (by rw[af (ay.1 (bnt.1 h))])) λ k=>?_);have d:=aB.1 (bnf.1 k);rw[ae (λ g=>g d)]
 have c:Ev (λ m _=>F0 m p.1 p.2) (vK p.1 p.2):=by
  apply aF;simp only[ql3,Ln,aA];unfold vK O7;refine ag (lT p.1) (ai o (ai n (ag (lT p.2) (ai k ?_))));by_cases b:p.1.sort=0
  .exact ah (aB.2 b) (al (by simp[f,d,i,b]))
  refine ai (ay.2 b) (ag (a:=X (p.2.kind≠3/\p.2.sort=p.1.sort)) (aF ?_) (al (by simp[f,d,i,b])));simp only[qlw,Lj];have j:ieq p.2.sort p.1.sort=X (p.2.sort=p.1.sort):=by rw[gG,aB,df]
  obtain⟨g|g,_⟩|g:=qnN d
  .refine ah (aB.2 g) (al ?_);rw[j,g];simp
  .refine ai (ay.2 (by omega)) (ah (aB.2 g) (al ?_));rw[j,g];simp
  .exact ai (ay.2 (by omega)) (ai (ay.2 (by omega)) (al (by rw[g];simp)))
 refine ag c (ak (λ h=>al (by rw[af (bnt.1 h)])) λ b=>al ?_);rw[ae (λ g=>by rw[bnf.1 b]at g;cases g)]
def qkE(l:aa Bd)(u:SmQ l):Ev (λ m _=>zD m l) (sbV l):=by
 have E:=u.1;apply aF;simp only[qkK,DX];unfold sbV;refine ak (λ h=>al (by rw[aS]at h;rw[ifP])) λ h=>?_;rw[aT]at h;rw[ifN]
 have s:=aV (P:=λ i=>Ev (λ m k=>ub m k l i) (sbE (qAt l i) (l.drop i))) l (by omega)
  (λ v=>aw (by
   simp only[S0,Eh];exact ai v (al (by rw[bO];rfl))))
  (λ i p n H v z G A=>aw (by
   have D:=u.2 p (aK n);let⟨C,B⟩:=D;simp only[S0,Eh,aA];rw[H,sbE];refine ah v (ao z (ag (qmo p ⟨C,B⟩) ?_));by_cases j:bw p.1=0
   case neg=>rw[af j,af j];exact ah (bnt.2 (ay.2 j)) (aq _)
   have x:¬ bw p.1≠0:=λ g=>g j;rw[ae x,ae x];by_cases o:p.1.kind≠1\/p.1=p.2
   .rw[af o,af o];exact ah rfl (aq _)
   rw[ae o,ae o];by_cases f:bw p.2=0
   case neg=>rw[af f,af f];exact ah (bnt.2 (ay.2 f)) (aq _)
   have w:¬ bw p.2≠0:=λ g=>g f;rw[ae w,ae w];by_cases r:vK p.1 p.2=Y
   .rw[af r,af r];exact ah rfl (aq _)
   rw[ae r,ae r,G];apply ai rfl;by_cases d:i=0
   .refine ai (aT.2 (by omega)) (A.res ?_);rw[af (λ y b=>by rw[d]at b;cases b),Ht n]
   .have F:=getElem?_lt n;obtain⟨q,t⟩:∃q,l[i-1]?=Z q:=⟨_,aU (by omega)⟩
    let⟨K,I⟩:=u.2 q (aK t);have c:qAt l i=Z q.1:=by unfold qAt;rw[ae d,t];rfl
    refine ah (aS.2 (by omega)) (ao (a:=q) (by rw[show cX (i:Int) 1=((i-1:Nat):Int) by unfold cX;omega,dC,dz];exact t) (ao z (ag (wU q.1 (by omega) p.1 (by omega)) (ak (λ h=>al ?_) λ h=>A.res ?_))))
    .rw[fU]at h;rw[ae λ g=>by have:=g q.1 c;omega]
    .rw[jI]at h;rw[af λ y b=>?_,Ht n];rw[c]at b;cases b;obtain e|e|e:=dA.rng q.1 p.1<;>omega))
 exact(bd (L:=λ m k=>ub m k l 0) (s 0 (aG _))).res (by rw[bF];rfl)
def WR:∀(r:aa gz) (f:Bool),(∀b∈r,SmB b)->∀x∈nf f r,size x<=1000000000
 |[],_,_,x,c=>by cases c
 |b::r,f,h,x,c=>by
   have g:∀t:T,size t<=1000000000->∀y∈bQ t,size y<=1000000000:=λ t l y i=>by have:=Gv 1 t y ((AA t y).1 i);omega
   simp only[nf]at c;obtain c|c:=aR.1 c
   .have d:=h b (bj ..);unfold mz at c;obtain c|c:=aR.1 c
    .split at c
     .cases c
     .exact g _ d.1 x c
    .let⟨vs,k,e⟩:=qN.1 c;obtain⟨a,j,rfl⟩:=bE.1 k;unfold cG at e;split at e
     .exact g _ (d.2.2 a j).2.1 x e
     .cases e
   .exact WR r Y (λ b d=>h b (bk _ d)) x c
def qrp{c:de}(d:SmL 6 c.2.1)(e:SmL 6 c.2.2.1)(f:∀b∈c.2.2.2,SmB b)(n:Nat):∀x∈(ej c n).1,size x<=1000000000:=λ x a=>by
 unfold ej sI at a;split at a
 .rw[GZ]at a;obtain a|a:=aR.1 a
  .obtain a|a:=aR.1 a
   .have:=d.2 x a;omega
   .have:=e.2 x a;omega
  .exact WR _ _ (λ b h=>f b (gd h)) x a
 .cases a
def YM:∀(l:aa Bd) (q:ac T),sbE q l=0->∀p∈l,bw p.2=0
 |[],_,_,p,c=>by cases c
 |p::r,q,h,x,a=>by
   simp only[sbE]at h;split at h
   .next g=>exact absurd h g
   split at h
   .cases h
   split at h
   .next g=>exact absurd h g
   rename_i b;split at h
   .cases h
   split at h
   .obtain rfl|a:=be.1 a
    .exact Rf.1 b
    .exact YM r _ h x a
   .cases h
def vsz{t:T}(h:bw t=0):size t<=400:=by
 unfold bw at h;split at h
 .next g=>exact absurd h g
 .split at h
  .cases h
  .omega
def XD(t:T):J (bQ t)=0↔ve t=O:=by
 unfold ve;rw[wd];constructor
 .intro h;have h:=cT h;cases e:dp 1 t with
  |nil=>rfl
  |cons y ys=>
    have:y∈bQ t:=(AA t y).2 (by rw[e];exact bj ..);rw[h]at this;cases this
 .intro h;cases e:bQ t with
  |nil=>rfl
  |cons y ys=>
    have:y∈dp 1 t:=(AA t y).1 (by rw[e];exact bj ..);rw[h]at this;cases this
def lpB:aa Bd->aa T->Bool
 |p::l,x::B=>(cc p.1 x&&(ve p.2&&vh p.2))&&lpB l B
 |_,_=>O
def gtB(l I:aa Bd):Bool:=I.all λ p=>(lkA l p.1).isSome&&cc ((lkA l p.1).getD p.1) p.2
def Az{l:aa Bd}{p:Bd}{r:aa Bd}:gtB l (p::r)=(((lkA l p.1).isSome&&cc ((lkA l p.1).getD p.1) p.2)&&gtB l r):=by unfold gtB;rw[dt]
def qrQ{a:de}{s:nD}(j:SmM a)(h:ov a=0)(i:oq a s=O):vP a s:=by
 let⟨e,v,u,m,q,t,r,l⟩:=qap h;rw[aJ]at e;have d:=If _ _ e.1 lE;rw[iR]at d;have k:=Xk _ _ e.1;have c:=Ms a.2.2.1 a.2.1 0;rw[bS,e.2]at c;have c:=c.symm;rw[aJ]at c;unfold oq at i;rw[aJ,aJ]at i
 exact⟨j.p,j.f,d,λ x b=>(k x b).1,λ x b=>by have:=bB.1 c.1 x b;exact bI this,m,l,bI i.2.1,λ x b=>by
  let⟨o,n⟩:=k x (pB _ b);have:=(Lz (Up n)).1;unfold eM oj at this;rw[af (.inl o)]at this;split at this
  .cases this
  .cases g:eT x.name with
   |false=>rw[g]at this;cases this
   |true=>
     unfold eT at g;simp only[aJ,df]at g;omega⟩
abbrev StV:=nD×(Int×(Int×(Int×(Int×aa Bd))))
def nw(a:de)(s:StV):Prop:=0<=s.2.1/\s.2.1<=99/\0<=s.2.2.2.2.1/\1<=s.2.2.1/\s.2.2.1<=J a.2.2.2/\1<=s.2.2.2.1/\s.2.2.2.1<=3/\(s.2.2.1=J a.2.2.2↔s.2.2.2.1=2)
instance (a:de)(s:StV):Decidable (nw a s):=by unfold nw;infer_instance
def pA(a:de)(s:StV):Int:=
 if lpB s.2.2.2.2.2 (ej a s.2.2.1.toNat).1=O then if gtB s.2.2.2.2.2 (fc a s.1 s.2.1.toNat).1=O then 0 else 1 else 1
def sJ(a:de)(s:StV):Int:=
 if ov a≠0 then ov a else if oq a s.1=Y then 1 else if ¬ nw a s then 1 else if sbV s.2.2.2.2.2≠0 then 1 else if(fc a s.1 s.2.1.toNat).2≠0 then 1 else if(ej a s.2.2.1.toNat).1.length≠J s.2.2.2.2.2 then 1 else pA a s
def qrV{d:de}{s:nD}(h:vP d s)(c:Nat):(fc d s c).1.length<=100/\∀p∈(fc d s c).1,(size p.1<=100000/\size p.2<=100000)/\p.1≠p.2:=by
 unfold fc;split
 .exact⟨aG _,λ p g=>by cases g⟩
 .let⟨_,n,m⟩:=I7 (dh d.1.toNat s.2 0 d.2.1++cO c d.2.2.1) [] List.Pairwise.nil (OR h c);refine⟨?_,λ p g=>?_⟩
  .have a:=h.p.1;have b:=h.f.1;have e:J (cO c d.2.2.1)=J d.2.2.1:=by unfold cO;rw[cj]
   rw[m,aO,rD,e,fE];omega
  .have g:p∈dh d.1.toNat s.2 0 d.2.1++cO c d.2.2.1:=((n p).1 g).resolve_left (by simp);refine⟨OO h c p g,?_⟩
   have i:(p.1∈d.2.1\/p.1∈d.2.2.1)/\∃a so,p.2=T.mk 2 a so []:=by
    obtain g|g:=aR.1 g
    .have:=MD _ _ _ _ p g;exact⟨.inl this.1,this.2⟩
    .have:=XA p g;exact⟨.inr this.1,this.2⟩
   let⟨l,a,so,j⟩:=i;have:=h.k p.1 (aR.2 l);intro e;rw[e,j]at this;cases this
def qrT(d:de)(s:StV)(w:SmQ s.2.2.2.2.2)(u:sbV s.2.2.2.2.2=0)(ad:vP d s.1)(Q:∀x∈(ej d s.2.2.1.toNat).1,size x<=1000000000)(t:(ej d s.2.2.1.toNat).1.length=J s.2.2.2.2.2):
  Ev (λ m _=>(iz m m).1 (ej d s.2.2.1.toNat).1 (fc d s.1 s.2.1.toNat).1 s.2.2.2.2.2 (J s.2.2.2.2.2) 0 s.1.1 s.1.2 s.2.1 s.2.2.1 s.2.2.2.1 s.2.2.2.2.1 s.2.2.2.2.2) (pA d s)/\
  Ev (λ m _=>(iU m m).1 (fc d s.1 s.2.1.toNat).1 (ej d s.2.2.1.toNat).1 0 s.1.1 s.1.2 s.2.1 s.2.2.1 s.2.2.2.1 s.2.2.2.2.1 s.2.2.2.2.2) (pA d s):=by
 unfold pA;let⟨i1,N⟩:=qrV ad s.2.1.toNat;let⟨⟨h,n⟩,c,o,y,b,l⟩:=s;have w:SmQ l:=w;have u:sbV l=0:=u;show Ev (λ m _=>(iz m m).1 (ej d o.toNat).1 (fc d (h,n) c.toNat).1 l (J l) 0 h n c o y b l) _/\Ev (λ m _=>(iU m m).1 (fc d (h,n) c.toNat).1 (ej d o.toNat).1 0 h n c o y b l) _;have t:(ej d o.toNat).1.length=J l:=t;have Q:∀x∈(ej d o.toNat).1,size x<=1000000000:=Q;show Ev _ (if lpB l (ej d o.toNat).1=O then if gtB l (fc d (h,n) c.toNat).1=O then 0 else 1 else 1)/\Ev _ (if lpB l (ej d o.toNat).1=O then if gtB l (fc d (h,n) c.toNat).1=O then 0 else 1 else 1)
 replace i1:(fc d (h,n) c.toNat).1.length<=100:=i1
 replace N:∀p∈(fc d (h,n) c.toNat).1,(size p.1<=100000/\size p.2<=100000)/\p.1≠p.2:=N
 generalize (ej d o.toNat).1=B at *;generalize (fc d (h,n) c.toNat).1=I at *;have an:=w.1
 have K:sbE U l=0:=by
  unfold sbV at u;split at u
  .cases u
  .exact u
 have ha:=(YA l U K).1;have hv:=YM l U K
 have gM:=aV (P:=λ j=>Ev (λ m k=>(iz m k).2 I (J I) j h n c o y b l) (if gtB l (I.drop j)=O then 0 else 1)) I (by omega)
  (λ g=>aw (by
   simp only[Sx,C9];exact ai g (al (by rw[bO];rfl))))
  (λ j p r F g A S G=>aw (by
   let⟨⟨C,R⟩,_⟩:=N p (aK r)
   have z3:size ((lkA l p.1).getD p.1)<=100000:=by
    cases e:lkA l p.1 with
    |none=>exact C
    |some v=>
      unfold lkA at e;cases f:l.find? (λ q=>cc q.1 p.1)with
      |none=>rw[f]at e;cases e
      |some q=>rw[f]at e;cases e;exact(w.2 q (qc8 f)).2
   simp only[Sx,C9,aA];rw[F];refine ah g (ao A (ag (qrU ha w p.1 C) ?_));obtain e|e:=qdc (lkA l p.1).isSome
   .refine ai (bnf.2 e) (ag (MT ((lkA l p.1).getD p.1) p.2) ?_);obtain f|f:=qdc (cc ((lkA l p.1).getD p.1) p.2)
    .rw[S];exact ai (bnf.2 f) (G.res (by rw[Az,e,f];rfl))
    .exact ah (bnt.2 f) (al (by rw[Az,e,f];rfl))
   .exact ah (bnt.2 e) (al (by rw[Az,e];rfl))))
 have gR:=aV (P:=λ j=>Ev (λ m k=>(iU m k).2 I j h n c o y b l) (if gtB l (I.drop j)=O then 0 else 1)) I (by omega)
  (λ g=>aw (by
   simp only[Td,DO];exact ai g (al (by rw[bO];rfl))))
  (λ j p r F g A S G=>aw (by
   let⟨⟨C,R⟩,zn⟩:=N p (aK r)
   have z3:size ((lkA l p.1).getD p.1)<=100000:=by
    cases e:lkA l p.1 with
    |none=>exact C
    |some v=>
      unfold lkA at e;cases f:l.find? (λ q=>cc q.1 p.1)with
      |none=>rw[f]at e;cases e
      |some q=>rw[f]at e;cases e;exact(w.2 q (qc8 f)).2
   simp only[Td,DO,aA];rw[F];refine ah g (ao A (ag (qr3 l w p.1 C) (ao A (ag (nW _ p.2) ?_))));obtain f|f:=qdc (cc ((lkA l p.1).getD p.1) p.2)
   .have e:(lkA l p.1).isSome=O:=by
      cases e3:lkA l p.1 with
      |none=>rw[e3]at f;exact absurd (gI.1 f) zn
      |some v=>rfl
    rw[S];exact ai (bnf.2 f) (G.res (by rw[Az,e,f];rfl))
   .exact ah (bnt.2 f) (al (by rw[Az,f];cases(lkA l p.1).isSome<;>rfl))))
 have z:∀p∈l,size p.2<=400:=λ p r=>vsz (hv p r);constructor
 .have D:=aV (P:=λ i=>Ev (λ m k=>(iz m k).1 B I l (J l) i h n c o y b l) (if lpB (l.drop i) (B.drop i)=O then if gtB l I=O then 0 else 1 else 1)) l (by omega)
    (λ g=>aw (by
     simp only[So,C7];rw[bO];exact ai g ((gM 0 (aG _)).res (by rw[bF];rfl))))
    (λ i p r F g A W G=>aw (by
     have T:=getElem?_lt r;obtain⟨x,H⟩:∃x,B[i]?=Z x:=⟨_,aU (by omega)⟩
     have E:B.drop i=x::B.drop (i+1):=by
      rw[JD (by omega),(fd.1 H).2]
     have C:=(w.2 p (aK r)).1;have R:=z p (aK r);simp only[So,C7,aA];rw[F,E,lpB];refine ah g (ao A (ao (a:=x) (by rw[dz];exact H) (ag (MT p.1 x (by omega) (Q x (aK H))) ?_)));cases cc p.1 x with
     |false=>exact ah rfl (al rfl)
     |true=>
       refine ai rfl (ag (Hq p.2) ?_);cases M:ve p.2 with
       |false=>exact ah (aS.2 (by have:=(not_congr (XD p.2)).2 (by rw[M];decide);omega)) (al rfl)
       |true=>
         refine ai (aT.2 (by have:=(XD p.2).2 M;omega)) (ag (qpe p.2) ?_);cases vh p.2 with
         |false=>exact ah rfl (al rfl)
         |true=>rw[W];exact ai rfl (G.res (by simp only[bU]))))
  exact(bd (L:=λ m k=>(iz m k).1 B I l (J l) 0 h n c o y b l) (D 0 (aG _))).res (by rw[bF,bF])
 .have D:=aV (P:=λ i=>Ev (λ m k=>(iU m k).1 I B i h n c o y b l) (if lpB (l.drop i) (B.drop i)=O then if gtB l I=O then 0 else 1 else 1)) B (by omega)
    (λ g=>aw (by
     simp only[Tf,D6];rw[t,bO];rw[t]at g;exact ai g ((gR 0 (aG _)).res (by rw[bF];rfl))))
    (λ i x H E g A W G=>aw (by
     have T:=getElem?_lt H;obtain⟨p,r⟩:∃p,l[i]?=Z p:=⟨_,aU (by omega)⟩
     have F:l.drop i=p::l.drop (i+1):=by
      rw[JD (by omega),(fd.1 r).2]
     have C:=(w.2 p (aK r)).1;have R:=z p (aK r);simp only[Tf,D6,aA];rw[F,E,lpB];refine ah g (ao (a:=p) (by rw[dz];exact r) (ao A (ag (nW p.1 x (by omega) (Q x (aK H))) ?_)));cases cc p.1 x with
     |false=>exact ah rfl (al rfl)
     |true=>
       refine ai rfl (ag (qn9 p.2) ?_);cases ve p.2 with
       |false=>exact ah rfl (al rfl)
       |true=>
         refine ai rfl (ag (qn0 p.2) ?_);cases vh p.2 with
         |false=>exact ah rfl (al rfl)
         |true=>rw[W];exact ai rfl (G.res (by simp only[bU]))))
  exact(bd (L:=λ m k=>(iU m k).1 I B 0 h n c o y b l) (D 0 (aG _))).res (by rw[bF,bF])
def Ja{a b:Bool}:am (cQ a b)=O↔a≠b:=by cases a<;>cases b<;>simp[am,cQ]
def qph(c:de)(s:StV)(d:SmM c)(F:J s.1.2<=1000000)(K:SmQ s.2.2.2.2.2):
  Ev (λ m _=>ra m c s) (sJ c s)/\Ev (λ m _=>rk m c s) (sJ c s):=by
 unfold sJ;by_cases w:ov c=0
 case neg=>
  rw[af w]
  exact⟨aF (by simp only[KH,wK];exact ag (Md c d) (ah (bnt.2 (ay.2 w)) (aq _))),
   aF (by simp only[Lm,wO];exact ag (LF c d) (ah (bnt.2 (ay.2 w)) (aq _)))⟩
 rw[ae (λ g=>g w)];have E:am (ieq (ov c) 0)=Y:=bnf.2 (aB.2 w);by_cases i:oq c s.1=Y
 .rw[af i]
  exact⟨aF (by simp only[KH,wK];exact ag (Md c d) (ai E (ag (Uw c s.1 F) (ah (bnt.2 i) (aq _))))),
   aF (by simp only[Lm,wO];exact ag (LF c d) (ai E (ag (UU c s.1 F) (ah (bnt.2 i) (aq _)))))⟩
 rw[ae i]
 have i:oq c s.1=O:=by cases e:oq c s.1 with
  |true=>rfl
  |false=>exact absurd e i
 have v2:am (oq c s.1)=Y:=bnf.2 i;have u:=qrQ d w i;let⟨w1,w2,w3,w4⟩:=qap w;rw[aJ]at w1;have A:=If _ _ w1.1 lE;rw[iR]at A;let⟨l1,l2⟩:=L6 w2;have v:∀b∈c.2.2.2,SmB b:=λ b i=>d.b b i (l2 b i)
 have n:nw c s->Ev (λ m _=>ab (wY m s.2.2.2.2.2) λ x=>cond (am (ieq x 0)) (Z 1) (ab (ue m c s.2.2.1) λ l=>ab (uc m c s.1 s.2.1) λ q=>cond (am (ieq q.2 0)) (Z 1)
   (cond (am (ieq (J l.1) (J s.2.2.2.2.2))) (Z 1) ((iz m m).1 l.1 q.1 s.2.2.2.2.2 (J s.2.2.2.2.2) 0 s.1.1 s.1.2 s.2.1 s.2.2.1 s.2.2.2.1 s.2.2.2.2.1 s.2.2.2.2.2))))
   (if sbV s.2.2.2.2.2≠0 then 1 else if(fc c s.1 s.2.1.toNat).2≠0 then 1 else if(ej c s.2.2.1.toNat).1.length≠J s.2.2.2.2.2 then 1 else pA c s)/\
   Ev (λ m _=>ab (zm m c s.1 s.2.1) λ x=>ab (wW m c s.2.2.1) λ l=>cond (am (ieq x.2 0)) (Z 1) (ab (zD m s.2.2.2.2.2) λ q=>cond (am (ieq q 0)) (Z 1)
   (cond (am (ieq (J s.2.2.2.2.2) (J l.1))) (Z 1) ((iU m m).1 x.1 l.1 0 s.1.1 s.1.2 s.2.1 s.2.2.1 s.2.2.2.1 s.2.2.2.2.1 s.2.2.2.2.2))))
   (if sbV s.2.2.2.2.2≠0 then 1 else if(fc c s.1 s.2.1.toNat).2≠0 then 1 else if(ej c s.2.2.1.toNat).1.length≠J s.2.2.2.2.2 then 1 else pA c s):=λ t=>by
  let⟨r1,r2,r3,r4,r5,r6,r7,r8⟩:=t;have e1:s.2.2.1=((s.2.2.1.toNat:Nat):Int):=by omega
  have e2:s.2.1=((s.2.1.toNat:Nat):Int):=by omega
  have I:=XE c d.p d.f A s.2.2.1.toNat (by omega) l1 v;have D:=Vu c d.p d.f s.2.2.1.toNat (by omega) l1 v;have H:=qqV c s.1 s.2.1.toNat (by omega) u;have C:=qq6 c s.1 s.2.1.toNat (by omega) u;rw[<-e1]at I D;rw[<-e2]at H C;have G:=qlQ s.2.2.2.2.2 K;have W:=qkE s.2.2.2.2.2 K;by_cases y:sbV s.2.2.2.2.2=0
  case neg=>
   rw[af y];refine⟨ag G (ah (bnt.2 (ay.2 y)) (aq _)),ag C (ag D (ak (λ _=>aq _) λ _=>ag W (ah (bnt.2 (ay.2 y)) (aq _))))⟩
  rw[ae (λ g=>g y)];have j:am (ieq (sbV s.2.2.2.2.2) 0)=Y:=bnf.2 (aB.2 y);by_cases B:(fc c s.1 s.2.1.toNat).2=0
  case neg=>
   rw[af B];exact⟨ag G (ai j (ag I (ag H (ah (bnt.2 (ay.2 B)) (aq _))))),ag C (ag D (ah (bnt.2 (ay.2 B)) (aq _)))⟩
  rw[ae (λ g=>g B)];have k:am (ieq (fc c s.1 s.2.1.toNat).2 0)=Y:=bnf.2 (aB.2 B);by_cases T:(ej c s.2.2.1.toNat).1.length=J s.2.2.2.2.2
  case neg=>
   rw[af T];exact⟨ag G (ai j (ag I (ag H (ai k (ah (bnt.2 (ay.2 (by omega))) (aq _)))))),ag C (ag D (ai k (ag W (ai j (ah (bnt.2 (ay.2 (by omega))) (aq _))))))⟩
  rw[ae (λ g=>g T)];let⟨k1,k2⟩:=qrT c s K y u (qrp d.p d.f v _) T;exact⟨ag G (ai j (ag I (ag H (ai k (ai (bnf.2 (aB.2 (by omega))) k1))))),ag C (ag D (ai k (ag W (ai j (ai (bnf.2 (aB.2 (by omega))) k2)))))⟩
 have ad:¬ nw c s->(if ¬ nw c s then(1:Int)else if sbV s.2.2.2.2.2≠0 then 1 else if(fc c s.1 s.2.1.toNat).2≠0 then 1 else if(ej c s.2.2.1.toNat).1.length≠J s.2.2.2.2.2 then 1 else pA c s)=1:=λ h=>af h;have o:nw c s->(if ¬ nw c s then(1:Int)else if sbV s.2.2.2.2.2≠0 then 1 else if(fc c s.1 s.2.1.toNat).2≠0 then 1 else if(ej c s.2.2.1.toNat).1.length≠J s.2.2.2.2.2 then 1 else pA c s)=(if sbV s.2.2.2.2.2≠0 then 1 else if(fc c s.1 s.2.1.toNat).2≠0 then 1 else if(ej c s.2.2.1.toNat).1.length≠J s.2.2.2.2.2 then 1 else pA c s):=λ h=>ae (λ g=>g h);have no {P:Prop} (h:P) (hn:P->¬ nw c s):(1:Int)=(if ¬ nw c s then(1:Int)else if sbV s.2.2.2.2.2≠0 then 1 else if(fc c s.1 s.2.1.toNat).2≠0 then 1 else if(ej c s.2.2.1.toNat).1.length≠J s.2.2.2.2.2 then 1 else pA c s):=(ad (hn h)).symm;constructor
 .apply aF;simp only[KH,wK];refine ag (Md c d) (ai E (ag (Uw c s.1 F) (ai v2 ?_)));refine ak (λ h=>al (no (aS.1 h) λ h r=>by have:=r.1;omega)) λ R=>?_;refine ak (λ h=>al (no (aS.1 h) λ h r=>by have:=r.2.1;omega)) λ Q=>?_;refine ak (λ h=>al (no (aS.1 h) λ h r=>by have:=r.2.2.1;omega)) λ N=>?_;refine ak (λ h=>al (no (aS.1 h) λ h r=>by have:=r.2.2.2.1;omega)) λ M=>?_;refine ak (λ h=>al (no (aS.1 h) λ h r=>by have:=r.2.2.2.2.1;omega)) λ L=>?_;rw[aT]at R Q N M L
  have S:1<=s.2.2.2.1/\s.2.2.2.1<=3->_:=λ z=>show Ev (λ m _=>cond (am (cQ (ieq s.2.2.1 (J c.2.2.2)) (ieq s.2.2.2.1 2))) (Z 1) (ab (wY m s.2.2.2.2.2) λ x=>cond (am (ieq x 0)) (Z 1) (ab (ue m c s.2.2.1) λ l=>ab (uc m c s.1 s.2.1) λ q=>cond (am (ieq q.2 0)) (Z 1)
   (cond (am (ieq (J l.1) (J s.2.2.2.2.2))) (Z 1) ((iz m m).1 l.1 q.1 s.2.2.2.2.2 (J s.2.2.2.2.2) 0 s.1.1 s.1.2 s.2.1 s.2.2.1 s.2.2.2.1 s.2.2.2.2.1 s.2.2.2.2.2))))) _ from
   ak (λ h=>al (no (Ja.1 h) λ h r=>h (by rw[gG,aB,aB];exact r.2.2.2.2.2.2.2))) λ h=>by
    have t:nw c s:=⟨by omega,by omega,by omega,by omega,by omega,z.1,z.2,by
     have:ieq s.2.2.1 (J c.2.2.2)=ieq s.2.2.2.1 2:=Rf.1 λ e=>by rw[Ja.2 e]at h;cases h
     rw[gG,aB,aB]at this;exact this⟩
    rw[o t];exact(n t).1
  refine ak (λ h=>?_) λ h=>S (by have:=aB.1 (bnf.1 h);omega);refine ak (λ h=>?_) λ h=>S (by have:=aB.1 (bnf.1 h);omega);refine ak (λ h=>?_) λ h=>S (by have:=aB.1 (bnf.1 h);omega);next a b=>have a:=ay.1 (bnt.1 a);have b:=ay.1 (bnt.1 b);exact al (no (ay.1 (bnt.1 h)) λ h r=>by have:=r.2.2.2.2.2.1;have:=r.2.2.2.2.2.2.1;omega)
 .apply aF;simp only[Lm,wO];refine ag (LF c d) (ai E (ag (UU c s.1 F) (ai v2 ?_)));refine ak (λ h=>al (no (aS.1 h) λ h r=>by have:=r.1;omega)) λ R=>?_;refine ak (λ h=>al (no (aS.1 h) λ h r=>by have:=r.2.1;omega)) λ Q=>?_;refine ak (λ h=>al (no (aS.1 h) λ h r=>by have:=r.2.2.1;omega)) λ N=>?_;refine ak (λ h=>al (no (aS.1 h) λ h r=>by have:=r.2.2.2.1;omega)) λ M=>?_;refine ak (λ h=>al (no (aS.1 h) λ h r=>by have:=r.2.2.2.2.1;omega)) λ L=>?_;refine ak (λ h=>al (no (aS.1 h) λ h r=>by have:=r.2.2.2.2.2.1;omega)) λ h6=>?_;refine ak (λ h=>al (no (aS.1 h) λ h r=>by have:=r.2.2.2.2.2.2.1;omega)) λ h7=>?_;refine ak (λ h=>al (no (Ja.1 h) λ h r=>h (by rw[gG,aB,aB];exact r.2.2.2.2.2.2.2))) λ h=>?_;rw[aT]at R Q N M L h6 h7
  have t:nw c s:=⟨by omega,by omega,by omega,by omega,by omega,by omega,by omega,by
   have:ieq s.2.2.1 (J c.2.2.2)=ieq s.2.2.2.1 2:=Rf.1 λ e=>by rw[Ja.2 e]at h;cases h
   rw[gG,aB,aB]at this;exact this⟩
  rw[o t];exact(n t).2
def qn6(n:Nat):zH (n+3000)=Z O:=by kernel_rfl
def LO:Ev (λ m _=>zH m) O:=⟨3000,λ m k a _=>by
 obtain⟨n,rfl⟩:∃n,m=n+3000:=⟨m-3000,by omega⟩
 exact qn6 n⟩
section
open Lib
def qoS(t:T):je t->∀a:Int,-1000000000<=a->a<=1000000000->Ev (λ m _=>lM m t a) (gx t a):=by
 induction t using T.ind with
 |h t j=>
   intro p a d c;let⟨u,v,s⟩:=(YJ t).1 p;apply aF;simp only[qi9,Dt];rw[YW];refine ak (λ h=>?_) λ h=>?_
   .rw[fU]at h;exact al (by rw[af (.inl h)])
   rw[jI]at h;refine ak (λ f=>?_) λ f=>?_
   .rw[aS]at f;exact al (by rw[af (.inr (by omega))])
   rw[aT]at f;rw[ifN,show cX a 1=a-1 from rfl,dC]
   have b:=aV (P:=λ i=>∀a:Int,0<=a->a<=1000000000->Ev (λ m k=>tJ m (lM m) k a i t.kind t.name t.sort t.kids) (om ((t.kids.drop i).map gx) a)) t.kids u
    (λ e a _ _=>by
     apply aw;simp only[SL,DA];apply ai e;rw[bO];exact aq _)
    (λ i x l q e o n r a d c=>by
     apply aw;simp only[SL,DA,aA];have g:=aK l;refine ah e (ao o (ag (j x g (s x g) a (by omega) (by omega)) ?_));rw[q,bh,om,n];have:=My x a;refine ak (λ h=>?_) λ h=>?_
     .rw[aS]at h;exact al (by rw[af h])
     .rw[aT]at h;rw[ifN];exact r _ (by omega) (by omega))
   apply bd (L:=λ m k=>tJ m (lM m) k (a-1) 0 t.kind t.name t.sort t.kids);exact(b 0 (aG _) (a-1) (by omega) (by omega)).res (by rw[bF])
def Z0(l:aa T)(j:J l<2^62)(q:∀t∈l,je t)(n:Nat)(a:Int)(c:0<=a)(b:a<=1000000000):Ev (λ m _=>Ae m l n a) (X (J l<=n)&&pj l a):=by
 apply aF;simp only[qmR,Fw];refine ak (λ h=>?_) λ h=>?_
 .rw[aS]at h;exact al (by rw[bo (by omega)];rfl)
 rw[aT]at h;rw[bf (by omega),bU]
 have d:=aV (P:=λ i=>∀a:Int,0<=a->a<=1000000000->Ev (λ m k=>uA m k l a i) (pj (l.drop i) a)) l j
  (λ e a _ _=>by
   apply aw;simp only[T4,E0];apply ai e;rw[bO];exact aq _)
  (λ i x f r e p o s a c b=>by
   apply aw;simp only[T4,E0,aA];have g:=aK f;refine ah e (ao p (ag (qoS x (q x g) a (by omega) (by omega)) ?_));rw[r,pj,o];have:=My x a;refine ak (λ h=>?_) λ h=>?_
   .rw[aS]at h;exact al (by rw[af h])
   .rw[aT]at h;rw[ifN];exact s _ (by omega) (by omega))
 apply bd (L:=λ m k=>uA m k l a 0);exact(d 0 (aG _) a c b).res (by rw[bF])
end
def iP(a:iN):aa T:=a.2.1::a.2.2.1::a.2.2.2.2
def gB(b:gz):aa T:=b.1::(b.2.map iP).flatten
def gM(B:aa gz):aa T:=(B.map gB).flatten
def ji(l:aa T):Prop:=J l<=200/\∀t∈l,size t<=1000
def ji.of{l l':aa T}(h:ji l')(c:J l<=J l')(b:∀t∈l,t∈l'):ji l:=⟨bT c h.1,λ t a=>h.2 t (b t a)⟩
def gB'(b:gz):aa T:=b.1::((b.2.take 30).map iP).flatten
def gM'(B:aa gz):aa T:=(B.map gB').flatten
def Y9{α:Type}(f:α->aa T):∀(l:aa α) (n:Nat),((l.take n).map f).flatten.length<=(l.map f).flatten.length
 |[],n|x::l,0=>by simp
 |x::l,n+1=>by
   have:=Y9 f l n;simp only[List.take_succ_cons,bh,wb,aO];omega
def Zk:∀B:aa gz,J (gM' B)<=J (gM B)
 |[]=>au _
 |b::B=>by
   have d:=Zk B;have c:=Y9 iP b.2 30;have e1:gM' (b::B)=gB' b++gM' B:=rfl;have a:gM (b::B)=gB b++gM B:=rfl;rw[e1,a,aO,aO];have f:J (gB' b)=((b.2.take 30).map iP).flatten.length+1:=rfl;have e:J (gB b)=(b.2.map iP).flatten.length+1:=rfl;omega
def Yj:∀(B:aa gz) (t:T),t∈gM' B->t∈gM B
 |[],t,h=>by cases h
 |b::B,t,h=>by
   have e1:gM' (b::B)=gB' b++gM' B:=rfl;have f:gM (b::B)=gB b++gM B:=rfl;rw[e1]at h;rw[f];obtain h|h:=aR.1 h
   .apply pC _;obtain rfl|h:=be.1 h
    .exact bj ..
    .let⟨y,e,d⟩:=qN.1 h;obtain⟨a,c,rfl⟩:=bE.1 e;exact bk _ (qN.2 ⟨_,bE.2 ⟨a,gd c,rfl⟩,d⟩)
   .exact pB _ (Yj B t h)
def qos(o:de)(hB:J o.2.2.2<=1000000000)(H:∀b∈o.2.2.2,J b.2<=1000000000)
  (hn:J (o.2.1++o.2.2.1)+J (gM o.2.2.2)<=1000000000) (n:∀t∈(o.2.1++o.2.2.1)++gM o.2.2.2,je t):∃b,Ev (λ m _=>Gr m o) b/\(b=O->SmM o):=by
 by_cases h1:6<J o.2.1
 .exact⟨Y,aF (by simp only[FQ,uk];exact ah (aS.2 (by omega)) (aq _)),λ h=>by cases h⟩
 by_cases h2:6<J o.2.2.1
 .exact⟨Y,aF (by simp only[FQ,uk];exact ai (aT.2 (by omega)) (ah (aS.2 (by omega)) (aq _))),λ h=>by cases h⟩
 by_cases h3:14<J o.2.2.2
 .exact⟨Y,aF (by simp only[FQ,uk];exact ai (aT.2 (by omega)) (ai (aT.2 (by omega)) (ah (aS.2 (by omega)) (aq _)))),λ h=>by cases h⟩
 let⟨u,P,F,B⟩:=o
 replace h1:¬ 6<J P:=h1
 replace h2:¬ 6<J F:=h2
 replace h3:¬ 14<J B:=h3
 replace hn:J (P++F)+J (gM B)<=1000000000:=hn
 replace n:∀t∈(P++F)++gM B,je t:=n
 replace H:∀b∈B,J b.2<=1000000000:=H
 have N:J (P++F)+J (gM' B)<=1000000000:=by have:=Zk B;omega
 have an:∀t∈(P++F)++gM' B,je t:=λ t h=>n t ((aR.1 h).elim (λ h=>pC _ h) λ h=>pB _ (Yj B t h))
 have ad:=aV (P:=λ i=>∀(f:aa T) (p:Int),f++gM' (B.drop i)=(P++F)++gM' B->∃b,Ev (λ m k=>(kg m k).1 p i u P F B f) b/\(b=O->ji ((P++F)++gM' B))) B (by omega)
  (λ hc f p w=>by
   rw[bO]at w;have w:f=(P++F)++gM' B:=by rw[<-w];exact(bJ _).symm
   subst w;have ax:=Z0 ((P++F)++gM' B) (by rw[aO];omega) an 200 500 (by decide) (by decide);by_cases hx:p<=40
   .refine⟨X (J ((P++F)++gM' B)<=200)&&pj ((P++F)++gM' B) 500,aw ?_,λ h=>?_⟩
    .simp only[Lo,zC];exact ai hc (ah (fU.2 hx) (ag ax (aq _)))
    .rw[aJ]at h;exact⟨bI h.1,λ t n=>by have:=M6 (by decide) h.2 t n;omega⟩
   .refine⟨Y,aw ?_,λ h=>by cases h⟩;simp only[Lo,zC];exact ai hc (ai (jI.2 (by omega)) (aq _)))
  (λ i b A hd hc G hi hP f p w=>by
   have aE:=aK A;have a5:=H b aE;have a4:=getElem?_lt A;have a6:J f+J (gM' (B.drop i))<=1000000000:=by rw[<-aO,w,aO];exact N
   have z:gM' (B.drop i)=gB' b++gM' (B.drop (i+1)):=by rw[hd];rfl
   have D:∀(d j:Nat),30<=j+d->j<=J b.2->j<=30->∀(f:aa T) (p:Int),f++((((b.2.take 30).drop j).map iP).flatten++gM' (B.drop (i+1)))=(P++F)++gM' B->
     ∃r,Ev (λ m k=>(kg m k).2 p i j u P F B f) r/\(r=O->ji ((P++F)++gM' B)):=by
    intro d
    induction d with
    |zero=>
      intro j a0 hj R f p g;have:j=30:=by omega
      subst this;rw[qdd (by rw[bg];omega)]at g;let⟨r,s,v⟩:=hP f (p) g;refine⟨r,aw ?_,v⟩;simp only[FA,wT];apply ao G;rw[hi];by_cases Q:30<J b.2
      .exact ah (aS.2 (by omega)) (ai (aT.2 (by omega)) s)
      .exact ai (aT.2 (by omega)) s
    |succ d M=>
      intro j a0 hj R f p g;by_cases Q:j<J b.2
      .by_cases ar:j<30
       .obtain⟨a,W⟩:∃a,b.2[j]?=Z a:=⟨_,aU Q⟩
        have az:(b.2.take 30).drop j=a::(b.2.take 30).drop (j+1):=by
         rw[JD (by rw[bg];omega)];congr 1;have:(b.2.take 30)[j]?=Z a:=by rw[wi ar];exact W
         exact(fd.1 this).2
        rw[az,bh,wb]at g
        have a1:J f+(J a.2.2.2.2+2)<=1000000000:=by
         have:=bz J g;simp only[aO,iP,bH]at this N;omega
        let⟨r,s,v⟩:=M (j+1) (by omega) (by omega) (by omega) (((f++[a.2.1])++[a.2.2.1])++a.2.2.2.2) p (by
         rw[<-g];simp only[iP,bC,Jz,iR])
        refine⟨r,aw ?_,v⟩;simp only[FA,wT,aA];refine ao G (ah (aS.2 (by omega)) (ah (aS.2 (by omega)) (ao G (ao (a:=a) (by rw[dz];exact W) ?_))));refine ah (bD (by omega) (by decide)) (ah (bD (by rw[aO,lH];omega) (by decide)) (ah (bD (by rw[aO,aO,lH,lH];omega) (by decide)) ?_));rw[show iw .i64 (av (j:Int) 1)=((j+1:Nat):Int)from by rw[show av (j:Int) 1=((j+1:Nat):Int)from by unfold av;omega,dC]];exact s
       .have:j=30:=by omega
        subst this;rw[qdd (by rw[bg];omega)]at g;let⟨r,s,v⟩:=hP f p g;refine⟨r,aw ?_,v⟩;simp only[FA,wT];refine ao G (ah (aS.2 (by omega)) (ai (aT.2 (by omega)) ?_));rw[hi];exact s
      .rw[qdd (by rw[bg];omega)]at g;let⟨r,s,v⟩:=hP f p g;refine⟨r,aw ?_,v⟩;simp only[FA,wT];refine ao G (ai (aT.2 (by omega)) ?_);rw[hi];exact s
   have a3:1<=J (gM' (B.drop i)):=by rw[z];simp only[gB',aO,bH];omega
   let⟨r,s,v⟩:=D 30 0 (by omega) (aG _) (by omega) (f++[b.1]) (iw .i64 (av p (J b.2))) (by
    rw[<-w,z,bF];simp only[gB',bC,Jz,iR])
   refine⟨r,aw ?_,v⟩;simp only[Lo,zC,aA];exact ah hc (ao G (ah (bD (by omega) (by decide)) (ao G s))))
 let⟨b,s,v⟩:=ad 0 (aG _) (P++F) 0 (by rw[bF]);refine⟨b,aF ?_,λ h=>?_⟩
 .have q:=bd (L:=λ m k=>(kg m k).1 0 0 u P F B (P++F)) s;simp only[FQ,uk];refine ai (aT.2 (show(J P:Int)<=6 by omega)) (ai (aT.2 (show(J F:Int)<=6 by omega)) (ai (aT.2 (show(J B:Int)<=14 by omega)) (ah (bD (by show(0+J P)*56<=_;omega) (by decide)) ?_)));refine oJ (λ e=>?_) λ x t e=>?_
  .replace e:P=[]:=e
   refine ah (bD (by show(0+J F)*56<=_;omega) (by decide)) (oJ (λ C=>?_) λ y t2 C=>?_)
   .replace C:F=[]:=C
    subst e C;exact q
   .replace C:F=y::t2:=C
    subst e C;exact q
  .replace e:P=x::t:=e
   subst e;exact ah (bD (by simp only[iR,bH]at *;omega) (by decide)) q
 .let⟨g1,I⟩:=v h;have a2:J P+J F<=200:=by rw[aO,aO]at g1;omega
  have K:∀b∈B,∀t∈gB' b,t∈(P++F)++gM' B:=λ b A t n=>pB _ (qN.2 ⟨_,bE.2 ⟨b,A,rfl⟩,n⟩);refine⟨⟨(by show J P<=6;omega),λ t n=>I t (pC _ (pC _ n))⟩,⟨(by show J F<=6;omega),λ t n=>I t (pC _ (pB _ n))⟩,(by show J B<=1000000;omega),λ b A S=>⟨?_,S,λ a w=>?_⟩⟩
  .have:=I b.1 (K b A _ (bj ..));omega
  .have E:∀t∈iP a,t∈(P++F)++gM' B:=λ t n=>K b A t (bk _ (qN.2 ⟨_,bE.2 ⟨a,(by rw[nL (by omega)];exact w),rfl⟩,n⟩));refine⟨by have:=I _ (E a.2.1 (by simp[iP]));omega,by have:=I _ (E a.2.2.1 (by simp[iP]));omega,?_,λ t n=>by have:=I _ (E t (by simp[iP,n]));omega⟩
   have a7:J a.2.2.2.2<=J (gM' B):=by
    have h5:∀(l:aa gz),b∈l->J (gB' b)<=J (gM' l):=by
     intro l
     induction l with
     |nil=>intro h;cases h
     |cons c l M=>
       intro h;have e:gM' (c::l)=gB' c++gM' l:=rfl;rw[e,aO];obtain rfl|h:=be.1 h
       .omega
       .have:=M h;omega
    have h6:∀(l:aa iN),a∈l->J (iP a)<=(l.map iP).flatten.length:=by
     intro l
     induction l with
     |nil=>intro h;cases h
     |cons c l M=>
       intro h;rw[bh,wb,aO];obtain rfl|h:=be.1 h
       .omega
       .have:=M h;omega
    have h7:=h5 B A;have h8:=h6 (b.2.take 30) (by rw[nL (by omega)];exact w);have e:J (gB' b)=((b.2.take 30).map iP).flatten.length+1:=rfl;have C:J (iP a)=J a.2.2.2.2+2:=rfl;omega
   rw[aO]at g1;omega
def qo9(l:aa Bd)(B:J l<=1000000000)(g:∀p∈l,je p.1/\je p.2):∃b,Ev (λ m _=>Gn m l 30 300) b/\(b=O->SmQ l):=by
 let d:aa Bd->aa T:=λ l=>(l.map λ p=>[p.1,p.2]).flatten
 have c:∀l,J (d l)=2*J l:=by
  intro l
  induction l with
  |nil=>rfl
  |cons p l w=>show(p.1::p.2::d l).length=_;simp only[bH,w];omega
 have o:=Z0 (d l) (by rw[c];omega) (λ t h=>by
  let⟨y,s,r⟩:=qN.1 h;obtain⟨p,v,rfl⟩:=bE.1 s;obtain rfl|r:=be.1 r
  .exact(g p v).1
  .exact dN.1 r▸(g p v).2) 60 300 (by decide) (by decide)
 refine⟨X (J (d l)<=60)&&pj (d l) 300,?_,λ h=>?_⟩
 .have n:=aV (P:=λ i=>Ev (λ m k=>uw m k l 30 300 i (d (l.take i))) (X (J (d l)<=60)&&pj (d l) 300)) l (by omega)
    (λ q=>aw (by
     simp only[T5,EU];rw[cI];exact ai q (ag o (aq _))))
    (λ i p j C q u z A=>aw (by
     have x:=getElem?_lt j;simp only[T5,EU,aA];refine ah q (ao u (ao u (ah (bD ?_ (by decide)) ?_)))
     .rw[c,bg];omega
     .rw[z]
      have e:d (l.take i)++[p.1,p.2]=d (l.take (i+1)):=by
       show _=(List.map _ (l.take (i+1))).flatten;rw[eI,j];simp[d]
      rw[e];exact A))
  apply aF;simp only[qmS,Ft];exact bd (L:=λ m k=>uw m k l 30 300 0 []) (n 0 (aG _))
 .rw[aJ]at h;have s:=bI h.1;rw[c]at s;refine⟨by omega,λ p j=>?_⟩;have f:∀t∈[p.1,p.2],t∈d l:=λ t g=>qN.2 ⟨_,bE.2 ⟨p,j,rfl⟩,g⟩;have a:=M6 (by decide) h.2 p.1 (f _ (by simp));have b:=M6 (by decide) h.2 p.2 (f _ (by simp));omega
def qq7(s:StV)(w:J s.1.2<=1000000000)(y:J s.2.2.2.2.2<=1000000000)(v:∀p∈s.2.2.2.2.2,je p.1/\je p.2):∃b,Ev (λ m _=>DQ m s) b/\(b=O->J s.1.2<=8/\SmQ s.2.2.2.2.2):=by
 let⟨b,q,o⟩:=qo9 s.2.2.2.2.2 y v;let⟨⟨t,c⟩,e,u,r,a,l⟩:=s
 have n:=aV (P:=λ i=>∀d:Int,∃b,Ev (λ m k=>tC m k d i t c e u r a l) b/\(b=O->J c<=8/\SmQ l)) c (by have:J c<=1000000000:=w;omega)
  (λ f d=>by
   by_cases D:J c<=8
   .by_cases C:d<=200
    .refine⟨b,aw ?_,λ h=>⟨D,o h⟩⟩;simp only[CK,wJ];exact ai f (ah (fU.2 (by omega)) (ah (fU.2 C) (ag q (aq _))))
    .refine⟨Y,aw ?_,λ h=>by cases h⟩;simp only[CK,wJ];exact ai f (ah (fU.2 (by omega)) (ai (jI.2 (by omega)) (aq _)))
   .refine⟨Y,aw ?_,λ h=>by cases h⟩;simp only[CK,wJ];exact ai f (ai (jI.2 (by omega)) (aq _)))
  (λ i x F G f A z B d=>by
   let⟨b,j,g⟩:=B (iw .i64 (av d (J x)));refine⟨b,aw ?_,g⟩;simp only[CK,wJ];rw[z];exact ah f (ao A j))
 let⟨E,j,g⟩:=n 0 (aG _) 0;refine⟨E,aF ?_,g⟩;simp only[qgr,CE];exact bd (L:=λ m k=>tC m k 0 0 t c e u r a l) j
def bqq(b:Bool):cQ b b=O:=by cases b<;>rfl
def qqt{a:de}{s:StV}{e:Int}(h:Ev (λ m _=>ra m a s) e):Ev (λ m _=>rf m a s) (cond (ieq e 0) (ieq s.2.2.2.1 2) Y):=by
 apply aF;simp only[qiM,Ky];refine ag h (ak (λ g=>al (by rw[g];rfl)) λ g=>al (by rw[g];rfl))
def qq2{a:de}{s:StV}{e:Int}(h:Ev (λ m _=>rk m a s) e):Ev (λ m _=>wZ m a s) (cond (ieq e 0) (ieq s.2.2.2.1 2) Y):=by
 apply aF;simp only[ql6,Lb];refine ag h (ak (λ g=>al (by rw[g];rfl)) λ g=>al (by rw[g];rfl))
def qri{a:de}{s:StV}{e:Int}(h:Ev (λ m _=>ra m a s) e)(b:e≠0):Ev (λ m _=>wL m a s) e:=by
 apply aF;simp only[qfO,Kd];exact ag h (ah (bnt.2 (ay.2 b)) (aq _))
def qil(c:de)(s:StV)(A:J c.2.2.2<=1000000000)(l:∀b∈c.2.2.2,J b.2<=1000000000)
  (y:J (c.2.1++c.2.2.1)+J (gM c.2.2.2)<=1000000000) (w:∀t∈(c.2.1++c.2.2.1)++gM c.2.2.2,je t)
  (i:J s.1.2<=1000000000) (j:J s.2.2.2.2.2<=1000000000) (h:∀p∈s.2.2.2.2.2,je p.1/\je p.2):Ev (λ m _=>law25_MachineCheck m c s) O:=by
 let⟨G,E,D⟩:=qos c A l y w;let⟨F,C,B⟩:=qq7 s i j h;apply aF;simp only[qeZ,J4,aA];refine ag LO (ai rfl (ag E ?_));cases G with
 |false=>exact ah rfl (ag LO (aq _))
 |true=>
   refine ai rfl (ag C ?_);cases F with
   |false=>exact ah rfl (ag LO (aq _))
   |true=>
     have z:=D rfl;let⟨H,x⟩:=B rfl;let⟨o,n⟩:=qph c s z (by omega) x;have r:=qqt o;have q:=qq2 n
     have v:Ev (λ m _=>ab (rk m c s) λ u=>cond (ieq (sJ c s) u) (ab (rf m c s) λ f=>ab (wZ m c s) λ e=>Z (cQ f e)) (Z Y)) O:=
      ag n (ah (aB.2 rfl) (ag r (ag q (al (bqq _)))))
     refine ai rfl (ag o (ag n (ai (bnf.2 (aB.2 rfl)) (ag r (ag q (ai (bnf.2 (bqq _)) ?_))))));refine ak (λ _=>v) λ d=>?_;have d:=ay.1 d;have k:=qri o d;have g:am (ieq (sJ c s) 0)=O:=bnt.2 (ay.2 d);refine ag (a:=T.mk 2 [97] 1 []) (aF (by simp only[ql2,La];exact aq _)) ?_;refine ag (a:=(((0,[]),(0,(0,(0,(0,[]))))),[],sJ c s)) (aF (by simp only[qf5,Ki];exact ag k (ah g (aq _)))) ?_;refine ag (a:=(T.mk 0 [] 0 [],sJ c s)) (aF (by simp only[qij,Kr];exact ag k (ah g (aq _)))) ?_;refine ag (a:=(((0,[]),(0,(0,(0,(0,[]))))),sJ c s)) (aF (by simp only[qfN,Kh];exact ag k (ah g (aq _)))) ?_;exact ah (aB.2 rfl) (ah (aB.2 rfl) (al (aB.2 rfl)))
section
open RowKit ChangeShapes WideShapes ChangeAt WideMaps WideElems
open Go.Proofs.YtfepnknpfhiemaaGreatDoor.Rows (uptoBulk uptoBulkAll)
def VM(b o j:Nat):(⟨b,o,U⟩:Addr).add j=⟨b,o+j,U⟩:=by unfold Addr.add;split<;>simp_all
def Ty.wt:Ty->Nat
 |.int _|.bool=>1
 |.str=>16
 |.list _=>24
 |.term=>56
 |.pair a b=>a.wt+b.wt
 |.one a=>a.wt
 |.map _ _=>8
def Ty.wt_pos:∀a:Ty,0<a.wt
 |.int _|.bool=>Nat.one_pos
 |.list _=>(by decide:0<24)
 |.str=>(by decide:0<16)
 |.term=>(by decide:0<56)
 |.pair a b=>dq (Ty.wt_pos a) (kM _ _)
 |.one a=>Ty.wt_pos a
 |.map _ _=>(by decide:0<8)
mutual
def tyM(P:ba):Nat->Ty->aQ->Bool
 |0,_,_=>Y
 |_+1,.int k,t=>match P.underlying t with
   |Z (.int d)=>X (d=k)&&X (P.cellsOf t=1)
   |_=>Y
 |_+1,.bool,t=>match P.underlying t with
   |Z .bool=>X (P.cellsOf t=1)
   |_=>Y
 |_+1,.str,t=>match P.underlying t with
   |Z .string=>X (P.cellsOf t=1)
   |_=>Y
 |n+1,.list a,t=>match P.underlying t with
   |Z (.slice e)=>X (P.cellsOf t=1)&&X (P.cellsOf e=a.size)&&X (a.wt<=P.bytesOf e)&&tyM P n a e
   |_=>Y
 |n+1,.term,t=>OT P n t
 |n+1,.pair a b,t=>match P.underlying t with
   |Z (.struct c)=>X (P.cellsOf t=a.size+b.size)&&fsM P n (.pair a b) 0 (V c)
   |_=>Y
 |n+1,.one a,t=>match P.underlying t with
   |Z (.struct c)=>X (P.cellsOf t=a.size)&&fsM P n a 0 (V c)
   |_=>Y
 |_+1,.map _ _,_=>Y
def fsM(P:ba):Nat->Ty->Nat->aa Field->Bool
 |0,_,_,_=>Y
 |n+1,τ,off,[f]=>X (f.offset=off)&&X (P.cellsOf f.type=τ.size)&&tyM P n τ f.type
 |n+1,.pair a b,off,f::g::r=>X (f.offset=off)&&X (P.cellsOf f.type=a.size)&&tyM P n a f.type&&fsM P n b (off+a.size) (g::r)
 |_+1,_,_,_=>Y
def OT(P:ba):Nat->aQ->Bool
 |0,_=>Y
 |n+1,t=>match P.underlying t with
   |Z (.struct f)=>match V f with
     |[d,c,b,a]=>X (P.cellsOf t=4)&&X (d.offset=0)&&X (c.offset=1)&&X (b.offset=2)&&X (a.offset=3)&&X (P.cellsOf a.type=1)&&
      tyM P n (.int .i64) d.type&&tyM P n .str c.type&&tyM P n (.int .i64) b.type&&(match P.underlying a.type with
      |Z (.slice e)=>X (e=t)&&X (0<P.bytesOf t)
      |_=>Y)
     |_=>Y
   |_=>Y
end
def kF:(τ:Ty)->Val τ->Prop
 |.int k,n=>k.min<=n/\n<=k.max
 |.bool,_=>True
 |.str,s=>J s<2^62
 |.term,t=>je t
 |.list a,l=>(J l<2^62/\J l*a.wt<=2^47)/\∀x∈l,kF a x
 |.pair a b,p=>kF a p.1/\kF b p.2
 |.one a,v=>kF a v
 |.map _ _,_=>True
def szV:(τ:Ty)->Val τ->Nat
 |.list a,l=>(l.map (szV a)).sum+1
 |.pair a b,p=>szV a p.1+szV b p.2
 |.one a,v=>szV a v
 |_,_=>1
def ghW(W:aC):Gh:=⟨λ b o=>match W.cell? ⟨b,o,U⟩with|Z u=>if u.oneCell'=O then Z u else U|U=>U,0,λ _=>0,0,λ _=>0,λ _=>0,λ _=>0,λ _=>0,λ _=>0⟩
def Zt{W:aC}{b o:Nat}{u:aj}:(ghW W).mem b o=Z u↔W.cell? ⟨b,o,U⟩=Z u/\u.oneCell'=O:=by
 show(match W.cell? ⟨b,o,U⟩with|Z u=>if u.oneCell'=O then Z u else U|U=>U)=Z u↔_;grind
def qsa(W:aC):Inv (ghW W) emp W:=
 ⟨rfl,rfl,λ b o u h=>Zt.1 h,λ i cs h=>(by cases h),λ i j h=>absurd h (fe _),λ i h=>absurd h (fe _),λ r R h=>(by cases h),λ r a h=>absurd h (fe _)⟩
def cells_len{W:aC}{ci:Nat}{a:Addr}:∀{n:Nat}{cs:aa aj},W.cells? ci a n=Z cs->J cs=n/\∀j u,cs[j]?=Z u->W.cell? (a.add j)=Z u:=by
 intro n cs h;unfold World.cells? at h;split at h
 case isFalse=>cases h
 have c:=mapM_some_length h;rw[wm]at c;refine⟨c,λ j u b=>?_⟩;have d:=getElem?_lt b;have:=mapM_some_get h j j (by rw[qcX (by omega)]);rw[this];exact b
section
variable {H:Type}{enc:aQ×aj->H}{P:ba}{W:aC}
def OY(enc:aQ×aj->H)(P:ba)(W:aC)(a:Nat):Prop:=∀(n:Nat) (τ:Ty) (t:aQ) (cs:aa aj) (x:DataW H×aa MemPlace),tyM P n τ t=O->DataW.trod enc P W 0 (λ _=>O) O a t cs=Z x->(∀k∈x.1.weights P t,k<=reachBytes)->
 ∃v:Val τ,RepL (ghW W) (aH τ v) cs/\(∀u∈cs,u.oneCell'=O)/\kF τ v/\szV τ v<=uptoBulk x.1
theorem xt(d:DataW H):1<=uptoBulk d:=by
 cases d with
 | lit l=>cases l<;>simp[uptoBulk]
 | nil=>simp[uptoBulk]
 | ptr d=>simp[uptoBulk]
 | slice elems spare=>simp[uptoBulk]
 | agg parts=>simp[uptoBulk]
 | iface t d=>simp[uptoBulk]
 | map entries=>simp[uptoBulk]
 | held h=>simp[uptoBulk]
def WK:∀(a:aa (DataW H)) (f:Nat->Nat),(∀i d,a[i]?=Z d->f i<=uptoBulk d)->((List.range (J a)).map f).sum<=uptoBulkAll a
 |[],f,_=>by simp[uptoBulkAll]
 |d::a,f,h=>by
   have j:=h 0 d rfl;have g:=WK a (λ i=>f (i+1)) λ i c b=>h (i+1) c b;rw[bH,qdb,bh,kN,iv];simp only[uptoBulkAll];have e:(List.map (f ∘ Nat.succ) (List.range (J a))).sum=((List.range (J a)).map λ i=>f (i+1)).sum:=rfl;omega
def S4{e:aQ}:∀{ds:aa (DataW H)}{d:DataW H},d∈ds->∀n∈d.weights P e,n∈DataW.weightsAll P e ds
 |b::ds,d,h,n,a=>by
   simp only[DataW.weightsAll,aR];obtain rfl|h:=be.1 h
   .exact Or.inl a
   .exact Or.inr (S4 h n a)
def Xb{n k:Nat}(h:n*k<=reachBytes)(a:0<k):n<2^62:=by
 have:n*1<=n*k:=qc7 _ a;have b:reachBytes=140737488351232:=rfl;omega
def qoG{α d:Type}{n:Nat}{Q:Nat->α->d->Prop}(e:0<n)(h:∀i,i<n->∃a b,Q i a b):∃(f:Nat->α) (g:Nat->d),∀i,i<n->Q i (f i) (g i):=by
 let⟨k,j,_⟩:=h 0 e;refine⟨λ i=>if c:i<n then(h i c).choose else k,λ i=>if c:i<n then(h i c).choose_spec.choose else j,λ i c=>?_⟩;grind
def Bo{Γ:Gh}{x:AV}{u:aj}(h:Rep Γ x u):RepL Γ [x] [u]:=ww h RepL.nil
theorem VR{fuel:Nat}(hA:∀ f,f<fuel->OY enc P W f){a:Ty}{t e:aQ}{m:Nat}{cs:List aj}{x:DataW H × List MemPlace}(ht:P.underlying t=some (.slice e))(hc:P.cellsOf e=a.size)(hb:0<P.bytesOf e)(hm:tyM P m a e=true)
  (h:DataW.trod enc P W 0 (λ _=>true) true fuel t cs=some x) (hw:∀ k∈x.1.weights P t,k<=reachBytes) :
  ∃(l:List (Val a)) (u:aj),cs=[u]/\u.oneCell'=true/\Rep (ghW W) (.sl a.size (l.map (aH a)) 1) u/\(l.length<2 ^ 62/\l.length*P.bytesOf e<=2 ^ 47)/\(∀ v∈l,kF a v)/\(l.map (szV a)).sum+1<=uptoBulk x.1:=by
 rcases DataW.trod_slice ht h with⟨rfl,rfl⟩ | ⟨ad,len,cap,elems,rest,n,rfl,rfl,rfl,_,hl,_,hlen,hel,_,_⟩
 ·refine⟨[],_,rfl,rfl,?_,⟨by simp,by simp⟩,(by intro v hv;cases hv),xt _⟩;exact .sl _ _ _ none 0 0 0 0 (λ _ _=>undef) rfl (λ _=>au _) (λ h=>by omega) (by intro e he;cases he) (by intro e he;cases he) (jk a) (.inl rfl) (by intro i e j x hi;cases hi) (by intro i e j x hi;cases hi)
 ·have hwt:(elems.length+rest.length)*P.bytesOf e<=reachBytes/\∀ k∈DataW.weightsAll P e (elems.map (·.1)),k<=reachBytes:=by
    simp only[DataW.weights,ht,cj,be,aR]at hw;exact⟨hw _ (.inl rfl),λ k hk=>hw k (.inr (.inl hk))⟩
  have each:∀ i,i<len->∃(v:Val a) (us:List aj),RepL (ghW W) (aH a v) us/\(∀ u∈us,u.oneCell'=true)/\kF a v/\(∀ j u,us[j]?=some u->W.cell? ((ad.add (i*a.size)).add j)=some u)/\(∀ d,(elems.map (·.1))[i]?=some d->szV a v<=uptoBulk d):=by
   intro i hi;have h1:=hel i hi;rw[aU (by omega),hc,Option.bind_eq_some_iff]at h1;obtain⟨us,h2,h3⟩:=h1;obtain⟨q1,q2⟩:=cells_len h2;obtain⟨v,g1,g2,g3,g4⟩:=hA n (wj _) m a e us _ hm h3 λ k hk=>hwt.2 k (S4 (nK (gC _)) k hk);exact⟨v,us,g1,g2,g3,q2,λ d hd=>by rw[di,aU (by omega)]at hd;cases hd;exact g4⟩
  by_cases h0:len=0
  ·subst h0;refine⟨[],_,rfl,rfl,?_,⟨by simp,by simp⟩,(by intro v hv;cases hv),xt _⟩;exact .sl _ _ _ _ 0 cap 0 0 (λ _ _=>undef) rfl (λ _=>hl) (λ h=>by omega) (by intro e he;cases he) (by intro e he;cases he) (jk a) (.inl rfl) (by intro i e j x hi;cases hi) (by intro i e j x hi;cases hi)
  obtain⟨b,o,rfl⟩:∃ b o,ad=⟨b,o,none⟩:=by
   obtain⟨v,us,g1,_,_,g4,_⟩:=each 0 (by omega);have hl1:us.length=a.size:=by rw[g1.len];exact gY a v
   have hp:=jk a;have h1:=g4 0 _ (aU (by omega));rw[kL]at h1;have e1:(ad.add 0).add 0=ad:=rfl;rw[e1]at h1;obtain⟨b,o,sp⟩:=ad;unfold World.cell? at h1;split at h1
   ·split at h1
    ·cases h1
    ·rename_i hs;cases sp with
     | none=>exact⟨b,o,rfl⟩
     | some s=>simp at hs
   ·cases h1
  obtain⟨vv,uu,hvu⟩:=qoG (by omega:0<len) each;have w1 := λ i hi=>(hvu i hi).1;have w2 := λ i hi=>(hvu i hi).2.1;have w3 := λ i hi=>(hvu i hi).2.2.1;have w4 := λ i hi=>(hvu i hi).2.2.2.1;have w5 := λ i hi=>(hvu i hi).2.2.2.2;have hget:∀ i,i<len->((List.range len).map vv)[i]?=some (vv i) := λ i hi=>by rw[di,qcX hi];rfl
  have hcell:∀(i:Nat) (e':List AV) (j:Nat) (y:AV),(((List.range len).map vv).map (aH a))[i]?=some e'->e'[j]?=some y->i<len/\∃ u,(uu i)[j]?=some u/\Rep (ghW W) y u/\(ghW W).mem b (o+i*a.size+j)=some u:=by
   intro i e' j y h1 h2;have hi:i<len:=by have:=getElem?_lt h1;simpa using this
   rw[di,hget i hi]at h1;cases h1;obtain⟨u,q1,q2⟩:=(w1 i hi).get h2;refine⟨hi,u,q1,q2,Zt.2 ⟨?_,w2 i hi u (aK q1)⟩⟩;have:=w4 i hi j u q1;rw[VM,VM]at this;exact this
  refine⟨(List.range len).map vv,_,rfl,rfl,?_,?_,?_,?_⟩
  ·refine .sl _ _ _ _ len cap b o (λ i j=>(uu i).getD j undef) (by simp) (λ _=>hl) (λ h=>by omega) ?_ ?_ (jk a) (.inr rfl) ?_ ?_
   ·intro e' he;obtain⟨v,_,rfl⟩:=bE.1 he;exact gY a v
   ·intro e' he;obtain⟨v,_,rfl⟩:=bE.1 he;exact iC a v
   ·intro i e' j y h1 h2;obtain⟨_,u,q1,q2,q3⟩:=hcell i e' j y h1 h2;rw[dO,q1];exact q3
   ·intro i e' j y h1 h2;obtain⟨_,u,q1,q2,q3⟩:=hcell i e' j y h1 h2;rw[dO,q1];exact q2
  ·rw[cj,wm,<- hlen];have hlb:elems.length*P.bytesOf e<=reachBytes:=bT (bY _ (kM _ _)) hwt.1;exact⟨Xb hlb hb,bT hlb (by decide)⟩
  ·intro v hv;obtain⟨i,hi,rfl⟩:=bE.1 hv;exact w3 i (jT.1 hi)
  ·have hs:=WK (elems.map (·.1)) (λ i=>szV a (vv i)) λ i d hd=>w5 i (by have:=getElem?_lt hd;rw[cj]at this;omega) d hd;rw[cj,hlen]at hs;have e:(((List.range len).map vv).map (szV a)).sum=((List.range len).map λ i=>szV a (vv i)).sum:=by rw[kN];rfl
   rw[e];simp only[uptoBulk];omega
theorem UE{fuel:Nat}(hA:OY enc P W fuel):∀(n:Nat) (τ : Ty) (off:Nat) (fs:List Field) (cs:List aj) (xs:List (DataW H × List MemPlace)),fsM P n τ off fs=true->xs.length=fs.length ->
  (∀(i:Nat) (f:Field),fs[i]?=some f->DataW.trod enc P W 0 (λ _=>true) true fuel f.type ((cs.drop f.offset).take (P.cellsOf f.type))=xs[i]?)->(∀ k∈DataW.weightsEach P (fs.map (·.type)) (xs.map (·.1)),k<=reachBytes)->off + τ.size<=cs.length ->
  ∃ v:Val τ,RepL (ghW W) (aH τ v) ((cs.drop off).take τ.size)/\(∀ u∈(cs.drop off).take τ.size,u.oneCell'=true)/\kF τ v/\szV τ v<=uptoBulkAll (xs.map (·.1)):=by
 intro n
 induction n with
 | zero=>intro τ off fs cs xs h;simp[fsM]at h
 | succ n ih =>
   intro τ off fs cs xs h hl hx hw hlen
   have one:∀ f x,fs=[f]->xs=[x]->(decide (f.offset=off)&&decide (P.cellsOf f.type = τ.size)&&tyM P n τ f.type)=true->∃ v:Val τ,RepL (ghW W) (aH τ v) ((cs.drop off).take τ.size)/\(∀ u∈(cs.drop off).take τ.size,u.oneCell'=true)/\kF τ v/\szV τ v<=uptoBulkAll (xs.map (·.1)):=by
    intro f x hf hxs h;simp only[aJ,cR]at h;obtain⟨⟨h1,h2⟩,h3⟩:=h;subst hf;subst hxs;have h4:=hx 0 f rfl;rw[h1,h2]at h4;obtain⟨v,q1,q2,q3,q4⟩:=hA n τ f.type _ x h3 h4 λ k hk=>hw k (by simp only[bh,Jn,DataW.weightsEach,bJ];exact hk);exact⟨v,q1,q2,q3,q4⟩
   cases fs with
   | nil=>cases τ <;> simp[fsM]at h
   | cons f r =>
     cases xs with
     | nil=>simp at hl
     | cons x xs =>
       cases r with
       | nil =>
         have hxn:xs=[]:=cT (by simpa using hl);subst hxn;refine one f x rfl rfl ?_;cases τ <;> exact h
       | cons g r =>
         cases τ with
         | pair a b =>
           simp only[fsM,aJ,cR]at h;obtain⟨⟨⟨h1,h2⟩,h3⟩,h4⟩:=h;have h5:=hx 0 f rfl;rw[h1,h2]at h5;have hsz:off+(a.size+b.size)<=cs.length:=hlen;simp only[bh,DataW.weightsEach,aR]at hw;obtain⟨v,v1,v2,v3,v4⟩:=hA n a f.type _ x h3 h5 λ k hk=>hw k (.inl hk);obtain⟨v',v1',v2',v3',v4'⟩:=ih b (off+a.size) (g::r) cs xs h4 (by simpa using hl) (λ i f' hf'=>hx (i+1) f' hf') (λ k hk=>hw k (.inr hk)) (by omega)
           have e:(cs.drop off).take (a.size+b.size)=(cs.drop off).take a.size++(cs.drop (off+a.size)).take b.size:=by
            rw[List.take_add,List.drop_drop]
           refine⟨(v,v'),?_,?_,⟨v3,v3'⟩,(by simp only[szV,bh,uptoBulkAll];exact Nat.add_le_add v4 v4')⟩
           ·show RepL _ (aH a v++aH b v') ((cs.drop off).take (a.size+b.size));rw[e];exact v1.append v1'
           ·show ∀ u∈(cs.drop off).take (a.size+b.size),_;rw[e];intro u hu;exact(aR.1 hu).elim (v2 u) (v2' u)
         | _=>simp[fsM]at h
def qrv{Γ:Gh}(k:IntKind)(n:Int):RepL Γ (aH (.int k) n) [.int k n]:=Bo (.v _ rfl)
def qqR:∀p,OY enc P W p:=by
 intro p
 induction p using Nat.strongRecOn with
 |ind p A=>
   have q:∀{k:IntKind}{t:aQ}{cs:aa aj}{x:DataW H×aa MemPlace}{f:Nat},P.underlying t=Z (.int k)->DataW.trod enc P W 0 (λ _=>O) O f t cs=Z x->∃n:Int,cs=[.int k n]/\k.min<=n/\n<=k.max:=by
    intro k t cs x f m h;obtain⟨n,rfl,_,S⟩:=DataW.trod_int m h;simp only[Lit.wf,aJ,cR]at S;exact⟨n,rfl,S⟩
   have D:∀{t:aQ}{cs:aa aj}{x:DataW H×aa MemPlace}{f:Nat},P.underlying t=Z .string->DataW.trod enc P W 0 (λ _=>O) O f t cs=Z x->(∀k∈x.1.weights P t,k<=reachBytes)->∃s:iy,cs=[.string s]/\J (V s.data)<2^62:=by
    intro t cs x f m h G;obtain⟨s,rfl,rfl,_⟩:=DataW.trod_string m h;refine⟨s,rfl,?_⟩;have:=G (J (V s.data)) (by simp[DataW.weights]);exact Xb (k:=1) (by omega) (by decide)
   intro n τ t cs x j h G;cases n with
   |zero=>cases τ<;>simp[tyM]at j
   |succ n=>
   cases τ with
   |int k=>
     simp only[tyM]at j;split at j
     .next k' m=>simp only[aJ,cR]at j;obtain⟨rfl,_⟩:=j;obtain⟨i,rfl,o,z⟩:=q m h;exact⟨i,qrv _ _,(by intro u w;rw[dN.1 w];rfl),⟨o,z⟩,xt _⟩
     .cases j
   |bool=>
     simp only[tyM]at j;split at j
     .next m=>obtain⟨b,rfl,_⟩:=DataW.trod_bool m h;exact⟨b,Bo (.v _ rfl),(by intro u w;rw[dN.1 w];rfl),trivial,xt _⟩
     .cases j
   |str=>
     simp only[tyM]at j;split at j
     .next m=>obtain⟨s,rfl,o⟩:=D m h G;refine⟨V s.data,?_,(by intro u w;rw[dN.1 w];rfl),o,xt _⟩;exact Bo (.v _ rfl)
     .cases j
   |list a=>
     simp only[tyM]at j;split at j
     .next e m=>simp only[aJ,cR]at j;let⟨⟨⟨_,y⟩,hb⟩,j⟩:=j;obtain⟨l,u,rfl,o,z,r,h4,h5⟩:=VR (λ f hf=>A f hf) m y (dq (Ty.wt_pos a) hb) j h G;exact⟨l,Bo z,(by intro u' w;rw[dN.1 w];exact o),⟨⟨r.1,bT (qc7 _ hb) r.2⟩,h4⟩,h5⟩
     .cases j
   |pair a b=>
     simp only[tyM]at j;split at j
     .next L m=>simp only[aJ,cR]at j;let⟨y,j⟩:=j;obtain⟨xs,f,rfl,rfl,o,z,r⟩:=DataW.trod_struct m h;have B:(Ty.pair a b).size=a.size+b.size:=rfl;let⟨v,Q,N,M,v4⟩:=UE (A f (wj _)) n (.pair a b) 0 (V L) cs xs j (by simpa using z) (λ i g E=>r i g (by simpa using E)) (by simpa[DataW.weights,m]using G) (by rw[o,y,B];omega);rw[bF,nL (by rw[o,y,B];exact au _)]at Q N;exact⟨v,Q,N,M,(by simp only[szV,uptoBulk]at v4 |-;omega)⟩
     .cases j
   |one a=>
     simp only[tyM]at j;split at j
     .next L m=>simp only[aJ,cR]at j;let⟨y,j⟩:=j;obtain⟨xs,f,rfl,rfl,o,z,r⟩:=DataW.trod_struct m h;let⟨v,Q,N,M,v4⟩:=UE (A f (wj _)) n a 0 (V L) cs xs j (by simpa using z) (λ i g E=>r i g (by simpa using E)) (by simpa[DataW.weights,m]using G) (by rw[o,y];omega);rw[bF,nL (by rw[o,y];exact au _)]at Q N;exact⟨v,Q,N,M,(by simp only[szV,uptoBulk]at v4 |-;omega)⟩
     .cases j
   |map a b=>simp[tyM]at j
   |term=>
     have ar:=j;simp only[tyM]at j;cases n with
     |zero=>simp[OT]at j
     |succ n=>
     simp only[OT]at j;split at j
     case h_2=>cases j
     rename_i L m;split at j
     case h_2=>cases j
     rename_i f0 f1 f2 f3 I;simp only[aJ,cR]at j;let⟨⟨⟨⟨⟨⟨⟨⟨⟨y,o0⟩,o1⟩,o2⟩,o3⟩,ax⟩,m0⟩,m1⟩,m2⟩,m3⟩:=j;split at m3
     case h_2=>cases m3
     rename_i e an;simp only[aJ,cR]at m3;obtain⟨rfl,hb⟩:=m3;obtain⟨xs,f,rfl,rfl,o,z,r⟩:=DataW.trod_struct m h;have B:L.size=4:=by rw[<-ir,I];rfl
     rw[B]at z;rw[y]at o
     obtain⟨c0,c1,c2,c3,rfl⟩:∃c0 c1 c2 c3,cs=[c0,c1,c2,c3]:=by
      match cs,o with
      |[a,b,c,d],_=>exact⟨a,b,c,d,rfl⟩
     obtain⟨x0,x1,x2,x3,rfl⟩:∃x0 x1 x2 x3,xs=[x0,x1,x2,x3]:=by
      match xs,z with
      |[a,b,c,d],_=>exact⟨a,b,c,d,rfl⟩
     have fg:∀i g,[f0,f1,f2,f3][i]?=Z g->L[i]?=Z g:=λ i g E=>by rw[<-I,gF]at E;exact E
     have s0:=r 0 f0 (fg 0 _ rfl);have s1:=r 1 f1 (fg 1 _ rfl);have s2:=r 2 f2 (fg 2 _ rfl);have s3:=r 3 f3 (fg 3 _ rfl)
     have K:∀{τ:Ty}{t:aQ},(∃k,τ=.int k)\/τ=.str->tyM P n τ t=O->P.cellsOf t=1:=by
      intro τ t ad j;cases n with
      |zero=>cases τ<;>simp[tyM]at j
      |succ n=>
        obtain⟨k,rfl⟩|rfl:=ad
        .simp only[tyM]at j;split at j
         .simp only[aJ,cR]at j;exact j.2
         .cases j
        .simp only[tyM]at j;split at j
         .exact bI j
         .cases j
     have C:∀{k:IntKind}{t:aQ},tyM P n (.int k) t=O->P.underlying t=Z (.int k):=by
      intro k t j;cases n with
      |zero=>simp[tyM]at j
      |succ n=>
        simp only[tyM]at j;split at j
        .next k' m=>simp only[aJ,cR]at j;rw[m,j.1]
        .cases j
     have R:∀{t:aQ},tyM P n .str t=O->P.underlying t=Z .string:=by
      intro t j;cases n with
      |zero=>simp[tyM]at j
      |succ n=>
        simp only[tyM]at j;split at j
        .assumption
        .cases j
     rw[o0,K (.inl ⟨_,rfl⟩) m0]at s0;rw[o1,K (.inr rfl) m1]at s1;rw[o2,K (.inl ⟨_,rfl⟩) m2]at s2;rw[o3,ax]at s3
     have F:∀k∈DataW.weightsEach P [f0.type,f1.type,f2.type,f3.type] [x0.1,x1.1,x2.1,x3.1],k<=reachBytes:=by
      intro k T;apply G k;simp only[DataW.weights,m,I];exact T
     simp only[DataW.weightsEach,aR]at F;let⟨i0,e0,_,_⟩:=q (C m0) (f:=f) (x:=x0) s0;let⟨i1,e1,b1⟩:=D (R m1) (f:=f) (x:=x1) s1 λ k T=>F k (.inr (.inl T));let⟨i2,e2,_,_⟩:=q (C m2) (f:=f) (x:=x2) s2;let⟨l,u,e3,b3,r3,l3,M,_⟩:=VR (a:=.term) (λ g E=>A g (Nat.lt_succ_of_lt E)) an y hb ar s3 λ k T=>F k (.inr (.inr (.inr (.inl T))));have g0:c0=.int .i64 i0:=by simpa using e0
     have g1:c1=.string i1:=by simpa using e1
     have g2:c2=.int .i64 i2:=by simpa using e2
     have g3:c3=u:=by simpa using e3
     subst g0;subst g1;subst g2;subst g3;refine⟨.mk i0 (V i1.data) i2 l,?_,?_,(YJ _).2 ⟨l3.1,b1,M⟩,xt _⟩
     .show RepL _ (iL _) _;rw[iL,Hg];exact ww (.v _ rfl) (ww (.v _ rfl) (ww (.v _ rfl) (Bo r3)))
     .intro u w;simp only[be,sX,or_false]at w;obtain rfl|rfl|rfl|rfl:=w
      .rfl
      .rfl
      .rfl
      .exact b3
end
end
abbrev sH:Ty:=.pair (.int .i64) (.pair .term (.pair .term (.pair (.int .i64) (.list .term))))
abbrev qt:Ty:=.pair .term (.list sH)
abbrev tMac:Ty:=.pair (.int .i64) (.pair (.list .term) (.pair (.list .term) (.list qt)))
def AF{a:Ty}(b:∀v:Val a,1<=szV a v):∀l:aa (Val a),J l<=(l.map (szV a)).sum
 |[]=>au _
 |v::l=>by have:=AF b l;have:=b v;simp only[bH,bh,iv];omega
def ZS{a:Ty}:∀{l:aa (Val a)}{v:Val a},v∈l->szV a v<=(l.map (szV a)).sum
 |x::l,v,h=>by
   simp only[bh,iv];obtain rfl|h:=be.1 h
   .omega
   .have:=ZS h;omega
def NH(l:aa T):szV (.list .term) l=J l+1:=by
 show(l.map λ _=>1).sum+1=_
 induction l with
 |nil=>rfl
 |cons x l a=>simp only[bh,iv,bH];omega
def ZI:∀A:aa iN,(A.map iP).flatten.length<=(A.map (szV sH)).sum
 |[]=>au _
 |a::A=>by
   have h:=ZI A;have e:szV sH a=1+(1+(1+(1+szV (.list .term) a.2.2.2.2))):=rfl;have b:J (iP a)=J a.2.2.2.2+2:=rfl;rw[NH]at e;simp only[bh,wb,aO,iv];omega
def ZE:∀B:aa gz,J (gM B)<=(B.map (szV qt)).sum
 |[]=>au _
 |b::B=>by
   have h:=ZE B;have a:=ZI b.2;have e:szV qt b=1+((b.2.map (szV sH)).sum+1):=rfl;have e1:gM (b::B)=gB b++gM B:=rfl;have c:J (gB b)=(b.2.map iP).flatten.length+1:=rfl;rw[e1,aO];simp only[bh,iv];omega
def xN:∀(τ:Ty) (v:Val τ),1<=szV τ v
 |.int _,_|.bool,_|.str,_|.term,_|.map _ _,_=>au _
 |.list a,l=>Nat.le_add_left _ _
 |.pair a b,p=>bT (xN a p.1) (kM _ _)
 |.one a,v=>xN a v
def qrN(c:de)(r:kF tMac c)(v:szV tMac c<=1048576:=by omega):J c.2.2.2<=1000000000/\(∀b∈c.2.2.2,J b.2<=1000000000)/\J (c.2.1++c.2.2.1)+J (gM c.2.2.2)<=1000000000/\∀t∈(c.2.1++c.2.2.1)++gM c.2.2.2,je t:=by
 let⟨g,P,F,B⟩:=c;have s:szV tMac (g,(P,(F,B)))=1+(szV (.list .term) P+(szV (.list .term) F+((B.map (szV qt)).sum+1))):=rfl;rw[NH,NH]at s;have w:=AF (a:=qt) (xN qt) B;have u:=ZE B;let⟨_,⟨_,o⟩,⟨_,p⟩,⟨_,q⟩⟩:=r;refine⟨?_,?_,?_,?_⟩
 .show (J B)<=_;omega
 .intro b f
  replace f:b∈B:=f
  have k:=ZS (a:=qt) f;have i:=AF (a:=sH) (xN sH) b.2;have e:szV qt b=1+((b.2.map (szV sH)).sum+1):=rfl;omega
 .show(P++F).length+J (gM B)<=_;rw[aO];omega
 .show ∀t∈(P++F)++gM B,je t;intro t d;obtain d|d:=aR.1 d
  .obtain d|d:=aR.1 d
   .exact o t d
   .exact p t d
  .let⟨y,k,i⟩:=qN.1 d;obtain⟨b,n,rfl⟩:=bE.1 k;have fb:kF qt b:=q b n;obtain rfl|i:=be.1 i
   .exact fb.1
   .let⟨z,m,h⟩:=qN.1 i;obtain⟨a,l,rfl⟩:=bE.1 m;have j:kF sH a:=fb.2.2 a l;obtain rfl|h:=be.1 h
    .exact j.2.1
    .obtain rfl|h:=be.1 h
     .exact j.2.2.1
     .exact j.2.2.2.2.2 t h
abbrev tSta:Ty:=.pair (.pair (.int .i64) (.list .str)) (.pair (.int .i64) (.pair (.int .i64) (.pair (.int .i64) (.pair (.int .i64) (.list (.pair .term .term))))))
def machineCheck_fit(d:de)(s:StV)(u:kF tMac d)(t:kF tSta s)(w:szV tMac d+szV tSta s<=1048576):Ev (λ m _=>law25_MachineCheck m d s) O:=by
 let⟨q,o,n,k⟩:=qrN d u;let⟨⟨g,c⟩,e,h,f,b,l⟩:=s;have e1:szV tSta ((g,c),(e,(h,(f,(b,l)))))=(1+((c.map (szV .str)).sum+1))+(1+(1+(1+(1+((l.map (szV (.pair .term .term))).sum+1))))):=rfl;have i:=AF (a:=.str) (xN .str) c;have v:=AF (a:=.pair .term .term) (xN _) l;let⟨_,_,_,_,_,⟨_,r⟩⟩:=t;apply qil _ _ q o n k
 .show (J c)<=_;omega
 .show (J l)<=_;omega
 .intro p j;exact r p j
section
set_option maxRecDepth 100000
open Go.Proofs.Tryz (f9 f11 f12 f13 f14 f18 f19 f22 f24 f25 f27 f28 f29 f30 f33 f35 f36 f37 f38 f41 f42 f43 f44 f45 f46 f47 f48 f49 f50 f55 f56 f57 f58 f59 f60 f61 f62 f64 f65 f66 f67 f68 f70 f71 f72 f74 f75 f76 f77 f80 f85 f87 f90 f91 f92 f93 f94 f95 f98 f99 f100 f101 f102 f105 f106 f107 f108 f109 f111 f112 f113 f114 f115 f116 f117 f118 f119 f120 f121 f122 f123 f124 f125 f126 f127 f128 f129 f132 f135 f137 f138 f139 f140 f141 f142 f143 f145 f146 f147 f148 f149 f150 f151 f154 f155 f156 f157 f160 f161 f162 f163 f164 f166 f167 f168 f169 f170 f171 f172 f173 f174 f175 f176 f178 f180 f183 f184 f185 f186 f187 f189 f190 f191 f203 f204 f205 f206 f207 f208 f209 f211 f212 f213 f214 f215 f216 f217 f218 f219 f220 f221 f222 f223 f224 f225 f237 f238 f239 f241 f247 f248 f249 f250 f251 f252 f253 f254 f255 f256 f257 f258 f259 f260 f261 f262 f263 f264 f273 f274 f275 f277 f278 f279 f283 f284 f287 f288 f291)
abbrev y18:Ty:=.int .u8
abbrev y6:Ty:=.int .i64
abbrev y10:Ty:=.list .term
abbrev y5:Ty:=.pair .term .term
abbrev y17:Ty:=.pair .str y6
abbrev y4:Ty:=.pair .term y6
abbrev y8:Ty:=.list y5
abbrev y13:Ty:=.pair y6 (.list .str)
abbrev y9:Ty:=.list y4
abbrev y16:Ty:=.map y17 .term
abbrev y12:Ty:=.pair y6 (.pair y6 y10)
abbrev y14:Ty:=.list y12
abbrev y11:Ty:=.pair .str (.pair y6 (.pair y6 y6))
abbrev y15:Ty:=.list y11
abbrev y7:Ty:=.pair y6 (.pair .term (.pair .term (.pair y6 y10)))
abbrev y2:Ty:=.pair .term (.list y7)
abbrev y3:Ty:=.pair y13 (.pair y6 (.pair y6 (.pair y6 (.pair y6 y8))))
abbrev y1:Ty:=.pair y6 (.pair y10 (.pair y10 (.list y2)))
abbrev cK:Co:=.keep
abbrev cL:Co:=.list .term
abbrev cA:Co:=.box [cK,cK,cK,cL]
abbrev cB:Co:=.box [cK,cK,cK,.row .term Y]
def i9:FI:=⟨f9,[.val y1,.val y3],[.bool],[],[],u2 law25_MachineCheck⟩
def i11:FI:=⟨f11,[],[.bool],[],[],u0 zH⟩
def i12:FI:=⟨f12,[.val y1],[.bool],[(6,[(1,.box [cK,.list .term,.list .term,.list y2]),(3,.row .term Y),(4,cK),(5,cK)]),(11,[(1,.box [cK,.list .term,.list .term,.list y2]),(3,.row .term Y),(4,cK),(5,cK),(6,cK)])],[],u1 Gr⟩
def i13:FI:=⟨f13,[.val y3],[.bool],[(3,[(1,.box [cK,.list .str,cK,cK,cK,cK,.list y5]),(3,cK),(4,cK)])],[],u1 DQ⟩
def i14:FI:=⟨f14,[.val y1,.val y13,.val y6],[y3,y14,y6],[],[],u3 Tu⟩
def i18:FI:=⟨f18,[.val y1,.val y3],[y6],[(22,[(3,.box [cK,.list .str,cK,cK,cK,cK,.list y5]),(7,cL),(9,.list y5),(101,.list y5),(102,cK),(103,cK)]),(28,[(3,.box [cK,.list .str,cK,cK,cK,cK,.list y5]),(130,.list y5),(131,cK),(132,cK)])],[],u2 ra⟩
def i19:FI:=⟨f19,[.val y10,.val y6,.val y6],[.bool],[(4,[(0,cL),(2,cK),(7,cK)])],[],u3 Ae⟩
def i22:FI:=⟨f22,[.val y1,.val y3,.val .term],[y3,y14,y6],[],[],u3 zj⟩
def i24:FI:=⟨f24,[.val y6],[y13],[],[],u1 To⟩
def i25:FI:=⟨f25,[.val y1,.val y3],[.term,y6],[],[],u2 EM⟩
def i27:FI:=⟨f27,[.val .term],[.bool],[],[],u1 Fc⟩
def i28:FI:=⟨f28,[.val .term],[.bool],[(6,[(5,cL),(6,cK)])],[],u1 FJ⟩
def i29:FI:=⟨f29,[.val .term,.val .term],[.bool],[],[],u2 jz⟩
def i30:FI:=⟨f30,[.val y8,.val .term],[.term],[(2,[(0,.list y5),(3,cA),(4,cB),(5,cK)])],[],u2 Gz⟩
def i33:FI:=⟨f33,[.val y1,.val y3],[y3,y6],[],[],u2 KJ⟩
def i35:FI:=⟨f35,[.val y1,.val y3],[.bool],[],[],u2 rf⟩
def i36:FI:=⟨f36,[.val y1,.val y3],[.bool],[],[],u2 wZ⟩
def i37:FI:=⟨f37,[.val y1,.val y3],[y6],[(12,[(3,.box [cK,.list .str,cK,cK,cK,cK,.list y5]),(7,.list y5),(9,cL),(11,cK)]),(18,[(3,.box [cK,.list .str,cK,cK,cK,cK,.list y5]),(7,.list y5),(13,cK)])],[],u2 rk⟩
def i38:FI:=⟨f38,[.val .str,.val y6],[.term],[],[],u2 pP⟩
def i41:FI:=⟨f41,[.val y1],[y6],[],[],u1 zq⟩
def i42:FI:=⟨f42,[.val y1],[y6],[],[],u1 FT⟩
def i43:FI:=⟨f43,[],[y1],[],[],u0 TG⟩
def i44:FI:=⟨f44,[.val .str,.val y10],[.term],[],[],u2 gX⟩
def i45:FI:=⟨f45,[.val y8,.val y6,.val y6],[.bool],[(3,[(0,.list y5),(1,cK),(2,cK),(7,.row .term Y),(8,cK)])],[],u3 Gn⟩
def i46:FI:=⟨f46,[.val y1,.val y13],[.bool],[(4,[(3,.box [cK,.list .str]),(22,.list .str),(23,cK),(24,cK)])],[],u2 zg⟩
def i47:FI:=⟨f47,[.val y1,.val y13,.val y6],[y8,y6],[(5,[(2,cK),(3,.box [cK,.list .term,.list .term,.list y2]),(4,.box [cK,.list .str]),(8,.box [.row y5 Y]),(9,.fn [.box []]),(10,.row .str Y),(27,cL),(28,cK),(29,cK)]),(12,[(2,cK),(8,.box [.row y5 Y]),(9,.fn [.box []]),(55,cL),(56,cK),(57,cK)])],[999999],u3 uc⟩
def i48:FI:=⟨f48,[.val y1,.val y3,.val .term],[y3,y14,.bool],[(9,[(3,.box [cK,.list .term,.list .term,.list y2]),(4,.box [cK,.list .str,cK,cK,cK,cK,.list y5]),(6,.box [cK,.row .str O,cK,cK,cK,cK,.row y5 O]),(10,.list y5),(12,.row y12 O),(43,.list y7),(44,cK),(45,cK)]),(14,[(3,.box [cK,.list .term,.list .term,.list y2]),(4,.box [cK,.list .str,cK,cK,cK,cK,.list y5]),(6,.box [cK,.row .str O,cK,cK,cK,cK,.row y5 O]),(10,.list y5),(12,.row y12 O),(17,.box [cK,cK,.row .term Y]),(43,.list y7),(44,cK),(45,cK),(57,cL),(58,cK),(59,cK)])],[],u3 LV⟩
def i49:FI:=⟨f49,[.val y1,.val y13],[.bool],[(4,[(3,.box [cK,.list .str]),(5,cK)]),(9,[(3,.box [cK,.list .str]),(5,cK),(6,cK)])],[],u2 F8⟩
def i50:FI:=⟨f50,[.val y1,.val y13,.val y6],[y8,y6],[(3,[(2,cK),(3,.box [cK,.list .term,.list .term,.list y2]),(4,.box [cK,.list .str]),(8,.list y5),(9,cK)]),(7,[(2,cK),(3,.box [cK,.list .term,.list .term,.list y2]),(8,.list y5),(10,cK)])],[72],u3 zm⟩
def i55:FI:=⟨f55,[.val y8],[y6],[(4,[(0,.list y5),(10,.list y5),(11,cK),(12,cK)])],[],u1 wY⟩
def i56:FI:=⟨f56,[.val y1,.val y6],[y10,y6],[(3,[(6,.box [.row .term Y]),(21,.list y2),(22,cK),(23,cK)])],[],u2 ue⟩
def i57:FI:=⟨f57,[.val .term,.val .term],[.bool],[],[],u2 wS⟩
def i58:FI:=⟨f58,[.val .term],[y10],[],[],u1 pR⟩
def i59:FI:=⟨f59,[.val .term],[.bool],[],[],u1 zr⟩
def i60:FI:=⟨f60,[.val y8,.val .term],[.term,.bool],[],[],u2 wI⟩
def i61:FI:=⟨f61,[.val .term,.val y6],[y6],[(5,[(1,cK),(2,cA),(5,cK)])],[],u2 lM⟩
def i62:FI:=⟨f62,[.val .str,.val y6],[.term],[],[],u2 GR⟩
def i64:FI:=⟨f64,[.val y1,.val y6],[y10,y6],[(3,[(1,cK),(2,.box [cK,.list .term,.list .term,.list y2]),(6,.row .term Y),(7,cK)]),(10,[(1,cK),(2,.box [cK,.list .term,.list .term,.list y2]),(6,.row .term Y),(7,cK),(8,cK)])],[],u2 wW⟩
def i65:FI:=⟨f65,[.val .term,.val y10],[.bool],[(3,[(1,cL),(5,cL),(6,cK)])],[],u2 Fa⟩
def i66:FI:=⟨f66,[.val y10,.val .term],[.bool],[(2,[(0,cL),(3,cA),(5,cK)])],[],u2 ru⟩
def i67:FI:=⟨f67,[.val y1,.val y3],[y6],[],[],u2 wL⟩
def i68:FI:=⟨f68,[.val y3],[y3],[],[],u1 Ed⟩
def i70:FI:=⟨f70,[.val y8,.val .term],[.term],[(7,[(0,.list y5),(4,cB),(9,cB),(35,cL),(36,cK),(37,cK)])],[],u2 tu⟩
def i71:FI:=⟨f71,[.val .term],[y10],[],[],u1 oL⟩
def i72:FI:=⟨f72,[.val y8,.val .term,.val .term],[y8],[(6,[(0,.list y5),(4,cA),(5,cA),(7,.row y5 Y),(8,cK),(9,cK)])],[],u3 zN⟩
def i74:FI:=⟨f74,[.val .term],[.term,y6],[],[],u1 Fk⟩
def i75:FI:=⟨f75,[.val .term],[y10],[(3,[(1,cA),(3,.row .term O),(4,cK)])],[],u1 km⟩
def i76:FI:=⟨f76,[.val .str],[y6],[(3,[(0,cK),(3,.list y11),(4,cK)])],[],u1 uI⟩
def i77:FI:=⟨f77,[.val .term,.val .term],[y6],[(18,[(2,cA),(3,cA),(9,cK)])],[],u2 iV⟩
def i80:FI:=⟨f80,[.val y8],[y6],[(4,[(0,.list y5),(3,cK)])],[],u1 zD⟩
def i85:FI:=⟨f85,[.val y6],[.str],[],[],u1 Fs⟩
def i87:FI:=⟨f87,[.val y6],[.str],[],[],u1 Fx⟩
def i90:FI:=⟨f90,[.val y1],[.bool],[(3,[(1,.box [cK,.list .term,.list .term,.list y2]),(3,.plist .term),(19,.row .term O),(20,cK),(21,cK)]),(12,[(79,.list y2),(80,cK),(81,cK)]),(17,[(79,.list y2),(80,cK),(81,cK),(90,.list y7),(91,cK),(92,cK)])],[],u1 DZ⟩
def i91:FI:=⟨f91,[.val y1],[.bool],[(4,[(1,.box [cK,.list .term,.list .term,.list y2]),(3,cK)]),(9,[(1,.box [cK,.list .term,.list .term,.list y2]),(4,cK)])],[],u1 Dq⟩
def i92:FI:=⟨f92,[.val y1],[.bool],[(4,[(1,.box [cK,.list .term,.list .term,.list y2]),(3,cK)]),(9,[(1,.box [cK,.list .term,.list .term,.list y2]),(3,cK),(4,cK)])],[],u1 Fh⟩
def i93:FI:=⟨f93,[.val .str],[.bool],[],[],u1 Eg⟩
def i94:FI:=⟨f94,[.val (.list .str),.val .str],[.bool],[],[],u2 Ca⟩
def i95:SI:=⟨f95,[.val .term,.val .str,.box [.row y5]],[],[],[],u3 wH⟩
def i98:FI:=⟨f98,[.val y8,.val y8],[y8],[],[],u2 zc⟩
def i99:FI:=⟨f99,[.val y8,.val .term,.val .term],[y8,.bool],[],[],u3 J9⟩
def O8:FI:=⟨f100,[.val y8],[y8],[(3,[(3,.row y5 Y),(10,.list y5),(11,cK),(12,cK)])],[],u1 J6⟩
def PA:FI:=⟨f101,[.val .str],[.bool],[(4,[(0,cK),(3,cK)])],[],u1 uq⟩
def qcs:FI:=⟨f102,[.val y1,.val y6],[y6],[],[],u2 FG⟩
def qbU:FI:=⟨f105,[.val .term],[y6],[],[],u1 fI⟩
def Pl:FI:=⟨f106,[.val .term,.val .term],[y6],[(11,[(2,cA),(3,cA),(5,cK),(6,cK)])],[],u2 cZ⟩
def qbe:FI:=⟨f107,[.val .term,.val .term],[.bool],[],[],u2 zM⟩
def I1:SI:=⟨f108,[.val (.list y10)],[.one (.row .term)],[(3,[(0,.list y10),(3,cK),(9,.list y10),(10,cK),(11,cK)]),(11,[(6,.row .term Y),(25,.list y10),(26,cK),(27,cK)])],[],u1 qO⟩
def Bz:SI:=⟨f109,[.box [.row .term],.val y2,.val .bool],[.one (.val y6)],[(6,[(0,.box [.row .term Y]),(25,.list y7),(26,cK),(27,cK)]),(20,[(0,.box [.row .term Y]),(25,.list y7),(26,cK),(27,cK),(72,cL),(73,cK),(74,cK)]),(23,[(0,.box [.row .term Y]),(25,.list y7),(26,cK),(27,cK),(72,cL),(73,cK),(74,cK),(79,cL),(80,cK),(81,cK)])],[],u3 Cp⟩
def qby:FI:=⟨f111,[.val .term,.val y6],[y10],[],[],u2 LA⟩
def qbo:FI:=⟨f112,[.val .term],[.term,y6],[],[],u1 Ej⟩
def qbg:FI:=⟨f113,[.val .term,.val .term],[.bool],[],[],u2 pJ⟩
def QB:FI:=⟨f114,[.val .term,.fn],[.bool],[(4,[(1,cK),(18,cL),(19,cK),(20,cK)])],[],u1 kV⟩
def N9:FI:=⟨f114,[.val .term,.fn],[.bool],[(4,[(1,cK),(18,cL),(19,cK),(20,cK)])],[],u1 kU⟩
def qcf:FI:=⟨f115,[.val .str],[.bool],[],[],u1 DS⟩
def O2:FI:=⟨f116,[.val .str],[y11],[(2,[(0,cK),(2,.box [cK,cK,cK,cK]),(5,.list y11),(6,cK),(7,cK)])],[],u1 wR⟩
def PQ:FI:=⟨f117,[.val y8,.val .term,.fn],[y6,.bool],[(3,[(0,.list y5),(2,cK),(4,cA),(8,cK),(9,cK),(10,cK)])],[],u2 BS⟩
def qbY:FI:=⟨f118,[.val y5,.val .term],[y6],[],[],u2 zb⟩
def Qp:FI:=⟨f119,[.val .term],[.bool],[(5,[(3,cL),(4,cK)])],[],u1 uH⟩
def Jl:SI:=⟨f120,[.val y7,.row .term],[.one (.row .term),.one (.val y6)],[(11,[(1,.row .term Y),(6,cL),(7,cK)]),(16,[(1,.row .term Y),(6,cL),(8,cK)])],[],u2 GL⟩
def QD:FI:=⟨f121,[.val y10],[y10],[(3,[(0,cL),(3,cL),(4,cK)])],[],u1 Ak⟩
def PW:FI:=⟨f122,[.val .term,.val (.list y6)],[.term,y6],[(2,[(2,cA),(4,cB),(8,.list y6),(9,cK),(10,cK)])],[],u2 H9⟩
def Pz:FI:=⟨f123,[.val .term,.val y6],[y10],[(4,[(1,cK),(5,.row .term Y),(6,cL),(7,cK)])],[],u2 Gg⟩
def qcD:FI:=⟨f124,[.val .term],[y6],[],[],u1 zG⟩
def PK:FI:=⟨f125,[.val .term],[.term,y6],[(5,[(1,cA),(2,cB),(4,.row .term Y),(5,cK)])],[],u1 lN⟩
def qa4:FI:=⟨f126,[.val .term],[y6],[],[],u1 iA⟩
def qbO:FI:=⟨f127,[],[y15],[],[],u0 Lc⟩
def qcu:FI:=⟨f128,[.val y6,.val y6],[y6],[],[],u2 uh⟩
def Qo:FI:=⟨f129,[.val .term],[y6],[(3,[(1,cA),(3,cK),(4,cK)])],[],u1 jB⟩
def qcI:FI:=⟨f132,[.val y5],[y6],[],[],u1 EJ⟩
def qcp:FI:=⟨f135,[.val y6],[.str],[],[],u1 RC⟩
def qaY:FI:=⟨f137,[.val y10,.val .term],[.bool],[],[],u2 uB⟩
def qa8:FI:=⟨f138,[.val .term],[.bool],[],[],u1 lK⟩
def Ph:FI:=⟨f139,[.val y10],[.bool],[(2,[(0,cL),(3,cK)])],[],u1 tV⟩
def qb2:FI:=⟨f140,[.val .term],[.bool],[],[],u1 pM⟩
def qct:FI:=⟨f141,[.val y7],[.bool],[],[],u1 FO⟩
def Qn:FI:=⟨f142,[.val (.list .str),.val .str],[y6],[(2,[(0,.list .str),(1,cK),(7,cK),(8,cK)])],[],u2 JW⟩
def I4:SI:=⟨f143,[.val (.list y8)],[.one (.row y5)],[(3,[(0,.list y8),(3,cK),(9,.list y8),(10,cK),(11,cK)]),(11,[(6,.row y5 Y),(25,.list y8),(26,cK),(27,cK)])],[],u1 B5⟩
def qcl:FI:=⟨f145,[.val y5,.val y5],[y6],[],[],u2 lI⟩
def Qx:FI:=⟨f146,[.val .term,.val .term],[y8,y6],[(9,[(7,.box []),(8,.row y5 Y),(25,cL),(26,cK),(27,cK)])],[],u2 Uj⟩
def qcG:FI:=⟨f147,[.val y18],[.bool],[],[],u1 zt⟩
def qcz:FI:=⟨f148,[.val y18],[.bool],[],[],u1 FF⟩
def Qa:SI:=⟨f149,[.val .term,.val y6,.box [.val y6],.box [.val y6]],[.one (.val y6)],[(17,[(1,cK),(2,.box [cK]),(3,.box [cK]),(57,cL),(58,cK),(59,cK)])],[],u4 iD⟩
def qcF:FI:=⟨f150,[.val y6,.val y6],[y6],[],[],u2 uM⟩
def PY:FI:=⟨f151,[.val .term],[y6],[(3,[(3,cK),(7,cL),(8,cK),(9,cK)])],[],u1 ko⟩
def qbC:FI:=⟨f154,[.val .term],[.bool],[],[],u1 tU⟩
def O3:SI:=⟨f155,[.box [.row .term],.val .term],[],[(2,[(0,.box [.row .term Y]),(7,cL),(8,cK),(9,cK)])],[],u2 zd⟩
def qbT:SI:=⟨f156,[.val y10,.clo 180 1,.box [.val .term]],[.one (.val .bool)],[],[],u2 JM⟩
def qaH:SI:=⟨f156,[.val y10,.clo 190 0],[.one (.val .bool)],[],[],u1 B2⟩
def qaC:SI:=⟨f156,[.val y10,.clo 157 0],[.one (.val .bool)],[],[],u1 yU⟩
def qaT:FI:=⟨f157,[.val .term],[.bool],[],[],u1 Cj⟩
def Qe:SI:=⟨f160,[.val .term,.clo 161 2,.box [.val y6],.box [.row .term]],[],[(3,[(1,.fn [.box [cK],.box [.row .term Y]]),(10,cL),(11,cK),(12,cK)])],[],u3 lJ⟩
def qaX:SI:=⟨f161,[.val .term,.box [.val y6],.box [.row .term]],[],[],[],u3 Cm⟩
def Px:SI:=⟨f162,[.row .term],[.one (.row .term)],[(4,[(0,.row .term Y),(9,cK),(10,cK)])],[],u1 Lv⟩
def qcq:FI:=⟨f163,[.val .term],[y6],[],[],u1 zA⟩
def Pj:FI:=⟨f164,[.val .term],[.term,y6],[(5,[(1,cA),(2,cB),(4,cB),(19,cL),(20,cK),(21,cK)])],[],u1 lL⟩
def PJ:FI:=⟨f166,[.val .term],[.bool],[(5,[(3,cL),(4,cK)])],[],u1 Gi⟩
def Qg:FI:=⟨f167,[.val y10,.val .term],[y10],[(4,[(0,cL),(3,cA),(5,.row .term Y),(6,cK),(7,cK)])],[],u2 Ah⟩
def O5:FI:=⟨f168,[.val .term],[.term],[(4,[(1,cB),(2,cB),(9,cL),(10,cK),(11,cK)])],[],u1 jA⟩
def Pp:FI:=⟨f169,[.val .term],[y6],[(11,[(1,cA),(4,cK)])],[],u1 lf⟩
def qbi:FI:=⟨f170,[.val .term],[.term,.bool],[],[],u1 El⟩
def Qq:FI:=⟨f171,[.val y10],[.term,y6],[(6,[(0,cL),(2,.box [cK,cK,cK,.row .term O]),(5,cL),(6,cK)])],[],u1 Gy⟩
def qbE:FI:=⟨f172,[.val .term],[.term,y6],[],[],u1 zp⟩
def qci:FI:=⟨f173,[.val .term,.val .term],[.term,y6],[],[],u2 FS⟩
def Qs:FI:=⟨f174,[.val .term],[y6],[(5,[(1,cA),(4,cK)])],[],u1 lO⟩
def PX:FI:=⟨f175,[.val .term],[y6],[(3,[(1,cA),(3,cK),(4,cK)])],[],u1 lP⟩
def qbt:FI:=⟨f176,[.val .term,.val .term],[.bool],[],[],u2 F0⟩
def qcr:FI:=⟨f178,[.val y6,.val y6],[.str],[],[],u2 Ro⟩
def qbd:SI:=⟨f180,[.val .term,.box [.val .term]],[.one (.val .bool)],[],[],u2 Cz⟩
def qbN:FI:=⟨f183,[.val .term,.val .term],[y6],[],[],u2 Uk⟩
def PR:SI:=⟨f184,[.val .term,.val .term,.box [.val y16]],[.one (.val .bool)],[(10,[(2,.box []),(3,cA),(4,cA),(39,cK),(40,cK)])],[],u3 FV⟩
def qbB:FI:=⟨f185,[.val .term],[y17],[],[],u1 GN⟩
def qa5:FI:=⟨f186,[.val .term,.val .term],[.bool],[],[],u2 Gj⟩
def Qz:FI:=⟨f187,[.val .str],[.bool],[(4,[(0,cK),(38,cK),(39,cK)])],[],u1 wV⟩
def qaV:FI:=⟨f189,[.val .term],[.bool],[],[],u1 FP⟩
def qbD:FI:=⟨f190,[.val .term],[.bool],[],[],u1 Kt⟩
def Qf:SI:=⟨f191,[.val y10,.clo 180 1,.box [.val .term]],[.one (.val y6)],[(2,[(0,cL),(1,.fn [cA]),(7,cK),(8,cK)])],[],u2 JR⟩
def Oo:SI:=⟨f191,[.val y10,.clo 190 0],[.one (.val y6)],[(2,[(0,cL),(1,cK),(7,cK),(8,cK)])],[],u1 JS⟩
def Of:SI:=⟨f191,[.val y10,.clo 157 0],[.one (.val y6)],[(2,[(0,cL),(1,cK),(7,cK),(8,cK)])],[],u1 JT⟩
def qbp:FI:=⟨f203,[.val .term,.val .term],[.bool],[],[],u2 nM⟩
def Jj:FI:=⟨f204,[.val .term],[y6],[(13,[(1,cA),(38,cL),(39,cK),(40,cK)]),(22,[(62,cL),(63,cK),(64,cK)])],[],u1 fH⟩
def qbn:FI:=⟨f205,[.val .term],[.term],[],[],u1 zl⟩
def Qk:FI:=⟨f206,[.val y10],[.term,y6],[(6,[(2,.box [cK,cK,cK,.row .term O]),(5,cL),(15,cL),(16,cK),(17,cK)])],[],u1 Ib⟩
def qbA:FI:=⟨f207,[.val .term],[y9,y6],[],[],u1 ut⟩
def Bk:FI:=⟨f208,[.val y9],[.term,y6],[(6,[(2,cB),(5,.row .term Y),(6,.row .term Y),(18,.list y4),(19,cK),(20,cK)]),(11,[(2,cB),(5,.row .term Y),(6,.row .term Y),(8,.box [cK,cK,cK,.list .term,cK]),(18,.list y4),(19,cK),(20,cK),(34,cK),(35,cK)]),(15,[(2,cB),(5,.row .term Y),(6,.row .term Y),(8,.box [cK,cK,cK,.list .term,cK]),(18,.list y4),(19,cK),(20,cK),(46,cK),(47,cK)])],[],u1 rd⟩
def qaZ:FI:=⟨f209,[.val .term,.val .term],[.term,y6],[],[],u2 Fy⟩
def qcx:FI:=⟨f211,[.val .str],[.bool],[],[],u1 DF⟩
def Qu:FI:=⟨f212,[.val .term],[.bool],[(3,[(1,cA),(3,.list y11),(4,cK)])],[],u1 F7⟩
def Pn:FI:=⟨f213,[.val .term],[.bool],[(4,[(1,cA),(3,cK)])],[],u1 ES⟩
def qaQ:FI:=⟨f214,[.val .term,.val .str],[.bool],[],[],u2 oR⟩
def PE:FI:=⟨f215,[.val y10,.val .term],[y6],[(4,[(0,cL),(3,cA),(5,cK)])],[],u2 FN⟩
def qbb:FI:=⟨f216,[],[.term],[],[],u0 Gf⟩
def Qh:FI:=⟨f217,[.val y10,.val y10],[y10],[(3,[(1,cL),(5,.plist .term),(6,cK)])],[],u2 zU⟩
def QE:FI:=⟨f218,[.val .term],[y10],[(7,[(1,cA),(3,cL),(4,cK)])],[],u1 kX⟩
def qbH:FI:=⟨f219,[.val y10],[.term],[],[],u1 F1⟩
def qba:FI:=⟨f220,[.val .term],[y9,y6],[],[],u1 xu⟩
def qaS:FI:=⟨f221,[.val y9],[.term,y6],[],[],u1 uG⟩
def QC:FI:=⟨f222,[.val y9,.val y9],[y9,y6],[(9,[(1,.list y4),(8,.row y4 Y),(9,cK)])],[],u2 GM⟩
def qbP:FI:=⟨f223,[.val .term],[y6],[],[],u1 Gb⟩
def qck:FI:=⟨f224,[.val .term,.val y6],[.bool],[],[],u2 LZ⟩
def qaU:FI:=⟨f225,[.val y6],[.str],[],[],u1 Rx⟩
def qcm:FI:=⟨f237,[.val .term],[.bool],[],[],u1 Um⟩
def qcn:FI:=⟨f238,[.val .term,.val .term],[.bool],[],[],u2 Un⟩
def qcj:FI:=⟨f239,[.val y18],[.bool],[],[],u1 Aj⟩
def qbL:FI:=⟨f241,[.val .str],[.bool],[],[],u1 EE⟩
def qbw:FI:=⟨f247,[.val .term,.val .str],[.bool],[],[],u2 jl⟩
def Pm:FI:=⟨f248,[.val y10,.val y10],[y6],[(4,[(14,.row .term Y),(15,cK),(16,cK)])],[],u2 Gu⟩
def P6:FI:=⟨f249,[.val y10,.val y10],[y10],[(2,[(0,cL),(1,cL),(5,.row .term Y)])],[],u2 Aw⟩
def PU:FI:=⟨f250,[.val .term],[y10],[(6,[(3,cL),(31,cL),(32,cK),(33,cK)])],[],u1 kZ⟩
def O0:FI:=⟨f251,[.val y10],[y10],[(3,[(3,.row .term Y),(9,cL),(10,cK),(11,cK)])],[],u1 lh⟩
def Pq:SI:=⟨f252,[.row y4,.val .term,.val y6],[.one (.row y4),.one (.val .bool)],[(12,[(0,.row y4 Y),(2,cK),(52,cL),(53,cK),(54,cK)])],[],u3 kW⟩
def Qd:FI:=⟨f253,[.val y9],[y6],[(4,[(0,.list y4),(9,.list y4),(10,cK),(11,cK)])],[],u1 wN⟩
def PM:FI:=⟨f254,[.val .term],[.term],[(3,[(1,cB),(2,cB),(10,.row .term Y),(11,cK),(12,cK)])],[],u1 jy⟩
def qcH:FI:=⟨f255,[.val .str,.val y10],[.term],[],[],u2 zx⟩
def Qt:FI:=⟨f256,[.val y9,.val y9],[y9,y6],[(9,[(8,.row y4 Y),(23,.list y4),(24,cK),(25,cK)])],[],u2 E5⟩
def qbV:FI:=⟨f257,[.val .str,.val y10],[.term],[],[],u2 zV⟩
def QG:FI:=⟨f258,[.val y10,.val .term],[y10],[(5,[(0,cL),(3,cA),(5,.row .term Y),(6,cK)])],[],u2 ET⟩
def QA:FI:=⟨f259,[.val .term],[.bool],[(7,[(1,cA),(3,cK),(4,cK)])],[],u1 lc⟩
def P1:SI:=⟨f260,[.row y4,.val .term,.val y6],[.one (.row y4)],[(6,[(0,.row y4 Y),(2,cK),(4,cA),(7,cK)])],[],u3 kY⟩
def QH:FI:=⟨f261,[.val y9],[y6],[(4,[(0,.list y4),(3,cK)])],[],u1 wX⟩
def yB:FI:=⟨f262,[.val y9],[y10],[(3,[(0,.list y4),(3,.row .term Y),(4,cK)]),(6,[(0,.list y4),(3,.row .term Y),(4,cK),(5,cK)]),(10,[(0,.list y4),(3,.row .term Y),(6,cK)]),(13,[(0,.list y4),(3,.row .term Y),(6,cK),(7,cK)])],[],u1 Ee⟩
def P8:SI:=⟨f263,[.row y4,.val .term,.val y6],[.one (.row y4)],[(4,[(0,.row y4 Y),(2,cK),(4,cA),(7,.row y4 Y),(8,cK),(9,cK)])],[],u3 Ad⟩
def Pu:FI:=⟨f264,[.val y9],[y6],[(2,[(0,.list y4),(3,cK)])],[],u1 Er⟩
def P9:FI:=⟨f273,[.val .term,.val (.list y6),.val .term],[.term,y6],[(4,[(5,cA),(6,cB),(8,cA),(9,.box []),(14,.list y6),(15,cK),(16,cK)])],[],u3 EZ⟩
def qbf:FI:=⟨f274,[.val .term],[.bool],[],[],u1 zk⟩
def qa7:SI:=⟨f275,[.row y4,.val y4],[.one (.row y4)],[],[],u2 zi⟩
def PP:SI:=⟨f277,[.val y9],[.one (.row y4)],[(3,[(3,.row y4 Y),(6,.list y4),(7,cK),(8,cK)])],[],u1 Dz⟩
def qbJ:FI:=⟨f278,[.val y9],[y9,y6],[],[],u1 DE⟩
def qbl:FI:=⟨f279,[.val .term],[.bool],[],[],u1 wQ⟩
def O6:FI:=⟨f283,[.val y9,.val .term,.fn],[y6,.bool],[(3,[(0,.list y4),(2,cK),(4,cA),(8,cK),(9,cK),(10,cK)])],[],u2 BW⟩
def qb6:FI:=⟨f284,[.val y4,.val .term],[y6],[],[],u2 zf⟩
def qbu:FI:=⟨f287,[.val y9,.fn],[.bool],[],[],u1 BX⟩
def qcc:FI:=⟨f288,[.val y4],[.bool],[],[],u1 CP⟩
def PO:FI:=⟨f291,[.val y9,.fn],[y6],[(2,[(0,.list y4),(1,cK),(7,cK),(8,cK)])],[],u1 B4⟩
def elT(f:Nat):ac Ty:=
cond (Nat.blt f 83)
 (cond (Nat.blt f 32)
 (cond (Nat.blt f 23)
 (cond (Nat.beq f 22) (Z .term) (U))
 (cond (Nat.blt f 26)
 (cond (Nat.beq f 23) (Z y2) (U))
 (cond (Nat.beq f 26) (Z .str) (U))))
 (cond (Nat.blt f 43)
 (cond (Nat.blt f 35)
 (cond (Nat.beq f 32) (Z y5) (U))
 (cond (Nat.beq f 35) (Z y12) (U)))
 (cond (Nat.blt f 76)
 (cond (Nat.beq f 43) (Z y18) (U))
 (cond (Nat.beq f 76) (Z y7) (U)))))
 (cond (Nat.blt f 186)
 (cond (Nat.blt f 159)
 (cond (Nat.blt f 109)
 (cond (Nat.beq f 83) (Z y5) (U))
 (cond (Nat.beq f 109) (Z y5) (U)))
 (cond (Nat.blt f 177)
 (cond (Nat.beq f 159) (Z y11) (U))
 (cond (Nat.beq f 177) (Z y10) (U))))
 (cond (Nat.blt f 195)
 (cond (Nat.blt f 192)
 (cond (Nat.beq f 186) (Z y6) (U))
 (cond (Nat.beq f 192) (Z y8) (U)))
 (cond (Nat.blt f 213)
 (cond (Nat.beq f 195) (Z y16) (U))
 (cond (Nat.beq f 213) (Z y4) (U)))))
def tb:Tb:=⟨tyT,elT,.node 145 (.node 85 (.node 47 (.node 29 (.node 19 (.node 13 (.node 11 (tL 9 (eP i9)) (tL 12 (eP i12)) (eP i11)) (.node 18 (tL 14 (eP i14)) .leaf (eP i18)) (eP i13)) (.node 25 (.node 24 (tL 22 (eP i22)) .leaf (eP i24)) (.node 28 (tL 27 (eP i27)) .leaf (eP i28)) (eP i25)) (eP i19)) (.node 41 (.node 36 (.node 33 (tL 30 (eP i30)) (tL 35 (eP i35)) (eP i33)) (.node 38 (tL 37 (eP i37)) .leaf (eP i38)) (eP i36)) (.node 44 (.node 43 (tL 42 (eP i42)) .leaf (eP i43)) (.node 46 (tL 45 (eP i45)) .leaf (eP i46)) (eP i44)) (eP i41)) (eP i29)) (.node 65 (.node 58 (.node 55 (.node 49 (tL 48 (eP i48)) (tL 50 (eP i50)) (eP i49)) (.node 57 (tL 56 (eP i56)) .leaf (eP i57)) (eP i55)) (.node 61 (.node 60 (tL 59 (eP i59)) .leaf (eP i60)) (.node 64 (tL 62 (eP i62)) .leaf (eP i64)) (eP i61)) (eP i58)) (.node 72 (.node 68 (.node 67 (tL 66 (eP i66)) .leaf (eP i67)) (.node 71 (tL 70 (eP i70)) .leaf (eP i71)) (eP i68)) (.node 76 (.node 75 (tL 74 (eP i74)) .leaf (eP i75)) (.node 80 (tL 77 (eP i77)) .leaf (eP i80)) (eP i76)) (eP i72)) (eP i65)) (eP i47)) (.node 115 (.node 101 (.node 95 (.node 92 (.node 90 (tL 87 (eP i87)) (tL 91 (eP i91)) (eP i90)) (.node 94 (tL 93 (eP i93)) .leaf (eP i94)) (eP i92)) (.node 98 (.node 97 (.node 96 .leaf .leaf (.hs ⟨[.row .str,.val y6,.val y6],[.one (.row .str)],λ x=>wF 0 x.1 x.2.1 x.2.2.1⟩)) .leaf (.hs ⟨[.val (.list .str)],[.one (.row .str)],λ x=>tn 0 x.1⟩)) (.node 100 (tL 99 (eP i99)) .leaf (eP O8)) (eP i98)) (eS i95)) (.node 109 (.node 106 (.node 105 (tL 102 (eP qcs)) .leaf (eP qbU)) (.node 108 (tL 107 (eP qbe)) .leaf (eS I1)) (eP Pl)) (.node 112 (.node 111 (.node 110 .leaf .leaf (.hm λ m=>⟨.term,[.clo 106 0],λ x=>tk m x.1⟩)) .leaf (eP qby)) (.node 114 (tL 113 (eP qbg)) .leaf (.pure [([241],QB),([115],N9)])) (eP qbo)) (eS Bz)) (eP PA)) (.node 128 (.node 122 (.node 119 (.node 117 (tL 116 (eP O2)) (tL 118 (eP qbY)) (.pure [([118],PQ)])) (.node 121 (tL 120 (eS Jl)) .leaf (eP QD)) (eP Qp)) (.node 125 (.node 124 (tL 123 (eP Pz)) .leaf (eP qcD)) (.node 127 (tL 126 (eP qa4)) .leaf (eP qbO)) (eP PK)) (eP PW)) (.node 139 (.node 135 (.node 132 (tL 129 (eP Qo)) .leaf (eP qcI)) (.node 138 (tL 137 (eP qaY)) .leaf (eP qa8)) (eP qcp)) (.node 142 (.node 141 (tL 140 (eP qb2)) .leaf (eP qct)) (.node 144 (tL 143 (eS I4)) .leaf (.hm λ m=>⟨y5,[.clo 145 0],λ x=>wy m x.1⟩)) (eP Qn)) (eP Ph)) (eP qcu)) (eP qcf)) (eP i85)) (.node 212 (.node 172 (.node 160 (.node 152 (.node 149 (.node 147 (tL 146 (eP Qx)) (tL 148 (eP qcz)) (eP qcG)) (.node 151 (tL 150 (eP qcF)) .leaf (eP PY)) (eS Qa)) (.node 155 (.node 154 (.node 153 .leaf .leaf (.hs ⟨[.nil,.val y6],[.one (.row .term)],λ x=>yZ 0 x.1⟩)) .leaf (eP qbC)) (.node 157 (.node 156 .leaf .leaf (.sts [([180],qbT),([190],qaH),([157],qaC)])) .leaf (eP qaT)) (eS O3)) (.hp ⟨[.val .str,.val .str],[y6],λ x=>strings_Compare 0 x.1 x.2.1⟩)) (.node 166 (.node 163 (.node 162 (tL 161 (eS qaX)) .leaf (eS Px)) (.node 165 (tL 164 (eP Pj)) .leaf (.hp ⟨[],[y15],λ x=>KR 0⟩)) (eP qcq)) (.node 169 (.node 168 (tL 167 (eP Qg)) .leaf (eP O5)) (.node 171 (tL 170 (eP qbi)) .leaf (eP Qq)) (eP Pp)) (eP PJ)) (eS Qe)) (.node 189 (.node 181 (.node 176 (.node 174 (tL 173 (eP qci)) (tL 175 (eP PX)) (eP Qs)) (.node 180 (tL 178 (eP qcr)) .leaf (eS qbd)) (eP qbt)) (.node 185 (.node 184 (tL 183 (eP qbN)) .leaf (eS PR)) (.node 187 (tL 186 (eP qa5)) .leaf (eP Qz)) (eP qbB)) (.hs ⟨[.nil,.val y6],[.one (.row y5)],λ x=>wB 0 x.1⟩)) (.node 205 (.node 202 (.node 191 (tL 190 (eP qbD)) .leaf (.sts [([180],Qf),([190],Oo),([157],Of)])) (.node 204 (tL 203 (eP qbp)) .leaf (eP Jj)) (.hx λ m=>⟨[.row .term,.clo 203 0],[.one (.row .term)],λ x=>wA m x.1⟩)) (.node 208 (.node 207 (tL 206 (eP Qk)) .leaf (eP qbA)) (.node 211 (tL 209 (eP qaZ)) .leaf (eP qcx)) (eP Bk)) (eP qbn)) (eP qaV)) (eP qbE)) (.node 254 (.node 225 (.node 219 (.node 216 (.node 214 (tL 213 (eP Pn)) (tL 215 (eP PE)) (eP qaQ)) (.node 218 (tL 217 (eP Qh)) .leaf (eP QE)) (eP qbb)) (.node 222 (.node 221 (tL 220 (eP qba)) .leaf (eP qaS)) (.node 224 (tL 223 (eP qbP)) .leaf (eP qck)) (eP QC)) (eP qbH)) (.node 248 (.node 239 (.node 238 (tL 237 (eP qcm)) .leaf (eP qcn)) (.node 247 (tL 241 (eP qbL)) .leaf (eP qbw)) (eP qcj)) (.node 251 (.node 250 (tL 249 (eP P6)) .leaf (eP PU)) (.node 253 (tL 252 (eS Pq)) .leaf (eP Qd)) (eP O0)) (eP Pm)) (eP qaU)) (.node 275 (.node 261 (.node 258 (.node 256 (tL 255 (eP qcH)) (tL 257 (eP qbV)) (eP Qt)) (.node 260 (tL 259 (eP QA)) .leaf (eS P1)) (eP QG)) (.node 264 (.node 263 (tL 262 (eP yB)) .leaf (eS P8)) (.node 274 (tL 273 (eP P9)) .leaf (eP qbf)) (eP Pu)) (eP QH)) (.node 284 (.node 278 (.node 277 (.node 276 .leaf .leaf (.hs ⟨[.val y10],[.one (.row .term)],λ x=>wE 0 x.1⟩)) .leaf (eS PP)) (.node 283 (tL 279 (eP qbl)) .leaf (.pure [([284],O6)])) (eP qbJ)) (.node 287 (.node 286 (.node 285 .leaf .leaf (.hs ⟨[.row y4,.val y6,.val y9],[.one (.row y4)],λ x=>wD 0 x.1 x.2.1 x.2.2.1⟩)) .leaf (.hs ⟨[.row y4,.val y6,.val y6],[.one (.row y4)],λ x=>wC 0 x.1 x.2.1 x.2.2.1⟩)) (.node 291 (tL 288 (eP qcc)) .leaf (.pure [([288],PO)])) (.pure [([288],qbu)])) (eP qb6)) (eS qa7)) (eP PM)) (eP Qu)) (eP qcl)⟩
end
section
set_option maxRecDepth 100000
universe u v
def aZ{α:Type}[NF α]{M:Nat->α}{s:α->α}{k:Nat}(b:NF.z=M 0:=by rfl)(a:(λ k=>M (k+1))=λ k=>s (M k):=by kernel_rfl):aY s k=M k:=qtj b (λ k=>sZ a k) k
def okk{b:Tb}{c:aa Nat}{i:FI}(h:(λ m a=>i.F (m+1) a)=λ m a=>b.runP1 m i c a:=by kernel_rfl):okP b c i:=λ m a=>sZ (sZ h m) a
def okq{b:Tb}{i:SI}(h:(λ m a=>i.F (m+1) a)=λ m a=>b.runS1 m i a:=by kernel_rfl):okS b i:=λ m a=>sZ (sZ h m) a
def tK{α:Sort u}{a:Sort v}{x y:α}{c:a}(f:α->a)(h:x=y)(e:f y=c:=by kernel_rfl):f x=c:=(bz f h).trans e
def Rl(m k x0 x1 x2 x3 x4):=tb.QL I1 3 m k [(0,.sl y10 x0 1),(3,vI x1),(9,.sl y10 x2 1),(10,vI x3),(11,vI x4)] ⟨[],[]⟩
def Rm(m k x0 x1 x2 x3):=tb.QL I1 11 m k [(6,.row 0 0),(25,.sl y10 x0 1),(26,vI x1),(27,vI x2)] ⟨[],[⟨.term,x3,0,0,Y⟩]⟩
def qdX(m k):jU m k=(Rl m k,Rm m k):=aZ (M:=λ k=>(Rl m k,Rm m k))
def qdY:okS tb I1:=λ m a=>tK (x:=jU m m) (λ L=>B8 m L.1 L.2 a.1) (qdX m m)
def qen:okS tb qaX:=okq
def qeT(m k x0 x1 x2 x3 x4):=tb.QL Qe 3 m k [(1,.fn 161 [.ptr 0 0,.ptr 1 0]),(10,vT x0),(11,vI x1),(12,vI x2)] ⟨[[vI x3],[.row 0 0]],[⟨.term,x4,0,0,Y⟩]⟩
def qeH(m k):tq m (lJ m) k=qeT m k:=aZ
def qeU:okS tb Qe:=λ m a=>tK (λ L=>Cn m (lJ m) L a.1 a.2.1 a.2.2.1) (qeH m m)
def qlq:okP tb [] qcF:=okk
def ql0(m k x0 x1 x2 x3):=tb.PL PY 3 m k [(3,vI x0),(7,vT x1),(8,vI x2),(9,vI x3)] ⟨[],[]⟩
def qj6(m k):uD m (ko m) k=ql0 m k:=aZ
def qk9:okP tb [] PY:=λ m a=>tK (λ L=>Fp m (ko m) L a.1) (qj6 m m)
def qh1(m k x0 x1 x2 x3 x4 x5 x6 x7 x8 x9):=tb.PL Pl 11 m k [(2,.ptr 0 0),(3,.ptr 1 0),(5,vI x0),(6,vI x1)] ⟨[[vI x2,.s x3,vI x4,vT x5],[vI x6,.s x7,vI x8,vT x9]],[]⟩
def qgu(m k):pG m (cZ m) k=qh1 m k:=aZ
def qhK:okP tb [] Pl:=λ m a=>tK (λ L=>Dk m (cZ m) L a.1 a.2.1) (qgu m m)
def qkv(m k x0 x1 x2 x3 x4 x5 x6 x7 x8 x9 x10):=tb.PL O5 4 m k [(1,.ptr 0 0),(2,.ptr 1 0),(9,vT x0),(10,vI x1),(11,vI x2)] ⟨[[vI x3,.s x4,vI x5,.row 0 0],[vI x6,.s x7,vI x8,.row 1 0]],[⟨.term,x9,0,0,Y⟩,⟨.term,x10,0,0,Y⟩]⟩
def qiv(m k):uj m (jA m) k=qkv m k:=aZ
def qkj:okP tb [] O5:=λ m a=>tK (λ L=>ED m (jA m) L a.1) (qiv m m)
def qge:okP tb [] qbp:=okk
def qii(m k x0 x1 x2):=tb.QL Px 4 m k [(0,.row 0 0),(9,vI x0),(10,vI x1)] ⟨[],[⟨.term,x2,0,0,Y⟩]⟩
def qg5(m k):tP m k=qii m k:=aZ
def qif:okS tb Px:=λ m a=>tK (λ L=>DI m L a.1) (qg5 m m)
def qjo:okP tb [] qby:=okk
def qlO:okP tb [] i58:=okk
def qht:okP tb [] i57:=okk
def qeL:okS tb qbd:=okq
def qdH(m k x0 x1 x2 x3 x4 x5 x6):=tb.QL Qf 2 m k [(0,vT x0),(1,.fn 180 [.ptr 0 0]),(7,vI x1),(8,vI x2)] ⟨[[vI x3,.s x4,vI x5,vT x6]],[]⟩
def qdx(m k):th m k=qdH m k:=aZ
def qdG:okS tb Qf:=λ m a=>tK (λ L=>BZ m L a.1 a.2.1) (qdx m m)
def qdr:okS tb qbT:=okq
def qiQ:okP tb [] qaY:=okk
def qe6:okP tb [] qbD:=okk
def qdL(m k x0 x1 x2):=tb.QL Oo 2 m k [(0,vT x0),(1,.fn 190 []),(7,vI x1),(8,vI x2)] ⟨[],[]⟩
def qdD(m k):ti m k=qdL m k:=aZ
def qdJ:okS tb Oo:=λ m a=>tK (λ L=>B1 m L a.1) (qdD m m)
def qds:okS tb qaH:=okq
def qgV(m k x0 x1 x2 x3 x4 x5 x6 x7):=tb.PL O2 2 m k [(0,.s x0),(2,.ptr 0 0),(5,.sl y11 x1 1),(6,vI x2),(7,vI x3)] ⟨[[.s x4,vI x5,vI x6,vI x7]],[]⟩
def qfV(m k):tH m k=qgV m k:=aZ
def qha:okP tb [] O2:=λ m a=>tK (λ L=>C8 m L a.1) (qfV m m)
def qgK:okP tb [] qbL:=okk
def qex(m k x0 x1 x2):=tb.PL QB 4 m k [(1,.fn 241 []),(18,vT x0),(19,vI x1),(20,vI x2)] ⟨[],[]⟩
def qes(m k):qR m (kV m) k=qex m k:=aZ
def qev:okP tb [241] QB:=λ m a=>tK (λ L=>Cc m (kV m) L a.1) (qes m m)
def qle:okP tb [] qcj:=okk
def qiw(m k x0 x1 x2):=tb.PL Qz 4 m k [(0,.s x0),(38,vI x1),(39,vI x2)] ⟨[],[]⟩
def qhR(m k):pI m k=qiw m k:=aZ
def qjx:okP tb [] Qz:=λ m a=>tK (λ L=>D9 m L a.1) (qhR m m)
def qka(m k x0 x1 x2 x3 x4 x5):=tb.QL Qa 17 m k [(1,vI x0),(2,.ptr 0 0),(3,.ptr 1 0),(57,vT x1),(58,vI x2),(59,vI x3)] ⟨[[vI x4],[vI x5]],[]⟩
def qiK(m k):mN m (iD m) k=qka m k:=aZ
def qkh:okS tb Qa:=λ m a=>tK (λ L=>Ew m (iD m) L a.1 a.2.1 a.2.2.1 a.2.2.2.1) (qiK m m)
def qkA:okP tb [] qbU:=okk
def SF(m k x0 x1 x2 x3 x4 x5 x6):=tb.PL Jj 13 m k [(1,.ptr 0 0),(38,vT x0),(39,vI x1),(40,vI x2)] ⟨[[vI x3,.s x4,vI x5,vT x6]],[]⟩
def SO(m k x0 x1 x2):=tb.PL Jj 22 m k [(62,vT x0),(63,vI x1),(64,vI x2)] ⟨[],[]⟩
def qgt(m k):iT m (fH m) k=(SF m k,SO m k):=aZ (M:=λ k=>(SF m k,SO m k))
def qhY:okP tb [] Jj:=λ m a=>tK (x:=iT m (fH m) m) (λ L=>Dj m (fH m) L.1 L.2 a.1) (qgt m m)
def qhq:okP tb [] qcq:=okk
def qix:okP tb [] qaV:=okk
def qgb:okP tb [] qbC:=okk
def qeR(m k x0 x1 x2 x3):=tb.QL O3 2 m k [(0,.ptr 0 0),(7,vT x0),(8,vI x1),(9,vI x2)] ⟨[[.row 0 0]],[⟨.term,x3,0,0,Y⟩]⟩
def qeD(m k):tp m k=qeR m k:=aZ
def qeQ:okS tb O3:=λ m a=>tK (λ L=>Ci m L a.1 a.2.1) (qeD m m)
def qeg:okP tb [] qaT:=okk
def qdI(m k x0 x1 x2):=tb.QL Of 2 m k [(0,vT x0),(1,.fn 157 []),(7,vI x1),(8,vI x2)] ⟨[],[]⟩
def qdB(m k):tj m k=qdI m k:=aZ
def qdM:okS tb Of:=λ m a=>tK (λ L=>B0 m L a.1) (qdB m m)
def qdt:okS tb qaC:=okq
def Rs(m k x0 x1 x2 x3):=tb.QL Bz 6 m k [(0,.ptr 0 0),(25,.sl y7 x0 1),(26,vI x1),(27,vI x2)] ⟨[[.row 0 0]],[⟨.term,x3,0,0,Y⟩]⟩
def Ry(m k x0 x1 x2 x3 x4 x5 x6):=tb.QL Bz 20 m k [(0,.ptr 0 0),(25,.sl y7 x0 1),(26,vI x1),(27,vI x2),(72,vT x3),(73,vI x4),(74,vI x5)] ⟨[[.row 0 0]],[⟨.term,x6,0,0,Y⟩]⟩
def Rv(m k x0 x1 x2 x3 x4 x5 x6 x7 x8 x9):=tb.QL Bz 23 m k [(0,.ptr 0 0),(25,.sl y7 x0 1),(26,vI x1),(27,vI x2),(72,vT x3),(73,vI x4),(74,vI x5),(79,vT x6),(80,vI x7),(81,vI x8)] ⟨[[.row 0 0]],[⟨.term,x9,0,0,Y⟩]⟩
def qem(m k):cE m k=(Rs m k,Ry m k,Rv m k):=aZ (M:=λ k=>(Rs m k,Ry m k,Rv m k))
def qeA:okS tb Bz:=λ m a=>tK (x:=cE m m) (λ L=>wG m L.1 L.2.1 L.2.2 a.1 a.2.1 a.2.2.1) (qem m m)
def qg3(m k x0 x1 x2 x3):=tb.PL i56 3 m k [(6,.ptr 0 0),(21,.sl y2 x0 1),(22,vI x1),(23,vI x2)] ⟨[[.row 0 0]],[⟨.term,x3,0,0,Y⟩]⟩
def qf4(m k):tD m k=qg3 m k:=aZ
def qgm:okP tb [] i56:=λ m a=>tK (λ L=>CZ m L a.1 a.2.1) (qf4 m m)
def qgh:okP tb [] qa8:=okk
def RP(m k x0 x1 x2 x3 x4 x5 x6 x7):=tb.PL i90 3 m k [(1,.ptr 0 0),(3,vT x0),(19,.row 0 0),(20,vI x1),(21,vI x2)] ⟨[[vI x3,vT x4,vT x5,.sl y2 x6 1]],[⟨.term,x7,0,0,O⟩]⟩
def RO(m k x0 x1 x2):=tb.PL i90 12 m k [(79,.sl y2 x0 1),(80,vI x1),(81,vI x2)] ⟨[],[]⟩
def R4(m k x0 x1 x2 x3 x4 x5):=tb.PL i90 17 m k [(79,.sl y2 x0 1),(80,vI x1),(81,vI x2),(90,.sl y7 x3 1),(91,vI x4),(92,vI x5)] ⟨[],[]⟩
def qft(m k):dW m k=(RP m k,RO m k,R4 m k):=aZ (M:=λ k=>(RP m k,RO m k,R4 m k))
def qfQ:okP tb [] i90:=λ m a=>tK (x:=dW m m) (λ L=>CT m L.1 L.2.1 L.2.2 a.1) (qft m m)
def qgI:okP tb [] i41:=okk
def qfS:okP tb [] i93:=okk
def qd7(m k x0 x1 x2 x3):=tb.PL Qn 2 m k [(0,.sl .str x0 1),(1,.s x1),(7,vI x2),(8,vI x3)] ⟨[],[]⟩
def qd5(m k):tl m k=qd7 m k:=aZ
def qd8:okP tb [] Qn:=λ m a=>tK (λ L=>B9 m L a.1 a.2.1) (qd5 m m)
def qd1:okP tb [] i94:=okk
def qfy(m k x0 x1 x2 x3 x4):=tb.PL i46 4 m k [(3,.ptr 0 0),(22,.sl .str x0 1),(23,vI x1),(24,vI x2)] ⟨[[vI x3,.sl .str x4 1]],[]⟩
def qe2(m k):tv m k=qfy m k:=aZ
def qfg:okP tb [] i46:=λ m a=>tK (λ L=>Cy m L a.1 a.2.1) (qe2 m m)
def qeb:okP tb [] qaU:=okk
def qd9:okP tb [] qcr:=okk
def qee:okP tb [] qcp:=okk
def qhl:okP tb [] i85:=okk
def qeq:okS tb i95:=okq
def Rj(m k x0 x1 x2 x3 x4):=tb.QL I4 3 m k [(0,.sl y8 x0 1),(3,vI x1),(9,.sl y8 x2 1),(10,vI x3),(11,vI x4)] ⟨[],[]⟩
def Ri(m k x0 x1 x2 x3):=tb.QL I4 11 m k [(6,.row 0 0),(25,.sl y8 x0 1),(26,vI x1),(27,vI x2)] ⟨[],[⟨y5,x3,0,0,Y⟩]⟩
def qdN(m k):kT m k=(Rj m k,Ri m k):=aZ (M:=λ k=>(Rj m k,Ri m k))
def qdO:okS tb I4:=λ m a=>tK (x:=kT m m) (λ L=>B3 m L.1 L.2 a.1) (qdN m m)
def qej:okP tb [] qcl:=okk
def qeC:okP tb [] i98:=okk
def Sd(m k x0 x1 x2 x3 x4 x5 x6 x7 x8 x9 x10 x11):=tb.PL i47 5 m k [(2,vI x0),(3,.ptr 0 0),(4,.ptr 1 0),(8,.ptr 2 0),(9,.fn 95 [.ptr 2 0]),(10,.row 1 0),(27,vT x1),(28,vI x2),(29,vI x3)] ⟨[[vI x4,vT x5,vT x6,.sl y2 x7 1],[vI x8,.sl .str x9 1],[.row 0 0]],[⟨y5,x10,0,0,Y⟩,⟨.str,x11,0,0,Y⟩]⟩
def Su(m k x0 x1 x2 x3 x4):=tb.PL i47 12 m k [(2,vI x0),(8,.ptr 0 0),(9,.fn 95 [.ptr 0 0]),(55,vT x1),(56,vI x2),(57,vI x3)] ⟨[[.row 0 0]],[⟨y5,x4,0,0,Y⟩]⟩
def qfW(m k):jV m k=(Sd m k,Su m k):=aZ (M:=λ k=>(Sd m k,Su m k))
def qgj:okP tb [] i47:=λ m a=>tK (x:=jV m m) (λ L=>C3 m L.1 L.2 a.1 a.2.1 a.2.2.1) (qfW m m)
def qeu:okP tb [] qbY:=okk
def qdf(m k x0 x1 x2 x3 x4 x5 x6 x7):=tb.PL PQ 3 m k [(0,.sl y5 x0 1),(2,.fn 118 []),(4,.ptr 0 0),(8,vI x1),(9,vI x2),(10,vI x3)] ⟨[[vI x4,.s x5,vI x6,vT x7]],[]⟩
def qde(m k):tf m k=qdf m k:=aZ
def qdg:okP tb [118] PQ:=λ m a=>tK (λ L=>BR m L a.1 a.2.1) (qde m m)
def qeP:okP tb [] i60:=okk
def qns(m k x0 x1 x2 x3 x4 x5 x6 x7 x8 x9 x10):=tb.PL PW 2 m k [(2,.ptr 0 0),(4,.ptr 1 0),(8,.sl y6 x0 1),(9,vI x1),(10,vI x2)] ⟨[[vI x3,.s x4,vI x5,vT x6],[vI x7,.s x8,vI x9,.row 0 0]],[⟨.term,x10,0,0,Y⟩]⟩
def qmq(m k):V0 m k=qns m k:=aZ
def qne:okP tb [] PW:=λ m a=>tK (λ L=>Vn m L a.1 a.2.1) (qmq m m)
def qef(m k x0 x1 x2 x3):=tb.PL O8 3 m k [(3,.row 0 0),(10,.sl y5 x0 1),(11,vI x1),(12,vI x2)] ⟨[],[⟨y5,x3,0,0,Y⟩]⟩
def qed(m k):Rq m k=qef m k:=aZ
def qek:okP tb [] O8:=λ m a=>tK (λ L=>Rp m L a.1) (qed m m)
def qfK:okP tb [] i68:=okk
def qeK(m k x0 x1 x2 x3 x4 x5 x6 x7 x8 x9 x10 x11):=tb.PL i70 7 m k [(0,.sl y5 x0 1),(4,.ptr 0 0),(9,.ptr 1 0),(35,vT x1),(36,vI x2),(37,vI x3)] ⟨[[vI x4,.s x5,vI x6,.row 0 0],[vI x7,.s x8,vI x9,.row 1 0]],[⟨.term,x10,0,0,Y⟩,⟨.term,x11,0,0,Y⟩]⟩
def qey(m k):RG m (tu m) k=qeK m k:=aZ
def qeO:okP tb [] i70:=λ m a=>tK (λ L=>RB m (tu m) L a.1 a.2.1) (qey m m)
def qiD:okP tb [] qbN:=okk
def qjW:okP tb [] qbe:=okk
def qlm:okP tb [] qbB:=okk
def qku:okP tb [] qa5:=okk
def qja:okP tb [] qcm:=okk
def qjj:okP tb [] qcn:=okk
def qjH(m k x0 x1 x2 x3 x4 x5 x6 x7 x8 x9 x10):=tb.QL PR 10 m k [(2,.mp 0),(3,.ptr 1 0),(4,.ptr 2 0),(39,vI x0),(40,vI x1)] ⟨[[.mc y17 .term x2],[vI x3,.s x4,vI x5,vT x6],[vI x7,.s x8,vI x9,vT x10]],[]⟩
def qie(m k):TA m (FV m) k=qjH m k:=aZ
def qir:okS tb PR:=λ m a=>tK (λ L=>S1 m (FV m) L a.1 a.2.1 a.2.2.1) (qie m m)
def qiB(m k x0 x1 x2 x3 x4):=tb.PL Qx 9 m k [(7,.mp 0),(8,.row 0 0),(25,vT x0),(26,vI x1),(27,vI x2)] ⟨[[.mc y17 .term x3]],[⟨y5,x4,0,0,Y⟩]⟩
def qhI(m k):Tv m k=qiB m k:=aZ
def qjD:okP tb [] Qx:=λ m a=>tK (λ L=>Ta m L a.1 a.2.1) (qhI m m)
def qer:okP tb [] i99:=okk
def TF(m k x0 x1 x2 x3 x4 x5 x6 x7 x8 x9 x10 x11 x12 x13 x14 x15 x16 x17 x18 x19 x20 x21 x22):=tb.PL i48 9 m k [(3,.ptr 0 0),(4,.ptr 1 0),(6,.ptr 2 0),(10,.sl y5 x0 1),(12,.row 2 0),(43,.sl y7 x1 1),(44,vI x2),(45,vI x3)] ⟨[[vI x4,vT x5,vT x6,.sl y2 x7 1],[vI x8,.sl .str x9 1,vI x10,vI x11,vI x12,vI x13,.sl y5 x14 1],[vI x15,.row 0 0,vI x16,vI x17,vI x18,vI x19,.row 1 0]],[⟨.str,x20,0,0,O⟩,⟨y5,x21,0,0,O⟩,⟨y12,x22,0,0,O⟩]⟩
def Tk(m k x0 x1 x2 x3 x4 x5 x6 x7 x8 x9 x10 x11 x12 x13 x14 x15 x16 x17 x18 x19 x20 x21 x22 x23 x24 x25 x26 x27 x28):=tb.PL i48 14 m k [(3,.ptr 0 0),(4,.ptr 1 0),(6,.ptr 2 0),(10,.sl y5 x0 1),(12,.row 2 0),(17,.ptr 3 0),(43,.sl y7 x1 1),(44,vI x2),(45,vI x3),(57,vT x4),(58,vI x5),(59,vI x6)] ⟨[[vI x7,vT x8,vT x9,.sl y2 x10 1],[vI x11,.sl .str x12 1,vI x13,vI x14,vI x15,vI x16,.sl y5 x17 1],[vI x18,.row 0 0,vI x19,vI x20,vI x21,vI x22,.row 1 0],[vI x23,vI x24,.row 3 0]],[⟨.str,x25,0,0,O⟩,⟨y5,x26,0,0,O⟩,⟨y12,x27,0,0,O⟩,⟨.term,x28,0,0,Y⟩]⟩
def qiy(m k):EW m k=(TF m k,Tk m k):=aZ (M:=λ k=>(TF m k,Tk m k))
def qkQ:okP tb [] i48:=λ m a=>tK (x:=EW m m) (λ L=>TI m L.1 L.2 a.1 a.2.1 a.2.2.1) (qiy m m)
def qgA:okP tb [] i14:=okk
def qi3:okP tb [] qbg:=okk
def qlS:okP tb [] qbw:=okk
def qfM:okP tb [] qbn:=okk
def qlu(m k x0 x1 x2):=tb.PL Pm 4 m k [(14,.row 0 0),(15,vI x0),(16,vI x1)] ⟨[],[⟨.term,x2,0,0,Y⟩]⟩
def qkU(m k):ux m k=qlu m k:=aZ
def qld:okP tb [] Pm:=λ m a=>tK (λ L=>Fm m L a.1 a.2.1) (qkU m m)
def qmU(m k x0 x1 x2):=tb.PL P6 2 m k [(0,vT x0),(1,vT x1),(5,.row 0 0)] ⟨[],[⟨.term,x2,0,0,Y⟩]⟩
def qlV(m k):uK m k=qmU m k:=aZ
def qmt:okP tb [] P6:=λ m a=>tK (λ L=>FL m L a.1 a.2.1) (qlV m m)
def qhS(m k x0 x1 x2 x3):=tb.PL PU 6 m k [(3,vT x0),(31,vT x1),(32,vI x2),(33,vI x3)] ⟨[],[]⟩
def qgH(m k):qW m (kZ m) k=qhS m k:=aZ
def qhO:okP tb [] PU:=λ m a=>tK (λ L=>DJ m (kZ m) L a.1) (qgH m m)
def qhg(m k x0 x1 x2 x3 x4 x5 x6 x7 x8 x9 x10 x11 x12 x13 x14):=tb.PL P9 4 m k [(5,.ptr 0 0),(6,.ptr 1 0),(8,.ptr 2 0),(9,.ptr 2 0),(14,.sl y6 x0 1),(15,vI x1),(16,vI x2)] ⟨[[vI x3,.s x4,vI x5,vT x6],[vI x7,.s x8,vI x9,.row 0 0],[vI x10,.s x11,vI x12,vT x13]],[⟨.term,x14,0,0,Y⟩]⟩
def qgw(m k):wM m k=qhg m k:=aZ
def qic:okP tb [] P9:=λ m a=>tK (λ L=>DM m L a.1 a.2.1 a.2.2.1) (qgw m m)
def qnI(m k x0 x1 x2 x3):=tb.PL O0 3 m k [(3,.row 0 0),(9,vT x0),(10,vI x1),(11,vI x2)] ⟨[],[⟨.term,x3,0,0,Y⟩]⟩
def qmm(m k):uQ m (lh m) k=qnI m k:=aZ
def qmZ:okP tb [] O0:=λ m a=>tK (λ L=>F9 m (lh m) L a.1) (qmm m m)
def qnp(m k x0 x1 x2 x3 x4 x5 x6 x7):=tb.PL Qk 6 m k [(2,.ptr 0 0),(5,vT x0),(15,vT x1),(16,vI x2),(17,vI x3)] ⟨[[vI x4,.s x5,vI x6,.row 0 0]],[⟨.term,x7,0,0,O⟩]⟩
def qmn(m k):uS m k=qnp m k:=aZ
def qnr:okP tb [] Qk:=λ m a=>tK (λ L=>FZ m L a.1) (qmn m m)
def qfi:okP tb [] qbf:=okk
def qfU(m k x0 x1 x2 x3 x4 x5 x6 x7 x8 x9):=tb.PL PM 3 m k [(1,.ptr 0 0),(2,.ptr 1 0),(10,.row 0 0),(11,vI x0),(12,vI x1)] ⟨[[vI x2,.s x3,vI x4,.row 0 0],[vI x5,.s x6,vI x7,.row 1 0]],[⟨.term,x8,0,0,Y⟩,⟨.term,x9,0,0,Y⟩]⟩
def qfk(m k):tx m (jy m) k=qfU m k:=aZ
def qfG:okP tb [] PM:=λ m a=>tK (λ L=>CJ m (jy m) L a.1) (qfk m m)
def qe0:okP tb [] qb6:=okk
def qdj(m k x0 x1 x2 x3 x4 x5 x6 x7):=tb.PL O6 3 m k [(0,.sl y4 x0 1),(2,.fn 284 []),(4,.ptr 0 0),(8,vI x1),(9,vI x2),(10,vI x3)] ⟨[[vI x4,.s x5,vI x6,vT x7]],[]⟩
def qdi(m k):tg m k=qdj m k:=aZ
def qdk:okP tb [284] O6:=λ m a=>tK (λ L=>BU m L a.1 a.2.1) (qdi m m)
def qfx:okS tb qa7:=okq
def qe7(m k x0 x1 x2 x3 x4):=tb.QL Pq 12 m k [(0,.row 0 0),(2,vI x0),(52,vT x1),(53,vI x2),(54,vI x3)] ⟨[],[⟨y4,x4,0,0,Y⟩]⟩
def qeV(m k):qS m (kW m) k=qe7 m k:=aZ
def qfd:okS tb Pq:=λ m a=>tK (λ L=>Cr m (kW m) L a.1 a.2.1 a.2.2.1) (qeV m m)
def qjv:okP tb [] qbA:=okk
def qfL(m k x0 x1 x2 x3):=tb.PL Qd 4 m k [(0,.sl y4 x0 1),(9,.sl y4 x1 1),(10,vI x2),(11,vI x3)] ⟨[],[]⟩
def qfw(m k):qT m k=qfL m k:=aZ
def qfZ:okP tb [] Qd:=λ m a=>tK (λ L=>CG m L a.1) (qfw m m)
def qhP:okP tb [] qcH:=okk
def Sn(m k x0 x1 x2 x3 x4 x5 x6 x7 x8):=tb.PL Bk 6 m k [(2,.ptr 0 0),(5,.row 1 0),(6,.row 2 0),(18,.sl y4 x0 1),(19,vI x1),(20,vI x2)] ⟨[[vI x3,.s x4,vI x5,.row 0 0]],[⟨.term,x6,0,0,Y⟩,⟨.term,x7,0,0,Y⟩,⟨.term,x8,0,0,Y⟩]⟩
def Se(m k x0 x1 x2 x3 x4 x5 x6 x7 x8 x9 x10 x11 x12 x13 x14 x15):=tb.PL Bk 11 m k [(2,.ptr 0 0),(5,.row 1 0),(6,.row 2 0),(8,.ptr 1 0),(18,.sl y4 x0 1),(19,vI x1),(20,vI x2),(34,vI x3),(35,vI x4)] ⟨[[vI x5,.s x6,vI x7,.row 0 0],[vI x8,.s x9,vI x10,vT x11,vI x12]],[⟨.term,x13,0,0,Y⟩,⟨.term,x14,0,0,Y⟩,⟨.term,x15,0,0,Y⟩]⟩
def Sv(m k x0 x1 x2 x3 x4 x5 x6 x7 x8 x9 x10 x11 x12 x13 x14 x15):=tb.PL Bk 15 m k [(2,.ptr 0 0),(5,.row 1 0),(6,.row 2 0),(8,.ptr 1 0),(18,.sl y4 x0 1),(19,vI x1),(20,vI x2),(46,vI x3),(47,vI x4)] ⟨[[vI x5,.s x6,vI x7,.row 0 0],[vI x8,.s x9,vI x10,vT x11,vI x12]],[⟨.term,x13,0,0,Y⟩,⟨.term,x14,0,0,Y⟩,⟨.term,x15,0,0,Y⟩]⟩
def qfF(m k):fG m k=(Sn m k,Se m k,Sv m k):=aZ (M:=λ k=>(Sn m k,Se m k,Sv m k))
def qgi:okP tb [] Bk:=λ m a=>tK (x:=fG m m) (λ L=>Dh m L.1 L.2.1 L.2.2 a.1) (qfF m m)
def qfo(m k x0 x1 x2 x3):=tb.QL PP 3 m k [(3,.row 0 0),(6,.sl y4 x0 1),(7,vI x1),(8,vI x2)] ⟨[],[⟨y4,x3,0,0,Y⟩]⟩
def qe5(m k):tw m k=qfo m k:=aZ
def qfs:okS tb PP:=λ m a=>tK (λ L=>Cv m L a.1) (qe5 m m)
def qe1:okP tb [] qcc:=okk
def qdw(m k x0 x1 x2):=tb.PL PO 2 m k [(0,.sl y4 x0 1),(1,.fn 288 []),(7,vI x1),(8,vI x2)] ⟨[],[]⟩
def qdv(m k):wz m k=qdw m k:=aZ
def qdy:okP tb [288] PO:=λ m a=>tK (λ L=>BY m L a.1) (qdv m m)
def qdo:okP tb [288] qbu:=okk
def qfA:okP tb [] qbJ:=okk
def qhB(m k x0 x1 x2 x3):=tb.PL Qt 9 m k [(8,.row 0 0),(23,.sl y4 x0 1),(24,vI x1),(25,vI x2)] ⟨[],[⟨y4,x3,0,0,Y⟩]⟩
def qgX(m k):tO m k=qhB m k:=aZ
def qhQ:okP tb [] Qt:=λ m a=>tK (λ L=>Dy m L a.1 a.2.1) (qgX m m)
def qkq:okP tb [] qbV:=okk
def qhF:okP tb [] qaZ:=okk
def qgN(m k x0 x1 x2 x3 x4 x5 x6 x7 x8 x9 x10 x11 x12 x13 x14):=tb.PL Pj 5 m k [(1,.ptr 0 0),(2,.ptr 1 0),(4,.ptr 2 0),(19,vT x0),(20,vI x1),(21,vI x2)] ⟨[[vI x3,.s x4,vI x5,vT x6],[vI x7,.s x8,vI x9,.row 0 0],[vI x10,.s x11,vI x12,.row 1 0]],[⟨.term,x13,0,0,Y⟩,⟨.term,x14,0,0,Y⟩]⟩
def qfR(m k):tF m (lL m) k=qgN m k:=aZ
def qgQ:okP tb [] Pj:=λ m a=>tK (λ L=>Dc m (lL m) L a.1) (qfR m m)
def qgn:okP tb [] qbo:=okk
def qfH:okP tb [] qcf:=okk
def qew(m k x0 x1 x2):=tb.PL N9 4 m k [(1,.fn 115 []),(18,vT x0),(19,vI x1),(20,vI x2)] ⟨[],[]⟩
def qeo(m k):qQ m (kU m) k=qew m k:=aZ
def qeB:okP tb [115] N9:=λ m a=>tK (λ L=>Cf m (kU m) L a.1) (qeo m m)
def qhu:okP tb [] i59:=okk
def qi6(m k x0 x1 x2 x3):=tb.PL i55 4 m k [(0,.sl y5 x0 1),(10,.sl y5 x1 1),(11,vI x2),(12,vI x3)] ⟨[],[]⟩
def qio(m k):uf m k=qi6 m k:=aZ
def qjp:okP tb [] i55:=λ m a=>tK (λ L=>DV m L a.1) (qio m m)
def Sz(m k x0 x1 x2 x3 x4 x5 x6 x7 x8 x9 x10 x11):=tb.PL i18 22 m k [(3,.ptr 0 0),(7,vT x0),(9,.sl y5 x1 1),(101,.sl y5 x2 1),(102,vI x3),(103,vI x4)] ⟨[[vI x5,.sl .str x6 1,vI x7,vI x8,vI x9,vI x10,.sl y5 x11 1]],[]⟩
def Ss(m k x0 x1 x2 x3 x4 x5 x6 x7 x8 x9):=tb.PL i18 28 m k [(3,.ptr 0 0),(130,.sl y5 x0 1),(131,vI x1),(132,vI x2)] ⟨[[vI x3,.sl .str x4 1,vI x5,vI x6,vI x7,vI x8,.sl y5 x9 1]],[]⟩
def qgf(m k):iz m k=(Sz m k,Ss m k):=aZ (M:=λ k=>(Sz m k,Ss m k))
def qgF:okP tb [] i18:=λ m a=>tK (x:=iz m m) (λ L=>wK m L.1 L.2 a.1 a.2.1) (qgf m m)
def qfj:okP tb [] i67:=okk
def qfl:okP tb [] i22:=okk
def qgE:okP tb [] i24:=okk
def qgq:okP tb [] i25:=okk
def qhU:okP tb [] qcu:=okk
def qkM(m k x0 x1 x2 x3 x4 x5):=tb.PL Qo 3 m k [(1,.ptr 0 0),(3,vI x0),(4,vI x1)] ⟨[[vI x2,.s x3,vI x4,vT x5]],[]⟩
def qiT(m k):ul m (jB m) k=qkM m k:=aZ
def qk1:okP tb [] Qo:=λ m a=>tK (λ L=>Eu m (jB m) L a.1) (qiT m m)
def qgY(m k x0 x1 x2 x3 x4 x5 x6 x7 x8):=tb.PL i77 18 m k [(2,.ptr 0 0),(3,.ptr 1 0),(9,vI x0)] ⟨[[vI x1,.s x2,vI x3,vT x4],[vI x5,.s x6,vI x7,vT x8]],[]⟩
def qga(m k):tI m (iV m) k=qgY m k:=aZ
def qgW:okP tb [] i77:=λ m a=>tK (λ L=>CX m (iV m) L a.1 a.2.1) (qga m m)
def qj7:okP tb [] i29:=okk
def qhh:okP tb [] i35:=okk
def qkV:okP tb [] i38:=okk
def qli:okP tb [] i44:=okk
def qlg:okP tb [] i62:=okk
def qgG:okP tb [] i43:=okk
def qjJ:okP tb [] i11:=okk
def qhd(m k x0 x1 x2 x3 x4 x5):=tb.PL i61 5 m k [(1,vI x0),(2,.ptr 0 0),(5,vI x1)] ⟨[[vI x2,.s x3,vI x4,vT x5]],[]⟩
def qgo(m k):tJ m (lM m) k=qhd m k:=aZ
def qhV:okP tb [] i61:=λ m a=>tK (λ L=>Dt m (lM m) L a.1 a.2.1) (qgo m m)
def qk4(m k x0 x1 x2):=tb.PL i19 4 m k [(0,vT x0),(2,vI x1),(7,vI x2)] ⟨[],[]⟩
def qkD(m k):uA m k=qk4 m k:=aZ
def qlF:okP tb [] i19:=λ m a=>tK (λ L=>Fw m L a.1 a.2.1 a.2.2.1) (qkD m m)
def TU(m k x0 x1 x2 x3 x4 x5 x6):=tb.PL i12 6 m k [(1,.ptr 0 0),(3,.row 0 0),(4,vI x0),(5,vI x1)] ⟨[[vI x2,vT x3,vT x4,.sl y2 x5 1]],[⟨.term,x6,0,0,Y⟩]⟩
def Ua(m k x0 x1 x2 x3 x4 x5 x6 x7):=tb.PL i12 11 m k [(1,.ptr 0 0),(3,.row 0 0),(4,vI x0),(5,vI x1),(6,vI x2)] ⟨[[vI x3,vT x4,vT x5,.sl y2 x6 1]],[⟨.term,x7,0,0,Y⟩]⟩
def qj8(m k):kg m k=(TU m k,Ua m k):=aZ (M:=λ k=>(TU m k,Ua m k))
def qlU:okP tb [] i12:=λ m a=>tK (x:=kg m m) (λ L=>uk m L.1 L.2 a.1) (qj8 m m)
def qlX(m k x0 x1 x2 x3 x4):=tb.PL i45 3 m k [(0,.sl y5 x0 1),(1,vI x1),(2,vI x2),(7,.row 0 0),(8,vI x3)] ⟨[],[⟨.term,x4,0,0,Y⟩]⟩
def qkW(m k):uw m k=qlX m k:=aZ
def qlc:okP tb [] i45:=λ m a=>tK (λ L=>Ft m L a.1 a.2.1 a.2.2.1) (qkW m m)
def qfP(m k x0 x1 x2 x3 x4 x5 x6 x7 x8):=tb.PL i13 3 m k [(1,.ptr 0 0),(3,vI x0),(4,vI x1)] ⟨[[vI x2,.sl .str x3 1,vI x4,vI x5,vI x6,vI x7,.sl y5 x8 1]],[]⟩
def qfz(m k):tC m k=qfP m k:=aZ
def qf1:okP tb [] i13:=λ m a=>tK (λ L=>CE m L a.1) (qfz m m)
def qfm:okP tb [] i33:=okk
def qlp(m k x0 x1 x2 x3 x4 x5):=tb.PL i75 3 m k [(1,.ptr 0 0),(3,.row 0 0),(4,vI x0)] ⟨[[vI x1,.s x2,vI x3,vT x4]],[⟨.term,x5,0,0,O⟩]⟩
def qjX(m k):uv m (km m) k=qlp m k:=aZ
def ql1:okP tb [] i75:=λ m a=>tK (λ L=>EQ m (km m) L a.1) (qjX m m)
def qlY(m k x0 x1 x2 x3 x4 x5 x6 x7):=tb.PL Qg 4 m k [(0,vT x0),(3,.ptr 0 0),(5,.row 0 0),(6,.b x1),(7,vI x2)] ⟨[[vI x3,.s x4,vI x5,vT x6]],[⟨.term,x7,0,0,Y⟩]⟩
def qkb(m k):uy m k=qlY m k:=aZ
def qlH:okP tb [] Qg:=λ m a=>tK (λ L=>FD m L a.1 a.2.1) (qkb m m)
def ql7(m k x0 x1 x2):=tb.PL QD 3 m k [(0,vT x0),(3,vT x1),(4,vI x2)] ⟨[],[]⟩
def qks(m k):uz m k=ql7 m k:=aZ
def qlW:okP tb [] QD:=λ m a=>tK (λ L=>E4 m L a.1) (qks m m)
def qkn(m k x0 x1 x2 x3):=tb.PL Pz 4 m k [(1,vI x0),(5,.row 0 0),(6,vT x1),(7,vI x2)] ⟨[],[⟨.term,x3,0,0,Y⟩]⟩
def qiL(m k):ui m k=qkn m k:=aZ
def qkJ:okP tb [] Pz:=λ m a=>tK (λ L=>Ez m L a.1 a.2.1) (qiL m m)
def qjV:okP tb [] i71:=okk
def qhv:okP tb [] i27:=okk
def qhs:okP tb [] qcG:=okk
def qiI:okP tb [] qcz:=okk
def qia(m k x0 x1):=tb.PL PA 4 m k [(0,.s x0),(3,vI x1)] ⟨[],[]⟩
def qg7(m k):tN m k=qia m k:=aZ
def qhz:okP tb [] PA:=λ m a=>tK (λ L=>Dw m L a.1) (qg7 m m)
def qjN:okP tb [] qbP:=okk
def qiz(m k x0 x1 x2 x3 x4):=tb.PL Qs 5 m k [(1,.ptr 0 0),(4,vI x0)] ⟨[[vI x1,.s x2,vI x3,vT x4]],[]⟩
def qip(m k):ua m (lO m) k=qiz m k:=aZ
def qjw:okP tb [] Qs:=λ m a=>tK (λ L=>D5 m (lO m) L a.1) (qip m m)
def qi4(m k x0 x1 x2 x3 x4 x5):=tb.PL PX 3 m k [(1,.ptr 0 0),(3,vI x0),(4,vI x1)] ⟨[[vI x2,.s x3,vI x4,vT x5]],[]⟩
def qin(m k):tY m (lP m) k=qi4 m k:=aZ
def qiW:okP tb [] PX:=λ m a=>tK (λ L=>DP m (lP m) L a.1) (qin m m)
def qiH:okP tb [] qa4:=okk
def qhb:okP tb [] qbO:=okk
def qjM(m k x0 x1 x2):=tb.PL i76 3 m k [(0,.s x0),(3,.sl y11 x1 1),(4,vI x2)] ⟨[],[]⟩
def qje(m k):ur m k=qjM m k:=aZ
def qj3:okP tb [] i76:=λ m a=>tK (λ L=>Ek m L a.1) (qje m m)
def qj9(m k x0 x1 x2 x3 x4 x5):=tb.PL Qu 3 m k [(1,.ptr 0 0),(3,.sl y11 x0 1),(4,vI x1)] ⟨[[vI x2,.s x3,vI x4,vT x5]],[]⟩
def qiu(m k):uo m k=qj9 m k:=aZ
def qkf:okP tb [] Qu:=λ m a=>tK (λ L=>Ei m L a.1) (qiu m m)
def qhL(m k x0 x1 x2 x3 x4):=tb.PL Pn 4 m k [(1,.ptr 0 0),(3,vI x0)] ⟨[[vI x1,.s x2,vI x3,vT x4]],[]⟩
def qg8(m k):tT m k=qhL m k:=aZ
def qhi:okP tb [] Pn:=λ m a=>tK (λ L=>Dv m L a.1) (qg8 m m)
def qjI(m k x0 x1 x2 x3 x4):=tb.PL Pp 11 m k [(1,.ptr 0 0),(4,vI x0)] ⟨[[vI x1,.s x2,vI x3,vT x4]],[]⟩
def qh4(m k):qZ m (lf m) k=qjI m k:=aZ
def qjr:okP tb [] Pp:=λ m a=>tK (λ L=>DU m (lf m) L a.1) (qh4 m m)
def qjF:okP tb [] qcD:=okk
def qmW:okP tb [] qaQ:=okk
def qgT:okP tb [] qbi:=okk
def qiX(m k x0 x1 x2 x3 x4 x5):=tb.PL PE 4 m k [(0,vT x0),(3,.ptr 0 0),(5,vI x1)] ⟨[[vI x2,.s x3,vI x4,vT x5]],[]⟩
def qhn(m k):tZ m k=qiX m k:=aZ
def qjb:okP tb [] PE:=λ m a=>tK (λ L=>Ea m L a.1 a.2.1) (qhn m m)
def qkC:okP tb [] qbb:=okk
def qll(m k x0 x1 x2 x3 x4 x5):=tb.PL i66 2 m k [(0,vT x0),(3,.ptr 0 0),(5,vI x1)] ⟨[[vI x2,.s x3,vI x4,vT x5]],[]⟩
def qkN(m k):uC m k=qll m k:=aZ
def qlJ:okP tb [] i66:=λ m a=>tK (λ L=>Fg m L a.1 a.2.1) (qkN m m)
def qhm(m k x0 x1 x2 x3 x4 x5 x6):=tb.PL QG 5 m k [(0,vT x0),(3,.ptr 0 0),(5,.row 0 0),(6,vI x1)] ⟨[[vI x2,.s x3,vI x4,vT x5]],[⟨.term,x6,0,0,Y⟩]⟩
def qgp(m k):tW m k=qhm m k:=aZ
def qhJ:okP tb [] QG:=λ m a=>tK (λ L=>Dr m L a.1 a.2.1) (qgp m m)
def qj1(m k x0 x1 x2):=tb.PL Qh 3 m k [(1,vT x0),(5,vT x1),(6,vI x2)] ⟨[],[]⟩
def qjd(m k):rh m k=qj1 m k:=aZ
def qkp:okP tb [] Qh:=λ m a=>tK (λ L=>EH m L a.1 a.2.1) (qjd m m)
def qfX(m k x0 x1 x2 x3 x4 x5):=tb.PL QE 7 m k [(1,.ptr 0 0),(3,vT x0),(4,vI x1)] ⟨[[vI x2,.s x3,vI x4,vT x5]],[]⟩
def qff(m k):qU m (kX m) k=qfX m k:=aZ
def qf7:okP tb [] QE:=λ m a=>tK (λ L=>CM m (kX m) L a.1) (qff m m)
def qjR:okP tb [] qbH:=okk
def ql4(m k x0 x1 x2 x3 x4 x5 x6):=tb.PL Qq 6 m k [(0,vT x0),(2,.ptr 0 0),(5,vT x1),(6,vI x2)] ⟨[[vI x3,.s x4,vI x5,.row 0 0]],[⟨.term,x6,0,0,O⟩]⟩
def qkl(m k):uF m k=ql4 m k:=aZ
def qlE:okP tb [] Qq:=λ m a=>tK (λ L=>Fi m L a.1) (qkl m m)
def qgB:okP tb [] qbl:=okk
def qjs(m k x0 x1 x2 x3 x4 x5):=tb.PL QA 7 m k [(1,.ptr 0 0),(3,vI x0),(4,vI x1)] ⟨[[vI x2,.s x3,vI x4,vT x5]],[]⟩
def qh8(m k):qY m (lc m) k=qjs m k:=aZ
def qiV:okP tb [] QA:=λ m a=>tK (λ L=>DT m (lc m) L a.1) (qh8 m m)
def qlA(m k x0 x1 x2 x3 x4 x5 x6 x7 x8):=tb.QL P8 4 m k [(0,.row 0 0),(2,vI x0),(4,.ptr 0 0),(7,.row 1 0),(8,.b x1),(9,vI x2)] ⟨[[vI x3,.s x4,vI x5,vT x6]],[⟨y4,x7,0,0,Y⟩,⟨y4,x8,0,0,Y⟩]⟩
def qko(m k):pK m k=qlA m k:=aZ
def qlD:okS tb P8:=λ m a=>tK (λ L=>Fv m L a.1 a.2.1 a.2.2.1) (qko m m)
def qgy(m k x0 x1 x2 x3 x4 x5 x6):=tb.QL P1 6 m k [(0,.row 0 0),(2,vI x0),(4,.ptr 0 0),(7,vI x1)] ⟨[[vI x2,.s x3,vI x4,vT x5]],[⟨y4,x6,0,0,Y⟩]⟩
def qf8(m k):qV m (kY m) k=qgy m k:=aZ
def qgv:okS tb P1:=λ m a=>tK (λ L=>Dd m (kY m) L a.1 a.2.1 a.2.2.1) (qf8 m m)
def qmu:okP tb [] qba:=okk
def qiN(m k x0 x1):=tb.PL QH 4 m k [(0,.sl y4 x0 1),(3,vI x1)] ⟨[],[]⟩
def qhC(m k):rc m k=qiN m k:=aZ
def qiS:okP tb [] QH:=λ m a=>tK (λ L=>DR m L a.1) (qhC m m)
def RW(m k x0 x1 x2):=tb.PL yB 3 m k [(0,.sl y4 x0 1),(3,.row 0 0),(4,vI x1)] ⟨[],[⟨.term,x2,0,0,Y⟩]⟩
def R5(m k x0 x1 x2 x3):=tb.PL yB 6 m k [(0,.sl y4 x0 1),(3,.row 0 0),(4,vI x1),(5,vI x2)] ⟨[],[⟨.term,x3,0,0,Y⟩]⟩
def R3(m k x0 x1 x2):=tb.PL yB 10 m k [(0,.sl y4 x0 1),(3,.row 0 0),(6,vI x1)] ⟨[],[⟨.term,x2,0,0,Y⟩]⟩
def RY(m k x0 x1 x2 x3):=tb.PL yB 13 m k [(0,.sl y4 x0 1),(3,.row 0 0),(6,vI x1),(7,vI x2)] ⟨[],[⟨.term,x3,0,0,Y⟩]⟩
def qfp(m k):dj m k=(RW m k,R5 m k,R3 m k,RY m k):=aZ (M:=λ k=>(RW m k,R5 m k,R3 m k,RY m k))
def qf0:okP tb [] yB:=λ m a=>tK (x:=dj m m) (λ L=>CB m L.1 L.2.1 L.2.2.1 L.2.2.2 a.1) (qfp m m)
def qkR:okP tb [] qaS:=okk
def qgx:okP tb [] qbE:=okk
def qhc(m k x0 x1):=tb.PL Pu 2 m k [(0,.sl y4 x0 1),(3,vI x1)] ⟨[],[]⟩
def qfJ(m k):tG m k=qhc m k:=aZ
def qgS:okP tb [] Pu:=λ m a=>tK (λ L=>Db m L a.1) (qfJ m m)
def qlo(m k x0 x1 x2):=tb.PL QC 9 m k [(1,.sl y4 x0 1),(8,.row 0 0),(9,vI x1)] ⟨[],[⟨y4,x2,0,0,Y⟩]⟩
def qjL(m k):rp m k=qlo m k:=aZ
def qlB:okP tb [] QC:=λ m a=>tK (λ L=>Fb m L a.1 a.2.1) (qjL m m)
def qiP:okP tb [] qci:=okk
def qh2(m k x0 x1 x2 x3 x4 x5 x6 x7 x8 x9):=tb.PL PK 5 m k [(1,.ptr 0 0),(2,.ptr 1 0),(4,.row 1 0),(5,vI x0)] ⟨[[vI x1,.s x2,vI x3,vT x4],[vI x5,.s x6,vI x7,.row 0 0]],[⟨.term,x8,0,0,Y⟩,⟨.term,x9,0,0,Y⟩]⟩
def qg9(m k):tM m (lN m) k=qh2 m k:=aZ
def qhr:okP tb [] PK:=λ m a=>tK (λ L=>DL m (lN m) L a.1) (qg9 m m)
def qhx:okP tb [] i74:=okk
def qjC(m k x0 x1):=tb.PL i28 6 m k [(5,vT x0),(6,vI x1)] ⟨[],[]⟩
def qhT(m k):tX m k=qjC m k:=aZ
def qis:okP tb [] i28:=λ m a=>tK (λ L=>DW m L a.1) (qhT m m)
def ql8(m k x0 x1 x2 x3 x4 x5 x6 x7 x8 x9):=tb.PL i30 2 m k [(0,.sl y5 x0 1),(3,.ptr 0 0),(4,.ptr 1 0),(5,vI x1)] ⟨[[vI x2,.s x3,vI x4,vT x5],[vI x6,.s x7,vI x8,.row 0 0]],[⟨.term,x9,0,0,Y⟩]⟩
def qkd(m k):uE m k=ql8 m k:=aZ
def qlv:okP tb [] i30:=λ m a=>tK (λ L=>E8 m L a.1 a.2.1) (qkd m m)
def qfq:okP tb [] qcx:=okk
def qkI(m k x0 x1):=tb.PL PJ 5 m k [(3,vT x0),(4,vI x1)] ⟨[],[]⟩
def qjE(m k):um m k=qkI m k:=aZ
def qkS:okP tb [] PJ:=λ m a=>tK (λ L=>Es m L a.1) (qjE m m)
def qkB(m k x0 x1):=tb.PL Qp 5 m k [(3,vT x0),(4,vI x1)] ⟨[],[]⟩
def qiR(m k):ug m k=qkB m k:=aZ
def qkZ:okP tb [] Qp:=λ m a=>tK (λ L=>Eo m L a.1) (qiR m m)
def qh0(m k x0 x1 x2):=tb.PL i65 3 m k [(1,vT x0),(5,vT x1),(6,vI x2)] ⟨[],[]⟩
def qgC(m k):tQ m k=qh0 m k:=aZ
def qh5:okP tb [] i65:=λ m a=>tK (λ L=>DC m L a.1 a.2.1) (qgC m m)
def TP(m k x0 x1 x2):=tb.QL Jl 11 m k [(1,.row 0 0),(6,vT x0),(7,vI x1)] ⟨[],[⟨.term,x2,0,0,Y⟩]⟩
def T9(m k x0 x1 x2):=tb.QL Jl 16 m k [(1,.row 0 0),(6,vT x0),(8,vI x1)] ⟨[],[⟨.term,x2,0,0,Y⟩]⟩
def qkT(m k):iW m k=(TP m k,T9 m k):=aZ (M:=λ k=>(TP m k,T9 m k))
def qlP:okS tb Jl:=λ m a=>tK (x:=iW m m) (λ L=>FE m L.1 L.2 a.1 a.2.1) (qkT m m)
def S6(m k x0 x1 x2 x3 x4 x5 x6):=tb.PL i64 3 m k [(1,vI x0),(2,.ptr 0 0),(6,.row 0 0),(7,vI x1)] ⟨[[vI x2,vT x3,vT x4,.sl y2 x5 1]],[⟨.term,x6,0,0,Y⟩]⟩
def SX(m k x0 x1 x2 x3 x4 x5 x6 x7):=tb.PL i64 10 m k [(1,vI x0),(2,.ptr 0 0),(6,.row 0 0),(7,vI x1),(8,vI x2)] ⟨[[vI x3,vT x4,vT x5,.sl y2 x6 1]],[⟨.term,x7,0,0,Y⟩]⟩
def qhM(m k):gW m k=(S6 m k,SX m k):=aZ (M:=λ k=>(S6 m k,SX m k))
def qiq:okP tb [] i64:=λ m a=>tK (x:=gW m m) (λ L=>Eb m L.1 L.2 a.1 a.2.1) (qhM m m)
def qfE(m k x0 x1):=tb.PL Ph 2 m k [(0,vT x0),(3,vI x1)] ⟨[],[]⟩
def qfB(m k):tz m k=qfE m k:=aZ
def qgg:okP tb [] Ph:=λ m a=>tK (λ L=>CC m L a.1) (qfB m m)
def RI(m k x0 x1 x2 x3 x4):=tb.PL i91 4 m k [(1,.ptr 0 0),(3,vI x0)] ⟨[[vI x1,vT x2,vT x3,.sl y2 x4 1]],[]⟩
def RL(m k x0 x1 x2 x3 x4):=tb.PL i91 9 m k [(1,.ptr 0 0),(4,vI x0)] ⟨[[vI x1,vT x2,vT x3,.sl y2 x4 1]],[]⟩
def qe9(m k):jx m k=(RI m k,RL m k):=aZ (M:=λ k=>(RI m k,RL m k))
def qfu:okP tb [] i91:=λ m a=>tK (x:=jx m m) (λ L=>Ct m L.1 L.2 a.1) (qe9 m m)
def qkY:okP tb [] qb2:=okk
def qiA:okP tb [] qct:=okk
def SE(m k x0 x1 x2 x3 x4):=tb.PL i92 4 m k [(1,.ptr 0 0),(3,vI x0)] ⟨[[vI x1,vT x2,vT x3,.sl y2 x4 1]],[]⟩
def SJ(m k x0 x1 x2 x3 x4 x5):=tb.PL i92 9 m k [(1,.ptr 0 0),(3,vI x0),(4,vI x1)] ⟨[[vI x2,vT x3,vT x4,.sl y2 x5 1]],[]⟩
def qgR(m k):jY m k=(SE m k,SJ m k):=aZ (M:=λ k=>(SE m k,SJ m k))
def qik:okP tb [] i92:=λ m a=>tK (x:=jY m m) (λ L=>DH m L.1 L.2 a.1) (qgR m m)
def qit:okP tb [] i42:=okk
def Th(m k x0 x1 x2):=tb.PL i49 4 m k [(3,.ptr 0 0),(5,vI x0)] ⟨[[vI x1,.sl .str x2 1]],[]⟩
def Ti(m k x0 x1 x2 x3):=tb.PL i49 9 m k [(3,.ptr 0 0),(5,vI x0),(6,vI x1)] ⟨[[vI x2,.sl .str x3 1]],[]⟩
def qji(m k):ke m k=(Th m k,Ti m k):=aZ (M:=λ k=>(Th m k,Ti m k))
def qki:okP tb [] i49:=λ m a=>tK (x:=ke m m) (λ L=>EG m L.1 L.2 a.1 a.2.1) (qji m m)
def qjO(m k x0 x1 x2 x3 x4 x5 x6 x7 x8 x9 x10 x11):=tb.PL i72 6 m k [(0,.sl y5 x0 1),(4,.ptr 0 0),(5,.ptr 1 0),(7,.row 0 0),(8,.b x1),(9,vI x2)] ⟨[[vI x3,.s x4,vI x5,vT x6],[vI x7,.s x8,vI x9,vT x10]],[⟨y5,x11,0,0,Y⟩]⟩
def qjk(m k):rj m k=qjO m k:=aZ
def qjY:okP tb [] i72:=λ m a=>tK (λ L=>EA m L a.1 a.2.1 a.2.2.1) (qjk m m)
def qhX:okP tb [] i87:=okk
def qjm:okP tb [] qcs:=okk
def Si(m k x0 x1 x2 x3 x4 x5 x6 x7 x8):=tb.PL i50 3 m k [(2,vI x0),(3,.ptr 0 0),(4,.ptr 1 0),(8,.sl y5 x1 1),(9,vI x2)] ⟨[[vI x3,vT x4,vT x5,.sl y2 x6 1],[vI x7,.sl .str x8 1]],[]⟩
def Sk(m k x0 x1 x2 x3 x4 x5 x6):=tb.PL i50 7 m k [(2,vI x0),(3,.ptr 0 0),(8,.sl y5 x1 1),(10,vI x2)] ⟨[[vI x3,vT x4,vT x5,.sl y2 x6 1]],[]⟩
def qfC(m k):jW m k=(Si m k,Sk m k):=aZ (M:=λ k=>(Si m k,Sk m k))
def qg4:okP tb [] i50:=λ m a=>tK (x:=jW m m) (λ L=>Da m L.1 L.2 a.1 a.2.1 a.2.2.1) (qfC m m)
def qjQ:okP tb [] qck:=okk
def qj5:okP tb [] qbt:=okk
def qgJ:okP tb [] qcI:=okk
def qi7(m k x0 x1):=tb.PL i80 4 m k [(0,.sl y5 x0 1),(3,vI x1)] ⟨[],[]⟩
def qhp(m k):ub m k=qi7 m k:=aZ
def qiF:okP tb [] i80:=λ m a=>tK (λ L=>DX m L a.1) (qhp m m)
def S8(m k x0 x1 x2 x3 x4 x5 x6 x7 x8 x9):=tb.PL i37 12 m k [(3,.ptr 0 0),(7,.sl y5 x0 1),(9,vT x1),(11,vI x2)] ⟨[[vI x3,.sl .str x4 1,vI x5,vI x6,vI x7,vI x8,.sl y5 x9 1]],[]⟩
def SV(m k x0 x1 x2 x3 x4 x5 x6 x7 x8):=tb.PL i37 18 m k [(3,.ptr 0 0),(7,.sl y5 x0 1),(13,vI x1)] ⟨[[vI x2,.sl .str x3 1,vI x4,vI x5,vI x6,vI x7,.sl y5 x8 1]],[]⟩
def qh7(m k):iU m k=(S8 m k,SV m k):=aZ (M:=λ k=>(S8 m k,SV m k))
def qjh:okP tb [] i37:=λ m a=>tK (x:=iU m m) (λ L=>wO m L.1 L.2 a.1 a.2.1) (qh7 m m)
def qkc:okP tb [] i36:=okk
def qeG:okP tb [] i9:=okk
end
end Go.AmZ
namespace Go.Proofs
open Go.Shelf
def Tryz.sortTrm_ren:Go.Shelf.Ren:=⟨λ|6=>110|15=>159|14=>158|28=>200|29=>201|20=>192|21=>193|22=>194|23=>195|24=>196|25=>197|26=>198|27=>199|46=>242|47=>243|48=>244|49=>245|50=>246|57=>272|n=>n,λ|22=>22|24=>47|25=>107|3=>3|39=>183|0=>0|53=>209|55=>211|4=>4|46=>203|45=>202|50=>153|5=>5|9=>9|66=>234|70=>175|76=>254|77=>255|n=>n,λ|n=>n⟩
def Tryz.sortTrm:Go.Proofs.SlLaysF0.n6 Tryz.prog Tryz.sortTrm_ren:={
 mixed:=by kernel_rfl
 f6:=⟨Tryz.f110.name,by decide,Tryz.func110.trans (bz Z (by kernel_rfl))⟩
 f14:=⟨Tryz.f158.name,by decide,Tryz.func158.trans (bz Z (by kernel_rfl))⟩
 f15:=Tryz.func159.trans (bz Z (by kernel_rfl))
 f20:=⟨Tryz.f192.name,by decide,Tryz.func192.trans (bz Z (by kernel_rfl))⟩
 f21:=⟨Tryz.f193.name,by decide,Tryz.func193.trans (bz Z (by kernel_rfl))⟩
 f22:=⟨Tryz.f194.name,by decide,Tryz.func194.trans (bz Z (by kernel_rfl))⟩
 f23:=⟨Tryz.f195.name,by decide,Tryz.func195.trans (bz Z (by kernel_rfl))⟩
 f24:=⟨Tryz.f196.name,by decide,Tryz.func196.trans (bz Z (by kernel_rfl))⟩
 f25:=⟨Tryz.f197.name,by decide,Tryz.func197.trans (bz Z (by kernel_rfl))⟩
 f26:=⟨Tryz.f198.name,by decide,Tryz.func198.trans (bz Z (by kernel_rfl))⟩
 f27:=⟨Tryz.f199.name,by decide,Tryz.func199.trans (bz Z (by kernel_rfl))⟩
 f28:=Tryz.func200.trans (bz Z (by kernel_rfl))
 f29:=Tryz.func201.trans (bz Z (by kernel_rfl))
 f46:=⟨Tryz.f242.name,by decide,Tryz.func242.trans (bz Z (by kernel_rfl))⟩
 f47:=Tryz.func243.trans (bz Z (by kernel_rfl))
 f48:=Tryz.func244.trans (bz Z (by kernel_rfl))
 f49:=⟨Tryz.f245.name,by decide,Tryz.func245.trans (bz Z (by kernel_rfl))⟩
 f50:=⟨Tryz.f246.name,by decide,Tryz.func246.trans (bz Z (by kernel_rfl))⟩
 f57:=⟨Tryz.f272.name,by decide,Tryz.func272.trans (bz Z (by kernel_rfl))⟩
 t0:=Tryz.underlying0
 a0:=Tryz.isAgg0
 z0:=Tryz.sizeOf0
 v0:=Tryz.zeroValue0
 t3:=Tryz.underlying3
 a3:=Tryz.isAgg3
 z3:=Tryz.sizeOf3
 v3:=Tryz.zeroValue3
 t4:=Tryz.underlying4
 a4:=Tryz.isAgg4
 z4:=Tryz.sizeOf4
 v4:=Tryz.zeroValue4
 t5:=Tryz.underlying5
 a5:=Tryz.isAgg5
 z5:=Tryz.sizeOf5
 v5:=Tryz.zeroValue5
 t9:=Tryz.underlying9
 a9:=Tryz.isAgg9
 z9:=Tryz.sizeOf9
 v9:=Tryz.zeroValue9
 t22:=Tryz.underlying22
 a22:=Tryz.isAgg22
 z22:=Tryz.sizeOf22
 v22:=Tryz.zeroValue22
 t25:=Tryz.underlying107
 a25:=Tryz.isAgg107
 z25:=Tryz.sizeOf107
 v25:=Tryz.zeroValue107
 t39:=Tryz.underlying183
 a39:=Tryz.isAgg183
 z39:=Tryz.sizeOf183
 v39:=Tryz.zeroValue183
 t45:=Tryz.underlying202
 a45:=Tryz.isAgg202
 z45:=Tryz.sizeOf202
 v45:=Tryz.zeroValue202
 t46:=Tryz.underlying203
 a46:=Tryz.isAgg203
 z46:=Tryz.sizeOf203
 v46:=Tryz.zeroValue203
 t50:=Tryz.underlying153
 a50:=Tryz.isAgg153
 z50:=Tryz.sizeOf153
 v50:=Tryz.zeroValue153
 t53:=Tryz.underlying209
 a53:=Tryz.isAgg209
 z53:=Tryz.sizeOf209
 v53:=Tryz.zeroValue209
 t55:=Tryz.underlying211
 a55:=Tryz.isAgg211
 z55:=Tryz.sizeOf211
 v55:=Tryz.zeroValue211
 t66:=Tryz.underlying234
 a66:=Tryz.isAgg234
 z66:=Tryz.sizeOf234
 v66:=Tryz.zeroValue234
 t70:=Tryz.underlying175
 a70:=Tryz.isAgg175
 z70:=Tryz.sizeOf175
 v70:=Tryz.zeroValue175
 t76:=Tryz.underlying254
 a76:=Tryz.isAgg254
 z76:=Tryz.sizeOf254
 v76:=Tryz.zeroValue254
 t77:=Tryz.underlying255
 a77:=Tryz.isAgg255
 z77:=Tryz.sizeOf255
 v77:=Tryz.zeroValue255}
end Go.Proofs
namespace Go.Proofs
open Go.Shelf
def Tryz.sortBnd_ren:Go.Shelf.Ren:=⟨λ|14=>182|20=>229|21=>230|22=>231|23=>232|24=>233|25=>234|26=>235|27=>236|46=>269|47=>243|48=>244|49=>270|50=>271|15=>159|57=>282|28=>200|29=>201|n=>n,λ|24=>62|22=>32|3=>3|25=>172|4=>4|0=>0|46=>203|45=>202|50=>153|66=>234|39=>183|55=>211|70=>175|76=>254|77=>255|53=>209|5=>5|9=>9|n=>n,λ|n=>n⟩
def Tryz.sortBnd:Go.Proofs.SlLaysF0.n14 Tryz.prog Tryz.sortBnd_ren:={
 mixed:=by kernel_rfl
 f14:=⟨Tryz.f182.name,by decide,Tryz.func182.trans (bz Z (by kernel_rfl))⟩
 f15:=Tryz.func159.trans (bz Z (by kernel_rfl))
 f20:=⟨Tryz.f229.name,by decide,Tryz.func229.trans (bz Z (by kernel_rfl))⟩
 f21:=⟨Tryz.f230.name,by decide,Tryz.func230.trans (bz Z (by kernel_rfl))⟩
 f22:=⟨Tryz.f231.name,by decide,Tryz.func231.trans (bz Z (by kernel_rfl))⟩
 f23:=⟨Tryz.f232.name,by decide,Tryz.func232.trans (bz Z (by kernel_rfl))⟩
 f24:=⟨Tryz.f233.name,by decide,Tryz.func233.trans (bz Z (by kernel_rfl))⟩
 f25:=⟨Tryz.f234.name,by decide,Tryz.func234.trans (bz Z (by kernel_rfl))⟩
 f26:=⟨Tryz.f235.name,by decide,Tryz.func235.trans (bz Z (by kernel_rfl))⟩
 f27:=⟨Tryz.f236.name,by decide,Tryz.func236.trans (bz Z (by kernel_rfl))⟩
 f28:=Tryz.func200.trans (bz Z (by kernel_rfl))
 f29:=Tryz.func201.trans (bz Z (by kernel_rfl))
 f46:=⟨Tryz.f269.name,by decide,Tryz.func269.trans (bz Z (by kernel_rfl))⟩
 f47:=Tryz.func243.trans (bz Z (by kernel_rfl))
 f48:=Tryz.func244.trans (bz Z (by kernel_rfl))
 f49:=⟨Tryz.f270.name,by decide,Tryz.func270.trans (bz Z (by kernel_rfl))⟩
 f50:=⟨Tryz.f271.name,by decide,Tryz.func271.trans (bz Z (by kernel_rfl))⟩
 f57:=⟨Tryz.f282.name,by decide,Tryz.func282.trans (bz Z (by kernel_rfl))⟩
 t0:=Tryz.underlying0
 a0:=Tryz.isAgg0
 z0:=Tryz.sizeOf0
 v0:=Tryz.zeroValue0
 t3:=Tryz.underlying3
 a3:=Tryz.isAgg3
 z3:=Tryz.sizeOf3
 v3:=Tryz.zeroValue3
 t4:=Tryz.underlying4
 a4:=Tryz.isAgg4
 z4:=Tryz.sizeOf4
 v4:=Tryz.zeroValue4
 t5:=Tryz.underlying5
 a5:=Tryz.isAgg5
 z5:=Tryz.sizeOf5
 v5:=Tryz.zeroValue5
 t9:=Tryz.underlying9
 a9:=Tryz.isAgg9
 z9:=Tryz.sizeOf9
 v9:=Tryz.zeroValue9
 t22:=Tryz.underlying32
 a22:=Tryz.isAgg32
 z22:=Tryz.sizeOf32
 v22:=Tryz.zeroValue32
 t25:=Tryz.underlying172
 a25:=Tryz.isAgg172
 z25:=Tryz.sizeOf172
 v25:=Tryz.zeroValue172
 t39:=Tryz.underlying183
 a39:=Tryz.isAgg183
 z39:=Tryz.sizeOf183
 v39:=Tryz.zeroValue183
 t45:=Tryz.underlying202
 a45:=Tryz.isAgg202
 z45:=Tryz.sizeOf202
 v45:=Tryz.zeroValue202
 t46:=Tryz.underlying203
 a46:=Tryz.isAgg203
 z46:=Tryz.sizeOf203
 v46:=Tryz.zeroValue203
 t50:=Tryz.underlying153
 a50:=Tryz.isAgg153
 z50:=Tryz.sizeOf153
 v50:=Tryz.zeroValue153
 t53:=Tryz.underlying209
 a53:=Tryz.isAgg209
 z53:=Tryz.sizeOf209
 v53:=Tryz.zeroValue209
 t55:=Tryz.underlying211
 a55:=Tryz.isAgg211
 z55:=Tryz.sizeOf211
 v55:=Tryz.zeroValue211
 t66:=Tryz.underlying234
 a66:=Tryz.isAgg234
 z66:=Tryz.sizeOf234
 v66:=Tryz.zeroValue234
 t70:=Tryz.underlying175
 a70:=Tryz.isAgg175
 z70:=Tryz.sizeOf175
 v70:=Tryz.zeroValue175
 t76:=Tryz.underlying254
 a76:=Tryz.isAgg254
 z76:=Tryz.sizeOf254
 v76:=Tryz.zeroValue254
 t77:=Tryz.underlying255
 a77:=Tryz.isAgg255
 z77:=Tryz.sizeOf255
 v77:=Tryz.zeroValue255}
end Go.Proofs
