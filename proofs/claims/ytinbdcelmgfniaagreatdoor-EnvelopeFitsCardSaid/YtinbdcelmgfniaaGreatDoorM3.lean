/- Part 3 of what the proofs stand on: plain functions of the program, and that they are its functions. -/
import Derived.Test.YtinbdcelmgfniaaGreatDoorM2
import Derived.KernelRfl
import Derived.Test.YtinbdcelmgfniaaGreatDoorProg
import Derived.Test.YtinbdcelmgfniaaGreatDoorM1
import Derived.Shelf.Small.Strs
import Derived.Laws.OwnMore
import Derived.OneCell
import Derived.Deep.DeepAppendRoom
import Derived.Deep.Onto
import Derived.ArgAppend
import Derived.Deep.RegionLaw
import Derived.Laws.CopyOwn
import Derived.Lib.AppendZerosOnto
import Derived.Lib.AppendZeros
import Derived.Lib.Overlaps
import Derived.Laws.Externs
import Derived.Deep.DeepCutAuto
import Derived.Handy
import Derived.IntWalk
set_option linter.unusedVariables false
set_option linter.unusedSimpArgs false
noncomputable section
namespace Go.AmZ
open Go Go.RowKit Go.GxZ
section
variable {α:Type}{N:Nat×Nat}{m:Mp}{E:Env}{τ:TS}{tm:List AV}{σ:St}{K:KT α}{r:α}{p:Option (AV×Option St)}{c:TC}{C:Cfg}
theorem qQm{d:Option TD}{op:BinOp}{x y:TV}{x' f:AV}{n:TV->Option α}(i:OK m x x')(g:OK m y f)(h:qOG d op x y n=some r):
  ∃z v,n z=some r/\OK m z (.v v)/\((∃a b,x'=.v (.bool a)/\f=.v (.bool b)/\qwS d=true/\((op=.eql/\v=.bool (Q7 a b))\/(op=.neq/\v=.bool (qg (Q7 a b)))))\/∃a b,x'=.v a/\f=.v b/\(∀p q,¬ (a=.bool p/\b=.bool q))/\qsI op a b=some v):=by
 unfold qOG at h;split at h
 .rename_i k a t b;cases i;cases g;split at h
  .let⟨e,c⟩:=qxZ h;exact⟨_,_,c,rfl,.inr ⟨_,_,rfl,rfl,by simp,by simp only[qsI,e]⟩⟩
  .let⟨e,c⟩:=qxZ h;exact⟨_,_,c,rfl,.inr ⟨_,_,rfl,rfl,by simp,by simp only[qsI,e]⟩⟩
  .rename_i s o;split at h<;>try cases h
   rename_i u;let⟨z,v,e,c,l⟩:=qQ2 (m:=m) h;grind [qsI]
 .cases i;cases g;let⟨z,v,e,c,l⟩:=qQ1 (m:=m) h;exact⟨z,v,e,l,.inr ⟨_,_,rfl,rfl,by simp,c⟩⟩
 .cases i;cases g;split at h<;>try cases h
  .rename_i j;exact⟨_,_,h,rfl,.inl ⟨_,_,rfl,rfl,j,.inl ⟨rfl,rfl⟩⟩⟩
  .rename_i j;exact⟨_,_,h,rfl,.inl ⟨_,_,rfl,rfl,j,.inr ⟨rfl,rfl⟩⟩⟩
 .cases h
theorem qGS{d:Option TD}(h:qF7 d=true):∃a b c z,d=some ⟨a,b,c,z,.ptr⟩:=by
 unfold qF7 at h;grind
theorem qLl{x y:TV}{x' d:AV}(c:OK m x x')(a:OK m y d){b:Bool}(h:qJj x y=some b):
  (b=true/\x'=.v (.pointer none)/\d=.v (.pointer none))\/(b=false/\qrP x'=true/\d=.v (.pointer none)):=by
 unfold qJj at h;split at h<;>cases h
 .exact .inl ⟨rfl,c.2,a.2⟩
 .obtain⟨_,rfl⟩:=c;exact .inr ⟨rfl,rfl,a.2⟩
 .let⟨R,_,_,_,e,_⟩:=c;obtain⟨r,j,f,rfl⟩|⟨ds,rfl⟩:=e<;>exact .inr ⟨rfl,rfl,a.2⟩
 .obtain⟨ds,rfl,_⟩:=c;exact .inr ⟨rfl,rfl,a.2⟩
theorem qDu:∀(a:List (List AV)) (l:List Int),zl (qL (.int .u8)) a=some l->qs1 a=some (Jb l)
 |[],l,h=>by cases h;rfl
 |e::a,l,h=>by
   simp only[zl]at h;split at h<;>try cases h
   rename_i v c;split at h<;>cases h;rename_i vs b;have:=qDu a vs b
   have d:e=[.v (.int .u8 v)]:=by
    have c:JJ .u8 e=some (v,[]):=qR.1 c;unfold JJ at c;grind
   subst d;simp only[qs1,qJT,this];rfl
theorem qGD{d:Option TD}(h:qwS d=true):∃a b c z,d=some ⟨a,b,c,z,.bool⟩:=by
 unfold qwS at h;grind
theorem qEn(E:Env)(tm:List AV)(a:Rel N m E τ tm σ):∀l:List (Nat×Operand),(l.map λ p=>(p.1,evT E p.2)).map (·.1)=(l.map λ p=>(p.1,aev tm p.2)).map (·.1)/\OKL m ((l.map λ p=>(p.1,evT E p.2)).map (·.2)) ((l.map λ p=>(p.1,aev tm p.2)).map (·.2))
 |[]=>⟨rfl,rfl⟩
 |x::l=>⟨by simp,⟨_,_,rfl,a.ev x.2,(qEn E tm a l).2⟩⟩
theorem qEL(d:Rel N m E τ tm σ){id a e:Nat}{i:Int}{cs:List TV}{o:Nat}{y:AV}{R:yk}(s:OK m (.rpt id a e i cs o) y)(h:τ.rw[id]?=some R)(u:R.ver=a)(t:R.sv=e):
  (∃r j ds Q,y=.rpt r j o Q.ver/\m.r id=some r/\i=((j:Nat):Int)/\σ.rw[r]?=some Q/\Q.c[j]?=some ds/\OKL m cs ds/\j<R.l.length/\Q.ver=m.v id/\Q.k=R.τ.size/\zl (qL R.τ) Q.c=some R.l/\Q.fz<=Q.c.length/\(R.sh=false->Q.fz=0/\Q.off=false))\/
  ∃ds,y=.ept ds o/\OKL m cs ds/\R.sh=true:=by
 let⟨R',n,_,_,_,w⟩:=s;rw[d.rw,h]at n;cases n;have:=d.rows id R (by rw[d.rw];exact h);obtain⟨r,j,ds,b,g,H,p,f,G⟩|⟨ds,b,g,p,f⟩:=qQV (w u) t
 .rw[b]at this;let⟨Q,F,D,C,B,A,z,x⟩:=this;grind
 .rw[b]at this;refine .inr ⟨ds,g,f,?_⟩;cases q:R.sh with
  |true=>rfl
  |false=>
    have I:=this q;grind
theorem qHR{b:Type}(f:b->AV):∀(l:List (Nat×b)) (n:Nat),((l.zipIdx n).all λ p=>decide (p.1.1=p.2))=true->(∀q∈l,True)->∀P:AV->Bool,(∀q∈l,P (f q.2)=true)->
  (((l.map λ p=>(p.1,f p.2)).zipIdx n).all λ p=>decide (p.1.1=p.2)&&P p.1.2)=true
 |[],n,_,_,P,_=>rfl
 |a::l,n,h,_,P,c=>by
   simp only[vH,wX,wc,wk]at h |-
   exact⟨⟨h.1,c a (wh ..)⟩,qHR f l (n+1) h.2 (λ _ _=>trivial) P λ q d=>c q (we _ d)⟩
theorem qua(e:yW m σ){a:Ty}{E:Env}{tm:List AV}(d:Rel N m E τ tm σ):∀{l:List (Nat×Operand)}{vs:List (Val a)},qsU m.rw a (l.map λ p=>evT E p.2)=some vs->
  ∀p∈l,(cellsOf (aev tm p.2)).length=a.size/\((cellsOf (aev tm p.2)).all λ x=>qv (qY σ.rw x))=true
 |[],vs,h,p,b=>by cases b
 |q::l,vs,h,p,b=>by
   simp only[wk,qsU]at h;split at h<;>try cases h
   rename_i v f;split at h<;>cases h;rename_i c;obtain rfl|b:=wv.1 b
   .have:=(qhd e f (d.ev p.2)).2;let⟨pre,j,i,g,_⟩:=yc a (qR.1 this);grind
   .exact qua e d c p b
theorem qNX(y:List UInt8)(l h:Int):(⟨(qao y l h).toArray⟩:ByteArray)=qFv ⟨y.toArray⟩ l.toNat h.toNat:=by
 unfold qao qFv;rw[ByteArray.ext_iff];simp[ByteArray.data_extract,List.drop_take]
theorem qG4{x:TV}{y:AV}(h:OK m x y)(b:(jJ x).all qmW=true):OKL m (jJ x) (cellsOf y)/\(cellsOf y).all isC=true/\∀z∈cellsOf y,rsC z=[]:=by
 have a:(jJ x).all qiG=true:=by
  rw[ww]at b |-
  intro z c;have:=b z c;cases z<;>first|rfl|(cases this)
 let⟨d,e⟩:=h.cells a;refine⟨d,e,λ z c=>?_⟩;have:=qjw d b;grind [List.flatMap_eq_nil_iff]
theorem qnF{y:AV}(h:rsC y=[])(a:qv (qY σ.rw y)=true):qv y=true:=by
 cases y<;>first|rfl|exact a|(simp[rsC]at h)
theorem qQY{tm:List AV}{a b:Operand}(h:qMF a b=true):aev tm a=aev tm b:=by
 unfold qMF at h;grind [Nat.eq_of_beq_eq_true]
def LvE(x y:AV):Prop:=x=y\/∃k a n b,x=.sl k a (n+1)/\y=.sl k a (b+1)
inductive LvL:List AV->List AV->Prop
 |nil:LvL [] []
 |cons {x y:AV}{xs ys:List AV}:LvE x y->LvL xs ys->LvL (x::xs) (y::ys)
theorem LvE.v{x:Value}{y:AV}(h:LvE (.v x) y):y=.v x:=by
 obtain rfl|⟨_,_,_,_,h,_⟩:=h
 .rfl
 .cases h
theorem LvE.dlist{a:Ty}{x y:AV}(h:LvE x y){l:List (Val a)}(b:dlist a x=some l):dlist a y=some l:=by
 obtain rfl|⟨_,_,_,_,rfl,rfl⟩:=h
 .exact b
 .exact b
theorem qm2:∀(a:Ty) {cs cs':List AV}{v:Val a}{r:List AV},LvL cs cs'->yJ a cs=some (v,r)->∃j,LvL r j/\yJ a cs'=some (v,j)
 |.int k,cs,cs',v,r,c,h=>by
   change JJ k cs=_ at h;unfold JJ at h;split at h<;>try cases h
   split at h<;>cases h;rename_i o;cases c with
   |cons d f=>
     have:=d.v;subst this;exact⟨_,f,by show JJ _ _=_;simp only[JJ,o]⟩
 |.bool,cs,cs',v,r,c,h=>by
   change qdr cs=_ at h;unfold qdr at h;split at h<;>cases h;cases c with
   |cons d f=>
     have:=d.v;subst this;exact⟨_,f,rfl⟩
 |.str,cs,cs',v,r,c,h=>by
   change qdp cs=_ at h;unfold qdp at h;split at h<;>cases h;cases c with
   |cons d f=>
     have:=d.v;subst this;exact⟨_,f,rfl⟩
 |.term,cs,cs',v,r,c,h=>by
   change JX cs=_ at h;unfold JX at h;split at h<;>try cases h
   split at h<;>cases h;rename_i g;obtain⟨k,n,s,x,l,p,d,rfl⟩:=qjO g;cases p;cases c with
   |cons A c=>cases c with
     |cons z c=>cases c with
       |cons y c=>cases c with
         |cons w c=>
           have:=A.v;subst this;have:=z.v;subst this;have:=y.v;subst this;rw[<-qld]at d;have d:=w.dlist d;rw[qld]at d;exact⟨_,c,by show JX _=_;simp only[JX,Jh,d]⟩
 |.list a,cs,cs',v,r,c,h=>by
   change yL _ cs=_ at h;unfold yL at h;split at h<;>try cases h
   split at h<;>cases h;rename_i g;cases c with
   |cons d f=>
     have g:dlist a _=some v:=g;have g:jp a.size (λ e=>full (yJ a e)) _=some v:=d.dlist g;exact⟨_,f,by show yL _ _=_;simp only[yL,g]⟩
 |.pair a b,cs,cs',v,r,c,h=>by
   let⟨B,d,f⟩:=QC.1 h;let⟨m,u,t⟩:=qm2 a c d;let⟨i,g3,q⟩:=qm2 b u f;exact⟨i,g3,QC.2 ⟨_,t,q⟩⟩
 |.one a,cs,cs',v,r,c,h=>qm2 a c h
 |.map a b,cs,cs',v,r,c,h=>by
   change yL _ cs=_ at h;unfold yL at h;split at h<;>try cases h
   split at h<;>cases h;rename_i g;cases c with
   |cons d f=>
     have D:=d;obtain rfl|⟨k,E,n,C,rfl,rfl⟩:=d
     .exact⟨_,f,by show yL _ _=_;simp only[yL,g]⟩
     .grind [qc4]
theorem qMe:∀{cs:List AV},(∀y∈cs,qv y=true)->LvL (cs.map (qY σ.rw)) cs
 |[],_=>.nil
 |y::cs,h=>by
   refine .cons ?_ (qMe λ z a=>h z (we _ a));have:=h y (wh ..);cases y with
   |v x=>exact .inl rfl
   |sl k b f=>
     cases f with
     |zero=>exact .inl rfl
     |succ f=>exact .inr ⟨k,b,0,f,rfl,rfl⟩
   |mc=>exact .inl rfl
   |_=>cases this
theorem qo9{a:Ty}{cs:List AV}{v:Val a}(b:∀y∈cs,qv y=true)(h:qL a (cs.map (qY σ.rw))=some v):qL a cs=some v:=by
 let⟨e,d,c⟩:=qm2 a (qMe b) (qR.1 h);cases d;exact qR.2 c
theorem quu{m:Mp}:∀{cs:List TV}{l:List Bool}{ds:List AV},qon cs=some l->OKL m cs ds->ds=l.map λ b=>AV.v (.bool b)
 |[],l,ds,h,c=>by cases h;cases c;rfl
 |x::cs,l,ds,h,⟨y,r,f,e,d⟩=>by
   subst f;cases x<;>simp only[qon]at h<;>try (cases h;done)
   rename_i b;split at h<;>cases h;rename_i g a;cases e;rw[quu a d];rfl
theorem qAP{m:Mp}:∀(l:List Bool),OKL m (l.map .b) (l.map λ b=>AV.v (.bool b))
 |[]=>rfl
 |b::l=>⟨_,_,rfl,rfl,qAP l⟩
theorem qGl:∀(l:List Bool) (i:Nat) (v:Bool) (j:Nat),qp1 l ((i+j:Nat):Int) v j=l.set i v
 |[],_,_,_=>rfl
 |e::l,0,v,j=>by
   have h:∀(l:List Bool) (i j:Nat),i<j->qp1 l ((i:Nat):Int) v j=l:=by
    intro l
    induction l with
    |nil=>intro _ _ _;rfl
    |cons e l a=>
      intro i j b;rw[qp1,a i (j+1) (by omega)];have:ieq ((i:Nat):Int) ((j:Nat):Int)=false:=by unfold ieq;rw[beq_eq_false_iff_ne];omega
      rw[this];rfl
   grind [qp1,ieq]
 |e::l,i+1,v,j=>by
   rw[qp1,show((i+1+j:Nat):Int)=((i+(j+1):Nat):Int) by omega,qGl l i v (j+1)];grind [ieq]
theorem qBu(s:List UInt8):zl (qL (.int .u8)) (qcT ⟨s.toArray⟩)=some (qcJ s):=by
 have:qcT ⟨s.toArray⟩=(qcJ s).map (qe (.int .u8)):=by
  unfold qcT qcJ;rw[xe];rfl
 grind [qb1,j9]
theorem qoM{m:Mp}{cs:List TV}{ds:List AV}(h:OKL m cs ds)(g:qxh cs=true):noMc ds=true:=by
 match cs,h with
 |[],h=>cases h;rfl
 |[x],⟨y,r,e,d,j⟩=>
   cases j;subst e;cases y with
   |mc w z t ks vs=>
     exfalso;cases x with
     |i|b|s=>cases d
     |c=>cases d.2
     |nil=>cases d
     |sl a l v=>cases d.1
     |row=>obtain⟨R,_,_,e|⟨k,A,n,e⟩|⟨r,lo,n,o,f,e⟩,_⟩:=d<;>cases e
     |ptr=>cases d.2
     |pti=>cases d.2.2
     |rpt=>obtain⟨R,_,_,_,⟨r,i,o,e⟩|⟨ds,e⟩,_⟩:=d<;>cases e
     |ept|fn|agg|tup=>let⟨ds,e,_⟩:=d;cases e
     |dead=>cases g
     |mp=>cases d.2
     |mc=>cases g
   |_=>rfl
 |x::x'::xs,⟨y,r,e,_,⟨q,u,p,_,_⟩⟩=>subst e;subst p;cases y<;>rfl
theorem qx2{cs:List TV}{l:List Bool}(h:qon cs=some l):qxh cs=true:=by
 match cs with
 |[]=>rfl
 |[x]=>cases x<;>first|rfl|cases h
 |x::x'::xs=>cases x<;>rfl
theorem qE0:∀{a:Ty},a.agg=false->a.size=1
 |.int _,_|.bool,_|.str,_|.list _,_|.map _ _,_=>rfl
 |.term,h|.pair _ _,h|.one _,h=>by cases h
theorem qne{c:TC}{t:Nat}{d a:Ty}(h:qtd c t=some (d,a)):∃s b g z e,c.ty t=some ⟨s,b,g,z,.map (kcT d) d.agg a.agg a.size e⟩/\qa9 d=true:=by
 unfold qtd at h;split at h<;>try cases h
 rename_i s b g z l m k j e f p o n;split at h<;>cases h;rename_i i;simp only[wc,decide_eq_true_eq]at i;grind [qfo]
theorem qMJ{c:TC}{t:Nat}{a:Ty}{z:Val a}{s b:Nat}{g:Bool}{l:List Value}{p:List KC}{q n:Bool}{k:Nat}{d:List Value}(r:c.ty t=some ⟨s,b,g,l,.map p q n k d⟩)(h:qMY c t a=some z):(d.all zk=true/\d.length=k)/\qL a (d.map .v)=some z:=by
 unfold qMY at h;rw[r]at h;simp only at h;split at h<;>try cases h
 rename_i j;simp only[wc,decide_eq_true_eq]at j;refine⟨j,?_⟩;have i:yW mp0 ⟨[],[],[],[]⟩:=λ id R h=>by cases h
 let⟨u,e,o⟩:=qdi (m:=mp0) i a (qfO h) (qfP j.1);cases o;have f:(d.map AV.v).map (qY [])=d.map AV.v:=by rw[xe];exact kW λ _ _=>rfl
 have e:yJ a ((d.map AV.v).map (qY []))=_:=e;rw[f]at e;exact qR.2 e
theorem qru(n:Rel N m E τ tm σ){c a:Ty}{x:TV}{y:AV}(o:OK m x y){b:Nat}{l:List (Val c×Val a)}(h:qwD τ c a x=some (b,l)):b<m.nb/\∃ks vs,qpf σ (kcT c) c.agg a.agg y=some (m.b b,ks,vs)/\qbH (qL c) (qL a) ks vs=some l:=by
 unfold qwD at h;split at h<;>try cases h
 rename_i t;split at h<;>try cases h
 rename_i i u s g;split at h<;>cases h;rename_i f;unfold qCX at f;split at f<;>cases f;rename_i e;obtain⟨rfl,rfl⟩:=e;let⟨q,p⟩:=o;obtain⟨ds,g3,y,r,rfl,k,d⟩:=n.box _ _ g;cases d;obtain⟨ks,vs,rfl,j⟩:=qc4 k;have g:∀x,Q7 x x=true:=λ x=>by cases x<;>rfl
 exact⟨q,ks,vs,by rw[p];simp only[qpf,g3,decide_true,g,xa],j⟩
theorem qH7{m:Mp}{a:Ty}{v:Val a}{ds:List AV}(h:qL a ds=some v):OK m (qlQ a v) (QB a.agg ds):=by
 have d:=Qg (m:=m) h
 have one:∀x,J9 a v=[x]->∃y,ds=[y]/\OK m x y:=λ x f=>by
  rw[f]at d;let⟨y,r,e,i,g⟩:=d;cases g;exact⟨y,e,i⟩
 cases a with
 |term|pair a b|one a=>exact⟨ds,rfl,d⟩
 |int k|bool|str|list a|map a b=>obtain⟨y,rfl,c⟩:=one _ rfl;exact c
theorem qlc:∀(d:Ty),qa9 d=true->∀(v:Val d) (c:List KC) (r:List AV),yn (kcT d++c) (qe d v++r)=yn c r
 |.int k,_,v,c,r=>by simp[kcT,qe,yn]
 |.bool,_,v,c,r|.str,_,v,c,r=>rfl
 |.pair a b,h,v,c,r=>by
   simp only[qa9,wc]at h;rw[kcT,qe,wn,wn,qlc a h.1,qlc b h.2]
 |.one a,h,v,c,r=>qlc a h v c r
 |.term,h,_,_,_|.list _,h,_,_,_|.map _ _,h,_,_,_=>by cases h
theorem qBe{a:Ty}(h:qa9 a=true)(v:Val a):yn (kcT a) (qe a v)=true:=by
 have:=qlc a h v [] []
 rwa [wy,wy]at this
theorem qlf:∀(d:Ty),qa9 d=true->∀{cs:List AV}{v:Val d}{r:List AV},yJ d cs=some (v,r)->cs=qe d v++r
 |.int k,_,cs,v,r,h=>by
   change JJ k cs=_ at h;unfold JJ at h;split at h<;>try cases h
   split at h<;>cases h;rename_i c;rw[of_decide_eq_true c];rfl
 |.bool,_,cs,v,r,h=>by
   change qdr cs=_ at h;unfold qdr at h;split at h<;>cases h;rfl
 |.str,_,cs,v,r,h=>by
   change qdp cs=_ at h;unfold qdp at h;split at h<;>cases h;simp_all [qe]
 |.pair a b,c,cs,v,r,h=>by
   simp only[qa9,wc]at c;let⟨g,f,e⟩:=QC.1 h;rw[qlf a c.1 f,qlf b c.2 e,qe,wn]
 |.one a,c,cs,v,r,h=>qlf a c h
 |.term,h,_,_,_,_|.list _,h,_,_,_,_|.map _ _,h,_,_,_,_=>by cases h
theorem qH2{a:Ty}(d:qa9 a=true)(q:yW m σ){x:TV}{y:AV}{v:Val a}(h:qcu m.rw a x=some v)(s:OK m x y):qpD (kcT a) a.agg y=true/\cellsOf y=qe a v:=by
 let⟨j,A⟩:=qhd q h s;have i:=qlf a d (qR.1 A);rw[wy]at i;have w:=qvX _ _ (qBe d v)
 have p:cellsOf y=qe a v:=by
  rw[<-i]
  have b:∀c∈cellsOf y,qY σ.rw c=c:=λ c u=>by
   have t:qY σ.rw c∈qe a v:=by rw[<-i];exact wC.2 ⟨c,u,rfl⟩
   have e:=w _ t;cases c with
   |sl k D f=>cases e
   |rs r lo n B f=>
     exfalso;simp only[qY]at e;cases o:σ.rw[r]? with
     |none=>rw[o]at e;cases e
     |some R=>
       rw[o]at e;simp only at e;cases z:qmJ R R.k lo n B<;>rw[z]at e<;>cases e
   |_=>rfl
  exact((kW (g:=id) b).trans (List.map_id _)).symm
 refine⟨?_,p⟩;unfold qpD;rw[p,qBe d v,xg];unfold Ql at j;split at j
 .rename_i C
  have e:QT (jk σ.rw y)=QT y:=by
   cases l:QT y with
   |false=>exact(qpA σ.rw l).1
   |true=>cases y<;>first|rfl|cases l
  grind [qfo]
 .cases j
theorem qt2:∀(a b c d:List AV),a.length=b.length->jz (a++c) (b++d)=(jz a b&&jz c d)
 |[],[],c,d,_=>rfl
 |x::a,y::b,c,d,h=>by
   show(qfb x y&&jz (a++c) (b++d))=(qfb x y&&jz a b&&jz c d);rw[qt2 a b c d (by simpa using h),Bool.and_assoc]
 |[],_::_,_,_,h|_::_,[],_,_,h=>by cases h
theorem qoF:∀(c:Ty),qa9 c=true->∀(a b:Val c),jz (qe c a) (qe c b)=veq c a b
 |.int k,_,a,b|.bool,_,a,b=>xg _
 |.str,_,a,b=>(xg _).trans (qHm a b)
 |.pair c τ,h,a,b=>by
   simp only[qa9,wc]at h;rw[qe,qe,qt2 _ _ _ _ (by rw[yj,yj]),qoF c h.1,qoF τ h.2];rfl
 |.one c,h,a,b=>qoF c h a b
 |.term,h,_,_|.list _,h,_,_|.map _ _,h,_,_=>by cases h
theorem qjS{c b:Type}{f:List AV->Option c}{g:List AV->Option b}{ks vs:List (List AV)}{p:c×b}{l:List (c×b)}:qbH f g ks vs=some (p::l)↔∃k a v vs',ks=k::a/\vs=v::vs'/\f k=some p.1/\g v=some p.2/\qbH f g a vs'=some l:=by
 constructor
 .intro h;cases ks<;>cases vs<;>try (cases h;done)
  simp only[qbH]at h;grind
 .rintro⟨k,a,v,vs',rfl,rfl,i,e,d⟩;simp only[qbH,i,e,d]
theorem qFf{b a:Ty}(c:qa9 b=true):∀{l:List (Val b×Val a)}{ks vs:List (List AV)},qbH (qL b) (qL a) ks vs=some l->∀(k:Val b) (i:Nat),
  (JU (qe b k) ks i=none/\Qy (veq b) l k=none)\/∃j v p,JU (qe b k) ks i=some (i+j)/\vs[j]?=some v/\qL a v=some p/\Qy (veq b) l k=some p
 |[],ks,vs,h,k,i=>by
   let⟨d,_⟩:=qmi h;have:ks=[]:=wi d;subst this;exact .inl ⟨rfl,rfl⟩
 |p::l,ks,vs,h,k,i=>by
   obtain⟨s,m,v,vs',rfl,rfl,d,o,n⟩:=qjS.1 h;have e:=qlf b c (qR.1 d);rw[wy]at e;subst e;simp only[JU,qoF b c,Qy];cases t:veq b k p.1 with
   |true=>exact .inr ⟨0,v,p.2,rfl,rfl,o,rfl⟩
   |false=>
     obtain⟨g,f⟩|⟨j,w,q,g,f,g3,r⟩:=qFf c n k (i+1)
     .exact .inl ⟨g,f⟩
     .exact .inr ⟨j+1,w,q,by show JU _ _ _=_;rw[g];congr 1;omega,f,g3,r⟩
theorem qIo{b a:Ty}(o:qa9 b=true)(k:Val b){p:Val a}{m:List AV}(c:qL a m=some p):∀{l:List (Val b×Val a)}{ks vs:List (List AV)},qbH (qL b) (qL a) ks vs=some l->∀(i:Nat),
  match JU (qe b k) ks i with
  |none=>qbH (qL b) (qL a) (ks++[qe b k]) (vs++[m])=some (qcb (veq b) l k p)
  |some j=>∃q,j=i+q/\qbH (qL b) (qL a) ks (vs.set q m)=some (qcb (veq b) l k p)
 |[],ks,vs,h,i=>by
   let⟨d,g⟩:=qmi h;have:ks=[]:=wi d;subst this;have:vs=[]:=wi g;subst this;show qbH _ _ [_] [_]=some [(k,p)];simp only[qbH,j9,c]
 |r::l,ks,vs,h,i=>by
   obtain⟨x,n,v,vs',rfl,rfl,d,g,t⟩:=qjS.1 h;have e:=qlf b o (qR.1 d);rw[wy]at e;have f:=qIo o k c t (i+1);subst e;simp only[JU,qoF b o,qcb];cases y:veq b k r.1 with
   |true=>exact⟨0,rfl,qjS.2 ⟨_,_,_,_,rfl,rfl,d,c,t⟩⟩
   |false=>
     simp only;cases s:JU (qe b k) n (i+1)with
     |none=>
       rw[s]at f;exact qjS.2 ⟨_,_,_,_,rfl,rfl,d,g,f⟩
     |some j=>
       rw[s]at f;let⟨q,w,u⟩:=f;exact⟨q+1,by omega,qjS.2 ⟨_,_,_,_,rfl,rfl,d,g,u⟩⟩
theorem qw1{t:Nat}{u k y:Operand}(R:C.ty=c.ty)(i:Rel N m E τ tm σ)(h:qs5 c E τ t u k y K=some r):Sim N m E τ tm σ K r (qcS C tm σ t u k y):=by
 unfold qs5 at h;split at h<;>try cases h
 rename_i d a S;split at h<;>try cases h
 rename_i b l G F;split at h<;>try cases h
 rename_i g v U Q;obtain⟨_,_,_,_,X,hd,n⟩:=qne S;obtain⟨I,ks,vs,T,H⟩:=qru i (i.ev u) G;obtain⟨e1,e2⟩:=qH2 n i.rows (by rw[i.rw];exact U) (i.ev k);obtain⟨w,L⟩:=qhd i.rows (by rw[i.rw];exact Q) (i.ev y);have A:=qtl F (i.ev y);have W:∀z∈cellsOf (aev tm y),rsC z=[]:=qnZ A
 have B:∀z∈cellsOf (aev tm y),qv z=true:=λ z Z=>by
  obtain⟨pre,o,_,Y,_⟩:=yc a (qR.1 L);grind [qnF]
 have s:=qo9 B L
 have P:qwY a.agg a.size (aev tm y)=true:=by
  unfold qwY;obtain⟨pre,o,J,_⟩:=yc a (qR.1 s);rw[wy]at o
  have V:QT (aev tm y)=a.agg:=by
   unfold Ql at w;split at w
   .rename_i V
    have e:QT (jk σ.rw (aev tm y))=QT (aev tm y):=by
     cases x:QT (aev tm y)with
     |false=>exact(qpA σ.rw x).1
     |true=>cases O:aev tm y<;>rw[O]at x<;>first|rfl|cases x
    grind [qfo]
   .cases w
  grind [Q7]
 have f:=qIo n g s H 0
 have p:qbH (qL d) (qL a) (qhM ks vs (qe d g) (cellsOf (aev tm y))).1 (qhM ks vs (qe d g) (cellsOf (aev tm y))).2=some (qcb (veq d) l g v):=by
  unfold qhM;cases M:JU (qe d g) ks 0 with
  |none=>rw[M]at f;exact f
  |some j=>
    rw[M]at f;obtain⟨q,o,J⟩:=f;rw[wG]at o;subst o;exact J
 have D:qcS C tm σ t u k y=some (.tup [],some {σ with bx:=σ.bx.set (m.b b) [.mc (kcT d) d.agg a.agg (qhM ks vs (qe d g) (cellsOf (aev tm y))).1 (qhM ks vs (qe d g) (cellsOf (aev tm y))).2],wr:=m.b b::σ.wr}):=by
  unfold qcS;grind
 exact .to h D (.refl m) (i.setBox I (cs:=[.mc d a (qcb (veq d) l g v)]) (ds:=[.mc (kcT d) d.agg a.agg (qhM ks vs (qe d g) (cellsOf (aev tm y))).1 (qhM ks vs (qe d g) (cellsOf (aev tm y))).2]) ⟨_,_,rfl,qFg.trans p,rfl⟩ _) ⟨_,rfl,rfl⟩
theorem qNS{op:Op}(D:C.ty=c.ty)(A:Rel N m E τ tm σ)(h:Qe c E τ op K=some r):Sim N m E τ tm σ K r (qc C tm σ op):=by
 cases op with
 |move x=>exact .same A h rfl (A.ev x)
 |assign x=>exact .same A h rfl (A.ev x)
 |pick x a b=>
   simp only[Qe]at h;split at h<;>try cases h
   rename_i y L;have P:=A.ev x;rw[L]at P;cases y with
   |true=>exact .same A h (by simp only[qc,show aev tm x=_ from P]) (A.ev a)
   |false=>exact .same A h (by simp only[qc,show aev tm x=_ from P]) (A.ev b)
 |alloc e=>
   simp only[Qe]at h;split at h<;>try cases h
   rename_i d G;split at h<;>try cases h
   rename_i hz;obtain⟨m',M,O,S⟩:=A.alloc (qfP (m:=m) hz);exact .to h (by simp only[qc,D,G,hz]) M O S
 |box e x=>
   simp only[Qe]at h;split at h<;>try cases h
   rename_i d G;split at h<;>try cases h
   rename_i hz;obtain⟨H,I⟩:=(A.ev x).cells hz;obtain⟨m',M,O,S⟩:=A.alloc H;exact .to h (by simp only[qc,D,G,I]) M O S
 |build t parts=>
   simp only[Qe]at h;split at h<;>try cases h
   rename_i _ _ _ z fs G;split at h<;>try cases h
   rename_i hz;split at h<;>try cases h
   rename_i cs U;obtain⟨ds,M,O⟩:=qEd (qEn E tm A parts.toList) (qfP (m:=m) hz) U;exact .same A h (by simp only[qc,D,G,hz];erw [M]) ⟨ds,rfl,O⟩
 |buildSlice t n parts=>
   simp only[Qe]at h;split at h<;>try cases h
   rename_i _ _ _ _ _ k _ _ a G F;split at h<;>try cases h
   rename_i hb;simp only[wc,decide_eq_true_eq]at hb;obtain⟨⟨⟨⟨hk,hn⟩,a9⟩,bf⟩,hz⟩:=hb;split at h<;>try cases h
   rename_i vs au;rw[<-A.rw]at au;have hq:=A.rows;have ao:=qua hq A au;have ar:=qC1 hq au (by have:=A.evs (parts.toList.map (·.2));simpa[xe,xW]using this)
   have a8:qiX k n σ.rw (parts.toList.map λ p=>(p.1,aev tm p.2))=true:=by
    unfold qiX;have M:(parts.toList.map λ p=>(p.1,aev tm p.2)).length=n:=by simpa using hn
    simp only[M,decide_true,a9,bf,wV,xg]
    have:=qHR (aev tm) parts.toList 0 hz (λ _ _=>trivial) (λ x=>decide ((cellsOf x).length=k)&&((cellsOf x).all λ y=>qv (qY σ.rw y)))
     λ q a7=>by obtain⟨a1,a2⟩:=ao q a7;rw[a1,a2,hk];simp
    grind
   have ay:∀m':Mp,OK m' (.sl a vs 2) (.sl k (parts.toList.map λ p=>(cellsOf (aev tm p.2)).map (qY σ.rw)) 2):=by
    intro m';refine⟨?_,wa _⟩;subst hk;show jp _ _ (.sl _ _ 2)=_;grind [jp,zx,decide_true,List.map_map,Function.comp_def]
   have aJ:qc C tm σ (.buildSlice t n parts)=match parts.toList.flatMap λ p=>rsA (aev tm p.2)with
     |[]=>some (.sl k (parts.toList.map λ p=>(cellsOf (aev tm p.2)).map (qY σ.rw)) 2,none)
     |r::l=>some (.sl k (parts.toList.map λ p=>(cellsOf (aev tm p.2)).map (qY σ.rw)) 2,some {σ with rw:=frz σ.rw (r::l),wrr:=(r::l)++σ.wrr}):=by
    simp only[qc,D,G,a8];rfl
   rw[aJ];split at h
   .rename_i az
    have aP:parts.toList.flatMap (λ p=>rsA (aev tm p.2))=[]:=by
     have:=quU (xs:=parts.toList.map λ p=>evT E p.2) (ys:=parts.toList.map λ p=>aev tm p.2) (by rw[wah];exact az) (by have:=A.evs (parts.toList.map (·.2));simpa[xe,xW]using this)
     rwa [vh]at this
    rw[aP];exact .same A h rfl (ay m)
   .split
    .exact⟨_,some (shA τ),_,none,shM m,h,rfl,qge m,A.share rfl hq.sh,ay _,λ h=>by cases h⟩
    .exact .to h rfl (qge m) (A.share (σ':={σ with rw:=frz σ.rw _,wrr:=_}) rfl (hq.frz _ _)) (ay _)
 |load t a=>
   simp only[Qe]at h;split at h<;>try cases h
   rename_i d G;have B:=A.ev a;split at h<;>try cases h
   .rename_i b o F;rw[F]at B;obtain⟨_,B⟩:=B;split at h<;>try cases h
    rename_i cs U;split at h<;>try cases h
    rename_i aA;split at h<;>try cases h
    rename_i x P;obtain⟨ds,H,I⟩:=A.box b cs U;obtain⟨y,g3,Y⟩:=qg6 I P;exact .same A h (by simp only[qc,D,G,B,jI,H,qoM I aA,g3]) Y
   .rename_i cs o F;rw[F]at B;obtain⟨ds,B,I⟩:=B;split at h<;>try cases h
    rename_i x P;obtain⟨y,g3,Y⟩:=qg6 I P;exact .same A h (by simp only[qc,D,G,B,jI,g3]) Y
   .rename_i b i F;rw[F]at B;obtain⟨_,i0,B⟩:=B;split at h<;>try cases h
    rename_i cs U;split at h<;>try cases h
    rename_i l aF hl;obtain⟨v,J,h⟩:=JS h;obtain⟨_,J⟩:=qjM J;obtain⟨ds,H,I⟩:=A.box b cs U;have g3:ds[i.toNat]?=some (.v (.bool v)):=by rw[quu hl I,List.getElem?_map,J];rfl
    exact .same A h (y:=.v (.bool v)) (by simp only[qc,D,G,B,jI,H,qoM I (qx2 hl),aF,qc5,g3]) rfl
   .rename_i id T sv i cs o F;rw[F]at B;split at h<;>try cases h
    rename_i R V;split at h<;>try cases h
    rename_i al;split at h
    rotate_left
    .split at h<;>try cases h
     rename_i a4;obtain⟨v,J,h⟩:=JS h;split at h<;>try cases h
     rename_i x P;obtain⟨j0,J⟩:=qjM J;obtain⟨R',H,_,_,_,I⟩:=B;rw[A.rw,V]at H;cases H;have hg:=A.rows id R (by rw[A.rw];exact V);rcases I (wm al)with⟨r',j,W,z2,z0,z3,_⟩|⟨W,z3,_⟩
     .rw[W]at hg;obtain⟨Q,q1,q2,q3,q4,q5,q6,q7⟩:=hg;rw[z0,kL]at J;obtain⟨e,e1,e2⟩:=qhg q5 J;obtain⟨y,g3,Y⟩:=qg6 (Qg e2) P;have kl:qtk Q j (m.v id)=some e:=by unfold qtk;rw[if_pos q3];exact e1
      exact .same A h (by simp only[qc,D,G,z2,jI,q1,kl,g3]) Y
     .rw[W]at hg;have:=hg a4;grind
    rename_i a0;split at h<;>try cases h
    rename_i x P;rcases qEL A B V (wm al) (wm a0)with⟨r',j,ds,Q,Z,_,_,k2,k3,k4,_⟩|⟨ds,Z,k4,_⟩
    .obtain⟨y,g3,Y⟩:=qg6 k4 P;have kl:qtk Q j Q.ver=some ds:=by unfold qtk;rw[if_pos rfl];exact k3
     exact .same A h (by simp only[qc,D,G,Z,jI,k2,kl,g3]) Y
    .obtain⟨y,g3,Y⟩:=qg6 k4 P;exact .same A h (by simp only[qc,D,G,Z,jI,g3]) Y
 |store t a x=>
   simp only[Qe]at h;split at h<;>try cases h
   rotate_left
   .rename_i d b i G F;have B:=A.ev a;rw[F]at B;obtain⟨hb,i0,B⟩:=B;split at h<;>try cases h
    rename_i cs v U P;split at h<;>try cases h
    rename_i l hl am;obtain⟨aS,h⟩:=jY h;have aS:=of_decide_eq_true aS;have am:=wm am;obtain⟨ds,H,I⟩:=A.box b cs U;have ab:=A.ev x;rw[P]at ab;have ab:aev tm x=.v (.bool v):=ab;have aT:=quu hl I;have aB:i.toNat<l.length:=by omega
    have ah:ds.length=l.length:=by rw[aT,wE]
    have aL:qp1 l i v 0=l.set i.toNat v:=by
     have:=qGl l i.toNat v 0;grind
    have ai:ds.take i.toNat++(cellsOf (aev tm x)++ds.drop (i.toNat+d.size))=(qp1 l i v 0).map λ b=>AV.v (.bool b):=by
     rw[ab,am,aL,List.map_set,<-aT,vF,if_pos (by omega)];rfl
    have e1:(cellsOf (aev tm x)).length=d.size:=by rw[ab,am];rfl
    have e2:i.toNat+d.size<=ds.length:=by omega
    have k2:(cellsOf (aev tm x)).all isC=true:=by rw[ab];rfl
    exact .to h (by simp only[qc,D,G,B,H,qoM I (qx2 hl),e1,e2,k2,decide_true,xa];rfl) (.refl m) (A.setBox hb (ds:=ds.take i.toNat++(cellsOf (aev tm x)++ds.drop (i.toNat+d.size))) (by rw[ai];exact qAP _) _) ⟨_,rfl,rfl⟩
   .rename_i d id T sv i cs o G F;have B:=A.ev a;rw[F]at B;split at h<;>try cases h
    rename_i R V;split at h<;>try cases h
    rename_i hc;simp only[wc,decide_eq_true_eq,wM]at hc;obtain⟨⟨⟨⟨⟨c1,c2⟩,c3⟩,c4⟩,c5⟩,c6⟩:=hc;split at h<;>try cases h
    rename_i v J;rcases qEL A B V (wm c1) (wm c2)with⟨r',j,ds,Q,Z,ak,ki,k2,k3,k4,kj,kv,kk,kd,kf,ks⟩|⟨ds,Z,k4,ks⟩
    rotate_left
    .rw[c3]at ks;cases ks
    obtain⟨W,z2,z3⟩:=qG4 (A.ev x) c6;have aa:=qfO J;have ai:OKL m (cs.take o++(jJ (evT E x)++cs.drop (o+d.size))) (ds.take o++(cellsOf (aev tm x)++ds.drop (o+d.size))):=(k4.take o).append (W.append (k4.drop _));rw[<-A.rw]at aa;obtain⟨rs,p1,p2⟩:=qdi A.rows R.τ aa ai;cases p2
    have aN:∀y∈ds,qv y=true:=by
     obtain⟨w,_,hw⟩:=J0 kd k3;obtain⟨pre,M,_,S,_⟩:=yc R.τ (qR.1 hw);grind
    have ah:ds.length=R.τ.size:=by
     obtain⟨w,_,hw⟩:=J0 kd k3;obtain⟨pre,M,O,_⟩:=yc R.τ (qR.1 hw);grind
    have aY:∀y∈cellsOf (aev tm x),qv y=true:=by
     obtain⟨pre,M,_,S,_⟩:=yc R.τ p1;grind [List.mem_map_of_mem,qnF]
    have ar:qL R.τ (ds.take o++(cellsOf (aev tm x)++ds.drop (o+d.size)))=some v:=by
     have:qL R.τ ((ds.take o++(cellsOf (aev tm x)++ds.drop (o+d.size))).map (qY σ.rw))=some v:=qR.2 p1
     exact qo9 (λ y L=>by
      rcases wj.1 L with L|L
      .exact aN y (wQ L)
      .rcases wj.1 L with L|L
       .exact aY y L
       .exact aN y (wP L)) this
    have aK:=qAG kd j ar;have aw:r'<σ.rw.length:=getElem?_lt k2;have bq:(cellsOf (aev tm x)).length=d.size:=by rw[W.len];exact c4
    have bm:o+d.size<=ds.length:=by rw[k4.len];exact c5
    have a5:qsY Q j o Q.ver d.size (cellsOf (aev tm x))=some {Q with c:=Q.c.set j (ds.take o++(cellsOf (aev tm x)++ds.drop (o+d.size)))}:=by
     unfold qsY
     have e1:(decide (Q.ver=Q.ver/\Q.fz<=j/\o+d.size<=Q.k/\(cellsOf (aev tm x)).length=d.size/\Q.off=false)&&(cellsOf (aev tm x)).all qv)=true:=by
      grind
     rw[e1,k3]
    have af:yF R.l i v=R.l.set j v:=by
     grind [yF]
    obtain⟨m',H,I,_⟩:=A.rowUpd (R2:=⟨R.τ,yF R.l i v,R.ver,R.sv+1,R.sh⟩) V (m.r id) (m.v id) (Q.c.set j (ds.take o++(cellsOf (aev tm x)++ds.drop (o+d.size)))) (wa _) (ke _)
     (λ _=>⟨by show(yF R.l i v).length=_;rw[af,wI],rfl,rfl,rfl,(λ h=>by have:R.sv+1=R.sv:=h;omega),(λ h=>by rw[ak]at h;cases h)⟩) (σ':={σ with rw:=σ.rw.set r' {Q with c:=Q.c.set j (ds.take o++(cellsOf (aev tm x)++ds.drop (o+d.size)))},wrr:=r'::σ.wrr}) rfl
     (by
      rw[ak];refine⟨{Q with c:=Q.c.set j (ds.take o++(cellsOf (aev tm x)++ds.drop (o+d.size)))},by show(σ.rw.set r' _)[r']?=_;rw[List.getElem?_set_self aw],rfl,kv,kk,?_,?_,ks⟩
      .show zl (qL R.τ) (Q.c.set j _)=some (yF R.l i v);rw[af];exact aK
      .show Q.fz<=(Q.c.set j _).length;rw[wI];exact kf)
     (λ aH aj M O S=>by
      have ad:=A.others V ak M O S;refine⟨λ F=>by rw[ak]at F;exact ad (kz F).symm,λ Q' aG=>?_⟩;show(σ.rw.set r' _)[aj]?=_;rw[List.getElem?_set_ne (xT ad)];exact aG)
    exact .to h (by simp only[qc,D,G,Z,k2,a5];rfl) H I ⟨_,rfl,rfl⟩
   rename_i d b o G F;have B:=A.ev a;rw[F]at B;obtain⟨hb,B⟩:=B;split at h<;>try cases h
   rename_i cs U;split at h<;>try cases h
   rename_i hc;simp only[wc,decide_eq_true_eq]at hc;obtain⟨⟨⟨aA,M⟩,O⟩,S⟩:=hc;obtain⟨ds,H,I⟩:=A.box b cs U;obtain⟨Z,k2⟩:=(A.ev x).cells S;have e1:(cellsOf (aev tm x)).length=d.size:=by rw[Z.len];exact M
   have e2:o+d.size<=ds.length:=by rw[I.len];exact O
   exact .to h (by simp only[qc,D,G,B,H,qoM I aA,e1,e2,k2,decide_true,xa];rfl) (.refl m) (A.setBox hb ((I.take o).append (Z.append (I.drop (o+d.size)))) _) ⟨_,rfl,rfl⟩
 |makeSlice t n mm=>
   simp only[Qe]at h;split at h<;>try cases h
   rename_i _ _ _ _ _ k bytes z a' ik a G F hn;split at h<;>try cases h
   rename_i hc;simp only[wc,decide_eq_true_eq]at hc;obtain⟨⟨⟨⟨c1,c2⟩,c3⟩,c4⟩,c5⟩:=hc;split at h<;>try cases h
   rename_i v J;obtain⟨hm,h⟩:=jY h;obtain⟨m1,m2,m3⟩:=of_decide_eq_true hm;have ac:=A.ev n;rw[hn]at ac;have ac:aev tm n=.v (.int ik a):=ac;have ba:aev tm mm=.v (.int ik a):=by rw[<-qQY c1];exact ac
   have a6:yW mp0 σ:=λ id R h=>by cases h
   have aa:=qfO J;obtain⟨rs,p1,p2⟩:=qdi (m:=mp0) a6 a' aa (qfP c5);cases p2;have aX:(z.map AV.v).map (qY σ.rw)=z.map AV.v:=by rw[xe];exact kW λ _ _=>rfl
   rw[aX]at p1;have bg:qL a' (z.map AV.v)=some v:=qR.2 p1;have aM:(z.map AV.v).all qv=true:=by rw[wah,ww];intro _ _;rfl
   have aE:decide (0<=a/\a.toNat*bytes<=2^47/\a.toNat<2^62/\0<k/\z.length=k)=true:=decide_eq_true ⟨m1,m2,m3,c3,c4⟩
   have aJ:qc C tm σ (.makeSlice t n mm)=match zx a.toNat 0 with
     |true=>some (.sl k [] 2,none)
     |false=>some (.rs σ.rw.length 0 a.toNat 0 false,some {σ with rw:=σ.rw++[⟨k,List.replicate a.toNat (z.map .v),0,0,false⟩]}):=by
    simp only[qc,D,G,ac,ba,true_and,aE,c5,aM,xa];cases zx a.toNat 0<;>rfl
   have ax:=qBn bg a.toNat;by_cases B:a.toNat=0
   .obtain⟨m',H,I,g3⟩:=A.rowAdd (σ':=σ) ⟨a',List.replicate a.toNat v,0,0,false⟩ none 0 [] rfl (λ _=>by show List.replicate a.toNat v=[];rw[B];rfl) (λ r Q h=>h) (λ r h=>by cases h) (y:=.sl k [] 2) ⟨by show jp a'.size (qL a') (.sl k [] 2)=some (List.replicate a.toNat v);rw[B,c2];simp only[jp,zx,decide_true];rfl,wa _⟩ rfl;refine⟨_,some _,.sl k [] 2,none,m',h,?_,H,I,g3,λ h=>by cases h⟩;grind [zx]
   .obtain⟨m',H,I,g3⟩:=A.rowNew ax;rw[kX]at g3;refine .to h (y:=.rs σ.rw.length 0 a.toNat 0 false) ?_ H I g3;grind [zx]
 |nilCheck x=>
   simp only[Qe]at h;have B:=A.ev x;split at h<;>try cases h
   .rename_i b o F;rw[F]at B;exact .same A h (by simp only[qc,B.2]) ⟨B.1,rfl⟩
   .rename_i cs o F;rw[F]at B;obtain⟨ds,B,g⟩:=B;exact .same A h (by simp only[qc,B]) ⟨ds,rfl,g⟩
   .rename_i id T sv i cs o F;rw[F]at B;have aV:=B;obtain⟨R,_,_,_,L,_⟩:=B;rcases L with⟨r',j,ep,L⟩|⟨ds,L⟩
    .exact .same A h (y:=.rpt r' j o ep) (by simp only[qc,L]) (by rw[<-L];exact aV)
    .exact .same A h (y:=.ept ds o) (by simp only[qc,L]) (by rw[<-L];exact aV)
 |binOp op t x y u=>
   simp only[Qe]at h;split at h
   .rename_i b hb
    obtain⟨e1,G⟩:((op=.eql/\K (.b b) none=some r)\/(op=.neq/\K (.b (!b)) none=some r))/\∃p1 p2 p3 p4,c.ty t=some ⟨p1,p2,p3,p4,.ptr⟩:=by
     grind [qGS]
    obtain⟨p1,p2,p3,p4,G⟩:=G;rcases qLl (A.ev x) (A.ev y) hb with⟨rfl,q1,q2⟩|⟨rfl,q1,q2⟩
    .rcases e1 with⟨rfl,e1⟩|⟨rfl,e1⟩<;>exact .same A e1 (by simp only[qc,q1,q2,D,G,wav]) rfl
    .rcases e1 with⟨rfl,e1⟩|⟨rfl,e1⟩
     .refine .same A e1 (y:=.v (.bool false)) ?_ rfl;cases P:aev tm x<;>rw[P]at q1<;>first|(cases q1;done)|(simp only[qc,P,q2,D,G,qrP,qFz,xa])
     .refine .same A e1 (y:=.v (.bool true)) ?_ rfl;cases P:aev tm x<;>rw[P]at q1<;>first|(cases q1;done)|(simp only[qc,P,q2,D,G,qrP,qFz,xa])
   obtain⟨z,v,M,O,S⟩:=qQm (A.ev x) (A.ev y) h;refine .same A M ?_ O;rcases S with⟨a,b,e1,e2,e3,h4⟩|⟨a,b,e1,e2,e3,h4⟩
   .obtain⟨p1,p2,p3,p4,G⟩:=qGD e3;rcases h4 with⟨rfl,rfl⟩|⟨rfl,rfl⟩<;>simp only[qc,e1,e2,D,G]
   .simp only[qc,e1,e2];grind [qsI]
 |unOp op t x=>
   simp only[Qe]at h;have B:=A.ev x;split at h<;>try cases h
   .rename_i k n F;rw[F]at B;exact .same A h (by simp only[qc,show aev tm x=_ from B,unA]) rfl
   .rename_i b F;rw[F]at B;exact .same A h (by simp only[qc,show aev tm x=_ from B,unA]) rfl
 |convert s d x=>
   simp only[Qe]at h;have B:=A.ev x;split at h<;>try cases h
   .rename_i M O S;rw[S]at B;exact .same A h (by simp only[qc,D,M,O,show aev tm x=_ from B]) rfl
   .rename_i M O S;rw[S]at B;exact .same A h (by simp only[qc,D,M,O,show aev tm x=_ from B]) rfl
   .rename_i e _ _ _ y M O S;rw[S]at B;split at h<;>try cases h
    rename_i hu;have B:aev tm x=.v (.string ⟨y.toArray⟩):=B;obtain⟨m',H,I,g3⟩:=A.rowNew (qBu y);rw[show(qcJ y).length=y.toArray.size by simp[qcJ]]at g3;exact .to h (y:=.rs σ.rw.length 0 y.toArray.size 0 false) (by simp only[qc,D,M,O,B,hu];rfl) H I g3
   .rename_i e _ _ _ _ _ _ _ _ _ _ M O hn;split at h<;>try cases h
    rename_i l hu hl;rw[<-A.rw]at hl;obtain⟨es,H,I,g3⟩:=qoE A.rows hl B;have H:elems σ.rw 1 (aev tm x)=some es:=H;refine .same A h (y:=.v (.string ⟨(Jb l).toArray⟩)) ?_ rfl;have hs:=qDu es l I
    cases P:aev tm x<;>rw[P]at H<;>first
     |(simp[elems]at H;done)
     |(simp only[qc,D,M,O,P,hu,H,hs];done)
     |skip
    rename_i v
    cases v<;>first
     |(simp[elems]at H;done)
     |(simp only[qc,D,M,O,P,hu,H,hs])
 |makeFunc f fs cs=>
   cases f with
   |func f=>
     simp only[Qe]at h;split at h<;>try cases h
     rename_i hf;exact .same A h (by simp only[qc,hf]) ⟨_,rfl,A.evs _⟩
   |_=>simp only[Qe]at h;cases h
 |slice t x lo hi mx=>
   cases mx with
   |some q=>simp only[Qe]at h;cases h
   |none=>
   simp only[Qe]at h;have B:=A.ev x;split at h<;>try cases h
   .rename_i y G F;rw[F]at B;split at h<;>try cases h
    rename_i hh ag;split at h<;>try cases h
    rename_i l X;obtain⟨c1,h⟩:=jY h;obtain⟨c2,h⟩:=jY h;have aZ:qpQ ⟨y.toArray⟩=y.length:=by simp[qpQ,ByteArray.size]
    have b1:=qdd A (d:=y.length) ag (wa _) c1;have b2:=qdd A (d:=0) X (wg _) c2;refine .same A h (y:=.v (.string (qFv ⟨y.toArray⟩ l.toNat hh.toNat))) ?_ ?_
    .simp only[qc,D,G,show aev tm x=_ from B,aZ,b1,b2]
    .show AV.v _=AV.v _;rw[<-qNX]
   .rename_i a y lv G F;rw[F]at B;split at h<;>try cases h
    rename_i hk;rw[wc]at hk;have be:=of_decide_eq_true hk.1;split at h<;>try cases h
    rename_i hh ag;split at h<;>try cases h
    rename_i l X;obtain⟨c1,h⟩:=jY h;obtain⟨c2,h⟩:=jY h;have b1:=qdd A (d:=y.length) ag (wa _) c1;have b2:=qdd A (d:=0) X (wg _) c2;obtain⟨ah,_⟩:=B;rcases yS ah with⟨M,rfl⟩|⟨es,n,M,O⟩
    .refine .same A h (y:=.v (.slice none 0 0)) ?_ ?_
     .simp_all [qc]
     .refine⟨?_,by decide⟩;grind [qao]
    .have a3:qaO es=y.length:=zb O;refine .same A h (y:=.sl a.size (qKo es l.toNat hh.toNat) (lvS (n+1) (zx hh.toNat y.length))) ?_ ?_
     .simp_all [qc,zx,pos]
     .have ae:∃q,lvS (n+1) (zx hh.toNat y.length)=q+1:=by unfold lvS;split<;>exact⟨_,rfl⟩
      obtain⟨q,hq⟩:=ae;rw[hq];refine⟨?_,xw (wg _)⟩;show jp _ _ (.sl _ _ (q+1))=_;simp only[jp,be,zx,decide_true];exact qfl _ (qh9 _ O)
   .rename_i G F;rw[F]at B;split at h<;>try cases h
    rename_i hh ag;split at h<;>try cases h
    rename_i l X;obtain⟨c1,h⟩:=jY h;obtain⟨c2,h⟩:=jY h;have b1:=qdd A (d:=0) ag (wa _) c1;have b2:=qdd A (d:=0) X (wg _) c2;exact .same A h (y:=.v (.slice none 0 0)) (by simp only[qc,D,G,show aev tm x=_ from B,b1,b2]) rfl
   .rename_i _ _ _ _ _ k _ _ id T G F;rw[F]at B;split at h<;>try cases h
    rename_i R V;split at h<;>try cases h
    rename_i av;rw[wc]at av;have J:R.ver=T:=wm av.1;have hk:=of_decide_eq_true av.2;split at h<;>try cases h
    rename_i l X;obtain⟨c1,h⟩:=jY h;obtain⟨R',H,I,g3,Y⟩:=B;rw[A.rw,V]at H;cases H;have bh:m.rw[id]?=some R:=by rw[A.rw];exact V
    have gy:=Y J;subst J;rcases qhk A.rows bh gy with⟨rr,Q,an,L,Z,k2,kv,k3,k4,kf,ks⟩|⟨an,hq,L,ae⟩
    .have bi:=zb k4;have aw:rr<σ.rw.length:=getElem?_lt Z;have b2:=qdd A (d:=0) X (wg _) c1
     have aC:l.toNat<=R.l.length:=by
      grind [inb]
     have bp:qCT Q k 0 Q.c.length Q.ver l.toNat=some {Q with c:=Q.c.drop l.toNat,ver:=Q.ver+1,fz:=Q.fz-l.toNat,off:=true}:=by
      grind [qCT]
     obtain⟨m',W,z2,z3⟩:=A.rowUpd (R2:=⟨R.τ,R.l.drop l.toNat,R.ver+1,R.sv,true⟩) V (some rr) (Q.ver+1) (Q.c.drop l.toNat) (ke _) (wa _) (λ h=>by have:R.ver+1=R.ver:=h;omega)
      (σ':={σ with rw:=σ.rw.set rr {Q with c:=Q.c.drop l.toNat,ver:=Q.ver+1,fz:=Q.fz-l.toNat,off:=true},wrr:=rr::σ.wrr}) rfl
      ⟨{Q with c:=Q.c.drop l.toNat,ver:=Q.ver+1,fz:=Q.fz-l.toNat,off:=true},by show(σ.rw.set rr _)[rr]?=_;rw[List.getElem?_set_self aw],rfl,rfl,k3,qfl _ k4,by show Q.fz-l.toNat<=(Q.c.drop l.toNat).length;rw[w7];omega,λ h=>by cases h⟩ λ aH aj ad aB ap=>by
       have aO:=A.others V an ad aB ap;exact⟨λ aD=>aO (kz aD).symm,λ Q' aG=>by show(σ.rw.set rr _)[aj]?=_;rw[List.getElem?_set_ne (xT aO)];exact aG⟩
     refine .to h (y:=.rs rr 0 (Q.c.length-l.toNat) (Q.ver+1) false) ?_ W z2 (z3 _ ?_)
     .simp_all [qc,qdF,zx]
     .show _=AV.rs rr 0 (R.l.drop l.toNat).length (Q.ver+1) false;rw[w7,bi]
    .have b2:=qdd A (d:=0) X (wg _) c1
     have aC:l.toNat<=R.l.length:=by
      grind [inb]
     obtain⟨m',W,z2,z3⟩:=A.rowUpd (R2:=⟨R.τ,R.l.drop l.toNat,R.ver+1,R.sv,true⟩) V none 0 [] (ke _) (wa _) (λ h=>by have:R.ver+1=R.ver:=h;omega) (σ':=σ) rfl
      (λ hs=>by cases hs) λ aH aj ad aB ap=>⟨λ aD=>(by cases aD),λ _ h=>h⟩
     rcases yS L with⟨aI,bd⟩|⟨es,n,aI,aU⟩<;>rw[aI]at L ae
     .have bl:l.toNat=0:=by rw[bd]at aC;simpa using aC
      refine⟨_,some _,.v (.slice none 0 0),none,m',h,?_,W,z2,z3 _ ⟨?_,ae⟩,λ h=>by cases h⟩
      .simp_all [qc,qdF]
      .grind
     .have a3:qaO es=R.l.length:=zb aU;have bk:1<=n:=by have:2<=n+1:=ae;omega
      refine⟨_,some _,.sl R.τ.size (qKo es l.toNat R.l.length) (lvS (n+1) (zx R.l.length R.l.length)),none,m',h,?_,W,z2,z3 _ ⟨?_,?_⟩,λ h=>by cases h⟩
      .simp_all [qc,zx,qdF,pos]
      .have aQ:lvS (n+1) (zx R.l.length R.l.length)=2:=by
         grind [lvS,zx]
       rw[aQ];show jp _ _ (.sl _ _ 2)=_;simp only[jp,zx,decide_true];have:=qfl l.toNat (qh9 R.l.length aU);rw[wF]at this;exact this
      .show 2<=lvS _ _;grind [lvS,zx]
 |fieldAddr t x i=>
   simp only[Qe]at h;split at h<;>try cases h
   rename_i G;split at h<;>try cases h
   rename_i off size g hf;split at h<;>try cases h
   have B:=A.ev x;split at h<;>try cases h
   .rename_i b o F;rw[F]at B;exact .same A h (by simp only[qc,D,G,hf,B.2]) ⟨B.1,rfl⟩
   .rename_i cs o F;rw[F]at B;obtain⟨ds,B,hg⟩:=B;exact .same A h (by simp only[qc,D,G,hf,B]) ⟨ds,rfl,hg⟩
   .rename_i id T sv j cs o F;rw[F]at B;obtain⟨R,Z,k2,k3,L,k4⟩:=B;rcases L with⟨r',q,ep,L⟩|⟨ds,L⟩
    .refine .same A h (y:=.rpt r' q (o+off) ep) (by simp only[qc,D,G,hf,L]) ⟨R,Z,k2,k3,.inl ⟨_,_,_,rfl⟩,λ e1=>?_⟩;simp_all
    .refine .same A h (y:=.ept ds (o+off)) (by simp only[qc,D,G,hf,L]) ⟨R,Z,k2,k3,.inr ⟨_,rfl⟩,λ e1=>?_⟩;grind
 |field t x i=>
   simp only[Qe]at h;have B:=A.ev x;split at h<;>try cases h
   rename_i cs G F;split at h<;>try cases h
   rename_i off size g hf;split at h<;>try cases h
   rename_i y L;rw[F]at B;obtain⟨ds,B,hg⟩:=B;obtain⟨z,H,I⟩:=qg6 hg L;exact .same A h (by simp only[qc,D,G,B,hf,H]) I
 |indexAddr t x i=>
   simp only[Qe]at h;have B:=A.ev x;have hi:=A.ev i;split at h<;>try cases h
   .rename_i _ _ _ _ _ k _ _ ik j G hj;rw[hj]at hi;have hi:aev tm i=.v (.int ik j):=hi;split at h<;>try cases h
    .rename_i a l lv F;rw[F]at B;split at h<;>try cases h
     rename_i hk;have hk:=of_decide_eq_true hk;obtain⟨v,J,h⟩:=JS h;obtain⟨j0,J⟩:=qjM J;obtain⟨ah,_⟩:=B;rcases yS ah with⟨M,rfl⟩|⟨es,n,M,O⟩
     .simp at J
     .obtain⟨e,H,I⟩:=qhg O J;refine .same A h (y:=.ept e 0) ?_ ⟨e,rfl,Qg I⟩;simp_all [qIP,qc,zx]
    .rename_i id T F;rw[F]at B;split at h<;>try cases h
     rename_i R V;split at h<;>try cases h
     rename_i J;rw[wc]at J;have al:=wm J.1;have hk:=of_decide_eq_true J.2;obtain⟨v,J,h⟩:=JS h;obtain⟨j0,J⟩:=qjM J;obtain⟨R',H,I,g3,Y⟩:=B;rw[A.rw,V]at H;cases H;have Y:=Y al;rcases qhk A.rows (by rw[A.rw];exact V) Y with⟨rr,Q,an,L,q1,q2,q3,q4,q5,_⟩|⟨az,_,hq,_⟩
     .obtain⟨e,W,z2⟩:=qhg q5 J;have hl:=zb q5;have bo:j.toNat<Q.c.length:=getElem?_lt W;refine .same A h (y:=.rpt rr (0+j.toNat) 0 Q.ver) ?_ ?_
      .simp_all [qII,qc]
      .refine⟨R,by rw[A.rw];exact V,by omega,wa _,.inl ⟨_,_,_,rfl⟩,λ _=>.inl ⟨rr,j.toNat,an,by rw[wG,q3],by omega,by omega,λ _=>⟨e,by rw[<-q2];exact W,Qg z2⟩⟩⟩
     .rcases yS hq with⟨_,hl⟩|⟨es,n,M,O⟩
      .rw[hl]at J;simp at J
      .obtain⟨e,H,bj⟩:=qhg O J;refine .same A h (y:=.ept e 0) ?_ ⟨R,by rw[A.rw];exact V,by omega,wa _,.inr ⟨_,rfl⟩,λ _=>.inr ⟨az,vX (wg _) (getElem?_lt J),λ _=>⟨e,rfl,Qg bj⟩⟩⟩;simp_all [qIP,qc,zx]
   .rename_i n _ ik j G hj;rw[hj]at hi;have hi:aev tm i=.v (.int ik j):=hi;split at h<;>try cases h
    rename_i b F;rw[F]at B;obtain⟨hb,B⟩:=B;obtain⟨P,h⟩:=jY h;have P:=of_decide_eq_true P;refine .same A h (y:=.ptr (m.b b) (0+j.toNat*1)) (by simp only[qc,D,G,hi,B,decide_eq_true P]) ⟨hb,P.1,by rw[wG,Nat.mul_one]⟩
 |index t x i=>
   simp only[Qe]at h;have B:=A.ev x;have hi:=A.ev i;split at h<;>try cases h
   rename_i y ik j G F hj;rw[F]at B;rw[hj]at hi;obtain⟨v,J,h⟩:=JS h;obtain⟨j0,J⟩:=qjM J;refine .same A h (y:=.v (.int .u8 v.toNat)) ?_ rfl
   have:qKq ⟨y.toArray⟩ j=some (v.toNat:Int):=by
    grind [qKq]
   simp only[qc,D,G,show aev tm x=_ from B,show aev tm i=_ from hi,this]
 |extract x i=>
   simp only[Qe]at h;have B:=A.ev x;split at h<;>try cases h
   rename_i vs F;rw[F]at B;obtain⟨ds,B,hg⟩:=B;split at h<;>try cases h
   rename_i y L;obtain⟨z,H,I⟩:=hg.get L;exact .same A h (by simp only[qc,B,H]) I
 |makeMap t q=>
   cases q with
   |some q=>simp[Qe]at h
   |none=>
     simp only[Qe]at h;split at h<;>try cases h
     rename_i κ a hm;obtain⟨_,_,_,_,vz,G,_⟩:=qne hm;obtain⟨m',M,O,S⟩:=A.alloc (cs:=[.mc κ a []]) (ds:=[.mc (kcT κ) κ.agg a.agg [] []]) ⟨_,_,rfl,qFg,rfl⟩;exact .to h (by simp only[qc,D,G]) M O (x:=.mp τ.bx.length) (y:=.mp σ.bx.length) ⟨S.1,by have e:=S.2;simp only[AV.ptr.injEq]at e;rw[e.1]⟩
 |lookup t mm k q=>
   simp only[Qe]at h;split at h<;>try cases h
   rename_i κ a hm;split at h<;>try cases h
   rename_i b l z kv bb hz hk;obtain⟨_,_,_,_,vz,G,aq⟩:=qne hm;obtain⟨bn,ks,vs,aR,bc⟩:=qru A (A.ev mm) bb;obtain⟨e1,e2⟩:=qH2 aq A.rows (by rw[A.rw];exact hk) (A.ev k);obtain⟨W,z2⟩:=qMJ G hz
   have aW:∃y,qtc (kcT κ) a.agg vz ks vs (cellsOf (aev tm k))=some (y,qmo (veq κ) l kv)/\OK m (qlQ a (qd3 (veq κ) z l kv)) y:=by
    rw[e2];rcases qFf aq bc kv 0 with⟨f1,f2⟩|⟨j,v,p,f1,f2,f3,f4⟩
    .exact⟨QB a.agg (vz.map .v),by simp only[qtc,f1,qmo,f2,qto],by simp only[qd3,f2,qto];exact qH7 z2⟩
    .rw[wG]at f1;exact⟨QB a.agg v,by simp only[qtc,f1,f2,qmo,f4,qto],by simp only[qd3,f4,qto];exact qH7 f3⟩
   obtain⟨y,y1,y2⟩:=aW
   have hc:(qpD (kcT κ) κ.agg (aev tm k)&&(vz.all zk&&decide (vz.length=a.size)&&(a.agg||decide (a.size=1))))=true:=by
    rw[e1,W.1,W.2];simp only[decide_true,wV];cases aF:a.agg with
    |true=>rfl
    |false=>rw[qE0 aF];rfl
   cases q with
   |true=>exact .same A h (by simp only[qc,D,G,aR,hc,y1]) ⟨_,rfl,⟨_,_,rfl,y2,_,_,rfl,rfl,rfl⟩⟩
   |false=>exact .same A h (by simp only[qc,D,G,aR,hc,y1]) y2
 |mapUpdate t mm k y=>
   have hs:qc C tm σ (.mapUpdate t mm k y)=qcS C tm σ t mm k y:=rfl;rw[hs];exact qw1 D A (show qs5 c E τ t mm k y K=some r from h)
 |insert t mm k y=>
   have hs:qc C tm σ (.insert t mm k y)=qcS C tm σ t mm k y:=rfl;rw[hs];exact qw1 D A (show qs5 c E τ t mm k y K=some r from h)
 |_=>simp only[Qe]at h;cases h
end
end Go.AmZ
namespace Go.AmZ
open Go Go.RowKit Go.GxZ
def qf6:List AV->List Nat
 |[]=>[]
 |.fn f _::l=>f::qf6 l
 |_::l=>qf6 l
def dFn{a:Type}(q:List AV->Option a):List AV->Option a
 |.fn _ []::xs=>q xs
 |_=>none
def qdW:(ts:List ATy)->List AV->Option (qed ts)
 |[]=>qRJ
 |.val τ::r=>qn1 (Ql τ) (qdW r)
 |.fn::r=>dFn (qdW r)
def qbg:(ts:List Ty)->qg4 ts->List AV
 |[],_=>[]
 |[a],v=>[yR a v]
 |a::b::r,v=>yR a v.1::qbg (b::r) v.2
def jC(c:TC)(f:Nat)(ys:List AV):Option AV:=match c.pf f (qf6 ys)with
 |some g=>match qdW g.args ys with
   |some a=>match g.fn a with
     |some v=>some (zY (qbg g.res v))
     |none=>none
   |none=>none
 |none=>none
def qeW(σ:St)(τ:Ty)(a:Nat):AV->Option (List (Val τ)×Nat)
 |.rs j lo n b f=>match σ.rw[a]? with
   |some R=>match decide (j=a/\lo=0/\f=false/\R.k=τ.size/\R.ver=b/\n=R.c.length/\R.fz=0/\R.off=false)with
     |true=>match zl (qL τ) R.c with
       |some l=>some (l,a+1)
       |none=>none
     |false=>none
   |none=>none
 |y=>match dlist τ y,decide (2<=lvl y)with
   |some [],true=>some ([],a)
   |_,_=>none
def qgX(σ:St):(l:List RA)->Nat->List AV->Option (CV l×Nat)
 |[],a,[]=>some ((),a)
 |[],_,_::_=>none
 |.val τ::r,a,ds=>match qL τ (ds.take τ.size)with
   |some v=>match qgX σ r a (ds.drop τ.size)with
     |some (vs,n)=>some ((v,vs),n)
     |none=>none
   |none=>none
 |.row τ::r,a,d::ds=>match qeW σ τ a d with
   |some (l,b)=>match qgX σ r b ds with
     |some (vs,n)=>some ((l,vs),n)
     |none=>none
   |none=>none
 |.row _::_,_,[]=>none
def bxA(l:List RA)(b:Nat):AV:=match qmq l with
 |true=>.mp b
 |false=>.ptr b 0
def qxL(l:List RA)(y:AV):Option Nat:=match qmq l,y with
 |true,.mp b|false,.ptr b 0=>some b
 |_,_=>none
theorem qEF{l y b}(h:qxL l y=some b):y=bxA l b:=by
 unfold qxL at h;unfold bxA;split at h<;>cases h<;>(rename_i a;rw[a])
theorem qNV(l b):qxL l (bxA l b)=some b:=by
 unfold qxL bxA;cases qmq l<;>rfl
theorem qSB(l b):rb (bxA l b)=[b]/\rr (bxA l b)=[]/\∀fb fr,ren fb fr (bxA l b)=bxA l (fb b):=by
 unfold bxA;cases qmq l<;>exact⟨rfl,rfl,λ _ _=>rfl⟩
theorem qOa{m l x y b}(h:qOo l x=some b)(a:OK m x y):b<m.nb/\y=bxA l (m.b b):=by
 unfold qOo at h;unfold bxA;split at h<;>cases h<;>(rename_i c;rw[c];exact a)
theorem qSk{m l b}(h:b<m.nb):OK m (bxT l b) (bxA l (m.b b)):=by
 unfold bxT bxA;cases qmq l<;>exact⟨h,rfl⟩
def qjv(σ:St)(l:List RA)(nb a:Nat)(y:AV):Option (CV l×Nat):=match qxL l y with
 |some j=>match Nat.beq j nb,σ.bx[nb]? with
   |true,some ds=>qgX σ l a ds
   |_,_=>none
 |none=>none
def qEy:AV->Bool
 |.v (.slice none 0 0)=>true
 |_=>false
theorem qAM{y}(h:qEy y=true):y=.v (.slice none 0 0):=by
 unfold qEy at h;split at h
 .rfl
 .cases h
def qGk(g k:Nat):AV->Option (List AV)
 |.fn a cs=>match Nat.beq g a&&Nat.beq cs.length k with
   |true=>some cs
   |false=>none
 |_=>none
theorem qHV{g k y cs}(h:qGk g k y=some cs):y=.fn g cs/\cs.length=k:=by
 unfold qGk at h;split at h<;>try cases h
 split at h<;>cases h;rename_i a;rw[wc]at a;rw[wm a.1];exact⟨rfl,wm a.2⟩
def dS(σ:St):(sas:List SA)->Nat->Nat->List AV->Option (qaJ sas)
 |[],nb,a,[]=>match decide (nb=σ.bx.length/\a=σ.rw.length)with
   |true=>some ()
   |false=>none
 |.val τ::r,nb,a,y::ys=>match Ql τ y with
   |some v=>match dS σ r nb a ys with
     |some vs=>some (v,vs)
     |none=>none
   |none=>none
 |.row τ::r,nb,a,y::ys=>match qeW σ τ a y with
   |some (l,b)=>match dS σ r nb b ys with
     |some vs=>some (l,vs)
     |none=>none
   |none=>none
 |.box l::r,nb,a,y::ys=>match qjv σ l nb a y with
   |some (v,b)=>match dS σ r (nb+1) b ys with
     |some vs=>some (toB l v,vs)
     |none=>none
   |none=>none
 |.nil::r,nb,a,y::ys=>match qEy y with
   |true=>dS σ r nb a ys
   |false=>none
 |.clo g k::r,nb,a,y::ys=>match qGk g k y with
   |some cs=>dS σ r nb a (cs++ys)
   |none=>none
 |_,_,_,_=>none
def qa7:(l:List RA)->Nat->CV l->List AV
 |[],_,_=>[]
 |.val τ::r,L,v=>qe τ v.1++qa7 r L v.2
 |.row _::r,L,v=>.rs L 0 v.1.length 0 false::qa7 r (L+1) v.2
def qgA:(l:List RA)->CV l->List Row
 |[],_=>[]
 |.val _::r,v=>qgA r v.2
 |.row τ::r,v=>⟨τ.size,v.1.map (qe τ),0,0,false⟩::qgA r v.2
def Jz:(sas:List SA)->Nat->J4 sas->List (List AV)
 |[],_,_=>[]
 |.box l::r,L,o=>qa7 l L (toC l o.1)::Jz r (L+nR l) o.2
 |.nil::r,L,o|.val _::r,L,o|.row _::r,L,o|.clo _ _::r,L,o=>Jz r L o
def QV:(sas:List SA)->J4 sas->List Row
 |[],_=>[]
 |.box l::r,o=>qgA l (toC l o.1)++QV r o.2
 |.nil::r,o|.val _::r,o|.row _::r,o|.clo _ _::r,o=>QV r o
def qap:(a:List RE)->Nat->RV a->List AV
 |[],_,_=>[]
 |.one (.val τ)::r,L,v=>yR τ v.1::qap r L v.2
 |.one (.row _)::r,L,v=>.rs L 0 v.1.length 0 false::qap r (L+1) v.2
 |.agg l::r,L,v=>.agg (qa7 l L v.1)::qap r (L+nR l) v.2
def Jy:(a:List RE)->RV a->List Row
 |[],_=>[]
 |.one (.val _)::r,v=>Jy r v.2
 |.one (.row τ)::r,v=>⟨τ.size,v.1.map (qe τ),0,0,false⟩::Jy r v.2
 |.agg l::r,v=>qgA l v.1++Jy r v.2
def qaG:(a:List RE)->Nat->RV a->List (List AV)
 |[],_,_=>[]
 |.one (.val _)::r,L,v=>qaG r L v.2
 |.one (.row _)::r,L,v=>qaG r (L+1) v.2
 |.agg l::r,L,v=>qaG r (L+nR l) v.2
def qyv(rws:List yk):(b:List RE)->Nat->Nat->RV b->Prop
 |[],_,_,_=>True
 |.one a::r,nb,d,v=>qyv rws r nb (d+nRA a) v.2
 |.agg l::r,nb,d,v=>qyv rws r nb (d+nR l) v.2
theorem qpl{rws}:∀c nb d v {f} {k} {x:f},rws.length<=d->qlu rws c nb d v k=some x->
  ∃b e,k b e=some x/\qyv rws b nb d e/\∀{o} (g:(b:List RE)->RV b->Option o),qlu rws c nb d v g=g b e
 |[],nb,d,v,f,k,x,n,h=>⟨[],(),h,trivial,λ _=>rfl⟩
 |.one a::c,nb,d,v,f,k,x,n,h=>by
   let⟨b,e,m,j,i⟩:=qpl c nb (d+nRA a) v.2 (by omega) h;exact⟨_,_,m,j,λ g=>i _⟩
 |.agg l::c,nb,d,v,f,k,x,n,h=>by
   let⟨b,e,m,j,i⟩:=qpl c nb (d+nR l) v.2 (by omega) h;exact⟨_,_,m,j,λ g=>i _⟩
theorem qTB: ∀l v,toB l (toC l v)=v
 |[],_|[_],_|_::_::_,_=>rfl
theorem qoB: ∀l v,toC l (toB l v)=v
 |[],_|[_],(_,())|_::_::_,_=>rfl
theorem qaU: ∀l v,(qgA l v).length=nR l
 |[],_=>rfl
 |.val _::r,v=>qaU r v.2
 |.row _::r,v=>congrArg (· + 1) (qaU r v.2)
theorem Ju: ∀l v,(qeh l v).length=nR l
 |[],_=>rfl
 |.val _::r,v=>Ju r v.2
 |.row _::r,v=>congrArg (· + 1) (Ju r v.2)
theorem qb4: ∀sas o,(QV sas o).length=nrB sas
 |[],_=>rfl
 |.nil::r,o|.val _::r,o|.row _::r,o|.clo _ _::r,o=>qb4 r o
 |.box l::r,o=>by rw[QV,wd,qaU,qb4 r o.2];rfl
theorem qa1: ∀sas o,(qdB sas o).length=nrB sas
 |[],_=>rfl
 |.nil::r,o|.val _::r,o|.row _::r,o|.clo _ _::r,o=>qa1 r o
 |.box l::r,o=>by rw[qdB,wd,Ju,qa1 r o.2];rfl
def sgP(g:qrp)(σ:St)(ys:List AV):Option (AV×Option St):=match dS σ g.args 0 0 ys with
 |some a=>match g.fn a with
   |some v=>qlu (qdB g.args v.1) g.res (nBx g.args) (nrB g.args) v.2 λ b c=>some (zY (qap b (σ.rw.length+nrB g.args) c),some ⟨Jz g.args σ.rw.length v.1++qaG b (σ.rw.length+nrB g.args) c,σ.rw.map QW++(QV g.args v.1++Jy b c),List.range σ.bx.length,List.range σ.rw.length⟩)
   |none=>none
 |none=>none
def mgP(g:quY)(σ:St)(ys:List AV):Option (AV×Option St):=match dS σ (.row g.τ::g.args) 0 0 ys with
 |some a=>match g.fn a with
   |some v=>match Nat.beq v.length a.1.length with
     |true=>match σ.bx,σ.rw with
       |[],[R]=>some (.tup [],some ⟨[],[⟨R.k,v.map (qe g.τ),R.ver,R.fz,R.off⟩],[],[0]⟩)
       |[],[]=>some (.tup [],none)
       |_,_=>none
     |false=>none
   |none=>none
 |none=>none
def xgP(g:qyZ)(σ:St)(ys:List AV):Option (AV×Option St):=match dS σ g.args 0 0 ys with
 |some a=>match g.fn a with
   |some v=>some (.v (.int .i64 v),none)
   |none=>none
 |none=>none
def TC.spf(c:TC)(f:Nat):Option (St->List AV->Option (AV×Option St)):=match c.mf f with
 |some g=>some (mgP g)
 |none=>match c.xf f with
   |some g=>some (xgP g)
   |none=>match c.sf f with
     |some g=>some (sgP g)
     |none=>none
def TC.pc(c:TC):PC:=⟨c.ty,λ f=>match c.has f with
 |true=>some (jC c f)
 |false=>none,c.spf,c.pur,c.ld,c.inl⟩
theorem TC.raw_eq(c:TC):c.pc.cfg.raw=c.rawT:=by
 show c.pc.raw=c.rawT;funext f;unfold PC.raw TC.rawT;have e1:c.pc.pf f=match c.has f with|true=>some (jC c f)|false=>none:=rfl
 have a:c.pc.sp f=c.spf f:=rfl;rw[e1,a];unfold TC.spf;cases c.has f with
 |true=>rfl
 |false=>
   cases c.mf f with
   |some g=>rfl
   |none=>
     cases c.xf f with
     |some g=>rfl
     |none=>
       cases c.sf f with
       |none|some g=>rfl
theorem TC.lo_eq(c:TC):c.pc.cfg.lo=c.loT:=by
 show(λ f=>c.pc.raw f||(c.ld f||(c.inl f).isSome))=c.loT;funext f;have h:c.pc.raw f=c.rawT f:=congrFun c.raw_eq f;rw[h];rfl
section
variable {α:Type}{N:Nat×Nat}{m:Mp}{E:Env}{τ:TS}{tm:List AV}{σ:St}{K:KT α}{r:α}{p:Option (AV×Option St)}{c:TC}{C:Cfg}
theorem qaI: ∀{cs},(∀x∈cs,qv x=true)->rbL cs=[]/\rrL cs=[]
 |[],_=>⟨rfl,rfl⟩
 |x::cs,h=>by
   let⟨d,c⟩:=qaI λ y a=>h y (we _ a);have b:=h x (wh ..);rw[rbL,rrL,d,c];cases x<;>first|exact⟨rfl,rfl⟩|(simp[qv]at b)
theorem qeE{a y v}(h:Ql a y=some v):jE y=true/\∀ f cs,y ≠ .fn f cs:=by
 unfold Ql at h;split at h
 case h_2=>cases h
 obtain⟨pre,h1,_,h3,_⟩:=yc a (qR.1 h);rw[wy]at h1;rw[<- h1]at h3;cases y with
 | agg cs =>
   obtain⟨g1,g2⟩:=qaI (cs:=cs) h3;refine⟨?_,λ f cs h=>by cases h⟩;unfold jE;rw[rb,rr,g1,g2];rfl
 | v x=>exact⟨rfl,λ f cs h=>by cases h⟩
 | sl k es n=>exact⟨rfl,λ f cs h=>by cases h⟩
 | mc=>exact⟨rfl,λ f cs h=>by cases h⟩
 | _=>have:=h3 _ (wD.2 rfl);simp[qv]at this
theorem qhI: ∀a v,jE (yR a v)=true
 |.int _,_|.map _ _,_|.bool,_|.str,_|.list _,_=>rfl
 |.term,v=>by
   let⟨d,c⟩:=qaI (zq .term v);show jE (.agg _)=true;unfold jE;rw[rb,rr,d,c];rfl
 |.pair a b,v=>by
   let⟨d,c⟩:=qaI (zq (.pair a b) v);show jE (.agg _)=true;unfold jE;rw[rb,rr,d,c];rfl
 |.one a,v=>by
   let⟨d,c⟩:=qaI (zq (.one a) v);show jE (.agg _)=true;unfold jE;rw[rb,rr,d,c];rfl
theorem qG3{y}(h:∀z∈cellsOf y,qv z=true):rb y=[]/\rr y=[]:=by
 cases y with
 |agg cs=>
   let⟨b,a⟩:=qaI (cs:=cs) h;exact⟨by rw[rb,b],by rw[rr,a]⟩
 |_=>exact qyf (h _ (wD.2 rfl))
theorem qLH(g:yW m σ){a cs ds v}(k:∀y∈ds,rsC y=[])(j:qmO (qjq m.rw a cs)=some v)(h:OKL m cs ds):qL a ds=some v/\∀y∈ds,qv y=true:=by
 let⟨l,c,f⟩:=qdi g a (qfO j) h;cases f
 have e:∀y∈ds,qv y=true:=by
  let⟨pre,b,_,i,_⟩:=yc a c;rw[wad,wy]at b;intro y d;exact qnF (k y d) (i _ (by rw[<-b];exact kH d))
 exact⟨qo9 e (qR.2 c),e⟩
theorem qPR(l:yW m σ){a x y v}(s:qnV x=true)(q:qcu m.rw a x=some v)(j:OK m x y):Ql a y=some v/\rb y=[]/\rr y=[]:=by
 let⟨g,k⟩:=qhd l q j;have c:=qtl s j
 have d:∀z∈cellsOf y,rsC z=[]:=by
  intro z b;cases y with
  |agg cs=>exact kM.1 c z b
  |_=>cases wD.1 b;exact c
 have i:∀z∈cellsOf y,qv z=true:=by
  let⟨pre,e,_,p,_⟩:=yc a (qR.1 k);rw[wy]at e;intro z b;exact qnF (d z b) (p _ (by rw[<-e];exact kH b))
 let⟨e1,t⟩:=qG3 i;refine⟨?_,e1,t⟩;have o:=qo9 i k;unfold Ql at g |-
 have h:QT (jk σ.rw y)=QT y:=by
  cases y with
  |agg cs=>rfl
  |rs r lo n u f=>simp[cellsOf,rsC]at d
  |_=>rfl
 rw[h]at g;split at g
 .exact o
 .cases g
theorem qsR{fb fr y}(b:rb y=[])(a:rr y=[]):ren fb fr y=y:=qGi y b a
theorem qH9{pre post}{b:Nat}(h:(pre++b::post).Nodup):(pre++b::post).idxOf b=pre.length:=qzi h (by simp)
theorem qdt{fb fr}:∀l,qZ fb fr l=l.map (ren fb fr)
 |[]=>rfl
 |x::l=>by rw[qZ,qdt l];rfl
theorem qFm{fb fr}(a b):qZ fb fr (a++b)=qZ fb fr a++qZ fb fr b:=by rw[qdt,qdt,qdt,wZ]
theorem qyN: ∀a b,rbL (a++b)=rbL a++rbL b
 |[],_=>rfl
 |x::a,b=>by rw[wai,rbL,rbL,qyN a b,wn]
theorem qzq: ∀a b,rrL (a++b)=rrL a++rrL b
 |[],_=>rfl
 |x::a,b=>by rw[wai,rrL,rrL,qzq a b,wn]
theorem qHQ(I:Rel N m E τ tm σ){t x y l a}(b:qiS τ.rw t x=some (l,a))(w:OK m x y):
  rb y=[]/\rr y=a.filterMap m.r/\(∀id∈a,id<m.rw.length)/\
  ∀B pre post fb,(pre++(a.filterMap m.r++post)).Nodup->qeW (qQ σ B (pre++(a.filterMap m.r++post))) t pre.length (ren fb (λ r=>(pre++(a.filterMap m.r++post)).idxOf r) y)=some (l,pre.length+(a.filterMap m.r).length):=by
 have emp:dlist t y=some l->l=[]->2<=lvl y->a.filterMap m.r=[]->(∀id∈a,id<m.rw.length)->rb y=[]/\rr y=a.filterMap m.r/\(∀id∈a,id<m.rw.length)/\
   ∀B pre post fb,(pre++(a.filterMap m.r++post)).Nodup->qeW (qQ σ B (pre++(a.filterMap m.r++post))) t pre.length (ren fb (λ r=>(pre++(a.filterMap m.r++post)).idxOf r) y)=some (l,pre.length+(a.filterMap m.r).length):=by
  intro A b j h g
  have f:rb y=[]/\rr y=[]:=by
   obtain⟨rfl,_⟩|⟨T,n,rfl,_⟩:=yS A<;>exact⟨rfl,rfl⟩
  refine⟨f.1,by rw[f.2,h],g,λ B pre post fb _=>?_⟩;rw[qsR f.1 f.2,h];subst b;obtain⟨rfl,_⟩|⟨T,n,rfl,_⟩:=yS A
  .simp;rfl
  .simp only[qeW,A,decide_eq_true j];rfl
 unfold qiS at b;split at b
 .cases b;cases w;exact emp rfl rfl (wa _) rfl (by simp)
 .split at b<;>cases b;rename_i C j;let⟨e,z⟩:=jD C;subst e;let⟨v,u⟩:=w;subst z;exact emp v rfl (wz (of_decide_eq_true j) u) rfl (by simp)
 .rename_i id K;split at b<;>try cases b
  rename_i R S;split at b<;>try cases b
  rename_i q;rw[wc,wM]at q;split at b<;>cases b;rename_i C;let⟨e,z⟩:=jD C;subst e;subst z;let⟨R',H,_,_,P⟩:=w;have p:m.rw[id]?=some R:=by rw[I.rw];exact S
  rw[p]at H;cases H;have g:∀i∈[id],i<m.rw.length:=by grind
  obtain⟨c,Q,G,rfl,s,F,D,O,M,U,L⟩|⟨G,s,F,D⟩:=qhk I.rows p (P (wm q.1))
  .have o:[id].filterMap m.r=[c]:=by simp[G]
   refine⟨rfl,by rw[o];rfl,g,λ B pre post fb J=>?_⟩;rw[o]at J |-
   have d:=qH9 J
   have k:(qQ σ B (pre++([c]++post))).rw[pre.length]?=some Q:=by
    show((pre++c::post).map λ r=>σ.rw.getD r ⟨0,[],0,0,false⟩)[pre.length]?=_;rw[List.getElem?_map,List.getElem?_append_right (wa _),kP,List.getElem?_cons_zero];show some (σ.rw.getD c _)=_;rw[jQ s]
   rw[ren];have d:(pre++([c]++post)).idxOf c=pre.length:=d;rw[d];simp only[qeW,k,O,L q.2,and_self,M];rfl
  .exact emp F (s q.2) D (by grind) g
 .cases b
theorem qvJ(k:Rel N m E τ tm σ):∀{l cs ds v a},qav τ.rw l cs=some (v,a,true)->OKL m cs ds->
  rbL ds=[]/\rrL ds=a.filterMap m.r/\(∀id∈a,id<m.rw.length)/\
  ∀B pre post fb,(pre++(a.filterMap m.r++post)).Nodup->qgX (qQ σ B (pre++(a.filterMap m.r++post))) l pre.length (qZ fb (λ r=>(pre++(a.filterMap m.r++post)).idxOf r) ds)=some (v,pre.length+(a.filterMap m.r).length)
 |[],cs,ds,v,a,h,g=>by
   cases cs with
   |cons c cs=>simp[qav]at h
   |nil=>
     cases g;obtain⟨_,rfl,_⟩:=h;exact⟨rfl,rfl,by simp,λ B pre post fb _=>rfl⟩
 |.val t::l,cs,ds,v,a,h,g=>by
   simp[qav]at h;split at h<;>try (cases h;done)
   rename_i w vs e q x f;simp only[wB,wL,wc]at h;obtain⟨rfl,rfl,z,rfl⟩:=h;obtain⟨u,s,p,o⟩:=qvJ k f (g.drop t.size);have G:=g.take t.size;have y:=kM.1 (qjw G z);obtain⟨J,I⟩:=qLH k.rows y (by rw[k.rw];exact x) G;obtain⟨F,D⟩:=qaI I;have b:ds=ds.take t.size++ds.drop t.size:=(kD _ _).symm;refine⟨by rw[b,qyN,F,u];rfl,by rw[b,qzq,D,s];rfl,p,λ B pre post fb n=>?_⟩;have e1:(qZ fb (λ r=>(pre++(e.filterMap m.r++post)).idxOf r) ds).take t.size=ds.take t.size:=by rw[qdt,<-List.map_take,<-qdt,qsC _ F D]
   have K:(qZ fb (λ r=>(pre++(e.filterMap m.r++post)).idxOf r) ds).drop t.size=qZ fb (λ r=>(pre++(e.filterMap m.r++post)).idxOf r) (ds.drop t.size):=by rw[qdt,<-List.map_drop,<-qdt]
   rw[qgX,e1,J];rw[K,o B pre post fb n]
 |.row t::l,cs,ds,v,a,h,g=>by
   cases cs with
   |nil=>simp[qav]at h
   |cons c cs=>
     obtain⟨d,ds,rfl,H,C⟩:=g;simp[qav]at h;split at h<;>try (cases h;done)
     rename_i w i vs j q x f;obtain⟨rfl,rfl,rfl⟩:=h;obtain⟨P,O,M,L⟩:=qHQ k x H;obtain⟨u,s,p,o⟩:=qvJ k f C;refine⟨by rw[rbL,P,u];rfl,by rw[rrL,O,s,kg],λ id A=>(wj.1 A).elim (M id) (p id),λ B pre post fb n=>?_⟩;rw[kg,wn]at n |-
     rw[qZ,qgX,L B pre (j.filterMap m.r++post) fb n];simp only;have:=o B (pre++i.filterMap m.r) post fb (by grind);rw[wn,wd]at this;rw[this,wd,wS]
theorem quD(P:Rel N m E τ tm σ):∀{sas xs ys a o p},jf τ sas xs=some (a,o,p)->OKL m xs ys->qmu sas=true->
  rbL ys=o.map m.b/\(qmU sas=true->rrL ys=[])/\(rrL ys++o.flatMap λ b=>rrL (σ.bx.getD (m.b b) []))=p.filterMap m.r/\(∀b∈o,b<m.nb/\∃ds,σ.bx[m.b b]?=some ds/\rbL ds=[])/\(∀id∈p,id<m.rw.length)/\
  ∀c d,(c++o.map m.b).Nodup->(d++p.filterMap m.r).Nodup->
   dS (qQ σ (c++o.map m.b) (d++p.filterMap m.r)) sas c.length d.length (qZ (λ b=>(c++o.map m.b).idxOf b) (λ r=>(d++p.filterMap m.r).idxOf r) ys)=some a:=by
 intro sas
 induction sas with
 |nil=>
   intro xs ys a o p h X _;cases xs with
   |cons x xs=>simp[jf]at h
   |nil=>
     cases X;obtain⟨_,rfl,rfl⟩:=h;refine⟨rfl,λ _=>rfl,rfl,by simp,by simp,λ c d _ _=>?_⟩;simp[qZ,dS,qQ]
 |cons k sas M=>
   intro xs ys a o p h X i;cases xs with
   |nil=>cases k<;>simp[jf]at h
   |cons x xs=>
   obtain⟨y,ys,rfl,O,s⟩:=X;cases k with
   |val t=>
     simp[jf]at h;split at h<;>try cases h
     rename_i v Y W;split at h<;>cases h;rename_i vs n f u;obtain⟨A,F,q,D,C,B⟩:=M u s i;obtain⟨g1,g2,g3⟩:=qPR P.rows Y (by rw[P.rw];exact W) O;refine⟨by rw[rbL,g2,A];rfl,λ I=>by rw[rrL,g3,F I];rfl,by rw[rrL,g3];exact q,D,C,λ c d L z=>?_⟩;rw[qZ,qsR g2 g3,dS,g1];rw[B c d L z]
   |nil=>
     cases x with
     |nil=>
       subst O;obtain⟨A,F,q,D,C,B⟩:=M h s i;refine⟨by rw[rbL,A];rfl,λ I=>by rw[rrL,F I];rfl,by rw[rrL];exact q,D,C,λ c d L z=>?_⟩;exact B c d L z
     |_=>simp[jf]at h
   |clo g k=>
     cases x with
     |fn g' cs=>
       simp[jf]at h;split at h<;>try cases h
       rename_i Z;rw[wc]at Z;obtain⟨cs',rfl,G⟩:=O;obtain⟨A,F,q,D,C,B⟩:=M h (G.append s) i;rw[qyN]at A;rw[qzq]at F q;refine⟨by rw[rbL,rb];exact A,λ I=>by rw[rrL,rr];exact F I,by rw[rrL,rr];exact q,D,C,λ c d L z=>?_⟩
       have aa:qGk g k (.fn g' (qZ (λ b=>(c++o.map m.b).idxOf b) (λ r=>(d++p.filterMap m.r).idxOf r) cs'))=some (qZ (λ b=>(c++o.map m.b).idxOf b) (λ r=>(d++p.filterMap m.r).idxOf r) cs'):=by
        have Q:Nat.beq (qZ (λ b=>(c++o.map m.b).idxOf b) (λ r=>(d++p.filterMap m.r).idxOf r) cs').length k=true:=by
         rw[qdt,wE,G.len];exact Z.2
        simp[qGk,Z.1,Q,xa]
       rw[qZ,ren,dS,aa];simp only;rw[<-qFm];exact B c d L z
     |_=>simp[jf]at h
   |row t=>
     simp[jf]at h;split at h<;>try cases h
     rename_i l e hl;split at h<;>cases h;rename_i vs f u;obtain⟨A,F,q,D,C,B⟩:=M u s i;obtain⟨a1,a2,a3,a4⟩:=qHQ P hl O;refine⟨by rw[rbL,a1,A];rfl,λ I=>(by cases I),by rw[rrL,a2,wn,q,kg],D,λ id J=>(wj.1 J).elim (a3 id) (C id),λ c d L z=>?_⟩;rw[kg]at z |-
     rw[qZ,dS,a4 _ d (f.filterMap m.r) _ z];simp only;have:=B c (d++e.filterMap m.r) L (by grind);rw[wn,wd]at this;rw[this]
   |box l=>
     have w:qmU sas=true/\qmu sas=true:=by
      have:(qmU sas&&qmu sas)=true:=i;rw[wc]at this;exact this
     simp[jf]at h;split at h<;>try cases h
     rename_i v e b j;split at h<;>cases h;rename_i vs n f u;obtain⟨A,F,q,D,C,B⟩:=M u s w.2;unfold qR2 at j;split at j<;>try cases j
     rename_i b0 ac;split at j<;>try cases j
     rename_i cs G;split at j<;>cases j;rename_i W;obtain⟨ab,rfl⟩:=qOa ac O;obtain⟨q1,q2,q3⟩:=qSB l (m.b b);obtain⟨ds,d1,d2⟩:=P.box _ cs G;obtain⟨p1,p2,p3,p4⟩:=qvJ P W d2;have H:=F w.1;rw[H,xc]at q;refine⟨by rw[rbL,A,q1];rfl,λ _=>by rw[rrL,H,q2];rfl,?_,λ V K=>?_,λ id J=>(wj.1 J).elim (p3 id) (C id),λ c d U z=>?_⟩
     .rw[rrL,H,q2,xj,q,jQ d1,p2,kg];rfl
     .rcases wv.1 K with rfl|K
      .exact⟨ab,ds,d1,p1⟩
      .exact D V K
     .rw[wk]at U |-
      rw[kg]at z |-
      have R:=qH9 U
      have S:(qQ σ (c++m.b b::n.map m.b) (d++(e.filterMap m.r++f.filterMap m.r))).bx[c.length]?=some (qZ (λ V=>(c++m.b b::n.map m.b).idxOf V) (λ r=>(d++(e.filterMap m.r++f.filterMap m.r)).idxOf r) ds):=by
       show((c++m.b b::n.map m.b).map λ b=>qZ _ _ (σ.bx.getD b []))[c.length]?=_;rw[List.getElem?_map,List.getElem?_append_right (wa _),kP,List.getElem?_cons_zero];show some (qZ _ _ (σ.bx.getD (m.b b) []))=_;rw[jQ d1]
      have T:qjv (qQ σ (c++m.b b::n.map m.b) (d++(e.filterMap m.r++f.filterMap m.r))) l c.length d.length (bxA l c.length)=some (v,d.length+(e.filterMap m.r).length):=by
       simp[qjv,qNV,Nat.beq_refl,S];exact p4 _ d (f.filterMap m.r) _ z
      rw[qZ,q3,R,dS,T];simp only;have:=B (c++[m.b b]) (d++e.filterMap m.r) (by grind) (by grind);rw[wn,wn,wd,wd]at this;have this:dS (qQ σ (c++m.b b::n.map m.b) (d++(e.filterMap m.r++f.filterMap m.r))) sas (c.length+1) (d.length+(e.filterMap m.r).length) (qZ (λ V=>(c++m.b b::n.map m.b).idxOf V) (λ r=>(d++(e.filterMap m.r++f.filterMap m.r)).idxOf r) ys)=some vs:=this;rw[this]
theorem qJb: ∀{l},l.Nodup->nd l=true
 |[],_=>rfl
 |b::l,h=>by
   rw[k9]at h;rw[nd,qJb h.2];simp[h.1]
theorem qAg: ∀{l seen},l.Nodup->(∀b∈l,b ∉ seen)->qj seen l=l
 |[],seen,_,_=>rfl
 |b::l,seen,h,d=>by
   rw[k9]at h;rw[qj]
   have:seen.contains b=false:=by
    have:=d b (wh ..);simpa using this
   rw[this];simp only
   rw[qAg h.2 λ c e a=>by
    obtain rfl|a:=wv.1 a
    .exact h.1 e
    .exact d c (we _ e) a]
theorem qON{α}{f:α->List Nat}{l:List α}(h:∀x∈l,f x=[]):l.flatMap f=[]:=kM.2 h
theorem qPk{α f}{l:List α}{x}{r:Nat}(a:x∈l)(b:r∈f x):r∈l.flatMap f:=kh.2 ⟨x,a,b⟩
theorem qul{ys B R}(k:rbL ys=B)(e:(rrL ys++B.flatMap λ b=>rrL (σ.bx.getD b []))=R)(j:B.Nodup)(i:R.Nodup)(g:∀b∈B,∃ds,σ.bx[b]?=some ds/\rbL ds=[])(m:∀r∈R,r<σ.rw.length):
  QH σ ys=B/\qbE σ ys=R/\qgF σ ys=true:=by
 have o:∀b∈B,rbL (σ.bx.getD b [])=[]:=λ b a=>by let⟨ds,c,f⟩:=g b a;rw[jQ c];exact f
 have e1:QH σ ys=B:=by
  unfold QH;rw[k,qAg j (by simp)];cases σ.bx.length with
  |zero=>rfl
  |succ n=>rw[qoN,qON o];rfl
 have l:qbE σ ys=R:=by
  unfold qbE;rw[e1,e,qAg i (by simp)]
 refine⟨e1,l,?_⟩;unfold qgF;rw[e1,l,k,qJb j,qJb i];simp only[wV,wc,ww,war,decide_eq_true_eq];refine⟨⟨⟨λ _ h=>h,λ r h=>by rw[<-e];exact wj.2 (.inl h)⟩,λ b a=>?_⟩,m⟩;let⟨ds,c,f⟩:=g b a;refine⟨⟨getElem?_lt c,?_⟩,λ r d=>?_⟩
 .rw[jQ c,f];simp
 .rw[<-e];exact wj.2 (.inr (qPk a d))
theorem qKV{fb fr}:∀l,ren fb fr (zY l)=zY (qZ fb fr l)
 |[]|[x]|x::y::l=>rfl
theorem qEQ{R rn j}:yd R rn (R.length+j)=rn+j:=by
 unfold yd;rw[List.getElem?_eq_none (by omega)];show rn+(R.length+j-R.length)=_;omega
theorem qkY{B R bn rn}:∀l j v,qZ (yd B bn) (yd R rn) (qa7 l (R.length+j) v)=qa7 l (rn+j) v
 |[],j,v=>rfl
 |.val a::l,j,v=>by
   let⟨c,b⟩:=qaI (zq a v.1);rw[qa7,qFm,qsC _ c b,qkY l j v.2];rfl
 |.row a::l,j,v=>by
   have h:=qkY (B:=B) (R:=R) (bn:=bn) (rn:=rn) l (j+1) v.2;rw[<-wS,<-wS]at h;rw[qa7,qZ,ren,qEQ,h];rfl
theorem qqo{rws B R bn rn}:∀b nb j v,B.length<=nb->qyv rws b nb j v->qZ (yd B bn) (yd R rn) (qap b (R.length+j) v)=(qap b (rn+j) v).map λ y=>match y with
  |.ptr n o=>.ptr (bn+(n-B.length)) o
  |y=>y
 |[],nb,j,v,_,_=>rfl
 |.one (.val a)::b,nb,j,v,c,h=>by
   let⟨d,f⟩:=qfI (qhI a v.1);rw[qap,qZ,qsR d f,qqo b nb j v.2 c h,qap,wk];congr 1;split
   .rename_i n o e;rw[e]at d;cases d
   .rfl
 |.one (.row a)::b,nb,j,v,c,h=>by
   have h:=qqo (R:=R) (bn:=bn) (rn:=rn) b nb (j+1) v.2 c h;rw[<-wS,<-wS]at h;rw[qap,qZ,ren,qEQ,h];rfl
 |.agg l::b,nb,j,v,c,h=>by
   have h:=qqo (R:=R) (bn:=bn) (rn:=rn) b nb (j+nR l) v.2 c h;rw[<-wS,<-wS]at h;rw[qap,qZ,ren,qkY l j v.1,h];rfl
theorem qnG{rws B R bn rn}:∀b nb j v,qyv rws b nb j v->(qaG b (R.length+j) v).map (qZ (yd B bn) (yd R rn))=qaG b (rn+j) v
 |[],nb,j,v,_=>rfl
 |.one (.val a)::b,nb,j,v,h=>qnG b nb j v.2 h
 |.one (.row a)::b,nb,j,v,h=>qnG b nb (j+1) v.2 h
 |.agg l::b,nb,j,v,h=>by
   have h:=qnG (B:=B) (R:=R) (bn:=bn) (rn:=rn) b nb (j+nR l) v.2 h;rw[<-wS,<-wS]at h;exact h
theorem qjc{B R bn rn}:∀sas j o,(Jz sas (R.length+j) o).map (qZ (yd B bn) (yd R rn))=Jz sas (rn+j) o
 |[],j,o=>rfl
 |.nil::sas,j,o|.val _::sas,j,o|.row _::sas,j,o|.clo _ _::sas,j,o=>qjc sas j o
 |.box l::sas,j,o=>by
   have h:=qjc (B:=B) (R:=R) (bn:=bn) (rn:=rn) sas (j+nR l) o.2;rw[<-wS,<-wS]at h;rw[Jz,wk,qkY l j,h];rfl
theorem qqp{β}:∀a (l ks b:List β),ks.length=a.length->∃c,z8 l a (ks++b)=c++b/\c.length=l.length/\∀r,r ∉ a->c[r]?=l[r]?
 |[],l,ks,b,h=>by
   have:=wi h;subst this;exact⟨l,by simp[z8],rfl,λ _ _=>rfl⟩
 |r::a,l,[],b,h=>by simp at h
 |r::a,l,k::ks,b,h=>by
   let⟨c,i,g,f⟩:=qqp a (l.set r k) ks b (by grind);refine⟨c,i,by rw[g,wI],λ q d=>?_⟩;rw[f q λ e=>d (we _ e),List.getElem?_set_ne (by grind)]
def BxL(m:Mp):List (List TV)->List (List AV)->Prop
 |[],ys=>ys=[]
 |x::xs,ys=>∃y r,ys=y::r/\OKL m x y/\BxL m xs r
theorem BxL.mono{m'}(h:MLe m m'):∀{xs ys},BxL m xs ys->BxL m' xs ys
 |[],ys,a=>a
 |x::xs,ys,⟨y,r,e,c,b⟩=>⟨y,r,e,c.mono h,BxL.mono h b⟩
theorem qAS: ∀a {τ σ xs ys},Rel N m E τ tm σ->BxL m xs ys->xs.length=a.length->(∀b∈a,b<m.nb)->
  Rel N m E ⟨qte τ.bx a xs,τ.rw⟩ tm {σ with bx:=z8 σ.bx (a.map m.b) ys}
 |[],τ,σ,xs,ys,e,d,f,_=>by
   have:=wi f;subst this;cases d;show Rel N m E τ tm {σ with bx:=σ.bx++[]};rw[wy];exact e
 |b::a,τ,σ,xs,ys,e,d,f,g=>by
   cases xs with
   |nil=>simp at f
   |cons x xs=>
     obtain⟨y,r,rfl,j,i⟩:=d;have:=e.setBox (g b (wh ..)) j σ.wr;exact qAS a this i (by grind) λ c h=>g c (we _ h)
theorem qxW{b:Type}{l:List b}{i x f}(h:l[i]?=some x):l.modify i f=l.set i (f x):=by
 apply kY;intro j;rw[List.getElem?_modify,List.getElem?_set];by_cases a:i=j
 .subst a;rw[h,if_pos rfl,if_pos (getElem?_lt h)];simp
 .rw[if_neg a];cases l[j]? with
  |none=>rfl
  |some y=>simp[a]
theorem qDI: ∀a {m τ},Rel N m E τ tm σ->(∀id∈a,id<m.rw.length)->
  ∃m',MLe m m'/\Rel N m' E ⟨τ.bx,qpd τ.rw a⟩ tm σ/\m'.nb=m.nb/\m'.b=m.b/\m'.rw.length=m.rw.length/\(∀i r,m'.r i=some r->m.r i=some r/\i ∉ a)
 |[],m,τ,c,_=>⟨m,.refl m,c,rfl,rfl,rfl,λ i r h=>⟨h,by simp⟩⟩
 |id::a,m,τ,c,q=>by
   have n:=q id (wh ..);have g:=List.getElem?_eq_getElem n;generalize B:m.rw[id]=R at g;have e:MLe m (m.upd id ⟨R.τ,[],R.ver+1,R.sv,false⟩ none 0 []):=qLS g (ke _) (wa _) (λ h=>by have:R.ver+1=R.ver:=h;omega)
   have k:Rel N (m.upd id ⟨R.τ,[],R.ver+1,R.sv,false⟩ none 0 []) E ⟨τ.bx,τ.rw.modify id λ R=>⟨R.τ,[],R.ver+1,R.sv,false⟩⟩ tm σ:=by
    refine c.to e ?_ rfl rfl rfl (qDi g c.rows (λ _=>rfl) λ _ _ _ _ _ _ h=>h) ?_
    .show m.rw.set id _=τ.rw.modify id _;rw[<-c.rw,qxW g]
    .intro i f r p o e1 j;change i<(m.rw.set id _).length at p;change f<(m.rw.set id _).length at o;change (if i=id then none else m.r i)=some r at e1;change (if f=id then none else m.r f)=some r at j;simp at p o;split at e1<;>split at j<;>first|(cases e1;done)|(cases j;done)|exact c.rinj i f r p o e1 j
   let⟨m',y,x,w,v,u,t⟩:=qDI a k (λ i A=>by show i<(m.rw.set id _).length;rw[wI];exact q i (we _ A));refine⟨m',e.trans y,x,w,v,by rw[u];show(m.rw.set id _).length=_;rw[wI],λ i r h=>?_⟩;let⟨d,s⟩:=t i r h;have d:(if i=id then none else m.r i)=some r:=d;split at d
   .cases d
   .rename_i l;exact⟨d,λ z=>(wv.1 z).elim l s⟩
def qlM(m:Mp)(L:Nat):Prop:=∀id r,id<m.rw.length->m.r id=some r->r<L
def At(m:Mp)(t L n:Nat):Prop:=∀k,k<n->∃R,m.rw[t+k]?=some R/\R.ver=0/\R.sv=0/\m.r (t+k)=some (L+k)/\m.v (t+k)=0
theorem At.mono{m m' t L n}(h:At m t L n)(f:MLe m m')(e:∀(id:Nat) R R',m.rw[id]?=some R->m'.rw[id]?=some R'->R'=R):At m' t L n:=λ k g=>by
 let⟨R,c,o,l,j,i⟩:=h k g;let⟨R',d,_,_,p⟩:=f.row _ R c;cases e _ _ _ c d;let⟨_,a,b,_⟩:=p rfl;exact⟨R,d,o,l,a.trans j,b.trans i⟩
theorem At.join{m t L a b}(h:At m t L a)(g:At m (t+a) (L+a) b):At m t L (a+b):=λ k j=>by
 by_cases f:k<a
 .exact h k f
 .let⟨R,e,i,g3,c,d⟩:=g (k-a) (by omega);rw[show t+a+(k-a)=t+k by omega]at e c d;rw[show L+a+(k-a)=L+k by omega]at c;exact⟨R,e,i,g3,c,d⟩
theorem qHs(d:Rel N m E τ tm σ){L a l}(n:qlM m L)(p:σ.rw[L]?=some ⟨a.size,l.map (qe a),0,0,false⟩):
  ∃m',MLe m m'/\Rel N m' E ⟨τ.bx,τ.rw++[⟨a,l,0,0,false⟩]⟩ tm σ/\OK m' (.row τ.rw.length 0) (.rs L 0 l.length 0 false)/\qlM m' (L+1)/\m'.b=m.b/\m'.nb=m.nb/\At m' τ.rw.length L 1:=by
 have e:=qrX m ⟨a,l,0,0,false⟩ (some L) 0 (l.map (qe a));have q:JG σ ⟨a,l,0,0,false⟩ (some L) 0 (l.map (qe a)):=⟨⟨a.size,l.map (qe a),0,0,false⟩,p,rfl,rfl,rfl,qb1 (j9 a) l,wg _,λ _=>⟨rfl,rfl⟩⟩
 have i:Rel N (m.add ⟨a,l,0,0,false⟩ (some L) 0 (l.map (qe a))) E ⟨τ.bx,τ.rw++[⟨a,l,0,0,false⟩]⟩ tm σ:=by
  refine d.to e (by show m.rw++_=_;rw[d.rw]) rfl rfl rfl (qp4 d.rows q λ _ _ h=>h) ?_;intro id c r f o e1 g;change id<(m.rw++[_]).length at f;change c<(m.rw++[_]).length at o;change (if id=m.rw.length then some L else m.r id)=some r at e1;change (if c=m.rw.length then some L else m.r c)=some r at g;simp at f o;split at e1<;>split at g
  .omega
  .have:=n c r (by omega) g;cases e1;omega
  .have:=n id r (by omega) e1;cases g;omega
  .exact d.rinj id c r (by omega) (by omega) e1 g
 refine⟨_,e,i,⟨⟨a,l,0,0,false⟩,?_,wg _,.inr (.inr ⟨_,_,_,_,_,rfl⟩),λ _=>?_⟩,λ id r f e1=>?_,rfl,rfl,λ k s=>?_⟩
 .show(m.rw++_)[τ.rw.length]?=_;rw[d.rw];simp
 .show qag (if τ.rw.length=m.rw.length then some L else m.r τ.rw.length) (if τ.rw.length=m.rw.length then 0 else m.v τ.rw.length) a l _;rw[if_pos (by rw[d.rw]),if_pos (by rw[d.rw])];rfl
 .change id<(m.rw++[_]).length at f;change (if id=m.rw.length then some L else m.r id)=some r at e1;simp at f;split at e1
  .cases e1;omega
  .have:=n id r (by omega) e1;omega
 .have j:k=0:=by omega
  subst j;exact⟨⟨a,l,0,0,false⟩,by show(m.rw++_)[τ.rw.length+0]?=_;rw[d.rw];simp,rfl,rfl,by show(if τ.rw.length+0=m.rw.length then some L else _)=_;rw[if_pos (by rw[d.rw,wO])];rfl,by show(if τ.rw.length+0=m.rw.length then 0 else _)=_;rw[if_pos (by rw[d.rw,wO])]⟩
theorem qAf{m m':Mp}{ls rw rw'}(h:m.rw=rw)(d:m'.rw=rw')(c:rw'=rw++ls):∀(id:Nat) R R',m.rw[id]?=some R->m'.rw[id]?=some R'->R'=R:=λ id R R' b a=>by
 rw[d,c,<-h,List.getElem?_append_left (getElem?_lt b),b]at a;exact(kz a).symm
theorem qm0: ∀l {m τ L v},Rel N m E τ tm σ->qlM m L->(∀k Q,(qgA l v)[k]?=some Q->σ.rw[L+k]?=some Q)->
  ∃m',MLe m m'/\Rel N m' E ⟨τ.bx,τ.rw++qeh l v⟩ tm σ/\OKL m' (qh2 l τ.rw.length v) (qa7 l L v)/\qlM m' (L+nR l)/\m'.b=m.b/\m'.nb=m.nb/\At m' τ.rw.length L (nR l)
 |[],m,τ,L,v,c,d,_=>⟨m,.refl m,by show Rel N m E ⟨τ.bx,τ.rw++[]⟩ tm σ;rw[wy];exact c,rfl,d,rfl,rfl,λ k j=>absurd j (wN _)⟩
 |.val a::l,m,τ,L,v,c,d,g=>by
   obtain⟨m',f,e,i,p,o,n,h⟩:=qm0 l c d g;exact⟨m',f,e,(Qg (j9 a v.1)).append i,p,o,n,h⟩
 |.row a::l,m,τ,L,v,c,d,g=>by
   obtain⟨y,x,q,w,u,t,s,r⟩:=qHs c d (g 0 _ rfl)
   obtain⟨m',f,e,i,p,o,n,h⟩:=qm0 l q u λ k Q j=>by
    have:=g (k+1) Q j;rw[<-this];congr 1;omega
   rw[wn]at e;rw[wd]at i h
   exact⟨m',x.trans f,e,⟨_,_,rfl,w.mono f,i⟩,(by rw[nR,<-wS,vt];exact p),o.trans t,n.trans s,by
    rw[nR,wax];exact(r.mono f (qAf q.rw e.rw (wn ..).symm)).join h⟩
theorem qiN: ∀sas {m τ L o},Rel N m E τ tm σ->qlM m L->(∀k Q,(QV sas o)[k]?=some Q->σ.rw[L+k]?=some Q)->
  ∃m',MLe m m'/\Rel N m' E ⟨τ.bx,τ.rw++qdB sas o⟩ tm σ/\BxL m' (qki sas τ.rw.length o) (Jz sas L o)/\qlM m' (L+nrB sas)/\m'.b=m.b/\m'.nb=m.nb/\At m' τ.rw.length L (nrB sas)
 |[],m,τ,L,o,c,d,_=>⟨m,.refl m,by show Rel N m E ⟨τ.bx,τ.rw++[]⟩ tm σ;rw[wy];exact c,rfl,d,rfl,rfl,λ k e=>absurd e (wN _)⟩
 |.nil::sas,m,τ,L,o,c,d,a=>qiN sas c d a
 |.val _::sas,m,τ,L,o,c,d,a=>qiN sas c d a
 |.row _::sas,m,τ,L,o,c,d,a=>qiN sas c d a
 |.clo _ _::sas,m,τ,L,o,c,d,a=>qiN sas c d a
 |.box l::sas,m,τ,L,o,c,d,a=>by
   have a:∀k Q,(qgA l (toC l o.1)++QV sas o.2)[k]?=some Q->σ.rw[L+k]?=some Q:=a;obtain⟨y,x,j,w,u,t,s,r⟩:=qm0 l (v:=toC l o.1) c d λ k Q e=>a k Q (by grind)
   obtain⟨m',g,f,i,q,p,n,h⟩:=qiN sas j u λ k Q e=>by
    have:=a (nR l+k) Q (by rw[List.getElem?_append_right (by rw[qaU];omega),qaU,kQ];exact e);rw[<-this,wS]
   rw[wn]at f;rw[wd,Ju]at i h;exact⟨m',x.trans g,f,⟨_,_,rfl,w.mono g,i⟩,(by rw[nrB,<-wS];exact q),p.trans t,n.trans s,(r.mono g (qAf j.rw f.rw (wn ..).symm)).join h⟩
theorem qMW{τ τ' m'}(h:Rel N m E τ tm σ)(e:m'=m)(a:τ'=τ):Rel N m' E τ' tm σ:=by grind
theorem qH1{rws:List yk}{t0 L0 m m' rw ls}(h:m.rw=rw)(s:MLe m m')(u:m'.rw=rw++ls)(o:∀p R,rws[p]?=some R->∃q,m.rw[t0+p]?=some R/\R.ver=0/\R.sv=0/\m.r (t0+p)=some q/\q=L0+p/\m.v (t0+p)=0/\m.q (t0+p)=R.l.map (qe R.τ)):
  ∀p R,rws[p]?=some R->∃q,m'.rw[t0+p]?=some R/\R.ver=0/\R.sv=0/\m'.r (t0+p)=some q/\q=L0+p/\m'.v (t0+p)=0/\m'.q (t0+p)=R.l.map (qe R.τ):=λ p R t=>by
 let⟨q,d,n,k,j,i,g,f⟩:=o p R t;let⟨R',e,_,_,w⟩:=s.row _ R d;cases qAf h u rfl _ _ _ d e;let⟨_,a,b,_,c,_⟩:=w rfl;exact⟨q,e,n,k,a.trans j,i,b.trans g,(c rfl).trans f⟩
theorem Rel.addBox{τ}(d:Rel N m E τ tm σ){cs ds g}(h:σ.bx[g]?=some ds)(k:OKL m cs ds)(n:∀b,b<m.nb->m.b b≠g):
  ∃m',MLe m m'/\Rel N m' E ⟨τ.bx++[cs],τ.rw⟩ tm σ/\(∀b,b<m'.nb->(b<m.nb/\m'.b b=m.b b)\/m'.b b=g)/\(m'.rw=m.rw/\m'.r=m.r/\m'.v=m.v/\m'.q=m.q):=by
 have e:MLe m ⟨λ i=>if i=m.nb then g else m.b i,m.nb+1,m.r,m.v,m.q,m.rw⟩:=⟨ke _,λ i o=>if_neg (vu o),λ id R h=>⟨R,h,wa _,wa _,λ _=>⟨rfl,rfl,rfl,rfl,λ _=>rfl,λ _ _ h=>h⟩⟩⟩
 refine⟨_,e,⟨d.len,λ t=>(d.env t).mono e,d.rw,by show m.nb+1=(τ.bx++[cs]).length;rw[wd,d.nb];rfl,λ b cs' a=>?_,λ b c a k f=>?_,d.rows,d.rinj,qvR e d.pin⟩,λ b a=>?_,rfl,rfl,rfl,rfl⟩
 .have a:=a;show ∃ds,σ.bx[if b=m.nb then g else m.b b]?=some ds/\_;by_cases j:b<τ.bx.length
  .rw[List.getElem?_append_left j]at a;rw[if_neg (by rw[d.nb];exact vu j)];let⟨l,s,p⟩:=d.box b cs' a;exact⟨l,s,p.mono e⟩
  .have:b=τ.bx.length:=by
     have:=getElem?_lt a;simp at this;omega
   subst this;rw[List.getElem?_append_right (wa _),kP]at a;cases a;rw[if_pos d.nb.symm];exact⟨ds,h,k.mono e⟩
 .have a:b<m.nb+1:=a;have k:c<m.nb+1:=k;have f:(if b=m.nb then g else m.b b)=(if c=m.nb then g else m.b c):=f;split at f<;>split at f
  .omega
  .exact absurd f.symm (n c (by omega))
  .exact absurd f (n b (by omega))
  .exact d.inj b c (by omega) (by omega) f
 .have a:b<m.nb+1:=a;by_cases f:b=m.nb
  .exact .inr (if_pos f)
  .exact .inl ⟨by omega,if_neg f⟩
theorem qpn{rws t0 s bn B NB}:∀c {m τ nb d v},Rel N m E τ tm σ->qlM m (s+d)->τ.rw.length=t0+d->(∀p R,rws[p]?=some R->∃q,m.rw[t0+p]?=some R/\R.ver=0/\R.sv=0/\m.r (t0+p)=some q/\q=s+p/\m.v (t0+p)=0/\m.q (t0+p)=R.l.map (qe R.τ))->qyv rws c nb d v->(∀k Q,(Jy c v)[k]?=some Q->σ.rw[s+d+k]?=some Q)->
  τ.bx.length=bn+(nb-NB)->NB<=nb->B+(nb-NB)+(qaG c (s+d) v).length<=σ.bx.length->(∀b,b<m.nb->m.b b<B+(nb-NB))->(∀k ds,(qaG c (s+d) v)[k]?=some ds->σ.bx[B+(nb-NB)+k]?=some ds)->
  ∃m',MLe m m'/\Rel N m' E ⟨τ.bx++qD1 c τ.rw.length v,τ.rw++qGu c v⟩ tm σ/\OKL m' (qFR bn NB c τ.rw.length v) ((qap c (s+d) v).map λ y=>match y with|.ptr n o=>.ptr (B+(n-NB)) o|y=>y)
 |[],m,τ,nb,d,v,i,_,_,_,_,_,_,_,_,_,_=>⟨m,.refl m,qMW i rfl (by show(⟨τ.bx++[],τ.rw++[]⟩:TS)=τ;rw[wy,wy]),rfl⟩
 |.one (.val a)::c,m,τ,nb,d,v,i,D,H,A,C,j,h,g,f,u,e=>by
   obtain⟨m',z,x,w⟩:=qpn c i D H A C j h g f u e;refine⟨m',z,x,⟨_,_,rfl,?_,w⟩⟩;have:=qtu (m:=m') a v.1;show OK m' _ (match yR a v.1 with|.ptr n o=>.ptr (B+(n-NB)) o|y=>y);split
   .rename_i n o O;have K:=(qfI (qhI a v.1)).1;rw[O]at K;cases K
   .exact this
 |.one (.row a)::c,m,τ,nb,d,v,i,D,H,A,C,j,h,g,f,u,e=>by
   obtain⟨M,G,F,J,L,T,S,P⟩:=qHs i D (j 0 _ rfl)
   obtain⟨m',z,x,w⟩:=qpn c (d:=d+1) F L (by grind) (qH1 i.rw G F.rw A) C (λ k Q t=>by
    have:=j (k+1) Q t;rw[<-this];congr 1;omega) h g f (by grind) e
   rw[wn,wd]at x;rw[wd]at w;exact⟨m',G.trans z,x,⟨_,_,rfl,J.mono z,w⟩⟩
 |.agg l::c,m,τ,nb,d,v,i,D,H,A,C,j,h,g,f,u,e=>by
   have j:∀k Q,(qgA l v.1++Jy c v.2)[k]?=some Q->σ.rw[s+d+k]?=some Q:=j;obtain⟨M,G,F,J,L,T,S,P⟩:=qm0 l (v:=v.1) i D λ k Q t=>j k Q (by grind)
   obtain⟨m',z,x,w⟩:=qpn c F (by grind) (by show(τ.rw++_).length=_;rw[wd,H,Ju,wS]) (qH1 i.rw G F.rw A) C (λ k Q t=>by
    have:=j (nR l+k) Q (by rw[List.getElem?_append_right (by rw[qaU];omega),qaU,kQ];exact t);rw[<-this];congr 1;omega) h g (by rw[<-wS];exact f) (by grind) (λ k ds t=>by rw[<-wS]at t;exact e k ds t)
   rw[wn,wd,Ju]at x;rw[wd,Ju,<-wS]at w;have I:OK m' (.agg (qh2 l τ.rw.length v.1)) (.agg (qa7 l (s+d) v.1)):=⟨_,rfl,J.mono z⟩
   exact⟨m',G.trans z,x,⟨_,_,rfl,I,w⟩⟩
theorem qeC{τ}:∀{sas xs a c d},jf τ sas xs=some (a,c,d)->∀L o,(qki sas L o).length=c.length
 |[],xs,a,c,d,h,L,o=>by
   cases xs with
   |nil=>simp only[jf,wB,wL]at h;rw[<-h.2.1];rfl
   |cons x xs=>simp[jf]at h
 |.nil::sas,xs,a,c,d,h,L,o=>by
   cases xs with
   |nil=>simp[jf]at h
   |cons x xs=>
     cases x with
     |nil=>exact qeC (sas:=sas) h L o
     |_=>simp[jf]at h
 |.clo g k::sas,xs,a,c,d,h,L,o=>by
   cases xs with
   |nil=>simp[jf]at h
   |cons x xs=>
     cases x with
     |fn e cs=>
       simp[jf]at h;split at h<;>try cases h
       exact qeC h L o
     |_=>simp[jf]at h
 |.val t::sas,xs,a,c,d,h,L,o=>by
   cases xs with
   |nil=>simp[jf]at h
   |cons x xs=>
     simp[jf]at h;split at h<;>try cases h
     split at h<;>cases h;rename_i b;exact qeC b L o
 |.row t::sas,xs,a,c,d,h,L,o=>by
   cases xs with
   |nil=>simp[jf]at h
   |cons x xs=>
     simp[jf]at h;split at h<;>try cases h
     split at h<;>cases h;rename_i b;exact qeC b L o
 |.box t::sas,xs,a,c,d,h,L,o=>by
   cases xs with
   |nil=>simp[jf]at h
   |cons x xs=>
     simp[jf]at h;split at h<;>try cases h
     split at h<;>cases h;rename_i b;rw[qki,wx,wx,qeC b _ o.2]
theorem qlR: ∀{l},ndN l=true->l.Nodup
 |[],_=>kZ
 |b::l,h=>by
   rw[ndN,wc,ww]at h;refine k9.2 ⟨λ a=>?_,qlR h.2⟩;have:=h.1 b a;simp at this
theorem qxz{f:Nat->Nat}:∀{l:List Nat},l.Nodup->(∀a∈l,∀b∈l,f a=f b->a=b)->(l.map f).Nodup
 |[],_,_=>kZ
 |b::l,h,e=>by
   rw[k9]at h;rw[wk,k9];refine⟨λ g=>?_,qxz h.2 λ a j c d=>e a (we _ j) c (we _ d)⟩;let⟨c,d,i⟩:=wC.1 g;have:=e c (we _ d) b (wh ..) i;subst this;exact h.1 d
theorem qCL{f:Nat->Option Nat}:∀{l:List Nat},l.Nodup->(∀a∈l,∀b∈l,∀r,f a=some r->f b=some r->a=b)->(l.filterMap f).Nodup
 |[],_,_=>kZ
 |b::l,h,i=>by
   rw[k9]at h;have g:=qCL h.2 λ a m c d=>i a (we _ m) c (we _ d);cases e:f b with
   |none=>rw[xQ e];exact g
   |some r=>
     rw[xC e,k9];refine⟨λ j=>?_,g⟩;let⟨c,d,k⟩:=kF.1 j;have:=i c (we _ d) b (wh ..) r k e;subst this;exact h.1 d
theorem qA8{xs ys}(h:OKL m xs ys):OK m (qr5 xs) (zY ys):=by
 cases xs with
 |nil=>cases h;exact⟨[],rfl,rfl⟩
 |cons x xs=>
   obtain⟨y,r,rfl,d,c⟩:=h;cases xs with
   |nil=>cases c;exact d
   |cons x' xs=>
     obtain⟨a,b,rfl,f,e⟩:=c;exact(⟨y::a::b,rfl,y,_,rfl,d,a,_,rfl,f,e⟩:∃ds,AV.tup (y::a::b)=.tup ds/\OKL m (x::x'::xs) ds)
theorem qLf(b):∀rw,(qpd rw b).length=rw.length:=by
 induction b with
 |nil=>intro rw;rfl
 |cons a b c=>
   intro rw;show(qpd (rw.modify a _) b).length=_;rw[c,vY]
theorem qK7{f xs ys}(hr:Rel N m E τ tm σ)(ho:OKL m xs ys)(hh:c.has f=false){g}(hg:c.mf f=some g)(h:qGj τ g xs K=some r):Sim N m E τ tm σ K r (qbv c.pc f σ ys):=by
 obtain⟨t,sas,fn⟩:=g;unfold qGj at h;split at h
 case h_2=>cases h
 rename_i x xs;split at h
 case h_2=>cases h
 rename_i l ids a hl ha;split at h
 case h_2=>cases h
 rename_i hord
 replace hl:qiS τ.rw t x=some (l,ids):=hl
 have hids:ids=[]\/∃ id,ids=[id]:=by
  unfold qiS at hl
  repeat' split at hl
  all_goals first | (cases hl;done) | (cases hl;exact .inl rfl) | (cases hl;exact .inr ⟨_,rfl⟩)
 have hs:jf τ (.row t::sas) (x::xs)=some ((l,a),[],ids):=by
  rw[jf,hl];rw[ha];simp
 obtain⟨i1,_,i2,i3,i4,i5⟩:=quD hr hs ho hord
 have hp:∀ σ' v R,qbE σ ys=R->QH σ ys=[]->qgF σ ys=true->fn (l,a)=some v->dS (qQ σ [] R) (.row t::sas) 0 0 (qZ (λ b=>([]:List Nat).idxOf b) (λ r=>R.idxOf r) ys)=some (l,a)->Nat.beq v.length l.length=true ->
   (match(qQ σ [] R).bx,(qQ σ [] R).rw with
    | [],[Q]=>some (AV.tup [],some (⟨[],[⟨Q.k,v.map (qe t),Q.ver,Q.fz,Q.off⟩],[],[0]⟩:St))
    | [],[]=>some (.tup [],none)
    | _,_=>none)=some (.tup [],σ')->qbv c.pc f σ ys=some (qh3 σ [] R (.tup [],σ')):=by
  intro σ' v R h1 h2 h3 h4 h5 h6 h7;unfold qbv;have e1:c.pc.pf f=none:=by show(match c.has f with | true=>some (jC c f) | false=>none)=_;rw[hh]
  have e2:c.pc.sp f=some (mgP ⟨t,sas,fn⟩):=by show c.spf f=_;unfold TC.spf;rw[hg]
  rw[e1,e2];unfold Qu;rw[h3,h2,h1]
  have hm:mgP ⟨t,sas,fn⟩ (qQ σ [] R) (qZ (λ b=>([]:List Nat).idxOf b) (λ r=>R.idxOf r) ys)=some (.tup [],σ'):=by
   unfold mgP;rw[h5];simp[h4,h6];exact h7
  simp only[hm]
 have fin:∀ R,ids.filterMap m.r=R->qbE σ ys=R/\QH σ ys=[]/\qgF σ ys=true/\dS (qQ σ [] R) (.row t::sas) 0 0 (qZ (λ b=>([]:List Nat).idxOf b) (λ r=>R.idxOf r) ys)=some (l,a):=by
  intro R hR
  have nr:R.Nodup:=by
   rw[<- hR];rcases hids with rfl | ⟨id,rfl⟩
   ·exact kZ
   ·cases hq:m.r id with
    | none=>rw[xQ hq];exact kZ
    | some q=>rw[xC hq];exact k9.2 ⟨xP,kZ⟩
  have hRlt:∀ q∈R,q < σ.rw.length := λ q hq=>by
   rw[<- hR]at hq;obtain⟨id,h1,h2⟩:=kF.1 hq;exact hr.row_lt (i4 id h1) h2
  obtain⟨s1,s2,s3⟩:=qul i1 (by grind) kZ nr (λ b hb=>by cases hb) hRlt;have:=i5 [] [] kZ (by grind);rw[hR]at this;exact⟨s2,s1,s3,this⟩
 split at h
 case h_3=>cases h
 ·rename_i id;obtain⟨v,hv,h1⟩:=JS h;obtain⟨hlen,h2⟩:=jY h1;have hvl:=wm hlen;unfold qiS at hl;split at hl
  ·cases hl
  ·split at hl<;>cases hl
  ·rename_i id' ver;split at hl<;>try cases hl
   rename_i Rw hRw;split at hl<;>try cases hl
   rename_i hvs;rw[wc,wM]at hvs;split at hl<;>cases hl;rename_i hc;obtain⟨e,he⟩:=jD hc;subst e;subst he;have hR':m.rw[id]?=some Rw:=by rw[hr.rw];exact hRw
   have hgood:=hr.rows id Rw hR';have hmod : τ.rw.modify id (λ R=>(⟨Rw.τ,v,R.ver,R.sv+1,false⟩:yk)) = τ.rw.set id ⟨Rw.τ,v,Rw.ver,Rw.sv+1,false⟩:=qxW hRw;have h:=h2;rw[hmod]at h;cases hq:m.r id with
   | none =>
     obtain⟨s1,s2,s3,s4⟩:=fin [] (by grind);have hpc:=hp none v [] s1 s2 s3 hv s4 hlen rfl;rw[hq]at hgood;have hn:=hgood hvs.2;have hvn:v=[]:=wi (by grind)
     obtain⟨m',g1,g2,_⟩:=hr.rowUpd (R2:=⟨Rw.τ,v,Rw.ver,Rw.sv+1,false⟩) hRw none (m.v id) (m.q id) (wa _) (ke _)
      (λ _=>⟨hvl,hq.symm,rfl,rfl,λ _=>rfl,λ _ y hy=>by rw[hvn,<- hn];exact hy⟩) rfl (λ _=>hvn)
      (λ id' r' h1 h2 h3=>⟨(by simp),λ Q hQ=>hQ⟩)
     exact⟨_,_,_,none,m',h,hpc,g1,g2,⟨[],rfl,rfl⟩,λ h=>by cases h⟩
   | some q =>
     obtain⟨s1,s2,s3,s4⟩:=fin [q] (by grind);rw[hq]at hgood;obtain⟨Q,k2,kc,kv,kk,kd,kf,ks⟩:=hgood;have hsub:(qQ σ [] [q]).rw=[Q]:=by show[σ.rw.getD q ⟨0,[],0,0,false⟩]=[Q];rw[jQ k2]
     have hpc:=hp (some ⟨[],[⟨Q.k,v.map (qe Rw.τ),Q.ver,Q.fz,Q.off⟩],[],[0]⟩) v [q] s1 s2 s3 hv s4 hlen (by rw[hsub];rfl);have hrl:=getElem?_lt k2
     have hbk:qh3 σ [] [q] (.tup [],some ⟨[],[⟨Q.k,v.map (qe Rw.τ),Q.ver,Q.fz,Q.off⟩],[],[0]⟩)=(.tup [],some { σ with rw := σ.rw.set q ⟨Q.k,v.map (qe Rw.τ),Q.ver,Q.fz,Q.off⟩,wrr:=q :: σ.wrr }):=by
      simp[qh3,qhR,z8,ren,qZ,yd]
     rw[hbk]at hpc
     obtain⟨m',g1,g2,_⟩:=hr.rowUpd (R2:=⟨Rw.τ,v,Rw.ver,Rw.sv+1,false⟩) hRw (m.r id) (m.v id) (v.map (qe Rw.τ)) (wa _) (ke _)
      (λ _=>⟨hvl,rfl,rfl,rfl,(λ h=>by have:Rw.sv+1=Rw.sv:=h;omega),(λ h=>by rw[hq]at h;cases h)⟩) (σ':={ σ with rw := σ.rw.set q ⟨Q.k,v.map (qe Rw.τ),Q.ver,Q.fz,Q.off⟩,wrr:=q :: σ.wrr }) rfl
      (by
       rw[hq];refine⟨⟨Q.k,v.map (qe Rw.τ),Q.ver,Q.fz,Q.off⟩,by show(σ.rw.set q _)[q]?=_;rw[List.getElem?_set_self hrl],rfl,kv,kk,qb1 (j9 Rw.τ) v,?_,λ _=>ks hvs.2⟩;rw[(ks hvs.2).1];exact wg _)
      (λ id' r'' h1 h2 h3=>by
       have hne:=hr.others hRw hq h1 h2 h3;refine⟨λ he=>by rw[hq]at he;exact hne (kz he).symm,λ Q' hQ'=>?_⟩;rw[List.getElem?_set_ne (xT hne)];exact hQ')
     exact .to h hpc g1 g2 ⟨[],rfl,rfl⟩
  ·cases hl
 ·obtain⟨v,hv,h⟩:=JS h;obtain⟨hlen,h⟩:=jY h;obtain⟨s1,s2,s3,s4⟩:=fin [] rfl;have hpc:=hp none v [] s1 s2 s3 hv s4 hlen rfl;exact .same hr h hpc ⟨[],rfl,rfl⟩
theorem qKY{f xs ys}(hr:Rel N m E τ tm σ)(ho:OKL m xs ys)(hh:c.has f=false)(hmf:c.mf f=none){g}(hg:c.xf f=some g)(h:qDq τ g xs K=some r):Sim N m E τ tm σ K r (qbv c.pc f σ ys):=by
 unfold qDq at h;split at h
 case h_2=>cases h
 rename_i a bs rs hvs;split at h
 case h_2=>cases h
 rename_i hnd;rw[wc,wc]at hnd;obtain⟨hnd1,hnd2,hord⟩:=hnd;obtain⟨v,hv,h⟩:=JS h;obtain⟨i1,_,i2,i3,i4,i5⟩:=quD hr hvs ho hord;have nb:=qxz (qlR hnd1) λ x hx y hy he=>hr.inj x y (i3 x hx).1 (i3 y hy).1 he;have nr:=qCL (qlR hnd2) λ x hx y hy q e1 e2=>hr.rinj x y q (i4 x hx) (i4 y hy) e1 e2
 have hRlt:∀ q∈rs.filterMap m.r,q < σ.rw.length := λ q hq=>by
  obtain⟨id,h1,h2⟩:=kF.1 hq;exact hr.row_lt (i4 id h1) h2
 have i2':(rrL ys++(bs.map m.b).flatMap λ b=>rrL (σ.bx.getD b []))=rs.filterMap m.r:=by rw[vh];exact i2
 obtain⟨s1,s2,s3⟩:=qul i1 i2' nb nr (λ b hb=>by obtain⟨b0,h1,rfl⟩:=wC.1 hb;exact(i3 b0 h1).2) hRlt;have hd:=i5 [] [] nb nr;generalize hB:bs.map m.b=B at *;generalize hR:rs.filterMap m.r=R at *
 have hsg:xgP g (qQ σ B R) (qZ (λ b=>B.idxOf b) (λ r=>R.idxOf r) ys)=some (.v (.int .i64 v),none):=by
  unfold xgP;have hd:dS (qQ σ B R) g.args 0 0 (qZ (λ b=>B.idxOf b) (λ r=>R.idxOf r) ys)=some a:=hd;rw[hd];simp[hv]
 have hpc:qbv c.pc f σ ys=some (.v (.int .i64 v),none):=by
  unfold qbv;have e1:c.pc.pf f=none:=by show(match c.has f with | true=>some (jC c f) | false=>none)=_;rw[hh]
  have e2:c.pc.sp f=some (xgP g):=by show c.spf f=_;unfold TC.spf;rw[hmf,hg]
  rw[e1,e2];unfold Qu;rw[s3,s1,s2];simp only[hsg];rfl
 exact .same hr h hpc rfl
theorem qi0: ∀sas L o,(qki sas L o).length=nBx sas
 |[],_,_=>rfl
 |.nil::sas,L,o|.clo _ _::sas,L,o|.val _::sas,L,o|.row _::sas,L,o=>qi0 sas L o
 |.box _::sas,L,o=>by rw[qki,wx,qi0 sas _ o.2,nBx]
theorem qbl: ∀sas L o,(Jz sas L o).length=nBx sas
 |[],_,_=>rfl
 |.nil::sas,L,o|.clo _ _::sas,L,o|.val _::sas,L,o|.row _::sas,L,o=>qbl sas L o
 |.box _::sas,L,o=>by rw[Jz,wx,qbl sas _ o.2,nBx]
theorem qA5: ∀c a xs,(qte a c xs).length=a.length
 |[],a,xs=>by cases xs<;>rfl
 |b::c,a,[]=>rfl
 |b::c,a,x::xs=>by rw[qte,qA5 c,wI]
theorem qws{β}:∀a (l ks b:List β),ks.length=a.length->z8 l a (ks++b)=z8 l a ks++b
 |[],l,ks,b,h=>by
   have:=wi h;simp[z8]
 |r::a,l,[],b,h=>by simp at h
 |r::a,l,k::ks,b,h=>qws a (l.set r k) ks b (by grind)
theorem Rel.moreBx{τ}(a:Rel N m E τ tm σ)(xs):Rel N m E τ tm {σ with bx:=σ.bx++xs}:=
 ⟨a.len,a.env,a.rw,a.nb,λ b cs d=>by
  let⟨ds,c,e⟩:=a.box b cs d;exact⟨ds,by show(σ.bx++xs)[_]?=_;rw[List.getElem?_append_left (getElem?_lt c)];exact c,e⟩,a.inj,a.rows,a.rinj,a.pin⟩
theorem qvd: ∀l v (p:Nat) R Q,(qeh l v)[p]?=some R->(qgA l v)[p]?=some Q->Q.c=R.l.map (qe R.τ)
 |[],v,p,R,Q,h,_=>by cases h
 |.val _::l,v,p,R,Q,h,g=>qvd l v.2 p R Q h g
 |.row a::l,v,0,R,Q,h,g=>by cases h;cases g;rfl
 |.row a::l,v,p+1,R,Q,h,g=>qvd l v.2 p R Q h g
theorem qi1: ∀sas o (p:Nat) R Q,(qdB sas o)[p]?=some R->(QV sas o)[p]?=some Q->Q.c=R.l.map (qe R.τ)
 |[],o,p,R,Q,h,_=>by cases h
 |.nil::sas,o,p,R,Q,h,g|.clo _ _::sas,o,p,R,Q,h,g|.val _::sas,o,p,R,Q,h,g|.row _::sas,o,p,R,Q,h,g=>qi1 sas o p R Q h g
 |.box l::sas,o,p,R,Q,h,g=>by
   have h:(qeh l (toC l o.1)++qdB sas o.2)[p]?=some R:=h;have g:(qgA l (toC l o.1)++QV sas o.2)[p]?=some Q:=g;by_cases a:p<nR l
   .rw[List.getElem?_append_left (by rw[Ju];exact a)]at h;rw[List.getElem?_append_left (by rw[qaU];exact a)]at g;exact qvd l _ p R Q h g
   .rw[List.getElem?_append_right (by rw[Ju];omega),Ju]at h;rw[List.getElem?_append_right (by rw[qaU];omega),qaU]at g;exact qi1 sas o.2 _ R Q h g
theorem qAq{f:Nat}{xs:List TV}{ys:List AV}(hr:Rel N m E τ tm σ)(ho:OKL m xs ys)(hh:c.has f=false)(h:qxc c τ f xs K=some r):Sim N m E τ tm σ K r (qbv c.pc f σ ys):=by
 unfold qxc at h;split at h
 ·exact qK7 hr ho hh ‹_› h
 rename_i hmf;split at h
 ·exact qKY hr ho hh hmf ‹_› h
 rename_i hxf;split at h
 case h_2=>cases h
 rename_i g hg;split at h
 case h_2=>cases h
 rename_i a bs rs hvs;split at h
 case h_2=>cases h
 rename_i hnd;rw[wc,wc]at hnd;obtain⟨hnd1,hnd2,hord⟩:=hnd;obtain⟨v,hv,h⟩:=JS h;obtain⟨rs',v',h,hnum,hsol⟩:=qpl g.res (nBx g.args) (nrB g.args) v.2 (by rw[qa1];exact wa _) h;obtain⟨i1,_,i2,i3,i4,i5⟩:=quD hr hvs ho hord;have nb:=qxz (f:=m.b) (qlR hnd1) λ x hx y hy he=>hr.inj x y (i3 x hx).1 (i3 y hy).1 he;have nr:=qCL (f:=m.r) (qlR hnd2) λ x hx y hy q e1 e2=>hr.rinj x y q (i4 x hx) (i4 y hy) e1 e2
 have hRlt:∀ q∈rs.filterMap m.r,q < σ.rw.length := λ q hq=>by
  obtain⟨id,h1,h2⟩:=kF.1 hq;exact hr.row_lt (i4 id h1) h2
 have i2':(rrL ys++(bs.map m.b).flatMap λ b=>rrL (σ.bx.getD b []))=rs.filterMap m.r:=by rw[vh];exact i2
 obtain⟨s1,s2,s3⟩:=qul (σ := σ) i1 i2' nb nr (λ b hb=>by obtain⟨b0,h1,rfl⟩:=wC.1 hb;exact(i3 b0 h1).2) hRlt;have hd:=i5 [] [] nb nr;rw[xc,xc]at hd;have hbl:=qeC hvs (σ.rw.length) v.1;have hBl:(bs.map m.b).length=nBx g.args:=by rw[wE,<- hbl,qi0]
 generalize hB:bs.map m.b=B at *;generalize hR:rs.filterMap m.r=R at *;have hsl:(qQ σ B R).rw.length=R.length:=wE ..
 have hsg:sgP g (qQ σ B R) (qZ (λ b=>B.idxOf b) (λ r=>R.idxOf r) ys)=some (zY (qap rs' (R.length+nrB g.args) v'),some ⟨Jz g.args R.length v.1++qaG rs' (R.length+nrB g.args) v',(qQ σ B R).rw.map QW++(QV g.args v.1++Jy rs' v'),List.range (qQ σ B R).bx.length,List.range (qQ σ B R).rw.length⟩):=by
  unfold sgP;have hd:dS (qQ σ B R) g.args 0 0 (qZ (λ b=>B.idxOf b) (λ r=>R.idxOf r) ys)=some a:=hd;rw[hd];simp only[hv];rw[hsl];exact hsol _
 have hpc:qbv c.pc f σ ys=some (zY ((qap rs' (σ.rw.length+nrB g.args) v').map λ y=>match y with | .ptr n o => .ptr (σ.bx.length+(n-nBx g.args)) o | y=>y),some (qhR σ B R ⟨Jz g.args R.length v.1++qaG rs' (R.length+nrB g.args) v',(qQ σ B R).rw.map QW++(QV g.args v.1++Jy rs' v'),List.range (qQ σ B R).bx.length,List.range (qQ σ B R).rw.length⟩)):=by
  unfold qbv;have e1:c.pc.pf f=none:=by show(match c.has f with | true=>some (jC c f) | false=>none)=_;rw[hh]
  have e2:c.pc.sp f=some (sgP g):=by show c.spf f=_;unfold TC.spf;rw[hmf,hxf,hg]
  rw[e1,e2];simp only;unfold Qu;rw[s3,s1,s2];simp only[hsg,qh3];rw[qKV,qqo rs' (nBx g.args) (nrB g.args) v' (vw hBl) hnum,hBl]
 obtain⟨m1,k1,k2,k3,k4,k5,k6⟩:=qDI rs hr i4;obtain⟨l',l1,l2,l3⟩:=qqp R σ.rw ((qQ σ B R).rw.map QW) (QV g.args v.1++Jy rs' v') (by grind);have hbe:(Jz g.args σ.rw.length v.1).length=B.length:=by rw[hBl,qbl]
 have hbs:qhR σ B R ⟨Jz g.args R.length v.1++qaG rs' (R.length+nrB g.args) v',(qQ σ B R).rw.map QW++(QV g.args v.1++Jy rs' v'),List.range (qQ σ B R).bx.length,List.range (qQ σ B R).rw.length⟩=⟨z8 σ.bx B (Jz g.args σ.rw.length v.1)++qaG rs' (σ.rw.length+nrB g.args) v',l'++(QV g.args v.1++Jy rs' v'),(List.range (qQ σ B R).bx.length).map (yd B σ.bx.length) ++ σ.wr,(List.range (qQ σ B R).rw.length).map (yd R σ.rw.length) ++ σ.wrr⟩:=by
  unfold qhR;have h1:=qjc (B:=B) (R:=R) (bn := σ.bx.length) (rn := σ.rw.length) g.args 0 v.1;have h2:=qnG (B:=B) (R:=R) (bn := σ.bx.length) (rn := σ.rw.length) rs' _ _ v' hnum;rw[wO,wO]at h1;simp only[wZ,h1,h2,l1,qws _ _ _ _ hbe]
 have hlow := λ id r h1 h2=>hr.row_lt (by rw[<- k5];exact h1) (k6 id r h2).1;let σ':St:=⟨σ.bx,l'++(QV g.args v.1++Jy rs' v'),(List.range (qQ σ B R).bx.length).map (yd B σ.bx.length) ++ σ.wr,(List.range (qQ σ B R).rw.length).map (yd R σ.rw.length) ++ σ.wrr⟩
 have hrel:Rel N m1 E ⟨τ.bx,qpd τ.rw rs⟩ tm σ':=by
  refine k2.rowsTo rfl λ id Rw hRw=>(k2.rows id Rw hRw).later λ q Q hq hQ=>?_;obtain⟨q1,q2⟩:=k6 id q hq;have hql:=hr.row_lt (by grind) q1;show(l'++_)[q]?=_;rw[List.getElem?_append_left (by rw[l2];exact hql),l3 q λ hm=>?_]
  ·exact hQ
  ·rw[<- hR]at hm;obtain⟨id',h1,h2⟩:=kF.1 hm;have:=hr.rinj id id' q (by grind) (i4 id' h1) q1 h2;subst this;exact q2 h1
 obtain⟨m2,z1,z2,z3,z4,z5,z6,z7⟩:=qiN g.args (o:=v.1) hrel hlow λ k Q hk=>by
  show(l'++(QV g.args v.1++Jy rs' v'))[σ.rw.length+k]?=_;rw[List.getElem?_append_right (by rw[l2];omega),l2,kQ,List.getElem?_append_left (getElem?_lt hk)];exact hk
 have hkl:=qLf rs τ.rw;have z3:=z3;have z7:=z7;rw[hkl]at z3 z7;have hbx:=qAS bs z2 z3 (qeC hvs _ v.1) λ b hb=>by rw[z6,k3];exact(i3 b hb).1
 rw[z5,k4,hB]at hbx
 have hsa:(z8 σ.bx B (Jz g.args σ.rw.length v.1)).length = σ.bx.length:=by
  obtain⟨lb,b1,b2,_⟩:=qqp B σ.bx (Jz g.args σ.rw.length v.1) [] hbe;rw[wy,wy]at b1;rw[b1,b2]
 have hbx2:=hbx.moreBx (qaG rs' (σ.rw.length+nrB g.args) v');have hsbl:(qte τ.bx bs (qki g.args τ.rw.length v.1)).length = τ.bx.length:=qA5 _ _ _
 obtain⟨m3,y1,y2,y3⟩:=qpn (bn := τ.bx.length) (B := σ.bx.length) (NB:=nBx g.args) rs' (nb:=nBx g.args) (d:=nrB g.args) (v:=v') hbx2 z4 (by show(qpd τ.rw rs++qdB g.args v.1).length=_;rw[wd,hkl,qa1]) (λ p R hp=>by
   have hpl:=getElem?_lt hp;rw[qa1]at hpl;obtain⟨R',g1,g2,g3,g4,g5⟩:=z7 p hpl
   have hRe:m2.rw[τ.rw.length+p]?=some R:=by
    rw[z2.rw];show(qpd τ.rw rs++qdB g.args v.1)[_]?=_;rw[List.getElem?_append_right (by rw[hkl];omega),hkl,kQ];exact hp
   cases hRe.symm.trans g1;refine⟨_,hRe,g2,g3,g4,rfl,g5,?_⟩;have hg:=hbx2.rows _ _ hRe;rw[g4]at hg;obtain⟨Q,q1,q2,_⟩:=hg;rw[<- q2];have q1:=q1;rw[List.getElem?_append_right (by rw[l2];omega),l2,kQ,List.getElem?_append_left (by rw[qb4];exact hpl)]at q1;exact qi1 g.args v.1 p _ _ hp q1) hnum (λ k Q hk=>by
  show(l'++(QV g.args v.1++Jy rs' v'))[σ.rw.length+nrB g.args+k]?=_;rw[List.getElem?_append_right (by rw[l2];omega),l2,show σ.rw.length+nrB g.args+k - σ.rw.length=nrB g.args+k by omega,List.getElem?_append_right (by rw[qb4];omega),qb4,kQ]
  exact hk) (by grind) (wa _) (by grind) (λ b hb=>by
   rw[kP,wO,z5,k4];rw[z6,k3]at hb;obtain⟨ds,d1,_⟩:=hr.box b _ (List.getElem?_eq_getElem (by rw[<- hr.nb];exact hb));exact getElem?_lt d1) (λ k ds hk=>by
   rw[kP,wO];show(z8 σ.bx B (Jz g.args σ.rw.length v.1)++_)[_]?=_;rw[List.getElem?_append_right (by rw[hsa];omega),hsa,kQ];exact hk)
 have y2:=y2;rw[wn,wd,hkl,qa1]at y2;have y3:=y3;rw[wd,hkl,qa1]at y3;rw[hpc,hbs];exact .to h rfl (k1.trans (z1.trans y1)) y2 (qA8 y3)
end
abbrev waM:=@TC.lo_eq
end Go.AmZ
namespace Go.AmZ
open Go Go.RowKit Go.GxZ
section
variable {α:Type}{N:Nat×Nat}{m:Mp}{E:Env}{τ:TS}{tm:List AV}{σ:St}{K:KT α}{r:α}{p:Option (AV×Option St)}{c:TC}{C:Cfg}
theorem qNI{rw:List yk}{a:Ty}{f:Nat}{cs:List TV}{v:Val a}(h:qcu rw a (.fn f cs)=some v):False:=by
 unfold qcu at h;cases a with
 |int k|bool|str|list a|map a b|term|pair a b|one a=>cases h
theorem qAL{σ b a:Type}{p:σ->Option b}{q:List σ->Option a}{xs:List σ}{v:b×a}(h:qn1 p q xs=some v):∃x r,xs=x::r/\p x=some v.1/\q r=some v.2:=by
 unfold qn1 at h;split at h<;>try cases h
 split at h<;>try cases h
 split at h<;>cases h;exact⟨_,_,rfl,by assumption,by assumption⟩
theorem qrM(hq:yW m σ):∀(ts:List ATy) {xs:List TV} {ys:List AV} {v:qed ts},qxg m.rw ts xs=some v->OKL m xs ys ->
  qdW ts (ys.map (jk σ.rw))=some v/\qf6 (ys.map (jk σ.rw))=qpE xs/\noRefs (ys.map (jk σ.rw))=true
 | [],xs,ys,v,h,ho=>by
   cases xs with
   | nil=>cases ho;exact⟨rfl,rfl,rfl⟩
   | cons x xs=>cases h
 | .val a::ts,xs,ys,v,h,ho=>by
   obtain⟨x,xs,rfl,hw,hws⟩:=qAL h;obtain⟨y,r,rfl,h1,h2⟩:=ho;obtain⟨g1,_⟩:=qhd hq hw h1;obtain⟨k1,k2,k3⟩:=qrM hq ts hws h2;obtain⟨p1,p2⟩:=qeE g1;refine⟨?_,?_,?_⟩
   ·show qn1 _ _ (jk σ.rw y::r.map (jk σ.rw))=_;simp only[qn1,g1,k1]
   ·rw[wk]
    have e1:qf6 (jk σ.rw y::r.map (jk σ.rw))=qf6 (r.map (jk σ.rw)):=by
     generalize jk σ.rw y=z at p2;cases z<;>first | rfl | exact absurd rfl (p2 _ _)
    have e2:qpE (x::xs)=qpE xs:=by
     cases x<;>first | rfl | exact(qNI hw).elim
    rw[e1,e2,k2]
   ·rw[wk];unfold noRefs at k3 |-
    rw[wX,p1,k3];rfl
 | .fn::ts,xs,ys,v,h,ho=>by
   change pFn _ xs=_ at h;unfold pFn at h;split at h
   case h_2=>cases h
   obtain⟨y,r,rfl,⟨ds,rfl,hd⟩,h2⟩:=ho;cases hd;obtain⟨k1,k2,k3⟩:=qrM hq ts h h2;refine⟨k1,?_,?_⟩
   ·show _::qf6 _=_::qpE _;rw[k2]
   ·unfold noRefs at k3 |-
    rw[wk,wX,k3];rfl
theorem qHk:∀(ts:List Ty) (v:qg4 ts),OKL m (unL ts v) (qbg ts v)/\noRefs (qbg ts v)=true
 |[],_=>⟨rfl,rfl⟩
 |[a],v=>⟨⟨_,_,rfl,qtu a v,rfl⟩,by show(jE (yR a v)&&true)=true;rw[qhI];rfl⟩
 |a::b::r,v=>by
   let⟨d,c⟩:=qHk (b::r) v.2;refine⟨⟨_,_,rfl,qtu a v.1,d⟩,?_⟩;show(jE (yR a v.1)&&noRefs (qbg (b::r) v.2))=true;rw[qhI,c];rfl
theorem qAH{l:List AV}(h:noRefs l=true):jE (.tup l)=true:=by
 have:=qjj h;unfold jE;rw[rb,rr,this.1,this.2];rfl
theorem qOH{xs:List TV}{ys:List AV}(h:OKL m xs ys)(a:noRefs ys=true):OK m (qr5 xs) (zY ys)/\jE (zY ys)=true:=by
 cases xs with
 |nil=>cases h;exact⟨⟨[],rfl,rfl⟩,rfl⟩
 |cons x xs=>
   obtain⟨y,r,rfl,c,b⟩:=h;cases xs with
   |nil=>
     cases b
     have:jE y=true:=by
      unfold noRefs at a;simpa using a
     exact⟨c,this⟩
   |cons x' xs=>
     obtain⟨f,g,rfl,e,d⟩:=b;exact⟨⟨_,rfl,⟨_,_,rfl,c,_,_,rfl,e,d⟩⟩,qAH a⟩
theorem qDY{a:Ty}(h:qym a=true)(v:Val a):isV (yR a v)=true:=by
 cases a<;>first|rfl|(cases h)
theorem qD0:∀{ts:List Ty} (v:qg4 ts),ts.all qym=true->(qbg ts v).all isV=true
 |[],_,_=>rfl
 |[a],v,h=>by
   have:qym a=true:=by simpa using h
   show(isV (yR a v)&&true)=true;rw[qDY this];rfl
 |a::b::r,v,h=>by
   rw[wX,wc]at h;show(isV (yR a v.1)&&(qbg (b::r) v.2).all isV)=true;rw[qDY h.1,qD0 v.2 h.2];rfl
theorem qNr{ts:List Ty}{v:qg4 ts}(h:ts.all qym=true):qjx (zY (qbg ts v))=true:=by
 have:=qD0 v h;revert this;cases qbg ts v with
 |nil=>intro _;rfl
 |cons x l=>
   cases l with
   |nil=>
     intro a;have a:isV x=true:=by simpa using a
     show qjx x=true;cases x<;>first|rfl|(cases a)
   |cons y l=>intro a;exact a
theorem qPx{f:Nat}{xs:List TV}{ys:List AV}(hr:Rel N m E τ tm σ)(ho:OKL m xs ys)(h:qKj c τ f xs K=some r):Sim N m E τ tm σ K r (qbv c.pc f σ ys):=by
 unfold qKj at h;split at h
 case h_2=>cases h
 case h_3 hh=>exact qAq hr ho hh h
 rename_i g hh hg;split at h<;>try cases h
 rename_i a ha;obtain⟨v,hv,h⟩:=JS h;rw[<- hr.rw]at ha;obtain⟨g1,g2,g3⟩:=qrM hr.rows g.args ha ho;obtain⟨e1,e2⟩:=qHk (m:=m) g.res v;obtain⟨e3,e4⟩:=qOH e1 e2;have hp:c.pc.pf f=some (jC c f):=by show(match c.has f with | true=>some (jC c f) | false=>none)=_;rw[hh]
 have hs:jC c f (ys.map (jk σ.rw))=some (zY (qbg g.res v)):=by
  unfold jC;rw[g2,hg];simp only[g1,hv]
 have hst:qbv c.pc f σ ys=match qjx (zY (qbg g.res v)),ys.flatMap rsA with
   | true,_| _,[]=>some (zY (qbg g.res v),none)
   | _,r::l=>some (zY (qbg g.res v),some { σ with rw:=frz σ.rw (r::l),wrr:=(r::l) ++ σ.wrr }):=by
  unfold qbv;simp only[hp,g3,hs,e4];rfl
 rw[hst];split at h
 ·rename_i hno;rcases Bool.or_eq_true_iff.1 hno with hno | hno
  ·rw[quU hno ho];refine .same hr h ?_ e3;cases qjx (zY (qbg g.res v))<;>rfl
  ·rw[qNr hno];exact .same hr h rfl e3
 ·split
  ·exact⟨_,some (shA τ),_,none,shM m,h,rfl,qge m,hr.share rfl hr.rows.sh,e3.mono (qge m),λ h=>by cases h⟩
  ·exact⟨_,some (shA τ),_,none,shM m,h,rfl,qge m,hr.share rfl hr.rows.sh,e3.mono (qge m),λ h=>by cases h⟩
  ·exact .to h rfl (qge m) (hr.share (σ':={ σ with rw:=frz σ.rw _,wrr:=_ }) rfl (hr.rows.frz _ _)) (e3.mono (qge m))
end
end Go.AmZ
namespace Go.AmZ
open Go Go.RowKit Go.GxZ
section
variable {α:Type}{N:Nat×Nat}{m:Mp}{E:Env}{τ:TS}{tm:List AV}{σ:St}{K:KT α}{r:α}{p:Option (AV×Option St)}{c:TC}{C:Cfg}
theorem qDN{a:Ty}{b:List (List AV)}{l:List (Val a)}(h:zl (qL a) b=some l):uni a.size b=true:=by
 unfold uni;rw[ww];intro e d;let⟨i,c⟩:=List.getElem?_of_mem d;let⟨v,_,f⟩:=J0 h c;let⟨pre,k,j,g,_⟩:=yc a (qR.1 f);grind
theorem qrR{n bytes:Nat}(h:zo n bytes=true):n*bytes<=2^47/\n<2^62:=of_decide_eq_true h
theorem qHy{bytes:Nat}{a:Ty}{s:TV}{xs:List (Val a)}{y:AV}{b:List (List AV)}(u:Rel N m E τ tm σ)(Z:OK m s y)(X:zl (qL a) b=some xs)(h:qJp a.size bytes τ a s xs K=some r):
  Sim N m E τ tm σ K r (yg a.size bytes σ y b):=by
 have d:=zb X;unfold qJp at h;split at h
 .-- nil
  cases Z;unfold qkH at h;split at h
  .have:b=[]:=wi (by simpa using d);subst this;exact .same u h rfl rfl
  .rename_i x A;let⟨h1,h⟩:=jY h;let⟨q1,q2⟩:=qrR h1;let⟨m',I,Y,g3⟩:=u.rowNew X;have G:zx (qaO b) 0=false:=by simp[zx,qaO,d]
   have F:b.length=A.length+1:=by simpa using d
   have t:rowNew a.size bytes b=some (⟨a.size,b,0,0,false⟩,b.length):=by
    grind [rowNew]
   refine .to h (y:=.rs σ.rw.length 0 b.length 0 false) (by simp only[yg,G,t]) I Y ?_;rw[d];exact g3
 .-- a list
  rename_i V l lv;split at h<;>try cases h
  rename_i z;have z:=of_decide_eq_true z;split at h<;>try cases h
  rename_i l S;obtain⟨e,rfl⟩:=jD S;subst e;let⟨h1,h⟩:=jY h;let⟨q1,q2⟩:=qrR h1;unfold qkH at h;split at h
  .have:b=[]:=wi (by simpa using d);subst this;refine .same u h ?_ Z;obtain⟨rfl,_⟩|⟨g,n,rfl,_⟩:=yS Z.1<;>rfl
  rename_i x A _;have G:zx (qaO b) 0=false:=by simp[zx,qaO,d]
  have F:b.length=A.length+1:=by simpa using d
  let⟨af,ae⟩:=Z;obtain⟨rfl,P⟩|⟨g,n,rfl,h2⟩:=yS af
  .have P:l=[]:=P;subst P;let⟨m',I,Y,g3⟩:=u.rowNew X
   have t:rowNew V.size bytes b=some (⟨V.size,b,0,0,false⟩,b.length):=by
    grind [rowNew]
   refine .to h (y:=.rs σ.rw.length 0 b.length 0 false) (by simp only[yg,G,t]) I Y ?_;rw[d];exact g3
  .have C:=qab h2 X;have O:=zb C;let⟨m',I,Y,g3⟩:=u.rowNew C
   have t:rowNew V.size bytes (qlG g b)=some (⟨V.size,qlG g b,0,0,false⟩,(qlG g b).length):=by
    grind [rowNew,qlG]
   have hc:(decide (1<n+1)&&zx V.size V.size&&uni V.size g)=true:=by
    have:1<n+1:=wA z ae;simp only[decide_eq_true this,zx,decide_true,qDN h2,xa]
   refine .to h (y:=.rs σ.rw.length 0 (qlG g b).length 0 false) (by simp only[yg,G,hc,t];rfl) I Y ?_;show OK m' _ (.rs _ 0 (g++b).length 0 false);rw[O];exact g3
 .-- a row
  rename_i id D;split at h<;>try cases h
  rename_i R H;split at h<;>try cases h
  rename_i hv;have hv:R.ver=D:=wm hv;split at h<;>try cases h
  rename_i l S;obtain⟨e,rfl⟩:=jD S;subst e;let⟨h1,h⟩:=jY h;let⟨q1,q2⟩:=qrR h1;let⟨R',I,Y,g3,g4⟩:=Z;rw[u.rw,H]at I;cases I;have ag:m.rw[id]?=some R:=by rw[u.rw];exact H
  have gy:=g4 hv;clear g4;subst hv;obtain⟨rr,Q,B,W,k1,k2,kv,k3,k4,kf,ks⟩|⟨B,hq,W,z⟩:=qhk u.rows ag gy
  .have ah:=zb k4;have ad:rr<σ.rw.length:=getElem?_lt k1;by_cases he:xs=[]
   .subst he;have:b=[]:=wi (by simpa using d);subst this
    let⟨m',M,L,J⟩:=u.rowUpd (R2:=⟨R.τ,R.l++[],R.ver+1,R.sv,R.sh⟩) H (m.r id) (m.v id) (m.q id) (ke _) (wa _) (λ h=>by have:R.ver+1=R.ver:=h;omega) (σ':=σ) rfl
     (by rw[B];exact⟨Q,k1,k2,kv,k3,by rw[wy];exact k4,kf,ks⟩) λ k j w o i=>⟨λ p=>by rw[B]at p;exact u.others H B w o i (kz p).symm,λ _ h=>h⟩
    refine⟨_,some _,y,none,m',h,by rw[W];rfl,M,L,J y ?_,λ h=>by cases h⟩;grind
   .have G:zx (qaO b) 0=false:=by
      grind [zx,qaO]
    have T:qsV Q R.τ.size 0 Q.c.length Q.ver false bytes b=some ({Q with c:=Q.c++b,ver:=Q.ver+1},Q.c.length+b.length):=by
     grind [qsV]
    let⟨m',M,L,J⟩:=u.rowUpd (R2:=⟨R.τ,R.l++xs,R.ver+1,R.sv,R.sh⟩) H (some rr) (Q.ver+1) (Q.c++b) (ke _) (wa _) (λ h=>by have:R.ver+1=R.ver:=h;omega)
     (σ':={σ with rw:=σ.rw.set rr {Q with c:=Q.c++b,ver:=Q.ver+1},wrr:=rr::σ.wrr}) rfl
     ⟨{Q with c:=Q.c++b,ver:=Q.ver+1},by show(σ.rw.set rr _)[rr]?=_;rw[List.getElem?_set_self ad],rfl,rfl,k3,qab k4 X,by show Q.fz<=(Q.c++b).length;rw[wd];omega,ks⟩ λ k j w o i=>by
      have aa:=u.others H B w o i;exact⟨λ p=>aa (kz p).symm,λ Q' U=>by show(σ.rw.set rr _)[j]?=_;rw[List.getElem?_set_ne (xT aa)];exact U⟩
    refine .to h (y:=.rs rr 0 (Q.c.length+b.length) (Q.ver+1) false) (by rw[W];simp only[yg,G,k1,T]) M L (J _ ?_);show _=AV.rs rr 0 (R.l++xs).length (Q.ver+1) false;grind
  .have ab:∀k j,k≠id->k<m.rw.length->m.r k=some j->j<σ.rw.length:=λ _ _ _ o h=>u.row_lt o h;by_cases he:xs=[]
   .subst he;have:b=[]:=wi (by simpa using d);subst this
    let⟨m',M,L,J⟩:=u.rowUpd (R2:=⟨R.τ,R.l++[],R.ver+1,R.sv,R.sh⟩) H none 0 [] (ke _) (wa _) (λ h=>by have:R.ver+1=R.ver:=h;omega) (σ':=σ) rfl
     (λ hs=>by show R.l++[]=[];rw[hq hs];rfl) λ k j w o i=>⟨λ p=>(by cases p),λ _ h=>h⟩
    refine⟨_,some _,y,none,m',h,?_,M,L,J y ⟨by show dlist R.τ y=some (R.l++[]);rw[wy];exact W,z⟩,λ h=>by cases h⟩;obtain⟨rfl,_⟩|⟨b,n,rfl,_⟩:=yS W<;>rfl
   .have G:zx (qaO b) 0=false:=by
      grind [zx,qaO]
    have ac:∀f,zl (qL R.τ) f=some (R.l++xs)->yg R.τ.size bytes σ y b=(match Go.AmZ.rowNew R.τ.size bytes f with|some (R,n)=>some (.rs σ.rw.length 0 n 0 false,some {σ with rw:=σ.rw++[R]})|none=>none)->Sim N m E τ tm σ K r (yg R.τ.size bytes σ y b):=by
     intro f C T;have F:=zb C;rw[wd]at F
     have t:rowNew R.τ.size bytes f=some (⟨R.τ.size,f,0,0,false⟩,f.length):=by
      grind [rowNew]
     let⟨m',M,L,J⟩:=u.rowUpd (R2:=⟨R.τ,R.l++xs,R.ver+1,R.sv,R.sh⟩) H (some σ.rw.length) 0 f (ke _) (wa _) (λ h=>by have:R.ver+1=R.ver:=h;omega)
      (σ':={σ with rw:=σ.rw++[⟨R.τ.size,f,0,0,false⟩]}) rfl
      ⟨⟨R.τ.size,f,0,0,false⟩,by show(σ.rw++[_])[σ.rw.length]?=_;simp,rfl,rfl,rfl,C,wg _,λ _=>⟨rfl,rfl⟩⟩ λ k j w o i=>by
        have:=ab k j w o i;exact⟨λ p=>by have:=kz p;omega,λ Q' U=>by show(σ.rw++[_])[j]?=_;rw[List.getElem?_append_left this];exact U⟩
     refine .to h (y:=.rs σ.rw.length 0 f.length 0 false) (by rw[T,t]) M L (J _ ?_);show _=AV.rs σ.rw.length 0 (R.l++xs).length 0 false;rw[wd,F]
    obtain⟨rfl,S⟩|⟨g,n,rfl,S⟩:=yS W
    .grind [yg]
    .have hc:(decide (1<n+1)&&zx R.τ.size R.τ.size&&uni R.τ.size g)=true:=by
       have:1<n+1:=z;simp only[decide_eq_true this,zx,decide_true,qDN S,xa]
     exact ac (qlG g b) (qab S X) (by simp only[yg,G,hc];rfl)
 .cases h
end
end Go.AmZ
namespace Go.AmZ
open Go Go.RowKit Go.GxZ
section
variable {α:Type}{N:Nat×Nat}{m:Mp}{E:Env}{τ:TS}{tm:List AV}{σ:St}{K:KT α}{r:α}{p:Option (AV×Option St)}{c:TC}{C:Cfg}
theorem qAY{m':Mp}:∀{xs:List TV}{ys:List AV},(xs.all λ|.i .. |.b _|.s _|.c _|.nil|.sl .. => true|_=>false)=true->OKL m xs ys->OKL m' xs ys
 |[],_,_,h=>h
 |x::xs,_,h,⟨y,r,rfl,d,a⟩=>by
   rw[wX,wc]at h;refine⟨y,r,rfl,?_,qAY h.2 a⟩;have h:=h.1;cases x<;>first|exact d|(cases h)
theorem qLn{m':Mp}{x:TV}{y:AV}(h:qE3 x=true)(a:OK m x y):OK m' x y:=by
 cases x with
 |fn f cs=>
   have:cs=[]:=by simpa[qE3,xt]using h
   subst this;obtain⟨ds,rfl,b⟩:=a;cases b;exact⟨[],rfl,rfl⟩
 |agg cs=>
   obtain⟨ds,rfl,b⟩:=a;exact⟨ds,rfl,qAY h b⟩
 |_=>first|exact a|(cases h)
structure qi2 (m:Mp) (tm:List AV) (σ:St) (M:Mv) (m':Mp):Prop where
 rw:m'.rw=M.rw
 nb:m'.nb=M.bx.length
 box:∀b cs,M.bx[b]?=some cs->∃ds,σ.bx[m'.b b]?=some ds/\OKL m' cs ds
 src:∀b',b'<m'.nb->∃b,jX M.mb b=some b'/\m'.b b'=m.b b/\b<m.nb
 mb:∀b b',jX M.mb b=some b'->b'<m'.nb/\m'.b b'=m.b b
 rows:yW m' σ
 rsrc:∀id' r,id'<m'.rw.length->m'.r id'=some r->∃id,jX M.mr id=some id'/\m.r id=some r/\id<m.rw.length
 mr:∀id id',jX M.mr id=some id'->∃R R',m.rw[id]?=some R/\m'.rw[id']?=some R'/\R'.ver=0/\(∀y,qag (m.r id) (m.v id) R.τ R.l y->qag (m'.r id') (m'.v id') R'.τ R'.l y)
 env:∀t,OK m' (get M.E t) (tm.getD t .dead)
theorem qyn{b a k v:Nat}{l:List (Nat×Nat)}(h:jX ((k,v)::l) b=some a):(k=b/\v=a)\/(k≠b/\jX l b=some a):=by
 simp only[jX]at h;split at h
 .grind [Nat.eq_of_beq_eq_true]
 .rename_i c;exact .inr ⟨λ d=>by rw[d]at c;simp at c,h⟩
theorem qvV{k v:Nat}{l:List (Nat×Nat)}:jX ((k,v)::l) k=some v:=by simp[jX]
theorem qC7{b k v:Nat}{l:List (Nat×Nat)}(h:k≠b):jX ((k,v)::l) b=jX l b:=by
 grind [jX,Nat.eq_of_beq_eq_true]
theorem qi2.addRow{M:Mv}{m':Mp}(h:qi2 m tm σ M m')(R2:yk)(d:Option Nat)(f:Nat)(p:List (List AV)){e:List (Nat×Nat)}(G:R2.ver=0)
  (F:JG σ R2 d f p)
  (w:(e=M.mr/\d=none)\/∃id R,jX M.mr id=none/\e=(id,M.rw.length)::M.mr/\d=m.r id/\m.rw[id]?=some R/\∀y,qag (m.r id) (m.v id) R.τ R.l y->qag d f R2.τ R2.l y):
  ∃g,MLe m' g/\qi2 m tm σ {M with rw:=M.rw++[R2],mr:=e} g/\∀y,qag d f R2.τ R2.l y->OK g (.row M.rw.length 0) y:=by
 have i:MLe m' (m'.add R2 d f p):=qrX _ _ _ _ _;have J:∀{id:Nat}{R:yk},m'.rw[id]?=some R->(m'.rw++[R2])[id]?=some R/\¬ id=m'.rw.length:=λ h=>⟨by rw[List.getElem?_append_left (getElem?_lt h)];exact h,vu (getElem?_lt h)⟩
 refine⟨m'.add R2 d f p,i,?_,?_⟩
 .refine⟨by show m'.rw++_=M.rw++_;rw[h.rw],h.nb,?_,h.src,h.mb,qp4 h.rows F λ _ _ h=>h,?_,?_,λ t=>(h.env t).mono i⟩
  .intro b cs E;let⟨ds,s,o⟩:=h.box b cs E;exact⟨ds,s,o.mono i⟩
  .intro a r n j;change a<(m'.rw++[_]).length at n;change (if a=m'.rw.length then d else m'.r a)=some r at j;simp at n;split at j
   .rename_i c;obtain⟨_,C⟩|⟨id,R,s,o,g3,q,_⟩:=w
    .rw[C]at j;cases j
    .refine⟨id,?_,by rw[<-g3];exact j,getElem?_lt q⟩;show jX e id=some a;rw[o,qvV,c,h.rw]
   .let⟨id,A,z,x⟩:=h.rsrc a r (by omega) j;grind [qC7]
  .intro id a c;change jX e id=some a at c
   have k:jX M.mr id=some a->∃R R',m.rw[id]?=some R/\(m'.rw++[R2])[a]?=some R'/\R'.ver=0/\(∀y,qag (m.r id) (m.v id) R.τ R.l y->qag (if a=m'.rw.length then d else m'.r a) (if a=m'.rw.length then f else m'.v a) R'.τ R'.l y):=by
    intro c;let⟨K,R',A,z,x,I⟩:=h.mr id a c;grind
   obtain⟨D,_⟩|⟨B,R,s,o,g3,q,H⟩:=w
   .rw[D]at c;exact k c
   .rw[o]at c;obtain⟨rfl,rfl⟩|⟨_,c⟩:=qyn c
    .refine⟨R,R2,q,by show(m'.rw++_)[M.rw.length]?=_;rw[h.rw];simp,G,?_⟩;show ∀y,_->qag (if M.rw.length=m'.rw.length then d else m'.r M.rw.length) (if M.rw.length=m'.rw.length then f else m'.v M.rw.length) _ _ y;rw[if_pos (by rw[h.rw]),if_pos (by rw[h.rw])];exact H
    .exact k c
 .intro y u;refine⟨R2,by show(m'.rw++_)[M.rw.length]?=_;rw[h.rw];simp,wg _,u.ish,λ _=>?_⟩;show qag (if M.rw.length=m'.rw.length then d else m'.r M.rw.length) (if M.rw.length=m'.rw.length then f else m'.v M.rw.length) _ _ y;rw[if_pos (by rw[h.rw]),if_pos (by rw[h.rw])];exact u
theorem qi2.addBox{M:Mv}{m':Mp}(h:qi2 m tm σ M m'){b:Nat}(r:b<m.nb)(s:jX M.mb b=none){ys:List TV}{ds:List AV}(q:σ.bx[m.b b]?=some ds)(p:OKL m' ys ds):
  ∃g,MLe m' g/\qi2 m tm σ {M with bx:=M.bx++[ys],mb:=(b,M.bx.length)::M.mb} g/\OK g (.ptr M.bx.length 0) (.ptr (m.b b) 0):=by
 have d:MLe m' {m' with b:=λ i=>if i=m'.nb then m.b b else m'.b i,nb:=m'.nb+1}:=
  ⟨ke _,λ i e=>if_neg (vu e),λ id R h=>⟨R,h,wa _,wa _,λ _=>⟨rfl,rfl,rfl,rfl,(λ _=>rfl),λ _ _ h=>h⟩⟩⟩
 refine⟨_,d,?_,?_⟩
 .refine⟨h.rw,by show m'.nb+1=(M.bx++[ys]).length;rw[h.nb];simp,?_,?_,?_,h.rows,h.rsrc,h.mr,λ t=>(h.env t).mono d⟩
  .intro i cs e;change (M.bx++[ys])[i]?=some cs at e;show ∃ds,σ.bx[if i=m'.nb then m.b b else m'.b i]?=some ds/\_;by_cases j:i=m'.nb
   .rw[if_pos j];rw[j,h.nb]at e;simp at e;subst e;exact⟨ds,q,p.mono d⟩
   .rw[if_neg j];have l:i<M.bx.length:=by have:=getElem?_lt e;simp at this;have:=h.nb;omega
    rw[List.getElem?_append_left l]at e;let⟨o,n,k⟩:=h.box i cs e;exact⟨o,n,k.mono d⟩
  .intro c a;change c<m'.nb+1 at a;show ∃f,jX ((b,M.bx.length)::M.mb) f=some c/\(if c=m'.nb then m.b b else m'.b c)=m.b f/\f<m.nb;by_cases j:c=m'.nb
   .exact⟨b,by rw[qvV,j,h.nb],if_pos j,r⟩
   .let⟨f,n,k,g3⟩:=h.src c (by omega);refine⟨f,?_,by rw[if_neg j];exact k,g3⟩;grind [qC7]
  .intro f c a;change jX ((b,M.bx.length)::M.mb) f=some c at a;show c<m'.nb+1/\(if c=m'.nb then m.b b else m'.b c)=m.b f;obtain⟨rfl,rfl⟩|⟨_,a⟩:=qyn a
   .rw[<-h.nb];grind
   .let⟨n,k⟩:=h.mb f c a;grind
 .refine⟨?_,?_⟩
  .show M.bx.length<m'.nb+1;rw[h.nb];exact xu _
  .show _=AV.ptr (if M.bx.length=m'.nb then m.b b else m'.b M.bx.length) 0;rw[if_pos h.nb.symm]
mutual
theorem qMr(hr:Rel N m E τ tm σ):∀(co:Co) {x:TV} {y:AV} {M:Mv} {m':Mp} {K:TV->Mv->Option α} {r : α},mvT τ co x M K=some r->OK m x y->qi2 m tm σ M m' ->
  ∃ x' M' m'',K x' M'=some r/\MLe m' m''/\qi2 m tm σ M' m''/\OK m'' x' y/\M'.E=M.E
 | .keep,x,y,M,m',K,r,h,ho,hM=>by
   simp only[mvT]at h;split at h
   ·rename_i hp;exact⟨x,M,m',h,.refl m',hM,qLn hp ho,rfl⟩
   ·exact⟨.dead,M,m',h,.refl m',hM,trivial,rfl⟩
 | .list a,x,y,M,m',K,r,h,ho,hM=>by
   simp only[mvT]at h;split at h
   ·cases ho;exact⟨_,M,m',h,.refl m',hM,⟨rfl,by decide⟩,rfl⟩
   ·split at h<;>try cases h
    rename_i l hl;obtain⟨e,rfl⟩:=jD hl;subst e;exact⟨_,M,m',h,.refl m',hM,⟨ho.1,qnq ho.1⟩,rfl⟩
   ·exact⟨.dead,M,m',h,.refl m',hM,trivial,rfl⟩
 | .plist a,x,y,M,m',K,r,h,ho,hM=>by
   simp only[mvT]at h;split at h
   ·cases ho;exact⟨_,M,m',h,.refl m',hM,⟨rfl,by decide⟩,rfl⟩
   ·split at h<;>try cases h
    rename_i l hl;obtain⟨e,rfl⟩:=jD hl;subst e;exact⟨_,M,m',h,.refl m',hM,⟨ho.1,qnq ho.1⟩,rfl⟩
   ·exact⟨.dead,M,m',h,.refl m',hM,trivial,rfl⟩
 | .row a sh,x,y,M,m',K,r,h,ho,hM=>by
   simp only[mvT]at h;split at h
   ·cases ho;obtain⟨m'',g1,g2,g3⟩:=hM.addRow ⟨a,[],0,0,sh⟩ none 0 [] rfl (λ _=>rfl) (.inl ⟨rfl,rfl⟩);exact⟨_,_,m'',h,g1,g2,g3 _ ⟨rfl,wa _⟩,rfl⟩
   ·rename_i a' l lv;split at h<;>try cases h
    rename_i l hl hlv;obtain⟨e,rfl⟩:=jD hl;subst e;have hlv:=of_decide_eq_true hlv;obtain⟨ho1,ho2⟩:=ho;split at h
    ·obtain⟨m'',g1,g2,g3⟩:=hM.addRow ⟨a',l,0,0,true⟩ none 0 [] rfl (λ h=>by cases h) (.inl ⟨rfl,rfl⟩);exact⟨_,_,m'',h,g1,g2,g3 _ ⟨ho1,by omega⟩,rfl⟩
    ·split at h<;>try cases h
     rename_i hnil;have hnil:l=[]:=hnil;subst hnil;obtain⟨m'',g1,g2,g3⟩:=hM.addRow ⟨a',[],0,0,false⟩ none 0 [] rfl (λ _=>rfl) (.inl ⟨rfl,rfl⟩);exact⟨_,_,m'',h,g1,g2,g3 _ ⟨ho1,by omega⟩,rfl⟩
   ·rename_i id ver;split at h<;>try cases h
    rename_i R hR;split at h<;>try cases h
    rename_i hv;rw[wc]at hv;have hsh:=hv.2;have hv:R.ver=ver:=wm hv.1;split at h<;>try cases h
    rename_i l hl;obtain⟨e,rfl⟩:=jD hl;subst e;obtain⟨R',k1,_,_,k2⟩:=ho;rw[hr.rw,hR]at k1;cases k1;have hy:=k2 hv;have hR':m.rw[id]?=some R:=by rw[hr.rw];exact hR
    split at h
    ·rename_i id' has;obtain⟨R0,R1,z1,z2,z3,z4⟩:=hM.mr id id' has;rw[hR']at z1;cases z1;exact⟨_,M,m',h,.refl m',hM,⟨R1,z2,wg _,hy.ish,λ _=>z4 y hy⟩,rfl⟩
    ·rename_i has;have hrow:=hr.rows id R hR'
     have hrow2:JG σ ⟨R.τ,R.l,0,0,sh⟩ (m.r id) (m.v id) (m.q id):=by
      have hs:sh=false->R.sh=false:=by
       intro h0;rw[h0]at hsh;simpa using hsh
      revert hrow;cases m.r id with
      | none=>intro hrow h0;exact hrow (hs h0)
      | some rr =>
        rintro⟨Q,q1,q2,q3,q4,q5,q6,q7⟩;exact⟨Q,q1,q2,q3,q4,q5,q6,λ h0=>q7 (hs h0)⟩
     obtain⟨m'',g1,g2,g3⟩:=hM.addRow ⟨R.τ,R.l,0,0,sh⟩ (m.r id) (m.v id) (m.q id) rfl hrow2 (.inr ⟨id,R,has,rfl,rfl,hR',λ _ h=>h⟩);grind
   ·cases h
 | .fn cs,x,y,M,m',K,r,h,ho,hM=>by
   cases x with
   | fn f xs =>
     simp only[mvT]at h;obtain⟨ds,rfl,hd⟩:=ho;obtain⟨ys,M1,m1,q1,q2,q3,q4,q5⟩:=qDL hr cs h hd hM;exact⟨_,M1,m1,q1,q2,q3,⟨_,rfl,q4⟩,q5⟩
   | _=>simp only[mvT]at h;cases h
 | .box cs,x,y,M,m',K,r,h,ho,hM=>by
   simp only[mvT]at h;split at h
   case h_2=>exact⟨_,M,m',h,.refl m',hM,ho,rfl⟩
   case h_3 =>
    rename_i b;obtain⟨hb,rfl⟩:=ho;split at h
    ·rename_i b' has;obtain⟨g1,g2⟩:=hM.mb b b' has;exact⟨_,M,m',h,.refl m',hM,⟨g1,by rw[g2]⟩,rfl⟩
    ·rename_i has;split at h<;>try cases h
     rename_i κ a l hxs;obtain⟨ds,k1,y,r0,rfl,k2,k3⟩:=hr.box b _ hxs;cases k3;obtain⟨m3,z1,z2,z3⟩:=hM.addBox (ys:=[.mc κ a l]) hb has k1 ⟨y,[],rfl,k2,rfl⟩;exact⟨_,_,m3,h,z1,z2,⟨z3.1,by have e:=z3.2;simp only[AV.ptr.injEq]at e;rw[e.1]⟩,rfl⟩
   case h_4=>cases h
   rename_i b;obtain⟨hb,rfl⟩:=ho;split at h
   ·rename_i b' has;obtain⟨g1,g2⟩:=hM.mb b b' has;exact⟨_,M,m',h,.refl m',hM,⟨g1,by rw[g2]⟩,rfl⟩
   ·split at h<;>try cases h
    rename_i xs hxs;obtain⟨ds,k1,k2⟩:=hr.box b xs hxs;obtain⟨ys,M',m'',q1,q2,q3,q4,q5⟩:=qDL hr cs h k2 hM;split at q1
    case h_2=>cases q1
    rename_i has;obtain⟨m3,z1,z2,z3⟩:=q3.addBox hb has k1 q4;exact⟨_,_,m3,q1,q2.trans z1,z2,z3,q5⟩
theorem qDL(g:Rel N m E τ tm σ):∀(cs:List Co) {xs:List TV}{ys:List AV}{M:Mv}{m':Mp}{K:List TV->Mv->Option α}{r:α},mvL τ cs xs M K=some r->OKL m xs ys->qi2 m tm σ M m'->
  ∃a e b,K a e=some r/\MLe m' b/\qi2 m tm σ e b/\OKL b a ys/\e.E=M.E
 |[],xs,ys,M,m',K,r,h,c,d=>by
   cases xs with
   |nil=>simp only[mvL]at h;cases c;exact⟨[],M,m',h,.refl m',d,rfl,rfl⟩
   |cons x xs=>simp only[mvL]at h;cases h
 |co::cs,xs,ys,M,m',K,r,h,c,d=>by
   cases xs with
   |nil=>simp only[mvL]at h;cases h
   |cons x xs=>
     simp only[mvL]at h;obtain⟨y,rr,rfl,v,u⟩:=c;let⟨x',A,z,s,q,p,o,n⟩:=qMr g co h v d;let⟨a,w,t,l,f,k,j,i⟩:=qDL g cs s u p;exact⟨x'::a,w,t,l,q.trans f,k,⟨y,rr,rfl,o.mono f,j⟩,i.trans n⟩
end
theorem qQy{E:Env}{t:Nat}{x:TV}{s:Nat}{y:AV}{m':Mp}(c:OK m' (get E s) y)(b:t=s->OK m' x y):OK m' (get (E++[(t,x)]) s) y:=by
 induction E with
 |nil=>
   simp only[xc,get];split
   .grind [Nat.eq_of_beq_eq_true]
   .trivial
 |cons q E a=>
   grind [get]
theorem qIG{a:List (Nat×Nat)}:∀{n:Nat},qFQ a n=true->∀i,i<n->jX a i=some i
 |0,_,i,b=>absurd b (wN _)
 |n+1,h,i,b=>by
   rw[qFQ,wc]at h;by_cases c:i=n
   .grind [Nat.eq_of_beq_eq_true]
   .exact qIG h.2 i (by omega)
theorem qi2.rel(d:Rel N m E τ tm σ){M:Mv}{m':Mp}(h:qi2 m tm σ M m')(s:qFQ M.mb N.2=true):Rel N m' M.E ⟨M.bx,M.rw⟩ tm σ:=by
 refine⟨d.len,h.env,h.rw,h.nb,h.box,?_,h.rows,?_,λ i n=>?_⟩
 rotate_right
 .have g:=qIG s i n;let⟨l,a⟩:=h.mb i i g;exact⟨l,a.trans (d.pin i n).2⟩
 .intro w v k j t;let⟨c,l,a,g3⟩:=h.src w k;let⟨b,o,f,e⟩:=h.src v j;have:c=b:=d.inj c b g3 e (by rw[<-a,<-f,t]);grind
 .intro q p r k j e1 u;let⟨c,l,a,g3⟩:=h.rsrc q r k e1;let⟨b,o,f,e⟩:=h.rsrc p r j u;have:c=b:=d.rinj c b r g3 e a f;grind
theorem qLd(c:Rel N m E τ tm σ):∀(l:List (Tmp×Co)) {M:Mv}{m':Mp}{K:Env->TS->Option α}{r:α},mvE N.2 τ E l M K=some r->qi2 m tm σ M m'->
  ∃f b d,K f b=some r/\Rel N d f b tm σ
 |[],M,m',K,r,h,e=>by
   simp only[mvE]at h;split at h<;>try cases h
   rename_i k;exact⟨_,_,m',h,e.rel c k⟩
 |(t,o)::l,M,m',K,r,h,e=>by
   simp only[mvE]at h;let⟨x',u,j,i,q,a,g,p⟩:=qMr c o h (c.env t) e;refine qLd c l i (m':=j) ?_;refine⟨a.rw,a.nb,a.box,a.src,a.mb,a.rows,a.rsrc,a.mr,λ s=>?_⟩;exact qQy (a.env s) λ n=>by subst n;exact g
theorem qIS(f:Rel N m E τ tm σ){l:List (Tmp×Co)}{K:Env->TS->Option α}{r:α}(h:mvE N.2 τ E l ⟨[],[],[],[],[]⟩ K=some r):∃d a c,K d a=some r/\Rel N c d a tm σ:=
 qLd f l (m':=mp0) h
  ⟨rfl,rfl,λ b cs h=>by simp at h,λ g h=>absurd h (wN _),λ b g h=>by simp[jX]at h,λ id R h=>(by cases h),λ id r h=>absurd h (wN _),λ id e h=>by simp[jX]at h,λ t=>trivial⟩
end
end Go.AmZ
namespace Go.AmZ
open Go Go.RowKit Go.GxZ
section
variable {α:Type}{N:Nat×Nat}{m:Mp}{E:Env}{τ:TS}{tm:List AV}{σ:St}{K:KT α}{r:α}{p:Option (AV×Option St)}{c:TC}{C:Cfg}
theorem qGH{b ts xs ys}(A:C.ty=c.ty)(f:Rel N m E τ tm σ)(u:OKL m xs ys)(h:qvI c τ b ts xs K=some r):Sim N m E τ tm σ K r (jH C σ b ts ys):=by
 unfold qvI at h;split at h
 .rename_i x;obtain⟨y,r',rfl,g,o⟩:=u;cases o;split at h<;>try cases h
  rename_i t X;split at h<;>try cases h
  rename_i d M;split at h<;>try cases h
  .rename_i s j;cases g;refine .same f h ?_ rfl;have:qpQ ⟨s.toArray⟩=s.length:=by simp[qpQ,ByteArray.size]
   grind [jH,qiQ,qlJ]
  .rename_i j;cases g;refine .same f h ?_ rfl;grind [jH,qiQ,qcL]
  .rename_i a l lv j;refine .same f h ?_ rfl;obtain⟨rfl,Z⟩|⟨es,n,rfl,Z⟩:=yS g.1
   .grind [jH,qiQ,qcL]
   .grind [jH,qiQ,qcL,qaO,zb]
  .rename_i id T j;split at h<;>try cases h
   rename_i R P;split at h<;>try cases h
   rename_i W;let⟨R',H,_,_,S⟩:=g;rw[f.rw,P]at H;cases H;have V:=S (wm W);refine .same f h ?_ rfl;rcases qhk f.rows (by rw[f.rw];exact P) V with⟨r,Q,_,rfl,_,_,_,_,g5,_⟩|⟨_,_,aa,_⟩
   .grind [jH,qiQ,qcL,zb]
   .grind [jH,qiQ,qcL,qaO,yS,zb]
  .rename_i b j;split at h<;>try cases h
   rename_i κ a Y;split at h<;>try cases h
   rename_i b0 l B;let⟨_,_,_,_,vz,i,_⟩:=qne Y;rw[M]at i;cases i;let⟨_,ks,vs,F,D⟩:=qru f g B;refine .same f h ?_ rfl;have U:∀d,∀b,qiQ d (.mp b)=none:=λ _ _=>rfl;obtain⟨_,rfl⟩:=g;simp[jH,X,A,M,U,qJS,F,(qmi D).1]
 .rename_i s x;obtain⟨y,L,rfl,g,z,J,rfl,o,q⟩:=u;cases q;split at h<;>try cases h
  split at h<;>try (cases h;done)
  .rename_i k bytes zz _ _ _ _ _ _ _ _ a G i he;split at h<;>try cases h
   rename_i O;simp at O;split at h<;>try cases h
   rename_i xs p;rw[<-f.rw]at p;let⟨es,H,S,_⟩:=qoE f.rows p o;grind [jH,qHy,qDN,decide_true,Bool.and_self]
  .rename_i I _ _ _ _ _ G i he;split at h<;>try (cases h;done)
   rename_i w O;cases o;have:=qHy (a:=.int .u8) f g (qBu w) h
   have e:jH C σ .append ts [y,.v (.string ⟨w.toArray⟩)]=yg 1 I σ y (qcT ⟨w.toArray⟩):=by
    grind [jH]
   rw[e];exact this
 .obtain⟨y,L,rfl,g,z,J,rfl,o,q⟩:=u;cases q;cases g;cases o;split at h<;>try cases h
  rename_i j;exact .same f h (by simp[jH,j]) rfl
 .obtain⟨y,L,rfl,g,z,J,rfl,o,q⟩:=u;cases q;cases g;cases o;split at h<;>try cases h
  rename_i j;exact .same f h (by simp[jH,j]) rfl
 .cases h
theorem qEu{op}(a:Rel N m E τ tm σ)(h:opT c E τ op K=some r):Sim N m E τ tm σ K r (qgL c.pc tm σ op):=by
 unfold opT at h;split at h
 .exact qGH rfl a (a.evs _) h
 .rename_i g b ts;split at h<;>try cases h
  rename_i f cs k;split at h<;>try cases h
  rename_i d;have d:c.pc.inl f=none:=d;have e:=a.ev g;rw[k]at e;let⟨ds,e,i⟩:=e;split at h
  .cases i;have:=qPx a (a.evs b.toList) h;grind [qgL]
  .split at h<;>try cases h
   rename_i j;have:=qAq a ((a.evs b.toList).append i) j h;grind [qgL]
 .cases h
 .rename_i o n l;have:=qNS (C:=c.pc.cfg) rfl a h;grind [qgL]
theorem Rel.put(a:Rel c.n2 m E τ tm σ){d x y}(j:OK m x y){K}(h:qFn c E d x K=some r):∃f,K f=some r/\Rel c.n2 m f τ (qcM tm d y) σ:=by
 unfold qFn at h;split at h
 .exact⟨E,h,a⟩
 .rename_i d;split at h<;>try cases h
  rename_i e;have e:=Nat.lt_of_succ_le (by simpa[Nat.blt]using e);refine⟨_,h,?_⟩;refine⟨by show(tm.set d y).length=_;rw[wI];exact a.len,λ t=>?_,a.rw,a.nb,a.box,a.inj,a.rows,a.rinj,a.pin⟩;show OK m (get ((d,x)::E) t) ((tm.set d y).getD t .dead);have i:d<tm.length:=by rw[a.len];exact e
  simp[get];split
  .grind [Nat.eq_of_beq_eq_true,List.getElem?_set_self]
  .rename_i b;have b:d≠t:=λ g=>by rw[g]at b;simp at b
   have:=a.env t;grind
theorem Rel.know(a:Rel N m E τ tm σ){d x}(h:OK m x (tm.getD d .dead)):Rel N m ((d,x)::E) τ tm σ:=by
 refine⟨a.len,λ t=>?_,a.rw,a.nb,a.box,a.inj,a.rows,a.rinj,a.pin⟩;simp[get];split
 .grind [Nat.eq_of_beq_eq_true]
 .exact a.env t
theorem qEU{ops o K}(e:Rel N m E τ tm σ)(h:qIU ops E o K=some r):∃w g,yC ops tm o=some w/\K w g=some r/\Rel N m g τ tm σ:=by
 unfold qIU at h;unfold yC;split at h
 .grind
 .rename_i j c i;rw[i];simp only;split at h<;>try cases h
  rename_i d f;rw[f];simp only;have a:=e.env d;split at h<;>try cases h
  .rename_i x b;rw[b]at a;rw[a];cases c with
   |true=>
     cases x with
     |true=>exact⟨true,_,rfl,h,e.know a⟩
     |false=>exact⟨false,_,rfl,h,e.know a⟩
   |false=>
     cases x with
     |true=>exact⟨false,_,rfl,h,e.know a⟩
     |false=>exact⟨true,_,rfl,h,e.know a⟩
  .rename_i b;rw[b]at a;let⟨ds,a,f⟩:=a;cases f;grind
theorem qlo(a:Rel N m E τ tm σ){ops k t b}(h:qpo E ops k t=some b):b<m.nb/\yY tm ops k t=some (m.b b):=by
 unfold qpo at h;unfold yY;split at h<;>try cases h
 rename_i u d;split at h<;>cases h;rename_i o c;have:=a.env u;rw[c]at this;let⟨f,e⟩:=this;grind
theorem qN0(c:Rel N m E τ tm σ){ops k t}(h:qNc E ops k t=true):qdO tm ops k t=true/\yY tm ops k t=none:=by
 unfold qNc at h;unfold qdO yY;split at h<;>try cases h
 rename_i u b;split at h<;>try cases h
 rename_i d;have:=c.env u;rw[d]at this;let⟨R,_,_,_,a,_⟩:=this;rw[b];obtain⟨r,j,e,a⟩|⟨ds,a⟩:=a<;>simp only[a]<;>exact⟨rfl,by trivial⟩
mutual
theorem qRp:∀{x:TV}{y:AV}{l:List Nat},OK m x y->rbT x=some l->rb y=l.map m.b
 |.i ..,y,l,a,h|.b ..,y,l,a,h|.s ..,y,l,a,h=>by cases h;cases a;rfl
 |.c ..,y,l,a,h=>by cases h;obtain⟨_,rfl⟩:=a;rfl
 |.nil,y,l,a,h=>by cases h;cases a;rfl
 |.sl ..,y,l,a,h=>by cases h;obtain⟨rfl,_⟩|⟨e,n,rfl,_⟩:=yS a.1<;>rfl
 |.row ..,y,l,a,h=>by
   cases h;let⟨R,_,_,a,_⟩:=a;obtain rfl|⟨k,e,j,rfl⟩|⟨r,lo,n,g,f,rfl⟩:=a<;>rfl
 |.ptr b o,y,l,a,h=>by cases h;obtain⟨_,rfl⟩:=a;rfl
 |.pti b i,y,l,a,h=>by cases h;obtain⟨_,_,rfl⟩:=a;rfl
 |.rpt ..,y,l,a,h=>by cases h;let⟨R,_,_,_,a,_⟩:=a;obtain⟨r,i,g,rfl⟩|⟨ds,rfl⟩:=a<;>rfl
 |.ept ..,y,l,a,h=>by cases h;obtain⟨ds,rfl,_⟩:=a;rfl
 |.fn f cs,y,l,a,h|.agg cs,y,l,a,h|.tup cs,y,l,a,h=>by obtain⟨ds,rfl,d⟩:=a;exact qln d h
 |.dead,y,l,a,h=>by cases h
 |.mp b,y,l,a,h=>by cases h;obtain⟨_,rfl⟩:=a;rfl
 |.mc ..,y,l,a,h=>by cases h;obtain⟨ks,vs,rfl,_⟩:=qc4 a;rfl
theorem qln:∀{xs:List TV}{ys:List AV}{l:List Nat},OKL m xs ys->qrZ xs=some l->rbL ys=l.map m.b
 |[],ys,l,c,h=>by cases h;cases c;rfl
 |x::xs,ys,l,⟨y,r,e,i,g⟩,h=>by
   subst e;simp only[qrZ]at h;split at h<;>cases h;rename_i a b f d;rw[rbL,qRp i f,qln g d,wZ]
end
theorem qHv(rw x):rb (qY rw x)=rb x:=by
 cases x<;>first|rfl|skip
 simp[qY];split
 .split<;>rfl
 .rfl
theorem qE9(rw):∀l,rbL (l.map (qY rw))=rbL l
 |[]=>rfl
 |x::l=>by rw[wk,rbL,rbL,qHv,qE9 rw l]
theorem qQf(rw x):rb (jk rw x)=rb x:=by
 unfold jk;split
 .exact qE9 rw _
 .exact qHv rw x
theorem qFt(rw):∀l,rbL (l.map (jk rw))=rbL l
 |[]=>rfl
 |x::l=>by rw[wk,rbL,rbL,qQf,qFt rw l]
theorem qme: ∀{l seen b},b∈qj seen l->b∈l
 |[],_,b,h=>by cases h
 |c::l,seen,b,h=>by
   rw[qj]at h;split at h
   .exact we _ (qme h)
   .obtain rfl|h:=wv.1 h
    .exact wh ..
    .exact we _ (qme h)
theorem qOx{a}(h:∀b∈rbL a,rbL (σ.bx.getD b [])=[]){b}(d:b∈QH σ a):b∈rbL a:=by
 have f:(qj [] (rbL a)).flatMap (λ b=>rbL (σ.bx.getD b []))=[]:=kM.2 λ c g=>h c (qme g);unfold QH at d;cases e:σ.bx.length with
 |zero=>rw[e]at d;exact qme d
 |succ n=>rw[e,qoN,f]at d;exact qme d
theorem qKw(r:Rel c.n2 m E τ tm σ){ops:Array Oper}{j:Nat}{op:Op}(h:qwP c ops j E τ op=true):qc2 c.pc.cfg ops j tm σ op=true:=by
 unfold qwP at h;unfold qc2;rw[wY]at h |-
 refine h.imp id λ h=>?_;rw[ww]at h |-
 intro p P;have:=h p P;let⟨q,i⟩:=p;simp only at this |-
 split
 .rename_i t a O;rw[O]at this;simp only[wY]at this |-
  refine this.imp id λ F=>?_;split at F
  .rename_i y l N e;rw[wc,ww]at F;let⟨z,G⟩:=qlo r N;rw[G]
   have A:m.b y<σ.bx.length:=by
    let⟨ds,K,_⟩:=r.box y _ (List.getElem?_eq_getElem (by rw[<-r.nb];exact z));exact getElem?_lt K
   simp only[wc,decide_eq_true_eq,wM];refine⟨A,?_⟩;rw[<-kK,war];intro Q;unfold qLr at e;split at e<;>try cases e
   rename_i g L ts _;split at e<;>try cases e
   rename_i f cs R;split at e<;>try cases e
   rename_i V k I
   have k:c.pc.cfg.inl f=none:=by
    show c.inl f=none;cases T:c.inl f with
    |none=>rfl
    |some _=>rw[T]at k;cases k
   split at e<;>cases e;rename_i d;rw[ww]at d;have n:=r.ev g;rw[R]at n;let⟨u,n,w⟩:=n;have B:=qln ((r.evs L.toList).append w) I
   have J:∀b∈rbL (L.toList.map (aev tm)++u),rbL (σ.bx.getD b [])=[]:=by
    intro b M;rw[B]at M;obtain⟨x,o,rfl⟩:=wC.1 M;have:=d x o;unfold qPj at this;split at this<;>try cases this
    rename_i cs' v;split at this<;>try cases this
    rename_i C;let⟨ds,K,U⟩:=r.box x cs' v;rw[jQ K,qln U C];rfl
   have s:m.b y∈rbL (L.toList.map (aev tm)++u):=by
    simp only[qxX,qhp,n,k]at Q;grind [qji,qOx,qFt]
   rw[B]at s;let⟨x,o,S⟩:=wC.1 s;have H:=F.2 x o
   have D:x<m.nb:=by
    have:=d x o;unfold qPj at this;split at this<;>try cases this
    rename_i cs' v;rw[r.nb];exact getElem?_lt v
   have:=r.inj x y D z S;subst this;simp at H
  .cases F
 .rfl
theorem qFs(b:Rel c.n2 m E τ tm σ){ops a j op}(h:(a && !(zm c.loT op&&qwP c ops j E τ op))=false):(a && !(zm c.pc.cfg.lo op&&qc2 c.pc.cfg ops j tm σ op))=false:=by
 cases a with
 |false=>rfl
 |true=>
   grind [TC.lo_eq,qKw]
theorem qJw(hr:Rel N m E τ tm σ){ops j i o q}(h:qs9 E ops j o i q=true):qjJ tm ops j o i q=true:=by
 unfold qs9 at h;unfold qjJ;split at h
 case h_4=>cases h
 case h_3 =>
  rename_i h1 h2;simp[h1,h2];cases hb:qpo E ops i _ with
  | none=>rw[hb]at h;cases h
  | some b=>rw[(qlo hr hb).2];rfl
 case h_2 =>
  rename_i h1 h2;simp[h1,h2];cases hb:qpo E ops i _ with
  | none=>rw[hb]at h;cases h
  | some b=>rw[(qlo hr hb).2];rfl
 rename_i h1 h2;split at h
 case h_3=>cases h
 case h_2 =>
  rename_i x hx _;obtain⟨a1,a2⟩:=qlo hr hx;grind [qN0]
 rename_i x y hx hy;obtain⟨a1,a2⟩:=qlo hr hx;obtain⟨b1,b2⟩:=qlo hr hy;have hne:x≠y := λ he=>by rw[he]at h;simp at h
 have := λ he=>hne (hr.inj x y a1 b1 he);grind [Nat.eq_of_beq_eq_true]
theorem qpK(i:Rel N m E τ tm σ){ops d a}(h:qtw a E ops d=true):qfh a tm ops d=true:=by
 cases d with
 |false=>rfl
 |true=>
   show qb6 a tm ops=true;simp only[qtw,ww,wc,decide_eq_true_eq,wY,wM]at h;simp only[qb6,ww,wc,decide_eq_true_eq,wY,wM];intro p c;let⟨f,e⟩:=h p c;refine⟨f,λ q b=>?_⟩;obtain (g|g)|g:=e q b
   .exact .inl (.inl g)
   .refine .inl (.inr ?_);unfold qPE at g;unfold qj1;rw[xA]at g |-
    refine⟨g.1,?_⟩;rw[vN]at *;obtain g|g:=g.2
    .exact .inl g
    .right;unfold qgc;grind [qJw]
   .exact .inr g
theorem qoz(i:Rel c.n2 m E τ tm σ){f x}(h:qqn c E τ f=some x):∃y,qlk c.pc.cfg tm σ f=some y/\OK m x y:=by
 cases f with
 |tmp t=>cases h;exact⟨_,rfl,i.env t⟩
 |cell a t=>
   simp[qqn]at h;split at h<;>try cases h
   rename_i d b o k l;have g:=i.env a;rw[l]at g;let⟨q,g⟩:=g;split at h<;>try cases h
   rename_i cs j;split at h<;>try cases h
   let⟨ds,r,p⟩:=i.box b cs j;let⟨y,g3,n⟩:=qg6 p h;refine⟨y,?_,n⟩;have e:c.pc.cfg.ty t=some d:=k;grind [qlk,jI,g3,qoM]
theorem qwb{m}:∀n {xs ys pre post},OKL m xs ys->pre.length=n->∀t,OK m (get (qfA n xs) t) ((pre++(ys++post)).getD t .dead)
 |n,[],ys,pre,post,h,a,t=>trivial
 |n,x::xs,ys,pre,post,⟨y,r,b,d,c⟩,a,t=>by
   subst b;simp[qfA,get];split
   .simp_all
   .have:=qwb (n+1) (pre:=pre++[y]) (post:=post) c (by grind) t;simpa using this
theorem qpt{ops draw}:∀{l m E τ tm σ k},qkd (opT c) c ops draw l E τ k=some r->Rel c.n2 m E τ tm σ->
  ∃e m' u a,Qb (qgL c.pc) c.pc ops draw l ⟨tm,σ⟩=some e/\MLe m m'/\Rel c.n2 m' u a e.tm e.σ/\k u a=some r
 |[],m,E,τ,tm,σ,k,h,g=>⟨_,m,E,τ,rfl,.refl m,g,h⟩
 |o::v,m,E,τ,tm,σ,k,h,g=>by
   simp only[Qb];let⟨w,u,B,h,g⟩:=qEU g h;rw[B];cases w with
   |true=>
     have p:=g;let⟨x,a,y,σ',m',h,D,i,f,z,C⟩:=qEu g h;rw[D];cases a with
     |none=>
       rw[C rfl]at f |-
       let⟨A,h,b⟩:=f.put z h;let⟨e,n,t,d,j,s,g3,q⟩:=qpt h b;exact⟨e,n,t,d,j,i.trans s,g3,q⟩
     |some a=>
       split at h<;>try cases h
       rename_i F;let⟨A,h,b⟩:=Rel.put f z h;let⟨e,n,t,d,j,s,g3,q⟩:=qpt h b;refine⟨e,n,t,d,?_,i.trans s,g3,q⟩;cases σ' with
       |none=>exact j
       |some σ'=>
         rw[qFs p F];exact j
   |false=>
     let⟨A,h,b⟩:=g.put (x:=.tup []) ⟨[],rfl,rfl⟩ h;exact qpt h b
theorem qLY: ∀j {m E τ tm σ g},qnv c j E τ g=some r->Rel c.n2 m E τ tm σ->
  ∃i m' k e,zg (qgL c.pc) c.pc (qvE j) j ⟨tm,σ⟩=some (.normal,i)/\MLe m m'/\Rel c.n2 m' k e i.tm i.σ/\g k e=some r:=by
 intro j
 induction j with
 |skip=>intro m E τ tm σ g h f;exact⟨_,m,E,τ,rfl,.refl m,f,h⟩
 |seq a b o n=>
   intro m E τ tm σ g h f;let⟨J,K,L,s,H,G,F,D⟩:=o (show qnv c a E τ (λ E σ=>qnv c b E σ g)=some r from h) f;let⟨t,u,I,l,C,B,A,z⟩:=n D F;refine⟨t,u,I,l,?_,G.trans B,A,z⟩;show zg _ _ (max (qvE a) (qvE b)+1) _ _=_;simp[zg,yU];rw[qeK (vR _ _) H];exact qeK (wae _ _) C
 |region id ops d=>
   intro m E τ tm σ g h f;simp[qnv]at h;split at h<;>try cases h
   rename_i q p;split at h<;>try cases h
   rename_i v;let⟨i,m',k,e,y,x,g3,w⟩:=qpt h f;refine⟨i,m',k,e,?_,x,g3,w⟩;show zg _ _ (0+1) _ _=_;simp[zg,yU,q,p];rw[waM,qpK f v,y]
 |_=>intro m E τ tm σ g h f;simp only[qnv]at h;cases h
theorem qEt(b:Rel c.n2 m E τ tm σ):∀{l xs},qFX c E τ l=some xs->∃ys,Qp c.pc.cfg tm σ l=some ys/\OKL m xs ys
 |[],xs,h=>by cases h;exact⟨[],rfl,rfl⟩
 |v::l,xs,h=>by
   simp[qFX]at h;split at h<;>try cases h
   rename_i x d;split at h<;>cases h;rename_i xs a;let⟨y,i,g⟩:=qoz b d;let⟨ys,f,e⟩:=qEt b a;exact⟨y::ys,by simp[Qp,i,f],_,_,rfl,g,e⟩
theorem qP1{fn xs ys}(b:Rel c.n2 m E τ tm σ)(l:OKL m xs ys)(h:qNH c fn τ xs K=some r):Sim c.n2 m E τ tm σ K r (qzW c.pc σ fn ys):=by
 unfold qNH at h;split at h<;>try cases h
 rename_i j w;split at h<;>try cases h
 rename_i a;rw[wc]at a;have y:=kG a.1;have z:=kG a.2;have v:=OKL.len l
 have g:Rel (TC.n2 {c with nt:=fn.ntmps}) m (qfA 0 xs) τ (ys++List.replicate (fn.ntmps-ys.length) .dead) σ:=by
  refine⟨by show _=fn.ntmps;rw[wd,kX];omega,λ t=>?_,b.rw,b.nb,b.box,b.inj,b.rows,b.rinj,b.pin⟩;have:=qwb 0 (pre:=[]) (post:=List.replicate (fn.ntmps-ys.length) .dead) l rfl t;simpa using this
 let⟨e,m',x,d,o,n,g3,i⟩:=qLY j h g;split at i<;>try cases i
 rename_i p f;let⟨q,k,u⟩:=qEt g3 (show qFX {c with nt:=fn.ntmps} x d fn.results.toList=some p from f);refine .to i ?_ n ⟨b.len,λ t=>(b.env t).mono n,g3.rw,g3.nb,g3.box,g3.inj,g3.rows,g3.rinj,g3.pin⟩ (qA8 u);have o:zg (qgL c.pc) c.pc (qvE j) j ⟨ys++List.replicate (fn.ntmps-ys.length) .dead,σ⟩=some (.normal,e):=o;have k:Qp c.pc.cfg e.tm e.σ fn.results.toList=some q:=k;unfold qzW;grind [qa2,qeK]
theorem qQs{op}(i:Rel c.n2 m E τ tm σ)(h:opI c E τ op K=some r):Sim c.n2 m E τ tm σ K r (qeX c.pc tm σ op):=by
 unfold opI at h;split at h
 .rename_i g a ts;split at h<;>try cases h
  rename_i f cs k;have d:=i.ev g;rw[k]at d;let⟨ds,d,l⟩:=d;split at h
  .rename_i fn b;have b:c.pc.inl f=some fn:=b
   have e:qeX c.pc tm σ (.call ⟨.value g,a,ts⟩)=qzW c.pc σ fn (a.toList.map (aev tm)++ds):=by
    simp[qeX,d,b]
   rw[e];exact qP1 i ((i.evs a.toList).append l) h
  .rename_i b;have b:c.pc.inl f=none:=b
   have e:qeX c.pc tm σ (.call ⟨.value g,a,ts⟩)=qgL c.pc tm σ (.call ⟨.value g,a,ts⟩):=by
    simp[qeX,qgL,d,b]
   rw[e];exact qEu i h
 .rename_i j
  have e:qeX c.pc tm σ op=qgL c.pc tm σ op:=by
   unfold qeX;grind
  rw[e];exact qEu i h
variable {Q:Ex->S->Prop}{k:List It}
theorem qhe{ops draw}:∀{l m E τ tm σ g},qkd (opI c) c ops draw l E τ g=some r->Rel c.n2 m E τ tm σ->
  (∀m E τ tm σ,g E τ=some r->Rel c.n2 m E τ tm σ->Go c.pc Q k .normal ⟨tm,σ⟩)->Go c.pc Q (.ops ops draw l::k) .normal ⟨tm,σ⟩
 |[],m,E,τ,tm,σ,g,h,d,e=>by
   rw[qKb];exact e m E τ tm σ h d
 |o::j,m,E,τ,tm,σ,g,h,d,e=>by
   rw[qSy];let⟨w,z,q,h,d⟩:=qEU d h;rw[q];cases w with
   |true=>
     rw[qLb];have i:=d;let⟨x,f,y,σ',m',h,t,u,b,n,s⟩:=qQs d h;rw[t];cases f with
     |none=>
       rw[s rfl]at b |-
       let⟨p,h,a⟩:=b.put n h;exact qhe h a e
     |some f=>
       split at h<;>try cases h
       rename_i v;let⟨p,h,a⟩:=Rel.put b n h;cases σ' with
       |none=>
         exact qhe h a e
       |some σ'=>
         exact⟨qFs i v,qhe h a e⟩
   |false=>
     let⟨p,h,a⟩:=d.put (x:=.tup []) ⟨[],rfl,rfl⟩ h;exact qhe h a e
variable {fin:Env->TS->Option α}{L:List It->Env->TS->Option α}{Qr:α->Ex->S->Prop}
def qCR(c:TC)(fin:Env->TS->Option α)(Qr:α->Ex->S->Prop):Prop:=∀E τ r m tm σ,fin E τ=some r->Rel c.n2 m E τ tm σ->∀e,e=.ret\/e=.normal->Qr r e ⟨tm,σ⟩
def LOK(c:TC)(L:List It->Env->TS->Option α)(Qr:α->Ex->S->Prop):Prop:=∀a E τ r m tm σ,L a E τ=some r->Rel c.n2 m E τ tm σ->Go c.pc (Qr r) a .normal ⟨tm,σ⟩
theorem qQv(c:Rel N m E τ tm σ){t}(h:qNs (get E t)=true):qzd (tm.getD t .dead)=true:=by
 have a:=c.env t;cases b:get E t<;>rw[b]at h a<;>first|(cases h;done)|skip
 rw[show tm.getD t .dead=_ from a.2];rfl
theorem qQU(hr:Rel N m E τ tm σ){ops t}(h:(qNs (get E t)&&qKk E ops)=true):qvT tm ops t=true:=by
 rw[wc]at h;unfold qvT;rw[qQv hr h.1,wV];have h2:=h.2;unfold qKk at h2;unfold qJ2;split at h2
 case h_2=>cases h2
 rename_i p l hp;rw[hp];simp only;split at h2
 case h_2=>cases h2
 rename_i a u b hop;have ho:=hr.ev u;rw[hop];simp only;cases hx:evT E u<;>rw[hx]at h2 ho<;>first | (cases h2;done) | skip
 ·rcases yS ho.1 with⟨hy,_⟩ | ⟨es,n,hy,_⟩<;>rw[hy]<;>rfl
 ·obtain⟨R,_,_,hy,_⟩:=ho;rcases hy with hy | ⟨k,es,j,hy⟩ | ⟨r,lo,n,ep,f,hy⟩<;>rw[hy]<;>rfl
theorem qHg(a:Rel N m E τ tm σ){x b}(h:evT E x=.b b){b'}(c:b=b'):Rel N m (qI5 E x b') τ tm σ:=by
 subst c;unfold qI5;split
 .rename_i t;refine a.know ?_;have:=a.env t;have h:get E t=.b b:=h;rw[h]at this;exact this
 .exact a
theorem qIb(c:Rel N m E τ tm σ)(t){x'}(f:rsA (tm.getD t .dead)=[]->OK (shM m) x' (tm.getD t .dead))(i:rsA (tm.getD t .dead)≠[]->OK (shM m) x' (jk σ.rw (tm.getD t .dead))):
  Rel N (shM m) ((t,x')::E) (shA τ) (qc0 ⟨tm,σ⟩ t).tm (qc0 ⟨tm,σ⟩ t).σ:=by
 unfold qc0;cases b:rsA (tm.getD t .dead)with
 |nil=>
   exact(c.share rfl c.rows.sh).know (f b)
 |cons q l=>
   have a:=c.share (σ':={σ with rw:=frz σ.rw (q::l),wrr:=(q::l)++σ.wrr}) rfl (c.rows.frz _ _)
   have g:t<tm.length:=by
    apply wag;intro e;rw[List.getD_eq_getElem?_getD,List.getElem?_eq_none e]at b;cases b
   refine⟨by rw[wI];exact a.len,λ u=>?_,a.rw,a.nb,a.box,a.inj,a.rows,a.rinj,a.pin⟩;simp only[get];split
   .grind [Nat.eq_of_beq_eq_true,List.getElem?_set_self]
   .rename_i d;have d:t≠u:=λ h=>by rw[h]at d;simp at d
    rw[List.getD_eq_getElem?_getD,List.getElem?_set_ne d,<-List.getD_eq_getElem?_getD];exact a.env u
theorem qMd{t}(h:rsA (tm.getD t .dead)=[]):qc0 ⟨tm,σ⟩ t=⟨tm,σ⟩:=by
 unfold qc0;simp only[h]
theorem qNK(g:Rel N m E τ tm σ){t a K}(h:qJZ E τ t a K=some r):
  ∃j f m',K j f=some r/\Rel N m' j f (qc0 ⟨tm,σ⟩ t).tm (qc0 ⟨tm,σ⟩ t).σ:=by
 have c:=g.env t;unfold qJZ at h
 have b:rsA (tm.getD t .dead)=[]->K E τ=some r->∃j f m',K j f=some r/\Rel N m' j f (qc0 ⟨tm,σ⟩ t).tm (qc0 ⟨tm,σ⟩ t).σ:=λ w J=>by
  grind [qMd]
 split at h
 .rename_i d;rw[d]at c;exact b (by rw[show tm.getD t .dead=_ from c];rfl) h
 .rename_i d;rw[d]at c;exact b (by rw[show tm.getD t .dead=_ from c];rfl) h
 .rename_i d;rw[d]at c;exact b (by rw[show tm.getD t .dead=_ from c];rfl) h
 .rename_i d;rw[d]at c;exact b (by rw[show tm.getD t .dead=_ from c.2];rfl) h
 .rename_i d;rw[d]at c;exact b (by rw[show tm.getD t .dead=_ from c];rfl) h
 .rename_i d;rw[d]at c;refine b ?_ h;obtain⟨w,_⟩|⟨L,n,w,_⟩:=yS c.1<;>(rw[w];rfl)
 .rename_i id o d;rw[d]at c;split at h<;>try cases h
  rename_i R v;split at h<;>try cases h
  rename_i A;have p:=wm A;split at h<;>try cases h
  rename_i l C
  have I:qnD m.rw a (.row id o)=some l:=by
   unfold qnD;rw[g.rw];simp[v,A];exact C
  let⟨L,O,M,g3⟩:=qoE g.rows I c;obtain⟨e,rfl⟩:=jD C;subst e;have e1:∀y,(∀cs,y≠.agg cs)->jk σ.rw y=qY σ.rw y:=λ y z=>by cases y<;>first|rfl|exact absurd rfl (z _)
  let⟨R',k,_,x,D⟩:=c
  have s:∀cs,tm.getD t .dead≠.agg cs:=by
   intro cs H;rw[H]at x;obtain h|⟨_,_,_,h⟩|⟨_,_,_,_,_,h⟩:=x<;>cases h
  refine⟨_,_,_,h,qIb g t (λ B=>?_) λ _=>?_⟩
  .have i:=D (by rw[g.rw,v]at k;cases k;exact p);have G:∃y,y=tm.getD t .dead:=⟨_,rfl⟩
   let⟨y,z⟩:=G;rw[g.rw,v]at k;cases k;revert i;cases m.r id with
   |none=>intro i;exact⟨i.1,wz (by decide) i.2⟩
   |some q=>intro i;rw[i]at B;cases B
  .rw[e1 _ s];exact⟨g3,qnq g3⟩
 .rename_i d;refine⟨_,_,shM m,h,?_⟩;have:=qIb g t (x':=.dead) (λ _=>trivial) λ _=>trivial;refine⟨this.len,λ u=>?_,this.rw,this.nb,this.box,this.inj,this.rows,this.rinj,this.pin⟩;by_cases F:t=u
  .subst F;rw[d];trivial
  .have J:=this.env u;grind [get,Nat.eq_of_beq_eq_true]
 .cases h
theorem qs3: ∀l {m} {E} {τ} {tm} {σ} {K} {r:α},Rel N m E τ tm σ->qvq l E τ K=some r->
  ∃e b m',K e b=some r/\Rel N m' e b (qgV (qg7 l) ⟨tm,σ⟩).tm (qgV (qg7 l) ⟨tm,σ⟩).σ
 |[],m,E,τ,tm,σ,K,r,c,h=>⟨E,τ,m,h,c⟩
 |(t,i)::l,m,E,τ,tm,σ,K,r,c,h=>by
   cases i with
   |plist a=>
     rw[qvq]at h;let⟨k,f,j,g,d⟩:=qNK c h;exact qs3 l d g
   |_=>simp[qvq]at h;exact qs3 l c h
theorem qy9(D:qCR c fin Qr)(B:LOK c L Qr):∀n {s e E τ r m tm σ},J7 c fin L n s e E τ=some r->Rel c.n2 m E τ tm σ->Go c.pc (Qr r) s e ⟨tm,σ⟩:=by
 intro n
 induction n with
 |zero=>intro s e E τ r m tm σ h f;simp[J7]at h
 |succ n g=>
   intro s e E τ r m tm σ h f;cases s with
   |nil=>
     cases e with
     |exit i=>cases h
     |normal=>exact D E τ r m tm σ h f _ (.inr rfl)
     |ret=>exact D E τ r m tm σ h f _ (.inl rfl)
   |cons G k=>
     cases G with
     |ops os d l=>simp[J7]at h
     |blk id=>
       simp[J7]at h;cases e with
       |exit i=>
         simp only at h;rw[qGX];split at h
         .rename_i q;have q:=wm q;rw[if_pos q];split at h
          .let⟨u,j,m',h,o⟩:=qIS f h;exact B k u j r m' tm σ h o
          .exact g h f
         .rename_i q;have q:i≠id:=λ J=>by rw[J]at q;simp at q
          rw[if_neg q];exact g h f
       |normal=>
         simp only at h;rw[qCx];split at h
         .let⟨u,j,m',h,o⟩:=qIS f h;exact B k u j r m' tm σ h o
         .exact g h f
       |ret=>rw[qKm];simp only at h;exact g h f
     |code K=>
       cases e with
       |exit i=>simp[J7]at h;rw[qFJ];exact g h f
       |ret=>simp[J7]at h;rw[qGz];exact g h f
       |normal=>
         simp[J7]at h;cases K with
         |skip=>rw[qO7];exact g h f
         |label l=>rw[qMC];exact g h f
         |region id ops d=>
           let⟨l⟩:=ops;simp only at h;split at h
           .rename_i t;split at h<;>try cases h
            rename_i A;rw[wc]at A;grind [qJE,TC.lo_eq,qpK,qhe]
           .rename_i t;split at h
            .rename_i p w;split at h<;>try cases h
             rename_i A;refine qI6 id l d t w (by rw[waM];exact qpK f A) ?_;refine qhe h f λ m E τ tm σ h f=>?_;split at h<;>try cases h
             rename_i H;exact⟨qQU f H,qhe h f λ m E τ tm σ h f=>g h f⟩
            .grind [go_region,TC.lo_eq,qpK,qhe]
         |seq a b=>rw[qR5];exact g h f
         |cond x a b=>
           simp only at h;rw[qP6];split at h<;>try cases h
           rename_i y v;have C:=f.ev x;rw[v]at C;rw[C];cases y with
           |true=>rw[qLz];exact g h (qHg f v rfl)
           |false=>rw[qI4];exact g h (qHg f v rfl)
         |block id b=>rw[qMz];exact g h f
         |loop b=>
           simp only at h;split at h<;>try cases h
           rename_i l I;let⟨N,F,M,h,z⟩:=qs3 l f h;let⟨u,j,m',h,o⟩:=qIS z h;rw[<-qRY,show c.pc.pur b=qg7 l from by show c.pur b=_;unfold TC.pur;rw[I]];exact B _ u j r m' _ _ h o
         |exit id=>rw[qQn];exact g h f
         |ret=>rw[qQ8];exact g h f
         |_=>simp only at h;cases h
theorem qLX(f:qCR c fin Qr)(g:LOK c L Qr)(n):LOK c (λ i E τ=>qEz c fin L n i E τ) Qr:=by
 intro i E τ r m tm σ h d;simp[qEz]at h;split at h
 .rename_i b k;rw[go_loop];split at h
  .rename_i l e;let⟨p,j,o,h,a⟩:=qs3 l d h;rw[show c.pc.pur b=qg7 l from by show c.pur b=_;unfold TC.pur;rw[e]];exact qy9 f g n h a
  .rename_i e;rw[show c.pc.pur b=[]from by show c.pur b=_;unfold TC.pur;rw[e]];exact qy9 f g n h d
 .exact qy9 f g n h d
theorem quO(b:qCR c fin Qr)(n):∀k,LOK c (qqE c fin n k) Qr
 |0=>λ a E τ r m tm σ h=>by simp[qqE]at h
 |k+1=>by
   intro a E τ r m tm σ h d;exact qLX b (quO b n k) n a E τ r m tm σ h d
theorem qQS{y}:quC 0 σ.rw y=qY σ.rw y:=by
 cases y<;>rfl
theorem qPX(y)(h:∀vs,y≠.tup vs):qlW 0 σ.rw y=jk σ.rw y:=by
 cases y with
 |agg cs=>
   show AV.agg (cs.map (quC 0 σ.rw))=.agg (cs.map (qY σ.rw));rw[kW λ x _=>qQS]
 |_=>rfl
theorem qs0{a y v}(h:Ql a y=some v):Sub y (yR a v):=by
 unfold Ql at h;split at h
 case h_2=>cases h
 rename_i hb;have hb:a.agg=QT y:=by simpa[Q7]using hb
 obtain⟨pre,h1,_,h3,h4,_⟩:=yc a (qR.1 h);rw[wy]at h1;rw[<- h1]at h4
 have agg:∀ e,a.agg=true->QI (cellsOf y) e->Sub y (.agg e):=by
  intro e ha hs;rw[hb]at ha;cases y with
  | agg cs=>exact qFx hs
  | _=>cases ha
 have one:∀ e,a.agg=false->QI (cellsOf y) [e]->Sub y e:=by
  intro e ha hs;rw[hb]at ha;have:cellsOf y=[y]:=by cases y<;>first | rfl | (cases ha)
  rw[this]at hs;cases hs with
  | cons h _=>exact h
 cases a with
 | int k=>exact one _ rfl h4
 | bool=>exact one _ rfl h4
 | str=>exact one _ rfl h4
 | list a=>exact one _ rfl h4
 | map a b=>exact one _ rfl h4
 | term=>exact agg _ rfl h4
 | pair a b=>exact agg _ rfl h4
 | one a=>exact agg _ rfl h4
theorem qId(b:Rel c.n2 m E τ tm σ){a rv x v}(g:qqn c E τ rv=some x)(e:qcu τ.rw a x=some v):∃y,qlk c.pc.cfg tm σ rv=some y/\(∀vs,y≠.tup vs)/\jE (qlW 0 σ.rw y)=true/\Sub (qlW 0 σ.rw y) (yR a v):=by
 let⟨y,j,h⟩:=qoz b g;rw[<-b.rw]at e;let⟨g3,_⟩:=qhd b.rows e h
 have i:∀vs,y≠.tup vs:=by
  rintro vs rfl;unfold Ql at g3;split at g3
  .let⟨pre,d,_,f,_⟩:=yc a (qR.1 g3);rw[wy]at d;have:=f (.tup vs) (by rw[<-d];exact wD.2 rfl);cases this
  .cases g3
 grind [qPX,qeE,qs0]
theorem qIt(g:Rel c.n2 m E τ tm σ):∀{ts d v},qke c ts d E τ=some v->
  ∃l,Qp c.pc.cfg tm σ d=some l/\(∀y∈l,∀vs,y≠AV.tup vs)/\noRefs (l.map (qlW 0 σ.rw))=true/\QI (l.map (qlW 0 σ.rw)) (qbg ts v)
 |[],d,v,h=>by
   cases d with
   |nil=>exact⟨[],rfl,by simp,rfl,.nil⟩
   |cons a l=>simp only[qke]at h;cases h
 |[a],d,v,h=>by
   cases d with
   |nil=>simp only[qke]at h;cases h
   |cons n d=>
     cases d with
     |cons _ _=>simp only[qke]at h;cases h
     |nil=>
       simp[qke]at h;split at h<;>try cases h
       rename_i x e;let⟨y,j,k,g3,i⟩:=qId g e h;refine⟨[y],by simp[Qp,j],by simpa using k,?_,.cons i .nil⟩;show(jE _&&true)=true;rw[g3];rfl
 |a::b::ts,d,v,h=>by
   cases d with
   |nil=>simp only[qke]at h;cases h
   |cons n d=>
     simp[qke]at h;split at h<;>try cases h
     rename_i x e;split at h<;>try cases h
     rename_i w q;split at h<;>cases h;rename_i r f;let⟨y,j,k,g3,i⟩:=qId g e q;let⟨l,p,t,s,o⟩:=qIt g f;refine⟨y::l,by simp[Qp,j,p],?_,?_,.cons i o⟩
     .grind
     .grind [noRefs,g3]
theorem qQD{x}(h:jE x=true):refs 0 0 x=false:=by
 grind [refs,qfI]
theorem qPV{ts rs}:qCR c (qke c ts rs) (λ v=>Ret c.pc rs λ z=>Sub z (zY (qbg ts v))):=by
 intro E τ v m tm σ h d e f;refine⟨f,?_⟩;let⟨l,i,b,g3,g⟩:=qIt d h;rw[i];show refs 0 0 (qj7 0 σ.rw (zY l))=false/\Sub (qj7 0 σ.rw (zY l)) (zY (qbg ts v))
 have a:qj7 0 σ.rw (zY l)=zY (l.map (qlW 0 σ.rw)):=by
  match l,b with
  |[],_=>rfl
  |[y],b=>
    have:=b y (wD.2 rfl);cases y<;>first|rfl|exact absurd rfl (this _)
  |y::z::l,_=>rfl
 rw[a];constructor
 .apply qQD
  match l,g3 with
  |[],_=>rfl
  |[y],g3=>
    show jE (qlW 0 σ.rw y)=true;simpa[noRefs]using g3
  |y::z::l,g3=>exact qAH g3
 .match l,qbg ts v,g with
  |[],[],_=>exact .refl _
  |[y],[z],.cons h _=>exact h
  |y::n::l,z::j::k,h=>exact h.tup
theorem qTk{ts fn cd}(m:fn.body=some cd){n k xs ys v}(a:c.nt=fn.ntmps)(g:c.np=0)(j:ys.length<=fn.ntmps)(f:OKL mp0 xs ys)(h:qqE c (qke c ts fn.results.toList) n k [.code cd] (qfA 0 xs) ⟨[],[]⟩=some v):GoB c.pc (λ z=>Sub z (zY (qbg ts v))) fn ys:=by
 unfold GoB;rw[m]
 have e:Rel c.n2 mp0 (qfA 0 xs) ⟨[],[]⟩ (ys++List.replicate (fn.ntmps-ys.length) .dead) emp:=by
  refine⟨by show _=c.nt;rw[wd,kX,a];omega,λ t=>?_,rfl,rfl,λ b cs h=>by simp at h,λ b o h=>absurd h (wN _),λ id R h=>(by cases h),λ id d r h=>absurd h (wN _),λ i l=>absurd l (by grind)⟩;have:=qwb 0 (pre:=[]) (post:=List.replicate (fn.ntmps-ys.length) .dead) f rfl t;simpa using this
 exact quO qPV n k _ _ _ _ _ _ _ h e
end
end Go.AmZ
namespace Go.AmZ
open Go Go.RowKit Go.GxZ
section
variable {α:Type}{m:Mp}{E:Env}{τ:TS}{tm:List AV}{σ:St}{c:TC}
theorem qKP{a y v}(h:Ql a y=some v):OK m (qlQ a v) y:=by
 unfold Ql at h;split at h
 case h_2=>cases h
 rename_i hb;have hb:a.agg=QT y:=by simpa[Q7]using hb
 have hc:OKL m (J9 a v) (cellsOf y):=Qg h
 have agg:a.agg=true->∃ ds,y = .agg ds/\OKL m (J9 a v) ds:=by
  intro ha;rw[hb]at ha;cases y with
  | agg cs=>exact⟨cs,rfl,hc⟩
  | _=>cases ha
 have one:a.agg=false->cellsOf y=[y]:=by
  intro ha;rw[hb]at ha;cases y<;>first | rfl | (cases ha)
 cases a with
 | term=>exact agg rfl
 | pair a b=>exact agg rfl
 | one a=>exact agg rfl
 | int k=>rw[one rfl]at hc;obtain⟨z,r,he,h1,_⟩:=hc;cases he;exact h1
 | bool=>rw[one rfl]at hc;obtain⟨z,r,he,h1,_⟩:=hc;cases he;exact h1
 | str=>rw[one rfl]at hc;obtain⟨z,r,he,h1,_⟩:=hc;cases he;exact h1
 | list a=>rw[one rfl]at hc;obtain⟨z,r,he,h1,_⟩:=hc;cases he;exact h1
 | map a b=>rw[one rfl]at hc;obtain⟨z,r,he,h1,_⟩:=hc;cases he;exact h1
structure qkb (m:Mp) (σ:St) (nb nr:Nat):Prop where
 b:∀i,m.b i=i
 nb:m.nb=nb
 rows:yW m σ
 low:∀id r,id<m.rw.length->m.r id=some r->r<nr
 rinj:∀id id' r,id<m.rw.length->id'<m.rw.length->m.r id=some r->m.r id'=some r->id=id'
 zero:∀(id:Nat) (R:yk),m.rw[id]?=some R->R.ver=0
theorem qkb.add{nb nr}(h:qkb m σ nb nr){a l e vo qo nr'}(q:JG σ ⟨a,l,0,0,false⟩ e vo qo)(s:nr<=nr')(i:∀r,e=some r->nr<=r/\r<nr'):qkb (m.add ⟨a,l,0,0,false⟩ e vo qo) σ nb nr':=by
 refine⟨h.b,h.nb,qp4 h.rows q λ _ _ h=>h,?_,?_,?_⟩
 .intro id r p g;change id<(m.rw++[_]).length at p;change (if id=m.rw.length then e else m.r id)=some r at g;simp at p;split at g
  .exact(i r g).2
  .have:=h.low id r (by omega) g;omega
 .intro id c r k j e1 f;change id<(m.rw++[_]).length at k;change c<(m.rw++[_]).length at j;change (if id=m.rw.length then e else m.r id)=some r at e1;change (if c=m.rw.length then e else m.r c)=some r at f;simp at k j;split at e1<;>split at f
  .omega
  .have:=h.low c r (by omega) f;have:=(i r e1).1;omega
  .have:=h.low id r (by omega) e1;have:=(i r f).1;omega
  .exact h.rinj id c r (by omega) (by omega) e1 f
 .intro id R d;change (m.rw++[_])[id]?=some R at d;rw[List.getElem?_append]at d;split at d
  .exact h.zero id R d
  .cases o:id-m.rw.length with
   |zero=>rw[o]at d;cases d;rfl
   |succ n=>rw[o]at d;cases d
theorem qAN{m nb k a t y l}(b:qeW σ t k y=some (l,a))(u:qkb m σ nb k):
  ∃d,MLe m d/\qkb d σ nb a/\d.rw=m.rw++[⟨t,l,0,0,false⟩]/\OK d (.row m.rw.length 0) y:=by
 have step:∀f g n,JG σ ⟨t,l,0,0,false⟩ f g n->k<=a->(∀r,f=some r->k<=r/\r<a)->qag f g t l y->
   ∃d,MLe m d/\qkb d σ nb a/\d.rw=m.rw++[⟨t,l,0,0,false⟩]/\OK d (.row m.rw.length 0) y:=by
  intro f g n w i o j;refine⟨_,qrX m ⟨t,l,0,0,false⟩ f g n,u.add w i o,rfl,⟨t,l,0,0,false⟩,by show(m.rw++_)[m.rw.length]?=_;simp,wg _,j.ish,λ _=>?_⟩;show qag (if m.rw.length=m.rw.length then f else m.r m.rw.length) (if m.rw.length=m.rw.length then g else m.v m.rw.length) t l y;rw[if_pos rfl,if_pos rfl];exact j
 unfold qeW at b;split at b
 .split at b<;>try cases b
  rename_i R x;split at b<;>try cases b
  rename_i q;split at b<;>cases b;rename_i e;obtain⟨rfl,rfl,rfl,z,rfl,rfl,s⟩:=of_decide_eq_true q;refine step (some _) R.ver R.c ⟨R,x,rfl,rfl,z,e,by rw[s.1];exact wg _,λ _=>s⟩ (ke _) (λ r h=>by cases h;omega) ?_;show _=_;rw[zb e]
 .split at b
  .rename_i q p;cases b;exact step none 0 [] (λ _=>rfl) (wa _) (λ r h=>by cases h) ⟨q,of_decide_eq_true p⟩
  .cases b
theorem qnH: ∀l {m nb e a ds v},qgX σ l e ds=some (v,a)->qkb m σ nb e->
  ∃b,MLe m b/\qkb b σ nb a/\b.rw=m.rw++qeh l v/\OKL b (qh2 l m.rw.length v) ds
 |[],m,nb,e,a,ds,v,h,f=>by
   cases ds with
   |cons d ds=>simp[qgX]at h
   |nil=>
     obtain⟨_,rfl⟩:=h;exact⟨m,.refl m,f,(wy _).symm,rfl⟩
 |.val t::l,m,nb,e,a,ds,v,h,f=>by
   simp[qgX]at h;split at h<;>try cases h
   rename_i w j;split at h<;>cases h;rename_i vs c;let⟨b,i,o,k,g⟩:=qnH l c f;refine⟨b,i,o,k,?_⟩;rw[<-kD t.size ds];exact(Qg j).append g
 |.row t::l,m,nb,e,a,ds,v,h,f=>by
   cases ds with
   |nil=>simp[qgX]at h
   |cons d ds=>
     simp[qgX]at h;split at h<;>try cases h
     rename_i w n j;split at h<;>cases h;rename_i vs c;let⟨b,u,s,p,r⟩:=qAN j f;let⟨q,i,o,k,g⟩:=qnH l c s;rw[p,wd]at g;exact⟨q,u.trans i,o,by rw[k,p,wn];rfl,⟨_,_,rfl,r.mono i,g⟩⟩
theorem qho:∀(sas:List SA) {m:Mp}{nb o:Nat}{ys:List AV}{a:qaJ sas},dS σ sas nb o ys=some a->qkb m σ nb o->
  ∃m' c d,MLe m m'/\qkb m' σ c d/\c=σ.bx.length/\m'.rw=m.rw++sRw sas a/\nb+(sBx sas m.rw.length a).length=c/\OKL m' (qmh sas nb m.rw.length a) ys/\ys.length<=sas.length/\
   ∀(i:Nat) (cs:List TV),(sBx sas m.rw.length a)[i]?=some cs->∃ds,σ.bx[nb+i]?=some ds/\OKL m' cs ds
 |[],m,nb,o,ys,a,h,e=>by
   cases ys with
   |cons y ys=>simp[dS]at h
   |nil=>
     simp only[dS]at h;split at h<;>try cases h
     rename_i E;have E:=of_decide_eq_true E;exact⟨m,nb,o,.refl m,e,E.1,(wy _).symm,rfl,rfl,wa _,λ i cs h=>by cases h⟩
 |.nil::sas,m,nb,o,ys,a,h,e=>by
   obtain⟨C,rfl,h⟩:∃C,ys=.v (.slice none 0 0)::C/\dS σ sas nb o C=some a:=by
    cases ys with
    |nil=>simp[dS]at h
    |cons y ys=>
      simp only[dS]at h;split at h
      .rename_i X;exact⟨ys,by rw[qAM X],h⟩
      .cases h
   let⟨m',c,d,u,s,A,z,w,f,x,r⟩:=qho sas h e;exact⟨m',c,d,u,s,A,z,w,⟨_,_,rfl,rfl,f⟩,xw x,r⟩
 |.clo g k::sas,m,nb,o,ys,a,h,e=>by
   cases ys with
   |nil=>simp[dS]at h
   |cons y ys=>
     simp only[dS]at h;split at h<;>try cases h
     rename_i cs M;obtain⟨rfl,T⟩:=qHV M;let⟨m',c,d,u,s,A,z,w,f,x,r⟩:=qho sas h e;have S:=f.take k;have E:=f.drop k;rw[List.take_left' T]at S;rw[List.drop_left' T]at E;refine⟨m',c,d,u,s,A,z,w,⟨_,_,rfl,⟨_,rfl,S⟩,E⟩,?_,r⟩;rw[wd]at x;rw[wx,wx];omega
 |.val t::sas,m,nb,o,ys,a,h,e=>by
   cases ys with
   |nil=>simp[dS]at h
   |cons y ys=>
     simp only[dS]at h;split at h<;>try cases h
     rename_i v B;split at h<;>cases h;rename_i vs p;let⟨m',c,d,u,s,A,z,w,f,x,r⟩:=qho sas p e;exact⟨m',c,d,u,s,A,z,w,⟨_,_,rfl,qKP B,f⟩,xw x,r⟩
 |.box l::sas,m,nb,o,ys,a,h,e=>by
   cases ys with
   |nil=>simp[dS]at h
   |cons y ys=>
     simp only[dS]at h;split at h<;>try cases h
     rename_i v n B;split at h<;>cases h;rename_i vs p;unfold qjv at B;split at B<;>try cases B
     rename_i j G;split at B<;>try cases B
     rename_i _ _ ds K L;have K:=wm K;subst K;have G:=qEF G;subst G;have I:qkb {m with nb:=m.nb+1} σ (j+1) o:=⟨e.b,by show m.nb+1=_;rw[e.nb],e.rows,e.low,e.rinj,e.zero⟩
     have J:MLe m {m with nb:=m.nb+1}:=⟨ke _,λ _ _=>rfl,λ id R h=>⟨R,h,wa _,wa _,λ _=>⟨rfl,rfl,rfl,rfl,(λ _=>rfl),λ _ _ h=>h⟩⟩⟩
     let⟨F,Q,P,D,O⟩:=qnH l B I;let⟨m',c,d,u,s,A,z,w,f,x,r⟩:=qho sas p P;have D:F.rw=m.rw++qeh l v:=D;have q:F.rw.length=m.rw.length+nR l:=by rw[D,wd,Ju]
     rw[q]at w f r;have H:m'.nb=c:=s.nb;have W:(sBx (.box l::sas) m.rw.length (toB l v,vs)).length=(sBx sas (m.rw.length+nR l) vs).length+1:=rfl;refine⟨m',c,d,J.trans (Q.trans u),s,A,?_,by omega,⟨_,_,rfl,by have:=qSk (m:=m') (l:=l) (b:=j) (by rw[H];omega);rwa [s.b]at this,f⟩,xw x,λ i cs U=>?_⟩
     .rw[z,D,wn];show _=m.rw++(qeh l (toC l (toB l v))++_);rw[qoB]
     .cases i with
      |zero=>
        cases U;refine⟨ds,L,?_⟩;show OKL m' (qh2 l m.rw.length (toC l (toB l v))) ds;rw[qoB];exact O.mono u
      |succ i=>
        let⟨N,g1,Z⟩:=r i cs U;exact⟨N,by rw[<-g1];congr 1;omega,Z⟩
 |.row t::sas,m,nb,o,ys,a,h,e=>by
   cases ys with
   |nil=>simp[dS]at h
   |cons y ys=>
     simp only[dS]at h;split at h<;>try cases h
     rename_i l V Y;split at h<;>cases h;rename_i vs p;let⟨F,Q,P,D,O⟩:=qAN Y e;let⟨m',c,d,u,s,A,z,w,f,x,r⟩:=qho sas p P;have q:F.rw.length=m.rw.length+1:=by rw[D,wd];rfl
     rw[q]at w f r;exact⟨m',c,d,Q.trans u,s,A,by rw[z,D,wn];rfl,w,⟨_,_,rfl,O.mono u,f⟩,xw x,r⟩
theorem qlj{a ds v}(h:qL a ds=some v):QI ds (qe a v):=by
 let⟨pre,b,_,_,c,_⟩:=yc a (qR.1 h);rw[wy]at b;rw[b];exact c
def qrW(σ:St)(b:List Nat)(a:Ty)(v:List (Val a))(y:AV):Option Nat->Prop
 |some j=>∃Q,y=.rs j 0 Q.c.length Q.ver false/\σ.rw[j]?=some Q/\Q.k=a.size/\Q.fz=0/\zl (qL a) Q.c=some v/\j ∉ b/\Q.off=false
 |none=>v=[]/\dlist a y=some []/\2<=lvl y
def qD2(l:List SA):Nat:=nBx l
theorem qlm: ∀sas L a,(sBx sas L a).length=nBx sas
 |[],_,_=>rfl
 |.nil::sas,L,a|.clo _ _::sas,L,a=>qlm sas L a
 |.val _::sas,L,a=>qlm sas L a.2
 |.row _::sas,L,a=>qlm sas _ a.2
 |.box _::sas,L,a=>by rw[sBx,wx,qlm sas _ a.2,nBx]
inductive FC (σ:St) (fs:List Nat):(l:List RA)->CV l->List AV->List (Option Nat×Row)->Prop
 |nil:FC σ fs [] () [] []
 |val {a:Ty}{l:List RA}{v:Val a}{vs:CV l}{ds ds':List AV}{qj:List (Option Nat×Row)} (h:QI (ds.map (qY σ.rw)) (qe a v)/\(noMc ds=false->qL a ds=some v)) (hf:∀x∈ds,∀r∈rsC x,r∈fs) (t:FC σ fs l vs ds' qj):FC σ fs (.val a::l) (v,vs) (ds++ds') qj
 |row {a:Ty}{l:List RA}{v:List (Val a)}{vs:CV l}{y:AV}{ds:List AV}{qj:List (Option Nat×Row)}{so:Option Nat} (h:qrW σ fs a v y so) (t:FC σ fs l vs ds qj):FC σ fs (.row a::l) (v,vs) (y::ds) ((so,⟨a.size,v.map (qe a),0,0,false⟩)::qj)
inductive FR (σ:St) (fs:List Nat) (rws:List yk) (nB:List (Option Nat×Row)):(rs:List RE)->Nat->Nat->RV rs->List AV->List (Option Nat×Row)->List Nat->Prop
 |nil {n d:Nat}:FR σ fs rws nB [] n d () [] [] []
 |val {a:Ty}{rs:List RE}{v:Val a}{vs:RV rs}{y:AV}{ys:List AV}{qj:List (Option Nat×Row)}{n d:Nat}{kb:List Nat} (h:Sub (jk σ.rw y) (yR a v)) (hf:∀r∈rsA y,r∈fs) (t:FR σ fs rws nB rs n d vs ys qj kb):FR σ fs rws nB (.one (.val a)::rs) n d (v,vs) (y::ys) qj kb
 |row {a:Ty}{rs:List RE}{v:List (Val a)}{vs:RV rs}{y:AV}{ys:List AV}{qj:List (Option Nat×Row)}{so:Option Nat}{n d:Nat}{kb:List Nat}
  (h:qrW σ fs a v y so)
  (t:FR σ fs rws nB rs n (d+1) vs ys qj kb):FR σ fs rws nB (.one (.row a)::rs) n d (v,vs) (y::ys) ((so,⟨a.size,v.map (qe a),0,0,false⟩)::qj) kb
 |agg {l:List RA}{rs:List RE}{v:CV l}{vs:RV rs}{ds:List AV}{ys:List AV}{n1 n2:List (Option Nat×Row)}{n d:Nat}{kb:List Nat} (h:FC σ fs l v ds n1) (t:FR σ fs rws nB rs n (d+nR l) vs ys n2 kb):FR σ fs rws nB (.agg l::rs) n d (v,vs) (.agg ds::ys) (n1++n2) kb
inductive FB (σ:St) (fs:List Nat):(sas:List SA)->J4 sas->Nat->List (Option Nat×Row)->Prop
 |nil {n:Nat}:FB σ fs [] () n []
 |skip1 {r:List SA}{o:J4 r}{n:Nat}{qj:List (Option Nat×Row)} (t:FB σ fs r o n qj):FB σ fs (.nil::r) o n qj
 |skip2 {r:List SA}{o:J4 r}{n g k:Nat}{qj:List (Option Nat×Row)} (t:FB σ fs r o n qj):FB σ fs (.clo g k::r) o n qj
 |skip3 {r:List SA}{o:J4 r}{n:Nat}{a:Ty}{qj:List (Option Nat×Row)} (t:FB σ fs r o n qj):FB σ fs (.val a::r) o n qj
 |skip4 {r:List SA}{o:J4 r}{n:Nat}{a:Ty}{qj:List (Option Nat×Row)} (t:FB σ fs r o n qj):FB σ fs (.row a::r) o n qj
 |box {r:List SA}{l:List RA}{v:CV l}{o:J4 r}{n:Nat}{ds:List AV}{n1 n2:List (Option Nat×Row)} (hd:σ.bx[n]?=some ds) (h:FC σ fs l v ds n1) (t:FB σ fs r o (n+1) n2):FB σ fs (.box l::r) (toB l v,o) n (n1++n2)
theorem qIx(D:Rel c.n2 m E τ tm σ){a:Ty}{x:TV}{y:AV}{w:List (Val a)}{i:List Nat}(b:qiS τ.rw a x=some (w,i))(v:OK m x y):
  ∃so,i.filterMap m.r=so.toList/\(∀id∈i,id<m.rw.length)/\∀n,(∀id∈i,∀r,m.r id=some r->r ∉ n)->qrW σ n a w y so:=by
 unfold qiS at b;split at b
 .cases b;cases v;exact⟨none,rfl,by simp,λ _ _=>⟨rfl,rfl,wa _⟩⟩
 .split at b<;>cases b;rename_i u s;let⟨e,d⟩:=jD u;subst e;have d:_=_:=d;subst d;let⟨q,p⟩:=v;exact⟨none,rfl,by simp,λ _ _=>⟨rfl,q,wz (of_decide_eq_true s) p⟩⟩
 .rename_i id H;split at b<;>try cases b
  rename_i R L;split at b<;>try cases b
  rename_i g;rw[wc,wM]at g;split at b<;>cases b;rename_i u;let⟨e,d⟩:=jD u;subst e;have d:R.l=w:=d;subst d;let⟨R',z,_,_,G⟩:=v;have f:m.rw[id]?=some R:=by rw[D.rw];exact L
  rw[f]at z;cases z;have h:∀i∈[id],i<m.rw.length:=by intro i hi;rw[wD.1 hi];exact getElem?_lt f
  obtain⟨j,Q,k,K,o,C,B,J,I,M,A⟩|⟨k,o,C,B⟩:=qhk D.rows f (G (wm g.1))
  .refine⟨some j,by simp[k],h,λ n t=>⟨Q,K,o,J,(A g.2).1,I,?_,(A g.2).2⟩⟩;exact t id (wD.2 rfl) j k
  .have F:=o g.2;refine⟨none,by simp[k],h,λ n _=>⟨F,?_,B⟩⟩;rw[<-F];exact C
 .cases b
theorem qPH(so:Option Nat)(R:Row)(l):((so,R)::l).filterMap (·.1)=so.toList++l.filterMap (·.1):=by cases so<;>rfl
def qrt(rw:List yk)(b:List Nat)(a:List yk):Prop:=∀(p id:Nat),b[p]?=some id->∃R R',rw[id]?=some R/\a[p]?=some R'/\R.sh=false/\∃h:R'.τ=R.τ,h▸R'.l=R.l
theorem qrt.app {rw a b x y} (h:qrt rw a x) (g:qrt rw b y) (j:a.length=x.length):qrt rw (a++b) (x++y) := λ p id c=>by
 by_cases d:p<a.length
 ·rw [List.getElem?_append_left d] at c;obtain ⟨R,R',i,f,e⟩:=h p id c;exact ⟨R,R',i,by rw [List.getElem?_append_left (by omega)];exact f,e⟩
 ·rw [List.getElem?_append_right (by omega)] at c;obtain ⟨R,R',i,f,e⟩:=g _ id c;exact ⟨R,R',i,by rw [List.getElem?_append_right (by omega),<- j];exact f,e⟩
theorem qE2{rw:List yk}{a:Ty}{x:TV}{w:List (Val a)}{i:List Nat}(h:qiS rw a x=some (w,i)):i.length<=1/\(i.length=1->qrt rw i [⟨a,w,0,0,false⟩]):=by
 unfold qiS at h;split at h
 .cases h;exact⟨by simp,λ h=>by cases h⟩
 .split at h<;>cases h;exact⟨by simp,λ h=>by cases h⟩
 .rename_i id d;split at h<;>try cases h
  rename_i R k;split at h<;>try cases h
  rename_i b;rw[wc,wM]at b;split at h<;>cases h;rename_i j;let⟨e,g⟩:=jD j;subst e;subst g;refine⟨wa _,λ _ p f c=>?_⟩;cases p with
  |zero=>cases c;exact⟨R,_,k,rfl,b.2,rfl,rfl⟩
  |succ p=>cases c
 .cases h
theorem qmn{rw:List yk}:∀{l cs v ids q},qav rw l cs=some (v,ids,q)->ids.length<=nR l/\(ids.length=nR l->qrt rw ids (qeh l v))
 | [],cs,v,ids,q,h=>by
   cases cs with
   | cons c cs=>simp[qav]at h
   | nil =>
     obtain⟨_,rfl,_⟩:=h;exact⟨wa _,λ _ p id h=>by cases h⟩
 | .val t::l,cs,v,ids,q,h=>by
   simp only[qav]at h;split at h<;>try (cases h;done)
   rename_i w vs ids0 q0 hw hvs;obtain⟨rfl,rfl,rfl⟩:=h;have:=qmn hvs;exact this
 | .row t::l,cs,v,ids,q,h=>by
   cases cs with
   | nil=>simp[qav]at h
   | cons c cs =>
     simp only[qav]at h;split at h<;>try (cases h;done)
     rename_i w i vs ids' q0 hw hvs;obtain⟨rfl,rfl,rfl⟩:=h;obtain⟨a1,a2⟩:=qE2 hw;obtain⟨b1,b2⟩:=qmn hvs;refine⟨by rw[wd,nR];omega,λ hl=>?_⟩;rw[wd,nR]at hl;exact(a2 (by omega)).app (b2 (by omega)) (by show i.length=1;omega)
theorem qgU{τ : TS}:∀ sas {n o a q},qij τ sas n=some (o,a,q)->a.length<=nrB sas/\(a.length=nrB sas->qrt τ.rw a (qdB sas o))
 | [],n,o,a,q,h=>by
   obtain⟨_,rfl,_⟩:=h;exact⟨wa _,λ _ p id h=>by cases h⟩
 | .nil::sas,n,o,a,q,h=>qgU sas (o:=o) h
 | .clo _ _::sas,n,o,a,q,h=>qgU sas (o:=o) h
 | .val _::sas,n,o,a,q,h=>qgU sas (o:=o) h
 | .row _::sas,n,o,a,q,h=>qgU sas (o:=o) h
 | .box l::sas,n,o,a,q,h=>by
   simp only[qij]at h;split at h<;>try (cases h;done)
   rename_i cs g;split at h<;>try (cases h;done)
   rename_i v i r c b m d e;obtain⟨rfl,rfl,rfl⟩:=h;obtain⟨t,k⟩:=qmn d;obtain⟨s,j⟩:=qgU sas e;refine⟨by rw[wd,nrB];omega,λ f=>?_⟩;rw[wd,nrB]at f;have:=(k (by omega)).app (j (by omega)) (by rw[Ju];omega);show qrt τ.rw (i++b) (qeh l (toC l (toB l v))++qdB sas c);rw[qoB];exact this
theorem qcn{ds}(h:noMc ds=false):∃b c a ks vs,ds=[.mc b c a ks vs]:=by
 unfold noMc at h;split at h
 .exact⟨_,_,_,_,_,rfl⟩
 .cases h
theorem qSh{rw a v ds}(b:noMc ds=false)(h:qL a (ds.map (qY rw))=some v):qL a ds=some v:=by
 obtain⟨_,_,_,_,_,rfl⟩:=qcn b;exact h
theorem FC.len{fs l v ds qj}(h:FC σ fs l v ds qj):l.length<=ds.length:=by
 induction h with
 |nil=>exact wa _
 | @val a l v vs ds c qj h d t b=>
   have:=h.1.len;rw[wE,yj]at this;have:=waI a;rw[wx,wd];omega
 |row h t b=>exact xw b
theorem FC.mc{k:List Nat}{l:List RA}{v:CV l}{ds:List AV}{qj:List (Option Nat×Row)}(h:FC σ k l v ds qj)(d:noMc ds=false):∃a w,(∀L,qa7 l L v=qe a w)/\qL a ds=some w:=by
 cases h with
 |nil=>cases d
 | @val a l w vs g b qj h n t=>
   have i:=h.1.len;rw[wE,yj]at i;have m:=waI a;have c:(g++b).length=1:=by let⟨_,_,_,_,_,e⟩:=qcn d;rw[e];rfl
   rw[wd]at c;have e:b=[]:=wi (by omega);subst e;rw[wy]at d |-
   have f:=t.len;cases l with
   |nil=>exact⟨a,w,λ L=>by rw[qa7,qa7,wy],h.2 d⟩
   |cons x l=>simp at f
 | @row a l w vs y b qj so h t=>
   let⟨_,_,_,_,_,e⟩:=qcn d;cases e;exfalso;cases so with
   |none=>let⟨_,h,_⟩:=h;cases h
   |some j=>let⟨Q,h,_⟩:=h;cases h
theorem qJ5{Γ:Gh}{w:World}{b:Nat}:∀(a:Ty) {v:Val a}{ds:List AV},noMc ds=false->qL a ds=some v->QE Γ w b ds->qR7 ds (qe a v)
 |.int _,v,ds,c,h,_|.bool,v,ds,c,h,_|.str,v,ds,c,h,_|.term,v,ds,c,h,_|.list _,v,ds,c,h,_=>by obtain⟨_,_,_,_,_,rfl⟩:=qcn c;cases h
 |.pair a b,v,ds,c,h,_=>by
   obtain⟨_,_,_,_,_,rfl⟩:=qcn c;let⟨pre,f,d,_⟩:=yc (.pair a b) (qR.1 h);rw[wy]at f;rw[<-f]at d;have d:1=a.size+b.size:=d;have:=waI a;have:=waI b;omega
 |.one a,v,ds,c,h,q=>qJ5 a c h q
 |.map k τ,l,ds,c,h,q=>by
   obtain⟨_,_,_,ks,vs,rfl⟩:=qcn c;have h:full (yL (dMc k τ (qL k) (qL τ)) [_])=some l:=h;unfold yL at h;simp only at h;split at h<;>cases h;rename_i C;let⟨A,vs',e,n⟩:=qc4 C;cases e;let⟨F,E⟩:=qmi n;let⟨J,u,s,I,H,z⟩:=q
   have o:ks=l.map λ p=>qe k p.1:=by
    apply kY;intro i;rw[List.getElem?_map];by_cases B:i<ks.length
    .have f:=List.getElem?_eq_getElem B;have d:=List.getElem?_eq_getElem (l:=vs) (i:=i) (by omega);let⟨p,m,y,_⟩:=quE n f d;rw[m,f];have D:u[i]?=some u[i]:=Array.getElem?_eq_getElem (by omega);rw[qPM y (z i _ _ _ f d D).2.2.1];rfl
    .rw[List.getElem?_eq_none (by omega),List.getElem?_eq_none (by omega)];rfl
   refine⟨_,_,_,ks,vs,l.map λ p=>qe τ p.2,rfl,by rw[qe,o],by rw[wE];omega,λ j v G f d=>?_⟩;have K:=getElem?_lt f;let⟨p,m,_,x⟩:=quE n (List.getElem?_eq_getElem (show j<ks.length by omega)) f;rw[List.getElem?_map,m]at d;cases d;have g:=qlj x;refine⟨?_,ww.2 (zq τ p.2)⟩;cases r:τ.agg with
   |true=>exact qFx g
   |false=>
     have e1:=yj τ p.2;rw[qE0 r]at e1;show Sub (QB false v) (QB false (qe τ p.2));revert g e1;generalize qe τ p.2=e;intro g e1;cases g with
     |nil=>cases e1
     |cons h t=>cases t with
       |nil=>exact h
       |cons _ _=>simp at e1
def VC(a:List Nat):List RA->List AV->Prop
 |[],_=>True
 |.val τ::r,ds=>(∀x∈ds.take τ.size,∀q∈rsC x,q∈a)/\VC a r (ds.drop τ.size)
 |.row _::r,ds=>VC a r (ds.drop 1)
theorem VC.all{fs}:∀l {ds},(∀x∈ds,∀q∈rsC x,q∈fs)->VC fs l ds
 |[],_,_=>trivial
 |.val τ::l,ds,h=>⟨λ x a=>h x (wQ a),VC.all l λ x a=>h x (wP a)⟩
 |.row _::l,ds,h=>VC.all l λ x a=>h x (wP a)
theorem VC.clean{n:List Nat}{rw:List yk}:∀{l cs ds v a},qav rw l cs=some (v,a,true)->OKL m cs ds->VC n l ds
 |[],_,_,_,_,_,_=>trivial
 |.val t::l,cs,ds,v,a,h,f=>by
   simp only[qav]at h;split at h<;>try (cases h;done)
   rename_i w vs j o q b;simp only[wB,wL,wc]at h;obtain⟨_,_,s,rfl⟩:=h;refine⟨λ x p r e=>?_,VC.clean b (f.drop t.size)⟩;rw[kM.1 (qjw (f.take t.size) s) x p]at e;cases e
 |.row t::l,cs,ds,v,a,h,f=>by
   cases cs with
   |nil=>simp[qav]at h
   |cons c cs=>
     obtain⟨d,ds,rfl,u,g⟩:=f;simp only[qav]at h;split at h<;>try (cases h;done)
     rename_i w i vs k o q b;obtain⟨_,_,rfl⟩:=h;exact(show VC n l ds from VC.clean b g)
theorem qLA(k:Rel c.n2 m E τ tm σ){u:List Nat}:∀{xs ys d},qIL τ.rw xs=some d->OKL m xs ys->(∀id∈d,id<m.rw.length->∀r,m.r id=some r->r∈u)->∀y∈ys,∀q∈rsC y,q∈u
 |[],ys,d,_,l,_,y,f,_,_=>by cases l;cases f
 |x::xs,ys,d,h,l,s,y,f,q,i=>by
   obtain⟨H,ys,rfl,t,G⟩:=l;simp only[qIL]at h;split at h<;>cases h;rename_i a b e D;obtain rfl|f:=wv.1 f
   .unfold qSK at e;split at e
    .rename_i id w;split at e<;>try cases e
     rename_i R F;split at e<;>cases e;rename_i B;have g:m.rw[id]?=some R:=by rw[k.rw];exact F
     let⟨R',p,_,_,v⟩:=t;rw[g]at p;cases p;obtain⟨j,Q,A,f,_⟩|⟨_,_,z,_⟩:=qhk k.rows g (v (wm B))
     .rw[f]at i;rw[wD.1 i];exact s id (by simp) (getElem?_lt g) j A
     .obtain⟨rfl,_⟩|⟨I,n,rfl,_⟩:=yS z<;>cases i
    .split at e<;>cases e;rename_i C;rw[(quQ t C).1]at i;cases i
   .exact qLA k D G (λ id o=>s id (wj.2 (.inr o))) y f q i
theorem VC.vid(i:Rel c.n2 m E τ tm σ){fs}:∀{l cs ds d},qFu τ.rw l cs=some d->OKL m cs ds->(∀id∈d,id<m.rw.length->∀r,m.r id=some r->r∈fs)->VC fs l ds
 |[],_,_,_,_,_,_=>trivial
 |.val t::l,cs,ds,d,h,f,g=>by
   simp only[qFu]at h;split at h<;>cases h;rename_i a b k j;exact⟨qLA i k (f.take t.size) λ id e=>g id (wj.2 (.inl e)),VC.vid i j (f.drop t.size) λ id e=>g id (wj.2 (.inr e))⟩
 |.row t::l,cs,ds,d,h,f,g=>VC.vid i (l:=l) h (f.drop 1) g
def VB(a:List Nat)(σ:St):List SA->Nat->Prop
 |[],_=>True
 |.box l::r,n=>(∀ds,σ.bx[n]?=some ds->VC a l ds)/\VB a σ r (n+1)
 |.nil::r,n|.clo _ _::r,n|.val _::r,n|.row _::r,n=>VB a σ r n
theorem VB.all{fs}(h:∀ds∈σ.bx,∀x∈ds,∀q∈rsC x,q∈fs):∀l n,VB fs σ l n
 |[],_=>trivial
 |.box l::r,n=>⟨λ ds a=>VC.all l (h ds (wb a)),VB.all h r (n+1)⟩
 |.nil::r,n|.clo _ _::r,n|.val _::r,n|.row _::r,n=>VB.all h r n
theorem VB.clean(d:Rel c.n2 m E τ tm σ){u:List Nat}:∀sas {n o e},qij τ sas n=some (o,e,true)->(∀i,i<nBx sas->m.b (n+i)=n+i)->VB u σ sas n
 |[],_,_,_,_,_=>trivial
 |.nil::r,_,o,_,h,a|.clo _ _::r,_,o,_,h,a|.val _::r,_,o,_,h,a|.row _::r,_,o,_,h,a=>VB.clean d r (o:=o) h a
 |.box l::r,n,o,e,h,a=>by
   simp only[qij]at h;split at h<;>try (cases h;done)
   rename_i cs g;split at h<;>try (cases h;done)
   rename_i v i z A k y q s;simp only[wB,wL,wc]at h;obtain⟨_,_,rfl,rfl⟩:=h;let⟨ds,p,x⟩:=d.box n cs g;rw[show m.b n=n from a 0 (xz _)]at p;refine⟨λ w f=>?_,VB.clean d r s λ j t=>?_⟩
   .rw[p]at f;cases f;exact VC.clean q x
   .have:=a (j+1) (waj t);rw[show n+1+j=n+(j+1) by omega];exact this
theorem VB.vid(g:Rel c.n2 m E τ tm σ){q:List Nat}:∀sas {n f},qrL τ sas n=some f->(∀i,i<nBx sas->m.b (n+i)=n+i)->(∀id∈f,id<m.rw.length->∀r,m.r id=some r->r∈q)->VB q σ sas n
 |[],_,_,_,_,_=>trivial
 |.nil::r,_,_,h,d,e|.clo _ _::r,_,_,h,d,e|.val _::r,_,_,h,d,e|.row _::r,_,_,h,d,e=>VB.vid g r h d e
 |.box l::r,n,f,h,d,e=>by
   simp only[qrL]at h;split at h<;>try (cases h;done)
   rename_i cs p;split at h<;>cases h;rename_i a b v u;let⟨ds,s,x⟩:=g.box n cs p;rw[show m.b n=n from d 0 (xz _)]at s;refine⟨λ w o=>?_,VB.vid g r u (λ j t=>?_) λ id k=>e id (wj.2 (.inr k))⟩
   .rw[s]at o;cases o;exact VC.vid g v x λ id k=>e id (wj.2 (.inl k))
   .have:=d (j+1) (waj t);rw[show n+1+j=n+(j+1) by omega];exact this
theorem qqs(s:Rel c.n2 m E τ tm σ):∀{l:List RA}{cs:List TV}{ds:List AV}{v:CV l}{a:List Nat}{q:Bool},qav τ.rw l cs=some (v,a,q)->OKL m cs ds->(∀id∈a,id<m.rw.length)/\
  ∀j,VC j l ds->(∀id∈a,∀r,m.r id=some r->r ∉ j)->∃qj,FC σ j l v ds qj/\qj.map (·.2)=qgA l v/\qj.filterMap (·.1)=a.filterMap m.r/\(a.length=nR l->qj.map (·.1)=a.map m.r)
 |[],cs,ds,v,a,q,h,n=>by
   cases cs with
   |cons c cs=>simp[qav]at h
   |nil=>
     cases n;simp only[qav,wB,wL]at h;obtain⟨_,rfl,_⟩:=h;exact⟨by simp,λ j _ _=>⟨[],.nil,rfl,rfl,λ _=>rfl⟩⟩
 |.val t::l,cs,ds,v,a,q,h,n=>by
   simp only[qav]at h;split at h<;>try (cases h;done)
   rename_i w vs F J p e;simp only[wB,wL]at h;obtain⟨rfl,rfl,rfl⟩:=h;let⟨B,A⟩:=qqs s e (n.drop t.size);have L:=n.take t.size;rw[<-s.rw]at p;let⟨P,D,K⟩:=qdi s.rows t (qfO p) L;cases K;have f:ds=ds.take t.size++ds.drop t.size:=(kD _ _).symm;refine⟨B,λ j g b=>?_⟩;let⟨qj,z,y,u⟩:=A j g.2 b;refine⟨qj,?_,y,u⟩;rw[f];exact .val ⟨qlj (qR.2 D),λ M=>qSh M (qR.2 D)⟩ g.1 z
 |.row t::l,cs,ds,v,a,q,h,n=>by
   cases cs with
   |nil=>simp[qav]at h
   |cons c cs=>
     obtain⟨d,ds,rfl,O,C⟩:=n;simp only[qav]at h;split at h<;>try (cases h;done)
     rename_i w i vs o J p e;simp only[wB,wL]at h;obtain⟨rfl,rfl,rfl⟩:=h;let⟨so,k,I,H⟩:=qIx s p O;let⟨B,A⟩:=qqs s e C;refine⟨λ id b=>(wj.1 b).elim (I id) (B id),λ j g b=>?_⟩;let⟨qj,z,y,u⟩:=A j g λ id h=>b id (wj.2 (.inr h));refine⟨_,.row (H j λ id h=>b id (wj.2 (.inl h))) z,by rw[wk,y];rfl,?_⟩;refine⟨by rw[qPH,kg,<-u.1,k],λ x=>?_⟩;have Q:=(qE2 p).1;have N:=(qmn e).1;have x:(i++o).length=nR l+1:=x;rw[wd]at x;obtain⟨id,rfl⟩:=xV.1 (show i.length=1 by omega);rw[wk,u.2 (by simp at x;omega)]
     have:so=m.r id:=by
      cases G:m.r id with
      |none=>rw[xQ G]at k;cases so with|none=>rfl|some _=>cases k
      |some r=>rw[xC G]at k;cases so with|none=>cases k|some _=>cases k;rfl
     rw[this];rfl
theorem qiW(u:Rel c.n2 m E τ tm σ):∀(sas:List SA) {n:Nat}{o:J4 sas}{a:List Nat}{q:Bool},qij τ sas n=some (o,a,q)->(∀i,i<nBx sas->m.b (n+i)=n+i)->(∀id∈a,id<m.rw.length)/\
  ∀f,VB f σ sas n->(∀id∈a,∀r,m.r id=some r->r ∉ f)->∃qj,FB σ f sas o n qj/\qj.map (·.2)=QV sas o/\qj.filterMap (·.1)=a.filterMap m.r/\(a.length=nrB sas->qj.map (·.1)=a.map m.r)
 |[],n,o,a,q,h,_=>by
   simp only[qij,wB,wL]at h;obtain⟨_,rfl,_⟩:=h;exact⟨by simp,λ f _ _=>⟨[],.nil,rfl,rfl,λ _=>rfl⟩⟩
 |.nil::sas,n,o,a,q,h,g=>by
   let⟨t,s⟩:=qiW u sas (o:=o) h g;exact⟨t,λ f e d=>let⟨qj,p,k⟩:=s f e d;⟨qj,.skip1 p,k⟩⟩
 |.clo _ _::sas,n,o,a,q,h,g=>by
   let⟨t,s⟩:=qiW u sas (o:=o) h g;exact⟨t,λ f e d=>let⟨qj,p,k⟩:=s f e d;⟨qj,.skip2 p,k⟩⟩
 |.val _::sas,n,o,a,q,h,g=>by
   let⟨t,s⟩:=qiW u sas (o:=o) h g;exact⟨t,λ f e d=>let⟨qj,p,k⟩:=s f e d;⟨qj,.skip3 p,k⟩⟩
 |.row _::sas,n,o,a,q,h,g=>by
   let⟨t,s⟩:=qiW u sas (o:=o) h g;exact⟨t,λ f e d=>let⟨qj,p,k⟩:=s f e d;⟨qj,.skip4 p,k⟩⟩
 |.box l::sas,n,o,a,q,h,g=>by
   simp only[qij]at h;split at h<;>try (cases h;done)
   rename_i cs z;split at h<;>try (cases h;done)
   rename_i v i P Q w O B C;simp only[wB,wL]at h;obtain⟨rfl,rfl,rfl⟩:=h;let⟨ds,A,H⟩:=u.box n cs z;have x:m.b n=n:=g 0 (xz _);rw[x]at A;let⟨J,I⟩:=qqs u B H
   let⟨t,s⟩:=qiW u sas C λ j G=>by
    have:=g (j+1) (waj G);rw[show n+1+j=n+(j+1) by omega];exact this
   refine⟨λ id d=>(wj.1 d).elim (J id) (t id),λ f e d=>?_⟩;let⟨p,N,M,F⟩:=I f (e.1 ds A) λ id h=>d id (wj.2 (.inl h));let⟨k,L,K,D⟩:=s f e.2 λ id h=>d id (wj.2 (.inr h));refine⟨p++k,.box A N L,?_,by rw[kg,kg,F.1,D.1],λ y=>?_⟩
   .rw[wZ,M,K];show _=qgA l (toC l (toB l v))++_;rw[qoB]
   .have S:=(qmn B).1;have R:=(qgU sas C).1;have y:(i++w).length=nR l+nrB sas:=y;rw[wd]at y;rw[wZ,wZ,F.2 (by omega),D.2 (by omega)]
def qRM(m:Mp)(σ:St)(b:List Nat)(rws:List yk)(a:List (Option Nat×Row)):Prop:=
 ∀(p id:Nat),b[p]?=some id->∃(R R':yk) (Q:Row),m.rw[id]?=some R/\rws[p]?=some R'/\a[p]?=some (m.r id,Q)/\(∃h:R'.τ=R.τ,h▸R'.l=R.l)/\R.sh=false
theorem qTw(i:Rel c.n2 m E τ tm σ){sas:List SA}{o:J4 sas}{a:List Nat}{q:Bool}(h:qij τ sas 0=some (o,a,q)){f:List (Option Nat×Row)}(j:a.length=nrB sas->f.map (·.1)=a.map m.r):qRM m σ (qJf (nrB sas) a) (qdB sas o) f:=by
 unfold qJf;cases k:Nat.beq a.length (nrB sas)with
 |false=>intro p id b;cases b
 |true=>
   have g:=wm k;intro p id b;have b:a[p]?=some id:=b;let⟨R,R',t,s,n,l⟩:=(qgU sas h).2 g p id b;have e:=congrArg (·[p]?) (j g);simp only[List.getElem?_map,b,k8]at e;cases d:f[p]? with
   |none=>rw[d]at e;cases e
   |some x=>
     rw[d]at e;let⟨so,Q⟩:=x;cases e;exact⟨R,R',Q,by rw[i.rw];exact t,s,rfl,l,n⟩
theorem qo5(o:Rel c.n2 m E τ tm σ){Z:List Nat}{rws:List yk}:∀{G:List RE}{l:List ResultVar}{v:RV G}{f B:List Nat}{q:Bool},qi6 c E τ Z G l=some (v,f,B,q)->(∀id∈f,id<m.rw.length)/\(∀b∈B,b<m.nb)/\
  ∃ys,Qp c.pc.cfg tm σ l=some ys/\∀(j:List Nat) (z:List (Option Nat×Row)) (n d:Nat),qRM m σ Z rws z->rws.length<=d->(((∀y∈ys,∀r∈rsA y,r∈j)/\(∀b∈B,∀ds,σ.bx[m.b b]?=some ds->∀x∈ds,∀r∈rsC x,r∈j)/\f=[])\/(q=true/\∀id∈f,∀r,m.r id=some r->r ∉ j))->
   ∃e u qj,FR σ j rws z e n d u ys qj (B.map m.b)/\qj.map (·.2)=Jy e u/\qj.filterMap (·.1)=f.filterMap m.r/\∀{γ:Type} (k:(e:List RE)->RV e->Option γ),qlu rws G n d v k=k e u
 |[],l,v,f,B,q,h=>by
   cases l with
   |cons a l=>simp[qi6]at h
   |nil=>
     simp only[qi6,wB,wL]at h;obtain⟨_,rfl,rfl,_⟩:=h;exact⟨by simp,by simp,[],rfl,λ j z n d _ _ _=>⟨[],(),[],.nil,rfl,rfl,λ _=>rfl⟩⟩
 |.one (.val a)::G,l,v,f,B,q,h=>by
   cases l with
   |nil=>simp[qi6]at h
   |cons V l=>
     simp only[qi6]at h;split at h<;>try cases h
     rename_i x C;split at h<;>cases h;rename_i w vs Y A s;let⟨y,P,F⟩:=qoz o C;let⟨L,kb,ys,K,J⟩:=qo5 o (rws:=rws) s;rw[<-o.rw]at A;let⟨p1,_⟩:=qhd o.rows A F;refine⟨L,kb,y::ys,by simp only[Qp,P,K],λ j z n d O U g=>?_⟩;let⟨e,u,qj,I,H,R,Q⟩:=J j z n d O U (g.imp (λ h=>⟨λ y N=>h.1 y (we _ N),h.2⟩) λ h=>⟨(wc _ _▸h.1:qnV x=true/\Y=true).2,h.2⟩);refine⟨.one (.val a)::e,(w,u),qj,.val (qs0 p1) ?_ I,H,R,λ k=>Q _⟩;obtain h|h:=g
     .exact h.1 y (wh ..)
     .have T:=(wc _ _▸h.1:qnV x=true/\Y=true).1;rw[qtl T F];intro r o;cases o
 |.one (.row a)::G,l,v,f,B,q,h=>by
   cases l with
   |nil=>simp[qi6]at h
   |cons V l=>
     simp only[qi6]at h;split at h<;>try cases h
     rename_i x C;split at h<;>cases h;rename_i w i vs M A s;let⟨y,P,F⟩:=qoz o C;let⟨L,kb,ys,K,J⟩:=qo5 o (rws:=rws) s;let⟨so,s1,s2,s3⟩:=qIx o A F;refine⟨λ id D=>(wj.1 D).elim (s2 id) (L id),kb,y::ys,by simp only[Qp,P,K],λ j z n d O U g=>?_⟩;let⟨e,u,qj,I,H,R,Q⟩:=J j z n (d+1) O (by omega) (g.imp (λ h=>⟨λ y N=>h.1 y (we _ N),h.2.1,(km.1 h.2.2).2⟩) λ h=>⟨h.1,λ id t=>h.2 id (wj.2 (.inr t))⟩);refine⟨.one (.row a)::e,(w,u),_,.row (s3 j (g.elim (λ h=>(by rw[(km.1 h.2.2).1];intro id t;cases t)) λ h id t=>h.2 id (wj.2 (.inl t)))) I,by rw[wk,H];rfl,?_,λ k=>Q _⟩;rw[qPH,kg,<-R,s1]
 |.agg p::G,l,v,f,B,q,h=>by
   cases l with
   |nil=>simp[qi6]at h
   |cons V l=>
     simp only[qi6]at h;split at h<;>try (cases h;done)
     rename_i cs C;split at h<;>try (cases h;done)
     rename_i w i X vs M aa W A s;simp only[wB,wL]at h;obtain⟨rfl,rfl,rfl,rfl⟩:=h;obtain⟨y,P,ds,rfl,F⟩:=qoz o C;let⟨c0,c1⟩:=qqs o A F;let⟨L,kb,ys,K,J⟩:=qo5 o (rws:=rws) s;refine⟨λ id D=>(wj.1 D).elim (c0 id) (L id),kb,.agg ds::ys,by simp only[Qp,P,K],λ j z n d O U g=>?_⟩;let⟨I,a1,a2,a3⟩:=c1 j (g.elim (λ h=>VC.all p λ x C r S=>h.1 (.agg ds) (wh ..) r (kh.2 ⟨x,C,S⟩)) λ h=>VC.clean (by rw[(wc _ _▸h.1:X=true/\W=true).1]at A;exact A) F) (g.elim (λ h=>(by rw[(km.1 h.2.2).1];intro id t;cases t)) λ h id t=>h.2 id (wj.2 (.inl t)));let⟨e,u,H,b1,b2,b3,b4⟩:=J j z n (d+nR p) O (by omega) (g.imp (λ h=>⟨λ y N=>h.1 y (we _ N),h.2.1,(km.1 h.2.2).2⟩) λ h=>⟨(wc _ _▸h.1:X=true/\W=true).2,λ id t=>h.2 id (wj.2 (.inr t))⟩);exact⟨.agg p::e,(w,u),I++H,.agg a1 b1,by rw[wZ,a2,b2];rfl,by rw[kg,kg,a3.1,b3],λ k=>b4 _⟩
theorem FR.len{e:List Nat}{rws:List yk}{c:List (Option Nat×Row)}{b:List RE}{n d:Nat}{v:RV b}{ys:List AV}{qj:List (Option Nat×Row)}{kb:List Nat}(h:FR σ e rws c b n d v ys qj kb):∀L,ys.length=(qap b L v).length:=by
 induction h with
 |nil=>intro L;rfl
 |val h f t a=>intro L;rw[qap,wx,wx,a L]
 |row h t a=>intro L;rw[qap,wx,wx,a (L+1)]
 |agg h t a=>intro L;rw[qap,wx,wx,a]
theorem qxo{g:List Nat}{a:Ty}{v:List (Val a)}{y:AV}{so:Option Nat}(h:qrW σ g a v y so):qJF σ g so ⟨a.size,v.map (qe a),0,0,false⟩:=by
 refine⟨rfl,rfl,waI a,?_,?_,?_⟩
 .intro e d;obtain⟨w,_,rfl⟩:=wC.1 d;exact yj a w
 .intro e d;obtain⟨w,_,rfl⟩:=wC.1 d;exact zq a w
 .cases so with
  |none=>show v.map (qe a)=[];rw[h.1];rfl
  |some j=>
    let⟨Q,_,p,o,n,f,m⟩:=h;refine⟨Q,p,o,n,by show Q.c.length=(v.map (qe a)).length;rw[zb f,wE],λ i e r q b=>?_,m⟩;let⟨w,l,k⟩:=J0 f q;have b:(v.map (qe a))[i]?=some r:=b;rw[List.getElem?_map,l]at b;cases b;exact qlj k
def qsL(σ:St)(a:List Nat)(qj:List (Option Nat×Row)):Prop:=∀p∈qj,qJF σ a p.1 p.2
theorem FC.newOk{c:List Nat}{l:List RA}{v:CV l}{ds:List AV}{qj:List (Option Nat×Row)}(h:FC σ c l v ds qj):qsL σ c qj:=by
 induction h with
 |nil=>intro p h;cases h
 |val h d t a=>exact a
 |row h t a=>
   intro p b;obtain rfl|b:=wv.1 b
   .exact qxo h
   .exact a p b
theorem FR.newOk{e:List Nat}{rws:List yk}{f:List (Option Nat×Row)}{c:List RE}{n d:Nat}{v:RV c}{ys:List AV}{qj:List (Option Nat×Row)}{kb:List Nat}(h:FR σ e rws f c n d v ys qj kb):qsL σ e qj:=by
 induction h with
 |nil=>intro p h;cases h
 |val h g t a=>exact a
 |row h t a=>
   intro p b;obtain rfl|b:=wv.1 b
   .exact qxo h
   .exact a p b
 |agg h t a=>intro p b;exact(wj.1 b).elim (h.newOk p) (a p)
theorem FB.newOk{a:List Nat}{sas:List SA}{o:J4 sas}{n:Nat}{qj:List (Option Nat×Row)}(h:FB σ a sas o n qj):qsL σ a qj:=by
 induction h with
 |nil=>intro p h;cases h
 |box d h t b=>intro p c;exact(wj.1 c).elim (h.newOk p) (b p)
 |_=>assumption
theorem qIu{c:Gh}{B:World}{i:Nat->Nat->Option Value}{M kb:List Nat}(K:Inv c σ B){nb L p:Nat}{all:List (Option Nat×Row)}{a:Ty}{v:List (Val a)}{y:AV}{so:Option Nat}(h:qrW σ M a v y so)(d:all[p]?=some (so,⟨a.size,v.map (qe a),0,0,false⟩)){u:Value}(x:Rep c y u):Rep (jW c i nb kb L all) (.rs (L+p) 0 v.length 0 false) u:=by
 have G:p<all.length:=getElem?_lt d;have g:¬ L+p<L:=by omega
 have e:L+p-L=p:=by omega
 cases so with
 |some j=>
   obtain⟨Q,rfl,r,q,E,D,C⟩:=h;have H:=K.row j Q r;cases x with
   |rs _ _ _ _ _ f cap R P w A m=>
     have m:=m (H.ver (by rw[E];exact wg _)).symm;have l:=zb D;rw[l]at w;rw[l];show Rep (jW c i nb kb L all) (.rs (L+p) 0 v.length 0 false) (.slice f v.length cap);refine .rs _ _ _ _ _ f cap (by show L+p<L+all.length;omega) (wg _) w (λ h=>by cases h) λ _=>?_
     have O:(jW c i nb kb L all).cur (L+p)=c.cur j:=by
      show(if L+p<L then _ else match all[L+p-L]? with|some (some j,_)=>c.cur j|_=>0)=_;rw[if_neg g,e,d]
     have z:(jW c i nb kb L all).sz (L+p)=c.sz j:=by
      show(if L+p<L then _ else match all[L+p-L]? with|some (some j,_)=>c.sz j|_=>0)=_;rw[if_neg g,e,d]
     have N:(jW c i nb kb L all).k (L+p)=c.k j:=by
      show(if L+p<L then _ else match all[L+p-L]? with|some p=>p.2.k|none=>1)=_;rw[if_neg g,e,d,<-H.k,q]
     rw[O,z,N];rw[H.off C.2]at m;exact m
 |none=>
   obtain⟨rfl,r,q⟩:=h
   have s:∃f,u=.slice f 0 0:=by
    obtain⟨rfl,_⟩|⟨z,n,rfl,I⟩:=yS r
    .exact⟨none,zp x⟩
    .have:z=[]:=wi (zb I);subst this;cases x with
     |sl _ _ _ f F cap b o us t w A=>
       have J:1<n+1:=q;have:=A J;refine⟨f,?_⟩;have t:F=0:=t;rw[this,t]
   obtain⟨f,rfl⟩:=s;refine .rs _ _ _ _ _ f 0 (by show L+p<L+all.length;omega) (wg _) (wa _) (λ h=>by cases h) λ _=>⟨.inl rfl,by rw[wO,kR];exact wg _⟩
theorem qJJ{b:Gh}{n:World}{f:Nat->Nat->Option Value}{m kb:List Nat}(y:Inv b σ n)(s:Le b {b with mem:=f})(j:∀r∈m,∀R,σ.rw[r]?=some R->Qz {b with mem:=f} r R){nb L:Nat}{all:List (Option Nat×Row)}{a:Ty}{v:Val a}{ds:List AV}(h:QI (ds.map (qY σ.rw)) (qe a v))(t:∀x∈ds,∀r∈rsC x,r∈m){us:List Value}(l:RepL b ds us):RepL (jW b f nb kb L all) (qe a v) us:=by
 let⟨p,o⟩:=qaI (zq a v);refine qKs (Γ:={b with mem:=f}) (λ _ _ _ h=>h) (h.rep ?_) p o;refine⟨by rw[wE];exact l.len,λ i x u e g=>?_⟩;rw[List.getElem?_map]at e;cases c:ds[i]? with
 |none=>rw[c]at e;cases e
 |some k=>
   rw[c]at e;cases e;exact qlS y s (λ r q R w=>j r (t k (wb c) r q) R w) (l.rep i k u c g)
theorem RepL.split{Γ:Gh}{a b:List AV}{us:List Value}(h:RepL Γ (a++b) us):RepL Γ a (us.take a.length)/\RepL Γ b (us.drop a.length):=by
 have d:=h.take a.length;have c:=h.drop a.length;rw[List.take_left]at d;rw[List.drop_left]at c;exact⟨d,c⟩
theorem qxm{b:List Nat}{l:List RA}{v:CV l}{ds:List AV}{qj:List (Option Nat×Row)}(h:FC σ b l v ds qj):qj.length=nR l:=by
 induction h with
 |nil=>rfl
 |val h c t a=>exact a
 |row h t a=>exact congrArg (· + 1) a
theorem FC.rep{b:Gh}{p:World}{f:Nat->Nat->Option Value}{o kb:List Nat}(n:Inv b σ p)(q:Le b {b with mem:=f})(j:∀r∈o,∀R,σ.rw[r]?=some R->Qz {b with mem:=f} r R)(nb L:Nat)(all:List (Option Nat×Row)){l:List RA}{v:CV l}{ds:List AV}{qj:List (Option Nat×Row)}(h:FC σ o l v ds qj):
  ∀(pre post:List (Option Nat×Row)),all=pre++(qj++post)->∀us,RepL b ds us->RepL (jW b f nb kb L all) (qa7 l (L+pre.length) v) us:=by
 induction h with
 |nil=>intro pre post _ us c;rw[c.nil_inv];exact .nil
 | @val a l v vs ds w qj h s t i=>
   intro pre post e us c;let⟨m,k⟩:=c.split;have:=(qJJ n q j (nb:=nb) (kb:=kb) (L:=L) (all:=all) h.1 s m).append (i pre post e _ k);rw[kD]at this;exact this
 | @row a l v vs y ds qj so h t i=>
   intro pre post e us c;obtain⟨u,r,rfl,m,k⟩:=c.uncons;have d:all[pre.length]?=some (so,⟨a.size,v.map (qe a),0,0,false⟩):=by rw[e,List.getElem?_append_right (wa _),kP];rfl
   refine .cons (qIu n h d m) ?_;have:=i (pre++[(so,⟨a.size,v.map (qe a),0,0,false⟩)]) post (by rw[e,wn];rfl) r k;rw[wd]at this;exact this
theorem FR.rep{c:Gh}{K:World}{C:Nat->Nat->Option Value}{G:List Nat}(F:Inv c σ K)(J:Le c {c with mem:=C})(w:∀r∈G,∀R,σ.rw[r]?=some R->Qz {c with mem:=C} r R)(nb L:Nat)(H:List Nat)(all:List (Option Nat×Row))(e:qsL σ G all){rws:List yk}{I:List (Option Nat×Row)}(T:∀(p:Nat) (x:Option Nat×Row),I[p]?=some x->all[p]?=some x){i:List RE}{n d:Nat}{v:RV i}{ys:List AV}{qj:List (Option Nat×Row)}{kb:List Nat}(h:FR σ G rws I i n d v ys qj kb):
  ∀(pre:List (Option Nat×Row)),all=pre++qj->pre.length=d->nb<=n->(∀(j b:Nat),kb[j]?=some b->H[n-nb+j]?=some b)->∀us,RepL c ys us->RepL (jW c C nb H L all) (qap i (L+pre.length) v) us:=by
 induction h with
 |nil=>intro pre _ _ _ _ us f;rw[f.nil_inv];exact .nil
 | @val a i v vs y ys qj n d kb h U t m=>
   intro pre g z o s us f;obtain⟨u,r,rfl,B,A⟩:=f.uncons;let⟨N,M⟩:=qfI (qhI a v);exact .cons (qqu (Γ:={c with mem:=C}) (λ _ _ _ h=>h) (h _ _ (qy7 F J (λ q S R V=>w q (U q S) R V) B)) N M) (m pre g z o s r A)
 | @row a i v vs y ys qj so n d kb h t m=>
   intro pre g z o s us f;obtain⟨u,r,rfl,B,A⟩:=f.uncons;have e:all[pre.length]?=some (so,⟨a.size,v.map (qe a),0,0,false⟩):=by rw[g,List.getElem?_append_right (wa _),kP];rfl
   refine .cons (qIu F h e B) ?_;have:=m (pre++[(so,⟨a.size,v.map (qe a),0,0,false⟩)]) (by rw[g,wn];rfl) (by rw[wd,z];rfl) o s r A;rw[wd]at this;exact this
 | @agg l i v vs ds ys P O n d kb h t m=>
   intro pre g z o s us f;obtain⟨u,r,rfl,B,A⟩:=f.uncons;refine .cons ?_ ?_
   .cases B with
    |agg cs us D E Q=>
      have:=h.rep F J w nb L (kb:=H) all pre O g us ⟨D,Q⟩;exact .agg _ us this.len E this.rep
   .have:=m (pre++P) (by rw[g,wn]) (by rw[wd,z,qxm h]) o s r A;rw[wd,qxm h,<-wS]at this;exact this
theorem FR.boxes{c:Gh}{p:World}{k:Nat->Nat->Option Value}{o:List Nat}(C:Inv c σ p)(A:Le c {c with mem:=k})(u:∀r∈o,∀R,σ.rw[r]?=some R->Qz {c with mem:=k} r R)(nb L:Nat)(x:List Nat)(all:List (Option Nat×Row)){rws:List yk}{q:List (Option Nat×Row)}{f:List RE}{n d:Nat}{v:RV f}{ys:List AV}{qj:List (Option Nat×Row)}{kb:List Nat}(h:FR σ o rws q f n d v ys qj kb):
  ∀(pre:List (Option Nat×Row)),all=pre++qj->∀(j:Nat) (cs:List AV),(qaG f (L+pre.length) v)[j]?=some cs->∃b ds,kb[j]?=some b/\σ.bx[b]?=some ds/\(noMc ds=false->∃a w,cs=qe a w/\qL a ds=some w)/\∀us,RepL c ds us->RepL (jW c k nb x L all) cs us:=by
 induction h with
 |nil=>intro pre _ j cs e;cases e
 |val h B t g=>exact λ pre i j cs e=>g pre i j cs e
 | @row a f v vs y ys qj so n d kb h t g=>
   intro pre i j cs e;exact g (pre++[(so,⟨a.size,v.map (qe a),0,0,false⟩)]) (by rw[i,wn];rfl) j cs (by rw[wd];exact e)
 | @agg l f v vs ds ys s z n d kb h t g=>
   intro pre i j cs e;exact g (pre++s) (by rw[i,wn]) j cs (by rw[wd,qxm h,<-wS];exact e)
theorem FR.kept{f:List Nat}{rws:List yk}{e:List (Option Nat×Row)}{c:List RE}{n d:Nat}{v:RV c}{ys:List AV}{qj:List (Option Nat×Row)}{kb:List Nat}(h:FR σ f rws e c n d v ys qj kb):(∀b∈kb,b<σ.bx.length)/\∀L,(qaG c L v).length=kb.length:=by
 induction h with
 |nil=>exact⟨by simp,λ _=>rfl⟩
 |val h g t a=>exact a
 |row h t a=>exact⟨a.1,λ L=>a.2 (L+1)⟩
 |agg h t a=>exact⟨a.1,λ L=>a.2 _⟩
theorem FB.rep{c:Gh}{s:World}{f:Nat->Nat->Option Value}{q kb:List Nat}(A:Inv c σ s)(y:Le c {c with mem:=f})(j:∀r∈q,∀R,σ.rw[r]?=some R->Qz {c with mem:=f} r R)(nb L:Nat)(all:List (Option Nat×Row)){sas:List SA}{o:J4 sas}{n:Nat}{qj:List (Option Nat×Row)}(h:FB σ q sas o n qj):
  ∀(pre post:List (Option Nat×Row)),all=pre++(qj++post)->∀(i:Nat) (cs:List AV),(Jz sas (L+pre.length) o)[i]?=some cs->∃ds,σ.bx[n+i]?=some ds/\(noMc ds=false->∃a w,cs=qe a w/\qL a ds=some w)/\∀us,RepL c ds us->RepL (jW c f nb kb L all) cs us:=by
 induction h with
 |nil=>intro pre post _ i cs b;cases b
 | @box r l v o n ds p m z h t e=>
   intro pre post d i cs b;have d:all=pre++(p++(m++post)):=by rw[d,wn]
   have b:(qa7 l (L+pre.length) (toC l (toB l v))::Jz r (L+pre.length+nR l) o)[i]?=some cs:=b;cases i with
   |zero=>
     cases b;rw[qoB];refine⟨ds,z,λ x=>by let⟨a,w,e1,e2⟩:=h.mc x;exact⟨a,w,e1 _,e2⟩,λ us u=>?_⟩;exact h.rep A y j nb L all pre (m++post) d us u
   |succ i=>
     let⟨k,C,B⟩:=e (pre++p) post (by rw[d,wn]) i cs (by rw[wd,qxm h,<-wS];exact b);exact⟨k,by rw[<-C];congr 1;omega,B⟩
 |skip1 t e|skip2 t e|skip3 t e|skip4 t e=>exact λ pre post d i cs b=>e pre post d i cs b
theorem qLs{c b:Gh}{ys d:List AV}{u:Value}(f:ys.length=d.length)(h:∀us,RepL c ys us->RepL b d us)(a:Rep c (zY ys) u):Rep b (zY d) u:=by
 match ys,d,f with
 |[],[],_=>
   cases a with
   |tup cs us e a=>exact .tup [] us e (h us ⟨e,a⟩).rep
 |[y],[z],_=>
   let⟨l,r,g,i,_⟩:=(h [u] (.cons a .nil)).uncons;cases g;exact i
 |y::k::ys,z::j::d,f=>
   cases a with
   |tup cs us e a=>exact .tup _ us (by rw[e];exact f) (h us ⟨e,a⟩).rep
theorem qLy{e:Type}{f:e->Option Nat}:∀{l:List e},(l.filterMap f).Nodup->∀(a b j:Nat) (x y:e),l[a]?=some x->l[b]?=some y->f x=some j->f y=some j->a=b
 |[],_,a,b,j,x,y,h,_,_,_=>by cases h
 |z::l,d,a,b,j,x,y,o,n,m,k=>by
   have r:(l.filterMap f).Nodup:=by
    cases g:f z with
    |none=>rw[xQ g]at d;exact d
    |some q=>rw[xC g]at d;exact(k9.1 d).2
   have c:∀{i:Nat}{w:e},l[i]?=some w->f z=some j->f w=some j->False:=λ s g p=>by
    rw[xC g]at d;exact(k9.1 d).1 (kF.2 ⟨_,wb s,p⟩)
   cases a with
   |zero=>
     cases b with
     |zero=>rfl
     |succ b=>cases o;exact(c n m k).elim
   |succ a=>
     cases b with
     |zero=>cases n;exact(c o k m).elim
     |succ b=>rw[qLy r a b j x y o n m k]
theorem qJl{P:Program}{c:TC}(hC:yr P c.pc.cfg){f:FuncId}{fn:Func}{cd:Code}(hf:P.funcs[f]?=some fn)(J:J6 fn=true)(S:fn.body=some cd)(aI:c.nt=fn.ntmps)(g:qrp)(Y:c.np=qD2 g.args)(az:g.args.length<=fn.ntmps)
  (h:∀a v,g.fn a=some v->∃n k,qqE c (qyy c g.args g.res fn.results.toList) n k [.code cd] (qfA 0 (qmh g.args 0 0 a)) ⟨sBx g.args 0 a,sRw g.args a⟩=some v):qT P f (sgP g):=by
 unfold J6 at J;rw[S]at J;simp only[wc,wM]at J;let⟨aQ,ak⟩:=J;refine⟨⟨fn,hf,by rw[S];rfl,ak⟩,λ Γ σ w d G r H L hp=>?_⟩;unfold sgP at hp;split at hp<;>try cases hp
 rename_i a ha;split at hp<;>try cases hp
 rename_i v hv;let⟨N,k,av⟩:=h a v hv;have h0:qkb ⟨λ i=>i,0,λ _=>none,λ _=>0,λ _=>[],[]⟩ σ 0 0:=⟨λ _=>rfl,rfl,λ id R h=>(by cases h),λ id r h=>absurd h (wN _),λ id aZ r h=>absurd h (wN _),λ id R h=>(by cases h)⟩
 let⟨m,aC,aY,s1,s2,s3,s4,s5,s6,s7,s8⟩:=qho g.args ha h0;have a1:d.length<=fn.ntmps:=wz s7 az;have s5:0+(sBx g.args 0 a).length=aC:=s5;have F:σ.bx.length=nBx g.args:=by rw[<-s3,<-s5,qlm];omega
 have Y:c.np=nBx g.args:=Y
 have ax:Rel c.n2 m (qfA 0 (qmh g.args 0 0 a)) ⟨sBx g.args 0 a,sRw g.args a⟩ (d++List.replicate (fn.ntmps-d.length) .dead) {σ with wr:=[],wrr:=[]}:=by
  refine⟨by show _=c.nt;rw[wd,kX,aI];omega,λ t=>?_,s4,by show m.nb=(sBx g.args 0 a).length;rw[s2.nb];omega,λ b cs J=>?_,λ b b' _ _ he=>by rw[s2.b,s2.b]at he;exact he,s2.rows,s2.rinj,λ i H=>⟨?_,s2.b i⟩⟩
  .have:=qwb (m:=m) 0 (pre:=[]) (post:=List.replicate (fn.ntmps-d.length) .dead) s6 rfl t;simpa using this
  .let⟨ds,d1,d2⟩:=s8 b cs J;rw[wG]at d1;exact⟨ds,by rw[s2.b];exact d1,d2⟩
  .have H:i<c.np:=H;rw[s2.nb,s3,F,<-Y];exact H
 have aN:Go c.pc (λ e s=>(e=.ret\/e=.normal)/\∃m E τ,Rel c.n2 m E τ s.tm s.σ/\qyy c g.args g.res fn.results.toList E τ=some v) [.code cd] .normal ⟨d++List.replicate (fn.ntmps-d.length) .dead,{σ with wr:=[],wrr:=[]}⟩:=
  quO (Qr:=λ v e s=>(e=.ret\/e=.normal)/\∃m E τ,Rel c.n2 m E τ s.tm s.σ/\qyy c g.args g.res fn.results.toList E τ=some v) (λ E τ r m tm σ h L e he=>⟨he,m,E,τ,L,h⟩) N k _ _ _ _ _ _ _ av ax
 let⟨n,e,W,g3,aP,l,E2,aX,z,B⟩:=aN;unfold Jm;refine calls_of_wp hf S ?_;have aM:Inv Γ (qhY fn σ d).σ w:=H.wr rfl rfl
 have ht:zu Γ (qhY fn σ d).tm {tmps:=G.toArray++Array.replicate (fn.ntmps-G.toArray.size) undef,defers:=[]}:=by
  show RepL Γ (d++List.replicate (fn.ntmps-d.length) .dead) (G.toArray++Array.replicate (fn.ntmps-G.toArray.size) undef).toList;rw[xn,xi];have:G.toArray.size=d.length:=by simpa using L.len
  rw[this];exact L.append (qdP Γ _)
 refine wp_mono (qy3 hC (n+12) cd _ e W aQ (qvA qFh g3) Γ w _ aM ht rfl) ?_;rintro e' a' w' ⟨rfl,hd,Γ',x1,V,x3,x4⟩;unfold qyy at B;split at B<;>try cases B
 rename_i o iB q aj;split at B<;>try cases B
 rename_i vv O U q' aH;split at B<;>cases B;rename_i C;rw[wc,wc,wc,ww]at C;let⟨ae,ao,ys,aD,aU⟩:=qo5 z (rws:=qdB g.args o) aH;let⟨vr,q1,q2⟩:=qla hC.ty V x3 (fn:=fn) (r:=zY ys) (by unfold qa2;rw[aD]);have M:∀i,i<nBx g.args->l.b (0+i)=0+i:=λ i H=>by rw[wG];exact(z.pin i (by rw[<-Y]at H;exact H)).2
 let⟨af,aV⟩:=qiW z g.args aj M;have aG:∀id∈iB++O,id<l.rw.length:=λ id h=>(wj.1 h).elim (af id) (ae id)
 have aO:∃T,(VB T W.σ g.args 0/\∀id∈iB,∀r,l.r id=some r->r ∉ T)/\(((∀y∈ys,∀r∈rsA y,r∈T)/\(∀b∈U,∀ds,W.σ.bx[l.b b]?=some ds->∀x∈ds,∀r∈rsC x,r∈T)/\O=[])\/(q'=true/\∀id∈O,∀r,l.r id=some r->r ∉ T)):=by
  obtain S|S:=Bool.or_eq_true_iff.1 C.2.1
  .have S:iB++O=[]:=by simpa[xt]using S
   let⟨aS,aR⟩:=km.1 S;exact⟨(W.σ.bx.flatMap λ ds=>ds.flatMap rsC)++ys.flatMap rsA,⟨VB.all (λ ds an x hx r L=>wj.2 (.inl (kh.2 ⟨ds,an,kh.2 ⟨x,hx,L⟩⟩))) _ _,by rw[aS];intro id H;cases H⟩,.inl ⟨λ y hy r L=>wj.2 (.inr (kh.2 ⟨y,hy,L⟩)),λ b _ ds an x hx r L=>wj.2 (.inl (kh.2 ⟨ds,wb an,kh.2 ⟨x,hx,L⟩⟩)),aR⟩⟩
  .rw[wc,wY]at S;obtain hq|hq:=S.2
   .subst hq;exact⟨[],⟨VB.clean z g.args aj M,λ _ _ _ _ h=>by cases h⟩,.inr ⟨S.1,λ _ _ _ _ h=>by cases h⟩⟩
   .unfold qSv at hq;split at hq<;>try cases hq
    rename_i vs aE;rw[ww]at hq
    have ad:∀id∈iB++O,∀r,l.r id=some r->r ∉ vs.filterMap (λ i=>cond (Nat.blt i l.rw.length) (l.r i) none):=λ id A r L hm=>by
     let⟨a,ha,ac⟩:=kF.1 hm;have h1:=hq a ha;rw[ww]at h1;have h2:=h1 id A;cases J:Nat.blt a l.rw.length with
     |false=>rw[J]at ac;cases ac
     |true=>
       rw[J]at ac;have Q:a<l.rw.length:=by simpa[wat]using J
       have:=z.rinj a id r Q (aG id A) ac L;subst this;simp at h2
    have aF:∀id∈vs,id<l.rw.length->∀r,l.r id=some r->r∈vs.filterMap (λ i=>cond (Nat.blt i l.rw.length) (l.r i) none):=λ id A Q r L=>by
     exact kF.2 ⟨id,A,by rw[show Nat.blt id l.rw.length=true by simpa[wat]using Q];exact L⟩
    exact⟨_,⟨VB.vid z g.args aE M aF,λ id A=>ad id (wj.2 (.inl A))⟩,.inr ⟨S.1,λ id A=>ad id (wj.2 (.inr A))⟩⟩
 let⟨T,f1,f2⟩:=aO;let⟨K,b1,b2,b3⟩:=aV T f1.1 f1.2;have al:K.length=nrB g.args:=by rw[<-qb4 g.args o,<-b2,wE]
 let⟨D,v',X,n1,n2,n3,n4⟩:=aU T K (nBx g.args) (nrB g.args) (qTw z aj b3.2) (by rw[qa1];exact wa _) f2;rw[n4]at hp;cases hp
 have aJ:((K++X).filterMap (·.1)).Nodup:=by
  rw[kg,b3.1,n3,<-kg];have A:∀id∈iB++O,id<l.rw.length:=λ id h=>(wj.1 h).elim (af id) (ae id);exact qCL (qlR C.1) λ x hx y hy q e1 e2=>z.rinj x y q (A x hx) (A y hy) e1 e2
 have ay:qsL W.σ T (K++X):=λ p hp=>(wj.1 hp).elim (b1.newOk p) (n1.newOk p);let⟨au,ar⟩:=n1.kept;have aK:(U.map l.b).Nodup:=qxz (qlR C.2.2.1) λ a ha b J he=>z.inj a b (ao a ha) (ao b J) he
 have aL:∀b∈U.map l.b,σ.bx.length<=b/\b<W.σ.bx.length:=λ b J=>by
  refine⟨?_,au b J⟩;obtain⟨b0,h1,rfl⟩:=wC.1 J;have a0:=kG (C.2.2.2 b0 h1);rw[F];refine Nat.le_of_not_lt λ Q=>?_;have e1:=M (l.b b0) Q;rw[wG]at e1;have:=z.inj (l.b b0) b0 (z.pin _ (by show _<c.np;rw[Y];exact Q)).1 (ao b0 h1) e1;omega
 let⟨mm,z1,z2,z3,z4⟩:=qrh (σ0:=σ) H x1 V x4.bl (Jz g.args σ.rw.length o++qaG D (σ.rw.length+nrB g.args) v') (U.map l.b) (by rw[wd,qbl,F,ar]) aL aK T (K++X) (λ i cs u=>by
  by_cases aa:i<σ.bx.length
  .rw[List.getElem?_append_left (by rw[qbl,<-F];exact aa)]at u;have u:(Jz g.args (σ.rw.length+0) o)[i]?=some cs:=u;have ab:i<W.σ.bx.length:=wA aa x4.bl;have aT:qmb σ.bx.length (U.map l.b) i=i:=if_pos aa;rw[aT];refine⟨W.σ.bx[i],List.getElem?_eq_getElem ab,λ hn=>?_,λ m fz I us hu=>?_⟩
   .let⟨m,fz,_,I⟩:=qaE T V W.σ.wrr;let⟨ap,d1,d2,_⟩:=b1.rep V fz.le I σ.bx.length σ.rw.length (kb:=U.map l.b) (K++X) [] X rfl i cs u;rw[wG,List.getElem?_eq_getElem ab]at d1;cases d1;obtain⟨a,w,rfl,e2⟩:=d2 hn;exact qJ5 a hn e2 (V.box i _ (List.getElem?_eq_getElem ab))
   let⟨ap,d1,_,d2⟩:=b1.rep V fz.le I σ.bx.length σ.rw.length (kb:=U.map l.b) (K++X) [] X rfl i cs u;rw[wG,List.getElem?_eq_getElem ab]at d1;cases d1;exact d2 us hu
  .rw[List.getElem?_append_right (by rw[qbl,<-F];omega),qbl,<-F,<-al]at u;have Z:=u;have aA:=getElem?_lt u;rw[ar]at aA;obtain⟨b,k1⟩:∃b,(U.map l.b)[i-σ.bx.length]?=some b:=⟨_,List.getElem?_eq_getElem aA⟩
   obtain⟨ds,k2⟩:∃ds,W.σ.bx[b]?=some ds:=⟨_,List.getElem?_eq_getElem (au _ (wb k1))⟩
   refine⟨ds,?_,λ hn=>?_,λ m fz I us hu=>?_⟩
   .unfold qmb;rw[if_neg aa,List.getD_eq_getElem?_getD,k1];exact k2
   .let⟨m,fz,_,I⟩:=qaE T V W.σ.wrr;let⟨b',ap,ai,ah,ag,_⟩:=n1.boxes V fz.le I σ.bx.length σ.rw.length (U.map l.b) (K++X) K rfl _ cs Z;cases k1.symm.trans ai;cases k2.symm.trans ah;obtain⟨a,w,rfl,e2⟩:=ag hn;exact qJ5 a hn e2 (V.box _ _ k2)
   .let⟨b',ap,ai,ah,_,ag⟩:=n1.boxes V fz.le I σ.bx.length σ.rw.length (U.map l.b) (K++X) K rfl _ cs Z;cases k1.symm.trans ai;cases k2.symm.trans ah;exact ag us hu) (λ a so R h=>ay (so,R) (wb h)) (λ a b j R R' h1 h2=>qLy aJ a b j _ _ h1 h2 rfl rfl) (List.range σ.bx.length) (List.range σ.rw.length)
 have aw:Rep (jW Γ' mm σ.bx.length (U.map l.b) σ.rw.length (K++X)) (zY (qap D (σ.rw.length+nrB g.args) v')) vr:=by
  refine qLs (n1.len _) (λ us hu=>?_) q2;rw[<-al];exact n1.rep V z1.le z2 σ.bx.length σ.rw.length (U.map l.b) (K++X) ay (λ p x hx=>by rw[List.getElem?_append_left (getElem?_lt hx)];exact hx) K rfl al (by rw[F];exact wa _) (λ j b hj=>by rw[F,kP,wG];exact hj) us hu
 rw[wZ,b2,n2]at z4
 have am:qO {σ with wr:=[],wrr:=[]} ⟨Jz g.args σ.rw.length o++qaG D (σ.rw.length+nrB g.args) v',σ.rw.map QW++(QV g.args o++Jy D v'),List.range σ.bx.length,List.range σ.rw.length⟩:=by
  refine⟨by show σ.bx.length<=(Jz g.args σ.rw.length o++_).length;rw[wd,qbl,F];exact kI _ _,by show σ.rw.length<=(σ.rw.map QW++_).length;rw[wd,wE];exact kI _ _,λ i H hn=>absurd (xb.2 H) hn,λ i H hn=>absurd (xb.2 H) hn,λ i h=>(by cases h),λ i h=>(by cases h)⟩
 have aB:a'.defers=[]/\∃v,(results fn a'.tmps).run P w'=.ok v w'/\∃aq Γ',Ending.returned v=.returned aq/\Ext Γ w Γ' w'/\Inv Γ' ⟨Jz g.args σ.rw.length o++qaG D (σ.rw.length+nrB g.args) v',σ.rw.map QW++(QV g.args o++Jy D v'),List.range σ.bx.length,List.range σ.rw.length⟩ w'/\Rep Γ' (zY (qap D (σ.rw.length+nrB g.args) v')) aq/\qO {σ with wr:=[],wrr:=[]} ⟨Jz g.args σ.rw.length o++qaG D (σ.rw.length+nrB g.args) v',σ.rw.map QW++(QV g.args o++Jy D v'),List.range σ.bx.length,List.range σ.rw.length⟩:=
  ⟨hd,vr,q1,vr,_,rfl,z3,z4,aw,am⟩
 obtain rfl|rfl:=aP
 .exact aB
 .exact aB
end
end Go.AmZ
namespace Go.AmZ
open Go Go.RowKit Go.GxZ
def qPs{α:Type}(z:α)(s:α->α):Nat->α:=λ k=>Nat.rec (motive:=λ _=>α) z (λ _ a=>s a) k
def qPF{α:Type}(z:α)(s:Nat->α->α):Nat->α:=λ k=>Nat.rec (motive:=λ _=>α) z (λ m a=>s m a) k
abbrev Y8:=List UInt8
abbrev TL:=List T
def qv4:Nat:=4000
def qqb(r:Nat):Code->List It->Option (List It)
 |.seq a b,k=>match qqb r a (.code b::k)with
   |some x=>some x
   |none=>qqb r b k
 |.cond _ a b,k=>match qqb r a k with
   |some x=>some x
   |none=>qqb r b k
 |.block id b,k=>qqb r b (.blk id::k)
 |.loop b,k=>match Nat.beq (qeI b) r with
   |true=>some (.code (.loop b)::k)
   |false=>qqb r b (.code (.loop b)::k)
 |_,_=>none
def qs2(f:Func):Code:=match f.body with
 |some c=>c
 |none=>.skip
def stL(f:Func)(r:Nat):List It:=match qqb r (qs2 f) []with
 |some x=>x
 |none=>[]
def qrz:List Nat->List Nat->Bool
 |[],[]=>true
 |a::l,b::m=>Nat.beq a b&&qrz l m
 |_,_=>false
def qzy(a b:List Nat)(x y:Option Sig):Option Sig:=cond (qrz a b) x y
def qPI(f:Nat):List Nat->Bool
 |[]=>false
 |a::l=>cond (Nat.beq a f) true (qPI f l)
theorem qrE:∀{a b},qrz a b=true->a=b
 |[],[],_=>rfl
 |a::l,b::m,h=>by
   simp only[qrz,wc]at h;rw[wm h.1,qrE h.2]
 |[],_::_,h|_::_,[],h=>by cases h
theorem qBk{a b x y g}(h:qzy a b x y=some g):(a=b/\x=some g)\/y=some g:=by
 grind [qzy,qrE]
def qzZ:(ts:List ATy)->qed ts->List Nat->List TV
 |[],_,_=>[]
 |.val τ::r,a,b=>qlQ τ a.1::qzZ r a.2 b
 |.fn::r,a,g::b=>.fn g []::qzZ r a b
 |.fn::r,a,[]=>.dead::qzZ r a []
def Qv:(ts:List ATy)->qed ts->List Nat->List AV
 |[],_,_=>[]
 |.val τ::r,a,b=>yR τ a.1::Qv r a.2 b
 |.fn::r,a,g::b=>.fn g []::Qv r a b
 |.fn::r,a,[]=>.dead::Qv r a []
theorem qm8:∀ts a b,(Qv ts a b).length=ts.length
 |[],_,_=>rfl
 |.val τ::r,a,b|.fn::r,a,g::b|.fn::r,a,[]=>by simp[Qv,qm8 r]
theorem qpR{m}:∀ts a b,OKL m (qzZ ts a b) (Qv ts a b)
 |[],_,_=>rfl
 |.val τ::r,a,b=>⟨_,_,rfl,qtu τ a.1,qpR r a.2 b⟩
 |.fn::r,a,g::b=>⟨_,_,rfl,⟨[],rfl,rfl⟩,qpR r a b⟩
 |.fn::r,a,[]=>⟨_,_,rfl,trivial,qpR r a []⟩
theorem qns:∀ ts {ys a},qdW ts ys=some a->QI ys (Qv ts a (qf6 ys))
 | [],ys,a,h=>by
   cases ys with
   | nil=>exact .nil
   | cons y ys=>cases h
 | .val τ :: r,ys,a,h=>by
   obtain⟨y,ys,rfl,h1,h2⟩:=qAL h
   have hf:qf6 (y::ys)=qf6 ys:=by
    have:=(qeE h1).2;cases y<;>first | rfl | exact absurd rfl (this _ _)
   rw[hf];exact .cons (qs0 h1) (qns r h2)
 | .fn::r,ys,a,h=>by
   change dFn _ ys=_ at h;unfold dFn at h;split at h
   case h_2=>cases h
   exact .cons (.refl _) (qns r h)
theorem QO{P f fn}(c:P.funcs[f]?=some fn)(a:J6 fn=true):qg0 P f:=by
 unfold J6 at a;cases b:fn.body with
 |none=>rw[b]at a;cases a
 |some d=>
   rw[b]at a;simp only[wc,wM]at a;exact⟨fn,c,by rw[b];rfl,a.2⟩
theorem qLc{P c f}(e:qg0 P f)(h:∀i g a,c.pf f i=some g->g.fn a=none):qT P f (JB (jC c f)):=by
 refine⟨e,λ Γ σ w d b r l j k=>?_⟩;grind [jC,JB]
theorem qpq{P f g}(d:qg0 P f)(h:∀a,g.fn a=none):qT P f (sgP g):=by
 refine⟨d,λ Γ σ w c b r j e i=>?_⟩;grind [sgP]
theorem qNG{P c}(m:yr P c.pc.cfg){f fn cd}(i:P.funcs[f]?=some fn)(l:J6 fn=true)(j:fn.body=some cd)(d:c.nt=fn.ntmps)(g)(e:c.np=qD2 g.args)(b:g.args.length<=fn.ntmps)
  (h:∃N k,∀a,g.fn a=qqE c (qyy c g.args g.res fn.results.toList) N k [.code cd] (qfA 0 (qmh g.args 0 0 a)) ⟨sBx g.args 0 a,sRw g.args a⟩):qT P f (sgP g):=by
 grind [qJl]
theorem qKX{P c}(e:P.follows .mixedOrders=true)(b:∀t d,c.ty t=some d->yQ P t=some d)(h:∀f,c.has f=true->qT P f (JB (jC c f)))(m:∀f g,c.sf f=some g->qT P f (sgP g))(l:∀f g,c.mf f=some g->qT P f (mgP g))(k:∀f g,c.xf f=some g->qT P f (xgP g))(i:∀f fn,c.inl f=some fn->P.funcs[f]?=some fn/\J6 fn=true):yr P c.pc.cfg:=by
 refine⟨e,b,(λ f fn h=>by cases h),λ f p a=>?_,λ f fn h=>?_⟩
 rotate_left
 .let⟨e1,j⟩:=i f fn h;grind [J6]
 have a:c.pc.prim f=some p:=a;unfold PC.prim at a;have e1:c.pc.pf f=match c.has f with|true=>some (jC c f)|false=>none:=rfl
 have j:c.pc.sp f=c.spf f:=rfl;grind [TC.spf]
end Go.AmZ
namespace Go.AmZ
open Go
inductive qkl where
 |leaf
 |node (k:Nat) (d:TD) (l r:qkl)
def qkl.get:qkl->Nat->Option TD
 |.leaf,_=>none
 |.node k d l r,t=>match Nat.beq t k with
   |true=>some d
   |false=>match Nat.blt t k with
     |true=>l.get t
     |false=>r.get t
def qkl.ok(P:Program):qkl->Prop
 |.leaf=>True
 |.node k d l r=>yQ P k=some d/\l.ok P/\r.ok P
theorem qkl.get_ok{P:Program}:∀{x:qkl}{t:Nat}{d:TD},x.ok P->x.get t=some d->yQ P t=some d
 |.leaf,t,d,_,h=>by cases h
 |.node k f l r,t,d,⟨e,c,b⟩,h=>by
   simp only[qkl.get]at h;split at h
   .rename_i a;cases h;rw[wm a];exact e
   .split at h
    .exact get_ok c h
    .exact get_ok b h
abbrev zS:Value:=.string ⟨#[]⟩
abbrev zI:Value:=.int .i64 0
abbrev zL:Value:=.slice none 0 0
abbrev zB:Value:=.bool false
abbrev ff:=false
abbrev tt:=true
abbrev nDn(k:Nat)(d:TD):qkl:=.node k d .leaf .leaf
theorem nk{P:Program}{k:Nat}{d:TD}(h:yQ P k=some d):(nDn k d).ok P:=⟨h,trivial,trivial⟩
def qLT:qkl:=(.node 105 ⟨8,112,tt,[zI,zS,zI,zL,zI,zS,zI,zL],.struct [(0,4,tt),(4,4,tt)]⟩
 (.node 24 ⟨4,56,tt,[zI,zS,zI,zL],.struct [(0,1,ff),(1,1,ff),(2,1,ff),(3,1,ff)]⟩
 (.node 12 ⟨1,8,ff,[.int .u64 (0)],.int .u64⟩
 (.node 7 ⟨4,24,tt,[zI,zI,zB,.int .u8 (0)],.struct [(0,1,ff),(1,1,ff),(2,1,ff),(3,1,ff)]⟩
 (.node 4 ⟨1,1,ff,[zB],.bool⟩
 (.node 3 ⟨1,8,ff,[zI],.int .i64⟩
 (nDn 2 ⟨1,8,ff,[zI],.int .i64⟩)
 .leaf)
 (.node 6 ⟨1,1,ff,[.int .u8 (0)],.int .u8⟩
 (nDn 5 ⟨1,1,ff,[.int .u8 (0)],.int .u8⟩)
 .leaf))
 (.node 10 ⟨1,16,ff,[zS],.string⟩
 (.node 9 ⟨1,16,ff,[zS],.string⟩
 (nDn 8 ⟨4,24,tt,[zI,zI,zB,.int .u8 (0)],.struct [(0,1,ff),(1,1,ff),(2,1,ff),(3,1,ff)]⟩)
 .leaf)
 (nDn 11 ⟨1,16,ff,[zS],.string⟩)))
 (.node 18 ⟨1,8,tt,[.pointer none],.struct [(0,1,ff)]⟩
 (.node 15 ⟨1,8,ff,[.pointer none],.ptr⟩
 (.node 14 ⟨2,24,tt,[zS,.int .u64 (0)],.struct [(0,1,ff),(1,1,ff)]⟩
 (nDn 13 ⟨2,24,tt,[zS,.int .u64 (0)],.struct [(0,1,ff),(1,1,ff)]⟩)
 .leaf)
 (.node 17 ⟨1,8,ff,[.pointer none],.ptr⟩
 (nDn 16 ⟨1,8,ff,[.pointer none],.ptr⟩)
 .leaf))
 (.node 21 ⟨1,4,ff,[.int .i32 (0)],.int .i32⟩
 (.node 20 ⟨1,16,ff,[.nilIface],.other⟩
 (nDn 19 ⟨1,8,tt,[.pointer none],.struct [(0,1,ff)]⟩)
 .leaf)
 (nDn 23 ⟨1,24,ff,[zL],.slice 25 4 56 [zI,zS,zI,zL]⟩))))
 (.node 78 ⟨5,64,tt,[zI,zS,zI,zL,zI],.struct [(0,4,tt),(4,1,ff)]⟩
 (.node 59 ⟨3,32,tt,[zS,zI,zB],.struct [(0,1,ff),(1,1,ff),(2,1,ff)]⟩
 (.node 48 ⟨1,24,ff,[zL],.slice 76 8 112 [zI,zS,zI,zL,zI,zS,zI,zL]⟩
 (.node 26 ⟨1,8,ff,[zI],.int .i64⟩
 (nDn 25 ⟨4,56,tt,[zI,zS,zI,zL],.struct [(0,1,ff),(1,1,ff),(2,1,ff),(3,1,ff)]⟩)
 .leaf)
 (.node 58 ⟨3,32,tt,[zS,zI,zB],.struct [(0,1,ff),(1,1,ff),(2,1,ff)]⟩
 (nDn 57 ⟨1,8,ff,[.pointer none],.ptr⟩)
 .leaf))
 (.node 75 ⟨8,112,tt,[zI,zS,zI,zL,zI,zS,zI,zL],.struct [(0,4,tt),(4,4,tt)]⟩
 (.node 73 ⟨1,8,ff,[.map none],.map [KC.str] ff ff 1 [zS]⟩
 (nDn 66 ⟨1,24,ff,[zL],.slice 5 1 1 [.int .u8 (0)]⟩)
 .leaf)
 (nDn 76 ⟨8,112,tt,[zI,zS,zI,zL,zI,zS,zI,zL],.struct [(0,4,tt),(4,4,tt)]⟩)))
 (.node 88 ⟨4,40,tt,[zS,zI,zI,zI],.struct [(0,1,ff),(1,1,ff),(2,1,ff),(3,1,ff)]⟩
 (.node 83 ⟨1,8,ff,[.pointer none],.ptr⟩
 (.node 81 ⟨1,24,ff,[zL],.slice 79 5 64 [zI,zS,zI,zL,zI]⟩
 (nDn 79 ⟨5,64,tt,[zI,zS,zI,zL,zI],.struct [(0,4,tt),(4,1,ff)]⟩)
 .leaf)
 (nDn 87 ⟨4,40,tt,[zS,zI,zI,zI],.struct [(0,1,ff),(1,1,ff),(2,1,ff),(3,1,ff)]⟩))
 (.node 98 ⟨3,32,tt,[zS,zI,zI],.struct [(0,1,ff),(1,1,ff),(2,1,ff)]⟩
 (.node 97 ⟨1,24,ff,[zL],.slice 99 3 32 [zS,zI,zI]⟩
 (nDn 90 ⟨1,24,ff,[zL],.slice 9 1 16 [zS]⟩)
 .leaf)
 (nDn 99 ⟨3,32,tt,[zS,zI,zI],.struct [(0,1,ff),(1,1,ff),(2,1,ff)]⟩)))))
 (.node 173 ⟨1,8,ff,[.pointer none],.ptr⟩
 (.node 126 ⟨2,48,tt,[zL,zL],.struct [(0,1,ff),(1,1,ff)]⟩
 (.node 113 ⟨1,24,ff,[zL],.slice 117 8 112 [zI,zS,zI,zL,zI,zS,zI,zL]⟩
 (.node 108 ⟨1,8,ff,[.map none],.map [KC.str,KC.int .i64] tt tt 4 [zI,zS,zI,zL]⟩
 (.node 107 ⟨1,24,ff,[zL],.slice 106 8 112 [zI,zS,zI,zL,zI,zS,zI,zL]⟩
 (nDn 106 ⟨8,112,tt,[zI,zS,zI,zL,zI,zS,zI,zL],.struct [(0,4,tt),(4,4,tt)]⟩)
 .leaf)
 (.node 111 ⟨2,24,tt,[zS,zI],.struct [(0,1,ff),(1,1,ff)]⟩
 (nDn 110 ⟨2,24,tt,[zS,zI],.struct [(0,1,ff),(1,1,ff)]⟩)
 .leaf))
 (.node 118 ⟨1,24,ff,[zL],.slice 88 4 40 [zS,zI,zI,zI]⟩
 (.node 117 ⟨8,112,tt,[zI,zS,zI,zL,zI,zS,zI,zL],.struct [(0,4,tt),(4,4,tt)]⟩
 (nDn 116 ⟨8,112,tt,[zI,zS,zI,zL,zI,zS,zI,zL],.struct [(0,4,tt),(4,4,tt)]⟩)
 .leaf)
 (nDn 125 ⟨1,8,ff,[.pointer none],.ptr⟩)))
 (.node 157 ⟨5,64,tt,[zI,zS,zI,zL,zI],.struct [(0,4,tt),(4,1,ff)]⟩
 (.node 143 ⟨24,24,tt,[.int .u8 (0),.int .u8 (0),.int .u8 (0),.int .u8 (0),.int .u8 (0),.int .u8 (0),.int .u8 (0),.int .u8 (0),.int .u8 (0),.int .u8 (0),.int .u8 (0),.int .u8 (0),.int .u8 (0),.int .u8 (0),.int .u8 (0),.int .u8 (0),.int .u8 (0),.int .u8 (0),.int .u8 (0),.int .u8 (0),.int .u8 (0),.int .u8 (0),.int .u8 (0),.int .u8 (0)],.array 24 5 1⟩
 (.node 134 ⟨1,24,ff,[zL],.slice 157 5 64 [zI,zS,zI,zL,zI]⟩
 (nDn 127 ⟨2,48,tt,[zL,zL],.struct [(0,1,ff),(1,1,ff)]⟩)
 .leaf)
 (.node 156 ⟨5,64,tt,[zI,zS,zI,zL,zI],.struct [(0,4,tt),(4,1,ff)]⟩
 (nDn 144 ⟨1,8,ff,[.int .u64 (0)],.int .u64⟩)
 .leaf))
 (.node 169 ⟨1,4,ff,[.int .u32 (0)],.int .u32⟩
 (.node 168 ⟨20,160,tt,[.int .u64 (0),.int .u64 (0),.int .u64 (0),.int .u64 (0),.int .u64 (0),.int .u64 (0),.int .u64 (0),.int .u64 (0),.int .u64 (0),.int .u64 (0),.int .u64 (0),.int .u64 (0),.int .u64 (0),.int .u64 (0),.int .u64 (0),.int .u64 (0),.int .u64 (0),.int .u64 (0),.int .u64 (0),.int .u64 (0)],.array 20 144 1⟩
 (nDn 164 ⟨1,8,ff,[.int .u64 (0)],.int .u64⟩)
 .leaf)
 (nDn 170 ⟨65,65,tt,[.int .u8 (0),.int .u8 (0),.int .u8 (0),.int .u8 (0),.int .u8 (0),.int .u8 (0),.int .u8 (0),.int .u8 (0),.int .u8 (0),.int .u8 (0),.int .u8 (0),.int .u8 (0),.int .u8 (0),.int .u8 (0),.int .u8 (0),.int .u8 (0),.int .u8 (0),.int .u8 (0),.int .u8 (0),.int .u8 (0),.int .u8 (0),.int .u8 (0),.int .u8 (0),.int .u8 (0),.int .u8 (0),.int .u8 (0),.int .u8 (0),.int .u8 (0),.int .u8 (0),.int .u8 (0),.int .u8 (0),.int .u8 (0),.int .u8 (0),.int .u8 (0),.int .u8 (0),.int .u8 (0),.int .u8 (0),.int .u8 (0),.int .u8 (0),.int .u8 (0),.int .u8 (0),.int .u8 (0),.int .u8 (0),.int .u8 (0),.int .u8 (0),.int .u8 (0),.int .u8 (0),.int .u8 (0),.int .u8 (0),.int .u8 (0),.int .u8 (0),.int .u8 (0),.int .u8 (0),.int .u8 (0),.int .u8 (0),.int .u8 (0),.int .u8 (0),.int .u8 (0),.int .u8 (0),.int .u8 (0),.int .u8 (0),.int .u8 (0),.int .u8 (0),.int .u8 (0),.int .u8 (0)],.array 65 5 1⟩))))
 (.node 229 ⟨0,0,tt,[],.struct [(0,0,tt)]⟩
 (.node 215 ⟨64,64,tt,[.int .u8 (0),.int .u8 (0),.int .u8 (0),.int .u8 (0),.int .u8 (0),.int .u8 (0),.int .u8 (0),.int .u8 (0),.int .u8 (0),.int .u8 (0),.int .u8 (0),.int .u8 (0),.int .u8 (0),.int .u8 (0),.int .u8 (0),.int .u8 (0),.int .u8 (0),.int .u8 (0),.int .u8 (0),.int .u8 (0),.int .u8 (0),.int .u8 (0),.int .u8 (0),.int .u8 (0),.int .u8 (0),.int .u8 (0),.int .u8 (0),.int .u8 (0),.int .u8 (0),.int .u8 (0),.int .u8 (0),.int .u8 (0),.int .u8 (0),.int .u8 (0),.int .u8 (0),.int .u8 (0),.int .u8 (0),.int .u8 (0),.int .u8 (0),.int .u8 (0),.int .u8 (0),.int .u8 (0),.int .u8 (0),.int .u8 (0),.int .u8 (0),.int .u8 (0),.int .u8 (0),.int .u8 (0),.int .u8 (0),.int .u8 (0),.int .u8 (0),.int .u8 (0),.int .u8 (0),.int .u8 (0),.int .u8 (0),.int .u8 (0),.int .u8 (0),.int .u8 (0),.int .u8 (0),.int .u8 (0),.int .u8 (0),.int .u8 (0),.int .u8 (0),.int .u8 (0)],.array 64 5 1⟩
 (.node 201 ⟨1,24,ff,[zL],.slice 3 1 8 [zI]⟩
 (.node 187 ⟨1,8,ff,[zI],.int .i64⟩
 (nDn 180 ⟨1,24,ff,[zL],.slice 23 1 24 [zL]⟩)
 .leaf)
 (.node 214 ⟨32,32,tt,[.int .u8 (0),.int .u8 (0),.int .u8 (0),.int .u8 (0),.int .u8 (0),.int .u8 (0),.int .u8 (0),.int .u8 (0),.int .u8 (0),.int .u8 (0),.int .u8 (0),.int .u8 (0),.int .u8 (0),.int .u8 (0),.int .u8 (0),.int .u8 (0),.int .u8 (0),.int .u8 (0),.int .u8 (0),.int .u8 (0),.int .u8 (0),.int .u8 (0),.int .u8 (0),.int .u8 (0),.int .u8 (0),.int .u8 (0),.int .u8 (0),.int .u8 (0),.int .u8 (0),.int .u8 (0),.int .u8 (0),.int .u8 (0)],.array 32 5 1⟩
 (nDn 209 ⟨1,8,ff,[.int .u64 (0)],.int .u64⟩)
 .leaf))
 (.node 227 ⟨4,40,tt,[.pointer none,.pointer none,.pointer none,zS],.struct [(0,1,ff),(1,1,ff),(2,1,ff),(3,1,ff)]⟩
 (.node 226 ⟨4,40,tt,[.pointer none,.pointer none,.pointer none,zS],.struct [(0,1,ff),(1,1,ff),(2,1,ff),(3,1,ff)]⟩
 (nDn 221 ⟨1,8,ff,[.pointer none],.ptr⟩)
 .leaf)
 (nDn 228 ⟨0,0,tt,[],.array 0 16 1⟩)))
 (.node 236 ⟨1,4,ff,[.int .i32 (0)],.int .i32⟩
 (.node 233 ⟨1,1,ff,[.int .u8 (0)],.int .u8⟩
 (.node 232 ⟨1,1,ff,[.int .u8 (0)],.int .u8⟩
 (nDn 230 ⟨0,0,tt,[],.struct [(0,0,tt)]⟩)
 .leaf)
 (nDn 235 ⟨1,8,ff,[.pointer none],.ptr⟩))
 (.node 239 ⟨11,48,tt,[.int .u64 (0),.int .u64 (0),.int .u32 (0),.int .u8 (0),.int .u8 (0),.int .u8 (0),.int .u8 (0),.nilFunc,.pointer none,.int .i32 (0),.int .i32 (0)],.struct [(0,1,ff),(1,1,ff),(2,1,ff),(3,1,ff),(4,1,ff),(5,1,ff),(6,1,ff),(7,1,ff),(8,1,ff),(9,1,ff),(10,1,ff)]⟩
 (.node 238 ⟨11,48,tt,[.int .u64 (0),.int .u64 (0),.int .u32 (0),.int .u8 (0),.int .u8 (0),.int .u8 (0),.int .u8 (0),.nilFunc,.pointer none,.int .i32 (0),.int .i32 (0)],.struct [(0,1,ff),(1,1,ff),(2,1,ff),(3,1,ff),(4,1,ff),(5,1,ff),(6,1,ff),(7,1,ff),(8,1,ff),(9,1,ff),(10,1,ff)]⟩
 (nDn 237 ⟨1,4,ff,[.int .i32 (0)],.int .i32⟩)
 .leaf)
 (nDn 240 ⟨1,8,ff,[.pointer none],.other⟩))))))
def tyT(t:Nat):Option TD:=qLT.get t
theorem qKS(t:Nat)(d:TD)(h:tyT t=some d):yQ Go.Proofs.Tryz.prog t=some d:=
 qkl.get_ok (show qkl.ok Go.Proofs.Tryz.prog qLT from⟨by kernel_rfl,⟨by kernel_rfl,⟨by kernel_rfl,⟨by kernel_rfl,⟨by kernel_rfl,⟨by kernel_rfl,(nk (by kernel_rfl)),trivial⟩,⟨by kernel_rfl,(nk (by kernel_rfl)),trivial⟩⟩,⟨by kernel_rfl,⟨by kernel_rfl,(nk (by kernel_rfl)),trivial⟩,(nk (by kernel_rfl))⟩⟩,⟨by kernel_rfl,⟨by kernel_rfl,⟨by kernel_rfl,(nk (by kernel_rfl)),trivial⟩,⟨by kernel_rfl,(nk (by kernel_rfl)),trivial⟩⟩,⟨by kernel_rfl,⟨by kernel_rfl,(nk (by kernel_rfl)),trivial⟩,(nk (by kernel_rfl))⟩⟩⟩,⟨by kernel_rfl,⟨by kernel_rfl,⟨by kernel_rfl,⟨by kernel_rfl,(nk (by kernel_rfl)),trivial⟩,⟨by kernel_rfl,(nk (by kernel_rfl)),trivial⟩⟩,⟨by kernel_rfl,⟨by kernel_rfl,(nk (by kernel_rfl)),trivial⟩,(nk (by kernel_rfl))⟩⟩,⟨by kernel_rfl,⟨by kernel_rfl,⟨by kernel_rfl,(nk (by kernel_rfl)),trivial⟩,(nk (by kernel_rfl))⟩,⟨by kernel_rfl,⟨by kernel_rfl,(nk (by kernel_rfl)),trivial⟩,(nk (by kernel_rfl))⟩⟩⟩⟩,⟨by kernel_rfl,⟨by kernel_rfl,⟨by kernel_rfl,⟨by kernel_rfl,⟨by kernel_rfl,(nk (by kernel_rfl)),trivial⟩,⟨by kernel_rfl,(nk (by kernel_rfl)),trivial⟩⟩,⟨by kernel_rfl,⟨by kernel_rfl,(nk (by kernel_rfl)),trivial⟩,(nk (by kernel_rfl))⟩⟩,⟨by kernel_rfl,⟨by kernel_rfl,⟨by kernel_rfl,(nk (by kernel_rfl)),trivial⟩,⟨by kernel_rfl,(nk (by kernel_rfl)),trivial⟩⟩,⟨by kernel_rfl,⟨by kernel_rfl,(nk (by kernel_rfl)),trivial⟩,(nk (by kernel_rfl))⟩⟩⟩,⟨by kernel_rfl,⟨by kernel_rfl,⟨by kernel_rfl,⟨by kernel_rfl,(nk (by kernel_rfl)),trivial⟩,⟨by kernel_rfl,(nk (by kernel_rfl)),trivial⟩⟩,⟨by kernel_rfl,⟨by kernel_rfl,(nk (by kernel_rfl)),trivial⟩,(nk (by kernel_rfl))⟩⟩,⟨by kernel_rfl,⟨by kernel_rfl,⟨by kernel_rfl,(nk (by kernel_rfl)),trivial⟩,(nk (by kernel_rfl))⟩,⟨by kernel_rfl,⟨by kernel_rfl,(nk (by kernel_rfl)),trivial⟩,(nk (by kernel_rfl))⟩⟩⟩⟩⟩) h
end Go.AmZ
namespace Go.Proofs
open Go.Shelf
def Tryz.lays106_ren:Go.Shelf.Ren:=⟨λ|106=>116|213=>148|265=>183|n=>n,λ|9=>9|3=>3|n=>n,λ|n=>n⟩
theorem Tryz.lays106:Go.Proofs.Lays.n106 Tryz.prog Tryz.lays106_ren:={
 mixed:=by kernel_rfl
 f106:=Tryz.func116.trans (congrArg some (by kernel_rfl))
 f213:=Tryz.func148.trans (congrArg some (by kernel_rfl))
 f265:=Tryz.func183.trans (congrArg some (by kernel_rfl))
 t3:=Tryz.underlying3
 a3:=Tryz.isAgg3
 z3:=Tryz.sizeOf3
 v3:=Tryz.zeroValue3
 t9:=Tryz.underlying9
 a9:=Tryz.isAgg9
 z9:=Tryz.sizeOf9
 v9:=Tryz.zeroValue9}
open Go.RowKit in
theorem Tryz.strings_Compare(a b:ByteArray)(w:World):
 Calls Tryz.prog 116 #[.string a,.string b] w λ e w'=>e=.returned (.int .i64 (Lib.compareBytes a.data.toList b.data.toList))/\w'=w:=Any.strings_Compare Tryz.lays106 a b w
end Go.Proofs
namespace Go.AmZ
open Go Go.RowKit Go.GxZ
structure qML (Γ:Gh) (w:World) (a:Option Addr) (n k:Nat) (cs:List (List AV)):Prop where
 len:cs.length=n
 size:∀e∈cs,e.length=k
 plain:∀e∈cs,∀x∈e,qv x=true
 at_:cs=[]\/∃b o,a=some ⟨b,o,none⟩/\∀(i:Nat) (e:List AV) (j:Nat) (x:AV),cs[i]?=some e->e[j]?=some x->∃u,w.cell? ⟨b,o+(i*k+j),none⟩=some u/\Rep Γ x u/\u.oneCell'=true
theorem qEj{Γ:Gh}{σ:St}{w:World}(H:Inv Γ σ w){a:Ty}{y:AV}{l:List (Val a)}{u:Value}(I:dlist a y=some l)(q:Rep Γ y u):∃p n c,u=.slice p n c/\n<=c/\qML Γ w p n a.size (l.map (qe a)):=by
 obtain⟨rfl,rfl⟩|⟨N,n,rfl,h⟩:=yS I
 .have:=zp q;subst this;exact⟨none,0,0,rfl,wa _,rfl,(by intro e d;cases d),(by intro e d;cases d),.inl rfl⟩
 .cases q with
  |sl k N f p E c b o us F J Q P O R r G q=>
    have g:=zb h;refine⟨p,E,c,rfl,J (xz _),by rw[wE,F,g],?_,?_,?_⟩
    .intro e d;obtain⟨v,_,rfl⟩:=wC.1 d;exact yj a v
    .intro e d;obtain⟨v,_,rfl⟩:=wC.1 d;exact zq a v
    .obtain r|r:=r
     .grind
     .right;refine⟨b,o,r,λ i e j x m K=>?_⟩;rw[List.getElem?_map]at m;cases t:l[i]? with
      |none=>rw[t]at m;cases m
      |some v=>
        rw[t]at m;cases m;let⟨B,A,M⟩:=qhg h t;let⟨z,g3,L⟩:=(qlj M).get j x K;have s:=G i B j z A g3;let⟨D,C⟩:=H.mem _ _ _ s;exact⟨us i j,by rw[<-wS];exact D,L _ _ (q i B j z A g3),C⟩
def Fresh(w:World)(k n:Nat)(xs:List Value)(v:Value)(w':World):Prop:=
 Below w.heap.size w w'/\w.drawn<=w'.drawn/\((n=0/\∃a,v=.slice a 0 0)\/∃(g cap:Nat) (b:Array Value) (e:TypeId),v=.slice (some ⟨g,0,none⟩) n cap/\w.heap.size<=g/\w'.heap[g]?=some (.cells b e (0,0))/\n<=cap/\cap*k<=b.size/\∀(j:Nat) (u:Value),xs[j]?=some u->b[j]?=some u)
theorem qnU{P:Program}{f:FuncId}{Γ:Gh}{σ:St}{w:World}{m:List Value}{a:Ty}{l:List (Val a)}{xs:List Value}(b:Inv Γ σ w)(k:σ.bx=[])(n:σ.rw=[])
  (F:∀(i:Nat) (e:List AV) (j:Nat) (x:AV),(l.map (qe a))[i]?=some e->e[j]?=some x->∃u,xs[i*a.size+j]?=some u/\Rep Γ x u/\u.oneCell'=true)
  (h:Calls P f m.toArray w λ e w'=>∃v,e=.returned v/\Fresh w a.size l.length xs v w'):
  Jm P Γ σ w f m (zY (qap [.one (.row a)] σ.rw.length (l,())),some ⟨[],σ.rw.map QW++Jy [.one (.row a)] (l,()),List.range σ.bx.length,List.range σ.rw.length⟩):=by
 refine Calls.mono h ?_;rintro e w' ⟨v,rfl,r,s,G⟩;have t:=b.later r
 have d:qO {σ with wr:=[],wrr:=[]} ⟨[],σ.rw.map QW++Jy [.one (.row a)] (l,()),List.range σ.bx.length,List.range σ.rw.length⟩:=
  ⟨by rw[k];exact wa _,by show σ.rw.length<=_;rw[n];exact wg _,λ i b _=>(by have b:i<σ.bx.length:=b;rw[k]at b;exact absurd b (wN _)),λ i b _=>(by have b:i<σ.rw.length:=b;rw[n]at b;exact absurd b (wN _)),λ i h=>(by cases h),λ i h=>(by cases h)⟩
 obtain⟨H,p,rfl⟩|⟨g,cap,z,U,rfl,L,K,g3,B,J⟩:=G
 .have I:l=[]:=wi H;subst I
  let⟨T,Q,O,E,D⟩:=qrh (σ0:=σ) (σ1:=σ) b (qhh r s) t (wa _) [] [] (by rw[k];rfl) (by simp) kZ [] [(none,⟨a.size,[],0,0,false⟩)] (λ i cs h=>by cases h)
   (λ i so R h=>by
    cases i with
    |zero=>cases h;exact⟨rfl,rfl,waI a,(by intro e o;cases o),(by intro e o;cases o),rfl⟩
    |succ i=>cases h)
   (λ i j q R R' y A=>by cases i<;>cases y) (List.range σ.bx.length) (List.range σ.rw.length)
  refine⟨_,_,rfl,E,D,?_,d⟩;show Rep _ (.rs σ.rw.length 0 0 0 false) _;exact .rs _ _ _ _ _ p 0 (by show σ.rw.length<σ.rw.length+1;omega) (wg _) (wa _) (λ h=>by cases h) λ _=>⟨.inl rfl,by rw[wO,kR];exact wg _⟩
 .let⟨Γ',N,M,C⟩:=qzt b (waI a) (c:=l.map (qe a)) (λ e o=>by obtain⟨v,_,rfl⟩:=wC.1 o;exact yj a v) (λ e o=>by obtain⟨v,_,rfl⟩:=wC.1 o;exact zq a v) (vs:=z) (by rw[wE];exact wz (wu _ g3) B)
    (λ i e j x y A=>by
     let⟨u,u1,u2⟩:=F i e j x y A;exact⟨u,J _ _ u1,u2⟩) (cap:=cap) (by rw[wE];exact g3) B r s L K
  rw[wE]at C;refine⟨_,Γ',rfl,N,?_,C,d⟩;have:({σ with rw:=σ.rw++[⟨a.size,l.map (qe a),0,0,false⟩]}:St).bx=[]:=k;exact M.wr this.symm (by show σ.rw.map QW++_=σ.rw++_;rw[n];rfl)
end Go.AmZ
namespace Go.GxZ
open Go.RowKit
def Blk(w:World)(g:Nat)(e:TypeId)(a:Array Value):Prop:=w.heap[g]?=some (.cells a e (0,0))
theorem Blk.cell{w:World}{g:Nat}{e:TypeId}{a:Array Value}(h:Blk w g e a)(i:Nat):w.cell? ⟨g,i,none⟩=a[i]?:=by
 unfold Blk at h;simp[World.cell?,h]
theorem Blk.free{w:World}{g:Nat}{e:TypeId}{a:Array Value}(h:Blk w g e a)(i:Nat):w.frozen? ⟨g,i,none⟩=false:=by
 unfold Blk at h;simp[World.frozen?,h]
theorem Blk.later{w w':World}{g:Nat}{e:TypeId}{a:Array Value}(h:Blk w g e a)(b:Below w.heap.size w w'):Blk w' g e a:=by
 unfold Blk at h |-
 rw[b.block g (lt_of_block h)];exact h
theorem Blk.same{w w':World}{g:Nat}{e:TypeId}{a:Array Value}(h:Blk w g e a)(b:w'.heap[g]?=w.heap[g]?):Blk w' g e a:=by
 unfold Blk at h |-
 rw[b];exact h
theorem Blk.set{w:World}{g:Nat}{e:TypeId}{a:Array Value}(h:Blk w g e a)(i:Nat)(v:Value):Blk (w.setCell ⟨g,i,none⟩ v) g e (a.setIfInBounds i v):=by
 unfold Blk at h |-
 have b:=lt_of_block h;have c:w.heap[g]=.cells a e (0,0):=by simpa[Array.getElem?_eq_getElem b]using h
 show(w.heap.modify g _)[g]?=_;rw[Array.getElem?_eq_getElem (by simpa using b),Array.getElem_modify_self,c];rfl
theorem qrC{w:World}{g:Nat}{e:TypeId}{c:Array Value}(h:Blk w g e c)(o:Nat)(n m l j:Value)(p:o+4<=c.size):
  ∃w' b,(((w.setCell ⟨g,o,none⟩ n).setCell ⟨g,o+1,none⟩ m).setCell ⟨g,o+2,none⟩ l).setCell ⟨g,o+3,none⟩ j=w'/\Blk w' g e b/\b.size=c.size/\
   b[o]?=some n/\b[o+1]?=some m/\b[o+2]?=some l/\b[o+3]?=some j/\(∀i,i<o->b[i]?=c[i]?)/\
   (∀B,B<=g->∀w0,Below B w0 w->Below B w0 w')/\w'.heap.size=w.heap.size/\(∀k,k≠g->w'.heap[k]?=w.heap[k]?)/\(∀a,w'.frozen? a=w.frozen? a):=by
 refine⟨_,_,rfl,(((h.set o n).set (o+1) m).set (o+2) l).set (o+3) j,by simp,?_,?_,?_,?_,λ i q=>?_,λ B f w0 h=>(((h.setCell f _).setCell f _).setCell f _).setCell f _,by simp,λ k d=>?_,λ a=>by simp⟩
 .simp[Array.getElem?_setIfInBounds];omega
 .simp[Array.getElem?_setIfInBounds];omega
 .simp[Array.getElem?_setIfInBounds];omega
 .simp[Array.getElem?_setIfInBounds];omega
 .simp only[Array.getElem?_setIfInBounds];rw[if_neg (by omega),if_neg (by omega),if_neg (by omega),if_neg (by omega)]
 .rw[Below.heap_setCell _ _ _ _ d,Below.heap_setCell _ _ _ _ d,Below.heap_setCell _ _ _ _ d,Below.heap_setCell _ _ _ _ d]
def quG(Q:Nat->Prop)(w:World)(a:Array Value)(l:List T):Prop:=
 ∀(k:Nat) (x:T),l[k]?=some x->∃cs:List Value,cs.length=4/\(∀(i:Nat) (c:Value),cs[i]?=some c->a[k*4+i]?=some c)/\JA Q w x cs
theorem quG.nil{Q:Nat->Prop}{w:World}{a:Array Value}:quG Q w a []:=λ k x h=>by simp at h
theorem quG.kids{Q d:Nat->Prop}{w:World}{g:Nat}{e:TypeId}{a:Array Value}{l:List T}(h:quG Q w a l)(n:Blk w g e a)(j:d g)(o:∀b,Q b->d b):qdq d w (some ⟨g,0,none⟩) l:=λ k x f=>by
 let⟨cs,r,q,p⟩:=h k x f;exact⟨g,0,cs,rfl,j,r,λ i c m=>by rw[wG,n.cell];exact q i c m,p.mono o x⟩
theorem quG.next{Q g:Nat->Prop}{w w':World}{e a:Array Value}{l:List T}(h:quG Q w e l)(j:∀b,Q b->w'.heap[b]?=w.heap[b]?)(n:∀b,Q b->g b)(m:∀i,i<l.length*4->a[i]?=e[i]?):quG g w' a l:=λ k x f=>by
 let⟨cs,q,p,o⟩:=h k x f;have r:=(List.getElem?_eq_some_iff.1 f).1;refine⟨cs,q,λ i c d=>?_,(o.keep j x).mono n x⟩;have s:=(List.getElem?_eq_some_iff.1 d).1;rw[m _ (by omega)];exact p i c d
end Go.GxZ
namespace Go.GxZ
open Go.RowKit
theorem qmt{P:Program}(w:World)(zk:Nat)(t ty e:TypeId)(i:TypeInfo)(z:Value)(size bytes:Nat)(F:P.underlying t=some (.slice e))(H:P.info? e=some i)(I:i.zero=some z)
  (d:i.size=size) (A:i.bytes=bytes) (s:z.cells.size=size) (x:0<size)
  (v:Value) (n:Nat) (xs:List Value) (b:w.ownsRow zk e size v n xs)
  (a:Addr) (m c:Nat) (qj:List Value) (G:qj.length=m*size) (f:∀j u,qj[j]?=some u->w.cell? (a.add j)=some u) (J:∀u∈qj,u.oneCell'=true)
  (B:n+m<=maxLen) (h:(n+m)*bytes<=140737488355328) (l:zk<=w.heap.size):
  ∃p w',(Builtin.append_ #[t,t] ty #[v,.slice (some a) m c]).run P w=.ok p w'/\w'.ownsRow zk e size p (n+m) (xs++qj)/\w.grownBy w' v.ownBlock/\
   (p.ownBlock=v.ownBlock\/∀k,p.ownBlock=some k->w.heap.size<=k):=by
 obtain⟨rfl,rfl⟩|⟨g,cap,Q,rfl,O,R,K,N,M,E⟩:=id b.2
 .have D:xs=[]:=kC.1 (by simpa using b.1);subst D;let⟨p,w',C,r,o,_⟩:=run_append_own (P:=P) w w.heap.size t ty e i z size bytes F H I d A s x (.slice none 0 0) 0 [] (World.ownsRow_nil w _ e size) a m c qj G f J B h (wa _);exact⟨p,w',C,r.mono l,o,.inr λ k y=>(r.lt k y).1⟩
 .by_cases q:n+m<=cap
  .let⟨w',C,r,o⟩:=run_append_own_spare (P:=P) w zk t ty e i size F H d g n cap xs b a m c qj G f J q;exact⟨_,w',C,r,o,.inl rfl⟩
  .let⟨p,w',C,r,o⟩:=run_append_arg_grows (P:=P) w t ty e i z size bytes F H I d A s x ⟨g,0,none⟩ n cap xs b.1 (λ j u L=>b.cells rfl j u L) a m c qj G f (by omega) B h;exact⟨p,w',C,r.mono l,⟨o.os,o.tape,o.output,o.size,λ k y _=>o.block k y (by simp)⟩,.inr λ k y=>(r.lt k y).1⟩
end Go.GxZ
namespace Go.GxZ
open Go.RowKit
theorem qsM{P:Program}(w:World)(r s ty c:TypeId)(size g o d l:Nat)(a:Addr)(b f:Nat)(e:Array Value)(t:TypeId)(cs:List Value)
  (u:P.underlying r=some (.slice c)) (p:(P.info? c).map (·.size)=some size)
  (z:w.heap[g]?=some (.cells e t (0,0))) (x:cs.length=Nat.min b d*size)
  (h:∀j v,cs[j]?=some v->w.cell? (a.add j)=some v) (k:o+cs.length<=e.size) (A:∀v∈cs,v.oneCell'=true):
  (Builtin.copy_ #[r,s] ty #[.slice (some ⟨g,o,none⟩) d l,.slice (some a) b f]).run P w=
   .ok (goInt (Nat.min b d)) (w.setRow g (e.toList.take o++cs++e.toList.drop (o+cs.length)).toArray):=by
 have q:=run_loadCells_list (P:=P) w a cs h;have m:=run_storeCells_at P g o t cs 0 e w z (by simpa using k) A;cases n:P.info? c with
 |none=>simp[n]at p
 |some i=>
   have y:i.size=size:=by simpa[n]using p
   rw[x]at q;simp[Builtin.copy_,run_underlying u,Builtin.lenOf,Builtin.firstCells,sizeOf,typeInfo,n,y,q,m]
theorem qwf{P:Program}(w:World)(t e ty:TypeId)(z:Value)(h:P.underlying t=some (.slice e))(f:∀w,(zeroValue e).run P w=.ok z w)(g o n c:Nat)(k:0<n)(a:Array Value)(tb:TypeId)
  (i:w.heap[g]?=some (.cells a tb (0,0))) (d:o+n*z.cells.size<=a.size) (j:∀v∈(Builtin.zeroCells z.cells n).toList,v.oneCell'=true):
  (Builtin.clear_ #[t] ty #[.slice (some ⟨g,o,none⟩) n c]).run P w=.ok (.tuple #[]) (w.setRow g (a.toList.take o++(Builtin.zeroCells z.cells n).toList++a.toList.drop (o+(Builtin.zeroCells z.cells n).toList.length)).toArray):=by
 have b:=run_storeCells_at P g o tb (Builtin.zeroCells z.cells n).toList 0 a w i (by simpa[Builtin.zeroCells]using d) j;obtain⟨m,rfl⟩:∃m,n=m+1:=⟨n-1,by omega⟩
 simp only[wO]at b;simp[Builtin.clear_,run_underlying h,f,b]
structure qng (w w':World) (g:Nat) (t:TypeId) (new:List Value):Prop where
 blk:Blk w' g t new.toArray
 other:∀k,k≠g->w'.heap[k]?=w.heap[k]?
 size:w'.heap.size=w.heap.size
 below:∀B,B<=g->∀w0,Below B w0 w->Below B w0 w'
 os:w'.os=w.os
 tape:w'.tape=w.tape
 output:w'.output=w.output
 drawn:w'.drawn=w.drawn
theorem qhD{w:World}{g:Nat}{t:TypeId}{b:Array Value}(h:Blk w g t b)(a:List Value):qng w (w.setRow g a.toArray) g t a:=
 ⟨setRow_heap w g b _ t _ h,λ k c=>setRow_other w g k _ c,by simp[World.setRow],λ _ e _ d=>below_setRow d e _,rfl,rfl,rfl,rfl⟩
theorem qwd{P:Program}{ops:Array Oper}{o:Oper}{a:Act}{w:World}{K:Act->World->Prop}{Q:Exit->Act->World->Prop}{E:Prop}(q:o.guard=none)(d s:Operand)(r u:TypeId)
  (C:o.op=.call {callee:=.builtin .copy,args := #[d,s],argTypes := #[r,u]}) (f:TypeId) (size:Nat) (A:P.underlying r=some (.slice f)) (p:(P.info? f).map (·.size)=some size)
  (g off e k:Nat) (ad:Addr) (c i:Nat) (F:a.eval d=.slice (some ⟨g,off,none⟩) e k) (B:a.eval s=.slice (some ad) c i)
  (b:Array Value) (t:TypeId) (y:Blk w g t b) (cs:List Value) (D:cs.length=Nat.min c e*size)
  (l:∀j v,cs[j]?=some v->w.cell? (ad.add j)=some v) (n:off+cs.length<=b.size) (G:∀v∈cs,v.oneCell'=true)
  (h:∀w',qng w w' g t (b.toList.take off++cs++b.toList.drop (off+cs.length))->K (a.put o.dst (goInt (Nat.min c e))) w'):
  if Region.wanted o (yielded ops a.tmps)=true then Oper.wp P o a w K Q else E:=by
 have z:Region.wanted o (yielded ops a.tmps)=true:=by simp[Region.wanted,q]
 rw[if_pos z];have m:=qsM (P:=P) w r u o.type f size g off e k ad c i b t cs A p y D l n G;unfold Oper.wp;simp[execOp,C,resolve,invoke,builtin,F,B,m,Result.andThen];have x:=h _ (qhD y (b.toList.take off++cs++b.toList.drop (off+cs.length)));rw[wn]at x;exact x
theorem qoO(g:Nat)(t:TypeId):∀(vs:List Value) (o:Nat) (w:World) (a:Array Value),Blk w g t a->o+vs.length<=a.size->qng w (w.setCells g o vs) g t (a.toList.take o++vs++a.toList.drop (o+vs.length))
 |[],o,w,a,h,_=>by
   refine⟨?_,λ _ _=>rfl,rfl,λ _ _ _ h=>h,rfl,rfl,rfl,rfl⟩;simp only[wy,wT,wO,kD,ve];exact h
 |v::r,o,w,a,h,c=>by
   have b:=qoO g t r (o+1) (w.setCell ⟨g,o,none⟩ v) (a.setIfInBounds o v) (h.set o v) (by simp at c |-;omega);have e:=list_seg_step a.toList o v r (by simp at c |-;omega);rw[World.setCells];refine⟨?_,λ k d=>(b.other k d).trans (Below.heap_setCell _ _ _ _ d),b.size.trans (by simp),λ B i w0 f=>b.below B i w0 (f.setCell i _),b.os,b.tape,b.output,b.drawn⟩;have f:=b.blk;grind
theorem qOK(k:Nat)(a xs ys:List Value)(i n:Nat)(g:a.take (n*k)=xs)(m:n*k+k<=a.length)(l:i*k<=n*k)(e:ys.length=k)(c:List Value)
  (h:c=a.take (i*k+k)++xs.drop (i*k)++a.drop (i*k+k+(xs.drop (i*k)).length)):
  c.length=a.length/\(c.take (i*k)++ys++c.drop (i*k+ys.length)).length=a.length/\(c.take (i*k)++ys++c.drop (i*k+ys.length)).take (n*k+k)=xs.take (i*k)++ys++xs.drop (i*k):=by
 generalize n*k=N at *;generalize i*k=I at *;have b:xs.length=N:=by rw[<-g,wo];omega
 have d:(xs.drop I).length=N-I:=by rw[w7,b]
 have f:c.length=a.length:=by rw[h];simp only[wd,wo,w7,b];omega
 refine⟨f,?_,?_⟩
 .grind
 .have e1:c.take I=xs.take I:=by
    grind
  have j:c.drop (I+k)=xs.drop I++a.drop (I+k+(xs.drop I).length):=by
   grind
  rw[e,e1,j,<-wn,kT (by simp only[wd,wo,e,d,b];omega),kV (by simp only[wd,wo,e,d,b];omega)]
theorem qPT(k:Nat)(a xs ys:List Value)(i n:Nat)(h:a.take (i*k)=xs.take (i*k))(c:xs.length=n*k)(l:n*k+k<=a.length)(j:i*k<=n*k)(e:ys.length=k)(b:List Value)
  (g:b=a.take (i*k)++ys++a.drop (i*k+ys.length)):
  b.length=a.length/\(b.take (i*k+k)++xs.drop (i*k)++b.drop (i*k+k+(xs.drop (i*k)).length)).length=a.length/\
   (b.take (i*k+k)++xs.drop (i*k)++b.drop (i*k+k+(xs.drop (i*k)).length)).take (n*k+k)=xs.take (i*k)++ys++xs.drop (i*k):=by
 generalize n*k=N at *;generalize i*k=I at *;have d:(xs.drop I).length=N-I:=by rw[w7,c]
 have f:b.length=a.length:=by rw[g];simp only[wd,wo,w7,e];omega
 refine⟨f,?_,?_⟩
 .grind
 .have e1:b.take (I+k)=xs.take I++ys:=by
    grind
  rw[e1,kT (by simp only[wd,wo,e,d,c];omega),kV (by simp only[wd,wo,e,d,c];omega)]
def qm9(k:Nat)(w:World)(g d n:Nat)(xs:List Value)(e:Ending)(w':World):Prop:=
 ∃(c cap:Nat) (a:Array Value) (f:TypeId),e=.returned (.slice (some ⟨c,0,none⟩) n cap)/\w'.heap[c]?=some (.cells a f (0,0))/\n<=cap/\cap*k<=a.size/\a.toList.take (n*k)=xs/\
  ((c=g/\a.size=d)\/w.heap.size<=c)/\w'.os=w.os/\w'.tape=w.tape/\w'.output=w.output/\w.heap.size<=w'.heap.size/\w.drawn<=w'.drawn/\∀b,b<w.heap.size->b≠g->w'.heap[b]?=w.heap[b]?
theorem qxb{P:Program}(w:World)(tS tR e:TypeId)(ht:P.underlying tS=some (.slice e))(size:Nat)(hz:∀ w,(Go.sizeOf e).run P w = .ok size w)
  (a b:Addr) (la ca lb cb:Nat) (hne:a.block≠b.block) (tA tB:TypeId) (kA kB:Nat)
  (hsa:w.shape? a.block=some (tA,kA)) (hkA:kA≠0) (hsb:w.shape? b.block=some (tB,kB))
  (hfb:w.frozen? b=false) (hfe:w.frozen? { block:=b.block,off:=kB }=false) :
  (Extern.SlicesOverlaps.overlaps #[tS,tS] #[tR] #[.slice (some a) la ca,.slice (some b) lb cb]).run P w = .ok (.bool false) w:=by
 have hnb:(a.block != b.block)=true:=by simpa using hne
 have hnb':(a.block==b.block)=false:=by simpa using hne
 change Sem.run P (α := Value) (do
  let some t:=(#[tS,tS]:Array TypeId)[0]? | stuck "slices.overlaps: no parameter types"
  let .slice elem <- underlying t | stuck "slices.overlaps: slice type expected"
  let size <- sizeOf elem
  match(some a:Option Addr),(some b:Option Addr)with
  | some a,some b =>
    if la=0\/lb=0\/size=0 then pure (Value.bool false)
    else if a.block != b.block&&(<- frozen a)&&(<- frozen b)then unsupported .addressObserved
    else do
     if a.block != b.block then do
      noView a;noView b
      if <- mayBeOne a b then return Value.bool ((<- choose _)==1)
     pure (Value.bool (a.block==b.block&&a.off<b.off+lb*size&&b.off<a.off+la*size))
  | _,_=>pure (Value.bool false)) w=_
 by_cases h0:la=0\/lb=0\/size=0
 ·simp[run_underlying ht,hz,h0]
 ·cases kA with
  | zero=>exact absurd rfl hkA
  | succ kA =>
    cases hfa:w.frozen? a with
    | true=>simp[run_underlying ht,hz,h0,hnb,hnb',frozen,noView,viewAt,mayBeOne,stringish,shape,Sem.run,hsa,hsb,hfb,hfe,hfa]
    | false =>
      cases hfk:w.frozen? { block:=a.block,off:=kA+1 }with
      | true| false=>simp[run_underlying ht,hz,h0,hnb,hnb',frozen,noView,viewAt,mayBeOne,stringish,shape,Sem.run,hsa,hsb,hfb,hfe,hfa,hfk]
theorem qKc{w:World}{a:Addr}{u:Value}(d:a.spot=none)(h:w.cell? a=some u):∃t n,w.shape? a.block=some (t,n)/\n≠0:=by
 unfold World.cell? at h;split at h
 .rename_i c e f b;refine⟨e,c.size,by simp[World.shape?,b],λ g=>?_⟩;grind
 .cases h
end Go.GxZ
namespace Go.AmZ
open Go Go.RowKit Go.GxZ
theorem qzz{Γ b σ σ1 w w1 a l}(r:Inv Γ σ w)(K:Ext Γ w b w1)(s:Inv b σ1 w1)(A:σ.bx=[]){j Q}(C:σ1.rw[j]?=some Q)(D:Q.k=a.size)(x:Q.fz=0)(f:Q.off=false)(E:zl (qL a) Q.c=some l){u}(B:Rep b (.rs j 0 l.length Q.ver false) u):
  ∃g,Ext Γ w g w1/\Inv g ⟨[],σ.rw.map QW++Jy [.one (.row a)] (l,()),List.range σ.bx.length,List.range σ.rw.length⟩ w1/\Rep g (zY (qap [.one (.row a)] σ.rw.length (l,()))) u/\
   qO {σ with wr:=[],wrr:=[]} ⟨[],σ.rw.map QW++Jy [.one (.row a)] (l,()),List.range σ.bx.length,List.range σ.rw.length⟩:=by
 have n:qO {σ with wr:=[],wrr:=[]} ⟨[],σ.rw.map QW++Jy [.one (.row a)] (l,()),List.range σ.bx.length,List.range σ.rw.length⟩:=
  ⟨by rw[A];exact wa _,by show σ.rw.length<=(σ.rw.map QW++_).length;rw[wd,wE];exact kI _ _,λ i r _=>(by grind),λ i r L=>absurd (xb.2 r) L,λ i h=>(by cases h),λ i h=>(by cases h)⟩
 let⟨t,W,V,I,G⟩:=qrh r K s (by grind) [] [] (by grind) (by simp) kZ [] [(some j,⟨a.size,l.map (qe a),0,0,false⟩)] (λ i cs h=>by cases h)
  (λ i so R h=>by
   cases i with
   |zero=>
     cases h;refine⟨rfl,rfl,waI a,λ e y=>?_,λ e y=>?_,Q,C,D,x,by rw[wE];exact zb E,λ i e Z O F=>?_,(by simp),f⟩
     .obtain⟨v,_,rfl⟩:=wC.1 y;exact yj a v
     .obtain⟨v,_,rfl⟩:=wC.1 y;exact zq a v
     .let⟨v,g3,N⟩:=J0 E O;rw[List.getElem?_map,g3]at F;cases F;exact qlj N
   |succ i=>cases h)
  (λ i j q R R' s M=>by
   cases i with
   |succ i=>cases s
   |zero=>cases j with
     |zero=>rfl
     |succ j=>cases M) (List.range σ.bx.length) (List.range σ.rw.length)
 refine⟨_,I,G,?_,n⟩;have H:=s.row j Q C;cases B with
 |rs _ _ _ _ _ U cap B X z Y o=>
   have o:=o (H.ver (by omega)).symm;have m:¬ σ.rw.length<σ.rw.length:=wau _;have d:σ.rw.length-σ.rw.length=0:=kP _;refine .rs _ _ _ _ _ U cap (by show σ.rw.length<σ.rw.length+1;omega) (wg _) z (λ h=>by cases h) λ _=>?_
   have T:(jW b t σ.bx.length [] σ.rw.length [(some j,⟨a.size,l.map (qe a),0,0,false⟩)]).cur σ.rw.length=b.cur j:=by
    show(if σ.rw.length<σ.rw.length then _ else match[((some j:Option Nat),(⟨a.size,l.map (qe a),0,0,false⟩:Row))][σ.rw.length-σ.rw.length]? with|some (some j,_)=>b.cur j|_=>0)=_;rw[if_neg m,d];rfl
   have P:(jW b t σ.bx.length [] σ.rw.length [(some j,⟨a.size,l.map (qe a),0,0,false⟩)]).sz σ.rw.length=b.sz j:=by
    show(if σ.rw.length<σ.rw.length then 0 else match[((some j:Option Nat),(⟨a.size,l.map (qe a),0,0,false⟩:Row))][σ.rw.length-σ.rw.length]? with|some (some j,_)=>b.sz j|_=>0)=_;rw[if_neg m,d];rfl
   have S:(jW b t σ.bx.length [] σ.rw.length [(some j,⟨a.size,l.map (qe a),0,0,false⟩)]).k σ.rw.length=b.k j:=by
    show(if σ.rw.length<σ.rw.length then _ else match[((some j:Option Nat),(⟨a.size,l.map (qe a),0,0,false⟩:Row))][σ.rw.length-σ.rw.length]? with|some p=>p.2.k|none=>1)=_;rw[if_neg m,d,<-H.k,D];rfl
   rw[T,P,S];rw[H.off f]at o;exact o
theorem qQG{Γ Γ1 σ σ1 w w1 a}(d:Inv Γ σ w)(m:Ext Γ w Γ1 w1)(f:Inv Γ1 σ1 w1)(e:σ.bx=[])(p):
  ∃b,Ext Γ w b w1/\Inv b ⟨[],σ.rw.map QW++Jy [.one (.row a)] (([]:List (Val a)),()),List.range σ.bx.length,List.range σ.rw.length⟩ w1/\Rep b (zY (qap [.one (.row a)] σ.rw.length (([]:List (Val a)),()))) (.slice p 0 0)/\
   qO {σ with wr:=[],wrr:=[]} ⟨[],σ.rw.map QW++Jy [.one (.row a)] (([]:List (Val a)),()),List.range σ.bx.length,List.range σ.rw.length⟩:=by
 have c:qO {σ with wr:=[],wrr:=[]} ⟨[],σ.rw.map QW++Jy [.one (.row a)] (([]:List (Val a)),()),List.range σ.bx.length,List.range σ.rw.length⟩:=
  ⟨by rw[e];exact wa _,by show σ.rw.length<=(σ.rw.map QW++_).length;rw[wd,wE];exact kI _ _,λ i d _=>(by grind),λ i d n=>absurd (xb.2 d) n,λ i h=>(by cases h),λ i h=>(by cases h)⟩
 let⟨s,r,o,k,g⟩:=qrh d m f (by grind) [] [] (by grind) (by simp) kZ [] [(none,⟨a.size,[],0,0,false⟩)] (λ i cs h=>by cases h)
  (λ i so R h=>by
   cases i with
   |zero=>cases h;exact⟨rfl,rfl,waI a,(by simp),(by simp),rfl⟩
   |succ i=>cases h)
  (λ i j q R R' f t=>by cases i<;>cases f) (List.range σ.bx.length) (List.range σ.rw.length)
 refine⟨_,k,g,?_,c⟩;exact .rs _ _ _ _ _ p 0 (by show σ.rw.length<σ.rw.length+1;omega) (wg _) (wa _) (λ h=>by cases h) λ _=>⟨.inl rfl,by rw[wO,kR];exact wg _⟩
def jm(Γ:Gh)(k:Nat)(c:List (List AV))(xs:List Value):Prop:=∀(i:Nat) (e:List AV) (j:Nat) (x:AV),c[i]?=some e->e[j]?=some x->∃u,xs[i*k+j]?=some u/\Rep Γ x u/\u.oneCell'=true
theorem jm.take{Γ k c xs}(h:jm Γ k c xs)(hk:∀ e∈c,e.length=k)(n):jm Γ k (c.take n) (xs.take (n*k)):=by
 intro i e j x h1 h2;rw[List.getElem?_take]at h1;split at h1
 case isFalse=>cases h1
 rename_i hin;obtain⟨u,u1,u2⟩:=h i e j x h1 h2;refine⟨u,?_,u2⟩;have:(i+1)*k<=n*k:=wu _ hin;grind
theorem jm.drop{Γ k c xs}(h:jm Γ k c xs)(n):jm Γ k (c.drop n) (xs.drop (n*k)):=by
 intro i e j x a b;rw[List.getElem?_drop]at a;let⟨u,u1,u2⟩:=h _ e j x a b;grind
theorem jm.app{Γ k c c' xs ys}(h:jm Γ k c xs)(d:jm Γ k c' ys)(a:xs.length=c.length*k)(b:∀e∈c,e.length=k):jm Γ k (c++c') (xs++ys):=qrH a b h d
theorem qk1{P f Γ σ w vals a R l c xs n}(q:Inv Γ σ w)(L:σ.bx=[])(s:σ.rw[0]?=some R)(z:R.k=a.size)(I:R.fz=0)(d:R.off=false)(B:Γ.sz 0≠0)(Z:n=l.length)(m:zl (qL a) c=some l)(F:∀e∈c,e.length=a.size)(C:∀e∈c,∀x∈e,qv x=true)(Y:jm Γ a.size c xs)(h:Calls P f vals.toArray w (qm9 a.size w (Γ.cur 0) (Γ.sz 0) n xs)):
  Jm P Γ σ w f vals (zY (qap [.one (.row a)] σ.rw.length (l,())),some ⟨[],σ.rw.map QW++Jy [.one (.row a)] (l,()),List.range σ.bx.length,List.range σ.rw.length⟩):=by
 subst Z;refine Calls.mono h ?_;rintro e w' ⟨g,cap,aa,et,rfl,h1,O,h3,h4,v,h6,h7,h8,h9,N,y⟩;have H:=q.row 0 R s;have K:=zb m;have r:=λ off=>H.un B off (by rw[I,kR,H.off d];exact wg _)
 let⟨Q,e1,X,W⟩:=qvg q s (H.off d) (R':=⟨R.k,c,R.ver+1,0,false⟩) (by omega) rfl (.inl rfl) (λ e J=>(F e J).trans z.symm) C (wg _) (qCN _) (λ _=>rfl) h1
  (by show c.length*R.k<=_;rw[K,z];exact wz (wu _ O) h3)
  (λ off _=>by
   obtain⟨rfl,_⟩|v:=v
   .exact r off
   .cases p:Γ.mem g off with
    |none=>rfl
    |some u=>have:=q.mem_lt p;omega)
  (λ i e j x g1 g2=>by
   let⟨u,u1,u2⟩:=Y i e j x g1 g2;refine⟨u,?_,u2⟩;rw[z,<-Array.getElem?_toList]
   have E:i*a.size+j<l.length*a.size:=by
    have G:i<l.length:=by grind
    have hj:j<a.size:=by grind
    have:(i+1)*a.size<=l.length*a.size:=wu _ G;rw[kS]at this;omega
   rw[<-h4,List.getElem?_take,if_pos E]at u1;exact u1)
  (λ b o u p=>by
   have M:b≠Γ.cur 0:=λ J=>by rw[J,r]at p;cases p
   rw[show w'.cell? _=w.cell? _ from World.cell?_of_block (y b (q.mem_lt p) M)];exact(q.mem b o u p).1)
  (λ b M D=>y b M (D.elim id λ h0=>absurd h0 B))
  (by
   obtain⟨rfl,_⟩|v:=v
   .exact .inl ⟨rfl,B⟩
   .exact .inr v) h6 h7 h8 h9 N σ.wrr
 have t:({σ with rw:=σ.rw.set 0 ⟨R.k,c,R.ver+1,0,false⟩,wrr:=σ.wrr}:St).rw[0]?=some ⟨R.k,c,R.ver+1,0,false⟩:=by
  grind
 let⟨A,V,U,T,S⟩:=qzz q e1 X L t z rfl rfl m (W l.length cap O (by grind));exact⟨_,A,rfl,V,U,T,S⟩
theorem qAr{Γ σ w}(d:Inv Γ σ w){R r}(a:σ.rw[r]?=some R)(b:R.off=false)(l:Γ.sz r≠0){et cur}(f:w.heap[Γ.cur r]?=some (.cells cur et (0,0)))(i e j x)(h:R.c[i]?=some e)(g:e[j]?=some x):
  ∃u,cur[i*R.k+j]?=some u/\Rep Γ x u/\u.oneCell'=true:=by
 let⟨u,u1,u2⟩:=(d.row r R a).cells i e j x h g;refine⟨u,?_,u2⟩;rw[(d.row r R a).off b,wG]at u1;simpa[World.cell?,f]using u1
theorem qHx{cs:List (List AV)}{k}{xs:List Value}(l:∀e∈cs,e.length=k)(c:0<k)(g:xs.length=cs.length*k)(h:∀i e j x,cs[i]?=some e->e[j]?=some x->∃u,xs[i*k+j]?=some u/\u.oneCell'=true):∀u∈xs,u.oneCell'=true:=by
 intro u d;let⟨q,f⟩:=List.getElem?_of_mem d;have b:=getElem?_lt f;rw[g]at b;have a:=(xX c).2 b;have n:q%k<k:=xU _ c;have o:=l _ (wW a);let⟨m,r,p⟩:=h (q/k) _ (q%k) _ (List.getElem?_eq_getElem a) (List.getElem?_eq_getElem (by omega));grind [Nat.mul_comm,Nat.div_add_mod]
theorem qoS{σ τ r nb nr ys a}(h:dS σ (.val τ::r) nb nr ys=some a):∃y b,ys=y::b/\Ql τ y=some a.1/\dS σ r nb nr b=some a.2:=by
 cases ys with
 |nil=>simp[dS]at h
 |cons y ys=>
   grind [dS]
theorem qv2{σ τ r nb nr ys a}(h:dS σ (.row τ::r) nb nr ys=some a):∃y b c,ys=y::b/\qeW σ τ nr y=some (a.1,c)/\dS σ r nb c b=some a.2:=by
 cases ys with
 |nil=>simp[dS]at h
 |cons y ys=>
   grind [dS]
theorem qlL{σ nb nr ys a}(h:dS σ [] nb nr ys=some a):ys=[]/\nb=σ.bx.length/\nr=σ.rw.length:=by
 grind [dS]
theorem qhX{σ τ y l nr}(h:qeW σ τ 0 y=some (l,nr)):
  (nr=1/\∃R,y=.rs 0 0 R.c.length R.ver false/\σ.rw[0]?=some R/\R.k=τ.size/\(R.fz=0/\R.off=false)/\zl (qL τ) R.c=some l)\/(nr=0/\l=[]/\(y=.v (.slice none 0 0)\/∃f,y=.sl τ.size [] f/\2<=f)):=by
 unfold qeW at h;split at h
 .grind
 .split at h<;>cases h;rename_i d a;refine .inr ⟨rfl,rfl,?_⟩;have a:=of_decide_eq_true a;obtain⟨rfl,_⟩|⟨e,n,rfl,b⟩:=yS d
  .exact .inl rfl
  .have:=wi (zb b);subst this;exact .inr ⟨_,rfl,a⟩
theorem qlp{Γ τ y v u}(h:Ql τ y=some v)(a:Rep Γ y u):Rep Γ (yR τ v) u:=qs0 h _ _ a
theorem qwr{a}(l):dlist a (.sl a.size (l.map (qe a)) 1)=some l:=by
 show jp a.size (qL a) _=some l;grind [jp,zx,decide_eq_true,qb1,j9]
structure qom (P:Program) (a:Ty) (tS tE:TypeId) (bytes:Nat):Prop where
 td:∃q1 q2 q3 q4 z,yQ P tS=some ⟨q1,q2,q3,q4,.slice tE a.size bytes z⟩/\z.length=a.size
def qLu(t:TypeId)(d:TD):Cfg:=⟨λ a=>if a=t then some d else none,λ _=>none,λ _=>none,λ _=>false,λ _=>[],λ _=>false,λ _=>none⟩
theorem qrk{P a tS tE bytes}(n:qom P a tS tE bytes){Γ σ w}(m:Inv Γ σ w){s sv xv b f}(l:Rep Γ s sv)(k:Rep Γ (.sl a.size b f) xv)(r:∀e∈b,e.length=a.size)(q:∀e∈b,∀x∈e,qv x=true){x σ'}(h:yg a.size bytes σ s b=some (x,σ'))(ty):
  ∃v w' Γ',(Builtin.append_ #[tS,tS] ty #[sv,xv]).run P w=.ok v w'/\Ext Γ w Γ' w'/\Inv Γ' (turn σ σ') w'/\Rep Γ' x v:=by
 let⟨j,i,g,c,z,u,o⟩:=n.td;refine qAs (C:=qLu tS ⟨j,i,g,c,.slice tE a.size bytes z⟩) (λ t d p=>?_) m l k rfl rfl (if_pos rfl) (if_pos rfl) (waI a) o ?_ ?_ h
 .grind [qLu]
 .grind [elems,zx]
 .grind [uni]
theorem qDK(b o j):(⟨b,o,none⟩:Addr).add j=⟨b,o+j,none⟩:=by unfold Addr.add;split<;>simp_all
theorem qNl{P N a tS tE bytes}(hf:qg0 P N)(hT:qom P a tS tE bytes)(hb:bytes<=2^24)(V:∀w p n c ad D X w',n<=100000->(Builtin.append_ #[tS,tS] tS #[.slice p n c,.slice (some ad) 1 D]).run P w=.ok X w'->Calls P N #[.slice p n c,.int .i64 n,.slice (some ad) 1 D] w λ e w1=>e=.returned X/\w1=w')(ac:∀w g n c i et s xs,Blk w g et s->c*a.size<=s.size->s.toList.take (n*a.size)=xs->(∀u∈xs,u.oneCell'=true)->∀K B D ys,ys.length=a.size->(∀j u,ys[j]?=some u->w.cell? ⟨K,B+j,none⟩=some u)->(∀u∈ys,u.oneCell'=true)->K≠g->n<=100000->i<n->n+1<=c->
   Calls P N #[.slice (some ⟨g,0,none⟩) n c,.int .i64 i,.slice (some ⟨K,B,none⟩) 1 D] w (qm9 a.size w g s.size (n+1) (xs.take (i*a.size)++ys++xs.drop (i*a.size)))) (ag:∀w g n i et s xs,Blk w g et s->n*a.size<=s.size->s.toList.take (n*a.size)=xs->(∀u∈xs,u.oneCell'=true)->∀K B D ys,ys.length=a.size->(∀j u,ys[j]?=some u->w.cell? ⟨K,B+j,none⟩=some u)->(∀u∈ys,u.oneCell'=true)->n<=100000->i<n->
   Calls P N #[.slice (some ⟨g,0,none⟩) n n,.int .i64 i,.slice (some ⟨K,B,none⟩) 1 D] w (qm9 a.size w g s.size (n+1) (xs.take (i*a.size)++ys++xs.drop (i*a.size)))) {fn:List (Val a)->Int->List (Val a)->Option (Unit×List (Val a)×Unit)} (aP:∀l i v r,fn l i v=some r->(∃e,v=[e])/\0<=i/\i<=l.length/\l.length<=100000/\r=((),l.take i.toNat++(v++l.drop i.toNat),())) (aW:a.size≠1:=by first|assumption|decide):
  qT P N (sgP ⟨[.row a,.val (.int .i64),.val (.list a)],[.one (.row a)],λ x=>fn x.1 x.2.1 x.2.2.1⟩):=by
 refine⟨hf,λ Γ σ w aX aU r U hr hp=>?_⟩;unfold sgP at hp;split at hp<;>try cases hp
 rename_i x Z;split at hp<;>cases hp;rename_i v0 aB;let⟨l,i,v,_⟩:=x;obtain⟨⟨e,rfl⟩,af,ap,hl,rfl⟩:=aP _ _ _ _ aB;obtain⟨i,rfl⟩:=vy af;have ap:i<=l.length:=Int.ofNat_le.1 ap;have hl:l.length<=100000:=hl;obtain⟨y0,a0,nr,rfl,aA,Z⟩:=qv2 Z;obtain⟨y1,aZ,rfl,az,Z⟩:=qoS Z;obtain⟨y2,aY,rfl,ay,Z⟩:=qoS Z;obtain⟨rfl,aQ,a2⟩:=qlL Z;obtain⟨u0,r0,rfl,L,hr⟩:=hr.uncons;obtain⟨u1,r1,rfl,ab,hr⟩:=hr.uncons;obtain⟨u2,r2,rfl,aC,hr⟩:=hr.uncons;have:=hr.nil_inv;subst this;have ab:=zp (qlp az ab);subst ab;have aj:=wi aQ.symm;have hL:=qlp ay aC;obtain⟨p2,n2,D,rfl,a3,hC⟩:=qEj U (qwr [e]) hL;have ao:n2=1:=by rw[<-hC.len];rfl
 subst ao;obtain aT|⟨b2,B,rfl,aS⟩:=hC.at_
 .cases aT
 let⟨ys,a1,aw,y3,y4⟩:=qhL (waI a) hC.size aS;have E:ys.length=a.size:=by grind
 have F:zx (qaO [qe a e]) 0=false:=rfl;have av:=qDK;have A:∀j u,ys[j]?=some u->w.cell? ⟨b2,B+j,none⟩=some u:=λ j u hj=>by rw[<-av];exact aw j u hj
 have aD:(1:Nat)*bytes<=2^47:=by omega
 have O:∀q∈[qe a e],q.length=a.size:=by intro q d;rw[wD.1 d];exact yj a e
 have ae:∀q∈[qe a e],∀x∈q,qv x=true:=by intro q d;rw[wD.1 d];exact zq a e
 obtain⟨aI,R,rfl,hR,z,m,Q⟩|⟨aI,aL,hy⟩:=qhX aA
 .have H:=U.row 0 R hR;have a6:R.c.length=l.length:=zb Q;cases L with
  |rs _ _ _ _ _ p cap aG aF al aE ak=>
  let⟨an,I⟩:=ak (H.ver (by omega)).symm;rw[H.off m.2,wG]at an I;by_cases aN:i=l.length
  .-- at the end
   have t:yg a.size bytes σ (.rs 0 0 R.c.length R.ver false) [qe a e]=some (.rs 0 0 (R.c.length+1) (R.ver+1) false,some {σ with rw:=σ.rw.set 0 {R with c:=R.c++[qe a e],ver:=R.ver+1},wrr:=0::σ.wrr}):=by
    have ah:R.k=a.size/\R.ver=R.ver/\R.c.length=R.c.length/\(0:Nat)=0/\false=false/\R.fz<=R.c.length/\(R.c.length+[qe a e].length)*bytes<=2^47/\R.c.length+[qe a e].length<2^62:=by
     refine⟨z,rfl,rfl,rfl,rfl,by rw[m.1];exact wg _,?_,?_⟩
     .have:(R.c.length+1)*bytes<=100001*2^24:=vW (by omega) hb;show(R.c.length+1)*bytes<=_;omega
     .show R.c.length+1<_;omega
    have aR:qsV R a.size 0 R.c.length R.ver false bytes [qe a e]=some ({R with c:=R.c++[qe a e],ver:=R.ver+1},R.c.length+1):=if_pos ah;simp[yg,F,hR,aR]
   let⟨X,w',Γ',g1,K,g3,g4⟩:=qrk hT U (.rs 0 0 _ _ _ p cap aG aF al aE ak) hL O ae t tS;have J:=V w p R.c.length cap ⟨b2,B,none⟩ D X w' (by omega) g1;rw[show((R.c.length:Nat):Int)=((i:Nat):Int) by omega]at J;refine Calls.mono J ?_;rintro e1 w1 ⟨rfl,rfl⟩
   have G:(turn σ (some {σ with rw:=σ.rw.set 0 {R with c:=R.c++[qe a e],ver:=R.ver+1},wrr:=0::σ.wrr})).rw[0]?=some {R with c:=R.c++[qe a e],ver:=R.ver+1}:=by
    show(σ.rw.set 0 _)[0]?=_;rw[List.getElem?_set_self (getElem?_lt hR)]
   have hd:=qab Q (qb1 (λ v=>j9 a v) [e])
   have y:l.take ((i:Nat):Int).toNat++([e]++l.drop ((i:Nat):Int).toNat)=l++[e]:=by
    rw[kL,aN,wF,wJ,wy]
   let⟨W,z1,z2,z3,z4⟩:=qzz U K g3 aj G z m.1 m.2 hd (u:=X) (by grind);rw[y];exact⟨_,W,rfl,z1,z2,z3,z4⟩
  .-- within
   have am:cap≠0:=by omega
   have aH:p=some ⟨Γ.cur 0,0,none⟩:=by
    obtain h|h:=an
    .exact absurd h am
    .rw[h,kR]
   subst aH;have aM:=waI a;have a7:1*a.size<=cap*a.size:=wu _ (by omega);rw[<-H.k,z,wG]at I;have hz:Γ.sz 0≠0:=by omega
   let⟨vs,et,frz,aa,S,aV,ar⟩:=H.blk hz;obtain rfl:frz=(0,0):=ar (by omega)
   have ai:jm Γ a.size R.c (vs.toList.take (R.c.length*a.size)):=by
    have hh:jm Γ a.size R.c vs.toList:=λ q e j x q1 q2=>by
     let⟨u,u1,u2⟩:=qAr U hR m.2 hz aa q e j x q1 q2;rw[z]at u1;exact⟨u,by rw[Array.getElem?_toList];exact u1,u2⟩
    have:=hh.take (λ e he=>(H.len e he).trans z) R.c.length
    rwa [wF]at this
   have C:=λ e he=>(H.len e he).trans z;have aJ:R.c.length*a.size<=vs.size:=by rw[S];exact wz (wu _ al) I
   have Y:(vs.toList.take (R.c.length*a.size)).length=R.c.length*a.size:=by grind
   have h1:=qHx C aM Y (λ q e j x q1 q2=>by let⟨u,u1,u2,u3⟩:=ai q e j x q1 q2;exact⟨u,u1,u3⟩)
   have aK:b2≠Γ.cur 0:=by
    intro he;cases hL with
    |sl _ _ _ _ _ _ b o us s1 s2 s3 s4 s5 s6 s7 s8 s9=>
      obtain s7|s7:=s7
      .cases s7
      .cases s7;have a5:=yj a e;have hm:=s8 0 (qe a e) 0 _ rfl (List.getElem?_eq_getElem (by omega));have:=H.un hz (B+0*a.size+0) (by rw[m.1,kR,H.off m.2];exact wg _);rw[he,this]at hm;cases hm
   have aO:Calls P N #[.slice (some ⟨Γ.cur 0,0,none⟩) R.c.length cap,.int .i64 i,.slice (some ⟨b2,B,none⟩) 1 D] w (qm9 a.size w (Γ.cur 0) (Γ.sz 0) (R.c.length+1) ((vs.toList.take (R.c.length*a.size)).take (i*a.size)++ys++(vs.toList.take (R.c.length*a.size)).drop (i*a.size))):=by
    rw[<-S];by_cases M:R.c.length+1<=cap
    .exact ac w (Γ.cur 0) R.c.length cap i et vs _ aa (by omega) rfl h1 b2 B D ys E A y3 aK (by omega) (by omega) M
    .obtain rfl:cap=R.c.length:=by omega
     exact ag w (Γ.cur 0) R.c.length i et vs _ aa aJ rfl h1 b2 B D ys E A y3 (by omega) (by omega)
   have aq:i*a.size<=R.c.length*a.size:=wu _ (by omega);have au:zl (qL a) (R.c.take i++[qe a e]++R.c.drop i)=some (l.take i++[e]++l.drop i):=qab (qab (qh9 i Q) (qb1 (λ v=>j9 a v) [e])) (qfl i Q);have y:l.take ((i:Nat):Int).toNat++([e]++l.drop ((i:Nat):Int).toNat)=l.take i++[e]++l.drop i:=by simp
   rw[y];refine qk1 U aj hR z m.1 m.2 hz ?_ au (λ q d=>?_) (λ q d=>?_) ?_ aO
   .simp;omega
   .obtain d|d:=wj.1 d
    .obtain d|d:=wj.1 d
     .exact C q (wQ d)
     .exact O q d
    .exact C q (wP d)
   .obtain d|d:=wj.1 d
    .obtain d|d:=wj.1 d
     .exact H.plain q (wQ d)
     .exact ae q d
    .exact H.plain q (wP d)
   .have ax:=y4;have ht:=ai.take C i;have hd:=ai.drop i;refine jm.app (jm.app ht ax ?_ λ q d=>C q (wQ d)) hd ?_ ?_
    .rw[wo,Y,wo,kw aq,kw (by omega)]
    .rw[wd,wd,wo,Y,wo,kw aq,kw (by omega),E,List.length_singleton,kS]
    .intro q d;obtain d|d:=wj.1 d
     .exact C q (wQ d)
     .exact O q d
 .-- nothing was there
  subst aL;have af:i=0:=by grind
  subst af;have T:rowNew a.size bytes [qe a e]=some (⟨a.size,[qe a e],0,0,false⟩,1):=if_pos ⟨aD,by show(1:Nat)<_;omega⟩
  have t:yg a.size bytes σ y0 [qe a e]=some (.rs σ.rw.length 0 1 0 false,some {σ with rw:=σ.rw++[⟨a.size,[qe a e],0,0,false⟩]})/\∃p,u0=.slice p 0 0:=by
   obtain rfl|⟨f,rfl,a4⟩:=hy
   .refine⟨?_,none,zp L⟩;simp[yg,F,T]
   .refine⟨?_,?_⟩
    .have e1:(decide (1<f)&&zx a.size a.size&&uni a.size [])=true:=by
       rw[decide_eq_true (show 1<f by omega),show zx a.size a.size=true from decide_eq_true rfl];rfl
     simp[yg,F,e1,show qlG [] [qe a e]=[qe a e]from rfl,T]
    .cases L with
     |sl _ _ _ p n cap b o us s1 s2 s3=>
       have h1:n=0:=by omega
       have h2:=s3 (by omega);subst h1;subst h2;exact⟨p,rfl⟩
  obtain⟨t,p,rfl⟩:=t;let⟨X,w',Γ',g1,K,g3,g4⟩:=qrk hT U L hL O ae t tS;refine Calls.mono (V w p 0 0 ⟨b2,B,none⟩ D X w' (by omega) g1) ?_;rintro e1 w1 ⟨rfl,rfl⟩
  have G:(turn σ (some {σ with rw:=σ.rw++[⟨a.size,[qe a e],0,0,false⟩]})).rw[σ.rw.length]?=some ⟨a.size,[qe a e],0,0,false⟩:=by
   show(σ.rw++_)[σ.rw.length]?=_;rw[List.getElem?_append_right (wa _)];simp
  let⟨W,z1,z2,z3,z4⟩:=qzz U K g3 aj G rfl rfl rfl (qb1 (λ v=>j9 a v) [e]) g4;exact⟨_,W,rfl,z1,z2,z3,z4⟩
theorem qzA{Γ σ w}(J:Inv Γ σ w){a:Ty}{R}(K:σ.rw[0]?=some R)(f:R.k=a.size)(s:R.fz=0/\R.off=false){u0}(z:Rep Γ (.rs 0 0 R.c.length R.ver false) u0)(I:a.size≠1:=by first|assumption|decide):
  ∃p cap,u0=.slice p R.c.length cap/\R.c.length<=cap/\(cap=0\/p=some ⟨Γ.cur 0,0,none⟩/\Γ.sz 0≠0/\∃vs F,Blk w (Γ.cur 0) F vs/\vs.size=Γ.sz 0/\cap*a.size<=vs.size/\jm Γ a.size R.c (vs.toList.take (R.c.length*a.size))/\(vs.toList.take (R.c.length*a.size)).length=R.c.length*a.size/\(∀u∈vs.toList.take (R.c.length*a.size),u.oneCell'=true)):=by
 have H:=J.row 0 R K;cases z with
 |rs _ _ _ _ _ p cap N M m L A=>
 let⟨n,b⟩:=A (H.ver (by omega)).symm;rw[H.off s.2,wG]at n b;refine⟨p,cap,rfl,m,?_⟩;by_cases g:cap=0
 .exact .inl g
 right
 have B:p=some ⟨Γ.cur 0,0,none⟩:=by
  obtain h|h:=n
  .exact absurd h g
  .rw[h,kR]
 subst B;have D:=waI a;have Q:1*a.size<=cap*a.size:=wu _ (by omega);rw[<-H.k,f,wG]at b;have y:Γ.sz 0≠0:=by omega
 let⟨vs,F,frz,l,d,G,o⟩:=H.blk y;obtain rfl:frz=(0,0):=o (by omega)
 have r:jm Γ a.size R.c (vs.toList.take (R.c.length*a.size)):=by
  have P:jm Γ a.size R.c vs.toList:=λ q e j x v t=>by
   let⟨u,u1,u2⟩:=qAr J K s.2 y l q e j x v t;rw[f]at u1;exact⟨u,by rw[Array.getElem?_toList];exact u1,u2⟩
  have:=P.take (λ e E=>(H.len e E).trans f) R.c.length
  rwa [wF]at this
 have C:=λ e E=>(H.len e E).trans f;have O:R.c.length*a.size<=vs.size:=by rw[d];exact wz (wu _ m) b
 have i:(vs.toList.take (R.c.length*a.size)).length=R.c.length*a.size:=by grind
 have S:=qHx C D i (λ q e j x v t=>by let⟨u,u1,u2,u3⟩:=r q e j x v t;exact⟨u,u1,u3⟩);exact⟨rfl,y,vs,F,l,d,by rw[d];exact b,r,i,S⟩
theorem qNb{P N a}(hf:qg0 P N)(F:∀w g m c i et f xs,Blk w g et f->c*a.size<=f.size->f.toList.take ((m+1)*a.size)=xs->(∀u∈xs,u.oneCell'=true)->m<=100000->i<=m->m+1<=c->
   Calls P N #[.slice (some ⟨g,0,none⟩) (m+1) c,.int .i64 i,.int .i64 ((i:Int)+1)] w (qm9 a.size w g f.size m (xs.take (i*a.size)++xs.drop ((i+1)*a.size)))) {fn:List (Val a)->Int->Int->Option (Unit×List (Val a)×Unit)} (Y:∀l i j r,fn l i j=some r->j=i+1/\0<=i/\i<l.length/\l.length<=100000/\r=((),l.take i.toNat++l.drop (i.toNat+1),())) (ac:a.size≠1:=by first|assumption|decide):
  qT P N (sgP ⟨[.row a,.val (.int .i64),.val (.int .i64)],[.one (.row a)],λ x=>fn x.1 x.2.1 x.2.2.1⟩):=by
 refine⟨hf,λ Γ σ w ae ab r X s C=>?_⟩;unfold sgP at C;split at C<;>try cases C
 rename_i x k;split at C<;>cases C;rename_i v0 Q;let⟨l,i,j,_⟩:=x;obtain⟨U,W,v,hl,rfl⟩:=Y _ _ _ _ Q;have U:j=i+1:=U;subst U;obtain⟨i,rfl⟩:=vy W;have v:i<l.length:=Int.ofNat_lt.1 v;have hl:l.length<=100000:=hl;obtain⟨y0,ah,nr,rfl,L,k⟩:=qv2 k;obtain⟨y1,ag,rfl,K,k⟩:=qoS k;obtain⟨y2,af,rfl,J,k⟩:=qoS k;obtain⟨rfl,Z,ai⟩:=qlL k;obtain⟨u0,r0,rfl,S,s⟩:=s.uncons;obtain⟨u1,r1,rfl,o,s⟩:=s.uncons;obtain⟨u2,r2,rfl,n,s⟩:=s.uncons;have:=s.nil_inv;subst this;have o:=zp (qlp K o);subst o;have n:=zp (qlp J n);subst n;have aa:=wi Z.symm;obtain⟨T,R,rfl,hR,y,z,A⟩|⟨T,t,hy⟩:=qhX L
 .have H:=X.row 0 R hR;have aj:R.c.length=l.length:=zb A;have d:=λ e he=>(H.len e he).trans y;obtain⟨p,cap,rfl,ad,h|⟨rfl,hz,vs,et,O,B,E,I,M,h1⟩⟩:=qzA X hR y z S
  .omega
  .obtain⟨m,hm⟩:∃m,R.c.length=m+1:=⟨R.c.length-1,by omega⟩
   have V:(i+1)*a.size<=R.c.length*a.size:=wu _ (by omega);have D:=F w (Γ.cur 0) m cap i et vs _ O E (by grind) h1 (by omega) (by omega) (by omega);rw[<-hm,B]at D
   have G:zl (qL a) (R.c.take i++R.c.drop (i+1))=some (l.take ((i:Nat):Int).toNat++l.drop (((i:Nat):Int).toNat+1)):=by
    rw[kL];exact qab (qh9 i A) (qfl (i+1) A)
   refine qk1 X aa hR y z.1 z.2 hz ?_ G (λ q b=>?_) (λ q b=>?_) ?_ D
   .rw[kL];simp;omega
   .obtain b|b:=wj.1 b
    .exact d q (wQ b)
    .exact d q (wP b)
   .obtain b|b:=wj.1 b
    .exact H.plain q (wQ b)
    .exact H.plain q (wP b)
   .refine jm.app (I.take d i) (I.drop (i+1)) ?_ λ q b=>d q (wQ b);rw[kS]at V;rw[wo,M,wo,kw (by omega),kw (by omega)]
 .have t:=t;subst t;exact absurd v (wN _)
theorem qxK{P:Program}{N:FuncId}{a:Ty}(U:qg0 P N){most:Nat}
  (k:∀(w:World) (p:Option Addr) (n c:Nat) (xs:List Value),xs.length=n*a.size->(n=0\/∃ad,p=some ad/\∀j u,xs[j]?=some u->w.cell? (ad.add j)=some u)->(∀u∈xs,u.oneCell'=true)->n<=most->Calls P N #[.slice p n c] w λ e w'=>∃v,e=.returned v/\Fresh w a.size n xs v w')
  {fn:List (Val a)->Option (Unit×List (Val a)×Unit)} (F:∀l r,fn l=some r->l.length<=most/\r=((),l,())):
  qT P N (sgP ⟨[.val (.list a)],[.one (.row a)],λ x=>fn x.1⟩):=by
 refine⟨U,λ Γ σ w L J r E C g=>?_⟩;unfold sgP at g;split at g<;>try cases g
 rename_i x y;split at g<;>cases g;rename_i X z;let⟨l,_⟩:=x;obtain⟨s,rfl⟩:=F _ _ z;have s:l.length<=most:=s;obtain⟨W,M,rfl,t,y⟩:=qoS y;obtain⟨rfl,G,B⟩:=qlL y;obtain⟨u0,Y,rfl,A,C⟩:=C.uncons;have:=C.nil_inv;subst this;have m:σ.bx=[]:=wi G.symm;have d:σ.rw=[]:=wi B.symm;have V:Rep Γ (.sl a.size (l.map (qe a)) 1) u0:=qlp t A;obtain⟨p,n,c,rfl,Z,I⟩:=qEj E (qwr l) V;have D:l.length=n:=by rw[<-I.len,wE]
 subst D;obtain q|⟨b,o,rfl,H⟩:=I.at_
 .have h:l.length=0:=by rw[<-wE (f:=qe a),q];rfl
  refine qnU (xs:=[]) E m d (λ i e j x K=>by rw[q]at K;cases K) ?_;exact k w p l.length c [] (by rw[h];simp) (.inl h) (λ u T=>by cases T) s
 .let⟨xs,S,R,Q,O⟩:=qhL (Γ:=Γ) (waI a) I.size H;refine qnU (xs:=xs) E m d O ?_;exact k w _ l.length c xs (by rw[S,wE]) (.inr ⟨_,rfl,R⟩) Q s
theorem qQL{σ:St}{r:List SA}{nb c:Nat}{ys:List AV}{a:qaJ (.nil::r)}(h:dS σ (.nil::r) nb c ys=some a):∃b,ys=.v (.slice none 0 0)::b/\dS σ r nb c b=some a:=by
 cases ys with
 |nil=>simp[dS]at h
 |cons y ys=>
   grind [dS,qAM]
theorem qL1{P:Program}{N:FuncId}{a:Ty}(C:qg0 P N){most:Nat}
  (B:∀(w:World) (n:Nat),n<=most->Calls P N #[.slice none 0 0,.int .i64 n] w λ e w'=>∃v,e=.returned v/\Fresh w a.size 0 [] v w')
  {fn:Int->Option (Unit×List (Val a)×Unit)} (q:∀n r,fn n=some r->0<=n/\n<=most/\r=((),[],())):
  qT P N (sgP ⟨[.nil,.val (.int .i64)],[.one (.row a)],λ x=>fn x.1⟩):=by
 refine⟨C,λ Γ σ w u t r A g h=>?_⟩;unfold sgP at h;split at h<;>try cases h
 rename_i x f;split at h<;>cases h;rename_i E m;obtain⟨z,rfl,f⟩:=qQL f;let⟨n,_⟩:=x;obtain⟨p,d,rfl⟩:=q _ _ m;obtain⟨n,rfl⟩:=vy p;have d:n<=most:=Int.ofNat_le.1 d;obtain⟨y1,y,rfl,k,f⟩:=qoS f;obtain⟨rfl,s,o⟩:=qlL f;obtain⟨u0,G,rfl,c,g⟩:=g.uncons;obtain⟨u1,F,rfl,b,g⟩:=g.uncons;have:=g.nil_inv;subst this;have c:=zp c;subst c;have b:=zp (qlp k b);subst b;exact qnU (a:=a) (l:=[]) (xs:=[]) A (wi s.symm) (wi o.symm) (λ i e j x D=>by cases D) (B w n d)
end Go.AmZ
namespace Go.Proofs.YtinbdcelmgfniaaGreatDoor
open Go.RowKit Go.GxZ Go.BigFrame
theorem qHu:(Tryz.prog.info? 157).map (λ i=>(i.zero,i.size,i.bytes))=some (some (.agg #[.int .i64 0,.string ⟨#[]⟩,.int .i64 0,.slice none 0 0,.int .i64 0]),5,64):=by kernel_rfl
theorem qPW(w:World):(sizeOf 157).run Tryz.prog w=.ok 5 w:=by kernel_rfl
theorem qCS:(Tryz.prog.info? 157).map (·.size)=some 5:=by kernel_rfl
set_option maxHeartbeats 4000000 in
set_option maxRecDepth 100000 in
theorem insert_endPow(w:World)(p:Option Addr)(n c:Nat)(ad:Addr)(f:Nat)(b:Value)(w':World)(i:n<=100000)(d:(Builtin.append_ #[134,134] 134 #[.slice p n c,.slice (some ad) 1 f]).run Tryz.prog w = .ok b w') :
  Calls Tryz.prog 225 #[.slice p n c,.int .i64 n,.slice (some ad) 1 f] w λ e g=>e = .returned b/\g=w':=by
 have h:=Lib.hid d;clear d
 go_enter Tryz.func225,Tryz.ntmps225
 go_wp2_with (at_builtin;refine Lib.wpList_append_run _ rfl _ _ _ _ rfl _ _ rfl rfl _ _ h.out ?_)
 all_goals
  go_ret
  first
   | exact⟨rfl,rfl⟩
   | (have a:c=n:=by assumption
      subst a;exact⟨rfl,rfl⟩)
set_option maxHeartbeats 4000000 in
set_option maxRecDepth 100000 in
theorem insert_roomPow (w:World) (g n c i:Nat) (et:TypeId) (cur:Array Value) (xs:List Value) (hbk:Blk w g et cur) (hcs:c*5<=cur.size) (hx:cur.toList.take (n*5)=xs) (hone:∀u∈xs,u.oneCell'=true)
  (g2 o2 c2:Nat) (ys:List Value) (hy:ys.length=5) (hys:∀j u,ys[j]?=some u->w.cell? ⟨g2,o2+j,none⟩=some u) (h1:∀u∈ys,u.oneCell'=true) (hne:g2≠g) (hn:n<=100000) (hi:i<n) (hroom:n+1<=c):
  Calls Tryz.prog 225 #[.slice (some ⟨g,0,none⟩) n c,.int .i64 i,.slice (some ⟨g2,o2,none⟩) 1 c2] w (qm9 5 w g cur.size (n+1) (xs.take (i*5)++ys++xs.drop (i*5))):=by
 have hlc:cur.toList.length=cur.size:=by simp
 have hnc:(n+1)*5<=c*5:=wu _ hroom;have hik:(i+1)*5<=n*5:=wu _ hi;have hxl:xs.length=n*5:=by rw [<-hx,wo];omega
 obtain ⟨tA,kA,hsA,hkA⟩:∃t k,w.shape? g2=some (t,k)/\k≠0:=by
  cases hy0:ys[0]? with
  |none=>rw [List.getElem?_eq_none_iff]at hy0;omega
  |some u=>exact qKc (a:=⟨g2,o2+0,none⟩) rfl (hys 0 u hy0)
 have hov:∀lb cb,(callFunc 239 #[.slice (some ⟨g2,o2,none⟩) 1 c2,.slice (some ⟨g,(i+1)*5,none⟩) lb cb]).run Tryz.prog w=.ok (.value (.bool false)) w:=λ lb cb=>by
  rw [run_callFunc_extern Tryz.func239 (by kernel_rfl) (by kernel_rfl) (by kernel_rfl) (e:=Extern.SlicesOverlaps.overlaps #[134,134] #[4]) (by kernel_rfl),
   qxb w 134 4 157 Tryz.underlying134 5 qPW ⟨g2,o2,none⟩ ⟨g,(i+1)*5,none⟩ 1 c2 lb cb hne tA et kA cur.size
    hsA hkA (by unfold Blk at hbk;simp [World.shape?,hbk]) (hbk.free _) (hbk.free _)]
  rfl
 have hin:((i:Int)==(n:Int))=false:=by simp;omega
 have hb1:¬ (c=i+1):=by omega
 have hb2:¬ (c=i):=by omega
 have hlen1:(xs.drop (i*5)).length=n*5-i*5:=by rw [w7,hxl]
 have HD1:Hid ((xs.drop (i*5)).length=Nat.min (n+1-i) (n-i)*5):=by
  have hm:Nat.min (n+1-i) (n-i)=n-i:=Nat.min_eq_right (by omega);show _=_;rw [hlen1,hm,waq]
 have HS1:Hid (∀(j:Nat) (v:Value),(xs.drop (i*5))[j]?=some v->w.drew.cell? ((⟨g,i*5,none⟩:Addr).add j)=some v):=λ j v hj=>by
  have e1:(⟨g,i*5,none⟩:Addr).add j=⟨g,i*5+j,none⟩:=by unfold Addr.add;split<;>simp_all
  rw [e1];show w.cell? _=_;rw [hbk.cell,<-Array.getElem?_toList];rw [List.getElem?_drop,<-hx,List.getElem?_take]at hj;split at hj
  .exact hj
  .cases hj
 have HF1:Hid ((i+1)*5+(xs.drop (i*5)).length<=cur.size):=by show _<=_;rw [hlen1];omega
 have HO1:Hid (∀v∈xs.drop (i*5),v.oneCell'=true):=λ v hv=>hone v (wP hv);have hBK1:Hid (Blk w.drew g et cur):=hbk;obtain ⟨c1,hc1⟩:∃c1,c1=cur.toList.take ((i+1)*5)++xs.drop (i*5)++cur.toList.drop ((i+1)*5+(xs.drop (i*5)).length):=⟨_,rfl⟩
 obtain ⟨k1,k2,k3⟩:=qOK 5 cur.toList xs ys i n hx (by rw [hlc];omega) (by omega) hy c1 (by rw [hc1,kS]);have HC1:=Lib.hid hc1;have K1:=Lib.hid k1;have K2:=Lib.hid k2;have K3:=Lib.hid k3;have HLC:=Lib.hid hlc;have HY:=Lib.hid hy
 have HY1:Hid (ys.length=Nat.min 1 (n+1-i)*5):=by
  have hm:Nat.min 1 (n+1-i)=1:=kw (by omega);show _=_;rw [hy,hm]
 have HF2:Hid (i*5+ys.length<=c1.toArray.size):=by show _<=_;rw [hy];simp only [kr];rw [k1,hlc];omega
 have HYS:=Lib.hid hys;have HCS:=Lib.hid hcs;have H1:=Lib.hid h1;have HNE:=Lib.hid hne;have HNC:=Lib.hid hnc;have hlt:=lt_of_block hbk;have hov':=hov;clear hxl hlc hov hx hone hcs hbk hys hy h1 hne hlen1 hc1 k1 k2 k3 hsA hkA hnc hik;have HOV:=Lib.hid hov'
 go_enter Tryz.func225,Tryz.ntmps225
 go_upto_region 15 with (simp only [hov'])
 clear hov';have hw1:IntKind.i64.wrap ((i:Int)+1)=(i:Int)+1:=IntWalk.i64_in _ (by omega);have hw2:(0:Int)<=(i:Int)+1:=by omega
 have hw3:((i:Int)+1).toNat=i+1:=by omega
 have hw4:(i:Int)+1<=(n:Int)+1:=by omega
 have hw5:(i:Int)<=(n:Int)+1:=by omega
 go_region_law (refine qwd rfl (.tmp 73) (.tmp 76) 134 134 rfl 157 5 Tryz.underlying134 qCS g ((i+1)*5) (n-i) (c-(i+1)) ⟨g,i*5,none⟩ (n+1-i) (c-i) (by simp [Act.eval,Act.put]) (by simp [Act.eval,Act.put]) cur et hBK1.out (xs.drop (i*5)) HD1.out HS1.out HF1.out HO1.out ?_;intro w4 hw4;have HW4:=Lib.hid hw4;clear hw4)
 all_goals
  have HW5:Hid (qng w.drew w4 g et c1):=by show qng _ _ _ _ _;rw [HC1.out];exact HW4.out
  have HB4:Hid (Blk w4 g et c1.toArray):=HW5.out.blk
  have HSY:Hid (∀(j:Nat) (v:Value),ys[j]?=some v->w4.cell? ((⟨g2,o2,none⟩:Addr).add j)=some v):=λ j v hj=>by
   have e1:(⟨g2,o2,none⟩:Addr).add j=⟨g2,o2+j,none⟩:=by unfold Addr.add;split<;>simp_all
   rw [e1,show w4.cell? _=w.cell? _ from World.cell?_of_block (HW5.out.other g2 HNE.out)];exact HYS.out j v hj
  clear hw1 hw2 hw3 hw4 HW4
  obtain ⟨w6,hcp,hw6⟩:∃w6,(∀ty,(Builtin.copy_ #[134,134] ty #[.slice (some ⟨g,i*5,none⟩) (n+1-i) (c-i),.slice (some ⟨g2,o2,none⟩) 1 c2]).run Tryz.prog w4=.ok (goInt (Nat.min 1 (n+1-i))) w6)/\qng w4 w6 g et (c1.toArray.toList.take (i*5)++ys++c1.toArray.toList.drop (i*5+ys.length)):=
   ⟨_,λ ty=>qsM w4 134 134 ty 157 5 g (i*5) (n+1-i) (c-i) ⟨g2,o2,none⟩ 1 c2 c1.toArray et ys Tryz.underlying134 qCS HB4.out HY1.out HSY.out HF2.out H1.out,qhD HB4.out _⟩
  have HW6:=Lib.hid hw6;clear hw6
  go_wp2_with (simp only [hcp])
  go_ret
  have h6:=HW6.out;have h5:=HW5.out;have hblk:=h6.blk;have k2:=K2.out;have hlc:=HLC.out;refine ⟨g,c,_,et,rfl,hblk,hroom,?_,?_,.inl ⟨rfl,?_⟩,h6.os.trans h5.os,h6.tape.trans h5.tape,h6.output.trans h5.output,?_,?_,λ k _ hk=>(h6.other k hk).trans (h5.other k hk)⟩
  .rw [kr];exact wz HCS.out (vw (by rw [k2,hlc]))
  .rw [kS];exact K3.out.trans (wn _ _ _)
  .rw [kr,k2,hlc]
  .rw [h6.size,h5.size];exact wa _
  .rw [h6.drawn,h5.drawn];exact ke _
set_option maxHeartbeats 4000000 in
set_option maxRecDepth 100000 in
theorem insert_growPow (w:World) (g n i:Nat) (et:TypeId) (cur:Array Value) (xs:List Value) (hbk:Blk w g et cur) (hcs:n*5<=cur.size) (hx:cur.toList.take (n*5)=xs) (hone:∀u∈xs,u.oneCell'=true)
  (g2 o2 c2:Nat) (ys:List Value) (hy:ys.length=5) (hys:∀j u,ys[j]?=some u->w.cell? ⟨g2,o2+j,none⟩=some u) (h1:∀u∈ys,u.oneCell'=true) (hn:n<=100000) (hi:i<n):
  Calls Tryz.prog 225 #[.slice (some ⟨g,0,none⟩) n n,.int .i64 i,.slice (some ⟨g2,o2,none⟩) 1 c2] w (qm9 5 w g cur.size (n+1) (xs.take (i*5)++ys++xs.drop (i*5))):=by
 have hlc:cur.toList.length=cur.size:=by simp
 have hik:(i+1)*5<=n*5:=wu _ hi;have hxl:xs.length=n*5:=by rw [<-hx,wo];omega
 have hg:=lt_of_block hbk
 have hg2:g2<w.heap.size:=by
  cases hy0:ys[0]? with
  |none=>rw [List.getElem?_eq_none_iff]at hy0;omega
  |some u=>
    have:=hys 0 u hy0;unfold World.cell? at this;split at this
    .rename_i hh;exact (Array.getElem?_eq_some_iff.1 hh).1
    .cases this
 obtain ⟨i0,hi0,hz0,hz1,hz2⟩:=info_parts qHu;have hadd:∀(b o j:Nat),(⟨b,o,none⟩:Addr).add j=⟨b,o+j,none⟩:=λ b o j=>by unfold Addr.add;split<;>simp_all
 have hcx:∀(W:World),Blk W g et cur->∀(o j:Nat) (v:Value),(xs.drop o)[j]?=some v->W.cell? ((⟨g,o,none⟩:Addr).add j)=some v:=λ W hW o j v hj=>by
  rw [hadd,hW.cell,<-Array.getElem?_toList];rw [List.getElem?_drop,<-hx,List.getElem?_take]at hj;split at hj
  .exact hj
  .cases hj
 have hold:(Builtin.firstCells i0.size i (.slice (some ⟨g,0,none⟩) i n)).run Tryz.prog w.drew=.ok (xs.take (i*5)).toArray w.drew:=by
  rw [hz1];refine run_firstCells_some w.drew 5 i ⟨g,0,none⟩ i n (xs.take (i*5)) (by rw [wo,hxl];omega) λ j v hj=>?_;refine hcx w.drew hbk 0 j v ?_;rw [List.getElem?_take]at hj;split at hj
  .simpa using hj
  .cases hj
 have hk:i+(n+1-i)=n+1:=by omega
 have hG1:n+1<=grownCap w (n+1) n 157:=grownCap_ge w _ _ _;have hG2:grownCap w (n+1) n 157<=maxLen:=grownCap_le_maxLen w _ _ _ (by unfold maxLen;omega)
 obtain ⟨w1,G,new,hr,hb1,hbk1,hnl,hnt,hG3,hG4,hw1s,hw1d⟩:∃(w1:World) (G:Nat) (new:List Value),(∀ty,(Builtin.append_ #[134,3] ty #[.slice (some ⟨g,0,none⟩) i n,.int .i64 ((n:Int)+1-(i:Int))]).run Tryz.prog w=.ok (.slice (some ⟨w.heap.size,0,none⟩) (n+1) G) w1)/\
   Below w.heap.size w w1/\Blk w1 w.heap.size 157 new.toArray/\new.length=G*5/\new.take (i*5)=xs.take (i*5)/\n+1<=G/\G<=maxLen/\w.heap.size<w1.heap.size/\w.drawn<=w1.drawn:=by
  have hr:∀ty,_:=λ ty=>Lib.run_append_grow_zeros w 134 3 ty 157 i0 _ .i64 .i64 Tryz.underlying134 Tryz.underlying3 hi0 hz0 (some ⟨g,0,none⟩) i n (xs.take (i*5)) hold (n+1-i) (by omega) (by rw [hz1];decide) (by omega) (by omega) (by rw [hz2];omega) (by rw [hk,hz2];exact growslice_fits (by omega) (by omega));rw [hk]at hr;obtain ⟨NEW,hNEW⟩:∃N:Array Value,N=(xs.take (i*5)).toArray++Builtin.zeroCells (Value.cells (.agg #[.int .i64 0,.string ⟨#[]⟩,.int .i64 0,.slice none 0 0,.int .i64 0])) (n+1-i)++Builtin.zeroCells (Value.cells (.agg #[.int .i64 0,.string ⟨#[]⟩,.int .i64 0,.slice none 0 0,.int .i64 0])) (grownCap w (n+1) n 157-(n+1)):=⟨_,rfl⟩
  rw [<-hNEW]at hr;refine ⟨w.drew.alloc (.cells NEW 157),grownCap w (n+1) n 157,NEW.toList,λ ty=>?_,?_,?_,?_,?_,hG1,hG2,?_,ke _⟩
  .rw [show (n:Int)+1-(i:Int)=((n+1-i:Nat):Int) by omega];exact hr ty
  .exact ((Below.refl _ _).drew).alloc (wa _) _
  .rw [ve];exact heap_alloc_new w.drew _
  .rw [wR,hNEW,xJ,xJ,size_zeroCells,size_zeroCells,show (Value.cells (.agg #[.int .i64 0,.string ⟨#[]⟩,.int .i64 0,.slice none 0 0,.int .i64 0])).size=5 from rfl,kr,wo,hxl];have:i*5+(n+1-i)*5+(grownCap w (n+1) n 157-(n+1))*5=grownCap w (n+1) n 157*5:=by rw [<-wU,<-wU];congr 1;omega
   omega
  .rw [hNEW,xn,xn,wn,kT (by simp [hxl];omega),xG];congr 1;omega
  .simp
 have hgb:∀k,k<w.heap.size->w1.heap[k]?=w.heap[k]?:=hb1.block;have hbkg1:Blk w1 g et cur:=hbk.same (hgb g hg);have hGn:(n+1)*5<=G*5:=wu _ hG3;have hm1:Nat.min 1 (n+1-i)=1:=kw (by omega);obtain ⟨c1,hc1⟩:∃c1,c1=new.take (i*5)++ys++new.drop (i*5+ys.length):=⟨_,rfl⟩
 obtain ⟨k1,k2,k3⟩:=qPT 5 new xs ys i n hnt hxl (by omega) (by omega) hy c1 hc1
 obtain ⟨w3,hcp,hw3⟩:∃w3,(∀ty,(Builtin.copy_ #[134,134] ty #[.slice (some ⟨w.heap.size,i*5,none⟩) (n+1-i) (G-i),.slice (some ⟨g2,o2,none⟩) 1 c2]).run Tryz.prog w1=.ok (goInt (Nat.min 1 (n+1-i))) w3)/\qng w1 w3 w.heap.size 157 c1:=
  ⟨_,λ ty=>qsM w1 134 134 ty 157 5 w.heap.size (i*5) (n+1-i) (G-i) ⟨g2,o2,none⟩ 1 c2 new.toArray 157 ys Tryz.underlying134 qCS hbk1 (by rw [hm1];omega) (λ j v hj=>by rw [hadd,show w1.cell? _=w.cell? _ from World.cell?_of_block (hgb g2 hg2)];exact hys j v hj) (by rw [kr];omega) h1,by rw [hc1];exact qhD hbk1 _⟩
 have hbkg3:Blk w3 g et cur:=hbkg1.same (hw3.other g (by omega));have hmm:Nat.min (n-i) (n-i)=n-i:=kw (wa _);have HD1:Hid ((xs.drop (i*5)).length=Nat.min (n-i) (n-i)*5):=by show _=_;rw [w7,hxl,hmm,waq]
 have HS1:Hid (∀(j:Nat) (v:Value),(xs.drop (i*5))[j]?=some v->w3.drew.cell? ((⟨g,i*5,none⟩:Addr).add j)=some v):=hcx w3.drew hbkg3 (i*5);have HF1:Hid ((i+1)*5+(xs.drop (i*5)).length<=c1.toArray.size):=by show _<=_;rw [w7,hxl,kr,k1,hnl];omega
 have HO1:Hid (∀v∈xs.drop (i*5),v.oneCell'=true):=λ v hv=>hone v (wP hv);have hBK1:Hid (Blk w3.drew w.heap.size 157 c1.toArray):=hw3.blk;have HW3:=Lib.hid hw3;have HB1:=Lib.hid hb1;have K2:Hid ((c1.take ((i+1)*5)++xs.drop (i*5)++c1.drop ((i+1)*5+(xs.drop (i*5)).length)).length=G*5):=by show _=_;rw [kS];exact k2.trans hnl
 have K3:Hid ((c1.take ((i+1)*5)++xs.drop (i*5)++c1.drop ((i+1)*5+(xs.drop (i*5)).length)).take ((n+1)*5)=xs.take (i*5)++ys++xs.drop (i*5)):=by show _=_;rw [kS,kS];exact k3
 have HG4:=Lib.hid hG4;have HR:=Lib.hid hr;have HCP:=Lib.hid hcp;have hin:((i:Int)==(n:Int))=false:=by simp;omega
 have hb0:¬ (n=i):=by omega
 have hb2:¬ (G=i):=by omega
 have hb3:¬ (G=i+1):=by omega
 have hg63:(G:Int)<=9223372036854775807:=by unfold maxLen at hG4;omega
 clear hlc hxl hi0 hz0 hz1 hz2 hadd hcx hold hk hG1 hG2 hr hb1 hbk1 hnl hnt hG4 hgb hbkg1 hm1 hc1 k1 k2 k3 hcp hw3 hbkg3 hmm hbk hcs hx hone hy hys h1 hik hGn
 go_enter Tryz.func225,Tryz.ntmps225
 go_upto_region 10 with (at_builtin;refine Lib.wpList_append_run _ rfl _ _ _ _ rfl _ _ rfl rfl _ _ (HR.out _) ?_)
 have hcp:=HCP.out
 go_upto_region 11 with (simp only [hcp])
 clear hcp;have hw1:IntKind.i64.wrap ((i:Int)+1)=(i:Int)+1:=IntWalk.i64_in _ (by omega);have hw2:(0:Int)<=(i:Int)+1:=by omega
 have hw3:((i:Int)+1).toNat=i+1:=by omega
 have hw4:(i:Int)+1<=(n:Int)+1:=by omega
 have hw5:(i:Int)<=(n:Int):=by omega
 go_region_law (refine qwd rfl (.tmp 50) (.tmp 53) 134 134 rfl 157 5 Tryz.underlying134 qCS w.heap.size ((i+1)*5) (n-i) (G-(i+1)) ⟨g,i*5,none⟩ (n-i) (n-i) (by simp [Act.eval,Act.put]) (by simp [Act.eval,Act.put]) c1.toArray 157 hBK1.out (xs.drop (i*5)) HD1.out HS1.out HF1.out HO1.out ?_;intro w6 hw6;have HW6:=Lib.hid hw6;clear hw6)
 all_goals
  clear hw1 hw2 hw3 hw4
  go_wp2_with fail
  go_ret
  have h6:=HW6.out;have h5:=HW3.out;have h0:=HB1.out;have hblk:=h6.blk;have k3:=K3.out;have k2:=K2.out;refine ⟨w.heap.size,G,_,_,rfl,hblk,hG3,?_,k3.trans (wn _ _ _),.inr (wa _),h6.os.trans (h5.os.trans h0.os),h6.tape.trans (h5.tape.trans h0.tape),h6.output.trans (h5.output.trans h0.output),?_,?_,λ k hkl _=>?_⟩
  .rw [kr];exact vw k2.symm
  .rw [h6.size];show w.heap.size<=w3.heap.size;rw [h5.size];exact h0.size
  .rw [h6.drawn];show w.drawn<=w3.drawn+1;rw [h5.drawn];exact Nat.le_succ_of_le hw1d
  .exact (h6.other k (by omega)).trans ((h5.other k (by omega)).trans (h0.block k hkl))
theorem qQI(w:World):(zeroValue 157).run Tryz.prog w=.ok (.agg #[.int .i64 0,.string ⟨#[]⟩,.int .i64 0,.slice none 0 0,.int .i64 0]) w:=by kernel_rfl
theorem qGp:(Builtin.zeroCells (Value.cells (.agg #[.int .i64 0,.string ⟨#[]⟩,.int .i64 0,.slice none 0 0,.int .i64 0])) 1).toList=(Value.cells (.agg #[.int .i64 0,.string ⟨#[]⟩,.int .i64 0,.slice none 0 0,.int .i64 0])).toList:=by kernel_rfl
theorem qGV:∀v∈(Builtin.zeroCells (Value.cells (.agg #[.int .i64 0,.string ⟨#[]⟩,.int .i64 0,.slice none 0 0,.int .i64 0])) 1).toList,v.oneCell'=true:=by
 rw[qGp];decide
set_option maxHeartbeats 4000000 in
set_option maxRecDepth 100000 in
theorem delete_onePow (w:World) (g m c i:Nat) (et:TypeId) (cur:Array Value) (xs:List Value) (hbk:Blk w g et cur) (hcs:c*5<=cur.size) (hx:cur.toList.take ((m+1)*5)=xs) (hone:∀u∈xs,u.oneCell'=true)
  (hn:m<=100000) (hi:i<=m) (hroom:m+1<=c):
  Calls Tryz.prog 226 #[.slice (some ⟨g,0,none⟩) (m+1) c,.int .i64 i,.int .i64 ((i:Int)+1)] w (qm9 5 w g cur.size m (xs.take (i*5)++xs.drop ((i+1)*5))):=by
 have hlc:cur.toList.length=cur.size:=by simp
 have hmc:(m+1)*5<=c*5:=wu _ hroom;have him:i*5<=m*5:=wu _ hi;have hxl:xs.length=(m+1)*5:=by rw [<-hx,wo,hlc];omega
 have hadd:∀(b o j:Nat),(⟨b,o,none⟩:Addr).add j=⟨b,o+j,none⟩:=λ b o j=>by unfold Addr.add;split<;>simp_all
 have hcell:∀(o j:Nat) (v:Value),(xs.drop o)[j]?=some v->w.drew.cell? ⟨g,o+j,none⟩=some v:=λ o j v hj=>by
  show w.cell? _=_;rw [hbk.cell,<-Array.getElem?_toList];rw [List.getElem?_drop,<-hx,List.getElem?_take]at hj;split at hj
  .exact hj
  .cases hj
 obtain ⟨i0,hi0,hz0,hz1,hz2⟩:=info_parts qHu;have hdl:(xs.drop ((i+1)*5)).length=(m-i)*5:=by rw [w7,hxl,<-waq];congr 1;omega
 have hdl':(m-i)*5=m*5-i*5:=waq ..
 obtain ⟨A,hA,HN⟩:∃A:Addr,(if c=i+1 then some (⟨g,0,none⟩:Addr)else some ⟨g,(i+1)*5,none⟩)=some A/\Hid (∀j u,(xs.drop ((i+1)*5))[j]?=some u->w.drew.cell? (A.add j)=some u):=by
  by_cases h:c=i+1
  .refine ⟨_,if_pos h,λ j u hj=>?_⟩;have:=(List.getElem?_eq_some_iff.1 hj).1;rw [hdl]at this;have:m-i=0:=by omega
   simp [this]at*
  .exact ⟨_,if_neg h,λ j u hj=>by rw [hadd];exact hcell _ j u hj⟩
 have HDL:=Lib.hid hdl;have HO1:Hid (∀u∈xs.drop ((i+1)*5),u.oneCell'=true):=λ v hv=>hone v (wP hv)
 have HSP:Hid (∀j,j<(xs.drop ((i+1)*5)).length->(w.drew.cell? ⟨g,0+i*5+j,none⟩).isSome=true/\w.drew.frozen? ⟨g,0+i*5+j,none⟩=false):=λ j hj=>by
  rw [hdl]at hj;refine ⟨?_,hbk.free _⟩;show (w.cell? _).isSome=true;rw [hbk.cell,Array.getElem?_eq_getElem (by omega)];rfl
 have hBKd:Blk w.drew g et cur:=hbk;have hw0:=qoO g et (xs.drop ((i+1)*5)) (0+i*5) w.drew cur hBKd (by rw [hdl];omega);obtain ⟨w2,hw2⟩:∃w2,w2=w.drew.setCells g (0+i*5) (xs.drop ((i+1)*5)):=⟨_,rfl⟩
 rw [<-hw2]at hw0;obtain ⟨c1,hc1⟩:∃c1,c1=cur.toList.take (0+i*5)++xs.drop ((i+1)*5)++cur.toList.drop (0+i*5+(xs.drop ((i+1)*5)).length):=⟨_,rfl⟩
 rw [<-hc1]at hw0;have hl1:c1.length=cur.size:=by rw [hc1];simp only [wd,wo,w7,hlc,hdl];simp only [w7]at hdl;omega
 have ht1:c1.take (m*5)=xs.take (i*5)++xs.drop ((i+1)*5):=by
  have e1:cur.toList.take (0+i*5)=xs.take (i*5):=by rw [<-hx,xG];congr 1;omega
  rw [hc1,e1,kT (by simp only [wd,wo,hdl,hxl];omega),kV (by simp only [wd,wo,hdl,hxl];omega)]
 have hzl:(Builtin.zeroCells (Value.cells (.agg #[.int .i64 0,.string ⟨#[]⟩,.int .i64 0,.slice none 0 0,.int .i64 0])) 1).toList.length=5:=by rw [wR,size_zeroCells];rfl
 obtain ⟨w3,hcl,hw3⟩:∃w3,(∀ty,(Builtin.clear_ #[134] ty #[.slice (some ⟨g,m*5,none⟩) 1 (c-m)]).run Tryz.prog w2=.ok (.tuple #[]) w3)/\qng w2 w3 g et (c1.toArray.toList.take (m*5)++(Builtin.zeroCells (Value.cells (.agg #[.int .i64 0,.string ⟨#[]⟩,.int .i64 0,.slice none 0 0,.int .i64 0])) 1).toList++c1.toArray.toList.drop (m*5+(Builtin.zeroCells (Value.cells (.agg #[.int .i64 0,.string ⟨#[]⟩,.int .i64 0,.slice none 0 0,.int .i64 0])) 1).toList.length)):=
  ⟨_,λ ty=>qwf w2 134 157 ty _ Tryz.underlying134 qQI g (m*5) 1 (c-m) (by omega) c1.toArray et hw0.blk (by
   show m*5+1*5<=c1.toArray.size;rw [kr,hl1];omega) qGV,qhD hw0.blk _⟩
 have HW0:=Lib.hid hw0;have HW2:=Lib.hid hw2;have HW3:=Lib.hid hw3;have HCL:=Lib.hid hcl;have HT1:=Lib.hid ht1;have HL1:=Lib.hid hl1;have HZL:=Lib.hid hzl;have HI:=Lib.hid hi0;have HZ1:=Lib.hid hz1;have HCS:=Lib.hid hcs;have HMC:=Lib.hid hmc;have hlt:=lt_of_block hbk;have hc1:¬ (m+1=i):=by omega
 have hc2:¬ (c=m):=by omega
 have hf1:((i:Int)==(i:Int)+1)=false:=by simp;omega
 have hrm:i+(m-i)<=c:=by omega
 have hmi:i+(m-i)=m:=by omega
 have HRM:=Lib.hid hrm;have HMI:=Lib.hid hmi;clear hlc hxl hadd hcell hi0 hz0 hz1 hz2 hdl hBKd hw0 hw2 hl1 ht1 hzl hcl hw3 hcs hx hone hbk hrm hmi hmc him hdl';have hw1:((i:Int)+1).toNat=i+1:=by omega
 have hw4:(i:Int)+1<=(m:Int)+1:=by omega
 have hw5:(i:Int)<=(m:Int)+1:=by omega
 have hw6:(0:Int)<=(i:Int)+1:=by omega
 have hic:i<=c:=by omega
 go_enter Tryz.func226,Tryz.ntmps226
 go_upto_region 5 with (fail)
 go_region_law (refine step_append_room rfl (.tmp 22) (.tmp 25) 134 rfl 157 i0 5 Tryz.underlying134 HI.out HZ1.out g 0 i c (by simp [Act.eval,Act.put]) A (m-i) (c-(i+1)) (xs.drop ((i+1)*5)) (by simp [Act.eval,Act.put]) HDL.out HN.out HO1.out HRM.out HSP.out ?_;rw [<-HW2.out,HMI.out])
 all_goals
  clear hw1 hw4 hw5 hw6 hA;have hcl:=HCL.out
  go_wp2_with (simp only [hcl])
  go_ret
  have h3:=HW3.out;have h0:=HW0.out;have hblk:=h3.blk;have hl1:=HL1.out;have hzl:=HZL.out;have hmc:=HMC.out;have hcs:=HCS.out
  have hsz:(c1.toArray.toList.take (m*5)++(Builtin.zeroCells (Value.cells (.agg #[.int .i64 0,.string ⟨#[]⟩,.int .i64 0,.slice none 0 0,.int .i64 0])) 1).toList++c1.toArray.toList.drop (m*5+(Builtin.zeroCells (Value.cells (.agg #[.int .i64 0,.string ⟨#[]⟩,.int .i64 0,.slice none 0 0,.int .i64 0])) 1).toList.length)).length=cur.size:=by
   show (c1.take (m*5)++_++c1.drop (m*5+_)).length=_;simp only [wd,wo,w7,hl1,hzl];omega
  refine ⟨g,c,_,et,rfl,hblk,by omega,?_,?_,.inl ⟨rfl,?_⟩,h3.os.trans h0.os,h3.tape.trans h0.tape,h3.output.trans h0.output,?_,?_,λ k _ hk=>(h3.other k hk).trans (h0.other k hk)⟩
  .rw [kr,hsz];exact hcs
  .show (c1.take (m*5)++_++c1.drop (m*5+_)).take (m*5)=_;rw [wn,kT (by rw [wo,hl1];omega),xG,Nat.min_self];exact HT1.out
  .rw [kr,hsz]
  .rw [h3.size,h0.size];exact wa _
  .rw [h3.drawn,h0.drawn];exact ke _
end Go.Proofs.YtinbdcelmgfniaaGreatDoor
