/- Part 3 of what the proofs stand on: plain functions of the program, and that they are its functions. -/
import Derived.Test.YtinbdcelmgfniaaGreatDoorM2
import Derived.KernelRfl
import Derived.Test.YtinbdcelmgfniaaGreatDoorProg
import Derived.Test.YtinbdcelmgfniaaGreatDoorM1
import Derived.Shelf.Small.Strs
import Derived.Laws.OwnMore
import Derived.OneCell
import Derived.Deep.DeepAppendRoom
import Derived.Deep.Onto
import Derived.ArgAppend
import Derived.Deep.RegionLaw
import Derived.Laws.CopyOwn
import Derived.Lib.AppendZerosOnto
import Derived.Lib.AppendZeros
import Derived.Lib.Overlaps
import Derived.Laws.Externs
import Derived.Deep.DeepCutAuto
import Derived.Handy
import Derived.IntWalk
set_option linter.unusedVariables false
set_option linter.unusedSimpArgs false
noncomputable section
namespace Go.AmZ
open Go Go.RowKit Go.GxZ
section
variable {α:Type}{N:Nat×Nat}{m:Mp}{E:Env}{τ:TS}{tm:List AV}{σ:St}{K:KT α}{r:α}{p:Option (AV×Option St)}{c:TC}{C:Cfg}
theorem qEk{d:Option TD}{op:BinOp}{x y:TV}{x' f:AV}{n:TV->Option α}(i:OK m x x')(g:OK m y f)(h:qBA d op x y n=some r):
  ∃z v,n z=some r/\OK m z (.v v)/\((∃a b,x'=.v (.bool a)/\f=.v (.bool b)/\qpw d=true/\((op=.eql/\v=.bool (jP a b))\/(op=.neq/\v=.bool (qh (jP a b)))))\/∃a b,x'=.v a/\f=.v b/\(∀p q,¬ (a=.bool p/\b=.bool q))/\qlp op a b=some v):=by
 unfold qBA at h;split at h
 .rename_i k a u b;cases i;cases g;split at h
  .let⟨e,c⟩:=qpM h;exact⟨_,_,c,rfl,.inr ⟨_,_,rfl,rfl,by simp,by simp only[qlp,e]⟩⟩
  .let⟨e,c⟩:=qpM h;exact⟨_,_,c,rfl,.inr ⟨_,_,rfl,rfl,by simp,by simp only[qlp,e]⟩⟩
  .rename_i s o;split at h<;>try cases h
   rename_i t;let⟨z,v,e,c,l⟩:=qEv (m:=m) h;refine⟨z,v,e,l,.inr ⟨_,_,rfl,rfl,by simp,?_⟩⟩;unfold qlp;cases op<;>first|(exact absurd rfl s)|(exact absurd rfl o)|(simp only[t];exact c)
 .cases i;cases g;let⟨z,v,e,c,l⟩:=qEF (m:=m) h;exact⟨z,v,e,l,.inr ⟨_,_,rfl,rfl,by simp,c⟩⟩
 .cases i;cases g;split at h<;>try cases h
  .rename_i j;exact⟨_,_,h,rfl,.inl ⟨_,_,rfl,rfl,j,.inl ⟨rfl,rfl⟩⟩⟩
  .rename_i j;exact⟨_,_,h,rfl,.inl ⟨_,_,rfl,rfl,j,.inr ⟨rfl,rfl⟩⟩⟩
 .cases h
theorem qnW{d:Option TD}(h:qvw d=true):∃a b c z,d=some ⟨a,b,c,z,.ptr⟩:=by
 unfold qvw at h;split at h
 .exact⟨_,_,_,_,rfl⟩
 .cases h
theorem qAS{x y:TV}{x' d:AV}(c:OK m x x')(a:OK m y d){b:Bool}(h:qza x y=some b):
  (b=true/\x'=.v (.pointer none)/\d=.v (.pointer none))\/(b=false/\qml x'=true/\d=.v (.pointer none)):=by
 unfold qza at h;split at h<;>cases h
 .exact .inl ⟨rfl,c.2,a.2⟩
 .obtain⟨_,rfl⟩:=c;exact .inr ⟨rfl,rfl,a.2⟩
 .let⟨R,_,_,_,e,_⟩:=c;obtain⟨r,j,f,rfl⟩|⟨ds,rfl⟩:=e<;>exact .inr ⟨rfl,rfl,a.2⟩
 .obtain⟨ds,rfl,_⟩:=c;exact .inr ⟨rfl,rfl,a.2⟩
theorem qwz:∀(es:List (List AV)) (l:List Int),qH (qm (.int .u8)) es=some l->qm4 es=some (qgZ l)
 |[],l,h=>by cases h;rfl
 |e::es,l,h=>by
   simp only[qH]at h;split at h<;>try cases h
   rename_i v a;split at h<;>cases h;rename_i vs b;have:=qwz es vs b
   have d:e=[.v (.int .u8 v)]:=by
    have a:Qg .u8 e=some (v,[]):=qy.1 a;unfold Qg at a;split at a<;>try cases a
    split at a<;>cases a;rename_i c;have c:=of_decide_eq_true c;subst c;rfl
   subst d;simp only[qm4,qy3,this];rfl
theorem qw1{d:Option TD}(h:qpw d=true):∃a b c z,d=some ⟨a,b,c,z,.bool⟩:=by
 unfold qpw at h;split at h
 .exact⟨_,_,_,_,rfl⟩
 .cases h
theorem qws(E:Env)(tm:List AV)(a:Rel N m E τ tm σ):∀l:List (Nat×Operand),(l.map λ p=>(p.1,evT E p.2)).map (·.1)=(l.map λ p=>(p.1,aev tm p.2)).map (·.1)/\OKL m ((l.map λ p=>(p.1,evT E p.2)).map (·.2)) ((l.map λ p=>(p.1,aev tm p.2)).map (·.2))
 |[]=>⟨rfl,rfl⟩
 |x::l=>⟨by simp,⟨_,_,rfl,a.ev x.2,(qws E tm a l).2⟩⟩
theorem qvF(g:Rel N m E τ tm σ){id a h:Nat}{i:Int}{cs:List TV}{o:Nat}{y:AV}{R:qu}(D:OK m (.rpt id a h i cs o) y)(p:τ.rw[id]?=some R)(H:R.ver=a)(G:R.sv=h):
  (∃r j ds Q,y=.rpt r j o Q.ver/\m.r id=some r/\i=((j:Nat):Int)/\σ.rw[r]?=some Q/\Q.c[j]?=some ds/\OKL m cs ds/\j<R.l.length/\Q.ver=m.v id/\Q.k=R.τ.size/\qH (qm R.τ) Q.c=some R.l/\Q.fz<=Q.c.length/\(R.sh=false->Q.fz=0/\Q.off=false))\/
  ∃ds,y=.ept ds o/\OKL m cs ds/\R.sh=true:=by
 let⟨R',q,_,_,_,I⟩:=D;rw[g.rw,p]at q;cases q;have:=g.rows id R (by rw[g.rw];exact p);obtain⟨r,j,ds,d,f,B,b,e,A⟩|⟨ds,d,f,b,e⟩:=qEc (I H) G
 .rw[d]at this;let⟨Q,z,x,n,w,u,t,s⟩:=this;exact .inl ⟨r,j,ds,Q,by rw[n];exact f,d,B,z,by rw[x];exact e,A,b,n,w,u,t,s⟩
 .rw[d]at this;refine .inr ⟨ds,f,e,?_⟩;cases C:R.sh with
  |true=>rfl
  |false=>
    have F:=this C;rw[F]at b;exact absurd b (xU 0)
theorem qya{b:Type}(f:b->AV):∀(l:List (Nat×b)) (n:Nat),((l.zipIdx n).all λ p=>decide (p.1.1=p.2))=true->(∀q∈l,True)->∀P:AV->Bool,(∀q∈l,P (f q.2)=true)->
  (((l.map λ p=>(p.1,f p.2)).zipIdx n).all λ p=>decide (p.1.1=p.2)&&P p.1.2)=true
 |[],n,_,_,P,_=>rfl
 |a::l,n,h,_,P,c=>by
   simp only[vh,ke,wb,wz]at h |-
   exact⟨⟨h.1,c a (ww ..)⟩,qya f l (n+1) h.2 (λ _ _=>trivial) P λ q d=>c q (wj _ d)⟩
theorem qnZ(f:zU m σ){a:Ty}{E:Env}{tm:List AV}(e:Rel N m E τ tm σ):∀{l:List (Nat×Operand)}{vs:List (Val a)},qnq m.rw a (l.map λ p=>evT E p.2)=some vs->
  ∀p∈l,(cellsOf (aev tm p.2)).length=a.size/\((cellsOf (aev tm p.2)).all λ x=>qk (qB σ.rw x))=true
 |[],vs,h,p,b=>by cases b
 |q::l,vs,h,p,b=>by
   simp only[wz,qnq]at h;split at h<;>try cases h
   rename_i v i;split at h<;>cases h;rename_i c;obtain rfl|b:=wM.1 b
   .have:=(qdl f i (e.ev p.2)).2;let⟨pre,d,k,j,_⟩:=zc a (qy.1 this);rw[wA]at d;refine⟨by rw[<-k,<-d,wx],?_⟩;rw[wo];intro x g;exact j _ (by rw[<-d];exact xb g)
   .exact qnZ f e c p b
theorem qCA(y:List UInt8)(l h:Int):(⟨(qaL y l h).toArray⟩:ByteArray)=quO ⟨y.toArray⟩ l.toNat h.toNat:=by
 unfold qaL quO;rw[ByteArray.ext_iff];simp[ByteArray.data_extract,List.drop_take]
theorem qwO{x:TV}{y:AV}(h:OK m x y)(c:(yv x).all qiv=true):OKL m (yv x) (cellsOf y)/\(cellsOf y).all isC=true/\∀z∈cellsOf y,rsC z=[]:=by
 have b:(yv x).all qeH=true:=by
  rw[wo]at c |-
  intro z a;have:=c z a;cases z<;>first|rfl|(cases this)
 let⟨d,e⟩:=h.cells b;refine⟨d,e,λ z a=>?_⟩;have:=qfe d c;rw[ky]at this;exact this z a
theorem qik{y:AV}(h:rsC y=[])(a:qk (qB σ.rw y)=true):qk y=true:=by
 cases y<;>first|rfl|exact a|(simp[rsC]at h)
theorem qEl{tm:List AV}{a b:Operand}(h:qCj a b=true):aev tm a=aev tm b:=by
 unfold qCj at h;split at h
 .rw[wg h]
 .simp only[wb,decide_eq_true_eq]at h;rw[h.1,h.2]
 .cases h
def LvE(x y:AV):Prop:=x=y\/∃k es n a,x=.sl k es (n+1)/\y=.sl k es (a+1)
inductive LvL:List AV->List AV->Prop
 |nil:LvL [] []
 |cons {x y:AV}{xs ys:List AV}:LvE x y->LvL xs ys->LvL (x::xs) (y::ys)
theorem LvE.v{x:Value}{y:AV}(h:LvE (.v x) y):y=.v x:=by
 obtain rfl|⟨_,_,_,_,h,_⟩:=h
 .rfl
 .cases h
theorem LvE.dlist{a:Ty}{x y:AV}(h:LvE x y){l:List (Val a)}(b:dlist a x=some l):dlist a y=some l:=by
 obtain rfl|⟨_,_,_,_,rfl,rfl⟩:=h
 .exact b
 .exact b
theorem qin:∀(a:Ty) {cs cs':List AV}{v:Val a}{r:List AV},LvL cs cs'->zF a cs=some (v,r)->∃j,LvL r j/\zF a cs'=some (v,j)
 |.int k,cs,cs',v,r,c,h=>by
   change Qg k cs=_ at h;unfold Qg at h;split at h<;>try cases h
   split at h<;>cases h;rename_i o;cases c with
   |cons d f=>
     have:=d.v;subst this;exact⟨_,f,by show Qg _ _=_;simp only[Qg,o]⟩
 |.bool,cs,cs',v,r,c,h=>by
   change qaE cs=_ at h;unfold qaE at h;split at h<;>cases h;cases c with
   |cons d f=>
     have:=d.v;subst this;exact⟨_,f,rfl⟩
 |.str,cs,cs',v,r,c,h=>by
   change qav cs=_ at h;unfold qav at h;split at h<;>cases h;cases c with
   |cons d f=>
     have:=d.v;subst this;exact⟨_,f,rfl⟩
 |.term,cs,cs',v,r,c,h=>by
   change Qq cs=_ at h;unfold Qq at h;split at h<;>try cases h
   split at h<;>cases h;rename_i g;obtain⟨k,n,s,x,l,p,d,rfl⟩:=qfm g;cases p;cases c with
   |cons A c=>cases c with
     |cons z c=>cases c with
       |cons y c=>cases c with
         |cons w c=>
           have:=A.v;subst this;have:=z.v;subst this;have:=y.v;subst this;rw[<-qfX]at d;have d:=w.dlist d;rw[qfX]at d;exact⟨_,c,by show Qq _=_;simp only[Qq,jR,d]⟩
 |.list a,cs,cs',v,r,c,h=>by
   change zG _ cs=_ at h;unfold zG at h;split at h<;>try cases h
   split at h<;>cases h;rename_i g;cases c with
   |cons d f=>
     have g:dlist a _=some v:=g;have g:yd a.size (λ e=>full (zF a e)) _=some v:=d.dlist g;exact⟨_,f,by show zG _ _=_;simp only[zG,g]⟩
 |.pair a b,cs,cs',v,r,c,h=>by
   let⟨B,d,f⟩:=jq.1 h;let⟨m,u,t⟩:=qin a c d;let⟨i,g3,q⟩:=qin b u f;exact⟨i,g3,jq.2 ⟨_,t,q⟩⟩
 |.one a,cs,cs',v,r,c,h=>qin a c h
 |.map a b,cs,cs',v,r,c,h=>by
   change zG _ cs=_ at h;unfold zG at h;split at h<;>try cases h
   split at h<;>cases h;rename_i g;cases c with
   |cons d f=>
     have D:=d;obtain rfl|⟨k,es,n,C,rfl,rfl⟩:=d
     .exact⟨_,f,by show zG _ _=_;simp only[zG,g]⟩
     .let⟨ks,vs,e,_⟩:=qae g;cases e
theorem qzC:∀{cs:List AV},(∀y∈cs,qk y=true)->LvL (cs.map (qB σ.rw)) cs
 |[],_=>.nil
 |y::cs,h=>by
   refine .cons ?_ (qzC λ z a=>h z (wj _ a));have:=h y (ww ..);cases y with
   |v x=>exact .inl rfl
   |sl k es f=>
     cases f with
     |zero=>exact .inl rfl
     |succ f=>exact .inr ⟨k,es,0,f,rfl,rfl⟩
   |mc=>exact .inl rfl
   |_=>cases this
theorem qj9{a:Ty}{cs:List AV}{v:Val a}(b:∀y∈cs,qk y=true)(h:qm a (cs.map (qB σ.rw))=some v):qm a cs=some v:=by
 let⟨e,d,c⟩:=qin a (qzC b) (qy.1 h);cases d;exact qy.2 c
theorem qoJ{m:Mp}:∀{cs:List TV}{l:List Bool}{ds:List AV},qjo cs=some l->OKL m cs ds->ds=l.map λ b=>AV.v (.bool b)
 |[],l,ds,h,c=>by cases h;cases c;rfl
 |x::cs,l,ds,h,⟨y,r,f,e,d⟩=>by
   subst f;cases x<;>simp only[qjo]at h<;>try (cases h;done)
   rename_i b;split at h<;>cases h;rename_i g a;cases e;rw[qoJ a d];rfl
theorem qsG{m:Mp}:∀(l:List Bool),OKL m (l.map .b) (l.map λ b=>AV.v (.bool b))
 |[]=>rfl
 |b::l=>⟨_,_,rfl,rfl,qsG l⟩
theorem qwA:∀(l:List Bool) (i:Nat) (v:Bool) (j:Nat),qkm l ((i+j:Nat):Int) v j=l.set i v
 |[],_,_,_=>rfl
 |e::l,0,v,j=>by
   have h:∀(l:List Bool) (i j:Nat),i<j->qkm l ((i:Nat):Int) v j=l:=by
    intro l
    induction l with
    |nil=>intro _ _ _;rfl
    |cons e l a=>
      intro i j b;rw[qkm,a i (j+1) (by omega)];have:ieq ((i:Nat):Int) ((j:Nat):Int)=false:=by unfold ieq;rw[beq_eq_false_iff_ne];omega
      rw[this];rfl
   rw[qkm,h l (0+j) (j+1) (by omega)];have:ieq ((0+j:Nat):Int) ((j:Nat):Int)=true:=by unfold ieq;rw[beq_iff_eq];omega
   rw[this];rfl
 |e::l,i+1,v,j=>by
   rw[qkm,show((i+1+j:Nat):Int)=((i+(j+1):Nat):Int) by omega,qwA l i v (j+1)];have:ieq ((i+(j+1):Nat):Int) ((j:Nat):Int)=false:=by unfold ieq;rw[beq_eq_false_iff_ne];omega
   rw[this];rfl
theorem qtv(s:List UInt8):qH (qm (.int .u8)) (JG ⟨s.toArray⟩)=some (qbt s):=by
 have:JG ⟨s.toArray⟩=(qbt s).map (qd (.int .u8)):=by
  unfold JG qbt;rw[xc];rfl
 rw[this];exact JJ (yK (.int .u8)) (qbt s)
theorem qjq{m:Mp}{cs:List TV}{ds:List AV}(h:OKL m cs ds)(g:qql cs=true):noMc ds=true:=by
 match cs,h with
 |[],h=>cases h;rfl
 |[x],⟨y,r,e,d,j⟩=>
   cases j;subst e;cases y with
   |mc w z t ks vs=>
     exfalso;cases x with
     |i|b|s=>cases d
     |c=>cases d.2
     |nil=>cases d
     |sl a l v=>cases d.1
     |row=>obtain⟨R,_,_,e|⟨k,es,n,e⟩|⟨r,lo,n,o,f,e⟩,_⟩:=d<;>cases e
     |ptr=>cases d.2
     |pti=>cases d.2.2
     |rpt=>obtain⟨R,_,_,_,⟨r,i,o,e⟩|⟨ds,e⟩,_⟩:=d<;>cases e
     |ept|fn|agg|tup=>let⟨ds,e,_⟩:=d;cases e
     |dead=>cases g
     |mp=>cases d.2
     |mc=>cases g
   |_=>rfl
 |x::x'::xs,⟨y,r,e,_,⟨q,u,p,_,_⟩⟩=>subst e;subst p;cases y<;>rfl
theorem qq9{cs:List TV}{l:List Bool}(h:qjo cs=some l):qql cs=true:=by
 match cs with
 |[]=>rfl
 |[x]=>cases x<;>first|rfl|cases h
 |x::x'::xs=>cases x<;>rfl
theorem qwC:∀{a:Ty},a.agg=false->a.size=1
 |.int _,_|.bool,_|.str,_|.list _,_|.map _ _,_=>rfl
 |.term,h|.pair _ _,h|.one _,h=>by cases h
theorem qhv{c:TC}{t:Nat}{d a:Ty}(h:qm9 c t=some (d,a)):∃s b g z e,c.ty t=some ⟨s,b,g,z,.map (kcT d) d.agg a.agg a.size e⟩/\Q7 d=true:=by
 unfold qm9 at h;split at h<;>try cases h
 rename_i s b g z r u q p e j w i v;split at h<;>cases h;rename_i f;simp only[wb,decide_eq_true_eq]at f;let⟨o,n,m,l,k⟩:=f;rw[o,qa1 n,qa1 m,l]at i;exact⟨s,b,g,z,e,i,k⟩
theorem qBS{c:TC}{t:Nat}{a:Ty}{z:Val a}{s b:Nat}{g:Bool}{l:List Value}{p:List KC}{q n:Bool}{k:Nat}{d:List Value}(r:c.ty t=some ⟨s,b,g,l,.map p q n k d⟩)(h:qBB c t a=some z):(d.all qS=true/\d.length=k)/\qm a (d.map .v)=some z:=by
 unfold qBB at h;rw[r]at h;simp only at h;split at h<;>try cases h
 rename_i j;simp only[wb,decide_eq_true_eq]at j;refine⟨j,?_⟩;have i:zU mp0 ⟨[],[],[],[]⟩:=λ id R h=>by cases h
 let⟨u,e,o⟩:=qax (m:=mp0) i a (qbY h) (qbO j.1);cases o;have f:(d.map AV.v).map (qB [])=d.map AV.v:=by rw[xc];exact kS λ _ _=>rfl
 have e:zF a ((d.map AV.v).map (qB []))=_:=e;rw[f]at e;exact qy.2 e
theorem qlJ(n:Rel N m E τ tm σ){c a:Ty}{x:TV}{y:AV}(o:OK m x y){b:Nat}{l:List (Val c×Val a)}(h:qpF τ c a x=some (b,l)):b<m.nb/\∃ks vs,qkq σ (kcT c) c.agg a.agg y=some (m.b b,ks,vs)/\JA (qm c) (qm a) ks vs=some l:=by
 unfold qpF at h;split at h<;>try cases h
 rename_i t;split at h<;>try cases h
 rename_i i u s g;split at h<;>cases h;rename_i f;unfold quh at f;split at f<;>cases f;rename_i e;obtain⟨rfl,rfl⟩:=e;let⟨q,p⟩:=o;obtain⟨ds,g3,y,r,rfl,k,d⟩:=n.box _ _ g;cases d;obtain⟨ks,vs,rfl,j⟩:=qae k;have g:∀x,jP x x=true:=λ x=>by cases x<;>rfl
 exact⟨q,ks,vs,by rw[p];simp only[qkq,g3,decide_true,g,kF],j⟩
theorem qxw{m:Mp}{a:Ty}{v:Val a}{ds:List AV}(h:qm a ds=some v):OK m (qg7 a v) (jp a.agg ds):=by
 have d:=yT (m:=m) h
 have one:∀x,Qz a v=[x]->∃y,ds=[y]/\OK m x y:=λ x f=>by
  rw[f]at d;let⟨y,r,e,i,g⟩:=d;cases g;exact⟨y,e,i⟩
 cases a with
 |term|pair a b|one a=>exact⟨ds,rfl,d⟩
 |int k|bool|str|list a|map a b=>obtain⟨y,rfl,c⟩:=one _ rfl;exact c
theorem qgb:∀(d:Ty),Q7 d=true->∀(v:Val d) (c:List KC) (r:List AV),zo (kcT d++c) (qd d v++r)=zo c r
 |.int k,_,v,c,r=>by simp[kcT,qd,zo]
 |.bool,_,v,c,r|.str,_,v,c,r=>rfl
 |.pair a b,h,v,c,r=>by
   simp only[Q7,wb]at h;rw[kcT,qd,wk,wk,qgb a h.1,qgb b h.2]
 |.one a,h,v,c,r=>qgb a h v c r
 |.term,h,_,_,_|.list _,h,_,_,_|.map _ _,h,_,_,_=>by cases h
theorem qtn{a:Ty}(h:Q7 a=true)(v:Val a):zo (kcT a) (qd a v)=true:=by
 have:=qgb a h v [] []
 rwa [wA,wA]at this
theorem qge:∀(d:Ty),Q7 d=true->∀{cs:List AV}{v:Val d}{r:List AV},zF d cs=some (v,r)->cs=qd d v++r
 |.int k,_,cs,v,r,h=>by
   change Qg k cs=_ at h;unfold Qg at h;split at h<;>try cases h
   split at h<;>cases h;rename_i c;rw[of_decide_eq_true c];rfl
 |.bool,_,cs,v,r,h=>by
   change qaE cs=_ at h;unfold qaE at h;split at h<;>cases h;rfl
 |.str,_,cs,v,r,h=>by
   change qav cs=_ at h;unfold qav at h;split at h<;>cases h;rename_i s;have e:(⟨s.data.toList.toArray⟩:ByteArray)=s:=by cases s;simp
   rw[qd,e];rfl
 |.pair a b,c,cs,v,r,h=>by
   simp only[Q7,wb]at c;let⟨i,g,f⟩:=jq.1 h;rw[qge a c.1 g,qge b c.2 f,qd,wk]
 |.one a,c,cs,v,r,h=>qge a c h
 |.term,h,_,_,_,_|.list _,h,_,_,_,_|.map _ _,h,_,_,_,_=>by cases h
theorem qx4{a:Ty}(d:Q7 a=true)(s:zU m σ){x:TV}{y:AV}{v:Val a}(h:J5 m.rw a x=some v)(t:OK m x y):qkk (kcT a) a.agg y=true/\cellsOf y=qd a v:=by
 let⟨j,B⟩:=qdl s h t;have i:=qge a d (qy.1 B);rw[wA]at i;have z:=qpn _ _ (qtn d v)
 have q:cellsOf y=qd a v:=by
  rw[<-i]
  have b:∀c∈cellsOf y,qB σ.rw c=c:=λ c w=>by
   have u:qB σ.rw c∈qd a v:=by rw[<-i];exact wI.2 ⟨c,w,rfl⟩
   have e:=z _ u;cases c with
   |sl k es f=>cases e
   |rs r lo n C f=>
     exfalso;simp only[qB]at e;cases p:σ.rw[r]? with
     |none=>rw[p]at e;cases e
     |some R=>
       rw[p]at e;simp only at e;cases A:qf9 R R.k lo n C<;>rw[A]at e<;>cases e
   |_=>rfl
  exact((kS (g:=id) b).trans (List.map_id _)).symm
 refine⟨?_,q⟩;unfold qkk;rw[q,qtn d v,kY];unfold yW at j;split at j
 .rename_i o
  have e:jn (yb σ.rw y)=jn y:=by
   cases l:jn y with
   |false=>exact(qjz σ.rw l).1
   |true=>cases y<;>first|rfl|cases l
  rw[e]at o;rw[qa1 o];cases jn y<;>rfl
 .cases j
theorem qnU:∀(a b c d:List AV),a.length=b.length->yn (a++c) (b++d)=(yn a b&&yn c d)
 |[],[],c,d,_=>rfl
 |x::a,y::b,c,d,h=>by
   show(qbA x y&&yn (a++c) (b++d))=(qbA x y&&yn a b&&yn c d);rw[qnU a b c d (by simpa using h),Bool.and_assoc]
 |[],_::_,_,_,h|_::_,[],_,_,h=>by cases h
theorem qiZ:∀(c:Ty),Q7 c=true->∀(a b:Val c),yn (qd c a) (qd c b)=veq c a b
 |.int k,_,a,b|.bool,_,a,b=>kY _
 |.str,_,a,b=>(kY _).trans (qx8 a b)
 |.pair c τ,h,a,b=>by
   simp only[Q7,wb]at h;rw[qd,qd,qnU _ _ _ _ (by rw[zj,zj]),qiZ c h.1,qiZ τ h.2];rfl
 |.one c,h,a,b=>qiZ c h a b
 |.term,h,_,_|.list _,h,_,_|.map _ _,h,_,_=>by cases h
theorem qfp{c b:Type}{f:List AV->Option c}{g:List AV->Option b}{ks vs:List (List AV)}{p:c×b}{l:List (c×b)}:JA f g ks vs=some (p::l)↔∃k a v vs',ks=k::a/\vs=v::vs'/\f k=some p.1/\g v=some p.2/\JA f g a vs'=some l:=by
 constructor
 .intro h;cases ks<;>cases vs<;>try (cases h;done)
  simp only[JA]at h;split at h<;>try cases h
  rename_i e d;split at h<;>cases h;rename_i i;exact⟨_,_,_,_,rfl,rfl,e,d,i⟩
 .rintro⟨k,a,v,vs',rfl,rfl,e,d,j⟩;simp only[JA,e,d,j]
theorem qvv{b a:Ty}(c:Q7 b=true):∀{l:List (Val b×Val a)}{ks vs:List (List AV)},JA (qm b) (qm a) ks vs=some l->∀(k:Val b) (i:Nat),
  (Qx (qd b k) ks i=none/\qr5 (veq b) l k=none)\/∃j v p,Qx (qd b k) ks i=some (i+j)/\vs[j]?=some v/\qm a v=some p/\qr5 (veq b) l k=some p
 |[],ks,vs,h,k,i=>by
   let⟨d,_⟩:=qgy h;have:ks=[]:=we d;subst this;exact .inl ⟨rfl,rfl⟩
 |p::l,ks,vs,h,k,i=>by
   obtain⟨s,m,v,vs',rfl,rfl,d,o,n⟩:=qfp.1 h;have e:=qge b c (qy.1 d);rw[wA]at e;subst e;simp only[Qx,qiZ b c,qr5];cases t:veq b k p.1 with
   |true=>exact .inr ⟨0,v,p.2,rfl,rfl,o,rfl⟩
   |false=>
     obtain⟨g,f⟩|⟨j,w,q,g,f,g3,r⟩:=qvv c n k (i+1)
     .exact .inl ⟨g,f⟩
     .exact .inr ⟨j+1,w,q,by show Qx _ _ _=_;rw[g];congr 1;omega,f,g3,r⟩
theorem qxK{b a:Ty}(o:Q7 b=true)(k:Val b){p:Val a}{m:List AV}(c:qm a m=some p):∀{l:List (Val b×Val a)}{ks vs:List (List AV)},JA (qm b) (qm a) ks vs=some l->∀(i:Nat),
  match Qx (qd b k) ks i with
  |none=>JA (qm b) (qm a) (ks++[qd b k]) (vs++[m])=some (qdX (veq b) l k p)
  |some j=>∃q,j=i+q/\JA (qm b) (qm a) ks (vs.set q m)=some (qdX (veq b) l k p)
 |[],ks,vs,h,i=>by
   let⟨d,g⟩:=qgy h;have:ks=[]:=we d;subst this;have:vs=[]:=we g;subst this;show JA _ _ [_] [_]=some [(k,p)];simp only[JA,yK,c]
 |r::l,ks,vs,h,i=>by
   obtain⟨x,n,v,vs',rfl,rfl,d,g,t⟩:=qfp.1 h;have e:=qge b o (qy.1 d);rw[wA]at e;have f:=qxK o k c t (i+1);subst e;simp only[Qx,qiZ b o,qdX];cases y:veq b k r.1 with
   |true=>exact⟨0,rfl,qfp.2 ⟨_,_,_,_,rfl,rfl,d,c,t⟩⟩
   |false=>
     simp only;cases s:Qx (qd b k) n (i+1)with
     |none=>
       rw[s]at f;exact qfp.2 ⟨_,_,_,_,rfl,rfl,d,g,f⟩
     |some j=>
       rw[s]at f;let⟨q,w,u⟩:=f;exact⟨q+1,by omega,qfp.2 ⟨_,_,_,_,rfl,rfl,d,g,u⟩⟩
theorem qpN{t:Nat}{w k y:Operand}(G:C.ty=c.ty)(i:Rel N m E τ tm σ)(h:qnf c E τ t w k y K=some r):Sim N m E τ tm σ K r (qaj C tm σ t w k y):=by
 unfold qnf at h;split at h<;>try cases h
 rename_i d a X;split at h<;>try cases h
 rename_i b l L J;split at h<;>try cases h
 rename_i g v Y W;obtain⟨_,_,_,_,vz,Z,o⟩:=qhv X;obtain⟨P,ks,vs,O,M⟩:=qlJ i (i.ev w) L;obtain⟨e1,e2⟩:=qx4 o i.rows (by rw[i.rw];exact Y) (i.ev k);obtain⟨B,R⟩:=qdl i.rows (by rw[i.rw];exact W) (i.ev y);have H:=qmU J (i.ev y);have Q:∀z∈cellsOf (aev tm y),rsC z=[]:=qiI H
 have p:∀z∈cellsOf (aev tm y),qk z=true:=λ z S=>by
  obtain⟨pre,n,_,U,_⟩:=zc a (qy.1 R);rw[wA]at n;exact qik (Q z S) (U _ (by rw[<-n];exact wI.2 ⟨z,S,rfl⟩))
 have u:=qj9 p R
 have F:qq3 a.agg a.size (aev tm y)=true:=by
  unfold qq3;obtain⟨pre,n,A,_⟩:=zc a (qy.1 u);rw[wA]at n
  have x:jn (aev tm y)=a.agg:=by
   unfold yW at B;split at B
   .rename_i x
    have e:jn (yb σ.rw (aev tm y))=jn (aev tm y):=by
     cases D:jn (aev tm y)with
     |false=>exact(qjz σ.rw D).1
     |true=>cases V:aev tm y<;>rw[V]at D<;>first|rfl|cases D
    rw[e]at x;exact(qa1 x).symm
   .cases B
  rw[x,n,A,<-n,wo.2 p];cases a.agg<;>simp[jP]
 have f:=qxK o g u M 0
 have s:JA (qm d) (qm a) (qdt ks vs (qd d g) (cellsOf (aev tm y))).1 (qdt ks vs (qd d g) (cellsOf (aev tm y))).2=some (qdX (veq d) l g v):=by
  unfold qdt;cases T:Qx (qd d g) ks 0 with
  |none=>rw[T]at f;exact f
  |some j=>
    rw[T]at f;obtain⟨q,n,A⟩:=f;rw[wy]at n;subst n;exact A
 have I:qaj C tm σ t w k y=some (.tup [],some {σ with bx:=σ.bx.set (m.b b) [.mc (kcT d) d.agg a.agg (qdt ks vs (qd d g) (cellsOf (aev tm y))).1 (qdt ks vs (qd d g) (cellsOf (aev tm y))).2],wr:=m.b b::σ.wr}):=by
  unfold qaj;rw[G,Z];simp only[O,e1,F,e2,kF]
 exact .to h I (.refl m) (i.setBox P (cs:=[.mc d a (qdX (veq d) l g v)]) (ds:=[.mc (kcT d) d.agg a.agg (qdt ks vs (qd d g) (cellsOf (aev tm y))).1 (qdt ks vs (qd d g) (cellsOf (aev tm y))).2]) ⟨_,_,rfl,qvJ.trans s,rfl⟩ _) ⟨_,rfl,rfl⟩
theorem qBg{op:Op}(D:C.ty=c.ty)(A:Rel N m E τ tm σ)(h:yM c E τ op K=some r):Sim N m E τ tm σ K r (qc C tm σ op):=by
 cases op with
 |move x|assign x=>exact .same A h rfl (A.ev x)
 |pick x a b=>
   simp only[yM]at h;split at h<;>try cases h
   rename_i y H;have P:=A.ev x;rw[H]at P;cases y with
   |true=>exact .same A h (by simp only[qc,show aev tm x=_ from P]) (A.ev a)
   |false=>exact .same A h (by simp only[qc,show aev tm x=_ from P]) (A.ev b)
 |alloc e=>
   simp only[yM]at h;split at h<;>try cases h
   rename_i d F;split at h<;>try cases h
   rename_i hz;obtain⟨m',I,O,T⟩:=A.alloc (qbO (m:=m) hz);exact .to h (by simp only[qc,D,F,hz]) I O T
 |box e x=>
   simp only[yM]at h;split at h<;>try cases h
   rename_i d F;split at h<;>try cases h
   rename_i hz;obtain⟨J,L⟩:=(A.ev x).cells hz;obtain⟨m',I,O,T⟩:=A.alloc J;exact .to h (by simp only[qc,D,F,L]) I O T
 |build t parts=>
   simp only[yM]at h;split at h<;>try cases h
   rename_i _ _ _ z fs F;split at h<;>try cases h
   rename_i hz;split at h<;>try cases h
   rename_i cs V;obtain⟨ds,I,O⟩:=qu8 (qws E tm A parts.toList) (qbO (m:=m) hz) V;exact .same A h (by simp only[qc,D,F,hz];erw [I]) ⟨ds,rfl,O⟩
 |buildSlice t n parts=>
   simp only[yM]at h;split at h<;>try cases h
   rename_i _ _ _ _ _ k _ _ a F G;split at h<;>try cases h
   rename_i hb;simp only[wb,decide_eq_true_eq]at hb;obtain⟨⟨⟨⟨Z,hn⟩,bg⟩,bk⟩,hz⟩:=hb;split at h<;>try cases h
   rename_i vs ay;rw[<-A.rw]at ay;have hq:=A.rows;have au:=qnZ hq A ay;have ai:=qv0 hq ay (by have:=A.evs (parts.toList.map (·.2));simpa[xc,vC]using this)
   have be:qeP k n σ.rw (parts.toList.map λ p=>(p.1,aev tm p.2))=true:=by
    unfold qeP;have I:(parts.toList.map λ p=>(p.1,aev tm p.2)).length=n:=by simpa using hn
    simp only[I,decide_true,bg,bk,kJ,kY]
    have:=qya (aev tm) parts.toList 0 hz (λ _ _=>trivial) (λ x=>decide ((cellsOf x).length=k)&&((cellsOf x).all λ y=>qk (qB σ.rw y)))
     λ q bd=>by obtain⟨a1,a2⟩:=au q bd;rw[a1,a2,Z];simp
    rw[wo]at this |-
    intro p hp;have:=this p hp;simpa[Bool.and_assoc]using this
   have aE:∀m':Mp,OK m' (.sl a vs 2) (.sl k (parts.toList.map λ p=>(cellsOf (aev tm p.2)).map (qB σ.rw)) 2):=by
    intro m';refine⟨?_,wa _⟩;subst Z;show yd _ _ (.sl _ _ 2)=_;simp only[yd,qJ,decide_true];simpa[xc,vC]using ai
   have ap:qc C tm σ (.buildSlice t n parts)=match parts.toList.flatMap λ p=>rsA (aev tm p.2)with
     |[]=>some (.sl k (parts.toList.map λ p=>(cellsOf (aev tm p.2)).map (qB σ.rw)) 2,none)
     |r::l=>some (.sl k (parts.toList.map λ p=>(cellsOf (aev tm p.2)).map (qB σ.rw)) 2,some {σ with rw:=frz σ.rw (r::l),wrr:=(r::l)++σ.wrr}):=by
    simp only[qc,D,F,be];rfl
   rw[ap];split at h
   .rename_i aF
    have aT:parts.toList.flatMap (λ p=>rsA (aev tm p.2))=[]:=by
     have:=qom (xs:=parts.toList.map λ p=>evT E p.2) (ys:=parts.toList.map λ p=>aev tm p.2) (by rw[vL];exact aF) (by have:=A.evs (parts.toList.map (·.2));simpa[xc,vC]using this)
     rwa [xT]at this
    rw[aT];exact .same A h rfl (aE m)
   .split
    .exact⟨_,some (shA τ),_,none,shM m,h,rfl,qcx m,A.share rfl hq.sh,aE _,λ h=>by cases h⟩
    .exact .to h rfl (qcx m) (A.share (σ':={σ with rw:=frz σ.rw _,wrr:=_}) rfl (hq.frz _ _)) (aE _)
 |load t a=>
   simp only[yM]at h;split at h<;>try cases h
   rename_i d F;have B:=A.ev a;split at h<;>try cases h
   .rename_i b o G;rw[G]at B;obtain⟨_,B⟩:=B;split at h<;>try cases h
    rename_i cs V;split at h<;>try cases h
    rename_i aG;split at h<;>try cases h
    rename_i x P;obtain⟨ds,J,L⟩:=A.box b cs V;obtain⟨y,g3,g4⟩:=qdb L P;exact .same A h (by simp only[qc,D,F,B,yu,J,qjq L aG,g3]) g4
   .rename_i cs o G;rw[G]at B;obtain⟨ds,B,L⟩:=B;split at h<;>try cases h
    rename_i x P;obtain⟨y,g3,g4⟩:=qdb L P;exact .same A h (by simp only[qc,D,F,B,yu,g3]) g4
   .rename_i b i G;rw[G]at B;obtain⟨_,i0,B⟩:=B;split at h<;>try cases h
    rename_i cs V;split at h<;>try cases h
    rename_i l aK hl;obtain⟨v,M,h⟩:=Qu h;obtain⟨_,M⟩:=qe7 M;obtain⟨ds,J,L⟩:=A.box b cs V;have g3:ds[i.toNat]?=some (.v (.bool v)):=by rw[qoJ hl L,List.getElem?_map,M];rfl
    exact .same A h (y:=.v (.bool v)) (by simp only[qc,D,F,B,yu,J,qjq L (qq9 hl),aK,qap,g3]) rfl
   .rename_i id U sv i cs o G;rw[G]at B;split at h<;>try cases h
    rename_i R W;split at h<;>try cases h
    rename_i an;split at h
    rotate_left
    .split at h<;>try cases h
     rename_i ba;obtain⟨v,M,h⟩:=Qu h;split at h<;>try cases h
     rename_i x P;obtain⟨j0,M⟩:=qe7 M;obtain⟨R',J,_,_,_,L⟩:=B;rw[A.rw,W]at J;cases J;have hg:=A.rows id R (by rw[A.rw];exact W);rcases L (wg an)with⟨r',j,S,X,z0,z3,_⟩|⟨S,z3,_⟩
     .rw[S]at hg;obtain⟨Q,q1,q2,q3,q4,q5,q6,q7⟩:=hg;rw[z0,xu]at M;obtain⟨e,e1,e2⟩:=qdf q5 M;obtain⟨y,g3,g4⟩:=qdb (yT e2) P;have kl:qmX Q j (m.v id)=some e:=by unfold qmX;rw[if_pos q3];exact e1
      exact .same A h (by simp only[qc,D,F,X,yu,q1,kl,g3]) g4
     .rw[S]at hg;have:=hg ba;rw[this]at z3;exact absurd z3 (xU _)
    rename_i a9;split at h<;>try cases h
    rename_i x P;rcases qvF A B W (wg an) (wg a9)with⟨r',j,ds,Q,k1,_,_,k2,k3,k4,_⟩|⟨ds,k1,k4,_⟩
    .obtain⟨y,g3,g4⟩:=qdb k4 P;have kl:qmX Q j Q.ver=some ds:=by unfold qmX;rw[if_pos rfl];exact k3
     exact .same A h (by simp only[qc,D,F,k1,yu,k2,kl,g3]) g4
    .obtain⟨y,g3,g4⟩:=qdb k4 P;exact .same A h (by simp only[qc,D,F,k1,yu,g3]) g4
 |store t a x=>
   simp only[yM]at h;split at h<;>try cases h
   rotate_left
   .rename_i d b i F G;have B:=A.ev a;rw[G]at B;obtain⟨hb,i0,B⟩:=B;split at h<;>try cases h
    rename_i cs v V P;split at h<;>try cases h
    rename_i l hl ao;obtain⟨aZ,h⟩:=yI h;have aZ:=of_decide_eq_true aZ;have ao:=wg ao;obtain⟨ds,J,L⟩:=A.box b cs V;have ab:=A.ev x;rw[P]at ab;have ab:aev tm x=.v (.bool v):=ab;have a0:=qoJ hl L;have aH:i.toNat<l.length:=by omega
    have ac:ds.length=l.length:=by rw[a0,wx]
    have aP:qkm l i v 0=l.set i.toNat v:=by
     have:=qwA l i.toNat v 0
     rwa [show((i.toNat+0:Nat):Int)=i by omega]at this
    have aj:ds.take i.toNat++(cellsOf (aev tm x)++ds.drop (i.toNat+d.size))=(qkm l i v 0).map λ b=>AV.v (.bool b):=by
     rw[ab,ao,aP,List.map_set,<-a0,List.set_eq_take_append_cons_drop,if_pos (by omega)];rfl
    have e1:(cellsOf (aev tm x)).length=d.size:=by rw[ab,ao];rfl
    have e2:i.toNat+d.size<=ds.length:=by omega
    have k2:(cellsOf (aev tm x)).all isC=true:=by rw[ab];rfl
    exact .to h (by simp only[qc,D,F,B,J,qjq L (qq9 hl),e1,e2,k2,decide_true,kF];rfl) (.refl m) (A.setBox hb (ds:=ds.take i.toNat++(cellsOf (aev tm x)++ds.drop (i.toNat+d.size))) (by rw[aj];exact qsG _) _) ⟨_,rfl,rfl⟩
   .rename_i d id U sv i cs o F G;have B:=A.ev a;rw[G]at B;split at h<;>try cases h
    rename_i R W;split at h<;>try cases h
    rename_i hc;simp only[wb,decide_eq_true_eq,wJ]at hc;obtain⟨⟨⟨⟨⟨c1,c2⟩,c3⟩,c4⟩,c5⟩,c6⟩:=hc;split at h<;>try cases h
    rename_i v M;rcases qvF A B W (wg c1) (wg c2)with⟨r',j,ds,Q,k1,al,ki,k2,k3,k4,kj,kv,kk,kd,kf,ks⟩|⟨ds,k1,k4,ks⟩
    rotate_left
    .rw[c3]at ks;cases ks
    obtain⟨S,X,z3⟩:=qwO (A.ev x) c6;have aa:=qbY M;have aj:OKL m (cs.take o++(yv (evT E x)++cs.drop (o+d.size))) (ds.take o++(cellsOf (aev tm x)++ds.drop (o+d.size))):=(k4.take o).append (S.append (k4.drop _));rw[<-A.rw]at aa;obtain⟨rs,p1,p2⟩:=qax A.rows R.τ aa aj;cases p2
    have aR:∀y∈ds,qk y=true:=by
     obtain⟨w,_,hw⟩:=Qw kd k3;obtain⟨pre,I,_,T,_⟩:=zc R.τ (qy.1 hw);rw[wA]at I;rw[I];exact T
    have ac:ds.length=R.τ.size:=by
     obtain⟨w,_,hw⟩:=Qw kd k3;obtain⟨pre,I,O,_⟩:=zc R.τ (qy.1 hw);rw[wA]at I;rw[I];exact O
    have aN:∀y∈cellsOf (aev tm x),qk y=true:=by
     obtain⟨pre,I,_,T,_⟩:=zc R.τ p1;rw[vG,wA]at I;intro y H;have:=T (qB σ.rw y) (by rw[<-I];exact xb (wi.2 (.inr (wi.2 (.inl H)))));exact qik (z3 y H) this
    have ai:qm R.τ (ds.take o++(cellsOf (aev tm x)++ds.drop (o+d.size)))=some v:=by
     have:qm R.τ ((ds.take o++(cellsOf (aev tm x)++ds.drop (o+d.size))).map (qB σ.rw))=some v:=qy.2 p1
     exact qj9 (λ y H=>by
      rcases wi.1 H with H|H
      .exact aR y (wT H)
      .rcases wi.1 H with H|H
       .exact aN y H
       .exact aR y (wO H)) this
    have aO:=qte kd j ai;have aC:r'<σ.rw.length:=getElem?_lt k2;have bm:(cellsOf (aev tm x)).length=d.size:=by rw[S.len];exact c4
    have bf:o+d.size<=ds.length:=by rw[k4.len];exact c5
    have bb:qne Q j o Q.ver d.size (cellsOf (aev tm x))=some {Q with c:=Q.c.set j (ds.take o++(cellsOf (aev tm x)++ds.drop (o+d.size)))}:=by
     unfold qne
     have e1:(decide (Q.ver=Q.ver/\Q.fz<=j/\o+d.size<=Q.k/\(cellsOf (aev tm x)).length=d.size/\Q.off=false)&&(cellsOf (aev tm x)).all qk)=true:=by
      rw[wb,decide_eq_true_eq,wo];exact⟨⟨rfl,by rw[(ks c3).1];exact wh _,by rw[kk,<-ac];exact bf,bm,(ks c3).2⟩,aN⟩
     rw[e1,k3]
    have ag:yB R.l i v=R.l.set j v:=by
     unfold yB;rw[if_pos (by rw[ki];exact Int.natCast_nonneg j),ki];rfl
    obtain⟨m',J,L,_⟩:=A.rowUpd (R2:=⟨R.τ,yB R.l i v,R.ver,R.sv+1,R.sh⟩) W (m.r id) (m.v id) (Q.c.set j (ds.take o++(cellsOf (aev tm x)++ds.drop (o+d.size)))) (wa _) (wU _)
     (λ _=>⟨by show(yB R.l i v).length=_;rw[ag,wE],rfl,rfl,rfl,(λ h=>by have:R.sv+1=R.sv:=h;omega),(λ h=>by rw[al]at h;cases h)⟩) (σ':={σ with rw:=σ.rw.set r' {Q with c:=Q.c.set j (ds.take o++(cellsOf (aev tm x)++ds.drop (o+d.size)))},wrr:=r'::σ.wrr}) rfl
     (by
      rw[al];refine⟨{Q with c:=Q.c.set j (ds.take o++(cellsOf (aev tm x)++ds.drop (o+d.size)))},by show(σ.rw.set r' _)[r']?=_;rw[List.getElem?_set_self aC],rfl,kv,kk,?_,?_,ks⟩
      .show qH (qm R.τ) (Q.c.set j _)=some (yB R.l i v);rw[ag];exact aO
      .show Q.fz<=(Q.c.set j _).length;rw[wE];exact kf)
     (λ aM ak I O T=>by
      have ae:=A.others W al I O T;refine⟨λ G=>by rw[al]at G;exact ae (kz G).symm,λ Q' aL=>?_⟩;show(σ.rw.set r' _)[ak]?=_;rw[List.getElem?_set_ne (xw ae)];exact aL)
    exact .to h (by simp only[qc,D,F,k1,k2,bb];rfl) J L ⟨_,rfl,rfl⟩
   rename_i d b o F G;have B:=A.ev a;rw[G]at B;obtain⟨hb,B⟩:=B;split at h<;>try cases h
   rename_i cs V;split at h<;>try cases h
   rename_i hc;simp only[wb,decide_eq_true_eq]at hc;obtain⟨⟨⟨aG,I⟩,O⟩,T⟩:=hc;obtain⟨ds,J,L⟩:=A.box b cs V;obtain⟨k1,k2⟩:=(A.ev x).cells T;have e1:(cellsOf (aev tm x)).length=d.size:=by rw[k1.len];exact I
   have e2:o+d.size<=ds.length:=by rw[L.len];exact O
   exact .to h (by simp only[qc,D,F,B,J,qjq L aG,e1,e2,k2,decide_true,kF];rfl) (.refl m) (A.setBox hb ((L.take o).append (k1.append (L.drop (o+d.size)))) _) ⟨_,rfl,rfl⟩
 |makeSlice t n mm=>
   simp only[yM]at h;split at h<;>try cases h
   rename_i _ _ _ _ _ k bytes z a' ik a F G hn;split at h<;>try cases h
   rename_i hc;simp only[wb,decide_eq_true_eq]at hc;obtain⟨⟨⟨⟨c1,c2⟩,c3⟩,c4⟩,c5⟩:=hc;split at h<;>try cases h
   rename_i v M;obtain⟨hm,h⟩:=yI h;obtain⟨m1,m2,m3⟩:=of_decide_eq_true hm;have ad:=A.ev n;rw[hn]at ad;have ad:aev tm n=.v (.int ik a):=ad;have bh:aev tm mm=.v (.int ik a):=by rw[<-qEl c1];exact ad
   have bc:zU mp0 σ:=λ id R h=>by cases h
   have aa:=qbY M;obtain⟨rs,p1,p2⟩:=qax (m:=mp0) bc a' aa (qbO c5);cases p2;have a7:(z.map AV.v).map (qB σ.rw)=z.map AV.v:=by rw[xc];exact kS λ _ _=>rfl
   rw[a7]at p1;have bl:qm a' (z.map AV.v)=some v:=qy.2 p1;have aQ:(z.map AV.v).all qk=true:=by rw[vL,wo];intro _ _;rfl
   have aJ:decide (0<=a/\a.toNat*bytes<=2^47/\a.toNat<2^62/\0<k/\z.length=k)=true:=decide_eq_true ⟨m1,m2,m3,c3,c4⟩
   have ap:qc C tm σ (.makeSlice t n mm)=match qJ a.toNat 0 with
     |true=>some (.sl k [] 2,none)
     |false=>some (.rs σ.rw.length 0 a.toNat 0 false,some {σ with rw:=σ.rw++[⟨k,List.replicate a.toNat (z.map .v),0,0,false⟩]}):=by
    simp only[qc,D,F,ad,bh,true_and,aJ,c5,aQ,kF];cases qJ a.toNat 0<;>rfl
   have aD:=qsS bl a.toNat;by_cases B:a.toNat=0
   .obtain⟨m',J,L,g3⟩:=A.rowAdd (σ':=σ) ⟨a',List.replicate a.toNat v,0,0,false⟩ none 0 [] rfl (λ _=>by show List.replicate a.toNat v=[];rw[B];rfl) (λ r Q h=>h) (λ r h=>by cases h) (y:=.sl k [] 2) ⟨by show yd a'.size (qm a') (.sl k [] 2)=some (List.replicate a.toNat v);rw[B,c2];simp only[yd,qJ,decide_true];rfl,wa _⟩ rfl;refine⟨_,some _,.sl k [] 2,none,m',h,?_,J,L,g3,λ h=>by cases h⟩;have:qJ a.toNat 0=true:=by simp[qJ,B]
    rw[ap,this]
   .obtain⟨m',J,L,g3⟩:=A.rowNew aD;rw[xj]at g3;refine .to h (y:=.rs σ.rw.length 0 a.toNat 0 false) ?_ J L g3;have:qJ a.toNat 0=false:=by simp[qJ,B]
    rw[ap,this,c2]
 |nilCheck x=>
   simp only[yM]at h;have B:=A.ev x;split at h<;>try cases h
   .rename_i b o G;rw[G]at B;exact .same A h (by simp only[qc,B.2]) ⟨B.1,rfl⟩
   .rename_i cs o G;rw[G]at B;obtain⟨ds,B,g⟩:=B;exact .same A h (by simp only[qc,B]) ⟨ds,rfl,g⟩
   .rename_i id U sv i cs o G;rw[G]at B;have a5:=B;obtain⟨R,_,_,_,H,_⟩:=B;rcases H with⟨r',j,ep,H⟩|⟨ds,H⟩
    .exact .same A h (y:=.rpt r' j o ep) (by simp only[qc,H]) (by rw[<-H];exact a5)
    .exact .same A h (y:=.ept ds o) (by simp only[qc,H]) (by rw[<-H];exact a5)
 |binOp op t x y u=>
   simp only[yM]at h;split at h
   .rename_i b hb
    obtain⟨e1,F⟩:((op=.eql/\K (.b b) none=some r)\/(op=.neq/\K (.b (!b)) none=some r))/\∃p1 p2 p3 p4,c.ty t=some ⟨p1,p2,p3,p4,.ptr⟩:=by
     split at h<;>try (cases h;done)
     .rename_i hp;exact⟨.inl ⟨rfl,h⟩,qnW hp⟩
     .rename_i hp;exact⟨.inr ⟨rfl,h⟩,qnW hp⟩
    obtain⟨p1,p2,p3,p4,F⟩:=F;rcases qAS (A.ev x) (A.ev y) hb with⟨rfl,q1,q2⟩|⟨rfl,q1,q2⟩
    .rcases e1 with⟨rfl,e1⟩|⟨rfl,e1⟩<;>exact .same A e1 (by simp only[qc,q1,q2,D,F,wab]) rfl
    .rcases e1 with⟨rfl,e1⟩|⟨rfl,e1⟩
     .refine .same A e1 (y:=.v (.bool false)) ?_ rfl;cases P:aev tm x<;>rw[P]at q1<;>first|(cases q1;done)|(simp only[qc,P,q2,D,F,qml,qvH,kF])
     .refine .same A e1 (y:=.v (.bool true)) ?_ rfl;cases P:aev tm x<;>rw[P]at q1<;>first|(cases q1;done)|(simp only[qc,P,q2,D,F,qml,qvH,kF])
   obtain⟨z,v,I,O,T⟩:=qEk (A.ev x) (A.ev y) h;refine .same A I ?_ O;rcases T with⟨a,b,e1,e2,e3,h4⟩|⟨a,b,e1,e2,e3,h4⟩
   .obtain⟨p1,p2,p3,p4,F⟩:=qw1 e3;rcases h4 with⟨rfl,rfl⟩|⟨rfl,rfl⟩<;>simp only[qc,e1,e2,D,F]
   .simp only[qc,e1,e2];split
    .rename_i p q hp hq;cases hp;cases hq;exact absurd ⟨rfl,rfl⟩ (e3 p q)
    .rename_i hp hq;cases hp;cases hq;simp[qlp]at h4
    .rename_i hp hq;cases hp;cases hq;rw[h4]
    .rename_i n1 n2 n3;exact absurd rfl (n3 _ _ rfl)
 |unOp op t x=>
   simp only[yM]at h;have B:=A.ev x;split at h<;>try cases h
   .rename_i k n G;rw[G]at B;exact .same A h (by simp only[qc,show aev tm x=_ from B,unA]) rfl
   .rename_i b G;rw[G]at B;exact .same A h (by simp only[qc,show aev tm x=_ from B,unA]) rfl
 |convert s d x=>
   simp only[yM]at h;have B:=A.ev x;split at h<;>try cases h
   .rename_i I O T;rw[T]at B;exact .same A h (by simp only[qc,D,I,O,show aev tm x=_ from B]) rfl
   .rename_i I O T;rw[T]at B;exact .same A h (by simp only[qc,D,I,O,show aev tm x=_ from B]) rfl
   .rename_i e _ _ _ y I O T;rw[T]at B;split at h<;>try cases h
    rename_i hu;have B:aev tm x=.v (.string ⟨y.toArray⟩):=B;obtain⟨m',J,L,g3⟩:=A.rowNew (qtv y);rw[show(qbt y).length=y.toArray.size by simp[qbt]]at g3;exact .to h (y:=.rs σ.rw.length 0 y.toArray.size 0 false) (by simp only[qc,D,I,O,B,hu];rfl) J L g3
   .rename_i e _ _ _ _ _ _ _ _ _ _ I O hn;split at h<;>try cases h
    rename_i l hu hl;rw[<-A.rw]at hl;obtain⟨es,J,L,g3⟩:=qjr A.rows hl B;have J:elems σ.rw 1 (aev tm x)=some es:=J;refine .same A h (y:=.v (.string ⟨(qgZ l).toArray⟩)) ?_ rfl;have hs:=qwz es l L
    cases P:aev tm x<;>rw[P]at J<;>first
     |(simp[elems]at J;done)
     |(simp only[qc,D,I,O,P,hu,J,hs];done)
     |skip
    rename_i v
    cases v<;>first
     |(simp[elems]at J;done)
     |(simp only[qc,D,I,O,P,hu,J,hs])
 |makeFunc f fs cs=>
   cases f with
   |func f=>
     simp only[yM]at h;split at h<;>try cases h
     rename_i hf;exact .same A h (by simp only[qc,hf]) ⟨_,rfl,A.evs _⟩
   |_=>simp only[yM]at h;cases h
 |slice t x lo hi mx=>
   cases mx with
   |some q=>simp only[yM]at h;cases h
   |none=>
   simp only[yM]at h;have B:=A.ev x;split at h<;>try cases h
   .rename_i y F G;rw[G]at B;split at h<;>try cases h
    rename_i hh ah;split at h<;>try cases h
    rename_i l Y;obtain⟨c1,h⟩:=yI h;obtain⟨c2,h⟩:=yI h;have a8:qku ⟨y.toArray⟩=y.length:=by simp[qku,ByteArray.size]
    have b1:=qau A (d:=y.length) ah (wa _) c1;have b2:=qau A (d:=0) Y (wh _) c2;refine .same A h (y:=.v (.string (quO ⟨y.toArray⟩ l.toNat hh.toNat))) ?_ ?_
    .simp only[qc,D,F,show aev tm x=_ from B,a8,b1,b2]
    .show AV.v _=AV.v _;rw[<-qCA]
   .rename_i a y lv F G;rw[G]at B;split at h<;>try cases h
    rename_i Z;rw[wb]at Z;have aY:=of_decide_eq_true Z.1;split at h<;>try cases h
    rename_i hh ah;split at h<;>try cases h
    rename_i l Y;obtain⟨c1,h⟩:=yI h;obtain⟨c2,h⟩:=yI h;have b1:=qau A (d:=y.length) ah (wa _) c1;have b2:=qau A (d:=0) Y (wh _) c2;obtain⟨ac,_⟩:=B;rcases zN ac with⟨I,rfl⟩|⟨es,n,I,O⟩
    .refine .same A h (y:=.v (.slice none 0 0)) ?_ ?_
     .simp only[kC]at b1;simp only[qc,D,F,I,b1,b2]
     .refine⟨?_,by decide⟩;show some []=some (qaL [] l hh);simp[qaL]
    .have aA:QU es=y.length:=qE O;refine .same A h (y:=.sl a.size (qzn es l.toNat hh.toNat) (lvS (n+1) (qJ hh.toNat y.length))) ?_ ?_
     .simp only[qc,D,F,I,aY,qJ,decide_true,aA,b1,b2,show pos (n+1)=true from by simp[pos],kF]
     .have af:∃q,lvS (n+1) (qJ hh.toNat y.length)=q+1:=by unfold lvS;split<;>exact⟨_,rfl⟩
      obtain⟨q,hq⟩:=af;rw[hq];refine⟨?_,kX (wh _)⟩;show yd _ _ (.sl _ _ (q+1))=_;simp only[yd,aY,qJ,decide_true];exact qb4 _ (qd1 _ O)
   .rename_i F G;rw[G]at B;split at h<;>try cases h
    rename_i hh ah;split at h<;>try cases h
    rename_i l Y;obtain⟨c1,h⟩:=yI h;obtain⟨c2,h⟩:=yI h;have b1:=qau A (d:=0) ah (wa _) c1;have b2:=qau A (d:=0) Y (wh _) c2;exact .same A h (y:=.v (.slice none 0 0)) (by simp only[qc,D,F,show aev tm x=_ from B,b1,b2]) rfl
   .rename_i _ _ _ _ _ k _ _ id U F G;rw[G]at B;split at h<;>try cases h
    rename_i R W;split at h<;>try cases h
    rename_i az;rw[wb]at az;have M:R.ver=U:=wg az.1;have Z:=of_decide_eq_true az.2;split at h<;>try cases h
    rename_i l Y;obtain⟨c1,h⟩:=yI h;obtain⟨R',J,L,g3,g4⟩:=B;rw[A.rw,W]at J;cases J;have bn:m.rw[id]?=some R:=by rw[A.rw];exact W
    have gy:=g4 M;subst M;rcases qdm A.rows bn gy with⟨rr,Q,aq,H,k1,k2,kv,k3,k4,kf,ks⟩|⟨aq,hq,H,af⟩
    .have av:=qE k4;have aC:rr<σ.rw.length:=getElem?_lt k1;have b2:=qau A (d:=0) Y (wh _) c1
     have ar:l.toNat<=R.l.length:=by
      unfold inb at c1;have:=of_decide_eq_true c1;omega
     have a3:quf Q k 0 Q.c.length Q.ver l.toNat=some {Q with c:=Q.c.drop l.toNat,ver:=Q.ver+1,fz:=Q.fz-l.toNat,off:=true}:=by
      unfold quf;rw[if_pos ⟨k3.trans Z,rfl,rfl,rfl,by rw[av];exact ar,kf⟩]
     obtain⟨m',S,X,z3⟩:=A.rowUpd (R2:=⟨R.τ,R.l.drop l.toNat,R.ver+1,R.sv,true⟩) W (some rr) (Q.ver+1) (Q.c.drop l.toNat) (wU _) (wa _) (λ h=>by have:R.ver+1=R.ver:=h;omega)
      (σ':={σ with rw:=σ.rw.set rr {Q with c:=Q.c.drop l.toNat,ver:=Q.ver+1,fz:=Q.fz-l.toNat,off:=true},wrr:=rr::σ.wrr}) rfl
      ⟨{Q with c:=Q.c.drop l.toNat,ver:=Q.ver+1,fz:=Q.fz-l.toNat,off:=true},by show(σ.rw.set rr _)[rr]?=_;rw[List.getElem?_set_self aC],rfl,rfl,k3,qb4 _ k4,by show Q.fz-l.toNat<=(Q.c.drop l.toNat).length;rw[wR];omega,λ h=>by cases h⟩ λ aM ak ae aH aw=>by
       have aS:=A.others W aq ae aH aw;exact⟨λ aI=>aS (kz aI).symm,λ Q' aL=>by show(σ.rw.set rr _)[ak]?=_;rw[List.getElem?_set_ne (xw aS)];exact aL⟩
     refine .to h (y:=.rs rr 0 (Q.c.length-l.toNat) (Q.ver+1) false) ?_ S X (z3 _ ?_)
     .simp only[qc,D,F,H,xm,show ∀n,qay n n none=some n from λ _=>rfl,k1,av,b2,qJ,decide_true];rw[av]at a3;rw[a3]
     .show _=AV.rs rr 0 (R.l.drop l.toNat).length (Q.ver+1) false;rw[wR,av]
    .have b2:=qau A (d:=0) Y (wh _) c1
     have ar:l.toNat<=R.l.length:=by
      unfold inb at c1;have:=of_decide_eq_true c1;omega
     obtain⟨m',S,X,z3⟩:=A.rowUpd (R2:=⟨R.τ,R.l.drop l.toNat,R.ver+1,R.sv,true⟩) W none 0 [] (wU _) (wa _) (λ h=>by have:R.ver+1=R.ver:=h;omega) (σ':=σ) rfl
      (λ hs=>by cases hs) λ aM ak ae aH aw=>⟨λ aI=>(by cases aI),λ _ h=>h⟩
     rcases zN H with⟨am,aX⟩|⟨es,n,am,a4⟩<;>rw[am]at H af
     .have aW:l.toNat=0:=by rw[aX]at ar;simpa using ar
      refine⟨_,some _,.v (.slice none 0 0),none,m',h,?_,S,X,z3 _ ⟨?_,af⟩,λ h=>by cases h⟩
      .rw[aX]at b2;simp only[kC]at b2;simp only[qc,D,F,am,xm,show ∀n,qay n n none=some n from λ _=>rfl,b2]
      .show dlist R.τ _=some (R.l.drop l.toNat);rw[aW,wP];exact H
     .have aA:QU es=R.l.length:=qE a4;have bp:1<=n:=by have:2<=n+1:=af;omega
      refine⟨_,some _,.sl R.τ.size (qzn es l.toNat R.l.length) (lvS (n+1) (qJ R.l.length R.l.length)),none,m',h,?_,S,X,z3 _ ⟨?_,?_⟩,λ h=>by cases h⟩
      .simp only[qc,D,F,am,Z,qJ,decide_true,xm,show ∀n,qay n n none=some n from λ _=>rfl,aA,b2,show pos (n+1)=true from by simp[pos],kF]
      .have aU:lvS (n+1) (qJ R.l.length R.l.length)=2:=by
         unfold lvS;rw[show(decide (1<n+1)&&qJ R.l.length R.l.length)=true by simp[qJ];omega]
       rw[aU];show yd _ _ (.sl _ _ 2)=_;simp only[yd,qJ,decide_true];have:=qb4 l.toNat (qd1 R.l.length a4);rw[xD]at this;exact this
      .show 2<=lvS _ _;unfold lvS;rw[show(decide (1<n+1)&&qJ R.l.length R.l.length)=true by simp[qJ];omega];exact wa _
 |fieldAddr t x i=>
   simp only[yM]at h;split at h<;>try cases h
   rename_i F;split at h<;>try cases h
   rename_i off size g hf;split at h<;>try cases h
   have B:=A.ev x;split at h<;>try cases h
   .rename_i b o G;rw[G]at B;exact .same A h (by simp only[qc,D,F,hf,B.2]) ⟨B.1,rfl⟩
   .rename_i cs o G;rw[G]at B;obtain⟨ds,B,hg⟩:=B;exact .same A h (by simp only[qc,D,F,hf,B]) ⟨ds,rfl,hg⟩
   .rename_i id U sv j cs o G;rw[G]at B;obtain⟨R,k1,k2,k3,H,k4⟩:=B;rcases H with⟨r',q,ep,H⟩|⟨ds,H⟩
    .refine .same A h (y:=.rpt r' q (o+off) ep) (by simp only[qc,D,F,hf,H]) ⟨R,k1,k2,k3,.inl ⟨_,_,_,rfl⟩,λ e1=>?_⟩;rcases k4 e1 with⟨r2,i2,S,X,z0,z3,z4⟩|⟨S,z3,z4⟩
     .rw[H]at X;cases X;exact .inl ⟨_,_,S,rfl,z0,z3,z4⟩
     .exact .inr ⟨S,z3,λ hs=>by obtain⟨ds,z,_⟩:=z4 hs;rw[H]at z;cases z⟩
    .refine .same A h (y:=.ept ds (o+off)) (by simp only[qc,D,F,hf,H]) ⟨R,k1,k2,k3,.inr ⟨_,rfl⟩,λ e1=>?_⟩;rcases k4 e1 with⟨r2,i2,S,X,_⟩|⟨S,z3,z4⟩
     .rw[H]at X;cases X
     .exact .inr ⟨S,z3,λ hs=>by obtain⟨ds',z,zz⟩:=z4 hs;rw[H]at z;cases z;exact⟨ds,rfl,zz⟩⟩
 |field t x i=>
   simp only[yM]at h;have B:=A.ev x;split at h<;>try cases h
   rename_i cs F G;split at h<;>try cases h
   rename_i off size g hf;split at h<;>try cases h
   rename_i y H;rw[G]at B;obtain⟨ds,B,hg⟩:=B;obtain⟨z,J,L⟩:=qdb hg H;exact .same A h (by simp only[qc,D,F,B,hf,J]) L
 |indexAddr t x i=>
   simp only[yM]at h;have B:=A.ev x;have hi:=A.ev i;split at h<;>try cases h
   .rename_i _ _ _ _ _ k _ _ ik j F hj;rw[hj]at hi;have hi:aev tm i=.v (.int ik j):=hi;split at h<;>try cases h
    .rename_i a l lv G;rw[G]at B;split at h<;>try cases h
     rename_i Z;have Z:=of_decide_eq_true Z;obtain⟨v,M,h⟩:=Qu h;obtain⟨j0,M⟩:=qe7 M;obtain⟨ac,_⟩:=B;rcases zN ac with⟨I,rfl⟩|⟨es,n,I,O⟩
     .simp at M
     .obtain⟨e,J,L⟩:=qdf O M;refine .same A h (y:=.ept e 0) ?_ ⟨e,rfl,yT L⟩;have aB:qro es j=some e:=by unfold qro;rw[if_pos j0];exact J
      simp only[qc,D,F,hi,I,Z,qJ,decide_true,aB]
    .rename_i id U G;rw[G]at B;split at h<;>try cases h
     rename_i R W;split at h<;>try cases h
     rename_i M;rw[wb]at M;have an:=wg M.1;have Z:=of_decide_eq_true M.2;obtain⟨v,M,h⟩:=Qu h;obtain⟨j0,M⟩:=qe7 M;obtain⟨R',J,L,g3,g4⟩:=B;rw[A.rw,W]at J;cases J;have g4:=g4 an;rcases qdm A.rows (by rw[A.rw];exact W) g4 with⟨rr,Q,aq,H,q1,q2,q3,q4,q5,_⟩|⟨aF,_,hq,_⟩
     .obtain⟨e,S,X⟩:=qdf q5 M;have hl:=qE q5;have br:j.toNat<Q.c.length:=getElem?_lt S;refine .same A h (y:=.rpt rr (0+j.toNat) 0 Q.ver) ?_ ?_
      .have:qt8 Q k 0 Q.c.length Q.ver j=some (0+j.toNat):=by
         unfold qt8;rw[if_pos ⟨q4.trans Z,j0,by omega,rfl,by omega⟩]
       simp only[qc,D,F,hi,H,q1,this]
      .refine⟨R,by rw[A.rw];exact W,by omega,wa _,.inl ⟨_,_,_,rfl⟩,λ _=>.inl ⟨rr,j.toNat,aq,by rw[wy,q3],by omega,by omega,λ _=>⟨e,by rw[<-q2];exact S,yT X⟩⟩⟩
     .rcases zN hq with⟨_,hl⟩|⟨es,n,I,O⟩
      .rw[hl]at M;simp at M
      .obtain⟨e,J,bo⟩:=qdf O M;refine .same A h (y:=.ept e 0) ?_ ⟨R,by rw[A.rw];exact W,by omega,wa _,.inr ⟨_,rfl⟩,λ _=>.inr ⟨aF,vu (wh _) (getElem?_lt M),λ _=>⟨e,rfl,yT bo⟩⟩⟩;have aB:qro es j=some e:=by unfold qro;rw[if_pos j0];exact J
       simp only[qc,D,F,hi,I,Z,qJ,decide_true,aB]
   .rename_i n _ ik j F hj;rw[hj]at hi;have hi:aev tm i=.v (.int ik j):=hi;split at h<;>try cases h
    rename_i b G;rw[G]at B;obtain⟨hb,B⟩:=B;obtain⟨P,h⟩:=yI h;have P:=of_decide_eq_true P;refine .same A h (y:=.ptr (m.b b) (0+j.toNat*1)) (by simp only[qc,D,F,hi,B,decide_eq_true P]) ⟨hb,P.1,by rw[wy,vR]⟩
 |index t x i=>
   simp only[yM]at h;have B:=A.ev x;have hi:=A.ev i;split at h<;>try cases h
   rename_i y ik j F G hj;rw[G]at B;rw[hj]at hi;obtain⟨v,M,h⟩:=Qu h;obtain⟨j0,M⟩:=qe7 M;refine .same A h (y:=.v (.int .u8 v.toNat)) ?_ rfl
   have:qzx ⟨y.toArray⟩ j=some (v.toNat:Int):=by
    unfold qzx;rw[if_pos j0];show(match y[j.toNat]? with|some b=>some ((b.toNat:Nat):Int)|none=>none)=_;rw[M]
   simp only[qc,D,F,show aev tm x=_ from B,show aev tm i=_ from hi,this]
 |extract x i=>
   simp only[yM]at h;have B:=A.ev x;split at h<;>try cases h
   rename_i vs G;rw[G]at B;obtain⟨ds,B,hg⟩:=B;split at h<;>try cases h
   rename_i y H;obtain⟨z,J,L⟩:=hg.get H;exact .same A h (by simp only[qc,B,J]) L
 |makeMap t q=>
   cases q with
   |some q=>simp[yM]at h
   |none=>
     simp only[yM]at h;split at h<;>try cases h
     rename_i κ a hm;obtain⟨_,_,_,_,vz,F,_⟩:=qhv hm;obtain⟨m',I,O,T⟩:=A.alloc (cs:=[.mc κ a []]) (ds:=[.mc (kcT κ) κ.agg a.agg [] []]) ⟨_,_,rfl,qvJ,rfl⟩;exact .to h (by simp only[qc,D,F]) I O (x:=.mp τ.bx.length) (y:=.mp σ.bx.length) ⟨T.1,by have e:=T.2;simp only[AV.ptr.injEq]at e;rw[e.1]⟩
 |lookup t mm k q=>
   simp only[yM]at h;split at h<;>try cases h
   rename_i κ a hm;split at h<;>try cases h
   rename_i b l z kv bi hz Z;obtain⟨_,_,_,_,vz,F,ax⟩:=qhv hm;obtain⟨bq,ks,vs,aV,bj⟩:=qlJ A (A.ev mm) bi;obtain⟨e1,e2⟩:=qx4 ax A.rows (by rw[A.rw];exact Z) (A.ev k);obtain⟨S,X⟩:=qBS F hz
   have a6:∃y,qnb (kcT κ) a.agg vz ks vs (cellsOf (aev tm k))=some (y,qvQ (veq κ) l kv)/\OK m (qg7 a (qfA (veq κ) z l kv)) y:=by
    rw[e2];rcases qvv ax bj kv 0 with⟨f1,f2⟩|⟨j,v,p,f1,f2,f3,f4⟩
    .exact⟨jp a.agg (vz.map .v),by simp only[qnb,f1,qvQ,f2,qns],by simp only[qfA,f2,qns];exact qxw X⟩
    .rw[wy]at f1;exact⟨jp a.agg v,by simp only[qnb,f1,f2,qvQ,f4,qns],by simp only[qfA,f4,qns];exact qxw f3⟩
   obtain⟨y,y1,y2⟩:=a6
   have hc:(qkk (kcT κ) κ.agg (aev tm k)&&(vz.all qS&&decide (vz.length=a.size)&&(a.agg||decide (a.size=1))))=true:=by
    rw[e1,S.1,S.2];simp only[decide_true,kJ];cases aK:a.agg with
    |true=>rfl
    |false=>rw[qwC aK];rfl
   cases q with
   |true=>exact .same A h (by simp only[qc,D,F,aV,hc,y1]) ⟨_,rfl,⟨_,_,rfl,y2,_,_,rfl,rfl,rfl⟩⟩
   |false=>exact .same A h (by simp only[qc,D,F,aV,hc,y1]) y2
 |mapUpdate t mm k y=>
   have hs:qc C tm σ (.mapUpdate t mm k y)=qaj C tm σ t mm k y:=rfl;rw[hs];exact qpN D A (show qnf c E τ t mm k y K=some r from h)
 |insert t mm k y=>
   have hs:qc C tm σ (.insert t mm k y)=qaj C tm σ t mm k y:=rfl;rw[hs];exact qpN D A (show qnf c E τ t mm k y K=some r from h)
 |_=>simp only[yM]at h;cases h
end
end Go.AmZ
namespace Go.AmZ
open Go Go.RowKit Go.GxZ
def qct:List AV->List Nat
 |[]=>[]
 |.fn f _::l=>f::qct l
 |_::l=>qct l
def dFn{a:Type}(q:List AV->Option a):List AV->Option a
 |.fn _ []::xs=>q xs
 |_=>none
def qa0:(ts:List ATy)->List AV->Option (JQ ts)
 |[]=>qFk
 |.val τ::r=>qiL (yW τ) (qa0 r)
 |.fn::r=>dFn (qa0 r)
def Q0:(ts:List Ty)->qbD ts->List AV
 |[],_=>[]
 |[a],v=>[zK a v]
 |a::b::r,v=>zK a v.1::Q0 (b::r) v.2
def ym(c:TC)(f:Nat)(ys:List AV):Option AV:=match c.pf f (qct ys)with
 |some g=>match qa0 g.args ys with
   |some a=>match g.fn a with
     |some v=>some (qX (Q0 g.res v))
     |none=>none
   |none=>none
 |none=>none
def qaX(σ:St)(τ:Ty)(a:Nat):AV->Option (List (Val τ)×Nat)
 |.rs j lo n b f=>match σ.rw[a]? with
   |some R=>match decide (j=a/\lo=0/\f=false/\R.k=τ.size/\R.ver=b/\n=R.c.length/\R.fz=0/\R.off=false)with
     |true=>match qH (qm τ) R.c with
       |some l=>some (l,a+1)
       |none=>none
     |false=>none
   |none=>none
 |y=>match dlist τ y,decide (2<=lvl y)with
   |some [],true=>some ([],a)
   |_,_=>none
def qcp(σ:St):(l:List RA)->Nat->List AV->Option (CV l×Nat)
 |[],a,[]=>some ((),a)
 |[],_,_::_=>none
 |.val τ::r,a,ds=>match qm τ (ds.take τ.size)with
   |some v=>match qcp σ r a (ds.drop τ.size)with
     |some (vs,n)=>some ((v,vs),n)
     |none=>none
   |none=>none
 |.row τ::r,a,d::ds=>match qaX σ τ a d with
   |some (l,b)=>match qcp σ r b ds with
     |some (vs,n)=>some ((l,vs),n)
     |none=>none
   |none=>none
 |.row _::_,_,[]=>none
def bxA(l:List RA)(b:Nat):AV:=match qgN l with
 |true=>.mp b
 |false=>.ptr b 0
def qq4(l:List RA)(y:AV):Option Nat:=match qgN l,y with
 |true,.mp b|false,.ptr b 0=>some b
 |_,_=>none
theorem qvh{l:List RA}{y:AV}{b:Nat}(h:qq4 l y=some b):y=bxA l b:=by
 unfold qq4 at h;unfold bxA;split at h<;>cases h<;>(rename_i a;rw[a])
theorem qC1(l:List RA)(b:Nat):qq4 l (bxA l b)=some b:=by
 unfold qq4 bxA;cases qgN l<;>rfl
theorem qE6(l:List RA)(b:Nat):rb (bxA l b)=[b]/\rr (bxA l b)=[]/\∀fb fr,ren fb fr (bxA l b)=bxA l (fb b):=by
 unfold bxA;cases qgN l<;>exact⟨rfl,rfl,λ _ _=>rfl⟩
theorem qC3{m:Mp}{l:List RA}{x:TV}{y:AV}{b:Nat}(h:qBk l x=some b)(a:OK m x y):b<m.nb/\y=bxA l (m.b b):=by
 unfold qBk at h;unfold bxA;split at h<;>cases h<;>(rename_i c;rw[c];exact a)
theorem qFH{m:Mp}{l:List RA}{b:Nat}(h:b<m.nb):OK m (bxT l b) (bxA l (m.b b)):=by
 unfold bxT bxA;cases qgN l<;>exact⟨h,rfl⟩
def qe9(σ:St)(l:List RA)(nb a:Nat)(y:AV):Option (CV l×Nat):=match qq4 l y with
 |some j=>match Nat.beq j nb,σ.bx[nb]? with
   |true,some ds=>qcp σ l a ds
   |_,_=>none
 |none=>none
def qur:AV->Bool
 |.v (.slice none 0 0)=>true
 |_=>false
theorem qtf{y:AV}(h:qur y=true):y=.v (.slice none 0 0):=by
 unfold qur at h;split at h
 .rfl
 .cases h
def qvC(g k:Nat):AV->Option (List AV)
 |.fn a cs=>match Nat.beq g a&&Nat.beq cs.length k with
   |true=>some cs
   |false=>none
 |_=>none
theorem qx5{g k:Nat}{y:AV}{cs:List AV}(h:qvC g k y=some cs):y=.fn g cs/\cs.length=k:=by
 unfold qvC at h;split at h<;>try cases h
 split at h<;>cases h;rename_i a;rw[wb]at a;rw[wg a.1];exact⟨rfl,wg a.2⟩
def dS(σ:St):(sas:List SA)->Nat->Nat->List AV->Option (jt sas)
 |[],nb,a,[]=>match decide (nb=σ.bx.length/\a=σ.rw.length)with
   |true=>some ()
   |false=>none
 |.val τ::r,nb,a,y::ys=>match yW τ y with
   |some v=>match dS σ r nb a ys with
     |some vs=>some (v,vs)
     |none=>none
   |none=>none
 |.row τ::r,nb,a,y::ys=>match qaX σ τ a y with
   |some (l,b)=>match dS σ r nb b ys with
     |some vs=>some (l,vs)
     |none=>none
   |none=>none
 |.box l::r,nb,a,y::ys=>match qe9 σ l nb a y with
   |some (v,b)=>match dS σ r (nb+1) b ys with
     |some vs=>some (toB l v,vs)
     |none=>none
   |none=>none
 |.nil::r,nb,a,y::ys=>match qur y with
   |true=>dS σ r nb a ys
   |false=>none
 |.clo g k::r,nb,a,y::ys=>match qvC g k y with
   |some cs=>dS σ r nb a (cs++ys)
   |none=>none
 |_,_,_,_=>none
def QI:(l:List RA)->Nat->CV l->List AV
 |[],_,_=>[]
 |.val τ::r,L,v=>qd τ v.1++QI r L v.2
 |.row _::r,L,v=>.rs L 0 v.1.length 0 false::QI r (L+1) v.2
def qc0:(l:List RA)->CV l->List Row
 |[],_=>[]
 |.val _::r,v=>qc0 r v.2
 |.row τ::r,v=>⟨τ.size,v.1.map (qd τ),0,0,false⟩::qc0 r v.2
def jm:(sas:List SA)->Nat->yD sas->List (List AV)
 |[],_,_=>[]
 |.box l::r,L,o=>QI l L (toC l o.1)::jm r (L+nR l) o.2
 |.nil::r,L,o|.val _::r,L,o|.row _::r,L,o|.clo _ _::r,L,o=>jm r L o
def js:(sas:List SA)->yD sas->List Row
 |[],_=>[]
 |.box l::r,o=>qc0 l (toC l o.1)++js r o.2
 |.nil::r,o|.val _::r,o|.row _::r,o|.clo _ _::r,o=>js r o
def QC:(a:List RE)->Nat->RV a->List AV
 |[],_,_=>[]
 |.one (.val τ)::r,L,v=>zK τ v.1::QC r L v.2
 |.one (.row _)::r,L,v=>.rs L 0 v.1.length 0 false::QC r (L+1) v.2
 |.agg l::r,L,v=>.agg (QI l L v.1)::QC r (L+nR l) v.2
def jT:(a:List RE)->RV a->List Row
 |[],_=>[]
 |.one (.val _)::r,v=>jT r v.2
 |.one (.row τ)::r,v=>⟨τ.size,v.1.map (qd τ),0,0,false⟩::jT r v.2
 |.agg l::r,v=>qc0 l v.1++jT r v.2
def QS:(a:List RE)->Nat->RV a->List (List AV)
 |[],_,_=>[]
 |.one (.val _)::r,L,v=>QS r L v.2
 |.one (.row _)::r,L,v=>QS r (L+1) v.2
 |.agg l::r,L,v=>QS r (L+nR l) v.2
def qrF(rws:List qu):(b:List RE)->Nat->Nat->RV b->Prop
 |[],_,_,_=>True
 |.one a::r,nb,d,v=>qrF rws r nb (d+nRA a) v.2
 |.agg l::r,nb,d,v=>qrF rws r nb (d+nR l) v.2
theorem qkd{rws:List qu}:∀(c:List RE) (nb d:Nat) (v:RV c) {e:Type}{k:(b:List RE)->RV b->Option e}{x:e},rws.length<=d->qgD rws c nb d v k=some x->
  ∃b f,k b f=some x/\qrF rws b nb d f/\∀{o:Type} (g:(b:List RE)->RV b->Option o),qgD rws c nb d v g=g b f
 |[],nb,d,v,e,k,x,n,h=>⟨[],(),h,trivial,λ _=>rfl⟩
 |.one a::c,nb,d,v,e,k,x,n,h=>by
   let⟨b,f,m,j,i⟩:=qkd c nb (d+nRA a) v.2 (by omega) h;exact⟨_,_,m,j,λ g=>i _⟩
 |.agg l::c,nb,d,v,e,k,x,n,h=>by
   let⟨b,f,m,j,i⟩:=qkd c nb (d+nR l) v.2 (by omega) h;exact⟨_,_,m,j,λ g=>i _⟩
theorem qi6:∀(l:List RA) (v:CV l),toC l (toB l v)=v
 |[],_|[_],(_,())|_::_::_,_=>rfl
theorem Q4:∀(l:List RA) (v:CV l),(qc0 l v).length=nR l
 |[],_=>rfl
 |.val _::r,v=>Q4 r v.2
 |.row _::r,v=>congrArg (· + 1) (Q4 r v.2)
theorem jY:∀(l:List RA) (v:CV l),(Qo l v).length=nR l
 |[],_=>rfl
 |.val _::r,v=>jY r v.2
 |.row _::r,v=>congrArg (· + 1) (jY r v.2)
theorem JS:∀(sas:List SA) (o:yD sas),(js sas o).length=nrB sas
 |[],_=>rfl
 |.nil::r,o|.val _::r,o|.row _::r,o|.clo _ _::r,o=>JS r o
 |.box l::r,o=>by rw[js,wd,Q4,JS r o.2];rfl
theorem Jn:∀(sas:List SA) (o:yD sas),(QT sas o).length=nrB sas
 |[],_=>rfl
 |.nil::r,o|.val _::r,o|.row _::r,o|.clo _ _::r,o=>Jn r o
 |.box l::r,o=>by rw[QT,wd,jY,Jn r o.2];rfl
def sgP(g:qiy)(σ:St)(ys:List AV):Option (AV×Option St):=match dS σ g.args 0 0 ys with
 |some a=>match g.fn a with
   |some v=>qgD (QT g.args v.1) g.res (nBx g.args) (nrB g.args) v.2 λ b c=>some (qX (QC b (σ.rw.length+nrB g.args) c),some ⟨jm g.args σ.rw.length v.1++QS b (σ.rw.length+nrB g.args) c,σ.rw.map jG++(js g.args v.1++jT b c),List.range σ.bx.length,List.range σ.rw.length⟩)
   |none=>none
 |none=>none
def mgP(g:qmI)(σ:St)(ys:List AV):Option (AV×Option St):=match dS σ (.row g.τ::g.args) 0 0 ys with
 |some a=>match g.fn a with
   |some v=>match Nat.beq v.length a.1.length with
     |true=>match σ.bx,σ.rw with
       |[],[R]=>some (.tup [],some ⟨[],[⟨R.k,v.map (qd g.τ),R.ver,R.fz,R.off⟩],[],[0]⟩)
       |[],[]=>some (.tup [],none)
       |_,_=>none
     |false=>none
   |none=>none
 |none=>none
def xgP(g:qn3)(σ:St)(ys:List AV):Option (AV×Option St):=match dS σ g.args 0 0 ys with
 |some a=>match g.fn a with
   |some v=>some (.v (.int .i64 v),none)
   |none=>none
 |none=>none
def TC.spf(c:TC)(f:Nat):Option (St->List AV->Option (AV×Option St)):=match c.mf f with
 |some g=>some (mgP g)
 |none=>match c.xf f with
   |some g=>some (xgP g)
   |none=>match c.sf f with
     |some g=>some (sgP g)
     |none=>none
def TC.pc(c:TC):PC:=⟨c.ty,λ f=>match c.has f with
 |true=>some (ym c f)
 |false=>none,c.spf,c.pur,c.ld,c.inl⟩
theorem TC.raw_eq(c:TC):c.pc.cfg.raw=c.rawT:=by
 show c.pc.raw=c.rawT;funext f;unfold PC.raw TC.rawT;have e1:c.pc.pf f=match c.has f with|true=>some (ym c f)|false=>none:=rfl
 have a:c.pc.sp f=c.spf f:=rfl;rw[e1,a];unfold TC.spf;cases c.has f with
 |true=>rfl
 |false=>
   cases c.mf f with
   |some g=>rfl
   |none=>
     cases c.xf f with
     |some g=>rfl
     |none=>
       cases c.sf f with
       |none|some g=>rfl
theorem TC.lo_eq(c:TC):c.pc.cfg.lo=c.loT:=by
 show(λ f=>c.pc.raw f||(c.ld f||(c.inl f).isSome))=c.loT;funext f;have h:c.pc.raw f=c.rawT f:=congrFun c.raw_eq f;rw[h];rfl
section
variable {α:Type}{N:Nat×Nat}{m:Mp}{E:Env}{τ:TS}{tm:List AV}{σ:St}{K:KT α}{r:α}{p:Option (AV×Option St)}{c:TC}{C:Cfg}
theorem QO:∀{cs:List AV},(∀x∈cs,qk x=true)->rbL cs=[]/\rrL cs=[]
 |[],_=>⟨rfl,rfl⟩
 |x::cs,h=>by
   let⟨d,c⟩:=QO λ y a=>h y (wj _ a);have b:=h x (ww ..);rw[rbL,rrL,d,c];cases x<;>first|exact⟨rfl,rfl⟩|(simp[qk]at b)
theorem qaq{a:Ty}{y:AV}{v:Val a}(h:yW a y=some v):yo y=true/\∀ f cs,y ≠ .fn f cs:=by
 unfold yW at h;split at h
 case h_2=>cases h
 obtain⟨pre,h1,_,h3,_⟩:=zc a (qy.1 h);rw[wA]at h1;rw[<- h1]at h3;cases y with
 | agg cs =>
   obtain⟨g1,g2⟩:=QO (cs:=cs) h3;refine⟨?_,λ f cs h=>by cases h⟩;unfold yo;rw[rb,rr,g1,g2];rfl
 | v x| sl k es n| mc=>exact⟨rfl,λ f cs h=>by cases h⟩
 | _=>have:=h3 _ (wF.2 rfl);simp[qk]at this
theorem qd0:∀(a:Ty) (v:Val a),yo (zK a v)=true
 |.int _,_|.map _ _,_|.bool,_|.str,_|.list _,_=>rfl
 |.term,v=>by
   let⟨d,c⟩:=QO (qO .term v);show yo (.agg _)=true;unfold yo;rw[rb,rr,d,c];rfl
 |.pair a b,v=>by
   let⟨d,c⟩:=QO (qO (.pair a b) v);show yo (.agg _)=true;unfold yo;rw[rb,rr,d,c];rfl
 |.one a,v=>by
   let⟨d,c⟩:=QO (qO (.one a) v);show yo (.agg _)=true;unfold yo;rw[rb,rr,d,c];rfl
theorem qw7{y:AV}(h:∀z∈cellsOf y,qk z=true):rb y=[]/\rr y=[]:=by
 cases y with
 |agg cs=>
   let⟨b,a⟩:=QO (cs:=cs) h;exact⟨by rw[rb,b],by rw[rr,a]⟩
 |_=>exact qp4 (h _ (wF.2 rfl))
theorem qAX(g:zU m σ){a:Ty}{cs:List TV}{ds:List AV}{v:Val a}(k:∀y∈ds,rsC y=[])(j:qh3 (qeY m.rw a cs)=some v)(h:OKL m cs ds):qm a ds=some v/\∀y∈ds,qk y=true:=by
 let⟨l,c,f⟩:=qax g a (qbY j) h;cases f
 have e:∀y∈ds,qk y=true:=by
  let⟨pre,b,_,i,_⟩:=zc a c;rw[vG,wA]at b;intro y d;exact qik (k y d) (i _ (by rw[<-b];exact xb d))
 exact⟨qj9 e (qy.2 c),e⟩
theorem qEm(l:zU m σ){a:Ty}{x:TV}{y:AV}{v:Val a}(s:qiE x=true)(q:J5 m.rw a x=some v)(j:OK m x y):yW a y=some v/\rb y=[]/\rr y=[]:=by
 let⟨g,k⟩:=qdl l q j;have c:=qmU s j
 have d:∀z∈cellsOf y,rsC z=[]:=by
  intro z b;cases y with
  |agg cs=>exact ky.1 c z b
  |_=>cases wF.1 b;exact c
 have i:∀z∈cellsOf y,qk z=true:=by
  let⟨pre,e,_,p,_⟩:=zc a (qy.1 k);rw[wA]at e;intro z b;exact qik (d z b) (p _ (by rw[<-e];exact xb b))
 let⟨e1,t⟩:=qw7 i;refine⟨?_,e1,t⟩;have o:qm a (cellsOf y)=some v:=qj9 i k;unfold yW at g |-
 have h:jn (yb σ.rw y)=jn y:=by
  cases y with
  |agg cs=>rfl
  |rs r lo n u f=>simp[cellsOf,rsC]at d
  |_=>rfl
 rw[h]at g;split at g
 .exact o
 .cases g
theorem qlq{fb fr:Nat->Nat}{y:AV}(b:rb y=[])(a:rr y=[]):ren fb fr y=y:=qvf y b a
theorem qx3{pre post:List Nat}{b:Nat}(h:(pre++b::post).Nodup):(pre++b::post).idxOf b=pre.length:=qnn h (by rw[List.getElem?_append_right (wa _)];simp)
theorem qaM{fb fr:Nat->Nat}:∀l:List AV,qD fb fr l=l.map (ren fb fr)
 |[]=>rfl
 |x::l=>by rw[qD,qaM l];rfl
theorem quF{fb fr:Nat->Nat}(a b:List AV):qD fb fr (a++b)=qD fb fr a++qD fb fr b:=by rw[qaM,qaM,qaM,kK]
theorem qrw:∀a b:List AV,rbL (a++b)=rbL a++rbL b
 |[],_=>rfl
 |x::a,b=>by rw[List.cons_append,rbL,rbL,qrw a b,wk]
theorem qr6:∀a b:List AV,rrL (a++b)=rrL a++rrL b
 |[],_=>rfl
 |x::a,b=>by rw[List.cons_append,rrL,rrL,qr6 a b,wk]
theorem qxd(I:Rel N m E τ tm σ){t:Ty}{x:TV}{y:AV}{l:List (Val t)}{a:List Nat}(b:qeL τ.rw t x=some (l,a))(C:OK m x y):
  rb y=[]/\rr y=a.filterMap m.r/\(∀id∈a,id<m.rw.length)/\
  ∀(B pre post:List Nat) (fb:Nat->Nat),(pre++(a.filterMap m.r++post)).Nodup->qaX (qr σ B (pre++(a.filterMap m.r++post))) t pre.length (ren fb (λ r=>(pre++(a.filterMap m.r++post)).idxOf r) y)=some (l,pre.length+(a.filterMap m.r).length):=by
 have emp:dlist t y=some l->l=[]->2<=lvl y->a.filterMap m.r=[]->(∀id∈a,id<m.rw.length)->rb y=[]/\rr y=a.filterMap m.r/\(∀id∈a,id<m.rw.length)/\
   ∀(B pre post:List Nat) (fb:Nat->Nat),(pre++(a.filterMap m.r++post)).Nodup->qaX (qr σ B (pre++(a.filterMap m.r++post))) t pre.length (ren fb (λ r=>(pre++(a.filterMap m.r++post)).idxOf r) y)=some (l,pre.length+(a.filterMap m.r).length):=by
  intro u b g j h
  have f:rb y=[]/\rr y=[]:=by
   obtain⟨rfl,_⟩|⟨es,n,rfl,_⟩:=zN u<;>exact⟨rfl,rfl⟩
  refine⟨f.1,by rw[f.2,j],h,λ B pre post fb _=>?_⟩;rw[qlq f.1 f.2,j];subst b;obtain⟨rfl,_⟩|⟨es,n,rfl,_⟩:=zN u
  .simp only[qaX,u,decide_eq_true g];rfl
  .simp only[qaX,u,decide_eq_true g];rfl
 unfold qeL at b;split at b
 .cases b;cases C;exact emp rfl rfl (wa _) rfl (by simp)
 .split at b<;>cases b;rename_i D g;let⟨e,k⟩:=yp D;subst e;let⟨A,z⟩:=C;have k:_=_:=k;subst k;exact emp A rfl (wC (of_decide_eq_true g) z) rfl (by simp)
 .rename_i id K;split at b<;>try cases b
  rename_i R S;split at b<;>try cases b
  rename_i s;rw[wb,wJ]at s;split at b<;>cases b;rename_i D;let⟨e,k⟩:=yp D;subst e;have k:R.l=l:=k;subst k;let⟨R',H,_,_,P⟩:=C;have o:m.rw[id]?=some R:=by rw[I.rw];exact S
  rw[o]at H;cases H;have h:∀i∈[id],i<m.rw.length:=by intro i hi;rw[wF.1 hi];exact getElem?_lt o
  obtain⟨c,Q,w,rfl,v,G,F,O,M,T,L⟩|⟨w,v,G,F⟩:=qdm I.rows o (P (wg s.1))
  .have q:[id].filterMap m.r=[c]:=by simp[w]
   refine⟨rfl,by rw[q];rfl,h,λ B pre post fb J=>?_⟩;rw[q]at J |-
   have d:=qx3 J
   have p:(qr σ B (pre++([c]++post))).rw[pre.length]?=some Q:=by
    show((pre++c::post).map λ r=>σ.rw.getD r ⟨0,[],0,0,false⟩)[pre.length]?=_;rw[List.getElem?_map,List.getElem?_append_right (wa _),kP,List.getElem?_cons_zero];show some (σ.rw.getD c _)=_;rw[zg v]
   rw[ren];have d:(pre++([c]++post)).idxOf c=pre.length:=d;rw[d];simp only[qaX,p,O,L s.2,and_self,decide_true,M];rfl
  .exact emp G (v s.2) F (by simp[w]) h
 .cases b
theorem qpa(k:Rel N m E τ tm σ):∀{l:List RA}{cs:List TV}{ds:List AV}{v:CV l}{a:List Nat},Qk τ.rw l cs=some (v,a,true)->OKL m cs ds->
  rbL ds=[]/\rrL ds=a.filterMap m.r/\(∀id∈a,id<m.rw.length)/\
  ∀(B pre post:List Nat) (fb:Nat->Nat),(pre++(a.filterMap m.r++post)).Nodup->qcp (qr σ B (pre++(a.filterMap m.r++post))) l pre.length (qD fb (λ r=>(pre++(a.filterMap m.r++post)).idxOf r) ds)=some (v,pre.length+(a.filterMap m.r).length)
 |[],cs,ds,v,a,h,g=>by
   cases cs with
   |cons c cs=>simp[Qk]at h
   |nil=>
     cases g;simp only[Qk,wn,wG]at h;obtain⟨_,rfl,_⟩:=h;exact⟨rfl,rfl,by simp,λ B pre post fb _=>rfl⟩
 |.val t::l,cs,ds,v,a,h,g=>by
   simp only[Qk]at h;split at h<;>try (cases h;done)
   rename_i w vs e q x f;simp only[wn,wG,wb]at h;obtain⟨rfl,rfl,A,rfl⟩:=h;obtain⟨u,s,p,o⟩:=qpa k f (g.drop t.size);have H:=g.take t.size;have z:∀y∈ds.take t.size,rsC y=[]:=ky.1 (qfe H A);obtain⟨K,J⟩:=qAX k.rows z (by rw[k.rw];exact x) H;obtain⟨G,F⟩:=QO J;have b:ds=ds.take t.size++ds.drop t.size:=(kT _ _).symm;refine⟨by rw[b,qrw,G,u];rfl,by rw[b,qr6,F,s];rfl,p,λ B pre post fb n=>?_⟩;have e1:(qD fb (λ r=>(pre++(e.filterMap m.r++post)).idxOf r) ds).take t.size=ds.take t.size:=by rw[qaM,<-List.map_take,<-qaM,qlh _ G F]
   have L:(qD fb (λ r=>(pre++(e.filterMap m.r++post)).idxOf r) ds).drop t.size=qD fb (λ r=>(pre++(e.filterMap m.r++post)).idxOf r) (ds.drop t.size):=by rw[qaM,<-List.map_drop,<-qaM]
   rw[qcp,e1,K];simp only;rw[L,o B pre post fb n]
 |.row t::l,cs,ds,v,a,h,g=>by
   cases cs with
   |nil=>simp[Qk]at h
   |cons c cs=>
     obtain⟨d,ds,rfl,I,D⟩:=g;simp only[Qk]at h;split at h<;>try (cases h;done)
     rename_i w i vs j q x f;simp only[wn,wG]at h;obtain⟨rfl,rfl,rfl⟩:=h;obtain⟨Q,P,O,M⟩:=qxd k x I;obtain⟨u,s,p,o⟩:=qpa k f D;refine⟨by rw[rbL,Q,u];rfl,by rw[rrL,P,s,wZ],λ id C=>(wi.1 C).elim (O id) (p id),λ B pre post fb n=>?_⟩;rw[wZ,wk]at n |-
     rw[qD,qcp,M B pre (j.filterMap m.r++post) fb n];simp only;have:=o B (pre++i.filterMap m.r) post fb (by rw[wk];exact n);rw[wk,wd]at this;rw[this,wd,wN]
theorem qox(Q:Rel N m E τ tm σ):∀{sas:List SA}{xs:List TV}{ys:List AV}{a:jt sas}{p q:List Nat},zD τ sas xs=some (a,p,q)->OKL m xs ys->qgG sas=true->
  rbL ys=p.map m.b/\(qim sas=true->rrL ys=[])/\(rrL ys++p.flatMap λ b=>rrL (σ.bx.getD (m.b b) []))=q.filterMap m.r/\(∀b∈p,b<m.nb/\∃ds,σ.bx[m.b b]?=some ds/\rbL ds=[])/\(∀id∈q,id<m.rw.length)/\
  ∀(c d:List Nat),(c++p.map m.b).Nodup->(d++q.filterMap m.r).Nodup->
   dS (qr σ (c++p.map m.b) (d++q.filterMap m.r)) sas c.length d.length (qD (λ b=>(c++p.map m.b).idxOf b) (λ r=>(d++q.filterMap m.r).idxOf r) ys)=some a:=by
 intro sas
 induction sas with
 |nil=>
   intro xs ys a p q h X _;cases xs with
   |cons x xs=>simp[zD]at h
   |nil=>
     cases X;simp only[zD,wn,wG]at h;obtain⟨_,rfl,rfl⟩:=h;refine⟨rfl,λ _=>rfl,rfl,by simp,by simp,λ c d _ _=>?_⟩;simp[qD,dS,qr]
 |cons k sas P=>
   intro xs ys a p q h X i;cases xs with
   |nil=>cases k<;>simp[zD]at h
   |cons x xs=>
   obtain⟨y,ys,rfl,H,u⟩:=X;cases k with
   |val t=>
     simp only[zD]at h;split at h<;>try cases h
     rename_i v Y W;split at h<;>cases h;rename_i vs n f w;obtain⟨A,F,s,D,C,B⟩:=P w u i;obtain⟨g1,g2,g3⟩:=qEm Q.rows Y (by rw[Q.rw];exact W) H;refine⟨by rw[rbL,g2,A];rfl,λ J=>by rw[rrL,g3,F J];rfl,by rw[rrL,g3];exact s,D,C,λ c d O o=>?_⟩;rw[qD,qlq g2 g3,dS,g1];simp only;rw[B c d O o]
   |nil=>
     cases x with
     |nil=>
       have h:zD τ sas xs=some (a,p,q):=h;have H:y=.v (.slice none 0 0):=H;subst H;obtain⟨A,F,s,D,C,B⟩:=P h u i;refine⟨by rw[rbL,A];rfl,λ J=>by rw[rrL,F J];rfl,by rw[rrL];exact s,D,C,λ c d O o=>?_⟩;show dS _ (.nil::sas) _ _ (.v (.slice none 0 0)::qD _ _ ys)=_;exact B c d O o
     |_=>simp[zD]at h
   |clo g k=>
     cases x with
     |fn g' cs=>
       simp only[zD]at h;split at h<;>try cases h
       rename_i Z;rw[wb]at Z;obtain⟨cs',rfl,G⟩:=H;obtain⟨A,F,s,D,C,B⟩:=P h (G.append u) i;rw[qrw]at A;rw[qr6]at F s;refine⟨by rw[rbL,rb];exact A,λ J=>by rw[rrL,rr];exact F J,by rw[rrL,rr];exact s,D,C,λ c d O o=>?_⟩
       have aa:qvC g k (.fn g' (qD (λ b=>(c++p.map m.b).idxOf b) (λ r=>(d++q.filterMap m.r).idxOf r) cs'))=some (qD (λ b=>(c++p.map m.b).idxOf b) (λ r=>(d++q.filterMap m.r).idxOf r) cs'):=by
        have R:Nat.beq (qD (λ b=>(c++p.map m.b).idxOf b) (λ r=>(d++q.filterMap m.r).idxOf r) cs').length k=true:=by
         rw[qaM,wx,G.len];exact Z.2
        simp only[qvC,Z.1,R,kF]
       rw[qD,ren,dS,aa];simp only;rw[<-quF];exact B c d O o
     |_=>simp[zD]at h
   |row t=>
     simp only[zD]at h;split at h<;>try cases h
     rename_i l e hl;split at h<;>cases h;rename_i vs f w;obtain⟨A,F,s,D,C,B⟩:=P w u i;obtain⟨a1,a2,a3,a4⟩:=qxd Q hl H;refine⟨by rw[rbL,a1,A];rfl,λ J=>(by cases J),by rw[rrL,a2,wk,s,wZ],D,λ id K=>(wi.1 K).elim (a3 id) (C id),λ c d O o=>?_⟩;rw[wZ]at o |-
     rw[qD,dS,a4 _ d (f.filterMap m.r) _ o];simp only;have:=B c (d++e.filterMap m.r) O (by rw[wk];exact o);rw[wk,wd]at this;rw[this]
   |box l=>
     have z:qim sas=true/\qgG sas=true:=by
      have:(qim sas&&qgG sas)=true:=i;rw[wb]at this;exact this
     simp only[zD]at h;split at h<;>try cases h
     rename_i v e b j;split at h<;>cases h;rename_i vs n f w;obtain⟨A,F,s,D,C,B⟩:=P w u z.2;unfold qFN at j;split at j<;>try cases j
     rename_i b0 ac;split at j<;>try cases j
     rename_i cs G;split at j<;>cases j;rename_i W;obtain⟨ab,rfl⟩:=qC3 ac H;obtain⟨q1,q2,q3⟩:=qE6 l (m.b b);obtain⟨ds,d1,d2⟩:=Q.box _ cs G;obtain⟨p1,p2,p3,p4⟩:=qpa Q W d2;have I:=F z.1;rw[I,kD]at s;refine⟨by rw[rbL,A,q1];rfl,λ _=>by rw[rrL,I,q2];rfl,?_,λ V M=>?_,λ id K=>(wi.1 K).elim (p3 id) (C id),λ c d L o=>?_⟩
     .rw[rrL,I,q2,k8,s,zg d1,p2,wZ];rfl
     .rcases wM.1 M with rfl|M
      .exact⟨ab,ds,d1,p1⟩
      .exact D V M
     .rw[wz]at L |-
      rw[wZ]at o |-
      have S:=qx3 L
      have T:(qr σ (c++m.b b::n.map m.b) (d++(e.filterMap m.r++f.filterMap m.r))).bx[c.length]?=some (qD (λ V=>(c++m.b b::n.map m.b).idxOf V) (λ r=>(d++(e.filterMap m.r++f.filterMap m.r)).idxOf r) ds):=by
       show((c++m.b b::n.map m.b).map λ b=>qD _ _ (σ.bx.getD b []))[c.length]?=_;rw[List.getElem?_map,List.getElem?_append_right (wa _),kP,List.getElem?_cons_zero];show some (qD _ _ (σ.bx.getD (m.b b) []))=_;rw[zg d1]
      have U:qe9 (qr σ (c++m.b b::n.map m.b) (d++(e.filterMap m.r++f.filterMap m.r))) l c.length d.length (bxA l c.length)=some (v,d.length+(e.filterMap m.r).length):=by
       simp only[qe9,qC1,Nat.beq_refl,T];exact p4 _ d (f.filterMap m.r) _ o
      rw[qD,q3,S,dS,U];simp only;have:=B (c++[m.b b]) (d++e.filterMap m.r) (by rw[wk];exact L) (by rw[wk];exact o);rw[wk,wk,wd,wd]at this;have this:dS (qr σ (c++m.b b::n.map m.b) (d++(e.filterMap m.r++f.filterMap m.r))) sas (c.length+1) (d.length+(e.filterMap m.r).length) (qD (λ V=>(c++m.b b::n.map m.b).idxOf V) (λ r=>(d++(e.filterMap m.r++f.filterMap m.r)).idxOf r) ys)=some vs:=this;rw[this]
theorem qy4:∀{l:List Nat},l.Nodup->nd l=true
 |[],_=>rfl
 |b::l,h=>by
   rw[kO]at h;rw[nd,qy4 h.2];simp[h.1]
theorem qsc:∀{l seen:List Nat},l.Nodup->(∀b∈l,b ∉ seen)->qe seen l=l
 |[],seen,_,_=>rfl
 |b::l,seen,h,d=>by
   rw[kO]at h;rw[qe]
   have:seen.contains b=false:=by
    have:=d b (ww ..);simpa using this
   rw[this];simp only
   rw[qsc h.2 λ c e a=>by
    obtain rfl|a:=wM.1 a
    .exact h.1 e
    .exact d c (wj _ e) a]
theorem qC2{α:Type}{f:α->List Nat}{l:List α}(h:∀x∈l,f x=[]):l.flatMap f=[]:=ky.2 h
theorem qCc{α:Type}{f:α->List Nat}{l:List α}{x:α}{r:Nat}(a:x∈l)(b:r∈f x):r∈l.flatMap f:=wX.2 ⟨x,a,b⟩
theorem qoZ{ys:List AV}{B R:List Nat}(k:rbL ys=B)(e:(rrL ys++B.flatMap λ b=>rrL (σ.bx.getD b []))=R)(j:B.Nodup)(i:R.Nodup)(g:∀b∈B,∃ds,σ.bx[b]?=some ds/\rbL ds=[])(m:∀r∈R,r<σ.rw.length):
  yR σ ys=B/\JB σ ys=R/\qcY σ ys=true:=by
 have o:∀b∈B,rbL (σ.bx.getD b [])=[]:=λ b a=>by let⟨ds,c,f⟩:=g b a;rw[zg c];exact f
 have e1:yR σ ys=B:=by
  unfold yR;rw[k,qsc j (by simp)];cases σ.bx.length with
  |zero=>rfl
  |succ n=>rw[qg0,qC2 o];rfl
 have l:JB σ ys=R:=by
  unfold JB;rw[e1,e,qsc i (by simp)]
 refine⟨e1,l,?_⟩;unfold qcY;rw[e1,l,k,qy4 j,qy4 i];simp only[kJ,wb,wo,vW,decide_eq_true_eq];refine⟨⟨⟨λ _ h=>h,λ r h=>by rw[<-e];exact wi.2 (.inl h)⟩,λ b a=>?_⟩,m⟩;let⟨ds,c,f⟩:=g b a;refine⟨⟨getElem?_lt c,?_⟩,λ r d=>?_⟩
 .rw[zg c,f];simp
 .rw[<-e];exact wi.2 (.inr (qCc a d))
theorem qz7{fb fr:Nat->Nat}:∀l:List AV,ren fb fr (qX l)=qX (qD fb fr l)
 |[]|[x]|x::y::l=>rfl
theorem qvX{R:List Nat}{rn j:Nat}:qW R rn (R.length+j)=rn+j:=by
 unfold qW;rw[List.getElem?_eq_none (by omega)];show rn+(R.length+j-R.length)=_;omega
theorem qfU{B R:List Nat}{bn rn:Nat}:∀(l:List RA) (j:Nat) (v:CV l),qD (qW B bn) (qW R rn) (QI l (R.length+j) v)=QI l (rn+j) v
 |[],j,v=>rfl
 |.val a::l,j,v=>by
   let⟨c,b⟩:=QO (qO a v.1);rw[QI,quF,qlh _ c b,qfU l j v.2];rfl
 |.row a::l,j,v=>by
   have h:=qfU (B:=B) (R:=R) (bn:=bn) (rn:=rn) l (j+1) v.2;rw[<-wN,<-wN]at h;rw[QI,qD,ren,qvX,h];rfl
theorem qkb{rws:List qu}{B R:List Nat}{bn rn:Nat}:∀(b:List RE) (nb j:Nat) (v:RV b),B.length<=nb->qrF rws b nb j v->qD (qW B bn) (qW R rn) (QC b (R.length+j) v)=(QC b (rn+j) v).map λ y=>match y with
  |.ptr n o=>.ptr (bn+(n-B.length)) o
  |y=>y
 |[],nb,j,v,_,_=>rfl
 |.one (.val a)::b,nb,j,v,c,h=>by
   let⟨d,f⟩:=qbW (qd0 a v.1);rw[QC,qD,qlq d f,qkb b nb j v.2 c h,QC,wz];congr 1;split
   .rename_i n o e;rw[e]at d;cases d
   .rfl
 |.one (.row a)::b,nb,j,v,c,h=>by
   have h:=qkb (B:=B) (R:=R) (bn:=bn) (rn:=rn) b nb (j+1) v.2 c h;rw[<-wN,<-wN]at h;rw[QC,qD,ren,qvX,h];rfl
 |.agg l::b,nb,j,v,c,h=>by
   have h:=qkb (B:=B) (R:=R) (bn:=bn) (rn:=rn) b nb (j+nR l) v.2 c h;rw[<-wN,<-wN]at h;rw[QC,qD,ren,qfU l j v.1,h];rfl
theorem qhO{rws:List qu}{B R:List Nat}{bn rn:Nat}:∀(b:List RE) (nb j:Nat) (v:RV b),qrF rws b nb j v->(QS b (R.length+j) v).map (qD (qW B bn) (qW R rn))=QS b (rn+j) v
 |[],nb,j,v,_=>rfl
 |.one (.val a)::b,nb,j,v,h=>qhO b nb j v.2 h
 |.one (.row a)::b,nb,j,v,h=>qhO b nb (j+1) v.2 h
 |.agg l::b,nb,j,v,h=>by
   have h:=qhO (B:=B) (R:=R) (bn:=bn) (rn:=rn) b nb (j+nR l) v.2 h;rw[<-wN,<-wN]at h;exact h
theorem qeS{B R:List Nat}{bn rn:Nat}:∀(sas:List SA) (j:Nat) (o:yD sas),(jm sas (R.length+j) o).map (qD (qW B bn) (qW R rn))=jm sas (rn+j) o
 |[],j,o=>rfl
 |.nil::sas,j,o|.val _::sas,j,o|.row _::sas,j,o|.clo _ _::sas,j,o=>qeS sas j o
 |.box l::sas,j,o=>by
   have h:=qeS (B:=B) (R:=R) (bn:=bn) (rn:=rn) sas (j+nR l) o.2;rw[<-wN,<-wN]at h;rw[jm,wz,qfU l j,h];rfl
theorem qj4{e:Type}:∀(a:List Nat) (l ks b:List e),ks.length=a.length->∃c,qY l a (ks++b)=c++b/\c.length=l.length/\∀r,r ∉ a->c[r]?=l[r]?
 |[],l,ks,b,h=>by
   have:ks=[]:=we h;subst this;exact⟨l,by simp[qY],rfl,λ _ _=>rfl⟩
 |r::a,l,[],b,h=>by simp at h
 |r::a,l,k::ks,b,h=>by
   let⟨c,j,i,g⟩:=qj4 a (l.set r k) ks b (by simpa using h);refine⟨c,j,by rw[i,wE],λ q d=>?_⟩;rw[g q λ f=>d (wj _ f),List.getElem?_set_ne (by intro he;subst he;exact d (ww ..))]
def BxL(m:Mp):List (List TV)->List (List AV)->Prop
 |[],ys=>ys=[]
 |x::xs,ys=>∃y r,ys=y::r/\OKL m x y/\BxL m xs r
theorem BxL.mono{m':Mp}(h:MLe m m'):∀{xs:List (List TV)}{ys:List (List AV)},BxL m xs ys->BxL m' xs ys
 |[],ys,a=>a
 |x::xs,ys,⟨y,r,e,c,b⟩=>⟨y,r,e,c.mono h,BxL.mono h b⟩
theorem qsI:∀(a:List Nat) {τ:TS}{σ:St}{xs:List (List TV)}{ys:List (List AV)},Rel N m E τ tm σ->BxL m xs ys->xs.length=a.length->(∀b∈a,b<m.nb)->
  Rel N m E ⟨qib τ.bx a xs,τ.rw⟩ tm {σ with bx:=qY σ.bx (a.map m.b) ys}
 |[],τ,σ,xs,ys,f,e,d,_=>by
   have:xs=[]:=we d;subst this;cases e;show Rel N m E τ tm {σ with bx:=σ.bx++[]};rw[wA];exact f
 |b::a,τ,σ,xs,ys,f,e,d,g=>by
   cases xs with
   |nil=>simp at d
   |cons x xs=>
     obtain⟨y,r,rfl,j,i⟩:=e;have:=f.setBox (g b (ww ..)) j σ.wr;exact qsI a this i (by simpa using d) λ c h=>g c (wj _ h)
theorem qpY{a:Type}{l:List a}{i:Nat}{x:a}{f:a->a}(h:l[i]?=some x):l.modify i f=l.set i (f x):=by
 apply k9;intro j;rw[List.getElem?_modify,List.getElem?_set];by_cases b:i=j
 .subst b;rw[h,if_pos rfl,if_pos (getElem?_lt h)];simp
 .rw[if_neg b];cases l[j]? with
  |none=>rfl
  |some y=>simp[b]
theorem qv6:∀(a:List Nat) {m:Mp}{τ:TS},Rel N m E τ tm σ->(∀id∈a,id<m.rw.length)->
  ∃m',MLe m m'/\Rel N m' E ⟨τ.bx,qb9 τ.rw a⟩ tm σ/\m'.nb=m.nb/\m'.b=m.b/\m'.rw.length=m.rw.length/\(∀i r,m'.r i=some r->m.r i=some r/\i ∉ a)
 |[],m,τ,c,_=>⟨m,.refl m,c,rfl,rfl,rfl,λ i r h=>⟨h,by simp⟩⟩
 |id::a,m,τ,c,q=>by
   have n:=q id (ww ..);have g:=List.getElem?_eq_getElem n;generalize B:m.rw[id]=R at g;have e:MLe m (m.upd id ⟨R.τ,[],R.ver+1,R.sv,false⟩ none 0 []):=qzI g (wU _) (wa _) (λ h=>by have:R.ver+1=R.ver:=h;omega)
   have k:Rel N (m.upd id ⟨R.τ,[],R.ver+1,R.sv,false⟩ none 0 []) E ⟨τ.bx,τ.rw.modify id λ R=>⟨R.τ,[],R.ver+1,R.sv,false⟩⟩ tm σ:=by
    refine c.to e ?_ rfl rfl rfl (quq g c.rows (λ _=>rfl) λ _ _ _ _ _ _ h=>h) ?_
    .show m.rw.set id _=τ.rw.modify id _;rw[<-c.rw,qpY g]
    .intro i f r p o e1 j;change i<(m.rw.set id _).length at p;change f<(m.rw.set id _).length at o;change (if i=id then none else m.r i)=some r at e1;change (if f=id then none else m.r f)=some r at j;simp at p o;split at e1<;>split at j<;>first|(cases e1;done)|(cases j;done)|exact c.rinj i f r p o e1 j
   let⟨m',y,x,w,v,u,t⟩:=qv6 a k (λ i A=>by show i<(m.rw.set id _).length;rw[wE];exact q i (wj _ A));refine⟨m',e.trans y,x,w,v,by rw[u];show(m.rw.set id _).length=_;rw[wE],λ i r h=>?_⟩;let⟨d,s⟩:=t i r h;have d:(if i=id then none else m.r i)=some r:=d;split at d
   .cases d
   .rename_i l;exact⟨d,λ z=>(wM.1 z).elim l s⟩
def qfj(m:Mp)(L:Nat):Prop:=∀id r,id<m.rw.length->m.r id=some r->r<L
def At(m:Mp)(t L n:Nat):Prop:=∀k,k<n->∃R,m.rw[t+k]?=some R/\R.ver=0/\R.sv=0/\m.r (t+k)=some (L+k)/\m.v (t+k)=0
theorem At.mono{m m':Mp}{t L n:Nat}(h:At m t L n)(f:MLe m m')(e:∀(id:Nat) (R R':qu),m.rw[id]?=some R->m'.rw[id]?=some R'->R'=R):At m' t L n:=λ k g=>by
 let⟨R,c,o,l,j,i⟩:=h k g;let⟨R',d,_,_,p⟩:=f.row _ R c;cases e _ _ _ c d;let⟨_,a,b,_⟩:=p rfl;exact⟨R,d,o,l,a.trans j,b.trans i⟩
theorem At.join{m:Mp}{t L a b:Nat}(h:At m t L a)(g:At m (t+a) (L+a) b):At m t L (a+b):=λ k j=>by
 by_cases f:k<a
 .exact h k f
 .let⟨R,e,i,g3,c,d⟩:=g (k-a) (by omega);rw[show t+a+(k-a)=t+k by omega]at e c d;rw[show L+a+(k-a)=L+k by omega]at c;exact⟨R,e,i,g3,c,d⟩
theorem qxn(d:Rel N m E τ tm σ){L:Nat}{a:Ty}{l:List (Val a)}(n:qfj m L)(p:σ.rw[L]?=some ⟨a.size,l.map (qd a),0,0,false⟩):
  ∃m',MLe m m'/\Rel N m' E ⟨τ.bx,τ.rw++[⟨a,l,0,0,false⟩]⟩ tm σ/\OK m' (.row τ.rw.length 0) (.rs L 0 l.length 0 false)/\qfj m' (L+1)/\m'.b=m.b/\m'.nb=m.nb/\At m' τ.rw.length L 1:=by
 have e:=qlu m ⟨a,l,0,0,false⟩ (some L) 0 (l.map (qd a));have q:Qm σ ⟨a,l,0,0,false⟩ (some L) 0 (l.map (qd a)):=⟨⟨a.size,l.map (qd a),0,0,false⟩,p,rfl,rfl,rfl,JJ (yK a) l,wh _,λ _=>⟨rfl,rfl⟩⟩
 have i:Rel N (m.add ⟨a,l,0,0,false⟩ (some L) 0 (l.map (qd a))) E ⟨τ.bx,τ.rw++[⟨a,l,0,0,false⟩]⟩ tm σ:=by
  refine d.to e (by show m.rw++_=_;rw[d.rw]) rfl rfl rfl (qkc d.rows q λ _ _ h=>h) ?_;intro id c r f o e1 g;change id<(m.rw++[_]).length at f;change c<(m.rw++[_]).length at o;change (if id=m.rw.length then some L else m.r id)=some r at e1;change (if c=m.rw.length then some L else m.r c)=some r at g;simp at f o;split at e1<;>split at g
  .omega
  .have:=n c r (by omega) g;cases e1;omega
  .have:=n id r (by omega) e1;cases g;omega
  .exact d.rinj id c r (by omega) (by omega) e1 g
 refine⟨_,e,i,⟨⟨a,l,0,0,false⟩,?_,wh _,.inr (.inr ⟨_,_,_,_,_,rfl⟩),λ _=>?_⟩,λ id r f e1=>?_,rfl,rfl,λ k s=>?_⟩
 .show(m.rw++_)[τ.rw.length]?=_;rw[d.rw];simp
 .show Qp (if τ.rw.length=m.rw.length then some L else m.r τ.rw.length) (if τ.rw.length=m.rw.length then 0 else m.v τ.rw.length) a l _;rw[if_pos (by rw[d.rw]),if_pos (by rw[d.rw])];rfl
 .change id<(m.rw++[_]).length at f;change (if id=m.rw.length then some L else m.r id)=some r at e1;simp at f;split at e1
  .cases e1;omega
  .have:=n id r (by omega) e1;omega
 .have j:k=0:=by omega
  subst j;exact⟨⟨a,l,0,0,false⟩,by show(m.rw++_)[τ.rw.length+0]?=_;rw[d.rw];simp,rfl,rfl,by show(if τ.rw.length+0=m.rw.length then some L else _)=_;rw[if_pos (by rw[d.rw,wL])];rfl,by show(if τ.rw.length+0=m.rw.length then 0 else _)=_;rw[if_pos (by rw[d.rw,wL])]⟩
theorem qse{m m':Mp}{d:List qu}{rw a:List qu}(h:m.rw=rw)(f:m'.rw=a)(e:a=rw++d):∀(id:Nat) (R R':qu),m.rw[id]?=some R->m'.rw[id]?=some R'->R'=R:=λ id R R' c b=>by
 rw[f,e,<-h,List.getElem?_append_left (getElem?_lt c),c]at b;exact(kz b).symm
theorem qhL:∀(l:List RA) {m:Mp}{τ:TS}{L:Nat}{v:CV l},Rel N m E τ tm σ->qfj m L->(∀(k:Nat) (Q:Row),(qc0 l v)[k]?=some Q->σ.rw[L+k]?=some Q)->
  ∃m',MLe m m'/\Rel N m' E ⟨τ.bx,τ.rw++Qo l v⟩ tm σ/\OKL m' (qcA l τ.rw.length v) (QI l L v)/\qfj m' (L+nR l)/\m'.b=m.b/\m'.nb=m.nb/\At m' τ.rw.length L (nR l)
 |[],m,τ,L,v,f,g,_=>⟨m,.refl m,by show Rel N m E ⟨τ.bx,τ.rw++[]⟩ tm σ;rw[wA];exact f,rfl,g,rfl,rfl,λ k j=>absurd j (wD _)⟩
 |.val a::l,m,τ,L,v,f,g,i=>by
   let⟨m',h,c,e,p,o,n,d⟩:=qhL l (v:=v.2) f g i;exact⟨m',h,c,(yT (yK a v.1)).append e,p,o,n,d⟩
 |.row a::l,m,τ,L,v,f,g,i=>by
   let⟨y,x,q,w,u,t,s,r⟩:=qxn f (a:=a) (l:=v.1) g (i 0 _ rfl)
   let⟨m',h,c,e,p,o,n,d⟩:=qhL l (v:=v.2) (L:=L+1) q u λ k Q j=>by
    have:=i (k+1) Q j;rw[<-this];congr 1;omega
   have c:Rel N m' E ⟨τ.bx,(τ.rw++[⟨a,v.1,0,0,false⟩])++Qo l v.2⟩ tm σ:=c;rw[wk]at c;have e:OKL m' (qcA l (τ.rw++([⟨a,v.1,0,0,false⟩]:List qu)).length v.2) (QI l (L+1) v.2):=e;have d:At m' (τ.rw++([⟨a,v.1,0,0,false⟩]:List qu)).length (L+1) (nR l):=d;rw[wd]at e d
   exact⟨m',x.trans h,c,⟨_,_,rfl,w.mono h,e⟩,(by rw[nR,<-wN,vb];exact p),o.trans t,n.trans s,by
    rw[nR,wad];exact(r.mono h (qse q.rw c.rw (wk ..).symm)).join d⟩
theorem qeN:∀(sas:List SA) {m:Mp}{τ:TS}{L:Nat}{o:yD sas},Rel N m E τ tm σ->qfj m L->(∀(k:Nat) (Q:Row),(js sas o)[k]?=some Q->σ.rw[L+k]?=some Q)->
  ∃m',MLe m m'/\Rel N m' E ⟨τ.bx,τ.rw++QT sas o⟩ tm σ/\BxL m' (qbM sas τ.rw.length o) (jm sas L o)/\qfj m' (L+nrB sas)/\m'.b=m.b/\m'.nb=m.nb/\At m' τ.rw.length L (nrB sas)
 |[],m,τ,L,o,c,d,_=>⟨m,.refl m,by show Rel N m E ⟨τ.bx,τ.rw++[]⟩ tm σ;rw[wA];exact c,rfl,d,rfl,rfl,λ k e=>absurd e (wD _)⟩
 |.nil::sas,m,τ,L,o,c,d,a|.val _::sas,m,τ,L,o,c,d,a|.row _::sas,m,τ,L,o,c,d,a|.clo _ _::sas,m,τ,L,o,c,d,a=>qeN sas (o:=o) c d a
 |.box l::sas,m,τ,L,o,c,d,a=>by
   have a:∀(k:Nat) (Q:Row),(qc0 l (toC l o.1)++js sas o.2)[k]?=some Q->σ.rw[L+k]?=some Q:=a;let⟨y,x,j,w,u,t,s,r⟩:=qhL l (v:=toC l o.1) c d λ k Q e=>a k Q (by rw[List.getElem?_append_left (getElem?_lt e)];exact e)
   let⟨m',i,f,h,q,p,n,g⟩:=qeN sas (o:=o.2) (L:=L+nR l) j u λ k Q e=>by
    have:=a (nR l+k) Q (by rw[List.getElem?_append_right (by rw[Q4];omega),Q4,kG];exact e);rw[<-this,wN]
   have f:Rel N m' E ⟨τ.bx,(τ.rw++Qo l (toC l o.1))++QT sas o.2⟩ tm σ:=f;rw[wk]at f;have h:BxL m' (qbM sas (τ.rw++Qo l (toC l o.1)).length o.2) (jm sas (L+nR l) o.2):=h;have g:At m' (τ.rw++Qo l (toC l o.1)).length (L+nR l) (nrB sas):=g;rw[wd,jY]at h g;exact⟨m',x.trans i,f,⟨_,_,rfl,w.mono i,h⟩,(by rw[nrB,<-wN];exact q),p.trans t,n.trans s,(r.mono i (qse j.rw f.rw (wk ..).symm)).join g⟩
theorem qCJ{τ a:TS}{m':Mp}(h:Rel N m E τ tm σ)(e:m'=m)(b:a=τ):Rel N m' E a tm σ:=by subst e;subst b;exact h
theorem qxc{rws:List qu}{t0 L0:Nat}{m m':Mp}{rw o:List qu}(h:m.rw=rw)(t:MLe m m')(w:m'.rw=rw++o)(s:∀(p:Nat) (R:qu),rws[p]?=some R->∃q,m.rw[t0+p]?=some R/\R.ver=0/\R.sv=0/\m.r (t0+p)=some q/\q=L0+p/\m.v (t0+p)=0/\m.q (t0+p)=R.l.map (qd R.τ)):
  ∀(p:Nat) (R:qu),rws[p]?=some R->∃q,m'.rw[t0+p]?=some R/\R.ver=0/\R.sv=0/\m'.r (t0+p)=some q/\q=L0+p/\m'.v (t0+p)=0/\m'.q (t0+p)=R.l.map (qd R.τ):=λ p R u=>by
 let⟨q,d,n,k,j,i,g,f⟩:=s p R u;let⟨R',e,_,_,x⟩:=t.row _ R d;cases qse h w rfl _ _ _ d e;let⟨_,a,b,_,c,_⟩:=x rfl;exact⟨q,e,n,k,a.trans j,i,b.trans g,(c rfl).trans f⟩
theorem Rel.addBox{τ:TS}(d:Rel N m E τ tm σ){cs:List TV}{ds:List AV}{g:Nat}(h:σ.bx[g]?=some ds)(k:OKL m cs ds)(n:∀b,b<m.nb->m.b b≠g):
  ∃m',MLe m m'/\Rel N m' E ⟨τ.bx++[cs],τ.rw⟩ tm σ/\(∀b,b<m'.nb->(b<m.nb/\m'.b b=m.b b)\/m'.b b=g)/\(m'.rw=m.rw/\m'.r=m.r/\m'.v=m.v/\m'.q=m.q):=by
 have e:MLe m ⟨λ i=>if i=m.nb then g else m.b i,m.nb+1,m.r,m.v,m.q,m.rw⟩:=⟨wU _,λ i o=>if_neg (ve o),λ id R h=>⟨R,h,wa _,wa _,λ _=>⟨rfl,rfl,rfl,rfl,λ _=>rfl,λ _ _ h=>h⟩⟩⟩
 refine⟨_,e,⟨d.len,λ t=>(d.env t).mono e,d.rw,by show m.nb+1=(τ.bx++[cs]).length;rw[wd,d.nb];rfl,λ b cs' a=>?_,λ b c a k f=>?_,d.rows,d.rinj,qos e d.pin⟩,λ b a=>?_,rfl,rfl,rfl,rfl⟩
 .have a:(τ.bx++[cs])[b]?=some cs':=a;show ∃ds,σ.bx[if b=m.nb then g else m.b b]?=some ds/\_;by_cases j:b<τ.bx.length
  .rw[List.getElem?_append_left j]at a;rw[if_neg (by rw[d.nb];exact ve j)];let⟨l,s,p⟩:=d.box b cs' a;exact⟨l,s,p.mono e⟩
  .have:b=τ.bx.length:=by
     have:=getElem?_lt a;simp at this;omega
   subst this;rw[List.getElem?_append_right (wa _),kP]at a;cases a;rw[if_pos d.nb.symm];exact⟨ds,h,k.mono e⟩
 .have a:b<m.nb+1:=a;have k:c<m.nb+1:=k;have f:(if b=m.nb then g else m.b b)=(if c=m.nb then g else m.b c):=f;split at f<;>split at f
  .omega
  .exact absurd f.symm (n c (by omega))
  .exact absurd f (n b (by omega))
  .exact d.inj b c (by omega) (by omega) f
 .have a:b<m.nb+1:=a;show(b<m.nb/\(if b=m.nb then g else m.b b)=m.b b)\/(if b=m.nb then g else m.b b)=g;by_cases f:b=m.nb
  .exact .inr (if_pos f)
  .exact .inl ⟨by omega,if_neg f⟩
theorem qjF{rws:List qu}{t0 L0 bn B NB:Nat}:∀(c:List RE) {m:Mp}{τ:TS}{nb d:Nat}{v:RV c},Rel N m E τ tm σ->qfj m (L0+d)->τ.rw.length=t0+d->(∀(p:Nat) (R:qu),rws[p]?=some R->∃q,m.rw[t0+p]?=some R/\R.ver=0/\R.sv=0/\m.r (t0+p)=some q/\q=L0+p/\m.v (t0+p)=0/\m.q (t0+p)=R.l.map (qd R.τ))->qrF rws c nb d v->(∀(k:Nat) (Q:Row),(jT c v)[k]?=some Q->σ.rw[L0+d+k]?=some Q)->
  τ.bx.length=bn+(nb-NB)->NB<=nb->B+(nb-NB)+(QS c (L0+d) v).length<=σ.bx.length->(∀b,b<m.nb->m.b b<B+(nb-NB))->(∀(k:Nat) (ds:List AV),(QS c (L0+d) v)[k]?=some ds->σ.bx[B+(nb-NB)+k]?=some ds)->
  ∃m',MLe m m'/\Rel N m' E ⟨τ.bx++qlX c τ.rw.length v,τ.rw++qms c v⟩ tm σ/\OKL m' (qlK bn NB c τ.rw.length v) ((QC c (L0+d) v).map λ y=>match y with|.ptr n o=>.ptr (B+(n-NB)) o|y=>y)
 |[],m,τ,nb,d,v,t,_,_,_,_,_,_,_,_,_,_=>⟨m,.refl m,qCJ t rfl (by show(⟨τ.bx++[],τ.rw++[]⟩:TS)=τ;rw[wA,wA]),rfl⟩
 |.one (.val a)::c,m,τ,nb,d,v,t,D,z,A,C,u,i,h,g,f,e=>by
   let⟨m',x,s,j⟩:=qjF c (v:=v.2) t D z A C u i h g f e;refine⟨m',x,s,⟨_,_,rfl,?_,j⟩⟩;have:=qnj (m:=m') a v.1;show OK m' _ (match zK a v.1 with|.ptr n o=>.ptr (B+(n-NB)) o|y=>y);split
   .rename_i n o P;have M:=(qbW (qd0 a v.1)).1;rw[P]at M;cases M
   .exact this
 |.one (.row a)::c,m,τ,nb,d,v,t,D,z,A,C,u,i,h,g,f,e=>by
   let⟨O,G,F,L,K,J,I,S⟩:=qxn t (a:=a) (l:=v.1) D (u 0 _ rfl)
   let⟨m',x,s,j⟩:=qjF c (B:=B) (nb:=nb) (v:=v.2) (d:=d+1) F K (by show(τ.rw++[_]).length=_;rw[wd,z];rfl) (qxc t.rw G F.rw A) C (λ k Q w=>by
    have:=u (k+1) Q w;rw[<-this];congr 1;omega) i h g (by rw[J,I];exact f) e
   have s:Rel N m' E ⟨τ.bx++qlX c (τ.rw++([⟨a,v.1,0,0,false⟩]:List qu)).length v.2,(τ.rw++[⟨a,v.1,0,0,false⟩])++qms c v.2⟩ tm σ:=s;rw[wk,wd]at s;have j:OKL m' (qlK bn NB c (τ.rw++([⟨a,v.1,0,0,false⟩]:List qu)).length v.2) _:=j;rw[wd]at j;exact⟨m',G.trans x,s,⟨_,_,rfl,L.mono x,j⟩⟩
 |.agg l::c,m,τ,nb,d,v,t,D,z,A,C,u,i,h,g,f,e=>by
   have u:∀(k:Nat) (Q:Row),(qc0 l v.1++jT c v.2)[k]?=some Q->σ.rw[L0+d+k]?=some Q:=u;let⟨O,G,F,L,K,J,I,S⟩:=qhL l (v:=v.1) t D λ k Q w=>u k Q (by rw[List.getElem?_append_left (getElem?_lt w)];exact w)
   let⟨m',x,s,j⟩:=qjF c (B:=B) (nb:=nb) (v:=v.2) (d:=d+nR l) F (by rw[<-wN];exact K) (by show(τ.rw++_).length=_;rw[wd,z,jY,wN]) (qxc t.rw G F.rw A) C (λ k Q w=>by
    have:=u (nR l+k) Q (by rw[List.getElem?_append_right (by rw[Q4];omega),Q4,kG];exact w);rw[<-this];congr 1;omega) i h (by rw[<-wN];exact g) (by rw[J,I];exact f) (λ k ds w=>by rw[<-wN]at w;exact e k ds w)
   have s:Rel N m' E ⟨τ.bx++qlX c (τ.rw++Qo l v.1).length v.2,(τ.rw++Qo l v.1)++qms c v.2⟩ tm σ:=s;rw[wk,wd,jY]at s;have j:OKL m' (qlK bn NB c (τ.rw++Qo l v.1).length v.2) _:=j;rw[wd,jY,<-wN]at j;have H:OK m' (.agg (qcA l τ.rw.length v.1)) (.agg (QI l (L0+d) v.1)):=⟨_,rfl,L.mono x⟩
   exact⟨m',G.trans x,s,⟨_,_,rfl,H,j⟩⟩
theorem qbF{τ:TS}:∀{sas:List SA}{xs:List TV}{a:jt sas}{c d:List Nat},zD τ sas xs=some (a,c,d)->∀(L:Nat) (o:yD sas),(qbM sas L o).length=c.length
 |[],xs,a,c,d,h,L,o=>by
   cases xs with
   |nil=>simp only[zD,wn,wG]at h;rw[<-h.2.1];rfl
   |cons x xs=>simp[zD]at h
 |.nil::sas,xs,a,c,d,h,L,o=>by
   cases xs with
   |nil=>simp[zD]at h
   |cons x xs=>
     cases x with
     |nil=>exact qbF (sas:=sas) h L o
     |_=>simp[zD]at h
 |.clo g k::sas,xs,a,c,d,h,L,o=>by
   cases xs with
   |nil=>simp[zD]at h
   |cons x xs=>
     cases x with
     |fn e cs=>
       simp only[zD]at h;split at h<;>try cases h
       exact qbF (sas:=sas) h L o
     |_=>simp[zD]at h
 |.val t::sas,xs,a,c,d,h,L,o=>by
   cases xs with
   |nil=>simp[zD]at h
   |cons x xs=>
     simp only[zD]at h;split at h<;>try cases h
     split at h<;>cases h;rename_i b;exact qbF (sas:=sas) b L o
 |.row t::sas,xs,a,c,d,h,L,o=>by
   cases xs with
   |nil=>simp[zD]at h
   |cons x xs=>
     simp only[zD]at h;split at h<;>try cases h
     split at h<;>cases h;rename_i b;exact qbF (sas:=sas) b L o
 |.box t::sas,xs,a,c,d,h,L,o=>by
   cases xs with
   |nil=>simp[zD]at h
   |cons x xs=>
     simp only[zD]at h;split at h<;>try cases h
     split at h<;>cases h;rename_i b;rw[qbM,wB,wB,qbF (sas:=sas) b _ o.2]
theorem qgW:∀{l:List Nat},ndN l=true->l.Nodup
 |[],_=>kN
 |b::l,h=>by
   rw[ndN,wb,wo]at h;refine kO.2 ⟨λ a=>?_,qgW h.2⟩;have:=h.1 b a;simp at this
theorem qpA{f:Nat->Nat}:∀{l:List Nat},l.Nodup->(∀a∈l,∀b∈l,f a=f b->a=b)->(l.map f).Nodup
 |[],_,_=>kN
 |b::l,h,e=>by
   rw[kO]at h;rw[wz,kO];refine⟨λ g=>?_,qpA h.2 λ a j c d=>e a (wj _ j) c (wj _ d)⟩;let⟨c,d,i⟩:=wI.1 g;have:=e c (wj _ d) b (ww ..) i;subst this;exact h.1 d
theorem qt7{f:Nat->Option Nat}:∀{l:List Nat},l.Nodup->(∀a∈l,∀b∈l,∀r,f a=some r->f b=some r->a=b)->(l.filterMap f).Nodup
 |[],_,_=>kN
 |b::l,h,i=>by
   rw[kO]at h;have g:=qt7 h.2 λ a m c d=>i a (wj _ m) c (wj _ d);cases e:f b with
   |none=>rw[xo e];exact g
   |some r=>
     rw[xe e,kO];refine⟨λ j=>?_,g⟩;let⟨c,d,k⟩:=kQ.1 j;have:=i c (wj _ d) b (ww ..) r k e;subst this;exact h.1 d
theorem qtq{xs:List TV}{ys:List AV}(h:OKL m xs ys):OK m (qlN xs) (qX ys):=by
 cases xs with
 |nil=>cases h;exact⟨[],rfl,rfl⟩
 |cons x xs=>
   obtain⟨y,r,rfl,d,c⟩:=h;cases xs with
   |nil=>cases c;exact d
   |cons x' xs=>
     obtain⟨a,b,rfl,f,e⟩:=c;show OK m (.tup (x::x'::xs)) (.tup (y::a::b));exact(⟨y::a::b,rfl,y,_,rfl,d,a,_,rfl,f,e⟩:∃ds,AV.tup (y::a::b)=.tup ds/\OKL m (x::x'::xs) ds)
theorem qAf(b:List Nat):∀rw:List qu,(qb9 rw b).length=rw.length:=by
 induction b with
 |nil=>intro rw;rfl
 |cons a b c=>
   intro rw;show(qb9 (rw.modify a _) b).length=_;rw[c,vw]
theorem qAr{f:Nat}{xs:List TV}{ys:List AV}(hr:Rel N m E τ tm σ)(ho:OKL m xs ys)(hh:c.has f=false){g:qmI}(hg:c.mf f=some g)(h:qvz τ g xs K=some r):Sim N m E τ tm σ K r (Jr c.pc f σ ys):=by
 obtain⟨t,sas,fn⟩:=g;unfold qvz at h;split at h
 case h_2=>cases h
 rename_i x xs;split at h
 case h_2=>cases h
 rename_i l ids a hl ha;split at h
 case h_2=>cases h
 rename_i hord
 replace hl:qeL τ.rw t x=some (l,ids):=hl
 have hids:ids=[]\/∃ id,ids=[id]:=by
  have hl:=hl;unfold qeL at hl
  repeat' split at hl
  all_goals first | (cases hl;done) | (cases hl;exact .inl rfl) | (cases hl;exact .inr ⟨_,rfl⟩)
 have hs:zD τ (.row t::sas) (x::xs)=some ((l,a),[],ids):=by
  rw[zD,hl];simp only;rw[ha];simp only[wA]
 obtain⟨i1,_,i2,i3,i4,i5⟩:=qox hr hs ho hord
 have hp:∀(σ':Option St) (v:List (Val t)) (R:List Nat),JB σ ys=R->yR σ ys=[]->qcY σ ys=true->fn (l,a)=some v->dS (qr σ [] R) (.row t::sas) 0 0 (qD (λ b=>([]:List Nat).idxOf b) (λ r=>R.idxOf r) ys)=some (l,a)->Nat.beq v.length l.length=true ->
   (match(qr σ [] R).bx,(qr σ [] R).rw with
    | [],[Q]=>some (AV.tup [],some (⟨[],[⟨Q.k,v.map (qd t),Q.ver,Q.fz,Q.off⟩],[],[0]⟩:St))
    | [],[]=>some (.tup [],none)
    | _,_=>none)=some (.tup [],σ')->Jr c.pc f σ ys=some (qcU σ [] R (.tup [],σ')):=by
  intro σ' v R h1 h2 h3 h4 h5 h6 h7;unfold Jr;have e1:c.pc.pf f=none:=by show(match c.has f with | true=>some (ym c f) | false=>none)=_;rw[hh]
  have e2:c.pc.sp f=some (mgP ⟨t,sas,fn⟩):=by show c.spf f=_;unfold TC.spf;rw[hg]
  rw[e1,e2];simp only;unfold jh;rw[h3,h2,h1]
  have hm:mgP ⟨t,sas,fn⟩ (qr σ [] R) (qD (λ b=>([]:List Nat).idxOf b) (λ r=>R.idxOf r) ys)=some (.tup [],σ'):=by
   unfold mgP;rw[h5];simp only[h4,h6];exact h7
  simp only[hm]
 have fin:∀(R:List Nat),ids.filterMap m.r=R->JB σ ys=R/\yR σ ys=[]/\qcY σ ys=true/\dS (qr σ [] R) (.row t::sas) 0 0 (qD (λ b=>([]:List Nat).idxOf b) (λ r=>R.idxOf r) ys)=some (l,a):=by
  intro R hR
  have nr:R.Nodup:=by
   rw[<- hR];rcases hids with rfl | ⟨id,rfl⟩
   ·exact kN
   ·cases hq:m.r id with
    | none=>rw[xo hq];exact kN
    | some q=>rw[xe hq];exact kO.2 ⟨kW,kN⟩
  have hRlt:∀ q∈R,q < σ.rw.length := λ q hq=>by
   rw[<- hR]at hq;obtain⟨id,h1,h2⟩:=kQ.1 hq;exact hr.row_lt (i4 id h1) h2
  obtain⟨s1,s2,s3⟩:=qoZ (σ := σ) (B:=[]) (R:=R) i1 (by rw[<- hR];exact i2) kN nr (λ b hb=>by cases hb) hRlt;have:=i5 [] [] kN (by rw[kD,hR];exact nr);rw[hR]at this;exact⟨s2,s1,s3,this⟩
 split at h
 case h_3=>cases h
 ·rename_i id;obtain⟨v,hv,h1⟩:=Qu h;obtain⟨hlen,h2⟩:=yI h1;clear h h1;have hvl:v.length=l.length:=wg hlen;have hl0:=hl;unfold qeL at hl;split at hl
  ·cases hl
  ·split at hl<;>cases hl
  ·rename_i id' ver;split at hl<;>try cases hl
   rename_i Rw hRw;split at hl<;>try cases hl
   rename_i hvs;rw[wb,wJ]at hvs;split at hl<;>cases hl;rename_i hc;obtain⟨e,he⟩:=yp hc;subst e;have he:Rw.l=l:=he;subst he;have hR':m.rw[id]?=some Rw:=by rw[hr.rw];exact hRw
   have hgood:=hr.rows id Rw hR';have hmod : τ.rw.modify id (λ R=>(⟨Rw.τ,v,R.ver,R.sv+1,false⟩:qu)) = τ.rw.set id ⟨Rw.τ,v,Rw.ver,Rw.sv+1,false⟩:=qpY hRw;have h:K (.tup []) (some ⟨τ.bx,τ.rw.modify id λ R=>⟨Rw.τ,v,R.ver,R.sv+1,false⟩⟩)=some r:=h2;rw[hmod]at h;cases hq:m.r id with
   | none =>
     obtain⟨s1,s2,s3,s4⟩:=fin [] (by rw[xo hq];rfl);have hpc:=hp none v [] s1 s2 s3 hv s4 hlen rfl;rw[hq]at hgood;have hn:Rw.l=[]:=hgood hvs.2;have hvn:v=[]:=we (by rw[hvl,hn];rfl)
     obtain⟨m',g1,g2,_⟩:=hr.rowUpd (R2:=⟨Rw.τ,v,Rw.ver,Rw.sv+1,false⟩) hRw none (m.v id) (m.q id) (wa _) (wU _)
      (λ _=>⟨hvl,hq.symm,rfl,rfl,λ _=>rfl,λ _ y hy=>by rw[hvn,<- hn];exact hy⟩) (σ' := σ) rfl (λ _=>hvn)
      (λ id' r' h1 h2 h3=>⟨(by intro h;cases h),λ Q hQ=>hQ⟩)
     exact⟨_,_,_,none,m',h,hpc,g1,g2,⟨[],rfl,rfl⟩,λ h=>by cases h⟩
   | some q =>
     obtain⟨s1,s2,s3,s4⟩:=fin [q] (by rw[xe hq];rfl);rw[hq]at hgood;obtain⟨Q,k2,kc,kv,kk,kd,kf,ks⟩:=hgood;have hsub:(qr σ [] [q]).rw=[Q]:=by show[σ.rw.getD q ⟨0,[],0,0,false⟩]=[Q];rw[zg k2]
     have hpc:=hp (some ⟨[],[⟨Q.k,v.map (qd Rw.τ),Q.ver,Q.fz,Q.off⟩],[],[0]⟩) v [q] s1 s2 s3 hv s4 hlen (by rw[hsub];rfl);have hrl:q < σ.rw.length:=getElem?_lt k2
     have hbk:qcU σ [] [q] (.tup [],some ⟨[],[⟨Q.k,v.map (qd Rw.τ),Q.ver,Q.fz,Q.off⟩],[],[0]⟩)=(.tup [],some { σ with rw := σ.rw.set q ⟨Q.k,v.map (qd Rw.τ),Q.ver,Q.fz,Q.off⟩,wrr:=q :: σ.wrr }):=by
      simp[qcU,qdv,qY,ren,qD,qW]
     rw[hbk]at hpc
     obtain⟨m',g1,g2,_⟩:=hr.rowUpd (R2:=⟨Rw.τ,v,Rw.ver,Rw.sv+1,false⟩) hRw (m.r id) (m.v id) (v.map (qd Rw.τ)) (wa _) (wU _)
      (λ _=>⟨hvl,rfl,rfl,rfl,(λ h=>by have:Rw.sv+1=Rw.sv:=h;omega),(λ h=>by rw[hq]at h;cases h)⟩) (σ':={ σ with rw := σ.rw.set q ⟨Q.k,v.map (qd Rw.τ),Q.ver,Q.fz,Q.off⟩,wrr:=q :: σ.wrr }) rfl
      (by
       rw[hq];refine⟨⟨Q.k,v.map (qd Rw.τ),Q.ver,Q.fz,Q.off⟩,by show(σ.rw.set q _)[q]?=_;rw[List.getElem?_set_self hrl],rfl,kv,kk,JJ (yK Rw.τ) v,?_,λ _=>ks hvs.2⟩;show Q.fz<=(v.map _).length;rw[(ks hvs.2).1];exact wh _)
      (λ id' r'' h1 h2 h3=>by
       have hne:=hr.others hRw hq h1 h2 h3;refine⟨λ he=>by rw[hq]at he;exact hne (kz he).symm,λ Q' hQ'=>?_⟩;show(σ.rw.set q _)[r'']?=_;rw[List.getElem?_set_ne (xw hne)];exact hQ')
     exact .to h hpc g1 g2 ⟨[],rfl,rfl⟩
  ·cases hl
 ·obtain⟨v,hv,h⟩:=Qu h;obtain⟨hlen,h⟩:=yI h;obtain⟨s1,s2,s3,s4⟩:=fin [] rfl;have hpc:=hp none v [] s1 s2 s3 hv s4 hlen rfl;exact .same hr h hpc ⟨[],rfl,rfl⟩
theorem qzB{f:Nat}{xs:List TV}{ys:List AV}(hr:Rel N m E τ tm σ)(ho:OKL m xs ys)(hh:c.has f=false)(hmf:c.mf f=none){g:qn3}(hg:c.xf f=some g)(h:quJ τ g xs K=some r):Sim N m E τ tm σ K r (Jr c.pc f σ ys):=by
 unfold quJ at h;split at h
 case h_2=>cases h
 rename_i a bs rs hvs;split at h
 case h_2=>cases h
 rename_i hnd;rw[wb,wb]at hnd;obtain⟨hnd1,hnd2,hord⟩:=hnd;obtain⟨v,hv,h⟩:=Qu h;obtain⟨i1,_,i2,i3,i4,i5⟩:=qox hr hvs ho hord;have nb:=qpA (f:=m.b) (qgW hnd1) λ x hx y hy he=>hr.inj x y (i3 x hx).1 (i3 y hy).1 he;have nr:=qt7 (f:=m.r) (qgW hnd2) λ x hx y hy q e1 e2=>hr.rinj x y q (i4 x hx) (i4 y hy) e1 e2
 have hRlt:∀ q∈rs.filterMap m.r,q < σ.rw.length := λ q hq=>by
  obtain⟨id,h1,h2⟩:=kQ.1 hq;exact hr.row_lt (i4 id h1) h2
 have i2':(rrL ys++(bs.map m.b).flatMap λ b=>rrL (σ.bx.getD b []))=rs.filterMap m.r:=by rw[xT];exact i2
 obtain⟨s1,s2,s3⟩:=qoZ (σ := σ) i1 i2' nb nr (λ b hb=>by obtain⟨b0,h1,rfl⟩:=wI.1 hb;exact(i3 b0 h1).2) hRlt;have hd:=i5 [] [] nb nr;rw[kD,kD]at hd;generalize hB:bs.map m.b=B at *;generalize hR:rs.filterMap m.r=R at *
 have hsg:xgP g (qr σ B R) (qD (λ b=>B.idxOf b) (λ r=>R.idxOf r) ys)=some (.v (.int .i64 v),none):=by
  unfold xgP;have hd:dS (qr σ B R) g.args 0 0 (qD (λ b=>B.idxOf b) (λ r=>R.idxOf r) ys)=some a:=hd;rw[hd];simp only[hv]
 have hpc:Jr c.pc f σ ys=some (.v (.int .i64 v),none):=by
  unfold Jr;have e1:c.pc.pf f=none:=by show(match c.has f with | true=>some (ym c f) | false=>none)=_;rw[hh]
  have e2:c.pc.sp f=some (xgP g):=by show c.spf f=_;unfold TC.spf;rw[hmf,hg]
  rw[e1,e2];simp only;unfold jh;rw[s3,s1,s2];simp only[hsg,qcU];rfl
 exact .same hr h hpc rfl
theorem qeF:∀(sas:List SA) (L:Nat) (o:yD sas),(qbM sas L o).length=nBx sas
 |[],_,_=>rfl
 |.nil::sas,L,o|.clo _ _::sas,L,o|.val _::sas,L,o|.row _::sas,L,o=>qeF sas L o
 |.box _::sas,L,o=>by rw[qbM,wB,qeF sas _ o.2,nBx]
theorem Jm:∀(sas:List SA) (L:Nat) (o:yD sas),(jm sas L o).length=nBx sas
 |[],_,_=>rfl
 |.nil::sas,L,o|.clo _ _::sas,L,o|.val _::sas,L,o|.row _::sas,L,o=>Jm sas L o
 |.box _::sas,L,o=>by rw[jm,wB,Jm sas _ o.2,nBx]
theorem qs0:∀(c:List Nat) (a xs:List (List TV)),(qib a c xs).length=a.length
 |[],a,xs=>by cases xs<;>rfl
 |b::c,a,[]=>rfl
 |b::c,a,x::xs=>by rw[qib,qs0 c,wE]
theorem qqO{c:Type}:∀(a:List Nat) (l ks b:List c),ks.length=a.length->qY l a (ks++b)=qY l a ks++b
 |[],l,ks,b,h=>by
   have:ks=[]:=we h;subst this;simp[qY]
 |r::a,l,[],b,h=>by simp at h
 |r::a,l,k::ks,b,h=>qqO a (l.set r k) ks b (by simpa using h)
theorem Rel.moreBx{τ:TS}(a:Rel N m E τ tm σ)(xs:List (List AV)):Rel N m E τ tm {σ with bx:=σ.bx++xs}:=
 ⟨a.len,a.env,a.rw,a.nb,λ b cs d=>by
  let⟨ds,c,e⟩:=a.box b cs d;exact⟨ds,by show(σ.bx++xs)[_]?=_;rw[List.getElem?_append_left (getElem?_lt c)];exact c,e⟩,a.inj,a.rows,a.rinj,a.pin⟩
theorem qoK:∀(l:List RA) (v:CV l) (p:Nat) (R:qu) (Q:Row),(Qo l v)[p]?=some R->(qc0 l v)[p]?=some Q->Q.c=R.l.map (qd R.τ)
 |[],v,p,R,Q,h,_=>by cases h
 |.val _::l,v,p,R,Q,h,g=>qoK l v.2 p R Q h g
 |.row a::l,v,0,R,Q,h,g=>by cases h;cases g;rfl
 |.row a::l,v,p+1,R,Q,h,g=>qoK l v.2 p R Q h g
theorem qeB:∀(sas:List SA) (o:yD sas) (p:Nat) (R:qu) (Q:Row),(QT sas o)[p]?=some R->(js sas o)[p]?=some Q->Q.c=R.l.map (qd R.τ)
 |[],o,p,R,Q,h,_=>by cases h
 |.nil::sas,o,p,R,Q,h,g|.clo _ _::sas,o,p,R,Q,h,g|.val _::sas,o,p,R,Q,h,g|.row _::sas,o,p,R,Q,h,g=>qeB sas o p R Q h g
 |.box l::sas,o,p,R,Q,h,g=>by
   have h:(Qo l (toC l o.1)++QT sas o.2)[p]?=some R:=h;have g:(qc0 l (toC l o.1)++js sas o.2)[p]?=some Q:=g;by_cases a:p<nR l
   .rw[List.getElem?_append_left (by rw[jY];exact a)]at h;rw[List.getElem?_append_left (by rw[Q4];exact a)]at g;exact qoK l _ p R Q h g
   .rw[List.getElem?_append_right (by rw[jY];omega),jY]at h;rw[List.getElem?_append_right (by rw[Q4];omega),Q4]at g;exact qeB sas o.2 _ R Q h g
theorem qs7{f:Nat}{xs:List TV}{ys:List AV}(hr:Rel N m E τ tm σ)(ho:OKL m xs ys)(hh:c.has f=false)(h:qrh c τ f xs K=some r):Sim N m E τ tm σ K r (Jr c.pc f σ ys):=by
 unfold qrh at h;split at h
 ·exact qAr hr ho hh ‹_› h
 rename_i hmf;split at h
 ·exact qzB hr ho hh hmf ‹_› h
 rename_i hxf;split at h
 case h_2=>cases h
 rename_i g hg;split at h
 case h_2=>cases h
 rename_i a bs rs hvs;split at h
 case h_2=>cases h
 rename_i hnd;rw[wb,wb]at hnd;obtain⟨hnd1,hnd2,hord⟩:=hnd;obtain⟨v,hv,h⟩:=Qu h;obtain⟨rs',v',h,hnum,hsol⟩:=qkd g.res (nBx g.args) (nrB g.args) v.2 (by rw[Jn];exact wa _) h;obtain⟨i1,_,i2,i3,i4,i5⟩:=qox hr hvs ho hord;have nb:=qpA (f:=m.b) (qgW hnd1) λ x hx y hy he=>hr.inj x y (i3 x hx).1 (i3 y hy).1 he;have nr:=qt7 (f:=m.r) (qgW hnd2) λ x hx y hy q e1 e2=>hr.rinj x y q (i4 x hx) (i4 y hy) e1 e2
 have hRlt:∀ q∈rs.filterMap m.r,q < σ.rw.length := λ q hq=>by
  obtain⟨id,h1,h2⟩:=kQ.1 hq;exact hr.row_lt (i4 id h1) h2
 have i2':(rrL ys++(bs.map m.b).flatMap λ b=>rrL (σ.bx.getD b []))=rs.filterMap m.r:=by rw[xT];exact i2
 obtain⟨s1,s2,s3⟩:=qoZ (σ := σ) i1 i2' nb nr (λ b hb=>by obtain⟨b0,h1,rfl⟩:=wI.1 hb;exact(i3 b0 h1).2) hRlt;have hd:=i5 [] [] nb nr;rw[kD,kD]at hd;have hbl:=qbF hvs (σ.rw.length) v.1;have hBl:(bs.map m.b).length=nBx g.args:=by rw[wx,<- hbl,qeF]
 generalize hB:bs.map m.b=B at *;generalize hR:rs.filterMap m.r=R at *;have hsl:(qr σ B R).rw.length=R.length:=wx ..
 have hsg:sgP g (qr σ B R) (qD (λ b=>B.idxOf b) (λ r=>R.idxOf r) ys)=some (qX (QC rs' (R.length+nrB g.args) v'),some ⟨jm g.args R.length v.1++QS rs' (R.length+nrB g.args) v',(qr σ B R).rw.map jG++(js g.args v.1++jT rs' v'),List.range (qr σ B R).bx.length,List.range (qr σ B R).rw.length⟩):=by
  unfold sgP;have hd:dS (qr σ B R) g.args 0 0 (qD (λ b=>B.idxOf b) (λ r=>R.idxOf r) ys)=some a:=hd;rw[hd];simp only[hv];rw[hsl];exact hsol _
 have hpc:Jr c.pc f σ ys=some (qX ((QC rs' (σ.rw.length+nrB g.args) v').map λ y=>match y with | .ptr n o => .ptr (σ.bx.length+(n-nBx g.args)) o | y=>y),some (qdv σ B R ⟨jm g.args R.length v.1++QS rs' (R.length+nrB g.args) v',(qr σ B R).rw.map jG++(js g.args v.1++jT rs' v'),List.range (qr σ B R).bx.length,List.range (qr σ B R).rw.length⟩)):=by
  unfold Jr;have e1:c.pc.pf f=none:=by show(match c.has f with | true=>some (ym c f) | false=>none)=_;rw[hh]
  have e2:c.pc.sp f=some (sgP g):=by show c.spf f=_;unfold TC.spf;rw[hmf,hxf,hg]
  rw[e1,e2];simp only;unfold jh;rw[s3,s1,s2];simp only[hsg,qcU];rw[qz7,qkb rs' (nBx g.args) (nrB g.args) v' (vf hBl) hnum,hBl]
 obtain⟨m1,k1,k2,k3,k4,k5,k6⟩:=qv6 rs hr i4;obtain⟨l',l1,l2,l3⟩:=qj4 R σ.rw ((qr σ B R).rw.map jG) (js g.args v.1++jT rs' v') (by rw[wx];exact wx ..);have hbe:(jm g.args σ.rw.length v.1).length=B.length:=by rw[hBl,Jm]
 have hbs:qdv σ B R ⟨jm g.args R.length v.1++QS rs' (R.length+nrB g.args) v',(qr σ B R).rw.map jG++(js g.args v.1++jT rs' v'),List.range (qr σ B R).bx.length,List.range (qr σ B R).rw.length⟩=⟨qY σ.bx B (jm g.args σ.rw.length v.1)++QS rs' (σ.rw.length+nrB g.args) v',l'++(js g.args v.1++jT rs' v'),(List.range (qr σ B R).bx.length).map (qW B σ.bx.length) ++ σ.wr,(List.range (qr σ B R).rw.length).map (qW R σ.rw.length) ++ σ.wrr⟩:=by
  unfold qdv;have h1:=qeS (B:=B) (R:=R) (bn := σ.bx.length) (rn := σ.rw.length) g.args 0 v.1;have h2:=qhO (B:=B) (R:=R) (bn := σ.bx.length) (rn := σ.rw.length) rs' _ _ v' hnum;rw[wL,wL]at h1;simp only[kK,h1,h2,l1,qqO _ _ _ _ hbe]
 have hlow:qfj m1 σ.rw.length := λ id r h1 h2=>hr.row_lt (by rw[<- k5];exact h1) (k6 id r h2).1;let σ':St:=⟨σ.bx,l'++(js g.args v.1++jT rs' v'),(List.range (qr σ B R).bx.length).map (qW B σ.bx.length) ++ σ.wr,(List.range (qr σ B R).rw.length).map (qW R σ.rw.length) ++ σ.wrr⟩
 have hrel:Rel N m1 E ⟨τ.bx,qb9 τ.rw rs⟩ tm σ':=by
  refine k2.rowsTo rfl λ id Rw hRw=>(k2.rows id Rw hRw).later λ q Q hq hQ=>?_;obtain⟨q1,q2⟩:=k6 id q hq;have hql:=hr.row_lt (by rw[<- k5];exact getElem?_lt hRw) q1;show(l'++_)[q]?=_;rw[List.getElem?_append_left (by rw[l2];exact hql),l3 q λ hm=>?_]
  ·exact hQ
  ·rw[<- hR]at hm;obtain⟨id',h1,h2⟩:=kQ.1 hm;have:=hr.rinj id id' q (by rw[<- k5];exact getElem?_lt hRw) (i4 id' h1) q1 h2;subst this;exact q2 h1
 obtain⟨m2,z1,z2,z3,z4,z5,z6,z7⟩:=qeN g.args (L := σ.rw.length) (o:=v.1) hrel hlow λ k Q hk=>by
  show(l'++(js g.args v.1++jT rs' v'))[σ.rw.length+k]?=_;rw[List.getElem?_append_right (by rw[l2];omega),l2,kG,List.getElem?_append_left (getElem?_lt hk)];exact hk
 have hkl:(qb9 τ.rw rs).length = τ.rw.length:=qAf rs τ.rw;have z3:BxL m2 (qbM g.args (qb9 τ.rw rs).length v.1) (jm g.args σ.rw.length v.1):=z3;have z7:At m2 (qb9 τ.rw rs).length σ.rw.length (nrB g.args):=z7;rw[hkl]at z3 z7;have hbx:=qsI bs (xs:=qbM g.args τ.rw.length v.1) (ys:=jm g.args σ.rw.length v.1) z2 z3 (qbF hvs _ v.1) λ b hb=>by rw[z6,k3];exact(i3 b hb).1
 rw[z5,k4,hB]at hbx
 have hsa:(qY σ.bx B (jm g.args σ.rw.length v.1)).length = σ.bx.length:=by
  obtain⟨lb,b1,b2,_⟩:=qj4 B σ.bx (jm g.args σ.rw.length v.1) [] hbe;rw[wA,wA]at b1;rw[b1,b2]
 have hbx2:=hbx.moreBx (QS rs' (σ.rw.length+nrB g.args) v');have hsbl:(qib τ.bx bs (qbM g.args τ.rw.length v.1)).length = τ.bx.length:=qs0 _ _ _
 obtain⟨m3,y1,y2,y3⟩:=qjF (rws:=QT g.args v.1) (t0 := τ.rw.length) (L0 := σ.rw.length) (bn := τ.bx.length) (B := σ.bx.length) (NB:=nBx g.args) rs' (nb:=nBx g.args) (d:=nrB g.args) (v:=v') hbx2 z4 (by show(qb9 τ.rw rs++QT g.args v.1).length=_;rw[wd,hkl,Jn]) (λ p R hp=>by
   have hpl:=getElem?_lt hp;rw[Jn]at hpl;obtain⟨R',g1,g2,g3,g4,g5⟩:=z7 p hpl
   have hRe:m2.rw[τ.rw.length+p]?=some R:=by
    rw[z2.rw];show(qb9 τ.rw rs++QT g.args v.1)[_]?=_;rw[List.getElem?_append_right (by rw[hkl];omega),hkl,kG];exact hp
   cases hRe.symm.trans g1;refine⟨_,hRe,g2,g3,g4,rfl,g5,?_⟩;have hg:=hbx2.rows _ _ hRe;rw[g4]at hg;obtain⟨Q,q1,q2,_⟩:=hg;rw[<- q2];have q1:(l'++(js g.args v.1++jT rs' v'))[σ.rw.length+p]?=some Q:=q1;rw[List.getElem?_append_right (by rw[l2];omega),l2,kG,List.getElem?_append_left (by rw[JS];exact hpl)]at q1;exact qeB g.args v.1 p _ _ hp q1) hnum (λ k Q hk=>by
  show(l'++(js g.args v.1++jT rs' v'))[σ.rw.length+nrB g.args+k]?=_;rw[List.getElem?_append_right (by rw[l2];omega),l2,show σ.rw.length+nrB g.args+k - σ.rw.length=nrB g.args+k by omega,List.getElem?_append_right (by rw[JS];omega),JS,kG]
  exact hk) (by show(qib τ.bx bs (qbM g.args τ.rw.length v.1)).length=_;rw[hsbl,kP,wL]) (wa _) (by rw[kP,wL];show _<=(qY σ.bx B (jm g.args σ.rw.length v.1)++_).length;rw[wd,hsa];exact wa _) (λ b hb=>by
   rw[kP,wL,z5,k4];rw[z6,k3]at hb;obtain⟨ds,d1,_⟩:=hr.box b _ (List.getElem?_eq_getElem (by rw[<- hr.nb];exact hb));exact getElem?_lt d1) (λ k ds hk=>by
   rw[kP,wL];show(qY σ.bx B (jm g.args σ.rw.length v.1)++_)[_]?=_;rw[List.getElem?_append_right (by rw[hsa];omega),hsa,kG];exact hk)
 have y2:Rel N m3 E ⟨qib τ.bx bs (qbM g.args τ.rw.length v.1)++qlX rs' (qb9 τ.rw rs++QT g.args v.1).length v',(qb9 τ.rw rs++QT g.args v.1)++qms rs' v'⟩ tm _:=y2;rw[wk,wd,hkl,Jn]at y2;have y3:OKL m3 (qlK τ.bx.length (nBx g.args) rs' (qb9 τ.rw rs++QT g.args v.1).length v') _:=y3;rw[wd,hkl,Jn]at y3;rw[hpc,hbs];exact .to h rfl (k1.trans (z1.trans y1)) y2 (qtq y3)
end
abbrev wat:=@TC.lo_eq
end Go.AmZ
namespace Go.AmZ
open Go Go.RowKit Go.GxZ
section
variable {α:Type}{N:Nat×Nat}{m:Mp}{E:Env}{τ:TS}{tm:List AV}{σ:St}{K:KT α}{r:α}{p:Option (AV×Option St)}{c:TC}{C:Cfg}
theorem qB9{rw:List qu}{a:Ty}{f:Nat}{cs:List TV}{v:Val a}(h:J5 rw a (.fn f cs)=some v):False:=by
 unfold J5 at h;cases a with
 |int k|bool|str|list a|map a b|term|pair a b|one a=>cases h
theorem qsv{σ b a:Type}{p:σ->Option b}{q:List σ->Option a}{xs:List σ}{v:b×a}(h:qiL p q xs=some v):∃x r,xs=x::r/\p x=some v.1/\q r=some v.2:=by
 unfold qiL at h;split at h<;>try cases h
 split at h<;>try cases h
 split at h<;>cases h;exact⟨_,_,rfl,by assumption,by assumption⟩
theorem qlx(hq:zU m σ):∀(ts:List ATy) {xs:List TV} {ys:List AV} {v:JQ ts},qq0 m.rw ts xs=some v->OKL m xs ys ->
  qa0 ts (ys.map (yb σ.rw))=some v/\qct (ys.map (yb σ.rw))=qjT xs/\noRefs (ys.map (yb σ.rw))=true
 | [],xs,ys,v,h,ho=>by
   cases xs with
   | nil=>cases ho;exact⟨rfl,rfl,rfl⟩
   | cons x xs=>cases h
 | .val a::ts,xs,ys,v,h,ho=>by
   obtain⟨x,xs,rfl,hw,hws⟩:=qsv h;obtain⟨y,r,rfl,h1,h2⟩:=ho;obtain⟨g1,_⟩:=qdl hq hw h1;obtain⟨k1,k2,k3⟩:=qlx hq ts hws h2;obtain⟨p1,p2⟩:=qaq g1;refine⟨?_,?_,?_⟩
   ·show qiL _ _ (yb σ.rw y::r.map (yb σ.rw))=_;simp only[qiL,g1,k1]
   ·rw[wz]
    have e1:qct (yb σ.rw y::r.map (yb σ.rw))=qct (r.map (yb σ.rw)):=by
     generalize yb σ.rw y=z at p2;cases z<;>first | rfl | exact absurd rfl (p2 _ _)
    have e2:qjT (x::xs)=qjT xs:=by
     cases x<;>first | rfl | exact(qB9 hw).elim
    rw[e1,e2,k2]
   ·rw[wz];unfold noRefs at k3 |-
    rw[ke,p1,k3];rfl
 | .fn::ts,xs,ys,v,h,ho=>by
   change pFn _ xs=_ at h;unfold pFn at h;split at h
   case h_2=>cases h
   obtain⟨y,r,rfl,⟨ds,rfl,hd⟩,h2⟩:=ho;cases hd;obtain⟨k1,k2,k3⟩:=qlx hq ts h h2;refine⟨k1,?_,?_⟩
   ·show _::qct _=_::qjT _;rw[k2]
   ·unfold noRefs at k3 |-
    rw[wz,ke,k3];rfl
theorem qyg:∀(ts:List Ty) (v:qbD ts),OKL m (unL ts v) (Q0 ts v)/\noRefs (Q0 ts v)=true
 |[],_=>⟨rfl,rfl⟩
 |[a],v=>⟨⟨_,_,rfl,qnj a v,rfl⟩,by show(yo (zK a v)&&true)=true;rw[qd0];rfl⟩
 |a::b::r,v=>by
   let⟨d,c⟩:=qyg (b::r) v.2;refine⟨⟨_,_,rfl,qnj a v.1,d⟩,?_⟩;show(yo (zK a v.1)&&noRefs (Q0 (b::r) v.2))=true;rw[qd0,c];rfl
theorem qtd{l:List AV}(h:noRefs l=true):yo (.tup l)=true:=by
 have:=qeW h;unfold yo;rw[rb,rr,this.1,this.2];rfl
theorem qDd{xs:List TV}{ys:List AV}(h:OKL m xs ys)(a:noRefs ys=true):OK m (qlN xs) (qX ys)/\yo (qX ys)=true:=by
 cases xs with
 |nil=>cases h;exact⟨⟨[],rfl,rfl⟩,rfl⟩
 |cons x xs=>
   obtain⟨y,r,rfl,c,b⟩:=h;cases xs with
   |nil=>
     cases b
     have:yo y=true:=by
      unfold noRefs at a;simpa using a
     exact⟨c,this⟩
   |cons x' xs=>
     obtain⟨f,g,rfl,e,d⟩:=b;exact⟨⟨_,rfl,⟨_,_,rfl,c,_,_,rfl,e,d⟩⟩,qtd a⟩
theorem quX{a:Ty}(h:qqG a=true)(v:Val a):isV (zK a v)=true:=by
 cases a<;>first|rfl|(cases h)
theorem qv2:∀{ts:List Ty} (v:qbD ts),ts.all qqG=true->(Q0 ts v).all isV=true
 |[],_,_=>rfl
 |[a],v,h=>by
   have:qqG a=true:=by simpa using h
   show(isV (zK a v)&&true)=true;rw[quX this];rfl
 |a::b::r,v,h=>by
   rw[ke,wb]at h;show(isV (zK a v.1)&&(Q0 (b::r) v.2).all isV)=true;rw[quX h.1,qv2 v.2 h.2];rfl
theorem qC6{ts:List Ty}{v:qbD ts}(h:ts.all qqG=true):qfq (qX (Q0 ts v))=true:=by
 have:=qv2 v h;revert this;cases Q0 ts v with
 |nil=>intro _;rfl
 |cons x l=>
   cases l with
   |nil=>
     intro a;have a:isV x=true:=by simpa using a
     show qfq x=true;cases x<;>first|rfl|(cases a)
   |cons y l=>intro a;exact a
theorem qBp{f:Nat}{xs:List TV}{ys:List AV}(hr:Rel N m E τ tm σ)(ho:OKL m xs ys)(h:qyK c τ f xs K=some r):Sim N m E τ tm σ K r (Jr c.pc f σ ys):=by
 unfold qyK at h;split at h
 case h_2=>cases h
 case h_3 hh=>exact qs7 hr ho hh h
 rename_i g hh hg;split at h<;>try cases h
 rename_i a ha;obtain⟨v,hv,h⟩:=Qu h;rw[<- hr.rw]at ha;obtain⟨g1,g2,g3⟩:=qlx hr.rows g.args ha ho;obtain⟨e1,e2⟩:=qyg (m:=m) g.res v;obtain⟨e3,e4⟩:=qDd e1 e2;have hp:c.pc.pf f=some (ym c f):=by show(match c.has f with | true=>some (ym c f) | false=>none)=_;rw[hh]
 have hs:ym c f (ys.map (yb σ.rw))=some (qX (Q0 g.res v)):=by
  unfold ym;rw[g2,hg];simp only[g1,hv]
 have hst:Jr c.pc f σ ys=match qfq (qX (Q0 g.res v)),ys.flatMap rsA with
   | true,_| _,[]=>some (qX (Q0 g.res v),none)
   | _,r::l=>some (qX (Q0 g.res v),some { σ with rw:=frz σ.rw (r::l),wrr:=(r::l) ++ σ.wrr }):=by
  unfold Jr;simp only[hp,g3,hs,e4];rfl
 rw[hst];split at h
 ·rename_i hno;rcases Bool.or_eq_true_iff.1 hno with hno | hno
  ·rw[qom hno ho];refine .same hr h ?_ e3;cases qfq (qX (Q0 g.res v))<;>rfl
  ·rw[qC6 hno];exact .same hr h rfl e3
 ·split
  ·exact⟨_,some (shA τ),_,none,shM m,h,rfl,qcx m,hr.share rfl hr.rows.sh,e3.mono (qcx m),λ h=>by cases h⟩
  ·exact⟨_,some (shA τ),_,none,shM m,h,rfl,qcx m,hr.share rfl hr.rows.sh,e3.mono (qcx m),λ h=>by cases h⟩
  ·exact .to h rfl (qcx m) (hr.share (σ':={ σ with rw:=frz σ.rw _,wrr:=_ }) rfl (hr.rows.frz _ _)) (e3.mono (qcx m))
end
end Go.AmZ
namespace Go.AmZ
open Go Go.RowKit Go.GxZ
section
variable {α:Type}{N:Nat×Nat}{m:Mp}{E:Env}{τ:TS}{tm:List AV}{σ:St}{K:KT α}{r:α}{p:Option (AV×Option St)}{c:TC}{C:Cfg}
theorem quZ{a:Ty}{es:List (List AV)}{l:List (Val a)}(h:qH (qm a) es=some l):uni a.size es=true:=by
 unfold uni;rw[wo];intro e c;let⟨i,b⟩:=List.getElem?_of_mem c;let⟨v,_,d⟩:=Qw h b;let⟨pre,j,g,f,_⟩:=zc a (qy.1 d);grind
theorem qmw{n bytes:Nat}(h:ye n bytes=true):n*bytes<=2^47/\n<2^62:=of_decide_eq_true h
theorem qxX{bytes:Nat}{a:Ty}{s:TV}{xs:List (Val a)}{y:AV}{es:List (List AV)}(t:Rel N m E τ tm σ)(Y:OK m s y)(W:qH (qm a) es=some xs)(h:qyA a.size bytes τ a s xs K=some r):
  Sim N m E τ tm σ K r (zh a.size bytes σ y es):=by
 have b:=qE W;unfold qyA at h;split at h
 .-- nil
  cases Y;unfold qna at h;split at h
  .have:es=[]:=we (by simpa using b);subst this;exact .same t h rfl rfl
  .rename_i x z;let⟨h1,h⟩:=yI h;let⟨q1,q2⟩:=qmw h1;let⟨m',H,X,g3⟩:=t.rowNew W;have F:qJ (QU es) 0=false:=by simp[qJ,QU,b]
   have D:es.length=z.length+1:=by simpa using b
   have p:rowNew a.size bytes es=some (⟨a.size,es,0,0,false⟩,es.length):=by
    grind [rowNew]
   refine .to h (y:=.rs σ.rw.length 0 es.length 0 false) (by simp only[zh,F,p]) H X ?_;rw[b];exact g3
 .-- a list
  rename_i U l lv;split at h<;>try cases h
  rename_i w;have w:=of_decide_eq_true w;split at h<;>try cases h
  rename_i l P;obtain⟨e,rfl⟩:=yp P;subst e;let⟨h1,h⟩:=yI h;let⟨q1,q2⟩:=qmw h1;unfold qna at h;split at h
  .have:es=[]:=we (by simpa using b);subst this;refine .same t h ?_ Y;obtain⟨rfl,_⟩|⟨f,n,rfl,_⟩:=zN Y.1<;>rfl
  rename_i x z _;have F:qJ (QU es) 0=false:=by simp[qJ,QU,b]
  have D:es.length=z.length+1:=by simpa using b
  let⟨ae,ad⟩:=Y;obtain⟨rfl,O⟩|⟨f,n,rfl,h2⟩:=zN ae
  .have O:l=[]:=O;subst O;let⟨m',H,X,g3⟩:=t.rowNew W
   have p:rowNew U.size bytes es=some (⟨U.size,es,0,0,false⟩,es.length):=by
    grind [rowNew]
   refine .to h (y:=.rs σ.rw.length 0 es.length 0 false) (by simp only[zh,F,p]) H X ?_;rw[b];exact g3
  .have B:=QA h2 W;have M:=qE B;let⟨m',H,X,g3⟩:=t.rowNew B
   have p:rowNew U.size bytes (qg6 f es)=some (⟨U.size,qg6 f es,0,0,false⟩,(qg6 f es).length):=by
    grind [rowNew,qg6]
   have hc:(decide (1<n+1)&&qJ U.size U.size&&uni U.size f)=true:=by
    have:1<n+1:=wv w ad;simp only[decide_eq_true this,qJ,decide_true,quZ h2,kF]
   refine .to h (y:=.rs σ.rw.length 0 (qg6 f es).length 0 false) (by simp only[zh,F,hc,p];rfl) H X ?_;show OK m' _ (.rs _ 0 (f++es).length 0 false);rw[M];exact g3
 .-- a row
  rename_i id C;split at h<;>try cases h
  rename_i R G;split at h<;>try cases h
  rename_i hv;have hv:R.ver=C:=wg hv;split at h<;>try cases h
  rename_i l P;obtain⟨e,rfl⟩:=yp P;subst e;let⟨h1,h⟩:=yI h;let⟨q1,q2⟩:=qmw h1;let⟨R',H,X,g3,g4⟩:=Y;rw[t.rw,G]at H;cases H;have af:m.rw[id]?=some R:=by rw[t.rw];exact G
  have gy:=g4 hv;clear g4;subst hv;obtain⟨rr,Q,A,V,k1,k2,kv,k3,k4,kf,ks⟩|⟨A,hq,V,w⟩:=qdm t.rows af gy
  .have ag:=qE k4;have ac:rr<σ.rw.length:=getElem?_lt k1;by_cases he:xs=[]
   .subst he;have:es=[]:=we (by simpa using b);subst this
    let⟨m',L,J,I⟩:=t.rowUpd (R2:=⟨R.τ,R.l++[],R.ver+1,R.sv,R.sh⟩) G (m.r id) (m.v id) (m.q id) (wU _) (wa _) (λ h=>by have:R.ver+1=R.ver:=h;omega) (σ':=σ) rfl
     (by rw[A];exact⟨Q,k1,k2,kv,k3,by rw[wA];exact k4,kf,ks⟩) λ j i u k g=>⟨λ o=>by rw[A]at o;exact t.others G A u k g (kz o).symm,λ _ h=>h⟩
    refine⟨_,some _,y,none,m',h,by rw[V];rfl,L,J,I y ?_,λ h=>by cases h⟩;grind
   .have F:qJ (QU es) 0=false:=by
      grind [qJ,QU]
    have S:qm0 Q R.τ.size 0 Q.c.length Q.ver false bytes es=some ({Q with c:=Q.c++es,ver:=Q.ver+1},Q.c.length+es.length):=by
     grind [qm0]
    let⟨m',L,J,I⟩:=t.rowUpd (R2:=⟨R.τ,R.l++xs,R.ver+1,R.sv,R.sh⟩) G (some rr) (Q.ver+1) (Q.c++es) (wU _) (wa _) (λ h=>by have:R.ver+1=R.ver:=h;omega)
     (σ':={σ with rw:=σ.rw.set rr {Q with c:=Q.c++es,ver:=Q.ver+1},wrr:=rr::σ.wrr}) rfl
     ⟨{Q with c:=Q.c++es,ver:=Q.ver+1},by show(σ.rw.set rr _)[rr]?=_;rw[List.getElem?_set_self ac],rfl,rfl,k3,QA k4 W,by show Q.fz<=(Q.c++es).length;rw[wd];omega,ks⟩ λ j i u k g=>by
      have Z:=t.others G A u k g;exact⟨λ o=>Z (kz o).symm,λ Q' T=>by show(σ.rw.set rr _)[i]?=_;rw[List.getElem?_set_ne (xw Z)];exact T⟩
    refine .to h (y:=.rs rr 0 (Q.c.length+es.length) (Q.ver+1) false) (by rw[V];simp only[zh,F,k1,S]) L J (I _ ?_);show _=AV.rs rr 0 (R.l++xs).length (Q.ver+1) false;grind
  .have aa:∀j i,j≠id->j<m.rw.length->m.r j=some i->i<σ.rw.length:=λ _ _ _ k h=>t.row_lt k h;by_cases he:xs=[]
   .subst he;have:es=[]:=we (by simpa using b);subst this
    let⟨m',L,J,I⟩:=t.rowUpd (R2:=⟨R.τ,R.l++[],R.ver+1,R.sv,R.sh⟩) G none 0 [] (wU _) (wa _) (λ h=>by have:R.ver+1=R.ver:=h;omega) (σ':=σ) rfl
     (λ hs=>by show R.l++[]=[];rw[hq hs];rfl) λ j i u k g=>⟨λ o=>(by cases o),λ _ h=>h⟩
    refine⟨_,some _,y,none,m',h,?_,L,J,I y ⟨by show dlist R.τ y=some (R.l++[]);rw[wA];exact V,w⟩,λ h=>by cases h⟩;obtain⟨rfl,_⟩|⟨es,n,rfl,_⟩:=zN V<;>rfl
   .have F:qJ (QU es) 0=false:=by
      grind [qJ,QU]
    have ab:∀d,qH (qm R.τ) d=some (R.l++xs)->zh R.τ.size bytes σ y es=(match Go.AmZ.rowNew R.τ.size bytes d with|some (R,n)=>some (.rs σ.rw.length 0 n 0 false,some {σ with rw:=σ.rw++[R]})|none=>none)->Sim N m E τ tm σ K r (zh R.τ.size bytes σ y es):=by
     intro d B S;have D:=qE B;rw[wd]at D
     have p:rowNew R.τ.size bytes d=some (⟨R.τ.size,d,0,0,false⟩,d.length):=by
      grind [rowNew]
     let⟨m',L,J,I⟩:=t.rowUpd (R2:=⟨R.τ,R.l++xs,R.ver+1,R.sv,R.sh⟩) G (some σ.rw.length) 0 d (wU _) (wa _) (λ h=>by have:R.ver+1=R.ver:=h;omega)
      (σ':={σ with rw:=σ.rw++[⟨R.τ.size,d,0,0,false⟩]}) rfl
      ⟨⟨R.τ.size,d,0,0,false⟩,by show(σ.rw++[_])[σ.rw.length]?=_;simp,rfl,rfl,rfl,B,wh _,λ _=>⟨rfl,rfl⟩⟩ λ j i u k g=>by
        have:=aa j i u k g;exact⟨λ o=>by have:=kz o;omega,λ Q' T=>by show(σ.rw++[_])[i]?=_;rw[List.getElem?_append_left this];exact T⟩
     refine .to h (y:=.rs σ.rw.length 0 d.length 0 false) (by rw[S,p]) L J (I _ ?_);show _=AV.rs σ.rw.length 0 (R.l++xs).length 0 false;rw[wd,D]
    obtain⟨rfl,P⟩|⟨f,n,rfl,P⟩:=zN V
    .grind [zh]
    .have hc:(decide (1<n+1)&&qJ R.τ.size R.τ.size&&uni R.τ.size f)=true:=by
       have:1<n+1:=w;simp only[decide_eq_true this,qJ,decide_true,quZ P,kF]
     exact ab (qg6 f es) (QA P W) (by simp only[zh,F,hc];rfl)
 .cases h
end
end Go.AmZ
namespace Go.AmZ
open Go Go.RowKit Go.GxZ
section
variable {α:Type}{N:Nat×Nat}{m:Mp}{E:Env}{τ:TS}{tm:List AV}{σ:St}{K:KT α}{r:α}{p:Option (AV×Option St)}{c:TC}{C:Cfg}
theorem qsY{m':Mp}:∀{xs:List TV}{ys:List AV},(xs.all λ|.i .. |.b _|.s _|.c _|.nil|.sl .. => true|_=>false)=true->OKL m xs ys->OKL m' xs ys
 |[],_,_,h=>h
 |x::xs,_,h,⟨y,r,rfl,d,a⟩=>by
   rw[ke,wb]at h;refine⟨y,r,rfl,?_,qsY h.2 a⟩;have h:=h.1;cases x<;>first|exact d|(cases h)
theorem qzH{m':Mp}{x:TV}{y:AV}(h:qvg x=true)(a:OK m x y):OK m' x y:=by
 cases x with
 |fn f cs=>
   have:cs=[]:=by simpa[qvg,xq]using h
   subst this;obtain⟨ds,rfl,b⟩:=a;cases b;exact⟨[],rfl,rfl⟩
 |agg cs=>
   obtain⟨ds,rfl,b⟩:=a;exact⟨ds,rfl,qsY h b⟩
 |_=>first|exact a|(cases h)
structure qey (m:Mp) (tm:List AV) (σ:St) (M:Mv) (m':Mp):Prop where
 rw:m'.rw=M.rw
 nb:m'.nb=M.bx.length
 box:∀b cs,M.bx[b]?=some cs->∃ds,σ.bx[m'.b b]?=some ds/\OKL m' cs ds
 src:∀b',b'<m'.nb->∃b,yH M.mb b=some b'/\m'.b b'=m.b b/\b<m.nb
 mb:∀b b',yH M.mb b=some b'->b'<m'.nb/\m'.b b'=m.b b
 rows:zU m' σ
 rsrc:∀id' r,id'<m'.rw.length->m'.r id'=some r->∃id,yH M.mr id=some id'/\m.r id=some r/\id<m.rw.length
 mr:∀id id',yH M.mr id=some id'->∃R R',m.rw[id]?=some R/\m'.rw[id']?=some R'/\R'.ver=0/\(∀y,Qp (m.r id) (m.v id) R.τ R.l y->Qp (m'.r id') (m'.v id') R'.τ R'.l y)
 env:∀t,OK m' (get M.E t) (tm.getD t .dead)
theorem qpx{b a k v:Nat}{l:List (Nat×Nat)}(h:yH ((k,v)::l) b=some a):(k=b/\v=a)\/(k≠b/\yH l b=some a):=by
 simp only[yH]at h;split at h
 .grind [Nat.eq_of_beq_eq_true]
 .rename_i c;exact .inr ⟨λ d=>by rw[d]at c;simp at c,h⟩
theorem qp7{k v:Nat}{l:List (Nat×Nat)}:yH ((k,v)::l) k=some v:=by simp[yH]
theorem qvy{b k v:Nat}{l:List (Nat×Nat)}(h:k≠b):yH ((k,v)::l) b=yH l b:=by
 grind [yH,Nat.eq_of_beq_eq_true]
theorem qey.addRow{M:Mv}{m':Mp}(h:qey m tm σ M m')(R2:qu)(d:Option Nat)(f:Nat)(p:List (List AV)){e:List (Nat×Nat)}(G:R2.ver=0)
  (F:Qm σ R2 d f p)
  (w:(e=M.mr/\d=none)\/∃id R,yH M.mr id=none/\e=(id,M.rw.length)::M.mr/\d=m.r id/\m.rw[id]?=some R/\∀y,Qp (m.r id) (m.v id) R.τ R.l y->Qp d f R2.τ R2.l y):
  ∃g,MLe m' g/\qey m tm σ {M with rw:=M.rw++[R2],mr:=e} g/\∀y,Qp d f R2.τ R2.l y->OK g (.row M.rw.length 0) y:=by
 have i:MLe m' (m'.add R2 d f p):=qlu _ _ _ _ _;have J:∀{id:Nat}{R:qu},m'.rw[id]?=some R->(m'.rw++[R2])[id]?=some R/\¬ id=m'.rw.length:=λ h=>⟨by rw[List.getElem?_append_left (getElem?_lt h)];exact h,ve (getElem?_lt h)⟩
 refine⟨m'.add R2 d f p,i,?_,?_⟩
 .refine⟨by show m'.rw++_=M.rw++_;rw[h.rw],h.nb,?_,h.src,h.mb,qkc h.rows F λ _ _ h=>h,?_,?_,λ t=>(h.env t).mono i⟩
  .intro b cs E;let⟨ds,s,o⟩:=h.box b cs E;exact⟨ds,s,o.mono i⟩
  .intro a r n j;change a<(m'.rw++[_]).length at n;change (if a=m'.rw.length then d else m'.r a)=some r at j;simp at n;split at j
   .rename_i c;obtain⟨_,C⟩|⟨id,R,s,o,g3,q,_⟩:=w
    .rw[C]at j;cases j
    .refine⟨id,?_,by rw[<-g3];exact j,getElem?_lt q⟩;show yH e id=some a;rw[o,qp7,c,h.rw]
   .let⟨id,A,z,x⟩:=h.rsrc a r (by omega) j;grind [qvy]
  .intro id a c;change yH e id=some a at c
   have k:yH M.mr id=some a->∃R R',m.rw[id]?=some R/\(m'.rw++[R2])[a]?=some R'/\R'.ver=0/\(∀y,Qp (m.r id) (m.v id) R.τ R.l y->Qp (if a=m'.rw.length then d else m'.r a) (if a=m'.rw.length then f else m'.v a) R'.τ R'.l y):=by
    intro c;let⟨K,R',A,z,x,I⟩:=h.mr id a c;grind
   obtain⟨D,_⟩|⟨B,R,s,o,g3,q,H⟩:=w
   .rw[D]at c;exact k c
   .rw[o]at c;obtain⟨rfl,rfl⟩|⟨_,c⟩:=qpx c
    .refine⟨R,R2,q,by show(m'.rw++_)[M.rw.length]?=_;rw[h.rw];simp,G,?_⟩;show ∀y,_->Qp (if M.rw.length=m'.rw.length then d else m'.r M.rw.length) (if M.rw.length=m'.rw.length then f else m'.v M.rw.length) _ _ y;rw[if_pos (by rw[h.rw]),if_pos (by rw[h.rw])];exact H
    .exact k c
 .intro y u;refine⟨R2,by show(m'.rw++_)[M.rw.length]?=_;rw[h.rw];simp,wh _,u.ish,λ _=>?_⟩;show Qp (if M.rw.length=m'.rw.length then d else m'.r M.rw.length) (if M.rw.length=m'.rw.length then f else m'.v M.rw.length) _ _ y;rw[if_pos (by rw[h.rw]),if_pos (by rw[h.rw])];exact u
theorem qey.addBox{M:Mv}{m':Mp}(h:qey m tm σ M m'){b:Nat}(r:b<m.nb)(s:yH M.mb b=none){ys:List TV}{ds:List AV}(q:σ.bx[m.b b]?=some ds)(p:OKL m' ys ds):
  ∃g,MLe m' g/\qey m tm σ {M with bx:=M.bx++[ys],mb:=(b,M.bx.length)::M.mb} g/\OK g (.ptr M.bx.length 0) (.ptr (m.b b) 0):=by
 have d:MLe m' {m' with b:=λ i=>if i=m'.nb then m.b b else m'.b i,nb:=m'.nb+1}:=
  ⟨wU _,λ i e=>if_neg (ve e),λ id R h=>⟨R,h,wa _,wa _,λ _=>⟨rfl,rfl,rfl,rfl,(λ _=>rfl),λ _ _ h=>h⟩⟩⟩
 refine⟨_,d,?_,?_⟩
 .refine⟨h.rw,by show m'.nb+1=(M.bx++[ys]).length;rw[h.nb];simp,?_,?_,?_,h.rows,h.rsrc,h.mr,λ t=>(h.env t).mono d⟩
  .intro i cs e;change (M.bx++[ys])[i]?=some cs at e;show ∃ds,σ.bx[if i=m'.nb then m.b b else m'.b i]?=some ds/\_;by_cases j:i=m'.nb
   .rw[if_pos j];rw[j,h.nb]at e;simp at e;subst e;exact⟨ds,q,p.mono d⟩
   .rw[if_neg j];have l:i<M.bx.length:=by have:=getElem?_lt e;simp at this;have:=h.nb;omega
    rw[List.getElem?_append_left l]at e;let⟨o,n,k⟩:=h.box i cs e;exact⟨o,n,k.mono d⟩
  .intro c a;change c<m'.nb+1 at a;show ∃f,yH ((b,M.bx.length)::M.mb) f=some c/\(if c=m'.nb then m.b b else m'.b c)=m.b f/\f<m.nb;by_cases j:c=m'.nb
   .exact⟨b,by rw[qp7,j,h.nb],if_pos j,r⟩
   .let⟨f,n,k,g3⟩:=h.src c (by omega);refine⟨f,?_,by rw[if_neg j];exact k,g3⟩;grind [qvy]
  .intro f c a;change yH ((b,M.bx.length)::M.mb) f=some c at a;show c<m'.nb+1/\(if c=m'.nb then m.b b else m'.b c)=m.b f;obtain⟨rfl,rfl⟩|⟨_,a⟩:=qpx a
   .rw[<-h.nb];grind
   .let⟨n,k⟩:=h.mb f c a;grind
 .refine⟨?_,?_⟩
  .show M.bx.length<m'.nb+1;rw[h.nb];exact kV _
  .show _=AV.ptr (if M.bx.length=m'.nb then m.b b else m'.b M.bx.length) 0;rw[if_pos h.nb.symm]
mutual
theorem qzG(hr:Rel N m E τ tm σ):∀(co:Co) {x:TV} {y:AV} {M:Mv} {m':Mp} {K:TV->Mv->Option α} {r : α},mvT τ co x M K=some r->OK m x y->qey m tm σ M m' ->
  ∃ x' M' m'',K x' M'=some r/\MLe m' m''/\qey m tm σ M' m''/\OK m'' x' y/\M'.E=M.E
 | .keep,x,y,M,m',K,r,h,ho,hM=>by
   simp only[mvT]at h;split at h
   ·rename_i hp;exact⟨x,M,m',h,.refl m',hM,qzH hp ho,rfl⟩
   ·exact⟨.dead,M,m',h,.refl m',hM,trivial,rfl⟩
 | .list a,x,y,M,m',K,r,h,ho,hM=>by
   simp only[mvT]at h;split at h
   ·cases ho;exact⟨_,M,m',h,.refl m',hM,⟨rfl,by decide⟩,rfl⟩
   ·split at h<;>try cases h
    rename_i l hl;obtain⟨e,rfl⟩:=yp hl;subst e;exact⟨_,M,m',h,.refl m',hM,⟨ho.1,qhp ho.1⟩,rfl⟩
   ·exact⟨.dead,M,m',h,.refl m',hM,trivial,rfl⟩
 | .plist a,x,y,M,m',K,r,h,ho,hM=>by
   simp only[mvT]at h;split at h
   ·cases ho;exact⟨_,M,m',h,.refl m',hM,⟨rfl,by decide⟩,rfl⟩
   ·split at h<;>try cases h
    rename_i l hl;obtain⟨e,rfl⟩:=yp hl;subst e;exact⟨_,M,m',h,.refl m',hM,⟨ho.1,qhp ho.1⟩,rfl⟩
   ·exact⟨.dead,M,m',h,.refl m',hM,trivial,rfl⟩
 | .row a sh,x,y,M,m',K,r,h,ho,hM=>by
   simp only[mvT]at h;split at h
   ·cases ho;obtain⟨m'',g1,g2,g3⟩:=hM.addRow ⟨a,[],0,0,sh⟩ none 0 [] rfl (λ _=>rfl) (.inl ⟨rfl,rfl⟩);exact⟨_,_,m'',h,g1,g2,g3 _ ⟨rfl,wa _⟩,rfl⟩
   ·rename_i a' l lv;split at h<;>try cases h
    rename_i l hl hlv;obtain⟨e,rfl⟩:=yp hl;subst e;have hlv:=of_decide_eq_true hlv;obtain⟨ho1,ho2⟩:=ho;split at h
    ·obtain⟨m'',g1,g2,g3⟩:=hM.addRow ⟨a',l,0,0,true⟩ none 0 [] rfl (λ h=>by cases h) (.inl ⟨rfl,rfl⟩);exact⟨_,_,m'',h,g1,g2,g3 _ ⟨ho1,by omega⟩,rfl⟩
    ·split at h<;>try cases h
     rename_i hnil;have hnil:l=[]:=hnil;subst hnil;obtain⟨m'',g1,g2,g3⟩:=hM.addRow ⟨a',[],0,0,false⟩ none 0 [] rfl (λ _=>rfl) (.inl ⟨rfl,rfl⟩);exact⟨_,_,m'',h,g1,g2,g3 _ ⟨ho1,by omega⟩,rfl⟩
   ·rename_i id ver;split at h<;>try cases h
    rename_i R hR;split at h<;>try cases h
    rename_i hv;rw[wb]at hv;have hsh:=hv.2;have hv:R.ver=ver:=wg hv.1;split at h<;>try cases h
    rename_i l hl;obtain⟨e,rfl⟩:=yp hl;subst e;obtain⟨R',k1,_,_,k2⟩:=ho;rw[hr.rw,hR]at k1;cases k1;have hy:=k2 hv;have hR':m.rw[id]?=some R:=by rw[hr.rw];exact hR
    split at h
    ·rename_i id' has;obtain⟨R0,R1,z1,z2,z3,z4⟩:=hM.mr id id' has;rw[hR']at z1;cases z1;exact⟨_,M,m',h,.refl m',hM,⟨R1,z2,wh _,hy.ish,λ _=>z4 y hy⟩,rfl⟩
    ·rename_i has;have hrow:=hr.rows id R hR'
     have hrow2:Qm σ ⟨R.τ,R.l,0,0,sh⟩ (m.r id) (m.v id) (m.q id):=by
      have hs:sh=false->R.sh=false:=by
       intro h0;rw[h0]at hsh;simpa using hsh
      revert hrow;cases m.r id with
      | none=>intro hrow h0;exact hrow (hs h0)
      | some rr =>
        rintro⟨Q,q1,q2,q3,q4,q5,q6,q7⟩;exact⟨Q,q1,q2,q3,q4,q5,q6,λ h0=>q7 (hs h0)⟩
     obtain⟨m'',g1,g2,g3⟩:=hM.addRow ⟨R.τ,R.l,0,0,sh⟩ (m.r id) (m.v id) (m.q id) rfl hrow2 (.inr ⟨id,R,has,rfl,rfl,hR',λ _ h=>h⟩);grind
   ·cases h
 | .fn cs,x,y,M,m',K,r,h,ho,hM=>by
   cases x with
   | fn f xs =>
     simp only[mvT]at h;obtain⟨ds,rfl,hd⟩:=ho;obtain⟨ys,M1,m1,q1,q2,q3,q4,q5⟩:=qwj hr cs h hd hM;exact⟨_,M1,m1,q1,q2,q3,⟨_,rfl,q4⟩,q5⟩
   | _=>simp only[mvT]at h;cases h
 | .box cs,x,y,M,m',K,r,h,ho,hM=>by
   simp only[mvT]at h;split at h
   case h_2=>exact⟨_,M,m',h,.refl m',hM,ho,rfl⟩
   case h_3 =>
    rename_i b;obtain⟨hb,rfl⟩:=ho;split at h
    ·rename_i b' has;obtain⟨g1,g2⟩:=hM.mb b b' has;exact⟨_,M,m',h,.refl m',hM,⟨g1,by rw[g2]⟩,rfl⟩
    ·rename_i has;split at h<;>try cases h
     rename_i κ a l hxs;obtain⟨ds,k1,y,r0,rfl,k2,k3⟩:=hr.box b _ hxs;cases k3;obtain⟨m3,z1,z2,z3⟩:=hM.addBox (ys:=[.mc κ a l]) hb has k1 ⟨y,[],rfl,k2,rfl⟩;exact⟨_,_,m3,h,z1,z2,⟨z3.1,by have e:=z3.2;simp only[AV.ptr.injEq]at e;rw[e.1]⟩,rfl⟩
   case h_4=>cases h
   rename_i b;obtain⟨hb,rfl⟩:=ho;split at h
   ·rename_i b' has;obtain⟨g1,g2⟩:=hM.mb b b' has;exact⟨_,M,m',h,.refl m',hM,⟨g1,by rw[g2]⟩,rfl⟩
   ·split at h<;>try cases h
    rename_i xs hxs;obtain⟨ds,k1,k2⟩:=hr.box b xs hxs;obtain⟨ys,M',m'',q1,q2,q3,q4,q5⟩:=qwj hr cs h k2 hM;split at q1
    case h_2=>cases q1
    rename_i has;obtain⟨m3,z1,z2,z3⟩:=q3.addBox hb has k1 q4;exact⟨_,_,m3,q1,q2.trans z1,z2,z3,q5⟩
theorem qwj(g:Rel N m E τ tm σ):∀(cs:List Co) {xs:List TV}{ys:List AV}{M:Mv}{m':Mp}{K:List TV->Mv->Option α}{r:α},mvL τ cs xs M K=some r->OKL m xs ys->qey m tm σ M m'->
  ∃a e b,K a e=some r/\MLe m' b/\qey m tm σ e b/\OKL b a ys/\e.E=M.E
 |[],xs,ys,M,m',K,r,h,c,d=>by
   cases xs with
   |nil=>simp only[mvL]at h;cases c;exact⟨[],M,m',h,.refl m',d,rfl,rfl⟩
   |cons x xs=>simp only[mvL]at h;cases h
 |co::cs,xs,ys,M,m',K,r,h,c,d=>by
   cases xs with
   |nil=>simp only[mvL]at h;cases h
   |cons x xs=>
     simp only[mvL]at h;obtain⟨y,rr,rfl,v,u⟩:=c;let⟨x',A,z,s,q,p,o,n⟩:=qzG g co h v d;let⟨a,w,t,l,f,k,j,i⟩:=qwj g cs s u p;exact⟨x'::a,w,t,l,q.trans f,k,⟨y,rr,rfl,o.mono f,j⟩,i.trans n⟩
end
theorem qEf{E:Env}{t:Nat}{x:TV}{s:Nat}{y:AV}{m':Mp}(c:OK m' (get E s) y)(b:t=s->OK m' x y):OK m' (get (E++[(t,x)]) s) y:=by
 induction E with
 |nil=>
   simp only[kD,get];split
   .grind [Nat.eq_of_beq_eq_true]
   .trivial
 |cons q E a=>
   grind [get]
theorem qxY{a:List (Nat×Nat)}:∀{n:Nat},qwb a n=true->∀i,i<n->yH a i=some i
 |0,_,i,b=>absurd b (wD _)
 |n+1,h,i,b=>by
   rw[qwb,wb]at h;by_cases c:i=n
   .grind [Nat.eq_of_beq_eq_true]
   .exact qxY h.2 i (by omega)
theorem qey.rel(d:Rel N m E τ tm σ){M:Mv}{m':Mp}(h:qey m tm σ M m')(s:qwb M.mb N.2=true):Rel N m' M.E ⟨M.bx,M.rw⟩ tm σ:=by
 refine⟨d.len,h.env,h.rw,h.nb,h.box,?_,h.rows,?_,λ i n=>?_⟩
 rotate_right
 .have g:=qxY s i n;let⟨l,a⟩:=h.mb i i g;exact⟨l,a.trans (d.pin i n).2⟩
 .intro w v k j t;let⟨c,l,a,g3⟩:=h.src w k;let⟨b,o,f,e⟩:=h.src v j;have:c=b:=d.inj c b g3 e (by rw[<-a,<-f,t]);grind
 .intro q p r k j e1 u;let⟨c,l,a,g3⟩:=h.rsrc q r k e1;let⟨b,o,f,e⟩:=h.rsrc p r j u;have:c=b:=d.rinj c b r g3 e a f;grind
theorem qAK(c:Rel N m E τ tm σ):∀(l:List (Tmp×Co)) {M:Mv}{m':Mp}{K:Env->TS->Option α}{r:α},mvE N.2 τ E l M K=some r->qey m tm σ M m'->
  ∃f b d,K f b=some r/\Rel N d f b tm σ
 |[],M,m',K,r,h,e=>by
   simp only[mvE]at h;split at h<;>try cases h
   rename_i k;exact⟨_,_,m',h,e.rel c k⟩
 |(t,o)::l,M,m',K,r,h,e=>by
   simp only[mvE]at h;let⟨x',u,j,i,q,a,g,p⟩:=qzG c o h (c.env t) e;refine qAK c l i (m':=j) ?_;refine⟨a.rw,a.nb,a.box,a.src,a.mb,a.rows,a.rsrc,a.mr,λ s=>?_⟩;exact qEf (a.env s) λ n=>by subst n;exact g
theorem qy6(f:Rel N m E τ tm σ){l:List (Tmp×Co)}{K:Env->TS->Option α}{r:α}(h:mvE N.2 τ E l ⟨[],[],[],[],[]⟩ K=some r):∃d a c,K d a=some r/\Rel N c d a tm σ:=
 qAK f l (m':=mp0) h
  ⟨rfl,rfl,λ b cs h=>by simp at h,λ g h=>absurd h (wD _),λ b g h=>by simp[yH]at h,λ id R h=>(by cases h),λ id r h=>absurd h (wD _),λ id e h=>by simp[yH]at h,λ t=>trivial⟩
end
end Go.AmZ
namespace Go.AmZ
open Go Go.RowKit Go.GxZ
section
variable {α:Type}{N:Nat×Nat}{m:Mp}{E:Env}{τ:TS}{tm:List AV}{σ:St}{K:KT α}{r:α}{p:Option (AV×Option St)}{c:TC}{C:Cfg}
theorem qwI{b:Builtin}{ts:Array TypeId}{xs:List TV}{ys:List AV}(B:C.ty=c.ty)(f:Rel N m E τ tm σ)(A:OKL m xs ys)(h:qpg c τ b ts xs K=some r):Sim N m E τ tm σ K r (yq C σ b ts ys):=by
 unfold qpg at h;split at h
 .rename_i x;obtain⟨y,r',rfl,g,o⟩:=A;cases o;split at h<;>try cases h
  rename_i t S;split at h<;>try cases h
  rename_i d T;split at h<;>try cases h
  .rename_i s i;cases g;refine .same f h (y:=.v (.int .i64 s.length)) ?_ rfl;have:qku ⟨s.toArray⟩=s.length:=by simp[qku,ByteArray.size]
   grind [yq,qeD,qgu]
  .rename_i i;cases g;refine .same f h (y:=.v (.int .i64 0)) ?_ rfl;grind [yq,qeD,qak]
  .rename_i a l lv i;refine .same f h (y:=.v (.int .i64 l.length)) ?_ rfl;obtain⟨rfl,hl⟩|⟨es,n,rfl,hl⟩:=zN g.1
   .grind [yq,qeD,qak]
   .grind [yq,qeD,qak,QU,qE]
  .rename_i id W i;split at h<;>try cases h
   rename_i R U;split at h<;>try cases h
   rename_i Y;let⟨R',J,_,_,V⟩:=g;rw[f.rw,U]at J;cases J;have X:=V (wg Y);refine .same f h (y:=.v (.int .i64 R.l.length)) ?_ rfl;rcases qdm f.rows (by rw[f.rw];exact U) X with⟨r,Q,_,rfl,_,_,_,_,g5,_⟩|⟨_,_,ab,_⟩
   .grind [yq,qeD,qak,qE]
   .grind [yq,qeD,qak,QU,zN,qE]
  .rename_i b i;split at h<;>try cases h
   rename_i κ a Z;split at h<;>try cases h
   rename_i b0 l D;let⟨_,_,_,_,vz,j,_⟩:=qhv Z;rw[T]at j;cases j;let⟨_,ks,vs,G,F⟩:=qlJ f g D;refine .same f h (y:=.v (.int .i64 l.length)) ?_ rfl;have P:∀d:TD,∀b,qeD d (.mp b)=none:=λ _ _=>rfl;obtain⟨_,rfl⟩:=g;simp only[yq,S,B,T,P,qyj,G,(qgy F).1]
 .rename_i s x;obtain⟨y,O,rfl,g,z,M,rfl,o,w⟩:=A;cases w;split at h<;>try cases h
  rename_i t u S hu;split at h<;>try (cases h;done)
  .rename_i k bytes zz _ _ _ _ _ _ _ _ a H j he;split at h<;>try cases h
   rename_i I;simp only[wb,decide_eq_true_eq]at I;let⟨⟨aa,P⟩,i⟩:=I;split at h<;>try cases h
   rename_i xs q;rw[<-f.rw]at q;let⟨es,J,V,_⟩:=qjr f.rows q o;grind [yq,qxX,quZ,decide_true,Bool.and_self]
  .rename_i L _ _ _ _ _ H j he;split at h<;>try (cases h;done)
   rename_i p I;cases o;have:=qxX (a:=.int .u8) (σ:=σ) (y:=y) (es:=JG ⟨p.toArray⟩) (xs:=qbt p) f g (qtv p) h
   have e:yq C σ .append ts [y,.v (.string ⟨p.toArray⟩)]=zh 1 L σ y (JG ⟨p.toArray⟩):=by
    grind [yq]
   rw[e];exact this
 .obtain⟨y,O,rfl,g,z,M,rfl,o,w⟩:=A;cases w;cases g;cases o;split at h<;>try cases h
  rename_i i;exact .same f h (by simp only[yq,i]) rfl
 .obtain⟨y,O,rfl,g,z,M,rfl,o,w⟩:=A;cases w;cases g;cases o;split at h<;>try cases h
  rename_i i;exact .same f h (by simp only[yq,i]) rfl
 .cases h
theorem qvT{op:Op}(a:Rel N m E τ tm σ)(h:opT c E τ op K=some r):Sim N m E τ tm σ K r (qc5 c.pc tm σ op):=by
 unfold opT at h;split at h
 .exact qwI (C:=c.pc.cfg) rfl a (a.evs _) h
 .rename_i g b ts;split at h<;>try cases h
  rename_i f cs k;split at h<;>try cases h
  rename_i d;have d:c.pc.inl f=none:=d;have e:=a.ev g;rw[k]at e;let⟨ds,e,i⟩:=e;split at h
  .cases i;have:=qBp a (a.evs b.toList) h;grind [qc5]
  .split at h<;>try cases h
   rename_i j;have:=qs7 a ((a.evs b.toList).append i) j h;grind [qc5]
 .cases h
 .rename_i o n l;have:=qBg (C:=c.pc.cfg) rfl a h;grind [qc5]
theorem Rel.put(a:Rel c.n2 m E τ tm σ){d:Option Tmp}{x:TV}{y:AV}(j:OK m x y){K:Env->Option α}(h:qwu c E d x K=some r):∃f,K f=some r/\Rel c.n2 m f τ (Jx tm d y) σ:=by
 unfold qwu at h;split at h
 .exact⟨E,h,a⟩
 .rename_i d;split at h<;>try cases h
  rename_i e;have e:d<c.nt:=Nat.lt_of_succ_le (by simpa[Nat.blt]using e);refine⟨_,h,?_⟩;refine⟨by show(tm.set d y).length=_;rw[wE];exact a.len,λ t=>?_,a.rw,a.nb,a.box,a.inj,a.rows,a.rinj,a.pin⟩;show OK m (get ((d,x)::E) t) ((tm.set d y).getD t .dead);have i:d<tm.length:=by rw[a.len];exact e
  simp only[get];split
  .grind [Nat.eq_of_beq_eq_true,List.getElem?_set_self]
  .rename_i b;have b:d≠t:=λ g=>by rw[g]at b;simp at b
   have:=a.env t;grind
theorem Rel.know(a:Rel N m E τ tm σ){d:Nat}{x:TV}(h:OK m x (tm.getD d .dead)):Rel N m ((d,x)::E) τ tm σ:=by
 refine⟨a.len,λ t=>?_,a.rw,a.nb,a.box,a.inj,a.rows,a.rinj,a.pin⟩;simp only[get];split
 .grind [Nat.eq_of_beq_eq_true]
 .exact a.env t
theorem qvu{ops:Array Oper}{o:Oper}{K:Bool->Env->Option α}(e:Rel N m E τ tm σ)(h:qyW ops E o K=some r):∃w g,zw ops tm o=some w/\K w g=some r/\Rel N m g τ tm σ:=by
 unfold qyW at h;unfold zw;split at h
 .grind
 .rename_i j c i;rw[i];simp only;split at h<;>try cases h
  rename_i d f;rw[f];simp only;have a:=e.env d;split at h<;>try cases h
  .rename_i x b;rw[b]at a;have a:tm.getD d .dead=.v (.bool x):=a;rw[a];cases c with
   |true=>
     cases x with
     |true=>exact⟨true,_,rfl,h,e.know a⟩
     |false=>exact⟨false,_,rfl,h,e.know a⟩
   |false=>
     cases x with
     |true=>exact⟨false,_,rfl,h,e.know a⟩
     |false=>exact⟨true,_,rfl,h,e.know a⟩
  .rename_i b;rw[b]at a;let⟨ds,a,f⟩:=a;cases f;grind
theorem qgc(a:Rel N m E τ tm σ){ops:Array Oper}{k:Nat}{t:Tmp}{b:Nat}(h:qjV E ops k t=some b):b<m.nb/\zR tm ops k t=some (m.b b):=by
 unfold qjV at h;unfold zR;split at h<;>try cases h
 rename_i u d;split at h<;>cases h;rename_i o c;have:=a.env u;rw[c]at this;let⟨f,e⟩:=this;grind
theorem qCE(c:Rel N m E τ tm σ){ops:Array Oper}{k:Nat}{t:Tmp}(h:qBI E ops k t=true):qaU tm ops k t=true/\zR tm ops k t=none:=by
 unfold qBI at h;unfold qaU zR;split at h<;>try cases h
 rename_i u b;split at h<;>try cases h
 rename_i d;have:=c.env u;rw[d]at this;let⟨R,_,_,_,a,_⟩:=this;rw[b];obtain⟨r,j,e,a⟩|⟨ds,a⟩:=a<;>simp only[a]<;>exact⟨rfl,by trivial⟩
mutual
theorem qFs:∀{x:TV}{y:AV}{l:List Nat},OK m x y->rbT x=some l->rb y=l.map m.b
 |.i ..,y,l,a,h|.b ..,y,l,a,h|.s ..,y,l,a,h=>by cases h;cases a;rfl
 |.c ..,y,l,a,h=>by cases h;obtain⟨_,rfl⟩:=a;rfl
 |.nil,y,l,a,h=>by cases h;cases a;rfl
 |.sl ..,y,l,a,h=>by cases h;obtain⟨rfl,_⟩|⟨es,n,rfl,_⟩:=zN a.1<;>rfl
 |.row ..,y,l,a,h=>by
   cases h;let⟨R,_,_,a,_⟩:=a;obtain rfl|⟨k,es,j,rfl⟩|⟨r,lo,n,e,f,rfl⟩:=a<;>rfl
 |.ptr b o,y,l,a,h=>by cases h;obtain⟨_,rfl⟩:=a;rfl
 |.pti b i,y,l,a,h=>by cases h;obtain⟨_,_,rfl⟩:=a;rfl
 |.rpt ..,y,l,a,h=>by cases h;let⟨R,_,_,_,a,_⟩:=a;obtain⟨r,i,e,rfl⟩|⟨ds,rfl⟩:=a<;>rfl
 |.ept ..,y,l,a,h=>by cases h;obtain⟨ds,rfl,_⟩:=a;rfl
 |.fn f cs,y,l,a,h|.agg cs,y,l,a,h|.tup cs,y,l,a,h=>by obtain⟨ds,rfl,d⟩:=a;exact qgg d h
 |.dead,y,l,a,h=>by cases h
 |.mp b,y,l,a,h=>by cases h;obtain⟨_,rfl⟩:=a;rfl
 |.mc ..,y,l,a,h=>by cases h;obtain⟨ks,vs,rfl,_⟩:=qae a;rfl
theorem qgg:∀{xs:List TV}{ys:List AV}{l:List Nat},OKL m xs ys->qmh xs=some l->rbL ys=l.map m.b
 |[],ys,l,c,h=>by cases h;cases c;rfl
 |x::xs,ys,l,⟨y,r,e,i,g⟩,h=>by
   subst e;simp only[qmh]at h;split at h<;>cases h;rename_i a b f d;rw[rbL,qFs i f,qgg g d,kK]
end
theorem qxi(rw:List Row)(x:AV):rb (qB rw x)=rb x:=by
 cases x<;>first|rfl|skip
 rename_i r lo n a f;simp only[qB];split
 .split<;>rfl
 .rfl
theorem qv1(rw:List Row):∀l:List AV,rbL (l.map (qB rw))=rbL l
 |[]=>rfl
 |x::l=>by rw[wz,rbL,rbL,qxi,qv1 rw l]
theorem qD8(rw:List Row)(x:AV):rb (yb rw x)=rb x:=by
 unfold yb;split
 .exact qv1 rw _
 .exact qxi rw x
theorem qv8(rw:List Row):∀l:List AV,rbL (l.map (yb rw))=rbL l
 |[]=>rfl
 |x::l=>by rw[wz,rbL,rbL,qD8,qv8 rw l]
theorem qgP:∀{l seen:List Nat}{b:Nat},b∈qe seen l->b∈l
 |[],_,b,h=>by cases h
 |c::l,seen,b,h=>by
   rw[qe]at h;split at h
   .exact wj _ (qgP h)
   .obtain rfl|h:=wM.1 h
    .exact ww ..
    .exact wj _ (qgP h)
theorem qBM{a:List AV}(h:∀b∈rbL a,rbL (σ.bx.getD b [])=[]){b:Nat}(d:b∈yR σ a):b∈rbL a:=by
 have f:(qe [] (rbL a)).flatMap (λ b=>rbL (σ.bx.getD b []))=[]:=ky.2 λ c g=>h c (qgP g);unfold yR at d;cases e:σ.bx.length with
 |zero=>rw[e]at d;exact qgP d
 |succ n=>rw[e,qg0,f]at d;exact qgP d
theorem qzM(r:Rel c.n2 m E τ tm σ){ops:Array Oper}{j:Nat}{op:Op}(h:qpS c ops j E τ op=true):qar c.pc.cfg ops j tm σ op=true:=by
 unfold qpS at h;unfold qar;rw[wW]at h |-
 refine h.imp id λ h=>?_;rw[wo]at h |-
 intro p P;have:=h p P;let⟨q,i⟩:=p;simp only at this |-
 split
 .rename_i t a O;rw[O]at this;simp only[wW]at this |-
  refine this.imp id λ F=>?_;split at F
  .rename_i y l N e;rw[wb,wo]at F;let⟨z,G⟩:=qgc r N;rw[G]
   have A:m.b y<σ.bx.length:=by
    let⟨ds,K,_⟩:=r.box y _ (List.getElem?_eq_getElem (by rw[<-r.nb];exact z));exact getElem?_lt K
   simp only[wb,decide_eq_true_eq,wJ];refine⟨A,?_⟩;rw[<-xC,vW];intro Q;unfold qzJ at e;split at e<;>try cases e
   rename_i g L ts _;split at e<;>try cases e
   rename_i f cs R;split at e<;>try cases e
   rename_i V k I
   have k:c.pc.cfg.inl f=none:=by
    show c.inl f=none;cases T:c.inl f with
    |none=>rfl
    |some _=>rw[T]at k;cases k
   split at e<;>cases e;rename_i d;rw[wo]at d;have n:=r.ev g;rw[R]at n;let⟨u,n,w⟩:=n;have B:=qgg ((r.evs L.toList).append w) I
   have J:∀b∈rbL (L.toList.map (aev tm)++u),rbL (σ.bx.getD b [])=[]:=by
    intro b M;rw[B]at M;obtain⟨x,o,rfl⟩:=wI.1 M;have:=d x o;unfold qBZ at this;split at this<;>try cases this
    rename_i cs' v;split at this<;>try cases this
    rename_i C;let⟨ds,K,U⟩:=r.box x cs' v;rw[zg K,qgg U C];rfl
   have s:m.b y∈rbL (L.toList.map (aev tm)++u):=by
    simp only[qqR,qdo,n,k]at Q;grind [qdM,qBM,qv8]
   rw[B]at s;let⟨x,o,S⟩:=wI.1 s;have H:=F.2 x o
   have D:x<m.nb:=by
    have:=d x o;unfold qBZ at this;split at this<;>try cases this
    rename_i cs' v;rw[r.nb];exact getElem?_lt v
   have:=r.inj x y D z S;subst this;simp at H
  .cases F
 .rfl
theorem qun(b:Rel c.n2 m E τ tm σ){ops:Array Oper}{a:Bool}{j:Nat}{op:Op}(h:(a && !(qM c.loT op&&qpS c ops j E τ op))=false):(a && !(qM c.pc.cfg.lo op&&qar c.pc.cfg ops j tm σ op))=false:=by
 cases a with
 |false=>rfl
 |true=>
   rw[kJ,vy,wb]at h |-
   grind [TC.lo_eq,qzM]
theorem qzq(hr:Rel N m E τ tm σ){ops:Array Oper}{j i:Nat}{o q:Oper}(h:qmY E ops j o i q=true):qff tm ops j o i q=true:=by
 unfold qmY at h;unfold qff;split at h
 case h_4=>cases h
 case h_3 =>
  rename_i h1 h2;simp only[h1,h2];cases hb:qjV E ops i _ with
  | none=>rw[hb]at h;cases h
  | some b=>rw[(qgc hr hb).2];rfl
 case h_2 =>
  rename_i h1 h2;simp only[h1,h2];cases hb:qjV E ops i _ with
  | none=>rw[hb]at h;cases h
  | some b=>rw[(qgc hr hb).2];rfl
 rename_i h1 h2;split at h
 case h_3=>cases h
 case h_2 =>
  rename_i x hx _;obtain⟨a1,a2⟩:=qgc hr hx;grind [qCE]
 rename_i x y hx hy;obtain⟨a1,a2⟩:=qgc hr hx;obtain⟨b1,b2⟩:=qgc hr hy;simp only[h1,h2,a2,b2];have hne:x≠y := λ he=>by rw[he]at h;simp at h
 have:m.b x≠m.b y := λ he=>hne (hr.inj x y a1 b1 he);grind [Nat.eq_of_beq_eq_true]
theorem qkf(i:Rel N m E τ tm σ){ops:Array Oper}{d:Bool}{a:Nat->Bool}(h:qm6 a E ops d=true):qbZ a tm ops d=true:=by
 cases d with
 |false=>rfl
 |true=>
   show JK a tm ops=true;simp only[qm6,wo,wb,decide_eq_true_eq,wW,wJ]at h;simp only[JK,wo,wb,decide_eq_true_eq,wW,wJ];intro p c;let⟨f,e⟩:=h p c;refine⟨f,λ q b=>?_⟩;obtain (g|g)|g:=e q b
   .exact .inl (.inl g)
   .refine .inl (.inr ?_);unfold qDu at g;unfold qfy;rw[xg]at g |-
    refine⟨g.1,?_⟩;rw[xN]at *;obtain g|g:=g.2
    .exact .inl g
    .right;simp only[vy,wW]at g;unfold qcF;simp only[vy,wW];grind [qzq]
   .exact .inr g
theorem qiT(i:Rel c.n2 m E τ tm σ){f:ResultVar}{x:TV}(h:qkl c E τ f=some x):∃y,qgj c.pc.cfg tm σ f=some y/\OK m x y:=by
 cases f with
 |tmp t=>cases h;exact⟨_,rfl,i.env t⟩
 |cell a t=>
   simp only[qkl]at h;split at h<;>try cases h
   rename_i d b o l n;have g:=i.env a;rw[n]at g;let⟨r,g⟩:=g;split at h<;>try cases h
   rename_i cs j;split at h<;>try cases h
   rename_i k;let⟨ds,s,q⟩:=i.box b cs j;let⟨y,g3,p⟩:=qdb q h;refine⟨y,?_,p⟩;have e:c.pc.cfg.ty t=some d:=l;grind [qgj,yu,g3,qjq]
theorem qqc{m:Mp}:∀(n:Nat) {xs:List TV}{ys:List AV}{pre:List AV}{post:List AV},OKL m xs ys->pre.length=n->∀t,OK m (get (qbV n xs) t) ((pre++(ys++post)).getD t .dead)
 |n,[],ys,pre,post,h,a,t=>trivial
 |n,x::xs,ys,pre,post,⟨y,r,b,d,c⟩,a,t=>by
   subst b;simp only[qbV,get];split
   .simp_all
   .have:=qqc (m:=m) (n+1) (pre:=pre++[y]) (post:=post) c (by simp[a]) t;simpa using this
theorem qj6{ops:Array Oper}{d:Bool}:∀{l:List Oper}{m:Mp}{E:Env}{τ:TS}{tm:List AV}{σ:St}{n:Env->TS->Option α},qea (opT c) c ops d l E τ n=some r->Rel c.n2 m E τ tm σ->
  ∃f m' v a,yS (qc5 c.pc) c.pc ops d l ⟨tm,σ⟩=some f/\MLe m m'/\Rel c.n2 m' v a f.tm f.σ/\n v a=some r
 |[],m,E,τ,tm,σ,n,h,i=>⟨_,m,E,τ,rfl,.refl m,i,h⟩
 |o::z,m,E,τ,tm,σ,n,h,i=>by
   simp only[qea]at h;simp only[yS];let⟨w,v,C,h,i⟩:=qvu i h;rw[C];cases w with
   |true=>
     simp only at h |-
     have q:=i;let⟨x,a,y,σ',m',h,F,j,g,A,D⟩:=qvT i h;rw[F];cases a with
     |none=>
       rw[D rfl]at g |-
       let⟨B,h,b⟩:=g.put A h;let⟨f,p,u,e,k,t,g3,s⟩:=qj6 h b;exact⟨f,p,u,e,k,j.trans t,g3,s⟩
     |some a=>
       simp only at h;split at h<;>try cases h
       rename_i G;let⟨B,h,b⟩:=Rel.put (τ:=a) g A h;let⟨f,p,u,e,k,t,g3,s⟩:=qj6 h b;refine⟨f,p,u,e,?_,j.trans t,g3,s⟩;cases σ' with
       |none=>exact k
       |some σ'=>
         simp only;rw[qun q G];exact k
   |false=>
     simp only at h |-
     let⟨B,h,b⟩:=i.put (x:=.tup []) (y:=qdE) ⟨[],rfl,rfl⟩ h;exact qj6 h b
theorem qzT:∀(cd:Code) {m:Mp}{E:Env}{τ:TS}{tm:List AV}{σ:St}{g:Env->TS->Option α},qia c cd E τ g=some r->Rel c.n2 m E τ tm σ->
  ∃i m' j e,qI (qc5 c.pc) c.pc (qo3 cd) cd ⟨tm,σ⟩=some (.normal,i)/\MLe m m'/\Rel c.n2 m' j e i.tm i.σ/\g j e=some r:=by
 intro cd
 induction cd with
 |skip=>intro m E τ tm σ g h f;exact⟨_,m,E,τ,rfl,.refl m,f,h⟩
 |seq a b n l=>
   intro m E τ tm σ g h f;let⟨I,J,K,q,G,F,D,C⟩:=n (show qia c a E τ (λ E σ=>qia c b E σ g)=some r from h) f;let⟨s,t,H,k,B,A,z,y⟩:=l C D;refine⟨s,t,H,k,?_,F.trans A,z,y⟩;show qI _ _ (max (qo3 a) (qo3 b)+1) _ _=_;simp only[qI,zO];rw[qbp (vl _ _) G];exact qbp (vH _ _) B
 |region id ops d=>
   intro m E τ tm σ g h f;simp only[qia]at h;split at h<;>try cases h
   rename_i p o;split at h<;>try cases h
   rename_i u;let⟨i,m',j,e,x,w,g3,v⟩:=qj6 h f;refine⟨i,m',j,e,?_,w,g3,v⟩;show qI _ _ (0+1) _ _=_;simp only[qI,zO,p,o];rw[wat,qkf f u,x]
 |_=>intro m E τ tm σ g h f;simp only[qia]at h;cases h
theorem qwq(b:Rel c.n2 m E τ tm σ):∀{l:List ResultVar}{xs:List TV},quP c E τ l=some xs->∃ys,ja c.pc.cfg tm σ l=some ys/\OKL m xs ys
 |[],xs,h=>by cases h;exact⟨[],rfl,rfl⟩
 |v::l,xs,h=>by
   simp only[quP]at h;split at h<;>try cases h
   rename_i x d;split at h<;>cases h;rename_i xs a;let⟨y,i,g⟩:=qiT b d;let⟨ys,f,e⟩:=qwq b a;exact⟨y::ys,by simp only[ja,i,f],_,_,rfl,g,e⟩
theorem qEG{fn:Func}{xs:List TV}{ys:List AV}(b:Rel c.n2 m E τ tm σ)(n:OKL m xs ys)(h:qDi c fn τ xs K=some r):Sim c.n2 m E τ tm σ K r (qss c.pc σ fn ys):=by
 unfold qDi at h;split at h<;>try cases h
 rename_i cd v;split at h<;>try cases h
 rename_i a;rw[wb]at a;have x:=wY a.1;have z:=wY a.2;have u:ys.length=xs.length:=OKL.len n
 have i:Rel (TC.n2 {c with nt:=fn.ntmps}) m (qbV 0 xs) τ (ys++List.replicate (fn.ntmps-ys.length) .dead) σ:=by
  refine⟨by show _=fn.ntmps;rw[wd,xj];omega,λ t=>?_,b.rw,b.nb,b.box,b.inj,b.rows,b.rinj,b.pin⟩;have:=qqc (m:=m) 0 (pre:=[]) (post:=List.replicate (fn.ntmps-ys.length) .dead) n rfl t;simpa using this
 let⟨e,m',w,d,p,o,g3,j⟩:=qzT (c:={c with nt:=fn.ntmps}) cd h i;split at j<;>try cases j
 rename_i q g;let⟨k,l,s⟩:=qwq (c:={c with nt:=fn.ntmps}) g3 (show quP {c with nt:=fn.ntmps} w d fn.results.toList=some q from g);refine .to j (y:=qX k) ?_ o ⟨b.len,λ t=>(b.env t).mono o,g3.rw,g3.nb,g3.box,g3.inj,g3.rows,g3.rinj,g3.pin⟩ (qtq s);have p:qI (qc5 c.pc) c.pc (qo3 cd) cd ⟨ys++List.replicate (fn.ntmps-ys.length) .dead,σ⟩=some (.normal,e):=p;have l:ja c.pc.cfg e.tm e.σ fn.results.toList=some k:=l;unfold qss;grind [Jf,qbp]
theorem qD4{op:Op}(i:Rel c.n2 m E τ tm σ)(h:opI c E τ op K=some r):Sim c.n2 m E τ tm σ K r (qbE c.pc tm σ op):=by
 unfold opI at h;split at h
 .rename_i g a ts;split at h<;>try cases h
  rename_i f cs k;have d:=i.ev g;rw[k]at d;let⟨ds,d,l⟩:=d;split at h
  .rename_i fn b;have b:c.pc.inl f=some fn:=b
   have e:qbE c.pc tm σ (.call ⟨.value g,a,ts⟩)=qss c.pc σ fn (a.toList.map (aev tm)++ds):=by
    simp only[qbE,d,b]
   rw[e];exact qEG i ((i.evs a.toList).append l) h
  .rename_i b;have b:c.pc.inl f=none:=b
   have e:qbE c.pc tm σ (.call ⟨.value g,a,ts⟩)=qc5 c.pc tm σ (.call ⟨.value g,a,ts⟩):=by
    simp only[qbE,qc5,d,b]
   rw[e];exact qvT i h
 .rename_i j
  have e:qbE c.pc tm σ op=qc5 c.pc tm σ op:=by
   unfold qbE;grind
  rw[e];exact qvT i h
variable {Q:Ex->S->Prop}{k:List It}
theorem qdh{ops:Array Oper}{b:Bool}:∀{l:List Oper}{m:Mp}{E:Env}{τ:TS}{tm:List AV}{σ:St}{i:Env->TS->Option α},qea (opI c) c ops b l E τ i=some r->Rel c.n2 m E τ tm σ->
  (∀m E τ tm σ,i E τ=some r->Rel c.n2 m E τ tm σ->Go c.pc Q k .normal ⟨tm,σ⟩)->Go c.pc Q (.ops ops b l::k) .normal ⟨tm,σ⟩
 |[],m,E,τ,tm,σ,i,h,f,g=>by
   rw[qyz];exact g m E τ tm σ h f
 |o::n,m,E,τ,tm,σ,i,h,f,g=>by
   simp only[qea]at h;rw[qGg];let⟨w,A,s,h,f⟩:=qvu f h;rw[s];cases w with
   |true=>
     rw[qAp];simp only at h;have j:=f;let⟨x,d,y,σ',m',h,u,v,e,p,t⟩:=qD4 f h;rw[u];cases d with
     |none=>
       rw[t rfl]at e |-
       rw[qxu];let⟨q,h,a⟩:=e.put p h;exact qdh h a g
     |some d=>
       simp only at h;split at h<;>try cases h
       rename_i z;let⟨q,h,a⟩:=Rel.put (τ:=d) e p h;cases σ' with
       |none=>
         rw[qxu];exact qdh h a g
       |some σ'=>
         rw[qEe];exact⟨qun j z,qdh h a g⟩
   |false=>
     rw[qzu];simp only at h;let⟨q,h,a⟩:=f.put (x:=.tup []) (y:=qdE) ⟨[],rfl,rfl⟩ h;exact qdh h a g
variable {fin:Env->TS->Option α}{L:List It->Env->TS->Option α}{Qr:α->Ex->S->Prop}
def qug(c:TC)(fin:Env->TS->Option α)(Qr:α->Ex->S->Prop):Prop:=∀E τ r m tm σ,fin E τ=some r->Rel c.n2 m E τ tm σ->∀e,e=.ret\/e=.normal->Qr r e ⟨tm,σ⟩
def LOK(c:TC)(L:List It->Env->TS->Option α)(Qr:α->Ex->S->Prop):Prop:=∀a E τ r m tm σ,L a E τ=some r->Rel c.n2 m E τ tm σ->Go c.pc (Qr r) a .normal ⟨tm,σ⟩
theorem qD1(c:Rel N m E τ tm σ){t:Nat}(h:qCM (get E t)=true):qrn (tm.getD t .dead)=true:=by
 have a:=c.env t;cases b:get E t<;>rw[b]at h a<;>first|(cases h;done)|skip
 rw[show tm.getD t .dead=_ from a.2];rfl
theorem qEb(hr:Rel N m E τ tm σ){ops:Array Oper}{t:Nat}(h:(qCM (get E t)&&qzA E ops)=true):qpd tm ops t=true:=by
 rw[wb]at h;unfold qpd;rw[qD1 hr h.1,kJ];have h2:=h.2;unfold qzA at h2;unfold qyS;split at h2
 case h_2=>cases h2
 rename_i p l hp;rw[hp];simp only;split at h2
 case h_2=>cases h2
 rename_i a u b hop;have ho:=hr.ev u;rw[hop];simp only;cases hx:evT E u<;>rw[hx]at h2 ho<;>first | (cases h2;done) | skip
 ·rcases zN ho.1 with⟨hy,_⟩ | ⟨es,n,hy,_⟩<;>rw[hy]<;>rfl
 ·obtain⟨R,_,_,hy,_⟩:=ho;rcases hy with hy | ⟨k,es,j,hy⟩ | ⟨r,lo,n,ep,f,hy⟩<;>rw[hy]<;>rfl
theorem qxM(a:Rel N m E τ tm σ){x:Operand}{b:Bool}(h:evT E x=.b b){c:Bool}(d:b=c):Rel N m (qym E x c) τ tm σ:=by
 subst d;unfold qym;split
 .rename_i t;refine a.know ?_;have:=a.env t;have h:get E t=.b b:=h;rw[h]at this;exact this
 .exact a
theorem qxx(c:Rel N m E τ tm σ)(t:Nat){x':TV}(g:rsA (tm.getD t .dead)=[]->OK (shM m) x' (tm.getD t .dead))(f:rsA (tm.getD t .dead)≠[]->OK (shM m) x' (yb σ.rw (tm.getD t .dead))):
  Rel N (shM m) ((t,x')::E) (shA τ) (qao ⟨tm,σ⟩ t).tm (qao ⟨tm,σ⟩ t).σ:=by
 unfold qao;cases a:rsA (tm.getD t .dead)with
 |nil=>
   simp only[a];exact(c.share rfl c.rows.sh).know (g a)
 |cons q l=>
   simp only[a];have f:=f (by rw[a];intro h;cases h);have b:=c.share (σ':={σ with rw:=frz σ.rw (q::l),wrr:=(q::l)++σ.wrr}) rfl (c.rows.frz _ _)
   have i:t<tm.length:=by
    apply vK;intro e;rw[List.getD_eq_getElem?_getD,List.getElem?_eq_none e]at a;cases a
   refine⟨by rw[wE];exact b.len,λ u=>?_,b.rw,b.nb,b.box,b.inj,b.rows,b.rinj,b.pin⟩;simp only[get];split
   .grind [Nat.eq_of_beq_eq_true,List.getElem?_set_self]
   .rename_i d;have d:t≠u:=λ j=>by rw[j]at d;simp at d
    rw[List.getD_eq_getElem?_getD,List.getElem?_set_ne d,<-List.getD_eq_getElem?_getD];exact b.env u
theorem qzL{t:Nat}(h:rsA (tm.getD t .dead)=[]):qao ⟨tm,σ⟩ t=⟨tm,σ⟩:=by
 unfold qao;simp only[h]
theorem qCp(g:Rel N m E τ tm σ){t:Nat}{a:Ty}{K:Env->TS->Option α}(h:qyq E τ t a K=some r):
  ∃k f m',K k f=some r/\Rel N m' k f (qao ⟨tm,σ⟩ t).tm (qao ⟨tm,σ⟩ t).σ:=by
 have c:=g.env t;unfold qyq at h
 have b:rsA (tm.getD t .dead)=[]->K E τ=some r->∃k f m',K k f=some r/\Rel N m' k f (qao ⟨tm,σ⟩ t).tm (qao ⟨tm,σ⟩ t).σ:=λ z J=>by
  grind [qzL]
 split at h
 .rename_i d;rw[d]at c;exact b (by rw[show tm.getD t .dead=_ from c];rfl) h
 .rename_i d;rw[d]at c;exact b (by rw[show tm.getD t .dead=_ from c];rfl) h
 .rename_i d;rw[d]at c;exact b (by rw[show tm.getD t .dead=_ from c];rfl) h
 .rename_i d;rw[d]at c;exact b (by rw[show tm.getD t .dead=_ from c.2];rfl) h
 .rename_i d;rw[d]at c;exact b (by rw[show tm.getD t .dead=_ from c];rfl) h
 .rename_i d;rw[d]at c;refine b ?_ h;obtain⟨z,_⟩|⟨es,n,z,_⟩:=zN c.1<;>(rw[z];rfl)
 .rename_i id j d;rw[d]at c;split at h<;>try cases h
  rename_i R x;split at h<;>try cases h
  rename_i B;have s:R.ver=j:=wg B;split at h<;>try cases h
  rename_i l C
  have I:qhI m.rw a (.row id j)=some l:=by
   unfold qhI;rw[g.rw];simp only[x,B];exact C
  let⟨es,M,L,g3⟩:=qjr g.rows I c;obtain⟨e,rfl⟩:=yp C;subst e;have e1:∀y:AV,(∀cs,y≠.agg cs)->yb σ.rw y=qB σ.rw y:=λ y p=>by cases y<;>first|rfl|exact absurd rfl (p _)
  let⟨R',o,_,A,D⟩:=c
  have v:∀cs,tm.getD t .dead≠.agg cs:=by
   intro cs H;rw[H]at A;obtain h|⟨_,_,_,h⟩|⟨_,_,_,_,_,h⟩:=A<;>cases h
  refine⟨_,_,_,h,qxx g t (λ w=>?_) λ _=>?_⟩
  .have i:=D (by rw[g.rw,x]at o;cases o;exact s);have G:∃y,y=tm.getD t .dead:=⟨_,rfl⟩
   let⟨y,p⟩:=G;rw[<-p]at i w |-
   rw[g.rw,x]at o;cases o;revert i;unfold Qp;cases m.r id with
   |none=>intro i;exact⟨i.1,wC (by decide) i.2⟩
   |some q=>intro i;rw[i]at w;cases w
  .rw[e1 _ v];exact⟨g3,qhp g3⟩
 .rename_i d;refine⟨_,_,shM m,h,?_⟩;have:=qxx g t (x':=.dead) (λ _=>trivial) λ _=>trivial;refine⟨this.len,λ u=>?_,this.rw,this.nb,this.box,this.inj,this.rows,this.rinj,this.pin⟩;by_cases F:t=u
  .subst F;rw[d];trivial
  .have J:=this.env u;grind [get,Nat.eq_of_beq_eq_true]
 .cases h
theorem qm2:∀(l:List (Tmp×Co)) {m:Mp}{E:Env}{τ:TS}{tm:List AV}{σ:St}{K:Env->TS->Option α}{r:α},Rel N m E τ tm σ->qo5 l E τ K=some r->
  ∃e b m',K e b=some r/\Rel N m' e b (qcu (qc7 l) ⟨tm,σ⟩).tm (qcu (qc7 l) ⟨tm,σ⟩).σ
 |[],m,E,τ,tm,σ,K,r,c,h=>⟨E,τ,m,h,c⟩
 |(t,i)::l,m,E,τ,tm,σ,K,r,c,h=>by
   cases i with
   |plist a=>
     rw[qo5]at h;let⟨k,f,j,g,d⟩:=qCp c h;exact qm2 l d g
   |_=>simp only[qo5]at h;exact qm2 l c h
theorem qst(F:qug c fin Qr)(D:LOK c L Qr):∀(n:Nat) {s:List It}{e:Ex}{E:Env}{τ:TS}{r:α}{m:Mp}{tm:List AV}{σ:St},Qj c fin L n s e E τ=some r->Rel c.n2 m E τ tm σ->Go c.pc (Qr r) s e ⟨tm,σ⟩:=by
 intro n
 induction n with
 |zero=>intro s e E τ r m tm σ h f;simp[Qj]at h
 |succ n g=>
   intro s e E τ r m tm σ h f;cases s with
   |nil=>
     simp only[Qj]at h;rw[qE1];cases e with
     |exit i=>cases h
     |normal=>exact F E τ r m tm σ h f _ (.inr rfl)
     |ret=>exact F E τ r m tm σ h f _ (.inl rfl)
   |cons H k=>
     cases H with
     |ops os d l=>simp[Qj]at h
     |blk id=>
       simp only[Qj]at h;cases e with
       |exit i=>
         simp only at h;rw[qwY];split at h
         .rename_i q;have q:i=id:=wg q;rw[if_pos q];split at h
          .let⟨u,j,m',h,o⟩:=qy6 f h;exact D k u j r m' tm σ h o
          .exact g h f
         .rename_i q;have q:i≠id:=λ M=>by rw[M]at q;simp at q
          rw[if_neg q];exact g h f
       |normal=>
         simp only at h;rw[qtL];split at h
         .let⟨u,j,m',h,o⟩:=qy6 f h;exact D k u j r m' tm σ h o
         .exact g h f
       |ret=>rw[qyN];simp only at h;exact g h f
     |code cd=>
       cases e with
       |exit i=>simp only[Qj]at h;rw[qvj];exact g h f
       |ret=>simp only[Qj]at h;rw[qwZ];exact g h f
       |normal=>
         simp only[Qj]at h;cases cd with
         |skip=>rw[qCf];exact g h f
         |label l=>rw[qCi];exact g h f
         |region id ops d=>
           let⟨l⟩:=ops;simp only at h;split at h
           .rename_i t;split at h<;>try cases h
            rename_i z;rw[wb]at z;have K:=(wb _ _).mp z.2;grind [qyP,TC.lo_eq,qkf,qdh]
           .rename_i t;split at h
            .rename_i p B;split at h<;>try cases h
             rename_i z;refine qzb id l d t B (by rw[wat];exact qkf f z) ?_;refine qdh h f λ m E τ tm σ h f=>?_;split at h<;>try cases h
             rename_i I;exact⟨qEb f I,qdh h f λ m E τ tm σ h f=>g h f⟩
            .grind [go_region,TC.lo_eq,qkf,qdh]
         |seq a b=>rw[qGf];exact g h f
         |cond x a b=>
           simp only at h;rw[qDK];split at h<;>try cases h
           rename_i y A;have w:=f.ev x;rw[A]at w;have w:aev tm x=.v (.bool y):=w;rw[w];cases y with
           |true=>rw[qAk];exact g h (qxM f A rfl)
           |false=>rw[qzy];exact g h (qxM f A rfl)
         |block id b=>rw[qCm];exact g h f
         |loop b=>
           simp only at h;split at h<;>try cases h
           rename_i l J;let⟨O,G,N,h,C⟩:=qm2 l f h;let⟨u,j,m',h,o⟩:=qy6 C h;rw[<-qFf,show c.pc.pur b=qc7 l from by show c.pur b=_;unfold TC.pur;rw[J]];exact D _ u j r m' _ _ h o
         |exit id=>rw[qDY];exact g h f
         |ret=>rw[qEg];exact g h f
         |_=>simp only at h;cases h
theorem qA9(f:qug c fin Qr)(g:LOK c L Qr)(n:Nat):LOK c (λ i E τ=>quN c fin L n i E τ) Qr:=by
 intro i E τ r m tm σ h d;simp only[quN]at h;split at h
 .rename_i b k;rw[go_loop];split at h
  .rename_i l e;let⟨p,j,o,h,a⟩:=qm2 l d h;rw[show c.pc.pur b=qc7 l from by show c.pur b=_;unfold TC.pur;rw[e]];exact qst f g n h a
  .rename_i e;rw[show c.pc.pur b=[]from by show c.pur b=_;unfold TC.pur;rw[e]];exact qst f g n h d
 .exact qst f g n h d
theorem qoo(b:qug c fin Qr)(n:Nat):∀k,LOK c (qkg c fin n k) Qr
 |0=>λ a E τ r m tm σ h=>by simp[qkg]at h
 |k+1=>by
   intro a E τ r m tm σ h d;exact qA9 b (qoo b n k) n a E τ r m tm σ h d
theorem qEu{y:AV}:qo7 0 σ.rw y=qB σ.rw y:=by
 cases y<;>rfl
theorem qD9(y:AV)(h:∀vs,y≠.tup vs):qft 0 σ.rw y=yb σ.rw y:=by
 cases y with
 |agg cs=>
   show AV.agg (cs.map (qo7 0 σ.rw))=.agg (cs.map (qB σ.rw));rw[kS λ x _=>qEu]
 |_=>rfl
theorem qmZ{a:Ty}{y:AV}{v:Val a}(h:yW a y=some v):Sub y (zK a v):=by
 unfold yW at h;split at h
 case h_2=>cases h
 rename_i hb;have hb:a.agg=jn y:=by simpa[jP]using hb
 obtain⟨pre,h1,_,h3,h4,_⟩:=zc a (qy.1 h);rw[wA]at h1;rw[<- h1]at h4
 have agg:∀ e:List AV,a.agg=true->jx (cellsOf y) e->Sub y (.agg e):=by
  intro e ha hs;rw[hb]at ha;cases y with
  | agg cs=>exact quB hs
  | _=>cases ha
 have one:∀ e:AV,a.agg=false->jx (cellsOf y) [e]->Sub y e:=by
  intro e ha hs;rw[hb]at ha;have:cellsOf y=[y]:=by cases y<;>first | rfl | (cases ha)
  rw[this]at hs;cases hs with
  | cons h _=>exact h
 cases a with
 | int k| bool| str| list a| map a b=>exact one _ rfl h4
 | term| pair a b| one a=>exact agg _ rfl h4
theorem qxU(b:Rel c.n2 m E τ tm σ){a:Ty}{d:ResultVar}{x:TV}{v:Val a}(h:qkl c E τ d=some x)(f:J5 τ.rw a x=some v):∃y,qgj c.pc.cfg tm σ d=some y/\(∀vs,y≠.tup vs)/\yo (qft 0 σ.rw y)=true/\Sub (qft 0 σ.rw y) (zK a v):=by
 let⟨y,k,i⟩:=qiT b h;rw[<-b.rw]at f;let⟨g3,_⟩:=qdl b.rows f i
 have j:∀vs,y≠.tup vs:=by
  rintro vs rfl;have:=(qaq g3).1;unfold yW at g3;split at g3
  .let⟨pre,e,_,g,_⟩:=zc a (qy.1 g3);rw[wA]at e;have:=g (.tup vs) (by rw[<-e];exact wF.2 rfl);cases this
  .cases g3
 grind [qD9,qaq,qmZ]
theorem qxA(g:Rel c.n2 m E τ tm σ):∀{ts:List Ty}{d:List ResultVar}{v:qbD ts},qfz c ts d E τ=some v->
  ∃l,ja c.pc.cfg tm σ d=some l/\(∀y∈l,∀vs,y≠AV.tup vs)/\noRefs (l.map (qft 0 σ.rw))=true/\jx (l.map (qft 0 σ.rw)) (Q0 ts v)
 |[],d,v,h=>by
   cases d with
   |nil=>exact⟨[],rfl,by simp,rfl,.nil⟩
   |cons a l=>simp only[qfz]at h;cases h
 |[a],d,v,h=>by
   cases d with
   |nil=>simp only[qfz]at h;cases h
   |cons n d=>
     cases d with
     |cons _ _=>simp only[qfz]at h;cases h
     |nil=>
       simp only[qfz]at h;split at h<;>try cases h
       rename_i x e;let⟨y,j,k,g3,i⟩:=qxU g e h;refine⟨[y],by simp only[ja,j],by simpa using k,?_,.cons i .nil⟩;show(yo _&&true)=true;rw[g3];rfl
 |a::b::ts,d,v,h=>by
   cases d with
   |nil=>simp only[qfz]at h;cases h
   |cons n d=>
     simp only[qfz]at h;split at h<;>try cases h
     rename_i x e;split at h<;>try cases h
     rename_i w q;split at h<;>cases h;rename_i r f;let⟨y,j,k,g3,i⟩:=qxU g e q;let⟨l,p,t,s,o⟩:=qxA g f;refine⟨y::l,by simp only[ja,j,p],?_,?_,.cons i o⟩
     .grind
     .grind [noRefs,g3]
theorem qEI{x:AV}(h:yo x=true):refs 0 0 x=false:=by
 grind [refs,qbW]
theorem qDI{ts:List Ty}{d:List ResultVar}:qug c (qfz c ts d) (λ v=>Ret c.pc d λ z=>Sub z (qX (Q0 ts v))):=by
 intro E τ v m tm σ h i e j;refine⟨j,?_⟩;let⟨l,n,b,g3,g⟩:=qxA i h;rw[n];show refs 0 0 (qeG 0 σ.rw (qX l))=false/\Sub (qeG 0 σ.rw (qX l)) (qX (Q0 ts v));have f:l.length=(Q0 ts v).length:=by rw[<-g.len,wx]
 have a:qeG 0 σ.rw (qX l)=qX (l.map (qft 0 σ.rw)):=by
  match l,b with
  |[],_=>rfl
  |[y],b=>
    have:=b y (wF.2 rfl);show qeG 0 σ.rw y=qft 0 σ.rw y;cases y<;>first|rfl|exact absurd rfl (this _)
  |y::z::l,_=>rfl
 rw[a];constructor
 .apply qEI
  match l,g3 with
  |[],_=>rfl
  |[y],g3=>
    show yo (qft 0 σ.rw y)=true;simpa[noRefs]using g3
  |y::z::l,g3=>exact qtd g3
 .match l,Q0 ts v,g with
  |[],[],_=>exact .refl _
  |[y],[z],.cons h _=>exact h
  |y::p::l,z::o::k,h=>exact h.tup
theorem qGp{ts:List Ty}{fn:Func}{cd:Code}(o:fn.body=some cd){n k:Nat}{xs:List TV}{ys:List AV}{v:qbD ts}(a:c.nt=fn.ntmps)(d:c.np=0)(j:ys.length<=fn.ntmps)(g:OKL mp0 xs ys)
  (h:qkg c (qfz c ts fn.results.toList) n k [.code cd] (qbV 0 xs) ⟨[],[]⟩=some v):GoB c.pc (λ z=>Sub z (qX (Q0 ts v))) fn ys:=by
 unfold GoB;rw[o]
 have f:Rel c.n2 mp0 (qbV 0 xs) ⟨[],[]⟩ (ys++List.replicate (fn.ntmps-ys.length) .dead) emp:=by
  refine⟨by show _=c.nt;rw[wd,xj,a];omega,λ t=>?_,rfl,rfl,λ b cs h=>by simp at h,λ b p h=>absurd h (wD _),λ id R h=>(by cases h),λ id e r h=>absurd h (wD _),λ i l=>absurd l (by show ¬ i<c.np;rw[d];exact wD _)⟩;have:=qqc (m:=mp0) 0 (pre:=[]) (post:=List.replicate (fn.ntmps-ys.length) .dead) g rfl t;simpa using this
 exact qoo qDI n k _ _ _ _ _ _ _ h f
end
end Go.AmZ
namespace Go.AmZ
open Go Go.RowKit Go.GxZ
section
variable {α:Type}{m:Mp}{E:Env}{τ:TS}{tm:List AV}{σ:St}{c:TC}
theorem qAW{a:Ty}{y:AV}{v:Val a}(h:yW a y=some v):OK m (qg7 a v) y:=by
 unfold yW at h;split at h
 case h_2=>cases h
 rename_i hb;have hb:a.agg=jn y:=by simpa[jP]using hb
 have hc:OKL m (Qz a v) (cellsOf y):=yT h
 have agg:a.agg=true->∃ ds,y = .agg ds/\OKL m (Qz a v) ds:=by
  intro ha;rw[hb]at ha;cases y with
  | agg cs=>exact⟨cs,rfl,hc⟩
  | _=>cases ha
 have one:a.agg=false->cellsOf y=[y]:=by
  intro ha;rw[hb]at ha;cases y<;>first | rfl | (cases ha)
 cases a with
 | term| pair a b| one a=>exact agg rfl
 | int k| bool| str| list a| map a b=>rw[one rfl]at hc;obtain⟨z,r,he,h1,_⟩:=hc;cases he;exact h1
structure qfv (m:Mp) (σ:St) (nb nr:Nat):Prop where
 b:∀i,m.b i=i
 nb:m.nb=nb
 rows:zU m σ
 low:∀id r,id<m.rw.length->m.r id=some r->r<nr
 rinj:∀id id' r,id<m.rw.length->id'<m.rw.length->m.r id=some r->m.r id'=some r->id=id'
 zero:∀(id:Nat) (R:qu),m.rw[id]?=some R->R.ver=0
theorem qfv.add{nb j:Nat}(h:qfv m σ nb j){a:Ty}{l:List (Val a)}{f:Option Nat}{o:Nat}{p:List (List AV)}{e:Nat}(v:Qm σ ⟨a,l,0,0,false⟩ f o p)(w:j<=e)(k:∀r,f=some r->j<=r/\r<e):qfv (m.add ⟨a,l,0,0,false⟩ f o p) σ nb e:=by
 refine⟨h.b,h.nb,qkc h.rows v λ _ _ h=>h,?_,?_,?_⟩
 .intro id r u i;change id<(m.rw++[_]).length at u;change (if id=m.rw.length then f else m.r id)=some r at i;simp at u;split at i
  .exact(k r i).2
  .have:=h.low id r (by omega) i;omega
 .intro id c r s q e1 g;change id<(m.rw++[_]).length at s;change c<(m.rw++[_]).length at q;change (if id=m.rw.length then f else m.r id)=some r at e1;change (if c=m.rw.length then f else m.r c)=some r at g;simp at s q;split at e1<;>split at g
  .omega
  .have:=h.low c r (by omega) g;have:=(k r e1).1;omega
  .have:=h.low id r (by omega) e1;have:=(k r g).1;omega
  .exact h.rinj id c r (by omega) (by omega) e1 g
 .intro id R d;change (m.rw++[_])[id]?=some R at d;rw[List.getElem?_append]at d;split at d
  .exact h.zero id R d
  .cases t:id-m.rw.length with
   |zero=>rw[t]at d;cases d;rfl
   |succ n=>rw[t]at d;cases d
theorem qsN{m:Mp}{nb k a:Nat}{t:Ty}{y:AV}{l:List (Val t)}(b:qaX σ t k y=some (l,a))(u:qfv m σ nb k):
  ∃d,MLe m d/\qfv d σ nb a/\d.rw=m.rw++[⟨t,l,0,0,false⟩]/\OK d (.row m.rw.length 0) y:=by
 have step:∀f g n,Qm σ ⟨t,l,0,0,false⟩ f g n->k<=a->(∀r,f=some r->k<=r/\r<a)->Qp f g t l y->
   ∃d,MLe m d/\qfv d σ nb a/\d.rw=m.rw++[⟨t,l,0,0,false⟩]/\OK d (.row m.rw.length 0) y:=by
  intro f g n w i o j;refine⟨_,qlu m ⟨t,l,0,0,false⟩ f g n,u.add w i o,rfl,⟨t,l,0,0,false⟩,by show(m.rw++_)[m.rw.length]?=_;simp,wh _,j.ish,λ _=>?_⟩;show Qp (if m.rw.length=m.rw.length then f else m.r m.rw.length) (if m.rw.length=m.rw.length then g else m.v m.rw.length) t l y;rw[if_pos rfl,if_pos rfl];exact j
 unfold qaX at b;split at b
 .split at b<;>try cases b
  rename_i R x;split at b<;>try cases b
  rename_i q;split at b<;>cases b;rename_i e;obtain⟨rfl,rfl,rfl,z,rfl,rfl,s⟩:=of_decide_eq_true q;refine step (some _) R.ver R.c ⟨R,x,rfl,rfl,z,e,by rw[s.1];exact wh _,λ _=>s⟩ (wU _) (λ r h=>by cases h;omega) ?_;show _=_;rw[qE e]
 .split at b
  .rename_i q p;cases b;exact step none 0 [] (λ _=>rfl) (wa _) (λ r h=>by cases h) ⟨q,of_decide_eq_true p⟩
  .cases b
theorem qix:∀(l:List RA) {m:Mp}{nb e a:Nat}{ds:List AV}{v:CV l},qcp σ l e ds=some (v,a)->qfv m σ nb e->
  ∃b,MLe m b/\qfv b σ nb a/\b.rw=m.rw++Qo l v/\OKL b (qcA l m.rw.length v) ds
 |[],m,nb,e,a,ds,v,h,f=>by
   cases ds with
   |cons d ds=>simp[qcp]at h
   |nil=>
     simp only[qcp,wn,wG]at h;obtain⟨_,rfl⟩:=h;exact⟨m,.refl m,f,(wA _).symm,rfl⟩
 |.val t::l,m,nb,e,a,ds,v,h,f=>by
   simp only[qcp]at h;split at h<;>try cases h
   rename_i w j;split at h<;>cases h;rename_i vs c;let⟨b,i,o,k,g⟩:=qix l c f;refine⟨b,i,o,k,?_⟩;rw[<-kT t.size ds];exact(yT j).append g
 |.row t::l,m,nb,e,a,ds,v,h,f=>by
   cases ds with
   |nil=>simp[qcp]at h
   |cons d ds=>
     simp only[qcp]at h;split at h<;>try cases h
     rename_i w n j;split at h<;>cases h;rename_i vs c;let⟨b,u,s,p,r⟩:=qsN j f;let⟨q,i,o,k,g⟩:=qix l c s;rw[p,wd]at g;exact⟨q,u.trans i,o,by rw[k,p,wk];rfl,⟨_,_,rfl,r.mono i,g⟩⟩
theorem qdr:∀(sas:List SA) {m:Mp}{nb o:Nat}{ys:List AV}{a:jt sas},dS σ sas nb o ys=some a->qfv m σ nb o->
  ∃m' c d,MLe m m'/\qfv m' σ c d/\c=σ.bx.length/\m'.rw=m.rw++sRw sas a/\nb+(sBx sas m.rw.length a).length=c/\OKL m' (qgB sas nb m.rw.length a) ys/\ys.length<=sas.length/\
   ∀(i:Nat) (cs:List TV),(sBx sas m.rw.length a)[i]?=some cs->∃ds,σ.bx[nb+i]?=some ds/\OKL m' cs ds
 |[],m,nb,o,ys,a,h,e=>by
   cases ys with
   |cons y ys=>simp[dS]at h
   |nil=>
     simp only[dS]at h;split at h<;>try cases h
     rename_i E;have E:=of_decide_eq_true E;exact⟨m,nb,o,.refl m,e,E.1,(wA _).symm,rfl,rfl,wa _,λ i cs h=>by cases h⟩
 |.nil::sas,m,nb,o,ys,a,h,e=>by
   obtain⟨C,rfl,h⟩:∃C,ys=.v (.slice none 0 0)::C/\dS σ sas nb o C=some a:=by
    cases ys with
    |nil=>simp[dS]at h
    |cons y ys=>
      simp only[dS]at h;split at h
      .rename_i X;exact⟨ys,by rw[qtf X],h⟩
      .cases h
   let⟨m',c,d,u,s,A,z,w,f,x,r⟩:=qdr sas h e;exact⟨m',c,d,u,s,A,z,w,⟨_,_,rfl,rfl,f⟩,kX x,r⟩
 |.clo g k::sas,m,nb,o,ys,a,h,e=>by
   cases ys with
   |nil=>simp[dS]at h
   |cons y ys=>
     simp only[dS]at h;split at h<;>try cases h
     rename_i cs M;obtain⟨rfl,T⟩:=qx5 M;let⟨m',c,d,u,s,A,z,w,f,x,r⟩:=qdr sas h e;have S:=f.take k;have E:=f.drop k;rw[List.take_left' T]at S;rw[List.drop_left' T]at E;refine⟨m',c,d,u,s,A,z,w,⟨_,_,rfl,⟨_,rfl,S⟩,E⟩,?_,r⟩;rw[wd]at x;rw[wB,wB];omega
 |.val t::sas,m,nb,o,ys,a,h,e=>by
   cases ys with
   |nil=>simp[dS]at h
   |cons y ys=>
     simp only[dS]at h;split at h<;>try cases h
     rename_i v B;split at h<;>cases h;rename_i vs p;let⟨m',c,d,u,s,A,z,w,f,x,r⟩:=qdr sas p e;exact⟨m',c,d,u,s,A,z,w,⟨_,_,rfl,qAW B,f⟩,kX x,r⟩
 |.box l::sas,m,nb,o,ys,a,h,e=>by
   cases ys with
   |nil=>simp[dS]at h
   |cons y ys=>
     simp only[dS]at h;split at h<;>try cases h
     rename_i v n B;split at h<;>cases h;rename_i vs p;unfold qe9 at B;split at B<;>try cases B
     rename_i j G;split at B<;>try cases B
     rename_i _ _ ds K L;have K:=wg K;subst K;have G:=qvh G;subst G;have I:qfv {m with nb:=m.nb+1} σ (j+1) o:=⟨e.b,by show m.nb+1=_;rw[e.nb],e.rows,e.low,e.rinj,e.zero⟩
     have J:MLe m {m with nb:=m.nb+1}:=⟨wU _,λ _ _=>rfl,λ id R h=>⟨R,h,wa _,wa _,λ _=>⟨rfl,rfl,rfl,rfl,(λ _=>rfl),λ _ _ h=>h⟩⟩⟩
     let⟨F,Q,P,D,O⟩:=qix l B I;let⟨m',c,d,u,s,A,z,w,f,x,r⟩:=qdr sas p P;have D:F.rw=m.rw++Qo l v:=D;have q:F.rw.length=m.rw.length+nR l:=by rw[D,wd,jY]
     rw[q]at w f r;have H:m'.nb=c:=s.nb;have W:(sBx (.box l::sas) m.rw.length (toB l v,vs)).length=(sBx sas (m.rw.length+nR l) vs).length+1:=rfl;refine⟨m',c,d,J.trans (Q.trans u),s,A,?_,by omega,⟨_,_,rfl,by have:=qFH (m:=m') (l:=l) (b:=j) (by rw[H];omega);rwa [s.b]at this,f⟩,kX x,λ i cs U=>?_⟩
     .rw[z,D,wk];show _=m.rw++(Qo l (toC l (toB l v))++_);rw[qi6]
     .cases i with
      |zero=>
        cases U;refine⟨ds,L,?_⟩;show OKL m' (qcA l m.rw.length (toC l (toB l v))) ds;rw[qi6];exact O.mono u
      |succ i=>
        let⟨N,g1,Z⟩:=r i cs U;exact⟨N,by rw[<-g1];congr 1;omega,Z⟩
 |.row t::sas,m,nb,o,ys,a,h,e=>by
   cases ys with
   |nil=>simp[dS]at h
   |cons y ys=>
     simp only[dS]at h;split at h<;>try cases h
     rename_i l V Y;split at h<;>cases h;rename_i vs p;let⟨F,Q,P,D,O⟩:=qsN Y e;let⟨m',c,d,u,s,A,z,w,f,x,r⟩:=qdr sas p P;have q:F.rw.length=m.rw.length+1:=by rw[D,wd];rfl
     rw[q]at w f r;exact⟨m',c,d,Q.trans u,s,A,by rw[z,D,wk];rfl,w,⟨_,_,rfl,O.mono u,f⟩,kX x,r⟩
theorem qgi{a:Ty}{ds:List AV}{v:Val a}(h:qm a ds=some v):jx ds (qd a v):=by
 let⟨pre,b,_,_,c,_⟩:=zc a (qy.1 h);rw[wA]at b;rw[b];exact c
def qmD(σ:St)(b:List Nat)(a:Ty)(v:List (Val a))(y:AV):Option Nat->Prop
 |some j=>∃Q,y=.rs j 0 Q.c.length Q.ver false/\σ.rw[j]?=some Q/\Q.k=a.size/\Q.fz=0/\qH (qm a) Q.c=some v/\j ∉ b/\Q.off=false
 |none=>v=[]/\dlist a y=some []/\2<=lvl y
def qvq(l:List SA):Nat:=nBx l
theorem qgl:∀(sas:List SA) (L:Nat) (a:jt sas),(sBx sas L a).length=nBx sas
 |[],_,_=>rfl
 |.nil::sas,L,a|.clo _ _::sas,L,a=>qgl sas L a
 |.val _::sas,L,a=>qgl sas L a.2
 |.row _::sas,L,a=>qgl sas _ a.2
 |.box _::sas,L,a=>by rw[sBx,wB,qgl sas _ a.2,nBx]
inductive FC (σ:St) (fs:List Nat):(l:List RA)->CV l->List AV->List (Option Nat×Row)->Prop
 |nil:FC σ fs [] () [] []
 |val {a:Ty}{l:List RA}{v:Val a}{vs:CV l}{ds ds':List AV}{qe:List (Option Nat×Row)} (h:jx (ds.map (qB σ.rw)) (qd a v)/\(noMc ds=false->qm a ds=some v)) (hf:∀x∈ds,∀r∈rsC x,r∈fs) (t:FC σ fs l vs ds' qe):FC σ fs (.val a::l) (v,vs) (ds++ds') qe
 |row {a:Ty}{l:List RA}{v:List (Val a)}{vs:CV l}{y:AV}{ds:List AV}{qe:List (Option Nat×Row)}{so:Option Nat} (h:qmD σ fs a v y so) (t:FC σ fs l vs ds qe):FC σ fs (.row a::l) (v,vs) (y::ds) ((so,⟨a.size,v.map (qd a),0,0,false⟩)::qe)
inductive FR (σ:St) (fs:List Nat) (rws:List qu) (nB:List (Option Nat×Row)):(rs:List RE)->Nat->Nat->RV rs->List AV->List (Option Nat×Row)->List Nat->Prop
 |nil {n d:Nat}:FR σ fs rws nB [] n d () [] [] []
 |val {a:Ty}{rs:List RE}{v:Val a}{vs:RV rs}{y:AV}{ys:List AV}{qe:List (Option Nat×Row)}{n d:Nat}{kb:List Nat} (h:Sub (yb σ.rw y) (zK a v)) (hf:∀r∈rsA y,r∈fs) (t:FR σ fs rws nB rs n d vs ys qe kb):FR σ fs rws nB (.one (.val a)::rs) n d (v,vs) (y::ys) qe kb
 |row {a:Ty}{rs:List RE}{v:List (Val a)}{vs:RV rs}{y:AV}{ys:List AV}{qe:List (Option Nat×Row)}{so:Option Nat}{n d:Nat}{kb:List Nat}
  (h:qmD σ fs a v y so)
  (t:FR σ fs rws nB rs n (d+1) vs ys qe kb):FR σ fs rws nB (.one (.row a)::rs) n d (v,vs) (y::ys) ((so,⟨a.size,v.map (qd a),0,0,false⟩)::qe) kb
 |agg {l:List RA}{rs:List RE}{v:CV l}{vs:RV rs}{ds:List AV}{ys:List AV}{n1 n2:List (Option Nat×Row)}{n d:Nat}{kb:List Nat} (h:FC σ fs l v ds n1) (t:FR σ fs rws nB rs n (d+nR l) vs ys n2 kb):FR σ fs rws nB (.agg l::rs) n d (v,vs) (.agg ds::ys) (n1++n2) kb
inductive FB (σ:St) (fs:List Nat):(sas:List SA)->yD sas->Nat->List (Option Nat×Row)->Prop
 |nil {n:Nat}:FB σ fs [] () n []
 |skip1 {r:List SA}{o:yD r}{n:Nat}{qe:List (Option Nat×Row)} (t:FB σ fs r o n qe):FB σ fs (.nil::r) o n qe
 |skip2 {r:List SA}{o:yD r}{n g k:Nat}{qe:List (Option Nat×Row)} (t:FB σ fs r o n qe):FB σ fs (.clo g k::r) o n qe
 |skip3 {r:List SA}{o:yD r}{n:Nat}{a:Ty}{qe:List (Option Nat×Row)} (t:FB σ fs r o n qe):FB σ fs (.val a::r) o n qe
 |skip4 {r:List SA}{o:yD r}{n:Nat}{a:Ty}{qe:List (Option Nat×Row)} (t:FB σ fs r o n qe):FB σ fs (.row a::r) o n qe
 |box {r:List SA}{l:List RA}{v:CV l}{o:yD r}{n:Nat}{ds:List AV}{n1 n2:List (Option Nat×Row)} (hd:σ.bx[n]?=some ds) (h:FC σ fs l v ds n1) (t:FB σ fs r o (n+1) n2):FB σ fs (.box l::r) (toB l v,o) n (n1++n2)
theorem qxp(D:Rel c.n2 m E τ tm σ){a:Ty}{x:TV}{y:AV}{w:List (Val a)}{i:List Nat}(b:qeL τ.rw a x=some (w,i))(v:OK m x y):
  ∃so,i.filterMap m.r=so.toList/\(∀id∈i,id<m.rw.length)/\∀n,(∀id∈i,∀r,m.r id=some r->r ∉ n)->qmD σ n a w y so:=by
 unfold qeL at b;split at b
 .cases b;cases v;exact⟨none,rfl,by simp,λ _ _=>⟨rfl,rfl,wa _⟩⟩
 .split at b<;>cases b;rename_i u s;let⟨e,d⟩:=yp u;subst e;have d:_=_:=d;subst d;let⟨q,p⟩:=v;exact⟨none,rfl,by simp,λ _ _=>⟨rfl,q,wC (of_decide_eq_true s) p⟩⟩
 .rename_i id H;split at b<;>try cases b
  rename_i R L;split at b<;>try cases b
  rename_i g;rw[wb,wJ]at g;split at b<;>cases b;rename_i u;let⟨e,d⟩:=yp u;subst e;have d:R.l=w:=d;subst d;let⟨R',z,_,_,G⟩:=v;have f:m.rw[id]?=some R:=by rw[D.rw];exact L
  rw[f]at z;cases z;have h:∀i∈[id],i<m.rw.length:=by intro i hi;rw[wF.1 hi];exact getElem?_lt f
  obtain⟨j,Q,k,K,o,C,B,J,I,M,A⟩|⟨k,o,C,B⟩:=qdm D.rows f (G (wg g.1))
  .refine⟨some j,by simp[k],h,λ n t=>⟨Q,K,o,J,(A g.2).1,I,?_,(A g.2).2⟩⟩;exact t id (wF.2 rfl) j k
  .have F:=o g.2;refine⟨none,by simp[k],h,λ n _=>⟨F,?_,B⟩⟩;rw[<-F];exact C
 .cases b
theorem qDD(so:Option Nat)(R:Row)(l:List (Option Nat×Row)):((so,R)::l).filterMap (·.1)=so.toList++l.filterMap (·.1):=by cases so<;>rfl
def ql3(rw:List qu)(b:List Nat)(a:List qu):Prop:=∀(p id:Nat),b[p]?=some id->∃R R',rw[id]?=some R/\a[p]?=some R'/\R.sh=false/\∃h:R'.τ=R.τ,h▸R'.l=R.l
theorem ql3.app {rw:List qu} {a b:List Nat} {x y:List qu} (h:ql3 rw a x) (g:ql3 rw b y) (j:a.length=x.length):ql3 rw (a++b) (x++y) := λ p id c=>by
 by_cases d:p<a.length
 ·rw [List.getElem?_append_left d] at c;obtain ⟨R,R',i,f,e⟩:=h p id c;exact ⟨R,R',i,by rw [List.getElem?_append_left (by omega)];exact f,e⟩
 ·rw [List.getElem?_append_right (by omega)] at c;obtain ⟨R,R',i,f,e⟩:=g _ id c;exact ⟨R,R',i,by rw [List.getElem?_append_right (by omega),<- j];exact f,e⟩
theorem qv7{rw:List qu}{a:Ty}{x:TV}{w:List (Val a)}{i:List Nat}(h:qeL rw a x=some (w,i)):i.length<=1/\(i.length=1->ql3 rw i [⟨a,w,0,0,false⟩]):=by
 unfold qeL at h;split at h
 .cases h;exact⟨by simp,λ h=>by cases h⟩
 .split at h<;>cases h;exact⟨by simp,λ h=>by cases h⟩
 .rename_i id f;split at h<;>try cases h
  rename_i R k;split at h<;>try cases h
  rename_i c;rw[wb,wJ]at c;split at h<;>cases h;rename_i j;let⟨e,b⟩:=yp j;subst e;have b:R.l=w:=b;subst b;refine⟨wa _,λ _ p g d=>?_⟩;cases p with
  |zero=>cases d;exact⟨R,_,k,rfl,c.2,rfl,rfl⟩
  |succ p=>cases d
 .cases h
theorem qgF{rw:List qu}:∀{l:List RA} {cs:List TV} {v:CV l} {ids:List Nat} {q:Bool},Qk rw l cs=some (v,ids,q)->ids.length<=nR l/\(ids.length=nR l->ql3 rw ids (Qo l v))
 | [],cs,v,ids,q,h=>by
   cases cs with
   | cons c cs=>simp[Qk]at h
   | nil =>
     simp only[Qk,wn,wG]at h;obtain⟨_,rfl,_⟩:=h;exact⟨wa _,λ _ p id h=>by cases h⟩
 | .val t::l,cs,v,ids,q,h=>by
   simp only[Qk]at h;split at h<;>try (cases h;done)
   rename_i w vs ids0 q0 hw hvs;simp only[wn,wG]at h;obtain⟨rfl,rfl,rfl⟩:=h;have:=qgF hvs;exact this
 | .row t::l,cs,v,ids,q,h=>by
   cases cs with
   | nil=>simp[Qk]at h
   | cons c cs =>
     simp only[Qk]at h;split at h<;>try (cases h;done)
     rename_i w i vs ids' q0 hw hvs;simp only[wn,wG]at h;obtain⟨rfl,rfl,rfl⟩:=h;obtain⟨a1,a2⟩:=qv7 hw;obtain⟨b1,b2⟩:=qgF hvs;refine⟨by rw[wd,nR];omega,λ hl=>?_⟩;rw[wd,nR]at hl;exact(a2 (by omega)).app (b2 (by omega)) (by show i.length=1;omega)
theorem qc9{τ : TS}:∀(sas:List SA) {n:Nat} {o:yD sas} {ids:List Nat} {q:Bool},qc3 τ sas n=some (o,ids,q)->ids.length<=nrB sas/\(ids.length=nrB sas->ql3 τ.rw ids (QT sas o))
 | [],n,o,ids,q,h=>by
   simp only[qc3,wn,wG]at h;obtain⟨_,rfl,_⟩:=h;exact⟨wa _,λ _ p id h=>by cases h⟩
 | .nil::sas,n,o,ids,q,h| .clo _ _::sas,n,o,ids,q,h| .val _::sas,n,o,ids,q,h| .row _::sas,n,o,ids,q,h=>qc9 sas (o:=o) h
 | .box l::sas,n,o,ids,q,h=>by
   simp only[qc3]at h;split at h<;>try (cases h;done)
   rename_i cs hcs;split at h<;>try (cases h;done)
   rename_i v i q1 o' ids' q2 hv ho;simp only[wn,wG]at h;obtain⟨rfl,rfl,rfl⟩:=h;obtain⟨a1,a2⟩:=qgF hv;obtain⟨b1,b2⟩:=qc9 sas ho;refine⟨by rw[wd,nrB];omega,λ hl=>?_⟩;rw[wd,nrB]at hl;have:=(a2 (by omega)).app (b2 (by omega)) (by rw[jY];omega);show ql3 τ.rw (i++ids') (Qo l (toC l (toB l v))++QT sas o');rw[qi6];exact this
theorem J0{ds:List AV}(h:noMc ds=false):∃b c a ks vs,ds=[.mc b c a ks vs]:=by
 unfold noMc at h;split at h
 .exact⟨_,_,_,_,_,rfl⟩
 .cases h
theorem qFT{rw:List Row}{a:Ty}{v:Val a}{ds:List AV}(b:noMc ds=false)(h:qm a (ds.map (qB rw))=some v):qm a ds=some v:=by
 obtain⟨_,_,_,_,_,rfl⟩:=J0 b;exact h
theorem FC.len{c:List Nat}{l:List RA}{v:CV l}{ds:List AV}{qe:List (Option Nat×Row)}(h:FC σ c l v ds qe):l.length<=ds.length:=by
 induction h with
 |nil=>exact wa _
 | @val a l v vs ds d qe h e t b=>
   have:=h.1.len;rw[wx,zj]at this;have:=wao a;rw[wB,wd];omega
 |row h t b=>exact kX b
theorem FC.mc{k:List Nat}{l:List RA}{v:CV l}{ds:List AV}{qe:List (Option Nat×Row)}(h:FC σ k l v ds qe)(d:noMc ds=false):∃a w,(∀L,QI l L v=qd a w)/\qm a ds=some w:=by
 cases h with
 |nil=>cases d
 | @val a l w vs g b qe h n t=>
   have i:=h.1.len;rw[wx,zj]at i;have m:=wao a;have c:(g++b).length=1:=by let⟨_,_,_,_,_,e⟩:=J0 d;rw[e];rfl
   rw[wd]at c;have e:b=[]:=we (by omega);subst e;rw[wA]at d |-
   have f:=t.len;cases l with
   |nil=>exact⟨a,w,λ L=>by rw[QI,QI,wA],h.2 d⟩
   |cons x l=>simp at f
 | @row a l w vs y b qe so h t=>
   let⟨_,_,_,_,_,e⟩:=J0 d;cases e;exfalso;cases so with
   |none=>let⟨_,h,_⟩:=h;cases h
   |some j=>let⟨Q,h,_⟩:=h;cases h
theorem qyJ{Γ:Gh}{w:World}{b:Nat}:∀(a:Ty) {v:Val a}{ds:List AV},noMc ds=false->qm a ds=some v->ju Γ w b ds->qE4 ds (qd a v)
 |.int _,v,ds,c,h,_|.bool,v,ds,c,h,_|.str,v,ds,c,h,_|.term,v,ds,c,h,_|.list _,v,ds,c,h,_=>by obtain⟨_,_,_,_,_,rfl⟩:=J0 c;cases h
 |.pair a b,v,ds,c,h,_=>by
   obtain⟨_,_,_,_,_,rfl⟩:=J0 c;let⟨pre,f,d,_⟩:=zc (.pair a b) (qy.1 h);rw[wA]at f;rw[<-f]at d;have d:1=a.size+b.size:=d;have:=wao a;have:=wao b;omega
 |.one a,v,ds,c,h,q=>qyJ a c h q
 |.map k τ,l,ds,c,h,q=>by
   obtain⟨_,_,_,ks,vs,rfl⟩:=J0 c;have h:full (zG (dMc k τ (qm k) (qm τ)) [_])=some l:=h;unfold zG at h;simp only at h;split at h<;>cases h;rename_i B;let⟨z,vs',e,n⟩:=qae B;cases e;let⟨E,D⟩:=qgy n;let⟨I,es,s,H,G,y⟩:=q
   have o:ks=l.map λ p=>qd k p.1:=by
    apply k9;intro i;rw[List.getElem?_map];by_cases A:i<ks.length
    .have f:=List.getElem?_eq_getElem A;have d:=List.getElem?_eq_getElem (l:=vs) (i:=i) (by omega);let⟨p,m,x,_⟩:=qov n f d;rw[m,f];have C:es[i]?=some es[i]:=Array.getElem?_eq_getElem (by omega);rw[qEN x (y i _ _ _ f d C).2.2.1];rfl
    .rw[List.getElem?_eq_none (by omega),List.getElem?_eq_none (by omega)];rfl
   refine⟨_,_,_,ks,vs,l.map λ p=>qd τ p.2,rfl,by rw[qd,o],by rw[wx];omega,λ j v F f d=>?_⟩;have J:=getElem?_lt f;let⟨p,m,_,u⟩:=qov n (List.getElem?_eq_getElem (show j<ks.length by omega)) f;rw[List.getElem?_map,m]at d;cases d;have g:=qgi u;refine⟨?_,wo.2 (qO τ p.2)⟩;cases r:τ.agg with
   |true=>exact quB g
   |false=>
     have e1:=zj τ p.2;rw[qwC r]at e1;show Sub (jp false v) (jp false (qd τ p.2));revert g e1;generalize qd τ p.2=e;intro g e1;cases g with
     |nil=>cases e1
     |cons h t=>cases t with
       |nil=>exact h
       |cons _ _=>simp at e1
def VC(a:List Nat):List RA->List AV->Prop
 |[],_=>True
 |.val τ::r,ds=>(∀x∈ds.take τ.size,∀q∈rsC x,q∈a)/\VC a r (ds.drop τ.size)
 |.row _::r,ds=>VC a r (ds.drop 1)
theorem VC.all{b:List Nat}:∀(l:List RA) {ds:List AV},(∀x∈ds,∀q∈rsC x,q∈b)->VC b l ds
 |[],_,_=>trivial
 |.val τ::l,ds,h=>⟨λ x a=>h x (wT a),VC.all l λ x a=>h x (wO a)⟩
 |.row _::l,ds,h=>VC.all l (ds:=ds.drop 1) λ x a=>h x (wO a)
theorem VC.clean{n:List Nat}{rw:List qu}:∀{l:List RA}{cs:List TV}{ds:List AV}{v:CV l}{a:List Nat},Qk rw l cs=some (v,a,true)->OKL m cs ds->VC n l ds
 |[],_,_,_,_,_,_=>trivial
 |.val t::l,cs,ds,v,a,h,f=>by
   simp only[Qk]at h;split at h<;>try (cases h;done)
   rename_i w vs j o q b;simp only[wn,wG,wb]at h;obtain⟨_,_,s,rfl⟩:=h;refine⟨λ x p r e=>?_,VC.clean b (f.drop t.size)⟩;rw[ky.1 (qfe (f.take t.size) s) x p]at e;cases e
 |.row t::l,cs,ds,v,a,h,f=>by
   cases cs with
   |nil=>simp[Qk]at h
   |cons c cs=>
     obtain⟨d,ds,rfl,u,g⟩:=f;simp only[Qk]at h;split at h<;>try (cases h;done)
     rename_i w i vs k o q b;simp only[wn,wG]at h;obtain⟨_,_,rfl⟩:=h;exact(show VC n l ds from VC.clean b g)
theorem qA0(k:Rel c.n2 m E τ tm σ){u:List Nat}:∀{xs:List TV}{ys:List AV}{d:List Nat},qyv τ.rw xs=some d->OKL m xs ys->(∀id∈d,id<m.rw.length->∀r,m.r id=some r->r∈u)->∀y∈ys,∀q∈rsC y,q∈u
 |[],ys,d,_,l,_,y,f,_,_=>by cases l;cases f
 |x::xs,ys,d,h,l,s,y,f,q,i=>by
   obtain⟨H,ys,rfl,t,G⟩:=l;simp only[qyv]at h;split at h<;>cases h;rename_i a b e D;obtain rfl|f:=wM.1 f
   .unfold qEU at e;split at e
    .rename_i id w;split at e<;>try cases e
     rename_i R F;split at e<;>cases e;rename_i B;have g:m.rw[id]?=some R:=by rw[k.rw];exact F
     let⟨R',p,_,_,v⟩:=t;rw[g]at p;cases p;obtain⟨j,Q,A,f,_⟩|⟨_,_,z,_⟩:=qdm k.rows g (v (wg B))
     .rw[f]at i;rw[wF.1 i];exact s id (by simp) (getElem?_lt g) j A
     .obtain⟨rfl,_⟩|⟨es,n,rfl,_⟩:=zN z<;>cases i
    .split at e<;>cases e;rename_i C;rw[(qod t C).1]at i;cases i
   .exact qA0 k D G (λ id o=>s id (wi.2 (.inr o))) y f q i
theorem VC.vid(i:Rel c.n2 m E τ tm σ){j:List Nat}:∀{l:List RA}{cs:List TV}{ds:List AV}{d:List Nat},qvb τ.rw l cs=some d->OKL m cs ds->(∀id∈d,id<m.rw.length->∀r,m.r id=some r->r∈j)->VC j l ds
 |[],_,_,_,_,_,_=>trivial
 |.val t::l,cs,ds,d,h,f,g=>by
   simp only[qvb]at h;split at h<;>cases h;rename_i a b n k;exact⟨qA0 i n (f.take t.size) λ id e=>g id (wi.2 (.inl e)),VC.vid i k (f.drop t.size) λ id e=>g id (wi.2 (.inr e))⟩
 |.row t::l,cs,ds,d,h,f,g=>VC.vid i (l:=l) h (f.drop 1) g
def VB(a:List Nat)(σ:St):List SA->Nat->Prop
 |[],_=>True
 |.box l::r,n=>(∀ds,σ.bx[n]?=some ds->VC a l ds)/\VB a σ r (n+1)
 |.nil::r,n|.clo _ _::r,n|.val _::r,n|.row _::r,n=>VB a σ r n
theorem VB.all{a:List Nat}(h:∀ds∈σ.bx,∀x∈ds,∀q∈rsC x,q∈a):∀(l:List SA) (n:Nat),VB a σ l n
 |[],_=>trivial
 |.box l::r,n=>⟨λ ds b=>VC.all l (h ds (wc b)),VB.all h r (n+1)⟩
 |.nil::r,n|.clo _ _::r,n|.val _::r,n|.row _::r,n=>VB.all h r n
theorem VB.clean(d:Rel c.n2 m E τ tm σ){u:List Nat}:∀(sas:List SA) {n:Nat}{o:yD sas}{e:List Nat},qc3 τ sas n=some (o,e,true)->(∀i,i<nBx sas->m.b (n+i)=n+i)->VB u σ sas n
 |[],_,_,_,_,_=>trivial
 |.nil::r,_,o,_,h,a|.clo _ _::r,_,o,_,h,a|.val _::r,_,o,_,h,a|.row _::r,_,o,_,h,a=>VB.clean d r (o:=o) h a
 |.box l::r,n,o,e,h,a=>by
   simp only[qc3]at h;split at h<;>try (cases h;done)
   rename_i cs g;split at h<;>try (cases h;done)
   rename_i v i z A k y q s;simp only[wn,wG,wb]at h;obtain⟨_,_,rfl,rfl⟩:=h;let⟨ds,p,x⟩:=d.box n cs g;rw[show m.b n=n from a 0 (xn _)]at p;refine⟨λ w f=>?_,VB.clean d r s λ j t=>?_⟩
   .rw[p]at f;cases f;exact VC.clean q x
   .have:=a (j+1) (vM t);rw[show n+1+j=n+(j+1) by omega];exact this
theorem VB.vid(g:Rel c.n2 m E τ tm σ){q:List Nat}:∀(sas:List SA) {n:Nat}{f:List Nat},qlQ τ sas n=some f->(∀i,i<nBx sas->m.b (n+i)=n+i)->(∀id∈f,id<m.rw.length->∀r,m.r id=some r->r∈q)->VB q σ sas n
 |[],_,_,_,_,_=>trivial
 |.nil::r,_,_,h,d,e|.clo _ _::r,_,_,h,d,e|.val _::r,_,_,h,d,e|.row _::r,_,_,h,d,e=>VB.vid g r h d e
 |.box l::r,n,f,h,d,e=>by
   simp only[qlQ]at h;split at h<;>try (cases h;done)
   rename_i cs p;split at h<;>cases h;rename_i a b v u;let⟨ds,s,x⟩:=g.box n cs p;rw[show m.b n=n from d 0 (xn _)]at s;refine⟨λ w o=>?_,VB.vid g r u (λ j t=>?_) λ id k=>e id (wi.2 (.inr k))⟩
   .rw[s]at o;cases o;exact VC.vid g v x λ id k=>e id (wi.2 (.inl k))
   .have:=d (j+1) (vM t);rw[show n+1+j=n+(j+1) by omega];exact this
theorem qjM(s:Rel c.n2 m E τ tm σ):∀{l:List RA}{cs:List TV}{ds:List AV}{v:CV l}{a:List Nat}{q:Bool},Qk τ.rw l cs=some (v,a,q)->OKL m cs ds->(∀id∈a,id<m.rw.length)/\
  ∀j,VC j l ds->(∀id∈a,∀r,m.r id=some r->r ∉ j)->∃qe,FC σ j l v ds qe/\qe.map (·.2)=qc0 l v/\qe.filterMap (·.1)=a.filterMap m.r/\(a.length=nR l->qe.map (·.1)=a.map m.r)
 |[],cs,ds,v,a,q,h,n=>by
   cases cs with
   |cons c cs=>simp[Qk]at h
   |nil=>
     cases n;simp only[Qk,wn,wG]at h;obtain⟨_,rfl,_⟩:=h;exact⟨by simp,λ j _ _=>⟨[],.nil,rfl,rfl,λ _=>rfl⟩⟩
 |.val t::l,cs,ds,v,a,q,h,n=>by
   simp only[Qk]at h;split at h<;>try (cases h;done)
   rename_i w vs F J p e;simp only[wn,wG]at h;obtain⟨rfl,rfl,rfl⟩:=h;let⟨B,A⟩:=qjM s e (n.drop t.size);have L:=n.take t.size;rw[<-s.rw]at p;let⟨P,D,K⟩:=qax s.rows t (qbY p) L;cases K;have f:ds=ds.take t.size++ds.drop t.size:=(kT _ _).symm;refine⟨B,λ j g b=>?_⟩;let⟨qe,z,y,u⟩:=A j g.2 b;refine⟨qe,?_,y,u⟩;rw[f];exact .val ⟨qgi (qy.2 D),λ M=>qFT M (qy.2 D)⟩ g.1 z
 |.row t::l,cs,ds,v,a,q,h,n=>by
   cases cs with
   |nil=>simp[Qk]at h
   |cons c cs=>
     obtain⟨d,ds,rfl,O,C⟩:=n;simp only[Qk]at h;split at h<;>try (cases h;done)
     rename_i w i vs o J p e;simp only[wn,wG]at h;obtain⟨rfl,rfl,rfl⟩:=h;let⟨so,k,I,H⟩:=qxp s p O;let⟨B,A⟩:=qjM s e C;refine⟨λ id b=>(wi.1 b).elim (I id) (B id),λ j g b=>?_⟩;let⟨qe,z,y,u⟩:=A j g λ id h=>b id (wi.2 (.inr h));refine⟨_,.row (H j λ id h=>b id (wi.2 (.inl h))) z,by rw[wz,y];rfl,?_⟩;refine⟨by rw[qDD,wZ,<-u.1,k],λ x=>?_⟩;have Q:=(qv7 p).1;have N:=(qgF e).1;have x:(i++o).length=nR l+1:=x;rw[wd]at x;obtain⟨id,rfl⟩:=xI.1 (show i.length=1 by omega);rw[wz,u.2 (by simp at x;omega)]
     have:so=m.r id:=by
      cases G:m.r id with
      |none=>rw[xo G]at k;cases so with|none=>rfl|some _=>cases k
      |some r=>rw[xe G]at k;cases so with|none=>cases k|some _=>cases k;rfl
     rw[this];rfl
theorem qev(u:Rel c.n2 m E τ tm σ):∀(sas:List SA) {n:Nat}{o:yD sas}{a:List Nat}{q:Bool},qc3 τ sas n=some (o,a,q)->(∀i,i<nBx sas->m.b (n+i)=n+i)->(∀id∈a,id<m.rw.length)/\
  ∀f,VB f σ sas n->(∀id∈a,∀r,m.r id=some r->r ∉ f)->∃qe,FB σ f sas o n qe/\qe.map (·.2)=js sas o/\qe.filterMap (·.1)=a.filterMap m.r/\(a.length=nrB sas->qe.map (·.1)=a.map m.r)
 |[],n,o,a,q,h,_=>by
   simp only[qc3,wn,wG]at h;obtain⟨_,rfl,_⟩:=h;exact⟨by simp,λ f _ _=>⟨[],.nil,rfl,rfl,λ _=>rfl⟩⟩
 |.nil::sas,n,o,a,q,h,g=>by
   let⟨t,s⟩:=qev u sas (o:=o) h g;exact⟨t,λ f e d=>let⟨qe,p,k⟩:=s f e d;⟨qe,.skip1 p,k⟩⟩
 |.clo _ _::sas,n,o,a,q,h,g=>by
   let⟨t,s⟩:=qev u sas (o:=o) h g;exact⟨t,λ f e d=>let⟨qe,p,k⟩:=s f e d;⟨qe,.skip2 p,k⟩⟩
 |.val _::sas,n,o,a,q,h,g=>by
   let⟨t,s⟩:=qev u sas (o:=o) h g;exact⟨t,λ f e d=>let⟨qe,p,k⟩:=s f e d;⟨qe,.skip3 p,k⟩⟩
 |.row _::sas,n,o,a,q,h,g=>by
   let⟨t,s⟩:=qev u sas (o:=o) h g;exact⟨t,λ f e d=>let⟨qe,p,k⟩:=s f e d;⟨qe,.skip4 p,k⟩⟩
 |.box l::sas,n,o,a,q,h,g=>by
   simp only[qc3]at h;split at h<;>try (cases h;done)
   rename_i cs z;split at h<;>try (cases h;done)
   rename_i v i P Q w O B C;simp only[wn,wG]at h;obtain⟨rfl,rfl,rfl⟩:=h;let⟨ds,A,H⟩:=u.box n cs z;have x:m.b n=n:=g 0 (xn _);rw[x]at A;let⟨J,I⟩:=qjM u B H
   let⟨t,s⟩:=qev u sas C λ j G=>by
    have:=g (j+1) (vM G);rw[show n+1+j=n+(j+1) by omega];exact this
   refine⟨λ id d=>(wi.1 d).elim (J id) (t id),λ f e d=>?_⟩;let⟨p,N,M,F⟩:=I f (e.1 ds A) λ id h=>d id (wi.2 (.inl h));let⟨k,L,K,D⟩:=s f e.2 λ id h=>d id (wi.2 (.inr h));refine⟨p++k,.box A N L,?_,by rw[wZ,wZ,F.1,D.1],λ y=>?_⟩
   .rw[kK,M,K];show _=qc0 l (toC l (toB l v))++_;rw[qi6]
   .have S:=(qgF B).1;have R:=(qc9 sas C).1;have y:(i++w).length=nR l+nrB sas:=y;rw[wd]at y;rw[kK,kK,F.2 (by omega),D.2 (by omega)]
def qFu(m:Mp)(σ:St)(b:List Nat)(rws:List qu)(a:List (Option Nat×Row)):Prop:=
 ∀(p id:Nat),b[p]?=some id->∃(R R':qu) (Q:Row),m.rw[id]?=some R/\rws[p]?=some R'/\a[p]?=some (m.r id,Q)/\(∃h:R'.τ=R.τ,h▸R'.l=R.l)/\R.sh=false
theorem qGs(i:Rel c.n2 m E τ tm σ){sas:List SA}{o:yD sas}{a:List Nat}{q:Bool}(h:qc3 τ sas 0=some (o,a,q)){f:List (Option Nat×Row)}(j:a.length=nrB sas->f.map (·.1)=a.map m.r):qFu m σ (qzs (nrB sas) a) (QT sas o) f:=by
 unfold qzs;cases k:Nat.beq a.length (nrB sas)with
 |false=>intro p id b;cases b
 |true=>
   have g:=wg k;intro p id b;have b:a[p]?=some id:=b;let⟨R,R',t,s,n,l⟩:=(qc9 sas h).2 g p id b;have e:=congrArg (·[p]?) (j g);simp only[List.getElem?_map,b,kr]at e;cases d:f[p]? with
   |none=>rw[d]at e;cases e
   |some x=>
     rw[d]at e;let⟨so,Q⟩:=x;cases e;exact⟨R,R',Q,by rw[i.rw];exact t,s,rfl,l,n⟩
theorem qkv(o:Rel c.n2 m E τ tm σ){Z:List Nat}{rws:List qu}:∀{G:List RE}{l:List ResultVar}{v:RV G}{f B:List Nat}{q:Bool},qeu c E τ Z G l=some (v,f,B,q)->(∀id∈f,id<m.rw.length)/\(∀b∈B,b<m.nb)/\
  ∃ys,ja c.pc.cfg tm σ l=some ys/\∀(j:List Nat) (z:List (Option Nat×Row)) (n d:Nat),qFu m σ Z rws z->rws.length<=d->(((∀y∈ys,∀r∈rsA y,r∈j)/\(∀b∈B,∀ds,σ.bx[m.b b]?=some ds->∀x∈ds,∀r∈rsC x,r∈j)/\f=[])\/(q=true/\∀id∈f,∀r,m.r id=some r->r ∉ j))->
   ∃e u qe,FR σ j rws z e n d u ys qe (B.map m.b)/\qe.map (·.2)=jT e u/\qe.filterMap (·.1)=f.filterMap m.r/\∀{γ:Type} (k:(e:List RE)->RV e->Option γ),qgD rws G n d v k=k e u
 |[],l,v,f,B,q,h=>by
   cases l with
   |cons a l=>simp[qeu]at h
   |nil=>
     simp only[qeu,wn,wG]at h;obtain⟨_,rfl,rfl,_⟩:=h;exact⟨by simp,by simp,[],rfl,λ j z n d _ _ _=>⟨[],(),[],.nil,rfl,rfl,λ _=>rfl⟩⟩
 |.one (.val a)::G,l,v,f,B,q,h=>by
   cases l with
   |nil=>simp[qeu]at h
   |cons V l=>
     simp only[qeu]at h;split at h<;>try cases h
     rename_i x C;split at h<;>cases h;rename_i w vs Y A s;let⟨y,P,F⟩:=qiT o C;let⟨L,kb,ys,K,J⟩:=qkv o (rws:=rws) s;rw[<-o.rw]at A;let⟨p1,_⟩:=qdl o.rows A F;refine⟨L,kb,y::ys,by simp only[ja,P,K],λ j z n d O U g=>?_⟩;let⟨e,u,qe,I,H,R,Q⟩:=J j z n d O U (g.imp (λ h=>⟨λ y N=>h.1 y (wj _ N),h.2⟩) λ h=>⟨(wb _ _▸h.1:qiE x=true/\Y=true).2,h.2⟩);refine⟨.one (.val a)::e,(w,u),qe,.val (qmZ p1) ?_ I,H,R,λ k=>Q _⟩;obtain h|h:=g
     .exact h.1 y (ww ..)
     .have T:=(wb _ _▸h.1:qiE x=true/\Y=true).1;rw[qmU T F];intro r o;cases o
 |.one (.row a)::G,l,v,f,B,q,h=>by
   cases l with
   |nil=>simp[qeu]at h
   |cons V l=>
     simp only[qeu]at h;split at h<;>try cases h
     rename_i x C;split at h<;>cases h;rename_i w i vs M A s;let⟨y,P,F⟩:=qiT o C;let⟨L,kb,ys,K,J⟩:=qkv o (rws:=rws) s;let⟨so,s1,s2,s3⟩:=qxp o A F;refine⟨λ id D=>(wi.1 D).elim (s2 id) (L id),kb,y::ys,by simp only[ja,P,K],λ j z n d O U g=>?_⟩;let⟨e,u,qe,I,H,R,Q⟩:=J j z n (d+1) O (by omega) (g.imp (λ h=>⟨λ y N=>h.1 y (wj _ N),h.2.1,(kg.1 h.2.2).2⟩) λ h=>⟨h.1,λ id t=>h.2 id (wi.2 (.inr t))⟩);refine⟨.one (.row a)::e,(w,u),_,.row (s3 j (g.elim (λ h=>(by rw[(kg.1 h.2.2).1];intro id t;cases t)) λ h id t=>h.2 id (wi.2 (.inl t)))) I,by rw[wz,H];rfl,?_,λ k=>Q _⟩;rw[qDD,wZ,<-R,s1]
 |.agg p::G,l,v,f,B,q,h=>by
   cases l with
   |nil=>simp[qeu]at h
   |cons V l=>
     simp only[qeu]at h;split at h<;>try (cases h;done)
     rename_i cs C;split at h<;>try (cases h;done)
     rename_i w i X vs M aa W A s;simp only[wn,wG]at h;obtain⟨rfl,rfl,rfl,rfl⟩:=h;obtain⟨y,P,ds,rfl,F⟩:=qiT o C;let⟨c0,c1⟩:=qjM o A F;let⟨L,kb,ys,K,J⟩:=qkv o (rws:=rws) s;refine⟨λ id D=>(wi.1 D).elim (c0 id) (L id),kb,.agg ds::ys,by simp only[ja,P,K],λ j z n d O U g=>?_⟩;let⟨I,a1,a2,a3⟩:=c1 j (g.elim (λ h=>VC.all p λ x C r S=>h.1 (.agg ds) (ww ..) r (wX.2 ⟨x,C,S⟩)) λ h=>VC.clean (by rw[(wb _ _▸h.1:X=true/\W=true).1]at A;exact A) F) (g.elim (λ h=>(by rw[(kg.1 h.2.2).1];intro id t;cases t)) λ h id t=>h.2 id (wi.2 (.inl t)));let⟨e,u,H,b1,b2,b3,b4⟩:=J j z n (d+nR p) O (by omega) (g.imp (λ h=>⟨λ y N=>h.1 y (wj _ N),h.2.1,(kg.1 h.2.2).2⟩) λ h=>⟨(wb _ _▸h.1:X=true/\W=true).2,λ id t=>h.2 id (wi.2 (.inr t))⟩);exact⟨.agg p::e,(w,u),I++H,.agg a1 b1,by rw[kK,a2,b2];rfl,by rw[wZ,wZ,a3.1,b3],λ k=>b4 _⟩
theorem FR.len{e:List Nat}{rws:List qu}{c:List (Option Nat×Row)}{b:List RE}{n d:Nat}{v:RV b}{ys:List AV}{qe:List (Option Nat×Row)}{kb:List Nat}(h:FR σ e rws c b n d v ys qe kb):∀L,ys.length=(QC b L v).length:=by
 induction h with
 |nil=>intro L;rfl
 |val h f t a=>intro L;rw[QC,wB,wB,a L]
 |row h t a=>intro L;rw[QC,wB,wB,a (L+1)]
 |agg h t a=>intro L;rw[QC,wB,wB,a]
theorem qqQ{g:List Nat}{a:Ty}{v:List (Val a)}{y:AV}{so:Option Nat}(h:qmD σ g a v y so):qzc σ g so ⟨a.size,v.map (qd a),0,0,false⟩:=by
 refine⟨rfl,rfl,wao a,?_,?_,?_⟩
 .intro e d;obtain⟨w,_,rfl⟩:=wI.1 d;exact zj a w
 .intro e d;obtain⟨w,_,rfl⟩:=wI.1 d;exact qO a w
 .cases so with
  |none=>show v.map (qd a)=[];rw[h.1];rfl
  |some j=>
    let⟨Q,_,p,o,n,f,m⟩:=h;refine⟨Q,p,o,n,by show Q.c.length=(v.map (qd a)).length;rw[qE f,wx],λ i e r q b=>?_,m⟩;let⟨w,l,k⟩:=Qw f q;have b:(v.map (qd a))[i]?=some r:=b;rw[List.getElem?_map,l]at b;cases b;exact qgi k
def qlm(σ:St)(a:List Nat)(qe:List (Option Nat×Row)):Prop:=∀p∈qe,qzc σ a p.1 p.2
theorem FC.newOk{c:List Nat}{l:List RA}{v:CV l}{ds:List AV}{qe:List (Option Nat×Row)}(h:FC σ c l v ds qe):qlm σ c qe:=by
 induction h with
 |nil=>intro p h;cases h
 |val h d t a=>exact a
 |row h t a=>
   intro p b;obtain rfl|b:=wM.1 b
   .exact qqQ h
   .exact a p b
theorem FR.newOk{e:List Nat}{rws:List qu}{f:List (Option Nat×Row)}{c:List RE}{n d:Nat}{v:RV c}{ys:List AV}{qe:List (Option Nat×Row)}{kb:List Nat}(h:FR σ e rws f c n d v ys qe kb):qlm σ e qe:=by
 induction h with
 |nil=>intro p h;cases h
 |val h g t a=>exact a
 |row h t a=>
   intro p b;obtain rfl|b:=wM.1 b
   .exact qqQ h
   .exact a p b
 |agg h t a=>intro p b;exact(wi.1 b).elim (h.newOk p) (a p)
theorem FB.newOk{a:List Nat}{sas:List SA}{o:yD sas}{n:Nat}{qe:List (Option Nat×Row)}(h:FB σ a sas o n qe):qlm σ a qe:=by
 induction h with
 |nil=>intro p h;cases h
 |box d h t b=>intro p c;exact(wi.1 c).elim (h.newOk p) (b p)
 |_=>assumption
theorem qxT{c:Gh}{A:World}{i:Nat->Nat->Option Value}{K kb:List Nat}(J:Inv c σ A){nb L p:Nat}{all:List (Option Nat×Row)}{a:Ty}{v:List (Val a)}{y:AV}{so:Option Nat}(h:qmD σ K a v y so)(d:all[p]?=some (so,⟨a.size,v.map (qd a),0,0,false⟩)){u:Value}(x:Rep c y u):Rep (yF c i nb kb L all) (.rs (L+p) 0 v.length 0 false) u:=by
 have F:p<all.length:=getElem?_lt d;have g:¬ L+p<L:=by omega
 have e:L+p-L=p:=by omega
 cases so with
 |some j=>
   obtain⟨Q,rfl,r,q,D,C,B⟩:=h;have H:=J.row j Q r;cases x with
   |rs _ _ _ _ _ f cap P O w z m=>
     have m:=m (H.ver (by rw[D];exact wh _)).symm;have l:=qE C;rw[l]at w;rw[l];show Rep (yF c i nb kb L all) (.rs (L+p) 0 v.length 0 false) (.slice f v.length cap);refine .rs _ _ _ _ _ f cap (by show L+p<L+all.length;omega) (wh _) w (λ h=>by cases h) λ _=>?_
     have N:(yF c i nb kb L all).cur (L+p)=c.cur j:=by
      show(if L+p<L then _ else match all[L+p-L]? with|some (some j,_)=>c.cur j|_=>0)=_;rw[if_neg g,e,d]
     have es:(yF c i nb kb L all).sz (L+p)=c.sz j:=by
      show(if L+p<L then _ else match all[L+p-L]? with|some (some j,_)=>c.sz j|_=>0)=_;rw[if_neg g,e,d]
     have M:(yF c i nb kb L all).k (L+p)=c.k j:=by
      show(if L+p<L then _ else match all[L+p-L]? with|some p=>p.2.k|none=>1)=_;rw[if_neg g,e,d,<-H.k,q]
     rw[N,es,M];rw[H.off B.2]at m;exact m
 |none=>
   obtain⟨rfl,r,q⟩:=h
   have s:∃f,u=.slice f 0 0:=by
    obtain⟨rfl,_⟩|⟨es,n,rfl,G⟩:=zN r
    .exact⟨none,qK x⟩
    .have:es=[]:=we (qE G);subst this;cases x with
     |sl _ _ _ f E cap b o us t w z=>
       have I:1<n+1:=q;have:=z I;refine⟨f,?_⟩;have t:E=0:=t;rw[this,t]
   obtain⟨f,rfl⟩:=s;refine .rs _ _ _ _ _ f 0 (by show L+p<L+all.length;omega) (wh _) (wa _) (λ h=>by cases h) λ _=>⟨.inl rfl,by rw[wL,ko];exact wh _⟩
theorem qyG{b:Gh}{n:World}{f:Nat->Nat->Option Value}{m kb:List Nat}(y:Inv b σ n)(s:Le b {b with mem:=f})(j:∀r∈m,∀R,σ.rw[r]?=some R->jo {b with mem:=f} r R){nb L:Nat}{all:List (Option Nat×Row)}{a:Ty}{v:Val a}{ds:List AV}(h:jx (ds.map (qB σ.rw)) (qd a v))(t:∀x∈ds,∀r∈rsC x,r∈m){us:List Value}(l:RepL b ds us):RepL (yF b f nb kb L all) (qd a v) us:=by
 let⟨p,o⟩:=QO (qO a v);refine qAe (Γ:={b with mem:=f}) (λ _ _ _ h=>h) (h.rep ?_) p o;refine⟨by rw[wx];exact l.len,λ i x u e g=>?_⟩;rw[List.getElem?_map]at e;cases c:ds[i]? with
 |none=>rw[c]at e;cases e
 |some k=>
   rw[c]at e;cases e;exact qgX y s (λ r q R w=>j r (t k (wc c) r q) R w) (l.rep i k u c g)
theorem RepL.split{Γ:Gh}{a b:List AV}{us:List Value}(h:RepL Γ (a++b) us):RepL Γ a (us.take a.length)/\RepL Γ b (us.drop a.length):=by
 have d:=h.take a.length;have c:=h.drop a.length;rw[List.take_left]at d;rw[List.drop_left]at c;exact⟨d,c⟩
theorem qqA{b:List Nat}{l:List RA}{v:CV l}{ds:List AV}{qe:List (Option Nat×Row)}(h:FC σ b l v ds qe):qe.length=nR l:=by
 induction h with
 |nil=>rfl
 |val h c t a=>exact a
 |row h t a=>exact congrArg (· + 1) a
theorem FC.rep{b:Gh}{p:World}{f:Nat->Nat->Option Value}{o kb:List Nat}(n:Inv b σ p)(q:Le b {b with mem:=f})(j:∀r∈o,∀R,σ.rw[r]?=some R->jo {b with mem:=f} r R)(nb L:Nat)(all:List (Option Nat×Row)){l:List RA}{v:CV l}{ds:List AV}{qe:List (Option Nat×Row)}(h:FC σ o l v ds qe):
  ∀(pre post:List (Option Nat×Row)),all=pre++(qe++post)->∀us,RepL b ds us->RepL (yF b f nb kb L all) (QI l (L+pre.length) v) us:=by
 induction h with
 |nil=>intro pre post _ us c;rw[c.nil_inv];exact .nil
 | @val a l v vs ds w qe h s t i=>
   intro pre post e us c;let⟨m,k⟩:=c.split;have:=(qyG n q j (nb:=nb) (kb:=kb) (L:=L) (all:=all) h.1 s m).append (i pre post e _ k);rw[kT]at this;exact this
 | @row a l v vs y ds qe so h t i=>
   intro pre post e us c;obtain⟨u,r,rfl,m,k⟩:=c.uncons;have d:all[pre.length]?=some (so,⟨a.size,v.map (qd a),0,0,false⟩):=by rw[e,List.getElem?_append_right (wa _),kP];rfl
   refine .cons (qxT n h d m) ?_;have:=i (pre++[(so,⟨a.size,v.map (qd a),0,0,false⟩)]) post (by rw[e,wk];rfl) r k;rw[wd]at this;exact this
theorem FR.rep{c:Gh}{K:World}{C:Nat->Nat->Option Value}{G:List Nat}(F:Inv c σ K)(J:Le c {c with mem:=C})(w:∀r∈G,∀R,σ.rw[r]?=some R->jo {c with mem:=C} r R)(nb L:Nat)(H:List Nat)(all:List (Option Nat×Row))(e:qlm σ G all){rws:List qu}{I:List (Option Nat×Row)}(T:∀(p:Nat) (x:Option Nat×Row),I[p]?=some x->all[p]?=some x){i:List RE}{n d:Nat}{v:RV i}{ys:List AV}{qe:List (Option Nat×Row)}{kb:List Nat}(h:FR σ G rws I i n d v ys qe kb):
  ∀(pre:List (Option Nat×Row)),all=pre++qe->pre.length=d->nb<=n->(∀(j b:Nat),kb[j]?=some b->H[n-nb+j]?=some b)->∀us,RepL c ys us->RepL (yF c C nb H L all) (QC i (L+pre.length) v) us:=by
 induction h with
 |nil=>intro pre _ _ _ _ us f;rw[f.nil_inv];exact .nil
 | @val a i v vs y ys qe n d kb h U t m=>
   intro pre g z o s us f;obtain⟨u,r,rfl,B,A⟩:=f.uncons;let⟨N,M⟩:=qbW (qd0 a v);exact .cons (qjL (Γ:={c with mem:=C}) (λ _ _ _ h=>h) (h _ _ (qrD F J (λ q S R V=>w q (U q S) R V) B)) N M) (m pre g z o s r A)
 | @row a i v vs y ys qe so n d kb h t m=>
   intro pre g z o s us f;obtain⟨u,r,rfl,B,A⟩:=f.uncons;have e:all[pre.length]?=some (so,⟨a.size,v.map (qd a),0,0,false⟩):=by rw[g,List.getElem?_append_right (wa _),kP];rfl
   refine .cons (qxT F h e B) ?_;have:=m (pre++[(so,⟨a.size,v.map (qd a),0,0,false⟩)]) (by rw[g,wk];rfl) (by rw[wd,z];rfl) o s r A;rw[wd]at this;exact this
 | @agg l i v vs ds ys P O n d kb h t m=>
   intro pre g z o s us f;obtain⟨u,r,rfl,B,A⟩:=f.uncons;refine .cons ?_ ?_
   .cases B with
    |agg cs us D E Q=>
      have:=h.rep F J w nb L (kb:=H) all pre O g us ⟨D,Q⟩;exact .agg _ us this.len E this.rep
   .have:=m (pre++P) (by rw[g,wk]) (by rw[wd,z,qqA h]) o s r A;rw[wd,qqA h,<-wN]at this;exact this
theorem FR.boxes{c:Gh}{p:World}{k:Nat->Nat->Option Value}{o:List Nat}(C:Inv c σ p)(A:Le c {c with mem:=k})(u:∀r∈o,∀R,σ.rw[r]?=some R->jo {c with mem:=k} r R)(nb L:Nat)(x:List Nat)(all:List (Option Nat×Row)){rws:List qu}{q:List (Option Nat×Row)}{f:List RE}{n d:Nat}{v:RV f}{ys:List AV}{qe:List (Option Nat×Row)}{kb:List Nat}(h:FR σ o rws q f n d v ys qe kb):
  ∀(pre:List (Option Nat×Row)),all=pre++qe->∀(j:Nat) (cs:List AV),(QS f (L+pre.length) v)[j]?=some cs->∃b ds,kb[j]?=some b/\σ.bx[b]?=some ds/\(noMc ds=false->∃a w,cs=qd a w/\qm a ds=some w)/\∀us,RepL c ds us->RepL (yF c k nb x L all) cs us:=by
 induction h with
 |nil=>intro pre _ j cs e;cases e
 |val h B t g=>exact λ pre i j cs e=>g pre i j cs e
 | @row a f v vs y ys qe so n d kb h t g=>
   intro pre i j cs e;exact g (pre++[(so,⟨a.size,v.map (qd a),0,0,false⟩)]) (by rw[i,wk];rfl) j cs (by rw[wd];exact e)
 | @agg l f v vs ds ys s z n d kb h t g=>
   intro pre i j cs e;exact g (pre++s) (by rw[i,wk]) j cs (by rw[wd,qqA h,<-wN];exact e)
theorem FR.kept{f:List Nat}{rws:List qu}{e:List (Option Nat×Row)}{c:List RE}{n d:Nat}{v:RV c}{ys:List AV}{qe:List (Option Nat×Row)}{kb:List Nat}(h:FR σ f rws e c n d v ys qe kb):(∀b∈kb,b<σ.bx.length)/\∀L,(QS c L v).length=kb.length:=by
 induction h with
 |nil=>exact⟨by simp,λ _=>rfl⟩
 |val h g t a=>exact a
 |row h t a=>exact⟨a.1,λ L=>a.2 (L+1)⟩
 |agg h t a=>exact⟨a.1,λ L=>a.2 _⟩
theorem FB.rep{c:Gh}{s:World}{f:Nat->Nat->Option Value}{q kb:List Nat}(A:Inv c σ s)(y:Le c {c with mem:=f})(j:∀r∈q,∀R,σ.rw[r]?=some R->jo {c with mem:=f} r R)(nb L:Nat)(all:List (Option Nat×Row)){sas:List SA}{o:yD sas}{n:Nat}{qe:List (Option Nat×Row)}(h:FB σ q sas o n qe):
  ∀(pre post:List (Option Nat×Row)),all=pre++(qe++post)->∀(i:Nat) (cs:List AV),(jm sas (L+pre.length) o)[i]?=some cs->∃ds,σ.bx[n+i]?=some ds/\(noMc ds=false->∃a w,cs=qd a w/\qm a ds=some w)/\∀us,RepL c ds us->RepL (yF c f nb kb L all) cs us:=by
 induction h with
 |nil=>intro pre post _ i cs b;cases b
 | @box r l v o n ds p m z h t e=>
   intro pre post d i cs b;have d:all=pre++(p++(m++post)):=by rw[d,wk]
   have b:(QI l (L+pre.length) (toC l (toB l v))::jm r (L+pre.length+nR l) o)[i]?=some cs:=b;cases i with
   |zero=>
     cases b;rw[qi6];refine⟨ds,z,λ x=>by let⟨a,w,e1,e2⟩:=h.mc x;exact⟨a,w,e1 _,e2⟩,λ us u=>?_⟩;exact h.rep A y j nb L all pre (m++post) d us u
   |succ i=>
     let⟨k,C,B⟩:=e (pre++p) post (by rw[d,wk]) i cs (by rw[wd,qqA h,<-wN];exact b);exact⟨k,by rw[<-C];congr 1;omega,B⟩
 |skip1 t e|skip2 t e|skip3 t e|skip4 t e=>exact λ pre post d i cs b=>e pre post d i cs b
theorem qAx{c b:Gh}{ys d:List AV}{u:Value}(f:ys.length=d.length)(h:∀us,RepL c ys us->RepL b d us)(a:Rep c (qX ys) u):Rep b (qX d) u:=by
 match ys,d,f with
 |[],[],_=>
   cases a with
   |tup cs us e a=>exact .tup [] us e (h us ⟨e,a⟩).rep
 |[y],[z],_=>
   let⟨l,r,g,i,_⟩:=(h [u] (.cons a .nil)).uncons;cases g;exact i
 |y::k::ys,z::j::d,f=>
   cases a with
   |tup cs us e a=>exact .tup _ us (by rw[e];exact f) (h us ⟨e,a⟩).rep
theorem qzD{e:Type}{f:e->Option Nat}:∀{l:List e},(l.filterMap f).Nodup->∀(a b j:Nat) (x y:e),l[a]?=some x->l[b]?=some y->f x=some j->f y=some j->a=b
 |[],_,a,b,j,x,y,h,_,_,_=>by cases h
 |z::l,d,a,b,j,x,y,o,n,m,k=>by
   have r:(l.filterMap f).Nodup:=by
    cases g:f z with
    |none=>rw[xo g]at d;exact d
    |some q=>rw[xe g]at d;exact(kO.1 d).2
   have c:∀{i:Nat}{w:e},l[i]?=some w->f z=some j->f w=some j->False:=λ s g p=>by
    rw[xe g]at d;exact(kO.1 d).1 (kQ.2 ⟨_,wc s,p⟩)
   cases a with
   |zero=>
     cases b with
     |zero=>rfl
     |succ b=>cases o;exact(c n m k).elim
   |succ a=>
     cases b with
     |zero=>cases n;exact(c o k m).elim
     |succ b=>rw[qzD r a b j x y o n m k]
theorem qys{P:Program}{c:TC}(hC:zp P c.pc.cfg){f:FuncId}{fn:Func}{cd:Code}(hf:P.funcs[f]?=some fn)(J:QB fn=true)(S:fn.body=some cd)(aI:c.nt=fn.ntmps)(g:qiy)(Y:c.np=qvq g.args)(az:g.args.length<=fn.ntmps)
  (h:∀a v,g.fn a=some v->∃n k,qkg c (qrB c g.args g.res fn.results.toList) n k [.code cd] (qbV 0 (qgB g.args 0 0 a)) ⟨sBx g.args 0 a,sRw g.args a⟩=some v):qw P f (sgP g):=by
 unfold QB at J;rw[S]at J;simp only[wb,wJ]at J;let⟨aQ,ak⟩:=J;refine⟨⟨fn,hf,by rw[S];rfl,ak⟩,λ Γ σ w d G r H L hp=>?_⟩;unfold sgP at hp;split at hp<;>try cases hp
 rename_i a ha;split at hp<;>try cases hp
 rename_i v hv;let⟨N,k,av⟩:=h a v hv;have h0:qfv ⟨λ i=>i,0,λ _=>none,λ _=>0,λ _=>[],[]⟩ σ 0 0:=⟨λ _=>rfl,rfl,λ id R h=>(by cases h),λ id r h=>absurd h (wD _),λ id aZ r h=>absurd h (wD _),λ id R h=>(by cases h)⟩
 let⟨m,aC,aY,s1,s2,s3,s4,s5,s6,s7,s8⟩:=qdr g.args ha h0;have a1:d.length<=fn.ntmps:=wC s7 az;have s5:0+(sBx g.args 0 a).length=aC:=s5;have F:σ.bx.length=nBx g.args:=by rw[<-s3,<-s5,qgl];omega
 have Y:c.np=nBx g.args:=Y
 have ax:Rel c.n2 m (qbV 0 (qgB g.args 0 0 a)) ⟨sBx g.args 0 a,sRw g.args a⟩ (d++List.replicate (fn.ntmps-d.length) .dead) {σ with wr:=[],wrr:=[]}:=by
  refine⟨by show _=c.nt;rw[wd,xj,aI];omega,λ t=>?_,s4,by show m.nb=(sBx g.args 0 a).length;rw[s2.nb];omega,λ b cs J=>?_,λ b b' _ _ he=>by rw[s2.b,s2.b]at he;exact he,s2.rows,s2.rinj,λ i H=>⟨?_,s2.b i⟩⟩
  .have:=qqc (m:=m) 0 (pre:=[]) (post:=List.replicate (fn.ntmps-d.length) .dead) s6 rfl t;simpa using this
  .let⟨ds,d1,d2⟩:=s8 b cs J;rw[wy]at d1;exact⟨ds,by rw[s2.b];exact d1,d2⟩
  .have H:i<c.np:=H;rw[s2.nb,s3,F,<-Y];exact H
 have aN:Go c.pc (λ e s=>(e=.ret\/e=.normal)/\∃m E τ,Rel c.n2 m E τ s.tm s.σ/\qrB c g.args g.res fn.results.toList E τ=some v) [.code cd] .normal ⟨d++List.replicate (fn.ntmps-d.length) .dead,{σ with wr:=[],wrr:=[]}⟩:=
  qoo (Qr:=λ v e s=>(e=.ret\/e=.normal)/\∃m E τ,Rel c.n2 m E τ s.tm s.σ/\qrB c g.args g.res fn.results.toList E τ=some v) (λ E τ r m tm σ h L e he=>⟨he,m,E,τ,L,h⟩) N k _ _ _ _ _ _ _ av ax
 let⟨n,e,W,g3,aP,l,E2,aX,z,B⟩:=aN;unfold jW;refine calls_of_wp hf S ?_;have aM:Inv Γ (qd9 fn σ d).σ w:=H.wr rfl rfl
 have ht:qQ Γ (qd9 fn σ d).tm {tmps:=G.toArray++Array.replicate (fn.ntmps-G.toArray.size) undef,defers:=[]}:=by
  show RepL Γ (d++List.replicate (fn.ntmps-d.length) .dead) (G.toArray++Array.replicate (fn.ntmps-G.toArray.size) undef).toList;rw[xa,kZ];have:G.toArray.size=d.length:=by simpa using L.len
  rw[this];exact L.append (qaV Γ _)
 refine wp_mono (qrp hC (n+12) cd _ e W aQ (qoj qwB g3) Γ w _ aM ht rfl) ?_;rintro e' a' w' ⟨rfl,hd,Γ',x1,V,x3,x4⟩;unfold qrB at B;split at B<;>try cases B
 rename_i o iB q aj;split at B<;>try cases B
 rename_i vv O U q' aH;split at B<;>cases B;rename_i C;rw[wb,wb,wb,wo]at C;let⟨ae,ao,ys,aD,aU⟩:=qkv z (rws:=QT g.args o) aH;let⟨vr,q1,q2⟩:=qf8 hC.ty V x3 (fn:=fn) (r:=qX ys) (by unfold Jf;rw[aD]);have M:∀i,i<nBx g.args->l.b (0+i)=0+i:=λ i H=>by rw[wy];exact(z.pin i (by rw[<-Y]at H;exact H)).2
 let⟨af,aV⟩:=qev z g.args aj M;have aG:∀id∈iB++O,id<l.rw.length:=λ id h=>(wi.1 h).elim (af id) (ae id)
 have aO:∃T,(VB T W.σ g.args 0/\∀id∈iB,∀r,l.r id=some r->r ∉ T)/\(((∀y∈ys,∀r∈rsA y,r∈T)/\(∀b∈U,∀ds,W.σ.bx[l.b b]?=some ds->∀x∈ds,∀r∈rsC x,r∈T)/\O=[])\/(q'=true/\∀id∈O,∀r,l.r id=some r->r ∉ T)):=by
  obtain S|S:=Bool.or_eq_true_iff.1 C.2.1
  .have S:iB++O=[]:=by simpa[xq]using S
   let⟨aS,aR⟩:=kg.1 S;exact⟨(W.σ.bx.flatMap λ ds=>ds.flatMap rsC)++ys.flatMap rsA,⟨VB.all (λ ds an x hx r L=>wi.2 (.inl (wX.2 ⟨ds,an,wX.2 ⟨x,hx,L⟩⟩))) _ _,by rw[aS];intro id H;cases H⟩,.inl ⟨λ y hy r L=>wi.2 (.inr (wX.2 ⟨y,hy,L⟩)),λ b _ ds an x hx r L=>wi.2 (.inl (wX.2 ⟨ds,wc an,wX.2 ⟨x,hx,L⟩⟩)),aR⟩⟩
  .rw[wb,wW]at S;obtain hq|hq:=S.2
   .subst hq;exact⟨[],⟨VB.clean z g.args aj M,λ _ _ _ _ h=>by cases h⟩,.inr ⟨S.1,λ _ _ _ _ h=>by cases h⟩⟩
   .unfold qF7 at hq;split at hq<;>try cases hq
    rename_i vs aE;rw[wo]at hq
    have ad:∀id∈iB++O,∀r,l.r id=some r->r ∉ vs.filterMap (λ i=>cond (Nat.blt i l.rw.length) (l.r i) none):=λ id A r L hm=>by
     let⟨a,ha,ac⟩:=kQ.1 hm;have h1:=hq a ha;rw[wo]at h1;have h2:=h1 id A;cases J:Nat.blt a l.rw.length with
     |false=>rw[J]at ac;cases ac
     |true=>
       rw[J]at ac;have Q:a<l.rw.length:=by simpa[waa]using J
       have:=z.rinj a id r Q (aG id A) ac L;subst this;simp at h2
    have aF:∀id∈vs,id<l.rw.length->∀r,l.r id=some r->r∈vs.filterMap (λ i=>cond (Nat.blt i l.rw.length) (l.r i) none):=λ id A Q r L=>by
     exact kQ.2 ⟨id,A,by rw[show Nat.blt id l.rw.length=true by simpa[waa]using Q];exact L⟩
    exact⟨_,⟨VB.vid z g.args aE M aF,λ id A=>ad id (wi.2 (.inl A))⟩,.inr ⟨S.1,λ id A=>ad id (wi.2 (.inr A))⟩⟩
 let⟨T,f1,f2⟩:=aO;let⟨K,b1,b2,b3⟩:=aV T f1.1 f1.2;have al:K.length=nrB g.args:=by rw[<-JS g.args o,<-b2,wx]
 let⟨D,v',X,n1,n2,n3,n4⟩:=aU T K (nBx g.args) (nrB g.args) (qGs z aj b3.2) (by rw[Jn];exact wa _) f2;rw[n4]at hp;cases hp
 have aJ:((K++X).filterMap (·.1)).Nodup:=by
  rw[wZ,b3.1,n3,<-wZ];have A:∀id∈iB++O,id<l.rw.length:=λ id h=>(wi.1 h).elim (af id) (ae id);exact qt7 (qgW C.1) λ x hx y hy q e1 e2=>z.rinj x y q (A x hx) (A y hy) e1 e2
 have ay:qlm W.σ T (K++X):=λ p hp=>(wi.1 hp).elim (b1.newOk p) (n1.newOk p);let⟨au,ar⟩:=n1.kept;have aK:(U.map l.b).Nodup:=qpA (qgW C.2.2.1) λ a ha b J he=>z.inj a b (ao a ha) (ao b J) he
 have aL:∀b∈U.map l.b,σ.bx.length<=b/\b<W.σ.bx.length:=λ b J=>by
  refine⟨?_,au b J⟩;obtain⟨b0,h1,rfl⟩:=wI.1 J;have a0:=wY (C.2.2.2 b0 h1);rw[F];refine Nat.le_of_not_lt λ Q=>?_;have e1:=M (l.b b0) Q;rw[wy]at e1;have:=z.inj (l.b b0) b0 (z.pin _ (by show _<c.np;rw[Y];exact Q)).1 (ao b0 h1) e1;omega
 let⟨mm,z1,z2,z3,z4⟩:=qmC (σ0:=σ) H x1 V x4.bl (jm g.args σ.rw.length o++QS D (σ.rw.length+nrB g.args) v') (U.map l.b) (by rw[wd,Jm,F,ar]) aL aK T (K++X) (λ i cs u=>by
  by_cases aa:i<σ.bx.length
  .rw[List.getElem?_append_left (by rw[Jm,<-F];exact aa)]at u;have u:(jm g.args (σ.rw.length+0) o)[i]?=some cs:=u;have ab:i<W.σ.bx.length:=wv aa x4.bl;have aT:qgw σ.bx.length (U.map l.b) i=i:=if_pos aa;rw[aT];refine⟨W.σ.bx[i],List.getElem?_eq_getElem ab,λ hn=>?_,λ m fz I us hu=>?_⟩
   .let⟨m,fz,_,I⟩:=QW T V W.σ.wrr;let⟨ap,d1,d2,_⟩:=b1.rep V fz.le I σ.bx.length σ.rw.length (kb:=U.map l.b) (K++X) [] X rfl i cs u;rw[wy,List.getElem?_eq_getElem ab]at d1;cases d1;obtain⟨a,w,rfl,e2⟩:=d2 hn;exact qyJ a hn e2 (V.box i _ (List.getElem?_eq_getElem ab))
   let⟨ap,d1,_,d2⟩:=b1.rep V fz.le I σ.bx.length σ.rw.length (kb:=U.map l.b) (K++X) [] X rfl i cs u;rw[wy,List.getElem?_eq_getElem ab]at d1;cases d1;exact d2 us hu
  .rw[List.getElem?_append_right (by rw[Jm,<-F];omega),Jm,<-F,<-al]at u;have Z:=u;have aA:=getElem?_lt u;rw[ar]at aA;obtain⟨b,k1⟩:∃b,(U.map l.b)[i-σ.bx.length]?=some b:=⟨_,List.getElem?_eq_getElem aA⟩
   obtain⟨ds,k2⟩:∃ds,W.σ.bx[b]?=some ds:=⟨_,List.getElem?_eq_getElem (au _ (wc k1))⟩
   refine⟨ds,?_,λ hn=>?_,λ m fz I us hu=>?_⟩
   .unfold qgw;rw[if_neg aa,List.getD_eq_getElem?_getD,k1];exact k2
   .let⟨m,fz,_,I⟩:=QW T V W.σ.wrr;let⟨b',ap,ai,ah,ag,_⟩:=n1.boxes V fz.le I σ.bx.length σ.rw.length (U.map l.b) (K++X) K rfl _ cs Z;cases k1.symm.trans ai;cases k2.symm.trans ah;obtain⟨a,w,rfl,e2⟩:=ag hn;exact qyJ a hn e2 (V.box _ _ k2)
   .let⟨b',ap,ai,ah,_,ag⟩:=n1.boxes V fz.le I σ.bx.length σ.rw.length (U.map l.b) (K++X) K rfl _ cs Z;cases k1.symm.trans ai;cases k2.symm.trans ah;exact ag us hu) (λ a so R h=>ay (so,R) (wc h)) (λ a b j R R' h1 h2=>qzD aJ a b j _ _ h1 h2 rfl rfl) (List.range σ.bx.length) (List.range σ.rw.length)
 have aw:Rep (yF Γ' mm σ.bx.length (U.map l.b) σ.rw.length (K++X)) (qX (QC D (σ.rw.length+nrB g.args) v')) vr:=by
  refine qAx (n1.len _) (λ us hu=>?_) q2;rw[<-al];exact n1.rep V z1.le z2 σ.bx.length σ.rw.length (U.map l.b) (K++X) ay (λ p x hx=>by rw[List.getElem?_append_left (getElem?_lt hx)];exact hx) K rfl al (by rw[F];exact wa _) (λ j b hj=>by rw[F,kP,wy];exact hj) us hu
 rw[kK,b2,n2]at z4
 have am:qv {σ with wr:=[],wrr:=[]} ⟨jm g.args σ.rw.length o++QS D (σ.rw.length+nrB g.args) v',σ.rw.map jG++(js g.args o++jT D v'),List.range σ.bx.length,List.range σ.rw.length⟩:=by
  refine⟨by show σ.bx.length<=(jm g.args σ.rw.length o++_).length;rw[wd,Jm,F];exact w7 _ _,by show σ.rw.length<=(σ.rw.map jG++_).length;rw[wd,wx];exact w7 _ _,λ i H hn=>absurd (kM.2 H) hn,λ i H hn=>absurd (kM.2 H) hn,λ i h=>(by cases h),λ i h=>(by cases h)⟩
 have aB:a'.defers=[]/\∃v,(results fn a'.tmps).run P w'=.ok v w'/\∃aq Γ',Ending.returned v=.returned aq/\Ext Γ w Γ' w'/\Inv Γ' ⟨jm g.args σ.rw.length o++QS D (σ.rw.length+nrB g.args) v',σ.rw.map jG++(js g.args o++jT D v'),List.range σ.bx.length,List.range σ.rw.length⟩ w'/\Rep Γ' (qX (QC D (σ.rw.length+nrB g.args) v')) aq/\qv {σ with wr:=[],wrr:=[]} ⟨jm g.args σ.rw.length o++QS D (σ.rw.length+nrB g.args) v',σ.rw.map jG++(js g.args o++jT D v'),List.range σ.bx.length,List.range σ.rw.length⟩:=
  ⟨hd,vr,q1,vr,_,rfl,z3,z4,aw,am⟩
 obtain rfl|rfl:=aP
 .exact aB
 .exact aB
end
end Go.AmZ
namespace Go.AmZ
open Go Go.RowKit Go.GxZ
def qR{α:Type}(z:α)(s:α->α):Nat->α:=λ k=>Nat.rec (motive:=λ _=>α) z (λ _ a=>s a) k
def qf{α:Type}(z:α)(s:Nat->α->α):Nat->α:=λ k=>Nat.rec (motive:=λ _=>α) z (λ m a=>s m a) k
abbrev Y8:=List UInt8
abbrev TL:=List T
def qp9:Nat:=4000
def qka(r:Nat):Code->List It->Option (List It)
 |.seq a b,k=>match qka r a (.code b::k)with
   |some x=>some x
   |none=>qka r b k
 |.cond _ a b,k=>match qka r a k with
   |some x=>some x
   |none=>qka r b k
 |.block id b,k=>qka r b (.blk id::k)
 |.loop b,k=>match Nat.beq (qby b) r with
   |true=>some (.code (.loop b)::k)
   |false=>qka r b (.code (.loop b)::k)
 |_,_=>none
def qm1(f:Func):Code:=match f.body with
 |some c=>c
 |none=>.skip
def stL(f:Func)(r:Nat):List It:=match qka r (qm1 f) []with
 |some x=>x
 |none=>[]
def ql9:List Nat->List Nat->Bool
 |[],[]=>true
 |a::l,b::m=>Nat.beq a b&&ql9 l m
 |_,_=>false
def qo9(a b:List Nat)(x y:Option Sig):Option Sig:=cond (ql9 a b) x y
def qDB(f:Nat):List Nat->Bool
 |[]=>false
 |a::l=>cond (Nat.beq a f) true (qDB f l)
theorem qmP:∀{a b:List Nat},ql9 a b=true->a=b
 |[],[],_=>rfl
 |a::l,b::m,h=>by
   simp only[ql9,wb]at h;rw[wg h.1,qmP h.2]
 |[],_::_,h|_::_,[],h=>by cases h
theorem qmd{a b:List Nat}{x y:Option Sig}{g:Sig}(h:qo9 a b x y=some g):(a=b/\x=some g)\/y=some g:=by
 grind [qo9,qmP]
def qr3:(ts:List ATy)->JQ ts->List Nat->List TV
 |[],_,_=>[]
 |.val τ::r,a,b=>qg7 τ a.1::qr3 r a.2 b
 |.fn::r,a,g::b=>.fn g []::qr3 r a b
 |.fn::r,a,[]=>.dead::qr3 r a []
def je:(ts:List ATy)->JQ ts->List Nat->List AV
 |[],_,_=>[]
 |.val τ::r,a,b=>zK τ a.1::je r a.2 b
 |.fn::r,a,g::b=>.fn g []::je r a b
 |.fn::r,a,[]=>.dead::je r a []
theorem qhA:∀(ts:List ATy) (a:JQ ts) (b:List Nat),(je ts a b).length=ts.length
 |[],_,_=>rfl
 |.val τ::r,a,b|.fn::r,a,g::b|.fn::r,a,[]=>by simp[je,qhA r]
theorem qjZ{m:Mp}:∀(ts:List ATy) (a:JQ ts) (b:List Nat),OKL m (qr3 ts a b) (je ts a b)
 |[],_,_=>rfl
 |.val τ::r,a,b=>⟨_,_,rfl,qnj τ a.1,qjZ r a.2 b⟩
 |.fn::r,a,g::b=>⟨_,_,rfl,⟨[],rfl,rfl⟩,qjZ r a b⟩
 |.fn::r,a,[]=>⟨_,_,rfl,trivial,qjZ r a []⟩
theorem qic:∀(ts:List ATy) {ys:List AV} {a:JQ ts},qa0 ts ys=some a->jx ys (je ts a (qct ys))
 | [],ys,a,h=>by
   cases ys with
   | nil=>exact .nil
   | cons y ys=>cases h
 | .val τ :: r,ys,a,h=>by
   obtain⟨y,ys,rfl,h1,h2⟩:=qsv h
   have hf:qct (y::ys)=qct ys:=by
    have:=(qaq h1).2;cases y<;>first | rfl | exact absurd rfl (this _ _)
   rw[hf];exact .cons (qmZ h1) (qic r h2)
 | .fn::r,ys,a,h=>by
   change dFn _ ys=_ at h;unfold dFn at h;split at h
   case h_2=>cases h
   exact .cons (.refl _) (qic r h)
theorem ji{P:Program}{f:FuncId}{fn:Func}(c:P.funcs[f]?=some fn)(a:QB fn=true):qc6 P f:=by
 unfold QB at a;cases b:fn.body with
 |none=>rw[b]at a;cases a
 |some cd=>
   rw[b]at a;simp only[wb,wJ]at a;exact⟨fn,c,by rw[b];rfl,a.2⟩
theorem qAv{P:Program}{c:TC}{f:FuncId}(e:qc6 P f)(h:∀i g a,c.pf f i=some g->g.fn a=none):qw P f (jL (ym c f)):=by
 refine⟨e,λ Γ σ w d b r l j k=>?_⟩;grind [ym,jL]
theorem qjx{P:Program}{f:FuncId}{g:qiy}(d:qc6 P f)(h:∀a,g.fn a=none):qw P f (sgP g):=by
 refine⟨d,λ Γ σ w c b r j e i=>?_⟩;grind [sgP]
theorem qBL{P:Program}{c:TC}(m:zp P c.pc.cfg){f:FuncId}{fn:Func}{cd:Code}(i:P.funcs[f]?=some fn)(l:QB fn=true)(j:fn.body=some cd)(d:c.nt=fn.ntmps)(g:qiy)(e:c.np=qvq g.args)(b:g.args.length<=fn.ntmps)
  (h:∃N k,∀a,g.fn a=qkg c (qrB c g.args g.res fn.results.toList) N k [.code cd] (qbV 0 (qgB g.args 0 0 a)) ⟨sBx g.args 0 a,sRw g.args a⟩):qw P f (sgP g):=by
 grind [qys]
theorem qAL{P:Program}{c:TC}(e:P.follows .mixedOrders=true)(b:∀t d,c.ty t=some d->zJ P t=some d)(h:∀f,c.has f=true->qw P f (jL (ym c f)))(m:∀f g,c.sf f=some g->qw P f (sgP g))(l:∀f g,c.mf f=some g->qw P f (mgP g))(k:∀f g,c.xf f=some g->qw P f (xgP g))(i:∀f fn,c.inl f=some fn->P.funcs[f]?=some fn/\QB fn=true):zp P c.pc.cfg:=by
 refine⟨e,b,(λ f fn h=>by cases h),λ f p a=>?_,λ f fn h=>?_⟩
 rotate_left
 .let⟨e1,j⟩:=i f fn h;grind [QB]
 have a:c.pc.prim f=some p:=a;unfold PC.prim at a;have e1:c.pc.pf f=match c.has f with|true=>some (ym c f)|false=>none:=rfl
 have j:c.pc.sp f=c.spf f:=rfl;grind [TC.spf]
end Go.AmZ
namespace Go.AmZ
open Go
inductive qfC where
 |leaf
 |node (k:Nat) (d:TD) (l r:qfC)
def qfC.get:qfC->Nat->Option TD
 |.leaf,_=>none
 |.node k d l r,t=>match Nat.beq t k with
   |true=>some d
   |false=>match Nat.blt t k with
     |true=>l.get t
     |false=>r.get t
def qfC.ok(P:Program):qfC->Prop
 |.leaf=>True
 |.node k d l r=>zJ P k=some d/\l.ok P/\r.ok P
theorem qfC.get_ok{P:Program}:∀{x:qfC}{t:Nat}{d:TD},x.ok P->x.get t=some d->zJ P t=some d
 |.leaf,t,d,_,h=>by cases h
 |.node k f l r,t,d,⟨e,c,b⟩,h=>by
   simp only[qfC.get]at h;split at h
   .rename_i a;cases h;rw[wg a];exact e
   .split at h
    .exact get_ok c h
    .exact get_ok b h
abbrev zS:Value:=.string ⟨#[]⟩
abbrev zI:Value:=.int .i64 0
abbrev zL:Value:=.slice none 0 0
abbrev zB:Value:=.bool false
abbrev ff:=false
abbrev tt:=true
abbrev nDn(k:Nat)(d:TD):qfC:=.node k d .leaf .leaf
theorem nk{P:Program}{k:Nat}{d:TD}(h:zJ P k=some d):(nDn k d).ok P:=⟨h,trivial,trivial⟩
def qz0:qfC:=(.node 105 ⟨8,112,tt,[zI,zS,zI,zL,zI,zS,zI,zL],.struct [(0,4,tt),(4,4,tt)]⟩
 (.node 24 ⟨4,56,tt,[zI,zS,zI,zL],.struct [(0,1,ff),(1,1,ff),(2,1,ff),(3,1,ff)]⟩
 (.node 12 ⟨1,8,ff,[.int .u64 (0)],.int .u64⟩
 (.node 7 ⟨4,24,tt,[zI,zI,zB,.int .u8 (0)],.struct [(0,1,ff),(1,1,ff),(2,1,ff),(3,1,ff)]⟩
 (.node 4 ⟨1,1,ff,[zB],.bool⟩
 (.node 3 ⟨1,8,ff,[zI],.int .i64⟩
 (nDn 2 ⟨1,8,ff,[zI],.int .i64⟩)
 .leaf)
 (.node 6 ⟨1,1,ff,[.int .u8 (0)],.int .u8⟩
 (nDn 5 ⟨1,1,ff,[.int .u8 (0)],.int .u8⟩)
 .leaf))
 (.node 10 ⟨1,16,ff,[zS],.string⟩
 (.node 9 ⟨1,16,ff,[zS],.string⟩
 (nDn 8 ⟨4,24,tt,[zI,zI,zB,.int .u8 (0)],.struct [(0,1,ff),(1,1,ff),(2,1,ff),(3,1,ff)]⟩)
 .leaf)
 (nDn 11 ⟨1,16,ff,[zS],.string⟩)))
 (.node 18 ⟨1,8,tt,[.pointer none],.struct [(0,1,ff)]⟩
 (.node 15 ⟨1,8,ff,[.pointer none],.ptr⟩
 (.node 14 ⟨2,24,tt,[zS,.int .u64 (0)],.struct [(0,1,ff),(1,1,ff)]⟩
 (nDn 13 ⟨2,24,tt,[zS,.int .u64 (0)],.struct [(0,1,ff),(1,1,ff)]⟩)
 .leaf)
 (.node 17 ⟨1,8,ff,[.pointer none],.ptr⟩
 (nDn 16 ⟨1,8,ff,[.pointer none],.ptr⟩)
 .leaf))
 (.node 21 ⟨1,4,ff,[.int .i32 (0)],.int .i32⟩
 (.node 20 ⟨1,16,ff,[.nilIface],.other⟩
 (nDn 19 ⟨1,8,tt,[.pointer none],.struct [(0,1,ff)]⟩)
 .leaf)
 (nDn 23 ⟨1,24,ff,[zL],.slice 25 4 56 [zI,zS,zI,zL]⟩))))
 (.node 78 ⟨5,64,tt,[zI,zS,zI,zL,zI],.struct [(0,4,tt),(4,1,ff)]⟩
 (.node 59 ⟨3,32,tt,[zS,zI,zB],.struct [(0,1,ff),(1,1,ff),(2,1,ff)]⟩
 (.node 48 ⟨1,24,ff,[zL],.slice 76 8 112 [zI,zS,zI,zL,zI,zS,zI,zL]⟩
 (.node 26 ⟨1,8,ff,[zI],.int .i64⟩
 (nDn 25 ⟨4,56,tt,[zI,zS,zI,zL],.struct [(0,1,ff),(1,1,ff),(2,1,ff),(3,1,ff)]⟩)
 .leaf)
 (.node 58 ⟨3,32,tt,[zS,zI,zB],.struct [(0,1,ff),(1,1,ff),(2,1,ff)]⟩
 (nDn 57 ⟨1,8,ff,[.pointer none],.ptr⟩)
 .leaf))
 (.node 75 ⟨8,112,tt,[zI,zS,zI,zL,zI,zS,zI,zL],.struct [(0,4,tt),(4,4,tt)]⟩
 (.node 73 ⟨1,8,ff,[.map none],.map [KC.str] ff ff 1 [zS]⟩
 (nDn 66 ⟨1,24,ff,[zL],.slice 5 1 1 [.int .u8 (0)]⟩)
 .leaf)
 (nDn 76 ⟨8,112,tt,[zI,zS,zI,zL,zI,zS,zI,zL],.struct [(0,4,tt),(4,4,tt)]⟩)))
 (.node 88 ⟨4,40,tt,[zS,zI,zI,zI],.struct [(0,1,ff),(1,1,ff),(2,1,ff),(3,1,ff)]⟩
 (.node 83 ⟨1,8,ff,[.pointer none],.ptr⟩
 (.node 81 ⟨1,24,ff,[zL],.slice 79 5 64 [zI,zS,zI,zL,zI]⟩
 (nDn 79 ⟨5,64,tt,[zI,zS,zI,zL,zI],.struct [(0,4,tt),(4,1,ff)]⟩)
 .leaf)
 (nDn 87 ⟨4,40,tt,[zS,zI,zI,zI],.struct [(0,1,ff),(1,1,ff),(2,1,ff),(3,1,ff)]⟩))
 (.node 98 ⟨3,32,tt,[zS,zI,zI],.struct [(0,1,ff),(1,1,ff),(2,1,ff)]⟩
 (.node 97 ⟨1,24,ff,[zL],.slice 99 3 32 [zS,zI,zI]⟩
 (nDn 90 ⟨1,24,ff,[zL],.slice 9 1 16 [zS]⟩)
 .leaf)
 (nDn 99 ⟨3,32,tt,[zS,zI,zI],.struct [(0,1,ff),(1,1,ff),(2,1,ff)]⟩)))))
 (.node 173 ⟨1,8,ff,[.pointer none],.ptr⟩
 (.node 126 ⟨2,48,tt,[zL,zL],.struct [(0,1,ff),(1,1,ff)]⟩
 (.node 113 ⟨1,24,ff,[zL],.slice 117 8 112 [zI,zS,zI,zL,zI,zS,zI,zL]⟩
 (.node 108 ⟨1,8,ff,[.map none],.map [KC.str,KC.int .i64] tt tt 4 [zI,zS,zI,zL]⟩
 (.node 107 ⟨1,24,ff,[zL],.slice 106 8 112 [zI,zS,zI,zL,zI,zS,zI,zL]⟩
 (nDn 106 ⟨8,112,tt,[zI,zS,zI,zL,zI,zS,zI,zL],.struct [(0,4,tt),(4,4,tt)]⟩)
 .leaf)
 (.node 111 ⟨2,24,tt,[zS,zI],.struct [(0,1,ff),(1,1,ff)]⟩
 (nDn 110 ⟨2,24,tt,[zS,zI],.struct [(0,1,ff),(1,1,ff)]⟩)
 .leaf))
 (.node 118 ⟨1,24,ff,[zL],.slice 88 4 40 [zS,zI,zI,zI]⟩
 (.node 117 ⟨8,112,tt,[zI,zS,zI,zL,zI,zS,zI,zL],.struct [(0,4,tt),(4,4,tt)]⟩
 (nDn 116 ⟨8,112,tt,[zI,zS,zI,zL,zI,zS,zI,zL],.struct [(0,4,tt),(4,4,tt)]⟩)
 .leaf)
 (nDn 125 ⟨1,8,ff,[.pointer none],.ptr⟩)))
 (.node 157 ⟨5,64,tt,[zI,zS,zI,zL,zI],.struct [(0,4,tt),(4,1,ff)]⟩
 (.node 143 ⟨24,24,tt,[.int .u8 (0),.int .u8 (0),.int .u8 (0),.int .u8 (0),.int .u8 (0),.int .u8 (0),.int .u8 (0),.int .u8 (0),.int .u8 (0),.int .u8 (0),.int .u8 (0),.int .u8 (0),.int .u8 (0),.int .u8 (0),.int .u8 (0),.int .u8 (0),.int .u8 (0),.int .u8 (0),.int .u8 (0),.int .u8 (0),.int .u8 (0),.int .u8 (0),.int .u8 (0),.int .u8 (0)],.array 24 5 1⟩
 (.node 134 ⟨1,24,ff,[zL],.slice 157 5 64 [zI,zS,zI,zL,zI]⟩
 (nDn 127 ⟨2,48,tt,[zL,zL],.struct [(0,1,ff),(1,1,ff)]⟩)
 .leaf)
 (.node 156 ⟨5,64,tt,[zI,zS,zI,zL,zI],.struct [(0,4,tt),(4,1,ff)]⟩
 (nDn 144 ⟨1,8,ff,[.int .u64 (0)],.int .u64⟩)
 .leaf))
 (.node 169 ⟨1,4,ff,[.int .u32 (0)],.int .u32⟩
 (.node 168 ⟨20,160,tt,[.int .u64 (0),.int .u64 (0),.int .u64 (0),.int .u64 (0),.int .u64 (0),.int .u64 (0),.int .u64 (0),.int .u64 (0),.int .u64 (0),.int .u64 (0),.int .u64 (0),.int .u64 (0),.int .u64 (0),.int .u64 (0),.int .u64 (0),.int .u64 (0),.int .u64 (0),.int .u64 (0),.int .u64 (0),.int .u64 (0)],.array 20 144 1⟩
 (nDn 164 ⟨1,8,ff,[.int .u64 (0)],.int .u64⟩)
 .leaf)
 (nDn 170 ⟨65,65,tt,[.int .u8 (0),.int .u8 (0),.int .u8 (0),.int .u8 (0),.int .u8 (0),.int .u8 (0),.int .u8 (0),.int .u8 (0),.int .u8 (0),.int .u8 (0),.int .u8 (0),.int .u8 (0),.int .u8 (0),.int .u8 (0),.int .u8 (0),.int .u8 (0),.int .u8 (0),.int .u8 (0),.int .u8 (0),.int .u8 (0),.int .u8 (0),.int .u8 (0),.int .u8 (0),.int .u8 (0),.int .u8 (0),.int .u8 (0),.int .u8 (0),.int .u8 (0),.int .u8 (0),.int .u8 (0),.int .u8 (0),.int .u8 (0),.int .u8 (0),.int .u8 (0),.int .u8 (0),.int .u8 (0),.int .u8 (0),.int .u8 (0),.int .u8 (0),.int .u8 (0),.int .u8 (0),.int .u8 (0),.int .u8 (0),.int .u8 (0),.int .u8 (0),.int .u8 (0),.int .u8 (0),.int .u8 (0),.int .u8 (0),.int .u8 (0),.int .u8 (0),.int .u8 (0),.int .u8 (0),.int .u8 (0),.int .u8 (0),.int .u8 (0),.int .u8 (0),.int .u8 (0),.int .u8 (0),.int .u8 (0),.int .u8 (0),.int .u8 (0),.int .u8 (0),.int .u8 (0),.int .u8 (0)],.array 65 5 1⟩))))
 (.node 229 ⟨0,0,tt,[],.struct [(0,0,tt)]⟩
 (.node 215 ⟨64,64,tt,[.int .u8 (0),.int .u8 (0),.int .u8 (0),.int .u8 (0),.int .u8 (0),.int .u8 (0),.int .u8 (0),.int .u8 (0),.int .u8 (0),.int .u8 (0),.int .u8 (0),.int .u8 (0),.int .u8 (0),.int .u8 (0),.int .u8 (0),.int .u8 (0),.int .u8 (0),.int .u8 (0),.int .u8 (0),.int .u8 (0),.int .u8 (0),.int .u8 (0),.int .u8 (0),.int .u8 (0),.int .u8 (0),.int .u8 (0),.int .u8 (0),.int .u8 (0),.int .u8 (0),.int .u8 (0),.int .u8 (0),.int .u8 (0),.int .u8 (0),.int .u8 (0),.int .u8 (0),.int .u8 (0),.int .u8 (0),.int .u8 (0),.int .u8 (0),.int .u8 (0),.int .u8 (0),.int .u8 (0),.int .u8 (0),.int .u8 (0),.int .u8 (0),.int .u8 (0),.int .u8 (0),.int .u8 (0),.int .u8 (0),.int .u8 (0),.int .u8 (0),.int .u8 (0),.int .u8 (0),.int .u8 (0),.int .u8 (0),.int .u8 (0),.int .u8 (0),.int .u8 (0),.int .u8 (0),.int .u8 (0),.int .u8 (0),.int .u8 (0),.int .u8 (0),.int .u8 (0)],.array 64 5 1⟩
 (.node 201 ⟨1,24,ff,[zL],.slice 3 1 8 [zI]⟩
 (.node 187 ⟨1,8,ff,[zI],.int .i64⟩
 (nDn 180 ⟨1,24,ff,[zL],.slice 23 1 24 [zL]⟩)
 .leaf)
 (.node 214 ⟨32,32,tt,[.int .u8 (0),.int .u8 (0),.int .u8 (0),.int .u8 (0),.int .u8 (0),.int .u8 (0),.int .u8 (0),.int .u8 (0),.int .u8 (0),.int .u8 (0),.int .u8 (0),.int .u8 (0),.int .u8 (0),.int .u8 (0),.int .u8 (0),.int .u8 (0),.int .u8 (0),.int .u8 (0),.int .u8 (0),.int .u8 (0),.int .u8 (0),.int .u8 (0),.int .u8 (0),.int .u8 (0),.int .u8 (0),.int .u8 (0),.int .u8 (0),.int .u8 (0),.int .u8 (0),.int .u8 (0),.int .u8 (0),.int .u8 (0)],.array 32 5 1⟩
 (nDn 209 ⟨1,8,ff,[.int .u64 (0)],.int .u64⟩)
 .leaf))
 (.node 227 ⟨4,40,tt,[.pointer none,.pointer none,.pointer none,zS],.struct [(0,1,ff),(1,1,ff),(2,1,ff),(3,1,ff)]⟩
 (.node 226 ⟨4,40,tt,[.pointer none,.pointer none,.pointer none,zS],.struct [(0,1,ff),(1,1,ff),(2,1,ff),(3,1,ff)]⟩
 (nDn 221 ⟨1,8,ff,[.pointer none],.ptr⟩)
 .leaf)
 (nDn 228 ⟨0,0,tt,[],.array 0 16 1⟩)))
 (.node 236 ⟨1,4,ff,[.int .i32 (0)],.int .i32⟩
 (.node 233 ⟨1,1,ff,[.int .u8 (0)],.int .u8⟩
 (.node 232 ⟨1,1,ff,[.int .u8 (0)],.int .u8⟩
 (nDn 230 ⟨0,0,tt,[],.struct [(0,0,tt)]⟩)
 .leaf)
 (nDn 235 ⟨1,8,ff,[.pointer none],.ptr⟩))
 (.node 239 ⟨11,48,tt,[.int .u64 (0),.int .u64 (0),.int .u32 (0),.int .u8 (0),.int .u8 (0),.int .u8 (0),.int .u8 (0),.nilFunc,.pointer none,.int .i32 (0),.int .i32 (0)],.struct [(0,1,ff),(1,1,ff),(2,1,ff),(3,1,ff),(4,1,ff),(5,1,ff),(6,1,ff),(7,1,ff),(8,1,ff),(9,1,ff),(10,1,ff)]⟩
 (.node 238 ⟨11,48,tt,[.int .u64 (0),.int .u64 (0),.int .u32 (0),.int .u8 (0),.int .u8 (0),.int .u8 (0),.int .u8 (0),.nilFunc,.pointer none,.int .i32 (0),.int .i32 (0)],.struct [(0,1,ff),(1,1,ff),(2,1,ff),(3,1,ff),(4,1,ff),(5,1,ff),(6,1,ff),(7,1,ff),(8,1,ff),(9,1,ff),(10,1,ff)]⟩
 (nDn 237 ⟨1,4,ff,[.int .i32 (0)],.int .i32⟩)
 .leaf)
 (nDn 240 ⟨1,8,ff,[.pointer none],.other⟩))))))
def tyT(t:Nat):Option TD:=qz0.get t
theorem qBb(t:Nat)(d:TD)(h:tyT t=some d):zJ Go.Proofs.Tryz.prog t=some d:=
 qfC.get_ok (show qfC.ok Go.Proofs.Tryz.prog qz0 from⟨by kernel_rfl,⟨by kernel_rfl,⟨by kernel_rfl,⟨by kernel_rfl,⟨by kernel_rfl,⟨by kernel_rfl,(nk (by kernel_rfl)),trivial⟩,⟨by kernel_rfl,(nk (by kernel_rfl)),trivial⟩⟩,⟨by kernel_rfl,⟨by kernel_rfl,(nk (by kernel_rfl)),trivial⟩,(nk (by kernel_rfl))⟩⟩,⟨by kernel_rfl,⟨by kernel_rfl,⟨by kernel_rfl,(nk (by kernel_rfl)),trivial⟩,⟨by kernel_rfl,(nk (by kernel_rfl)),trivial⟩⟩,⟨by kernel_rfl,⟨by kernel_rfl,(nk (by kernel_rfl)),trivial⟩,(nk (by kernel_rfl))⟩⟩⟩,⟨by kernel_rfl,⟨by kernel_rfl,⟨by kernel_rfl,⟨by kernel_rfl,(nk (by kernel_rfl)),trivial⟩,⟨by kernel_rfl,(nk (by kernel_rfl)),trivial⟩⟩,⟨by kernel_rfl,⟨by kernel_rfl,(nk (by kernel_rfl)),trivial⟩,(nk (by kernel_rfl))⟩⟩,⟨by kernel_rfl,⟨by kernel_rfl,⟨by kernel_rfl,(nk (by kernel_rfl)),trivial⟩,(nk (by kernel_rfl))⟩,⟨by kernel_rfl,⟨by kernel_rfl,(nk (by kernel_rfl)),trivial⟩,(nk (by kernel_rfl))⟩⟩⟩⟩,⟨by kernel_rfl,⟨by kernel_rfl,⟨by kernel_rfl,⟨by kernel_rfl,⟨by kernel_rfl,(nk (by kernel_rfl)),trivial⟩,⟨by kernel_rfl,(nk (by kernel_rfl)),trivial⟩⟩,⟨by kernel_rfl,⟨by kernel_rfl,(nk (by kernel_rfl)),trivial⟩,(nk (by kernel_rfl))⟩⟩,⟨by kernel_rfl,⟨by kernel_rfl,⟨by kernel_rfl,(nk (by kernel_rfl)),trivial⟩,⟨by kernel_rfl,(nk (by kernel_rfl)),trivial⟩⟩,⟨by kernel_rfl,⟨by kernel_rfl,(nk (by kernel_rfl)),trivial⟩,(nk (by kernel_rfl))⟩⟩⟩,⟨by kernel_rfl,⟨by kernel_rfl,⟨by kernel_rfl,⟨by kernel_rfl,(nk (by kernel_rfl)),trivial⟩,⟨by kernel_rfl,(nk (by kernel_rfl)),trivial⟩⟩,⟨by kernel_rfl,⟨by kernel_rfl,(nk (by kernel_rfl)),trivial⟩,(nk (by kernel_rfl))⟩⟩,⟨by kernel_rfl,⟨by kernel_rfl,⟨by kernel_rfl,(nk (by kernel_rfl)),trivial⟩,(nk (by kernel_rfl))⟩,⟨by kernel_rfl,⟨by kernel_rfl,(nk (by kernel_rfl)),trivial⟩,(nk (by kernel_rfl))⟩⟩⟩⟩⟩) h
end Go.AmZ
namespace Go.Proofs
open Go.Shelf
def Tryz.lays106_ren:Go.Shelf.Ren:=⟨λ|106=>116|213=>148|265=>183|n=>n,λ|9=>9|3=>3|n=>n,λ|n=>n⟩
theorem Tryz.lays106:Go.Proofs.Lays.n106 Tryz.prog Tryz.lays106_ren:={
 mixed:=by kernel_rfl
 f106:=Tryz.func116.trans (congrArg some (by kernel_rfl))
 f213:=Tryz.func148.trans (congrArg some (by kernel_rfl))
 f265:=Tryz.func183.trans (congrArg some (by kernel_rfl))
 t3:=Tryz.underlying3
 a3:=Tryz.isAgg3
 z3:=Tryz.sizeOf3
 v3:=Tryz.zeroValue3
 t9:=Tryz.underlying9
 a9:=Tryz.isAgg9
 z9:=Tryz.sizeOf9
 v9:=Tryz.zeroValue9}
open Go.RowKit in
theorem Tryz.strings_Compare(a b:ByteArray)(w:World):
 Calls Tryz.prog 116 #[.string a,.string b] w λ e w'=>e=.returned (.int .i64 (Lib.compareBytes a.data.toList b.data.toList))/\w'=w:=Any.strings_Compare Tryz.lays106 a b w
end Go.Proofs
namespace Go.AmZ
open Go Go.RowKit Go.GxZ
structure qBO (Γ:Gh) (w:World) (a:Option Addr) (n k:Nat) (cs:List (List AV)):Prop where
 len:cs.length=n
 size:∀e∈cs,e.length=k
 plain:∀e∈cs,∀x∈e,qk x=true
 at_:cs=[]\/∃b o,a=some ⟨b,o,none⟩/\∀(i:Nat) (e:List AV) (j:Nat) (x:AV),cs[i]?=some e->e[j]?=some x->∃u,w.cell? ⟨b,o+(i*k+j),none⟩=some u/\Rep Γ x u/\u.oneCell'=true
theorem qvx{Γ:Gh}{σ:St}{w:World}(H:Inv Γ σ w){a:Ty}{y:AV}{l:List (Val a)}{u:Value}(I:dlist a y=some l)(q:Rep Γ y u):∃p n c,u=.slice p n c/\n<=c/\qBO Γ w p n a.size (l.map (qd a)):=by
 obtain⟨rfl,rfl⟩|⟨es,n,rfl,h⟩:=zN I
 .have:=qK q;subst this;exact⟨none,0,0,rfl,wa _,rfl,(by intro e d;cases d),(by intro e d;cases d),.inl rfl⟩
 .cases q with
  |sl k es f p E c b o us F J P O N Q r G q=>
    have g:=qE h;refine⟨p,E,c,rfl,J (xn _),by rw[wx,F,g],?_,?_,?_⟩
    .intro e d;obtain⟨v,_,rfl⟩:=wI.1 d;exact zj a v
    .intro e d;obtain⟨v,_,rfl⟩:=wI.1 d;exact qO a v
    .obtain r|r:=r
     .grind
     .right;refine⟨b,o,r,λ i e j x m K=>?_⟩;rw[List.getElem?_map]at m;cases t:l[i]? with
      |none=>rw[t]at m;cases m
      |some v=>
        rw[t]at m;cases m;let⟨B,A,M⟩:=qdf h t;let⟨z,g3,L⟩:=(qgi M).get j x K;have s:=G i B j z A g3;let⟨D,C⟩:=H.mem _ _ _ s;exact⟨us i j,by rw[<-wN];exact D,L _ _ (q i B j z A g3),C⟩
def Fresh(w:World)(k n:Nat)(xs:List Value)(v:Value)(w':World):Prop:=
 Below w.heap.size w w'/\w.drawn<=w'.drawn/\((n=0/\∃a,v=.slice a 0 0)\/∃(g cap:Nat) (b:Array Value) (e:TypeId),v=.slice (some ⟨g,0,none⟩) n cap/\w.heap.size<=g/\w'.heap[g]?=some (.cells b e (0,0))/\n<=cap/\cap*k<=b.size/\∀(j:Nat) (u:Value),xs[j]?=some u->b[j]?=some u)
theorem qiz{P:Program}{f:FuncId}{Γ:Gh}{σ:St}{w:World}{m:List Value}{a:Ty}{l:List (Val a)}{xs:List Value}(b:Inv Γ σ w)(k:σ.bx=[])(n:σ.rw=[])
  (F:∀(i:Nat) (e:List AV) (j:Nat) (x:AV),(l.map (qd a))[i]?=some e->e[j]?=some x->∃u,xs[i*a.size+j]?=some u/\Rep Γ x u/\u.oneCell'=true)
  (h:Calls P f m.toArray w λ e w'=>∃v,e=.returned v/\Fresh w a.size l.length xs v w'):
  jW P Γ σ w f m (qX (QC [.one (.row a)] σ.rw.length (l,())),some ⟨[],σ.rw.map jG++jT [.one (.row a)] (l,()),List.range σ.bx.length,List.range σ.rw.length⟩):=by
 refine Calls.mono h ?_;rintro e w' ⟨v,rfl,r,s,G⟩;have t:=b.later r
 have d:qv {σ with wr:=[],wrr:=[]} ⟨[],σ.rw.map jG++jT [.one (.row a)] (l,()),List.range σ.bx.length,List.range σ.rw.length⟩:=
  ⟨by rw[k];exact wa _,by show σ.rw.length<=_;rw[n];exact wh _,λ i b _=>(by have b:i<σ.bx.length:=b;rw[k]at b;exact absurd b (wD _)),λ i b _=>(by have b:i<σ.rw.length:=b;rw[n]at b;exact absurd b (wD _)),λ i h=>(by cases h),λ i h=>(by cases h)⟩
 obtain⟨H,p,rfl⟩|⟨g,cap,z,U,rfl,L,K,g3,B,J⟩:=G
 .have I:l=[]:=we H;subst I
  let⟨T,Q,O,E,D⟩:=qmC (σ0:=σ) (σ1:=σ) b (qds r s) t (wa _) [] [] (by rw[k];rfl) (by simp) kN [] [(none,⟨a.size,[],0,0,false⟩)] (λ i cs h=>by cases h)
   (λ i so R h=>by
    cases i with
    |zero=>cases h;exact⟨rfl,rfl,wao a,(by intro e o;cases o),(by intro e o;cases o),rfl⟩
    |succ i=>cases h)
   (λ i j q R R' y A=>by cases i<;>cases y) (List.range σ.bx.length) (List.range σ.rw.length)
  refine⟨_,_,rfl,E,D,?_,d⟩;show Rep _ (.rs σ.rw.length 0 0 0 false) _;exact .rs _ _ _ _ _ p 0 (by show σ.rw.length<σ.rw.length+1;omega) (wh _) (wa _) (λ h=>by cases h) λ _=>⟨.inl rfl,by rw[wL,ko];exact wh _⟩
 .let⟨Γ',N,M,C⟩:=qsu b (wao a) (c:=l.map (qd a)) (λ e o=>by obtain⟨v,_,rfl⟩:=wI.1 o;exact zj a v) (λ e o=>by obtain⟨v,_,rfl⟩:=wI.1 o;exact qO a v) (vs:=z) (by rw[wx];exact wC (wm _ g3) B)
    (λ i e j x y A=>by
     let⟨u,u1,u2⟩:=F i e j x y A;exact⟨u,J _ _ u1,u2⟩) (cap:=cap) (by rw[wx];exact g3) B r s L K
  rw[wx]at C;refine⟨_,Γ',rfl,N,?_,C,d⟩;have:({σ with rw:=σ.rw++[⟨a.size,l.map (qd a),0,0,false⟩]}:St).bx=[]:=k;exact M.wr this.symm (by show σ.rw.map jG++_=σ.rw++_;rw[n];rfl)
end Go.AmZ
namespace Go.GxZ
open Go.RowKit
def Blk(w:World)(g:Nat)(e:TypeId)(a:Array Value):Prop:=w.heap[g]?=some (.cells a e (0,0))
theorem Blk.cell{w:World}{g:Nat}{e:TypeId}{a:Array Value}(h:Blk w g e a)(i:Nat):w.cell? ⟨g,i,none⟩=a[i]?:=by
 unfold Blk at h;simp[World.cell?,h]
theorem Blk.free{w:World}{g:Nat}{e:TypeId}{a:Array Value}(h:Blk w g e a)(i:Nat):w.frozen? ⟨g,i,none⟩=false:=by
 unfold Blk at h;simp[World.frozen?,h]
theorem Blk.later{w w':World}{g:Nat}{e:TypeId}{a:Array Value}(h:Blk w g e a)(b:Below w.heap.size w w'):Blk w' g e a:=by
 unfold Blk at h |-
 rw[b.block g (lt_of_block h)];exact h
theorem Blk.same{w w':World}{g:Nat}{e:TypeId}{a:Array Value}(h:Blk w g e a)(b:w'.heap[g]?=w.heap[g]?):Blk w' g e a:=by
 unfold Blk at h |-
 rw[b];exact h
theorem Blk.set{w:World}{g:Nat}{e:TypeId}{a:Array Value}(h:Blk w g e a)(i:Nat)(v:Value):Blk (w.setCell ⟨g,i,none⟩ v) g e (a.setIfInBounds i v):=by
 unfold Blk at h |-
 have b:=lt_of_block h;have c:w.heap[g]=.cells a e (0,0):=by simpa[Array.getElem?_eq_getElem b]using h
 show(w.heap.modify g _)[g]?=_;rw[Array.getElem?_eq_getElem (by simpa using b),Array.getElem_modify_self,c];rfl
theorem qlw{w:World}{g:Nat}{e:TypeId}{c:Array Value}(h:Blk w g e c)(o:Nat)(n m l j:Value)(p:o+4<=c.size):
  ∃w' b,(((w.setCell ⟨g,o,none⟩ n).setCell ⟨g,o+1,none⟩ m).setCell ⟨g,o+2,none⟩ l).setCell ⟨g,o+3,none⟩ j=w'/\Blk w' g e b/\b.size=c.size/\
   b[o]?=some n/\b[o+1]?=some m/\b[o+2]?=some l/\b[o+3]?=some j/\(∀i,i<o->b[i]?=c[i]?)/\
   (∀B,B<=g->∀w0,Below B w0 w->Below B w0 w')/\w'.heap.size=w.heap.size/\(∀k,k≠g->w'.heap[k]?=w.heap[k]?)/\(∀a,w'.frozen? a=w.frozen? a):=by
 refine⟨_,_,rfl,(((h.set o n).set (o+1) m).set (o+2) l).set (o+3) j,by simp,?_,?_,?_,?_,λ i q=>?_,λ B f w0 h=>(((h.setCell f _).setCell f _).setCell f _).setCell f _,by simp,λ k d=>?_,λ a=>by simp⟩
 .simp[Array.getElem?_setIfInBounds];omega
 .simp[Array.getElem?_setIfInBounds];omega
 .simp[Array.getElem?_setIfInBounds];omega
 .simp[Array.getElem?_setIfInBounds];omega
 .simp only[Array.getElem?_setIfInBounds];rw[if_neg (by omega),if_neg (by omega),if_neg (by omega),if_neg (by omega)]
 .rw[Below.heap_setCell _ _ _ _ d,Below.heap_setCell _ _ _ _ d,Below.heap_setCell _ _ _ _ d,Below.heap_setCell _ _ _ _ d]
def qoX(Q:Nat->Prop)(w:World)(a:Array Value)(l:List T):Prop:=
 ∀(k:Nat) (x:T),l[k]?=some x->∃cs:List Value,cs.length=4/\(∀(i:Nat) (c:Value),cs[i]?=some c->a[k*4+i]?=some c)/\j8 Q w x cs
theorem qoX.nil{Q:Nat->Prop}{w:World}{a:Array Value}:qoX Q w a []:=λ k x h=>by simp at h
theorem qoX.kids{Q d:Nat->Prop}{w:World}{g:Nat}{e:TypeId}{a:Array Value}{l:List T}(h:qoX Q w a l)(n:Blk w g e a)(j:d g)(o:∀b,Q b->d b):qaB d w (some ⟨g,0,none⟩) l:=λ k x f=>by
 let⟨cs,r,q,p⟩:=h k x f;exact⟨g,0,cs,rfl,j,r,λ i c m=>by rw[wy,n.cell];exact q i c m,p.mono o x⟩
theorem qoX.next{Q g:Nat->Prop}{w w':World}{e a:Array Value}{l:List T}(h:qoX Q w e l)(j:∀b,Q b->w'.heap[b]?=w.heap[b]?)(n:∀b,Q b->g b)(m:∀i,i<l.length*4->a[i]?=e[i]?):qoX g w' a l:=λ k x f=>by
 let⟨cs,q,p,o⟩:=h k x f;have r:=(List.getElem?_eq_some_iff.1 f).1;refine⟨cs,q,λ i c d=>?_,(o.keep j x).mono n x⟩;have s:=(List.getElem?_eq_some_iff.1 d).1;rw[m _ (by omega)];exact p i c d
end Go.GxZ
namespace Go.GxZ
open Go.RowKit
theorem qgL{P:Program}(w:World)(qS:Nat)(t ty e:TypeId)(i:TypeInfo)(z:Value)(size bytes:Nat)(F:P.underlying t=some (.slice e))(H:P.info? e=some i)(I:i.zero=some z)
  (d:i.size=size) (A:i.bytes=bytes) (s:z.cells.size=size) (x:0<size)
  (v:Value) (n:Nat) (xs:List Value) (b:w.ownsRow qS e size v n xs)
  (a:Addr) (m c:Nat) (qe:List Value) (G:qe.length=m*size) (f:∀j u,qe[j]?=some u->w.cell? (a.add j)=some u) (J:∀u∈qe,u.oneCell'=true)
  (B:n+m<=maxLen) (h:(n+m)*bytes<=140737488355328) (l:qS<=w.heap.size):
  ∃p w',(Builtin.append_ #[t,t] ty #[v,.slice (some a) m c]).run P w=.ok p w'/\w'.ownsRow qS e size p (n+m) (xs++qe)/\w.grownBy w' v.ownBlock/\
   (p.ownBlock=v.ownBlock\/∀k,p.ownBlock=some k->w.heap.size<=k):=by
 obtain⟨rfl,rfl⟩|⟨g,cap,Q,rfl,O,R,K,N,M,E⟩:=id b.2
 .have D:xs=[]:=kw.1 (by simpa using b.1);subst D;let⟨p,w',C,r,o,_⟩:=run_append_own (P:=P) w w.heap.size t ty e i z size bytes F H I d A s x (.slice none 0 0) 0 [] (World.ownsRow_nil w _ e size) a m c qe G f J B h (wa _);exact⟨p,w',C,r.mono l,o,.inr λ k y=>(r.lt k y).1⟩
 .by_cases q:n+m<=cap
  .let⟨w',C,r,o⟩:=run_append_own_spare (P:=P) w qS t ty e i size F H d g n cap xs b a m c qe G f J q;exact⟨_,w',C,r,o,.inl rfl⟩
  .let⟨p,w',C,r,o⟩:=run_append_arg_grows (P:=P) w t ty e i z size bytes F H I d A s x ⟨g,0,none⟩ n cap xs b.1 (λ j u L=>b.cells rfl j u L) a m c qe G f (by omega) B h;exact⟨p,w',C,r.mono l,⟨o.os,o.tape,o.output,o.size,λ k y _=>o.block k y (by simp)⟩,.inr λ k y=>(r.lt k y).1⟩
end Go.GxZ
namespace Go.GxZ
open Go.RowKit
theorem qmz{P:Program}(w:World)(r s ty c:TypeId)(size g o d l:Nat)(a:Addr)(b f:Nat)(e:Array Value)(t:TypeId)(cs:List Value)
  (u:P.underlying r=some (.slice c)) (p:(P.info? c).map (·.size)=some size)
  (z:w.heap[g]?=some (.cells e t (0,0))) (x:cs.length=Nat.min b d*size)
  (h:∀j v,cs[j]?=some v->w.cell? (a.add j)=some v) (k:o+cs.length<=e.size) (A:∀v∈cs,v.oneCell'=true):
  (Builtin.copy_ #[r,s] ty #[.slice (some ⟨g,o,none⟩) d l,.slice (some a) b f]).run P w=
   .ok (goInt (Nat.min b d)) (w.setRow g (e.toList.take o++cs++e.toList.drop (o+cs.length)).toArray):=by
 have q:=run_loadCells_list (P:=P) w a cs h;have m:=run_storeCells_at P g o t cs 0 e w z (by simpa using k) A;cases n:P.info? c with
 |none=>simp[n]at p
 |some i=>
   have y:i.size=size:=by simpa[n]using p
   rw[x]at q;simp[Builtin.copy_,run_underlying u,Builtin.lenOf,Builtin.firstCells,sizeOf,typeInfo,n,y,q,m]
theorem qqo{P:Program}(w:World)(t e ty:TypeId)(z:Value)(h:P.underlying t=some (.slice e))(f:∀w,(zeroValue e).run P w=.ok z w)(g o n c:Nat)(k:0<n)(a:Array Value)(tb:TypeId)
  (i:w.heap[g]?=some (.cells a tb (0,0))) (d:o+n*z.cells.size<=a.size) (j:∀v∈(Builtin.zeroCells z.cells n).toList,v.oneCell'=true):
  (Builtin.clear_ #[t] ty #[.slice (some ⟨g,o,none⟩) n c]).run P w=.ok (.tuple #[]) (w.setRow g (a.toList.take o++(Builtin.zeroCells z.cells n).toList++a.toList.drop (o+(Builtin.zeroCells z.cells n).toList.length)).toArray):=by
 have b:=run_storeCells_at P g o tb (Builtin.zeroCells z.cells n).toList 0 a w i (by simpa[Builtin.zeroCells]using d) j;obtain⟨m,rfl⟩:∃m,n=m+1:=⟨n-1,by omega⟩
 simp only[wL]at b;simp[Builtin.clear_,run_underlying h,f,b]
structure qh6 (w w':World) (g:Nat) (t:TypeId) (new:List Value):Prop where
 blk:Blk w' g t new.toArray
 other:∀k,k≠g->w'.heap[k]?=w.heap[k]?
 size:w'.heap.size=w.heap.size
 below:∀B,B<=g->∀w0,Below B w0 w->Below B w0 w'
 os:w'.os=w.os
 tape:w'.tape=w.tape
 output:w'.output=w.output
 drawn:w'.drawn=w.drawn
theorem qd7{w:World}{g:Nat}{t:TypeId}{b:Array Value}(h:Blk w g t b)(a:List Value):qh6 w (w.setRow g a.toArray) g t a:=
 ⟨setRow_heap w g b _ t _ h,λ k c=>setRow_other w g k _ c,by simp[World.setRow],λ _ e _ d=>below_setRow d e _,rfl,rfl,rfl,rfl⟩
theorem qrb{P:Program}{ops:Array Oper}{o:Oper}{a:Act}{w:World}{K:Act->World->Prop}{Q:Exit->Act->World->Prop}{E:Prop}(q:o.guard=none)(d s:Operand)(r u:TypeId)
  (C:o.op=.call {callee:=.builtin .copy,args := #[d,s],argTypes := #[r,u]}) (f:TypeId) (size:Nat) (A:P.underlying r=some (.slice f)) (p:(P.info? f).map (·.size)=some size)
  (g off e k:Nat) (ad:Addr) (c i:Nat) (F:a.eval d=.slice (some ⟨g,off,none⟩) e k) (B:a.eval s=.slice (some ad) c i)
  (b:Array Value) (t:TypeId) (y:Blk w g t b) (cs:List Value) (D:cs.length=Nat.min c e*size)
  (l:∀j v,cs[j]?=some v->w.cell? (ad.add j)=some v) (n:off+cs.length<=b.size) (G:∀v∈cs,v.oneCell'=true)
  (h:∀w',qh6 w w' g t (b.toList.take off++cs++b.toList.drop (off+cs.length))->K (a.put o.dst (goInt (Nat.min c e))) w'):
  if Region.wanted o (yielded ops a.tmps)=true then Oper.wp P o a w K Q else E:=by
 have z:Region.wanted o (yielded ops a.tmps)=true:=by simp[Region.wanted,q]
 rw[if_pos z];have m:=qmz (P:=P) w r u o.type f size g off e k ad c i b t cs A p y D l n G;unfold Oper.wp;simp[execOp,C,resolve,invoke,builtin,F,B,m,Result.andThen];have x:=h _ (qd7 y (b.toList.take off++cs++b.toList.drop (off+cs.length)));rw[wk]at x;exact x
theorem qjp(g:Nat)(t:TypeId):∀(vs:List Value) (o:Nat) (w:World) (a:Array Value),Blk w g t a->o+vs.length<=a.size->qh6 w (w.setCells g o vs) g t (a.toList.take o++vs++a.toList.drop (o+vs.length))
 |[],o,w,a,h,_=>by
   refine⟨?_,λ _ _=>rfl,rfl,λ _ _ _ h=>h,rfl,rfl,rfl,rfl⟩;simp only[wA,kC,wL,kT,xQ];exact h
 |v::r,o,w,a,h,c=>by
   have b:=qjp g t r (o+1) (w.setCell ⟨g,o,none⟩ v) (a.setIfInBounds o v) (h.set o v) (by simp at c |-;omega);have e:=list_seg_step a.toList o v r (by simp at c |-;omega);rw[World.setCells];refine⟨?_,λ k d=>(b.other k d).trans (Below.heap_setCell _ _ _ _ d),b.size.trans (by simp),λ B i w0 f=>b.below B i w0 (f.setCell i _),b.os,b.tape,b.output,b.drawn⟩;have f:=b.blk;grind
theorem qBH(k:Nat)(a xs ys:List Value)(i n:Nat)(g:a.take (n*k)=xs)(m:n*k+k<=a.length)(l:i*k<=n*k)(e:ys.length=k)(c:List Value)
  (h:c=a.take (i*k+k)++xs.drop (i*k)++a.drop (i*k+k+(xs.drop (i*k)).length)):
  c.length=a.length/\(c.take (i*k)++ys++c.drop (i*k+ys.length)).length=a.length/\(c.take (i*k)++ys++c.drop (i*k+ys.length)).take (n*k+k)=xs.take (i*k)++ys++xs.drop (i*k):=by
 generalize n*k=N at *;generalize i*k=I at *;have b:xs.length=N:=by rw[<-g,wu];omega
 have d:(xs.drop I).length=N-I:=by rw[wR,b]
 have f:c.length=a.length:=by rw[h];simp only[wd,wu,wR,b];omega
 refine⟨f,?_,?_⟩
 .grind
 .have e1:c.take I=xs.take I:=by
    grind
  have j:c.drop (I+k)=xs.drop I++a.drop (I+k+(xs.drop I).length):=by
   grind
  rw[e,e1,j,<-wk,kH (by simp only[wd,wu,e,d,b];omega),kR (by simp only[wd,wu,e,d,b];omega)]
theorem qEo(k:Nat)(a xs ys:List Value)(i n:Nat)(h:a.take (i*k)=xs.take (i*k))(c:xs.length=n*k)(l:n*k+k<=a.length)(j:i*k<=n*k)(e:ys.length=k)(b:List Value)
  (g:b=a.take (i*k)++ys++a.drop (i*k+ys.length)):
  b.length=a.length/\(b.take (i*k+k)++xs.drop (i*k)++b.drop (i*k+k+(xs.drop (i*k)).length)).length=a.length/\
   (b.take (i*k+k)++xs.drop (i*k)++b.drop (i*k+k+(xs.drop (i*k)).length)).take (n*k+k)=xs.take (i*k)++ys++xs.drop (i*k):=by
 generalize n*k=N at *;generalize i*k=I at *;have d:(xs.drop I).length=N-I:=by rw[wR,c]
 have f:b.length=a.length:=by rw[g];simp only[wd,wu,wR,e];omega
 refine⟨f,?_,?_⟩
 .grind
 .have e1:b.take (I+k)=xs.take I++ys:=by
    grind
  rw[e1,kH (by simp only[wd,wu,e,d,c];omega),kR (by simp only[wd,wu,e,d,c];omega)]
def qip(k:Nat)(w:World)(g d n:Nat)(xs:List Value)(e:Ending)(w':World):Prop:=
 ∃(c cap:Nat) (a:Array Value) (f:TypeId),e=.returned (.slice (some ⟨c,0,none⟩) n cap)/\w'.heap[c]?=some (.cells a f (0,0))/\n<=cap/\cap*k<=a.size/\a.toList.take (n*k)=xs/\
  ((c=g/\a.size=d)\/w.heap.size<=c)/\w'.os=w.os/\w'.tape=w.tape/\w'.output=w.output/\w.heap.size<=w'.heap.size/\w.drawn<=w'.drawn/\∀b,b<w.heap.size->b≠g->w'.heap[b]?=w.heap[b]?
theorem qqp{P:Program}(w:World)(tS tR e:TypeId)(ht:P.underlying tS=some (.slice e))(size:Nat)(hz:∀ w,(Go.sizeOf e).run P w = .ok size w)
  (a b:Addr) (la ca lb cb:Nat) (hne:a.block≠b.block) (tA tB:TypeId) (kA kB:Nat)
  (hsa:w.shape? a.block=some (tA,kA)) (hkA:kA≠0) (hsb:w.shape? b.block=some (tB,kB))
  (hfb:w.frozen? b=false) (hfe:w.frozen? { block:=b.block,off:=kB }=false) :
  (Extern.SlicesOverlaps.overlaps #[tS,tS] #[tR] #[.slice (some a) la ca,.slice (some b) lb cb]).run P w = .ok (.bool false) w:=by
 have hnb:(a.block != b.block)=true:=by simpa using hne
 have hnb':(a.block==b.block)=false:=by simpa using hne
 change Sem.run P (α := Value) (do
  let some t:=(#[tS,tS]:Array TypeId)[0]? | stuck "slices.overlaps: no parameter types"
  let .slice elem <- underlying t | stuck "slices.overlaps: slice type expected"
  let size <- sizeOf elem
  match(some a:Option Addr),(some b:Option Addr)with
  | some a,some b =>
    if la=0\/lb=0\/size=0 then pure (Value.bool false)
    else if a.block != b.block&&(<- frozen a)&&(<- frozen b)then unsupported .addressObserved
    else do
     if a.block != b.block then do
      noView a;noView b
      if <- mayBeOne a b then return Value.bool ((<- choose _)==1)
     pure (Value.bool (a.block==b.block&&a.off<b.off+lb*size&&b.off<a.off+la*size))
  | _,_=>pure (Value.bool false)) w=_
 by_cases h0:la=0\/lb=0\/size=0
 ·simp[run_underlying ht,hz,h0]
 ·cases kA with
  | zero=>exact absurd rfl hkA
  | succ kA =>
    cases hfa:w.frozen? a with
    | true=>simp[run_underlying ht,hz,h0,hnb,hnb',frozen,noView,viewAt,mayBeOne,stringish,shape,Sem.run,hsa,hsb,hfb,hfe,hfa]
    | false =>
      cases hfk:w.frozen? { block:=a.block,off:=kA+1 }with
      | true| false=>simp[run_underlying ht,hz,h0,hnb,hnb',frozen,noView,viewAt,mayBeOne,stringish,shape,Sem.run,hsa,hsb,hfb,hfe,hfa,hfk]
theorem qyX{w:World}{a:Addr}{u:Value}(d:a.spot=none)(h:w.cell? a=some u):∃t n,w.shape? a.block=some (t,n)/\n≠0:=by
 unfold World.cell? at h;split at h
 .rename_i c e f b;refine⟨e,c.size,by simp[World.shape?,b],λ g=>?_⟩;grind
 .cases h
end Go.GxZ
namespace Go.AmZ
open Go Go.RowKit Go.GxZ
theorem qrL{Γ b:Gh}{σ σ1:St}{w t:World}{a:Ty}{l:List (Val a)}(m:Inv Γ σ w)(L:Ext Γ w b t)(y:Inv b σ1 t)(f:σ.bx=[]){j:Nat}{Q:Row}(E:σ1.rw[j]?=some Q)(F:Q.k=a.size)(s:Q.fz=0)(g:Q.off=false)(G:qH (qm a) Q.c=some l){u:Value}(D:Rep b (.rs j 0 l.length Q.ver false) u):
  ∃n,Ext Γ w n t/\Inv n ⟨[],σ.rw.map jG++jT [.one (.row a)] (l,()),List.range σ.bx.length,List.range σ.rw.length⟩ t/\Rep n (qX (QC [.one (.row a)] σ.rw.length (l,()))) u/\
   qv {σ with wr:=[],wrr:=[]} ⟨[],σ.rw.map jG++jT [.one (.row a)] (l,()),List.range σ.bx.length,List.range σ.rw.length⟩:=by
 have r:qv {σ with wr:=[],wrr:=[]} ⟨[],σ.rw.map jG++jT [.one (.row a)] (l,()),List.range σ.bx.length,List.range σ.rw.length⟩:=
  ⟨by rw[f];exact wa _,by show σ.rw.length<=(σ.rw.map jG++_).length;rw[wd,wx];exact w7 _ _,λ i m _=>(by have m:i<σ.bx.length:=m;rw[f]at m;exact absurd m (wD _)),λ i m M=>absurd (kM.2 m) M,λ i h=>(by cases h),λ i h=>(by cases h)⟩
 let⟨A,X,W,J,I⟩:=qmC (σ0:=σ) (σ1:=σ1) m L y (by rw[f];exact wh _) [] [] (by rw[f];rfl) (by simp) kN [] [(some j,⟨a.size,l.map (qd a),0,0,false⟩)] (λ i cs h=>by cases h)
  (λ i so R h=>by
   cases i with
   |zero=>
     cases h;refine⟨rfl,rfl,wao a,λ e B=>?_,λ e B=>?_,Q,E,F,s,by rw[wx];exact qE G,λ i e U P z=>?_,(by simp),g⟩
     .obtain⟨v,_,rfl⟩:=wI.1 B;exact zj a v
     .obtain⟨v,_,rfl⟩:=wI.1 B;exact qO a v
     .let⟨v,g3,O⟩:=Qw G P;have z:(l.map (qd a))[i]?=some U:=z;rw[List.getElem?_map,g3]at z;cases z;exact qgi O
   |succ i=>cases h)
  (λ i j q R R' y N=>by
   cases i with
   |succ i=>cases y
   |zero=>cases j with
     |zero=>rfl
     |succ j=>cases N) (List.range σ.bx.length) (List.range σ.rw.length)
 refine⟨_,J,I,?_,r⟩;have H:=y.row j Q E;cases D with
 |rs _ _ _ _ _ V cap D Y C Z x=>
   have x:=x (H.ver (by rw[s];exact wh _)).symm;show Rep _ (.rs σ.rw.length 0 l.length 0 false) _;have o:¬ σ.rw.length<σ.rw.length:=xU _;have d:σ.rw.length-σ.rw.length=0:=kP _;refine .rs _ _ _ _ _ V cap (by show σ.rw.length<σ.rw.length+1;omega) (wh _) C (λ h=>by cases h) λ _=>?_
   have T:(yF b A σ.bx.length [] σ.rw.length [(some j,⟨a.size,l.map (qd a),0,0,false⟩)]).cur σ.rw.length=b.cur j:=by
    show(if σ.rw.length<σ.rw.length then _ else match[((some j:Option Nat),(⟨a.size,l.map (qd a),0,0,false⟩:Row))][σ.rw.length-σ.rw.length]? with|some (some j,_)=>b.cur j|_=>0)=_;rw[if_neg o,d];rfl
   have es:(yF b A σ.bx.length [] σ.rw.length [(some j,⟨a.size,l.map (qd a),0,0,false⟩)]).sz σ.rw.length=b.sz j:=by
    show(if σ.rw.length<σ.rw.length then 0 else match[((some j:Option Nat),(⟨a.size,l.map (qd a),0,0,false⟩:Row))][σ.rw.length-σ.rw.length]? with|some (some j,_)=>b.sz j|_=>0)=_;rw[if_neg o,d];rfl
   have S:(yF b A σ.bx.length [] σ.rw.length [(some j,⟨a.size,l.map (qd a),0,0,false⟩)]).k σ.rw.length=b.k j:=by
    show(if σ.rw.length<σ.rw.length then _ else match[((some j:Option Nat),(⟨a.size,l.map (qd a),0,0,false⟩:Row))][σ.rw.length-σ.rw.length]? with|some p=>p.2.k|none=>1)=_;rw[if_neg o,d,<-H.k,F];rfl
   rw[T,es,S];rw[H.off g]at x;exact x
theorem qEn{Γ g:Gh}{σ σ1:St}{w k:World}{a:Ty}(c:Inv Γ σ w)(s:Ext Γ w g k)(m:Inv g σ1 k)(b:σ.bx=[])(p:Option Addr):
  ∃d,Ext Γ w d k/\Inv d ⟨[],σ.rw.map jG++jT [.one (.row a)] (([]:List (Val a)),()),List.range σ.bx.length,List.range σ.rw.length⟩ k/\Rep d (qX (QC [.one (.row a)] σ.rw.length (([]:List (Val a)),()))) (.slice p 0 0)/\
   qv {σ with wr:=[],wrr:=[]} ⟨[],σ.rw.map jG++jT [.one (.row a)] (([]:List (Val a)),()),List.range σ.bx.length,List.range σ.rw.length⟩:=by
 have f:qv {σ with wr:=[],wrr:=[]} ⟨[],σ.rw.map jG++jT [.one (.row a)] (([]:List (Val a)),()),List.range σ.bx.length,List.range σ.rw.length⟩:=
  ⟨by rw[b];exact wa _,by show σ.rw.length<=(σ.rw.map jG++_).length;rw[wd,wx];exact w7 _ _,λ i c _=>(by have c:i<σ.bx.length:=c;rw[b]at c;exact absurd c (wD _)),λ i c t=>absurd (kM.2 c) t,λ i h=>(by cases h),λ i h=>(by cases h)⟩
 let⟨x,v,u,o,n⟩:=qmC (σ0:=σ) (σ1:=σ1) c s m (by rw[b];exact wh _) [] [] (by rw[b];rfl) (by simp) kN [] [(none,⟨a.size,[],0,0,false⟩)] (λ i cs h=>by cases h)
  (λ i so R h=>by
   cases i with
   |zero=>cases h;exact⟨rfl,rfl,wao a,(by intro e l;cases l),(by intro e l;cases l),rfl⟩
   |succ i=>cases h)
  (λ i j q R R' m y=>by cases i<;>cases m) (List.range σ.bx.length) (List.range σ.rw.length)
 refine⟨_,o,n,?_,f⟩;show Rep _ (.rs σ.rw.length 0 0 0 false) _;exact .rs _ _ _ _ _ p 0 (by show σ.rw.length<σ.rw.length+1;omega) (wh _) (wa _) (λ h=>by cases h) λ _=>⟨.inl rfl,by rw[wL,ko];exact wh _⟩
def zM(Γ:Gh)(k:Nat)(c:List (List AV))(xs:List Value):Prop:=∀(i:Nat) (e:List AV) (j:Nat) (x:AV),c[i]?=some e->e[j]?=some x->∃u,xs[i*k+j]?=some u/\Rep Γ x u/\u.oneCell'=true
theorem zM.take{Γ : Gh}{k:Nat}{c:List (List AV)}{xs:List Value}(h:zM Γ k c xs)(hk:∀ e∈c,e.length=k)(n:Nat):zM Γ k (c.take n) (xs.take (n*k)):=by
 intro i e j x h1 h2;rw[List.getElem?_take]at h1;split at h1
 case isFalse=>cases h1
 rename_i hin;obtain⟨u,u1,u2⟩:=h i e j x h1 h2;refine⟨u,?_,u2⟩;have hj:j<k:=by have:=getElem?_lt h2;rwa [hk e (wc h1)]at this
 have:(i+1)*k<=n*k:=wm _ hin;grind
theorem zM.drop{Γ:Gh}{k:Nat}{c:List (List AV)}{xs:List Value}(h:zM Γ k c xs)(n:Nat):zM Γ k (c.drop n) (xs.drop (n*k)):=by
 intro i e j x a b;rw[List.getElem?_drop]at a;let⟨u,u1,u2⟩:=h _ e j x a b;grind
theorem zM.app{Γ:Gh}{k:Nat}{c a:List (List AV)}{xs ys:List Value}(h:zM Γ k c xs)(f:zM Γ k a ys)(b:xs.length=c.length*k)(d:∀e∈c,e.length=k):zM Γ k (c++a) (xs++ys):=qmg b d h f
theorem qfW{P:Program}{f:FuncId}{Γ:Gh}{σ:St}{w:World}{d:List Value}{a:Ty}{R:Row}{l:List (Val a)}{c:List (List AV)}{xs:List Value}{n:Nat}(r:Inv Γ σ w)(M:σ.bx=[])(t:σ.rw[0]?=some R)(y:R.k=a.size)(A:R.fz=0)(m:R.off=false)(F:Γ.sz 0≠0)(hn:n=l.length)
  (p:qH (qm a) c=some l) (v:∀e∈c,e.length=a.size) (G:∀e∈c,∀x∈e,qk x=true) (hx:zM Γ a.size c xs)
  (h:Calls P f d.toArray w (qip a.size w (Γ.cur 0) (Γ.sz 0) n xs)):
  jW P Γ σ w f d (qX (QC [.one (.row a)] σ.rw.length (l,())),some ⟨[],σ.rw.map jG++jT [.one (.row a)] (l,()),List.range σ.bx.length,List.range σ.rw.length⟩):=by
 subst hn;refine Calls.mono h ?_;rintro e w' ⟨g,cap,S,et,rfl,h1,U,T,h4,C,h6,h7,h8,h9,O,D⟩;have H:=r.row 0 R t;have B:c.length=l.length:=qE p;have s:∀off,Γ.mem (Γ.cur 0) off=none:=λ off=>H.un F off (by rw[A,ko,H.off m];exact wh _)
 let⟨W,e1,i1,r1⟩:=qpk (w':=w') r t (H.off m) (R':=⟨R.k,c,R.ver+1,0,false⟩) (by rw[A];exact wh _) rfl (g:=g) (vs:=S) (e:=et) (.inl rfl) (λ e L=>(v e L).trans y.symm) G (wh _) (qt9 _) (λ _=>rfl) h1
  (by show c.length*R.k<=_;rw[B,y];exact wC (wm _ U) T)
  (λ off _=>by
   obtain⟨rfl,_⟩|C:=C
   .exact s off
   .cases q:Γ.mem g off with
    |none=>rfl
    |some u=>have:=r.mem_lt q;omega)
  (λ i e j x Q V=>by
   let⟨u,u1,u2⟩:=hx i e j x Q V;refine⟨u,?_,u2⟩;rw[y,<-Array.getElem?_toList]
   have J:i*a.size+j<l.length*a.size:=by
    have K:i<l.length:=by have:=getElem?_lt Q;rwa [<-B]
    have hj:j<a.size:=by have:=getElem?_lt V;rwa [v e (wc Q)]at this
    have:(i+1)*a.size<=l.length*a.size:=wm _ K;rw[kL]at this;omega
   rw[<-h4,List.getElem?_take,if_pos J]at u1;exact u1)
  (λ b o u q=>by
   have N:b≠Γ.cur 0:=λ L=>by rw[L,s]at q;cases q
   rw[show w'.cell? _=w.cell? _ from World.cell?_of_block (D b (r.mem_lt q) N)];exact(r.mem b o u q).1)
  (λ b N I=>D b N (I.elim id λ h0=>absurd h0 F))
  (by
   obtain⟨rfl,_⟩|C:=C
   .exact .inl ⟨rfl,F⟩
   .exact .inr C) h6 h7 h8 h9 O σ.wrr
 have z:({σ with rw:=σ.rw.set 0 ⟨R.k,c,R.ver+1,0,false⟩,wrr:=σ.wrr}:St).rw[0]?=some ⟨R.k,c,R.ver+1,0,false⟩:=by
  grind
 let⟨E,z1,Z,Y,X⟩:=qrL (l:=l) r e1 i1 M z y rfl rfl p (r1 l.length cap U (by rw[y];exact T));exact⟨_,E,rfl,z1,Z,Y,X⟩
theorem qs6{Γ:Gh}{σ:St}{w:World}(f:Inv Γ σ w){R:Row}{r:Nat}(a:σ.rw[r]?=some R)(b:R.off=false)(n:Γ.sz r≠0){m:TypeId}{d:Array Value}(g:w.heap[Γ.cur r]?=some (.cells d m (0,0)))(i:Nat)(e:List AV)(j:Nat)(x:AV)(l:R.c[i]?=some e)(h:e[j]?=some x):
  ∃u,d[i*R.k+j]?=some u/\Rep Γ x u/\u.oneCell'=true:=by
 let⟨u,u1,u2⟩:=(f.row r R a).cells i e j x l h;refine⟨u,?_,u2⟩;rw[(f.row r R a).off b,wy]at u1;simpa[World.cell?,g]using u1
theorem qw8{cs:List (List AV)}{k:Nat}{xs:List Value}(m:∀e∈cs,e.length=k)(c:0<k)(l:xs.length=cs.length*k)
  (h:∀(i:Nat) (e:List AV) (j:Nat) (x:AV),cs[i]?=some e->e[j]?=some x->∃u,xs[i*k+j]?=some u/\u.oneCell'=true):∀u∈xs,u.oneCell'=true:=by
 intro u d;let⟨q,f⟩:=List.getElem?_of_mem d;have b:=getElem?_lt f;rw[l]at b;have a:q/k<cs.length:=(xL c).2 b;have g:q%k<k:=xP _ c;have n:=m _ (wQ a);let⟨o,r,p⟩:=h (q/k) _ (q%k) _ (List.getElem?_eq_getElem a) (List.getElem?_eq_getElem (by rw[n];exact g));grind [Nat.mul_comm,Nat.div_add_mod]
theorem qjj{σ:St}{τ:Ty}{r:List SA}{nb c:Nat}{ys:List AV}{a:jt (.val τ::r)}(h:dS σ (.val τ::r) nb c ys=some a):∃y b,ys=y::b/\yW τ y=some a.1/\dS σ r nb c b=some a.2:=by
 cases ys with
 |nil=>simp[dS]at h
 |cons y ys=>
   grind [dS]
theorem qqD{σ:St}{τ:Ty}{r:List SA}{nb d:Nat}{ys:List AV}{a:jt (.row τ::r)}(h:dS σ (.row τ::r) nb d ys=some a):∃y b c,ys=y::b/\qaX σ τ d y=some (a.1,c)/\dS σ r nb c b=some a.2:=by
 cases ys with
 |nil=>simp[dS]at h
 |cons y ys=>
   grind [dS]
theorem qgV{σ:St}{nb b:Nat}{ys:List AV}{a:jt []}(h:dS σ [] nb b ys=some a):ys=[]/\nb=σ.bx.length/\b=σ.rw.length:=by
 grind [dS]
theorem qd8{σ:St}{τ:Ty}{y:AV}{l:List (Val τ)}{a:Nat}(h:qaX σ τ 0 y=some (l,a)):
  (a=1/\∃R,y=.rs 0 0 R.c.length R.ver false/\σ.rw[0]?=some R/\R.k=τ.size/\(R.fz=0/\R.off=false)/\qH (qm τ) R.c=some l)\/(a=0/\l=[]/\(y=.v (.slice none 0 0)\/∃f,y=.sl τ.size [] f/\2<=f)):=by
 unfold qaX at h;split at h
 .grind
 .split at h<;>cases h;rename_i e b;refine .inr ⟨rfl,rfl,?_⟩;have b:=of_decide_eq_true b;obtain⟨rfl,_⟩|⟨es,n,rfl,d⟩:=zN e
  .exact .inl rfl
  .have:es=[]:=we (qE d);subst this;exact .inr ⟨_,rfl,b⟩
theorem qgh{Γ:Gh}{τ:Ty}{y:AV}{v:Val τ}{u:Value}(h:yW τ y=some v)(a:Rep Γ y u):Rep Γ (zK τ v) u:=qmZ h _ _ a
theorem qqt{a:Ty}(l:List (Val a)):dlist a (.sl a.size (l.map (qd a)) 1)=some l:=by
 show yd a.size (qm a) _=some l;grind [yd,qJ,decide_eq_true,JJ,yK]
structure qiX (P:Program) (a:Ty) (tS tE:TypeId) (bytes:Nat):Prop where
 td:∃q1 q2 q3 q4 z,zJ P tS=some ⟨q1,q2,q3,q4,.slice tE a.size bytes z⟩/\z.length=a.size
def qAO(t:TypeId)(d:TD):Cfg:=⟨λ a=>if a=t then some d else none,λ _=>none,λ _=>none,λ _=>false,λ _=>[],λ _=>false,λ _=>none⟩
theorem qli{P:Program}{a:Ty}{b g:TypeId}{bytes:Nat}(q:qiX P a b g bytes){Γ:Gh}{σ:St}{w:World}(p:Inv Γ σ w){s:AV}{i c:Value}{es:List (List AV)}{f:Nat}(o:Rep Γ s i)(n:Rep Γ (.sl a.size es f) c)(B:∀e∈es,e.length=a.size)(A:∀e∈es,∀x∈e,qk x=true){x:AV}{σ':Option St}(h:zh a.size bytes σ s es=some (x,σ'))(ty:TypeId):
  ∃v w' Γ',(Builtin.append_ #[b,b] ty #[i,c]).run P w=.ok v w'/\Ext Γ w Γ' w'/\Inv Γ' (turn σ σ') w'/\Rep Γ' x v:=by
 let⟨m,l,k,j,z,D,r⟩:=q.td;refine qta (C:=qAO b ⟨m,l,k,j,.slice g a.size bytes z⟩) (λ t d y=>?_) p o n (t:=b) (u:=b) rfl rfl (if_pos rfl) (if_pos rfl) (wao a) r (xs:=es) ?_ ?_ h
 .grind [qAO]
 .grind [elems,qJ]
 .grind [uni]
theorem qvk(b o j:Nat):(⟨b,o,none⟩:Addr).add j=⟨b,o+j,none⟩:=by unfold Addr.add;split<;>simp_all
theorem qCz{P:Program}{N:FuncId}{a:Ty}{tS tE:TypeId}{bytes:Nat}(hf:qc6 P N)(hT:qiX P a tS tE bytes)(hb:bytes<=2^24)
  (W:∀(w:World) (p:Option Addr) (n c:Nat) (ad:Addr) (E:Nat) (T:Value) (w':World),n<=100000->(Builtin.append_ #[tS,tS] tS #[.slice p n c,.slice (some ad) 1 E]).run P w=.ok T w'->Calls P N #[.slice p n c,.int .i64 n,.slice (some ad) 1 E] w λ e w1=>e=.returned T/\w1=w')
  (ac:∀(w:World) (g n c i:Nat) (et:TypeId) (s:Array Value) (xs:List Value),Blk w g et s->c*a.size<=s.size->s.toList.take (n*a.size)=xs->(∀u∈xs,u.oneCell'=true)->∀(L C E:Nat) (ys:List Value),ys.length=a.size->(∀j u,ys[j]?=some u->w.cell? ⟨L,C+j,none⟩=some u)->(∀u∈ys,u.oneCell'=true)->L≠g->n<=100000->i<n->n+1<=c->
   Calls P N #[.slice (some ⟨g,0,none⟩) n c,.int .i64 i,.slice (some ⟨L,C,none⟩) 1 E] w (qip a.size w g s.size (n+1) (xs.take (i*a.size)++ys++xs.drop (i*a.size))))
  (ah:∀(w:World) (g n i:Nat) (et:TypeId) (s:Array Value) (xs:List Value),Blk w g et s->n*a.size<=s.size->s.toList.take (n*a.size)=xs->(∀u∈xs,u.oneCell'=true)->∀(L C E:Nat) (ys:List Value),ys.length=a.size->(∀j u,ys[j]?=some u->w.cell? ⟨L,C+j,none⟩=some u)->(∀u∈ys,u.oneCell'=true)->n<=100000->i<n->
   Calls P N #[.slice (some ⟨g,0,none⟩) n n,.int .i64 i,.slice (some ⟨L,C,none⟩) 1 E] w (qip a.size w g s.size (n+1) (xs.take (i*a.size)++ys++xs.drop (i*a.size))))
  {fn:List (Val a)->Int->List (Val a)->Option (Unit×List (Val a)×Unit)} (aS:∀l i v r,fn l i v=some r->(∃e,v=[e])/\0<=i/\i<=l.length/\l.length<=100000/\r=((),l.take i.toNat++(v++l.drop i.toNat),())) (ar:a.size≠1:=by first|assumption|decide):
  qw P N (sgP ⟨[.row a,.val (.int .i64),.val (.list a)],[.one (.row a)],λ x=>fn x.1 x.2.1 x.2.2.1⟩):=by
 refine⟨hf,λ Γ σ w a0 aY r V hr hp=>?_⟩;unfold sgP at hp;split at hp<;>try cases hp
 rename_i x Z;split at hp<;>cases hp;rename_i v0 aG;let⟨l,i,v,_⟩:=x;obtain⟨⟨e,rfl⟩,ag,af,hl,rfl⟩:=aS _ _ _ _ aG;obtain⟨i,rfl⟩:=vg ag;have af:i<=l.length:=Int.ofNat_le.1 af;have hl:l.length<=100000:=hl;obtain⟨y0,a3,nr,rfl,aF,Z⟩:=qqD Z;obtain⟨y1,a2,rfl,aE,Z⟩:=qjj Z;obtain⟨y2,a1,rfl,aD,Z⟩:=qjj Z;obtain⟨rfl,aV,a4⟩:=qgV Z;obtain⟨u0,r0,rfl,M,hr⟩:=hr.uncons;obtain⟨u1,r1,rfl,ab,hr⟩:=hr.uncons;obtain⟨u2,r2,rfl,aH,hr⟩:=hr.uncons;have:=hr.nil_inv;subst this;have ab:=qK (qgh aE ab);subst ab;have ak:σ.bx=[]:=we aV.symm;have hL:Rep Γ (.sl a.size ([e].map (qd a)) 1) u2:=qgh aD aH;obtain⟨p2,n2,E,rfl,a5,hC⟩:=qvx V (qqt [e]) hL;have aq:n2=1:=by rw[<-hC.len];rfl
 subst aq;obtain aX|⟨b2,C,rfl,az⟩:=hC.at_
 .cases aX
 let⟨ys,aB,aA,y3,y4⟩:=qeh (Γ:=Γ) (wao a) hC.size az;have F:ys.length=a.size:=by rw[aB];exact xl _
 have I:qJ (QU [qd a e]) 0=false:=rfl;have ay:∀(b o j:Nat),(⟨b,o,none⟩:Addr).add j=⟨b,o+j,none⟩:=qvk;have B:∀j u,ys[j]?=some u->w.cell? ⟨b2,C+j,none⟩=some u:=λ j u hj=>by rw[<-ay];exact aA j u hj
 have aI:(1:Nat)*bytes<=2^47:=by omega
 have Q:∀q∈[qd a e],q.length=a.size:=by intro q d;rw[wF.1 d];exact zj a e
 have ae:∀q∈[qd a e],∀x∈q,qk x=true:=by intro q d;rw[wF.1 d];exact qO a e
 obtain⟨aN,R,rfl,hR,y,m,S⟩|⟨aN,aP,hy⟩:=qd8 aF
 .have H:=V.row 0 R hR;have aU:R.c.length=l.length:=qE S;cases M with
  |rs _ _ _ _ _ p cap aL aK am aJ al=>
  let⟨ao,A⟩:=al (H.ver (by rw[m.1];exact wh _)).symm;rw[H.off m.2,wy]at ao A;by_cases aQ:i=l.length
  .-- at the end
   have t:zh a.size bytes σ (.rs 0 0 R.c.length R.ver false) [qd a e]=some (.rs 0 0 (R.c.length+1) (R.ver+1) false,some {σ with rw:=σ.rw.set 0 {R with c:=R.c++[qd a e],ver:=R.ver+1},wrr:=0::σ.wrr}):=by
    have ai:R.k=a.size/\R.ver=R.ver/\R.c.length=R.c.length/\(0:Nat)=0/\false=false/\R.fz<=R.c.length/\(R.c.length+[qd a e].length)*bytes<=2^47/\R.c.length+[qd a e].length<2^62:=by
     refine⟨y,rfl,rfl,rfl,rfl,by rw[m.1];exact wh _,?_,?_⟩
     .have:(R.c.length+1)*bytes<=100001*2^24:=Nat.mul_le_mul (by omega) hb;show(R.c.length+1)*bytes<=_;omega
     .show R.c.length+1<_;omega
    have aW:qm0 R a.size 0 R.c.length R.ver false bytes [qd a e]=some ({R with c:=R.c++[qd a e],ver:=R.ver+1},R.c.length+1):=if_pos ai;simp only[zh,I,hR,aW]
   let⟨T,w',Γ',g1,L,g3,g4⟩:=qli hT V (.rs 0 0 _ _ _ p cap aL aK am aJ al) hL Q ae t tS;have K:=W w p R.c.length cap ⟨b2,C,none⟩ E T w' (by omega) g1;rw[show((R.c.length:Nat):Int)=((i:Nat):Int) by omega]at K;refine Calls.mono K ?_;rintro e1 w1 ⟨rfl,rfl⟩
   have J:(turn σ (some {σ with rw:=σ.rw.set 0 {R with c:=R.c++[qd a e],ver:=R.ver+1},wrr:=0::σ.wrr})).rw[0]?=some {R with c:=R.c++[qd a e],ver:=R.ver+1}:=by
    show(σ.rw.set 0 _)[0]?=_;rw[List.getElem?_set_self (getElem?_lt hR)]
   have hd:qH (qm a) (R.c++[qd a e])=some (l++[e]):=QA S (JJ (λ v=>yK a v) [e])
   have z:l.take ((i:Nat):Int).toNat++([e]++l.drop ((i:Nat):Int).toNat)=l++[e]:=by
    rw[xu,aQ,xD,km,wA]
   let⟨X,z1,z2,z3,z4⟩:=qrL (l:=l++[e]) V L g3 ak J y m.1 m.2 hd (u:=T) (by rw[wd,<-aU];exact g4);rw[z];exact⟨_,X,rfl,z1,z2,z3,z4⟩
  .-- within
   have an:cap≠0:=by omega
   have aM:p=some ⟨Γ.cur 0,0,none⟩:=by
    obtain h|h:=ao
    .exact absurd h an
    .rw[h,ko]
   subst aM;have au:=wao a;have a7:1*a.size<=cap*a.size:=wm _ (by omega);rw[<-H.k,y,wy]at A;have hz:Γ.sz 0≠0:=by omega
   let⟨vs,et,frz,aa,G,aZ,aw⟩:=H.blk hz;obtain rfl:frz=(0,0):=aw (by rw[y];exact ar)
   have aj:zM Γ a.size R.c (vs.toList.take (R.c.length*a.size)):=by
    have hh:zM Γ a.size R.c vs.toList:=λ q e j x q1 q2=>by
     let⟨u,u1,u2⟩:=qs6 V hR m.2 hz aa q e j x q1 q2;rw[y]at u1;exact⟨u,by rw[Array.getElem?_toList];exact u1,u2⟩
    have:=hh.take (λ e he=>(H.len e he).trans y) R.c.length
    rwa [xD]at this
   have D:∀e∈R.c,e.length=a.size:=λ e he=>(H.len e he).trans y;have ap:R.c.length*a.size<=vs.size:=by rw[G];exact wC (wm _ am) A
   have Y:(vs.toList.take (R.c.length*a.size)).length=R.c.length*a.size:=by rw[wu,wK];exact kh ap
   have h1:=qw8 D au Y (λ q e j x q1 q2=>by let⟨u,u1,u2,u3⟩:=aj q e j x q1 q2;exact⟨u,u1,u3⟩)
   have aO:b2≠Γ.cur 0:=by
    intro he;have hj:=az;cases hL with
    |sl _ _ _ _ _ _ b o us s1 s2 s3 s4 s5 s6 s7 s8 s9=>
      obtain s7|s7:=s7
      .cases s7
      .cases s7;have aT:=zj a e;have hm:=s8 0 (qd a e) 0 _ rfl (List.getElem?_eq_getElem (by rw[aT];exact au));have:=H.un hz (C+0*a.size+0) (by rw[m.1,ko,H.off m.2];exact wh _);rw[he,this]at hm;cases hm
   have aR:Calls P N #[.slice (some ⟨Γ.cur 0,0,none⟩) R.c.length cap,.int .i64 i,.slice (some ⟨b2,C,none⟩) 1 E] w (qip a.size w (Γ.cur 0) (Γ.sz 0) (R.c.length+1) ((vs.toList.take (R.c.length*a.size)).take (i*a.size)++ys++(vs.toList.take (R.c.length*a.size)).drop (i*a.size))):=by
    rw[<-G];by_cases O:R.c.length+1<=cap
    .exact ac w (Γ.cur 0) R.c.length cap i et vs _ aa (by rw[G];exact A) rfl h1 b2 C E ys F B y3 aO (by omega) (by omega) O
    .obtain rfl:cap=R.c.length:=by omega
     exact ah w (Γ.cur 0) R.c.length i et vs _ aa ap rfl h1 b2 C E ys F B y3 (by omega) (by omega)
   have av:i*a.size<=R.c.length*a.size:=wm _ (by omega);have ax:qH (qm a) (R.c.take i++[qd a e]++R.c.drop i)=some (l.take i++[e]++l.drop i):=QA (QA (qd1 i S) (JJ (λ v=>yK a v) [e])) (qb4 i S);have z:l.take ((i:Nat):Int).toNat++([e]++l.drop ((i:Nat):Int).toNat)=l.take i++[e]++l.drop i:=by rw[xu,wk]
   rw[z];refine qfW V ak hR y m.1 m.2 hz (n:=R.c.length+1) ?_ ax (λ q d=>?_) (λ q d=>?_) ?_ aR
   .simp only[wd,wu,wR,vX];omega
   .obtain d|d:=wi.1 d
    .obtain d|d:=wi.1 d
     .exact D q (wT d)
     .exact Q q d
    .exact D q (wO d)
   .obtain d|d:=wi.1 d
    .obtain d|d:=wi.1 d
     .exact H.plain q (wT d)
     .exact ae q d
    .exact H.plain q (wO d)
   .have aC:zM Γ a.size [qd a e] ys:=y4;have ht:=aj.take D i;have hd:=aj.drop i;refine zM.app (zM.app ht aC ?_ λ q d=>D q (wT d)) hd ?_ ?_
    .rw[wu,Y,wu,kh av,kh (by omega)]
    .rw[wd,wd,wu,Y,wu,kh av,kh (by omega),F,vX,kL]
    .intro q d;obtain d|d:=wi.1 d
     .exact D q (wT d)
     .exact Q q d
 .-- nothing was there
  subst aP;have ag:i=0:=by simpa using af
  subst ag;have U:rowNew a.size bytes [qd a e]=some (⟨a.size,[qd a e],0,0,false⟩,1):=if_pos ⟨aI,by show(1:Nat)<_;omega⟩
  have t:zh a.size bytes σ y0 [qd a e]=some (.rs σ.rw.length 0 1 0 false,some {σ with rw:=σ.rw++[⟨a.size,[qd a e],0,0,false⟩]})/\∃p,u0=.slice p 0 0:=by
   obtain rfl|⟨f,rfl,a6⟩:=hy
   .refine⟨?_,none,qK M⟩;simp only[zh,I,U]
   .refine⟨?_,?_⟩
    .have e1:(decide (1<f)&&qJ a.size a.size&&uni a.size [])=true:=by
       rw[decide_eq_true (show 1<f by omega),show qJ a.size a.size=true from decide_eq_true rfl];rfl
     simp only[zh,I,e1,show qg6 [] [qd a e]=[qd a e]from rfl,U]
    .cases M with
     |sl _ _ _ p n cap b o us s1 s2 s3=>
       have h1:n=0:=by simpa using s1
       have h2:=s3 (by omega);subst h1;subst h2;exact⟨p,rfl⟩
  obtain⟨t,p,rfl⟩:=t;let⟨T,w',Γ',g1,L,g3,g4⟩:=qli hT V M hL Q ae t tS;refine Calls.mono (W w p 0 0 ⟨b2,C,none⟩ E T w' (by omega) g1) ?_;rintro e1 w1 ⟨rfl,rfl⟩
  have J:(turn σ (some {σ with rw:=σ.rw++[⟨a.size,[qd a e],0,0,false⟩]})).rw[σ.rw.length]?=some ⟨a.size,[qd a e],0,0,false⟩:=by
   show(σ.rw++_)[σ.rw.length]?=_;rw[List.getElem?_append_right (wa _)];simp
  let⟨X,z1,z2,z3,z4⟩:=qrL (l:=[e]) V L g3 ak J rfl rfl rfl (JJ (λ v=>yK a v) [e]) (u:=T) g4;exact⟨_,X,rfl,z1,z2,z3,z4⟩
theorem qrq{Γ:Gh}{σ:St}{w:World}(K:Inv Γ σ w){a:Ty}{R:Row}(L:σ.rw[0]?=some R)(f:R.k=a.size)(i:R.fz=0/\R.off=false){u0:Value}(A:Rep Γ (.rs 0 0 R.c.length R.ver false) u0)(r:a.size≠1:=by first|assumption|decide):
  ∃p cap,u0=.slice p R.c.length cap/\R.c.length<=cap/\(cap=0\/p=some ⟨Γ.cur 0,0,none⟩/\Γ.sz 0≠0/\∃vs I,Blk w (Γ.cur 0) I vs/\vs.size=Γ.sz 0/\cap*a.size<=vs.size/\zM Γ a.size R.c (vs.toList.take (R.c.length*a.size))/\(vs.toList.take (R.c.length*a.size)).length=R.c.length*a.size/\(∀u∈vs.toList.take (R.c.length*a.size),u.oneCell'=true)):=by
 have H:=K.row 0 R L;cases A with
 |rs _ _ _ _ _ p cap O N n M B=>
 let⟨o,b⟩:=B (H.ver (by rw[i.1];exact wh _)).symm;rw[H.off i.2,wy]at o b;refine⟨p,cap,rfl,n,?_⟩;by_cases g:cap=0
 .exact .inl g
 right
 have C:p=some ⟨Γ.cur 0,0,none⟩:=by
  obtain h|h:=o
  .exact absurd h g
  .rw[h,ko]
 subst C;have F:=wao a;have Q:1*a.size<=cap*a.size:=wm _ (by omega);rw[<-H.k,f,wy]at b;have z:Γ.sz 0≠0:=by omega
 let⟨vs,I,frz,m,d,J,s⟩:=H.blk z;obtain rfl:frz=(0,0):=s (by rw[f];exact r)
 have t:zM Γ a.size R.c (vs.toList.take (R.c.length*a.size)):=by
  have P:zM Γ a.size R.c vs.toList:=λ q e j x y v=>by
   let⟨u,u1,u2⟩:=qs6 K L i.2 z m q e j x y v;rw[f]at u1;exact⟨u,by rw[Array.getElem?_toList];exact u1,u2⟩
  have:=P.take (λ e G=>(H.len e G).trans f) R.c.length
  rwa [xD]at this
 have E:∀e∈R.c,e.length=a.size:=λ e G=>(H.len e G).trans f;have D:R.c.length*a.size<=vs.size:=by rw[d];exact wC (wm _ n) b
 have l:(vs.toList.take (R.c.length*a.size)).length=R.c.length*a.size:=by rw[wu,wK];exact kh D
 have S:=qw8 E F l (λ q e j x y v=>by let⟨u,u1,u2,u3⟩:=t q e j x y v;exact⟨u,u1,u3⟩);exact⟨rfl,z,vs,I,m,d,by rw[d];exact b,t,l,S⟩
theorem qDe{P:Program}{N:FuncId}{a:Ty}(hf:qc6 P N)
  (G:∀(w:World) (g m c i:Nat) (et:TypeId) (f:Array Value) (xs:List Value),Blk w g et f->c*a.size<=f.size->f.toList.take ((m+1)*a.size)=xs->(∀u∈xs,u.oneCell'=true)->m<=100000->i<=m->m+1<=c->
   Calls P N #[.slice (some ⟨g,0,none⟩) (m+1) c,.int .i64 i,.int .i64 ((i:Int)+1)] w (qip a.size w g f.size m (xs.take (i*a.size)++xs.drop ((i+1)*a.size))))
  {fn:List (Val a)->Int->Int->Option (Unit×List (Val a)×Unit)} (Z:∀l i j r,fn l i j=some r->j=i+1/\0<=i/\i<l.length/\l.length<=100000/\r=((),l.take i.toNat++l.drop (i.toNat+1),())) (ad:a.size≠1:=by first|assumption|decide):
  qw P N (sgP ⟨[.row a,.val (.int .i64),.val (.int .i64)],[.one (.row a)],λ x=>fn x.1 x.2.1 x.2.2.1⟩):=by
 refine⟨hf,λ Γ σ w af ac r Y t D=>?_⟩;unfold sgP at D;split at D<;>try cases D
 rename_i x k;split at D<;>cases D;rename_i v0 S;let⟨l,i,j,_⟩:=x;obtain⟨V,X,y,hl,rfl⟩:=Z _ _ _ _ S;have V:j=i+1:=V;subst V;obtain⟨i,rfl⟩:=vg X;have y:i<l.length:=Int.ofNat_lt.1 y;have hl:l.length<=100000:=hl;obtain⟨y0,ai,nr,rfl,M,k⟩:=qqD k;obtain⟨y1,ah,rfl,L,k⟩:=qjj k;obtain⟨y2,ag,rfl,K,k⟩:=qjj k;obtain⟨rfl,aa,aj⟩:=qgV k;obtain⟨u0,r0,rfl,T,t⟩:=t.uncons;obtain⟨u1,r1,rfl,s,t⟩:=t.uncons;obtain⟨u2,r2,rfl,o,t⟩:=t.uncons;have:=t.nil_inv;subst this;have s:=qK (qgh L s);subst s;have o:=qK (qgh K o);subst o;have ab:σ.bx=[]:=we aa.symm;obtain⟨U,R,rfl,hR,z,A,B⟩|⟨U,v,hy⟩:=qd8 M
 .have H:=Y.row 0 R hR;have ak:R.c.length=l.length:=qE B;have d:∀e∈R.c,e.length=a.size:=λ e he=>(H.len e he).trans z;obtain⟨p,cap,rfl,ae,h|⟨rfl,hz,vs,et,Q,C,F,J,O,h1⟩⟩:=qrq Y hR z A T
  .omega
  .obtain⟨m,hm⟩:∃m,R.c.length=m+1:=⟨R.c.length-1,by omega⟩
   have W:(i+1)*a.size<=R.c.length*a.size:=wm _ (by omega);have E:=G w (Γ.cur 0) m cap i et vs _ Q F (by rw[<-hm]) h1 (by omega) (by omega) (by omega);rw[<-hm,C]at E
   have I:qH (qm a) (R.c.take i++R.c.drop (i+1))=some (l.take ((i:Nat):Int).toNat++l.drop (((i:Nat):Int).toNat+1)):=by
    rw[xu];exact QA (qd1 i B) (qb4 (i+1) B)
   refine qfW Y ab hR z A.1 A.2 hz (n:=m) ?_ I (λ q b=>?_) (λ q b=>?_) ?_ E
   .rw[xu];simp only[wd,wu,wR];omega
   .obtain b|b:=wi.1 b
    .exact d q (wT b)
    .exact d q (wO b)
   .obtain b|b:=wi.1 b
    .exact H.plain q (wT b)
    .exact H.plain q (wO b)
   .refine zM.app (J.take d i) (J.drop (i+1)) ?_ λ q b=>d q (wT b);rw[kL]at W;rw[wu,O,wu,kh (by omega),kh (by omega)]
 .have v:l=[]:=v;subst v;exact absurd y (wD _)
theorem qq8{P:Program}{N:FuncId}{a:Ty}(U:qc6 P N){most:Nat}
  (k:∀(w:World) (p:Option Addr) (n c:Nat) (xs:List Value),xs.length=n*a.size->(n=0\/∃ad,p=some ad/\∀j u,xs[j]?=some u->w.cell? (ad.add j)=some u)->(∀u∈xs,u.oneCell'=true)->n<=most->Calls P N #[.slice p n c] w λ e w'=>∃v,e=.returned v/\Fresh w a.size n xs v w')
  {fn:List (Val a)->Option (Unit×List (Val a)×Unit)} (F:∀l r,fn l=some r->l.length<=most/\r=((),l,())):
  qw P N (sgP ⟨[.val (.list a)],[.one (.row a)],λ x=>fn x.1⟩):=by
 refine⟨U,λ Γ σ w L J r E C g=>?_⟩;unfold sgP at g;split at g<;>try cases g
 rename_i x y;split at g<;>cases g;rename_i X z;let⟨l,_⟩:=x;obtain⟨s,rfl⟩:=F _ _ z;have s:l.length<=most:=s;obtain⟨W,M,rfl,t,y⟩:=qjj y;obtain⟨rfl,G,B⟩:=qgV y;obtain⟨u0,Y,rfl,A,C⟩:=C.uncons;have:=C.nil_inv;subst this;have m:σ.bx=[]:=we G.symm;have d:σ.rw=[]:=we B.symm;have V:Rep Γ (.sl a.size (l.map (qd a)) 1) u0:=qgh t A;obtain⟨p,n,c,rfl,Z,I⟩:=qvx E (qqt l) V;have D:l.length=n:=by rw[<-I.len,wx]
 subst D;obtain q|⟨b,o,rfl,H⟩:=I.at_
 .have h:l.length=0:=by rw[<-wx (f:=qd a),q];rfl
  refine qiz (xs:=[]) E m d (λ i e j x K=>by rw[q]at K;cases K) ?_;exact k w p l.length c [] (by rw[h];simp) (.inl h) (λ u T=>by cases T) s
 .let⟨xs,S,R,Q,O⟩:=qeh (Γ:=Γ) (wao a) I.size H;refine qiz (xs:=xs) E m d O ?_;exact k w _ l.length c xs (by rw[S,wx]) (.inr ⟨_,rfl,R⟩) Q s
theorem qEx{σ:St}{r:List SA}{nb c:Nat}{ys:List AV}{a:jt (.nil::r)}(h:dS σ (.nil::r) nb c ys=some a):∃b,ys=.v (.slice none 0 0)::b/\dS σ r nb c b=some a:=by
 cases ys with
 |nil=>simp[dS]at h
 |cons y ys=>
   grind [dS,qtf]
theorem qAR{P:Program}{N:FuncId}{a:Ty}(C:qc6 P N){most:Nat}
  (B:∀(w:World) (n:Nat),n<=most->Calls P N #[.slice none 0 0,.int .i64 n] w λ e w'=>∃v,e=.returned v/\Fresh w a.size 0 [] v w')
  {fn:Int->Option (Unit×List (Val a)×Unit)} (q:∀n r,fn n=some r->0<=n/\n<=most/\r=((),[],())):
  qw P N (sgP ⟨[.nil,.val (.int .i64)],[.one (.row a)],λ x=>fn x.1⟩):=by
 refine⟨C,λ Γ σ w u t r A g h=>?_⟩;unfold sgP at h;split at h<;>try cases h
 rename_i x f;split at h<;>cases h;rename_i E m;obtain⟨z,rfl,f⟩:=qEx f;let⟨n,_⟩:=x;obtain⟨p,d,rfl⟩:=q _ _ m;obtain⟨n,rfl⟩:=vg p;have d:n<=most:=Int.ofNat_le.1 d;obtain⟨y1,y,rfl,k,f⟩:=qjj f;obtain⟨rfl,s,o⟩:=qgV f;obtain⟨u0,G,rfl,c,g⟩:=g.uncons;obtain⟨u1,F,rfl,b,g⟩:=g.uncons;have:=g.nil_inv;subst this;have c:=qK c;subst c;have b:=qK (qgh k b);subst b;exact qiz (a:=a) (l:=[]) (xs:=[]) A (we s.symm) (we o.symm) (λ i e j x D=>by cases D) (B w n d)
end Go.AmZ
