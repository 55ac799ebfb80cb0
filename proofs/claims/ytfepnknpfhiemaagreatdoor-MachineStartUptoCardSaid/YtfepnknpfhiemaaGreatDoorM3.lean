/- Part 3 of what the proofs stand on: plain functions of the program, and that they are its functions. -/
import Derived.Test.YtfepnknpfhiemaaGreatDoorM2
import Derived.KernelRfl
import Derived.Test.YtfepnknpfhiemaaGreatDoorProg
import Derived.Test.YtfepnknpfhiemaaGreatDoorM1
import Derived.Shelf.Small.Strs
import Derived.Laws.OwnMore
import Derived.OneCell
import Derived.Deep.DeepAppendRoom
import Derived.Deep.Onto
import Derived.ArgAppend
import Derived.Deep.RegionLaw
import Derived.Laws.CopyOwn
import Derived.Lib.AppendZerosOnto
import Derived.Lib.AppendZeros
import Derived.Lib.Overlaps
import Derived.Laws.Externs
import Derived.Deep.DeepCutAuto
import Derived.Handy
import Derived.IntWalk
import Derived.Shelf.SlSortCmp.NoneTotal
set_option linter.unusedVariables false
set_option linter.unusedSimpArgs false
set_option linter.defProp false
noncomputable section
open Option renaming some->Z,none->U
open Bool renaming true->O,false->Y
open Decidable renaming decide->J
open List renaming length->X
open Array renaming toList->V
open Go renaming Value->aj,World->aA,TypeId->aQ,Program->aZ,Operand->bw,FuncId->cI
namespace Go.AmZ
open GxZ
section
open RowKit
def fU:aa AV->aa Nat
 |[]=>[]
 |.fn f _::l=>f::fU l
 |_::l=>fU l
def dFn{a:Type}(q:aa AV->ab a):aa AV->ab a
 |.fn _ []::xs=>q xs
 |_=>U
def oH:(ts:aa ATy)->aa AV->ab (lf ts)
 |[]=>Z0
 |.val τ::r=>oZ (gf τ) (oH r)
 |.fn::r=>dFn (oH r)
def fR:(ts:aa Ty)->kz ts->aa AV
 |[],_=>[]
 |[a],v=>[cx a v]
 |a::b::r,v=>cx a v.1::fR (b::r) v.2
def cN(c:TC)(f:Nat)(ys:aa AV):ab AV:=match c.pf f (fU ys)with
 |Z g=>match oH g.args ys with
   |Z a=>match g.fn a with
     |Z v=>Z (cy (fR g.res v))
     |U=>U
   |U=>U
 |U=>U
def nV(I:St)(τ:Ty)(a:Nat):AV->ab (aa (Val τ)×Nat)
 |.rs j lo n b f=>match I.rw[a]? with
   |Z R=>match J (j=a/\lo=0/\f=Y/\R.k=τ.size/\R.ver=b/\n=X R.c/\R.fz=0/\R.off=Y)with
     |O=>match bU (bu τ) R.c with
       |Z l=>Z (l,a+1)
       |U=>U
     |Y=>U
   |U=>U
 |y=>match dlist τ y,J (2<=lvl y)with
   |Z [],O=>Z ([],a)
   |_,_=>U
def oj(I:St):(l:aa RA)->Nat->aa AV->ab (CV l×Nat)
 |[],a,[]=>Z ((),a)
 |[],_,_::_=>U
 |.val τ::r,a,ds=>match bu τ (ds.take τ.size)with
   |Z v=>match oj I r a (ds.drop τ.size)with
     |Z (vs,n)=>Z ((v,vs),n)
     |U=>U
   |U=>U
 |.row τ::r,a,d::ds=>match nV I τ a d with
   |Z (l,b)=>match oj I r b ds with
     |Z (vs,n)=>Z ((l,vs),n)
     |U=>U
   |U=>U
 |.row _::_,_,[]=>U
def bxA(l:aa RA)(b:Nat):AV:=match uT l with
 |O=>.mp b
 |Y=>.ptr b 0
def Bk(l:aa RA)(y:AV):ab Nat:=match uT l,y with
 |O,.mp b|Y,.ptr b 0=>Z b
 |_,_=>U
theorem qpy{l y b}(h:Bk l y=Z b):y=bxA l b:=by
 unfold Bk at h;unfold bxA;split at h<;>cases h<;>(rename_i a;rw[a])
theorem qpm(l b):Bk l (bxA l b)=Z b:=by
 unfold Bk bxA;cases uT l<;>rfl
theorem qrv(l b):rb (bxA l b)=[b]/\rr (bxA l b)=[]/\∀fb fr,ren fb fr (bxA l b)=bxA l (fb b):=by
 unfold bxA;cases uT l<;>exact⟨rfl,rfl,λ _ _=>rfl⟩
theorem qoZ{m l x y b}(h:Jt l x=Z b)(a:OK m x y):b<m.nb/\y=bxA l (m.b b):=by
 unfold Jt at h;unfold bxA;split at h<;>cases h<;>(rename_i c;rw[c];exact a)
theorem qrD{m l b}(h:b<m.nb):OK m (bxT l b) (bxA l (m.b b)):=by
 unfold bxT bxA;cases uT l<;>exact⟨h,rfl⟩
def IG(I:St)(l:aa RA)(nb a:Nat)(y:AV):ab (CV l×Nat):=match Bk l y with
 |Z j=>match Nat.beq j nb,I.bx[nb]? with
   |O,Z ds=>oj I l a ds
   |_,_=>U
 |U=>U
def Oe:AV->Bool
 |.v (.slice U 0 0)=>O
 |_=>Y
theorem Vb{y}(h:Oe y=O):y=.v (.slice U 0 0):=by
 unfold Oe at h;split at h
 .rfl
 .cases h
def Bt(g k:Nat):AV->ab (aa AV)
 |.fn a cs=>match Nat.beq g a&&Nat.beq (X cs) k with
   |O=>Z cs
   |Y=>U
 |_=>U
theorem XY{g k y cs}(h:Bt g k y=Z cs):y=.fn g cs/\X cs=k:=by
 unfold Bt at h;split at h<;>try cases h
 split at h<;>cases h;next a=>rw[aJ]at a;rw[cm a.1];exact⟨rfl,cm a.2⟩
def dS(I:St):(sas:aa SA)->Nat->Nat->aa AV->ab (iP sas)
 |[],nb,a,[]=>match J (nb=X I.bx/\a=X I.rw)with
   |O=>Z ()
   |Y=>U
 |.val τ::r,nb,a,y::ys=>match gf τ y with
   |Z v=>match dS I r nb a ys with
     |Z vs=>Z (v,vs)
     |U=>U
   |U=>U
 |.row τ::r,nb,a,y::ys=>match nV I τ a y with
   |Z (l,b)=>match dS I r nb b ys with
     |Z vs=>Z (l,vs)
     |U=>U
   |U=>U
 |.box l::r,nb,a,y::ys=>match IG I l nb a y with
   |Z (v,b)=>match dS I r (nb+1) b ys with
     |Z vs=>Z (toB l v,vs)
     |U=>U
   |U=>U
 |.nil::r,nb,a,y::ys=>match Oe y with
   |O=>dS I r nb a ys
   |Y=>U
 |.clo g k::r,nb,a,y::ys=>match Bt g k y with
   |Z cs=>dS I r nb a (cs++ys)
   |U=>U
 |_,_,_,_=>U
def kq:(l:aa RA)->Nat->CV l->aa AV
 |[],_,_=>[]
 |.val τ::r,L,v=>aI τ v.1++kq r L v.2
 |.row _::r,L,v=>.rs L 0 (X v.1) 0 Y::kq r (L+1) v.2
def nc:(l:aa RA)->CV l->aa Row
 |[],_=>[]
 |.val _::r,v=>nc r v.2
 |.row τ::r,v=>⟨τ.size,v.1.map (aI τ),0,0,Y⟩::nc r v.2
def dI:(sas:aa SA)->Nat->eV sas->aa (aa AV)
 |[],_,_=>[]
 |.box l::r,L,o=>kq l L (toC l o.1)::dI r (L+nR l) o.2
 |.nil::r,L,o|.val _::r,L,o|.row _::r,L,o|.clo _ _::r,L,o=>dI r L o
def fe:(sas:aa SA)->eV sas->aa Row
 |[],_=>[]
 |.box l::r,o=>nc l (toC l o.1)++fe r o.2
 |.nil::r,o|.val _::r,o|.row _::r,o|.clo _ _::r,o=>fe r o
def fp:(a:aa RE)->Nat->RV a->aa AV
 |[],_,_=>[]
 |.one (.val τ)::r,L,v=>cx τ v.1::fp r L v.2
 |.one (.row _)::r,L,v=>.rs L 0 (X v.1) 0 Y::fp r (L+1) v.2
 |.agg l::r,L,v=>.agg (kq l L v.1)::fp r (L+nR l) v.2
def ei:(a:aa RE)->RV a->aa Row
 |[],_=>[]
 |.one (.val _)::r,v=>ei r v.2
 |.one (.row τ)::r,v=>⟨τ.size,v.1.map (aI τ),0,0,Y⟩::ei r v.2
 |.agg l::r,v=>nc l v.1++ei r v.2
def iE:(a:aa RE)->Nat->RV a->aa (aa AV)
 |[],_,_=>[]
 |.one (.val _)::r,L,v=>iE r L v.2
 |.one (.row _)::r,L,v=>iE r (L+1) v.2
 |.agg l::r,L,v=>iE r (L+nR l) v.2
def yB(rws:aa cc):(b:aa RE)->Nat->Nat->RV b->Prop
 |[],_,_,_=>True
 |.one a::r,nb,d,v=>yB rws r nb (d+nRA a) v.2
 |.agg l::r,nb,d,v=>yB rws r nb (d+nR l) v.2
theorem LL{rws}:∀c nb d v {f} {k} {x:f},X rws<=d->uW rws c nb d v k=Z x->
  ∃b e,k b e=Z x/\yB rws b nb d e/\∀{o} (g:(b:aa RE)->RV b->ab o),uW rws c nb d v g=g b e
 |[],nb,d,v,f,k,x,n,h=>⟨[],(),h,trivial,λ _=>rfl⟩
 |.one a::c,nb,d,v,f,k,x,n,h=>by
   let⟨b,e,m,j,i⟩:=LL c nb (d+nRA a) v.2 (by omega) h;exact⟨_,_,m,j,λ g=>i _⟩
 |.agg l::c,nb,d,v,f,k,x,n,h=>by
   let⟨b,e,m,j,i⟩:=LL c nb (d+nR l) v.2 (by omega) h;exact⟨_,_,m,j,λ g=>i _⟩
theorem qss: ∀l v,toB l (toC l v)=v
 |[],_|[_],_|_::_::_,_=>rfl
theorem AL: ∀l v,toC l (toB l v)=v
 |[],_|[_],(_,())|_::_::_,_=>rfl
theorem oE: ∀l v,X (nc l v)=nR l
 |[],_=>rfl
 |.val _::r,v=>oE r v.2
 |.row _::r,v=>bB (· + 1) (oE r v.2)
theorem mO: ∀l v,X (lk l v)=nR l
 |[],_=>rfl
 |.val _::r,v=>mO r v.2
 |.row _::r,v=>bB (· + 1) (mO r v.2)
theorem pG: ∀sas o,X (fe sas o)=nrB sas
 |[],_=>rfl
 |.nil::r,o|.val _::r,o|.row _::r,o|.clo _ _::r,o=>pG r o
 |.box l::r,o=>by rw[fe,aM,oE,pG r o.2];rfl
theorem nJ: ∀sas o,X (fT sas o)=nrB sas
 |[],_=>rfl
 |.nil::r,o|.val _::r,o|.row _::r,o|.clo _ _::r,o=>nJ r o
 |.box l::r,o=>by rw[fT,aM,mO,nJ r o.2];rfl
def sgP(g:vp)(I:St)(ys:aa AV):ab (AV×ab St):=match dS I g.args 0 0 ys with
 |Z a=>match g.fn a with
   |Z v=>uW (fT g.args v.1) g.res (nBx g.args) (nrB g.args) v.2 λ b c=>Z (cy (fp b (X I.rw+nrB g.args) c),Z ⟨dI g.args (X I.rw) v.1++iE b (X I.rw+nrB g.args) c,I.rw.map fG++(fe g.args v.1++ei b c),List.range (X I.bx),List.range (X I.rw)⟩)
   |U=>U
 |U=>U
def mgP(g:vG)(I:St)(ys:aa AV):ab (AV×ab St):=match dS I (.row g.τ::g.args) 0 0 ys with
 |Z a=>match g.fn a with
   |Z v=>match Nat.beq (X v) (X a.1) with
     |O=>match I.bx,I.rw with
       |[],[R]=>Z (.tup [],Z ⟨[],[⟨R.k,v.map (aI g.τ),R.ver,R.fz,R.off⟩],[],[0]⟩)
       |[],[]=>Z (.tup [],U)
       |_,_=>U
     |Y=>U
   |U=>U
 |U=>U
def xgP(g:yu)(I:St)(ys:aa AV):ab (AV×ab St):=match dS I g.args 0 0 ys with
 |Z a=>match g.fn a with
   |Z v=>Z (.v (.int .i64 v),U)
   |U=>U
 |U=>U
def sgG(c:TC)(f:Nat)(I:St)(ys:aa AV):ab (AV×ab St):=match c.sf f (fU ys)with
 |Z g=>sgP g I ys
 |U=>U
def TC.spf(c:TC)(f:Nat):ab (St->aa AV->ab (AV×ab St)):=match c.mf f with
 |Z g=>Z (mgP g)
 |U=>match c.xf f with
   |Z g=>Z (xgP g)
   |U=>match c.sf f []with
     |Z _=>Z (sgG c f)
     |U=>U
def TC.pc(c:TC):PC:=⟨c.ty,λ f=>match c.has f with
 |O=>Z (cN c f)
 |Y=>U,c.spf,c.pur,c.ld,c.inl⟩
theorem TC.raw_eq(c:TC):c.pc.cfg.raw=c.rawT:=by
 show c.pc.raw=c.rawT;funext f;unfold PC.raw TC.rawT;have e1:c.pc.pf f=match c.has f with|true=>Z (cN c f)|false=>U:=rfl
 have a:c.pc.sp f=c.spf f:=rfl;rw[e1,a];unfold TC.spf;cases c.has f with
 |true=>rfl
 |false=>
   cases c.mf f with
   |some g=>rfl
   |none=>
     cases c.xf f with
     |some g=>rfl
     |none=>
       cases c.sf f []with
       |none|some g=>rfl
theorem TC.lo_eq(c:TC):c.pc.cfg.lo=c.loT:=by
 show(λ f=>c.pc.raw f||(c.ld f||(c.inl f).isSome))=c.loT;funext f;have h:c.pc.raw f=c.rawT f:=sw c.raw_eq f;rw[h];rfl
section
variable {α:Type}{N:Nat×Nat}{m:Mp}{E:Env}{τ:TS}{tm:aa AV}{I:St}{K:KT α}{r:α}{p:ab (AV×ab St)}{c:TC}{C:Cfg}
theorem pC: ∀{cs},(∀x∈cs,br x=O)->rbL cs=[]/\rrL cs=[]
 |[],_=>⟨rfl,rfl⟩
 |x::cs,h=>by
   let⟨d,c⟩:=pC λ y a=>h y (aT _ a);have b:=h x (aX ..);rw[rbL,rrL,d,c];cases x<;>first|exact⟨rfl,rfl⟩|(simp[br]at b)
theorem zN{a y v}(h:gf a y=Z v):dG y=O/\∀f cs,y≠.fn f cs:=by
 unfold gf at h;split at h
 case h_2=>cases h
 let⟨pre,c,_,b,_⟩:=iM a (dO.1 h);rw[bK]at c;rw[<-c]at b;cases y with
 |agg cs=>
   let⟨e,d⟩:=pC (cs:=cs) b;refine⟨?_,λ f cs h=>by cases h⟩;unfold dG;rw[rb,rr,e,d];rfl
 |v x|sl k g n|mc=>exact⟨rfl,λ f cs h=>by cases h⟩
 |_=>have:=b _ (cQ.2 rfl);simp[br]at this
theorem zZ: ∀a v,dG (cx a v)=O
 |.int _,_|.map _ _,_|.bool,_|.str,_|.list _,_=>rfl
 |.term,v=>by
   let⟨d,c⟩:=pC (ir .term v);show dG (.agg _)=O;unfold dG;rw[rb,rr,d,c];rfl
 |.pair a b,v=>by
   let⟨d,c⟩:=pC (ir (.pair a b) v);show dG (.agg _)=O;unfold dG;rw[rb,rr,d,c];rfl
 |.one a,v=>by
   let⟨d,c⟩:=pC (ir (.one a) v);show dG (.agg _)=O;unfold dG;rw[rb,rr,d,c];rfl
theorem qlb{y}(h:∀z∈cellsOf y,br z=O):rb y=[]/\rr y=[]:=by
 cases y with
 |agg cs=>
   let⟨b,a⟩:=pC (cs:=cs) h;exact⟨by rw[rb,b],by rw[rr,a]⟩
 |_=>exact TX (h _ (cQ.2 rfl))
theorem qnW(g:eu m I){a cs ds v}(k:∀y∈ds,rsC y=[])(j:rP (oQ m.rw a cs)=Z v)(h:OKL m cs ds):bu a ds=Z v/\∀y∈ds,br y=O:=by
 let⟨l,c,f⟩:=pM g a (wM j) h;cases f
 have e:∀y∈ds,br y=O:=by
  let⟨pre,b,_,i,_⟩:=iM a c;rw[Ju,bK]at b;intro y d;exact Gn (k y d) (i _ (by rw[<-b];exact iY d))
 exact⟨GV e (dO.2 c),e⟩
theorem qpU(l:eu m I){a x y v}(s:oX x=O)(q:jD m.rw a x=Z v)(j:OK m x y):gf a y=Z v/\rb y=[]/\rr y=[]:=by
 let⟨g,k⟩:=rk l q j;have c:=H3 s j
 have d:∀z∈cellsOf y,rsC z=[]:=by
  intro z b;cases y with
  |agg cs=>exact qD.1 c z b
  |_=>cases cQ.1 b;exact c
 have i:∀z∈cellsOf y,br z=O:=by
  let⟨pre,e,_,p,_⟩:=iM a (dO.1 k);rw[bK]at e;intro z b;exact Gn (d z b) (p _ (by rw[<-e];exact iY b))
 let⟨e1,t⟩:=qlb i;refine⟨?_,e1,t⟩;have o:=GV i k;unfold gf at g |-
 have h:gU (cE I.rw y)=gU y:=by
  cases y with
  |agg cs=>rfl
  |rs r lo n u f=>simp[cellsOf,rsC]at d
  |_=>rfl
 rw[h]at g;split at g
 .exact o
 .cases g
theorem L9{fb fr y}(b:rb y=[])(a:rr y=[]):ren fb fr y=y:=VN y b a
theorem YM{pre post}{b:Nat}(h:(pre++b::post).Nodup):(pre++b::post).idxOf b=X pre:=Nu h (by simp)
theorem pI{fb fr}:∀l,bt fb fr l=l.map (ren fb fr)
 |[]=>rfl
 |x::l=>by rw[bt,pI l];rfl
theorem Wv{fb fr}(a b):bt fb fr (a++b)=bt fb fr a++bt fb fr b:=by rw[pI,pI,pI,eK]
theorem NK: ∀a b,rbL (a++b)=rbL a++rbL b
 |[],_=>rfl
 |x::a,b=>by rw[BW,rbL,rbL,NK a b,bA]
theorem NR: ∀a b,rrL (a++b)=rrL a++rrL b
 |[],_=>rfl
 |x::a,b=>by rw[BW,rrL,rrL,NR a b,bA]
theorem X4(K:Rel N m E τ tm I){t x y l a}(b:ms τ.rw t x=Z (l,a))(w:OK m x y):
  rb y=[]/\rr y=a.filterMap m.r/\(∀id∈a,id<X m.rw)/\
  ∀B pre post fb,(pre++(a.filterMap m.r++post)).Nodup->nV (bM I B (pre++(a.filterMap m.r++post))) t (X pre) (ren fb (λ r=>(pre++(a.filterMap m.r++post)).idxOf r) y)=Z (l,X pre+X (a.filterMap m.r)):=by
 have emp:dlist t y=Z l->l=[]->2<=lvl y->a.filterMap m.r=[]->(∀id∈a,id<X m.rw)->rb y=[]/\rr y=a.filterMap m.r/\(∀id∈a,id<X m.rw)/\
   ∀B pre post fb,(pre++(a.filterMap m.r++post)).Nodup->nV (bM I B (pre++(a.filterMap m.r++post))) t (X pre) (ren fb (λ r=>(pre++(a.filterMap m.r++post)).idxOf r) y)=Z (l,X pre+X (a.filterMap m.r)):=by
  intro A b j h g
  have f:rb y=[]/\rr y=[]:=by
   obtain⟨rfl,_⟩|⟨es,n,rfl,_⟩:=fC A<;>exact⟨rfl,rfl⟩
  refine⟨f.1,by rw[f.2,h],g,λ B pre post fb _=>?_⟩;rw[L9 f.1 f.2,h];subst b;obtain⟨rfl,_⟩|⟨es,n,rfl,_⟩:=fC A
  .simp;rfl
  .simp only[nV,A,bg j];rfl
 unfold ms at b;split at b
 .cases b;cases w;exact emp rfl rfl (ak _) rfl (by simp)
 .split at b<;>cases b;next C j=>let⟨e,z⟩:=kg C;subst e;let⟨v,u⟩:=w;subst z;exact emp v rfl (bL (bG j) u) rfl (by simp)
 .rename_i id M;split at b<;>try cases b
  rename_i R hR;split at b<;>try cases b
  rename_i q;rw[aJ,eD]at q;split at b<;>cases b;rename_i C;let⟨e,z⟩:=kg C;subst e;subst z;let⟨R',H,_,_,W⟩:=w;have p:m.rw[id]?=Z R:=by rw[K.rw];exact hR
  rw[p]at H;cases H;have g:∀i∈[id],i<X m.rw:=by grind
  obtain⟨c,Q,G,rfl,s,F,D,T,S,q6,P⟩|⟨G,s,F,D⟩:=rp K.rows p (W (cm q.1))
  .have o:[id].filterMap m.r=[c]:=by simp[G]
   refine⟨rfl,by rw[o];rfl,g,λ B pre post fb L=>?_⟩;rw[o]at L |-
   have d:=YM L
   have k:(bM I B (pre++([c]++post))).rw[X pre]?=Z Q:=by
    show((pre++c::post).map λ r=>I.rw.getD r ⟨0,[],0,0,Y⟩)[X pre]?=_;rw[df,ej (ak _),mF,JD];show Z (I.rw.getD c _)=_;rw[gE s]
   rw[ren];have d:(pre++([c]++post)).idxOf c=X pre:=d;rw[d];simp only[nV,k,T,P q.2,and_self,S];rfl
  .exact emp F (s q.2) D (by grind) g
 .cases b
theorem Mu(k:Rel N m E τ tm I):∀{l cs ds v a},fo τ.rw l cs=some (v,a,true)->OKL m cs ds->
  rbL ds=[]/\rrL ds=a.filterMap m.r/\(∀id∈a,id<m.rw.length)/\
  ∀B pre post fb,(pre++(a.filterMap m.r++post)).Nodup->oj (bM I B (pre++(a.filterMap m.r++post))) l pre.length (bt fb (λ r=>(pre++(a.filterMap m.r++post)).idxOf r) ds)=some (v,pre.length+(a.filterMap m.r).length)
 |[],cs,ds,v,a,h,g=>by
   cases cs with
   |cons c cs=>simp[fo]at h
   |nil=>
     cases g;obtain⟨_,rfl,_⟩:=h;exact⟨rfl,rfl,by simp,λ B pre post fb _=>rfl⟩
 |.val t::l,cs,ds,v,a,h,g=>by
   simp[fo]at h;split at h<;>try (cases h;done)
   rename_i w vs e q u f;simp only[dQ,fc,aJ]at h;obtain⟨rfl,rfl,y,rfl⟩:=h;obtain⟨s,p,i3,o⟩:=Mu k f (g.drop t.size);have F:=g.take t.size;have x:=qD.1 (Ah F y);obtain⟨K,H⟩:=qnW k.rows x (by rw[k.rw];exact u) F;obtain⟨D,C⟩:=pC H;have b:ds=ds.take t.size++ds.drop t.size:=(ot _ _).symm;refine⟨by rw[b,NK,D,s];rfl,by rw[b,NR,C,p];rfl,i3,λ B pre post fb n=>?_⟩;have e1:(bt fb (λ r=>(pre++(e.filterMap m.r++post)).idxOf r) ds).take t.size=ds.take t.size:=by rw[pI,<-List.map_take,<-pI,Md _ D C]
   have L:(bt fb (λ r=>(pre++(e.filterMap m.r++post)).idxOf r) ds).drop t.size=bt fb (λ r=>(pre++(e.filterMap m.r++post)).idxOf r) (ds.drop t.size):=by rw[pI,<-List.map_drop,<-pI]
   rw[oj,e1,K];rw[L,o B pre post fb n]
 |.row t::l,cs,ds,v,a,h,g=>by
   cases cs with
   |nil=>simp[fo]at h
   |cons c cs=>
     obtain⟨d,ds,rfl,G,A⟩:=g;simp[fo]at h;split at h<;>try (cases h;done)
     rename_i w i vs j q u f;obtain⟨rfl,rfl,rfl⟩:=h;obtain⟨R,Q,P,M⟩:=X4 k u G;obtain⟨s,p,i3,o⟩:=Mu k f A;refine⟨by rw[rbL,R,s];rfl,by rw[rrL,Q,p,mG],λ id z=>(aR.1 z).elim (P id) (i3 id),λ B pre post fb n=>?_⟩;rw[mG,bA]at n |-
     rw[bt,oj,M B pre (j.filterMap m.r++post) fb n];simp only;have:=o B (pre++i.filterMap m.r) post fb (by grind);rw[bA,aM]at this;rw[this,aM,eI]
theorem MC(R:Rel N m E τ tm I):∀{sas xs ys a o p},cD τ sas xs=some (a,o,p)->OKL m xs ys->oi sas=true->
  rbL ys=o.map m.b/\(rI sas=true->rrL ys=[])/\(rrL ys++o.flatMap λ b=>rrL (I.bx.getD (m.b b) []))=p.filterMap m.r/\(∀b∈o,b<m.nb/\∃ds,I.bx[m.b b]?=some ds/\rbL ds=[])/\(∀id∈p,id<m.rw.length)/\
  ∀c d,(c++o.map m.b).Nodup->(d++p.filterMap m.r).Nodup->
   dS (bM I (c++o.map m.b) (d++p.filterMap m.r)) sas c.length d.length (bt (λ b=>(c++o.map m.b).idxOf b) (λ r=>(d++p.filterMap m.r).idxOf r) ys)=some a:=by
 intro sas
 induction sas with
 |nil=>
   intro xs ys a o p h ho _;cases xs with
   |cons x xs=>simp[cD]at h
   |nil=>
     cases ho;obtain⟨_,rfl,rfl⟩:=h;refine⟨rfl,λ _=>rfl,rfl,by simp,by simp,λ c d _ _=>?_⟩;simp[bt,dS,bM]
 |cons k sas P=>
   intro xs ys a o p h ho i;cases xs with
   |nil=>cases k<;>simp[cD]at h
   |cons x xs=>
   obtain⟨y,ys,rfl,Q,s⟩:=ho;cases k with
   |val t=>
     simp[cD]at h;split at h<;>try cases h
     rename_i v ar hv;split at h<;>cases h;rename_i vs n f u;obtain⟨A,D,q,i3,C,B⟩:=P u s i;obtain⟨g1,g2,g3⟩:=qpU R.rows ar (by rw[R.rw];exact hv) Q;refine⟨by rw[rbL,g2,A];rfl,λ H=>by rw[rrL,g3,D H];rfl,by rw[rrL,g3];exact q,i3,C,λ c d M z=>?_⟩;rw[bt,L9 g2 g3,dS,g1];rw[B c d M z]
   |nil=>
     cases x with
     |nil=>
       subst Q;obtain⟨A,D,q,i3,C,B⟩:=P h s i;refine⟨by rw[rbL,A];rfl,λ H=>by rw[rrL,D H];rfl,by rw[rrL];exact q,i3,C,λ c d M z=>?_⟩;exact B c d M z
     |_=>simp[cD]at h
   |clo g k=>
     cases x with
     |fn g' cs=>
       simp[cD]at h;split at h<;>try cases h
       rename_i hg;rw[aJ]at hg;obtain⟨cs',rfl,F⟩:=Q;obtain⟨A,D,q,i3,C,B⟩:=P h (F.append s) i;rw[NK]at A;rw[NR]at D q;refine⟨by rw[rbL,rb];exact A,λ H=>by rw[rrL,rr];exact D H,by rw[rrL,rr];exact q,i3,C,λ c d M z=>?_⟩
       have ax:Bt g k (.fn g' (bt (λ b=>(c++o.map m.b).idxOf b) (λ r=>(d++p.filterMap m.r).idxOf r) cs'))=some (bt (λ b=>(c++o.map m.b).idxOf b) (λ r=>(d++p.filterMap m.r).idxOf r) cs'):=by
        have S:Nat.beq (bt (λ b=>(c++o.map m.b).idxOf b) (λ r=>(d++p.filterMap m.r).idxOf r) cs').length k=true:=by
         rw[pI,bO,F.len];exact hg.2
        simp[Bt,hg.1,S,lE]
       rw[bt,ren,dS,ax];simp only;rw[<-Wv];exact B c d M z
     |_=>simp[cD]at h
   |row t=>
     simp[cD]at h;split at h<;>try cases h
     rename_i l e hl;split at h<;>cases h;rename_i vs f u;obtain⟨A,D,q,i3,C,B⟩:=P u s i;obtain⟨a1,a2,a3,a4⟩:=X4 R hl Q;refine⟨by rw[rbL,a1,A];rfl,λ H=>(by cases H),by rw[rrL,a2,bA,q,mG],i3,λ id K=>(aR.1 K).elim (a3 id) (C id),λ c d M z=>?_⟩;rw[mG]at z |-
     rw[bt,dS,a4 _ d (f.filterMap m.r) _ z];simp only;have:=B c (d++e.filterMap m.r) M (by grind);rw[bA,aM]at this;rw[this]
   |box l=>
     have w:rI sas=true/\oi sas=true:=by
      have:(rI sas&&oi sas)=true:=i;rw[aJ]at this;exact this
     simp[cD]at h;split at h<;>try cases h
     rename_i v e b j;split at h<;>cases h;rename_i vs n f u;obtain⟨A,D,q,i3,C,B⟩:=P u s w.2;unfold P7 at j;split at j<;>try cases j
     rename_i b0 aE;split at j<;>try cases j
     rename_i cs F;split at j<;>cases j;rename_i hv;obtain⟨az,rfl⟩:=qoZ aE Q;obtain⟨q1,q2,q3⟩:=qrv l (m.b b);obtain⟨ds,d1,d2⟩:=R.box _ cs F;obtain⟨p1,p2,p3,p4⟩:=Mu R hv d2;have G:=D w.1;rw[G,eZ]at q;refine⟨by rw[rbL,A,q1];rfl,λ _=>by rw[rrL,G,q2];rfl,?_,λ b' L=>?_,λ id K=>(aR.1 K).elim (p3 id) (C id),λ c d an z=>?_⟩
     .rw[rrL,G,q2,sn,q,gE d1,p2,mG];rfl
     .rcases bi.1 L with rfl|L
      .exact⟨az,ds,d1,p1⟩
      .exact i3 b' L
     .rw[aU]at an |-
      rw[mG]at z |-
      have T:=YM an
      have W:(bM I (c++m.b b::n.map m.b) (d++(e.filterMap m.r++f.filterMap m.r))).bx[c.length]?=some (bt (λ b'=>(c++m.b b::n.map m.b).idxOf b') (λ r=>(d++(e.filterMap m.r++f.filterMap m.r)).idxOf r) ds):=by
       show((c++m.b b::n.map m.b).map λ b=>bt _ _ (I.bx.getD b []))[c.length]?=_;rw[df,ej (ak _),mF,JD];show some (bt _ _ (I.bx.getD (m.b b) []))=_;rw[gE d1]
      have ad:IG (bM I (c++m.b b::n.map m.b) (d++(e.filterMap m.r++f.filterMap m.r))) l c.length d.length (bxA l c.length)=some (v,d.length+(e.filterMap m.r).length):=by
       simp[IG,qpm,JC,W];exact p4 _ d (f.filterMap m.r) _ z
      rw[bt,q3,T,dS,ad];simp only;have:=B (c++[m.b b]) (d++e.filterMap m.r) (by grind) (by grind);rw[bA,bA,aM,aM]at this;have this:dS (bM I (c++m.b b::n.map m.b) (d++(e.filterMap m.r++f.filterMap m.r))) sas (c.length+1) (d.length+(e.filterMap m.r).length) (bt (λ b'=>(c++m.b b::n.map m.b).idxOf b') (λ r=>(d++(e.filterMap m.r++f.filterMap m.r)).idxOf r) ys)=some vs:=this;rw[this]
theorem Oj: ∀{l},l.Nodup->nd l=O
 |[],_=>rfl
 |b::l,h=>by
   rw[ov]at h;rw[nd,Oj h.2];simp[h.1]
theorem ND: ∀{l seen},l.Nodup->(∀b∈l,b ∉ seen)->aH seen l=l
 |[],seen,_,_=>rfl
 |b::l,seen,h,d=>by
   rw[ov]at h;rw[aH]
   have:seen.contains b=Y:=by
    have:=d b (aX ..);simpa using this
   rw[this];simp only
   rw[ND h.2 λ c e a=>by
    obtain rfl|a:=bi.1 a
    .exact h.1 e
    .exact d c (aT _ e) a]
theorem qpi{α}{f:α->aa Nat}{l:aa α}(h:∀x∈l,f x=[]):l.flatMap f=[]:=qD.2 h
theorem qow{α f}{l:aa α}{x}{r:Nat}(a:x∈l)(b:r∈f x):r∈l.flatMap f:=kI.2 ⟨x,a,b⟩
theorem MG{ys B R}(k:rbL ys=B)(e:(rrL ys++B.flatMap λ b=>rrL (I.bx.getD b []))=R)(j:B.Nodup)(i:R.Nodup)(g:∀b∈B,∃ds,I.bx[b]?=Z ds/\rbL ds=[])(m:∀r∈R,r<X I.rw):
  dY I ys=B/\hU I ys=R/\nX I ys=O:=by
 have o:∀b∈B,rbL (I.bx.getD b [])=[]:=λ b a=>by let⟨ds,c,f⟩:=g b a;rw[gE c];exact f
 have e1:dY I ys=B:=by
  unfold dY;rw[k,ND j (by simp)];cases X I.bx with
  |zero=>rfl
  |succ n=>rw[xL,qpi o];rfl
 have l:hU I ys=R:=by
  unfold hU;rw[e1,e,ND i (by simp)]
 refine⟨e1,l,?_⟩;unfold nX;rw[e1,l,k,Oj j,Oj i];simp only[cv,aJ,bz,qsl,cH];refine⟨⟨⟨λ _ h=>h,λ r h=>by rw[<-e];exact aR.2 (.inl h)⟩,λ b a=>?_⟩,m⟩;let⟨ds,c,f⟩:=g b a;refine⟨⟨getElem?_lt c,?_⟩,λ r d=>?_⟩
 .rw[gE c,f];simp
 .rw[<-e];exact aR.2 (.inr (qow a d))
theorem qmL{fb fr}:∀l,ren fb fr (cy l)=cy (bt fb fr l)
 |[]|[x]|x::y::l=>rfl
theorem VZ{R rn j}:cJ R rn (X R+j)=rn+j:=by
 unfold cJ;rw[ox (by omega)];show rn+(X R+j-X R)=_;omega
theorem Gb{B R bn rn}:∀l j v,bt (cJ B bn) (cJ R rn) (kq l (X R+j) v)=kq l (rn+j) v
 |[],j,v=>rfl
 |.val a::l,j,v=>by
   let⟨c,b⟩:=pC (ir a v.1);rw[kq,Wv,Md _ c b,Gb l j v.2];rfl
 |.row a::l,j,v=>by
   have h:=Gb (B:=B) (R:=R) (bn:=bn) (rn:=rn) l (j+1) v.2;rw[<-eI,<-eI]at h;rw[kq,bt,ren,VZ,h];rfl
theorem Hb{rws B R bn rn}:∀b nb j v,X B<=nb->yB rws b nb j v->bt (cJ B bn) (cJ R rn) (fp b (X R+j) v)=(fp b (rn+j) v).map λ y=>match y with
  |.ptr n o=>.ptr (bn+(n-X B)) o
  |y=>y
 |[],nb,j,v,_,_=>rfl
 |.one (.val a)::b,nb,j,v,c,h=>by
   let⟨d,f⟩:=wL (zZ a v.1);rw[fp,bt,L9 d f,Hb b nb j v.2 c h,fp,aU];congr 1;split
   .next n o e=>rw[e]at d;cases d
   .rfl
 |.one (.row a)::b,nb,j,v,c,h=>by
   have h:=Hb (R:=R) (bn:=bn) (rn:=rn) b nb (j+1) v.2 c h;rw[<-eI,<-eI]at h;rw[fp,bt,ren,VZ,h];rfl
 |.agg l::b,nb,j,v,c,h=>by
   have h:=Hb (R:=R) (bn:=bn) (rn:=rn) b nb (j+nR l) v.2 c h;rw[<-eI,<-eI]at h;rw[fp,bt,ren,Gb l j v.1,h];rfl
theorem GL{rws B R bn rn}:∀b nb j v,yB rws b nb j v->(iE b (X R+j) v).map (bt (cJ B bn) (cJ R rn))=iE b (rn+j) v
 |[],nb,j,v,_=>rfl
 |.one (.val a)::b,nb,j,v,h=>GL b nb j v.2 h
 |.one (.row a)::b,nb,j,v,h=>GL b nb (j+1) v.2 h
 |.agg l::b,nb,j,v,h=>by
   have h:=GL (B:=B) (R:=R) (bn:=bn) (rn:=rn) b nb (j+nR l) v.2 h;rw[<-eI,<-eI]at h;exact h
theorem xl{B R bn rn}:∀sas j o,(dI sas (X R+j) o).map (bt (cJ B bn) (cJ R rn))=dI sas (rn+j) o
 |[],j,o=>rfl
 |.nil::sas,j,o|.val _::sas,j,o|.row _::sas,j,o|.clo _ _::sas,j,o=>xl sas j o
 |.box l::sas,j,o=>by
   have h:=xl (B:=B) (R:=R) (bn:=bn) (rn:=rn) sas (j+nR l) o.2;rw[<-eI,<-eI]at h;rw[dI,aU,Gb l j,h];rfl
theorem LP{β}:∀a (l c b:aa β),X c=X a->∃l',dh l a (c++b)=l'++b/\X l'=X l/\∀r,r ∉ a->l'[r]?=l[r]?
 |[],l,c,b,h=>by
   have:=cR h;subst this;exact⟨l,by simp[dh],rfl,λ _ _=>rfl⟩
 |r::a,l,[],b,h=>by simp at h
 |r::a,l,k::c,b,h=>by
   let⟨l',i,g,f⟩:=LP a (l.set r k) c b (by grind);refine⟨l',i,by rw[g,fw],λ q d=>?_⟩;rw[f q λ e=>d (aT _ e),kK (by grind)]
def BxL(m:Mp):aa (aa TV)->aa (aa AV)->Prop
 |[],ys=>ys=[]
 |x::xs,ys=>∃y r,ys=y::r/\OKL m x y/\BxL m xs r
theorem BxL.mono{m'}(h:MLe m m'):∀{xs ys},BxL m xs ys->BxL m' xs ys
 |[],ys,a=>a
 |x::xs,ys,⟨y,r,e,c,b⟩=>⟨y,r,e,c.mono h,BxL.mono h b⟩
theorem VK: ∀a {τ I xs ys},Rel N m E τ tm I->BxL m xs ys->X xs=X a->(∀b∈a,b<m.nb)->
  Rel N m E ⟨rM τ.bx a xs,τ.rw⟩ tm {I with bx:=dh I.bx (a.map m.b) ys}
 |[],τ,I,xs,ys,e,d,f,_=>by
   have:=cR f;subst this;cases d;show Rel N m E τ tm {I with bx:=I.bx++[]};rw[bK];exact e
 |b::a,τ,I,xs,ys,e,d,f,g=>by
   cases xs with
   |nil=>simp at f
   |cons x xs=>
     obtain⟨y,r,rfl,j,i⟩:=d;have:=e.setBox (g b (aX ..)) j I.wr;exact VK a this i (by grind) λ c h=>g c (aT _ h)
theorem T2{b:Type}{l:aa b}{i x f}(h:l[i]?=Z x):l.modify i f=l.set i (f x):=by
 apply qC;intro j;rw[qbX,oq];by_cases a:i=j
 .subst a;rw[h,af rfl,af (getElem?_lt h)];simp
 .rw[ae a];cases l[j]? with
  |none=>rfl
  |some y=>simp[a]
theorem WJ: ∀a {m τ},Rel N m E τ tm I->(∀id∈a,id<X m.rw)->
  ∃m',MLe m m'/\Rel N m' E ⟨τ.bx,md τ.rw a⟩ tm I/\m'.nb=m.nb/\m'.b=m.b/\X m'.rw=X m.rw/\(∀i r,m'.r i=Z r->m.r i=Z r/\i ∉ a)
 |[],m,τ,c,_=>⟨m,.refl m,c,rfl,rfl,rfl,λ i r h=>⟨h,by simp⟩⟩
 |id::a,m,τ,c,q=>by
   have n:=q id (aX ..);have g:=aS n;generalize B:m.rw[id]=R at g;have e:MLe m (m.upd id ⟨R.τ,[],R.ver+1,R.sv,Y⟩ U 0 []):=Y3 g (eB _) (ak _) (λ h=>by have:R.ver+1=R.ver:=h;omega)
   have k:Rel N (m.upd id ⟨R.τ,[],R.ver+1,R.sv,Y⟩ U 0 []) E ⟨τ.bx,τ.rw.modify id λ R=>⟨R.τ,[],R.ver+1,R.sv,Y⟩⟩ tm I:=by
    refine c.to e ?_ rfl rfl rfl (WO g c.rows (λ _=>rfl) λ _ _ _ _ _ _ h=>h) ?_
    .show m.rw.set id _=τ.rw.modify id _;rw[<-c.rw,T2 g]
    .intro i f r p o e1 j;change i<X (m.rw.set id _) at p;change f<X (m.rw.set id _) at o;change (if i=id then U else m.r i)=Z r at e1;change (if f=id then U else m.r f)=Z r at j;simp at p o;split at e1<;>split at j<;>first|(cases e1;done)|(cases j;done)|exact c.rinj i f r p o e1 j
   let⟨m',y,x,w,v,u,t⟩:=WJ a k (λ i A=>by show i<X (m.rw.set id _);rw[fw];exact q i (aT _ A));refine⟨m',e.trans y,x,w,v,by rw[u];show(m.rw.set id _).length=_;rw[fw],λ i r h=>?_⟩;let⟨d,s⟩:=t i r h;have d:(if i=id then U else m.r i)=Z r:=d;split at d
   .cases d
   .next l=>exact⟨d,λ z=>(bi.1 z).elim l s⟩
def rx(m:Mp)(L:Nat):Prop:=∀id r,id<X m.rw->m.r id=Z r->r<L
def At(m:Mp)(t L n:Nat):Prop:=∀k,k<n->∃R,m.rw[t+k]?=Z R/\R.ver=0/\R.sv=0/\m.r (t+k)=Z (L+k)/\m.v (t+k)=0
theorem At.mono{m m' t L n}(h:At m t L n)(f:MLe m m')(e:∀(id:Nat) R R',m.rw[id]?=Z R->m'.rw[id]?=Z R'->R'=R):At m' t L n:=λ k g=>by
 let⟨R,c,o,l,j,i⟩:=h k g;let⟨R',d,_,_,p⟩:=f.row _ R c;cases e _ _ _ c d;let⟨_,a,b,_⟩:=p rfl;exact⟨R,d,o,l,a.trans j,b.trans i⟩
theorem At.join{m t L a b}(h:At m t L a)(g:At m (t+a) (L+a) b):At m t L (a+b):=λ k l=>by
 by_cases f:k<a
 .exact h k f
 .let⟨R,e,j,i,c,d⟩:=g (k-a) (by omega);rw[show t+a+(k-a)=t+k by omega]at e c d;rw[show L+a+(k-a)=L+k by omega]at c;exact⟨R,e,j,i,c,d⟩
theorem Yv(d:Rel N m E τ tm I){L a l}(n:rx m L)(p:I.rw[L]?=Z ⟨a.size,l.map (aI a),0,0,Y⟩):
  ∃m',MLe m m'/\Rel N m' E ⟨τ.bx,τ.rw++[⟨a,l,0,0,Y⟩]⟩ tm I/\OK m' (.row (X τ.rw) 0) (.rs L 0 (X l) 0 Y)/\rx m' (L+1)/\m'.b=m.b/\m'.nb=m.nb/\At m' (X τ.rw) L 1:=by
 have e:=AU m ⟨a,l,0,0,Y⟩ (Z L) 0 (l.map (aI a));have q:kn I ⟨a,l,0,0,Y⟩ (Z L) 0 (l.map (aI a)):=⟨⟨a.size,l.map (aI a),0,0,Y⟩,p,rfl,rfl,rfl,pE (jA a) l,aG _,λ _=>⟨rfl,rfl⟩⟩
 have i:Rel N (m.add ⟨a,l,0,0,Y⟩ (Z L) 0 (l.map (aI a))) E ⟨τ.bx,τ.rw++[⟨a,l,0,0,Y⟩]⟩ tm I:=by
  refine d.to e (by show m.rw++_=_;rw[d.rw]) rfl rfl rfl (G3 d.rows q λ _ _ h=>h) ?_;intro id c r f o e1 g;change id<X (m.rw++[_]) at f;change c<X (m.rw++[_]) at o;change (if id=X m.rw then Z L else m.r id)=Z r at e1;change (if c=X m.rw then Z L else m.r c)=Z r at g;simp at f o;split at e1<;>split at g
  .omega
  .have:=n c r (by omega) g;cases e1;omega
  .have:=n id r (by omega) e1;cases g;omega
  .exact d.rinj id c r (by omega) (by omega) e1 g
 refine⟨_,e,i,⟨⟨a,l,0,0,Y⟩,?_,aG _,.inr (.inr ⟨_,_,_,_,_,rfl⟩),λ _=>?_⟩,λ id r f e1=>?_,rfl,rfl,λ k s=>?_⟩
 .show(m.rw++_)[X τ.rw]?=_;rw[d.rw];simp
 .show gW (if X τ.rw=X m.rw then Z L else m.r (X τ.rw)) (if X τ.rw=X m.rw then 0 else m.v (X τ.rw)) a l _;rw[af (by rw[d.rw]),af (by rw[d.rw])];rfl
 .change id<X (m.rw++[_]) at f;change (if id=X m.rw then Z L else m.r id)=Z r at e1;simp at f;split at e1
  .cases e1;omega
  .have:=n id r (by omega) e1;omega
 .have j:k=0:=by omega
  subst j;exact⟨⟨a,l,0,0,Y⟩,by show(m.rw++_)[X τ.rw+0]?=_;rw[d.rw];simp,rfl,rfl,by show(if X τ.rw+0=X m.rw then Z L else _)=_;rw[af (by rw[d.rw,dP])];rfl,by show(if X τ.rw+0=X m.rw then 0 else _)=_;rw[af (by rw[d.rw,dP])]⟩
theorem NI{m m':Mp}{ls rw rw'}(h:m.rw=rw)(d:m'.rw=rw')(c:rw'=rw++ls):∀(id:Nat) R R',m.rw[id]?=Z R->m'.rw[id]?=Z R'->R'=R:=λ id R R' b a=>by
 rw[d,c,<-h,dq (getElem?_lt b),b]at a;exact(jp a).symm
theorem GG: ∀l {m τ L v},Rel N m E τ tm I->rx m L->(∀k Q,(nc l v)[k]?=some Q->I.rw[L+k]?=some Q)->
  ∃m',MLe m m'/\Rel N m' E ⟨τ.bx,τ.rw++lk l v⟩ tm I/\OKL m' (pX l τ.rw.length v) (kq l L v)/\rx m' (L+nR l)/\m'.b=m.b/\m'.nb=m.nb/\At m' τ.rw.length L (nR l)
 |[],m,τ,L,v,c,d,_=>⟨m,.refl m,by show Rel N m E ⟨τ.bx,τ.rw++[]⟩ tm I;rw[bK];exact c,rfl,d,rfl,rfl,λ k j=>absurd j (eY _)⟩
 |.val a::l,m,τ,L,v,c,d,g=>by
   obtain⟨m',f,e,i,p,o,n,h⟩:=GG l c d g;exact⟨m',f,e,(lN (jA a v.1)).append i,p,o,n,h⟩
 |.row a::l,m,τ,L,v,c,d,g=>by
   obtain⟨y,x,q,w,u,t,s,r⟩:=Yv c d (g 0 _ rfl)
   obtain⟨m',f,e,i,p,o,n,h⟩:=GG l q u λ k Q j=>by
    have:=g (k+1) Q j;rw[<-this];congr 1;omega
   rw[bA]at e;rw[aM]at i h
   exact⟨m',x.trans f,e,⟨_,_,rfl,w.mono f,i⟩,(by rw[nR,<-eI,QB];exact p),o.trans t,n.trans s,by
    rw[nR,qbZ];exact(r.mono f (NI q.rw e.rw (bA ..).symm)).join h⟩
theorem xj: ∀sas {m τ L o},Rel N m E τ tm I->rx m L->(∀k Q,(fe sas o)[k]?=some Q->I.rw[L+k]?=some Q)->
  ∃m',MLe m m'/\Rel N m' E ⟨τ.bx,τ.rw++fT sas o⟩ tm I/\BxL m' (jJ sas τ.rw.length o) (dI sas L o)/\rx m' (L+nrB sas)/\m'.b=m.b/\m'.nb=m.nb/\At m' τ.rw.length L (nrB sas)
 |[],m,τ,L,o,c,d,_=>⟨m,.refl m,by show Rel N m E ⟨τ.bx,τ.rw++[]⟩ tm I;rw[bK];exact c,rfl,d,rfl,rfl,λ k e=>absurd e (eY _)⟩
 |.nil::sas,m,τ,L,o,c,d,a=>xj sas c d a
 |.val _::sas,m,τ,L,o,c,d,a=>xj sas c d a
 |.row _::sas,m,τ,L,o,c,d,a=>xj sas c d a
 |.clo _ _::sas,m,τ,L,o,c,d,a=>xj sas c d a
 |.box l::sas,m,τ,L,o,c,d,a=>by
   have a:∀k Q,(nc l (toC l o.1)++fe sas o.2)[k]?=some Q->I.rw[L+k]?=some Q:=a;obtain⟨y,x,j,w,u,t,s,r⟩:=GG l (v:=toC l o.1) c d λ k Q e=>a k Q (by grind)
   obtain⟨m',g,f,i,q,p,n,h⟩:=xj sas j u λ k Q e=>by
    have:=a (nR l+k) Q (by rw[ej (by rw[oE];omega),oE,vM];exact e);rw[<-this,eI]
   rw[bA]at f;rw[aM,mO]at i h;exact⟨m',x.trans g,f,⟨_,_,rfl,w.mono g,i⟩,(by rw[nrB,<-eI];exact q),p.trans t,n.trans s,(r.mono g (NI j.rw f.rw (bA ..).symm)).join h⟩
theorem qop{τ τ' m'}(h:Rel N m E τ tm I)(e:m'=m)(a:τ'=τ):Rel N m' E τ' tm I:=by grind
theorem YX{rws:aa cc}{t0 L0 m m' rw ls}(h:m.rw=rw)(s:MLe m m')(u:m'.rw=rw++ls)(o:∀p R,rws[p]?=Z R->∃q,m.rw[t0+p]?=Z R/\R.ver=0/\R.sv=0/\m.r (t0+p)=Z q/\q=L0+p/\m.v (t0+p)=0/\m.q (t0+p)=R.l.map (aI R.τ)):
  ∀p R,rws[p]?=Z R->∃q,m'.rw[t0+p]?=Z R/\R.ver=0/\R.sv=0/\m'.r (t0+p)=Z q/\q=L0+p/\m'.v (t0+p)=0/\m'.q (t0+p)=R.l.map (aI R.τ):=λ p R t=>by
 let⟨q,d,n,k,j,i,g,f⟩:=o p R t;let⟨R',e,_,_,w⟩:=s.row _ R d;cases NI h u rfl _ _ _ d e;let⟨_,a,b,_,c,_⟩:=w rfl;exact⟨q,e,n,k,a.trans j,i,b.trans g,(c rfl).trans f⟩
theorem Rel.addBox{τ}(d:Rel N m E τ tm I){cs ds g}(h:I.bx[g]?=Z ds)(k:OKL m cs ds)(n:∀b,b<m.nb->m.b b≠g):
  ∃m',MLe m m'/\Rel N m' E ⟨τ.bx++[cs],τ.rw⟩ tm I/\(∀b,b<m'.nb->(b<m.nb/\m'.b b=m.b b)\/m'.b b=g)/\(m'.rw=m.rw/\m'.r=m.r/\m'.v=m.v/\m'.q=m.q):=by
 have e:MLe m ⟨λ i=>if i=m.nb then g else m.b i,m.nb+1,m.r,m.v,m.q,m.rw⟩:=⟨eB _,λ i o=>ae (BT o),λ id R h=>⟨R,h,ak _,ak _,λ _=>⟨rfl,rfl,rfl,rfl,λ _=>rfl,λ _ _ h=>h⟩⟩⟩
 refine⟨_,e,⟨d.len,λ t=>(d.env t).mono e,d.rw,by show m.nb+1=X (τ.bx++[cs]);rw[aM,d.nb];rfl,λ b cs' a=>?_,λ b c a k f=>?_,d.rows,d.rinj,MW e d.pin⟩,λ b a=>?_,rfl,rfl,rfl,rfl⟩
 .have a:=a;show ∃ds,I.bx[if b=m.nb then g else m.b b]?=Z ds/\_;by_cases j:b<X τ.bx
  .rw[dq j]at a;rw[ae (by rw[d.nb];exact BT j)];let⟨l,s,p⟩:=d.box b cs' a;exact⟨l,s,p.mono e⟩
  .have:b=X τ.bx:=by
     have:=getElem?_lt a;simp at this;omega
   subst this;rw[ej (ak _),mF]at a;cases a;rw[af d.nb.symm];exact⟨ds,h,k.mono e⟩
 .have a:b<m.nb+1:=a;have k:c<m.nb+1:=k;have f:(if b=m.nb then g else m.b b)=(if c=m.nb then g else m.b c):=f;split at f<;>split at f
  .omega
  .exact absurd f.symm (n c (by omega))
  .exact absurd f (n b (by omega))
  .exact d.inj b c (by omega) (by omega) f
 .have a:b<m.nb+1:=a;by_cases f:b=m.nb
  .exact .inr (af f)
  .exact .inl ⟨by omega,ae f⟩
theorem Hh{rws t0 L0 bn B NB}:∀c {m τ nb d v},Rel N m E τ tm I->rx m (L0+d)->τ.rw.length=t0+d->(∀p R,rws[p]?=some R->∃q,m.rw[t0+p]?=some R/\R.ver=0/\R.sv=0/\m.r (t0+p)=some q/\q=L0+p/\m.v (t0+p)=0/\m.q (t0+p)=R.l.map (aI R.τ))->yB rws c nb d v->(∀k Q,(ei c v)[k]?=some Q->I.rw[L0+d+k]?=some Q)->
  τ.bx.length=bn+(nb-NB)->NB<=nb->B+(nb-NB)+(iE c (L0+d) v).length<=I.bx.length->(∀b,b<m.nb->m.b b<B+(nb-NB))->(∀k ds,(iE c (L0+d) v)[k]?=some ds->I.bx[B+(nb-NB)+k]?=some ds)->
  ∃m',MLe m m'/\Rel N m' E ⟨τ.bx++yl c τ.rw.length v,τ.rw++yv c v⟩ tm I/\OKL m' (yt bn NB c τ.rw.length v) ((fp c (L0+d) v).map λ y=>match y with|.ptr n o=>.ptr (B+(n-NB)) o|y=>y)
 |[],m,τ,nb,d,v,i,_,_,_,_,_,_,_,_,_,_=>⟨m,.refl m,qop i rfl (by show(⟨τ.bx++[],τ.rw++[]⟩:TS)=τ;rw[bK,bK]),rfl⟩
 |.one (.val a)::c,m,τ,nb,d,v,i,C,G,z,A,j,h,g,f,t,e=>by
   obtain⟨m',x,w,u⟩:=Hh c i C G z A j h g f t e;refine⟨m',x,w,⟨_,_,rfl,?_,u⟩⟩;have:=Ib (m:=m') a v.1;show OK m' _ (match cx a v.1 with|.ptr n o=>.ptr (B+(n-NB)) o|y=>y);split
   .rename_i n o S;have L:=(wL (zZ a v.1)).1;rw[S]at L;cases L
   .exact this
 |.one (.row a)::c,m,τ,nb,d,v,i,C,G,z,A,j,h,g,f,t,e=>by
   obtain⟨P,F,D,K,M,a5,W,T⟩:=Yv i C (j 0 _ rfl)
   obtain⟨m',x,w,u⟩:=Hh c (d:=d+1) D M (by grind) (YX i.rw F D.rw z) A (λ k Q s=>by
    have:=j (k+1) Q s;rw[<-this];congr 1;omega) h g f (by grind) e
   rw[bA,aM]at w;rw[aM]at u;exact⟨m',F.trans x,w,⟨_,_,rfl,K.mono x,u⟩⟩
 |.agg l::c,m,τ,nb,d,v,i,C,G,z,A,j,h,g,f,t,e=>by
   have j:∀k Q,(nc l v.1++ei c v.2)[k]?=some Q->I.rw[L0+d+k]?=some Q:=j;obtain⟨P,F,D,K,M,a5,W,T⟩:=GG l (v:=v.1) i C λ k Q s=>j k Q (by grind)
   obtain⟨m',x,w,u⟩:=Hh c D (by grind) (by show(τ.rw++_).length=_;rw[aM,G,mO,eI]) (YX i.rw F D.rw z) A (λ k Q s=>by
    have:=j (nR l+k) Q (by rw[ej (by rw[oE];omega),oE,vM];exact s);rw[<-this];congr 1;omega) h g (by rw[<-eI];exact f) (by grind) (λ k ds s=>by rw[<-eI]at s;exact e k ds s)
   rw[bA,aM,mO]at w;rw[aM,mO,<-eI]at u;have H:OK m' (.agg (pX l τ.rw.length v.1)) (.agg (kq l (L0+d) v.1)):=⟨_,rfl,K.mono x⟩
   exact⟨m',F.trans x,w,⟨_,_,rfl,H,u⟩⟩
theorem ut{τ}:∀{sas xs a c d},cD τ sas xs=Z (a,c,d)->∀L o,X (jJ sas L o)=X c
 |[],xs,a,c,d,h,L,o=>by
   cases xs with
   |nil=>simp only[cD,dQ,fc]at h;rw[<-h.2.1];rfl
   |cons x xs=>simp[cD]at h
 |.nil::sas,xs,a,c,d,h,L,o=>by
   cases xs with
   |nil=>simp[cD]at h
   |cons x xs=>
     cases x with
     |nil=>exact ut (sas:=sas) h L o
     |_=>simp[cD]at h
 |.clo g k::sas,xs,a,c,d,h,L,o=>by
   cases xs with
   |nil=>simp[cD]at h
   |cons x xs=>
     cases x with
     |fn e cs=>
       simp[cD]at h;split at h<;>try cases h
       exact ut h L o
     |_=>simp[cD]at h
 |.val t::sas,xs,a,c,d,h,L,o=>by
   cases xs with
   |nil=>simp[cD]at h
   |cons x xs=>
     simp[cD]at h;split at h<;>try cases h
     split at h<;>cases h;next b=>exact ut b L o
 |.row t::sas,xs,a,c,d,h,L,o=>by
   cases xs with
   |nil=>simp[cD]at h
   |cons x xs=>
     simp[cD]at h;split at h<;>try cases h
     split at h<;>cases h;next b=>exact ut b L o
 |.box t::sas,xs,a,c,d,h,L,o=>by
   cases xs with
   |nil=>simp[cD]at h
   |cons x xs=>
     simp[cD]at h;split at h<;>try cases h
     split at h<;>cases h;next b=>rw[jJ,bE,bE,ut b _ o.2]
theorem uX: ∀{l},ndN l=O->l.Nodup
 |[],_=>lC
 |b::l,h=>by
   rw[ndN,aJ,bz]at h;refine ov.2 ⟨λ a=>?_,uX h.2⟩;have:=h.1 b a;simp at this
theorem In{f:Nat->Nat}:∀{l:aa Nat},l.Nodup->(∀a∈l,∀b∈l,f a=f b->a=b)->(l.map f).Nodup
 |[],_,_=>lC
 |b::l,h,e=>by
   rw[ov]at h;rw[aU,ov];refine⟨λ g=>?_,In h.2 λ a j c d=>e a (aT _ j) c (aT _ d)⟩;let⟨c,d,i⟩:=bF.1 g;have:=e c (aT _ d) b (aX ..) i;subst this;exact h.1 d
theorem IU{f:Nat->ab Nat}:∀{l:aa Nat},l.Nodup->(∀a∈l,∀b∈l,∀r,f a=Z r->f b=Z r->a=b)->(l.filterMap f).Nodup
 |[],_,_=>lC
 |b::l,h,i=>by
   rw[ov]at h;have g:=IU h.2 λ a m c d=>i a (aT _ m) c (aT _ d);cases e:f b with
   |none=>rw[QH e];exact g
   |some r=>
     rw[JF e,ov];refine⟨λ j=>?_,g⟩;let⟨c,d,k⟩:=nD.1 j;have:=i c (aT _ d) b (aX ..) r k e;subst this;exact h.1 d
theorem Vj{xs ys}(h:OKL m xs ys):OK m (AX xs) (cy ys):=by
 cases xs with
 |nil=>cases h;exact⟨[],rfl,rfl⟩
 |cons x xs=>
   obtain⟨y,r,rfl,d,c⟩:=h;cases xs with
   |nil=>cases c;exact d
   |cons x' xs=>
     obtain⟨a,b,rfl,f,e⟩:=c;exact(⟨y::a::b,rfl,y,_,rfl,d,a,_,rfl,f,e⟩:∃ds,AV.tup (y::a::b)=.tup ds/\OKL m (x::x'::xs) ds)
theorem qmv(b):∀rw,X (md rw b)=X rw:=by
 induction b with
 |nil=>intro rw;rfl
 |cons a b c=>
   intro rw;show(md (rw.modify a _) b).length=_;rw[c,qbP]
theorem qm3{f xs ys}(z:Rel N m E τ tm I)(ho:OKL m xs ys)(hh:c.has f=Y){g}(hg:c.mf f=Z g)(h:NW τ g xs K=Z r):Sim N m E τ tm I K r (iQ c.pc f I ys):=by
 let⟨t,sas,fn⟩:=g;unfold NW at h;split at h
 case h_2=>cases h
 rename_i x xs;split at h
 case h_2=>cases h
 rename_i l s a i ha;split at h
 case h_2=>cases h
 rename_i T
 replace i:ms τ.rw t x=Z (l,s):=i
 have an:s=[]\/∃id,s=[id]:=by
  unfold ms at i
  repeat' split at i
  all_goals first|(cases i;done)|(cases i;exact .inl rfl)|(cases i;exact .inr ⟨_,rfl⟩)
 have hs:cD τ (.row t::sas) (x::xs)=Z ((l,a),[],s):=by
  rw[cD,i];rw[ha];simp
 let⟨i1,_,i2,i3,i4,i5⟩:=MC z hs ho T
 have hp:∀σ' v R,hU I ys=R->dY I ys=[]->nX I ys=O->fn (l,a)=Z v->dS (bM I [] R) (.row t::sas) 0 0 (bt (λ b=>([]:aa Nat).idxOf b) (λ r=>R.idxOf r) ys)=Z (l,a)->Nat.beq (X v) (X l)=O->
   (match(bM I [] R).bx,(bM I [] R).rw with
    |[],[Q]=>Z (AV.tup [],Z (⟨[],[⟨Q.k,v.map (aI t),Q.ver,Q.fz,Q.off⟩],[],[0]⟩:St))
    |[],[]=>Z (.tup [],U)
    |_,_=>U)=Z (.tup [],σ')->iQ c.pc f I ys=Z (oS I [] R (.tup [],σ')):=by
  intro σ' v R B A h3 h4 h5 h6 h7;unfold iQ;have e1:c.pc.pf f=U:=by show(match c.has f with|true=>Z (cN c f)|false=>U)=_;rw[hh]
  have e2:c.pc.sp f=Z (mgP ⟨t,sas,fn⟩):=by show c.spf f=_;unfold TC.spf;rw[hg]
  rw[e1,e2];unfold fJ;rw[h3,A,B]
  have hm:mgP ⟨t,sas,fn⟩ (bM I [] R) (bt (λ b=>([]:aa Nat).idxOf b) (λ r=>R.idxOf r) ys)=Z (.tup [],σ'):=by
   unfold mgP;rw[h5];simp[h4,h6];exact h7
  simp only[hm]
 have G:∀R,s.filterMap m.r=R->hU I ys=R/\dY I ys=[]/\nX I ys=O/\dS (bM I [] R) (.row t::sas) 0 0 (bt (λ b=>([]:aa Nat).idxOf b) (λ r=>R.idxOf r) ys)=Z (l,a):=by
  intro R hR
  have nr:R.Nodup:=by
   rw[<-hR];obtain rfl|⟨id,rfl⟩:=an
   .exact lC
   .cases o:m.r id with
    |none=>rw[QH o];exact lC
    |some q=>rw[JF o];exact ov.2 ⟨sq,lC⟩
  have ar:∀q∈R,q<X I.rw:=λ q o=>by
   rw[<-hR]at o;let⟨id,B,A⟩:=nD.1 o;exact z.row_lt (i4 id B) A
  let⟨F,D,C⟩:=MG i1 (by grind) lC nr (λ b hb=>by cases hb) ar;have:=i5 [] [] lC (by grind);rw[hR]at this;exact⟨D,F,C,this⟩
 split at h
 case h_3=>cases h
 .rename_i id;let⟨v,hv,B⟩:=oB h;let⟨n,A⟩:=kh B;have P:=cm n;unfold ms at i;split at i
  .cases i
  .split at i<;>cases i
  .rename_i L a1;split at i<;>try cases i
   rename_i d u;split at i<;>try cases i
   rename_i w;rw[aJ,eD]at w;split at i<;>cases i;rename_i hc;let⟨e,he⟩:=kg hc;subst e;subst he;have aE:m.rw[id]?=Z d:=by rw[z.rw];exact u
   have j:=z.rows id d aE;have ad:τ.rw.modify id (λ R=>(⟨d.τ,v,R.ver,R.sv+1,Y⟩:cc))=τ.rw.set id ⟨d.τ,v,d.ver,d.sv+1,Y⟩:=T2 u;have h:=A;rw[ad]at h;cases o:m.r id with
   |none=>
     let⟨F,D,C,H⟩:=G [] (by grind);have p:=hp U v [] F D C hv H n rfl;rw[o]at j;have hn:=j w.2;have M:v=[]:=cR (by grind)
     let⟨m',g1,g2,_⟩:=z.rowUpd (R2:=⟨d.τ,v,d.ver,d.sv+1,Y⟩) u U (m.v id) (m.q id) (ak _) (eB _)
      (λ _=>⟨P,o.symm,rfl,rfl,λ _=>rfl,λ _ y hy=>by rw[M,<-hn];exact hy⟩) rfl (λ _=>M)
      (λ L r' B A h3=>⟨(by simp),λ Q hQ=>hQ⟩)
     exact⟨_,_,_,U,m',h,p,g1,g2,⟨[],rfl,rfl⟩,λ h=>by cases h⟩
   |some q=>
     let⟨F,D,C,H⟩:=G [q] (by grind);rw[o]at j;let⟨Q,k2,kc,kv,kk,kd,kf,ks⟩:=j;have S:(bM I [] [q]).rw=[Q]:=by show[I.rw.getD q ⟨0,[],0,0,Y⟩]=[Q];rw[gE k2]
     have p:=hp (Z ⟨[],[⟨Q.k,v.map (aI d.τ),Q.ver,Q.fz,Q.off⟩],[],[0]⟩) v [q] F D C hv H n (by rw[S];rfl);have ax:=getElem?_lt k2
     have az:oS I [] [q] (.tup [],Z ⟨[],[⟨Q.k,v.map (aI d.τ),Q.ver,Q.fz,Q.off⟩],[],[0]⟩)=(.tup [],Z {I with rw:=I.rw.set q ⟨Q.k,v.map (aI d.τ),Q.ver,Q.fz,Q.off⟩,wrr:=q::I.wrr}):=by
      simp[oS,pV,dh,ren,bt,cJ]
     rw[az]at p
     let⟨m',g1,g2,_⟩:=z.rowUpd (R2:=⟨d.τ,v,d.ver,d.sv+1,Y⟩) u (m.r id) (m.v id) (v.map (aI d.τ)) (ak _) (eB _)
      (λ _=>⟨P,rfl,rfl,rfl,(λ h=>by have:d.sv+1=d.sv:=h;omega),(λ h=>by rw[o]at h;cases h)⟩) (σ':={I with rw:=I.rw.set q ⟨Q.k,v.map (aI d.τ),Q.ver,Q.fz,Q.off⟩,wrr:=q::I.wrr}) rfl
      (by
       rw[o];refine⟨⟨Q.k,v.map (aI d.τ),Q.ver,Q.fz,Q.off⟩,by show(I.rw.set q _)[q]?=_;rw[gx ax],rfl,kv,kk,pE (jA d.τ) v,?_,λ _=>ks w.2⟩;rw[(ks w.2).1];exact aG _)
      (λ L a2 B A h3=>by
       have W:=z.others u o B A h3;refine⟨λ he=>by rw[o]at he;exact W (jp he).symm,λ Q' a0=>?_⟩;rw[kK (mC W)];exact a0)
     exact .to h p g1 g2 ⟨[],rfl,rfl⟩
  .cases i
 .let⟨v,hv,h⟩:=oB h;let⟨n,h⟩:=kh h;let⟨F,D,C,H⟩:=G [] rfl;have p:=hp U v [] F D C hv H n rfl;exact .same z h p ⟨[],rfl,rfl⟩
theorem qmu{f xs ys}(d:Rel N m E τ tm I)(ho:OKL m xs ys)(hh:c.has f=Y)(A:c.mf f=U){g}(hg:c.xf f=Z g)(h:NT τ g xs K=Z r):Sim N m E τ tm I K r (iQ c.pc f I ys):=by
 unfold NT at h;split at h
 case h_2=>cases h
 rename_i a H n u;split at h
 case h_2=>cases h
 rename_i k;rw[aJ,aJ]at k;let⟨j,i,e⟩:=k;let⟨v,W,h⟩:=oB h;let⟨T,_,S,i3,o,Q⟩:=MC d u ho e;have nb:=In (uX j) λ x t y s he=>d.inj x y (i3 x t).1 (i3 y s).1 he;have G:=IU (uX i) λ x t y s q e1 F=>d.rinj x y q (o x t) (o y s) e1 F
 have l:∀q∈n.filterMap m.r,q<X I.rw:=λ q hq=>by
  let⟨id,D,h2⟩:=nD.1 hq;exact d.row_lt (o id D) h2
 have p:(rrL ys++(H.map m.b).flatMap λ b=>rrL (I.bx.getD b []))=n.filterMap m.r:=by rw[JA];exact S
 let⟨P,M,L⟩:=MG T p nb G (λ b hb=>by obtain⟨b0,D,rfl⟩:=bF.1 hb;exact(i3 b0 D).2) l;have C:=Q [] [] nb G;generalize hB:H.map m.b=B at *;generalize hR:n.filterMap m.r=R at*
 have w:xgP g (bM I B R) (bt (λ b=>B.idxOf b) (λ r=>R.idxOf r) ys)=Z (.v (.int .i64 v),U):=by
  unfold xgP;have C:dS (bM I B R) g.args 0 0 (bt (λ b=>B.idxOf b) (λ r=>R.idxOf r) ys)=Z a:=C;rw[C];simp[W]
 have z:iQ c.pc f I ys=Z (.v (.int .i64 v),U):=by
  unfold iQ;have e1:c.pc.pf f=U:=by show(match c.has f with|true=>Z (cN c f)|false=>U)=_;rw[hh]
  have F:c.pc.sp f=Z (xgP g):=by show c.spf f=_;unfold TC.spf;rw[A,hg]
  rw[e1,F];unfold fJ;rw[L,P,M];simp only[w];rfl
 exact .same d h z rfl
theorem xh: ∀sas L o,X (jJ sas L o)=nBx sas
 |[],_,_=>rfl
 |.nil::sas,L,o|.clo _ _::sas,L,o|.val _::sas,L,o|.row _::sas,L,o=>xh sas L o
 |.box _::sas,L,o=>by rw[jJ,bE,xh sas _ o.2,nBx]
theorem nL: ∀sas L o,X (dI sas L o)=nBx sas
 |[],_,_=>rfl
 |.nil::sas,L,o|.clo _ _::sas,L,o|.val _::sas,L,o|.row _::sas,L,o=>nL sas L o
 |.box _::sas,L,o=>by rw[dI,bE,nL sas _ o.2,nBx]
theorem Vg: ∀c a xs,X (rM a c xs)=X a
 |[],a,xs=>by cases xs<;>rfl
 |b::c,a,[]=>rfl
 |b::c,a,x::xs=>by rw[rM,Vg c,fw]
theorem UH{β}:∀a (l c b:aa β),X c=X a->dh l a (c++b)=dh l a c++b
 |[],l,c,b,h=>by
   have:=cR h;simp[dh]
 |r::a,l,[],b,h=>by simp at h
 |r::a,l,k::c,b,h=>UH a (l.set r k) c b (by grind)
theorem Rel.moreBx{τ}(a:Rel N m E τ tm I)(xs):Rel N m E τ tm {I with bx:=I.bx++xs}:=
 ⟨a.len,a.env,a.rw,a.nb,λ b cs d=>by
  let⟨ds,c,e⟩:=a.box b cs d;exact⟨ds,by show(I.bx++xs)[_]?=_;rw[dq (getElem?_lt c)];exact c,e⟩,a.inj,a.rows,a.rinj,a.pin⟩
theorem Ng: ∀l v (p:Nat) R Q,(lk l v)[p]?=Z R->(nc l v)[p]?=Z Q->Q.c=R.l.map (aI R.τ)
 |[],v,p,R,Q,h,_=>by cases h
 |.val _::l,v,p,R,Q,h,g=>Ng l v.2 p R Q h g
 |.row a::l,v,0,R,Q,h,g=>by cases h;cases g;rfl
 |.row a::l,v,p+1,R,Q,h,g=>Ng l v.2 p R Q h g
theorem xo: ∀sas o (p:Nat) R Q,(fT sas o)[p]?=Z R->(fe sas o)[p]?=Z Q->Q.c=R.l.map (aI R.τ)
 |[],o,p,R,Q,h,_=>by cases h
 |.nil::sas,o,p,R,Q,h,g|.clo _ _::sas,o,p,R,Q,h,g|.val _::sas,o,p,R,Q,h,g|.row _::sas,o,p,R,Q,h,g=>xo sas o p R Q h g
 |.box l::sas,o,p,R,Q,h,g=>by
   have h:(lk l (toC l o.1)++fT sas o.2)[p]?=Z R:=h;have g:(nc l (toC l o.1)++fe sas o.2)[p]?=Z Q:=g;by_cases a:p<nR l
   .rw[dq (by rw[mO];exact a)]at h;rw[dq (by rw[oE];exact a)]at g;exact Ng l _ p R Q h g
   .rw[ej (by rw[mO];omega),mO]at h;rw[ej (by rw[oE];omega),oE]at g;exact xo sas o.2 _ R Q h g
theorem Yr{m:Mp}:∀{xs:aa TV}{ys:aa AV},OKL m xs ys->(∀x∈xs,x≠.dead)->fU ys=qc xs
 |[],ys,h,_=>by cases h;rfl
 |x::xs,ys,h,b=>by
   obtain⟨y,r,rfl,g,e⟩:=h;have a:=Yr e λ z c=>b z (aT _ c);have d:=b x (aX ..);cases x with
   |fn f cs=>obtain⟨ds,rfl,_⟩:=g;exact bB (f :: ·) a
   |dead=>exact absurd rfl d
   |_=>
     have:fU (y::r)=fU r:=by
      cases y<;>first|rfl|(exfalso;simp_all [OK,ye,GY,dlist,fD,dMc])
     rw[this];exact a
theorem ZR{τ:TS}:∀(sas:aa SA) {xs:aa TV}{p},cD τ sas xs=Z p->∀x∈xs,x≠.dead
 |[],xs,p,h=>by
   cases xs with
   |nil=>intro x i;cases i
   |cons x xs=>simp[cD]at h
 |s::r,[],p,h=>λ x i=>by cases i
 |s::r,x::xs,p,h=>by
   have d:x≠.dead/\∃q,(∃j,cD τ r (j++xs)=Z q):=by
    cases s with
    |val a=>
      simp only[cD]at h;split at h<;>try cases h
      rename_i b o;split at h<;>try cases h
      next c=>exact⟨λ e=>(by rw[e]at b;cases b),_,[],c⟩
    |row a=>
      simp only[cD]at h;split at h<;>try cases h
      rename_i b;split at h<;>try cases h
      next c=>exact⟨λ e=>(by rw[e]at b;cases b),_,[],c⟩
    |box l=>
      simp only[cD]at h;split at h<;>try cases h
      rename_i b;split at h<;>try cases h
      next c=>exact⟨λ e=>(by rw[e]at b;simp[P7,Jt]at b),_,[],c⟩
    |nil=>
      cases x<;>simp only[cD]at h<;>try cases h
      exact⟨(λ e=>by cases e),_,[],h⟩
    |clo g k=>
      cases x<;>simp only[cD]at h<;>try cases h
      split at h<;>try cases h
      exact⟨(λ e=>by cases e),_,_,h⟩
   let⟨n,q,j,m⟩:=d;intro y f;obtain rfl|f:=bi.1 f
   .exact n
   .exact ZR r m y (nA _ f)
theorem W1(fb fr:Nat->Nat):∀ys:aa AV,fU (bt fb fr ys)=fU ys
 |[]=>by rw[bt]
 |y::ys=>by
   rw[bt];have:=W1 fb fr ys;cases y<;>simp only[ren,fU,this]
theorem VG{f:Nat}{xs:aa TV}{ys:aa AV}(s:Rel N m E τ tm I)(ho:OKL m xs ys)(hh:c.has f=Y)(h:Iq c τ f xs K=Z r):Sim N m E τ tm I K r (iQ c.pc f I ys):=by
 unfold Iq at h;split at h
 .exact qm3 s ho hh ‹_› h
 rename_i a2;split at h
 .exact qmu s ho hh a2 ‹_› h
 rename_i a8;split at h
 case h_2=>cases h
 rename_i g0 g h0 hg;split at h
 case h_2=>cases h
 rename_i a S j w;split at h
 case h_2=>cases h
 rename_i a1;rw[aJ,aJ]at a1;let⟨a0,aE,az⟩:=a1;let⟨v,hv,h⟩:=oB h;let⟨e,i,h,t,an⟩:=LL g.res (nBx g.args) (nrB g.args) v.2 (by rw[nJ];exact ak _) h;let⟨i1,_,i2,i3,i4,i5⟩:=MC s w ho az;have nb:=In (f:=m.b) (uX a0) λ x hx y hy he=>s.inj x y (i3 x hx).1 (i3 y hy).1 he;have nr:=IU (f:=m.r) (uX aE) λ x hx y hy q e1 e2=>s.rinj x y q (i4 x hx) (i4 y hy) e1 e2
 have a6:∀q∈j.filterMap m.r,q<X I.rw:=λ q hq=>by
  let⟨id,u,P⟩:=nD.1 hq;exact s.row_lt (i4 id u) P
 have a7:(rrL ys++(S.map m.b).flatMap λ b=>rrL (I.bx.getD b []))=j.filterMap m.r:=by rw[JA];exact i2
 let⟨s1,s2,s3⟩:=MG (I:=I) i1 a7 nb nr (λ b W=>by obtain⟨b0,u,rfl⟩:=bF.1 W;exact(i3 b0 u).2) a6;have hd:=i5 [] [] nb nr;rw[eZ,eZ]at hd;have b3:=ut w (X I.rw) v.1;have M:X (S.map m.b)=nBx g.args:=by rw[bO,<-b3,xh]
 generalize hB:S.map m.b=B at *;generalize hR:j.filterMap m.r=R at *;have a9:(bM I B R).rw.length=X R:=bO ..
 have bb:sgP g (bM I B R) (bt (λ b=>B.idxOf b) (λ r=>R.idxOf r) ys)=Z (cy (fp e (X R+nrB g.args) i),Z ⟨dI g.args (X R) v.1++iE e (X R+nrB g.args) i,(bM I B R).rw.map fG++(fe g.args v.1++ei e i),List.range (bM I B R).bx.length,List.range (bM I B R).rw.length⟩):=by
  unfold sgP;have hd:dS (bM I B R) g.args 0 0 (bt (λ b=>B.idxOf b) (λ r=>R.idxOf r) ys)=Z a:=hd;rw[hd];simp only[hv];rw[a9];exact an _
 have bm:iQ c.pc f I ys=Z (cy ((fp e (X I.rw+nrB g.args) i).map λ y=>match y with|.ptr n o=>.ptr (X I.bx+(n-nBx g.args)) o|y=>y),Z (pV I B R ⟨dI g.args (X R) v.1++iE e (X R+nrB g.args) i,(bM I B R).rw.map fG++(fe g.args v.1++ei e i),List.range (bM I B R).bx.length,List.range (bM I B R).rw.length⟩)):=by
  unfold iQ;have e1:c.pc.pf f=U:=by show(match c.has f with|true=>Z (cN c f)|false=>U)=_;rw[hh]
  have e2:c.pc.sp f=Z (sgG c f):=by show c.spf f=_;unfold TC.spf;rw[a2,a8,h0]
  have e3:sgG c f (bM I B R) (bt (λ b=>B.idxOf b) (λ r=>R.idxOf r) ys)=sgP g (bM I B R) (bt (λ b=>B.idxOf b) (λ r=>R.idxOf r) ys):=by
   unfold sgG;rw[W1,Yr ho (ZR _ w),hg]
  rw[e1,e2];simp only;unfold fJ;rw[s3,s1,s2];simp only[e3,bb,oS];rw[qmL,Hb e (nBx g.args) (nrB g.args) i (BX M) t,M]
 let⟨m1,k1,k2,k3,k4,k5,k6⟩:=WJ j s i4;let⟨l',l1,C,l3⟩:=LP R I.rw ((bM I B R).rw.map fG) (fe g.args v.1++ei e i) (by rw[bO];exact bO ..);have a5:X (dI g.args (X I.rw) v.1)=X B:=by rw[M,nL]
 have bp:pV I B R ⟨dI g.args (X R) v.1++iE e (X R+nrB g.args) i,(bM I B R).rw.map fG++(fe g.args v.1++ei e i),List.range (bM I B R).bx.length,List.range (bM I B R).rw.length⟩=⟨dh I.bx B (dI g.args (X I.rw) v.1)++iE e (X I.rw+nrB g.args) i,l'++(fe g.args v.1++ei e i),(List.range (bM I B R).bx.length).map (cJ B (X I.bx))++I.wr,(List.range (bM I B R).rw.length).map (cJ R (X I.rw))++I.wrr⟩:=by
  unfold pV;have u:=xl (B:=B) (R:=R) (bn:=X I.bx) (rn:=X I.rw) g.args 0 v.1;have P:=GL (B:=B) (R:=R) (bn:=X I.bx) (rn:=X I.rw) e _ _ i t;rw[dP,dP]at u;simp only[eK,u,P,l1,UH _ _ _ _ a5]
 have a3:rx m1 (X I.rw):=λ id r u P=>s.row_lt (by rw[<-k5];exact u) (k6 id r P).1;let σ':St:=⟨I.bx,l'++(fe g.args v.1++ei e i),(List.range (bM I B R).bx.length).map (cJ B (X I.bx))++I.wr,(List.range (bM I B R).rw.length).map (cJ R (X I.rw))++I.wrr⟩
 have ax:Rel N m1 E ⟨τ.bx,md τ.rw j⟩ tm σ':=by
  refine k2.rowsTo rfl λ id Rw G=>(k2.rows id Rw G).later λ q Q hq hQ=>?_;let⟨A,q2⟩:=k6 id q hq;have bl:=s.row_lt (by rw[<-k5];exact getElem?_lt G) A;show(l'++_)[q]?=_;rw[dq (by rw[C];exact bl),l3 q λ hm=>?_]
  .exact hQ
  .rw[<-hR]at hm;let⟨ad,u,P⟩:=nD.1 hm;have:=s.rinj id ad q (by rw[<-k5];exact getElem?_lt G) (i4 ad u) A P;subst this;exact q2 u
 let⟨m2,z1,z2,z3,z4,z5,z6,z7⟩:=xj g.args (L:=X I.rw) (o:=v.1) ax a3 λ k Q T=>by
  show(l'++(fe g.args v.1++ei e i))[X I.rw+k]?=_;rw[ej (by rw[C];omega),C,vM,dq (getElem?_lt T)];exact T
 have l:X (md τ.rw j)=X τ.rw:=qmv j τ.rw;have z3:BxL m2 (jJ g.args (X (md τ.rw j)) v.1) (dI g.args (X I.rw) v.1):=z3;have z7:At m2 (X (md τ.rw j)) (X I.rw) (nrB g.args):=z7;rw[l]at z3 z7;have a4:=VK S (xs:=jJ g.args (X τ.rw) v.1) (ys:=dI g.args (X I.rw) v.1) z2 z3 (ut w _ v.1) λ b W=>by rw[z6,k3];exact(i3 b W).1
 rw[z5,k4,hB]at a4
 have D:X (dh I.bx B (dI g.args (X I.rw) v.1))=X I.bx:=by
  let⟨lb,b1,b2,_⟩:=LP B I.bx (dI g.args (X I.rw) v.1) [] a5;rw[bK,bK]at b1;rw[b1,b2]
 have z:=a4.moreBx (iE e (X I.rw+nrB g.args) i);have ar:X (rM τ.bx S (jJ g.args (X τ.rw) v.1))=X τ.bx:=Vg _ _ _
 let⟨m3,y1,y2,y3⟩:=Hh (rws:=fT g.args v.1) (t0:=X τ.rw) (L0:=X I.rw) (bn:=X τ.bx) (B:=X I.bx) (NB:=nBx g.args) e (nb:=nBx g.args) (d:=nrB g.args) (v:=i) z z4 (by show(md τ.rw j++fT g.args v.1).length=_;rw[aM,l,nJ]) (λ p R hp=>by
   have F:=getElem?_lt hp;rw[nJ]at F;let⟨R',g1,g2,g3,g4,g5⟩:=z7 p F
   have H:m2.rw[X τ.rw+p]?=Z R:=by
    rw[z2.rw];show(md τ.rw j++fT g.args v.1)[_]?=_;rw[ej (by rw[l];omega),l,vM];exact hp
   cases H.symm.trans g1;refine⟨_,H,g2,g3,g4,rfl,g5,?_⟩;have hg:=z.rows _ _ H;rw[g4]at hg;let⟨Q,A,q2,_⟩:=hg;rw[<-q2];have A:(l'++(fe g.args v.1++ei e i))[X I.rw+p]?=Z Q:=A;rw[ej (by rw[C];omega),C,vM,dq (by rw[pG];exact F)]at A;exact xo g.args v.1 p _ _ hp A) t (λ k Q T=>by
  show(l'++(fe g.args v.1++ei e i))[X I.rw+nrB g.args+k]?=_;rw[ej (by rw[C];omega),C,show X I.rw+nrB g.args+k-X I.rw=nrB g.args+k by omega,ej (by rw[pG];omega),pG,vM]
  exact T) (by show(rM τ.bx S (jJ g.args (X τ.rw) v.1)).length=_;rw[ar,mF,dP]) (ak _) (by rw[mF,dP];show _<=X (dh I.bx B (dI g.args (X I.rw) v.1)++_);rw[aM,D];exact ak _) (λ b W=>by
   rw[mF,dP,z5,k4];rw[z6,k3]at W;let⟨ds,d1,_⟩:=s.box b _ (aS (by rw[<-s.nb];exact W));exact getElem?_lt d1) (λ k ds T=>by
   rw[mF,dP];show(dh I.bx B (dI g.args (X I.rw) v.1)++_)[_]?=_;rw[ej (by rw[D];omega),D,vM];exact T)
 have y2:Rel N m3 E ⟨rM τ.bx S (jJ g.args (X τ.rw) v.1)++yl e (X (md τ.rw j++fT g.args v.1)) i,(md τ.rw j++fT g.args v.1)++yv e i⟩ tm _:=y2;rw[bA,aM,l,nJ]at y2;have y3:OKL m3 (yt (X τ.bx) (nBx g.args) e (X (md τ.rw j++fT g.args v.1)) i) _:=y3;rw[aM,l,nJ]at y3;rw[bm,bp];exact .to h rfl (k1.trans (z1.trans y1)) y2 (Vj y3)
end
abbrev JJ:=@TC.lo_eq
end
section
open RowKit
section
variable {α:Type}{N:Nat×Nat}{m:Mp}{E:Env}{τ:TS}{tm:aa AV}{I:St}{K:KT α}{r:α}{p:ab (AV×ab St)}{c:TC}{C:Cfg}
theorem qo9{rw:aa cc}{a:Ty}{f:Nat}{cs:aa TV}{v:Val a}(h:jD rw a (.fn f cs)=Z v):False:=by
 unfold jD at h;cases a with
 |int k|bool|str|list a|map a b|term|pair a b|one a=>cases h
theorem UO{I b a:Type}{p:I->ab b}{q:aa I->ab a}{xs:aa I}{v:b×a}(h:oZ p q xs=Z v):∃x r,xs=x::r/\p x=Z v.1/\q r=Z v.2:=by
 unfold oZ at h;split at h<;>try cases h
 split at h<;>try cases h
 split at h<;>cases h;exact⟨_,_,rfl,by assumption,by assumption⟩
theorem Mm(g:eu m I):∀(ts:aa ATy) {xs:aa TV}{ys:aa AV}{v:lf ts},Im m.rw ts xs=Z v->OKL m xs ys->
  oH ts (ys.map (cE I.rw))=Z v/\fU (ys.map (cE I.rw))=qc xs/\noRefs (ys.map (cE I.rw))=O
 |[],xs,ys,v,h,c=>by
   cases xs with
   |nil=>cases c;exact⟨rfl,rfl,rfl⟩
   |cons x xs=>cases h
 |.val a::ts,xs,ys,v,h,c=>by
   obtain⟨x,xs,rfl,k,f⟩:=UO h;obtain⟨y,r,rfl,p,i⟩:=c;let⟨l,_⟩:=rk g k p;let⟨e,d,b⟩:=Mm g ts f i;let⟨n,j⟩:=zN l;refine⟨?_,?_,?_⟩
   .show oZ _ _ (cE I.rw y::r.map (cE I.rw))=_;simp only[oZ,l,e]
   .rw[aU]
    have e1:fU (cE I.rw y::r.map (cE I.rw))=fU (r.map (cE I.rw)):=by
     generalize cE I.rw y=z at j;cases z<;>first|rfl|exact absurd rfl (j _ _)
    have q:qc (x::xs)=qc xs:=by
     cases x<;>first|rfl|exact(qo9 k).elim
    rw[e1,q,d]
   .rw[aU];unfold noRefs at b |-
    rw[dy,n,b];rfl
 |.fn::ts,xs,ys,v,h,c=>by
   change pFn _ xs=_ at h;unfold pFn at h;split at h
   case h_2=>cases h
   obtain⟨y,r,rfl,⟨ds,rfl,o⟩,i⟩:=c;cases o;let⟨e,d,b⟩:=Mm g ts h i;refine⟨e,?_,?_⟩
   .show _::fU _=_::qc _;rw[d]
   .unfold noRefs at b |-
    rw[aU,dy,b];rfl
theorem Yn:∀(ts:aa Ty) (v:kz ts),OKL m (unL ts v) (fR ts v)/\noRefs (fR ts v)=O
 |[],_=>⟨rfl,rfl⟩
 |[a],v=>⟨⟨_,_,rfl,Ib a v,rfl⟩,by show(dG (cx a v)&&O)=O;rw[zZ];rfl⟩
 |a::b::r,v=>by
   let⟨d,c⟩:=Yn (b::r) v.2;refine⟨⟨_,_,rfl,Ib a v.1,d⟩,?_⟩;show(dG (cx a v.1)&&noRefs (fR (b::r) v.2))=O;rw[zZ,c];rfl
theorem VF{l:aa AV}(h:noRefs l=O):dG (.tup l)=O:=by
 have:=FH h;unfold dG;rw[rb,rr,this.1,this.2];rfl
theorem qpf{xs:aa TV}{ys:aa AV}(h:OKL m xs ys)(a:noRefs ys=O):OK m (AX xs) (cy ys)/\dG (cy ys)=O:=by
 cases xs with
 |nil=>cases h;exact⟨⟨[],rfl,rfl⟩,rfl⟩
 |cons x xs=>
   obtain⟨y,r,rfl,c,b⟩:=h;cases xs with
   |nil=>
     cases b
     have:dG y=O:=by
      unfold noRefs at a;simpa using a
     exact⟨c,this⟩
   |cons x' xs=>
     obtain⟨f,g,rfl,e,d⟩:=b;exact⟨⟨_,rfl,⟨_,_,rfl,c,_,_,rfl,e,d⟩⟩,VF a⟩
theorem WF{a:Ty}(h:Be a=O)(v:Val a):isV (cx a v)=O:=by
 cases a<;>first|rfl|(cases h)
theorem WB:∀{ts:aa Ty} (v:kz ts),ts.all Be=O->(fR ts v).all isV=O
 |[],_,_=>rfl
 |[a],v,h=>by
   have:Be a=O:=by simpa using h
   show(isV (cx a v)&&O)=O;rw[WF this];rfl
 |a::b::r,v,h=>by
   rw[dy,aJ]at h;show(isV (cx a v.1)&&(fR (b::r) v.2).all isV)=O;rw[WF h.1,WB v.2 h.2];rfl
theorem qoN{ts:aa Ty}{v:kz ts}(h:ts.all Be=O):rD (cy (fR ts v))=O:=by
 have:=WB v h;revert this;cases fR ts v with
 |nil=>intro _;rfl
 |cons x l=>
   cases l with
   |nil=>
     intro a;have a:isV x=O:=by simpa using a
     show rD x=O;cases x<;>first|rfl|(cases a)
   |cons y l=>intro a;exact a
theorem qn2{f:Nat}{xs:aa TV}{ys:aa AV}(b:Rel N m E τ tm I)(j:OKL m xs ys)(h:OP c τ f xs K=Z r):Sim N m E τ tm I K r (iQ c.pc f I ys):=by
 unfold OP at h;split at h
 case h_2=>cases h
 case h_3 k=>exact VG b j k h
 rename_i g k s;split at h<;>try cases h
 rename_i a n;let⟨v,o,h⟩:=oB h;rw[<-b.rw]at n;let⟨w,u,t⟩:=Mm b.rows g.args n j;let⟨e1,y⟩:=Yn (m:=m) g.res v;let⟨e,x⟩:=qpf e1 y;have q:c.pc.pf f=Z (cN c f):=by show(match c.has f with|true=>Z (cN c f)|false=>U)=_;rw[k]
 have p:cN c f (ys.map (cE I.rw))=Z (cy (fR g.res v)):=by
  unfold cN;rw[u,s];simp only[w,o]
 have i:iQ c.pc f I ys=match rD (cy (fR g.res v)),ys.flatMap rsA with
   |true,_|_,[]=>Z (cy (fR g.res v),U)
   |_,r::l=>Z (cy (fR g.res v),Z {I with rw:=frz I.rw (r::l),wrr:=(r::l)++I.wrr}):=by
  unfold iQ;simp only[q,t,p,x];rfl
 rw[i];split at h
 .rename_i d;obtain d|d:=Bool.or_eq_true_iff.1 d
  .rw[M7 d j];refine .same b h ?_ e;cases rD (cy (fR g.res v))<;>rfl
  .rw[qoN d];exact .same b h rfl e
 .split
  .exact⟨_,Z (shA τ),_,U,shM m,h,rfl,oL m,b.share rfl b.rows.sh,e.mono (oL m),λ h=>by cases h⟩
  .exact⟨_,Z (shA τ),_,U,shM m,h,rfl,oL m,b.share rfl b.rows.sh,e.mono (oL m),λ h=>by cases h⟩
  .exact .to h rfl (oL m) (b.share (σ':={I with rw:=frz I.rw _,wrr:=_}) rfl (b.rows.frz _ _)) (e.mono (oL m))
end
end
section
open RowKit
section
variable {α:Type}{N:Nat×Nat}{m:Mp}{E:Env}{τ:TS}{tm:aa AV}{I:St}{K:KT α}{r:α}{p:ab (AV×ab St)}{c:TC}{C:Cfg}
theorem Oc{a:Ty}{b:aa (aa AV)}{l:aa (Val a)}(h:bU (bu a) b=Z l):uni a.size b=O:=by
 unfold uni;rw[bz];intro e d;let⟨i,c⟩:=mD d;let⟨v,_,f⟩:=oC h c;let⟨pre,k,j,g,_⟩:=iM a (dO.1 f);grind
theorem Ma{n bytes:Nat}(h:bD n bytes=O):n*bytes<=2^47/\n<2^62:=bG h
theorem YU{bytes:Nat}{a:Ty}{s:TV}{xs:aa (Val a)}{y:AV}{b:aa (aa AV)}(u:Rel N m E τ tm I)(ho:OK m s y)(hd:bU (bu a) b=Z xs)(h:I0 a.size bytes τ a s xs K=Z r):
  Sim N m E τ tm I K r (eM a.size bytes I y b):=by
 have d:=dU hd;unfold I0 at h;split at h
 .-- nil
  cases ho;unfold jE at h;split at h
  .have:b=[]:=cR (by simpa using d);subst this;exact .same u h rfl rfl
  .rename_i x A;let⟨h1,h⟩:=kh h;let⟨q1,q2⟩:=Ma h1;let⟨m',L,g2,g3⟩:=u.rowNew hd;have G:bJ (fS b) 0=Y:=by simp[bJ,fS,d]
   have F:X b=X A+1:=by simpa using d
   have t:rowNew a.size bytes b=Z (⟨a.size,b,0,0,Y⟩,X b):=by
    grind [rowNew]
   refine .to h (y:=.rs (X I.rw) 0 (X b) 0 Y) (by simp only[eM,G,t]) L g2 ?_;rw[d];exact g3
 .-- a list
  rename_i a' l lv;split at h<;>try cases h
  rename_i z;have z:=bG z;split at h<;>try cases h
  rename_i l hl;obtain⟨e,rfl⟩:=kg hl;subst e;let⟨h1,h⟩:=kh h;let⟨q1,q2⟩:=Ma h1;unfold jE at h;split at h
  .have:b=[]:=cR (by simpa using d);subst this;refine .same u h ?_ ho;obtain⟨rfl,_⟩|⟨g,n,rfl,_⟩:=fC ho.1<;>rfl
  rename_i x A _;have G:bJ (fS b) 0=Y:=by simp[bJ,fS,d]
  have F:X b=X A+1:=by simpa using d
  let⟨a1,a0⟩:=ho;obtain⟨rfl,W⟩|⟨g,n,rfl,h2⟩:=fC a1
  .have W:l=[]:=W;subst W;let⟨m',L,g2,g3⟩:=u.rowNew hd
   have t:rowNew a'.size bytes b=Z (⟨a'.size,b,0,0,Y⟩,X b):=by
    grind [rowNew]
   refine .to h (y:=.rs (X I.rw) 0 (X b) 0 Y) (by simp only[eM,G,t]) L g2 ?_;rw[d];exact g3
  .have C:=qR h2 hd;have T:=dU C;let⟨m',L,g2,g3⟩:=u.rowNew C
   have t:rowNew a'.size bytes (oa g b)=Z (⟨a'.size,oa g b,0,0,Y⟩,X (oa g b)):=by
    grind [rowNew,oa]
   have hc:(J (1<n+1)&&bJ a'.size a'.size&&uni a'.size g)=O:=by
    have:1<n+1:=dl z a0;simp only[bg this,bJ,ij,Oc h2,lE]
   refine .to h (y:=.rs (X I.rw) 0 (X (oa g b)) 0 Y) (by simp only[eM,G,hc,t];rfl) L g2 ?_;show OK m' _ (.rs _ 0 (X (g++b)) 0 Y);rw[T];exact g3
 .-- a row
  rename_i id D;split at h<;>try cases h
  rename_i R H;split at h<;>try cases h
  rename_i hv;have hv:R.ver=D:=cm hv;split at h<;>try cases h
  rename_i l hl;obtain⟨e,rfl⟩:=kg hl;subst e;let⟨h1,h⟩:=kh h;let⟨q1,q2⟩:=Ma h1;let⟨R',L,g2,g3,g4⟩:=ho;rw[u.rw,H]at L;cases L;have a2:m.rw[id]?=Z R:=by rw[u.rw];exact H
  have gy:=g4 hv;clear g4;subst hv;obtain⟨rr,Q,B,hy,k1,k2,kv,k3,k4,kf,ks⟩|⟨B,hq,hy,z⟩:=rp u.rows a2 gy
  .have a3:=dU k4;have aE:rr<X I.rw:=getElem?_lt k1;by_cases he:xs=[]
   .subst he;have:b=[]:=cR (by simpa using d);subst this
    let⟨m',S,P,M⟩:=u.rowUpd (R2:=⟨R.τ,R.l++[],R.ver+1,R.sv,R.sh⟩) H (m.r id) (m.v id) (m.q id) (eB _) (ak _) (λ h=>by have:R.ver+1=R.ver:=h;omega) (σ':=I) rfl
     (by rw[B];exact⟨Q,k1,k2,kv,k3,by rw[bK];exact k4,kf,ks⟩) λ k j w o i=>⟨λ p=>by rw[B]at p;exact u.others H B w o i (jp p).symm,λ _ h=>h⟩
    refine⟨_,Z _,y,U,m',h,by rw[hy];rfl,S,P,M y ?_,λ h=>by cases h⟩;grind
   .have G:bJ (fS b) 0=Y:=by
      grind [bJ,fS]
    have ad:Bm Q R.τ.size 0 (X Q.c) Q.ver Y bytes b=Z ({Q with c:=Q.c++b,ver:=Q.ver+1},X Q.c+X b):=by
     grind [Bm]
    let⟨m',S,P,M⟩:=u.rowUpd (R2:=⟨R.τ,R.l++xs,R.ver+1,R.sv,R.sh⟩) H (Z rr) (Q.ver+1) (Q.c++b) (eB _) (ak _) (λ h=>by have:R.ver+1=R.ver:=h;omega)
     (σ':={I with rw:=I.rw.set rr {Q with c:=Q.c++b,ver:=Q.ver+1},wrr:=rr::I.wrr}) rfl
     ⟨{Q with c:=Q.c++b,ver:=Q.ver+1},by show(I.rw.set rr _)[rr]?=_;rw[gx aE],rfl,rfl,k3,qR k4 hd,by show Q.fz<=X (Q.c++b);rw[aM];omega,ks⟩ λ k j w o i=>by
      have ar:=u.others H B w o i;exact⟨λ p=>ar (jp p).symm,λ Q' an=>by show(I.rw.set rr _)[j]?=_;rw[kK (mC ar)];exact an⟩
    refine .to h (y:=.rs rr 0 (X Q.c+X b) (Q.ver+1) Y) (by rw[hy];simp only[eM,G,k1,ad]) S P (M _ ?_);show _=AV.rs rr 0 (X (R.l++xs)) (Q.ver+1) Y;grind
  .have ax:∀k j,k≠id->k<X m.rw->m.r k=Z j->j<X I.rw:=λ _ _ _ o h=>u.row_lt o h;by_cases he:xs=[]
   .subst he;have:b=[]:=cR (by simpa using d);subst this
    let⟨m',S,P,M⟩:=u.rowUpd (R2:=⟨R.τ,R.l++[],R.ver+1,R.sv,R.sh⟩) H U 0 [] (eB _) (ak _) (λ h=>by have:R.ver+1=R.ver:=h;omega) (σ':=I) rfl
     (λ hs=>by show R.l++[]=[];rw[hq hs];rfl) λ k j w o i=>⟨λ p=>(by cases p),λ _ h=>h⟩
    refine⟨_,Z _,y,U,m',h,?_,S,P,M y ⟨by show dlist R.τ y=Z (R.l++[]);rw[bK];exact hy,z⟩,λ h=>by cases h⟩;obtain⟨rfl,_⟩|⟨b,n,rfl,_⟩:=fC hy<;>rfl
   .have G:bJ (fS b) 0=Y:=by
      grind [bJ,fS]
    have az:∀f,bU (bu R.τ) f=Z (R.l++xs)->eM R.τ.size bytes I y b=(match Go.AmZ.rowNew R.τ.size bytes f with|some (R,n)=>Z (.rs (X I.rw) 0 n 0 Y,Z {I with rw:=I.rw++[R]})|none=>U)->Sim N m E τ tm I K r (eM R.τ.size bytes I y b):=by
     intro f C ad;have F:=dU C;rw[aM]at F
     have t:rowNew R.τ.size bytes f=Z (⟨R.τ.size,f,0,0,Y⟩,X f):=by
      grind [rowNew]
     let⟨m',S,P,M⟩:=u.rowUpd (R2:=⟨R.τ,R.l++xs,R.ver+1,R.sv,R.sh⟩) H (Z (X I.rw)) 0 f (eB _) (ak _) (λ h=>by have:R.ver+1=R.ver:=h;omega)
      (σ':={I with rw:=I.rw++[⟨R.τ.size,f,0,0,Y⟩]}) rfl
      ⟨⟨R.τ.size,f,0,0,Y⟩,by show(I.rw++[_])[X I.rw]?=_;simp,rfl,rfl,rfl,C,aG _,λ _=>⟨rfl,rfl⟩⟩ λ k j w o i=>by
        have:=ax k j w o i;exact⟨λ p=>by have:=jp p;omega,λ Q' an=>by show(I.rw++[_])[j]?=_;rw[dq this];exact an⟩
     refine .to h (y:=.rs (X I.rw) 0 (X f) 0 Y) (by rw[ad,t]) S P (M _ ?_);show _=AV.rs (X I.rw) 0 (X (R.l++xs)) 0 Y;rw[aM,F]
    obtain⟨rfl,hl⟩|⟨g,n,rfl,hl⟩:=fC hy
    .grind [eM]
    .have hc:(J (1<n+1)&&bJ R.τ.size R.τ.size&&uni R.τ.size g)=O:=by
       have:1<n+1:=z;simp only[bg this,bJ,ij,Oc hl,lE]
     exact az (oa g b) (qR hl hd) (by simp only[eM,G,hc];rfl)
 .cases h
end
end
section
open RowKit
section
variable {α:Type}{N:Nat×Nat}{m:Mp}{E:Env}{τ:TS}{tm:aa AV}{I:St}{K:KT α}{r:α}{p:ab (AV×ab St)}{c:TC}{C:Cfg}
theorem UW{m':Mp}:∀{xs:aa TV}{ys:aa AV},(xs.all λ|.i .. |.b _|.s _|.c _|.nil|.sl .. => O|_=>Y)=O->OKL m xs ys->OKL m' xs ys
 |[],_,_,h=>h
 |x::xs,_,h,⟨y,r,rfl,d,a⟩=>by
   rw[dy,aJ]at h;refine⟨y,r,rfl,?_,UW h.2 a⟩;have h:=h.1;cases x<;>first|exact d|(cases h)
theorem qni{m':Mp}{x:TV}{y:AV}(h:Og x=O)(a:OK m x y):OK m' x y:=by
 cases x with
 |fn f cs=>
   have:cs=[]:=by simpa[Og,pg]using h
   subst this;obtain⟨ds,rfl,b⟩:=a;cases b;exact⟨[],rfl,rfl⟩
 |agg cs=>
   obtain⟨ds,rfl,b⟩:=a;exact⟨ds,rfl,UW h b⟩
 |_=>first|exact a|(cases h)
structure ml (m:Mp) (tm:List AV) (I:St) (M:Mv) (m':Mp):Prop where
 rw:m'.rw=M.rw
 nb:m'.nb=M.bx.length
 box:∀b cs,M.bx[b]?=Z cs->∃ds,I.bx[m'.b b]?=Z ds/\OKL m' cs ds
 src:∀b',b'<m'.nb->∃b,ew M.mb b=Z b'/\m'.b b'=m.b b/\b<m.nb
 mb:∀b b',ew M.mb b=Z b'->b'<m'.nb/\m'.b b'=m.b b
 rows:eu m' I
 rsrc:∀id' r,id'<m'.rw.length->m'.r id'=Z r->∃id,ew M.mr id=Z id'/\m.r id=Z r/\id<m.rw.length
 mr:∀id id',ew M.mr id=Z id'->∃R R',m.rw[id]?=Z R/\m'.rw[id']?=Z R'/\R'.ver=0/\(∀y,gW (m.r id) (m.v id) R.τ R.l y->gW (m'.r id') (m'.v id') R'.τ R'.l y)
 env:∀t,OK m' (get M.E t) (tm.getD t .dead)
theorem TZ{b a k v:Nat}{l:aa (Nat×Nat)}(h:ew ((k,v)::l) b=Z a):(k=b/\v=a)\/(k≠b/\ew l b=Z a):=by
 simp only[ew]at h;split at h
 .grind [Nat.eq_of_beq_eq_true]
 .next c=>exact .inr ⟨λ d=>by rw[d]at c;simp at c,h⟩
theorem T8{k v:Nat}{l:aa (Nat×Nat)}:ew ((k,v)::l) k=Z v:=by simp[ew]
theorem VT{b k v:Nat}{l:aa (Nat×Nat)}(h:k≠b):ew ((k,v)::l) b=ew l b:=by
 grind [ew,Nat.eq_of_beq_eq_true]
theorem ml.addRow{M:Mv}{m':Mp}(h:ml m tm I M m')(R2:cc)(d:ab Nat)(f:Nat)(p:aa (aa AV)){e:aa (Nat×Nat)}(H:R2.ver=0)
  (G:kn I R2 d f p)
  (w:(e=M.mr/\d=U)\/∃id R,ew M.mr id=U/\e=(id,X M.rw)::M.mr/\d=m.r id/\m.rw[id]?=Z R/\∀y,gW (m.r id) (m.v id) R.τ R.l y->gW d f R2.τ R2.l y):
  ∃g,MLe m' g/\ml m tm I {M with rw:=M.rw++[R2],mr:=e} g/\∀y,gW d f R2.τ R2.l y->OK g (.row (X M.rw) 0) y:=by
 have i:MLe m' (m'.add R2 d f p):=AU _ _ _ _ _;have N:∀{id:Nat}{R:cc},m'.rw[id]?=Z R->(m'.rw++[R2])[id]?=Z R/\¬ id=X m'.rw:=λ h=>⟨by rw[dq (getElem?_lt h)];exact h,BT (getElem?_lt h)⟩
 refine⟨m'.add R2 d f p,i,?_,?_⟩
 .refine⟨by show m'.rw++_=M.rw++_;rw[h.rw],h.nb,?_,h.src,h.mb,G3 h.rows G λ _ _ h=>h,?_,?_,λ t=>(h.env t).mono i⟩
  .intro b cs F;let⟨ds,s,o⟩:=h.box b cs F;exact⟨ds,s,o.mono i⟩
  .intro a r n j;change a<X (m'.rw++[_]) at n;change (if a=X m'.rw then d else m'.r a)=Z r at j;simp at n;split at j
   .rename_i c;obtain⟨_,D⟩|⟨id,R,s,o,x,q,_⟩:=w
    .rw[D]at j;cases j
    .refine⟨id,?_,by rw[<-x];exact j,getElem?_lt q⟩;show ew e id=Z a;rw[o,T8,c,h.rw]
   .let⟨id,B,A,z⟩:=h.rsrc a r (by omega) j;grind [VT]
  .intro id a c;change ew e id=Z a at c
   have k:ew M.mr id=Z a->∃R R',m.rw[id]?=Z R/\(m'.rw++[R2])[a]?=Z R'/\R'.ver=0/\(∀y,gW (m.r id) (m.v id) R.τ R.l y->gW (if a=X m'.rw then d else m'.r a) (if a=X m'.rw then f else m'.v a) R'.τ R'.l y):=by
    intro c;let⟨P,R',B,A,z,L⟩:=h.mr id a c;grind
   obtain⟨E,_⟩|⟨C,R,s,o,x,q,K⟩:=w
   .rw[E]at c;exact k c
   .rw[o]at c;obtain⟨rfl,rfl⟩|⟨_,c⟩:=TZ c
    .refine⟨R,R2,q,by show(m'.rw++_)[X M.rw]?=_;rw[h.rw];simp,H,?_⟩;show ∀y,_->gW (if X M.rw=X m'.rw then d else m'.r (X M.rw)) (if X M.rw=X m'.rw then f else m'.v (X M.rw)) _ _ y;rw[af (by rw[h.rw]),af (by rw[h.rw])];exact K
    .exact k c
 .intro y u;refine⟨R2,by show(m'.rw++_)[X M.rw]?=_;rw[h.rw];simp,aG _,u.ish,λ _=>?_⟩;show gW (if X M.rw=X m'.rw then d else m'.r (X M.rw)) (if X M.rw=X m'.rw then f else m'.v (X M.rw)) _ _ y;rw[af (by rw[h.rw]),af (by rw[h.rw])];exact u
theorem ml.addBox{M:Mv}{m':Mp}(h:ml m tm I M m'){b:Nat}(r:b<m.nb)(u:ew M.mb b=U){ys:aa TV}{ds:aa AV}(q:I.bx[m.b b]?=Z ds)(p:OKL m' ys ds):
  ∃g,MLe m' g/\ml m tm I {M with bx:=M.bx++[ys],mb:=(b,X M.bx)::M.mb} g/\OK g (.ptr (X M.bx) 0) (.ptr (m.b b) 0):=by
 have d:MLe m' {m' with b:=λ i=>if i=m'.nb then m.b b else m'.b i,nb:=m'.nb+1}:=
  ⟨eB _,λ i e=>ae (BT e),λ id R h=>⟨R,h,ak _,ak _,λ _=>⟨rfl,rfl,rfl,rfl,(λ _=>rfl),λ _ _ h=>h⟩⟩⟩
 refine⟨_,d,?_,?_⟩
 .refine⟨h.rw,by show m'.nb+1=X (M.bx++[ys]);rw[h.nb];simp,?_,?_,?_,h.rows,h.rsrc,h.mr,λ t=>(h.env t).mono d⟩
  .intro i cs e;change (M.bx++[ys])[i]?=Z cs at e;show ∃ds,I.bx[if i=m'.nb then m.b b else m'.b i]?=Z ds/\_;by_cases j:i=m'.nb
   .rw[af j];rw[j,h.nb]at e;simp at e;subst e;exact⟨ds,q,p.mono d⟩
   .rw[ae j];have l:i<X M.bx:=by have:=getElem?_lt e;simp at this;have:=h.nb;omega
    rw[dq l]at e;let⟨o,n,k⟩:=h.box i cs e;exact⟨o,n,k.mono d⟩
  .intro c a;change c<m'.nb+1 at a;show ∃f,ew ((b,X M.bx)::M.mb) f=Z c/\(if c=m'.nb then m.b b else m'.b c)=m.b f/\f<m.nb;by_cases j:c=m'.nb
   .exact⟨b,by rw[T8,j,h.nb],af j,r⟩
   .let⟨f,n,k,s⟩:=h.src c (by omega);refine⟨f,?_,by rw[ae j];exact k,s⟩;grind [VT]
  .intro f c a;change ew ((b,X M.bx)::M.mb) f=Z c at a;show c<m'.nb+1/\(if c=m'.nb then m.b b else m'.b c)=m.b f;obtain⟨rfl,rfl⟩|⟨_,a⟩:=TZ a
   .rw[<-h.nb];grind
   .let⟨n,k⟩:=h.mb f c a;grind
 .refine⟨?_,?_⟩
  .show (X M.bx)<m'.nb+1;rw[h.nb];exact vS _
  .show _=AV.ptr (if X M.bx=m'.nb then m.b b else m'.b (X M.bx)) 0;rw[af h.nb.symm]
mutual
theorem YZ(u:Rel N m E τ tm I):∀(co:Co) {x:TV}{y:AV}{M:Mv}{m':Mp}{K:TV->Mv->ab α}{r:α},mvT τ co x M K=Z r->OK m x y->ml m tm I M m'->
  ∃x' M' d,K x' M'=Z r/\MLe m' d/\ml m tm I M' d/\OK d x' y/\M'.E=M.E
 |.keep,x,y,M,m',K,r,h,i,c=>by
   simp only[mvT]at h;split at h
   .next hp=>exact⟨x,M,m',h,.refl m',c,qni hp i,rfl⟩
   .exact⟨.dead,M,m',h,.refl m',c,trivial,rfl⟩
 |.list a,x,y,M,m',K,r,h,i,c=>by
   simp only[mvT]at h;split at h
   .cases i;exact⟨_,M,m',h,.refl m',c,⟨rfl,by decide⟩,rfl⟩
   .split at h<;>try cases h
    next l w=>obtain⟨e,rfl⟩:=kg w;subst e;exact⟨_,M,m',h,.refl m',c,⟨i.1,Gv i.1⟩,rfl⟩
   .exact⟨.dead,M,m',h,.refl m',c,trivial,rfl⟩
 |.plist a,x,y,M,m',K,r,h,i,c=>by
   simp only[mvT]at h;split at h
   .cases i;exact⟨_,M,m',h,.refl m',c,⟨rfl,by decide⟩,rfl⟩
   .split at h<;>try cases h
    next l w=>obtain⟨e,rfl⟩:=kg w;subst e;exact⟨_,M,m',h,.refl m',c,⟨i.1,Gv i.1⟩,rfl⟩
   .exact⟨.dead,M,m',h,.refl m',c,trivial,rfl⟩
 |.row a sh,x,y,M,m',K,r,h,i,c=>by
   simp only[mvT]at h;split at h
   .cases i;let⟨d,o,n,C⟩:=c.addRow ⟨a,[],0,0,sh⟩ U 0 [] rfl (λ _=>rfl) (.inl ⟨rfl,rfl⟩);exact⟨_,_,d,h,o,n,C _ ⟨rfl,ak _⟩,rfl⟩
   .rename_i a' l lv;split at h<;>try cases h
    rename_i l w an;obtain⟨e,rfl⟩:=kg w;subst e;have an:=bG an;let⟨ad,az⟩:=i;split at h
    .let⟨d,o,n,C⟩:=c.addRow ⟨a',l,0,0,O⟩ U 0 [] rfl (λ h=>by cases h) (.inl ⟨rfl,rfl⟩);exact⟨_,_,d,h,o,n,C _ ⟨ad,by omega⟩,rfl⟩
    .split at h<;>try cases h
     next k=>have k:l=[]:=k;subst k;let⟨d,o,n,C⟩:=c.addRow ⟨a',[],0,0,Y⟩ U 0 [] rfl (λ _=>rfl) (.inl ⟨rfl,rfl⟩);exact⟨_,_,d,h,o,n,C _ ⟨ad,by omega⟩,rfl⟩
   .rename_i id ar;split at h<;>try cases h
    rename_i R hR;split at h<;>try cases h
    rename_i T;rw[aJ]at T;have W:=T.2;have T:R.ver=ar:=cm T.1;split at h<;>try cases h
    rename_i l w;obtain⟨e,rfl⟩:=kg w;subst e;let⟨R',B,_,_,S⟩:=i;rw[u.rw,hR]at B;cases B;have hy:=S T;have z:m.rw[id]?=Z R:=by rw[u.rw];exact hR
    split at h
    .next ax g=>let⟨R0,R1,A,F,D,z4⟩:=c.mr id ax g;rw[z]at A;cases A;exact⟨_,M,m',h,.refl m',c,⟨R1,F,aG _,hy.ish,λ _=>z4 y hy⟩,rfl⟩
    .rename_i g;have j:=u.rows id R z
     have t:kn I ⟨R.τ,R.l,0,0,sh⟩ (m.r id) (m.v id) (m.q id):=by
      have hs:sh=Y->R.sh=Y:=by
       intro h0;rw[h0]at W;simpa using W
      revert j;cases m.r id with
      |none=>intro j h0;exact j (hs h0)
      |some rr=>
        rintro⟨Q,p,P,L,H,G,q6,q7⟩;exact⟨Q,p,P,L,H,G,q6,λ h0=>q7 (hs h0)⟩
     let⟨d,o,n,C⟩:=c.addRow ⟨R.τ,R.l,0,0,sh⟩ (m.r id) (m.v id) (m.q id) rfl t (.inr ⟨id,R,g,rfl,rfl,z,λ _ h=>h⟩);grind
   .cases h
 |.fn cs,x,y,M,m',K,r,h,i,c=>by
   cases x with
   |fn f xs=>
     simp only[mvT]at h;obtain⟨ds,rfl,hd⟩:=i;let⟨ys,M1,m1,p,P,L,H,G⟩:=NX u cs h hd c;exact⟨_,M1,m1,p,P,L,⟨_,rfl,H⟩,G⟩
   |_=>simp only[mvT]at h;cases h
 |.box cs,x,y,M,m',K,r,h,i,c=>by
   simp only[mvT]at h;split at h
   case h_2=>exact⟨_,M,m',h,.refl m',c,i,rfl⟩
   case h_3=>
    rename_i b;obtain⟨hb,rfl⟩:=i;split at h
    .next b' g=>let⟨o,n⟩:=c.mb b b' g;exact⟨_,M,m',h,.refl m',c,⟨o,by rw[n]⟩,rfl⟩
    .rename_i g;split at h<;>try cases h
     next κ a l s=>obtain⟨ds,B,y,r0,rfl,S,k3⟩:=u.box b _ s;cases k3;let⟨m3,A,F,D⟩:=c.addBox (ys:=[.mc κ a l]) hb g B ⟨y,[],rfl,S,rfl⟩;exact⟨_,_,m3,h,A,F,⟨D.1,by have e:=D.2;simp only[AV.ptr.injEq]at e;rw[e.1]⟩,rfl⟩
   case h_4=>cases h
   rename_i b;obtain⟨hb,rfl⟩:=i;split at h
   .next b' g=>let⟨o,n⟩:=c.mb b b' g;exact⟨_,M,m',h,.refl m',c,⟨o,by rw[n]⟩,rfl⟩
   .split at h<;>try cases h
    rename_i xs s;let⟨ds,B,S⟩:=u.box b xs s;let⟨ys,M',d,p,P,L,H,G⟩:=NX u cs h S c;split at p
    case h_2=>cases p
    next g=>let⟨m3,A,F,D⟩:=L.addBox hb g B H;exact⟨_,_,m3,p,P.trans A,F,D,G⟩
theorem NX(g:Rel N m E τ tm I):∀(cs:aa Co) {xs:aa TV}{ys:aa AV}{M:Mv}{m':Mp}{K:aa TV->Mv->ab α}{r:α},mvL τ cs xs M K=Z r->OKL m xs ys->ml m tm I M m'->
  ∃a e b,K a e=Z r/\MLe m' b/\ml m tm I e b/\OKL b a ys/\e.E=M.E
 |[],xs,ys,M,m',K,r,h,c,d=>by
   cases xs with
   |nil=>simp only[mvL]at h;cases c;exact⟨[],M,m',h,.refl m',d,rfl,rfl⟩
   |cons x xs=>simp only[mvL]at h;cases h
 |co::cs,xs,ys,M,m',K,r,h,c,d=>by
   cases xs with
   |nil=>simp only[mvL]at h;cases h
   |cons x xs=>
     simp only[mvL]at h;obtain⟨y,rr,rfl,v,u⟩:=c;let⟨x',A,z,s,q,p,o,n⟩:=YZ g co h v d;let⟨a,w,t,l,f,k,j,i⟩:=NX g cs s u p;exact⟨x'::a,w,t,l,q.trans f,k,⟨y,rr,rfl,o.mono f,j⟩,i.trans n⟩
end
theorem qq0{E:Env}{t:Nat}{x:TV}{s:Nat}{y:AV}{m':Mp}(c:OK m' (get E s) y)(b:t=s->OK m' x y):OK m' (get (E++[(t,x)]) s) y:=by
 induction E with
 |nil=>
   simp only[eZ,get];split
   .grind [Nat.eq_of_beq_eq_true]
   .trivial
 |cons q E a=>
   grind [get]
theorem YG{a:aa (Nat×Nat)}:∀{n:Nat},Bz a n=O->∀i,i<n->ew a i=Z i
 |0,_,i,b=>absurd b (eY _)
 |n+1,h,i,b=>by
   rw[Bz,aJ]at h;by_cases c:i=n
   .grind [Nat.eq_of_beq_eq_true]
   .exact YG h.2 i (by omega)
theorem ml.rel(d:Rel N m E τ tm I){M:Mv}{m':Mp}(h:ml m tm I M m')(t:Bz M.mb N.2=O):Rel N m' M.E ⟨M.bx,M.rw⟩ tm I:=by
 refine⟨d.len,h.env,h.rw,h.nb,h.box,?_,h.rows,?_,λ i o=>?_⟩
 rotate_right
 .have g:=YG t i o;let⟨n,a⟩:=h.mb i i g;exact⟨n,a.trans (d.pin i o).2⟩
 .intro x w k j u;let⟨c,n,a,l⟩:=h.src x k;let⟨b,p,f,e⟩:=h.src w j;have:c=b:=d.inj c b l e (by rw[<-a,<-f,u]);grind
 .intro s q r k j e1 v;let⟨c,n,a,l⟩:=h.rsrc s r k e1;let⟨b,p,f,e⟩:=h.rsrc q r j v;have:c=b:=d.rinj c b r l e a f;grind
theorem Y5(c:Rel N m E τ tm I):∀(l:aa (Tmp×Co)) {M:Mv}{m':Mp}{K:Env->TS->ab α}{r:α},mvE N.2 τ E l M K=Z r->ml m tm I M m'->
  ∃f b d,K f b=Z r/\Rel N d f b tm I
 |[],M,m',K,r,h,e=>by
   simp only[mvE]at h;split at h<;>try cases h
   next k=>exact⟨_,_,m',h,e.rel c k⟩
 |(t,o)::l,M,m',K,r,h,e=>by
   simp only[mvE]at h;let⟨x',u,j,i,q,a,g,p⟩:=YZ c o h (c.env t) e;apply Y5 c l i (m':=j);refine⟨a.rw,a.nb,a.box,a.src,a.mb,a.rows,a.rsrc,a.mr,λ s=>?_⟩;exact qq0 (a.env s) λ n=>by subst n;exact g
theorem OH(f:Rel N m E τ tm I){l:aa (Tmp×Co)}{K:Env->TS->ab α}{r:α}(h:mvE N.2 τ E l ⟨[],[],[],[],[]⟩ K=Z r):∃d a c,K d a=Z r/\Rel N c d a tm I:=
 Y5 f l (m':=mp0) h
  ⟨rfl,rfl,λ b cs h=>by simp at h,λ g h=>absurd h (eY _),λ b g h=>by simp[ew]at h,λ id R h=>(by cases h),λ id r h=>absurd h (eY _),λ id e h=>by simp[ew]at h,λ t=>trivial⟩
end
end
section
open RowKit
section
variable {α:Type}{N:Nat×Nat}{m:Mp}{E:Env}{τ:TS}{tm:aa AV}{I:St}{K:KT α}{r:α}{p:ab (AV×ab St)}{c:TC}{C:Cfg}
theorem qkC{b ts xs ys}(A:C.ty=c.ty)(f:Rel N m E τ tm I)(u:OKL m xs ys)(h:MS c τ b ts xs K=Z r):Sim N m E τ tm I K r (iv C I b ts ys):=by
 unfold MS at h;split at h
 .rename_i x;obtain⟨y,r',rfl,g,o⟩:=u;cases o;split at h<;>try cases h
  rename_i t ht;split at h<;>try cases h
  rename_i d S;split at h<;>try cases h
  .rename_i s j;cases g;refine .same f h ?_ rfl;have:ql ⟨s.toArray⟩=X s:=by simp[ql,ByteArray.size]
   grind [iv,mq,AC]
  .next j=>cases g;refine .same f h ?_ rfl;grind [iv,mq,nN]
  .rename_i a l lv j;refine .same f h ?_ rfl;obtain⟨rfl,hl⟩|⟨es,n,rfl,hl⟩:=fC g.1
   .grind [iv,mq,nN]
   .grind [iv,mq,nN,fS,dU]
  .rename_i id ad j;split at h<;>try cases h
   rename_i R W;split at h<;>try cases h
   rename_i hv;let⟨R',H,_,_,g2⟩:=g;rw[f.rw,W]at H;cases H;have hy:=g2 (cm hv);refine .same f h ?_ rfl;rcases rp f.rows (by rw[f.rw];exact W) hy with⟨r,Q,_,rfl,_,_,_,_,g5,_⟩|⟨_,_,an,_⟩
   .grind [iv,mq,nN,dU]
   .grind [iv,mq,nN,fS,fC,dU]
  .rename_i b j;split at h<;>try cases h
   rename_i κ a hm;split at h<;>try cases h
   next b0 l B=>let⟨_,_,_,_,vz,i,_⟩:=GJ hm;rw[S]at i;cases i;let⟨_,ks,vs,F,D⟩:=LW f g B;refine .same f h ?_ rfl;have hz:∀d,∀b,mq d (.mp b)=U:=λ _ _=>rfl;obtain⟨_,rfl⟩:=g;simp[iv,ht,A,S,hz,Jk,F,(AF D).1]
 .rename_i s x;obtain⟨y,P,rfl,g,z,M,rfl,o,q⟩:=u;cases q;split at h<;>try cases h
  split at h<;>try (cases h;done)
  .rename_i k bytes zz _ _ _ _ _ _ _ _ a G i he;split at h<;>try cases h
   rename_i T;simp at T;split at h<;>try cases h
   next xs p=>rw[<-f.rw]at p;let⟨es,H,g2,_⟩:=AK f.rows p o;grind [iv,YU,Oc,decide_true,Bool.and_self]
  .rename_i L _ _ _ _ _ G i he;split at h<;>try (cases h;done)
   rename_i w T;cases o;have:=YU (a:=.int .u8) f g (qmT w) h
   have e:iv C I .append ts [y,.v (.string ⟨w.toArray⟩)]=eM 1 L I y (oK ⟨w.toArray⟩):=by
    grind [iv]
   rw[e];exact this
 .obtain⟨y,P,rfl,g,z,M,rfl,o,q⟩:=u;cases q;cases g;cases o;split at h<;>try cases h
  next j=>exact .same f h (by simp[iv,j]) rfl
 .obtain⟨y,P,rfl,g,z,M,rfl,o,q⟩:=u;cases q;cases g;cases o;split at h<;>try cases h
  next j=>exact .same f h (by simp[iv,j]) rfl
 .cases h
theorem N2{op}(a:Rel N m E τ tm I)(h:opT c E τ op K=Z r):Sim N m E τ tm I K r (kE c.pc tm I op):=by
 unfold opT at h;split at h
 .exact qkC rfl a (a.evs _) h
 .rename_i g b ts;split at h<;>try cases h
  rename_i f cs k;split at h<;>try cases h
  rename_i d;have d:c.pc.inl f=U:=d;have e:=a.ev g;rw[k]at e;let⟨ds,e,i⟩:=e;split at h
  .cases i;have:=qn2 a (a.evs (V b)) h;grind [kE]
  .split at h<;>try cases h
   next j=>have:=VG a ((a.evs (V b)).append i) j h;grind [kE]
 .cases h
 .next o n l=>have:=qoQ (C:=c.pc.cfg) rfl a h;grind [kE]
theorem Rel.put(a:Rel c.n2 m E τ tm I){d x y}(j:OK m x y){K}(h:Bx c E d x K=Z r):∃f,K f=Z r/\Rel c.n2 m f τ (hS tm d y) I:=by
 unfold Bx at h;split at h
 .exact⟨E,h,a⟩
 .rename_i d;split at h<;>try cases h
  rename_i e;have e:=Nat.lt_of_succ_le (by simpa[Nat.blt]using e);refine⟨_,h,?_⟩;refine⟨by show(tm.set d y).length=_;rw[fw];exact a.len,λ t=>?_,a.rw,a.nb,a.box,a.inj,a.rows,a.rinj,a.pin⟩;show OK m (get ((d,x)::E) t) ((tm.set d y).getD t .dead);have i:d<X tm:=by rw[a.len];exact e
  simp[get];split
  .grind [Nat.eq_of_beq_eq_true,List.getElem?_set_self]
  .rename_i b;have b:d≠t:=λ g=>by rw[g]at b;simp at b
   have:=a.env t;grind
theorem Rel.know(a:Rel N m E τ tm I){d x}(h:OK m x (tm.getD d .dead)):Rel N m ((d,x)::E) τ tm I:=by
 refine⟨a.len,λ t=>?_,a.rw,a.nb,a.box,a.inj,a.rows,a.rinj,a.pin⟩;simp[get];split
 .grind [Nat.eq_of_beq_eq_true]
 .exact a.env t
theorem V6{ops o K}(e:Rel N m E τ tm I)(h:OL ops E o K=Z r):∃w g,cT ops tm o=Z w/\K w g=Z r/\Rel N m g τ tm I:=by
 unfold OL at h;unfold cT;split at h
 .grind
 .rename_i j c i;rw[i];simp only;split at h<;>try cases h
  rename_i d f;rw[f];simp only;have a:=e.env d;split at h<;>try cases h
  .rename_i x b;rw[b]at a;rw[a];cases c with
   |true=>
     cases x with
     |true=>exact⟨O,_,rfl,h,e.know a⟩
     |false=>exact⟨Y,_,rfl,h,e.know a⟩
   |false=>
     cases x with
     |true=>exact⟨Y,_,rfl,h,e.know a⟩
     |false=>exact⟨O,_,rfl,h,e.know a⟩
  .next b=>rw[b]at a;let⟨ds,a,f⟩:=a;cases f;grind
theorem xr(a:Rel N m E τ tm I){ops k t b}(h:qn E ops k t=Z b):b<m.nb/\er tm ops k t=Z (m.b b):=by
 unfold qn at h;unfold er;split at h<;>try cases h
 next u d=>split at h<;>cases h;next o c=>have:=a.env u;rw[c]at this;let⟨f,e⟩:=this;grind
theorem qpl(c:Rel N m E τ tm I){ops k t}(h:Qi E ops k t=O):mX tm ops k t=O/\er tm ops k t=U:=by
 unfold Qi at h;unfold mX er;split at h<;>try cases h
 rename_i u b;split at h<;>try cases h
 next d=>have:=c.env u;rw[d]at this;let⟨R,_,_,_,a,_⟩:=this;rw[b];obtain⟨r,j,e,a⟩|⟨ds,a⟩:=a<;>simp only[a]<;>exact⟨rfl,by trivial⟩
mutual
theorem qrr:∀{x:TV}{y:AV}{l:aa Nat},OK m x y->rbT x=Z l->rb y=l.map m.b
 |.i ..,y,l,a,h|.b ..,y,l,a,h|.s ..,y,l,a,h=>by cases h;cases a;rfl
 |.c ..,y,l,a,h=>by cases h;obtain⟨_,rfl⟩:=a;rfl
 |.nil,y,l,a,h=>by cases h;cases a;rfl
 |.sl ..,y,l,a,h=>by cases h;obtain⟨rfl,_⟩|⟨e,n,rfl,_⟩:=fC a.1<;>rfl
 |.row ..,y,l,a,h=>by
   cases h;let⟨R,_,_,a,_⟩:=a;obtain rfl|⟨k,e,j,rfl⟩|⟨r,lo,n,g,f,rfl⟩:=a<;>rfl
 |.ptr b o,y,l,a,h=>by cases h;obtain⟨_,rfl⟩:=a;rfl
 |.pti b i,y,l,a,h=>by cases h;obtain⟨_,_,rfl⟩:=a;rfl
 |.rpt ..,y,l,a,h=>by cases h;let⟨R,_,_,_,a,_⟩:=a;obtain⟨r,i,g,rfl⟩|⟨ds,rfl⟩:=a<;>rfl
 |.ept ..,y,l,a,h=>by cases h;obtain⟨ds,rfl,_⟩:=a;rfl
 |.fn f cs,y,l,a,h|.agg cs,y,l,a,h|.tup cs,y,l,a,h=>by obtain⟨ds,rfl,d⟩:=a;exact xC d h
 |.dead,y,l,a,h=>by cases h
 |.mp b,y,l,a,h=>by cases h;obtain⟨_,rfl⟩:=a;rfl
 |.mc ..,y,l,a,h=>by cases h;obtain⟨p,vs,rfl,_⟩:=nM a;rfl
theorem xC:∀{xs:aa TV}{ys:aa AV}{l:aa Nat},OKL m xs ys->rX xs=Z l->rbL ys=l.map m.b
 |[],ys,l,c,h=>by cases h;cases c;rfl
 |x::xs,ys,l,⟨y,r,e,i,g⟩,h=>by
   subst e;simp only[rX]at h;split at h<;>cases h;next a b f d=>rw[rbL,qrr i f,xC g d,eK]
end
theorem Xz(rw x):rb (bC rw x)=rb x:=by
 cases x<;>first|rfl|skip
 simp[bC];split
 .split<;>rfl
 .rfl
theorem WG(rw):∀l,rbL (l.map (bC rw))=rbL l
 |[]=>rfl
 |x::l=>by rw[aU,rbL,rbL,Xz,WG rw l]
theorem qqP(rw x):rb (cE rw x)=rb x:=by
 unfold cE;split
 .exact WG rw _
 .exact Xz rw x
theorem VO(rw):∀l,rbL (l.map (cE rw))=rbL l
 |[]=>rfl
 |x::l=>by rw[aU,rbL,rbL,qqP,VO rw l]
theorem AD: ∀{l seen b},b∈aH seen l->b∈l
 |[],_,b,h=>by cases h
 |c::l,seen,b,h=>by
   rw[aH]at h;split at h
   .exact aT _ (AD h)
   .obtain rfl|h:=bi.1 h
    .exact aX ..
    .exact aT _ (AD h)
theorem qof{a}(h:∀b∈rbL a,rbL (I.bx.getD b [])=[]){b}(d:b∈dY I a):b∈rbL a:=by
 have f:(aH [] (rbL a)).flatMap (λ b=>rbL (I.bx.getD b []))=[]:=qD.2 λ c g=>h c (AD g);unfold dY at d;cases e:X I.bx with
 |zero=>rw[e]at d;exact AD d
 |succ n=>rw[e,xL,f]at d;exact AD d
theorem qnx(r:Rel c.n2 m E τ tm I){ops:aL Oper}{j:Nat}{op:Op}(h:IA c ops j E τ op=O):lR c.pc.cfg ops j tm I op=O:=by
 unfold IA at h;unfold lR;rw[gO]at h |-
 refine h.imp id λ h=>?_;rw[bz]at h |-
 intro p S;have:=h p S;let⟨q,i⟩:=p;simp only at this |-
 split
 .rename_i t a R;rw[R]at this;simp only[gO]at this |-
  refine this.imp id λ F=>?_;split at F
  .rename_i y l Q e;rw[aJ,bz]at F;let⟨z,G⟩:=xr r Q;rw[G]
   have A:m.b y<X I.bx:=by
    let⟨ds,M,_⟩:=r.box y _ (aS (by rw[<-r.nb];exact z));exact getElem?_lt M
   simp only[aJ,cH,eD];refine⟨A,?_⟩;rw[<-vQ,qsl];intro T;unfold Zm at e;split at e<;>try cases e
   rename_i g N ts _;split at e<;>try cases e
   rename_i f cs W;split at e<;>try cases e
   rename_i l' k K
   have k:c.pc.cfg.inl f=U:=by
    show c.inl f=U;cases hc:c.inl f with
    |none=>rfl
    |some _=>rw[hc]at k;cases k
   split at e<;>cases e;rename_i d;rw[bz]at d;have n:=r.ev g;rw[W]at n;let⟨u,n,w⟩:=n;have B:=xC ((r.evs (V N)).append w) K
   have L:∀b∈rbL (N.toList.map (aev tm)++u),rbL (I.bx.getD b [])=[]:=by
    intro b P;rw[B]at P;obtain⟨x,o,rfl⟩:=bF.1 P;have:=d x o;unfold PJ at this;split at this<;>try cases this
    rename_i cs' v;split at this<;>try cases this
    next C=>let⟨ds,M,d2⟩:=r.box x cs' v;rw[gE M,xC d2 C];rfl
   have s:m.b y∈rbL (N.toList.map (aev tm)++u):=by
    simp only[Ir,rf,n,k]at T;grind [oO,qof,VO]
   rw[B]at s;let⟨x,o,he⟩:=bF.1 s;have H:=F.2 x o
   have D:x<m.nb:=by
    have:=d x o;unfold PJ at this;split at this<;>try cases this
    next cs' v=>rw[r.nb];exact getElem?_lt v
   have:=r.inj x y D z he;subst this;simp at H
  .cases F
 .rfl
theorem Xc(b:Rel c.n2 m E τ tm I){ops a j op}(h:(a && !(cw c.loT op&&IA c ops j E τ op))=Y):(a && !(cw c.pc.cfg.lo op&&lR c.pc.cfg ops j tm I op))=Y:=by
 cases a with
 |false=>rfl
 |true=>
   grind [TC.lo_eq,qnx]
theorem qmd(a:Rel N m E τ tm I){ops j i o q}(h:H5 E ops j o i q=O):ru tm ops j o i q=O:=by
 unfold H5 at h;unfold ru;split at h
 case h_4=>cases h
 case h_3=>
  rename_i e d;simp[e,d];cases c:qn E ops i _ with
  |none=>rw[c]at h;cases h
  |some b=>rw[(xr a c).2];rfl
 case h_2=>
  rename_i e d;simp[e,d];cases c:qn E ops i _ with
  |none=>rw[c]at h;cases h
  |some b=>rw[(xr a c).2];rfl
 rename_i e d;split at h
 case h_3=>cases h
 case h_2=>
  next x f _=>let⟨l,r⟩:=xr a f;grind [qpl]
 rename_i x y f n;let⟨l,r⟩:=xr a f;let⟨p,s⟩:=xr a n;have g:x≠y:=λ k=>by rw[k]at h;simp at h
 have:=λ k=>g (a.inj x y l p k);grind [Nat.eq_of_beq_eq_true]
theorem GS(i:Rel N m E τ tm I){ops d a}(h:xX a E ops d=O):ma a tm ops d=O:=by
 cases d with
 |false=>rfl
 |true=>
   show lc a tm ops=O;simp only[xX,bz,aJ,cH,gO,eD]at h;simp only[lc,bz,aJ,cH,gO,eD];intro p c;let⟨f,e⟩:=h p c;refine⟨f,λ q b=>?_⟩;obtain (g|g)|g:=e q b
   .exact .inl (.inl g)
   .refine .inl (.inr ?_);unfold ZN at g;unfold nu;rw[BQ]at g |-
    refine⟨g.1,?_⟩;rw[qb7]at *;obtain g|g:=g.2
    .exact .inl g
    .right;unfold oN;grind [qmd]
   .exact .inr g
theorem AQ(i:Rel c.n2 m E τ tm I){f x}(h:qm c E τ f=Z x):∃y,xy c.pc.cfg tm I f=Z y/\OK m x y:=by
 cases f with
 |tmp t=>cases h;exact⟨_,rfl,i.env t⟩
 |cell a t=>
   simp[qm]at h;split at h<;>try cases h
   rename_i d b o k l;have g:=i.env a;rw[l]at g;let⟨q,g⟩:=g;split at h<;>try cases h
   rename_i cs j;split at h<;>try cases h
   let⟨ds,s,p⟩:=i.box b cs j;let⟨y,r,n⟩:=uJ p h;refine⟨y,?_,n⟩;have e:c.pc.cfg.ty t=Z d:=k;grind [xy,dF,AP]
theorem Iy{m}:∀n {xs ys pre post},OKL m xs ys->X pre=n->∀t,OK m (get (lX n xs) t) ((pre++(ys++post)).getD t .dead)
 |n,[],ys,pre,post,h,a,t=>trivial
 |n,x::xs,ys,pre,post,⟨y,r,b,d,c⟩,a,t=>by
   subst b;simp[lX,get];split
   .simp_all
   .have:=Iy (n+1) (pre:=pre++[y]) (post:=post) c (by grind) t;simpa using this
theorem Hi{ops draw}:∀{l m E τ tm I k},nf (opT c) c ops draw l E τ k=Z r->Rel c.n2 m E τ tm I->
  ∃e m' v a,iz (kE c.pc) c.pc ops draw l ⟨tm,I⟩=Z e/\MLe m m'/\Rel c.n2 m' v a e.tm e.I/\k v a=Z r
 |[],m,E,τ,tm,I,k,h,g=>⟨_,m,E,τ,rfl,.refl m,g,h⟩
 |o::z,m,E,τ,tm,I,k,h,g=>by
   simp only[iz];let⟨w,v,C,h,g⟩:=V6 g h;rw[C];cases w with
   |true=>
     have p:=g;let⟨x,a,y,σ',m',h,F,i,f,A,D⟩:=N2 g h;rw[F];cases a with
     |none=>
       rw[D rfl]at f |-
       let⟨B,h,b⟩:=f.put A h;let⟨e,n,u,d,j,t,s,q⟩:=Hi h b;exact⟨e,n,u,d,j,i.trans t,s,q⟩
     |some a=>
       split at h<;>try cases h
       rename_i G;let⟨B,h,b⟩:=Rel.put f A h;let⟨e,n,u,d,j,t,s,q⟩:=Hi h b;refine⟨e,n,u,d,?_,i.trans t,s,q⟩;cases σ' with
       |none=>exact j
       |some σ'=>
         rw[Xc p G];exact j
   |false=>
     let⟨B,h,b⟩:=g.put (x:=.tup []) ⟨[],rfl,rfl⟩ h;exact Hi h b
theorem qnh: ∀j {m E τ tm I g},rJ c j E τ g=Z r->Rel c.n2 m E τ tm I->
  ∃i m' k e,bV (kE c.pc) c.pc (vJ j) j ⟨tm,I⟩=Z (.normal,i)/\MLe m m'/\Rel c.n2 m' k e i.tm i.I/\g k e=Z r:=by
 intro j
 induction j with
 |skip=>intro m E τ tm I g h f;exact⟨_,m,E,τ,rfl,.refl m,f,h⟩
 |seq a b o n=>
   intro m E τ tm I g h f;let⟨M,N,P,s,K,H,G,F⟩:=o (show rJ c a E τ (λ E I=>rJ c b E I g)=Z r from h) f;let⟨t,u,L,l,D,C,B,A⟩:=n F G;refine⟨t,u,L,l,?_,H.trans C,B,A⟩;show bV _ _ (max (vJ a) (vJ b)+1) _ _=_;simp[bV,dp];rw[ra (Qu _ _) K];exact ra (qbQ _ _) D
 |region id ops d=>
   intro m E τ tm I g h f;simp[rJ]at h;split at h<;>try cases h
   rename_i q p;split at h<;>try cases h
   next v=>let⟨i,m',k,e,z,y,x,w⟩:=Hi h f;refine⟨i,m',k,e,?_,y,x,w⟩;show bV _ _ (0+1) _ _=_;simp[bV,dp,q,p];rw[JJ,GS f v,z]
 |_=>intro m E τ tm I g h f;simp only[rJ]at h;cases h
theorem Xi(b:Rel c.n2 m E τ tm I):∀{l xs},BF c E τ l=Z xs->∃ys,jz c.pc.cfg tm I l=Z ys/\OKL m xs ys
 |[],xs,h=>by cases h;exact⟨[],rfl,rfl⟩
 |v::l,xs,h=>by
   simp[BF]at h;split at h<;>try cases h
   next x d=>split at h<;>cases h;next xs a=>let⟨y,i,g⟩:=AQ b d;let⟨ys,f,e⟩:=Xi b a;exact⟨y::ys,by simp[jz,i,f],_,_,rfl,g,e⟩
theorem qqc{fn xs ys}(b:Rel c.n2 m E τ tm I)(n:OKL m xs ys)(h:Pg c fn τ xs K=Z r):Sim c.n2 m E τ tm I K r (yA c.pc I fn ys):=by
 unfold Pg at h;split at h<;>try cases h
 rename_i k x;split at h<;>try cases h
 rename_i a;rw[aJ]at a;have z:=gP a.1;have A:=gP a.2;have w:=OKL.len n
 have i:Rel (TC.n2 {c with nt:=fn.ntmps}) m (lX 0 xs) τ (ys++List.replicate (fn.ntmps-X ys) .dead) I:=by
  refine⟨by show _=fn.ntmps;rw[aM,sk];omega,λ t=>?_,b.rw,b.nb,b.box,b.inj,b.rows,b.rinj,b.pin⟩;have:=Iy 0 (pre:=[]) (post:=List.replicate (fn.ntmps-X ys) .dead) n rfl t;simpa using this
 let⟨f,m',y,e,p,o,d,j⟩:=qnh k h i;split at j<;>try cases j
 next q g=>let⟨s,l,v⟩:=Xi d (show BF {c with nt:=fn.ntmps} y e (V fn.results)=Z q from g);refine .to j ?_ o ⟨b.len,λ t=>(b.env t).mono o,d.rw,d.nb,d.box,d.inj,d.rows,d.rinj,d.pin⟩ (Vj v);have p:bV (kE c.pc) c.pc (vJ k) k ⟨ys++List.replicate (fn.ntmps-X ys) .dead,I⟩=Z (.normal,f):=p;have l:jz c.pc.cfg f.tm f.I (V fn.results)=Z s:=l;unfold yA;grind [nI,ra]
theorem qqY{op}(i:Rel c.n2 m E τ tm I)(h:opI c E τ op K=Z r):Sim c.n2 m E τ tm I K r (jk c.pc tm I op):=by
 unfold opI at h;split at h
 .rename_i g a ts;split at h<;>try cases h
  rename_i f cs k;have d:=i.ev g;rw[k]at d;let⟨ds,d,l⟩:=d;split at h
  .rename_i fn b;have b:c.pc.inl f=Z fn:=b
   have e:jk c.pc tm I (.call ⟨.value g,a,ts⟩)=yA c.pc I fn (a.toList.map (aev tm)++ds):=by
    simp[jk,d,b]
   rw[e];exact qqc i ((i.evs (V a)).append l) h
  .rename_i b;have b:c.pc.inl f=U:=b
   have e:jk c.pc tm I (.call ⟨.value g,a,ts⟩)=kE c.pc tm I (.call ⟨.value g,a,ts⟩):=by
    simp[jk,kE,d,b]
   rw[e];exact N2 i h
 .rename_i j
  have e:jk c.pc tm I op=kE c.pc tm I op:=by
   unfold jk;grind
  rw[e];exact N2 i h
variable {Q:Ex->S->Prop}{k:aa It}
theorem rj{ops draw}:∀{l m E τ tm I g},nf (opI c) c ops draw l E τ g=Z r->Rel c.n2 m E τ tm I->
  (∀m E τ tm I,g E τ=Z r->Rel c.n2 m E τ tm I->Go c.pc Q k .normal ⟨tm,I⟩)->Go c.pc Q (.ops ops draw l::k) .normal ⟨tm,I⟩
 |[],m,E,τ,tm,I,g,h,d,e=>by
   rw[qlM];exact e m E τ tm I h d
 |o::j,m,E,τ,tm,I,g,h,d,e=>by
   rw[qrS];let⟨w,z,q,h,d⟩:=V6 d h;rw[q];cases w with
   |true=>
     rw[qmQ];have i:=d;let⟨x,f,y,σ',m',h,t,u,b,n,s⟩:=qqY d h;rw[t];cases f with
     |none=>
       rw[s rfl]at b |-
       let⟨p,h,a⟩:=b.put n h;exact rj h a e
     |some f=>
       split at h<;>try cases h
       rename_i v;let⟨p,h,a⟩:=Rel.put b n h;cases σ' with
       |none=>
         exact rj h a e
       |some σ'=>
         exact⟨Xc i v,rj h a e⟩
   |false=>
     let⟨p,h,a⟩:=d.put (x:=.tup []) ⟨[],rfl,rfl⟩ h;exact rj h a e
variable {fin:Env->TS->ab α}{L:aa It->Env->TS->ab α}{Qr:α->Ex->S->Prop}
def IL(c:TC)(fin:Env->TS->ab α)(Qr:α->Ex->S->Prop):Prop:=∀E τ r m tm I,fin E τ=Z r->Rel c.n2 m E τ tm I->∀e,e=.ret\/e=.normal->Qr r e ⟨tm,I⟩
def LOK(c:TC)(L:aa It->Env->TS->ab α)(Qr:α->Ex->S->Prop):Prop:=∀a E τ r m tm I,L a E τ=Z r->Rel c.n2 m E τ tm I->Go c.pc (Qr r) a .normal ⟨tm,I⟩
theorem qp5(c:Rel N m E τ tm I){t}(h:Po (get E t)=O):yw (tm.getD t .dead)=O:=by
 have a:=c.env t;cases b:get E t<;>rw[b]at h a<;>first|(cases h;done)|skip
 rw[show tm.getD t .dead=_ from a.2];rfl
theorem qqI(i:Rel N m E τ tm I){ops t}(h:(Po (get E t)&&Ox E ops)=O):vu tm ops t=O:=by
 rw[aJ]at h;unfold vu;rw[qp5 i h.1,cv];have d:=h.2;unfold Ox at d;unfold OS;split at d
 case h_2=>cases d
 rename_i p l q;rw[q];simp only;split at d
 case h_2=>cases d
 rename_i a u b e;have g:=i.ev u;rw[e];simp only;cases o:evT E u<;>rw[o]at d g<;>first|(cases d;done)|skip
 .obtain⟨c,_⟩|⟨s,n,c,_⟩:=fC g.1<;>rw[c]<;>rfl
 .let⟨R,_,_,c,_⟩:=g;obtain c|⟨k,s,j,c⟩|⟨r,lo,n,v,f,c⟩:=c<;>rw[c]<;>rfl
theorem X8(a:Rel N m E τ tm I){x b}(h:evT E x=.b b){b'}(c:b=b'):Rel N m (I7 E x b') τ tm I:=by
 subst c;unfold I7;split
 .next t=>apply a.know;have:=a.env t;have h:get E t=.b b:=h;rw[h]at this;exact this
 .exact a
theorem Xn(c:Rel N m E τ tm I)(t){x'}(f:rsA (tm.getD t .dead)=[]->OK (shM m) x' (tm.getD t .dead))(i:rsA (tm.getD t .dead)≠[]->OK (shM m) x' (cE I.rw (tm.getD t .dead))):
  Rel N (shM m) ((t,x')::E) (shA τ) (hZ ⟨tm,I⟩ t).tm (hZ ⟨tm,I⟩ t).I:=by
 unfold hZ;cases b:rsA (tm.getD t .dead)with
 |nil=>
   exact(c.share rfl c.rows.sh).know (f b)
 |cons q l=>
   have a:=c.share (σ':={I with rw:=frz I.rw (q::l),wrr:=(q::l)++I.wrr}) rfl (c.rows.frz _ _)
   have g:t<X tm:=by
    apply qb4;intro e;rw[dz,ox e]at b;cases b
   refine⟨by rw[fw];exact a.len,λ u=>?_,a.rw,a.nb,a.box,a.inj,a.rows,a.rinj,a.pin⟩;simp only[get];split
   .grind [Nat.eq_of_beq_eq_true,List.getElem?_set_self]
   .rename_i d;have d:t≠u:=λ h=>by rw[h]at d;simp at d
    rw[dz,kK d,<-dz];exact a.env u
theorem qnU{t}(h:rsA (tm.getD t .dead)=[]):hZ ⟨tm,I⟩ t=⟨tm,I⟩:=by
 unfold hZ;simp only[h]
theorem qpj(g:Rel N m E τ tm I){t a K}(h:Oy E τ t a K=Z r):
  ∃j f m',K j f=Z r/\Rel N m' j f (hZ ⟨tm,I⟩ t).tm (hZ ⟨tm,I⟩ t).I:=by
 have c:=g.env t;unfold Oy at h
 have b:rsA (tm.getD t .dead)=[]->K E τ=Z r->∃j f m',K j f=Z r/\Rel N m' j f (hZ ⟨tm,I⟩ t).tm (hZ ⟨tm,I⟩ t).I:=λ w P=>by
  grind [qnU]
 split at h
 .next d=>rw[d]at c;exact b (by rw[show tm.getD t .dead=_ from c];rfl) h
 .next d=>rw[d]at c;exact b (by rw[show tm.getD t .dead=_ from c];rfl) h
 .next d=>rw[d]at c;exact b (by rw[show tm.getD t .dead=_ from c];rfl) h
 .next d=>rw[d]at c;exact b (by rw[show tm.getD t .dead=_ from c.2];rfl) h
 .next d=>rw[d]at c;exact b (by rw[show tm.getD t .dead=_ from c];rfl) h
 .next d=>rw[d]at c;refine b ?_ h;obtain⟨w,_⟩|⟨Q,n,w,_⟩:=fC c.1<;>(rw[w];rfl)
 .rename_i id o d;rw[d]at c;split at h<;>try cases h
  rename_i R v;split at h<;>try cases h
  rename_i A;have p:=cm A;split at h<;>try cases h
  rename_i l C
  have M:rK m.rw a (.row id o)=Z l:=by
   unfold rK;rw[g.rw];simp[v,A];exact C
  let⟨Q,T,S,D⟩:=AK g.rows M c;obtain⟨e,rfl⟩:=kg C;subst e;have e1:∀y,(∀cs,y≠.agg cs)->cE I.rw y=bC I.rw y:=λ y z=>by cases y<;>first|rfl|exact absurd rfl (z _)
  let⟨R',k,_,x,F⟩:=c
  have s:∀cs,tm.getD t .dead≠.agg cs:=by
   intro cs L;rw[L]at x;obtain h|⟨_,_,_,h⟩|⟨_,_,_,_,_,h⟩:=x<;>cases h
  refine⟨_,_,_,h,Xn g t (λ B=>?_) λ _=>?_⟩
  .have i:=F (by rw[g.rw,v]at k;cases k;exact p);have H:∃y,y=tm.getD t .dead:=⟨_,rfl⟩
   let⟨y,z⟩:=H;rw[g.rw,v]at k;cases k;revert i;cases m.r id with
   |none=>intro i;exact⟨i.1,bL (by decide) i.2⟩
   |some q=>intro i;rw[i]at B;cases B
  .rw[e1 _ s];exact⟨D,Gv D⟩
 .rename_i d;refine⟨_,_,shM m,h,?_⟩;have:=Xn g t (x':=.dead) (λ _=>trivial) λ _=>trivial;refine⟨this.len,λ u=>?_,this.rw,this.nb,this.box,this.inj,this.rows,this.rinj,this.pin⟩;by_cases G:t=u
  .subst G;rw[d];trivial
  .have P:=this.env u;grind [get,Nat.eq_of_beq_eq_true]
 .cases h
theorem If: ∀l {m} {E} {τ} {tm} {I} {K} {r:α},Rel N m E τ tm I->vq l E τ K=Z r->
  ∃e b m',K e b=Z r/\Rel N m' e b (kF (uE l) ⟨tm,I⟩).tm (kF (uE l) ⟨tm,I⟩).I
 |[],m,E,τ,tm,I,K,r,c,h=>⟨E,τ,m,h,c⟩
 |(t,i)::l,m,E,τ,tm,I,K,r,c,h=>by
   cases i with
   |plist a=>
     rw[vq]at h;let⟨k,f,j,g,d⟩:=qpj c h;exact If l d g
   |_=>simp[vq]at h;exact If l c h
theorem NA(D:IL c fin Qr)(B:LOK c L Qr):∀n {s e E τ r m tm I},eX c fin L n s e E τ=Z r->Rel c.n2 m E τ tm I->Go c.pc (Qr r) s e ⟨tm,I⟩:=by
 intro n
 induction n with
 |zero=>intro s e E τ r m tm I h f;simp[eX]at h
 |succ n g=>
   intro s e E τ r m tm I h f;cases s with
   |nil=>
     cases e with
     |exit i=>cases h
     |normal=>exact D E τ r m tm I h f _ (.inr rfl)
     |ret=>exact D E τ r m tm I h f _ (.inl rfl)
   |cons G k=>
     cases G with
     |ops P d l=>simp[eX]at h
     |blk id=>
       simp[eX]at h;cases e with
       |exit i=>
         simp only at h;rw[qkK];split at h
         .rename_i q;have q:=cm q;rw[af q];split at h
          .let⟨u,j,m',h,o⟩:=OH f h;exact B k u j r m' tm I h o
          .exact g h f
         .rename_i q;have q:i≠id:=λ M=>by rw[M]at q;simp at q
          rw[ae q];exact g h f
       |normal=>
         simp only at h;rw[qjf];split at h
         .let⟨u,j,m',h,o⟩:=OH f h;exact B k u j r m' tm I h o
         .exact g h f
       |ret=>rw[ql2];simp only at h;exact g h f
     |code N=>
       cases e with
       |exit i=>simp[eX]at h;rw[qjW];exact g h f
       |ret=>simp[eX]at h;rw[qky];exact g h f
       |normal=>
         simp[eX]at h;cases N with
         |skip=>rw[qoc];exact g h f
         |label l=>rw[qpo];exact g h f
         |region id ops d=>
           let⟨l⟩:=ops;simp only at h;split at h
           .rename_i t;split at h<;>try cases h
            next A=>rw[aJ]at A;grind [qlg,TC.lo_eq,GS,rj]
           .rename_i t;split at h
            .rename_i p w;split at h<;>try cases h
             rename_i A;refine qlI id l d t w (by rw[JJ];exact GS f A) ?_;refine rj h f λ m E τ tm I h f=>?_;split at h<;>try cases h
             next H=>exact⟨qqI f H,rj h f λ m E τ tm I h f=>g h f⟩
            .grind [go_region,TC.lo_eq,GS,rj]
         |seq a b=>rw[qrO];exact g h f
         |cond x a b=>
           simp only at h;rw[qqM];split at h<;>try cases h
           rename_i y v;have C:=f.ev x;rw[v]at C;rw[C];cases y with
           |true=>rw[qnE];exact g h (X8 f v rfl)
           |false=>rw[qlH];exact g h (X8 f v rfl)
         |block id b=>rw[qph];exact g h f
         |loop b=>
           simp only at h;split at h<;>try cases h
           next l K=>let⟨R,F,Q,h,z⟩:=If l f h;let⟨u,j,m',h,o⟩:=OH z h;rw[<-qrt,show c.pc.pur b=uE l from by show c.pur b=_;unfold TC.pur;rw[K]];exact B _ u j r m' _ _ h o
         |exit id=>rw[qqa];exact g h f
         |ret=>rw[qq4];exact g h f
         |_=>simp only at h;cases h
theorem qmF(f:IL c fin Qr)(g:LOK c L Qr)(n):LOK c (λ i E τ=>N3 c fin L n i E τ) Qr:=by
 intro i E τ r m tm I h d;simp[N3]at h;split at h
 .rename_i b k;rw[go_loop];split at h
  .next l e=>let⟨p,j,o,h,a⟩:=If l d h;rw[show c.pc.pur b=uE l from by show c.pur b=_;unfold TC.pur;rw[e]];exact NA f g n h a
  .next e=>rw[show c.pc.pur b=[]from by show c.pur b=_;unfold TC.pur;rw[e]];exact NA f g n h d
 .exact NA f g n h d
theorem M6(b:IL c fin Qr)(n):∀k,LOK c (qi c fin n k) Qr
 |0=>λ a E τ r m tm I h=>by simp[qi]at h
 |k+1=>by
   intro a E τ r m tm I h d;exact qmF b (M6 b n k) n a E τ r m tm I h d
theorem qpX{y}:vx 0 I.rw y=bC I.rw y:=by
 cases y<;>rfl
theorem qqX(y)(h:∀vs,y≠.tup vs):oe 0 I.rw y=cE I.rw y:=by
 cases y with
 |agg cs=>
   show AV.agg (cs.map (vx 0 I.rw))=.agg (cs.map (bC I.rw));rw[ss λ x _=>qpX]
 |_=>rfl
theorem HM{a y v}(h:gf a y=Z v):Sub y (cx a v):=by
 unfold gf at h;split at h
 case h_2=>cases h
 rename_i g;have g:a.agg=gU y:=by simpa[dj]using g
 let⟨pre,i,_,j,c,_⟩:=iM a (dO.1 h);rw[bK]at i;rw[<-i]at c
 have agg:∀e,a.agg=O->dK (cellsOf y) e->Sub y (.agg e):=by
  intro e d f;rw[g]at d;cases y with
  |agg cs=>exact Xh f
  |_=>cases d
 have one:∀e,a.agg=Y->dK (cellsOf y) [e]->Sub y e:=by
  intro e d f;rw[g]at d;have:cellsOf y=[y]:=by cases y<;>first|rfl|(cases d)
  rw[this]at f;cases f with
  |cons h _=>exact h
 cases a with
 |int k|bool|str|list a|map a b=>exact one _ rfl c
 |term|pair a b|one a=>exact agg _ rfl c
theorem YN(d:Rel c.n2 m E τ tm I){a rv x v}(h:qm c E τ rv=Z x)(f:jD τ.rw a x=Z v):∃y,xy c.pc.cfg tm I rv=Z y/\(∀vs,y≠.tup vs)/\dG (oe 0 I.rw y)=O/\Sub (oe 0 I.rw y) (cx a v):=by
 let⟨y,k,i⟩:=AQ d h;rw[<-d.rw]at f;let⟨b,_⟩:=rk d.rows f i
 have j:∀vs,y≠.tup vs:=by
  rintro vs rfl;unfold gf at b;split at b
  .let⟨pre,e,_,g,_⟩:=iM a (dO.1 b);rw[bK]at e;have:=g (.tup vs) (by rw[<-e];exact cQ.2 rfl);cases this
  .cases b
 grind [qqX,zN,HM]
theorem X9(g:Rel c.n2 m E τ tm I):∀{ts d v},ng c ts d E τ=Z v->
  ∃l,jz c.pc.cfg tm I d=Z l/\(∀y∈l,∀vs,y≠AV.tup vs)/\noRefs (l.map (oe 0 I.rw))=O/\dK (l.map (oe 0 I.rw)) (fR ts v)
 |[],d,v,h=>by
   cases d with
   |nil=>exact⟨[],rfl,by simp,rfl,.nil⟩
   |cons a l=>simp only[ng]at h;cases h
 |[a],d,v,h=>by
   cases d with
   |nil=>simp only[ng]at h;cases h
   |cons o d=>
     cases d with
     |cons _ _=>simp only[ng]at h;cases h
     |nil=>
       simp[ng]at h;split at h<;>try cases h
       next x e=>let⟨y,j,n,k,i⟩:=YN g e h;refine⟨[y],by simp[jz,j],by simpa using n,?_,.cons i .nil⟩;show(dG _&&O)=O;rw[k];rfl
 |a::b::ts,d,v,h=>by
   cases d with
   |nil=>simp only[ng]at h;cases h
   |cons o d=>
     simp[ng]at h;split at h<;>try cases h
     rename_i x e;split at h<;>try cases h
     rename_i w r;split at h<;>cases h;rename_i s f;let⟨y,j,n,k,i⟩:=YN g e r;let⟨l,q,u,t,p⟩:=X9 g f;refine⟨y::l,by simp[jz,j,q],?_,?_,.cons i p⟩
     .grind
     .grind [noRefs]
theorem qqW{x}(h:dG x=O):refs 0 0 x=Y:=by
 grind [refs,wL]
theorem qq2{ts rs}:IL c (ng c ts rs) (λ v=>Ret c.pc rs λ z=>Sub z (cy (fR ts v))):=by
 intro E τ v m tm I h f e g;refine⟨g,?_⟩;let⟨l,j,d,a,i⟩:=X9 f h;rw[j];show refs 0 0 (ne 0 I.rw (cy l))=Y/\Sub (ne 0 I.rw (cy l)) (cy (fR ts v))
 have b:ne 0 I.rw (cy l)=cy (l.map (oe 0 I.rw)):=by
  match l,d with
  |[],_=>rfl
  |[y],d=>
    have:=d y (cQ.2 rfl);cases y<;>first|rfl|exact absurd rfl (this _)
  |y::z::l,_=>rfl
 rw[b];constructor
 .apply qqW
  match l,a with
  |[],_=>rfl
  |[y],a=>
    show dG (oe 0 I.rw y)=O;simpa[noRefs]using a
  |y::z::l,a=>exact VF a
 .match l,fR ts v,i with
  |[],[],_=>exact .refl _
  |[y],[z],.cons h _=>exact h
  |y::o::l,z::n::k,h=>exact h.tup
theorem qr0{ts fn cd}(m:fn.body=Z cd){n k xs ys v}(a:c.nt=fn.ntmps)(g:c.np=0)(j:X ys<=fn.ntmps)(f:OKL mp0 xs ys)(h:qi c (ng c ts (V fn.results)) n k [.code cd] (lX 0 xs) ⟨[],[]⟩=Z v):GoB c.pc (λ z=>Sub z (cy (fR ts v))) fn ys:=by
 unfold GoB;rw[m]
 have e:Rel c.n2 mp0 (lX 0 xs) ⟨[],[]⟩ (ys++List.replicate (fn.ntmps-X ys) .dead) emp:=by
  refine⟨by show _=c.nt;rw[aM,sk,a];omega,λ t=>?_,rfl,rfl,λ b cs h=>by simp at h,λ b o h=>absurd h (eY _),λ id R h=>(by cases h),λ id d r h=>absurd h (eY _),λ i l=>absurd l (by grind)⟩;have:=Iy 0 (pre:=[]) (post:=List.replicate (fn.ntmps-X ys) .dead) f rfl t;simpa using this
 exact M6 qq2 n k _ _ _ _ _ _ _ h e
end
end
section
open RowKit
section
variable {α:Type}{m:Mp}{E:Env}{τ:TS}{tm:aa AV}{I:St}{c:TC}
def qnC{a y v}(h:gf a y=Z v):OK m (om a v) y:=by
 unfold gf at h;split at h
 case h_2=>cases h
 rename_i g;have g:a.agg=gU y:=by simpa[dj]using g
 have c:OKL m (jd a v) (cellsOf y):=lN h
 have agg:a.agg=O->∃ds,y=.agg ds/\OKL m (jd a v) ds:=by
  intro f;rw[g]at f;cases y with
  |agg cs=>exact⟨cs,rfl,c⟩
  |_=>cases f
 have one:a.agg=Y->cellsOf y=[y]:=by
  intro f;rw[g]at f;cases y<;>first|rfl|(cases f)
 cases a with
 |term|pair a b|one a=>exact agg rfl
 |int k|bool|str|list a|map a b=>rw[one rfl]at c;let⟨z,r,d,e,_⟩:=c;cases d;exact e
structure nj (m:Mp) (I:St) (nb nr:Nat):Prop where
 b:∀i,m.b i=i
 nb:m.nb=nb
 rows:eu m I
 low:∀id r,id<m.rw.length->m.r id=Z r->r<nr
 rinj:∀id id' r,id<m.rw.length->id'<m.rw.length->m.r id=Z r->m.r id'=Z r->id=id'
 zero:∀(id:Nat) (R:cc),m.rw[id]?=Z R->R.ver=0
def nj.add{nb nr}(h:nj m I nb nr){a l e vo qo nr'}(q:kn I ⟨a,l,0,0,Y⟩ e vo qo)(s:nr<=nr')(i:∀r,e=Z r->nr<=r/\r<nr'):nj (m.add ⟨a,l,0,0,Y⟩ e vo qo) I nb nr':=by
 refine⟨h.b,h.nb,G3 h.rows q λ _ _ h=>h,?_,?_,?_⟩
 .intro id r p g;change id<X (m.rw++[_]) at p;change (if id=X m.rw then e else m.r id)=Z r at g;simp at p;split at g
  .exact(i r g).2
  .have:=h.low id r (by omega) g;omega
 .intro id c r k j e1 f;change id<X (m.rw++[_]) at k;change c<X (m.rw++[_]) at j;change (if id=X m.rw then e else m.r id)=Z r at e1;change (if c=X m.rw then e else m.r c)=Z r at f;simp at k j;split at e1<;>split at f
  .omega
  .have:=h.low c r (by omega) f;have:=(i r e1).1;omega
  .have:=h.low id r (by omega) e1;have:=(i r f).1;omega
  .exact h.rinj id c r (by omega) (by omega) e1 f
 .intro id R d;change (m.rw++[_])[id]?=Z R at d;rw[Jv]at d;split at d
  .exact h.zero id R d
  .cases o:id-X m.rw with
   |zero=>rw[o]at d;cases d;rfl
   |succ n=>rw[o]at d;cases d
def U0{m nb k a t y l}(b:nV I t k y=Z (l,a))(u:nj m I nb k):
  ∃d,MLe m d/\nj d I nb a/\d.rw=m.rw++[⟨t,l,0,0,Y⟩]/\OK d (.row (X m.rw) 0) y:=by
 have step:∀f g n,kn I ⟨t,l,0,0,Y⟩ f g n->k<=a->(∀r,f=Z r->k<=r/\r<a)->gW f g t l y->
   ∃d,MLe m d/\nj d I nb a/\d.rw=m.rw++[⟨t,l,0,0,Y⟩]/\OK d (.row (X m.rw) 0) y:=by
  intro f g n w i o j;refine⟨_,AU m ⟨t,l,0,0,Y⟩ f g n,u.add w i o,rfl,⟨t,l,0,0,Y⟩,by show(m.rw++_)[X m.rw]?=_;simp,aG _,j.ish,λ _=>?_⟩;show gW (if X m.rw=X m.rw then f else m.r (X m.rw)) (if X m.rw=X m.rw then g else m.v (X m.rw)) t l y;rw[af rfl,af rfl];exact j
 unfold nV at b;split at b
 .split at b<;>try cases b
  rename_i R x;split at b<;>try cases b
  next q=>split at b<;>cases b;next e=>obtain⟨rfl,rfl,rfl,z,rfl,rfl,s⟩:=bG q;refine step (Z _) R.ver R.c ⟨R,x,rfl,rfl,z,e,by rw[s.1];exact aG _,λ _=>s⟩ (eB _) (λ r h=>by cases h;omega) ?_;show _=_;rw[dU e]
 .split at b
  .next q p=>cases b;exact step U 0 [] (λ _=>rfl) (ak _) (λ r h=>by cases h) ⟨q,bG p⟩
  .cases b
def LB: ∀l {m nb e a ds v},oj I l e ds=Z (v,a)->nj m I nb e->
  ∃b,MLe m b/\nj b I nb a/\b.rw=m.rw++lk l v/\OKL b (pX l (X m.rw) v) ds
 |[],m,nb,e,a,ds,v,h,f=>by
   cases ds with
   |cons d ds=>simp[oj]at h
   |nil=>
     obtain⟨_,rfl⟩:=h;exact⟨m,.refl m,f,(bK _).symm,rfl⟩
 |.val t::l,m,nb,e,a,ds,v,h,f=>by
   simp[oj]at h;split at h<;>try cases h
   next w j=>split at h<;>cases h;next vs c=>let⟨b,i,o,k,g⟩:=LB l c f;refine⟨b,i,o,k,?_⟩;rw[<-ot t.size ds];exact(lN j).append g
 |.row t::l,m,nb,e,a,ds,v,h,f=>by
   cases ds with
   |nil=>simp[oj]at h
   |cons d ds=>
     simp[oj]at h;split at h<;>try cases h
     next w n j=>split at h<;>cases h;next vs c=>let⟨b,u,s,p,r⟩:=U0 j f;let⟨q,i,o,k,g⟩:=LB l c s;rw[p,aM]at g;exact⟨q,u.trans i,o,by rw[k,p,bA];rfl,⟨_,_,rfl,r.mono i,g⟩⟩
def wT:∀(sas:aa SA) {m:Mp}{nb o:Nat}{ys:aa AV}{a:iP sas},dS I sas nb o ys=Z a->nj m I nb o->
  ∃m' c d,MLe m m'/\nj m' I c d/\c=X I.bx/\m'.rw=m.rw++sRw sas a/\nb+X (sBx sas (X m.rw) a)=c/\OKL m' (oh sas nb (X m.rw) a) ys/\X ys<=X sas/\
   ∀(i:Nat) (cs:aa TV),(sBx sas (X m.rw) a)[i]?=Z cs->∃ds,I.bx[nb+i]?=Z ds/\OKL m' cs ds
 |[],m,nb,o,ys,a,h,e=>by
   cases ys with
   |cons y ys=>simp[dS]at h
   |nil=>
     simp only[dS]at h;split at h<;>try cases h
     next E=>have E:=bG E;exact⟨m,nb,o,.refl m,e,E.1,(bK _).symm,rfl,rfl,ak _,λ i cs h=>by cases h⟩
 |.nil::sas,m,nb,o,ys,a,h,e=>by
   obtain⟨C,rfl,h⟩:∃C,ys=.v (.slice U 0 0)::C/\dS I sas nb o C=Z a:=by
    cases ys with
    |nil=>simp[dS]at h
    |cons y ys=>
      simp only[dS]at h;split at h
      .next hn=>exact⟨ys,by rw[Vb hn],h⟩
      .cases h
   let⟨m',c,d,u,s,A,z,w,f,x,r⟩:=wT sas h e;exact⟨m',c,d,u,s,A,z,w,⟨_,_,rfl,rfl,f⟩,vU x,r⟩
 |.clo g k::sas,m,nb,o,ys,a,h,e=>by
   cases ys with
   |nil=>simp[dS]at h
   |cons y ys=>
     simp only[dS]at h;split at h<;>try cases h
     next cs P=>obtain⟨rfl,hk⟩:=XY P;let⟨m',c,d,u,s,A,z,w,f,x,r⟩:=wT sas h e;have ht:=f.take k;have E:=f.drop k;rw[List.take_left' hk]at ht;rw[List.drop_left' hk]at E;refine⟨m',c,d,u,s,A,z,w,⟨_,_,rfl,⟨_,rfl,ht⟩,E⟩,?_,r⟩;rw[aM]at x;rw[bE,bE];omega
 |.val t::sas,m,nb,o,ys,a,h,e=>by
   cases ys with
   |nil=>simp[dS]at h
   |cons y ys=>
     simp only[dS]at h;split at h<;>try cases h
     next v B=>split at h<;>cases h;next vs p=>let⟨m',c,d,u,s,A,z,w,f,x,r⟩:=wT sas p e;exact⟨m',c,d,u,s,A,z,w,⟨_,_,rfl,qnC B,f⟩,vU x,r⟩
 |.box l::sas,m,nb,o,ys,a,h,e=>by
   cases ys with
   |nil=>simp[dS]at h
   |cons y ys=>
     simp only[dS]at h;split at h<;>try cases h
     rename_i v n B;split at h<;>cases h;rename_i vs p;unfold IG at B;split at B<;>try cases B
     rename_i j G;split at B<;>try cases B
     rename_i _ _ ds M N;have M:=cm M;subst M;have G:=qpy G;subst G;have K:nj {m with nb:=m.nb+1} I (j+1) o:=⟨e.b,by show m.nb+1=_;rw[e.nb],e.rows,e.low,e.rinj,e.zero⟩
     have L:MLe m {m with nb:=m.nb+1}:=⟨eB _,λ _ _=>rfl,λ id R h=>⟨R,h,ak _,ak _,λ _=>⟨rfl,rfl,rfl,rfl,(λ _=>rfl),λ _ _ h=>h⟩⟩⟩
     let⟨F,W,T,D,S⟩:=LB l B K;let⟨m',c,d,u,s,A,z,w,f,x,r⟩:=wT sas p T;have D:F.rw=m.rw++lk l v:=D;have q:X F.rw=X m.rw+nR l:=by rw[D,aM,mO]
     rw[q]at w f r;have H:m'.nb=c:=s.nb;have an:X (sBx (.box l::sas) (X m.rw) (toB l v,vs))=X (sBx sas (X m.rw+nR l) vs)+1:=rfl;refine⟨m',c,d,L.trans (W.trans u),s,A,?_,by omega,⟨_,_,rfl,by have:=qrD (m:=m') (l:=l) (b:=j) (by rw[H];omega);rwa [s.b]at this,f⟩,vU x,λ i cs hi=>?_⟩
     .rw[z,D,bA];show _=m.rw++(lk l (toC l (toB l v))++_);rw[AL]
     .cases i with
      |zero=>
        cases hi;refine⟨ds,N,?_⟩;show OKL m' (pX l (X m.rw) (toC l (toB l v))) ds;rw[AL];exact S.mono u
      |succ i=>
        let⟨Q,g1,g2⟩:=r i cs hi;exact⟨Q,by rw[<-g1];congr 1;omega,g2⟩
 |.row t::sas,m,nb,o,ys,a,h,e=>by
   cases ys with
   |nil=>simp[dS]at h
   |cons y ys=>
     simp only[dS]at h;split at h<;>try cases h
     rename_i l ad hl;split at h<;>cases h;rename_i vs p;let⟨F,W,T,D,S⟩:=U0 hl e;let⟨m',c,d,u,s,A,z,w,f,x,r⟩:=wT sas p T;have q:X F.rw=X m.rw+1:=by rw[D,aM];rfl
     rw[q]at w f r;exact⟨m',c,d,W.trans u,s,A,by rw[z,D,bA];rfl,w,⟨_,_,rfl,S.mono u,f⟩,vU x,r⟩
def xI{a ds v}(h:bu a ds=Z v):dK ds (aI a v):=by
 let⟨pre,b,_,_,c,_⟩:=iM a (dO.1 h);rw[bK]at b;rw[b];exact c
def AY(I:St)(b:aa Nat)(a:Ty)(v:aa (Val a))(y:AV):ab Nat->Prop
 |Z j=>∃Q,y=.rs j 0 (X Q.c) Q.ver Y/\I.rw[j]?=Z Q/\Q.k=a.size/\Q.fz=0/\bU (bu a) Q.c=Z v/\j ∉ b/\Q.off=Y
 |U=>v=[]/\dlist a y=Z []/\2<=lvl y
def BA(l:aa SA):Nat:=nBx l
def xH: ∀sas L a,X (sBx sas L a)=nBx sas
 |[],_,_=>rfl
 |.nil::sas,L,a|.clo _ _::sas,L,a=>xH sas L a
 |.val _::sas,L,a=>xH sas L a.2
 |.row _::sas,L,a=>xH sas _ a.2
 |.box _::sas,L,a=>by rw[sBx,bE,xH sas _ a.2,nBx]
inductive FC (I:St) (fs:List Nat):(l:List RA)->CV l->List AV->List (Option Nat×Row)->Prop
 |nil:FC I fs [] () [] []
 |val {a:Ty}{l:List RA}{v:Val a}{vs:CV l}{ds ds':List AV}{aH:List (Option Nat×Row)} (h:dK (ds.map (bC I.rw)) (aI a v)/\(noMc ds=Y->bu a ds=Z v)) (hf:∀x∈ds,∀r∈rsC x,r∈fs) (t:FC I fs l vs ds' aH):FC I fs (.val a::l) (v,vs) (ds++ds') aH
 |row {a:Ty}{l:List RA}{v:List (Val a)}{vs:CV l}{y:AV}{ds:List AV}{aH:List (Option Nat×Row)}{so:Option Nat} (h:AY I fs a v y so) (t:FC I fs l vs ds aH):FC I fs (.row a::l) (v,vs) (y::ds) ((so,⟨a.size,v.map (aI a),0,0,Y⟩)::aH)
inductive FR (I:St) (fs:List Nat) (rws:List cc) (nB:List (Option Nat×Row)):(rs:List RE)->Nat->Nat->RV rs->List AV->List (Option Nat×Row)->List Nat->Prop
 |nil {n d:Nat}:FR I fs rws nB [] n d () [] [] []
 |val {a:Ty}{rs:List RE}{v:Val a}{vs:RV rs}{y:AV}{ys:List AV}{aH:List (Option Nat×Row)}{n d:Nat}{kb:List Nat} (h:Sub (cE I.rw y) (cx a v)) (hf:∀r∈rsA y,r∈fs) (t:FR I fs rws nB rs n d vs ys aH kb):FR I fs rws nB (.one (.val a)::rs) n d (v,vs) (y::ys) aH kb
 |row {a:Ty}{rs:List RE}{v:List (Val a)}{vs:RV rs}{y:AV}{ys:List AV}{aH:List (Option Nat×Row)}{so:Option Nat}{n d:Nat}{kb:List Nat}
  (h:AY I fs a v y so)
  (t:FR I fs rws nB rs n (d+1) vs ys aH kb):FR I fs rws nB (.one (.row a)::rs) n d (v,vs) (y::ys) ((so,⟨a.size,v.map (aI a),0,0,Y⟩)::aH) kb
 |agg {l:List RA}{rs:List RE}{v:CV l}{vs:RV rs}{ds:List AV}{ys:List AV}{n1 n2:List (Option Nat×Row)}{n d:Nat}{kb:List Nat} (h:FC I fs l v ds n1) (t:FR I fs rws nB rs n (d+nR l) vs ys n2 kb):FR I fs rws nB (.agg l::rs) n d (v,vs) (.agg ds::ys) (n1++n2) kb
inductive FB (I:St) (fs:List Nat):(sas:List SA)->eV sas->Nat->List (Option Nat×Row)->Prop
 |nil {n:Nat}:FB I fs [] () n []
 |skip1 {r:List SA}{o:eV r}{n:Nat}{aH:List (Option Nat×Row)} (t:FB I fs r o n aH):FB I fs (.nil::r) o n aH
 |skip2 {r:List SA}{o:eV r}{n g k:Nat}{aH:List (Option Nat×Row)} (t:FB I fs r o n aH):FB I fs (.clo g k::r) o n aH
 |skip3 {r:List SA}{o:eV r}{n:Nat}{a:Ty}{aH:List (Option Nat×Row)} (t:FB I fs r o n aH):FB I fs (.val a::r) o n aH
 |skip4 {r:List SA}{o:eV r}{n:Nat}{a:Ty}{aH:List (Option Nat×Row)} (t:FB I fs r o n aH):FB I fs (.row a::r) o n aH
 |box {r:List SA}{l:List RA}{v:CV l}{o:eV r}{n:Nat}{ds:List AV}{n1 n2:List (Option Nat×Row)} (hd:I.bx[n]?=Z ds) (h:FC I fs l v ds n1) (t:FB I fs r o (n+1) n2):FB I fs (.box l::r) (toB l v,o) n (n1++n2)
def Yu(D:Rel c.n2 m E τ tm I){a:Ty}{x:TV}{y:AV}{w:aa (Val a)}{i:aa Nat}(b:ms τ.rw a x=Z (w,i))(v:OK m x y):
  ∃so,i.filterMap m.r=so.toList/\(∀id∈i,id<m.rw.length)/\∀n,(∀id∈i,∀r,m.r id=Z r->r ∉ n)->AY I n a w y so:=by
 unfold ms at b;split at b
 .cases b;cases v;exact⟨U,rfl,by simp,λ _ _=>⟨rfl,rfl,ak _⟩⟩
 .split at b<;>cases b;rename_i u s;let⟨e,d⟩:=kg u;subst e;have d:_=_:=d;subst d;let⟨q,p⟩:=v;exact⟨U,rfl,by simp,λ _ _=>⟨rfl,q,bL (bG s) p⟩⟩
 .rename_i id H;split at b<;>try cases b
  rename_i R N;split at b<;>try cases b
  rename_i g;rw[aJ,eD]at g;split at b<;>cases b;rename_i u;let⟨e,d⟩:=kg u;subst e;have d:R.l=w:=d;subst d;let⟨R',z,_,_,G⟩:=v;have f:m.rw[id]?=Z R:=by rw[D.rw];exact N
  rw[f]at z;cases z;have h:∀i∈[id],i<m.rw.length:=by intro i hi;rw[cQ.1 hi];exact getElem?_lt f
  obtain⟨j,Q,k,M,o,C,B,L,K,P,A⟩|⟨k,o,C,B⟩:=rp D.rows f (G (cm g.1))
  .refine⟨Z j,by simp[k],h,λ n t=>⟨Q,M,o,L,(A g.2).1,K,?_,(A g.2).2⟩⟩;exact t id (cQ.2 rfl) j k
  .have F:=o g.2;refine⟨U,by simp[k],h,λ n _=>⟨F,?_,B⟩⟩;rw[<-F];exact C
 .cases b
def ZO(so:ab Nat)(R:Row)(l):((so,R)::l).filterMap (·.1)=so.toList++l.filterMap (·.1):=by cases so<;>rfl
def rW(rw:aa cc)(b:aa Nat)(a:aa cc):Prop:=∀(p id:Nat),b[p]?=Z id->∃R R',rw[id]?=Z R/\a[p]?=Z R'/\R.sh=Y/\∃h:R'.τ=R.τ,h▸R'.l=R.l
theorem rW.app {rw a b x y} (h:rW rw a x) (g:rW rw b y) (j:a.length=x.length):rW rw (a++b) (x++y) := λ p id c=>by
 by_cases d:p<a.length
 ·rw [dq d] at c;obtain ⟨R,R',i,f,e⟩:=h p id c;exact ⟨R,R',i,by rw [dq (by omega)];exact f,e⟩
 ·rw [ej (by omega)] at c;obtain ⟨R,R',i,f,e⟩:=g _ id c;exact ⟨R,R',i,by rw [ej (by omega),<- j];exact f,e⟩
def WN{rw:aa cc}{a:Ty}{x:TV}{w:aa (Val a)}{i:aa Nat}(h:ms rw a x=Z (w,i)):X i<=1/\(X i=1->rW rw i [⟨a,w,0,0,Y⟩]):=by
 unfold ms at h;split at h
 .cases h;exact⟨by simp,λ h=>by cases h⟩
 .split at h<;>cases h;exact⟨by simp,λ h=>by cases h⟩
 .rename_i id d;split at h<;>try cases h
  rename_i R k;split at h<;>try cases h
  rename_i b;rw[aJ,eD]at b;split at h<;>cases h;rename_i j;let⟨e,g⟩:=kg j;subst e;subst g;refine⟨ak _,λ _ p f c=>?_⟩;cases p with
  |zero=>cases c;exact⟨R,_,k,rfl,b.2,rfl,rfl⟩
  |succ p=>cases c
 .cases h
theorem Ay{rw:List cc}:∀{l cs v a q},fo rw l cs=some (v,a,q)->a.length<=nR l/\(a.length=nR l->rW rw a (lk l v))
 |[],cs,v,a,q,h=>by
   cases cs with
   |cons c cs=>simp[fo]at h
   |nil=>
     obtain⟨_,rfl,_⟩:=h;exact⟨ak _,λ _ p id h=>by cases h⟩
 |.val t::l,cs,v,a,q,h=>by
   simp only[fo]at h;split at h<;>try (cases h;done)
   rename_i w vs d g f b;obtain⟨rfl,rfl,rfl⟩:=h;have:=Ay b;exact this
 |.row t::l,cs,v,a,q,h=>by
   cases cs with
   |nil=>simp[fo]at h
   |cons c cs=>
     simp only[fo]at h;split at h<;>try (cases h;done)
     rename_i w i vs e g f b;obtain⟨rfl,rfl,rfl⟩:=h;let⟨o,m⟩:=WN f;let⟨n,k⟩:=Ay b;refine⟨by rw[aM,nR];omega,λ j=>?_⟩;rw[aM,nR]at j;exact(m (by omega)).app (k (by omega)) (by show i.length=1;omega)
theorem uH{τ:TS}:∀sas {n o a q},lz τ sas n=some (o,a,q)->a.length<=nrB sas/\(a.length=nrB sas->rW τ.rw a (fT sas o))
 |[],n,o,a,q,h=>by
   obtain⟨_,rfl,_⟩:=h;exact⟨ak _,λ _ p id h=>by cases h⟩
 |.nil::sas,n,o,a,q,h=>uH sas (o:=o) h
 |.clo _ _::sas,n,o,a,q,h=>uH sas (o:=o) h
 |.val _::sas,n,o,a,q,h=>uH sas (o:=o) h
 |.row _::sas,n,o,a,q,h=>uH sas (o:=o) h
 |.box l::sas,n,o,a,q,h=>by
   simp only[lz]at h;split at h<;>try (cases h;done)
   rename_i cs g;split at h<;>try (cases h;done)
   rename_i v i r c b m d e;obtain⟨rfl,rfl,rfl⟩:=h;let⟨t,k⟩:=Ay d;let⟨s,j⟩:=uH sas e;refine⟨by rw[aM,nrB];omega,λ f=>?_⟩;rw[aM,nrB]at f;have:=(k (by omega)).app (j (by omega)) (by rw[mO];omega);show rW τ.rw (i++b) (lk l (toC l (toB l v))++fT sas c);rw[AL];exact this
def oG{ds}(h:noMc ds=Y):∃c d a b vs,ds=[.mc c d a b vs]:=by
 unfold noMc at h;split at h
 .exact⟨_,_,_,_,_,rfl⟩
 .cases h
def qrT{rw a v ds}(b:noMc ds=Y)(h:bu a (ds.map (bC rw))=Z v):bu a ds=Z v:=by
 obtain⟨_,_,_,_,_,rfl⟩:=oG b;exact h
def FC.len{fs l v ds aH}(h:FC I fs l v ds aH):X l<=X ds:=by
 induction h with
 |nil=>exact ak _
 | @val a l v vs ds c aH h d t b=>
   have:=h.1.len;rw[bO,gR]at this;have:=iZ a;rw[bE,aM];omega
 |row h t b=>exact vU b
def FC.mc{k:aa Nat}{l:aa RA}{v:CV l}{ds:aa AV}{aH:aa (ab Nat×Row)}(h:FC I k l v ds aH)(d:noMc ds=Y):∃a w,(∀L,kq l L v=aI a w)/\bu a ds=Z w:=by
 cases h with
 |nil=>cases d
 | @val a l w vs g b aH h n t=>
   have i:=h.1.len;rw[bO,gR]at i;have m:=iZ a;have c:X (g++b)=1:=by let⟨_,_,_,_,_,e⟩:=oG d;rw[e];rfl
   rw[aM]at c;have e:b=[]:=cR (by omega);subst e;rw[bK]at d |-
   have f:=t.len;cases l with
   |nil=>exact⟨a,w,λ L=>by rw[kq,kq,bK],h.2 d⟩
   |cons x l=>simp at f
 | @row a l w vs y b aH so h t=>
   let⟨_,_,_,_,_,e⟩:=oG d;cases e;exfalso;cases so with
   |none=>let⟨_,h,_⟩:=h;cases h
   |some j=>let⟨Q,h,_⟩:=h;cases h
def OI{Γ:Gh}{w:aA}{b:Nat}:∀(a:Ty) {v:Val a}{ds:aa AV},noMc ds=Y->bu a ds=Z v->fj Γ w b ds->qbO ds (aI a v)
 |.int _,v,ds,c,h,_|.bool,v,ds,c,h,_|.str,v,ds,c,h,_|.term,v,ds,c,h,_|.list _,v,ds,c,h,_=>by obtain⟨_,_,_,_,_,rfl⟩:=oG c;cases h
 |.pair a b,v,ds,c,h,_=>by
   obtain⟨_,_,_,_,_,rfl⟩:=oG c;let⟨pre,f,d,_⟩:=iM (.pair a b) (dO.1 h);rw[bK]at f;rw[<-f]at d;have d:1=a.size+b.size:=d;have:=iZ a;have:=iZ b;omega
 |.one a,v,ds,c,h,r=>OI a c h r
 |.map m τ,l,ds,c,h,r=>by
   obtain⟨_,_,_,g,vs,rfl⟩:=oG c;have h:full (cu (dMc m τ (bu m) (bu τ)) [_])=Z l:=h;unfold cu at h;simp only at h;split at h<;>cases h;rename_i D;let⟨B,vs',e,o⟩:=nM D;cases e;let⟨G,F⟩:=AF o;let⟨L,x,u,K,I,A⟩:=r
   have q:g=l.map λ p=>aI m p.1:=by
    apply qC;intro i;rw[df];by_cases C:i<X g
    .have f:=aS C;have d:=aS (l:=vs) (i:=i) (by omega);let⟨p,n,z,_⟩:=M3 o f d;rw[n,f];have E:x[i]?=Z x[i]:=gz (by omega);rw[qpW z (A i _ _ _ f d E).2.2.1];rfl
    .rw[ox (by omega),ox (by omega)];rfl
   refine⟨_,_,_,g,vs,l.map λ p=>aI τ p.2,rfl,by rw[aI,q],by rw[bO];omega,λ j v H f d=>?_⟩;have M:=getElem?_lt f;let⟨p,n,_,y⟩:=M3 o (aS (show j<X g by omega)) f;rw[df,n]at d;cases d;have k:=xI y;refine⟨?_,bz.2 (ir τ p.2)⟩;cases s:τ.agg with
   |true=>exact Xh k
   |false=>
     have e1:=gR τ p.2;rw[V7 s]at e1;show Sub (fh Y v) (fh Y (aI τ p.2));revert k e1;generalize aI τ p.2=e;intro k e1;cases k with
     |nil=>cases e1
     |cons h t=>cases t with
       |nil=>exact h
       |cons _ _=>simp at e1
def VC(a:aa Nat):aa RA->aa AV->Prop
 |[],_=>True
 |.val τ::r,ds=>(∀x∈ds.take τ.size,∀q∈rsC x,q∈a)/\VC a r (ds.drop τ.size)
 |.row _::r,ds=>VC a r (ds.drop 1)
def VC.all{fs}:∀l {ds},(∀x∈ds,∀q∈rsC x,q∈fs)->VC fs l ds
 |[],_,_=>trivial
 |.val τ::l,ds,h=>⟨λ x a=>h x (fY a),VC.all l λ x a=>h x (ib a)⟩
 |.row _::l,ds,h=>VC.all l λ x a=>h x (ib a)
def VC.clean{n:aa Nat}{rw:aa cc}:∀{l cs ds v a},fo rw l cs=Z (v,a,O)->OKL m cs ds->VC n l ds
 |[],_,_,_,_,_,_=>trivial
 |.val t::l,cs,ds,v,a,h,f=>by
   simp only[fo]at h;split at h<;>try (cases h;done)
   next w vs j o q b=>simp only[dQ,fc,aJ]at h;obtain⟨_,_,s,rfl⟩:=h;refine⟨λ x p r e=>?_,VC.clean b (f.drop t.size)⟩;rw[qD.1 (Ah (f.take t.size) s) x p]at e;cases e
 |.row t::l,cs,ds,v,a,h,f=>by
   cases cs with
   |nil=>simp[fo]at h
   |cons c cs=>
     obtain⟨d,ds,rfl,u,g⟩:=f;simp only[fo]at h;split at h<;>try (cases h;done)
     next w i vs k o q b=>obtain⟨_,_,rfl⟩:=h;exact(show VC n l ds from VC.clean b g)
def Zh(k:Rel c.n2 m E τ tm I){u:aa Nat}:∀{xs ys d},Je τ.rw xs=Z d->OKL m xs ys->(∀id∈d,id<X m.rw->∀r,m.r id=Z r->r∈u)->∀y∈ys,∀q∈rsC y,q∈u
 |[],ys,d,_,l,_,y,f,_,_=>by cases l;cases f
 |x::xs,ys,d,h,l,s,y,f,q,i=>by
   obtain⟨H,ys,rfl,t,G⟩:=l;simp only[Je]at h;split at h<;>cases h;rename_i a b e D;obtain rfl|f:=bi.1 f
   .unfold qav at e;split at e
    .rename_i id w;split at e<;>try cases e
     rename_i R F;split at e<;>cases e;rename_i B;have g:m.rw[id]?=Z R:=by rw[k.rw];exact F
     let⟨R',p,_,_,v⟩:=t;rw[g]at p;cases p;obtain⟨j,Q,A,f,_⟩|⟨_,_,z,_⟩:=rp k.rows g (v (cm B))
     .rw[f]at i;rw[cQ.1 i];exact s id (by simp) (getElem?_lt g) j A
     .obtain⟨rfl,_⟩|⟨K,n,rfl,_⟩:=fC z<;>cases i
    .split at e<;>cases e;next C=>rw[(Nd t C).1]at i;cases i
   .exact Zh k D G (λ id o=>s id (aR.2 (.inr o))) y f q i
def VC.vid(i:Rel c.n2 m E τ tm I){fs}:∀{l cs ds d},BE τ.rw l cs=Z d->OKL m cs ds->(∀id∈d,id<X m.rw->∀r,m.r id=Z r->r∈fs)->VC fs l ds
 |[],_,_,_,_,_,_=>trivial
 |.val t::l,cs,ds,d,h,f,g=>by
   simp only[BE]at h;split at h<;>cases h;next a b k j=>exact⟨Zh i k (f.take t.size) λ id e=>g id (aR.2 (.inl e)),VC.vid i j (f.drop t.size) λ id e=>g id (aR.2 (.inr e))⟩
 |.row t::l,cs,ds,d,h,f,g=>VC.vid i (l:=l) h (f.drop 1) g
def VB(a:aa Nat)(I:St):aa SA->Nat->Prop
 |[],_=>True
 |.box l::r,n=>(∀ds,I.bx[n]?=Z ds->VC a l ds)/\VB a I r (n+1)
 |.nil::r,n|.clo _ _::r,n|.val _::r,n|.row _::r,n=>VB a I r n
def VB.all{fs}(h:∀ds∈I.bx,∀x∈ds,∀q∈rsC x,q∈fs):∀l n,VB fs I l n
 |[],_=>trivial
 |.box l::r,n=>⟨λ ds a=>VC.all l (h ds (aK a)),VB.all h r (n+1)⟩
 |.nil::r,n|.clo _ _::r,n|.val _::r,n|.row _::r,n=>VB.all h r n
def VB.clean(d:Rel c.n2 m E τ tm I){u:aa Nat}:∀sas {n o e},lz τ sas n=Z (o,e,O)->(∀i,i<nBx sas->m.b (n+i)=n+i)->VB u I sas n
 |[],_,_,_,_,_=>trivial
 |.nil::r,_,o,_,h,a|.clo _ _::r,_,o,_,h,a|.val _::r,_,o,_,h,a|.row _::r,_,o,_,h,a=>VB.clean d r (o:=o) h a
 |.box l::r,n,o,e,h,a=>by
   simp only[lz]at h;split at h<;>try (cases h;done)
   rename_i cs g;split at h<;>try (cases h;done)
   rename_i v i z A k y q s;simp only[dQ,fc,aJ]at h;obtain⟨_,_,rfl,rfl⟩:=h;let⟨ds,p,x⟩:=d.box n cs g;rw[show m.b n=n from a 0 (sj _)]at p;refine⟨λ w f=>?_,VB.clean d r s λ j t=>?_⟩
   .rw[p]at f;cases f;exact VC.clean q x
   .have:=a (j+1) (QI t);rw[show n+1+j=n+(j+1) by omega];exact this
def VB.vid(g:Rel c.n2 m E τ tm I){q:aa Nat}:∀sas {n f},se τ sas n=Z f->(∀i,i<nBx sas->m.b (n+i)=n+i)->(∀id∈f,id<X m.rw->∀r,m.r id=Z r->r∈q)->VB q I sas n
 |[],_,_,_,_,_=>trivial
 |.nil::r,_,_,h,d,e|.clo _ _::r,_,_,h,d,e|.val _::r,_,_,h,d,e|.row _::r,_,_,h,d,e=>VB.vid g r h d e
 |.box l::r,n,f,h,d,e=>by
   simp only[se]at h;split at h<;>try (cases h;done)
   rename_i cs p;split at h<;>cases h;rename_i a b v u;let⟨ds,s,x⟩:=g.box n cs p;rw[show m.b n=n from d 0 (sj _)]at s;refine⟨λ w o=>?_,VB.vid g r u (λ j t=>?_) λ id k=>e id (aR.2 (.inr k))⟩
   .rw[s]at o;cases o;exact VC.vid g v x λ id k=>e id (aR.2 (.inl k))
   .have:=d (j+1) (QI t);rw[show n+1+j=n+(j+1) by omega];exact this
def Hk(s:Rel c.n2 m E τ tm I):∀{l:aa RA}{cs:aa TV}{ds:aa AV}{v:CV l}{a:aa Nat}{q:Bool},fo τ.rw l cs=Z (v,a,q)->OKL m cs ds->(∀id∈a,id<m.rw.length)/\
  ∀j,VC j l ds->(∀id∈a,∀r,m.r id=Z r->r ∉ j)->∃aH,FC I j l v ds aH/\aH.map (·.2)=nc l v/\aH.filterMap (·.1)=a.filterMap m.r/\(a.length=nR l->aH.map (·.1)=a.map m.r)
 |[],cs,ds,v,a,q,h,n=>by
   cases cs with
   |cons c cs=>simp[fo]at h
   |nil=>
     cases n;simp only[fo,dQ,fc]at h;obtain⟨_,rfl,_⟩:=h;exact⟨by simp,λ j _ _=>⟨[],.nil,rfl,rfl,λ _=>rfl⟩⟩
 |.val t::l,cs,ds,v,a,q,h,n=>by
   simp only[fo]at h;split at h<;>try (cases h;done)
   rename_i w vs F L p e;simp only[dQ,fc]at h;obtain⟨rfl,rfl,rfl⟩:=h;let⟨B,A⟩:=Hk s e (n.drop t.size);have N:=n.take t.size;rw[<-s.rw]at p;let⟨S,D,M⟩:=pM s.rows t (wM p) N;cases M;have f:ds=ds.take t.size++ds.drop t.size:=(ot _ _).symm;refine⟨B,λ j g b=>?_⟩;let⟨aH,z,y,u⟩:=A j g.2 b;refine⟨aH,?_,y,u⟩;rw[f];exact .val ⟨xI (dO.2 D),λ P=>qrT P (dO.2 D)⟩ g.1 z
 |.row t::l,cs,ds,v,a,q,h,n=>by
   cases cs with
   |nil=>simp[fo]at h
   |cons c cs=>
     obtain⟨d,ds,rfl,R,C⟩:=n;simp only[fo]at h;split at h<;>try (cases h;done)
     rename_i w i vs o L p e;simp only[dQ,fc]at h;obtain⟨rfl,rfl,rfl⟩:=h;let⟨so,k,K,H⟩:=Yu s p R;let⟨B,A⟩:=Hk s e C;refine⟨λ id b=>(aR.1 b).elim (K id) (B id),λ j g b=>?_⟩;let⟨aH,z,y,u⟩:=A j g λ id h=>b id (aR.2 (.inr h));refine⟨_,.row (H j λ id h=>b id (aR.2 (.inl h))) z,by rw[aU,y];rfl,?_⟩;refine⟨by rw[ZO,mG,<-u.1,k],λ x=>?_⟩;have T:=(WN p).1;have Q:=(Ay e).1;have x:(i++o).length=nR l+1:=x;rw[aM]at x;obtain⟨id,rfl⟩:=qsi.1 (show i.length=1 by omega);rw[aU,u.2 (by simp at x;omega)]
     have:so=m.r id:=by
      cases G:m.r id with
      |none=>rw[QH G]at k;cases so with|none=>rfl|some _=>cases k
      |some r=>rw[JF G]at k;cases so with|none=>cases k|some _=>cases k;rfl
     rw[this];rfl
def xi(u:Rel c.n2 m E τ tm I):∀(sas:aa SA) {n:Nat}{o:eV sas}{a:aa Nat}{q:Bool},lz τ sas n=Z (o,a,q)->(∀i,i<nBx sas->m.b (n+i)=n+i)->(∀id∈a,id<X m.rw)/\
  ∀f,VB f I sas n->(∀id∈a,∀r,m.r id=Z r->r ∉ f)->∃aH,FB I f sas o n aH/\aH.map (·.2)=fe sas o/\aH.filterMap (·.1)=a.filterMap m.r/\(X a=nrB sas->aH.map (·.1)=a.map m.r)
 |[],n,o,a,q,h,_=>by
   simp only[lz,dQ,fc]at h;obtain⟨_,rfl,_⟩:=h;exact⟨by simp,λ f _ _=>⟨[],.nil,rfl,rfl,λ _=>rfl⟩⟩
 |.nil::sas,n,o,a,q,h,g=>by
   let⟨t,s⟩:=xi u sas (o:=o) h g;exact⟨t,λ f e d=>let⟨aH,p,k⟩:=s f e d;⟨aH,.skip1 p,k⟩⟩
 |.clo _ _::sas,n,o,a,q,h,g=>by
   let⟨t,s⟩:=xi u sas (o:=o) h g;exact⟨t,λ f e d=>let⟨aH,p,k⟩:=s f e d;⟨aH,.skip2 p,k⟩⟩
 |.val _::sas,n,o,a,q,h,g=>by
   let⟨t,s⟩:=xi u sas (o:=o) h g;exact⟨t,λ f e d=>let⟨aH,p,k⟩:=s f e d;⟨aH,.skip3 p,k⟩⟩
 |.row _::sas,n,o,a,q,h,g=>by
   let⟨t,s⟩:=xi u sas (o:=o) h g;exact⟨t,λ f e d=>let⟨aH,p,k⟩:=s f e d;⟨aH,.skip4 p,k⟩⟩
 |.box l::sas,n,o,a,q,h,g=>by
   simp only[lz]at h;split at h<;>try (cases h;done)
   rename_i cs z;split at h<;>try (cases h;done)
   rename_i v i S T w R B C;simp only[dQ,fc]at h;obtain⟨rfl,rfl,rfl⟩:=h;let⟨ds,A,H⟩:=u.box n cs z;have x:m.b n=n:=g 0 (sj _);rw[x]at A;let⟨L,K⟩:=Hk u B H
   let⟨t,s⟩:=xi u sas C λ j G=>by
    have:=g (j+1) (QI G);rw[show n+1+j=n+(j+1) by omega];exact this
   refine⟨λ id d=>(aR.1 d).elim (L id) (t id),λ f e d=>?_⟩;let⟨p,Q,P,F⟩:=K f (e.1 ds A) λ id h=>d id (aR.2 (.inl h));let⟨k,N,M,D⟩:=s f e.2 λ id h=>d id (aR.2 (.inr h));refine⟨p++k,.box A Q N,?_,by rw[mG,mG,F.1,D.1],λ y=>?_⟩
   .rw[eK,P,M];show _=nc l (toC l (toB l v))++_;rw[AL]
   .have h1:=(Ay B).1;have W:=(uH sas C).1;have y:X (i++w)=nR l+nrB sas:=y;rw[aM]at y;rw[eK,eK,F.2 (by omega),D.2 (by omega)]
def qbN(m:Mp)(I:St)(b:aa Nat)(rws:aa cc)(a:aa (ab Nat×Row)):Prop:=
 ∀(p id:Nat),b[p]?=Z id->∃(R R':cc) (Q:Row),m.rw[id]?=Z R/\rws[p]?=Z R'/\a[p]?=Z (m.r id,Q)/\(∃h:R'.τ=R.τ,h▸R'.l=R.l)/\R.sh=Y
def qsb(i:Rel c.n2 m E τ tm I){sas:aa SA}{o:eV sas}{a:aa Nat}{q:Bool}(h:lz τ sas 0=Z (o,a,q)){f:aa (ab Nat×Row)}(j:X a=nrB sas->f.map (·.1)=a.map m.r):qbN m I (Oq (nrB sas) a) (fT sas o) f:=by
 unfold Oq;cases k:Nat.beq (X a) (nrB sas)with
 |false=>intro p id b;cases b
 |true=>
   have g:=cm k;intro p id b;have b:a[p]?=Z id:=b;let⟨R,R',t,s,n,l⟩:=(uH sas h).2 g p id b;have e:=bB (·[p]?) (j g);simp only[df,b,ny]at e;cases d:f[p]? with
   |none=>rw[d]at e;cases e
   |some x=>
     rw[d]at e;let⟨so,Q⟩:=x;cases e;exact⟨R,R',Q,by rw[i.rw];exact t,s,rfl,l,n⟩
def HA(o:Rel c.n2 m E τ tm I){iB:aa Nat}{rws:aa cc}:∀{G:aa RE}{l:aa ResultVar}{v:RV G}{f B:aa Nat}{q:Bool},mo c E τ iB G l=Z (v,f,B,q)->(∀id∈f,id<m.rw.length)/\(∀b∈B,b<m.nb)/\
  ∃ys,jz c.pc.cfg tm I l=Z ys/\∀(j:aa Nat) (z:aa (ab Nat×Row)) (n d:Nat),qbN m I iB rws z->rws.length<=d->(((∀y∈ys,∀r∈rsA y,r∈j)/\(∀b∈B,∀ds,I.bx[m.b b]?=Z ds->∀x∈ds,∀r∈rsC x,r∈j)/\f=[])\/(q=O/\∀id∈f,∀r,m.r id=Z r->r ∉ j))->
   ∃e u aH,FR I j rws z e n d u ys aH (B.map m.b)/\aH.map (·.2)=ei e u/\aH.filterMap (·.1)=f.filterMap m.r/\∀{γ:Type} (k:(e:aa RE)->RV e->ab γ),uW rws G n d v k=k e u
 |[],l,v,f,B,q,h=>by
   cases l with
   |cons a l=>simp[mo]at h
   |nil=>
     simp only[mo,dQ,fc]at h;obtain⟨_,rfl,rfl,_⟩:=h;exact⟨by simp,by simp,[],rfl,λ j z n d _ _ _=>⟨[],(),[],.nil,rfl,rfl,λ _=>rfl⟩⟩
 |.one (.val a)::G,l,v,f,B,q,h=>by
   cases l with
   |nil=>simp[mo]at h
   |cons rv l=>
     simp only[mo]at h;split at h<;>try cases h
     rename_i x C;split at h<;>cases h;rename_i w vs q' A s;let⟨y,S,F⟩:=AQ o C;let⟨N,kb,ys,M,L⟩:=HA o (rws:=rws) s;rw[<-o.rw]at A;let⟨p1,_⟩:=rk o.rows A F;refine⟨N,kb,y::ys,by simp only[jz,S,M],λ j z n d R hd g=>?_⟩;let⟨e,u,aH,K,H,W,T⟩:=L j z n d R hd (g.imp (λ h=>⟨λ y Q=>h.1 y (aT _ Q),h.2⟩) λ h=>⟨(aJ _ _▸h.1:oX x=O/\q'=O).2,h.2⟩);refine⟨.one (.val a)::e,(w,u),aH,.val (HM p1) ?_ K,H,W,λ k=>T _⟩;obtain h|h:=g
     .exact h.1 y (aX ..)
     .have an:=(aJ _ _▸h.1:oX x=O/\q'=O).1;rw[H3 an F];intro r o;cases o
 |.one (.row a)::G,l,v,f,B,q,h=>by
   cases l with
   |nil=>simp[mo]at h
   |cons rv l=>
     simp only[mo]at h;split at h<;>try cases h
     rename_i x C;split at h<;>cases h;rename_i w i vs P A s;let⟨y,S,F⟩:=AQ o C;let⟨N,kb,ys,M,L⟩:=HA o (rws:=rws) s;let⟨so,s1,s2,s3⟩:=Yu o A F;refine⟨λ id D=>(aR.1 D).elim (s2 id) (N id),kb,y::ys,by simp only[jz,S,M],λ j z n d R hd g=>?_⟩;let⟨e,u,aH,K,H,W,T⟩:=L j z n (d+1) R (by omega) (g.imp (λ h=>⟨λ y Q=>h.1 y (aT _ Q),h.2.1,(nz.1 h.2.2).2⟩) λ h=>⟨h.1,λ id t=>h.2 id (aR.2 (.inr t))⟩);refine⟨.one (.row a)::e,(w,u),_,.row (s3 j (g.elim (λ h=>(by rw[(nz.1 h.2.2).1];intro id t;cases t)) λ h id t=>h.2 id (aR.2 (.inl t)))) K,by rw[aU,H];rfl,?_,λ k=>T _⟩;rw[ZO,mG,<-W,s1]
 |.agg p::G,l,v,f,B,q,h=>by
   cases l with
   |nil=>simp[mo]at h
   |cons rv l=>
     simp only[mo]at h;split at h<;>try (cases h;done)
     rename_i cs C;split at h<;>try (cases h;done)
     rename_i w i q1 vs P ar q2 A s;simp only[dQ,fc]at h;obtain⟨rfl,rfl,rfl,rfl⟩:=h;obtain⟨y,S,ds,rfl,F⟩:=AQ o C;let⟨c0,c1⟩:=Hk o A F;let⟨N,kb,ys,M,L⟩:=HA o (rws:=rws) s;refine⟨λ id D=>(aR.1 D).elim (c0 id) (N id),kb,.agg ds::ys,by simp only[jz,S,M],λ j z n d R hd g=>?_⟩;let⟨K,a1,a2,a3⟩:=c1 j (g.elim (λ h=>VC.all p λ x C r ad=>h.1 (.agg ds) (aX ..) r (kI.2 ⟨x,C,ad⟩)) λ h=>VC.clean (by rw[(aJ _ _▸h.1:q1=O/\q2=O).1]at A;exact A) F) (g.elim (λ h=>(by rw[(nz.1 h.2.2).1];intro id t;cases t)) λ h id t=>h.2 id (aR.2 (.inl t)));let⟨e,u,H,b1,b2,b3,b4⟩:=L j z n (d+nR p) R (by omega) (g.imp (λ h=>⟨λ y Q=>h.1 y (aT _ Q),h.2.1,(nz.1 h.2.2).2⟩) λ h=>⟨(aJ _ _▸h.1:q1=O/\q2=O).2,λ id t=>h.2 id (aR.2 (.inr t))⟩);exact⟨.agg p::e,(w,u),K++H,.agg a1 b1,by rw[eK,a2,b2];rfl,by rw[mG,mG,a3.1,b3],λ k=>b4 _⟩
def FR.len{e:aa Nat}{rws:aa cc}{c:aa (ab Nat×Row)}{b:aa RE}{n d:Nat}{v:RV b}{ys:aa AV}{aH:aa (ab Nat×Row)}{kb:aa Nat}(h:FR I e rws c b n d v ys aH kb):∀L,X ys=X (fp b L v):=by
 induction h with
 |nil=>intro L;rfl
 |val h f t a=>intro L;rw[fp,bE,bE,a L]
 |row h t a=>intro L;rw[fp,bE,bE,a (L+1)]
 |agg h t a=>intro L;rw[fp,bE,bE,a]
def Ug{g:aa Nat}{a:Ty}{v:aa (Val a)}{y:AV}{so:ab Nat}(h:AY I g a v y so):Oi I g so ⟨a.size,v.map (aI a),0,0,Y⟩:=by
 refine⟨rfl,rfl,iZ a,?_,?_,?_⟩
 .intro e d;obtain⟨w,_,rfl⟩:=bF.1 d;exact gR a w
 .intro e d;obtain⟨w,_,rfl⟩:=bF.1 d;exact ir a w
 .cases so with
  |none=>show v.map (aI a)=[];rw[h.1];rfl
  |some j=>
    let⟨Q,_,p,o,n,f,m⟩:=h;refine⟨Q,p,o,n,by show X Q.c=X (v.map (aI a));rw[dU f,bO],λ i e r q b=>?_,m⟩;let⟨w,l,k⟩:=oC f q;have b:(v.map (aI a))[i]?=Z r:=b;rw[df,l]at b;cases b;exact xI k
def A4(I:St)(a:aa Nat)(aH:aa (ab Nat×Row)):Prop:=∀p∈aH,Oi I a p.1 p.2
def FC.newOk{c:aa Nat}{l:aa RA}{v:CV l}{ds:aa AV}{aH:aa (ab Nat×Row)}(h:FC I c l v ds aH):A4 I c aH:=by
 induction h with
 |nil=>intro p h;cases h
 |val h d t a=>exact a
 |row h t a=>
   intro p b;obtain rfl|b:=bi.1 b
   .exact Ug h
   .exact a p b
def FR.newOk{e:aa Nat}{rws:aa cc}{f:aa (ab Nat×Row)}{c:aa RE}{n d:Nat}{v:RV c}{ys:aa AV}{aH:aa (ab Nat×Row)}{kb:aa Nat}(h:FR I e rws f c n d v ys aH kb):A4 I e aH:=by
 induction h with
 |nil=>intro p h;cases h
 |val h g t a=>exact a
 |row h t a=>
   intro p b;obtain rfl|b:=bi.1 b
   .exact Ug h
   .exact a p b
 |agg h t a=>intro p b;exact(aR.1 b).elim (h.newOk p) (a p)
def FB.newOk{a:aa Nat}{sas:aa SA}{o:eV sas}{n:Nat}{aH:aa (ab Nat×Row)}(h:FB I a sas o n aH):A4 I a aH:=by
 induction h with
 |nil=>intro p h;cases h
 |box d h t b=>intro p c;exact(aR.1 c).elim (h.newOk p) (b p)
 |_=>assumption
def XL{c:Gh}{B:aA}{i:Nat->Nat->ab aj}{P kb:aa Nat}(N:Inv c I B){nb L p:Nat}{all:aa (ab Nat×Row)}{a:Ty}{v:aa (Val a)}{y:AV}{so:ab Nat}(h:AY I P a v y so)(d:all[p]?=Z (so,⟨a.size,v.map (aI a),0,0,Y⟩)){u:aj}(x:Rep c y u):Rep (eR c i nb kb L all) (.rs (L+p) 0 (X v) 0 Y) u:=by
 have G:p<X all:=getElem?_lt d;have g:¬ L+p<L:=by omega
 have e:L+p-L=p:=by omega
 cases so with
 |some j=>
   obtain⟨Q,rfl,r,q,E,D,C⟩:=h;have H:=N.row j Q r;cases x with
   |rs _ _ _ _ _ f cap W T w A m=>
     have m:=m (H.ver (by rw[E];exact aG _)).symm;have l:=dU D;rw[l]at w;rw[l];show Rep (eR c i nb kb L all) (.rs (L+p) 0 (X v) 0 Y) (.slice f (X v) cap);refine .rs _ _ _ _ _ f cap (by show L+p<L+X all;omega) (aG _) w (λ h=>by cases h) λ _=>?_
     have S:(eR c i nb kb L all).cur (L+p)=c.cur j:=by
      show(if L+p<L then _ else match all[L+p-L]? with|some (Z j,_)=>c.cur j|_=>0)=_;rw[ae g,e,d]
     have z:(eR c i nb kb L all).sz (L+p)=c.sz j:=by
      show(if L+p<L then _ else match all[L+p-L]? with|some (Z j,_)=>c.sz j|_=>0)=_;rw[ae g,e,d]
     have R:(eR c i nb kb L all).k (L+p)=c.k j:=by
      show(if L+p<L then _ else match all[L+p-L]? with|some p=>p.2.k|none=>1)=_;rw[ae g,e,d,<-H.k,q]
     rw[S,z,R];rw[H.off C.2]at m;exact m
 |none=>
   obtain⟨rfl,r,q⟩:=h
   have s:∃f,u=.slice f 0 0:=by
    obtain⟨rfl,_⟩|⟨z,n,rfl,K⟩:=fC r
    .exact⟨U,ce x⟩
    .have:z=[]:=cR (dU K);subst this;cases x with
     |sl _ _ _ f F cap b o us t w A=>
       have M:1<n+1:=q;have:=A M;refine⟨f,?_⟩;have t:F=0:=t;rw[this,t]
   obtain⟨f,rfl⟩:=s;refine .rs _ _ _ _ _ f 0 (by show L+p<L+X all;omega) (aG _) (ak _) (λ h=>by cases h) λ _=>⟨.inl rfl,by rw[dP,kG];exact aG _⟩
def qlf{b:Gh}{n:aA}{f:Nat->Nat->ab aj}{m kb:aa Nat}(y:Inv b I n)(s:Le b {b with mem:=f})(j:∀r∈m,∀R,I.rw[r]?=Z R->gF {b with mem:=f} r R){nb L:Nat}{all:aa (ab Nat×Row)}{a:Ty}{v:Val a}{ds:aa AV}(h:dK (ds.map (bC I.rw)) (aI a v))(t:∀x∈ds,∀r∈rsC x,r∈m){us:aa aj}(l:RepL b ds us):RepL (eR b f nb kb L all) (aI a v) us:=by
 let⟨p,o⟩:=pC (ir a v);refine qnk (Γ:={b with mem:=f}) (λ _ _ _ h=>h) (h.rep ?_) p o;refine⟨by rw[bO];exact l.len,λ i x u e g=>?_⟩;rw[df]at e;cases c:ds[i]? with
 |none=>rw[c]at e;cases e
 |some k=>
   rw[c]at e;cases e;exact xP y s (λ r q R w=>j r (t k (aK c) r q) R w) (l.rep i k u c g)
def RepL.split{Γ:Gh}{a b:aa AV}{us:aa aj}(h:RepL Γ (a++b) us):RepL Γ a (us.take (X a))/\RepL Γ b (us.drop (X a)):=by
 have d:=h.take (X a);have c:=h.drop (X a);rw[List.take_left]at d;rw[List.drop_left]at c;exact⟨d,c⟩
def IB{b:aa Nat}{l:aa RA}{v:CV l}{ds:aa AV}{aH:aa (ab Nat×Row)}(h:FC I b l v ds aH):X aH=nR l:=by
 induction h with
 |nil=>rfl
 |val h c t a=>exact a
 |row h t a=>exact bB (· + 1) a
def FC.rep{b:Gh}{p:aA}{f:Nat->Nat->ab aj}{o kb:aa Nat}(n:Inv b I p)(q:Le b {b with mem:=f})(j:∀r∈o,∀R,I.rw[r]?=Z R->gF {b with mem:=f} r R)(nb L:Nat)(all:aa (ab Nat×Row)){l:aa RA}{v:CV l}{ds:aa AV}{aH:aa (ab Nat×Row)}(h:FC I o l v ds aH):
  ∀(pre post:aa (ab Nat×Row)),all=pre++(aH++post)->∀us,RepL b ds us->RepL (eR b f nb kb L all) (kq l (L+X pre) v) us:=by
 induction h with
 |nil=>intro pre post _ us c;rw[c.nil_inv];exact .nil
 | @val a l v vs ds w aH h s t i=>
   intro pre post e us c;let⟨m,k⟩:=c.split;have:=(qlf n q j (nb:=nb) (kb:=kb) (L:=L) (all:=all) h.1 s m).append (i pre post e _ k);rw[ot]at this;exact this
 | @row a l v vs y ds aH so h t i=>
   intro pre post e us c;obtain⟨u,r,rfl,m,k⟩:=c.uncons;have d:all[X pre]?=Z (so,⟨a.size,v.map (aI a),0,0,Y⟩):=by rw[e,ej (ak _),mF];rfl
   refine .cons (XL n h d m) ?_;have:=i (pre++[(so,⟨a.size,v.map (aI a),0,0,Y⟩)]) post (by rw[e,bA];rfl) r k;rw[aM]at this;exact this
def FR.rep{c:Gh}{N:aA}{C:Nat->Nat->ab aj}{G:aa Nat}(F:Inv c I N)(M:Le c {c with mem:=C})(w:∀r∈G,∀R,I.rw[r]?=Z R->gF {c with mem:=C} r R)(nb L:Nat)(H:aa Nat)(all:aa (ab Nat×Row))(e:A4 I G all){rws:aa cc}{K:aa (ab Nat×Row)}(ad:∀(p:Nat) (x:ab Nat×Row),K[p]?=Z x->all[p]?=Z x){i:aa RE}{n d:Nat}{v:RV i}{ys:aa AV}{aH:aa (ab Nat×Row)}{kb:aa Nat}(h:FR I G rws K i n d v ys aH kb):
  ∀(pre:aa (ab Nat×Row)),all=pre++aH->X pre=d->nb<=n->(∀(j b:Nat),kb[j]?=Z b->H[n-nb+j]?=Z b)->∀us,RepL c ys us->RepL (eR c C nb H L all) (fp i (L+X pre) v) us:=by
 induction h with
 |nil=>intro pre _ _ _ _ us f;rw[f.nil_inv];exact .nil
 | @val a i v vs y ys aH n d kb h hf t m=>
   intro pre g z o s us f;obtain⟨u,r,rfl,B,A⟩:=f.uncons;let⟨Q,P⟩:=wL (zZ a v);exact .cons (G2 (Γ:={c with mem:=C}) (λ _ _ _ h=>h) (h _ _ (NQ F M (λ q hq R hR=>w q (hf q hq) R hR) B)) Q P) (m pre g z o s r A)
 | @row a i v vs y ys aH so n d kb h t m=>
   intro pre g z o s us f;obtain⟨u,r,rfl,B,A⟩:=f.uncons;have e:all[X pre]?=Z (so,⟨a.size,v.map (aI a),0,0,Y⟩):=by rw[g,ej (ak _),mF];rfl
   refine .cons (XL F h e B) ?_;have:=m (pre++[(so,⟨a.size,v.map (aI a),0,0,Y⟩)]) (by rw[g,bA];rfl) (by rw[aM,z];rfl) o s r A;rw[aM]at this;exact this
 | @agg l i v vs ds ys T S n d kb h t m=>
   intro pre g z o s us f;obtain⟨u,r,rfl,B,A⟩:=f.uncons;refine .cons ?_ ?_
   .cases B with
    |agg cs us D E W=>
      have:=h.rep F M w nb L (kb:=H) all pre S g us ⟨D,W⟩;exact .agg _ us this.len E this.rep
   .have:=m (pre++T) (by rw[g,bA]) (by rw[aM,z,IB h]) o s r A;rw[aM,IB h,<-eI]at this;exact this
def FR.boxes{c:Gh}{p:aA}{k:Nat->Nat->ab aj}{o:aa Nat}(C:Inv c I p)(A:Le c {c with mem:=k})(u:∀r∈o,∀R,I.rw[r]?=Z R->gF {c with mem:=k} r R)(nb L:Nat)(x:aa Nat)(all:aa (ab Nat×Row)){rws:aa cc}{q:aa (ab Nat×Row)}{f:aa RE}{n d:Nat}{v:RV f}{ys:aa AV}{aH:aa (ab Nat×Row)}{kb:aa Nat}(h:FR I o rws q f n d v ys aH kb):
  ∀(pre:aa (ab Nat×Row)),all=pre++aH->∀(j:Nat) (cs:aa AV),(iE f (L+X pre) v)[j]?=Z cs->∃b ds,kb[j]?=Z b/\I.bx[b]?=Z ds/\(noMc ds=Y->∃a w,cs=aI a w/\bu a ds=Z w)/\∀us,RepL c ds us->RepL (eR c k nb x L all) cs us:=by
 induction h with
 |nil=>intro pre _ j cs e;cases e
 |val h B t g=>exact λ pre i j cs e=>g pre i j cs e
 | @row a f v vs y ys aH so n d kb h t g=>
   intro pre i j cs e;exact g (pre++[(so,⟨a.size,v.map (aI a),0,0,Y⟩)]) (by rw[i,bA];rfl) j cs (by rw[aM];exact e)
 | @agg l f v vs ds ys s z n d kb h t g=>
   intro pre i j cs e;exact g (pre++s) (by rw[i,bA]) j cs (by rw[aM,IB h,<-eI];exact e)
def FR.kept{f:aa Nat}{rws:aa cc}{e:aa (ab Nat×Row)}{c:aa RE}{n d:Nat}{v:RV c}{ys:aa AV}{aH:aa (ab Nat×Row)}{kb:aa Nat}(h:FR I f rws e c n d v ys aH kb):(∀b∈kb,b<X I.bx)/\∀L,X (iE c L v)=X kb:=by
 induction h with
 |nil=>exact⟨by simp,λ _=>rfl⟩
 |val h g t a=>exact a
 |row h t a=>exact⟨a.1,λ L=>a.2 (L+1)⟩
 |agg h t a=>exact⟨a.1,λ L=>a.2 _⟩
def FB.rep{c:Gh}{s:aA}{f:Nat->Nat->ab aj}{q kb:aa Nat}(A:Inv c I s)(y:Le c {c with mem:=f})(j:∀r∈q,∀R,I.rw[r]?=Z R->gF {c with mem:=f} r R)(nb L:Nat)(all:aa (ab Nat×Row)){sas:aa SA}{o:eV sas}{n:Nat}{aH:aa (ab Nat×Row)}(h:FB I q sas o n aH):
  ∀(pre post:aa (ab Nat×Row)),all=pre++(aH++post)->∀(i:Nat) (cs:aa AV),(dI sas (L+X pre) o)[i]?=Z cs->∃ds,I.bx[n+i]?=Z ds/\(noMc ds=Y->∃a w,cs=aI a w/\bu a ds=Z w)/\∀us,RepL c ds us->RepL (eR c f nb kb L all) cs us:=by
 induction h with
 |nil=>intro pre post _ i cs b;cases b
 | @box r l v o n ds p m z h t e=>
   intro pre post d i cs b;have d:all=pre++(p++(m++post)):=by rw[d,bA]
   have b:(kq l (L+X pre) (toC l (toB l v))::dI r (L+X pre+nR l) o)[i]?=Z cs:=b;cases i with
   |zero=>
     cases b;rw[AL];refine⟨ds,z,λ x=>by let⟨a,w,e1,e2⟩:=h.mc x;exact⟨a,w,e1 _,e2⟩,λ us u=>?_⟩;exact h.rep A y j nb L all pre (m++post) d us u
   |succ i=>
     let⟨k,C,B⟩:=e (pre++p) post (by rw[d,bA]) i cs (by rw[aM,IB h,<-eI];exact b);exact⟨k,by rw[<-C];congr 1;omega,B⟩
 |skip1 t e|skip2 t e|skip3 t e|skip4 t e=>exact λ pre post d i cs b=>e pre post d i cs b
def qnr{c b:Gh}{ys d:aa AV}{u:aj}(f:X ys=X d)(h:∀us,RepL c ys us->RepL b d us)(a:Rep c (cy ys) u):Rep b (cy d) u:=by
 match ys,d,f with
 |[],[],_=>
   cases a with
   |tup cs us e a=>exact .tup [] us e (h us ⟨e,a⟩).rep
 |[y],[z],_=>
   let⟨l,r,g,i,_⟩:=(h [u] (.cons a .nil)).uncons;cases g;exact i
 |y::k::ys,z::j::d,f=>
   cases a with
   |tup cs us e a=>exact .tup _ us (by rw[e];exact f) (h us ⟨e,a⟩).rep
def Zp{e:Type}{f:e->ab Nat}:∀{l:aa e},(l.filterMap f).Nodup->∀(a b j:Nat) (x y:e),l[a]?=Z x->l[b]?=Z y->f x=Z j->f y=Z j->a=b
 |[],_,a,b,j,x,y,h,_,_,_=>by cases h
 |z::l,d,a,b,j,x,y,o,n,m,k=>by
   have r:(l.filterMap f).Nodup:=by
    cases g:f z with
    |none=>rw[QH g]at d;exact d
    |some q=>rw[JF g]at d;exact(ov.1 d).2
   have c:∀{i:Nat}{w:e},l[i]?=Z w->f z=Z j->f w=Z j->False:=λ s g p=>by
    rw[JF g]at d;exact(ov.1 d).1 (nD.2 ⟨_,aK s,p⟩)
   cases a with
   |zero=>
     cases b with
     |zero=>rfl
     |succ b=>cases o;exact(c n m k).elim
   |succ a=>
     cases b with
     |zero=>cases n;exact(c o k m).elim
     |succ b=>rw[Zp r a b j x y o n m k]
theorem qlq{P:aZ}{c:TC}(hC:cZ P c.pc.cfg){f:cI}{fn:Func}{cd:Code}(hf:P.funcs[f]?=Z fn)(L:je fn=O)(hc:fn.body=Z cd)(c1:c.nt=fn.ntmps)(g:vp)(ad:c.np=BA g.args)(b9:X g.args<=fn.ntmps)
  (h:∀a v,g.fn a=Z v->∃n k,qi c (yn c g.args g.res (V fn.results)) n k [.code cd] (lX 0 (oh g.args 0 0 a)) ⟨sBx g.args 0 a,sRw g.args a⟩=Z v):cp P f (sgP g):=by
 unfold je at L;rw[hc]at L;simp only[aJ,eD]at L;let⟨c9,a6⟩:=L;refine⟨⟨fn,hf,by rw[hc];rfl,a6⟩,λ Γ I w d G r H Q hp=>?_⟩;unfold sgP at hp;split at hp<;>try cases hp
 rename_i a ha;split at hp<;>try cases hp
 rename_i v hv;let⟨N,k,b5⟩:=h a v hv;have h0:nj ⟨λ i=>i,0,λ _=>U,λ _=>0,λ _=>[],[]⟩ I 0 0:=⟨λ _=>rfl,rfl,λ id R h=>(by cases h),λ id r h=>absurd h (eY _),λ id d5 r h=>absurd h (eY _),λ id R h=>(by cases h)⟩
 let⟨m,cf,d4,s1,s2,s3,s4,s5,s6,s7,s8⟩:=wT g.args ha h0;have d7:X d<=fn.ntmps:=bL s7 b9;have s5:0+X (sBx g.args 0 a)=cf:=s5;have F:X I.bx=nBx g.args:=by rw[<-s3,<-s5,xH];omega
 have ad:c.np=nBx g.args:=ad
 have b7:Rel c.n2 m (lX 0 (oh g.args 0 0 a)) ⟨sBx g.args 0 a,sRw g.args a⟩ (d++List.replicate (fn.ntmps-X d) .dead) {I with wr:=[],wrr:=[]}:=by
  refine⟨by show _=c.nt;rw[aM,sk,c1];omega,λ t=>?_,s4,by show m.nb=X (sBx g.args 0 a);rw[s2.nb];omega,λ b cs L=>?_,λ b b' _ _ he=>by rw[s2.b,s2.b]at he;exact he,s2.rows,s2.rinj,λ i H=>⟨?_,s2.b i⟩⟩
  .have:=Iy (m:=m) 0 (pre:=[]) (post:=List.replicate (fn.ntmps-X d) .dead) s6 rfl t;simpa using this
  .let⟨ds,d1,d2⟩:=s8 b cs L;rw[bS]at d1;exact⟨ds,by rw[s2.b];exact d1,d2⟩
  .have H:i<c.np:=H;rw[s2.nb,s3,F,<-ad];exact H
 have c6:Go c.pc (λ e s=>(e=.ret\/e=.normal)/\∃m E τ,Rel c.n2 m E τ s.tm s.I/\yn c g.args g.res (V fn.results) E τ=Z v) [.code cd] .normal ⟨d++List.replicate (fn.ntmps-X d) .dead,{I with wr:=[],wrr:=[]}⟩:=
  M6 (Qr:=λ v e s=>(e=.ret\/e=.normal)/\∃m E τ,Rel c.n2 m E τ s.tm s.I/\yn c g.args g.res (V fn.results) E τ=Z v) (λ E τ r m tm I h Q e he=>⟨he,m,E,τ,Q,h⟩) N k _ _ _ _ _ _ _ b5 b7
 let⟨n,e,s',g3,c8,l,E2,d3,z,B⟩:=c6;unfold jB;apply calls_of_wp hf hc;have c5:Inv Γ (pZ fn I d).I w:=H.wr rfl rfl
 have ht:ck Γ (pZ fn I d).tm {tmps:=G.toArray++Array.replicate (fn.ntmps-G.toArray.size) undef,defers:=[]}:=by
  show RepL Γ (d++List.replicate (fn.ntmps-X d) .dead) (V (G.toArray++Array.replicate (fn.ntmps-G.toArray.size) undef));rw[yL,yM];have:G.toArray.size=X d:=by simpa using Q.len
  rw[this];exact Q.append (zx Γ _)
 apply wp_mono (Nv hC (n+12) cd _ e s' c9 (MN WV g3) Γ w _ c5 ht rfl);rintro e' a' w' ⟨rfl,hd,Γ',x1,x2,x3,x4⟩;unfold yn at B;split at B<;>try cases B
 rename_i o iB q a5;split at B<;>try cases B
 rename_i vv T bs q' c0;split at B<;>cases B;rename_i C;rw[aJ,aJ,aJ,bz]at C;let⟨a0,bb,ys,cl,dr⟩:=HA z (rws:=fT g.args o) c0;let⟨vr,q1,q2⟩:=F5 hC.ty x2 x3 (fn:=fn) (r:=cy ys) (by unfold nI;rw[cl]);have S:∀i,i<nBx g.args->l.b (0+i)=0+i:=λ i H=>by rw[bS];exact(z.pin i (by rw[<-ad]at H;exact H)).2
 let⟨a1,dT⟩:=xi z g.args a5 S;have cP:∀id∈iB++T,id<X l.rw:=λ id h=>(aR.1 h).elim (a1 id) (a0 id)
 have c7:∃fs,(VB fs s'.I g.args 0/\∀id∈iB,∀r,l.r id=Z r->r ∉ fs)/\(((∀y∈ys,∀r∈rsA y,r∈fs)/\(∀b∈bs,∀ds,s'.I.bx[l.b b]?=Z ds->∀x∈ds,∀r∈rsC x,r∈fs)/\T=[])\/(q'=O/\∀id∈T,∀r,l.r id=Z r->r ∉ fs)):=by
  obtain hc|hc:=Bool.or_eq_true_iff.1 C.2.1
  .have hc:iB++T=[]:=by simpa[pg]using hc
   let⟨dm,dk⟩:=nz.1 hc;exact⟨(s'.I.bx.flatMap λ ds=>ds.flatMap rsC)++ys.flatMap rsA,⟨VB.all (λ ds a9 x hx r Q=>aR.2 (.inl (kI.2 ⟨ds,a9,kI.2 ⟨x,hx,Q⟩⟩))) _ _,by rw[dm];intro id H;cases H⟩,.inl ⟨λ y hy r Q=>aR.2 (.inr (kI.2 ⟨y,hy,Q⟩)),λ b _ ds a9 x hx r Q=>aR.2 (.inl (kI.2 ⟨ds,aK a9,kI.2 ⟨x,hx,Q⟩⟩)),dk⟩⟩
  .rw[aJ,gO]at hc;obtain hq|hq:=hc.2
   .subst hq;exact⟨[],⟨VB.clean z g.args a5 S,λ _ _ _ _ h=>by cases h⟩,.inr ⟨hc.1,λ _ _ _ _ h=>by cases h⟩⟩
   .unfold ZU at hq;split at hq<;>try cases hq
    rename_i vs co;rw[bz]at hq
    have aE:∀id∈iB++T,∀r,l.r id=Z r->r ∉ vs.filterMap (λ i=>cond (Nat.blt i (X l.rw)) (l.r i) U):=λ id A r Q hm=>by
     let⟨a,ha,az⟩:=nD.1 hm;have h1:=hq a ha;rw[bz]at h1;have h2:=h1 id A;cases L:Nat.blt a (X l.rw) with
     |false=>rw[L]at az;cases az
     |true=>
       rw[L]at az;have W:a<X l.rw:=by simpa[QC]using L
       have:=z.rinj a id r W (cP id A) az Q;subst this;simp at h2
    have ct:∀id∈vs,id<X l.rw->∀r,l.r id=Z r->r∈vs.filterMap (λ i=>cond (Nat.blt i (X l.rw)) (l.r i) U):=λ id A W r Q=>by
     exact nD.2 ⟨id,A,by rw[show Nat.blt id (X l.rw)=O by simpa[QC]using W];exact Q⟩
    exact⟨_,⟨VB.vid z g.args co S ct,λ id A=>aE id (aR.2 (.inl A))⟩,.inr ⟨hc.1,λ id A=>aE id (aR.2 (.inr A))⟩⟩
 let⟨fs,f1,f2⟩:=c7;let⟨M,b1,b2,b3⟩:=dT fs f1.1 f1.2;have a7:X M=nrB g.args:=by rw[<-pG g.args o,<-b2,bO]
 let⟨D,v',nE,n1,n2,n3,n4⟩:=dr fs M (nBx g.args) (nrB g.args) (qsb z a5 b3.2) (by rw[nJ];exact ak _) f2;rw[n4]at hp;cases hp
 have c2:((M++nE).filterMap (·.1)).Nodup:=by
  rw[mG,b3.1,n3,<-mG];have A:∀id∈iB++T,id<X l.rw:=λ id h=>(aR.1 h).elim (a1 id) (a0 id);exact IU (uX C.1) λ x hx y hy q e1 e2=>z.rinj x y q (A x hx) (A y hy) e1 e2
 have b8:A4 s'.I fs (M++nE):=λ p hp=>(aR.1 hp).elim (b1.newOk p) (n1.newOk p);let⟨b4,bp⟩:=n1.kept;have c3:(bs.map l.b).Nodup:=In (uX C.2.2.1) λ a ha b L he=>z.inj a b (bb a ha) (bb b L) he
 have c4:∀b∈bs.map l.b,X I.bx<=b/\b<X s'.I.bx:=λ b L=>by
  refine⟨?_,b4 b L⟩;obtain⟨b0,h1,rfl⟩:=bF.1 L;have d6:=gP (C.2.2.2 b0 h1);rw[F];refine Nat.le_of_not_lt λ W=>?_;have e1:=S (l.b b0) W;rw[bS]at e1;have:=z.inj (l.b b0) b0 (z.pin _ (by show _<c.np;rw[ad];exact W)).1 (bb b0 h1) e1;omega
 let⟨mm,z1,z2,z3,z4⟩:=Ix (σ0:=I) H x1 x2 x4.bl (dI g.args (X I.rw) o++iE D (X I.rw+nrB g.args) v') (bs.map l.b) (by rw[aM,nL,F,bp]) c4 c3 fs (M++nE) (λ i cs u=>by
  by_cases ar:i<X I.bx
  .rw[dq (by rw[nL,<-F];exact ar)]at u;have u:(dI g.args (X I.rw+0) o)[i]?=Z cs:=u;have ax:i<X s'.I.bx:=dl ar x4.bl;have dn:od (X I.bx) (bs.map l.b) i=i:=af ar;rw[dn];refine⟨s'.I.bx[i],aS ax,λ hn=>?_,λ m fz K us hu=>?_⟩
   .let⟨m,fz,_,K⟩:=pD fs x2 s'.I.wrr;let⟨bm,d1,d2,_⟩:=b1.rep x2 fz.le K (X I.bx) (X I.rw) (kb:=bs.map l.b) (M++nE) [] nE rfl i cs u;rw[bS,aS ax]at d1;cases d1;obtain⟨a,w,rfl,e2⟩:=d2 hn;exact OI a hn e2 (x2.box i _ (aS ax))
   let⟨bm,d1,_,d2⟩:=b1.rep x2 fz.le K (X I.bx) (X I.rw) (kb:=bs.map l.b) (M++nE) [] nE rfl i cs u;rw[bS,aS ax]at d1;cases d1;exact d2 us hu
  .rw[ej (by rw[nL,<-F];omega),nL,<-F,<-a7]at u;have an:=u;have ca:=getElem?_lt u;rw[bp]at ca;obtain⟨b,k1⟩:∃b,(bs.map l.b)[i-X I.bx]?=Z b:=⟨_,aS ca⟩
   obtain⟨ds,k2⟩:∃ds,s'.I.bx[b]?=Z ds:=⟨_,aS (b4 _ (aK k1))⟩
   refine⟨ds,?_,λ hn=>?_,λ m fz K us hu=>?_⟩
   .unfold od;rw[ae ar,dz,k1];exact k2
   .let⟨m,fz,_,K⟩:=pD fs x2 s'.I.wrr;let⟨b',bm,a4,a3,a2,_⟩:=n1.boxes x2 fz.le K (X I.bx) (X I.rw) (bs.map l.b) (M++nE) M rfl _ cs an;cases k1.symm.trans a4;cases k2.symm.trans a3;obtain⟨a,w,rfl,e2⟩:=a2 hn;exact OI a hn e2 (x2.box _ _ k2)
   .let⟨b',bm,a4,a3,_,a2⟩:=n1.boxes x2 fz.le K (X I.bx) (X I.rw) (bs.map l.b) (M++nE) M rfl _ cs an;cases k1.symm.trans a4;cases k2.symm.trans a3;exact a2 us hu) (λ a so R h=>b8 (so,R) (aK h)) (λ a b j R R' h1 h2=>Zp c2 a b j _ _ h1 h2 rfl rfl) (List.range (X I.bx)) (List.range (X I.rw))
 have b6:Rep (eR Γ' mm (X I.bx) (bs.map l.b) (X I.rw) (M++nE)) (cy (fp D (X I.rw+nrB g.args) v')) vr:=by
  refine qnr (n1.len _) (λ us hu=>?_) q2;rw[<-a7];exact n1.rep x2 z1.le z2 (X I.bx) (X I.rw) (bs.map l.b) (M++nE) b8 (λ p x hx=>by rw[dq (getElem?_lt hx)];exact hx) M rfl a7 (by rw[F];exact ak _) (λ j b hj=>by rw[F,mF,bS];exact hj) us hu
 rw[eK,b2,n2]at z4
 have a8:bN {I with wr:=[],wrr:=[]} ⟨dI g.args (X I.rw) o++iE D (X I.rw+nrB g.args) v',I.rw.map fG++(fe g.args o++ei D v'),List.range (X I.bx),List.range (X I.rw)⟩:=by
  refine⟨by show X I.bx<=X (dI g.args (X I.rw) o++_);rw[aM,nL,F];exact kH _ _,by show X I.rw<=X (I.rw.map fG++_);rw[aM,bO];exact kH _ _,λ i H hn=>absurd (jS.2 H) hn,λ i H hn=>absurd (jS.2 H) hn,λ i h=>(by cases h),λ i h=>(by cases h)⟩
 have cb:a'.defers=[]/\∃v,(results fn a'.tmps).run P w'=.ok v w'/\∃bn Γ',Ending.returned v=.returned bn/\Ext Γ w Γ' w'/\Inv Γ' ⟨dI g.args (X I.rw) o++iE D (X I.rw+nrB g.args) v',I.rw.map fG++(fe g.args o++ei D v'),List.range (X I.bx),List.range (X I.rw)⟩ w'/\Rep Γ' (cy (fp D (X I.rw+nrB g.args) v')) bn/\bN {I with wr:=[],wrr:=[]} ⟨dI g.args (X I.rw) o++iE D (X I.rw+nrB g.args) v',I.rw.map fG++(fe g.args o++ei D v'),List.range (X I.bx),List.range (X I.rw)⟩:=
  ⟨hd,vr,q1,vr,_,rfl,z3,z4,b6,a8⟩
 obtain rfl|rfl:=c8
 .exact cb
 .exact cb
end
end
section
open RowKit
def qby{α:Type}(z:α)(s:α->α):Nat->α:=λ k=>Nat.rec (motive:=λ _=>α) z (λ _ a=>s a) k
def ZJ{α:Type}(z:α)(s:Nat->α->α):Nat->α:=λ k=>Nat.rec (motive:=λ _=>α) z (λ m a=>s m a) k
abbrev Y8:=aa aN
abbrev TL:=aa T
def Iw:Nat:=4000
def vh(r:Nat):Code->aa It->ab (aa It)
 |.seq a b,k=>match vh r a (.code b::k)with
   |Z x=>Z x
   |U=>vh r b k
 |.cond _ a b,k=>match vh r a k with
   |Z x=>Z x
   |U=>vh r b k
 |.block id b,k=>vh r b (.blk id::k)
 |.loop b,k=>match Nat.beq (qZ b) r with
   |O=>Z (.code (.loop b)::k)
   |Y=>vh r b (.code (.loop b)::k)
 |_,_=>U
def yg(f:Func):Code:=match f.body with
 |Z c=>c
 |U=>.skip
def stL(f:Func)(r:Nat):aa It:=match vh r (yg f) []with
 |Z x=>x
 |U=>[]
def xJ:aa Nat->aa Nat->Bool
 |[],[]=>O
 |a::l,b::m=>Nat.beq a b&&xJ l m
 |_,_=>Y
def yo(a b:aa Nat)(x y:ab Sig):ab Sig:=cond (xJ a b) x y
def ZM(f:Nat):aa Nat->Bool
 |[]=>Y
 |a::l=>cond (Nat.beq a f) O (ZM f l)
theorem L5:∀{a b},xJ a b=O->a=b
 |[],[],_=>rfl
 |a::l,b::m,h=>by
   simp only[xJ,aJ]at h;rw[cm h.1,L5 h.2]
 |[],_::_,h|_::_,[],h=>by cases h
def UK{a b x y g}(h:yo a b x y=Z g):(a=b/\x=Z g)\/y=Z g:=by
 grind [yo,L5]
def yG:(ts:aa ATy)->lf ts->aa Nat->aa TV
 |[],_,_=>[]
 |.val τ::r,a,b=>om τ a.1::yG r a.2 b
 |.fn::r,a,g::b=>.fn g []::yG r a b
 |.fn::r,a,[]=>.dead::yG r a []
def eQ:(ts:aa ATy)->lf ts->aa Nat->aa AV
 |[],_,_=>[]
 |.val τ::r,a,b=>cx τ a.1::eQ r a.2 b
 |.fn::r,a,g::b=>.fn g []::eQ r a b
 |.fn::r,a,[]=>.dead::eQ r a []
def Gp:∀ts a b,X (eQ ts a b)=X ts
 |[],_,_=>rfl
 |.val τ::r,a,b|.fn::r,a,g::b|.fn::r,a,[]=>by simp[eQ,Gp r]
def Hy{m}:∀ts a b,OKL m (yG ts a b) (eQ ts a b)
 |[],_,_=>rfl
 |.val τ::r,a,b=>⟨_,_,rfl,Ib τ a.1,Hy r a.2 b⟩
 |.fn::r,a,g::b=>⟨_,_,rfl,⟨[],rfl,rfl⟩,Hy r a b⟩
 |.fn::r,a,[]=>⟨_,_,rfl,trivial,Hy r a []⟩
def Gm:∀ts {ys a},oH ts ys=Z a->dK ys (eQ ts a (fU ys))
 |[],ys,a,h=>by
   cases ys with
   |nil=>exact .nil
   |cons y ys=>cases h
 |.val τ::r,ys,a,h=>by
   obtain⟨y,ys,rfl,b,d⟩:=UO h
   have c:fU (y::ys)=fU ys:=by
    have:=(zN b).2;cases y<;>first|rfl|exact absurd rfl (this _ _)
   rw[c];exact .cons (HM b) (Gm r d)
 |.fn::r,ys,a,h=>by
   change dFn _ ys=_ at h;unfold dFn at h;split at h
   case h_2=>cases h
   exact .cons (.refl _) (Gm r h)
def jc{P f fn}(c:P.funcs[f]?=Z fn)(a:je fn=O):jL P f:=by
 unfold je at a;cases b:fn.body with
 |none=>rw[b]at a;cases a
 |some d=>
   rw[b]at a;simp only[aJ,eD]at a;exact⟨fn,c,by rw[b];rfl,a.2⟩
def qnb{P c f}(e:jL P f)(h:∀i g a,c.pf f i=Z g->g.fn a=U):cp P f (gg (cN c f)):=by
 refine⟨e,λ Γ I w d b r l j k=>?_⟩;grind [cN,gg]
def T6{P f g}(d:jL P f)(h:∀a,g.fn a=U):cp P f (sgP g):=by
 refine⟨d,λ Γ I w c b r j e i=>?_⟩;grind [sgP]
def qn5{P c}(m:cZ P c.pc.cfg){f fn cd}(i:P.funcs[f]?=Z fn)(l:je fn=O)(j:fn.body=Z cd)(d:c.nt=fn.ntmps)(g)(e:c.np=BA g.args)(b:X g.args<=fn.ntmps)
  (h:∃N k,∀a,g.fn a=qi c (yn c g.args g.res (V fn.results)) N k [.code cd] (lX 0 (oh g.args 0 0 a)) ⟨sBx g.args 0 a,sRw g.args a⟩):cp P f (sgP g):=by
 grind [qlq]
def Zg{P:aZ}{c:TC}(v:P.follows .mixedOrders=O)(s:∀t d,c.ty t=Z d->cz P t=Z d)(h:∀f,c.has f=O->cp P f (gg (cN c f)))(q:∀f B g,c.sf f B=Z g->cp P f (sgP g))(A:∀f g,c.mf f=Z g->cp P f (mgP g))(z:∀f g,c.xf f=Z g->cp P f (xgP g))(y:∀f fn,c.inl f=Z fn->P.funcs[f]?=Z fn/\je fn=O):cZ P c.pc.cfg:=by
 refine⟨v,s,(λ f fn h=>by cases h),λ f p a=>?_,λ f fn h=>?_⟩
 rotate_left
 .let⟨e1,b⟩:=y f fn h;unfold je at b;cases o:fn.body with
  |none=>rw[o]at b;cases b
  |some D=>
    rw[o]at b;simp only[aJ,eD]at b;exact⟨e1,b.2,λ c h=>by cases h;exact b.1⟩
 have a:c.pc.prim f=Z p:=a;unfold PC.prim at a;have e1:c.pc.pf f=match c.has f with|true=>Z (cN c f)|false=>U:=rfl
 have b:c.pc.sp f=c.spf f:=rfl;rw[e1,b]at a;unfold TC.spf at a;cases l:c.has f with
 |true=>
   rw[l]at a;cases a;exact h f l
 |false=>
   rw[l]at a;cases i:c.mf f with
   |some g=>
     rw[i]at a;cases a;exact A f g i
   |none=>
     rw[i]at a;cases e:c.xf f with
     |some g=>
       rw[e]at a;cases a;exact z f g e
     |none=>
       rw[e]at a;cases n:c.sf f []with
       |none=>rw[n]at a;cases a
       |some g=>
         rw[n]at a;cases a;refine⟨(q f [] g n).1,λ Γ I w k j r x u a=>?_⟩;unfold sgG at a;split at a
         .next C m=>exact(q f _ C m).2 Γ I w k j r x u a
         .cases a
end
inductive nw where
 |leaf
 |node (k:Nat) (d:TD) (l r:nw)
def nw.get:nw->Nat->ab TD
 |.leaf,_=>U
 |.node k d l r,t=>match Nat.beq t k with
   |O=>Z d
   |Y=>match Nat.blt t k with
     |O=>l.get t
     |Y=>r.get t
def nw.ok(P:aZ):nw->Prop
 |.leaf=>True
 |.node k d l r=>cz P k=Z d/\l.ok P/\r.ok P
def nw.get_ok{P:aZ}:∀{x:nw}{t:Nat}{d:TD},x.ok P->x.get t=Z d->cz P t=Z d
 |.leaf,t,d,_,h=>by cases h
 |.node k f l r,t,d,⟨e,c,b⟩,h=>by
   simp only[nw.get]at h;split at h
   .next a=>cases h;rw[cm a];exact e
   .split at h
    .exact get_ok c h
    .exact get_ok b h
abbrev zS:aj:=.string ⟨#[]⟩
abbrev zI:aj:=.int .i64 0
abbrev zL:aj:=.slice U 0 0
abbrev zB:aj:=.bool Y
abbrev ff:=Y
abbrev tt:=O
abbrev nDn(k:Nat)(d:TD):nw:=.node k d .leaf .leaf
def nk{P:aZ}{k:Nat}{d:TD}(h:cz P k=Z d):(nDn k d).ok P:=⟨h,trivial,trivial⟩
def Y6:nw:=(.node 112 ⟨8,112,tt,[zI,zS,zI,zL,zI,zS,zI,zL],.struct [(0,4,tt),(4,4,tt)]⟩
 (.node 26 ⟨1,24,ff,[zL],.slice 9 1 16 [zS]⟩
 (.node 14 ⟨2,24,tt,[zS,.int .u64 (0)],.struct [(0,1,ff),(1,1,ff)]⟩
 (.node 8 ⟨4,24,tt,[zI,zI,zB,.int .u8 (0)],.struct [(0,1,ff),(1,1,ff),(2,1,ff),(3,1,ff)]⟩
 (.node 5 ⟨1,1,ff,[.int .u8 (0)],.int .u8⟩
 (.node 3 ⟨1,8,ff,[zI],.int .i64⟩
 (nDn 2 ⟨1,8,ff,[zI],.int .i64⟩)
 (nDn 4 ⟨1,1,ff,[zB],.bool⟩))
 (.node 7 ⟨4,24,tt,[zI,zI,zB,.int .u8 (0)],.struct [(0,1,ff),(1,1,ff),(2,1,ff),(3,1,ff)]⟩
 (nDn 6 ⟨1,1,ff,[.int .u8 (0)],.int .u8⟩)
 .leaf))
 (.node 11 ⟨1,16,ff,[zS],.string⟩
 (.node 10 ⟨1,16,ff,[zS],.string⟩
 (nDn 9 ⟨1,16,ff,[zS],.string⟩)
 .leaf)
 (.node 13 ⟨2,24,tt,[zS,.int .u64 (0)],.struct [(0,1,ff),(1,1,ff)]⟩
 (nDn 12 ⟨1,8,ff,[.int .u64 (0)],.int .u64⟩)
 .leaf)))
 (.node 20 ⟨1,16,ff,[.nilIface],.other⟩
 (.node 17 ⟨1,8,ff,[.pointer U],.ptr⟩
 (.node 16 ⟨1,8,ff,[.pointer U],.ptr⟩
 (nDn 15 ⟨1,8,ff,[.pointer U],.ptr⟩)
 .leaf)
 (.node 19 ⟨1,8,tt,[.pointer U],.struct [(0,1,ff)]⟩
 (nDn 18 ⟨1,8,tt,[.pointer U],.struct [(0,1,ff)]⟩)
 .leaf))
 (.node 23 ⟨1,24,ff,[zL],.slice 78 5 80 [zI,zS,zI,zL,zL]⟩
 (.node 22 ⟨1,24,ff,[zL],.slice 47 4 56 [zI,zS,zI,zL]⟩
 (nDn 21 ⟨1,4,ff,[.int .i32 (0)],.int .i32⟩)
 .leaf)
 (.node 25 ⟨4,80,tt,[zI,zL,zL,zL],.struct [(0,1,ff),(1,1,ff),(2,1,ff),(3,1,ff)]⟩
 (nDn 24 ⟨4,80,tt,[zI,zL,zL,zL],.struct [(0,1,ff),(1,1,ff),(2,1,ff),(3,1,ff)]⟩)
 .leaf))))
 (.node 47 ⟨4,56,tt,[zI,zS,zI,zL],.struct [(0,1,ff),(1,1,ff),(2,1,ff),(3,1,ff)]⟩
 (.node 35 ⟨1,24,ff,[zL],.slice 59 3 40 [zI,zI,zL]⟩
 (.node 32 ⟨1,24,ff,[zL],.slice 62 8 112 [zI,zS,zI,zL,zI,zS,zI,zL]⟩
 (.node 28 ⟨2,32,tt,[zI,zL],.struct [(0,1,ff),(1,1,ff)]⟩
 (nDn 27 ⟨2,32,tt,[zI,zL],.struct [(0,1,ff),(1,1,ff)]⟩)
 .leaf)
 (.node 34 ⟨7,88,tt,[zI,zL,zI,zI,zI,zI,zL],.struct [(0,2,tt),(2,1,ff),(3,1,ff),(4,1,ff),(5,1,ff),(6,1,ff)]⟩
 (nDn 33 ⟨7,88,tt,[zI,zL,zI,zI,zI,zI,zL],.struct [(0,2,tt),(2,1,ff),(3,1,ff),(4,1,ff),(5,1,ff),(6,1,ff)]⟩)
 .leaf))
 (.node 44 ⟨2,32,tt,[.int .u8 (0),zL],.struct [(0,1,ff),(1,1,ff)]⟩
 (.node 43 ⟨1,24,ff,[zL],.slice 5 1 1 [.int .u8 (0)]⟩
 (nDn 36 ⟨1,8,ff,[zI],.int .i64⟩)
 .leaf)
 (.node 46 ⟨4,56,tt,[zI,zS,zI,zL],.struct [(0,1,ff),(1,1,ff),(2,1,ff),(3,1,ff)]⟩
 (nDn 45 ⟨2,32,tt,[.int .u8 (0),zL],.struct [(0,1,ff),(1,1,ff)]⟩)
 .leaf)))
 (.node 77 ⟨5,80,tt,[zI,zS,zI,zL,zL],.struct [(0,4,tt),(4,1,ff)]⟩
 (.node 61 ⟨8,112,tt,[zI,zS,zI,zL,zI,zS,zI,zL],.struct [(0,4,tt),(4,4,tt)]⟩
 (.node 59 ⟨3,40,tt,[zI,zI,zL],.struct [(0,1,ff),(1,1,ff),(2,1,ff)]⟩
 (nDn 58 ⟨3,40,tt,[zI,zI,zL],.struct [(0,1,ff),(1,1,ff),(2,1,ff)]⟩)
 .leaf)
 (.node 76 ⟨1,24,ff,[zL],.slice 80 11 152 [zI,zI,zS,zI,zL,zI,zS,zI,zL,zI,zL]⟩
 (nDn 62 ⟨8,112,tt,[zI,zS,zI,zL,zI,zS,zI,zL],.struct [(0,4,tt),(4,4,tt)]⟩)
 .leaf))
 (.node 80 ⟨11,152,tt,[zI,zI,zS,zI,zL,zI,zS,zI,zL,zI,zL],.struct [(0,1,ff),(1,4,tt),(5,4,tt),(9,1,ff),(10,1,ff)]⟩
 (.node 79 ⟨11,152,tt,[zI,zI,zS,zI,zL,zI,zS,zI,zL,zI,zL],.struct [(0,1,ff),(1,4,tt),(5,4,tt),(9,1,ff),(10,1,ff)]⟩
 (nDn 78 ⟨5,80,tt,[zI,zS,zI,zL,zL],.struct [(0,4,tt),(4,1,ff)]⟩)
 .leaf)
 (.node 109 ⟨1,24,ff,[zL],.slice 113 8 112 [zI,zS,zI,zL,zI,zS,zI,zL]⟩
 (nDn 83 ⟨1,24,ff,[zL],.slice 62 8 112 [zI,zS,zI,zL,zI,zS,zI,zL]⟩)
 .leaf)))))
 (.node 209 ⟨1,4,ff,[.int .u32 (0)],.int .u32⟩
 (.node 159 ⟨1,24,ff,[zL],.slice 151 4 40 [zS,zI,zI,zI]⟩
 (.node 119 ⟨1,16,ff,[.nilIface],.other⟩
 (.node 115 ⟨2,32,tt,[.pointer U,zL],.struct [(0,1,ff),(1,1,ff)]⟩
 (.node 114 ⟨1,8,ff,[.pointer U],.ptr⟩
 (nDn 113 ⟨8,112,tt,[zI,zS,zI,zL,zI,zS,zI,zL],.struct [(0,4,tt),(4,4,tt)]⟩)
 .leaf)
 (.node 118 ⟨1,16,ff,[.nilIface],.other⟩
 (nDn 116 ⟨2,32,tt,[.pointer U,zL],.struct [(0,1,ff),(1,1,ff)]⟩)
 .leaf))
 (.node 145 ⟨1,24,tt,[zL],.struct [(0,1,ff)]⟩
 (.node 144 ⟨1,24,tt,[zL],.struct [(0,1,ff)]⟩
 (nDn 142 ⟨1,8,ff,[.pointer U],.ptr⟩)
 .leaf)
 (.node 151 ⟨4,40,tt,[zS,zI,zI,zI],.struct [(0,1,ff),(1,1,ff),(2,1,ff),(3,1,ff)]⟩
 (nDn 150 ⟨4,40,tt,[zS,zI,zI,zI],.struct [(0,1,ff),(1,1,ff),(2,1,ff),(3,1,ff)]⟩)
 .leaf)))
 (.node 189 ⟨1,8,ff,[.pointer U],.other⟩
 (.node 177 ⟨1,24,ff,[zL],.slice 22 1 24 [zL]⟩
 (.node 175 ⟨1,8,ff,[.pointer U],.ptr⟩
 (nDn 165 ⟨1,8,ff,[.pointer U],.ptr⟩)
 .leaf)
 (.node 186 ⟨1,24,ff,[zL],.slice 3 1 8 [zI]⟩
 (nDn 183 ⟨1,8,ff,[.int .u64 (0)],.int .u64⟩)
 .leaf))
 (.node 197 ⟨2,24,tt,[zS,zI],.struct [(0,1,ff),(1,1,ff)]⟩
 (.node 195 ⟨1,8,ff,[.map U],.map [KC.str,KC.int .i64] tt tt 4 [zI,zS,zI,zL]⟩
 (nDn 192 ⟨1,24,ff,[zL],.slice 83 1 24 [zL]⟩)
 .leaf)
 (.node 202 ⟨1,8,ff,[zI],.int .i64⟩
 (nDn 198 ⟨2,24,tt,[zS,zI],.struct [(0,1,ff),(1,1,ff)]⟩)
 .leaf))))
 (.node 270 ⟨64,64,tt,[.int .u8 (0),.int .u8 (0),.int .u8 (0),.int .u8 (0),.int .u8 (0),.int .u8 (0),.int .u8 (0),.int .u8 (0),.int .u8 (0),.int .u8 (0),.int .u8 (0),.int .u8 (0),.int .u8 (0),.int .u8 (0),.int .u8 (0),.int .u8 (0),.int .u8 (0),.int .u8 (0),.int .u8 (0),.int .u8 (0),.int .u8 (0),.int .u8 (0),.int .u8 (0),.int .u8 (0),.int .u8 (0),.int .u8 (0),.int .u8 (0),.int .u8 (0),.int .u8 (0),.int .u8 (0),.int .u8 (0),.int .u8 (0),.int .u8 (0),.int .u8 (0),.int .u8 (0),.int .u8 (0),.int .u8 (0),.int .u8 (0),.int .u8 (0),.int .u8 (0),.int .u8 (0),.int .u8 (0),.int .u8 (0),.int .u8 (0),.int .u8 (0),.int .u8 (0),.int .u8 (0),.int .u8 (0),.int .u8 (0),.int .u8 (0),.int .u8 (0),.int .u8 (0),.int .u8 (0),.int .u8 (0),.int .u8 (0),.int .u8 (0),.int .u8 (0),.int .u8 (0),.int .u8 (0),.int .u8 (0),.int .u8 (0),.int .u8 (0),.int .u8 (0),.int .u8 (0)],.array 64 5 1⟩
 (.node 244 ⟨5,64,tt,[zI,zS,zI,zL,zI],.struct [(0,4,tt),(4,1,ff)]⟩
 (.node 225 ⟨24,24,tt,[.int .u8 (0),.int .u8 (0),.int .u8 (0),.int .u8 (0),.int .u8 (0),.int .u8 (0),.int .u8 (0),.int .u8 (0),.int .u8 (0),.int .u8 (0),.int .u8 (0),.int .u8 (0),.int .u8 (0),.int .u8 (0),.int .u8 (0),.int .u8 (0),.int .u8 (0),.int .u8 (0),.int .u8 (0),.int .u8 (0),.int .u8 (0),.int .u8 (0),.int .u8 (0),.int .u8 (0)],.array 24 5 1⟩
 (.node 213 ⟨1,24,ff,[zL],.slice 244 5 64 [zI,zS,zI,zL,zI]⟩
 (nDn 211 ⟨1,8,ff,[.int .u64 (0)],.int .u64⟩)
 .leaf)
 (.node 243 ⟨5,64,tt,[zI,zS,zI,zL,zI],.struct [(0,4,tt),(4,1,ff)]⟩
 (nDn 234 ⟨1,8,ff,[.int .u64 (0)],.int .u64⟩)
 .leaf))
 (.node 254 ⟨1,8,ff,[.pointer U],.ptr⟩
 (.node 250 ⟨65,65,tt,[.int .u8 (0),.int .u8 (0),.int .u8 (0),.int .u8 (0),.int .u8 (0),.int .u8 (0),.int .u8 (0),.int .u8 (0),.int .u8 (0),.int .u8 (0),.int .u8 (0),.int .u8 (0),.int .u8 (0),.int .u8 (0),.int .u8 (0),.int .u8 (0),.int .u8 (0),.int .u8 (0),.int .u8 (0),.int .u8 (0),.int .u8 (0),.int .u8 (0),.int .u8 (0),.int .u8 (0),.int .u8 (0),.int .u8 (0),.int .u8 (0),.int .u8 (0),.int .u8 (0),.int .u8 (0),.int .u8 (0),.int .u8 (0),.int .u8 (0),.int .u8 (0),.int .u8 (0),.int .u8 (0),.int .u8 (0),.int .u8 (0),.int .u8 (0),.int .u8 (0),.int .u8 (0),.int .u8 (0),.int .u8 (0),.int .u8 (0),.int .u8 (0),.int .u8 (0),.int .u8 (0),.int .u8 (0),.int .u8 (0),.int .u8 (0),.int .u8 (0),.int .u8 (0),.int .u8 (0),.int .u8 (0),.int .u8 (0),.int .u8 (0),.int .u8 (0),.int .u8 (0),.int .u8 (0),.int .u8 (0),.int .u8 (0),.int .u8 (0),.int .u8 (0),.int .u8 (0),.int .u8 (0)],.array 65 5 1⟩
 (nDn 249 ⟨20,160,tt,[.int .u64 (0),.int .u64 (0),.int .u64 (0),.int .u64 (0),.int .u64 (0),.int .u64 (0),.int .u64 (0),.int .u64 (0),.int .u64 (0),.int .u64 (0),.int .u64 (0),.int .u64 (0),.int .u64 (0),.int .u64 (0),.int .u64 (0),.int .u64 (0),.int .u64 (0),.int .u64 (0),.int .u64 (0),.int .u64 (0)],.array 20 211 1⟩)
 .leaf)
 (.node 269 ⟨32,32,tt,[.int .u8 (0),.int .u8 (0),.int .u8 (0),.int .u8 (0),.int .u8 (0),.int .u8 (0),.int .u8 (0),.int .u8 (0),.int .u8 (0),.int .u8 (0),.int .u8 (0),.int .u8 (0),.int .u8 (0),.int .u8 (0),.int .u8 (0),.int .u8 (0),.int .u8 (0),.int .u8 (0),.int .u8 (0),.int .u8 (0),.int .u8 (0),.int .u8 (0),.int .u8 (0),.int .u8 (0),.int .u8 (0),.int .u8 (0),.int .u8 (0),.int .u8 (0),.int .u8 (0),.int .u8 (0),.int .u8 (0),.int .u8 (0)],.array 32 5 1⟩
 (nDn 262 ⟨1,8,ff,[.pointer U],.ptr⟩)
 .leaf)))
 (.node 281 ⟨1,1,ff,[.int .u8 (0)],.int .u8⟩
 (.node 277 ⟨0,0,tt,[],.array 0 16 1⟩
 (.node 276 ⟨4,40,tt,[.pointer U,.pointer U,.pointer U,zS],.struct [(0,1,ff),(1,1,ff),(2,1,ff),(3,1,ff)]⟩
 (nDn 275 ⟨4,40,tt,[.pointer U,.pointer U,.pointer U,zS],.struct [(0,1,ff),(1,1,ff),(2,1,ff),(3,1,ff)]⟩)
 .leaf)
 (.node 279 ⟨0,0,tt,[],.struct [(0,0,tt)]⟩
 (nDn 278 ⟨0,0,tt,[],.struct [(0,0,tt)]⟩)
 .leaf))
 (.node 285 ⟨1,4,ff,[.int .i32 (0)],.int .i32⟩
 (.node 284 ⟨1,4,ff,[.int .i32 (0)],.int .i32⟩
 (nDn 282 ⟨1,1,ff,[.int .u8 (0)],.int .u8⟩)
 .leaf)
 (.node 287 ⟨11,48,tt,[.int .u64 (0),.int .u64 (0),.int .u32 (0),.int .u8 (0),.int .u8 (0),.int .u8 (0),.int .u8 (0),.nilFunc,.pointer U,.int .i32 (0),.int .i32 (0)],.struct [(0,1,ff),(1,1,ff),(2,1,ff),(3,1,ff),(4,1,ff),(5,1,ff),(6,1,ff),(7,1,ff),(8,1,ff),(9,1,ff),(10,1,ff)]⟩
 (nDn 286 ⟨11,48,tt,[.int .u64 (0),.int .u64 (0),.int .u32 (0),.int .u8 (0),.int .u8 (0),.int .u8 (0),.int .u8 (0),.nilFunc,.pointer U,.int .i32 (0),.int .i32 (0)],.struct [(0,1,ff),(1,1,ff),(2,1,ff),(3,1,ff),(4,1,ff),(5,1,ff),(6,1,ff),(7,1,ff),(8,1,ff),(9,1,ff),(10,1,ff)]⟩)
 .leaf))))))
def tyT(t:Nat):ab TD:=Y6.get t
def Y0(t:Nat)(d:TD)(h:tyT t=Z d):cz Go.Proofs.Tryz.prog t=Z d:=
 nw.get_ok (show nw.ok Go.Proofs.Tryz.prog Y6 from⟨by kernel_rfl,⟨by kernel_rfl,⟨by kernel_rfl,⟨by kernel_rfl,⟨by kernel_rfl,⟨by kernel_rfl,(nk (by kernel_rfl)),(nk (by kernel_rfl))⟩,⟨by kernel_rfl,(nk (by kernel_rfl)),trivial⟩⟩,⟨by kernel_rfl,⟨by kernel_rfl,(nk (by kernel_rfl)),trivial⟩,⟨by kernel_rfl,(nk (by kernel_rfl)),trivial⟩⟩⟩,⟨by kernel_rfl,⟨by kernel_rfl,⟨by kernel_rfl,(nk (by kernel_rfl)),trivial⟩,⟨by kernel_rfl,(nk (by kernel_rfl)),trivial⟩⟩,⟨by kernel_rfl,⟨by kernel_rfl,(nk (by kernel_rfl)),trivial⟩,⟨by kernel_rfl,(nk (by kernel_rfl)),trivial⟩⟩⟩⟩,⟨by kernel_rfl,⟨by kernel_rfl,⟨by kernel_rfl,⟨by kernel_rfl,(nk (by kernel_rfl)),trivial⟩,⟨by kernel_rfl,(nk (by kernel_rfl)),trivial⟩⟩,⟨by kernel_rfl,⟨by kernel_rfl,(nk (by kernel_rfl)),trivial⟩,⟨by kernel_rfl,(nk (by kernel_rfl)),trivial⟩⟩⟩,⟨by kernel_rfl,⟨by kernel_rfl,⟨by kernel_rfl,(nk (by kernel_rfl)),trivial⟩,⟨by kernel_rfl,(nk (by kernel_rfl)),trivial⟩⟩,⟨by kernel_rfl,⟨by kernel_rfl,(nk (by kernel_rfl)),trivial⟩,⟨by kernel_rfl,(nk (by kernel_rfl)),trivial⟩⟩⟩⟩⟩,⟨by kernel_rfl,⟨by kernel_rfl,⟨by kernel_rfl,⟨by kernel_rfl,⟨by kernel_rfl,(nk (by kernel_rfl)),trivial⟩,⟨by kernel_rfl,(nk (by kernel_rfl)),trivial⟩⟩,⟨by kernel_rfl,⟨by kernel_rfl,(nk (by kernel_rfl)),trivial⟩,⟨by kernel_rfl,(nk (by kernel_rfl)),trivial⟩⟩⟩,⟨by kernel_rfl,⟨by kernel_rfl,⟨by kernel_rfl,(nk (by kernel_rfl)),trivial⟩,⟨by kernel_rfl,(nk (by kernel_rfl)),trivial⟩⟩,⟨by kernel_rfl,⟨by kernel_rfl,(nk (by kernel_rfl)),trivial⟩,⟨by kernel_rfl,(nk (by kernel_rfl)),trivial⟩⟩⟩⟩,⟨by kernel_rfl,⟨by kernel_rfl,⟨by kernel_rfl,⟨by kernel_rfl,(nk (by kernel_rfl)),trivial⟩,⟨by kernel_rfl,(nk (by kernel_rfl)),trivial⟩⟩,⟨by kernel_rfl,⟨by kernel_rfl,(nk (by kernel_rfl)),trivial⟩,⟨by kernel_rfl,(nk (by kernel_rfl)),trivial⟩⟩⟩,⟨by kernel_rfl,⟨by kernel_rfl,⟨by kernel_rfl,(nk (by kernel_rfl)),trivial⟩,⟨by kernel_rfl,(nk (by kernel_rfl)),trivial⟩⟩,⟨by kernel_rfl,⟨by kernel_rfl,(nk (by kernel_rfl)),trivial⟩,⟨by kernel_rfl,(nk (by kernel_rfl)),trivial⟩⟩⟩⟩⟩⟩) h
end Go.AmZ
namespace Go.Proofs
open Go.Shelf
def Tryz.lays106_ren:Go.Shelf.Ren:=⟨λ|106=>152|213=>188|265=>240|n=>n,λ|9=>9|3=>3|n=>n,λ|n=>n⟩
theorem Tryz.lays106:Go.Proofs.Lays.n106 Tryz.prog Tryz.lays106_ren:={
 mixed:=by kernel_rfl
 f106:=Tryz.func152.trans (congrArg some (by kernel_rfl))
 f213:=Tryz.func188.trans (congrArg some (by kernel_rfl))
 f265:=Tryz.func240.trans (congrArg some (by kernel_rfl))
 t3:=Tryz.underlying3
 a3:=Tryz.isAgg3
 z3:=Tryz.sizeOf3
 v3:=Tryz.zeroValue3
 t9:=Tryz.underlying9
 a9:=Tryz.isAgg9
 z9:=Tryz.sizeOf9
 v9:=Tryz.zeroValue9 }
open Go.RowKit in
theorem Tryz.strings_Compare(a b:ByteArray)(w:aA):
 Calls Tryz.prog 152 #[.string a,.string b] w λ e w'=>e=.returned (.int .i64 (Lib.compareBytes a.data.toList b.data.toList))/\w'=w:=Any.strings_Compare Tryz.lays106 a b w
end Go.Proofs
namespace Go.AmZ
open GxZ
section
open RowKit
structure qoA (Γ:Gh) (w:aA) (a:Option Addr) (n k:Nat) (cs:List (List AV)):Prop where
 len:cs.length=n
 size:∀e∈cs,e.length=k
 plain:∀e∈cs,∀x∈e,br x=O
 at_:cs=[]\/∃b o,a=Z ⟨b,o,U⟩/\∀(i:Nat) (e:List AV) (j:Nat) (x:AV),cs[i]?=Z e->e[j]?=Z x->∃u,w.cell? ⟨b,o+(i*k+j),U⟩=Z u/\Rep Γ x u/\u.oneCell'=O
def WY{Γ:Gh}{I:St}{w:aA}(K:Inv Γ I w){a:Ty}{y:AV}{l:aa (Val a)}{u:aj}(L:dlist a y=Z l)(q:Rep Γ y u):∃p n c,u=.slice p n c/\n<=c/\qoA Γ w p n a.size (l.map (aI a)):=by
 obtain⟨rfl,rfl⟩|⟨R,n,rfl,h⟩:=fC L
 .have:=ce q;subst this;exact⟨U,0,0,rfl,ak _,rfl,(by intro e d;cases d),(by intro e d;cases d),.inl rfl⟩
 .cases q with
  |sl k R f p F c b o us G M W T S h0 r H q=>
    have g:=dU h;refine⟨p,F,c,rfl,M (sj _),by rw[bO,G,g],?_,?_,?_⟩
    .intro e d;obtain⟨v,_,rfl⟩:=bF.1 d;exact gR a v
    .intro e d;obtain⟨v,_,rfl⟩:=bF.1 d;exact ir a v
    .obtain r|r:=r
     .grind
     .right;refine⟨b,o,r,λ i e j x m N=>?_⟩;rw[df]at m;cases t:l[i]? with
      |none=>rw[t]at m;cases m
      |some v=>
        rw[t]at m;cases m;let⟨C,B,Q⟩:=xc h t;let⟨z,A,P⟩:=(xI Q).get j x N;have s:=H i C j z B A;let⟨E,D⟩:=K.mem _ _ _ s;exact⟨us i j,by rw[<-eI];exact E,P _ _ (q i C j z B A),D⟩
def Fresh(w:aA)(k n:Nat)(xs:aa aj)(v:aj)(w':aA):Prop:=
 Below w.heap.size w w'/\w.drawn<=w'.drawn/\((n=0/\∃a,v=.slice a 0 0)\/∃(g cap:Nat) (b:aL aj) (e:aQ),v=.slice (Z ⟨g,0,U⟩) n cap/\w.heap.size<=g/\w'.heap[g]?=Z (.cells b e (0,0))/\n<=cap/\cap*k<=b.size/\∀(j:Nat) (u:aj),xs[j]?=Z u->b[j]?=Z u)
def LC{P:aZ}{f:cI}{Γ:Gh}{I:St}{w:aA}{m:aa aj}{a:Ty}{l:aa (Val a)}{xs:aa aj}(b:Inv Γ I w)(k:I.bx=[])(n:I.rw=[])
  (G:∀(i:Nat) (e:aa AV) (j:Nat) (x:AV),(l.map (aI a))[i]?=Z e->e[j]?=Z x->∃u,xs[i*a.size+j]?=Z u/\Rep Γ x u/\u.oneCell'=O)
  (h:Calls P f m.toArray w λ e w'=>∃v,e=.returned v/\Fresh w a.size (X l) xs v w'):
  jB P Γ I w f m (cy (fp [.one (.row a)] (X I.rw) (l,())),Z ⟨[],I.rw.map fG++ei [.one (.row a)] (l,()),List.range (X I.bx),List.range (X I.rw)⟩):=by
 apply Calls.mono h;rintro e w' ⟨v,rfl,r,s,H⟩;have t:=b.later r
 have d:bN {I with wr:=[],wrr:=[]} ⟨[],I.rw.map fG++ei [.one (.row a)] (l,()),List.range (X I.bx),List.range (X I.rw)⟩:=
  ⟨by rw[k];exact ak _,by show X I.rw<=_;rw[n];exact aG _,λ i b _=>(by have b:i<X I.bx:=b;rw[k]at b;exact absurd b (eY _)),λ i b _=>(by have b:i<X I.rw:=b;rw[n]at b;exact absurd b (eY _)),λ i h=>(by cases h),λ i h=>(by cases h)⟩
 obtain⟨K,p,rfl⟩|⟨g,cap,z,et,rfl,Q,N,C,B,M⟩:=H
 .have L:l=[]:=cR K;subst L
  let⟨mm,z1,W,F,E⟩:=Ix (σ0:=I) (σ1:=I) b (xa r s) t (ak _) [] [] (by rw[k];rfl) (by simp) lC [] [(U,⟨a.size,[],0,0,Y⟩)] (λ i cs h=>by cases h)
   (λ i so R h=>by
    cases i with
    |zero=>cases h;exact⟨rfl,rfl,iZ a,(by intro e o;cases o),(by intro e o;cases o),rfl⟩
    |succ i=>cases h)
   (λ i j q R R' y A=>by cases i<;>cases y) (List.range (X I.bx)) (List.range (X I.rw))
  refine⟨_,_,rfl,F,E,?_,d⟩;show Rep _ (.rs (X I.rw) 0 0 0 Y) _;exact .rs _ _ _ _ _ p 0 (by show X I.rw<X I.rw+1;omega) (aG _) (ak _) (λ h=>by cases h) λ _=>⟨.inl rfl,by rw[dP,kG];exact aG _⟩
 .let⟨Γ',T,S,D⟩:=Nz b (iZ a) (c:=l.map (aI a)) (λ e o=>by obtain⟨v,_,rfl⟩:=bF.1 o;exact gR a v) (λ e o=>by obtain⟨v,_,rfl⟩:=bF.1 o;exact ir a v) (vs:=z) (by rw[bO];exact bL (bZ _ C) B)
    (λ i e j x y A=>by
     let⟨u,u1,u2⟩:=G i e j x y A;exact⟨u,M _ _ u1,u2⟩) (cap:=cap) (by rw[bO];exact C) B r s Q N
  rw[bO]at D;refine⟨_,Γ',rfl,T,?_,D,d⟩;have:({I with rw:=I.rw++[⟨a.size,l.map (aI a),0,0,Y⟩]}:St).bx=[]:=k;exact S.wr this.symm (by show I.rw.map fG++_=I.rw++_;rw[n];rfl)
end
end Go.AmZ
namespace Go.GxZ
open Go.RowKit
def Blk(w:aA)(g:Nat)(e:aQ)(a:aL aj):Prop:=w.heap[g]?=Z (.cells a e (0,0))
def Blk.cell{w:aA}{g:Nat}{e:aQ}{a:aL aj}(h:Blk w g e a)(i:Nat):w.cell? ⟨g,i,U⟩=a[i]?:=by
 unfold Blk at h;simp[World.cell?,h]
def Blk.free{w:aA}{g:Nat}{e:aQ}{a:aL aj}(h:Blk w g e a)(i:Nat):w.frozen? ⟨g,i,U⟩=Y:=by
 unfold Blk at h;simp[World.frozen?,h]
def Blk.later{w w':aA}{g:Nat}{e:aQ}{a:aL aj}(h:Blk w g e a)(b:Below w.heap.size w w'):Blk w' g e a:=by
 unfold Blk at h |-
 rw[b.block g (lt_of_block h)];exact h
def Blk.same{w w':aA}{g:Nat}{e:aQ}{a:aL aj}(h:Blk w g e a)(b:w'.heap[g]?=w.heap[g]?):Blk w' g e a:=by
 unfold Blk at h |-
 rw[b];exact h
def Blk.set{w:aA}{g:Nat}{e:aQ}{a:aL aj}(h:Blk w g e a)(i:Nat)(v:aj):Blk (w.setCell ⟨g,i,U⟩ v) g e (a.setIfInBounds i v):=by
 unfold Blk at h |-
 have b:=lt_of_block h;have c:w.heap[g]=.cells a e (0,0):=by simpa[gz b]using h
 show(w.heap.modify g _)[g]?=_;rw[gz (by simpa using b),Array.getElem_modify_self,c];rfl
def Ve{w:aA}{g:Nat}{e:aQ}{c:aL aj}(h:Blk w g e c)(o:Nat)(n m l j:aj)(p:o+4<=c.size):
  ∃w' b,(((w.setCell ⟨g,o,U⟩ n).setCell ⟨g,o+1,U⟩ m).setCell ⟨g,o+2,U⟩ l).setCell ⟨g,o+3,U⟩ j=w'/\Blk w' g e b/\b.size=c.size/\
   b[o]?=Z n/\b[o+1]?=Z m/\b[o+2]?=Z l/\b[o+3]?=Z j/\(∀i,i<o->b[i]?=c[i]?)/\
   (∀B,B<=g->∀w0,Below B w0 w->Below B w0 w')/\w'.heap.size=w.heap.size/\(∀k,k≠g->w'.heap[k]?=w.heap[k]?)/\(∀a,w'.frozen? a=w.frozen? a):=by
 refine⟨_,_,rfl,(((h.set o n).set (o+1) m).set (o+2) l).set (o+3) j,by simp,?_,?_,?_,?_,λ i q=>?_,λ B f w0 h=>(((h.setCell f _).setCell f _).setCell f _).setCell f _,by simp,λ k d=>?_,λ a=>by simp⟩
 .simp[JG];omega
 .simp[JG];omega
 .simp[JG];omega
 .simp[JG];omega
 .simp only[JG];rw[ifN,ifN,ifN,ifN]
 .rw[Below.heap_setCell _ _ _ _ d,Below.heap_setCell _ _ _ _ d,Below.heap_setCell _ _ _ _ d,Below.heap_setCell _ _ _ _ d]
def vK(Q:Nat->Prop)(w:aA)(a:aL aj)(l:aa T):Prop:=
 ∀(k:Nat) (x:T),l[k]?=Z x->∃cs:aa aj,X cs=4/\(∀(i:Nat) (c:aj),cs[i]?=Z c->a[k*4+i]?=Z c)/\gh Q w x cs
def vK.nil{Q:Nat->Prop}{w:aA}{a:aL aj}:vK Q w a []:=λ k x h=>by simp at h
def vK.kids{Q d:Nat->Prop}{w:aA}{g:Nat}{e:aQ}{a:aL aj}{l:aa T}(h:vK Q w a l)(n:Blk w g e a)(j:d g)(o:∀b,Q b->d b):kx d w (Z ⟨g,0,U⟩) l:=λ k x f=>by
 let⟨cs,r,q,p⟩:=h k x f;exact⟨g,0,cs,rfl,j,r,λ i c m=>by rw[bS,n.cell];exact q i c m,p.mono o x⟩
def vK.next{Q g:Nat->Prop}{w w':aA}{e a:aL aj}{l:aa T}(h:vK Q w e l)(j:∀b,Q b->w'.heap[b]?=w.heap[b]?)(n:∀b,Q b->g b)(m:∀i,i<X l*4->a[i]?=e[i]?):vK g w' a l:=λ k x f=>by
 let⟨cs,q,p,o⟩:=h k x f;have r:=(ft.1 f).1;refine⟨cs,q,λ i c d=>?_,(o.keep j x).mono n x⟩;have s:=(ft.1 d).1;rw[m _ (by omega)];exact p i c d
end Go.GxZ
namespace Go.GxZ
open Go.RowKit
end Go.GxZ
namespace Go.GxZ
open Go.RowKit
def Mr{P:aZ}(w:aA)(r s ty c:aQ)(size g o d l:Nat)(a:Addr)(b f:Nat)(e:aL aj)(t:aQ)(cs:aa aj)
  (u:P.underlying r=Z (.slice c)) (p:(P.info? c).map (·.size)=Z size)
  (z:w.heap[g]?=Z (.cells e t (0,0))) (x:X cs=Nat.min b d*size)
  (h:∀j v,cs[j]?=Z v->w.cell? (a.add j)=Z v) (k:o+X cs<=e.size) (A:∀v∈cs,v.oneCell'=O):
  (Builtin.copy_ #[r,s] ty #[.slice (Z ⟨g,o,U⟩) d l,.slice (Z a) b f]).run P w=
   .ok (goInt (Nat.min b d)) (w.setRow g (e.toList.take o++cs++e.toList.drop (o+X cs)).toArray):=by
 have q:=run_loadCells_list (P:=P) w a cs h;have m:=run_storeCells_at P g o t cs 0 e w z (by simpa using k) A;cases n:P.info? c with
 |none=>simp[n]at p
 |some i=>
   have y:i.size=size:=by simpa[n]using p
   rw[x]at q;simp[Builtin.copy_,run_underlying u,Builtin.lenOf,Builtin.firstCells,sizeOf,typeInfo,n,y,q,m]
def LJ{P:aZ}(w:aA)(t e ty:aQ)(z:aj)(h:P.underlying t=Z (.slice e))(f:∀w,(zeroValue e).run P w=.ok z w)(g o n c:Nat)(k:0<n)(a:aL aj)(tb:aQ)
  (i:w.heap[g]?=Z (.cells a tb (0,0))) (d:o+n*z.cells.size<=a.size) (j:∀v∈V (Builtin.zeroCells z.cells n),v.oneCell'=O):
  (Builtin.clear_ #[t] ty #[.slice (Z ⟨g,o,U⟩) n c]).run P w=.ok (.tuple #[]) (w.setRow g (a.toList.take o++V (Builtin.zeroCells z.cells n)++a.toList.drop (o+(Builtin.zeroCells z.cells n).toList.length)).toArray):=by
 have b:=run_storeCells_at P g o tb (V (Builtin.zeroCells z.cells n)) 0 a w i (by simpa[Builtin.zeroCells]using d) j;obtain⟨m,rfl⟩:∃m,n=m+1:=⟨n-1,by omega⟩
 simp only[dP]at b;simp[Builtin.clear_,run_underlying h,f,b]
structure qg (w w':aA) (g:Nat) (t:aQ) (new:List aj):Prop where
 blk:Blk w' g t new.toArray
 other:∀k,k≠g->w'.heap[k]?=w.heap[k]?
 size:w'.heap.size=w.heap.size
 below:∀B,B<=g->∀w0,Below B w0 w->Below B w0 w'
 os:w'.os=w.os
 tape:w'.tape=w.tape
 output:w'.output=w.output
 drawn:w'.drawn=w.drawn
def zD{w:aA}{g:Nat}{t:aQ}{b:aL aj}(h:Blk w g t b)(a:aa aj):qg w (w.setRow g a.toArray) g t a:=
 ⟨setRow_heap w g b _ t _ h,λ k c=>setRow_other w g k _ c,by simp[World.setRow],λ _ e _ d=>below_setRow d e _,rfl,rfl,rfl,rfl⟩
def Ur{P:aZ}{ops:aL Oper}{o:Oper}{a:Act}{w:aA}{K:Act->aA->Prop}{Q:Exit->Act->aA->Prop}{E:Prop}(q:o.guard=U)(d s:bw)(r u:aQ)
  (C:o.op=.call {callee:=.builtin .copy,args := #[d,s],argTypes := #[r,u]}) (f:aQ) (size:Nat) (A:P.underlying r=Z (.slice f)) (p:(P.info? f).map (·.size)=Z size)
  (g off e k:Nat) (ad:Addr) (c i:Nat) (F:a.eval d=.slice (Z ⟨g,off,U⟩) e k) (B:a.eval s=.slice (Z ad) c i)
  (b:aL aj) (t:aQ) (y:Blk w g t b) (cs:aa aj) (D:X cs=Nat.min c e*size)
  (l:∀j v,cs[j]?=Z v->w.cell? (ad.add j)=Z v) (n:off+X cs<=b.size) (G:∀v∈cs,v.oneCell'=O)
  (h:∀w',qg w w' g t (b.toList.take off++cs++b.toList.drop (off+X cs))->K (a.put o.dst (goInt (Nat.min c e))) w'):
  if Region.wanted o (yielded ops a.tmps)=O then Oper.wp P o a w K Q else E:=by
 have z:Region.wanted o (yielded ops a.tmps)=O:=by simp[Region.wanted,q]
 rw[af z];have m:=Mr (P:=P) w r u o.type f size g off e k ad c i b t cs A p y D l n G;unfold Oper.wp;simp[execOp,C,resolve,invoke,builtin,F,B,m,Result.andThen];have x:=h _ (zD y (b.toList.take off++cs++b.toList.drop (off+X cs)));rw[bA]at x;exact x
def KQ(g:Nat)(t:aQ):∀(vs:aa aj) (o:Nat) (w:aA) (a:aL aj),Blk w g t a->o+X vs<=a.size->qg w (w.setCells g o vs) g t (a.toList.take o++vs++a.toList.drop (o+X vs))
 |[],o,w,a,h,_=>by
   refine⟨?_,λ _ _=>rfl,rfl,λ _ _ _ h=>h,rfl,rfl,rfl,rfl⟩;simp only[bK,eJ,dP,ot,Qy];exact h
 |v::r,o,w,a,h,c=>by
   have b:=KQ g t r (o+1) (w.setCell ⟨g,o,U⟩ v) (a.setIfInBounds o v) (h.set o v) (by simp at c |-;omega);have e:=list_seg_step (V a) o v r (by simp at c |-;omega);rw[World.setCells];refine⟨?_,λ k d=>(b.other k d).trans (Below.heap_setCell _ _ _ _ d),b.size.trans (by simp),λ B i w0 f=>b.below B i w0 (f.setCell i _),b.os,b.tape,b.output,b.drawn⟩;have f:=b.blk;grind
def qo5(k:Nat)(a xs ys:aa aj)(i n:Nat)(g:a.take (n*k)=xs)(m:n*k+k<=X a)(l:i*k<=n*k)(e:X ys=k)(c:aa aj)
  (h:c=a.take (i*k+k)++xs.drop (i*k)++a.drop (i*k+k+X (xs.drop (i*k)))):
  X c=X a/\X (c.take (i*k)++ys++c.drop (i*k+X ys))=X a/\(c.take (i*k)++ys++c.drop (i*k+X ys)).take (n*k+k)=xs.take (i*k)++ys++xs.drop (i*k):=by
 generalize n*k=N at *;generalize i*k=I at *;have b:X xs=N:=by rw[<-g,bj];omega
 have d:X (xs.drop I)=N-I:=by rw[fZ,b]
 have f:X c=X a:=by rw[h];simp only[aM,bj,fZ,b];omega
 refine⟨f,?_,?_⟩
 .grind
 .have e1:c.take I=xs.take I:=by
    grind
  have j:c.drop (I+k)=xs.drop I++a.drop (I+k+X (xs.drop I)):=by
   grind
  rw[e,e1,j,<-bA,vV (by simp only[aM,bj,e,d,b];omega),qE (by simp only[aM,bj,e,d,b];omega)]
def qrh(k:Nat)(a xs ys:aa aj)(i n:Nat)(h:a.take (i*k)=xs.take (i*k))(c:X xs=n*k)(l:n*k+k<=X a)(j:i*k<=n*k)(e:X ys=k)(b:aa aj)
  (g:b=a.take (i*k)++ys++a.drop (i*k+X ys)):
  X b=X a/\X (b.take (i*k+k)++xs.drop (i*k)++b.drop (i*k+k+X (xs.drop (i*k))))=X a/\
   (b.take (i*k+k)++xs.drop (i*k)++b.drop (i*k+k+X (xs.drop (i*k)))).take (n*k+k)=xs.take (i*k)++ys++xs.drop (i*k):=by
 generalize n*k=N at *;generalize i*k=I at *;have d:X (xs.drop I)=N-I:=by rw[fZ,c]
 have f:X b=X a:=by rw[g];simp only[aM,bj,fZ,e];omega
 refine⟨f,?_,?_⟩
 .grind
 .have e1:b.take (I+k)=xs.take I++ys:=by
    grind
  rw[e1,vV (by simp only[aM,bj,e,d,c];omega),qE (by simp only[aM,bj,e,d,c];omega)]
def qb(k:Nat)(w:aA)(g d n:Nat)(xs:aa aj)(e:Ending)(w':aA):Prop:=
 ∃(c cap:Nat) (a:aL aj) (f:aQ),e=.returned (.slice (Z ⟨c,0,U⟩) n cap)/\w'.heap[c]?=Z (.cells a f (0,0))/\n<=cap/\cap*k<=a.size/\a.toList.take (n*k)=xs/\
  ((c=g/\a.size=d)\/w.heap.size<=c)/\w'.os=w.os/\w'.tape=w.tape/\w'.output=w.output/\w.heap.size<=w'.heap.size/\w.drawn<=w'.drawn/\∀b,b<w.heap.size->b≠g->w'.heap[b]?=w.heap[b]?
theorem qgU{P:aZ}(w:aA)(tS tR e:aQ)(ht:P.underlying tS=some (.slice e))(size:Nat)(hz:∀ w,(Go.sizeOf e).run P w = .ok size w)
  (a b:Addr) (la ca lb cb:Nat) (hne:a.block≠b.block) (tA tB:aQ) (kA kB:Nat)
  (hsa:w.shape? a.block=some (tA,kA)) (hkA:kA≠0) (hsb:w.shape? b.block=some (tB,kB))
  (hfb:w.frozen? b=false) (hfe:w.frozen? { block:=b.block,off:=kB }=false) :
  (Extern.SlicesOverlaps.overlaps #[tS,tS] #[tR] #[.slice (some a) la ca,.slice (some b) lb cb]).run P w = .ok (.bool false) w:=by
 have hnb:(a.block != b.block)=true:=by simpa using hne
 have hnb':(a.block==b.block)=false:=by simpa using hne
 change Sem.run P (α := aj) (do
  let some t:=(#[tS,tS]:Array aQ)[0]? | stuck "slices.overlaps: no parameter types"
  let .slice elem <- underlying t | stuck "slices.overlaps: slice type expected"
  let size <- sizeOf elem
  match(some a:Option Addr),(some b:Option Addr)with
  | some a,some b =>
    if la=0\/lb=0\/size=0 then pure (Value.bool false)
    else if a.block != b.block&&(<- frozen a)&&(<- frozen b)then unsupported .addressObserved
    else do
     if a.block != b.block then do
      noView a;noView b
      if <- mayBeOne a b then return Value.bool ((<- choose _)==1)
     pure (Value.bool (a.block==b.block&&a.off<b.off+lb*size&&b.off<a.off+la*size))
  | _,_=>pure (Value.bool false)) w=_
 by_cases h0:la=0\/lb=0\/size=0
 ·simp[run_underlying ht,hz,h0]
 ·cases kA with
  | zero=>exact absurd rfl hkA
  | succ kA =>
    cases hfa:w.frozen? a with
    | true=>simp[run_underlying ht,hz,h0,hnb,hnb',frozen,noView,viewAt,mayBeOne,stringish,shape,Sem.run,hsa,hsb,hfb,hfe,hfa]
    | false =>
      cases hfk:w.frozen? { block:=a.block,off:=kA+1 }with
      | true=>simp[run_underlying ht,hz,h0,hnb,hnb',frozen,noView,viewAt,mayBeOne,stringish,shape,Sem.run,hsa,hsb,hfb,hfe,hfa,hfk]
      | false=>simp[run_underlying ht,hz,h0,hnb,hnb',frozen,noView,viewAt,mayBeOne,stringish,shape,Sem.run,hsa,hsb,hfb,hfe,hfa,hfk]
def qma{w:aA}{a:Addr}{u:aj}(d:a.spot=U)(h:w.cell? a=Z u):∃t n,w.shape? a.block=Z (t,n)/\n≠0:=by
 unfold World.cell? at h;split at h
 .next c e f b=>refine⟨e,c.size,by simp[World.shape?,b],λ g=>?_⟩;grind
 .cases h
end Go.GxZ
namespace Go.AmZ
open GxZ
section
open RowKit
def NH{Γ b I σ1 w w1 a l}(r:Inv Γ I w)(M:Ext Γ w b w1)(s:Inv b σ1 w1)(A:I.bx=[]){j Q}(C:σ1.rw[j]?=Z Q)(D:Q.k=a.size)(x:Q.fz=0)(f:Q.off=Y)(E:bU (bu a) Q.c=Z l){u}(B:Rep b (.rs j 0 (X l) Q.ver Y) u):
  ∃g,Ext Γ w g w1/\Inv g ⟨[],I.rw.map fG++ei [.one (.row a)] (l,()),List.range (X I.bx),List.range (X I.rw)⟩ w1/\Rep g (cy (fp [.one (.row a)] (X I.rw) (l,()))) u/\
   bN {I with wr:=[],wrr:=[]} ⟨[],I.rw.map fG++ei [.one (.row a)] (l,()),List.range (X I.bx),List.range (X I.rw)⟩:=by
 have n:bN {I with wr:=[],wrr:=[]} ⟨[],I.rw.map fG++ei [.one (.row a)] (l,()),List.range (X I.bx),List.range (X I.rw)⟩:=
  ⟨by rw[A];exact ak _,by show X I.rw<=X (I.rw.map fG++_);rw[aM,bO];exact kH _ _,λ i r _=>(by grind),λ i r N=>absurd (jS.2 r) N,λ i h=>(by cases h),λ i h=>(by cases h)⟩
 let⟨t,z1,z2,K,G⟩:=Ix r M s (by grind) [] [] (by grind) (by simp) lC [] [(Z j,⟨a.size,l.map (aI a),0,0,Y⟩)] (λ i cs h=>by cases h)
  (λ i so R h=>by
   cases i with
   |zero=>
     cases h;refine⟨rfl,rfl,iZ a,λ e y=>?_,λ e y=>?_,Q,C,D,x,by rw[bO];exact dU E,λ i e e' W F=>?_,(by simp),f⟩
     .obtain⟨v,_,rfl⟩:=bF.1 y;exact gR a v
     .obtain⟨v,_,rfl⟩:=bF.1 y;exact ir a v
     .let⟨v,T,S⟩:=oC E W;rw[df,T]at F;cases F;exact xI S
   |succ i=>cases h)
  (λ i j q R R' s P=>by
   cases i with
   |succ i=>cases s
   |zero=>cases j with
     |zero=>rfl
     |succ j=>cases P) (List.range (X I.bx)) (List.range (X I.rw))
 refine⟨_,K,G,?_,n⟩;have H:=s.row j Q C;cases B with
 |rs _ _ _ _ _ a' cap B hv z hf o=>
   have o:=o (H.ver (by omega)).symm;have m:¬ X I.rw<X I.rw:=qbV _;have d:X I.rw-X I.rw=0:=mF _;refine .rs _ _ _ _ _ a' cap (by show X I.rw<X I.rw+1;omega) (aG _) z (λ h=>by cases h) λ _=>?_
   have ec:(eR b t (X I.bx) [] (X I.rw) [(Z j,⟨a.size,l.map (aI a),0,0,Y⟩)]).cur (X I.rw)=b.cur j:=by
    show(if X I.rw<X I.rw then _ else match[((Z j:ab Nat),(⟨a.size,l.map (aI a),0,0,Y⟩:Row))][X I.rw-X I.rw]? with|some (Z j,_)=>b.cur j|_=>0)=_;rw[ae m,d];rfl
   have es:(eR b t (X I.bx) [] (X I.rw) [(Z j,⟨a.size,l.map (aI a),0,0,Y⟩)]).sz (X I.rw)=b.sz j:=by
    show(if X I.rw<X I.rw then 0 else match[((Z j:ab Nat),(⟨a.size,l.map (aI a),0,0,Y⟩:Row))][X I.rw-X I.rw]? with|some (Z j,_)=>b.sz j|_=>0)=_;rw[ae m,d];rfl
   have ek:(eR b t (X I.bx) [] (X I.rw) [(Z j,⟨a.size,l.map (aI a),0,0,Y⟩)]).k (X I.rw)=b.k j:=by
    show(if X I.rw<X I.rw then _ else match[((Z j:ab Nat),(⟨a.size,l.map (aI a),0,0,Y⟩:Row))][X I.rw-X I.rw]? with|some p=>p.2.k|none=>1)=_;rw[ae m,d,<-H.k,D];rfl
   rw[ec,es,ek];rw[H.off f]at o;exact o
def qqD{Γ Γ1 I σ1 w w1 a}(d:Inv Γ I w)(m:Ext Γ w Γ1 w1)(f:Inv Γ1 σ1 w1)(e:I.bx=[])(p):
  ∃b,Ext Γ w b w1/\Inv b ⟨[],I.rw.map fG++ei [.one (.row a)] (([]:aa (Val a)),()),List.range (X I.bx),List.range (X I.rw)⟩ w1/\Rep b (cy (fp [.one (.row a)] (X I.rw) (([]:aa (Val a)),()))) (.slice p 0 0)/\
   bN {I with wr:=[],wrr:=[]} ⟨[],I.rw.map fG++ei [.one (.row a)] (([]:aa (Val a)),()),List.range (X I.bx),List.range (X I.rw)⟩:=by
 have c:bN {I with wr:=[],wrr:=[]} ⟨[],I.rw.map fG++ei [.one (.row a)] (([]:aa (Val a)),()),List.range (X I.bx),List.range (X I.rw)⟩:=
  ⟨by rw[e];exact ak _,by show X I.rw<=X (I.rw.map fG++_);rw[aM,bO];exact kH _ _,λ i d _=>(by grind),λ i d n=>absurd (jS.2 d) n,λ i h=>(by cases h),λ i h=>(by cases h)⟩
 let⟨s,r,o,k,g⟩:=Ix d m f (by grind) [] [] (by grind) (by simp) lC [] [(U,⟨a.size,[],0,0,Y⟩)] (λ i cs h=>by cases h)
  (λ i so R h=>by
   cases i with
   |zero=>cases h;exact⟨rfl,rfl,iZ a,(by simp),(by simp),rfl⟩
   |succ i=>cases h)
  (λ i j q R R' f t=>by cases i<;>cases f) (List.range (X I.bx)) (List.range (X I.rw))
 refine⟨_,k,g,?_,c⟩;exact .rs _ _ _ _ _ p 0 (by show X I.rw<X I.rw+1;omega) (aG _) (ak _) (λ h=>by cases h) λ _=>⟨.inl rfl,by rw[dP,kG];exact aG _⟩
def gC(Γ:Gh)(k:Nat)(c:aa (aa AV))(xs:aa aj):Prop:=∀(i:Nat) (e:aa AV) (j:Nat) (x:AV),c[i]?=Z e->e[j]?=Z x->∃u,xs[i*k+j]?=Z u/\Rep Γ x u/\u.oneCell'=O
def gC.take{Γ k c xs}(h:gC Γ k c xs)(f:∀e∈c,X e=k)(n):gC Γ k (c.take n) (xs.take (n*k)):=by
 intro i e j x a d;rw[fM]at a;split at a
 case isFalse=>cases a
 next b=>let⟨u,u1,u2⟩:=h i e j x a d;refine⟨u,?_,u2⟩;have:(i+1)*k<=n*k:=bZ _ b;grind
def gC.drop{Γ k c xs}(h:gC Γ k c xs)(n):gC Γ k (c.drop n) (xs.drop (n*k)):=by
 intro i e j x a b;rw[iJ]at a;let⟨u,u1,u2⟩:=h _ e j x a b;grind
def gC.app{Γ k c c' xs ys}(h:gC Γ k c xs)(d:gC Γ k c' ys)(a:X xs=X c*k)(b:∀e∈c,X e=k):gC Γ k (c++c') (xs++ys):=Mb a b h d
def Ga{P:aZ}{f:cI}{Γ:Gh}{I:St}{w:aA}{d:aa aj}{a:Ty}{R:Row}{l:aa (Val a)}{c:aa (aa AV)}{xs:aa aj}{n:Nat}(s:Inv Γ I w)(Q:I.bx=[])(q:I.rw[0]?=Z R)(y:R.k=a.size)(A:R.fz=0)(m:R.off=Y)(F:Γ.sz 0≠0)(hn:n=X l)
  (p:bU (bu a) c=Z l) (v:∀e∈c,X e=a.size) (G:∀e∈c,∀x∈e,br x=O) (hx:gC Γ a.size c xs)
  (h:Calls P f d.toArray w (qb a.size w (Γ.cur 0) (Γ.sz 0) n xs)):
  jB P Γ I w f d (cy (fp [.one (.row a)] (X I.rw) (l,())),Z ⟨[],I.rw.map fG++ei [.one (.row a)] (l,()),List.range (X I.bx),List.range (X I.rw)⟩):=by
 subst hn;apply Calls.mono h;rintro e w' ⟨g,cap,ad,et,rfl,h1,h2,h3,h4,C,h6,h7,h8,h9,T,D⟩;have H:=s.row 0 R q;have B:X c=X l:=dU p;have t:∀off,Γ.mem (Γ.cur 0) off=U:=λ off=>H.un F off (by rw[A,kG,H.off m];exact aG _)
 let⟨an,e1,i1,r1⟩:=MR (w':=w') s q (H.off m) (R':=⟨R.k,c,R.ver+1,0,Y⟩) (by rw[A];exact aG _) rfl (g:=g) (vs:=ad) (e:=et) (.inl rfl) (λ e N=>(v e N).trans y.symm) G (aG _) (IV _) rfl h1
  (by show X c*R.k<=_;rw[B,y];exact bL (bZ _ h2) h3)
  (λ off _=>by
   obtain⟨rfl,_⟩|C:=C
   .exact t off
   .cases r:Γ.mem g off with
    |none=>rfl
    |some u=>have:=s.mem_lt r;omega)
  (λ i e j x W g2=>by
   let⟨u,u1,u2⟩:=hx i e j x W g2;refine⟨u,?_,u2⟩;rw[y,<-gA]
   have L:i*a.size+j<X l*a.size:=by
    have M:i<X l:=by have:=getElem?_lt W;rwa [<-B]
    have hj:j<a.size:=by have:=getElem?_lt g2;rwa [v e (aK W)]at this
    have:(i+1)*a.size<=X l*a.size:=bZ _ M;rw[jO]at this;omega
   rw[<-h4,fM,af L]at u1;exact u1)
  (λ b o u r=>by
   have S:b≠Γ.cur 0:=λ N=>by rw[N,t]at r;cases r
   rw[show w'.cell? _=w.cell? _ from World.cell?_of_block (D b (s.mem_lt r) S)];exact(s.mem b o u r).1)
  (λ b S K=>D b S (K.elim id λ h0=>absurd h0 F))
  (by
   obtain⟨rfl,_⟩|C:=C
   .exact .inl ⟨rfl,F⟩
   .exact .inr C) h6 h7 h8 h9 T I.wrr
 have z:({I with rw:=I.rw.set 0 ⟨R.k,c,R.ver+1,0,Y⟩,wrr:=I.wrr}:St).rw[0]?=Z ⟨R.k,c,R.ver+1,0,Y⟩:=by
  show(I.rw.set 0 _)[0]?=_;rw[gx (getElem?_lt q)]
 let⟨E,z1,z2,z3,z4⟩:=NH (l:=l) s e1 i1 Q z y rfl rfl p (r1 (X l) cap h2 (by rw[y];exact h3));exact⟨_,E,rfl,z1,z2,z3,z4⟩
def UT{Γ I w}(d:Inv Γ I w){R r}(a:I.rw[r]?=Z R)(b:R.off=Y)(l:Γ.sz r≠0){et cur}(f:w.heap[Γ.cur r]?=Z (.cells cur et (0,0)))(i e j x)(h:R.c[i]?=Z e)(g:e[j]?=Z x):
  ∃u,cur[i*R.k+j]?=Z u/\Rep Γ x u/\u.oneCell'=O:=by
 let⟨u,u1,u2⟩:=(d.row r R a).cells i e j x h g;refine⟨u,?_,u2⟩;rw[(d.row r R a).off b,bS]at u1;simpa[World.cell?,f]using u1
def Yf{cs:aa (aa AV)}{k}{xs:aa aj}(l:∀e∈cs,X e=k)(c:0<k)(g:X xs=X cs*k)(h:∀i e j x,cs[i]?=Z e->e[j]?=Z x->∃u,xs[i*k+j]?=Z u/\u.oneCell'=O):∀u∈xs,u.oneCell'=O:=by
 intro u d;let⟨q,f⟩:=mD d;have b:=getElem?_lt f;rw[g]at b;have a:=(Qt c).2 b;have n:q%k<k:=si _ c;have o:=l _ (fX a);let⟨m,r,p⟩:=h (q/k) _ (q%k) _ (aS a) (aS (by omega));grind [Nat.mul_comm,Nat.div_add_mod]
def xR{I τ r nb nr ys a}(h:dS I (.val τ::r) nb nr ys=Z a):∃y b,ys=y::b/\gf τ y=Z a.1/\dS I r nb nr b=Z a.2:=by
 cases ys with
 |nil=>simp[dS]at h
 |cons y ys=>
   grind [dS]
def IC{I τ r nb nr ys a}(h:dS I (.row τ::r) nb nr ys=Z a):∃y b c,ys=y::b/\nV I τ nr y=Z (a.1,c)/\dS I r nb c b=Z a.2:=by
 cases ys with
 |nil=>simp[dS]at h
 |cons y ys=>
   grind [dS]
def xO{I nb nr ys a}(h:dS I [] nb nr ys=Z a):ys=[]/\nb=X I.bx/\nr=X I.rw:=by
 grind [dS]
def Fi{I τ y l nr}(h:nV I τ 0 y=Z (l,nr)):
  (nr=1/\∃R,y=.rs 0 0 (X R.c) R.ver Y/\I.rw[0]?=Z R/\R.k=τ.size/\(R.fz=0/\R.off=Y)/\bU (bu τ) R.c=Z l)\/(nr=0/\l=[]/\(y=.v (.slice U 0 0)\/∃f,y=.sl τ.size [] f/\2<=f)):=by
 unfold nV at h;split at h
 .grind
 .split at h<;>cases h;rename_i d a;refine .inr ⟨rfl,rfl,?_⟩;have a:=bG a;obtain⟨rfl,_⟩|⟨e,n,rfl,b⟩:=fC d
  .exact .inl rfl
  .have:=cR (dU b);subst this;exact .inr ⟨_,rfl,a⟩
def xu{Γ τ y v u}(h:gf τ y=Z v)(a:Rep Γ y u):Rep Γ (cx τ v) u:=HM h _ _ a
def UE{a}(l):dlist a (.sl a.size (l.map (aI a)) 1)=Z l:=by
 show fD a.size (bu a) _=Z l;grind [fD,bJ,decide_eq_true,pE,jA]
structure Np (P:aZ) (a:Ty) (tS tE:aQ) (bytes:Nat):Prop where
 td:∃q1 q2 q3 q4 z,cz P tS=Z ⟨q1,q2,q3,q4,.slice tE a.size bytes z⟩/\z.length=a.size
def Zi(t:aQ)(d:TD):Cfg:=⟨λ a=>if a=t then Z d else U,λ _=>U,λ _=>U,λ _=>Y,λ _=>[],λ _=>Y,λ _=>U⟩
def VA{P a tS tE bytes}(n:Np P a tS tE bytes){Γ I w}(m:Inv Γ I w){s sv xv b f}(l:Rep Γ s sv)(k:Rep Γ (.sl a.size b f) xv)(r:∀e∈b,X e=a.size)(q:∀e∈b,∀x∈e,br x=O){x σ'}(h:eM a.size bytes I s b=Z (x,σ'))(ty):
  ∃v w' Γ',(Builtin.append_ #[tS,tS] ty #[sv,xv]).run P w=.ok v w'/\Ext Γ w Γ' w'/\Inv Γ' (turn I σ') w'/\Rep Γ' x v:=by
 let⟨j,i,g,c,z,u,o⟩:=n.td;refine Vx (C:=Zi tS ⟨j,i,g,c,.slice tE a.size bytes z⟩) (λ t d p=>?_) m l k rfl rfl (af rfl) (af rfl) (iZ a) o ?_ ?_ h
 .grind [Zi]
 .grind [elems,bJ]
 .grind [uni]
def qol(b o j):(⟨b,o,U⟩:Addr).add j=⟨b,o+j,U⟩:=by unfold Addr.add;split<;>simp_all
def qoB{P:aZ}{N:cI}{a:Ty}{tS tE:aQ}{bytes:Nat}(hf:jL P N)(hT:Np P a tS tE bytes)(hb:bytes<=2^24)
  (ax:∀(w:aA) (p:ab Addr) (n c:Nat) (ad:Addr) (E:Nat) (v':aj) (w':aA),n<=100000->(Builtin.append_ #[tS,tS] tS #[.slice p n c,.slice (Z ad) 1 E]).run P w=.ok v' w'->Calls P N #[.slice p n c,.int .i64 n,.slice (Z ad) 1 E] w λ e w1=>e=.returned v'/\w1=w')
  (a2:∀(w:aA) (g n c i:Nat) (et:aQ) (s:aL aj) (xs:aa aj),Blk w g et s->c*a.size<=s.size->s.toList.take (n*a.size)=xs->(∀u∈xs,u.oneCell'=O)->∀(Q C E:Nat) (ys:aa aj),X ys=a.size->(∀j u,ys[j]?=Z u->w.cell? ⟨Q,C+j,U⟩=Z u)->(∀u∈ys,u.oneCell'=O)->Q≠g->n<=100000->i<n->n+1<=c->
   Calls P N #[.slice (Z ⟨g,0,U⟩) n c,.int .i64 i,.slice (Z ⟨Q,C,U⟩) 1 E] w (qb a.size w g s.size (n+1) (xs.take (i*a.size)++ys++xs.drop (i*a.size))))
  (a6:∀(w:aA) (g n i:Nat) (et:aQ) (s:aL aj) (xs:aa aj),Blk w g et s->n*a.size<=s.size->s.toList.take (n*a.size)=xs->(∀u∈xs,u.oneCell'=O)->∀(Q C E:Nat) (ys:aa aj),X ys=a.size->(∀j u,ys[j]?=Z u->w.cell? ⟨Q,C+j,U⟩=Z u)->(∀u∈ys,u.oneCell'=O)->n<=100000->i<n->
   Calls P N #[.slice (Z ⟨g,0,U⟩) n n,.int .i64 i,.slice (Z ⟨Q,C,U⟩) 1 E] w (qb a.size w g s.size (n+1) (xs.take (i*a.size)++ys++xs.drop (i*a.size))))
  {fn:aa (Val a)->Int->aa (Val a)->ab (Unit×aa (Val a)×Unit)} (c7:∀l i v r,fn l i v=Z r->(∃e,v=[e])/\0<=i/\i<=X l/\X l<=100000/\r=((),l.take i.toNat++(v++l.drop i.toNat),())):
  cp P N (sgP ⟨[.row a,.val (.int .i64),.val (.list a)],[.one (.row a)],λ x=>fn x.1 x.2.1 x.2.2.1⟩):=by
 refine⟨hf,λ Γ I w dT dr r hi hr hp=>?_⟩;unfold sgP at hp;split at hp<;>try cases hp
 rename_i x hx;split at hp<;>cases hp;rename_i v0 cf;let⟨l,i,v,_⟩:=x;obtain⟨⟨e,rfl⟩,a5,a4,hl,rfl⟩:=c7 _ _ _ _ cf;obtain⟨i,rfl⟩:=BY a5;have a4:i<=X l:=Int.ofNat_le.1 a4;have hl:X l<=100000:=hl;obtain⟨y0,d2,nr,rfl,cd,hx⟩:=IC hx;obtain⟨y1,d1,rfl,cb,hx⟩:=xR hx;obtain⟨y2,d0,rfl,ca,hx⟩:=xR hx;obtain⟨rfl,dk,d3⟩:=xO hx;obtain⟨u0,r0,rfl,S,hr⟩:=hr.uncons;obtain⟨u1,r1,rfl,a1,hr⟩:=hr.uncons;obtain⟨u2,r2,rfl,cl,hr⟩:=hr.uncons;have:=hr.nil_inv;subst this;have a1:=ce (xu cb a1);subst a1;have a9:I.bx=[]:=cR dk.symm;have hL:Rep Γ (.sl a.size ([e].map (aI a)) 1) u2:=xu ca cl;obtain⟨p2,n2,E,rfl,d4,hC⟩:=WY hi (UE [e]) hL;have bs:n2=1:=by rw[<-hC.len];rfl
 subst bs;obtain dn|⟨b2,C,rfl,b6⟩:=hC.at_
 .cases dn
 let⟨ys,b8,b7,y3,y4⟩:=Aa (Γ:=Γ) (iZ a) hC.size b6;have F:X ys=a.size:=by rw[b8];exact Jx _
 have K:bJ (fS [aI a e]) 0=Y:=rfl;have b5:∀(b o j:Nat),(⟨b,o,U⟩:Addr).add j=⟨b,o+j,U⟩:=qol;have B:∀j u,ys[j]?=Z u->w.cell? ⟨b2,C+j,U⟩=Z u:=λ j u hj=>by rw[<-b5];exact b7 j u hj
 have co:(1:Nat)*bytes<=2^47:=by omega
 have W:∀q∈[aI a e],X q=a.size:=by intro q d;rw[cQ.1 d];exact gR a e
 have a3:∀q∈[aI a e],∀x∈q,br x=O:=by intro q d;rw[cQ.1 d];exact ir a e
 obtain⟨c1,R,rfl,hR,z,m,an⟩|⟨c1,c4,hy⟩:=Fi cd
 .have H:=hi.row 0 R hR;have c9:X R.c=X l:=dU an;cases S with
  |rs _ _ _ _ _ p cap cP ct bl cs bb=>
  let⟨bn,A⟩:=bb (H.ver (by rw[m.1];exact aG _)).symm;rw[H.off m.2,bS]at bn A;by_cases c5:i=X l
  .-- at the end
   have t:eM a.size bytes I (.rs 0 0 (X R.c) R.ver Y) [aI a e]=Z (.rs 0 0 (X R.c+1) (R.ver+1) Y,Z {I with rw:=I.rw.set 0 {R with c:=R.c++[aI a e],ver:=R.ver+1},wrr:=0::I.wrr}):=by
    have a7:R.k=a.size/\R.ver=R.ver/\X R.c=X R.c/\(0:Nat)=0/\Y=Y/\R.fz<=X R.c/\(X R.c+[aI a e].length)*bytes<=2^47/\X R.c+[aI a e].length<2^62:=by
     refine⟨z,rfl,rfl,rfl,rfl,by rw[m.1];exact aG _,?_,?_⟩
     .have:(X R.c+1)*bytes<=100001*2^24:=QJ (by omega) hb;show(X R.c+1)*bytes<=_;omega
     .show (X R.c)+1<_;omega
    have dm:Bm R a.size 0 (X R.c) R.ver Y bytes [aI a e]=Z ({R with c:=R.c++[aI a e],ver:=R.ver+1},X R.c+1):=af a7;simp only[eM,K,hR,dm]
   let⟨v',w',Γ',g1,Q,g3,g4⟩:=VA hT hi (.rs 0 0 _ _ _ p cap cP ct bl cs bb) hL W a3 t tS;have M:=ax w p (X R.c) cap ⟨b2,C,U⟩ E v' w' (by omega) g1;rw[show((X R.c:Nat):Int)=((i:Nat):Int) by omega]at M;apply Calls.mono M;rintro e1 w1 ⟨rfl,rfl⟩
   have L:(turn I (Z {I with rw:=I.rw.set 0 {R with c:=R.c++[aI a e],ver:=R.ver+1},wrr:=0::I.wrr})).rw[0]?=Z {R with c:=R.c++[aI a e],ver:=R.ver+1}:=by
    show(I.rw.set 0 _)[0]?=_;rw[gx (getElem?_lt hR)]
   have hd:bU (bu a) (R.c++[aI a e])=Z (l++[e]):=qR an (pE (λ v=>jA a v) [e])
   have y:l.take ((i:Nat):Int).toNat++([e]++l.drop ((i:Nat):Int).toNat)=l++[e]:=by
    rw[jT,c5,dg,bR,bK]
   let⟨az,z1,z2,z3,z4⟩:=NH (l:=l++[e]) hi Q g3 a9 L z m.1 m.2 hd (u:=v') (by rw[aM,<-c9];exact g4);rw[y];exact⟨_,az,rfl,z1,z2,z3,z4⟩
  .-- within
   have bm:cap≠0:=by omega
   have c0:p=Z ⟨Γ.cur 0,0,U⟩:=by
    obtain h|h:=bn
    .exact absurd h bm
    .rw[h,kG]
   subst c0;have b0:=iZ a;have d6:1*a.size<=cap*a.size:=bZ _ (by omega);rw[<-H.k,z,bS]at A;have hz:Γ.sz 0≠0:=by omega
   let⟨vs,et,frz,a0,G,ds,b3⟩:=H.blk hz;obtain rfl:frz=(0,0):=b3
   have a8:gC Γ a.size R.c (vs.toList.take (X R.c*a.size)):=by
    have hh:gC Γ a.size R.c (V vs):=λ q e j x q1 q2=>by
     let⟨u,u1,u2⟩:=UT hi hR m.2 hz a0 q e j x q1 q2;rw[z]at u1;exact⟨u,by rw[gA];exact u1,u2⟩
    have:=hh.take (λ e he=>(H.len e he).trans z) (X R.c)
    rwa [dg]at this
   have D:∀e∈R.c,X e=a.size:=λ e he=>(H.len e he).trans z;have bp:X R.c*a.size<=vs.size:=by rw[G];exact bL (bZ _ bl) A
   have aE:X (vs.toList.take (X R.c*a.size))=X R.c*a.size:=by rw[bj,ig];exact jR bp
   have h1:=Yf D b0 aE (λ q e j x q1 q2=>by let⟨u,u1,u2,u3⟩:=a8 q e j x q1 q2;exact⟨u,u1,u3⟩)
   have c3:b2≠Γ.cur 0:=by
    intro he;have hj:=b6;cases hL with
    |sl _ _ _ _ _ _ b o us s1 s2 s3 s4 s5 s6 s7 s8 s9=>
      obtain s7|s7:=s7
      .cases s7
      .cases s7;have c8:=gR a e;have hm:=s8 0 (aI a e) 0 _ rfl (aS (by rw[c8];exact b0));have:=H.un hz (C+0*a.size+0) (by rw[m.1,kG,H.off m.2];exact aG _);rw[he,this]at hm;cases hm
   have c6:Calls P N #[.slice (Z ⟨Γ.cur 0,0,U⟩) (X R.c) cap,.int .i64 i,.slice (Z ⟨b2,C,U⟩) 1 E] w (qb a.size w (Γ.cur 0) (Γ.sz 0) (X R.c+1) ((vs.toList.take (X R.c*a.size)).take (i*a.size)++ys++(vs.toList.take (X R.c*a.size)).drop (i*a.size))):=by
    rw[<-G];by_cases T:X R.c+1<=cap
    .exact a2 w (Γ.cur 0) (X R.c) cap i et vs _ a0 (by rw[G];exact A) rfl h1 b2 C E ys F B y3 c3 (by omega) (by omega) T
    .obtain rfl:cap=X R.c:=by omega
     exact a6 w (Γ.cur 0) (X R.c) i et vs _ a0 bp rfl h1 b2 C E ys F B y3 (by omega) (by omega)
   have b1:i*a.size<=X R.c*a.size:=bZ _ (by omega);have b4:bU (bu a) (R.c.take i++[aI a e]++R.c.drop i)=Z (l.take i++[e]++l.drop i):=qR (qR (Ab i an) (pE (λ v=>jA a v) [e])) (wS i an);have y:l.take ((i:Nat):Int).toNat++([e]++l.drop ((i:Nat):Int).toNat)=l.take i++[e]++l.drop i:=by rw[jT,bA]
   rw[y];refine Ga hi a9 hR z m.1 m.2 hz (n:=X R.c+1) ?_ b4 (λ q d=>?_) (λ q d=>?_) ?_ c6
   .simp only[aM,bj,fZ,im];omega
   .obtain d|d:=aR.1 d
    .obtain d|d:=aR.1 d
     .exact D q (fY d)
     .exact W q d
    .exact D q (ib d)
   .obtain d|d:=aR.1 d
    .obtain d|d:=aR.1 d
     .exact H.plain q (fY d)
     .exact a3 q d
    .exact H.plain q (ib d)
   .have b9:gC Γ a.size [aI a e] ys:=y4;have ht:=a8.take D i;have hd:=a8.drop i;refine gC.app (gC.app ht b9 ?_ λ q d=>D q (fY d)) hd ?_ ?_
    .rw[bj,aE,bj,jR b1,jR (by omega)]
    .rw[aM,aM,bj,aE,bj,jR b1,jR (by omega),F,im,jO]
    .intro q d;obtain d|d:=aR.1 d
     .exact D q (fY d)
     .exact W q d
 .-- nothing was there
  subst c4;have a5:i=0:=by simpa using a4
  subst a5;have ar:rowNew a.size bytes [aI a e]=Z (⟨a.size,[aI a e],0,0,Y⟩,1):=af ⟨co,by show(1:Nat)<_;omega⟩
  have t:eM a.size bytes I y0 [aI a e]=Z (.rs (X I.rw) 0 1 0 Y,Z {I with rw:=I.rw++[⟨a.size,[aI a e],0,0,Y⟩]})/\∃p,u0=.slice p 0 0:=by
   obtain rfl|⟨f,rfl,d5⟩:=hy
   .refine⟨?_,U,ce S⟩;simp only[eM,K,ar]
   .refine⟨?_,?_⟩
    .have e1:(J (1<f)&&bJ a.size a.size&&uni a.size [])=O:=by
       rw[bg (show 1<f by omega),show bJ a.size a.size=O from bg rfl];rfl
     simp only[eM,K,e1,show oa [] [aI a e]=[aI a e]from rfl,ar]
    .cases S with
     |sl _ _ _ p n cap b o us s1 s2 s3=>
       have h1:n=0:=by simpa using s1
       have h2:=s3 (by omega);subst h1;subst h2;exact⟨p,rfl⟩
  obtain⟨t,p,rfl⟩:=t;let⟨v',w',Γ',g1,Q,g3,g4⟩:=VA hT hi S hL W a3 t tS;apply Calls.mono (ax w p 0 0 ⟨b2,C,U⟩ E v' w' (by omega) g1);rintro e1 w1 ⟨rfl,rfl⟩
  have L:(turn I (Z {I with rw:=I.rw++[⟨a.size,[aI a e],0,0,Y⟩]})).rw[X I.rw]?=Z ⟨a.size,[aI a e],0,0,Y⟩:=by
   show(I.rw++_)[X I.rw]?=_;rw[ej (ak _)];simp
  let⟨az,z1,z2,z3,z4⟩:=NH (l:=[e]) hi Q g3 a9 L rfl rfl rfl (pE (λ v=>jA a v) [e]) (u:=v') g4;exact⟨_,az,rfl,z1,z2,z3,z4⟩
def NS{Γ:Gh}{I:St}{w:aA}(L:Inv Γ I w){a:Ty}{R:Row}(M:I.rw[0]?=Z R)(f:R.k=a.size)(i:R.fz=0/\R.off=Y){u0:aj}(z:Rep Γ (.rs 0 0 (X R.c) R.ver Y) u0):
  ∃p cap,u0=.slice p (X R.c) cap/\X R.c<=cap/\(cap=0\/p=Z ⟨Γ.cur 0,0,U⟩/\Γ.sz 0≠0/\∃vs G,Blk w (Γ.cur 0) G vs/\vs.size=Γ.sz 0/\cap*a.size<=vs.size/\gC Γ a.size R.c (vs.toList.take (X R.c*a.size))/\X (vs.toList.take (X R.c*a.size))=X R.c*a.size/\(∀u∈vs.toList.take (X R.c*a.size),u.oneCell'=O)):=by
 have H:=L.row 0 R M;cases z with
 |rs _ _ _ _ _ p cap Q P n N A=>
 let⟨o,b⟩:=A (H.ver (by rw[i.1];exact aG _)).symm;rw[H.off i.2,bS]at o b;refine⟨p,cap,rfl,n,?_⟩;by_cases g:cap=0
 .exact .inl g
 right
 have B:p=Z ⟨Γ.cur 0,0,U⟩:=by
  obtain h|h:=o
  .exact absurd h g
  .rw[h,kG]
 subst B;have E:=iZ a;have T:1*a.size<=cap*a.size:=bZ _ (by omega);rw[<-H.k,f,bS]at b;have y:Γ.sz 0≠0:=by omega
 let⟨vs,G,frz,m,d,K,r⟩:=H.blk y;obtain rfl:frz=(0,0):=r
 have s:gC Γ a.size R.c (vs.toList.take (X R.c*a.size)):=by
  have S:gC Γ a.size R.c (V vs):=λ q e j x v t=>by
   let⟨u,u1,u2⟩:=UT L M i.2 y m q e j x v t;rw[f]at u1;exact⟨u,by rw[gA];exact u1,u2⟩
  have:=S.take (λ e F=>(H.len e F).trans f) (X R.c)
  rwa [dg]at this
 have D:∀e∈R.c,X e=a.size:=λ e F=>(H.len e F).trans f;have C:X R.c*a.size<=vs.size:=by rw[d];exact bL (bZ _ n) b
 have l:X (vs.toList.take (X R.c*a.size))=X R.c*a.size:=by rw[bj,ig];exact jR C
 have W:=Yf D E l (λ q e j x v t=>by let⟨u,u1,u2,u3⟩:=s q e j x v t;exact⟨u,u1,u3⟩);exact⟨rfl,y,vs,G,m,d,by rw[d];exact b,s,l,W⟩
def Xa{P:aZ}{N:cI}{a:Ty}(hf:jL P N)
  (G:∀(w:aA) (g m c i:Nat) (et:aQ) (f:aL aj) (xs:aa aj),Blk w g et f->c*a.size<=f.size->f.toList.take ((m+1)*a.size)=xs->(∀u∈xs,u.oneCell'=O)->m<=100000->i<=m->m+1<=c->
   Calls P N #[.slice (Z ⟨g,0,U⟩) (m+1) c,.int .i64 i,.int .i64 ((i:Int)+1)] w (qb a.size w g f.size m (xs.take (i*a.size)++xs.drop ((i+1)*a.size))))
  {fn:aa (Val a)->Int->Int->ab (Unit×aa (Val a)×Unit)} (aE:∀l i j r,fn l i j=Z r->j=i+1/\0<=i/\i<X l/\X l<=100000/\r=((),l.take i.toNat++l.drop (i.toNat+1),())):
  cp P N (sgP ⟨[.row a,.val (.int .i64),.val (.int .i64)],[.one (.row a)],λ x=>fn x.1 x.2.1 x.2.2.1⟩):=by
 refine⟨hf,λ Γ I w a4 a2 r hi t D=>?_⟩;unfold sgP at D;split at D<;>try cases D
 rename_i x k;split at D<;>cases D;rename_i v0 ad;let⟨l,i,j,_⟩:=x;obtain⟨hj,az,y,hl,rfl⟩:=aE _ _ _ _ ad;have hj:j=i+1:=hj;subst hj;obtain⟨i,rfl⟩:=BY az;have y:i<X l:=Int.ofNat_lt.1 y;have hl:X l<=100000:=hl;obtain⟨y0,a7,nr,rfl,S,k⟩:=IC k;obtain⟨y1,a6,rfl,Q,k⟩:=xR k;obtain⟨y2,a5,rfl,M,k⟩:=xR k;obtain⟨rfl,a0,a8⟩:=xO k;obtain⟨u0,r0,rfl,an,t⟩:=t.uncons;obtain⟨u1,r1,rfl,s,t⟩:=t.uncons;obtain⟨u2,r2,rfl,o,t⟩:=t.uncons;have:=t.nil_inv;subst this;have s:=ce (xu Q s);subst s;have o:=ce (xu M o);subst o;have a1:I.bx=[]:=cR a0.symm;obtain⟨ar,R,rfl,hR,z,A,B⟩|⟨ar,v,hy⟩:=Fi S
 .have H:=hi.row 0 R hR;have a9:X R.c=X l:=dU B;have d:∀e∈R.c,X e=a.size:=λ e he=>(H.len e he).trans z;obtain⟨p,cap,rfl,a3,h|⟨rfl,hz,vs,et,W,C,F,L,T,h1⟩⟩:=NS hi hR z A an
  .omega
  .obtain⟨m,hm⟩:∃m,X R.c=m+1:=⟨X R.c-1,by omega⟩
   have ax:(i+1)*a.size<=X R.c*a.size:=bZ _ (by omega);have E:=G w (Γ.cur 0) m cap i et vs _ W F (by rw[<-hm]) h1 (by omega) (by omega) (by omega);rw[<-hm,C]at E
   have K:bU (bu a) (R.c.take i++R.c.drop (i+1))=Z (l.take ((i:Nat):Int).toNat++l.drop (((i:Nat):Int).toNat+1)):=by
    rw[jT];exact qR (Ab i B) (wS (i+1) B)
   refine Ga hi a1 hR z A.1 A.2 hz (n:=m) ?_ K (λ q b=>?_) (λ q b=>?_) ?_ E
   .rw[jT];simp only[aM,bj,fZ];omega
   .obtain b|b:=aR.1 b
    .exact d q (fY b)
    .exact d q (ib b)
   .obtain b|b:=aR.1 b
    .exact H.plain q (fY b)
    .exact H.plain q (ib b)
   .refine gC.app (L.take d i) (L.drop (i+1)) ?_ λ q b=>d q (fY b);rw[jO]at ax;rw[bj,T,bj,jR (by omega),jR (by omega)]
 .have v:l=[]:=v;subst v;exact absurd y (eY _)
def UF{P:aZ}{N:cI}{a:Ty}(hf:jL P N){most:Nat}
  (k:∀(w:aA) (p:ab Addr) (n c:Nat) (xs:aa aj),X xs=n*a.size->(n=0\/∃ad,p=Z ad/\∀j u,xs[j]?=Z u->w.cell? (ad.add j)=Z u)->(∀u∈xs,u.oneCell'=O)->n<=most->Calls P N #[.slice p n c] w λ e w'=>∃v,e=.returned v/\Fresh w a.size n xs v w')
  {fn:aa (Val a)->ab (Unit×aa (Val a)×Unit)} (F:∀l r,fn l=Z r->X l<=most/\r=((),l,())):
  cp P N (sgP ⟨[.val (.list a)],[.one (.row a)],λ x=>fn x.1⟩):=by
 refine⟨hf,λ Γ I w Q L r E C g=>?_⟩;unfold sgP at g;split at g<;>try cases g
 rename_i x y;split at g<;>cases g;rename_i v0 z;let⟨l,_⟩:=x;obtain⟨s,rfl⟩:=F _ _ z;have s:X l<=most:=s;obtain⟨y0,R,rfl,t,y⟩:=xR y;obtain⟨rfl,G,B⟩:=xO y;obtain⟨u0,r0,rfl,A,C⟩:=C.uncons;have:=C.nil_inv;subst this;have m:I.bx=[]:=cR G.symm;have d:I.rw=[]:=cR B.symm;have hL:Rep Γ (.sl a.size (l.map (aI a)) 1) u0:=xu t A;obtain⟨p,n,c,rfl,hn,K⟩:=WY E (UE l) hL;have D:X l=n:=by rw[<-K.len,bO]
 subst D;obtain q|⟨b,o,rfl,H⟩:=K.at_
 .have h:X l=0:=by rw[<-bO (f:=aI a),q];rfl
  refine LC (xs:=[]) E m d (λ i e j x M=>by rw[q]at M;cases M) ?_;exact k w p (X l) c [] (by rw[h];simp) (.inl h) (λ u hu=>by cases hu) s
 .let⟨xs,x1,W,T,S⟩:=Aa (Γ:=Γ) (iZ a) K.size H;apply LC (xs:=xs) E m d S;exact k w _ (X l) c xs (by rw[x1,bO]) (.inr ⟨_,rfl,W⟩) T s
def qqv{I:St}{r:aa SA}{nb c:Nat}{ys:aa AV}{a:iP (.nil::r)}(h:dS I (.nil::r) nb c ys=Z a):∃b,ys=.v (.slice U 0 0)::b/\dS I r nb c b=Z a:=by
 cases ys with
 |nil=>simp[dS]at h
 |cons y ys=>
   grind [dS,Vb]
def VE{P:aZ}{N:cI}{a:Ty}(C:jL P N){most:Nat}
  (B:∀(w:aA) (n:Nat),n<=most->Calls P N #[.slice U 0 0,.int .i64 n] w λ e w'=>∃v,e=.returned v/\Fresh w a.size 0 [] v w')
  {fn:Int->ab (Unit×aa (Val a)×Unit)} (q:∀n r,fn n=Z r->0<=n/\n<=most/\r=((),[],())):
  cp P N (sgP ⟨[.nil,.val (.int .i64)],[.one (.row a)],λ x=>fn x.1⟩):=by
 refine⟨C,λ Γ I w u t r A g h=>?_⟩;unfold sgP at h;split at h<;>try cases h
 next x f=>split at h<;>cases h;next E m=>obtain⟨z,rfl,f⟩:=qqv f;let⟨n,_⟩:=x;obtain⟨p,d,rfl⟩:=q _ _ m;obtain⟨n,rfl⟩:=BY p;have d:n<=most:=Int.ofNat_le.1 d;obtain⟨y1,y,rfl,k,f⟩:=xR f;obtain⟨rfl,s,o⟩:=xO f;obtain⟨u0,G,rfl,c,g⟩:=g.uncons;obtain⟨u1,F,rfl,b,g⟩:=g.uncons;have:=g.nil_inv;subst this;have c:=ce c;subst c;have b:=ce (xu k b);subst b;exact LC (a:=a) (l:=[]) (xs:=[]) A (cR s.symm) (cR o.symm) (λ i e j x D=>by cases D) (B w n d)
end
end Go.AmZ
namespace Go.Proofs.YtfepnknpfhiemaaGreatDoor
open Go.RowKit Go.GxZ Go.BigFrame
theorem X6:(Tryz.prog.info? 244).map (λ i=>(i.zero,i.size,i.bytes))=some (some (.agg #[.int .i64 0,.string ⟨#[]⟩,.int .i64 0,.slice none 0 0,.int .i64 0]),5,64):=by kernel_rfl
theorem qqb(w:aA):(sizeOf 244).run Tryz.prog w = .ok 5 w:=by kernel_rfl
theorem IT:(Tryz.prog.info? 244).map (·.size)=some 5:=by kernel_rfl
set_option maxHeartbeats 4000000 in
set_option maxRecDepth 100000 in
theorem insert_endPow (w:aA) (p:Option Addr) (n c:Nat) (ad:Addr) (c2:Nat) (v':aj) (w':aA) (hn:n<=100000) (hr:(Builtin.append_ #[213,213] 213 #[.slice p n c,.slice (some ad) 1 c2]).run Tryz.prog w = .ok v' w') :
  Calls Tryz.prog 285 #[.slice p n c,.int .i64 n,.slice (some ad) 1 c2] w λ e w1=>e = .returned v'/\w1=w':=by
 have HR:=Lib.hid hr;clear hr
 go_enter Tryz.func285,Tryz.ntmps285
 go_wp2_with (at_builtin;refine Lib.wpList_append_run _ rfl _ _ _ _ rfl _ _ rfl rfl _ _ HR.out ?_)
 all_goals
  go_ret
  first
   | exact ⟨rfl,rfl⟩
   | (have hcn:c=n:=by assumption
      subst hcn;exact ⟨rfl,rfl⟩)
set_option maxHeartbeats 4000000 in
set_option maxRecDepth 100000 in
theorem insert_roomPow (w:aA) (g n c i:Nat) (et:aQ) (cur:Array aj) (xs:List aj) (hbk:Blk w g et cur) (hcs:c*5<=cur.size) (hx:cur.toList.take (n*5)=xs) (hone:∀u∈xs,u.oneCell'=true)
  (g2 o2 c2:Nat) (ys:List aj) (hy:ys.length=5) (hys:∀j u,ys[j]?=some u->w.cell? ⟨g2,o2+j,none⟩=some u) (h1:∀u∈ys,u.oneCell'=true) (hne:g2≠g) (hn:n<=100000) (hi:i<n) (hroom:n+1<=c):
  Calls Tryz.prog 285 #[.slice (some ⟨g,0,none⟩) n c,.int .i64 i,.slice (some ⟨g2,o2,none⟩) 1 c2] w (qb 5 w g cur.size (n+1) (xs.take (i*5)++ys++xs.drop (i*5))):=by
 have hlc:cur.toList.length=cur.size:=by simp
 have hnc:(n+1)*5<=c*5:=bZ _ hroom;have hik:(i+1)*5<=n*5:=bZ _ hi;have hxl:xs.length=n*5:=by rw [<-hx,bj];omega
 obtain ⟨tA,kA,hsA,hkA⟩:∃t k,w.shape? g2=some (t,k)/\k≠0:=by
  cases hy0:ys[0]? with
  |none=>rw [qbR]at hy0;omega
  |some u=>exact qma (a:=⟨g2,o2+0,none⟩) rfl (hys 0 u hy0)
 have hov:∀lb cb,(callFunc 289 #[.slice (some ⟨g2,o2,none⟩) 1 c2,.slice (some ⟨g,(i+1)*5,none⟩) lb cb]).run Tryz.prog w=.ok (.value (.bool false)) w:=λ lb cb=>by
  rw [run_callFunc_extern Tryz.func289 (by kernel_rfl) (by kernel_rfl) (by kernel_rfl) (e:=Extern.SlicesOverlaps.overlaps #[213,213] #[4]) (by kernel_rfl),
   qgU w 213 4 244 Tryz.underlying213 5 qqb ⟨g2,o2,none⟩ ⟨g,(i+1)*5,none⟩ 1 c2 lb cb hne tA et kA cur.size
    hsA hkA (by unfold Blk at hbk;simp [World.shape?,hbk]) (hbk.free _) (hbk.free _)]
  rfl
 have hin:((i:Int)==(n:Int))=false:=by simp;omega
 have hb1:¬ (c=i+1):=by omega
 have hb2:¬ (c=i):=by omega
 have hlen1:(xs.drop (i*5)).length=n*5-i*5:=by rw [fZ,hxl]
 have HD1:Hid ((xs.drop (i*5)).length=Nat.min (n+1-i) (n-i)*5):=by
  have hm:Nat.min (n+1-i) (n-i)=n-i:=Nat.min_eq_right (by omega);show _=_;rw [hlen1,hm,BZ]
 have HS1:Hid (∀(j:Nat) (v:aj),(xs.drop (i*5))[j]?=some v->w.drew.cell? ((⟨g,i*5,none⟩:Addr).add j)=some v):=λ j v hj=>by
  have e1:(⟨g,i*5,none⟩:Addr).add j=⟨g,i*5+j,none⟩:=by unfold Addr.add;split<;>simp_all
  rw [e1];show w.cell? _=_;rw [hbk.cell,<-gA];rw [iJ,<-hx,fM]at hj;split at hj
  .exact hj
  .cases hj
 have HF1:Hid ((i+1)*5+(xs.drop (i*5)).length<=cur.size):=by show _<=_;rw [hlen1];omega
 have HO1:Hid (∀v∈xs.drop (i*5),v.oneCell'=true):=λ v hv=>hone v (ib hv);have hBK1:Hid (Blk w.drew g et cur):=hbk;obtain ⟨c1,hc1⟩:∃c1,c1=cur.toList.take ((i+1)*5)++xs.drop (i*5)++cur.toList.drop ((i+1)*5+(xs.drop (i*5)).length):=⟨_,rfl⟩
 obtain ⟨k1,k2,k3⟩:=qo5 5 cur.toList xs ys i n hx (by rw [hlc];omega) (by omega) hy c1 (by rw [hc1,jO]);have HC1:=Lib.hid hc1;have K1:=Lib.hid k1;have K2:=Lib.hid k2;have K3:=Lib.hid k3;have HLC:=Lib.hid hlc;have HY:=Lib.hid hy
 have HY1:Hid (ys.length=Nat.min 1 (n+1-i)*5):=by
  have hm:Nat.min 1 (n+1-i)=1:=jR (by omega);show _=_;rw [hy,hm]
 have HF2:Hid (i*5+ys.length<=c1.toArray.size):=by show _<=_;rw [hy];simp only [ic];rw [k1,hlc];omega
 have HYS:=Lib.hid hys;have HCS:=Lib.hid hcs;have H1:=Lib.hid h1;have HNE:=Lib.hid hne;have HNC:=Lib.hid hnc;have hlt:=lt_of_block hbk;have hov':=hov;clear hxl hlc hov hx hone hcs hbk hys hy h1 hne hlen1 hc1 k1 k2 k3 hsA hkA hnc hik;have HOV:=Lib.hid hov'
 go_enter Tryz.func285,Tryz.ntmps285
 go_upto_region 15 with (simp only [hov'])
 clear hov';have hw1:IntKind.i64.wrap ((i:Int)+1)=(i:Int)+1:=IntWalk.i64_in _ (by omega);have hw2:(0:Int)<=(i:Int)+1:=by omega
 have hw3:((i:Int)+1).toNat=i+1:=by omega
 have hw4:(i:Int)+1<=(n:Int)+1:=by omega
 have hw5:(i:Int)<=(n:Int)+1:=by omega
 go_region_law (refine Ur rfl (.tmp 73) (.tmp 76) 213 213 rfl 244 5 Tryz.underlying213 IT g ((i+1)*5) (n-i) (c-(i+1)) ⟨g,i*5,none⟩ (n+1-i) (c-i) (by simp [Act.eval,Act.put]) (by simp [Act.eval,Act.put]) cur et hBK1.out (xs.drop (i*5)) HD1.out HS1.out HF1.out HO1.out ?_;intro w4 hw4;have HW4:=Lib.hid hw4;clear hw4)
 all_goals
  have HW5:Hid (qg w.drew w4 g et c1):=by show qg _ _ _ _ _;rw [HC1.out];exact HW4.out
  have HB4:Hid (Blk w4 g et c1.toArray):=HW5.out.blk
  have HSY:Hid (∀(j:Nat) (v:aj),ys[j]?=some v->w4.cell? ((⟨g2,o2,none⟩:Addr).add j)=some v):=λ j v hj=>by
   have e1:(⟨g2,o2,none⟩:Addr).add j=⟨g2,o2+j,none⟩:=by unfold Addr.add;split<;>simp_all
   rw [e1,show w4.cell? _=w.cell? _ from World.cell?_of_block (HW5.out.other g2 HNE.out)];exact HYS.out j v hj
  clear hw1 hw2 hw3 hw4 HW4
  obtain ⟨w6,hcp,hw6⟩:∃w6,(∀ty,(Builtin.copy_ #[213,213] ty #[.slice (some ⟨g,i*5,none⟩) (n+1-i) (c-i),.slice (some ⟨g2,o2,none⟩) 1 c2]).run Tryz.prog w4=.ok (goInt (Nat.min 1 (n+1-i))) w6)/\qg w4 w6 g et (c1.toArray.toList.take (i*5)++ys++c1.toArray.toList.drop (i*5+ys.length)):=
   ⟨_,λ ty=>Mr w4 213 213 ty 244 5 g (i*5) (n+1-i) (c-i) ⟨g2,o2,none⟩ 1 c2 c1.toArray et ys Tryz.underlying213 IT HB4.out HY1.out HSY.out HF2.out H1.out,zD HB4.out _⟩
  have HW6:=Lib.hid hw6;clear hw6
  go_wp2_with (simp only [hcp])
  go_ret
  have h6:=HW6.out;have h5:=HW5.out;have hblk:=h6.blk;have k2:=K2.out;have hlc:=HLC.out;refine ⟨g,c,_,et,rfl,hblk,hroom,?_,?_,.inl ⟨rfl,?_⟩,h6.os.trans h5.os,h6.tape.trans h5.tape,h6.output.trans h5.output,?_,?_,λ k _ hk=>(h6.other k hk).trans (h5.other k hk)⟩
  .rw [ic];exact bL HCS.out (BX (by rw [k2,hlc]))
  .rw [jO];exact K3.out.trans (bA _ _ _)
  .rw [ic,k2,hlc]
  .rw [h6.size,h5.size];exact ak _
  .rw [h6.drawn,h5.drawn];exact eB _
set_option maxHeartbeats 4000000 in
set_option maxRecDepth 100000 in
theorem insert_growPow (w:aA) (g n i:Nat) (et:aQ) (cur:Array aj) (xs:List aj) (hbk:Blk w g et cur) (hcs:n*5<=cur.size) (hx:cur.toList.take (n*5)=xs) (hone:∀u∈xs,u.oneCell'=true)
  (g2 o2 c2:Nat) (ys:List aj) (hy:ys.length=5) (hys:∀j u,ys[j]?=some u->w.cell? ⟨g2,o2+j,none⟩=some u) (h1:∀u∈ys,u.oneCell'=true) (hn:n<=100000) (hi:i<n):
  Calls Tryz.prog 285 #[.slice (some ⟨g,0,none⟩) n n,.int .i64 i,.slice (some ⟨g2,o2,none⟩) 1 c2] w (qb 5 w g cur.size (n+1) (xs.take (i*5)++ys++xs.drop (i*5))):=by
 have hlc:cur.toList.length=cur.size:=by simp
 have hik:(i+1)*5<=n*5:=bZ _ hi;have hxl:xs.length=n*5:=by rw [<-hx,bj];omega
 have hg:=lt_of_block hbk
 have hg2:g2<w.heap.size:=by
  cases hy0:ys[0]? with
  |none=>rw [qbR]at hy0;omega
  |some u=>
    have:=hys 0 u hy0;unfold World.cell? at this;split at this
    .rename_i hh;exact (eC.1 hh).1
    .cases this
 obtain ⟨i0,hi0,hz0,hz1,hz2⟩:=info_parts X6;have hadd:∀(b o j:Nat),(⟨b,o,none⟩:Addr).add j=⟨b,o+j,none⟩:=λ b o j=>by unfold Addr.add;split<;>simp_all
 have hcx:∀(W:aA),Blk W g et cur->∀(o j:Nat) (v:aj),(xs.drop o)[j]?=some v->W.cell? ((⟨g,o,none⟩:Addr).add j)=some v:=λ W hW o j v hj=>by
  rw [hadd,hW.cell,<-gA];rw [iJ,<-hx,fM]at hj;split at hj
  .exact hj
  .cases hj
 have hold:(Builtin.firstCells i0.size i (.slice (some ⟨g,0,none⟩) i n)).run Tryz.prog w.drew=.ok (xs.take (i*5)).toArray w.drew:=by
  rw [hz1];refine run_firstCells_some w.drew 5 i ⟨g,0,none⟩ i n (xs.take (i*5)) (by rw [bj,hxl];omega) λ j v hj=>?_;refine hcx w.drew hbk 0 j v ?_;rw [fM]at hj;split at hj
  .simpa using hj
  .cases hj
 have hk:i+(n+1-i)=n+1:=by omega
 have hG1:n+1<=grownCap w (n+1) n 244:=grownCap_ge w _ _ _;have hG2:grownCap w (n+1) n 244<=maxLen:=grownCap_le_maxLen w _ _ _ (by unfold maxLen;omega)
 obtain ⟨w1,G,new,hr,hb1,hbk1,hnl,hnt,hG3,hG4,hw1s,hw1d⟩:∃(w1:aA) (G:Nat) (new:List aj),(∀ty,(Builtin.append_ #[213,3] ty #[.slice (some ⟨g,0,none⟩) i n,.int .i64 ((n:Int)+1-(i:Int))]).run Tryz.prog w=.ok (.slice (some ⟨w.heap.size,0,none⟩) (n+1) G) w1)/\
   Below w.heap.size w w1/\Blk w1 w.heap.size 244 new.toArray/\new.length=G*5/\new.take (i*5)=xs.take (i*5)/\n+1<=G/\G<=maxLen/\w.heap.size<w1.heap.size/\w.drawn<=w1.drawn:=by
  have hr:∀ty,_:=λ ty=>Lib.run_append_grow_zeros w 213 3 ty 244 i0 _ .i64 .i64 Tryz.underlying213 Tryz.underlying3 hi0 hz0 (some ⟨g,0,none⟩) i n (xs.take (i*5)) hold (n+1-i) (by omega) (by rw [hz1];decide) (by omega) (by omega) (by rw [hz2];omega) (by rw [hk,hz2];exact growslice_fits (by omega) (by omega));rw [hk]at hr;obtain ⟨NEW,hNEW⟩:∃N:Array aj,N=(xs.take (i*5)).toArray++Builtin.zeroCells (Value.cells (.agg #[.int .i64 0,.string ⟨#[]⟩,.int .i64 0,.slice none 0 0,.int .i64 0])) (n+1-i)++Builtin.zeroCells (Value.cells (.agg #[.int .i64 0,.string ⟨#[]⟩,.int .i64 0,.slice none 0 0,.int .i64 0])) (grownCap w (n+1) n 244-(n+1)):=⟨_,rfl⟩
  rw [<-hNEW]at hr;refine ⟨w.drew.alloc (.cells NEW 244),grownCap w (n+1) n 244,NEW.toList,λ ty=>?_,?_,?_,?_,?_,hG1,hG2,?_,eB _⟩
  .rw [show (n:Int)+1-(i:Int)=((n+1-i:Nat):Int) by omega];exact hr ty
  .exact ((Below.refl _ _).drew).alloc (ak _) _
  .rw [Qy];exact heap_alloc_new w.drew _
  .rw [ig,hNEW,vO,vO,size_zeroCells,size_zeroCells,show (Value.cells (.agg #[.int .i64 0,.string ⟨#[]⟩,.int .i64 0,.slice none 0 0,.int .i64 0])).size=5 from rfl,ic,bj,hxl];have:i*5+(n+1-i)*5+(grownCap w (n+1) n 244-(n+1))*5=grownCap w (n+1) n 244*5:=by rw [<-dM,<-dM];congr 1;omega
   omega
  .rw [hNEW,yL,yL,bA,vV (by simp [hxl];omega),B0];congr 1;omega
  .simp
 have hgb:∀k,k<w.heap.size->w1.heap[k]?=w.heap[k]?:=hb1.block;have hbkg1:Blk w1 g et cur:=hbk.same (hgb g hg);have hGn:(n+1)*5<=G*5:=bZ _ hG3;have hm1:Nat.min 1 (n+1-i)=1:=jR (by omega);obtain ⟨c1,hc1⟩:∃c1,c1=new.take (i*5)++ys++new.drop (i*5+ys.length):=⟨_,rfl⟩
 obtain ⟨k1,k2,k3⟩:=qrh 5 new xs ys i n hnt hxl (by omega) (by omega) hy c1 hc1
 obtain ⟨w3,hcp,hw3⟩:∃w3,(∀ty,(Builtin.copy_ #[213,213] ty #[.slice (some ⟨w.heap.size,i*5,none⟩) (n+1-i) (G-i),.slice (some ⟨g2,o2,none⟩) 1 c2]).run Tryz.prog w1=.ok (goInt (Nat.min 1 (n+1-i))) w3)/\qg w1 w3 w.heap.size 244 c1:=
  ⟨_,λ ty=>Mr w1 213 213 ty 244 5 w.heap.size (i*5) (n+1-i) (G-i) ⟨g2,o2,none⟩ 1 c2 new.toArray 244 ys Tryz.underlying213 IT hbk1 (by rw [hm1];omega) (λ j v hj=>by rw [hadd,show w1.cell? _=w.cell? _ from World.cell?_of_block (hgb g2 hg2)];exact hys j v hj) (by rw [ic];omega) h1,by rw [hc1];exact zD hbk1 _⟩
 have hbkg3:Blk w3 g et cur:=hbkg1.same (hw3.other g (by omega));have hmm:Nat.min (n-i) (n-i)=n-i:=jR (ak _);have HD1:Hid ((xs.drop (i*5)).length=Nat.min (n-i) (n-i)*5):=by show _=_;rw [fZ,hxl,hmm,BZ]
 have HS1:Hid (∀(j:Nat) (v:aj),(xs.drop (i*5))[j]?=some v->w3.drew.cell? ((⟨g,i*5,none⟩:Addr).add j)=some v):=hcx w3.drew hbkg3 (i*5);have HF1:Hid ((i+1)*5+(xs.drop (i*5)).length<=c1.toArray.size):=by show _<=_;rw [fZ,hxl,ic,k1,hnl];omega
 have HO1:Hid (∀v∈xs.drop (i*5),v.oneCell'=true):=λ v hv=>hone v (ib hv);have hBK1:Hid (Blk w3.drew w.heap.size 244 c1.toArray):=hw3.blk;have HW3:=Lib.hid hw3;have HB1:=Lib.hid hb1;have K2:Hid ((c1.take ((i+1)*5)++xs.drop (i*5)++c1.drop ((i+1)*5+(xs.drop (i*5)).length)).length=G*5):=by show _=_;rw [jO];exact k2.trans hnl
 have K3:Hid ((c1.take ((i+1)*5)++xs.drop (i*5)++c1.drop ((i+1)*5+(xs.drop (i*5)).length)).take ((n+1)*5)=xs.take (i*5)++ys++xs.drop (i*5)):=by show _=_;rw [jO,jO];exact k3
 have HG4:=Lib.hid hG4;have HR:=Lib.hid hr;have HCP:=Lib.hid hcp;have hin:((i:Int)==(n:Int))=false:=by simp;omega
 have hb0:¬ (n=i):=by omega
 have hb2:¬ (G=i):=by omega
 have hb3:¬ (G=i+1):=by omega
 have hg63:(G:Int)<=9223372036854775807:=by unfold maxLen at hG4;omega
 clear hlc hxl hi0 hz0 hz1 hz2 hadd hcx hold hk hG1 hG2 hr hb1 hbk1 hnl hnt hG4 hgb hbkg1 hm1 hc1 k1 k2 k3 hcp hw3 hbkg3 hmm hbk hcs hx hone hy hys h1 hik hGn
 go_enter Tryz.func285,Tryz.ntmps285
 go_upto_region 10 with (at_builtin;refine Lib.wpList_append_run _ rfl _ _ _ _ rfl _ _ rfl rfl _ _ (HR.out _) ?_)
 have hcp:=HCP.out
 go_upto_region 11 with (simp only [hcp])
 clear hcp;have hw1:IntKind.i64.wrap ((i:Int)+1)=(i:Int)+1:=IntWalk.i64_in _ (by omega);have hw2:(0:Int)<=(i:Int)+1:=by omega
 have hw3:((i:Int)+1).toNat=i+1:=by omega
 have hw4:(i:Int)+1<=(n:Int)+1:=by omega
 have hw5:(i:Int)<=(n:Int):=by omega
 go_region_law (refine Ur rfl (.tmp 50) (.tmp 53) 213 213 rfl 244 5 Tryz.underlying213 IT w.heap.size ((i+1)*5) (n-i) (G-(i+1)) ⟨g,i*5,none⟩ (n-i) (n-i) (by simp [Act.eval,Act.put]) (by simp [Act.eval,Act.put]) c1.toArray 244 hBK1.out (xs.drop (i*5)) HD1.out HS1.out HF1.out HO1.out ?_;intro w6 hw6;have HW6:=Lib.hid hw6;clear hw6)
 all_goals
  clear hw1 hw2 hw3 hw4
  go_wp2_with fail
  go_ret
  have h6:=HW6.out;have h5:=HW3.out;have h0:=HB1.out;have hblk:=h6.blk;have k3:=K3.out;have k2:=K2.out;refine ⟨w.heap.size,G,_,_,rfl,hblk,hG3,?_,k3.trans (bA _ _ _),.inr (ak _),h6.os.trans (h5.os.trans h0.os),h6.tape.trans (h5.tape.trans h0.tape),h6.output.trans (h5.output.trans h0.output),?_,?_,λ k hkl _=>?_⟩
  .rw [ic];exact BX k2.symm
  .rw [h6.size];show w.heap.size<=w3.heap.size;rw [h5.size];exact h0.size
  .rw [h6.drawn];show w.drawn<=w3.drawn+1;rw [h5.drawn];exact Nat.le_succ_of_le hw1d
  .exact (h6.other k (by omega)).trans ((h5.other k (by omega)).trans (h0.block k hkl))
theorem qpT(w:aA):(zeroValue 244).run Tryz.prog w = .ok (.agg #[.int .i64 0,.string ⟨#[]⟩,.int .i64 0,.slice none 0 0,.int .i64 0]) w:=by kernel_rfl
theorem qjO:(Builtin.zeroCells (Value.cells (.agg #[.int .i64 0,.string ⟨#[]⟩,.int .i64 0,.slice none 0 0,.int .i64 0])) 1).toList=(Value.cells (.agg #[.int .i64 0,.string ⟨#[]⟩,.int .i64 0,.slice none 0 0,.int .i64 0])).toList:=by kernel_rfl
theorem qkU:∀ v∈(Builtin.zeroCells (Value.cells (.agg #[.int .i64 0,.string ⟨#[]⟩,.int .i64 0,.slice none 0 0,.int .i64 0])) 1).toList,v.oneCell'=true:=by
 rw[qjO];decide
set_option maxHeartbeats 4000000 in
set_option maxRecDepth 100000 in
theorem delete_onePow (w:aA) (g m c i:Nat) (et:aQ) (cur:Array aj) (xs:List aj) (hbk:Blk w g et cur) (hcs:c*5<=cur.size) (hx:cur.toList.take ((m+1)*5)=xs) (hone:∀u∈xs,u.oneCell'=true)
  (hn:m<=100000) (hi:i<=m) (hroom:m+1<=c):
  Calls Tryz.prog 286 #[.slice (some ⟨g,0,none⟩) (m+1) c,.int .i64 i,.int .i64 ((i:Int)+1)] w (qb 5 w g cur.size m (xs.take (i*5)++xs.drop ((i+1)*5))):=by
 have hlc:cur.toList.length=cur.size:=by simp
 have hmc:(m+1)*5<=c*5:=bZ _ hroom;have him:i*5<=m*5:=bZ _ hi;have hxl:xs.length=(m+1)*5:=by rw [<-hx,bj,hlc];omega
 have hadd:∀(b o j:Nat),(⟨b,o,none⟩:Addr).add j=⟨b,o+j,none⟩:=λ b o j=>by unfold Addr.add;split<;>simp_all
 have hcell:∀(o j:Nat) (v:aj),(xs.drop o)[j]?=some v->w.drew.cell? ⟨g,o+j,none⟩=some v:=λ o j v hj=>by
  show w.cell? _=_;rw [hbk.cell,<-gA];rw [iJ,<-hx,fM]at hj;split at hj
  .exact hj
  .cases hj
 obtain ⟨i0,hi0,hz0,hz1,hz2⟩:=info_parts X6;have hdl:(xs.drop ((i+1)*5)).length=(m-i)*5:=by rw [fZ,hxl,<-BZ];congr 1;omega
 have hdl':(m-i)*5=m*5-i*5:=BZ ..
 obtain ⟨A,hA,HN⟩:∃A:Addr,(if c=i+1 then some (⟨g,0,none⟩:Addr)else some ⟨g,(i+1)*5,none⟩)=some A/\Hid (∀j u,(xs.drop ((i+1)*5))[j]?=some u->w.drew.cell? (A.add j)=some u):=by
  by_cases h:c=i+1
  .refine ⟨_,af h,λ j u hj=>?_⟩;have:=(ft.1 hj).1;rw [hdl]at this;have:m-i=0:=by omega
   simp [this]at*
  .exact ⟨_,ae h,λ j u hj=>by rw [hadd];exact hcell _ j u hj⟩
 have HDL:=Lib.hid hdl;have HO1:Hid (∀u∈xs.drop ((i+1)*5),u.oneCell'=true):=λ v hv=>hone v (ib hv)
 have HSP:Hid (∀j,j<(xs.drop ((i+1)*5)).length->(w.drew.cell? ⟨g,0+i*5+j,none⟩).isSome=true/\w.drew.frozen? ⟨g,0+i*5+j,none⟩=false):=λ j hj=>by
  rw [hdl]at hj;refine ⟨?_,hbk.free _⟩;show (w.cell? _).isSome=true;rw [hbk.cell,gz (by omega)];rfl
 have hBKd:Blk w.drew g et cur:=hbk;have hw0:=KQ g et (xs.drop ((i+1)*5)) (0+i*5) w.drew cur hBKd (by rw [hdl];omega);obtain ⟨w2,hw2⟩:∃w2,w2=w.drew.setCells g (0+i*5) (xs.drop ((i+1)*5)):=⟨_,rfl⟩
 rw [<-hw2]at hw0;obtain ⟨c1,hc1⟩:∃c1,c1=cur.toList.take (0+i*5)++xs.drop ((i+1)*5)++cur.toList.drop (0+i*5+(xs.drop ((i+1)*5)).length):=⟨_,rfl⟩
 rw [<-hc1]at hw0;have hl1:c1.length=cur.size:=by rw [hc1];simp only [aM,bj,fZ,hlc,hdl];simp only [fZ]at hdl;omega
 have ht1:c1.take (m*5)=xs.take (i*5)++xs.drop ((i+1)*5):=by
  have e1:cur.toList.take (0+i*5)=xs.take (i*5):=by rw [<-hx,B0];congr 1;omega
  rw [hc1,e1,vV (by simp only [aM,bj,hdl,hxl];omega),qE (by simp only [aM,bj,hdl,hxl];omega)]
 have hzl:(Builtin.zeroCells (Value.cells (.agg #[.int .i64 0,.string ⟨#[]⟩,.int .i64 0,.slice none 0 0,.int .i64 0])) 1).toList.length=5:=by rw [ig,size_zeroCells];rfl
 obtain ⟨w3,hcl,hw3⟩:∃w3,(∀ty,(Builtin.clear_ #[213] ty #[.slice (some ⟨g,m*5,none⟩) 1 (c-m)]).run Tryz.prog w2=.ok (.tuple #[]) w3)/\qg w2 w3 g et (c1.toArray.toList.take (m*5)++(Builtin.zeroCells (Value.cells (.agg #[.int .i64 0,.string ⟨#[]⟩,.int .i64 0,.slice none 0 0,.int .i64 0])) 1).toList++c1.toArray.toList.drop (m*5+(Builtin.zeroCells (Value.cells (.agg #[.int .i64 0,.string ⟨#[]⟩,.int .i64 0,.slice none 0 0,.int .i64 0])) 1).toList.length)):=
  ⟨_,λ ty=>LJ w2 213 244 ty _ Tryz.underlying213 qpT g (m*5) 1 (c-m) (by omega) c1.toArray et hw0.blk (by
   show m*5+1*5<=c1.toArray.size;rw [ic,hl1];omega) qkU,zD hw0.blk _⟩
 have HW0:=Lib.hid hw0;have HW2:=Lib.hid hw2;have HW3:=Lib.hid hw3;have HCL:=Lib.hid hcl;have HT1:=Lib.hid ht1;have HL1:=Lib.hid hl1;have HZL:=Lib.hid hzl;have HI:=Lib.hid hi0;have HZ1:=Lib.hid hz1;have HCS:=Lib.hid hcs;have HMC:=Lib.hid hmc;have hlt:=lt_of_block hbk;have hc1:¬ (m+1=i):=by omega
 have hc2:¬ (c=m):=by omega
 have hf1:((i:Int)==(i:Int)+1)=false:=by simp;omega
 have hrm:i+(m-i)<=c:=by omega
 have hmi:i+(m-i)=m:=by omega
 have HRM:=Lib.hid hrm;have HMI:=Lib.hid hmi;clear hlc hxl hadd hcell hi0 hz0 hz1 hz2 hdl hBKd hw0 hw2 hl1 ht1 hzl hcl hw3 hcs hx hone hbk hrm hmi hmc him hdl';have hw1:((i:Int)+1).toNat=i+1:=by omega
 have hw4:(i:Int)+1<=(m:Int)+1:=by omega
 have hw5:(i:Int)<=(m:Int)+1:=by omega
 have hw6:(0:Int)<=(i:Int)+1:=by omega
 have hic:i<=c:=by omega
 go_enter Tryz.func286,Tryz.ntmps286
 go_upto_region 5 with (fail)
 go_region_law (refine step_append_room rfl (.tmp 22) (.tmp 25) 213 rfl 244 i0 5 Tryz.underlying213 HI.out HZ1.out g 0 i c (by simp [Act.eval,Act.put]) A (m-i) (c-(i+1)) (xs.drop ((i+1)*5)) (by simp [Act.eval,Act.put]) HDL.out HN.out HO1.out HRM.out HSP.out ?_;rw [<-HW2.out,HMI.out])
 all_goals
  clear hw1 hw4 hw5 hw6 hA;have hcl:=HCL.out
  go_wp2_with (simp only [hcl])
  go_ret
  have h3:=HW3.out;have h0:=HW0.out;have hblk:=h3.blk;have hl1:=HL1.out;have hzl:=HZL.out;have hmc:=HMC.out;have hcs:=HCS.out
  have hsz:(c1.toArray.toList.take (m*5)++(Builtin.zeroCells (Value.cells (.agg #[.int .i64 0,.string ⟨#[]⟩,.int .i64 0,.slice none 0 0,.int .i64 0])) 1).toList++c1.toArray.toList.drop (m*5+(Builtin.zeroCells (Value.cells (.agg #[.int .i64 0,.string ⟨#[]⟩,.int .i64 0,.slice none 0 0,.int .i64 0])) 1).toList.length)).length=cur.size:=by
   show (c1.take (m*5)++_++c1.drop (m*5+_)).length=_;simp only [aM,bj,fZ,hl1,hzl];omega
  refine ⟨g,c,_,et,rfl,hblk,by omega,?_,?_,.inl ⟨rfl,?_⟩,h3.os.trans h0.os,h3.tape.trans h0.tape,h3.output.trans h0.output,?_,?_,λ k _ hk=>(h3.other k hk).trans (h0.other k hk)⟩
  .rw [ic,hsz];exact hcs
  .show (c1.take (m*5)++_++c1.drop (m*5+_)).take (m*5)=_;rw [bA,vV (by rw [bj,hl1];omega),B0,qb8];exact HT1.out
  .rw [ic,hsz]
  .rw [h3.size,h0.size];exact ak _
  .rw [h3.drawn,h0.drawn];exact eB _
end Go.Proofs.YtfepnknpfhiemaaGreatDoor
namespace Go.Proofs.YtfepnknpfhiemaaGreatDoor
open Go.RowKit Go.GxZ Go.BigFrame
def XE:(Tryz.prog.info? 47).map (λ i=>(i.zero,i.size,i.bytes))=Z (Z (.agg #[.int .i64 0,.string ⟨#[]⟩,.int .i64 0,.slice U 0 0]),4,56):=by kernel_rfl
set_option maxHeartbeats 4000000 in
set_option maxRecDepth 100000 in
def clone_anyTrm(w:aA)(p:ab Addr)(n c:Nat)(xs:aa aj)(f:X xs=n*4)(x:n=0\/∃ad,p=Z ad/\∀j u,xs[j]?=Z u->w.cell? (ad.add j)=Z u)(z:∀u∈xs,u.oneCell'=O)(hn:n<=100000000):
  Calls Tryz.prog 276 #[.slice p n c] w λ e w'=>∃v,e=.returned v/\AmZ.Fresh w 4 n xs v w':=by
 cases p with
 |none=>
   have i:n=0:=by
    obtain h|⟨ad,h,_⟩:=x
    .exact h
    .cases h
   subst i;clear x z f;have G:∀w,(binOp .eql 22 (.slice U 0 c) (.slice U 0 0)).run Tryz.prog w=.ok (.bool O) w:=λ w=>by rw[Lib.run_eql_slice_nil w 22 47 U 0 c 0 0 Tryz.underlying22];rfl
   go_enter Tryz.func276,Tryz.ntmps276
   go_wp2_with fail
   go_ret
   exact⟨_,rfl,Below.refl _ _,ak _,.inl ⟨rfl,_,rfl⟩⟩
 |some ad=>
   let⟨W,k,o,m,l⟩:=info_parts XE;have s:Below w.heap.size w (w.alloc (.cells #[] 47)):=(Below.refl _ _).alloc (ak _) _;by_cases i:n=0
   .subst i;have F:∀ty,(Builtin.append_ #[22,22] ty #[.slice (Z ⟨w.heap.size,0,U⟩) 0 0,.slice (Z ad) 0 c]).run Tryz.prog (w.alloc (.cells #[] 47))=.ok (.slice (Z ⟨w.heap.size,0,U⟩) 0 0) (w.alloc (.cells #[] 47)):=λ ty=>run_append_nothing _ 22 22 ty 47 _ Tryz.underlying22 k (Z ⟨w.heap.size,0,U⟩) 0 0 (ak _) _ (Src.ofSlice _ Tryz.underlying22 ad 0 c [] (by simp) (λ _ _ h=>by simp at h) (λ _ h=>by simp at h));have E:=Lib.hid F;have T:=Lib.hid s;clear F x z f s k o m l;have G:∀w,(binOp .eql 22 (.slice (Z ad) 0 c) (.slice U 0 0)).run Tryz.prog w=.ok (.bool Y) w:=λ w=>by rw[Lib.run_eql_slice_nil w 22 47 (Z ad) 0 c 0 0 Tryz.underlying22];rfl
    go_enter Tryz.func276,Tryz.ntmps276
    go_wp2_with (at_builtin;refine Lib.wpList_append_run _ rfl _ _ _ _ rfl _ _ rfl rfl _ _ (E.out _) ?_)
    go_ret
    exact⟨_,rfl,T.out,ak _,.inl ⟨rfl,_,rfl⟩⟩
   .have b:∀j u,xs[j]?=Z u->(w.alloc (.cells #[] 47)).cell? (ad.add j)=Z u:=λ j u r=>by
      obtain h|⟨R,h,M⟩:=x
      .exact absurd h i
      .cases h;have y:=M j u r
       have B:(ad.add j).block<w.heap.size:=by
        unfold World.cell? at y;split at y
        .next N=>exact(eC.1 N).1
        .cases y
       rw[show(w.alloc (.cells #[] 47)).cell? _=w.cell? _ from World.cell?_of_block (s.block _ B)];exact y
    have t:∀ty,∃g a d w',(Builtin.append_ #[22,22] ty #[.slice (Z ⟨w.heap.size,0,U⟩) 0 0,.slice (Z ad) n c]).run Tryz.prog (w.alloc (.cells #[] 47))=.ok (.slice (Z ⟨g,0,U⟩) (0+n) a) w'/\Below (w.alloc (.cells #[] 47)).heap.size (w.alloc (.cells #[] 47)) w'/\(w.alloc (.cells #[] 47)).heap.size<=g/\w'.heap[g]?=Z (.cells d 47 (0,0))/\0+n<=a/\d.size=a*4/\d.toList.take ((0+n)*4)=[]++xs/\(w.alloc (.cells #[] 47)).drawn<=w'.drawn:=
     λ ty=>AmZ.grow_any (P:=Tryz.prog) (w:=w.alloc (.cells #[] 47)) (ty:=ty) Tryz.underlying22 k o m l rfl (Z ⟨w.heap.size,0,U⟩) 0 0 (λ h=>by cases h) [] (by simp) (λ _ _ j u h=>by simp at h) _ n xs (Src.ofSlice _ Tryz.underlying22 ad n c xs f b z) (by omega) (by unfold maxLen;omega) (by omega)
    let⟨g,a,d,w',D,L,K,I,C,H,A,Q⟩:=t 22;rw[bS]at D C A;rw[eZ]at A;have E:=Lib.hid D;have q:w.heap.size<=(w.alloc (.cells #[] 47)).heap.size:=s.size
    have S:Hid (AmZ.Fresh w 4 n xs (.slice (Z ⟨g,0,U⟩) n a) w'):=by
     refine⟨s.trans (L.mono q),Q,.inr ⟨g,a,d,_,rfl,bL q K,I,C,BX H.symm,λ j u r=>?_⟩⟩;rw[<-A,fM]at r;split at r
     .rw[<-gA];exact r
     .cases r
    clear s b t D L K I C H A q x z f k o m l;have G:∀w,(binOp .eql 22 (.slice (Z ad) n c) (.slice U 0 0)).run Tryz.prog w=.ok (.bool Y) w:=λ w=>by rw[Lib.run_eql_slice_nil w 22 47 (Z ad) n c 0 0 Tryz.underlying22];rfl
    go_enter Tryz.func276,Tryz.ntmps276
    go_wp2_with (at_builtin;refine Lib.wpList_append_run _ rfl _ _ _ _ rfl _ _ rfl rfl _ _ E.out ?_)
    go_ret
    exact⟨_,rfl,S.out⟩
set_option maxHeartbeats 4000000 in
set_option maxRecDepth 100000 in
def grow_nilTrm(w:aA)(n:Nat)(z:n<=100000000):
  Calls Tryz.prog 153 #[.slice U 0 0,.int .i64 n] w λ e w'=>∃v,e=.returned v/\AmZ.Fresh w 4 0 [] v w':=by
 by_cases r:n=0
 .subst r;have l:IntKind.i64.wrap ((0:Int)-0)=(0:Int):=IntWalk.i64_in _ (by omega)
  go_enter Tryz.func153,Tryz.ntmps153
  go_wp2_with fail
  go_ret
  exact⟨_,rfl,Below.refl _ _,ak _,.inl ⟨rfl,_,rfl⟩⟩
 let⟨o,h,f,d,c⟩:=info_parts XE;have b:(Builtin.firstCells o.size 0 (.slice U 0 0)).run Tryz.prog w.drew=.ok (([]:aa aj)).toArray w.drew:=run_firstCells_none ..;have k:∀ty,_:=λ ty=>Lib.run_append_grow_zeros w 22 3 ty 47 o _ .i64 .i64 Tryz.underlying22 Tryz.underlying3 h f U 0 0 [] b n (by omega) (by rw[d];decide) (by omega) (by omega) (by rw[c];omega) (by rw[bS,c];exact growslice_fits (by omega) (by omega));rw[bS]at k;obtain⟨i,a⟩:∃N:aL aj,N=([]:aa aj).toArray++Builtin.zeroCells (Value.cells (.agg #[.int .i64 0,.string ⟨#[]⟩,.int .i64 0,.slice U 0 0])) n++Builtin.zeroCells (Value.cells (.agg #[.int .i64 0,.string ⟨#[]⟩,.int .i64 0,.slice U 0 0])) (grownCap w n 0 47-n):=⟨_,rfl⟩
 rw[<-a]at k;have m:n<=grownCap w n 0 47:=grownCap_ge w _ _ _
 have g:grownCap w n 0 47*4<=i.size:=by
  rw[a,vO,vO,size_zeroCells,size_zeroCells,show(Value.cells (.agg #[.int .i64 0,.string ⟨#[]⟩,.int .i64 0,.slice U 0 0])).size=4 from rfl,ic,eJ];have:n*4+(grownCap w n 0 47-n)*4=grownCap w n 0 47*4:=by rw[<-dM];congr 1;omega
  omega
 have y:=Lib.hid k;have x:=Lib.hid g;have l:IntKind.i64.wrap ((0:Int)-0)=(0:Int):=IntWalk.i64_in _ (by omega);have q:IntKind.i64.wrap ((n:Int)-0)=(n:Int):=by rw[IntWalk.i64_in _ (by omega)];omega
 have p:(0:Int)<(n:Int):=by omega
 generalize t:grownCap w n 0 47=G at *;clear b k a g h f d c t m
 go_enter Tryz.func153,Tryz.ntmps153
 go_wp2_with (at_builtin;refine Lib.wpList_append_run _ rfl _ _ _ _ rfl _ _ rfl rfl _ _ (y.out _) ?_)
 all_goals
  go_ret
  exact⟨_,rfl,((Below.refl _ _).alloc (ak _) _).drew,eB _,.inr ⟨w.heap.size,G,i,_,rfl,ak _,heap_alloc_new w _,aG _,x.out,λ j u s=>by simp at s⟩⟩
end Go.Proofs.YtfepnknpfhiemaaGreatDoor
namespace Go.Proofs.YtfepnknpfhiemaaGreatDoor
open Go.RowKit Go.GxZ Go.BigFrame
def XF:(Tryz.prog.info? 9).map (λ i=>(i.zero,i.size,i.bytes))=Z (Z (.string ⟨#[]⟩),1,16):=by kernel_rfl
def qq6(w:aA):(zeroValue 9).run Tryz.prog w=.ok (.string ⟨#[]⟩) w:=by kernel_rfl
def qjB:V (Builtin.zeroCells (Value.cells (.string ⟨#[]⟩)) 1)=V (Value.cells (.string ⟨#[]⟩)):=by kernel_rfl
def qkI:∀v∈V (Builtin.zeroCells (Value.cells (.string ⟨#[]⟩)) 1),v.oneCell'=O:=by
 rw[qjB];decide
set_option maxHeartbeats 4000000 in
set_option maxRecDepth 100000 in
def delete_oneStr(w:aA)(g m c i:Nat)(N:aQ)(a:aL aj)(xs:aa aj)(n:Blk w g N a)(x:c*1<=a.size)(hx:a.toList.take ((m+1)*1)=xs)(B:∀u∈xs,u.oneCell'=O)
  (hn:m<=100000) (hi:i<=m) (F:m+1<=c):
  Calls Tryz.prog 96 #[.slice (Z ⟨g,0,U⟩) (m+1) c,.int .i64 i,.int .i64 ((i:Int)+1)] w (qb 1 w g a.size m (xs.take (i*1)++xs.drop ((i+1)*1))):=by
 have H:X (V a)=a.size:=by simp
 have G:(m+1)*1<=c*1:=bZ _ F;have a4:i*1<=m*1:=bZ _ hi;have t:X xs=(m+1)*1:=by rw[<-hx,bj,H];omega
 have C:∀(b o j:Nat),(⟨b,o,U⟩:Addr).add j=⟨b,o+j,U⟩:=λ b o j=>by unfold Addr.add;split<;>simp_all
 have q:∀(o j:Nat) (v:aj),(xs.drop o)[j]?=Z v->w.drew.cell? ⟨g,o+j,U⟩=Z v:=λ o j v r=>by
  show w.cell? _=_;rw[n.cell,<-gA];rw[iJ,<-hx,fM]at r;split at r
  .exact r
  .cases r
 let⟨i0,an,aE,Q,az⟩:=info_parts XF;have d:X (xs.drop ((i+1)*1))=(m-i)*1:=by rw[fZ,t,<-BZ];congr 1;omega
 have ar:(m-i)*1=m*1-i*1:=BZ ..
 obtain⟨A,hA,HN⟩:∃A:Addr,(if c=i+1 then Z (⟨g,0,U⟩:Addr)else Z ⟨g,(i+1)*1,U⟩)=Z A/\Hid (∀j u,(xs.drop ((i+1)*1))[j]?=Z u->w.drew.cell? (A.add j)=Z u):=by
  by_cases h:c=i+1
  .refine⟨_,af h,λ j u r=>?_⟩;have:=(ft.1 r).1;rw[d]at this;have:m-i=0:=by omega
   simp[this]at*
  .exact⟨_,ae h,λ j u r=>by rw[C];exact q _ j u r⟩
 have b0:=Lib.hid d;have bn:Hid (∀u∈xs.drop ((i+1)*1),u.oneCell'=O):=λ v hv=>B v (ib hv)
 have bl:Hid (∀j,j<X (xs.drop ((i+1)*1))->(w.drew.cell? ⟨g,0+i*1+j,U⟩).isSome=O/\w.drew.frozen? ⟨g,0+i*1+j,U⟩=Y):=λ j r=>by
  rw[d]at r;refine⟨?_,n.free _⟩;show(w.cell? _).isSome=O;rw[n.cell,gz (by omega)];rfl
 have D:Blk w.drew g N a:=n;have f:=KQ g N (xs.drop ((i+1)*1)) (0+i*1) w.drew a D (by rw[d];omega);obtain⟨P,E⟩:∃P,P=w.drew.setCells g (0+i*1) (xs.drop ((i+1)*1)):=⟨_,rfl⟩
 rw[<-E]at f;obtain⟨e,z⟩:∃e,e=a.toList.take (0+i*1)++xs.drop ((i+1)*1)++a.toList.drop (0+i*1+X (xs.drop ((i+1)*1))):=⟨_,rfl⟩
 rw[<-z]at f;have l:X e=a.size:=by rw[z];simp only[aM,bj,fZ,H,d];simp only[fZ]at d;omega
 have S:e.take (m*1)=xs.take (i*1)++xs.drop ((i+1)*1):=by
  have e1:a.toList.take (0+i*1)=xs.take (i*1):=by rw[<-hx,B0];congr 1;omega
  rw[z,e1,vV (by simp only[aM,bj,d,t];omega),qE (by simp only[aM,bj,d,t];omega)]
 have s:(Builtin.zeroCells (Value.cells (.string ⟨#[]⟩)) 1).toList.length=1:=by rw[ig,size_zeroCells];rfl
 obtain⟨w3,y,R⟩:∃w3,(∀ty,(Builtin.clear_ #[26] ty #[.slice (Z ⟨g,m*1,U⟩) 1 (c-m)]).run Tryz.prog P=.ok (.tuple #[]) w3)/\qg P w3 g N (e.toArray.toList.take (m*1)++V (Builtin.zeroCells (Value.cells (.string ⟨#[]⟩)) 1)++e.toArray.toList.drop (m*1+(Builtin.zeroCells (Value.cells (.string ⟨#[]⟩)) 1).toList.length)):=
  ⟨_,λ ty=>LJ P 26 9 ty _ Tryz.underlying26 qq6 g (m*1) 1 (c-m) (by omega) e.toArray N f.blk (by
   show m*1+1*1<=e.toArray.size;rw[ic,l];omega) qkI,zD f.blk _⟩
 have a9:=Lib.hid f;have a8:=Lib.hid E;have a7:=Lib.hid R;have L:=Lib.hid y;have bb:=Lib.hid S;have bx:=Lib.hid l;have a5:=Lib.hid s;have HI:=Lib.hid an;have a6:=Lib.hid Q;have b1:=Lib.hid x;have bs:=Lib.hid G;have b2:=lt_of_block n;have z:¬ (m+1=i):=by omega
 have b5:¬ (c=m):=by omega
 have b4:((i:Int)==(i:Int)+1)=Y:=by simp;omega
 have W:i+(m-i)<=c:=by omega
 have ad:i+(m-i)=m:=by omega
 have bm:=Lib.hid W;have bp:=Lib.hid ad;clear H t C q an aE Q az d D f E l S s y R x hx B n W ad G a4 ar;have I:=hA;rw[BO]at I;have p:=L.out;rw[BO]at p;have L:=Lib.hid p;clear p;have a3:((i:Int)+1).toNat=i+1:=by omega
 have a2:(i:Int)+1<=(m:Int)+1:=by omega
 have a1:(i:Int)<=(m:Int)+1:=by omega
 have a0:(0:Int)<=(i:Int)+1:=by omega
 have b3:i<=c:=by omega
 go_enter Tryz.func96,Tryz.ntmps96
 go_upto_region 5 with(fail)
 go_region_law (apply step_append_room rfl (.tmp 22) (.tmp 25) 26 rfl 9 i0 1 Tryz.underlying26 HI.out a6.out g 0 i c (by simp[Act.eval,Act.put]) A (m-i) (c-(i+1)) (xs.drop ((i+1)*1)) (by simp[Act.eval,Act.put,I]) b0.out HN.out bn.out bm.out bl.out;rw[<-a8.out,bp.out])
 all_goals
  clear a3 a2 a1 a0 hA I;have y:=L.out
  go_wp2_with (simp only[y])
  go_ret
  have K:=a7.out;have M:=a9.out;have ax:=K.blk;have l:=bx.out;have s:=a5.out;have G:=bs.out;have x:=b1.out
  have T:X (e.toArray.toList.take (m*1)++V (Builtin.zeroCells (Value.cells (.string ⟨#[]⟩)) 1)++e.toArray.toList.drop (m*1+(Builtin.zeroCells (Value.cells (.string ⟨#[]⟩)) 1).toList.length))=a.size:=by
   show(e.take (m*1)++_++e.drop (m*1+_)).length=_;simp only[aM,bj,fZ,l,s];omega
  refine⟨g,c,_,N,rfl,ax,by omega,?_,?_,.inl ⟨rfl,?_⟩,K.os.trans M.os,K.tape.trans M.tape,K.output.trans M.output,?_,?_,λ k _ hk=>(K.other k hk).trans (M.other k hk)⟩
  .rw[ic,T];exact x
  .show(e.take (m*1)++_++e.drop (m*1+_)).take (m*1)=_;rw[bA,vV (by rw[bj,l];omega),B0,qb8];rw[bb.out,BO,BO]
  .rw[ic,T]
  .rw[K.size,M.size];exact ak _
  .rw[K.drawn,M.drawn];exact eB _
set_option maxHeartbeats 4000000 in
set_option maxRecDepth 100000 in
def clone_anyStr(w:aA)(p:ab Addr)(n c:Nat)(xs:aa aj)(f:X xs=n*1)(x:n=0\/∃ad,p=Z ad/\∀j u,xs[j]?=Z u->w.cell? (ad.add j)=Z u)(z:∀u∈xs,u.oneCell'=O)(hn:n<=100000000):
  Calls Tryz.prog 97 #[.slice p n c] w λ e w'=>∃v,e=.returned v/\AmZ.Fresh w 1 n xs v w':=by
 cases p with
 |none=>
   have i:n=0:=by
    obtain h|⟨ad,h,_⟩:=x
    .exact h
    .cases h
   subst i;clear x z f;have G:∀w,(binOp .eql 26 (.slice U 0 c) (.slice U 0 0)).run Tryz.prog w=.ok (.bool O) w:=λ w=>by rw[Lib.run_eql_slice_nil w 26 9 U 0 c 0 0 Tryz.underlying26];rfl
   go_enter Tryz.func97,Tryz.ntmps97
   go_wp2_with fail
   go_ret
   exact⟨_,rfl,Below.refl _ _,ak _,.inl ⟨rfl,_,rfl⟩⟩
 |some ad=>
   let⟨W,k,o,m,l⟩:=info_parts XF;have s:Below w.heap.size w (w.alloc (.cells #[] 9)):=(Below.refl _ _).alloc (ak _) _;by_cases i:n=0
   .subst i;have F:∀ty,(Builtin.append_ #[26,26] ty #[.slice (Z ⟨w.heap.size,0,U⟩) 0 0,.slice (Z ad) 0 c]).run Tryz.prog (w.alloc (.cells #[] 9))=.ok (.slice (Z ⟨w.heap.size,0,U⟩) 0 0) (w.alloc (.cells #[] 9)):=λ ty=>run_append_nothing _ 26 26 ty 9 _ Tryz.underlying26 k (Z ⟨w.heap.size,0,U⟩) 0 0 (ak _) _ (Src.ofSlice _ Tryz.underlying26 ad 0 c [] (by simp) (λ _ _ h=>by simp at h) (λ _ h=>by simp at h));have E:=Lib.hid F;have T:=Lib.hid s;clear F x z f s k o m l;have G:∀w,(binOp .eql 26 (.slice (Z ad) 0 c) (.slice U 0 0)).run Tryz.prog w=.ok (.bool Y) w:=λ w=>by rw[Lib.run_eql_slice_nil w 26 9 (Z ad) 0 c 0 0 Tryz.underlying26];rfl
    go_enter Tryz.func97,Tryz.ntmps97
    go_wp2_with (at_builtin;refine Lib.wpList_append_run _ rfl _ _ _ _ rfl _ _ rfl rfl _ _ (E.out _) ?_)
    go_ret
    exact⟨_,rfl,T.out,ak _,.inl ⟨rfl,_,rfl⟩⟩
   .have b:∀j u,xs[j]?=Z u->(w.alloc (.cells #[] 9)).cell? (ad.add j)=Z u:=λ j u r=>by
      obtain h|⟨R,h,M⟩:=x
      .exact absurd h i
      .cases h;have y:=M j u r
       have B:(ad.add j).block<w.heap.size:=by
        unfold World.cell? at y;split at y
        .next N=>exact(eC.1 N).1
        .cases y
       rw[show(w.alloc (.cells #[] 9)).cell? _=w.cell? _ from World.cell?_of_block (s.block _ B)];exact y
    have t:∀ty,∃g a d w',(Builtin.append_ #[26,26] ty #[.slice (Z ⟨w.heap.size,0,U⟩) 0 0,.slice (Z ad) n c]).run Tryz.prog (w.alloc (.cells #[] 9))=.ok (.slice (Z ⟨g,0,U⟩) (0+n) a) w'/\Below (w.alloc (.cells #[] 9)).heap.size (w.alloc (.cells #[] 9)) w'/\(w.alloc (.cells #[] 9)).heap.size<=g/\w'.heap[g]?=Z (.cells d 9 (0,0))/\0+n<=a/\d.size=a*1/\d.toList.take ((0+n)*1)=[]++xs/\(w.alloc (.cells #[] 9)).drawn<=w'.drawn:=
     λ ty=>AmZ.grow_any (P:=Tryz.prog) (w:=w.alloc (.cells #[] 9)) (ty:=ty) Tryz.underlying26 k o m l rfl (Z ⟨w.heap.size,0,U⟩) 0 0 (λ h=>by cases h) [] (by simp) (λ _ _ j u h=>by simp at h) _ n xs (Src.ofSlice _ Tryz.underlying26 ad n c xs f b z) (by omega) (by unfold maxLen;omega) (by omega)
    let⟨g,a,d,w',D,L,K,I,C,H,A,Q⟩:=t 26;rw[bS]at D C A;rw[eZ]at A;have E:=Lib.hid D;have q:w.heap.size<=(w.alloc (.cells #[] 9)).heap.size:=s.size
    have S:Hid (AmZ.Fresh w 1 n xs (.slice (Z ⟨g,0,U⟩) n a) w'):=by
     refine⟨s.trans (L.mono q),Q,.inr ⟨g,a,d,_,rfl,bL q K,I,C,BX H.symm,λ j u r=>?_⟩⟩;rw[<-A,fM]at r;split at r
     .rw[<-gA];exact r
     .cases r
    clear s b t D L K I C H A q x z f k o m l;have G:∀w,(binOp .eql 26 (.slice (Z ad) n c) (.slice U 0 0)).run Tryz.prog w=.ok (.bool Y) w:=λ w=>by rw[Lib.run_eql_slice_nil w 26 9 (Z ad) n c 0 0 Tryz.underlying26];rfl
    go_enter Tryz.func97,Tryz.ntmps97
    go_wp2_with (at_builtin;refine Lib.wpList_append_run _ rfl _ _ _ _ rfl _ _ rfl rfl _ _ E.out ?_)
    go_ret
    exact⟨_,rfl,S.out⟩
end Go.Proofs.YtfepnknpfhiemaaGreatDoor
namespace Go.Proofs.YtfepnknpfhiemaaGreatDoor
open Go.RowKit Go.GxZ Go.BigFrame
def qp9:(Tryz.prog.info? 62).map (λ i=>(i.zero,i.size,i.bytes))=Z (Z (.agg #[.int .i64 0,.string ⟨#[]⟩,.int .i64 0,.slice U 0 0,.int .i64 0,.string ⟨#[]⟩,.int .i64 0,.slice U 0 0]),8,112):=by kernel_rfl
set_option maxHeartbeats 4000000 in
set_option maxRecDepth 100000 in
def grow_nilVal(w:aA)(n:Nat)(z:n<=100000000):
  Calls Tryz.prog 181 #[.slice U 0 0,.int .i64 n] w λ e w'=>∃v,e=.returned v/\AmZ.Fresh w 8 0 [] v w':=by
 by_cases r:n=0
 .subst r;have l:IntKind.i64.wrap ((0:Int)-0)=(0:Int):=IntWalk.i64_in _ (by omega)
  go_enter Tryz.func181,Tryz.ntmps181
  go_wp2_with fail
  go_ret
  exact⟨_,rfl,Below.refl _ _,ak _,.inl ⟨rfl,_,rfl⟩⟩
 let⟨o,h,f,d,c⟩:=info_parts qp9;have b:(Builtin.firstCells o.size 0 (.slice U 0 0)).run Tryz.prog w.drew=.ok (([]:aa aj)).toArray w.drew:=run_firstCells_none ..;have k:∀ty,_:=λ ty=>Lib.run_append_grow_zeros w 83 3 ty 62 o _ .i64 .i64 Tryz.underlying83 Tryz.underlying3 h f U 0 0 [] b n (by omega) (by rw[d];decide) (by omega) (by omega) (by rw[c];omega) (by rw[bS,c];exact growslice_fits (by omega) (by omega));rw[bS]at k;obtain⟨i,a⟩:∃N:aL aj,N=([]:aa aj).toArray++Builtin.zeroCells (Value.cells (.agg #[.int .i64 0,.string ⟨#[]⟩,.int .i64 0,.slice U 0 0,.int .i64 0,.string ⟨#[]⟩,.int .i64 0,.slice U 0 0])) n++Builtin.zeroCells (Value.cells (.agg #[.int .i64 0,.string ⟨#[]⟩,.int .i64 0,.slice U 0 0,.int .i64 0,.string ⟨#[]⟩,.int .i64 0,.slice U 0 0])) (grownCap w n 0 62-n):=⟨_,rfl⟩
 rw[<-a]at k;have m:n<=grownCap w n 0 62:=grownCap_ge w _ _ _
 have g:grownCap w n 0 62*8<=i.size:=by
  rw[a,vO,vO,size_zeroCells,size_zeroCells,show(Value.cells (.agg #[.int .i64 0,.string ⟨#[]⟩,.int .i64 0,.slice U 0 0,.int .i64 0,.string ⟨#[]⟩,.int .i64 0,.slice U 0 0])).size=8 from rfl,ic,eJ];have:n*8+(grownCap w n 0 62-n)*8=grownCap w n 0 62*8:=by rw[<-dM];congr 1;omega
  omega
 have y:=Lib.hid k;have x:=Lib.hid g;have l:IntKind.i64.wrap ((0:Int)-0)=(0:Int):=IntWalk.i64_in _ (by omega);have q:IntKind.i64.wrap ((n:Int)-0)=(n:Int):=by rw[IntWalk.i64_in _ (by omega)];omega
 have p:(0:Int)<(n:Int):=by omega
 generalize t:grownCap w n 0 62=G at *;clear b k a g h f d c t m
 go_enter Tryz.func181,Tryz.ntmps181
 go_wp2_with (at_builtin;refine Lib.wpList_append_run _ rfl _ _ _ _ rfl _ _ rfl rfl _ _ (y.out _) ?_)
 all_goals
  go_ret
  exact⟨_,rfl,((Below.refl _ _).alloc (ak _) _).drew,eB _,.inr ⟨w.heap.size,G,i,_,rfl,ak _,heap_alloc_new w _,aG _,x.out,λ j u s=>by simp at s⟩⟩
end Go.Proofs.YtfepnknpfhiemaaGreatDoor
namespace Go.AmZ
open GxZ
section
open RowKit
def Vh{P:aZ}{c:TC}{f:cI}(o:jL P f)(h:∀i g,c.pf f i=Z g->∀a v,g.fn a=Z v->∀Γ w b,Inv Γ emp w->RepL Γ (eQ g.args a i) b->jB P Γ emp w f b (cy (fR g.res v),U)):cp P f (gg (cN c f)):=by
 refine⟨o,λ Γ I w j b r m l e=>?_⟩;unfold gg at e;split at e<;>try cases e
 split at e<;>cases e;rename_i z d;unfold cN at d;split at d<;>try cases d
 rename_i g n;split at d<;>try cases d
 next a p=>split at d<;>cases d;next v k=>exact h _ g n a v k Γ w b m ((Gm g.args p).rep l)
def qlC{P:aZ}{f:cI}{Γ:Gh}{w:aA}{a:aa aj}{x:aj}(g:Inv Γ emp w)(d:cj x=O)(h:Calls P f a.toArray w λ e w'=>e=.returned x/\Below w.heap.size w w'/\w.drawn<=w'.drawn):jB P Γ emp w f a (.v x,U):=by
 apply Calls.mono h;rintro e w' ⟨rfl,c,b⟩;exact⟨x,Γ,rfl,xa c b,g.later c,.v x d,.refl _⟩
def strings_Compare(m:Nat)(a b:aa aN):ab Int:=Z (Lib.compareBytes a b)
def qd1{m:Nat}{c:TC}(l:∀h,c.pf 152 h=yo h [] (Z ⟨[.val .str,.val .str],[.int .i64],λ x=>strings_Compare m x.1 x.2.1⟩) U):cp Go.Proofs.Tryz.prog 152 (gg (cN c 152)):=by
 refine Vh (jc Go.Proofs.Tryz.func152 (by kernel_rfl)) λ h g b a v j Γ w i k e=>?_;rw[l]at b;obtain⟨rfl,b⟩|b:=UK b
 .cases b;cases j;obtain⟨u1,o,rfl,f,e⟩:=e.uncons;obtain⟨u2,n,rfl,d,e⟩:=e.uncons;have:=e.nil_inv;subst this;have f:=ce f;have d:=ce d;subst f;subst d;apply qlC k rfl;exact(Go.Proofs.Tryz.strings_Compare _ _ w).mono λ _ _ ⟨f,d⟩=>⟨f,by rw[d];exact Below.refl _ _,by rw[d];exact ak _⟩
 .cases b
abbrev On:Ty:=.pair .str (.pair (.int .i64) (.pair (.int .i64) (.int .i64)))
def ZK:aa (Val On):=[([112,97,105,114],2,2,1),([101,110,99],2,2,1),([97,101,110,99],2,2,1),([112,107],1,1,1),([115,105,103,110],2,2,1),([104,97,115,104],1,1,1),([120,111,114],2,8,1),([122,101,114,111],0,0,1),([101,120,112],2,2,1),([109,117,108],2,8,1),([105,110,118],1,1,1),([111,110,101],0,0,1),([115,107],1,1,2),([115,104,107],2,2,2),([110,101,119],1,8,2),([102,115,116],1,1,3),([115,110,100],1,1,3),([100,101,99],2,2,3),([97,100,101,99],2,2,3),([111,112,101,110],2,2,3),([114,101,97,100],1,1,3)]
def KX(m:Nat):ab (aa (aa aN×Int×Int×Int)):=Z ZK
def O4:Cfg:=⟨tyT,λ f=>cond (Nat.beq f 165) (Z Go.Proofs.Tryz.f165) (cond (Nat.beq f 210) (Z Go.Proofs.Tryz.f210) U),λ _=>U,λ _=>Y,λ _=>[],λ _=>O,λ _=>U⟩
def qkA(a:Code):iy a=O:=by
 induction a<;>simp_all [iy]
def Xv:cZ Go.Proofs.Tryz.prog O4:=by
 refine⟨by kernel_rfl,Y0,λ f fn h=>?_,(λ f p h=>by cases h),λ f fn h=>by cases h⟩;have h:cond (Nat.beq f 165) (Z Go.Proofs.Tryz.f165) (cond (Nat.beq f 210) (Z Go.Proofs.Tryz.f210) U)=Z fn:=h;have c:∀d:Code,iy d=O:=qkA;cases b:Nat.beq f 165 with
 |true=>
   rw[b]at h;cases h;rw[cm b];exact⟨Go.Proofs.Tryz.func165,by kernel_rfl,λ _ _=>c _⟩
 |false=>
   rw[b]at h;cases a:Nat.beq f 210 with
   |true=>
     rw[a]at h;cases h;rw[cm a];exact⟨Go.Proofs.Tryz.func210,by kernel_rfl,λ _ _=>c _⟩
   |false=>rw[a]at h;cases h
def qoD:jf O4 (ee O4 300) emp 165 []=Z (cy (fR [.list On] ZK),U):=by kernel_rfl
def qed{m:Nat}{c:TC}(j:∀d,c.pf 165 d=yo d [] (Z ⟨[],[.list On],λ x=>KX m⟩) U):cp Go.Proofs.Tryz.prog 165 (gg (cN c 165)):=by
 refine Vh (jc Go.Proofs.Tryz.func165 (by kernel_rfl)) λ d g b a v f Γ w e i h=>?_;rw[j]at b;obtain⟨rfl,b⟩|b:=UK b
 .cases b;cases f;exact VX Xv (Nv Xv 300) i h qoD
 .cases b
def wj(m:Nat)(l:aa T):ab (Unit×aa T×Unit):=cond (Nat.ble (X l) 100000000) (Z ((),l,())) U
def yY(m:Nat)(n:Int):ab (Unit×aa T×Unit):=cond (inb n 100000000) (Z ((),[],())) U
def wh(m:Nat)(l:aa (T×Int))(i:Int)(v:aa (T×Int)):ab (Unit×aa (T×Int)×Unit):=cond (inb i (X l)&&(Nat.ble (X l) 100000&&Nat.beq (X v) 1)) (Z ((),l.take i.toNat++(v++l.drop i.toNat),())) U
def wi(m:Nat)(l:aa (T×Int))(i j:Int):ab (Unit×aa (T×Int)×Unit):=cond (inb j (X l)&&(inb i (X l)&&(ieq j (aw i 1)&&Nat.ble (X l) 100000))) (Z ((),l.take i.toNat++l.drop (i.toNat+1),())) U
def um{α:Type}{b:Bool}{x:α}{r:α}(h:cond b (Z x) U=Z r):b=O/\x=r:=by
 cases b with
 |true=>exact⟨rfl,jp h⟩
 |false=>cases h
def qc3{m:Nat}:cp Go.Proofs.Tryz.prog 276 (sgP ⟨[.val (.list .term)],[.one (.row .term)],λ x=>wj m x.1⟩):=by
 refine UF (a:=.term) (jc Go.Proofs.Tryz.func276 (by kernel_rfl)) (most:=100000000) Go.Proofs.YtfepnknpfhiemaaGreatDoor.clone_anyTrm (fn:=wj m) λ l r h=>?_;let⟨c,b⟩:=um h;exact⟨gP c,b.symm⟩
def pt(m:Nat)(l:aa (aa aN)):ab (Unit×aa (aa aN)×Unit):=cond (Nat.ble (X l) 100000000) (Z ((),l,())) U
def qdb{m:Nat}:cp Go.Proofs.Tryz.prog 97 (sgP ⟨[.val (.list .str)],[.one (.row .str)],λ x=>pt m x.1⟩):=by
 refine UF (a:=.str) (jc Go.Proofs.Tryz.func97 (by kernel_rfl)) (most:=100000000) Go.Proofs.YtfepnknpfhiemaaGreatDoor.clone_anyStr (fn:=pt m) λ l r h=>?_;let⟨c,b⟩:=um h;exact⟨gP c,b.symm⟩
def wk(m:Nat)(l:aa (aa aN))(i j:Int):ab (Unit×aa (aa aN)×Unit):=cond (inb j (X l)&&(inb i (X l)&&(ieq j (aw i 1)&&Nat.ble (X l) 100000))) (Z ((),l.take i.toNat++l.drop (i.toNat+1),())) U
def qc9{m:Nat}:cp Go.Proofs.Tryz.prog 96 (sgP ⟨[.row .str,.val (.int .i64),.val (.int .i64)],[.one (.row .str)],λ x=>wk m x.1 x.2.1 x.2.2.1⟩):=by
 refine Xa (a:=.str) (jc Go.Proofs.Tryz.func96 (by kernel_rfl)) Go.Proofs.YtfepnknpfhiemaaGreatDoor.delete_oneStr (fn:=wk m) λ l i j r h=>?_;let⟨e,g⟩:=um h;simp only[aJ]at e;let⟨d,c,b,f⟩:=e;have d:=bG d;have c:=bG c;have b:j=i+1:=by simpa[ieq,aw]using b
 refine⟨b,c.1,?_,gP f,g.symm⟩;omega
def wg(m:Nat)(n:Int):ab (Unit×aa (T×T)×Unit):=cond (inb n 100000000) (Z ((),[],())) U
def qcV{m:Nat}:cp Go.Proofs.Tryz.prog 181 (sgP ⟨[.nil,.val (.int .i64)],[.one (.row (.pair .term .term))],λ x=>wg m x.1⟩):=by
 refine VE (a:=.pair .term .term) (jc Go.Proofs.Tryz.func181 (by kernel_rfl)) (most:=100000000) Go.Proofs.YtfepnknpfhiemaaGreatDoor.grow_nilVal (fn:=wg m) λ n r h=>?_;let⟨b,c⟩:=um h;have b:=bG b;exact⟨b.1,b.2,c.symm⟩
def qc5{m:Nat}:cp Go.Proofs.Tryz.prog 153 (sgP ⟨[.nil,.val (.int .i64)],[.one (.row .term)],λ x=>yY m x.1⟩):=by
 refine VE (a:=.term) (jc Go.Proofs.Tryz.func153 (by kernel_rfl)) (most:=100000000) Go.Proofs.YtfepnknpfhiemaaGreatDoor.grow_nilTrm (fn:=yY m) λ n r h=>?_;let⟨b,c⟩:=um h;have b:=bG b;exact⟨b.1,b.2,c.symm⟩
def qrW:Np Go.Proofs.Tryz.prog (.pair .term (.int .i64)) 213 244 64:=⟨by
 have h:(match cz Go.Proofs.Tryz.prog 213 with|some ⟨_,_,_,_,.slice e k b z⟩=>Nat.beq e 244&&(Nat.beq k 5&&(Nat.beq b 64&&Nat.beq (X z) 5))|_=>Y)=O:=by kernel_rfl
 split at h
 .next l j i g e k b z m=>simp only[aJ]at h;let⟨f,d,c,a⟩:=h;have f:=cm f;have d:=cm d;have c:=cm c;have a:=cm a;subst f;subst d;subst c;exact⟨l,j,i,g,z,m,a⟩
 .cases h⟩
def qc1{m:Nat}:cp Go.Proofs.Tryz.prog 285 (sgP ⟨[.row (.pair .term (.int .i64)),.val (.int .i64),.val (.list (.pair .term (.int .i64)))],[.one (.row (.pair .term (.int .i64)))],λ x=>wh m x.1 x.2.1 x.2.2.1⟩):=by
 refine qoB (a:=.pair .term (.int .i64)) (jc Go.Proofs.Tryz.func285 (by kernel_rfl)) qrW (by decide) Go.Proofs.YtfepnknpfhiemaaGreatDoor.insert_endPow Go.Proofs.YtfepnknpfhiemaaGreatDoor.insert_roomPow Go.Proofs.YtfepnknpfhiemaaGreatDoor.insert_growPow (fn:=wh m) λ l i v r h=>?_;let⟨c,g⟩:=um h;simp only[aJ,Nat.beq_eq_true_eq]at c;let⟨b,f,d⟩:=c;have b:=bG b;refine⟨?_,b.1,b.2,gP f,g.symm⟩
 match v,d with
 |[e],_=>exact⟨e,rfl⟩
def qc2{m:Nat}:cp Go.Proofs.Tryz.prog 286 (sgP ⟨[.row (.pair .term (.int .i64)),.val (.int .i64),.val (.int .i64)],[.one (.row (.pair .term (.int .i64)))],λ x=>wi m x.1 x.2.1 x.2.2.1⟩):=by
 refine Xa (a:=.pair .term (.int .i64)) (jc Go.Proofs.Tryz.func286 (by kernel_rfl)) Go.Proofs.YtfepnknpfhiemaaGreatDoor.delete_onePow (fn:=wi m) λ l i j r h=>?_;let⟨e,g⟩:=um h;simp only[aJ]at e;let⟨d,c,b,f⟩:=e;have d:=bG d;have c:=bG c;have b:j=i+1:=by simpa[ieq,aw]using b
 refine⟨b,c.1,?_,gP f,g.symm⟩;omega
end
section
open RowKit
structure FI where
 fn:Func
 args:List ATy
 res:List Ty
 loop:List (Nat×List (Tmp×Co))
 ld:List Nat
 F:Nat->lf args->Option (kz res)
structure SI where
 fn:Func
 args:List SA
 res:List RE
 loop:List (Nat×List (Tmp×Co))
 ld:List Nat
 F:Nat->iP args->Option (eV args×RV res)
inductive En where
 |pure (l:List (List Nat×FI))
 |st (i:SI)
 |sts (l:List (List Nat×SI))
 |hp (g:Sig)
 |hs (g:vp)
 |hx (g:Nat->vp)
 |hm (g:Nat->vG)
 |hk (g:Nat->yu)
 |il (fn:Func)
inductive Tr where
 |leaf
 |node (k:Nat) (l r:Tr) (x:En)
def Tr.get:Tr->Nat->ab En
 |.leaf,_=>U
 |.node k l r x,f=>match Nat.beq f k with
   |O=>Z x
   |Y=>match Nat.blt f k with
     |O=>Tr.get l f
     |Y=>Tr.get r f
def ya(a:aa Nat):aa (aa Nat×FI)->ab FI
 |[]=>U
 |p::r=>match xJ p.1 a with
   |O=>Z p.2
   |Y=>ya a r
def IW(a:aa Nat):aa (aa Nat×SI)->ab SI
 |[]=>U
 |[p]=>Z p.2
 |p::r=>match xJ p.1 a with
   |O=>Z p.2
   |Y=>IW a r
def Vf{c:aa Nat}:∀{l:aa (aa Nat×SI)}{i:SI},IW c l=Z i->∃p∈l,p.2=i
 |[],i,h=>by cases h
 |[p],i,h=>⟨p,cQ.2 rfl,jp h⟩
 |p::q::r,i,h=>by
   simp only[IW]at h;split at h
   .exact⟨p,aX ..,jp h⟩
   .let⟨x,b,a⟩:=Vf h;exact⟨x,aT _ b,a⟩
def ZI(r:Nat):aa (Nat×aa (Tmp×Co))->ab (aa (Tmp×Co))
 |[]=>U
 |p::l=>match Nat.beq p.1 r with
   |O=>Z p.2
   |Y=>ZI r l
structure Tb where
 ty:Nat->Option TD
 el:Nat->Option Ty
 tr:Tr
def Tb.has(b:Tb)(f:Nat):Bool:=match b.tr.get f with
 |Z (.pure _)|Z (.hp _)=>O
 |_=>Y
def Tb.pf(b:Tb)(m f:Nat)(a:aa Nat):ab Sig:=match b.tr.get f with
 |Z (.pure l)=>match ya a l with
   |Z i=>Z ⟨i.args,i.res,i.F m⟩
   |U=>U
 |Z (.hp g)=>yo a [] (Z g) U
 |_=>U
def Tb.sf(b:Tb)(m f:Nat)(a:aa Nat):ab vp:=match b.tr.get f with
 |Z (.st i)=>Z ⟨i.args,i.res,i.F m⟩
 |Z (.sts l)=>match IW a l with
   |Z i=>Z ⟨i.args,i.res,i.F m⟩
   |U=>U
 |Z (.hs g)=>Z g
 |Z (.hx g)=>Z (g m)
 |_=>U
def Tb.mf(b:Tb)(m f:Nat):ab vG:=match b.tr.get f with
 |Z (.hm g)=>Z (g m)
 |_=>U
def Tb.xf(b:Tb)(m f:Nat):ab yu:=match b.tr.get f with
 |Z (.hk g)=>Z (g m)
 |_=>U
def Tb.inl(b:Tb)(f:Nat):ab Func:=match b.tr.get f with
 |Z (.il fn)=>Z fn
 |_=>U
def Tb.tc(b:Tb)(m:Nat)(d:aa (Nat×aa (Tmp×Co)))(a c:Nat)(e:aa Nat):TC:=⟨b.ty,b.el,b.has,b.pf m,b.sf m,λ r=>ZI r d,λ _=>U,a,c,λ f=>ZM f e,b.mf m,b.xf m,b.inl⟩
def Tb.runP(b:Tb)(m:Nat)(i:FI)(k:Nat)(a:aa It)(E:Env)(I:TS):ab (kz i.res):=
 qi (b.tc m i.loop i.fn.ntmps 0 i.ld) (ng (b.tc m i.loop i.fn.ntmps 0 i.ld) i.res (V i.fn.results)) Iw k a E I
def Tb.runS(b:Tb)(m:Nat)(i:SI)(k:Nat)(a:aa It)(E:Env)(I:TS):ab (eV i.args×RV i.res):=
 qi (b.tc m i.loop i.fn.ntmps (BA i.args) i.ld) (yn (b.tc m i.loop i.fn.ntmps (BA i.args) i.ld) i.args i.res (V i.fn.results)) Iw k a E I
def Tb.runP1(b:Tb)(m:Nat)(i:FI)(c:aa Nat)(a:lf i.args):ab (kz i.res):=b.runP m i (m+1) [.code (yg i.fn)] (lX 0 (yG i.args a c)) ⟨[],[]⟩
def Tb.runS1(b:Tb)(m:Nat)(i:SI)(a:iP i.args):ab (eV i.args×RV i.res):=b.runS m i (m+1) [.code (yg i.fn)] (lX 0 (oh i.args 0 0 a)) ⟨sBx i.args 0 a,sRw i.args a⟩
def Tb.PL(b:Tb)(i:FI)(r:Nat)(m k:Nat)(E:Env)(I:TS):ab (kz i.res):=b.runP m i k (stL i.fn r) E I
def Tb.QL(b:Tb)(i:SI)(r:Nat)(m k:Nat)(E:Env)(I:TS):ab (eV i.args×RV i.res):=b.runS m i k (stL i.fn r) E I
def Tb.at(b:Tb)(m:Nat):TC:=b.tc m [] 0 0 []
def qr8{α:Type}{M:Nat->α}{z:α}{s:α->α}(c:z=M 0)(b:∀k,M (k+1)=s (M k))(k:Nat):qby z s k=M k:=by
 induction k with
 |zero=>exact c
 |succ k a=>rw[b,<-a];rfl
def fnB(fn:Func)(n:Nat):Bool:=je fn&&Nat.ble n fn.ntmps
def En.ok:En->Bool
 |.pure l=>l.all λ p=>fnB p.2.fn (X p.2.args)
 |.st i=>fnB i.fn (X i.args)
 |.sts l=>l.all λ p=>fnB p.2.fn (X p.2.args)
 |.il fn=>je fn
 |_=>O
def Tr.ok:Tr->Bool
 |.leaf=>O
 |.node _ l r x=>x.ok&&(l.ok&&r.ok)
def Bf(P:aZ)(b:Tb)(f:Nat)(l:aa (aa Nat×FI)):Prop:=match l with
 |[]=>True
 |p::r=>P.funcs[f]?=Z p.2.fn/\(∀a,p.2.F 0 a=U)/\(∀m a,p.2.F (m+1) a=b.runP1 m p.2 p.1 a)/\Bf P b f r
def En.prog(P:aZ)(b:Tb)(f:Nat):En->Prop
 |.pure l=>Bf P b f l/\l≠[]
 |.st i=>P.funcs[f]?=Z i.fn/\(∀a,i.F 0 a=U)/\∀m a,i.F (m+1) a=b.runS1 m i a
 |.sts l=>∀p∈l,P.funcs[f]?=Z p.2.fn/\(∀a,p.2.F 0 a=U)/\∀m a,p.2.F (m+1) a=b.runS1 m p.2 a
 |.hp g=>∀c:TC,(∀d,c.pf f d=yo d [] (Z g) U)->cp P f (gg (cN c f))
 |.hs g=>cp P f (sgP g)
 |.hx g=>cp P f (sgP (g 0))/\∀m,cZ P (b.at m).pc.cfg->cp P f (sgP (g (m+1)))
 |.hm g=>cp P f (mgP (g 0))/\∀m,cZ P (b.at m).pc.cfg->cp P f (mgP (g (m+1)))
 |.il fn=>P.funcs[f]?=Z fn
 |.hk g=>cp P f (xgP (g 0))/\∀m,cZ P (b.at m).pc.cfg->cp P f (xgP (g (m+1)))
def Tr.prog(P:aZ)(b:Tb):Tr->Prop
 |.leaf=>True
 |.node k l r x=>x.prog P b k/\l.prog P b/\r.prog P b
def Tr.get_spec{P:aZ}{b:Tb}:∀{t:Tr}{f:Nat}{x:En},t.get f=Z x->t.ok=O->t.prog P b->x.ok=O/\x.prog P b f
 |.leaf,f,x,h,_,_=>by cases h
 |.node k l r y,f,x,h,a,⟨i,d,c⟩=>by
   simp only[Tr.ok,aJ]at a;let⟨j,g,e⟩:=a;simp only[Tr.get]at h;split at h
   .grind [Nat.eq_of_beq_eq_true]
   .split at h
    .exact Tr.get_spec h g d
    .exact Tr.get_spec h e c
def Vn{a:aa Nat}:∀{l:aa (aa Nat×FI)}{i:FI},ya a l=Z i->(a,i)∈l
 |[],i,h=>by cases h
 |p::r,i,h=>by
   simp only[ya]at h;split at h
   .grind [L5,List.mem_cons_self]
   .exact aT _ (Vn h)
def Bf.mem{P:aZ}{b:Tb}{f:Nat}:∀{l:aa (aa Nat×FI)}{p:aa Nat×FI},Bf P b f l->p∈l->P.funcs[f]?=Z p.2.fn/\(∀a,p.2.F 0 a=U)/\(∀m a,p.2.F (m+1) a=b.runP1 m p.2 p.1 a)
 |[],p,_,h=>by cases h
 |q::r,p,⟨g,e,d,c⟩,h=>by
   obtain rfl|h:=bi.1 h
   .exact⟨g,e,d⟩
   .exact Bf.mem c h
def Ux{fn:Func}(h:je fn=O):fn.body=Z (yg fn):=by
 grind [je,yg]
def Hl{fn:Func}{n:Nat}(h:fnB fn n=O):je fn=O/\n<=fn.ntmps:=by
 simp_all [fnB]
def qpA{P:aZ}{d:PC}(w:cZ P d.cfg){l:TC}{f:cI}{fn:Func}(t:P.funcs[f]?=Z fn)(m:je fn=O)
  (h:∀n g,l.pf f n=Z g->∃c:TC,{c.pc with pur:=d.pur,ld:=d.ld}=d/\c.nt=fn.ntmps/\c.np=0/\X g.args<=fn.ntmps/\∃N k,∀a,g.fn a=qi c (ng c g.res (V fn.results)) N k [.code (yg fn)] (lX 0 (yG g.args a n)) ⟨[],[]⟩):cp P f (gg (cN l f)):=by
 refine qmz w t m (cN l f) λ ys r b=>?_;unfold cN at b;split at b<;>try cases b
 rename_i g s;split at b<;>try cases b
 next a u=>split at b<;>cases b;next v q=>let⟨c,e,i,j,y,N,k,x⟩:=h _ g s;refine⟨eQ g.args a (fU ys),_,c.pc.pur,c.pc.ld,Gm g.args u,λ z p=>p,?_⟩;rw[<-e];exact qr0 (Ux m) i j (by rw[Gp];exact y) (Hy g.args a (fU ys)) (by rw[<-x a];exact q)
def Tb.has_pf{b:Tb}{m f:Nat}{a:aa Nat}{g:Sig}(h:b.pf m f a=Z g):(∃l i,b.tr.get f=Z (.pure l)/\ya a l=Z i/\g=⟨i.args,i.res,i.F m⟩)\/(∃c,b.tr.get f=Z (.hp c)):=by
 grind [Tb.pf]
theorem Tb.all_ok{P:aZ}{b:Tb}(G:P.follows .mixedOrders=true)(S:∀t d,b.ty t=some d->cz P t=some d)(q:b.tr.ok=true)(o:b.tr.prog P b):∀m,cZ P (b.at m).pc.cfg:=by
 have y:∀{c:TC}{g:Sig}{f m:Nat},c.pf=b.pf m->b.tr.get f=some (.hp g)->cp P f (gg (cN c f)):=by
  intro c g f m W j;refine(Tr.get_spec j q o).2 c λ k=>?_;rw[W];unfold Tb.pf;rw[j]
 have x:∀{m:Nat}{f:Nat},(b.at m).has f=true->(∃l,b.tr.get f=some (.pure l))\/∃g,b.tr.get f=some (.hp g):=by
  intro m f h;have h:b.has f=true:=h;unfold Tb.has at h;split at h
  .exact .inl ⟨_,‹_›⟩
  .exact .inr ⟨_,‹_›⟩
  .cases h
 have B:∀{m:Nat}{f:Nat}{k:List Nat}{g:vp},(b.at m).sf f k=some g->(∃i:SI,(fnB i.fn i.args.length=true/\P.funcs[f]?=some i.fn/\(∀a,i.F 0 a=none)/\∀m a,i.F (m+1) a=b.runS1 m i a)/\g=⟨i.args,i.res,i.F m⟩)\/b.tr.get f=some (.hs g)\/∃h,b.tr.get f=some (.hx h)/\g=h m:=by
  intro m f k g h;have h:b.sf m f k=some g:=h;unfold Tb.sf at h;split at h
  .cases h;obtain⟨u,s⟩:=Tr.get_spec (by assumption) q o;exact .inl ⟨_,⟨u,s⟩,rfl⟩
  .rename_i l v;split at h<;>cases h;rename_i i H;obtain⟨u,s⟩:=Tr.get_spec v q o;obtain⟨p,n,rfl⟩:=Vf H;exact .inl ⟨_,⟨bz.1 (show l.all _=true from u) p n,s p n⟩,rfl⟩
  .cases h;exact .inr (.inl ‹_›)
  .cases h;exact .inr (.inr ⟨_,‹_›,rfl⟩)
  .cases h
 have C:∀{m:Nat}{f:Nat}{g:vG},(b.at m).mf f=some g->∃h,b.tr.get f=some (.hm h)/\g=h m:=by
  intro m f g h;have h:b.mf m f=some g:=h;unfold Tb.mf at h;split at h
  .cases h;exact⟨_,‹_›,rfl⟩
  .cases h
 have A:∀{m:Nat}{f:Nat}{g:yu},(b.at m).xf f=some g->∃h,b.tr.get f=some (.hk h)/\g=h m:=by
  intro m f g h;have h:b.xf m f=some g:=h;unfold Tb.xf at h;split at h
  .cases h;exact⟨_,‹_›,rfl⟩
  .cases h
 have D:∀{m f:Nat}{fn:Func},(b.at m).inl f=some fn->P.funcs[f]?=some fn/\je fn=true:=by
  intro m f fn h;have h:b.inl f=some fn:=h;unfold Tb.inl at h;split at h<;>cases h;have:=Tr.get_spec (by assumption) q o;exact⟨this.2,this.1⟩
 have w:∀{f:Nat}{l:List (List Nat×FI)},b.tr.get f=some (.pure l)->∃fn,P.funcs[f]?=some fn/\je fn=true/\∀k i,ya k l=some i->i.fn=fn/\i.args.length<=fn.ntmps/\(∀a,i.F 0 a=none)/\∀m a,i.F (m+1) a=b.runP1 m i k a:=by
  intro f l v;obtain⟨u,s⟩:=Tr.get_spec v q o;obtain⟨s,z⟩:=s;have u:=bz.1 (show l.all _=true from u);cases l with
  |nil=>exact absurd rfl z
  |cons p r=>
    refine⟨p.2.fn,(s.mem (aX ..)).1,(Hl (u p (aX ..))).1,λ k i H=>?_⟩;have G:=Vn H;obtain⟨e1,e4,e5⟩:=s.mem G;have e2:=(s.mem (aX ..)).1;rw[e2]at e1;have T:p.2.fn=i.fn:=jp e1;refine⟨T.symm,?_,e4,e5⟩;rw[T];exact(Hl (u _ G)).2
 intro m
 induction m with
 |zero=>
   refine Zg G S (λ f I=>?_) (λ f k g j=>?_) (λ f g j=>?_) (λ f g j=>?_) λ f fn h=>D h
   .rcases x I with⟨l,v⟩|⟨g,j⟩
    .obtain⟨fn,R,Q,N⟩:=w v;refine qnb (jc R Q) λ k g a h=>?_;have h:b.pf 0 f k=some g:=h;rcases Tb.has_pf h with⟨l',i,n,M,rfl⟩|⟨g',n⟩
     .rw[v]at n;cases n;exact(N k i M).2.2.1 a
     .rw[v]at n;cases n
    .exact y rfl j
   .rcases B j with⟨i,⟨u,s,z,_⟩,rfl⟩|e
    .exact T6 (jc s (Hl u).1) z
    .rcases e with e|⟨h,e,rfl⟩
     .exact(Tr.get_spec e q o).2
     .exact(Tr.get_spec e q o).2.1
   .obtain⟨h,e,rfl⟩:=C j;exact(Tr.get_spec e q o).2.1
   .obtain⟨h,e,rfl⟩:=A j;exact(Tr.get_spec e q o).2.1
 |succ m E=>
   refine Zg G S (λ f I=>?_) (λ f k g j=>?_) (λ f g j=>?_) (λ f g j=>?_) λ f fn h=>D h
   .rcases x I with⟨l,v⟩|⟨g,j⟩
    .obtain⟨fn,R,Q,N⟩:=w v;refine qpA E R Q λ k g h=>?_;have h:b.pf (m+1) f k=some g:=h;rcases Tb.has_pf h with⟨l',i,n,M,rfl⟩|⟨g',n⟩
     .rw[v]at n;cases n;obtain⟨rfl,L,_,K⟩:=N k i M;exact⟨b.tc m i.loop i.fn.ntmps 0 i.ld,rfl,rfl,rfl,L,Iw,m+1,λ a=>K m a⟩
     .rw[v]at n;cases n
    .exact y rfl j
   .rcases B j with⟨i,⟨u,s,_,K⟩,rfl⟩|e
    .obtain⟨z,L⟩:=Hl u;exact qn5 (c:=b.tc m i.loop i.fn.ntmps (BA i.args) i.ld) (E.pur _ _) s z (Ux z) rfl _ rfl L ⟨Iw,m+1,λ a=>K m a⟩
    .rcases e with e|⟨h,e,rfl⟩
     .exact(Tr.get_spec e q o).2
     .exact(Tr.get_spec e q o).2.2 m E
   .obtain⟨h,e,rfl⟩:=C j;exact(Tr.get_spec e q o).2.2 m E
   .obtain⟨h,e,rfl⟩:=A j;exact(Tr.get_spec e q o).2.2 m E
def okP(b:Tb)(c:aa Nat)(i:FI):Prop:=∀m a,i.F (m+1) a=b.runP1 m i c a
def okS(b:Tb)(i:SI):Prop:=∀m a,i.F (m+1) a=b.runS1 m i a
def nP{P:aZ}{b:Tb}{k:Nat}{c:aa Nat}{i:FI}{l r:Tr}(h:P.funcs[k]?=Z i.fn)(g:okP b c i)(e:l.prog P b)(d:r.prog P b)(f:∀a,i.F 0 a=U:=by exact λ _=>rfl):(Tr.node k l r (.pure [(c,i)])).prog P b:=⟨⟨⟨h,f,g,trivial⟩,QK _ _⟩,e,d⟩
def nS{P:aZ}{b:Tb}{k:Nat}{i:SI}{l r:Tr}(h:P.funcs[k]?=Z i.fn)(g:okS b i)(d:l.prog P b)(c:r.prog P b)(e:∀a,i.F 0 a=U:=by exact λ _=>rfl):(Tr.node k l r (.st i)).prog P b:=⟨⟨h,e,g⟩,d,c⟩
abbrev eP(i:FI):En:=.pure [([],i)]
abbrev eS(i:SI):En:=.st i
abbrev tL(k:Nat)(x:En):Tr:=.node k .leaf .leaf x
abbrev vI:=TV.i .i64
abbrev vT(l:aa T):=TV.sl .term l 1
section
variable {A B C D E F R:Type}
abbrev u0(f:Nat->R):Nat->Unit->R:=λ m _=>f m
abbrev u1(f:Nat->A->R):Nat->A×Unit->R:=λ m x=>f m x.1
abbrev u2(f:Nat->A->B->R):Nat->A×B×Unit->R:=λ m x=>f m x.1 x.2.1
abbrev u3(f:Nat->A->B->C->R):Nat->A×B×C×Unit->R:=λ m x=>f m x.1 x.2.1 x.2.2.1
abbrev u4(f:Nat->A->B->C->D->R):Nat->A×B×C×D×Unit->R:=λ m x=>f m x.1 x.2.1 x.2.2.1 x.2.2.2.1
abbrev u5(f:Nat->A->B->C->D->E->R):Nat->A×B×C×D×E×Unit->R:=λ m x=>f m x.1 x.2.1 x.2.2.1 x.2.2.2.1 x.2.2.2.2.1
end
def Tb.prim{P:aZ}{b:Tb}(h:∀m,cZ P (b.at m).pc.cfg)(m:Nat){f:Nat}(a:b.has f=O):cp P f (gg (cN (b.at m) f)):=by
 apply (h m).prim f _;show PC.prim _ f=_;unfold PC.prim
 have:(b.at m).pc.pf f=Z (cN (b.at m) f):=by
  show(match(b.at m).has f with|O=>Z (cN (b.at m) f)|Y=>U)=_;rw[show(b.at m).has f=O from a]
 rw[this]
end
section
open RowKit Go.Sort Proofs Shelf
def bare(Γ:Gh):Gh:={Γ with nb:=0,nr:=0}
def Rep.bare{Γ:Gh}{x:AV}{u:aj}(h:Rep Γ x u)(m:br x=O):Rep (bare Γ) x u:=by
 induction h with
 |v x h=>exact .v x h
 |sl k z f a n cap b o us p t s r c y w q A l=>exact .sl k z f a n cap b o us p t s r c y w q (λ i e j x g d=>l i e j x g d (c e (aK g) x (aK d)))
 |_=>simp[br]at m
def Inv.bare{Γ:Gh}{I:St}{w w':aA}(h:Inv Γ I w)(d:∀b o u,Γ.mem b o=Z u->w'.cell? ⟨b,o,U⟩=Z u):Inv (bare Γ) emp w' where
 nb:=rfl
 nr:=rfl
 mem:=λ b o u e=>⟨d b o u e,(h.mem b o u e).2⟩
 box:=λ i cs e=>by cases e
 inj:=λ i j a=>absurd a (eY _)
 boxmem:=λ i a=>absurd a (eY _)
 row:=λ r R e=>by cases e
 apart:=λ r f c=>absurd c (eY _)
structure PX (w w':aA):Prop where
 os:w'.os=w.os
 tape:w'.tape=w.tape
 output:w'.output=w.output
 size:w.heap.size<=w'.heap.size
 block:∀b,b<w.heap.size->w'.heap[b]?=w.heap[b]?
 drawn:w.drawn<=w'.drawn
def UP:∀(τ:Ty) (v:Val τ),gf τ (cx τ v)=Z v:=by
 intro τ v;have h:=jA τ v;cases τ<;>exact h
def Te:∀(ts:aa Ty) (a:lf (ts.map ATy.val)),oH (ts.map ATy.val) (eQ (ts.map ATy.val) a [])=Z a/\fU (eQ (ts.map ATy.val) a [])=[]
 |[],_=>⟨rfl,rfl⟩
 |τ::r,a=>by
   let⟨d,c⟩:=Te r a.2;constructor
   .show oZ (gf τ) (oH (r.map ATy.val)) (cx τ a.1::eQ (r.map ATy.val) a.2 [])=_;simp only[oZ,UP,d];rfl
   .show fU (cx τ a.1::eQ (r.map ATy.val) a.2 [])=[];have:=(zN (UP τ a.1)).2;cases b:cx τ a.1<;>first|exact c|exact absurd b (this _ _)
def Fn2(P:aZ)(g:cI)(τ:Ty){a:Type}(b:a->aj)(F:Val τ->Val τ->ab a):Prop:=
 jL P g/\∀{Γ:Gh}{w:aA}{x y:Val τ}{u v:aj}{c:a},Inv Γ emp w->Rep Γ (cx τ x) u->Rep Γ (cx τ y) v->F x y=Z c->Calls P g #[u,v] w λ e w'=>e=.returned (b c)/\PX w w'
def NY{P:aZ}{g:cI}{c:TC}{τ ρ:Ty}(p:cp P g (gg (cN c g))){F:Val τ->Val τ->ab (kz [ρ])}(A:c.pf g []=Z ⟨[.val τ,.val τ],[ρ],λ x=>F x.1 x.2.1⟩){a:kz [ρ]->aj}(B:∀v,cy (fR [ρ] v)=.v (a v)):Fn2 P g τ a F:=by
 refine⟨p.1,λ{Γ w x y u v q} n d s C=>?_⟩;let⟨G,E⟩:=Te [τ,τ] (x,y,())
 have z:cN c g [cx τ x,cx τ y]=Z (.v (a q)):=by
  show cN c g (eQ ([τ,τ].map ATy.val) (x,y,()) [])=_;unfold cN;rw[E,A];simp only;have o:oH [ATy.val τ,ATy.val τ] (eQ ([τ,τ].map ATy.val) (x,y,()) [])=Z (x,y,()):=G;rw[o];simp only;rw[C];simp only;rw[B]
 have k:gg (cN c g) emp [cx τ x,cx τ y]=Z (.v (a q),U):=by
  show(match cN c g [cx τ x,cx τ y]with|Z v=>Z (v,U)|U=>U)=_;rw[z]
 have:=p.2 Γ emp w _ [u,v] _ n (vZ d (vZ s RepL.nil)) k;apply Calls.mono this;rintro e w' ⟨H,Γ',rfl,d,_,j,_⟩;have t:=ce j;subst t;refine⟨rfl,d.os,d.tape,d.output,d.size,λ b D=>d.block b D ?_,d.drawn⟩;have m:Γ.nb=0:=n.nb;have l:Γ.nr=0:=n.nr;rintro(⟨i,h,_⟩|⟨r,f,_⟩)
 .rw[m]at h;exact absurd h (eY _)
 .rw[l]at f;exact absurd f (eY _)
def NL{P:aZ}{b:Tb}{m:Nat}(h:cZ P (b.at m).pc.cfg){f:Nat}(a:b.has f=O):cp P f (gg (cN (b.at m) f)):=by
 apply h.prim f _;show PC.prim _ f=_;unfold PC.prim
 have:(b.at m).pc.pf f=Z (cN (b.at m) f):=by
  show(match(b.at m).has f with|O=>Z (cN (b.at m) f)|Y=>U)=_;rw[show(b.at m).has f=O from a]
 rw[this]
def da{α:Type}(F:α->α->ab Int)(l:aa α)(i j:Nat):Int:=match l[i%X l]?,l[j%X l]? with
 |Z x,Z y=>(F x y).getD 0
 |_,_=>0
def ko{α a:Type}(F:α->α->ab a)(l:aa α):Bool:=l.all λ x=>l.all λ y=>(F x y).isSome
def rU(n:Nat)(lt:Nat->Nat->Bool):Bool:=(List.range n).all λ i => !lt i i&&(List.range n).all λ j=>(List.range n).all λ k=>(!(lt i j&&lt j k)||lt i k)&&(lt i j||(lt j k || !lt i k))
def eF{α:Type}(F:α->α->ab Int)(l:aa α):aa Nat:=V (Sort.pdq (ltOf (da F l)) (Array.range (X l)) 0 (X l) (Lib.bitLen (X l)) O O)
def pick{α:Type}(l:aa α)(a:aa Nat):aa α:=a.filterMap λ i=>l[i]?
def oT{α:Type}(F:α->α->ab Int):aa α->ab (aa α)
 |[]=>Z []
 |x::l=>cond (Nat.ble (X (x::l)) 100000&&(ko F (x::l)&&rU (X (x::l)) (ltOf (da F (x::l))))) (Z (pick (x::l) (eF F (x::l)))) U
def qoU{α:Type}(F:α->α->ab Int)(l:aa α)(i j:Nat):da F l i j=da F l (i%X l) (j%X l):=by
 unfold da;rw[Nat.mod_mod,Nat.mod_mod]
def qrE{n:Nat}{lt:Nat->Nat->Bool}(l:0<n)(e:∀i j,lt i j=lt (i%n) (j%n))(h:rU n lt=O):SWO lt:=by
 have b:∀i j k,lt i i=Y/\(lt i j=O->lt j k=O->lt i k=O)/\(lt i j=Y->lt j k=Y->lt i k=Y):=by
  intro i j k;have a:∀i,i%n∈List.range n:=λ i=>jS.2 (si _ l);have d:=bz.1 h _ (a i);rw[aJ]at d;have c:=bz.1 (bz.1 d.2 _ (a j)) _ (a k);rw[aJ]at c;rw[e i i,e i j,e j k,e i k];let⟨d,_⟩:=d;let⟨c,g⟩:=c;refine⟨by simpa using d,λ e1 f=>?_,λ e1 f=>?_⟩
  .rw[e1,f]at c;simpa using c
  .rw[e1,f]at g;simpa using g
 exact⟨λ i=>(b i i i).1,λ i j k=>(b i j k).2.1,λ i j k=>(b i j k).2.2⟩
def Mt{α:Type}{l:aa α}:∀{a:aa Nat},(∀i∈a,i<X l)->∀(q:Nat),(pick l a)[q]?=(a[q]?).bind λ i=>l[i]?
 |[],_,q=>by simp[pick]
 |i::a,h,q=>by
   have b:=h i (aX ..)
   have e:pick l (i::a)=l[i]::pick l a:=by
    unfold pick;rw[qF,aS b]
   rw[e];cases q with
   |zero=>simp[aS b]
   |succ q=>simpa using Mt (λ j c=>h j (aT _ c)) q
def WK{α:Type}{l:aa α}{a:aa Nat}(h:∀i∈a,i<X l):X (pick l a)=X a:=by
 induction a with
 |nil=>rfl
 |cons i a b=>
   have d:=h i (aX ..)
   have e:pick l (i::a)=l[i]::pick l a:=by
    unfold pick;rw[qF,aS d]
   rw[e,bE,bE,b λ j c=>h j (aT _ c)]
theorem Lw{α : Type}(F : α -> α -> Option Int)(l:List α)(h:SWO (ltOf (da F l))):(eF F l).Perm (List.range l.length)/\SortedIn (ltOf (da F l)) 0 l.length (eF F l).toArray:=by
 have hp:=pdq_sorts (ltOf (da F l)) h (Array.range l.length) 0 l.length (Lib.bitLen l.length) true true (aG _) (by simp) (Or.inl rfl);obtain⟨⟨h1,_,h3⟩,h4⟩:=hp;have hsz:(Array.range l.length).size=l.length:=QM;have hs':(Sort.pdq (ltOf (da F l)) (Array.range l.length) 0 l.length (Lib.bitLen l.length) true true).size=l.length:=h1.trans hsz;have e2:∀ a:Array Nat,a.size=l.length->a.extract 0 l.length=a := λ a ha=>by rw[<- ha];exact Array.extract_size
 rw[e2 _ hs',e2 _ hsz]at h3;refine⟨?_,h4⟩;rw[Array.toList_range]at h3;exact h3
def Yg{I:St}{g:Nat}{r:aa SA}{nb c:Nat}{ys:aa AV}{a:iP (.clo g 0::r)}(h:dS I (.clo g 0::r) nb c ys=Z a):∃b,ys=.fn g []::b/\dS I r nb c b=Z a:=by
 cases ys with
 |nil=>simp[dS]at h
 |cons y ys=>
   simp only[dS]at h;split at h
   .next cs d=>obtain⟨rfl,e⟩:=XY d;obtain rfl:=cR e;exact⟨ys,rfl,h⟩
   .cases h
end
end Go.AmZ
