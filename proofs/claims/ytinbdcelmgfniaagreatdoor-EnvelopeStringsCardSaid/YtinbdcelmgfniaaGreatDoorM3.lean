/- Part 3 of what the proofs stand on: plain functions of the program, and that they are its functions. -/
import Derived.Test.YtinbdcelmgfniaaGreatDoorM2
import Derived.KernelRfl
import Derived.Test.YtinbdcelmgfniaaGreatDoorProg
import Derived.Test.YtinbdcelmgfniaaGreatDoorM1
import Derived.Shelf.Small.Strs
import Derived.Laws.OwnMore
import Derived.OneCell
import Derived.Deep.DeepAppendRoom
import Derived.Deep.Onto
import Derived.ArgAppend
import Derived.Deep.RegionLaw
import Derived.Laws.CopyOwn
import Derived.Lib.AppendZerosOnto
import Derived.Lib.AppendZeros
import Derived.Lib.Overlaps
import Derived.Laws.Externs
import Derived.Deep.DeepCutAuto
import Derived.Handy
import Derived.IntWalk
import Derived.Shelf.LaysM
import Derived.Shelf.Strconv.Itoa3
import Derived.Lib.AppendIntMem
import Derived.Shelf.SlSortCmp.NoneTotal
set_option linter.unusedVariables false
set_option linter.unusedSimpArgs false
set_option linter.defProp false
noncomputable section
open Option renaming some->Z,none->U
open Bool renaming true->O,false->Y
open Decidable renaming decide->J
open List renaming length->I
open Array renaming toList->V
open Go renaming Value->ah,World->ao,TypeId->aO,Program->aX,Operand->bw,FuncId->dm
namespace Go.AmZ
open GxZ
section
open RowKit
def jM:aa AV->aa Nat
 |[]=>[]
 |.fn f _::l=>f::jM l
 |_::l=>jM l
def dFn{a:Type}(q:aa AV->ac a):aa AV->ac a
 |.fn _ []::xs=>q xs
 |_=>U
def pb:(ts:aa ATy)->aa AV->ac (lu ts)
 |[]=>Yn
 |.val τ::r=>pD (gu τ) (pb r)
 |.fn::r=>dFn (pb r)
def gc:(ts:aa Ty)->kE ts->aa AV
 |[],_=>[]
 |[a],v=>[cG a v]
 |a::b::r,v=>cG a v.1::gc (b::r) v.2
def cT(c:TC)(f:Nat)(ys:aa AV):ac AV:=match c.pf f (jM ys)with
 |Z g=>match pb g.args ys with
   |Z a=>match g.fn a with
     |Z v=>Z (cN (gc g.res v))
     |U=>U
   |U=>U
 |U=>U
def ow(σ:St)(τ:Ty)(a:Nat):AV->ac (aa (Val τ)×Nat)
 |.rs j lo n b f=>match σ.rw[a]? with
   |Z R=>match J (j=a/\lo=0/\f=Y/\R.k=τ.size/\R.ver=b/\n=I R.c/\R.fz=0/\R.off=Y)with
     |O=>match ci (bq τ) R.c with
       |Z l=>Z (l,a+1)
       |U=>U
     |Y=>U
   |U=>U
 |y=>match dlist τ y,J (2<=lvl y)with
   |Z [],O=>Z ([],a)
   |_,_=>U
def kF(σ:St):(l:aa RA)->Nat->aa AV->ac (CV l×Nat)
 |[],a,[]=>Z ((),a)
 |[],_,_::_=>U
 |.val τ::r,a,ds=>match bq τ (ds.take τ.size)with
   |Z v=>match kF σ r a (ds.drop τ.size)with
     |Z (vs,n)=>Z ((v,vs),n)
     |U=>U
   |U=>U
 |.row τ::r,a,d::ds=>match ow σ τ a d with
   |Z (l,b)=>match kF σ r b ds with
     |Z (vs,n)=>Z ((l,vs),n)
     |U=>U
   |U=>U
 |.row _::_,_,[]=>U
def bxA(l:aa RA)(b:Nat):AV:=match ve l with
 |O=>.mp b
 |Y=>.ptr b 0
def AX(l:aa RA)(y:AV):ac Nat:=match ve l,y with
 |O,.mp b|Y,.ptr b 0=>Z b
 |_,_=>U
theorem Uf{l y b}(h:AX l y=Z b):y=bxA l b:=by
 unfold AX at h;unfold bxA;split at h<;>cases h<;>(rename_i a;rw[a])
theorem qld(l b):AX l (bxA l b)=Z b:=by
 unfold AX bxA;cases ve l<;>rfl
theorem qon(l b):rb (bxA l b)=[b]/\rr (bxA l b)=[]/\∀fb fr,ren fb fr (bxA l b)=bxA l (fb b):=by
 unfold bxA;cases ve l<;>exact⟨rfl,rfl,λ _ _=>rfl⟩
theorem qkF{m l x y b}(h:Ny l x=Z b)(a:OK m x y):b<m.nb/\y=bxA l (m.b b):=by
 unfold Ny at h;unfold bxA;split at h<;>cases h<;>(rename_i c;rw[c];exact a)
theorem qn2{m l b}(h:b<m.nb):OK m (bxT l b) (bxA l (m.b b)):=by
 unfold bxT bxA;cases ve l<;>exact⟨h,rfl⟩
def sc(σ:St)(l:aa RA)(nb a:Nat)(y:AV):ac (CV l×Nat):=match AX l y with
 |Z j=>match Nat.beq j nb,σ.bx[nb]? with
   |O,Z ds=>kF σ l a ds
   |_,_=>U
 |U=>U
def MI:AV->Bool
 |.v (.slice U 0 0)=>O
 |_=>Y
theorem T2{y}(h:MI y=O):y=.v (.slice U 0 0):=by
 unfold MI at h;split at h
 .rfl
 .cases h
def Bg(g k:Nat):AV->ac (aa AV)
 |.fn a cs=>match Nat.beq g a&&Nat.beq (I cs) k with
   |O=>Z cs
   |Y=>U
 |_=>U
theorem Xl{g k y cs}(h:Bg g k y=Z cs):y=.fn g cs/\I cs=k:=by
 unfold Bg at h;split at h<;>try cases h
 split at h<;>cases h;next a=>rw[aK]at a;rw[cg a.1];exact⟨rfl,cg a.2⟩
def dS(σ:St):(sas:aa SA)->Nat->Nat->aa AV->ac (iI sas)
 |[],nb,a,[]=>match J (nb=I σ.bx/\a=I σ.rw)with
   |O=>Z ()
   |Y=>U
 |.val τ::r,nb,a,y::ys=>match gu τ y with
   |Z v=>match dS σ r nb a ys with
     |Z vs=>Z (v,vs)
     |U=>U
   |U=>U
 |.row τ::r,nb,a,y::ys=>match ow σ τ a y with
   |Z (l,b)=>match dS σ r nb b ys with
     |Z vs=>Z (l,vs)
     |U=>U
   |U=>U
 |.box l::r,nb,a,y::ys=>match sc σ l nb a y with
   |Z (v,b)=>match dS σ r (nb+1) b ys with
     |Z vs=>Z (toB l v,vs)
     |U=>U
   |U=>U
 |.nil::r,nb,a,y::ys=>match MI y with
   |O=>dS σ r nb a ys
   |Y=>U
 |.clo g k::r,nb,a,y::ys=>match Bg g k y with
   |Z cs=>dS σ r nb a (cs++ys)
   |U=>U
 |_,_,_,_=>U
def kh:(l:aa RA)->Nat->CV l->aa AV
 |[],_,_=>[]
 |.val τ::r,L,v=>aq τ v.1++kh r L v.2
 |.row _::r,L,v=>.rs L 0 (I v.1) 0 Y::kh r (L+1) v.2
def nf:(l:aa RA)->CV l->aa Row
 |[],_=>[]
 |.val _::r,v=>nf r v.2
 |.row τ::r,v=>⟨τ.size,v.1.map (aq τ),0,0,Y⟩::nf r v.2
def eM:(sas:aa SA)->Nat->fl sas->aa (aa AV)
 |[],_,_=>[]
 |.box l::r,L,o=>kh l L (toC l o.1)::eM r (L+nR l) o.2
 |.nil::r,L,o|.val _::r,L,o|.row _::r,L,o|.clo _ _::r,L,o=>eM r L o
def fM:(sas:aa SA)->fl sas->aa Row
 |[],_=>[]
 |.box l::r,o=>nf l (toC l o.1)++fM r o.2
 |.nil::r,o|.val _::r,o|.row _::r,o|.clo _ _::r,o=>fM r o
def fC:(a:aa RE)->Nat->RV a->aa AV
 |[],_,_=>[]
 |.one (.val τ)::r,L,v=>cG τ v.1::fC r L v.2
 |.one (.row _)::r,L,v=>.rs L 0 (I v.1) 0 Y::fC r (L+1) v.2
 |.agg l::r,L,v=>.agg (kh l L v.1)::fC r (L+nR l) v.2
def eN:(a:aa RE)->RV a->aa Row
 |[],_=>[]
 |.one (.val _)::r,v=>eN r v.2
 |.one (.row τ)::r,v=>⟨τ.size,v.1.map (aq τ),0,0,Y⟩::eN r v.2
 |.agg l::r,v=>nf l v.1++eN r v.2
def iF:(a:aa RE)->Nat->RV a->aa (aa AV)
 |[],_,_=>[]
 |.one (.val _)::r,L,v=>iF r L v.2
 |.one (.row _)::r,L,v=>iF r (L+1) v.2
 |.agg l::r,L,v=>iF r (L+nR l) v.2
def yf(rws:aa cm):(b:aa RE)->Nat->Nat->RV b->Prop
 |[],_,_,_=>True
 |.one a::r,nb,d,v=>yf rws r nb (d+nRA a) v.2
 |.agg l::r,nb,d,v=>yf rws r nb (d+nR l) v.2
theorem JU{rws}:∀c nb d v {f} {k} {x:f},I rws<=d->vc rws c nb d v k=Z x->
  ∃b e,k b e=Z x/\yf rws b nb d e/\∀{o} (g:(b:aa RE)->RV b->ac o),vc rws c nb d v g=g b e
 |[],nb,d,v,f,k,x,n,h=>⟨[],(),h,trivial,λ _=>rfl⟩
 |.one a::c,nb,d,v,f,k,x,n,h=>by
   let⟨b,e,m,j,i⟩:=JU c nb (d+nRA a) v.2 (by omega) h;exact⟨_,_,m,j,λ g=>i _⟩
 |.agg l::c,nb,d,v,f,k,x,n,h=>by
   let⟨b,e,m,j,i⟩:=JU c nb (d+nR l) v.2 (by omega) h;exact⟨_,_,m,j,λ g=>i _⟩
theorem qoY: ∀l v,toB l (toC l v)=v
 |[],_|[_],_|_::_::_,_=>rfl
theorem Aj: ∀l v,toC l (toB l v)=v
 |[],_|[_],(_,())|_::_::_,_=>rfl
theorem oT: ∀l v,I (nf l v)=nR l
 |[],_=>rfl
 |.val _::r,v=>oT r v.2
 |.row _::r,v=>aY (· + 1) (oT r v.2)
theorem mT: ∀l v,I (lr l v)=nR l
 |[],_=>rfl
 |.val _::r,v=>mT r v.2
 |.row _::r,v=>aY (· + 1) (mT r v.2)
theorem pZ: ∀sas o,I (fM sas o)=nrB sas
 |[],_=>rfl
 |.nil::r,o|.val _::r,o|.row _::r,o|.clo _ _::r,o=>pZ r o
 |.box l::r,o=>by rw[fM,aU,oT,pZ r o.2];rfl
theorem og: ∀sas o,I (iM sas o)=nrB sas
 |[],_=>rfl
 |.nil::r,o|.val _::r,o|.row _::r,o|.clo _ _::r,o=>og r o
 |.box l::r,o=>by rw[iM,aU,mT,og r o.2];rfl
def sgP(g:sZ)(σ:St)(ys:aa AV):ac (AV×ac St):=match dS σ g.args 0 0 ys with
 |Z a=>match g.fn a with
   |Z v=>vc (iM g.args v.1) g.res (nBx g.args) (nrB g.args) v.2 λ b c=>Z (cN (fC b (I σ.rw+nrB g.args) c),Z ⟨eM g.args (I σ.rw) v.1++iF b (I σ.rw+nrB g.args) c,σ.rw.map fP++(fM g.args v.1++eN b c),List.range (I σ.bx),List.range (I σ.rw)⟩)
   |U=>U
 |U=>U
def mgP(g:vS)(σ:St)(ys:aa AV):ac (AV×ac St):=match dS σ (.row g.τ::g.args) 0 0 ys with
 |Z a=>match g.fn a with
   |Z v=>match Nat.beq (I v) (I a.1) with
     |O=>match σ.bx,σ.rw with
       |[],[R]=>Z (.tup [],Z ⟨[],[⟨R.k,v.map (aq g.τ),R.ver,R.fz,R.off⟩],[],[0]⟩)
       |[],[]=>Z (.tup [],U)
       |_,_=>U
     |Y=>U
   |U=>U
 |U=>U
def xgP(g:yi)(σ:St)(ys:aa AV):ac (AV×ac St):=match dS σ g.args 0 0 ys with
 |Z a=>match g.fn a with
   |Z v=>Z (.v (.int .i64 v),U)
   |U=>U
 |U=>U
def TC.spf(c:TC)(f:Nat):ac (St->aa AV->ac (AV×ac St)):=match c.mf f with
 |Z g=>Z (mgP g)
 |U=>match c.xf f with
   |Z g=>Z (xgP g)
   |U=>match c.sf f with
     |Z g=>Z (sgP g)
     |U=>U
def TC.pc(c:TC):PC:=⟨c.ty,λ f=>match c.has f with
 |O=>Z (cT c f)
 |Y=>U,c.spf,c.pur,c.ld,c.inl⟩
theorem TC.raw_eq(c:TC):c.pc.cfg.raw=c.rawT:=by
 show c.pc.raw=c.rawT;funext f;unfold PC.raw TC.rawT;have e1:c.pc.pf f=match c.has f with|true=>Z (cT c f)|false=>U:=rfl
 have a:c.pc.sp f=c.spf f:=rfl;rw[e1,a];unfold TC.spf;cases c.has f with
 |true=>rfl
 |false=>
   cases c.mf f with
   |some g=>rfl
   |none=>
     cases c.xf f with
     |some g=>rfl
     |none=>
       cases c.sf f with
       |none|some g=>rfl
theorem TC.lo_eq(c:TC):c.pc.cfg.lo=c.loT:=by
 show(λ f=>c.pc.raw f||(c.ld f||(c.inl f).isSome))=c.loT;funext f;have h:c.pc.raw f=c.rawT f:=tj c.raw_eq f;rw[h];rfl
section
variable {α:Type}{N:Nat×Nat}{m:Mp}{E:Env}{τ:TS}{tm:aa AV}{σ:St}{K:KT α}{r:α}{p:ac (AV×ac St)}{c:TC}{C:Cfg}
theorem pX: ∀{cs},(∀x∈cs,br x=O)->rbL cs=[]/\rrL cs=[]
 |[],_=>⟨rfl,rfl⟩
 |x::cs,h=>by
   let⟨d,c⟩:=pX λ y a=>h y (aS _ a);have b:=h x (aW ..);rw[rbL,rrL,d,c];cases x<;>first|exact⟨rfl,rfl⟩|(simp[br]at b)
theorem yV{a y v}(h:gu a y=Z v):dO y=O/\∀ f cs,y ≠ .fn f cs:=by
 unfold gu at h;split at h
 case h_2=>cases h
 obtain⟨pre,h1,_,h3,_⟩:=iS a (dJ.1 h);rw[bZ]at h1;rw[<- h1]at h3;cases y with
 | agg cs =>
   obtain⟨g1,g2⟩:=pX (cs:=cs) h3;refine⟨?_,λ f cs h=>by cases h⟩;unfold dO;rw[rb,rr,g1,g2];rfl
 | v x=>exact⟨rfl,λ f cs h=>by cases h⟩
 | sl k es n=>exact⟨rfl,λ f cs h=>by cases h⟩
 | mc=>exact⟨rfl,λ f cs h=>by cases h⟩
 | _=>have:=h3 _ (bW.2 rfl);simp[br]at this
theorem zl: ∀a v,dO (cG a v)=O
 |.int _,_|.map _ _,_|.bool,_|.str,_|.list _,_=>rfl
 |.term,v=>by
   let⟨d,c⟩:=pX (fI .term v);show dO (.agg _)=O;unfold dO;rw[rb,rr,d,c];rfl
 |.pair a b,v=>by
   let⟨d,c⟩:=pX (fI (.pair a b) v);show dO (.agg _)=O;unfold dO;rw[rb,rr,d,c];rfl
 |.one a,v=>by
   let⟨d,c⟩:=pX (fI (.one a) v);show dO (.agg _)=O;unfold dO;rw[rb,rr,d,c];rfl
theorem qhy{y}(h:∀z∈cellsOf y,br z=O):rb y=[]/\rr y=[]:=by
 cases y with
 |agg cs=>
   let⟨b,a⟩:=pX (cs:=cs) h;exact⟨by rw[rb,b],by rw[rr,a]⟩
 |_=>exact RW (h _ (bW.2 rfl))
theorem qjk(g:eH m σ){a cs ds v}(k:∀y∈ds,rsC y=[])(j:sJ (pq m.rw a cs)=Z v)(h:OKL m cs ds):bq a ds=Z v/\∀y∈ds,br y=O:=by
 let⟨l,c,f⟩:=qf g a (wT j) h;cases f
 have e:∀y∈ds,br y=O:=by
  let⟨pre,b,_,i,_⟩:=iS a c;rw[nJ,bZ]at b;intro y d;exact Fl (k y d) (i _ (by rw[<-b];exact eF d))
 exact⟨Gb e (dJ.2 c),e⟩
theorem qmG(l:eH m σ){a x y v}(s:px x=O)(q:jK m.rw a x=Z v)(j:OK m x y):gu a y=Z v/\rb y=[]/\rr y=[]:=by
 let⟨g,k⟩:=rP l q j;have c:=Gm s j
 have d:∀z∈cellsOf y,rsC z=[]:=by
  intro z b;cases y with
  |agg cs=>exact qT.1 c z b
  |_=>cases bW.1 b;exact c
 have i:∀z∈cellsOf y,br z=O:=by
  let⟨pre,e,_,p,_⟩:=iS a (dJ.1 k);rw[bZ]at e;intro z b;exact Fl (d z b) (p _ (by rw[<-e];exact eF b))
 let⟨e1,t⟩:=qhy i;refine⟨?_,e1,t⟩;have o:=Gb i k;unfold gu at g |-
 have h:gY (cS σ.rw y)=gY y:=by
  cases y with
  |agg cs=>rfl
  |rs r lo n u f=>simp[cellsOf,rsC]at d
  |_=>rfl
 rw[h]at g;split at g
 .exact o
 .cases g
theorem Kd{fb fr y}(b:rb y=[])(a:rr y=[]):ren fb fr y=y:=UH y b a
theorem Wp{pre post}{b:Nat}(h:(pre++b::post).Nodup):(pre++b::post).idxOf b=I pre:=Ma h (by simp)
theorem qe{fb fr}:∀l,bB fb fr l=l.map (ren fb fr)
 |[]=>rfl
 |x::l=>by rw[bB,qe l];rfl
theorem U2{fb fr}(a b):bB fb fr (a++b)=bB fb fr a++bB fb fr b:=by rw[qe,qe,qe,ft]
theorem LO: ∀a b,rbL (a++b)=rbL a++rbL b
 |[],_=>rfl
 |x::a,b=>by rw[ZL,rbL,rbL,LO a b,bE]
theorem L6: ∀a b,rrL (a++b)=rrL a++rrL b
 |[],_=>rfl
 |x::a,b=>by rw[ZL,rrL,rrL,L6 a b,bE]
theorem WM(K:Rel N m E τ tm σ){t x y l a}(b:mC τ.rw t x=Z (l,a))(w:OK m x y):
  rb y=[]/\rr y=a.filterMap m.r/\(∀id∈a,id<I m.rw)/\
  ∀B pre post fb,(pre++(a.filterMap m.r++post)).Nodup->ow (bO σ B (pre++(a.filterMap m.r++post))) t (I pre) (ren fb (λ r=>(pre++(a.filterMap m.r++post)).idxOf r) y)=Z (l,I pre+I (a.filterMap m.r)):=by
 have emp:dlist t y=Z l->l=[]->2<=lvl y->a.filterMap m.r=[]->(∀id∈a,id<I m.rw)->rb y=[]/\rr y=a.filterMap m.r/\(∀id∈a,id<I m.rw)/\
   ∀B pre post fb,(pre++(a.filterMap m.r++post)).Nodup->ow (bO σ B (pre++(a.filterMap m.r++post))) t (I pre) (ren fb (λ r=>(pre++(a.filterMap m.r++post)).idxOf r) y)=Z (l,I pre+I (a.filterMap m.r)):=by
  intro A b j h g
  have f:rb y=[]/\rr y=[]:=by
   obtain⟨rfl,_⟩|⟨es,n,rfl,_⟩:=fL A<;>exact⟨rfl,rfl⟩
  refine⟨f.1,by rw[f.2,h],g,λ B pre post fb _=>?_⟩;rw[Kd f.1 f.2,h];subst b;obtain⟨rfl,_⟩|⟨es,n,rfl,_⟩:=fL A
  .simp;rfl
  .simp only[ow,A,cO j];rfl
 unfold mC at b;split at b
 .cases b;cases w;exact emp rfl rfl (al _) rfl (by simp)
 .split at b<;>cases b;next C j=>let⟨e,z⟩:=jW C;subst e;let⟨v,u⟩:=w;subst z;exact emp v rfl (bR (bH j) u) rfl (by simp)
 .rename_i id M;split at b<;>try cases b
  rename_i R X;split at b<;>try cases b
  rename_i q;rw[aK,fF]at q;split at b<;>cases b;rename_i C;let⟨e,z⟩:=jW C;subst e;subst z;let⟨R',H,_,_,W⟩:=w;have p:m.rw[id]?=Z R:=by rw[K.rw];exact X
  rw[p]at H;cases H;have g:∀i∈[id],i<I m.rw:=by grind
  obtain⟨c,Q,G,rfl,s,F,D,T,S,q6,P⟩|⟨G,s,F,D⟩:=rU K.rows p (W (cg q.1))
  .have o:[id].filterMap m.r=[c]:=by simp[G]
   refine⟨rfl,by rw[o];rfl,g,λ B pre post fb L=>?_⟩;rw[o]at L |-
   have d:=Wp L
   have k:(bO σ B (pre++([c]++post))).rw[I pre]?=Z Q:=by
    show((pre++c::post).map λ r=>σ.rw.getD r ⟨0,[],0,0,Y⟩)[I pre]?=_;rw[dC,dy (al _),gF,qoP];show Z (σ.rw.getD c _)=_;rw[fV s]
   rw[ren];have d:(pre++([c]++post)).idxOf c=I pre:=d;rw[d];simp only[ow,k,T,P q.2,and_self,S];rfl
  .exact emp F (s q.2) D (by grind) g
 .cases b
theorem KW(k:Rel N m E τ tm σ):∀{l cs ds v a},fB τ.rw l cs=Z (v,a,O)->OKL m cs ds->
  rbL ds=[]/\rrL ds=a.filterMap m.r/\(∀id∈a,id<I m.rw)/\
  ∀B pre post fb,(pre++(a.filterMap m.r++post)).Nodup->kF (bO σ B (pre++(a.filterMap m.r++post))) l (I pre) (bB fb (λ r=>(pre++(a.filterMap m.r++post)).idxOf r) ds)=Z (v,I pre+I (a.filterMap m.r))
 |[],cs,ds,v,a,h,g=>by
   cases cs with
   |cons c cs=>simp[fB]at h
   |nil=>
     cases g;obtain⟨_,rfl,_⟩:=h;exact⟨rfl,rfl,by simp,λ B pre post fb _=>rfl⟩
 |.val t::l,cs,ds,v,a,h,g=>by
   simp[fB]at h;split at h<;>try (cases h;done)
   rename_i w vs e q x f;simp only[dF,fo,aK]at h;obtain⟨rfl,rfl,z,rfl⟩:=h;obtain⟨u,s,p,o⟩:=KW k f (g.drop t.size);have G:=g.take t.size;have y:=qT.1 (zK G z);obtain⟨L,K⟩:=qjk k.rows y (by rw[k.rw];exact x) G;obtain⟨F,D⟩:=pX K;have b:ds=ds.take t.size++ds.drop t.size:=(oP _ _).symm;refine⟨by rw[b,LO,F,u];rfl,by rw[b,L6,D,s];rfl,p,λ B pre post fb n=>?_⟩;have e1:(bB fb (λ r=>(pre++(e.filterMap m.r++post)).idxOf r) ds).take t.size=ds.take t.size:=by rw[qe,<-List.map_take,<-qe,J8 _ F D]
   have M:(bB fb (λ r=>(pre++(e.filterMap m.r++post)).idxOf r) ds).drop t.size=bB fb (λ r=>(pre++(e.filterMap m.r++post)).idxOf r) (ds.drop t.size):=by rw[qe,<-List.map_drop,<-qe]
   rw[kF,e1,L];rw[M,o B pre post fb n]
 |.row t::l,cs,ds,v,a,h,g=>by
   cases cs with
   |nil=>simp[fB]at h
   |cons c cs=>
     obtain⟨d,ds,rfl,H,C⟩:=g;simp[fB]at h;split at h<;>try (cases h;done)
     rename_i w i vs j q x f;obtain⟨rfl,rfl,rfl⟩:=h;obtain⟨S,R,Q,P⟩:=WM k x H;obtain⟨u,s,p,o⟩:=KW k f C;refine⟨by rw[rbL,S,u];rfl,by rw[rrL,R,s,mM],λ id A=>(bc.1 A).elim (Q id) (p id),λ B pre post fb n=>?_⟩;rw[mM,bE]at n |-
     rw[bB,kF,P B pre (j.filterMap m.r++post) fb n];simp only;have:=o B (pre++i.filterMap m.r) post fb (by grind);rw[bE,aU]at this;rw[this,aU,eY]
theorem K7(S:Rel N m E τ tm σ):∀{sas xs ys a o p},dB τ sas xs=Z (a,o,p)->OKL m xs ys->oG sas=O->
  rbL ys=o.map m.b/\(sm sas=O->rrL ys=[])/\(rrL ys++o.flatMap λ b=>rrL (σ.bx.getD (m.b b) []))=p.filterMap m.r/\(∀b∈o,b<m.nb/\∃ds,σ.bx[m.b b]?=Z ds/\rbL ds=[])/\(∀id∈p,id<I m.rw)/\
  ∀c d,(c++o.map m.b).Nodup->(d++p.filterMap m.r).Nodup->
   dS (bO σ (c++o.map m.b) (d++p.filterMap m.r)) sas (I c) (I d) (bB (λ b=>(c++o.map m.b).idxOf b) (λ r=>(d++p.filterMap m.r).idxOf r) ys)=Z a:=by
 intro sas
 induction sas with
 |nil=>
   intro xs ys a o p h ho _;cases xs with
   |cons x xs=>simp[dB]at h
   |nil=>
     cases ho;obtain⟨_,rfl,rfl⟩:=h;refine⟨rfl,λ _=>rfl,rfl,by simp,by simp,λ c d _ _=>?_⟩;simp[bB,dS,bO]
 |cons k sas Q=>
   intro xs ys a o p h ho i;cases xs with
   |nil=>cases k<;>simp[dB]at h
   |cons x xs=>
   obtain⟨y,ys,rfl,R,s⟩:=ho;cases k with
   |val t=>
     simp[dB]at h;split at h<;>try cases h
     next v an hv=>split at h<;>cases h;next vs n f u=>obtain⟨A,F,q,D,C,B⟩:=Q u s i;obtain⟨g1,g2,g3⟩:=qmG S.rows an (by rw[S.rw];exact hv) R;refine⟨by rw[rbL,g2,A];rfl,λ K=>by rw[rrL,g3,F K];rfl,by rw[rrL,g3];exact q,D,C,λ c d P z=>?_⟩;rw[bB,Kd g2 g3,dS,g1];rw[B c d P z]
   |nil=>
     cases x with
     |nil=>
       subst R;obtain⟨A,F,q,D,C,B⟩:=Q h s i;refine⟨by rw[rbL,A];rfl,λ K=>by rw[rrL,F K];rfl,by rw[rrL];exact q,D,C,λ c d P z=>?_⟩;exact B c d P z
     |_=>simp[dB]at h
   |clo g k=>
     cases x with
     |fn g' cs=>
       simp[dB]at h;split at h<;>try cases h
       rename_i hg;rw[aK]at hg;obtain⟨cs',rfl,G⟩:=R;obtain⟨A,F,q,D,C,B⟩:=Q h (G.append s) i;rw[LO]at A;rw[L6]at F q;refine⟨by rw[rbL,rb];exact A,λ K=>by rw[rrL,rr];exact F K,by rw[rrL,rr];exact q,D,C,λ c d P z=>?_⟩
       have ar:Bg g k (.fn g' (bB (λ b=>(c++o.map m.b).idxOf b) (λ r=>(d++p.filterMap m.r).idxOf r) cs'))=Z (bB (λ b=>(c++o.map m.b).idxOf b) (λ r=>(d++p.filterMap m.r).idxOf r) cs'):=by
        have T:Nat.beq (I (bB (λ b=>(c++o.map m.b).idxOf b) (λ r=>(d++p.filterMap m.r).idxOf r) cs')) k=O:=by
         rw[qe,ce,G.len];exact hg.2
        simp[Bg,hg.1,T,nN]
       rw[bB,ren,dS,ar];simp only;rw[<-U2];exact B c d P z
     |_=>simp[dB]at h
   |row t=>
     simp[dB]at h;split at h<;>try cases h
     rename_i l e hl;split at h<;>cases h;rename_i vs f u;obtain⟨A,F,q,D,C,B⟩:=Q u s i;obtain⟨a1,a2,a3,a4⟩:=WM S hl R;refine⟨by rw[rbL,a1,A];rfl,λ K=>(by cases K),by rw[rrL,a2,bE,q,mM],D,λ id L=>(bc.1 L).elim (a3 id) (C id),λ c d P z=>?_⟩;rw[mM]at z |-
     rw[bB,dS,a4 _ d (f.filterMap m.r) _ z];simp only;have:=B c (d++e.filterMap m.r) P (by grind);rw[bE,aU]at this;rw[this]
   |box l=>
     have w:sm sas=O/\oG sas=O:=by
      have:(sm sas&&oG sas)=O:=i;rw[aK]at this;exact this
     simp[dB]at h;split at h<;>try cases h
     rename_i v e b j;split at h<;>cases h;rename_i vs n f u;obtain⟨A,F,q,D,C,B⟩:=Q u s w.2;unfold Zg at j;split at j<;>try cases j
     rename_i b0 az;split at j<;>try cases j
     rename_i cs G;split at j<;>cases j;rename_i hv;obtain⟨ax,rfl⟩:=qkF az R;obtain⟨q1,q2,q3⟩:=qon l (m.b b);obtain⟨ds,d1,d2⟩:=S.box _ cs G;obtain⟨p1,p2,p3,p4⟩:=KW S hv d2;have H:=F w.1;rw[H,fS]at q;refine⟨by rw[rbL,A,q1];rfl,λ _=>by rw[rrL,H,q2];rfl,?_,λ b' M=>?_,λ id L=>(bc.1 L).elim (p3 id) (C id),λ c d ad z=>?_⟩
     .rw[rrL,H,q2,we,q,fV d1,p2,mM];rfl
     .rcases bi.1 M with rfl|M
      .exact⟨ax,ds,d1,p1⟩
      .exact D b' M
     .rw[aZ]at ad |-
      rw[mM]at z |-
      have W:=Wp ad
      have X:(bO σ (c++m.b b::n.map m.b) (d++(e.filterMap m.r++f.filterMap m.r))).bx[I c]?=Z (bB (λ b'=>(c++m.b b::n.map m.b).idxOf b') (λ r=>(d++(e.filterMap m.r++f.filterMap m.r)).idxOf r) ds):=by
       show((c++m.b b::n.map m.b).map λ b=>bB _ _ (σ.bx.getD b []))[I c]?=_;rw[dC,dy (al _),gF,qoP];show Z (bB _ _ (σ.bx.getD (m.b b) []))=_;rw[fV d1]
      have ab:sc (bO σ (c++m.b b::n.map m.b) (d++(e.filterMap m.r++f.filterMap m.r))) l (I c) (I d) (bxA l (I c))=Z (v,I d+I (e.filterMap m.r)):=by
       simp[sc,qld,Nat.beq_refl,X];exact p4 _ d (f.filterMap m.r) _ z
      rw[bB,q3,W,dS,ab];simp only;have:=B (c++[m.b b]) (d++e.filterMap m.r) (by grind) (by grind);rw[bE,bE,aU,aU]at this;have this:dS (bO σ (c++m.b b::n.map m.b) (d++(e.filterMap m.r++f.filterMap m.r))) sas (I c+1) (I d+I (e.filterMap m.r)) (bB (λ b'=>(c++m.b b::n.map m.b).idxOf b') (λ r=>(d++(e.filterMap m.r++f.filterMap m.r)).idxOf r) ys)=Z vs:=this;rw[this]
theorem MY: ∀{l},l.Nodup->nd l=O
 |[],_=>rfl
 |b::l,h=>by
   rw[mI]at h;rw[nd,MY h.2];simp[h.1]
theorem Md: ∀{l seen},l.Nodup->(∀b∈l,b ∉ seen)->aB seen l=l
 |[],seen,_,_=>rfl
 |b::l,seen,h,d=>by
   rw[mI]at h;rw[aB]
   have:seen.contains b=Y:=by
    have:=d b (aW ..);simpa using this
   rw[this];simp only
   rw[Md h.2 λ c e a=>by
    obtain rfl|a:=bi.1 a
    .exact h.1 e
    .exact d c (aS _ e) a]
theorem qkC{α}{f:α->aa Nat}{l:aa α}(h:∀x∈l,f x=[]):l.flatMap f=[]:=qT.2 h
theorem qlV{α f}{l:aa α}{x}{r:Nat}(a:x∈l)(b:r∈f x):r∈l.flatMap f:=ir.2 ⟨x,a,b⟩
theorem Lc{ys B R}(k:rbL ys=B)(e:(rrL ys++B.flatMap λ b=>rrL (σ.bx.getD b []))=R)(j:B.Nodup)(i:R.Nodup)(g:∀b∈B,∃ds,σ.bx[b]?=Z ds/\rbL ds=[])(m:∀r∈R,r<I σ.rw):
  dP σ ys=B/\gD σ ys=R/\ng σ ys=O:=by
 have o:∀b∈B,rbL (σ.bx.getD b [])=[]:=λ b a=>by let⟨ds,c,f⟩:=g b a;rw[fV c];exact f
 have e1:dP σ ys=B:=by
  unfold dP;rw[k,Md j (by simp)];cases I σ.bx with
  |zero=>rfl
  |succ n=>rw[xK,qkC o];rfl
 have l:gD σ ys=R:=by
  unfold gD;rw[e1,e,Md i (by simp)]
 refine⟨e1,l,?_⟩;unfold ng;rw[e1,l,k,MY j,MY i];simp only[ei,aK,bJ,qoQ,cC];refine⟨⟨⟨λ _ h=>h,λ r h=>by rw[<-e];exact bc.2 (.inl h)⟩,λ b a=>?_⟩,m⟩;let⟨ds,c,f⟩:=g b a;refine⟨⟨getElem?_lt c,?_⟩,λ r d=>?_⟩
 .rw[fV c,f];simp
 .rw[<-e];exact bc.2 (.inr (qlV a d))
theorem qjJ{fb fr}:∀l,ren fb fr (cN l)=cN (bB fb fr l)
 |[]|[x]|x::y::l=>rfl
theorem Vt{R rn j}:cM R rn (I R+j)=rn+j:=by
 unfold cM;rw[pL (by omega)];show rn+(I R+j-I R)=_;omega
theorem EU{B R bn rn}:∀l j v,bB (cM B bn) (cM R rn) (kh l (I R+j) v)=kh l (rn+j) v
 |[],j,v=>rfl
 |.val a::l,j,v=>by
   let⟨c,b⟩:=pX (fI a v.1);rw[kh,U2,J8 _ c b,EU l j v.2];rfl
 |.row a::l,j,v=>by
   have h:=EU (B:=B) (R:=R) (bn:=bn) (rn:=rn) l (j+1) v.2;rw[<-eY,<-eY]at h;rw[kh,bB,ren,Vt,h];rfl
theorem Ge{rws B R bn rn}:∀b nb j v,I B<=nb->yf rws b nb j v->bB (cM B bn) (cM R rn) (fC b (I R+j) v)=(fC b (rn+j) v).map λ y=>match y with
  |.ptr n o=>.ptr (bn+(n-I B)) o
  |y=>y
 |[],nb,j,v,_,_=>rfl
 |.one (.val a)::b,nb,j,v,c,h=>by
   let⟨d,f⟩:=wS (zl a v.1);rw[fC,bB,Kd d f,Ge b nb j v.2 c h,fC,aZ];congr 1;split
   .next n o e=>rw[e]at d;cases d
   .rfl
 |.one (.row a)::b,nb,j,v,c,h=>by
   have h:=Ge (R:=R) (bn:=bn) (rn:=rn) b nb (j+1) v.2 c h;rw[<-eY,<-eY]at h;rw[fC,bB,ren,Vt,h];rfl
 |.agg l::b,nb,j,v,c,h=>by
   have h:=Ge (R:=R) (bn:=bn) (rn:=rn) b nb (j+nR l) v.2 c h;rw[<-eY,<-eY]at h;rw[fC,bB,ren,EU l j v.1,h];rfl
theorem Fj{rws B R bn rn}:∀b nb j v,yf rws b nb j v->(iF b (I R+j) v).map (bB (cM B bn) (cM R rn))=iF b (rn+j) v
 |[],nb,j,v,_=>rfl
 |.one (.val a)::b,nb,j,v,h=>Fj b nb j v.2 h
 |.one (.row a)::b,nb,j,v,h=>Fj b nb (j+1) v.2 h
 |.agg l::b,nb,j,v,h=>by
   have h:=Fj (B:=B) (R:=R) (bn:=bn) (rn:=rn) b nb (j+nR l) v.2 h;rw[<-eY,<-eY]at h;exact h
theorem xp{B R bn rn}:∀sas j o,(eM sas (I R+j) o).map (bB (cM B bn) (cM R rn))=eM sas (rn+j) o
 |[],j,o=>rfl
 |.nil::sas,j,o|.val _::sas,j,o|.row _::sas,j,o|.clo _ _::sas,j,o=>xp sas j o
 |.box l::sas,j,o=>by
   have h:=xp (B:=B) (R:=R) (bn:=bn) (rn:=rn) sas (j+nR l) o.2;rw[<-eY,<-eY]at h;rw[eM,aZ,EU l j,h];rfl
theorem J2{β}:∀a (l ks b:aa β),I ks=I a->∃c,dv l a (ks++b)=c++b/\I c=I l/\∀r,r ∉ a->c[r]?=l[r]?
 |[],l,ks,b,h=>by
   have:=cJ h;subst this;exact⟨l,by simp[dv],rfl,λ _ _=>rfl⟩
 |r::a,l,[],b,h=>by simp at h
 |r::a,l,k::ks,b,h=>by
   let⟨c,i,g,f⟩:=J2 a (l.set r k) ks b (by grind);refine⟨c,i,by rw[g,dX],λ q d=>?_⟩;rw[f q λ e=>d (aS _ e),jA (by grind)]
def BxL(m:Mp):aa (aa TV)->aa (aa AV)->Prop
 |[],ys=>ys=[]
 |x::xs,ys=>∃y r,ys=y::r/\OKL m x y/\BxL m xs r
theorem BxL.mono{m'}(h:MLe m m'):∀{xs ys},BxL m xs ys->BxL m' xs ys
 |[],ys,a=>a
 |x::xs,ys,⟨y,r,e,c,b⟩=>⟨y,r,e,c.mono h,BxL.mono h b⟩
theorem T6: ∀a {τ σ xs ys},Rel N m E τ tm σ->BxL m xs ys->I xs=I a->(∀b∈a,b<m.nb)->
  Rel N m E ⟨xW τ.bx a xs,τ.rw⟩ tm {σ with bx:=dv σ.bx (a.map m.b) ys}
 |[],τ,σ,xs,ys,e,d,f,_=>by
   have:=cJ f;subst this;cases d;show Rel N m E τ tm {σ with bx:=σ.bx++[]};rw[bZ];exact e
 |b::a,τ,σ,xs,ys,e,d,f,g=>by
   cases xs with
   |nil=>simp at f
   |cons x xs=>
     obtain⟨y,r,rfl,j,i⟩:=d;have:=e.setBox (g b (aW ..)) j σ.wr;exact T6 a this i (by grind) λ c h=>g c (aS _ h)
theorem R5{b:Type}{l:aa b}{i x f}(h:l[i]?=Z x):l.modify i f=l.set i (f x):=by
 apply pJ;intro j;rw[ZE,oN];by_cases a:i=j
 .subst a;rw[h,ag rfl,ag (getElem?_lt h)];simp
 .rw[af a];cases l[j]? with
  |none=>rfl
  |some y=>simp[a]
theorem VX: ∀a {m τ},Rel N m E τ tm σ->(∀id∈a,id<I m.rw)->
  ∃m',MLe m m'/\Rel N m' E ⟨τ.bx,vt τ.rw a⟩ tm σ/\m'.nb=m.nb/\m'.b=m.b/\I m'.rw=I m.rw/\(∀i r,m'.r i=Z r->m.r i=Z r/\i ∉ a)
 |[],m,τ,c,_=>⟨m,.refl m,c,rfl,rfl,rfl,λ i r h=>⟨h,by simp⟩⟩
 |id::a,m,τ,c,q=>by
   have n:=q id (aW ..);have g:=aV n;generalize B:m.rw[id]=R at g;have e:MLe m (m.upd id ⟨R.τ,[],R.ver+1,R.sv,Y⟩ U 0 []):=XS g (eO _) (al _) (λ h=>by have:R.ver+1=R.ver:=h;omega)
   have k:Rel N (m.upd id ⟨R.τ,[],R.ver+1,R.sv,Y⟩ U 0 []) E ⟨τ.bx,τ.rw.modify id λ R=>⟨R.τ,[],R.ver+1,R.sv,Y⟩⟩ tm σ:=by
    refine c.to e ?_ rfl rfl rfl (Vw g c.rows (λ _=>rfl) λ _ _ _ _ _ _ h=>h) ?_
    .show m.rw.set id _=τ.rw.modify id _;rw[<-c.rw,R5 g]
    .intro i f r p o e1 j;change i<I (m.rw.set id _) at p;change f<I (m.rw.set id _) at o;change (if i=id then U else m.r i)=Z r at e1;change (if f=id then U else m.r f)=Z r at j;simp at p o;split at e1<;>split at j<;>first|(cases e1;done)|(cases j;done)|exact c.rinj i f r p o e1 j
   let⟨m',y,x,w,v,u,t⟩:=VX a k (λ i A=>by show i<I (m.rw.set id _);rw[dX];exact q i (aS _ A));refine⟨m',e.trans y,x,w,v,by rw[u];show(m.rw.set id _).length=_;rw[dX],λ i r h=>?_⟩;let⟨d,s⟩:=t i r h;have d:(if i=id then U else m.r i)=Z r:=d;split at d
   .cases d
   .next l=>exact⟨d,λ z=>(bi.1 z).elim l s⟩
def vh(m:Mp)(L:Nat):Prop:=∀id r,id<I m.rw->m.r id=Z r->r<L
def At(m:Mp)(t L n:Nat):Prop:=∀k,k<n->∃R,m.rw[t+k]?=Z R/\R.ver=0/\R.sv=0/\m.r (t+k)=Z (L+k)/\m.v (t+k)=0
theorem At.mono{m m' t L n}(h:At m t L n)(f:MLe m m')(e:∀(id:Nat) R R',m.rw[id]?=Z R->m'.rw[id]?=Z R'->R'=R):At m' t L n:=λ k g=>by
 let⟨R,c,o,l,j,i⟩:=h k g;let⟨R',d,_,_,p⟩:=f.row _ R c;cases e _ _ _ c d;let⟨_,a,b,_⟩:=p rfl;exact⟨R,d,o,l,a.trans j,b.trans i⟩
theorem At.join{m t L a b}(h:At m t L a)(g:At m (t+a) (L+a) b):At m t L (a+b):=λ k j=>by
 by_cases f:k<a
 .exact h k f
 .let⟨R,e,i,g3,c,d⟩:=g (k-a) (by omega);rw[show t+a+(k-a)=t+k by omega]at e c d;rw[show L+a+(k-a)=L+k by omega]at c;exact⟨R,e,i,g3,c,d⟩
theorem WN(d:Rel N m E τ tm σ){L a l}(n:vh m L)(p:σ.rw[L]?=Z ⟨a.size,l.map (aq a),0,0,Y⟩):
  ∃m',MLe m m'/\Rel N m' E ⟨τ.bx,τ.rw++[⟨a,l,0,0,Y⟩]⟩ tm σ/\OK m' (.row (I τ.rw) 0) (.rs L 0 (I l) 0 Y)/\vh m' (L+1)/\m'.b=m.b/\m'.nb=m.nb/\At m' (I τ.rw) L 1:=by
 have e:=AF m ⟨a,l,0,0,Y⟩ (Z L) 0 (l.map (aq a));have q:kg σ ⟨a,l,0,0,Y⟩ (Z L) 0 (l.map (aq a)):=⟨⟨a.size,l.map (aq a),0,0,Y⟩,p,rfl,rfl,rfl,qc (jo a) l,aL _,λ _=>⟨rfl,rfl⟩⟩
 have i:Rel N (m.add ⟨a,l,0,0,Y⟩ (Z L) 0 (l.map (aq a))) E ⟨τ.bx,τ.rw++[⟨a,l,0,0,Y⟩]⟩ tm σ:=by
  refine d.to e (by show m.rw++_=_;rw[d.rw]) rfl rfl rfl (Gd d.rows q λ _ _ h=>h) ?_;intro id c r f o e1 g;change id<I (m.rw++[_]) at f;change c<I (m.rw++[_]) at o;change (if id=I m.rw then Z L else m.r id)=Z r at e1;change (if c=I m.rw then Z L else m.r c)=Z r at g;simp at f o;split at e1<;>split at g
  .omega
  .have:=n c r (by omega) g;cases e1;omega
  .have:=n id r (by omega) e1;cases g;omega
  .exact d.rinj id c r (by omega) (by omega) e1 g
 refine⟨_,e,i,⟨⟨a,l,0,0,Y⟩,?_,aL _,.inr (.inr ⟨_,_,_,_,_,rfl⟩),λ _=>?_⟩,λ id r f e1=>?_,rfl,rfl,λ k s=>?_⟩
 .show(m.rw++_)[I τ.rw]?=_;rw[d.rw];simp
 .show hZ (if I τ.rw=I m.rw then Z L else m.r (I τ.rw)) (if I τ.rw=I m.rw then 0 else m.v (I τ.rw)) a l _;rw[ag (by rw[d.rw]),ag (by rw[d.rw])];rfl
 .change id<I (m.rw++[_]) at f;change (if id=I m.rw then Z L else m.r id)=Z r at e1;simp at f;split at e1
  .cases e1;omega
  .have:=n id r (by omega) e1;omega
 .have j:k=0:=by omega
  subst j;exact⟨⟨a,l,0,0,Y⟩,by show(m.rw++_)[I τ.rw+0]?=_;rw[d.rw];simp,rfl,rfl,by show(if I τ.rw+0=I m.rw then Z L else _)=_;rw[ag (by rw[d.rw,dE])];rfl,by show(if I τ.rw+0=I m.rw then 0 else _)=_;rw[ag (by rw[d.rw,dE])]⟩
theorem Mj{m m':Mp}{ls rw rw'}(h:m.rw=rw)(d:m'.rw=rw')(c:rw'=rw++ls):∀(id:Nat) R R',m.rw[id]?=Z R->m'.rw[id]?=Z R'->R'=R:=λ id R R' b a=>by
 rw[d,c,<-h,dY (getElem?_lt b),b]at a;exact(kO a).symm
theorem FA: ∀l {m τ L v},Rel N m E τ tm σ->vh m L->(∀k Q,(nf l v)[k]?=Z Q->σ.rw[L+k]?=Z Q)->
  ∃m',MLe m m'/\Rel N m' E ⟨τ.bx,τ.rw++lr l v⟩ tm σ/\OKL m' (qr l (I τ.rw) v) (kh l L v)/\vh m' (L+nR l)/\m'.b=m.b/\m'.nb=m.nb/\At m' (I τ.rw) L (nR l)
 |[],m,τ,L,v,c,d,_=>⟨m,.refl m,by show Rel N m E ⟨τ.bx,τ.rw++[]⟩ tm σ;rw[bZ];exact c,rfl,d,rfl,rfl,λ k j=>absurd j (eh _)⟩
 |.val a::l,m,τ,L,v,c,d,g=>by
   obtain⟨m',f,e,i,p,o,n,h⟩:=FA l c d g;exact⟨m',f,e,(lV (jo a v.1)).append i,p,o,n,h⟩
 |.row a::l,m,τ,L,v,c,d,g=>by
   obtain⟨y,x,q,w,u,t,s,r⟩:=WN c d (g 0 _ rfl)
   obtain⟨m',f,e,i,p,o,n,h⟩:=FA l q u λ k Q j=>by
    have:=g (k+1) Q j;rw[<-this];congr 1;omega
   rw[bE]at e;rw[aU]at i h
   exact⟨m',x.trans f,e,⟨_,_,rfl,w.mono f,i⟩,(by rw[nR,<-eY,O5];exact p),o.trans t,n.trans s,by
    rw[nR,ZG];exact(r.mono f (Mj q.rw e.rw (bE ..).symm)).join h⟩
theorem xj: ∀sas {m τ L o},Rel N m E τ tm σ->vh m L->(∀k Q,(fM sas o)[k]?=Z Q->σ.rw[L+k]?=Z Q)->
  ∃m',MLe m m'/\Rel N m' E ⟨τ.bx,τ.rw++iM sas o⟩ tm σ/\BxL m' (nn sas (I τ.rw) o) (eM sas L o)/\vh m' (L+nrB sas)/\m'.b=m.b/\m'.nb=m.nb/\At m' (I τ.rw) L (nrB sas)
 |[],m,τ,L,o,c,d,_=>⟨m,.refl m,by show Rel N m E ⟨τ.bx,τ.rw++[]⟩ tm σ;rw[bZ];exact c,rfl,d,rfl,rfl,λ k e=>absurd e (eh _)⟩
 |.nil::sas,m,τ,L,o,c,d,a=>xj sas c d a
 |.val _::sas,m,τ,L,o,c,d,a=>xj sas c d a
 |.row _::sas,m,τ,L,o,c,d,a=>xj sas c d a
 |.clo _ _::sas,m,τ,L,o,c,d,a=>xj sas c d a
 |.box l::sas,m,τ,L,o,c,d,a=>by
   have a:∀k Q,(nf l (toC l o.1)++fM sas o.2)[k]?=Z Q->σ.rw[L+k]?=Z Q:=a;obtain⟨y,x,j,w,u,t,s,r⟩:=FA l (v:=toC l o.1) c d λ k Q e=>a k Q (by grind)
   obtain⟨m',g,f,i,q,p,n,h⟩:=xj sas j u λ k Q e=>by
    have:=a (nR l+k) Q (by rw[dy (by rw[oT];omega),oT,th];exact e);rw[<-this,eY]
   rw[bE]at f;rw[aU,mT]at i h;exact⟨m',x.trans g,f,⟨_,_,rfl,w.mono g,i⟩,(by rw[nrB,<-eY];exact q),p.trans t,n.trans s,(r.mono g (Mj j.rw f.rw (bE ..).symm)).join h⟩
theorem qle{τ τ' m'}(h:Rel N m E τ tm σ)(e:m'=m)(a:τ'=τ):Rel N m' E τ' tm σ:=by grind
theorem Ww{rws:aa cm}{t0 L0 m m' rw ls}(h:m.rw=rw)(s:MLe m m')(u:m'.rw=rw++ls)(o:∀p R,rws[p]?=Z R->∃q,m.rw[t0+p]?=Z R/\R.ver=0/\R.sv=0/\m.r (t0+p)=Z q/\q=L0+p/\m.v (t0+p)=0/\m.q (t0+p)=R.l.map (aq R.τ)):
  ∀p R,rws[p]?=Z R->∃q,m'.rw[t0+p]?=Z R/\R.ver=0/\R.sv=0/\m'.r (t0+p)=Z q/\q=L0+p/\m'.v (t0+p)=0/\m'.q (t0+p)=R.l.map (aq R.τ):=λ p R t=>by
 let⟨q,d,n,k,j,i,g,f⟩:=o p R t;let⟨R',e,_,_,w⟩:=s.row _ R d;cases Mj h u rfl _ _ _ d e;let⟨_,a,b,_,c,_⟩:=w rfl;exact⟨q,e,n,k,a.trans j,i,b.trans g,(c rfl).trans f⟩
theorem Rel.addBox{τ}(d:Rel N m E τ tm σ){cs ds g}(h:σ.bx[g]?=Z ds)(k:OKL m cs ds)(n:∀b,b<m.nb->m.b b≠g):
  ∃m',MLe m m'/\Rel N m' E ⟨τ.bx++[cs],τ.rw⟩ tm σ/\(∀b,b<m'.nb->(b<m.nb/\m'.b b=m.b b)\/m'.b b=g)/\(m'.rw=m.rw/\m'.r=m.r/\m'.v=m.v/\m'.q=m.q):=by
 have e:MLe m ⟨λ i=>if i=m.nb then g else m.b i,m.nb+1,m.r,m.v,m.q,m.rw⟩:=⟨eO _,λ i o=>af (Bn o),λ id R h=>⟨R,h,al _,al _,λ _=>⟨rfl,rfl,rfl,rfl,λ _=>rfl,λ _ _ h=>h⟩⟩⟩
 refine⟨_,e,⟨d.len,λ t=>(d.env t).mono e,d.rw,by show m.nb+1=I (τ.bx++[cs]);rw[aU,d.nb];rfl,λ b cs' a=>?_,λ b c a k f=>?_,d.rows,d.rinj,Lp e d.pin⟩,λ b a=>?_,rfl,rfl,rfl,rfl⟩
 .have a:=a;show ∃ds,σ.bx[if b=m.nb then g else m.b b]?=Z ds/\_;by_cases j:b<I τ.bx
  .rw[dY j]at a;rw[af (by rw[d.nb];exact Bn j)];let⟨l,s,p⟩:=d.box b cs' a;exact⟨l,s,p.mono e⟩
  .have:b=I τ.bx:=by
     have:=getElem?_lt a;simp at this;omega
   subst this;rw[dy (al _),gF]at a;cases a;rw[ag d.nb.symm];exact⟨ds,h,k.mono e⟩
 .have a:b<m.nb+1:=a;have k:c<m.nb+1:=k;have f:(if b=m.nb then g else m.b b)=(if c=m.nb then g else m.b c):=f;split at f<;>split at f
  .omega
  .exact absurd f.symm (n c (by omega))
  .exact absurd f (n b (by omega))
  .exact d.inj b c (by omega) (by omega) f
 .have a:b<m.nb+1:=a;by_cases f:b=m.nb
  .exact .inr (ag f)
  .exact .inl ⟨by omega,af f⟩
theorem FE{rws t0 s bn B NB}:∀c {m τ nb d v},Rel N m E τ tm σ->vh m (s+d)->I τ.rw=t0+d->(∀p R,rws[p]?=Z R->∃q,m.rw[t0+p]?=Z R/\R.ver=0/\R.sv=0/\m.r (t0+p)=Z q/\q=s+p/\m.v (t0+p)=0/\m.q (t0+p)=R.l.map (aq R.τ))->yf rws c nb d v->(∀k Q,(eN c v)[k]?=Z Q->σ.rw[s+d+k]?=Z Q)->
  I τ.bx=bn+(nb-NB)->NB<=nb->B+(nb-NB)+I (iF c (s+d) v)<=I σ.bx->(∀b,b<m.nb->m.b b<B+(nb-NB))->(∀k ds,(iF c (s+d) v)[k]?=Z ds->σ.bx[B+(nb-NB)+k]?=Z ds)->
  ∃m',MLe m m'/\Rel N m' E ⟨τ.bx++Bj c (I τ.rw) v,τ.rw++A3 c v⟩ tm σ/\OKL m' (Bc bn NB c (I τ.rw) v) ((fC c (s+d) v).map λ y=>match y with|.ptr n o=>.ptr (B+(n-NB)) o|y=>y)
 |[],m,τ,nb,d,v,i,_,_,_,_,_,_,_,_,_,_=>⟨m,.refl m,qle i rfl (by show(⟨τ.bx++[],τ.rw++[]⟩:TS)=τ;rw[bZ,bZ]),rfl⟩
 |.one (.val a)::c,m,τ,nb,d,v,i,D,H,A,C,j,h,g,f,u,e=>by
   obtain⟨m',z,x,w⟩:=FE c i D H A C j h g f u e;refine⟨m',z,x,⟨_,_,rfl,?_,w⟩⟩;have:=Gs (m:=m') a v.1;show OK m' _ (match cG a v.1 with|.ptr n o=>.ptr (B+(n-NB)) o|y=>y);split
   .next n o T=>have M:=(wS (zl a v.1)).1;rw[T]at M;cases M
   .exact this
 |.one (.row a)::c,m,τ,nb,d,v,i,D,H,A,C,j,h,g,f,u,e=>by
   obtain⟨S,G,F,L,P,a5,X,W⟩:=WN i D (j 0 _ rfl)
   obtain⟨m',z,x,w⟩:=FE c (d:=d+1) F P (by grind) (Ww i.rw G F.rw A) C (λ k Q t=>by
    have:=j (k+1) Q t;rw[<-this];congr 1;omega) h g f (by grind) e
   rw[bE,aU]at x;rw[aU]at w;exact⟨m',G.trans z,x,⟨_,_,rfl,L.mono z,w⟩⟩
 |.agg l::c,m,τ,nb,d,v,i,D,H,A,C,j,h,g,f,u,e=>by
   have j:∀k Q,(nf l v.1++eN c v.2)[k]?=Z Q->σ.rw[s+d+k]?=Z Q:=j;obtain⟨S,G,F,L,P,a5,X,W⟩:=FA l (v:=v.1) i D λ k Q t=>j k Q (by grind)
   obtain⟨m',z,x,w⟩:=FE c F (by grind) (by show(τ.rw++_).length=_;rw[aU,H,mT,eY]) (Ww i.rw G F.rw A) C (λ k Q t=>by
    have:=j (nR l+k) Q (by rw[dy (by rw[oT];omega),oT,th];exact t);rw[<-this];congr 1;omega) h g (by rw[<-eY];exact f) (by grind) (λ k ds t=>by rw[<-eY]at t;exact e k ds t)
   rw[bE,aU,mT]at x;rw[aU,mT,<-eY]at w;have K:OK m' (.agg (qr l (I τ.rw) v.1)) (.agg (kh l (s+d) v.1)):=⟨_,rfl,L.mono z⟩
   exact⟨m',G.trans z,x,⟨_,_,rfl,K,w⟩⟩
theorem uI{τ}:∀{sas xs a c d},dB τ sas xs=Z (a,c,d)->∀L o,I (nn sas L o)=I c
 |[],xs,a,c,d,h,L,o=>by
   cases xs with
   |nil=>simp only[dB,dF,fo]at h;rw[<-h.2.1];rfl
   |cons x xs=>simp[dB]at h
 |.nil::sas,xs,a,c,d,h,L,o=>by
   cases xs with
   |nil=>simp[dB]at h
   |cons x xs=>
     cases x with
     |nil=>exact uI (sas:=sas) h L o
     |_=>simp[dB]at h
 |.clo g k::sas,xs,a,c,d,h,L,o=>by
   cases xs with
   |nil=>simp[dB]at h
   |cons x xs=>
     cases x with
     |fn e cs=>
       simp[dB]at h;split at h<;>try cases h
       exact uI h L o
     |_=>simp[dB]at h
 |.val t::sas,xs,a,c,d,h,L,o=>by
   cases xs with
   |nil=>simp[dB]at h
   |cons x xs=>
     simp[dB]at h;split at h<;>try cases h
     split at h<;>cases h;next b=>exact uI b L o
 |.row t::sas,xs,a,c,d,h,L,o=>by
   cases xs with
   |nil=>simp[dB]at h
   |cons x xs=>
     simp[dB]at h;split at h<;>try cases h
     split at h<;>cases h;next b=>exact uI b L o
 |.box t::sas,xs,a,c,d,h,L,o=>by
   cases xs with
   |nil=>simp[dB]at h
   |cons x xs=>
     simp[dB]at h;split at h<;>try cases h
     split at h<;>cases h;next b=>rw[nn,bG,bG,uI b _ o.2]
theorem vl: ∀{l},ndN l=O->l.Nodup
 |[],_=>nK
 |b::l,h=>by
   rw[ndN,aK,bJ]at h;refine mI.2 ⟨λ a=>?_,vl h.2⟩;have:=h.1 b a;simp at this
theorem GW{f:Nat->Nat}:∀{l:aa Nat},l.Nodup->(∀a∈l,∀b∈l,f a=f b->a=b)->(l.map f).Nodup
 |[],_,_=>nK
 |b::l,h,e=>by
   rw[mI]at h;rw[aZ,mI];refine⟨λ g=>?_,GW h.2 λ a j c d=>e a (aS _ j) c (aS _ d)⟩;let⟨c,d,i⟩:=bu.1 g;have:=e c (aS _ d) b (aW ..) i;subst this;exact h.1 d
theorem Hh{f:Nat->ac Nat}:∀{l:aa Nat},l.Nodup->(∀a∈l,∀b∈l,∀r,f a=Z r->f b=Z r->a=b)->(l.filterMap f).Nodup
 |[],_,_=>nK
 |b::l,h,i=>by
   rw[mI]at h;have g:=Hh h.2 λ a m c d=>i a (aS _ m) c (aS _ d);cases e:f b with
   |none=>rw[Pc e];exact g
   |some r=>
     rw[Ic e,mI];refine⟨λ j=>?_,g⟩;let⟨c,d,k⟩:=nL.1 j;have:=i c (aS _ d) b (aW ..) r k e;subst this;exact h.1 d
theorem Tm{xs ys}(h:OKL m xs ys):OK m (AA xs) (cN ys):=by
 cases xs with
 |nil=>cases h;exact⟨[],rfl,rfl⟩
 |cons x xs=>
   obtain⟨y,r,rfl,d,c⟩:=h;cases xs with
   |nil=>cases c;exact d
   |cons x' xs=>
     obtain⟨a,b,rfl,f,e⟩:=c;exact(⟨y::a::b,rfl,y,_,rfl,d,a,_,rfl,f,e⟩:∃ds,AV.tup (y::a::b)=.tup ds/\OKL m (x::x'::xs) ds)
theorem qiX(b):∀rw,I (vt rw b)=I rw:=by
 induction b with
 |nil=>intro rw;rfl
 |cons a b c=>
   intro rw;show(vt (rw.modify a _) b).length=_;rw[c,ZA]
theorem qjL{f xs ys}(hr:Rel N m E τ tm σ)(ho:OKL m xs ys)(hh:c.has f=Y){g}(hg:c.mf f=Z g)(h:Mo τ g xs K=Z r):Sim N m E τ tm σ K r (iW c.pc f σ ys):=by
 obtain⟨t,sas,fn⟩:=g;unfold Mo at h;split at h
 case h_2=>cases h
 rename_i x xs;split at h
 case h_2=>cases h
 rename_i l ids a hl ha;split at h
 case h_2=>cases h
 rename_i hord
 replace hl:mC τ.rw t x=Z (l,ids):=hl
 have hids:ids=[]\/∃ id,ids=[id]:=by
  unfold mC at hl
  repeat' split at hl
  all_goals first | (cases hl;done) | (cases hl;exact .inl rfl) | (cases hl;exact .inr ⟨_,rfl⟩)
 have hs:dB τ (.row t::sas) (x::xs)=Z ((l,a),[],ids):=by
  rw[dB,hl];rw[ha];simp
 obtain⟨i1,_,i2,i3,i4,i5⟩:=K7 hr hs ho hord
 have hp:∀ σ' v R,gD σ ys=R->dP σ ys=[]->ng σ ys=O->fn (l,a)=Z v->dS (bO σ [] R) (.row t::sas) 0 0 (bB (λ b=>([]:aa Nat).idxOf b) (λ r=>R.idxOf r) ys)=Z (l,a)->Nat.beq (I v) (I l)=O ->
   (match(bO σ [] R).bx,(bO σ [] R).rw with
    | [],[Q]=>Z (AV.tup [],Z (⟨[],[⟨Q.k,v.map (aq t),Q.ver,Q.fz,Q.off⟩],[],[0]⟩:St))
    | [],[]=>Z (.tup [],U)
    | _,_=>U)=Z (.tup [],σ')->iW c.pc f σ ys=Z (oA σ [] R (.tup [],σ')):=by
  intro σ' v R h1 h2 h3 h4 h5 h6 h7;unfold iW;have e1:c.pc.pf f=U:=by show(match c.has f with | true=>Z (cT c f) | false=>U)=_;rw[hh]
  have e2:c.pc.sp f=Z (mgP ⟨t,sas,fn⟩):=by show c.spf f=_;unfold TC.spf;rw[hg]
  rw[e1,e2];unfold fd;rw[h3,h2,h1]
  have hm:mgP ⟨t,sas,fn⟩ (bO σ [] R) (bB (λ b=>([]:aa Nat).idxOf b) (λ r=>R.idxOf r) ys)=Z (.tup [],σ'):=by
   unfold mgP;rw[h5];simp[h4,h6];exact h7
  simp only[hm]
 have fin:∀ R,ids.filterMap m.r=R->gD σ ys=R/\dP σ ys=[]/\ng σ ys=O/\dS (bO σ [] R) (.row t::sas) 0 0 (bB (λ b=>([]:aa Nat).idxOf b) (λ r=>R.idxOf r) ys)=Z (l,a):=by
  intro R hR
  have nr:R.Nodup:=by
   rw[<- hR];rcases hids with rfl | ⟨id,rfl⟩
   ·exact nK
   ·cases hq:m.r id with
    | none=>rw[Pc hq];exact nK
    | some q=>rw[Ic hq];exact mI.2 ⟨qS,nK⟩
  have hRlt:∀ q∈R,q < I σ.rw := λ q hq=>by
   rw[<- hR]at hq;obtain⟨id,h1,h2⟩:=nL.1 hq;exact hr.row_lt (i4 id h1) h2
  obtain⟨s1,s2,s3⟩:=Lc i1 (by grind) nK nr (λ b hb=>by cases hb) hRlt;have:=i5 [] [] nK (by grind);rw[hR]at this;exact⟨s2,s1,s3,this⟩
 split at h
 case h_3=>cases h
 ·rename_i id;obtain⟨v,hv,h1⟩:=oR h;obtain⟨hlen,h2⟩:=jZ h1;have hvl:=cg hlen;unfold mC at hl;split at hl
  ·cases hl
  ·split at hl<;>cases hl
  ·rename_i id' ver;split at hl<;>try cases hl
   rename_i Rw hRw;split at hl<;>try cases hl
   rename_i hvs;rw[aK,fF]at hvs;split at hl<;>cases hl;rename_i hc;obtain⟨e,he⟩:=jW hc;subst e;subst he;have hR':m.rw[id]?=Z Rw:=by rw[hr.rw];exact hRw
   have hgood:=hr.rows id Rw hR';have hmod : τ.rw.modify id (λ R=>(⟨Rw.τ,v,R.ver,R.sv+1,Y⟩:cm)) = τ.rw.set id ⟨Rw.τ,v,Rw.ver,Rw.sv+1,Y⟩:=R5 hRw;have h:=h2;rw[hmod]at h;cases hq:m.r id with
   | none =>
     obtain⟨s1,s2,s3,s4⟩:=fin [] (by grind);have hpc:=hp U v [] s1 s2 s3 hv s4 hlen rfl;rw[hq]at hgood;have hn:=hgood hvs.2;have hvn:v=[]:=cJ (by grind)
     obtain⟨m',g1,g2,_⟩:=hr.rowUpd (R2:=⟨Rw.τ,v,Rw.ver,Rw.sv+1,Y⟩) hRw U (m.v id) (m.q id) (al _) (eO _)
      (λ _=>⟨hvl,hq.symm,rfl,rfl,λ _=>rfl,λ _ y hy=>by rw[hvn,<- hn];exact hy⟩) rfl (λ _=>hvn)
      (λ id' r' h1 h2 h3=>⟨(by simp),λ Q hQ=>hQ⟩)
     exact⟨_,_,_,U,m',h,hpc,g1,g2,⟨[],rfl,rfl⟩,λ h=>by cases h⟩
   | some q =>
     obtain⟨s1,s2,s3,s4⟩:=fin [q] (by grind);rw[hq]at hgood;obtain⟨Q,k2,kc,kv,kk,kd,kf,ks⟩:=hgood;have hsub:(bO σ [] [q]).rw=[Q]:=by show[σ.rw.getD q ⟨0,[],0,0,Y⟩]=[Q];rw[fV k2]
     have hpc:=hp (Z ⟨[],[⟨Q.k,v.map (aq Rw.τ),Q.ver,Q.fz,Q.off⟩],[],[0]⟩) v [q] s1 s2 s3 hv s4 hlen (by rw[hsub];rfl);have hrl:=getElem?_lt k2
     have hbk:oA σ [] [q] (.tup [],Z ⟨[],[⟨Q.k,v.map (aq Rw.τ),Q.ver,Q.fz,Q.off⟩],[],[0]⟩)=(.tup [],Z { σ with rw := σ.rw.set q ⟨Q.k,v.map (aq Rw.τ),Q.ver,Q.fz,Q.off⟩,wrr:=q :: σ.wrr }):=by
      simp[oA,qp,dv,ren,bB,cM]
     rw[hbk]at hpc
     obtain⟨m',g1,g2,_⟩:=hr.rowUpd (R2:=⟨Rw.τ,v,Rw.ver,Rw.sv+1,Y⟩) hRw (m.r id) (m.v id) (v.map (aq Rw.τ)) (al _) (eO _)
      (λ _=>⟨hvl,rfl,rfl,rfl,(λ h=>by have:Rw.sv+1=Rw.sv:=h;omega),(λ h=>by rw[hq]at h;cases h)⟩) (σ':={ σ with rw := σ.rw.set q ⟨Q.k,v.map (aq Rw.τ),Q.ver,Q.fz,Q.off⟩,wrr:=q :: σ.wrr }) rfl
      (by
       rw[hq];refine⟨⟨Q.k,v.map (aq Rw.τ),Q.ver,Q.fz,Q.off⟩,by show(σ.rw.set q _)[q]?=_;rw[gh hrl],rfl,kv,kk,qc (jo Rw.τ) v,?_,λ _=>ks hvs.2⟩;rw[(ks hvs.2).1];exact aL _)
      (λ id' r'' h1 h2 h3=>by
       have hne:=hr.others hRw hq h1 h2 h3;refine⟨λ he=>by rw[hq]at he;exact hne (kO he).symm,λ Q' hQ'=>?_⟩;rw[jA (oO hne)];exact hQ')
     exact .to h hpc g1 g2 ⟨[],rfl,rfl⟩
  ·cases hl
 ·obtain⟨v,hv,h⟩:=oR h;obtain⟨hlen,h⟩:=jZ h;obtain⟨s1,s2,s3,s4⟩:=fin [] rfl;have hpc:=hp U v [] s1 s2 s3 hv s4 hlen rfl;exact .same hr h hpc ⟨[],rfl,rfl⟩
theorem qiT{f xs ys}(hr:Rel N m E τ tm σ)(ho:OKL m xs ys)(hh:c.has f=Y)(hmf:c.mf f=U){g}(hg:c.xf f=Z g)(h:Mt τ g xs K=Z r):Sim N m E τ tm σ K r (iW c.pc f σ ys):=by
 unfold Mt at h;split at h
 case h_2=>cases h
 rename_i a bs rs hvs;split at h
 case h_2=>cases h
 rename_i hnd;rw[aK,aK]at hnd;obtain⟨hnd1,hnd2,hord⟩:=hnd;obtain⟨v,hv,h⟩:=oR h;obtain⟨i1,_,i2,i3,i4,i5⟩:=K7 hr hvs ho hord;have nb:=GW (vl hnd1) λ x hx y hy he=>hr.inj x y (i3 x hx).1 (i3 y hy).1 he;have nr:=Hh (vl hnd2) λ x hx y hy q e1 e2=>hr.rinj x y q (i4 x hx) (i4 y hy) e1 e2
 have hRlt:∀ q∈rs.filterMap m.r,q < I σ.rw := λ q hq=>by
  obtain⟨id,h1,h2⟩:=nL.1 hq;exact hr.row_lt (i4 id h1) h2
 have i2':(rrL ys++(bs.map m.b).flatMap λ b=>rrL (σ.bx.getD b []))=rs.filterMap m.r:=by rw[H9];exact i2
 obtain⟨s1,s2,s3⟩:=Lc i1 i2' nb nr (λ b hb=>by obtain⟨b0,h1,rfl⟩:=bu.1 hb;exact(i3 b0 h1).2) hRlt;have hd:=i5 [] [] nb nr;generalize hB:bs.map m.b=B at *;generalize hR:rs.filterMap m.r=R at *
 have hsg:xgP g (bO σ B R) (bB (λ b=>B.idxOf b) (λ r=>R.idxOf r) ys)=Z (.v (.int .i64 v),U):=by
  unfold xgP;have hd:dS (bO σ B R) g.args 0 0 (bB (λ b=>B.idxOf b) (λ r=>R.idxOf r) ys)=Z a:=hd;rw[hd];simp[hv]
 have hpc:iW c.pc f σ ys=Z (.v (.int .i64 v),U):=by
  unfold iW;have e1:c.pc.pf f=U:=by show(match c.has f with | true=>Z (cT c f) | false=>U)=_;rw[hh]
  have e2:c.pc.sp f=Z (xgP g):=by show c.spf f=_;unfold TC.spf;rw[hmf,hg]
  rw[e1,e2];unfold fd;rw[s3,s1,s2];simp only[hsg];rfl
 exact .same hr h hpc rfl
theorem xm: ∀sas L o,I (nn sas L o)=nBx sas
 |[],_,_=>rfl
 |.nil::sas,L,o|.clo _ _::sas,L,o|.val _::sas,L,o|.row _::sas,L,o=>xm sas L o
 |.box _::sas,L,o=>by rw[nn,bG,xm sas _ o.2,nBx]
theorem oc: ∀sas L o,I (eM sas L o)=nBx sas
 |[],_,_=>rfl
 |.nil::sas,L,o|.clo _ _::sas,L,o|.val _::sas,L,o|.row _::sas,L,o=>oc sas L o
 |.box _::sas,L,o=>by rw[eM,bG,oc sas _ o.2,nBx]
theorem T4: ∀c a xs,I (xW a c xs)=I a
 |[],a,xs=>by cases xs<;>rfl
 |b::c,a,[]=>rfl
 |b::c,a,x::xs=>by rw[xW,T4 c,dX]
theorem Sl{β}:∀a (l ks b:aa β),I ks=I a->dv l a (ks++b)=dv l a ks++b
 |[],l,ks,b,h=>by
   have:=cJ h;simp[dv]
 |r::a,l,[],b,h=>by simp at h
 |r::a,l,k::ks,b,h=>Sl a (l.set r k) ks b (by grind)
theorem Rel.moreBx{τ}(a:Rel N m E τ tm σ)(xs):Rel N m E τ tm {σ with bx:=σ.bx++xs}:=
 ⟨a.len,a.env,a.rw,a.nb,λ b cs d=>by
  let⟨ds,c,e⟩:=a.box b cs d;exact⟨ds,by show(σ.bx++xs)[_]?=_;rw[dY (getElem?_lt c)];exact c,e⟩,a.inj,a.rows,a.rinj,a.pin⟩
theorem KQ: ∀l v (p:Nat) R Q,(lr l v)[p]?=Z R->(nf l v)[p]?=Z Q->Q.c=R.l.map (aq R.τ)
 |[],v,p,R,Q,h,_=>by cases h
 |.val _::l,v,p,R,Q,h,g=>KQ l v.2 p R Q h g
 |.row a::l,v,0,R,Q,h,g=>by cases h;cases g;rfl
 |.row a::l,v,p+1,R,Q,h,g=>KQ l v.2 p R Q h g
theorem xk: ∀sas o (p:Nat) R Q,(iM sas o)[p]?=Z R->(fM sas o)[p]?=Z Q->Q.c=R.l.map (aq R.τ)
 |[],o,p,R,Q,h,_=>by cases h
 |.nil::sas,o,p,R,Q,h,g|.clo _ _::sas,o,p,R,Q,h,g|.val _::sas,o,p,R,Q,h,g|.row _::sas,o,p,R,Q,h,g=>xk sas o p R Q h g
 |.box l::sas,o,p,R,Q,h,g=>by
   have h:(lr l (toC l o.1)++iM sas o.2)[p]?=Z R:=h;have g:(nf l (toC l o.1)++fM sas o.2)[p]?=Z Q:=g;by_cases a:p<nR l
   .rw[dY (by rw[mT];exact a)]at h;rw[dY (by rw[oT];exact a)]at g;exact KQ l _ p R Q h g
   .rw[dy (by rw[mT];omega),mT]at h;rw[dy (by rw[oT];omega),oT]at g;exact xk sas o.2 _ R Q h g
theorem TF{f:Nat}{xs:aa TV}{ys:aa AV}(hr:Rel N m E τ tm σ)(ho:OKL m xs ys)(hh:c.has f=Y)(h:G0 c τ f xs K=Z r):Sim N m E τ tm σ K r (iW c.pc f σ ys):=by
 unfold G0 at h;split at h
 ·exact qjL hr ho hh ‹_› h
 rename_i hmf;split at h
 ·exact qiT hr ho hh hmf ‹_› h
 rename_i hxf;split at h
 case h_2=>cases h
 rename_i g hg;split at h
 case h_2=>cases h
 rename_i a bs rs hvs;split at h
 case h_2=>cases h
 rename_i hnd;rw[aK,aK]at hnd;obtain⟨hnd1,hnd2,hord⟩:=hnd;obtain⟨v,hv,h⟩:=oR h;obtain⟨rs',v',h,hnum,hsol⟩:=JU g.res (nBx g.args) (nrB g.args) v.2 (by rw[og];exact al _) h;obtain⟨i1,_,i2,i3,i4,i5⟩:=K7 hr hvs ho hord;have nb:=GW (f:=m.b) (vl hnd1) λ x hx y hy he=>hr.inj x y (i3 x hx).1 (i3 y hy).1 he;have nr:=Hh (f:=m.r) (vl hnd2) λ x hx y hy q e1 e2=>hr.rinj x y q (i4 x hx) (i4 y hy) e1 e2
 have hRlt:∀ q∈rs.filterMap m.r,q < I σ.rw := λ q hq=>by
  obtain⟨id,h1,h2⟩:=nL.1 hq;exact hr.row_lt (i4 id h1) h2
 have i2':(rrL ys++(bs.map m.b).flatMap λ b=>rrL (σ.bx.getD b []))=rs.filterMap m.r:=by rw[H9];exact i2
 obtain⟨s1,s2,s3⟩:=Lc (σ := σ) i1 i2' nb nr (λ b hb=>by obtain⟨b0,h1,rfl⟩:=bu.1 hb;exact(i3 b0 h1).2) hRlt;have hd:=i5 [] [] nb nr;rw[fS,fS]at hd;have hbl:=uI hvs (I σ.rw) v.1;have hBl:I (bs.map m.b)=nBx g.args:=by rw[ce,<- hbl,xm]
 generalize hB:bs.map m.b=B at *;generalize hR:rs.filterMap m.r=R at *;have hsl:(bO σ B R).rw.length=I R:=ce ..
 have hsg:sgP g (bO σ B R) (bB (λ b=>B.idxOf b) (λ r=>R.idxOf r) ys)=Z (cN (fC rs' (I R+nrB g.args) v'),Z ⟨eM g.args (I R) v.1++iF rs' (I R+nrB g.args) v',(bO σ B R).rw.map fP++(fM g.args v.1++eN rs' v'),List.range (bO σ B R).bx.length,List.range (bO σ B R).rw.length⟩):=by
  unfold sgP;have hd:dS (bO σ B R) g.args 0 0 (bB (λ b=>B.idxOf b) (λ r=>R.idxOf r) ys)=Z a:=hd;rw[hd];simp only[hv];rw[hsl];exact hsol _
 have hpc:iW c.pc f σ ys=Z (cN ((fC rs' (I σ.rw+nrB g.args) v').map λ y=>match y with | .ptr n o => .ptr (I σ.bx+(n-nBx g.args)) o | y=>y),Z (qp σ B R ⟨eM g.args (I R) v.1++iF rs' (I R+nrB g.args) v',(bO σ B R).rw.map fP++(fM g.args v.1++eN rs' v'),List.range (bO σ B R).bx.length,List.range (bO σ B R).rw.length⟩)):=by
  unfold iW;have e1:c.pc.pf f=U:=by show(match c.has f with | true=>Z (cT c f) | false=>U)=_;rw[hh]
  have e2:c.pc.sp f=Z (sgP g):=by show c.spf f=_;unfold TC.spf;rw[hmf,hxf,hg]
  rw[e1,e2];simp only;unfold fd;rw[s3,s1,s2];simp only[hsg,oA];rw[qjJ,Ge rs' (nBx g.args) (nrB g.args) v' (Bo hBl) hnum,hBl]
 obtain⟨m1,k1,k2,k3,k4,k5,k6⟩:=VX rs hr i4;obtain⟨l',l1,l2,l3⟩:=J2 R σ.rw ((bO σ B R).rw.map fP) (fM g.args v.1++eN rs' v') (by grind);have hbe:I (eM g.args (I σ.rw) v.1)=I B:=by rw[hBl,oc]
 have hbs:qp σ B R ⟨eM g.args (I R) v.1++iF rs' (I R+nrB g.args) v',(bO σ B R).rw.map fP++(fM g.args v.1++eN rs' v'),List.range (bO σ B R).bx.length,List.range (bO σ B R).rw.length⟩=⟨dv σ.bx B (eM g.args (I σ.rw) v.1)++iF rs' (I σ.rw+nrB g.args) v',l'++(fM g.args v.1++eN rs' v'),(List.range (bO σ B R).bx.length).map (cM B (I σ.bx)) ++ σ.wr,(List.range (bO σ B R).rw.length).map (cM R (I σ.rw)) ++ σ.wrr⟩:=by
  unfold qp;have h1:=xp (B:=B) (R:=R) (bn := I σ.bx) (rn := I σ.rw) g.args 0 v.1;have h2:=Fj (B:=B) (R:=R) (bn := I σ.bx) (rn := I σ.rw) rs' _ _ v' hnum;rw[dE,dE]at h1;simp only[ft,h1,h2,l1,Sl _ _ _ _ hbe]
 have hlow := λ id r h1 h2=>hr.row_lt (by rw[<- k5];exact h1) (k6 id r h2).1;let σ':St:=⟨σ.bx,l'++(fM g.args v.1++eN rs' v'),(List.range (bO σ B R).bx.length).map (cM B (I σ.bx)) ++ σ.wr,(List.range (bO σ B R).rw.length).map (cM R (I σ.rw)) ++ σ.wrr⟩
 have hrel:Rel N m1 E ⟨τ.bx,vt τ.rw rs⟩ tm σ':=by
  refine k2.rowsTo rfl λ id Rw hRw=>(k2.rows id Rw hRw).later λ q Q hq hQ=>?_;obtain⟨q1,q2⟩:=k6 id q hq;have hql:=hr.row_lt (by grind) q1;show(l'++_)[q]?=_;rw[dY (by rw[l2];exact hql),l3 q λ hm=>?_]
  ·exact hQ
  ·rw[<- hR]at hm;obtain⟨id',h1,h2⟩:=nL.1 hm;have:=hr.rinj id id' q (by grind) (i4 id' h1) q1 h2;subst this;exact q2 h1
 obtain⟨m2,z1,z2,z3,z4,z5,z6,z7⟩:=xj g.args (o:=v.1) hrel hlow λ k Q hk=>by
  show(l'++(fM g.args v.1++eN rs' v'))[I σ.rw+k]?=_;rw[dy (by rw[l2];omega),l2,th,dY (getElem?_lt hk)];exact hk
 have hkl:=qiX rs τ.rw;have z3:=z3;have z7:=z7;rw[hkl]at z3 z7;have hbx:=T6 bs z2 z3 (uI hvs _ v.1) λ b hb=>by rw[z6,k3];exact(i3 b hb).1
 rw[z5,k4,hB]at hbx
 have hsa:I (dv σ.bx B (eM g.args (I σ.rw) v.1)) = I σ.bx:=by
  obtain⟨lb,b1,b2,_⟩:=J2 B σ.bx (eM g.args (I σ.rw) v.1) [] hbe;rw[bZ,bZ]at b1;rw[b1,b2]
 have hbx2:=hbx.moreBx (iF rs' (I σ.rw+nrB g.args) v');have hsbl:I (xW τ.bx bs (nn g.args (I τ.rw) v.1)) = I τ.bx:=T4 _ _ _
 obtain⟨m3,y1,y2,y3⟩:=FE (bn := I τ.bx) (B := I σ.bx) (NB:=nBx g.args) rs' (nb:=nBx g.args) (d:=nrB g.args) (v:=v') hbx2 z4 (by show(vt τ.rw rs++iM g.args v.1).length=_;rw[aU,hkl,og]) (λ p R hp=>by
   have hpl:=getElem?_lt hp;rw[og]at hpl;obtain⟨R',g1,g2,g3,g4,g5⟩:=z7 p hpl
   have hRe:m2.rw[I τ.rw+p]?=Z R:=by
    rw[z2.rw];show(vt τ.rw rs++iM g.args v.1)[_]?=_;rw[dy (by rw[hkl];omega),hkl,th];exact hp
   cases hRe.symm.trans g1;refine⟨_,hRe,g2,g3,g4,rfl,g5,?_⟩;have hg:=hbx2.rows _ _ hRe;rw[g4]at hg;obtain⟨Q,q1,q2,_⟩:=hg;rw[<- q2];have q1:=q1;rw[dy (by rw[l2];omega),l2,th,dY (by rw[pZ];exact hpl)]at q1;exact xk g.args v.1 p _ _ hp q1) hnum (λ k Q hk=>by
  show(l'++(fM g.args v.1++eN rs' v'))[I σ.rw+nrB g.args+k]?=_;rw[dy (by rw[l2];omega),l2,show I σ.rw+nrB g.args+k - I σ.rw=nrB g.args+k by omega,dy (by rw[pZ];omega),pZ,th]
  exact hk) (by grind) (al _) (by grind) (λ b hb=>by
   rw[gF,dE,z5,k4];rw[z6,k3]at hb;obtain⟨ds,d1,_⟩:=hr.box b _ (aV (by rw[<- hr.nb];exact hb));exact getElem?_lt d1) (λ k ds hk=>by
   rw[gF,dE];show(dv σ.bx B (eM g.args (I σ.rw) v.1)++_)[_]?=_;rw[dy (by rw[hsa];omega),hsa,th];exact hk)
 have y2:=y2;rw[bE,aU,hkl,og]at y2;have y3:=y3;rw[aU,hkl,og]at y3;rw[hpc,hbs];exact .to h rfl (k1.trans (z1.trans y1)) y2 (Tm y3)
end
abbrev Ii:=@TC.lo_eq
end
section
open RowKit
section
variable {α:Type}{N:Nat×Nat}{m:Mp}{E:Env}{τ:TS}{tm:aa AV}{σ:St}{K:KT α}{r:α}{p:ac (AV×ac St)}{c:TC}{C:Cfg}
theorem qlI{rw:aa cm}{a:Ty}{f:Nat}{cs:aa TV}{v:Val a}(h:jK rw a (.fn f cs)=Z v):False:=by
 unfold jK at h;cases a with
 |int k|bool|str|list a|map a b|term|pair a b|one a=>cases h
theorem TW{σ b a:Type}{p:σ->ac b}{q:aa σ->ac a}{xs:aa σ}{v:b×a}(h:pD p q xs=Z v):∃x r,xs=x::r/\p x=Z v.1/\q r=Z v.2:=by
 unfold pD at h;split at h<;>try cases h
 split at h<;>try cases h
 split at h<;>cases h;exact⟨_,_,rfl,by assumption,by assumption⟩
theorem Kj(hq:eH m σ):∀(ts:aa ATy) {xs:aa TV} {ys:aa AV} {v:lu ts},GK m.rw ts xs=Z v->OKL m xs ys ->
  pb ts (ys.map (cS σ.rw))=Z v/\jM (ys.map (cS σ.rw))=vp xs/\noRefs (ys.map (cS σ.rw))=O
 | [],xs,ys,v,h,ho=>by
   cases xs with
   | nil=>cases ho;exact⟨rfl,rfl,rfl⟩
   | cons x xs=>cases h
 | .val a::ts,xs,ys,v,h,ho=>by
   obtain⟨x,xs,rfl,hw,hws⟩:=TW h;obtain⟨y,r,rfl,h1,h2⟩:=ho;obtain⟨g1,_⟩:=rP hq hw h1;obtain⟨k1,k2,k3⟩:=Kj hq ts hws h2;obtain⟨p1,p2⟩:=yV g1;refine⟨?_,?_,?_⟩
   ·show pD _ _ (cS σ.rw y::r.map (cS σ.rw))=_;simp only[pD,g1,k1]
   ·rw[aZ]
    have e1:jM (cS σ.rw y::r.map (cS σ.rw))=jM (r.map (cS σ.rw)):=by
     generalize cS σ.rw y=z at p2;cases z<;>first | rfl | exact absurd rfl (p2 _ _)
    have e2:vp (x::xs)=vp xs:=by
     cases x<;>first | rfl | exact(qlI hw).elim
    rw[e1,e2,k2]
   ·rw[aZ];unfold noRefs at k3 |-
    rw[fm,p1,k3];rfl
 | .fn::ts,xs,ys,v,h,ho=>by
   change pFn _ xs=_ at h;unfold pFn at h;split at h
   case h_2=>cases h
   obtain⟨y,r,rfl,⟨ds,rfl,hd⟩,h2⟩:=ho;cases hd;obtain⟨k1,k2,k3⟩:=Kj hq ts h h2;refine⟨k1,?_,?_⟩
   ·show _::jM _=_::vp _;rw[k2]
   ·unfold noRefs at k3 |-
    rw[aZ,fm,k3];rfl
theorem Xg:∀(ts:aa Ty) (v:kE ts),OKL m (unL ts v) (gc ts v)/\noRefs (gc ts v)=O
 |[],_=>⟨rfl,rfl⟩
 |[a],v=>⟨⟨_,_,rfl,Gs a v,rfl⟩,by show(dO (cG a v)&&O)=O;rw[zl];rfl⟩
 |a::b::r,v=>by
   let⟨d,c⟩:=Xg (b::r) v.2;refine⟨⟨_,_,rfl,Gs a v.1,d⟩,?_⟩;show(dO (cG a v.1)&&noRefs (gc (b::r) v.2))=O;rw[zl,c];rfl
theorem TI{l:aa AV}(h:noRefs l=O):dO (.tup l)=O:=by
 have:=Ej h;unfold dO;rw[rb,rr,this.1,this.2];rfl
theorem ql2{xs:aa TV}{ys:aa AV}(h:OKL m xs ys)(a:noRefs ys=O):OK m (AA xs) (cN ys)/\dO (cN ys)=O:=by
 cases xs with
 |nil=>cases h;exact⟨⟨[],rfl,rfl⟩,rfl⟩
 |cons x xs=>
   obtain⟨y,r,rfl,c,b⟩:=h;cases xs with
   |nil=>
     cases b
     have:dO y=O:=by
      unfold noRefs at a;simpa using a
     exact⟨c,this⟩
   |cons x' xs=>
     obtain⟨f,g,rfl,e,d⟩:=b;exact⟨⟨_,rfl,⟨_,_,rfl,c,_,_,rfl,e,d⟩⟩,TI a⟩
theorem U9{a:Ty}(h:AL a=O)(v:Val a):isV (cG a v)=O:=by
 cases a<;>first|rfl|(cases h)
theorem U4:∀{ts:aa Ty} (v:kE ts),ts.all AL=O->(gc ts v).all isV=O
 |[],_,_=>rfl
 |[a],v,h=>by
   have:AL a=O:=by simpa using h
   show(isV (cG a v)&&O)=O;rw[U9 this];rfl
 |a::b::r,v,h=>by
   rw[fm,aK]at h;show(isV (cG a v.1)&&(gc (b::r) v.2).all isV)=O;rw[U9 h.1,U4 v.2 h.2];rfl
theorem qlP{ts:aa Ty}{v:kE ts}(h:ts.all AL=O):rY (cN (gc ts v))=O:=by
 have:=U4 v h;revert this;cases gc ts v with
 |nil=>intro _;rfl
 |cons x l=>
   cases l with
   |nil=>
     intro a;have a:isV x=O:=by simpa using a
     show rY x=O;cases x<;>first|rfl|(cases a)
   |cons y l=>intro a;exact a
theorem qk6{f:Nat}{xs:aa TV}{ys:aa AV}(hr:Rel N m E τ tm σ)(ho:OKL m xs ys)(h:Ng c τ f xs K=Z r):Sim N m E τ tm σ K r (iW c.pc f σ ys):=by
 unfold Ng at h;split at h
 case h_2=>cases h
 case h_3 hh=>exact TF hr ho hh h
 rename_i g hh hg;split at h<;>try cases h
 rename_i a ha;obtain⟨v,hv,h⟩:=oR h;rw[<- hr.rw]at ha;obtain⟨g1,g2,g3⟩:=Kj hr.rows g.args ha ho;obtain⟨e1,e2⟩:=Xg (m:=m) g.res v;obtain⟨e3,e4⟩:=ql2 e1 e2;have hp:c.pc.pf f=Z (cT c f):=by show(match c.has f with | true=>Z (cT c f) | false=>U)=_;rw[hh]
 have hs:cT c f (ys.map (cS σ.rw))=Z (cN (gc g.res v)):=by
  unfold cT;rw[g2,hg];simp only[g1,hv]
 have hst:iW c.pc f σ ys=match rY (cN (gc g.res v)),ys.flatMap rsA with
   | true,_| _,[]=>Z (cN (gc g.res v),U)
   | _,r::l=>Z (cN (gc g.res v),Z { σ with rw:=frz σ.rw (r::l),wrr:=(r::l) ++ σ.wrr }):=by
  unfold iW;simp only[hp,g3,hs,e4];rfl
 rw[hst];split at h
 ·rename_i hno;rcases Bool.or_eq_true_iff.1 hno with hno | hno
  ·rw[LD hno ho];refine .same hr h ?_ e3;cases rY (cN (gc g.res v))<;>rfl
  ·rw[qlP hno];exact .same hr h rfl e3
 ·split
  ·exact⟨_,Z (shA τ),_,U,shM m,h,rfl,ph m,hr.share rfl hr.rows.sh,e3.mono (ph m),λ h=>by cases h⟩
  ·exact⟨_,Z (shA τ),_,U,shM m,h,rfl,ph m,hr.share rfl hr.rows.sh,e3.mono (ph m),λ h=>by cases h⟩
  ·exact .to h rfl (ph m) (hr.share (σ':={ σ with rw:=frz σ.rw _,wrr:=_ }) rfl (hr.rows.frz _ _)) (e3.mono (ph m))
end
end
section
open RowKit
section
variable {α:Type}{N:Nat×Nat}{m:Mp}{E:Env}{τ:TS}{tm:aa AV}{σ:St}{K:KT α}{r:α}{p:ac (AV×ac St)}{c:TC}{C:Cfg}
theorem MC{a:Ty}{b:aa (aa AV)}{l:aa (Val a)}(h:ci (bq a) b=Z l):uni a.size b=O:=by
 unfold uni;rw[bJ];intro e d;let⟨i,c⟩:=lI d;let⟨v,_,f⟩:=oS h c;let⟨pre,k,j,g,_⟩:=iS a (dJ.1 f);grind
theorem J9{n bytes:Nat}(h:bM n bytes=O):n*bytes<=2^47/\n<2^62:=bH h
theorem Xw{bytes:Nat}{a:Ty}{s:TV}{xs:aa (Val a)}{y:AV}{b:aa (aa AV)}(u:Rel N m E τ tm σ)(ho:OK m s y)(hd:ci (bq a) b=Z xs)(h:HG a.size bytes τ a s xs K=Z r):
  Sim N m E τ tm σ K r (eG a.size bytes σ y b):=by
 have d:=en hd;unfold HG at h;split at h
 .-- nil
  cases ho;unfold qB at h;split at h
  .have:b=[]:=cJ (by simpa using d);subst this;exact .same u h rfl rfl
  .rename_i x A;let⟨h1,h⟩:=jZ h;let⟨q1,q2⟩:=J9 h1;let⟨m',L,g2,g3⟩:=u.rowNew hd;have G:bN (fR b) 0=Y:=by simp[bN,fR,d]
   have F:I b=I A+1:=by simpa using d
   have t:rowNew a.size bytes b=Z (⟨a.size,b,0,0,Y⟩,I b):=by
    grind [rowNew]
   refine .to h (y:=.rs (I σ.rw) 0 (I b) 0 Y) (by simp only[eG,G,t]) L g2 ?_;rw[d];exact g3
 .-- a list
  rename_i a' l lv;split at h<;>try cases h
  rename_i z;have z:=bH z;split at h<;>try cases h
  rename_i l X;obtain⟨e,rfl⟩:=jW X;subst e;let⟨h1,h⟩:=jZ h;let⟨q1,q2⟩:=J9 h1;unfold qB at h;split at h
  .have:b=[]:=cJ (by simpa using d);subst this;refine .same u h ?_ ho;obtain⟨rfl,_⟩|⟨g,n,rfl,_⟩:=fL ho.1<;>rfl
  rename_i x A _;have G:bN (fR b) 0=Y:=by simp[bN,fR,d]
  have F:I b=I A+1:=by simpa using d
  let⟨a0,aE⟩:=ho;obtain⟨rfl,W⟩|⟨g,n,rfl,h2⟩:=fL a0
  .have W:l=[]:=W;subst W;let⟨m',L,g2,g3⟩:=u.rowNew hd
   have t:rowNew a'.size bytes b=Z (⟨a'.size,b,0,0,Y⟩,I b):=by
    grind [rowNew]
   refine .to h (y:=.rs (I σ.rw) 0 (I b) 0 Y) (by simp only[eG,G,t]) L g2 ?_;rw[d];exact g3
  .have C:=rB h2 hd;have T:=en C;let⟨m',L,g2,g3⟩:=u.rowNew C
   have t:rowNew a'.size bytes (oC g b)=Z (⟨a'.size,oC g b,0,0,Y⟩,I (oC g b)):=by
    grind [rowNew,oC]
   have hc:(J (1<n+1)&&bN a'.size a'.size&&uni a'.size g)=O:=by
    have:1<n+1:=cU z aE;simp only[cO this,bN,kQ,MC h2,nN]
   refine .to h (y:=.rs (I σ.rw) 0 (I (oC g b)) 0 Y) (by simp only[eG,G,hc,t];rfl) L g2 ?_;show OK m' _ (.rs _ 0 (I (g++b)) 0 Y);rw[T];exact g3
 .-- a row
  rename_i id D;split at h<;>try cases h
  rename_i R H;split at h<;>try cases h
  rename_i hv;have hv:R.ver=D:=cg hv;split at h<;>try cases h
  rename_i l X;obtain⟨e,rfl⟩:=jW X;subst e;let⟨h1,h⟩:=jZ h;let⟨q1,q2⟩:=J9 h1;let⟨R',L,g2,g3,g4⟩:=ho;rw[u.rw,H]at L;cases L;have a1:m.rw[id]?=Z R:=by rw[u.rw];exact H
  have gy:=g4 hv;clear g4;subst hv;obtain⟨rr,Q,B,hy,k1,k2,kv,k3,k4,kf,ks⟩|⟨B,hq,hy,z⟩:=rU u.rows a1 gy
  .have a2:=en k4;have az:rr<I σ.rw:=getElem?_lt k1;by_cases he:xs=[]
   .subst he;have:b=[]:=cJ (by simpa using d);subst this
    let⟨m',S,P,M⟩:=u.rowUpd (R2:=⟨R.τ,R.l++[],R.ver+1,R.sv,R.sh⟩) H (m.r id) (m.v id) (m.q id) (eO _) (al _) (λ h=>by have:R.ver+1=R.ver:=h;omega) (σ':=σ) rfl
     (by rw[B];exact⟨Q,k1,k2,kv,k3,by rw[bZ];exact k4,kf,ks⟩) λ k j w o i=>⟨λ p=>by rw[B]at p;exact u.others H B w o i (kO p).symm,λ _ h=>h⟩
    refine⟨_,Z _,y,U,m',h,by rw[hy];rfl,S,P,M y ?_,λ h=>by cases h⟩;grind
   .have G:bN (fR b) 0=Y:=by
      grind [bN,fR]
    have ab:yc Q R.τ.size 0 (I Q.c) Q.ver Y bytes b=Z ({Q with c:=Q.c++b,ver:=Q.ver+1},I Q.c+I b):=by
     grind [yc]
    let⟨m',S,P,M⟩:=u.rowUpd (R2:=⟨R.τ,R.l++xs,R.ver+1,R.sv,R.sh⟩) H (Z rr) (Q.ver+1) (Q.c++b) (eO _) (al _) (λ h=>by have:R.ver+1=R.ver:=h;omega)
     (σ':={σ with rw:=σ.rw.set rr {Q with c:=Q.c++b,ver:=Q.ver+1},wrr:=rr::σ.wrr}) rfl
     ⟨{Q with c:=Q.c++b,ver:=Q.ver+1},by show(σ.rw.set rr _)[rr]?=_;rw[gh az],rfl,rfl,k3,rB k4 hd,by show Q.fz<=I (Q.c++b);rw[aU];omega,ks⟩ λ k j w o i=>by
      have an:=u.others H B w o i;exact⟨λ p=>an (kO p).symm,λ Q' ad=>by show(σ.rw.set rr _)[j]?=_;rw[jA (oO an)];exact ad⟩
    refine .to h (y:=.rs rr 0 (I Q.c+I b) (Q.ver+1) Y) (by rw[hy];simp only[eG,G,k1,ab]) S P (M _ ?_);show _=AV.rs rr 0 (I (R.l++xs)) (Q.ver+1) Y;grind
  .have ar:∀k j,k≠id->k<I m.rw->m.r k=Z j->j<I σ.rw:=λ _ _ _ o h=>u.row_lt o h;by_cases he:xs=[]
   .subst he;have:b=[]:=cJ (by simpa using d);subst this
    let⟨m',S,P,M⟩:=u.rowUpd (R2:=⟨R.τ,R.l++[],R.ver+1,R.sv,R.sh⟩) H U 0 [] (eO _) (al _) (λ h=>by have:R.ver+1=R.ver:=h;omega) (σ':=σ) rfl
     (λ hs=>by show R.l++[]=[];rw[hq hs];rfl) λ k j w o i=>⟨λ p=>(by cases p),λ _ h=>h⟩
    refine⟨_,Z _,y,U,m',h,?_,S,P,M y ⟨by show dlist R.τ y=Z (R.l++[]);rw[bZ];exact hy,z⟩,λ h=>by cases h⟩;obtain⟨rfl,_⟩|⟨b,n,rfl,_⟩:=fL hy<;>rfl
   .have G:bN (fR b) 0=Y:=by
      grind [bN,fR]
    have ax:∀f,ci (bq R.τ) f=Z (R.l++xs)->eG R.τ.size bytes σ y b=(match Go.AmZ.rowNew R.τ.size bytes f with|some (R,n)=>Z (.rs (I σ.rw) 0 n 0 Y,Z {σ with rw:=σ.rw++[R]})|none=>U)->Sim N m E τ tm σ K r (eG R.τ.size bytes σ y b):=by
     intro f C ab;have F:=en C;rw[aU]at F
     have t:rowNew R.τ.size bytes f=Z (⟨R.τ.size,f,0,0,Y⟩,I f):=by
      grind [rowNew]
     let⟨m',S,P,M⟩:=u.rowUpd (R2:=⟨R.τ,R.l++xs,R.ver+1,R.sv,R.sh⟩) H (Z (I σ.rw)) 0 f (eO _) (al _) (λ h=>by have:R.ver+1=R.ver:=h;omega)
      (σ':={σ with rw:=σ.rw++[⟨R.τ.size,f,0,0,Y⟩]}) rfl
      ⟨⟨R.τ.size,f,0,0,Y⟩,by show(σ.rw++[_])[I σ.rw]?=_;simp,rfl,rfl,rfl,C,aL _,λ _=>⟨rfl,rfl⟩⟩ λ k j w o i=>by
        have:=ar k j w o i;exact⟨λ p=>by have:=kO p;omega,λ Q' ad=>by show(σ.rw++[_])[j]?=_;rw[dY this];exact ad⟩
     refine .to h (y:=.rs (I σ.rw) 0 (I f) 0 Y) (by rw[ab,t]) S P (M _ ?_);show _=AV.rs (I σ.rw) 0 (I (R.l++xs)) 0 Y;rw[aU,F]
    obtain⟨rfl,X⟩|⟨g,n,rfl,X⟩:=fL hy
    .grind [eG]
    .have hc:(J (1<n+1)&&bN R.τ.size R.τ.size&&uni R.τ.size g)=O:=by
       have:1<n+1:=z;simp only[cO this,bN,kQ,MC X,nN]
     exact ax (oC g b) (rB X hd) (by simp only[eG,G,hc];rfl)
 .cases h
end
end
section
open RowKit
section
variable {α:Type}{N:Nat×Nat}{m:Mp}{E:Env}{τ:TS}{tm:aa AV}{σ:St}{K:KT α}{r:α}{p:ac (AV×ac St)}{c:TC}{C:Cfg}
theorem SR{m':Mp}:∀{xs:aa TV}{ys:aa AV},(xs.all λ|.i .. |.b _|.s _|.c _|.nil|.sl .. => O|_=>Y)=O->OKL m xs ys->OKL m' xs ys
 |[],_,_,h=>h
 |x::xs,_,h,⟨y,r,rfl,d,a⟩=>by
   rw[fm,aK]at h;refine⟨y,r,rfl,?_,SR h.2 a⟩;have h:=h.1;cases x<;>first|exact d|(cases h)
theorem qj0{m':Mp}{x:TV}{y:AV}(h:MF x=O)(a:OK m x y):OK m' x y:=by
 cases x with
 |fn f cs=>
   have:cs=[]:=by simpa[MF,wi]using h
   subst this;obtain⟨ds,rfl,b⟩:=a;cases b;exact⟨[],rfl,rfl⟩
 |agg cs=>
   obtain⟨ds,rfl,b⟩:=a;exact⟨ds,rfl,SR h b⟩
 |_=>first|exact a|(cases h)
structure mv (m:Mp) (tm:List AV) (σ:St) (M:Mv) (m':Mp):Prop where
 rw:m'.rw=M.rw
 nb:m'.nb=M.bx.length
 box:∀b cs,M.bx[b]?=Z cs->∃ds,σ.bx[m'.b b]?=Z ds/\OKL m' cs ds
 src:∀b',b'<m'.nb->∃b,eL M.mb b=Z b'/\m'.b b'=m.b b/\b<m.nb
 mb:∀b b',eL M.mb b=Z b'->b'<m'.nb/\m'.b b'=m.b b
 rows:eH m' σ
 rsrc:∀id' r,id'<m'.rw.length->m'.r id'=Z r->∃id,eL M.mr id=Z id'/\m.r id=Z r/\id<m.rw.length
 mr:∀id id',eL M.mr id=Z id'->∃R R',m.rw[id]?=Z R/\m'.rw[id']?=Z R'/\R'.ver=0/\(∀y,hZ (m.r id) (m.v id) R.τ R.l y->hZ (m'.r id') (m'.v id') R'.τ R'.l y)
 env:∀t,OK m' (get M.E t) (tm.getD t .dead)
theorem Sy{b a k v:Nat}{l:aa (Nat×Nat)}(h:eL ((k,v)::l) b=Z a):(k=b/\v=a)\/(k≠b/\eL l b=Z a):=by
 simp only[eL]at h;split at h
 .grind [Nat.eq_of_beq_eq_true]
 .next c=>exact .inr ⟨λ d=>by rw[d]at c;simp at c,h⟩
theorem SL{k v:Nat}{l:aa (Nat×Nat)}:eL ((k,v)::l) k=Z v:=by simp[eL]
theorem VW{b k v:Nat}{l:aa (Nat×Nat)}(h:k≠b):eL ((k,v)::l) b=eL l b:=by
 grind [eL,Nat.eq_of_beq_eq_true]
theorem mv.addRow{M:Mv}{m':Mp}(h:mv m tm σ M m')(R2:cm)(d:ac Nat)(f:Nat)(p:aa (aa AV)){e:aa (Nat×Nat)}(G:R2.ver=0)
  (F:kg σ R2 d f p)
  (w:(e=M.mr/\d=U)\/∃id R,eL M.mr id=U/\e=(id,I M.rw)::M.mr/\d=m.r id/\m.rw[id]?=Z R/\∀y,hZ (m.r id) (m.v id) R.τ R.l y->hZ d f R2.τ R2.l y):
  ∃g,MLe m' g/\mv m tm σ {M with rw:=M.rw++[R2],mr:=e} g/\∀y,hZ d f R2.τ R2.l y->OK g (.row (I M.rw) 0) y:=by
 have i:MLe m' (m'.add R2 d f p):=AF _ _ _ _ _;have L:∀{id:Nat}{R:cm},m'.rw[id]?=Z R->(m'.rw++[R2])[id]?=Z R/\¬ id=I m'.rw:=λ h=>⟨by rw[dY (getElem?_lt h)];exact h,Bn (getElem?_lt h)⟩
 refine⟨m'.add R2 d f p,i,?_,?_⟩
 .refine⟨by show m'.rw++_=M.rw++_;rw[h.rw],h.nb,?_,h.src,h.mb,Gd h.rows F λ _ _ h=>h,?_,?_,λ t=>(h.env t).mono i⟩
  .intro b cs E;let⟨ds,s,o⟩:=h.box b cs E;exact⟨ds,s,o.mono i⟩
  .intro a r n j;change a<I (m'.rw++[_]) at n;change (if a=I m'.rw then d else m'.r a)=Z r at j;simp at n;split at j
   .rename_i c;obtain⟨_,C⟩|⟨id,R,s,o,g3,q,_⟩:=w
    .rw[C]at j;cases j
    .refine⟨id,?_,by rw[<-g3];exact j,getElem?_lt q⟩;show eL e id=Z a;rw[o,SL,c,h.rw]
   .let⟨id,A,z,x⟩:=h.rsrc a r (by omega) j;grind [VW]
  .intro id a c;change eL e id=Z a at c
   have k:eL M.mr id=Z a->∃R R',m.rw[id]?=Z R/\(m'.rw++[R2])[a]?=Z R'/\R'.ver=0/\(∀y,hZ (m.r id) (m.v id) R.τ R.l y->hZ (if a=I m'.rw then d else m'.r a) (if a=I m'.rw then f else m'.v a) R'.τ R'.l y):=by
    intro c;let⟨N,R',A,z,x,K⟩:=h.mr id a c;grind
   obtain⟨D,_⟩|⟨B,R,s,o,g3,q,H⟩:=w
   .rw[D]at c;exact k c
   .rw[o]at c;obtain⟨rfl,rfl⟩|⟨_,c⟩:=Sy c
    .refine⟨R,R2,q,by show(m'.rw++_)[I M.rw]?=_;rw[h.rw];simp,G,?_⟩;show ∀y,_->hZ (if I M.rw=I m'.rw then d else m'.r (I M.rw)) (if I M.rw=I m'.rw then f else m'.v (I M.rw)) _ _ y;rw[ag (by rw[h.rw]),ag (by rw[h.rw])];exact H
    .exact k c
 .intro y u;refine⟨R2,by show(m'.rw++_)[I M.rw]?=_;rw[h.rw];simp,aL _,u.ish,λ _=>?_⟩;show hZ (if I M.rw=I m'.rw then d else m'.r (I M.rw)) (if I M.rw=I m'.rw then f else m'.v (I M.rw)) _ _ y;rw[ag (by rw[h.rw]),ag (by rw[h.rw])];exact u
theorem mv.addBox{M:Mv}{m':Mp}(h:mv m tm σ M m'){b:Nat}(r:b<m.nb)(s:eL M.mb b=U){ys:aa TV}{ds:aa AV}(q:σ.bx[m.b b]?=Z ds)(p:OKL m' ys ds):
  ∃g,MLe m' g/\mv m tm σ {M with bx:=M.bx++[ys],mb:=(b,I M.bx)::M.mb} g/\OK g (.ptr (I M.bx) 0) (.ptr (m.b b) 0):=by
 have d:MLe m' {m' with b:=λ i=>if i=m'.nb then m.b b else m'.b i,nb:=m'.nb+1}:=
  ⟨eO _,λ i e=>af (Bn e),λ id R h=>⟨R,h,al _,al _,λ _=>⟨rfl,rfl,rfl,rfl,(λ _=>rfl),λ _ _ h=>h⟩⟩⟩
 refine⟨_,d,?_,?_⟩
 .refine⟨h.rw,by show m'.nb+1=I (M.bx++[ys]);rw[h.nb];simp,?_,?_,?_,h.rows,h.rsrc,h.mr,λ t=>(h.env t).mono d⟩
  .intro i cs e;change (M.bx++[ys])[i]?=Z cs at e;show ∃ds,σ.bx[if i=m'.nb then m.b b else m'.b i]?=Z ds/\_;by_cases j:i=m'.nb
   .rw[ag j];rw[j,h.nb]at e;simp at e;subst e;exact⟨ds,q,p.mono d⟩
   .rw[af j];have l:i<I M.bx:=by have:=getElem?_lt e;simp at this;have:=h.nb;omega
    rw[dY l]at e;let⟨o,n,k⟩:=h.box i cs e;exact⟨o,n,k.mono d⟩
  .intro c a;change c<m'.nb+1 at a;show ∃f,eL ((b,I M.bx)::M.mb) f=Z c/\(if c=m'.nb then m.b b else m'.b c)=m.b f/\f<m.nb;by_cases j:c=m'.nb
   .exact⟨b,by rw[SL,j,h.nb],ag j,r⟩
   .let⟨f,n,k,g3⟩:=h.src c (by omega);refine⟨f,?_,by rw[af j];exact k,g3⟩;grind [VW]
  .intro f c a;change eL ((b,I M.bx)::M.mb) f=Z c at a;show c<m'.nb+1/\(if c=m'.nb then m.b b else m'.b c)=m.b f;obtain⟨rfl,rfl⟩|⟨_,a⟩:=Sy a
   .rw[<-h.nb];grind
   .let⟨n,k⟩:=h.mb f c a;grind
 .refine⟨?_,?_⟩
  .show (I M.bx)<m'.nb+1;rw[h.nb];exact tk _
  .show _=AV.ptr (if I M.bx=m'.nb then m.b b else m'.b (I M.bx)) 0;rw[ag h.nb.symm]
mutual
theorem XD(hr:Rel N m E τ tm σ):∀(co:Co) {x:TV} {y:AV} {M:Mv} {m':Mp} {K:TV->Mv->ac α} {r : α},mvT τ co x M K=Z r->OK m x y->mv m tm σ M m' ->
  ∃ x' M' m'',K x' M'=Z r/\MLe m' m''/\mv m tm σ M' m''/\OK m'' x' y/\M'.E=M.E
 | .keep,x,y,M,m',K,r,h,ho,hM=>by
   simp only[mvT]at h;split at h
   ·next hp=>exact⟨x,M,m',h,.refl m',hM,qj0 hp ho,rfl⟩
   ·exact⟨.dead,M,m',h,.refl m',hM,trivial,rfl⟩
 | .list a,x,y,M,m',K,r,h,ho,hM=>by
   simp only[mvT]at h;split at h
   ·cases ho;exact⟨_,M,m',h,.refl m',hM,⟨rfl,by decide⟩,rfl⟩
   ·split at h<;>try cases h
    next l hl=>obtain⟨e,rfl⟩:=jW hl;subst e;exact⟨_,M,m',h,.refl m',hM,⟨ho.1,E5 ho.1⟩,rfl⟩
   ·exact⟨.dead,M,m',h,.refl m',hM,trivial,rfl⟩
 | .plist a,x,y,M,m',K,r,h,ho,hM=>by
   simp only[mvT]at h;split at h
   ·cases ho;exact⟨_,M,m',h,.refl m',hM,⟨rfl,by decide⟩,rfl⟩
   ·split at h<;>try cases h
    next l hl=>obtain⟨e,rfl⟩:=jW hl;subst e;exact⟨_,M,m',h,.refl m',hM,⟨ho.1,E5 ho.1⟩,rfl⟩
   ·exact⟨.dead,M,m',h,.refl m',hM,trivial,rfl⟩
 | .row a sh,x,y,M,m',K,r,h,ho,hM=>by
   simp only[mvT]at h;split at h
   ·cases ho;obtain⟨m'',g1,g2,g3⟩:=hM.addRow ⟨a,[],0,0,sh⟩ U 0 [] rfl (λ _=>rfl) (.inl ⟨rfl,rfl⟩);exact⟨_,_,m'',h,g1,g2,g3 _ ⟨rfl,al _⟩,rfl⟩
   ·rename_i a' l lv;split at h<;>try cases h
    rename_i l hl hlv;obtain⟨e,rfl⟩:=jW hl;subst e;have hlv:=bH hlv;obtain⟨ho1,ho2⟩:=ho;split at h
    ·obtain⟨m'',g1,g2,g3⟩:=hM.addRow ⟨a',l,0,0,O⟩ U 0 [] rfl (λ h=>by cases h) (.inl ⟨rfl,rfl⟩);exact⟨_,_,m'',h,g1,g2,g3 _ ⟨ho1,by omega⟩,rfl⟩
    ·split at h<;>try cases h
     next hnil=>have hnil:l=[]:=hnil;subst hnil;obtain⟨m'',g1,g2,g3⟩:=hM.addRow ⟨a',[],0,0,Y⟩ U 0 [] rfl (λ _=>rfl) (.inl ⟨rfl,rfl⟩);exact⟨_,_,m'',h,g1,g2,g3 _ ⟨ho1,by omega⟩,rfl⟩
   ·rename_i id ver;split at h<;>try cases h
    rename_i R hR;split at h<;>try cases h
    rename_i hv;rw[aK]at hv;have hsh:=hv.2;have hv:R.ver=ver:=cg hv.1;split at h<;>try cases h
    rename_i l hl;obtain⟨e,rfl⟩:=jW hl;subst e;obtain⟨R',k1,_,_,k2⟩:=ho;rw[hr.rw,hR]at k1;cases k1;have hy:=k2 hv;have hR':m.rw[id]?=Z R:=by rw[hr.rw];exact hR
    split at h
    ·next id' has=>obtain⟨R0,R1,z1,z2,z3,z4⟩:=hM.mr id id' has;rw[hR']at z1;cases z1;exact⟨_,M,m',h,.refl m',hM,⟨R1,z2,aL _,hy.ish,λ _=>z4 y hy⟩,rfl⟩
    ·rename_i has;have hrow:=hr.rows id R hR'
     have hrow2:kg σ ⟨R.τ,R.l,0,0,sh⟩ (m.r id) (m.v id) (m.q id):=by
      have hs:sh=Y->R.sh=Y:=by
       intro h0;rw[h0]at hsh;simpa using hsh
      revert hrow;cases m.r id with
      | none=>intro hrow h0;exact hrow (hs h0)
      | some rr =>
        rintro⟨Q,q1,q2,q3,q4,q5,q6,q7⟩;exact⟨Q,q1,q2,q3,q4,q5,q6,λ h0=>q7 (hs h0)⟩
     obtain⟨m'',g1,g2,g3⟩:=hM.addRow ⟨R.τ,R.l,0,0,sh⟩ (m.r id) (m.v id) (m.q id) rfl hrow2 (.inr ⟨id,R,has,rfl,rfl,hR',λ _ h=>h⟩);grind
   ·cases h
 | .fn cs,x,y,M,m',K,r,h,ho,hM=>by
   cases x with
   | fn f xs =>
     simp only[mvT]at h;obtain⟨ds,rfl,hd⟩:=ho;obtain⟨ys,M1,m1,q1,q2,q3,q4,q5⟩:=MB hr cs h hd hM;exact⟨_,M1,m1,q1,q2,q3,⟨_,rfl,q4⟩,q5⟩
   | _=>simp only[mvT]at h;cases h
 | .box cs,x,y,M,m',K,r,h,ho,hM=>by
   simp only[mvT]at h;split at h
   case h_2=>exact⟨_,M,m',h,.refl m',hM,ho,rfl⟩
   case h_3 =>
    rename_i b;obtain⟨hb,rfl⟩:=ho;split at h
    ·next b' has=>obtain⟨g1,g2⟩:=hM.mb b b' has;exact⟨_,M,m',h,.refl m',hM,⟨g1,by rw[g2]⟩,rfl⟩
    ·rename_i has;split at h<;>try cases h
     next κ a l hxs=>obtain⟨ds,k1,y,r0,rfl,k2,k3⟩:=hr.box b _ hxs;cases k3;obtain⟨m3,z1,z2,z3⟩:=hM.addBox (ys:=[.mc κ a l]) hb has k1 ⟨y,[],rfl,k2,rfl⟩;exact⟨_,_,m3,h,z1,z2,⟨z3.1,by have e:=z3.2;simp only[AV.ptr.injEq]at e;rw[e.1]⟩,rfl⟩
   case h_4=>cases h
   rename_i b;obtain⟨hb,rfl⟩:=ho;split at h
   ·next b' has=>obtain⟨g1,g2⟩:=hM.mb b b' has;exact⟨_,M,m',h,.refl m',hM,⟨g1,by rw[g2]⟩,rfl⟩
   ·split at h<;>try cases h
    rename_i xs hxs;obtain⟨ds,k1,k2⟩:=hr.box b xs hxs;obtain⟨ys,M',m'',q1,q2,q3,q4,q5⟩:=MB hr cs h k2 hM;split at q1
    case h_2=>cases q1
    next has=>obtain⟨m3,z1,z2,z3⟩:=q3.addBox hb has k1 q4;exact⟨_,_,m3,q1,q2.trans z1,z2,z3,q5⟩
theorem MB(g:Rel N m E τ tm σ):∀(cs:aa Co) {xs:aa TV}{ys:aa AV}{M:Mv}{m':Mp}{K:aa TV->Mv->ac α}{r:α},mvL τ cs xs M K=Z r->OKL m xs ys->mv m tm σ M m'->
  ∃a e b,K a e=Z r/\MLe m' b/\mv m tm σ e b/\OKL b a ys/\e.E=M.E
 |[],xs,ys,M,m',K,r,h,c,d=>by
   cases xs with
   |nil=>simp only[mvL]at h;cases c;exact⟨[],M,m',h,.refl m',d,rfl,rfl⟩
   |cons x xs=>simp only[mvL]at h;cases h
 |co::cs,xs,ys,M,m',K,r,h,c,d=>by
   cases xs with
   |nil=>simp only[mvL]at h;cases h
   |cons x xs=>
     simp only[mvL]at h;obtain⟨y,rr,rfl,v,u⟩:=c;let⟨x',A,z,s,q,p,o,n⟩:=XD g co h v d;let⟨a,w,t,l,f,k,j,i⟩:=MB g cs s u p;exact⟨x'::a,w,t,l,q.trans f,k,⟨y,rr,rfl,o.mono f,j⟩,i.trans n⟩
end
theorem qmM{E:Env}{t:Nat}{x:TV}{s:Nat}{y:AV}{m':Mp}(c:OK m' (get E s) y)(b:t=s->OK m' x y):OK m' (get (E++[(t,x)]) s) y:=by
 induction E with
 |nil=>
   simp only[fS,get];split
   .grind [Nat.eq_of_beq_eq_true]
   .trivial
 |cons q E a=>
   grind [get]
theorem Xk{a:aa (Nat×Nat)}:∀{n:Nat},A5 a n=O->∀i,i<n->eL a i=Z i
 |0,_,i,b=>absurd b (eh _)
 |n+1,h,i,b=>by
   rw[A5,aK]at h;by_cases c:i=n
   .grind [Nat.eq_of_beq_eq_true]
   .exact Xk h.2 i (by omega)
theorem mv.rel(d:Rel N m E τ tm σ){M:Mv}{m':Mp}(h:mv m tm σ M m')(s:A5 M.mb N.2=O):Rel N m' M.E ⟨M.bx,M.rw⟩ tm σ:=by
 refine⟨d.len,h.env,h.rw,h.nb,h.box,?_,h.rows,?_,λ i n=>?_⟩
 rotate_right
 .have g:=Xk s i n;let⟨l,a⟩:=h.mb i i g;exact⟨l,a.trans (d.pin i n).2⟩
 .intro w v k j t;let⟨c,l,a,g3⟩:=h.src w k;let⟨b,o,f,e⟩:=h.src v j;have:c=b:=d.inj c b g3 e (by rw[<-a,<-f,t]);grind
 .intro q p r k j e1 u;let⟨c,l,a,g3⟩:=h.rsrc q r k e1;let⟨b,o,f,e⟩:=h.rsrc p r j u;have:c=b:=d.rinj c b r g3 e a f;grind
theorem Yb(c:Rel N m E τ tm σ):∀(l:aa (Tmp×Co)) {M:Mv}{m':Mp}{K:Env->TS->ac α}{r:α},mvE N.2 τ E l M K=Z r->mv m tm σ M m'->
  ∃f b d,K f b=Z r/\Rel N d f b tm σ
 |[],M,m',K,r,h,e=>by
   simp only[mvE]at h;split at h<;>try cases h
   next k=>exact⟨_,_,m',h,e.rel c k⟩
 |(t,o)::l,M,m',K,r,h,e=>by
   simp only[mvE]at h;let⟨x',u,j,i,q,a,g,p⟩:=XD c o h (c.env t) e;apply Yb c l i (m':=j);refine⟨a.rw,a.nb,a.box,a.src,a.mb,a.rows,a.rsrc,a.mr,λ s=>?_⟩;exact qmM (a.env s) λ n=>by subst n;exact g
theorem Nm(f:Rel N m E τ tm σ){l:aa (Tmp×Co)}{K:Env->TS->ac α}{r:α}(h:mvE N.2 τ E l ⟨[],[],[],[],[]⟩ K=Z r):∃d a c,K d a=Z r/\Rel N c d a tm σ:=
 Yb f l (m':=mp0) h
  ⟨rfl,rfl,λ b cs h=>by simp at h,λ g h=>absurd h (eh _),λ b g h=>by simp[eL]at h,λ id R h=>(by cases h),λ id r h=>absurd h (eh _),λ id e h=>by simp[eL]at h,λ t=>trivial⟩
end
end
section
open RowKit
section
variable {α:Type}{N:Nat×Nat}{m:Mp}{E:Env}{τ:TS}{tm:aa AV}{σ:St}{K:KT α}{r:α}{p:ac (AV×ac St)}{c:TC}{C:Cfg}
theorem qhp{b ts xs ys}(A:C.ty=c.ty)(f:Rel N m E τ tm σ)(u:OKL m xs ys)(h:KL c τ b ts xs K=Z r):Sim N m E τ tm σ K r (iA C σ b ts ys):=by
 unfold KL at h;split at h
 .rename_i x;obtain⟨y,r',rfl,g,o⟩:=u;cases o;split at h<;>try cases h
  rename_i t ht;split at h<;>try cases h
  rename_i d S;split at h<;>try cases h
  .rename_i s j;cases g;refine .same f h ?_ rfl;have:qN ⟨s.toArray⟩=I s:=by simp[qN,ByteArray.size]
   grind [iA,mE,zQ]
  .next j=>cases g;refine .same f h ?_ rfl;grind [iA,mE,om]
  .rename_i a l lv j;refine .same f h ?_ rfl;obtain⟨rfl,hl⟩|⟨es,n,rfl,hl⟩:=fL g.1
   .grind [iA,mE,om]
   .grind [iA,mE,om,fR,en]
  .rename_i id ab j;split at h<;>try cases h
   rename_i R W;split at h<;>try cases h
   rename_i hv;let⟨R',H,_,_,X⟩:=g;rw[f.rw,W]at H;cases H;have hy:=X (cg hv);refine .same f h ?_ rfl;rcases rU f.rows (by rw[f.rw];exact W) hy with⟨r,Q,_,rfl,_,_,_,_,g5,_⟩|⟨_,_,ad,_⟩
   .grind [iA,mE,om,en]
   .grind [iA,mE,om,fR,fL,en]
  .rename_i b j;split at h<;>try cases h
   rename_i κ a hm;split at h<;>try cases h
   next b0 l B=>let⟨_,_,_,_,vz,i,_⟩:=Fa hm;rw[S]at i;cases i;let⟨_,ks,vs,F,D⟩:=J6 f g B;refine .same f h ?_ rfl;have hz:∀d,∀b,mE d (.mp b)=U:=λ _ _=>rfl;obtain⟨_,rfl⟩:=g;simp[iA,ht,A,S,hz,Ho,F,(Ab D).1]
 .rename_i s x;obtain⟨y,P,rfl,g,z,M,rfl,o,q⟩:=u;cases q;split at h<;>try cases h
  split at h<;>try (cases h;done)
  .rename_i k bytes zz _ _ _ _ _ _ _ _ a G i he;split at h<;>try cases h
   rename_i T;simp at T;split at h<;>try cases h
   next xs p=>rw[<-f.rw]at p;let⟨es,H,X,_⟩:=Ao f.rows p o;grind [iA,Xw,MC,decide_true,Bool.and_self]
  .rename_i L _ _ _ _ _ G i he;split at h<;>try (cases h;done)
   rename_i w T;cases o;have:=Xw (a:=.int .u8) f g (Tf w) h
   have e:iA C σ .append ts [y,.v (.string ⟨w.toArray⟩)]=eG 1 L σ y (me ⟨w.toArray⟩):=by
    grind [iA]
   rw[e];exact this
 .obtain⟨y,P,rfl,g,z,M,rfl,o,q⟩:=u;cases q;cases g;cases o;split at h<;>try cases h
  next j=>exact .same f h (by simp[iA,j]) rfl
 .obtain⟨y,P,rfl,g,z,M,rfl,o,q⟩:=u;cases q;cases g;cases o;split at h<;>try cases h
  next j=>exact .same f h (by simp[iA,j]) rfl
 .cases h
theorem ML{op}(a:Rel N m E τ tm σ)(h:opT c E τ op K=Z r):Sim N m E τ tm σ K r (kD c.pc tm σ op):=by
 unfold opT at h;split at h
 .exact qhp rfl a (a.evs _) h
 .rename_i g b ts;split at h<;>try cases h
  rename_i f cs k;split at h<;>try cases h
  rename_i d;have d:c.pc.inl f=U:=d;have e:=a.ev g;rw[k]at e;let⟨ds,e,i⟩:=e;split at h
  .cases i;have:=qk6 a (a.evs (V b)) h;grind [kD]
  .split at h<;>try cases h
   next j=>have:=TF a ((a.evs (V b)).append i) j h;grind [kD]
 .cases h
 .next o n l=>have:=qk2 (C:=c.pc.cfg) rfl a h;grind [kD]
theorem Rel.put(a:Rel c.n2 m E τ tm σ){d x y}(j:OK m x y){K}(h:Bd c E d x K=Z r):∃f,K f=Z r/\Rel c.n2 m f τ (ic tm d y) σ:=by
 unfold Bd at h;split at h
 .exact⟨E,h,a⟩
 .rename_i d;split at h<;>try cases h
  rename_i e;have e:=Nat.lt_of_succ_le (by simpa[Nat.blt]using e);refine⟨_,h,?_⟩;refine⟨by show(tm.set d y).length=_;rw[dX];exact a.len,λ t=>?_,a.rw,a.nb,a.box,a.inj,a.rows,a.rinj,a.pin⟩;show OK m (get ((d,x)::E) t) ((tm.set d y).getD t .dead);have i:d<I tm:=by rw[a.len];exact e
  simp[get];split
  .grind [Nat.eq_of_beq_eq_true,List.getElem?_set_self]
  .rename_i b;have b:d≠t:=λ g=>by rw[g]at b;simp at b
   have:=a.env t;grind
theorem Rel.know(a:Rel N m E τ tm σ){d x}(h:OK m x (tm.getD d .dead)):Rel N m ((d,x)::E) τ tm σ:=by
 refine⟨a.len,λ t=>?_,a.rw,a.nb,a.box,a.inj,a.rows,a.rinj,a.pin⟩;simp[get];split
 .grind [Nat.eq_of_beq_eq_true]
 .exact a.env t
theorem Vn{ops o K}(e:Rel N m E τ tm σ)(h:MW ops E o K=Z r):∃w g,dh ops tm o=Z w/\K w g=Z r/\Rel N m g τ tm σ:=by
 unfold MW at h;unfold dh;split at h
 .grind
 .rename_i j c i;rw[i];simp only;split at h<;>try cases h
  rename_i d f;rw[f];simp only;have a:=e.env d;split at h<;>try cases h
  .rename_i x b;rw[b]at a;rw[a];cases c with
   |true=>
     cases x with
     |true=>exact⟨O,_,rfl,h,e.know a⟩
     |false=>exact⟨Y,_,rfl,h,e.know a⟩
   |false=>
     cases x with
     |true=>exact⟨Y,_,rfl,h,e.know a⟩
     |false=>exact⟨O,_,rfl,h,e.know a⟩
  .next b=>rw[b]at a;let⟨ds,a,f⟩:=a;cases f;grind
theorem xw(a:Rel N m E τ tm σ){ops k t b}(h:qF E ops k t=Z b):b<m.nb/\eI tm ops k t=Z (m.b b):=by
 unfold qF at h;unfold eI;split at h<;>try cases h
 next u d=>split at h<;>cases h;next o c=>have:=a.env u;rw[c]at this;let⟨f,e⟩:=this;grind
theorem qmb(c:Rel N m E τ tm σ){ops k t}(h:Om E ops k t=O):na tm ops k t=O/\eI tm ops k t=U:=by
 unfold Om at h;unfold na eI;split at h<;>try cases h
 rename_i u b;split at h<;>try cases h
 next d=>have:=c.env u;rw[d]at this;let⟨R,_,_,_,a,_⟩:=this;rw[b];obtain⟨r,j,e,a⟩|⟨ds,a⟩:=a<;>simp only[a]<;>exact⟨rfl,by trivial⟩
mutual
theorem qoc:∀{x:TV}{y:AV}{l:aa Nat},OK m x y->rbT x=Z l->rb y=l.map m.b
 |.i ..,y,l,a,h|.b ..,y,l,a,h|.s ..,y,l,a,h=>by cases h;cases a;rfl
 |.c ..,y,l,a,h=>by cases h;obtain⟨_,rfl⟩:=a;rfl
 |.nil,y,l,a,h=>by cases h;cases a;rfl
 |.sl ..,y,l,a,h=>by cases h;obtain⟨rfl,_⟩|⟨e,n,rfl,_⟩:=fL a.1<;>rfl
 |.row ..,y,l,a,h=>by
   cases h;let⟨R,_,_,a,_⟩:=a;obtain rfl|⟨k,e,j,rfl⟩|⟨r,lo,n,g,f,rfl⟩:=a<;>rfl
 |.ptr b o,y,l,a,h=>by cases h;obtain⟨_,rfl⟩:=a;rfl
 |.pti b i,y,l,a,h=>by cases h;obtain⟨_,_,rfl⟩:=a;rfl
 |.rpt ..,y,l,a,h=>by cases h;let⟨R,_,_,_,a,_⟩:=a;obtain⟨r,i,g,rfl⟩|⟨ds,rfl⟩:=a<;>rfl
 |.ept ..,y,l,a,h=>by cases h;obtain⟨ds,rfl,_⟩:=a;rfl
 |.fn f cs,y,l,a,h|.agg cs,y,l,a,h|.tup cs,y,l,a,h=>by obtain⟨ds,rfl,d⟩:=a;exact xy d h
 |.dead,y,l,a,h=>by cases h
 |.mp b,y,l,a,h=>by cases h;obtain⟨_,rfl⟩:=a;rfl
 |.mc ..,y,l,a,h=>by cases h;obtain⟨ks,vs,rfl,_⟩:=ot a;rfl
theorem xy:∀{xs:aa TV}{ys:aa AV}{l:aa Nat},OKL m xs ys->sR xs=Z l->rbL ys=l.map m.b
 |[],ys,l,c,h=>by cases h;cases c;rfl
 |x::xs,ys,l,⟨y,r,e,i,g⟩,h=>by
   subst e;simp only[sR]at h;split at h<;>cases h;next a b f d=>rw[rbL,qoc i f,xy g d,ft]
end
theorem Xn(rw x):rb (bC rw x)=rb x:=by
 cases x<;>first|rfl|skip
 simp[bC];split
 .split<;>rfl
 .rfl
theorem UX(rw):∀l,rbL (l.map (bC rw))=rbL l
 |[]=>rfl
 |x::l=>by rw[aZ,rbL,rbL,Xn,UX rw l]
theorem qnH(rw x):rb (cS rw x)=rb x:=by
 unfold cS;split
 .exact UX rw _
 .exact Xn rw x
theorem U5(rw):∀l,rbL (l.map (cS rw))=rbL l
 |[]=>rfl
 |x::l=>by rw[aZ,rbL,rbL,qnH,U5 rw l]
theorem Ag: ∀{l seen b},b∈aB seen l->b∈l
 |[],_,b,h=>by cases h
 |c::l,seen,b,h=>by
   rw[aB]at h;split at h
   .exact aS _ (Ag h)
   .obtain rfl|h:=bi.1 h
    .exact aW ..
    .exact aS _ (Ag h)
theorem qlf{a}(h:∀b∈rbL a,rbL (σ.bx.getD b [])=[]){b}(d:b∈dP σ a):b∈rbL a:=by
 have f:(aB [] (rbL a)).flatMap (λ b=>rbL (σ.bx.getD b []))=[]:=qT.2 λ c g=>h c (Ag g);unfold dP at d;cases e:I σ.bx with
 |zero=>rw[e]at d;exact Ag d
 |succ n=>rw[e,xK,f]at d;exact Ag d
theorem qjG(r:Rel c.n2 m E τ tm σ){ops:aM Oper}{j:Nat}{op:Op}(h:GN c ops j E τ op=O):ml c.pc.cfg ops j tm σ op=O:=by
 unfold GN at h;unfold ml;rw[gR]at h |-
 refine h.imp id λ h=>?_;rw[bJ]at h |-
 intro p S;have:=h p S;let⟨q,i⟩:=p;simp only at this |-
 split
 .rename_i t a R;rw[R]at this;simp only[gR]at this |-
  refine this.imp id λ F=>?_;split at F
  .rename_i y l Q e;rw[aK,bJ]at F;let⟨z,G⟩:=xw r Q;rw[G]
   have A:m.b y<I σ.bx:=by
    let⟨ds,M,_⟩:=r.box y _ (aV (by rw[<-r.nb];exact z));exact getElem?_lt M
   simp only[aK,cC,fF];refine⟨A,?_⟩;rw[<-nQ,qoQ];intro T;unfold X3 at e;split at e<;>try cases e
   rename_i g N ts _;split at e<;>try cases e
   rename_i f cs W;split at e<;>try cases e
   rename_i l' k K
   have k:c.pc.cfg.inl f=U:=by
    show c.inl f=U;cases hc:c.inl f with
    |none=>rfl
    |some _=>rw[hc]at k;cases k
   split at e<;>cases e;rename_i d;rw[bJ]at d;have n:=r.ev g;rw[W]at n;let⟨u,n,w⟩:=n;have B:=xy ((r.evs (V N)).append w) K
   have L:∀b∈rbL (N.toList.map (aev tm)++u),rbL (σ.bx.getD b [])=[]:=by
    intro b P;rw[B]at P;obtain⟨x,o,rfl⟩:=bu.1 P;have:=d x o;unfold Ns at this;split at this<;>try cases this
    rename_i cs' v;split at this<;>try cases this
    next C=>let⟨ds,M,d2⟩:=r.box x cs' v;rw[fV M,xy d2 C];rfl
   have s:m.b y∈rbL (N.toList.map (aev tm)++u):=by
    simp only[GQ,rR,n,k]at T;grind [pt,qlf,U5]
   rw[B]at s;let⟨x,o,X⟩:=bu.1 s;have H:=F.2 x o
   have D:x<m.nb:=by
    have:=d x o;unfold Ns at this;split at this<;>try cases this
    next cs' v=>rw[r.nb];exact getElem?_lt v
   have:=r.inj x y D z X;subst this;simp at H
  .cases F
 .rfl
theorem Vf(b:Rel c.n2 m E τ tm σ){ops a j op}(h:(a && !(cQ c.loT op&&GN c ops j E τ op))=Y):(a && !(cQ c.pc.cfg.lo op&&ml c.pc.cfg ops j tm σ op))=Y:=by
 cases a with
 |false=>rfl
 |true=>
   grind [TC.lo_eq,qjG]
theorem qiO(hr:Rel N m E τ tm σ){ops j i o q}(h:GF E ops j o i q=O):si tm ops j o i q=O:=by
 unfold GF at h;unfold si;split at h
 case h_4=>cases h
 case h_3 =>
  rename_i h1 h2;simp[h1,h2];cases hb:qF E ops i _ with
  | none=>rw[hb]at h;cases h
  | some b=>rw[(xw hr hb).2];rfl
 case h_2 =>
  rename_i h1 h2;simp[h1,h2];cases hb:qF E ops i _ with
  | none=>rw[hb]at h;cases h
  | some b=>rw[(xw hr hb).2];rfl
 rename_i h1 h2;split at h
 case h_3=>cases h
 case h_2 =>
  next x hx _=>obtain⟨a1,a2⟩:=xw hr hx;grind [qmb]
 rename_i x y hx hy;obtain⟨a1,a2⟩:=xw hr hx;obtain⟨b1,b2⟩:=xw hr hy;have hne:x≠y := λ he=>by rw[he]at h;simp at h
 have := λ he=>hne (hr.inj x y a1 b1 he);grind [Nat.eq_of_beq_eq_true]
theorem FH(i:Rel N m E τ tm σ){ops d a}(h:xT a E ops d=O):mq a tm ops d=O:=by
 cases d with
 |false=>rfl
 |true=>
   show lm a tm ops=O;simp only[xT,bJ,aK,cC,gR,fF]at h;simp only[lm,bJ,aK,cC,gR,fF];intro p c;let⟨f,e⟩:=h p c;refine⟨f,λ q b=>?_⟩;obtain (g|g)|g:=e q b
   .exact .inl (.inl g)
   .refine .inl (.inr ?_);unfold Yi at g;unfold nD;rw[Bk]at g |-
    refine⟨g.1,?_⟩;rw[ZM]at *;obtain g|g:=g.2
    .exact .inl g
    .right;unfold pg;grind [qiO]
   .exact .inr g
theorem Ar(i:Rel c.n2 m E τ tm σ){f x}(h:qM c E τ f=Z x):∃y,xt c.pc.cfg tm σ f=Z y/\OK m x y:=by
 cases f with
 |tmp t=>cases h;exact⟨_,rfl,i.env t⟩
 |cell a t=>
   simp[qM]at h;split at h<;>try cases h
   rename_i d b o k l;have g:=i.env a;rw[l]at g;let⟨q,g⟩:=g;split at h<;>try cases h
   rename_i cs j;split at h<;>try cases h
   let⟨ds,r,p⟩:=i.box b cs j;let⟨y,g3,n⟩:=uV p h;refine⟨y,?_,n⟩;have e:c.pc.cfg.ty t=Z d:=k;grind [xt,dN,Au]
theorem GX{m}:∀n {xs ys pre post},OKL m xs ys->I pre=n->∀t,OK m (get (mn n xs) t) ((pre++(ys++post)).getD t .dead)
 |n,[],ys,pre,post,h,a,t=>trivial
 |n,x::xs,ys,pre,post,⟨y,r,b,d,c⟩,a,t=>by
   subst b;simp[mn,get];split
   .simp_all
   .have:=GX (n+1) (pre:=pre++[y]) (post:=post) c (by grind) t;simpa using this
theorem F7{ops draw}:∀{l m E τ tm σ k},nF (opT c) c ops draw l E τ k=Z r->Rel c.n2 m E τ tm σ->
  ∃e m' u a,iE (kD c.pc) c.pc ops draw l ⟨tm,σ⟩=Z e/\MLe m m'/\Rel c.n2 m' u a e.tm e.σ/\k u a=Z r
 |[],m,E,τ,tm,σ,k,h,g=>⟨_,m,E,τ,rfl,.refl m,g,h⟩
 |o::v,m,E,τ,tm,σ,k,h,g=>by
   simp only[iE];let⟨w,u,B,h,g⟩:=Vn g h;rw[B];cases w with
   |true=>
     have p:=g;let⟨x,a,y,σ',m',h,D,i,f,z,C⟩:=ML g h;rw[D];cases a with
     |none=>
       rw[C rfl]at f |-
       let⟨A,h,b⟩:=f.put z h;let⟨e,n,t,d,j,s,g3,q⟩:=F7 h b;exact⟨e,n,t,d,j,i.trans s,g3,q⟩
     |some a=>
       split at h<;>try cases h
       rename_i F;let⟨A,h,b⟩:=Rel.put f z h;let⟨e,n,t,d,j,s,g3,q⟩:=F7 h b;refine⟨e,n,t,d,?_,i.trans s,g3,q⟩;cases σ' with
       |none=>exact j
       |some σ'=>
         rw[Vf p F];exact j
   |false=>
     let⟨A,h,b⟩:=g.put (x:=.tup []) ⟨[],rfl,rfl⟩ h;exact F7 h b
theorem qki: ∀j {m E τ tm σ g},sn c j E τ g=Z r->Rel c.n2 m E τ tm σ->
  ∃i m' k e,cc (kD c.pc) c.pc (vK j) j ⟨tm,σ⟩=Z (.normal,i)/\MLe m m'/\Rel c.n2 m' k e i.tm i.σ/\g k e=Z r:=by
 intro j
 induction j with
 |skip=>intro m E τ tm σ g h f;exact⟨_,m,E,τ,rfl,.refl m,f,h⟩
 |seq a b o n=>
   intro m E τ tm σ g h f;let⟨L,M,N,s,H,G,F,D⟩:=o (show sn c a E τ (λ E σ=>sn c b E σ g)=Z r from h) f;let⟨t,u,K,l,C,B,A,z⟩:=n D F;refine⟨t,u,K,l,?_,G.trans B,A,z⟩;show cc _ _ (max (vK a) (vK b)+1) _ _=_;simp[cc,dw];rw[rO (OV _ _) H];exact rO (OW _ _) C
 |region id ops d=>
   intro m E τ tm σ g h f;simp[sn]at h;split at h<;>try cases h
   rename_i q p;split at h<;>try cases h
   next v=>let⟨i,m',k,e,y,x,g3,w⟩:=F7 h f;refine⟨i,m',k,e,?_,x,g3,w⟩;show cc _ _ (0+1) _ _=_;simp[cc,dw,q,p];rw[Ii,FH f v,y]
 |_=>intro m E τ tm σ g h f;simp only[sn]at h;cases h
theorem Vj(b:Rel c.n2 m E τ tm σ):∀{l xs},AY c E τ l=Z xs->∃ys,jH c.pc.cfg tm σ l=Z ys/\OKL m xs ys
 |[],xs,h=>by cases h;exact⟨[],rfl,rfl⟩
 |v::l,xs,h=>by
   simp[AY]at h;split at h<;>try cases h
   next x d=>split at h<;>cases h;next xs a=>let⟨y,i,g⟩:=Ar b d;let⟨ys,f,e⟩:=Vj b a;exact⟨y::ys,by simp[jH,i,f],_,_,rfl,g,e⟩
theorem qmc{fn xs ys}(b:Rel c.n2 m E τ tm σ)(l:OKL m xs ys)(h:NP c fn τ xs K=Z r):Sim c.n2 m E τ tm σ K r (yl c.pc σ fn ys):=by
 unfold NP at h;split at h<;>try cases h
 rename_i j w;split at h<;>try cases h
 rename_i a;rw[aK]at a;have y:=nT a.1;have z:=nT a.2;have v:=OKL.len l
 have g:Rel (TC.n2 {c with nt:=fn.ntmps}) m (mn 0 xs) τ (ys++List.replicate (fn.ntmps-I ys) .dead) σ:=by
  refine⟨by show _=fn.ntmps;rw[aU,ti];omega,λ t=>?_,b.rw,b.nb,b.box,b.inj,b.rows,b.rinj,b.pin⟩;have:=GX 0 (pre:=[]) (post:=List.replicate (fn.ntmps-I ys) .dead) l rfl t;simpa using this
 let⟨e,m',x,d,o,n,g3,i⟩:=qki j h g;split at i<;>try cases i
 next p f=>let⟨q,k,u⟩:=Vj g3 (show AY {c with nt:=fn.ntmps} x d (V fn.results)=Z p from f);refine .to i ?_ n ⟨b.len,λ t=>(b.env t).mono n,g3.rw,g3.nb,g3.box,g3.inj,g3.rows,g3.rinj,g3.pin⟩ (Tm u);have o:cc (kD c.pc) c.pc (vK j) j ⟨ys++List.replicate (fn.ntmps-I ys) .dead,σ⟩=Z (.normal,e):=o;have k:jH c.pc.cfg e.tm e.σ (V fn.results)=Z q:=k;unfold yl;grind [od,rO]
theorem qmx{op}(i:Rel c.n2 m E τ tm σ)(h:opI c E τ op K=Z r):Sim c.n2 m E τ tm σ K r (jv c.pc tm σ op):=by
 unfold opI at h;split at h
 .rename_i g a ts;split at h<;>try cases h
  rename_i f cs k;have d:=i.ev g;rw[k]at d;let⟨ds,d,l⟩:=d;split at h
  .rename_i fn b;have b:c.pc.inl f=Z fn:=b
   have e:jv c.pc tm σ (.call ⟨.value g,a,ts⟩)=yl c.pc σ fn (a.toList.map (aev tm)++ds):=by
    simp[jv,d,b]
   rw[e];exact qmc i ((i.evs (V a)).append l) h
  .rename_i b;have b:c.pc.inl f=U:=b
   have e:jv c.pc tm σ (.call ⟨.value g,a,ts⟩)=kD c.pc tm σ (.call ⟨.value g,a,ts⟩):=by
    simp[jv,kD,d,b]
   rw[e];exact ML i h
 .rename_i j
  have e:jv c.pc tm σ op=kD c.pc tm σ op:=by
   unfold jv;grind
  rw[e];exact ML i h
variable {Q:Ex->S->Prop}{k:aa It}
theorem rQ{ops draw}:∀{l m E τ tm σ g},nF (opI c) c ops draw l E τ g=Z r->Rel c.n2 m E τ tm σ->
  (∀m E τ tm σ,g E τ=Z r->Rel c.n2 m E τ tm σ->Go c.pc Q k .normal ⟨tm,σ⟩)->Go c.pc Q (.ops ops draw l::k) .normal ⟨tm,σ⟩
 |[],m,E,τ,tm,σ,g,h,d,e=>by
   rw[qh3];exact e m E τ tm σ h d
 |o::j,m,E,τ,tm,σ,g,h,d,e=>by
   rw[qop];let⟨w,z,q,h,d⟩:=Vn d h;rw[q];cases w with
   |true=>
     rw[qjl];have i:=d;let⟨x,f,y,σ',m',h,t,u,b,n,s⟩:=qmx d h;rw[t];cases f with
     |none=>
       rw[s rfl]at b |-
       let⟨p,h,a⟩:=b.put n h;exact rQ h a e
     |some f=>
       split at h<;>try cases h
       rename_i v;let⟨p,h,a⟩:=Rel.put b n h;cases σ' with
       |none=>
         exact rQ h a e
       |some σ'=>
         exact⟨Vf i v,rQ h a e⟩
   |false=>
     let⟨p,h,a⟩:=d.put (x:=.tup []) ⟨[],rfl,rfl⟩ h;exact rQ h a e
variable {fin:Env->TS->ac α}{L:aa It->Env->TS->ac α}{Qr:α->Ex->S->Prop}
def Hc(c:TC)(fin:Env->TS->ac α)(Qr:α->Ex->S->Prop):Prop:=∀E τ r m tm σ,fin E τ=Z r->Rel c.n2 m E τ tm σ->∀e,e=.ret\/e=.normal->Qr r e ⟨tm,σ⟩
def LOK(c:TC)(L:aa It->Env->TS->ac α)(Qr:α->Ex->S->Prop):Prop:=∀a E τ r m tm σ,L a E τ=Z r->Rel c.n2 m E τ tm σ->Go c.pc (Qr r) a .normal ⟨tm,σ⟩
theorem qmQ(c:Rel N m E τ tm σ){t}(h:N9 (get E t)=O):yq (tm.getD t .dead)=O:=by
 have a:=c.env t;cases b:get E t<;>rw[b]at h a<;>first|(cases h;done)|skip
 rw[show tm.getD t .dead=_ from a.2];rfl
theorem qmn(hr:Rel N m E τ tm σ){ops t}(h:(N9 (get E t)&&Nc E ops)=O):vY tm ops t=O:=by
 rw[aK]at h;unfold vY;rw[qmQ hr h.1,ei];have h2:=h.2;unfold Nc at h2;unfold Nk;split at h2
 case h_2=>cases h2
 rename_i p l hp;rw[hp];simp only;split at h2
 case h_2=>cases h2
 rename_i a u b hop;have ho:=hr.ev u;rw[hop];simp only;cases hx:evT E u<;>rw[hx]at h2 ho<;>first | (cases h2;done) | skip
 ·rcases fL ho.1 with⟨hy,_⟩ | ⟨es,n,hy,_⟩<;>rw[hy]<;>rfl
 ·obtain⟨R,_,_,hy,_⟩:=ho;rcases hy with hy | ⟨k,es,j,hy⟩ | ⟨r,lo,n,ep,f,hy⟩<;>rw[hy]<;>rfl
theorem Xr(a:Rel N m E τ tm σ){x b}(h:evT E x=.b b){b'}(c:b=b'):Rel N m (Hz E x b') τ tm σ:=by
 subst c;unfold Hz;split
 .next t=>apply a.know;have:=a.env t;have h:get E t=.b b:=h;rw[h]at this;exact this
 .exact a
theorem WP(c:Rel N m E τ tm σ)(t){x'}(f:rsA (tm.getD t .dead)=[]->OK (shM m) x' (tm.getD t .dead))(i:rsA (tm.getD t .dead)≠[]->OK (shM m) x' (cS σ.rw (tm.getD t .dead))):
  Rel N (shM m) ((t,x')::E) (shA τ) (io ⟨tm,σ⟩ t).tm (io ⟨tm,σ⟩ t).σ:=by
 unfold io;cases b:rsA (tm.getD t .dead)with
 |nil=>
   exact(c.share rfl c.rows.sh).know (f b)
 |cons q l=>
   have a:=c.share (σ':={σ with rw:=frz σ.rw (q::l),wrr:=(q::l)++σ.wrr}) rfl (c.rows.frz _ _)
   have g:t<I tm:=by
    apply ZK;intro e;rw[gE,pL e]at b;cases b
   refine⟨by rw[dX];exact a.len,λ u=>?_,a.rw,a.nb,a.box,a.inj,a.rows,a.rinj,a.pin⟩;simp only[get];split
   .grind [Nat.eq_of_beq_eq_true,List.getElem?_set_self]
   .rename_i d;have d:t≠u:=λ h=>by rw[h]at d;simp at d
    rw[gE,jA d,<-gE];exact a.env u
theorem qjc{t}(h:rsA (tm.getD t .dead)=[]):io ⟨tm,σ⟩ t=⟨tm,σ⟩:=by
 unfold io;simp only[h]
theorem qlN(g:Rel N m E τ tm σ){t a K}(h:Nj E τ t a K=Z r):
  ∃j f m',K j f=Z r/\Rel N m' j f (io ⟨tm,σ⟩ t).tm (io ⟨tm,σ⟩ t).σ:=by
 have c:=g.env t;unfold Nj at h
 have b:rsA (tm.getD t .dead)=[]->K E τ=Z r->∃j f m',K j f=Z r/\Rel N m' j f (io ⟨tm,σ⟩ t).tm (io ⟨tm,σ⟩ t).σ:=λ w M=>by
  grind [qjc]
 split at h
 .next d=>rw[d]at c;exact b (by rw[show tm.getD t .dead=_ from c];rfl) h
 .next d=>rw[d]at c;exact b (by rw[show tm.getD t .dead=_ from c];rfl) h
 .next d=>rw[d]at c;exact b (by rw[show tm.getD t .dead=_ from c];rfl) h
 .next d=>rw[d]at c;exact b (by rw[show tm.getD t .dead=_ from c.2];rfl) h
 .next d=>rw[d]at c;exact b (by rw[show tm.getD t .dead=_ from c];rfl) h
 .next d=>rw[d]at c;refine b ?_ h;obtain⟨w,_⟩|⟨P,n,w,_⟩:=fL c.1<;>(rw[w];rfl)
 .rename_i id o d;rw[d]at c;split at h<;>try cases h
  rename_i R v;split at h<;>try cases h
  rename_i A;have p:=cg A;split at h<;>try cases h
  rename_i l C
  have L:sy m.rw a (.row id o)=Z l:=by
   unfold sy;rw[g.rw];simp[v,A];exact C
  let⟨P,S,Q,g3⟩:=Ao g.rows L c;obtain⟨e,rfl⟩:=jW C;subst e;have e1:∀y,(∀cs,y≠.agg cs)->cS σ.rw y=bC σ.rw y:=λ y z=>by cases y<;>first|rfl|exact absurd rfl (z _)
  let⟨R',k,_,x,D⟩:=c
  have s:∀cs,tm.getD t .dead≠.agg cs:=by
   intro cs H;rw[H]at x;obtain h|⟨_,_,_,h⟩|⟨_,_,_,_,_,h⟩:=x<;>cases h
  refine⟨_,_,_,h,WP g t (λ B=>?_) λ _=>?_⟩
  .have i:=D (by rw[g.rw,v]at k;cases k;exact p);have G:∃y,y=tm.getD t .dead:=⟨_,rfl⟩
   let⟨y,z⟩:=G;rw[g.rw,v]at k;cases k;revert i;cases m.r id with
   |none=>intro i;exact⟨i.1,bR (by decide) i.2⟩
   |some q=>intro i;rw[i]at B;cases B
  .rw[e1 _ s];exact⟨g3,E5 g3⟩
 .rename_i d;refine⟨_,_,shM m,h,?_⟩;have:=WP g t (x':=.dead) (λ _=>trivial) λ _=>trivial;refine⟨this.len,λ u=>?_,this.rw,this.nb,this.box,this.inj,this.rows,this.rinj,this.pin⟩;by_cases F:t=u
  .subst F;rw[d];trivial
  .have M:=this.env u;grind [get,Nat.eq_of_beq_eq_true]
 .cases h
theorem Gl: ∀l {m} {E} {τ} {tm} {σ} {K} {r:α},Rel N m E τ tm σ->vM l E τ K=Z r->
  ∃e b m',K e b=Z r/\Rel N m' e b (kH (uP l) ⟨tm,σ⟩).tm (kH (uP l) ⟨tm,σ⟩).σ
 |[],m,E,τ,tm,σ,K,r,c,h=>⟨E,τ,m,h,c⟩
 |(t,i)::l,m,E,τ,tm,σ,K,r,c,h=>by
   cases i with
   |plist a=>
     rw[vM]at h;let⟨k,f,j,g,d⟩:=qlN c h;exact Gl l d g
   |_=>simp[vM]at h;exact Gl l c h
theorem LK(D:Hc c fin Qr)(B:LOK c L Qr):∀n {s e E τ r m tm σ},fh c fin L n s e E τ=Z r->Rel c.n2 m E τ tm σ->Go c.pc (Qr r) s e ⟨tm,σ⟩:=by
 intro n
 induction n with
 |zero=>intro s e E τ r m tm σ h f;simp[fh]at h
 |succ n g=>
   intro s e E τ r m tm σ h f;cases s with
   |nil=>
     cases e with
     |exit i=>cases h
     |normal=>exact D E τ r m tm σ h f _ (.inr rfl)
     |ret=>exact D E τ r m tm σ h f _ (.inl rfl)
   |cons G k=>
     cases G with
     |ops os d l=>simp[fh]at h
     |blk id=>
       simp[fh]at h;cases e with
       |exit i=>
         simp only at h;rw[qhq];split at h
         .rename_i q;have q:=cg q;rw[ag q];split at h
          .let⟨u,j,m',h,o⟩:=Nm f h;exact B k u j r m' tm σ h o
          .exact g h f
         .rename_i q;have q:i≠id:=λ M=>by rw[M]at q;simp at q
          rw[af q];exact g h f
       |normal=>
         simp only at h;rw[qfy];split at h
         .let⟨u,j,m',h,o⟩:=Nm f h;exact B k u j r m' tm σ h o
         .exact g h f
       |ret=>rw[qit];simp only at h;exact g h f
     |code N=>
       cases e with
       |exit i=>simp[fh]at h;rw[qgy];exact g h f
       |ret=>simp[fh]at h;rw[qhR];exact g h f
       |normal=>
         simp[fh]at h;cases N with
         |skip=>rw[qkS];exact g h f
         |label l=>rw[qlS];exact g h f
         |region id ops d=>
           let⟨l⟩:=ops;simp only at h;split at h
           .rename_i t;split at h<;>try cases h
            next A=>rw[aK]at A;grind [qiH,TC.lo_eq,FH,rQ]
           .rename_i t;split at h
            .rename_i p w;split at h<;>try cases h
             rename_i A;refine qia id l d t w (by rw[Ii];exact FH f A) ?_;refine rQ h f λ m E τ tm σ h f=>?_;split at h<;>try cases h
             next H=>exact⟨qmn f H,rQ h f λ m E τ tm σ h f=>g h f⟩
            .grind [go_region,TC.lo_eq,FH,rQ]
         |seq a b=>rw[qoe];exact g h f
         |cond x a b=>
           simp only at h;rw[qng];split at h<;>try cases h
           rename_i y v;have C:=f.ev x;rw[v]at C;rw[C];cases y with
           |true=>rw[qkf];exact g h (Xr f v rfl)
           |false=>rw[qiw];exact g h (Xr f v rfl)
         |block id b=>rw[qkx];exact g h f
         |loop b=>
           simp only at h;split at h<;>try cases h
           next l K=>let⟨Q,F,P,h,z⟩:=Gl l f h;let⟨u,j,m',h,o⟩:=Nm z h;rw[<-qn5,show c.pc.pur b=uP l from by show c.pur b=_;unfold TC.pur;rw[K]];exact B _ u j r m' _ _ h o
         |exit id=>rw[qmj];exact g h f
         |ret=>rw[qnL];exact g h f
         |_=>simp only at h;cases h
theorem qka(f:Hc c fin Qr)(g:LOK c L Qr)(n):LOK c (λ i E τ=>Mu c fin L n i E τ) Qr:=by
 intro i E τ r m tm σ h d;simp[Mu]at h;split at h
 .rename_i b k;rw[go_loop];split at h
  .next l e=>let⟨p,j,o,h,a⟩:=Gl l d h;rw[show c.pc.pur b=uP l from by show c.pur b=_;unfold TC.pur;rw[e]];exact LK f g n h a
  .next e=>rw[show c.pc.pur b=[]from by show c.pur b=_;unfold TC.pur;rw[e]];exact LK f g n h d
 .exact LK f g n h d
theorem Ly(b:Hc c fin Qr)(n):∀k,LOK c (qJ c fin n k) Qr
 |0=>λ a E τ r m tm σ h=>by simp[qJ]at h
 |k+1=>by
   intro a E τ r m tm σ h d;exact qka b (Ly b n k) n a E τ r m tm σ h d
theorem qmN{y}:vN 0 σ.rw y=bC σ.rw y:=by
 cases y<;>rfl
theorem qm3(y)(h:∀vs,y≠.tup vs):oH 0 σ.rw y=cS σ.rw y:=by
 cases y with
 |agg cs=>
   show AV.agg (cs.map (vN 0 σ.rw))=.agg (cs.map (bC σ.rw));rw[mL λ x _=>qmN]
 |_=>rfl
theorem Gv{a y v}(h:gu a y=Z v):Sub y (cG a v):=by
 unfold gu at h;split at h
 case h_2=>cases h
 rename_i hb;have hb:a.agg=gY y:=by simpa[eE]using hb
 obtain⟨pre,h1,_,h3,h4,_⟩:=iS a (dJ.1 h);rw[bZ]at h1;rw[<- h1]at h4
 have agg:∀ e,a.agg=O->dR (cellsOf y) e->Sub y (.agg e):=by
  intro e ha hs;rw[hb]at ha;cases y with
  | agg cs=>exact VM hs
  | _=>cases ha
 have one:∀ e,a.agg=Y->dR (cellsOf y) [e]->Sub y e:=by
  intro e ha hs;rw[hb]at ha;have:cellsOf y=[y]:=by cases y<;>first | rfl | (cases ha)
  rw[this]at hs;cases hs with
  | cons h _=>exact h
 cases a with
 | int k=>exact one _ rfl h4
 | bool=>exact one _ rfl h4
 | str=>exact one _ rfl h4
 | list a=>exact one _ rfl h4
 | map a b=>exact one _ rfl h4
 | term=>exact agg _ rfl h4
 | pair a b=>exact agg _ rfl h4
 | one a=>exact agg _ rfl h4
theorem WZ(b:Rel c.n2 m E τ tm σ){a rv x v}(g:qM c E τ rv=Z x)(e:jK τ.rw a x=Z v):∃y,xt c.pc.cfg tm σ rv=Z y/\(∀vs,y≠.tup vs)/\dO (oH 0 σ.rw y)=O/\Sub (oH 0 σ.rw y) (cG a v):=by
 let⟨y,j,h⟩:=Ar b g;rw[<-b.rw]at e;let⟨g3,_⟩:=rP b.rows e h
 have i:∀vs,y≠.tup vs:=by
  rintro vs rfl;unfold gu at g3;split at g3
  .let⟨pre,d,_,f,_⟩:=iS a (dJ.1 g3);rw[bZ]at d;have:=f (.tup vs) (by rw[<-d];exact bW.2 rfl);cases this
  .cases g3
 grind [qm3,yV,Gv]
theorem Xt(g:Rel c.n2 m E τ tm σ):∀{ts d v},nC c ts d E τ=Z v->
  ∃l,jH c.pc.cfg tm σ d=Z l/\(∀y∈l,∀vs,y≠AV.tup vs)/\noRefs (l.map (oH 0 σ.rw))=O/\dR (l.map (oH 0 σ.rw)) (gc ts v)
 |[],d,v,h=>by
   cases d with
   |nil=>exact⟨[],rfl,by simp,rfl,.nil⟩
   |cons a l=>simp only[nC]at h;cases h
 |[a],d,v,h=>by
   cases d with
   |nil=>simp only[nC]at h;cases h
   |cons n d=>
     cases d with
     |cons _ _=>simp only[nC]at h;cases h
     |nil=>
       simp[nC]at h;split at h<;>try cases h
       next x e=>let⟨y,j,k,g3,i⟩:=WZ g e h;refine⟨[y],by simp[jH,j],by simpa using k,?_,.cons i .nil⟩;show(dO _&&O)=O;rw[g3];rfl
 |a::b::ts,d,v,h=>by
   cases d with
   |nil=>simp only[nC]at h;cases h
   |cons n d=>
     simp[nC]at h;split at h<;>try cases h
     rename_i x e;split at h<;>try cases h
     rename_i w q;split at h<;>cases h;rename_i r f;let⟨y,j,k,g3,i⟩:=WZ g e q;let⟨l,p,t,s,o⟩:=Xt g f;refine⟨y::l,by simp[jH,j,p],?_,?_,.cons i o⟩
     .grind
     .grind [noRefs]
theorem qmq{x}(h:dO x=O):refs 0 0 x=Y:=by
 grind [refs,wS]
theorem qnG{ts rs}:Hc c (nC c ts rs) (λ v=>Ret c.pc rs λ z=>Sub z (cN (gc ts v))):=by
 intro E τ v m tm σ h d e f;refine⟨f,?_⟩;let⟨l,i,b,g3,g⟩:=Xt d h;rw[i];show refs 0 0 (nz 0 σ.rw (cN l))=Y/\Sub (nz 0 σ.rw (cN l)) (cN (gc ts v))
 have a:nz 0 σ.rw (cN l)=cN (l.map (oH 0 σ.rw)):=by
  match l,b with
  |[],_=>rfl
  |[y],b=>
    have:=b y (bW.2 rfl);cases y<;>first|rfl|exact absurd rfl (this _)
  |y::z::l,_=>rfl
 rw[a];constructor
 .apply qmq
  match l,g3 with
  |[],_=>rfl
  |[y],g3=>
    show dO (oH 0 σ.rw y)=O;simpa[noRefs]using g3
  |y::z::l,g3=>exact TI g3
 .match l,gc ts v,g with
  |[],[],_=>exact .refl _
  |[y],[z],.cons h _=>exact h
  |y::n::l,z::j::k,h=>exact h.tup
theorem qoy{ts fn cd}(m:fn.body=Z cd){n k xs ys v}(a:c.nt=fn.ntmps)(g:c.np=0)(j:I ys<=fn.ntmps)(f:OKL mp0 xs ys)(h:qJ c (nC c ts (V fn.results)) n k [.code cd] (mn 0 xs) ⟨[],[]⟩=Z v):GoB c.pc (λ z=>Sub z (cN (gc ts v))) fn ys:=by
 unfold GoB;rw[m]
 have e:Rel c.n2 mp0 (mn 0 xs) ⟨[],[]⟩ (ys++List.replicate (fn.ntmps-I ys) .dead) emp:=by
  refine⟨by show _=c.nt;rw[aU,ti,a];omega,λ t=>?_,rfl,rfl,λ b cs h=>by simp at h,λ b o h=>absurd h (eh _),λ id R h=>(by cases h),λ id d r h=>absurd h (eh _),λ i l=>absurd l (by grind)⟩;have:=GX 0 (pre:=[]) (post:=List.replicate (fn.ntmps-I ys) .dead) f rfl t;simpa using this
 exact Ly qnG n k _ _ _ _ _ _ _ h e
end
end
section
open RowKit
section
variable {α:Type}{m:Mp}{E:Env}{τ:TS}{tm:aa AV}{σ:St}{c:TC}
def qi8{a y v}(h:gu a y=Z v):OK m (oL a v) y:=by
 unfold gu at h;split at h
 case h_2=>cases h
 rename_i hb;have hb:a.agg=gY y:=by simpa[eE]using hb
 have hc:OKL m (js a v) (cellsOf y):=lV h
 have agg:a.agg=O->∃ ds,y = .agg ds/\OKL m (js a v) ds:=by
  intro ha;rw[hb]at ha;cases y with
  | agg cs=>exact⟨cs,rfl,hc⟩
  | _=>cases ha
 have one:a.agg=Y->cellsOf y=[y]:=by
  intro ha;rw[hb]at ha;cases y<;>first | rfl | (cases ha)
 cases a with
 | term=>exact agg rfl
 | pair a b=>exact agg rfl
 | one a=>exact agg rfl
 | int k=>rw[one rfl]at hc;obtain⟨z,r,he,h1,_⟩:=hc;cases he;exact h1
 | bool=>rw[one rfl]at hc;obtain⟨z,r,he,h1,_⟩:=hc;cases he;exact h1
 | str=>rw[one rfl]at hc;obtain⟨z,r,he,h1,_⟩:=hc;cases he;exact h1
 | list a=>rw[one rfl]at hc;obtain⟨z,r,he,h1,_⟩:=hc;cases he;exact h1
 | map a b=>rw[one rfl]at hc;obtain⟨z,r,he,h1,_⟩:=hc;cases he;exact h1
structure nH (m:Mp) (σ:St) (nb nr:Nat):Prop where
 b:∀i,m.b i=i
 nb:m.nb=nb
 rows:eH m σ
 low:∀id r,id<m.rw.length->m.r id=Z r->r<nr
 rinj:∀id id' r,id<m.rw.length->id'<m.rw.length->m.r id=Z r->m.r id'=Z r->id=id'
 zero:∀(id:Nat) (R:cm),m.rw[id]?=Z R->R.ver=0
def nH.add{nb nr}(h:nH m σ nb nr){a l e vo qo nr'}(q:kg σ ⟨a,l,0,0,Y⟩ e vo qo)(s:nr<=nr')(i:∀r,e=Z r->nr<=r/\r<nr'):nH (m.add ⟨a,l,0,0,Y⟩ e vo qo) σ nb nr':=by
 refine⟨h.b,h.nb,Gd h.rows q λ _ _ h=>h,?_,?_,?_⟩
 .intro id r p g;change id<I (m.rw++[_]) at p;change (if id=I m.rw then e else m.r id)=Z r at g;simp at p;split at g
  .exact(i r g).2
  .have:=h.low id r (by omega) g;omega
 .intro id c r k j e1 f;change id<I (m.rw++[_]) at k;change c<I (m.rw++[_]) at j;change (if id=I m.rw then e else m.r id)=Z r at e1;change (if c=I m.rw then e else m.r c)=Z r at f;simp at k j;split at e1<;>split at f
  .omega
  .have:=h.low c r (by omega) f;have:=(i r e1).1;omega
  .have:=h.low id r (by omega) e1;have:=(i r f).1;omega
  .exact h.rinj id c r (by omega) (by omega) e1 f
 .intro id R d;change (m.rw++[_])[id]?=Z R at d;rw[yr]at d;split at d
  .exact h.zero id R d
  .cases o:id-I m.rw with
   |zero=>rw[o]at d;cases d;rfl
   |succ n=>rw[o]at d;cases d
def TM{m nb k a t y l}(b:ow σ t k y=Z (l,a))(u:nH m σ nb k):
  ∃d,MLe m d/\nH d σ nb a/\d.rw=m.rw++[⟨t,l,0,0,Y⟩]/\OK d (.row (I m.rw) 0) y:=by
 have step:∀f g n,kg σ ⟨t,l,0,0,Y⟩ f g n->k<=a->(∀r,f=Z r->k<=r/\r<a)->hZ f g t l y->
   ∃d,MLe m d/\nH d σ nb a/\d.rw=m.rw++[⟨t,l,0,0,Y⟩]/\OK d (.row (I m.rw) 0) y:=by
  intro f g n w i o j;refine⟨_,AF m ⟨t,l,0,0,Y⟩ f g n,u.add w i o,rfl,⟨t,l,0,0,Y⟩,by show(m.rw++_)[I m.rw]?=_;simp,aL _,j.ish,λ _=>?_⟩;show hZ (if I m.rw=I m.rw then f else m.r (I m.rw)) (if I m.rw=I m.rw then g else m.v (I m.rw)) t l y;rw[ag rfl,ag rfl];exact j
 unfold ow at b;split at b
 .split at b<;>try cases b
  rename_i R x;split at b<;>try cases b
  next q=>split at b<;>cases b;next e=>obtain⟨rfl,rfl,rfl,z,rfl,rfl,s⟩:=bH q;refine step (Z _) R.ver R.c ⟨R,x,rfl,rfl,z,e,by rw[s.1];exact aL _,λ _=>s⟩ (eO _) (λ r h=>by cases h;omega) ?_;show _=_;rw[en e]
 .split at b
  .next q p=>cases b;exact step U 0 [] (λ _=>rfl) (al _) (λ r h=>by cases h) ⟨q,bH p⟩
  .cases b
def JI: ∀l {m nb e a ds v},kF σ l e ds=Z (v,a)->nH m σ nb e->
  ∃b,MLe m b/\nH b σ nb a/\b.rw=m.rw++lr l v/\OKL b (qr l (I m.rw) v) ds
 |[],m,nb,e,a,ds,v,h,f=>by
   cases ds with
   |cons d ds=>simp[kF]at h
   |nil=>
     obtain⟨_,rfl⟩:=h;exact⟨m,.refl m,f,(bZ _).symm,rfl⟩
 |.val t::l,m,nb,e,a,ds,v,h,f=>by
   simp[kF]at h;split at h<;>try cases h
   next w j=>split at h<;>cases h;next vs c=>let⟨b,i,o,k,g⟩:=JI l c f;refine⟨b,i,o,k,?_⟩;rw[<-oP t.size ds];exact(lV j).append g
 |.row t::l,m,nb,e,a,ds,v,h,f=>by
   cases ds with
   |nil=>simp[kF]at h
   |cons d ds=>
     simp[kF]at h;split at h<;>try cases h
     next w n j=>split at h<;>cases h;next vs c=>let⟨b,u,s,p,r⟩:=TM j f;let⟨q,i,o,k,g⟩:=JI l c s;rw[p,aU]at g;exact⟨q,u.trans i,o,by rw[k,p,bE];rfl,⟨_,_,rfl,r.mono i,g⟩⟩
def wZ:∀(sas:aa SA) {m:Mp}{nb o:Nat}{ys:aa AV}{a:iI sas},dS σ sas nb o ys=Z a->nH m σ nb o->
  ∃m' c d,MLe m m'/\nH m' σ c d/\c=I σ.bx/\m'.rw=m.rw++sRw sas a/\nb+I (sBx sas (I m.rw) a)=c/\OKL m' (oD sas nb (I m.rw) a) ys/\I ys<=I sas/\
   ∀(i:Nat) (cs:aa TV),(sBx sas (I m.rw) a)[i]?=Z cs->∃ds,σ.bx[nb+i]?=Z ds/\OKL m' cs ds
 |[],m,nb,o,ys,a,h,e=>by
   cases ys with
   |cons y ys=>simp[dS]at h
   |nil=>
     simp only[dS]at h;split at h<;>try cases h
     next E=>have E:=bH E;exact⟨m,nb,o,.refl m,e,E.1,(bZ _).symm,rfl,rfl,al _,λ i cs h=>by cases h⟩
 |.nil::sas,m,nb,o,ys,a,h,e=>by
   obtain⟨C,rfl,h⟩:∃C,ys=.v (.slice U 0 0)::C/\dS σ sas nb o C=Z a:=by
    cases ys with
    |nil=>simp[dS]at h
    |cons y ys=>
      simp only[dS]at h;split at h
      .next hn=>exact⟨ys,by rw[T2 hn],h⟩
      .cases h
   let⟨m',c,d,u,s,A,z,w,f,x,r⟩:=wZ sas h e;exact⟨m',c,d,u,s,A,z,w,⟨_,_,rfl,rfl,f⟩,qV x,r⟩
 |.clo g k::sas,m,nb,o,ys,a,h,e=>by
   cases ys with
   |nil=>simp[dS]at h
   |cons y ys=>
     simp only[dS]at h;split at h<;>try cases h
     next cs P=>obtain⟨rfl,hk⟩:=Xl P;let⟨m',c,d,u,s,A,z,w,f,x,r⟩:=wZ sas h e;have X:=f.take k;have E:=f.drop k;rw[List.take_left' hk]at X;rw[List.drop_left' hk]at E;refine⟨m',c,d,u,s,A,z,w,⟨_,_,rfl,⟨_,rfl,X⟩,E⟩,?_,r⟩;rw[aU]at x;rw[bG,bG];omega
 |.val t::sas,m,nb,o,ys,a,h,e=>by
   cases ys with
   |nil=>simp[dS]at h
   |cons y ys=>
     simp only[dS]at h;split at h<;>try cases h
     next v B=>split at h<;>cases h;next vs p=>let⟨m',c,d,u,s,A,z,w,f,x,r⟩:=wZ sas p e;exact⟨m',c,d,u,s,A,z,w,⟨_,_,rfl,qi8 B,f⟩,qV x,r⟩
 |.box l::sas,m,nb,o,ys,a,h,e=>by
   cases ys with
   |nil=>simp[dS]at h
   |cons y ys=>
     simp only[dS]at h;split at h<;>try cases h
     rename_i v n B;split at h<;>cases h;rename_i vs p;unfold sc at B;split at B<;>try cases B
     rename_i j G;split at B<;>try cases B
     rename_i _ _ ds M N;have M:=cg M;subst M;have G:=Uf G;subst G;have K:nH {m with nb:=m.nb+1} σ (j+1) o:=⟨e.b,by show m.nb+1=_;rw[e.nb],e.rows,e.low,e.rinj,e.zero⟩
     have L:MLe m {m with nb:=m.nb+1}:=⟨eO _,λ _ _=>rfl,λ id R h=>⟨R,h,al _,al _,λ _=>⟨rfl,rfl,rfl,rfl,(λ _=>rfl),λ _ _ h=>h⟩⟩⟩
     let⟨F,W,T,D,S⟩:=JI l B K;let⟨m',c,d,u,s,A,z,w,f,x,r⟩:=wZ sas p T;have D:F.rw=m.rw++lr l v:=D;have q:I F.rw=I m.rw+nR l:=by rw[D,aU,mT]
     rw[q]at w f r;have H:m'.nb=c:=s.nb;have ad:I (sBx (.box l::sas) (I m.rw) (toB l v,vs))=I (sBx sas (I m.rw+nR l) vs)+1:=rfl;refine⟨m',c,d,L.trans (W.trans u),s,A,?_,by omega,⟨_,_,rfl,by have:=qn2 (m:=m') (l:=l) (b:=j) (by rw[H];omega);rwa [s.b]at this,f⟩,qV x,λ i cs hi=>?_⟩
     .rw[z,D,bE];show _=m.rw++(lr l (toC l (toB l v))++_);rw[Aj]
     .cases i with
      |zero=>
        cases hi;refine⟨ds,N,?_⟩;show OKL m' (qr l (I m.rw) (toC l (toB l v))) ds;rw[Aj];exact S.mono u
      |succ i=>
        let⟨Q,g1,g2⟩:=r i cs hi;exact⟨Q,by rw[<-g1];congr 1;omega,g2⟩
 |.row t::sas,m,nb,o,ys,a,h,e=>by
   cases ys with
   |nil=>simp[dS]at h
   |cons y ys=>
     simp only[dS]at h;split at h<;>try cases h
     rename_i l ab hl;split at h<;>cases h;rename_i vs p;let⟨F,W,T,D,S⟩:=TM hl e;let⟨m',c,d,u,s,A,z,w,f,x,r⟩:=wZ sas p T;have q:I F.rw=I m.rw+1:=by rw[D,aU];rfl
     rw[q]at w f r;exact⟨m',c,d,W.trans u,s,A,by rw[z,D,bE];rfl,w,⟨_,_,rfl,S.mono u,f⟩,qV x,r⟩
def xr{a ds v}(h:bq a ds=Z v):dR ds (aq a v):=by
 let⟨pre,b,_,_,c,_⟩:=iS a (dJ.1 h);rw[bZ]at b;rw[b];exact c
def Ay(σ:St)(b:aa Nat)(a:Ty)(v:aa (Val a))(y:AV):ac Nat->Prop
 |Z j=>∃Q,y=.rs j 0 (I Q.c) Q.ver Y/\σ.rw[j]?=Z Q/\Q.k=a.size/\Q.fz=0/\ci (bq a) Q.c=Z v/\j ∉ b/\Q.off=Y
 |U=>v=[]/\dlist a y=Z []/\2<=lvl y
def A6(l:aa SA):Nat:=nBx l
def xD: ∀sas L a,I (sBx sas L a)=nBx sas
 |[],_,_=>rfl
 |.nil::sas,L,a|.clo _ _::sas,L,a=>xD sas L a
 |.val _::sas,L,a=>xD sas L a.2
 |.row _::sas,L,a=>xD sas _ a.2
 |.box _::sas,L,a=>by rw[sBx,bG,xD sas _ a.2,nBx]
inductive FC (σ:St) (fs:List Nat):(l:List RA)->CV l->List AV->List (Option Nat×Row)->Prop
 |nil:FC σ fs [] () [] []
 |val {a:Ty}{l:List RA}{v:Val a}{vs:CV l}{ds ds':List AV}{aB:List (Option Nat×Row)} (h:dR (ds.map (bC σ.rw)) (aq a v)/\(noMc ds=Y->bq a ds=Z v)) (hf:∀x∈ds,∀r∈rsC x,r∈fs) (t:FC σ fs l vs ds' aB):FC σ fs (.val a::l) (v,vs) (ds++ds') aB
 |row {a:Ty}{l:List RA}{v:List (Val a)}{vs:CV l}{y:AV}{ds:List AV}{aB:List (Option Nat×Row)}{so:Option Nat} (h:Ay σ fs a v y so) (t:FC σ fs l vs ds aB):FC σ fs (.row a::l) (v,vs) (y::ds) ((so,⟨a.size,v.map (aq a),0,0,Y⟩)::aB)
inductive FR (σ:St) (fs:List Nat) (rws:List cm) (nB:List (Option Nat×Row)):(rs:List RE)->Nat->Nat->RV rs->List AV->List (Option Nat×Row)->List Nat->Prop
 |nil {n d:Nat}:FR σ fs rws nB [] n d () [] [] []
 |val {a:Ty}{rs:List RE}{v:Val a}{vs:RV rs}{y:AV}{ys:List AV}{aB:List (Option Nat×Row)}{n d:Nat}{kb:List Nat} (h:Sub (cS σ.rw y) (cG a v)) (hf:∀r∈rsA y,r∈fs) (t:FR σ fs rws nB rs n d vs ys aB kb):FR σ fs rws nB (.one (.val a)::rs) n d (v,vs) (y::ys) aB kb
 |row {a:Ty}{rs:List RE}{v:List (Val a)}{vs:RV rs}{y:AV}{ys:List AV}{aB:List (Option Nat×Row)}{so:Option Nat}{n d:Nat}{kb:List Nat}
  (h:Ay σ fs a v y so)
  (t:FR σ fs rws nB rs n (d+1) vs ys aB kb):FR σ fs rws nB (.one (.row a)::rs) n d (v,vs) (y::ys) ((so,⟨a.size,v.map (aq a),0,0,Y⟩)::aB) kb
 |agg {l:List RA}{rs:List RE}{v:CV l}{vs:RV rs}{ds:List AV}{ys:List AV}{n1 n2:List (Option Nat×Row)}{n d:Nat}{kb:List Nat} (h:FC σ fs l v ds n1) (t:FR σ fs rws nB rs n (d+nR l) vs ys n2 kb):FR σ fs rws nB (.agg l::rs) n d (v,vs) (.agg ds::ys) (n1++n2) kb
inductive FB (σ:St) (fs:List Nat):(sas:List SA)->fl sas->Nat->List (Option Nat×Row)->Prop
 |nil {n:Nat}:FB σ fs [] () n []
 |skip1 {r:List SA}{o:fl r}{n:Nat}{aB:List (Option Nat×Row)} (t:FB σ fs r o n aB):FB σ fs (.nil::r) o n aB
 |skip2 {r:List SA}{o:fl r}{n g k:Nat}{aB:List (Option Nat×Row)} (t:FB σ fs r o n aB):FB σ fs (.clo g k::r) o n aB
 |skip3 {r:List SA}{o:fl r}{n:Nat}{a:Ty}{aB:List (Option Nat×Row)} (t:FB σ fs r o n aB):FB σ fs (.val a::r) o n aB
 |skip4 {r:List SA}{o:fl r}{n:Nat}{a:Ty}{aB:List (Option Nat×Row)} (t:FB σ fs r o n aB):FB σ fs (.row a::r) o n aB
 |box {r:List SA}{l:List RA}{v:CV l}{o:fl r}{n:Nat}{ds:List AV}{n1 n2:List (Option Nat×Row)} (hd:σ.bx[n]?=Z ds) (h:FC σ fs l v ds n1) (t:FB σ fs r o (n+1) n2):FB σ fs (.box l::r) (toB l v,o) n (n1++n2)
def WH(D:Rel c.n2 m E τ tm σ){a:Ty}{x:TV}{y:AV}{w:aa (Val a)}{i:aa Nat}(b:mC τ.rw a x=Z (w,i))(v:OK m x y):
  ∃so,i.filterMap m.r=so.toList/\(∀id∈i,id<m.rw.length)/\∀n,(∀id∈i,∀r,m.r id=Z r->r ∉ n)->Ay σ n a w y so:=by
 unfold mC at b;split at b
 .cases b;cases v;exact⟨U,rfl,by simp,λ _ _=>⟨rfl,rfl,al _⟩⟩
 .split at b<;>cases b;rename_i u s;let⟨e,d⟩:=jW u;subst e;have d:_=_:=d;subst d;let⟨q,p⟩:=v;exact⟨U,rfl,by simp,λ _ _=>⟨rfl,q,bR (bH s) p⟩⟩
 .rename_i id H;split at b<;>try cases b
  rename_i R N;split at b<;>try cases b
  rename_i g;rw[aK,fF]at g;split at b<;>cases b;rename_i u;let⟨e,d⟩:=jW u;subst e;have d:R.l=w:=d;subst d;let⟨R',z,_,_,G⟩:=v;have f:m.rw[id]?=Z R:=by rw[D.rw];exact N
  rw[f]at z;cases z;have h:∀i∈[id],i<m.rw.length:=by intro i hi;rw[bW.1 hi];exact getElem?_lt f
  obtain⟨j,Q,k,M,o,C,B,L,K,P,A⟩|⟨k,o,C,B⟩:=rU D.rows f (G (cg g.1))
  .refine⟨Z j,by simp[k],h,λ n t=>⟨Q,M,o,L,(A g.2).1,K,?_,(A g.2).2⟩⟩;exact t id (bW.2 rfl) j k
  .have F:=o g.2;refine⟨U,by simp[k],h,λ n _=>⟨F,?_,B⟩⟩;rw[<-F];exact C
 .cases b
def Yj(so:ac Nat)(R:Row)(l):((so,R)::l).filterMap (·.1)=so.toList++l.filterMap (·.1):=by cases so<;>rfl
def sW(rw:aa cm)(b:aa Nat)(a:aa cm):Prop:=∀(p id:Nat),b[p]?=Z id->∃R R',rw[id]?=Z R/\a[p]?=Z R'/\R.sh=Y/\∃h:R'.τ=R.τ,h▸R'.l=R.l
def sW.app {rw a b x y} (h:sW rw a x) (g:sW rw b y) (j:I a=I x):sW rw (a++b) (x++y) := λ p id c=>by
 by_cases d:p<I a
 ·rw [dY d] at c;obtain ⟨R,R',i,f,e⟩:=h p id c;exact ⟨R,R',i,by rw [dY (by omega)];exact f,e⟩
 ·rw [dy (by omega)] at c;obtain ⟨R,R',i,f,e⟩:=g _ id c;exact ⟨R,R',i,by rw [dy (by omega),<- j];exact f,e⟩
def UC{rw:aa cm}{a:Ty}{x:TV}{w:aa (Val a)}{i:aa Nat}(h:mC rw a x=Z (w,i)):I i<=1/\(I i=1->sW rw i [⟨a,w,0,0,Y⟩]):=by
 unfold mC at h;split at h
 .cases h;exact⟨by simp,λ h=>by cases h⟩
 .split at h<;>cases h;exact⟨by simp,λ h=>by cases h⟩
 .rename_i id d;split at h<;>try cases h
  rename_i R k;split at h<;>try cases h
  rename_i b;rw[aK,fF]at b;split at h<;>cases h;rename_i j;let⟨e,g⟩:=jW j;subst e;subst g;refine⟨al _,λ _ p f c=>?_⟩;cases p with
  |zero=>cases c;exact⟨R,_,k,rfl,b.2,rfl,rfl⟩
  |succ p=>cases c
 .cases h
def zX{rw:aa cm}:∀{l cs v ids q},fB rw l cs=Z (v,ids,q)->I ids<=nR l/\(I ids=nR l->sW rw ids (lr l v))
 | [],cs,v,ids,q,h=>by
   cases cs with
   | cons c cs=>simp[fB]at h
   | nil =>
     obtain⟨_,rfl,_⟩:=h;exact⟨al _,λ _ p id h=>by cases h⟩
 | .val t::l,cs,v,ids,q,h=>by
   simp only[fB]at h;split at h<;>try (cases h;done)
   next w vs ids0 q0 hw hvs=>obtain⟨rfl,rfl,rfl⟩:=h;have:=zX hvs;exact this
 | .row t::l,cs,v,ids,q,h=>by
   cases cs with
   | nil=>simp[fB]at h
   | cons c cs =>
     simp only[fB]at h;split at h<;>try (cases h;done)
     next w i vs ids' q0 hw hvs=>obtain⟨rfl,rfl,rfl⟩:=h;obtain⟨a1,a2⟩:=UC hw;obtain⟨b1,b2⟩:=zX hvs;refine⟨by rw[aU,nR];omega,λ hl=>?_⟩;rw[aU,nR]at hl;exact(a2 (by omega)).app (b2 (by omega)) (by show I i=1;omega)
def uW{τ : TS}:∀ sas {n o a q},lH τ sas n=Z (o,a,q)->I a<=nrB sas/\(I a=nrB sas->sW τ.rw a (iM sas o))
 | [],n,o,a,q,h=>by
   obtain⟨_,rfl,_⟩:=h;exact⟨al _,λ _ p id h=>by cases h⟩
 | .nil::sas,n,o,a,q,h=>uW sas (o:=o) h
 | .clo _ _::sas,n,o,a,q,h=>uW sas (o:=o) h
 | .val _::sas,n,o,a,q,h=>uW sas (o:=o) h
 | .row _::sas,n,o,a,q,h=>uW sas (o:=o) h
 | .box l::sas,n,o,a,q,h=>by
   simp only[lH]at h;split at h<;>try (cases h;done)
   rename_i cs g;split at h<;>try (cases h;done)
   next v i r c b m d e=>obtain⟨rfl,rfl,rfl⟩:=h;obtain⟨t,k⟩:=zX d;obtain⟨s,j⟩:=uW sas e;refine⟨by rw[aU,nrB];omega,λ f=>?_⟩;rw[aU,nrB]at f;have:=(k (by omega)).app (j (by omega)) (by rw[mT];omega);show sW τ.rw (i++b) (lr l (toC l (toB l v))++iM sas c);rw[Aj];exact this
def oW{ds}(h:noMc ds=Y):∃b c a ks vs,ds=[.mc b c a ks vs]:=by
 unfold noMc at h;split at h
 .exact⟨_,_,_,_,_,rfl⟩
 .cases h
def qoo{rw a v ds}(b:noMc ds=Y)(h:bq a (ds.map (bC rw))=Z v):bq a ds=Z v:=by
 obtain⟨_,_,_,_,_,rfl⟩:=oW b;exact h
def FC.len{fs l v ds aB}(h:FC σ fs l v ds aB):I l<=I ds:=by
 induction h with
 |nil=>exact al _
 | @val a l v vs ds c aB h d t b=>
   have:=h.1.len;rw[ce,fK]at this;have:=jk a;rw[bG,aU];omega
 |row h t b=>exact qV b
def FC.mc{k:aa Nat}{l:aa RA}{v:CV l}{ds:aa AV}{aB:aa (ac Nat×Row)}(h:FC σ k l v ds aB)(d:noMc ds=Y):∃a w,(∀L,kh l L v=aq a w)/\bq a ds=Z w:=by
 cases h with
 |nil=>cases d
 | @val a l w vs g b aB h n t=>
   have i:=h.1.len;rw[ce,fK]at i;have m:=jk a;have c:I (g++b)=1:=by let⟨_,_,_,_,_,e⟩:=oW d;rw[e];rfl
   rw[aU]at c;have e:b=[]:=cJ (by omega);subst e;rw[bZ]at d |-
   have f:=t.len;cases l with
   |nil=>exact⟨a,w,λ L=>by rw[kh,kh,bZ],h.2 d⟩
   |cons x l=>simp at f
 | @row a l w vs y b aB so h t=>
   let⟨_,_,_,_,_,e⟩:=oW d;cases e;exfalso;cases so with
   |none=>let⟨_,h,_⟩:=h;cases h
   |some j=>let⟨Q,h,_⟩:=h;cases h
def M9{Γ:Gh}{w:ao}{b:Nat}:∀(a:Ty) {v:Val a}{ds:aa AV},noMc ds=Y->bq a ds=Z v->fx Γ w b ds->YN ds (aq a v)
 |.int _,v,ds,c,h,_|.bool,v,ds,c,h,_|.str,v,ds,c,h,_|.term,v,ds,c,h,_|.list _,v,ds,c,h,_=>by obtain⟨_,_,_,_,_,rfl⟩:=oW c;cases h
 |.pair a b,v,ds,c,h,_=>by
   obtain⟨_,_,_,_,_,rfl⟩:=oW c;let⟨pre,f,d,_⟩:=iS (.pair a b) (dJ.1 h);rw[bZ]at f;rw[<-f]at d;have d:1=a.size+b.size:=d;have:=jk a;have:=jk b;omega
 |.one a,v,ds,c,h,q=>M9 a c h q
 |.map k τ,l,ds,c,h,q=>by
   obtain⟨_,_,_,ks,vs,rfl⟩:=oW c;have h:full (cD (dMc k τ (bq k) (bq τ)) [_])=Z l:=h;unfold cD at h;simp only at h;split at h<;>cases h;rename_i C;let⟨A,vs',e,n⟩:=ot C;cases e;let⟨F,E⟩:=Ab n;let⟨L,u,s,K,H,z⟩:=q
   have o:ks=l.map λ p=>aq k p.1:=by
    apply pJ;intro i;rw[dC];by_cases B:i<I ks
    .have f:=aV B;have d:=aV (l:=vs) (i:=i) (by omega);let⟨p,m,y,_⟩:=KS n f d;rw[m,f];have D:u[i]?=Z u[i]:=gi (by omega);rw[qnc y (z i _ _ _ f d D).2.2.1];rfl
    .rw[pL (by omega),pL (by omega)];rfl
   refine⟨_,_,_,ks,vs,l.map λ p=>aq τ p.2,rfl,by rw[aq,o],by rw[ce];omega,λ j v G f d=>?_⟩;have M:=getElem?_lt f;let⟨p,m,_,x⟩:=KS n (aV (show j<I ks by omega)) f;rw[dC,m]at d;cases d;have g:=xr x;refine⟨?_,bJ.2 (fI τ p.2)⟩;cases r:τ.agg with
   |true=>exact VM g
   |false=>
     have e1:=fK τ p.2;rw[Vb r]at e1;show Sub (fy Y v) (fy Y (aq τ p.2));revert g e1;generalize aq τ p.2=e;intro g e1;cases g with
     |nil=>cases e1
     |cons h t=>cases t with
       |nil=>exact h
       |cons _ _=>simp at e1
def VC(a:aa Nat):aa RA->aa AV->Prop
 |[],_=>True
 |.val τ::r,ds=>(∀x∈ds.take τ.size,∀q∈rsC x,q∈a)/\VC a r (ds.drop τ.size)
 |.row _::r,ds=>VC a r (ds.drop 1)
def VC.all{fs}:∀l {ds},(∀x∈ds,∀q∈rsC x,q∈fs)->VC fs l ds
 |[],_,_=>trivial
 |.val τ::l,ds,h=>⟨λ x a=>h x (jf a),VC.all l λ x a=>h x (iP a)⟩
 |.row _::l,ds,h=>VC.all l λ x a=>h x (iP a)
def VC.clean{n:aa Nat}{rw:aa cm}:∀{l cs ds v a},fB rw l cs=Z (v,a,O)->OKL m cs ds->VC n l ds
 |[],_,_,_,_,_,_=>trivial
 |.val t::l,cs,ds,v,a,h,f=>by
   simp only[fB]at h;split at h<;>try (cases h;done)
   next w vs j o q b=>simp only[dF,fo,aK]at h;obtain⟨_,_,s,rfl⟩:=h;refine⟨λ x p r e=>?_,VC.clean b (f.drop t.size)⟩;rw[qT.1 (zK (f.take t.size) s) x p]at e;cases e
 |.row t::l,cs,ds,v,a,h,f=>by
   cases cs with
   |nil=>simp[fB]at h
   |cons c cs=>
     obtain⟨d,ds,rfl,u,g⟩:=f;simp only[fB]at h;split at h<;>try (cases h;done)
     next w i vs k o q b=>obtain⟨_,_,rfl⟩:=h;exact(show VC n l ds from VC.clean b g)
def XR(k:Rel c.n2 m E τ tm σ){u:aa Nat}:∀{xs ys d},Hy τ.rw xs=Z d->OKL m xs ys->(∀id∈d,id<I m.rw->∀r,m.r id=Z r->r∈u)->∀y∈ys,∀q∈rsC y,q∈u
 |[],ys,d,_,l,_,y,f,_,_=>by cases l;cases f
 |x::xs,ys,d,h,l,s,y,f,q,i=>by
   obtain⟨H,ys,rfl,t,G⟩:=l;simp only[Hy]at h;split at h<;>cases h;rename_i a b e D;obtain rfl|f:=bi.1 f
   .unfold YY at e;split at e
    .rename_i id w;split at e<;>try cases e
     rename_i R F;split at e<;>cases e;rename_i B;have g:m.rw[id]?=Z R:=by rw[k.rw];exact F
     let⟨R',p,_,_,v⟩:=t;rw[g]at p;cases p;obtain⟨j,Q,A,f,_⟩|⟨_,_,z,_⟩:=rU k.rows g (v (cg B))
     .rw[f]at i;rw[bW.1 i];exact s id (by simp) (getElem?_lt g) j A
     .obtain⟨rfl,_⟩|⟨K,n,rfl,_⟩:=fL z<;>cases i
    .split at e<;>cases e;next C=>rw[(KI t C).1]at i;cases i
   .exact XR k D G (λ id o=>s id (bc.2 (.inr o))) y f q i
def VC.vid(i:Rel c.n2 m E τ tm σ){fs}:∀{l cs ds d},Ba τ.rw l cs=Z d->OKL m cs ds->(∀id∈d,id<I m.rw->∀r,m.r id=Z r->r∈fs)->VC fs l ds
 |[],_,_,_,_,_,_=>trivial
 |.val t::l,cs,ds,d,h,f,g=>by
   simp only[Ba]at h;split at h<;>cases h;next a b k j=>exact⟨XR i k (f.take t.size) λ id e=>g id (bc.2 (.inl e)),VC.vid i j (f.drop t.size) λ id e=>g id (bc.2 (.inr e))⟩
 |.row t::l,cs,ds,d,h,f,g=>VC.vid i (l:=l) h (f.drop 1) g
def VB(a:aa Nat)(σ:St):aa SA->Nat->Prop
 |[],_=>True
 |.box l::r,n=>(∀ds,σ.bx[n]?=Z ds->VC a l ds)/\VB a σ r (n+1)
 |.nil::r,n|.clo _ _::r,n|.val _::r,n|.row _::r,n=>VB a σ r n
def VB.all{fs}(h:∀ds∈σ.bx,∀x∈ds,∀q∈rsC x,q∈fs):∀l n,VB fs σ l n
 |[],_=>trivial
 |.box l::r,n=>⟨λ ds a=>VC.all l (h ds (aP a)),VB.all h r (n+1)⟩
 |.nil::r,n|.clo _ _::r,n|.val _::r,n|.row _::r,n=>VB.all h r n
def VB.clean(d:Rel c.n2 m E τ tm σ){u:aa Nat}:∀sas {n o e},lH τ sas n=Z (o,e,O)->(∀i,i<nBx sas->m.b (n+i)=n+i)->VB u σ sas n
 |[],_,_,_,_,_=>trivial
 |.nil::r,_,o,_,h,a|.clo _ _::r,_,o,_,h,a|.val _::r,_,o,_,h,a|.row _::r,_,o,_,h,a=>VB.clean d r (o:=o) h a
 |.box l::r,n,o,e,h,a=>by
   simp only[lH]at h;split at h<;>try (cases h;done)
   rename_i cs g;split at h<;>try (cases h;done)
   rename_i v i z A k y q s;simp only[dF,fo,aK]at h;obtain⟨_,_,rfl,rfl⟩:=h;let⟨ds,p,x⟩:=d.box n cs g;rw[show m.b n=n from a 0 (pI _)]at p;refine⟨λ w f=>?_,VB.clean d r s λ j t=>?_⟩
   .rw[p]at f;cases f;exact VC.clean q x
   .have:=a (j+1) (ZN t);rw[show n+1+j=n+(j+1) by omega];exact this
def VB.vid(g:Rel c.n2 m E τ tm σ){q:aa Nat}:∀sas {n f},sM τ sas n=Z f->(∀i,i<nBx sas->m.b (n+i)=n+i)->(∀id∈f,id<I m.rw->∀r,m.r id=Z r->r∈q)->VB q σ sas n
 |[],_,_,_,_,_=>trivial
 |.nil::r,_,_,h,d,e|.clo _ _::r,_,_,h,d,e|.val _::r,_,_,h,d,e|.row _::r,_,_,h,d,e=>VB.vid g r h d e
 |.box l::r,n,f,h,d,e=>by
   simp only[sM]at h;split at h<;>try (cases h;done)
   rename_i cs p;split at h<;>cases h;rename_i a b v u;let⟨ds,s,x⟩:=g.box n cs p;rw[show m.b n=n from d 0 (pI _)]at s;refine⟨λ w o=>?_,VB.vid g r u (λ j t=>?_) λ id k=>e id (bc.2 (.inr k))⟩
   .rw[s]at o;cases o;exact VC.vid g v x λ id k=>e id (bc.2 (.inl k))
   .have:=d (j+1) (ZN t);rw[show n+1+j=n+(j+1) by omega];exact this
def F5(s:Rel c.n2 m E τ tm σ):∀{l:aa RA}{cs:aa TV}{ds:aa AV}{v:CV l}{a:aa Nat}{q:Bool},fB τ.rw l cs=Z (v,a,q)->OKL m cs ds->(∀id∈a,id<m.rw.length)/\
  ∀j,VC j l ds->(∀id∈a,∀r,m.r id=Z r->r ∉ j)->∃aB,FC σ j l v ds aB/\aB.map (·.2)=nf l v/\aB.filterMap (·.1)=a.filterMap m.r/\(a.length=nR l->aB.map (·.1)=a.map m.r)
 |[],cs,ds,v,a,q,h,n=>by
   cases cs with
   |cons c cs=>simp[fB]at h
   |nil=>
     cases n;simp only[fB,dF,fo]at h;obtain⟨_,rfl,_⟩:=h;exact⟨by simp,λ j _ _=>⟨[],.nil,rfl,rfl,λ _=>rfl⟩⟩
 |.val t::l,cs,ds,v,a,q,h,n=>by
   simp only[fB]at h;split at h<;>try (cases h;done)
   rename_i w vs F L p e;simp only[dF,fo]at h;obtain⟨rfl,rfl,rfl⟩:=h;let⟨B,A⟩:=F5 s e (n.drop t.size);have N:=n.take t.size;rw[<-s.rw]at p;let⟨S,D,M⟩:=qf s.rows t (wT p) N;cases M;have f:ds=ds.take t.size++ds.drop t.size:=(oP _ _).symm;refine⟨B,λ j g b=>?_⟩;let⟨aB,z,y,u⟩:=A j g.2 b;refine⟨aB,?_,y,u⟩;rw[f];exact .val ⟨xr (dJ.2 D),λ P=>qoo P (dJ.2 D)⟩ g.1 z
 |.row t::l,cs,ds,v,a,q,h,n=>by
   cases cs with
   |nil=>simp[fB]at h
   |cons c cs=>
     obtain⟨d,ds,rfl,R,C⟩:=n;simp only[fB]at h;split at h<;>try (cases h;done)
     rename_i w i vs o L p e;simp only[dF,fo]at h;obtain⟨rfl,rfl,rfl⟩:=h;let⟨so,k,K,H⟩:=WH s p R;let⟨B,A⟩:=F5 s e C;refine⟨λ id b=>(bc.1 b).elim (K id) (B id),λ j g b=>?_⟩;let⟨aB,z,y,u⟩:=A j g λ id h=>b id (bc.2 (.inr h));refine⟨_,.row (H j λ id h=>b id (bc.2 (.inl h))) z,by rw[aZ,y];rfl,?_⟩;refine⟨by rw[Yj,mM,<-u.1,k],λ x=>?_⟩;have T:=(UC p).1;have Q:=(zX e).1;have x:(i++o).length=nR l+1:=x;rw[aU]at x;obtain⟨id,rfl⟩:=O8.1 (show i.length=1 by omega);rw[aZ,u.2 (by simp at x;omega)]
     have:so=m.r id:=by
      cases G:m.r id with
      |none=>rw[Pc G]at k;cases so with|none=>rfl|some _=>cases k
      |some r=>rw[Ic G]at k;cases so with|none=>cases k|some _=>cases k;rfl
     rw[this];rfl
def xo(u:Rel c.n2 m E τ tm σ):∀(sas:aa SA) {n:Nat}{o:fl sas}{a:aa Nat}{q:Bool},lH τ sas n=Z (o,a,q)->(∀i,i<nBx sas->m.b (n+i)=n+i)->(∀id∈a,id<I m.rw)/\
  ∀f,VB f σ sas n->(∀id∈a,∀r,m.r id=Z r->r ∉ f)->∃aB,FB σ f sas o n aB/\aB.map (·.2)=fM sas o/\aB.filterMap (·.1)=a.filterMap m.r/\(I a=nrB sas->aB.map (·.1)=a.map m.r)
 |[],n,o,a,q,h,_=>by
   simp only[lH,dF,fo]at h;obtain⟨_,rfl,_⟩:=h;exact⟨by simp,λ f _ _=>⟨[],.nil,rfl,rfl,λ _=>rfl⟩⟩
 |.nil::sas,n,o,a,q,h,g=>by
   let⟨t,s⟩:=xo u sas (o:=o) h g;exact⟨t,λ f e d=>let⟨aB,p,k⟩:=s f e d;⟨aB,.skip1 p,k⟩⟩
 |.clo _ _::sas,n,o,a,q,h,g=>by
   let⟨t,s⟩:=xo u sas (o:=o) h g;exact⟨t,λ f e d=>let⟨aB,p,k⟩:=s f e d;⟨aB,.skip2 p,k⟩⟩
 |.val _::sas,n,o,a,q,h,g=>by
   let⟨t,s⟩:=xo u sas (o:=o) h g;exact⟨t,λ f e d=>let⟨aB,p,k⟩:=s f e d;⟨aB,.skip3 p,k⟩⟩
 |.row _::sas,n,o,a,q,h,g=>by
   let⟨t,s⟩:=xo u sas (o:=o) h g;exact⟨t,λ f e d=>let⟨aB,p,k⟩:=s f e d;⟨aB,.skip4 p,k⟩⟩
 |.box l::sas,n,o,a,q,h,g=>by
   simp only[lH]at h;split at h<;>try (cases h;done)
   rename_i cs z;split at h<;>try (cases h;done)
   rename_i v i S T w R B C;simp only[dF,fo]at h;obtain⟨rfl,rfl,rfl⟩:=h;let⟨ds,A,H⟩:=u.box n cs z;have x:m.b n=n:=g 0 (pI _);rw[x]at A;let⟨L,K⟩:=F5 u B H
   let⟨t,s⟩:=xo u sas C λ j G=>by
    have:=g (j+1) (ZN G);rw[show n+1+j=n+(j+1) by omega];exact this
   refine⟨λ id d=>(bc.1 d).elim (L id) (t id),λ f e d=>?_⟩;let⟨p,Q,P,F⟩:=K f (e.1 ds A) λ id h=>d id (bc.2 (.inl h));let⟨k,N,M,D⟩:=s f e.2 λ id h=>d id (bc.2 (.inr h));refine⟨p++k,.box A Q N,?_,by rw[mM,mM,F.1,D.1],λ y=>?_⟩
   .rw[ft,P,M];show _=nf l (toC l (toB l v))++_;rw[Aj]
   .have X:=(zX B).1;have W:=(uW sas C).1;have y:I (i++w)=nR l+nrB sas:=y;rw[aU]at y;rw[ft,ft,F.2 (by omega),D.2 (by omega)]
def Zt(m:Mp)(σ:St)(b:aa Nat)(rws:aa cm)(a:aa (ac Nat×Row)):Prop:=
 ∀(p id:Nat),b[p]?=Z id->∃(R R':cm) (Q:Row),m.rw[id]?=Z R/\rws[p]?=Z R'/\a[p]?=Z (m.r id,Q)/\(∃h:R'.τ=R.τ,h▸R'.l=R.l)/\R.sh=Y
def qoI(i:Rel c.n2 m E τ tm σ){sas:aa SA}{o:fl sas}{a:aa Nat}{q:Bool}(h:lH τ sas 0=Z (o,a,q)){f:aa (ac Nat×Row)}(j:I a=nrB sas->f.map (·.1)=a.map m.r):Zt m σ (MX (nrB sas) a) (iM sas o) f:=by
 unfold MX;cases k:Nat.beq (I a) (nrB sas)with
 |false=>intro p id b;cases b
 |true=>
   have g:=cg k;intro p id b;have b:a[p]?=Z id:=b;let⟨R,R',t,s,n,l⟩:=(uW sas h).2 g p id b;have e:=aY (·[p]?) (j g);simp only[dC,b,lK]at e;cases d:f[p]? with
   |none=>rw[d]at e;cases e
   |some x=>
     rw[d]at e;let⟨so,Q⟩:=x;cases e;exact⟨R,R',Q,by rw[i.rw];exact t,s,rfl,l,n⟩
def F9(o:Rel c.n2 m E τ tm σ){iB:aa Nat}{rws:aa cm}:∀{G:aa RE}{l:aa ResultVar}{v:RV G}{f B:aa Nat}{q:Bool},mz c E τ iB G l=Z (v,f,B,q)->(∀id∈f,id<m.rw.length)/\(∀b∈B,b<m.nb)/\
  ∃ys,jH c.pc.cfg tm σ l=Z ys/\∀(j:aa Nat) (z:aa (ac Nat×Row)) (n d:Nat),Zt m σ iB rws z->rws.length<=d->(((∀y∈ys,∀r∈rsA y,r∈j)/\(∀b∈B,∀ds,σ.bx[m.b b]?=Z ds->∀x∈ds,∀r∈rsC x,r∈j)/\f=[])\/(q=O/\∀id∈f,∀r,m.r id=Z r->r ∉ j))->
   ∃e u aB,FR σ j rws z e n d u ys aB (B.map m.b)/\aB.map (·.2)=eN e u/\aB.filterMap (·.1)=f.filterMap m.r/\∀{γ:Type} (k:(e:aa RE)->RV e->ac γ),vc rws G n d v k=k e u
 |[],l,v,f,B,q,h=>by
   cases l with
   |cons a l=>simp[mz]at h
   |nil=>
     simp only[mz,dF,fo]at h;obtain⟨_,rfl,rfl,_⟩:=h;exact⟨by simp,by simp,[],rfl,λ j z n d _ _ _=>⟨[],(),[],.nil,rfl,rfl,λ _=>rfl⟩⟩
 |.one (.val a)::G,l,v,f,B,q,h=>by
   cases l with
   |nil=>simp[mz]at h
   |cons rv l=>
     simp only[mz]at h;split at h<;>try cases h
     rename_i x C;split at h<;>cases h;rename_i w vs q' A s;let⟨y,S,F⟩:=Ar o C;let⟨N,kb,ys,M,L⟩:=F9 o (rws:=rws) s;rw[<-o.rw]at A;let⟨p1,_⟩:=rP o.rows A F;refine⟨N,kb,y::ys,by simp only[jH,S,M],λ j z n d R hd g=>?_⟩;let⟨e,u,aB,K,H,W,T⟩:=L j z n d R hd (g.imp (λ h=>⟨λ y Q=>h.1 y (aS _ Q),h.2⟩) λ h=>⟨(aK _ _▸h.1:px x=O/\q'=O).2,h.2⟩);refine⟨.one (.val a)::e,(w,u),aB,.val (Gv p1) ?_ K,H,W,λ k=>T _⟩;obtain h|h:=g
     .exact h.1 y (aW ..)
     .have ab:=(aK _ _▸h.1:px x=O/\q'=O).1;rw[Gm ab F];intro r o;cases o
 |.one (.row a)::G,l,v,f,B,q,h=>by
   cases l with
   |nil=>simp[mz]at h
   |cons rv l=>
     simp only[mz]at h;split at h<;>try cases h
     rename_i x C;split at h<;>cases h;rename_i w i vs P A s;let⟨y,S,F⟩:=Ar o C;let⟨N,kb,ys,M,L⟩:=F9 o (rws:=rws) s;let⟨so,s1,s2,s3⟩:=WH o A F;refine⟨λ id D=>(bc.1 D).elim (s2 id) (N id),kb,y::ys,by simp only[jH,S,M],λ j z n d R hd g=>?_⟩;let⟨e,u,aB,K,H,W,T⟩:=L j z n (d+1) R (by omega) (g.imp (λ h=>⟨λ y Q=>h.1 y (aS _ Q),h.2.1,(mH.1 h.2.2).2⟩) λ h=>⟨h.1,λ id t=>h.2 id (bc.2 (.inr t))⟩);refine⟨.one (.row a)::e,(w,u),_,.row (s3 j (g.elim (λ h=>(by rw[(mH.1 h.2.2).1];intro id t;cases t)) λ h id t=>h.2 id (bc.2 (.inl t)))) K,by rw[aZ,H];rfl,?_,λ k=>T _⟩;rw[Yj,mM,<-W,s1]
 |.agg p::G,l,v,f,B,q,h=>by
   cases l with
   |nil=>simp[mz]at h
   |cons rv l=>
     simp only[mz]at h;split at h<;>try (cases h;done)
     rename_i cs C;split at h<;>try (cases h;done)
     rename_i w i q1 vs P ad q2 A s;simp only[dF,fo]at h;obtain⟨rfl,rfl,rfl,rfl⟩:=h;obtain⟨y,S,ds,rfl,F⟩:=Ar o C;let⟨c0,c1⟩:=F5 o A F;let⟨N,kb,ys,M,L⟩:=F9 o (rws:=rws) s;refine⟨λ id D=>(bc.1 D).elim (c0 id) (N id),kb,.agg ds::ys,by simp only[jH,S,M],λ j z n d R hd g=>?_⟩;let⟨K,a1,a2,a3⟩:=c1 j (g.elim (λ h=>VC.all p λ x C r X=>h.1 (.agg ds) (aW ..) r (ir.2 ⟨x,C,X⟩)) λ h=>VC.clean (by rw[(aK _ _▸h.1:q1=O/\q2=O).1]at A;exact A) F) (g.elim (λ h=>(by rw[(mH.1 h.2.2).1];intro id t;cases t)) λ h id t=>h.2 id (bc.2 (.inl t)));let⟨e,u,H,b1,b2,b3,b4⟩:=L j z n (d+nR p) R (by omega) (g.imp (λ h=>⟨λ y Q=>h.1 y (aS _ Q),h.2.1,(mH.1 h.2.2).2⟩) λ h=>⟨(aK _ _▸h.1:q1=O/\q2=O).2,λ id t=>h.2 id (bc.2 (.inr t))⟩);exact⟨.agg p::e,(w,u),K++H,.agg a1 b1,by rw[ft,a2,b2];rfl,by rw[mM,mM,a3.1,b3],λ k=>b4 _⟩
def FR.len{e:aa Nat}{rws:aa cm}{c:aa (ac Nat×Row)}{b:aa RE}{n d:Nat}{v:RV b}{ys:aa AV}{aB:aa (ac Nat×Row)}{kb:aa Nat}(h:FR σ e rws c b n d v ys aB kb):∀L,I ys=I (fC b L v):=by
 induction h with
 |nil=>intro L;rfl
 |val h f t a=>intro L;rw[fC,bG,bG,a L]
 |row h t a=>intro L;rw[fC,bG,bG,a (L+1)]
 |agg h t a=>intro L;rw[fC,bG,bG,a]
def Sa{g:aa Nat}{a:Ty}{v:aa (Val a)}{y:AV}{so:ac Nat}(h:Ay σ g a v y so):Nn σ g so ⟨a.size,v.map (aq a),0,0,Y⟩:=by
 refine⟨rfl,rfl,jk a,?_,?_,?_⟩
 .intro e d;obtain⟨w,_,rfl⟩:=bu.1 d;exact fK a w
 .intro e d;obtain⟨w,_,rfl⟩:=bu.1 d;exact fI a w
 .cases so with
  |none=>show v.map (aq a)=[];rw[h.1];rfl
  |some j=>
    let⟨Q,_,p,o,n,f,m⟩:=h;refine⟨Q,p,o,n,by show I Q.c=I (v.map (aq a));rw[en f,ce],λ i e r q b=>?_,m⟩;let⟨w,l,k⟩:=oS f q;have b:(v.map (aq a))[i]?=Z r:=b;rw[dC,l]at b;cases b;exact xr k
def AG(σ:St)(a:aa Nat)(aB:aa (ac Nat×Row)):Prop:=∀p∈aB,Nn σ a p.1 p.2
def FC.newOk{c:aa Nat}{l:aa RA}{v:CV l}{ds:aa AV}{aB:aa (ac Nat×Row)}(h:FC σ c l v ds aB):AG σ c aB:=by
 induction h with
 |nil=>intro p h;cases h
 |val h d t a=>exact a
 |row h t a=>
   intro p b;obtain rfl|b:=bi.1 b
   .exact Sa h
   .exact a p b
def FR.newOk{e:aa Nat}{rws:aa cm}{f:aa (ac Nat×Row)}{c:aa RE}{n d:Nat}{v:RV c}{ys:aa AV}{aB:aa (ac Nat×Row)}{kb:aa Nat}(h:FR σ e rws f c n d v ys aB kb):AG σ e aB:=by
 induction h with
 |nil=>intro p h;cases h
 |val h g t a=>exact a
 |row h t a=>
   intro p b;obtain rfl|b:=bi.1 b
   .exact Sa h
   .exact a p b
 |agg h t a=>intro p b;exact(bc.1 b).elim (h.newOk p) (a p)
def FB.newOk{a:aa Nat}{sas:aa SA}{o:fl sas}{n:Nat}{aB:aa (ac Nat×Row)}(h:FB σ a sas o n aB):AG σ a aB:=by
 induction h with
 |nil=>intro p h;cases h
 |box d h t b=>intro p c;exact(bc.1 c).elim (h.newOk p) (b p)
 |_=>assumption
def Wu{c:Gh}{B:ao}{i:Nat->Nat->ac ah}{P kb:aa Nat}(N:Inv c σ B){nb L p:Nat}{all:aa (ac Nat×Row)}{a:Ty}{v:aa (Val a)}{y:AV}{so:ac Nat}(h:Ay σ P a v y so)(d:all[p]?=Z (so,⟨a.size,v.map (aq a),0,0,Y⟩)){u:ah}(x:Rep c y u):Rep (eK c i nb kb L all) (.rs (L+p) 0 (I v) 0 Y) u:=by
 have G:p<I all:=getElem?_lt d;have g:¬ L+p<L:=by omega
 have e:L+p-L=p:=by omega
 cases so with
 |some j=>
   obtain⟨Q,rfl,r,q,E,D,C⟩:=h;have H:=N.row j Q r;cases x with
   |rs _ _ _ _ _ f cap W T w A m=>
     have m:=m (H.ver (by rw[E];exact aL _)).symm;have l:=en D;rw[l]at w;rw[l];show Rep (eK c i nb kb L all) (.rs (L+p) 0 (I v) 0 Y) (.slice f (I v) cap);refine .rs _ _ _ _ _ f cap (by show L+p<L+I all;omega) (aL _) w (λ h=>by cases h) λ _=>?_
     have S:(eK c i nb kb L all).cur (L+p)=c.cur j:=by
      show(if L+p<L then _ else match all[L+p-L]? with|some (Z j,_)=>c.cur j|_=>0)=_;rw[af g,e,d]
     have z:(eK c i nb kb L all).sz (L+p)=c.sz j:=by
      show(if L+p<L then _ else match all[L+p-L]? with|some (Z j,_)=>c.sz j|_=>0)=_;rw[af g,e,d]
     have R:(eK c i nb kb L all).k (L+p)=c.k j:=by
      show(if L+p<L then _ else match all[L+p-L]? with|some p=>p.2.k|none=>1)=_;rw[af g,e,d,<-H.k,q]
     rw[S,z,R];rw[H.off C.2]at m;exact m
 |none=>
   obtain⟨rfl,r,q⟩:=h
   have s:∃f,u=.slice f 0 0:=by
    obtain⟨rfl,_⟩|⟨z,n,rfl,K⟩:=fL r
    .exact⟨U,ch x⟩
    .have:z=[]:=cJ (en K);subst this;cases x with
     |sl _ _ _ f F cap b o us t w A=>
       have M:1<n+1:=q;have:=A M;refine⟨f,?_⟩;have t:F=0:=t;rw[this,t]
   obtain⟨f,rfl⟩:=s;refine .rs _ _ _ _ _ f 0 (by show L+p<L+I all;omega) (aL _) (al _) (λ h=>by cases h) λ _=>⟨.inl rfl,by rw[dE,kK];exact aL _⟩
def qiK{b:Gh}{n:ao}{f:Nat->Nat->ac ah}{m kb:aa Nat}(y:Inv b σ n)(s:Le b {b with mem:=f})(j:∀r∈m,∀R,σ.rw[r]?=Z R->gJ {b with mem:=f} r R){nb L:Nat}{all:aa (ac Nat×Row)}{a:Ty}{v:Val a}{ds:aa AV}(h:dR (ds.map (bC σ.rw)) (aq a v))(t:∀x∈ds,∀r∈rsC x,r∈m){us:aa ah}(l:RepL b ds us):RepL (eK b f nb kb L all) (aq a v) us:=by
 let⟨p,o⟩:=pX (fI a v);refine qjM (Γ:={b with mem:=f}) (λ _ _ _ h=>h) (h.rep ?_) p o;refine⟨by rw[ce];exact l.len,λ i x u e g=>?_⟩;rw[dC]at e;cases c:ds[i]? with
 |none=>rw[c]at e;cases e
 |some k=>
   rw[c]at e;cases e;exact vf y s (λ r q R w=>j r (t k (aP c) r q) R w) (l.rep i k u c g)
def RepL.split{Γ:Gh}{a b:aa AV}{us:aa ah}(h:RepL Γ (a++b) us):RepL Γ a (us.take (I a))/\RepL Γ b (us.drop (I a)):=by
 have d:=h.take (I a);have c:=h.drop (I a);rw[List.take_left]at d;rw[List.drop_left]at c;exact⟨d,c⟩
def GS{b:aa Nat}{l:aa RA}{v:CV l}{ds:aa AV}{aB:aa (ac Nat×Row)}(h:FC σ b l v ds aB):I aB=nR l:=by
 induction h with
 |nil=>rfl
 |val h c t a=>exact a
 |row h t a=>exact aY (· + 1) a
def FC.rep{b:Gh}{p:ao}{f:Nat->Nat->ac ah}{o kb:aa Nat}(n:Inv b σ p)(q:Le b {b with mem:=f})(j:∀r∈o,∀R,σ.rw[r]?=Z R->gJ {b with mem:=f} r R)(nb L:Nat)(all:aa (ac Nat×Row)){l:aa RA}{v:CV l}{ds:aa AV}{aB:aa (ac Nat×Row)}(h:FC σ o l v ds aB):
  ∀(pre post:aa (ac Nat×Row)),all=pre++(aB++post)->∀us,RepL b ds us->RepL (eK b f nb kb L all) (kh l (L+I pre) v) us:=by
 induction h with
 |nil=>intro pre post _ us c;rw[c.nil_inv];exact .nil
 | @val a l v vs ds w aB h s t i=>
   intro pre post e us c;let⟨m,k⟩:=c.split;have:=(qiK n q j (nb:=nb) (kb:=kb) (L:=L) (all:=all) h.1 s m).append (i pre post e _ k);rw[oP]at this;exact this
 | @row a l v vs y ds aB so h t i=>
   intro pre post e us c;obtain⟨u,r,rfl,m,k⟩:=c.uncons;have d:all[I pre]?=Z (so,⟨a.size,v.map (aq a),0,0,Y⟩):=by rw[e,dy (al _),gF];rfl
   refine .cons (Wu n h d m) ?_;have:=i (pre++[(so,⟨a.size,v.map (aq a),0,0,Y⟩)]) post (by rw[e,bE];rfl) r k;rw[aU]at this;exact this
def FR.rep{c:Gh}{N:ao}{C:Nat->Nat->ac ah}{G:aa Nat}(F:Inv c σ N)(M:Le c {c with mem:=C})(w:∀r∈G,∀R,σ.rw[r]?=Z R->gJ {c with mem:=C} r R)(nb L:Nat)(H:aa Nat)(all:aa (ac Nat×Row))(e:AG σ G all){rws:aa cm}{K:aa (ac Nat×Row)}(ab:∀(p:Nat) (x:ac Nat×Row),K[p]?=Z x->all[p]?=Z x){i:aa RE}{n d:Nat}{v:RV i}{ys:aa AV}{aB:aa (ac Nat×Row)}{kb:aa Nat}(h:FR σ G rws K i n d v ys aB kb):
  ∀(pre:aa (ac Nat×Row)),all=pre++aB->I pre=d->nb<=n->(∀(j b:Nat),kb[j]?=Z b->H[n-nb+j]?=Z b)->∀us,RepL c ys us->RepL (eK c C nb H L all) (fC i (L+I pre) v) us:=by
 induction h with
 |nil=>intro pre _ _ _ _ us f;rw[f.nil_inv];exact .nil
 | @val a i v vs y ys aB n d kb h hf t m=>
   intro pre g z o s us f;obtain⟨u,r,rfl,B,A⟩:=f.uncons;let⟨Q,P⟩:=wS (zl a v);exact .cons (FO (Γ:={c with mem:=C}) (λ _ _ _ h=>h) (h _ _ (Mc F M (λ q X R hR=>w q (hf q X) R hR) B)) Q P) (m pre g z o s r A)
 | @row a i v vs y ys aB so n d kb h t m=>
   intro pre g z o s us f;obtain⟨u,r,rfl,B,A⟩:=f.uncons;have e:all[I pre]?=Z (so,⟨a.size,v.map (aq a),0,0,Y⟩):=by rw[g,dy (al _),gF];rfl
   refine .cons (Wu F h e B) ?_;have:=m (pre++[(so,⟨a.size,v.map (aq a),0,0,Y⟩)]) (by rw[g,bE];rfl) (by rw[aU,z];rfl) o s r A;rw[aU]at this;exact this
 | @agg l i v vs ds ys T S n d kb h t m=>
   intro pre g z o s us f;obtain⟨u,r,rfl,B,A⟩:=f.uncons;refine .cons ?_ ?_
   .cases B with
    |agg cs us D E W=>
      have:=h.rep F M w nb L (kb:=H) all pre S g us ⟨D,W⟩;exact .agg _ us this.len E this.rep
   .have:=m (pre++T) (by rw[g,bE]) (by rw[aU,z,GS h]) o s r A;rw[aU,GS h,<-eY]at this;exact this
def FR.boxes{c:Gh}{p:ao}{k:Nat->Nat->ac ah}{o:aa Nat}(C:Inv c σ p)(A:Le c {c with mem:=k})(u:∀r∈o,∀R,σ.rw[r]?=Z R->gJ {c with mem:=k} r R)(nb L:Nat)(x:aa Nat)(all:aa (ac Nat×Row)){rws:aa cm}{q:aa (ac Nat×Row)}{f:aa RE}{n d:Nat}{v:RV f}{ys:aa AV}{aB:aa (ac Nat×Row)}{kb:aa Nat}(h:FR σ o rws q f n d v ys aB kb):
  ∀(pre:aa (ac Nat×Row)),all=pre++aB->∀(j:Nat) (cs:aa AV),(iF f (L+I pre) v)[j]?=Z cs->∃b ds,kb[j]?=Z b/\σ.bx[b]?=Z ds/\(noMc ds=Y->∃a w,cs=aq a w/\bq a ds=Z w)/\∀us,RepL c ds us->RepL (eK c k nb x L all) cs us:=by
 induction h with
 |nil=>intro pre _ j cs e;cases e
 |val h B t g=>exact λ pre i j cs e=>g pre i j cs e
 | @row a f v vs y ys aB so n d kb h t g=>
   intro pre i j cs e;exact g (pre++[(so,⟨a.size,v.map (aq a),0,0,Y⟩)]) (by rw[i,bE];rfl) j cs (by rw[aU];exact e)
 | @agg l f v vs ds ys s z n d kb h t g=>
   intro pre i j cs e;exact g (pre++s) (by rw[i,bE]) j cs (by rw[aU,GS h,<-eY];exact e)
def FR.kept{f:aa Nat}{rws:aa cm}{e:aa (ac Nat×Row)}{c:aa RE}{n d:Nat}{v:RV c}{ys:aa AV}{aB:aa (ac Nat×Row)}{kb:aa Nat}(h:FR σ f rws e c n d v ys aB kb):(∀b∈kb,b<I σ.bx)/\∀L,I (iF c L v)=I kb:=by
 induction h with
 |nil=>exact⟨by simp,λ _=>rfl⟩
 |val h g t a=>exact a
 |row h t a=>exact⟨a.1,λ L=>a.2 (L+1)⟩
 |agg h t a=>exact⟨a.1,λ L=>a.2 _⟩
def FB.rep{c:Gh}{s:ao}{f:Nat->Nat->ac ah}{q kb:aa Nat}(A:Inv c σ s)(y:Le c {c with mem:=f})(j:∀r∈q,∀R,σ.rw[r]?=Z R->gJ {c with mem:=f} r R)(nb L:Nat)(all:aa (ac Nat×Row)){sas:aa SA}{o:fl sas}{n:Nat}{aB:aa (ac Nat×Row)}(h:FB σ q sas o n aB):
  ∀(pre post:aa (ac Nat×Row)),all=pre++(aB++post)->∀(i:Nat) (cs:aa AV),(eM sas (L+I pre) o)[i]?=Z cs->∃ds,σ.bx[n+i]?=Z ds/\(noMc ds=Y->∃a w,cs=aq a w/\bq a ds=Z w)/\∀us,RepL c ds us->RepL (eK c f nb kb L all) cs us:=by
 induction h with
 |nil=>intro pre post _ i cs b;cases b
 | @box r l v o n ds p m z h t e=>
   intro pre post d i cs b;have d:all=pre++(p++(m++post)):=by rw[d,bE]
   have b:(kh l (L+I pre) (toC l (toB l v))::eM r (L+I pre+nR l) o)[i]?=Z cs:=b;cases i with
   |zero=>
     cases b;rw[Aj];refine⟨ds,z,λ x=>by let⟨a,w,e1,e2⟩:=h.mc x;exact⟨a,w,e1 _,e2⟩,λ us u=>?_⟩;exact h.rep A y j nb L all pre (m++post) d us u
   |succ i=>
     let⟨k,C,B⟩:=e (pre++p) post (by rw[d,bE]) i cs (by rw[aU,GS h,<-eY];exact b);exact⟨k,by rw[<-C];congr 1;omega,B⟩
 |skip1 t e|skip2 t e|skip3 t e|skip4 t e=>exact λ pre post d i cs b=>e pre post d i cs b
def qiV{c b:Gh}{ys d:aa AV}{u:ah}(f:I ys=I d)(h:∀us,RepL c ys us->RepL b d us)(a:Rep c (cN ys) u):Rep b (cN d) u:=by
 match ys,d,f with
 |[],[],_=>
   cases a with
   |tup cs us e a=>exact .tup [] us e (h us ⟨e,a⟩).rep
 |[y],[z],_=>
   let⟨l,r,g,i,_⟩:=(h [u] (.cons a .nil)).uncons;cases g;exact i
 |y::k::ys,z::j::d,f=>
   cases a with
   |tup cs us e a=>exact .tup _ us (by rw[e];exact f) (h us ⟨e,a⟩).rep
def XM{e:Type}{f:e->ac Nat}:∀{l:aa e},(l.filterMap f).Nodup->∀(a b j:Nat) (x y:e),l[a]?=Z x->l[b]?=Z y->f x=Z j->f y=Z j->a=b
 |[],_,a,b,j,x,y,h,_,_,_=>by cases h
 |z::l,d,a,b,j,x,y,o,n,m,k=>by
   have r:(l.filterMap f).Nodup:=by
    cases g:f z with
    |none=>rw[Pc g]at d;exact d
    |some q=>rw[Ic g]at d;exact(mI.1 d).2
   have c:∀{i:Nat}{w:e},l[i]?=Z w->f z=Z j->f w=Z j->False:=λ s g p=>by
    rw[Ic g]at d;exact(mI.1 d).1 (nL.2 ⟨_,aP s,p⟩)
   cases a with
   |zero=>
     cases b with
     |zero=>rfl
     |succ b=>cases o;exact(c n m k).elim
   |succ a=>
     cases b with
     |zero=>cases n;exact(c o k m).elim
     |succ b=>rw[XM r a b j x y o n m k]
theorem qih{P:aX}{c:TC}(hC:dd P c.pc.cfg){f:dm}{fn:Func}{cd:Code}(hf:P.funcs[f]?=Z fn)(L:jr fn=O)(X:fn.body=Z cd)(co:c.nt=fn.ntmps)(g:sZ)(ab:c.np=A6 g.args)(b5:I g.args<=fn.ntmps)
  (h:∀a v,g.fn a=Z v->∃n k,qJ c (yh c g.args g.res (V fn.results)) n k [.code cd] (mn 0 (oD g.args 0 0 a)) ⟨sBx g.args 0 a,sRw g.args a⟩=Z v):cp P f (sgP g):=by
 unfold jr at L;rw[X]at L;simp only[aK,fF]at L;let⟨c5,a5⟩:=L;refine⟨⟨fn,hf,by rw[X];rfl,a5⟩,λ Γ σ w d G r H Q hp=>?_⟩;unfold sgP at hp;split at hp<;>try cases hp
 rename_i a ha;split at hp<;>try cases hp
 rename_i v hv;let⟨N,k,bp⟩:=h a v hv;have h0:nH ⟨λ i=>i,0,λ _=>U,λ _=>0,λ _=>[],[]⟩ σ 0 0:=⟨λ _=>rfl,rfl,λ id R h=>(by cases h),λ id r h=>absurd h (eh _),λ id dT r h=>absurd h (eh _),λ id R h=>(by cases h)⟩
 let⟨m,b8,dr,s1,s2,s3,s4,s5,s6,s7,s8⟩:=wZ g.args ha h0;have d3:I d<=fn.ntmps:=bR s7 b5;have s5:0+I (sBx g.args 0 a)=b8:=s5;have F:I σ.bx=nBx g.args:=by rw[<-s3,<-s5,xD];omega
 have ab:c.np=nBx g.args:=ab
 have bz:Rel c.n2 m (mn 0 (oD g.args 0 0 a)) ⟨sBx g.args 0 a,sRw g.args a⟩ (d++List.replicate (fn.ntmps-I d) .dead) {σ with wr:=[],wrr:=[]}:=by
  refine⟨by show _=c.nt;rw[aU,ti,co];omega,λ t=>?_,s4,by show m.nb=I (sBx g.args 0 a);rw[s2.nb];omega,λ b cs L=>?_,λ b b' _ _ he=>by rw[s2.b,s2.b]at he;exact he,s2.rows,s2.rinj,λ i H=>⟨?_,s2.b i⟩⟩
  .have:=GX (m:=m) 0 (pre:=[]) (post:=List.replicate (fn.ntmps-I d) .dead) s6 rfl t;simpa using this
  .let⟨ds,d1,d2⟩:=s8 b cs L;rw[cI]at d1;exact⟨ds,by rw[s2.b];exact d1,d2⟩
  .have H:i<c.np:=H;rw[s2.nb,s3,F,<-ab];exact H
 have c2:Go c.pc (λ e s=>(e=.ret\/e=.normal)/\∃m E τ,Rel c.n2 m E τ s.tm s.σ/\yh c g.args g.res (V fn.results) E τ=Z v) [.code cd] .normal ⟨d++List.replicate (fn.ntmps-I d) .dead,{σ with wr:=[],wrr:=[]}⟩:=
  Ly (Qr:=λ v e s=>(e=.ret\/e=.normal)/\∃m E τ,Rel c.n2 m E τ s.tm s.σ/\yh c g.args g.res (V fn.results) E τ=Z v) (λ E τ r m tm σ h Q e he=>⟨he,m,E,τ,Q,h⟩) N k _ _ _ _ _ _ _ bp bz
 let⟨n,e,s',g3,c4,l,E2,dk,z,B⟩:=c2;unfold jI;apply calls_of_wp hf X;have c1:Inv Γ (ql fn σ d).σ w:=H.wr rfl rfl
 have ht:cv Γ (ql fn σ d).tm {tmps:=G.toArray++Array.replicate (fn.ntmps-G.toArray.size) undef,defers:=[]}:=by
  show RepL Γ (d++List.replicate (fn.ntmps-I d) .dead) (V (G.toArray++Array.replicate (fn.ntmps-G.toArray.size) undef));rw[yv,yw];have:G.toArray.size=I d:=by simpa using Q.len
  rw[this];exact Q.append (yQ Γ _)
 apply wp_mono (L3 hC (n+12) cd _ e s' c5 (LA UK g3) Γ w _ c1 ht rfl);rintro e' a' w' ⟨rfl,hd,Γ',x1,x2,x3,x4⟩;unfold yh at B;split at B<;>try cases B
 rename_i o iB q a4;split at B<;>try cases B
 rename_i vv T bs q' cl;split at B<;>cases B;rename_i C;rw[aK,aK,aK,bJ]at C;let⟨aE,a9,ys,b9,c9⟩:=F9 z (rws:=iM g.args o) cl;let⟨vr,q1,q2⟩:=EO hC.ty x2 x3 (fn:=fn) (r:=cN ys) (by unfold od;rw[b9]);have S:∀i,i<nBx g.args->l.b (0+i)=0+i:=λ i H=>by rw[cI];exact(z.pin i (by rw[<-ab]at H;exact H)).2
 let⟨a0,da⟩:=xo z g.args a4 S;have cf:∀id∈iB++T,id<I l.rw:=λ id h=>(bc.1 h).elim (a0 id) (aE id)
 have c3:∃fs,(VB fs s'.σ g.args 0/\∀id∈iB,∀r,l.r id=Z r->r ∉ fs)/\(((∀y∈ys,∀r∈rsA y,r∈fs)/\(∀b∈bs,∀ds,s'.σ.bx[l.b b]?=Z ds->∀x∈ds,∀r∈rsC x,r∈fs)/\T=[])\/(q'=O/\∀id∈T,∀r,l.r id=Z r->r ∉ fs)):=by
  obtain X|X:=Bool.or_eq_true_iff.1 C.2.1
  .have X:iB++T=[]:=by simpa[wi]using X
   let⟨c7,c6⟩:=mH.1 X;exact⟨(s'.σ.bx.flatMap λ ds=>ds.flatMap rsC)++ys.flatMap rsA,⟨VB.all (λ ds a8 x hx r Q=>bc.2 (.inl (ir.2 ⟨ds,a8,ir.2 ⟨x,hx,Q⟩⟩))) _ _,by rw[c7];intro id H;cases H⟩,.inl ⟨λ y hy r Q=>bc.2 (.inr (ir.2 ⟨y,hy,Q⟩)),λ b _ ds a8 x hx r Q=>bc.2 (.inl (ir.2 ⟨ds,aP a8,ir.2 ⟨x,hx,Q⟩⟩)),c6⟩⟩
  .rw[aK,gR]at X;obtain hq|hq:=X.2
   .subst hq;exact⟨[],⟨VB.clean z g.args a4 S,λ _ _ _ _ h=>by cases h⟩,.inr ⟨X.1,λ _ _ _ _ h=>by cases h⟩⟩
   .unfold Zp at hq;split at hq<;>try cases hq
    rename_i vs ca;rw[bJ]at hq
    have az:∀id∈iB++T,∀r,l.r id=Z r->r ∉ vs.filterMap (λ i=>cond (Nat.blt i (I l.rw)) (l.r i) U):=λ id A r Q hm=>by
     let⟨a,ha,ax⟩:=nL.1 hm;have h1:=hq a ha;rw[bJ]at h1;have h2:=h1 id A;cases L:Nat.blt a (I l.rw) with
     |false=>rw[L]at ax;cases ax
     |true=>
       rw[L]at ax;have W:a<I l.rw:=by simpa[O7]using L
       have:=z.rinj a id r W (cf id A) ax Q;subst this;simp at h2
    have cb:∀id∈vs,id<I l.rw->∀r,l.r id=Z r->r∈vs.filterMap (λ i=>cond (Nat.blt i (I l.rw)) (l.r i) U):=λ id A W r Q=>by
     exact nL.2 ⟨id,A,by rw[show Nat.blt id (I l.rw)=O by simpa[O7]using W];exact Q⟩
    exact⟨_,⟨VB.vid z g.args ca S cb,λ id A=>az id (bc.2 (.inl A))⟩,.inr ⟨X.1,λ id A=>az id (bc.2 (.inr A))⟩⟩
 let⟨fs,f1,f2⟩:=c3;let⟨M,b1,b2,b3⟩:=da fs f1.1 f1.2;have a6:I M=nrB g.args:=by rw[<-pZ g.args o,<-b2,ce]
 let⟨D,v',nE,n1,n2,n3,n4⟩:=c9 fs M (nBx g.args) (nrB g.args) (qoI z a4 b3.2) (by rw[og];exact al _) f2;rw[n4]at hp;cases hp
 have ct:((M++nE).filterMap (·.1)).Nodup:=by
  rw[mM,b3.1,n3,<-mM];have A:∀id∈iB++T,id<I l.rw:=λ id h=>(bc.1 h).elim (a0 id) (aE id);exact Hh (vl C.1) λ x hx y hy q e1 e2=>z.rinj x y q (A x hx) (A y hy) e1 e2
 have b4:AG s'.σ fs (M++nE):=λ p hp=>(bc.1 hp).elim (b1.newOk p) (n1.newOk p);let⟨bn,bd⟩:=n1.kept;have cP:(bs.map l.b).Nodup:=GW (vl C.2.2.1) λ a ha b L he=>z.inj a b (a9 a ha) (a9 b L) he
 have c0:∀b∈bs.map l.b,I σ.bx<=b/\b<I s'.σ.bx:=λ b L=>by
  refine⟨?_,bn b L⟩;obtain⟨b0,h1,rfl⟩:=bu.1 L;have d0:=nT (C.2.2.2 b0 h1);rw[F];refine Nat.le_of_not_lt λ W=>?_;have e1:=S (l.b b0) W;rw[cI]at e1;have:=z.inj (l.b b0) b0 (z.pin _ (by show _<c.np;rw[ab];exact W)).1 (a9 b0 h1) e1;omega
 let⟨mm,z1,z2,z3,z4⟩:=Az (σ0:=σ) H x1 x2 x4.bl (eM g.args (I σ.rw) o++iF D (I σ.rw+nrB g.args) v') (bs.map l.b) (by rw[aU,oc,F,bd]) c0 cP fs (M++nE) (λ i cs u=>by
  by_cases an:i<I σ.bx
  .rw[dY (by rw[oc,<-F];exact an)]at u;have u:(eM g.args (I σ.rw+0) o)[i]?=Z cs:=u;have ar:i<I s'.σ.bx:=cU an x4.bl;have c8:oJ (I σ.bx) (bs.map l.b) i=i:=ag an;rw[c8];refine⟨s'.σ.bx[i],aV ar,λ hn=>?_,λ m fz K us hu=>?_⟩
   .let⟨m,fz,_,K⟩:=pU fs x2 s'.σ.wrr;let⟨ba,d1,d2,_⟩:=b1.rep x2 fz.le K (I σ.bx) (I σ.rw) (kb:=bs.map l.b) (M++nE) [] nE rfl i cs u;rw[cI,aV ar]at d1;cases d1;obtain⟨a,w,rfl,e2⟩:=d2 hn;exact M9 a hn e2 (x2.box i _ (aV ar))
   let⟨ba,d1,_,d2⟩:=b1.rep x2 fz.le K (I σ.bx) (I σ.rw) (kb:=bs.map l.b) (M++nE) [] nE rfl i cs u;rw[cI,aV ar]at d1;cases d1;exact d2 us hu
  .rw[dy (by rw[oc,<-F];omega),oc,<-F,<-a6]at u;have ad:=u;have b6:=getElem?_lt u;rw[bd]at b6;obtain⟨b,k1⟩:∃b,(bs.map l.b)[i-I σ.bx]?=Z b:=⟨_,aV b6⟩
   obtain⟨ds,k2⟩:∃ds,s'.σ.bx[b]?=Z ds:=⟨_,aV (bn _ (aP k1))⟩
   refine⟨ds,?_,λ hn=>?_,λ m fz K us hu=>?_⟩
   .unfold oJ;rw[af an,gE,k1];exact k2
   .let⟨m,fz,_,K⟩:=pU fs x2 s'.σ.wrr;let⟨b',ba,a3,a2,a1,_⟩:=n1.boxes x2 fz.le K (I σ.bx) (I σ.rw) (bs.map l.b) (M++nE) M rfl _ cs ad;cases k1.symm.trans a3;cases k2.symm.trans a2;obtain⟨a,w,rfl,e2⟩:=a1 hn;exact M9 a hn e2 (x2.box _ _ k2)
   .let⟨b',ba,a3,a2,_,a1⟩:=n1.boxes x2 fz.le K (I σ.bx) (I σ.rw) (bs.map l.b) (M++nE) M rfl _ cs ad;cases k1.symm.trans a3;cases k2.symm.trans a2;exact a1 us hu) (λ a so R h=>b4 (so,R) (aP h)) (λ a b j R R' h1 h2=>XM ct a b j _ _ h1 h2 rfl rfl) (List.range (I σ.bx)) (List.range (I σ.rw))
 have bv:Rep (eK Γ' mm (I σ.bx) (bs.map l.b) (I σ.rw) (M++nE)) (cN (fC D (I σ.rw+nrB g.args) v')) vr:=by
  refine qiV (n1.len _) (λ us hu=>?_) q2;rw[<-a6];exact n1.rep x2 z1.le z2 (I σ.bx) (I σ.rw) (bs.map l.b) (M++nE) b4 (λ p x hx=>by rw[dY (getElem?_lt hx)];exact hx) M rfl a6 (by rw[F];exact al _) (λ j b hj=>by rw[F,gF,cI];exact hj) us hu
 rw[ft,b2,n2]at z4
 have a7:bP {σ with wr:=[],wrr:=[]} ⟨eM g.args (I σ.rw) o++iF D (I σ.rw+nrB g.args) v',σ.rw.map fP++(fM g.args o++eN D v'),List.range (I σ.bx),List.range (I σ.rw)⟩:=by
  refine⟨by show I σ.bx<=I (eM g.args (I σ.rw) o++_);rw[aU,oc,F];exact kM _ _,by show I σ.rw<=I (σ.rw.map fP++_);rw[aU,ce];exact kM _ _,λ i H hn=>absurd (nM.2 H) hn,λ i H hn=>absurd (nM.2 H) hn,λ i h=>(by cases h),λ i h=>(by cases h)⟩
 have b7:a'.defers=[]/\∃v,(results fn a'.tmps).run P w'=.ok v w'/\∃bb Γ',Ending.returned v=.returned bb/\Ext Γ w Γ' w'/\Inv Γ' ⟨eM g.args (I σ.rw) o++iF D (I σ.rw+nrB g.args) v',σ.rw.map fP++(fM g.args o++eN D v'),List.range (I σ.bx),List.range (I σ.rw)⟩ w'/\Rep Γ' (cN (fC D (I σ.rw+nrB g.args) v')) bb/\bP {σ with wr:=[],wrr:=[]} ⟨eM g.args (I σ.rw) o++iF D (I σ.rw+nrB g.args) v',σ.rw.map fP++(fM g.args o++eN D v'),List.range (I σ.bx),List.range (I σ.rw)⟩:=
  ⟨hd,vr,q1,vr,_,rfl,z3,z4,bv,a7⟩
 obtain rfl|rfl:=c4
 .exact b7
 .exact b7
end
end
section
open RowKit
def Ob{α:Type}(z:α)(s:α->α):Nat->α:=λ k=>Nat.rec (motive:=λ _=>α) z (λ _ a=>s a) k
def Yf{α:Type}(z:α)(s:Nat->α->α):Nat->α:=λ k=>Nat.rec (motive:=λ _=>α) z (λ m a=>s m a) k
abbrev Y8:=aa aA
abbrev TL:=aa T
def GP:Nat:=4000
def vG(r:Nat):Code->aa It->ac (aa It)
 |.seq a b,k=>match vG r a (.code b::k)with
   |Z x=>Z x
   |U=>vG r b k
 |.cond _ a b,k=>match vG r a k with
   |Z x=>Z x
   |U=>vG r b k
 |.block id b,k=>vG r b (.blk id::k)
 |.loop b,k=>match Nat.beq (rJ b) r with
   |O=>Z (.code (.loop b)::k)
   |Y=>vG r b (.code (.loop b)::k)
 |_,_=>U
def yd(f:Func):Code:=match f.body with
 |Z c=>c
 |U=>.skip
def stL(f:Func)(r:Nat):aa It:=match vG r (yd f) []with
 |Z x=>x
 |U=>[]
def AC:aa Nat->aa Nat->Bool
 |[],[]=>O
 |a::l,b::m=>Nat.beq a b&&AC l m
 |_,_=>Y
def vQ(a b:aa Nat)(x y:ac Sig):ac Sig:=cond (AC a b) x y
def Yh(f:Nat):aa Nat->Bool
 |[]=>Y
 |a::l=>cond (Nat.beq a f) O (Yh f l)
theorem Kx:∀{a b},AC a b=O->a=b
 |[],[],_=>rfl
 |a::l,b::m,h=>by
   simp only[AC,aK]at h;rw[cg h.1,Kx h.2]
 |[],_::_,h|_::_,[],h=>by cases h
def Kc{a b x y g}(h:vQ a b x y=Z g):(a=b/\x=Z g)\/y=Z g:=by
 grind [vQ,Kx]
def yp:(ts:aa ATy)->lu ts->aa Nat->aa TV
 |[],_,_=>[]
 |.val τ::r,a,b=>oL τ a.1::yp r a.2 b
 |.fn::r,a,g::b=>.fn g []::yp r a b
 |.fn::r,a,[]=>.dead::yp r a []
def fc:(ts:aa ATy)->lu ts->aa Nat->aa AV
 |[],_,_=>[]
 |.val τ::r,a,b=>cG τ a.1::fc r a.2 b
 |.fn::r,a,g::b=>.fn g []::fc r a b
 |.fn::r,a,[]=>.dead::fc r a []
def Fi:∀ts a b,I (fc ts a b)=I ts
 |[],_,_=>rfl
 |.val τ::r,a,b|.fn::r,a,g::b|.fn::r,a,[]=>by simp[fc,Fi r]
def FW{m}:∀ts a b,OKL m (yp ts a b) (fc ts a b)
 |[],_,_=>rfl
 |.val τ::r,a,b=>⟨_,_,rfl,Gs τ a.1,FW r a.2 b⟩
 |.fn::r,a,g::b=>⟨_,_,rfl,⟨[],rfl,rfl⟩,FW r a b⟩
 |.fn::r,a,[]=>⟨_,_,rfl,trivial,FW r a []⟩
def Fy:∀ ts {ys a},pb ts ys=Z a->dR ys (fc ts a (jM ys))
 | [],ys,a,h=>by
   cases ys with
   | nil=>exact .nil
   | cons y ys=>cases h
 | .val τ :: r,ys,a,h=>by
   obtain⟨y,ys,rfl,h1,h2⟩:=TW h
   have hf:jM (y::ys)=jM ys:=by
    have:=(yV h1).2;cases y<;>first | rfl | exact absurd rfl (this _ _)
   rw[hf];exact .cons (Gv h1) (Fy r h2)
 | .fn::r,ys,a,h=>by
   change dFn _ ys=_ at h;unfold dFn at h;split at h
   case h_2=>cases h
   exact .cons (.refl _) (Fy r h)
def iT{P f fn}(c:P.funcs[f]?=Z fn)(a:jr fn=O):kI P f:=by
 unfold jr at a;cases b:fn.body with
 |none=>rw[b]at a;cases a
 |some d=>
   rw[b]at a;simp only[aK,fF]at a;exact⟨fn,c,by rw[b];rfl,a.2⟩
def qji{P c f}(e:kI P f)(h:∀i g a,c.pf f i=Z g->g.fn a=U):cp P f (fX (cT c f)):=by
 refine⟨e,λ Γ σ w d b r l j k=>?_⟩;grind [cT,fX]
def JX{P f g}(d:kI P f)(h:∀a,g.fn a=U):cp P f (sgP g):=by
 refine⟨d,λ Γ σ w c b r j e i=>?_⟩;grind [sgP]
def ql8{P c}(m:dd P c.pc.cfg){f fn cd}(i:P.funcs[f]?=Z fn)(l:jr fn=O)(j:fn.body=Z cd)(d:c.nt=fn.ntmps)(g)(e:c.np=A6 g.args)(b:I g.args<=fn.ntmps)
  (h:∃N k,∀a,g.fn a=qJ c (yh c g.args g.res (V fn.results)) N k [.code cd] (mn 0 (oD g.args 0 0 a)) ⟨sBx g.args 0 a,sRw g.args a⟩):cp P f (sgP g):=by
 grind [qih]
def XI{P c}(e:P.follows .mixedOrders=O)(b:∀t d,c.ty t=Z d->cH P t=Z d)(h:∀f,c.has f=O->cp P f (fX (cT c f)))(m:∀f g,c.sf f=Z g->cp P f (sgP g))(l:∀f g,c.mf f=Z g->cp P f (mgP g))(k:∀f g,c.xf f=Z g->cp P f (xgP g))(i:∀f fn,c.inl f=Z fn->P.funcs[f]?=Z fn/\jr fn=O):dd P c.pc.cfg:=by
 refine⟨e,b,(λ f fn h=>by cases h),λ f p a=>?_,λ f fn h=>?_⟩
 rotate_left
 .let⟨e1,j⟩:=i f fn h;grind [jr]
 have a:c.pc.prim f=Z p:=a;unfold PC.prim at a;have e1:c.pc.pf f=match c.has f with|true=>Z (cT c f)|false=>U:=rfl
 have j:c.pc.sp f=c.spf f:=rfl;grind [TC.spf]
end
inductive nG where
 |leaf
 |node (k:Nat) (d:TD) (l r:nG)
def nG.get:nG->Nat->ac TD
 |.leaf,_=>U
 |.node k d l r,t=>match Nat.beq t k with
   |O=>Z d
   |Y=>match Nat.blt t k with
     |O=>l.get t
     |Y=>r.get t
def nG.ok(P:aX):nG->Prop
 |.leaf=>True
 |.node k d l r=>cH P k=Z d/\l.ok P/\r.ok P
def nG.get_ok{P:aX}:∀{x:nG}{t:Nat}{d:TD},x.ok P->x.get t=Z d->cH P t=Z d
 |.leaf,t,d,_,h=>by cases h
 |.node k f l r,t,d,⟨e,c,b⟩,h=>by
   simp only[nG.get]at h;split at h
   .next a=>cases h;rw[cg a];exact e
   .split at h
    .exact get_ok c h
    .exact get_ok b h
abbrev zS:ah:=.string ⟨#[]⟩
abbrev zI:ah:=.int .i64 0
abbrev zL:ah:=.slice U 0 0
abbrev zB:ah:=.bool Y
abbrev ff:=Y
abbrev tt:=O
abbrev nDn(k:Nat)(d:TD):nG:=.node k d .leaf .leaf
def nk{P:aX}{k:Nat}{d:TD}(h:cH P k=Z d):(nDn k d).ok P:=⟨h,trivial,trivial⟩
def XO:nG:=(.node 105 ⟨8,112,tt,[zI,zS,zI,zL,zI,zS,zI,zL],.struct [(0,4,tt),(4,4,tt)]⟩
 (.node 24 ⟨4,56,tt,[zI,zS,zI,zL],.struct [(0,1,ff),(1,1,ff),(2,1,ff),(3,1,ff)]⟩
 (.node 12 ⟨1,8,ff,[.int .u64 (0)],.int .u64⟩
 (.node 7 ⟨4,24,tt,[zI,zI,zB,.int .u8 (0)],.struct [(0,1,ff),(1,1,ff),(2,1,ff),(3,1,ff)]⟩
 (.node 4 ⟨1,1,ff,[zB],.bool⟩
 (.node 3 ⟨1,8,ff,[zI],.int .i64⟩
 (nDn 2 ⟨1,8,ff,[zI],.int .i64⟩)
 .leaf)
 (.node 6 ⟨1,1,ff,[.int .u8 (0)],.int .u8⟩
 (nDn 5 ⟨1,1,ff,[.int .u8 (0)],.int .u8⟩)
 .leaf))
 (.node 10 ⟨1,16,ff,[zS],.string⟩
 (.node 9 ⟨1,16,ff,[zS],.string⟩
 (nDn 8 ⟨4,24,tt,[zI,zI,zB,.int .u8 (0)],.struct [(0,1,ff),(1,1,ff),(2,1,ff),(3,1,ff)]⟩)
 .leaf)
 (nDn 11 ⟨1,16,ff,[zS],.string⟩)))
 (.node 18 ⟨1,8,tt,[.pointer U],.struct [(0,1,ff)]⟩
 (.node 15 ⟨1,8,ff,[.pointer U],.ptr⟩
 (.node 14 ⟨2,24,tt,[zS,.int .u64 (0)],.struct [(0,1,ff),(1,1,ff)]⟩
 (nDn 13 ⟨2,24,tt,[zS,.int .u64 (0)],.struct [(0,1,ff),(1,1,ff)]⟩)
 .leaf)
 (.node 17 ⟨1,8,ff,[.pointer U],.ptr⟩
 (nDn 16 ⟨1,8,ff,[.pointer U],.ptr⟩)
 .leaf))
 (.node 21 ⟨1,4,ff,[.int .i32 (0)],.int .i32⟩
 (.node 20 ⟨1,16,ff,[.nilIface],.other⟩
 (nDn 19 ⟨1,8,tt,[.pointer U],.struct [(0,1,ff)]⟩)
 .leaf)
 (nDn 23 ⟨1,24,ff,[zL],.slice 25 4 56 [zI,zS,zI,zL]⟩))))
 (.node 78 ⟨5,64,tt,[zI,zS,zI,zL,zI],.struct [(0,4,tt),(4,1,ff)]⟩
 (.node 59 ⟨3,32,tt,[zS,zI,zB],.struct [(0,1,ff),(1,1,ff),(2,1,ff)]⟩
 (.node 48 ⟨1,24,ff,[zL],.slice 76 8 112 [zI,zS,zI,zL,zI,zS,zI,zL]⟩
 (.node 26 ⟨1,8,ff,[zI],.int .i64⟩
 (nDn 25 ⟨4,56,tt,[zI,zS,zI,zL],.struct [(0,1,ff),(1,1,ff),(2,1,ff),(3,1,ff)]⟩)
 .leaf)
 (.node 58 ⟨3,32,tt,[zS,zI,zB],.struct [(0,1,ff),(1,1,ff),(2,1,ff)]⟩
 (nDn 57 ⟨1,8,ff,[.pointer U],.ptr⟩)
 .leaf))
 (.node 75 ⟨8,112,tt,[zI,zS,zI,zL,zI,zS,zI,zL],.struct [(0,4,tt),(4,4,tt)]⟩
 (.node 73 ⟨1,8,ff,[.map U],.map [KC.str] ff ff 1 [zS]⟩
 (nDn 66 ⟨1,24,ff,[zL],.slice 5 1 1 [.int .u8 (0)]⟩)
 .leaf)
 (nDn 76 ⟨8,112,tt,[zI,zS,zI,zL,zI,zS,zI,zL],.struct [(0,4,tt),(4,4,tt)]⟩)))
 (.node 88 ⟨4,40,tt,[zS,zI,zI,zI],.struct [(0,1,ff),(1,1,ff),(2,1,ff),(3,1,ff)]⟩
 (.node 83 ⟨1,8,ff,[.pointer U],.ptr⟩
 (.node 81 ⟨1,24,ff,[zL],.slice 79 5 64 [zI,zS,zI,zL,zI]⟩
 (nDn 79 ⟨5,64,tt,[zI,zS,zI,zL,zI],.struct [(0,4,tt),(4,1,ff)]⟩)
 .leaf)
 (nDn 87 ⟨4,40,tt,[zS,zI,zI,zI],.struct [(0,1,ff),(1,1,ff),(2,1,ff),(3,1,ff)]⟩))
 (.node 98 ⟨3,32,tt,[zS,zI,zI],.struct [(0,1,ff),(1,1,ff),(2,1,ff)]⟩
 (.node 97 ⟨1,24,ff,[zL],.slice 99 3 32 [zS,zI,zI]⟩
 (nDn 90 ⟨1,24,ff,[zL],.slice 9 1 16 [zS]⟩)
 .leaf)
 (nDn 99 ⟨3,32,tt,[zS,zI,zI],.struct [(0,1,ff),(1,1,ff),(2,1,ff)]⟩)))))
 (.node 173 ⟨1,8,ff,[.pointer U],.ptr⟩
 (.node 126 ⟨2,48,tt,[zL,zL],.struct [(0,1,ff),(1,1,ff)]⟩
 (.node 113 ⟨1,24,ff,[zL],.slice 117 8 112 [zI,zS,zI,zL,zI,zS,zI,zL]⟩
 (.node 108 ⟨1,8,ff,[.map U],.map [KC.str,KC.int .i64] tt tt 4 [zI,zS,zI,zL]⟩
 (.node 107 ⟨1,24,ff,[zL],.slice 106 8 112 [zI,zS,zI,zL,zI,zS,zI,zL]⟩
 (nDn 106 ⟨8,112,tt,[zI,zS,zI,zL,zI,zS,zI,zL],.struct [(0,4,tt),(4,4,tt)]⟩)
 .leaf)
 (.node 111 ⟨2,24,tt,[zS,zI],.struct [(0,1,ff),(1,1,ff)]⟩
 (nDn 110 ⟨2,24,tt,[zS,zI],.struct [(0,1,ff),(1,1,ff)]⟩)
 .leaf))
 (.node 118 ⟨1,24,ff,[zL],.slice 88 4 40 [zS,zI,zI,zI]⟩
 (.node 117 ⟨8,112,tt,[zI,zS,zI,zL,zI,zS,zI,zL],.struct [(0,4,tt),(4,4,tt)]⟩
 (nDn 116 ⟨8,112,tt,[zI,zS,zI,zL,zI,zS,zI,zL],.struct [(0,4,tt),(4,4,tt)]⟩)
 .leaf)
 (nDn 125 ⟨1,8,ff,[.pointer U],.ptr⟩)))
 (.node 157 ⟨5,64,tt,[zI,zS,zI,zL,zI],.struct [(0,4,tt),(4,1,ff)]⟩
 (.node 143 ⟨24,24,tt,[.int .u8 (0),.int .u8 (0),.int .u8 (0),.int .u8 (0),.int .u8 (0),.int .u8 (0),.int .u8 (0),.int .u8 (0),.int .u8 (0),.int .u8 (0),.int .u8 (0),.int .u8 (0),.int .u8 (0),.int .u8 (0),.int .u8 (0),.int .u8 (0),.int .u8 (0),.int .u8 (0),.int .u8 (0),.int .u8 (0),.int .u8 (0),.int .u8 (0),.int .u8 (0),.int .u8 (0)],.array 24 5 1⟩
 (.node 134 ⟨1,24,ff,[zL],.slice 157 5 64 [zI,zS,zI,zL,zI]⟩
 (nDn 127 ⟨2,48,tt,[zL,zL],.struct [(0,1,ff),(1,1,ff)]⟩)
 .leaf)
 (.node 156 ⟨5,64,tt,[zI,zS,zI,zL,zI],.struct [(0,4,tt),(4,1,ff)]⟩
 (nDn 144 ⟨1,8,ff,[.int .u64 (0)],.int .u64⟩)
 .leaf))
 (.node 169 ⟨1,4,ff,[.int .u32 (0)],.int .u32⟩
 (.node 168 ⟨20,160,tt,[.int .u64 (0),.int .u64 (0),.int .u64 (0),.int .u64 (0),.int .u64 (0),.int .u64 (0),.int .u64 (0),.int .u64 (0),.int .u64 (0),.int .u64 (0),.int .u64 (0),.int .u64 (0),.int .u64 (0),.int .u64 (0),.int .u64 (0),.int .u64 (0),.int .u64 (0),.int .u64 (0),.int .u64 (0),.int .u64 (0)],.array 20 144 1⟩
 (nDn 164 ⟨1,8,ff,[.int .u64 (0)],.int .u64⟩)
 .leaf)
 (nDn 170 ⟨65,65,tt,[.int .u8 (0),.int .u8 (0),.int .u8 (0),.int .u8 (0),.int .u8 (0),.int .u8 (0),.int .u8 (0),.int .u8 (0),.int .u8 (0),.int .u8 (0),.int .u8 (0),.int .u8 (0),.int .u8 (0),.int .u8 (0),.int .u8 (0),.int .u8 (0),.int .u8 (0),.int .u8 (0),.int .u8 (0),.int .u8 (0),.int .u8 (0),.int .u8 (0),.int .u8 (0),.int .u8 (0),.int .u8 (0),.int .u8 (0),.int .u8 (0),.int .u8 (0),.int .u8 (0),.int .u8 (0),.int .u8 (0),.int .u8 (0),.int .u8 (0),.int .u8 (0),.int .u8 (0),.int .u8 (0),.int .u8 (0),.int .u8 (0),.int .u8 (0),.int .u8 (0),.int .u8 (0),.int .u8 (0),.int .u8 (0),.int .u8 (0),.int .u8 (0),.int .u8 (0),.int .u8 (0),.int .u8 (0),.int .u8 (0),.int .u8 (0),.int .u8 (0),.int .u8 (0),.int .u8 (0),.int .u8 (0),.int .u8 (0),.int .u8 (0),.int .u8 (0),.int .u8 (0),.int .u8 (0),.int .u8 (0),.int .u8 (0),.int .u8 (0),.int .u8 (0),.int .u8 (0),.int .u8 (0)],.array 65 5 1⟩))))
 (.node 229 ⟨0,0,tt,[],.struct [(0,0,tt)]⟩
 (.node 215 ⟨64,64,tt,[.int .u8 (0),.int .u8 (0),.int .u8 (0),.int .u8 (0),.int .u8 (0),.int .u8 (0),.int .u8 (0),.int .u8 (0),.int .u8 (0),.int .u8 (0),.int .u8 (0),.int .u8 (0),.int .u8 (0),.int .u8 (0),.int .u8 (0),.int .u8 (0),.int .u8 (0),.int .u8 (0),.int .u8 (0),.int .u8 (0),.int .u8 (0),.int .u8 (0),.int .u8 (0),.int .u8 (0),.int .u8 (0),.int .u8 (0),.int .u8 (0),.int .u8 (0),.int .u8 (0),.int .u8 (0),.int .u8 (0),.int .u8 (0),.int .u8 (0),.int .u8 (0),.int .u8 (0),.int .u8 (0),.int .u8 (0),.int .u8 (0),.int .u8 (0),.int .u8 (0),.int .u8 (0),.int .u8 (0),.int .u8 (0),.int .u8 (0),.int .u8 (0),.int .u8 (0),.int .u8 (0),.int .u8 (0),.int .u8 (0),.int .u8 (0),.int .u8 (0),.int .u8 (0),.int .u8 (0),.int .u8 (0),.int .u8 (0),.int .u8 (0),.int .u8 (0),.int .u8 (0),.int .u8 (0),.int .u8 (0),.int .u8 (0),.int .u8 (0),.int .u8 (0),.int .u8 (0)],.array 64 5 1⟩
 (.node 201 ⟨1,24,ff,[zL],.slice 3 1 8 [zI]⟩
 (.node 187 ⟨1,8,ff,[zI],.int .i64⟩
 (nDn 180 ⟨1,24,ff,[zL],.slice 23 1 24 [zL]⟩)
 .leaf)
 (.node 214 ⟨32,32,tt,[.int .u8 (0),.int .u8 (0),.int .u8 (0),.int .u8 (0),.int .u8 (0),.int .u8 (0),.int .u8 (0),.int .u8 (0),.int .u8 (0),.int .u8 (0),.int .u8 (0),.int .u8 (0),.int .u8 (0),.int .u8 (0),.int .u8 (0),.int .u8 (0),.int .u8 (0),.int .u8 (0),.int .u8 (0),.int .u8 (0),.int .u8 (0),.int .u8 (0),.int .u8 (0),.int .u8 (0),.int .u8 (0),.int .u8 (0),.int .u8 (0),.int .u8 (0),.int .u8 (0),.int .u8 (0),.int .u8 (0),.int .u8 (0)],.array 32 5 1⟩
 (nDn 209 ⟨1,8,ff,[.int .u64 (0)],.int .u64⟩)
 .leaf))
 (.node 227 ⟨4,40,tt,[.pointer U,.pointer U,.pointer U,zS],.struct [(0,1,ff),(1,1,ff),(2,1,ff),(3,1,ff)]⟩
 (.node 226 ⟨4,40,tt,[.pointer U,.pointer U,.pointer U,zS],.struct [(0,1,ff),(1,1,ff),(2,1,ff),(3,1,ff)]⟩
 (nDn 221 ⟨1,8,ff,[.pointer U],.ptr⟩)
 .leaf)
 (nDn 228 ⟨0,0,tt,[],.array 0 16 1⟩)))
 (.node 236 ⟨1,4,ff,[.int .i32 (0)],.int .i32⟩
 (.node 233 ⟨1,1,ff,[.int .u8 (0)],.int .u8⟩
 (.node 232 ⟨1,1,ff,[.int .u8 (0)],.int .u8⟩
 (nDn 230 ⟨0,0,tt,[],.struct [(0,0,tt)]⟩)
 .leaf)
 (nDn 235 ⟨1,8,ff,[.pointer U],.ptr⟩))
 (.node 239 ⟨11,48,tt,[.int .u64 (0),.int .u64 (0),.int .u32 (0),.int .u8 (0),.int .u8 (0),.int .u8 (0),.int .u8 (0),.nilFunc,.pointer U,.int .i32 (0),.int .i32 (0)],.struct [(0,1,ff),(1,1,ff),(2,1,ff),(3,1,ff),(4,1,ff),(5,1,ff),(6,1,ff),(7,1,ff),(8,1,ff),(9,1,ff),(10,1,ff)]⟩
 (.node 238 ⟨11,48,tt,[.int .u64 (0),.int .u64 (0),.int .u32 (0),.int .u8 (0),.int .u8 (0),.int .u8 (0),.int .u8 (0),.nilFunc,.pointer U,.int .i32 (0),.int .i32 (0)],.struct [(0,1,ff),(1,1,ff),(2,1,ff),(3,1,ff),(4,1,ff),(5,1,ff),(6,1,ff),(7,1,ff),(8,1,ff),(9,1,ff),(10,1,ff)]⟩
 (nDn 237 ⟨1,4,ff,[.int .i32 (0)],.int .i32⟩)
 .leaf)
 (nDn 240 ⟨1,8,ff,[.pointer U],.other⟩))))))
def tyT(t:Nat):ac TD:=XO.get t
def X5(t:Nat)(d:TD)(h:tyT t=Z d):cH Go.Proofs.Tryz.prog t=Z d:=
 nG.get_ok (show nG.ok Go.Proofs.Tryz.prog XO from⟨by kernel_rfl,⟨by kernel_rfl,⟨by kernel_rfl,⟨by kernel_rfl,⟨by kernel_rfl,⟨by kernel_rfl,(nk (by kernel_rfl)),trivial⟩,⟨by kernel_rfl,(nk (by kernel_rfl)),trivial⟩⟩,⟨by kernel_rfl,⟨by kernel_rfl,(nk (by kernel_rfl)),trivial⟩,(nk (by kernel_rfl))⟩⟩,⟨by kernel_rfl,⟨by kernel_rfl,⟨by kernel_rfl,(nk (by kernel_rfl)),trivial⟩,⟨by kernel_rfl,(nk (by kernel_rfl)),trivial⟩⟩,⟨by kernel_rfl,⟨by kernel_rfl,(nk (by kernel_rfl)),trivial⟩,(nk (by kernel_rfl))⟩⟩⟩,⟨by kernel_rfl,⟨by kernel_rfl,⟨by kernel_rfl,⟨by kernel_rfl,(nk (by kernel_rfl)),trivial⟩,⟨by kernel_rfl,(nk (by kernel_rfl)),trivial⟩⟩,⟨by kernel_rfl,⟨by kernel_rfl,(nk (by kernel_rfl)),trivial⟩,(nk (by kernel_rfl))⟩⟩,⟨by kernel_rfl,⟨by kernel_rfl,⟨by kernel_rfl,(nk (by kernel_rfl)),trivial⟩,(nk (by kernel_rfl))⟩,⟨by kernel_rfl,⟨by kernel_rfl,(nk (by kernel_rfl)),trivial⟩,(nk (by kernel_rfl))⟩⟩⟩⟩,⟨by kernel_rfl,⟨by kernel_rfl,⟨by kernel_rfl,⟨by kernel_rfl,⟨by kernel_rfl,(nk (by kernel_rfl)),trivial⟩,⟨by kernel_rfl,(nk (by kernel_rfl)),trivial⟩⟩,⟨by kernel_rfl,⟨by kernel_rfl,(nk (by kernel_rfl)),trivial⟩,(nk (by kernel_rfl))⟩⟩,⟨by kernel_rfl,⟨by kernel_rfl,⟨by kernel_rfl,(nk (by kernel_rfl)),trivial⟩,⟨by kernel_rfl,(nk (by kernel_rfl)),trivial⟩⟩,⟨by kernel_rfl,⟨by kernel_rfl,(nk (by kernel_rfl)),trivial⟩,(nk (by kernel_rfl))⟩⟩⟩,⟨by kernel_rfl,⟨by kernel_rfl,⟨by kernel_rfl,⟨by kernel_rfl,(nk (by kernel_rfl)),trivial⟩,⟨by kernel_rfl,(nk (by kernel_rfl)),trivial⟩⟩,⟨by kernel_rfl,⟨by kernel_rfl,(nk (by kernel_rfl)),trivial⟩,(nk (by kernel_rfl))⟩⟩,⟨by kernel_rfl,⟨by kernel_rfl,⟨by kernel_rfl,(nk (by kernel_rfl)),trivial⟩,(nk (by kernel_rfl))⟩,⟨by kernel_rfl,⟨by kernel_rfl,(nk (by kernel_rfl)),trivial⟩,(nk (by kernel_rfl))⟩⟩⟩⟩⟩) h
end Go.AmZ
namespace Go.Proofs
open Go.Shelf
def Tryz.lays106_ren:Go.Shelf.Ren:=⟨λ|106=>116|213=>148|265=>183|n=>n,λ|9=>9|3=>3|n=>n,λ|n=>n⟩
theorem Tryz.lays106:Go.Proofs.Lays.n106 Tryz.prog Tryz.lays106_ren:={
 mixed:=by kernel_rfl
 f106:=Tryz.func116.trans (congrArg some (by kernel_rfl))
 f213:=Tryz.func148.trans (congrArg some (by kernel_rfl))
 f265:=Tryz.func183.trans (congrArg some (by kernel_rfl))
 t3:=Tryz.underlying3
 a3:=Tryz.isAgg3
 z3:=Tryz.sizeOf3
 v3:=Tryz.zeroValue3
 t9:=Tryz.underlying9
 a9:=Tryz.isAgg9
 z9:=Tryz.sizeOf9
 v9:=Tryz.zeroValue9 }
open Go.RowKit in
theorem Tryz.strings_Compare(a b:ByteArray)(w:ao):
 Calls Tryz.prog 116 #[.string a,.string b] w λ e w'=>e=.returned (.int .i64 (Lib.compareBytes a.data.toList b.data.toList))/\w'=w:=Any.strings_Compare Tryz.lays106 a b w
end Go.Proofs
namespace Go.AmZ
open GxZ
section
open RowKit
structure qlh (Γ:Gh) (w:ao) (a:Option Addr) (n k:Nat) (cs:List (List AV)):Prop where
 len:cs.length=n
 size:∀e∈cs,e.length=k
 plain:∀e∈cs,∀x∈e,br x=O
 at_:cs=[]\/∃b o,a=Z ⟨b,o,U⟩/\∀(i:Nat) (e:List AV) (j:Nat) (x:AV),cs[i]?=Z e->e[j]?=Z x->∃u,w.cell? ⟨b,o+(i*k+j),U⟩=Z u/\Rep Γ x u/\u.oneCell'=O
def VF{Γ:Gh}{σ:St}{w:ao}(H:Inv Γ σ w){a:Ty}{y:AV}{l:aa (Val a)}{u:ah}(K:dlist a y=Z l)(q:Rep Γ y u):∃p n c,u=.slice p n c/\n<=c/\qlh Γ w p n a.size (l.map (aq a)):=by
 obtain⟨rfl,rfl⟩|⟨Q,n,rfl,h⟩:=fL K
 .have:=ch q;subst this;exact⟨U,0,0,rfl,al _,rfl,(by intro e d;cases d),(by intro e d;cases d),.inl rfl⟩
 .cases q with
  |sl k Q f p E c b o us F L T S R W r G q=>
    have g:=en h;refine⟨p,E,c,rfl,L (pI _),by rw[ce,F,g],?_,?_,?_⟩
    .intro e d;obtain⟨v,_,rfl⟩:=bu.1 d;exact fK a v
    .intro e d;obtain⟨v,_,rfl⟩:=bu.1 d;exact fI a v
    .obtain r|r:=r
     .grind
     .right;refine⟨b,o,r,λ i e j x m M=>?_⟩;rw[dC]at m;cases t:l[i]? with
      |none=>rw[t]at m;cases m
      |some v=>
        rw[t]at m;cases m;let⟨B,A,P⟩:=xd h t;let⟨z,g3,N⟩:=(xr P).get j x M;have s:=G i B j z A g3;let⟨D,C⟩:=H.mem _ _ _ s;exact⟨us i j,by rw[<-eY];exact D,N _ _ (q i B j z A g3),C⟩
def Fresh(w:ao)(k n:Nat)(xs:aa ah)(v:ah)(w':ao):Prop:=
 Below w.heap.size w w'/\w.drawn<=w'.drawn/\((n=0/\∃a,v=.slice a 0 0)\/∃(g cap:Nat) (b:aM ah) (e:aO),v=.slice (Z ⟨g,0,U⟩) n cap/\w.heap.size<=g/\w'.heap[g]?=Z (.cells b e (0,0))/\n<=cap/\cap*k<=b.size/\∀(j:Nat) (u:ah),xs[j]?=Z u->b[j]?=Z u)
def JL{P:aX}{f:dm}{Γ:Gh}{σ:St}{w:ao}{m:aa ah}{a:Ty}{l:aa (Val a)}{xs:aa ah}(b:Inv Γ σ w)(k:σ.bx=[])(n:σ.rw=[])
  (F:∀(i:Nat) (e:aa AV) (j:Nat) (x:AV),(l.map (aq a))[i]?=Z e->e[j]?=Z x->∃u,xs[i*a.size+j]?=Z u/\Rep Γ x u/\u.oneCell'=O)
  (h:Calls P f m.toArray w λ e w'=>∃v,e=.returned v/\Fresh w a.size (I l) xs v w'):
  jI P Γ σ w f m (cN (fC [.one (.row a)] (I σ.rw) (l,())),Z ⟨[],σ.rw.map fP++eN [.one (.row a)] (l,()),List.range (I σ.bx),List.range (I σ.rw)⟩):=by
 apply Calls.mono h;rintro e w' ⟨v,rfl,r,s,G⟩;have t:=b.later r
 have d:bP {σ with wr:=[],wrr:=[]} ⟨[],σ.rw.map fP++eN [.one (.row a)] (l,()),List.range (I σ.bx),List.range (I σ.rw)⟩:=
  ⟨by rw[k];exact al _,by show I σ.rw<=_;rw[n];exact aL _,λ i b _=>(by have b:i<I σ.bx:=b;rw[k]at b;exact absurd b (eh _)),λ i b _=>(by have b:i<I σ.rw:=b;rw[n]at b;exact absurd b (eh _)),λ i h=>(by cases h),λ i h=>(by cases h)⟩
 obtain⟨H,p,rfl⟩|⟨g,cap,z,et,rfl,N,M,g3,B,L⟩:=G
 .have K:l=[]:=cJ H;subst K
  let⟨mm,W,T,E,D⟩:=Az (σ0:=σ) (σ1:=σ) b (wY r s) t (al _) [] [] (by rw[k];rfl) (by simp) nK [] [(U,⟨a.size,[],0,0,Y⟩)] (λ i cs h=>by cases h)
   (λ i so R h=>by
    cases i with
    |zero=>cases h;exact⟨rfl,rfl,jk a,(by intro e o;cases o),(by intro e o;cases o),rfl⟩
    |succ i=>cases h)
   (λ i j q R R' y A=>by cases i<;>cases y) (List.range (I σ.bx)) (List.range (I σ.rw))
  refine⟨_,_,rfl,E,D,?_,d⟩;show Rep _ (.rs (I σ.rw) 0 0 0 Y) _;exact .rs _ _ _ _ _ p 0 (by show I σ.rw<I σ.rw+1;omega) (aL _) (al _) (λ h=>by cases h) λ _=>⟨.inl rfl,by rw[dE,kK];exact aL _⟩
 .let⟨Γ',S,Q,C⟩:=LV b (jk a) (c:=l.map (aq a)) (λ e o=>by obtain⟨v,_,rfl⟩:=bu.1 o;exact fK a v) (λ e o=>by obtain⟨v,_,rfl⟩:=bu.1 o;exact fI a v) (vs:=z) (by rw[ce];exact bR (cj _ g3) B)
    (λ i e j x y A=>by
     let⟨u,u1,u2⟩:=F i e j x y A;exact⟨u,L _ _ u1,u2⟩) (cap:=cap) (by rw[ce];exact g3) B r s N M
  rw[ce]at C;refine⟨_,Γ',rfl,S,?_,C,d⟩;have:({σ with rw:=σ.rw++[⟨a.size,l.map (aq a),0,0,Y⟩]}:St).bx=[]:=k;exact Q.wr this.symm (by show σ.rw.map fP++_=σ.rw++_;rw[n];rfl)
end
end Go.AmZ
namespace Go.GxZ
open Go.RowKit
def Blk(w:ao)(g:Nat)(e:aO)(a:aM ah):Prop:=w.heap[g]?=Z (.cells a e (0,0))
def Blk.cell{w:ao}{g:Nat}{e:aO}{a:aM ah}(h:Blk w g e a)(i:Nat):w.cell? ⟨g,i,U⟩=a[i]?:=by
 unfold Blk at h;simp[World.cell?,h]
def Blk.free{w:ao}{g:Nat}{e:aO}{a:aM ah}(h:Blk w g e a)(i:Nat):w.frozen? ⟨g,i,U⟩=Y:=by
 unfold Blk at h;simp[World.frozen?,h]
def Blk.later{w w':ao}{g:Nat}{e:aO}{a:aM ah}(h:Blk w g e a)(b:Below w.heap.size w w'):Blk w' g e a:=by
 unfold Blk at h |-
 rw[b.block g (lt_of_block h)];exact h
def Blk.same{w w':ao}{g:Nat}{e:aO}{a:aM ah}(h:Blk w g e a)(b:w'.heap[g]?=w.heap[g]?):Blk w' g e a:=by
 unfold Blk at h |-
 rw[b];exact h
def Blk.set{w:ao}{g:Nat}{e:aO}{a:aM ah}(h:Blk w g e a)(i:Nat)(v:ah):Blk (w.setCell ⟨g,i,U⟩ v) g e (a.setIfInBounds i v):=by
 unfold Blk at h |-
 have b:=lt_of_block h;have c:w.heap[g]=.cells a e (0,0):=by simpa[gi b]using h
 show(w.heap.modify g _)[g]?=_;rw[gi (by simpa using b),Array.getElem_modify_self,c];rfl
def Kk{w:ao}{g:Nat}{e:aO}{c:aM ah}(h:Blk w g e c)(o:Nat)(n m l j:ah)(p:o+4<=c.size):
  ∃w' b,(((w.setCell ⟨g,o,U⟩ n).setCell ⟨g,o+1,U⟩ m).setCell ⟨g,o+2,U⟩ l).setCell ⟨g,o+3,U⟩ j=w'/\Blk w' g e b/\b.size=c.size/\
   b[o]?=Z n/\b[o+1]?=Z m/\b[o+2]?=Z l/\b[o+3]?=Z j/\(∀i,i<o->b[i]?=c[i]?)/\
   (∀B,B<=g->∀w0,Below B w0 w->Below B w0 w')/\w'.heap.size=w.heap.size/\(∀k,k≠g->w'.heap[k]?=w.heap[k]?)/\(∀a,w'.frozen? a=w.frozen? a):=by
 refine⟨_,_,rfl,(((h.set o n).set (o+1) m).set (o+2) l).set (o+3) j,by simp,?_,?_,?_,?_,λ i q=>?_,λ B f w0 h=>(((h.setCell f _).setCell f _).setCell f _).setCell f _,by simp,λ k d=>?_,λ a=>by simp⟩
 .simp[Bp];omega
 .simp[Bp];omega
 .simp[Bp];omega
 .simp[Bp];omega
 .simp only[Bp];rw[ifN,ifN,ifN,ifN]
 .rw[Below.heap_setCell _ _ _ _ d,Below.heap_setCell _ _ _ _ d,Below.heap_setCell _ _ _ _ d,Below.heap_setCell _ _ _ _ d]
def vP(Q:Nat->Prop)(w:ao)(a:aM ah)(l:aa T):Prop:=
 ∀(k:Nat) (x:T),l[k]?=Z x->∃cs:aa ah,I cs=4/\(∀(i:Nat) (c:ah),cs[i]?=Z c->a[k*4+i]?=Z c)/\gw Q w x cs
def vP.nil{Q:Nat->Prop}{w:ao}{a:aM ah}:vP Q w a []:=λ k x h=>by simp at h
def vP.kids{Q d:Nat->Prop}{w:ao}{g:Nat}{e:aO}{a:aM ah}{l:aa T}(h:vP Q w a l)(n:Blk w g e a)(j:d g)(o:∀b,Q b->d b):ky d w (Z ⟨g,0,U⟩) l:=λ k x f=>by
 let⟨cs,r,q,p⟩:=h k x f;exact⟨g,0,cs,rfl,j,r,λ i c m=>by rw[cI,n.cell];exact q i c m,p.mono o x⟩
def vP.next{Q g:Nat->Prop}{w w':ao}{e a:aM ah}{l:aa T}(h:vP Q w e l)(j:∀b,Q b->w'.heap[b]?=w.heap[b]?)(n:∀b,Q b->g b)(m:∀i,i<I l*4->a[i]?=e[i]?):vP g w' a l:=λ k x f=>by
 let⟨cs,q,p,o⟩:=h k x f;have r:=(dV.1 f).1;refine⟨cs,q,λ i c d=>?_,(o.keep j x).mono n x⟩;have s:=(dV.1 d).1;rw[m _ (by omega)];exact p i c d
end Go.GxZ
namespace Go.GxZ
open Go.RowKit
def Qg{P:aX}(w:ao)(bQ:Nat)(t ty e:aO)(i:TypeInfo)(z:ah)(size bytes:Nat)(F:P.underlying t=Z (.slice e))(H:P.info? e=Z i)(K:i.zero=Z z)
  (d:i.size=size) (A:i.bytes=bytes) (s:z.cells.size=size) (x:0<size)
  (v:ah) (n:Nat) (xs:aa ah) (b:w.ownsRow bQ e size v n xs)
  (a:Addr) (m c:Nat) (aB:aa ah) (G:I aB=m*size) (f:∀j u,aB[j]?=Z u->w.cell? (a.add j)=Z u) (L:∀u∈aB,u.oneCell'=O)
  (B:n+m<=maxLen) (h:(n+m)*bytes<=140737488355328) (l:bQ<=w.heap.size):
  ∃p w',(Builtin.append_ #[t,t] ty #[v,.slice (Z a) m c]).run P w=.ok p w'/\w'.ownsRow bQ e size p (n+m) (xs++aB)/\w.grownBy w' v.ownBlock/\
   (p.ownBlock=v.ownBlock\/∀k,p.ownBlock=Z k->w.heap.size<=k):=by
 obtain⟨rfl,rfl⟩|⟨g,cap,T,rfl,S,W,M,R,Q,E⟩:=id b.2
 .have D:xs=[]:=pH.1 (by simpa using b.1);subst D;let⟨p,w',C,r,o,_⟩:=run_append_own (P:=P) w w.heap.size t ty e i z size bytes F H K d A s x (.slice U 0 0) 0 [] (World.ownsRow_nil w _ e size) a m c aB G f L B h (al _);exact⟨p,w',C,r.mono l,o,.inr λ k y=>(r.lt k y).1⟩
 .by_cases q:n+m<=cap
  .let⟨w',C,r,o⟩:=run_append_own_spare (P:=P) w bQ t ty e i size F H d g n cap xs b a m c aB G f L q;exact⟨_,w',C,r,o,.inl rfl⟩
  .let⟨p,w',C,r,o⟩:=run_append_arg_grows (P:=P) w t ty e i z size bytes F H K d A s x ⟨g,0,U⟩ n cap xs b.1 (λ j u N=>b.cells rfl j u N) a m c aB G f (by omega) B h;exact⟨p,w',C,r.mono l,⟨o.os,o.tape,o.output,o.size,λ k y _=>o.block k y (by simp)⟩,.inr λ k y=>(r.lt k y).1⟩
end Go.GxZ
namespace Go.GxZ
open Go.RowKit
def Kb{P:aX}(w:ao)(r s ty c:aO)(size g o d l:Nat)(a:Addr)(b f:Nat)(e:aM ah)(t:aO)(cs:aa ah)
  (u:P.underlying r=Z (.slice c)) (p:(P.info? c).map (·.size)=Z size)
  (z:w.heap[g]?=Z (.cells e t (0,0))) (x:I cs=Nat.min b d*size)
  (h:∀j v,cs[j]?=Z v->w.cell? (a.add j)=Z v) (k:o+I cs<=e.size) (A:∀v∈cs,v.oneCell'=O):
  (Builtin.copy_ #[r,s] ty #[.slice (Z ⟨g,o,U⟩) d l,.slice (Z a) b f]).run P w=
   .ok (goInt (Nat.min b d)) (w.setRow g (e.toList.take o++cs++e.toList.drop (o+I cs)).toArray):=by
 have q:=run_loadCells_list (P:=P) w a cs h;have m:=run_storeCells_at P g o t cs 0 e w z (by simpa using k) A;cases n:P.info? c with
 |none=>simp[n]at p
 |some i=>
   have y:i.size=size:=by simpa[n]using p
   rw[x]at q;simp[Builtin.copy_,run_underlying u,Builtin.lenOf,Builtin.firstCells,sizeOf,typeInfo,n,y,q,m]
def Sv{P:aX}(w:ao)(t e ty:aO)(z:ah)(h:P.underlying t=Z (.slice e))(f:∀w,(zeroValue e).run P w=.ok z w)(g o n c:Nat)(k:0<n)(a:aM ah)(tb:aO)
  (i:w.heap[g]?=Z (.cells a tb (0,0))) (d:o+n*z.cells.size<=a.size) (j:∀v∈V (Builtin.zeroCells z.cells n),v.oneCell'=O):
  (Builtin.clear_ #[t] ty #[.slice (Z ⟨g,o,U⟩) n c]).run P w=.ok (.tuple #[]) (w.setRow g (a.toList.take o++V (Builtin.zeroCells z.cells n)++a.toList.drop (o+(Builtin.zeroCells z.cells n).toList.length)).toArray):=by
 have b:=run_storeCells_at P g o tb (V (Builtin.zeroCells z.cells n)) 0 a w i (by simpa[Builtin.zeroCells]using d) j;obtain⟨m,rfl⟩:∃m,n=m+1:=⟨n-1,by omega⟩
 simp only[dE]at b;simp[Builtin.clear_,run_underlying h,f,b]
structure sF (w w':ao) (g:Nat) (t:aO) (new:List ah):Prop where
 blk:Blk w' g t new.toArray
 other:∀k,k≠g->w'.heap[k]?=w.heap[k]?
 size:w'.heap.size=w.heap.size
 below:∀B,B<=g->∀w0,Below B w0 w->Below B w0 w'
 os:w'.os=w.os
 tape:w'.tape=w.tape
 output:w'.output=w.output
 drawn:w'.drawn=w.drawn
def Ee{w:ao}{g:Nat}{t:aO}{b:aM ah}(h:Blk w g t b)(a:aa ah):sF w (w.setRow g a.toArray) g t a:=
 ⟨setRow_heap w g b _ t _ h,λ k c=>setRow_other w g k _ c,by simp[World.setRow],λ _ e _ d=>below_setRow d e _,rfl,rfl,rfl,rfl⟩
def SO{P:aX}{ops:aM Oper}{o:Oper}{a:Act}{w:ao}{K:Act->ao->Prop}{Q:Exit->Act->ao->Prop}{E:Prop}(q:o.guard=U)(d s:bw)(r u:aO)
  (C:o.op=.call {callee:=.builtin .copy,args := #[d,s],argTypes := #[r,u]}) (f:aO) (size:Nat) (A:P.underlying r=Z (.slice f)) (p:(P.info? f).map (·.size)=Z size)
  (g off e k:Nat) (ad:Addr) (c i:Nat) (F:a.eval d=.slice (Z ⟨g,off,U⟩) e k) (B:a.eval s=.slice (Z ad) c i)
  (b:aM ah) (t:aO) (y:Blk w g t b) (cs:aa ah) (D:I cs=Nat.min c e*size)
  (l:∀j v,cs[j]?=Z v->w.cell? (ad.add j)=Z v) (n:off+I cs<=b.size) (G:∀v∈cs,v.oneCell'=O)
  (h:∀w',sF w w' g t (b.toList.take off++cs++b.toList.drop (off+I cs))->K (a.put o.dst (goInt (Nat.min c e))) w'):
  if Region.wanted o (yielded ops a.tmps)=O then Oper.wp P o a w K Q else E:=by
 have z:Region.wanted o (yielded ops a.tmps)=O:=by simp[Region.wanted,q]
 rw[ag z];have m:=Kb (P:=P) w r u o.type f size g off e k ad c i b t cs A p y D l n G;unfold Oper.wp;simp[execOp,C,resolve,invoke,builtin,F,B,m,Result.andThen];have x:=h _ (Ee y (b.toList.take off++cs++b.toList.drop (off+I cs)));rw[bE]at x;exact x
def QK(g:Nat)(t:aO):∀(vs:aa ah) (o:Nat) (w:ao) (a:aM ah),Blk w g t a->o+I vs<=a.size->sF w (w.setCells g o vs) g t (a.toList.take o++vs++a.toList.drop (o+I vs))
 |[],o,w,a,h,_=>by
   refine⟨?_,λ _ _=>rfl,rfl,λ _ _ _ h=>h,rfl,rfl,rfl,rfl⟩;simp only[bZ,fE,dE,oP,O0];exact h
 |v::r,o,w,a,h,c=>by
   have b:=QK g t r (o+1) (w.setCell ⟨g,o,U⟩ v) (a.setIfInBounds o v) (h.set o v) (by simp at c |-;omega);have e:=list_seg_step (V a) o v r (by simp at c |-;omega);rw[World.setCells];refine⟨?_,λ k d=>(b.other k d).trans (Below.heap_setCell _ _ _ _ d),b.size.trans (by simp),λ B i w0 f=>b.below B i w0 (f.setCell i _),b.os,b.tape,b.output,b.drawn⟩;have f:=b.blk;grind
def qlE(k:Nat)(a xs ys:aa ah)(i n:Nat)(g:a.take (n*k)=xs)(m:n*k+k<=I a)(l:i*k<=n*k)(e:I ys=k)(c:aa ah)
  (h:c=a.take (i*k+k)++xs.drop (i*k)++a.drop (i*k+k+I (xs.drop (i*k)))):
  I c=I a/\I (c.take (i*k)++ys++c.drop (i*k+I ys))=I a/\(c.take (i*k)++ys++c.drop (i*k+I ys)).take (n*k+k)=xs.take (i*k)++ys++xs.drop (i*k):=by
 generalize n*k=N at *;generalize i*k=X at *;have b:I xs=N:=by rw[<-g,bD];omega
 have d:I (xs.drop X)=N-X:=by rw[je,b]
 have f:I c=I a:=by rw[h];simp only[aU,bD,je,b];omega
 refine⟨f,?_,?_⟩
 .grind
 .have e1:c.take X=xs.take X:=by
    grind
  have j:c.drop (X+k)=xs.drop X++a.drop (X+k+I (xs.drop X)):=by
   grind
  rw[e,e1,j,<-bE,yx (by simp only[aU,bD,e,d,b];omega),tn (by simp only[aU,bD,e,d,b];omega)]
def qnj(k:Nat)(a xs ys:aa ah)(i n:Nat)(h:a.take (i*k)=xs.take (i*k))(c:I xs=n*k)(l:n*k+k<=I a)(j:i*k<=n*k)(e:I ys=k)(b:aa ah)
  (g:b=a.take (i*k)++ys++a.drop (i*k+I ys)):
  I b=I a/\I (b.take (i*k+k)++xs.drop (i*k)++b.drop (i*k+k+I (xs.drop (i*k))))=I a/\
   (b.take (i*k+k)++xs.drop (i*k)++b.drop (i*k+k+I (xs.drop (i*k)))).take (n*k+k)=xs.take (i*k)++ys++xs.drop (i*k):=by
 generalize n*k=N at *;generalize i*k=X at *;have d:I (xs.drop X)=N-X:=by rw[je,c]
 have f:I b=I a:=by rw[g];simp only[aU,bD,je,e];omega
 refine⟨f,?_,?_⟩
 .grind
 .have e1:b.take (X+k)=xs.take X++ys:=by
    grind
  rw[e1,yx (by simp only[aU,bD,e,d,c];omega),tn (by simp only[aU,bD,e,d,c];omega)]
def sr(k:Nat)(w:ao)(g d n:Nat)(xs:aa ah)(e:Ending)(w':ao):Prop:=
 ∃(c cap:Nat) (a:aM ah) (f:aO),e=.returned (.slice (Z ⟨c,0,U⟩) n cap)/\w'.heap[c]?=Z (.cells a f (0,0))/\n<=cap/\cap*k<=a.size/\a.toList.take (n*k)=xs/\
  ((c=g/\a.size=d)\/w.heap.size<=c)/\w'.os=w.os/\w'.tape=w.tape/\w'.output=w.output/\w.heap.size<=w'.heap.size/\w.drawn<=w'.drawn/\∀b,b<w.heap.size->b≠g->w'.heap[b]?=w.heap[b]?
def qdE{P:aX}(w:ao)(tS tR e:aO)(ht:P.underlying tS=Z (.slice e))(size:Nat)(hz:∀ w,(Go.sizeOf e).run P w = .ok size w)
  (a b:Addr) (la ca lb cb:Nat) (hne:a.block≠b.block) (tA tB:aO) (kA kB:Nat)
  (hsa:w.shape? a.block=Z (tA,kA)) (hkA:kA≠0) (hsb:w.shape? b.block=Z (tB,kB))
  (hfb:w.frozen? b=Y) (hfe:w.frozen? { block:=b.block,off:=kB }=Y) :
  (Extern.SlicesOverlaps.overlaps #[tS,tS] #[tR] #[.slice (Z a) la ca,.slice (Z b) lb cb]).run P w = .ok (.bool Y) w:=by
 have hnb:(a.block != b.block)=O:=by simpa using hne
 have hnb':(a.block==b.block)=Y:=by simpa using hne
 change Sem.run P (α := ah) (do
  let Z t:=(#[tS,tS]:aM aO)[0]? | stuck "slices.overlaps: no parameter types"
  let .slice elem <- underlying t | stuck "slices.overlaps: slice type expected"
  let size <- sizeOf elem
  match(Z a:ac Addr),(Z b:ac Addr)with
  | some a,Z b =>
    if la=0\/lb=0\/size=0 then pure (Value.bool Y)
    else if a.block != b.block&&(<- frozen a)&&(<- frozen b)then unsupported .addressObserved
    else do
     if a.block != b.block then do
      noView a;noView b
      if <- mayBeOne a b then return Value.bool ((<- choose _)==1)
     pure (Value.bool (a.block==b.block&&a.off<b.off+lb*size&&b.off<a.off+la*size))
  | _,_=>pure (Value.bool Y)) w=_
 by_cases h0:la=0\/lb=0\/size=0
 ·simp[run_underlying ht,hz,h0]
 ·cases kA with
  | zero=>exact absurd rfl hkA
  | succ kA =>
    cases hfa:w.frozen? a with
    | true=>simp[run_underlying ht,hz,h0,hnb,hnb',frozen,noView,viewAt,mayBeOne,stringish,shape,Sem.run,hsa,hsb,hfb,hfe,hfa]
    | false =>
      cases hfk:w.frozen? { block:=a.block,off:=kA+1 }with
      | true| false=>simp[run_underlying ht,hz,h0,hnb,hnb',frozen,noView,viewAt,mayBeOne,stringish,shape,Sem.run,hsa,hsb,hfb,hfe,hfa,hfk]
def qiD{w:ao}{a:Addr}{u:ah}(d:a.spot=U)(h:w.cell? a=Z u):∃t n,w.shape? a.block=Z (t,n)/\n≠0:=by
 unfold World.cell? at h;split at h
 .next c e f b=>refine⟨e,c.size,by simp[World.shape?,b],λ g=>?_⟩;grind
 .cases h
end Go.GxZ
namespace Go.AmZ
open GxZ
section
open RowKit
def Me{Γ b σ σ1 w w1 a l}(r:Inv Γ σ w)(M:Ext Γ w b w1)(s:Inv b σ1 w1)(A:σ.bx=[]){j Q}(C:σ1.rw[j]?=Z Q)(D:Q.k=a.size)(x:Q.fz=0)(f:Q.off=Y)(E:ci (bq a) Q.c=Z l){u}(B:Rep b (.rs j 0 (I l) Q.ver Y) u):
  ∃g,Ext Γ w g w1/\Inv g ⟨[],σ.rw.map fP++eN [.one (.row a)] (l,()),List.range (I σ.bx),List.range (I σ.rw)⟩ w1/\Rep g (cN (fC [.one (.row a)] (I σ.rw) (l,()))) u/\
   bP {σ with wr:=[],wrr:=[]} ⟨[],σ.rw.map fP++eN [.one (.row a)] (l,()),List.range (I σ.bx),List.range (I σ.rw)⟩:=by
 have n:bP {σ with wr:=[],wrr:=[]} ⟨[],σ.rw.map fP++eN [.one (.row a)] (l,()),List.range (I σ.bx),List.range (I σ.rw)⟩:=
  ⟨by rw[A];exact al _,by show I σ.rw<=I (σ.rw.map fP++_);rw[aU,ce];exact kM _ _,λ i r _=>(by grind),λ i r N=>absurd (nM.2 r) N,λ i h=>(by cases h),λ i h=>(by cases h)⟩
 let⟨t,z1,z2,K,G⟩:=Az r M s (by grind) [] [] (by grind) (by simp) nK [] [(Z j,⟨a.size,l.map (aq a),0,0,Y⟩)] (λ i cs h=>by cases h)
  (λ i so R h=>by
   cases i with
   |zero=>
     cases h;refine⟨rfl,rfl,jk a,λ e y=>?_,λ e y=>?_,Q,C,D,x,by rw[ce];exact en E,λ i e e' T F=>?_,(by simp),f⟩
     .obtain⟨v,_,rfl⟩:=bu.1 y;exact fK a v
     .obtain⟨v,_,rfl⟩:=bu.1 y;exact fI a v
     .let⟨v,g3,S⟩:=oS E T;rw[dC,g3]at F;cases F;exact xr S
   |succ i=>cases h)
  (λ i j q R R' s P=>by
   cases i with
   |succ i=>cases s
   |zero=>cases j with
     |zero=>rfl
     |succ j=>cases P) (List.range (I σ.bx)) (List.range (I σ.rw))
 refine⟨_,K,G,?_,n⟩;have H:=s.row j Q C;cases B with
 |rs _ _ _ _ _ a' cap B hv z hf o=>
   have o:=o (H.ver (by omega)).symm;have m:¬ I σ.rw<I σ.rw:=O2 _;have d:I σ.rw-I σ.rw=0:=gF _;refine .rs _ _ _ _ _ a' cap (by show I σ.rw<I σ.rw+1;omega) (aL _) z (λ h=>by cases h) λ _=>?_
   have ec:(eK b t (I σ.bx) [] (I σ.rw) [(Z j,⟨a.size,l.map (aq a),0,0,Y⟩)]).cur (I σ.rw)=b.cur j:=by
    show(if I σ.rw<I σ.rw then _ else match[((Z j:ac Nat),(⟨a.size,l.map (aq a),0,0,Y⟩:Row))][I σ.rw-I σ.rw]? with|some (Z j,_)=>b.cur j|_=>0)=_;rw[af m,d];rfl
   have W:(eK b t (I σ.bx) [] (I σ.rw) [(Z j,⟨a.size,l.map (aq a),0,0,Y⟩)]).sz (I σ.rw)=b.sz j:=by
    show(if I σ.rw<I σ.rw then 0 else match[((Z j:ac Nat),(⟨a.size,l.map (aq a),0,0,Y⟩:Row))][I σ.rw-I σ.rw]? with|some (Z j,_)=>b.sz j|_=>0)=_;rw[af m,d];rfl
   have X:(eK b t (I σ.bx) [] (I σ.rw) [(Z j,⟨a.size,l.map (aq a),0,0,Y⟩)]).k (I σ.rw)=b.k j:=by
    show(if I σ.rw<I σ.rw then _ else match[((Z j:ac Nat),(⟨a.size,l.map (aq a),0,0,Y⟩:Row))][I σ.rw-I σ.rw]? with|some p=>p.2.k|none=>1)=_;rw[af m,d,<-H.k,D];rfl
   rw[ec,W,X];rw[H.off f]at o;exact o
def qmC{Γ Γ1 σ σ1 w w1 a}(d:Inv Γ σ w)(m:Ext Γ w Γ1 w1)(f:Inv Γ1 σ1 w1)(e:σ.bx=[])(p):
  ∃b,Ext Γ w b w1/\Inv b ⟨[],σ.rw.map fP++eN [.one (.row a)] (([]:aa (Val a)),()),List.range (I σ.bx),List.range (I σ.rw)⟩ w1/\Rep b (cN (fC [.one (.row a)] (I σ.rw) (([]:aa (Val a)),()))) (.slice p 0 0)/\
   bP {σ with wr:=[],wrr:=[]} ⟨[],σ.rw.map fP++eN [.one (.row a)] (([]:aa (Val a)),()),List.range (I σ.bx),List.range (I σ.rw)⟩:=by
 have c:bP {σ with wr:=[],wrr:=[]} ⟨[],σ.rw.map fP++eN [.one (.row a)] (([]:aa (Val a)),()),List.range (I σ.bx),List.range (I σ.rw)⟩:=
  ⟨by rw[e];exact al _,by show I σ.rw<=I (σ.rw.map fP++_);rw[aU,ce];exact kM _ _,λ i d _=>(by grind),λ i d n=>absurd (nM.2 d) n,λ i h=>(by cases h),λ i h=>(by cases h)⟩
 let⟨s,r,o,k,g⟩:=Az d m f (by grind) [] [] (by grind) (by simp) nK [] [(U,⟨a.size,[],0,0,Y⟩)] (λ i cs h=>by cases h)
  (λ i so R h=>by
   cases i with
   |zero=>cases h;exact⟨rfl,rfl,jk a,(by simp),(by simp),rfl⟩
   |succ i=>cases h)
  (λ i j q R R' f t=>by cases i<;>cases f) (List.range (I σ.bx)) (List.range (I σ.rw))
 refine⟨_,k,g,?_,c⟩;exact .rs _ _ _ _ _ p 0 (by show I σ.rw<I σ.rw+1;omega) (aL _) (al _) (λ h=>by cases h) λ _=>⟨.inl rfl,by rw[dE,kK];exact aL _⟩
def gV(Γ:Gh)(k:Nat)(c:aa (aa AV))(xs:aa ah):Prop:=∀(i:Nat) (e:aa AV) (j:Nat) (x:AV),c[i]?=Z e->e[j]?=Z x->∃u,xs[i*k+j]?=Z u/\Rep Γ x u/\u.oneCell'=O
def gV.take{Γ k c xs}(h:gV Γ k c xs)(hk:∀ e∈c,I e=k)(n):gV Γ k (c.take n) (xs.take (n*k)):=by
 intro i e j x h1 h2;rw[eX]at h1;split at h1
 case isFalse=>cases h1
 next hin=>obtain⟨u,u1,u2⟩:=h i e j x h1 h2;refine⟨u,?_,u2⟩;have:(i+1)*k<=n*k:=cj _ hin;grind
def gV.drop{Γ k c xs}(h:gV Γ k c xs)(n):gV Γ k (c.drop n) (xs.drop (n*k)):=by
 intro i e j x a b;rw[mG]at a;let⟨u,u1,u2⟩:=h _ e j x a b;grind
def gV.app{Γ k c c' xs ys}(h:gV Γ k c xs)(d:gV Γ k c' ys)(a:I xs=I c*k)(b:∀e∈c,I e=k):gV Γ k (c++c') (xs++ys):=Kh a b h d
def EP{P f Γ σ w vals a R l c xs n}(q:Inv Γ σ w)(N:σ.bx=[])(s:σ.rw[0]?=Z R)(z:R.k=a.size)(K:R.fz=0)(d:R.off=Y)(B:Γ.sz 0≠0)(hn:n=I l)(m:ci (bq a) c=Z l)(F:∀e∈c,I e=a.size)(C:∀e∈c,∀x∈e,br x=O)(hx:gV Γ a.size c xs)(h:Calls P f vals.toArray w (sr a.size w (Γ.cur 0) (Γ.sz 0) n xs)):
  jI P Γ σ w f vals (cN (fC [.one (.row a)] (I σ.rw) (l,())),Z ⟨[],σ.rw.map fP++eN [.one (.row a)] (l,()),List.range (I σ.bx),List.range (I σ.rw)⟩):=by
 subst hn;apply Calls.mono h;rintro e w' ⟨g,cap,ab,et,rfl,h1,T,h3,h4,v,h6,h7,h8,h9,S,y⟩;have H:=q.row 0 R s;have M:=en m;have r:=λ off=>H.un B off (by rw[K,kK,H.off d];exact aL _)
 let⟨W,e1,i1,r1⟩:=Lf q s (H.off d) (R':=⟨R.k,c,R.ver+1,0,Y⟩) (by omega) rfl (.inl rfl) (λ e L=>(F e L).trans z.symm) C (aL _) (G9 _) (λ _=>rfl) h1
  (by show I c*R.k<=_;rw[M,z];exact bR (cj _ T) h3)
  (λ off _=>by
   obtain⟨rfl,_⟩|v:=v
   .exact r off
   .cases p:Γ.mem g off with
    |none=>rfl
    |some u=>have:=q.mem_lt p;omega)
  (λ i e j x g1 g2=>by
   let⟨u,u1,u2⟩:=hx i e j x g1 g2;refine⟨u,?_,u2⟩;rw[z,<-jh]
   have E:i*a.size+j<I l*a.size:=by
    have G:i<I l:=by grind
    have hj:j<a.size:=by grind
    have:(i+1)*a.size<=I l*a.size:=cj _ G;rw[kL]at this;omega
   rw[<-h4,eX,ag E]at u1;exact u1)
  (λ b o u p=>by
   have Q:b≠Γ.cur 0:=λ L=>by rw[L,r]at p;cases p
   rw[show w'.cell? _=w.cell? _ from World.cell?_of_block (y b (q.mem_lt p) Q)];exact(q.mem b o u p).1)
  (λ b Q D=>y b Q (D.elim id λ h0=>absurd h0 B))
  (by
   obtain⟨rfl,_⟩|v:=v
   .exact .inl ⟨rfl,B⟩
   .exact .inr v) h6 h7 h8 h9 S σ.wrr
 have t:({σ with rw:=σ.rw.set 0 ⟨R.k,c,R.ver+1,0,Y⟩,wrr:=σ.wrr}:St).rw[0]?=Z ⟨R.k,c,R.ver+1,0,Y⟩:=by
  grind
 let⟨A,z1,z2,z3,X⟩:=Me q e1 i1 N t z rfl rfl m (r1 (I l) cap T (by grind));exact⟨_,A,rfl,z1,z2,z3,X⟩
def TY{Γ σ w}(d:Inv Γ σ w){R r}(a:σ.rw[r]?=Z R)(b:R.off=Y)(l:Γ.sz r≠0){et cur}(f:w.heap[Γ.cur r]?=Z (.cells cur et (0,0)))(i e j x)(h:R.c[i]?=Z e)(g:e[j]?=Z x):
  ∃u,cur[i*R.k+j]?=Z u/\Rep Γ x u/\u.oneCell'=O:=by
 let⟨u,u1,u2⟩:=(d.row r R a).cells i e j x h g;refine⟨u,?_,u2⟩;rw[(d.row r R a).off b,cI]at u1;simpa[World.cell?,f]using u1
def WL{cs:aa (aa AV)}{k}{xs:aa ah}(l:∀e∈cs,I e=k)(c:0<k)(g:I xs=I cs*k)(h:∀i e j x,cs[i]?=Z e->e[j]?=Z x->∃u,xs[i*k+j]?=Z u/\u.oneCell'=O):∀u∈xs,u.oneCell'=O:=by
 intro u d;let⟨q,f⟩:=lI d;have b:=getElem?_lt f;rw[g]at b;have a:=(OU c).2 b;have n:q%k<k:=qR _ c;have o:=l _ (iq a);let⟨m,r,p⟩:=h (q/k) _ (q%k) _ (aV a) (aV (by omega));grind [Nat.mul_comm,Nat.div_add_mod]
def xN{σ τ r nb nr ys a}(h:dS σ (.val τ::r) nb nr ys=Z a):∃y b,ys=y::b/\gu τ y=Z a.1/\dS σ r nb nr b=Z a.2:=by
 cases ys with
 |nil=>simp[dS]at h
 |cons y ys=>
   grind [dS]
def GO{σ τ r nb nr ys a}(h:dS σ (.row τ::r) nb nr ys=Z a):∃y b c,ys=y::b/\ow σ τ nr y=Z (a.1,c)/\dS σ r nb c b=Z a.2:=by
 cases ys with
 |nil=>simp[dS]at h
 |cons y ys=>
   grind [dS]
def vk{σ nb nr ys a}(h:dS σ [] nb nr ys=Z a):ys=[]/\nb=I σ.bx/\nr=I σ.rw:=by
 grind [dS]
def DW{σ τ y l nr}(h:ow σ τ 0 y=Z (l,nr)):
  (nr=1/\∃R,y=.rs 0 0 (I R.c) R.ver Y/\σ.rw[0]?=Z R/\R.k=τ.size/\(R.fz=0/\R.off=Y)/\ci (bq τ) R.c=Z l)\/(nr=0/\l=[]/\(y=.v (.slice U 0 0)\/∃f,y=.sl τ.size [] f/\2<=f)):=by
 unfold ow at h;split at h
 .grind
 .split at h<;>cases h;rename_i d a;refine .inr ⟨rfl,rfl,?_⟩;have a:=bH a;obtain⟨rfl,_⟩|⟨e,n,rfl,b⟩:=fL d
  .exact .inl rfl
  .have:=cJ (en b);subst this;exact .inr ⟨_,rfl,a⟩
def xF{Γ τ y v u}(h:gu τ y=Z v)(a:Rep Γ y u):Rep Γ (cG τ v) u:=Gv h _ _ a
def RM{a}(l):dlist a (.sl a.size (l.map (aq a)) 1)=Z l:=by
 show fU a.size (bq a) _=Z l;grind [fU,bN,decide_eq_true,qc,jo]
structure Al (P:aX) (a:Ty) (tS tE:aO) (bytes:Nat):Prop where
 td:∃q1 q2 q3 q4 z,cH P tS=Z ⟨q1,q2,q3,q4,.slice tE a.size bytes z⟩/\z.length=a.size
def X1(t:aO)(d:TD):Cfg:=⟨λ a=>if a=t then Z d else U,λ _=>U,λ _=>U,λ _=>Y,λ _=>[],λ _=>Y,λ _=>U⟩
def J4{P a tS tE bytes}(n:Al P a tS tE bytes){Γ σ w}(m:Inv Γ σ w){s sv xv b f}(l:Rep Γ s sv)(k:Rep Γ (.sl a.size b f) xv)(r:∀e∈b,I e=a.size)(q:∀e∈b,∀x∈e,br x=O){x σ'}(h:eG a.size bytes σ s b=Z (x,σ'))(ty):
  ∃v w' Γ',(Builtin.append_ #[tS,tS] ty #[sv,xv]).run P w=.ok v w'/\Ext Γ w Γ' w'/\Inv Γ' (turn σ σ') w'/\Rep Γ' x v:=by
 let⟨j,i,g,c,z,u,o⟩:=n.td;refine SU (C:=X1 tS ⟨j,i,g,c,.slice tE a.size bytes z⟩) (λ t d p=>?_) m l k rfl rfl (ag rfl) (ag rfl) (jk a) o ?_ ?_ h
 .grind [X1]
 .grind [elems,bN]
 .grind [uni]
def VQ(b o j):(⟨b,o,U⟩:Addr).add j=⟨b,o+j,U⟩:=by unfold Addr.add;split<;>simp_all
def qla{P N a tS tE bytes}(hf:kI P N)(hT:Al P a tS tE bytes)(hb:bytes<=2^24)(an:∀w p n c ad D v' w',n<=100000->(Builtin.append_ #[tS,tS] tS #[.slice p n c,.slice (Z ad) 1 D]).run P w=.ok v' w'->Calls P N #[.slice p n c,.int .i64 n,.slice (Z ad) 1 D] w λ e w1=>e=.returned v'/\w1=w')(a0:∀w g n c i et s xs,Blk w g et s->c*a.size<=s.size->s.toList.take (n*a.size)=xs->(∀u∈xs,u.oneCell'=O)->∀M B D ys,I ys=a.size->(∀j u,ys[j]?=Z u->w.cell? ⟨M,B+j,U⟩=Z u)->(∀u∈ys,u.oneCell'=O)->M≠g->n<=100000->i<n->n+1<=c->
   Calls P N #[.slice (Z ⟨g,0,U⟩) n c,.int .i64 i,.slice (Z ⟨M,B,U⟩) 1 D] w (sr a.size w g s.size (n+1) (xs.take (i*a.size)++ys++xs.drop (i*a.size)))) (a3:∀w g n i et s xs,Blk w g et s->n*a.size<=s.size->s.toList.take (n*a.size)=xs->(∀u∈xs,u.oneCell'=O)->∀M B D ys,I ys=a.size->(∀j u,ys[j]?=Z u->w.cell? ⟨M,B+j,U⟩=Z u)->(∀u∈ys,u.oneCell'=O)->n<=100000->i<n->
   Calls P N #[.slice (Z ⟨g,0,U⟩) n n,.int .i64 i,.slice (Z ⟨M,B,U⟩) 1 D] w (sr a.size w g s.size (n+1) (xs.take (i*a.size)++ys++xs.drop (i*a.size)))) {fn:aa (Val a)->Int->aa (Val a)->ac (Unit×aa (Val a)×Unit)} (ct:∀l i v r,fn l i v=Z r->(∃e,v=[e])/\0<=i/\i<=I l/\I l<=100000/\r=((),l.take i.toNat++(v++l.drop i.toNat),())) (c6:a.size≠1:=by first|assumption|decide):
  cp P N (sgP ⟨[.row a,.val (.int .i64),.val (.list a)],[.one (.row a)],λ x=>fn x.1 x.2.1 x.2.2.1⟩):=by
 refine⟨hf,λ Γ σ w c7 c4 r hi hr hp=>?_⟩;unfold sgP at hp;split at hp<;>try cases hp
 rename_i x hx;split at hp<;>cases hp;rename_i v0 b3;let⟨l,i,v,_⟩:=x;obtain⟨⟨e,rfl⟩,a2,bd,hl,rfl⟩:=ct _ _ _ _ b3;obtain⟨i,rfl⟩:=ZO a2;have bd:i<=I l:=Int.ofNat_le.1 bd;have hl:I l<=100000:=hl;obtain⟨y0,da,nr,rfl,b1,hx⟩:=GO hx;obtain⟨y1,c9,rfl,b0,hx⟩:=xN hx;obtain⟨y2,c8,rfl,bz,hx⟩:=xN hx;obtain⟨rfl,cP,dk⟩:=vk hx;obtain⟨u0,r0,rfl,Q,hr⟩:=hr.uncons;obtain⟨u1,r1,rfl,aE,hr⟩:=hr.uncons;obtain⟨u2,r2,rfl,b4,hr⟩:=hr.uncons;have:=hr.nil_inv;subst this;have aE:=ch (xF b0 aE);subst aE;have a6:=cJ cP.symm;have hL:=xF bz b4;obtain⟨p2,n2,D,rfl,dr,hC⟩:=VF hi (RM [e]) hL;have bb:n2=1:=by rw[<-hC.len];rfl
 subst bb;obtain c3|⟨b2,B,rfl,c1⟩:=hC.at_
 .cases c3
 let⟨ys,db,bv,y3,y4⟩:=zj (jk a) hC.size c1;have E:I ys=a.size:=by grind
 have F:bN (fR [aq a e]) 0=Y:=rfl;have bs:=VQ;have A:∀j u,ys[j]?=Z u->w.cell? ⟨b2,B+j,U⟩=Z u:=λ j u hj=>by rw[<-bs];exact bv j u hj
 have b5:(1:Nat)*bytes<=2^47:=by omega
 have T:∀q∈[aq a e],I q=a.size:=by intro q d;rw[bW.1 d];exact fK a e
 have a1:∀q∈[aq a e],∀x∈q,br x=O:=by intro q d;rw[bW.1 d];exact fI a e
 obtain⟨ca,R,rfl,hR,z,m,W⟩|⟨ca,cf,hy⟩:=DW b1
 .have H:=hi.row 0 R hR;have d0:I R.c=I l:=en W;cases Q with
  |rs _ _ _ _ _ p cap b8 b7 a8 b6 a7=>
  let⟨ba,K⟩:=a7 (H.ver (by omega)).symm;rw[H.off m.2,cI]at ba K;by_cases co:i=I l
  .-- at the end
   have t:eG a.size bytes σ (.rs 0 0 (I R.c) R.ver Y) [aq a e]=Z (.rs 0 0 (I R.c+1) (R.ver+1) Y,Z {σ with rw:=σ.rw.set 0 {R with c:=R.c++[aq a e],ver:=R.ver+1},wrr:=0::σ.wrr}):=by
    have a4:R.k=a.size/\R.ver=R.ver/\I R.c=I R.c/\(0:Nat)=0/\Y=Y/\R.fz<=I R.c/\(I R.c+[aq a e].length)*bytes<=2^47/\I R.c+[aq a e].length<2^62:=by
     refine⟨z,rfl,rfl,rfl,rfl,by rw[m.1];exact aL _,?_,?_⟩
     .have:(I R.c+1)*bytes<=100001*2^24:=Pd (by omega) hb;show(I R.c+1)*bytes<=_;omega
     .show (I R.c)+1<_;omega
    have c0:yc R a.size 0 (I R.c) R.ver Y bytes [aq a e]=Z ({R with c:=R.c++[aq a e],ver:=R.ver+1},I R.c+1):=ag a4;simp[eG,F,hR,c0]
   let⟨v',w',Γ',g1,M,g3,g4⟩:=J4 hT hi (.rs 0 0 _ _ _ p cap b8 b7 a8 b6 a7) hL T a1 t tS;have L:=an w p (I R.c) cap ⟨b2,B,U⟩ D v' w' (by omega) g1;rw[show((I R.c:Nat):Int)=((i:Nat):Int) by omega]at L;apply Calls.mono L;rintro e1 w1 ⟨rfl,rfl⟩
   have G:(turn σ (Z {σ with rw:=σ.rw.set 0 {R with c:=R.c++[aq a e],ver:=R.ver+1},wrr:=0::σ.wrr})).rw[0]?=Z {R with c:=R.c++[aq a e],ver:=R.ver+1}:=by
    show(σ.rw.set 0 _)[0]?=_;rw[gh (getElem?_lt hR)]
   have hd:=rB W (qc (λ v=>jo a v) [e])
   have y:l.take ((i:Nat):Int).toNat++([e]++l.drop ((i:Nat):Int).toNat)=l++[e]:=by
    rw[lL,co,cV,ej,bZ]
   let⟨ar,z1,z2,z3,z4⟩:=Me hi M g3 a6 G z m.1 m.2 hd (u:=v') (by grind);rw[y];exact⟨_,ar,rfl,z1,z2,z3,z4⟩
  .-- within
   have a9:cap≠0:=by omega
   have b9:p=Z ⟨Γ.cur 0,0,U⟩:=by
    obtain h|h:=ba
    .exact absurd h a9
    .rw[h,kK]
   subst b9;have cl:=jk a;have d1:1*a.size<=cap*a.size:=cj _ (by omega);rw[<-H.k,z,cI]at K;have hz:Γ.sz 0≠0:=by omega
   let⟨vs,et,frz,az,X,c5,bn⟩:=H.blk hz;obtain rfl:frz=(0,0):=bn (by omega)
   have a5:gV Γ a.size R.c (vs.toList.take (I R.c*a.size)):=by
    have hh:gV Γ a.size R.c (V vs):=λ q e j x q1 q2=>by
     let⟨u,u1,u2⟩:=TY hi hR m.2 hz az q e j x q1 q2;rw[z]at u1;exact⟨u,by rw[jh];exact u1,u2⟩
    have:=hh.take (λ e he=>(H.len e he).trans z) (I R.c)
    rwa [cV]at this
   have C:=λ e he=>(H.len e he).trans z;have cb:I R.c*a.size<=vs.size:=by rw[X];exact bR (cj _ a8) K
   have ax:I (vs.toList.take (I R.c*a.size))=I R.c*a.size:=by grind
   have h1:=WL C cl ax (λ q e j x q1 q2=>by let⟨u,u1,u2,u3⟩:=a5 q e j x q1 q2;exact⟨u,u1,u3⟩)
   have cd:b2≠Γ.cur 0:=by
    intro he;cases hL with
    |sl _ _ _ _ _ _ b o us s1 s2 s3 s4 s5 s6 s7 s8 s9=>
      obtain s7|s7:=s7
      .cases s7
      .cases s7;have dT:=fK a e;have hm:=s8 0 (aq a e) 0 _ rfl (aV (by omega));have:=H.un hz (B+0*a.size+0) (by rw[m.1,kK,H.off m.2];exact aL _);rw[he,this]at hm;cases hm
   have cs:Calls P N #[.slice (Z ⟨Γ.cur 0,0,U⟩) (I R.c) cap,.int .i64 i,.slice (Z ⟨b2,B,U⟩) 1 D] w (sr a.size w (Γ.cur 0) (Γ.sz 0) (I R.c+1) ((vs.toList.take (I R.c*a.size)).take (i*a.size)++ys++(vs.toList.take (I R.c*a.size)).drop (i*a.size))):=by
    rw[<-X];by_cases S:I R.c+1<=cap
    .exact a0 w (Γ.cur 0) (I R.c) cap i et vs _ az (by omega) rfl h1 b2 B D ys E A y3 cd (by omega) (by omega) S
    .obtain rfl:cap=I R.c:=by omega
     exact a3 w (Γ.cur 0) (I R.c) i et vs _ az cb rfl h1 b2 B D ys E A y3 (by omega) (by omega)
   have bl:i*a.size<=I R.c*a.size:=cj _ (by omega);have bp:ci (bq a) (R.c.take i++[aq a e]++R.c.drop i)=Z (l.take i++[e]++l.drop i):=rB (rB (zd i W) (qc (λ v=>jo a v) [e])) (wW i W);have y:l.take ((i:Nat):Int).toNat++([e]++l.drop ((i:Nat):Int).toNat)=l.take i++[e]++l.drop i:=by simp
   rw[y];refine EP hi a6 hR z m.1 m.2 hz ?_ bp (λ q d=>?_) (λ q d=>?_) ?_ cs
   .simp;omega
   .obtain d|d:=bc.1 d
    .obtain d|d:=bc.1 d
     .exact C q (jf d)
     .exact T q d
    .exact C q (iP d)
   .obtain d|d:=bc.1 d
    .obtain d|d:=bc.1 d
     .exact H.plain q (jf d)
     .exact a1 q d
    .exact H.plain q (iP d)
   .have bx:=y4;have ht:=a5.take C i;have hd:=a5.drop i;refine gV.app (gV.app ht bx ?_ λ q d=>C q (jf d)) hd ?_ ?_
    .rw[bD,ax,bD,kP bl,kP (by omega)]
    .rw[aU,aU,bD,ax,bD,kP bl,kP (by omega),E,List.length_singleton,kL]
    .intro q d;obtain d|d:=bc.1 d
     .exact C q (jf d)
     .exact T q d
 .-- nothing was there
  subst cf;have a2:i=0:=by grind
  subst a2;have ab:rowNew a.size bytes [aq a e]=Z (⟨a.size,[aq a e],0,0,Y⟩,1):=ag ⟨b5,by show(1:Nat)<_;omega⟩
  have t:eG a.size bytes σ y0 [aq a e]=Z (.rs (I σ.rw) 0 1 0 Y,Z {σ with rw:=σ.rw++[⟨a.size,[aq a e],0,0,Y⟩]})/\∃p,u0=.slice p 0 0:=by
   obtain rfl|⟨f,rfl,ds⟩:=hy
   .refine⟨?_,U,ch Q⟩;simp[eG,F,ab]
   .refine⟨?_,?_⟩
    .have e1:(J (1<f)&&bN a.size a.size&&uni a.size [])=O:=by
       rw[cO (show 1<f by omega),show bN a.size a.size=O from cO rfl];rfl
     simp[eG,F,e1,show oC [] [aq a e]=[aq a e]from rfl,ab]
    .cases Q with
     |sl _ _ _ p n cap b o us s1 s2 s3=>
       have h1:n=0:=by omega
       have h2:=s3 (by omega);subst h1;subst h2;exact⟨p,rfl⟩
  obtain⟨t,p,rfl⟩:=t;let⟨v',w',Γ',g1,M,g3,g4⟩:=J4 hT hi Q hL T a1 t tS;apply Calls.mono (an w p 0 0 ⟨b2,B,U⟩ D v' w' (by omega) g1);rintro e1 w1 ⟨rfl,rfl⟩
  have G:(turn σ (Z {σ with rw:=σ.rw++[⟨a.size,[aq a e],0,0,Y⟩]})).rw[I σ.rw]?=Z ⟨a.size,[aq a e],0,0,Y⟩:=by
   show(σ.rw++_)[I σ.rw]?=_;rw[dy (al _)];simp
  let⟨ar,z1,z2,z3,z4⟩:=Me hi M g3 a6 G rfl rfl rfl (qc (λ v=>jo a v) [e]) g4;exact⟨_,ar,rfl,z1,z2,z3,z4⟩
def L9{Γ σ w}(L:Inv Γ σ w){a:Ty}{R}(M:σ.rw[0]?=Z R)(f:R.k=a.size)(s:R.fz=0/\R.off=Y){u0}(z:Rep Γ (.rs 0 0 (I R.c) R.ver Y) u0)(K:a.size≠1:=by first|assumption|decide):
  ∃p cap,u0=.slice p (I R.c) cap/\I R.c<=cap/\(cap=0\/p=Z ⟨Γ.cur 0,0,U⟩/\Γ.sz 0≠0/\∃vs F,Blk w (Γ.cur 0) F vs/\vs.size=Γ.sz 0/\cap*a.size<=vs.size/\gV Γ a.size R.c (vs.toList.take (I R.c*a.size))/\I (vs.toList.take (I R.c*a.size))=I R.c*a.size/\(∀u∈vs.toList.take (I R.c*a.size),u.oneCell'=O)):=by
 have H:=L.row 0 R M;cases z with
 |rs _ _ _ _ _ p cap Q P m N A=>
 let⟨n,b⟩:=A (H.ver (by omega)).symm;rw[H.off s.2,cI]at n b;refine⟨p,cap,rfl,m,?_⟩;by_cases g:cap=0
 .exact .inl g
 right
 have B:p=Z ⟨Γ.cur 0,0,U⟩:=by
  obtain h|h:=n
  .exact absurd h g
  .rw[h,kK]
 subst B;have D:=jk a;have W:1*a.size<=cap*a.size:=cj _ (by omega);rw[<-H.k,f,cI]at b;have y:Γ.sz 0≠0:=by omega
 let⟨vs,F,frz,l,d,G,o⟩:=H.blk y;obtain rfl:frz=(0,0):=o (by omega)
 have r:gV Γ a.size R.c (vs.toList.take (I R.c*a.size)):=by
  have T:gV Γ a.size R.c (V vs):=λ q e j x v t=>by
   let⟨u,u1,u2⟩:=TY L M s.2 y l q e j x v t;rw[f]at u1;exact⟨u,by rw[jh];exact u1,u2⟩
  have:=T.take (λ e E=>(H.len e E).trans f) (I R.c)
  rwa [cV]at this
 have C:=λ e E=>(H.len e E).trans f;have S:I R.c*a.size<=vs.size:=by rw[d];exact bR (cj _ m) b
 have i:I (vs.toList.take (I R.c*a.size))=I R.c*a.size:=by grind
 have X:=WL C D i (λ q e j x v t=>by let⟨u,u1,u2,u3⟩:=r q e j x v t;exact⟨u,u1,u3⟩);exact⟨rfl,y,vs,F,l,d,by rw[d];exact b,r,i,X⟩
def qkK{P N a}(hf:kI P N)(F:∀w g m c i et f xs,Blk w g et f->c*a.size<=f.size->f.toList.take ((m+1)*a.size)=xs->(∀u∈xs,u.oneCell'=O)->m<=100000->i<=m->m+1<=c->
   Calls P N #[.slice (Z ⟨g,0,U⟩) (m+1) c,.int .i64 i,.int .i64 ((i:Int)+1)] w (sr a.size w g f.size m (xs.take (i*a.size)++xs.drop ((i+1)*a.size)))) {fn:aa (Val a)->Int->Int->ac (Unit×aa (Val a)×Unit)} (ar:∀l i j r,fn l i j=Z r->j=i+1/\0<=i/\i<I l/\I l<=100000/\r=((),l.take i.toNat++l.drop (i.toNat+1),())) (a0:a.size≠1:=by first|assumption|decide):
  cp P N (sgP ⟨[.row a,.val (.int .i64),.val (.int .i64)],[.one (.row a)],λ x=>fn x.1 x.2.1 x.2.2.1⟩):=by
 refine⟨hf,λ Γ σ w a2 aE r hi s C=>?_⟩;unfold sgP at C;split at C<;>try cases C
 rename_i x k;split at C<;>cases C;rename_i v0 W;let⟨l,i,j,_⟩:=x;obtain⟨hj,an,v,hl,rfl⟩:=ar _ _ _ _ W;have hj:j=i+1:=hj;subst hj;obtain⟨i,rfl⟩:=ZO an;have v:i<I l:=Int.ofNat_lt.1 v;have hl:I l<=100000:=hl;obtain⟨y0,a5,nr,rfl,Q,k⟩:=GO k;obtain⟨y1,a4,rfl,M,k⟩:=xN k;obtain⟨y2,a3,rfl,L,k⟩:=xN k;obtain⟨rfl,ax,a6⟩:=vk k;obtain⟨u0,r0,rfl,X,s⟩:=s.uncons;obtain⟨u1,r1,rfl,o,s⟩:=s.uncons;obtain⟨u2,r2,rfl,n,s⟩:=s.uncons;have:=s.nil_inv;subst this;have o:=ch (xF M o);subst o;have n:=ch (xF L n);subst n;have az:=cJ ax.symm;obtain⟨ab,R,rfl,hR,y,z,A⟩|⟨ab,t,hy⟩:=DW Q
 .have H:=hi.row 0 R hR;have a7:I R.c=I l:=en A;have d:=λ e he=>(H.len e he).trans y;obtain⟨p,cap,rfl,a1,h|⟨rfl,hz,vs,et,T,B,E,K,S,h1⟩⟩:=L9 hi hR y z X
  .omega
  .obtain⟨m,hm⟩:∃m,I R.c=m+1:=⟨I R.c-1,by omega⟩
   have ad:(i+1)*a.size<=I R.c*a.size:=cj _ (by omega);have D:=F w (Γ.cur 0) m cap i et vs _ T E (by grind) h1 (by omega) (by omega) (by omega);rw[<-hm,B]at D
   have G:ci (bq a) (R.c.take i++R.c.drop (i+1))=Z (l.take ((i:Nat):Int).toNat++l.drop (((i:Nat):Int).toNat+1)):=by
    rw[lL];exact rB (zd i A) (wW (i+1) A)
   refine EP hi az hR y z.1 z.2 hz ?_ G (λ q b=>?_) (λ q b=>?_) ?_ D
   .rw[lL];simp;omega
   .obtain b|b:=bc.1 b
    .exact d q (jf b)
    .exact d q (iP b)
   .obtain b|b:=bc.1 b
    .exact H.plain q (jf b)
    .exact H.plain q (iP b)
   .refine gV.app (K.take d i) (K.drop (i+1)) ?_ λ q b=>d q (jf b);rw[kL]at ad;rw[bD,S,bD,kP (by omega),kP (by omega)]
 .have t:=t;subst t;exact absurd v (eh _)
def Si{P:aX}{N:dm}{a:Ty}(hf:kI P N){most:Nat}
  (k:∀(w:ao) (p:ac Addr) (n c:Nat) (xs:aa ah),I xs=n*a.size->(n=0\/∃ad,p=Z ad/\∀j u,xs[j]?=Z u->w.cell? (ad.add j)=Z u)->(∀u∈xs,u.oneCell'=O)->n<=most->Calls P N #[.slice p n c] w λ e w'=>∃v,e=.returned v/\Fresh w a.size n xs v w')
  {fn:aa (Val a)->ac (Unit×aa (Val a)×Unit)} (F:∀l r,fn l=Z r->I l<=most/\r=((),l,())):
  cp P N (sgP ⟨[.val (.list a)],[.one (.row a)],λ x=>fn x.1⟩):=by
 refine⟨hf,λ Γ σ w Q L r E C g=>?_⟩;unfold sgP at g;split at g<;>try cases g
 rename_i x y;split at g<;>cases g;rename_i v0 z;let⟨l,_⟩:=x;obtain⟨s,rfl⟩:=F _ _ z;have s:I l<=most:=s;obtain⟨y0,R,rfl,t,y⟩:=xN y;obtain⟨rfl,G,B⟩:=vk y;obtain⟨u0,r0,rfl,A,C⟩:=C.uncons;have:=C.nil_inv;subst this;have m:σ.bx=[]:=cJ G.symm;have d:σ.rw=[]:=cJ B.symm;have hL:Rep Γ (.sl a.size (l.map (aq a)) 1) u0:=xF t A;obtain⟨p,n,c,rfl,hn,K⟩:=VF E (RM l) hL;have D:I l=n:=by rw[<-K.len,ce]
 subst D;obtain q|⟨b,o,rfl,H⟩:=K.at_
 .have h:I l=0:=by rw[<-ce (f:=aq a),q];rfl
  refine JL (xs:=[]) E m d (λ i e j x M=>by rw[q]at M;cases M) ?_;exact k w p (I l) c [] (by rw[h];simp) (.inl h) (λ u hu=>by cases hu) s
 .let⟨xs,X,W,T,S⟩:=zj (Γ:=Γ) (jk a) K.size H;apply JL (xs:=xs) E m d S;exact k w _ (I l) c xs (by rw[X,ce]) (.inr ⟨_,rfl,W⟩) T s
def qmP{σ:St}{r:aa SA}{nb c:Nat}{ys:aa AV}{a:iI (.nil::r)}(h:dS σ (.nil::r) nb c ys=Z a):∃b,ys=.v (.slice U 0 0)::b/\dS σ r nb c b=Z a:=by
 cases ys with
 |nil=>simp[dS]at h
 |cons y ys=>
   grind [dS,T2]
def qjY{P:aX}{N:dm}{a:Ty}(C:kI P N){most:Nat}
  (B:∀(w:ao) (n:Nat),n<=most->Calls P N #[.slice U 0 0,.int .i64 n] w λ e w'=>∃v,e=.returned v/\Fresh w a.size 0 [] v w')
  {fn:Int->ac (Unit×aa (Val a)×Unit)} (q:∀n r,fn n=Z r->0<=n/\n<=most/\r=((),[],())):
  cp P N (sgP ⟨[.nil,.val (.int .i64)],[.one (.row a)],λ x=>fn x.1⟩):=by
 refine⟨C,λ Γ σ w u t r A g h=>?_⟩;unfold sgP at h;split at h<;>try cases h
 next x f=>split at h<;>cases h;next E m=>obtain⟨z,rfl,f⟩:=qmP f;let⟨n,_⟩:=x;obtain⟨p,d,rfl⟩:=q _ _ m;obtain⟨n,rfl⟩:=ZO p;have d:n<=most:=Int.ofNat_le.1 d;obtain⟨y1,y,rfl,k,f⟩:=xN f;obtain⟨rfl,s,o⟩:=vk f;obtain⟨u0,G,rfl,c,g⟩:=g.uncons;obtain⟨u1,F,rfl,b,g⟩:=g.uncons;have:=g.nil_inv;subst this;have c:=ch c;subst c;have b:=ch (xF k b);subst b;exact JL (a:=a) (l:=[]) (xs:=[]) A (cJ s.symm) (cJ o.symm) (λ i e j x D=>by cases D) (B w n d)
end
end Go.AmZ
namespace Go.Proofs.YtinbdcelmgfniaaGreatDoor
open Go.RowKit Go.GxZ Go.BigFrame
theorem WE:(Tryz.prog.info? 157).map (λ i=>(i.zero,i.size,i.bytes))=some (some (.agg #[.int .i64 0,.string ⟨#[]⟩,.int .i64 0,.slice none 0 0,.int .i64 0]),5,64):=by kernel_rfl
theorem qms(w:ao):(sizeOf 157).run Tryz.prog w = .ok 5 w:=by kernel_rfl
theorem He:(Tryz.prog.info? 157).map (·.size)=some 5:=by kernel_rfl
set_option maxHeartbeats 4000000 in
set_option maxRecDepth 100000 in
theorem insert_endPow(w:ao)(p:Option Addr)(n c:Nat)(ad:Addr)(f:Nat)(b:ah)(w':ao)(i:n<=100000)(d:(Builtin.append_ #[134,134] 134 #[.slice p n c,.slice (some ad) 1 f]).run Tryz.prog w = .ok b w') :
  Calls Tryz.prog 225 #[.slice p n c,.int .i64 n,.slice (some ad) 1 f] w λ e g=>e = .returned b/\g=w':=by
 have h:=Lib.hid d;clear d
 go_enter Tryz.func225,Tryz.ntmps225
 go_wp2_with (at_builtin;refine Lib.wpList_append_run _ rfl _ _ _ _ rfl _ _ rfl rfl _ _ h.out ?_)
 all_goals
  go_ret
  first
   | exact⟨rfl,rfl⟩
   | (have a:c=n:=by assumption
      subst a;exact⟨rfl,rfl⟩)
set_option maxHeartbeats 4000000 in
set_option maxRecDepth 100000 in
theorem insert_roomPow (w:ao) (g n c i:Nat) (et:aO) (cur:Array ah) (xs:List ah) (hbk:Blk w g et cur) (hcs:c*5<=cur.size) (hx:cur.toList.take (n*5)=xs) (hone:∀u∈xs,u.oneCell'=true)
  (g2 o2 c2:Nat) (ys:List ah) (hy:ys.length=5) (hys:∀j u,ys[j]?=some u->w.cell? ⟨g2,o2+j,none⟩=some u) (h1:∀u∈ys,u.oneCell'=true) (hne:g2≠g) (hn:n<=100000) (hi:i<n) (hroom:n+1<=c):
  Calls Tryz.prog 225 #[.slice (some ⟨g,0,none⟩) n c,.int .i64 i,.slice (some ⟨g2,o2,none⟩) 1 c2] w (sr 5 w g cur.size (n+1) (xs.take (i*5)++ys++xs.drop (i*5))):=by
 have hlc:cur.toList.length=cur.size:=by simp
 have hnc:(n+1)*5<=c*5:=cj _ hroom;have hik:(i+1)*5<=n*5:=cj _ hi;have hxl:xs.length=n*5:=by rw [<-hx,bD];omega
 obtain ⟨tA,kA,hsA,hkA⟩:∃t k,w.shape? g2=some (t,k)/\k≠0:=by
  cases hy0:ys[0]? with
  |none=>rw [wb]at hy0;omega
  |some u=>exact qiD (a:=⟨g2,o2+0,none⟩) rfl (hys 0 u hy0)
 have hov:∀lb cb,(callFunc 239 #[.slice (some ⟨g2,o2,none⟩) 1 c2,.slice (some ⟨g,(i+1)*5,none⟩) lb cb]).run Tryz.prog w=.ok (.value (.bool false)) w:=λ lb cb=>by
  rw [run_callFunc_extern Tryz.func239 (by kernel_rfl) (by kernel_rfl) (by kernel_rfl) (e:=Extern.SlicesOverlaps.overlaps #[134,134] #[4]) (by kernel_rfl),
   qdE w 134 4 157 Tryz.underlying134 5 qms ⟨g2,o2,none⟩ ⟨g,(i+1)*5,none⟩ 1 c2 lb cb hne tA et kA cur.size
    hsA hkA (by unfold Blk at hbk;simp [World.shape?,hbk]) (hbk.free _) (hbk.free _)]
  rfl
 have hin:((i:Int)==(n:Int))=false:=by simp;omega
 have hb1:¬ (c=i+1):=by omega
 have hb2:¬ (c=i):=by omega
 have hlen1:(xs.drop (i*5)).length=n*5-i*5:=by rw [je,hxl]
 have HD1:Hid ((xs.drop (i*5)).length=Nat.min (n+1-i) (n-i)*5):=by
  have hm:Nat.min (n+1-i) (n-i)=n-i:=Nat.min_eq_right (by omega);show _=_;rw [hlen1,hm,Pe]
 have HS1:Hid (∀(j:Nat) (v:ah),(xs.drop (i*5))[j]?=some v->w.drew.cell? ((⟨g,i*5,none⟩:Addr).add j)=some v):=λ j v hj=>by
  have e1:(⟨g,i*5,none⟩:Addr).add j=⟨g,i*5+j,none⟩:=by unfold Addr.add;split<;>simp_all
  rw [e1];show w.cell? _=_;rw [hbk.cell,<-jh];rw [mG,<-hx,eX]at hj;split at hj
  .exact hj
  .cases hj
 have HF1:Hid ((i+1)*5+(xs.drop (i*5)).length<=cur.size):=by show _<=_;rw [hlen1];omega
 have HO1:Hid (∀v∈xs.drop (i*5),v.oneCell'=true):=λ v hv=>hone v (iP hv);have hBK1:Hid (Blk w.drew g et cur):=hbk;obtain ⟨c1,hc1⟩:∃c1,c1=cur.toList.take ((i+1)*5)++xs.drop (i*5)++cur.toList.drop ((i+1)*5+(xs.drop (i*5)).length):=⟨_,rfl⟩
 obtain ⟨k1,k2,k3⟩:=qlE 5 cur.toList xs ys i n hx (by rw [hlc];omega) (by omega) hy c1 (by rw [hc1,kL]);have HC1:=Lib.hid hc1;have K1:=Lib.hid k1;have K2:=Lib.hid k2;have K3:=Lib.hid k3;have HLC:=Lib.hid hlc;have HY:=Lib.hid hy
 have HY1:Hid (ys.length=Nat.min 1 (n+1-i)*5):=by
  have hm:Nat.min 1 (n+1-i)=1:=kP (by omega);show _=_;rw [hy,hm]
 have HF2:Hid (i*5+ys.length<=c1.toArray.size):=by show _<=_;rw [hy];simp only [kN];rw [k1,hlc];omega
 have HYS:=Lib.hid hys;have HCS:=Lib.hid hcs;have H1:=Lib.hid h1;have HNE:=Lib.hid hne;have HNC:=Lib.hid hnc;have hlt:=lt_of_block hbk;have hov':=hov;clear hxl hlc hov hx hone hcs hbk hys hy h1 hne hlen1 hc1 k1 k2 k3 hsA hkA hnc hik;have HOV:=Lib.hid hov'
 go_enter Tryz.func225,Tryz.ntmps225
 go_upto_region 15 with (simp only [hov'])
 clear hov';have hw1:IntKind.i64.wrap ((i:Int)+1)=(i:Int)+1:=IntWalk.i64_in _ (by omega);have hw2:(0:Int)<=(i:Int)+1:=by omega
 have hw3:((i:Int)+1).toNat=i+1:=by omega
 have hw4:(i:Int)+1<=(n:Int)+1:=by omega
 have hw5:(i:Int)<=(n:Int)+1:=by omega
 go_region_law (refine SO rfl (.tmp 73) (.tmp 76) 134 134 rfl 157 5 Tryz.underlying134 He g ((i+1)*5) (n-i) (c-(i+1)) ⟨g,i*5,none⟩ (n+1-i) (c-i) (by simp [Act.eval,Act.put]) (by simp [Act.eval,Act.put]) cur et hBK1.out (xs.drop (i*5)) HD1.out HS1.out HF1.out HO1.out ?_;intro w4 hw4;have HW4:=Lib.hid hw4;clear hw4)
 all_goals
  have HW5:Hid (sF w.drew w4 g et c1):=by show sF _ _ _ _ _;rw [HC1.out];exact HW4.out
  have HB4:Hid (Blk w4 g et c1.toArray):=HW5.out.blk
  have HSY:Hid (∀(j:Nat) (v:ah),ys[j]?=some v->w4.cell? ((⟨g2,o2,none⟩:Addr).add j)=some v):=λ j v hj=>by
   have e1:(⟨g2,o2,none⟩:Addr).add j=⟨g2,o2+j,none⟩:=by unfold Addr.add;split<;>simp_all
   rw [e1,show w4.cell? _=w.cell? _ from World.cell?_of_block (HW5.out.other g2 HNE.out)];exact HYS.out j v hj
  clear hw1 hw2 hw3 hw4 HW4
  obtain ⟨w6,hcp,hw6⟩:∃w6,(∀ty,(Builtin.copy_ #[134,134] ty #[.slice (some ⟨g,i*5,none⟩) (n+1-i) (c-i),.slice (some ⟨g2,o2,none⟩) 1 c2]).run Tryz.prog w4=.ok (goInt (Nat.min 1 (n+1-i))) w6)/\sF w4 w6 g et (c1.toArray.toList.take (i*5)++ys++c1.toArray.toList.drop (i*5+ys.length)):=
   ⟨_,λ ty=>Kb w4 134 134 ty 157 5 g (i*5) (n+1-i) (c-i) ⟨g2,o2,none⟩ 1 c2 c1.toArray et ys Tryz.underlying134 He HB4.out HY1.out HSY.out HF2.out H1.out,Ee HB4.out _⟩
  have HW6:=Lib.hid hw6;clear hw6
  go_wp2_with (simp only [hcp])
  go_ret
  have h6:=HW6.out;have h5:=HW5.out;have hblk:=h6.blk;have k2:=K2.out;have hlc:=HLC.out;refine ⟨g,c,_,et,rfl,hblk,hroom,?_,?_,.inl ⟨rfl,?_⟩,h6.os.trans h5.os,h6.tape.trans h5.tape,h6.output.trans h5.output,?_,?_,λ k _ hk=>(h6.other k hk).trans (h5.other k hk)⟩
  .rw [kN];exact bR HCS.out (Bo (by rw [k2,hlc]))
  .rw [kL];exact K3.out.trans (bE _ _ _)
  .rw [kN,k2,hlc]
  .rw [h6.size,h5.size];exact al _
  .rw [h6.drawn,h5.drawn];exact eO _
set_option maxHeartbeats 4000000 in
set_option maxRecDepth 100000 in
theorem insert_growPow (w:ao) (g n i:Nat) (et:aO) (cur:Array ah) (xs:List ah) (hbk:Blk w g et cur) (hcs:n*5<=cur.size) (hx:cur.toList.take (n*5)=xs) (hone:∀u∈xs,u.oneCell'=true)
  (g2 o2 c2:Nat) (ys:List ah) (hy:ys.length=5) (hys:∀j u,ys[j]?=some u->w.cell? ⟨g2,o2+j,none⟩=some u) (h1:∀u∈ys,u.oneCell'=true) (hn:n<=100000) (hi:i<n):
  Calls Tryz.prog 225 #[.slice (some ⟨g,0,none⟩) n n,.int .i64 i,.slice (some ⟨g2,o2,none⟩) 1 c2] w (sr 5 w g cur.size (n+1) (xs.take (i*5)++ys++xs.drop (i*5))):=by
 have hlc:cur.toList.length=cur.size:=by simp
 have hik:(i+1)*5<=n*5:=cj _ hi;have hxl:xs.length=n*5:=by rw [<-hx,bD];omega
 have hg:=lt_of_block hbk
 have hg2:g2<w.heap.size:=by
  cases hy0:ys[0]? with
  |none=>rw [wb]at hy0;omega
  |some u=>
    have:=hys 0 u hy0;unfold World.cell? at this;split at this
    .rename_i hh;exact (dW.1 hh).1
    .cases this
 obtain ⟨i0,hi0,hz0,hz1,hz2⟩:=info_parts WE;have hadd:∀(b o j:Nat),(⟨b,o,none⟩:Addr).add j=⟨b,o+j,none⟩:=λ b o j=>by unfold Addr.add;split<;>simp_all
 have hcx:∀(W:ao),Blk W g et cur->∀(o j:Nat) (v:ah),(xs.drop o)[j]?=some v->W.cell? ((⟨g,o,none⟩:Addr).add j)=some v:=λ W hW o j v hj=>by
  rw [hadd,hW.cell,<-jh];rw [mG,<-hx,eX]at hj;split at hj
  .exact hj
  .cases hj
 have hold:(Builtin.firstCells i0.size i (.slice (some ⟨g,0,none⟩) i n)).run Tryz.prog w.drew=.ok (xs.take (i*5)).toArray w.drew:=by
  rw [hz1];refine run_firstCells_some w.drew 5 i ⟨g,0,none⟩ i n (xs.take (i*5)) (by rw [bD,hxl];omega) λ j v hj=>?_;refine hcx w.drew hbk 0 j v ?_;rw [eX]at hj;split at hj
  .simpa using hj
  .cases hj
 have hk:i+(n+1-i)=n+1:=by omega
 have hG1:n+1<=grownCap w (n+1) n 157:=grownCap_ge w _ _ _;have hG2:grownCap w (n+1) n 157<=maxLen:=grownCap_le_maxLen w _ _ _ (by unfold maxLen;omega)
 obtain ⟨w1,G,new,hr,hb1,hbk1,hnl,hnt,hG3,hG4,hw1s,hw1d⟩:∃(w1:ao) (G:Nat) (new:List ah),(∀ty,(Builtin.append_ #[134,3] ty #[.slice (some ⟨g,0,none⟩) i n,.int .i64 ((n:Int)+1-(i:Int))]).run Tryz.prog w=.ok (.slice (some ⟨w.heap.size,0,none⟩) (n+1) G) w1)/\
   Below w.heap.size w w1/\Blk w1 w.heap.size 157 new.toArray/\new.length=G*5/\new.take (i*5)=xs.take (i*5)/\n+1<=G/\G<=maxLen/\w.heap.size<w1.heap.size/\w.drawn<=w1.drawn:=by
  have hr:∀ty,_:=λ ty=>Lib.run_append_grow_zeros w 134 3 ty 157 i0 _ .i64 .i64 Tryz.underlying134 Tryz.underlying3 hi0 hz0 (some ⟨g,0,none⟩) i n (xs.take (i*5)) hold (n+1-i) (by omega) (by rw [hz1];decide) (by omega) (by omega) (by rw [hz2];omega) (by rw [hk,hz2];exact growslice_fits (by omega) (by omega));rw [hk]at hr;obtain ⟨NEW,hNEW⟩:∃N:Array ah,N=(xs.take (i*5)).toArray++Builtin.zeroCells (Value.cells (.agg #[.int .i64 0,.string ⟨#[]⟩,.int .i64 0,.slice none 0 0,.int .i64 0])) (n+1-i)++Builtin.zeroCells (Value.cells (.agg #[.int .i64 0,.string ⟨#[]⟩,.int .i64 0,.slice none 0 0,.int .i64 0])) (grownCap w (n+1) n 157-(n+1)):=⟨_,rfl⟩
  rw [<-hNEW]at hr;refine ⟨w.drew.alloc (.cells NEW 157),grownCap w (n+1) n 157,NEW.toList,λ ty=>?_,?_,?_,?_,?_,hG1,hG2,?_,eO _⟩
  .rw [show (n:Int)+1-(i:Int)=((n+1-i:Nat):Int) by omega];exact hr ty
  .exact ((Below.refl _ _).drew).alloc (al _) _
  .rw [O0];exact heap_alloc_new w.drew _
  .rw [jg,hNEW,H7,H7,size_zeroCells,size_zeroCells,show (Value.cells (.agg #[.int .i64 0,.string ⟨#[]⟩,.int .i64 0,.slice none 0 0,.int .i64 0])).size=5 from rfl,kN,bD,hxl];have:i*5+(n+1-i)*5+(grownCap w (n+1) n 157-(n+1))*5=grownCap w (n+1) n 157*5:=by rw [<-dD,<-dD];congr 1;omega
   omega
  .rw [hNEW,yv,yv,bE,yx (by simp [hxl];omega),Bq];congr 1;omega
  .simp
 have hgb:∀k,k<w.heap.size->w1.heap[k]?=w.heap[k]?:=hb1.block;have hbkg1:Blk w1 g et cur:=hbk.same (hgb g hg);have hGn:(n+1)*5<=G*5:=cj _ hG3;have hm1:Nat.min 1 (n+1-i)=1:=kP (by omega);obtain ⟨c1,hc1⟩:∃c1,c1=new.take (i*5)++ys++new.drop (i*5+ys.length):=⟨_,rfl⟩
 obtain ⟨k1,k2,k3⟩:=qnj 5 new xs ys i n hnt hxl (by omega) (by omega) hy c1 hc1
 obtain ⟨w3,hcp,hw3⟩:∃w3,(∀ty,(Builtin.copy_ #[134,134] ty #[.slice (some ⟨w.heap.size,i*5,none⟩) (n+1-i) (G-i),.slice (some ⟨g2,o2,none⟩) 1 c2]).run Tryz.prog w1=.ok (goInt (Nat.min 1 (n+1-i))) w3)/\sF w1 w3 w.heap.size 157 c1:=
  ⟨_,λ ty=>Kb w1 134 134 ty 157 5 w.heap.size (i*5) (n+1-i) (G-i) ⟨g2,o2,none⟩ 1 c2 new.toArray 157 ys Tryz.underlying134 He hbk1 (by rw [hm1];omega) (λ j v hj=>by rw [hadd,show w1.cell? _=w.cell? _ from World.cell?_of_block (hgb g2 hg2)];exact hys j v hj) (by rw [kN];omega) h1,by rw [hc1];exact Ee hbk1 _⟩
 have hbkg3:Blk w3 g et cur:=hbkg1.same (hw3.other g (by omega));have hmm:Nat.min (n-i) (n-i)=n-i:=kP (al _);have HD1:Hid ((xs.drop (i*5)).length=Nat.min (n-i) (n-i)*5):=by show _=_;rw [je,hxl,hmm,Pe]
 have HS1:Hid (∀(j:Nat) (v:ah),(xs.drop (i*5))[j]?=some v->w3.drew.cell? ((⟨g,i*5,none⟩:Addr).add j)=some v):=hcx w3.drew hbkg3 (i*5);have HF1:Hid ((i+1)*5+(xs.drop (i*5)).length<=c1.toArray.size):=by show _<=_;rw [je,hxl,kN,k1,hnl];omega
 have HO1:Hid (∀v∈xs.drop (i*5),v.oneCell'=true):=λ v hv=>hone v (iP hv);have hBK1:Hid (Blk w3.drew w.heap.size 157 c1.toArray):=hw3.blk;have HW3:=Lib.hid hw3;have HB1:=Lib.hid hb1;have K2:Hid ((c1.take ((i+1)*5)++xs.drop (i*5)++c1.drop ((i+1)*5+(xs.drop (i*5)).length)).length=G*5):=by show _=_;rw [kL];exact k2.trans hnl
 have K3:Hid ((c1.take ((i+1)*5)++xs.drop (i*5)++c1.drop ((i+1)*5+(xs.drop (i*5)).length)).take ((n+1)*5)=xs.take (i*5)++ys++xs.drop (i*5)):=by show _=_;rw [kL,kL];exact k3
 have HG4:=Lib.hid hG4;have HR:=Lib.hid hr;have HCP:=Lib.hid hcp;have hin:((i:Int)==(n:Int))=false:=by simp;omega
 have hb0:¬ (n=i):=by omega
 have hb2:¬ (G=i):=by omega
 have hb3:¬ (G=i+1):=by omega
 have hg63:(G:Int)<=9223372036854775807:=by unfold maxLen at hG4;omega
 clear hlc hxl hi0 hz0 hz1 hz2 hadd hcx hold hk hG1 hG2 hr hb1 hbk1 hnl hnt hG4 hgb hbkg1 hm1 hc1 k1 k2 k3 hcp hw3 hbkg3 hmm hbk hcs hx hone hy hys h1 hik hGn
 go_enter Tryz.func225,Tryz.ntmps225
 go_upto_region 10 with (at_builtin;refine Lib.wpList_append_run _ rfl _ _ _ _ rfl _ _ rfl rfl _ _ (HR.out _) ?_)
 have hcp:=HCP.out
 go_upto_region 11 with (simp only [hcp])
 clear hcp;have hw1:IntKind.i64.wrap ((i:Int)+1)=(i:Int)+1:=IntWalk.i64_in _ (by omega);have hw2:(0:Int)<=(i:Int)+1:=by omega
 have hw3:((i:Int)+1).toNat=i+1:=by omega
 have hw4:(i:Int)+1<=(n:Int)+1:=by omega
 have hw5:(i:Int)<=(n:Int):=by omega
 go_region_law (refine SO rfl (.tmp 50) (.tmp 53) 134 134 rfl 157 5 Tryz.underlying134 He w.heap.size ((i+1)*5) (n-i) (G-(i+1)) ⟨g,i*5,none⟩ (n-i) (n-i) (by simp [Act.eval,Act.put]) (by simp [Act.eval,Act.put]) c1.toArray 157 hBK1.out (xs.drop (i*5)) HD1.out HS1.out HF1.out HO1.out ?_;intro w6 hw6;have HW6:=Lib.hid hw6;clear hw6)
 all_goals
  clear hw1 hw2 hw3 hw4
  go_wp2_with fail
  go_ret
  have h6:=HW6.out;have h5:=HW3.out;have h0:=HB1.out;have hblk:=h6.blk;have k3:=K3.out;have k2:=K2.out;refine ⟨w.heap.size,G,_,_,rfl,hblk,hG3,?_,k3.trans (bE _ _ _),.inr (al _),h6.os.trans (h5.os.trans h0.os),h6.tape.trans (h5.tape.trans h0.tape),h6.output.trans (h5.output.trans h0.output),?_,?_,λ k hkl _=>?_⟩
  .rw [kN];exact Bo k2.symm
  .rw [h6.size];show w.heap.size<=w3.heap.size;rw [h5.size];exact h0.size
  .rw [h6.drawn];show w.drawn<=w3.drawn+1;rw [h5.drawn];exact Nat.le_succ_of_le hw1d
  .exact (h6.other k (by omega)).trans ((h5.other k (by omega)).trans (h0.block k hkl))
theorem qmt(w:ao):(zeroValue 157).run Tryz.prog w = .ok (.agg #[.int .i64 0,.string ⟨#[]⟩,.int .i64 0,.slice none 0 0,.int .i64 0]) w:=by kernel_rfl
theorem qg2:(Builtin.zeroCells (Value.cells (.agg #[.int .i64 0,.string ⟨#[]⟩,.int .i64 0,.slice none 0 0,.int .i64 0])) 1).toList=(Value.cells (.agg #[.int .i64 0,.string ⟨#[]⟩,.int .i64 0,.slice none 0 0,.int .i64 0])).toList:=by kernel_rfl
theorem qhB:∀ v∈(Builtin.zeroCells (Value.cells (.agg #[.int .i64 0,.string ⟨#[]⟩,.int .i64 0,.slice none 0 0,.int .i64 0])) 1).toList,v.oneCell'=true:=by
 rw[qg2];decide
set_option maxHeartbeats 4000000 in
set_option maxRecDepth 100000 in
theorem delete_onePow (w:ao) (g m c i:Nat) (et:aO) (cur:Array ah) (xs:List ah) (hbk:Blk w g et cur) (hcs:c*5<=cur.size) (hx:cur.toList.take ((m+1)*5)=xs) (hone:∀u∈xs,u.oneCell'=true)
  (hn:m<=100000) (hi:i<=m) (hroom:m+1<=c):
  Calls Tryz.prog 226 #[.slice (some ⟨g,0,none⟩) (m+1) c,.int .i64 i,.int .i64 ((i:Int)+1)] w (sr 5 w g cur.size m (xs.take (i*5)++xs.drop ((i+1)*5))):=by
 have hlc:cur.toList.length=cur.size:=by simp
 have hmc:(m+1)*5<=c*5:=cj _ hroom;have him:i*5<=m*5:=cj _ hi;have hxl:xs.length=(m+1)*5:=by rw [<-hx,bD,hlc];omega
 have hadd:∀(b o j:Nat),(⟨b,o,none⟩:Addr).add j=⟨b,o+j,none⟩:=λ b o j=>by unfold Addr.add;split<;>simp_all
 have hcell:∀(o j:Nat) (v:ah),(xs.drop o)[j]?=some v->w.drew.cell? ⟨g,o+j,none⟩=some v:=λ o j v hj=>by
  show w.cell? _=_;rw [hbk.cell,<-jh];rw [mG,<-hx,eX]at hj;split at hj
  .exact hj
  .cases hj
 obtain ⟨i0,hi0,hz0,hz1,hz2⟩:=info_parts WE;have hdl:(xs.drop ((i+1)*5)).length=(m-i)*5:=by rw [je,hxl,<-Pe];congr 1;omega
 have hdl':(m-i)*5=m*5-i*5:=Pe ..
 obtain ⟨A,hA,HN⟩:∃A:Addr,(if c=i+1 then some (⟨g,0,none⟩:Addr)else some ⟨g,(i+1)*5,none⟩)=some A/\Hid (∀j u,(xs.drop ((i+1)*5))[j]?=some u->w.drew.cell? (A.add j)=some u):=by
  by_cases h:c=i+1
  .refine ⟨_,ag h,λ j u hj=>?_⟩;have:=(dV.1 hj).1;rw [hdl]at this;have:m-i=0:=by omega
   simp [this]at*
  .exact ⟨_,af h,λ j u hj=>by rw [hadd];exact hcell _ j u hj⟩
 have HDL:=Lib.hid hdl;have HO1:Hid (∀u∈xs.drop ((i+1)*5),u.oneCell'=true):=λ v hv=>hone v (iP hv)
 have HSP:Hid (∀j,j<(xs.drop ((i+1)*5)).length->(w.drew.cell? ⟨g,0+i*5+j,none⟩).isSome=true/\w.drew.frozen? ⟨g,0+i*5+j,none⟩=false):=λ j hj=>by
  rw [hdl]at hj;refine ⟨?_,hbk.free _⟩;show (w.cell? _).isSome=true;rw [hbk.cell,gi (by omega)];rfl
 have hBKd:Blk w.drew g et cur:=hbk;have hw0:=QK g et (xs.drop ((i+1)*5)) (0+i*5) w.drew cur hBKd (by rw [hdl];omega);obtain ⟨w2,hw2⟩:∃w2,w2=w.drew.setCells g (0+i*5) (xs.drop ((i+1)*5)):=⟨_,rfl⟩
 rw [<-hw2]at hw0;obtain ⟨c1,hc1⟩:∃c1,c1=cur.toList.take (0+i*5)++xs.drop ((i+1)*5)++cur.toList.drop (0+i*5+(xs.drop ((i+1)*5)).length):=⟨_,rfl⟩
 rw [<-hc1]at hw0;have hl1:c1.length=cur.size:=by rw [hc1];simp only [aU,bD,je,hlc,hdl];simp only [je]at hdl;omega
 have ht1:c1.take (m*5)=xs.take (i*5)++xs.drop ((i+1)*5):=by
  have e1:cur.toList.take (0+i*5)=xs.take (i*5):=by rw [<-hx,Bq];congr 1;omega
  rw [hc1,e1,yx (by simp only [aU,bD,hdl,hxl];omega),tn (by simp only [aU,bD,hdl,hxl];omega)]
 have hzl:(Builtin.zeroCells (Value.cells (.agg #[.int .i64 0,.string ⟨#[]⟩,.int .i64 0,.slice none 0 0,.int .i64 0])) 1).toList.length=5:=by rw [jg,size_zeroCells];rfl
 obtain ⟨w3,hcl,hw3⟩:∃w3,(∀ty,(Builtin.clear_ #[134] ty #[.slice (some ⟨g,m*5,none⟩) 1 (c-m)]).run Tryz.prog w2=.ok (.tuple #[]) w3)/\sF w2 w3 g et (c1.toArray.toList.take (m*5)++(Builtin.zeroCells (Value.cells (.agg #[.int .i64 0,.string ⟨#[]⟩,.int .i64 0,.slice none 0 0,.int .i64 0])) 1).toList++c1.toArray.toList.drop (m*5+(Builtin.zeroCells (Value.cells (.agg #[.int .i64 0,.string ⟨#[]⟩,.int .i64 0,.slice none 0 0,.int .i64 0])) 1).toList.length)):=
  ⟨_,λ ty=>Sv w2 134 157 ty _ Tryz.underlying134 qmt g (m*5) 1 (c-m) (by omega) c1.toArray et hw0.blk (by
   show m*5+1*5<=c1.toArray.size;rw [kN,hl1];omega) qhB,Ee hw0.blk _⟩
 have HW0:=Lib.hid hw0;have HW2:=Lib.hid hw2;have HW3:=Lib.hid hw3;have HCL:=Lib.hid hcl;have HT1:=Lib.hid ht1;have HL1:=Lib.hid hl1;have HZL:=Lib.hid hzl;have HI:=Lib.hid hi0;have HZ1:=Lib.hid hz1;have HCS:=Lib.hid hcs;have HMC:=Lib.hid hmc;have hlt:=lt_of_block hbk;have hc1:¬ (m+1=i):=by omega
 have hc2:¬ (c=m):=by omega
 have hf1:((i:Int)==(i:Int)+1)=false:=by simp;omega
 have hrm:i+(m-i)<=c:=by omega
 have hmi:i+(m-i)=m:=by omega
 have HRM:=Lib.hid hrm;have HMI:=Lib.hid hmi;clear hlc hxl hadd hcell hi0 hz0 hz1 hz2 hdl hBKd hw0 hw2 hl1 ht1 hzl hcl hw3 hcs hx hone hbk hrm hmi hmc him hdl';have hw1:((i:Int)+1).toNat=i+1:=by omega
 have hw4:(i:Int)+1<=(m:Int)+1:=by omega
 have hw5:(i:Int)<=(m:Int)+1:=by omega
 have hw6:(0:Int)<=(i:Int)+1:=by omega
 have hic:i<=c:=by omega
 go_enter Tryz.func226,Tryz.ntmps226
 go_upto_region 5 with (fail)
 go_region_law (refine step_append_room rfl (.tmp 22) (.tmp 25) 134 rfl 157 i0 5 Tryz.underlying134 HI.out HZ1.out g 0 i c (by simp [Act.eval,Act.put]) A (m-i) (c-(i+1)) (xs.drop ((i+1)*5)) (by simp [Act.eval,Act.put]) HDL.out HN.out HO1.out HRM.out HSP.out ?_;rw [<-HW2.out,HMI.out])
 all_goals
  clear hw1 hw4 hw5 hw6 hA;have hcl:=HCL.out
  go_wp2_with (simp only [hcl])
  go_ret
  have h3:=HW3.out;have h0:=HW0.out;have hblk:=h3.blk;have hl1:=HL1.out;have hzl:=HZL.out;have hmc:=HMC.out;have hcs:=HCS.out
  have hsz:(c1.toArray.toList.take (m*5)++(Builtin.zeroCells (Value.cells (.agg #[.int .i64 0,.string ⟨#[]⟩,.int .i64 0,.slice none 0 0,.int .i64 0])) 1).toList++c1.toArray.toList.drop (m*5+(Builtin.zeroCells (Value.cells (.agg #[.int .i64 0,.string ⟨#[]⟩,.int .i64 0,.slice none 0 0,.int .i64 0])) 1).toList.length)).length=cur.size:=by
   show (c1.take (m*5)++_++c1.drop (m*5+_)).length=_;simp only [aU,bD,je,hl1,hzl];omega
  refine ⟨g,c,_,et,rfl,hblk,by omega,?_,?_,.inl ⟨rfl,?_⟩,h3.os.trans h0.os,h3.tape.trans h0.tape,h3.output.trans h0.output,?_,?_,λ k _ hk=>(h3.other k hk).trans (h0.other k hk)⟩
  .rw [kN,hsz];exact hcs
  .show (c1.take (m*5)++_++c1.drop (m*5+_)).take (m*5)=_;rw [bE,yx (by rw [bD,hl1];omega),Bq,Nat.min_self];exact HT1.out
  .rw [kN,hsz]
  .rw [h3.size,h0.size];exact al _
  .rw [h3.drawn,h0.drawn];exact eO _
end Go.Proofs.YtinbdcelmgfniaaGreatDoor
namespace Go.Proofs.YtinbdcelmgfniaaGreatDoor
open Go.RowKit Go.GxZ Go.BigFrame
def WV:(Tryz.prog.info? 25).map (λ i=>(i.zero,i.size,i.bytes))=Z (Z (.agg #[.int .i64 0,.string ⟨#[]⟩,.int .i64 0,.slice U 0 0]),4,56):=by kernel_rfl
set_option maxHeartbeats 4000000 in
set_option maxRecDepth 100000 in
theorem clone_anyTrm(w:ao)(p:Option Addr)(n c:Nat)(xs:List ah)(hxl:xs.length=n*4)(hc:n=0\/∃ ad,p=some ad/\∀ j u,xs[j]?=some u->w.cell? (ad.add j)=some u)(h1:∀ u∈xs,u.oneCell'=true)(hn:n<=100000000) :
  Calls Tryz.prog 23 #[.slice p n c] w λ e w'=>∃ v,e = .returned v/\AmZ.Fresh w 4 n xs v w':=by
 cases p with
 | none =>
   have hn0:n=0:=by
    rcases hc with h | ⟨ad,h,_⟩
    ·exact h
    ·cases h
   subst hn0;clear hc h1 hxl;have he:∀ w,(binOp .eql 23 (.slice none 0 c) (.slice none 0 0)).run Tryz.prog w = .ok (.bool true) w := λ w=>by rw[Lib.run_eql_slice_nil w 23 25 none 0 c 0 0 Tryz.underlying23];rfl
   go_enter Tryz.func23,Tryz.ntmps23
   go_wp2_with fail
   go_ret
   exact⟨_,rfl,Below.refl _ _,al _,.inl ⟨rfl,_,rfl⟩⟩
 | some ad =>
   obtain⟨i0,hi0,hz0,hz1,hz2⟩:=info_parts WV;have hb:Below w.heap.size w (w.alloc (.cells #[] 25)):=(Below.refl _ _).alloc (al _) _;by_cases hn0:n=0
   ·subst hn0;have hr:∀ ty,(Builtin.append_ #[23,23] ty #[.slice (some ⟨w.heap.size,0,none⟩) 0 0,.slice (some ad) 0 c]).run Tryz.prog (w.alloc (.cells #[] 25)) = .ok (.slice (some ⟨w.heap.size,0,none⟩) 0 0) (w.alloc (.cells #[] 25)) := λ ty=>run_append_nothing _ 23 23 ty 25 _ Tryz.underlying23 hi0 (some ⟨w.heap.size,0,none⟩) 0 0 (al _) _ (Src.ofSlice _ Tryz.underlying23 ad 0 c [] (by simp) (λ _ _ h=>by simp at h) (λ _ h=>by simp at h));have HR:=Lib.hid hr;have HB:=Lib.hid hb;clear hr hc h1 hxl hb hi0 hz0 hz1 hz2;have he:∀ w,(binOp .eql 23 (.slice (some ad) 0 c) (.slice none 0 0)).run Tryz.prog w = .ok (.bool false) w := λ w=>by rw[Lib.run_eql_slice_nil w 23 25 (some ad) 0 c 0 0 Tryz.underlying23];rfl
    go_enter Tryz.func23,Tryz.ntmps23
    go_wp2_with (at_builtin;refine Lib.wpList_append_run _ rfl _ _ _ _ rfl _ _ rfl rfl _ _ (HR.out _) ?_)
    go_ret
    exact⟨_,rfl,HB.out,al _,.inl ⟨rfl,_,rfl⟩⟩
   ·have hcell:∀ j u,xs[j]?=some u->(w.alloc (.cells #[] 25)).cell? (ad.add j)=some u := λ j u hj=>by
      rcases hc with h | ⟨ad',h,hh⟩
      ·exact absurd h hn0
      ·cases h;have h2:=hh j u hj
       have hlt:(ad.add j).block<w.heap.size:=by
        unfold World.cell? at h2;split at h2
        ·rename_i h3;exact(dW.1 h3).1
        ·cases h2
       rw[show(w.alloc (.cells #[] 25)).cell? _=w.cell? _ from World.cell?_of_block (hb.block _ hlt)];exact h2
    have hgr:∀ ty,∃ g cap' cur w',(Builtin.append_ #[23,23] ty #[.slice (some ⟨w.heap.size,0,none⟩) 0 0,.slice (some ad) n c]).run Tryz.prog (w.alloc (.cells #[] 25)) = .ok (.slice (some ⟨g,0,none⟩) (0+n) cap') w'/\Below (w.alloc (.cells #[] 25)).heap.size (w.alloc (.cells #[] 25)) w'/\(w.alloc (.cells #[] 25)).heap.size<=g/\w'.heap[g]?=some (.cells cur 25 (0,0))/\0+n<=cap'/\cur.size=cap'*4/\cur.toList.take ((0+n)*4)=[]++xs/\(w.alloc (.cells #[] 25)).drawn<=w'.drawn :=
     λ ty=>AmZ.grow_any (P:=Tryz.prog) (w:=w.alloc (.cells #[] 25)) (ty:=ty) Tryz.underlying23 hi0 hz0 hz1 hz2 rfl (some ⟨w.heap.size,0,none⟩) 0 0 (λ h=>by cases h) [] (by simp) (λ _ _ j u h=>by simp at h) _ n xs (Src.ofSlice _ Tryz.underlying23 ad n c xs hxl hcell h1) (by omega) (by unfold maxLen;omega) (by omega)
    obtain⟨g,cap',cur,w',g1,g2,g3,g4,g5,g6,g7,g8⟩:=hgr 23;rw[cI]at g1 g5 g7;rw[fS]at g7;have HR:=Lib.hid g1;have hsz:w.heap.size<=(w.alloc (.cells #[] 25)).heap.size:=hb.size
    have HF:Hid (AmZ.Fresh w 4 n xs (.slice (some ⟨g,0,none⟩) n cap') w'):=by
     refine⟨hb.trans (g2.mono hsz),g8,.inr ⟨g,cap',cur,_,rfl,bR hsz g3,g4,g5,Bo g6.symm,λ j u hj=>?_⟩⟩;rw[<- g7,eX]at hj;split at hj
     ·rw[<- jh];exact hj
     ·cases hj
    clear hb hcell hgr g1 g2 g3 g4 g5 g6 g7 hsz hc h1 hxl hi0 hz0 hz1 hz2;have he:∀ w,(binOp .eql 23 (.slice (some ad) n c) (.slice none 0 0)).run Tryz.prog w = .ok (.bool false) w := λ w=>by rw[Lib.run_eql_slice_nil w 23 25 (some ad) n c 0 0 Tryz.underlying23];rfl
    go_enter Tryz.func23,Tryz.ntmps23
    go_wp2_with (at_builtin;refine Lib.wpList_append_run _ rfl _ _ _ _ rfl _ _ rfl rfl _ _ HR.out ?_)
    go_ret
    exact⟨_,rfl,HF.out⟩
set_option maxHeartbeats 4000000 in
set_option maxRecDepth 100000 in
def grow_nilTrm(w:ao)(n:Nat)(z:n<=100000000):
  Calls Tryz.prog 193 #[.slice U 0 0,.int .i64 n] w λ e w'=>∃v,e=.returned v/\AmZ.Fresh w 4 0 [] v w':=by
 by_cases r:n=0
 .subst r;have l:IntKind.i64.wrap ((0:Int)-0)=(0:Int):=IntWalk.i64_in _ (by omega)
  go_enter Tryz.func193,Tryz.ntmps193
  go_wp2_with fail
  go_ret
  exact⟨_,rfl,Below.refl _ _,al _,.inl ⟨rfl,_,rfl⟩⟩
 let⟨o,h,f,d,c⟩:=info_parts WV;have b:(Builtin.firstCells o.size 0 (.slice U 0 0)).run Tryz.prog w.drew=.ok (([]:aa ah)).toArray w.drew:=run_firstCells_none ..;have k:∀ty,_:=λ ty=>Lib.run_append_grow_zeros w 23 3 ty 25 o _ .i64 .i64 Tryz.underlying23 Tryz.underlying3 h f U 0 0 [] b n (by omega) (by rw[d];decide) (by omega) (by omega) (by rw[c];omega) (by rw[cI,c];exact growslice_fits (by omega) (by omega));rw[cI]at k;obtain⟨i,a⟩:∃N:aM ah,N=([]:aa ah).toArray++Builtin.zeroCells (Value.cells (.agg #[.int .i64 0,.string ⟨#[]⟩,.int .i64 0,.slice U 0 0])) n++Builtin.zeroCells (Value.cells (.agg #[.int .i64 0,.string ⟨#[]⟩,.int .i64 0,.slice U 0 0])) (grownCap w n 0 25-n):=⟨_,rfl⟩
 rw[<-a]at k;have m:n<=grownCap w n 0 25:=grownCap_ge w _ _ _
 have g:grownCap w n 0 25*4<=i.size:=by
  rw[a,H7,H7,size_zeroCells,size_zeroCells,show(Value.cells (.agg #[.int .i64 0,.string ⟨#[]⟩,.int .i64 0,.slice U 0 0])).size=4 from rfl,kN,fE];have:n*4+(grownCap w n 0 25-n)*4=grownCap w n 0 25*4:=by rw[<-dD];congr 1;omega
  omega
 have y:=Lib.hid k;have x:=Lib.hid g;have l:IntKind.i64.wrap ((0:Int)-0)=(0:Int):=IntWalk.i64_in _ (by omega);have q:IntKind.i64.wrap ((n:Int)-0)=(n:Int):=by rw[IntWalk.i64_in _ (by omega)];omega
 have p:(0:Int)<(n:Int):=by omega
 generalize t:grownCap w n 0 25=G at *;clear b k a g h f d c t m
 go_enter Tryz.func193,Tryz.ntmps193
 go_wp2_with (at_builtin;refine Lib.wpList_append_run _ rfl _ _ _ _ rfl _ _ rfl rfl _ _ (y.out _) ?_)
 all_goals
  go_ret
  exact⟨_,rfl,((Below.refl _ _).alloc (al _) _).drew,eO _,.inr ⟨w.heap.size,G,i,_,rfl,al _,heap_alloc_new w _,aL _,x.out,λ j u s=>by simp at s⟩⟩
end Go.Proofs.YtinbdcelmgfniaaGreatDoor
namespace Go.Proofs.YtinbdcelmgfniaaGreatDoor
open Go.RowKit Go.GxZ Go.BigFrame
def qn3:(Tryz.prog.info? 106).map (λ i=>(i.zero,i.size,i.bytes))=Z (Z (.agg #[.int .i64 0,.string ⟨#[]⟩,.int .i64 0,.slice U 0 0,.int .i64 0,.string ⟨#[]⟩,.int .i64 0,.slice U 0 0]),8,112):=by kernel_rfl
set_option maxHeartbeats 4000000 in
set_option maxRecDepth 100000 in
theorem clone_anyUp(w:ao)(p:Option Addr)(n c:Nat)(xs:List ah)(hxl:xs.length=n*8)(hc:n=0\/∃ ad,p=some ad/\∀ j u,xs[j]?=some u->w.cell? (ad.add j)=some u)(h1:∀ u∈xs,u.oneCell'=true)(hn:n<=100000000) :
  Calls Tryz.prog 188 #[.slice p n c] w λ e w'=>∃ v,e = .returned v/\AmZ.Fresh w 8 n xs v w':=by
 cases p with
 | none =>
   have hn0:n=0:=by
    rcases hc with h | ⟨ad,h,_⟩
    ·exact h
    ·cases h
   subst hn0;clear hc h1 hxl;have he:∀ w,(binOp .eql 107 (.slice none 0 c) (.slice none 0 0)).run Tryz.prog w = .ok (.bool true) w := λ w=>by rw[Lib.run_eql_slice_nil w 107 106 none 0 c 0 0 Tryz.underlying107];rfl
   go_enter Tryz.func188,Tryz.ntmps188
   go_wp2_with fail
   go_ret
   exact⟨_,rfl,Below.refl _ _,al _,.inl ⟨rfl,_,rfl⟩⟩
 | some ad =>
   obtain⟨i0,hi0,hz0,hz1,hz2⟩:=info_parts qn3;have hb:Below w.heap.size w (w.alloc (.cells #[] 106)):=(Below.refl _ _).alloc (al _) _;by_cases hn0:n=0
   ·subst hn0;have hr:∀ ty,(Builtin.append_ #[107,107] ty #[.slice (some ⟨w.heap.size,0,none⟩) 0 0,.slice (some ad) 0 c]).run Tryz.prog (w.alloc (.cells #[] 106)) = .ok (.slice (some ⟨w.heap.size,0,none⟩) 0 0) (w.alloc (.cells #[] 106)) := λ ty=>run_append_nothing _ 107 107 ty 106 _ Tryz.underlying107 hi0 (some ⟨w.heap.size,0,none⟩) 0 0 (al _) _ (Src.ofSlice _ Tryz.underlying107 ad 0 c [] (by simp) (λ _ _ h=>by simp at h) (λ _ h=>by simp at h));have HR:=Lib.hid hr;have HB:=Lib.hid hb;clear hr hc h1 hxl hb hi0 hz0 hz1 hz2;have he:∀ w,(binOp .eql 107 (.slice (some ad) 0 c) (.slice none 0 0)).run Tryz.prog w = .ok (.bool false) w := λ w=>by rw[Lib.run_eql_slice_nil w 107 106 (some ad) 0 c 0 0 Tryz.underlying107];rfl
    go_enter Tryz.func188,Tryz.ntmps188
    go_wp2_with (at_builtin;refine Lib.wpList_append_run _ rfl _ _ _ _ rfl _ _ rfl rfl _ _ (HR.out _) ?_)
    go_ret
    exact⟨_,rfl,HB.out,al _,.inl ⟨rfl,_,rfl⟩⟩
   ·have hcell:∀ j u,xs[j]?=some u->(w.alloc (.cells #[] 106)).cell? (ad.add j)=some u := λ j u hj=>by
      rcases hc with h | ⟨ad',h,hh⟩
      ·exact absurd h hn0
      ·cases h;have h2:=hh j u hj
       have hlt:(ad.add j).block<w.heap.size:=by
        unfold World.cell? at h2;split at h2
        ·rename_i h3;exact(dW.1 h3).1
        ·cases h2
       rw[show(w.alloc (.cells #[] 106)).cell? _=w.cell? _ from World.cell?_of_block (hb.block _ hlt)];exact h2
    have hgr:∀ ty,∃ g cap' cur w',(Builtin.append_ #[107,107] ty #[.slice (some ⟨w.heap.size,0,none⟩) 0 0,.slice (some ad) n c]).run Tryz.prog (w.alloc (.cells #[] 106)) = .ok (.slice (some ⟨g,0,none⟩) (0+n) cap') w'/\Below (w.alloc (.cells #[] 106)).heap.size (w.alloc (.cells #[] 106)) w'/\(w.alloc (.cells #[] 106)).heap.size<=g/\w'.heap[g]?=some (.cells cur 106 (0,0))/\0+n<=cap'/\cur.size=cap'*8/\cur.toList.take ((0+n)*8)=[]++xs/\(w.alloc (.cells #[] 106)).drawn<=w'.drawn :=
     λ ty=>AmZ.grow_any (P:=Tryz.prog) (w:=w.alloc (.cells #[] 106)) (ty:=ty) Tryz.underlying107 hi0 hz0 hz1 hz2 rfl (some ⟨w.heap.size,0,none⟩) 0 0 (λ h=>by cases h) [] (by simp) (λ _ _ j u h=>by simp at h) _ n xs (Src.ofSlice _ Tryz.underlying107 ad n c xs hxl hcell h1) (by omega) (by unfold maxLen;omega) (by omega)
    obtain⟨g,cap',cur,w',g1,g2,g3,g4,g5,g6,g7,g8⟩:=hgr 107;rw[cI]at g1 g5 g7;rw[fS]at g7;have HR:=Lib.hid g1;have hsz:w.heap.size<=(w.alloc (.cells #[] 106)).heap.size:=hb.size
    have HF:Hid (AmZ.Fresh w 8 n xs (.slice (some ⟨g,0,none⟩) n cap') w'):=by
     refine⟨hb.trans (g2.mono hsz),g8,.inr ⟨g,cap',cur,_,rfl,bR hsz g3,g4,g5,Bo g6.symm,λ j u hj=>?_⟩⟩;rw[<- g7,eX]at hj;split at hj
     ·rw[<- jh];exact hj
     ·cases hj
    clear hb hcell hgr g1 g2 g3 g4 g5 g6 g7 hsz hc h1 hxl hi0 hz0 hz1 hz2;have he:∀ w,(binOp .eql 107 (.slice (some ad) n c) (.slice none 0 0)).run Tryz.prog w = .ok (.bool false) w := λ w=>by rw[Lib.run_eql_slice_nil w 107 106 (some ad) n c 0 0 Tryz.underlying107];rfl
    go_enter Tryz.func188,Tryz.ntmps188
    go_wp2_with (at_builtin;refine Lib.wpList_append_run _ rfl _ _ _ _ rfl _ _ rfl rfl _ _ HR.out ?_)
    go_ret
    exact⟨_,rfl,HF.out⟩
end Go.Proofs.YtinbdcelmgfniaaGreatDoor
namespace Go.AmZ
open GxZ
section
open RowKit
def Kg{P:aX}{c:TC}{f:dm}(o:kI P f)(h:∀i g,c.pf f i=Z g->∀a v,g.fn a=Z v->∀Γ w b,Inv Γ emp w->RepL Γ (fc g.args a i) b->jI P Γ emp w f b (cN (gc g.res v),U)):cp P f (fX (cT c f)):=by
 refine⟨o,λ Γ σ w j b r m l e=>?_⟩;unfold fX at e;split at e<;>try cases e
 split at e<;>cases e;rename_i z d;unfold cT at d;split at d<;>try cases d
 rename_i g n;split at d<;>try cases d
 next a p=>split at d<;>cases d;next v k=>exact h _ g n a v k Γ w b m ((Fy g.args p).rep l)
def SK{P:aX}{f:dm}{Γ:Gh}{w:ao}{a:aa ah}{x:ah}(g:Inv Γ emp w)(d:bQ x=O)(h:Calls P f a.toArray w λ e w'=>e=.returned x/\Below w.heap.size w w'/\w.drawn<=w'.drawn):jI P Γ emp w f a (.v x,U):=by
 apply Calls.mono h;rintro e w' ⟨rfl,c,b⟩;exact⟨x,Γ,rfl,wY c b,g.later c,.v x d,.refl _⟩
def strings_Compare(m:Nat)(a b:aa aA):ac Int:=Z (Lib.compareBytes a b)
def qbl{m:Nat}{c:TC}(l:∀h,c.pf 116 h=vQ h [] (Z ⟨[.val .str,.val .str],[.int .i64],λ x=>strings_Compare m x.1 x.2.1⟩) U):cp Go.Proofs.Tryz.prog 116 (fX (cT c 116)):=by
 refine Kg (iT Go.Proofs.Tryz.func116 (by kernel_rfl)) λ h g b a v j Γ w i k e=>?_;rw[l]at b;obtain⟨rfl,b⟩|b:=Kc b
 .cases b;cases j;obtain⟨u1,o,rfl,f,e⟩:=e.uncons;obtain⟨u2,n,rfl,d,e⟩:=e.uncons;have:=e.nil_inv;subst this;have f:=ch f;have d:=ch d;subst f;subst d;apply SK k rfl;exact(Go.Proofs.Tryz.strings_Compare _ _ w).mono λ _ _ ⟨f,d⟩=>⟨f,by rw[d];exact Below.refl _ _,by rw[d];exact al _⟩
 .cases b
abbrev MT:Ty:=.pair .str (.pair (.int .i64) (.pair (.int .i64) (.int .i64)))
def Ye:aa (Val MT):=[([112,97,105,114],2,2,1),([101,110,99],2,2,1),([97,101,110,99],2,2,1),([112,107],1,1,1),([115,105,103,110],2,2,1),([104,97,115,104],1,1,1),([120,111,114],2,8,1),([122,101,114,111],0,0,1),([101,120,112],2,2,1),([109,117,108],2,8,1),([105,110,118],1,1,1),([111,110,101],0,0,1),([115,107],1,1,2),([115,104,107],2,2,2),([110,101,119],1,8,2),([102,115,116],1,1,3),([115,110,100],1,1,3),([100,101,99],2,2,3),([97,100,101,99],2,2,3),([111,112,101,110],2,2,3),([114,101,97,100],1,1,3)]
def Ja(m:Nat):ac (aa (aa aA×Int×Int×Int)):=Z Ye
def Ou:Cfg:=⟨tyT,λ f=>cond (Nat.beq f 104) (Z Go.Proofs.Tryz.f104) (cond (Nat.beq f 132) (Z Go.Proofs.Tryz.f132) U),λ _=>U,λ _=>Y,λ _=>[],λ _=>O,λ _=>U⟩
def qhX(a:Code):iD a=O:=by
 induction a<;>simp_all [iD]
def V4:dd Go.Proofs.Tryz.prog Ou:=by
 refine⟨by kernel_rfl,X5,λ f fn h=>?_,(λ f p h=>by cases h),λ f fn h=>by cases h⟩;have h:cond (Nat.beq f 104) (Z Go.Proofs.Tryz.f104) (cond (Nat.beq f 132) (Z Go.Proofs.Tryz.f132) U)=Z fn:=h;have c:∀d:Code,iD d=O:=qhX;cases b:Nat.beq f 104 with
 |true=>
   rw[b]at h;cases h;rw[cg b];exact⟨Go.Proofs.Tryz.func104,by kernel_rfl,λ _ _=>c _⟩
 |false=>
   rw[b]at h;cases a:Nat.beq f 132 with
   |true=>
     rw[a]at h;cases h;rw[cg a];exact⟨Go.Proofs.Tryz.func132,by kernel_rfl,λ _ _=>c _⟩
   |false=>rw[a]at h;cases h
def ql5:ju Ou (eA Ou 300) emp 104 []=Z (cN (gc [.list MT] Ye),U):=by kernel_rfl
def qbr{m:Nat}{c:TC}(j:∀d,c.pf 104 d=vQ d [] (Z ⟨[],[.list MT],λ x=>Ja m⟩) U):cp Go.Proofs.Tryz.prog 104 (fX (cT c 104)):=by
 refine Kg (iT Go.Proofs.Tryz.func104 (by kernel_rfl)) λ d g b a v f Γ w e i h=>?_;rw[j]at b;obtain⟨rfl,b⟩|b:=Kc b
 .cases b;cases f;exact Vk V4 (L3 V4 300) i h ql5
 .cases b
def wB(m:Nat)(l:aa T):ac (Unit×aa T×Unit):=cond (Nat.ble (I l) 100000000) (Z ((),l,())) U
def yC(m:Nat)(n:Int):ac (Unit×aa T×Unit):=cond (inb n 100000000) (Z ((),[],())) U
def wz(m:Nat)(l:aa (T×Int))(i:Int)(v:aa (T×Int)):ac (Unit×aa (T×Int)×Unit):=cond (inb i (I l)&&(Nat.ble (I l) 100000&&Nat.beq (I v) 1)) (Z ((),l.take i.toNat++(v++l.drop i.toNat),())) U
def wy(m:Nat)(l:aa (T×Int))(i j:Int):ac (Unit×aa (T×Int)×Unit):=cond (inb j (I l)&&(inb i (I l)&&(ieq j (aD i 1)&&Nat.ble (I l) 100000))) (Z ((),l.take i.toNat++l.drop (i.toNat+1),())) U
def zk{α:Type}{b:Bool}{x:α}{r:α}(h:cond b (Z x) U=Z r):b=O/\x=r:=by
 cases b with
 |true=>exact⟨rfl,kO h⟩
 |false=>cases h
def qaC{m:Nat}:cp Go.Proofs.Tryz.prog 23 (sgP ⟨[.val (.list .term)],[.one (.row .term)],λ x=>wB m x.1⟩):=by
 refine Si (a:=.term) (iT Go.Proofs.Tryz.func23 (by kernel_rfl)) (most:=100000000) Go.Proofs.YtinbdcelmgfniaaGreatDoor.clone_anyTrm (fn:=wB m) λ l r h=>?_;let⟨c,b⟩:=zk h;exact⟨nT c,b.symm⟩
def wx(m:Nat)(l:aa (T×T)):ac (Unit×aa (T×T)×Unit):=cond (Nat.ble (I l) 100000000) (Z ((),l,())) U
def qaz{m:Nat}:cp Go.Proofs.Tryz.prog 188 (sgP ⟨[.val (.list (.pair .term .term))],[.one (.row (.pair .term .term))],λ x=>wx m x.1⟩):=by
 refine Si (a:=.pair .term .term) (iT Go.Proofs.Tryz.func188 (by kernel_rfl)) (most:=100000000) Go.Proofs.YtinbdcelmgfniaaGreatDoor.clone_anyUp (fn:=wx m) λ l r h=>?_;let⟨c,b⟩:=zk h;exact⟨nT c,b.symm⟩
def qaF{m:Nat}:cp Go.Proofs.Tryz.prog 193 (sgP ⟨[.nil,.val (.int .i64)],[.one (.row .term)],λ x=>yC m x.1⟩):=by
 refine qjY (a:=.term) (iT Go.Proofs.Tryz.func193 (by kernel_rfl)) (most:=100000000) Go.Proofs.YtinbdcelmgfniaaGreatDoor.grow_nilTrm (fn:=yC m) λ n r h=>?_;let⟨b,c⟩:=zk h;have b:=bH b;exact⟨b.1,b.2,c.symm⟩
def qoB:Al Go.Proofs.Tryz.prog (.pair .term (.int .i64)) 134 157 64:=⟨by
 have h:(match cH Go.Proofs.Tryz.prog 134 with|some ⟨_,_,_,_,.slice e k b z⟩=>Nat.beq e 157&&(Nat.beq k 5&&(Nat.beq b 64&&Nat.beq (I z) 5))|_=>Y)=O:=by kernel_rfl
 split at h
 .next l j i g e k b z m=>simp only[aK]at h;let⟨f,d,c,a⟩:=h;have f:=cg f;have d:=cg d;have c:=cg c;have a:=cg a;subst f;subst d;subst c;exact⟨l,j,i,g,z,m,a⟩
 .cases h⟩
def qaB{m:Nat}:cp Go.Proofs.Tryz.prog 225 (sgP ⟨[.row (.pair .term (.int .i64)),.val (.int .i64),.val (.list (.pair .term (.int .i64)))],[.one (.row (.pair .term (.int .i64)))],λ x=>wz m x.1 x.2.1 x.2.2.1⟩):=by
 refine qla (a:=.pair .term (.int .i64)) (iT Go.Proofs.Tryz.func225 (by kernel_rfl)) qoB (by decide) Go.Proofs.YtinbdcelmgfniaaGreatDoor.insert_endPow Go.Proofs.YtinbdcelmgfniaaGreatDoor.insert_roomPow Go.Proofs.YtinbdcelmgfniaaGreatDoor.insert_growPow (fn:=wz m) λ l i v r h=>?_;let⟨c,g⟩:=zk h;simp only[aK,Nat.beq_eq_true_eq]at c;let⟨b,f,d⟩:=c;have b:=bH b;refine⟨?_,b.1,b.2,nT f,g.symm⟩
 match v,d with
 |[e],_=>exact⟨e,rfl⟩
def qaA{m:Nat}:cp Go.Proofs.Tryz.prog 226 (sgP ⟨[.row (.pair .term (.int .i64)),.val (.int .i64),.val (.int .i64)],[.one (.row (.pair .term (.int .i64)))],λ x=>wy m x.1 x.2.1 x.2.2.1⟩):=by
 refine qkK (a:=.pair .term (.int .i64)) (iT Go.Proofs.Tryz.func226 (by kernel_rfl)) Go.Proofs.YtinbdcelmgfniaaGreatDoor.delete_onePow (fn:=wy m) λ l i j r h=>?_;let⟨e,g⟩:=zk h;simp only[aK]at e;let⟨d,c,b,f⟩:=e;have d:=bH d;have c:=bH c;have b:j=i+1:=by simpa[ieq,aD]using b
 refine⟨b,c.1,?_,nT f,g.symm⟩;omega
end
end Go.AmZ
namespace Go.Proofs
open Go.Shelf
def Tryz.laysM171_ren:Go.Shelf.Ren:=⟨λ|171=>51|243=>88|246=>113|283=>144|284=>145|285=>146|286=>147|129=>179|317=>178|318=>180|319=>181|320=>182|337=>212|338=>213|n=>n,λ|3=>3|9=>9|2=>2|4=>4|171=>143|0=>0|53=>144|37=>66|5=>5|173=>147|212=>168|51=>169|20=>20|213=>170|46=>164|232=>214|233=>215|n=>n,λ|17=>0|18=>2|19=>3|n=>n⟩
def Tryz.laysM171:Go.Proofs.LaysM.n171 Tryz.prog Tryz.laysM171_ren:={
 mixed:=by kernel_rfl
 f129:=Tryz.func179.trans (aY Z (by kernel_rfl))
 f171:=Tryz.func51.trans (aY Z (by kernel_rfl))
 f243:=Tryz.func88.trans (aY Z (by kernel_rfl))
 f246:=Tryz.func113.trans (aY Z (by kernel_rfl))
 f283:=Tryz.func144.trans (aY Z (by kernel_rfl))
 f284:=Tryz.func145.trans (aY Z (by kernel_rfl))
 f285:=Tryz.func146.trans (aY Z (by kernel_rfl))
 f286:=Tryz.func147.trans (aY Z (by kernel_rfl))
 f317:=Tryz.func178.trans (aY Z (by kernel_rfl))
 f318:=Tryz.func180.trans (aY Z (by kernel_rfl))
 f319:=Tryz.func181.trans (aY Z (by kernel_rfl))
 f320:=Tryz.func182.trans (aY Z (by kernel_rfl))
 f337:=Tryz.func212.trans (aY Z (by kernel_rfl))
 f338:=Tryz.func213.trans (aY Z (by kernel_rfl))
 t0:=Tryz.underlying0
 a0:=Tryz.isAgg0
 z0:=Tryz.sizeOf0
 v0:=Tryz.zeroValue0
 t2:=Tryz.underlying2
 a2:=Tryz.isAgg2
 z2:=Tryz.sizeOf2
 v2:=Tryz.zeroValue2
 t3:=Tryz.underlying3
 a3:=Tryz.isAgg3
 z3:=Tryz.sizeOf3
 v3:=Tryz.zeroValue3
 t4:=Tryz.underlying4
 a4:=Tryz.isAgg4
 z4:=Tryz.sizeOf4
 v4:=Tryz.zeroValue4
 t5:=Tryz.underlying5
 a5:=Tryz.isAgg5
 z5:=Tryz.sizeOf5
 v5:=Tryz.zeroValue5
 t9:=Tryz.underlying9
 a9:=Tryz.isAgg9
 z9:=Tryz.sizeOf9
 v9:=Tryz.zeroValue9
 t20:=Tryz.underlying20
 a20:=Tryz.isAgg20
 z20:=Tryz.sizeOf20
 v20:=Tryz.zeroValue20
 t37:=Tryz.underlying66
 a37:=Tryz.isAgg66
 z37:=Tryz.sizeOf66
 v37:=Tryz.zeroValue66
 t46:=Tryz.underlying164
 a46:=Tryz.isAgg164
 z46:=Tryz.sizeOf164
 v46:=Tryz.zeroValue164
 t51:=Tryz.underlying169
 a51:=Tryz.isAgg169
 z51:=Tryz.sizeOf169
 v51:=Tryz.zeroValue169
 t53:=Tryz.underlying144
 a53:=Tryz.isAgg144
 z53:=Tryz.sizeOf144
 v53:=Tryz.zeroValue144
 t171:=Tryz.underlying143
 a171:=Tryz.isAgg143
 z171:=Tryz.sizeOf143
 v171:=Tryz.zeroValue143
 t173:=Tryz.underlying147
 a173:=Tryz.isAgg147
 z173:=Tryz.sizeOf147
 v173:=Tryz.zeroValue147
 t212:=Tryz.underlying168
 a212:=Tryz.isAgg168
 z212:=Tryz.sizeOf168
 v212:=Tryz.zeroValue168
 t213:=Tryz.underlying170
 a213:=Tryz.isAgg170
 z213:=Tryz.sizeOf170
 t232:=Tryz.underlying214
 a232:=Tryz.isAgg214
 z232:=Tryz.sizeOf214
 v232:=Tryz.zeroValue214
 t233:=Tryz.underlying215
 a233:=Tryz.isAgg215
 z233:=Tryz.sizeOf215
 v233:=Tryz.zeroValue215
 g17:=by kernel_rfl
 g18:=by kernel_rfl
 g19:=by kernel_rfl
 i0:=by kernel_rfl
 i2:=by kernel_rfl
 i3:=by kernel_rfl
 i4:=by kernel_rfl
 i5:=by kernel_rfl
 i9:=by kernel_rfl
 i20:=by kernel_rfl
 i37:=by kernel_rfl
 i46:=by kernel_rfl
 i51:=by kernel_rfl
 i53:=by kernel_rfl
 i171:=by kernel_rfl
 i173:=by kernel_rfl
 i212:=by kernel_rfl
 i232:=by kernel_rfl
 i233:=by kernel_rfl
 m17:=by kernel_rfl
 m18:=by kernel_rfl
 m19:=by kernel_rfl}
open Go.RowKit Go.Sort Go.Lib in
theorem Tryz.strconv_Itoa(n:Int)(c:-9223372036854775808<=n)(b:n<=9223372036854775807)(w:ao)(a:Lib.TabIs Tryz.prog w "internal/strconv.uint64pow10" .u64 Lib.pow10Tab):
 Calls Tryz.prog 51 #[.int .i64 n] w λ e w'=>e=.returned (.string ⟨(Lib.itoa n).toArray⟩)/\∃k os,w'=grow (w.drewN k) os:=Any.strconv_Itoa Tryz.laysM171 n c b w a
end Go.Proofs
namespace Go.AmZ
open GxZ
section
open RowKit
def lG:Nat->Nat->aa aA
 |0,_=>[]
 |f+1,u=>if u<10 then[UInt8.ofNat (48+u)]else lG f (u/10)++[UInt8.ofNat (48+u%10)]
def KX:∀f u,u<10^f->0<f->lG f u=Lib.decDigits u
 |0,u,_,a=>absurd a (O2 0)
 |f+1,u,h,_=>by
   rw[lG,Lib.decDigits];split
   .rfl
   .next c=>rw[Nat.pow_succ]at h;rw[KX f (u/10) (by omega) (Nat.pos_of_ne_zero λ b=>by rw[b]at h;omega)]
def gK(n:Int):aa aA:=if n<0 then 45::lG 20 n.natAbs else lG 20 n.toNat
def qkP{n:Int}(b:-9223372036854775808<=n)(a:n<=9223372036854775807):gK n=Lib.itoa n:=by
 unfold gK Lib.itoa;rw[KX 20 _ (by omega) (by decide),KX 20 _ (by omega) (by decide)]
def strconv_Itoa(m:Nat)(n:Int):ac (aa aA):=cond (ile (-9223372036854775808) n) (cond (ile n 9223372036854775807) (Z (gK n)) U) U
def qor {Γ : Gh} {σ : St} {w:ao} (h:Inv Γ σ w):Lib.TabIs Go.Proofs.Tryz.prog w "internal/strconv.uint64pow10" .u64 Lib.pow10Tab:=by
 obtain ⟨e,fr,h0⟩:=h.tab.1;unfold Lib.TabIs World.var?;rw [show Go.Proofs.Tryz.prog.globalNamed "internal/strconv.uint64pow10" = Z 0 by kernel_rfl];show (match w.heap[0]? with | Z (.cells cs _ _)=>Z cs | _=>U)=_;rw [h0];unfold Be Lib.pow10Tab;rw [iu];rfl
def qct{m:Nat}{c:TC}(r:∀j,c.pf 51 j=vQ j [] (Z ⟨[.val (.int .i64)],[.str],λ x=>strconv_Itoa m x.1⟩) U):cp Go.Proofs.Tryz.prog 51 (fX (cT c 51)):=by
 refine Kg (iT Go.Proofs.Tryz.func51 (by kernel_rfl)) λ j g f a v b Γ w n p i=>?_;rw[r]at f;obtain⟨rfl,f⟩|f:=Kc f
 .cases f;have b:strconv_Itoa m a.1=Z v:=b;unfold strconv_Itoa at b;cases d:ile (-9223372036854775808) a.1 with
  |false=>rw[d]at b;cases b
  |true=>
    cases h:ile a.1 9223372036854775807 with
    |false=>rw[d,h]at b;cases b
    |true=>
      rw[d,h]at b;cases b;have d:=bH d;have h:=bH h;obtain⟨u1,s,rfl,l,i⟩:=i.uncons;have:=i.nil_inv;subst this;have l:=ch l;subst l;apply SK p rfl;refine(Go.Proofs.Tryz.strconv_Itoa a.1 d h w (qor p)).mono λ e w' ⟨q,k,os,o⟩=>⟨?_,?_,?_⟩
      .rw[q,qkP d h]
      .rw[o];exact Lib.below_grow _ _ (al _) k os
      .rw[o];exact kM _ _
 .cases f
end
section
open RowKit
structure FI where
 fn:Func
 args:List ATy
 res:List Ty
 loop:List (Nat×List (Tmp×Co))
 ld:List Nat
 F:Nat->lu args->Option (kE res)
structure SI where
 fn:Func
 args:List SA
 res:List RE
 loop:List (Nat×List (Tmp×Co))
 ld:List Nat
 F:Nat->iI args->Option (fl args×RV res)
inductive En where
 |pure (l:List (List Nat×FI))
 |st (i:SI)
 |hp (g:Sig)
 |hs (g:sZ)
 |hx (g:Nat->sZ)
 |hm (g:Nat->vS)
 |hk (g:Nat->yi)
 |il (fn:Func)
inductive Tr where
 |leaf
 |node (k:Nat) (l r:Tr) (x:En)
def Tr.get:Tr->Nat->ac En
 |.leaf,_=>U
 |.node k l r x,f=>match Nat.beq f k with
   |O=>Z x
   |Y=>match Nat.blt f k with
     |O=>Tr.get l f
     |Y=>Tr.get r f
def xY(a:aa Nat):aa (aa Nat×FI)->ac FI
 |[]=>U
 |p::r=>match AC p.1 a with
   |O=>Z p.2
   |Y=>xY a r
def XL(r:Nat):aa (Nat×aa (Tmp×Co))->ac (aa (Tmp×Co))
 |[]=>U
 |p::l=>match Nat.beq p.1 r with
   |O=>Z p.2
   |Y=>XL r l
structure Tb where
 ty:Nat->Option TD
 el:Nat->Option Ty
 tr:Tr
def Tb.has(b:Tb)(f:Nat):Bool:=match b.tr.get f with
 |Z (.pure _)|Z (.hp _)=>O
 |_=>Y
def Tb.pf(b:Tb)(m f:Nat)(a:aa Nat):ac Sig:=match b.tr.get f with
 |Z (.pure l)=>match xY a l with
   |Z i=>Z ⟨i.args,i.res,i.F m⟩
   |U=>U
 |Z (.hp g)=>vQ a [] (Z g) U
 |_=>U
def Tb.sf(b:Tb)(m f:Nat):ac sZ:=match b.tr.get f with
 |Z (.st i)=>Z ⟨i.args,i.res,i.F m⟩
 |Z (.hs g)=>Z g
 |Z (.hx g)=>Z (g m)
 |_=>U
def Tb.mf(b:Tb)(m f:Nat):ac vS:=match b.tr.get f with
 |Z (.hm g)=>Z (g m)
 |_=>U
def Tb.xf(b:Tb)(m f:Nat):ac yi:=match b.tr.get f with
 |Z (.hk g)=>Z (g m)
 |_=>U
def Tb.inl(b:Tb)(f:Nat):ac Func:=match b.tr.get f with
 |Z (.il fn)=>Z fn
 |_=>U
def Tb.tc(b:Tb)(m:Nat)(d:aa (Nat×aa (Tmp×Co)))(a c:Nat)(e:aa Nat):TC:=⟨b.ty,b.el,b.has,b.pf m,b.sf m,λ r=>XL r d,λ _=>U,a,c,λ f=>Yh f e,b.mf m,b.xf m,b.inl⟩
def Tb.runP(b:Tb)(m:Nat)(i:FI)(k:Nat)(a:aa It)(E:Env)(σ:TS):ac (kE i.res):=
 qJ (b.tc m i.loop i.fn.ntmps 0 i.ld) (nC (b.tc m i.loop i.fn.ntmps 0 i.ld) i.res (V i.fn.results)) GP k a E σ
def Tb.runS(b:Tb)(m:Nat)(i:SI)(k:Nat)(a:aa It)(E:Env)(σ:TS):ac (fl i.args×RV i.res):=
 qJ (b.tc m i.loop i.fn.ntmps (A6 i.args) i.ld) (yh (b.tc m i.loop i.fn.ntmps (A6 i.args) i.ld) i.args i.res (V i.fn.results)) GP k a E σ
def Tb.runP1(b:Tb)(m:Nat)(i:FI)(c:aa Nat)(a:lu i.args):ac (kE i.res):=b.runP m i (m+1) [.code (yd i.fn)] (mn 0 (yp i.args a c)) ⟨[],[]⟩
def Tb.runS1(b:Tb)(m:Nat)(i:SI)(a:iI i.args):ac (fl i.args×RV i.res):=b.runS m i (m+1) [.code (yd i.fn)] (mn 0 (oD i.args 0 0 a)) ⟨sBx i.args 0 a,sRw i.args a⟩
def Tb.PL(b:Tb)(i:FI)(r:Nat)(m k:Nat)(E:Env)(σ:TS):ac (kE i.res):=b.runP m i k (stL i.fn r) E σ
def Tb.QL(b:Tb)(i:SI)(r:Nat)(m k:Nat)(E:Env)(σ:TS):ac (fl i.args×RV i.res):=b.runS m i k (stL i.fn r) E σ
def Tb.at(b:Tb)(m:Nat):TC:=b.tc m [] 0 0 []
def qoH{α:Type}{M:Nat->α}{z:α}{s:α->α}(c:z=M 0)(b:∀k,M (k+1)=s (M k))(k:Nat):Ob z s k=M k:=by
 induction k with
 |zero=>exact c
 |succ k a=>rw[b,<-a];rfl
def fnB(fn:Func)(n:Nat):Bool:=jr fn&&Nat.ble n fn.ntmps
def En.ok:En->Bool
 |.pure l=>l.all λ p=>fnB p.2.fn (I p.2.args)
 |.st i=>fnB i.fn (I i.args)
 |.il fn=>jr fn
 |_=>O
def Tr.ok:Tr->Bool
 |.leaf=>O
 |.node _ l r x=>x.ok&&(l.ok&&r.ok)
def AP(P:aX)(b:Tb)(f:Nat)(l:aa (aa Nat×FI)):Prop:=match l with
 |[]=>True
 |p::r=>P.funcs[f]?=Z p.2.fn/\(∀a,p.2.F 0 a=U)/\(∀m a,p.2.F (m+1) a=b.runP1 m p.2 p.1 a)/\AP P b f r
def En.prog(P:aX)(b:Tb)(f:Nat):En->Prop
 |.pure l=>AP P b f l/\l≠[]
 |.st i=>P.funcs[f]?=Z i.fn/\(∀a,i.F 0 a=U)/\∀m a,i.F (m+1) a=b.runS1 m i a
 |.hp g=>∀c:TC,(∀d,c.pf f d=vQ d [] (Z g) U)->cp P f (fX (cT c f))
 |.hs g=>cp P f (sgP g)
 |.hx g=>cp P f (sgP (g 0))/\∀m,dd P (b.at m).pc.cfg->cp P f (sgP (g (m+1)))
 |.hm g=>cp P f (mgP (g 0))/\∀m,dd P (b.at m).pc.cfg->cp P f (mgP (g (m+1)))
 |.il fn=>P.funcs[f]?=Z fn
 |.hk g=>cp P f (xgP (g 0))/\∀m,dd P (b.at m).pc.cfg->cp P f (xgP (g (m+1)))
def Tr.prog(P:aX)(b:Tb):Tr->Prop
 |.leaf=>True
 |.node k l r x=>x.prog P b k/\l.prog P b/\r.prog P b
def Tr.get_spec{P:aX}{b:Tb}:∀{t:Tr}{f:Nat}{x:En},t.get f=Z x->t.ok=O->t.prog P b->x.ok=O/\x.prog P b f
 |.leaf,f,x,h,_,_=>by cases h
 |.node k l r y,f,x,h,a,⟨i,d,c⟩=>by
   simp only[Tr.ok,aK]at a;let⟨j,g,e⟩:=a;simp only[Tr.get]at h;split at h
   .grind [Nat.eq_of_beq_eq_true]
   .split at h
    .exact Tr.get_spec h g d
    .exact Tr.get_spec h e c
def Th{a:aa Nat}:∀{l:aa (aa Nat×FI)}{i:FI},xY a l=Z i->(a,i)∈l
 |[],i,h=>by cases h
 |p::r,i,h=>by
   simp only[xY]at h;split at h
   .grind [Kx,List.mem_cons_self]
   .exact aS _ (Th h)
def AP.mem{P:aX}{b:Tb}{f:Nat}:∀{l:aa (aa Nat×FI)}{p:aa Nat×FI},AP P b f l->p∈l->P.funcs[f]?=Z p.2.fn/\(∀a,p.2.F 0 a=U)/\(∀m a,p.2.F (m+1) a=b.runP1 m p.2 p.1 a)
 |[],p,_,h=>by cases h
 |q::r,p,⟨g,e,d,c⟩,h=>by
   obtain rfl|h:=bi.1 h
   .exact⟨g,e,d⟩
   .exact AP.mem c h
def SP{fn:Func}(h:jr fn=O):fn.body=Z (yd fn):=by
 grind [jr,yd]
def Ga{fn:Func}{n:Nat}(h:fnB fn n=O):jr fn=O/\n<=fn.ntmps:=by
 simp_all [fnB]
def ql6{P:aX}{d:PC}(w:dd P d.cfg){l:TC}{f:dm}{fn:Func}(t:P.funcs[f]?=Z fn)(m:jr fn=O)
  (h:∀n g,l.pf f n=Z g->∃c:TC,{c.pc with pur:=d.pur,ld:=d.ld}=d/\c.nt=fn.ntmps/\c.np=0/\I g.args<=fn.ntmps/\∃N k,∀a,g.fn a=qJ c (nC c g.res (V fn.results)) N k [.code (yd fn)] (mn 0 (yp g.args a n)) ⟨[],[]⟩):cp P f (fX (cT l f)):=by
 refine qkt w t m (cT l f) λ ys r b=>?_;unfold cT at b;split at b<;>try cases b
 rename_i g s;split at b<;>try cases b
 next a u=>split at b<;>cases b;next v q=>let⟨c,e,i,j,y,N,k,x⟩:=h _ g s;refine⟨fc g.args a (jM ys),_,c.pc.pur,c.pc.ld,Fy g.args u,λ z p=>p,?_⟩;rw[<-e];exact qoy (SP m) i j (by rw[Fi];exact y) (FW g.args a (jM ys)) (by rw[<-x a];exact q)
def Tb.has_pf{b:Tb}{m f:Nat}{a:aa Nat}{g:Sig}(h:b.pf m f a=Z g):(∃l i,b.tr.get f=Z (.pure l)/\xY a l=Z i/\g=⟨i.args,i.res,i.F m⟩)\/(∃c,b.tr.get f=Z (.hp c)):=by
 grind [Tb.pf]
def Tb.all_ok{P:aX}{b:Tb}(G:P.follows .mixedOrders=O)(R:∀t d,b.ty t=Z d->cH P t=Z d)(n:b.tr.ok=O)(k:b.tr.prog P b):∀m,dd P (b.at m).pc.cfg:=by
 have x:∀{c:TC}{g:Sig}{f m:Nat},c.pf=b.pf m->b.tr.get f=Z (.hp g)->cp P f (fX (cT c f)):=by
  intro c g f m hc j;refine(Tr.get_spec j n k).2 c λ s=>?_;rw[hc];unfold Tb.pf;rw[j]
 have w:∀{m:Nat}{f:Nat},(b.at m).has f=O->(∃l,b.tr.get f=Z (.pure l))\/∃g,b.tr.get f=Z (.hp g):=by
  intro m f h;have h:b.has f=O:=h;grind [Tb.has]
 have B:∀{m:Nat}{f:Nat}{g:sZ},(b.at m).sf f=Z g->(∃i,b.tr.get f=Z (.st i)/\g=⟨i.args,i.res,i.F m⟩)\/b.tr.get f=Z (.hs g)\/∃h,b.tr.get f=Z (.hx h)/\g=h m:=by
  intro m f g h;have h:b.sf m f=Z g:=h;grind [Tb.sf]
 have C:∀{m:Nat}{f:Nat}{g:vS},(b.at m).mf f=Z g->∃h,b.tr.get f=Z (.hm h)/\g=h m:=by
  intro m f g h;have h:b.mf m f=Z g:=h;grind [Tb.mf]
 have A:∀{m:Nat}{f:Nat}{g:yi},(b.at m).xf f=Z g->∃h,b.tr.get f=Z (.hk h)/\g=h m:=by
  intro m f g h;have h:b.xf m f=Z g:=h;grind [Tb.xf]
 have D:∀{m f:Nat}{fn:Func},(b.at m).inl f=Z fn->P.funcs[f]?=Z fn/\jr fn=O:=by
  intro m f fn h;have h:b.inl f=Z fn:=h;unfold Tb.inl at h;split at h<;>cases h;have:=Tr.get_spec (by assumption) n k;exact⟨this.2,this.1⟩
 have o:∀{f:Nat}{l:aa (aa Nat×FI)},b.tr.get f=Z (.pure l)->∃fn,P.funcs[f]?=Z fn/\jr fn=O/\∀s i,xY s l=Z i->i.fn=fn/\I i.args<=fn.ntmps/\(∀a,i.F 0 a=U)/\∀m a,i.F (m+1) a=b.runP1 m i s a:=by
  intro f l v;let⟨y,q⟩:=Tr.get_spec v n k;let⟨q,z⟩:=q;have y:=bJ.1 (show l.all _=O from y);cases l with
  |nil=>exact absurd rfl z
  |cons p r=>
    refine⟨p.2.fn,(q.mem (aW ..)).1,(Ga (y p (aW ..))).1,λ s i H=>?_⟩;have G:=Th H;let⟨e1,e4,e5⟩:=q.mem G;have e2:=(q.mem (aW ..)).1;rw[e2]at e1;have W:p.2.fn=i.fn:=kO e1;refine⟨W.symm,?_,e4,e5⟩;rw[W];exact(Ga (y _ G)).2
 intro m
 induction m with
 |zero=>
   refine XI G R (λ f K=>?_) (λ f g j=>?_) (λ f g j=>?_) (λ f g j=>?_) λ f fn h=>D h
   .obtain⟨l,v⟩|⟨g,j⟩:=w K
    .let⟨fn,Q,N,T⟩:=o v;refine qji (iT Q N) λ s g a h=>?_;have h:b.pf 0 f s=Z g:=h;obtain⟨X,i,u,S,rfl⟩|⟨g',u⟩:=Tb.has_pf h
     .grind
     .rw[v]at u;cases u
    .exact x rfl j
   .obtain⟨i,H,rfl⟩|e:=B j
    .let⟨y,q,z,_⟩:=Tr.get_spec H n k;exact JX (iT q (Ga y).1) z
    .obtain e|⟨h,e,rfl⟩:=e
     .exact(Tr.get_spec e n k).2
     .exact(Tr.get_spec e n k).2.1
   .obtain⟨h,e,rfl⟩:=C j;exact(Tr.get_spec e n k).2.1
   .obtain⟨h,e,rfl⟩:=A j;exact(Tr.get_spec e n k).2.1
 |succ m E=>
   refine XI G R (λ f K=>?_) (λ f g j=>?_) (λ f g j=>?_) (λ f g j=>?_) λ f fn h=>D h
   .obtain⟨l,v⟩|⟨g,j⟩:=w K
    .let⟨fn,Q,N,T⟩:=o v;refine ql6 E Q N λ s g h=>?_;have h:b.pf (m+1) f s=Z g:=h;obtain⟨X,i,u,S,rfl⟩|⟨g',u⟩:=Tb.has_pf h
     .rw[v]at u;cases u;obtain⟨rfl,M,_,L⟩:=T s i S;exact⟨b.tc m i.loop i.fn.ntmps 0 i.ld,rfl,rfl,rfl,M,GP,m+1,λ a=>L m a⟩
     .rw[v]at u;cases u
    .exact x rfl j
   .obtain⟨i,H,rfl⟩|e:=B j
    .let⟨y,q,_,L⟩:=Tr.get_spec H n k;let⟨z,M⟩:=Ga y;exact ql8 (c:=b.tc m i.loop i.fn.ntmps (A6 i.args) i.ld) (E.pur _ _) q z (SP z) rfl _ rfl M ⟨GP,m+1,λ a=>L m a⟩
    .obtain e|⟨h,e,rfl⟩:=e
     .exact(Tr.get_spec e n k).2
     .exact(Tr.get_spec e n k).2.2 m E
   .obtain⟨h,e,rfl⟩:=C j;exact(Tr.get_spec e n k).2.2 m E
   .obtain⟨h,e,rfl⟩:=A j;exact(Tr.get_spec e n k).2.2 m E
def okP(b:Tb)(c:aa Nat)(i:FI):Prop:=∀m a,i.F (m+1) a=b.runP1 m i c a
def okS(b:Tb)(i:SI):Prop:=∀m a,i.F (m+1) a=b.runS1 m i a
def nP{P:aX}{b:Tb}{k:Nat}{c:aa Nat}{i:FI}{l r:Tr}(h:P.funcs[k]?=Z i.fn)(g:okP b c i)(e:l.prog P b)(d:r.prog P b)(f:∀a,i.F 0 a=U:=by exact λ _=>rfl):(Tr.node k l r (.pure [(c,i)])).prog P b:=⟨⟨⟨h,f,g,trivial⟩,Pf _ _⟩,e,d⟩
def nS{P:aX}{b:Tb}{k:Nat}{i:SI}{l r:Tr}(h:P.funcs[k]?=Z i.fn)(g:okS b i)(d:l.prog P b)(c:r.prog P b)(e:∀a,i.F 0 a=U:=by exact λ _=>rfl):(Tr.node k l r (.st i)).prog P b:=⟨⟨h,e,g⟩,d,c⟩
abbrev eP(i:FI):En:=.pure [([],i)]
abbrev eS(i:SI):En:=.st i
abbrev tL(k:Nat)(x:En):Tr:=.node k .leaf .leaf x
abbrev vI:=TV.i .i64
abbrev vT(l:aa T):=TV.sl .term l 1
section
variable {A B C D E F R:Type}
abbrev u0(f:Nat->R):Nat->Unit->R:=λ m _=>f m
abbrev u1(f:Nat->A->R):Nat->A×Unit->R:=λ m x=>f m x.1
abbrev u2(f:Nat->A->B->R):Nat->A×B×Unit->R:=λ m x=>f m x.1 x.2.1
abbrev u3(f:Nat->A->B->C->R):Nat->A×B×C×Unit->R:=λ m x=>f m x.1 x.2.1 x.2.2.1
abbrev u4(f:Nat->A->B->C->D->R):Nat->A×B×C×D×Unit->R:=λ m x=>f m x.1 x.2.1 x.2.2.1 x.2.2.2.1
abbrev u5(f:Nat->A->B->C->D->E->R):Nat->A×B×C×D×E×Unit->R:=λ m x=>f m x.1 x.2.1 x.2.2.1 x.2.2.2.1 x.2.2.2.2.1
end
def Tb.prim{P:aX}{b:Tb}(h:∀m,dd P (b.at m).pc.cfg)(m:Nat){f:Nat}(a:b.has f=O):cp P f (fX (cT (b.at m) f)):=by
 apply (h m).prim f _;show PC.prim _ f=_;unfold PC.prim
 have:(b.at m).pc.pf f=Z (cT (b.at m) f):=by
  show(match(b.at m).has f with|O=>Z (cT (b.at m) f)|Y=>U)=_;rw[show(b.at m).has f=O from a]
 rw[this]
end
section
open RowKit Go.Sort Proofs Shelf
def bare(Γ:Gh):Gh:={Γ with nb:=0,nr:=0}
def Rep.bare{Γ:Gh}{x:AV}{u:ah}(h:Rep Γ x u)(m:br x=O):Rep (bare Γ) x u:=by
 induction h with
 |v x h=>exact .v x h
 |sl k z f a n cap b o us p t s r c y w q A l=>exact .sl k z f a n cap b o us p t s r c y w q (λ i e j x g d=>l i e j x g d (c e (aP g) x (aP d)))
 |_=>simp[br]at m
def Inv.zero_lt{Γ:Gh}{σ:St}{w:ao}(h:Inv Γ σ w):0<w.heap.size:=let⟨_,_,a⟩:=h.tab.1;(dW.1 a).1
def Inv.bare{Γ:Gh}{σ:St}{w w':ao}(h:Inv Γ σ w)(d:w'.heap[0]?=w.heap[0]?)(k:∀b o u,Γ.mem b o=Z u->w'.cell? ⟨b,o,U⟩=Z u):Inv (bare Γ) emp w' where
 tab:=⟨let⟨e,fr,l⟩:=h.tab.1;⟨e,fr,d.trans l⟩,λ g=>g.elim (λ⟨i,a,_⟩=>absurd a (eh i)) λ⟨i,a,_⟩=>absurd a (eh i),h.tab.2.2⟩
 nb:=rfl
 nr:=rfl
 mem:=λ b o u e=>⟨k b o u e,(h.mem b o u e).2⟩
 box:=λ i cs e=>by cases e
 inj:=λ i j c=>absurd c (eh _)
 boxmem:=λ i c=>absurd c (eh _)
 row:=λ r R e=>by cases e
 apart:=λ r m f=>absurd f (eh _)
structure N4 (w w':ao):Prop where
 os:w'.os=w.os
 tape:w'.tape=w.tape
 output:w'.output=w.output
 size:w.heap.size<=w'.heap.size
 block:∀b,b<w.heap.size->w'.heap[b]?=w.heap[b]?
 drawn:w.drawn<=w'.drawn
def TN:∀(τ:Ty) (v:Val τ),gu τ (cG τ v)=Z v:=by
 intro τ v;have h:=jo τ v;cases τ<;>exact h
def Ri:∀(ts:aa Ty) (a:lu (ts.map ATy.val)),pb (ts.map ATy.val) (fc (ts.map ATy.val) a [])=Z a/\jM (fc (ts.map ATy.val) a [])=[]
 |[],_=>⟨rfl,rfl⟩
 |τ::r,a=>by
   let⟨d,c⟩:=Ri r a.2;constructor
   .show pD (gu τ) (pb (r.map ATy.val)) (cG τ a.1::fc (r.map ATy.val) a.2 [])=_;simp only[pD,TN,d];rfl
   .show jM (cG τ a.1::fc (r.map ATy.val) a.2 [])=[];have:=(yV (TN τ a.1)).2;cases b:cG τ a.1<;>first|exact c|exact absurd b (this _ _)
def Fn2(P:aX)(g:dm)(τ:Ty){a:Type}(enc:a->ah)(F:Val τ->Val τ->ac a):Prop:=
 kI P g/\∀{Γ:Gh}{w:ao}{x y:Val τ}{u v:ah}{c:a},Inv Γ emp w->Rep Γ (cG τ x) u->Rep Γ (cG τ y) v->F x y=Z c->Calls P g #[u,v] w λ e w'=>e=.returned (enc c)/\N4 w w'
def Mz{P:aX}{g:dm}{c:TC}{τ ρ:Ty}(o:cp P g (fX (cT c g))){F:Val τ->Val τ->ac (kE [ρ])}(z:c.pf g []=Z ⟨[.val τ,.val τ],[ρ],λ x=>F x.1 x.2.1⟩){enc:kE [ρ]->ah}(A:∀v,cN (gc [ρ] v)=.v (enc v)):Fn2 P g τ enc F:=by
 refine⟨o.1,λ{Γ w x y u v p} m a q B=>?_⟩;let⟨E,D⟩:=Ri [τ,τ] (x,y,())
 have t:cT c g [cG τ x,cG τ y]=Z (.v (enc p)):=by
  show cT c g (fc ([τ,τ].map ATy.val) (x,y,()) [])=_;unfold cT;rw[D,z];simp only;have n:pb [ATy.val τ,ATy.val τ] (fc ([τ,τ].map ATy.val) (x,y,()) [])=Z (x,y,()):=E;rw[n];simp only;rw[B];simp only;rw[A]
 have j:fX (cT c g) emp [cG τ x,cG τ y]=Z (.v (enc p),U):=by
  show(match cT c g [cG τ x,cG τ y]with|Z v=>Z (v,U)|U=>U)=_;rw[t]
 have:=o.2 Γ emp w _ [u,v] _ m (nU a (nU q RepL.nil)) j;apply Calls.mono this;rintro e w' ⟨G,Γ',rfl,a,_,h,_⟩;have s:=ch h;subst s;refine⟨rfl,a.os,a.tape,a.output,a.size,λ b C=>a.block b C ?_,a.drawn⟩;have l:Γ.nb=0:=m.nb;have k:Γ.nr=0:=m.nr;rintro(⟨i,f,_⟩|⟨r,d,_⟩)
 .rw[l]at f;exact absurd f (eh _)
 .rw[k]at d;exact absurd d (eh _)
def LM{P:aX}{b:Tb}{m:Nat}(h:dd P (b.at m).pc.cfg){f:Nat}(a:b.has f=O):cp P f (fX (cT (b.at m) f)):=by
 apply h.prim f _;show PC.prim _ f=_;unfold PC.prim
 have:(b.at m).pc.pf f=Z (cT (b.at m) f):=by
  show(match(b.at m).has f with|O=>Z (cT (b.at m) f)|Y=>U)=_;rw[show(b.at m).has f=O from a]
 rw[this]
def di{α:Type}(F:α->α->ac Int)(l:aa α)(i j:Nat):Int:=match l[i%I l]?,l[j%I l]? with
 |Z x,Z y=>(F x y).getD 0
 |_,_=>0
def kr{α a:Type}(F:α->α->ac a)(l:aa α):Bool:=l.all λ x=>l.all λ y=>(F x y).isSome
def ta(n:Nat)(lt:Nat->Nat->Bool):Bool:=(List.range n).all λ i => !lt i i&&(List.range n).all λ j=>(List.range n).all λ k=>(!(lt i j&&lt j k)||lt i k)&&(lt i j||(lt j k || !lt i k))
def gq{α:Type}(F:α->α->ac Int)(l:aa α):aa Nat:=V (Sort.pdq (ltOf (di F l)) (Array.range (I l)) 0 (I l) (Lib.bitLen (I l)) O O)
def pick{α:Type}(l:aa α)(a:aa Nat):aa α:=a.filterMap λ i=>l[i]?
def qv{α:Type}(F:α->α->ac Int):aa α->ac (aa α)
 |[]=>Z []
 |x::l=>cond (Nat.ble (I (x::l)) 100000&&(kr F (x::l)&&ta (I (x::l)) (ltOf (di F (x::l))))) (Z (pick (x::l) (gq F (x::l)))) U
def qkI{α:Type}(F:α->α->ac Int)(l:aa α)(i j:Nat):di F l i j=di F l (i%I l) (j%I l):=by
 unfold di;rw[Nat.mod_mod,Nat.mod_mod]
def qok{n:Nat}{lt:Nat->Nat->Bool}(l:0<n)(e:∀i j,lt i j=lt (i%n) (j%n))(h:ta n lt=O):SWO lt:=by
 have b:∀i j k,lt i i=Y/\(lt i j=O->lt j k=O->lt i k=O)/\(lt i j=Y->lt j k=Y->lt i k=Y):=by
  intro i j k;have a:∀i,i%n∈List.range n:=λ i=>nM.2 (qR _ l);have d:=bJ.1 h _ (a i);rw[aK]at d;have c:=bJ.1 (bJ.1 d.2 _ (a j)) _ (a k);rw[aK]at c;rw[e i i,e i j,e j k,e i k];let⟨d,_⟩:=d;let⟨c,g⟩:=c;refine⟨by simpa using d,λ e1 f=>?_,λ e1 f=>?_⟩
  .rw[e1,f]at c;simpa using c
  .rw[e1,f]at g;simpa using g
 exact⟨λ i=>(b i i i).1,λ i j k=>(b i j k).2.1,λ i j k=>(b i j k).2.2⟩
def LC{α:Type}{l:aa α}:∀{a:aa Nat},(∀i∈a,i<I l)->∀(q:Nat),(pick l a)[q]?=(a[q]?).bind λ i=>l[i]?
 |[],_,q=>by simp[pick]
 |i::a,h,q=>by
   have b:=h i (aW ..)
   have e:pick l (i::a)=l[i]::pick l a:=by
    unfold pick;rw[Pg,aV b]
   rw[e];cases q with
   |zero=>simp[aV b]
   |succ q=>simpa using LC (λ j c=>h j (aS _ c)) q
def K8{α:Type}{l:aa α}{a:aa Nat}(h:∀i∈a,i<I l):I (pick l a)=I a:=by
 induction a with
 |nil=>rfl
 |cons i a b=>
   have d:=h i (aW ..)
   have e:pick l (i::a)=l[i]::pick l a:=by
    unfold pick;rw[Pg,aV d]
   rw[e,bG,bG,b λ j c=>h j (aS _ c)]
def JK{α : Type}(F : α -> α -> ac Int)(l:aa α)(h:SWO (ltOf (di F l))):(gq F l).Perm (List.range (I l))/\SortedIn (ltOf (di F l)) 0 (I l) (gq F l).toArray:=by
 have hp:=pdq_sorts (ltOf (di F l)) h (Array.range (I l)) 0 (I l) (Lib.bitLen (I l)) O O (aL _) (by simp) (Or.inl rfl);obtain⟨⟨h1,_,h3⟩,h4⟩:=hp;have hsz:(Array.range (I l)).size=I l:=Ph;have hs':(Sort.pdq (ltOf (di F l)) (Array.range (I l)) 0 (I l) (Lib.bitLen (I l)) O O).size=I l:=h1.trans hsz;have e2:∀ a:aM Nat,a.size=I l->a.extract 0 (I l)=a := λ a ha=>by rw[<- ha];exact Array.extract_size
 rw[e2 _ hs',e2 _ hsz]at h3;refine⟨?_,h4⟩;rw[Array.toList_range]at h3;exact h3
def Wm{σ:St}{g:Nat}{r:aa SA}{nb c:Nat}{ys:aa AV}{a:iI (.clo g 0::r)}(h:dS σ (.clo g 0::r) nb c ys=Z a):∃b,ys=.fn g []::b/\dS σ r nb c b=Z a:=by
 cases ys with
 |nil=>simp[dS]at h
 |cons y ys=>
   simp only[dS]at h;split at h
   .next cs d=>obtain⟨rfl,e⟩:=Xl d;obtain rfl:=cJ e;exact⟨ys,rfl,h⟩
   .cases h
structure Oy (w0:ao) (blk:Nat) (et:aO) (vs:Array ah) (W:ao):Prop where
 hb:W.heap[blk]?=Z (.cells vs et (0,0))
 os:W.os=w0.os
 tape:W.tape=w0.tape
 output:W.output=w0.output
 size:w0.heap.size<=W.heap.size
 other:∀b,b<w0.heap.size->b≠blk->W.heap[b]?=w0.heap[b]?
 drawn:w0.drawn<=W.drawn
def Oy.refl{w:ao}{a:Nat}{b:aO}{vs:aM ah}(h:w.heap[a]?=Z (.cells vs b (0,0))):Oy w a b vs w:=⟨h,rfl,rfl,rfl,al _,λ _ _ _=>rfl,al _⟩
theorem sort_blks{w:ao}{blk:Nat}{et:aO}{vs:Array ah}(hb:w.heap[blk]?=some (.cells vs et (0,0))){α : Type}[Inhabited α](enc : α -> List ah)(k m:Nat)(dk:Array α)(os:Array Obj) :
  Oy w blk et (putCells id 0 (flatK enc k dk) vs) (sortWorldK enc k w blk 0 m dk os):=by
 have hlt:blk<w.heap.size:=(dW.1 hb).1;have hh:(sortWorldK enc k w blk 0 m dk os).heap=w.heap.modify blk (onCells (putCells id 0 (flatK enc k dk)))++os:=rfl;refine⟨?_,rfl,rfl,rfl,?_,λ b hb' hn=>?_,kM _ _⟩
 ·rw[hh,qoR (by simpa using hlt),ZB,ag rfl,hb];rfl
 ·grind
 ·grind
def N4.grow{W w':ao}(h:N4 W w'):∃q a,w'=Sort.grow (W.drewN q) a:=by
 refine⟨w'.drawn-W.drawn,w'.heap.extract W.heap.size w'.heap.size,?_⟩
 have c:w'.heap=W.heap++w'.heap.extract W.heap.size w'.heap.size:=by
  apply Array.ext_getElem?;intro i;by_cases b:i<W.heap.size
  .rw[qoR b];exact h.block i b
  .grind
 have d:W.drawn+(w'.drawn-W.drawn)=w'.drawn:=Nat.add_sub_cancel' h.drawn;let⟨g,f,e,_,_,_⟩:=h;cases w';cases W;simp only[Sort.grow,World.drewN]at *;rw[<-c,d,g,f,e]
def gQ(vs:aM ah)(k p:Nat):aa ah:=(vs.toList.drop (p*k)).take k
theorem FG{vs:aM ah}{k p j:Nat}(a:j<k):(gQ vs k p)[j]?=vs[p*k+j]?:=by
 grind [gQ]
def Lq{vs:aM ah}{k p n:Nat}(a:p<n)(b:n*k<=vs.size):I (gQ vs k p)=k:=by
 unfold gQ;have:(p+1)*k<=n*k:=cj _ a;grind
def Vg{Γ:Gh}{τ:Ty}{c:aa (aa AV)}{l:aa (Val τ)}{vs:aM ah}{n:Nat}(q:I c=n)(t:∀e∈c,I e=τ.size)(r:ci (bq τ) c=Z l)(w:gV Γ τ.size c (vs.toList.take (n*τ.size)))(s:n*τ.size<=vs.size)
  {p:Nat}{x:Val τ} (o:l[p]?=Z x):RepL Γ (aq τ x) (gQ vs τ.size p)/\∀u∈gQ vs τ.size p,u.oneCell'=O:=by
 have h:I l=n:=(en r).symm.trans q;have d:p<n:=by rw[<-h];exact getElem?_lt o
 have a:p<I c:=by rw[q];exact d
 let⟨x',b,m⟩:=oS r (aV a);rw[o]at b;cases b;have g:=t _ (iq a);have f:=Lq (k:=τ.size) d s
 have get:∀j,j<τ.size->∃u,(gQ vs τ.size p)[j]?=Z u/\Rep Γ (c[p][j]?.getD .dead) u/\u.oneCell'=O:=by
  intro j v;have i:j<c[p].length:=by rw[g];exact v
  let⟨u,u1,u2,u3⟩:=w p c[p] j _ (aV a) (aV i);grind [FG,List.getElem?_eq_getElem]
 constructor
 .refine(xr m).rep ⟨by rw[f,g],λ j y u z A=>?_⟩;grind
 .grind [List.getElem?_of_mem]
def JZ(j k n:Nat)(h:j<n*k):j/k<n/\j/k*k+j%k=j/\j%k<k:=by
 have a:0<k:=by
  grind
 refine⟨(OU a).2 h,?_,qR _ a⟩;rw[tg];exact H2 j k
set_option maxHeartbeats 1000000 in
def Tg{P:aX}{ρ : Ren}(L:SlLaysF0.n6 P ρ){τ : Ty}{g:dm}(hag:∀ v,cG τ v = .agg (aq τ v))(aE:∀ w,(isAgg (ρ.t 24)).run P w = .ok O w)(zE:∀ w,(Go.sizeOf (ρ.t 24)).run P w = .ok τ.size w)
  {F:Val τ -> Val τ -> ac Int} (hF:Fn2 P g τ (λ c:Int => .int .i64 c) F) (hf:kI P (ρ.f 6)) {fn:aa (Val τ)->ac (aa (Val τ))} (hfn:∀ l r,fn l=Z r->qv F l=Z r) (hk1' : τ.size≠1:=by first | assumption | decide) :
  cp P (ρ.f 6) (mgP ⟨τ,[.clo g 0],λ x=>fn x.1⟩):=by
 refine⟨hf,λ Γ σ w args vals r hi hr hp=>?_⟩;unfold mgP at hp;split at hp
 case h_2=>cases hp
 rename_i x hx;split at hp
 case h_2=>cases hp
 rename_i v hv;split at hp
 case h_2=>cases hp
 rename_i hlen;obtain⟨l,_⟩:=x;have hv:=hfn _ _ hv;have hlen:I v=I l:=cg hlen;obtain⟨y0,ys0,nr,rfl,hy0,hx1⟩:=GO hx;obtain⟨ys1,rfl,hx2⟩:=Wm (g:=g) (r:=[]) hx1;obtain⟨rfl,hbx,hrw⟩:=vk hx2;clear hx hx1 hx2;obtain⟨u0,r0,rfl,hu0,hr⟩:=hr.uncons;obtain⟨u1,r1,rfl,hu1,hr⟩:=hr.uncons;have:=hr.nil_inv;subst this
 have hu1:u1 = .func (.func g) #[] #[]:=by
  cases hu1 with
  | fn _ _ us hn _=>obtain rfl:=cJ hn;rfl
 subst hu1;have hb0 : σ.bx=[]:=cJ hbx.symm;have none0:∀(p:ac Addr) (cap:Nat),Calls P (ρ.f 6) #[.slice p 0 cap,.func (.func g) #[] #[]] w λ e w'=>e = .returned (.tuple #[])/\w'=w := λ p cap=>AnyF.slices_SortFunc_none L p cap _ w;have tup:∀ Γ,Rep Γ (.tup []) (.tuple #[]) := λ Γ => .tup [] [] rfl (λ i x u h=>by cases h);rcases DW hy0 with⟨hnr,R,rfl,hR,hRk,hRf,hRd⟩ | ⟨hnr,hl0,hy⟩
 ·have hrw1 : σ.rw=[R]:=by
    rw[hnr]at hrw
    match hq : σ.rw,hrw with
    | [Q],_=>rw[hq]at hR;cases hR;rfl
  rw[hb0,hrw1]at hp;cases hp;have H:=hi.row 0 R hR;have hcl:I R.c=I l:=en hRd;have hlk:∀ e∈R.c,I e = τ.size := λ e he=>(H.len e he).trans hRk
  have vC:bP { σ with wr:=[],wrr:=[] } ⟨[],[⟨R.k,v.map (aq τ),R.ver,R.fz,R.off⟩],[],[0]⟩ :=
   ⟨by show I σ.bx<=0;rw[hb0];exact al _,by show I σ.rw<=1;rw[hrw1];exact al _,λ i hi _=>(by have hi:i < I σ.bx:=hi;rw[hb0]at hi;exact absurd hi (eh _)),λ i hi hn=>(by
    have hi:i < I σ.rw:=hi;rw[hrw1]at hi;have hi:i<1:=hi;obtain rfl:i=0:=by omega
    exact absurd (bW.2 rfl) hn),λ i h=>(by cases h),λ i h=>(by cases h)⟩
  obtain⟨p,cap,rfl,hcap,hrm⟩:=L9 hi hR hRk hRf hu0;by_cases hl0:l=[]
  ·subst hl0;have hc0:R.c=[]:=cJ hcl;have hv0:v=[]:=cJ hlen;subst hv0;rw[hcl];apply (none0 p cap).mono;rintro e w' ⟨rfl,rfl⟩;refine⟨_,Γ,rfl,.refl _ _,?_,tup _,vC⟩
   have:(⟨[],[⟨R.k,([]:aa (Val τ)).map (aq τ),R.ver,R.fz,R.off⟩],[],[0]⟩:St)=⟨[],[R],[],[0]⟩:=by
    show(⟨[],[⟨R.k,[],R.ver,R.fz,R.off⟩],[],[0]⟩:St)=_;rw[<- hc0]
   show Inv Γ ⟨[],[⟨R.k,([]:aa (Val τ)).map (aq τ),R.ver,R.fz,R.off⟩],[],[0]⟩ w';rw[this];exact hi.wr hb0.symm hrw1.symm
  ·have hlpos:0<I l:=wd.2 hl0;rcases hrm with h0 | ⟨rfl,hz,vs,et,hvs,hvsz,hfit,hca,hxl,h1⟩
   ·omega
   obtain⟨n,hn⟩:∃ n,n=I l:=⟨_,rfl⟩
   have hnc:I R.c=n:=hcl.trans hn.symm;rw[hnc]at hca hxl h1 hcap |-
   have hns:n * τ.size<=vs.size:=bR (cj _ hcap) hfit;have hsz0:0 < τ.size:=jk τ
   have hv':Nat.ble (I l) 100000=O/\kr F l=O/\ta (I l) (ltOf (di F l))=O/\v=pick l (gq F l):=by
    cases l with
    | nil=>exact absurd rfl hl0
    | cons y l =>
      have hv:cond _ _ _=Z v:=hv;cases hb:(Nat.ble (I (y::l)) 100000&&(kr F (y::l)&&ta (I (y::l)) (ltOf (di F (y::l)))))with
      | false=>unfold qv at hv;rw[hb]at hv;cases hv
      | true =>
        have hb':=hb;simp only[aK]at hb';unfold qv at hv;rw[hb]at hv;cases hv;exact⟨hb'.1,hb'.2.1,hb'.2.2,rfl⟩
   obtain⟨v1,v2,v3,v4⟩:=hv';have v1:I l<=100000:=nT v1;have hO:SWO (ltOf (di F l)):=qok hlpos (λ i j=>by unfold ltOf;rw[qkI]) v3;obtain⟨hperm,_⟩:=JK F l hO;have hixlt:∀ i∈gq F l,i<I l := λ i hi=>nM.1 (hperm.mem_iff.1 hi);have hixlen:I (gq F l)=I l:=by rw[hperm.length_eq,wm]
   have hER:∀{q:Nat} {y:Val τ},l[q]?=Z y->RepL Γ (aq τ y) (gQ vs τ.size q)/\∀ u∈gQ vs τ.size q,u.oneCell'=O := λ hq=>Vg hnc hlk hRd hca hns hq;have hlast:∀ i,i % n<n := λ i=>qR _ (by omega);obtain⟨enc,henc⟩:∃ enc:Nat->aa ah,enc = λ i=>gQ vs τ.size (i % n):=⟨_,rfl⟩
   have hek:∀ i,I (enc i) = τ.size := λ i=>by rw[henc];exact Lq (hlast i) hns
   have hlget:∀ i,∃ y,l[i % n]?=Z y := λ i=>⟨_,aV (by rw[<- hn];exact hlast i)⟩
   have he1:∀ i,∀ u∈enc i,u.oneCell'=O := λ i u hu=>by
    rw[henc]at hu;obtain⟨y,hy⟩:=hlget i;exact(hER hy).2 u hu
   have hrange:(Array.range n).size=n:=Ph;have hvsb:w.heap[Γ.cur 0]?=Z (.cells vs et (0,0)):=hvs;have hblk : Γ.cur 0<w.heap.size:=(dW.1 hvsb).1;have hmem0:∀ off,Γ.mem (Γ.cur 0) off=U := λ off=>H.un hz off (by rw[hRf.1,kK,H.off hRf.2];exact aL _)
   have hH:HoldsK enc τ.size w (Γ.cur 0) 0 (Array.range n):=by
    intro j hj;rw[size_flatK,hrange]at hj;obtain⟨q1,q2,q3⟩:=JZ j τ.size n hj;have hjs:j<vs.size:=cU hj hns;constructor
    ·rw[get_flatK _ _ _ _ (by rw[hrange];exact hj)];have e1:(Array.range n)[j / τ.size]! = j / τ.size:=by rw[tp _ _ (by rw[hrange];exact q1)];simp
     rw[e1,henc];show _=Z ((gQ vs τ.size (j / τ.size % n))[j % τ.size]!);rw[wc q1];have e2:(gQ vs τ.size (j / τ.size))[j % τ.size]?=Z vs[j]:=by rw[FG q3,q2];exact gi hjs
     rw[cI,Blk.cell hvs,Pj,e2,gi hjs];rfl
    ·exact Blk.free hvs _
   have hcmp:CmpLays P g #[] enc τ.size (di F l) (Γ.cur 0) 0 (Array.range n).size w:=by
    intro m os dk hdk x y;have B:=sort_blks hvsb enc τ.size m dk os;obtain⟨W,hW⟩:∃ W,W=sortWorldK enc τ.size w (Γ.cur 0) 0 m dk os:=⟨_,rfl⟩
    rw[<- hW]at B |-
    have hiW:Inv (bare Γ) emp W:=hi.bare (B.other 0 hi.zero_lt λ hb=>hi.tab.2.2 (by have:=hmem0 0;rw[<- hb]at this;exact this)) λ b o u e=>by
     have hne:b ≠ Γ.cur 0 := λ hb=>by rw[hb,hmem0]at e;cases e
     have hc:=(hi.mem b o u e).1;have hblt:=hi.mem_lt e;rw[show W.cell? _=w.cell? _ from World.cell?_of_block (B.other b hblt hne)];exact hc
    have rep:∀(i:Nat) (y:Val τ),l[i % n]?=Z y->Rep (bare Γ) (cG τ y) (.agg (enc i).toArray) := λ i y hy=>by
     obtain⟨q1,q2⟩:=hER hy;rw[hag];have:enc i=gQ vs τ.size (i % n):=by rw[henc]
     rw[this];refine .agg _ _ q1.len q2 λ j z u a b=>(q1.rep j z u a b).bare (fI τ y z (aP a))
    obtain⟨lx,hx⟩:=hlget x;obtain⟨ly,hy⟩:=hlget y;have hsome:=bJ.1 (bJ.1 v2 lx (aP hx)) ly (aP hy);obtain⟨c,hc⟩:=qoS.1 hsome
    have hcf:di F l x y=c:=by
     unfold di;rw[<- hn,hx,hy];simp only;rw[hc];rfl
    rw[hcf];have hcall:=hF.2 hiW (rep x lx hx) (rep y ly hy) hc;apply Calls.mono (by simpa using hcall);rintro e w' ⟨rfl,hid⟩;exact⟨rfl,hid.grow⟩
   have hcall:=AnyQ.slices_SortFunc_eq L τ.size aE zE enc hek he1 (di F l) hO g #[] (Γ.cur 0) 0 cap (Array.range n) w (λ args w=>Je hF.1 args w) hcmp hH hblk (by rw[hrange];omega);rw[hrange]at hcall;apply Calls.mono hcall;rintro e w' ⟨rfl,m,os,hw'⟩;have B:=sort_blks hvsb enc τ.size m (pdq (ltOf (di F l)) (Array.range n) 0 n (Lib.bitLen n) O O) os;rw[<- hw']at B;have hix:gq F l=V (pdq (ltOf (di F l)) (Array.range n) 0 n (Lib.bitLen n) O O):=by unfold gq;rw[hn]
   obtain⟨dk,hdk⟩:∃ dk,dk=pdq (ltOf (di F l)) (Array.range n) 0 n (Lib.bitLen n) O O:=⟨_,rfl⟩
   rw[<- hdk]at B hix;have hdks:dk.size=n:=by rw[<- jg,<- hix,hixlen,hn]
   have hvlen:I (v.map (aq τ))=n:=by rw[ce,hlen,hn]
   have hflat:(flatK enc τ.size dk).size=n * τ.size:=by rw[size_flatK,hdks]
   have hpsz:(putCells id 0 (flatK enc τ.size dk) vs).size=vs.size:=by unfold putCells;rw[ZP]
   obtain⟨Γ',x1,x2,_⟩:=Lf hi hR (H.off hRf.2) (R':=⟨R.k,v.map (aq τ),R.ver,R.fz,R.off⟩) (by rw[hRf.1];exact aL _) rfl (g := Γ.cur 0) (vs:=putCells id 0 (flatK enc τ.size dk) vs) (e:=et) (.inr ⟨rfl,rfl,hpsz.trans hvsz⟩)
    (λ e he=>by obtain⟨y,_,rfl⟩:=bu.1 he;rw[fK,hRk]) (λ e he=>by obtain⟨y,_,rfl⟩:=bu.1 he;exact fI τ y) (by show R.fz<=_;rw[hRf.1];exact aL _) (G9 _) (λ _=>rfl) B.hb
    (by show(v.map (aq τ)).length*R.k<=_;rw[hvlen,hRk,hpsz];exact hns)
    (λ off _=>hmem0 off)
    (λ i e j x he hx=>by
     have he:(v.map (aq τ))[i]?=Z e:=he;have hin:i<n:=by rw[<- hvlen];exact getElem?_lt he
     rw[dC,v4,LC hixlt]at he;have hixi:(gq F l)[i]?=Z dk[i]:=by rw[hix,jh];exact gi (by omega)
     rw[hixi]at he
     obtain⟨y,hy,rfl⟩:∃ y,l[dk[i]]?=Z y/\aq τ y=e:=by
      cases hq:l[dk[i]]? with
      | none=>simp[hq]at he
      | some y=>simp[hq]at he;exact⟨y,rfl,he⟩
     have hdl:dk[i]<n:=cU (getElem?_lt hy) (Bo hn.symm);obtain⟨q1,q2⟩:=hER hy;have hj:j < τ.size:=by rw[<- fK τ y];exact getElem?_lt hx
     obtain⟨u,hu,hrep⟩:=q1.get hx;refine⟨u,?_,hrep,q2 u (aP hu)⟩;rw[hRk]
     have hlt:i * τ.size+j<n * τ.size:=by
      have:(i+1) * τ.size<=n * τ.size:=cj _ hin;rw[kL]at this;omega
     unfold putCells;rw[qoT,gi (cU hlt hns),lK,ag ⟨aL _,by rw[hflat,cI];exact hlt⟩,ZQ,id,get_flatK _ _ _ _ (by rw[hdks];exact hlt)];have e1:(i * τ.size+j) / τ.size=i:=by rw[tg,Nat.mul_add_div hsz0,Nat.div_eq_of_lt hj,dE]
     have e2:(i * τ.size+j) % τ.size=j:=by rw[tg,Nat.mul_add_mod,wc hj]
     rw[e1,e2,tp dk i (by omega),henc];show Z ((gQ vs τ.size (dk[i] % n))[j]!)=_;rw[wc hdl,Pj,hu];rfl)
    (λ b o u hm=>by
     have hne:b ≠ Γ.cur 0 := λ hb=>by rw[hb,hmem0]at hm;cases hm
     rw[show w'.cell? _=w.cell? _ from World.cell?_of_block (B.other b (hi.mem_lt hm) hne)];exact(hi.mem b o u hm).1)
    (λ b hb hor=>B.other b hb (hor.elim id λ h0=>absurd h0 hz)) (.inl ⟨rfl,hz⟩) B.os B.tape B.output B.size B.drawn [0]
   refine⟨_,Γ',rfl,x1,?_,tup _,vC⟩;apply x2.wr
   ·exact hb0.symm
   ·show[(⟨R.k,v.map (aq τ),R.ver,R.fz,R.off⟩:Row)] = σ.rw.set 0 _;rw[hrw1];rfl
 ·have hrw0 : σ.rw=[]:=by rw[hnr]at hrw;exact cJ hrw.symm
  rw[hb0,hrw0]at hp;cases hp
  have hfin:∀(p:ac Addr) (cap:Nat),jI P Γ σ w (ρ.f 6) [.slice p 0 cap,.func (.func g) #[] #[]] (.tup [],U) := λ p cap=>by
   apply (none0 p cap).mono;rintro e w' ⟨rfl,rfl⟩;exact⟨_,Γ,rfl,.refl _ _,hi,tup _,.refl _⟩
  rcases hy with rfl | ⟨f,rfl,hf2⟩
  ·have hu0:=ch hu0;subst hu0;exact hfin U 0
  ·cases hu0 with
   | sl _ _ _ a n cap b o us hn _ _ _ _ _ _ _ _ =>
     have hn:n=0:=hn;subst hn;exact hfin a cap
end
end Go.AmZ
