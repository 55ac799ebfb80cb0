/- Part 4 of what the proofs stand on: plain functions of the program, and that they are its functions. -/
import Derived.Test.YtfepnknpfhiemaaGreatDoorM3
import Derived.KernelRfl
import Derived.Test.YtfepnknpfhiemaaGreatDoorProg
import Derived.Test.YtfepnknpfhiemaaGreatDoorM2
import Derived.IntWalk
import Derived.Lib.Bytealg
set_option linter.unusedVariables false
set_option linter.unusedSimpArgs false
set_option linter.defProp false
noncomputable section
open Option renaming some->Z,none->U
open Bool renaming true->O,false->Y
open Decidable renaming decide->X
open List renaming length->J
open Array renaming toList->V
open Go renaming Value->aj,World->aC,TypeId->aQ,Program->ba,FuncId->cJ
namespace Go.AmZ
open GxZ
section
open RowKit Go.Sort Proofs Shelf
structure PD (w0:aC) (blk:Nat) (et:aQ) (vs:Array aj) (W:aC):Prop where
 hb:W.heap[blk]?=Z (.cells vs et (0,0))
 os:W.os=w0.os
 tape:W.tape=w0.tape
 output:W.output=w0.output
 size:w0.heap.size<=W.heap.size
 other:∀b,b<w0.heap.size->b≠blk->W.heap[b]?=w0.heap[b]?
 drawn:w0.drawn<=W.drawn
def PD.refl{w:aC}{a:Nat}{b:aQ}{vs:aL aj}(h:w.heap[a]?=Z (.cells vs b (0,0))):PD w a b vs w:=⟨h,rfl,rfl,rfl,au _,λ _ _ _=>rfl,au _⟩
theorem sort_blks{w:aC}{blk:Nat}{et:aQ}{vs:Array aj}(hb:w.heap[blk]?=some (.cells vs et (0,0))){α : Type}[Inhabited α](enc : α -> List aj)(k m:Nat)(dk:Array α)(os:Array Obj) :
  PD w blk et (putCells id 0 (flatK enc k dk) vs) (sortWorldK enc k w blk 0 m dk os):=by
 have hlt:blk<w.heap.size:=(eH.1 hb).1;have hh:(sortWorldK enc k w blk 0 m dk os).heap=w.heap.modify blk (onCells (putCells id 0 (flatK enc k dk)))++os:=rfl;refine⟨?_,rfl,rfl,rfl,?_,λ b hb' hn=>?_,kM _ _⟩
 ·rw[hh,qc5 (by simpa using hlt),QO,af rfl,hb];rfl
 ·rw[hh,wc,Array.size_modify];exact kM _ _
 ·rw[hh,qc5 (by simpa using hb'),QO,ae (mH hn)]
def PB.grow{W w':aC}(h:PB W w'):∃q a,w'=Sort.grow (W.drewN q) a:=by
 refine⟨w'.drawn-W.drawn,w'.heap.extract W.heap.size w'.heap.size,?_⟩
 have c:w'.heap=W.heap++w'.heap.extract W.heap.size w'.heap.size:=by
  apply Array.ext_getElem?;intro i;by_cases b:i<W.heap.size
  .rw[qc5 b];exact h.block i b
  .rw[Array.getElem?_append_right (by omega),Array.getElem?_extract];split
   .congr 1;omega
   .rw[Array.getElem?_eq_none (by omega)]
 have d:W.drawn+(w'.drawn-W.drawn)=w'.drawn:=Nat.add_sub_cancel' h.drawn;let⟨g,f,e,_,_,_⟩:=h;cases w';cases W;simp only[Sort.grow,World.drewN]at *;rw[<-c,d,g,f,e]
def gU(vs:aL aj)(k p:Nat):aa aj:=(vs.toList.drop (p*k)).take k
def G0{vs:aL aj}{k p j:Nat}(a:j<k):(gU vs k p)[j]?=vs[p*k+j]?:=by
 unfold gU;rw[fR,af a,iQ,gF]
def MR{vs:aL aj}{k p n:Nat}(a:p<n)(b:n*k<=vs.size):J (gU vs k p)=k:=by
 unfold gU;have:(p+1)*k<=n*k:=bY _ a;rw[jR]at this;rw[bg,gf,ir];omega
def Xv{Γ:Gh}{τ:Ty}{c:aa (aa AV)}{l:aa (Val τ)}{vs:aL aj}{n:Nat}(v:J c=n)(B:∀e∈c,J e=τ.size)(w:bV (bt τ) c=Z l)(C:gK Γ τ.size c (vs.toList.take (n*τ.size)))(A:n*τ.size<=vs.size)
  {p:Nat}{x:Val τ} (t:l[p]?=Z x):RepL Γ (aH τ x) (gU vs τ.size p)/\∀u∈gU vs τ.size p,u.oneCell'=O:=by
 have o:J l=n:=(dX w).symm.trans v;have h:p<n:=by rw[<-o];exact getElem?_lt t
 have b:p<J c:=by rw[v];exact h
 let⟨x',g,r⟩:=oN w (aU b);rw[t]at g;cases g;have f:=B _ (gC b);have a:=MR (k:=τ.size) h A
 have get:∀j,j<τ.size->∃u,(gU vs τ.size p)[j]?=Z u/\Rep Γ (c[p][j]?.getD .dead) u/\u.oneCell'=O:=by
  intro j d;have i:j<c[p].length:=by rw[f];exact d
  let⟨u,u1,u2,u3⟩:=C p c[p] j _ (aU b) (aU i);refine⟨u,?_,?_,u3⟩
  .rw[G0 d,<-gF];rw[fR]at u1;split at u1
   .exact u1
   .cases u1
  .rw[aU i];exact u2
 constructor
 .refine(xE r).rep ⟨by rw[a,f],λ j y u s m=>?_⟩;have d:j<τ.size:=by rw[<-f];exact getElem?_lt s
  let⟨z,u1,u2,_⟩:=get j d;rw[m]at u1;cases u1;rw[s]at u2;exact u2
 .intro u m;let⟨j,d⟩:=mI m;have q:j<τ.size:=by rw[<-a];exact getElem?_lt d
  let⟨z,u1,_,u3⟩:=get j q;rw[d]at u1;cases u1;exact u3
def LM(j k n:Nat)(h:j<n*k):j/k<n/\j/k*k+j%k=j/\j%k<k:=by
 have b:0<k:=by
  obtain a|a:=qcN k
  .rw[a,Nat.mul_zero]at h;exact absurd h (fe _)
  .exact a
 refine⟨(QN b).2 h,?_,sR _ b⟩;rw[vY];exact Jp j k
set_option maxHeartbeats 1000000 in
theorem Vq{P:ba}{N:cJ}{τ : Ty}{g:cJ}(hnone:∀(p:Option Addr) (cap:Nat) (w:aC),Calls P N #[.slice p 0 cap,.func (.func g) #[] #[]] w λ e w'=>e = .returned (.tuple #[])/\w'=w)
  (hsome:∀(enc:Nat->List aj),(∀ x,(enc x).length = τ.size)->(∀ x,∀ v∈enc x,v.oneCell'=true)->∀(cf:Nat->Nat->Int),SWO (ltOf cf)->∀(blk off cap:Nat) (d:Array Nat) (w:aC),(∀ args w,(callFunc g args).run P w = .ok (.enter g args) w)->CmpLays P g #[] enc τ.size cf blk off d.size w->HoldsK enc τ.size w blk off d->blk<w.heap.size->d.size<4611686018427387904 ->
   Calls P N #[.slice (some ⟨blk,off,none⟩) d.size cap,.func (.func g) #[] #[]] w λ e w'=>e = .returned (.tuple #[])/\∃ n os,w'=sortWorldK enc τ.size w blk off n (pdq (ltOf cf) d 0 d.size (Lib.bitLen d.size) true true) os) (hag:∀ v,cy τ v = .agg (aH τ v))
  {F:Val τ -> Val τ -> Option Int} (hF:Fn2 P g τ (λ c:Int => .int .i64 c) F) (hf:jQ P N) {fn:List (Val τ)->Option (List (Val τ))} (hfn:∀ l r,fn l=some r->pd F l=some r) :
  cq P N (mgP ⟨τ,[.clo g 0],λ x=>fn x.1⟩):=by
 refine⟨hf,λ Γ I w args vals r hi hr hp=>?_⟩;unfold mgP at hp;split at hp
 case h_2=>cases hp
 rename_i x hx;split at hp
 case h_2=>cases hp
 rename_i v hv;split at hp
 case h_2=>cases hp
 rename_i hlen;obtain⟨l,_⟩:=x;have hv:=hfn _ _ hv;have hlen:v.length=l.length:=cn hlen;obtain⟨y0,ys0,nr,rfl,hy0,hx1⟩:=Il hx;obtain⟨ys1,rfl,hx2⟩:=ZN (g:=g) (r:=[]) hx1;obtain⟨rfl,hbx,hrw⟩:=xQ hx2;clear hx hx1 hx2;obtain⟨u0,r0,rfl,hu0,hr⟩:=hr.uncons;obtain⟨u1,r1,rfl,hu1,hr⟩:=hr.uncons;have:=hr.nil_inv;subst this
 have hu1:u1 = .func (.func g) #[] #[]:=by
  cases hu1 with
  | fn _ _ us hn _=>obtain rfl:=cT hn;rfl
 subst hu1;have hb0:I.bx=[]:=cT hbx.symm;have none0:∀(p:Option Addr) (cap:Nat),Calls P N #[.slice p 0 cap,.func (.func g) #[] #[]] w λ e w'=>e = .returned (.tuple #[])/\w'=w := λ p cap=>hnone p cap w;have tup:∀ Γ,Rep Γ (.tup []) (.tuple #[]) := λ Γ => .tup [] [] rfl (λ i x u h=>by cases h);rcases Fo hy0 with⟨hnr,R,rfl,hR,hRk,hRf,hRd⟩ | ⟨hnr,hl0,hy⟩
 ·have hrw1:I.rw=[R]:=by
    rw[hnr]at hrw
    match hq:I.rw,hrw with
    | [Q],_=>rw[hq]at hR;cases hR;rfl
  rw[hb0,hrw1]at hp;cases hp;have H:=hi.row 0 R hR;have hcl:R.c.length=l.length:=dX hRd;have hlk:∀ e∈R.c,e.length = τ.size := λ e he=>(H.len e he).trans hRk
  have vq:bN { I with wr:=[],wrr:=[] } ⟨[],[⟨R.k,v.map (aH τ),R.ver,R.fz,R.off⟩],[],[0]⟩ :=
   ⟨by show I.bx.length<=0;rw[hb0];exact au _,by show I.rw.length<=1;rw[hrw1];exact au _,λ i hi _=>(by have hi:i<I.bx.length:=hi;rw[hb0]at hi;exact absurd hi (fe _)),λ i hi hn=>(by
    have hi:i<I.rw.length:=hi;rw[hrw1]at hi;have hi:i<1:=hi;obtain rfl:i=0:=by omega
    exact absurd (dN.2 rfl) hn),λ i h=>(by cases h),λ i h=>(by cases h)⟩
  obtain⟨p,cap,rfl,hcap,hrm⟩:=NW hi hR hRk hRf hu0;by_cases hl0:l=[]
  ·subst hl0;have hc0:R.c=[]:=cT hcl;have hv0:v=[]:=cT hlen;subst hv0;rw[hcl];refine(none0 p cap).mono ?_;rintro e w' ⟨rfl,rfl⟩;refine⟨_,Γ,rfl,.refl _ _,?_,tup _,vq⟩
   have:(⟨[],[⟨R.k,([]:List (Val τ)).map (aH τ),R.ver,R.fz,R.off⟩],[],[0]⟩:St)=⟨[],[R],[],[0]⟩:=by
    show(⟨[],[⟨R.k,[],R.ver,R.fz,R.off⟩],[],[0]⟩:St)=_;rw[<- hc0]
   show Inv Γ ⟨[],[⟨R.k,([]:List (Val τ)).map (aH τ),R.ver,R.fz,R.off⟩],[],[0]⟩ w';rw[this];exact hi.wr hb0.symm hrw1.symm
  ·have hlpos:0<l.length:=yK.2 hl0;rcases hrm with h0 | ⟨rfl,hz,vs,et,hvs,hvsz,hfit,hca,hxl,h1⟩
   ·omega
   obtain⟨n,hn⟩:∃ n,n=l.length:=⟨_,rfl⟩
   have hnc:R.c.length=n:=hcl.trans hn.symm;rw[hnc]at hca hxl h1 hcap |-
   have hns:n * τ.size<=vs.size:=bT (bY _ hcap) hfit;have hsz0:0 < τ.size:=jk τ
   have hv':Nat.ble l.length 100000=true/\kx F l=true/\sF l.length (ltOf (dd F l))=true/\v=pick l (eJ F l):=by
    cases l with
    | nil=>exact absurd rfl hl0
    | cons y l =>
      have hv:cond _ _ _=some v:=hv;cases hb:(Nat.ble (y::l).length 100000&&(kx F (y::l)&&sF (y::l).length (ltOf (dd F (y::l)))))with
      | false=>unfold pd at hv;rw[hb]at hv;cases hv
      | true =>
        have hb':=hb;simp only[aJ]at hb';unfold pd at hv;rw[hb]at hv;cases hv;exact⟨hb'.1,hb'.2.1,hb'.2.2,rfl⟩
   obtain⟨v1,v2,v3,v4⟩:=hv';have v1:l.length<=100000:=gV v1;have hO:SWO (ltOf (dd F l)):=qsM hlpos (λ i j=>by unfold ltOf;rw[qqT]) v3;obtain⟨hperm,_⟩:=LD F l hO;have hixlt:∀ i∈eJ F l,i<l.length := λ i hi=>jT.1 (hperm.mem_iff.1 hi);have hixlen:(eJ F l).length=l.length:=by rw[hperm.length_eq,wm]
   have hER:∀{q:Nat} {y:Val τ},l[q]?=some y->RepL Γ (aH τ y) (gU vs τ.size q)/\∀ u∈gU vs τ.size q,u.oneCell'=true := λ hq=>Xv hnc hlk hRd hca hns hq;have hlast:∀ i,i % n<n := λ i=>sR _ (by omega);obtain⟨enc,henc⟩:∃ enc:Nat->List aj,enc = λ i=>gU vs τ.size (i % n):=⟨_,rfl⟩
   have hek:∀ i,(enc i).length = τ.size := λ i=>by rw[henc];exact MR (hlast i) hns
   have hlget:∀ i,∃ y,l[i % n]?=some y := λ i=>⟨_,aU (by rw[<- hn];exact hlast i)⟩
   have he1:∀ i,∀ u∈enc i,u.oneCell'=true := λ i u hu=>by
    rw[henc]at hu;obtain⟨y,hy⟩:=hlget i;exact(hER hy).2 u hu
   have hrange:(Array.range n).size=n:=Q4;have hvsb:w.heap[Γ.cur 0]?=some (.cells vs et (0,0)):=hvs;have hblk : Γ.cur 0<w.heap.size:=(eH.1 hvsb).1;have hmem0:∀ off,Γ.mem (Γ.cur 0) off=none := λ off=>H.un hz off (by rw[hRf.1,kL,H.off hRf.2];exact aG _)
   have hH:HoldsK enc τ.size w (Γ.cur 0) 0 (Array.range n):=by
    intro j hj;rw[size_flatK,hrange]at hj;obtain⟨q1,q2,q3⟩:=LM j τ.size n hj;have hjs:j<vs.size:=dq hj hns;constructor
    ·rw[get_flatK _ _ _ _ (by rw[hrange];exact hj)];have e1:(Array.range n)[j / τ.size]! = j / τ.size:=by rw[pE _ _ (by rw[hrange];exact q1)];simp
     rw[e1,henc];show _=some ((gU vs τ.size (j / τ.size % n))[j % τ.size]!);rw[qJ q1];have e2:(gU vs τ.size (j / τ.size))[j % τ.size]?=some vs[j]:=by rw[G0 q3,q2];exact gE hjs
     rw[bS,Blk.cell hvs,Q5,e2,gE hjs];rfl
    ·exact Blk.free hvs _
   have hcmp:CmpLays P g #[] enc τ.size (dd F l) (Γ.cur 0) 0 (Array.range n).size w:=by
    intro m os dk hdk x y;have B:=sort_blks hvsb enc τ.size m dk os;obtain⟨W,hW⟩:∃ W,W=sortWorldK enc τ.size w (Γ.cur 0) 0 m dk os:=⟨_,rfl⟩
    rw[<- hW]at B |-
    have hiW:Inv (bare Γ) emp W:=hi.bare λ b o u e=>by
     have hne:b ≠ Γ.cur 0 := λ hb=>by rw[hb,hmem0]at e;cases e
     have hc:=(hi.mem b o u e).1;have hblt:=hi.mem_lt e;rw[show W.cell? _=w.cell? _ from World.cell?_of_block (B.other b hblt hne)];exact hc
    have rep:∀(i:Nat) (y:Val τ),l[i % n]?=some y->Rep (bare Γ) (cy τ y) (.agg (enc i).toArray) := λ i y hy=>by
     obtain⟨q1,q2⟩:=hER hy;rw[hag];have:enc i=gU vs τ.size (i % n):=by rw[henc]
     rw[this];refine .agg _ _ q1.len q2 λ j z u a b=>(q1.rep j z u a b).bare (iC τ y z (aK a))
    obtain⟨lx,hx⟩:=hlget x;obtain⟨ly,hy⟩:=hlget y;have hsome:=bB.1 (bB.1 v2 lx (aK hx)) ly (aK hy);obtain⟨c,hc⟩:=qtw.1 hsome
    have hcf:dd F l x y=c:=by
     unfold dd;rw[<- hn,hx,hy];simp only;rw[hc];rfl
    rw[hcf];have hcall:=hF.2 hiW (rep x lx hx) (rep y ly hy) hc;refine Calls.mono (by simpa using hcall) ?_;rintro e w' ⟨rfl,hid⟩;exact⟨rfl,hid.grow⟩
   have hcall:=hsome enc hek he1 (dd F l) hO (Γ.cur 0) 0 cap (Array.range n) w (λ args w=>KW hF.1 args w) hcmp hH hblk (by rw[hrange];omega);rw[hrange]at hcall;refine Calls.mono hcall ?_;rintro e w' ⟨rfl,m,os,hw'⟩;have B:=sort_blks hvsb enc τ.size m (pdq (ltOf (dd F l)) (Array.range n) 0 n (Lib.bitLen n) true true) os;rw[<- hw']at B;have hix:eJ F l=(pdq (ltOf (dd F l)) (Array.range n) 0 n (Lib.bitLen n) true true).toList:=by unfold eJ;rw[hn]
   obtain⟨dk,hdk⟩:∃ dk,dk=pdq (ltOf (dd F l)) (Array.range n) 0 n (Lib.bitLen n) true true:=⟨_,rfl⟩
   rw[<- hdk]at B hix;have hdks:dk.size=n:=by rw[<- ir,<- hix,hixlen,hn]
   have hvlen:(v.map (aH τ)).length=n:=by rw[cj,hlen,hn]
   have hflat:(flatK enc τ.size dk).size=n * τ.size:=by rw[size_flatK,hdks]
   have hpsz:(putCells id 0 (flatK enc τ.size dk) vs).size=vs.size:=by unfold putCells;rw[qc6]
   obtain⟨Γ',x1,x2,_⟩:=Nl hi hR (H.off hRf.2) (R':=⟨R.k,v.map (aH τ),R.ver,R.fz,R.off⟩) (by rw[hRf.1];exact aG _) rfl (g := Γ.cur 0) (vs:=putCells id 0 (flatK enc τ.size dk) vs) (e:=et) (.inr ⟨rfl,rfl,hpsz.trans hvsz⟩)
    (λ e he=>by obtain⟨y,_,rfl⟩:=bE.1 he;rw[gY,hRk]) (λ e he=>by obtain⟨y,_,rfl⟩:=bE.1 he;exact iC τ y) (by show R.fz<=_;rw[hRf.1];exact aG _) (IS _) rfl B.hb
    (by show(v.map (aH τ)).length*R.k<=_;rw[hvlen,hRk,hpsz];exact hns)
    (λ off _=>hmem0 off)
    (λ i e j x he hx=>by
     have he:(v.map (aH τ))[i]?=some e:=he;have hin:i<n:=by rw[<- hvlen];exact getElem?_lt he
     rw[di,v4,M5 hixlt]at he;have hixi:(eJ F l)[i]?=some dk[i]:=by rw[hix,gF];exact gE (by omega)
     rw[hixi]at he
     obtain⟨y,hy,rfl⟩:∃ y,l[dk[i]]?=some y/\aH τ y=e:=by
      cases hq:l[dk[i]]? with
      | none=>simp[hq]at he
      | some y=>simp[hq]at he;exact⟨y,rfl,he⟩
     have hdl:dk[i]<n:=dq (getElem?_lt hy) (BI hn.symm);obtain⟨q1,q2⟩:=hER hy;have hj:j < τ.size:=by rw[<- gY τ y];exact getElem?_lt hx
     obtain⟨u,hu,hrep⟩:=q1.get hx;refine⟨u,?_,hrep,q2 u (aK hu)⟩;rw[hRk]
     have hlt:i * τ.size+j<n * τ.size:=by
      have:(i+1) * τ.size<=n * τ.size:=bY _ hin;rw[jR]at this;omega
     unfold putCells;rw[qtx,gE (dq hlt hns),nF,af ⟨aG _,by rw[hflat,bS];exact hlt⟩,Nat.sub_zero,id,get_flatK _ _ _ _ (by rw[hdks];exact hlt)];have e1:(i * τ.size+j) / τ.size=i:=by rw[vY,Nat.mul_add_div hsz0,Nat.div_eq_of_lt hj,dU]
     have e2:(i * τ.size+j) % τ.size=j:=by rw[vY,Nat.mul_add_mod,qJ hj]
     rw[e1,e2,pE dk i (by omega),henc];show some ((gU vs τ.size (dk[i] % n))[j]!)=_;rw[qJ hdl,Q5,hu];rfl)
    (λ b o u hm=>by
     have hne:b ≠ Γ.cur 0 := λ hb=>by rw[hb,hmem0]at hm;cases hm
     rw[show w'.cell? _=w.cell? _ from World.cell?_of_block (B.other b (hi.mem_lt hm) hne)];exact(hi.mem b o u hm).1)
    (λ b hb hor=>B.other b hb (hor.elim id λ h0=>absurd h0 hz)) (.inl ⟨rfl,hz⟩) B.os B.tape B.output B.size B.drawn [0]
   refine⟨_,Γ',rfl,x1,?_,tup _,vq⟩;refine x2.wr ?_ ?_
   ·exact hb0.symm
   ·show[(⟨R.k,v.map (aH τ),R.ver,R.fz,R.off⟩:Row)]=I.rw.set 0 _;rw[hrw1];rfl
 ·have hrw0:I.rw=[]:=by rw[hnr]at hrw;exact cT hrw.symm
  rw[hb0,hrw0]at hp;cases hp
  have hfin:∀(p:Option Addr) (cap:Nat),jF P Γ I w N [.slice p 0 cap,.func (.func g) #[] #[]] (.tup [],none) := λ p cap=>by
   refine(none0 p cap).mono ?_;rintro e w' ⟨rfl,rfl⟩;exact⟨_,Γ,rfl,.refl _ _,hi,tup _,.refl _⟩
  rcases hy with rfl | ⟨f,rfl,hf2⟩
  ·have hu0:=ce hu0;subst hu0;exact hfin none 0
  ·cases hu0 with
   | sl _ _ _ a n cap b o us hn _ _ _ _ _ _ _ _ =>
     have hn:n=0:=hn;subst hn;exact hfin a cap
theorem qo7 {P:ba} {ρ : Ren} (L:SlLaysF0.n6 P ρ) {τ : Ty} {g:cJ} (b:∀ v,cy τ v = .agg (aH τ v)) (B:∀ w,(isAgg (ρ.t 24)).run P w = .ok true w) (i:∀ w,(Go.sizeOf (ρ.t 24)).run P w = .ok τ.size w)
  {F:Val τ -> Val τ -> Option Int} (n:Fn2 P g τ (λ c:Int => .int .i64 c) F) (k:jQ P (ρ.f 6)) {fn:List (Val τ)->Option (List (Val τ))} (a:∀ l r,fn l=some r->pd F l=some r) :
  cq P (ρ.f 6) (mgP ⟨τ,[.clo g 0],λ x=>fn x.1⟩) :=
 Vq (λ p cap w=>AnyF.slices_SortFunc_none L p cap _ w) (λ e j y A m h off cap d w z u s q o=>AnyQ.slices_SortFunc_eq L τ.size B i e j y A m g #[] h off cap d w z u s q o) b n k a
end
end Go.AmZ
namespace Go.Proofs.YtfepnknpfhiemaaGreatDoor
open Go Go.RowKit Go.GxZ Go.Sort Go.Proofs Go.Shelf Go.Lib
def da(a:Nat->Nat->Bool)(n:Nat):aa Nat:=(List.range n).filter λ i=>X (i=0) || !a i (i-1)
def qmE{a:Nat->Nat->Bool}{n:Nat}(h:a n (n-1)=Y):da a (n+1)=da a n++[n]:=by
 grind [da,List.range_succ]
def Uf{a:Nat->Nat->Bool}{n:Nat}(b:0<n)(h:a n (n-1)=O):da a (n+1)=da a n:=by
 grind [da,List.range_succ]
def UY{a:Nat->Nat->Bool}{n:Nat}(h:∀i,1<=i->i<n->a i (i-1)=Y):da a n=List.range n:=by
 grind [da,List.filter_eq_self]
theorem qmG{α:Type}[Inhabited α](a:α->aa aj)(k:Nat)(g:∀x,J (a x)=k)(d:aL α)(i:Nat)(x:α)(h:i<d.size):setMany (flatK a k d) (i*k) (a x)=flatK a k (d.setIfInBounds i x):=by
 refine ext_get! (by simp) λ t c=>?_;rw[size_setMany,size_flatK]at c;rw[get_setMany _ _ _ _ (by rw[size_flatK];exact c),g,get_flatK _ _ _ _ c,get_flatK _ _ _ _ (by simpa using c)]
 have b:0<k:=by
  grind
 by_cases f:i*k<=t/\t<i*k+k
 .rw[af f];have e:=(blk_iff k i t b).1 f;rw[e,getElem!_set_same d i x h];congr 1;grind [Nat.div_add_mod,Nat.mul_comm]
 .rw[ae f,getElem!_set_other d i _ x λ j=>f ((blk_iff k i t b).2 j)]
theorem qqB{α : Type}[Inhabited α]{w:aC}{enc : α -> List aj}{k blk:Nat}(hk:∀ x,(enc x).length=k)(m:Nat)(dk:Array α)(os:Array Obj)(hblk:blk<w.heap.size)(i:Nat)(x : α)(hi:i<dk.size:=by omega) :
  (sortWorldK enc k w blk 0 m dk os).setCells blk (i*k) (enc x)=sortWorldK enc k w blk 0 m (dk.setIfInBounds i x) os:=by
 have hb:i*k+(enc x).length<=(flatK enc k dk).size:=by
  rw[hk,size_flatK];have:=bY k (show i+1<=dk.size from hi)
  rwa [jR]at this
 unfold sortWorldK;rw[setCells_grow os blk _ _ _ (by rw[size_putRowK];exact hblk)];congr 1;unfold putRowK;have:=setCells_putRow (Sort.ahead w m) blk 0 (enc x) (i*k) (flatK enc k dk) hb;rw[bS]at this;grind [qmG]
variable {P:ba}
set_option maxHeartbeats 4000000 in
set_option maxRecDepth 1000000 in
def qoL(i:P.funcs[202]?=Z Tryz.f202)(a:P.follows .mixedOrders=O)
  (t0:P.underlying 0=Z (TypeDesc.tuple #[])) (y:∀w,(isAgg 0).run P w=.ok Y w) (o:∀w,(Go.sizeOf 0).run P w=.ok 1 w) (s:∀w,(zeroValue 0).run P w=.ok (Value.tuple #[]) w)
  (u:P.underlying 3=Z (TypeDesc.int IntKind.i64)) (x:∀w,(isAgg 3).run P w=.ok Y w) (n:∀w,(Go.sizeOf 3).run P w=.ok 1 w) (r:∀w,(zeroValue 3).run P w=.ok (Value.int IntKind.i64 0) w)
  (t:P.underlying 4=Z (TypeDesc.bool)) (v:∀w,(isAgg 4).run P w=.ok Y w) (m:∀w,(Go.sizeOf 4).run P w=.ok 1 w) (q:∀w,(zeroValue 4).run P w=.ok (Value.bool Y) w)
  (h:P.underlying 22=Z (TypeDesc.slice 47)) (l:∀w,(isAgg 22).run P w=.ok Y w) (c:∀w,(Go.sizeOf 22).run P w=.ok 1 w) (f:∀w,(zeroValue 22).run P w=.ok (Value.slice U 0 0) w)
  (g:P.underlying 63=Z (TypeDesc.func #[47,47] #[4] Y)) (k:∀w,(isAgg 63).run P w=.ok Y w) (b:∀w,(Go.sizeOf 63).run P w=.ok 1 w) (d:∀w,(zeroValue 63).run P w=.ok (Value.nilFunc) w)
  (p:ac Addr) (cap:Nat) (j:aj) (w:aC):
  Calls P 202 #[.slice p 0 cap,j] w λ e w'=>e=.returned (.slice p 0 cap)/\w'=w:=by
 go_enter i,Tryz.ntmps202
 go_wp2
 go_ret
 exact⟨rfl,rfl⟩
set_option maxHeartbeats 4000000 in
set_option maxRecDepth 1000000 in
theorem qoO(hF:P.funcs[202]?=some Tryz.f202)(mixed:P.follows .mixedOrders=true)
  (t0:P.underlying 0=some (TypeDesc.tuple #[])) (a0:∀ w,(isAgg 0).run P w = .ok false w) (z0:∀ w,(Go.sizeOf 0).run P w = .ok 1 w) (v0:∀ w,(zeroValue 0).run P w = .ok (Value.tuple #[]) w)
  (t3:P.underlying 3=some (TypeDesc.int IntKind.i64)) (a3:∀ w,(isAgg 3).run P w = .ok false w) (z3:∀ w,(Go.sizeOf 3).run P w = .ok 1 w) (v3:∀ w,(zeroValue 3).run P w = .ok (Value.int IntKind.i64 0) w)
  (t4:P.underlying 4=some (TypeDesc.bool)) (a4:∀ w,(isAgg 4).run P w = .ok false w) (z4:∀ w,(Go.sizeOf 4).run P w = .ok 1 w) (v4:∀ w,(zeroValue 4).run P w = .ok (Value.bool false) w)
  (t22:P.underlying 22=some (TypeDesc.slice 47)) (a22:∀ w,(isAgg 22).run P w = .ok false w) (z22:∀ w,(Go.sizeOf 22).run P w = .ok 1 w) (v22:∀ w,(zeroValue 22).run P w = .ok (Value.slice none 0 0) w)
  (t36:P.underlying 63=some (TypeDesc.func #[47,47] #[4] false)) (a36:∀ w,(isAgg 63).run P w = .ok false w) (z36:∀ w,(Go.sizeOf 63).run P w = .ok 1 w) (v36:∀ w,(zeroValue 63).run P w = .ok (Value.nilFunc) w)
  (k:Nat) (hk0:0<k) (aE:∀ w,(isAgg 47).run P w = .ok true w) (zE:∀ w,(Go.sizeOf 47).run P w = .ok k w) (zv:aj) (vE:∀ w,(zeroValue 47).run P w = .ok zv w) (hzk:zv.cells.size=k) (hz1:∀ n,∀ v∈(Builtin.zeroCells zv.cells n).toList,v.oneCell'=true)
  (w:aC) (blk n cap:Nat) (et:aQ) (vs:Array aj) (q:Nat) (hbk:w.heap[blk]?=some (.cells vs et (0,0))) (hcs:cap*k<=vs.size) (hnc:n<=cap) (hn:n<=100000) (h0n:0<n)
  (enc:Nat->List aj) (hk:∀ x,(enc x).length=k) (h1:∀ x,∀ v∈enc x,v.oneCell'=true) (hH:HoldsK enc k w blk 0 (Array.range n))
  (eg:∀ args w,(callFunc q args).run P w = .ok (.enter q args) w) (ef:Nat->Nat->Bool)
  (heq:∀(m:Nat) (os:Array Obj) (dk:Array Nat),dk.size=n->∀ x y,Calls P q #[.agg (enc x).toArray,.agg (enc y).toArray] (sortWorldK enc k w blk 0 m dk os) λ e w'=>e = .returned (.bool (ef x y))/\∃ q' os',w'=grow ((sortWorldK enc k w blk 0 m dk os).drewN q') os') :
  Calls P 202 #[.slice (some ⟨blk,0,none⟩) n cap,.func (.func q) #[] #[]] w λ e w'=>e = .returned (.slice (some ⟨blk,0,none⟩) (da ef n).length cap) /\
   ∃(dk:Array Nat) (m:Nat) (os:Array Obj) (new:List aj),dk.size=n/\dk.toList.take (da ef n).length=da ef n/\(w'=sortWorldK enc k w blk 0 m dk os\/(new.take ((da ef n).length*k)=(putCells id 0 (flatK enc k dk) vs).toList.take ((da ef n).length*k)/\new.length=vs.size/\w'=(sortWorldK enc k w blk 0 m dk os).setRow blk new.toArray)):=by
 have u22:=run_underlying t22;have hblk:blk<w.heap.size:=(eH.1 hbk).1;have hrs:(Array.range n).size=n:=Q4;have HC:Aside _:=heq;have HST:Hid (w=sortWorldK enc k w blk 0 0 (Array.range n) #[]):=by show w=_;unfold sortWorldK;rw[grow_empty];exact(putRowK_self enc k w blk 0 _ hH).symm
 have HH:Hid (HoldsK enc k w blk 0 (Array.range n)):=hH;have HK:Hid (∀ x,(enc x).length=k):=hk;have H1:Hid (∀ x,∀ v∈enc x,v.oneCell'=true):=h1;have HBK:Hid (w.heap[blk]?=some (.cells vs et (0,0))):=hbk;have HVE:Aside _:=vE;have HZ1:Aside _:=hz1;have HZK:=Lib.hid hzk;have HCS:=Lib.hid hcs;clear heq hH hk h1 hbk vE hz1 hzk hcs;have hnz:(n:Int)<=100000:=by omega
 by_cases hn2:n<2
 ·have hn1:n=1:=by omega
  subst hn1;have hci:da ef 1=[0]:=by unfold da;simp
  have HCI:=Lib.hid hci;clear hci
  go_enter hF,Tryz.ntmps202
  go_wp2
  go_ret
  rw[HCI.out];exact⟨rfl,Array.range 1,0,#[],[],hrs,by simp,.inl HST.out⟩
 ·have hn2z:¬ ((n:Int)<2):=by omega
  go_enter hF,Tryz.ntmps202
  go_wp2
  go_loopg [5] n (λ g1 vi wr=>∃(i m:Nat) (os:Array Obj),vi = .int .i64 i/\1<=i/\i<=n/\n-i<=g1/\wr=sortWorldK enc k w blk 0 m (Array.range n) os/\Hid (∀ j,1<=j->j<i->ef j (j-1)=false))
  case atStart=>exact⟨1,0,#[],rfl,au _,by omega,by omega,HST.out,λ j h1 h2=>by omega⟩
  case round =>
   obtain⟨i,m,os,rfl,hi1,hin,hg1,rfl,HE⟩:=hrel;by_cases hlt:i<n
   ·have hltz:(i:Int)<(n:Int):=by omega
    obtain⟨ip,rfl⟩:∃ ip,i=ip+1:=⟨i-1,by omega⟩
    have hwp:IntKind.i64.wrap (ip:Int)=(ip:Int):=by rw[IntKind.wrap_i64];omega
    have jz1:(ip:Int)<(n:Int):=by omega
    have p0:(0:Int)<=(ip:Int)+1:=by omega
    have e0:((ip:Int)+1).toNat=ip+1:=by omega
    have r1:(Array.range n)[ip+1]! = ip+1:=by rw[pE _ _ (by rw[hrs];exact hlt)];simp
    have r0:(Array.range n)[ip]! = ip:=by rw[pE _ _ (by rw[hrs];omega)];simp
    have hcls:∀ n' os',grow ((sortWorldK enc k w blk 0 m (Array.range n) os).drewN n') os'=sortWorldK enc k w blk 0 (m+n') (Array.range n) (os++os') := λ n' os'=>sortWorldK_grown_c enc k w blk 0 m n' _ os os';have hHc:∀ n' os',HoldsK enc k (grow ((sortWorldK enc k w blk 0 m (Array.range n) os).drewN n') os') blk 0 (Array.range n) := λ n' os'=>by rw[hcls];exact holdsK_sortWorldK_c enc k w blk 0 _ _ _ _ HH.out hblk rfl
    have lj:∀ n' os',Sem.run P (loadCellsFrom ⟨blk,(ip+1)*k,none⟩ 0 k #[]) (grow ((sortWorldK enc k w blk 0 m (Array.range n) os).drewN n') os') = .ok (enc (ip+1)).toArray (grow ((sortWorldK enc k w blk 0 m (Array.range n) os).drewN n') os') := λ n' os'=>by
     have:=HoldsK.cells (hHc n' os') HK.out (i:=ip+1) (by rw[hrs];exact hlt);rw[r1,bS]at this;exact run_loadCellsFrom_list P _ _ _ k (HK.out _) this
    have lp:∀ n' os',Sem.run P (loadCellsFrom ⟨blk,ip*k,none⟩ 0 k #[]) (grow ((sortWorldK enc k w blk 0 m (Array.range n) os).drewN n') os') = .ok (enc ip).toArray (grow ((sortWorldK enc k w blk 0 m (Array.range n) os).drewN n') os') := λ n' os'=>by
     have:=HoldsK.cells (hHc n' os') HK.out (i:=ip) (by rw[hrs];omega);rw[r0,bS]at this;exact run_loadCellsFrom_list P _ _ _ k (HK.out _) this
    have hcg:∀ n' os',Calls P q #[.agg (enc (ip+1)).toArray,.agg (enc ip).toArray] (grow ((sortWorldK enc k w blk 0 m (Array.range n) os).drewN n') os') λ e w'=>e = .returned (.bool (ef (ip+1) ip))/\∃ q os'',w'=grow ((grow ((sortWorldK enc k w blk 0 m (Array.range n) os).drewN n') os').drewN q) os'' := λ n' os'=>by
     rw[hcls];exact HC.out _ _ _ hrs (ip+1) ip
    have CLS:Hid _:=hcls;clear hcls hHc r0 r1;generalize hwq:sortWorldK enc k w blk 0 m (Array.range n) os=wq at lj lp hcg CLS |-
    cases hev:ef (ip+1) ip with
    | false =>
      rw[hev]at hcg
      go_wp2_with fail
      go_quiet_grown (first | (go_at_fn q;refine Calls.grown_of (hcg _ _)))
      go_wp2
      go_roundg (n-(ip+2))
      case measure=>omega
      case rel =>
       refine⟨ip+2,_,_,by go_num,by omega,by omega,by omega,CLS.out nq osq,(show Hid _ from λ j h1 h2=>?_)⟩;by_cases hj:j=ip+1
       ·rw[hj];exact hev
       ·exact HE.out j h1 (by omega)
    | true =>
      rw[hev]at hcg
      go_wp2_with fail
      go_quiet_grown (first | (go_at_fn q;refine Calls.grown_of (hcg _ _)))
      have hcap1:¬ (cap=ip+1):=by omega
      have hcap2:(ip:Int)+1<=(cap:Int):=by omega
      go_wp2
      go_loopg [5,7] n (λ g2 v5 v7 wr2=>∃(b kk m2:Nat) (dk:Array Nat) (os2:Array Obj),v5 = .int .i64 kk/\v7 = .int .i64 b/\1<=b/\ip+1+b<=n/\n-b<=g2/\kk<=ip+b/\dk.size=n/\wr2=sortWorldK enc k w blk 0 m2 dk os2/\Hid (dk.toList.take kk=da ef (ip+1+b))/\Hid (kk=(da ef (ip+1+b)).length)/\Hid (∀ j,ip+b<=j->j<n->dk[j]! = j))
      case atStart =>
       have e1:da ef (ip+1)=List.range (ip+1):=UY λ j h1 h2=>HE.out j h1 h2;have e2:da ef (ip+1+1)=List.range (ip+1):=by rw[Uf (by omega) (by simpa using hev),e1]
       refine⟨1,ip+1,_,Array.range n,_,by go_num,rfl,au _,by omega,by omega,by omega,hrs,CLS.out nq osq,?_,?_,?_⟩
       ·show _=_;rw[e2,Array.toList_range,List.take_range,jS (by omega)]
       ·show _=_;rw[e2,wm]
       ·intro j _ h2;rw[pE _ _ (by rw[hrs];exact h2)];simp
      case round =>
       obtain⟨b,kk,m2,dk,os2,rfl,rfl,hb1,hbn,hg2,hkk,hdk,rfl,HT,HL,HD⟩:=hrel;by_cases hlt2:ip+1+b<n
       ·obtain⟨bp,rfl⟩:∃ bp,b=bp+1:=⟨b-1,by omega⟩
        have hltz2:(bp:Int)+1<((n-(ip+1):Nat):Int):=by omega
        have hltz3:(bp:Int)<((n-(ip+1):Nat):Int):=by omega
        have hwp2:IntKind.i64.wrap (bp:Int)=(bp:Int):=by rw[IntKind.wrap_i64];omega
        have p2:(0:Int)<=(bp:Int)+1:=by omega
        have e2:((bp:Int)+1).toNat=bp+1:=by omega
        have hkn:(kk:Int)<(n:Int):=by omega
        obtain⟨ax,hax⟩:∃ ax,ax=ip+1+(bp+1):=⟨_,rfl⟩
        have hac:(ip+1)*k+(bp+1)*k=ax*k:=by rw[hax,dM (ip+1)]
        have hap:(ip+1)*k+bp*k=(ax-1)*k:=by rw[<- dM];congr 1;omega
        have r1:dk[ax]! = ax:=HD.out ax (by omega) (by omega);have r0:dk[ax-1]! = ax-1:=HD.out (ax-1) (by omega) (by omega);have hcls:∀ n' os',grow ((sortWorldK enc k w blk 0 m2 dk os2).drewN n') os'=sortWorldK enc k w blk 0 (m2+n') dk (os2++os') := λ n' os'=>sortWorldK_grown_c enc k w blk 0 m2 n' dk os2 os';have hHc:∀ n' os',HoldsK enc k (grow ((sortWorldK enc k w blk 0 m2 dk os2).drewN n') os') blk 0 dk := λ n' os'=>by rw[hcls];exact holdsK_sortWorldK_c enc k w blk 0 (Array.range n) dk _ _ HH.out hblk (by rw[hdk,hrs])
        have lj:∀ n' os',Sem.run P (loadCellsFrom ⟨blk,(ip+1)*k+(bp+1)*k,none⟩ 0 k #[]) (grow ((sortWorldK enc k w blk 0 m2 dk os2).drewN n') os') = .ok (enc ax).toArray (grow ((sortWorldK enc k w blk 0 m2 dk os2).drewN n') os') := λ n' os'=>by
         have:=HoldsK.cells (hHc n' os') HK.out (i:=ax) (by rw[hdk];omega);rw[r1,bS,<- hac]at this;exact run_loadCellsFrom_list P _ _ _ k (HK.out _) this
        have lp:∀ n' os',Sem.run P (loadCellsFrom ⟨blk,(ip+1)*k+bp*k,none⟩ 0 k #[]) (grow ((sortWorldK enc k w blk 0 m2 dk os2).drewN n') os') = .ok (enc (ax-1)).toArray (grow ((sortWorldK enc k w blk 0 m2 dk os2).drewN n') os') := λ n' os'=>by
         have:=HoldsK.cells (hHc n' os') HK.out (i:=ax-1) (by rw[hdk];omega);rw[r0,bS,<- hap]at this;exact run_loadCellsFrom_list P _ _ _ k (HK.out _) this
        have hcg:∀ n' os',Calls P q #[.agg (enc ax).toArray,.agg (enc (ax-1)).toArray] (grow ((sortWorldK enc k w blk 0 m2 dk os2).drewN n') os') λ e w'=>e = .returned (.bool (ef ax (ax-1)))/\∃ q os'',w'=grow ((grow ((sortWorldK enc k w blk 0 m2 dk os2).drewN n') os').drewN q) os'' := λ n' os'=>by
         rw[hcls];exact HC.out _ _ _ hdk ax (ax-1)
        have CLS2:Hid _:=hcls;have HHC:Hid _:=hHc;have HAC:=Lib.hid hac;clear hcls hHc hap hac;generalize hwq2:sortWorldK enc k w blk 0 m2 dk os2=wq2 at lj lp hcg CLS2 HHC |-
        have hlA:(enc ax).length=k:=HK.out _;have hA1:∀ v∈enc ax,v.oneCell'=true:=H1.out _;obtain⟨cA,hcA⟩:∃ c,c=enc ax:=⟨_,rfl⟩
        obtain⟨cP,hcP⟩:∃ c,c=enc (ax-1):=⟨_,rfl⟩
        rw[<- hcA]at lj hcg hlA hA1;rw[<- hcP]at lp hcg;have HCA:=Lib.hid hcA;clear hcA hcP;have hT:=HT.out;have hL:=HL.out;rw[show ip+1+(bp+1)=ax from hax.symm]at hT hL;have HAX:=Lib.hid hax;have hax1:0<ax:=by omega
        have hax3:ax<n:=by omega
        clear hax r0 r1;cases hev2:ef ax (ax-1)with
        | true =>
          have hcd:da ef (ax+1)=da ef ax:=Uf hax1 hev2;have HT2:Hid (dk.toList.take kk=da ef (ax+1)):=by show _=_;rw[hcd];exact hT
          have HL2:Hid (kk=(da ef (ax+1)).length):=by show _=_;rw[hcd];exact hL
          clear hT hL hcd;rw[hev2]at hcg
          go_wp2_with fail
          go_quiet_grown (first | (go_at_fn q;refine Calls.grown_of (hcg _ _)))
          go_wp2
          go_roundg (n-(bp+2))
          case measure=>omega
          case rel =>
           have hax2:ip+1+(bp+2)=ax+1:=by have:=HAX.out;omega
           refine⟨bp+2,kk,_,dk,_,rfl,by go_num,by omega,by omega,by omega,by omega,hdk,CLS2.out nq osq,?_,?_,(show Hid _ from λ j h1 h2=>HD.out j (by omega) h2)⟩
           ·show _=_;rw[hax2];exact HT2.out
           ·show _=_;rw[hax2];exact HL2.out
        | false =>
          have hcd:da ef (ax+1)=da ef ax++[ax]:=qmE hev2;have hdl:kk<dk.toList.length:=by rw[ir,hdk];omega
          have HT2:Hid ((dk.setIfInBounds kk ax).toList.take (kk+1)=da ef (ax+1)):=by
           show _=_;rw[hcd,<- hT,Jr,eI,QP (au _),gD hdl];rfl
          have HL2:Hid (kk+1=(da ef (ax+1)).length):=by show _=_;rw[hcd,aO,<- hL];rfl
          clear hT hL hcd;rw[hev2]at hcg
          go_wp2_with fail
          go_quiet_grown (first | (go_at_fn q;refine Calls.grown_of (hcg _ _)))
          have hw2:grow (wq2.drewN nq) osq=sortWorldK enc k w blk 0 (m2+nq) dk (os2++osq):=CLS2.out nq osq;have lj2:=lj nq osq;have hHd:=HHC.out nq osq;clear lj lp hcg;generalize grow (wq2.drewN nq) osq=wq3 at hw2 hHd lj2 |-
          have hbd:kk*k+cA.length<=(flatK enc k dk).size:=by
           rw[hlA,size_flatK];have:=bY k (show kk+1<=dk.size by omega)
           rwa [jR]at this
          have s1:Sem.run P (storeCells ⟨blk,kk*k,none⟩ cA 0) wq3 = .ok () (wq3.setCells blk (kk*k) cA):=by
           have:=stores_of_holds P hHd (kk*k) cA hbd hA1
           rwa [bS]at this
          have HW3:Hid (wq3.setCells blk (kk*k) cA=sortWorldK enc k w blk 0 (m2+nq) (dk.setIfInBounds kk ax) (os2++osq)):=by
           show _=_;rw[hw2,HCA.out];exact qqB HK.out (m2+nq) dk (os2++osq) hblk kk ax (by omega)
          clear hw2 hHd hbd
          go_wp2
          go_roundg (n-(bp+2))
          case measure=>omega
          case rel =>
           have hax2:ip+1+(bp+2)=ax+1:=by have:=HAX.out;omega
           refine⟨bp+2,kk+1,_,dk.setIfInBounds kk ax,_,by go_num,by go_num,by omega,by omega,by omega,by omega,by simpa using hdk,HW3.out,?_,?_,(show Hid _ from λ j h1 h2=>?_)⟩
           ·show _=_;rw[hax2];exact HT2.out
           ·show _=_;rw[hax2];exact HL2.out
           ·rw[getElem!_set_other _ _ _ _ (by omega)];exact HD.out j (by omega) h2
       ·obtain rfl:n=ip+1+b:=by omega
        have hW:=(Go.AmZ.sort_blks HBK.out enc k m2 dk os2).hb;have hpsz:(putCells id 0 (flatK enc k dk) vs).size=vs.size:=by unfold putCells;rw[qc6]
        have hzl:(Builtin.zeroCells zv.cells (ip+1+b-kk)).toList.length=(ip+1+b-kk)*k:=by rw[ir,size_zeroCells,HZK.out]
        have hsum:kk*k+(ip+1+b-kk)*k=(ip+1+b)*k:=by rw[<- dM];congr 1;omega
        have hle:(ip+1+b)*k<=vs.size:=bT (bY _ hnc) HCS.out;obtain⟨new,hnew⟩:∃ new,new=(putCells id 0 (flatK enc k dk) vs).toList.take (kk*k)++(Builtin.zeroCells zv.cells (ip+1+b-kk)).toList++(putCells id 0 (flatK enc k dk) vs).toList.drop (kk*k+(Builtin.zeroCells zv.cells (ip+1+b-kk)).toList.length):=⟨_,rfl⟩
        have hcl:∀ ty,(Builtin.clear_ #[22] ty #[.slice (some ⟨blk,kk*k,none⟩) (ip+1+b-kk) (cap-kk)]).run P (sortWorldK enc k w blk 0 m2 dk os2) = .ok (.tuple #[]) ((sortWorldK enc k w blk 0 m2 dk os2).setRow blk new.toArray) := λ ty=>by
         rw[hnew];exact L2 _ 22 47 ty zv t22 HVE.out blk (kk*k) (ip+1+b-kk) (cap-kk) (by omega) _ et hW (by rw[hpsz,HZK.out];omega) (HZ1.out _)
        have HN1:Hid (new.take (kk*k)=(putCells id 0 (flatK enc k dk) vs).toList.take (kk*k)):=by
         show _=_;rw[hnew,bC,te (by rw[bg,ir,hpsz];omega),BK,qc4]
        have HN2:Hid (new.length=vs.size):=by
         show _=_;rw[hnew];rw[ir]at hzl;simp only[aO,bg,gf,ir,hpsz,hzl];omega
        have hkc:¬ (cap=kk):=by omega
        have hkc2:(kk:Int)<=(cap:Int):=by omega
        have hkn:(kk:Int)<=((ip+1+b:Nat):Int):=by omega
        clear hW hpsz hzl hsum hle hnew;have HW:Hid _:=(⟨dk,m2,os2,rfl⟩:∃(d:Array Nat) (m:Nat) (os:Array Obj),sortWorldK enc k w blk 0 m2 dk os2=sortWorldK enc k w blk 0 m d os)
        generalize hwq2:sortWorldK enc k w blk 0 m2 dk os2=wq2 at hcl |-
        have HWQ:=Lib.hid hwq2;clear hwq2 HW;have HDK:=Lib.hid hdk
        go_wp2_with (simp only[hcl])
        go_ret
        have hL:=HL.out;rw[<- hL];exact⟨rfl,dk,m2,os2,new,HDK.out,HT.out,.inr ⟨HN1.out,HN2.out,by rw[HWQ.out]⟩⟩
   ·obtain rfl:i=n:=by omega
    have hci:da ef i=List.range i:=UY λ j h1 h2=>HE.out j h1 h2;have HCI:=Lib.hid hci;clear hci
    go_wp2
    go_ret
    rw[HCI.out,wm];exact⟨rfl,Array.range i,_,_,[],hrs,by simp,.inl rfl⟩
end Go.Proofs.YtfepnknpfhiemaaGreatDoor
namespace Go.AmZ
open GxZ
section
open RowKit Go.Sort Proofs Shelf Proofs.YtfepnknpfhiemaaGreatDoor
def ng{α:Type}(F:α->α->ac Bool)(l:aa α)(i j:Nat):Bool:=match l[i%J l]?,l[j%J l]? with
 |Z x,Z y=>(F x y).getD Y
 |_,_=>Y
def IT{α:Type}(F:α->α->ac Bool):aa α->ac (aa α)
 |[]=>Z []
 |x::l=>cond (Nat.ble (J (x::l)) 100000&&kx F (x::l)) (Z (pick (x::l) (da (ng F (x::l)) (J (x::l))))) U
def A7{α:Type}(F:α->α->ac Bool)(l:aa α):ac (Unit×aa α×Unit):=match IT F l with
 |Z l'=>Z ((),l',())
 |U=>U
def qnv{α:Type}{F:α->α->ac Bool}{l:aa α}{r:Unit×aa α×Unit}(h:A7 F l=Z r):∃l',IT F l=Z l'/\r=((),l',()):=by
 unfold A7 at h;split at h
 .cases h;exact⟨_,‹_›,rfl⟩
 .cases h
def V8{P:ba}{f:cJ}{g:vW}(e:jQ P f)(h:∀a,g.fn a=U):cq P f (mgP g):=by
 refine⟨e,λ Γ I w d c r j i b=>?_⟩;unfold mgP at b;split at b
 .rw[h]at b;cases b
 .cases b
def VK{b:Nat->Nat->Bool}{n:Nat}:∀i∈da b n,i<n:=λ i a=>jT.1 (kO.1 a).1
def Mf{a:Nat->aa aj}{k:Nat}(b:∀x,J (a x)=k):∀(l:aa Nat) (i j:Nat),j<k->(l.flatMap a)[i*k+j]?=(l[i]?).bind λ x=>(a x)[j]?
 |[],i,j,_=>by simp
 |x::l,0,j,c=>by
   rw[sW,kL,bS,dy (by rw[b];exact c)];rfl
 |x::l,i+1,j,c=>by
   rw[sW,eu (by rw[b,jR];omega),b];have:(i+1)*k+j-k=i*k+j:=by rw[jR];omega
   rw[this];exact Mf b l i j c
def Vz{a:Nat->aa aj}{k:Nat}(b:∀x,J (a x)=k):∀l:aa Nat,J (l.flatMap a)=J l*k
 |[]=>by simp
 |x::l=>by rw[sW,aO,b,Vz b l,bH,jR,qcU]
def UM{c:Type}{f:aa AV->ac c}{b:aa (aa AV)}{l:aa c}(h:bV f b=Z l):∀{a:aa Nat},(∀i∈a,i<J l)->bV f (pick b a)=Z (pick l a)
 |[],_=>rfl
 |i::a,e=>by
   have g:=e i (bj ..);have o:=dX h
   have e1:pick b (i::a)=b[i]'(by omega)::pick b a:=by
    unfold pick;rw[BL,aU (by omega)]
   have n:pick l (i::a)=l[i]::pick l a:=by
    unfold pick;rw[BL,aU g]
   let⟨v,d,m⟩:=oN h (aU (show i<J b by omega));rw[aU g]at d;cases d;rw[e1,n];exact jC.2 ⟨_,_,m,UM h λ j k=>e j (bk _ k),rfl⟩
def qqS(n:Nat):∀v∈V (Builtin.zeroCells (Value.cells (.agg #[.int .i64 0,.string ⟨#[]⟩,.int .i64 0,.slice U 0 0])) n),v.oneCell'=O:=by
 intro v a;unfold Builtin.zeroCells at a;rw[Array.mem_toList_iff]at a;obtain⟨i,_,rfl⟩:=Array.mem_map.1 a;have c:(Value.cells (.agg #[.int .i64 0,.string ⟨#[]⟩,.int .i64 0,.slice U 0 0])).size=4:=rfl;rw[c];have b:i%4<4:=sR _ (by decide);generalize i%4=r at b
 match r,b with
 |0,_|1,_|2,_|3,_=>rfl
set_option maxHeartbeats 1000000 in
theorem qmc{g:cJ}{F:T->T->Option Bool}(hF:Fn2 Go.Proofs.Tryz.prog g .term (λ b:Bool => .bool b) F){fn:List T->Option (Unit × List T × Unit)}(hfn:∀ l r,fn l=some r->∃ l',IT F l=some l'/\r=((),l',())) :
  cq Go.Proofs.Tryz.prog 202 (sgP ⟨[.row .term,.clo g 0],[.one (.row .term)],λ x=>fn x.1⟩):=by
 have c0 := λ p cap fv w=>qoL (P:=Go.Proofs.Tryz.prog) Go.Proofs.Tryz.func202 (by kernel_rfl) Go.Proofs.Tryz.underlying0 Go.Proofs.Tryz.isAgg0 Go.Proofs.Tryz.sizeOf0 Go.Proofs.Tryz.zeroValue0 Go.Proofs.Tryz.underlying3 Go.Proofs.Tryz.isAgg3 Go.Proofs.Tryz.sizeOf3 Go.Proofs.Tryz.zeroValue3 Go.Proofs.Tryz.underlying4 Go.Proofs.Tryz.isAgg4 Go.Proofs.Tryz.sizeOf4 Go.Proofs.Tryz.zeroValue4 Go.Proofs.Tryz.underlying22 Go.Proofs.Tryz.isAgg22 Go.Proofs.Tryz.sizeOf22 Go.Proofs.Tryz.zeroValue22 Go.Proofs.Tryz.underlying63 Go.Proofs.Tryz.isAgg63 Go.Proofs.Tryz.sizeOf63 Go.Proofs.Tryz.zeroValue63 p cap fv w
 have cP := λ w blk n cap et vs h1 h2 h3 h4 h5 enc h6 h7 h8 ef h9=>qoO (P:=Go.Proofs.Tryz.prog) Go.Proofs.Tryz.func202 (by kernel_rfl) Go.Proofs.Tryz.underlying0 Go.Proofs.Tryz.isAgg0 Go.Proofs.Tryz.sizeOf0 Go.Proofs.Tryz.zeroValue0 Go.Proofs.Tryz.underlying3 Go.Proofs.Tryz.isAgg3 Go.Proofs.Tryz.sizeOf3 Go.Proofs.Tryz.zeroValue3 Go.Proofs.Tryz.underlying4 Go.Proofs.Tryz.isAgg4 Go.Proofs.Tryz.sizeOf4 Go.Proofs.Tryz.zeroValue4 Go.Proofs.Tryz.underlying22 Go.Proofs.Tryz.isAgg22 Go.Proofs.Tryz.sizeOf22 Go.Proofs.Tryz.zeroValue22 Go.Proofs.Tryz.underlying63 Go.Proofs.Tryz.isAgg63 Go.Proofs.Tryz.sizeOf63 Go.Proofs.Tryz.zeroValue63
  4 (by decide) Go.Proofs.Tryz.isAgg47 Go.Proofs.Tryz.sizeOf47 _ Go.Proofs.Tryz.zeroValue47 rfl qqS w blk n cap et vs g h1 h2 h3 h4 h5 enc h6 h7 h8 (λ args w=>KW hF.1 args w) ef h9
 have hag:∀ v:T,cy .term v = .agg (aH .term v) := λ _=>rfl;refine⟨jm Go.Proofs.Tryz.func202 (by kernel_rfl),λ Γ I w args vals r hi hr hp=>?_⟩;unfold sgP at hp;split at hp<;>try cases hp
 rename_i x hx;split at hp<;>cases hp;rename_i v0 hv0;obtain⟨l,_⟩:=x;obtain⟨l',hl',rfl⟩:=hfn _ _ hv0;obtain⟨y0,ys0,nr,rfl,hy0,hx1⟩:=Il hx;obtain⟨ys1,rfl,hx2⟩:=ZN (g:=g) (r:=[]) hx1;obtain⟨rfl,hbx,hrw⟩:=xQ hx2;clear hx hx1 hx2 hv0 hfn;obtain⟨u0,r0,rfl,hu0,hr⟩:=hr.uncons;obtain⟨u1,r1,rfl,hu1,hr⟩:=hr.uncons;have:=hr.nil_inv;subst this
 have hu1:u1 = .func (.func g) #[] #[]:=by
  cases hu1 with
  | fn _ _ us hn _=>obtain rfl:=cT hn;rfl
 subst hu1;have hb0:I.bx=[]:=cT hbx.symm
 have nil0:∀(p:Option Addr),l'=[]->jF Go.Proofs.Tryz.prog Γ I w 202 [.slice p 0 0,.func (.func g) #[] #[]] (cz (fA [.one (.row .term)] I.rw.length (l',())),some ⟨[],I.rw.map fN++en [.one (.row .term)] (l',()),List.range I.bx.length,List.range I.rw.length⟩) := λ p hl=>by
  subst hl;refine(c0 p 0 _ w).mono ?_;rintro e w' ⟨rfl,rfl⟩;obtain⟨Γ2,z1,z2,z3,z4⟩:=qsp (a := .term) hi (.refl _ _) hi hb0 p;exact⟨_,Γ2,rfl,z1,z2,z3,z4⟩
 rcases Fo hy0 with⟨hnr,R,rfl,hR,hRk,hRf,hRd⟩ | ⟨hnr,hl0,hy⟩
 ·have H:=hi.row 0 R hR;have hcl:R.c.length=l.length:=dX hRd;have hlk:∀ e∈R.c,e.length=Ty.size .term := λ e he=>(H.len e he).trans hRk;obtain⟨p,cap,rfl,hcap,hrm⟩:=NW hi hR hRk hRf hu0;rcases hrm with h0 | ⟨rfl,hz,vs,et,hvs,hvsz,hfit,hca,hxl,h1⟩
  ·have hl0:l=[]:=cT (by omega);have hl2:l'=[]:=by rw[hl0]at hl';cases hl';rfl
   have hrc:R.c.length=0:=by omega
   rw[hrc,h0];exact nil0 p hl2
  ·by_cases hl0:l=[]
   ·have hl2:l'=[]:=by rw[hl0]at hl';cases hl';rfl
    have hrc:R.c.length=0:=by rw[hcl,hl0];rfl
    rw[hrc];subst hl2;refine FY (a := .term) hi hb0 hR hRk hRf.1 hRf.2 hz (l:=[]) (c:=[]) (xs:=[]) (n:=0) rfl rfl (by intro e he;cases he) (by intro e he;cases he) (λ i e j x h=>by cases h) ?_;refine(c0 _ cap _ w).mono ?_;rintro e w' ⟨rfl,rfl⟩;exact⟨Γ.cur 0,cap,vs,et,rfl,hvs,aG _,hfit,by rw[kL];rfl,.inl ⟨rfl,hvsz⟩,rfl,rfl,rfl,au _,au _,λ _ _ _=>rfl⟩
   ·have hlpos:0<l.length:=yK.2 hl0;obtain⟨n,hn⟩:∃ n,n=l.length:=⟨_,rfl⟩
    have hnc:R.c.length=n:=hcl.trans hn.symm;rw[hnc]at hca hxl h1 hcap |-
    have hns:n*Ty.size .term<=vs.size:=bT (bY _ hcap) hfit
    have hv':Nat.ble l.length 100000=true/\kx F l=true/\l'=pick l (da (ng F l) l.length):=by
     cases l with
     | nil=>exact absurd rfl hl0
     | cons y l =>
       replace hl':cond _ _ _=some l':=hl'
       cases hb:(Nat.ble (y::l).length 100000&&kx F (y::l))with
       | false =>
         replace hl':cond (Nat.ble (y::l).length 100000&&kx F (y::l)) _ _=some l':=hl'
         rw[hb]at hl';cases hl'
       | true =>
         replace hl':cond (Nat.ble (y::l).length 100000&&kx F (y::l)) _ _=some l':=hl'
         have hb':=hb;rw[aJ]at hb';rw[hb]at hl';cases hl';exact⟨hb'.1,hb'.2,rfl⟩
    obtain⟨v1,v2,v4⟩:=hv';have v1:l.length<=100000:=gV v1;have hER:∀{q:Nat} {y:T},l[q]?=some y->RepL Γ (aH .term y) (gU vs (Ty.size .term) q)/\∀ u∈gU vs (Ty.size .term) q,u.oneCell'=true := λ hq=>Xv hnc hlk hRd hca hns hq;have hlast:∀ i,i % n<n := λ i=>sR _ (by omega);obtain⟨enc,henc⟩:∃ enc:Nat->List aj,enc = λ i=>gU vs (Ty.size .term) (i % n):=⟨_,rfl⟩
    have hek:∀ i,(enc i).length=Ty.size .term := λ i=>by rw[henc];exact MR (hlast i) hns
    have hlget:∀ i,∃ y,l[i % n]?=some y := λ i=>⟨_,aU (by rw[<- hn];exact hlast i)⟩
    have he1:∀ i,∀ u∈enc i,u.oneCell'=true := λ i u hu=>by
     rw[henc]at hu;obtain⟨y,hy⟩:=hlget i;exact(hER hy).2 u hu
    have hrange:(Array.range n).size=n:=Q4;have hvsb:w.heap[Γ.cur 0]?=some (.cells vs et (0,0)):=hvs;have hmem0:∀ off,Γ.mem (Γ.cur 0) off=none := λ off=>H.un hz off (by rw[hRf.1,kL,H.off hRf.2];exact aG _)
    have hH:HoldsK enc (Ty.size .term) w (Γ.cur 0) 0 (Array.range n):=by
     intro j hj;rw[size_flatK,hrange]at hj;obtain⟨q1,q2,q3⟩:=LM j (Ty.size .term) n hj;have hjs:j<vs.size:=dq hj hns;constructor
     ·rw[get_flatK _ _ _ _ (by rw[hrange];exact hj)];have e1:(Array.range n)[j / (Ty.size .term)]! = j / (Ty.size .term):=by rw[pE _ _ (by rw[hrange];exact q1)];simp
      rw[e1,henc];show _=some ((gU vs (Ty.size .term) (j / (Ty.size .term) % n))[j % (Ty.size .term)]!);rw[qJ q1];have e2:(gU vs (Ty.size .term) (j / (Ty.size .term)))[j % (Ty.size .term)]?=some vs[j]:=by rw[G0 q3,q2];exact gE hjs
      rw[bS,Blk.cell hvs,Q5,e2,gE hjs];rfl
     ·exact Blk.free hvs _
    have heq:∀(m:Nat) (os:Array Obj) (dk:Array Nat),dk.size=n->∀ x y,Calls Go.Proofs.Tryz.prog g #[.agg (enc x).toArray,.agg (enc y).toArray] (sortWorldK enc (Ty.size .term) w (Γ.cur 0) 0 m dk os) λ e w'=>e = .returned (.bool (ng F l x y))/\∃ q' os',w'=grow ((sortWorldK enc (Ty.size .term) w (Γ.cur 0) 0 m dk os).drewN q') os':=by
     intro m os dk hdk x y;have B:=sort_blks hvsb enc (Ty.size .term) m dk os;obtain⟨W,hW⟩:∃ W,W=sortWorldK enc (Ty.size .term) w (Γ.cur 0) 0 m dk os:=⟨_,rfl⟩
     rw[<- hW]at B |-
     have hiW:Inv (bare Γ) emp W:=hi.bare λ b o u e=>by
      have hne:b ≠ Γ.cur 0 := λ hb=>by rw[hb,hmem0]at e;cases e
      have hc:=(hi.mem b o u e).1;have hblt:=hi.mem_lt e;rw[show W.cell? _=w.cell? _ from World.cell?_of_block (B.other b hblt hne)];exact hc
     have rep:∀(i:Nat) (y:T),l[i % n]?=some y->Rep (bare Γ) (cy .term y) (.agg (enc i).toArray) := λ i y hy=>by
      obtain⟨q1,q2⟩:=hER hy;rw[hag];have:enc i=gU vs (Ty.size .term) (i % n):=by rw[henc]
      rw[this];refine .agg _ _ q1.len q2 λ j z u a b=>(q1.rep j z u a b).bare (iC .term y z (aK a))
     obtain⟨lx,hx⟩:=hlget x;obtain⟨ly,hy⟩:=hlget y;have hsome:=bB.1 (bB.1 v2 lx (aK hx)) ly (aK hy);obtain⟨c,hc⟩:=qtw.1 hsome
     have hcf:ng F l x y=c:=by
      unfold ng;rw[<- hn,hx,hy];simp only;rw[hc];rfl
     rw[hcf];have hcall:=hF.2 hiW (rep x lx hx) (rep y ly hy) hc;refine Calls.mono hcall ?_;rintro e w' ⟨rfl,hid⟩;exact⟨rfl,hid.grow⟩
    have hcall:=cP w (Γ.cur 0) n cap et vs hvsb hfit hcap (by omega) (by omega) enc hek he1 hH (ng F l) heq;obtain⟨ix,hix⟩:∃ ix,ix=da (ng F l) n:=⟨_,rfl⟩
    rw[<- hix]at hcall;have hixlt:∀ i∈ix,i<n := λ i hi=>by rw[hix]at hi;exact VK i hi
    have hixl:∀ i∈ix,i<l.length := λ i hi=>by rw[<- hn];exact hixlt i hi
    have hixc:∀ i∈ix,i<R.c.length := λ i hi=>by rw[hnc];exact hixlt i hi
    have hl'e:l'=pick l ix:=by rw[v4,<- hn,hix]
    have hl'n:l'.length=ix.length:=by rw[hl'e,Xg hixl]
    have pm:∀ e∈pick R.c ix,e∈R.c := λ e he=>by
     unfold pick at he;obtain⟨i,_,h⟩:=nH.1 he;exact aK h
    refine FY (a := .term) hi hb0 hR hRk hRf.1 hRf.2 hz (l:=l') (c:=pick R.c ix) (xs:=ix.flatMap enc) (n:=ix.length) hl'n.symm (by rw[hl'e];exact UM hRd hixl) (λ e he=>hlk e (pm e he)) (λ e he=>H.plain e (pm e he)) (λ i e j x h1 h2=>?_) ?_
    ·rw[M5 hixc]at h1;cases hp:ix[i]? with
     | none=>rw[hp]at h1;cases h1
     | some p =>
       rw[hp]at h1;have h1:R.c[p]?=some e:=h1;have hj:j<Ty.size .term:=by have:=getElem?_lt h2;rwa [hlk e (aK h1)]at this
       obtain⟨u,u1,u2⟩:=hca p e j x h1 h2;refine⟨u,?_,u2⟩;have hpn:p<n:=hixlt p (aK hp);rw[Mf hek _ _ _ hj,hp];show(enc p)[j]?=some u;rw[henc];show(gU vs (Ty.size .term) (p % n))[j]?=some u;rw[qJ hpn,G0 hj,<- gF];rw[fR]at u1;split at u1
       ·exact u1
       ·cases u1
    ·refine Calls.mono hcall ?_;rintro e w' ⟨rfl,dk,m,os,new,hdk,htk,hw⟩;have B:=sort_blks hvsb enc (Ty.size .term) m dk os;have hpsz:(putCells id 0 (flatK enc (Ty.size .term) dk) vs).size=vs.size:=by unfold putCells;rw[qc6]
     have hixn:ix.length<=n:=by
      have:=bz List.length htk;rw[bg]at this;have h2:dk.toList.length=n:=by rw[ir,hdk]
      omega
     have hlen:ix.length*Ty.size .term<=n*Ty.size .term:=bY _ hixn
     have hxs:(putCells id 0 (flatK enc (Ty.size .term) dk) vs).toList.take (ix.length*Ty.size .term)=ix.flatMap enc:=by
      apply qK;intro t;by_cases ht:t<ix.length*Ty.size .term
      ·obtain⟨q1,q2,q3⟩:=LM t (Ty.size .term) ix.length ht;rw[fR,af ht,gF];unfold putCells;rw[qtx,gE (by omega),nF,af ⟨aG _,by rw[size_flatK,hdk];omega⟩,Nat.sub_zero,id,get_flatK _ _ _ _ (by rw[hdk];omega)]
       conv=>rhs;rw[<- q2]
       rw[Mf hek _ _ _ q3]
       have hd:dk[t / Ty.size .term]?=ix[t / Ty.size .term]?:=by
        rw[<- htk,fR,af q1,gF]
       have hdl:t / Ty.size .term<dk.size:=by rw[hdk];omega
       rw[<- hd,gE hdl,pE dk _ hdl];show _=(enc dk[t / Ty.size .term])[t % Ty.size .term]?;rw[Q5,aU (by rw[hek];exact q3)];rfl
      ·rw[oI (by rw[bg];omega),oI (by rw[Vz hek];omega)]
     rcases hw with rfl | ⟨n1,n2,rfl⟩
     ·exact⟨Γ.cur 0,cap,_,et,rfl,B.hb,by omega,by rw[hpsz];exact hfit,hxs,.inl ⟨rfl,hpsz.trans hvsz⟩,B.os,B.tape,B.output,B.size,B.drawn,B.other⟩
     ·have hs:=setRow_heap _ (Γ.cur 0) _ new.toArray et (0,0) B.hb;refine⟨Γ.cur 0,cap,new.toArray,et,rfl,hs,by omega,by rw[iq,n2];exact hfit,?_,.inl ⟨rfl,by rw[iq,n2];exact hvsz⟩,B.os,B.tape,B.output,?_,B.drawn,λ b hb hne=>(setRow_other _ (Γ.cur 0) b _ hne).trans (B.other b hb hne)⟩
      ·rw[<- hxs];exact n1
      ·show w.heap.size<=_;simp only[World.setRow,Array.size_modify];exact B.size
 ·have hl2:l'=[]:=by
    have hl0:l=[]:=hl0;rw[hl0]at hl';cases hl';rfl
  rcases hy with rfl | ⟨f,rfl,hf2⟩
  ·have hu0:=ce hu0;subst hu0;exact nil0 none hl2
  ·cases hu0 with
   | sl _ _ _ a n cap b o us hn _ hf _ _ _ _ _ _ =>
     have hn:n=0:=hn;have hcap:cap=n:=hf (by omega);rw[hcap,hn];exact nil0 a hl2
end
section
set_option maxRecDepth 100000
noncomputable section
class NF (α:Type) where z:α
instance {α:Type}:NF (ac α):=⟨U⟩
instance {α a:Type}[NF a]:NF (α->a):=⟨λ _=>NF.z⟩
instance {α a:Type}[NF α][NF a]:NF (α×a):=⟨(NF.z,NF.z)⟩
def aW{α:Type}[NF α]:(Nat->α->α)->Nat->α:=qaN NF.z
def aX{α:Type}[NF α](s:Nat->α):Nat->α:=qaN NF.z λ m _=>s m
def aY{α:Type}[NF α]:(α->α)->Nat->α:=qbR NF.z
abbrev Z1:=ac ((Unit)×((aa T)×Unit))
abbrev Z2:=(aa (TL))->Int->(aa (TL))->Int->Int->Z1
abbrev Z3:=aa T
abbrev Z4:=(aa (TL))->Int->Int->Z3->Z1
abbrev Z5:=ac ((Int×(aa T)×Unit)×(Unit))
abbrev Z6:=T->Int->Z3->Z5
abbrev Z7:=Z3->Int->Int->Int->Z3->Z5
abbrev Z8:=ac Int
abbrev Z9:=T->Z8
abbrev Z10:=Int->Z3->Int->Int->Z8
abbrev Z11:=T->T->Z8
abbrev Z12:=aa aN
abbrev Z13:=Int->Int->Int->Z12->Int->Z3->Int->Z12->Int->Z3->Z8
abbrev Z14:=ac T
abbrev Z15:=T->Z14
abbrev Z16:=Z3->Int->Int->Int->Z12->Int->Int->Z12->Int->Z3->Z3->Z14
abbrev Z17:=ac Bool
abbrev Z19:=Int->Int->Z3->Z1
abbrev Z20:=ac (TL)
abbrev Z21:=T->Z20
abbrev Z22:=ac ((T×Unit)×(Bool×Unit))
abbrev Z23:=ac ((T×Unit)×(Int×Unit))
abbrev Z24:=Z3->Int->Int->Int->Z12->Int->Z3->Z23
abbrev Z25:=T->Z17
abbrev Z26:=ac ((Unit)×(Int×Unit))
abbrev Z27:=Z3->Int->Int->Z26
abbrev Z28:=TL->Z26
abbrev Z29:=ac ((Unit)×(Bool×Unit))
abbrev Z31:=ac (Y8×(Int×(Int×Int)))
abbrev Z32:=aa (Y8×(Int×(Int×Int)))
abbrev Z33:=Z12->Z32->Int->Int->Z12->Int->Int->Int->Z31
abbrev Z34:=Y8->Z17
abbrev Z35:=Z3->Int->Int->Z17
abbrev Z37:=Z12->Int->Int->Z17
abbrev Z38:=ac ((Int×Int×Unit)×(Int×Unit))
abbrev Z39:=T->Int->Int->Int->Z38
abbrev Z40:=Int->Z3->Int->Int->Int->Int->Z38
abbrev Z41:=Z3->Int->Int->Int->Z12->Int->Z3->Z8
abbrev Z42:=Z3->Int->Int->Z8
abbrev Z43:=ac (((aa T)×Unit)×(Unit))
abbrev Z44:=Z3->Int->Int->Z3->Z43
abbrev Z45:=ac (((aa T)×Unit)×(Int×Unit))
abbrev Z46:=aa (Int×(T×(T×(Int×TL))))
abbrev Z47:=Z46->Int->Int->Z3->Z45
abbrev Z48:=Z46->Int->Int->Z3->Int->Int->Z3->Z45
abbrev Z49:=Z46->Int->Int->Z3->Int->Int->Z3->Int->Int->Z3->Z45
abbrev Z50:=ac ((TL)×Int)
abbrev Z51:=aa (T×(aa (Int×(T×(T×(Int×TL))))))
abbrev Z52:=Z51->Int->Int->Z3->Z50
abbrev Z53:=Int×(TL×(TL×(aa (T×(aa (Int×(T×(T×(Int×TL)))))))))
abbrev Z54:=Z53->Int->Z50
abbrev Z55:=Z3->Int->Int->Int->Z3->Z3->Z51->Z3->Z17
abbrev Z56:=Z51->Int->Int->Z17
abbrev Z57:=Z51->Int->Int->Z46->Int->Int->Z17
abbrev Z58:=Z53->Z17
abbrev Z60:=aa Y8
abbrev Z61:=Z60->Z12->Int->Int->Z8
abbrev Z62:=Z60->Int->Int->Int->Z60->Z17
abbrev Z63:=Z53->(Int×(aa Y8))->Z17
abbrev Z64:=ac Y8
abbrev Z65:=Int->Z64
abbrev Z66:=ac (((aa (T×T))×Unit)×(Unit))
abbrev Z67:=aa (T×T)
abbrev Z68:=ac ((Unit)×((aa (T×T))×Unit))
abbrev Z69:=aa (aa (T×T))
abbrev Z70:=Z69->Int->Z69->Int->Int->Z68
abbrev Z71:=Z69->Int->Int->Z67->Z68
abbrev Z72:=ac (aa (T×T))
abbrev Z73:=ac ((aa (T×T))×Int)
abbrev Z74:=Int->Z3->Int->Int->Int->Z3->Z3->Z51->Int->Z60->Z67->Z60->Z73
abbrev Z75:=Int->Z3->Int->Int->Z67->Z73
abbrev Z76:=Z53->(Int×(aa Y8))->Int->Z73
abbrev Z77:=ac (Int×Bool)
abbrev Z78:=Z67->Int->Int->Int->Int->Z12->Int->Z3->Z77
abbrev Z79:=ac (T×Bool)
abbrev Z80:=ac (T×Int)
abbrev Z81:=(aa Int)->Int->Int->Int->Z12->Int->Z3->Int->Z12->Int->Z3->Z80
abbrev Z82:=Z67->Int->Int->Z67->Z72
abbrev Z83:=ac ((Int×(aa Y8))×(Int×(Int×(Int×(Int×(aa (T×T)))))))
abbrev Z84:=(Int×(aa Y8))×(Int×(Int×(Int×(Int×(aa (T×T))))))
abbrev Z85:=Z67->T->Z14
abbrev Z86:=Z67->Z3->Int->Int->Int->Z12->Int->Int->Z12->Int->Z3->Z3->Z14
abbrev Z87:=aa ((Y8×Int)×T)
abbrev Z88:=ac (((aa ((Y8×Int)×T))×Unit)×(Bool×Unit))
abbrev Z89:=T->T->Z87->Z88
abbrev Z90:=Int->Int->Z87->Int->Z12->Int->Z3->Int->Z12->Int->Z3->Z88
abbrev Z91:=Z3->Int->Int->Z87->Z67->Z73
abbrev Z92:=ac ((aa (T×T))×Bool)
abbrev Z93:=ac (((Int×(aa Y8))×(Int×(Int×(Int×(Int×(aa (T×T)))))))×((aa (Int×(Int×TL)))×Bool))
abbrev Z94:=Z67->Z46->Int->Int->Int->Z3->Z3->Z51->Int->Z60->Int->Int->Int->Int->Z67->Int->Int->Int->Int->Int->Z60->Z67->(aa (Int×(Int×TL)))->Z93
abbrev Z95:=Z67->Z46->Int->Int->Z3->Int->Int->Int->Z3->Z3->Z51->Int->Z60->Int->Int->Int->Int->Z67->Int->Int->Int->Int->Int->Int->Int->Z60->Z67->(aa (Int×(Int×TL)))->Z3->Z93
abbrev Z96:=ac (((Int×(aa Y8))×(Int×(Int×(Int×(Int×(aa (T×T)))))))×((aa (Int×(Int×TL)))×Int))
abbrev Z97:=Int->Int->Z3->Z8
abbrev Z98:=Z3->Z3->Z3->Z20
abbrev Z99:=Z3->Z3->Int->Int->Z20
abbrev qa2:=(aa Int)->Int->Int->Int->Z12->Int->Z3->Int->Z12->Int->Int->Z12->Int->Z3->Z3->Z80
abbrev Bi:=TL->Z20
abbrev qcb:=Z3->Int->Int->Z3->Z20
abbrev qcg:=Z3->Z3->Int->Int->Int->Z12->Int->Z3->Z80
abbrev qbF:=Int->Int->Int->Z12->Int->Int->Z12->Int->Z3->Z3->Z14
abbrev eF:=aa (T×Int)
abbrev qcC:=eF->Int->Int->Int->Int->Z12->Int->Z3->Z77
abbrev mC:=ac ((Unit)×((aa (T×Int))×Unit))
abbrev sw:=ac ((Unit)×((aa (T×Int))×Bool×Unit))
abbrev Jg:=eF->T->Int->sw
abbrev qcB:=Int->Z3->Int->Int->eF->sw
abbrev pq:=ac ((aa (T×Int))×Int)
abbrev qa6:=eF->eF->Int->Int->Z8
abbrev I9:=eF->Z8
abbrev IY:=eF->Int->Int->Int->Z12->Int->Z3->Z3->Z3->Z80
abbrev Jh:=eF->Int->Int->Int->Int->Int->Z12->Int->Int->Z12->Int->Z3->Int->Z3->Z3->Z3->Z80
abbrev qtl:=eF->Z80
abbrev qb9:=eF->Int->Int->eF->mC
abbrev qb7:=eF->Int->Int->Z8
abbrev qb5:=eF->Int->Int->eF->pq
abbrev qbM:=eF->eF->pq
abbrev ss:=T->Z80
abbrev qbk:=Z3->Int->Int->Int->Z12->Int->Z3->Int->Z12->Int->Int->Z12->Int->Z3->Z3->Z80
abbrev qcJ:=Z67->Z67->Int->Int->Z8
abbrev qbc:=Z67->Z8
abbrev P4:=Z3->Z67->Z67->Int->Int->Int->Z60->Int->Int->Int->Int->Z67->Z8
abbrev PF:=Z67->Int->Int->Int->Z60->Int->Int->Int->Int->Z67->Z8
abbrev qcA:=Z53->Z84->Z8
abbrev yJ:=Int->Int->Int->Z12->Int->Z3->Z8
abbrev qb1:=Int->Int->Z12->Int->Z3->Int->Z12->Int->Z3->Z8
abbrev qto:=ac (Int×(TL×(TL×(aa (T×(aa (Int×(T×(T×(Int×TL))))))))))
abbrev IW:=T->Int->Z8
abbrev Pe:=Int->Int->Int->Z3->Z3->Z51->Z3->Z17
abbrev Pa:=Int->Int->Int->Int->Z3->Z3->Z51->Z3->Z17
abbrev qaW:=Z67->Int->Int->Int->Z3->Z17
abbrev qcE:=Int->Int->Int->Z60->Int->Int->Int->Int->Z67->Z17
abbrev qtm:=ac (((Int×(aa Y8))×(Int×(Int×(Int×(Int×(aa (T×T)))))))×Int)
abbrev qcw:=Int->Int->Z12->Int->Z3->Z3->Z20
abbrev qbI:=Z3->Bool->Int->Int->Z12->Int->Z3->Z3->Z20
abbrev Jk:=Z3->Z3->Int->Z20
abbrev qa3:=Int->Z3->Int->Z3->Z20
abbrev qch:=Z12->Int->Z17
abbrev Jd:=Int->Int->Z12->Int->Z3->Z8
abbrev qtn:=ac (aa (Y8×(Int×(Int×Int))))
abbrev qbm:=Z12->Z32->Int->Z8
abbrev qb4:=Z32->Int->Int->Z12->Int->Z3->Z17
abbrev qbQ:=Int->Int->Z12->Int->Z3->Z17
abbrev qbZ:=Z3->Int->Int->Z12->Int->Z3->Z8
abbrev qb0:=Z3->Int->Int->Z12->Int->Z3->Z17
abbrev qcy:=Z3->Int->Int->Z12->Int->Z3->Z3->Z20
abbrev qcd:=Z3->Int->Int->Z12->Int->Z3->Z20
abbrev qbj:=Z3->Z3->Int->Int->Z12->Int->Z3->Z80
abbrev qbx:=Int->Int->Int->Z12->Int->Z3->Z17
abbrev qbX:=Int->Bool->Int->Int->Z12->Int->Z3->eF->eF->mC
abbrev Bu:=eF->T->Int->mC
abbrev qb3:=Int->Int->Int->Z12->Int->Z3->eF->mC
abbrev I2:=eF->Int->Z8
abbrev pz:=eF->Int->Z3->Z20
abbrev pi:=eF->Int->Int->Z3->Z20
abbrev qco:=eF->Int->eF->pq
abbrev qbq:=Int->Int->Z12->Int->Z3->Int->Z12->Int->Z3->Z3->Z80
abbrev sD:=Z3->Int->Z17
abbrev qb8:=Z67->Int->Int->Z12->Int->Z3->Int->Z12->Int->Z3->Z14
abbrev qbs:=Z3->Z3->Int->Z17
abbrev yE:=ac ((Unit)×((aa T)×Int×Unit))
abbrev PI:=Z3->Int->Z3->yE
abbrev PG:=Int->Int->Int->Z3->Z3->Z51->Z3->Z50
abbrev PS:=Int->Int->Int->Int->Z3->Z3->Z51->Z3->Z50
abbrev yv:=Int->Int->Z3->Z3->Z51->Z17
abbrev Qi:=Int->Int->Int->Z3->Z3->Z51->Z17
abbrev O1:=Int->Int->Z60->Z17
abbrev Qb:=Int->Int->Int->Z60->Z17
abbrev qbK:=Z67->Bool->Int->Int->Z12->Int->Z3->Int->Z12->Int->Z3->Z67->Z72
abbrev P2:=Int->Z67->Int->Int->Z3->Z3->Z51->Int->Z60->Z73
abbrev Po:=Int->Z67->Int->Int->Z3->Z3->Z51->Z73
abbrev qbS:=Z67->Int->Z8
abbrev Pd:=Z67->Z3->Int->Int->Z60->Int->Int->Int->Int->Z67->Z8
abbrev Pb:=Z67->Int->Int->Z60->Int->Int->Int->Int->Z67->Z8
def B8(m:Nat)(b:Z2)(c:Z4)(a:aa TL):Z1:=
 b a 0 a (J a) 0
def B6(m:Nat)(i:Z2)(h:Z4)(c:aa (TL))(b:Int)(e:aa (TL))(d a:Int):Z1:=
 cond (ilt a d) (ab (ap e a) λ f=>cond (ilt (iw .i64 (av b (J f))) 0) U (i c (iw .i64 (av b (J f))) e d (iw .i64 (av a 1)))) (ab (yZ 0 b) λ g=>
 h c (J c) 0 g.2.1)
def B7(m:Nat)(g:Z2)(f:Z4)(d:aa (TL))(c b:Int)(a:TL):Z1:=
 cond (ilt b c) (ab (ap d b) λ e=>cond (br (J a+J e) 56) (f d c (iw .i64 (av b 1)) (a++e)) U) (Z ((()),(a,())))
def jU(m:Nat):=aY λ a=>(B6 m a.1 a.2,B7 m a.1 a.2)
def qO:Nat->((aa TL)->Z1):=aW λ m _=>B8 m (jU m m).1 (jU m m).2
def JZ(m:Nat)(c:T)(b:Int)(a:TL):Z5:=
 cond (ieq c.kind b) (cond (br (J a+1) 56) (ab (ap (a++[T.mk 0 [] 0 []]) (J a)) λ d=>Z ((b,dK (a++[T.mk 0 [] 0 []]) (J a) (re c),()),(()))) U)
 (Z ((b,a,()),(())))
def Cm:=aX JZ
def Cn(m:Nat)(a:Z6)(f:Z7)(d:T)(c:Int)(b:TL):Z5:=
 ab (Cm m (re d) c b) λ e=>f d.kids (J d.kids) 0 e.1.1 e.1.2.1
def Ck(m:Nat)(a:Z6)(i:Z7)(f:TL)(e b d:Int)(c:TL):Z5:=
 cond (ilt b e) (ab (ap f b) λ h=>ab (a (re h) d c) λ g=>i f e (iw .i64 (av b 1)) g.1.1 g.1.2.1) (Z ((d,c,()),(())))
def tq(m:Nat)(a:Z6):=aY (Ck m a)
def lJ:Nat->Z6:=aW λ m a=>Cn m a (tq m a m)
def Lw(m:Nat)(b a:Int):Z8:=
 cond (ilt b a) (Z (-1)) (cond (ilt a b) (Z 1) (Z 0))
def uM:=aX Lw
def Fp(m:Nat)(a:Z9)(c:Z10)(b:T):Z8:=
 c 1 b.kids (J b.kids) 0
def Fl(m:Nat)(a:Z9)(h:Z10)(e:Int)(d:TL)(c b:Int):Z8:=
 cond (ilt b c) (ab (ap d b) λ g=>ab (a (re g)) λ f=>h (iw .i64 (av e f)) d c (iw .i64 (av b 1))) (Z e)
def uD(m:Nat)(a:Z9):=aY (Fl m a)
def ko:Nat->Z9:=aW λ m a=>Fp m a (uD m a m)
def Dk(m:Nat)(c:Z11)(e:Z13)(b a:T):Z8:=
 ab (ko m (re b)) λ n=>ab (ko m (re a)) λ l=>ab (uM m n l) λ d=>let j1:Z8:=(ab (uM m (J b.kids) (J a.kids)) λ k=>
 e k 0 b.kind b.name b.sort b.kids a.kind a.name a.sort a.kids);let h:Z8:=(ab (uM m b.sort a.sort) λ i=>
 cond (ieq i 0) j1 (e i 0 b.kind b.name b.sort b.kids a.kind a.name a.sort a.kids));let j:Z8:=(ab (strings_Compare 0 b.name a.name) λ g=>
 cond (ieq g 0) h (cond (ieq g 0) j1 (e g 0 b.kind b.name b.sort b.kids a.kind a.name a.sort a.kids)));cond (ieq d 0) (ab (uM m b.kind a.kind) λ f=>
 cond (ieq f 0) j (cond (ieq f 0) h (cond (ieq f 0) j1 (e f 0 b.kind b.name b.sort b.kids a.kind a.name a.sort a.kids))))
 (cond (ieq d 0) j (cond (ieq d 0) h (cond (ieq d 0) j1 (e d 0 b.kind b.name b.sort b.kids a.kind a.name a.sort a.kids))))
def zh(m:Nat)(a:Z11)(p:Z13)(d b k:Int)(j:Y8)(i:Int)(c:TL)(h:Int)(g:Y8)(f:Int)(e:TL):Z8:=
 cond (ieq d 0) (cond (ilt b (J c)) (ab (ap c b) λ o=>ab (ap e b) λ n=>ab (a (re o) (re n)) λ l=>p l (iw .i64 (av b 1)) k j i c h g f e) (Z d))
 (Z d)
def pG(m:Nat)(a:Z11):=aY (zh m a)
def cZ:Nat->Z11:=aW λ m a=>Dk m a (pG m a m)
def tk:Nat->TL->ac (TL):=aW λ m _=>pd (cZ m)
def ED(m:Nat)(a:Z15)(c:Z16)(b:T):Z14:=
 c b.kids (J b.kids) 0 b.kind b.name b.sort 0 [] 0 [] []
def EI(m:Nat)(a:Z15)(p:Z16)(i:TL)(h c g:Int)(f:Y8)(e l:Int)(k:Y8)(j:Int)(b d:TL):Z14:=
 cond (ilt c h) (ab (ap i c) λ o=>ab (a (re o)) λ n=>cond (br (J b+1) 56) (p i h (iw .i64 (av c 1)) g f e l k j (b++[re n]) d) U)
 (Z (T.mk g f e b))
def uj(m:Nat)(a:Z15):=aY (EI m a)
def jA:Nat->Z15:=aW λ m a=>ED m a (uj m a m)
def Kk(m:Nat)(c b:T):Z17:=
 ab (cZ m (re c) (re b)) λ a=>Z (ieq a 0)
def nM:=aX Kk
def wA:Nat->TL->ac (Unit×TL×Unit):=aW λ m _=>A7 (nM m)
def DI(m:Nat)(d:Z19)(c:TL):Z1:=
 ab (tk m c) λ b=>cond (Nat.beq (J b) (J c)) (ab (wA m b) λ a=>d (J a.2.1) 0 a.2.1) U
def DK(m:Nat)(f:Z19)(c a:Int)(b:TL):Z1:=
 cond (ilt a c) (ab (ap b a) λ e=>ab (jA m (re e)) λ d=>ab (ap b a) λ g=>f c (iw .i64 (av a 1)) (dK b a (re d))) (Z ((()),(b,())))
def tP(m:Nat):=aY (DK m)
def Lv:Nat->(Z3->Z1):=aW λ m _=>DI m (tP m m)
def KS(m:Nat)(d:T)(c:Int):Z20:=
 ab (lJ m (re d) c []) λ b=>ab (Lv m b.1.2.1) λ a=>Z a.2.1
def LA:=aX KS
def Lx(m:Nat)(b:T):Z20:=
 ab (LA m (re b) 1) λ a=>Z a
def pR:=aX Lx
def KE(m:Nat)(c b:T):Z17:=
 ab (cZ m (re c) (re b)) λ a=>Z (ieq a 0)
def wS:=aX KE
def J7(m:Nat)(c a:T):Z22:=
 ab (wS m (re c) (re a)) λ b=>Z ((re a,()),(b,()))
def Cz:=aX J7
def BZ(m:Nat)(c:Z24)(b:TL)(a:T):Z23:=
 c b (J b) 0 a.kind a.name a.sort a.kids
def yS(m:Nat)(j:Z24)(h:TL)(g b f:Int)(e:Y8)(d:Int)(c:TL):Z23:=
 cond (ilt b g) (ab (ap h b) λ i=>ab (Cz m (re i) (T.mk f e d c)) λ a=>cond a.2.1 (Z ((re a.1.1,()),(b,())))
 (j h g (iw .i64 (av b 1)) a.1.1.kind a.1.1.name a.1.1.sort a.1.1.kids)) (Z ((T.mk f e d c,()),((-1),())))
def th(m:Nat):=aY (yS m)
def JR:Nat->(TL->T->Z23):=aW λ m _=>BZ m (th m m)
def JH(m:Nat)(c:TL)(a:T):Z22:=
 ab (JR m c (re a)) λ b=>Z ((re b.1.1,()),(ile 0 b.2.1,()))
def JM:=aX JH
def KU(m:Nat)(c:TL)(b:T):Z17:=
 ab (JM m c (re b)) λ a=>Z a.2.1
def uB:=aX KU
def qfe(m:Nat)(a:T):Z17:=
 Z (ieq a.sort 5)
def Kt:=aX qfe
def B1(m:Nat)(b:Z27)(a:TL):Z26:=
 b a (J a) 0
def yT(m:Nat)(f:Z27)(c:TL)(b a:Int):Z26:=
 cond (ilt a b) (ab (ap c a) λ e=>ab (Kt m (re e)) λ d=>cond d (Z ((()),(a,()))) (f c b (iw .i64 (av a 1)))) (Z ((()),((-1),())))
def ti(m:Nat):=aY (yT m)
def JS:Nat->Z28:=aW λ m _=>B1 m (ti m m)
def JJ(m:Nat)(b:TL):Z29:=
 ab (JS m b) λ a=>Z ((()),(ile 0 a.2.1,()))
def B2:=aX JJ
def C8(m:Nat)(c:Z33)(b:Y8):Z31:=
 ab (KR 0) λ a=>c b a (J a) 0 [] 0 0 0
def C0(m:Nat)(j:Z33)(d:Y8)(c:aa (Y8×(Int×(Int×Int))))(b a:Int)(i:Y8)(h g f:Int):Z31:=
 cond (ilt a b) (ab (ap c a) λ e=>cond (bc e.1 d) (Z e) (j d c b (iw .i64 (av a 1)) i h g f)) (Z ([],(0,(0,0))))
def tH(m:Nat):=aY (C0 m)
def wR:Nat->(Y8->Z31):=aW λ m _=>C8 m (tH m m)
def Ks(m:Nat)(a:Y8):Z17:=
 cond (bc a [120,111,114]) (Z Y) (cond (bc a [122,101,114,111]) (Z Y) (cond (bc a [101,120,112]) (Z Y) (cond (bc a [109,117,108]) (Z Y) (cond (bc a [105,110,118])
 (Z Y) (cond (bc a [111,110,101]) (Z Y) (ab (wR m a) λ b=>Z (am (ieq b.2.2.2 3))))))))
def EE:=aX Ks
def Cc(m:Nat)(a:Z25)(c:Z35)(b:T):Z17:=
 cond (ieq b.kind 3) (ab (EE m b.name) λ d=>cond (am d) (Z Y) (c b.kids (J b.kids) 0)) (c b.kids (J b.kids) 0)
def Cb(m:Nat)(a:Z25)(g:Z35)(d:TL)(c b:Int):Z17:=
 cond (ilt b c) (ab (ap d b) λ f=>ab (a (re f)) λ e=>cond (am e) (Z Y) (g d c (iw .i64 (av b 1)))) (Z O)
def qR(m:Nat)(a:Z25):=aY (Cb m a)
def kV:Nat->Z25:=aW λ m a=>Cc m a (qR m a m)
def Lp(m:Nat)(a:Int):Z17:=
 let d:Z17:=(let c:Z17:=(let b:Z17:=(cond (ieq a 95) (Z O) (Z (ieq a 35)));cond (ile 48 a) (cond (ile a 57) (Z O) b) b);cond (ile 65 a) (cond (ile a 90) (Z O) c) c);
 cond (ile 97 a) (cond (ile a 122) (Z O) d) d
def Aj:=aX Lp
def D9(m:Nat)(i:Z37)(a:Y8):Z17:=
 cond (bc a []) (Z Y) (cond (ilt 24 (J a)) (Z Y) (ab (ap a 0) λ h=>ab (Aj m ((UInt8.toNat h:Nat):Int)) λ g=>cond (am g) (Z Y) (ab (ap a 0) λ f=>
 let b:Z17:=(ab (ap a 0) λ d=>cond (ieq ((UInt8.toNat d:Nat):Int) 95) (Z Y) (ab (ap a 0) λ c=>cond (ieq ((UInt8.toNat c:Nat):Int) 35) (Z Y) (i a (J a) 0)));
 cond (ile 48 ((UInt8.toNat f:Nat):Int)) (ab (ap a 0) λ e=>cond (ile ((UInt8.toNat e:Nat):Int) 57) (Z Y) b) b)))
def DN(m:Nat)(f:Z37)(c:Y8)(b a:Int):Z17:=
 cond (ilt a b) (ab (ap c a) λ e=>ab (Aj m ((UInt8.toNat e:Nat):Int)) λ d=>cond (am d) (Z Y) (f c b (iw .i64 (av a 1)))) (Z O)
def pI(m:Nat):=aY (DN m)
def wV:Nat->Z34:=aW λ m _=>D9 m (pI m m)
def Ew(m:Nat)(b:Z39)(i:Z40)(a:T)(d f e:Int):Z38:=
 let g:Z38:=(ab (wV m a.name) λ h=>cond (am h) (Z ((iw .i64 (av f 1),pn e d,()),(2,()))) (cond (ilt 8 (J a.kids)) (Z ((iw .i64 (av f 1),pn e d,()),(3,())))
 (i d a.kids (J a.kids) 0 (iw .i64 (av f 1)) (pn e d))));let c:Z38:=(Z ((iw .i64 (av f 1),pn e d,()),(1,())));let j3:Z38:=
 (cond (ilt a.sort 0) c (cond (ilt 5 a.sort) c (cond (ilt 0 (J a.kids)) c g)));cond (ieq a.kind 1) j3 (cond (ieq a.kind 2) j3 (cond (ieq a.kind 3) (cond (am (ieq a.sort 0)) c g) c))
def EL(m:Nat)(a:Z39)(j:Z40)(h:Int)(g:TL)(f c e d:Int):Z38:=
 cond (ilt c f) (ab (ap g c) λ i=>ab (a (re i) (iw .i64 (av h 1)) e d) λ b=>cond (am (ieq b.2.1 0)) (Z ((b.1.1,b.1.2.1,()),(b.2.1,())))
 (j h g f (iw .i64 (av c 1)) b.1.1 b.1.2.1)) (Z ((e,d,()),(0,())))
def mN(m:Nat)(a:Z39):=aY (EL m a)
def iD:Nat->Z39:=aW λ m a=>Ew m a (mN m a m)
def Ll(m:Nat)(b:T):Z8:=
 ab (iD m (re b) 1 0 0) λ a=>cond (am (ieq a.2.1 0)) (Z a.2.1) (cond (ilt 400 a.1.1) (Z 3) (cond (ilt 40 a.1.2.1) (Z 3) (Z 0)))
def fI:=aX Ll
def Dj(m:Nat)(b:Z9)(e:Z41)(d:Z42)(a:T):Z8:=
 cond (am (ieq a.kind 3)) (Z 0) (ab (wR m a.name) λ c=>cond (ieq c.2.2.2 0) (Z 10) (cond (ilt (J a.kids) c.2.1) (Z 6) (cond (ilt c.2.2.1 (J a.kids)) (Z 6)
 (cond (bc a.name [115,107]) (e a.kids (J a.kids) 0 a.kind a.name a.sort a.kids) (cond (bc a.name [115,104,107]) (e a.kids (J a.kids) 0 a.kind a.name a.sort a.kids)
 (cond (bc a.name [110,101,119]) (ab (ap a.kids 0) λ f=>cond (am (ieq f.kind 2)) (Z 10) (d a.kids (J a.kids) 0)) (d a.kids (J a.kids) 0)))))))
def DG(m:Nat)(a:Z9)(k:Z41)(j:Z42)(e:TL)(d c i:Int)(h:Y8)(g:Int)(b:TL):Z8:=
 cond (ilt c d) (ab (ap e c) λ f=>cond (ieq f.kind 3) (Z 10) (cond (am (ieq f.sort 1)) (Z 10) (k e d (iw .i64 (av c 1)) i h g b))) (j b (J b) 0)
def Dl(m:Nat)(a:Z9)(h:Z41)(g:Z42)(d:TL)(c b:Int):Z8:=
 cond (ilt b c) (ab (ap d b) λ f=>ab (a (re f)) λ e=>cond (am (ieq e 0)) (Z e) (g d c (iw .i64 (av b 1)))) (Z 0)
def iT(m:Nat)(a:Z9):=aY λ b=>(DG m a b.1 b.2,Dl m a b.1 b.2)
def fH:Nat->Z9:=aW λ m a=>Dj m a (iT m a m).1 (iT m a m).2
def KG(m:Nat)(b:T):Z8:=
 ab (fI m (re b)) λ a=>cond (am (ieq a 0)) (Z a) (ab (fH m (re b)) λ c=>Z c)
def zA:=aX KG
def K8(m:Nat)(a:T):Z17:=
 ab (zA m (re a)) λ c=>cond (ieq c 0) (ab (kV m (re a)) λ b=>Z b) (Z Y)
def FP:=aX K8
def Kn(m:Nat)(a:T):Z17:=
 ab (FP m (re a)) λ e=>cond e (ab (ko m (re a)) λ d=>cond (ile d 60) (ab (pR m (re a)) λ c=>ab (B2 m c) λ b=>
 Z (am b.2.1)) (Z Y)) (Z Y)
def tU:=aX Kn
def Ci(m:Nat)(d:Z44)(c:TL)(b:T):Z43:=
 ab (pR m (re b)) λ a=>d a (J a) 0 c
def Ch(m:Nat)(f:Z44)(d:TL)(c b:Int)(a:TL):Z43:=
 cond (ilt b c) (ab (ap d b) λ e=>ab (uB m a (re e)) λ g=>cond (am g) (cond (br (J a+1) 56) (ab (ap (a++[T.mk 0 [] 0 []]) (J a)) λ h=>
 f d c (iw .i64 (av b 1)) (dK (a++[T.mk 0 [] 0 []]) (J a) (re e))) U) (f d c (iw .i64 (av b 1)) a)) (Z ((a,()),(())))
def tp(m:Nat):=aY (Ch m)
def zd:Nat->(Z3->T->Z43):=aW λ m _=>Ci m (tp m m)
def JY(m:Nat)(b:T):Z17:=
 ab (tU m (re b)) λ a=>Z (am a)
def Cj:=aX JY
def B0(m:Nat)(b:Z27)(a:TL):Z26:=
 b a (J a) 0
def yV(m:Nat)(f:Z27)(c:TL)(b a:Int):Z26:=
 cond (ilt a b) (ab (ap c a) λ e=>ab (Cj m (re e)) λ d=>cond d (Z ((()),(a,()))) (f c b (iw .i64 (av a 1)))) (Z ((()),((-1),())))
def tj(m:Nat):=aY (yV m)
def JT:Nat->Z28:=aW λ m _=>B0 m (tj m m)
def JI(m:Nat)(b:TL):Z29:=
 ab (JT m b) λ a=>Z ((()),(ile 0 a.2.1,()))
def yU:=aX JI
def wG(m:Nat)(c:Z47)(h:Z48)(g:Z49)(b:TL)(a:T×(aa (Int×(T×(T×(Int×TL))))))(f:Bool):Z45:=
 cond (am f) (ab (tU m (re a.1)) λ e=>cond (am e) (Z ((b,()),(10,()))) (ab (zd m b (re a.1)) λ d=>c a.2 (J a.2) 0 d.1.1)) (c a.2 (J a.2) 0 b)
def oK(m:Nat)(n:Z47)(f:Z48)(o:Z49)(e:aa (Int×(T×(T×(Int×TL)))))(d c:Int)(b:TL):Z45:=
 cond (ilt c d) (ab (ap e c) λ a=>let j1:Z45:=(Z ((b,()),(10,())));cond (ieq a.1 1) (ab (tU m (re a.2.1)) λ l=>
 cond (am l) j1 (ab (tU m (re a.2.2.1)) λ k=>cond (am k) j1 (cond (am (ieq a.2.1.kind 1)) (Z ((b,()),(13,()))) (ab (uB m b (re a.2.1)) λ j=>cond (am j)
 (Z ((b,()),(13,()))) (ab (zd m b (re a.2.2.1)) λ i=>n e d (iw .i64 (av c 1)) i.1.1))))) (cond (ieq a.1 2)
 (ab (yU m [re a.2.1]) λ h=>cond h.2.1 j1 (f e d c [re a.2.1] (J [re a.2.1]) 0 b))
 (ab (yU m a.2.2.2.2) λ g=>cond g.2.1 j1 (f e d c a.2.2.2.2 (J a.2.2.2.2) 0 b)))) (Z ((b,()),(0,())))
def Cd(m:Nat)(k:Z47)(l:Z48)(j:Z49)(g:aa (Int×(T×(T×(Int×TL)))))(f e:Int)(d:TL)(c a:Int)(b:TL):Z45:=
 cond (ilt a c) (ab (ap d a) λ i=>ab (pR m (re i)) λ h=>j g f e d c a h (J h) 0 b) (k g f (iw .i64 (av e 1)) b)
def Ce(m:Nat)(p:Z47)(o:Z48)(n:Z49)(j:aa (Int×(T×(T×(Int×TL)))))(i h:Int)(g:TL)(f e:Int)(d:TL)(c b:Int)(a:TL):Z45:=
 cond (ilt b c) (ab (ap d b) λ l=>ab (uB m a (re l)) λ k=>cond (am k) (Z ((a,()),(13,()))) (n j i h g f e d c (iw .i64 (av b 1)) a))
 (o j i h g f (iw .i64 (av e 1)) a)
def cE(m:Nat):=aY λ a=>(oK m a.1 a.2.1 a.2.2,Cd m a.1 a.2.1 a.2.2,Ce m a.1 a.2.1 a.2.2)
def Cp:Nat->(Z3->(T×(aa (Int×(T×(T×(Int×TL))))))->Bool->Z45):=aW λ m _=>wG m (cE m m).1 (cE m m).2.1 (cE m m).2.2
def CZ(m:Nat)(d:Z52)(a:Int×(TL×(TL×(aa (T×(aa (Int×(T×(T×(Int×TL))))))))))(b:Int):Z50:=
 ab (qO m [a.2.1,a.2.2.1]) λ c=>cond (inb b (J a.2.2.2)) (cond (inb 0 (Int.toNat b)) (d (gA a.2.2.2 0 b) (J (gA a.2.2.2 0 b)) 0 c.2.1) U) U
def CY(m:Nat)(h:Z52)(e:aa (T×(aa (Int×(T×(T×(Int×TL)))))))(d a:Int)(b:TL):Z50:=
 cond (ilt a d) (ab (ap e a) λ g=>ab (Cp m b (re g.1,g.2) (ieq a 0)) λ c=>cond (am (ieq c.2.1 0)) (Z ([],c.2.1)) (h e d (iw .i64 (av a 1)) c.1.1))
 (ab (tk m b) λ f=>cond (Nat.beq (J f) (J b)) (Z (f,0)) U)
def tD(m:Nat):=aY (CY m)
def ue:Nat->Z54:=aW λ m _=>CZ m (tD m m)
def Ko(m:Nat)(a:T):Z17:=
 cond (ieq a.kind 0) (cond (bc a.name []) (cond (ieq a.sort 0) (Z (ieq (J a.kids) 0)) (Z Y)) (Z Y)) (Z Y)
def lK:=aX Ko
def CT(m:Nat)(c:Z55)(e:Z56)(d:Z57)(a:Int×(TL×(TL×(aa (T×(aa (Int×(T×(T×(Int×TL)))))))))):Z17:=
 ab (qO m [a.2.1,a.2.2.1]) λ b=>c b.2.1 (J b.2.1) 0 a.1 a.2.1 a.2.2.1 a.2.2.2 b.2.1
def CD(m:Nat)(q:Z55)(p:Z56)(r:Z57)(e:TL)(h b j:Int)(g i:TL)(c:aa (T×(aa (Int×(T×(T×(Int×TL)))))))(f:TL):Z17:=
 let a:Z17:=(Z Y);cond (ilt b h) (ab (ap f b) λ d=>cond (am (ieq d.kind 1)) a (ab (fI m (re d)) λ o=>cond (am (ieq o 0)) a (cond (inb b (J e))
 (cond (inb 0 (Int.toNat b)) (ab (uB m (gA e 0 b) (re d)) λ n=>cond n a (cond (am (cQ (ilt b (J g))
 (ieq d.sort 1))) a (cond (ieq d.sort 5) a (q e h (iw .i64 (av b 1)) j g i c f)))) U) U))) (cond (ieq (J c) 0) a (cond (ilt 12 (J c)) a (ab (ap c 0) λ l=>
 ab (lK m (re l.1)) λ k=>cond (am k) a (p c (J c) 0))))
def CL(m:Nat)(g:Z55)(f:Z56)(e:Z57)(d:aa (T×(aa (Int×(T×(T×(Int×TL)))))))(c a:Int):Z17:=
 cond (ilt a c) (ab (ap d a) λ b=>cond (ilt 20 (J b.2)) (Z Y) (e d c a b.2 (J b.2) 0)) (Z O)
def CI(m:Nat)(o:Z55)(n:Z56)(l:Z57)(g:aa (T×(aa (Int×(T×(T×(Int×TL)))))))(f e:Int)(d:aa (Int×(T×(T×(Int×TL)))))(c b:Int):Z17:=
 cond (ilt b c) (ab (ap d b) λ a=>let j1:Z17:=(Z Y);let j2:Z17:=(l g f e d c (iw .i64 (av b 1)));let j3:Z17:=(let h:Z17:=(ab (lK m (re a.2.1)) λ j=>
 cond j (ab (lK m (re a.2.2.1)) λ i=>cond i (cond (am (ile 0 a.2.2.2.1)) j1 j2) j1) j1);cond (ieq a.1 3) h (cond (ieq a.1 4) h j1));cond (ieq a.2.2.2.1 0) (cond (ieq a.1 1)
 (cond (am (ieq (J a.2.2.2.2) 0)) j1 j2) (cond (ieq a.1 2) (cond (ieq (J a.2.2.2.2) 0) (ab (lK m (re a.2.2.1)) λ k=>cond (am k) j1 j2) j1) j3))
 (cond (ieq a.1 1) j1 (cond (ieq a.1 2) j1 j3))) (n g f (iw .i64 (av e 1)))
def dW(m:Nat):=aY λ a=>(CD m a.1 a.2.1 a.2.2,CL m a.1 a.2.1 a.2.2,CI m a.1 a.2.1 a.2.2)
def DZ:Nat->Z58:=aW λ m _=>CT m (dW m m).1 (dW m m).2.1 (dW m m).2.2
def Kq(m:Nat)(a:Int×(TL×(TL×(aa (T×(aa (Int×(T×(T×(Int×TL)))))))))):Z8:=
 cond (ilt a.1 0) (Z 7) (cond (ile 4 a.1) (Z 7) (cond (ilt (J a.2.1) 2) (Z 7) (cond (ilt 4 (J a.2.1)) (Z 7) (cond (ile (J a.2.1) a.1) (Z 7)
 (ab (DZ m a) λ c=>cond (am c) (Z 1) (ab (ue m a (J a.2.2.2)) λ b=>Z b.2))))))
def zq:=aX Kq
def Kj(m:Nat)(b:Y8):Z17:=
 ab (fI m (T.mk 2 b 0 [])) λ a=>Z (ieq a 0)
def Eg:=aX Kj
def B9(m:Nat)(c:Z61)(a:aa Y8)(b:Y8):Z8:=
 c a b (J a) 0
def yY(m:Nat)(f:Z61)(d:aa (Y8))(c:Y8)(b a:Int):Z8:=
 cond (ilt a b) (ab (ap d a) λ e=>cond (bc c e) (Z a) (f d c b (iw .i64 (av a 1)))) (Z (-1))
def tl(m:Nat):=aY (yY m)
def JW:Nat->((aa Y8)->Y8->Z8):=aW λ m _=>B9 m (tl m m)
def JU(m:Nat)(c:aa Y8)(b:Y8):Z17:=
 ab (JW m c b) λ a=>Z (ile 0 a)
def Ca:=aX JU
def Cy(m:Nat)(c:Z62)(b:Int×(TL×(TL×(aa (T×(aa (Int×(T×(T×(Int×TL))))))))))(a:Int×(aa Y8)):Z17:=
 cond (am (ieq a.1 b.1)) (Z Y) (cond (am (ieq (J a.2) (J b.2.1))) (Z Y) (c a.2 (J a.2) 0 a.1 a.2))
def Cu(m:Nat)(i:Z62)(d:aa (Y8))(c a f:Int)(b:aa (Y8)):Z17:=
 cond (ilt a c) (ab (ap d a) λ e=>ab (Eg m e) λ h=>cond (am h) (Z Y) (cond (inb a (J b)) (cond (inb 0 (Int.toNat a))
 (ab (Ca m (gA b 0 a) e) λ g=>cond g (Z Y) (i d c (iw .i64 (av a 1)) f b)) U) U)) (Z O)
def tv(m:Nat):=aY (Cu m)
def zg:Nat->Z63:=aW λ m _=>Cy m (tv m m)
def qec(m:Nat)(a:Int):Z64:=
 cond (ilt a 10) (cond (inb (iw .i64 (av a 1))
 (J [48,49,50,51,52,53,54,55,56,57,97,98,99,100,101,102,103,104,105,106,107,108,109,110,111,112,113,114,115,116,117,118,119,120,121,122]))
 (cond (inb a (Int.toNat (iw .i64 (av a 1))))
 (Z (gA [48,49,50,51,52,53,54,55,56,57,97,98,99,100,101,102,103,104,105,106,107,108,109,110,111,112,113,114,115,116,117,118,119,120,121,122] a (iw .i64 (av a 1)))) U) U)
 (cond (inb (iw .i64 (av (iw .i64 (qI a 2)) 2))
 (J [48,48,48,49,48,50,48,51,48,52,48,53,48,54,48,55,48,56,48,57,49,48,49,49,49,50,49,51,49,52,49,53,49,54,49,55,49,56,49,57,50,48,50,49,50,50,50,51,50,52,50,53,50,54,50,55,50,56,50,57,51,48,51,49,51,50,51,51,51,52,51,53,51,54,51,55,51,56,51,57,52,48,52,49,52,50,52,51,52,52,52,53,52,54,52,55,52,56,52,57,53,48,53,49,53,50,53,51,53,52,53,53,53,54,53,55,53,56,53,57,54,48,54,49,54,50,54,51,54,52,54,53,54,54,54,55,54,56,54,57,55,48,55,49,55,50,55,51,55,52,55,53,55,54,55,55,55,56,55,57,56,48,56,49,56,50,56,51,56,52,56,53,56,54,56,55,56,56,56,57,57,48,57,49,57,50,57,51,57,52,57,53,57,54,57,55,57,56,57,57]))
 (cond (inb (iw .i64 (qI a 2)) (Int.toNat (iw .i64 (av (iw .i64 (qI a 2)) 2))))
 (Z (gA [48,48,48,49,48,50,48,51,48,52,48,53,48,54,48,55,48,56,48,57,49,48,49,49,49,50,49,51,49,52,49,53,49,54,49,55,49,56,49,57,50,48,50,49,50,50,50,51,50,52,50,53,50,54,50,55,50,56,50,57,51,48,51,49,51,50,51,51,51,52,51,53,51,54,51,55,51,56,51,57,52,48,52,49,52,50,52,51,52,52,52,53,52,54,52,55,52,56,52,57,53,48,53,49,53,50,53,51,53,52,53,53,53,54,53,55,53,56,53,57,54,48,54,49,54,50,54,51,54,52,54,53,54,54,54,55,54,56,54,57,55,48,55,49,55,50,55,51,55,52,55,53,55,54,55,55,55,56,55,57,56,48,56,49,56,50,56,51,56,52,56,53,56,54,56,55,56,56,56,57,57,48,57,49,57,50,57,51,57,52,57,53,57,54,57,55,57,56,57,57] (iw .i64 (qI a 2))
 (iw .i64 (av (iw .i64 (qI a 2)) 2)))) U) U)
def Rx:=aX qec
def qd6(m:Nat)(a d:Int):Z64:=
 cond (ieq d 10) (let b:Z64:=(cond (ilt a 0) U U);cond (ile 0 a) (cond (ilt a 100) (ab (Rx m a) λ c=>Z c) b) b) U
def Ro:=aX qd6
def qei(m:Nat)(b:Int):Z64:=
 ab (Ro m b 10) λ a=>Z a
def RC:=aX qei
def qh6(m:Nat)(b:Int):Z64:=
 ab (RC m b) λ a=>Z a
def Fs:=aX qh6
def J1(m:Nat)(b:T)(c:Y8)(a:aa (T×T)):Z66:=
 cond (br (J a+1) 112) (Z ((a++[(re b,T.mk 2 c b.sort [])],()),(()))) U
def wH:=aX J1
def B3(m:Nat)(b:Z70)(c:Z71)(a:aa (aa (T×T))):Z68:=
 b a 0 a (J a) 0
def yW(m:Nat)(i:Z70)(h:Z71)(c:aa (aa (T×T)))(b:Int)(e:aa (aa (T×T)))(d a:Int):Z68:=
 cond (ilt a d) (ab (ap e a) λ f=>cond (ilt (iw .i64 (av b (J f))) 0) U (i c (iw .i64 (av b (J f))) e d (iw .i64 (av a 1))))
 (ab (wB 0 b) λ g=>h c (J c) 0 g.2.1)
def yX(m:Nat)(g:Z70)(f:Z71)(d:aa (aa (T×T)))(c b:Int)(a:aa (T×T)):Z68:=
 cond (ilt b c) (ab (ap d b) λ e=>cond (br (J a+J e) 112) (f d c (iw .i64 (av b 1)) (a++e)) U) (Z ((()),(a,())))
def kT(m:Nat):=aY λ a=>(yW m a.1 a.2,yX m a.1 a.2)
def B5:Nat->(Z69->Z68):=aW λ m _=>B3 m (kT m m).1 (kT m m).2
def JX(m:Nat)(c b:T×T):Z8:=
 ab (cZ m (re c.1) (re b.1)) λ a=>Z a
def lI:=aX JX
def wy:Nat->aa (T×T)->ac (aa (T×T)):=aW λ m _=>pd (lI m)
def J2(m:Nat)(d c:aa (T×T)):Z72:=
 ab (B5 m [d,c]) λ b=>ab (wy m b.2.1) λ a=>cond (Nat.beq (J a) (J b.2.1)) (Z a) U
def zc:=aX J2
def C3(m:Nat)(f:Z74)(g:Z75)(a:Int×(TL×(TL×(aa (T×(aa (Int×(T×(T×(Int×TL))))))))))(b:Int×(aa Y8))(e:Int):Z73:=
 ab (tn 0 b.2) λ d=>ab (wF 0 d.2.1 a.1 (iw .i64 (av a.1 1))) λ c=>f e a.2.1 (J a.2.1) 0 a.1 a.2.1 a.2.2.1 a.2.2.2 b.1 b.2 [] c.2.1
def Di(m:Nat)(o:Z74)(t:Z75)(i:Int)(h:TL)(g c f:Int)(l d:TL)(k:aa (T×(aa (Int×(T×(T×(Int×TL)))))))(j:Int)(e:aa (Y8))(b:aa (T×T))(a:aa (Y8)):Z73:=
 cond (ilt c g) (ab (ap h c) λ n=>cond (ieq c 0) (ab (ap e f) λ s=>ab (wH m (re n) s b) λ r=>o i h g (iw .i64 (av c 1)) f l d k j e r.1.1 a)
 (ab (ap a (iw .i64 (cX c 1))) λ q=>ab (wH m (re n) q b) λ p=>o i h g (iw .i64 (av c 1)) f l d k j e p.1.1 a)) (t i d (J d) 0 b)
def C1(m:Nat)(k:Z74)(j:Z75)(g:Int)(f:TL)(e b:Int)(d:aa (T×T)):Z73:=
 cond (ilt b e) (ab (ap f b) λ a=>cond (ln a.name [35]) (ab (Fs m g) λ c=>cond (ln (a.name++[35]) c) (cond (ilt 24 (J ((a.name++[35])++c))) (Z ([],3))
 (ab (wH m (re a) ((a.name++[35])++c) d) λ i=>j g f e (iw .i64 (av b 1)) i.1.1)) U) U) (ab (zc m d []) λ h=>Z (h,0))
def jV(m:Nat):=aY λ a=>(Di m a.1 a.2,C1 m a.1 a.2)
def uc:Nat->Z76:=aW λ m _=>C3 m (jV m m).1 (jV m m).2
def J0(m:Nat)(c:T×T)(b:T):Z8:=
 ab (cZ m (re c.1) (re b)) λ a=>Z a
def zb:=aX J0
def BR(m:Nat)(c:Z78)(b:aa (T×T))(a:T):Z77:=
 c b (J b) 0 (J b) a.kind a.name a.sort a.kids
def wx(m:Nat)(k:Z78)(g:aa (T×T))(h a b f:Int)(e:Y8)(d:Int)(c:TL):Z77:=
 cond (ilt a b) (ab (ap g (iw .i64 (nz .u64 (iw .u64 (iw .i64 (av a b))) 1))) λ j=>ab (zb m (re j.1,re j.2) (T.mk f e d c)) λ n=>cond (ilt n 0)
 (k g h (iw .i64 (av (iw .i64 (nz .u64 (iw .u64 (iw .i64 (av a b))) 1)) 1)) b f e d c) (k g h a (iw .i64 (nz .u64 (iw .u64 (iw .i64 (av a b))) 1)) f e d c)) (cond (ilt a h)
 (ab (ap g a) λ i=>ab (zb m (re i.1,re i.2) (T.mk f e d c)) λ l=>Z (a,ieq l 0)) (Z (a,Y)))
def tf(m:Nat):=aY (wx m)
def BS:Nat->(Z67->T->Z77):=aW λ m _=>BR m (tf m m)
def J5(m:Nat)(c:aa (T×T))(b:T):Z79:=
 ab (BS m c (re b)) λ a=>cond (am a.2) (Z (re b,Y)) (ab (ap c a.1) λ d=>Z (re d.2,O))
def wI:=aX J5
def Vn(m:Nat)(c:Z81)(a:T)(b:aa Int):Z80:=
 c b (J b) 0 a.kind a.name a.sort a.kids 0 [] 0 []
def qnP(m:Nat)(p:Z81)(g:aa (Int))(f c n:Int)(l:Y8)(k:Int)(b:TL)(j:Int)(i:Y8)(h:Int)(d:TL):Z80:=
 cond (ilt c f) (ab (ap g c) λ e=>cond (ilt e 0) (Z (T.mk 0 [] 0 [],7)) (cond (ile (J b) e) (Z (T.mk 0 [] 0 [],7)) (ab (ap b e) λ a=>
 p g f (iw .i64 (av c 1)) a.kind a.name a.sort a.kids j i h d))) (ab (jA m (T.mk n l k b)) λ o=>Z (re o,0))
def V0(m:Nat):=aY (qnP m)
def H9:Nat->(T->(aa Int)->Z80):=aW λ m _=>Vn m (V0 m m)
def Rp(m:Nat)(b:Z82)(a:aa (T×T)):Z72:=
 b a (J a) 0 []
def qeh(m:Nat)(h:Z82)(d:aa (T×T))(c b:Int)(a:aa (T×T)):Z72:=
 cond (ilt b c) (ab (ap d b) λ e=>ab (H9 m (re e.1) []) λ g=>ab (H9 m (re e.2) []) λ f=>cond (br (J a+1) 112) (h d c (iw .i64 (av b 1))
 (a++[(re g.1,re f.1)])) U) (Z a)
def Rq(m:Nat):=aY (qeh m)
def J6:Nat->(Z67->Z72):=aW λ m _=>Rp m (Rq m m)
def qf9(m:Nat)(a:(Int×(aa Y8))×(Int×(Int×(Int×(Int×(aa (T×T))))))):Z83:=
 ab (tn 0 a.1.2) λ c=>ab (J6 m a.2.2.2.2.2) λ b=>Z ((a.1.1,c.2.1),(a.2.1,(a.2.2.1,(a.2.2.2.1,(a.2.2.2.2.1,b)))))
def Ed:=aX qf9
def RB(m:Nat)(a:Z85)(f:Z86)(c:aa (T×T))(b:T):Z14:=
 cond (ieq b.kind 1) (ab (wI m c (re b)) λ e=>ab (H9 m (re e.1) []) λ d=>Z (re d.1)) (f c b.kids (J b.kids) 0 0 [] 0 b.kind b.name b.sort [] [])
def qeN(m:Nat)(a:Z85)(q:Z86)(j:aa (T×T))(i:TL)(h c n:Int)(l:Y8)(k g:Int)(f:Y8)(e:Int)(d b:TL):Z14:=
 cond (ilt c h) (ab (ap i c) λ p=>ab (a j (re p)) λ o=>cond (br (J b+1) 56) (q j i h (iw .i64 (av c 1)) n l k g f e d (b++[re o])) U)
 (Z (T.mk g f e b))
def RG(m:Nat)(a:Z85):=aY (qeN m a)
def tu:Nat->Z85:=aW λ m a=>RB m a (RG m a m)
def qjA(m:Nat)(d c:T):Z8:=
 ab (fI m (re d)) λ a=>cond (am (ieq a 0)) (Z a) (ab (fI m (re c)) λ b=>Z b)
def Uk:=aX qjA
def K9(m:Nat)(a b:T):Z17:=
 ab (fI m (re a)) λ d=>cond (am (ieq d 0)) (Z Y) (ab (fI m (re b)) λ c=>cond (am (ieq c 0)) (Z Y) (cond (am (ieq a.kind 1)) (Z Y) (cond (ieq a.sort 0)
 (Z O) (cond (am (ieq b.kind 3)) (Z (ieq b.sort a.sort)) (Z Y)))))
def zM:=aX K9
def qlC(m:Nat)(a:T):(ac (Y8×Int)):=
 Z (a.name,a.sort)
def GN:=aX qlC
def qkL(m:Nat)(c b:T):Z17:=
 ab (cZ m (re c) (re b)) λ a=>Z (ieq a 0)
def Gj:=aX qkL
def qjq(m:Nat)(a:T):Z17:=
 Z (ieq a.kind 1)
def Um:=aX qjq
def qiY(m:Nat)(b a:T):Z17:=
 cond (ieq b.kind 3) (cond (ieq a.kind 3) (cond (bc b.name a.name) (Z (ieq (J b.kids) (J a.kids))) (Z Y)) (Z Y)) (Z Y)
def Un:=aX qiY
def S1(m:Nat)(a:Z89)(l:Z90)(b c:T)(d:aa ((Y8×Int)×T)):Z88:=
 ab (Um m (re b)) λ k=>cond k (ab (GN m (re b)) λ e=>cond (Bs (veq (.pair .str (.int .i64))) d e) (ab (Gj m (re (sx (veq (.pair .str (.int .i64)))
 (T.mk 0 [] 0 []) d e)) (re c)) λ j=>Z ((d,()),(j,()))) (ab (GN m (re b)) λ i=>ab (zM m (re b) (re c)) λ h=>
 Z ((mA (veq (.pair .str (.int .i64))) d i (re c),()),(h,())))) (ab (Un m (re b) (re c)) λ g=>cond (am g) (ab (Gj m (re b) (re c)) λ f=>
 Z ((d,()),(f,()))) (l (J b.kids) 0 d b.kind b.name b.sort b.kids c.kind c.name c.sort c.kids))
def qi1(m:Nat)(a:Z89)(q:Z90)(g c:Int)(f:aa ((Y8×Int)×T))(n:Int)(l:Y8)(k:Int)(e:TL)(j:Int)(i:Y8)(h:Int)(b:TL):Z88:=
 cond (ilt c g) (ab (ap e c) λ p=>ab (ap b c) λ o=>ab (a (re p) (re o) f) λ d=>cond (am d.2.1) (Z ((d.1.1,()),(Y,())))
 (q g (iw .i64 (av c 1)) d.1.1 n l k e j i h b)) (Z ((f,()),(O,())))
def TA(m:Nat)(a:Z89):=aY (qi1 m a)
def FV:Nat->Z89:=aW λ m a=>S1 m a (TA m a m)
def Ta(m:Nat)(f:Z91)(a e:T):Z73:=
 ab (Uk m (re a) (re e)) λ d=>cond (am (ieq d 0)) (Z ([],d)) (ab (FV m (re a) (re e) []) λ c=>cond (am c.2.1) (Z ([],11)) (ab (pR m (re a)) λ b=>
 f b (J b) 0 c.1.1 []))
def qjy(m:Nat)(h:Z91)(e:TL)(d c:Int)(b:aa ((Y8×Int)×T))(a:aa (T×T)):Z73:=
 cond (ilt c d) (ab (ap e c) λ f=>ab (GN m (re f)) λ g=>ab (Gj m (re (sx (veq (.pair .str (.int .i64))) (T.mk 0 [] 0 []) b g)) (re f)) λ i=>cond (am i)
 (cond (br (J a+1) 112) (h e d (iw .i64 (av c 1)) b (a++[(re f,re (sx (veq (.pair .str (.int .i64))) (T.mk 0 [] 0 []) b g))])) U) (h e d (iw .i64 (av c 1)) b a))
 (Z (a,0))
def Tv(m:Nat):=aY (qjy m)
def Uj:Nat->(T->T->Z73):=aW λ m _=>Ta m (Tv m m)
def qet(m:Nat)(b:aa (T×T))(f e:T):Z92:=
 ab (tu m b (re f)) λ d=>ab (Uj m (re d) (re e)) λ a=>cond (am (ieq a.2 0)) (Z ([],Y)) (ab (zc m b a.1) λ c=>Z (c,O))
def J9:=aX qet
def TI(m:Nat)(e:Z94)(g:Z95)(b:Int×(TL×(TL×(aa (T×(aa (Int×(T×(T×(Int×TL))))))))))(a:(Int×(aa Y8))×(Int×(Int×(Int×(Int×(aa (T×T)))))))(f:T):Z93:=
 ab (ap b.2.2.2 a.2.2.1) λ c=>cond (ilt 0 a.2.2.1) (ab (J9 m a.2.2.2.2.2 (re c.1) (re f)) λ d=>cond (am d.2)
 (Z (a,[],Y))
 (e d.1 c.2 (J c.2) 0 b.1 b.2.1 b.2.2.1 b.2.2.2 a.1.1 a.1.2 a.2.1 a.2.2.1 a.2.2.2.1 a.2.2.2.2.1 a.2.2.2.2.2 0 0 0 0 0 [] [] []))
 (e a.2.2.2.2.2 c.2 (J c.2) 0 b.1 b.2.1 b.2.2.1 b.2.2.2 a.1.1 a.1.2 a.2.1 a.2.2.1 a.2.2.2.1 a.2.2.2.2.1 a.2.2.2.2.2 0 0 0 0 0 [] [] [])
def qj4(m:Nat)(C:Z94)(F:Z95)(q:aa (T×T))(w:aa (Int×(T×(T×(Int×TL)))))(v t z:Int)(y x:TL)(u:aa (T×(aa (Int×(T×(T×(Int×TL)))))))(s:Int)(r:aa (Y8))(f e d c:Int)(b:aa (T×T))(p o n l k:Int)(j:aa (Y8))(i:aa (T×T))(a:aa (Int×(Int×TL))):Z93:=
 cond (ilt t v) (ab (ap w t) λ h=>cond (ieq h.1 1) (ab (wI m q (re h.2.1)) λ E=>ab (J9 m q (re h.2.2.1) (re E.1)) λ B=>cond (am B.2)
 (Z (((s,r),(f,(e,(d,(c,b))))),[],Y)) (C B.1 w v (iw .i64 (av t 1)) z y x u s r f e d c b p o n l k j i a)) (cond (ieq h.1 2)
 (ab (tu m q (re h.2.1)) λ D=>cond (br (J a+1) 40)
 (C q w v (iw .i64 (av t 1)) z y x u s r f e d c b p o n l k j i (a++[(2,(0,[re D]))])) U)
 (F q w v t h.2.2.2.2 (J h.2.2.2.2) 0 z y x u s r f e d c b p o n l k h.1 h.2.2.2.1 j i a []))) (ab (Ed m ((s,r),(f,(e,(d,(c,b)))))) λ g=>
 ab (J6 m q) λ A=>cond (ieq (iw .i64 (av g.2.2.1 1)) (J u)) (Z ((g.1,(g.2.1,(iw .i64 (av g.2.2.1 1),(2,(g.2.2.2.2.1,A))))),a,O))
 (Z ((g.1,(g.2.1,(iw .i64 (av g.2.2.1 1),(1,(g.2.2.2.2.1,A))))),a,O)))
def qkX(m:Nat)(H:Z94)(G:Z95)(v:aa (T×T))(D:aa (Int×(T×(T×(Int×TL)))))(C B:Int)(A:TL)(z u y:Int)(x w:TL)(t:aa (T×(aa (Int×(T×(T×(Int×TL)))))))(s:Int)(r:aa (Y8))(q p o n:Int)(l:aa (T×T))(k j i h g f e:Int)(d:aa (Y8))(c:aa (T×T))(b:aa (Int×(Int×TL)))(a:TL):Z93:=
 cond (ilt u z) (ab (ap A u) λ F=>ab (tu m v (re F)) λ E=>cond (br (J a+1) 56)
 (G v D C B A z (iw .i64 (av u 1)) y x w t s r q p o n l k j i h g f e d c b (a++[re E])) U) (cond (br (J b+1) 40)
 (H v D C (iw .i64 (av B 1)) y x w t s r q p o n l k j i h g d c (b++[(f,(e,a))])) U)
def EW(m:Nat):=aY λ a=>(qj4 m a.1 a.2,qkX m a.1 a.2)
def LV:Nat->(Z53->Z84->T->Z93):=aW λ m _=>TI m (EW m m).1 (EW m m).2
def qg2(m:Nat)(b:Int×(TL×(TL×(aa (T×(aa (Int×(T×(T×(Int×TL))))))))))(e:Int×(aa Y8))(a:Int):Z96:=
 ab (zq m b) λ f=>cond (am (ieq f 0)) (Z (((0,[]),(0,(0,(0,(0,[]))))),[],f)) (ab (zg m b
 e) λ g=>cond (am g) (Z (((0,[]),(0,(0,(0,(0,[]))))),[],1)) (cond (ilt a 0) (Z (((0,[]),(0,(0,(0,(0,[]))))),[],7)) (cond (ilt 99 a)
 (Z (((0,[]),(0,(0,(0,(0,[]))))),[],7)) (ab (uc m b e a) λ d=>cond (am (ieq d.2 0)) (Z (((0,[]),(0,(0,(0,(0,[]))))),[],d.2))
 (ab (LV m b (e,(a,(0,(0,(0,d.1))))) (T.mk 0 [] 0 [])) λ c=>cond (am c.2.2) (Z (((0,[]),(0,(0,(0,(0,[]))))),[],11))
 (Z (c.1,c.2.1,0)))))))
def Tu:=aX qg2
def KO(m:Nat)(c b:T):Z17:=
 ab (cZ m (re c) (re b)) λ a=>Z (ieq a 0)
def pJ:=aX KO
def Ls(m:Nat)(a:T)(b:Y8):Z17:=
 cond (ieq a.kind 3) (Z (bc a.name b)) (Z Y)
def jl:=aX Ls
def Kl(m:Nat)(b:T):Z14:=
 ab (ap b.kids 0) λ a=>let j1:Z14:=(Z (re b));let j2:Z14:=(ab (ap a.kids 0) λ I=>Z (re I));let j3:Z14:=(cond (bc b.name [114,101,97,100])
 (ab (jl m (re a) [115,105,103,110]) λ p=>cond p j2 j1) j1);let j4:Z14:=(ab (jl m (re a) [112,97,105,114]) λ G=>cond G (ab (ap a.kids 1) λ F=>Z (re F)) j1);
 let B:Z14:=(ab (jl m (re a) [112,97,105,114]) λ K=>cond K j2 j1);cond (ilt 1 (J b.kids)) (ab (ap b.kids 1) λ c=>
 cond (bc b.name [102,115,116]) B (cond (bc b.name [115,110,100]) j4 (cond (bc b.name [100,101,99]) (ab (jl m (re a) [101,110,99]) λ E=>cond E (ab (ap a.kids 1) λ D=>
 ab (pJ m (re D) (re c)) λ C=>cond C j2 j1) j1) (cond (bc b.name [97,100,101,99]) (ab (jl m (re a) [97,101,110,99]) λ A=>cond A (ab (ap a.kids 1) λ z=>
 ab (jl m (re z) [112,107]) λ y=>cond y (ab (ap a.kids 1) λ x=>ab (ap x.kids 0) λ w=>ab (pJ m (re w) (re c)) λ v=>cond v j2 j1) j1) j1)
 (cond (bc b.name [111,112,101,110]) (ab (jl m (re a) [115,105,103,110]) λ u=>cond u (ab (jl m (re c) [112,107]) λ t=>cond t (ab (ap a.kids 1) λ s=>
 ab (ap c.kids 0) λ r=>ab (pJ m (re s) (re r)) λ q=>cond q j2 j1) j1) j1) j3)))))
 (cond (bc b.name [102,115,116]) B (cond (bc b.name [115,110,100]) j4 (cond (bc b.name [100,101,99]) (ab (jl m (re a) [101,110,99]) λ o=>cond o (ab (ap a.kids 1) λ n=>
 ab (pJ m (re n) (T.mk 0 [] 0 [])) λ l=>cond l j2 j1) j1) (cond (bc b.name [97,100,101,99]) (ab (jl m (re a) [97,101,110,99]) λ k=>
 cond k (ab (ap a.kids 1) λ j=>ab (jl m (re j) [112,107]) λ i=>cond i (ab (ap a.kids 1) λ h=>ab (ap h.kids 0) λ g=>ab (pJ m (re g)
 (T.mk 0 [] 0 [])) λ f=>cond f j2 j1) j1) j1) (cond (bc b.name [111,112,101,110]) (ab (jl m (re a) [115,105,103,110]) λ e=>
 cond e (ab (jl m (T.mk 0 [] 0 []) [112,107]) λ d=>cond d (ab (ap a.kids 1) λ H=>U) j1) j1) j3)))))
def zl:=aX Kl
def Fm(m:Nat)(d:Z97)(b c:TL):Z8:=
 cond (ilt 200 (J b)) (Z 3) (ab (qO m [b,c]) λ a=>d (J a.2.1) 0 a.2.1)
def E6(m:Nat)(f:Z97)(c a:Int)(b:TL):Z8:=
 cond (ilt a c) (ab (ap b a) λ e=>ab (fI m (re e)) λ d=>cond (am (ieq d 0)) (Z d) (f c (iw .i64 (av a 1)) b)) (Z 0)
def ux(m:Nat):=aY (E6 m)
def Gu:Nat->(TL->TL->Z8):=aW λ m _=>Fm m (ux m m)
def FL(m:Nat)(c:Z98)(b a:TL):Z20:=
 c b a []
def FM(m:Nat)(d:Z98)(a b c:TL):Z20:=
 let f:Z20:=(cond (br (J c+J a) 56) (cond (br (J (c++a)+J b) 56) (Z ((c++a)++b)) U) U);cond (ilt 0 (J a)) (cond (ilt 0 (J b))
 (ab (ap a 0) λ j=>ab (ap b 0) λ i=>ab (cZ m (re j) (re i)) λ e=>cond (ilt e 0) (ab (ap a 0) λ h=>cond (br (J c+1) 56) (cond (inb (J a) (J a))
 (cond (inb 1 (Int.toNat (J a))) (d (gA a 1 (J a)) b (c++[re h])) U) U) U) (cond (ilt 0 e) (ab (ap b 0) λ g=>cond (br (J c+1) 56) (cond (inb (J b) (J b))
 (cond (inb 1 (Int.toNat (J b))) (d a (gA b 1 (J b)) (c++[re g])) U) U) U) (cond (inb (J a) (J a)) (cond (inb 1 (Int.toNat (J a))) (cond (inb (J b) (J b))
 (cond (inb 1 (Int.toNat (J b))) (d (gA a 1 (J a)) (gA b 1 (J b)) c) U) U) U) U))) f) f
def uK(m:Nat):=aY (FM m)
def Aw:Nat->(TL->TL->Z20):=aW λ m _=>FL m (uK m m)
def DJ(m:Nat)(a:Z21)(d:Z99)(b:T):Z20:=
 let c:Z20:=(cond (ieq b.kind 3) (cond (bc b.name [120,111,114]) (d [] b.kids (J b.kids) 0) (Z [re b])) (Z [re b]));cond (ieq b.kind 3) (cond (bc b.name [122,101,114,111])
 (cond (ieq (J b.kids) 0) (Z []) c) c) c
def Du(m:Nat)(a:Z21)(i:Z99)(e d:TL)(c b:Int):Z20:=
 cond (ilt b c) (ab (ap d b) λ h=>ab (a (re h)) λ g=>ab (Aw m e g) λ f=>i f d c (iw .i64 (av b 1))) (Z e)
def qW(m:Nat)(a:Z21):=aY (Du m a)
def kZ:Nat->Z21:=aW λ m a=>DJ m a (qW m a m)
def DM(m:Nat)(e:qa2)(d:T)(c:aa Int)(b:T):Z80:=
 ab (jA m (re d)) λ a=>e c (J c) 0 b.kind b.name b.sort b.kids 0 [] 0 a.kind a.name a.sort a.kids []
def KD(m:Nat)(t:qa2)(n:aa (Int))(l c g:Int)(f:Y8)(e:Int)(d:TL)(r:Int)(q:Y8)(p k:Int)(j:Y8)(i:Int)(a h:TL):Z80:=
 cond (ilt c l) (ab (ap n c) λ b=>cond (ilt b 0) (Z (T.mk 0 [] 0 [],7)) (cond (ile (J a) b) (Z (T.mk 0 [] 0 [],7)) (ab (ap a b) λ s=>U)))
 (ab (jA m (T.mk g f e d)) λ o=>Z (re o,0))
def wM(m:Nat):=aY (KD m)
def EZ:Nat->(T->(aa Int)->T->Z80):=aW λ m _=>DM m (wM m m)
def F9(m:Nat)(a:Bi)(c:qcb)(b:TL):Z20:=
 cond (OB (J b) 56) (c b (J b) 0 (List.replicate (Int.toNat (J b)) (T.mk 0 [] 0 []):TL)) U
def F6(m:Nat)(b:Bi)(k:qcb)(h:TL)(g a:Int)(d:TL):Z20:=
 cond (ilt a g) (ab (ap h a) λ f=>ab (EZ m (re f) [] (re f)) λ e=>ab (ap d a) λ l=>ab (b f.kids) λ j=>ab (ap (dK d a (re e.1)) a) λ c=>
 cond (ieq (J f.kids) 0) (ab (ap (dK (dK d a (re e.1)) a (T.mk c.kind c.name c.sort j)) a) λ i=>k h g (iw .i64 (av a 1))
 (dK (dK (dK d a (re e.1)) a (T.mk c.kind c.name c.sort j)) a (T.mk i.kind i.name i.sort []))) (k h g (iw .i64 (av a 1)) (dK (dK d a (re e.1)) a (T.mk c.kind c.name c.sort j))))
 (Z d)
def uQ(m:Nat)(a:Bi):=aY (F6 m a)
def lh:Nat->Bi:=aW λ m a=>F9 m a (uQ m a m)
def FZ(m:Nat)(c:qcg)(a:TL):Z80:=
 ab (Gu m a []) λ b=>cond (am (ieq b 0)) (Z (T.mk 0 [] 0 [],b)) (c [] a (J a) 0 0 [] 0 [])
def Gd(m:Nat)(r:qcg)(e d:TL)(c b j:Int)(i:Y8)(h:Int)(g:TL):Z80:=
 cond (ilt b c) (ab (ap d b) λ q=>ab (kZ m (re q)) λ p=>ab (Aw m e p) λ o=>r o d c (iw .i64 (av b 1)) j i h g) (ab (lh m e) λ a=>
 cond (ieq (J a) 0) (ab (fI m (T.mk 3 [122,101,114,111] 0 [])) λ n=>cond (am (ieq n 0)) (Z (T.mk 0 [] 0 [],3)) (Z (T.mk 3 [122,101,114,111] 0 [],0))) (cond (ieq (J a) 1)
 (ab (ap a 0) λ f=>ab (fI m (re f)) λ l=>cond (am (ieq l 0)) (Z (T.mk 0 [] 0 [],3)) (Z (re f,0))) (ab (fI m (T.mk 3 [120,111,114] 0 a)) λ k=>
 cond (am (ieq k 0)) (Z (T.mk 0 [] 0 [],3)) (Z (T.mk 3 [120,111,114] 0 a,0)))))
def uS(m:Nat):=aY (Gd m)
def Ib:Nat->(TL->Z80):=aW λ m _=>FZ m (uS m m)
def Kb(m:Nat)(a:T):Z17:=
 cond (ieq a.kind 3) (cond (bc a.name [109,117,108]) (Z O) (cond (bc a.name [105,110,118]) (Z O) (Z (bc a.name [111,110,101])))) (Z Y)
def zk:=aX Kb
def CJ(m:Nat)(a:Z15)(d:qbF)(b:T):Z14:=
 ab (wE 0 b.kids) λ c=>d (J c.2.1) 0 b.kind b.name b.sort 0 [] 0 c.2.1 []
def CN(m:Nat)(a:Z15)(o:qbF)(g b f:Int)(e:Y8)(d k:Int)(j:Y8)(i:Int)(c h:TL):Z14:=
 cond (ilt b g) (ab (ap c b) λ n=>ab (a (re n)) λ l=>ab (ap c b) λ p=>o g (iw .i64 (av b 1)) f e d k j i (dK c b (re l)) h) (Z (T.mk f e d c))
def tx(m:Nat)(a:Z15):=aY (CN m a)
def jy:Nat->Z15:=aW λ m a=>CJ m a (tx m a m)
def Ka(m:Nat)(c:T×Int)(b:T):Z8:=
 ab (cZ m (re c.1) (re b)) λ a=>Z a
def zf:=aX Ka
def BU(m:Nat)(c:qcC)(b:aa (T×Int))(a:T):Z77:=
 c b (J b) 0 (J b) a.kind a.name a.sort a.kids
def BT(m:Nat)(k:qcC)(g:aa (T×Int))(h a b f:Int)(e:Y8)(d:Int)(c:TL):Z77:=
 cond (ilt a b) (ab (ap g (iw .i64 (nz .u64 (iw .u64 (iw .i64 (av a b))) 1))) λ j=>ab (zf m (re j.1,j.2) (T.mk f e d c)) λ n=>cond (ilt n 0)
 (k g h (iw .i64 (av (iw .i64 (nz .u64 (iw .u64 (iw .i64 (av a b))) 1)) 1)) b f e d c) (k g h a (iw .i64 (nz .u64 (iw .u64 (iw .i64 (av a b))) 1)) f e d c)) (cond (ilt a h)
 (ab (ap g a) λ i=>ab (zf m (re i.1,i.2) (T.mk f e d c)) λ l=>Z (a,ieq l 0)) (Z (a,Y)))
def tg(m:Nat):=aY (BT m)
def BW:Nat->(eF->T->Z77):=aW λ m _=>BU m (tg m m)
def Kg(m:Nat)(b:aa (T×Int))(c:T×Int):mC:=
 ab (BW m b (re c.1)) λ a=>cond (am a.2) (ab (jy m (re c.1)) λ i=>
 ab (wD 0 b a.1 [(re i,c.2)]) λ h=>Z ((()),(h.2.1,()))) (ab (ap b a.1) λ e=>ab (ap b a.1) λ d=>
 ab (ap (dK b a.1 (re d.1,iw .i64 (av e.2 c.2))) a.1) λ g=>cond (ieq g.2 0)
 (ab (wC 0 (dK b a.1 (re d.1,iw .i64 (av e.2 c.2))) a.1 (iw .i64 (av a.1 1))) λ f=>Z ((()),(f.2.1,())))
 (Z ((()),(dK b a.1 (re d.1,iw .i64 (av e.2 c.2)),()))))
def zi:=aX Kg
def Cr(m:Nat)(a:Jg)(h:qcB)(e:aa (T×Int))(b:T)(d:Int):sw:=
 ab (zk m (re b)) λ j=>cond (am j) (ab (zi m e (re b,d)) λ i=>Z ((()),(i.2.1,O,()))) (let c:sw:=(Z ((()),([],Y,())));let j2:sw:=
 (let g:sw:=(let f:sw:=(cond (bc b.name [105,110,118]) (h (iw .i64 (cX 0 d)) b.kids (J b.kids) 0 e) (h d b.kids (J b.kids) 0 e));cond (bc b.name [109,117,108])
 (cond (ilt (J b.kids) 2) c f) f);cond (bc b.name [105,110,118]) (cond (am (ieq (J b.kids) 1)) c g) g);cond (bc b.name [111,110,101]) (cond (am (ieq (J b.kids) 0)) c j2) j2)
def Cq(m:Nat)(a:Jg)(i:qcB)(f:Int)(e:TL)(d b:Int)(c:aa (T×Int)):sw:=
 cond (ilt b d) (ab (ap e b) λ h=>ab (a c (re h) f) λ g=>cond (am g.2.2.1) (Z ((()),([],Y,()))) (i f e d (iw .i64 (av b 1)) g.2.1))
 (Z ((()),(c,O,())))
def qS(m:Nat)(a:Jg):=aY (Cq m a)
def kW:Nat->Jg:=aW λ m a=>Cr m a (qS m a m)
def KY(m:Nat)(c:T):pq:=
 ab (fI m (re c)) λ b=>cond (am (ieq b 0)) (Z ([],b)) (ab (kW m [] (re c) 1) λ a=>cond (am a.2.2.1) (Z ([],6)) (cond (ilt 200 (J a.2.1)) (Z ([],3))
 (Z (a.2.1,0))))
def ut:=aX KY
def CG(m:Nat)(b:qa6)(a:aa (T×Int)):Z8:=
 cond (ilt 200 (J a)) (Z 3) (b a a (J a) 0)
def CO(m:Nat)(g:qa6)(e d:aa (T×Int))(c a:Int):Z8:=
 cond (ilt a c) (ab (ap d a) λ b=>ab (fI m (re b.1)) λ f=>cond (am (ieq f 0)) (Z f) (ab (zk m (re b.1)) λ j=>cond j (Z 1) (cond (ieq b.2 0) (Z 7)
 (cond (ilt b.2 (-1000)) (Z 7) (cond (ilt 1000 b.2) (Z 7) (cond (ilt 0 a) (ab (ap e (iw .i64 (cX a 1))) λ i=>ab (cZ m (re i.1) (re b.1)) λ h=>cond (ile 0 h) (Z 5)
 (g e d c (iw .i64 (av a 1)))) (g e d c (iw .i64 (av a 1))))))))) (Z 0)
def qT(m:Nat):=aY (CO m)
def wN:Nat->I9:=aW λ m _=>CG m (qT m m)
def qhA(m:Nat)(b:Y8)(a:TL):Z14:=
 Z (T.mk 3 b 0 a)
def zx:=aX qhA
def Dh(m:Nat)(c:IY)(e d:Jh)(a:aa (T×Int)):Z80:=
 ab (wN m a) λ b=>cond (am (ieq b 0)) (Z (T.mk 0 [] 0 [],b)) (c a (J a) 0 0 [] 0 [] [] [])
def C6(m:Nat)(u:IY)(s t:Jh)(g:aa (T×Int))(f c r:Int)(q:Y8)(p:Int)(o e d:TL):Z80:=
 cond (ilt c f) (ab (ap g c) λ a=>cond (ilt 8 a.2) (Z (T.mk 0 [] 0 [],3)) (cond (ilt a.2 (-8)) (Z (T.mk 0 [] 0 [],3))
 (s g f c a.2 0 r q p a.1.kind a.1.name a.1.sort a.1.kids a.2 o e d))) (ab (qO m [e,d]) λ b=>cond (ilt 8 (J b.2.1)) (Z (T.mk 0 [] 0 [],3))
 (ab (zx m [109,117,108] b.2.1) λ n=>cond (ieq (J b.2.1) 0) (ab (zx m [111,110,101] []) λ l=>ab (fI m (re l)) λ k=>cond (am (ieq k 0))
 (Z (T.mk 0 [] 0 [],k)) (Z (re l,0))) (cond (ieq (J b.2.1) 1) (ab (ap b.2.1 0) λ j=>ab (fI m (re j)) λ i=>cond (am (ieq i 0)) (Z (T.mk 0 [] 0 [],i)) (Z (re j,0)))
 (ab (fI m (re n)) λ h=>cond (am (ieq h 0)) (Z (T.mk 0 [] 0 [],h)) (Z (re n,0))))))
def C2(m:Nat)(u:IY)(t s:Jh)(q:aa (T×Int))(p o n l k:Int)(j:Y8)(i h:Int)(g:Y8)(d:Int)(c:TL)(b:Int)(f a e:TL):Z80:=
 cond (ilt l n) (ab (jy m (T.mk h g d c)) λ r=>cond (br (J a+1) 56) (t q p o n (iw .i64 (av l 1)) k j i h g d c b f (a++[re r]) e) U)
 (s q p o (iw .i64 (cX 0 b)) 0 k j i h g d c b f a e)
def Df(m:Nat)(u:IY)(v t:Jh)(q:aa (T×Int))(p o n l k:Int)(j:Y8)(i h:Int)(g:Y8)(e:Int)(d:TL)(f:Int)(c b a:TL):Z80:=
 cond (ilt l n) (ab (jy m (T.mk h g e d)) λ s=>ab (zx m [105,110,118] [re s]) λ r=>cond (br (J a+1) 56)
 (t q p o n (iw .i64 (av l 1)) k j i h g e d f c b (a++[re r])) U) (u q p (iw .i64 (av o 1)) k j i c b a)
def fG(m:Nat):=aY λ a=>(C6 m a.1 a.2.1 a.2.2,C2 m a.1 a.2.1 a.2.2,Df m a.1 a.2.1 a.2.2)
def rd:Nat->qtl:=aW λ m _=>Dh m (fG m m).1 (fG m m).2.1 (fG m m).2.2
def Cv(m:Nat)(b:qb9)(a:aa (T×Int)):mC:=
 b a (J a) 0 []
def Cw(m:Nat)(g:qb9)(d:aa (T×Int))(c b:Int)(a:aa (T×Int)):mC:=
 cond (ilt b c) (ab (ap d b) λ e=>ab (jy m (re e.1)) λ f=>cond (br (J a+1) 64) (g d c (iw .i64 (av b 1)) (a++[(re f,e.2)])) U) (Z ((()),(a,())))
def tw(m:Nat):=aY (Cw m)
def Dz:Nat->(eF->mC):=aW λ m _=>Cv m (tw m m)
def J8(m:Nat)(a:T×Int):Z17:=
 cond (ilt a.2 (-1000)) (Z O) (Z (ilt 1000 a.2))
def CP:=aX J8
def BY(m:Nat)(b:qb7)(a:aa (T×Int)):Z8:=
 b a (J a) 0
def yR(m:Nat)(f:qb7)(c:aa (T×Int))(b a:Int):Z8:=
 cond (ilt a b) (ab (ap c a) λ d=>ab (CP m (re d.1,d.2)) λ e=>cond e (Z a) (f c b (iw .i64 (av a 1)))) (Z (-1))
def wz(m:Nat):=aY (yR m)
def B4:Nat->I9:=aW λ m _=>BY m (wz m m)
def JG(m:Nat)(b:aa (T×Int)):Z17:=
 ab (B4 m b) λ a=>Z (ile 0 a)
def BX:=aX JG
def Ke(m:Nat)(a:aa (T×Int)):pq:=
 ab (BX m a) λ b=>cond b (Z ([],7)) (cond (ilt 200 (J a)) (Z ([],3)) (Z (a,0)))
def DE:=aX Ke
def Dy(m:Nat)(f:qb5)(d a:aa (T×Int)):pq:=
 ab (wN m d) λ c=>cond (am (ieq c 0)) (Z ([],c)) (ab (wN m a) λ b=>cond (am (ieq b 0)) (Z ([],b)) (ab (Dz m d) λ e=>
 f a (J a) 0 e.2.1))
def Ds(m:Nat)(h:qb5)(d:aa (T×Int))(c a:Int)(b:aa (T×Int)):pq:=
 cond (ilt a c) (ab (ap d a) λ e=>ab (zi m b (re e.1,e.2)) λ g=>h d c (iw .i64 (av a 1)) g.2.1) (ab (DE m b) λ f=>Z f)
def tO(m:Nat):=aY (Ds m)
def E5:Nat->qbM:=aW λ m _=>Dy m (tO m m)
def qkP(m:Nat)(b:Y8)(a:TL):Z14:=
 Z (T.mk 3 b 0 a)
def zV:=aX qkP
def KL(m:Nat)(b l:T):Z80:=
 ab (ut m (re l)) λ a=>cond (am (ieq a.2 0)) (Z (T.mk 0 [] 0 [],a.2)) (ab (jl m (re b) [101,120,112]) λ k=>cond k (ab (ap b.kids 1) λ j=>
 ab (ut m (re j)) λ f=>cond (am (ieq f.2 0)) (Z (T.mk 0 [] 0 [],f.2)) (ab (E5 m f.1 a.1) λ c=>cond (am (ieq c.2 0)) (Z (T.mk 0 [] 0 [],c.2))
 (ab (ap b.kids 0) λ h=>cond (ieq (J c.1) 0) (Z (re h,0)) (ab (rd m c.1) λ e=>cond (am (ieq e.2 0)) (Z (T.mk 0 [] 0 [],e.2))
 (ab (zV m [101,120,112] [re h,re e.1]) λ i=>Z (re i,0)))))) (cond (ieq (J a.1) 0) (Z (re b,0)) (ab (rd m a.1) λ d=>cond (am (ieq d.2 0))
 (Z (T.mk 0 [] 0 [],d.2)) (ab (zV m [101,120,112] [re b,re d.1]) λ g=>Z (re g,0)))))
def Fy:=aX KL
def Dc(m:Nat)(a:ss)(c:qbk)(b:T):Z80:=
 cond (am (ieq b.kind 3)) (Z (re b,0)) (c b.kids (J b.kids) 0 b.kind b.name b.sort b.kids 0 [] 0 3 b.name 0 [] [])
def CW(m:Nat)(a:ss)(C:qbk)(s:TL)(r k z:Int)(c:Y8)(y:Int)(x:TL)(w:Int)(v:Y8)(u f:Int)(e:Y8)(d:Int)(l b:TL):Z80:=
 cond (ilt k r) (ab (ap s k) λ B=>ab (a (re B)) λ n=>cond (am (ieq n.2 0)) (Z (T.mk 0 [] 0 [],n.2)) (cond (br (J b+1) 56)
 (C s r (iw .i64 (av k 1)) z c y x w v u f e d l (b++[re n.1])) U)) (let h:Z80:=(ab (zl m (T.mk f e d b)) λ A=>Z (re A,0));
 cond (bc c [102,115,116]) h (cond (bc c [115,110,100]) h (cond (bc c [100,101,99]) h (cond (bc c [97,100,101,99]) h (cond (bc c [111,112,101,110]) h (cond (bc c [114,101,97,100]) h (cond (bc c [120,111,114])
 (ab (Ib m b) λ t=>Z (re t.1,t.2)) (let q:Z80:=(ab (ut m (T.mk f e d b)) λ g=>cond (am (ieq g.2 0)) (Z (T.mk 0 [] 0 [],g.2))
 (ab (rd m g.1) λ j=>Z (re j.1,j.2)));cond (bc c [109,117,108]) q (cond (bc c [105,110,118]) q (cond (bc c [111,110,101]) q (cond (bc c [101,120,112])
 (ab (ap b 0) λ p=>ab (ap b 1) λ o=>ab (Fy m (re p) (re o)) λ i=>Z (re i.1,i.2)) (Z (T.mk f e d b,0)))))))))))))
def tF(m:Nat)(a:ss):=aY (CW m a)
def lL:Nat->ss:=aW λ m a=>Dc m a (tF m a m)
def Kp(m:Nat)(d:T):Z80:=
 ab (zA m (re d)) λ c=>cond (am (ieq c 0)) (Z (T.mk 0 [] 0 [],c)) (ab (lL m (re d)) λ a=>cond (ieq a.2 0) (ab (fI m (re a.1)) λ b=>cond (am (ieq b 0))
 (Z (T.mk 0 [] 0 [],b)) (Z (re a.1,0))) (cond (am (ieq a.2 0)) (Z (T.mk 0 [] 0 [],a.2)) (Z (re a.1,0))))
def Ej:=aX Kp
def Km(m:Nat)(b:Y8):Z17:=
 ab (wR m b) λ a=>Z (am (ieq a.2.2.2 3))
def DS:=aX Km
def Cf(m:Nat)(a:Z25)(c:Z35)(b:T):Z17:=
 cond (ieq b.kind 3) (ab (DS m b.name) λ d=>cond (am d) (Z Y) (c b.kids (J b.kids) 0)) (c b.kids (J b.kids) 0)
def Cg(m:Nat)(a:Z25)(g:Z35)(d:TL)(c b:Int):Z17:=
 cond (ilt b c) (ab (ap d b) λ f=>ab (a (re f)) λ e=>cond (am e) (Z Y) (g d c (iw .i64 (av b 1)))) (Z O)
def qQ(m:Nat)(a:Z25):=aY (Cg m a)
def kU:Nat->Z25:=aW λ m a=>Cf m a (qQ m a m)
def KN(m:Nat)(a:T):Z17:=
 ab (Ej m (re a)) λ b=>cond (ieq b.2 0) (ab (pJ m (re b.1) (re a)) λ d=>cond d (ab (kU m (re a)) λ c=>Z c) (Z Y)) (Z Y)
def zr:=aX KN
def DV(m:Nat)(b:qcJ)(a:aa (T×T)):Z8:=
 cond (ilt 200 (J a)) (Z 3) (b a a (J a) 0)
def D8(m:Nat)(h:qcJ)(e d:aa (T×T))(c b:Int):Z8:=
 cond (ilt b c) (ab (ap d b) λ a=>ab (fI m (re a.1)) λ g=>cond (am (ieq g 0)) (Z g) (cond (am (ieq a.1.kind 1)) (Z 1) (ab (cZ m (re a.1) (re a.2)) λ l=>
 cond (ieq l 0) (Z 1) (ab (fI m (re a.2)) λ f=>cond (am (ieq f 0)) (Z f) (ab (zM m (re a.1) (re a.2)) λ k=>cond (am k) (Z 10) (cond (ilt 0 b)
 (ab (ap e (iw .i64 (cX b 1))) λ j=>ab (cZ m (re j.1) (re a.1)) λ i=>cond (ile 0 i) (Z 5) (h e d c (iw .i64 (av b 1)))) (h e d c (iw .i64 (av b 1))))))))) (Z 0)
def uf(m:Nat):=aY (D8 m)
def wY:Nat->qbc:=aW λ m _=>DV m (uf m m)
def wK(m:Nat)(i:P4)(j:PF)(b:Int×(TL×(TL×(aa (T×(aa (Int×(T×(T×(Int×TL))))))))))(a:(Int×(aa Y8))×(Int×(Int×(Int×(Int×(aa (T×T))))))):Z8:=
 ab (zq m b) λ f=>cond (am (ieq f 0)) (Z f) (ab (zg m b a.1) λ h=>cond (am h)
 (Z 1) (cond (ilt a.2.1 0) (Z 1) (cond (ilt 99 a.2.1) (Z 1) (cond (ilt a.2.2.2.2.1 0) (Z 1) (cond (ilt a.2.2.1 1) (Z 1) (cond (ilt (J b.2.2.2) a.2.2.1) (Z 1) (let c:Z8:=
 (cond (am (cQ (ieq a.2.2.1 (J b.2.2.2)) (ieq a.2.2.2.1 2))) (Z 1) (ab (wY m a.2.2.2.2.2) λ g=>cond (am (ieq g 0)) (Z 1)
 (ab (ue m b a.2.2.1) λ e=>ab (uc m b a.1 a.2.1) λ d=>cond (am (ieq d.2 0)) (Z 1)
 (cond (am (ieq (J e.1) (J a.2.2.2.2.2))) (Z 1) (i e.1 d.1 a.2.2.2.2.2 (J a.2.2.2.2.2) 0 a.1.1 a.1.2 a.2.1 a.2.2.1 a.2.2.2.1 a.2.2.2.2.1 a.2.2.2.2.2)))));cond (am (ieq a.2.2.2.1 1))
 (cond (am (ieq a.2.2.2.1 2)) (cond (am (ieq a.2.2.2.1 3)) (Z 1) c) c) c)))))))
def C7(m:Nat)(t:P4)(s:PF)(n:TL)(d l:aa (T×T))(k c j:Int)(i:aa (Y8))(h g f b:Int)(a:aa (T×T)):Z8:=
 cond (ilt c k) (ab (ap l c) λ e=>ab (ap n c) λ r=>ab (wS m (re e.1) (re r)) λ q=>cond (am q) (Z 1) (ab (pR m (re e.2)) λ p=>cond (ilt 0 (J p))
 (Z 1) (ab (zr m (re e.2)) λ o=>cond (am o) (Z 1) (t n d l k (iw .i64 (av c 1)) j i h g f b a)))) (s d (J d) 0 j i h g f b a)
def C9(m:Nat)(p:P4)(o:PF)(d:aa (T×T))(c a l:Int)(k:aa (Y8))(j i h g:Int)(b:aa (T×T)):Z8:=
 cond (ilt a c) (ab (ap d a) λ f=>ab (wI m b (re f.1)) λ e=>cond (am e.2) (Z 1) (ab (wS m (re e.1) (re f.2)) λ n=>cond (am n) (Z 1)
 (o d c (iw .i64 (av a 1)) l k j i h g b))) (Z 0)
def iz(m:Nat):=aY λ a=>(C7 m a.1 a.2,C9 m a.1 a.2)
def ra:Nat->qcA:=aW λ m _=>wK m (iz m m).1 (iz m m).2
def Kd(m:Nat)(c:Int×(TL×(TL×(aa (T×(aa (Int×(T×(T×(Int×TL))))))))))(b:(Int×(aa Y8))×(Int×(Int×(Int×(Int×(aa (T×T))))))):Z8:=
 ab (ra m c b) λ a=>cond (am (ieq a 0)) (Z a)
 (cond (am (ieq b.2.2.2.1 1)) (Z 9) (Z 0))
def wL:=aX Kd
def Ki(m:Nat)(f:Int×(TL×(TL×(aa (T×(aa (Int×(T×(T×(Int×TL))))))))))(d:(Int×(aa Y8))×(Int×(Int×(Int×(Int×(aa (T×T)))))))(c:T):Z96:=
 ab (wL m f d) λ e=>cond (am (ieq e 0))
 (Z (((0,[]),(0,(0,(0,(0,[]))))),[],e)) (ab (zr m (re c)) λ h=>cond (am h) (Z (((0,[]),(0,(0,(0,(0,[]))))),[],10)) (ab (pR m (re c)) λ g=>
 cond (ilt 0 (J g)) (Z (((0,[]),(0,(0,(0,(0,[]))))),[],10)) (ab (LV m f d
 (re c)) λ b=>cond (am b.2.2) (ab (Ed m d) λ a=>
 Z ((a.1,(a.2.1,(a.2.2.1,(a.2.2.2.1,(iw .i64 (av a.2.2.2.2.1 1),a.2.2.2.2.2))))),[],11))
 (Z (b.1,b.2.1,0)))))
def zj:=aX Ki
def qgZ(m:Nat)(a:Int):(ac (Int×(aa Y8))):=
 Z (a,[[97],[98]])
def To:=aX qgZ
def Kr(m:Nat)(c:Int×(TL×(TL×(aa (T×(aa (Int×(T×(T×(Int×TL))))))))))(a:(Int×(aa Y8))×(Int×(Int×(Int×(Int×(aa (T×T))))))):Z80:=
 ab (wL m c a) λ b=>cond (am (ieq b 0)) (Z (T.mk 0 [] 0 [],b))
 (ab (ap c.2.2.2 a.2.2.1) λ e=>ab (tu m a.2.2.2.2.2 (re e.1)) λ d=>Z (re d,0))
def EM:=aX Kr
def KK(m:Nat)(b a:Int):Z8:=
 cond (ilt b a) (Z (-1)) (cond (ilt a b) (Z 1) (Z 0))
def uh:=aX KK
def Eu(m:Nat)(a:Z9)(c:yJ)(b:T):Z8:=
 c 1 0 b.kind b.name b.sort b.kids
def Et(m:Nat)(a:Z9)(j:yJ)(d c g:Int)(f:Y8)(e:Int)(b:TL):Z8:=
 cond (ilt c (J b)) (ab (ap b c) λ i=>ab (a (re i)) λ h=>j (iw .i64 (av d h)) (iw .i64 (av c 1)) g f e b) (Z d)
def ul(m:Nat)(a:Z9):=aY (Et m a)
def jB:Nat->Z9:=aW λ m a=>Eu m a (ul m a m)
def CX(m:Nat)(a:Z11)(j:qb1)(c b:T):Z8:=
 ab (jB m (re c)) λ i=>ab (jB m (re b)) λ h=>ab (uh m i h) λ g=>cond (am (ieq g 0)) (Z g) (ab (uh m c.kind b.kind) λ f=>
 cond (am (ieq f 0)) (Z f) (cond (slt c.name b.name) (Z (-1)) (cond (am (sy (slt c.name b.name) (bc c.name b.name))) (Z 1) (ab (uh m c.sort b.sort) λ e=>cond (am (ieq e 0))
 (Z e) (ab (uh m (J c.kids) (J b.kids)) λ d=>cond (am (ieq d 0)) (Z d) (j 0 c.kind c.name c.sort c.kids b.kind b.name b.sort b.kids))))))
def C4(m:Nat)(a:Z11)(o:qb1)(b k:Int)(j:Y8)(i:Int)(c:TL)(h:Int)(g:Y8)(f:Int)(d:TL):Z8:=
 cond (ilt b (J c)) (ab (ap c b) λ n=>ab (ap d b) λ l=>ab (a (re n) (re l)) λ e=>cond (am (ieq e 0)) (Z e) (o (iw .i64 (av b 1)) k j i c h g f d))
 (Z 0)
def tI(m:Nat)(a:Z11):=aY (C4 m a)
def iV:Nat->Z11:=aW λ m a=>CX m a (tI m a m)
def Li(m:Nat)(c b:T):Z17:=
 ab (iV m (re c) (re b)) λ a=>Z (ieq a 0)
def jz:=aX Li
def Ky(m:Nat)(c:Int×(TL×(TL×(aa (T×(aa (Int×(T×(T×(Int×TL))))))))))(a:(Int×(aa Y8))×(Int×(Int×(Int×(Int×(aa (T×T))))))):Z17:=
 ab (ra m c a) λ b=>cond (ieq b 0) (Z (ieq a.2.2.2.1 2)) (Z Y)
def rf:=aX Ky
def La(m:Nat)(b:Y8)(a:Int):Z14:=
 Z (T.mk 2 b a [])
def pP:=aX La
def Lu(m:Nat)(b:Y8)(a:TL):Z14:=
 cond (br (J ([]:TL)+J a) 56) (iK a (Z (T.mk 3 b 0 [])) λ d c=>Z (T.mk 3 b 0 ([]++(d::c)))) U
def gX:=aX Lu
def qlk(m:Nat)(b:Y8)(a:Int):Z14:=
 Z (T.mk 1 b a [])
def GR:=aX qlk
def qgD(m:Nat):qto:=
 ab (GR m [65] 1) λ b=>ab (GR m [110] 2) λ a=>ab (gX m [112,97,105,114] [re a,re b]) λ e=>ab (GR m [66] 1) λ d=>
 ab (gX m [104,97,115,104] [re a]) λ c=>Z (0,([re b,re d],([re a],[(T.mk 0 [] 0 [],[(2,(re e,(T.mk 0 [] 0 [],(0,[]))))]),(re c,[])])))
def TG:=aX qgD
def qiC(m:Nat):Z17:=
 ab (TG m) λ b=>ab (pP m [110,35,49] 2) λ f=>ab (pP m [110,35,50] 2) λ u=>ab (To m 0) λ t=>
 ab (Tu m b t 1) λ a=>ab (EM m b
 a.1) λ q=>ab (gX m [104,97,115,104] [re u]) λ s=>
 ab (zj m b a.1 (re s)) λ d=>
 ab (gX m [104,97,115,104] [re f]) λ r=>ab (zj m b
 a.1 (re r)) λ c=>let j1:Z17:=(Z Y);
 cond (am (ieq a.2.2 0)) j1 (cond (am (ieq q.2 0)) j1 (cond (am (ieq d.2.2 11)) j1 (cond (am (ieq c.2.2 0)) j1 (cond (am (ieq (J a.2.1) 1)) j1 (ab (ap a.2.1 0) λ p=>
 cond (am (ieq (J p.2.2) 1)) j1 (ab (ap a.2.1 0) λ o=>ab (ap o.2.2 0) λ n=>ab (pP m [97] 1) λ l=>ab (gX m [112,97,105,114] [re f,re l]) λ k=>
 ab (jz m (re n) (re k)) λ j=>cond j (ab (gX m [104,97,115,104] [re f]) λ i=>ab (jz m (re q.1) (re i)) λ h=>cond h (cond (ieq d.1.2.2.2.2.1 1)
 (ab (rf m b c.1) λ g=>
 cond g (ab (rf m b d.1) λ e=>Z (am e)) j1) j1) j1) j1))))))
def zH:=aX qiC
def Dt(m:Nat)(a:IW)(d:yJ)(b:T)(c:Int):Z8:=
 cond (ile c 0) (Z (-1)) (cond (ilt 40 (J b.name)) (Z (-1)) (d (iw .i64 (cX c 1)) 0 b.kind b.name b.sort b.kids))
def DA(m:Nat)(a:IW)(j:yJ)(d c h:Int)(g:Y8)(f:Int)(b:TL):Z8:=
 cond (ilt c (J b)) (ab (ap b c) λ i=>ab (a (re i) d) λ e=>cond (ilt e 0) (Z (-1)) (j e (iw .i64 (av c 1)) h g f b)) (Z d)
def tJ(m:Nat)(a:IW):=aY (DA m a)
def lM:Nat->IW:=aW λ m a=>Dt m a (tJ m a m)
def Fw(m:Nat)(d:Z35)(a:TL)(c b:Int):Z17:=
 cond (ilt c (J a)) (Z Y) (d a b 0)
def E0(m:Nat)(f:Z35)(b:TL)(d a:Int):Z17:=
 cond (ilt a (J b)) (ab (ap b a) λ e=>ab (lM m (re e) d) λ c=>cond (ilt c 0) (Z Y) (f b c (iw .i64 (av a 1)))) (Z O)
def uA(m:Nat):=aY (E0 m)
def Ae:Nat->(TL->Int->Int->Z17):=aW λ m _=>Fw m (uA m m)
def uk(m:Nat)(b:Pe)(g:Pa)(a:Int×(TL×(TL×(aa (T×(aa (Int×(T×(T×(Int×TL)))))))))):Z17:=
 cond (ilt 6 (J a.2.1)) (Z Y) (cond (ilt 6 (J a.2.2.1)) (Z Y) (cond (ilt 14 (J a.2.2.2)) (Z Y) (cond (br (J ([]:TL)+J a.2.1) 56)
 (iK a.2.1 (cond (br (J ([]:TL)+J a.2.2.1) 56) (iK a.2.2.1 (b 0 0 a.1 a.2.1 a.2.2.1 a.2.2.2 []) λ f e=>
 b 0 0 a.1 a.2.1 a.2.2.1 a.2.2.2 ([]++(f::e))) U) λ d c=>cond (br (J ([]++(d::c))+J a.2.2.1) 56)
 (b 0 0 a.1 a.2.1 a.2.2.1 a.2.2.2 (([]++(d::c))++a.2.2.1)) U) U)))
def zC(m:Nat)(l:Pe)(k:Pa)(d b g:Int)(f e:TL)(a:aa (T×(aa (Int×(T×(T×(Int×TL)))))))(c:TL):Z17:=
 cond (ilt b (J a)) (ab (ap a b) λ j=>cond (br (J c+1) 56) (ab (ap a b) λ i=>k (iw .i64 (av d (J i.2))) b 0 g f e a (c++[re j.1])) U) (cond (ile d 40)
 (ab (Ae m c 200 500) λ h=>Z h) (Z Y))
def wT(m:Nat)(j:Pe)(n:Pa)(i d e h:Int)(g f:TL)(c:aa (T×(aa (Int×(T×(T×(Int×TL)))))))(b:TL):Z17:=
 ab (ap c d) λ l=>cond (ilt e (J l.2)) (cond (ilt e 30) (ab (ap c d) λ k=>ab (ap k.2 e) λ a=>cond (br (J b+1) 56)
 (cond (br (J (b++[re a.2.1])+1) 56) (cond (br (J ((b++[re a.2.1])++[re a.2.2.1])+J a.2.2.2.2) 56)
 (n i d (iw .i64 (av e 1)) h g f c (((b++[re a.2.1])++[re a.2.2.1])++a.2.2.2.2)) U) U) U) (j i (iw .i64 (av d 1)) h g f c b)) (j i (iw .i64 (av d 1)) h g f c b)
def kg(m:Nat):=aY λ a=>(zC m a.1 a.2,wT m a.1 a.2)
def Gr:Nat->Z58:=aW λ m _=>uk m (kg m m).1 (kg m m).2
def Ft(m:Nat)(d:qaW)(c:aa (T×T))(b a:Int):Z17:=
 d c b a 0 []
def EU(m:Nat)(i:qaW)(b:aa (T×T))(e d a:Int)(c:TL):Z17:=
 cond (ilt a (J b)) (ab (ap b a) λ h=>ab (ap b a) λ g=>cond (br (J c+2) 56) (i b e d (iw .i64 (av a 1)) (c++[re h.1,re g.2])) U)
 (ab (Ae m c (iw .i64 (qI 2 e)) d) λ f=>Z f)
def uw(m:Nat):=aY (EU m)
def Gn:Nat->(Z67->Int->Int->Z17):=aW λ m _=>Ft m (uw m m)
def CE(m:Nat)(b:qcE)(a:(Int×(aa Y8))×(Int×(Int×(Int×(Int×(aa (T×T))))))):Z17:=
 b 0 0 a.1.1 a.1.2 a.2.1 a.2.2.1 a.2.2.2.1 a.2.2.2.2.1 a.2.2.2.2.2
def wJ(m:Nat)(l:qcE)(d b i:Int)(a:aa (Y8))(h g f e:Int)(c:aa (T×T)):Z17:=
 cond (ilt b (J a)) (ab (ap a b) λ k=>l (iw .i64 (av d (J k))) (iw .i64 (av b 1)) i a h g f e c) (cond (ile (J a) 8) (cond (ile d 200) (ab (Gn m c 30 300) λ j=>
 Z j) (Z Y)) (Z Y))
def tC(m:Nat):=aY (wJ m)
def DQ:Nat->(Z84->Z17):=aW λ m _=>CE m (tC m m)
def Kh(m:Nat)(d:Int×(TL×(TL×(aa (T×(aa (Int×(T×(T×(Int×TL))))))))))(c:(Int×(aa Y8))×(Int×(Int×(Int×(Int×(aa (T×T))))))):qtm:=
 ab (wL m d c) λ b=>cond (am (ieq b 0))
 (Z (((0,[]),(0,(0,(0,(0,[]))))),b)) (ab (Ed m c) λ a=>
 Z ((a.1,(a.2.1,(a.2.2.1,(3,a.2.2.2.2)))),0))
def KJ:=aX Kh
def EQ(m:Nat)(a:Z21)(c:qcw)(b:T):Z20:=
 c 0 b.kind b.name b.sort b.kids [re b]
def E7(m:Nat)(a:Z21)(j:qcw)(d h:Int)(g:Y8)(f:Int)(c b:TL):Z20:=
 cond (ilt d (J c)) (ab (ap c d) λ i=>ab (a (re i)) λ e=>cond (br (J b+J e) 56) (j (iw .i64 (av d 1)) h g f c (b++e)) U) (Z b)
def uv(m:Nat)(a:Z21):=aY (E7 m a)
def km:Nat->Z21:=aW λ m a=>EQ m a (uv m a m)
def FD(m:Nat)(c:qbI)(b:TL)(a:T):Z20:=
 c b Y 0 a.kind a.name a.sort a.kids []
def Fq(m:Nat)(i:qbI)(c:TL)(h:Bool)(b g:Int)(f:Y8)(e:Int)(d a:TL):Z20:=
 cond (ilt b (J c)) (ab (ap c b) λ o=>ab (iV m (T.mk g f e d) (re o)) λ j=>let j1:Z20:=(ab (ap c b) λ k=>cond (br (J a+1) 56)
 (i c h (iw .i64 (av b 1)) g f e d (a++[re k])) U);cond (am h) (cond (ile j 0) (cond (ilt j 0) (cond (br (J a+1) 56) (ab (ap c b) λ n=>
 cond (br (J (a++[T.mk g f e d])+1) 56) (i c O (iw .i64 (av b 1)) g f e d ((a++[T.mk g f e d])++[re n])) U) U) (ab (ap c b) λ l=>
 cond (br (J a+1) 56) (i c O (iw .i64 (av b 1)) g f e d (a++[re l])) U)) j1) j1) (cond (am h) (cond (br (J a+1) 56) (Z (a++[T.mk g f e d])) U) (Z a))
def uy(m:Nat):=aY (Fq m)
def Ah:Nat->(TL->T->Z20):=aW λ m _=>FD m (uy m m)
def E4(m:Nat)(b:Jk)(a:TL):Z20:=
 b a [] 0
def Fj(m:Nat)(f:Jk)(b c:TL)(a:Int):Z20:=
 cond (ilt a (J b)) (ab (ap b a) λ e=>ab (Ah m c (re e)) λ d=>f b d (iw .i64 (av a 1))) (Z c)
def uz(m:Nat):=aY (Fj m)
def Ak:Nat->Bi:=aW λ m _=>E4 m (uz m m)
def Ez(m:Nat)(d:qa3)(c:T)(b:Int):Z20:=
 ab (km m (re c)) λ a=>d b a 0 []
def Ep(m:Nat)(e:qa3)(d:Int)(b:TL)(a:Int)(c:TL):Z20:=
 cond (ilt a (J b)) (ab (ap b a) λ h=>cond (ieq h.kind d) (ab (ap b a) λ g=>cond (br (J c+1) 56) (e d b (iw .i64 (av a 1)) (c++[re g])) U)
 (e d b (iw .i64 (av a 1)) c)) (ab (Ak m c) λ f=>Z f)
def ui(m:Nat):=aY (Ep m)
def Gg:Nat->(T->Int->Z20):=aW λ m _=>Ez m (ui m m)
def EB(m:Nat)(b:T):Z20:=
 ab (Gg m (re b) 1) λ a=>Z a
def oL:=aX EB
def KF(m:Nat)(b:T):Z17:=
 ab (oL m (re b)) λ a=>Z (ieq (J a) 0)
def Fc:=aX KF
def Kz(m:Nat)(a:Int):Z17:=
 let b:Z17:=(cond (ile 65 a) (Z (ile a 90)) (Z Y));cond (ile 97 a) (cond (ile a 122) (Z O) b) b
def zt:=aX Kz
def KQ(m:Nat)(a:Int):Z17:=
 cond (ile 48 a) (Z (ile a 57)) (Z Y)
def FF:=aX KQ
def Dw(m:Nat)(d:qch)(a:Y8):Z17:=
 cond (ieq (J a) 0) (Z Y) (cond (ilt 24 (J a)) (Z Y) (ab (ap a 0) λ c=>ab (zt m ((UInt8.toNat c:Nat):Int)) λ b=>cond (am b) (Z Y) (d a 0)))
def Dx(m:Nat)(i:qch)(b:Y8)(a:Int):Z17:=
 cond (ilt a (J b)) (ab (ap b a) λ h=>ab (zt m ((UInt8.toNat h:Nat):Int)) λ g=>let j1:Z17:=(i b (iw .i64 (av a 1)));cond (am g) (ab (ap b a) λ f=>
 ab (FF m ((UInt8.toNat f:Nat):Int)) λ e=>cond (am e) (ab (ap b a) λ d=>cond (am (ieq ((UInt8.toNat d:Nat):Int) 95)) (ab (ap b a) λ c=>
 cond (am (ieq ((UInt8.toNat c:Nat):Int) 35)) (Z Y) j1) j1) j1) j1) (Z O)
def tN(m:Nat):=aY (Dx m)
def uq:Nat->Z34:=aW λ m _=>Dw m (tN m m)
def Lk(m:Nat)(a:T):Z8:=
 let d:Z8:=(ab (uq m a.name) λ e=>cond (am e) (Z 2) (cond (ilt 8 (J a.kids)) (Z 3) (Z 0)));let j2:Z8:=(cond (ilt 0 (J a.kids)) (Z 1) d);cond (ieq a.kind 1)
 (cond (ilt a.sort 0) (Z 1) (cond (ilt 5 a.sort) (Z 1) j2)) (let c:Z8:=(cond (ilt a.sort 0) (Z 1) (cond (ilt 5 a.sort) (Z 1) (let b:Z8:=(cond (ieq a.kind 2) j2 d);
 cond (am (ieq a.kind 2)) (cond (am (ieq a.sort 0)) (Z 1) b) b)));cond (am (ieq a.kind 2)) (cond (am (ieq a.kind 3)) (Z 1) c) c)
def Gb:=aX Lk
def D5(m:Nat)(a:Z9)(d:Jd)(b:T):Z8:=
 ab (Gb m (re b)) λ c=>cond (am (ieq c 0)) (Z c) (d 0 b.kind b.name b.sort b.kids)
def D4(m:Nat)(a:Z9)(i:Jd)(c g:Int)(f:Y8)(e:Int)(b:TL):Z8:=
 cond (ilt c (J b)) (ab (ap b c) λ h=>ab (a (re h)) λ d=>cond (am (ieq d 0)) (Z d) (i (iw .i64 (av c 1)) g f e b)) (Z 0)
def ua(m:Nat)(a:Z9):=aY (D4 m a)
def lO:Nat->Z9:=aW λ m a=>D5 m a (ua m a m)
def DP(m:Nat)(a:Z9)(c:yJ)(b:T):Z8:=
 c 0 0 b.kind b.name b.sort b.kids
def Ec(m:Nat)(a:Z9)(j:yJ)(d c g:Int)(f:Y8)(e:Int)(b:TL):Z8:=
 cond (ilt c (J b)) (ab (ap b c) λ i=>ab (a (re i)) λ h=>j (pn d h) (iw .i64 (av c 1)) g f e b) (Z (iw .i64 (av d 1)))
def tY(m:Nat)(a:Z9):=aY (Ec m a)
def lP:Nat->Z9:=aW λ m a=>DP m a (tY m a m)
def K5(m:Nat)(a:T):Z8:=
 ab (lO m (re a)) λ b=>cond (am (ieq b 0)) (Z b) (ab (jB m (re a)) λ d=>cond (ilt 400 d) (Z 3) (ab (lP m (re a)) λ c=>cond (ilt 40 c) (Z 3) (Z 0)))
def iA:=aX K5
def qgl(m:Nat):qtn:=
 Z [([112,97,105,114],(2,(2,1))),([101,110,99],(2,(2,1))),([97,101,110,99],(2,(2,1))),([112,107],(1,(1,1))),([115,105,103,110],(2,(2,1))),([104,97,115,104],(1,(1,1))),([120,111,114],(2,(8,1))),([122,101,114,111],(0,(0,1))),([101,120,112],(2,(2,1))),([109,117,108],(2,(8,1))),([105,110,118],(1,(1,1))),([111,110,101],(0,(0,1))),([115,107],(1,(1,2))),([115,104,107],(2,(2,2))),([110,101,119],(1,(8,2))),([102,115,116],(1,(1,3))),([115,110,100],(1,(1,3))),([100,101,99],(2,(2,3))),([97,100,101,99],(2,(2,3))),([111,112,101,110],(2,(2,3))),([114,101,97,100],(1,(1,3)))]
def Lc:=aX qgl
def Ek(m:Nat)(c:qbm)(b:Y8):Z8:=
 ab (Lc m) λ a=>c b a 0
def Em(m:Nat)(f:qbm)(c:Y8)(b:aa (Y8×(Int×(Int×Int))))(a:Int):Z8:=
 cond (ilt a (J b)) (ab (ap b a) λ e=>cond (bc e.1 c) (ab (ap b a) λ d=>Z d.2.2.2) (f c b (iw .i64 (av a 1)))) (Z 0)
def ur(m:Nat):=aY (Em m)
def uI:Nat->(Y8->Z8):=aW λ m _=>Ek m (ur m m)
def Ei(m:Nat)(c:qb4)(a:T):Z17:=
 ab (Lc m) λ b=>c b 0 a.kind a.name a.sort a.kids
def EP(m:Nat)(j:qb4)(b:aa (Y8×(Int×(Int×Int))))(a f:Int)(d:Y8)(e:Int)(c:TL):Z17:=
 cond (ilt a (J b)) (ab (ap b a) λ i=>cond (bc i.1 d) (ab (ap b a) λ h=>cond (ile h.2.1 (J c)) (ab (ap b a) λ g=>Z (ile (J c) g.2.2.1)) (Z Y))
 (j b (iw .i64 (av a 1)) f d e c)) (Z Y)
def uo(m:Nat):=aY (EP m)
def F7:Nat->Z25:=aW λ m _=>Ei m (uo m m)
def Dv(m:Nat)(c:qbQ)(a:T):Z17:=
 cond (bc a.name [110,101,119]) (ab (ap a.kids 0) λ b=>Z (ieq b.kind 2)) (c 0 a.kind a.name a.sort a.kids)
def DB(m:Nat)(h:qbQ)(b e:Int)(d:Y8)(c:Int)(a:TL):Z17:=
 cond (ilt b (J a)) (ab (ap a b) λ g=>cond (ieq g.kind 3) (Z Y) (ab (ap a b) λ f=>cond (am (ieq f.sort 1)) (Z Y) (h (iw .i64 (av b 1)) e d c a))) (Z O)
def tT(m:Nat):=aY (DB m)
def ES:Nat->Z25:=aW λ m _=>Dv m (tT m m)
def DU(m:Nat)(b:Z9)(d:Jd)(a:T):Z8:=
 cond (am (ieq a.kind 3)) (Z 0) (ab (uI m a.name) λ c=>cond (ieq c 0) (Z 10) (ab (F7 m (re a)) λ f=>cond (am f) (Z 6) (cond (ieq c 2)
 (ab (ES m (re a)) λ e=>cond (am e) (Z 10) (d 0 a.kind a.name a.sort a.kids)) (d 0 a.kind a.name a.sort a.kids))))
def D1(m:Nat)(a:Z9)(i:Jd)(c g:Int)(f:Y8)(e:Int)(b:TL):Z8:=
 cond (ilt c (J b)) (ab (ap b c) λ h=>ab (a (re h)) λ d=>cond (am (ieq d 0)) (Z d) (i (iw .i64 (av c 1)) g f e b)) (Z 0)
def qZ(m:Nat)(a:Z9):=aY (D1 m a)
def lf:Nat->Z9:=aW λ m a=>DU m a (qZ m a m)
def KX(m:Nat)(b:T):Z8:=
 ab (iA m (re b)) λ a=>cond (am (ieq a 0)) (Z a) (ab (lf m (re b)) λ c=>Z c)
def zG:=aX KX
def LI(m:Nat)(a:T)(b:Y8):Z17:=
 cond (ieq a.kind 3) (Z (bc a.name b)) (Z Y)
def oR:=aX LI
def Kx(m:Nat)(a:T):Z79:=
 ab (ap a.kids 0) λ b=>let j1:Z79:=(ab (ap b.kids 0) λ y=>Z (re y,O));let j2:Z79:=(let r:Z79:=(let q:Z79:=(let p:Z79:=(let o:Z79:=
 (cond (bc a.name [114,101,97,100]) (ab (oR m (re b) [115,105,103,110]) λ c=>cond c j1 (Z (re a,Y))) (Z (re a,Y)));cond (bc a.name [111,112,101,110])
 (ab (oR m (re b) [115,105,103,110]) λ h=>cond h (ab (ap a.kids 1) λ g=>ab (ap b.kids 1) λ f=>ab (gX m [112,107] [re f]) λ e=>ab (jz m (re g)
 (re e)) λ d=>cond d j1 o) o) o);cond (bc a.name [97,100,101,99]) (ab (oR m (re b) [97,101,110,99]) λ n=>cond n (ab (ap b.kids 1) λ l=>
 ab (ap a.kids 1) λ k=>ab (gX m [112,107] [re k]) λ j=>ab (jz m (re l) (re j)) λ i=>cond i j1 p) p) p);cond (bc a.name [100,101,99])
 (ab (oR m (re b) [101,110,99]) λ v=>cond v (ab (ap b.kids 1) λ u=>ab (ap a.kids 1) λ t=>ab (jz m (re u) (re t)) λ s=>cond s j1 q) q) q);
 cond (bc a.name [115,110,100]) (ab (oR m (re b) [112,97,105,114]) λ x=>cond x (ab (ap b.kids 1) λ w=>Z (re w,O)) r) r);cond (bc a.name [102,115,116])
 (ab (oR m (re b) [112,97,105,114]) λ z=>cond z j1 j2) j2
def El:=aX Kx
def Ea(m:Nat)(c:qbZ)(b:TL)(a:T):Z8:=
 cond (ilt 200 (J b)) (Z 3) (c b 0 a.kind a.name a.sort a.kids)
def D7(m:Nat)(j:qbZ)(b:TL)(a f:Int)(e:Y8)(d:Int)(c:TL):Z8:=
 cond (ilt a (J b)) (ab (ap b a) λ i=>ab (iA m (re i)) λ g=>cond (am (ieq g 0)) (Z g) (j b (iw .i64 (av a 1)) f e d c))
 (ab (iA m (T.mk f e d c)) λ h=>Z h)
def tZ(m:Nat):=aY (D7 m)
def FN:Nat->(TL->T->Z8):=aW λ m _=>Ea m (tZ m m)
def Lh(m:Nat):Z14:=
 ab (gX m [122,101,114,111] []) λ a=>Z (re a)
def Gf:=aX Lh
def Fg(m:Nat)(c:qb0)(b:TL)(a:T):Z17:=
 c b 0 a.kind a.name a.sort a.kids
def E9(m:Nat)(i:qb0)(b:TL)(a f:Int)(e:Y8)(d:Int)(c:TL):Z17:=
 cond (ilt a (J b)) (ab (ap b a) λ h=>ab (jz m (re h) (T.mk f e d c)) λ g=>cond g (Z O) (i b (iw .i64 (av a 1)) f e d c)) (Z Y)
def uC(m:Nat):=aY (E9 m)
def ru:Nat->(TL->T->Z17):=aW λ m _=>Fg m (uC m m)
def Dr(m:Nat)(e:qcy)(b:TL)(a:T):Z20:=
 ab (ru m b (re a)) λ d=>cond (am d) (ab (Ah m b (re a)) λ c=>Z c) (e b 0 a.kind a.name a.sort a.kids [])
def Dm(m:Nat)(h:qcy)(b:TL)(a g:Int)(f:Y8)(e:Int)(d c:TL):Z20:=
 cond (ilt a (J b)) (ab (ap b a) λ k=>ab (jz m (re k) (T.mk g f e d)) λ j=>cond (am j) (ab (ap b a) λ i=>cond (br (J c+1) 56)
 (h b (iw .i64 (av a 1)) g f e d (c++[re i])) U) (h b (iw .i64 (av a 1)) g f e d c)) (Z c)
def tW(m:Nat):=aY (Dm m)
def ET:Nat->(TL->T->Z20):=aW λ m _=>Dr m (tW m m)
def EH(m:Nat)(c:Jk)(b a:TL):Z20:=
 cond (br (J ([]:TL)+J b) 56) (iK b (c a [] 0) λ e d=>c a ([]++(e::d)) 0) U
def EK(m:Nat)(f:Jk)(b c:TL)(a:Int):Z20:=
 cond (ilt a (J b)) (ab (ap b a) λ e=>ab (ET m c (re e)) λ d=>f b d (iw .i64 (av a 1))) (Z c)
def rh(m:Nat):=aY (EK m)
def zU:Nat->(TL->TL->Z20):=aW λ m _=>EH m (rh m m)
def CM(m:Nat)(a:Z21)(d:qcd)(b:T):Z20:=
 let c:Z20:=(cond (am (ieq b.kind 3)) (Z [re b]) (cond (am (bc b.name [120,111,114])) (Z [re b]) (d [] 0 b.kind b.name b.sort b.kids)));cond (ieq b.kind 3)
 (cond (bc b.name [122,101,114,111]) (cond (ieq (J b.kids) 0) (Z []) c) c) c
def CR(m:Nat)(a:Z21)(k:qcd)(d:TL)(c g:Int)(f:Y8)(e:Int)(b:TL):Z20:=
 cond (ilt c (J b)) (ab (ap b c) λ j=>ab (a (re j)) λ i=>ab (zU m d i) λ h=>k h (iw .i64 (av c 1)) g f e b) (Z d)
def qU(m:Nat)(a:Z21):=aY (CR m a)
def kX:Nat->Z21:=aW λ m a=>CM m a (qU m a m)
def Lg(m:Nat)(a:TL):Z14:=
 cond (ieq (J a) 0) (ab (gX m [122,101,114,111] []) λ e=>Z (re e)) (cond (ieq (J a) 1) (ab (ap a 0) λ d=>Z (re d))
 (cond (br (J ([]:TL)+J a) 56) (iK a (Z (T.mk 3 [120,111,114] 0 [])) λ c b=>Z (T.mk 3 [120,111,114] 0 ([]++(c::b)))) U))
def F1:=aX Lg
def Fi(m:Nat)(d:qbj)(b:TL):Z80:=
 ab (Gf m) λ c=>ab (FN m b (re c)) λ a=>cond (am (ieq a 0)) (Z (T.mk 0 [] 0 [],a)) (d b [] 0 0 [] 0 [])
def EV(m:Nat)(n:qbj)(b c:TL)(a h:Int)(g:Y8)(f:Int)(e:TL):Z80:=
 cond (ilt a (J b)) (ab (ap b a) λ l=>ab (kX m (re l)) λ k=>ab (zU m c k) λ j=>n b j (iw .i64 (av a 1)) h g f e) (ab (F1 m c) λ d=>
 ab (iA m (re d)) λ i=>cond (am (ieq i 0)) (Z (T.mk 0 [] 0 [],3)) (Z (re d,0)))
def uF(m:Nat):=aY (EV m)
def Gy:Nat->(TL->Z80):=aW λ m _=>Fi m (uF m m)
def Kw(m:Nat)(a:T):Z17:=
 cond (ieq a.kind 3) (cond (bc a.name [109,117,108]) (Z O) (cond (bc a.name [105,110,118]) (Z O) (Z (bc a.name [111,110,101])))) (Z Y)
def wQ:=aX Kw
def DT(m:Nat)(b:Z25)(e:qbx)(a:T):Z17:=
 ab (wQ m (re a)) λ f=>cond (am f) (Z O) (let d:Z17:=(let c:Z17:=(cond (bc a.name [111,110,101]) (cond (am (ieq (J a.kids) 0)) (Z Y)
 (e (J a.kids) 0 a.kind a.name a.sort a.kids)) (e (J a.kids) 0 a.kind a.name a.sort a.kids));cond (bc a.name [105,110,118]) (cond (am (ieq (J a.kids) 1)) (Z Y) c) c);
 cond (bc a.name [109,117,108]) (cond (ilt (J a.kids) 2) (Z Y) d) d)
def D3(m:Nat)(a:Z25)(j:qbx)(d b g:Int)(f:Y8)(e:Int)(c:TL):Z17:=
 cond (ilt b d) (ab (ap c b) λ i=>ab (a (re i)) λ h=>cond (am h) (Z Y) (j d (iw .i64 (av b 1)) g f e c)) (Z O)
def qY(m:Nat)(a:Z25):=aY (D3 m a)
def lc:Nat->Z25:=aW λ m a=>DT m a (qY m a m)
def Fv(m:Nat)(d:qbX)(c:aa (T×Int))(a:T)(b:Int):mC:=
 d b Y 0 a.kind a.name a.sort a.kids c []
def ER(m:Nat)(i:qbX)(a:Int)(l:Bool)(h f:Int)(e:Y8)(d:Int)(c:TL)(g b:aa (T×Int)):mC:=
 cond (ilt h (J g)) (ab (ap g h) λ o=>ab (iV m (T.mk f e d c) (re o.1)) λ n=>let j1:mC:=(ab (ap g h) λ j=>cond (ieq n 0)
 (cond (am (ieq (iw .i64 (av j.2 a)) 0)) (cond (br (J b+1) 64) (i a O (iw .i64 (av h 1)) f e d c g (b++[(re j.1,iw .i64 (av j.2 a))])) U)
 (i a O (iw .i64 (av h 1)) f e d c g b)) (cond (am (ieq j.2 0)) (cond (br (J b+1) 64) (i a l (iw .i64 (av h 1)) f e d c g (b++[(re j.1,j.2)])) U)
 (i a l (iw .i64 (av h 1)) f e d c g b)));cond (am l) (cond (ilt n 0) (cond (br (J b+1) 64) (ab (ap g h) λ k=>cond (ieq n 0) (cond (am (ieq (iw .i64 (av k.2 a)) 0))
 (cond (br (J (b++[(T.mk f e d c,a)])+1) 64) (i a O (iw .i64 (av h 1)) f e d c g ((b++[(T.mk f e d c,a)])++[(re k.1,iw .i64 (av k.2 a))])) U)
 (i a O (iw .i64 (av h 1)) f e d c g (b++[(T.mk f e d c,a)]))) (cond (am (ieq k.2 0)) (cond (br (J (b++[(T.mk f e d c,a)])+1) 64)
 (i a O (iw .i64 (av h 1)) f e d c g ((b++[(T.mk f e d c,a)])++[(re k.1,k.2)])) U) (i a O (iw .i64 (av h 1)) f e d c g (b++[(T.mk f e d c,a)])))) U) j1) j1)
 (cond (am l) (cond (br (J b+1) 64) (Z ((()),(b++[(T.mk f e d c,a)],()))) U) (Z ((()),(b,()))))
def pK(m:Nat):=aY (ER m)
def Ad:Nat->Bu:=aW λ m _=>Fv m (pK m m)
def Dd(m:Nat)(a:Bu)(e:qb3)(d:aa (T×Int))(b:T)(c:Int):mC:=
 ab (wQ m (re b)) λ g=>cond (am g) (ab (Ad m d (re b) c) λ f=>Z ((()),(f.2.1,()))) (cond (bc b.name [105,110,118])
 (e (iw .i64 (cX 0 c)) 0 b.kind b.name b.sort b.kids d) (e c 0 b.kind b.name b.sort b.kids d))
def CU(m:Nat)(a:Bu)(k:qb3)(e c h:Int)(g:Y8)(f:Int)(b:TL)(d:aa (T×Int)):mC:=
 cond (ilt c (J b)) (ab (ap b c) λ j=>ab (a d (re j) e) λ i=>k e (iw .i64 (av c 1)) h g f b i.2.1) (Z ((()),(d,())))
def qV(m:Nat)(a:Bu):=aY (CU m a)
def kY:Nat->Bu:=aW λ m a=>Dd m a (qV m a m)
def Ly(m:Nat)(a:T):pq:=
 ab (iA m (re a)) λ c=>cond (am (ieq c 0)) (Z ([],c)) (ab (lc m (re a)) λ d=>cond (am d) (Z ([],6)) (ab (kY m [] (re a) 1) λ b=>
 cond (ilt 200 (J b.2.1)) (Z ([],3)) (Z (b.2.1,0))))
def xu:=aX Ly
def DR(m:Nat)(b:I2)(a:aa (T×Int)):Z8:=
 cond (ilt 200 (J a)) (Z 3) (b a 0)
def D0(m:Nat)(e:I2)(b:aa (T×Int))(a:Int):Z8:=
 cond (ilt a (J b)) (ab (ap b a) λ n=>ab (iA m (re n.1)) λ d=>cond (am (ieq d 0)) (Z d) (ab (ap b a) λ l=>ab (wQ m (re l.1)) λ k=>cond k (Z 1)
 (ab (ap b a) λ j=>cond (ieq j.2 0) (Z 7) (ab (ap b a) λ i=>cond (ilt i.2 (-1000)) (Z 7) (ab (ap b a) λ h=>cond (ilt 1000 h.2) (Z 7) (cond (ilt 0 a)
 (ab (ap b (iw .i64 (cX a 1))) λ g=>ab (ap b a) λ f=>ab (iV m (re g.1) (re f.1)) λ c=>cond (ile 0 c) (Z 5) (e b (iw .i64 (av a 1))))
 (e b (iw .i64 (av a 1))))))))) (Z 0)
def rc(m:Nat):=aY (D0 m)
def wX:Nat->I9:=aW λ m _=>DR m (rc m m)
def CB(m:Nat)(b:pz)(e:pi)(d:pz)(c:pi)(a:aa (T×Int)):Z20:=
 b a 0 []
def CH(m:Nat)(g:pz)(e:pi)(d:pz)(f:pi)(a:aa (T×Int))(c:Int)(b:TL):Z20:=
 cond (ilt c (J a)) (e a c 0 b) (d a 0 b)
def CF(m:Nat)(e:pz)(h:pi)(j:pz)(i:pi)(c:aa (T×Int))(b d:Int)(a:TL):Z20:=
 ab (ap c b) λ g=>cond (ilt d g.2) (cond (ilt (J a) 9) (ab (ap c b) λ f=>cond (br (J a+1) 56) (h c b (iw .i64 (av d 1)) (a++[re f.1])) U)
 (e c (iw .i64 (av b 1)) a)) (e c (iw .i64 (av b 1)) a)
def CQ(m:Nat)(g:pz)(f:pi)(e:pz)(d:pi)(c:aa (T×Int))(b:Int)(a:TL):Z20:=
 cond (ilt b (J c)) (d c b 0 a) (Z a)
def CS(m:Nat)(k:pz)(j:pi)(e:pz)(i:pi)(c:aa (T×Int))(b d:Int)(a:TL):Z20:=
 ab (ap c b) λ h=>cond (ilt d (iw .i64 (cX 0 h.2))) (cond (ilt (J a) 9) (ab (ap c b) λ g=>ab (gX m [105,110,118] [re g.1]) λ f=>cond (br (J a+1) 56)
 (i c b (iw .i64 (av d 1)) (a++[re f])) U) (e c (iw .i64 (av b 1)) a)) (e c (iw .i64 (av b 1)) a)
def dj(m:Nat):=aY λ a=>(CH m a.1 a.2.1 a.2.2.1 a.2.2.2,CF m a.1 a.2.1 a.2.2.1 a.2.2.2,CQ m a.1 a.2.1 a.2.2.1 a.2.2.2,CS m a.1 a.2.1 a.2.2.1 a.2.2.2)
def Ee:Nat->(eF->Z20):=aW λ m _=>CB m (dj m m).1 (dj m m).2.1 (dj m m).2.2.1 (dj m m).2.2.2
def Ld(m:Nat)(i:aa (T×Int)):Z80:=
 ab (wX m i) λ h=>cond (am (ieq h 0)) (Z (T.mk 0 [] 0 [],h)) (ab (Ee m i) λ a=>cond (ilt 8 (J a)) (Z (T.mk 0 [] 0 [],3))
 (ab (gX m [109,117,108] a) λ g=>let j1:Z80:=(ab (ap a 0) λ e=>ab (iA m (re e)) λ d=>cond (am (ieq d 0)) (Z (T.mk 0 [] 0 [],d)) (Z (re e,0)));
 cond (ieq (J a) 0) (ab (gX m [111,110,101] []) λ f=>cond (ieq (J a) 1) j1 (ab (iA m (re f)) λ c=>cond (am (ieq c 0)) (Z (T.mk 0 [] 0 [],c)) (Z (re f,0))))
 (cond (ieq (J a) 1) j1 (ab (iA m (re g)) λ b=>cond (am (ieq b 0)) (Z (T.mk 0 [] 0 [],b)) (Z (re g,0))))))
def uG:=aX Ld
def Kv(m:Nat)(c:T):Z80:=
 ab (xu m (re c)) λ a=>cond (am (ieq a.2 0)) (Z (T.mk 0 [] 0 [],a.2)) (ab (uG m a.1) λ b=>Z (re b.1,b.2))
def zp:=aX Kv
def Db(m:Nat)(b:I2)(a:aa (T×Int)):Z8:=
 b a 0
def De(m:Nat)(e:I2)(a:aa (T×Int))(b:Int):Z8:=
 cond (ilt b (J a)) (ab (ap a b) λ d=>cond (ilt d.2 (-1000)) (Z 7) (ab (ap a b) λ c=>cond (ilt 1000 c.2) (Z 7) (e a (iw .i64 (av b 1))))) (cond (ilt 200 (J a)) (Z 3)
 (Z 0))
def tG(m:Nat):=aY (De m)
def Er:Nat->I9:=aW λ m _=>Db m (tG m m)
def Fb(m:Nat)(e:qco)(b a:aa (T×Int)):pq:=
 ab (wX m b) λ d=>cond (am (ieq d 0)) (Z ([],d)) (ab (wX m a) λ c=>cond (am (ieq c 0)) (Z ([],c)) (cond (br (J ([]:aa (T×Int))+J b) 64)
 (iK b (e a 0 []) λ g f=>e a 0 ([]++(g::f))) U))
def Fe(m:Nat)(h:qco)(b:aa (T×Int))(a:Int)(c:aa (T×Int)):pq:=
 cond (ilt a (J b)) (ab (ap b a) λ g=>ab (ap b a) λ f=>ab (Ad m c (re g.1) f.2) λ e=>h b (iw .i64 (av a 1)) e.2.1) (ab (Er m c) λ d=>
 cond (am (ieq d 0)) (Z ([],d)) (Z (c,0)))
def rp(m:Nat):=aY (Fe m)
def GM:Nat->qbM:=aW λ m _=>Fb m (rp m m)
def KZ(m:Nat)(b l:T):Z80:=
 ab (xu m (re l)) λ a=>cond (am (ieq a.2 0)) (Z (T.mk 0 [] 0 [],a.2)) (ab (oR m (re b) [101,120,112]) λ k=>cond k (ab (ap b.kids 1) λ j=>
 ab (xu m (re j)) λ f=>cond (am (ieq f.2 0)) (Z (T.mk 0 [] 0 [],f.2)) (ab (GM m f.1 a.1) λ c=>cond (am (ieq c.2 0)) (Z (T.mk 0 [] 0 [],c.2))
 (ab (ap b.kids 0) λ h=>cond (ieq (J c.1) 0) (Z (re h,0)) (ab (uG m c.1) λ e=>cond (am (ieq e.2 0)) (Z (T.mk 0 [] 0 [],e.2))
 (ab (gX m [101,120,112] [re h,re e.1]) λ i=>Z (re i,0)))))) (cond (ieq (J a.1) 0) (Z (re b,0)) (ab (uG m a.1) λ d=>cond (am (ieq d.2 0))
 (Z (T.mk 0 [] 0 [],d.2)) (ab (gX m [101,120,112] [re b,re d.1]) λ g=>Z (re g,0)))))
def FS:=aX KZ
def DL(m:Nat)(a:ss)(c:qbq)(b:T):Z80:=
 cond (am (ieq b.kind 3)) (Z (re b,0)) (c 0 b.kind b.name b.sort b.kids 0 [] 0 [] [])
def Dp(m:Nat)(a:ss)(x:qbq)(f t:Int)(b:Y8)(s:Int)(e:TL)(r:Int)(q:Y8)(p:Int)(o c:TL):Z80:=
 cond (ilt f (J e)) (ab (ap e f) λ w=>ab (a (re w)) λ h=>cond (am (ieq h.2 0)) (Z (T.mk 0 [] 0 [],h.2)) (cond (br (J c+1) 56)
 (x (iw .i64 (av f 1)) t b s e r q p o (c++[re h.1])) U)) (ab (gX m b c) λ g=>ab (uI m b) λ v=>cond (ieq v 3) (ab (El m (re g)) λ u=>
 Z (re u.1,0)) (cond (bc b [120,111,114]) (ab (Gy m c) λ n=>Z (re n.1,n.2)) (let k:Z80:=(ab (zp m (re g)) λ l=>Z (re l.1,l.2));
 cond (bc b [109,117,108]) k (cond (bc b [105,110,118]) k (cond (bc b [111,110,101]) k (cond (bc b [101,120,112]) (ab (ap c 0) λ j=>ab (ap c 1) λ i=>
 ab (FS m (re j) (re i)) λ d=>Z (re d.1,d.2)) (Z (re g,0))))))))
def tM(m:Nat)(a:ss):=aY (Dp m a)
def lN:Nat->ss:=aW λ m a=>DL m a (tM m a m)
def KA(m:Nat)(d:T):Z80:=
 ab (zG m (re d)) λ c=>cond (am (ieq c 0)) (Z (T.mk 0 [] 0 [],c)) (ab (lN m (re d)) λ a=>cond (am (ieq a.2 0)) (Z (T.mk 0 [] 0 [],a.2))
 (ab (iA m (re a.1)) λ b=>cond (am (ieq b 0)) (Z (T.mk 0 [] 0 [],b)) (Z (re a.1,0))))
def Fk:=aX KA
def DW(m:Nat)(e:sD)(a:T):Z17:=
 ab (Fk m (re a)) λ b=>cond (am (ieq b.2 0)) (Z Y) (ab (jz m (re a) (re b.1)) λ d=>cond (am d) (Z Y) (ab (km m (re a)) λ c=>e c 0))
def D2(m:Nat)(c:sD)(b:TL)(a:Int):Z17:=
 cond (ilt a (J b)) (ab (ap b a) λ f=>cond (ieq f.kind 3) (ab (ap b a) λ e=>ab (uI m e.name) λ d=>cond (ieq d 3) (Z Y) (c b (iw .i64 (av a 1))))
 (c b (iw .i64 (av a 1)))) (Z O)
def tX(m:Nat):=aY (D2 m)
def FJ:Nat->Z25:=aW λ m _=>DW m (tX m m)
def E8(m:Nat)(c:qb8)(b:aa (T×T))(a:T):Z14:=
 c b 0 a.kind a.name a.sort a.kids 0 [] 0 []
def EY(m:Nat)(o:qb8)(b:aa (T×T))(a f:Int)(e:Y8)(d:Int)(c:TL)(j:Int)(i:Y8)(h:Int)(g:TL):Z14:=
 cond (ilt a (J b)) (ab (ap b a) λ n=>ab (jz m (re n.1) (T.mk f e d c)) λ l=>cond l (ab (ap b a) λ k=>Z (re k.2))
 (o b (iw .i64 (av a 1)) f e d c j i h g)) (Z (T.mk f e d c))
def uE(m:Nat):=aY (EY m)
def Gz:Nat->Z85:=aW λ m _=>E8 m (uE m m)
def Kc(m:Nat)(a:Y8):Z17:=
 cond (bc a [120,111,114]) (Z O) (cond (bc a [122,101,114,111]) (Z O) (cond (bc a [101,120,112]) (Z O) (cond (bc a [109,117,108]) (Z O) (cond (bc a [105,110,118])
 (Z O) (Z (bc a [111,110,101]))))))
def DF:=aX Kc
def Es(m:Nat)(d:sD)(a:T):Z17:=
 ab (zG m (re a)) λ c=>cond (am (ieq c 0)) (Z Y) (ab (km m (re a)) λ b=>d b 0)
def EN(m:Nat)(c:sD)(b:TL)(a:Int):Z17:=
 cond (ilt a (J b)) (ab (ap b a) λ h=>cond (ieq h.kind 3) (ab (ap b a) λ g=>ab (DF m g.name) λ f=>cond f (Z Y) (ab (ap b a) λ e=>
 ab (uI m e.name) λ d=>cond (ieq d 3) (Z Y) (c b (iw .i64 (av a 1))))) (c b (iw .i64 (av a 1)))) (Z O)
def um(m:Nat):=aY (EN m)
def Gi:Nat->Z25:=aW λ m _=>Es m (um m m)
def Eo(m:Nat)(e:sD)(a:T):Z17:=
 ab (Gi m (re a)) λ d=>cond (am d) (Z Y) (ab (jB m (re a)) λ c=>cond (ilt 60 c) (Z Y) (ab (oL m (re a)) λ b=>e b 0))
def EC(m:Nat)(d:sD)(b:TL)(a:Int):Z17:=
 cond (ilt a (J b)) (ab (ap b a) λ c=>cond (ieq c.sort 5) (Z Y) (d b (iw .i64 (av a 1)))) (Z O)
def ug(m:Nat):=aY (EC m)
def uH:Nat->Z25:=aW λ m _=>Eo m (ug m m)
def DC(m:Nat)(d:qbs)(c:T)(b:TL):Z17:=
 ab (oL m (re c)) λ a=>d b a 0
def DD(m:Nat)(f:qbs)(c b:TL)(a:Int):Z17:=
 cond (ilt a (J b)) (ab (ap b a) λ e=>ab (ru m c (re e)) λ d=>cond (am d) (Z Y) (f c b (iw .i64 (av a 1)))) (Z O)
def tQ(m:Nat):=aY (DD m)
def Fa:Nat->(T->TL->Z17):=aW λ m _=>DC m (tQ m m)
def FE(m:Nat)(h o:PI)(a:Int×(T×(T×(Int×TL))))(b:TL):yE:=
 let g:yE:=(ab (uH m (re a.2.1)) λ n=>cond (am n) (Z ((()),([],10,()))) (ab (uH m (re a.2.2.1)) λ l=>cond (am l) (Z ((()),([],10,())))
 (cond (am (ieq a.2.1.kind 1)) (Z ((()),([],13,()))) (ab (ru m b (re a.2.1)) λ k=>cond (am k) (Z ((()),([],13,()))) (cond (br (J ([]:TL)+J b) 56)
 (iK b (ab (oL m (re a.2.2.1)) λ c=>cond (br (J ([]:TL)+J c) 56) (iK c (Z ((()),([],0,()))) λ j i=>
 Z ((()),([]++(j::i),0,()))) U) λ f e=>ab (oL m (re a.2.2.1)) λ d=>cond (br (J ([]++(f::e))+J d) 56)
 (Z ((()),(([]++(f::e))++d,0,()))) U) U)))));cond (ieq a.1 2) (cond (ieq a.1 1) g (h [re a.2.1] 0 b)) (cond (ieq a.1 1) g (h a.2.2.2.2 0 b))
def EX(m:Nat)(g f:PI)(a:TL)(b:Int)(c:TL):yE:=
 cond (ilt b (J a)) (ab (ap a b) λ e=>ab (uH m (re e)) λ d=>cond (am d) (Z ((()),([],10,()))) (g a (iw .i64 (av b 1)) c)) (f a 0 c)
def Ff(m:Nat)(g f:PI)(c:TL)(b:Int)(a:TL):yE:=
 cond (ilt b (J c)) (ab (ap c b) λ e=>ab (Fa m (re e) a) λ d=>cond (am d) (Z ((()),([],13,()))) (f c (iw .i64 (av b 1)) a)) (Z ((()),(a,0,())))
def iW(m:Nat):=aY λ a=>(EX m a.1 a.2,Ff m a.1 a.2)
def GL:Nat->((Int×(T×(T×(Int×TL))))->Z3->yE):=aW λ m _=>FE m (iW m m).1 (iW m m).2
def Eb(m:Nat)(c:PG)(h:PS)(a:Int×(TL×(TL×(aa (T×(aa (Int×(T×(T×(Int×TL))))))))))(b:Int):Z50:=
 cond (br (J ([]:TL)+J a.2.1) 56) (iK a.2.1 (cond (br (J ([]:TL)+J a.2.2.1) 56)
 (iK a.2.2.1 (c b 0 a.1 a.2.1 a.2.2.1 a.2.2.2 []) λ g f=>c b 0 a.1 a.2.1 a.2.2.1 a.2.2.2 ([]++(g::f))) U) λ e d=>cond (br (J ([]++(e::d))+J a.2.2.1) 56)
 (c b 0 a.1 a.2.1 a.2.2.1 a.2.2.2 (([]++(e::d))++a.2.2.1)) U) U
def DY(m:Nat)(o:PG)(i:PS)(d a g:Int)(f e:TL)(c:aa (T×(aa (Int×(T×(T×(Int×TL)))))))(b:TL):Z50:=
 cond (ilt a d) (cond (ilt 0 a) (ab (ap c a) λ n=>ab (uH m (re n.1)) λ l=>cond (am l) (Z ([],10)) (ab (ap c a) λ k=>ab (oL m (re k.1)) λ h=>
 cond (br (J b+J h) 56) (i d a 0 g f e c (b++h)) U)) (i d a 0 g f e c b)) (ab (Ak m b) λ j=>Z (j,0))
def Ef(m:Nat)(o:PG)(n:PS)(j b d i:Int)(h g:TL)(a:aa (T×(aa (Int×(T×(T×(Int×TL)))))))(f:TL):Z50:=
 ab (ap a b) λ l=>cond (ilt d (J l.2)) (ab (ap a b) λ k=>ab (ap k.2 d) λ c=>ab (GL m (c.1,(re c.2.1,(re c.2.2.1,c.2.2.2))) f) λ e=>
 cond (am (ieq e.2.2.1 0)) (Z ([],e.2.2.1)) (n j b (iw .i64 (av d 1)) i h g a e.2.1)) (o j (iw .i64 (av b 1)) i h g a f)
def gW(m:Nat):=aY λ a=>(DY m a.1 a.2,Ef m a.1 a.2)
def wW:Nat->Z54:=aW λ m _=>Eb m (gW m m).1 (gW m m).2
def CC(m:Nat)(b:sD)(a:TL):Z17:=
 b a 0
def CA(m:Nat)(h:sD)(b:TL)(a:Int):Z17:=
 cond (ilt a (J b)) (ab (ap b a) λ g=>cond (am (ieq g.kind 1)) (Z Y) (ab (ap b a) λ f=>ab (iA m (re f)) λ e=>cond (am (ieq e 0)) (Z Y)
 (cond (inb a (J b)) (cond (inb 0 (Int.toNat a)) (ab (ap b a) λ d=>ab (ru m (gA b 0 a) (re d)) λ c=>cond c (Z Y) (h b (iw .i64 (av a 1)))) U) U))) (Z O)
def tz(m:Nat):=aY (CA m)
def tV:Nat->(TL->Z17):=aW λ m _=>CC m (tz m m)
def Ct(m:Nat)(j k:yv)(a:Int×(TL×(TL×(aa (T×(aa (Int×(T×(T×(Int×TL)))))))))):Z17:=
 cond (br (J ([]:TL)+J a.2.1) 56) (let b:Z17:=(j 0 a.1 a.2.1 a.2.2.1 a.2.2.2);iK a.2.1 (cond (br (J ([]:TL)+J a.2.2.1) 56)
 (iK a.2.2.1 (ab (tV m []) λ e=>cond (am e) (Z Y) b) λ h g=>ab (tV m ([]++(h::g))) λ f=>cond (am f) (Z Y) b) U) λ d c=>
 cond (br (J ([]++(d::c))+J a.2.2.1) 56) (ab (tV m (([]++(d::c))++a.2.2.1)) λ i=>cond (am i) (Z Y) b) U) U
def Cx(m:Nat)(h g:yv)(b e:Int)(a d:TL)(c:aa (T×(aa (Int×(T×(T×(Int×TL))))))):Z17:=
 cond (ilt b (J a)) (ab (ap a b) λ f=>cond (am (ieq f.sort 1)) (Z Y) (h (iw .i64 (av b 1)) e a d c)) (g 0 e a d c)
def Cs(m:Nat)(i h:yv)(b e:Int)(d a:TL)(c:aa (T×(aa (Int×(T×(T×(Int×TL))))))):Z17:=
 cond (ilt b (J a)) (ab (ap a b) λ g=>cond (ieq g.sort 1) (Z Y) (ab (ap a b) λ f=>cond (ieq f.sort 5) (Z Y) (h (iw .i64 (av b 1)) e d a c))) (Z O)
def jx(m:Nat):=aY λ a=>(Cx m a.1 a.2,Cs m a.1 a.2)
def Dq:Nat->Z58:=aW λ m _=>Ct m (jx m m).1 (jx m m).2
def Lf(m:Nat)(a:T):Z17:=
 cond (ieq a.kind 0) (cond (bc a.name []) (cond (ieq a.sort 0) (Z (ieq (J a.kids) 0)) (Z Y)) (Z Y)) (Z Y)
def pM:=aX Lf
def K0(m:Nat)(a:Int×(T×(T×(Int×TL)))):Z17:=
 let c:Z17:=(cond (ieq a.2.2.2.1 0) (Z (ieq (J a.2.2.2.2) 0)) (Z Y));cond (ieq a.1 1) c (cond (ieq a.1 2) (ab (pM m (re a.2.2.1)) λ f=>cond f c (Z Y)) (let b:Z17:=
 (ab (pM m (re a.2.1)) λ e=>cond e (ab (pM m (re a.2.2.1)) λ d=>cond d (Z (ile 0 a.2.2.2.1)) (Z Y)) (Z Y));cond (ieq a.1 3) b (cond (ieq a.1 4) b (Z Y))))
def FO:=aX K0
def DH(m:Nat)(d:yv)(e:Qi)(a:Int×(TL×(TL×(aa (T×(aa (Int×(T×(T×(Int×TL)))))))))):Z17:=
 cond (ieq (J a.2.2.2) 0) (Z Y) (cond (ilt 12 (J a.2.2.2)) (Z Y) (ab (ap a.2.2.2 0) λ c=>ab (pM m (re c.1)) λ b=>cond (am b) (Z Y)
 (d 0 a.1 a.2.1 a.2.2.1 a.2.2.2)))
def Dn(m:Nat)(h:yv)(g:Qi)(b e:Int)(d c:TL)(a:aa (T×(aa (Int×(T×(T×(Int×TL))))))):Z17:=
 cond (ilt b (J a)) (ab (ap a b) λ f=>cond (ilt 20 (J f.2)) (Z Y) (g b 0 e d c a)) (Z O)
def Do(m:Nat)(l:yv)(k:Qi)(b d g:Int)(f e:TL)(a:aa (T×(aa (Int×(T×(T×(Int×TL))))))):Z17:=
 ab (ap a b) λ j=>cond (ilt d (J j.2)) (ab (ap a b) λ i=>ab (ap i.2 d) λ c=>ab (FO m (c.1,(re c.2.1,(re c.2.2.1,c.2.2.2)))) λ h=>
 cond (am h) (Z Y) (k b (iw .i64 (av d 1)) g f e a)) (l (iw .i64 (av b 1)) g f e a)
def jY(m:Nat):=aY λ a=>(Dn m a.1 a.2,Do m a.1 a.2)
def Fh:Nat->Z58:=aW λ m _=>DH m (jY m m).1 (jY m m).2
def KP(m:Nat)(a:Int×(TL×(TL×(aa (T×(aa (Int×(T×(T×(Int×TL)))))))))):Z8:=
 cond (ilt a.1 0) (Z 7) (cond (ile 4 a.1) (Z 7) (cond (ilt (J a.2.1) 2) (Z 7) (cond (ilt 4 (J a.2.1)) (Z 7) (cond (ile (J a.2.1) a.1) (Z 7)
 (ab (Dq m a) λ d=>cond (am d) (Z 1) (ab (Fh m a) λ c=>cond (am c) (Z 1)
 (ab (wW m a (J a.2.2.2)) λ b=>Z b.2)))))))
def FT:=aX KP
def EG(m:Nat)(c:O1)(d:Qb)(b:Int×(TL×(TL×(aa (T×(aa (Int×(T×(T×(Int×TL))))))))))(a:Int×(aa Y8)):Z17:=
 cond (am (ieq a.1 b.1)) (Z Y) (cond (am (ieq (J a.2) (J b.2.1))) (Z Y) (c 0 a.1 a.2))
def Ey(m:Nat)(g:O1)(f:Qb)(b c:Int)(a:aa (Y8)):Z17:=
 cond (ilt b (J a)) (ab (ap a b) λ e=>ab (uq m e) λ d=>cond (am d) (Z Y) (f b 0 c a)) (Z O)
def EO(m:Nat)(h:O1)(g:Qb)(b c d:Int)(a:aa (Y8)):Z17:=
 cond (ilt c b) (ab (ap a c) λ f=>ab (ap a b) λ e=>cond (bc f e) (Z Y) (g b (iw .i64 (av c 1)) d a)) (h (iw .i64 (av b 1)) d a)
def ke(m:Nat):=aY λ a=>(Ey m a.1 a.2,EO m a.1 a.2)
def F8:Nat->Z63:=aW λ m _=>EG m (ke m m).1 (ke m m).2
def EA(m:Nat)(e:qbK)(c:aa (T×T))(b a:T):Z72:=
 ab (jz m (re b) (re a)) λ d=>cond d (Z c) (e c Y 0 b.kind b.name b.sort b.kids a.kind a.name a.sort a.kids [])
def wP(m:Nat)(q:qbK)(h:aa (T×T))(l:Bool)(g f:Int)(e:Y8)(d:Int)(c:TL)(k:Int)(j:Y8)(i:Int)(b:TL)(a:aa (T×T)):Z72:=
 cond (ilt g (J h)) (let p:Z72:=(ab (ap h g) λ n=>cond (br (J a+1) 112) (q h l (iw .i64 (av g 1)) f e d c k j i b (a++[(re n.1,re n.2)])) U);cond (am l)
 (ab (ap h g) λ s=>ab (iV m (T.mk f e d c) (re s.1)) λ r=>cond (ilt r 0) (cond (br (J a+1) 112) (ab (ap h g) λ o=>
 cond (br (J (a++[(T.mk f e d c,T.mk k j i b)])+1) 112)
 (q h O (iw .i64 (av g 1)) f e d c k j i b ((a++[(T.mk f e d c,T.mk k j i b)])++[(re o.1,re o.2)])) U) U) p) p) (cond (am l) (cond (br (J a+1) 112)
 (Z (a++[(T.mk f e d c,T.mk k j i b)])) U) (Z a))
def rj(m:Nat):=aY (wP m)
def zN:Nat->(Z67->T->T->Z72):=aW λ m _=>EA m (rj m m)
def qhk(m:Nat)(a:Z65)(b:Int):Z64:=
 cond (ilt b 10) (cond (inb (iw .i64 (av b 1)) (J [48,49,50,51,52,53,54,55,56,57])) (cond (inb b (Int.toNat (iw .i64 (av b 1))))
 (Z (gA [48,49,50,51,52,53,54,55,56,57] b (iw .i64 (av b 1)))) U) U) (ab (a (iw .i64 (IZ b 10))) λ d=>ab (a (Je b 10)) λ c=>cond (ln d c)
 (Z (d++c)) U)
def Fx:Nat->Z65:=aW λ m a=>qhk m a
def KV(m:Nat)(b:Int×(TL×(TL×(aa (T×(aa (Int×(T×(T×(Int×TL))))))))))(a:Int):Z8:=
 cond (ieq a 0) (Z b.1) (cond (ile a b.1) (Z (iw .i64 (cX a 1))) (Z a))
def FG:=aX KV
def Da(m:Nat)(d:P2)(e:Po)(a:Int×(TL×(TL×(aa (T×(aa (Int×(T×(T×(Int×TL))))))))))(b:Int×(aa Y8))(c:Int):Z73:=
 d c [] 0 a.1 a.2.1 a.2.2.1 a.2.2.2 b.1 b.2
def C5(m:Nat)(q:P2)(p:Po)(h:Int)(g:aa (T×T))(b e:Int)(a d:TL)(c:aa (T×(aa (Int×(T×(T×(Int×TL)))))))(i:Int)(f:aa (Y8)):Z73:=
 cond (ilt b (J a)) (ab (ap a b) λ o=>ab (FG m (e,(a,(d,c))) b) λ n=>ab (ap f n) λ l=>ab (pP m l 1) λ k=>ab (zN m g (re o)
 (re k)) λ j=>q h j (iw .i64 (av b 1)) e a d c i f) (p h g 0 e a d c)
def Dg(m:Nat)(p:P2)(o:Po)(f:Int)(e:aa (T×T))(b i:Int)(h a:TL)(g:aa (T×(aa (Int×(T×(T×(Int×TL))))))):Z73:=
 cond (ilt b (J a)) (ab (ap a b) λ c=>cond (ln c.name [35]) (ab (Fx m f) λ d=>cond (ln (c.name++[35]) d) (cond (ilt 24 (J ((c.name++[35])++d)))
 (Z ([],3)) (ab (ap a b) λ n=>ab (ap a b) λ l=>ab (pP m ((c.name++[35])++d) l.sort) λ k=>ab (zN m e (re n) (re k)) λ j=>
 o f j (iw .i64 (av b 1)) i h a g)) U) U) (Z (e,0))
def jW(m:Nat):=aY λ a=>(C5 m a.1 a.2,Dg m a.1 a.2)
def zm:Nat->Z76:=aW λ m _=>Da m (jW m m).1 (jW m m).2
def Lj(m:Nat)(a:T)(b:Int):Z17:=
 cond (ieq a.kind 1) (Z (ieq a.sort b)) (cond (ieq a.kind 2) (Z (ieq a.sort b)) (Z Y))
def LZ:=aX Lj
def Ln(m:Nat)(a b:T):Z17:=
 ab (iA m (re a)) λ e=>cond (am (ieq e 0)) (Z Y) (cond (am (ieq a.kind 1)) (Z Y) (ab (iA m (re b)) λ d=>cond (am (ieq d 0)) (Z Y) (cond (ieq a.sort 0)
 (Z O) (ab (LZ m (re b) a.sort) λ c=>Z c))))
def F0:=aX Ln
def Ku(m:Nat)(a:T×T):Z8:=
 ab (iA m (re a.1)) λ c=>cond (am (ieq c 0)) (Z c) (cond (am (ieq a.1.kind 1)) (Z 1) (ab (jz m (re a.1) (re a.2)) λ e=>cond e (Z 1)
 (ab (iA m (re a.2)) λ b=>cond (am (ieq b 0)) (Z b) (ab (F0 m (re a.1) (re a.2)) λ d=>cond (am d) (Z 10) (Z 0)))))
def EJ:=aX Ku
def DX(m:Nat)(b:qbS)(a:aa (T×T)):Z8:=
 cond (ilt 200 (J a)) (Z 3) (b a 0)
def Eh(m:Nat)(e:qbS)(b:aa (T×T))(a:Int):Z8:=
 cond (ilt a (J b)) (ab (ap b a) λ d=>ab (EJ m (re d.1,re d.2)) λ c=>cond (am (ieq c 0)) (Z c) (cond (ilt 0 a) (ab (ap b (iw .i64 (cX a 1))) λ h=>
 ab (ap b a) λ g=>ab (iV m (re h.1) (re g.1)) λ f=>cond (ile 0 f) (Z 5) (e b (iw .i64 (av a 1)))) (e b (iw .i64 (av a 1))))) (Z 0)
def ub(m:Nat):=aY (Eh m)
def zD:Nat->qbc:=aW λ m _=>DX m (ub m m)
def wO(m:Nat)(h:Pd)(i:Pb)(b:Int×(TL×(TL×(aa (T×(aa (Int×(T×(T×(Int×TL))))))))))(a:(Int×(aa Y8))×(Int×(Int×(Int×(Int×(aa (T×T))))))):Z8:=
 ab (FT m b) λ e=>cond (am (ieq e 0)) (Z e) (ab (F8 m b a.1) λ g=>cond (am g) (Z 1)
 (cond (ilt a.2.1 0) (Z 1) (cond (ilt 99 a.2.1) (Z 1) (cond (ilt a.2.2.2.2.1 0) (Z 1) (cond (ilt a.2.2.1 1) (Z 1) (cond (ilt (J b.2.2.2) a.2.2.1) (Z 1) (cond (ilt a.2.2.2.1 1) (Z 1)
 (cond (ilt 3 a.2.2.2.1) (Z 1) (cond (am (cQ (ieq a.2.2.1 (J b.2.2.2)) (ieq a.2.2.2.1 2))) (Z 1) (ab (zm m b a.1 a.2.1) λ d=>
 ab (wW m b a.2.2.1) λ c=>cond (am (ieq d.2 0)) (Z 1) (ab (zD m a.2.2.2.2.2) λ f=>cond (am (ieq f 0)) (Z 1)
 (cond (am (ieq (J a.2.2.2.2.2) (J c.1))) (Z 1) (h d.1 c.1 0 a.1.1 a.1.2 a.2.1 a.2.2.1 a.2.2.2.1 a.2.2.2.2.1 a.2.2.2.2.2)))))))))))))
def D6(m:Nat)(r:Pd)(q:Pb)(k:aa (T×T))(c:TL)(a j:Int)(i:aa (Y8))(h g f e:Int)(b:aa (T×T)):Z8:=
 cond (ilt a (J c)) (ab (ap b a) λ d=>ab (ap c a) λ p=>ab (jz m (re d.1) (re p)) λ o=>cond (am o) (Z 1) (ab (Fc m (re d.2)) λ n=>cond (am n)
 (Z 1) (ab (FJ m (re d.2)) λ l=>cond (am l) (Z 1) (r k c (iw .i64 (av a 1)) j i h g f e b)))) (q k 0 j i h g f e b)
def DO(m:Nat)(p:Pd)(o:Pb)(b:aa (T×T))(a i:Int)(h:aa (Y8))(g f e d:Int)(c:aa (T×T)):Z8:=
 cond (ilt a (J b)) (ab (ap b a) λ n=>ab (Gz m c (re n.1)) λ l=>ab (ap b a) λ k=>ab (jz m (re l) (re k.2)) λ j=>cond (am j) (Z 1)
 (o b (iw .i64 (av a 1)) i h g f e d c)) (Z 0)
def iU(m:Nat):=aY λ a=>(D6 m a.1 a.2,DO m a.1 a.2)
def rk:Nat->qcA:=aW λ m _=>wO m (iU m m).1 (iU m m).2
def Lb(m:Nat)(c:Int×(TL×(TL×(aa (T×(aa (Int×(T×(T×(Int×TL))))))))))(a:(Int×(aa Y8))×(Int×(Int×(Int×(Int×(aa (T×T))))))):Z17:=
 ab (rk m c a) λ b=>cond (ieq b 0) (Z (ieq a.2.2.2.1 2)) (Z Y)
def wZ:=aX Lb
def J4(m:Nat)(b:Int×(TL×(TL×(aa (T×(aa (Int×(T×(T×(Int×TL))))))))))(a:(Int×(aa Y8))×(Int×(Int×(Int×(Int×(aa (T×T))))))):Z17:=
 ab (zH m) λ r=>let j1:Z17:=(ab (zH m) λ q=>Z q);cond (am r) j1 (ab (Gr m b) λ p=>
 cond (am p) j1 (ab (DQ m a) λ o=>cond (am o) j1 (ab (ra m b
 a) λ c=>ab (rk m b
 a) λ n=>let j2:Z17:=(ab (rk m b
 a) λ l=>cond (ieq c l) (ab (rf m b
 a) λ k=>ab (wZ m b
 a) λ j=>Z (cQ k j)) (Z Y));
 cond (am (ieq c n)) j2 (ab (rf m b a) λ i=>
 ab (wZ m b a) λ h=>
 cond (am (cQ i h)) j2 (cond (ieq c 0) j2 (ab (pP m [97] 1) λ g=>ab (zj m b
 a (re g)) λ f=>ab (EM m b
 a) λ e=>ab (KJ m b
 a) λ d=>cond (ieq f.2.2 c) (cond (ieq e.2 c) (Z (ieq d.2 c)) (Z Y)) (Z Y)))))))
def law25_MachineCheck:=aX J4
end
end
section
def Ev{α:Type}(F:Nat->Nat->ac α)(r:α):Prop:=∃B,∀m k,B<=m->B<=k->F m k=Z r
section
variable {α β:Type}{F G:Nat->Nat->ac α}{r:α}
def Ev.pure(r:α):Ev (λ _ _=>Z r) r:=⟨0,λ _ _ _ _=>rfl⟩
def Ev.ret{r a:α}(h:r=a):Ev (λ _ _=>Z r) a:=by subst h;exact .pure r
def Ev.bind{W:Nat->Nat->ac β}{K:Nat->Nat->β->ac α}{a:β}(h:Ev W a)(g:Ev (λ m k=>K m k a) r):Ev (λ m k=>ab (W m k) (K m k)) r:=by
 let⟨B,h⟩:=h;let⟨C,g⟩:=g;refine⟨max B C,λ m k b c=>?_⟩;simp only[h m k (by omega) (by omega),ab];exact g m k (by omega) (by omega)
def Ev.congr(h:Ev F r)(e:∀m k,G m k=F m k):Ev G r:=by
 let⟨B,h⟩:=h;exact⟨B,λ m k a b=>(e m k).trans (h m k a b)⟩
def Ev.res{a:α}(h:Ev F r)(e:r=a):Ev F a:=by subst e;exact h
def Ev.succ{f:Nat->ac α}(h:Ev (λ m _=>f (m+1)) r):Ev (λ m _=>f m) r:=by
 let⟨B,h⟩:=h;refine⟨B+1,λ m k a b=>?_⟩;obtain⟨m,rfl⟩:∃n,m=n+1:=⟨m-1,by omega⟩
 exact h m B (by omega) (au _)
def Ev.loop{L:Nat->Nat->ac α}(h:Ev (λ m k=>L m (k+1)) r):Ev (λ m k=>L m k) r:=by
 let⟨B,h⟩:=h;refine⟨B+1,λ m k a b=>?_⟩;obtain⟨k,rfl⟩:∃n,k=n+1:=⟨k-1,by omega⟩
 exact h m k (by omega) (by omega)
theorem Ev.diag{L:Nat->Nat->ac α}(h:Ev L r):Ev (λ m _=>L m m) r:=by
 let⟨B,h⟩:=h;exact⟨B,λ m k a _=>h m m a a⟩
def Ev.ct{b:Bool}(a:b=O)(h:Ev F r):Ev (λ m k=>cond b (F m k) (G m k)) r:=by subst a;exact h
def Ev.cf{b:Bool}(a:b=Y)(h:Ev G r):Ev (λ m k=>cond b (F m k) (G m k)) r:=by subst a;exact h
def Ev.ite{b:Bool}(h:b=O->Ev F r)(g:b=Y->Ev G r):Ev (λ m k=>cond b (F m k) (G m k)) r:=by
 cases b with
 |true=>exact h rfl
 |false=>exact g rfl
def Ev.some{x:ac β}{K:Nat->Nat->β->ac α}{a:β}(b:x=Z a)(g:Ev (λ m k=>K m k a) r):Ev (λ m k=>ab x (K m k)) r:=by subst b;exact g
def Ev.case{l:aa β}{K:Nat->Nat->β->aa β->ac α}(h:l=[]->Ev F r)(g:∀x t,l=x::t->Ev (λ m k=>K m k x t) r):Ev (λ m k=>iK l (F m k) (K m k)) r:=by
 cases l with
 |nil=>exact h rfl
 |cons x t=>exact g x t rfl
theorem Ev.get{x:ac α}(h:Ev (λ _ _=>x) r):x=Option.some r:=by
 let⟨B,h⟩:=h;exact h B B (au _) (au _)
end
theorem aS{a b:Int}:ilt a b=O↔a<b:=by unfold ilt;exact df
def aT{a b:Int}:ilt a b=Y↔b<=a:=by unfold ilt;rw[pF];omega
def fU{a b:Int}:ile a b=O↔a<=b:=by unfold ile;exact df
def jI{a b:Int}:ile a b=Y↔b<a:=by unfold ile;rw[pF];omega
theorem aB{a b:Int}:ieq a b=O↔a=b:=by unfold ieq;exact wn
theorem ay{a b:Int}:ieq a b=Y↔a≠b:=by unfold ieq;exact gH
def bnt{b:Bool}:am b=O↔b=Y:=by cases b<;>simp[am]
def bnf{b:Bool}:am b=Y↔b=O:=by cases b<;>simp[am]
def cr{a b:aa aN}:bc a b=O↔a=b:=by unfold bc;exact wn
def cC{a b:aa aN}:bc a b=Y↔a≠b:=by unfold bc;exact gH
theorem dC{n:Int}(h:-9223372036854775808<=n/\n<=9223372036854775807:=by omega):iw .i64 n=n:=IntWalk.i64_in n h
def Aq(a b:Nat):av (a:Int) (b:Int)=((a+b:Nat):Int):=by unfold av;omega
def bD{n b:Nat}(h:n*b<=2^47:=by omega)(a:0<b:=by omega):br n b=O:=by
 unfold br;rw[df];refine⟨h,?_⟩;have:n*1<=n*b:=qc7 _ a;omega
theorem dz{α:Type}(l:aa α)(i:Nat):ap l (i:Int)=l[i]?:=by
 unfold ap;rw[ifP,lG]
theorem lV{α:Type}(l:aa α):ap l 0=l[0]?:=dz l 0
def aV{α:Type}{P:Nat->Prop}(l:aa α)(g:J l<2^62)(e:ilt (J l:Int) (J l:Int)=Y->P (J l))
  (b:∀(i:Nat) (x:α),l[i]?=Z x->l.drop i=x::l.drop (i+1)->ilt (i:Int) (J l:Int)=O->ap l (i:Int)=Z x->iw .i64 (av (i:Int) 1)=((i+1:Nat):Int)->P (i+1)->P i):∀i,i<=J l->P i:=by
 intro i h;obtain⟨d,j⟩:∃d,J l=i+d:=⟨J l-i,by omega⟩
 induction d generalizing i with
 |zero=>
   have:i=J l:=by omega
   subst this;exact e (aT.2 (Js _))
 |succ d f=>
   have c:i<J l:=by omega
   have a:=aU c;refine b i _ a (JD c) (aS.2 (by omega)) (by rw[dz,a]) ?_ (f (i+1) (by omega) (by omega));rw[show av (i:Int) 1=((i+1:Nat):Int) by unfold av;omega,dC]
abbrev ag:=@Ev.bind
abbrev ah:=@Ev.ct
abbrev ai:=@Ev.cf
abbrev ak:=@Ev.ite
abbrev al:=@Ev.ret
abbrev ao:=@Ev.some
abbrev aq:=@Ev.pure
abbrev aw:=@Ev.loop
abbrev aF:=@Ev.succ
abbrev bd:=@Ev.diag
abbrev oJ:=@Ev.case
abbrev Rg:=@Ev.congr
end
def qd0(m):qO (m+1)=B8 m (jU m m).1 (jU m m).2:=rfl
def Rn(m k):(jU m (k+1)).1=B6 m (jU m k).1 (jU m k).2:=rfl
def Rk(m k):(jU m (k+1)).2=B7 m (jU m k).1 (jU m k).2:=rfl
def qeE(m):Cm (m+1)=JZ m:=rfl
def qe4(m):lJ (m+1)=Cn m (lJ m) (tq m (lJ m) m):=rfl
def RF(m k):(tq m (lJ m) (k+1))=Ck m (lJ m) (tq m (lJ m) k):=rfl
def qmh(m):uM (m+1)=Lw m:=rfl
def qmA(m):ko (m+1)=Fp m (ko m) (uD m (ko m) m):=rfl
def T6(m k):(uD m (ko m) (k+1))=Fl m (ko m) (uD m (ko m) k):=rfl
def qjG(m):cZ (m+1)=Dk m (cZ m) (pG m (cZ m) m):=rfl
def KI(m k):(pG m (cZ m) (k+1))=zh m (cZ m) (pG m (cZ m) k):=rfl
def qdT(m):tk (m+1)=pd (cZ m):=rfl
def qlb(m):jA (m+1)=ED m (jA m) (uj m (jA m) m):=rfl
def Tn(m k):(uj m (jA m) (k+1))=EI m (jA m) (uj m (jA m) k):=rfl
def qg0(m):nM (m+1)=Kk m:=rfl
def qdC(m):wA (m+1)=A7 (nM m):=rfl
def qiJ(m):Lv (m+1)=DI m (tP m m):=rfl
def SU(m k):(tP m (k+1))=DK m (tP m k):=rfl
def qjT(m):LA (m+1)=KS m:=rfl
def qml(m):pR (m+1)=Lx m:=rfl
def qjz(m):wS (m+1)=KE m:=rfl
def qeW(m):Cz (m+1)=J7 m:=rfl
def qdK(m):JR (m+1)=BZ m (th m m):=rfl
def JL(m k):(th m (k+1))=yS m (th m k):=rfl
def qdu(m):JM (m+1)=JH m:=rfl
def qkO(m):uB (m+1)=KU m:=rfl
def qdQ(m):JS (m+1)=B1 m (ti m m):=rfl
def JO(m k):(ti m (k+1))=yT m (ti m k):=rfl
def qdA(m):B2 (m+1)=JJ m:=rfl
def qhH(m):wR (m+1)=C8 m (tH m m):=rfl
def Sb(m k):(tH m (k+1))=C0 m (tH m k):=rfl
def qid(m):EE (m+1)=Ks m:=rfl
def qeJ(m):kV (m+1)=Cc m (kV m) (qR m (kV m) m):=rfl
def Rr(m k):(qR m (kV m) (k+1))=Cb m (kV m) (qR m (kV m) k):=rfl
def qmH(m):Aj (m+1)=Lp m:=rfl
def qky(m):wV (m+1)=D9 m (pI m m):=rfl
def S7(m k):(pI m (k+1))=DN m (pI m k):=rfl
def qlt(m):iD (m+1)=Ew m (iD m) (mN m (iD m) m):=rfl
def Ts(m k):(mN m (iD m) (k+1))=EL m (iD m) (mN m (iD m) k):=rfl
def qlI(m):fI (m+1)=Ll m:=rfl
def qjl(m):fH (m+1)=Dj m (fH m) (iT m (fH m) m).1 (iT m (fH m) m).2:=rfl
def SN(m k):(iT m (fH m) (k+1)).1=DG m (fH m) (iT m (fH m) k).1 (iT m (fH m) k).2:=rfl
def SR(m k):(iT m (fH m) (k+1)).2=Dl m (fH m) (iT m (fH m) k).1 (iT m (fH m) k).2:=rfl
def qi8(m):zA (m+1)=KG m:=rfl
def qjP(m):FP (m+1)=K8 m:=rfl
def qgz(m):tU (m+1)=Kn m:=rfl
def qeY(m):zd (m+1)=Ci m (tp m m):=rfl
def RD(m k):(tp m (k+1))=Ch m (tp m k):=rfl
def qel(m):Cj (m+1)=JY m:=rfl
def qdP(m):JT (m+1)=B0 m (tj m m):=rfl
def JN(m k):(tj m (k+1))=yV m (tj m k):=rfl
def qdz(m):yU (m+1)=JI m:=rfl
def J3(m):Cp (m+1)=wG m (cE m m).1 (cE m m).2.1 (cE m m).2.2:=rfl
def qP(m k):(cE m (k+1)).1=oK m (cE m k).1 (cE m k).2.1 (cE m k).2.2:=rfl
def Rz(m k):(cE m (k+1)).2.1=Cd m (cE m k).1 (cE m k).2.1 (cE m k).2.2:=rfl
def Rt(m k):(cE m (k+1)).2.2=Ce m (cE m k).1 (cE m k).2.1 (cE m k).2.2:=rfl
def qho(m):ue (m+1)=CZ m (tD m m):=rfl
def Sq(m k):(tD m (k+1))=CY m (tD m k):=rfl
def qhD(m):lK (m+1)=Ko m:=rfl
def qgs(m):DZ (m+1)=CT m (dW m m).1 (dW m m).2.1 (dW m m).2.2:=rfl
def R8(m k):(dW m (k+1)).1=CD m (dW m k).1 (dW m k).2.1 (dW m k).2.2:=rfl
def R9(m k):(dW m (k+1)).2.1=CL m (dW m k).1 (dW m k).2.1 (dW m k).2.2:=rfl
def RR(m k):(dW m (k+1)).2.2=CI m (dW m k).1 (dW m k).2.1 (dW m k).2.2:=rfl
def qhw(m):zq (m+1)=Kq m:=rfl
def qgL(m):Eg (m+1)=Kj m:=rfl
def qea(m):JW (m+1)=B9 m (tl m m):=rfl
def JV(m k):(tl m (k+1))=yY m (tl m k):=rfl
def qd3(m):Ca (m+1)=JU m:=rfl
def qf2(m):zg (m+1)=Cy m (tv m m):=rfl
def RK(m k):(tv m (k+1))=Cu m (tv m k):=rfl
def qeF(m):wH (m+1)=J1 m:=rfl
def qdS(m):B5 (m+1)=B3 m (kT m m).1 (kT m m).2:=rfl
def JQ(m k):(kT m (k+1)).1=yW m (kT m k).1 (kT m k).2:=rfl
def JP(m k):(kT m (k+1)).2=yX m (kT m k).1 (kT m k).2:=rfl
def qep(m):lI (m+1)=JX m:=rfl
def qdn(m):wy (m+1)=pd (lI m):=rfl
def qeI(m):zc (m+1)=J2 m:=rfl
def qhf(m):uc (m+1)=C3 m (jV m m).1 (jV m m).2:=rfl
def Sj(m k):(jV m (k+1)).1=Di m (jV m k).1 (jV m k).2:=rfl
def Sy(m k):(jV m (k+1)).2=C1 m (jV m k).1 (jV m k).2:=rfl
def qez(m):zb (m+1)=J0 m:=rfl
def qdh(m):BS (m+1)=BR m (tf m m):=rfl
def BQ(m k):(tf m (k+1))=wx m (tf m k):=rfl
def qeX(m):wI (m+1)=J5 m:=rfl
def qlh(m):zM (m+1)=K9 m:=rfl
def qjU(m):pJ (m+1)=KO m:=rfl
def qmy(m):jl (m+1)=Ls m:=rfl
def qg6(m):zl (m+1)=Kl m:=rfl
def qmO(m):Gu (m+1)=Fm m (ux m m):=rfl
def T7(m k):(ux m (k+1))=E6 m (ux m k):=rfl
def qnl(m):Aw (m+1)=FL m (uK m m):=rfl
def Ul(m k):(uK m (k+1))=FM m (uK m k):=rfl
def qi2(m):kZ (m+1)=DJ m (kZ m) (qW m (kZ m) m):=rfl
def SS(m k):(qW m (kZ m) (k+1))=Du m (kZ m) (qW m (kZ m) k):=rfl
def qi0(m):EZ (m+1)=DM m (wM m m):=rfl
def qhj(m k):(wM m (k+1))=KD m (wM m k):=rfl
def qnZ(m):lh (m+1)=F9 m (lh m) (uQ m (lh m) m):=rfl
def Uz(m k):(uQ m (lh m) (k+1))=F6 m (lh m) (uQ m (lh m) k):=rfl
def qon(m):Ib (m+1)=FZ m (uS m m):=rfl
def UJ(m k):(uS m (k+1))=Gd m (uS m k):=rfl
def qfD(m):zk (m+1)=Kb m:=rfl
def qgP(m):jy (m+1)=CJ m (jy m) (tx m (jy m) m):=rfl
def RQ(m k):(tx m (jy m) (k+1))=CN m (jy m) (tx m (jy m) k):=rfl
def qfb(m):zf (m+1)=Ka m:=rfl
def qdl(m):BW (m+1)=BU m (tg m m):=rfl
def Rh(m k):(tg m (k+1))=BT m (tg m k):=rfl
def qf3(m):zi (m+1)=Kg m:=rfl
def qfv(m):kW (m+1)=Cr m (kW m) (qS m (kW m) m):=rfl
def RH(m k):(qS m (kW m) (k+1))=Cq m (kW m) (qS m (kW m) k):=rfl
def qkt(m):ut (m+1)=KY m:=rfl
def qgU(m):wN (m+1)=CG m (qT m m):=rfl
def R7(m k):(qT m (k+1))=CO m (qT m k):=rfl
def qhe(m):rd (m+1)=Dh m (fG m m).1 (fG m m).2.1 (fG m m).2.2:=rfl
def Sf(m k):(fG m (k+1)).1=C6 m (fG m k).1 (fG m k).2.1 (fG m k).2.2:=rfl
def Sm(m k):(fG m (k+1)).2.1=C2 m (fG m k).1 (fG m k).2.1 (fG m k).2.2:=rfl
def Sl(m k):(fG m (k+1)).2.2=Df m (fG m k).1 (fG m k).2.1 (fG m k).2.2:=rfl
def qfI(m):Dz (m+1)=Cv m (tw m m):=rfl
def RJ(m k):(tw m (k+1))=Cw m (tw m k):=rfl
def qfa(m):CP (m+1)=J8 m:=rfl
def qdE(m):B4 (m+1)=BY m (wz m m):=rfl
def JK(m k):(wz m (k+1))=yR m (wz m k):=rfl
def qdp(m):BX (m+1)=JG m:=rfl
def qgd(m):DE (m+1)=Ke m:=rfl
def qiU(m):E5 (m+1)=Dy m (tO m m):=rfl
def SQ(m k):(tO m (k+1))=Ds m (tO m k):=rfl
def qjn(m):Fy (m+1)=KL m:=rfl
def qhN(m):lL (m+1)=Dc m (lL m) (tF m (lL m) m):=rfl
def SB(m k):(tF m (lL m) (k+1))=CW m (lL m) (tF m (lL m) k):=rfl
def qib(m):Ej (m+1)=Kp m:=rfl
def qgk(m):DS (m+1)=Km m:=rfl
def qeM(m):kU (m+1)=Cf m (kU m) (qQ m (kU m) m):=rfl
def Ru(m k):(qQ m (kU m) (k+1))=Cg m (kU m) (qQ m (kU m) k):=rfl
def qjB(m):zr (m+1)=KN m:=rfl
def qkk(m):wY (m+1)=DV m (uf m m):=rfl
def S2(m k):(uf m (k+1))=D8 m (uf m k):=rfl
def KH(m):ra (m+1)=wK m (iz m m).1 (iz m m).2:=rfl
def So(m k):(iz m (k+1)).1=C7 m (iz m k).1 (iz m k).2:=rfl
def Sx(m k):(iz m (k+1)).2=C9 m (iz m k).1 (iz m k).2:=rfl
def qfO(m):wL (m+1)=Kd m:=rfl
def qf5(m):zj (m+1)=Ki m:=rfl
def qij(m):EM (m+1)=Kr m:=rfl
def qiE(m):uh (m+1)=KK m:=rfl
def qln(m):jB (m+1)=Eu m (jB m) (ul m (jB m) m):=rfl
def Tq(m k):(ul m (jB m) (k+1))=Et m (jB m) (ul m (jB m) k):=rfl
def qhZ(m):iV (m+1)=CX m (iV m) (tI m (iV m) m):=rfl
def Sp(m k):(tI m (iV m) (k+1))=C4 m (iV m) (tI m (iV m) k):=rfl
def qlj(m):jz (m+1)=Li m:=rfl
def qiM(m):rf (m+1)=Ky m:=rfl
def ql2(m):pP (m+1)=La m:=rfl
def qmB(m):gX (m+1)=Lu m:=rfl
def qi9(m):lM (m+1)=Dt m (lM m) (tJ m (lM m) m):=rfl
def SL(m k):(tJ m (lM m) (k+1))=DA m (lM m) (tJ m (lM m) k):=rfl
def qmR(m):Ae (m+1)=Fw m (uA m m):=rfl
def T4(m k):(uA m (k+1))=E0 m (uA m k):=rfl
def FQ(m):Gr (m+1)=uk m (kg m m).1 (kg m m).2:=rfl
def Lo(m k):(kg m (k+1)).1=zC m (kg m k).1 (kg m k).2:=rfl
def FA(m k):(kg m (k+1)).2=wT m (kg m k).1 (kg m k).2:=rfl
def qmS(m):Gn (m+1)=Ft m (uw m m):=rfl
def T5(m k):(uw m (k+1))=EU m (uw m k):=rfl
def qgr(m):DQ (m+1)=CE m (tC m m):=rfl
def CK(m k):(tC m (k+1))=wJ m (tC m k):=rfl
def qfN(m):KJ (m+1)=Kh m:=rfl
def qmi(m):km (m+1)=EQ m (km m) (uv m (km m) m):=rfl
def TO(m k):(uv m (km m) (k+1))=E7 m (km m) (uv m (km m) k):=rfl
def qmg(m):Ah (m+1)=FD m (uy m m):=rfl
def TR(m k):(uy m (k+1))=Fq m (uy m k):=rfl
def qmN(m):Ak (m+1)=E4 m (uz m m):=rfl
def TM(m k):(uz m (k+1))=Fj m (uz m k):=rfl
def qk7(m):Gg (m+1)=Ez m (ui m m):=rfl
def Tl(m k):(ui m (k+1))=Ep m (ui m k):=rfl
def TT(m):oL (m+1)=EB m:=rfl
def qiZ(m):Fc (m+1)=KF m:=rfl
def qi5(m):zt (m+1)=Kz m:=rfl
def qk2(m):FF (m+1)=KQ m:=rfl
def qjt(m):uq (m+1)=Dw m (tN m m):=rfl
def SH(m k):(tN m (k+1))=Dx m (tN m k):=rfl
def qmd(m):Gb (m+1)=Lk m:=rfl
def qke(m):lO (m+1)=D5 m (lO m) (ua m (lO m) m):=rfl
def Te(m k):(ua m (lO m) (k+1))=D4 m (lO m) (ua m (lO m) k):=rfl
def qk3(m):lP (m+1)=DP m (lP m) (tY m (lP m) m):=rfl
def Tg(m k):(tY m (lP m) (k+1))=Ec m (lP m) (tY m (lP m) k):=rfl
def qkx(m):iA (m+1)=K5 m:=rfl
def qlG(m):uI (m+1)=Ek m (ur m m):=rfl
def Tp(m k):(ur m (k+1))=Em m (ur m k):=rfl
def qla(m):F7 (m+1)=Ei m (uo m m):=rfl
def TB(m k):(uo m (k+1))=EP m (uo m k):=rfl
def qjc(m):ES (m+1)=Dv m (tT m m):=rfl
def SK(m k):(tT m (k+1))=DB m (tT m k):=rfl
def qkm(m):lf (m+1)=DU m (lf m) (qZ m (lf m) m):=rfl
def S5(m k):(qZ m (lf m) (k+1))=D1 m (lf m) (qZ m (lf m) k):=rfl
def qkG(m):zG (m+1)=KX m:=rfl
def qnJ(m):oR (m+1)=LI m:=rfl
def qhE(m):El (m+1)=Kx m:=rfl
def qjS(m):FN (m+1)=Ea m (tZ m m):=rfl
def S9(m k):(tZ m (k+1))=D7 m (tZ m k):=rfl
def qlT(m):Gf (m+1)=Lh m:=rfl
def qmL(m):ru (m+1)=Fg m (uC m m):=rfl
def TQ(m k):(uC m (k+1))=E9 m (uC m k):=rfl
def qju(m):ET (m+1)=Dr m (tW m m):=rfl
def SG(m k):(tW m (k+1))=Dm m (tW m k):=rfl
def ql5(m):zU (m+1)=EH m (rh m m):=rfl
def Tw(m k):(rh m (k+1))=EK m (rh m k):=rfl
def qgO(m):kX (m+1)=CM m (kX m) (qU m (kX m) m):=rfl
def RU(m k):(qU m (kX m) (k+1))=CR m (kX m) (qU m (kX m) k):=rfl
def qlR(m):F1 (m+1)=Lg m:=rfl
def qmK(m):Gy (m+1)=Fi m (uF m m):=rfl
def TZ(m k):(uF m (k+1))=EV m (uF m k):=rfl
def qhG(m):wQ (m+1)=Kw m:=rfl
def qkg(m):lc (m+1)=DT m (lc m) (qY m (lc m) m):=rfl
def SY(m k):(qY m (lc m) (k+1))=D3 m (lc m) (qY m (lc m) k):=rfl
def qmx(m):Ad (m+1)=Fv m (pK m m):=rfl
def TY(m k):(pK m (k+1))=ER m (pK m k):=rfl
def qh9(m):kY (m+1)=Dd m (kY m) (qV m (kY m) m):=rfl
def Sg(m k):(qV m (kY m) (k+1))=CU m (kY m) (qV m (kY m) k):=rfl
def qnt(m):xu (m+1)=Ly m:=rfl
def qj2(m):wX (m+1)=DR m (rc m m):=rfl
def SW(m k):(rc m (k+1))=D0 m (rc m k):=rfl
def qg1(m):Ee (m+1)=CB m (dj m m).1 (dj m m).2.1 (dj m m).2.2.1 (dj m m).2.2.2:=rfl
def RX(m k):(dj m (k+1)).1=CH m (dj m k).1 (dj m k).2.1 (dj m k).2.2.1 (dj m k).2.2.2:=rfl
def RS(m k):(dj m (k+1)).2.1=CF m (dj m k).1 (dj m k).2.1 (dj m k).2.2.1 (dj m k).2.2.2:=rfl
def RZ(m k):(dj m (k+1)).2.2.1=CQ m (dj m k).1 (dj m k).2.1 (dj m k).2.2.1 (dj m k).2.2.2:=rfl
def R6(m k):(dj m (k+1)).2.2.2=CS m (dj m k).1 (dj m k).2.1 (dj m k).2.2.1 (dj m k).2.2.2:=rfl
def qlL(m):uG (m+1)=Ld m:=rfl
def qh3(m):zp (m+1)=Kv m:=rfl
def qhW(m):Er (m+1)=Db m (tG m m):=rfl
def Sc(m k):(tG m (k+1))=De m (tG m k):=rfl
def qmk(m):GM (m+1)=Fb m (rp m m):=rfl
def T1(m k):(rp m (k+1))=Fe m (rp m k):=rfl
def qkH(m):FS (m+1)=KZ m:=rfl
def qjg(m):lN (m+1)=DL m (lN m) (tM m (lN m) m):=rfl
def SP(m k):(tM m (lN m) (k+1))=Dp m (lN m) (tM m (lN m) k):=rfl
def qjf(m):Fk (m+1)=KA m:=rfl
def qjK(m):FJ (m+1)=DW m (tX m m):=rfl
def SZ(m k):(tX m (k+1))=D2 m (tX m k):=rfl
def qmz(m):Gz (m+1)=E8 m (uE m m):=rfl
def T0(m k):(uE m (k+1))=EY m (uE m k):=rfl
def qf6(m):DF (m+1)=Kc m:=rfl
def qlM(m):Gi (m+1)=Es m (um m m):=rfl
def Tx(m k):(um m (k+1))=EN m (um m k):=rfl
def qk6(m):uH (m+1)=Eo m (ug m m):=rfl
def Tz(m k):(ug m (k+1))=EC m (ug m k):=rfl
def qiG(m):Fa (m+1)=DC m (tQ m m):=rfl
def SD(m k):(tQ m (k+1))=DD m (tQ m k):=rfl
def qmp(m):GL (m+1)=FE m (iW m m).1 (iW m m).2:=rfl
def TJ(m k):(iW m (k+1)).1=EX m (iW m k).1 (iW m k).2:=rfl
def Uc(m k):(iW m (k+1)).2=Ff m (iW m k).1 (iW m k).2:=rfl
def qj0(m):wW (m+1)=Eb m (gW m m).1 (gW m m).2:=rfl
def Tc(m k):(gW m (k+1)).1=DY m (gW m k).1 (gW m k).2:=rfl
def S3(m k):(gW m (k+1)).2=Ef m (gW m k).1 (gW m k).2:=rfl
def qgM(m):tV (m+1)=CC m (tz m m):=rfl
def RT(m k):(tz m (k+1))=CA m (tz m k):=rfl
def qfT(m):Dq (m+1)=Ct m (jx m m).1 (jx m m).2:=rfl
def RN(m k):(jx m (k+1)).1=Cx m (jx m k).1 (jx m k).2:=rfl
def RM(m k):(jx m (k+1)).2=Cs m (jx m k).1 (jx m k).2:=rfl
def qlN(m):pM (m+1)=Lf m:=rfl
def qjZ(m):FO (m+1)=K0 m:=rfl
def qiO(m):Fh (m+1)=DH m (jY m m).1 (jY m m).2:=rfl
def SC(m k):(jY m (k+1)).1=Dn m (jY m k).1 (jY m k).2:=rfl
def SM(m k):(jY m (k+1)).2=Do m (jY m k).1 (jY m k).2:=rfl
def qkw(m):FT (m+1)=KP m:=rfl
def qlr(m):F8 (m+1)=EG m (ke m m).1 (ke m m).2:=rfl
def Tm(m k):(ke m (k+1)).1=Ey m (ke m k).1 (ke m k).2:=rfl
def TE(m k):(ke m (k+1)).2=EO m (ke m k).1 (ke m k).2:=rfl
def qmb(m):zN (m+1)=EA m (rj m m):=rfl
def EF(m k):(rj m (k+1))=wP m (rj m k):=rfl
def qkF(m):FG (m+1)=KV m:=rfl
def qim(m):zm (m+1)=Da m (jW m m).1 (jW m m).2:=rfl
def Sw(m k):(jW m (k+1)).1=C5 m (jW m k).1 (jW m k).2:=rfl
def Sr(m k):(jW m (k+1)).2=Dg m (jW m k).1 (jW m k).2:=rfl
def qlw(m):LZ (m+1)=Lj m:=rfl
def ql3(m):F0 (m+1)=Ln m:=rfl
def qih(m):EJ (m+1)=Ku m:=rfl
def qkK(m):zD (m+1)=DX m (ub m m):=rfl
def S0(m k):(ub m (k+1))=Eh m (ub m k):=rfl
def Lm(m):rk (m+1)=wO m (iU m m).1 (iU m m).2:=rfl
def Tf(m k):(iU m (k+1)).1=D6 m (iU m k).1 (iU m k).2:=rfl
def Td(m k):(iU m (k+1)).2=DO m (iU m k).1 (iU m k).2:=rfl
def ql6(m):wZ (m+1)=Lb m:=rfl
def qeZ(m):law25_MachineCheck (m+1)=J4 m:=rfl
end Go.AmZ
namespace Go.GxZ
def size:T->Nat:=T.para λ _ a=>1+a.sum
theorem cM(t:T):size t=1+(t.kids.map size).sum:=T.para_eq _ _
def size_pos(t:T):1<=size t:=by rw[cM];omega
def qnd(l:aa T):J l<=(l.map size).sum:=by
 induction l with
 |nil=>simp
 |cons x l a=>have:=size_pos x;simp only[bH,bh,iv];omega
def FW(l:aa T)(x:T)(h:x∈l):size x<=(l.map size).sum:=by
 induction l with
 |nil=>cases h
 |cons y l a=>
   simp only[bh,iv];obtain rfl|h:=be.1 h
   .omega
   .have:=a h;omega
def fM(t:T)(x:T)(h:x∈t.kids):size x<size t:=by
 have:=FW t.kids x h;rw[cM t];omega
def fL(t:T):J t.kids<size t:=by
 have:=qnd t.kids;rw[cM t];omega
def sgn(a b:Int):Int:=if a<b then -1 else if b<a then 1 else 0
def thn(x y:Int):Int:=if x=0 then y else x
structure Cmp {α:Type} (f:α->α->Int):Prop where
 rng:∀a b,f a b=-1\/f a b=0\/f a b=1
 anti:∀a b,f b a=- f a b
 trans:∀a b c,f a b=-1->f b c=-1->f a c=-1
 same:∀a b c,f a b=0->f b c=f a c
def Cmp.thn{α:Type}{f g:α->α->Int}(d:Cmp f)(l:Cmp g):Cmp λ a b=>thn (f a b) (g a b):=by
 constructor
 .intro a b;have:=d.rng a b;have:=l.rng a b;unfold GxZ.thn;split<;>omega
 .intro a b;have:=d.anti a b;have:=l.anti a b;unfold GxZ.thn;split<;>split<;>omega
 .intro a b c k j;have p:=d.anti a b;have a2:=d.anti b c;have a3:=d.anti a c;have n:=d.trans a b c;have t2:=l.trans a b c;have m:=d.same a b c;have s2:=d.same c b a;have o:=d.rng a b;have r2:=d.rng b c;have r3:=d.rng a c;unfold GxZ.thn at k j |-
  by_cases i:f a b=0
  .by_cases e:f b c=0
   .rw[af i]at k;rw[af e]at j;rw[af (by rw[<-m i];exact e)];exact t2 k j
   .rw[ae e]at j;rw[ae (by rw[<-m i];exact e),<-m i];exact j
  .rw[ae i]at k;by_cases e:f b c=0
   .have:=s2 (by omega);rw[ifN];omega
   .rw[ae e]at j;have:=n k j;rw[ifN];exact this
 .intro a b c h
  have i:f a b=0:=by
   unfold GxZ.thn at h;split at h
   .assumption
   .exact absurd h (by assumption)
  have e:g a b=0:=by
   unfold GxZ.thn at h
   rwa [af i]at h
  show GxZ.thn _ _=GxZ.thn _ _;rw[d.same a b c i,l.same a b c e]
def Cmp.on{α d:Type}{f:d->d->Int}(c:Cmp f)(p:α->d):Cmp λ a b=>f (p a) (p b):=
 ⟨λ _ _=>c.rng _ _,λ _ _=>c.anti _ _,λ _ _ _=>c.trans _ _ _,λ _ _ _=>c.same _ _ _⟩
def HU:Cmp sgn:=by
 constructor
 .intro a b;unfold sgn;split<;>(try split)<;>omega
 .intro a b;unfold sgn;split<;>split<;>(try split)<;>omega
 .intro a b c;unfold sgn;split<;>split<;>(try split)<;>(try split)<;>omega
 .intro a b c;unfold sgn;split<;>split<;>(try split)<;>(try split)<;>omega
theorem Ar{a b:Int}(h:sgn a b=0):a=b:=by unfold sgn at h;split at h<;>(try split at h)<;>omega
def qqh(a:Int):sgn a a=0:=by unfold sgn;split<;>(try split)<;>omega
open Lib (compareBytes)
theorem WC(a:aa aN):compareBytes a a=0:=by
 induction a with
 |nil=>rfl
 |cons x a b=>simp[compareBytes,b]
theorem Hr:∀a b:aa aN,compareBytes a b=-1\/compareBytes a b=0\/compareBytes a b=1
 |[],[]|[],_::_|_::_,[]=>by simp[compareBytes]
 |x::a,y::b=>by
   unfold compareBytes;split
   .simp
   .split
    .simp
    .exact Hr a b
def VJ:∀a b:aa aN,compareBytes b a=- compareBytes a b
 |[],[]|[],_::_|_::_,[]=>by simp[compareBytes]
 |x::a,y::b=>by
   have:=VJ a b;unfold compareBytes;simp only[Q6];split<;>split<;>(try split)<;>omega
theorem Gw:∀a b:aa aN,compareBytes a b=0->a=b
 |[],[],_=>rfl
 |[],_::_,h|_::_,[],h=>by simp[compareBytes]at h
 |x::a,y::b,h=>by
   unfold compareBytes at h;simp only[Q6]at h;split at h
   .omega
   .split at h
    .omega
    .rw[Gw a b h,UInt8.toNat_inj.1 (show x.toNat=y.toNat by omega)]
theorem Vm:∀ a b c:List UInt8,compareBytes a b=-1->compareBytes b c=-1->compareBytes a c=-1
 | [],_,[],h1,h2=>by
   rename_i b;cases b<;>simp[compareBytes]at h1 h2
 | [],_,_::_,_,_=>by simp[compareBytes]
 | _::_,[],_,h1,_=>by simp[compareBytes]at h1
 | _::_,_::_,[],_,h2=>by simp[compareBytes]at h2
 | x::a,y::b,z::c,h1,h2=>by
   have ih:=Vm a b c;unfold compareBytes at h1 h2 |-
   simp only[Q6]at h1 h2 |-
   split at h1
   ·split at h2
    ·rw[af (by omega)]
    ·split at h2
     ·omega
     ·rw[af (by omega)]
   ·split at h1
    ·omega
    ·split at h2
     ·rw[af (by omega)]
     ·split at h2
      ·omega
      ·rw[ae (by omega),ae (by omega)];exact ih h1 h2
def qqv:Cmp compareBytes:=
 ⟨Hr,VJ,Vm,λ a b c h=>by rw[Gw a b h]⟩
def ei:aa (T->Int)->aa T->Int
 |r::a,b::c=>thn (r b) (ei a c)
 |_,_=>0
def nj(a b:T):Int:=
 thn (sgn (size a) (size b)) (thn (sgn a.kind b.kind) (thn (compareBytes a.name b.name) (thn (sgn a.sort b.sort) (sgn (J a.kids) (J b.kids)))))
def aM:T->T->Int:=T.para λ a c b=>thn (nj a b) (ei c b.kids)
def rH(a b:T):aM a b=thn (nj a b) (ei (a.kids.map aM) b.kids):=sZ (T.para_eq _ _) b
def rB:Cmp nj:=
 (HU.on λ t:T=>(size t:Int)).thn ((HU.on T.kind).thn ((qqv.on T.name).thn ((HU.on T.sort).thn (HU.on λ t:T=>(J t.kids:Int)))))
def uZ{x y:Int}(h:thn x y=0):x=0/\y=0:=by unfold thn at h;split at h<;>omega
def Mh{a b:T}(h:nj a b=0):a.kind=b.kind/\a.name=b.name/\a.sort=b.sort/\J a.kids=J b.kids:=by
 unfold nj at h;let⟨_,h⟩:=uZ h;let⟨f,h⟩:=uZ h;let⟨e,h⟩:=uZ h;let⟨d,c⟩:=uZ h;have:=Ar c;exact⟨Ar f,Gw _ _ e,Ar d,by omega⟩
def qo1(a:T):nj a a=0:=by
 unfold nj thn;simp[qqh,WC]
def T.ext{a b:T}(f:a.kind=b.kind)(e:a.name=b.name)(d:a.sort=b.sort)(c:a.kids=b.kids):a=b:=by
 let⟨k,n,s,l⟩:=a;let⟨i,h,g,l'⟩:=b;simp only[T.kind,T.name,T.sort,T.kids]at f e d c;rw[f,e,d,c]
theorem pT(a:T):aM a a=0:=by
 refine T.ind (P:=λ a=>aM a a=0) ?_ a;intro a c;rw[rH,qo1,thn,af rfl];generalize a.kids=l at*
 induction l with
 |nil=>rfl
 |cons x l b=>
   rw[bh,ei,c x (bj ..),thn,af rfl];exact b λ k d=>c k (bk _ d)
theorem lg(a:T):∀b,aM a b=0->a=b:=by
 refine T.ind (P:=λ a=>∀b,aM a b=0->a=b) ?_ a;intro a e b h;rw[rH]at h;let⟨g,f⟩:=uZ h;let⟨n,j,i,c⟩:=Mh g;apply T.ext n j i;generalize a.kids=l at *;generalize b.kids=m at *;clear h g
 induction l generalizing m with
 |nil=>exact(sQ.1 c.symm).symm
 |cons x l d=>
   cases m with
   |nil=>simp at c
   |cons y m=>
     rw[bh,ei]at f;let⟨q,p⟩:=uZ f;rw[e x (bj ..) y q,d (λ k o=>e k (bk _ o)) m p (by simpa using c)]
def A2(a:T):Prop:=(∀b,aM a b=-1\/aM a b=0\/aM a b=1)/\(∀b,aM b a=- aM a b)/\(∀b c,aM a b=-1->aM b c=-1->aM a c=-1)
def WV:∀l m:aa T,(∀k∈l,A2 k)->ei (l.map aM) m=-1\/ei (l.map aM) m=0\/ei (l.map aM) m=1
 |[],_,_|_::_,[],_=>by simp[ei]
 |x::l,y::m,h=>by
   rw[bh,ei];have c:=(h x (bj ..)).1 y;have b:=WV l m λ k a=>h k (bk _ a);unfold thn;split<;>omega
def Vr:∀l m:aa T,(∀k∈l,A2 k)->ei (m.map aM) l=- ei (l.map aM) m
 |[],[],_|[],_::_,_|_::_,[],_=>by simp[ei]
 |x::l,y::m,h=>by
   rw[bh,ei,bh,ei];have c:=(h x (bj ..)).2.1 y;have b:=Vr l m λ k a=>h k (bk _ a);unfold thn;split<;>split<;>omega
def Vh:∀l m n:aa T,(∀k∈l,A2 k)->J l=J m->J m=J n->ei (l.map aM) m=-1->ei (m.map aM) n=-1->ei (l.map aM) n=-1
 |[],_,_,_,_,_,h,_=>by simp[ei]at h
 |_::_,[],_,_,h,_,_,_|_::_,_::_,[],_,_,h,_,_=>by simp at h
 |x::l,y::m,z::n,h,e1,j,b,a=>by
   rw[bh,ei]at b a |-
   have g:=h x (bj ..);have f:=Vh l m n (λ k i=>h k (bk _ i)) (by simpa using e1) (by simpa using j);have e:=g.2.2 y z;by_cases d:aM x y=0
   .have:=lg x y d;subst this;rw[thn,af d]at b;by_cases c:aM x z=0
    .rw[thn,af c]at a |-
     exact f b a
    .rw[thn,ae c]at a |-
     exact a
   .rw[thn,ae d]at b;by_cases c:aM y z=0
    .have:=lg y z c;subst this;rw[thn,ae d];exact b
    .rw[thn,ae c]at a;have:=e b a;rw[thn,ifN];exact this
def OM(a:T):A2 a:=by
 refine T.ind (P:=A2) ?_ a;intro a i;refine⟨λ b=>?_,λ b=>?_,λ b c g d=>?_⟩
 .rw[rH];have g:=rB.rng a b;have d:=WV a.kids b.kids i;unfold thn;split<;>omega
 .rw[rH,rH];have g:=rB.anti a b;have d:=Vr a.kids b.kids i;unfold thn;split<;>split<;>omega
 .rw[rH]at g d |-
  by_cases h:nj a b=0
  .rw[thn,af h]at g;have e:=rB.same a b c h;by_cases f:nj b c=0
   .rw[thn,af f]at d;rw[thn,af (by rw[<-e];exact f)];exact Vh _ _ _ i (Mh h).2.2.2 (Mh f).2.2.2 g d
   .rw[thn,ae f]at d;rw[thn,ae (by rw[<-e];exact f),<-e];exact d
  .rw[thn,ae h]at g;by_cases f:nj b c=0
   .have e1:=rB.anti b c;have l:=rB.same c b a (by omega);have k:=rB.anti a b;have j:=rB.anti a c;rw[thn,ifN];omega
   .rw[thn,ae f]at d;have:=rB.trans a b c g d;rw[thn,ifN];exact this
def dA:Cmp aM:=
 ⟨λ a=>(OM a).1,λ a b=>(OM a).2.1 b,λ a=>(OM a).2.2,λ a b c h=>by rw[lg a b h]⟩
def qq5(a b:T):aM a b=0↔a=b:=⟨lg a b,λ h=>by rw[h];exact pT b⟩
def Tt:∀a b:aa aN,Op.bytesLess a b=X (compareBytes a b=-1)
 |[],[]|[],_::_|_::_,[]=>by simp[Op.bytesLess,compareBytes]
 |x::a,y::b=>by
   rw[Op.bytesLess,compareBytes,Tt a b];by_cases d:x<y
   .simp[d]
   .by_cases c:y<x
    .have:¬ x=y:=λ e=>by rw[e]at c;exact d (by rw[e];exact c)
     simp[d,c,this]
    .have:x=y:=UInt8.toNat_inj.1 (by rw[Q6]at d c;omega);simp[this]
end Go.GxZ
namespace Go.GxZ
def om:aa (Int->Int)->Int->Int
 |[],m=>m
 |f::a,m=>if f m<0 then -1 else om a (f m)
def gx:T->Int->Int:=T.para λ t a m=>if m<=0\/40<J t.name then -1 else om a (m-1)
theorem YW(t:T)(m:Int):gx t m=if m<=0\/40<J t.name then -1 else om (t.kids.map gx) (m-1):=sZ (T.para_eq _ _) m
def My(t:T):∀m,gx t m<0/\gx t m=-1\/0<=gx t m/\gx t m=m-size t:=by
 refine T.ind (P:=λ t=>∀m,gx t m<0/\gx t m=-1\/0<=gx t m/\gx t m=m-size t) ?_ t;intro t e m
 have g:∀l:aa T,(∀k∈l,k∈t.kids)->∀m,0<=m->(om (l.map gx) m<0/\om (l.map gx) m=-1\/0<=om (l.map gx) m/\om (l.map gx) m=m-((l.map size).sum:Nat)):=by
  intro l
  induction l with
  |nil=>intro _ m b;right;simp[om];exact b
  |cons x l a=>
    intro c m b;simp only[bh,om,iv];have i:=e x (c x (bj ..)) m;by_cases d:gx x m<0
    .rw[af d];left;exact⟨by omega,rfl⟩
    .rw[ae d];have h:=a (λ k f=>c k (bk _ f)) (gx x m) (by omega);omega
 grind [YW,cM]
def jf:T->Nat:=T.para λ _ a=>a.foldl max 0+1
def xB(t:T):jf t=(t.kids.map jf).foldl max 0+1:=T.para_eq _ _
def qk5(l:aa Nat):∀(a b:Nat),a<=b->(∀x∈l,x<=b)->l.foldl max a<=b:=by
 induction l with
 |nil=>intro a b h _;exact h
 |cons x l d=>intro a b h c;exact d _ _ (Nat.max_le.2 ⟨h,c x (bj ..)⟩) λ y e=>c y (bk _ e)
def Ny(t:T):jf t<=size t:=by
 refine T.ind (P:=λ t=>jf t<=size t) ?_ t;intro t b;rw[xB,cM]
 have:(t.kids.map jf).foldl max 0<=(t.kids.map size).sum:=by
  refine qk5 _ _ _ (aG _) λ x c=>?_;obtain⟨k,a,rfl⟩:=bE.1 c;exact bT (b k a) (FW _ _ a)
 omega
def nv(c:Int):Bool:=X (97<=c/\c<=122)||X (65<=c/\c<=90)
def vR(c:Int):Bool:=X (48<=c/\c<=57)
def iJ(c:Int):Bool:=nv c||vR c||X (c=95)||X (c=35)
def eT(l:aa aN):Bool:=X (0<J l)&&X (J l<=24)&&nv ((l.getD 0 0).toNat:Int)&&l.all λ c=>iJ (c.toNat:Int)
def oj(k so:Int)(n:Nat)(a:Bool):Int:=
 if k=1\/k=2 then(if so<0\/5<so\/0<n then 1 else if a then 0 else 2)
 else if k=3 then(if so≠0 then 1 else if a then(if 8<n then 3 else 0)else 2)
 else 1
def eM(t:T):Int:=oj t.kind t.sort (J t.kids) (eT t.name)
def iY:T->Int:=T.para λ t a=>a.foldl thn (eM t)
def xn(t:T):iY t=(t.kids.map iY).foldl thn (eM t):=T.para_eq _ _
def hX{x:Int}(h:x≠0)(y:Int):thn x y=x:=ae h
theorem fS(l:aa Int):∀{x:Int},x≠0->l.foldl thn x=x:=by
 induction l with
 |nil=>intro x _;rfl
 |cons y l a=>intro x h;rw[jv,hX h];exact a h
def qX(l:aa Int)(x:Int):(x::l).foldl thn 0=l.foldl thn x:=rfl
theorem Lz{t:T}(h:iY t=0:=by omega):eM t=0/\(∀k∈t.kids,iY k=0):=by
 rw[xn]at h;by_cases a:eM t=0
 .refine⟨a,?_⟩;rw[a]at h;generalize t.kids=l at *;clear a
  induction l with
  |nil=>intro k b;cases b
  |cons x l c=>
    rw[bh,qX]at h;grind [fS]
 .grind [fS]
def bw(t:T):Int:=if iY t≠0 then iY t else if 400<size t\/40<jf t then 3 else 0
instance:DecidableEq T:=λ _ _=>Classical.propDecidable _
def cc(a b:T):Bool:=X (a=b)
def pj:aa T->Int->Bool
 |[],_=>O
 |x::l,m=>if gx x m<0 then Y else pj l (gx x m)
def VZ:∀(l:aa T) (m:Int),0<=m->pj l m=O->((l.map size).sum:Nat)<=m
 |[],m,a,_=>by simpa using a
 |x::l,m,a,h=>by
   rw[pj]at h;by_cases b:gx x m<0
   .grind
   .rw[ae b]at h;have d:=My x m;have c:=VZ l (gx x m) (by omega) h;grind
def dw:aa (aa aN×Int×Int×Int):=[
 ([112,97,105,114],2,2,1),
 ([101,110,99],2,2,1),
 ([97,101,110,99],2,2,1),
 ([112,107],1,1,1),
 ([115,105,103,110],2,2,1),
 ([104,97,115,104],1,1,1),
 ([120,111,114],2,8,1),
 ([122,101,114,111],0,0,1),
 ([101,120,112],2,2,1),
 ([109,117,108],2,8,1),
 ([105,110,118],1,1,1),
 ([111,110,101],0,0,1),
 ([115,107],1,1,2),
 ([115,104,107],2,2,2),
 ([110,101,119],1,8,2),
 ([102,115,116],1,1,3),
 ([115,110,100],1,1,3),
 ([100,101,99],2,2,3),
 ([97,100,101,99],2,2,3),
 ([111,112,101,110],2,2,3),
 ([114,101,97,100],1,1,3)]
def yq(l:aa (aa aN×Int×Int×Int))(n:aa aN):Int×Int×Int:=((l.find? λ r=>r.1==n).map (·.2)).getD (0,0,0)
theorem qnY(r:aa aN×Int×Int×Int)(l:aa (aa aN×Int×Int×Int))(n:aa aN):yq (r::l) n=if(r.1==n)=O then r.2 else yq l n:=by
 grind [yq]
def Pg(l:aa (aa aN×Int×Int×Int))(n:aa aN):Bool:=l.any λ r=>r.1==n
def pt(l:aa (aa aN×Int×Int×Int))(n:aa aN)(k:Int):Bool:=Pg l n&&X ((yq l n).1<=k)&&X (k<=(yq l n).2.1)
def qog(r:aa aN×Int×Int×Int)(l:aa (aa aN×Int×Int×Int))(n:aa aN)(k:Int):
  pt (r::l) n k=if(r.1==n)=O then X (r.2.1<=k)&&X (k<=r.2.2.1)else pt l n k:=by
 grind [pt,Pg,qnY]
def vA:aa aN:=[112,97,105,114]
def qA:aa aN:=[101,110,99]
def pg:aa aN:=[97,101,110,99]
def nPk:aa aN:=[112,107]
def ml:aa aN:=[115,105,103,110]
def jh:aa aN:=[120,111,114]
def iZ:aa aN:=[122,101,114,111]
def jg:aa aN:=[101,120,112]
def jL:aa aN:=[109,117,108]
def dR:aa aN:=[105,110,118]
def kI:aa aN:=[111,110,101]
def nSk:aa aN:=[115,107]
def vX:aa aN:=[115,104,107]
def mw:aa aN:=[110,101,119]
def PT:aa aN:=[102,115,116]
def Bj:aa aN:=[115,110,100]
def Qw:aa aN:=[100,101,99]
def OA:aa aN:=[97,100,101,99]
def Ov:aa aN:=[111,112,101,110]
def OX:aa aN:=[114,101,97,100]
def zT:T:=.mk 0 [] 0 []
def kid(t:T)(i:Nat):T:=t.kids.getD i zT
def apT(n:aa aN)(l:aa T):T:=.mk 3 n 0 l
def isN(t:T)(n:aa aN):Bool:=t.kind==3&&t.name==n
def bK(n:aa aN):Int×Int×Int:=((dw.find? λ r=>r.1==n).map (·.2)).getD (0,0,0)
def iI(t:T):Bool:=
 if t.name=mw then X ((kid t 0).kind≠2)
 else if t.name=nSk\/t.name=vX then t.kids.any λ k=>X (k.kind=3)||X (k.sort≠1)else Y
def ic(t:T):Int:=
 if t.kind≠3 then 0 else if(bK t.name).2.2=0 then 10 else if(J t.kids:Int)<(bK t.name).1\/(bK t.name).2.1<(J t.kids:Int)then 6 else if iI t then 10 else 0
def bL:T->Int:=T.para λ t a=>if t.kind≠3 then 0 else a.foldl thn (ic t)
theorem AD(t:T):bL t=if t.kind≠3 then 0 else(t.kids.map bL).foldl thn (ic t):=T.para_eq _ _
def ox(t:T):Int:=thn (bw t) (bL t)
def cW(t:T):Bool:=
 if t.name=PT\/t.name=Bj then isN (kid t 0) vA
 else if t.name=Qw then isN (kid t 0) qA&&cc (kid (kid t 0) 1) (kid t 1)
 else if t.name=OA then isN (kid t 0) pg&&isN (kid (kid t 0) 1) nPk&&cc (kid (kid (kid t 0) 1) 0) (kid t 1)
 else if t.name=Ov then isN (kid t 0) ml&&isN (kid t 1) nPk&&cc (kid (kid t 0) 1) (kid (kid t 1) 0)
 else if t.name=OX then isN (kid t 0) ml else Y
def ow(t:T):T:=if cW t then kid (kid t 0) (if t.name=Bj then 1 else 0)else t
def kz(t:T):Bool:=t.kind==3&&(t.name==jL||t.name==dR||t.name==kI)
abbrev Pw:=T×Int
def cu:aa Pw->T->Int->aa Pw
 |[],t,n=>[(t,n)]
 |(x,m)::l,t,n=>if aM t x=-1 then(t,n)::(x,m)::l else if aM t x=0 then(if m+n=0 then l else(x,m+n)::l)else(x,m)::cu l t n
def arK(t:T):Bool := !(t.name==kI&&J t.kids != 0||t.name==dR&&J t.kids != 1||t.name==jL&&X (J t.kids<2))
def arT:T->Bool:=T.para λ t a => !kz t||(arK t&&a.all id)
theorem Io(t:T):arT t=(!kz t||(arK t&&(t.kids.map arT).all id)):=T.para_eq _ _
def fZ(t:T)(n:Int):Int:=if t.name=dR then -n else n
def cY:T->aa Pw->Int->aa Pw:=T.para λ t a l n=>if kz t then a.foldl (λ l f=>f l (fZ t n)) l else cu l t n
theorem rJ(t:T)(l:aa Pw)(n:Int):cY t l n=if kz t then(t.kids.map cY).foldl (λ l f=>f l (fZ t n)) l else cu l t n:=by
 have h:cY t=λ l n=>if kz t then(t.kids.map cY).foldl (λ l f=>f l (fZ t n)) l else cu l t n:=T.para_eq _ _;rw[h]
def ofP(t:T):aa Pw×Int:=
 if bw t≠0 then([],bw t)else if arT t=Y then([],6)else if 200<J (cY t [] 1) then([],3)else(cY t [] 1,0)
def pvK(q:ac T)(p:Pw):Int:=
 if bw p.1≠0 then bw p.1 else if kz p.1 then 1 else if p.2=0\/p.2 < -1000\/1000<p.2 then 7 else match q with|Z x=>if 0<=aM x p.1 then 5 else 0|U=>0
def pvL:ac T->aa Pw->Int
 |_,[]=>0
 |q,p::l=>thn (pvK q p) (pvL (Z p.1) l)
def gm(l:aa Pw):Int:=if 200<J l then 3 else pvL U l
def cm(l:aa Pw):aa T:=l.flatMap λ p=>List.replicate p.2.toNat p.1
def cp(l:aa Pw):aa T:=l.flatMap λ p=>List.replicate (-p.2).toNat (apT dR [p.1])
def fw(o:aa T):T:=if J o=0 then apT kI []else if J o=1 then o.getD 0 zT else apT jL o
def ja(l:aa Pw):T×Int:=
 if gm l≠0 then(zT,gm l)else if 8<J (cm l++cp l) then(zT,3)
 else if bw (fw (cm l++cp l))≠0 then(zT,bw (fw (cm l++cp l)))else(fw (cm l++cp l),0)
def pv(l:aa Pw):Bool:=l.any λ p=>X (p.2 < -1000)||X (1000<p.2)
def eh(a b:aa Pw):aa Pw:=b.foldl (λ l p=>cu l p.1 p.2) a
def px(a b:aa Pw):aa Pw×Int:=
 if gm a≠0 then([],gm a)else if gm b≠0 then([],gm b)else if pv (eh a b)then([],7)else if 200<J (eh a b) then([],3)else(eh a b,0)
def cg:aa T->aa T->aa T
 |[],b=>b
 |x::a,[]=>x::a
 |x::a,y::b=>if aM x y=-1 then x::cg a (y::b)else if aM x y=1 then y::cg (x::a) b else cg a b
termination_by a b=>J a+J b
def eL:T->aa T:=T.para λ t a=>if isN t iZ&&t.kids.isEmpty then[]else if isN t jh then a.foldl cg []else[t]
def Ax(t:T):eL t=if isN t iZ&&t.kids.isEmpty then[]else if isN t jh then(t.kids.map eL).foldl cg []else[t]:=T.para_eq _ _
def xP(l:aa T):Int:=if 200<J l then 3 else(l.map bw).foldl thn 0
def dx(l:aa T):aa T:=(l.map eL).foldl cg []
def fy(o:aa T):T:=if J o=0 then apT iZ []else if J o=1 then o.getD 0 zT else apT jh o
def qG(l:aa T):T×Int:=
 if xP l≠0 then(zT,xP l)else if bw (fy (dx l))≠0 then(zT,3)else(fy (dx l),0)
def my(b:T)(l:aa Pw):T×Int:=
 if J l=0 then(b,0)else if(ja l).2≠0 then(zT,(ja l).2)else(apT jg [b,(ja l).1],0)
def qC(b e:T):T×Int:=
 if(ofP e).2≠0 then(zT,(ofP e).2)
 else if isN b jg then
  (if(ofP (kid b 1)).2≠0 then(zT,(ofP (kid b 1)).2)
   else if(px (ofP (kid b 1)).1 (ofP e).1).2≠0 then(zT,(px (ofP (kid b 1)).1 (ofP e).1).2)
   else my (kid b 0) (px (ofP (kid b 1)).1 (ofP e).1).1)
 else my b (ofP e).1
def isD(n:aa aN):Bool:=n==PT||n==Bj||n==Qw||n==OA||n==Ov||n==OX
def sb(t:T):T×Int:=if(ofP t).2≠0 then(zT,(ofP t).2)else ja (ofP t).1
def eW(t:T):T×Int:=
 if isD t.name then(ow t,0)else if t.name=jh then qG t.kids
 else if t.name=jL\/t.name=dR\/t.name=kI then sb t
 else if t.name=jg then qC (kid t 0) (kid t 1)else(t,0)
def bR:T->T×Int:=T.para λ t a=>
 if t.kind≠3 then(t,0)else if(a.map (·.2)).foldl thn 0≠0 then(zT,(a.map (·.2)).foldl thn 0)else eW (apT t.name (a.map (·.1)))
def AE(t:T):bR t=if t.kind≠3 then(t,0)else if((t.kids.map bR).map (·.2)).foldl thn 0≠0 then(zT,((t.kids.map bR).map (·.2)).foldl thn 0)else eW (apT t.name ((t.kids.map bR).map (·.1))):=T.para_eq _ _
def xK(t:T):T×Int:=
 if ox t≠0 then(zT,ox t)else if(bR t).2≠0 then(zT,(bR t).2)else if bw (bR t).1≠0 then(zT,bw (bR t).1)else bR t
def agB(l:aa T):Bool:=l.all λ k => !(k.kind==3) && !(k.sort != 1)
def xD(t:T):Bool:=if t.name=mw then(kid t 0).kind==2 else agB t.kids
def qpI(k:T)(l:aa T):agB (k::l)=((!(k.kind==3) && !(k.sort != 1))&&agB l):=rfl
end Go.GxZ
namespace Go.AmZ
open GxZ
section
open Lib
def GO(a b:Int):Ev (λ m _=>uh m a b) (sgn a b):=by
 apply aF;simp only[qiE,KK];unfold sgn;refine ak (λ h=>?_) λ h=>?_
 .exact al (by rw[af (aS.1 h)])
 .rw[aT]at h;refine ak (λ c=>?_) λ c=>?_
  .rw[aS]at c;exact al (by rw[ifN,af c])
  .rw[aT]at c;exact al (by rw[ifN,ifN])
def MW{l:aa T}{i:Nat}{x:T}(h:l.drop i=x::l.drop (i+1)):((l.drop i).map size).sum=size x+((l.drop (i+1)).map size).sum:=by
 grind
def Hp(t:T):size t<=1000000000->Ev (λ m _=>jB m t) (size t:Int):=by
 induction t using T.ind with
 |h t d=>
   intro p;apply aF;simp only[qln,Eu];have q:=fL t;have j:=cM t
   have b:=aV (P:=λ i=>∀a:Nat,a+((t.kids.drop i).map size).sum<=1000000000->Ev (λ m k=>ul m (jB m) k a i t.kind t.name t.sort t.kids) ((a+((t.kids.drop i).map size).sum:Nat):Int)) t.kids (by omega)
    (λ c a _=>by
     apply aw;simp only[Tq,Et];apply ai c;exact al (by simp))
    (λ i x e l c g f o a n=>by
     rw[MW l]at n |-
     apply aw;simp only[Tq,Et];refine ah c (ao g ?_);rw[aA];apply ag (d x (aK e) (by omega));rw[f,Aq,dC];refine(o (a+size x) (by omega)).res (by congr 1;omega))
   apply bd (L:=λ m k=>ul m (jB m) k 1 0 t.kind t.name t.sort t.kids);refine(b 0 (aG _) 1 (by simp;omega)).res (by rw[bF,j])
def X8(a b:Nat):pn (a:Int) (b:Int)=((max a b:Nat):Int):=by unfold pn;split<;>omega
def H4(a b:Int):Ev (λ m _=>uM m a b) (sgn a b):=by
 apply aF;simp only[qmh,Lw];unfold sgn;refine ak (λ h=>?_) λ h=>?_
 .exact al (by rw[af (aS.1 h)])
 .rw[aT]at h;refine ak (λ c=>?_) λ c=>?_
  .rw[aS]at c;exact al (by rw[ifN,af c])
  .rw[aT]at c;exact al (by rw[ifN,ifN])
def ML(t:T):size t<=1000000000->Ev (λ m _=>ko m t) (size t:Int):=by
 induction t using T.ind with
 |h t d=>
   intro p;apply aF;simp only[qmA,Fp];have q:=fL t;have j:=cM t
   have b:=aV (P:=λ i=>∀a:Nat,a+((t.kids.drop i).map size).sum<=1000000000->Ev (λ m k=>uD m (ko m) k a t.kids (J t.kids) i) ((a+((t.kids.drop i).map size).sum:Nat):Int)) t.kids (by omega)
    (λ c a _=>by
     apply aw;simp only[T6,Fl];apply ai c;exact al (by simp))
    (λ i x e l c g f o a n=>by
     rw[MW l]at n |-
     apply aw;simp only[T6,Fl];refine ah c (ao g ?_);rw[aA];apply ag (d x (aK e) (by omega));rw[f,Aq,dC];refine(o (a+size x) (by omega)).res (by congr 1;omega))
   apply bd (L:=λ m k=>uD m (ko m) k 1 t.kids (J t.kids) 0);refine(b 0 (aG _) 1 (by simp;omega)).res (by rw[bF,j])
def qoA(t:T):size t<=1000000000->Ev (λ m _=>lP m t) (jf t:Int):=by
 induction t using T.ind with
 |h t e=>
   intro o;apply aF;simp only[qk3,DP];have p:=fL t;have q:=cM t
   have b:=aV (P:=λ i=>∀a:Nat,a<=1000000000->Ev (λ m k=>tY m (lP m) k a i t.kind t.name t.sort t.kids) ((((t.kids.drop i).map jf).foldl max a+1:Nat):Int)) t.kids (by omega)
    (λ c a _=>by
     apply aw;simp only[Tg,Ec];apply ai c;rw[show av (a:Int) 1=((a+1:Nat):Int) by unfold av;omega,dC];exact al (by simp))
    (λ i x f l c j g n a r=>by
     apply aw;simp only[Tg,Ec];refine ah c (ao j ?_);rw[aA];have d:=aK f;have u:=fM t x d;have s:=Ny x;apply ag (e x d (by omega));rw[g,X8];apply (n (max a (jf x)) (by omega)).res;rw[l,bh,jv])
   apply bd (L:=λ m k=>tY m (lP m) k 0 0 t.kind t.name t.sort t.kids);refine(b 0 (aG _) 0 (by omega)).res (by rw[bF,xB])
def XW(a:aa (T->Int)):ei a []=0:=by cases a<;>rfl
def VN{l m:aa T}{i:Nat}{x y:T}(b:l.drop i=x::l.drop (i+1))(a:m.drop i=y::m.drop (i+1)):ei ((l.drop i).map aM) (m.drop i)=thn (aM x y) (ei ((l.drop (i+1)).map aM) (m.drop (i+1))):=by
 rw[b,a,bh];rfl
def Yi{l:aa T}{i:Nat}{y:T}(h:l[i]?=Z y):l.drop i=y::l.drop (i+1):=by
 grind [List.getElem?_eq_some_iff,List.drop_eq_getElem_cons]
theorem MC(a b:aa aN):slt a b=X (compareBytes a b=-1):=Tt a b
def W3(a b:aa aN):sy (slt a b) (bc a b)=X (compareBytes a b≠1):=by
 grind [sy,bc,MC,Hr,Gw,beq_eq_false_iff_ne,WC]
theorem wU(a:T):size a<=1000000000->∀ b,size b<=1000000000->Ev (λ m _=>iV m a b) (aM a b):=by
 induction a using T.ind with
 | h a ih =>
   intro ha b hb;refine aF ?_;simp only[qhZ,CX,aA];have hla:=fL a;have hlb:=fL b;rw[rH];unfold nj;refine ag (Hp a ha) (ag (Hp b hb) (ag (GO _ _) ?_));refine ak (λ h=>?_) λ h=>?_
   ·rw[bnt,ay]at h;exact al (by rw[hX (by rw[hX h];exact h),hX h])
   rw[bnf,aB]at h;rw[h,show ∀ y,thn 0 y=y from λ y=>rfl];refine ag (GO _ _) ?_;refine ak (λ h=>?_) λ h=>?_
   ·rw[bnt,ay]at h;exact al (by rw[hX (by rw[hX h];exact h),hX h])
   rw[bnf,aB]at h;rw[h,show ∀ y,thn 0 y=y from λ y=>rfl];refine ak (λ h=>?_) λ h=>?_
   ·rw[MC,df]at h;exact al (by rw[h];rfl)
   rw[MC,pF]at h;refine ak (λ h'=>?_) λ h'=>?_
   ·rw[bnt,W3,pF,Decidable.not_not]at h';exact al (by rw[h'];rfl)
   rw[bnf,W3,df]at h';have h0:compareBytes a.name b.name=0:=by have:=Hr a.name b.name;omega
   rw[h0,show ∀ y,thn 0 y=y from λ y=>rfl];refine ag (GO _ _) ?_;refine ak (λ h=>?_) λ h=>?_
   ·rw[bnt,ay]at h;exact al (by rw[hX (by rw[hX h];exact h),hX h])
   rw[bnf,aB]at h;rw[h,show ∀ y,thn 0 y=y from λ y=>rfl];refine ag (GO _ _) ?_;refine ak (λ h=>?_) λ h=>?_
   ·rw[bnt,ay]at h;exact al (by rw[hX h])
   rw[bnf,aB]at h;rw[h,show ∀ y,thn 0 y=y from λ y=>rfl];have hlen:a.kids.length=b.kids.length:=by have:=Ar h;omega
   have key:=aV (P := λ i=>Ev (λ m k=>tI m (iV m) k i a.kind a.name a.sort a.kids b.kind b.name b.sort b.kids) (ei ((a.kids.drop i).map aM) (b.kids.drop i))) a.kids (by omega)
    (λ hc=>by
     refine aw ?_;simp only[Sp,C4];refine ai hc ?_;exact al (by rw[hlen,bO,XW]))
    (λ i x hx hd hc hg hi hP=>by
     refine aw ?_;simp only[Sp,C4,aA];have hib:i<b.kids.length:=by have:=(fd.1 hx).1;omega
     have hy:=aU hib;have hmx:=aK hx;have h1:=fM a x hmx;have h2:=fM b _ (aK hy);refine ah hc (ao hg (ao (by rw[dz];exact hy) ?_));rw[VN hd (Yi hy)];refine ag (ih x hmx (by omega) _ (by omega)) ?_;refine ak (λ h=>?_) λ h=>?_
     ·rw[bnt,ay]at h;exact al (by rw[hX h])
     ·rw[bnf,aB]at h;rw[h,hi];exact hP)
   refine bd (L := λ m k=>tI m (iV m) k 0 a.kind a.name a.sort a.kids b.kind b.name b.sort b.kids) ?_;exact(key 0 (aG _)).res (by rw[bF,bF])
def qo8(a b:aa aN):Ev (λ m _=>strings_Compare 0 a b) (compareBytes a b):=aq _
theorem nN(a:T):size a<=1000000000->∀ b,size b<=1000000000->Ev (λ m _=>cZ m a b) (aM a b):=by
 induction a using T.ind with
 | h a ih =>
   intro ha b hb;refine aF ?_;simp only[qjG,Dk,aA];have hla:=fL a;have hlb:=fL b;rw[rH];unfold nj
   have stop:∀ c:Int,c≠0->∀ i:Int,Ev (λ m k=>pG m (cZ m) k c i a.kind a.name a.sort a.kids b.kind b.name b.sort b.kids) c:=by
    intro c hc i;refine aw ?_;simp only[KI,zh];exact ai (ay.2 hc) (aq c)
   have key:a.kids.length=b.kids.length->∀ i,i<=a.kids.length->Ev (λ m k=>pG m (cZ m) k 0 i a.kind a.name a.sort a.kids b.kind b.name b.sort b.kids) (ei ((a.kids.drop i).map aM) (b.kids.drop i)) := λ hlen=>aV a.kids (by omega)
    (λ hc=>by
     refine aw ?_;simp only[KI,zh];refine ah rfl (ai hc ?_);exact al (by rw[hlen,bO,XW]))
    (λ i x hx hd hc hg hi hP=>by
     refine aw ?_;simp only[KI,zh,aA];have hib:i<b.kids.length:=by have:=(fd.1 hx).1;omega
     have hy:=aU hib;have hmx:=aK hx;have h1:=fM a x hmx;have h2:=fM b _ (aK hy);refine ah rfl (ah hc (ao hg (ao (by rw[dz];exact hy) ?_)));rw[VN hd (Yi hy)];refine ag (ih x hmx (by omega) _ (by omega)) ?_;rw[hi];by_cases h:aM x b.kids[i]=0
     ·rw[h];exact hP
     ·rw[hX h];exact stop _ h _)
   have fin:∀ c:Int,(c=0->a.kids.length=b.kids.length)->Ev (λ m k=>pG m (cZ m) m c 0 a.kind a.name a.sort a.kids b.kind b.name b.sort b.kids) (thn c (ei (a.kids.map aM) b.kids)):=by
    intro c hc;refine bd (L := λ m k=>pG m (cZ m) k c 0 a.kind a.name a.sort a.kids b.kind b.name b.sort b.kids) ?_;by_cases h:c=0
    ·subst h;exact(key (hc rfl) 0 (aG _)).res (by rw[bF,bF];rfl)
    ·rw[hX h];exact stop c h 0
   refine ag (ML a ha) (ag (ML b hb) (ag (H4 _ _) ?_));have z0:∀ y,thn 0 y=y := λ y=>rfl;by_cases h1:sgn (size a:Int) (size b)=0
   ·rw[h1,z0];refine ah rfl (ag (H4 _ _) ?_);by_cases h2:sgn a.kind b.kind=0
    ·rw[h2,z0];refine ah rfl (ag (qo8 _ _) ?_);by_cases h3:compareBytes a.name b.name=0
     ·rw[h3,z0];refine ah rfl (ag (H4 _ _) ?_);by_cases h4:sgn a.sort b.sort=0
      ·rw[h4,z0];refine ah rfl (ag (H4 _ _) ?_);grind [Ar]
      ·rw[hX h4];refine ai (ay.2 h4) ?_;exact fin _ λ h=>absurd h h4
     ·rw[hX h3];refine ai (ay.2 h3) (ai (ay.2 h3) ?_);exact fin _ λ h=>absurd h h3
    ·rw[hX h2];refine ai (ay.2 h2) (ai (ay.2 h2) (ai (ay.2 h2) ?_));exact fin _ λ h=>absurd h h2
   ·rw[hX h1];refine ai (ay.2 h1) (ai (ay.2 h1) (ai (ay.2 h1) (ai (ay.2 h1) ?_)));exact fin _ λ h=>absurd h h1
def NZ(a b:T):ieq (aM a b) 0=cc a b:=by
 unfold cc;rw[gG,aB,df];exact qq5 a b
def nW(a b:T)(d:size a<=1000000000:=by omega)(c:size b<=1000000000:=by omega):Ev (λ m _=>jz m a b) (cc a b):=by
 apply aF;simp only[qlj,Li,aA];apply ag (wU a d b c);exact al (NZ a b)
def G1(a b:T)(d:size a<=1000000000)(c:size b<=1000000000):Ev (λ m _=>pJ m a b) (cc a b):=by
 apply aF;simp only[qjU,KO,aA];apply ag (nN a d b c);exact al (NZ a b)
theorem qr2(a b:Int):ieq a b=X (a=b):=by rw[gG,aB,df]
def Ww(c:Int):Ev (λ m _=>zt m c) (nv c):=by
 apply aF;simp only[qi5,Kz];refine(aq (nv c)).congr λ m k=>?_;grind [nv,ile]
def qq3(c:Int):Ev (λ m _=>FF m c) (vR c):=by
 apply aF;simp only[qk2,KQ];refine(aq (vR c)).congr λ m k=>?_;grind [vR,ile]
def Yk(c:Int):Ev (λ m _=>Aj m c) (iJ c):=by
 apply aF;simp only[qmH,Lp];refine(aq (iJ c)).congr λ m k=>?_;grind [iJ,nv,vR,ile,qr2]
def Wy(l:aa aN):Ev (λ m _=>uq m l) (eT l):=by
 apply aF;simp only[qjt,Dw];cases l with
 |nil=>exact ah rfl (aq _)
 |cons c r=>
   refine ai (ay.2 (by simp;omega)) ?_;refine ak (λ h=>?_) λ h=>?_
   .rw[aS]at h;apply al;grind [eT]
   rw[aT]at h;refine ao (lV _) (ag (Ww _) ?_)
   have o:eT (c::r)=(nv (c.toNat:Int)&&(c::r).all λ c=>iJ (c.toNat:Int)):=by
    grind [eT]
   rw[o];cases b:nv (c.toNat:Int)with
   |false=>exact ah rfl (aq _)
   |true=>
     apply ai rfl
     have g:=aV (P:=λ i=>Ev (λ m k=>tN m k (c::r) i) (((c::r).drop i).all λ c=>iJ (c.toNat:Int))) (c::r) (by omega)
      (λ b=>by
       apply aw;simp only[SH,Dx];refine ai b (al ?_);rw[bO];rfl)
      (λ i x s q b a p d=>by
       apply aw;simp only[SH,Dx];refine ah b (ao a (ag (Ww _) ?_));rw[q,dt,p];cases n:nv (x.toNat:Int)with
       |true=>exact ai rfl (d.res (by simp[iJ,n]))
       |false=>
         refine ah rfl (ao a (ag (qq3 _) ?_));cases j:vR (x.toNat:Int)with
         |true=>exact ai rfl (d.res (by simp[iJ,j]))
         |false=>
           refine ah rfl (ao a ?_);by_cases f:(x.toNat:Int)=95
           .exact ai (bnf.2 (aB.2 f)) (d.res (by simp[iJ,f]))
           .refine ah (bnt.2 (ay.2 f)) (ao a ?_);by_cases e:(x.toNat:Int)=35
            .exact ai (bnf.2 (aB.2 e)) (d.res (by simp[iJ,e]))
            .exact ah (bnt.2 (ay.2 e)) (al (by unfold iJ;rw[n,j,bo f,bo e];rfl)))
     apply bd (L:=λ m k=>tN m k (c::r) 0);exact(g 0 (aG _)).res (by rw[bF];rfl)
def qpM(c:Int):(iJ c&&(!(X (48<=c)&&X (c<=57))&&(!(X (c=95)) && !(X (c=35)))))=nv c:=by
 grind [iJ,vR,nv]
def qng(l:aa aN):Ev (λ m _=>wV m l) (eT l):=by
 apply aF;simp only[qky,D9];cases l with
 |nil=>exact ah rfl (aq _)
 |cons c r=>
   apply ai rfl;refine ak (λ h=>?_) λ h=>?_
   .rw[aS]at h;apply al;grind [eT]
   rw[aT]at h;refine ao (lV _) (ag (Yk _) ?_)
   have o:eT (c::r)=(nv (c.toNat:Int)&&(c::r).all λ c=>iJ (c.toNat:Int)):=by
    grind [eT]
   rw[o,<-qpM]
   have e:=aV (P:=λ i=>Ev (λ m k=>pI m k (c::r) (J (c::r)) i) (((c::r).drop i).all λ c=>iJ (c.toNat:Int))) (c::r) (by omega)
    (λ f=>by
     apply aw;simp only[S7,DN];refine ai f (al ?_);rw[bO];rfl)
    (λ i x y s f q p t=>by
     apply aw;simp only[S7,DN];refine ah f (ao q (ag (Yk _) ?_));rw[s,dt,p];cases w:iJ (x.toNat:Int)with
     |true=>exact ai rfl (t.res (by simp))
     |false=>exact ah rfl (aq _))
   have g:Ev (λ m _=>pI m m (c::r) (J (c::r)) 0) ((c::r).all λ c=>iJ (c.toNat:Int)):=by
    apply bd (L:=λ m k=>pI m k (c::r) (J (c::r)) 0);exact(e 0 (aG _)).res (by rw[bF])
   have a:ap (c::r) 0=Z c:=lV _
   have u:Ev (λ m _=>cond (ieq (c.toNat:Int) 95) (Z Y) (ab (ap (c::r) 0) λ v=>cond (ieq (v.toNat:Int) 35) (Z Y) (pI m m (c::r) (J (c::r)) 0))) ((!(X ((c.toNat:Int)=95)) && !(X ((c.toNat:Int)=35)))&&(c::r).all λ c=>iJ (c.toNat:Int)):=by
    by_cases d:(c.toNat:Int)=95
    .exact ah (aB.2 d) (al (by rw[bf d];rfl))
    .refine ai (ay.2 d) (ao a ?_);rw[bo d];by_cases b:(c.toNat:Int)=35
     .exact ah (aB.2 b) (al (by rw[bf b];rfl))
     .refine ai (ay.2 b) (g.res ?_);rw[bo b];rfl
   cases w:iJ (c.toNat:Int)with
   |false=>exact ah rfl (aq _)
   |true=>
     refine ai rfl (ao a ?_);by_cases n:48<=(c.toNat:Int)
     .refine ah (fU.2 n) (ao a ?_);by_cases j:(c.toNat:Int)<=57
      .exact ah (fU.2 j) (al (by rw[bf n,bf j];rfl))
      .refine ai (jI.2 (by omega)) (ao a ?_);grind
     .refine ai (jI.2 (by omega)) (ao a ?_);grind
def qsb(t:T):Ev (λ m _=>Gb m t) (eM t):=by
 apply aF;simp only[qmd,Lk];unfold eM oj
 have i:∀{R:Int},(∀b,eT t.name=b->(if b then(if 8<J t.kids then 3 else 0)else 2)=R)->Ev (λ m _=>ab (uq m t.name) λ v=>cond (am v) (Z 2) (cond (ilt 8 (J t.kids:Int)) (Z 3) (Z 0))) R:=by
  intro R h;apply ag (Wy _);refine Ev.res ?_ (h _ rfl);cases k:eT t.name with
  |false=>exact ah rfl (aq _)
  |true=>
    apply ai rfl;refine ak (λ h=>?_) λ h=>?_
    .rw[aS]at h;exact al (by rw[af rfl,ifP])
    .rw[aT]at h;exact al (by rw[af rfl,ifN])
 have g:J t.kids=0->∀{R:Int},(∀b,eT t.name=b->(if b then 0 else 2)=R)->Ev (λ m _=>ab (uq m t.name) λ v=>cond (am v) (Z 2) (cond (ilt 8 (J t.kids:Int)) (Z 3) (Z 0))) R:=by
  grind
 by_cases f:t.kind=1
 .rw[af (.inl f)];apply ah (aB.2 f);refine ak (λ h=>?_) λ h=>?_
  .rw[aS]at h;exact al (by rw[af (.inl h)])
  rw[aT]at h;refine ak (λ c=>?_) λ c=>?_
  .rw[aS]at c;exact al (by rw[af (.inr (.inl c))])
  rw[aT]at c;refine ak (λ a=>?_) λ a=>?_
  .rw[aS]at a;exact al (by rw[af (.inr (.inr (by omega)))])
  rw[aT]at a;grind
 apply ai (ay.2 f);by_cases d:t.kind=2
 .rw[af (.inr d)];apply ai (bnf.2 (aB.2 d));refine ak (λ h=>?_) λ h=>?_
  .rw[aS]at h;exact al (by rw[af (.inl h)])
  rw[aT]at h;refine ak (λ c=>?_) λ c=>?_
  .rw[aS]at c;exact al (by rw[af (.inr (.inl c))])
  rw[aT]at c;refine ai (bnf.2 (aB.2 d)) (ah (aB.2 d) ?_);refine ak (λ a=>?_) λ a=>?_
  .rw[aS]at a;exact al (by rw[af (.inr (.inr (by omega)))])
  rw[aT]at a;grind
 apply ah (bnt.2 (ay.2 d));rw[ifN];by_cases e:t.kind=3
 .rw[af e];apply ai (bnf.2 (aB.2 e));refine ak (λ h=>?_) λ h=>?_
  .rw[aS]at h;exact al (by rw[ifP])
  rw[aT]at h;refine ak (λ c=>?_) λ c=>?_
  .rw[aS]at c;exact al (by rw[ifP])
  rw[aT]at c;apply ah (bnt.2 (ay.2 d));refine ak (λ a=>?_) λ a=>?_
  .rw[bnt,ay]at a;exact al (by rw[af a])
  rw[bnf,aB]at a;rw[ifN];apply ai (ay.2 d);exact i λ b j=>by rw[j]
 .rw[ae e];exact ah (bnt.2 (ay.2 e)) (aq _)
def qp9(t:T):size t<=1000000000->Ev (λ m _=>lO m t) (iY t):=by
 induction t using T.ind with
 |h t d=>
   intro n;apply aF;simp only[qke,D5,aA];have o:=fL t
   have a:=aV (P:=λ i=>Ev (λ m k=>ua m (lO m) k i t.kind t.name t.sort t.kids) (((t.kids.drop i).map iY).foldl thn 0)) t.kids (by omega)
    (λ b=>by
     apply aw;simp only[Te,D4];apply ai b;exact al (by simp))
    (λ i x e j b g f l=>by
     apply aw;simp only[Te,D4,aA];refine ah b (ao g ?_);have c:=aK e;have p:=fM t x c;apply ag (d x c (by omega));rw[j,bh,qX,f];refine ak (λ h=>?_) λ h=>?_
     .rw[bnt,ay]at h;exact al (by rw[fS _ h])
     .rw[bnf,aB]at h;rw[h];exact l)
   rw[xn];apply ag (qsb t);refine ak (λ h=>?_) λ h=>?_
   .rw[bnt,ay]at h;exact al (by rw[fS _ h])
   .rw[bnf,aB]at h;rw[h];apply bd (L:=λ m k=>ua m (lO m) k 0 t.kind t.name t.sort t.kids);exact(a 0 (aG _)).res (by rw[bF])
def lT(t:T)(a:size t<=1000000000:=by omega):Ev (λ m _=>iA m t) (bw t):=by
 apply aF;simp only[qkx,K5,aA];unfold bw;apply ag (qp9 t a);refine ak (λ h=>?_) λ h=>?_
 .rw[bnt,ay]at h;exact al (by rw[af h])
 rw[bnf,aB]at h;rw[ifN];apply ag (Hp t a);refine ak (λ h=>?_) λ h=>?_
 .rw[aS]at h;exact al (by rw[af (.inl (by omega))])
 rw[aT]at h;apply ag (qoA t a);refine ak (λ h=>?_) λ h=>?_
 .rw[aS]at h;exact al (by rw[af (.inr (by omega))])
 .rw[aT]at h;exact al (by rw[ifN])
def XT(b d:Nat):∀(l:aa Nat) (c:Nat),l.foldl (λ a x=>max a (b+x)) (max d (b+c))=max d (b+l.foldl max c)
 |[],c=>rfl
 |x::l,c=>by
   rw[jv,jv,<-XT b d l (max c x)];congr 1;omega
def qsI(a n d:Nat)(e:Int)(s:Nat)(x:Nat)(r:(Int×Int×Unit)×(Int×Unit)):Prop:=r.2.1=e/\(e=0->r.1.1=((n+s:Nat):Int)/\r.1.2.1=((max d (a+x):Nat):Int))
def qqk(t:T):size t<=1000000000->∀c n d:Nat,c+size t<=2000000000->n+size t<=2000000000->d<=2000000000->∃r,Ev (λ m _=>iD m t c n d) r/\qsI c n d (iY t) (size t) (jf t-1) r:=by
 induction t using T.ind with
 |h t ih=>
   intro hs c n d S B an;have hl:=fL t;have ad:=cM t
   have H:=aV (P:=λ i=>∀n d:Nat,n+((t.kids.drop i).map size).sum<=2000000000->d<=2000000000->∃r,Ev (λ m k=>mN m (iD m) k c t.kids (J t.kids) i n d) r/\r.2.1=((t.kids.drop i).map iY).foldl thn 0/\(((t.kids.drop i).map iY).foldl thn 0=0->r.1.1=((n+((t.kids.drop i).map size).sum:Nat):Int)/\r.1.2.1=((((t.kids.drop i).map jf).foldl (λ a x=>max a (c+x)) d:Nat):Int))) t.kids (by omega)
    (λ M n d _ _=>by
     refine⟨((n,d,()),(0,())),?_,?_,λ _=>⟨?_,?_⟩⟩
     .apply aw;simp only[Ts,EL];exact ai M (aq _)
     .simp
     .simp
     .simp)
    (λ i x hx hd M hg hi hP n d B K=>by
     have R:=aK hx;have q:=fM t x R;rw[MW hd]at B;let⟨r,hr,C,hz⟩:=ih x R (by omega) (c+1) n d (by omega) (by omega) K
     have l:∀w ,(r.2.1≠0->w=((r.1.1,r.1.2.1,()),(r.2.1,())))->(r.2.1=0->Ev (λ m k=>mN m (iD m) k c t.kids (J t.kids) ((i+1:Nat):Int) r.1.1 r.1.2.1) w)->Ev (λ m k=>mN m (iD m) k c t.kids (J t.kids) i n d) w:=by
      intro w A u;apply aw;simp only[Ts,EL,aA];refine ah M (ao hg ?_);rw[show av (c:Int) 1=((c+1:Nat):Int) by unfold av;omega,dC,hi];apply ag hr;refine ak (λ h=>?_) λ h=>?_
      .rw[bnt,ay]at h;exact al (A h).symm
      .rw[bnf,aB]at h;exact u h
     rw[hd,bh,bh,bh,iv,qX,jv];by_cases f:iY x=0
     .let⟨z1,z2⟩:=hz f;have W:=Ny x;let⟨w,A,u,E⟩:=hP (n+size x) (max d (c+1+(jf x-1))) (by omega) (by omega);refine⟨w,l w (λ h=>absurd (C.trans f) h) (λ _=>by rw[z1,z2];exact A),by rw[f];exact u,λ o=>?_⟩;rw[f]at o;let⟨G,F⟩:=E o;refine⟨by rw[G];congr 1;omega,?_⟩;rw[F];have:jf x ≥ 1:=by rw[xB];omega
      rw[show max d (c+1+(jf x-1))=max d (c+jf x) by omega]
     .refine⟨((r.1.1,r.1.2.1,()),(r.2.1,())),l _ (λ _=>rfl) (λ h=>absurd (C.symm.trans h) f),?_,λ o=>?_⟩
      .rw[fS _ f];exact C
      .rw[fS _ f]at o;exact absurd o f)
   have start:∀r,(eM t≠0->r=((((n+1:Nat):Int),((max d c:Nat):Int),()),(eM t,())))->(eM t=0->Ev (λ m _=>mN m (iD m) m c t.kids (J t.kids) 0 ((n+1:Nat):Int) ((max d c:Nat):Int)) r)->Ev (λ m _=>iD m t c n d) r:=by
    intro r A u;apply aF;simp only[qlt,Ew];rw[show av (n:Int) 1=((n+1:Nat):Int) by unfold av;omega,dC,X8]
    have g:∀e,eM t=e->e≠0->Ev (λ _ _=>Z ((((n+1:Nat):Int),((max d c:Nat):Int),()),(e,()))) r:=by
     intro e C h;apply al;subst C;exact(A h).symm
    have Q:(t.kind=3\/J t.kids=0)->(∀b,eT t.name=b->(if b then(if 8<J t.kids then 3 else 0)else 2)=eM t)->Ev (λ m _=>ab (wV m t.name) λ v=>cond (am v) (Z ((((n+1:Nat):Int),((max d c:Nat):Int),()),(2,()))) (cond (ilt 8 (J t.kids:Int)) (Z ((((n+1:Nat):Int),((max d c:Nat):Int),()),(3,()))) (mN m (iD m) m c t.kids (J t.kids) 0 ((n+1:Nat):Int) ((max d c:Nat):Int)))) r:=by
     intro _ h;have h:=h _ rfl;apply ag (qng _);cases B:eT t.name with
     |false=>rw[B]at h;exact ah rfl (g 2 h.symm (by decide))
     |true=>
       rw[B,af rfl]at h;apply ai rfl;refine ak (λ j=>?_) λ j=>?_
       .rw[aS]at j;rw[ifP]at h;exact g 3 h.symm (by decide)
       .rw[aT]at j;rw[ifN]at h;exact u h.symm
    have y:∀k,t.kind=k->(k=1\/k=2)->eM t=if t.sort<0\/5<t.sort\/0<J t.kids then 1 else if eT t.name then 0 else 2:=by
     intro k I h;unfold eM oj;rw[I,af h]
    have s:∀k,t.kind=k->(k=1\/k=2)->Ev (λ m _=>cond (ilt t.sort 0) (Z ((((n+1:Nat):Int),((max d c:Nat):Int),()),(1,()))) (cond (ilt 5 t.sort) (Z ((((n+1:Nat):Int),((max d c:Nat):Int),()),(1,()))) (cond (ilt 0 (J t.kids:Int)) (Z ((((n+1:Nat):Int),((max d c:Nat):Int),()),(1,()))) (ab (wV m t.name) λ v=>cond (am v) (Z ((((n+1:Nat):Int),((max d c:Nat):Int),()),(2,()))) (cond (ilt 8 (J t.kids:Int)) (Z ((((n+1:Nat):Int),((max d c:Nat):Int),()),(3,()))) (mN m (iD m) m c t.kids (J t.kids) 0 ((n+1:Nat):Int) ((max d c:Nat):Int))))))) r:=by
     intro k I h;have p:=y k I h;refine ak (λ j=>?_) λ j=>?_
     .rw[aS]at j;exact g 1 (by rw[p,af (.inl j)]) (by decide)
     rw[aT]at j;refine ak (λ q=>?_) λ q=>?_
     .rw[aS]at q;exact g 1 (by rw[p,af (.inr (.inl q))]) (by decide)
     rw[aT]at q;refine ak (λ z=>?_) λ z=>?_
     .rw[aS]at z;exact g 1 (by rw[p,af (.inr (.inr (by omega)))]) (by decide)
     rw[aT]at z;rw[ifN]at p;refine Q (.inr (by omega)) λ b N=>?_;rw[p,N,ae (show ¬ 8<J t.kids by omega)]
    by_cases q:t.kind=1
    .exact ah (aB.2 q) (s 1 q (.inl rfl))
    apply ai (ay.2 q);by_cases z:t.kind=2
    .exact ah (aB.2 z) (s 2 z (.inr rfl))
    apply ai (ay.2 z);by_cases D:t.kind=3
    .apply ah (aB.2 D)
     have p:eM t=if t.sort≠0 then 1 else if eT t.name then(if 8<J t.kids then 3 else 0)else 2:=by
      unfold eM oj;rw[ifN,af D]
     refine ak (λ j=>?_) λ j=>?_
     .rw[bnt,ay]at j;exact g 1 (by rw[p,af j]) (by decide)
     rw[bnf,aB]at j;rw[ifN]at p;exact Q (.inl D) λ b N=>by rw[p,N]
    .apply ai (ay.2 D);refine g 1 ?_ (by decide);unfold eM oj;rw[ifN,ae D]
   rw[xn];by_cases f:eM t=0
   .rw[f];let⟨r,A,u,E⟩:=H 0 (aG _) (n+1) (max d c) (by rw[bF];omega) (by omega);rw[bF]at u E;refine⟨r,start r (λ h=>absurd f h) (λ _=>bd (L:=λ m k=>mN m (iD m) k c t.kids (J t.kids) 0 ((n+1:Nat):Int) ((max d c:Nat):Int)) A),u,λ o=>?_⟩;let⟨G,F⟩:=E o;refine⟨by rw[G];congr 1;omega,?_⟩;rw[F,show max d c=max d (c+0) by omega,XT,xB,qc0]
   .refine⟨_,start _ (λ _=>rfl) (λ h=>absurd h f),?_,λ o=>?_⟩
    .rw[fS _ f]
    .rw[fS _ f]at o;exact absurd o f
def lW(t:T)(c:size t<=1000000000:=by omega):Ev (λ m _=>fI m t) (bw t):=by
 apply aF;simp only[qlI,Ll,aA];unfold bw;let⟨r,f,e,d⟩:=qqk t c 1 0 0 (by omega) (by omega) (by omega);apply ag f;rw[e];refine ak (λ h=>?_) λ h=>?_
 .rw[bnt,ay]at h;exact al (by rw[af h])
 rw[bnf,aB]at h;let⟨b,a⟩:=d h;have g:jf t ≥ 1:=by rw[xB];omega
 rw[ifN,b,a];refine ak (λ h=>?_) λ h=>?_
 .rw[aS]at h;exact al (by rw[af (.inl (by omega))])
 rw[aT]at h;refine ak (λ h=>?_) λ h=>?_
 .rw[aS]at h;exact al (by rw[af (.inr (by omega))])
 .rw[aT]at h;exact al (by rw[ifN])
def Nk(t:T):size t<=1000000000->Ev (λ m _=>jA m t) t:=by
 induction t using T.ind with
 |h t e=>
   intro l;apply aF;simp only[qlb,ED];have n:=fL t
   have a:=aV (P:=λ i=>Ev (λ m k=>uj m (jA m) k t.kids (J t.kids) i t.kind t.name t.sort 0 [] 0 (t.kids.take i) []) t) t.kids (by omega)
    (λ b=>by
     apply aw;simp only[Tn,EI];apply ai b;rw[cI];exact al (aA t))
    (λ i x c o b g f j=>by
     apply aw;simp only[Tn,EI,aA];have d:=aK c;have p:=fM t x d;refine ah b (ao g (ag (e x d (by omega)) (ah (bD ?_) ?_)))
     .have:J (t.kids.take i)<=J t.kids:=by rw[bg];omega
      omega
     .rw[f];refine j.congr λ m k=>?_;rw[eI,c];rfl)
   apply bd (L:=λ m k=>uj m (jA m) k t.kids (J t.kids) 0 t.kind t.name t.sort 0 [] 0 [] []);exact a 0 (aG _)
def je:T->Prop:=T.para λ t a=>J t.kids<2^62/\J t.name<2^62/\∀p∈a,p
def YJ(t:T):je t↔J t.kids<2^62/\J t.name<2^62/\∀k∈t.kids,je k:=by
 unfold je;rw[T.para_eq];exact⟨λ⟨a,b,c⟩=>⟨a,b,λ k d=>c _ (nK d)⟩,λ⟨a,b,c⟩=>⟨a,b,λ p e=>by obtain⟨k,d,rfl⟩:=bE.1 e;exact c k d⟩⟩
def M6{l:aa T}{a:Int}(c:0<=a)(h:pj l a=O):∀t∈l,(size t:Int)<=a:=λ t b=>by
 have e:=VZ l a c h;have d:=FW l t b;omega
end
end Go.AmZ
namespace Go.GxZ
def Bf(t:T):Int:=if(bK t.name).2.2=0 then 10 else if pt dw t.name (J t.kids)=Y then 6 else if(bK t.name).2.2=2/\xD t=Y then 10 else 0
def Vo(n:aa aN):(dw.find? λ r=>r.1==n)=U\/∃r∈dw,r.1=n/\(dw.find? λ r=>r.1==n)=Z r:=by
 cases h:dw.find? λ r=>r.1==n with
 |none=>exact .inl rfl
 |some r=>exact .inr ⟨r,qc8 h,by simpa using List.find?_some h,rfl⟩
def U1{n:aa aN}(h:(dw.find? λ r=>r.1==n)=U):bK n=(0,0,0):=by unfold bK;rw[h];rfl
def LN{n:aa aN}{r:aa aN×Int×Int×Int}(h:(dw.find? λ r=>r.1==n)=Z r):bK n=r.2:=by unfold bK;rw[h];rfl
def qaP(r:aa aN×Int×Int×Int):Bool:=
 decide (r.2.2.2≠0)&&X (0<=r.2.1)&&X (r.2.2.1<=8)&&(X (r.2.2.2=2)==(r.1==mw||r.1==nSk||r.1==vX))&&(X (r.2.2.2=2)==X (r.2.2.2=2/\1<=r.2.1))&&(X (r.2.2.2=3)==(r.1==PT||r.1==Bj||r.1==Qw||r.1==OA||r.1==Ov||r.1==OX))
def qsC:dw.all qaP=O:=by decide
def U9{n:aa aN}(h:(bK n).2.2≠0):Pg dw n=O/\yq dw n=bK n/\0<=(bK n).1/\(bK n).2.1<=8/\((bK n).2.2=2↔n=mw\/n=nSk\/n=vX)/\((bK n).2.2=2->1<=(bK n).1)/\((bK n).2.2=3↔isD n=O):=by
 obtain b|⟨r,d,g,b⟩:=Vo n
 .rw[U1 b]at h;exact absurd rfl h
 .have c:=bB.1 qsC r d;subst g;rw[LN b];unfold qaP at c;simp only[aJ,wn,cR]at c;let⟨⟨⟨⟨⟨l,k⟩,j⟩,a⟩,f⟩,i⟩:=c;refine⟨Jv.2 ⟨r,d,by simp⟩,LN b,k,j,?_,?_,?_⟩
  .constructor
   .intro h;rw[bf h]at a;have:=a.symm;simp only[gg,wn]at this;exact BM.1 this
   .intro h;by_cases e:r.2.2.2=2
    .exact e
    .rw[bo e]at a;have:=a.symm;simp only[BE,gH]at this;obtain h|h|h:=h
     .exact absurd h this.1.1
     .exact absurd h this.1.2
     .exact absurd h this.2
  .intro h;rw[bf h]at f;have:=bI f.symm;exact this.2
  .unfold isD;rw[<-i];simp
def qqA(t:T)(n:t.kind=3):Bf t=ic t:=by
 unfold Bf ic;rw[ae (show ¬ (t.kind≠3)from λ h=>h n)];by_cases b:(bK t.name).2.2=0
 .rw[af b,af b]
 .rw[ae b,ae b];let⟨j,i,r,q,g,p,o⟩:=U9 b
  have e1:pt dw t.name (J t.kids)=(X ((bK t.name).1<=(J t.kids:Int))&&X ((J t.kids:Int)<=(bK t.name).2.1)):=by
   unfold pt;rw[j,i,bU]
  rw[e1];by_cases e:(J t.kids:Int)<(bK t.name).1\/(bK t.name).2.1<(J t.kids:Int)
  .rw[af e,af];rw[qc2,pF,pF];omega
  .rw[ae e,ae]
   .have f:(bK t.name).2.2=2/\xD t=Y↔iI t=O:=by
      rw[g];unfold xD iI;by_cases a:t.name=mw
      .rw[af a,af a];simp[a]
      .rw[ae a,ae a];by_cases c:t.name=nSk\/t.name=vX
       .rw[af c]
        have:agB t.kids = !(t.kids.any λ k=>X (k.kind=3)||X (k.sort≠1)):=by
         unfold agB;generalize t.kids=l
         induction l with
         |nil=>rfl
         |cons x l m=>simp only[dt,wo,m,Bool.not_or];congr 1;congr 1;by_cases h:x.sort=1<;>simp[bne,h]
        rw[this];simp[c]
       .rw[ae c];constructor
        .rintro⟨h,_⟩;obtain h|h:=h
         .exact absurd h a
         .exact absurd h c
        .intro h;cases h
    by_cases d:iI t=O
    .rw[af d,af (f.2 d)]
    .rw[ae d,ae (λ h=>d (f.1 h))]
   .rw[qc2,pF,pF];omega
theorem xi{t:T}(e:t.kind=3)(h:bL t=0):ic t=0/\(∀k∈t.kids,bL k=0):=by
 rw[AD,ae (show ¬ (t.kind≠3)from λ h=>h e)]at h;by_cases c:ic t=0
 .refine⟨c,?_⟩;rw[c]at h;generalize t.kids=l at*
  induction l with
  |nil=>intro k a;cases a
  |cons x l d=>
    rw[bh,qX]at h;by_cases b:bL x=0
    .rw[b]at h;intro k a;obtain rfl|a:=be.1 a
     .exact b
     .exact d h k a
    .rw[fS _ b]at h;exact absurd h b
 .rw[fS _ c]at h;exact absurd h c
end Go.GxZ
namespace Go.AmZ
open GxZ
section
open Lib
def qj(t:T)(n:aa aN):Ev (λ m _=>jl m t n) (isN t n):=by
 apply aF;simp only[qmy,Ls];unfold isN;refine ak (λ h=>?_) λ h=>?_
 .rw[aB]at h;exact al (by rw[h];rfl)
 .rw[ay]at h;exact al (by rw[show(t.kind==3)=Y from gH.2 h];rfl)
def vm(t:T)(n:aa aN):Ev (λ m _=>oR m t n) (isN t n):=by
 apply aF;simp only[qnJ,LI];unfold isN;refine ak (λ h=>?_) λ h=>?_
 .rw[aB]at h;exact al (by rw[h];rfl)
 .rw[ay]at h;exact al (by rw[show(t.kind==3)=Y from gH.2 h];rfl)
def qsT(n:aa aN)(l:aa T):Ev (λ m _=>zV m n l) (apT n l):=aF (aq _)
def pY(n:aa aN)(l:aa T)(a:J l<=1000000000:=by omega):Ev (λ m _=>gX m n l) (apT n l):=by
 apply aF;simp only[qmB,Lu];refine ah (bD (by simp;omega)) ?_;refine oJ (λ h=>?_) λ x t h=>?_
 .subst h;exact aq _
 .subst h;exact aq _
def P3(n:aa aN):aa aN×Int×Int×Int:=(dw.find? λ r=>r.1==n).getD ([],0,0,0)
def G2(n:aa aN):(P3 n).2=bK n:=by
 unfold P3 bK;cases dw.find? λ r=>r.1==n<;>rfl
def MA(n:aa aN):Ev (λ m _=>wR m n) (P3 n):=by
 apply aF;simp only[qhH,C8];apply ag (a:=dw) (aq _)
 have b:=aV (P:=λ i=>Ev (λ m k=>tH m k n dw (J dw) i [] 0 0 0) (((dw.drop i).find? λ r=>r.1==n).getD ([],0,0,0))) dw (by decide)
  (λ c=>by
   apply aw;simp only[Sb,C0];apply ai c;exact aq _)
  (λ i x j f c e d g=>by
   apply aw;simp only[Sb,C0];refine ah c (ao e ?_);rw[f,qc9,d];refine ak (λ h=>?_) λ h=>?_
   .exact al (by rw[show(x.1==n)=O from h];rfl)
   .rw[show(x.1==n)=Y from h];exact g)
 apply bd (L:=λ m k=>tH m k n dw (J dw) 0 [] 0 0 0);exact b 0 (aG _)
def WU{t:T}(a:t.kind=3)(h:ic t=0):(bK t.name).2.2≠0/\(bK t.name).1<=(J t.kids:Int)/\(J t.kids:Int)<=(bK t.name).2.1/\iI t=Y:=by
 grind [ic]
def NY{t:T}{i:Nat}(h:i<J t.kids:=by omega):ap t.kids (i:Int)=Z (kid t i):=by
 grind [kid,dz,List.getElem?_eq_getElem]
def lq{t:T}(h:0<J t.kids:=by omega):ap t.kids 0=Z (kid t 0):=NY (i:=0) h
def yk{t:T}(h:1<J t.kids:=by omega):ap t.kids 1=Z (kid t 1):=NY (i:=1) h
def ZQ{t:T}{i:Nat}(h:i<J t.kids):kid t i∈t.kids:=by
 grind [kid]
theorem du{t:T}{n:aa aN}:isN t n=O↔t.kind=3/\t.name=n:=by
 grind [isN]
def qpg(t:T):size t<=1000000000->Ev (λ m _=>fH m t) (bL t):=by
 induction t using T.ind with
 |h t D=>
   intro E;apply aF;simp only[qjl,Dj];have F:=fL t;rw[AD];refine ak (λ h=>?_) λ A=>?_
   .rw[bnt,ay]at h;exact al (by rw[af h])
   rw[bnf,aB]at A;rw[ae (show ¬ t.kind≠3 from λ c=>c A)]
   have B:=aV (P:=λ i=>Ev (λ m k=>(iT m (fH m) k).2 t.kids (J t.kids) i) (((t.kids.drop i).map bL).foldl thn 0)) t.kids (by omega)
    (λ e=>by
     apply aw;simp only[SR,Dl];apply ai e;exact al (by simp))
    (λ i x w u e s r v=>by
     apply aw;simp only[SR,Dl,aA];have z:=aK w;have f:=fM t x z;refine ah e (ao s (ag (D x z (by omega)) ?_));rw[u,bh,qX,r];refine ak (λ h=>?_) λ h=>?_
     .rw[bnt,ay]at h;exact al (by rw[fS _ h])
     .rw[bnf,aB]at h;rw[h];exact v)
   have q:Ev (λ m k=>(iT m (fH m) k).2 t.kids (J t.kids) 0) ((t.kids.map bL).foldl thn 0):=(B 0 (aG _)).res (by rw[bF])
   have C:=aV (P:=λ i=>Ev (λ m k=>(iT m (fH m) k).1 t.kids (J t.kids) i t.kind t.name t.sort t.kids) (if(t.kids.drop i).any (λ k=>X (k.kind=3)||X (k.sort≠1))=O then 10 else(t.kids.map bL).foldl thn 0)) t.kids (by omega)
    (λ e=>by
     apply aw;simp only[SN,DG];apply ai e;apply q.res;rw[bO];rfl)
    (λ i x w u e s r v=>by
     apply aw;simp only[SN,DG,aA];refine ah e (ao s ?_);rw[u,wo,r];refine ak (λ h=>?_) λ h=>?_
     .rw[aB]at h;exact al (by rw[bf h];rfl)
     rw[ay]at h;rw[bo h];refine ak (λ n=>?_) λ n=>?_
     .rw[bnt,ay]at n;exact al (by rw[bf n];rfl)
     .rw[bnf,aB]at n;rw[bo (λ c=>c n)];exact v)
   have o:ic t=0->Ev (λ m _=>(iT m (fH m) m).2 t.kids (J t.kids) 0) ((t.kids.map bL).foldl thn (ic t)):=λ h=>by
    grind [Ev.diag]
   have d:iI t=t.kids.any (λ k=>X (k.kind=3)||X (k.sort≠1))->ic t=(if iI t=O then 10 else 0)->Ev (λ m _=>(iT m (fH m) m).1 t.kids (J t.kids) 0 t.kind t.name t.sort t.kids) ((t.kids.map bL).foldl thn (ic t)):=λ y h=>by
    apply (bd (L:=λ m k=>(iT m (fH m) k).1 t.kids (J t.kids) 0 t.kind t.name t.sort t.kids) (C 0 (aG _))).res;grind [fS]
   apply ag (MA t.name);rw[G2]
   have a:ic t=if(bK t.name).2.2=0 then 10 else if(J t.kids:Int)<(bK t.name).1\/(bK t.name).2.1<(J t.kids:Int)then 6 else if iI t=O then 10 else 0:=by
    grind [ic]
   refine ak (λ h=>?_) λ h=>?_
   .rw[aB]at h;rw[af h]at a;exact al (by rw[a,fS _ (by decide)])
   rw[ay]at h;rw[ae h]at a;refine ak (λ f=>?_) λ f=>?_
   .rw[aS]at f;rw[af (.inl f)]at a;exact al (by rw[a,fS _ (by decide)])
   rw[aT]at f;refine ak (λ p=>?_) λ p=>?_
   .rw[aS]at p;rw[af (.inr p)]at a;exact al (by rw[a,fS _ (by decide)])
   rw[aT]at p;rw[ifN]at a;refine ak (λ l=>?_) λ l=>?_
   .rw[cr]at l;refine d ?_ a;unfold iI;rw[l,ae (by decide),af (.inl rfl)]
   rw[cC]at l;refine ak (λ b=>?_) λ b=>?_
   .rw[cr]at b;refine d ?_ a;unfold iI;rw[b,ae (by decide),af (.inr rfl)]
   rw[cC]at b;refine ak (λ g=>?_) λ g=>?_
   .rw[cr]at g
    have j:0<J t.kids:=by
     rw[g,show(bK [110,101,119]).1=1 from by decide]at f;omega
    apply ao (lq j)
    have y:iI t=X ((kid t 0).kind≠2):=by
     grind [iI,mw]
    refine ak (λ c=>?_) λ c=>?_
    .rw[bnt,ay]at c;rw[y,bf c,af rfl]at a;exact al (by rw[a,fS _ (by decide)])
    .rw[bnf,aB]at c;grind
   .rw[cC]at g;apply o
    have:iI t=Y:=by
     unfold iI;rw[ae (show ¬ t.name=mw from g),ae (λ h=>h.elim l b)]
    rw[this]at a;exact a
def YC(t:T)(a:size t<=1000000000):Ev (λ m _=>zA m t) (ox t):=by
 apply aF;simp only[qi8,KG,aA];unfold ox;apply ag (lW t a);refine ak (λ h=>?_) λ h=>?_
 .rw[bnt,ay]at h;exact al (by rw[hX h])
 .rw[bnf,aB]at h;rw[h];exact ag (qpg t a) (aq _)
def Ia(n:aa aN):Ev (λ m _=>uI m n) (bK n).2.2:=by
 apply aF;simp only[qlG,Ek];apply ag (a:=dw) (aF (aq _))
 have b:=aV (P:=λ i=>Ev (λ m k=>ur m k n dw i) (((dw.drop i).find? λ r=>r.1==n).getD ([],0,0,0)).2.2.2) dw (by decide)
  (λ c=>by
   apply aw;simp only[Tp,Em];apply ai c;exact aq _)
  (λ i x j f c d e g=>by
   apply aw;simp only[Tp,Em];refine ah c (ao d ?_);rw[f,qc9,e];refine ak (λ h=>?_) λ h=>?_
   .refine ao d (al ?_);rw[show(x.1==n)=O from h];rfl
   .rw[show(x.1==n)=Y from h];exact g)
 apply bd (L:=λ m k=>ur m k n dw 0);exact(b 0 (aG _)).res (by rw[<-G2];rfl)
def qr4(t:T):Ev (λ m _=>F7 m t) (pt dw t.name (J t.kids)):=by
 apply aF;simp only[qla,Ei];apply ag (a:=dw) (aF (aq _))
 have c:=aV (P:=λ i=>Ev (λ m k=>uo m k dw i t.kind t.name t.sort t.kids) (pt (dw.drop i) t.name (J t.kids))) dw (by decide)
  (λ e=>by
   apply aw;simp only[TB,EP];apply ai e;exact aq _)
  (λ i x l g e d f j=>by
   apply aw;simp only[TB,EP];refine ah e (ao d ?_);rw[g,qog,f];refine ak (λ h=>?_) λ h=>?_
   .rw[af (show(x.1==t.name)=O from h)];apply ao d;refine ak (λ b=>?_) λ b=>?_
    .rw[fU]at b;refine ao d (al ?_);rw[bf b];rfl
    .rw[jI]at b;exact al (by rw[bo (by omega)];rfl)
   .rw[ae (by rw[show(x.1==t.name)=Y from h];decide)];exact j)
 apply bd (L:=λ m k=>uo m k dw 0 t.kind t.name t.sort t.kids);exact c 0 (aG _)
def qn3(t:T)(f:J t.kids<2^62)(a:t.name=mw->0<J t.kids):Ev (λ m _=>ES m t) (xD t):=by
 apply aF;simp only[qjc,Dv];unfold xD;refine ak (λ h=>?_) λ h=>?_
 .rw[cr]at h;rw[af (show t.name=mw from h)];refine ao (lq (a h)) (aq _)
 rw[cC]at h;rw[ae (show ¬ t.name=mw from h)]
 have c:=aV (P:=λ i=>Ev (λ m k=>tT m k i t.kind t.name t.sort t.kids) (agB (t.kids.drop i))) t.kids f
  (λ d=>by
   apply aw;simp only[SK,DB];apply ai d;exact al (by rw[bO];rfl))
  (λ i x n j d e g l=>by
   apply aw;simp only[SK,DB];refine ah d (ao e ?_);rw[j,qpI,g];refine ak (λ h=>?_) λ h=>?_
   .exact al (by rw[show(x.kind==3)=O from h];rfl)
   rw[show(x.kind==3)=Y from h];apply ao e;refine ak (λ b=>?_) λ b=>?_
   .rw[bnt,ay]at b;exact al (by rw[show(x.sort != 1)=O from bne_iff_ne.2 b];rfl)
   .rw[bnf,aB]at b;rw[show(x.sort != 1)=Y by rw[b];rfl];exact l)
 apply bd (L:=λ m k=>tT m k 0 t.kind t.name t.sort t.kids);exact(c 0 (aG _)).res (by rw[bF])
def qpr(t:T):size t<=1000000000->Ev (λ m _=>lf m t) (bL t):=by
 induction t using T.ind with
 |h t g=>
   intro C;apply aF;simp only[qkm,DU,aA];have E:=fL t;rw[AD];refine ak (λ h=>?_) λ e=>?_
   .rw[bnt,ay]at h;exact al (by rw[af h])
   rw[bnf,aB]at e;rw[ae (show ¬ t.kind≠3 from λ n=>n e),<-qqA t e]
   have c:=aV (P:=λ i=>Ev (λ m k=>qZ m (lf m) k i t.kind t.name t.sort t.kids) (((t.kids.drop i).map bL).foldl thn 0)) t.kids (by omega)
    (λ d=>by
     apply aw;simp only[S5,D1];apply ai d;exact al (by simp))
    (λ i x j q d o l s=>by
     apply aw;simp only[S5,D1,aA];have f:=aK j;have F:=fM t x f;refine ah d (ao o (ag (g x f (by omega)) ?_));rw[q,bh,qX,l];refine ak (λ h=>?_) λ h=>?_
     .rw[bnt,ay]at h;exact al (by rw[fS _ h])
     .rw[bnf,aB]at h;rw[h];exact s)
   have a:Bf t=0->Ev (λ m _=>qZ m (lf m) m 0 t.kind t.name t.sort t.kids) ((t.kids.map bL).foldl thn (Bf t)):=λ h=>by
    rw[h];exact(bd (L:=λ m k=>qZ m (lf m) k 0 t.kind t.name t.sort t.kids) (c 0 (aG _))).res (by rw[bF])
   unfold Bf at a |-
   apply ag (Ia t.name);refine ak (λ h=>?_) λ h=>?_
   .rw[aB]at h;rw[af h];exact al (by rw[fS _ (by decide)])
   rw[ay]at h;rw[ae h]at a |-
   apply ag (qr4 t);cases p:pt dw t.name (J t.kids) with
   |false=>
     apply ah rfl;rw[af rfl];exact al (by rw[fS _ (by decide)])
   |true=>
     rw[p,ae (by decide)]at a;rw[ae (by decide)];apply ai rfl;refine ak (λ b=>?_) λ b=>?_
     .rw[aB]at b;refine ag (qn3 t (by omega) λ D=>?_) ?_
      .let⟨B,A,z,y,w,v,u⟩:=U9 h;grind [pt]
      cases r:xD t with
      |false=>
        apply ah rfl;rw[af ⟨b,rfl⟩];exact al (by rw[fS _ (by decide)])
      |true=>
        rw[r,ae (by rintro⟨_,h⟩;cases h)]at a;rw[ae (by rintro⟨_,h⟩;cases h)];exact ai rfl (a rfl)
     .rw[ay]at b;grind
def YY(t:T)(a:size t<=1000000000):Ev (λ m _=>zG m t) (ox t):=by
 apply aF;simp only[qkG,KX,aA];unfold ox;apply ag (lT t a);refine ak (λ h=>?_) λ h=>?_
 .rw[bnt,ay]at h;exact al (by rw[hX h])
 .rw[bnf,aB]at h;rw[h];exact ag (qpr t a) (aq _)
end
end Go.AmZ
namespace Go.GxZ
def Asc(l:aa T):Prop:=l.Pairwise λ a b=>aM a b=-1
def jX{a:T}:aM a a≠-1:=by rw[pT];decide
def NM{a b:T}:aM a b=1↔aM b a=-1:=by
 have:=dA.anti a b;omega
theorem GU(a b:T):aM a b=-1\/a=b\/aM b a=-1:=by
 have h:=dA.rng a b;have c:=dA.anti a b;obtain h|h|h:=h
 .exact .inl h
 .exact .inr (.inl (lg a b h))
 .exact .inr (.inr (by omega))
theorem lX{a b c:T}(e:aM a b=-1)(d:aM b c=-1):aM a c=-1:=dA.trans a b c e d
def nO{x:T}{l:aa T}:Asc (x::l)↔(∀y∈l,aM x y=-1)/\Asc l:=wu
def AK:∀(l m:aa T),Asc l->Asc m->(∀x,x∈l↔x∈m)->l=m
 |[],[],_,_,_=>rfl
 |[],y::m,_,_,h=>absurd ((h y).2 (bj ..)) (by simp)
 |x::l,[],_,_,h=>absurd ((h x).1 (bj ..)) (by simp)
 |x::l,y::m,n,k,h=>by
   let⟨c,i⟩:=nO.1 n;let⟨b,g⟩:=nO.1 k;have f:=(h x).1 (bj ..);have d:=(h y).2 (bj ..)
   have e:x=y:=by
    obtain e|f:=be.1 f
    .exact e
    obtain e|d:=be.1 d
    .exact e.symm
    exact absurd (lX (c y d) (b x f)) jX
   subst e;rw[AK l m i g λ z=>?_];constructor
   .intro a;obtain e|j:=be.1 ((h z).1 (bk _ a))
    .subst e;exact absurd (c z a) jX
    .exact j
   .intro a;obtain e|j:=be.1 ((h z).2 (bk _ a))
    .subst e;exact absurd (b z a) jX
    .exact j
def Vl(n:Nat):∀(a b:aa T),J a+J b<=n->Asc a->Asc b->Asc (cg a b)/\(∀x,x∈cg a b↔¬(x∈a↔x∈b)):=by
 induction n with
 |zero=>
   intro a b h _ _;obtain rfl:a=[]:=sQ.1 (by omega);obtain rfl:b=[]:=sQ.1 (by omega);rw[cg];exact⟨List.Pairwise.nil,by simp⟩
 |succ n p=>
   intro a b h u t
   match a,b with
   |[],b=>rw[cg];exact⟨t,by simp⟩
   |x::a,[]=>rw[cg];exact⟨u,by simp[Classical.or_iff_not_imp_left]⟩
   |x::a,y::b=>
     rw[cg];let⟨g,o⟩:=nO.1 u;let⟨f,m⟩:=nO.1 t;simp only[bH]at h;by_cases k:aM x y=-1
     .rw[af k];let⟨l,i⟩:=p a (y::b) (by simp;omega) o t
      have s:x ∉ y::b:=by
       intro h;obtain e|h:=be.1 h
       .subst e;exact jX k
       .exact jX (lX k (f x h))
      have B:x ∉ a:=λ h=>jX (g x h);refine⟨nO.2 ⟨λ z q=>?_,l⟩,λ z=>?_⟩
      .have:=(i z).1 q;by_cases d:z∈a
       .exact g z d
       .have c:z∈y::b:=by
          by_cases c:z∈y::b
          .exact c
          .exact absurd ⟨λ h=>absurd h d,λ h=>absurd h c⟩ this
        obtain e|w:=be.1 c
        .rw[e];exact k
        .exact lX k (f z w)
      .rw[be,i,be (a:=z) (b:=x)];by_cases e:z=x
       .subst e;simp[s]
       .simp[e]
     .rw[ae k];by_cases v:aM x y=1
      .rw[af v];have j:=NM.1 v;let⟨l,i⟩:=p (x::a) b (by simp;omega) u m
       have r:y ∉ x::a:=by
        intro h;obtain e|h:=be.1 h
        .subst e;exact jX j
        .exact jX (lX j (g y h))
       have A:y ∉ b:=λ h=>jX (f y h);refine⟨nO.2 ⟨λ z q=>?_,l⟩,λ z=>?_⟩
       .have:=(i z).1 q;by_cases c:z∈b
        .exact f z c
        .have d:z∈x::a:=by
           by_cases d:z∈x::a
           .exact d
           .exact absurd ⟨λ h=>absurd h d,λ h=>absurd h c⟩ this
         obtain e|w:=be.1 d
         .rw[e];exact j
         .exact lX j (g z w)
       .rw[be,i,be (a:=z) (b:=y)];by_cases e:z=y
        .subst e;simp[r]
        .simp[e]
      .rw[ae v];have j:aM x y=0:=by have:=dA.rng x y;omega
       have e:=lg x y j;subst e;let⟨l,i⟩:=p a b (by omega) o m;refine⟨l,λ z=>?_⟩;rw[i,be,be];by_cases e:z=x
       .subst e;have:z ∉ a:=λ h=>jX (g z h);have:z ∉ b:=λ h=>jX (f z h);simp[*]
       .simp[e]
def V7{a b:aa T}(d:Asc a)(c:Asc b):Asc (cg a b):=(Vl _ a b (au _) d c).1
def qoz{a b:aa T}(d:Asc a)(c:Asc b)(x:T):x∈cg a b↔¬(x∈a↔x∈b):=(Vl _ a b (au _) d c).2 x
def Fu:∀(b:aa (aa T)) (a:aa T),Asc a->(∀l∈b,Asc l)->Asc (b.foldl cg a)
 |[],_,h,_=>h
 |l::b,a,h,k=>Fu b _ (V7 h (k l (bj ..))) λ m c=>k m (bk _ c)
def GJ(t:T):Asc (eL t):=by
 refine T.ind (P:=λ t=>Asc (eL t)) ?_ t;intro t a;rw[Ax];split
 .exact List.Pairwise.nil
 .split
  .exact Fu _ _ List.Pairwise.nil λ l b=>by
    obtain⟨k,c,rfl⟩:=bE.1 b;exact a k c
  .exact Q7 _ _
def eX(t:T)(s:aa T×Bool)(x:T):aa T×Bool:=
 if s.2=Y/\aM t x<=0 then(s.1++(if aM t x<0 then[t]else[])++[x],O)else(s.1++[x],s.2)
def yo(l:aa T)(t:T):aa T:=if(l.foldl (eX t) ([],Y)).2 then(l.foldl (eX t) ([],Y)).1 else(l.foldl (eX t) ([],Y)).1++[t]
def mE(l:aa T)(t:T):aa T:=if l.any (λ x=>cc x t)then l.filter (λ x => !cc x t)else yo l t
def qp(a b:aa T):aa T:=b.foldl mE a
def Wr(t:T):∀(l a:aa T),l.foldl (eX t) (a,O)=(a++l,O)
 |[],a=>by simp
 |x::l,a=>by
   have e:eX t (a,O) x=(a++[x],O):=by simp[eX]
   rw[jv,e,Wr t l];simp
def dg:aa T->T->aa T
 |[],t=>[t]
 |x::l,t=>if aM t x<0 then t::x::l else if aM t x=0 then x::l else x::dg l t
def Vg(t:T):∀(l a:aa T),(if(l.foldl (eX t) (a,Y)).2 then(l.foldl (eX t) (a,Y)).1 else(l.foldl (eX t) (a,Y)).1++[t])=a++dg l t
 |[],a=>by simp[dg]
 |x::l,a=>by
   rw[jv];by_cases h:aM t x<=0
   .have e:eX t (a,Y) x=(a++(if aM t x<0 then[t]else[])++[x],O):=by simp[eX,h]
    rw[e,Wr,dg];by_cases b:aM t x<0
    .simp[b]
    .have:aM t x=0:=by omega
     simp[this]
   .have e:eX t (a,Y) x=(a++[x],Y):=by simp[eX,h]
    rw[e,Vg t l,dg,ifN,ifN];simp
theorem Nm(l:aa T)(t:T):yo l t=dg l t:=by
 have:=Vg t l [];simpa[yo]using this
def Hc(t:T):∀(l:aa T) (x:T),x∈dg l t↔x∈l\/x=t
 |[],x=>by simp[dg]
 |y::l,x=>by
   rw[dg];split
   .simp only[be];constructor
    .rintro(h|h|h)<;>simp[h]
    .rintro((h|h)|h)<;>simp[h]
   .split
    .rename_i h;have:=lg t y h;subst this;simp only[be];constructor
     .rintro(h|h)<;>simp[h]
     .rintro((h|h)|h)<;>simp[h]
    .rw[be,Hc t l x,be];constructor
     .rintro(h|h|h)<;>simp[h]
     .rintro((h|h)|h)<;>simp[h]
def Nn(t:T):∀(l:aa T),Asc l->Asc (dg l t)
 |[],_=>Q7 _ _
 |y::l,h=>by
   let⟨c,d⟩:=nO.1 h;rw[dg];have f:=dA.rng t y;split
   .have b:aM t y=-1:=by omega
    refine nO.2 ⟨λ z a=>?_,h⟩;obtain e|a:=be.1 a
    .rw[e];exact b
    .exact lX b (c z a)
   .split
    .exact h
    .refine nO.2 ⟨λ z a=>?_,Nn t l d⟩;obtain a|e:=(Hc t l z).1 a
     .exact c z a
     .rw[e];exact NM.1 (by omega)
def gI{a b:T}:cc a b=O↔a=b:=by unfold cc;exact df
def qo5{l:aa T}(h:Asc l)(t:T):Asc (mE l t)/\∀x,x∈mE l t↔¬(x∈l↔x=t):=by
 unfold mE;by_cases a:t∈l
 .have f:(l.any λ x=>cc x t)=O:=Jv.2 ⟨t,a,gI.2 rfl⟩;rw[af f];refine⟨List.Pairwise.filter _ h,λ x=>?_⟩;rw[kO];by_cases e:x=t
  .subst e;simp[a,gI.2 rfl]
  .have:cc x t=Y:=by
     cases b:cc x t
     .rfl
     .exact absurd (gI.1 b) e
   simp[e,this]
 .rw[ae (λ b=>by
    let⟨x,c,d⟩:=Jv.1 b;exact a (by rw[<-gI.1 d];exact c)),Nm]
  refine⟨Nn t l h,λ x=>?_⟩;rw[Hc];by_cases e:x=t
  .subst e;simp[a]
  .simp[e]
def LK:∀(b a:aa T),Asc a->Asc b->Asc (qp a b)/\∀x,x∈qp a b↔¬(x∈a↔x∈b)
 |[],a,g,_=>⟨g,λ x=>by simp[qp]⟩
 |y::b,a,g,n=>by
   let⟨f,d⟩:=nO.1 n;let⟨l,k⟩:=qo5 g y;let⟨j,i⟩:=LK b (mE a y) l d;refine⟨j,λ x=>?_⟩;rw[show qp a (y::b)=qp (mE a y) b from rfl,i,k,be];by_cases e:x=y
   .subst e;have:x ∉ b:=λ h=>jX (f x h);by_cases c:x∈a<;>simp[this,c]
   .by_cases c:x∈a<;>by_cases m:x∈b<;>simp[e,c,m]
def WO{a b:aa T}(d:Asc a)(c:Asc b):qp a b=cg a b:=
 AK _ _ (LK b a d c).1 (V7 d c) λ x=>by rw[(LK b a d c).2,qoz d c]
end Go.GxZ
namespace Go.AmZ
open GxZ
section
open Lib
def szL(l:aa T):Nat:=(l.map size).sum
theorem dY(x:T)(l:aa T):szL (x::l)=size x+szL l:=by simp[szL]
def vc(a b:aa T):szL (a++b)=szL a+szL b:=by simp[szL]
def gL:∀l:aa T,J l<=szL l
 |[]=>aG _
 |x::l=>by
   have:=gL l;have:=size_pos x;rw[dY,bH];omega
def mS{l:aa T}{x:T}(h:x∈l):size x<=szL l:=FW l x h
def Hi:∀(n:Nat) (a b:aa T),J a+J b<=n->szL (cg a b)<=szL a+szL b
 |_,[],b,_|_,x::a,[],_=>by rw[cg];omega
 |0,x::a,y::b,h=>by simp at h
 |n+1,x::a,y::b,h=>by
   simp only[bH]at h;rw[cg];split
   .have:=Hi n a (y::b) (by simp;omega);rw[dY,dY];omega
   .split
    .have:=Hi n (x::a) b (by simp;omega);rw[dY y,dY y];omega
    .have:=Hi n a b (by omega);rw[dY,dY];omega
def Us:∀(b:aa (aa T)) (a:aa T),szL (b.foldl cg a)<=szL a+(b.map szL).sum
 |[],_=>by simp
 |l::b,a=>by
   have d:=Us b (cg a l);have c:=Hi _ a l (au _);simp only[jv,bh,iv];omega
def U7(f g:T->Nat):∀l:aa T,(∀k∈l,f k<=g k)->(l.map f).sum<=(l.map g).sum
 |[],_=>au _
 |x::l,h=>by
   have c:=h x (bj ..);have b:=U7 f g l λ k a=>h k (bk _ a);simp only[bh,iv];omega
def Ye(l:aa T)(h:∀k∈l,szL (eL k)<=size k):szL ((l.map eL).foldl cg [])<=szL l:=by
 apply bT (Us _ _);rw[kN];have:=U7 (szL ∘ eL) size l h;show 0+_<=(l.map size).sum;omega
def Ao(t:T):szL (eL t)<=size t:=by
 refine T.ind (P:=λ t=>szL (eL t)<=size t) ?_ t;intro t a;rw[Ax];split
 .exact aG _
 .split
  .have:=Ye t.kids a;have:=cM t;unfold szL at *;omega
  .show szL [t]<=_;rw[dY];exact au _
def uR(l:aa T):szL (dx l)<=szL l:=Ye l λ k _=>Ao k
def HJ(x:T)(l:aa T):gA (x::l) 1 ((J (x::l):Nat):Int)=l:=by
 unfold gA;rw[lG,cI];rfl
def He(n:Nat):inb (n:Int) n=O:=by unfold inb;rw[df];omega
def H7(x:T)(l:aa T):inb 1 (Int.toNat ((J (x::l):Nat):Int))=O:=by
 unfold inb;rw[df,lG,bH];omega
def WY(x:T)(l:aa T):ilt 0 ((J (x::l):Nat):Int)=O:=by rw[aS,bH];omega
def qnh:∀(n:Nat) (a b c:aa T),J a+J b<=n->szL c+szL a+szL b<=1000000000->Ev (λ m k=>uK m k a b c) (c++cg a b):=by
 intro n
 induction n with
 |zero=>
   intro a b c i g;have:a=[]:=cT (by omega);subst this;have:b=[]:=cT (by omega);subst this;apply aw;simp only[Ul,FM];have:=gL c;exact ai rfl (ah (bD (by simp only[fE];omega)) (ah (bD (by simp only[fE,bJ];omega)) (al (by rw[cg];simp))))
 |succ n f=>
   intro a b c i g;apply aw;simp only[Ul,FM,aA];have o:=gL c;have l:=gL a;have j:=gL b;cases a with
   |nil=>
     refine ai rfl (ah (bD (by simp only[fE];omega)) (ah (bD (by simp only[bJ];omega)) (al (by rw[cg];simp))))
   |cons x a=>
     apply ah (WY x a);cases b with
     |nil=>
       refine ai rfl (ah (bD) (ah (bD (by rw[aO];simp only[fE];omega)) (al (by rw[cg];simp))))
     |cons y b=>
       rw[dY,dY]at g;refine ah (WY y b) (ao (lV _) (ao (lV _) (ag (nN x (by omega) y (by omega)) ?_)));rw[cg];simp only[bH]at i l j;rw[dY]at l j;refine ak (λ e=>?_) λ e=>?_
       .rw[aS]at e;have e:aM x y=-1:=by obtain h|h|h:=dA.rng x y<;>omega
        rw[af e];refine ao (lV _) (ah (bD) (ah (He _) (ah (H7 x a) ?_)));rw[HJ];refine(f a (y::b) (c++[x]) (by simp only[bH];omega) (by rw[vc,dY,dY];show szL c+(size x+0)+_+_<=_;omega)).res (by simp)
       .rw[aT]at e;rw[ifN];refine ak (λ d=>?_) λ d=>?_
        .rw[aS]at d;have d:aM x y=1:=by obtain h|h|h:=dA.rng x y<;>omega
         rw[af d];refine ao (lV _) (ah (bD) (ah (He _) (ah (H7 y b) ?_)));rw[HJ];refine(f (x::a) b (c++[y]) (by simp only[bH];omega) (by rw[vc,dY,dY];show szL c+(size y+0)+_+_<=_;omega)).res (by simp)
        .rw[aT]at d;rw[ifN];refine ah (He _) (ah (H7 x a) (ah (He _) (ah (H7 y b) ?_)));rw[HJ,HJ];exact f a b c (by omega) (by omega)
def WW(a b:aa T)(c:szL a+szL b<=1000000000):Ev (λ m _=>Aw m a b) (cg a b):=by
 apply aF;simp only[qnl,FL];apply bd (L:=λ m k=>uK m k a b []);exact qnh _ a b [] (au _) (by show 0+_+_<=_;omega)
def qmF(l:aa T)(i:Nat):szL (l.take i)<=szL l:=by
 have:=bz szL (oF i l);rw[vc]at this;omega
def pH{l:aa T}{i:Nat}{x:T}(h:l[i]?=Z x):szL (l.take i)+size x<=szL l:=by
 have b:l.take (i+1)=l.take i++[x]:=by rw[eI,h];rfl
 have a:=qmF l (i+1);rw[b,vc,dY]at a;have:szL ([]:aa T)=0:=rfl;omega
def Gk{l:aa T}{i:Nat}{x:T}(h:l[i]?=Z x):((l.take (i+1)).map eL).foldl cg []=cg (((l.take i).map eL).foldl cg []) (eL x):=by
 rw[eI,h,iS,BN];rfl
def qqD(t:T):size t<=1000000000->Ev (λ m _=>kZ m t) (eL t):=by
 induction t using T.ind with
 |h t s=>
   intro B;have C:=fL t;have A:=cM t;apply aF;simp only[qi2,DJ,aA]
   have o:=aV (P:=λ i=>Ev (λ m k=>qW m (kZ m) k (((t.kids.take i).map eL).foldl cg []) t.kids (J t.kids) i) ((t.kids.map eL).foldl cg [])) t.kids (by omega)
    (λ q=>by
     apply aw;simp only[SS,Du];apply ai q;rw[cI];exact aq _)
    (λ i x c D q w u y=>by
     apply aw;simp only[SS,Du,aA];have r:=aK c;have F:=fM t x r;have z:=uR (t.kids.take i);have g:=pH c;have E:=Ao x;refine ah q (ao w (ag (s x r (by omega)) (ag (WW _ _ ?_) ?_)))
     .unfold dx at z;unfold szL at *;omega
     .rw[u];refine y.congr λ m k=>?_;rw[Gk c])
   have j:Ev (λ m _=>qW m (kZ m) m [] t.kids (J t.kids) 0) ((t.kids.map eL).foldl cg []):=
    bd (L:=λ m k=>qW m (kZ m) k [] t.kids (J t.kids) 0) (o 0 (aG _))
   rw[Ax];by_cases g:t.kind=3
   .have f:ieq t.kind 3=O:=aB.2 g;apply ah f;refine ak (λ e=>?_) λ e=>?_
    .rw[cr]at e;have a:isN t iZ=O:=du.2 ⟨g,e⟩
     have d:isN t jh=Y:=by
      rw[<-nJ,du];rintro⟨_,h⟩;rw[e]at h;exact absurd h (by decide)
     refine ak (λ b=>?_) λ b=>?_
     .rw[aB]at b;have b:t.kids=[]:=cT (by omega);rw[a,b];exact aq _
     .rw[ay]at b
      have b:t.kids.isEmpty=Y:=by
       cases v:t.kids with
       |nil=>rw[v]at b;exact absurd rfl b
       |cons _ _=>rfl
      rw[a,b,d];exact ah f (ai (by rw[e];rfl) (aq _))
    .have p:=cC.1 e
     have a:isN t iZ=Y:=by
      rw[<-nJ,du];rintro⟨_,h⟩;exact p h
     rw[a];refine ah f (ak (λ c=>?_) λ c=>?_)
     .rw[show isN t jh=O from du.2 ⟨g,cr.1 c⟩];exact j
     .have d:isN t jh=Y:=by
        rw[<-nJ,du];rintro⟨_,h⟩;exact cC.1 c h
      rw[d];exact aq _
   .have f:ieq t.kind 3=Y:=ay.2 g
    have l:∀n,isN t n=Y:=λ n=>by
     rw[<-nJ,du];rintro⟨h,_⟩;exact g h
    rw[l,l];exact ai f (ai f (aq _))
end
def qob(b:aa (aa T))(d:J b<1000)(h:(b.map J).sum<=100000000):Ev (λ m _=>qO m b) ((),(b.flatten,())):=by
 have g:∀l:aa (aa T),J l.flatten=(l.map J).sum:=λ l=>List.length_flatten
 have s:=aV (P:=λ i=>Ev (λ m k=>(jU m k).2 b (J b) i (b.take i).flatten) ((),(b.flatten,()))) b (by omega)
  (λ c=>by
   apply aw;simp only[Rk,B7];apply ai c;rw[cI];exact aq _)
  (λ i x o r c f e j=>by
   apply aw;simp only[Rk,B7];have p:b.take (i+1)=b.take i++[x]:=by rw[eI,o];rfl
   have q:((b.take (i+1)).map J).sum<=(b.map J).sum:=by
    have:=bz (λ l=>(l.map J).sum) (oF (i+1) b);simp only[iS,List.sum_append]at this;omega
   rw[p]at q;simp only[iS,List.sum_append,bh,Jn,iv,List.sum_nil]at q;refine ah c (ao f (ah (bD ?_) ?_))
   .rw[g];omega
   .rw[e];refine j.congr λ m k=>?_;rw[p,Q8];simp)
 have t:=aV (P:=λ i=>∀n:Nat,n+((b.drop i).map J).sum<=100000000->Ev (λ m k=>(jU m k).1 b n b (J b) i) ((),(b.flatten,()))) b (by omega)
  (λ c n d=>by
   apply aw;simp only[Rn,B6];refine ai c (ao (a:=((),[],())) ?_ (s 0 (aG _)));unfold yZ;rw[show inb (n:Int) 100000000=O from by unfold inb;rw[df];omega];rfl)
  (λ i x o r c f e j n d=>by
   apply aw;simp only[Rn,B6];rw[r,bh,iv]at d;refine ah c (ao f ?_);rw[Aq,dC];apply ai (aT.2 (by omega));rw[e];exact j (n+J x) (by omega))
 apply aF;simp only[qd0,B8];apply bd (L:=λ m k=>(jU m k).1 b 0 b (J b) 0);exact t 0 (aG _) 0 (by rw[bF];omega)
def F2(a b:aa T)(h:J a+J b<=100000000:=by omega):Ev (λ m _=>qO m [a,b]) ((),(a++b,())):=
 (qob [a,b] (by simp) (by simpa using h)).res (by simp)
def T2{f:T->Int}{l:aa T}{i:Nat}{x:T}(h:l.drop i=x::l.drop (i+1)):((l.drop i).map f).foldl thn 0=if f x≠0 then f x else((l.drop (i+1)).map f).foldl thn 0:=by
 rw[h,bh];by_cases a:f x=0
 .rw[ae (by simpa using a),a];rfl
 .rw[af a];exact fS _ a
def qqu(l:aa T)(n:szL l<=100000000:=by omega):Ev (λ m _=>Gu m l []) (xP l):=by
 have o:=gL l;apply aF;simp only[qmO,Fm];unfold xP;refine ak (λ h=>?_) λ h=>?_
 .rw[aS]at h;rw[ifP];exact aq _
 .rw[aT]at h;rw[ifN];refine ag (F2 l [] (by simp only[fE];omega)) ?_;simp only[bJ]
  have b:=aV (P:=λ i=>Ev (λ m k=>ux m k (J l) i l) (((l.drop i).map bw).foldl thn 0)) l (by omega)
   (λ c=>by
    apply aw;simp only[T7,E6];apply ai c;rw[bO];exact aq _)
   (λ i x d g c f e j=>by
    apply aw;simp only[T7,E6,aA];have p:=mS (aK d);rw[T2 g];refine ah c (ao f (ag (lW x) (ak (λ a=>?_) λ a=>?_)))
    .rw[bnt,ay]at a;rw[af a];exact aq _
    .rw[bnf,aB]at a;rw[ifN,e];exact j)
  apply bd (L:=λ m k=>ux m k (J l) 0 l);exact(b 0 (aG _)).res (by rw[bF])
def qnz(t:T)(a:size t<=1000000000:=by omega):Ev (λ m _=>EZ m t [] t) (t,0):=by
 apply aF;simp only[qi0,DM,aA];apply ag (Nk t a);refine bd (L:=λ m k=>wM m k [] (J ([]:aa Int)) 0 t.kind t.name t.sort t.kids 0 [] 0 t.kind t.name t.sort t.kids []) (aw ?_);simp only[qhj,KD,aA];apply ai rfl;rw[show T.mk t.kind t.name t.sort t.kids=t from aA t];exact ag (Nk t a) (aq _)
def jt(l:aa T)(i:Nat):aa T:=l.take i++List.replicate (J l-i) zT
def qq0{l:aa T}{i:Nat}(h:i<J l):(jt l i)[i]?=Z zT:=by
 unfold jt;rw[eu (by rw[bg];omega),bg,List.getElem?_replicate,ifP]
def MY{l:aa T}{i:Nat}{x:T}(h:l[i]?=Z x):(jt l i).set i x=jt l (i+1):=by
 have c:=(fd.1 h).1;unfold jt;have b:l.take (i+1)=l.take i++[x]:=by rw[eI,h];rfl
 have a:List.replicate (J l-i) zT=zT::List.replicate (J l-(i+1)) zT:=by
  rw[show J l-i=(J l-(i+1))+1 by omega,List.replicate_succ]
 rw[b,a,List.set_append_right _ _ (by rw[bg];omega),bg,show i-min i (J l)=0 by omega,List.set_cons_zero,bC];rfl
def qpt{l:aa T}{i:Nat}{x:T}(h:l[i]?=Z x):(jt l (i+1)).set i x=jt l (i+1):=by
 rw[<-MY h,List.set_set]
def qoi{l:aa T}{i:Nat}{x:T}(h:l[i]?=Z x):(jt l (i+1))[i]?=Z x:=by
 have a:=(fd.1 h).1;rw[<-MY h,gD (by unfold jt;rw[aO,bg,sV];omega)]
def pV{α:Type}(l:aa α)(i:Nat)(v:α):dK l (i:Int) v=l.set i v:=by
 unfold dK;rw[ifP,lG]
def qrq:∀(n:Nat) (l:aa T),szL l<=n->n<=1000000->Ev (λ m _=>lh m l) l:=by
 intro n
 induction n using Nat.strongRecOn with
 |_ n p=>
 intro l s t;have u:=gL l;apply aF;simp only[qnZ,F9]
 have d:=aV (P:=λ i=>Ev (λ m k=>uQ m (lh m) k l (J l) i (jt l i)) l) l (by omega)
  (λ h=>by
   apply aw;simp only[Uz,F6];apply ai h;exact al (by unfold jt;rw[cI,mJ];simp))
  (λ i x b v h r q j=>by
   apply aw;simp only[Uz,F6,aA];have y:=mS (aK b);have w:=cM x;have f:=(fd.1 b).1;have e:dK (jt l i) i x=jt l (i+1):=by rw[pV,MY b]
   have o:dK (jt l (i+1)) i x=jt l (i+1):=by rw[pV,qpt b]
   have g:ap (jt l (i+1)) i=Z x:=by rw[dz,qoi b]
   refine ah h (ao r (ag (qnz x) (ao (a:=zT) (by rw[dz,qq0 f]) (ag (p (szL x.kids) (by unfold szL at *;omega) x.kids (au _) (by unfold szL at *;omega)) ?_))));rw[e];apply ao g;rw[show T.mk x.kind x.name x.sort x.kids=x from aA x,o,q];refine ak (λ c=>?_) λ c=>j;rw[aB]at c;have c:x.kids=[]:=cT (by omega);apply ao g;rw[show T.mk x.kind x.name x.sort []=x from by rw[<-c];exact aA x,o];exact j)
 refine ah (by unfold OB;rw[df,lG];omega) ?_;apply bd (L:=λ m k=>uQ m (lh m) k l (J l) 0 (List.replicate (Int.toNat (J l:Int)) (T.mk 0 [] 0 [])));refine(d 0 (aG _)).congr λ m k=>?_;unfold jt;rw[yQ,lG];rfl
def qsD(l:aa T)(z:szL l<=900000:=by omega):Ev (λ m _=>Ib m l) (qG l):=by
 have A:=gL l;apply aF;simp only[qon,FZ];unfold qG;refine ag (qqu l) (ak (λ h=>?_) λ h=>?_)
 .rw[bnt,ay]at h;rw[af h];exact aq _
 .rw[bnf,aB]at h;rw[ifN]
  have e:=aV (P:=λ i=>Ev (λ m k=>uS m k (((l.take i).map eL).foldl cg []) l (J l) i 0 [] 0 []) (if bw (fy (dx l))≠0 then(zT,3)else(fy (dx l),0))) l (by omega)
   (λ j=>by
    apply aw;simp only[UJ,Gd,aA];apply ai j;rw[cI];have b:=uR l;show Ev (λ m k=>ab (lh m (dx l)) _) _;have o:=gL (dx l)
    have c:∀u:T,u=fy (dx l)->Ev (λ m _=>ab (fI m u) λ v=>cond (am (ieq v 0)) (Z (T.mk 0 [] 0 [],(3:Int))) (Z (u,0))) (if bw (fy (dx l))≠0 then(zT,3)else(fy (dx l),0)):=by
     intro u p
     have y:size (fy (dx l))<=1+szL (dx l):=by
      unfold fy;split
      .rw[cM];show 1+0<=_;omega
      .split
       .rename_i _ d
        have:(dx l).getD 0 zT∈dx l:=by
         cases g:dx l with
         |nil=>rw[g]at d;cases d
         |cons x r=>exact bj ..
        have:=mS this;omega
       .rw[cM];exact au _
     subst p;refine ag (lW _) (ak (λ h=>?_) λ h=>?_)
     .rw[bnt,ay]at h;rw[af h];exact aq _
     .rw[bnf,aB]at h;rw[ifN];exact aq _
    refine ag (qrq _ (dx l) (au _) (by omega)) (ak (λ n=>?_) λ n=>?_)
    .rw[aB]at n;exact c _ (by unfold fy;rw[ifP];rfl)
    .rw[ay]at n;refine ak (λ b=>?_) λ b=>?_
     .rw[aB]at b;refine ao (a:=(dx l).getD 0 zT) ?_ (c _ (by unfold fy;rw[ifN,ifP]));rw[lV,dO];cases g:dx l with
      |nil=>rw[g]at b;simp at b
      |cons x r=>rfl
     .rw[ay]at b;exact c _ (by unfold fy;rw[ifN,ifN];rfl))
   (λ i x f B j t s w=>by
    apply aw;simp only[UJ,Gd,aA];have q:=aK f;have b:=mS q;have o:=uR (l.take i);have D:=pH f;have C:=Ao x;refine ah j (ao t (ag (qqD x (by omega)) (ag (WW _ _ ?_) ?_)))
    .unfold dx at o;omega
    .rw[s];refine w.congr λ m k=>?_;rw[Gk f])
  apply bd (L:=λ m k=>uS m k [] l (J l) 0 0 [] 0 []);exact e 0 (aG _)
def qay(l:aa T)(t:T)(j:szL l+size t<=1000000000):Ev (λ m _=>ru m l t) (l.any λ x=>cc x t):=by
 have n:=gL l;apply aF;simp only[qmL,Fg]
 have a:=aV (P:=λ i=>Ev (λ m k=>uC m k l i t.kind t.name t.sort t.kids) ((l.drop i).any λ x=>cc x t)) l (by omega)
  (λ b=>by
   apply aw;simp only[TQ,E9];refine ai b (al ?_);rw[bO];rfl)
  (λ i x c f b e d g=>by
   apply aw;simp only[TQ,E9,aA];have o:=mS (aK c);rw[f,wo,show T.mk t.kind t.name t.sort t.kids=t from aA t];refine ah b (ao e (ag (nW x t) (ak (λ h=>?_) λ h=>?_)))
   .rw[h];exact aq _
   .rw[h,d];exact g)
 apply bd (L:=λ m k=>uC m k l 0 t.kind t.name t.sort t.kids);exact(a 0 (aG _)).res (by rw[bF])
theorem XB(t:T):∀(l:aa T) (s:aa T×Bool),(l.foldl (eX t) s).1.length<=J s.1+2*J l
 |[],s=>by simp
 |x::l,s=>by
   have h:=XB t l (eX t s x);grind [eX]
def qat(l:aa T)(t:T)(q:szL l+size t<=1000000000:=by omega):Ev (λ m _=>Ah m l t) (yo l t):=by
 have r:=gL l;apply aF;simp only[qmg,FD]
 have d:∀i,((l.take i).foldl (eX t) ([],Y)).1.length<=2*J l:=λ i=>by
  grind [XB,List.length_take,List.length_nil]
 have g:=aV (P:=λ i=>Ev (λ m k=>uy m k l ((l.take i).foldl (eX t) ([],Y)).2 i t.kind t.name t.sort t.kids ((l.take i).foldl (eX t) ([],Y)).1) (yo l t)) l (by omega)
  (λ j=>by
   apply aw;simp only[TR,Fq];apply ai j;rw[cI];unfold yo;have:=d (J l);rw[cI]at this;refine ak (λ h=>?_) λ h=>?_
   .rw[bnt]at h;rw[ae (by rw[h];decide),show T.mk t.kind t.name t.sort t.kids=t from aA t];exact ah (bD) (aq _)
   .rw[bnf]at h;rw[af h];exact aq _)
  (λ i x n u j f o a=>by
   apply aw;simp only[TR,Fq,aA];have w:=mS (aK n);have v:=d i
   have e:(l.take (i+1)).foldl (eX t) ([],Y)=eX t ((l.take i).foldl (eX t) ([],Y)) x:=by
    rw[eI,n,BN];rfl
   rw[e]at a;generalize (l.take i).foldl (eX t) ([],Y)=s at *;rw[show T.mk t.kind t.name t.sort t.kids=t from aA t,o];refine ah j (ao f (ag (wU t (by omega) x (by omega)) (ak (λ h=>?_) λ h=>?_)))
   .rw[bnt]at h;refine ak (λ c=>?_) λ c=>?_
    .rw[fU]at c;unfold eX at a;rw[af ⟨h,c⟩]at a;refine ak (λ b=>?_) λ b=>?_
     .rw[aS]at b;rw[af b]at a;exact ah (bD) (ao f (ah (bD (by rw[aO];simp only[bH,fE];omega)) a))
     .rw[aT]at b;rw[ifN,bJ]at a;exact ao f (ah (bD) a)
    .rw[jI]at c;unfold eX at a;rw[ifN]at a;exact ao f (ah (bD) a)
   .rw[bnf]at h;unfold eX at a;rw[ae (by rw[h];intro p;cases p.1)]at a;exact ao f (ah (bD) a))
 apply bd (L:=λ m k=>uy m k l Y 0 t.kind t.name t.sort t.kids []);exact g 0 (aG _)
def qsN(l:aa T)(t:T)(f:szL l+size t<=1000000000:=by omega):Ev (λ m _=>ET m l t) (mE l t):=by
 have n:=gL l;apply aF;simp only[qju,Dr,aA];unfold mE;refine ag (qay l t f) (ak (λ h=>?_) λ h=>?_)
 .rw[bnt]at h;rw[ae (by rw[h];decide)];exact ag (qat l t f) (aq _)
 .rw[bnf]at h;rw[af h]
  have b:=aV (P:=λ i=>Ev (λ m k=>tW m k l i t.kind t.name t.sort t.kids ((l.take i).filter λ x => !cc x t)) (l.filter λ x => !cc x t)) l (by omega)
   (λ c=>by
    apply aw;simp only[SG,Dm];apply ai c;rw[cI];exact aq _)
   (λ i x d o c g j a=>by
    apply aw;simp only[SG,Dm,aA];have q:=mS (aK d);have p:J ((l.take i).filter λ x => !cc x t)<=J l:=bT (Q9 _ _) (by rw[bg];omega);rw[eI,d,List.filter_append]at a;rw[show T.mk t.kind t.name t.sort t.kids=t from aA t,j];refine ah c (ao g (ag (nW x t) (ak (λ h=>?_) λ h=>?_)))
    .rw[bnt]at h;have e:(Option.some x).toList.filter (λ x => !cc x t)=[x]:=by show[x].filter _=_;simp[h]
     rw[e]at a;exact ao g (ah (bD) a)
    .rw[bnf]at h;have e:(Option.some x).toList.filter (λ x => !cc x t)=[]:=by show[x].filter _=_;simp[h]
     rw[e,bJ]at a;exact a)
  apply bd (L:=λ m k=>tW m k l 0 t.kind t.name t.sort t.kids []);exact b 0 (aG _)
theorem NE(t:T):∀l:aa T,szL (dg l t)<=szL l+size t
 |[]=>by rw[dg,dY];omega
 |x::l=>by
   have:=NE t l;grind [dg,dY]
theorem V3(p:T->Bool):∀l:aa T,szL (l.filter p)<=szL l
 |[]=>au _
 |x::l=>by
   have:=V3 p l;grind [dY]
theorem qrz(l:aa T)(t:T):szL (mE l t)<=szL l+size t:=by
 grind [mE,Nat.le_trans,V3,Nm,NE]
def U0:∀(b a:aa T),szL (b.foldl mE a)<=szL a+szL b
 |[],a=>by simp[szL]
 |x::b,a=>by
   have c:=U0 b (mE a x);grind [qrz,dY]
def Xi(a b:aa T)(n:szL a+szL b<=1000000000):Ev (λ m _=>zU m a b) (qp a b):=by
 have t:=gL a;have s:=gL b;apply aF;simp only[ql5,EH]
 have d:=aV (P:=λ i=>Ev (λ m k=>rh m k b ((b.take i).foldl mE a) i) (qp a b)) b (by omega)
  (λ e=>by
   apply aw;simp only[Tw,EK];apply ai e;rw[cI];exact aq _)
  (λ i x f o e l j g=>by
   apply aw;simp only[Tw,EK,aA];have q:=pH f;have p:=U0 (b.take i) a;rw[eI,f,BN]at g;refine ah e (ao l (ag (qsN _ x) ?_));rw[j];exact g)
 refine ah (bD (by simp only[fE];omega)) ?_;have c:Ev (λ m _=>rh m m b a 0) (qp a b):=bd (L:=λ m k=>rh m k b a 0) (d 0 (aG _));exact oJ (λ h=>by rw[h]at c |-;exact c) λ x r h=>by rw[h]at c |-;exact c
def qpw(t:T):size t<=1000000000->Ev (λ m _=>kX m t) (eL t):=by
 induction t using T.ind with
 |h t w=>
   intro F;have v:=fL t;have E:=cM t;apply aF;simp only[qgO,CM,aA]
   have q:=aV (P:=λ i=>Ev (λ m k=>qU m (kX m) k (((t.kids.take i).map eL).foldl cg []) i t.kind t.name t.sort t.kids) ((t.kids.map eL).foldl cg [])) t.kids (by omega)
    (λ s=>by
     apply aw;simp only[RU,CR];apply ai s;rw[cI];exact aq _)
    (λ i x c G s A y C=>by
     apply aw;simp only[RU,CR,aA];have u:=aK c;have I:=fM t x u;have D:=uR (t.kids.take i);have f:=pH c;have H:=Ao x
     have B:Asc (((t.kids.take i).map eL).foldl cg []):=Fu _ _ List.Pairwise.nil λ l v=>by
      obtain⟨k,_,rfl⟩:=bE.1 v;exact GJ k
     refine ah s (ao A (ag (w x u (by omega)) (ag (Xi _ _ ?_) ?_)))
     .unfold dx at D;unfold szL at *;omega
     .rw[y,WO B (GJ x)];refine C.congr λ m k=>?_;rw[Gk c])
   have g:Ev (λ m _=>qU m (kX m) m [] 0 t.kind t.name t.sort t.kids) ((t.kids.map eL).foldl cg []):=
    bd (L:=λ m k=>qU m (kX m) k [] 0 t.kind t.name t.sort t.kids) (q 0 (aG _))
   rw[Ax];by_cases f:t.kind=3
   .have p:ieq t.kind 3=O:=aB.2 f;have o:am (ieq t.kind 3)=Y:=bnf.2 p;apply ah p;refine ak (λ e=>?_) λ e=>?_
    .rw[cr]at e;have a:isN t iZ=O:=du.2 ⟨f,e⟩
     have d:isN t jh=Y:=by
      rw[<-nJ,du];rintro⟨_,h⟩;rw[e]at h;exact absurd h (by decide)
     refine ak (λ b=>?_) λ b=>?_
     .rw[aB]at b;have b:t.kids=[]:=cT (by omega);rw[a,b];exact aq _
     .rw[ay]at b
      have b:t.kids.isEmpty=Y:=by
       cases z:t.kids with
       |nil=>rw[z]at b;exact absurd rfl b
       |cons _ _=>rfl
      rw[a,b,d];exact ai o (ah (by rw[e];rfl) (aq _))
    .have r:=cC.1 e
     have a:isN t iZ=Y:=by
      rw[<-nJ,du];rintro⟨_,h⟩;exact r h
     rw[a];refine ai o (ak (λ c=>?_) λ c=>?_)
     .have d:isN t jh=Y:=by
        rw[<-nJ,du];rintro⟨_,h⟩;exact cC.1 (bnt.1 c) h
      rw[d];exact aq _
     .rw[show isN t jh=O from du.2 ⟨f,cr.1 (bnf.1 c)⟩];exact g
   .have p:ieq t.kind 3=Y:=ay.2 f
    have j:∀n,isN t n=Y:=λ n=>by
     rw[<-nJ,du];rintro⟨h,_⟩;exact f h
    rw[j,j];exact ai p (ah (bnt.2 p) (aq _))
def qnX:bw (apT iZ [])=0:=by
 unfold bw;rw[xn,cM,xB];have:eM (apT iZ [])=0:=by decide
 show(if eM (apT iZ [])≠0 then eM (apT iZ [])else _)=0;rw[this];rfl
def qm7(l:aa T)(n:szL l<=100000000:=by omega):Ev (λ m _=>FN m l (apT iZ [])) (xP l):=by
 have o:=gL l;apply aF;simp only[qjS,Ea];unfold xP;refine ak (λ h=>?_) λ h=>?_
 .rw[aS]at h;rw[ifP];exact aq _
 .rw[aT]at h;rw[ifN]
  have b:=aV (P:=λ i=>Ev (λ m k=>tZ m k l i 3 iZ 0 []) (((l.drop i).map bw).foldl thn 0)) l (by omega)
   (λ c=>by
    apply aw;simp only[S9,D7];apply ai c;rw[bO];refine ag (lT (T.mk 3 iZ 0 []) (by rw[cM];show 1+0<=_;omega)) ?_;exact al qnX)
   (λ i x d g c f e j=>by
    apply aw;simp only[S9,D7,aA];have p:=mS (aK d);rw[T2 g];refine ah c (ao f (ag (lT x) (ak (λ a=>?_) λ a=>?_)))
    .rw[bnt,ay]at a;rw[af a];exact aq _
    .rw[bnf,aB]at a;rw[ifN,e];exact j)
  apply bd (L:=λ m k=>tZ m k l 0 3 iZ 0 []);exact(b 0 (aG _)).res (by rw[bF])
def ZM(l:aa T):size (fy l)<=1+szL l:=by
 unfold fy;split
 .rw[cM];show 1+0<=_;omega
 .split
  .rename_i _ a
   have:l.getD 0 zT∈l:=by
    cases l with
    |nil=>cases a
    |cons x r=>exact bj ..
   have:=mS this;omega
  .rw[cM];exact au _
def qpv(l:aa T)(d:szL l<=1000000000:=by omega):Ev (λ m _=>F1 m l) (fy l):=by
 have e:=gL l;apply aF;simp only[qlR,Lg,aA];unfold fy;refine ak (λ c=>?_) λ c=>?_
 .rw[aB]at c;rw[ifP];exact ag (pY _ [] (by simp)) (aq _)
 .rw[ay]at c;rw[ifN];refine ak (λ b=>?_) λ b=>?_
  .rw[aB]at b;rw[ifP];refine ao (a:=l.getD 0 zT) ?_ (aq _);grind [lV]
  .rw[ay]at b;rw[ifN];exact ah (bD (by simp only[fE];omega)) (oJ (λ h=>al (by rw[h];rfl)) λ x r h=>al (by rw[h];rfl))
def qsB(l:aa T)(q:szL l<=900000:=by omega):Ev (λ m _=>Gy m l) (qG l):=by
 have d:=gL l;apply aF;simp only[qmK,Fi];unfold qG
 have z:Ev (λ m _=>Gf m) (apT iZ []):=by
  apply aF;simp only[qlT,Lh,aA];exact ag (pY _ [] (by simp)) (aq _)
 apply ag z;rw[aA];refine ag (qm7 l) (ak (λ h=>?_) λ h=>?_)
 .rw[bnt,ay]at h;rw[af h];exact aq _
 .rw[bnf,aB]at h;rw[ifN]
  have a:=aV (P:=λ i=>Ev (λ m k=>uF m k l (((l.take i).map eL).foldl cg []) i 0 [] 0 []) (if bw (fy (dx l))≠0 then(zT,3)else(fy (dx l),0))) l (by omega)
   (λ c=>by
    apply aw;simp only[TZ,EV,aA];apply ai c;rw[cI];have p:=uR l;have e:=ZM (dx l);refine ag (qpv (dx l)) (ag (lT _) (ak (λ h=>?_) λ h=>?_))
    .rw[bnt,ay]at h;rw[af h];exact aq _
    .rw[bnf,aB]at h;rw[ifN];exact aq _)
   (λ i x b r c j g o=>by
    apply aw;simp only[TZ,EV,aA];have f:=aK b;have p:=mS f;have e:=uR (l.take i);have t:=pH b;have s:=Ao x
    have n:Asc (((l.take i).map eL).foldl cg []):=Fu _ _ List.Pairwise.nil λ l d=>by
     obtain⟨k,_,rfl⟩:=bE.1 d;exact GJ k
    refine ah c (ao j (ag (qpw x (by omega)) (ag (Xi _ _ ?_) ?_)))
    .unfold dx at e;omega
    .rw[g,WO n (GJ x)];refine o.congr λ m k=>?_;rw[Gk b])
  apply bd (L:=λ m k=>uF m k l [] 0 0 [] 0 []);exact a 0 (aG _)
end Go.AmZ
namespace Go.GxZ
def kK(l:aa Pw):Prop:=Asc (l.map (·.1))
def NzP(l:aa Pw):Prop:=∀p∈l,p.2≠0
def xl{p:Pw}{l:aa Pw}:kK (p::l)↔(∀q∈l,aM p.1 q.1=-1)/\kK l:=by
 unfold kK;rw[bh,nO];simp
def ry{p:Pw}{l:aa Pw}:NzP (p::l)↔p.2≠0/\NzP l:=by
 unfold NzP;simp
def dQ(l:aa Pw):Nat:=(l.map λ p=>p.2.natAbs).sum
theorem Hm:∀(l:aa Pw) (t:T) (n:Int) (p:Pw),p∈cu l t n->p.1=t\/p∈l
 |[],t,n,p,h=>by simp[cu]at h;exact .inl (by rw[h])
 |(x,m)::l,t,n,p,h=>by
   rw[cu]at h;split at h
   .obtain h|h:=be.1 h
    .exact .inl (by rw[h])
    .exact .inr h
   .split at h
    .rename_i a;split at h
     .exact .inr (bk _ h)
     .obtain h|h:=be.1 h
      .left;rw[h];exact(lg t x a).symm
      .exact .inr (bk _ h)
    .obtain h|h:=be.1 h
     .exact .inr (h▸bj ..)
     .obtain h|h:=Hm l t n p h
      .exact .inl h
      .exact .inr (bk _ h)
def WE:∀(l:aa Pw) (t:T) (n:Int),kK l->kK (cu l t n)
 |[],_,_,_=>Q7 _ _
 |(x,m)::l,t,n,h=>by
   let⟨d,c⟩:=xl.1 h;rw[cu];have f:=dA.rng t x;split
   .rename_i b;refine xl.2 ⟨λ q a=>?_,h⟩;obtain e|a:=be.1 a
    .rw[e];exact b
    .exact lX b (d q a)
   .split
    .split
     .exact c
     .exact xl.2 ⟨d,c⟩
    .refine xl.2 ⟨λ q a=>?_,WE l t n c⟩;obtain e|a:=Hm l t n q a
     .rw[e];exact NM.1 (show aM t x=1 by omega)
     .exact d q a
def Y6:∀(l:aa Pw) (t:T) (n:Int),NzP l->n≠0->NzP (cu l t n)
 |[],_,_,_,a=>by intro p c;simp[cu]at c;rw[c];exact a
 |(x,m)::l,t,n,h,a=>by
   let⟨d,b⟩:=ry.1 h;rw[cu];split
   .exact ry.2 ⟨a,h⟩
   .split
    .split
     .exact b
     .exact ry.2 ⟨by assumption,b⟩
    .exact ry.2 ⟨d,Y6 l t n b a⟩
def MG:∀(l:aa Pw) (t:T) (n:Int),dQ (cu l t n)<=dQ l+n.natAbs
 |[],t,n=>by simp[cu,dQ]
 |(x,m)::l,t,n=>by
   have a:=MG l t n;unfold dQ at a |-
   rw[cu];split
   .simp only[bh,iv];omega
   .split
    .split
     .simp only[bh,iv];omega
     .simp only[bh,iv];omega
    .simp only[bh,iv];omega
def M8:∀(l:aa Pw) (t:T) (n:Int),J (cu l t n)<=J l+1
 |[],t,n=>by simp[cu]
 |(x,m)::l,t,n=>by
   have a:=M8 l t n;rw[cu];split
   .simp
   .split
    .split
     .simp;omega
     .simp
    .simp only[bH];omega
def Od(l:aa Pw)(p:Pw)(h:p∈l):p.2.natAbs<=dQ l:=by
 unfold dQ
 induction l with
 |nil=>cases h
 |cons q l a=>
   simp only[bh,iv];obtain e|h:=be.1 h
   .rw[e];omega
   .have:=a h;omega
def dD(t:T)(n:Int)(s:aa Pw×Bool)(p:Pw):aa Pw×Bool:=
 ((if s.2=Y/\aM t p.1<0 then s.1++[(t,n)]else s.1)++(if(if aM t p.1=0 then p.2+n else p.2)=0 then[]else[(p.1,if aM t p.1=0 then p.2+n else p.2)]),
   s.2||X (aM t p.1<=0))
def Ou(l:aa Pw)(t:T)(n:Int):aa Pw:=if(l.foldl (dD t n) ([],Y)).2 then(l.foldl (dD t n) ([],Y)).1 else(l.foldl (dD t n) ([],Y)).1++[(t,n)]
def L1(t:T)(n:Int):∀(l a:aa Pw),NzP l->(∀q∈l,aM t q.1=-1)->l.foldl (dD t n) (a,O)=(a++l,O)
 |[],a,_,_=>by simp
 |(x,m)::l,a,h,k=>by
   let⟨c,f⟩:=ry.1 h;have b:=k _ (bj ..);simp only at b c;have e:dD t n (a,O) (x,m)=(a++[(x,m)],O):=by simp[dD,b,c]
   rw[jv,e,L1 t n l _ f λ q d=>k q (bk _ d)];simp
def Ur(t:T)(n:Int):∀(l a:aa Pw),NzP l->kK l->(if(l.foldl (dD t n) (a,Y)).2 then(l.foldl (dD t n) (a,Y)).1 else(l.foldl (dD t n) (a,Y)).1++[(t,n)])=a++cu l t n
 |[],a,_,_=>by simp[cu]
 |(x,m)::l,a,h,k=>by
   let⟨i,g⟩:=ry.1 h;let⟨d,o⟩:=xl.1 k;simp only at i d;have s:=dA.rng t x;rw[jv,cu];by_cases c:aM t x=-1
   .have e:dD t n (a,Y) (x,m)=(a++[(t,n)]++[(x,m)],O):=by simp[dD,c,i]
    rw[e,L1 t n l _ g λ q f=>lX c (d q f),af c];simp
   .by_cases b:aM t x=0
    .have e:dD t n (a,Y) (x,m)=(a++(if m+n=0 then[]else[(x,m+n)]),O):=by simp[dD,b]
     have ex:=lg t x b;rw[e,L1 t n l _ g λ q f=>by rw[ex];exact d q f,ae c,af b];by_cases j:m+n=0
     .simp[j]
     .simp[j]
    .have e:dD t n (a,Y) (x,m)=(a++[(x,m)],Y):=by
       have r:¬ aM t x<0:=by omega
       have p:¬ aM t x<=0:=by omega
       simp[dD,r,p,b,i]
     rw[e,Ur t n l _ g o,ae c,ae b];simp
def qqN{l:aa Pw}(h:NzP l)(k:kK l)(t:T)(n:Int):Ou l t n=cu l t n:=by
 have:=Ur t n l [] h k;simpa[Ou]using this
def gS(l:aa Pw):Prop:=kK l/\NzP l
def gS.nil:gS []:=⟨List.Pairwise.nil,λ _ h=>by cases h⟩
def gS.ins{l:aa Pw}(h:gS l)(t:T){n:Int}(a:n≠0):gS (cu l t n):=⟨WE l t n h.1,Y6 l t n h.2 a⟩
def qrl{t:T}{n:Int}(h:n≠0):fZ t n≠0:=by unfold fZ;split<;>omega
def qqw(t:T)(n:Int):(fZ t n).natAbs=n.natAbs:=by unfold fZ;split<;>omega
def Y2(a:aa T)(n:Int)(P:aa Pw->Prop)(h:∀k∈a,∀l,P l->P (cY k l n)):∀l,P l->P ((a.map cY).foldl (λ l f=>f l n) l):=by
 induction a with
 |nil=>intro l b;exact b
 |cons k a c=>intro l b;exact c (λ k d=>h k (bk _ d)) _ (h k (bj ..) l b)
def qof(t:T):∀(l:aa Pw) (n:Int),n≠0->gS l->gS (cY t l n):=by
 refine T.ind (P:=λ t=>∀(l:aa Pw) (n:Int),n≠0->gS l->gS (cY t l n)) ?_ t;intro t b l n a h;rw[rJ];split
 .exact Y2 t.kids (fZ t n) gS (λ k d l c=>b k d l _ (qrl a) c) l h
 .exact h.ins t a
theorem qpW(t:T):∀(l:aa Pw) (n:Int),dQ (cY t l n)<=dQ l+size t*n.natAbs/\(cY t l n).length<=l.length+size t:=by
 refine T.ind (P:=λ t=>∀(l:aa Pw) (n:Int),dQ (cY t l n)<=dQ l+size t*n.natAbs/\(cY t l n).length<=l.length+size t) ?_ t;intro t g l n;rw[rJ,cM];split
 .have:∀(a:aa T),(∀k∈a,k∈t.kids)->∀l,dQ ((a.map cY).foldl (λ l f=>f l (fZ t n)) l)<=dQ l+(a.map size).sum*n.natAbs/\((a.map cY).foldl (λ l f=>f l (fZ t n)) l).length<=l.length+(a.map size).sum:=by
    intro a
    induction a with
    |nil=>intro _ l;simp
    |cons k a b=>
      intro c l;have e:=g k (c k (bj ..)) l (fZ t n);rw[qqw]at e;have d:=b (λ k i=>c k (bk _ i)) (cY k l (fZ t n));simp only[bh,jv,iv,dM]at d |-
      omega
  have:=this t.kids (λ _ h=>h) l;rw[dM];omega
 .have e:=MG l t n;have d:=M8 l t n;rw[dM];omega
def Mm:∀(b a:aa Pw),gS a->NzP b->gS (eh a b)
 |[],a,h,_=>h
 |p::b,a,h,k=>Mm b (cu a p.1 p.2) (h.ins p.1 (ry.1 k).1) (ry.1 k).2
def M4:∀(b a:aa Pw),dQ (eh a b)<=dQ a+dQ b/\J (eh a b)<=J a+J b
 |[],a=>by simp[eh,dQ]
 |p::b,a=>by
   have f:=M4 b (cu a p.1 p.2);have d:=MG a p.1 p.2;have c:=M8 a p.1 p.2;have e:dQ (p::b)=p.2.natAbs+dQ b:=by simp[dQ]
   rw[show eh a (p::b)=eh (cu a p.1 p.2) b from rfl,e,bH];omega
def ixP:aa Pw->T->Nat
 |[],_=>0
 |p::l,t=>if aM p.1 t=-1 then ixP l t+1 else 0
def qau:∀(l:aa Pw) (t:T),ixP l t<=J l
 |[],_=>au _
 |p::l,t=>by
   have:=qau l t;rw[ixP];split
   .simp;omega
   .omega
def qak:∀(l:aa Pw) (t:T) (i:Nat),i<=J l->(∀k p,k<i->l[k]?=Z p->aM p.1 t=-1)->(∀p,l[i]?=Z p->aM p.1 t≠-1)->i=ixP l t
 |[],_,i,h,_,_=>by simp at h;rw[h];rfl
 |p::l,t,0,_,_,h=>by rw[ixP,ae (h p rfl)]
 |p::l,t,i+1,h,k,m=>by
   rw[ixP,af (k 0 p (by omega) rfl)];rw[<-qak l t i (by simpa using h) (λ j q b a=>k (j+1) q (by omega) (by simpa using a)) (λ q a=>m q (by simpa using a))]
def YV:∀(l:aa Pw) (t:T) (n:Int) (x:T) (m:Int),l[ixP l t]?=Z (x,m)->aM x t=0->
  cu l t n=if m+n=0 then l.take (ixP l t)++l.drop (ixP l t+1)else l.take (ixP l t)++[(x,m+n)]++l.drop (ixP l t+1)
 |[],_,_,_,_,h,_=>by simp at h
 |(y,k)::l,t,n,x,m,h,a=>by
   have d:=dA.anti y t;have b:=dA.rng y t;rw[ixP]at h;rw[cu,ixP];simp only at h |-
   by_cases c:aM y t=-1
   .rw[af c]at h;rw[ifN,ifN,af c,YV l t n x m (by simpa using h) a];split<;>simp
   .rw[ae c]at h;simp at h;obtain⟨rfl,rfl⟩:=h;rw[ifN,ifP,ae c];split<;>simp
def W2:∀(l:aa Pw) (t:T) (n:Int),(∀p,l[ixP l t]?=Z p->aM p.1 t≠0)->cu l t n=l.take (ixP l t)++[(t,n)]++l.drop (ixP l t)
 |[],_,_,_=>by simp[cu,ixP]
 |(y,k)::l,t,n,h=>by
   have d:=dA.anti y t;have b:=dA.rng y t;rw[ixP]at h;rw[cu,ixP];simp only at h |-
   by_cases c:aM y t=-1
   .rw[af c]at h;rw[ifN,ifN,af c,W2 l t n λ p a=>h p (by simpa using a)];simp
   .rw[ae c]at h;have:=h (y,k) rfl;simp only at this;rw[ifP,ae c];simp
def Zr{l:aa Pw}(h:kK l){i j:Nat}{p q:Pw}(g:l[i]?=Z p)(f:l[j]?=Z q)(c:i<j:=by omega):aM p.1 q.1=-1:=by
 unfold kK Asc at h;rw[BO]at h;let⟨e,d⟩:=fd.1 g;let⟨b,a⟩:=fd.1 f;have:=h i j (by simpa using e) (by simpa using b) c;simpa[d,a]using this
end Go.GxZ
namespace Go.AmZ
open GxZ
def YL(t:T):Ev (λ m _=>zk m t) (kz t):=by
 apply aF;simp only[qfD,Kb];unfold kz;by_cases a:t.kind=3
 .refine ah (aB.2 a) (ak (λ h=>?_) λ h=>(ak (λ b=>?_) λ b=>?_))
  .rw[cr]at h;exact al (by rw[a,h];rfl)
  .rw[cr]at b;exact al (by rw[a,b];rfl)
  .rw[cC]at h b
   exact al (by
    have d:(t.name==jL)=Y:=by rw[gH];exact h
    have c:(t.name==dR)=Y:=by rw[gH];exact b
    rw[a,d,c];rfl)
 .exact ai (ay.2 a) (al (by have:(t.kind==3)=Y:=by rw[gH];exact a
                            rw[this];rfl))
def Gt(t:T):size t<=100000000->Ev (λ m _=>jy m t) t:=by
 induction t using T.ind with
 |h t g=>
   intro o;have p:=fL t;apply aF;simp only[qgP,CJ]
   have a:wE 0 t.kids=Z ((),t.kids,()):=by
    unfold wE;rw[show Nat.ble (J t.kids) 100000000=O from qM (by omega)];rfl
   apply ao a
   have b:=aV (P:=λ i=>Ev (λ m k=>tx m (jy m) k (J t.kids) i t.kind t.name t.sort 0 [] 0 t.kids []) t) t.kids (by omega)
    (λ a=>by
     apply aw;simp only[RQ,CN];exact ai a (al (aA t)))
    (λ i x c q a f j l=>by
     apply aw;simp only[RQ,CN,aA];have d:=aK c;have s:=fM t x d
     have e:dK t.kids (i:Int) x=t.kids:=by
      rw[pV];let⟨r,n⟩:=fd.1 c;rw[<-n,List.set_getElem_self]
     refine ah a (ao f (ag (g x d (by omega)) (ao f ?_)));rw[e,j];exact l)
   apply bd (L:=λ m k=>tx m (jy m) k (J t.kids) 0 t.kind t.name t.sort 0 [] 0 t.kids []);exact b 0 (aG _)
def ZX(lo a:Nat)(h:lo+a<=1000000000:=by omega):iw .i64 (nz .u64 (iw .u64 (iw .i64 (av (lo:Int) (a:Int)))) 1)=(((lo+a)/2:Nat):Int):=by
 rw[Aq,show iw .i64 ((lo+a:Nat):Int)=((lo+a:Nat):Int)from dC,show iw .u64 ((lo+a:Nat):Int)=((lo+a:Nat):Int)from IntWalk.u64_in _ (by omega)]
 have:nz .u64 ((lo+a:Nat):Int) 1=(((lo+a)/2:Nat):Int):=by
  unfold nz;show Int.fdiv _ 2=_;rw[Int.fdiv_eq_ediv_of_nonneg _ (by decide)];omega
 rw[this,dC]
def szP(l:aa Pw):Nat:=(l.map λ p=>size p.1).sum
theorem nQ(p:Pw)(l:aa Pw):szP (p::l)=size p.1+szP l:=by simp[szP]
def nX:∀l:aa Pw,J l<=szP l
 |[]=>aG _
 |p::l=>by
   have:=nX l;have:=size_pos p.1;rw[nQ,bH];omega
def pZ:∀{l:aa Pw}{p:Pw},p∈l->size p.1<=szP l
 |q::l,p,h=>by
   rw[nQ];obtain rfl|h:=be.1 h
   .omega
   .have:=pZ h;omega
def Zc:∀(l:aa Pw) (t:T) (n:Int),szP (cu l t n)<=szP l+size t
 |[],t,n=>by rw[cu,nQ];show size t+0<=0+size t;omega
 |(x,m)::l,t,n=>by
   have:=Zc l t n;rw[cu];split
   .rw[nQ,nQ];show size t+(size x+_)<=size x+_+size t;omega
   .split
    .split
     .rw[nQ];show _<=size x+_+_;omega
     .rw[nQ,nQ];show size x+_<=size x+_+_;omega
    .rw[nQ,nQ];show size x+_<=size x+_+_;omega
def Xq(p:Pw)(t:T)(b:size p.1<=1000000000)(a:size t<=1000000000:=by omega):Ev (λ m _=>zf m p t) (aM p.1 t):=by
 apply aF;simp only[qfb,Ka,aA];exact ag (nN _ b _ a) (aq _)
def vS(l:aa Pw)(t:T):Bool:=match l[Go.GxZ.ixP l t]? with
 |Z p=>ieq (aM p.1 t) 0
 |U=>Y
def qra{l:aa Pw}(y:kK l)(t:T)(D:szP l+size t<=100000000):∀(d lo c:Nat),c<=lo+d->lo<=c->c<=J l->(∀k p,k<lo->l[k]?=Z p->aM p.1 t=-1)->(∀k p,c<=k->l[k]?=Z p->aM p.1 t≠-1)->
  Ev (λ m k=>tg m k l (J l) lo c t.kind t.name t.sort t.kids) ((Go.GxZ.ixP l t:Int),vS l t):=by
 have E:=nX l;intro d
 induction d with
 |zero=>
   intro lo c C z r o n;have:lo=c:=by omega
   subst this;have w:=qak l t lo r o (λ p g=>n lo p (au _) g);subst w;apply aw;simp only[Rh,BT,aA];rw[show T.mk t.kind t.name t.sort t.kids=t from aA t];refine ai (aT.2 (Js _)) (ak (λ h=>?_) λ h=>?_)
   .rw[aS]at h;have i:Go.GxZ.ixP l t<J l:=by omega
    obtain⟨p,e⟩:∃p,l[Go.GxZ.ixP l t]?=Z p:=⟨_,aU i⟩
    have v:=pZ (aK e);refine ao (a:=p) (by rw[dz,e]) (ag (Xq (p.1,p.2) _ (bT v (by omega))) (al ?_));unfold vS;rw[e]
   .rw[aT]at h;apply al;unfold vS;rw[oI (by omega)]
 |succ d s=>
   intro lo c C z r o n;by_cases F:lo=c
   .exact s lo c (by omega) z r o n
   apply aw;simp only[Rh,BT,aA];rw[show T.mk t.kind t.name t.sort t.kids=t from aA t,ZX lo c];have A:(lo+c)/2<c:=by omega
   have u:lo<=(lo+c)/2:=by omega
   generalize (lo+c)/2=b at *;have i:b<J l:=by omega
   obtain⟨p,e⟩:∃p,l[b]?=Z p:=⟨_,aU i⟩
   have v:=pZ (aK e);refine ah (aS.2 (by omega)) (ao (a:=p) (by rw[dz,e]) (ag (Xq (p.1,p.2) _ (bT v (by omega))) (ak (λ f=>?_) λ f=>?_)))
   .rw[aS]at f;have f:aM p.1 t<0:=f;have f:aM p.1 t=-1:=by obtain h|h|h:=dA.rng p.1 t<;>omega
    rw[show av ((b:Nat):Int) 1=((b+1:Nat):Int)from by unfold av;omega,dC];refine s (b+1) c (by omega) (by omega) r (λ k q B g=>?_) n;by_cases j:k=b
    .subst j;rw[e]at g;cases g;exact f
    .exact dA.trans _ _ _ (Zr y g e) f
   .rw[aT]at f;have f:0<=aM p.1 t:=f;refine s lo b (by omega) u (by omega) o (λ k q B g=>?_);by_cases j:k=b
    .subst j;rw[e]at g;cases g;omega
    .intro x;have:=dA.trans _ _ _ (Zr y e g) x;omega
def qte{l:aa Pw}(d:kK l)(t:T)(c:szP l+size t<=100000000:=by omega):Ev (λ m _=>BW m l t) ((Go.GxZ.ixP l t:Int),vS l t):=by
 apply aF;simp only[qdl,BU];apply bd (L:=λ m k=>tg m k l (J l) 0 (J l) t.kind t.name t.sort t.kids);exact qra d t c (J l) 0 (J l) (by omega) (aG _) (au _) (λ k p b=>by omega) (λ k p b a=>by rw[oI b]at a;cases a)
def UK{l:aa Pw}(r:kK l)(t:T)(n:Int)(u:szP l+size t<=90000000:=by omega)(g:J l<=90000:=by omega)(v:dQ l+n.natAbs<=1000000000000:=by omega):Ev (λ m _=>zi m l (t,n)) ((),cu l t n,()):=by
 have w:=nX l;have q:=qau l t;apply aF;simp only[qf3,Kg,aA];refine ag (qte r t) (ak (λ h=>?_) λ h=>?_)
 .rw[bnt]at h;apply ag (Gt t (by omega))
  have i:wD 0 l (Go.GxZ.ixP l t:Int) [(re t,n)]=Z ((),cu l t n,()):=by
   unfold wD;rw[show inb (Go.GxZ.ixP l t:Int) (J l)=O from by unfold inb;rw[df];omega,show Nat.ble (J l) 100000=O from qM (by omega)]
   rw[W2 l t n λ p j f=>by
    unfold vS at h;simp only[j]at h;rw[ay]at h;exact h f]
   rw[lG,aA,bC];rfl
  rw[aA]at i;refine ao i (aq _)
 .rw[bnf]at h;cases b:l[Go.GxZ.ixP l t]? with
  |none=>unfold vS at h;simp only[b]at h;cases h
  |some p=>
    let⟨x,k⟩:=p
    have f:aM x t=0:=by
     unfold vS at h;simp only[b]at h;exact aB.1 h
    have o:=Od l _ (aK b);have d:Go.GxZ.ixP l t<J l:=(fd.1 b).1;simp only at o
    have e1:iw .i64 (av k n)=k+n:=by
     unfold av;exact dC
    have e:ap (dK l (Go.GxZ.ixP l t:Int) (x,k+n)) (Go.GxZ.ixP l t:Int)=Z (x,k+n):=by
     rw[pV,dz,gD d]
    have a:l.set (Go.GxZ.ixP l t) (x,k+n)=l.take (Go.GxZ.ixP l t)++[(x,k+n)]++l.drop (Go.GxZ.ixP l t+1):=by
     rw[qtu,af d,bC];rfl
    refine ao (by rw[dz,b]) (ao (by rw[dz,b]) ?_);simp only[aA,e1];apply ao e;rw[YV l t n x k b f];refine ak (λ c=>?_) λ c=>?_
    .rw[aB]at c;rw[af c]
     have s:wC 0 (dK l (Go.GxZ.ixP l t:Int) (x,k+n)) (Go.GxZ.ixP l t:Int) (iw .i64 (av (Go.GxZ.ixP l t:Int) 1))=Z ((),l.take (Go.GxZ.ixP l t)++l.drop (Go.GxZ.ixP l t+1),()):=by
      rw[show av (Go.GxZ.ixP l t:Int) 1=((Go.GxZ.ixP l t+1:Nat):Int)from by unfold av;omega,dC,pV];unfold wC
      rw[fD,show inb ((Go.GxZ.ixP l t+1:Nat):Int) (J l)=O from by unfold inb;rw[df];omega,show inb (Go.GxZ.ixP l t:Int) (J l)=O from by unfold inb;rw[df];omega,
       show ieq ((Go.GxZ.ixP l t+1:Nat):Int) (av (Go.GxZ.ixP l t:Int) 1)=O from aB.2 (by unfold av;omega),show Nat.ble (J l) 100000=O from qM (by omega)]
      rw[lG,QP (au _),qcP (by omega)];rfl
     exact ao s (aq _)
    .rw[ay]at c;rw[ae c];apply al;rw[pV,a]
end Go.AmZ
namespace Go.GxZ
open Go.RowKit
def N2(q:ac T)(p:Pw):pvK q p=if bw p.1≠0 then bw p.1 else if kz p.1 then 1 else if p.2=0\/p.2 < -1000\/1000<p.2 then 7 else match q with|Z x=>if 0<=aM x p.1 then 5 else 0|U=>0:=rfl
def Yg:∀(l:aa Pw) (q:ac T),pvL q l=0->kK l/\(∀p∈l,p.2≠0/\p.2.natAbs<=1000)/\(∀x,q=Z x->∀p∈l,aM x p.1=-1)/\(∀p∈l,bw p.1=0/\kz p.1=Y)
 |[],q,_=>⟨List.Pairwise.nil,(λ _ h=>by cases h),(λ _ _ _ h=>by cases h),(λ _ h=>by cases h)⟩
 |p::l,q,h=>by
   rw[pvL]at h;unfold thn at h;split at h
   rotate_left
   .next b=>exact absurd h b
   .rename_i b;have k:=N2 q p;let⟨j,i,d,g⟩:=Yg l (Z p.1) h;rw[k]at b;split at b
    .next f=>exact absurd b f
    rename_i f;split at b
    .cases b
    rename_i m;split at b
    .cases b
    rename_i o
    have e:∀x,q=Z x->aM x p.1=-1:=λ x c=>by
     subst c;simp only at b;split at b
     .cases b
     .next n=>obtain h|h|h:=dA.rng x p.1<;>omega
    refine⟨xl.2 ⟨λ r a=>d _ rfl r a,j⟩,λ r a=>?_,λ x c r a=>?_,λ r a=>?_⟩
    .obtain rfl|a:=be.1 a
     .omega
     .exact i r a
    .obtain rfl|a:=be.1 a
     .exact e x c
     .exact lX (e x c) (by have:=d _ rfl r a;omega)
    .obtain rfl|a:=be.1 a
     .exact⟨by omega,by simpa using m⟩
     .exact g r a
def rq{l:aa Pw}(h:gm l=0):gS l/\J l<=200/\(∀p∈l,p.2.natAbs<=1000)/\(∀p∈l,bw p.1=0/\kz p.1=Y):=by
 unfold gm at h;split at h
 .cases h
 .obtain⟨d,b,-,c⟩:=Yg l U h;exact⟨⟨d,λ p a=>(b p a).1⟩,by omega,λ p a=>(b p a).2,c⟩
def AB(k:Nat):∀(l:aa Pw),(∀p∈l,p.2.natAbs<=k)->dQ l<=J l*k
 |[],_=>by simp[dQ]
 |p::l,h=>by
   have c:=AB k l λ q a=>h q (bk _ a);have b:=h p (bj ..);have e:dQ (p::l)=p.2.natAbs+dQ l:=rfl;rw[e,bH,dM];omega
theorem No:∀(b a:aa Pw) (p:Pw),p∈eh a b->(∃q∈a,q.1=p.1)\/∃q∈b,q.1=p.1
 |[],a,p,h=>.inl ⟨p,h,rfl⟩
 |r::b,a,p,h=>by
   obtain⟨q,c,e⟩|⟨q,c,e⟩:=No b (cu a r.1 r.2) p h
   .obtain d|d:=Hm a r.1 r.2 q c
    .exact .inr ⟨r,bj ..,by rw[<-d];exact e⟩
    .exact .inl ⟨q,d,e⟩
   .exact .inr ⟨q,bk _ c,e⟩
def VU(a b:aa Pw)(p:Pw):eh a (b++[p])=cu (eh a b) p.1 p.2:=by unfold eh;rw[BN];rfl
def qm1{a b:aa Pw}(n:gm a=0)(m:gm b=0)(S:Nat)(f:∀p∈a,size p.1<=S)(d:∀p∈b,size p.1<=S)(j:Nat):
  kK (eh a (b.take j))/\J (eh a (b.take j))<=400/\(∀p∈eh a (b.take j),p.2.natAbs<=1000000)/\(∀p∈eh a (b.take j),size p.1<=S):=by
 obtain⟨r,t,k,-⟩:=rq n;obtain⟨o,s,i,-⟩:=rq m;have h:∀p∈b.take j,p∈b:=λ p c=>gd c;have l:=Mm (b.take j) a r λ p c=>o.2 p (h p c);let⟨y,x⟩:=M4 (b.take j) a;have w:=AB 1000 a k;have v:=AB 1000 (b.take j) λ p c=>i p (h p c);have u:J (b.take j)<=200:=by rw[bg];omega
 refine⟨l.1,by omega,λ p c=>?_,λ p c=>?_⟩
 .have:=Od _ p c;omega
 .obtain⟨q,g,e⟩|⟨q,g,e⟩:=No _ _ p c
  .rw[<-e];exact f q g
  .rw[<-e];exact d q (h q g)
end Go.GxZ
namespace Go.AmZ
open GxZ
def lU{t:T}(h:bw t=0):size t<=400:=by
 grind [bw]
def HQ{t:T}:kz t=O↔t.kind=3/\(t.name=jL\/t.name=dR\/t.name=kI):=by
 grind [kz]
theorem Zl(t:T):∀(l:aa Pw) (n:Int),szP (cY t l n)<=szP l+size t:=by
 refine T.ind (P:=λ t=>∀(l:aa Pw) (n:Int),szP (cY t l n)<=szP l+size t) ?_ t;intro t d l n;rw[rJ];have h:=cM t;split
 .have:∀(a:aa T),(∀k∈a,k∈t.kids)->∀l,szP ((a.map cY).foldl (λ l f=>f l (fZ t n)) l)<=szP l+(a.map size).sum:=by
    intro a
    induction a with
    |nil=>intro _ l;simp
    |cons k a b=>
      intro c l;have i:=d k (c k (bj ..)) l (fZ t n);have g:=b (λ k e=>c k (bk _ e)) (cY k l (fZ t n));simp only[bh,jv,iv]at g |-
      omega
  grind
 .exact Zc l t n
def jO(b:aa T)(a:Int)(l:aa Pw)(i:Nat):aa Pw:=((b.take i).map cY).foldl (λ l f=>f l a) l
def Wu{b:aa T}{i:Nat}{x:T}(h:b[i]?=Z x)(a:Int)(l:aa Pw):jO b a l (i+1)=cY x (jO b a l i) a:=by
 grind [jO,List.take_add_one]
def LX(a:Int)(c:a≠0):∀(b:aa T) (l:aa Pw),gS l->gS ((b.map cY).foldl (λ l f=>f l a) l)/\szP ((b.map cY).foldl (λ l f=>f l a) l)<=szP l+szL b/\
  dQ ((b.map cY).foldl (λ l f=>f l a) l)<=dQ l+szL b*a.natAbs/\J ((b.map cY).foldl (λ l f=>f l a) l)<=J l+szL b
 |[],l,h=>⟨h,by simp,by simp,by simp⟩
 |k::b,l,h=>by
   let⟨i,g,e,d⟩:=LX a c b (cY k l a) (qof k l a c h);grind [Zl,qpW,dY,Nat.add_mul]
def ol(t:T)(l:aa Pw)(n:Int):Unit×aa Pw×Bool×Unit:=((),if arT t then cY t l n else[],arT t,())
def qmY(t:T):∀(l:aa Pw) (n:Int),n≠0->gS l->szP l+size t<=80000->dQ l+size t*n.natAbs<=100000000000->Ev (λ m _=>kW m l t n) (ol t l n):=by
 induction t using T.ind with
 |h t K=>
   intro l n G H W I;have hl:=fL t;have S:=cM t;have M:=nX l;apply aF;simp only[qfv,Cr,aA];refine ag (YL t) (ak (λ h=>?_) λ h=>?_)
   .rw[bnt]at h;have r:n.natAbs<=size t*n.natAbs:=qda _ (size_pos t);refine ag (UK H.1 t n) (al ?_);grind [ol,Io,rJ]
   rw[bnf]at h;let⟨h3,j⟩:=HQ.1 h;have o:arT t=(arK t&&(t.kids.map arT).all id):=by rw[Io,h];rfl
   have g:∀e:Int,e≠0->e.natAbs=n.natAbs->fZ t n=e->arK t=O->Ev (λ m _=>qS m (kW m) m e t.kids (J t.kids) 0 l) (ol t l n):=by
    intro e p E z d;have s:cY t l n=jO t.kids e l (J t.kids):=by rw[rJ,h,af rfl,z];unfold jO;rw[cI]
    have y:=aV (P:=λ i=>(∀k∈t.kids.take i,arT k=O)->Ev (λ m k=>qS m (kW m) k e t.kids (J t.kids) i (jO t.kids e l i)) (ol t l n)) t.kids (by omega)
     (λ D w=>by
      apply aw;simp only[RH,Cq];refine ai D (al ?_);unfold ol
      have:arT t=O:=by
       rw[o,d,bU,bB];intro b I;obtain⟨k,B,rfl⟩:=bE.1 I;rw[cI]at w;exact w k B
      rw[this,af rfl,s])
     (λ i x v hd D C N F w=>by
      apply aw;simp only[RH,Cq,aA];have A:=aK v;have h1:=fM t x A;let⟨Q,f2,f3,f4⟩:=LX e p (t.kids.take i) l H;have h5:=pH v;have h6:szL t.kids+1=size t:=by unfold szL;omega
      have h7:szL (t.kids.take i)*e.natAbs+size x*e.natAbs<=size t*n.natAbs:=by
       rw[<-dM,E];exact bY _ (by omega)
      refine ah D (ao C (ag (K x A (jO t.kids e l i) e p Q (by unfold jO;omega) (by unfold jO;omega)) (ak (λ c=>?_) λ c=>?_)))
      .rw[bnt]at c;have c:arT x=Y:=c;apply al;unfold ol
       have:arT t=Y:=by
        rw[o,d,bU,<-nJ,bB];intro u;have:=u (arT x) (nK A);rw[c]at this;cases this
       rw[this];rfl
      .rw[bnf]at c;have c:arT x=O:=c
       have F:=F λ k f=>by
        rw[eI,v]at f;obtain f|f:=aR.1 f
        .exact w k f
        .rw[show k=x from by simpa using f];exact c
       rw[N];refine F.congr λ m k=>?_;unfold ol;rw[Wu v,c];rfl)
    apply bd (L:=λ m k=>qS m (kW m) k e t.kids (J t.kids) 0 l);exact(y 0 (aG _)) (λ k d=>by rw[yQ]at d;cases d)
   have R:arK t=Y->Ev (λ _ _=>Z ((),[],Y,())) (ol t l n):=λ d=>by
    apply al;unfold ol;rw[o,d];rfl
   have q:iw .i64 (cX 0 n)=-n:=by
    have r:n.natAbs<=size t*n.natAbs:=qda _ (size_pos t);grind [cX,dC]
   obtain a|a|a:=j
   .refine ai (by rw[a];rfl) (ai (by rw[a];rfl) (ah (by rw[a];rfl) (ak (λ d=>?_) λ d=>?_)))
    .grind [arK,aS,decide_eq_true]
    .rw[aT]at d;exact ai (by rw[a];rfl) (g n G rfl (by unfold fZ;rw[a];rfl) (by unfold arK;rw[a,bo (show ¬ J t.kids<2 by omega)];rfl))
   .refine ai (by rw[a];rfl) (ah (by rw[a];rfl) (ak (λ d=>?_) λ d=>?_))
    .rw[bnt,ay]at d;grind [arK]
    .rw[bnf,aB]at d;rw[q];exact ai (by rw[a];rfl) (ah (by rw[a];rfl) (g (-n) (by omega) (by omega) (by unfold fZ;rw[af a]) (by unfold arK;rw[a,show(J t.kids != 1)=Y from by rw[Ra];omega];rfl)))
   .refine ah (by rw[a];rfl) (ak (λ d=>?_) λ d=>?_)
    .rw[bnt,ay]at d;grind [arK]
    .rw[bnf,aB]at d;exact ai (by rw[a];rfl) (ai (by rw[a];rfl) (ai (by rw[a];rfl) (g n G rfl (by unfold fZ;rw[a];rfl) (by unfold arK;rw[a,show(J t.kids != 0)=Y from by rw[Ra];omega];rfl))))
def N6(t:T)(c:size t<=1000000000:=by omega):Ev (λ m _=>ut m t) (ofP t):=by
 apply aF;simp only[qkt,KY,aA];unfold ofP;refine ag (lW t c) (ak (λ h=>?_) λ h=>?_)
 .rw[bnt,ay]at h;rw[af h];exact aq _
 .rw[bnf,aB]at h;have d:=lU h;rw[ifN];refine ag (qmY t [] 1 (by decide) gS.nil (by show 0+_<=_;omega) (by show 0+size t*1<=_;omega)) (ak (λ a=>?_) λ a=>?_)
  .rw[bnt]at a;have a:arT t=Y:=a;rw[af a];exact aq _
  .rw[bnf]at a;have a:arT t=O:=a;rw[ae (by rw[a];decide)];have e:(ol t [] 1).2.1=cY t [] 1:=by unfold ol;rw[a];rfl
   rw[e];refine ak (λ b=>?_) λ b=>?_
   .rw[aS]at b;rw[ifP];exact aq _
   .rw[aT]at b;rw[ifN];exact aq _
def lm(l:aa Pw)(i:Nat):ac T:=if i=0 then U else(l[i-1]?).map (·.1)
def Gl{l:aa Pw}{i:Nat}{p:Pw}(h:l[i]?=Z p):lm l (i+1)=Z p.1:=by
 grind [lm]
def L8(l:aa Pw)(E:szP l<=1000000000:=by omega):Ev (λ m _=>wN m l) (gm l):=by
 have F:=nX l;apply aF;simp only[qgU,CG];unfold gm;refine ak (λ h=>?_) λ h=>?_
 .rw[aS]at h;rw[ifP];exact aq _
 rw[aT]at h;rw[ifN]
 have s:=aV (P:=λ i=>Ev (λ m k=>qT m k l l (J l) i) (pvL (lm l i) (l.drop i))) l (by omega)
  (λ z=>by
   apply aw;simp only[R7,CO];refine ai z (al ?_);rw[bO];rfl)
  (λ i x u D z C B A=>by
   apply aw;simp only[R7,CO,aA];have H:=pZ (aK u);rw[Gl u]at A;rw[D,pvL];have c:=N2 (lm l i) x
   have b:∀e:Int,pvK (lm l i) x=e->e≠0->Ev (λ _ _=>Z e) (thn (pvK (lm l i) x) (pvL (Z x.1) (l.drop (i+1)))):=λ e y r=>by
    rw[y];exact al (by unfold thn;rw[ae r])
   have d:pvK (lm l i) x=0->Ev (λ m k=>qT m k l l (J l) ((i+1:Nat):Int)) (thn (pvK (lm l i) x) (pvL (Z x.1) (l.drop (i+1)))):=λ y=>by
    rw[y];exact A.res (by unfold thn;rw[af rfl])
   refine ah z (ao C (ag (lW x.1) (ak (λ p=>?_) λ p=>?_)))
   .rw[bnt,ay]at p;exact b _ (by rw[c,af p]) p
   rw[bnf,aB]at p;rw[ifN]at c;refine ag (YL x.1) (ak (λ o=>?_) λ o=>?_)
   .exact b 1 (by rw[c,af o]) (by decide)
   rw[ae (by rw[o];decide)]at c;refine ak (λ t=>?_) λ t=>?_
   .rw[aB]at t;exact b 7 (by rw[c,ifP]) (by decide)
   rw[ay]at t;refine ak (λ n=>?_) λ n=>?_
   .rw[aS]at n;exact b 7 (by rw[c,ifP]) (by decide)
   rw[aT]at n;refine ak (λ g=>?_) λ g=>?_
   .rw[aS]at g;exact b 7 (by rw[c,ifP]) (by decide)
   rw[aT]at g;rw[ifN]at c;rw[B];refine ak (λ r=>?_) λ r=>?_
   .rw[aS]at r;obtain⟨j,rfl⟩:∃j,i=j+1:=⟨i-1,by omega⟩
    have w:j<J l:=by have:=(fd.1 u).1;omega
    obtain⟨q,v⟩:∃q,l[j]?=Z q:=⟨_,aU w⟩
    have G:=pZ (aK v);rw[Gl v]at c b d |-
    simp only at c;refine ao (a:=q) (by rw[show cX ((j+1:Nat):Int) 1=((j:Nat):Int)from by unfold cX;omega,dC,dz,v]) (ag (nN q.1 (by omega) x.1 (by omega)) (ak (λ f=>?_) λ f=>?_))
    .rw[fU]at f;exact b 5 (by rw[c,af f]) (by decide)
    .rw[jI]at f;exact d (by rw[c,ifN])
   .rw[aT]at r;have:i=0:=by omega
    subst this;exact d (by rw[c];rfl))
 apply bd (L:=λ m k=>qT m k l l (J l) 0);exact s 0 (aG _)
def jZ{α:Type}{l:aa α}{i:Nat}{x:α}(h:l[i]?=Z x):l.take (i+1)=l.take i++[x]:=by rw[eI,h];rfl
def Nh(a b:aa Pw):cm (a++b)=cm a++cm b:=by unfold cm;rw[List.flatMap_append]
def M9(a b:aa Pw):cp (a++b)=cp a++cp b:=by unfold cp;rw[List.flatMap_append]
def M0(p:Pw):cm [p]=List.replicate p.2.toNat p.1:=by unfold cm;simp
def MM(p:Pw):cp [p]=List.replicate (-p.2).toNat (apT dR [p.1]):=by unfold cp;simp
def ZL(n:Nat)(x:T):szL (List.replicate n x)=n*size x:=by
 simp_all [szL]
def WM(t:T):size (apT dR [t])=1+size t:=by rw[cM];show 1+(size t+0)=_;omega
def HG{P:Nat->Prop}(N:Int)(g:N<=1000000)(b:P N.toNat)(a:∀j:Nat,(j:Int)<N->iw .i64 (av (j:Int) 1)=((j+1:Nat):Int)->P (j+1)->P j):∀j:Nat,j<=N.toNat->P j:=by
 intro j e;obtain⟨d,f⟩:∃d,N.toNat=j+d:=⟨N.toNat-j,by omega⟩
 induction d generalizing j with
 |zero=>
   grind
 |succ d c=>
   grind [av,dC]
def qq9{l:aa Pw}{p:Pw}(a:p∈l)(h:8<p.2):8<J (cm l++cp l):=by
 have:J (List.replicate p.2.toNat p.1)<=J (cm l):=bT (qty (nK (f:=λ p:Pw=>List.replicate p.2.toNat p.1) a)).length_le (by unfold cm;rw[qcR];exact au _);grind
def qrR{l:aa Pw}{p:Pw}(a:p∈l)(h:p.2 < -8):8<J (cm l++cp l):=by
 have:J (List.replicate (-p.2).toNat (apT dR [p.1]))<=J (cp l):=bT (qty (nK (f:=λ p:Pw=>List.replicate (-p.2).toNat (apT dR [p.1])) a)).length_le (by unfold cp;rw[qcR];exact au _);grind
def Yz(o:aa T):size (fw o)<=1+szL o:=by
 unfold fw;split
 .rw[cM];show 1+0<=_;omega
 .split
  .rename_i _ a
   have:o.getD 0 zT∈o:=by
    cases o with
    |nil=>cases a
    |cons x r=>exact bj ..
   have:=mS this;omega
  .rw[cM];exact au _
def Mw{l:aa Pw}(b:∀p∈l,size p.1<=400):∀(a:aa Pw),(∀p∈a,p∈l/\-8<=p.2/\p.2<=8)->J (cm a)<=8*J a/\J (cp a)<=8*J a/\szL (cm a)<=3200*J a/\szL (cp a)<=3208*J a
 |[],_=>⟨au _,au _,au _,au _⟩
 |p::a,h=>by
   let⟨n,m,k,j⟩:=Mw b a λ q c=>h q (bk _ c);let⟨e,r,o⟩:=h p (bj ..);have d:=b p e;have e1:cm (p::a)=List.replicate p.2.toNat p.1++cm a:=by rw[show p::a=[p]++a from rfl,Nh,M0]
   have f:cp (p::a)=List.replicate (-p.2).toNat (apT dR [p.1])++cp a:=by rw[show p::a=[p]++a from rfl,M9,MM]
   have i:p.2.toNat*size p.1<=8*400:=Q0 (by omega) d;have g:(-p.2).toNat*(1+size p.1)<=8*401:=Q0 (by omega) (by omega);rw[e1,f,vc,vc,ZL,ZL,WM];grind
def py(o:aa T):T×Int:=if 8<J o then(zT,3)else if bw (fw o)≠0 then(zT,bw (fw o))else(fw o,0)
def L7{l:aa Pw}(h:gm l=0):ja l=py (cm l++cp l):=by
 grind [ja,py]
def W7(l:aa Pw)(S:szP l<=1000000000:=by omega):Ev (λ m _=>rd m l) (ja l):=by
 apply aF;simp only[qhe,Dh];refine ag (L8 l S) (ak (λ h=>?_) λ h=>?_)
 .rw[bnt,ay]at h;unfold ja;rw[af h];exact aq _
 rw[bnf,aB]at h;let⟨_,H,hN,hV⟩:=rq h;have c:∀p∈l,size p.1<=400:=λ p A=>lU (hV p A).1;rw[L7 h]
 have D:=aV (P:=λ i=>(∀p∈l.take i,p∈l/\-8<=p.2/\p.2<=8)->Ev (λ m k=>(fG m k).1 l (J l) i 0 [] 0 [] (cm (l.take i)) (cp (l.take i))) (py (cm l++cp l))) l (by omega)
  (λ F t=>by
   apply aw;simp only[Sf,C6,aA];rw[cI]at t |-
   let⟨b1,b2,b3,b4⟩:=Mw c l t;refine ai F (ag (F2 (cm l) (cp l)) ?_);have ho:szL (cm l++cp l)<=10000000:=by rw[vc];omega
   generalize cm l++cp l=o at *;dsimp only;have ad:=gL o;have W:=Yz o;unfold py;refine ak (λ b=>?_) λ b=>?_
   .rw[aS]at b;rw[ifP];exact aq _
   rw[aT]at b;rw[ifN]
   have f:∀u:T,u=fw o->Ev (λ m _=>ab (fI m u) λ v=>cond (am (ieq v 0)) (Z (T.mk 0 [] 0 [],v)) (Z (u,0))) (if bw (fw o)≠0 then(zT,bw (fw o))else(fw o,0)):=by
    intro u Q;subst Q;refine ag (lW _) (ak (λ h=>?_) λ h=>?_)
    .rw[bnt,ay]at h;rw[af h];exact aq _
    .rw[bnf,aB]at h;rw[ifN];exact aq _
   have y:∀(n:aa aN) (x:aa T),Ev (λ m _=>zx m n x) (apT n x):=λ n x=>aF (aq _);refine ag (y [109,117,108] o) (ak (λ G=>?_) λ G=>?_)
   .rw[aB]at G;exact ag (y [111,110,101] []) (f _ (by unfold fw;rw[ifP];rfl))
   .rw[ay]at G;refine ak (λ C=>?_) λ C=>?_
    .rw[aB]at C;refine ao (a:=o.getD 0 zT) ?_ (f _ (by unfold fw;rw[ifN,ifP]));rw[lV,dO];cases o with
     |nil=>simp at C
     |cons x r=>rfl
    .rw[ay]at C;exact f _ (by unfold fw;rw[ifN,ifN];rfl))
  (λ i p z hd F hg hi B t=>by
   apply aw;simp only[Sf,C6];have s:=aK z;have hn:=hN p s;have hz:=c p s;have an:=(fd.1 z).1;refine ah F (ao hg (ak (λ b=>?_) λ b=>?_))
   .rw[aS]at b;unfold py;rw[af (qq9 s b)];exact aq _
   rw[aT]at b;refine ak (λ w=>?_) λ w=>?_
   .rw[aS]at w;unfold py;rw[af (qrR s w)];exact aq _
   rw[aT]at w;let⟨b1,b2,b3,b4⟩:=Mw c _ t;have R:J (l.take i)<=200:=by rw[bg];omega
   have B:=B λ q g=>by
    rw[jZ z]at g;obtain g|g:=aR.1 g
    .exact t q g
    .rw[show q=p from by simpa using g];exact⟨s,w,b⟩
   rw[jZ z,Nh,M9,M0,MM]at B;generalize cm (l.take i)=I at *;generalize cp (l.take i)=K at*
   have M:=HG (P:=λ j=>Ev (λ m k=>(fG m k).2.2 l (J l) i (-p.2) j 0 [] 0 p.1.kind p.1.name p.1.sort p.1.kids p.2 [] (I++List.replicate p.2.toNat p.1) (K++List.replicate j (apT dR [p.1]))) (py (cm l++cp l))) (-p.2) (by omega)
    (by
     apply aw;simp only[Sl,Df];apply ai (aT.2 (by omega));rw[hi];exact B)
    (λ j E d e=>by
     apply aw;simp only[Sl,Df,aA];rw[show T.mk p.1.kind p.1.name p.1.sort p.1.kids=p.1 from aA p.1,d];refine ah (aS.2 E) (ag (Gt p.1 (by omega)) (ag (a:=apT dR [p.1]) (aF (aq _)) (ah (bD (by rw[aO,sV];omega)) ?_)));refine e.congr λ m k=>?_;rw[Rb,bC])
   have N:=HG (P:=λ j=>Ev (λ m k=>(fG m k).2.1 l (J l) i p.2 j 0 [] 0 p.1.kind p.1.name p.1.sort p.1.kids p.2 [] (I++List.replicate j p.1) K) (py (cm l++cp l))) p.2 (by omega)
    (by
     apply aw;simp only[Sm,C2];apply ai (aT.2 (by omega));rw[show iw .i64 (cX 0 p.2)=-p.2 from by unfold cX;rw[dC];omega];have:=M 0 (aG _);rw[Rc,bJ]at this;exact this)
    (λ j E d e=>by
     apply aw;simp only[Sm,C2,aA];rw[show T.mk p.1.kind p.1.name p.1.sort p.1.kids=p.1 from aA p.1,d];refine ah (aS.2 E) (ag (Gt p.1 (by omega)) (ah (bD (by rw[aO,sV];omega)) ?_));refine e.congr λ m k=>?_;rw[Rb,bC])
   have:=N 0 (aG _);rw[Rc,bJ]at this;exact this)
 apply bd (L:=λ m k=>(fG m k).1 l (J l) 0 0 [] 0 [] [] []);exact(D 0 (aG _)) (λ p A=>by rw[yQ]at A;cases A)
def qst(l:aa Pw)(g:szP l<=100000000):Ev (λ m _=>Dz m l) ((),l,()):=by
 have h:=nX l;apply aF;simp only[qfI,Cv]
 have a:=aV (P:=λ i=>Ev (λ m k=>tw m k l (J l) i (l.take i)) ((),l,())) l (by omega)
  (λ b=>by
   apply aw;simp only[RJ,Cw];apply ai b;rw[cI];exact aq _)
  (λ i p c j b e d f=>by
   apply aw;simp only[RJ,Cw,aA];have o:=pZ (aK c);have n:J (l.take i)<=J l:=by rw[bg];omega
   refine ah b (ao e (ag (Gt p.1 (by omega)) (ah (bD) ?_)));rw[d];refine f.congr λ m k=>?_;rw[jZ c])
 apply bd (L:=λ m k=>tw m k l (J l) 0 []);exact a 0 (aG _)
def VF(p:Pw)(l:aa Pw):pv (p::l)=((X (p.2 < -1000)||X (1000<p.2))||pv l):=rfl
def qrG(l:aa Pw)(r:J l<=1000000000):∃v,Ev (λ m _=>B4 m l) v/\ile 0 v=pv l:=by
 have b:=aV (P:=λ i=>∃v,Ev (λ m k=>wz m k l (J l) i) v/\ile 0 v=pv (l.drop i)) l (by omega)
  (λ a=>by
   refine⟨-1,aw ?_,by rw[bO];rfl⟩;simp only[JK,yR];exact ai a (aq _))
  (λ i p q n a f j o=>by
   let⟨v,d,c⟩:=o;rw[n,VF]
   have e:Ev (λ m _=>CP m (p.1,p.2)) (X (p.2 < -1000)||X (1000<p.2)):=by
    apply aF;simp only[qfa,J8];refine ak (λ h=>?_) λ h=>?_
    .rw[aS]at h;exact al (by rw[bf h];rfl)
    .rw[aT]at h;exact al (by rw[bo (show ¬ p.2 < -1000 by omega)];rfl)
   cases g:X (p.2 < -1000)||X (1000<p.2)with
   |true=>
     refine⟨i,aw ?_,by rw[nI,fU];omega⟩;simp only[JK,yR,aA];exact ah a (ao f (ag e (ah g (aq _))))
   |false=>
     refine⟨v,aw ?_,by rw[mK];exact c⟩;simp only[JK,yR,aA];refine ah a (ao f (ag e (ai g ?_)));rw[j];exact d)
 let⟨v,d,c⟩:=b 0 (aG _);refine⟨v,aF ?_,by rw[c,bF]⟩;simp only[qdE,BY];grind [Ev.diag]
def vx(l:aa Pw):aa Pw×Int:=if pv l then([],7)else if 200<J l then([],3)else(l,0)
def qrf(l:aa Pw)(c:J l<=1000000000:=by omega):Ev (λ m _=>DE m l) (vx l):=by
 let⟨v,b,d⟩:=qrG l c;apply aF;simp only[qgd,Ke]
 have e:Ev (λ m _=>BX m l) (pv l):=by
  apply aF;simp only[qdp,JG];exact ag b (al d)
 unfold vx;refine ag e (ak (λ h=>?_) λ h=>?_)
 .rw[af h];exact aq _
 .rw[ae (by rw[h];decide)];refine ak (λ a=>?_) λ a=>?_
  .rw[aS]at a;rw[ifP];exact aq _
  .rw[aT]at a;rw[ifN];exact aq _
def qaF(S:Nat):∀l:aa Pw,(∀p∈l,size p.1<=S)->szP l<=J l*S
 |[],_=>by simp[szP]
 |p::l,h=>by
   have b:=qaF S l λ q a=>h q (bk _ a);grind [List.mem_cons_self,nQ,List.length_cons,Nat.add_mul]
def Vf(a b:aa Pw):px a b=if gm a≠0 then([],gm a)else if gm b≠0 then([],gm b)else vx (eh a b):=rfl
def zP{a b:aa Pw}(f:gm a=0)(e:gm b=0)(j:Nat):
  gS (eh a (b.take j))/\J (eh a (b.take j))<=400/\szP (eh a (b.take j))<=160000/\dQ (eh a (b.take j))<=400000:=by
 let⟨q,s,l,i⟩:=rq f;let⟨o,r,k,h⟩:=rq e;have d:∀p∈b.take j,p∈b:=λ p c=>gd c;let⟨y,g,x,n⟩:=qm1 f e 400 (λ p c=>lU (i p c).1) (λ p c=>lU (h p c).1) j;have m:=qaF 400 _ n;let⟨w,_⟩:=M4 (b.take j) a;have v:=AB 1000 a l;have u:=AB 1000 (b.take j) λ p c=>k p (d p c);have t:J (b.take j)<=200:=by rw[bg];omega
 refine⟨Mm _ _ q λ p c=>o.2 p (d p c),g,bT m (bY 400 g),?_⟩;grind
def qrs(a b:aa Pw)(s:szP a<=100000000:=by omega)(y:szP b<=100000000:=by omega):Ev (λ m _=>E5 m a b) (px a b):=by
 have w:=nX b;apply aF;simp only[qiU,Dy];rw[Vf];refine ag (L8 a) (ak (λ h=>?_) λ h=>?_)
 .rw[bnt,ay]at h;rw[af h];exact aq _
 rw[bnf,aB]at h;rw[ifN];refine ag (L8 b) (ak (λ c=>?_) λ c=>?_)
 .rw[bnt,ay]at c;rw[af c];exact aq _
 rw[bnf,aB]at c;rw[ifN];apply ag (qst a s)
 have d:=aV (P:=λ i=>Ev (λ m k=>tO m k b (J b) i (eh a (b.take i))) (vx (eh a b))) b (by omega)
  (λ e=>by
   apply aw;simp only[SQ,Ds];rw[cI];let⟨_,j,_,_⟩:=zP h c (J b);rw[cI]at j;exact ai e (ag (qrf _) (aq _)))
  (λ i p f x e r q t=>by
   apply aw;simp only[SQ,Ds,aA];have g:=aK f;let⟨u,j,A,z⟩:=zP h c i;let⟨_,_,o,l⟩:=rq c;have v:=lU (l p g).1;have n:=o p g;refine ah e (ao r (ag (UK u.1 p.1 p.2) ?_));rw[q];refine t.congr λ m k=>?_;rw[jZ f,VU])
 apply bd (L:=λ m k=>tO m k b (J b) 0 a);exact d 0 (aG _)
end Go.AmZ
