/- Part 4 of what the proofs stand on: plain functions of the program, and that they are its functions. -/
import Derived.Test.YtfepnknpfhiemaaGreatDoorM3
import Derived.KernelRfl
import Derived.Test.YtfepnknpfhiemaaGreatDoorProg
import Derived.Test.YtfepnknpfhiemaaGreatDoorM2
import Derived.IntWalk
import Derived.Lib.Bytealg
set_option linter.unusedVariables false
set_option linter.unusedSimpArgs false
set_option linter.defProp false
noncomputable section
open Option renaming some->Z,none->U
open Bool renaming true->O,false->Y
open Decidable renaming decide->J
open List renaming length->X
open Array renaming toList->V
open Go renaming Value->aj,World->aA,TypeId->aQ,Program->aZ,FuncId->cI
namespace Go.AmZ
open GxZ
section
open RowKit Go.Sort Proofs Shelf
structure PH (w0:aA) (blk:Nat) (et:aQ) (vs:Array aj) (W:aA):Prop where
 hb:W.heap[blk]?=Z (.cells vs et (0,0))
 os:W.os=w0.os
 tape:W.tape=w0.tape
 output:W.output=w0.output
 size:w0.heap.size<=W.heap.size
 other:∀b,b<w0.heap.size->b≠blk->W.heap[b]?=w0.heap[b]?
 drawn:w0.drawn<=W.drawn
def PH.refl{w:aA}{a:Nat}{b:aQ}{vs:aL aj}(h:w.heap[a]?=Z (.cells vs b (0,0))):PH w a b vs w:=⟨h,rfl,rfl,rfl,ak _,λ _ _ _=>rfl,ak _⟩
theorem sort_blks{w:aA}{blk:Nat}{et:aQ}{vs:Array aj}(hb:w.heap[blk]?=some (.cells vs et (0,0))){α : Type}[Inhabited α](enc : α -> List aj)(k m:Nat)(dk:Array α)(os:Array Obj) :
  PH w blk et (putCells id 0 (flatK enc k dk) vs) (sortWorldK enc k w blk 0 m dk os):=by
 have hlt:blk<w.heap.size:=(eC.1 hb).1;have hh:(sortWorldK enc k w blk 0 m dk os).heap=w.heap.modify blk (onCells (putCells id 0 (flatK enc k dk)))++os:=rfl;refine⟨?_,rfl,rfl,rfl,?_,λ b hb' hn=>?_,kH _ _⟩
 ·rw[hh,qb9 (by simpa using hlt),Qw,af rfl,hb];rfl
 ·rw[hh,vO,Array.size_modify];exact kH _ _
 ·rw[hh,qb9 (by simpa using hb'),Qw,ae (mC hn)]
def PX.grow{W w':aA}(h:PX W w'):∃q a,w'=Sort.grow (W.drewN q) a:=by
 refine⟨w'.drawn-W.drawn,w'.heap.extract W.heap.size w'.heap.size,?_⟩
 have c:w'.heap=W.heap++w'.heap.extract W.heap.size w'.heap.size:=by
  apply Array.ext_getElem?;intro i;by_cases b:i<W.heap.size
  .rw[qb9 b];exact h.block i b
  .rw[Array.getElem?_append_right (by omega),Array.getElem?_extract];split
   .congr 1;omega
   .rw[Array.getElem?_eq_none (by omega)]
 have d:W.drawn+(w'.drawn-W.drawn)=w'.drawn:=Nat.add_sub_cancel' h.drawn;let⟨g,f,e,_,_,_⟩:=h;cases w';cases W;simp only[Sort.grow,World.drewN]at *;rw[<-c,d,g,f,e]
def gL(vs:aL aj)(k p:Nat):aa aj:=(vs.toList.drop (p*k)).take k
def Hj{vs:aL aj}{k p j:Nat}(a:j<k):(gL vs k p)[j]?=vs[p*k+j]?:=by
 unfold gL;rw[fM,af a,iJ,gA]
def MK{vs:aL aj}{k p n:Nat}(a:p<n)(b:n*k<=vs.size):X (gL vs k p)=k:=by
 unfold gL;have:(p+1)*k<=n*k:=bZ _ a;rw[jO]at this;rw[bj,fZ,ig];omega
def WQ{Γ:Gh}{τ:Ty}{c:aa (aa AV)}{l:aa (Val τ)}{vs:aL aj}{n:Nat}(v:X c=n)(B:∀e∈c,X e=τ.size)(w:bU (bu τ) c=Z l)(C:gC Γ τ.size c (vs.toList.take (n*τ.size)))(A:n*τ.size<=vs.size)
  {p:Nat}{x:Val τ} (t:l[p]?=Z x):RepL Γ (aI τ x) (gL vs τ.size p)/\∀u∈gL vs τ.size p,u.oneCell'=O:=by
 have o:X l=n:=(dU w).symm.trans v;have h:p<n:=by rw[<-o];exact getElem?_lt t
 have b:p<X c:=by rw[v];exact h
 let⟨x',g,r⟩:=oC w (aS b);rw[t]at g;cases g;have f:=B _ (fX b);have a:=MK (k:=τ.size) h A
 have get:∀j,j<τ.size->∃u,(gL vs τ.size p)[j]?=Z u/\Rep Γ (c[p][j]?.getD .dead) u/\u.oneCell'=O:=by
  intro j d;have i:j<c[p].length:=by rw[f];exact d
  let⟨u,u1,u2,u3⟩:=C p c[p] j _ (aS b) (aS i);refine⟨u,?_,?_,u3⟩
  .rw[Hj d,<-gA];rw[fM]at u1;split at u1
   .exact u1
   .cases u1
  .rw[aS i];exact u2
 constructor
 .refine(xI r).rep ⟨by rw[a,f],λ j y u s m=>?_⟩;have d:j<τ.size:=by rw[<-f];exact getElem?_lt s
  let⟨z,u1,u2,_⟩:=get j d;rw[m]at u1;cases u1;rw[s]at u2;exact u2
 .intro u m;let⟨j,d⟩:=mD m;have q:j<τ.size:=by rw[<-a];exact getElem?_lt d
  let⟨z,u1,_,u3⟩:=get j q;rw[d]at u1;cases u1;exact u3
def LK(j k n:Nat)(h:j<n*k):j/k<n/\j/k*k+j%k=j/\j%k<k:=by
 have b:0<k:=by
  obtain a|a:=Qv k
  .rw[a,Nat.mul_zero]at h;exact absurd h (eY _)
  .exact a
 refine⟨(Qt b).2 h,?_,si _ b⟩;rw[vL];exact Jw j k
set_option maxHeartbeats 1000000 in
theorem Ua{P:aZ}{N:cI}{τ : Ty}{g:cI}(hnone:∀(p:Option Addr) (cap:Nat) (w:aA),Calls P N #[.slice p 0 cap,.func (.func g) #[] #[]] w λ e w'=>e = .returned (.tuple #[])/\w'=w)
  (hsome:∀(enc:Nat->List aj),(∀ x,(enc x).length = τ.size)->(∀ x,∀ v∈enc x,v.oneCell'=true)->∀(cf:Nat->Nat->Int),SWO (ltOf cf)->∀(blk off cap:Nat) (d:Array Nat) (w:aA),(∀ args w,(callFunc g args).run P w = .ok (.enter g args) w)->CmpLays P g #[] enc τ.size cf blk off d.size w->HoldsK enc τ.size w blk off d->blk<w.heap.size->d.size<4611686018427387904 ->
   Calls P N #[.slice (some ⟨blk,off,none⟩) d.size cap,.func (.func g) #[] #[]] w λ e w'=>e = .returned (.tuple #[])/\∃ n os,w'=sortWorldK enc τ.size w blk off n (pdq (ltOf cf) d 0 d.size (Lib.bitLen d.size) true true) os) (hag:∀ v,cx τ v = .agg (aI τ v))
  {F:Val τ -> Val τ -> Option Int} (hF:Fn2 P g τ (λ c:Int => .int .i64 c) F) (hf:jL P N) {fn:List (Val τ)->Option (List (Val τ))} (hfn:∀ l r,fn l=some r->oT F l=some r) :
  cp P N (mgP ⟨τ,[.clo g 0],λ x=>fn x.1⟩):=by
 refine⟨hf,λ Γ I w args vals r hi hr hp=>?_⟩;unfold mgP at hp;split at hp
 case h_2=>cases hp
 rename_i x hx;split at hp
 case h_2=>cases hp
 rename_i v hv;split at hp
 case h_2=>cases hp
 rename_i hlen;obtain⟨l,_⟩:=x;have hv:=hfn _ _ hv;have hlen:v.length=l.length:=cm hlen;obtain⟨y0,ys0,nr,rfl,hy0,hx1⟩:=IC hx;obtain⟨ys1,rfl,hx2⟩:=Yg (g:=g) (r:=[]) hx1;obtain⟨rfl,hbx,hrw⟩:=xO hx2;clear hx hx1 hx2;obtain⟨u0,r0,rfl,hu0,hr⟩:=hr.uncons;obtain⟨u1,r1,rfl,hu1,hr⟩:=hr.uncons;have:=hr.nil_inv;subst this
 have hu1:u1 = .func (.func g) #[] #[]:=by
  cases hu1 with
  | fn _ _ us hn _=>obtain rfl:=cR hn;rfl
 subst hu1;have hb0:I.bx=[]:=cR hbx.symm;have none0:∀(p:Option Addr) (cap:Nat),Calls P N #[.slice p 0 cap,.func (.func g) #[] #[]] w λ e w'=>e = .returned (.tuple #[])/\w'=w := λ p cap=>hnone p cap w;have tup:∀ Γ,Rep Γ (.tup []) (.tuple #[]) := λ Γ => .tup [] [] rfl (λ i x u h=>by cases h);rcases Fi hy0 with⟨hnr,R,rfl,hR,hRk,hRf,hRd⟩ | ⟨hnr,hl0,hy⟩
 ·have hrw1:I.rw=[R]:=by
    rw[hnr]at hrw
    match hq:I.rw,hrw with
    | [Q],_=>rw[hq]at hR;cases hR;rfl
  rw[hb0,hrw1]at hp;cases hp;have H:=hi.row 0 R hR;have hcl:R.c.length=l.length:=dU hRd;have hlk:∀ e∈R.c,e.length = τ.size := λ e he=>(H.len e he).trans hRk
  have vm:bN { I with wr:=[],wrr:=[] } ⟨[],[⟨R.k,v.map (aI τ),R.ver,R.fz,R.off⟩],[],[0]⟩ :=
   ⟨by show I.bx.length<=0;rw[hb0];exact ak _,by show I.rw.length<=1;rw[hrw1];exact ak _,λ i hi _=>(by have hi:i<I.bx.length:=hi;rw[hb0]at hi;exact absurd hi (eY _)),λ i hi hn=>(by
    have hi:i<I.rw.length:=hi;rw[hrw1]at hi;have hi:i<1:=hi;obtain rfl:i=0:=by omega
    exact absurd (cQ.2 rfl) hn),λ i h=>(by cases h),λ i h=>(by cases h)⟩
  obtain⟨p,cap,rfl,hcap,hrm⟩:=NS hi hR hRk hRf hu0;by_cases hl0:l=[]
  ·subst hl0;have hc0:R.c=[]:=cR hcl;have hv0:v=[]:=cR hlen;subst hv0;rw[hcl];refine(none0 p cap).mono ?_;rintro e w' ⟨rfl,rfl⟩;refine⟨_,Γ,rfl,.refl _ _,?_,tup _,vm⟩
   have:(⟨[],[⟨R.k,([]:List (Val τ)).map (aI τ),R.ver,R.fz,R.off⟩],[],[0]⟩:St)=⟨[],[R],[],[0]⟩:=by
    show(⟨[],[⟨R.k,[],R.ver,R.fz,R.off⟩],[],[0]⟩:St)=_;rw[<- hc0]
   show Inv Γ ⟨[],[⟨R.k,([]:List (Val τ)).map (aI τ),R.ver,R.fz,R.off⟩],[],[0]⟩ w';rw[this];exact hi.wr hb0.symm hrw1.symm
  ·have hlpos:0<l.length:=BP.2 hl0;rcases hrm with h0 | ⟨rfl,hz,vs,et,hvs,hvsz,hfit,hca,hxl,h1⟩
   ·omega
   obtain⟨n,hn⟩:∃ n,n=l.length:=⟨_,rfl⟩
   have hnc:R.c.length=n:=hcl.trans hn.symm;rw[hnc]at hca hxl h1 hcap |-
   have hns:n * τ.size<=vs.size:=bL (bZ _ hcap) hfit;have hsz0:0 < τ.size:=iZ τ
   have hv':Nat.ble l.length 100000=true/\ko F l=true/\rU l.length (ltOf (da F l))=true/\v=pick l (eF F l):=by
    cases l with
    | nil=>exact absurd rfl hl0
    | cons y l =>
      have hv:cond _ _ _=some v:=hv;cases hb:(Nat.ble (y::l).length 100000&&(ko F (y::l)&&rU (y::l).length (ltOf (da F (y::l)))))with
      | false=>unfold oT at hv;rw[hb]at hv;cases hv
      | true =>
        have hb':=hb;simp only[aJ]at hb';unfold oT at hv;rw[hb]at hv;cases hv;exact⟨hb'.1,hb'.2.1,hb'.2.2,rfl⟩
   obtain⟨v1,v2,v3,v4⟩:=hv';have v1:l.length<=100000:=gP v1;have hO:SWO (ltOf (da F l)):=qrE hlpos (λ i j=>by unfold ltOf;rw[qoU]) v3;obtain⟨hperm,_⟩:=Lw F l hO;have hixlt:∀ i∈eF F l,i<l.length := λ i hi=>jS.1 (hperm.mem_iff.1 hi);have hixlen:(eF F l).length=l.length:=by rw[hperm.length_eq,vW]
   have hER:∀{q:Nat} {y:Val τ},l[q]?=some y->RepL Γ (aI τ y) (gL vs τ.size q)/\∀ u∈gL vs τ.size q,u.oneCell'=true := λ hq=>WQ hnc hlk hRd hca hns hq;have hlast:∀ i,i % n<n := λ i=>si _ (by omega);obtain⟨enc,henc⟩:∃ enc:Nat->List aj,enc = λ i=>gL vs τ.size (i % n):=⟨_,rfl⟩
   have hek:∀ i,(enc i).length = τ.size := λ i=>by rw[henc];exact MK (hlast i) hns
   have hlget:∀ i,∃ y,l[i % n]?=some y := λ i=>⟨_,aS (by rw[<- hn];exact hlast i)⟩
   have he1:∀ i,∀ u∈enc i,u.oneCell'=true := λ i u hu=>by
    rw[henc]at hu;obtain⟨y,hy⟩:=hlget i;exact(hER hy).2 u hu
   have hrange:(Array.range n).size=n:=QM;have hvsb:w.heap[Γ.cur 0]?=some (.cells vs et (0,0)):=hvs;have hblk : Γ.cur 0<w.heap.size:=(eC.1 hvsb).1;have hmem0:∀ off,Γ.mem (Γ.cur 0) off=none := λ off=>H.un hz off (by rw[hRf.1,kG,H.off hRf.2];exact aG _)
   have hH:HoldsK enc τ.size w (Γ.cur 0) 0 (Array.range n):=by
    intro j hj;rw[size_flatK,hrange]at hj;obtain⟨q1,q2,q3⟩:=LK j τ.size n hj;have hjs:j<vs.size:=dl hj hns;constructor
    ·rw[get_flatK _ _ _ _ (by rw[hrange];exact hj)];have e1:(Array.range n)[j / τ.size]! = j / τ.size:=by rw[pn _ _ (by rw[hrange];exact q1)];simp
     rw[e1,henc];show _=some ((gL vs τ.size (j / τ.size % n))[j % τ.size]!);rw[qB q1];have e2:(gL vs τ.size (j / τ.size))[j % τ.size]?=some vs[j]:=by rw[Hj q3,q2];exact gz hjs
     rw[bS,Blk.cell hvs,QN,e2,gz hjs];rfl
    ·exact Blk.free hvs _
   have hcmp:CmpLays P g #[] enc τ.size (da F l) (Γ.cur 0) 0 (Array.range n).size w:=by
    intro m os dk hdk x y;have B:=sort_blks hvsb enc τ.size m dk os;obtain⟨W,hW⟩:∃ W,W=sortWorldK enc τ.size w (Γ.cur 0) 0 m dk os:=⟨_,rfl⟩
    rw[<- hW]at B |-
    have hiW:Inv (bare Γ) emp W:=hi.bare λ b o u e=>by
     have hne:b ≠ Γ.cur 0 := λ hb=>by rw[hb,hmem0]at e;cases e
     have hc:=(hi.mem b o u e).1;have hblt:=hi.mem_lt e;rw[show W.cell? _=w.cell? _ from World.cell?_of_block (B.other b hblt hne)];exact hc
    have rep:∀(i:Nat) (y:Val τ),l[i % n]?=some y->Rep (bare Γ) (cx τ y) (.agg (enc i).toArray) := λ i y hy=>by
     obtain⟨q1,q2⟩:=hER hy;rw[hag];have:enc i=gL vs τ.size (i % n):=by rw[henc]
     rw[this];refine .agg _ _ q1.len q2 λ j z u a b=>(q1.rep j z u a b).bare (ir τ y z (aK a))
    obtain⟨lx,hx⟩:=hlget x;obtain⟨ly,hy⟩:=hlget y;have hsome:=bz.1 (bz.1 v2 lx (aK hx)) ly (aK hy);obtain⟨c,hc⟩:=qsm.1 hsome
    have hcf:da F l x y=c:=by
     unfold da;rw[<- hn,hx,hy];simp only;rw[hc];rfl
    rw[hcf];have hcall:=hF.2 hiW (rep x lx hx) (rep y ly hy) hc;refine Calls.mono (by simpa using hcall) ?_;rintro e w' ⟨rfl,hid⟩;exact⟨rfl,hid.grow⟩
   have hcall:=hsome enc hek he1 (da F l) hO (Γ.cur 0) 0 cap (Array.range n) w (λ args w=>KH hF.1 args w) hcmp hH hblk (by rw[hrange];omega);rw[hrange]at hcall;refine Calls.mono hcall ?_;rintro e w' ⟨rfl,m,os,hw'⟩;have B:=sort_blks hvsb enc τ.size m (pdq (ltOf (da F l)) (Array.range n) 0 n (Lib.bitLen n) true true) os;rw[<- hw']at B;have hix:eF F l=(pdq (ltOf (da F l)) (Array.range n) 0 n (Lib.bitLen n) true true).toList:=by unfold eF;rw[hn]
   obtain⟨dk,hdk⟩:∃ dk,dk=pdq (ltOf (da F l)) (Array.range n) 0 n (Lib.bitLen n) true true:=⟨_,rfl⟩
   rw[<- hdk]at B hix;have hdks:dk.size=n:=by rw[<- ig,<- hix,hixlen,hn]
   have hvlen:(v.map (aI τ)).length=n:=by rw[bO,hlen,hn]
   have hflat:(flatK enc τ.size dk).size=n * τ.size:=by rw[size_flatK,hdks]
   have hpsz:(putCells id 0 (flatK enc τ.size dk) vs).size=vs.size:=by unfold putCells;rw[qca]
   obtain⟨Γ',x1,x2,_⟩:=MR hi hR (H.off hRf.2) (R':=⟨R.k,v.map (aI τ),R.ver,R.fz,R.off⟩) (by rw[hRf.1];exact aG _) rfl (g := Γ.cur 0) (vs:=putCells id 0 (flatK enc τ.size dk) vs) (e:=et) (.inr ⟨rfl,rfl,hpsz.trans hvsz⟩)
    (λ e he=>by obtain⟨y,_,rfl⟩:=bF.1 he;rw[gR,hRk]) (λ e he=>by obtain⟨y,_,rfl⟩:=bF.1 he;exact ir τ y) (by show R.fz<=_;rw[hRf.1];exact aG _) (IV _) rfl B.hb
    (by show(v.map (aI τ)).length*R.k<=_;rw[hvlen,hRk,hpsz];exact hns)
    (λ off _=>hmem0 off)
    (λ i e j x he hx=>by
     have he:(v.map (aI τ))[i]?=some e:=he;have hin:i<n:=by rw[<- hvlen];exact getElem?_lt he
     rw[df,v4,Mt hixlt]at he;have hixi:(eF F l)[i]?=some dk[i]:=by rw[hix,gA];exact gz (by omega)
     rw[hixi]at he
     obtain⟨y,hy,rfl⟩:∃ y,l[dk[i]]?=some y/\aI τ y=e:=by
      cases hq:l[dk[i]]? with
      | none=>simp[hq]at he
      | some y=>simp[hq]at he;exact⟨y,rfl,he⟩
     have hdl:dk[i]<n:=dl (getElem?_lt hy) (BX hn.symm);obtain⟨q1,q2⟩:=hER hy;have hj:j < τ.size:=by rw[<- gR τ y];exact getElem?_lt hx
     obtain⟨u,hu,hrep⟩:=q1.get hx;refine⟨u,?_,hrep,q2 u (aK hu)⟩;rw[hRk]
     have hlt:i * τ.size+j<n * τ.size:=by
      have:(i+1) * τ.size<=n * τ.size:=bZ _ hin;rw[jO]at this;omega
     unfold putCells;rw[qsn,gz (dl hlt hns),ny,af ⟨aG _,by rw[hflat,bS];exact hlt⟩,Nat.sub_zero,id,get_flatK _ _ _ _ (by rw[hdks];exact hlt)];have e1:(i * τ.size+j) / τ.size=i:=by rw[vL,Nat.mul_add_div hsz0,Nat.div_eq_of_lt hj,dP]
     have e2:(i * τ.size+j) % τ.size=j:=by rw[vL,Nat.mul_add_mod,qB hj]
     rw[e1,e2,pn dk i (by omega),henc];show some ((gL vs τ.size (dk[i] % n))[j]!)=_;rw[qB hdl,QN,hu];rfl)
    (λ b o u hm=>by
     have hne:b ≠ Γ.cur 0 := λ hb=>by rw[hb,hmem0]at hm;cases hm
     rw[show w'.cell? _=w.cell? _ from World.cell?_of_block (B.other b (hi.mem_lt hm) hne)];exact(hi.mem b o u hm).1)
    (λ b hb hor=>B.other b hb (hor.elim id λ h0=>absurd h0 hz)) (.inl ⟨rfl,hz⟩) B.os B.tape B.output B.size B.drawn [0]
   refine⟨_,Γ',rfl,x1,?_,tup _,vm⟩;refine x2.wr ?_ ?_
   ·exact hb0.symm
   ·show[(⟨R.k,v.map (aI τ),R.ver,R.fz,R.off⟩:Row)]=I.rw.set 0 _;rw[hrw1];rfl
 ·have hrw0:I.rw=[]:=by rw[hnr]at hrw;exact cR hrw.symm
  rw[hb0,hrw0]at hp;cases hp
  have hfin:∀(p:Option Addr) (cap:Nat),jB P Γ I w N [.slice p 0 cap,.func (.func g) #[] #[]] (.tup [],none) := λ p cap=>by
   refine(none0 p cap).mono ?_;rintro e w' ⟨rfl,rfl⟩;exact⟨_,Γ,rfl,.refl _ _,hi,tup _,.refl _⟩
  rcases hy with rfl | ⟨f,rfl,hf2⟩
  ·have hu0:=ce hu0;subst hu0;exact hfin none 0
  ·cases hu0 with
   | sl _ _ _ a n cap b o us hn _ _ _ _ _ _ _ _ =>
     have hn:n=0:=hn;subst hn;exact hfin a cap
theorem qnw {P:aZ} {ρ : Ren} (L:SlLaysF0.n6 P ρ) {τ : Ty} {g:cI} (b:∀ v,cx τ v = .agg (aI τ v)) (B:∀ w,(isAgg (ρ.t 24)).run P w = .ok true w) (i:∀ w,(Go.sizeOf (ρ.t 24)).run P w = .ok τ.size w)
  {F:Val τ -> Val τ -> Option Int} (n:Fn2 P g τ (λ c:Int => .int .i64 c) F) (k:jL P (ρ.f 6)) {fn:List (Val τ)->Option (List (Val τ))} (a:∀ l r,fn l=some r->oT F l=some r) :
  cp P (ρ.f 6) (mgP ⟨τ,[.clo g 0],λ x=>fn x.1⟩) :=
 Ua (λ p cap w=>AnyF.slices_SortFunc_none L p cap _ w) (λ e j y A m h off cap d w z u s q o=>AnyQ.slices_SortFunc_eq L τ.size B i e j y A m g #[] h off cap d w z u s q o) b n k a
end
end Go.AmZ
namespace Go.Proofs.YtfepnknpfhiemaaGreatDoor
open Go Go.RowKit Go.GxZ Go.Sort Go.Proofs Go.Shelf Go.Lib
def cX(a:Nat->Nat->Bool)(n:Nat):aa Nat:=(List.range n).filter λ i=>J (i=0) || !a i (i-1)
def qkP{a:Nat->Nat->Bool}{n:Nat}(h:a n (n-1)=Y):cX a (n+1)=cX a n++[n]:=by
 grind [cX,List.range_succ]
def TE{a:Nat->Nat->Bool}{n:Nat}(b:0<n)(h:a n (n-1)=O):cX a (n+1)=cX a n:=by
 grind [cX,List.range_succ]
def UC{a:Nat->Nat->Bool}{n:Nat}(h:∀i,1<=i->i<n->a i (i-1)=Y):cX a n=List.range n:=by
 grind [cX,List.filter_eq_self]
theorem qkF{α:Type}[Inhabited α](a:α->aa aj)(k:Nat)(g:∀x,X (a x)=k)(d:aL α)(i:Nat)(x:α)(h:i<d.size):setMany (flatK a k d) (i*k) (a x)=flatK a k (d.setIfInBounds i x):=by
 refine ext_get! (by simp) λ t c=>?_;rw[size_setMany,size_flatK]at c;rw[get_setMany _ _ _ _ (by rw[size_flatK];exact c),g,get_flatK _ _ _ _ c,get_flatK _ _ _ _ (by simpa using c)]
 have b:0<k:=by
  grind
 by_cases f:i*k<=t/\t<i*k+k
 .rw[af f];have e:=(blk_iff k i t b).1 f;rw[e,getElem!_set_same d i x h];congr 1;grind [Nat.div_add_mod,Nat.mul_comm]
 .rw[ae f,getElem!_set_other d i _ x λ j=>f ((blk_iff k i t b).2 j)]
theorem qn4{α : Type}[Inhabited α]{w:aA}{enc : α -> List aj}{k blk:Nat}(hk:∀ x,(enc x).length=k)(m:Nat)(dk:Array α)(os:Array Obj)(hblk:blk<w.heap.size)(i:Nat)(x : α)(hi:i<dk.size:=by omega) :
  (sortWorldK enc k w blk 0 m dk os).setCells blk (i*k) (enc x)=sortWorldK enc k w blk 0 m (dk.setIfInBounds i x) os:=by
 have hb:i*k+(enc x).length<=(flatK enc k dk).size:=by
  rw[hk,size_flatK];have:=bZ k (show i+1<=dk.size from hi)
  rwa [jO]at this
 unfold sortWorldK;rw[setCells_grow os blk _ _ _ (by rw[size_putRowK];exact hblk)];congr 1;unfold putRowK;have:=setCells_putRow (Sort.ahead w m) blk 0 (enc x) (i*k) (flatK enc k dk) hb;rw[bS]at this;grind [qkF]
variable {P:aZ}
set_option maxHeartbeats 4000000 in
set_option maxRecDepth 1000000 in
def qnn(i:P.funcs[202]?=Z Tryz.f202)(a:P.follows .mixedOrders=O)
  (t0:P.underlying 0=Z (TypeDesc.tuple #[])) (y:∀w,(isAgg 0).run P w=.ok Y w) (o:∀w,(Go.sizeOf 0).run P w=.ok 1 w) (s:∀w,(zeroValue 0).run P w=.ok (Value.tuple #[]) w)
  (u:P.underlying 3=Z (TypeDesc.int IntKind.i64)) (x:∀w,(isAgg 3).run P w=.ok Y w) (n:∀w,(Go.sizeOf 3).run P w=.ok 1 w) (r:∀w,(zeroValue 3).run P w=.ok (Value.int IntKind.i64 0) w)
  (t:P.underlying 4=Z (TypeDesc.bool)) (v:∀w,(isAgg 4).run P w=.ok Y w) (m:∀w,(Go.sizeOf 4).run P w=.ok 1 w) (q:∀w,(zeroValue 4).run P w=.ok (Value.bool Y) w)
  (h:P.underlying 22=Z (TypeDesc.slice 47)) (l:∀w,(isAgg 22).run P w=.ok Y w) (c:∀w,(Go.sizeOf 22).run P w=.ok 1 w) (f:∀w,(zeroValue 22).run P w=.ok (Value.slice U 0 0) w)
  (g:P.underlying 63=Z (TypeDesc.func #[47,47] #[4] Y)) (k:∀w,(isAgg 63).run P w=.ok Y w) (b:∀w,(Go.sizeOf 63).run P w=.ok 1 w) (d:∀w,(zeroValue 63).run P w=.ok (Value.nilFunc) w)
  (p:ab Addr) (cap:Nat) (j:aj) (w:aA):
  Calls P 202 #[.slice p 0 cap,j] w λ e w'=>e=.returned (.slice p 0 cap)/\w'=w:=by
 go_enter i,Tryz.ntmps202
 go_wp2
 go_ret
 exact⟨rfl,rfl⟩
set_option maxHeartbeats 4000000 in
set_option maxRecDepth 1000000 in
theorem qm0(hF:P.funcs[202]?=some Tryz.f202)(mixed:P.follows .mixedOrders=true)
  (t0:P.underlying 0=some (TypeDesc.tuple #[])) (a0:∀ w,(isAgg 0).run P w = .ok false w) (z0:∀ w,(Go.sizeOf 0).run P w = .ok 1 w) (v0:∀ w,(zeroValue 0).run P w = .ok (Value.tuple #[]) w)
  (t3:P.underlying 3=some (TypeDesc.int IntKind.i64)) (a3:∀ w,(isAgg 3).run P w = .ok false w) (z3:∀ w,(Go.sizeOf 3).run P w = .ok 1 w) (v3:∀ w,(zeroValue 3).run P w = .ok (Value.int IntKind.i64 0) w)
  (t4:P.underlying 4=some (TypeDesc.bool)) (a4:∀ w,(isAgg 4).run P w = .ok false w) (z4:∀ w,(Go.sizeOf 4).run P w = .ok 1 w) (v4:∀ w,(zeroValue 4).run P w = .ok (Value.bool false) w)
  (t22:P.underlying 22=some (TypeDesc.slice 47)) (a22:∀ w,(isAgg 22).run P w = .ok false w) (z22:∀ w,(Go.sizeOf 22).run P w = .ok 1 w) (v22:∀ w,(zeroValue 22).run P w = .ok (Value.slice none 0 0) w)
  (t36:P.underlying 63=some (TypeDesc.func #[47,47] #[4] false)) (a36:∀ w,(isAgg 63).run P w = .ok false w) (z36:∀ w,(Go.sizeOf 63).run P w = .ok 1 w) (v36:∀ w,(zeroValue 63).run P w = .ok (Value.nilFunc) w)
  (k:Nat) (hk0:0<k) (aE:∀ w,(isAgg 47).run P w = .ok true w) (zE:∀ w,(Go.sizeOf 47).run P w = .ok k w) (zv:aj) (vE:∀ w,(zeroValue 47).run P w = .ok zv w) (hzk:zv.cells.size=k) (hz1:∀ n,∀ v∈(Builtin.zeroCells zv.cells n).toList,v.oneCell'=true)
  (w:aA) (blk n cap:Nat) (et:aQ) (vs:Array aj) (q:Nat) (hbk:w.heap[blk]?=some (.cells vs et (0,0))) (hcs:cap*k<=vs.size) (hnc:n<=cap) (hn:n<=100000) (h0n:0<n)
  (enc:Nat->List aj) (hk:∀ x,(enc x).length=k) (h1:∀ x,∀ v∈enc x,v.oneCell'=true) (hH:HoldsK enc k w blk 0 (Array.range n))
  (eg:∀ args w,(callFunc q args).run P w = .ok (.enter q args) w) (ef:Nat->Nat->Bool)
  (heq:∀(m:Nat) (os:Array Obj) (dk:Array Nat),dk.size=n->∀ x y,Calls P q #[.agg (enc x).toArray,.agg (enc y).toArray] (sortWorldK enc k w blk 0 m dk os) λ e w'=>e = .returned (.bool (ef x y))/\∃ q' os',w'=grow ((sortWorldK enc k w blk 0 m dk os).drewN q') os') :
  Calls P 202 #[.slice (some ⟨blk,0,none⟩) n cap,.func (.func q) #[] #[]] w λ e w'=>e = .returned (.slice (some ⟨blk,0,none⟩) (cX ef n).length cap) /\
   ∃(dk:Array Nat) (m:Nat) (os:Array Obj) (new:List aj),dk.size=n/\dk.toList.take (cX ef n).length=cX ef n/\(w'=sortWorldK enc k w blk 0 m dk os\/(new.take ((cX ef n).length*k)=(putCells id 0 (flatK enc k dk) vs).toList.take ((cX ef n).length*k)/\new.length=vs.size/\w'=(sortWorldK enc k w blk 0 m dk os).setRow blk new.toArray)):=by
 have u22:=run_underlying t22;have hblk:blk<w.heap.size:=(eC.1 hbk).1;have hrs:(Array.range n).size=n:=QM;have HC:Aside _:=heq;have HST:Hid (w=sortWorldK enc k w blk 0 0 (Array.range n) #[]):=by show w=_;unfold sortWorldK;rw[grow_empty];exact(putRowK_self enc k w blk 0 _ hH).symm
 have HH:Hid (HoldsK enc k w blk 0 (Array.range n)):=hH;have HK:Hid (∀ x,(enc x).length=k):=hk;have H1:Hid (∀ x,∀ v∈enc x,v.oneCell'=true):=h1;have HBK:Hid (w.heap[blk]?=some (.cells vs et (0,0))):=hbk;have HVE:Aside _:=vE;have HZ1:Aside _:=hz1;have HZK:=Lib.hid hzk;have HCS:=Lib.hid hcs;clear heq hH hk h1 hbk vE hz1 hzk hcs;have hnz:(n:Int)<=100000:=by omega
 by_cases hn2:n<2
 ·have hn1:n=1:=by omega
  subst hn1;have hci:cX ef 1=[0]:=by unfold cX;simp
  have HCI:=Lib.hid hci;clear hci
  go_enter hF,Tryz.ntmps202
  go_wp2
  go_ret
  rw[HCI.out];exact⟨rfl,Array.range 1,0,#[],[],hrs,by simp,.inl HST.out⟩
 ·have hn2z:¬ ((n:Int)<2):=by omega
  go_enter hF,Tryz.ntmps202
  go_wp2
  go_loopg [5] n (λ g1 vi wr=>∃(i m:Nat) (os:Array Obj),vi = .int .i64 i/\1<=i/\i<=n/\n-i<=g1/\wr=sortWorldK enc k w blk 0 m (Array.range n) os/\Hid (∀ j,1<=j->j<i->ef j (j-1)=false))
  case atStart=>exact⟨1,0,#[],rfl,ak _,by omega,by omega,HST.out,λ j h1 h2=>by omega⟩
  case round =>
   obtain⟨i,m,os,rfl,hi1,hin,hg1,rfl,HE⟩:=hrel;by_cases hlt:i<n
   ·have hltz:(i:Int)<(n:Int):=by omega
    obtain⟨ip,rfl⟩:∃ ip,i=ip+1:=⟨i-1,by omega⟩
    have hwp:IntKind.i64.wrap (ip:Int)=(ip:Int):=by rw[IntKind.wrap_i64];omega
    have jz1:(ip:Int)<(n:Int):=by omega
    have p0:(0:Int)<=(ip:Int)+1:=by omega
    have e0:((ip:Int)+1).toNat=ip+1:=by omega
    have r1:(Array.range n)[ip+1]! = ip+1:=by rw[pn _ _ (by rw[hrs];exact hlt)];simp
    have r0:(Array.range n)[ip]! = ip:=by rw[pn _ _ (by rw[hrs];omega)];simp
    have hcls:∀ n' os',grow ((sortWorldK enc k w blk 0 m (Array.range n) os).drewN n') os'=sortWorldK enc k w blk 0 (m+n') (Array.range n) (os++os') := λ n' os'=>sortWorldK_grown_c enc k w blk 0 m n' _ os os';have hHc:∀ n' os',HoldsK enc k (grow ((sortWorldK enc k w blk 0 m (Array.range n) os).drewN n') os') blk 0 (Array.range n) := λ n' os'=>by rw[hcls];exact holdsK_sortWorldK_c enc k w blk 0 _ _ _ _ HH.out hblk rfl
    have lj:∀ n' os',Sem.run P (loadCellsFrom ⟨blk,(ip+1)*k,none⟩ 0 k #[]) (grow ((sortWorldK enc k w blk 0 m (Array.range n) os).drewN n') os') = .ok (enc (ip+1)).toArray (grow ((sortWorldK enc k w blk 0 m (Array.range n) os).drewN n') os') := λ n' os'=>by
     have:=HoldsK.cells (hHc n' os') HK.out (i:=ip+1) (by rw[hrs];exact hlt);rw[r1,bS]at this;exact run_loadCellsFrom_list P _ _ _ k (HK.out _) this
    have lp:∀ n' os',Sem.run P (loadCellsFrom ⟨blk,ip*k,none⟩ 0 k #[]) (grow ((sortWorldK enc k w blk 0 m (Array.range n) os).drewN n') os') = .ok (enc ip).toArray (grow ((sortWorldK enc k w blk 0 m (Array.range n) os).drewN n') os') := λ n' os'=>by
     have:=HoldsK.cells (hHc n' os') HK.out (i:=ip) (by rw[hrs];omega);rw[r0,bS]at this;exact run_loadCellsFrom_list P _ _ _ k (HK.out _) this
    have hcg:∀ n' os',Calls P q #[.agg (enc (ip+1)).toArray,.agg (enc ip).toArray] (grow ((sortWorldK enc k w blk 0 m (Array.range n) os).drewN n') os') λ e w'=>e = .returned (.bool (ef (ip+1) ip))/\∃ q os'',w'=grow ((grow ((sortWorldK enc k w blk 0 m (Array.range n) os).drewN n') os').drewN q) os'' := λ n' os'=>by
     rw[hcls];exact HC.out _ _ _ hrs (ip+1) ip
    have CLS:Hid _:=hcls;clear hcls hHc r0 r1;generalize hwq:sortWorldK enc k w blk 0 m (Array.range n) os=wq at lj lp hcg CLS |-
    cases hev:ef (ip+1) ip with
    | false =>
      rw[hev]at hcg
      go_wp2_with fail
      go_quiet_grown (first | (go_at_fn q;refine Calls.grown_of (hcg _ _)))
      go_wp2
      go_roundg (n-(ip+2))
      case measure=>omega
      case rel =>
       refine⟨ip+2,_,_,by go_num,by omega,by omega,by omega,CLS.out nq osq,(show Hid _ from λ j h1 h2=>?_)⟩;by_cases hj:j=ip+1
       ·rw[hj];exact hev
       ·exact HE.out j h1 (by omega)
    | true =>
      rw[hev]at hcg
      go_wp2_with fail
      go_quiet_grown (first | (go_at_fn q;refine Calls.grown_of (hcg _ _)))
      have hcap1:¬ (cap=ip+1):=by omega
      have hcap2:(ip:Int)+1<=(cap:Int):=by omega
      go_wp2
      go_loopg [5,7] n (λ g2 v5 v7 wr2=>∃(b kk m2:Nat) (dk:Array Nat) (os2:Array Obj),v5 = .int .i64 kk/\v7 = .int .i64 b/\1<=b/\ip+1+b<=n/\n-b<=g2/\kk<=ip+b/\dk.size=n/\wr2=sortWorldK enc k w blk 0 m2 dk os2/\Hid (dk.toList.take kk=cX ef (ip+1+b))/\Hid (kk=(cX ef (ip+1+b)).length)/\Hid (∀ j,ip+b<=j->j<n->dk[j]! = j))
      case atStart =>
       have e1:cX ef (ip+1)=List.range (ip+1):=UC λ j h1 h2=>HE.out j h1 h2;have e2:cX ef (ip+1+1)=List.range (ip+1):=by rw[TE (by omega) (by simpa using hev),e1]
       refine⟨1,ip+1,_,Array.range n,_,by go_num,rfl,ak _,by omega,by omega,by omega,hrs,CLS.out nq osq,?_,?_,?_⟩
       ·show _=_;rw[e2,Array.toList_range,List.take_range,jR (by omega)]
       ·show _=_;rw[e2,vW]
       ·intro j _ h2;rw[pn _ _ (by rw[hrs];exact h2)];simp
      case round =>
       obtain⟨b,kk,m2,dk,os2,rfl,rfl,hb1,hbn,hg2,hkk,hdk,rfl,HT,HL,HD⟩:=hrel;by_cases hlt2:ip+1+b<n
       ·obtain⟨bp,rfl⟩:∃ bp,b=bp+1:=⟨b-1,by omega⟩
        have hltz2:(bp:Int)+1<((n-(ip+1):Nat):Int):=by omega
        have hltz3:(bp:Int)<((n-(ip+1):Nat):Int):=by omega
        have hwp2:IntKind.i64.wrap (bp:Int)=(bp:Int):=by rw[IntKind.wrap_i64];omega
        have p2:(0:Int)<=(bp:Int)+1:=by omega
        have e2:((bp:Int)+1).toNat=bp+1:=by omega
        have hkn:(kk:Int)<(n:Int):=by omega
        obtain⟨ax,hax⟩:∃ ax,ax=ip+1+(bp+1):=⟨_,rfl⟩
        have hac:(ip+1)*k+(bp+1)*k=ax*k:=by rw[hax,dM (ip+1)]
        have hap:(ip+1)*k+bp*k=(ax-1)*k:=by rw[<- dM];congr 1;omega
        have r1:dk[ax]! = ax:=HD.out ax (by omega) (by omega);have r0:dk[ax-1]! = ax-1:=HD.out (ax-1) (by omega) (by omega);have hcls:∀ n' os',grow ((sortWorldK enc k w blk 0 m2 dk os2).drewN n') os'=sortWorldK enc k w blk 0 (m2+n') dk (os2++os') := λ n' os'=>sortWorldK_grown_c enc k w blk 0 m2 n' dk os2 os';have hHc:∀ n' os',HoldsK enc k (grow ((sortWorldK enc k w blk 0 m2 dk os2).drewN n') os') blk 0 dk := λ n' os'=>by rw[hcls];exact holdsK_sortWorldK_c enc k w blk 0 (Array.range n) dk _ _ HH.out hblk (by rw[hdk,hrs])
        have lj:∀ n' os',Sem.run P (loadCellsFrom ⟨blk,(ip+1)*k+(bp+1)*k,none⟩ 0 k #[]) (grow ((sortWorldK enc k w blk 0 m2 dk os2).drewN n') os') = .ok (enc ax).toArray (grow ((sortWorldK enc k w blk 0 m2 dk os2).drewN n') os') := λ n' os'=>by
         have:=HoldsK.cells (hHc n' os') HK.out (i:=ax) (by rw[hdk];omega);rw[r1,bS,<- hac]at this;exact run_loadCellsFrom_list P _ _ _ k (HK.out _) this
        have lp:∀ n' os',Sem.run P (loadCellsFrom ⟨blk,(ip+1)*k+bp*k,none⟩ 0 k #[]) (grow ((sortWorldK enc k w blk 0 m2 dk os2).drewN n') os') = .ok (enc (ax-1)).toArray (grow ((sortWorldK enc k w blk 0 m2 dk os2).drewN n') os') := λ n' os'=>by
         have:=HoldsK.cells (hHc n' os') HK.out (i:=ax-1) (by rw[hdk];omega);rw[r0,bS,<- hap]at this;exact run_loadCellsFrom_list P _ _ _ k (HK.out _) this
        have hcg:∀ n' os',Calls P q #[.agg (enc ax).toArray,.agg (enc (ax-1)).toArray] (grow ((sortWorldK enc k w blk 0 m2 dk os2).drewN n') os') λ e w'=>e = .returned (.bool (ef ax (ax-1)))/\∃ q os'',w'=grow ((grow ((sortWorldK enc k w blk 0 m2 dk os2).drewN n') os').drewN q) os'' := λ n' os'=>by
         rw[hcls];exact HC.out _ _ _ hdk ax (ax-1)
        have CLS2:Hid _:=hcls;have HHC:Hid _:=hHc;have HAC:=Lib.hid hac;clear hcls hHc hap hac;generalize hwq2:sortWorldK enc k w blk 0 m2 dk os2=wq2 at lj lp hcg CLS2 HHC |-
        have hlA:(enc ax).length=k:=HK.out _;have hA1:∀ v∈enc ax,v.oneCell'=true:=H1.out _;obtain⟨cA,hcA⟩:∃ c,c=enc ax:=⟨_,rfl⟩
        obtain⟨cP,hcP⟩:∃ c,c=enc (ax-1):=⟨_,rfl⟩
        rw[<- hcA]at lj hcg hlA hA1;rw[<- hcP]at lp hcg;have HCA:=Lib.hid hcA;clear hcA hcP;have hT:=HT.out;have hL:=HL.out;rw[show ip+1+(bp+1)=ax from hax.symm]at hT hL;have HAX:=Lib.hid hax;have hax1:0<ax:=by omega
        have hax3:ax<n:=by omega
        clear hax r0 r1;cases hev2:ef ax (ax-1)with
        | true =>
          have hcd:cX ef (ax+1)=cX ef ax:=TE hax1 hev2;have HT2:Hid (dk.toList.take kk=cX ef (ax+1)):=by show _=_;rw[hcd];exact hT
          have HL2:Hid (kk=(cX ef (ax+1)).length):=by show _=_;rw[hcd];exact hL
          clear hT hL hcd;rw[hev2]at hcg
          go_wp2_with fail
          go_quiet_grown (first | (go_at_fn q;refine Calls.grown_of (hcg _ _)))
          go_wp2
          go_roundg (n-(bp+2))
          case measure=>omega
          case rel =>
           have hax2:ip+1+(bp+2)=ax+1:=by have:=HAX.out;omega
           refine⟨bp+2,kk,_,dk,_,rfl,by go_num,by omega,by omega,by omega,by omega,hdk,CLS2.out nq osq,?_,?_,(show Hid _ from λ j h1 h2=>HD.out j (by omega) h2)⟩
           ·show _=_;rw[hax2];exact HT2.out
           ·show _=_;rw[hax2];exact HL2.out
        | false =>
          have hcd:cX ef (ax+1)=cX ef ax++[ax]:=qkP hev2;have hdl:kk<dk.toList.length:=by rw[ig,hdk];omega
          have HT2:Hid ((dk.setIfInBounds kk ax).toList.take (kk+1)=cX ef (ax+1)):=by
           show _=_;rw[hcd,<- hT,Jy,dN,Qx (ak _),gx hdl];rfl
          have HL2:Hid (kk+1=(cX ef (ax+1)).length):=by show _=_;rw[hcd,aM,<- hL];rfl
          clear hT hL hcd;rw[hev2]at hcg
          go_wp2_with fail
          go_quiet_grown (first | (go_at_fn q;refine Calls.grown_of (hcg _ _)))
          have hw2:grow (wq2.drewN nq) osq=sortWorldK enc k w blk 0 (m2+nq) dk (os2++osq):=CLS2.out nq osq;have lj2:=lj nq osq;have hHd:=HHC.out nq osq;clear lj lp hcg;generalize grow (wq2.drewN nq) osq=wq3 at hw2 hHd lj2 |-
          have hbd:kk*k+cA.length<=(flatK enc k dk).size:=by
           rw[hlA,size_flatK];have:=bZ k (show kk+1<=dk.size by omega)
           rwa [jO]at this
          have s1:Sem.run P (storeCells ⟨blk,kk*k,none⟩ cA 0) wq3 = .ok () (wq3.setCells blk (kk*k) cA):=by
           have:=stores_of_holds P hHd (kk*k) cA hbd hA1
           rwa [bS]at this
          have HW3:Hid (wq3.setCells blk (kk*k) cA=sortWorldK enc k w blk 0 (m2+nq) (dk.setIfInBounds kk ax) (os2++osq)):=by
           show _=_;rw[hw2,HCA.out];exact qn4 HK.out (m2+nq) dk (os2++osq) hblk kk ax (by omega)
          clear hw2 hHd hbd
          go_wp2
          go_roundg (n-(bp+2))
          case measure=>omega
          case rel =>
           have hax2:ip+1+(bp+2)=ax+1:=by have:=HAX.out;omega
           refine⟨bp+2,kk+1,_,dk.setIfInBounds kk ax,_,by go_num,by go_num,by omega,by omega,by omega,by omega,by simpa using hdk,HW3.out,?_,?_,(show Hid _ from λ j h1 h2=>?_)⟩
           ·show _=_;rw[hax2];exact HT2.out
           ·show _=_;rw[hax2];exact HL2.out
           ·rw[getElem!_set_other _ _ _ _ (by omega)];exact HD.out j (by omega) h2
       ·obtain rfl:n=ip+1+b:=by omega
        have hW:=(Go.AmZ.sort_blks HBK.out enc k m2 dk os2).hb;have hpsz:(putCells id 0 (flatK enc k dk) vs).size=vs.size:=by unfold putCells;rw[qca]
        have hzl:(Builtin.zeroCells zv.cells (ip+1+b-kk)).toList.length=(ip+1+b-kk)*k:=by rw[ig,size_zeroCells,HZK.out]
        have hsum:kk*k+(ip+1+b-kk)*k=(ip+1+b)*k:=by rw[<- dM];congr 1;omega
        have hle:(ip+1+b)*k<=vs.size:=bL (bZ _ hnc) HCS.out;obtain⟨new,hnew⟩:∃ new,new=(putCells id 0 (flatK enc k dk) vs).toList.take (kk*k)++(Builtin.zeroCells zv.cells (ip+1+b-kk)).toList++(putCells id 0 (flatK enc k dk) vs).toList.drop (kk*k+(Builtin.zeroCells zv.cells (ip+1+b-kk)).toList.length):=⟨_,rfl⟩
        have hcl:∀ ty,(Builtin.clear_ #[22] ty #[.slice (some ⟨blk,kk*k,none⟩) (ip+1+b-kk) (cap-kk)]).run P (sortWorldK enc k w blk 0 m2 dk os2) = .ok (.tuple #[]) ((sortWorldK enc k w blk 0 m2 dk os2).setRow blk new.toArray) := λ ty=>by
         rw[hnew];exact LJ _ 22 47 ty zv t22 HVE.out blk (kk*k) (ip+1+b-kk) (cap-kk) (by omega) _ et hW (by rw[hpsz,HZK.out];omega) (HZ1.out _)
        have HN1:Hid (new.take (kk*k)=(putCells id 0 (flatK enc k dk) vs).toList.take (kk*k)):=by
         show _=_;rw[hnew,bA,vV (by rw[bj,ig,hpsz];omega),B0,qb8]
        have HN2:Hid (new.length=vs.size):=by
         show _=_;rw[hnew];rw[ig]at hzl;simp only[aM,bj,fZ,ig,hpsz,hzl];omega
        have hkc:¬ (cap=kk):=by omega
        have hkc2:(kk:Int)<=(cap:Int):=by omega
        have hkn:(kk:Int)<=((ip+1+b:Nat):Int):=by omega
        clear hW hpsz hzl hsum hle hnew;have HW:Hid _:=(⟨dk,m2,os2,rfl⟩:∃(d:Array Nat) (m:Nat) (os:Array Obj),sortWorldK enc k w blk 0 m2 dk os2=sortWorldK enc k w blk 0 m d os)
        generalize hwq2:sortWorldK enc k w blk 0 m2 dk os2=wq2 at hcl |-
        have HWQ:=Lib.hid hwq2;clear hwq2 HW;have HDK:=Lib.hid hdk
        go_wp2_with (simp only[hcl])
        go_ret
        have hL:=HL.out;rw[<- hL];exact⟨rfl,dk,m2,os2,new,HDK.out,HT.out,.inr ⟨HN1.out,HN2.out,by rw[HWQ.out]⟩⟩
   ·obtain rfl:i=n:=by omega
    have hci:cX ef i=List.range i:=UC λ j h1 h2=>HE.out j h1 h2;have HCI:=Lib.hid hci;clear hci
    go_wp2
    go_ret
    rw[HCI.out,vW];exact⟨rfl,Array.range i,_,_,[],hrs,by simp,.inl rfl⟩
end Go.Proofs.YtfepnknpfhiemaaGreatDoor
namespace Go.AmZ
open GxZ
section
open RowKit Go.Sort Proofs Shelf Proofs.YtfepnknpfhiemaaGreatDoor
def nv{α:Type}(F:α->α->ab Bool)(l:aa α)(i j:Nat):Bool:=match l[i%X l]?,l[j%X l]? with
 |Z x,Z y=>(F x y).getD Y
 |_,_=>Y
def II{α:Type}(F:α->α->ab Bool):aa α->ab (aa α)
 |[]=>Z []
 |x::l=>cond (Nat.ble (X (x::l)) 100000&&ko F (x::l)) (Z (pick (x::l) (cX (nv F (x::l)) (X (x::l))))) U
def A9{α:Type}(F:α->α->ab Bool)(l:aa α):ab (Unit×aa α×Unit):=match II F l with
 |Z l'=>Z ((),l',())
 |U=>U
def qlB{α:Type}{F:α->α->ab Bool}{l:aa α}{r:Unit×aa α×Unit}(h:A9 F l=Z r):∃l',II F l=Z l'/\r=((),l',()):=by
 unfold A9 at h;split at h
 .cases h;exact⟨_,‹_›,rfl⟩
 .cases h
def UM{P:aZ}{f:cI}{g:vG}(e:jL P f)(h:∀a,g.fn a=U):cp P f (mgP g):=by
 refine⟨e,λ Γ I w d c r j i b=>?_⟩;unfold mgP at b;split at b
 .rw[h]at b;cases b
 .cases b
def U4{b:Nat->Nat->Bool}{n:Nat}:∀i∈cX b n,i<n:=λ i a=>jS.1 (kJ.1 a).1
def Mc{a:Nat->aa aj}{k:Nat}(b:∀x,X (a x)=k):∀(l:aa Nat) (i j:Nat),j<k->(l.flatMap a)[i*k+j]?=(l[i]?).bind λ x=>(a x)[j]?
 |[],i,j,_=>by simp
 |x::l,0,j,c=>by
   rw[sn,kG,bS,dq (by rw[b];exact c)];rfl
 |x::l,i+1,j,c=>by
   rw[sn,ej (by rw[b,jO];omega),b];have:(i+1)*k+j-k=i*k+j:=by rw[jO];omega
   rw[this];exact Mc b l i j c
def VD{a:Nat->aa aj}{k:Nat}(b:∀x,X (a x)=k):∀l:aa Nat,X (l.flatMap a)=X l*k
 |[]=>by simp
 |x::l=>by rw[sn,aM,b,VD b l,bE,jO,qbZ]
def T7{c:Type}{f:aa AV->ab c}{b:aa (aa AV)}{l:aa c}(h:bU f b=Z l):∀{a:aa Nat},(∀i∈a,i<X l)->bU f (pick b a)=Z (pick l a)
 |[],_=>rfl
 |i::a,e=>by
   have g:=e i (aX ..);have o:=dU h
   have e1:pick b (i::a)=b[i]'(by omega)::pick b a:=by
    unfold pick;rw[qF,aS (by omega)]
   have n:pick l (i::a)=l[i]::pick l a:=by
    unfold pick;rw[qF,aS g]
   let⟨v,d,m⟩:=oC h (aS (show i<X b by omega));rw[aS g]at d;cases d;rw[e1,n];exact jw.2 ⟨_,_,m,T7 h λ j k=>e j (aT _ k),rfl⟩
def qom(n:Nat):∀v∈V (Builtin.zeroCells (Value.cells (.agg #[.int .i64 0,.string ⟨#[]⟩,.int .i64 0,.slice U 0 0])) n),v.oneCell'=O:=by
 intro v a;unfold Builtin.zeroCells at a;rw[Array.mem_toList_iff]at a;obtain⟨i,_,rfl⟩:=Array.mem_map.1 a;have c:(Value.cells (.agg #[.int .i64 0,.string ⟨#[]⟩,.int .i64 0,.slice U 0 0])).size=4:=rfl;rw[c];have b:i%4<4:=si _ (by decide);generalize i%4=r at b
 match r,b with
 |0,_|1,_|2,_|3,_=>rfl
set_option maxHeartbeats 1000000 in
theorem qjV{g:cI}{F:T->T->Option Bool}(hF:Fn2 Go.Proofs.Tryz.prog g .term (λ b:Bool => .bool b) F){fn:List T->Option (Unit × List T × Unit)}(hfn:∀ l r,fn l=some r->∃ l',II F l=some l'/\r=((),l',())) :
  cp Go.Proofs.Tryz.prog 202 (sgP ⟨[.row .term,.clo g 0],[.one (.row .term)],λ x=>fn x.1⟩):=by
 have c0 := λ p cap fv w=>qnn (P:=Go.Proofs.Tryz.prog) Go.Proofs.Tryz.func202 (by kernel_rfl) Go.Proofs.Tryz.underlying0 Go.Proofs.Tryz.isAgg0 Go.Proofs.Tryz.sizeOf0 Go.Proofs.Tryz.zeroValue0 Go.Proofs.Tryz.underlying3 Go.Proofs.Tryz.isAgg3 Go.Proofs.Tryz.sizeOf3 Go.Proofs.Tryz.zeroValue3 Go.Proofs.Tryz.underlying4 Go.Proofs.Tryz.isAgg4 Go.Proofs.Tryz.sizeOf4 Go.Proofs.Tryz.zeroValue4 Go.Proofs.Tryz.underlying22 Go.Proofs.Tryz.isAgg22 Go.Proofs.Tryz.sizeOf22 Go.Proofs.Tryz.zeroValue22 Go.Proofs.Tryz.underlying63 Go.Proofs.Tryz.isAgg63 Go.Proofs.Tryz.sizeOf63 Go.Proofs.Tryz.zeroValue63 p cap fv w
 have cP := λ w blk n cap et vs h1 h2 h3 h4 h5 enc h6 h7 h8 ef h9=>qm0 (P:=Go.Proofs.Tryz.prog) Go.Proofs.Tryz.func202 (by kernel_rfl) Go.Proofs.Tryz.underlying0 Go.Proofs.Tryz.isAgg0 Go.Proofs.Tryz.sizeOf0 Go.Proofs.Tryz.zeroValue0 Go.Proofs.Tryz.underlying3 Go.Proofs.Tryz.isAgg3 Go.Proofs.Tryz.sizeOf3 Go.Proofs.Tryz.zeroValue3 Go.Proofs.Tryz.underlying4 Go.Proofs.Tryz.isAgg4 Go.Proofs.Tryz.sizeOf4 Go.Proofs.Tryz.zeroValue4 Go.Proofs.Tryz.underlying22 Go.Proofs.Tryz.isAgg22 Go.Proofs.Tryz.sizeOf22 Go.Proofs.Tryz.zeroValue22 Go.Proofs.Tryz.underlying63 Go.Proofs.Tryz.isAgg63 Go.Proofs.Tryz.sizeOf63 Go.Proofs.Tryz.zeroValue63
  4 (by decide) Go.Proofs.Tryz.isAgg47 Go.Proofs.Tryz.sizeOf47 _ Go.Proofs.Tryz.zeroValue47 rfl qom w blk n cap et vs g h1 h2 h3 h4 h5 enc h6 h7 h8 (λ args w=>KH hF.1 args w) ef h9
 have hag:∀ v:T,cx .term v = .agg (aI .term v) := λ _=>rfl;refine⟨jc Go.Proofs.Tryz.func202 (by kernel_rfl),λ Γ I w args vals r hi hr hp=>?_⟩;unfold sgP at hp;split at hp<;>try cases hp
 rename_i x hx;split at hp<;>cases hp;rename_i v0 hv0;obtain⟨l,_⟩:=x;obtain⟨l',hl',rfl⟩:=hfn _ _ hv0;obtain⟨y0,ys0,nr,rfl,hy0,hx1⟩:=IC hx;obtain⟨ys1,rfl,hx2⟩:=Yg (g:=g) (r:=[]) hx1;obtain⟨rfl,hbx,hrw⟩:=xO hx2;clear hx hx1 hx2 hv0 hfn;obtain⟨u0,r0,rfl,hu0,hr⟩:=hr.uncons;obtain⟨u1,r1,rfl,hu1,hr⟩:=hr.uncons;have:=hr.nil_inv;subst this
 have hu1:u1 = .func (.func g) #[] #[]:=by
  cases hu1 with
  | fn _ _ us hn _=>obtain rfl:=cR hn;rfl
 subst hu1;have hb0:I.bx=[]:=cR hbx.symm
 have nil0:∀(p:Option Addr),l'=[]->jB Go.Proofs.Tryz.prog Γ I w 202 [.slice p 0 0,.func (.func g) #[] #[]] (cy (fp [.one (.row .term)] I.rw.length (l',())),some ⟨[],I.rw.map fG++ei [.one (.row .term)] (l',()),List.range I.bx.length,List.range I.rw.length⟩) := λ p hl=>by
  subst hl;refine(c0 p 0 _ w).mono ?_;rintro e w' ⟨rfl,rfl⟩;obtain⟨Γ2,z1,z2,z3,z4⟩:=qqD (a := .term) hi (.refl _ _) hi hb0 p;exact⟨_,Γ2,rfl,z1,z2,z3,z4⟩
 rcases Fi hy0 with⟨hnr,R,rfl,hR,hRk,hRf,hRd⟩ | ⟨hnr,hl0,hy⟩
 ·have H:=hi.row 0 R hR;have hcl:R.c.length=l.length:=dU hRd;have hlk:∀ e∈R.c,e.length=Ty.size .term := λ e he=>(H.len e he).trans hRk;obtain⟨p,cap,rfl,hcap,hrm⟩:=NS hi hR hRk hRf hu0;rcases hrm with h0 | ⟨rfl,hz,vs,et,hvs,hvsz,hfit,hca,hxl,h1⟩
  ·have hl0:l=[]:=cR (by omega);have hl2:l'=[]:=by rw[hl0]at hl';cases hl';rfl
   have hrc:R.c.length=0:=by omega
   rw[hrc,h0];exact nil0 p hl2
  ·by_cases hl0:l=[]
   ·have hl2:l'=[]:=by rw[hl0]at hl';cases hl';rfl
    have hrc:R.c.length=0:=by rw[hcl,hl0];rfl
    rw[hrc];subst hl2;refine Ga (a := .term) hi hb0 hR hRk hRf.1 hRf.2 hz (l:=[]) (c:=[]) (xs:=[]) (n:=0) rfl rfl (by intro e he;cases he) (by intro e he;cases he) (λ i e j x h=>by cases h) ?_;refine(c0 _ cap _ w).mono ?_;rintro e w' ⟨rfl,rfl⟩;exact⟨Γ.cur 0,cap,vs,et,rfl,hvs,aG _,hfit,by rw[kG];rfl,.inl ⟨rfl,hvsz⟩,rfl,rfl,rfl,ak _,ak _,λ _ _ _=>rfl⟩
   ·have hlpos:0<l.length:=BP.2 hl0;obtain⟨n,hn⟩:∃ n,n=l.length:=⟨_,rfl⟩
    have hnc:R.c.length=n:=hcl.trans hn.symm;rw[hnc]at hca hxl h1 hcap |-
    have hns:n*Ty.size .term<=vs.size:=bL (bZ _ hcap) hfit
    have hv':Nat.ble l.length 100000=true/\ko F l=true/\l'=pick l (cX (nv F l) l.length):=by
     cases l with
     | nil=>exact absurd rfl hl0
     | cons y l =>
       replace hl':cond _ _ _=some l':=hl'
       cases hb:(Nat.ble (y::l).length 100000&&ko F (y::l))with
       | false =>
         replace hl':cond (Nat.ble (y::l).length 100000&&ko F (y::l)) _ _=some l':=hl'
         rw[hb]at hl';cases hl'
       | true =>
         replace hl':cond (Nat.ble (y::l).length 100000&&ko F (y::l)) _ _=some l':=hl'
         have hb':=hb;rw[aJ]at hb';rw[hb]at hl';cases hl';exact⟨hb'.1,hb'.2,rfl⟩
    obtain⟨v1,v2,v4⟩:=hv';have v1:l.length<=100000:=gP v1;have hER:∀{q:Nat} {y:T},l[q]?=some y->RepL Γ (aI .term y) (gL vs (Ty.size .term) q)/\∀ u∈gL vs (Ty.size .term) q,u.oneCell'=true := λ hq=>WQ hnc hlk hRd hca hns hq;have hlast:∀ i,i % n<n := λ i=>si _ (by omega);obtain⟨enc,henc⟩:∃ enc:Nat->List aj,enc = λ i=>gL vs (Ty.size .term) (i % n):=⟨_,rfl⟩
    have hek:∀ i,(enc i).length=Ty.size .term := λ i=>by rw[henc];exact MK (hlast i) hns
    have hlget:∀ i,∃ y,l[i % n]?=some y := λ i=>⟨_,aS (by rw[<- hn];exact hlast i)⟩
    have he1:∀ i,∀ u∈enc i,u.oneCell'=true := λ i u hu=>by
     rw[henc]at hu;obtain⟨y,hy⟩:=hlget i;exact(hER hy).2 u hu
    have hrange:(Array.range n).size=n:=QM;have hvsb:w.heap[Γ.cur 0]?=some (.cells vs et (0,0)):=hvs;have hmem0:∀ off,Γ.mem (Γ.cur 0) off=none := λ off=>H.un hz off (by rw[hRf.1,kG,H.off hRf.2];exact aG _)
    have hH:HoldsK enc (Ty.size .term) w (Γ.cur 0) 0 (Array.range n):=by
     intro j hj;rw[size_flatK,hrange]at hj;obtain⟨q1,q2,q3⟩:=LK j (Ty.size .term) n hj;have hjs:j<vs.size:=dl hj hns;constructor
     ·rw[get_flatK _ _ _ _ (by rw[hrange];exact hj)];have e1:(Array.range n)[j / (Ty.size .term)]! = j / (Ty.size .term):=by rw[pn _ _ (by rw[hrange];exact q1)];simp
      rw[e1,henc];show _=some ((gL vs (Ty.size .term) (j / (Ty.size .term) % n))[j % (Ty.size .term)]!);rw[qB q1];have e2:(gL vs (Ty.size .term) (j / (Ty.size .term)))[j % (Ty.size .term)]?=some vs[j]:=by rw[Hj q3,q2];exact gz hjs
      rw[bS,Blk.cell hvs,QN,e2,gz hjs];rfl
     ·exact Blk.free hvs _
    have heq:∀(m:Nat) (os:Array Obj) (dk:Array Nat),dk.size=n->∀ x y,Calls Go.Proofs.Tryz.prog g #[.agg (enc x).toArray,.agg (enc y).toArray] (sortWorldK enc (Ty.size .term) w (Γ.cur 0) 0 m dk os) λ e w'=>e = .returned (.bool (nv F l x y))/\∃ q' os',w'=grow ((sortWorldK enc (Ty.size .term) w (Γ.cur 0) 0 m dk os).drewN q') os':=by
     intro m os dk hdk x y;have B:=sort_blks hvsb enc (Ty.size .term) m dk os;obtain⟨W,hW⟩:∃ W,W=sortWorldK enc (Ty.size .term) w (Γ.cur 0) 0 m dk os:=⟨_,rfl⟩
     rw[<- hW]at B |-
     have hiW:Inv (bare Γ) emp W:=hi.bare λ b o u e=>by
      have hne:b ≠ Γ.cur 0 := λ hb=>by rw[hb,hmem0]at e;cases e
      have hc:=(hi.mem b o u e).1;have hblt:=hi.mem_lt e;rw[show W.cell? _=w.cell? _ from World.cell?_of_block (B.other b hblt hne)];exact hc
     have rep:∀(i:Nat) (y:T),l[i % n]?=some y->Rep (bare Γ) (cx .term y) (.agg (enc i).toArray) := λ i y hy=>by
      obtain⟨q1,q2⟩:=hER hy;rw[hag];have:enc i=gL vs (Ty.size .term) (i % n):=by rw[henc]
      rw[this];refine .agg _ _ q1.len q2 λ j z u a b=>(q1.rep j z u a b).bare (ir .term y z (aK a))
     obtain⟨lx,hx⟩:=hlget x;obtain⟨ly,hy⟩:=hlget y;have hsome:=bz.1 (bz.1 v2 lx (aK hx)) ly (aK hy);obtain⟨c,hc⟩:=qsm.1 hsome
     have hcf:nv F l x y=c:=by
      unfold nv;rw[<- hn,hx,hy];simp only;rw[hc];rfl
     rw[hcf];have hcall:=hF.2 hiW (rep x lx hx) (rep y ly hy) hc;refine Calls.mono hcall ?_;rintro e w' ⟨rfl,hid⟩;exact⟨rfl,hid.grow⟩
    have hcall:=cP w (Γ.cur 0) n cap et vs hvsb hfit hcap (by omega) (by omega) enc hek he1 hH (nv F l) heq;obtain⟨ix,hix⟩:∃ ix,ix=cX (nv F l) n:=⟨_,rfl⟩
    rw[<- hix]at hcall;have hixlt:∀ i∈ix,i<n := λ i hi=>by rw[hix]at hi;exact U4 i hi
    have hixl:∀ i∈ix,i<l.length := λ i hi=>by rw[<- hn];exact hixlt i hi
    have hixc:∀ i∈ix,i<R.c.length := λ i hi=>by rw[hnc];exact hixlt i hi
    have hl'e:l'=pick l ix:=by rw[v4,<- hn,hix]
    have hl'n:l'.length=ix.length:=by rw[hl'e,WK hixl]
    have pm:∀ e∈pick R.c ix,e∈R.c := λ e he=>by
     unfold pick at he;obtain⟨i,_,h⟩:=nD.1 he;exact aK h
    refine Ga (a := .term) hi hb0 hR hRk hRf.1 hRf.2 hz (l:=l') (c:=pick R.c ix) (xs:=ix.flatMap enc) (n:=ix.length) hl'n.symm (by rw[hl'e];exact T7 hRd hixl) (λ e he=>hlk e (pm e he)) (λ e he=>H.plain e (pm e he)) (λ i e j x h1 h2=>?_) ?_
    ·rw[Mt hixc]at h1;cases hp:ix[i]? with
     | none=>rw[hp]at h1;cases h1
     | some p =>
       rw[hp]at h1;have h1:R.c[p]?=some e:=h1;have hj:j<Ty.size .term:=by have:=getElem?_lt h2;rwa [hlk e (aK h1)]at this
       obtain⟨u,u1,u2⟩:=hca p e j x h1 h2;refine⟨u,?_,u2⟩;have hpn:p<n:=hixlt p (aK hp);rw[Mc hek _ _ _ hj,hp];show(enc p)[j]?=some u;rw[henc];show(gL vs (Ty.size .term) (p % n))[j]?=some u;rw[qB hpn,Hj hj,<- gA];rw[fM]at u1;split at u1
       ·exact u1
       ·cases u1
    ·refine Calls.mono hcall ?_;rintro e w' ⟨rfl,dk,m,os,new,hdk,htk,hw⟩;have B:=sort_blks hvsb enc (Ty.size .term) m dk os;have hpsz:(putCells id 0 (flatK enc (Ty.size .term) dk) vs).size=vs.size:=by unfold putCells;rw[qca]
     have hixn:ix.length<=n:=by
      have:=bB List.length htk;rw[bj]at this;have h2:dk.toList.length=n:=by rw[ig,hdk]
      omega
     have hlen:ix.length*Ty.size .term<=n*Ty.size .term:=bZ _ hixn
     have hxs:(putCells id 0 (flatK enc (Ty.size .term) dk) vs).toList.take (ix.length*Ty.size .term)=ix.flatMap enc:=by
      apply qC;intro t;by_cases ht:t<ix.length*Ty.size .term
      ·obtain⟨q1,q2,q3⟩:=LK t (Ty.size .term) ix.length ht;rw[fM,af ht,gA];unfold putCells;rw[qsn,gz (by omega),ny,af ⟨aG _,by rw[size_flatK,hdk];omega⟩,Nat.sub_zero,id,get_flatK _ _ _ _ (by rw[hdk];omega)]
       conv=>rhs;rw[<- q2]
       rw[Mc hek _ _ _ q3]
       have hd:dk[t / Ty.size .term]?=ix[t / Ty.size .term]?:=by
        rw[<- htk,fM,af q1,gA]
       have hdl:t / Ty.size .term<dk.size:=by rw[hdk];omega
       rw[<- hd,gz hdl,pn dk _ hdl];show _=(enc dk[t / Ty.size .term])[t % Ty.size .term]?;rw[QN,aS (by rw[hek];exact q3)];rfl
      ·rw[ox (by rw[bj];omega),ox (by rw[VD hek];omega)]
     rcases hw with rfl | ⟨n1,n2,rfl⟩
     ·exact⟨Γ.cur 0,cap,_,et,rfl,B.hb,by omega,by rw[hpsz];exact hfit,hxs,.inl ⟨rfl,hpsz.trans hvsz⟩,B.os,B.tape,B.output,B.size,B.drawn,B.other⟩
     ·have hs:=setRow_heap _ (Γ.cur 0) _ new.toArray et (0,0) B.hb;refine⟨Γ.cur 0,cap,new.toArray,et,rfl,hs,by omega,by rw[ic,n2];exact hfit,?_,.inl ⟨rfl,by rw[ic,n2];exact hvsz⟩,B.os,B.tape,B.output,?_,B.drawn,λ b hb hne=>(setRow_other _ (Γ.cur 0) b _ hne).trans (B.other b hb hne)⟩
      ·rw[<- hxs];exact n1
      ·show w.heap.size<=_;simp only[World.setRow,Array.size_modify];exact B.size
 ·have hl2:l'=[]:=by
    have hl0:l=[]:=hl0;rw[hl0]at hl';cases hl';rfl
  rcases hy with rfl | ⟨f,rfl,hf2⟩
  ·have hu0:=ce hu0;subst hu0;exact nil0 none hl2
  ·cases hu0 with
   | sl _ _ _ a n cap b o us hn _ hf _ _ _ _ _ _ =>
     have hn:n=0:=hn;have hcap:cap=n:=hf (by omega);rw[hcap,hn];exact nil0 a hl2
end
section
set_option maxRecDepth 100000
noncomputable section
class NF (α:Type) where z:α
instance {α:Type}:NF (ab α):=⟨U⟩
instance {α a:Type}[NF a]:NF (α->a):=⟨λ _=>NF.z⟩
instance {α a:Type}[NF α][NF a]:NF (α×a):=⟨(NF.z,NF.z)⟩
def bc{α:Type}[NF α]:(Nat->α->α)->Nat->α:=ZJ NF.z
def bh{α:Type}[NF α](s:Nat->α):Nat->α:=ZJ NF.z λ m _=>s m
def be{α:Type}[NF α]:(α->α)->Nat->α:=qby NF.z
abbrev Z1:=ab ((Unit)×((aa T)×Unit))
abbrev Z2:=(aa (TL))->Int->(aa (TL))->Int->Int->Z1
abbrev Z3:=aa T
abbrev Z4:=(aa (TL))->Int->Int->Z3->Z1
abbrev Z5:=ab ((Int×(aa T)×Unit)×(Unit))
abbrev Z6:=T->Int->Z3->Z5
abbrev Z7:=Z3->Int->Int->Int->Z3->Z5
abbrev Z8:=ab Int
abbrev Z9:=T->Z8
abbrev Z10:=Int->Z3->Int->Int->Z8
abbrev Z11:=T->T->Z8
abbrev Z12:=aa aN
abbrev Z13:=Int->Int->Int->Z12->Int->Z3->Int->Z12->Int->Z3->Z8
abbrev Z14:=ab T
abbrev Z15:=T->Z14
abbrev Z16:=Z3->Int->Int->Int->Z12->Int->Int->Z12->Int->Z3->Z3->Z14
abbrev Z17:=ab Bool
abbrev Z19:=Int->Int->Z3->Z1
abbrev Z20:=ab (TL)
abbrev Z21:=T->Z20
abbrev Z22:=ab ((T×Unit)×(Bool×Unit))
abbrev Z23:=ab ((T×Unit)×(Int×Unit))
abbrev Z24:=Z3->Int->Int->Int->Z12->Int->Z3->Z23
abbrev Z25:=T->Z17
abbrev Z26:=ab ((Unit)×(Int×Unit))
abbrev Z27:=Z3->Int->Int->Z26
abbrev Z28:=TL->Z26
abbrev Z29:=ab ((Unit)×(Bool×Unit))
abbrev Z31:=ab (Y8×(Int×(Int×Int)))
abbrev Z32:=aa (Y8×(Int×(Int×Int)))
abbrev Z33:=Z12->Z32->Int->Int->Z12->Int->Int->Int->Z31
abbrev Z34:=Y8->Z17
abbrev Z35:=Z3->Int->Int->Z17
abbrev Z37:=Z12->Int->Int->Z17
abbrev Z38:=ab ((Int×Int×Unit)×(Int×Unit))
abbrev Z39:=T->Int->Int->Int->Z38
abbrev Z40:=Int->Z3->Int->Int->Int->Int->Z38
abbrev Z41:=Z3->Int->Int->Int->Z12->Int->Z3->Z8
abbrev Z42:=Z3->Int->Int->Z8
abbrev Z43:=ab (((aa T)×Unit)×(Unit))
abbrev Z44:=Z3->Int->Int->Z3->Z43
abbrev Z45:=ab (((aa T)×Unit)×(Int×Unit))
abbrev Z46:=aa (Int×(T×(T×(Int×TL))))
abbrev Z47:=Z46->Int->Int->Z3->Z45
abbrev Z48:=Z46->Int->Int->Z3->Int->Int->Z3->Z45
abbrev Z49:=Z46->Int->Int->Z3->Int->Int->Z3->Int->Int->Z3->Z45
abbrev Z50:=ab ((TL)×Int)
abbrev Z51:=aa (T×(aa (Int×(T×(T×(Int×TL))))))
abbrev Z52:=Z51->Int->Int->Z3->Z50
abbrev Z53:=Int×(TL×(TL×(aa (T×(aa (Int×(T×(T×(Int×TL)))))))))
abbrev Z54:=Z53->Int->Z50
abbrev Z55:=Z3->Int->Int->Int->Z3->Z3->Z51->Z3->Z17
abbrev Z56:=Z51->Int->Int->Z17
abbrev Z57:=Z51->Int->Int->Z46->Int->Int->Z17
abbrev Z58:=Z53->Z17
abbrev Z60:=aa Y8
abbrev Z61:=Z60->Z12->Int->Int->Z8
abbrev Z62:=Z60->Int->Int->Int->Z60->Z17
abbrev Z63:=Int×(aa Y8)
abbrev Z64:=Z53->Z63->Z17
abbrev Z65:=ab Y8
abbrev Z66:=Int->Z65
abbrev Z67:=ab (((aa (T×T))×Unit)×(Unit))
abbrev Z68:=aa (T×T)
abbrev Z69:=ab ((Unit)×((aa (T×T))×Unit))
abbrev Z70:=aa (aa (T×T))
abbrev Z71:=Z70->Int->Z70->Int->Int->Z69
abbrev Z72:=Z70->Int->Int->Z68->Z69
abbrev Z73:=ab (aa (T×T))
abbrev Z74:=ab ((aa (T×T))×Int)
abbrev Z75:=Int->Z3->Int->Int->Int->Z3->Z3->Z51->Int->Z60->Z68->Z60->Z74
abbrev Z76:=Int->Z3->Int->Int->Z68->Z74
abbrev Z77:=Z53->Z63->Int->Z74
abbrev Z78:=ab (Int×Bool)
abbrev Z79:=Z68->Int->Int->Int->Int->Z12->Int->Z3->Z78
abbrev Z80:=ab (T×Int)
abbrev Z81:=(aa Int)->Int->Int->Int->Z12->Int->Z3->Int->Z12->Int->Z3->Z80
abbrev Z82:=Z68->Int->Int->Z68->Z73
abbrev Z83:=ab ((Int×(aa Y8))×(Int×(Int×(Int×(Int×(aa (T×T)))))))
abbrev Z84:=(Int×(aa Y8))×(Int×(Int×(Int×(Int×(aa (T×T))))))
abbrev Z85:=Z68->T->Z14
abbrev Z86:=Z68->Z3->Int->Int->Int->Z12->Int->Int->Z12->Int->Z3->Z3->Z14
abbrev Z87:=aa ((Y8×Int)×T)
abbrev Z88:=ab (((aa ((Y8×Int)×T))×Unit)×(Bool×Unit))
abbrev Z89:=T->T->Z87->Z88
abbrev Z90:=Int->Int->Z87->Int->Z12->Int->Z3->Int->Z12->Int->Z3->Z88
abbrev Z91:=Z3->Int->Int->Z87->Z68->Z74
abbrev Z92:=T->T->Z74
abbrev Z93:=ab ((aa (T×T))×Bool)
abbrev Z94:=Z68->T->T->Z93
abbrev Z95:=ab (((Int×(aa Y8))×(Int×(Int×(Int×(Int×(aa (T×T)))))))×((aa (Int×(Int×TL)))×Bool))
abbrev Z96:=aa (Int×(Int×TL))
abbrev Z97:=Z68->Z46->Int->Int->Int->Z3->Z3->Z51->Int->Z60->Int->Int->Int->Int->Z68->Int->Int->Int->Int->Int->Z60->Z68->Z96->Z95
abbrev Z98:=Z68->Z46->Int->Int->Z3->Int->Int->Int->Z3->Z3->Z51->Int->Z60->Int->Int->Int->Int->Z68->Int->Int->Int->Int->Int->Int->Int->Z60->Z68->Z96->Z3->Z95
abbrev Z99:=Z53->Z84->T->Z95
abbrev PI:=ab (((Int×(aa Y8))×(Int×(Int×(Int×(Int×(aa (T×T)))))))×((aa (Int×(Int×TL)))×Int))
abbrev qbe:=Int->Int->Z3->Z8
abbrev qaO:=Z3->Z3->Z3->Z20
abbrev qaX:=Z3->Z3->Int->Int->Z20
abbrev qar:=(aa Int)->Int->Int->Int->Z12->Int->Z3->Int->Z12->Int->Int->Z12->Int->Z3->Z3->Z80
abbrev BG:=TL->Z20
abbrev qa5:=Z3->Int->Int->Z3->Z20
abbrev qaF:=Z3->Z3->Int->Int->Int->Z12->Int->Z3->Z80
abbrev qab:=Int->Int->Int->Z12->Int->Int->Z12->Int->Z3->Z3->Z14
abbrev iU:=aa (T×Int)
abbrev qaQ:=iU->Int->Int->Int->Int->Z12->Int->Z3->Z78
abbrev Bo:=ab ((Unit)×((aa (T×Int))×Unit))
abbrev rZ:=ab ((Unit)×((aa (T×Int))×Bool×Unit))
abbrev I8:=iU->T->Int->rZ
abbrev qaf:=Int->Z3->Int->Int->iU->rZ
abbrev yj:=ab ((aa (T×Int))×Int)
abbrev qbL:=iU->iU->Int->Int->Z8
abbrev qae:=iU->Z8
abbrev I1:=iU->Int->Int->Int->Z12->Int->Z3->Z3->Z3->Z80
abbrev Js:=iU->Int->Int->Int->Int->Int->Z12->Int->Int->Z12->Int->Z3->Int->Z3->Z3->Z3->Z80
abbrev qaY:=iU->Int->Int->iU->Bo
abbrev qbx:=iU->Int->Int->Z8
abbrev qan:=iU->Int->Int->iU->yj
abbrev Jm:=T->Z80
abbrev qbk:=Z3->Int->Int->Int->Z12->Int->Z3->Int->Z12->Int->Int->Z12->Int->Z3->Z3->Z80
abbrev qbA:=Z68->Z68->Int->Int->Z8
abbrev PB:=Z3->Z68->Z68->Int->Int->Int->Z60->Int->Int->Int->Int->Z68->Z8
abbrev Pv:=Z68->Int->Int->Int->Z60->Int->Int->Int->Int->Z68->Z8
abbrev qsa:=Z53->Z84->Z8
abbrev yp:=Int->Int->Int->Z12->Int->Z3->Z8
abbrev qaL:=Int->Int->Z12->Int->Z3->Int->Z12->Int->Z3->Z8
abbrev qr9:=ab (Int×(TL×(TL×(aa (T×(aa (Int×(T×(T×(Int×TL))))))))))
abbrev I3:=T->Int->Z8
abbrev Pl:=Int->Int->Int->Z3->Z3->Z51->Z3->Z17
abbrev PP:=Int->Int->Int->Int->Z3->Z3->Z51->Z3->Z17
abbrev qbK:=Z68->Int->Int->Int->Z3->Z17
abbrev qaS:=Int->Int->Int->Z60->Int->Int->Int->Int->Z68->Z17
abbrev qbn:=Int->Int->Z12->Int->Z3->Z3->Z20
abbrev ZT:=Z3->Bool->Int->Int->Z12->Int->Z3->Z3->Z20
abbrev qbE:=Z3->Z3->Int->Z20
abbrev qaC:=Int->Z3->Int->Z3->Z20
abbrev qsc:=ab (aa (Y8×(Int×(Int×Int))))
abbrev qa9:=Z12->Z32->Int->Z8
abbrev qaV:=Z12->Int->Z17
abbrev Jn:=Int->Int->Z12->Int->Z3->Z8
abbrev qbj:=Z32->Int->Int->Z12->Int->Z3->Z17
abbrev qbM:=Int->Int->Z12->Int->Z3->Z17
abbrev yq:=Z3->Int->Z17
abbrev qbm:=Z3->Int->Int->Z12->Int->Z3->Z17
abbrev Jg:=Z3->Z3->Int->Z17
abbrev yk:=ab ((Unit)×((aa T)×Int×Unit))
abbrev Qe:=Z3->Int->Z3->yk
abbrev Pc:=Int->Int->Int->Z3->Z3->Z51->Z3->Z50
abbrev PS:=Int->Int->Int->Int->Z3->Z3->Z51->Z3->Z50
abbrev yy:=Int->Int->Z3->Z3->Z51->Z17
abbrev PV:=Int->Int->Int->Z3->Z3->Z51->Z17
abbrev OX:=Int->Int->Z60->Z17
abbrev OZ:=Int->Int->Int->Z60->Z17
abbrev qaP:=Z68->Bool->Int->Int->Z12->Int->Z3->Int->Z12->Int->Z3->Z68->Z73
abbrev Pu:=Int->Z68->Int->Int->Z3->Z3->Z51->Int->Z60->Z74
abbrev O7:=Int->Z68->Int->Int->Z3->Z3->Z51->Z74
abbrev qaR:=Z68->Int->Int->Z12->Int->Z3->Int->Z12->Int->Z3->Z14
abbrev Jd:=ab ((Unit)×((aa (T×T))×Bool×Unit))
abbrev I5:=T->T->Z68->Jd
abbrev qap:=Bool->Int->Int->Z12->Int->Z3->Int->Z12->Int->Z3->Z68->Jd
abbrev By:=Int->Int->Z12->Int->Z3->Z68->Z74
abbrev Bs:=Int->Int->Int->Z12->Int->Z3->Z68->Z74
abbrev Bv:=Z3->Int->Z68->Z68->Z74
abbrev BJ:=Z3->Int->Int->Z68->Z68->Z74
abbrev qa2:=Z68->Int->Int->Z12->Int->Z3->Int->Z12->Int->Int->Z12->Int->Z3->Z3->Z14
abbrev qaj:=Z68->Z68->Int->Z93
abbrev qax:=Z68->Z3->Int->Z3->Z20
abbrev qbb:=Z68->Int->Int->Z3->Z3->Z51->Int->Z60->Int->Int->Int->Int->Z68->Int->Int->Int->Int->Int->Int->Z12->Int->Z3->Z46->Z60->Z68->Z96->Z95
abbrev qbp:=Z60->Z60->Int->Z17
abbrev qbh:=Z68->Z68->Int->Z17
abbrev qbo:=Z96->Z96->Int->Z17
def Cn(m:Nat)(b:Z2)(c:Z4)(a:aa TL):Z1:=
 b a 0 a (X a) 0
def Cm(m:Nat)(i:Z2)(h:Z4)(c:aa (TL))(b:Int)(e:aa (TL))(d a:Int):Z1:=
 cond (ilt a d) (ac (ao e a) λ f=>cond (ilt (iw .i64 (aw b (X f))) 0) U (i c (iw .i64 (aw b (X f))) e d (iw .i64 (aw a 1)))) (ac (yY 0 b) λ g=>
 h c (X c) 0 g.2.1)
def Cp(m:Nat)(g:Z2)(f:Z4)(d:aa (TL))(c b:Int)(a:TL):Z1:=
 cond (ilt b c) (ac (ao d b) λ e=>cond (bD (X a+X e) 56) (f d c (iw .i64 (aw b 1)) (a++e)) U) (Z ((()),(a,())))
def jU(m:Nat):=be λ a=>(Cm m a.1 a.2,Cp m a.1 a.2)
def qG:Nat->((aa TL)->Z1):=bc λ m _=>Cn m (jU m m).1 (jU m m).2
def J5(m:Nat)(c:T)(b:Int)(a:TL):Z5:=
 cond (ieq c.kind b) (cond (bD (X a+1) 56) (ac (ao (a++[T.mk 0 [] 0 []]) (X a)) λ d=>Z ((b,dJ (a++[T.mk 0 [] 0 []]) (X a) (re c),()),(()))) U)
 (Z ((b,a,()),(())))
def CJ:=bh J5
def CH(m:Nat)(a:Z6)(f:Z7)(d:T)(c:Int)(b:TL):Z5:=
 ac (CJ m (re d) c b) λ e=>f d.kids (X d.kids) 0 e.1.1 e.1.2.1
def CG(m:Nat)(a:Z6)(i:Z7)(f:TL)(e b d:Int)(c:TL):Z5:=
 cond (ilt b e) (ac (ao f b) λ h=>ac (a (re h) d c) λ g=>i f e (iw .i64 (aw b 1)) g.1.1 g.1.2.1) (Z ((d,c,()),(())))
def sM(m:Nat)(a:Z6):=be (CG m a)
def lG:Nat->Z6:=bc λ m a=>CH m a (sM m a m)
def Lp(m:Nat)(b a:Int):Z8:=
 cond (ilt b a) (Z (-1)) (cond (ilt a b) (Z 1) (Z 0))
def uD:=bh Lp
def Fk(m:Nat)(a:Z9)(c:Z10)(b:T):Z8:=
 c 1 b.kids (X b.kids) 0
def E4(m:Nat)(a:Z9)(h:Z10)(e:Int)(d:TL)(c b:Int):Z8:=
 cond (ilt b c) (ac (ao d b) λ g=>ac (a (re g)) λ f=>h (iw .i64 (aw e f)) d c (iw .i64 (aw b 1))) (Z e)
def tX(m:Nat)(a:Z9):=be (E4 m a)
def km:Nat->Z9:=bc λ m a=>Fk m a (tX m a m)
def DL(m:Nat)(c:Z11)(e:Z13)(b a:T):Z8:=
 ac (km m (re b)) λ n=>ac (km m (re a)) λ l=>ac (uD m n l) λ d=>let j1:Z8:=(ac (uD m (X b.kids) (X a.kids)) λ k=>
 e k 0 b.kind b.name b.sort b.kids a.kind a.name a.sort a.kids);let h:Z8:=(ac (uD m b.sort a.sort) λ i=>
 cond (ieq i 0) j1 (e i 0 b.kind b.name b.sort b.kids a.kind a.name a.sort a.kids));let j:Z8:=(ac (strings_Compare 0 b.name a.name) λ g=>
 cond (ieq g 0) h (cond (ieq g 0) j1 (e g 0 b.kind b.name b.sort b.kids a.kind a.name a.sort a.kids)));cond (ieq d 0) (ac (uD m b.kind a.kind) λ f=>
 cond (ieq f 0) j (cond (ieq f 0) h (cond (ieq f 0) j1 (e f 0 b.kind b.name b.sort b.kids a.kind a.name a.sort a.kids))))
 (cond (ieq d 0) j (cond (ieq d 0) h (cond (ieq d 0) j1 (e d 0 b.kind b.name b.sort b.kids a.kind a.name a.sort a.kids))))
def zk(m:Nat)(a:Z11)(p:Z13)(d b k:Int)(j:Y8)(i:Int)(c:TL)(h:Int)(g:Y8)(f:Int)(e:TL):Z8:=
 cond (ieq d 0) (cond (ilt b (X c)) (ac (ao c b) λ o=>ac (ao e b) λ n=>ac (a (re o) (re n)) λ l=>p l (iw .i64 (aw b 1)) k j i c h g f e) (Z d))
 (Z d)
def pw(m:Nat)(a:Z11):=be (zk m a)
def cW:Nat->Z11:=bc λ m a=>DL m a (pw m a m)
def sF:Nat->TL->ab (TL):=bc λ m _=>oT (cW m)
def EB(m:Nat)(a:Z15)(c:Z16)(b:T):Z14:=
 c b.kids (X b.kids) 0 b.kind b.name b.sort 0 [] 0 [] []
def ED(m:Nat)(a:Z15)(p:Z16)(i:TL)(h c g:Int)(f:Y8)(e l:Int)(k:Y8)(j:Int)(b d:TL):Z14:=
 cond (ilt c h) (ac (ao i c) λ o=>ac (a (re o)) λ n=>cond (bD (X b+1) 56) (p i h (iw .i64 (aw c 1)) g f e l k j (b++[re n]) d) U)
 (Z (T.mk g f e b))
def tH(m:Nat)(a:Z15):=be (ED m a)
def jv:Nat->Z15:=bc λ m a=>EB m a (tH m a m)
def Kn(m:Nat)(c b:T):Z17:=
 ac (cW m (re c) (re b)) λ a=>Z (ieq a 0)
def nF:=bh Kn
def we:Nat->TL->ab (Unit×TL×Unit):=bc λ m _=>A9 (nF m)
def DO(m:Nat)(d:Z19)(c:TL):Z1:=
 ac (sF m c) λ b=>cond (Nat.beq (X b) (X c)) (ac (we m b) λ a=>d (X a.2.1) 0 a.2.1) U
def DP(m:Nat)(f:Z19)(c a:Int)(b:TL):Z1:=
 cond (ilt a c) (ac (ao b a) λ e=>ac (jv m (re e)) λ d=>ac (ao b a) λ g=>f c (iw .i64 (aw a 1)) (dJ b a (re d))) (Z ((()),(b,())))
def te(m:Nat):=be (DP m)
def Lj:Nat->(Z3->Z1):=bc λ m _=>DO m (te m m)
def KU(m:Nat)(d:T)(c:Int):Z20:=
 ac (lG m (re d) c []) λ b=>ac (Lj m b.1.2.1) λ a=>Z a.2.1
def Ly:=bh KU
def Lr(m:Nat)(b:T):Z20:=
 ac (Ly m (re b) 1) λ a=>Z a
def pH:=bh Lr
def Kt(m:Nat)(c b:T):Z17:=
 ac (cW m (re c) (re b)) λ a=>Z (ieq a 0)
def wH:=bh Kt
def J7(m:Nat)(c a:T):Z22:=
 ac (wH m (re c) (re a)) λ b=>Z ((re a,()),(b,()))
def CT:=bh J7
def Ce(m:Nat)(c:Z24)(b:TL)(a:T):Z23:=
 c b (X b) 0 a.kind a.name a.sort a.kids
def yS(m:Nat)(j:Z24)(h:TL)(g b f:Int)(e:Y8)(d:Int)(c:TL):Z23:=
 cond (ilt b g) (ac (ao h b) λ i=>ac (CT m (re i) (T.mk f e d c)) λ a=>cond a.2.1 (Z ((re a.1.1,()),(b,())))
 (j h g (iw .i64 (aw b 1)) a.1.1.kind a.1.1.name a.1.1.sort a.1.1.kids)) (Z ((T.mk f e d c,()),((-1),())))
def sB(m:Nat):=be (yS m)
def JV:Nat->(TL->T->Z23):=bc λ m _=>Ce m (sB m m)
def JL(m:Nat)(c:TL)(a:T):Z22:=
 ac (JV m c (re a)) λ b=>Z ((re b.1.1,()),(ile 0 b.2.1,()))
def JQ:=bh JL
def KY(m:Nat)(c:TL)(b:T):Z17:=
 ac (JQ m c (re b)) λ a=>Z a.2.1
def ug:=bh KY
def qeg(m:Nat)(a:T):Z17:=
 Z (ieq a.sort 5)
def Ko:=bh qeg
def Ch(m:Nat)(b:Z27)(a:TL):Z26:=
 b a (X a) 0
def yU(m:Nat)(f:Z27)(c:TL)(b a:Int):Z26:=
 cond (ilt a b) (ac (ao c a) λ e=>ac (Ko m (re e)) λ d=>cond d (Z ((()),(a,()))) (f c b (iw .i64 (aw a 1)))) (Z ((()),((-1),())))
def sD(m:Nat):=be (yU m)
def JX:Nat->Z28:=bc λ m _=>Ch m (sD m m)
def JM(m:Nat)(b:TL):Z29:=
 ac (JX m b) λ a=>Z ((()),(ile 0 a.2.1,()))
def Cg:=bh JM
def Df(m:Nat)(c:Z33)(b:Y8):Z31:=
 ac (KX 0) λ a=>c b a (X a) 0 [] 0 0 0
def Dc(m:Nat)(j:Z33)(d:Y8)(c:aa (Y8×(Int×(Int×Int))))(b a:Int)(i:Y8)(h g f:Int):Z31:=
 cond (ilt a b) (ac (ao c a) λ e=>cond (bq e.1 d) (Z e) (j d c b (iw .i64 (aw a 1)) i h g f)) (Z ([],(0,(0,0))))
def ta(m:Nat):=be (Dc m)
def wE:Nat->(Y8->Z31):=bc λ m _=>Df m (ta m m)
def Ks(m:Nat)(a:Y8):Z17:=
 cond (bq a [120,111,114]) (Z Y) (cond (bq a [122,101,114,111]) (Z Y) (cond (bq a [101,120,112]) (Z Y) (cond (bq a [109,117,108]) (Z Y) (cond (bq a [105,110,118])
 (Z Y) (cond (bq a [111,110,101]) (Z Y) (ac (wE m a) λ b=>Z (ap (ieq b.2.2.2 3))))))))
def Ew:=bh Ks
def CA(m:Nat)(a:Z25)(c:Z35)(b:T):Z17:=
 cond (ieq b.kind 3) (ac (Ew m b.name) λ d=>cond (ap d) (Z Y) (c b.kids (X b.kids) 0)) (c b.kids (X b.kids) 0)
def Cz(m:Nat)(a:Z25)(g:Z35)(d:TL)(c b:Int):Z17:=
 cond (ilt b c) (ac (ao d b) λ f=>ac (a (re f)) λ e=>cond (ap e) (Z Y) (g d c (iw .i64 (aw b 1)))) (Z O)
def qJ(m:Nat)(a:Z25):=be (Cz m a)
def kQ:Nat->Z25:=bc λ m a=>CA m a (qJ m a m)
def Lq(m:Nat)(a:Int):Z17:=
 let d:Z17:=(let c:Z17:=(let b:Z17:=(cond (ieq a 95) (Z O) (Z (ieq a 35)));cond (ile 48 a) (cond (ile a 57) (Z O) b) b);cond (ile 65 a) (cond (ile a 90) (Z O) c) c);
 cond (ile 97 a) (cond (ile a 122) (Z O) d) d
def Am:=bh Lq
def Ee(m:Nat)(i:Z37)(a:Y8):Z17:=
 cond (bq a []) (Z Y) (cond (ilt 24 (X a)) (Z Y) (ac (ao a 0) λ h=>ac (Am m ((UInt8.toNat h:Nat):Int)) λ g=>cond (ap g) (Z Y) (ac (ao a 0) λ f=>
 let b:Z17:=(ac (ao a 0) λ d=>cond (ieq ((UInt8.toNat d:Nat):Int) 95) (Z Y) (ac (ao a 0) λ c=>cond (ieq ((UInt8.toNat c:Nat):Int) 35) (Z Y) (i a (X a) 0)));
 cond (ile 48 ((UInt8.toNat f:Nat):Int)) (ac (ao a 0) λ e=>cond (ile ((UInt8.toNat e:Nat):Int) 57) (Z Y) b) b)))
def D3(m:Nat)(f:Z37)(c:Y8)(b a:Int):Z17:=
 cond (ilt a b) (ac (ao c a) λ e=>ac (Am m ((UInt8.toNat e:Nat):Int)) λ d=>cond (ap d) (Z Y) (f c b (iw .i64 (aw a 1)))) (Z O)
def px(m:Nat):=be (D3 m)
def wK:Nat->Z34:=bc λ m _=>Ee m (px m m)
def EL(m:Nat)(b:Z39)(i:Z40)(a:T)(d f e:Int):Z38:=
 let g:Z38:=(ac (wK m a.name) λ h=>cond (ap h) (Z ((iw .i64 (aw f 1),pb e d,()),(2,()))) (cond (ilt 8 (X a.kids)) (Z ((iw .i64 (aw f 1),pb e d,()),(3,())))
 (i d a.kids (X a.kids) 0 (iw .i64 (aw f 1)) (pb e d))));let c:Z38:=(Z ((iw .i64 (aw f 1),pb e d,()),(1,())));let j3:Z38:=
 (cond (ilt a.sort 0) c (cond (ilt 5 a.sort) c (cond (ilt 0 (X a.kids)) c g)));cond (ieq a.kind 1) j3 (cond (ieq a.kind 2) j3 (cond (ieq a.kind 3) (cond (ap (ieq a.sort 0)) c g) c))
def Ey(m:Nat)(a:Z39)(j:Z40)(h:Int)(g:TL)(f c e d:Int):Z38:=
 cond (ilt c f) (ac (ao g c) λ i=>ac (a (re i) (iw .i64 (aw h 1)) e d) λ b=>cond (ap (ieq b.2.1 0)) (Z ((b.1.1,b.1.2.1,()),(b.2.1,())))
 (j h g f (iw .i64 (aw c 1)) b.1.1 b.1.2.1)) (Z ((e,d,()),(0,())))
def mK(m:Nat)(a:Z39):=be (Ey m a)
def iu:Nat->Z39:=bc λ m a=>EL m a (mK m a m)
def K5(m:Nat)(b:T):Z8:=
 ac (iu m (re b) 1 0 0) λ a=>cond (ap (ieq a.2.1 0)) (Z a.2.1) (cond (ilt 400 a.1.1) (Z 3) (cond (ilt 40 a.1.2.1) (Z 3) (Z 0)))
def fA:=bh K5
def DN(m:Nat)(b:Z9)(e:Z41)(d:Z42)(a:T):Z8:=
 cond (ap (ieq a.kind 3)) (Z 0) (ac (wE m a.name) λ c=>cond (ieq c.2.2.2 0) (Z 10) (cond (ilt (X a.kids) c.2.1) (Z 6) (cond (ilt c.2.2.1 (X a.kids)) (Z 6)
 (cond (bq a.name [115,107]) (e a.kids (X a.kids) 0 a.kind a.name a.sort a.kids) (cond (bq a.name [115,104,107]) (e a.kids (X a.kids) 0 a.kind a.name a.sort a.kids)
 (cond (bq a.name [110,101,119]) (ac (ao a.kids 0) λ f=>cond (ap (ieq f.kind 2)) (Z 10) (d a.kids (X a.kids) 0)) (d a.kids (X a.kids) 0)))))))
def Dx(m:Nat)(a:Z9)(k:Z41)(j:Z42)(e:TL)(d c i:Int)(h:Y8)(g:Int)(b:TL):Z8:=
 cond (ilt c d) (ac (ao e c) λ f=>cond (ieq f.kind 3) (Z 10) (cond (ap (ieq f.sort 1)) (Z 10) (k e d (iw .i64 (aw c 1)) i h g b))) (j b (X b) 0)
def Dz(m:Nat)(a:Z9)(h:Z41)(g:Z42)(d:TL)(c b:Int):Z8:=
 cond (ilt b c) (ac (ao d b) λ f=>ac (a (re f)) λ e=>cond (ap (ieq e 0)) (Z e) (g d c (iw .i64 (aw b 1)))) (Z 0)
def iK(m:Nat)(a:Z9):=be λ b=>(Dx m a b.1 b.2,Dz m a b.1 b.2)
def fy:Nat->Z9:=bc λ m a=>DN m a (iK m a m).1 (iK m a m).2
def Kv(m:Nat)(b:T):Z8:=
 ac (fA m (re b)) λ a=>cond (ap (ieq a 0)) (Z a) (ac (fy m (re b)) λ c=>Z c)
def zJ:=bh Kv
def KS(m:Nat)(a:T):Z17:=
 ac (zJ m (re a)) λ c=>cond (ieq c 0) (ac (kQ m (re a)) λ b=>Z b) (Z Y)
def FM:=bh KS
def Kl(m:Nat)(a:T):Z17:=
 ac (FM m (re a)) λ e=>cond e (ac (km m (re a)) λ d=>cond (ile d 60) (ac (pH m (re a)) λ c=>ac (Cg m c) λ b=>
 Z (ap b.2.1)) (Z Y)) (Z Y)
def tg:=bh Kl
def CC(m:Nat)(d:Z44)(c:TL)(b:T):Z43:=
 ac (pH m (re b)) λ a=>d a (X a) 0 c
def CE(m:Nat)(f:Z44)(d:TL)(c b:Int)(a:TL):Z43:=
 cond (ilt b c) (ac (ao d b) λ e=>ac (ug m a (re e)) λ g=>cond (ap g) (cond (bD (X a+1) 56) (ac (ao (a++[T.mk 0 [] 0 []]) (X a)) λ h=>
 f d c (iw .i64 (aw b 1)) (dJ (a++[T.mk 0 [] 0 []]) (X a) (re e))) U) (f d c (iw .i64 (aw b 1)) a)) (Z ((a,()),(())))
def sI(m:Nat):=be (CE m)
def zh:Nat->(Z3->T->Z43):=bc λ m _=>CC m (sI m m)
def J1(m:Nat)(b:T):Z17:=
 ac (tg m (re b)) λ a=>Z (ap a)
def CF:=bh J1
def Cf(m:Nat)(b:Z27)(a:TL):Z26:=
 b a (X a) 0
def yT(m:Nat)(f:Z27)(c:TL)(b a:Int):Z26:=
 cond (ilt a b) (ac (ao c a) λ e=>ac (CF m (re e)) λ d=>cond d (Z ((()),(a,()))) (f c b (iw .i64 (aw a 1)))) (Z ((()),((-1),())))
def sC(m:Nat):=be (yT m)
def JW:Nat->Z28:=bc λ m _=>Cf m (sC m m)
def JN(m:Nat)(b:TL):Z29:=
 ac (JW m b) λ a=>Z ((()),(ile 0 a.2.1,()))
def yV:=bh JN
def wm(m:Nat)(c:Z47)(h:Z48)(g:Z49)(b:TL)(a:T×(aa (Int×(T×(T×(Int×TL))))))(f:Bool):Z45:=
 cond (ap f) (ac (tg m (re a.1)) λ e=>cond (ap e) (Z ((b,()),(10,()))) (ac (zh m b (re a.1)) λ d=>c a.2 (X a.2) 0 d.1.1)) (c a.2 (X a.2) 0 b)
def oz(m:Nat)(n:Z47)(f:Z48)(o:Z49)(e:aa (Int×(T×(T×(Int×TL)))))(d c:Int)(b:TL):Z45:=
 cond (ilt c d) (ac (ao e c) λ a=>let j1:Z45:=(Z ((b,()),(10,())));cond (ieq a.1 1) (ac (tg m (re a.2.1)) λ l=>
 cond (ap l) j1 (ac (tg m (re a.2.2.1)) λ k=>cond (ap k) j1 (cond (ap (ieq a.2.1.kind 1)) (Z ((b,()),(13,()))) (ac (ug m b (re a.2.1)) λ j=>cond (ap j)
 (Z ((b,()),(13,()))) (ac (zh m b (re a.2.2.1)) λ i=>n e d (iw .i64 (aw c 1)) i.1.1))))) (cond (ieq a.1 2)
 (ac (yV m [re a.2.1]) λ h=>cond h.2.1 j1 (f e d c [re a.2.1] (X [re a.2.1]) 0 b))
 (ac (yV m a.2.2.2.2) λ g=>cond g.2.1 j1 (f e d c a.2.2.2.2 (X a.2.2.2.2) 0 b)))) (Z ((b,()),(0,())))
def Cw(m:Nat)(k:Z47)(l:Z48)(j:Z49)(g:aa (Int×(T×(T×(Int×TL)))))(f e:Int)(d:TL)(c a:Int)(b:TL):Z45:=
 cond (ilt a c) (ac (ao d a) λ i=>ac (pH m (re i)) λ h=>j g f e d c a h (X h) 0 b) (k g f (iw .i64 (aw e 1)) b)
def Cx(m:Nat)(p:Z47)(o:Z48)(n:Z49)(j:aa (Int×(T×(T×(Int×TL)))))(i h:Int)(g:TL)(f e:Int)(d:TL)(c b:Int)(a:TL):Z45:=
 cond (ilt b c) (ac (ao d b) λ l=>ac (ug m a (re l)) λ k=>cond (ap k) (Z ((a,()),(13,()))) (n j i h g f e d c (iw .i64 (aw b 1)) a))
 (o j i h g f (iw .i64 (aw e 1)) a)
def cC(m:Nat):=be λ a=>(oz m a.1 a.2.1 a.2.2,Cw m a.1 a.2.1 a.2.2,Cx m a.1 a.2.1 a.2.2)
def CN:Nat->(Z3->(T×(aa (Int×(T×(T×(Int×TL))))))->Bool->Z45):=bc λ m _=>wm m (cC m m).1 (cC m m).2.1 (cC m m).2.2
def Do(m:Nat)(d:Z52)(a:Int×(TL×(TL×(aa (T×(aa (Int×(T×(T×(Int×TL))))))))))(b:Int):Z50:=
 ac (qG m [a.2.1,a.2.2.1]) λ c=>cond (inb b (X a.2.2.2)) (cond (inb 0 (Int.toNat b)) (d (gq a.2.2.2 0 b) (X (gq a.2.2.2 0 b)) 0 c.2.1) U) U
def Dk(m:Nat)(h:Z52)(e:aa (T×(aa (Int×(T×(T×(Int×TL)))))))(d a:Int)(b:TL):Z50:=
 cond (ilt a d) (ac (ao e a) λ g=>ac (CN m b (re g.1,g.2) (ieq a 0)) λ c=>cond (ap (ieq c.2.1 0)) (Z ([],c.2.1)) (h e d (iw .i64 (aw a 1)) c.1.1))
 (ac (sF m b) λ f=>cond (Nat.beq (X f) (X b)) (Z (f,0)) U)
def sZ(m:Nat):=be (Dk m)
def tp:Nat->Z54:=bc λ m _=>Do m (sZ m m)
def Kr(m:Nat)(a:T):Z17:=
 cond (ieq a.kind 0) (cond (bq a.name []) (cond (ieq a.sort 0) (Z (ieq (X a.kids) 0)) (Z Y)) (Z Y)) (Z Y)
def lH:=bh Kr
def C7(m:Nat)(c:Z55)(e:Z56)(d:Z57)(a:Int×(TL×(TL×(aa (T×(aa (Int×(T×(T×(Int×TL)))))))))):Z17:=
 ac (qG m [a.2.1,a.2.2.1]) λ b=>c b.2.1 (X b.2.1) 0 a.1 a.2.1 a.2.2.1 a.2.2.2 b.2.1
def C5(m:Nat)(q:Z55)(p:Z56)(r:Z57)(e:TL)(h b j:Int)(g i:TL)(c:aa (T×(aa (Int×(T×(T×(Int×TL)))))))(f:TL):Z17:=
 let a:Z17:=(Z Y);cond (ilt b h) (ac (ao f b) λ d=>cond (ap (ieq d.kind 1)) a (ac (fA m (re d)) λ o=>cond (ap (ieq o 0)) a (cond (inb b (X e))
 (cond (inb 0 (Int.toNat b)) (ac (ug m (gq e 0 b) (re d)) λ n=>cond n a (cond (ap (dj (ilt b (X g))
 (ieq d.sort 1))) a (cond (ieq d.sort 5) a (q e h (iw .i64 (aw b 1)) j g i c f)))) U) U))) (cond (ieq (X c) 0) a (cond (ilt 12 (X c)) a (ac (ao c 0) λ l=>
 ac (lH m (re l.1)) λ k=>cond (ap k) a (p c (X c) 0))))
def C9(m:Nat)(g:Z55)(f:Z56)(e:Z57)(d:aa (T×(aa (Int×(T×(T×(Int×TL)))))))(c a:Int):Z17:=
 cond (ilt a c) (ac (ao d a) λ b=>cond (ilt 20 (X b.2)) (Z Y) (e d c a b.2 (X b.2) 0)) (Z O)
def CY(m:Nat)(o:Z55)(n:Z56)(l:Z57)(g:aa (T×(aa (Int×(T×(T×(Int×TL)))))))(f e:Int)(d:aa (Int×(T×(T×(Int×TL)))))(c b:Int):Z17:=
 cond (ilt b c) (ac (ao d b) λ a=>let j1:Z17:=(Z Y);let j2:Z17:=(l g f e d c (iw .i64 (aw b 1)));let j3:Z17:=(let h:Z17:=(ac (lH m (re a.2.1)) λ j=>
 cond j (ac (lH m (re a.2.2.1)) λ i=>cond i (cond (ap (ile 0 a.2.2.2.1)) j1 j2) j1) j1);cond (ieq a.1 3) h (cond (ieq a.1 4) h j1));cond (ieq a.2.2.2.1 0) (cond (ieq a.1 1)
 (cond (ap (ieq (X a.2.2.2.2) 0)) j1 j2) (cond (ieq a.1 2) (cond (ieq (X a.2.2.2.2) 0) (ac (lH m (re a.2.2.1)) λ k=>cond (ap k) j1 j2) j1) j3))
 (cond (ieq a.1 1) j1 (cond (ieq a.1 2) j1 j3))) (n g f (iw .i64 (aw e 1)))
def dR(m:Nat):=be λ a=>(C5 m a.1 a.2.1 a.2.2,C9 m a.1 a.2.1 a.2.2,CY m a.1 a.2.1 a.2.2)
def Ej:Nat->Z58:=bc λ m _=>C7 m (dR m m).1 (dR m m).2.1 (dR m m).2.2
def Kq(m:Nat)(a:Int×(TL×(TL×(aa (T×(aa (Int×(T×(T×(Int×TL)))))))))):Z8:=
 cond (ilt a.1 0) (Z 7) (cond (ile 4 a.1) (Z 7) (cond (ilt (X a.2.1) 2) (Z 7) (cond (ilt 4 (X a.2.1)) (Z 7) (cond (ile (X a.2.1) a.1) (Z 7)
 (ac (Ej m a) λ c=>cond (ap c) (Z 1) (ac (tp m a (X a.2.2.2)) λ b=>Z b.2))))))
def zy:=bh Kq
def Kj(m:Nat)(b:Y8):Z17:=
 ac (fA m (T.mk 2 b 0 [])) λ a=>Z (ieq a 0)
def Ek:=bh Kj
def Cq(m:Nat)(c:Z61)(a:aa Y8)(b:Y8):Z8:=
 c a b (X a) 0
def yZ(m:Nat)(f:Z61)(d:aa (Y8))(c:Y8)(b a:Int):Z8:=
 cond (ilt a b) (ac (ao d a) λ e=>cond (bq c e) (Z a) (f d c b (iw .i64 (aw a 1)))) (Z (-1))
def sG(m:Nat):=be (yZ m)
def J0:Nat->((aa Y8)->Y8->Z8):=bc λ m _=>Cq m (sG m m)
def JY(m:Nat)(c:aa Y8)(b:Y8):Z17:=
 ac (J0 m c b) λ a=>Z (ile 0 a)
def Cr:=bh JY
def CS(m:Nat)(c:Z62)(b:Int×(TL×(TL×(aa (T×(aa (Int×(T×(T×(Int×TL))))))))))(a:Int×(aa Y8)):Z17:=
 cond (ap (ieq a.1 b.1)) (Z Y) (cond (ap (ieq (X a.2) (X b.2.1))) (Z Y) (c a.2 (X a.2) 0 a.1 a.2))
def CQ(m:Nat)(i:Z62)(d:aa (Y8))(c a f:Int)(b:aa (Y8)):Z17:=
 cond (ilt a c) (ac (ao d a) λ e=>ac (Ek m e) λ h=>cond (ap h) (Z Y) (cond (inb a (X b)) (cond (inb 0 (Int.toNat a))
 (ac (Cr m (gq b 0 a) e) λ g=>cond g (Z Y) (i d c (iw .i64 (aw a 1)) f b)) U) U)) (Z O)
def sO(m:Nat):=be (CQ m)
def zo:Nat->Z64:=bc λ m _=>CS m (sO m m)
def qdi(m:Nat)(a:Int):Z65:=
 cond (ilt a 10) (cond (inb (iw .i64 (aw a 1))
 (X [48,49,50,51,52,53,54,55,56,57,97,98,99,100,101,102,103,104,105,106,107,108,109,110,111,112,113,114,115,116,117,118,119,120,121,122]))
 (cond (inb a (Int.toNat (iw .i64 (aw a 1))))
 (Z (gq [48,49,50,51,52,53,54,55,56,57,97,98,99,100,101,102,103,104,105,106,107,108,109,110,111,112,113,114,115,116,117,118,119,120,121,122] a (iw .i64 (aw a 1)))) U) U)
 (cond (inb (iw .i64 (aw (iw .i64 (qs a 2)) 2))
 (X [48,48,48,49,48,50,48,51,48,52,48,53,48,54,48,55,48,56,48,57,49,48,49,49,49,50,49,51,49,52,49,53,49,54,49,55,49,56,49,57,50,48,50,49,50,50,50,51,50,52,50,53,50,54,50,55,50,56,50,57,51,48,51,49,51,50,51,51,51,52,51,53,51,54,51,55,51,56,51,57,52,48,52,49,52,50,52,51,52,52,52,53,52,54,52,55,52,56,52,57,53,48,53,49,53,50,53,51,53,52,53,53,53,54,53,55,53,56,53,57,54,48,54,49,54,50,54,51,54,52,54,53,54,54,54,55,54,56,54,57,55,48,55,49,55,50,55,51,55,52,55,53,55,54,55,55,55,56,55,57,56,48,56,49,56,50,56,51,56,52,56,53,56,54,56,55,56,56,56,57,57,48,57,49,57,50,57,51,57,52,57,53,57,54,57,55,57,56,57,57]))
 (cond (inb (iw .i64 (qs a 2)) (Int.toNat (iw .i64 (aw (iw .i64 (qs a 2)) 2))))
 (Z (gq [48,48,48,49,48,50,48,51,48,52,48,53,48,54,48,55,48,56,48,57,49,48,49,49,49,50,49,51,49,52,49,53,49,54,49,55,49,56,49,57,50,48,50,49,50,50,50,51,50,52,50,53,50,54,50,55,50,56,50,57,51,48,51,49,51,50,51,51,51,52,51,53,51,54,51,55,51,56,51,57,52,48,52,49,52,50,52,51,52,52,52,53,52,54,52,55,52,56,52,57,53,48,53,49,53,50,53,51,53,52,53,53,53,54,53,55,53,56,53,57,54,48,54,49,54,50,54,51,54,52,54,53,54,54,54,55,54,56,54,57,55,48,55,49,55,50,55,51,55,52,55,53,55,54,55,55,55,56,55,57,56,48,56,49,56,50,56,51,56,52,56,53,56,54,56,55,56,56,56,57,57,48,57,49,57,50,57,51,57,52,57,53,57,54,57,55,57,56,57,57] (iw .i64 (qs a 2))
 (iw .i64 (aw (iw .i64 (qs a 2)) 2)))) U) U)
def Rc:=bh qdi
def qdd(m:Nat)(a d:Int):Z65:=
 cond (ieq d 10) (let b:Z65:=(cond (ilt a 0) U U);cond (ile 0 a) (cond (ilt a 100) (ac (Rc m a) λ c=>Z c) b) b) U
def Q6:=bh qdd
def qdl(m:Nat)(b:Int):Z65:=
 ac (Q6 m b 10) λ a=>Z a
def Ri:=bh qdl
def qgF(m:Nat)(b:Int):Z65:=
 ac (Ri m b) λ a=>Z a
def EX:=bh qgF
def J4(m:Nat)(b:T)(c:Y8)(a:aa (T×T)):Z67:=
 cond (bD (X a+1) 112) (Z ((a++[(re b,T.mk 2 c b.sort [])],()),(()))) U
def wn:=bh J4
def Cj(m:Nat)(b:Z71)(c:Z72)(a:aa (aa (T×T))):Z69:=
 b a 0 a (X a) 0
def yW(m:Nat)(i:Z71)(h:Z72)(c:aa (aa (T×T)))(b:Int)(e:aa (aa (T×T)))(d a:Int):Z69:=
 cond (ilt a d) (ac (ao e a) λ f=>cond (ilt (iw .i64 (aw b (X f))) 0) U (i c (iw .i64 (aw b (X f))) e d (iw .i64 (aw a 1))))
 (ac (wg 0 b) λ g=>h c (X c) 0 g.2.1)
def yX(m:Nat)(g:Z71)(f:Z72)(d:aa (aa (T×T)))(c b:Int)(a:aa (T×T)):Z69:=
 cond (ilt b c) (ac (ao d b) λ e=>cond (bD (X a+X e) 112) (f d c (iw .i64 (aw b 1)) (a++e)) U) (Z ((()),(a,())))
def kO(m:Nat):=be λ a=>(yW m a.1 a.2,yX m a.1 a.2)
def Ck:Nat->(Z70->Z69):=bc λ m _=>Cj m (kO m m).1 (kO m m).2
def J2(m:Nat)(c b:T×T):Z8:=
 ac (cW m (re c.1) (re b.1)) λ a=>Z a
def lF:=bh J2
def wc:Nat->aa (T×T)->ab (aa (T×T)):=bc λ m _=>oT (lF m)
def J6(m:Nat)(d c:aa (T×T)):Z73:=
 ac (Ck m [d,c]) λ b=>ac (wc m b.2.1) λ a=>cond (Nat.beq (X a) (X b.2.1)) (Z a) U
def zg:=bh J6
def Dr(m:Nat)(f:Z75)(g:Z76)(a:Int×(TL×(TL×(aa (T×(aa (Int×(T×(T×(Int×TL))))))))))(b:Int×(aa Y8))(e:Int):Z74:=
 ac (pt 0 b.2) λ d=>ac (wk 0 d.2.1 a.1 (iw .i64 (aw a.1 1))) λ c=>f e a.2.1 (X a.2.1) 0 a.1 a.2.1 a.2.2.1 a.2.2.2 b.1 b.2 [] c.2.1
def Dm(m:Nat)(o:Z75)(t:Z76)(i:Int)(h:TL)(g c f:Int)(l d:TL)(k:aa (T×(aa (Int×(T×(T×(Int×TL)))))))(j:Int)(e:aa (Y8))(b:aa (T×T))(a:aa (Y8)):Z74:=
 cond (ilt c g) (ac (ao h c) λ n=>cond (ieq c 0) (ac (ao e f) λ s=>ac (wn m (re n) s b) λ r=>o i h g (iw .i64 (aw c 1)) f l d k j e r.1.1 a)
 (ac (ao a (iw .i64 (eT c 1))) λ q=>ac (wn m (re n) q b) λ p=>o i h g (iw .i64 (aw c 1)) f l d k j e p.1.1 a)) (t i d (X d) 0 b)
def Dl(m:Nat)(k:Z75)(j:Z76)(g:Int)(f:TL)(e b:Int)(d:aa (T×T)):Z74:=
 cond (ilt b e) (ac (ao f b) λ a=>cond (lg a.name [35]) (ac (EX m g) λ c=>cond (lg (a.name++[35]) c) (cond (ilt 24 (X ((a.name++[35])++c))) (Z ([],3))
 (ac (wn m (re a) ((a.name++[35])++c) d) λ i=>j g f e (iw .i64 (aw b 1)) i.1.1)) U) U) (ac (zg m d []) λ h=>Z (h,0))
def jV(m:Nat):=be λ a=>(Dm m a.1 a.2,Dl m a.1 a.2)
def tw:Nat->Z77:=bc λ m _=>Dr m (jV m m).1 (jV m m).2
def J3(m:Nat)(c:T×T)(b:T):Z8:=
 ac (cW m (re c.1) (re b)) λ a=>Z a
def zf:=bh J3
def B7(m:Nat)(c:Z79)(b:aa (T×T))(a:T):Z78:=
 c b (X b) 0 (X b) a.kind a.name a.sort a.kids
def wb(m:Nat)(k:Z79)(g:aa (T×T))(h a b f:Int)(e:Y8)(d:Int)(c:TL):Z78:=
 cond (ilt a b) (ac (ao g (iw .i64 (nh .u64 (iw .u64 (iw .i64 (aw a b))) 1))) λ j=>ac (zf m (re j.1,re j.2) (T.mk f e d c)) λ n=>cond (ilt n 0)
 (k g h (iw .i64 (aw (iw .i64 (nh .u64 (iw .u64 (iw .i64 (aw a b))) 1)) 1)) b f e d c) (k g h a (iw .i64 (nh .u64 (iw .u64 (iw .i64 (aw a b))) 1)) f e d c)) (cond (ilt a h)
 (ac (ao g a) λ i=>ac (zf m (re i.1,re i.2) (T.mk f e d c)) λ l=>Z (a,ieq l 0)) (Z (a,Y)))
def sx(m:Nat):=be (wb m)
def B8:Nat->(Z68->T->Z78):=bc λ m _=>B7 m (sx m m)
def J9(m:Nat)(c:aa (T×T))(b:T):(ab ((T)×(Bool))):=
 ac (B8 m c (re b)) λ a=>cond (ap a.2) (Z (re b,Y)) (ac (ao c a.1) λ d=>Z (re d.2,O))
def wo:=bh J9
def FX(m:Nat)(c:Z81)(a:T)(b:aa Int):Z80:=
 c b (X b) 0 a.kind a.name a.sort a.kids 0 [] 0 []
def LR(m:Nat)(p:Z81)(g:aa (Int))(f c n:Int)(l:Y8)(k:Int)(b:TL)(j:Int)(i:Y8)(h:Int)(d:TL):Z80:=
 cond (ilt c f) (ac (ao g c) λ e=>cond (ilt e 0) (Z (T.mk 0 [] 0 [],7)) (cond (ile (X b) e) (Z (T.mk 0 [] 0 [],7)) (ac (ao b e) λ a=>
 p g f (iw .i64 (aw c 1)) a.kind a.name a.sort a.kids j i h d))) (ac (jv m (T.mk n l k b)) λ o=>Z (re o,0))
def wX(m:Nat):=be (LR m)
def xG:Nat->(T->(aa Int)->Z80):=bc λ m _=>FX m (wX m m)
def Ct(m:Nat)(b:Z82)(a:aa (T×T)):Z73:=
 b a (X a) 0 []
def Cs(m:Nat)(h:Z82)(d:aa (T×T))(c b:Int)(a:aa (T×T)):Z73:=
 cond (ilt b c) (ac (ao d b) λ e=>ac (xG m (re e.1) []) λ g=>ac (xG m (re e.2) []) λ f=>cond (bD (X a+1) 112) (h d c (iw .i64 (aw b 1))
 (a++[(re g.1,re f.1)])) U) (Z a)
def sH(m:Nat):=be (Cs m)
def zc:Nat->(Z68->Z73):=bc λ m _=>Ct m (sH m m)
def Ki(m:Nat)(a:(Int×(aa Y8))×(Int×(Int×(Int×(Int×(aa (T×T))))))):Z83:=
 ac (pt 0 a.1.2) λ c=>ac (zc m a.2.2.2.2.2) λ b=>Z ((a.1.1,c.2.1),(a.2.1,(a.2.2.1,(a.2.2.2.1,(a.2.2.2.2.1,b)))))
def zr:=bh Ki
def CD(m:Nat)(a:Z85)(f:Z86)(c:aa (T×T))(b:T):Z14:=
 cond (ieq b.kind 1) (ac (wo m c (re b)) λ e=>ac (xG m (re e.1) []) λ d=>Z (re d.1)) (f c b.kids (X b.kids) 0 0 [] 0 b.kind b.name b.sort [] [])
def CB(m:Nat)(a:Z85)(q:Z86)(j:aa (T×T))(i:TL)(h c n:Int)(l:Y8)(k g:Int)(f:Y8)(e:Int)(d b:TL):Z14:=
 cond (ilt c h) (ac (ao i c) λ p=>ac (a j (re p)) λ o=>cond (bD (X b+1) 56) (q j i h (iw .i64 (aw c 1)) n l k g f e d (b++[re o])) U)
 (Z (T.mk g f e b))
def sJ(m:Nat)(a:Z85):=be (CB m a)
def jr:Nat->Z85:=bc λ m a=>CD m a (sJ m a m)
def zt(m:Nat)(d c:T):Z8:=
 ac (fA m (re d)) λ a=>cond (ap (ieq a 0)) (Z a) (ac (fA m (re c)) λ b=>Z b)
def Lu:=bh zt
def Lg(m:Nat)(a b:T):Z17:=
 ac (fA m (re a)) λ d=>cond (ap (ieq d 0)) (Z Y) (ac (fA m (re b)) λ c=>cond (ap (ieq c 0)) (Z Y) (cond (ap (ieq a.kind 1)) (Z Y) (cond (ieq a.sort 0)
 (Z O) (cond (ap (ieq b.kind 3)) (Z (ieq b.sort a.sort)) (Z Y)))))
def Ae:=bh Lg
def qjw(m:Nat)(a:T):(ab (Y8×Int)):=
 Z (a.name,a.sort)
def wW:=bh qjw
def Lb(m:Nat)(c b:T):Z17:=
 ac (cW m (re c) (re b)) λ a=>Z (ieq a 0)
def uk:=bh Lb
def qhe(m:Nat)(a:T):Z17:=
 Z (ieq a.kind 1)
def Lv:=bh qhe
def KL(m:Nat)(b a:T):Z17:=
 cond (ieq b.kind 3) (cond (ieq a.kind 3) (cond (bq b.name a.name) (Z (ieq (X b.kids) (X a.kids))) (Z Y)) (Z Y)) (Z Y)
def FN:=bh KL
def Eh(m:Nat)(a:Z89)(l:Z90)(b c:T)(d:aa ((Y8×Int)×T)):Z88:=
 ac (Lv m (re b)) λ k=>cond k (ac (wW m (re b)) λ e=>cond (oU (veq (.pair .str (.int .i64))) d e) (ac (uk m (re (lw (veq (.pair .str (.int .i64)))
 (T.mk 0 [] 0 []) d e)) (re c)) λ j=>Z ((d,()),(j,()))) (ac (wW m (re b)) λ i=>ac (Ae m (re b) (re c)) λ h=>
 Z ((iW (veq (.pair .str (.int .i64))) d i (re c),()),(h,())))) (ac (FN m (re b) (re c)) λ g=>cond (ap g) (ac (uk m (re b) (re c)) λ f=>
 Z ((d,()),(f,()))) (l (X b.kids) 0 d b.kind b.name b.sort b.kids c.kind c.name c.sort c.kids))
def Ed(m:Nat)(a:Z89)(q:Z90)(g c:Int)(f:aa ((Y8×Int)×T))(n:Int)(l:Y8)(k:Int)(e:TL)(j:Int)(i:Y8)(h:Int)(b:TL):Z88:=
 cond (ilt c g) (ac (ao e c) λ p=>ac (ao b c) λ o=>ac (a (re p) (re o) f) λ d=>cond (ap d.2.1) (Z ((d.1.1,()),(Y,())))
 (q g (iw .i64 (aw c 1)) d.1.1 n l k e j i h b)) (Z ((f,()),(O,())))
def wF(m:Nat)(a:Z89):=be (Ed m a)
def mL:Nat->Z89:=bc λ m a=>Eh m a (wF m a m)
def wx(m:Nat)(f:Z91)(a e:T):Z74:=
 ac (Lu m (re a) (re e)) λ d=>cond (ap (ieq d 0)) (Z ([],d)) (ac (mL m (re a) (re e) []) λ c=>cond (ap c.2.1) (Z ([],11)) (ac (pH m (re a)) λ b=>
 f b (X b) 0 c.1.1 []))
def El(m:Nat)(h:Z91)(e:TL)(d c:Int)(b:aa ((Y8×Int)×T))(a:aa (T×T)):Z74:=
 cond (ilt c d) (ac (ao e c) λ f=>ac (wW m (re f)) λ g=>ac (uk m (re (lw (veq (.pair .str (.int .i64))) (T.mk 0 [] 0 []) b g)) (re f)) λ i=>cond (ap i)
 (cond (bD (X a+1) 112) (h e d (iw .i64 (aw c 1)) b (a++[(re f,re (lw (veq (.pair .str (.int .i64))) (T.mk 0 [] 0 []) b g))])) U) (h e d (iw .i64 (aw c 1)) b a))
 (Z (a,0))
def wG(m:Nat):=be (El m)
def zR:Nat->Z92:=bc λ m _=>wx m (wG m m)
def Cu(m:Nat)(b:aa (T×T))(f e:T):Z93:=
 ac (jr m b (re f)) λ d=>ac (zR m (re d) (re e)) λ a=>cond (ap (ieq a.2 0)) (Z ([],Y)) (ac (zg m b a.1) λ c=>Z (c,O))
def zd:=bh Cu
def EN(m:Nat)(e:Z97)(g:Z98)(b:Int×(TL×(TL×(aa (T×(aa (Int×(T×(T×(Int×TL))))))))))(a:(Int×(aa Y8))×(Int×(Int×(Int×(Int×(aa (T×T)))))))(f:T):Z95:=
 ac (ao b.2.2.2 a.2.2.1) λ c=>cond (ilt 0 a.2.2.1) (ac (zd m a.2.2.2.2.2 (re c.1) (re f)) λ d=>cond (ap d.2)
 (Z (a,[],Y))
 (e d.1 c.2 (X c.2) 0 b.1 b.2.1 b.2.2.1 b.2.2.2 a.1.1 a.1.2 a.2.1 a.2.2.1 a.2.2.2.1 a.2.2.2.2.1 a.2.2.2.2.2 0 0 0 0 0 [] [] []))
 (e a.2.2.2.2.2 c.2 (X c.2) 0 b.1 b.2.1 b.2.2.1 b.2.2.2 a.1.1 a.1.2 a.2.1 a.2.2.1 a.2.2.2.1 a.2.2.2.2.1 a.2.2.2.2.2 0 0 0 0 0 [] [] [])
def Er(m:Nat)(C:Z97)(F:Z98)(q:aa (T×T))(w:aa (Int×(T×(T×(Int×TL)))))(v t z:Int)(y x:TL)(u:aa (T×(aa (Int×(T×(T×(Int×TL)))))))(s:Int)(r:aa (Y8))(f e d c:Int)(b:aa (T×T))(p o n l k:Int)(j:aa (Y8))(i:aa (T×T))(a:aa (Int×(Int×TL))):Z95:=
 cond (ilt t v) (ac (ao w t) λ h=>cond (ieq h.1 1) (ac (wo m q (re h.2.1)) λ E=>ac (zd m q (re h.2.2.1) (re E.1)) λ B=>cond (ap B.2)
 (Z (((s,r),(f,(e,(d,(c,b))))),[],Y)) (C B.1 w v (iw .i64 (aw t 1)) z y x u s r f e d c b p o n l k j i a)) (cond (ieq h.1 2)
 (ac (jr m q (re h.2.1)) λ D=>cond (bD (X a+1) 40)
 (C q w v (iw .i64 (aw t 1)) z y x u s r f e d c b p o n l k j i (a++[(2,(0,[re D]))])) U)
 (F q w v t h.2.2.2.2 (X h.2.2.2.2) 0 z y x u s r f e d c b p o n l k h.1 h.2.2.2.1 j i a []))) (ac (zr m ((s,r),(f,(e,(d,(c,b)))))) λ g=>
 ac (zc m q) λ A=>cond (ieq (iw .i64 (aw g.2.2.1 1)) (X u)) (Z ((g.1,(g.2.1,(iw .i64 (aw g.2.2.1 1),(2,(g.2.2.2.2.1,A))))),a,O))
 (Z ((g.1,(g.2.1,(iw .i64 (aw g.2.2.1 1),(1,(g.2.2.2.2.1,A))))),a,O)))
def EP(m:Nat)(H:Z97)(G:Z98)(v:aa (T×T))(D:aa (Int×(T×(T×(Int×TL)))))(C B:Int)(A:TL)(z u y:Int)(x w:TL)(t:aa (T×(aa (Int×(T×(T×(Int×TL)))))))(s:Int)(r:aa (Y8))(q p o n:Int)(l:aa (T×T))(k j i h g f e:Int)(d:aa (Y8))(c:aa (T×T))(b:aa (Int×(Int×TL)))(a:TL):Z95:=
 cond (ilt u z) (ac (ao A u) λ F=>ac (jr m v (re F)) λ E=>cond (bD (X a+1) 56)
 (G v D C B A z (iw .i64 (aw u 1)) y x w t s r q p o n l k j i h g f e d c b (a++[re E])) U) (cond (bD (X b+1) 40)
 (H v D C (iw .i64 (aw B 1)) y x w t s r q p o n l k j i h g d c (b++[(f,(e,a))])) U)
def ju(m:Nat):=be λ a=>(Er m a.1 a.2,EP m a.1 a.2)
def Ag:Nat->Z99:=bc λ m _=>EN m (ju m m).1 (ju m m).2
def pu(m:Nat)(b:Int×(TL×(TL×(aa (T×(aa (Int×(T×(T×(Int×TL))))))))))(e:Int×(aa Y8))(a:Int):PI:=
 ac (zy m b) λ f=>cond (ap (ieq f 0)) (Z (((0,[]),(0,(0,(0,(0,[]))))),[],f)) (ac (zo m b
 e) λ g=>cond (ap g) (Z (((0,[]),(0,(0,(0,(0,[]))))),[],1)) (cond (ilt a 0) (Z (((0,[]),(0,(0,(0,(0,[]))))),[],7)) (cond (ilt 99 a)
 (Z (((0,[]),(0,(0,(0,(0,[]))))),[],7)) (ac (tw m b e a) λ d=>cond (ap (ieq d.2 0)) (Z (((0,[]),(0,(0,(0,(0,[]))))),[],d.2))
 (ac (Ag m b (e,(a,(0,(0,(0,d.1))))) (T.mk 0 [] 0 [])) λ c=>cond (ap c.2.2) (Z (((0,[]),(0,(0,(0,(0,[]))))),[],11))
 (Z (c.1,c.2.1,0)))))))
def wD:=bh pu
def KV(m:Nat)(c b:T):Z17:=
 ac (cW m (re c) (re b)) λ a=>Z (ieq a 0)
def py:=bh KV
def Lt(m:Nat)(a:T)(b:Y8):Z17:=
 cond (ieq a.kind 3) (Z (bq a.name b)) (Z Y)
def ja:=bh Lt
def Km(m:Nat)(b:T):Z14:=
 ac (ao b.kids 0) λ a=>let j1:Z14:=(Z (re b));let j2:Z14:=(ac (ao a.kids 0) λ I=>Z (re I));let j3:Z14:=(cond (bq b.name [114,101,97,100])
 (ac (ja m (re a) [115,105,103,110]) λ p=>cond p j2 j1) j1);let j4:Z14:=(ac (ja m (re a) [112,97,105,114]) λ G=>cond G (ac (ao a.kids 1) λ F=>Z (re F)) j1);
 let B:Z14:=(ac (ja m (re a) [112,97,105,114]) λ K=>cond K j2 j1);cond (ilt 1 (X b.kids)) (ac (ao b.kids 1) λ c=>
 cond (bq b.name [102,115,116]) B (cond (bq b.name [115,110,100]) j4 (cond (bq b.name [100,101,99]) (ac (ja m (re a) [101,110,99]) λ E=>cond E (ac (ao a.kids 1) λ D=>
 ac (py m (re D) (re c)) λ C=>cond C j2 j1) j1) (cond (bq b.name [97,100,101,99]) (ac (ja m (re a) [97,101,110,99]) λ A=>cond A (ac (ao a.kids 1) λ z=>
 ac (ja m (re z) [112,107]) λ y=>cond y (ac (ao a.kids 1) λ x=>ac (ao x.kids 0) λ w=>ac (py m (re w) (re c)) λ v=>cond v j2 j1) j1) j1)
 (cond (bq b.name [111,112,101,110]) (ac (ja m (re a) [115,105,103,110]) λ u=>cond u (ac (ja m (re c) [112,107]) λ t=>cond t (ac (ao a.kids 1) λ s=>
 ac (ao c.kids 0) λ r=>ac (py m (re s) (re r)) λ q=>cond q j2 j1) j1) j1) j3)))))
 (cond (bq b.name [102,115,116]) B (cond (bq b.name [115,110,100]) j4 (cond (bq b.name [100,101,99]) (ac (ja m (re a) [101,110,99]) λ o=>cond o (ac (ao a.kids 1) λ n=>
 ac (py m (re n) (T.mk 0 [] 0 [])) λ l=>cond l j2 j1) j1) (cond (bq b.name [97,100,101,99]) (ac (ja m (re a) [97,101,110,99]) λ k=>
 cond k (ac (ao a.kids 1) λ j=>ac (ja m (re j) [112,107]) λ i=>cond i (ac (ao a.kids 1) λ h=>ac (ao h.kids 0) λ g=>ac (py m (re g)
 (T.mk 0 [] 0 [])) λ f=>cond f j2 j1) j1) j1) (cond (bq b.name [111,112,101,110]) (ac (ja m (re a) [115,105,103,110]) λ e=>
 cond e (ac (ja m (T.mk 0 [] 0 []) [112,107]) λ d=>cond d (ac (ao a.kids 1) λ H=>U) j1) j1) j3)))))
def zp:=bh Km
def Ff(m:Nat)(d:qbe)(b c:TL):Z8:=
 cond (ilt 200 (X b)) (Z 3) (ac (qG m [b,c]) λ a=>d (X a.2.1) 0 a.2.1)
def EY(m:Nat)(f:qbe)(c a:Int)(b:TL):Z8:=
 cond (ilt a c) (ac (ao b a) λ e=>ac (fA m (re e)) λ d=>cond (ap (ieq d 0)) (Z d) (f c (iw .i64 (aw a 1)) b)) (Z 0)
def ua(m:Nat):=be (EY m)
def GF:Nat->(TL->TL->Z8):=bc λ m _=>Ff m (ua m m)
def FK(m:Nat)(c:qaO)(b a:TL):Z20:=
 c b a []
def FQ(m:Nat)(d:qaO)(a b c:TL):Z20:=
 let f:Z20:=(cond (bD (X c+X a) 56) (cond (bD (X (c++a)+X b) 56) (Z ((c++a)++b)) U) U);cond (ilt 0 (X a)) (cond (ilt 0 (X b))
 (ac (ao a 0) λ j=>ac (ao b 0) λ i=>ac (cW m (re j) (re i)) λ e=>cond (ilt e 0) (ac (ao a 0) λ h=>cond (bD (X c+1) 56) (cond (inb (X a) (X a))
 (cond (inb 1 (Int.toNat (X a))) (d (gq a 1 (X a)) b (c++[re h])) U) U) U) (cond (ilt 0 e) (ac (ao b 0) λ g=>cond (bD (X c+1) 56) (cond (inb (X b) (X b))
 (cond (inb 1 (Int.toNat (X b))) (d a (gq b 1 (X b)) (c++[re g])) U) U) U) (cond (inb (X a) (X a)) (cond (inb 1 (Int.toNat (X a))) (cond (inb (X b) (X b))
 (cond (inb 1 (Int.toNat (X b))) (d (gq a 1 (X a)) (gq b 1 (X b)) c) U) U) U) U))) f) f
def uo(m:Nat):=be (FQ m)
def Az:Nat->(TL->TL->Z20):=bc λ m _=>FK m (uo m m)
def DM(m:Nat)(a:Z21)(d:qaX)(b:T):Z20:=
 let c:Z20:=(cond (ieq b.kind 3) (cond (bq b.name [120,111,114]) (d [] b.kids (X b.kids) 0) (Z [re b])) (Z [re b]));cond (ieq b.kind 3) (cond (bq b.name [122,101,114,111])
 (cond (ieq (X b.kids) 0) (Z []) c) c) c
def DA(m:Nat)(a:Z21)(i:qaX)(e d:TL)(c b:Int):Z20:=
 cond (ilt b c) (ac (ao d b) λ h=>ac (a (re h)) λ g=>ac (Az m e g) λ f=>i f d c (iw .i64 (aw b 1))) (Z e)
def qM(m:Nat)(a:Z21):=be (DA m a)
def kS:Nat->Z21:=bc λ m a=>DM m a (qM m a m)
def DU(m:Nat)(e:qar)(d:T)(c:aa Int)(b:T):Z80:=
 ac (jv m (re d)) λ a=>e c (X c) 0 b.kind b.name b.sort b.kids 0 [] 0 a.kind a.name a.sort a.kids []
def KD(m:Nat)(t:qar)(n:aa (Int))(l c g:Int)(f:Y8)(e:Int)(d:TL)(r:Int)(q:Y8)(p k:Int)(j:Y8)(i:Int)(a h:TL):Z80:=
 cond (ilt c l) (ac (ao n c) λ b=>cond (ilt b 0) (Z (T.mk 0 [] 0 [],7)) (cond (ile (X a) b) (Z (T.mk 0 [] 0 [],7)) (ac (ao a b) λ s=>U)))
 (ac (jv m (T.mk g f e d)) λ o=>Z (re o,0))
def wz(m:Nat):=be (KD m)
def E0:Nat->(T->(aa Int)->T->Z80):=bc λ m _=>DU m (wz m m)
def Gi(m:Nat)(a:BG)(c:qa5)(b:TL):Z20:=
 cond (Ol (X b) 56) (c b (X b) 0 (List.replicate (Int.toNat (X b)) (T.mk 0 [] 0 []):TL)) U
def Gl(m:Nat)(b:BG)(k:qa5)(h:TL)(g a:Int)(d:TL):Z20:=
 cond (ilt a g) (ac (ao h a) λ f=>ac (E0 m (re f) [] (re f)) λ e=>ac (ao d a) λ l=>ac (b f.kids) λ j=>ac (ao (dJ d a (re e.1)) a) λ c=>
 cond (ieq (X f.kids) 0) (ac (ao (dJ (dJ d a (re e.1)) a (T.mk c.kind c.name c.sort j)) a) λ i=>k h g (iw .i64 (aw a 1))
 (dJ (dJ (dJ d a (re e.1)) a (T.mk c.kind c.name c.sort j)) a (T.mk i.kind i.name i.sort []))) (k h g (iw .i64 (aw a 1)) (dJ (dJ d a (re e.1)) a (T.mk c.kind c.name c.sort j))))
 (Z d)
def uC(m:Nat)(a:BG):=be (Gl m a)
def kX:Nat->BG:=bc λ m a=>Gi m a (uC m a m)
def F6(m:Nat)(c:qaF)(a:TL):Z80:=
 ac (GF m a []) λ b=>cond (ap (ieq b 0)) (Z (T.mk 0 [] 0 [],b)) (c [] a (X a) 0 0 [] 0 [])
def FY(m:Nat)(r:qaF)(e d:TL)(c b j:Int)(i:Y8)(h:Int)(g:TL):Z80:=
 cond (ilt b c) (ac (ao d b) λ q=>ac (kS m (re q)) λ p=>ac (Az m e p) λ o=>r o d c (iw .i64 (aw b 1)) j i h g) (ac (kX m e) λ a=>
 cond (ieq (X a) 0) (ac (fA m (T.mk 3 [122,101,114,111] 0 [])) λ n=>cond (ap (ieq n 0)) (Z (T.mk 0 [] 0 [],3)) (Z (T.mk 3 [122,101,114,111] 0 [],0))) (cond (ieq (X a) 1)
 (ac (ao a 0) λ f=>ac (fA m (re f)) λ l=>cond (ap (ieq l 0)) (Z (T.mk 0 [] 0 [],3)) (Z (re f,0))) (ac (fA m (T.mk 3 [120,111,114] 0 a)) λ k=>
 cond (ap (ieq k 0)) (Z (T.mk 0 [] 0 [],3)) (Z (T.mk 3 [120,111,114] 0 a,0)))))
def uB(m:Nat):=be (FY m)
def HX:Nat->(TL->Z80):=bc λ m _=>F6 m (uB m m)
def Kg(m:Nat)(a:T):Z17:=
 cond (ieq a.kind 3) (cond (bq a.name [109,117,108]) (Z O) (cond (bq a.name [105,110,118]) (Z O) (Z (bq a.name [111,110,101])))) (Z Y)
def zl:=bh Kg
def Da(m:Nat)(a:Z15)(d:qab)(b:T):Z14:=
 ac (wj 0 b.kids) λ c=>d (X c.2.1) 0 b.kind b.name b.sort 0 [] 0 c.2.1 []
def CZ(m:Nat)(a:Z15)(o:qab)(g b f:Int)(e:Y8)(d k:Int)(j:Y8)(i:Int)(c h:TL):Z14:=
 cond (ilt b g) (ac (ao c b) λ n=>ac (a (re n)) λ l=>ac (ao c b) λ p=>o g (iw .i64 (aw b 1)) f e d k j i (dJ c b (re l)) h) (Z (T.mk f e d c))
def sU(m:Nat)(a:Z15):=be (CZ m a)
def jt:Nat->Z15:=bc λ m a=>Da m a (sU m a m)
def Kc(m:Nat)(c:T×Int)(b:T):Z8:=
 ac (cW m (re c.1) (re b)) λ a=>Z a
def zj:=bh Kc
def Ca(m:Nat)(c:qaQ)(b:aa (T×Int))(a:T):Z78:=
 c b (X b) 0 (X b) a.kind a.name a.sort a.kids
def B9(m:Nat)(k:qaQ)(g:aa (T×Int))(h a b f:Int)(e:Y8)(d:Int)(c:TL):Z78:=
 cond (ilt a b) (ac (ao g (iw .i64 (nh .u64 (iw .u64 (iw .i64 (aw a b))) 1))) λ j=>ac (zj m (re j.1,j.2) (T.mk f e d c)) λ n=>cond (ilt n 0)
 (k g h (iw .i64 (aw (iw .i64 (nh .u64 (iw .u64 (iw .i64 (aw a b))) 1)) 1)) b f e d c) (k g h a (iw .i64 (nh .u64 (iw .u64 (iw .i64 (aw a b))) 1)) f e d c)) (cond (ilt a h)
 (ac (ao g a) λ i=>ac (zj m (re i.1,i.2) (T.mk f e d c)) λ l=>Z (a,ieq l 0)) (Z (a,Y)))
def sy(m:Nat):=be (B9 m)
def Cb:Nat->(iU->T->Z78):=bc λ m _=>Ca m (sy m m)
def Ke(m:Nat)(b:aa (T×Int))(c:T×Int):Bo:=
 ac (Cb m b (re c.1)) λ a=>cond (ap a.2) (ac (jt m (re c.1)) λ i=>
 ac (wh 0 b a.1 [(re i,c.2)]) λ h=>Z ((()),(h.2.1,()))) (ac (ao b a.1) λ e=>ac (ao b a.1) λ d=>
 ac (ao (dJ b a.1 (re d.1,iw .i64 (aw e.2 c.2))) a.1) λ g=>cond (ieq g.2 0)
 (ac (wi 0 (dJ b a.1 (re d.1,iw .i64 (aw e.2 c.2))) a.1 (iw .i64 (aw a.1 1))) λ f=>Z ((()),(f.2.1,())))
 (Z ((()),(dJ b a.1 (re d.1,iw .i64 (aw e.2 c.2)),()))))
def zm:=bh Ke
def CL(m:Nat)(a:I8)(h:qaf)(e:aa (T×Int))(b:T)(d:Int):rZ:=
 ac (zl m (re b)) λ j=>cond (ap j) (ac (zm m e (re b,d)) λ i=>Z ((()),(i.2.1,O,()))) (let c:rZ:=(Z ((()),([],Y,())));let j2:rZ:=
 (let g:rZ:=(let f:rZ:=(cond (bq b.name [105,110,118]) (h (iw .i64 (eT 0 d)) b.kids (X b.kids) 0 e) (h d b.kids (X b.kids) 0 e));cond (bq b.name [109,117,108])
 (cond (ilt (X b.kids) 2) c f) f);cond (bq b.name [105,110,118]) (cond (ap (ieq (X b.kids) 1)) c g) g);cond (bq b.name [111,110,101]) (cond (ap (ieq (X b.kids) 0)) c j2) j2)
def CM(m:Nat)(a:I8)(i:qaf)(f:Int)(e:TL)(d b:Int)(c:aa (T×Int)):rZ:=
 cond (ilt b d) (ac (ao e b) λ h=>ac (a c (re h) f) λ g=>cond (ap g.2.2.1) (Z ((()),([],Y,()))) (i f e d (iw .i64 (aw b 1)) g.2.1))
 (Z ((()),(c,O,())))
def qK(m:Nat)(a:I8):=be (CM m a)
def kR:Nat->I8:=bc λ m a=>CL m a (qK m a m)
def KG(m:Nat)(c:T):yj:=
 ac (fA m (re c)) λ b=>cond (ap (ieq b 0)) (Z ([],b)) (ac (kR m [] (re c) 1) λ a=>cond (ap a.2.2.1) (Z ([],6)) (cond (ilt 200 (X a.2.1)) (Z ([],3))
 (Z (a.2.1,0))))
def tU:=bh KG
def C4(m:Nat)(b:qbL)(a:aa (T×Int)):Z8:=
 cond (ilt 200 (X a)) (Z 3) (b a a (X a) 0)
def C1(m:Nat)(g:qbL)(e d:aa (T×Int))(c a:Int):Z8:=
 cond (ilt a c) (ac (ao d a) λ b=>ac (fA m (re b.1)) λ f=>cond (ap (ieq f 0)) (Z f) (ac (zl m (re b.1)) λ j=>cond j (Z 1) (cond (ieq b.2 0) (Z 7)
 (cond (ilt b.2 (-1000)) (Z 7) (cond (ilt 1000 b.2) (Z 7) (cond (ilt 0 a) (ac (ao e (iw .i64 (eT a 1))) λ i=>ac (cW m (re i.1) (re b.1)) λ h=>cond (ile 0 h) (Z 5)
 (g e d c (iw .i64 (aw a 1)))) (g e d c (iw .i64 (aw a 1))))))))) (Z 0)
def qL(m:Nat):=be (C1 m)
def wB:Nat->qae:=bc λ m _=>C4 m (qL m m)
def qgD(m:Nat)(b:Y8)(a:TL):Z14:=
 Z (T.mk 3 b 0 a)
def zH:=bh qgD
def Dn(m:Nat)(c:I1)(e d:Js)(a:aa (T×Int)):Z80:=
 ac (wB m a) λ b=>cond (ap (ieq b 0)) (Z (T.mk 0 [] 0 [],b)) (c a (X a) 0 0 [] 0 [] [] [])
def Ds(m:Nat)(u:I1)(s t:Js)(g:aa (T×Int))(f c r:Int)(q:Y8)(p:Int)(o e d:TL):Z80:=
 cond (ilt c f) (ac (ao g c) λ a=>cond (ilt 8 a.2) (Z (T.mk 0 [] 0 [],3)) (cond (ilt a.2 (-8)) (Z (T.mk 0 [] 0 [],3))
 (s g f c a.2 0 r q p a.1.kind a.1.name a.1.sort a.1.kids a.2 o e d))) (ac (qG m [e,d]) λ b=>cond (ilt 8 (X b.2.1)) (Z (T.mk 0 [] 0 [],3))
 (ac (zH m [109,117,108] b.2.1) λ n=>cond (ieq (X b.2.1) 0) (ac (zH m [111,110,101] []) λ l=>ac (fA m (re l)) λ k=>cond (ap (ieq k 0))
 (Z (T.mk 0 [] 0 [],k)) (Z (re l,0))) (cond (ieq (X b.2.1) 1) (ac (ao b.2.1 0) λ j=>ac (fA m (re j)) λ i=>cond (ap (ieq i 0)) (Z (T.mk 0 [] 0 [],i)) (Z (re j,0)))
 (ac (fA m (re n)) λ h=>cond (ap (ieq h 0)) (Z (T.mk 0 [] 0 [],h)) (Z (re n,0))))))
def Dd(m:Nat)(u:I1)(t s:Js)(q:aa (T×Int))(p o n l k:Int)(j:Y8)(i h:Int)(g:Y8)(d:Int)(c:TL)(b:Int)(f a e:TL):Z80:=
 cond (ilt l n) (ac (jt m (T.mk h g d c)) λ r=>cond (bD (X a+1) 56) (t q p o n (iw .i64 (aw l 1)) k j i h g d c b f (a++[re r]) e) U)
 (s q p o (iw .i64 (eT 0 b)) 0 k j i h g d c b f a e)
def Db(m:Nat)(u:I1)(v t:Js)(q:aa (T×Int))(p o n l k:Int)(j:Y8)(i h:Int)(g:Y8)(e:Int)(d:TL)(f:Int)(c b a:TL):Z80:=
 cond (ilt l n) (ac (jt m (T.mk h g e d)) λ s=>ac (zH m [105,110,118] [re s]) λ r=>cond (bD (X a+1) 56)
 (t q p o n (iw .i64 (aw l 1)) k j i h g e d f c b (a++[re r])) U) (u q p (iw .i64 (aw o 1)) k j i c b a)
def fx(m:Nat):=be λ a=>(Ds m a.1 a.2.1 a.2.2,Dd m a.1 a.2.1 a.2.2,Db m a.1 a.2.1 a.2.2)
def qP:Nat->(iU->Z80):=bc λ m _=>Dn m (fx m m).1 (fx m m).2.1 (fx m m).2.2
def CU(m:Nat)(b:qaY)(a:aa (T×Int)):Bo:=
 b a (X a) 0 []
def CO(m:Nat)(g:qaY)(d:aa (T×Int))(c b:Int)(a:aa (T×Int)):Bo:=
 cond (ilt b c) (ac (ao d b) λ e=>ac (jt m (re e.1)) λ f=>cond (bD (X a+1) 64) (g d c (iw .i64 (aw b 1)) (a++[(re f,e.2)])) U) (Z ((()),(a,())))
def sN(m:Nat):=be (CO m)
def DI:Nat->(iU->Bo):=bc λ m _=>CU m (sN m m)
def Kb(m:Nat)(a:T×Int):Z17:=
 cond (ilt a.2 (-1000)) (Z O) (Z (ilt 1000 a.2))
def CX:=bh Kb
def Cd(m:Nat)(b:qbx)(a:aa (T×Int)):Z8:=
 b a (X a) 0
def yR(m:Nat)(f:qbx)(c:aa (T×Int))(b a:Int):Z8:=
 cond (ilt a b) (ac (ao c a) λ d=>ac (CX m (re d.1,d.2)) λ e=>cond e (Z a) (f c b (iw .i64 (aw a 1)))) (Z (-1))
def wd(m:Nat):=be (yR m)
def Ci:Nat->qae:=bc λ m _=>Cd m (wd m m)
def JK(m:Nat)(b:aa (T×Int)):Z17:=
 ac (Ci m b) λ a=>Z (ile 0 a)
def Cc:=bh JK
def Kh(m:Nat)(a:aa (T×Int)):yj:=
 ac (Cc m a) λ b=>cond b (Z ([],7)) (cond (ilt 200 (X a)) (Z ([],3)) (Z (a,0)))
def DG:=bh Kh
def DE(m:Nat)(f:qan)(d a:aa (T×Int)):yj:=
 ac (wB m d) λ c=>cond (ap (ieq c 0)) (Z ([],c)) (ac (wB m a) λ b=>cond (ap (ieq b 0)) (Z ([],b)) (ac (DI m d) λ e=>
 f a (X a) 0 e.2.1))
def Dy(m:Nat)(h:qan)(d:aa (T×Int))(c a:Int)(b:aa (T×Int)):yj:=
 cond (ilt a c) (ac (ao d a) λ e=>ac (zm m b (re e.1,e.2)) λ g=>h d c (iw .i64 (aw a 1)) g.2.1) (ac (DG m b) λ f=>Z f)
def ti(m:Nat):=be (Dy m)
def Fs:Nat->(iU->iU->yj):=bc λ m _=>DE m (ti m m)
def qiu(m:Nat)(b:Y8)(a:TL):Z14:=
 Z (T.mk 3 b 0 a)
def Af:=bh qiu
def KF(m:Nat)(b l:T):Z80:=
 ac (tU m (re l)) λ a=>cond (ap (ieq a.2 0)) (Z (T.mk 0 [] 0 [],a.2)) (ac (ja m (re b) [101,120,112]) λ k=>cond k (ac (ao b.kids 1) λ j=>
 ac (tU m (re j)) λ f=>cond (ap (ieq f.2 0)) (Z (T.mk 0 [] 0 [],f.2)) (ac (Fs m f.1 a.1) λ c=>cond (ap (ieq c.2 0)) (Z (T.mk 0 [] 0 [],c.2))
 (ac (ao b.kids 0) λ h=>cond (ieq (X c.1) 0) (Z (re h,0)) (ac (qP m c.1) λ e=>cond (ap (ieq e.2 0)) (Z (T.mk 0 [] 0 [],e.2))
 (ac (Af m [101,120,112] [re h,re e.1]) λ i=>Z (re i,0)))))) (cond (ieq (X a.1) 0) (Z (re b,0)) (ac (qP m a.1) λ d=>cond (ap (ieq d.2 0))
 (Z (T.mk 0 [] 0 [],d.2)) (ac (Af m [101,120,112] [re b,re d.1]) λ g=>Z (re g,0)))))
def Fy:=bh KF
def Di(m:Nat)(a:Jm)(c:qbk)(b:T):Z80:=
 cond (ap (ieq b.kind 3)) (Z (re b,0)) (c b.kids (X b.kids) 0 b.kind b.name b.sort b.kids 0 [] 0 3 b.name 0 [] [])
def Dg(m:Nat)(a:Jm)(C:qbk)(s:TL)(r k z:Int)(c:Y8)(y:Int)(x:TL)(w:Int)(v:Y8)(u f:Int)(e:Y8)(d:Int)(l b:TL):Z80:=
 cond (ilt k r) (ac (ao s k) λ B=>ac (a (re B)) λ n=>cond (ap (ieq n.2 0)) (Z (T.mk 0 [] 0 [],n.2)) (cond (bD (X b+1) 56)
 (C s r (iw .i64 (aw k 1)) z c y x w v u f e d l (b++[re n.1])) U)) (let h:Z80:=(ac (zp m (T.mk f e d b)) λ A=>Z (re A,0));
 cond (bq c [102,115,116]) h (cond (bq c [115,110,100]) h (cond (bq c [100,101,99]) h (cond (bq c [97,100,101,99]) h (cond (bq c [111,112,101,110]) h (cond (bq c [114,101,97,100]) h (cond (bq c [120,111,114])
 (ac (HX m b) λ t=>Z (re t.1,t.2)) (let q:Z80:=(ac (tU m (T.mk f e d b)) λ g=>cond (ap (ieq g.2 0)) (Z (T.mk 0 [] 0 [],g.2))
 (ac (qP m g.1) λ j=>Z (re j.1,j.2)));cond (bq c [109,117,108]) q (cond (bq c [105,110,118]) q (cond (bq c [111,110,101]) q (cond (bq c [101,120,112])
 (ac (ao b 0) λ p=>ac (ao b 1) λ o=>ac (Fy m (re p) (re o)) λ i=>Z (re i.1,i.2)) (Z (T.mk f e d b,0)))))))))))))
def sX(m:Nat)(a:Jm):=be (Dg m a)
def lI:Nat->Jm:=bc λ m a=>Di m a (sX m a m)
def Kp(m:Nat)(d:T):Z80:=
 ac (zJ m (re d)) λ c=>cond (ap (ieq c 0)) (Z (T.mk 0 [] 0 [],c)) (ac (lI m (re d)) λ a=>cond (ieq a.2 0) (ac (fA m (re a.1)) λ b=>cond (ap (ieq b 0))
 (Z (T.mk 0 [] 0 [],b)) (Z (re a.1,0))) (cond (ap (ieq a.2 0)) (Z (T.mk 0 [] 0 [],a.2)) (Z (re a.1,0))))
def EO:=bh Kp
def Kk(m:Nat)(b:Y8):Z17:=
 ac (wE m b) λ a=>Z (ap (ieq a.2.2.2 3))
def D1:=bh Kk
def Cv(m:Nat)(a:Z25)(c:Z35)(b:T):Z17:=
 cond (ieq b.kind 3) (ac (D1 m b.name) λ d=>cond (ap d) (Z Y) (c b.kids (X b.kids) 0)) (c b.kids (X b.kids) 0)
def Cy(m:Nat)(a:Z25)(g:Z35)(d:TL)(c b:Int):Z17:=
 cond (ilt b c) (ac (ao d b) λ f=>ac (a (re f)) λ e=>cond (ap e) (Z Y) (g d c (iw .i64 (aw b 1)))) (Z O)
def qI(m:Nat)(a:Z25):=be (Cy m a)
def kP:Nat->Z25:=bc λ m a=>Cv m a (qI m a m)
def Kw(m:Nat)(a:T):Z17:=
 ac (EO m (re a)) λ b=>cond (ieq b.2 0) (ac (py m (re b.1) (re a)) λ d=>cond d (ac (kP m (re a)) λ c=>Z c) (Z Y)) (Z Y)
def zM:=bh Kw
def Eg(m:Nat)(b:qbA)(a:aa (T×T)):Z8:=
 cond (ilt 200 (X a)) (Z 3) (b a a (X a) 0)
def D7(m:Nat)(h:qbA)(e d:aa (T×T))(c b:Int):Z8:=
 cond (ilt b c) (ac (ao d b) λ a=>ac (fA m (re a.1)) λ g=>cond (ap (ieq g 0)) (Z g) (cond (ap (ieq a.1.kind 1)) (Z 1) (ac (cW m (re a.1) (re a.2)) λ l=>
 cond (ieq l 0) (Z 1) (ac (fA m (re a.2)) λ f=>cond (ap (ieq f 0)) (Z f) (ac (Ae m (re a.1) (re a.2)) λ k=>cond (ap k) (Z 10) (cond (ilt 0 b)
 (ac (ao e (iw .i64 (eT b 1))) λ j=>ac (cW m (re j.1) (re a.1)) λ i=>cond (ile 0 i) (Z 5) (h e d c (iw .i64 (aw b 1)))) (h e d c (iw .i64 (aw b 1))))))))) (Z 0)
def tD(m:Nat):=be (D7 m)
def wJ:Nat->(Z68->Z8):=bc λ m _=>Eg m (tD m m)
def wv(m:Nat)(i:PB)(j:Pv)(b:Int×(TL×(TL×(aa (T×(aa (Int×(T×(T×(Int×TL))))))))))(a:(Int×(aa Y8))×(Int×(Int×(Int×(Int×(aa (T×T))))))):Z8:=
 ac (zy m b) λ f=>cond (ap (ieq f 0)) (Z f) (ac (zo m b a.1) λ h=>cond (ap h)
 (Z 1) (cond (ilt a.2.1 0) (Z 1) (cond (ilt 99 a.2.1) (Z 1) (cond (ilt a.2.2.2.2.1 0) (Z 1) (cond (ilt a.2.2.1 1) (Z 1) (cond (ilt (X b.2.2.2) a.2.2.1) (Z 1) (let c:Z8:=
 (cond (ap (dj (ieq a.2.2.1 (X b.2.2.2)) (ieq a.2.2.2.1 2))) (Z 1) (ac (wJ m a.2.2.2.2.2) λ g=>cond (ap (ieq g 0)) (Z 1)
 (ac (tp m b a.2.2.1) λ e=>ac (tw m b a.1 a.2.1) λ d=>cond (ap (ieq d.2 0)) (Z 1)
 (cond (ap (ieq (X e.1) (X a.2.2.2.2.2))) (Z 1) (i e.1 d.1 a.2.2.2.2.2 (X a.2.2.2.2.2) 0 a.1.1 a.1.2 a.2.1 a.2.2.1 a.2.2.2.1 a.2.2.2.2.1 a.2.2.2.2.2)))));cond (ap (ieq a.2.2.2.1 1))
 (cond (ap (ieq a.2.2.2.1 2)) (cond (ap (ieq a.2.2.2.1 3)) (Z 1) c) c) c)))))))
def Dp(m:Nat)(t:PB)(s:Pv)(n:TL)(d l:aa (T×T))(k c j:Int)(i:aa (Y8))(h g f b:Int)(a:aa (T×T)):Z8:=
 cond (ilt c k) (ac (ao l c) λ e=>ac (ao n c) λ r=>ac (wH m (re e.1) (re r)) λ q=>cond (ap q) (Z 1) (ac (pH m (re e.2)) λ p=>cond (ilt 0 (X p))
 (Z 1) (ac (zM m (re e.2)) λ o=>cond (ap o) (Z 1) (t n d l k (iw .i64 (aw c 1)) j i h g f b a)))) (s d (X d) 0 j i h g f b a)
def Dv(m:Nat)(p:PB)(o:Pv)(d:aa (T×T))(c a l:Int)(k:aa (Y8))(j i h g:Int)(b:aa (T×T)):Z8:=
 cond (ilt a c) (ac (ao d a) λ f=>ac (wo m b (re f.1)) λ e=>cond (ap e.2) (Z 1) (ac (wH m (re e.1) (re f.2)) λ n=>cond (ap n) (Z 1)
 (o d c (iw .i64 (aw a 1)) l k j i h g b))) (Z 0)
def iq(m:Nat):=be λ a=>(Dp m a.1 a.2,Dv m a.1 a.2)
def tz:Nat->qsa:=bc λ m _=>wv m (iq m m).1 (iq m m).2
def qey(m:Nat)(c:Int×(TL×(TL×(aa (T×(aa (Int×(T×(T×(Int×TL))))))))))(b:(Int×(aa Y8))×(Int×(Int×(Int×(Int×(aa (T×T))))))):Z8:=
 ac (tz m c b) λ a=>cond (ap (ieq a 0)) (Z a)
 (cond (ap (ieq b.2.2.2.1 1)) (Z 9) (Z 0))
def Kx:=bh qey
def qev(m:Nat)(f:Int×(TL×(TL×(aa (T×(aa (Int×(T×(T×(Int×TL))))))))))(d:(Int×(aa Y8))×(Int×(Int×(Int×(Int×(aa (T×T)))))))(c:T):PI:=
 ac (Kx m f d) λ e=>cond (ap (ieq e 0))
 (Z (((0,[]),(0,(0,(0,(0,[]))))),[],e)) (ac (zM m (re c)) λ h=>cond (ap h) (Z (((0,[]),(0,(0,(0,(0,[]))))),[],10)) (ac (pH m (re c)) λ g=>
 cond (ilt 0 (X g)) (Z (((0,[]),(0,(0,(0,(0,[]))))),[],10)) (ac (Ag m f d
 (re c)) λ b=>cond (ap b.2.2) (ac (zr m d) λ a=>
 Z ((a.1,(a.2.1,(a.2.2.1,(a.2.2.2.1,(iw .i64 (aw a.2.2.2.2.1 1),a.2.2.2.2.2))))),[],11))
 (Z (b.1,b.2.1,0)))))
def KE:=bh qev
def qfL(m:Nat)(a:Int):(ab (Int×(aa Y8))):=
 Z (a,[[97],[98]])
def SY:=bh qfL
def qft(m:Nat)(c:Int×(TL×(TL×(aa (T×(aa (Int×(T×(T×(Int×TL))))))))))(a:(Int×(aa Y8))×(Int×(Int×(Int×(Int×(aa (T×T))))))):Z80:=
 ac (Kx m c a) λ b=>cond (ap (ieq b 0)) (Z (T.mk 0 [] 0 [],b))
 (ac (ao c.2.2.2 a.2.2.1) λ e=>ac (jr m a.2.2.2.2.2 (re e.1)) λ d=>Z (re d,0))
def SR:=bh qft
def Ku(m:Nat)(b a:Int):Z8:=
 cond (ilt b a) (Z (-1)) (cond (ilt a b) (Z 1) (Z 0))
def tM:=bh Ku
def EM(m:Nat)(a:Z9)(c:yp)(b:T):Z8:=
 c 1 0 b.kind b.name b.sort b.kids
def Ep(m:Nat)(a:Z9)(j:yp)(d c g:Int)(f:Y8)(e:Int)(b:TL):Z8:=
 cond (ilt c (X b)) (ac (ao b c) λ i=>ac (a (re i)) λ h=>j (iw .i64 (aw d h)) (iw .i64 (aw c 1)) g f e b) (Z d)
def tO(m:Nat)(a:Z9):=be (Ep m a)
def jx:Nat->Z9:=bc λ m a=>EM m a (tO m a m)
def De(m:Nat)(a:Z11)(j:qaL)(c b:T):Z8:=
 ac (jx m (re c)) λ i=>ac (jx m (re b)) λ h=>ac (tM m i h) λ g=>cond (ap (ieq g 0)) (Z g) (ac (tM m c.kind b.kind) λ f=>
 cond (ap (ieq f 0)) (Z f) (cond (slt c.name b.name) (Z (-1)) (cond (ap (rY (slt c.name b.name) (bq c.name b.name))) (Z 1) (ac (tM m c.sort b.sort) λ e=>cond (ap (ieq e 0))
 (Z e) (ac (tM m (X c.kids) (X b.kids)) λ d=>cond (ap (ieq d 0)) (Z d) (j 0 c.kind c.name c.sort c.kids b.kind b.name b.sort b.kids))))))
def Dq(m:Nat)(a:Z11)(o:qaL)(b k:Int)(j:Y8)(i:Int)(c:TL)(h:Int)(g:Y8)(f:Int)(d:TL):Z8:=
 cond (ilt b (X c)) (ac (ao c b) λ n=>ac (ao d b) λ l=>ac (a (re n) (re l)) λ e=>cond (ap (ieq e 0)) (Z e) (o (iw .i64 (aw b 1)) k j i c h g f d))
 (Z 0)
def sY(m:Nat)(a:Z11):=be (Dq m a)
def jY:Nat->Z11:=bc λ m a=>De m a (sY m a m)
def K0(m:Nat)(c b:T):Z17:=
 ac (jY m (re c) (re b)) λ a=>Z (ieq a 0)
def jy:=bh K0
def qgk(m:Nat)(c:Int×(TL×(TL×(aa (T×(aa (Int×(T×(T×(Int×TL))))))))))(a:(Int×(aa Y8))×(Int×(Int×(Int×(Int×(aa (T×T))))))):Z17:=
 ac (tz m c a) λ b=>cond (ieq b 0) (Z (ieq a.2.2.2.1 2)) (Z Y)
def Lo:=bh qgk
def qix(m:Nat)(b:Y8)(a:Int):Z14:=
 Z (T.mk 2 b a [])
def uq:=bh qix
def qka(m:Nat)(b:Y8)(a:TL):Z14:=
 cond (bD (X ([]:TL)+X a) 56) (jE a (Z (T.mk 3 b 0 [])) λ d c=>Z (T.mk 3 b 0 ([]++(d::c)))) U
def ux:=bh qka
def qjn(m:Nat)(b:Y8)(a:Int):Z14:=
 Z (T.mk 1 b a [])
def Gt:=bh qjn
def qfZ(m:Nat):qr9:=
 ac (Gt m [65] 1) λ b=>ac (Gt m [110] 2) λ a=>ac (ux m [112,97,105,114] [re a,re b]) λ e=>ac (Gt m [66] 1) λ d=>
 ac (ux m [104,97,115,104] [re a]) λ c=>Z (0,([re b,re d],([re a],[(T.mk 0 [] 0 [],[(2,(re e,(T.mk 0 [] 0 [],(0,[]))))]),(re c,[])])))
def S3:=bh qfZ
def qhE(m:Nat):Z17:=
 ac (S3 m) λ b=>ac (uq m [110,35,49] 2) λ f=>ac (uq m [110,35,50] 2) λ u=>ac (SY m 0) λ t=>
 ac (wD m b t 1) λ a=>ac (SR m b
 a.1) λ q=>ac (ux m [104,97,115,104] [re u]) λ s=>
 ac (KE m b a.1 (re s)) λ d=>
 ac (ux m [104,97,115,104] [re f]) λ r=>ac (KE m b
 a.1 (re r)) λ c=>let j1:Z17:=(Z Y);
 cond (ap (ieq a.2.2 0)) j1 (cond (ap (ieq q.2 0)) j1 (cond (ap (ieq d.2.2 11)) j1 (cond (ap (ieq c.2.2 0)) j1 (cond (ap (ieq (X a.2.1) 1)) j1 (ac (ao a.2.1 0) λ p=>
 cond (ap (ieq (X p.2.2) 1)) j1 (ac (ao a.2.1 0) λ o=>ac (ao o.2.2 0) λ n=>ac (uq m [97] 1) λ l=>ac (ux m [112,97,105,114] [re f,re l]) λ k=>
 ac (jy m (re n) (re k)) λ j=>cond j (ac (ux m [104,97,115,104] [re f]) λ i=>ac (jy m (re q.1) (re i)) λ h=>cond h (cond (ieq d.1.2.2.2.2.1 1)
 (ac (Lo m b c.1) λ g=>
 cond g (ac (Lo m b d.1) λ e=>Z (ap e)) j1) j1) j1) j1))))))
def zQ:=bh qhE
def DB(m:Nat)(a:I3)(d:yp)(b:T)(c:Int):Z8:=
 cond (ile c 0) (Z (-1)) (cond (ilt 40 (X b.name)) (Z (-1)) (d (iw .i64 (eT c 1)) 0 b.kind b.name b.sort b.kids))
def DF(m:Nat)(a:I3)(j:yp)(d c h:Int)(g:Y8)(f:Int)(b:TL):Z8:=
 cond (ilt c (X b)) (ac (ao b c) λ i=>ac (a (re i) d) λ e=>cond (ilt e 0) (Z (-1)) (j e (iw .i64 (aw c 1)) h g f b)) (Z d)
def tk(m:Nat)(a:I3):=be (DF m a)
def lJ:Nat->I3:=bc λ m a=>DB m a (tk m a m)
def Fa(m:Nat)(d:Z35)(a:TL)(c b:Int):Z17:=
 cond (ilt c (X a)) (Z Y) (d a b 0)
def Ft(m:Nat)(f:Z35)(b:TL)(d a:Int):Z17:=
 cond (ilt a (X b)) (ac (ao b a) λ e=>ac (lJ m (re e) d) λ c=>cond (ilt c 0) (Z Y) (f b c (iw .i64 (aw a 1)))) (Z O)
def tV(m:Nat):=be (Ft m)
def An:Nat->(TL->Int->Int->Z17):=bc λ m _=>Fa m (tV m m)
def tF(m:Nat)(b:Pl)(g:PP)(a:Int×(TL×(TL×(aa (T×(aa (Int×(T×(T×(Int×TL)))))))))):Z17:=
 cond (ilt 6 (X a.2.1)) (Z Y) (cond (ilt 6 (X a.2.2.1)) (Z Y) (cond (ilt 14 (X a.2.2.2)) (Z Y) (cond (bD (X ([]:TL)+X a.2.1) 56)
 (jE a.2.1 (cond (bD (X ([]:TL)+X a.2.2.1) 56) (jE a.2.2.1 (b 0 0 a.1 a.2.1 a.2.2.1 a.2.2.2 []) λ f e=>
 b 0 0 a.1 a.2.1 a.2.2.1 a.2.2.2 ([]++(f::e))) U) λ d c=>cond (bD (X ([]++(d::c))+X a.2.2.1) 56)
 (b 0 0 a.1 a.2.1 a.2.2.1 a.2.2.2 (([]++(d::c))++a.2.2.1)) U) U)))
def zF(m:Nat)(l:Pl)(k:PP)(d b g:Int)(f e:TL)(a:aa (T×(aa (Int×(T×(T×(Int×TL)))))))(c:TL):Z17:=
 cond (ilt b (X a)) (ac (ao a b) λ j=>cond (bD (X c+1) 56) (ac (ao a b) λ i=>k (iw .i64 (aw d (X i.2))) b 0 g f e a (c++[re j.1])) U) (cond (ile d 40)
 (ac (An m c 200 500) λ h=>Z h) (Z Y))
def wI(m:Nat)(j:Pl)(n:PP)(i d e h:Int)(g f:TL)(c:aa (T×(aa (Int×(T×(T×(Int×TL)))))))(b:TL):Z17:=
 ac (ao c d) λ l=>cond (ilt e (X l.2)) (cond (ilt e 30) (ac (ao c d) λ k=>ac (ao k.2 e) λ a=>cond (bD (X b+1) 56)
 (cond (bD (X (b++[re a.2.1])+1) 56) (cond (bD (X ((b++[re a.2.1])++[re a.2.2.1])+X a.2.2.2.2) 56)
 (n i d (iw .i64 (aw e 1)) h g f c (((b++[re a.2.1])++[re a.2.2.1])++a.2.2.2.2)) U) U) U) (j i (iw .i64 (aw d 1)) h g f c b)) (j i (iw .i64 (aw d 1)) h g f c b)
def ke(m:Nat):=be λ a=>(zF m a.1 a.2,wI m a.1 a.2)
def xb:Nat->Z58:=bc λ m _=>tF m (ke m m).1 (ke m m).2
def Fw(m:Nat)(d:qbK)(c:aa (T×T))(b a:Int):Z17:=
 d c b a 0 []
def Fm(m:Nat)(i:qbK)(b:aa (T×T))(e d a:Int)(c:TL):Z17:=
 cond (ilt a (X b)) (ac (ao b a) λ h=>ac (ao b a) λ g=>cond (bD (X c+2) 56) (i b e d (iw .i64 (aw a 1)) (c++[re h.1,re g.2])) U)
 (ac (An m c (iw .i64 (qs 2 e)) d) λ f=>Z f)
def tW(m:Nat):=be (Fm m)
def GP:Nat->(Z68->Int->Int->Z17):=bc λ m _=>Fw m (tW m m)
def C3(m:Nat)(b:qaS)(a:(Int×(aa Y8))×(Int×(Int×(Int×(Int×(aa (T×T))))))):Z17:=
 b 0 0 a.1.1 a.1.2 a.2.1 a.2.2.1 a.2.2.2.1 a.2.2.2.2.1 a.2.2.2.2.2
def wu(m:Nat)(l:qaS)(d b i:Int)(a:aa (Y8))(h g f e:Int)(c:aa (T×T)):Z17:=
 cond (ilt b (X a)) (ac (ao a b) λ k=>l (iw .i64 (aw d (X k))) (iw .i64 (aw b 1)) i a h g f e c) (cond (ile (X a) 8) (cond (ile d 200) (ac (GP m c 30 300) λ j=>
 Z j) (Z Y)) (Z Y))
def sQ(m:Nat):=be (wu m)
def wA:Nat->(Z84->Z17):=bc λ m _=>C3 m (sQ m m)
def Fp(m:Nat)(a:Z21)(c:qbn)(b:T):Z20:=
 c 0 b.kind b.name b.sort b.kids [re b]
def EW(m:Nat)(a:Z21)(j:qbn)(d h:Int)(g:Y8)(f:Int)(c b:TL):Z20:=
 cond (ilt d (X c)) (ac (ao c d) λ i=>ac (a (re i)) λ e=>cond (bD (X b+X e) 56) (j (iw .i64 (aw d 1)) h g f c (b++e)) U) (Z b)
def ui(m:Nat)(a:Z21):=be (EW m a)
def kU:Nat->Z21:=bc λ m a=>Fp m a (ui m a m)
def EV(m:Nat)(c:ZT)(b:TL)(a:T):Z20:=
 c b Y 0 a.kind a.name a.sort a.kids []
def Fg(m:Nat)(i:ZT)(c:TL)(h:Bool)(b g:Int)(f:Y8)(e:Int)(d a:TL):Z20:=
 cond (ilt b (X c)) (ac (ao c b) λ o=>ac (jY m (T.mk g f e d) (re o)) λ j=>let j1:Z20:=(ac (ao c b) λ k=>cond (bD (X a+1) 56)
 (i c h (iw .i64 (aw b 1)) g f e d (a++[re k])) U);cond (ap h) (cond (ile j 0) (cond (ilt j 0) (cond (bD (X a+1) 56) (ac (ao c b) λ n=>
 cond (bD (X (a++[T.mk g f e d])+1) 56) (i c O (iw .i64 (aw b 1)) g f e d ((a++[T.mk g f e d])++[re n])) U) U) (ac (ao c b) λ l=>
 cond (bD (X a+1) 56) (i c O (iw .i64 (aw b 1)) g f e d (a++[re l])) U)) j1) j1) (cond (ap h) (cond (bD (X a+1) 56) (Z (a++[T.mk g f e d])) U) (Z a))
def tZ(m:Nat):=be (Fg m)
def GN:Nat->(TL->T->Z20):=bc λ m _=>EV m (tZ m m)
def Fo(m:Nat)(b:qbE)(a:TL):Z20:=
 b a [] 0
def Fl(m:Nat)(f:qbE)(b c:TL)(a:Int):Z20:=
 cond (ilt a (X b)) (ac (ao b a) λ e=>ac (GN m c (re e)) λ d=>f b d (iw .i64 (aw a 1))) (Z c)
def ub(m:Nat):=be (Fl m)
def Ap:Nat->BG:=bc λ m _=>Fo m (ub m m)
def Eu(m:Nat)(d:qaC)(c:T)(b:Int):Z20:=
 ac (kU m (re c)) λ a=>d b a 0 []
def ET(m:Nat)(e:qaC)(d:Int)(b:TL)(a:Int)(c:TL):Z20:=
 cond (ilt a (X b)) (ac (ao b a) λ h=>cond (ieq h.kind d) (ac (ao b a) λ g=>cond (bD (X c+1) 56) (e d b (iw .i64 (aw a 1)) (c++[re g])) U)
 (e d b (iw .i64 (aw a 1)) c)) (ac (Ap m c) λ f=>Z f)
def tJ(m:Nat):=be (ET m)
def Gc:Nat->(T->Int->Z20):=bc λ m _=>Eu m (tJ m m)
def La(m:Nat)(b:T):Z20:=
 ac (Gc m (re b) 1) λ a=>Z a
def pB:=bh La
def qfK(m:Nat):qsc:=
 Z [([112,97,105,114],(2,(2,1))),([101,110,99],(2,(2,1))),([97,101,110,99],(2,(2,1))),([112,107],(1,(1,1))),([115,105,103,110],(2,(2,1))),([104,97,115,104],(1,(1,1))),([120,111,114],(2,(8,1))),([122,101,114,111],(0,(0,1))),([101,120,112],(2,(2,1))),([109,117,108],(2,(8,1))),([105,110,118],(1,(1,1))),([111,110,101],(0,(0,1))),([115,107],(1,(1,2))),([115,104,107],(2,(2,2))),([110,101,119],(1,(8,2))),([102,115,116],(1,(1,3))),([115,110,100],(1,(1,3))),([100,101,99],(2,(2,3))),([97,100,101,99],(2,(2,3))),([111,112,101,110],(2,(2,3))),([114,101,97,100],(1,(1,3)))]
def K6:=bh qfK
def Et(m:Nat)(c:qa9)(b:Y8):Z8:=
 ac (K6 m) λ a=>c b a 0
def EK(m:Nat)(f:qa9)(c:Y8)(b:aa (Y8×(Int×(Int×Int))))(a:Int):Z8:=
 cond (ilt a (X b)) (ac (ao b a) λ e=>cond (bq e.1 c) (ac (ao b a) λ d=>Z d.2.2.2) (f c b (iw .i64 (aw a 1)))) (Z 0)
def tI(m:Nat):=be (EK m)
def Ac:Nat->(Y8->Z8):=bc λ m _=>Et m (tI m m)
def KA(m:Nat)(a:Int):Z17:=
 let b:Z17:=(cond (ile 65 a) (Z (ile a 90)) (Z Y));cond (ile 97 a) (cond (ile a 122) (Z O) b) b
def zK:=bh KA
def KJ(m:Nat)(a:Int):Z17:=
 cond (ile 48 a) (Z (ile a 57)) (Z Y)
def FG:=bh KJ
def DJ(m:Nat)(d:qaV)(a:Y8):Z17:=
 cond (ieq (X a) 0) (Z Y) (cond (ilt 24 (X a)) (Z Y) (ac (ao a 0) λ c=>ac (zK m ((UInt8.toNat c:Nat):Int)) λ b=>cond (ap b) (Z Y) (d a 0)))
def DD(m:Nat)(i:qaV)(b:Y8)(a:Int):Z17:=
 cond (ilt a (X b)) (ac (ao b a) λ h=>ac (zK m ((UInt8.toNat h:Nat):Int)) λ g=>let j1:Z17:=(i b (iw .i64 (aw a 1)));cond (ap g) (ac (ao b a) λ f=>
 ac (FG m ((UInt8.toNat f:Nat):Int)) λ e=>cond (ap e) (ac (ao b a) λ d=>cond (ap (ieq ((UInt8.toNat d:Nat):Int) 95)) (ac (ao b a) λ c=>
 cond (ap (ieq ((UInt8.toNat c:Nat):Int) 35)) (Z Y) j1) j1) j1) j1) (Z O)
def tj(m:Nat):=be (DD m)
def tT:Nat->Z34:=bc λ m _=>DJ m (tj m m)
def Lf(m:Nat)(a:T):Z8:=
 let d:Z8:=(ac (tT m a.name) λ e=>cond (ap e) (Z 2) (cond (ilt 8 (X a.kids)) (Z 3) (Z 0)));let j2:Z8:=(cond (ilt 0 (X a.kids)) (Z 1) d);cond (ieq a.kind 1)
 (cond (ilt a.sort 0) (Z 1) (cond (ilt 5 a.sort) (Z 1) j2)) (let c:Z8:=(cond (ilt a.sort 0) (Z 1) (cond (ilt 5 a.sort) (Z 1) (let b:Z8:=(cond (ieq a.kind 2) j2 d);
 cond (ap (ieq a.kind 2)) (cond (ap (ieq a.sort 0)) (Z 1) b) b)));cond (ap (ieq a.kind 2)) (cond (ap (ieq a.kind 3)) (Z 1) c) c)
def Gg:=bh Lf
def Eb(m:Nat)(a:Z9)(d:Jn)(b:T):Z8:=
 ac (Gg m (re b)) λ c=>cond (ap (ieq c 0)) (Z c) (d 0 b.kind b.name b.sort b.kids)
def D0(m:Nat)(a:Z9)(i:Jn)(c g:Int)(f:Y8)(e:Int)(b:TL):Z8:=
 cond (ilt c (X b)) (ac (ao b c) λ h=>ac (a (re h)) λ d=>cond (ap (ieq d 0)) (Z d) (i (iw .i64 (aw c 1)) g f e b)) (Z 0)
def tq(m:Nat)(a:Z9):=be (D0 m a)
def lM:Nat->Z9:=bc λ m a=>Eb m a (tq m a m)
def Ea(m:Nat)(a:Z9)(c:yp)(b:T):Z8:=
 c 0 0 b.kind b.name b.sort b.kids
def Ef(m:Nat)(a:Z9)(j:yp)(d c g:Int)(f:Y8)(e:Int)(b:TL):Z8:=
 cond (ilt c (X b)) (ac (ao b c) λ i=>ac (a (re i)) λ h=>j (pb d h) (iw .i64 (aw c 1)) g f e b) (Z (iw .i64 (aw d 1)))
def tv(m:Nat)(a:Z9):=be (Ef m a)
def lL:Nat->Z9:=bc λ m a=>Ea m a (tv m a m)
def KP(m:Nat)(a:T):Z8:=
 ac (lM m (re a)) λ b=>cond (ap (ieq b 0)) (Z b) (ac (jx m (re a)) λ d=>cond (ilt 400 d) (Z 3) (ac (lL m (re a)) λ c=>cond (ilt 40 c) (Z 3) (Z 0)))
def uf:=bh KP
def EI(m:Nat)(c:qbj)(a:T):Z17:=
 ac (K6 m) λ b=>c b 0 a.kind a.name a.sort a.kids
def EE(m:Nat)(j:qbj)(b:aa (Y8×(Int×(Int×Int))))(a f:Int)(d:Y8)(e:Int)(c:TL):Z17:=
 cond (ilt a (X b)) (ac (ao b a) λ i=>cond (bq i.1 d) (ac (ao b a) λ h=>cond (ile h.2.1 (X c)) (ac (ao b a) λ g=>Z (ile (X c) g.2.2.1)) (Z Y))
 (j b (iw .i64 (aw a 1)) f d e c)) (Z Y)
def tN(m:Nat):=be (EE m)
def F2:Nat->Z25:=bc λ m _=>EI m (tN m m)
def DS(m:Nat)(c:qbM)(a:T):Z17:=
 cond (bq a.name [110,101,119]) (ac (ao a.kids 0) λ b=>Z (ieq b.kind 2)) (c 0 a.kind a.name a.sort a.kids)
def DR(m:Nat)(h:qbM)(b e:Int)(d:Y8)(c:Int)(a:TL):Z17:=
 cond (ilt b (X a)) (ac (ao a b) λ g=>cond (ieq g.kind 3) (Z Y) (ac (ao a b) λ f=>cond (ap (ieq f.sort 1)) (Z Y) (h (iw .i64 (aw b 1)) e d c a))) (Z O)
def tf(m:Nat):=be (DR m)
def E8:Nat->Z25:=bc λ m _=>DS m (tf m m)
def Ei(m:Nat)(b:Z9)(d:Jn)(a:T):Z8:=
 cond (ap (ieq a.kind 3)) (Z 0) (ac (Ac m a.name) λ c=>cond (ieq c 0) (Z 10) (ac (F2 m (re a)) λ f=>cond (ap f) (Z 6) (cond (ieq c 2)
 (ac (E8 m (re a)) λ e=>cond (ap e) (Z 10) (d 0 a.kind a.name a.sort a.kids)) (d 0 a.kind a.name a.sort a.kids))))
def D5(m:Nat)(a:Z9)(i:Jn)(c g:Int)(f:Y8)(e:Int)(b:TL):Z8:=
 cond (ilt c (X b)) (ac (ao b c) λ h=>ac (a (re h)) λ d=>cond (ap (ieq d 0)) (Z d) (i (iw .i64 (aw c 1)) g f e b)) (Z 0)
def qO(m:Nat)(a:Z9):=be (D5 m a)
def kT:Nat->Z9:=bc λ m a=>Ei m a (qO m a m)
def KI(m:Nat)(b:T):Z8:=
 ac (uf m (re b)) λ a=>cond (ap (ieq a 0)) (Z a) (ac (kT m (re b)) λ c=>Z c)
def FV:=bh KI
def Kd(m:Nat)(a:Y8):Z17:=
 cond (bq a [120,111,114]) (Z O) (cond (bq a [122,101,114,111]) (Z O) (cond (bq a [101,120,112]) (Z O) (cond (bq a [109,117,108]) (Z O) (cond (bq a [105,110,118])
 (Z O) (Z (bq a [111,110,101]))))))
def DQ:=bh Kd
def Eo(m:Nat)(d:yq)(a:T):Z17:=
 ac (FV m (re a)) λ c=>cond (ap (ieq c 0)) (Z Y) (ac (kU m (re a)) λ b=>d b 0)
def EQ(m:Nat)(c:yq)(b:TL)(a:Int):Z17:=
 cond (ilt a (X b)) (ac (ao b a) λ h=>cond (ieq h.kind 3) (ac (ao b a) λ g=>ac (DQ m g.name) λ f=>cond f (Z Y) (ac (ao b a) λ e=>
 ac (Ac m e.name) λ d=>cond (ieq d 3) (Z Y) (c b (iw .i64 (aw a 1))))) (c b (iw .i64 (aw a 1)))) (Z O)
def tG(m:Nat):=be (EQ m)
def Ge:Nat->Z25:=bc λ m _=>Eo m (tG m m)
def ER(m:Nat)(e:yq)(a:T):Z17:=
 ac (Ge m (re a)) λ d=>cond (ap d) (Z Y) (ac (jx m (re a)) λ c=>cond (ilt 60 c) (Z Y) (ac (pB m (re a)) λ b=>e b 0))
def EG(m:Nat)(d:yq)(b:TL)(a:Int):Z17:=
 cond (ilt a (X b)) (ac (ao b a) λ c=>cond (ieq c.sort 5) (Z Y) (d b (iw .i64 (aw a 1)))) (Z O)
def tP(m:Nat):=be (EG m)
def ul:Nat->Z25:=bc λ m _=>ER m (tP m m)
def EZ(m:Nat)(c:qbm)(b:TL)(a:T):Z17:=
 c b 0 a.kind a.name a.sort a.kids
def FA(m:Nat)(i:qbm)(b:TL)(a f:Int)(e:Y8)(d:Int)(c:TL):Z17:=
 cond (ilt a (X b)) (ac (ao b a) λ h=>ac (jy m (re h) (T.mk f e d c)) λ g=>cond g (Z O) (i b (iw .i64 (aw a 1)) f e d c)) (Z Y)
def uc(m:Nat):=be (FA m)
def ur:Nat->(TL->T->Z17):=bc λ m _=>EZ m (uc m m)
def DC(m:Nat)(d:Jg)(c:T)(b:TL):Z17:=
 ac (pB m (re c)) λ a=>d b a 0
def DV(m:Nat)(f:Jg)(c b:TL)(a:Int):Z17:=
 cond (ilt a (X b)) (ac (ao b a) λ e=>ac (ur m c (re e)) λ d=>cond (ap d) (Z Y) (f c b (iw .i64 (aw a 1)))) (Z O)
def tl(m:Nat):=be (DV m)
def Fj:Nat->(T->TL->Z17):=bc λ m _=>DC m (tl m m)
def Fb(m:Nat)(h o:Qe)(a:Int×(T×(T×(Int×TL))))(b:TL):yk:=
 let g:yk:=(ac (ul m (re a.2.1)) λ n=>cond (ap n) (Z ((()),([],10,()))) (ac (ul m (re a.2.2.1)) λ l=>cond (ap l) (Z ((()),([],10,())))
 (cond (ap (ieq a.2.1.kind 1)) (Z ((()),([],13,()))) (ac (ur m b (re a.2.1)) λ k=>cond (ap k) (Z ((()),([],13,()))) (cond (bD (X ([]:TL)+X b) 56)
 (jE b (ac (pB m (re a.2.2.1)) λ c=>cond (bD (X ([]:TL)+X c) 56) (jE c (Z ((()),([],0,()))) λ j i=>
 Z ((()),([]++(j::i),0,()))) U) λ f e=>ac (pB m (re a.2.2.1)) λ d=>cond (bD (X ([]++(f::e))+X d) 56)
 (Z ((()),(([]++(f::e))++d,0,()))) U) U)))));cond (ieq a.1 2) (cond (ieq a.1 1) g (h [re a.2.1] 0 b)) (cond (ieq a.1 1) g (h a.2.2.2.2 0 b))
def Fx(m:Nat)(g f:Qe)(a:TL)(b:Int)(c:TL):yk:=
 cond (ilt b (X a)) (ac (ao a b) λ e=>ac (ul m (re e)) λ d=>cond (ap d) (Z ((()),([],10,()))) (g a (iw .i64 (aw b 1)) c)) (f a 0 c)
def E6(m:Nat)(g f:Qe)(c:TL)(b:Int)(a:TL):yk:=
 cond (ilt b (X c)) (ac (ao c b) λ e=>ac (Fj m (re e) a) λ d=>cond (ap d) (Z ((()),([],13,()))) (f c (iw .i64 (aw b 1)) a)) (Z ((()),(a,0,())))
def iL(m:Nat):=be λ a=>(Fx m a.1 a.2,E6 m a.1 a.2)
def Gq:Nat->((Int×(T×(T×(Int×TL))))->Z3->yk):=bc λ m _=>Fb m (iL m m).1 (iL m m).2
def DX(m:Nat)(c:Pc)(h:PS)(a:Int×(TL×(TL×(aa (T×(aa (Int×(T×(T×(Int×TL))))))))))(b:Int):Z50:=
 cond (bD (X ([]:TL)+X a.2.1) 56) (jE a.2.1 (cond (bD (X ([]:TL)+X a.2.2.1) 56)
 (jE a.2.2.1 (c b 0 a.1 a.2.1 a.2.2.1 a.2.2.2 []) λ g f=>c b 0 a.1 a.2.1 a.2.2.1 a.2.2.2 ([]++(g::f))) U) λ e d=>cond (bD (X ([]++(e::d))+X a.2.2.1) 56)
 (c b 0 a.1 a.2.1 a.2.2.1 a.2.2.2 (([]++(e::d))++a.2.2.1)) U) U
def DY(m:Nat)(o:Pc)(i:PS)(d a g:Int)(f e:TL)(c:aa (T×(aa (Int×(T×(T×(Int×TL)))))))(b:TL):Z50:=
 cond (ilt a d) (cond (ilt 0 a) (ac (ao c a) λ n=>ac (ul m (re n.1)) λ l=>cond (ap l) (Z ([],10)) (ac (ao c a) λ k=>ac (pB m (re k.1)) λ h=>
 cond (bD (X b+X h) 56) (i d a 0 g f e c (b++h)) U)) (i d a 0 g f e c b)) (ac (Ap m b) λ j=>Z (j,0))
def DZ(m:Nat)(o:Pc)(n:PS)(j b d i:Int)(h g:TL)(a:aa (T×(aa (Int×(T×(T×(Int×TL)))))))(f:TL):Z50:=
 ac (ao a b) λ l=>cond (ilt d (X l.2)) (ac (ao a b) λ k=>ac (ao k.2 d) λ c=>ac (Gq m (c.1,(re c.2.1,(re c.2.2.1,c.2.2.2))) f) λ e=>
 cond (ap (ieq e.2.2.1 0)) (Z ([],e.2.2.1)) (n j b (iw .i64 (aw d 1)) i h g a e.2.1)) (o j (iw .i64 (aw b 1)) i h g a f)
def gQ(m:Nat):=be λ a=>(DY m a.1 a.2,DZ m a.1 a.2)
def FD:Nat->Z54:=bc λ m _=>DX m (gQ m m).1 (gQ m m).2
def C0(m:Nat)(b:yq)(a:TL):Z17:=
 b a 0
def C6(m:Nat)(h:yq)(b:TL)(a:Int):Z17:=
 cond (ilt a (X b)) (ac (ao b a) λ g=>cond (ap (ieq g.kind 1)) (Z Y) (ac (ao b a) λ f=>ac (uf m (re f)) λ e=>cond (ap (ieq e 0)) (Z Y)
 (cond (inb a (X b)) (cond (inb 0 (Int.toNat a)) (ac (ao b a) λ d=>ac (ur m (gq b 0 a) (re d)) λ c=>cond c (Z Y) (h b (iw .i64 (aw a 1)))) U) U))) (Z O)
def sR(m:Nat):=be (C6 m)
def th:Nat->(TL->Z17):=bc λ m _=>C0 m (sR m m)
def CW(m:Nat)(j k:yy)(a:Int×(TL×(TL×(aa (T×(aa (Int×(T×(T×(Int×TL)))))))))):Z17:=
 cond (bD (X ([]:TL)+X a.2.1) 56) (let b:Z17:=(j 0 a.1 a.2.1 a.2.2.1 a.2.2.2);jE a.2.1 (cond (bD (X ([]:TL)+X a.2.2.1) 56)
 (jE a.2.2.1 (ac (th m []) λ e=>cond (ap e) (Z Y) b) λ h g=>ac (th m ([]++(h::g))) λ f=>cond (ap f) (Z Y) b) U) λ d c=>
 cond (bD (X ([]++(d::c))+X a.2.2.1) 56) (ac (th m (([]++(d::c))++a.2.2.1)) λ i=>cond (ap i) (Z Y) b) U) U
def CR(m:Nat)(h g:yy)(b e:Int)(a d:TL)(c:aa (T×(aa (Int×(T×(T×(Int×TL))))))):Z17:=
 cond (ilt b (X a)) (ac (ao a b) λ f=>cond (ap (ieq f.sort 1)) (Z Y) (h (iw .i64 (aw b 1)) e a d c)) (g 0 e a d c)
def CP(m:Nat)(i h:yy)(b e:Int)(d a:TL)(c:aa (T×(aa (Int×(T×(T×(Int×TL))))))):Z17:=
 cond (ilt b (X a)) (ac (ao a b) λ g=>cond (ieq g.sort 1) (Z Y) (ac (ao a b) λ f=>cond (ieq f.sort 5) (Z Y) (h (iw .i64 (aw b 1)) e d a c))) (Z O)
def js(m:Nat):=be λ a=>(CR m a.1 a.2,CP m a.1 a.2)
def DH:Nat->Z58:=bc λ m _=>CW m (js m m).1 (js m m).2
def Li(m:Nat)(a:T):Z17:=
 cond (ieq a.kind 0) (cond (bq a.name []) (cond (ieq a.sort 0) (Z (ieq (X a.kids) 0)) (Z Y)) (Z Y)) (Z Y)
def pA:=bh Li
def KO(m:Nat)(a:Int×(T×(T×(Int×TL)))):Z17:=
 let c:Z17:=(cond (ieq a.2.2.2.1 0) (Z (ieq (X a.2.2.2.2) 0)) (Z Y));cond (ieq a.1 1) c (cond (ieq a.1 2) (ac (pA m (re a.2.2.1)) λ f=>cond f c (Z Y)) (let b:Z17:=
 (ac (pA m (re a.2.1)) λ e=>cond e (ac (pA m (re a.2.2.1)) λ d=>cond d (Z (ile 0 a.2.2.2.1)) (Z Y)) (Z Y));cond (ieq a.1 3) b (cond (ieq a.1 4) b (Z Y))))
def FT:=bh KO
def DK(m:Nat)(d:yy)(e:PV)(a:Int×(TL×(TL×(aa (T×(aa (Int×(T×(T×(Int×TL)))))))))):Z17:=
 cond (ieq (X a.2.2.2) 0) (Z Y) (cond (ilt 12 (X a.2.2.2)) (Z Y) (ac (ao a.2.2.2 0) λ c=>ac (pA m (re c.1)) λ b=>cond (ap b) (Z Y)
 (d 0 a.1 a.2.1 a.2.2.1 a.2.2.2)))
def DT(m:Nat)(h:yy)(g:PV)(b e:Int)(d c:TL)(a:aa (T×(aa (Int×(T×(T×(Int×TL))))))):Z17:=
 cond (ilt b (X a)) (ac (ao a b) λ f=>cond (ilt 20 (X f.2)) (Z Y) (g b 0 e d c a)) (Z O)
def DW(m:Nat)(l:yy)(k:PV)(b d g:Int)(f e:TL)(a:aa (T×(aa (Int×(T×(T×(Int×TL))))))):Z17:=
 ac (ao a b) λ j=>cond (ilt d (X j.2)) (ac (ao a b) λ i=>ac (ao i.2 d) λ c=>ac (FT m (c.1,(re c.2.1,(re c.2.2.1,c.2.2.2)))) λ h=>
 cond (ap h) (Z Y) (k b (iw .i64 (aw d 1)) g f e a)) (l (iw .i64 (aw b 1)) g f e a)
def jX(m:Nat):=be λ a=>(DT m a.1 a.2,DW m a.1 a.2)
def Fc:Nat->Z58:=bc λ m _=>DK m (jX m m).1 (jX m m).2
def KW(m:Nat)(a:Int×(TL×(TL×(aa (T×(aa (Int×(T×(T×(Int×TL)))))))))):Z8:=
 cond (ilt a.1 0) (Z 7) (cond (ile 4 a.1) (Z 7) (cond (ilt (X a.2.1) 2) (Z 7) (cond (ilt 4 (X a.2.1)) (Z 7) (cond (ile (X a.2.1) a.1) (Z 7)
 (ac (DH m a) λ d=>cond (ap d) (Z 1) (ac (Fc m a) λ c=>cond (ap c) (Z 1)
 (ac (FD m a (X a.2.2.2)) λ b=>Z b.2)))))))
def FE:=bh KW
def EC(m:Nat)(c:OX)(d:OZ)(b:Int×(TL×(TL×(aa (T×(aa (Int×(T×(T×(Int×TL))))))))))(a:Int×(aa Y8)):Z17:=
 cond (ap (ieq a.1 b.1)) (Z Y) (cond (ap (ieq (X a.2) (X b.2.1))) (Z Y) (c 0 a.1 a.2))
def EF(m:Nat)(g:OX)(f:OZ)(b c:Int)(a:aa (Y8)):Z17:=
 cond (ilt b (X a)) (ac (ao a b) λ e=>ac (tT m e) λ d=>cond (ap d) (Z Y) (f b 0 c a)) (Z O)
def EU(m:Nat)(h:OX)(g:OZ)(b c d:Int)(a:aa (Y8)):Z17:=
 cond (ilt c b) (ac (ao a c) λ f=>ac (ao a b) λ e=>cond (bq f e) (Z Y) (g b (iw .i64 (aw c 1)) d a)) (h (iw .i64 (aw b 1)) d a)
def jZ(m:Nat):=be λ a=>(EF m a.1 a.2,EU m a.1 a.2)
def Gf:Nat->Z64:=bc λ m _=>EC m (jZ m m).1 (jZ m m).2
def EJ(m:Nat)(e:qaP)(c:aa (T×T))(b a:T):Z73:=
 ac (jy m (re b) (re a)) λ d=>cond d (Z c) (e c Y 0 b.kind b.name b.sort b.kids a.kind a.name a.sort a.kids [])
def wC(m:Nat)(q:qaP)(h:aa (T×T))(l:Bool)(g f:Int)(e:Y8)(d:Int)(c:TL)(k:Int)(j:Y8)(i:Int)(b:TL)(a:aa (T×T)):Z73:=
 cond (ilt g (X h)) (let p:Z73:=(ac (ao h g) λ n=>cond (bD (X a+1) 112) (q h l (iw .i64 (aw g 1)) f e d c k j i b (a++[(re n.1,re n.2)])) U);cond (ap l)
 (ac (ao h g) λ s=>ac (jY m (T.mk f e d c) (re s.1)) λ r=>cond (ilt r 0) (cond (bD (X a+1) 112) (ac (ao h g) λ o=>
 cond (bD (X (a++[(T.mk f e d c,T.mk k j i b)])+1) 112)
 (q h O (iw .i64 (aw g 1)) f e d c k j i b ((a++[(T.mk f e d c,T.mk k j i b)])++[(re o.1,re o.2)])) U) U) p) p) (cond (ap l) (cond (bD (X a+1) 112)
 (Z (a++[(T.mk f e d c,T.mk k j i b)])) U) (Z a))
def qQ(m:Nat):=be (wC m)
def wR:Nat->(Z68->T->T->Z73):=bc λ m _=>EJ m (qQ m m)
def qgC(m:Nat)(a:Z66)(b:Int):Z65:=
 cond (ilt b 10) (cond (inb (iw .i64 (aw b 1)) (X [48,49,50,51,52,53,54,55,56,57])) (cond (inb b (Int.toNat (iw .i64 (aw b 1))))
 (Z (gq [48,49,50,51,52,53,54,55,56,57] b (iw .i64 (aw b 1)))) U) U) (ac (a (iw .i64 (Jf b 10))) λ d=>ac (a (Jq b 10)) λ c=>cond (lg d c)
 (Z (d++c)) U)
def Fh:Nat->Z66:=bc λ m a=>qgC m a
def KK(m:Nat)(b:Int×(TL×(TL×(aa (T×(aa (Int×(T×(T×(Int×TL))))))))))(a:Int):Z8:=
 cond (ieq a 0) (Z b.1) (cond (ile a b.1) (Z (iw .i64 (eT a 1))) (Z a))
def FJ:=bh KK
def Du(m:Nat)(d:Pu)(e:O7)(a:Int×(TL×(TL×(aa (T×(aa (Int×(T×(T×(Int×TL))))))))))(b:Int×(aa Y8))(c:Int):Z74:=
 d c [] 0 a.1 a.2.1 a.2.2.1 a.2.2.2 b.1 b.2
def Dw(m:Nat)(q:Pu)(p:O7)(h:Int)(g:aa (T×T))(b e:Int)(a d:TL)(c:aa (T×(aa (Int×(T×(T×(Int×TL)))))))(i:Int)(f:aa (Y8)):Z74:=
 cond (ilt b (X a)) (ac (ao a b) λ o=>ac (FJ m (e,(a,(d,c))) b) λ n=>ac (ao f n) λ l=>ac (uq m l 1) λ k=>ac (wR m g (re o)
 (re k)) λ j=>q h j (iw .i64 (aw b 1)) e a d c i f) (p h g 0 e a d c)
def Dh(m:Nat)(p:Pu)(o:O7)(f:Int)(e:aa (T×T))(b i:Int)(h a:TL)(g:aa (T×(aa (Int×(T×(T×(Int×TL))))))):Z74:=
 cond (ilt b (X a)) (ac (ao a b) λ c=>cond (lg c.name [35]) (ac (Fh m f) λ d=>cond (lg (c.name++[35]) d) (cond (ilt 24 (X ((c.name++[35])++d)))
 (Z ([],3)) (ac (ao a b) λ n=>ac (ao a b) λ l=>ac (uq m ((c.name++[35])++d) l.sort) λ k=>ac (wR m e (re n) (re k)) λ j=>
 o f j (iw .i64 (aw b 1)) i h a g)) U) U) (Z (e,0))
def jW(m:Nat):=be λ a=>(Dw m a.1 a.2,Dh m a.1 a.2)
def Ez:Nat->Z77:=bc λ m _=>Du m (jW m m).1 (jW m m).2
def Fe(m:Nat)(c:qaR)(b:aa (T×T))(a:T):Z14:=
 c b 0 a.kind a.name a.sort a.kids 0 [] 0 []
def Fq(m:Nat)(o:qaR)(b:aa (T×T))(a f:Int)(e:Y8)(d:Int)(c:TL)(j:Int)(i:Y8)(h:Int)(g:TL):Z14:=
 cond (ilt a (X b)) (ac (ao b a) λ n=>ac (jy m (re n.1) (T.mk f e d c)) λ l=>cond l (ac (ao b a) λ k=>Z (re k.2))
 (o b (iw .i64 (aw a 1)) f e d c j i h g)) (Z (T.mk f e d c))
def uh(m:Nat):=be (Fq m)
def Aq:Nat->Z85:=bc λ m _=>Fe m (uh m m)
def zC(m:Nat)(d c:T):Z8:=
 ac (uf m (re d)) λ a=>cond (ap (ieq a 0)) (Z a) (ac (uf m (re c)) λ b=>Z b)
def LQ:=bh zC
def Ld(m:Nat)(b a:T):Z17:=
 cond (ieq b.sort 0) (Z O) (cond (ap (ieq a.kind 3)) (Z (ieq a.sort b.sort)) (Z Y))
def F3:=bh Ld
def K7(m:Nat)(b a:T):Z17:=
 cond (ieq b.kind 3) (cond (ieq a.kind 3) (cond (bq b.name a.name) (Z (ieq (X b.kids) (X a.kids))) (Z Y)) (Z Y)) (Z Y)
def Gd:=bh K7
def Ec(m:Nat)(a:I5)(h:qap)(b c:T)(d:aa (T×T)):Jd:=
 cond (ieq b.kind 1) (cond (bD (X d+1) 112) (ac (F3 m (re b) (re c)) λ g=>Z ((()),(d++[(re b,re c)],g,()))) U) (cond (ieq b.kind 2) (ac (jy m (re b)
 (re c)) λ f=>Z ((()),(d,f,()))) (ac (Gd m (re b) (re c)) λ e=>cond (ap e) (Z ((()),(d,Y,()))) (h O 0 b.kind b.name b.sort b.kids c.kind c.name c.sort c.kids d)))
def zw(m:Nat)(a:I5)(q:qap)(e:Bool)(c n:Int)(l:Y8)(k:Int)(d:TL)(j:Int)(i:Y8)(h:Int)(f:TL)(b:aa (T×T)):Jd:=
 cond (ilt c (X d)) (cond e (ac (ao d c) λ p=>ac (ao f c) λ o=>ac (a (re p) (re o) b) λ g=>q g.2.2.1 (iw .i64 (aw c 1)) n l k d j i h f g.2.1)
 (Z ((()),(b,e,())))) (Z ((()),(b,e,())))
def tx(m:Nat)(a:I5):=be (zw m a)
def lK:Nat->I5:=bc λ m a=>Ec m a (tx m a m)
def wy(m:Nat)(e:By)(h:Bs)(g:Bv)(f:BJ)(a d:T):Z74:=
 ac (LQ m (re a) (re d)) λ c=>cond (ap (ieq c 0)) (Z ([],c)) (ac (lK m (re a) (re d) []) λ b=>cond (ap b.2.2.1) (Z ([],11))
 (e 0 a.kind a.name a.sort a.kids b.2.1))
def D4(m:Nat)(k:By)(i:Bs)(h:Bv)(j:BJ)(f e:Int)(d:Y8)(c:Int)(b:TL)(a:aa (T×T)):Z74:=
 cond (ilt f (X a)) (i f 0 e d c b a) (ac (pB m (T.mk e d c b)) λ g=>h g 0 a [])
def zu(m:Nat)(p:By)(h:Bs)(r:Bv)(q:BJ)(b c g:Int)(f:Y8)(e:Int)(d:TL)(a:aa (T×T)):Z74:=
 cond (ilt c b) (ac (ao a b) λ o=>ac (ao a c) λ n=>ac (jy m (re o.1) (re n.1)) λ l=>cond l (ac (ao a b) λ k=>ac (ao a c) λ j=>
 ac (jy m (re k.2) (re j.2)) λ i=>cond (ap i) (Z ([],11)) (h b (iw .i64 (aw c 1)) g f e d a)) (h b (iw .i64 (aw c 1)) g f e d a)) (p (iw .i64 (aw b 1)) g f e d a)
def Em(m:Nat)(h:By)(g:Bs)(f:Bv)(e:BJ)(c:TL)(b:Int)(d a:aa (T×T)):Z74:=
 cond (ilt b (X c)) (e c b 0 d a) (Z (a,0))
def D2(m:Nat)(r:By)(q:Bs)(f:Bv)(p:BJ)(c:TL)(b e:Int)(a d:aa (T×T)):Z74:=
 cond (ilt e (X a)) (ac (ao a e) λ o=>ac (ao c b) λ n=>ac (jy m (re o.1) (re n)) λ l=>cond l (ac (ao a e) λ k=>ac (ao c b) λ j=>
 ac (jy m (re k.2) (re j)) λ i=>cond (ap i) (ac (ao c b) λ h=>ac (ao a e) λ g=>cond (bD (X d+1) 112)
 (f c (iw .i64 (aw b 1)) a (d++[(re h,re g.2)])) U) (f c (iw .i64 (aw b 1)) a d)) (p c b (iw .i64 (aw e 1)) a d)) (f c (iw .i64 (aw b 1)) a d)
def cr(m:Nat):=be λ a=>(D4 m a.1 a.2.1 a.2.2.1 a.2.2.2,zu m a.1 a.2.1 a.2.2.1 a.2.2.2,Em m a.1 a.2.1 a.2.2.1 a.2.2.2,D2 m a.1 a.2.1 a.2.2.1 a.2.2.2)
def zO:Nat->Z92:=bc λ m _=>wy m (cr m m).1 (cr m m).2.1 (cr m m).2.2.1 (cr m m).2.2.2
def Fv(m:Nat)(a:Z85)(e:qa2)(c:aa (T×T))(b:T):Z14:=
 cond (ieq b.kind 1) (ac (Aq m c (re b)) λ d=>Z (re d)) (e c 0 b.kind b.name b.sort b.kids 0 [] 0 b.kind b.name b.sort [] [])
def E5(m:Nat)(a:Z85)(s:qa2)(i:aa (T×T))(g p:Int)(o:Y8)(n:Int)(e:TL)(l:Int)(k:Y8)(j h:Int)(d:Y8)(c:Int)(f b:TL):Z14:=
 cond (ilt g (X e)) (ac (ao e g) λ r=>ac (a i (re r)) λ q=>cond (bD (X b+1) 56)
 (s i (iw .i64 (aw g 1)) p o n e l k j h d c f (b++[re q])) U) (Z (T.mk h d c b))
def ue(m:Nat)(a:Z85):=be (E5 m a)
def kV:Nat->Z85:=bc λ m a=>Fv m a (ue m a m)
def zq(m:Nat)(f:qaj)(b:aa (T×T))(e d:T):Z93:=
 ac (kV m b (re e)) λ c=>ac (zO m (re c) (re d)) λ a=>cond (ap (ieq a.2 0)) (Z ([],Y)) (f a.1 b 0)
def D6(m:Nat)(g:qaj)(b c:aa (T×T))(a:Int):Z93:=
 cond (ilt a (X b)) (ac (ao b a) λ f=>ac (ao b a) λ e=>ac (wR m c (re f.1) (re e.2)) λ d=>g b d (iw .i64 (aw a 1))) (Z (c,O))
def tn(m:Nat):=be (D6 m)
def zU:Nat->Z94:=bc λ m _=>zq m (tn m m)
def Fu(m:Nat)(c:qax)(b:aa (T×T))(a:TL):Z20:=
 c b a 0 []
def E9(m:Nat)(g:qax)(d:aa (T×T))(c:TL)(b:Int)(a:TL):Z20:=
 cond (ilt b (X c)) (ac (ao c b) λ f=>ac (kV m d (re f)) λ e=>cond (bD (X a+1) 56) (g d c (iw .i64 (aw b 1)) (a++[re e])) U) (Z a)
def tY(m:Nat):=be (E9 m)
def Aj:Nat->(Z68->TL->Z20):=bc λ m _=>Fu m (tY m m)
def FW(m:Nat)(e:qbb)(c:Int×(TL×(TL×(aa (T×(aa (Int×(T×(T×(Int×TL))))))))))(a:(Int×(aa Y8))×(Int×(Int×(Int×(Int×(aa (T×T)))))))(f:T):Z95:=
 ac (ao c.2.2.2 a.2.2.1) λ b=>cond (ilt 0 a.2.2.1) (ac (zU m a.2.2.2.2.2 (re b.1) (re f)) λ d=>cond (ap d.2)
 (Z (a,[],Y))
 (e d.1 0 c.1 c.2.1 c.2.2.1 c.2.2.2 a.1.1 a.1.2 a.2.1 a.2.2.1 a.2.2.2.1 a.2.2.2.2.1 a.2.2.2.2.2 0 0 0 0 0 b.1.kind b.1.name b.1.sort b.1.kids b.2 [] [] []))
 (e a.2.2.2.2.2 0 c.1 c.2.1 c.2.2.1 c.2.2.2 a.1.1 a.1.2 a.2.1 a.2.2.1 a.2.2.2.1 a.2.2.2.2.1 a.2.2.2.2.2 0 0 0 0 0 b.1.kind b.1.name b.1.sort b.1.kids b.2 [] [] [])
def FO(m:Nat)(C:qbb)(g:aa (T×T))(x B:Int)(A z:TL)(y:aa (T×(aa (Int×(T×(T×(Int×TL)))))))(w:Int)(v:aa (Y8))(u h e b:Int)(d:aa (T×T))(t s r q p o:Int)(n:Y8)(l:Int)(k:TL)(c:aa (Int×(T×(T×(Int×TL)))))(j:aa (Y8))(i:aa (T×T))(a:aa (Int×(Int×TL))):Z95:=
 cond (ilt x (X c)) (ac (ao c x) λ f=>cond (ieq f.1 1) (ac (Aq m g (re f.2.1)) λ G=>ac (zU m g (re f.2.2.1) (re G)) λ D=>cond (ap D.2)
 (Z (((w,v),(u,(h,(e,(b,d))))),[],Y)) (C D.1 (iw .i64 (aw x 1)) B A z y w v u h e b d t s r q p o n l k c j i a)) (cond (ieq f.1 2)
 (ac (Aj m g [re f.2.1]) λ F=>cond (bD (X a+1) 40)
 (C g (iw .i64 (aw x 1)) B A z y w v u h e b d t s r q p o n l k c j i (a++[(f.1,(0,F))])) U) (ac (Aj m g f.2.2.2.2) λ E=>
 cond (bD (X a+1) 40) (C g (iw .i64 (aw x 1)) B A z y w v u h e b d t s r q p o n l k c j i (a++[(f.1,(f.2.2.2.1,E))])) U)))
 (cond (ieq (iw .i64 (aw h 1)) (X y)) (Z (((w,v),(u,(iw .i64 (aw h 1),(2,(b,g))))),a,O)) (Z (((w,v),(u,(iw .i64 (aw h 1),(1,(b,g))))),a,O)))
def qT(m:Nat):=be (FO m)
def Hg:Nat->Z99:=bc λ m _=>FW m (qT m m)
def pv(m:Nat)(b:Int×(TL×(TL×(aa (T×(aa (Int×(T×(T×(Int×TL))))))))))(e:Int×(aa Y8))(a:Int):PI:=
 ac (FE m b) λ f=>cond (ap (ieq f 0)) (Z (((0,[]),(0,(0,(0,(0,[]))))),[],f)) (ac (Gf m b
 e) λ g=>cond (ap g) (Z (((0,[]),(0,(0,(0,(0,[]))))),[],1)) (cond (ilt a 0) (Z (((0,[]),(0,(0,(0,(0,[]))))),[],7)) (cond (ilt 99 a)
 (Z (((0,[]),(0,(0,(0,(0,[]))))),[],7)) (ac (Ez m b e a) λ d=>cond (ap (ieq d.2 0)) (Z (((0,[]),(0,(0,(0,(0,[]))))),[],d.2))
 (ac (Hg m b (e,(a,(0,(0,(0,d.1))))) (T.mk 0 [] 0 [])) λ c=>cond (ap c.2.2) (Z (((0,[]),(0,(0,(0,(0,[]))))),[],11))
 (Z (c.1,c.2.1,0)))))))
def zW:=bh pv
def Dj(m:Nat)(c:qbp)(b a:aa Y8):Z17:=
 cond (ap (ieq (X b) (X a))) (Z Y) (c b a 0)
def Dt(m:Nat)(f:qbp)(b c:aa (Y8))(a:Int):Z17:=
 cond (ilt a (X b)) (ac (ao b a) λ e=>ac (ao c a) λ d=>cond (ap (bq e d)) (Z Y) (f b c (iw .i64 (aw a 1)))) (Z O)
def sV(m:Nat):=be (Dt m)
def EH:Nat->((aa Y8)->(aa Y8)->Z17):=bc λ m _=>Dj m (sV m m)
def ES(m:Nat)(c:qbh)(b a:aa (T×T)):Z17:=
 cond (ap (ieq (X b) (X a))) (Z Y) (c b a 0)
def EA(m:Nat)(j:qbh)(b c:aa (T×T))(a:Int):Z17:=
 cond (ilt a (X b)) (ac (ao b a) λ i=>ac (ao c a) λ h=>ac (jy m (re i.1) (re h.1)) λ g=>cond (ap g) (Z Y) (ac (ao b a) λ f=>
 ac (ao c a) λ e=>ac (jy m (re f.2) (re e.2)) λ d=>cond (ap d) (Z Y) (j b c (iw .i64 (aw a 1))))) (Z O)
def tQ(m:Nat):=be (EA m)
def F4:Nat->(Z68->Z68->Z17):=bc λ m _=>ES m (tQ m m)
def Lc(m:Nat)(b a:(Int×(aa Y8))×(Int×(Int×(Int×(Int×(aa (T×T))))))):Z17:=
 cond (ieq b.1.1 a.1.1) (ac (EH m b.1.2 a.1.2) λ d=>cond d (cond (ieq b.2.1 a.2.1) (cond (ieq b.2.2.1 a.2.2.1) (cond (ieq b.2.2.2.1 a.2.2.2.1) (cond (ieq b.2.2.2.2.1 a.2.2.2.2.1)
 (ac (F4 m b.2.2.2.2.2 a.2.2.2.2.2) λ c=>Z c) (Z Y)) (Z Y)) (Z Y)) (Z Y)) (Z Y)) (Z Y)
def F7:=bh Lc
def D8(m:Nat)(c:Jg)(b a:TL):Z17:=
 cond (ap (ieq (X b) (X a))) (Z Y) (c b a 0)
def D9(m:Nat)(g:Jg)(b c:TL)(a:Int):Z17:=
 cond (ilt a (X b)) (ac (ao b a) λ f=>ac (ao c a) λ e=>ac (jy m (re f) (re e)) λ d=>cond (ap d) (Z Y) (g b c (iw .i64 (aw a 1)))) (Z O)
def tu(m:Nat):=be (D9 m)
def FU:Nat->(TL->TL->Z17):=bc λ m _=>D8 m (tu m m)
def CI(m:Nat)(c:qbo)(b a:aa (Int×(Int×TL))):Z17:=
 cond (ap (ieq (X b) (X a))) (Z Y) (c b a 0)
def CK(m:Nat)(k:qbo)(b c:aa (Int×(Int×TL)))(a:Int):Z17:=
 cond (ilt a (X b)) (ac (ao b a) λ j=>ac (ao c a) λ i=>cond (ap (ieq j.1 i.1)) (Z Y) (ac (ao b a) λ h=>ac (ao c a) λ g=>cond (ap (ieq h.2.1 g.2.1))
 (Z Y) (ac (ao b a) λ f=>ac (ao c a) λ e=>ac (FU m f.2.2 e.2.2) λ d=>cond (ap d) (Z Y) (k b c (iw .i64 (aw a 1)))))) (Z O)
def sL(m:Nat):=be (CK m)
def C8:Nat->(Z96->Z96->Z17):=bc λ m _=>CI m (sL m m)
def zb(m:Nat)(b:Int×(TL×(TL×(aa (T×(aa (Int×(T×(T×(Int×TL))))))))))(f:Int×(aa Y8))(g:Int):Z17:=
 ac (zQ m) λ l=>let j1:Z17:=(ac (zQ m) λ k=>Z k);cond (ap l) j1 (ac (xb m b) λ j=>
 cond (ap j) j1 (ac (wA m (f,(0,(0,(0,(0,[])))))) λ i=>cond (ap i) j1 (ac (wD m b f g) λ a=>
 ac (zW m b f g) λ c=>cond (ieq a.2.2 c.2.2)
 (ac (F7 m a.1
 c.1) λ h=>cond h (ac (C8 m a.2.1 c.2.1) λ e=>cond e (cond (ap (ieq a.2.2 0))
 (Z O) (ac (tz m b a.1) λ d=>Z (ieq d 0))) (Z Y))
 (Z Y)) (Z Y))))
def law25_MachineStart:=bh zb
end
end
section
def Ev{α:Type}(F:Nat->Nat->ab α)(r:α):Prop:=∃B,∀m k,B<=m->B<=k->F m k=Z r
section
variable {α β:Type}{F G:Nat->Nat->ab α}{r:α}
def Ev.pure(r:α):Ev (λ _ _=>Z r) r:=⟨0,λ _ _ _ _=>rfl⟩
def Ev.ret{r a:α}(h:r=a):Ev (λ _ _=>Z r) a:=by subst h;exact .pure r
def Ev.bind{W:Nat->Nat->ab β}{K:Nat->Nat->β->ab α}{a:β}(h:Ev W a)(g:Ev (λ m k=>K m k a) r):Ev (λ m k=>ac (W m k) (K m k)) r:=by
 let⟨B,h⟩:=h;let⟨C,g⟩:=g;refine⟨max B C,λ m k b c=>?_⟩;simp only[h m k (by omega) (by omega),ac];exact g m k (by omega) (by omega)
def Ev.congr(h:Ev F r)(e:∀m k,G m k=F m k):Ev G r:=by
 let⟨B,h⟩:=h;exact⟨B,λ m k a b=>(e m k).trans (h m k a b)⟩
def Ev.res{a:α}(h:Ev F r)(e:r=a):Ev F a:=by subst e;exact h
def Ev.succ{f:Nat->ab α}(h:Ev (λ m _=>f (m+1)) r):Ev (λ m _=>f m) r:=by
 let⟨B,h⟩:=h;refine⟨B+1,λ m k a b=>?_⟩;obtain⟨m,rfl⟩:∃n,m=n+1:=⟨m-1,by omega⟩
 exact h m B (by omega) (ak _)
def Ev.loop{L:Nat->Nat->ab α}(h:Ev (λ m k=>L m (k+1)) r):Ev (λ m k=>L m k) r:=by
 let⟨B,h⟩:=h;refine⟨B+1,λ m k a b=>?_⟩;obtain⟨k,rfl⟩:∃n,k=n+1:=⟨k-1,by omega⟩
 exact h m k (by omega) (by omega)
theorem Ev.diag{L:Nat->Nat->ab α}(h:Ev L r):Ev (λ m _=>L m m) r:=by
 let⟨B,h⟩:=h;exact⟨B,λ m k a _=>h m m a a⟩
def Ev.ct{b:Bool}(a:b=O)(h:Ev F r):Ev (λ m k=>cond b (F m k) (G m k)) r:=by subst a;exact h
def Ev.cf{b:Bool}(a:b=Y)(h:Ev G r):Ev (λ m k=>cond b (F m k) (G m k)) r:=by subst a;exact h
def Ev.ite{b:Bool}(h:b=O->Ev F r)(g:b=Y->Ev G r):Ev (λ m k=>cond b (F m k) (G m k)) r:=by
 cases b with
 |true=>exact h rfl
 |false=>exact g rfl
def Ev.some{x:ab β}{K:Nat->Nat->β->ab α}{a:β}(b:x=Z a)(g:Ev (λ m k=>K m k a) r):Ev (λ m k=>ac x (K m k)) r:=by subst b;exact g
def Ev.case{l:aa β}{K:Nat->Nat->β->aa β->ab α}(h:l=[]->Ev F r)(g:∀x t,l=x::t->Ev (λ m k=>K m k x t) r):Ev (λ m k=>jE l (F m k) (K m k)) r:=by
 cases l with
 |nil=>exact h rfl
 |cons x t=>exact g x t rfl
theorem Ev.get{x:ab α}(h:Ev (λ _ _=>x) r):x=Option.some r:=by
 let⟨B,h⟩:=h;exact h B B (ak _) (ak _)
end
theorem aY{a b:Int}:ilt a b=O↔a<b:=by unfold ilt;exact cV
def ba{a b:Int}:ilt a b=Y↔b<=a:=by unfold ilt;rw[pq];omega
def gK{a b:Int}:ile a b=O↔a<=b:=by unfold ile;exact cV
def li{a b:Int}:ile a b=Y↔b<a:=by unfold ile;rw[pq];omega
theorem aD{a b:Int}:ieq a b=O↔a=b:=by unfold ieq;exact B1
theorem aC{a b:Int}:ieq a b=Y↔a≠b:=by unfold ieq;exact jq
def bnt{b:Bool}:ap b=O↔b=Y:=by cases b<;>simp[ap]
def bnf{b:Bool}:ap b=Y↔b=O:=by cases b<;>simp[ap]
def cU{a b:aa aN}:bq a b=O↔a=b:=by unfold bq;exact B1
def di{a b:aa aN}:bq a b=Y↔a≠b:=by unfold bq;exact jq
theorem dA{n:Int}(h:-9223372036854775808<=n/\n<=9223372036854775807:=by omega):iw .i64 n=n:=IntWalk.i64_in n h
def qX(a b:Nat):aw (a:Int) (b:Int)=((a+b:Nat):Int):=by unfold aw;omega
def bI{n b:Nat}(h:n*b<=2^47:=by omega)(a:0<b:=by omega):bD n b=O:=by
 unfold bD;rw[cV];refine⟨h,?_⟩;have:n*1<=n*b:=qcb _ a;omega
theorem db{α:Type}(l:aa α)(i:Nat):ao l (i:Int)=l[i]?:=by
 unfold ao;rw[ifP,jT]
def nH{α:Type}(l:aa α):ao l 0=l[0]?:=db l 0
def aV{α:Type}{P:Nat->Prop}(l:aa α)(g:X l<2^62)(e:ilt (X l:Int) (X l:Int)=Y->P (X l))
  (b:∀(i:Nat) (x:α),l[i]?=Z x->l.drop i=x::l.drop (i+1)->ilt (i:Int) (X l:Int)=O->ao l (i:Int)=Z x->iw .i64 (aw (i:Int) 1)=((i+1:Nat):Int)->P (i+1)->P i):∀i,i<=X l->P i:=by
 intro i h;obtain⟨d,j⟩:∃d,X l=i+d:=⟨X l-i,by omega⟩
 induction d generalizing i with
 |zero=>
   have:i=X l:=by omega
   subst this;exact e (ba.2 (Jz _))
 |succ d f=>
   have c:i<X l:=by omega
   have a:=aS c;refine b i _ a (yP c) (aY.2 (by omega)) (by rw[db,a]) ?_ (f (i+1) (by omega) (by omega));rw[show aw (i:Int) 1=((i+1:Nat):Int) by unfold aw;omega,dA]
abbrev ag:=@Ev.ct
abbrev ah:=@Ev.bind
abbrev ai:=@Ev.cf
abbrev al:=@Ev.some
abbrev am:=@Ev.ret
abbrev aq:=@Ev.loop
abbrev au:=@Ev.pure
abbrev av:=@Ev.ite
abbrev aB:=@Ev.succ
abbrev bd:=@Ev.diag
abbrev wa:=@Ev.case
abbrev B5:=@Ev.congr
end
def qc7(m):qG (m+1)=Cn m (jU m m).1 (jU m m).2:=rfl
def Q3(m k):(jU m (k+1)).1=Cm m (jU m k).1 (jU m k).2:=rfl
def Q0(m k):(jU m (k+1)).2=Cp m (jU m k).1 (jU m k).2:=rfl
def qdI(m):CJ (m+1)=J5 m:=rfl
def qee(m):lG (m+1)=CH m (lG m) (sM m (lG m) m):=rfl
def Rk(m k):(sM m (lG m) (k+1))=CG m (lG m) (sM m (lG m) k):=rfl
def qkX(m):uD (m+1)=Lp m:=rfl
def qkD(m):km (m+1)=Fk m (km m) (tX m (km m) m):=rfl
def Tn(m k):(tX m (km m) (k+1))=E4 m (km m) (tX m (km m) k):=rfl
def qhq(m):cW (m+1)=DL m (cW m) (pw m (cW m) m):=rfl
def Kz(m k):(pw m (cW m) (k+1))=zk m (cW m) (pw m (cW m) k):=rfl
def qc0(m):sF (m+1)=oT (cW m):=rfl
def qkk(m):jv (m+1)=EB m (jv m) (tH m (jv m) m):=rfl
def S5(m k):(tH m (jv m) (k+1))=ED m (jv m) (tH m (jv m) k):=rfl
def qfM(m):nF (m+1)=Kn m:=rfl
def qcL(m):we (m+1)=A9 (nF m):=rfl
def qhZ(m):Lj (m+1)=DO m (te m m):=rfl
def Sj(m k):(te m (k+1))=DP m (te m k):=rfl
def qi4(m):Ly (m+1)=KU m:=rfl
def qld(m):pH (m+1)=Lr m:=rfl
def qh9(m):wH (m+1)=Kt m:=rfl
def qd8(m):CT (m+1)=J7 m:=rfl
def qcU(m):JV (m+1)=Ce m (sB m m):=rfl
def JP(m k):(sB m (k+1))=yS m (sB m k):=rfl
def qcA(m):JQ (m+1)=JL m:=rfl
def qiZ(m):ug (m+1)=KY m:=rfl
def qcX(m):JX (m+1)=Ch m (sD m m):=rfl
def JR(m k):(sD m (k+1))=yU m (sD m k):=rfl
def qcD(m):Cg (m+1)=JM m:=rfl
def qg2(m):wE (m+1)=Df m (ta m m):=rfl
def RN(m k):(ta m (k+1))=Dc m (ta m k):=rfl
def qf4(m):Ew (m+1)=Ks m:=rfl
def qdS(m):kQ (m+1)=CA m (kQ m) (qJ m (kQ m) m):=rfl
def Re(m k):(qJ m (kQ m) (k+1))=Cz m (kQ m) (qJ m (kQ m) k):=rfl
def qk2(m):Am (m+1)=Lq m:=rfl
def qiD(m):wK (m+1)=Ee m (px m m):=rfl
def SF(m k):(px m (k+1))=D3 m (px m k):=rfl
def qkr(m):iu (m+1)=EL m (iu m) (mK m (iu m) m):=rfl
def SM(m k):(mK m (iu m) (k+1))=Ey m (iu m) (mK m (iu m) k):=rfl
def qjs(m):fA (m+1)=K5 m:=rfl
def qh1(m):fy (m+1)=DN m (fy m) (iK m (fy m) m).1 (iK m (fy m) m).2:=rfl
def R8(m k):(iK m (fy m) (k+1)).1=Dx m (fy m) (iK m (fy m) k).1 (iK m (fy m) k).2:=rfl
def Sh(m k):(iK m (fy m) (k+1)).2=Dz m (fy m) (iK m (fy m) k).1 (iK m (fy m) k).2:=rfl
def qho(m):zJ (m+1)=Kv m:=rfl
def qiW(m):FM (m+1)=KS m:=rfl
def qf2(m):tg (m+1)=Kl m:=rfl
def qdY(m):zh (m+1)=CC m (sI m m):=rfl
def Rh(m k):(sI m (k+1))=CE m (sI m k):=rfl
def qdw(m):CF (m+1)=J1 m:=rfl
def qcY(m):JW (m+1)=Cf m (sC m m):=rfl
def JS(m k):(sC m (k+1))=yT m (sC m k):=rfl
def qcE(m):yV (m+1)=JN m:=rfl
def J8(m):CN (m+1)=wm m (cC m m).1 (cC m m).2.1 (cC m m).2.2:=rfl
def qH(m k):(cC m (k+1)).1=oz m (cC m k).1 (cC m k).2.1 (cC m k).2.2:=rfl
def Rg(m k):(cC m (k+1)).2.1=Cw m (cC m k).1 (cC m k).2.1 (cC m k).2.2:=rfl
def Rd(m k):(cC m (k+1)).2.2=Cx m (cC m k).1 (cC m k).2.1 (cC m k).2.2:=rfl
def qgw(m):tp (m+1)=Do m (sZ m m):=rfl
def R3(m k):(sZ m (k+1))=Dk m (sZ m k):=rfl
def qgx(m):lH (m+1)=Kr m:=rfl
def qfT(m):Ej (m+1)=C7 m (dR m m).1 (dR m m).2.1 (dR m m).2.2:=rfl
def RB(m k):(dR m (k+1)).1=C5 m (dR m k).1 (dR m k).2.1 (dR m k).2.2:=rfl
def Ru(m k):(dR m (k+1)).2.1=C9 m (dR m k).1 (dR m k).2.1 (dR m k).2.2:=rfl
def Ry(m k):(dR m (k+1)).2.2=CY m (dR m k).1 (dR m k).2.1 (dR m k).2.2:=rfl
def qgP(m):zy (m+1)=Kq m:=rfl
def qf1(m):Ek (m+1)=Kj m:=rfl
def qdh(m):J0 (m+1)=Cq m (sG m m):=rfl
def JZ(m k):(sG m (k+1))=yZ m (sG m k):=rfl
def qda(m):Cr (m+1)=JY m:=rfl
def qfd(m):zo (m+1)=CS m (sO m m):=rfl
def Rq(m k):(sO m (k+1))=CQ m (sO m k):=rfl
def qdJ(m):wn (m+1)=J4 m:=rfl
def qcZ(m):Ck (m+1)=Cj m (kO m m).1 (kO m m).2:=rfl
def JU(m k):(kO m (k+1)).1=yW m (kO m k).1 (kO m k).2:=rfl
def JT(m k):(kO m (k+1)).2=yX m (kO m k).1 (kO m k).2:=rfl
def qdu(m):lF (m+1)=J2 m:=rfl
def qcu(m):wc (m+1)=oT (lF m):=rfl
def qdQ(m):zg (m+1)=J6 m:=rfl
def qgT(m):tw (m+1)=Dr m (jV m m).1 (jV m m).2:=rfl
def R4(m k):(jV m (k+1)).1=Dm m (jV m k).1 (jV m k).2:=rfl
def RH(m k):(jV m (k+1)).2=Dl m (jV m k).1 (jV m k).2:=rfl
def qdG(m):zf (m+1)=J3 m:=rfl
def qco(m):B8 (m+1)=B7 m (sx m m):=rfl
def B6(m k):(sx m (k+1))=wb m (sx m k):=rfl
def qd4(m):wo (m+1)=J9 m:=rfl
def qnZ(m):xG (m+1)=FX m (wX m m):=rfl
def qlD(m k):(wX m (k+1))=LR m (wX m k):=rfl
def qdA(m):zc (m+1)=Ct m (sH m m):=rfl
def Q7(m k):(sH m (k+1))=Cs m (sH m k):=rfl
def qfq(m):zr (m+1)=Ki m:=rfl
def qd3(m):jr (m+1)=CD m (jr m) (sJ m (jr m) m):=rfl
def Rj(m k):(sJ m (jr m) (k+1))=CB m (jr m) (sJ m (jr m) k):=rfl
def Lh(m):Lu (m+1)=zt m:=rfl
def qjN(m):Ae (m+1)=Lg m:=rfl
def qkp(m):uk (m+1)=Lb m:=rfl
def qi3(m):FN (m+1)=KL m:=rfl
def qip(m):mL (m+1)=Eh m (mL m) (wF m (mL m) m):=rfl
def Sv(m k):(wF m (mL m) (k+1))=Ed m (mL m) (wF m (mL m) k):=rfl
def K9(m):zR (m+1)=wx m (wG m m):=rfl
def SH(m k):(wG m (k+1))=El m (wG m k):=rfl
def Q8(m):zd (m+1)=Cu m:=rfl
def qj6(m):Ag (m+1)=EN m (ju m m).1 (ju m m).2:=rfl
def SO(m k):(ju m (k+1)).1=Er m (ju m k).1 (ju m k).2:=rfl
def S9(m k):(ju m (k+1)).2=EP m (ju m k).1 (ju m k).2:=rfl
def sW(m):wD (m+1)=pu m:=rfl
def qji(m):py (m+1)=KV m:=rfl
def qkT(m):ja (m+1)=Lt m:=rfl
def qfw(m):zp (m+1)=Km m:=rfl
def qkM(m):GF (m+1)=Ff m (ua m m):=rfl
def Tp(m k):(ua m (k+1))=EY m (ua m k):=rfl
def ql5(m):Az (m+1)=FK m (uo m m):=rfl
def TM(m k):(uo m (k+1))=FQ m (uo m k):=rfl
def qhQ(m):kS (m+1)=DM m (kS m) (qM m (kS m) m):=rfl
def Sg(m k):(qM m (kS m) (k+1))=DA m (kS m) (qM m (kS m) k):=rfl
def qg4(m):E0 (m+1)=DU m (wz m m):=rfl
def qgp(m k):(wz m (k+1))=KD m (wz m k):=rfl
def qmC(m):kX (m+1)=Gi m (kX m) (uC m (kX m) m):=rfl
def T1(m k):(uC m (kX m) (k+1))=Gl m (kX m) (uC m (kX m) k):=rfl
def qm8(m):HX (m+1)=F6 m (uB m m):=rfl
def Uf(m k):(uB m (k+1))=FY m (uB m k):=rfl
def qe7(m):zl (m+1)=Kg m:=rfl
def qfO(m):jt (m+1)=Da m (jt m) (sU m (jt m) m):=rfl
def Rt(m k):(sU m (jt m) (k+1))=CZ m (jt m) (sU m (jt m) k):=rfl
def qen(m):zj (m+1)=Kc m:=rfl
def qcs(m):Cb (m+1)=Ca m (sy m m):=rfl
def QX(m k):(sy m (k+1))=B9 m (sy m k):=rfl
def qe1(m):zm (m+1)=Ke m:=rfl
def qep(m):kR (m+1)=CL m (kR m) (qK m (kR m) m):=rfl
def Rm(m k):(qK m (kR m) (k+1))=CM m (kR m) (qK m (kR m) k):=rfl
def qjb(m):tU (m+1)=KG m:=rfl
def qfX(m):wB (m+1)=C4 m (qL m m):=rfl
def RC(m k):(qL m (k+1))=C1 m (qL m k):=rfl
def qgY(m):qP (m+1)=Dn m (fx m m).1 (fx m m).2.1 (fx m m).2.2:=rfl
def RT(m k):(fx m (k+1)).1=Ds m (fx m k).1 (fx m k).2.1 (fx m k).2.2:=rfl
def RU(m k):(fx m (k+1)).2.1=Dd m (fx m k).1 (fx m k).2.1 (fx m k).2.2:=rfl
def RS(m k):(fx m (k+1)).2.2=Db m (fx m k).1 (fx m k).2.1 (fx m k).2.2:=rfl
def qfe(m):DI (m+1)=CU m (sN m m):=rfl
def Rr(m k):(sN m (k+1))=CO m (sN m k):=rfl
def qej(m):CX (m+1)=Kb m:=rfl
def qcM(m):Ci (m+1)=Cd m (wd m m):=rfl
def JO(m k):(wd m (k+1))=yR m (wd m k):=rfl
def qcw(m):Cc (m+1)=JK m:=rfl
def qeM(m):DG (m+1)=Kh m:=rfl
def qhW(m):Fs (m+1)=DE m (ti m m):=rfl
def Sl(m k):(ti m (k+1))=Dy m (ti m k):=rfl
def qhT(m):Fy (m+1)=KF m:=rfl
def qg1(m):lI (m+1)=Di m (lI m) (sX m (lI m) m):=rfl
def RZ(m k):(sX m (lI m) (k+1))=Dg m (lI m) (sX m (lI m) k):=rfl
def qgy(m):EO (m+1)=Kp m:=rfl
def qfl(m):D1 (m+1)=Kk m:=rfl
def qdW(m):kP (m+1)=Cv m (kP m) (qI m (kP m) m):=rfl
def Rb(m k):(qI m (kP m) (k+1))=Cy m (kP m) (qI m (kP m) k):=rfl
def qhd(m):zM (m+1)=Kw m:=rfl
def qjd(m):wJ (m+1)=Eg m (tD m m):=rfl
def Sr(m k):(tD m (k+1))=D7 m (tD m k):=rfl
def Ky(m):tz (m+1)=wv m (iq m m).1 (iq m m).2:=rfl
def RM(m k):(iq m (k+1)).1=Dp m (iq m k).1 (iq m k).2:=rfl
def RQ(m k):(iq m (k+1)).2=Dv m (iq m k).1 (iq m k).2:=rfl
def qg9(m):tM (m+1)=Ku m:=rfl
def qjy(m):jx (m+1)=EM m (jx m) (tO m (jx m) m):=rfl
def S2(m k):(tO m (jx m) (k+1))=Ep m (jx m) (tO m (jx m) k):=rfl
def qgV(m):jY (m+1)=De m (jY m) (sY m (jY m) m):=rfl
def RG(m k):(sY m (jY m) (k+1))=Dq m (jY m) (sY m (jY m) k):=rfl
def qjE(m):jy (m+1)=K0 m:=rfl
def qg5(m):lJ (m+1)=DB m (lJ m) (tk m (lJ m) m):=rfl
def R9(m k):(tk m (lJ m) (k+1))=DF m (lJ m) (tk m (lJ m) k):=rfl
def qk9(m):An (m+1)=Fa m (tV m m):=rfl
def Tu(m k):(tV m (k+1))=Ft m (tV m k):=rfl
def FP(m):xb (m+1)=tF m (ke m m).1 (ke m m).2:=rfl
def Lm(m k):(ke m (k+1)).1=zF m (ke m k).1 (ke m k).2:=rfl
def E7(m k):(ke m (k+1)).2=wI m (ke m k).1 (ke m k).2:=rfl
def qkz(m):GP (m+1)=Fw m (tW m m):=rfl
def Tw(m k):(tW m (k+1))=Fm m (tW m k):=rfl
def qfR(m):wA (m+1)=C3 m (sQ m m):=rfl
def C2(m k):(sQ m (k+1))=wu m (sQ m k):=rfl
def qkQ(m):kU (m+1)=Fp m (kU m) (ui m (kU m) m):=rfl
def Tv(m k):(ui m (kU m) (k+1))=EW m (kU m) (ui m (kU m) k):=rfl
def qkZ(m):GN (m+1)=EV m (tZ m m):=rfl
def Tl(m k):(tZ m (k+1))=Fg m (tZ m k):=rfl
def qkG(m):Ap (m+1)=Fo m (ub m m):=rfl
def Td(m k):(ub m (k+1))=Fl m (ub m k):=rfl
def qkq(m):Gc (m+1)=Eu m (tJ m m):=rfl
def SZ(m k):(tJ m (k+1))=ET m (tJ m k):=rfl
def qjL(m):pB (m+1)=La m:=rfl
def qkn(m):Ac (m+1)=Et m (tI m m):=rfl
def SX(m k):(tI m (k+1))=EK m (tI m k):=rfl
def qh7(m):zK (m+1)=KA m:=rfl
def qia(m):FG (m+1)=KJ m:=rfl
def qh3(m):tT (m+1)=DJ m (tj m m):=rfl
def Sd(m k):(tj m (k+1))=DD m (tj m k):=rfl
def qj7(m):Gg (m+1)=Lf m:=rfl
def qiQ(m):lM (m+1)=Eb m (lM m) (tq m (lM m) m):=rfl
def SC(m k):(tq m (lM m) (k+1))=D0 m (lM m) (tq m (lM m) k):=rfl
def qiB(m):lL (m+1)=Ea m (lL m) (tv m (lL m) m):=rfl
def Sw(m k):(tv m (lL m) (k+1))=Ef m (lL m) (tv m (lL m) k):=rfl
def qie(m):uf (m+1)=KP m:=rfl
def qks(m):F2 (m+1)=EI m (tN m m):=rfl
def SQ(m k):(tN m (k+1))=EE m (tN m k):=rfl
def qhP(m):E8 (m+1)=DS m (tf m m):=rfl
def Sc(m k):(tf m (k+1))=DR m (tf m k):=rfl
def qiL(m):kT (m+1)=Ei m (kT m) (qO m (kT m) m):=rfl
def Sp(m k):(qO m (kT m) (k+1))=D5 m (kT m) (qO m (kT m) k):=rfl
def qiA(m):FV (m+1)=KI m:=rfl
def qeS(m):DQ (m+1)=Kd m:=rfl
def qjq(m):Ge (m+1)=Eo m (tG m m):=rfl
def SP(m k):(tG m (k+1))=EQ m (tG m k):=rfl
def qjx(m):ul (m+1)=ER m (tP m m):=rfl
def S6(m k):(tP m (k+1))=EG m (tP m k):=rfl
def qkH(m):ur (m+1)=EZ m (uc m m):=rfl
def Tz(m k):(uc m (k+1))=FA m (uc m k):=rfl
def qh4(m):Fj (m+1)=DC m (tl m m):=rfl
def Sf(m k):(tl m (k+1))=DV m (tl m k):=rfl
def qk0(m):Gq (m+1)=Fb m (iL m m).1 (iL m m).2:=rfl
def Tj(m k):(iL m (k+1)).1=Fx m (iL m k).1 (iL m k).2:=rfl
def Tt(m k):(iL m (k+1)).2=E6 m (iL m k).1 (iL m k).2:=rfl
def qja(m):FD (m+1)=DX m (gQ m m).1 (gQ m m).2:=rfl
def Sn(m k):(gQ m (k+1)).1=DY m (gQ m k).1 (gQ m k).2:=rfl
def SB(m k):(gQ m (k+1)).2=DZ m (gQ m k).1 (gQ m k).2:=rfl
def qfQ(m):th (m+1)=C0 m (sR m m):=rfl
def Rv(m k):(sR m (k+1))=C6 m (sR m k):=rfl
def qe9(m):DH (m+1)=CW m (js m m).1 (js m m).2:=rfl
def Ro(m k):(js m (k+1)).1=CR m (js m k).1 (js m k).2:=rfl
def Rn(m k):(js m (k+1)).2=CP m (js m k).1 (js m k).2:=rfl
def qjI(m):pA (m+1)=Li m:=rfl
def qiv(m):FT (m+1)=KO m:=rfl
def qhv(m):Fc (m+1)=DK m (jX m m).1 (jX m m).2:=rfl
def Si(m k):(jX m (k+1)).1=DT m (jX m k).1 (jX m k).2:=rfl
def Se(m k):(jX m (k+1)).2=DW m (jX m k).1 (jX m k).2:=rfl
def qim(m):FE (m+1)=KW m:=rfl
def qjD(m):Gf (m+1)=EC m (jZ m m).1 (jZ m m).2:=rfl
def S0(m k):(jZ m (k+1)).1=EF m (jZ m k).1 (jZ m k).2:=rfl
def SS(m k):(jZ m (k+1)).2=EU m (jZ m k).1 (jZ m k).2:=rfl
def qjY(m):wR (m+1)=EJ m (qQ m m):=rfl
def Es(m k):(qQ m (k+1))=wC m (qQ m k):=rfl
def qis(m):FJ (m+1)=KK m:=rfl
def qgn(m):Ez (m+1)=Du m (jW m m).1 (jW m m).2:=rfl
def RX(m k):(jW m (k+1)).1=Dw m (jW m k).1 (jW m k).2:=rfl
def R6(m k):(jW m (k+1)).2=Dh m (jW m k).1 (jW m k).2:=rfl
def qkR(m):Aq (m+1)=Fe m (uh m m):=rfl
def Tm(m k):(uh m (k+1))=Fq m (uh m k):=rfl
def Ln(m):LQ (m+1)=zC m:=rfl
def qj0(m):F3 (m+1)=Ld m:=rfl
def qjZ(m):Gd (m+1)=K7 m:=rfl
def qje(m):lK (m+1)=Ec m (lK m) (tx m (lK m) m):=rfl
def KR(m k):(tx m (lK m) (k+1))=zw m (lK m) (tx m (lK m) k):=rfl
def K8(m):zO (m+1)=wy m (cr m m).1 (cr m m).2.1 (cr m m).2.2.1 (cr m m).2.2.2:=rfl
def SG(m k):(cr m (k+1)).1=D4 m (cr m k).1 (cr m k).2.1 (cr m k).2.2.1 (cr m k).2.2.2:=rfl
def KZ(m k):(cr m (k+1)).2.1=zu m (cr m k).1 (cr m k).2.1 (cr m k).2.2.1 (cr m k).2.2.2:=rfl
def Sy(m k):(cr m (k+1)).2.2.1=Em m (cr m k).1 (cr m k).2.1 (cr m k).2.2.1 (cr m k).2.2.2:=rfl
def So(m k):(cr m (k+1)).2.2.2=D2 m (cr m k).1 (cr m k).2.1 (cr m k).2.2.1 (cr m k).2.2.2:=rfl
def qkB(m):kV (m+1)=Fv m (kV m) (ue m (kV m) m):=rfl
def Tx(m k):(ue m (kV m) (k+1))=E5 m (kV m) (ue m (kV m) k):=rfl
def S4(m):zU (m+1)=zq m (tn m m):=rfl
def Sz(m k):(tn m (k+1))=D6 m (tn m k):=rfl
def qk3(m):Aj (m+1)=Fu m (tY m m):=rfl
def Ts(m k):(tY m (k+1))=E9 m (tY m k):=rfl
def qli(m):Hg (m+1)=FW m (qT m m):=rfl
def TJ(m k):(qT m (k+1))=FO m (qT m k):=rfl
def tC(m):zW (m+1)=pv m:=rfl
def qgJ(m):EH (m+1)=Dj m (sV m m):=rfl
def RL(m k):(sV m (k+1))=Dt m (sV m k):=rfl
def qkw(m):F4 (m+1)=ES m (tQ m m):=rfl
def SN(m k):(tQ m (k+1))=EA m (tQ m k):=rfl
def qkl(m):F7 (m+1)=Lc m:=rfl
def qi6(m):FU (m+1)=D8 m (tu m m):=rfl
def SJ(m k):(tu m (k+1))=D9 m (tu m k):=rfl
def qem(m):C8 (m+1)=CI m (sL m m):=rfl
def Rl(m k):(sL m (k+1))=CK m (sL m k):=rfl
def Ka(m):law25_MachineStart (m+1)=zb m:=rfl
end Go.AmZ
namespace Go.GxZ
def size:T->Nat:=T.para λ _ a=>1+a.sum
theorem cM(t:T):size t=1+(t.kids.map size).sum:=T.para_eq _ _
def size_pos(t:T):1<=size t:=by rw[cM];omega
def qmc(l:aa T):X l<=(l.map size).sum:=by
 induction l with
 |nil=>simp
 |cons x l a=>have:=size_pos x;simp only[bE,aU,gc];omega
def F0(l:aa T)(x:T)(h:x∈l):size x<=(l.map size).sum:=by
 induction l with
 |nil=>cases h
 |cons y l a=>
   simp only[aU,gc];obtain rfl|h:=bi.1 h
   .omega
   .have:=a h;omega
def dW(t:T)(x:T)(h:x∈t.kids):size x<size t:=by
 have:=F0 t.kids x h;rw[cM t];omega
def fE(t:T):X t.kids<size t:=by
 have:=qmc t.kids;rw[cM t];omega
def sgn(a b:Int):Int:=if a<b then -1 else if b<a then 1 else 0
def thn(x y:Int):Int:=if x=0 then y else x
structure Cmp {α:Type} (f:α->α->Int):Prop where
 rng:∀a b,f a b=-1\/f a b=0\/f a b=1
 anti:∀a b,f b a=- f a b
 trans:∀a b c,f a b=-1->f b c=-1->f a c=-1
 same:∀a b c,f a b=0->f b c=f a c
def Cmp.thn{α:Type}{f g:α->α->Int}(d:Cmp f)(l:Cmp g):Cmp λ a b=>thn (f a b) (g a b):=by
 constructor
 .intro a b;have:=d.rng a b;have:=l.rng a b;unfold GxZ.thn;split<;>omega
 .intro a b;have:=d.anti a b;have:=l.anti a b;unfold GxZ.thn;split<;>split<;>omega
 .intro a b c k j;have p:=d.anti a b;have a2:=d.anti b c;have a3:=d.anti a c;have n:=d.trans a b c;have t2:=l.trans a b c;have m:=d.same a b c;have s2:=d.same c b a;have o:=d.rng a b;have r2:=d.rng b c;have r3:=d.rng a c;unfold GxZ.thn at k j |-
  by_cases i:f a b=0
  .by_cases e:f b c=0
   .rw[af i]at k;rw[af e]at j;rw[af (by rw[<-m i];exact e)];exact t2 k j
   .rw[ae e]at j;rw[ae (by rw[<-m i];exact e),<-m i];exact j
  .rw[ae i]at k;by_cases e:f b c=0
   .have:=s2 (by omega);rw[ifN];omega
   .rw[ae e]at j;have:=n k j;rw[ifN];exact this
 .intro a b c h
  have i:f a b=0:=by
   unfold GxZ.thn at h;split at h
   .assumption
   .exact absurd h (by assumption)
  have e:g a b=0:=by
   unfold GxZ.thn at h
   rwa [af i]at h
  show GxZ.thn _ _=GxZ.thn _ _;rw[d.same a b c i,l.same a b c e]
def Cmp.on{α d:Type}{f:d->d->Int}(c:Cmp f)(p:α->d):Cmp λ a b=>f (p a) (p b):=
 ⟨λ _ _=>c.rng _ _,λ _ _=>c.anti _ _,λ _ _ _=>c.trans _ _ _,λ _ _ _=>c.same _ _ _⟩
def H8:Cmp sgn:=by
 constructor
 .intro a b;unfold sgn;split<;>(try split)<;>omega
 .intro a b;unfold sgn;split<;>split<;>(try split)<;>omega
 .intro a b c;unfold sgn;split<;>split<;>(try split)<;>(try split)<;>omega
 .intro a b c;unfold sgn;split<;>split<;>(try split)<;>(try split)<;>omega
theorem AG{a b:Int}(h:sgn a b=0):a=b:=by unfold sgn at h;split at h<;>(try split at h)<;>omega
def qoE(a:Int):sgn a a=0:=by unfold sgn;split<;>(try split)<;>omega
open Lib (compareBytes)
theorem Vi(a:aa aN):compareBytes a a=0:=by
 induction a with
 |nil=>rfl
 |cons x a b=>simp[compareBytes,b]
theorem GU:∀a b:aa aN,compareBytes a b=-1\/compareBytes a b=0\/compareBytes a b=1
 |[],[]|[],_::_|_::_,[]=>by simp[compareBytes]
 |x::a,y::b=>by
   unfold compareBytes;split
   .simp
   .split
    .simp
    .exact GU a b
def Vm:∀a b:aa aN,compareBytes b a=- compareBytes a b
 |[],[]|[],_::_|_::_,[]=>by simp[compareBytes]
 |x::a,y::b=>by
   have:=Vm a b;unfold compareBytes;simp only[QO];split<;>split<;>(try split)<;>omega
theorem Gx:∀a b:aa aN,compareBytes a b=0->a=b
 |[],[],_=>rfl
 |[],_::_,h|_::_,[],h=>by simp[compareBytes]at h
 |x::a,y::b,h=>by
   unfold compareBytes at h;simp only[QO]at h;split at h
   .omega
   .split at h
    .omega
    .rw[Gx a b h,UInt8.toNat_inj.1 (show x.toNat=y.toNat by omega)]
theorem Up:∀ a b c:List UInt8,compareBytes a b=-1->compareBytes b c=-1->compareBytes a c=-1
 | [],_,[],h1,h2=>by
   rename_i b;cases b<;>simp[compareBytes]at h1 h2
 | [],_,_::_,_,_=>by simp[compareBytes]
 | _::_,[],_,h1,_=>by simp[compareBytes]at h1
 | _::_,_::_,[],_,h2=>by simp[compareBytes]at h2
 | x::a,y::b,z::c,h1,h2=>by
   have ih:=Up a b c;unfold compareBytes at h1 h2 |-
   simp only[QO]at h1 h2 |-
   split at h1
   ·split at h2
    ·rw[af (by omega)]
    ·split at h2
     ·omega
     ·rw[af (by omega)]
   ·split at h1
    ·omega
    ·split at h2
     ·rw[af (by omega)]
     ·split at h2
      ·omega
      ·rw[ae (by omega),ae (by omega)];exact ih h1 h2
def qpt:Cmp compareBytes:=
 ⟨GU,Vm,Up,λ a b c h=>by rw[Gx a b h]⟩
def eh:aa (T->Int)->aa T->Int
 |r::a,b::c=>thn (r b) (eh a c)
 |_,_=>0
def nn(a b:T):Int:=
 thn (sgn (size a) (size b)) (thn (sgn a.kind b.kind) (thn (compareBytes a.name b.name) (thn (sgn a.sort b.sort) (sgn (X a.kids) (X b.kids)))))
def aO:T->T->Int:=T.para λ a c b=>thn (nn a b) (eh c b.kids)
def rq(a b:T):aO a b=thn (nn a b) (eh (a.kids.map aO) b.kids):=sw (T.para_eq _ _) b
def rd:Cmp nn:=
 (H8.on λ t:T=>(size t:Int)).thn ((H8.on T.kind).thn ((qpt.on T.name).thn ((H8.on T.sort).thn (H8.on λ t:T=>(X t.kids:Int)))))
def uI{x y:Int}(h:thn x y=0):x=0/\y=0:=by unfold thn at h;split at h<;>omega
def L8{a b:T}(h:nn a b=0):a.kind=b.kind/\a.name=b.name/\a.sort=b.sort/\X a.kids=X b.kids:=by
 unfold nn at h;let⟨_,h⟩:=uI h;let⟨f,h⟩:=uI h;let⟨e,h⟩:=uI h;let⟨d,c⟩:=uI h;have:=AG c;exact⟨AG f,Gx _ _ e,AG d,by omega⟩
def qnA(a:T):nn a a=0:=by
 unfold nn thn;simp[qoE,Vi]
def T.ext{a b:T}(f:a.kind=b.kind)(e:a.name=b.name)(d:a.sort=b.sort)(c:a.kids=b.kids):a=b:=by
 let⟨k,n,s,l⟩:=a;let⟨i,h,g,l'⟩:=b;simp only[T.kind,T.name,T.sort,T.kids]at f e d c;rw[f,e,d,c]
theorem nG(a:T):aO a a=0:=by
 refine T.ind (P:=λ a=>aO a a=0) ?_ a;intro a c;rw[rq,qnA,thn,af rfl];generalize a.kids=l at*
 induction l with
 |nil=>rfl
 |cons x l b=>
   rw[aU,eh,c x (aX ..),thn,af rfl];exact b λ k d=>c k (aT _ d)
theorem mQ(a:T):∀b,aO a b=0->a=b:=by
 refine T.ind (P:=λ a=>∀b,aO a b=0->a=b) ?_ a;intro a e b h;rw[rq]at h;let⟨g,f⟩:=uI h;let⟨n,j,i,c⟩:=L8 g;apply T.ext n j i;generalize a.kids=l at *;generalize b.kids=m at *;clear h g
 induction l generalizing m with
 |nil=>exact(yH.1 c.symm).symm
 |cons x l d=>
   cases m with
   |nil=>simp at c
   |cons y m=>
     rw[aU,eh]at f;let⟨q,p⟩:=uI f;rw[e x (aX ..) y q,d (λ k o=>e k (aT _ o)) m p (by simpa using c)]
def Bj(a:T):Prop:=(∀b,aO a b=-1\/aO a b=0\/aO a b=1)/\(∀b,aO b a=- aO a b)/\(∀b c,aO a b=-1->aO b c=-1->aO a c=-1)
def VQ:∀l m:aa T,(∀k∈l,Bj k)->eh (l.map aO) m=-1\/eh (l.map aO) m=0\/eh (l.map aO) m=1
 |[],_,_|_::_,[],_=>by simp[eh]
 |x::l,y::m,h=>by
   rw[aU,eh];have c:=(h x (aX ..)).1 y;have b:=VQ l m λ k a=>h k (aT _ a);unfold thn;split<;>omega
def Vr:∀l m:aa T,(∀k∈l,Bj k)->eh (m.map aO) l=- eh (l.map aO) m
 |[],[],_|[],_::_,_|_::_,[],_=>by simp[eh]
 |x::l,y::m,h=>by
   rw[aU,eh,aU,eh];have c:=(h x (aX ..)).2.1 y;have b:=Vr l m λ k a=>h k (aT _ a);unfold thn;split<;>split<;>omega
def Ut:∀l m n:aa T,(∀k∈l,Bj k)->X l=X m->X m=X n->eh (l.map aO) m=-1->eh (m.map aO) n=-1->eh (l.map aO) n=-1
 |[],_,_,_,_,_,h,_=>by simp[eh]at h
 |_::_,[],_,_,h,_,_,_|_::_,_::_,[],_,_,h,_,_=>by simp at h
 |x::l,y::m,z::n,h,e1,j,b,a=>by
   rw[aU,eh]at b a |-
   have g:=h x (aX ..);have f:=Ut l m n (λ k i=>h k (aT _ i)) (by simpa using e1) (by simpa using j);have e:=g.2.2 y z;by_cases d:aO x y=0
   .have:=mQ x y d;subst this;rw[thn,af d]at b;by_cases c:aO x z=0
    .rw[thn,af c]at a |-
     exact f b a
    .rw[thn,ae c]at a |-
     exact a
   .rw[thn,ae d]at b;by_cases c:aO y z=0
    .have:=mQ y z c;subst this;rw[thn,ae d];exact b
    .rw[thn,ae c]at a;have:=e b a;rw[thn,ifN];exact this
def OG(a:T):Bj a:=by
 refine T.ind (P:=Bj) ?_ a;intro a i;refine⟨λ b=>?_,λ b=>?_,λ b c g d=>?_⟩
 .rw[rq];have g:=rd.rng a b;have d:=VQ a.kids b.kids i;unfold thn;split<;>omega
 .rw[rq,rq];have g:=rd.anti a b;have d:=Vr a.kids b.kids i;unfold thn;split<;>split<;>omega
 .rw[rq]at g d |-
  by_cases h:nn a b=0
  .rw[thn,af h]at g;have e:=rd.same a b c h;by_cases f:nn b c=0
   .rw[thn,af f]at d;rw[thn,af (by rw[<-e];exact f)];exact Ut _ _ _ i (L8 h).2.2.2 (L8 f).2.2.2 g d
   .rw[thn,ae f]at d;rw[thn,ae (by rw[<-e];exact f),<-e];exact d
  .rw[thn,ae h]at g;by_cases f:nn b c=0
   .have e1:=rd.anti b c;have l:=rd.same c b a (by omega);have k:=rd.anti a b;have j:=rd.anti a c;rw[thn,ifN];omega
   .rw[thn,ae f]at d;have:=rd.trans a b c g d;rw[thn,ifN];exact this
def dV:Cmp aO:=
 ⟨λ a=>(OG a).1,λ a b=>(OG a).2.1 b,λ a=>(OG a).2.2,λ a b c h=>by rw[mQ a b h]⟩
def qn1(a b:T):aO a b=0↔a=b:=⟨mQ a b,λ h=>by rw[h];exact nG b⟩
def SV:∀a b:aa aN,Op.bytesLess a b=J (compareBytes a b=-1)
 |[],[]|[],_::_|_::_,[]=>by simp[Op.bytesLess,compareBytes]
 |x::a,y::b=>by
   rw[Op.bytesLess,compareBytes,SV a b];by_cases d:x<y
   .simp[d]
   .by_cases c:y<x
    .have:¬ x=y:=λ e=>by rw[e]at c;exact d (by rw[e];exact c)
     simp[d,c,this]
    .have:x=y:=UInt8.toNat_inj.1 (by rw[QO]at d c;omega);simp[this]
end Go.GxZ
namespace Go.GxZ
def og:aa (Int->Int)->Int->Int
 |[],m=>m
 |f::a,m=>if f m<0 then -1 else og a (f m)
def gm:T->Int->Int:=T.para λ t a m=>if m<=0\/40<X t.name then -1 else og a (m-1)
theorem YD(t:T)(m:Int):gm t m=if m<=0\/40<X t.name then -1 else og (t.kids.map gm) (m-1):=sw (T.para_eq _ _) m
def L3(t:T):∀m,gm t m<0/\gm t m=-1\/0<=gm t m/\gm t m=m-size t:=by
 refine T.ind (P:=λ t=>∀m,gm t m<0/\gm t m=-1\/0<=gm t m/\gm t m=m-size t) ?_ t;intro t e m
 have g:∀l:aa T,(∀k∈l,k∈t.kids)->∀m,0<=m->(og (l.map gm) m<0/\og (l.map gm) m=-1\/0<=og (l.map gm) m/\og (l.map gm) m=m-((l.map size).sum:Nat)):=by
  intro l
  induction l with
  |nil=>intro _ m b;right;simp[og];exact b
  |cons x l a=>
    intro c m b;simp only[aU,og,gc];have i:=e x (c x (aX ..)) m;by_cases d:gm x m<0
    .rw[af d];left;exact⟨by omega,rfl⟩
    .rw[ae d];have h:=a (λ k f=>c k (aT _ f)) (gm x m) (by omega);omega
 grind [YD,cM]
def gN:T->Nat:=T.para λ _ a=>a.foldl max 0+1
def xB(t:T):gN t=(t.kids.map gN).foldl max 0+1:=T.para_eq _ _
def qjG(l:aa Nat):∀(a b:Nat),a<=b->(∀x∈l,x<=b)->l.foldl max a<=b:=by
 induction l with
 |nil=>intro a b h _;exact h
 |cons x l d=>intro a b h c;exact d _ _ (Nat.max_le.2 ⟨h,c x (aX ..)⟩) λ y e=>c y (aT _ e)
def NO(t:T):gN t<=size t:=by
 refine T.ind (P:=λ t=>gN t<=size t) ?_ t;intro t b;rw[xB,cM]
 have:(t.kids.map gN).foldl max 0<=(t.kids.map size).sum:=by
  refine qjG _ _ _ (aG _) λ x c=>?_;obtain⟨k,a,rfl⟩:=bF.1 c;exact bL (b k a) (F0 _ _ a)
 omega
def nl(c:Int):Bool:=J (97<=c/\c<=122)||J (65<=c/\c<=90)
def vC(c:Int):Bool:=J (48<=c/\c<=57)
def gG(c:Int):Bool:=nl c||vC c||J (c=95)||J (c=35)
def dc(l:aa aN):Bool:=J (0<X l)&&J (X l<=24)&&nl ((l.getD 0 0).toNat:Int)&&l.all λ c=>gG (c.toNat:Int)
def na(k so:Int)(n:Nat)(a:Bool):Int:=
 if k=1\/k=2 then(if so<0\/5<so\/0<n then 1 else if a then 0 else 2)
 else if k=3 then(if so≠0 then 1 else if a then(if 8<n then 3 else 0)else 2)
 else 1
def fI(t:T):Int:=na t.kind t.sort (X t.kids) (dc t.name)
def jC:T->Int:=T.para λ t a=>a.foldl thn (fI t)
def uv(t:T):jC t=(t.kids.map jC).foldl thn (fI t):=T.para_eq _ _
def gT{x:Int}(h:x≠0)(y:Int):thn x y=x:=ae h
theorem fN(l:aa Int):∀{x:Int},x≠0->l.foldl thn x=x:=by
 induction l with
 |nil=>intro x _;rfl
 |cons y l a=>intro x h;rw[jP,gT h];exact a h
def qN(l:aa Int)(x:Int):(x::l).foldl thn 0=l.foldl thn x:=rfl
def LA{t:T}(h:jC t=0:=by omega):fI t=0/\(∀k∈t.kids,jC k=0):=by
 rw[uv]at h;by_cases a:fI t=0
 .refine⟨a,?_⟩;rw[a]at h;generalize t.kids=l at *;clear a
  induction l with
  |nil=>intro k b;cases b
  |cons x l c=>
    rw[aU,qN]at h;grind [fN]
 .grind [fN]
def aW(t:T):Int:=if jC t≠0 then jC t else if 400<size t\/40<gN t then 3 else 0
def qjt(l:aa Nat):∀a:Nat,a<=l.foldl max a:=by
 induction l with
 |nil=>intro a;exact ak _
 |cons x l b=>intro a;exact bL (Qu a x) (b _)
instance:DecidableEq T:=λ _ _=>Classical.propDecidable _
def cg(a b:T):Bool:=J (a=b)
def pa:aa T->Int->Bool
 |[],_=>O
 |x::l,m=>if gm x m<0 then Y else pa l (gm x m)
def Vy:∀(l:aa T) (m:Int),0<=m->pa l m=O->((l.map size).sum:Nat)<=m
 |[],m,a,_=>by simpa using a
 |x::l,m,a,h=>by
   rw[pa]at h;by_cases b:gm x m<0
   .grind
   .rw[ae b]at h;have d:=L3 x m;have c:=Vy l (gm x m) (by omega) h;grind
def dv:aa (aa aN×Int×Int×Int):=[
 ([112,97,105,114],2,2,1),
 ([101,110,99],2,2,1),
 ([97,101,110,99],2,2,1),
 ([112,107],1,1,1),
 ([115,105,103,110],2,2,1),
 ([104,97,115,104],1,1,1),
 ([120,111,114],2,8,1),
 ([122,101,114,111],0,0,1),
 ([101,120,112],2,2,1),
 ([109,117,108],2,8,1),
 ([105,110,118],1,1,1),
 ([111,110,101],0,0,1),
 ([115,107],1,1,2),
 ([115,104,107],2,2,2),
 ([110,101,119],1,8,2),
 ([102,115,116],1,1,3),
 ([115,110,100],1,1,3),
 ([100,101,99],2,2,3),
 ([97,100,101,99],2,2,3),
 ([111,112,101,110],2,2,3),
 ([114,101,97,100],1,1,3)]
def yC(l:aa (aa aN×Int×Int×Int))(n:aa aN):Int×Int×Int:=((l.find? λ r=>r.1==n).map (·.2)).getD (0,0,0)
theorem qmS(r:aa aN×Int×Int×Int)(l:aa (aa aN×Int×Int×Int))(n:aa aN):yC (r::l) n=if(r.1==n)=O then r.2 else yC l n:=by
 grind [yC]
def P4(l:aa (aa aN×Int×Int×Int))(n:aa aN):Bool:=l.any λ r=>r.1==n
def pd(l:aa (aa aN×Int×Int×Int))(n:aa aN)(k:Int):Bool:=P4 l n&&J ((yC l n).1<=k)&&J (k<=(yC l n).2.1)
def qmP(r:aa aN×Int×Int×Int)(l:aa (aa aN×Int×Int×Int))(n:aa aN)(k:Int):
  pd (r::l) n k=if(r.1==n)=O then J (r.2.1<=k)&&J (k<=r.2.2.1)else pd l n k:=by
 grind [pd,P4,qmS]
def IX:aa aN:=[112,97,105,114]
def BC:aa aN:=[101,110,99]
def Bg:aa aN:=[97,101,110,99]
def nPk:aa aN:=[112,107]
def vf:aa aN:=[115,105,103,110]
def lr:aa aN:=[120,111,114]
def vb:aa aN:=[122,101,114,111]
def mA:aa aN:=[101,120,112]
def mn:aa aN:=[109,117,108]
def gk:aa aN:=[105,110,118]
def mu:aa aN:=[111,110,101]
def nSk:aa aN:=[115,107]
def vt:aa aN:=[115,104,107]
def mz:aa aN:=[110,101,119]
def Qd:aa aN:=[102,115,116]
def BB:aa aN:=[115,110,100]
def P3:aa aN:=[100,101,99]
def Ou:aa aN:=[97,100,101,99]
def Ok:aa aN:=[111,112,101,110]
def Ot:aa aN:=[114,101,97,100]
def zT:T:=.mk 0 [] 0 []
def kid(t:T)(i:Nat):T:=t.kids.getD i zT
def apT(n:aa aN)(l:aa T):T:=.mk 3 n 0 l
def isN(t:T)(n:aa aN):Bool:=t.kind==3&&t.name==n
def bW(n:aa aN):Int×Int×Int:=((dv.find? λ r=>r.1==n).map (·.2)).getD (0,0,0)
def iC(t:T):Bool:=
 if t.name=mz then J ((kid t 0).kind≠2)
 else if t.name=nSk\/t.name=vt then t.kids.any λ k=>J (k.kind=3)||J (k.sort≠1)else Y
def gZ(t:T):Int:=
 if t.kind≠3 then 0 else if(bW t.name).2.2=0 then 10 else if(X t.kids:Int)<(bW t.name).1\/(bW t.name).2.1<(X t.kids:Int)then 6 else if iC t then 10 else 0
def bT:T->Int:=T.para λ t a=>if t.kind≠3 then 0 else a.foldl thn (gZ t)
theorem xw(t:T):bT t=if t.kind≠3 then 0 else(t.kids.map bT).foldl thn (gZ t):=T.para_eq _ _
def my(t:T):Int:=thn (aW t) (bT t)
def ku(t:T):Bool:=
 if t.name=Qd\/t.name=BB then isN (kid t 0) IX
 else if t.name=P3 then isN (kid t 0) BC&&cg (kid (kid t 0) 1) (kid t 1)
 else if t.name=Ou then isN (kid t 0) Bg&&isN (kid (kid t 0) 1) nPk&&cg (kid (kid (kid t 0) 1) 0) (kid t 1)
 else if t.name=Ok then isN (kid t 0) vf&&isN (kid t 1) nPk&&cg (kid (kid t 0) 1) (kid (kid t 1) 0)
 else if t.name=Ot then isN (kid t 0) vf else Y
def rT(t:T):T:=if ku t then kid (kid t 0) (if t.name=BB then 1 else 0)else t
def lY(t:T):Bool:=t.kind==3&&(t.name==mn||t.name==gk||t.name==mu)
abbrev Pw:=T×Int
def de:aa Pw->T->Int->aa Pw
 |[],t,n=>[(t,n)]
 |(x,m)::l,t,n=>if aO t x=-1 then(t,n)::(x,m)::l else if aO t x=0 then(if m+n=0 then l else(x,m+n)::l)else(x,m)::de l t n
def arK(t:T):Bool := !(t.name==mu&&X t.kids != 0||t.name==gk&&X t.kids != 1||t.name==mn&&J (X t.kids<2))
def arT:T->Bool:=T.para λ t a => !lY t||(arK t&&a.all id)
theorem Zn(t:T):arT t=(!lY t||(arK t&&(t.kids.map arT).all id)):=T.para_eq _ _
def hY(t:T)(n:Int):Int:=if t.name=gk then -n else n
def dt:T->aa Pw->Int->aa Pw:=T.para λ t a l n=>if lY t then a.foldl (λ l f=>f l (hY t n)) l else de l t n
theorem xA(t:T)(l:aa Pw)(n:Int):dt t l n=if lY t then(t.kids.map dt).foldl (λ l f=>f l (hY t n)) l else de l t n:=by
 have h:dt t=λ l n=>if lY t then(t.kids.map dt).foldl (λ l f=>f l (hY t n)) l else de l t n:=T.para_eq _ _;rw[h]
def ofP(t:T):aa Pw×Int:=
 if aW t≠0 then([],aW t)else if arT t=Y then([],6)else if 200<X (dt t [] 1) then([],3)else(dt t [] 1,0)
def pvK(q:ab T)(p:Pw):Int:=
 if aW p.1≠0 then aW p.1 else if lY p.1 then 1 else if p.2=0\/p.2 < -1000\/1000<p.2 then 7 else match q with|Z x=>if 0<=aO x p.1 then 5 else 0|U=>0
def pvL:ab T->aa Pw->Int
 |_,[]=>0
 |q,p::l=>thn (pvK q p) (pvL (Z p.1) l)
def gX(l:aa Pw):Int:=if 200<X l then 3 else pvL U l
def du(l:aa Pw):aa T:=l.flatMap λ p=>List.replicate p.2.toNat p.1
def dx(l:aa Pw):aa T:=l.flatMap λ p=>List.replicate (-p.2).toNat (apT gk [p.1])
def jm(o:aa T):T:=if X o=0 then apT mu []else if X o=1 then o.getD 0 zT else apT mn o
def lh(l:aa Pw):T×Int:=
 if gX l≠0 then(zT,gX l)else if 8<X (du l++dx l) then(zT,3)
 else if aW (jm (du l++dx l))≠0 then(zT,aW (jm (du l++dx l)))else(jm (du l++dx l),0)
def vH(l:aa Pw):Bool:=l.any λ p=>J (p.2 < -1000)||J (1000<p.2)
def fK(a b:aa Pw):aa Pw:=b.foldl (λ l p=>de l p.1 p.2) a
def qw(a b:aa Pw):aa Pw×Int:=
 if gX a≠0 then([],gX a)else if gX b≠0 then([],gX b)else if vH (fK a b)then([],7)else if 200<X (fK a b) then([],3)else(fK a b,0)
def dB:aa T->aa T->aa T
 |[],b=>b
 |x::a,[]=>x::a
 |x::a,y::b=>if aO x y=-1 then x::dB a (y::b)else if aO x y=1 then y::dB (x::a) b else dB a b
termination_by a b=>X a+X b
def iO:T->aa T:=T.para λ t a=>if isN t vb&&t.kids.isEmpty then[]else if isN t lr then a.foldl dB []else[t]
def MA(t:T):iO t=if isN t vb&&t.kids.isEmpty then[]else if isN t lr then(t.kids.map iO).foldl dB []else[t]:=T.para_eq _ _
def Is(l:aa T):Int:=if 200<X l then 3 else(l.map aW).foldl thn 0
def eO(l:aa T):aa T:=(l.map iO).foldl dB []
def iF(o:aa T):T:=if X o=0 then apT vb []else if X o=1 then o.getD 0 zT else apT lr o
def yF(l:aa T):T×Int:=
 if Is l≠0 then(zT,Is l)else if aW (iF (eO l))≠0 then(zT,3)else(iF (eO l),0)
def qh(b:T)(l:aa Pw):T×Int:=
 if X l=0 then(b,0)else if(lh l).2≠0 then(zT,(lh l).2)else(apT mA [b,(lh l).1],0)
def yi(b e:T):T×Int:=
 if(ofP e).2≠0 then(zT,(ofP e).2)
 else if isN b mA then
  (if(ofP (kid b 1)).2≠0 then(zT,(ofP (kid b 1)).2)
   else if(qw (ofP (kid b 1)).1 (ofP e).1).2≠0 then(zT,(qw (ofP (kid b 1)).1 (ofP e).1).2)
   else qh (kid b 0) (qw (ofP (kid b 1)).1 (ofP e).1).1)
 else qh b (ofP e).1
def isD(n:aa aN):Bool:=n==Qd||n==BB||n==P3||n==Ou||n==Ok||n==Ot
def Bc(t:T):T×Int:=if(ofP t).2≠0 then(zT,(ofP t).2)else lh (ofP t).1
def gu(t:T):T×Int:=
 if isD t.name then(rT t,0)else if t.name=lr then yF t.kids
 else if t.name=mn\/t.name=gk\/t.name=mu then Bc t
 else if t.name=mA then yi (kid t 0) (kid t 1)else(t,0)
def ch:T->T×Int:=T.para λ t a=>
 if t.kind≠3 then(t,0)else if(a.map (·.2)).foldl thn 0≠0 then(zT,(a.map (·.2)).foldl thn 0)else gu (apT t.name (a.map (·.1)))
def H9(t:T):ch t=if t.kind≠3 then(t,0)else if((t.kids.map ch).map (·.2)).foldl thn 0≠0 then(zT,((t.kids.map ch).map (·.2)).foldl thn 0)else gu (apT t.name ((t.kids.map ch).map (·.1))):=T.para_eq _ _
def xt(t:T):T×Int:=
 if my t≠0 then(zT,my t)else if(ch t).2≠0 then(zT,(ch t).2)else if aW (ch t).1≠0 then(zT,aW (ch t).1)else ch t
def agB(l:aa T):Bool:=l.all λ k => !(k.kind==3) && !(k.sort != 1)
def xF(t:T):Bool:=if t.name=mz then(kid t 0).kind==2 else agB t.kids
def qpD(k:T)(l:aa T):agB (k::l)=((!(k.kind==3) && !(k.sort != 1))&&agB l):=rfl
end Go.GxZ
namespace Go.AmZ
open GxZ
section
open Lib
def GH(a b:Int):Ev (λ m _=>tM m a b) (sgn a b):=by
 apply aB;simp only[qg9,Ku];unfold sgn;refine av (λ h=>?_) λ h=>?_
 .exact am (by rw[af (aY.1 h)])
 .rw[ba]at h;refine av (λ c=>?_) λ c=>?_
  .rw[aY]at c;exact am (by rw[ifN,af c])
  .rw[ba]at c;exact am (by rw[ifN,ifN])
def Mw{l:aa T}{i:Nat}{x:T}(h:l.drop i=x::l.drop (i+1)):((l.drop i).map size).sum=size x+((l.drop (i+1)).map size).sum:=by
 grind
def Hs(t:T):size t<=1000000000->Ev (λ m _=>jx m t) (size t:Int):=by
 induction t using T.ind with
 |h t d=>
   intro p;apply aB;simp only[qjy,EM];have q:=fE t;have j:=cM t
   have b:=aV (P:=λ i=>∀a:Nat,a+((t.kids.drop i).map size).sum<=1000000000->Ev (λ m k=>tO m (jx m) k a i t.kind t.name t.sort t.kids) ((a+((t.kids.drop i).map size).sum:Nat):Int)) t.kids (by omega)
    (λ c a _=>by
     apply aq;simp only[S2,Ep];apply ai c;exact am (by simp))
    (λ i x e l c g f o a n=>by
     rw[Mw l]at n |-
     apply aq;simp only[S2,Ep];refine ag c (al g ?_);rw[ay];apply ah (d x (aK e) (by omega));rw[f,qX,dA];refine(o (a+size x) (by omega)).res (by congr 1;omega))
   apply bd (L:=λ m k=>tO m (jx m) k 1 0 t.kind t.name t.sort t.kids);refine(b 0 (aG _) 1 (by simp;omega)).res (by rw[bH,j])
def VY(a b:Nat):pb (a:Int) (b:Int)=((max a b:Nat):Int):=by unfold pb;split<;>omega
def H4(a b:Int):Ev (λ m _=>uD m a b) (sgn a b):=by
 apply aB;simp only[qkX,Lp];unfold sgn;refine av (λ h=>?_) λ h=>?_
 .exact am (by rw[af (aY.1 h)])
 .rw[ba]at h;refine av (λ c=>?_) λ c=>?_
  .rw[aY]at c;exact am (by rw[ifN,af c])
  .rw[ba]at c;exact am (by rw[ifN,ifN])
def Nc(t:T):size t<=1000000000->Ev (λ m _=>km m t) (size t:Int):=by
 induction t using T.ind with
 |h t d=>
   intro p;apply aB;simp only[qkD,Fk];have q:=fE t;have j:=cM t
   have b:=aV (P:=λ i=>∀a:Nat,a+((t.kids.drop i).map size).sum<=1000000000->Ev (λ m k=>tX m (km m) k a t.kids (X t.kids) i) ((a+((t.kids.drop i).map size).sum:Nat):Int)) t.kids (by omega)
    (λ c a _=>by
     apply aq;simp only[Tn,E4];apply ai c;exact am (by simp))
    (λ i x e l c g f o a n=>by
     rw[Mw l]at n |-
     apply aq;simp only[Tn,E4];refine ag c (al g ?_);rw[ay];apply ah (d x (aK e) (by omega));rw[f,qX,dA];refine(o (a+size x) (by omega)).res (by congr 1;omega))
   apply bd (L:=λ m k=>tX m (km m) k 1 t.kids (X t.kids) 0);refine(b 0 (aG _) 1 (by simp;omega)).res (by rw[bH,j])
def qnN(t:T):size t<=1000000000->Ev (λ m _=>lL m t) (gN t:Int):=by
 induction t using T.ind with
 |h t e=>
   intro o;apply aB;simp only[qiB,Ea];have p:=fE t;have q:=cM t
   have b:=aV (P:=λ i=>∀a:Nat,a<=1000000000->Ev (λ m k=>tv m (lL m) k a i t.kind t.name t.sort t.kids) ((((t.kids.drop i).map gN).foldl max a+1:Nat):Int)) t.kids (by omega)
    (λ c a _=>by
     apply aq;simp only[Sw,Ef];apply ai c;rw[show aw (a:Int) 1=((a+1:Nat):Int) by unfold aw;omega,dA];exact am (by simp))
    (λ i x f l c j g n a r=>by
     apply aq;simp only[Sw,Ef];refine ag c (al j ?_);rw[ay];have d:=aK f;have u:=dW t x d;have s:=NO x;apply ah (e x d (by omega));rw[g,VY];apply (n (max a (gN x)) (by omega)).res;rw[l,aU,jP])
   apply bd (L:=λ m k=>tv m (lL m) k 0 0 t.kind t.name t.sort t.kids);refine(b 0 (aG _) 0 (by omega)).res (by rw[bH,xB])
def Wf(a:aa (T->Int)):eh a []=0:=by cases a<;>rfl
def UN{l m:aa T}{i:Nat}{x y:T}(b:l.drop i=x::l.drop (i+1))(a:m.drop i=y::m.drop (i+1)):eh ((l.drop i).map aO) (m.drop i)=thn (aO x y) (eh ((l.drop (i+1)).map aO) (m.drop (i+1))):=by
 rw[b,a,aU];rfl
def Na{l:aa T}{i:Nat}{y:T}(h:l[i]?=Z y):l.drop i=y::l.drop (i+1):=by
 grind [List.getElem?_eq_some_iff,List.drop_eq_getElem_cons]
theorem MY(a b:aa aN):slt a b=J (compareBytes a b=-1):=SV a b
def WW(a b:aa aN):rY (slt a b) (bq a b)=J (compareBytes a b≠1):=by
 grind [rY,bq,MY,GU,Gx,beq_eq_false_iff_ne,Vi]
theorem Lx(a:T):size a<=1000000000->∀ b,size b<=1000000000->Ev (λ m _=>jY m a b) (aO a b):=by
 induction a using T.ind with
 | h a ih =>
   intro ha b hb;refine aB ?_;simp only[qgV,De,ay];have hla:=fE a;have hlb:=fE b;rw[rq];unfold nn;refine ah (Hs a ha) (ah (Hs b hb) (ah (GH _ _) ?_));refine av (λ h=>?_) λ h=>?_
   ·rw[bnt,aC]at h;exact am (by rw[gT (by rw[gT h];exact h),gT h])
   rw[bnf,aD]at h;rw[h,show ∀ y,thn 0 y=y from λ y=>rfl];refine ah (GH _ _) ?_;refine av (λ h=>?_) λ h=>?_
   ·rw[bnt,aC]at h;exact am (by rw[gT (by rw[gT h];exact h),gT h])
   rw[bnf,aD]at h;rw[h,show ∀ y,thn 0 y=y from λ y=>rfl];refine av (λ h=>?_) λ h=>?_
   ·rw[MY,cV]at h;exact am (by rw[h];rfl)
   rw[MY,pq]at h;refine av (λ h'=>?_) λ h'=>?_
   ·rw[bnt,WW,pq,Decidable.not_not]at h';exact am (by rw[h'];rfl)
   rw[bnf,WW,cV]at h';have h0:compareBytes a.name b.name=0:=by have:=GU a.name b.name;omega
   rw[h0,show ∀ y,thn 0 y=y from λ y=>rfl];refine ah (GH _ _) ?_;refine av (λ h=>?_) λ h=>?_
   ·rw[bnt,aC]at h;exact am (by rw[gT (by rw[gT h];exact h),gT h])
   rw[bnf,aD]at h;rw[h,show ∀ y,thn 0 y=y from λ y=>rfl];refine ah (GH _ _) ?_;refine av (λ h=>?_) λ h=>?_
   ·rw[bnt,aC]at h;exact am (by rw[gT h])
   rw[bnf,aD]at h;rw[h,show ∀ y,thn 0 y=y from λ y=>rfl];have hlen:a.kids.length=b.kids.length:=by have:=AG h;omega
   have key:=aV (P := λ i=>Ev (λ m k=>sY m (jY m) k i a.kind a.name a.sort a.kids b.kind b.name b.sort b.kids) (eh ((a.kids.drop i).map aO) (b.kids.drop i))) a.kids (by omega)
    (λ hc=>by
     refine aq ?_;simp only[RG,Dq];refine ai hc ?_;exact am (by rw[hlen,bR,Wf]))
    (λ i x hx hd hc hg hi hP=>by
     refine aq ?_;simp only[RG,Dq,ay];have hib:i<b.kids.length:=by have:=(ft.1 hx).1;omega
     have hy:=aS hib;have hmx:=aK hx;have h1:=dW a x hmx;have h2:=dW b _ (aK hy);refine ag hc (al hg (al (by rw[db];exact hy) ?_));rw[UN hd (Na hy)];refine ah (ih x hmx (by omega) _ (by omega)) ?_;refine av (λ h=>?_) λ h=>?_
     ·rw[bnt,aC]at h;exact am (by rw[gT h])
     ·rw[bnf,aD]at h;rw[h,hi];exact hP)
   refine bd (L := λ m k=>sY m (jY m) k 0 a.kind a.name a.sort a.kids b.kind b.name b.sort b.kids) ?_;exact(key 0 (aG _)).res (by rw[bH,bH])
def qnP(a b:aa aN):Ev (λ m _=>strings_Compare 0 a b) (compareBytes a b):=au _
theorem mM(a:T):size a<=1000000000->∀ b,size b<=1000000000->Ev (λ m _=>cW m a b) (aO a b):=by
 induction a using T.ind with
 | h a ih =>
   intro ha b hb;refine aB ?_;simp only[qhq,DL,ay];have hla:=fE a;have hlb:=fE b;rw[rq];unfold nn
   have stop:∀ c:Int,c≠0->∀ i:Int,Ev (λ m k=>pw m (cW m) k c i a.kind a.name a.sort a.kids b.kind b.name b.sort b.kids) c:=by
    intro c hc i;refine aq ?_;simp only[Kz,zk];exact ai (aC.2 hc) (au c)
   have key:a.kids.length=b.kids.length->∀ i,i<=a.kids.length->Ev (λ m k=>pw m (cW m) k 0 i a.kind a.name a.sort a.kids b.kind b.name b.sort b.kids) (eh ((a.kids.drop i).map aO) (b.kids.drop i)) := λ hlen=>aV a.kids (by omega)
    (λ hc=>by
     refine aq ?_;simp only[Kz,zk];refine ag rfl (ai hc ?_);exact am (by rw[hlen,bR,Wf]))
    (λ i x hx hd hc hg hi hP=>by
     refine aq ?_;simp only[Kz,zk,ay];have hib:i<b.kids.length:=by have:=(ft.1 hx).1;omega
     have hy:=aS hib;have hmx:=aK hx;have h1:=dW a x hmx;have h2:=dW b _ (aK hy);refine ag rfl (ag hc (al hg (al (by rw[db];exact hy) ?_)));rw[UN hd (Na hy)];refine ah (ih x hmx (by omega) _ (by omega)) ?_;rw[hi];by_cases h:aO x b.kids[i]=0
     ·rw[h];exact hP
     ·rw[gT h];exact stop _ h _)
   have fin:∀ c:Int,(c=0->a.kids.length=b.kids.length)->Ev (λ m k=>pw m (cW m) m c 0 a.kind a.name a.sort a.kids b.kind b.name b.sort b.kids) (thn c (eh (a.kids.map aO) b.kids)):=by
    intro c hc;refine bd (L := λ m k=>pw m (cW m) k c 0 a.kind a.name a.sort a.kids b.kind b.name b.sort b.kids) ?_;by_cases h:c=0
    ·subst h;exact(key (hc rfl) 0 (aG _)).res (by rw[bH,bH];rfl)
    ·rw[gT h];exact stop c h 0
   refine ah (Nc a ha) (ah (Nc b hb) (ah (H4 _ _) ?_));have z0:∀ y,thn 0 y=y := λ y=>rfl;by_cases h1:sgn (size a:Int) (size b)=0
   ·rw[h1,z0];refine ag rfl (ah (H4 _ _) ?_);by_cases h2:sgn a.kind b.kind=0
    ·rw[h2,z0];refine ag rfl (ah (qnP _ _) ?_);by_cases h3:compareBytes a.name b.name=0
     ·rw[h3,z0];refine ag rfl (ah (H4 _ _) ?_);by_cases h4:sgn a.sort b.sort=0
      ·rw[h4,z0];refine ag rfl (ah (H4 _ _) ?_);grind [AG]
      ·rw[gT h4];refine ai (aC.2 h4) ?_;exact fin _ λ h=>absurd h h4
     ·rw[gT h3];refine ai (aC.2 h3) (ai (aC.2 h3) ?_);exact fin _ λ h=>absurd h h3
    ·rw[gT h2];refine ai (aC.2 h2) (ai (aC.2 h2) (ai (aC.2 h2) ?_));exact fin _ λ h=>absurd h h2
   ·rw[gT h1];refine ai (aC.2 h1) (ai (aC.2 h1) (ai (aC.2 h1) (ai (aC.2 h1) ?_)));exact fin _ λ h=>absurd h h1
def H7(a b:T):ieq (aO a b) 0=cg a b:=by
 unfold cg;rw[iX,aD,cV];exact qn1 a b
def lP(a b:T)(d:size a<=1000000000:=by omega)(c:size b<=1000000000:=by omega):Ev (λ m _=>jy m a b) (cg a b):=by
 apply aB;simp only[qjE,K0,ay];apply ah (Lx a d b c);exact am (H7 a b)
def Hx(a b:T)(d:size a<=1000000000)(c:size b<=1000000000):Ev (λ m _=>py m a b) (cg a b):=by
 apply aB;simp only[qji,KV,ay];apply ah (mM a d b c);exact am (H7 a b)
theorem qq8(a b:Int):ieq a b=J (a=b):=by rw[iX,aD,cV]
def Vw(c:Int):Ev (λ m _=>zK m c) (nl c):=by
 apply aB;simp only[qh7,KA];refine(au (nl c)).congr λ m k=>?_;grind [nl,ile]
def qog(c:Int):Ev (λ m _=>FG m c) (vC c):=by
 apply aB;simp only[qia,KJ];refine(au (vC c)).congr λ m k=>?_;grind [vC,ile]
def YV(c:Int):Ev (λ m _=>Am m c) (gG c):=by
 apply aB;simp only[qk2,Lq];refine(au (gG c)).congr λ m k=>?_;grind [gG,nl,vC,ile,qq8]
def U6(l:aa aN):Ev (λ m _=>tT m l) (dc l):=by
 apply aB;simp only[qh3,DJ];cases l with
 |nil=>exact ag rfl (au _)
 |cons c r=>
   refine ai (aC.2 (by simp;omega)) ?_;refine av (λ h=>?_) λ h=>?_
   .rw[aY]at h;apply am;grind [dc]
   rw[ba]at h;refine al (nH _) (ah (Vw _) ?_)
   have o:dc (c::r)=(nl (c.toNat:Int)&&(c::r).all λ c=>gG (c.toNat:Int)):=by
    grind [dc]
   rw[o];cases b:nl (c.toNat:Int)with
   |false=>exact ag rfl (au _)
   |true=>
     apply ai rfl
     have g:=aV (P:=λ i=>Ev (λ m k=>tj m k (c::r) i) (((c::r).drop i).all λ c=>gG (c.toNat:Int))) (c::r) (by omega)
      (λ b=>by
       apply aq;simp only[Sd,DD];refine ai b (am ?_);rw[bR];rfl)
      (λ i x s q b a p d=>by
       apply aq;simp only[Sd,DD];refine ag b (al a (ah (Vw _) ?_));rw[q,dy,p];cases n:nl (x.toNat:Int)with
       |true=>exact ai rfl (d.res (by simp[gG,n]))
       |false=>
         refine ag rfl (al a (ah (qog _) ?_));cases j:vC (x.toNat:Int)with
         |true=>exact ai rfl (d.res (by simp[gG,j]))
         |false=>
           refine ag rfl (al a ?_);by_cases f:(x.toNat:Int)=95
           .exact ai (bnf.2 (aD.2 f)) (d.res (by simp[gG,f]))
           .refine ag (bnt.2 (aC.2 f)) (al a ?_);by_cases e:(x.toNat:Int)=35
            .exact ai (bnf.2 (aD.2 e)) (d.res (by simp[gG,e]))
            .exact ag (bnt.2 (aC.2 e)) (am (by unfold gG;rw[n,j,bv f,bv e];rfl)))
     apply bd (L:=λ m k=>tj m k (c::r) 0);exact(g 0 (aG _)).res (by rw[bH];rfl)
def qpn(c:Int):(gG c&&(!(J (48<=c)&&J (c<=57))&&(!(J (c=95)) && !(J (c=35)))))=nl c:=by
 grind [gG,vC,nl]
def qlZ(l:aa aN):Ev (λ m _=>wK m l) (dc l):=by
 apply aB;simp only[qiD,Ee];cases l with
 |nil=>exact ag rfl (au _)
 |cons c r=>
   apply ai rfl;refine av (λ h=>?_) λ h=>?_
   .rw[aY]at h;apply am;grind [dc]
   rw[ba]at h;refine al (nH _) (ah (YV _) ?_)
   have o:dc (c::r)=(nl (c.toNat:Int)&&(c::r).all λ c=>gG (c.toNat:Int)):=by
    grind [dc]
   rw[o,<-qpn]
   have e:=aV (P:=λ i=>Ev (λ m k=>px m k (c::r) (X (c::r)) i) (((c::r).drop i).all λ c=>gG (c.toNat:Int))) (c::r) (by omega)
    (λ f=>by
     apply aq;simp only[SF,D3];refine ai f (am ?_);rw[bR];rfl)
    (λ i x y s f q p t=>by
     apply aq;simp only[SF,D3];refine ag f (al q (ah (YV _) ?_));rw[s,dy,p];cases w:gG (x.toNat:Int)with
     |true=>exact ai rfl (t.res (by simp))
     |false=>exact ag rfl (au _))
   have g:Ev (λ m _=>px m m (c::r) (X (c::r)) 0) ((c::r).all λ c=>gG (c.toNat:Int)):=by
    apply bd (L:=λ m k=>px m k (c::r) (X (c::r)) 0);exact(e 0 (aG _)).res (by rw[bH])
   have a:ao (c::r) 0=Z c:=nH _
   have u:Ev (λ m _=>cond (ieq (c.toNat:Int) 95) (Z Y) (ac (ao (c::r) 0) λ v=>cond (ieq (v.toNat:Int) 35) (Z Y) (px m m (c::r) (X (c::r)) 0))) ((!(J ((c.toNat:Int)=95)) && !(J ((c.toNat:Int)=35)))&&(c::r).all λ c=>gG (c.toNat:Int)):=by
    by_cases d:(c.toNat:Int)=95
    .exact ag (aD.2 d) (am (by rw[bg d];rfl))
    .refine ai (aC.2 d) (al a ?_);rw[bv d];by_cases b:(c.toNat:Int)=35
     .exact ag (aD.2 b) (am (by rw[bg b];rfl))
     .refine ai (aC.2 b) (g.res ?_);rw[bv b];rfl
   cases w:gG (c.toNat:Int)with
   |false=>exact ag rfl (au _)
   |true=>
     refine ai rfl (al a ?_);by_cases n:48<=(c.toNat:Int)
     .refine ag (gK.2 n) (al a ?_);by_cases j:(c.toNat:Int)<=57
      .exact ag (gK.2 j) (am (by rw[bg n,bg j];rfl))
      .refine ai (li.2 (by omega)) (al a ?_);grind
     .refine ai (li.2 (by omega)) (al a ?_);grind
def qrl(t:T):Ev (λ m _=>Gg m t) (fI t):=by
 apply aB;simp only[qj7,Lf];unfold fI na
 have i:∀{R:Int},(∀b,dc t.name=b->(if b then(if 8<X t.kids then 3 else 0)else 2)=R)->Ev (λ m _=>ac (tT m t.name) λ v=>cond (ap v) (Z 2) (cond (ilt 8 (X t.kids:Int)) (Z 3) (Z 0))) R:=by
  intro R h;apply ah (U6 _);refine Ev.res ?_ (h _ rfl);cases k:dc t.name with
  |false=>exact ag rfl (au _)
  |true=>
    apply ai rfl;refine av (λ h=>?_) λ h=>?_
    .rw[aY]at h;exact am (by rw[af rfl,ifP])
    .rw[ba]at h;exact am (by rw[af rfl,ifN])
 have g:X t.kids=0->∀{R:Int},(∀b,dc t.name=b->(if b then 0 else 2)=R)->Ev (λ m _=>ac (tT m t.name) λ v=>cond (ap v) (Z 2) (cond (ilt 8 (X t.kids:Int)) (Z 3) (Z 0))) R:=by
  grind
 by_cases f:t.kind=1
 .rw[af (.inl f)];apply ag (aD.2 f);refine av (λ h=>?_) λ h=>?_
  .rw[aY]at h;exact am (by rw[af (.inl h)])
  rw[ba]at h;refine av (λ c=>?_) λ c=>?_
  .rw[aY]at c;exact am (by rw[af (.inr (.inl c))])
  rw[ba]at c;refine av (λ a=>?_) λ a=>?_
  .rw[aY]at a;exact am (by rw[af (.inr (.inr (by omega)))])
  rw[ba]at a;grind
 apply ai (aC.2 f);by_cases d:t.kind=2
 .rw[af (.inr d)];apply ai (bnf.2 (aD.2 d));refine av (λ h=>?_) λ h=>?_
  .rw[aY]at h;exact am (by rw[af (.inl h)])
  rw[ba]at h;refine av (λ c=>?_) λ c=>?_
  .rw[aY]at c;exact am (by rw[af (.inr (.inl c))])
  rw[ba]at c;refine ai (bnf.2 (aD.2 d)) (ag (aD.2 d) ?_);refine av (λ a=>?_) λ a=>?_
  .rw[aY]at a;exact am (by rw[af (.inr (.inr (by omega)))])
  rw[ba]at a;grind
 apply ag (bnt.2 (aC.2 d));rw[ifN];by_cases e:t.kind=3
 .rw[af e];apply ai (bnf.2 (aD.2 e));refine av (λ h=>?_) λ h=>?_
  .rw[aY]at h;exact am (by rw[ifP])
  rw[ba]at h;refine av (λ c=>?_) λ c=>?_
  .rw[aY]at c;exact am (by rw[ifP])
  rw[ba]at c;apply ag (bnt.2 (aC.2 d));refine av (λ a=>?_) λ a=>?_
  .rw[bnt,aC]at a;exact am (by rw[af a])
  rw[bnf,aD]at a;rw[ifN];apply ai (aC.2 d);exact i λ b j=>by rw[j]
 .rw[ae e];exact ag (bnt.2 (aC.2 e)) (au _)
def qpa(t:T):size t<=1000000000->Ev (λ m _=>lM m t) (jC t):=by
 induction t using T.ind with
 |h t d=>
   intro n;apply aB;simp only[qiQ,Eb,ay];have o:=fE t
   have a:=aV (P:=λ i=>Ev (λ m k=>tq m (lM m) k i t.kind t.name t.sort t.kids) (((t.kids.drop i).map jC).foldl thn 0)) t.kids (by omega)
    (λ b=>by
     apply aq;simp only[SC,D0];apply ai b;exact am (by simp))
    (λ i x e j b g f l=>by
     apply aq;simp only[SC,D0,ay];refine ag b (al g ?_);have c:=aK e;have p:=dW t x c;apply ah (d x c (by omega));rw[j,aU,qN,f];refine av (λ h=>?_) λ h=>?_
     .rw[bnt,aC]at h;exact am (by rw[fN _ h])
     .rw[bnf,aD]at h;rw[h];exact l)
   rw[uv];apply ah (qrl t);refine av (λ h=>?_) λ h=>?_
   .rw[bnt,aC]at h;exact am (by rw[fN _ h])
   .rw[bnf,aD]at h;rw[h];apply bd (L:=λ m k=>tq m (lM m) k 0 t.kind t.name t.sort t.kids);exact(a 0 (aG _)).res (by rw[bH])
def uA(t:T)(a:size t<=1000000000:=by omega):Ev (λ m _=>uf m t) (aW t):=by
 apply aB;simp only[qie,KP,ay];unfold aW;apply ah (qpa t a);refine av (λ h=>?_) λ h=>?_
 .rw[bnt,aC]at h;exact am (by rw[af h])
 rw[bnf,aD]at h;rw[ifN];apply ah (Hs t a);refine av (λ h=>?_) λ h=>?_
 .rw[aY]at h;exact am (by rw[af (.inl (by omega))])
 rw[ba]at h;apply ah (qnN t a);refine av (λ h=>?_) λ h=>?_
 .rw[aY]at h;exact am (by rw[af (.inr (by omega))])
 .rw[ba]at h;exact am (by rw[ifN])
def WA(b d:Nat):∀(l:aa Nat) (c:Nat),l.foldl (λ a x=>max a (b+x)) (max d (b+c))=max d (b+l.foldl max c)
 |[],c=>rfl
 |x::l,c=>by
   rw[jP,jP,<-WA b d l (max c x)];congr 1;omega
def qrL(a n d:Nat)(e:Int)(s:Nat)(x:Nat)(r:(Int×Int×Unit)×(Int×Unit)):Prop:=r.2.1=e/\(e=0->r.1.1=((n+s:Nat):Int)/\r.1.2.1=((max d (a+x):Nat):Int))
def qou(t:T):size t<=1000000000->∀c n d:Nat,c+size t<=2000000000->n+size t<=2000000000->d<=2000000000->∃r,Ev (λ m _=>iu m t c n d) r/\qrL c n d (jC t) (size t) (gN t-1) r:=by
 induction t using T.ind with
 |h t ih=>
   intro hs c n d S B an;have hl:=fE t;have ad:=cM t
   have H:=aV (P:=λ i=>∀n d:Nat,n+((t.kids.drop i).map size).sum<=2000000000->d<=2000000000->∃r,Ev (λ m k=>mK m (iu m) k c t.kids (X t.kids) i n d) r/\r.2.1=((t.kids.drop i).map jC).foldl thn 0/\(((t.kids.drop i).map jC).foldl thn 0=0->r.1.1=((n+((t.kids.drop i).map size).sum:Nat):Int)/\r.1.2.1=((((t.kids.drop i).map gN).foldl (λ a x=>max a (c+x)) d:Nat):Int))) t.kids (by omega)
    (λ M n d _ _=>by
     refine⟨((n,d,()),(0,())),?_,?_,λ _=>⟨?_,?_⟩⟩
     .apply aq;simp only[SM,Ey];exact ai M (au _)
     .simp
     .simp
     .simp)
    (λ i x hx hd M hg hi hP n d B K=>by
     have R:=aK hx;have q:=dW t x R;rw[Mw hd]at B;let⟨r,hr,C,hz⟩:=ih x R (by omega) (c+1) n d (by omega) (by omega) K
     have l:∀w ,(r.2.1≠0->w=((r.1.1,r.1.2.1,()),(r.2.1,())))->(r.2.1=0->Ev (λ m k=>mK m (iu m) k c t.kids (X t.kids) ((i+1:Nat):Int) r.1.1 r.1.2.1) w)->Ev (λ m k=>mK m (iu m) k c t.kids (X t.kids) i n d) w:=by
      intro w A u;apply aq;simp only[SM,Ey,ay];refine ag M (al hg ?_);rw[show aw (c:Int) 1=((c+1:Nat):Int) by unfold aw;omega,dA,hi];apply ah hr;refine av (λ h=>?_) λ h=>?_
      .rw[bnt,aC]at h;exact am (A h).symm
      .rw[bnf,aD]at h;exact u h
     rw[hd,aU,aU,aU,gc,qN,jP];by_cases f:jC x=0
     .let⟨z1,z2⟩:=hz f;have W:=NO x;let⟨w,A,u,E⟩:=hP (n+size x) (max d (c+1+(gN x-1))) (by omega) (by omega);refine⟨w,l w (λ h=>absurd (C.trans f) h) (λ _=>by rw[z1,z2];exact A),by rw[f];exact u,λ o=>?_⟩;rw[f]at o;let⟨G,F⟩:=E o;refine⟨by rw[G];congr 1;omega,?_⟩;rw[F];have:gN x ≥ 1:=by rw[xB];omega
      rw[show max d (c+1+(gN x-1))=max d (c+gN x) by omega]
     .refine⟨((r.1.1,r.1.2.1,()),(r.2.1,())),l _ (λ _=>rfl) (λ h=>absurd (C.symm.trans h) f),?_,λ o=>?_⟩
      .rw[fN _ f];exact C
      .rw[fN _ f]at o;exact absurd o f)
   have start:∀r,(fI t≠0->r=((((n+1:Nat):Int),((max d c:Nat):Int),()),(fI t,())))->(fI t=0->Ev (λ m _=>mK m (iu m) m c t.kids (X t.kids) 0 ((n+1:Nat):Int) ((max d c:Nat):Int)) r)->Ev (λ m _=>iu m t c n d) r:=by
    intro r A u;apply aB;simp only[qkr,EL];rw[show aw (n:Int) 1=((n+1:Nat):Int) by unfold aw;omega,dA,VY]
    have g:∀e,fI t=e->e≠0->Ev (λ _ _=>Z ((((n+1:Nat):Int),((max d c:Nat):Int),()),(e,()))) r:=by
     intro e C h;apply am;subst C;exact(A h).symm
    have Q:(t.kind=3\/X t.kids=0)->(∀b,dc t.name=b->(if b then(if 8<X t.kids then 3 else 0)else 2)=fI t)->Ev (λ m _=>ac (wK m t.name) λ v=>cond (ap v) (Z ((((n+1:Nat):Int),((max d c:Nat):Int),()),(2,()))) (cond (ilt 8 (X t.kids:Int)) (Z ((((n+1:Nat):Int),((max d c:Nat):Int),()),(3,()))) (mK m (iu m) m c t.kids (X t.kids) 0 ((n+1:Nat):Int) ((max d c:Nat):Int)))) r:=by
     intro _ h;have h:=h _ rfl;apply ah (qlZ _);cases B:dc t.name with
     |false=>rw[B]at h;exact ag rfl (g 2 h.symm (by decide))
     |true=>
       rw[B,af rfl]at h;apply ai rfl;refine av (λ j=>?_) λ j=>?_
       .rw[aY]at j;rw[ifP]at h;exact g 3 h.symm (by decide)
       .rw[ba]at j;rw[ifN]at h;exact u h.symm
    have y:∀k,t.kind=k->(k=1\/k=2)->fI t=if t.sort<0\/5<t.sort\/0<X t.kids then 1 else if dc t.name then 0 else 2:=by
     intro k I h;unfold fI na;rw[I,af h]
    have s:∀k,t.kind=k->(k=1\/k=2)->Ev (λ m _=>cond (ilt t.sort 0) (Z ((((n+1:Nat):Int),((max d c:Nat):Int),()),(1,()))) (cond (ilt 5 t.sort) (Z ((((n+1:Nat):Int),((max d c:Nat):Int),()),(1,()))) (cond (ilt 0 (X t.kids:Int)) (Z ((((n+1:Nat):Int),((max d c:Nat):Int),()),(1,()))) (ac (wK m t.name) λ v=>cond (ap v) (Z ((((n+1:Nat):Int),((max d c:Nat):Int),()),(2,()))) (cond (ilt 8 (X t.kids:Int)) (Z ((((n+1:Nat):Int),((max d c:Nat):Int),()),(3,()))) (mK m (iu m) m c t.kids (X t.kids) 0 ((n+1:Nat):Int) ((max d c:Nat):Int))))))) r:=by
     intro k I h;have p:=y k I h;refine av (λ j=>?_) λ j=>?_
     .rw[aY]at j;exact g 1 (by rw[p,af (.inl j)]) (by decide)
     rw[ba]at j;refine av (λ q=>?_) λ q=>?_
     .rw[aY]at q;exact g 1 (by rw[p,af (.inr (.inl q))]) (by decide)
     rw[ba]at q;refine av (λ z=>?_) λ z=>?_
     .rw[aY]at z;exact g 1 (by rw[p,af (.inr (.inr (by omega)))]) (by decide)
     rw[ba]at z;rw[ifN]at p;refine Q (.inr (by omega)) λ b N=>?_;rw[p,N,ae (show ¬ 8<X t.kids by omega)]
    by_cases q:t.kind=1
    .exact ag (aD.2 q) (s 1 q (.inl rfl))
    apply ai (aC.2 q);by_cases z:t.kind=2
    .exact ag (aD.2 z) (s 2 z (.inr rfl))
    apply ai (aC.2 z);by_cases D:t.kind=3
    .apply ag (aD.2 D)
     have p:fI t=if t.sort≠0 then 1 else if dc t.name then(if 8<X t.kids then 3 else 0)else 2:=by
      unfold fI na;rw[ifN,af D]
     refine av (λ j=>?_) λ j=>?_
     .rw[bnt,aC]at j;exact g 1 (by rw[p,af j]) (by decide)
     rw[bnf,aD]at j;rw[ifN]at p;exact Q (.inl D) λ b N=>by rw[p,N]
    .apply ai (aC.2 D);refine g 1 ?_ (by decide);unfold fI na;rw[ifN,ae D]
   rw[uv];by_cases f:fI t=0
   .rw[f];let⟨r,A,u,E⟩:=H 0 (aG _) (n+1) (max d c) (by rw[bH];omega) (by omega);rw[bH]at u E;refine⟨r,start r (λ h=>absurd f h) (λ _=>bd (L:=λ m k=>mK m (iu m) k c t.kids (X t.kids) 0 ((n+1:Nat):Int) ((max d c:Nat):Int)) A),u,λ o=>?_⟩;let⟨G,F⟩:=E o;refine⟨by rw[G];congr 1;omega,?_⟩;rw[F,show max d c=max d (c+0) by omega,WA,xB,qb5]
   .refine⟨_,start _ (λ _=>rfl) (λ h=>absurd h f),?_,λ o=>?_⟩
    .rw[fN _ f]
    .rw[fN _ f]at o;exact absurd o f
def iN(t:T)(c:size t<=1000000000:=by omega):Ev (λ m _=>fA m t) (aW t):=by
 apply aB;simp only[qjs,K5,ay];unfold aW;let⟨r,f,e,d⟩:=qou t c 1 0 0 (by omega) (by omega) (by omega);apply ah f;rw[e];refine av (λ h=>?_) λ h=>?_
 .rw[bnt,aC]at h;exact am (by rw[af h])
 rw[bnf,aD]at h;let⟨b,a⟩:=d h;have g:gN t ≥ 1:=by rw[xB];omega
 rw[ifN,b,a];refine av (λ h=>?_) λ h=>?_
 .rw[aY]at h;exact am (by rw[af (.inl (by omega))])
 rw[ba]at h;refine av (λ h=>?_) λ h=>?_
 .rw[aY]at h;exact am (by rw[af (.inr (by omega))])
 .rw[ba]at h;exact am (by rw[ifN])
def Hw(t:T):size t<=1000000000->Ev (λ m _=>jv m t) t:=by
 induction t using T.ind with
 |h t e=>
   intro l;apply aB;simp only[qkk,EB];have n:=fE t
   have a:=aV (P:=λ i=>Ev (λ m k=>tH m (jv m) k t.kids (X t.kids) i t.kind t.name t.sort 0 [] 0 (t.kids.take i) []) t) t.kids (by omega)
    (λ b=>by
     apply aq;simp only[S5,ED];apply ai b;rw[dg];exact am (ay t))
    (λ i x c o b g f j=>by
     apply aq;simp only[S5,ED,ay];have d:=aK c;have p:=dW t x d;refine ag b (al g (ah (e x d (by omega)) (ag (bI ?_) ?_)))
     .have:X (t.kids.take i)<=X t.kids:=by rw[bj];omega
      omega
     .rw[f];refine j.congr λ m k=>?_;rw[dN,c];rfl)
   apply bd (L:=λ m k=>tH m (jv m) k t.kids (X t.kids) 0 t.kind t.name t.sort 0 [] 0 [] []);exact a 0 (aG _)
def kD:T->Prop:=T.para λ t a=>X t.kids<2^62/\X t.name<2^62/\∀p∈a,p
def Yi(t:T):kD t↔X t.kids<2^62/\X t.name<2^62/\∀k∈t.kids,kD k:=by
 unfold kD;rw[T.para_eq];exact⟨λ⟨a,b,c⟩=>⟨a,b,λ k d=>c _ (iY d)⟩,λ⟨a,b,c⟩=>⟨a,b,λ p e=>by obtain⟨k,d,rfl⟩:=bF.1 e;exact c k d⟩⟩
def MF{l:aa T}{a:Int}(c:0<=a)(h:pa l a=O):∀t∈l,(size t:Int)<=a:=λ t b=>by
 have e:=Vy l a c h;have d:=F0 l t b;omega
end
end Go.AmZ
namespace Go.GxZ
def Bn(t:T):Int:=if(bW t.name).2.2=0 then 10 else if pd dv t.name (X t.kids)=Y then 6 else if(bW t.name).2.2=2/\xF t=Y then 10 else 0
def qlU(n:aa aN):(dv.find? λ r=>r.1==n)=U\/∃r∈dv,r.1=n/\(dv.find? λ r=>r.1==n)=Z r:=by
 cases h:dv.find? λ r=>r.1==n with
 |none=>exact .inl rfl
 |some r=>exact .inr ⟨r,qcc h,by simpa using List.find?_some h,rfl⟩
def qmb{n:aa aN}(h:(dv.find? λ r=>r.1==n)=U):bW n=(0,0,0):=by unfold bW;rw[h];rfl
def Uy{n:aa aN}{r:aa aN×Int×Int×Int}(h:(dv.find? λ r=>r.1==n)=Z r):bW n=r.2:=by unfold bW;rw[h];rfl
def ZL(r:aa aN×Int×Int×Int):Bool:=
 decide (r.2.2.2≠0)&&J (0<=r.2.1)&&J (r.2.2.1<=8)&&(J (r.2.2.2=2)==(r.1==mz||r.1==nSk||r.1==vt))&&(J (r.2.2.2=2)==J (r.2.2.2=2/\1<=r.2.1))&&(J (r.2.2.2=3)==(r.1==Qd||r.1==BB||r.1==P3||r.1==Ou||r.1==Ok||r.1==Ot))
def qqx:dv.all ZL=O:=by decide
def Uu{n:aa aN}(h:(bW n).2.2≠0):P4 dv n=O/\yC dv n=bW n/\0<=(bW n).1/\(bW n).2.1<=8/\((bW n).2.2=2↔n=mz\/n=nSk\/n=vt)/\((bW n).2.2=2->1<=(bW n).1)/\((bW n).2.2=3↔isD n=O):=by
 obtain b|⟨r,d,g,b⟩:=qlU n
 .rw[qmb b]at h;exact absurd rfl h
 .have c:=bz.1 qqx r d;subst g;rw[Uy b];unfold ZL at c;simp only[aJ,B1,cH]at c;let⟨⟨⟨⟨⟨l,k⟩,j⟩,a⟩,f⟩,i⟩:=c;refine⟨QF.2 ⟨r,d,by simp⟩,Uy b,k,j,?_,?_,?_⟩
  .constructor
   .intro h;rw[bg h]at a;have:=a.symm;simp only[gO,B1]at this;exact B2.1 this
   .intro h;by_cases e:r.2.2.2=2
    .exact e
    .rw[bv e]at a;have:=a.symm;simp only[BQ,jq]at this;obtain h|h|h:=h
     .exact absurd h this.1.1
     .exact absurd h this.1.2
     .exact absurd h this.2
  .intro h;rw[bg h]at f;have:=bG f.symm;exact this.2
  .unfold isD;rw[<-i];simp
def qn7(t:T)(n:t.kind=3):Bn t=gZ t:=by
 unfold Bn gZ;rw[ae (show ¬ (t.kind≠3)from λ h=>h n)];by_cases b:(bW t.name).2.2=0
 .rw[af b,af b]
 .rw[ae b,ae b];let⟨j,i,r,q,g,p,o⟩:=Uu b
  have e1:pd dv t.name (X t.kids)=(J ((bW t.name).1<=(X t.kids:Int))&&J ((X t.kids:Int)<=(bW t.name).2.1)):=by
   unfold pd;rw[j,i,cv]
  rw[e1];by_cases e:(X t.kids:Int)<(bW t.name).1\/(bW t.name).2.1<(X t.kids:Int)
  .rw[af e,af];rw[qb7,pq,pq];omega
  .rw[ae e,ae]
   .have f:(bW t.name).2.2=2/\xF t=Y↔iC t=O:=by
      rw[g];unfold xF iC;by_cases a:t.name=mz
      .rw[af a,af a];simp[a]
      .rw[ae a,ae a];by_cases c:t.name=nSk\/t.name=vt
       .rw[af c]
        have:agB t.kids = !(t.kids.any λ k=>J (k.kind=3)||J (k.sort≠1)):=by
         unfold agB;generalize t.kids=l
         induction l with
         |nil=>rfl
         |cons x l m=>simp only[dy,vX,m,Bool.not_or];congr 1;congr 1;by_cases h:x.sort=1<;>simp[bne,h]
        rw[this];simp[c]
       .rw[ae c];constructor
        .rintro⟨h,_⟩;obtain h|h:=h
         .exact absurd h a
         .exact absurd h c
        .intro h;cases h
    by_cases d:iC t=O
    .rw[af d,af (f.2 d)]
    .rw[ae d,ae (λ h=>d (f.1 h))]
   .rw[qb7,pq,pq];omega
theorem As{t:T}(e:t.kind=3)(h:bT t=0):gZ t=0/\(∀k∈t.kids,bT k=0):=by
 rw[xw,ae (show ¬ (t.kind≠3)from λ h=>h e)]at h;by_cases c:gZ t=0
 .refine⟨c,?_⟩;rw[c]at h;generalize t.kids=l at*
  induction l with
  |nil=>intro k a;cases a
  |cons x l d=>
    rw[aU,qN]at h;by_cases b:bT x=0
    .rw[b]at h;intro k a;obtain rfl|a:=bi.1 a
     .exact b
     .exact d h k a
    .rw[fN _ b]at h;exact absurd h b
 .rw[fN _ c]at h;exact absurd h c
end Go.GxZ
namespace Go.AmZ
open GxZ
section
open Lib
def qe(t:T)(n:aa aN):Ev (λ m _=>ja m t n) (isN t n):=by
 apply aB;simp only[qkT,Lt];unfold isN;refine av (λ h=>?_) λ h=>?_
 .rw[aD]at h;exact am (by rw[h];rfl)
 .rw[aC]at h;exact am (by rw[show(t.kind==3)=Y from jq.2 h];rfl)
def qry(n:aa aN)(l:aa T):Ev (λ m _=>Af m n l) (apT n l):=aB (au _)
def Qo(n:aa aN):aa aN×Int×Int×Int:=(dv.find? λ r=>r.1==n).getD ([],0,0,0)
def Ho(n:aa aN):(Qo n).2=bW n:=by
 unfold Qo bW;cases dv.find? λ r=>r.1==n<;>rfl
def L1(n:aa aN):Ev (λ m _=>wE m n) (Qo n):=by
 apply aB;simp only[qg2,Df];apply ah (a:=dv) (au _)
 have b:=aV (P:=λ i=>Ev (λ m k=>ta m k n dv (X dv) i [] 0 0 0) (((dv.drop i).find? λ r=>r.1==n).getD ([],0,0,0))) dv (by decide)
  (λ c=>by
   apply aq;simp only[RN,Dc];apply ai c;exact au _)
  (λ i x j f c e d g=>by
   apply aq;simp only[RN,Dc];refine ag c (al e ?_);rw[f,qcd,d];refine av (λ h=>?_) λ h=>?_
   .exact am (by rw[show(x.1==n)=O from h];rfl)
   .rw[show(x.1==n)=Y from h];exact g)
 apply bd (L:=λ m k=>ta m k n dv (X dv) 0 [] 0 0 0);exact b 0 (aG _)
def WM{t:T}(a:t.kind=3)(h:gZ t=0):(bW t.name).2.2≠0/\(bW t.name).1<=(X t.kids:Int)/\(X t.kids:Int)<=(bW t.name).2.1/\iC t=Y:=by
 grind [gZ]
def Ny{t:T}{i:Nat}(h:i<X t.kids:=by omega):ao t.kids (i:Int)=Z (kid t i):=by
 grind [kid,db,List.getElem?_eq_getElem]
def rF{t:T}(h:0<X t.kids:=by omega):ao t.kids 0=Z (kid t 0):=Ny (i:=0) h
def OM{t:T}(h:1<X t.kids:=by omega):ao t.kids 1=Z (kid t 1):=Ny (i:=1) h
def XC{t:T}{i:Nat}(h:i<X t.kids):kid t i∈t.kids:=by
 grind [kid]
theorem ji{t:T}{n:aa aN}:isN t n=O↔t.kind=3/\t.name=n:=by
 grind [isN]
def qnH(t:T):size t<=1000000000->Ev (λ m _=>fy m t) (bT t):=by
 induction t using T.ind with
 |h t D=>
   intro E;apply aB;simp only[qh1,DN];have F:=fE t;rw[xw];refine av (λ h=>?_) λ A=>?_
   .rw[bnt,aC]at h;exact am (by rw[af h])
   rw[bnf,aD]at A;rw[ae (show ¬ t.kind≠3 from λ c=>c A)]
   have B:=aV (P:=λ i=>Ev (λ m k=>(iK m (fy m) k).2 t.kids (X t.kids) i) (((t.kids.drop i).map bT).foldl thn 0)) t.kids (by omega)
    (λ e=>by
     apply aq;simp only[Sh,Dz];apply ai e;exact am (by simp))
    (λ i x w u e s r v=>by
     apply aq;simp only[Sh,Dz,ay];have z:=aK w;have f:=dW t x z;refine ag e (al s (ah (D x z (by omega)) ?_));rw[u,aU,qN,r];refine av (λ h=>?_) λ h=>?_
     .rw[bnt,aC]at h;exact am (by rw[fN _ h])
     .rw[bnf,aD]at h;rw[h];exact v)
   have q:Ev (λ m k=>(iK m (fy m) k).2 t.kids (X t.kids) 0) ((t.kids.map bT).foldl thn 0):=(B 0 (aG _)).res (by rw[bH])
   have C:=aV (P:=λ i=>Ev (λ m k=>(iK m (fy m) k).1 t.kids (X t.kids) i t.kind t.name t.sort t.kids) (if(t.kids.drop i).any (λ k=>J (k.kind=3)||J (k.sort≠1))=O then 10 else(t.kids.map bT).foldl thn 0)) t.kids (by omega)
    (λ e=>by
     apply aq;simp only[R8,Dx];apply ai e;apply q.res;rw[bR];rfl)
    (λ i x w u e s r v=>by
     apply aq;simp only[R8,Dx,ay];refine ag e (al s ?_);rw[u,vX,r];refine av (λ h=>?_) λ h=>?_
     .rw[aD]at h;exact am (by rw[bg h];rfl)
     rw[aC]at h;rw[bv h];refine av (λ n=>?_) λ n=>?_
     .rw[bnt,aC]at n;exact am (by rw[bg n];rfl)
     .rw[bnf,aD]at n;rw[bv (λ c=>c n)];exact v)
   have o:gZ t=0->Ev (λ m _=>(iK m (fy m) m).2 t.kids (X t.kids) 0) ((t.kids.map bT).foldl thn (gZ t)):=λ h=>by
    grind [Ev.diag]
   have d:iC t=t.kids.any (λ k=>J (k.kind=3)||J (k.sort≠1))->gZ t=(if iC t=O then 10 else 0)->Ev (λ m _=>(iK m (fy m) m).1 t.kids (X t.kids) 0 t.kind t.name t.sort t.kids) ((t.kids.map bT).foldl thn (gZ t)):=λ y h=>by
    apply (bd (L:=λ m k=>(iK m (fy m) k).1 t.kids (X t.kids) 0 t.kind t.name t.sort t.kids) (C 0 (aG _))).res;grind [fN]
   apply ah (L1 t.name);rw[Ho]
   have a:gZ t=if(bW t.name).2.2=0 then 10 else if(X t.kids:Int)<(bW t.name).1\/(bW t.name).2.1<(X t.kids:Int)then 6 else if iC t=O then 10 else 0:=by
    grind [gZ]
   refine av (λ h=>?_) λ h=>?_
   .rw[aD]at h;rw[af h]at a;exact am (by rw[a,fN _ (by decide)])
   rw[aC]at h;rw[ae h]at a;refine av (λ f=>?_) λ f=>?_
   .rw[aY]at f;rw[af (.inl f)]at a;exact am (by rw[a,fN _ (by decide)])
   rw[ba]at f;refine av (λ p=>?_) λ p=>?_
   .rw[aY]at p;rw[af (.inr p)]at a;exact am (by rw[a,fN _ (by decide)])
   rw[ba]at p;rw[ifN]at a;refine av (λ l=>?_) λ l=>?_
   .rw[cU]at l;refine d ?_ a;unfold iC;rw[l,ae (by decide),af (.inl rfl)]
   rw[di]at l;refine av (λ b=>?_) λ b=>?_
   .rw[cU]at b;refine d ?_ a;unfold iC;rw[b,ae (by decide),af (.inr rfl)]
   rw[di]at b;refine av (λ g=>?_) λ g=>?_
   .rw[cU]at g
    have j:0<X t.kids:=by
     rw[g,show(bW [110,101,119]).1=1 from by decide]at f;omega
    apply al (rF j)
    have y:iC t=J ((kid t 0).kind≠2):=by
     grind [iC,mz]
    refine av (λ c=>?_) λ c=>?_
    .rw[bnt,aC]at c;rw[y,bg c,af rfl]at a;exact am (by rw[a,fN _ (by decide)])
    .rw[bnf,aD]at c;grind
   .rw[di]at g;apply o
    have:iC t=Y:=by
     unfold iC;rw[ae (show ¬ t.name=mz from g),ae (λ h=>h.elim l b)]
    rw[this]at a;exact a
def XP(t:T)(a:size t<=1000000000):Ev (λ m _=>zJ m t) (my t):=by
 apply aB;simp only[qho,Kv,ay];unfold my;apply ah (iN t a);refine av (λ h=>?_) λ h=>?_
 .rw[bnt,aC]at h;exact am (by rw[gT h])
 .rw[bnf,aD]at h;rw[h];exact ah (qnH t a) (au _)
def YJ(n:aa aN):Ev (λ m _=>Ac m n) (bW n).2.2:=by
 apply aB;simp only[qkn,Et];apply ah (a:=dv) (aB (au _))
 have b:=aV (P:=λ i=>Ev (λ m k=>tI m k n dv i) (((dv.drop i).find? λ r=>r.1==n).getD ([],0,0,0)).2.2.2) dv (by decide)
  (λ c=>by
   apply aq;simp only[SX,EK];apply ai c;exact au _)
  (λ i x j f c d e g=>by
   apply aq;simp only[SX,EK];refine ag c (al d ?_);rw[f,qcd,e];refine av (λ h=>?_) λ h=>?_
   .refine al d (am ?_);rw[show(x.1==n)=O from h];rfl
   .rw[show(x.1==n)=Y from h];exact g)
 apply bd (L:=λ m k=>tI m k n dv 0);exact(b 0 (aG _)).res (by rw[<-Ho];rfl)
def qpY(t:T):Ev (λ m _=>F2 m t) (pd dv t.name (X t.kids)):=by
 apply aB;simp only[qks,EI];apply ah (a:=dv) (aB (au _))
 have c:=aV (P:=λ i=>Ev (λ m k=>tN m k dv i t.kind t.name t.sort t.kids) (pd (dv.drop i) t.name (X t.kids))) dv (by decide)
  (λ e=>by
   apply aq;simp only[SQ,EE];apply ai e;exact au _)
  (λ i x l g e d f j=>by
   apply aq;simp only[SQ,EE];refine ag e (al d ?_);rw[g,qmP,f];refine av (λ h=>?_) λ h=>?_
   .rw[af (show(x.1==t.name)=O from h)];apply al d;refine av (λ b=>?_) λ b=>?_
    .rw[gK]at b;refine al d (am ?_);rw[bg b];rfl
    .rw[li]at b;exact am (by rw[bv (by omega)];rfl)
   .rw[ae (by rw[show(x.1==t.name)=Y from h];decide)];exact j)
 apply bd (L:=λ m k=>tN m k dv 0 t.kind t.name t.sort t.kids);exact c 0 (aG _)
def qnK(t:T)(f:X t.kids<2^62)(a:t.name=mz->0<X t.kids):Ev (λ m _=>E8 m t) (xF t):=by
 apply aB;simp only[qhP,DS];unfold xF;refine av (λ h=>?_) λ h=>?_
 .rw[cU]at h;rw[af (show t.name=mz from h)];refine al (rF (a h)) (au _)
 rw[di]at h;rw[ae (show ¬ t.name=mz from h)]
 have c:=aV (P:=λ i=>Ev (λ m k=>tf m k i t.kind t.name t.sort t.kids) (agB (t.kids.drop i))) t.kids f
  (λ d=>by
   apply aq;simp only[Sc,DR];apply ai d;exact am (by rw[bR];rfl))
  (λ i x n j d e g l=>by
   apply aq;simp only[Sc,DR];refine ag d (al e ?_);rw[j,qpD,g];refine av (λ h=>?_) λ h=>?_
   .exact am (by rw[show(x.kind==3)=O from h];rfl)
   rw[show(x.kind==3)=Y from h];apply al e;refine av (λ b=>?_) λ b=>?_
   .rw[bnt,aC]at b;exact am (by rw[show(x.sort != 1)=O from bne_iff_ne.2 b];rfl)
   .rw[bnf,aD]at b;rw[show(x.sort != 1)=Y by rw[b];rfl];exact l)
 apply bd (L:=λ m k=>tf m k 0 t.kind t.name t.sort t.kids);exact(c 0 (aG _)).res (by rw[bH])
def qmW(t:T):size t<=1000000000->Ev (λ m _=>kT m t) (bT t):=by
 induction t using T.ind with
 |h t g=>
   intro C;apply aB;simp only[qiL,Ei,ay];have E:=fE t;rw[xw];refine av (λ h=>?_) λ e=>?_
   .rw[bnt,aC]at h;exact am (by rw[af h])
   rw[bnf,aD]at e;rw[ae (show ¬ t.kind≠3 from λ n=>n e),<-qn7 t e]
   have c:=aV (P:=λ i=>Ev (λ m k=>qO m (kT m) k i t.kind t.name t.sort t.kids) (((t.kids.drop i).map bT).foldl thn 0)) t.kids (by omega)
    (λ d=>by
     apply aq;simp only[Sp,D5];apply ai d;exact am (by simp))
    (λ i x j q d o l s=>by
     apply aq;simp only[Sp,D5,ay];have f:=aK j;have F:=dW t x f;refine ag d (al o (ah (g x f (by omega)) ?_));rw[q,aU,qN,l];refine av (λ h=>?_) λ h=>?_
     .rw[bnt,aC]at h;exact am (by rw[fN _ h])
     .rw[bnf,aD]at h;rw[h];exact s)
   have a:Bn t=0->Ev (λ m _=>qO m (kT m) m 0 t.kind t.name t.sort t.kids) ((t.kids.map bT).foldl thn (Bn t)):=λ h=>by
    rw[h];exact(bd (L:=λ m k=>qO m (kT m) k 0 t.kind t.name t.sort t.kids) (c 0 (aG _))).res (by rw[bH])
   unfold Bn at a |-
   apply ah (YJ t.name);refine av (λ h=>?_) λ h=>?_
   .rw[aD]at h;rw[af h];exact am (by rw[fN _ (by decide)])
   rw[aC]at h;rw[ae h]at a |-
   apply ah (qpY t);cases p:pd dv t.name (X t.kids) with
   |false=>
     apply ag rfl;rw[af rfl];exact am (by rw[fN _ (by decide)])
   |true=>
     rw[p,ae (by decide)]at a;rw[ae (by decide)];apply ai rfl;refine av (λ b=>?_) λ b=>?_
     .rw[aD]at b;refine ah (qnK t (by omega) λ D=>?_) ?_
      .let⟨B,A,z,y,w,v,u⟩:=Uu h;grind [pd]
      cases r:xF t with
      |false=>
        apply ag rfl;rw[af ⟨b,rfl⟩];exact am (by rw[fN _ (by decide)])
      |true=>
        rw[r,ae (by rintro⟨_,h⟩;cases h)]at a;rw[ae (by rintro⟨_,h⟩;cases h)];exact ai rfl (a rfl)
     .rw[aC]at b;grind
def qqO(t:T)(a:size t<=1000000000):Ev (λ m _=>FV m t) (my t):=by
 apply aB;simp only[qiA,KI,ay];unfold my;apply ah (uA t a);refine av (λ h=>?_) λ h=>?_
 .rw[bnt,aC]at h;exact am (by rw[gT h])
 .rw[bnf,aD]at h;rw[h];exact ah (qmW t a) (au _)
end
end Go.AmZ
namespace Go.GxZ
def Asc(l:aa T):Prop:=l.Pairwise λ a b=>aO a b=-1
def ww{a:T}:aO a a≠-1:=by rw[nG];decide
def XI{a b:T}:aO a b=1↔aO b a=-1:=by
 have:=dV.anti a b;omega
theorem GX(a b:T):aO a b=-1\/a=b\/aO b a=-1:=by
 have h:=dV.rng a b;have c:=dV.anti a b;obtain h|h|h:=h
 .exact .inl h
 .exact .inr (.inl (mQ a b h))
 .exact .inr (.inr (by omega))
theorem rh{a b c:T}(e:aO a b=-1)(d:aO b c=-1):aO a c=-1:=dV.trans a b c e d
def xp{x:T}{l:aa T}:Asc (x::l)↔(∀y∈l,aO x y=-1)/\Asc l:=mH
def AO:∀(l m:aa T),Asc l->Asc m->(∀x,x∈l↔x∈m)->l=m
 |[],[],_,_,_=>rfl
 |[],y::m,_,_,h=>absurd ((h y).2 (aX ..)) (by simp)
 |x::l,[],_,_,h=>absurd ((h x).1 (aX ..)) (by simp)
 |x::l,y::m,n,k,h=>by
   let⟨c,i⟩:=xp.1 n;let⟨b,g⟩:=xp.1 k;have f:=(h x).1 (aX ..);have d:=(h y).2 (aX ..)
   have e:x=y:=by
    obtain e|f:=bi.1 f
    .exact e
    obtain e|d:=bi.1 d
    .exact e.symm
    exact absurd (rh (c y d) (b x f)) ww
   subst e;rw[AO l m i g λ z=>?_];constructor
   .intro a;obtain e|j:=bi.1 ((h z).1 (aT _ a))
    .subst e;exact absurd (c z a) ww
    .exact j
   .intro a;obtain e|j:=bi.1 ((h z).2 (aT _ a))
    .subst e;exact absurd (b z a) ww
    .exact j
def eW(t:T)(s:aa T×Bool)(x:T):aa T×Bool:=
 if s.2=Y/\aO t x<=0 then(s.1++(if aO t x<0 then[t]else[])++[x],O)else(s.1++[x],s.2)
def Bw(l:aa T)(t:T):aa T:=if(l.foldl (eW t) ([],Y)).2 then(l.foldl (eW t) ([],Y)).1 else(l.foldl (eW t) ([],Y)).1++[t]
def Vd(t:T):∀(l a:aa T),l.foldl (eW t) (a,O)=(a++l,O)
 |[],a=>by simp
 |x::l,a=>by
   have e:eW t (a,O) x=(a++[x],O):=by simp[eW]
   rw[jP,e,Vd t l];simp
def dE:aa T->T->aa T
 |[],t=>[t]
 |x::l,t=>if aO t x<0 then t::x::l else if aO t x=0 then x::l else x::dE l t
def Uh(t:T):∀(l a:aa T),(if(l.foldl (eW t) (a,Y)).2 then(l.foldl (eW t) (a,Y)).1 else(l.foldl (eW t) (a,Y)).1++[t])=a++dE l t
 |[],a=>by simp[dE]
 |x::l,a=>by
   rw[jP];by_cases h:aO t x<=0
   .have e:eW t (a,Y) x=(a++(if aO t x<0 then[t]else[])++[x],O):=by simp[eW,h]
    rw[e,Vd,dE];by_cases b:aO t x<0
    .simp[b]
    .have:aO t x=0:=by omega
     simp[this]
   .have e:eW t (a,Y) x=(a++[x],Y):=by simp[eW,h]
    rw[e,Uh t l,dE,ifN,ifN];simp
def qpJ(l:aa T)(t:T):Bw l t=dE l t:=by
 have:=Uh t l [];simpa[Bw]using this
def MJ(t:T):∀(l:aa T) (x:T),x∈dE l t↔x∈l\/x=t
 |[],x=>by simp[dE]
 |y::l,x=>by
   rw[dE];split
   .simp only[bi];constructor
    .rintro(h|h|h)<;>simp[h]
    .rintro((h|h)|h)<;>simp[h]
   .split
    .rename_i h;have:=mQ t y h;subst this;simp only[bi];constructor
     .rintro(h|h)<;>simp[h]
     .rintro((h|h)|h)<;>simp[h]
    .rw[bi,MJ t l x,bi];constructor
     .rintro(h|h|h)<;>simp[h]
     .rintro((h|h)|h)<;>simp[h]
def Wj(t:T):∀(l:aa T),Asc l->Asc (dE l t)
 |[],_=>qce _ _
 |y::l,h=>by
   let⟨c,d⟩:=xp.1 h;rw[dE];have f:=dV.rng t y;split
   .have b:aO t y=-1:=by omega
    refine xp.2 ⟨λ z a=>?_,h⟩;obtain e|a:=bi.1 a
    .rw[e];exact b
    .exact rh b (c z a)
   .split
    .exact h
    .refine xp.2 ⟨λ z a=>?_,Wj t l d⟩;obtain a|e:=(MJ t l z).1 a
     .exact c z a
     .rw[e];exact XI.1 (by omega)
def eL{a b:T}:cg a b=O↔a=b:=by unfold cg;exact cV
end Go.GxZ
namespace Go.AmZ
open GxZ
section
open Lib
def szL(l:aa T):Nat:=(l.map size).sum
theorem eE(x:T)(l:aa T):szL (x::l)=size x+szL l:=by simp[szL]
def uM(a b:aa T):szL (a++b)=szL a+szL b:=by simp[szL]
def kW:∀l:aa T,X l<=szL l
 |[]=>aG _
 |x::l=>by
   have:=kW l;have:=size_pos x;rw[eE,bE];omega
def pO{l:aa T}{x:T}(h:x∈l):size x<=szL l:=F0 l x h
def Ha:∀(n:Nat) (a b:aa T),X a+X b<=n->szL (dB a b)<=szL a+szL b
 |_,[],b,_|_,x::a,[],_=>by rw[dB];omega
 |0,x::a,y::b,h=>by simp at h
 |n+1,x::a,y::b,h=>by
   simp only[bE]at h;rw[dB];split
   .have:=Ha n a (y::b) (by simp;omega);rw[eE,eE];omega
   .split
    .have:=Ha n (x::a) b (by simp;omega);rw[eE y,eE y];omega
    .have:=Ha n a b (by omega);rw[eE,eE];omega
def TN:∀(b:aa (aa T)) (a:aa T),szL (b.foldl dB a)<=szL a+(b.map szL).sum
 |[],_=>by simp
 |l::b,a=>by
   have d:=TN b (dB a l);have c:=Ha _ a l (ak _);simp only[jP,aU,gc];omega
def UD(f g:T->Nat):∀l:aa T,(∀k∈l,f k<=g k)->(l.map f).sum<=(l.map g).sum
 |[],_=>ak _
 |x::l,h=>by
   have c:=h x (aX ..);have b:=UD f g l λ k a=>h k (aT _ a);simp only[aU,gc];omega
def Wg(l:aa T)(h:∀k∈l,szL (iO k)<=size k):szL ((l.map iO).foldl dB [])<=szL l:=by
 apply bL (TN _ _);rw[jQ];have:=UD (szL ∘ iO) size l h;show 0+_<=(l.map size).sum;omega
def Nf(t:T):szL (iO t)<=size t:=by
 refine T.ind (P:=λ t=>szL (iO t)<=size t) ?_ t;intro t a;rw[MA];split
 .exact aG _
 .split
  .have:=Wg t.kids a;have:=cM t;unfold szL at *;omega
  .show szL [t]<=_;rw[eE];exact ak _
def Gw(l:aa T):szL (eO l)<=szL l:=Wg l λ k _=>Nf k
def Ht(x:T)(l:aa T):gq (x::l) 1 ((X (x::l):Nat):Int)=l:=by
 unfold gq;rw[jT,dg];rfl
def Hm(n:Nat):inb (n:Int) n=O:=by unfold inb;rw[cV];omega
def Ih(x:T)(l:aa T):inb 1 (Int.toNat ((X (x::l):Nat):Int))=O:=by
 unfold inb;rw[cV,jT,bE];omega
def Wr(x:T)(l:aa T):ilt 0 ((X (x::l):Nat):Int)=O:=by rw[aY,bE];omega
def qlh:∀(n:Nat) (a b c:aa T),X a+X b<=n->szL c+szL a+szL b<=1000000000->Ev (λ m k=>uo m k a b c) (c++dB a b):=by
 intro n
 induction n with
 |zero=>
   intro a b c i g;have:a=[]:=cR (by omega);subst this;have:b=[]:=cR (by omega);subst this;apply aq;simp only[TM,FQ];have:=kW c;exact ai rfl (ag (bI (by simp only[eJ];omega)) (ag (bI (by simp only[eJ,bK];omega)) (am (by rw[dB];simp))))
 |succ n f=>
   intro a b c i g;apply aq;simp only[TM,FQ,ay];have o:=kW c;have l:=kW a;have j:=kW b;cases a with
   |nil=>
     refine ai rfl (ag (bI (by simp only[eJ];omega)) (ag (bI (by simp only[bK];omega)) (am (by rw[dB];simp))))
   |cons x a=>
     apply ag (Wr x a);cases b with
     |nil=>
       refine ai rfl (ag (bI) (ag (bI (by rw[aM];simp only[eJ];omega)) (am (by rw[dB];simp))))
     |cons y b=>
       rw[eE,eE]at g;refine ag (Wr y b) (al (nH _) (al (nH _) (ah (mM x (by omega) y (by omega)) ?_)));rw[dB];simp only[bE]at i l j;rw[eE]at l j;refine av (λ e=>?_) λ e=>?_
       .rw[aY]at e;have e:aO x y=-1:=by obtain h|h|h:=dV.rng x y<;>omega
        rw[af e];refine al (nH _) (ag (bI) (ag (Hm _) (ag (Ih x a) ?_)));rw[Ht];refine(f a (y::b) (c++[x]) (by simp only[bE];omega) (by rw[uM,eE,eE];show szL c+(size x+0)+_+_<=_;omega)).res (by simp)
       .rw[ba]at e;rw[ifN];refine av (λ d=>?_) λ d=>?_
        .rw[aY]at d;have d:aO x y=1:=by obtain h|h|h:=dV.rng x y<;>omega
         rw[af d];refine al (nH _) (ag (bI) (ag (Hm _) (ag (Ih y b) ?_)));rw[Ht];refine(f (x::a) b (c++[y]) (by simp only[bE];omega) (by rw[uM,eE,eE];show szL c+(size y+0)+_+_<=_;omega)).res (by simp)
        .rw[ba]at d;rw[ifN];refine ag (Hm _) (ag (Ih x a) (ag (Hm _) (ag (Ih y b) ?_)));rw[Ht,Ht];exact f a b c (by omega) (by omega)
def VR(a b:aa T)(c:szL a+szL b<=1000000000):Ev (λ m _=>Az m a b) (dB a b):=by
 apply aB;simp only[ql5,FK];apply bd (L:=λ m k=>uo m k a b []);exact qlh _ a b [] (ak _) (by show 0+_+_<=_;omega)
def qkY(l:aa T)(i:Nat):szL (l.take i)<=szL l:=by
 have:=bB szL (ot i l);rw[uM]at this;omega
def zA{l:aa T}{i:Nat}{x:T}(h:l[i]?=Z x):szL (l.take i)+size x<=szL l:=by
 have b:l.take (i+1)=l.take i++[x]:=by rw[dN,h];rfl
 have a:=qkY l (i+1);rw[b,uM,eE]at a;have:szL ([]:aa T)=0:=rfl;omega
def Uw{l:aa T}{i:Nat}{x:T}(h:l[i]?=Z x):((l.take (i+1)).map iO).foldl dB []=dB (((l.take i).map iO).foldl dB []) (iO x):=by
 rw[dN,h,eK,QQ];rfl
def qpe(t:T):size t<=1000000000->Ev (λ m _=>kS m t) (iO t):=by
 induction t using T.ind with
 |h t s=>
   intro B;have C:=fE t;have A:=cM t;apply aB;simp only[qhQ,DM,ay]
   have o:=aV (P:=λ i=>Ev (λ m k=>qM m (kS m) k (((t.kids.take i).map iO).foldl dB []) t.kids (X t.kids) i) ((t.kids.map iO).foldl dB [])) t.kids (by omega)
    (λ q=>by
     apply aq;simp only[Sg,DA];apply ai q;rw[dg];exact au _)
    (λ i x c D q w u y=>by
     apply aq;simp only[Sg,DA,ay];have r:=aK c;have F:=dW t x r;have z:=Gw (t.kids.take i);have g:=zA c;have E:=Nf x;refine ag q (al w (ah (s x r (by omega)) (ah (VR _ _ ?_) ?_)))
     .unfold eO at z;unfold szL at *;omega
     .rw[u];refine y.congr λ m k=>?_;rw[Uw c])
   have j:Ev (λ m _=>qM m (kS m) m [] t.kids (X t.kids) 0) ((t.kids.map iO).foldl dB []):=
    bd (L:=λ m k=>qM m (kS m) k [] t.kids (X t.kids) 0) (o 0 (aG _))
   rw[MA];by_cases g:t.kind=3
   .have f:ieq t.kind 3=O:=aD.2 g;apply ag f;refine av (λ e=>?_) λ e=>?_
    .rw[cU]at e;have a:isN t vb=O:=ji.2 ⟨g,e⟩
     have d:isN t lr=Y:=by
      rw[<-vQ,ji];rintro⟨_,h⟩;rw[e]at h;exact absurd h (by decide)
     refine av (λ b=>?_) λ b=>?_
     .rw[aD]at b;have b:t.kids=[]:=cR (by omega);rw[a,b];exact au _
     .rw[aC]at b
      have b:t.kids.isEmpty=Y:=by
       cases v:t.kids with
       |nil=>rw[v]at b;exact absurd rfl b
       |cons _ _=>rfl
      rw[a,b,d];exact ag f (ai (by rw[e];rfl) (au _))
    .have p:=di.1 e
     have a:isN t vb=Y:=by
      rw[<-vQ,ji];rintro⟨_,h⟩;exact p h
     rw[a];refine ag f (av (λ c=>?_) λ c=>?_)
     .rw[show isN t lr=O from ji.2 ⟨g,cU.1 c⟩];exact j
     .have d:isN t lr=Y:=by
        rw[<-vQ,ji];rintro⟨_,h⟩;exact di.1 c h
      rw[d];exact au _
   .have f:ieq t.kind 3=Y:=aC.2 g
    have l:∀n,isN t n=Y:=λ n=>by
     rw[<-vQ,ji];rintro⟨h,_⟩;exact g h
    rw[l,l];exact ai f (ai f (au _))
end
def qmj(b:aa (aa T))(d:X b<1000)(h:(b.map X).sum<=100000000):Ev (λ m _=>qG m b) ((),(b.flatten,())):=by
 have g:∀l:aa (aa T),X l.flatten=(l.map X).sum:=λ l=>List.length_flatten
 have s:=aV (P:=λ i=>Ev (λ m k=>(jU m k).2 b (X b) i (b.take i).flatten) ((),(b.flatten,()))) b (by omega)
  (λ c=>by
   apply aq;simp only[Q0,Cp];apply ai c;rw[dg];exact au _)
  (λ i x o r c f e j=>by
   apply aq;simp only[Q0,Cp];have p:b.take (i+1)=b.take i++[x]:=by rw[dN,o];rfl
   have q:((b.take (i+1)).map X).sum<=(b.map X).sum:=by
    have:=bB (λ l=>(l.map X).sum) (ot (i+1) b);simp only[eK,List.sum_append]at this;omega
   rw[p]at q;simp only[eK,List.sum_append,aU,Ju,gc,List.sum_nil]at q;refine ag c (al f (ag (bI ?_) ?_))
   .rw[g];omega
   .rw[e];refine j.congr λ m k=>?_;rw[p,QR];simp)
 have t:=aV (P:=λ i=>∀n:Nat,n+((b.drop i).map X).sum<=100000000->Ev (λ m k=>(jU m k).1 b n b (X b) i) ((),(b.flatten,()))) b (by omega)
  (λ c n d=>by
   apply aq;simp only[Q3,Cm];refine ai c (al (a:=((),[],())) ?_ (s 0 (aG _)));unfold yY;rw[show inb (n:Int) 100000000=O from by unfold inb;rw[cV];omega];rfl)
  (λ i x o r c f e j n d=>by
   apply aq;simp only[Q3,Cm];rw[r,aU,gc]at d;refine ag c (al f ?_);rw[qX,dA];apply ai (ba.2 (by omega));rw[e];exact j (n+X x) (by omega))
 apply aB;simp only[qc7,Cn];apply bd (L:=λ m k=>(jU m k).1 b 0 b (X b) 0);exact t 0 (aG _) 0 (by rw[bH];omega)
def Gk(a b:aa T)(h:X a+X b<=100000000:=by omega):Ev (λ m _=>qG m [a,b]) ((),(a++b,())):=
 (qmj [a,b] (by simp) (by simpa using h)).res (by simp)
def qkd{f:T->Int}{l:aa T}{i:Nat}{x:T}(h:l.drop i=x::l.drop (i+1)):((l.drop i).map f).foldl thn 0=if f x≠0 then f x else((l.drop (i+1)).map f).foldl thn 0:=by
 rw[h,aU];by_cases a:f x=0
 .rw[ae (by simpa using a),a];rfl
 .rw[af a];exact fN _ a
def qoi(l:aa T)(n:szL l<=100000000:=by omega):Ev (λ m _=>GF m l []) (Is l):=by
 have o:=kW l;apply aB;simp only[qkM,Ff];unfold Is;refine av (λ h=>?_) λ h=>?_
 .rw[aY]at h;rw[ifP];exact au _
 .rw[ba]at h;rw[ifN];refine ah (Gk l [] (by simp only[eJ];omega)) ?_;simp only[bK]
  have b:=aV (P:=λ i=>Ev (λ m k=>ua m k (X l) i l) (((l.drop i).map aW).foldl thn 0)) l (by omega)
   (λ c=>by
    apply aq;simp only[Tp,EY];apply ai c;rw[bR];exact au _)
   (λ i x d g c f e j=>by
    apply aq;simp only[Tp,EY,ay];have p:=pO (aK d);rw[qkd g];refine ag c (al f (ah (iN x) (av (λ a=>?_) λ a=>?_)))
    .rw[bnt,aC]at a;rw[af a];exact au _
    .rw[bnf,aD]at a;rw[ifN,e];exact j)
  apply bd (L:=λ m k=>ua m k (X l) 0 l);exact(b 0 (aG _)).res (by rw[bH])
def qlr(t:T)(a:size t<=1000000000:=by omega):Ev (λ m _=>E0 m t [] t) (t,0):=by
 apply aB;simp only[qg4,DU,ay];apply ah (Hw t a);refine bd (L:=λ m k=>wz m k [] (X ([]:aa Int)) 0 t.kind t.name t.sort t.kids 0 [] 0 t.kind t.name t.sort t.kids []) (aq ?_);simp only[qgp,KD,ay];apply ai rfl;rw[show T.mk t.kind t.name t.sort t.kids=t from ay t];exact ah (Hw t a) (au _)
def jl(l:aa T)(i:Nat):aa T:=l.take i++List.replicate (X l-i) zT
def qoG{l:aa T}{i:Nat}(h:i<X l):(jl l i)[i]?=Z zT:=by
 unfold jl;rw[ej (by rw[bj];omega),bj,List.getElem?_replicate,ifP]
def Ms{l:aa T}{i:Nat}{x:T}(h:l[i]?=Z x):(jl l i).set i x=jl l (i+1):=by
 have c:=(ft.1 h).1;unfold jl;have b:l.take (i+1)=l.take i++[x]:=by rw[dN,h];rfl
 have a:List.replicate (X l-i) zT=zT::List.replicate (X l-(i+1)) zT:=by
  rw[show X l-i=(X l-(i+1))+1 by omega,List.replicate_succ]
 rw[b,a,List.set_append_right _ _ (by rw[bj];omega),bj,show i-min i (X l)=0 by omega,List.set_cons_zero,bA];rfl
def qmN{l:aa T}{i:Nat}{x:T}(h:l[i]?=Z x):(jl l (i+1)).set i x=jl l (i+1):=by
 rw[<-Ms h,List.set_set]
def qno{l:aa T}{i:Nat}{x:T}(h:l[i]?=Z x):(jl l (i+1))[i]?=Z x:=by
 have a:=(ft.1 h).1;rw[<-Ms h,gx (by unfold jl;rw[aM,bj,sk];omega)]
def pL{α:Type}(l:aa α)(i:Nat)(v:α):dJ l (i:Int) v=l.set i v:=by
 unfold dJ;rw[ifP,jT]
def qqC:∀(n:Nat) (l:aa T),szL l<=n->n<=1000000->Ev (λ m _=>kX m l) l:=by
 intro n
 induction n using Nat.strongRecOn with
 |_ n p=>
 intro l s t;have u:=kW l;apply aB;simp only[qmC,Gi]
 have d:=aV (P:=λ i=>Ev (λ m k=>uC m (kX m) k l (X l) i (jl l i)) l) l (by omega)
  (λ h=>by
   apply aq;simp only[T1,Gl];apply ai h;exact am (by unfold jl;rw[dg,mF];simp))
  (λ i x b v h r q j=>by
   apply aq;simp only[T1,Gl,ay];have y:=pO (aK b);have w:=cM x;have f:=(ft.1 b).1;have e:dJ (jl l i) i x=jl l (i+1):=by rw[pL,Ms b]
   have o:dJ (jl l (i+1)) i x=jl l (i+1):=by rw[pL,qmN b]
   have g:ao (jl l (i+1)) i=Z x:=by rw[db,qno b]
   refine ag h (al r (ah (qlr x) (al (a:=zT) (by rw[db,qoG f]) (ah (p (szL x.kids) (by unfold szL at *;omega) x.kids (ak _) (by unfold szL at *;omega)) ?_))));rw[e];apply al g;rw[show T.mk x.kind x.name x.sort x.kids=x from ay x,o,q];refine av (λ c=>?_) λ c=>j;rw[aD]at c;have c:x.kids=[]:=cR (by omega);apply al g;rw[show T.mk x.kind x.name x.sort []=x from by rw[<-c];exact ay x,o];exact j)
 refine ag (by unfold Ol;rw[cV,jT];omega) ?_;apply bd (L:=λ m k=>uC m (kX m) k l (X l) 0 (List.replicate (Int.toNat (X l:Int)) (T.mk 0 [] 0 [])));refine(d 0 (aG _)).congr λ m k=>?_;unfold jl;rw[JH,jT];rfl
def qp0(l:aa T)(z:szL l<=900000:=by omega):Ev (λ m _=>HX m l) (yF l):=by
 have A:=kW l;apply aB;simp only[qm8,F6];unfold yF;refine ah (qoi l) (av (λ h=>?_) λ h=>?_)
 .rw[bnt,aC]at h;rw[af h];exact au _
 .rw[bnf,aD]at h;rw[ifN]
  have e:=aV (P:=λ i=>Ev (λ m k=>uB m k (((l.take i).map iO).foldl dB []) l (X l) i 0 [] 0 []) (if aW (iF (eO l))≠0 then(zT,3)else(iF (eO l),0))) l (by omega)
   (λ j=>by
    apply aq;simp only[Uf,FY,ay];apply ai j;rw[dg];have b:=Gw l;show Ev (λ m k=>ac (kX m (eO l)) _) _;have o:=kW (eO l)
    have c:∀u:T,u=iF (eO l)->Ev (λ m _=>ac (fA m u) λ v=>cond (ap (ieq v 0)) (Z (T.mk 0 [] 0 [],(3:Int))) (Z (u,0))) (if aW (iF (eO l))≠0 then(zT,3)else(iF (eO l),0)):=by
     intro u p
     have y:size (iF (eO l))<=1+szL (eO l):=by
      unfold iF;split
      .rw[cM];show 1+0<=_;omega
      .split
       .rename_i _ d
        have:(eO l).getD 0 zT∈eO l:=by
         cases g:eO l with
         |nil=>rw[g]at d;cases d
         |cons x r=>exact aX ..
        have:=pO this;omega
       .rw[cM];exact ak _
     subst p;refine ah (iN _) (av (λ h=>?_) λ h=>?_)
     .rw[bnt,aC]at h;rw[af h];exact au _
     .rw[bnf,aD]at h;rw[ifN];exact au _
    refine ah (qqC _ (eO l) (ak _) (by omega)) (av (λ n=>?_) λ n=>?_)
    .rw[aD]at n;exact c _ (by unfold iF;rw[ifP];rfl)
    .rw[aC]at n;refine av (λ b=>?_) λ b=>?_
     .rw[aD]at b;refine al (a:=(eO l).getD 0 zT) ?_ (c _ (by unfold iF;rw[ifN,ifP]));rw[nH,dz];cases g:eO l with
      |nil=>rw[g]at b;simp at b
      |cons x r=>rfl
     .rw[aC]at b;exact c _ (by unfold iF;rw[ifN,ifN];rfl))
   (λ i x f B j t s w=>by
    apply aq;simp only[Uf,FY,ay];have q:=aK f;have b:=pO q;have o:=Gw (l.take i);have D:=zA f;have C:=Nf x;refine ag j (al t (ah (qpe x (by omega)) (ah (VR _ _ ?_) ?_)))
    .unfold eO at o;omega
    .rw[s];refine w.congr λ m k=>?_;rw[Uw f])
  apply bd (L:=λ m k=>uB m k [] l (X l) 0 0 [] 0 []);exact e 0 (aG _)
def qrq(l:aa T)(t:T)(j:szL l+size t<=1000000000):Ev (λ m _=>ur m l t) (l.any λ x=>cg x t):=by
 have n:=kW l;apply aB;simp only[qkH,EZ]
 have a:=aV (P:=λ i=>Ev (λ m k=>uc m k l i t.kind t.name t.sort t.kids) ((l.drop i).any λ x=>cg x t)) l (by omega)
  (λ b=>by
   apply aq;simp only[Tz,FA];refine ai b (am ?_);rw[bR];rfl)
  (λ i x c f b e d g=>by
   apply aq;simp only[Tz,FA,ay];have o:=pO (aK c);rw[f,vX,show T.mk t.kind t.name t.sort t.kids=t from ay t];refine ag b (al e (ah (lP x t) (av (λ h=>?_) λ h=>?_)))
   .rw[h];exact au _
   .rw[h,d];exact g)
 apply bd (L:=λ m k=>uc m k l 0 t.kind t.name t.sort t.kids);exact(a 0 (aG _)).res (by rw[bH])
theorem Xb(t:T):∀(l:aa T) (s:aa T×Bool),(l.foldl (eW t) s).1.length<=X s.1+2*X l
 |[],s=>by simp
 |x::l,s=>by
   have h:=Xb t l (eW t s x);grind [eW]
def qrJ(l:aa T)(t:T)(q:szL l+size t<=1000000000:=by omega):Ev (λ m _=>GN m l t) (Bw l t):=by
 have r:=kW l;apply aB;simp only[qkZ,EV]
 have d:∀i,((l.take i).foldl (eW t) ([],Y)).1.length<=2*X l:=λ i=>by
  grind [Xb,List.length_take,List.length_nil]
 have g:=aV (P:=λ i=>Ev (λ m k=>tZ m k l ((l.take i).foldl (eW t) ([],Y)).2 i t.kind t.name t.sort t.kids ((l.take i).foldl (eW t) ([],Y)).1) (Bw l t)) l (by omega)
  (λ j=>by
   apply aq;simp only[Tl,Fg];apply ai j;rw[dg];unfold Bw;have:=d (X l);rw[dg]at this;refine av (λ h=>?_) λ h=>?_
   .rw[bnt]at h;rw[ae (by rw[h];decide),show T.mk t.kind t.name t.sort t.kids=t from ay t];exact ag (bI) (au _)
   .rw[bnf]at h;rw[af h];exact au _)
  (λ i x n u j f o a=>by
   apply aq;simp only[Tl,Fg,ay];have w:=pO (aK n);have v:=d i
   have e:(l.take (i+1)).foldl (eW t) ([],Y)=eW t ((l.take i).foldl (eW t) ([],Y)) x:=by
    rw[dN,n,QQ];rfl
   rw[e]at a;generalize (l.take i).foldl (eW t) ([],Y)=s at *;rw[show T.mk t.kind t.name t.sort t.kids=t from ay t,o];refine ag j (al f (ah (Lx t (by omega) x (by omega)) (av (λ h=>?_) λ h=>?_)))
   .rw[bnt]at h;refine av (λ c=>?_) λ c=>?_
    .rw[gK]at c;unfold eW at a;rw[af ⟨h,c⟩]at a;refine av (λ b=>?_) λ b=>?_
     .rw[aY]at b;rw[af b]at a;exact ag (bI) (al f (ag (bI (by rw[aM];simp only[bE,eJ];omega)) a))
     .rw[ba]at b;rw[ifN,bK]at a;exact al f (ag (bI) a)
    .rw[li]at c;unfold eW at a;rw[ifN]at a;exact al f (ag (bI) a)
   .rw[bnf]at h;unfold eW at a;rw[ae (by rw[h];intro p;cases p.1)]at a;exact al f (ag (bI) a))
 apply bd (L:=λ m k=>tZ m k l Y 0 t.kind t.name t.sort t.kids []);exact g 0 (aG _)
def Yx(t:T):∀l:aa T,szL (dE l t)<=szL l+size t
 |[]=>by rw[dE,eE];omega
 |x::l=>by
   have:=Yx t l;grind [dE,eE]
def qqV(l:aa T):size (iF l)<=1+szL l:=by
 unfold iF;split
 .rw[cM];show 1+0<=_;omega
 .split
  .rename_i _ a
   have:l.getD 0 zT∈l:=by
    cases l with
    |nil=>cases a
    |cons x r=>exact aX ..
   have:=pO this;omega
  .rw[cM];exact ak _
end Go.AmZ
namespace Go.GxZ
def mj(l:aa Pw):Prop:=Asc (l.map (·.1))
def NzP(l:aa Pw):Prop:=∀p∈l,p.2≠0
def Ar{p:Pw}{l:aa Pw}:mj (p::l)↔(∀q∈l,aO p.1 q.1=-1)/\mj l:=by
 unfold mj;rw[aU,xp];simp
def xg{p:Pw}{l:aa Pw}:NzP (p::l)↔p.2≠0/\NzP l:=by
 unfold NzP;simp
def eA(l:aa Pw):Nat:=(l.map λ p=>p.2.natAbs).sum
theorem Hf:∀(l:aa Pw) (t:T) (n:Int) (p:Pw),p∈de l t n->p.1=t\/p∈l
 |[],t,n,p,h=>by simp[de]at h;exact .inl (by rw[h])
 |(x,m)::l,t,n,p,h=>by
   rw[de]at h;split at h
   .obtain h|h:=bi.1 h
    .exact .inl (by rw[h])
    .exact .inr h
   .split at h
    .rename_i a;split at h
     .exact .inr (aT _ h)
     .obtain h|h:=bi.1 h
      .left;rw[h];exact(mQ t x a).symm
      .exact .inr (aT _ h)
    .obtain h|h:=bi.1 h
     .exact .inr (h▸aX ..)
     .obtain h|h:=Hf l t n p h
      .exact .inl h
      .exact .inr (aT _ h)
def VU:∀(l:aa Pw) (t:T) (n:Int),mj l->mj (de l t n)
 |[],_,_,_=>qce _ _
 |(x,m)::l,t,n,h=>by
   let⟨d,c⟩:=Ar.1 h;rw[de];have f:=dV.rng t x;split
   .rename_i b;refine Ar.2 ⟨λ q a=>?_,h⟩;obtain e|a:=bi.1 a
    .rw[e];exact b
    .exact rh b (d q a)
   .split
    .split
     .exact c
     .exact Ar.2 ⟨d,c⟩
    .refine Ar.2 ⟨λ q a=>?_,VU l t n c⟩;obtain e|a:=Hf l t n q a
     .rw[e];exact XI.1 (show aO t x=1 by omega)
     .exact d q a
def Ym:∀(l:aa Pw) (t:T) (n:Int),NzP l->n≠0->NzP (de l t n)
 |[],_,_,_,a=>by intro p c;simp[de]at c;rw[c];exact a
 |(x,m)::l,t,n,h,a=>by
   let⟨d,b⟩:=xg.1 h;rw[de];split
   .exact xg.2 ⟨a,h⟩
   .split
    .split
     .exact b
     .exact xg.2 ⟨by assumption,b⟩
    .exact xg.2 ⟨d,Ym l t n b a⟩
def M4:∀(l:aa Pw) (t:T) (n:Int),eA (de l t n)<=eA l+n.natAbs
 |[],t,n=>by simp[de,eA]
 |(x,m)::l,t,n=>by
   have a:=M4 l t n;unfold eA at a |-
   rw[de];split
   .simp only[aU,gc];omega
   .split
    .split
     .simp only[aU,gc];omega
     .simp only[aU,gc];omega
    .simp only[aU,gc];omega
def M0:∀(l:aa Pw) (t:T) (n:Int),X (de l t n)<=X l+1
 |[],t,n=>by simp[de]
 |(x,m)::l,t,n=>by
   have a:=M0 l t n;rw[de];split
   .simp
   .split
    .split
     .simp;omega
     .simp
    .simp only[bE];omega
def Zq(l:aa Pw)(p:Pw)(h:p∈l):p.2.natAbs<=eA l:=by
 unfold eA
 induction l with
 |nil=>cases h
 |cons q l a=>
   simp only[aU,gc];obtain e|h:=bi.1 h
   .rw[e];omega
   .have:=a h;omega
def iS(l:aa Pw):Prop:=mj l/\NzP l
def iS.nil:iS []:=⟨List.Pairwise.nil,λ _ h=>by cases h⟩
def iS.ins{l:aa Pw}(h:iS l)(t:T){n:Int}(a:n≠0):iS (de l t n):=⟨VU l t n h.1,Ym l t n h.2 a⟩
def qq9{t:T}{n:Int}(h:n≠0):hY t n≠0:=by unfold hY;split<;>omega
def qon(t:T)(n:Int):(hY t n).natAbs=n.natAbs:=by unfold hY;split<;>omega
def Xw(a:aa T)(n:Int)(P:aa Pw->Prop)(h:∀k∈a,∀l,P l->P (dt k l n)):∀l,P l->P ((a.map dt).foldl (λ l f=>f l n) l):=by
 induction a with
 |nil=>intro l b;exact b
 |cons k a c=>intro l b;exact c (λ k d=>h k (aT _ d)) _ (h k (aX ..) l b)
def qmE(t:T):∀(l:aa Pw) (n:Int),n≠0->iS l->iS (dt t l n):=by
 refine T.ind (P:=λ t=>∀(l:aa Pw) (n:Int),n≠0->iS l->iS (dt t l n)) ?_ t;intro t b l n a h;rw[xA];split
 .exact Xw t.kids (hY t n) iS (λ k d l c=>b k d l _ (qq9 a) c) l h
 .exact h.ins t a
theorem qpk(t:T):∀(l:aa Pw) (n:Int),eA (dt t l n)<=eA l+size t*n.natAbs/\(dt t l n).length<=l.length+size t:=by
 refine T.ind (P:=λ t=>∀(l:aa Pw) (n:Int),eA (dt t l n)<=eA l+size t*n.natAbs/\(dt t l n).length<=l.length+size t) ?_ t;intro t g l n;rw[xA,cM];split
 .have:∀(a:aa T),(∀k∈a,k∈t.kids)->∀l,eA ((a.map dt).foldl (λ l f=>f l (hY t n)) l)<=eA l+(a.map size).sum*n.natAbs/\((a.map dt).foldl (λ l f=>f l (hY t n)) l).length<=l.length+(a.map size).sum:=by
    intro a
    induction a with
    |nil=>intro _ l;simp
    |cons k a b=>
      intro c l;have e:=g k (c k (aX ..)) l (hY t n);rw[qon]at e;have d:=b (λ k i=>c k (aT _ i)) (dt k l (hY t n));simp only[aU,jP,gc,dM]at d |-
      omega
  have:=this t.kids (λ _ h=>h) l;rw[dM];omega
 .have e:=M4 l t n;have d:=M0 l t n;rw[dM];omega
def LX:∀(b a:aa Pw),iS a->NzP b->iS (fK a b)
 |[],a,h,_=>h
 |p::b,a,h,k=>LX b (de a p.1 p.2) (h.ins p.1 (xg.1 k).1) (xg.1 k).2
def MD:∀(b a:aa Pw),eA (fK a b)<=eA a+eA b/\X (fK a b)<=X a+X b
 |[],a=>by simp[fK,eA]
 |p::b,a=>by
   have f:=MD b (de a p.1 p.2);have d:=M4 a p.1 p.2;have c:=M0 a p.1 p.2;have e:eA (p::b)=p.2.natAbs+eA b:=by simp[eA]
   rw[show fK a (p::b)=fK (de a p.1 p.2) b from rfl,e,bE];omega
def ixP:aa Pw->T->Nat
 |[],_=>0
 |p::l,t=>if aO p.1 t=-1 then ixP l t+1 else 0
def Zk:∀(l:aa Pw) (t:T),ixP l t<=X l
 |[],_=>ak _
 |p::l,t=>by
   have:=Zk l t;rw[ixP];split
   .simp;omega
   .omega
def ZD:∀(l:aa Pw) (t:T) (i:Nat),i<=X l->(∀k p,k<i->l[k]?=Z p->aO p.1 t=-1)->(∀p,l[i]?=Z p->aO p.1 t≠-1)->i=ixP l t
 |[],_,i,h,_,_=>by simp at h;rw[h];rfl
 |p::l,t,0,_,_,h=>by rw[ixP,ae (h p rfl)]
 |p::l,t,i+1,h,k,m=>by
   rw[ixP,af (k 0 p (by omega) rfl)];rw[<-ZD l t i (by simpa using h) (λ j q b a=>k (j+1) q (by omega) (by simpa using a)) (λ q a=>m q (by simpa using a))]
def XQ:∀(l:aa Pw) (t:T) (n:Int) (x:T) (m:Int),l[ixP l t]?=Z (x,m)->aO x t=0->
  de l t n=if m+n=0 then l.take (ixP l t)++l.drop (ixP l t+1)else l.take (ixP l t)++[(x,m+n)]++l.drop (ixP l t+1)
 |[],_,_,_,_,h,_=>by simp at h
 |(y,k)::l,t,n,x,m,h,a=>by
   have d:=dV.anti y t;have b:=dV.rng y t;rw[ixP]at h;rw[de,ixP];simp only at h |-
   by_cases c:aO y t=-1
   .rw[af c]at h;rw[ifN,ifN,af c,XQ l t n x m (by simpa using h) a];split<;>simp
   .rw[ae c]at h;simp at h;obtain⟨rfl,rfl⟩:=h;rw[ifN,ifP,ae c];split<;>simp
def W6:∀(l:aa Pw) (t:T) (n:Int),(∀p,l[ixP l t]?=Z p->aO p.1 t≠0)->de l t n=l.take (ixP l t)++[(t,n)]++l.drop (ixP l t)
 |[],_,_,_=>by simp[de,ixP]
 |(y,k)::l,t,n,h=>by
   have d:=dV.anti y t;have b:=dV.rng y t;rw[ixP]at h;rw[de,ixP];simp only at h |-
   by_cases c:aO y t=-1
   .rw[af c]at h;rw[ifN,ifN,af c,W6 l t n λ p a=>h p (by simpa using a)];simp
   .rw[ae c]at h;have:=h (y,k) rfl;simp only at this;rw[ifP,ae c];simp
def XG{l:aa Pw}(h:mj l){i j:Nat}{p q:Pw}(g:l[i]?=Z p)(f:l[j]?=Z q)(c:i<j:=by omega):aO p.1 q.1=-1:=by
 unfold mj Asc at h;rw[vY]at h;let⟨e,d⟩:=ft.1 g;let⟨b,a⟩:=ft.1 f;have:=h i j (by simpa using e) (by simpa using b) c;simpa[d,a]using this
end Go.GxZ
namespace Go.AmZ
open GxZ
def Xs(t:T):Ev (λ m _=>zl m t) (lY t):=by
 apply aB;simp only[qe7,Kg];unfold lY;by_cases a:t.kind=3
 .refine ag (aD.2 a) (av (λ h=>?_) λ h=>(av (λ b=>?_) λ b=>?_))
  .rw[cU]at h;exact am (by rw[a,h];rfl)
  .rw[cU]at b;exact am (by rw[a,b];rfl)
  .rw[di]at h b
   exact am (by
    have d:(t.name==mn)=Y:=by rw[jq];exact h
    have c:(t.name==gk)=Y:=by rw[jq];exact b
    rw[a,d,c];rfl)
 .exact ai (aC.2 a) (am (by have:(t.kind==3)=Y:=by rw[jq];exact a
                            rw[this];rfl))
def GQ(t:T):size t<=100000000->Ev (λ m _=>jt m t) t:=by
 induction t using T.ind with
 |h t g=>
   intro o;have p:=fE t;apply aB;simp only[qfO,Da]
   have a:wj 0 t.kids=Z ((),t.kids,()):=by
    unfold wj;rw[show Nat.ble (X t.kids) 100000000=O from pj (by omega)];rfl
   apply al a
   have b:=aV (P:=λ i=>Ev (λ m k=>sU m (jt m) k (X t.kids) i t.kind t.name t.sort 0 [] 0 t.kids []) t) t.kids (by omega)
    (λ a=>by
     apply aq;simp only[Rt,CZ];exact ai a (am (ay t)))
    (λ i x c q a f j l=>by
     apply aq;simp only[Rt,CZ,ay];have d:=aK c;have s:=dW t x d
     have e:dJ t.kids (i:Int) x=t.kids:=by
      rw[pL];let⟨r,n⟩:=ft.1 c;rw[<-n,List.set_getElem_self]
     refine ag a (al f (ah (g x d (by omega)) (al f ?_)));rw[e,j];exact l)
   apply bd (L:=λ m k=>sU m (jt m) k (X t.kids) 0 t.kind t.name t.sort 0 [] 0 t.kids []);exact b 0 (aG _)
def Zj(lo a:Nat)(h:lo+a<=1000000000:=by omega):iw .i64 (nh .u64 (iw .u64 (iw .i64 (aw (lo:Int) (a:Int)))) 1)=(((lo+a)/2:Nat):Int):=by
 rw[qX,show iw .i64 ((lo+a:Nat):Int)=((lo+a:Nat):Int)from dA,show iw .u64 ((lo+a:Nat):Int)=((lo+a:Nat):Int)from IntWalk.u64_in _ (by omega)]
 have:nh .u64 ((lo+a:Nat):Int) 1=(((lo+a)/2:Nat):Int):=by
  unfold nh;show Int.fdiv _ 2=_;rw[Int.fdiv_eq_ediv_of_nonneg _ (by decide)];omega
 rw[this,dA]
def szP(l:aa Pw):Nat:=(l.map λ p=>size p.1).sum
theorem nK(p:Pw)(l:aa Pw):szP (p::l)=size p.1+szP l:=by simp[szP]
def uN:∀l:aa Pw,X l<=szP l
 |[]=>aG _
 |p::l=>by
   have:=uN l;have:=size_pos p.1;rw[nK,bE];omega
def xx:∀{l:aa Pw}{p:Pw},p∈l->size p.1<=szP l
 |q::l,p,h=>by
   rw[nK];obtain rfl|h:=bi.1 h
   .omega
   .have:=xx h;omega
def Xy:∀(l:aa Pw) (t:T) (n:Int),szP (de l t n)<=szP l+size t
 |[],t,n=>by rw[de,nK];show size t+0<=0+size t;omega
 |(x,m)::l,t,n=>by
   have:=Xy l t n;rw[de];split
   .rw[nK,nK];show size t+(size x+_)<=size x+_+size t;omega
   .split
    .split
     .rw[nK];show _<=size x+_+_;omega
     .rw[nK,nK];show size x+_<=size x+_+_;omega
    .rw[nK,nK];show size x+_<=size x+_+_;omega
def V0(p:Pw)(t:T)(b:size p.1<=1000000000)(a:size t<=1000000000:=by omega):Ev (λ m _=>zj m p t) (aO p.1 t):=by
 apply aB;simp only[qen,Kc,ay];exact ah (mM _ b _ a) (au _)
def vy(l:aa Pw)(t:T):Bool:=match l[Go.GxZ.ixP l t]? with
 |Z p=>ieq (aO p.1 t) 0
 |U=>Y
def qrm{l:aa Pw}(y:mj l)(t:T)(D:szP l+size t<=100000000):∀(d lo c:Nat),c<=lo+d->lo<=c->c<=X l->(∀k p,k<lo->l[k]?=Z p->aO p.1 t=-1)->(∀k p,c<=k->l[k]?=Z p->aO p.1 t≠-1)->
  Ev (λ m k=>sy m k l (X l) lo c t.kind t.name t.sort t.kids) ((Go.GxZ.ixP l t:Int),vy l t):=by
 have E:=uN l;intro d
 induction d with
 |zero=>
   intro lo c C z r o n;have:lo=c:=by omega
   subst this;have w:=ZD l t lo r o (λ p g=>n lo p (ak _) g);subst w;apply aq;simp only[QX,B9,ay];rw[show T.mk t.kind t.name t.sort t.kids=t from ay t];refine ai (ba.2 (Jz _)) (av (λ h=>?_) λ h=>?_)
   .rw[aY]at h;have i:Go.GxZ.ixP l t<X l:=by omega
    obtain⟨p,e⟩:∃p,l[Go.GxZ.ixP l t]?=Z p:=⟨_,aS i⟩
    have v:=xx (aK e);refine al (a:=p) (by rw[db,e]) (ah (V0 (p.1,p.2) _ (bL v (by omega))) (am ?_));unfold vy;rw[e]
   .rw[ba]at h;apply am;unfold vy;rw[ox (by omega)]
 |succ d s=>
   intro lo c C z r o n;by_cases F:lo=c
   .exact s lo c (by omega) z r o n
   apply aq;simp only[QX,B9,ay];rw[show T.mk t.kind t.name t.sort t.kids=t from ay t,Zj lo c];have A:(lo+c)/2<c:=by omega
   have u:lo<=(lo+c)/2:=by omega
   generalize (lo+c)/2=b at *;have i:b<X l:=by omega
   obtain⟨p,e⟩:∃p,l[b]?=Z p:=⟨_,aS i⟩
   have v:=xx (aK e);refine ag (aY.2 (by omega)) (al (a:=p) (by rw[db,e]) (ah (V0 (p.1,p.2) _ (bL v (by omega))) (av (λ f=>?_) λ f=>?_)))
   .rw[aY]at f;have f:aO p.1 t<0:=f;have f:aO p.1 t=-1:=by obtain h|h|h:=dV.rng p.1 t<;>omega
    rw[show aw ((b:Nat):Int) 1=((b+1:Nat):Int)from by unfold aw;omega,dA];refine s (b+1) c (by omega) (by omega) r (λ k q B g=>?_) n;by_cases j:k=b
    .subst j;rw[e]at g;cases g;exact f
    .exact dV.trans _ _ _ (XG y g e) f
   .rw[ba]at f;have f:0<=aO p.1 t:=f;refine s lo b (by omega) u (by omega) o (λ k q B g=>?_);by_cases j:k=b
    .subst j;rw[e]at g;cases g;omega
    .intro x;have:=dV.trans _ _ _ (XG y e g) x;omega
def qr3{l:aa Pw}(d:mj l)(t:T)(c:szP l+size t<=100000000:=by omega):Ev (λ m _=>Cb m l t) ((Go.GxZ.ixP l t:Int),vy l t):=by
 apply aB;simp only[qcs,Ca];apply bd (L:=λ m k=>sy m k l (X l) 0 (X l) t.kind t.name t.sort t.kids);exact qrm d t c (X l) 0 (X l) (by omega) (aG _) (ak _) (λ k p b=>by omega) (λ k p b a=>by rw[ox b]at a;cases a)
def TW{l:aa Pw}(r:mj l)(t:T)(n:Int)(u:szP l+size t<=90000000:=by omega)(g:X l<=90000:=by omega)(v:eA l+n.natAbs<=1000000000000:=by omega):Ev (λ m _=>zm m l (t,n)) ((),de l t n,()):=by
 have w:=uN l;have q:=Zk l t;apply aB;simp only[qe1,Ke,ay];refine ah (qr3 r t) (av (λ h=>?_) λ h=>?_)
 .rw[bnt]at h;apply ah (GQ t (by omega))
  have i:wh 0 l (Go.GxZ.ixP l t:Int) [(re t,n)]=Z ((),de l t n,()):=by
   unfold wh;rw[show inb (Go.GxZ.ixP l t:Int) (X l)=O from by unfold inb;rw[cV];omega,show Nat.ble (X l) 100000=O from pj (by omega)]
   rw[W6 l t n λ p j f=>by
    unfold vy at h;simp only[j]at h;rw[aC]at h;exact h f]
   rw[jT,ay,bA];rfl
  rw[ay]at i;refine al i (au _)
 .rw[bnf]at h;cases b:l[Go.GxZ.ixP l t]? with
  |none=>unfold vy at h;simp only[b]at h;cases h
  |some p=>
    let⟨x,k⟩:=p
    have f:aO x t=0:=by
     unfold vy at h;simp only[b]at h;exact aD.1 h
    have o:=Zq l _ (aK b);have d:Go.GxZ.ixP l t<X l:=(ft.1 b).1;simp only at o
    have e1:iw .i64 (aw k n)=k+n:=by
     unfold aw;exact dA
    have e:ao (dJ l (Go.GxZ.ixP l t:Int) (x,k+n)) (Go.GxZ.ixP l t:Int)=Z (x,k+n):=by
     rw[pL,db,gx d]
    have a:l.set (Go.GxZ.ixP l t) (x,k+n)=l.take (Go.GxZ.ixP l t)++[(x,k+n)]++l.drop (Go.GxZ.ixP l t+1):=by
     rw[qsk,af d,bA];rfl
    refine al (by rw[db,b]) (al (by rw[db,b]) ?_);simp only[ay,e1];apply al e;rw[XQ l t n x k b f];refine av (λ c=>?_) λ c=>?_
    .rw[aD]at c;rw[af c]
     have s:wi 0 (dJ l (Go.GxZ.ixP l t:Int) (x,k+n)) (Go.GxZ.ixP l t:Int) (iw .i64 (aw (Go.GxZ.ixP l t:Int) 1))=Z ((),l.take (Go.GxZ.ixP l t)++l.drop (Go.GxZ.ixP l t+1),()):=by
      rw[show aw (Go.GxZ.ixP l t:Int) 1=((Go.GxZ.ixP l t+1:Nat):Int)from by unfold aw;omega,dA,pL];unfold wi
      rw[fw,show inb ((Go.GxZ.ixP l t+1:Nat):Int) (X l)=O from by unfold inb;rw[cV];omega,show inb (Go.GxZ.ixP l t:Int) (X l)=O from by unfold inb;rw[cV];omega,
       show ieq ((Go.GxZ.ixP l t+1:Nat):Int) (aw (Go.GxZ.ixP l t:Int) 1)=O from aD.2 (by unfold aw;omega),show Nat.ble (X l) 100000=O from pj (by omega)]
      rw[jT,Qx (ak _),qbU (by omega)];rfl
     exact al s (au _)
    .rw[aC]at c;rw[ae c];apply am;rw[pL,a]
end Go.AmZ
namespace Go.GxZ
open Go.RowKit
def Zx(q:ab T)(p:Pw):pvK q p=if aW p.1≠0 then aW p.1 else if lY p.1 then 1 else if p.2=0\/p.2 < -1000\/1000<p.2 then 7 else match q with|Z x=>if 0<=aO x p.1 then 5 else 0|U=>0:=rfl
def WP:∀(l:aa Pw) (q:ab T),pvL q l=0->mj l/\(∀p∈l,p.2≠0/\p.2.natAbs<=1000)/\(∀x,q=Z x->∀p∈l,aO x p.1=-1)/\(∀p∈l,aW p.1=0/\lY p.1=Y)
 |[],q,_=>⟨List.Pairwise.nil,(λ _ h=>by cases h),(λ _ _ _ h=>by cases h),(λ _ h=>by cases h)⟩
 |p::l,q,h=>by
   rw[pvL]at h;unfold thn at h;split at h
   rotate_left
   .next b=>exact absurd h b
   .rename_i b;have j:=Zx q p;let⟨i,g,i3,f⟩:=WP l (Z p.1) h;rw[j]at b;split at b
    .next e=>exact absurd b e
    rename_i e;split at b
    .cases b
    rename_i k;split at b
    .cases b
    rename_i n
    have d:∀x,q=Z x->aO x p.1=-1:=λ x c=>by
     subst c;simp only at b;split at b
     .cases b
     .next m=>obtain h|h|h:=dV.rng x p.1<;>omega
    refine⟨Ar.2 ⟨λ r a=>i3 _ rfl r a,i⟩,λ r a=>?_,λ x c r a=>?_,λ r a=>?_⟩
    .obtain rfl|a:=bi.1 a
     .omega
     .exact g r a
    .obtain rfl|a:=bi.1 a
     .exact d x c
     .exact rh (d x c) (by have:=i3 _ rfl r a;omega)
    .obtain rfl|a:=bi.1 a
     .exact⟨by omega,by simpa using k⟩
     .exact f r a
def wN{l:aa Pw}(h:gX l=0):iS l/\X l<=200/\(∀p∈l,p.2.natAbs<=1000)/\(∀p∈l,aW p.1=0/\lY p.1=Y):=by
 unfold gX at h;split at h
 .cases h
 .obtain⟨d,b,-,c⟩:=WP l U h;exact⟨⟨d,λ p a=>(b p a).1⟩,by omega,λ p a=>(b p a).2,c⟩
def AM(k:Nat):∀(l:aa Pw),(∀p∈l,p.2.natAbs<=k)->eA l<=X l*k
 |[],_=>by simp[eA]
 |p::l,h=>by
   have c:=AM k l λ q a=>h q (aT _ a);have b:=h p (aX ..);have e:eA (p::l)=p.2.natAbs+eA l:=rfl;rw[e,bE,dM];omega
theorem MM:∀(b a:aa Pw) (p:Pw),p∈fK a b->(∃q∈a,q.1=p.1)\/∃q∈b,q.1=p.1
 |[],a,p,h=>.inl ⟨p,h,rfl⟩
 |r::b,a,p,h=>by
   obtain⟨q,c,e⟩|⟨q,c,e⟩:=MM b (de a r.1 r.2) p h
   .obtain d|d:=Hf a r.1 r.2 q c
    .exact .inr ⟨r,aX ..,by rw[<-d];exact e⟩
    .exact .inl ⟨q,d,e⟩
   .exact .inr ⟨q,aT _ c,e⟩
def qm5(a b:aa Pw)(p:Pw):fK a (b++[p])=de (fK a b) p.1 p.2:=by unfold fK;rw[QQ];rfl
def qly{a b:aa Pw}(n:gX a=0)(m:gX b=0)(S:Nat)(f:∀p∈a,size p.1<=S)(d:∀p∈b,size p.1<=S)(j:Nat):
  mj (fK a (b.take j))/\X (fK a (b.take j))<=400/\(∀p∈fK a (b.take j),p.2.natAbs<=1000000)/\(∀p∈fK a (b.take j),size p.1<=S):=by
 obtain⟨r,t,k,-⟩:=wN n;obtain⟨o,s,i,-⟩:=wN m;have h:∀p∈b.take j,p∈b:=λ p c=>fY c;have l:=LX (b.take j) a r λ p c=>o.2 p (h p c);let⟨y,x⟩:=MD (b.take j) a;have w:=AM 1000 a k;have v:=AM 1000 (b.take j) λ p c=>i p (h p c);have u:X (b.take j)<=200:=by rw[bj];omega
 refine⟨l.1,by omega,λ p c=>?_,λ p c=>?_⟩
 .have:=Zq _ p c;omega
 .obtain⟨q,g,e⟩|⟨q,g,e⟩:=MM _ _ p c
  .rw[<-e];exact f q g
  .rw[<-e];exact d q (h q g)
end Go.GxZ
namespace Go.AmZ
open GxZ
def pF{t:T}(h:aW t=0):size t<=400:=by
 grind [aW]
def XV{t:T}:lY t=O↔t.kind=3/\(t.name=mn\/t.name=gk\/t.name=mu):=by
 grind [lY]
theorem YL(t:T):∀(l:aa Pw) (n:Int),szP (dt t l n)<=szP l+size t:=by
 refine T.ind (P:=λ t=>∀(l:aa Pw) (n:Int),szP (dt t l n)<=szP l+size t) ?_ t;intro t d l n;rw[xA];have h:=cM t;split
 .have:∀(a:aa T),(∀k∈a,k∈t.kids)->∀l,szP ((a.map dt).foldl (λ l f=>f l (hY t n)) l)<=szP l+(a.map size).sum:=by
    intro a
    induction a with
    |nil=>intro _ l;simp
    |cons k a b=>
      intro c l;have i:=d k (c k (aX ..)) l (hY t n);have g:=b (λ k e=>c k (aT _ e)) (dt k l (hY t n));simp only[aU,jP,gc]at g |-
      omega
  grind
 .exact Xy l t n
def qj(b:aa T)(a:Int)(l:aa Pw)(i:Nat):aa Pw:=((b.take i).map dt).foldl (λ l f=>f l a) l
def qmR{b:aa T}{i:Nat}{x:T}(h:b[i]?=Z x)(a:Int)(l:aa Pw):qj b a l (i+1)=dt x (qj b a l i) a:=by
 grind [qj,List.take_add_one]
def TT(a:Int)(c:a≠0):∀(b:aa T) (l:aa Pw),iS l->iS ((b.map dt).foldl (λ l f=>f l a) l)/\szP ((b.map dt).foldl (λ l f=>f l a) l)<=szP l+szL b/\
  eA ((b.map dt).foldl (λ l f=>f l a) l)<=eA l+szL b*a.natAbs/\X ((b.map dt).foldl (λ l f=>f l a) l)<=X l+szL b
 |[],l,h=>⟨h,by simp,by simp,by simp⟩
 |k::b,l,h=>by
   let⟨g,e,i3,d⟩:=TT a c b (dt k l a) (qmE k l a c h);grind [YL,qpk,eE,Nat.add_mul]
def nY(t:T)(l:aa Pw)(n:Int):Unit×aa Pw×Bool×Unit:=((),if arT t then dt t l n else[],arT t,())
def qlY(t:T):∀(l:aa Pw) (n:Int),n≠0->iS l->szP l+size t<=80000->eA l+size t*n.natAbs<=100000000000->Ev (λ m _=>kR m l t n) (nY t l n):=by
 induction t using T.ind with
 |h t K=>
   intro l n G H W I;have hl:=fE t;have S:=cM t;have M:=uN l;apply aB;simp only[qep,CL,ay];refine ah (Xs t) (av (λ h=>?_) λ h=>?_)
   .rw[bnt]at h;have r:n.natAbs<=size t*n.natAbs:=qcf _ (size_pos t);refine ah (TW H.1 t n) (am ?_);grind [nY,Zn,xA]
   rw[bnf]at h;let⟨h3,j⟩:=XV.1 h;have o:arT t=(arK t&&(t.kids.map arT).all id):=by rw[Zn,h];rfl
   have g:∀e:Int,e≠0->e.natAbs=n.natAbs->hY t n=e->arK t=O->Ev (λ m _=>qK m (kR m) m e t.kids (X t.kids) 0 l) (nY t l n):=by
    intro e p E z d;have s:dt t l n=qj t.kids e l (X t.kids):=by rw[xA,h,af rfl,z];unfold qj;rw[dg]
    have y:=aV (P:=λ i=>(∀k∈t.kids.take i,arT k=O)->Ev (λ m k=>qK m (kR m) k e t.kids (X t.kids) i (qj t.kids e l i)) (nY t l n)) t.kids (by omega)
     (λ D w=>by
      apply aq;simp only[Rm,CM];refine ai D (am ?_);unfold nY
      have:arT t=O:=by
       rw[o,d,cv,bz];intro b I;obtain⟨k,B,rfl⟩:=bF.1 I;rw[dg]at w;exact w k B
      rw[this,af rfl,s])
     (λ i x v hd D C N F w=>by
      apply aq;simp only[Rm,CM,ay];have A:=aK v;have h1:=dW t x A;let⟨Q,f2,f3,f4⟩:=TT e p (t.kids.take i) l H;have h5:=zA v;have h6:szL t.kids+1=size t:=by unfold szL;omega
      have h7:szL (t.kids.take i)*e.natAbs+size x*e.natAbs<=size t*n.natAbs:=by
       rw[<-dM,E];exact bZ _ (by omega)
      refine ag D (al C (ah (K x A (qj t.kids e l i) e p Q (by unfold qj;omega) (by unfold qj;omega)) (av (λ c=>?_) λ c=>?_)))
      .rw[bnt]at c;have c:arT x=Y:=c;apply am;unfold nY
       have:arT t=Y:=by
        rw[o,d,cv,<-vQ,bz];intro u;have:=u (arT x) (iY A);rw[c]at this;cases this
       rw[this];rfl
      .rw[bnf]at c;have c:arT x=O:=c
       have F:=F λ k f=>by
        rw[dN,v]at f;obtain f|f:=aR.1 f
        .exact w k f
        .rw[show k=x from by simpa using f];exact c
       rw[N];refine F.congr λ m k=>?_;unfold nY;rw[qmR v,c];rfl)
    apply bd (L:=λ m k=>qK m (kR m) k e t.kids (X t.kids) 0 l);exact(y 0 (aG _)) (λ k d=>by rw[JH]at d;cases d)
   have R:arK t=Y->Ev (λ _ _=>Z ((),[],Y,())) (nY t l n):=λ d=>by
    apply am;unfold nY;rw[o,d];rfl
   have q:iw .i64 (eT 0 n)=-n:=by
    have r:n.natAbs<=size t*n.natAbs:=qcf _ (size_pos t);grind [eT,dA]
   obtain a|a|a:=j
   .refine ai (by rw[a];rfl) (ai (by rw[a];rfl) (ag (by rw[a];rfl) (av (λ d=>?_) λ d=>?_)))
    .grind [arK,aY,decide_eq_true]
    .rw[ba]at d;exact ai (by rw[a];rfl) (g n G rfl (by unfold hY;rw[a];rfl) (by unfold arK;rw[a,bv (show ¬ X t.kids<2 by omega)];rfl))
   .refine ai (by rw[a];rfl) (ag (by rw[a];rfl) (av (λ d=>?_) λ d=>?_))
    .rw[bnt,aC]at d;grind [arK]
    .rw[bnf,aD]at d;rw[q];exact ai (by rw[a];rfl) (ag (by rw[a];rfl) (g (-n) (by omega) (by omega) (by unfold hY;rw[af a]) (by unfold arK;rw[a,show(X t.kids != 1)=Y from by rw[bne_eq_false_iff_eq];omega];rfl)))
   .refine ag (by rw[a];rfl) (av (λ d=>?_) λ d=>?_)
    .rw[bnt,aC]at d;grind [arK]
    .rw[bnf,aD]at d;exact ai (by rw[a];rfl) (ai (by rw[a];rfl) (ai (by rw[a];rfl) (g n G rfl (by unfold hY;rw[a];rfl) (by unfold arK;rw[a,show(X t.kids != 0)=Y from by rw[bne_eq_false_iff_eq];omega];rfl))))
def Oa(t:T)(c:size t<=1000000000:=by omega):Ev (λ m _=>tU m t) (ofP t):=by
 apply aB;simp only[qjb,KG,ay];unfold ofP;refine ah (iN t c) (av (λ h=>?_) λ h=>?_)
 .rw[bnt,aC]at h;rw[af h];exact au _
 .rw[bnf,aD]at h;have d:=pF h;rw[ifN];refine ah (qlY t [] 1 (by decide) iS.nil (by show 0+_<=_;omega) (by show 0+size t*1<=_;omega)) (av (λ a=>?_) λ a=>?_)
  .rw[bnt]at a;have a:arT t=Y:=a;rw[af a];exact au _
  .rw[bnf]at a;have a:arT t=O:=a;rw[ae (by rw[a];decide)];have e:(nY t [] 1).2.1=dt t [] 1:=by unfold nY;rw[a];rfl
   rw[e];refine av (λ b=>?_) λ b=>?_
   .rw[aY]at b;rw[ifP];exact au _
   .rw[ba]at b;rw[ifN];exact au _
def rE(l:aa Pw)(i:Nat):ab T:=if i=0 then U else(l[i-1]?).map (·.1)
def Us{l:aa Pw}{i:Nat}{p:Pw}(h:l[i]?=Z p):rE l (i+1)=Z p.1:=by
 grind [rE]
def Mi(l:aa Pw)(E:szP l<=1000000000:=by omega):Ev (λ m _=>wB m l) (gX l):=by
 have F:=uN l;apply aB;simp only[qfX,C4];unfold gX;refine av (λ h=>?_) λ h=>?_
 .rw[aY]at h;rw[ifP];exact au _
 rw[ba]at h;rw[ifN]
 have s:=aV (P:=λ i=>Ev (λ m k=>qL m k l l (X l) i) (pvL (rE l i) (l.drop i))) l (by omega)
  (λ z=>by
   apply aq;simp only[RC,C1];refine ai z (am ?_);rw[bR];rfl)
  (λ i x u D z C B A=>by
   apply aq;simp only[RC,C1,ay];have H:=xx (aK u);rw[Us u]at A;rw[D,pvL];have c:=Zx (rE l i) x
   have b:∀e:Int,pvK (rE l i) x=e->e≠0->Ev (λ _ _=>Z e) (thn (pvK (rE l i) x) (pvL (Z x.1) (l.drop (i+1)))):=λ e y r=>by
    rw[y];exact am (by unfold thn;rw[ae r])
   have d:pvK (rE l i) x=0->Ev (λ m k=>qL m k l l (X l) ((i+1:Nat):Int)) (thn (pvK (rE l i) x) (pvL (Z x.1) (l.drop (i+1)))):=λ y=>by
    rw[y];exact A.res (by unfold thn;rw[af rfl])
   refine ag z (al C (ah (iN x.1) (av (λ p=>?_) λ p=>?_)))
   .rw[bnt,aC]at p;exact b _ (by rw[c,af p]) p
   rw[bnf,aD]at p;rw[ifN]at c;refine ah (Xs x.1) (av (λ o=>?_) λ o=>?_)
   .exact b 1 (by rw[c,af o]) (by decide)
   rw[ae (by rw[o];decide)]at c;refine av (λ t=>?_) λ t=>?_
   .rw[aD]at t;exact b 7 (by rw[c,ifP]) (by decide)
   rw[aC]at t;refine av (λ n=>?_) λ n=>?_
   .rw[aY]at n;exact b 7 (by rw[c,ifP]) (by decide)
   rw[ba]at n;refine av (λ g=>?_) λ g=>?_
   .rw[aY]at g;exact b 7 (by rw[c,ifP]) (by decide)
   rw[ba]at g;rw[ifN]at c;rw[B];refine av (λ r=>?_) λ r=>?_
   .rw[aY]at r;obtain⟨j,rfl⟩:∃j,i=j+1:=⟨i-1,by omega⟩
    have w:j<X l:=by have:=(ft.1 u).1;omega
    obtain⟨q,v⟩:∃q,l[j]?=Z q:=⟨_,aS w⟩
    have G:=xx (aK v);rw[Us v]at c b d |-
    simp only at c;refine al (a:=q) (by rw[show eT ((j+1:Nat):Int) 1=((j:Nat):Int)from by unfold eT;omega,dA,db,v]) (ah (mM q.1 (by omega) x.1 (by omega)) (av (λ f=>?_) λ f=>?_))
    .rw[gK]at f;exact b 5 (by rw[c,af f]) (by decide)
    .rw[li]at f;exact d (by rw[c,ifN])
   .rw[ba]at r;have:i=0:=by omega
    subst this;exact d (by rw[c];rfl))
 apply bd (L:=λ m k=>qL m k l l (X l) 0);exact s 0 (aG _)
def oA{α:Type}{l:aa α}{i:Nat}{x:α}(h:l[i]?=Z x):l.take (i+1)=l.take i++[x]:=by rw[dN,h];rfl
def V4(a b:aa Pw):du (a++b)=du a++du b:=by unfold du;rw[List.flatMap_append]
def W2(a b:aa Pw):dx (a++b)=dx a++dx b:=by unfold dx;rw[List.flatMap_append]
def W7(p:Pw):du [p]=List.replicate p.2.toNat p.1:=by unfold du;simp
def W0(p:Pw):dx [p]=List.replicate (-p.2).toNat (apT gk [p.1]):=by unfold dx;simp
def Yq(n:Nat)(x:T):szL (List.replicate n x)=n*size x:=by
 simp_all [szL]
def qoP(t:T):size (apT gk [t])=1+size t:=by rw[cM];show 1+(size t+0)=_;omega
def VV{P:Nat->Prop}(N:Int)(g:N<=1000000)(b:P N.toNat)(a:∀j:Nat,(j:Int)<N->iw .i64 (aw (j:Int) 1)=((j+1:Nat):Int)->P (j+1)->P j):∀j:Nat,j<=N.toNat->P j:=by
 intro j e;obtain⟨d,f⟩:∃d,N.toNat=j+d:=⟨N.toNat-j,by omega⟩
 induction d generalizing j with
 |zero=>
   grind
 |succ d c=>
   grind [aw,dA]
def qqU{l:aa Pw}{p:Pw}(a:p∈l)(h:8<p.2):8<X (du l++dx l):=by
 have:X (List.replicate p.2.toNat p.1)<=X (du l):=bL (qso (iY (f:=λ p:Pw=>List.replicate p.2.toNat p.1) a)).length_le (by unfold du;rw[qbW];exact ak _);grind
def qpS{l:aa Pw}{p:Pw}(a:p∈l)(h:p.2 < -8):8<X (du l++dx l):=by
 have:X (List.replicate (-p.2).toNat (apT gk [p.1]))<=X (dx l):=bL (qso (iY (f:=λ p:Pw=>List.replicate (-p.2).toNat (apT gk [p.1])) a)).length_le (by unfold dx;rw[qbW];exact ak _);grind
def qp3(o:aa T):size (jm o)<=1+szL o:=by
 unfold jm;split
 .rw[cM];show 1+0<=_;omega
 .split
  .rename_i _ a
   have:o.getD 0 zT∈o:=by
    cases o with
    |nil=>cases a
    |cons x r=>exact aX ..
   have:=pO this;omega
  .rw[cM];exact ak _
def Mn{l:aa Pw}(b:∀p∈l,size p.1<=400):∀(a:aa Pw),(∀p∈a,p∈l/\-8<=p.2/\p.2<=8)->X (du a)<=8*X a/\X (dx a)<=8*X a/\szL (du a)<=3200*X a/\szL (dx a)<=3208*X a
 |[],_=>⟨ak _,ak _,ak _,ak _⟩
 |p::a,h=>by
   let⟨m,k,i3,j⟩:=Mn b a λ q c=>h q (aT _ c);let⟨e,o,n⟩:=h p (aX ..);have d:=b p e;have e1:du (p::a)=List.replicate p.2.toNat p.1++du a:=by rw[show p::a=[p]++a from rfl,V4,W7]
   have f:dx (p::a)=List.replicate (-p.2).toNat (apT gk [p.1])++dx a:=by rw[show p::a=[p]++a from rfl,W2,W0]
   have i:p.2.toNat*size p.1<=8*400:=QJ (by omega) d;have g:(-p.2).toNat*(1+size p.1)<=8*401:=QJ (by omega) (by omega);rw[e1,f,uM,uM,Yq,Yq,qoP];grind
def qp(o:aa T):T×Int:=if 8<X o then(zT,3)else if aW (jm o)≠0 then(zT,aW (jm o))else(jm o,0)
def UU{l:aa Pw}(h:gX l=0):lh l=qp (du l++dx l):=by
 grind [lh,qp]
def WC(l:aa Pw)(S:szP l<=1000000000:=by omega):Ev (λ m _=>qP m l) (lh l):=by
 apply aB;simp only[qgY,Dn];refine ah (Mi l S) (av (λ h=>?_) λ h=>?_)
 .rw[bnt,aC]at h;unfold lh;rw[af h];exact au _
 rw[bnf,aD]at h;let⟨_,H,hN,hV⟩:=wN h;have c:∀p∈l,size p.1<=400:=λ p A=>pF (hV p A).1;rw[UU h]
 have D:=aV (P:=λ i=>(∀p∈l.take i,p∈l/\-8<=p.2/\p.2<=8)->Ev (λ m k=>(fx m k).1 l (X l) i 0 [] 0 [] (du (l.take i)) (dx (l.take i))) (qp (du l++dx l))) l (by omega)
  (λ F t=>by
   apply aq;simp only[RT,Ds,ay];rw[dg]at t |-
   let⟨b1,b2,b3,b4⟩:=Mn c l t;refine ai F (ah (Gk (du l) (dx l)) ?_);have ho:szL (du l++dx l)<=10000000:=by rw[uM];omega
   generalize du l++dx l=o at *;dsimp only;have ad:=kW o;have W:=qp3 o;unfold qp;refine av (λ b=>?_) λ b=>?_
   .rw[aY]at b;rw[ifP];exact au _
   rw[ba]at b;rw[ifN]
   have f:∀u:T,u=jm o->Ev (λ m _=>ac (fA m u) λ v=>cond (ap (ieq v 0)) (Z (T.mk 0 [] 0 [],v)) (Z (u,0))) (if aW (jm o)≠0 then(zT,aW (jm o))else(jm o,0)):=by
    intro u Q;subst Q;refine ah (iN _) (av (λ h=>?_) λ h=>?_)
    .rw[bnt,aC]at h;rw[af h];exact au _
    .rw[bnf,aD]at h;rw[ifN];exact au _
   have y:∀(n:aa aN) (x:aa T),Ev (λ m _=>zH m n x) (apT n x):=λ n x=>aB (au _);refine ah (y [109,117,108] o) (av (λ G=>?_) λ G=>?_)
   .rw[aD]at G;exact ah (y [111,110,101] []) (f _ (by unfold jm;rw[ifP];rfl))
   .rw[aC]at G;refine av (λ C=>?_) λ C=>?_
    .rw[aD]at C;refine al (a:=o.getD 0 zT) ?_ (f _ (by unfold jm;rw[ifN,ifP]));rw[nH,dz];cases o with
     |nil=>simp at C
     |cons x r=>rfl
    .rw[aC]at C;exact f _ (by unfold jm;rw[ifN,ifN];rfl))
  (λ i p z hd F hg hi B t=>by
   apply aq;simp only[RT,Ds];have s:=aK z;have hn:=hN p s;have hz:=c p s;have an:=(ft.1 z).1;refine ag F (al hg (av (λ b=>?_) λ b=>?_))
   .rw[aY]at b;unfold qp;rw[af (qqU s b)];exact au _
   rw[ba]at b;refine av (λ w=>?_) λ w=>?_
   .rw[aY]at w;unfold qp;rw[af (qpS s w)];exact au _
   rw[ba]at w;let⟨b1,b2,b3,b4⟩:=Mn c _ t;have R:X (l.take i)<=200:=by rw[bj];omega
   have B:=B λ q g=>by
    rw[oA z]at g;obtain g|g:=aR.1 g
    .exact t q g
    .rw[show q=p from by simpa using g];exact⟨s,w,b⟩
   rw[oA z,V4,W2,W7,W0]at B;generalize du (l.take i)=I at *;generalize dx (l.take i)=K at*
   have M:=VV (P:=λ j=>Ev (λ m k=>(fx m k).2.2 l (X l) i (-p.2) j 0 [] 0 p.1.kind p.1.name p.1.sort p.1.kids p.2 [] (I++List.replicate p.2.toNat p.1) (K++List.replicate j (apT gk [p.1]))) (qp (du l++dx l))) (-p.2) (by omega)
    (by
     apply aq;simp only[RS,Db];apply ai (ba.2 (by omega));rw[hi];exact B)
    (λ j E d e=>by
     apply aq;simp only[RS,Db,ay];rw[show T.mk p.1.kind p.1.name p.1.sort p.1.kids=p.1 from ay p.1,d];refine ag (aY.2 E) (ah (GQ p.1 (by omega)) (ah (a:=apT gk [p.1]) (aB (au _)) (ag (bI (by rw[aM,sk];omega)) ?_)));refine e.congr λ m k=>?_;rw[List.replicate_succ',bA])
   have N:=VV (P:=λ j=>Ev (λ m k=>(fx m k).2.1 l (X l) i p.2 j 0 [] 0 p.1.kind p.1.name p.1.sort p.1.kids p.2 [] (I++List.replicate j p.1) K) (qp (du l++dx l))) p.2 (by omega)
    (by
     apply aq;simp only[RU,Dd];apply ai (ba.2 (by omega));rw[show iw .i64 (eT 0 p.2)=-p.2 from by unfold eT;rw[dA];omega];have:=M 0 (aG _);rw[List.replicate_zero,bK]at this;exact this)
    (λ j E d e=>by
     apply aq;simp only[RU,Dd,ay];rw[show T.mk p.1.kind p.1.name p.1.sort p.1.kids=p.1 from ay p.1,d];refine ag (aY.2 E) (ah (GQ p.1 (by omega)) (ag (bI (by rw[aM,sk];omega)) ?_));refine e.congr λ m k=>?_;rw[List.replicate_succ',bA])
   have:=N 0 (aG _);rw[List.replicate_zero,bK]at this;exact this)
 apply bd (L:=λ m k=>(fx m k).1 l (X l) 0 0 [] 0 [] [] []);exact(D 0 (aG _)) (λ p A=>by rw[JH]at A;cases A)
def qp8(l:aa Pw)(g:szP l<=100000000):Ev (λ m _=>DI m l) ((),l,()):=by
 have h:=uN l;apply aB;simp only[qfe,CU]
 have a:=aV (P:=λ i=>Ev (λ m k=>sN m k l (X l) i (l.take i)) ((),l,())) l (by omega)
  (λ b=>by
   apply aq;simp only[Rr,CO];apply ai b;rw[dg];exact au _)
  (λ i p c j b e d f=>by
   apply aq;simp only[Rr,CO,ay];have o:=xx (aK c);have n:X (l.take i)<=X l:=by rw[bj];omega
   refine ag b (al e (ah (GQ p.1 (by omega)) (ag (bI) ?_)));rw[d];refine f.congr λ m k=>?_;rw[oA c])
 apply bd (L:=λ m k=>sN m k l (X l) 0 []);exact a 0 (aG _)
def qmH(p:Pw)(l:aa Pw):vH (p::l)=((J (p.2 < -1000)||J (1000<p.2))||vH l):=rfl
def qp1(l:aa Pw)(r:X l<=1000000000):∃v,Ev (λ m _=>Ci m l) v/\ile 0 v=vH l:=by
 have b:=aV (P:=λ i=>∃v,Ev (λ m k=>wd m k l (X l) i) v/\ile 0 v=vH (l.drop i)) l (by omega)
  (λ a=>by
   refine⟨-1,aq ?_,by rw[bR];rfl⟩;simp only[JO,yR];exact ai a (au _))
  (λ i p q n a f j o=>by
   let⟨v,d,c⟩:=o;rw[n,qmH]
   have e:Ev (λ m _=>CX m (p.1,p.2)) (J (p.2 < -1000)||J (1000<p.2)):=by
    apply aB;simp only[qej,Kb];refine av (λ h=>?_) λ h=>?_
    .rw[aY]at h;exact am (by rw[bg h];rfl)
    .rw[ba]at h;exact am (by rw[bv (show ¬ p.2 < -1000 by omega)];rfl)
   cases g:J (p.2 < -1000)||J (1000<p.2)with
   |true=>
     refine⟨i,aq ?_,by rw[vP,gK];omega⟩;simp only[JO,yR,ay];exact ag a (al f (ah e (ag g (au _))))
   |false=>
     refine⟨v,aq ?_,by rw[pi];exact c⟩;simp only[JO,yR,ay];refine ag a (al f (ah e (ai g ?_)));rw[j];exact d)
 let⟨v,d,c⟩:=b 0 (aG _);refine⟨v,aB ?_,by rw[c,bH]⟩;simp only[qcM,Cd];grind [Ev.diag]
def IQ(l:aa Pw):aa Pw×Int:=if vH l then([],7)else if 200<X l then([],3)else(l,0)
def qrg(l:aa Pw)(c:X l<=1000000000:=by omega):Ev (λ m _=>DG m l) (IQ l):=by
 let⟨v,b,d⟩:=qp1 l c;apply aB;simp only[qeM,Kh]
 have e:Ev (λ m _=>Cc m l) (vH l):=by
  apply aB;simp only[qcw,JK];exact ah b (am d)
 unfold IQ;refine ah e (av (λ h=>?_) λ h=>?_)
 .rw[af h];exact au _
 .rw[ae (by rw[h];decide)];refine av (λ a=>?_) λ a=>?_
  .rw[aY]at a;rw[ifP];exact au _
  .rw[ba]at a;rw[ifN];exact au _
def Zv(S:Nat):∀l:aa Pw,(∀p∈l,size p.1<=S)->szP l<=X l*S
 |[],_=>by simp[szP]
 |p::l,h=>by
   have b:=Zv S l λ q a=>h q (aT _ a);grind [List.mem_cons_self,nK,List.length_cons,Nat.add_mul]
def qlx(a b:aa Pw):qw a b=if gX a≠0 then([],gX a)else if gX b≠0 then([],gX b)else IQ (fK a b):=rfl
def LN{a b:aa Pw}(f:gX a=0)(e:gX b=0)(j:Nat):
  iS (fK a (b.take j))/\X (fK a (b.take j))<=400/\szP (fK a (b.take j))<=160000/\eA (fK a (b.take j))<=400000:=by
 let⟨q,s,l,i⟩:=wN f;let⟨o,r,k,h⟩:=wN e;have d:∀p∈b.take j,p∈b:=λ p c=>fY c;let⟨y,g,x,n⟩:=qly f e 400 (λ p c=>pF (i p c).1) (λ p c=>pF (h p c).1) j;have m:=Zv 400 _ n;let⟨w,_⟩:=MD (b.take j) a;have v:=AM 1000 a l;have u:=AM 1000 (b.take j) λ p c=>k p (d p c);have t:X (b.take j)<=200:=by rw[bj];omega
 refine⟨LX _ _ q λ p c=>o.2 p (d p c),g,bL m (bZ 400 g),?_⟩;grind
def qqd(a b:aa Pw)(s:szP a<=100000000:=by omega)(y:szP b<=100000000:=by omega):Ev (λ m _=>Fs m a b) (qw a b):=by
 have w:=uN b;apply aB;simp only[qhW,DE];rw[qlx];refine ah (Mi a) (av (λ h=>?_) λ h=>?_)
 .rw[bnt,aC]at h;rw[af h];exact au _
 rw[bnf,aD]at h;rw[ifN];refine ah (Mi b) (av (λ c=>?_) λ c=>?_)
 .rw[bnt,aC]at c;rw[af c];exact au _
 rw[bnf,aD]at c;rw[ifN];apply ah (qp8 a s)
 have d:=aV (P:=λ i=>Ev (λ m k=>ti m k b (X b) i (fK a (b.take i))) (IQ (fK a b))) b (by omega)
  (λ e=>by
   apply aq;simp only[Sl,Dy];rw[dg];let⟨_,j,_,_⟩:=LN h c (X b);rw[dg]at j;exact ai e (ah (qrg _) (au _)))
  (λ i p f x e r q t=>by
   apply aq;simp only[Sl,Dy,ay];have g:=aK f;let⟨u,j,A,z⟩:=LN h c i;let⟨_,_,o,l⟩:=wN c;have v:=pF (l p g).1;have n:=o p g;refine ag e (al r (ah (TW u.1 p.1 p.2) ?_));rw[q];refine t.congr λ m k=>?_;rw[oA f,qm5])
 apply bd (L:=λ m k=>ti m k b (X b) 0 a);exact d 0 (aG _)
section
open Lib
def qne{t:T}(h:my t=0):aW t=0/\bT t=0:=by
 unfold my at h;exact uI h
def Xg{t:T}(h:bT t=0){n:aa aN}(i:isN t n=O){a b c:Int}(g:bW n=(a,b,c)):a<=(X t.kids:Int)/\(X t.kids:Int)<=b/\∀k∈t.kids,bT k=0:=by
 obtain⟨d,rfl⟩:=ji.1 i;let⟨l,j⟩:=As d h;let⟨_,f,e,_⟩:=WM d l;rw[g]at f e;exact⟨f,e,j⟩
end
def Cl(P:T->Prop):Prop:=∀t:T,t.kind=3->P t->∀k∈t.kids,P k
def GM:∀(n:Nat) (a b:aa T),X a+X b<=n->∀x∈dB a b,x∈a\/x∈b
 |_,[],b,_,x,h=>by rw[dB]at h;exact .inr h
 |_,z::a,[],_,x,h=>by rw[dB]at h;exact .inl h
 |0,z::a,y::b,c,x,h=>by simp at c
 |n+1,z::a,y::b,c,x,h=>by
   simp only[bE]at c;rw[dB]at h;split at h
   .obtain rfl|h:=bi.1 h
    .grind
    .rcases GM n a (y::b) (by simp;omega) x h with h|h
     .grind
     .exact .inr h
   .split at h
    .obtain rfl|h:=bi.1 h
     .grind
     .rcases GM n (z::a) b (by simp;omega) x h with h|h
      .exact .inl h
      .grind
    .obtain h|h:=GM n a b (by omega) x h
     .grind
     .grind
def Lk:∀(b:aa (aa T)) (a:aa T),∀x∈b.foldl dB a,x∈a\/∃l∈b,x∈l
 |[],a,x,h=>.inl h
 |l::b,a,x,h=>by
   obtain h|⟨m,c,h⟩:=Lk b (dB a l) x h
   .obtain h|h:=GM _ a l (ak _) x h
    .exact .inl h
    .grind
   .grind
theorem qpM{P:T->Prop}(g:Cl P)(t:T):P t->∀x∈iO t,P x:=by
 refine T.ind (P:=λ t=>P t->∀x∈iO t,P x) ?_ t;intro t c d x a;rw[MA]at a;split at a
 .cases a
 .split at a
  .rename_i e;obtain h|⟨l,f,h⟩:=Lk _ _ x a
   .cases h
   .obtain⟨k,b,rfl⟩:=bF.1 f;exact c k b (g t (ji.1 e).1 d k b) x h
  .grind
def qnc{P:T->Prop}(d:Cl P){l:aa T}(h:∀k∈l,P k):∀x∈eO l,P x:=by
 intro x b;obtain a|⟨m,c,a⟩:=Lk _ _ x b
 .cases a
 .grind [qpM]
def qqk{P:T->Prop}{l:aa Pw}{t:T}(n:Int)(a:P t)(c:∀p∈l,P p.1):∀p∈de l t n,P p.1:=by
 intro p b;grind [Hf]
theorem qpV{P:T->Prop}(f:Cl P)(t:T):P t->∀(l:aa Pw) (n:Int),(∀p∈l,P p.1)->∀p∈dt t l n,P p.1:=by
 refine T.ind (P:=λ t=>P t->∀(l:aa Pw) (n:Int),(∀p∈l,P p.1)->∀p∈dt t l n,P p.1) ?_ t;intro t d b l n a;rw[xA];split
 .next e=>have g:=(XV.1 e).1;exact Xw t.kids (hY t n) (λ l=>∀p∈l,P p.1) (λ k c l a=>d k c (f t g b k c) l _ a) l a
 .exact qqk n b a
def Iz{P:T->Prop}(c:Cl P){t:T}(a:P t):∀p∈(ofP t).1,P p.1:=by
 intro p b;grind [ofP,qpV]
def qqu{P:T->Prop}{a b:aa Pw}(d:∀p∈a,P p.1)(c:∀p∈b,P p.1):∀p∈(qw a b).1,P p.1:=by
 grind [qw,MM]
theorem qoX{l:aa Pw}{x:T}(h:x∈du l):∃p∈l,x=p.1:=by
 grind [du]
def qoa{l:aa Pw}{x:T}(h:x∈dx l):∃p∈l,x=apT gk [p.1]:=by
 grind [dx]
def kZ:Cl λ t=>bT t=0:=λ t a h=>(As a h).2
theorem Tq:∀(l:aa Int),(∀y∈l,y=0)->l.foldl thn 0=0
 |[],_=>rfl
 |z::l,h=>by
   rw[qN,h z (aX ..)];exact Tq l λ y a=>h y (aT _ a)
def rB{t:T}(h:gZ t=0)(a:∀k∈t.kids,bT k=0):bT t=0:=by
 grind [xw,Tq]
def uK{n:aa aN}{a:aa T}(e:(bW n).2.2≠0)(d:(bW n).1<=(X a:Int))(c:(X a:Int)<=(bW n).2.1)(b:iC (apT n a)=Y):gZ (apT n a)=0:=by
 unfold gZ;show(if(3:Int)≠3 then(0:Int)else if(bW n).2.2=0 then 10 else if(X a:Int)<(bW n).1\/(bW n).2.1<(X a:Int)then 6 else if iC (apT n a)then 10 else 0)=0;grind
def xE{n:aa aN}(d:n≠mz)(c:n≠nSk)(b:n≠vt)(a:aa T):iC (apT n a)=Y:=by
 unfold iC;rw[ae (show ¬ (apT n a).name=mz from d),ae (show ¬ ((apT n a).name=nSk\/(apT n a).name=vt)from λ h=>h.elim c b)]
def pU:bT zT=0:=by rw[xw];rfl
def pY{P:T->Prop}(b:Cl P)(d:P zT){t:T}(c:t.kind=3)(a:P t)(i:Nat):P (kid t i):=by
 by_cases h:i<X t.kids
 .exact b t c a _ (XC h)
 .grind [kid]
def qnq{t:T}(b:t.kind=3)(h:aW t=0):X t.kids<=8:=by
 unfold aW at h;split at h
 .next a=>exact absurd h a
 .next a=>have c:=(LA (t:=t)).1;grind [fI,na]
theorem Va{l:aa Pw}(f:∀p∈l,bT p.1=0)(h:(lh l).2=0):bT (lh l).1=0:=by
 by_cases c:gX l=0
 .rw[UU c]at h |-
  unfold qp at h |-
  by_cases e:8<X (du l++dx l)
  .rw[af e]at h;cases h
  rw[ae e]at h |-
  by_cases g:aW (jm (du l++dx l))=0
  .rw[ifN]
   have a:∀x∈du l++dx l,bT x=0:=λ x b=>by
    obtain b|b:=aR.1 b
    .grind [qoX]
    .obtain⟨p,c,rfl⟩:=qoa b;exact rB (uK (by decide) (by show(1:Int)<=1;decide) (by show(1:Int)<=1;decide) (xE (by decide) (by decide) (by decide) _)) λ k d=>by rw[cQ.1 d];exact f p c
   generalize du l++dx l=o at *;unfold jm;split
   .exact rB (uK (by decide) (by show(0:Int)<=0;decide) (by show(0:Int)<=0;decide) (xE (by decide) (by decide) (by decide) _)) λ k d=>by cases d
   .split
    .grind
    .next j i=>exact rB (uK (by decide) (by show(2:Int)<=_;omega) (by show _<=(8:Int);omega) (xE (by decide) (by decide) (by decide) _)) a
  .grind
 .grind [lh]
def Xf{b:T}{l:aa Pw}(d:bT b=0)(f:∀p∈l,bT p.1=0)(h:(qh b l).2=0):bT (qh b l).1=0:=by
 unfold qh at h |-
 split at h
 .grind
 .rename_i e;rw[ae e];split at h
  .next a=>exact absurd h a
  .rename_i a;rw[ae a];refine rB (uK (by decide) (by show(2:Int)<=2;decide) (by show(2:Int)<=2;decide) (xE (by decide) (by decide) (by decide) _)) λ k c=>?_;obtain rfl|c:=bi.1 c
   .exact d
   .grind [List.mem_singleton,Va]
theorem qpg{n:aa aN}{c:aa T}(i:∀k∈c,bT k=0)(B:gZ (apT n c)=0)(a:(gu (apT n c)).2=0):bT (gu (apT n c)).1=0:=by
 have g:bT (apT n c)=0:=rB B i;unfold gu at a |-
 by_cases x:isD (apT n c).name=O
 .rw[af x];show bT (rT _)=0;unfold rT;split
  .rename_i d
   have p:(kid (apT n c) 0).kind=3:=by
    unfold ku at d;split at d
    .exact(ji.1 d).1
    .split at d
     .rw[aJ]at d;exact(ji.1 d.1).1
     .split at d
      .rw[aJ,aJ]at d;exact(ji.1 d.1.1).1
      .split at d
       .rw[aJ,aJ]at d;exact(ji.1 d.1.1).1
       .grind [ji]
   exact pY kZ pU p (pY kZ pU rfl g 0) _
  .exact g
 rw[ae x]at a |-
 by_cases u:(apT n c).name=lr
 .rw[af u]at a |-
  unfold yF at a |-
  split at a
  .next e=>exact absurd a e
  rename_i e;rw[ae e];split at a
  .cases a
  rename_i h;rw[ae h];show bT (iF (eO c))=0
  have m:aW (iF (eO c))=0:=by
   have:¬ aW (iF (eO (apT n c).kids))≠0:=h;exact yQ this
  have l:=qnc kZ i;generalize eO c=o at *;unfold iF at m |-
  split
  .exact rB (uK (by decide) (by show(0:Int)<=0;decide) (by show(0:Int)<=0;decide) (xE (by decide) (by decide) (by decide) _)) λ k A=>by cases A
  .rename_i D;split
   .grind
   .next C=>rw[ae D,ae C]at m;have z:X o<=8:=qnq (t:=apT lr o) rfl m;exact rB (uK (by decide) (by show(2:Int)<=_;omega) (by show _<=(8:Int);omega) (xE (by decide) (by decide) (by decide) _)) l
 rw[ae u]at a |-
 by_cases v:(apT n c).name=mn\/(apT n c).name=gk\/(apT n c).name=mu
 .rw[af v]at a |-
  unfold Bc at a |-
  split at a
  .next e=>exact absurd a e
  next e=>rw[ae e];exact Va (Iz kZ g) a
 rw[ae v]at a |-
 by_cases w:(apT n c).name=mA
 .rw[af w]at a |-
  have q:=pY kZ pU (t:=apT n c) rfl g 0;have s:=pY kZ pU (t:=apT n c) rfl g 1;generalize kid (apT n c) 0=b at *;generalize kid (apT n c) 1=y at *;unfold yi at a |-
  split at a
  .next e=>exact absurd a e
  rename_i e;rw[ae e];split at a
  .rename_i f;rw[af f];split at a
   .next h=>exact absurd a h
   rename_i h;rw[ae h];split at a
   .next r=>exact absurd a r
   next r=>rw[ae r];have j:=(ji.1 f).1;exact Xf (pY kZ pU j q 0) (qqu (P:=λ t=>bT t=0) (Iz kZ (pY kZ pU j q 1)) (Iz kZ s)) a
  .next f=>rw[ae f];exact Xf q (Iz kZ s) a
 .rw[ae w];exact g
theorem xD:size zT=1:=by rw[cM];rfl
theorem rC(t:T)(i:Nat):size (kid t i)<=size t:=by
 have:=size_pos t;by_cases h:i<X t.kids
 .have:=dW t _ (XC h);omega
 .grind [kid,List.getElem?_eq_none,xD]
theorem WD(l:aa Pw):size (lh l).1<=400:=by
 unfold lh;have:=xD;split
 .show size zT<=_;omega
 .split
  .show size zT<=_;omega
  .split
   .show size zT<=_;omega
   .next h=>exact pF (yQ h)
theorem qqG(b:T)(l:aa Pw):size (qh b l).1<=401+size b:=by
 unfold qh;have:=xD;have:=WD l;split
 .show size b<=_;omega
 .split
  .show size zT<=_;omega
  .rw[cM];show 1+(size b+(size (lh l).1+0))<=_;omega
def qp4(n:aa aN)(a:aa T):size (gu (apT n a)).1<=402+szL a:=by
 have b:=xD;have c:size (apT n a)=1+szL a:=cM _;unfold gu;split
 .grind [rT,rC]
 .split
  .unfold yF;split
   .show size zT<=_;omega
   .split
    .show size zT<=_;omega
    .have f:=qqV (eO (apT n a).kids);have e:=Gw (apT n a).kids;have d:szL (apT n a).kids=szL a:=rfl;show size (iF _)<=_;omega
  .grind [Bc,yi,WD,rC,qqG]
def X3(t:T):size (ch t).1<=402*size t:=by
 refine T.ind (P:=λ t=>size (ch t).1<=402*size t) ?_ t;intro t b;have f:=xD;have g:=size_pos t;rw[H9];split
 .show size t<=_;omega
 .split
  .show size zT<=_;omega
  .have e:=qp4 t.name ((t.kids.map ch).map (·.1))
   have d:szL ((t.kids.map ch).map (·.1))<=402*szL t.kids:=by
    have:∀l:aa T,(∀k∈l,k∈t.kids)->szL ((l.map ch).map (·.1))<=402*szL l:=by
     intro l
     induction l with
     |nil=>intro _;exact ak _
     |cons k l a=>
       intro h;have e:=b k (h k (aX ..));have d:=a λ x c=>h x (aT _ c);rw[aU,aU,eE,eE];omega
    exact this t.kids λ _ h=>h
   have i:size t=1+szL t.kids:=cM t;omega
def TO:∀(l:aa Int),l.foldl thn 0=0->∀y∈l,y=0
 |[],_,y,a=>by cases a
 |z::l,h,y,a=>by
   rw[qN]at h;by_cases b:z=0
   .subst b;obtain rfl|a:=bi.1 a
    .rfl
    .exact TO l h y a
   .grind [fN]
theorem Aw{t:T}(h:t.kind≠3):ch t=(t,0):=by rw[H9,af h]
theorem qpL{t:T}(d:t.kind=3)(h:(ch t).2=0):(∀k∈t.kids,(ch k).2=0)/\ch t=gu (apT t.name ((t.kids.map ch).map (·.1))):=by
 rw[H9,ae (λ c=>c d)]at h |-
 split at h
 .next a=>exact absurd h a
 .next a=>rw[ae a];refine⟨λ k b=>?_,rfl⟩;exact TO _ (yQ a) _ (bF.2 ⟨_,bF.2 ⟨k,b,rfl⟩,rfl⟩)
theorem qpK(l:aa T)(h:∀k∈l,k.kind≠3):(l.map ch).map (·.1)=l:=by
 induction l with
 |nil=>rfl
 |cons k l a=>
   grind [Aw,List.mem_cons_self,List.mem_cons_of_mem]
theorem Wy{t:T}(i:t.kind=3)(h:gZ t=0):gZ (apT t.name ((t.kids.map ch).map (·.1)))=0:=by
 let⟨l,j,g,a⟩:=WM i h;apply uK l (by simpa using j) (by simpa using g);unfold iC at a |-
 show(if t.name=mz then J ((kid (apT t.name ((t.kids.map ch).map (·.1))) 0).kind≠2)else if t.name=nSk\/t.name=vt then((t.kids.map ch).map (·.1)).any λ k=>J (k.kind=3)||J (k.sort≠1)else Y)=Y;split
 .rename_i c;rw[af c]at a;have b:(kid t 0).kind=2:=by simpa using a
  cases d:t.kids with
  |nil=>
    unfold kid at b;rw[d]at b;exact absurd b (by decide)
  |cons x r=>
    have e:kid t 0=x:=by unfold kid;rw[d];rfl
    rw[e]at b;show J ((ch x).1.kind≠2)=Y;grind [Aw]
 .rename_i c;rw[ae c]at a;split
  .next f=>rw[af f]at a;grind [qpK,List.any_eq_false]
  .rfl
theorem qpI(t:T):bT t=0->(ch t).2=0->bT (ch t).1=0:=by
 refine T.ind (P:=λ t=>bT t=0->(ch t).2=0->bT (ch t).1=0) ?_ t;grind [qpL,As,qpg,Wy,Aw]
def jb(t:T){b:Bool}(h:ku t=b):rT t=if b then kid (kid t 0) (if t.name=BB then 1 else 0)else t:=by unfold rT;rw[h]
def uS{t:T}(h:bT t=0){n:aa aN}(e:isN t n=O){a b c:Int}(d:bW n=(a,b,c)){i:Nat}(f:(i:Int)<a):ao t.kids (i:Int)=Z (kid t i):=by
 have:=(Xg h e d).1;exact Ny
def qlS(t:T)(K:t.kind=3)(I:bT t=0)(D:isD t.name=O)(M:size t<=1000000000:=by omega):Ev (λ m _=>zp m t) (rT t):=by
 have B:∀i,size (kid t i)<=size t:=rC t;have r:∀i j,size (kid (kid t i) j)<=1000000000:=λ i j=>by have:=rC (kid t i) j;have:=B i;omega
 have v:∀i j k,size (kid (kid (kid t i) j) k)<=1000000000:=λ i j k=>by have:=rC (kid (kid t i) j) k;have:=r i j;omega
 have f:∀i,bT (kid t i)=0:=λ i=>pY kZ pU K I i;have x:∀i j,(kid t i).kind=3->bT (kid (kid t i) j)=0:=λ i j h=>pY kZ pU h (f i) j;have A:isN t t.name=O:=ji.2 ⟨K,rfl⟩;have H:∀{u:T}{n:aa aN},bT u=0->isN u n=O->∀{b c:Int},bW n=(1,b,c)->ao u.kids 0=Z (kid u 0):=λ h d _ _ e=>uS (i:=0) h d e (by decide);have q:∀{u:T}{n:aa aN},bT u=0->isN u n=O->∀{b c:Int},bW n=(2,b,c)->ao u.kids 0=Z (kid u 0):=λ h d _ _ e=>uS (i:=0) h d e (by decide);have p:∀{u:T}{n:aa aN},bT u=0->isN u n=O->∀{b c:Int},bW n=(2,b,c)->ao u.kids 1=Z (kid u 1):=λ h d _ _ e=>uS (i:=1) h d e (by decide);have E:bW IX=(2,2,1):=by decide
 have G:bW BC=(2,2,1):=by decide
 have z:bW Bg=(2,2,1):=by decide
 have F:bW nPk=(1,1,1):=by decide
 have y:bW vf=(2,2,1):=by decide
 unfold isD at D;simp only[gO,B1]at D;apply aB;simp only[qfw,Km,ay]
 have l:∀{a b c:Int},bW t.name=(a,b,c)->a=b->(X t.kids:Int)=a:=λ e L=>by
  have:=Xg I A e;omega
 obtain ((((d|d)|d)|d)|d)|d:=D
 .have w:=l (a:=1) (b:=1) (c:=3) (by rw[d];decide) rfl;refine al (rF) (ai (ba.2 (by omega)) (ag (by rw[d];rfl) (ah (qe _ _) ?_)));have g:ku t=isN (kid t 0) IX:=by unfold ku;rw[af (.inl d)]
  refine av (λ h=>?_) λ h=>?_
  .refine al (q (f 0) h E) (am ?_);rw[jb t (g.trans h),af rfl,ae (by rw[d];decide)]
  .apply am;rw[jb t (g.trans h),ae (by decide)]
 .have w:=l (a:=1) (b:=1) (c:=3) (by rw[d];decide) rfl;refine al (rF) (ai (ba.2 (by omega)) (ai (by rw[d];rfl) (ag (by rw[d];rfl) (ah (qe _ _) ?_))));have g:ku t=isN (kid t 0) IX:=by unfold ku;rw[af (.inr d)]
  refine av (λ h=>?_) λ h=>?_
  .refine al (p (f 0) h E) (am ?_);rw[jb t (g.trans h),af rfl,af d]
  .apply am;rw[jb t (g.trans h),ae (by decide)]
 .have w:=l (a:=2) (b:=2) (c:=3) (by rw[d];decide) rfl;refine al (rF) (ag (aY.2 (by omega)) (al (OM) (ai (by rw[d];rfl) (ai (by rw[d];rfl) (ag (by rw[d];rfl) (ah (qe _ _) ?_))))));have g:ku t=(isN (kid t 0) BC&&cg (kid (kid t 0) 1) (kid t 1)):=by unfold ku;rw[ae (by rw[d];decide),af d]
  refine av (λ h=>?_) λ h=>?_
  .refine al (p (f 0) h G) (ah (Hx _ _ (r 0 1) (by have:=B 1;omega)) (av (λ o=>?_) λ o=>?_))
   .refine al (q (f 0) h G) (am ?_);rw[jb t (b:=O) (by rw[g,show isN (kid t 0) BC=O from h,o];rfl),af rfl,ae (by rw[d];decide)]
   .apply am;rw[jb t (b:=Y) (by rw[g,o,yN]),ae (by decide)]
  .apply am;rw[jb t (b:=Y) (by rw[g,show isN (kid t 0) BC=Y from h];rfl),ae (by decide)]
 .have w:=l (a:=2) (b:=2) (c:=3) (by rw[d];decide) rfl;refine al (rF) (ag (aY.2 (by omega)) (al (OM) (ai (by rw[d];rfl) (ai (by rw[d];rfl) (ai (by rw[d];rfl) (ag (by rw[d];rfl) (ah (qe _ _) ?_)))))));have g:ku t=(isN (kid t 0) Bg&&isN (kid (kid t 0) 1) nPk&&cg (kid (kid (kid t 0) 1) 0) (kid t 1)):=by unfold ku;rw[ae (by rw[d];decide),ae (by rw[d];decide),af d]
  refine av (λ h=>?_) λ h=>?_
  .have C:=(ji.1 h).1;refine al (p (f 0) h z) (ah (qe _ _) (av (λ o=>?_) λ o=>?_))
   .refine al (p (f 0) h z) (al (H (x 0 1 C) o F) (ah (Hx _ _ (v 0 1 0) (by have:=B 1;omega)) (av (λ s=>?_) λ s=>?_)))
    .refine al (q (f 0) h z) (am ?_);rw[jb t (b:=O) (by rw[g,show isN (kid t 0) Bg=O from h,show isN (kid (kid t 0) 1) nPk=O from o,s];rfl),af rfl,ae (by rw[d];decide)]
    .apply am;rw[jb t (b:=Y) (by rw[g,s,yN]),ae (by decide)]
   .apply am;rw[jb t (b:=Y) (by rw[g,show isN (kid (kid t 0) 1) nPk=Y from o,yN,mE]),ae (by decide)]
  .apply am;rw[jb t (b:=Y) (by rw[g,show isN (kid t 0) Bg=Y from h];rfl),ae (by decide)]
 .have w:=l (a:=2) (b:=2) (c:=3) (by rw[d];decide) rfl;refine al (rF) (ag (aY.2 (by omega)) (al (OM) (ai (by rw[d];rfl) (ai (by rw[d];rfl) (ai (by rw[d];rfl) (ai (by rw[d];rfl) (ag (by rw[d];rfl) (ah (qe _ _) ?_))))))));have g:ku t=(isN (kid t 0) vf&&isN (kid t 1) nPk&&cg (kid (kid t 0) 1) (kid (kid t 1) 0)):=by unfold ku;rw[ae (by rw[d];decide),ae (by rw[d];decide),ae (by rw[d];decide),af d]
  refine av (λ h=>?_) λ h=>?_
  .refine ah (qe _ _) (av (λ o=>?_) λ o=>?_)
   .refine al (p (f 0) h y) (al (H (f 1) o F) (ah (Hx _ _ (r 0 1) (r 1 0)) (av (λ s=>?_) λ s=>?_)))
    .refine al (q (f 0) h y) (am ?_);rw[jb t (b:=O) (by rw[g,show isN (kid t 0) vf=O from h,show isN (kid t 1) nPk=O from o,s];rfl),af rfl,ae (by rw[d];decide)]
    .apply am;rw[jb t (b:=Y) (by rw[g,s,yN]),ae (by decide)]
   .apply am;rw[jb t (b:=Y) (by rw[g,show isN (kid t 1) nPk=Y from o,yN,mE]),ae (by decide)]
  .apply am;rw[jb t (b:=Y) (by rw[g,show isN (kid t 0) vf=Y from h];rfl),ae (by decide)]
 .have w:=l (a:=1) (b:=1) (c:=3) (by rw[d];decide) rfl;refine al (rF) (ai (ba.2 (by omega)) (ai (by rw[d];rfl) (ai (by rw[d];rfl) (ai (by rw[d];rfl) (ai (by rw[d];rfl) (ai (by rw[d];rfl) (ag (by rw[d];rfl) (ah (qe _ _) ?_))))))));have g:ku t=isN (kid t 0) vf:=by unfold ku;rw[ae (by rw[d];decide),ae (by rw[d];decide),ae (by rw[d];decide),ae (by rw[d];decide),af d]
  refine av (λ h=>?_) λ h=>?_
  .refine al (q (f 0) h y) (am ?_);rw[jb t (g.trans h),af rfl,ae (by rw[d];decide)]
  .apply am;rw[jb t (g.trans h),ae (by decide)]
def TQ{t:T}(h:aW t=0):jC t=0:=by
 grind [aW]
theorem Ip(t:T):szP (ofP t).1<=400:=by
 unfold ofP;split
 .exact aG _
 .rename_i h;split
  .exact aG _
  .split
   .exact aG _
   .have c:=YL t [] 1;have b:=pF (yQ h);have a:szP ([]:aa Pw)=0:=rfl;grind
def qqn(a b:aa Pw):szP (qw a b).1<=160000:=by
 unfold qw;split
 .exact aG _
 .rename_i d;split
  .exact aG _
  .rename_i c;split
   .exact aG _
   .split
    .exact aG _
    .let⟨_,_,h,_⟩:=LN (yQ d) (yQ c) (X b);grind
def qpF(b e:T)(k:bT b=0)(n:size b<=1000000000:=by omega)(g:size e<=1000000000:=by omega):Ev (λ m _=>Fy m b e) (yi b e):=by
 apply aB;simp only[qhT,KF,ay]
 have j:∀(l:aa Pw) (x:T),szP l<=1000000000->Ev (λ m _=>cond (ieq (X l:Int) 0) (Z (x,(0:Int))) (ac (qP m l) λ v=>cond (ap (ieq v.2 0)) (Z (T.mk 0 [] 0 [],v.2)) (ac (Af m [101,120,112] [x,v.1]) λ w=>Z (w,0)))) (qh x l):=by
  intro l x o;unfold qh;refine av (λ h=>?_) λ h=>?_
  .rw[aD]at h;rw[ifP];exact au _
  .rw[aC]at h;rw[ifN];refine ah (WC l o) (av (λ h=>?_) λ h=>?_)
   .rw[bnt,aC]at h;rw[af h];exact au _
   .rw[bnf,aD]at h;rw[ifN];exact ah (qry _ _) (au _)
 unfold yi;refine ah (Oa e g) (av (λ h=>?_) λ h=>?_)
 .rw[bnt,aC]at h;rw[af h];exact au _
 rw[bnf,aD]at h;rw[ifN];refine ah (qe _ _) (av (λ f=>?_) λ f=>?_)
 .rw[af (show isN b mA=O from f)];have s:=rC b 1;refine al (uS (i:=1) k f (a:=2) (b:=2) (c:=1) (by decide) (by decide)) (ah (Oa _) (av (λ d=>?_) λ d=>?_))
  .rw[bnt,aC]at d;rw[af d];exact au _
  rw[bnf,aD]at d;rw[ifN];have r:=Ip (kid b 1);have q:=Ip e;have p:=qqn (ofP (kid b 1)).1 (ofP e).1;refine ah (qqd _ _) (av (λ d=>?_) λ d=>?_)
  .rw[bnt,aC]at d;rw[af d];exact au _
  rw[bnf,aD]at d;rw[ifN];exact al (uS (i:=0) k f (a:=2) (b:=2) (c:=1) (by decide) (by decide)) (j _ _ (by omega))
 .rw[ae (by rw[show isN b mA=Y from f];decide)];grind [Ip]
def qpc{t:T}(h:isD t.name=O):gu t=(rT t,0):=by unfold gu;rw[af h]
def qo0{t:T}(h:t.name=lr):gu t=yF t.kids:=by unfold gu;rw[ae (by rw[h];decide),af h]
def qoq{t:T}(h:t.name=mn\/t.name=gk\/t.name=mu):gu t=Bc t:=by
 unfold gu;rw[ae (by obtain h|h|h:=h<;>rw[h]<;>decide),ae (by obtain h|h|h:=h<;>rw[h]<;>decide),af h]
def qpG{t:T}(h:t.name=mA):gu t=yi (kid t 0) (kid t 1):=by
 unfold gu;rw[ae (by rw[h];decide),ae (by rw[h];decide),ae (by rw[h];decide),af h]
def qmY{t:T}(d:isD t.name=Y)(c:t.name≠lr)(b:¬ (t.name=mn\/t.name=gk\/t.name=mu))(a:t.name≠mA):gu t=(t,0):=by
 grind [gu]
def nks(l:aa T):aa T:=(l.map ch).map (·.1)
def YF(l:aa T):X (nks l)=X l:=by unfold nks;simp
def qrP(l:aa T):szL (nks l)<=402*szL l:=by
 induction l with
 |nil=>exact ak _
 |cons k l a=>
   have:=X3 k;show szL ((ch k).1::nks l)<=_;rw[eE,eE];omega
def qo3{l:aa T}{i:Nat}{x:T}(h:l[i]?=Z x):nks (l.take (i+1))=nks (l.take i)++[(ch x).1]:=by
 unfold nks;rw[oA h,eK,eK];rfl
def erN(l:aa T):Int:=((l.map ch).map (·.2)).foldl thn 0
def qpC{l:aa T}{i:Nat}{x:T}(h:l.drop i=x::l.drop (i+1)):erN (l.drop i)=if(ch x).2≠0 then(ch x).2 else erN (l.drop (i+1)):=by
 unfold erN;rw[h,aU,aU];by_cases a:(ch x).2=0
 .rw[ifN,a];rfl
 .rw[af a];exact fN _ a
def qqN{t:T}(a:t.kind=3):ch t=if erN t.kids≠0 then(zT,erN t.kids)else gu (apT t.name (nks t.kids)):=by rw[H9,ae (λ h=>h a)];rfl
def qqE{t:T}(b:t.kind=3)(c:bT t=0)(f:∀k∈t.kids,(ch k).2=0):bT (apT t.name (nks t.kids))=0/\∀k∈nks t.kids,bT k=0:=by
 let⟨d,g⟩:=As b c
 have a:∀k∈nks t.kids,bT k=0:=λ k a=>by
  obtain⟨q,e,rfl⟩:=bF.1 a;grind [qpI]
 exact⟨rB (Wy b d) a,a⟩
def qmp(t:T):size t<=2000->bT t=0->Ev (λ m _=>lI m t) (ch t):=by
 induction t using T.ind with
 |h t G=>
   intro hs F;have hl:=fE t;have hz:=cM t;apply aB;simp only[qg1,Di,ay];by_cases o:t.kind=3
   rotate_left
   .refine ag (bnt.2 (aC.2 o)) (am (Aw o).symm)
   apply ai (bnf.2 (aD.2 o));rw[qqN o];have z:=(As o F).2
   have u:=aV (P:=λ i=>(∀k∈t.kids.take i,(ch k).2=0)->Ev (λ m k=>sX m (lI m) k t.kids (X t.kids) i t.kind t.name t.sort t.kids 0 [] 0 3 t.name 0 [] (nks (t.kids.take i))) (if erN (t.kids.drop i)≠0 then(zT,erN (t.kids.drop i))else gu (apT t.name (nks t.kids)))) t.kids (by omega)
    (λ j r=>by
     apply aq;simp only[RZ,Dg,ay];apply ai j;rw[dg]at r |-
     rw[bR,ae (show ¬ erN []≠0 from λ h=>h rfl)];let⟨s,c2⟩:=qqE o F r;have s1:=qrP t.kids;have s2:szL t.kids+1=size t:=by unfold szL;omega
     have I:=YF t.kids;generalize nks t.kids=d at *;have H:T.mk 3 t.name 0 d=apT t.name d:=rfl;rw[H];have su:size (apT t.name d)=1+szL d:=cM _
     have f:isD t.name=O->Ev (λ m _=>ac (zp m (apT t.name d)) λ v=>Z (v,(0:Int))) (gu (apT t.name d)):=λ n=>by
      rw[qpc (show isD (apT t.name d).name=O from n)];exact ah (qlS _ rfl s n) (au _)
     have g:t.name=mn\/t.name=gk\/t.name=mu->Ev (λ m _=>ac (tU m (apT t.name d)) λ v=>cond (ap (ieq v.2 0)) (Z (T.mk 0 [] 0 [],v.2)) (ac (qP m v.1) λ w=>Z (w.1,w.2))) (gu (apT t.name d)):=λ q=>by
      rw[qoq (show(apT t.name d).name=mn\/(apT t.name d).name=gk\/(apT t.name d).name=mu from q)];unfold Bc;have B:=Ip (apT t.name d);refine ah (Oa _) (av (λ h=>?_) λ h=>?_)
      .rw[bnt,aC]at h;rw[af h];exact au _
      .rw[bnf,aD]at h;rw[ifN];exact ah (WC _) (au _)
     refine av (λ h=>f (by rw[cU.1 h];decide)) λ h1=>?_;refine av (λ h=>f (by rw[cU.1 h];decide)) λ h2=>?_;refine av (λ h=>f (by rw[cU.1 h];decide)) λ C=>?_;refine av (λ h=>f (by rw[cU.1 h];decide)) λ B=>?_;refine av (λ h=>f (by rw[cU.1 h];decide)) λ h5=>?_;refine av (λ h=>f (by rw[cU.1 h];decide)) λ h6=>?_;refine av (λ h=>?_) λ W=>?_
     .rw[qo0 (show(apT t.name d).name=lr from cU.1 h)];exact ah (qp0 d) (au _)
     refine av (λ h=>g (.inl (cU.1 h))) λ S=>?_;refine av (λ h=>g (.inr (.inl (cU.1 h)))) λ R=>?_;refine av (λ h=>g (.inr (.inr (cU.1 h)))) λ E=>?_;refine av (λ h=>?_) λ D=>?_
     .have e:t.name=mA:=cU.1 h;rw[qpG (show(apT t.name d).name=mA from e)];have p:isN (apT t.name d) mA=O:=ji.2 ⟨rfl,e⟩;have q0:=rC (apT t.name d) 0;have q1:=rC (apT t.name d) 1;refine al (uS (t:=apT t.name d) (i:=0) s p (a:=2) (b:=2) (c:=1) (by decide) (by decide)) (al (uS (t:=apT t.name d) (i:=1) s p (a:=2) (b:=2) (c:=1) (by decide) (by decide)) ?_);exact ah (qpF _ _ (pY kZ pU rfl s 0)) (au _)
     .rw[qmY (t:=apT t.name d) (show isD t.name=Y from by
         rw[<-vQ];intro n;unfold isD at n;simp only[gO,B1]at n;obtain ((((e|e)|e)|e)|e)|e:=n
         .exact di.1 h1 e
         .exact di.1 h2 e
         .exact di.1 C e
         .exact di.1 B e
         .exact di.1 h5 e
         .exact di.1 h6 e) (di.1 W) (λ h=>by obtain h|h|h:=h;exact di.1 S h;exact di.1 R h;exact di.1 E h) (di.1 D)]
      exact au _)
    (λ i x y n j Q N A r=>by
     apply aq;simp only[RZ,Dg,ay];have q:=aK y;have K:=dW t x q;rw[qpC n];refine ag j (al Q (ah (G x q (by omega) (z x q)) (av (λ h=>?_) λ h=>?_)))
     .rw[bnt,aC]at h;rw[af (show(if(ch x).2≠0 then(ch x).2 else erN (t.kids.drop (i+1)))≠0 from by rw[af h];exact h),af h];exact au _
     .rw[bnf,aD]at h;rw[ae (show ¬ (ch x).2≠0 from by omega)];have B:X (nks (t.kids.take i))<=X t.kids:=by rw[YF,bj];omega
      apply ag (bI)
      have A:=A λ k l=>by
       rw[oA y]at l;obtain l|l:=aR.1 l
       .exact r k l
       .rw[cQ.1 l];exact h
      rw[N];refine A.congr λ m k=>?_;rw[qo3 y])
   have M:=o;apply bd (L:=λ m k=>sX m (lI m) k t.kids (X t.kids) 0 t.kind t.name t.sort t.kids 0 [] 0 3 t.name 0 [] []);exact(u 0 (aG _)) (λ k l=>by rw[JH]at l;cases l)
def LU(t:T):xt t=if my t≠0 then(zT,my t)else if(ch t).2≠0 then(zT,(ch t).2)else if aW (ch t).1≠0 then(zT,aW (ch t).1)else ch t:=rfl
def qmg(t:T)(d:size t<=1000000000):Ev (λ m _=>EO m t) (xt t):=by
 apply aB;simp only[qgy,Kp,ay];rw[LU];refine ah (XP t d) (av (λ h=>?_) λ h=>?_)
 .rw[bnt,aC]at h;rw[af h];exact au _
 rw[bnf,aD]at h;rw[ifN];let⟨c,e⟩:=qne h;have f:=pF c;have g:=X3 t;refine ah (qmp t (by omega) e) (av (λ a=>?_) λ a=>?_)
 .rw[aD]at a;rw[ifN];refine ah (iN _) (av (λ b=>?_) λ b=>?_)
  .rw[bnt,aC]at b;rw[af b];exact au _
  .rw[bnf,aD]at b;rw[ifN];exact am (by rw[<-a])
 .rw[aC]at a;rw[af a];exact ag (bnt.2 (aC.2 a)) (au _)
def qlk(t:T):size (xt t).1<=400:=by
 rw[LU];have:=xD;split
 .show size zT<=_;omega
 .split
  .show size zT<=_;omega
  .split
   .show size zT<=_;omega
   .next h=>exact pF (yQ h)
end Go.AmZ
