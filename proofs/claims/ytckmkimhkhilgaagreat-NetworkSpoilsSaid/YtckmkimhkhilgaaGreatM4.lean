/- Part 4 of what the proofs stand on: plain functions of the program, and that they are its functions. -/
import Derived.Test.YtckmkimhkhilgaaGreatM3
import Derived.KernelRfl
import Derived.Test.YtckmkimhkhilgaaGreatProg
import Derived.Laws.OwnMore
import Derived.Deep.DeepAppendRoom
import Derived.ArgAppend
import Derived.Test.YtckmkimhkhilgaaGreatM2
import Derived.IntWalk
import Derived.Lib.Bytealg
set_option linter.unusedVariables false
set_option linter.unusedSimpArgs false
noncomputable section
namespace Go.AmZ
open Go Go.RowKit Go.GxZ Go.Sort Go.Proofs Go.Shelf
structure qH9 (w0:World) (blk:Nat) (et:TypeId) (vs:Array Value) (W:World):Prop where
 hb:W.heap[blk]?=some (.cells vs et (0,0))
 os:W.os=w0.os
 tape:W.tape=w0.tape
 output:W.output=w0.output
 size:w0.heap.size<=W.heap.size
 other:∀ b,b<w0.heap.size->b≠blk->W.heap[b]?=w0.heap[b]?
 drawn:w0.drawn<=W.drawn
theorem qH9.refl{w:World}{a:Nat}{b:TypeId}{vs:Array Value}(h:w.heap[a]?=some (.cells vs b (0,0))):qH9 w a b vs w:=⟨h,rfl,rfl,rfl,wa _,λ _ _ _=>rfl,wa _⟩
theorem sort_blks{w:World}{blk:Nat}{et:TypeId}{vs:Array Value}(hb:w.heap[blk]?=some (.cells vs et (0,0))){α : Type}[Inhabited α](enc : α -> List Value)(k m:Nat)(dk:Array α)(os:Array Obj) :
  qH9 w blk et (putCells id 0 (flatK enc k dk) vs) (sortWorldK enc k w blk 0 m dk os):=by
 have hlt:blk<w.heap.size:=(Array.getElem?_eq_some_iff.1 hb).1;have hh:(sortWorldK enc k w blk 0 m dk os).heap=w.heap.modify blk (onCells (putCells id 0 (flatK enc k dk)))++os:=rfl;refine⟨?_,rfl,rfl,rfl,?_,λ b hb' hn=>?_,kF _ _⟩
 ·rw[hh,Array.getElem?_append_left (by simpa using hlt),Array.getElem?_modify,if_pos rfl,hb];rfl
 ·rw[hh,xB,Array.size_modify];exact kF _ _
 ·rw[hh,Array.getElem?_append_left (by simpa using hb'),Array.getElem?_modify,if_neg (xI hn)]
theorem qHx.grow{W w':World}(h:qHx W w'):∃ q a,w'=Sort.grow (W.drewN q) a:=by
 refine⟨w'.drawn-W.drawn,w'.heap.extract W.heap.size w'.heap.size,?_⟩
 have c:w'.heap=W.heap++w'.heap.extract W.heap.size w'.heap.size:=by
  apply Array.ext_getElem?;intro i;by_cases b:i<W.heap.size
  ·rw[Array.getElem?_append_left b];exact h.block i b
  ·rw[Array.getElem?_append_right (by omega),Array.getElem?_extract];split
   ·congr 1;omega
   ·rw[Array.getElem?_eq_none (by omega)]
 have d:W.drawn+(w'.drawn-W.drawn)=w'.drawn:=Nat.add_sub_cancel' h.drawn;obtain⟨g,f,e,_,_,_⟩:=h;cases w';cases W;simp only[Sort.grow,World.drewN]at *;rw[<- c,d,g,f,e]
def qbO(vs:Array Value)(k p:Nat):List Value:=(vs.toList.drop (p*k)).take k
theorem qok{vs:Array Value}{k p j:Nat}(a:j<k):(qbO vs k p)[j]?=vs[p*k+j]?:=by
 unfold qbO;rw[List.getElem?_take,if_pos a,List.getElem?_drop,Array.getElem?_toList]
theorem qrD{vs:Array Value}{k p n:Nat}(a:p<n)(b:n*k<=vs.size):(qbO vs k p).length=k:=by
 unfold qbO;have:(p+1)*k<=n*k:=wn _ a;rw[kV]at this;rw[wo,wS,wM];omega
theorem qyC{Γ : Gh}{τ : Ty}{c:List (List AV)}{l:List (Val τ)}{vs:Array Value}{n:Nat}(v:c.length=n)(B:∀ e∈c,e.length = τ.size)(w:za (yd τ) c=some l)(C:yH Γ τ.size c (vs.toList.take (n * τ.size)))(A:n * τ.size<=vs.size)
  {p:Nat} {x:Val τ} (t:l[p]?=some x):RepL Γ (qf τ x) (qbO vs τ.size p)/\∀ u∈qbO vs τ.size p,u.oneCell'=true:=by
 have o:l.length=n:=(qT w).symm.trans v;have h:p<n:=by rw[<- o];exact getElem?_lt t
 have b:p<c.length:=by rw[v];exact h
 obtain⟨x',g,r⟩:=JK w (List.getElem?_eq_getElem b);rw[t]at g;cases g;have f:=B _ (wW b);have a:=qrD (k := τ.size) h A
 have get:∀ j,j < τ.size->∃ u,(qbO vs τ.size p)[j]?=some u/\Rep Γ (c[p][j]?.getD .dead) u/\u.oneCell'=true:=by
  intro j d;have i:j<c[p].length:=by rw[f];exact d
  obtain⟨u,u1,u2,u3⟩:=C p c[p] j _ (List.getElem?_eq_getElem b) (List.getElem?_eq_getElem i);refine⟨u,?_,?_,u3⟩
  ·rw[qok d,<- Array.getElem?_toList];rw[List.getElem?_take]at u1;split at u1
   ·exact u1
   ·cases u1
  ·rw[List.getElem?_eq_getElem i];exact u2
 constructor
 ·refine(qm5 r).rep ⟨by rw[a,f],λ j y u s m=>?_⟩;have d:j < τ.size:=by rw[<- f];exact getElem?_lt s
  obtain⟨z,u1,u2,_⟩:=get j d;rw[m]at u1;cases u1;rw[s]at u2;exact u2
 ·intro u m;obtain⟨j,d⟩:=List.getElem?_of_mem m;have q:j < τ.size:=by rw[<- a];exact getElem?_lt d
  obtain⟨z,u1,_,u3⟩:=get j q;rw[d]at u1;cases u1;exact u3
theorem qn4(j k n:Nat)(h:j<n*k):j / k<n/\j / k*k+j % k=j/\j % k<k:=by
 have b:0<k:=by
  rcases vq k with a | a
  ·rw[a,Nat.mul_zero]at h;exact absurd h (wL _)
  ·exact a
 refine⟨(xT b).2 h,?_,xP _ b⟩;rw[xF];exact vn j k
set_option maxHeartbeats 1000000 in
theorem qGq {P:Program} {ρ : Ren} (L:SlLaysF0.n6 P ρ) {τ : Ty} {g:FuncId} (hag:∀ v,yG τ v = .agg (qf τ v)) (aE:∀ w,(isAgg (ρ.t 24)).run P w = .ok true w) (zE:∀ w,(Go.sizeOf (ρ.t 24)).run P w = .ok τ.size w)
  {F:Val τ -> Val τ -> Option Int} (hF:Fn2 P g τ (λ c:Int => .int .i64 c) F) (hf:qfJ P (ρ.f 6)) {fn:List (Val τ)->Option (List (Val τ))} (hfn:∀ l r,fn l=some r->qqM F l=some r) (hk1' : τ.size≠1:=by first | assumption | decide) :
  qV P (ρ.f 6) (mgP ⟨τ,[.clo g 0],λ x=>fn x.1⟩):=by
 refine ⟨hf,λ Γ σ w args vals r hi hr hp=>?_⟩;unfold mgP at hp;split at hp
 case h_2=>cases hp
 rename_i x hx;split at hp
 case h_2=>cases hp
 rename_i v hv;split at hp
 case h_2=>cases hp
 rename_i hlen;obtain ⟨l,_⟩:=x;have hv:=hfn _ _ hv;have hlen:v.length=l.length:=wk hlen;obtain ⟨y0,ys0,nr,rfl,hy0,hx1⟩:=qtM hx;obtain ⟨ys1,rfl,hx2⟩:=qDb (g:=g) (r:=[]) hx1;obtain ⟨rfl,hbx,hrw⟩:=qkI hx2;clear hx hx1 hx2;obtain ⟨u0,r0,rfl,hu0,hr⟩:=hr.uncons;obtain ⟨u1,r1,rfl,hu1,hr⟩:=hr.uncons;have:=hr.nil_inv;subst this
 have hu1:u1 = .func (.func g) #[] #[]:=by
  cases hu1 with
  | fn _ _ us hn _=>obtain rfl:=wj hn;rfl
 subst hu1;have hb0 : σ.bx=[]:=wj hbx.symm;have none0:∀ (p:Option Addr) (cap:Nat),Calls P (ρ.f 6) #[.slice p 0 cap,.func (.func g) #[] #[]] w λ e w'=>e = .returned (.tuple #[])/\w'=w := λ p cap=>AnyF.slices_SortFunc_none L p cap _ w;have tup:∀ Γ,Rep Γ (.tup []) (.tuple #[]) := λ Γ => .tup [] [] rfl (λ i x u h=>by cases h);rcases qgb hy0 with ⟨hnr,R,rfl,hR,hRk,hRf,hRd⟩ | ⟨hnr,hl0,hy⟩
 ·have hrw1 : σ.rw=[R]:=by
    rw [hnr] at hrw
    match hq : σ.rw,hrw with
    | [Q],_=>rw [hq] at hR;cases hR;rfl
  rw [hb0,hrw1] at hp;cases hp;have H:=hi.row 0 R hR;have hcl:R.c.length=l.length:=qT hRd;have hlk:∀ e∈R.c,e.length = τ.size := λ e he=>(H.len e he).trans hRk
  have qnM:qS { σ with wr:=[],wrr:=[] } ⟨[],[⟨R.k,v.map (qf τ),R.ver,R.fz,R.off⟩],[],[0]⟩ :=
   ⟨by show σ.bx.length<=0;rw [hb0];exact wa _,by show σ.rw.length<=1;rw [hrw1];exact wa _,λ i hi _=>(by have hi:i < σ.bx.length:=hi;rw [hb0] at hi;exact absurd hi (wL _)),λ i hi hn=>(by
    have hi:i < σ.rw.length:=hi;rw [hrw1] at hi;have hi:i<1:=hi;obtain rfl:i=0:=by omega
    exact absurd (wF.2 rfl) hn),λ i h=>(by cases h),λ i h=>(by cases h)⟩
  obtain ⟨p,cap,rfl,hcap,hrm⟩:=qvD hi hR hRk hRf hu0;by_cases hl0:l=[]
  ·subst hl0;have hc0:R.c=[]:=wj hcl;have hv0:v=[]:=wj hlen;subst hv0;rw [hcl];refine (none0 p cap).mono ?_;rintro e w' ⟨rfl,rfl⟩;refine ⟨_,Γ,rfl,.refl _ _,?_,tup _,qnM⟩
   have:(⟨[],[⟨R.k,([]:List (Val τ)).map (qf τ),R.ver,R.fz,R.off⟩],[],[0]⟩:St)=⟨[],[R],[],[0]⟩:=by
    show (⟨[],[⟨R.k,[],R.ver,R.fz,R.off⟩],[],[0]⟩:St)=_;rw [<- hc0]
   show Inv Γ ⟨[],[⟨R.k,([]:List (Val τ)).map (qf τ),R.ver,R.fz,R.off⟩],[],[0]⟩ w';rw [this];exact hi.wr hb0.symm hrw1.symm
  ·have hlpos:0<l.length:=xd.2 hl0;rcases hrm with h0 | ⟨rfl,hz,vs,et,hvs,hvsz,hfit,hca,hxl,h1⟩
   ·omega
   obtain ⟨n,hn⟩:∃ n,n=l.length:=⟨_,rfl⟩
   have hnc:R.c.length=n:=hcl.trans hn.symm;rw [hnc] at hca hxl h1 hcap |-
   have hns:n * τ.size<=vs.size:=wD (wn _ hcap) hfit;have hsz0:0 < τ.size:=waG τ
   have hv':Nat.ble l.length 100000=true/\qcu F l=true/\qrA l.length (ltOf (Jh F l))=true/\v=pick l (qaI F l):=by
    cases l with
    | nil=>exact absurd rfl hl0
    | cons y l =>
      have hv:cond _ _ _=some v:=hv;cases hb:(Nat.ble (y::l).length 100000&&(qcu F (y::l)&&qrA (y::l).length (ltOf (Jh F (y::l))))) with
      | false=>unfold qqM at hv;rw [hb] at hv;cases hv
      | true =>
        have hb':=hb;simp only [wd] at hb';unfold qqM at hv;rw [hb] at hv;cases hv;exact ⟨hb'.1,hb'.2.1,hb'.2.2,rfl⟩
   obtain ⟨v1,v2,v3,v4⟩:=hv';have v1:l.length<=100000:=kO v1;have hO:SWO (ltOf (Jh F l)):=qLQ hlpos (λ i j=>by unfold ltOf;rw [qJn]) v3;obtain ⟨hperm,_⟩:=qrp F l hO;have hixlt:∀ i∈qaI F l,i<l.length := λ i hi=>kS.1 (hperm.mem_iff.1 hi);have hixlen:(qaI F l).length=l.length:=by rw [hperm.length_eq,xC]
   have hER:∀ {q:Nat} {y:Val τ},l[q]? = some y->RepL Γ (qf τ y) (qbO vs τ.size q)/\∀ u∈qbO vs τ.size q,u.oneCell'=true := λ hq=>qyC hnc hlk hRd hca hns hq;have hlast:∀ i,i % n<n := λ i=>xP _ (by omega);obtain ⟨enc,henc⟩:∃ enc:Nat->List Value,enc = λ i=>qbO vs τ.size (i % n):=⟨_,rfl⟩
   have hek:∀ i,(enc i).length = τ.size := λ i=>by rw [henc];exact qrD (hlast i) hns
   have hlget:∀ i,∃ y,l[i % n]? = some y := λ i=>⟨_,List.getElem?_eq_getElem (by rw [<- hn];exact hlast i)⟩
   have he1:∀ i,∀ u∈enc i,u.oneCell'=true := λ i u hu=>by
    rw [henc] at hu;obtain ⟨y,hy⟩:=hlget i;exact (hER hy).2 u hu
   have hrange:(Array.range n).size=n:=vG;have hvsb:w.heap[Γ.cur 0]? = some (.cells vs et (0,0)):=hvs;have hblk : Γ.cur 0<w.heap.size:=(Array.getElem?_eq_some_iff.1 hvsb).1;have hmem0:∀ off,Γ.mem (Γ.cur 0) off=none := λ off=>H.un hz off (by rw [hRf.1,kQ,H.off hRf.2];exact we _)
   have hH:HoldsK enc τ.size w (Γ.cur 0) 0 (Array.range n):=by
    intro j hj;rw [size_flatK,hrange] at hj;obtain ⟨q1,q2,q3⟩:=qn4 j τ.size n hj;have hjs:j<vs.size:=wB hj hns;constructor
    ·rw [get_flatK _ _ _ _ (by rw [hrange];exact hj)];have e1:(Array.range n)[j / τ.size]! = j / τ.size:=by rw [getElem!_pos _ _ (by rw [hrange];exact q1)];simp
     rw [e1,henc];show _=some ((qbO vs τ.size (j / τ.size % n))[j % τ.size]!);rw [xp q1];have e2:(qbO vs τ.size (j / τ.size))[j % τ.size]? = some vs[j]:=by rw [qok q3,q2];exact Array.getElem?_eq_getElem hjs
     rw [wH,Blk.cell hvs,List.getElem!_eq_getElem?_getD,e2,Array.getElem?_eq_getElem hjs];rfl
    ·exact Blk.free hvs _
   have hcmp:CmpLays P g #[] enc τ.size (Jh F l) (Γ.cur 0) 0 (Array.range n).size w:=by
    intro m os dk hdk x y;have B:=sort_blks hvsb enc τ.size m dk os;obtain ⟨W,hW⟩:∃ W,W=sortWorldK enc τ.size w (Γ.cur 0) 0 m dk os:=⟨_,rfl⟩
    rw [<- hW] at B |-
    have hiW:Inv (bare Γ) emp W:=hi.bare λ b o u e=>by
     have hne:b ≠ Γ.cur 0 := λ hb=>by rw [hb,hmem0] at e;cases e
     have hc:=(hi.mem b o u e).1;have hblt:=hi.mem_lt e;rw [show W.cell? _=w.cell? _ from World.cell?_of_block (B.other b hblt hne)];exact hc
    have rep:∀ (i:Nat) (y:Val τ),l[i % n]? = some y->Rep (bare Γ) (yG τ y) (.agg (enc i).toArray) := λ i y hy=>by
     obtain ⟨q1,q2⟩:=hER hy;rw [hag];have:enc i=qbO vs τ.size (i % n):=by rw [henc]
     rw [this];refine .agg _ _ q1.len q2 λ j z u a b=>(q1.rep j z u a b).bare (zm τ y z (wb a))
    obtain ⟨lx,hx⟩:=hlget x;obtain ⟨ly,hy⟩:=hlget y;have hsome:=wv.1 (wv.1 v2 lx (wb hx)) ly (wb hy);obtain ⟨c,hc⟩:=wah.1 hsome
    have hcf:Jh F l x y=c:=by
     unfold Jh;rw [<- hn,hx,hy];simp only;rw [hc];rfl
    rw [hcf];have hcall:=hF.2 hiW (rep x lx hx) (rep y ly hy) hc;refine Calls.mono (by simpa using hcall) ?_;rintro e w' ⟨rfl,hid⟩;exact ⟨rfl,hid.grow⟩
   have hcall:=AnyQ.slices_SortFunc_eq L τ.size aE zE enc hek he1 (Jh F l) hO g #[] (Γ.cur 0) 0 cap (Array.range n) w (λ args w=>qhC hF.1 args w) hcmp hH hblk (by rw [hrange];omega);rw [hrange] at hcall;refine Calls.mono hcall ?_;rintro e w' ⟨rfl,m,os,hw'⟩;have B:=sort_blks hvsb enc τ.size m (pdq (ltOf (Jh F l)) (Array.range n) 0 n (Lib.bitLen n) true true) os;rw [<- hw'] at B;have hix:qaI F l=(pdq (ltOf (Jh F l)) (Array.range n) 0 n (Lib.bitLen n) true true).toList:=by unfold qaI;rw [hn]
   obtain ⟨dk,hdk⟩:∃ dk,dk=pdq (ltOf (Jh F l)) (Array.range n) 0 n (Lib.bitLen n) true true:=⟨_,rfl⟩
   rw [<- hdk] at B hix;have hdks:dk.size=n:=by rw [<- wM,<- hix,hixlen,hn]
   have hvlen:(v.map (qf τ)).length=n:=by rw [wC,hlen,hn]
   have hflat:(flatK enc τ.size dk).size=n * τ.size:=by rw [size_flatK,hdks]
   have hpsz:(putCells id 0 (flatK enc τ.size dk) vs).size=vs.size:=by unfold putCells;rw [waa]
   obtain ⟨Γ',x1,x2,_⟩:=qrZ hi hR (H.off hRf.2) (R':=⟨R.k,v.map (qf τ),R.ver,R.fz,R.off⟩) (by rw [hRf.1];exact we _) rfl (g := Γ.cur 0) (vs:=putCells id 0 (flatK enc τ.size dk) vs) (e:=et) (.inr ⟨rfl,rfl,hpsz.trans hvsz⟩)
    (λ e he=>by obtain ⟨y,_,rfl⟩:=wx.1 he;rw [jq,hRk]) (λ e he=>by obtain ⟨y,_,rfl⟩:=wx.1 he;exact zm τ y) (by show R.fz<=_;rw [hRf.1];exact we _) (qys _) (λ _=>rfl) B.hb
    (by show (v.map (qf τ)).length*R.k<=_;rw [hvlen,hRk,hpsz];exact hns)
    (λ off _=>hmem0 off)
    (λ i e j x he hx=>by
     have he:(v.map (qf τ))[i]? = some e:=he;have hin:i<n:=by rw [<- hvlen];exact getElem?_lt he
     rw [List.getElem?_map,v4,qrM hixlt] at he;have hixi:(qaI F l)[i]? = some dk[i]:=by rw [hix,Array.getElem?_toList];exact Array.getElem?_eq_getElem (by omega)
     rw [hixi] at he
     obtain ⟨y,hy,rfl⟩:∃ y,l[dk[i]]? = some y/\qf τ y=e:=by
      cases hq:l[dk[i]]? with
      | none=>simp [hq] at he
      | some y=>simp [hq] at he;exact ⟨y,rfl,he⟩
     have hdl:dk[i]<n:=wB (getElem?_lt hy) (vN hn.symm);obtain ⟨q1,q2⟩:=hER hy;have hj:j < τ.size:=by rw [<- jq τ y];exact getElem?_lt hx
     obtain ⟨u,hu,hrep⟩:=q1.get hx;refine ⟨u,?_,hrep,q2 u (wb hu)⟩;rw [hRk]
     have hlt:i * τ.size+j<n * τ.size:=by
      have:(i+1) * τ.size<=n * τ.size:=wn _ hin;rw [kV] at this;omega
     unfold putCells;rw [Array.getElem?_mapIdx,Array.getElem?_eq_getElem (wB hlt hns),kL,if_pos ⟨we _,by rw [hflat,wH];exact hlt⟩,Nat.sub_zero,id,get_flatK _ _ _ _ (by rw [hdks];exact hlt)];have e1:(i * τ.size+j) / τ.size=i:=by rw [xF,Nat.mul_add_div hsz0,Nat.div_eq_of_lt hj,wP]
     have e2:(i * τ.size+j) % τ.size=j:=by rw [xF,Nat.mul_add_mod,xp hj]
     rw [e1,e2,getElem!_pos dk i (by omega),henc];show some ((qbO vs τ.size (dk[i] % n))[j]!)=_;rw [xp hdl,List.getElem!_eq_getElem?_getD,hu];rfl)
    (λ b o u hm=>by
     have hne:b ≠ Γ.cur 0 := λ hb=>by rw [hb,hmem0] at hm;cases hm
     rw [show w'.cell? _=w.cell? _ from World.cell?_of_block (B.other b (hi.mem_lt hm) hne)];exact (hi.mem b o u hm).1)
    (λ b hb hor=>B.other b hb (hor.elim id λ h0=>absurd h0 hz)) (.inl ⟨rfl,hz⟩) B.os B.tape B.output B.size B.drawn [0]
   refine ⟨_,Γ',rfl,x1,?_,tup _,qnM⟩;refine x2.wr ?_ ?_
   ·exact hb0.symm
   ·show [(⟨R.k,v.map (qf τ),R.ver,R.fz,R.off⟩:Row)] = σ.rw.set 0 _;rw [hrw1];rfl
 ·have hrw0 : σ.rw=[]:=by rw [hnr] at hrw;exact wj hrw.symm
  rw [hb0,hrw0] at hp;cases hp
  have hfin:∀ (p:Option Addr) (cap:Nat),Q8 P Γ σ w (ρ.f 6) [.slice p 0 cap,.func (.func g) #[] #[]] (.tup [],none) := λ p cap=>by
   refine (none0 p cap).mono ?_;rintro e w' ⟨rfl,rfl⟩;exact ⟨_,Γ,rfl,.refl _ _,hi,tup _,.refl _⟩
  rcases hy with rfl | ⟨f,rfl,hf2⟩
  ·have hu0:=zk hu0;subst hu0;exact hfin none 0
  ·cases hu0 with
   | sl _ _ _ a n cap b o us hn _ _ _ _ _ _ _ _ =>
     have hn:n=0:=hn;subst hn;exact hfin a cap
end Go.AmZ
namespace Go.Proofs.YtckmkimhkhilgaaGreat
open Go Go.RowKit Go.GxZ Go.Sort Go.Proofs Go.Shelf Go.Lib
def zy(a:Nat->Nat->Bool)(n:Nat):List Nat:=(List.range n).filter λ i=>decide (i=0) || !a i (i-1)
theorem qBo{a:Nat->Nat->Bool}{n:Nat}(h:a n (n-1)=false):zy a (n+1)=zy a n++[n]:=by
 unfold zy;rw[List.range_succ,vt];simp[h]
theorem qrt{a:Nat->Nat->Bool}{n:Nat}(b:0<n)(h:a n (n-1)=true):zy a (n+1)=zy a n:=by
 unfold zy;rw[List.range_succ,vt];have:¬ n=0:=by omega
 simp[h,this]
theorem quy{b:Nat->Nat->Bool}{n:Nat}(h:∀ i,1<=i->i<n->b i (i-1)=false):zy b n=List.range n:=by
 unfold zy;rw[List.filter_eq_self];intro i a;have a:=kS.1 a;by_cases c:i=0
 ·simp[c]
 ·rw[h i (by omega) a];simp
theorem qBy{α : Type}[Inhabited α](enc : α -> List Value)(k:Nat)(g:∀ x,(enc x).length=k)(d:Array α)(i:Nat)(x : α)(h:i<d.size):setMany (flatK enc k d) (i*k) (enc x)=flatK enc k (d.setIfInBounds i x):=by
 refine ext_get! (by simp) λ t a=>?_;rw[size_setMany,size_flatK]at a;rw[get_setMany _ _ _ _ (by rw[size_flatK];exact a),g,get_flatK _ _ _ _ a,get_flatK _ _ _ _ (by simpa using a)]
 have b:0<k:=by
  rcases vq k with f | f
  ·rw[f,Nat.mul_zero]at a;exact absurd a (wL _)
  ·exact f
 by_cases c:i*k<=t/\t<i*k+k
 ·rw[if_pos c];have e:=(blk_iff k i t b).1 c;rw[e,getElem!_set_same d i x h];congr 1;have:=vn t k;rw[e]at this;have l:k*i=i*k:=xF _ _;omega
 ·rw[if_neg c,getElem!_set_other d i _ x λ j=>c ((blk_iff k i t b).2 j)]
theorem qG3{α : Type}[Inhabited α]{w:World}{enc : α -> List Value}{k blk:Nat}(hk:∀ x,(enc x).length=k)(m:Nat)(dk:Array α)(os:Array Obj)(hblk:blk<w.heap.size)(i:Nat)(x : α)(hi:i<dk.size) :
  (sortWorldK enc k w blk 0 m dk os).setCells blk (i*k) (enc x)=sortWorldK enc k w blk 0 m (dk.setIfInBounds i x) os:=by
 have hb:i*k+(enc x).length<=(flatK enc k dk).size:=by
  rw[hk,size_flatK];have:=wn k (show i+1<=dk.size from hi)
  rwa [kV]at this
 unfold sortWorldK;rw[setCells_grow os blk _ _ _ (by rw[size_putRowK];exact hblk)];congr 1;unfold putRowK;have:=setCells_putRow (Sort.ahead w m) blk 0 (enc x) (i*k) (flatK enc k dk) hb;rw[wH]at this;rw[this,qBy enc k hk dk i x hi]
variable {P:Program}
set_option maxHeartbeats 4000000 in
set_option maxRecDepth 1000000 in
theorem qFv(i:P.funcs[108]?=some Tryz.f108)(a:P.follows .mixedOrders=true)
  (t0:P.underlying 0=some (TypeDesc.tuple #[])) (y:∀ w,(isAgg 0).run P w = .ok false w) (o:∀ w,(Go.sizeOf 0).run P w = .ok 1 w) (s:∀ w,(zeroValue 0).run P w = .ok (Value.tuple #[]) w)
  (u:P.underlying 3=some (TypeDesc.int IntKind.i64)) (x:∀ w,(isAgg 3).run P w = .ok false w) (n:∀ w,(Go.sizeOf 3).run P w = .ok 1 w) (r:∀ w,(zeroValue 3).run P w = .ok (Value.int IntKind.i64 0) w)
  (t:P.underlying 4=some (TypeDesc.bool)) (v:∀ w,(isAgg 4).run P w = .ok false w) (m:∀ w,(Go.sizeOf 4).run P w = .ok 1 w) (q:∀ w,(zeroValue 4).run P w = .ok (Value.bool false) w)
  (h:P.underlying 22=some (TypeDesc.slice 24)) (l:∀ w,(isAgg 22).run P w = .ok false w) (c:∀ w,(Go.sizeOf 22).run P w = .ok 1 w) (f:∀ w,(zeroValue 22).run P w = .ok (Value.slice none 0 0) w)
  (g:P.underlying 41=some (TypeDesc.func #[24,24] #[4] false)) (k:∀ w,(isAgg 41).run P w = .ok false w) (b:∀ w,(Go.sizeOf 41).run P w = .ok 1 w) (d:∀ w,(zeroValue 41).run P w = .ok (Value.nilFunc) w)
  (p:Option Addr) (cap:Nat) (j:Value) (w:World) :
  Calls P 108 #[.slice p 0 cap,j] w λ e w'=>e = .returned (.slice p 0 cap)/\w'=w:=by
 go_enter i,Tryz.ntmps108
 go_wp2
 go_ret
 exact⟨rfl,rfl⟩
set_option maxHeartbeats 4000000 in
set_option maxRecDepth 1000000 in
theorem qGx (hF:P.funcs[108]? = some Tryz.f108) (mixed:P.follows .mixedOrders=true)
  (t0:P.underlying 0=some (TypeDesc.tuple #[])) (a0:∀ w,(isAgg 0).run P w = .ok false w) (z0:∀ w,(Go.sizeOf 0).run P w = .ok 1 w) (v0:∀ w,(zeroValue 0).run P w = .ok (Value.tuple #[]) w)
  (t3:P.underlying 3=some (TypeDesc.int IntKind.i64)) (a3:∀ w,(isAgg 3).run P w = .ok false w) (z3:∀ w,(Go.sizeOf 3).run P w = .ok 1 w) (v3:∀ w,(zeroValue 3).run P w = .ok (Value.int IntKind.i64 0) w)
  (t4:P.underlying 4=some (TypeDesc.bool)) (a4:∀ w,(isAgg 4).run P w = .ok false w) (z4:∀ w,(Go.sizeOf 4).run P w = .ok 1 w) (v4:∀ w,(zeroValue 4).run P w = .ok (Value.bool false) w)
  (t22:P.underlying 22=some (TypeDesc.slice 24)) (a22:∀ w,(isAgg 22).run P w = .ok false w) (z22:∀ w,(Go.sizeOf 22).run P w = .ok 1 w) (v22:∀ w,(zeroValue 22).run P w = .ok (Value.slice none 0 0) w)
  (t36:P.underlying 41=some (TypeDesc.func #[24,24] #[4] false)) (a36:∀ w,(isAgg 41).run P w = .ok false w) (z36:∀ w,(Go.sizeOf 41).run P w = .ok 1 w) (v36:∀ w,(zeroValue 41).run P w = .ok (Value.nilFunc) w)
  (k:Nat) (hk0:0<k) (aE:∀ w,(isAgg 24).run P w = .ok true w) (zE:∀ w,(Go.sizeOf 24).run P w = .ok k w) (zv:Value) (vE:∀ w,(zeroValue 24).run P w = .ok zv w) (hzk:zv.cells.size=k) (hz1:∀ n,∀ v∈(Builtin.zeroCells zv.cells n).toList,v.oneCell'=true)
  (w:World) (blk n cap:Nat) (et:TypeId) (vs:Array Value) (q:Nat) (hbk:w.heap[blk]? = some (.cells vs et (0,0))) (hcs:cap*k<=vs.size) (hnc:n<=cap) (hn:n<=100000) (h0n:0<n)
  (enc:Nat->List Value) (hk:∀ x,(enc x).length=k) (h1:∀ x,∀ v∈enc x,v.oneCell'=true) (hH:HoldsK enc k w blk 0 (Array.range n))
  (eg:∀ args w,(callFunc q args).run P w = .ok (.enter q args) w) (ef:Nat->Nat->Bool)
  (heq:∀ (m:Nat) (os:Array Obj) (dk:Array Nat),dk.size=n->∀ x y,Calls P q #[.agg (enc x).toArray,.agg (enc y).toArray] (sortWorldK enc k w blk 0 m dk os) λ e w'=>e = .returned (.bool (ef x y))/\∃ q' os',w'=grow ((sortWorldK enc k w blk 0 m dk os).drewN q') os') :
  Calls P 108 #[.slice (some ⟨blk,0,none⟩) n cap,.func (.func q) #[] #[]] w λ e w'=>e = .returned (.slice (some ⟨blk,0,none⟩) (zy ef n).length cap) /\
   ∃ (dk:Array Nat) (m:Nat) (os:Array Obj) (new:List Value),dk.size=n/\dk.toList.take (zy ef n).length=zy ef n/\(w'=sortWorldK enc k w blk 0 m dk os\/(new.take ((zy ef n).length*k)=(putCells id 0 (flatK enc k dk) vs).toList.take ((zy ef n).length*k)/\new.length=vs.size/\w'=(sortWorldK enc k w blk 0 m dk os).setRow blk new.toArray)):=by
 have u22:=run_underlying t22;have hblk:blk<w.heap.size:=(Array.getElem?_eq_some_iff.1 hbk).1;have hrs:(Array.range n).size=n:=vG;have HC:Aside _:=heq;have HST:Hid (w=sortWorldK enc k w blk 0 0 (Array.range n) #[]):=by show w=_;unfold sortWorldK;rw [grow_empty];exact (putRowK_self enc k w blk 0 _ hH).symm
 have HH:Hid (HoldsK enc k w blk 0 (Array.range n)):=hH;have HK:Hid (∀ x,(enc x).length=k):=hk;have H1:Hid (∀ x,∀ v∈enc x,v.oneCell'=true):=h1;have HBK:Hid (w.heap[blk]? = some (.cells vs et (0,0))):=hbk;have HVE:Aside _:=vE;have HZ1:Aside _:=hz1;have HZK:=Lib.hid hzk;have HCS:=Lib.hid hcs;clear heq hH hk h1 hbk vE hz1 hzk hcs;have hnz:(n:Int)<=100000:=by omega
 by_cases hn2:n<2
 ·have hn1:n=1:=by omega
  subst hn1;have hci:zy ef 1=[0]:=by unfold zy;simp
  have HCI:=Lib.hid hci;clear hci
  go_enter hF,Tryz.ntmps108
  go_wp2
  go_ret
  rw [HCI.out];exact ⟨rfl,Array.range 1,0,#[],[],hrs,by simp,.inl HST.out⟩
 ·have hn2z:¬ ((n:Int)<2):=by omega
  go_enter hF,Tryz.ntmps108
  go_wp2
  go_loopg [5] n (λ g1 vi wr=>∃ (i m:Nat) (os:Array Obj),vi = .int .i64 i/\1<=i/\i<=n/\n-i<=g1/\wr=sortWorldK enc k w blk 0 m (Array.range n) os/\Hid (∀ j,1<=j->j<i->ef j (j-1)=false))
  case atStart=>exact ⟨1,0,#[],rfl,wa _,by omega,by omega,HST.out,λ j h1 h2=>by omega⟩
  case round =>
   obtain ⟨i,m,os,rfl,hi1,hin,hg1,rfl,HE⟩:=hrel;by_cases hlt:i<n
   ·have hltz:(i:Int)<(n:Int):=by omega
    obtain ⟨ip,rfl⟩:∃ ip,i=ip+1:=⟨i-1,by omega⟩
    have hwp:IntKind.i64.wrap (ip:Int)=(ip:Int):=by rw [IntKind.wrap_i64];omega
    have jz1:(ip:Int)<(n:Int):=by omega
    have p0:(0:Int)<=(ip:Int)+1:=by omega
    have e0:((ip:Int)+1).toNat=ip+1:=by omega
    have r1:(Array.range n)[ip+1]! = ip+1:=by rw [getElem!_pos _ _ (by rw [hrs];exact hlt)];simp
    have r0:(Array.range n)[ip]! = ip:=by rw [getElem!_pos _ _ (by rw [hrs];omega)];simp
    have hcls:∀ n' os',grow ((sortWorldK enc k w blk 0 m (Array.range n) os).drewN n') os'=sortWorldK enc k w blk 0 (m+n') (Array.range n) (os++os') := λ n' os'=>sortWorldK_grown_c enc k w blk 0 m n' _ os os';have hHc:∀ n' os',HoldsK enc k (grow ((sortWorldK enc k w blk 0 m (Array.range n) os).drewN n') os') blk 0 (Array.range n) := λ n' os'=>by rw [hcls];exact holdsK_sortWorldK_c enc k w blk 0 _ _ _ _ HH.out hblk rfl
    have lj:∀ n' os',Sem.run P (loadCellsFrom ⟨blk,(ip+1)*k,none⟩ 0 k #[]) (grow ((sortWorldK enc k w blk 0 m (Array.range n) os).drewN n') os') = .ok (enc (ip+1)).toArray (grow ((sortWorldK enc k w blk 0 m (Array.range n) os).drewN n') os') := λ n' os'=>by
     have:=HoldsK.cells (hHc n' os') HK.out (i:=ip+1) (by rw [hrs];exact hlt);rw [r1,wH] at this;exact run_loadCellsFrom_list P _ _ _ k (HK.out _) this
    have lp:∀ n' os',Sem.run P (loadCellsFrom ⟨blk,ip*k,none⟩ 0 k #[]) (grow ((sortWorldK enc k w blk 0 m (Array.range n) os).drewN n') os') = .ok (enc ip).toArray (grow ((sortWorldK enc k w blk 0 m (Array.range n) os).drewN n') os') := λ n' os'=>by
     have:=HoldsK.cells (hHc n' os') HK.out (i:=ip) (by rw [hrs];omega);rw [r0,wH] at this;exact run_loadCellsFrom_list P _ _ _ k (HK.out _) this
    have hcg:∀ n' os',Calls P q #[.agg (enc (ip+1)).toArray,.agg (enc ip).toArray] (grow ((sortWorldK enc k w blk 0 m (Array.range n) os).drewN n') os') λ e w'=>e = .returned (.bool (ef (ip+1) ip))/\∃ q os'',w'=grow ((grow ((sortWorldK enc k w blk 0 m (Array.range n) os).drewN n') os').drewN q) os'' := λ n' os'=>by
     rw [hcls];exact HC.out _ _ _ hrs (ip+1) ip
    have CLS:Hid _:=hcls;clear hcls hHc r0 r1;generalize hwq:sortWorldK enc k w blk 0 m (Array.range n) os=wq at lj lp hcg CLS |-
    cases hev:ef (ip+1) ip with
    | false =>
      rw [hev] at hcg
      go_wp2_with fail
      go_quiet_grown (first | (go_at_fn q;refine Calls.grown_of (hcg _ _)))
      go_wp2
      go_roundg (n-(ip+2))
      case measure=>omega
      case rel =>
       refine ⟨ip+2,_,_,by go_num,by omega,by omega,by omega,CLS.out nq osq,(show Hid _ from λ j h1 h2=>?_)⟩;by_cases hj:j=ip+1
       ·rw [hj];exact hev
       ·exact HE.out j h1 (by omega)
    | true =>
      rw [hev] at hcg
      go_wp2_with fail
      go_quiet_grown (first | (go_at_fn q;refine Calls.grown_of (hcg _ _)))
      have hcap1:¬ (cap=ip+1):=by omega
      have hcap2:(ip:Int)+1<=(cap:Int):=by omega
      go_wp2
      go_loopg [5,7] n (λ g2 v5 v7 wr2=>∃ (b kk m2:Nat) (dk:Array Nat) (os2:Array Obj),v5 = .int .i64 kk/\v7 = .int .i64 b/\1<=b/\ip+1+b<=n/\n-b<=g2/\kk<=ip+b/\dk.size=n/\wr2=sortWorldK enc k w blk 0 m2 dk os2/\Hid (dk.toList.take kk=zy ef (ip+1+b))/\Hid (kk=(zy ef (ip+1+b)).length)/\Hid (∀ j,ip+b<=j->j<n->dk[j]! = j))
      case atStart =>
       have e1:zy ef (ip+1)=List.range (ip+1):=quy λ j h1 h2=>HE.out j h1 h2;have e2:zy ef (ip+1+1)=List.range (ip+1):=by rw [qrt (by omega) (by simpa using hev),e1]
       refine ⟨1,ip+1,_,Array.range n,_,by go_num,rfl,wa _,by omega,by omega,by omega,hrs,CLS.out nq osq,?_,?_,?_⟩
       ·show _=_;rw [e2,Array.toList_range,List.take_range,kN (by omega)]
       ·show _=_;rw [e2,xC]
       ·intro j _ h2;rw [getElem!_pos _ _ (by rw [hrs];exact h2)];simp
      case round =>
       obtain ⟨b,kk,m2,dk,os2,rfl,rfl,hb1,hbn,hg2,hkk,hdk,rfl,HT,HL,HD⟩:=hrel;by_cases hlt2:ip+1+b<n
       ·obtain ⟨bp,rfl⟩:∃ bp,b=bp+1:=⟨b-1,by omega⟩
        have hltz2:(bp:Int)+1<((n-(ip+1):Nat):Int):=by omega
        have hltz3:(bp:Int)<((n-(ip+1):Nat):Int):=by omega
        have hwp2:IntKind.i64.wrap (bp:Int)=(bp:Int):=by rw [IntKind.wrap_i64];omega
        have p2:(0:Int)<=(bp:Int)+1:=by omega
        have e2:((bp:Int)+1).toNat=bp+1:=by omega
        have hkn:(kk:Int)<(n:Int):=by omega
        obtain ⟨ax,hax⟩:∃ ax,ax=ip+1+(bp+1):=⟨_,rfl⟩
        have hac:(ip+1)*k+(bp+1)*k=ax*k:=by rw [hax,wN (ip+1)]
        have hap:(ip+1)*k+bp*k=(ax-1)*k:=by rw [<- wN];congr 1;omega
        have r1:dk[ax]! = ax:=HD.out ax (by omega) (by omega);have r0:dk[ax-1]! = ax-1:=HD.out (ax-1) (by omega) (by omega);have hcls:∀ n' os',grow ((sortWorldK enc k w blk 0 m2 dk os2).drewN n') os'=sortWorldK enc k w blk 0 (m2+n') dk (os2++os') := λ n' os'=>sortWorldK_grown_c enc k w blk 0 m2 n' dk os2 os';have hHc:∀ n' os',HoldsK enc k (grow ((sortWorldK enc k w blk 0 m2 dk os2).drewN n') os') blk 0 dk := λ n' os'=>by rw [hcls];exact holdsK_sortWorldK_c enc k w blk 0 (Array.range n) dk _ _ HH.out hblk (by rw [hdk,hrs])
        have lj:∀ n' os',Sem.run P (loadCellsFrom ⟨blk,(ip+1)*k+(bp+1)*k,none⟩ 0 k #[]) (grow ((sortWorldK enc k w blk 0 m2 dk os2).drewN n') os') = .ok (enc ax).toArray (grow ((sortWorldK enc k w blk 0 m2 dk os2).drewN n') os') := λ n' os'=>by
         have:=HoldsK.cells (hHc n' os') HK.out (i:=ax) (by rw [hdk];omega);rw [r1,wH,<- hac] at this;exact run_loadCellsFrom_list P _ _ _ k (HK.out _) this
        have lp:∀ n' os',Sem.run P (loadCellsFrom ⟨blk,(ip+1)*k+bp*k,none⟩ 0 k #[]) (grow ((sortWorldK enc k w blk 0 m2 dk os2).drewN n') os') = .ok (enc (ax-1)).toArray (grow ((sortWorldK enc k w blk 0 m2 dk os2).drewN n') os') := λ n' os'=>by
         have:=HoldsK.cells (hHc n' os') HK.out (i:=ax-1) (by rw [hdk];omega);rw [r0,wH,<- hap] at this;exact run_loadCellsFrom_list P _ _ _ k (HK.out _) this
        have hcg:∀ n' os',Calls P q #[.agg (enc ax).toArray,.agg (enc (ax-1)).toArray] (grow ((sortWorldK enc k w blk 0 m2 dk os2).drewN n') os') λ e w'=>e = .returned (.bool (ef ax (ax-1)))/\∃ q os'',w'=grow ((grow ((sortWorldK enc k w blk 0 m2 dk os2).drewN n') os').drewN q) os'' := λ n' os'=>by
         rw [hcls];exact HC.out _ _ _ hdk ax (ax-1)
        have CLS2:Hid _:=hcls;have HHC:Hid _:=hHc;have HAC:=Lib.hid hac;clear hcls hHc hap hac;generalize hwq2:sortWorldK enc k w blk 0 m2 dk os2=wq2 at lj lp hcg CLS2 HHC |-
        have hlA:(enc ax).length=k:=HK.out _;have hA1:∀ v∈enc ax,v.oneCell'=true:=H1.out _;obtain ⟨cA,hcA⟩:∃ c,c=enc ax:=⟨_,rfl⟩
        obtain ⟨cP,hcP⟩:∃ c,c=enc (ax-1):=⟨_,rfl⟩
        rw [<- hcA] at lj hcg hlA hA1;rw [<- hcP] at lp hcg;have HCA:=Lib.hid hcA;clear hcA hcP;have hT:=HT.out;have hL:=HL.out;rw [show ip+1+(bp+1)=ax from hax.symm] at hT hL;have HAX:=Lib.hid hax;have hax1:0<ax:=by omega
        have hax3:ax<n:=by omega
        clear hax r0 r1;cases hev2:ef ax (ax-1) with
        | true =>
          have hcd:zy ef (ax+1)=zy ef ax:=qrt hax1 hev2;have HT2:Hid (dk.toList.take kk=zy ef (ax+1)):=by show _=_;rw [hcd];exact hT
          have HL2:Hid (kk=(zy ef (ax+1)).length):=by show _=_;rw [hcd];exact hL
          clear hT hL hcd;rw [hev2] at hcg
          go_wp2_with fail
          go_quiet_grown (first | (go_at_fn q;refine Calls.grown_of (hcg _ _)))
          go_wp2
          go_roundg (n-(bp+2))
          case measure=>omega
          case rel =>
           have hax2:ip+1+(bp+2)=ax+1:=by have:=HAX.out;omega
           refine ⟨bp+2,kk,_,dk,_,rfl,by go_num,by omega,by omega,by omega,by omega,hdk,CLS2.out nq osq,?_,?_,(show Hid _ from λ j h1 h2=>HD.out j (by omega) h2)⟩
           ·show _=_;rw [hax2];exact HT2.out
           ·show _=_;rw [hax2];exact HL2.out
        | false =>
          have hcd:zy ef (ax+1)=zy ef ax++[ax]:=qBo hev2;have hdl:kk<dk.toList.length:=by rw [wM,hdk];omega
          have HT2:Hid ((dk.setIfInBounds kk ax).toList.take (kk+1)=zy ef (ax+1)):=by
           show _=_;rw [hcd,<- hT,xo,kt,vk (wa _),List.getElem?_set_self hdl];rfl
          have HL2:Hid (kk+1=(zy ef (ax+1)).length):=by show _=_;rw [hcd,wc,<- hL];rfl
          clear hT hL hcd;rw [hev2] at hcg
          go_wp2_with fail
          go_quiet_grown (first | (go_at_fn q;refine Calls.grown_of (hcg _ _)))
          have hw2:grow (wq2.drewN nq) osq=sortWorldK enc k w blk 0 (m2+nq) dk (os2++osq):=CLS2.out nq osq;have lj2:=lj nq osq;have hHd:=HHC.out nq osq;clear lj lp hcg;generalize grow (wq2.drewN nq) osq=wq3 at hw2 hHd lj2 |-
          have hbd:kk*k+cA.length<=(flatK enc k dk).size:=by
           rw [hlA,size_flatK];have:=wn k (show kk+1<=dk.size by omega)
           rwa [kV] at this
          have s1:Sem.run P (storeCells ⟨blk,kk*k,none⟩ cA 0) wq3 = .ok () (wq3.setCells blk (kk*k) cA):=by
           have:=stores_of_holds P hHd (kk*k) cA hbd hA1
           rwa [wH] at this
          have HW3:Hid (wq3.setCells blk (kk*k) cA=sortWorldK enc k w blk 0 (m2+nq) (dk.setIfInBounds kk ax) (os2++osq)):=by
           show _=_;rw [hw2,HCA.out];exact qG3 HK.out (m2+nq) dk (os2++osq) hblk kk ax (by omega)
          clear hw2 hHd hbd
          go_wp2
          go_roundg (n-(bp+2))
          case measure=>omega
          case rel =>
           have hax2:ip+1+(bp+2)=ax+1:=by have:=HAX.out;omega
           refine ⟨bp+2,kk+1,_,dk.setIfInBounds kk ax,_,by go_num,by go_num,by omega,by omega,by omega,by omega,by simpa using hdk,HW3.out,?_,?_,(show Hid _ from λ j h1 h2=>?_)⟩
           ·show _=_;rw [hax2];exact HT2.out
           ·show _=_;rw [hax2];exact HL2.out
           ·rw [getElem!_set_other _ _ _ _ (by omega)];exact HD.out j (by omega) h2
       ·obtain rfl:n=ip+1+b:=by omega
        have hW:=(Go.AmZ.sort_blks HBK.out enc k m2 dk os2).hb;have hpsz:(putCells id 0 (flatK enc k dk) vs).size=vs.size:=by unfold putCells;rw [waa]
        have hzl:(Builtin.zeroCells zv.cells (ip+1+b-kk)).toList.length=(ip+1+b-kk)*k:=by rw [wM,size_zeroCells,HZK.out]
        have hsum:kk*k+(ip+1+b-kk)*k=(ip+1+b)*k:=by rw [<- wN];congr 1;omega
        have hle:(ip+1+b)*k<=vs.size:=wD (wn _ hnc) HCS.out;obtain ⟨new,hnew⟩:∃ new,new=(putCells id 0 (flatK enc k dk) vs).toList.take (kk*k)++(Builtin.zeroCells zv.cells (ip+1+b-kk)).toList++(putCells id 0 (flatK enc k dk) vs).toList.drop (kk*k+(Builtin.zeroCells zv.cells (ip+1+b-kk)).toList.length):=⟨_,rfl⟩
        have hcl:∀ ty,(Builtin.clear_ #[22] ty #[.slice (some ⟨blk,kk*k,none⟩) (ip+1+b-kk) (cap-kk)]).run P (sortWorldK enc k w blk 0 m2 dk os2) = .ok (.tuple #[]) ((sortWorldK enc k w blk 0 m2 dk os2).setRow blk new.toArray) := λ ty=>by
         rw [hnew];exact quj _ 22 24 ty zv t22 HVE.out blk (kk*k) (ip+1+b-kk) (cap-kk) (by omega) _ et hW (by rw [hpsz,HZK.out];omega) (HZ1.out _)
        have HN1:Hid (new.take (kk*k)=(putCells id 0 (flatK enc k dk) vs).toList.take (kk*k)):=by
         show _=_;rw [hnew,wi,kG (by rw [wo,wM,hpsz];omega),xJ,Nat.min_self]
        have HN2:Hid (new.length=vs.size):=by
         show _=_;rw [hnew];rw [wM] at hzl;simp only [wc,wo,wS,wM,hpsz,hzl];omega
        have hkc:¬ (cap=kk):=by omega
        have hkc2:(kk:Int)<=(cap:Int):=by omega
        have hkn:(kk:Int)<=((ip+1+b:Nat):Int):=by omega
        clear hW hpsz hzl hsum hle hnew;have HW:Hid _:=(⟨dk,m2,os2,rfl⟩:∃ (d:Array Nat) (m:Nat) (os:Array Obj),sortWorldK enc k w blk 0 m2 dk os2=sortWorldK enc k w blk 0 m d os)
        generalize hwq2:sortWorldK enc k w blk 0 m2 dk os2=wq2 at hcl |-
        have HWQ:=Lib.hid hwq2;clear hwq2 HW;have HDK:=Lib.hid hdk
        go_wp2_with (simp only [hcl])
        go_ret
        have hL:=HL.out;rw [<- hL];exact ⟨rfl,dk,m2,os2,new,HDK.out,HT.out,.inr ⟨HN1.out,HN2.out,by rw [HWQ.out]⟩⟩
   ·obtain rfl:i=n:=by omega
    have hci:zy ef i=List.range i:=quy λ j h1 h2=>HE.out j h1 h2;have HCI:=Lib.hid hci;clear hci
    go_wp2
    go_ret
    rw [HCI.out,xC];exact ⟨rfl,Array.range i,_,_,[],hrs,by simp,.inl rfl⟩
end Go.Proofs.YtckmkimhkhilgaaGreat
namespace Go.AmZ
open Go Go.RowKit Go.GxZ Go.Sort Go.Proofs Go.Shelf Go.Proofs.YtckmkimhkhilgaaGreat
def qjX{α : Type}(F : α -> α -> Option Bool)(l:List α)(i j:Nat):Bool:=match l[i % l.length]?,l[j % l.length]? with
 | some x,some y=>(F x y).getD false
 | _,_=>false
def qyj{α : Type}(F : α -> α -> Option Bool):List α -> Option (List α)
 | []=>some []
 | x::l=>cond (Nat.ble (x::l).length 100000&&qcu F (x::l)) (some (pick (x::l) (zy (qjX F (x::l)) (x::l).length))) none
def qtH{α : Type}(F : α -> α -> Option Bool)(l:List α):Option (Unit × List α × Unit):=match qyj F l with
 | some a=>some ((),a,())
 | none=>none
theorem qD4{α : Type}{F : α -> α -> Option Bool}{l:List α}{r:Unit × List α × Unit}(h:qtH F l=some r):∃ a,qyj F l=some a/\r=((),a,()):=by
 unfold qtH at h;split at h
 ·cases h;exact⟨_,‹_›,rfl⟩
 ·cases h
theorem qFk{P:Program}{f:FuncId}{g:qoX}(e:qfJ P f)(h:∀ a,g.fn a=none):qV P f (mgP g):=by
 refine⟨e,λ Γ σ w d c r j i b=>?_⟩;unfold mgP at b;split at b
 ·rw[h]at b;cases b
 ·cases b
theorem qxi{b:Nat->Nat->Bool}{n:Nat}:∀ i∈zy b n,i<n := λ i a=>kS.1 (kJ.1 a).1
theorem qqg{enc:Nat->List Value}{k:Nat}(a:∀ x,(enc x).length=k):∀(l:List Nat) (i j:Nat),j<k->(l.flatMap enc)[i*k+j]?=(l[i]?).bind λ x=>(enc x)[j]?
 | [],i,j,_=>by simp
 | x::l,0,j,b=>by
   rw[xb,kQ,wH,List.getElem?_append_left (by rw[a];exact b)];rfl
 | x::l,i+1,j,b=>by
   rw[xb,List.getElem?_append_right (by rw[a,kV];omega),a];have:(i+1)*k+j-k=i*k+j:=by rw[kV];omega
   rw[this];exact qqg a l i j b
theorem qw2{enc:Nat->List Value}{k:Nat}(a:∀ x,(enc x).length=k):∀ l:List Nat,(l.flatMap enc).length=l.length*k
 | []=>by simp
 | x::l=>by rw[xb,wc,a,qw2 a l,wu,kV,wae]
theorem qtU{b:Type}{f:List AV->Option b}{es:List (List AV)}{l:List b}(h:za f es=some l):∀{a:List Nat},(∀ i∈a,i<l.length)->za f (pick es a)=some (pick l a)
 | [],_=>rfl
 | i::a,d=>by
   have e:=d i (wh ..);have n:=qT h
   have e1:pick es (i::a)=es[i]'(by omega)::pick es a:=by
    unfold pick;rw[vl,List.getElem?_eq_getElem (by omega)]
   have m:pick l (i::a)=l[i]::pick l a:=by
    unfold pick;rw[vl,List.getElem?_eq_getElem e]
   obtain⟨v,c,k⟩:=JK h (List.getElem?_eq_getElem (show i<es.length by omega));rw[List.getElem?_eq_getElem e]at c;cases c;rw[e1,m];exact yP.2 ⟨_,_,k,qtU h λ j g=>d j (wg _ g),rfl⟩
theorem qI6(n:Nat):∀ v∈(Builtin.zeroCells (Value.cells (.agg #[.int .i64 0,.string ⟨#[]⟩,.int .i64 0,.slice none 0 0])) n).toList,v.oneCell'=true:=by
 intro v a;unfold Builtin.zeroCells at a;rw[Array.mem_toList_iff]at a;obtain⟨i,_,rfl⟩:=Array.mem_map.1 a;have c:(Value.cells (.agg #[.int .i64 0,.string ⟨#[]⟩,.int .i64 0,.slice none 0 0])).size=4:=rfl;rw[c];have b:i % 4<4:=xP _ (by decide);generalize i % 4=r at b
 match r,b with
 | 0,_=>rfl
 | 1,_=>rfl
 | 2,_=>rfl
 | 3,_=>rfl
set_option maxHeartbeats 1000000 in
theorem qz2 {g:FuncId} {F:T->T->Option Bool} (hF:Fn2 Go.Proofs.Tryz.prog g .term (λ b:Bool => .bool b) F) {fn:List T->Option (Unit × List T × Unit)} (hfn:∀ l r,fn l=some r->∃ l',qyj F l=some l'/\r=((),l',())) :
  qV Go.Proofs.Tryz.prog 108 (sgP ⟨[.row .term,.clo g 0],[.one (.row .term)],λ x=>fn x.1⟩):=by
 have c0 := λ p cap fv w=>qFv (P:=Go.Proofs.Tryz.prog) Go.Proofs.Tryz.func108 (by kernel_rfl) Go.Proofs.Tryz.underlying0 Go.Proofs.Tryz.isAgg0 Go.Proofs.Tryz.sizeOf0 Go.Proofs.Tryz.zeroValue0 Go.Proofs.Tryz.underlying3 Go.Proofs.Tryz.isAgg3 Go.Proofs.Tryz.sizeOf3 Go.Proofs.Tryz.zeroValue3 Go.Proofs.Tryz.underlying4 Go.Proofs.Tryz.isAgg4 Go.Proofs.Tryz.sizeOf4 Go.Proofs.Tryz.zeroValue4 Go.Proofs.Tryz.underlying22 Go.Proofs.Tryz.isAgg22 Go.Proofs.Tryz.sizeOf22 Go.Proofs.Tryz.zeroValue22 Go.Proofs.Tryz.underlying41 Go.Proofs.Tryz.isAgg41 Go.Proofs.Tryz.sizeOf41 Go.Proofs.Tryz.zeroValue41 p cap fv w
 have cP := λ w blk n cap et vs h1 h2 h3 h4 h5 enc h6 h7 h8 ef h9=>qGx (P:=Go.Proofs.Tryz.prog) Go.Proofs.Tryz.func108 (by kernel_rfl) Go.Proofs.Tryz.underlying0 Go.Proofs.Tryz.isAgg0 Go.Proofs.Tryz.sizeOf0 Go.Proofs.Tryz.zeroValue0 Go.Proofs.Tryz.underlying3 Go.Proofs.Tryz.isAgg3 Go.Proofs.Tryz.sizeOf3 Go.Proofs.Tryz.zeroValue3 Go.Proofs.Tryz.underlying4 Go.Proofs.Tryz.isAgg4 Go.Proofs.Tryz.sizeOf4 Go.Proofs.Tryz.zeroValue4 Go.Proofs.Tryz.underlying22 Go.Proofs.Tryz.isAgg22 Go.Proofs.Tryz.sizeOf22 Go.Proofs.Tryz.zeroValue22 Go.Proofs.Tryz.underlying41 Go.Proofs.Tryz.isAgg41 Go.Proofs.Tryz.sizeOf41 Go.Proofs.Tryz.zeroValue41
  4 (by decide) Go.Proofs.Tryz.isAgg24 Go.Proofs.Tryz.sizeOf24 _ Go.Proofs.Tryz.zeroValue24 rfl qI6 w blk n cap et vs g h1 h2 h3 h4 h5 enc h6 h7 h8 (λ args w=>qhC hF.1 args w) ef h9
 have hag:∀ v:T,yG .term v = .agg (qf .term v) := λ _=>rfl;refine ⟨J0 Go.Proofs.Tryz.func108 (by kernel_rfl),λ Γ σ w args vals r hi hr hp=>?_⟩;unfold sgP at hp;split at hp<;>try cases hp
 rename_i x hx;split at hp<;>cases hp;rename_i v0 hv0;obtain ⟨l,_⟩:=x;obtain ⟨l',hl',rfl⟩:=hfn _ _ hv0;obtain ⟨y0,ys0,nr,rfl,hy0,hx1⟩:=qtM hx;obtain ⟨ys1,rfl,hx2⟩:=qDb (g:=g) (r:=[]) hx1;obtain ⟨rfl,hbx,hrw⟩:=qkI hx2;clear hx hx1 hx2 hv0 hfn;obtain ⟨u0,r0,rfl,hu0,hr⟩:=hr.uncons;obtain ⟨u1,r1,rfl,hu1,hr⟩:=hr.uncons;have:=hr.nil_inv;subst this
 have hu1:u1 = .func (.func g) #[] #[]:=by
  cases hu1 with
  | fn _ _ us hn _=>obtain rfl:=wj hn;rfl
 subst hu1;have hb0 : σ.bx=[]:=wj hbx.symm
 have nil0:∀ (p:Option Addr),l'=[]->Q8 Go.Proofs.Tryz.prog Γ σ w 108 [.slice p 0 0,.func (.func g) #[] #[]] (zV (jA [.one (.row .term)] σ.rw.length (l',())),some ⟨[],σ.rw.map QM++jO [.one (.row .term)] (l',()),List.range σ.bx.length,List.range σ.rw.length⟩) := λ p hl=>by
  subst hl;refine (c0 p 0 _ w).mono ?_;rintro e w' ⟨rfl,rfl⟩;obtain ⟨Γ2,z1,z2,z3,z4⟩:=qJV (a := .term) hi (.refl _ _) hi hb0 p;exact ⟨_,Γ2,rfl,z1,z2,z3,z4⟩
 rcases qgb hy0 with ⟨hnr,R,rfl,hR,hRk,hRf,hRd⟩ | ⟨hnr,hl0,hy⟩
 ·have H:=hi.row 0 R hR;have hcl:R.c.length=l.length:=qT hRd;have hlk:∀ e∈R.c,e.length=Ty.size .term := λ e he=>(H.len e he).trans hRk;obtain ⟨p,cap,rfl,hcap,hrm⟩:=qvD hi hR hRk hRf hu0;rcases hrm with h0 | ⟨rfl,hz,vs,et,hvs,hvsz,hfit,hca,hxl,h1⟩
  ·have hl0:l=[]:=wj (by omega);have hl2:l'=[]:=by rw [hl0] at hl';cases hl';rfl
   have hrc:R.c.length=0:=by omega
   rw [hrc,h0];exact nil0 p hl2
  ·by_cases hl0:l=[]
   ·have hl2:l'=[]:=by rw [hl0] at hl';cases hl';rfl
    have hrc:R.c.length=0:=by rw [hcl,hl0];rfl
    rw [hrc];subst hl2;refine qjh (a := .term) hi hb0 hR hRk hRf.1 hRf.2 hz (l:=[]) (c:=[]) (xs:=[]) (n:=0) rfl rfl (by intro e he;cases he) (by intro e he;cases he) (λ i e j x h=>by cases h) ?_;refine (c0 _ cap _ w).mono ?_;rintro e w' ⟨rfl,rfl⟩;exact ⟨Γ.cur 0,cap,vs,et,rfl,hvs,we _,hfit,by rw [kQ];rfl,.inl ⟨rfl,hvsz⟩,rfl,rfl,rfl,wa _,wa _,λ _ _ _=>rfl⟩
   ·have hlpos:0<l.length:=xd.2 hl0;obtain ⟨n,hn⟩:∃ n,n=l.length:=⟨_,rfl⟩
    have hnc:R.c.length=n:=hcl.trans hn.symm;rw [hnc] at hca hxl h1 hcap |-
    have hns:n*Ty.size .term<=vs.size:=wD (wn _ hcap) hfit
    have hv':Nat.ble l.length 100000=true/\qcu F l=true/\l'=pick l (zy (qjX F l) l.length):=by
     cases l with
     | nil=>exact absurd rfl hl0
     | cons y l =>
       replace hl':cond _ _ _=some l':=hl'
       cases hb:(Nat.ble (y::l).length 100000&&qcu F (y::l)) with
       | false =>
         replace hl':cond (Nat.ble (y::l).length 100000&&qcu F (y::l)) _ _=some l':=hl'
         rw [hb] at hl';cases hl'
       | true =>
         replace hl':cond (Nat.ble (y::l).length 100000&&qcu F (y::l)) _ _=some l':=hl'
         have hb':=hb;rw [wd] at hb';rw [hb] at hl';cases hl';exact ⟨hb'.1,hb'.2,rfl⟩
    obtain ⟨v1,v2,v4⟩:=hv';have v1:l.length<=100000:=kO v1;have hER:∀ {q:Nat} {y:T},l[q]? = some y->RepL Γ (qf .term y) (qbO vs (Ty.size .term) q)/\∀ u∈qbO vs (Ty.size .term) q,u.oneCell'=true := λ hq=>qyC hnc hlk hRd hca hns hq;have hlast:∀ i,i % n<n := λ i=>xP _ (by omega);obtain ⟨enc,henc⟩:∃ enc:Nat->List Value,enc = λ i=>qbO vs (Ty.size .term) (i % n):=⟨_,rfl⟩
    have hek:∀ i,(enc i).length=Ty.size .term := λ i=>by rw [henc];exact qrD (hlast i) hns
    have hlget:∀ i,∃ y,l[i % n]? = some y := λ i=>⟨_,List.getElem?_eq_getElem (by rw [<- hn];exact hlast i)⟩
    have he1:∀ i,∀ u∈enc i,u.oneCell'=true := λ i u hu=>by
     rw [henc] at hu;obtain ⟨y,hy⟩:=hlget i;exact (hER hy).2 u hu
    have hrange:(Array.range n).size=n:=vG;have hvsb:w.heap[Γ.cur 0]? = some (.cells vs et (0,0)):=hvs;have hmem0:∀ off,Γ.mem (Γ.cur 0) off=none := λ off=>H.un hz off (by rw [hRf.1,kQ,H.off hRf.2];exact we _)
    have hH:HoldsK enc (Ty.size .term) w (Γ.cur 0) 0 (Array.range n):=by
     intro j hj;rw [size_flatK,hrange] at hj;obtain ⟨q1,q2,q3⟩:=qn4 j (Ty.size .term) n hj;have hjs:j<vs.size:=wB hj hns;constructor
     ·rw [get_flatK _ _ _ _ (by rw [hrange];exact hj)];have e1:(Array.range n)[j / (Ty.size .term)]! = j / (Ty.size .term):=by rw [getElem!_pos _ _ (by rw [hrange];exact q1)];simp
      rw [e1,henc];show _=some ((qbO vs (Ty.size .term) (j / (Ty.size .term) % n))[j % (Ty.size .term)]!);rw [xp q1];have e2:(qbO vs (Ty.size .term) (j / (Ty.size .term)))[j % (Ty.size .term)]? = some vs[j]:=by rw [qok q3,q2];exact Array.getElem?_eq_getElem hjs
      rw [wH,Blk.cell hvs,List.getElem!_eq_getElem?_getD,e2,Array.getElem?_eq_getElem hjs];rfl
     ·exact Blk.free hvs _
    have heq:∀ (m:Nat) (os:Array Obj) (dk:Array Nat),dk.size=n->∀ x y,Calls Go.Proofs.Tryz.prog g #[.agg (enc x).toArray,.agg (enc y).toArray] (sortWorldK enc (Ty.size .term) w (Γ.cur 0) 0 m dk os) λ e w'=>e = .returned (.bool (qjX F l x y))/\∃ q' os',w'=grow ((sortWorldK enc (Ty.size .term) w (Γ.cur 0) 0 m dk os).drewN q') os':=by
     intro m os dk hdk x y;have B:=sort_blks hvsb enc (Ty.size .term) m dk os;obtain ⟨W,hW⟩:∃ W,W=sortWorldK enc (Ty.size .term) w (Γ.cur 0) 0 m dk os:=⟨_,rfl⟩
     rw [<- hW] at B |-
     have hiW:Inv (bare Γ) emp W:=hi.bare λ b o u e=>by
      have hne:b ≠ Γ.cur 0 := λ hb=>by rw [hb,hmem0] at e;cases e
      have hc:=(hi.mem b o u e).1;have hblt:=hi.mem_lt e;rw [show W.cell? _=w.cell? _ from World.cell?_of_block (B.other b hblt hne)];exact hc
     have rep:∀ (i:Nat) (y:T),l[i % n]? = some y->Rep (bare Γ) (yG .term y) (.agg (enc i).toArray) := λ i y hy=>by
      obtain ⟨q1,q2⟩:=hER hy;rw [hag];have:enc i=qbO vs (Ty.size .term) (i % n):=by rw [henc]
      rw [this];refine .agg _ _ q1.len q2 λ j z u a b=>(q1.rep j z u a b).bare (zm .term y z (wb a))
     obtain ⟨lx,hx⟩:=hlget x;obtain ⟨ly,hy⟩:=hlget y;have hsome:=wv.1 (wv.1 v2 lx (wb hx)) ly (wb hy);obtain ⟨c,hc⟩:=wah.1 hsome
     have hcf:qjX F l x y=c:=by
      unfold qjX;rw [<- hn,hx,hy];simp only;rw [hc];rfl
     rw [hcf];have hcall:=hF.2 hiW (rep x lx hx) (rep y ly hy) hc;refine Calls.mono hcall ?_;rintro e w' ⟨rfl,hid⟩;exact ⟨rfl,hid.grow⟩
    have hcall:=cP w (Γ.cur 0) n cap et vs hvsb hfit hcap (by omega) (by omega) enc hek he1 hH (qjX F l) heq;obtain ⟨ix,hix⟩:∃ ix,ix=zy (qjX F l) n:=⟨_,rfl⟩
    rw [<- hix] at hcall;have hixlt:∀ i∈ix,i<n := λ i hi=>by rw [hix] at hi;exact qxi i hi
    have hixl:∀ i∈ix,i<l.length := λ i hi=>by rw [<- hn];exact hixlt i hi
    have hixc:∀ i∈ix,i<R.c.length := λ i hi=>by rw [hnc];exact hixlt i hi
    have hl'e:l'=pick l ix:=by rw [v4,<- hn,hix]
    have hl'n:l'.length=ix.length:=by rw [hl'e,qny hixl]
    have pm:∀ e∈pick R.c ix,e∈R.c := λ e he=>by
     unfold pick at he;obtain ⟨i,_,h⟩:=xa.1 he;exact wb h
    refine qjh (a := .term) hi hb0 hR hRk hRf.1 hRf.2 hz (l:=l') (c:=pick R.c ix) (xs:=ix.flatMap enc) (n:=ix.length) hl'n.symm (by rw [hl'e];exact qtU hRd hixl) (λ e he=>hlk e (pm e he)) (λ e he=>H.plain e (pm e he)) (λ i e j x h1 h2=>?_) ?_
    ·rw [qrM hixc] at h1;cases hp:ix[i]? with
     | none=>rw [hp] at h1;cases h1
     | some p =>
       rw [hp] at h1;have h1:R.c[p]? = some e:=h1;have hj:j<Ty.size .term:=by have:=getElem?_lt h2;rwa [hlk e (wb h1)] at this
       obtain ⟨u,u1,u2⟩:=hca p e j x h1 h2;refine ⟨u,?_,u2⟩;have hpn:p<n:=hixlt p (wb hp);rw [qqg hek _ _ _ hj,hp];show (enc p)[j]? = some u;rw [henc];show (qbO vs (Ty.size .term) (p % n))[j]? = some u;rw [xp hpn,qok hj,<- Array.getElem?_toList];rw [List.getElem?_take] at u1;split at u1
       ·exact u1
       ·cases u1
    ·refine Calls.mono hcall ?_;rintro e w' ⟨rfl,dk,m,os,new,hdk,htk,hw⟩;have B:=sort_blks hvsb enc (Ty.size .term) m dk os;have hpsz:(putCells id 0 (flatK enc (Ty.size .term) dk) vs).size=vs.size:=by unfold putCells;rw [waa]
     have hixn:ix.length<=n:=by
      have:=congrArg List.length htk;rw [wo] at this;have h2:dk.toList.length=n:=by rw [wM,hdk]
      omega
     have hlen:ix.length*Ty.size .term<=n*Ty.size .term:=wn _ hixn
     have hxs:(putCells id 0 (flatK enc (Ty.size .term) dk) vs).toList.take (ix.length*Ty.size .term)=ix.flatMap enc:=by
      apply xc;intro t;by_cases ht:t<ix.length*Ty.size .term
      ·obtain ⟨q1,q2,q3⟩:=qn4 t (Ty.size .term) ix.length ht;rw [List.getElem?_take,if_pos ht,Array.getElem?_toList];unfold putCells;rw [Array.getElem?_mapIdx,Array.getElem?_eq_getElem (by omega),kL,if_pos ⟨we _,by rw [size_flatK,hdk];omega⟩,Nat.sub_zero,id,get_flatK _ _ _ _ (by rw [hdk];omega)]
       conv=>rhs;rw [<- q2]
       rw [qqg hek _ _ _ q3]
       have hd:dk[t / Ty.size .term]? = ix[t / Ty.size .term]? := by
        rw [<- htk,List.getElem?_take,if_pos q1,Array.getElem?_toList]
       have hdl:t / Ty.size .term<dk.size:=by rw [hdk];omega
       rw [<- hd,Array.getElem?_eq_getElem hdl,getElem!_pos dk _ hdl];show _=(enc dk[t / Ty.size .term])[t % Ty.size .term]?;rw [List.getElem!_eq_getElem?_getD,List.getElem?_eq_getElem (by rw [hek];exact q3)];rfl
      ·rw [List.getElem?_eq_none (by rw [wo];omega),List.getElem?_eq_none (by rw [qw2 hek];omega)]
     rcases hw with rfl | ⟨n1,n2,rfl⟩
     ·exact ⟨Γ.cur 0,cap,_,et,rfl,B.hb,by omega,by rw [hpsz];exact hfit,hxs,.inl ⟨rfl,hpsz.trans hvsz⟩,B.os,B.tape,B.output,B.size,B.drawn,B.other⟩
     ·have hs:=setRow_heap _ (Γ.cur 0) _ new.toArray et (0,0) B.hb;refine ⟨Γ.cur 0,cap,new.toArray,et,rfl,hs,by omega,by rw [kh,n2];exact hfit,?_,.inl ⟨rfl,by rw [kh,n2];exact hvsz⟩,B.os,B.tape,B.output,?_,B.drawn,λ b hb hne=>(setRow_other _ (Γ.cur 0) b _ hne).trans (B.other b hb hne)⟩
      ·rw [<- hxs];exact n1
      ·show w.heap.size<=_;simp only [World.setRow,Array.size_modify];exact B.size
 ·have hl2:l'=[]:=by
    have hl0:l=[]:=hl0;rw [hl0] at hl';cases hl';rfl
  rcases hy with rfl | ⟨f,rfl,hf2⟩
  ·have hu0:=zk hu0;subst hu0;exact nil0 none hl2
  ·cases hu0 with
   | sl _ _ _ a n cap b o us hn _ hf _ _ _ _ _ _ =>
     have hn:n=0:=hn;have hcap:cap=n:=hf (by omega);rw [hcap,hn];exact nil0 a hl2
end Go.AmZ
namespace Go.AmZ
open Go Go.RowKit Go.GxZ
theorem qkT{P:Program}(w:World)(zP:Nat)(t ty e:TypeId)(i:TypeInfo)(z:Value)(size bytes:Nat)(F:P.underlying t=some (.slice e))(H:P.info? e=some i)(I:i.zero=some z)
  (d:i.size=size) (A:i.bytes=bytes) (s:z.cells.size=size) (x:0<size)
  (v:Value) (n:Nat) (xs:List Value) (b:w.ownsRow zP e size v n xs)
  (a:Addr) (m c:Nat) (qd:List Value) (G:qd.length=m*size) (f:∀ j u,qd[j]?=some u->w.cell? (a.add j)=some u) (J:∀ u∈qd,u.oneCell'=true)
  (B:n+m<=maxLen) (h:(n+m)*bytes<=140737488355328) (l:zP<=w.heap.size) :
  ∃ p w',(Builtin.append_ #[t,t] ty #[v,.slice (some a) m c]).run P w = .ok p w'/\w'.ownsRow zP e size p (n+m) (xs++qd)/\w.grownBy w' v.ownBlock /\
   (p.ownBlock=v.ownBlock\/∀ k,p.ownBlock=some k->w.heap.size<=k):=by
 rcases id b.2 with⟨rfl,rfl⟩ | ⟨g,cap,Q,rfl,O,R,K,N,M,E⟩
 ·have D:xs=[]:=ko.1 (by simpa using b.1);subst D;obtain⟨p,w',C,r,o,_⟩:=run_append_own (P:=P) w w.heap.size t ty e i z size bytes F H I d A s x (.slice none 0 0) 0 [] (World.ownsRow_nil w _ e size) a m c qd G f J B h (wa _);exact⟨p,w',C,r.mono l,o,.inr λ k y=>(r.lt k y).1⟩
 ·by_cases q:n+m<=cap
  ·obtain⟨w',C,r,o⟩:=run_append_own_spare (P:=P) w zP t ty e i size F H d g n cap xs b a m c qd G f J q;exact⟨_,w',C,r,o,.inl rfl⟩
  ·obtain⟨p,w',C,r,o⟩:=run_append_arg_grows (P:=P) w t ty e i z size bytes F H I d A s x ⟨g,0,none⟩ n cap xs b.1 (λ j u L=>b.cells rfl j u L) a m c qd G f (by omega) B h;exact⟨p,w',C,r.mono l,⟨o.os,o.tape,o.output,o.size,λ k y _=>o.block k y (by simp)⟩,.inr λ k y=>(r.lt k y).1⟩
structure qdO (Γ : Gh) (b:Nat):Prop where
 own:¬ Qt Γ b
 mem:∀ o,Γ.mem b o=none
theorem qdO.ext{Γ Γ':Gh}{w w':World}{b:Nat}(h:qdO Γ b)(c:Ext Γ w Γ' w')(f:b<w.heap.size):qdO Γ' b/\w'.heap[b]?=w.heap[b]?:=by
 refine⟨⟨λ d=>(c.own b d).elim h.own λ h=>by omega,λ o=>?_⟩,c.block b f h.own⟩;cases e : Γ'.mem b o with
 | none=>rfl
 | some u =>
   rcases c.memg b o u e with a | a | a
   ·rw[h.mem]at a;cases a
   ·exact absurd a h.own
   ·omega
theorem qdO.new{Γ : Gh}{σ : St}{w:World}(a:Inv Γ σ w){b:Nat}(f:w.heap.size<=b):qdO Γ b:=by
 refine⟨λ h=>?_,λ o=>?_⟩
 ·rcases h with⟨i,c,rfl⟩ | ⟨r,c,e,rfl⟩
  ·have:=a.box_lt c;omega
  ·have:=a.cur_lt c e;omega
 ·cases d : Γ.mem b o with
  | none=>rfl
  | some u=>have:=a.mem_lt d;omega
theorem Inv.off{Γ : Gh}{σ : St}{w w':World}(h:Inv Γ σ w)(l:∀ k j,¬ qdO Γ k->w.heap[k]?=some j->w'.heap[k]?=some j):Inv Γ σ w' where
 nb:=h.nb
 nr:=h.nr
 mem := λ b o u e=>by
  obtain⟨m,q⟩:=h.mem b o u e;have c:=Array.getElem?_eq_getElem (qqX m);refine⟨?_,q⟩;rw[World.cell?_of_block (w:=w) (a:=⟨b,o,none⟩) ((l b _ (λ f=>by rw[f.mem]at e;cases e) c).trans c.symm)];exact m
 box := λ i cs e=>by
  have g:i < Γ.nb:=by rw[h.nb];exact getElem?_lt e
  exact(h.box i cs e).lift g (.refl _) λ o c=>l _ _ (λ f=>f.own (.inl ⟨i,g,rfl⟩)) c
 inj:=h.inj
 boxmem:=h.boxmem
 row := λ r R e=>by
  have d:r < Γ.nr:=by rw[h.nr];exact getElem?_lt e
  exact(h.row r R e).lift d (.refl _) rfl (λ n j c=>l _ _ (λ f=>f.own (.inr ⟨r,d,n,rfl⟩)) c) (λ _ _ p=>p) λ _ i t s=>by omega
 apart:=h.apart
theorem qGN{d Γ : Gh}{σ : St}{w0 w w':World}{e:Option Nat}(a:Ext d w0 Γ w)(m:Inv Γ σ w)(c:w.grownBy w' e)(f:∀ b,e=some b->qdO Γ b/\w0.heap.size<=b)(n:w.drawn<=w'.drawn):Ext d w0 Γ w'/\Inv Γ σ w':=by
 refine⟨⟨a.le,c.os.trans a.os,c.tape.trans a.tape,c.output.trans a.output,wD a.size c.size,λ b i l=>(c.block b (wB i a.size) λ h=>?_).trans (a.block b i l),a.own,a.memg,wD a.drawn n⟩,m.off λ k o j g=>?_⟩
 ·have:=(f b h.symm).2;omega
 ·rw[c.block k (Array.getElem?_eq_some_iff.1 g).1 λ h=>j (f k h.symm).1];exact g
theorem qdO.grown{Γ : Gh}{w w':World}{a:Option Nat}{b:Nat}(d:w.grownBy w' a)(e:b<w.heap.size)(c:some b≠a):w'.heap[b]?=w.heap[b]?:=d.block b e c
theorem qGj(w:World)(g k:Nat)(u:Value):w.grownBy (w.setCell ⟨g,k,none⟩ u) (some g) :=
 ⟨rfl,rfl,rfl,by simp,λ b _ a=>Below.heap_setCell _ _ _ _ λ h=>a (by rw[h])⟩
theorem qkD{w w':World}{B e s g n cap:Nat}{cs:List Value}(h:w.ownsRow B e s (.slice (some ⟨g,0,none⟩) n cap) n cs)(d:w'.heap[g]?=w.heap[g]?):w'.ownsRow B e s (.slice (some ⟨g,0,none⟩) n cap) n cs:=by
 rcases h.2 with⟨a,_⟩ | ⟨f,c,b,a,r⟩
 ·cases a
 ·cases a;exact⟨h.1,.inr ⟨g,cap,b,rfl,r.1,by rw[d];exact r.2.1,r.2.2⟩⟩
theorem qb9{w:World}{B e s g n cap:Nat}{cs:List Value}(h:w.ownsRow B e s (.slice (some ⟨g,0,none⟩) n cap) n cs):B<=g/\g<w.heap.size:=h.lt g rfl
theorem qtc{w:World}{B e s g n p cap:Nat}{cs:List Value}(h:w.ownsRow B e s (.slice (some ⟨g,0,none⟩) n cap) n cs)(d:p<=n):w.ownsRow B e s (.slice (some ⟨g,0,none⟩) p cap) p (cs.take (p*s)):=by
 have a:p*s<=n*s:=wn _ d;rcases h.2 with⟨b,_⟩ | ⟨q,f,c,b,o,m,l,k,j,i⟩
 ·cases b
 ·cases b;refine⟨by rw[wo,h.1];omega,.inr ⟨g,cap,c,rfl,o,m,wD d l,k,j,?_⟩⟩;rw[<- i,xJ,kN a]
theorem qKh{w:World}{B e s g n cap:Nat}{cs:List Value}(h:w.ownsRow B e s (.slice (some ⟨g,0,none⟩) n cap) n cs):n<=cap/\cap<=maxLen:=by
 rcases h.2 with⟨a,_⟩ | ⟨m,b,f,a,l,k,d,c,j,i⟩
 ·cases a
 ·cases a;exact⟨d,c⟩
abbrev RD:Ty := .pair .str (.pair (.int .i64) .bool)
def qhU(Γ : Gh)(σ : St)(cs:List Value)(i:Nat)(t:T)(n:Int)(r:Nat):Prop :=
 ∃ R a,σ.rw[r]?=some R/\R.k=4/\R.fz=0/\R.off=false/\R.c=t.kids.map (qf .term)/\Rep Γ (.rs r 0 t.kids.length R.ver false) a /\
  cs[i*5]?=some (.int .i64 t.kind)/\cs[i*5+1]?=some (.string ⟨t.name.toArray⟩)/\cs[i*5+2]?=some (.int .i64 t.sort)/\cs[i*5+3]?=some a/\cs[i*5+4]?=some (.int .i64 n)
structure Stk (B N:Nat) (Γ : Gh) (σ : St) (w:World) (st:List (T × Int)) (ids:List Nat) (g cap:Nat) (cs:List Value):Prop where
 len:ids.length=st.length
 nd:ids.Nodup
 priv:qdO Γ g
 own:w.ownsRow B N 5 (.slice (some ⟨g,0,none⟩) st.length cap) st.length cs
 node:∀ i t n r,st[i]?=some (t,n)->ids[i]?=some r->qhU Γ σ cs i t n r
section
variable {B N:Nat} {Γ Γ':Gh} {σ σ':St} {w w':World} {st:List (T × Int)} {ids:List Nat} {g cap:Nat} {cs:List Value}
theorem qhU.later{i:Nat}{t:T}{n:Int}{r:Nat}(h:qhU Γ σ cs i t n r)(c:Le Γ Γ')(b:∀ R,σ.rw[r]?=some R -> σ'.rw[r]?=some R):qhU Γ' σ' cs i t n r:=by
 obtain⟨R,a,l,k,j,g,f,e,d⟩:=h;exact⟨R,a,b R l,k,j,g,f,e.mono c,d⟩
theorem qhU.cells{i:Nat}{t:T}{n:Int}{r:Nat}{cs':List Value}(h:qhU Γ σ cs i t n r)(a:∀ j,j<5->cs'[i*5+j]?=cs[i*5+j]?):qhU Γ σ cs' i t n r:=by
 obtain⟨R,b,k,g,f,e,d,c,q,p,o,m,l⟩:=h;exact⟨R,b,k,g,f,e,d,c,(a 0 (by decide)).trans q,(a 1 (by decide)).trans p,(a 2 (by decide)).trans o,(a 3 (by decide)).trans m,(a 4 (by decide)).trans l⟩
theorem Stk.later(h:Stk B N Γ σ w st ids g cap cs)(a:Ext Γ w Γ' w')(e:∀ r,r∈ids->∀ R,σ.rw[r]?=some R -> σ'.rw[r]?=some R):Stk B N Γ' σ' w' st ids g cap cs:=by
 obtain⟨d,c⟩:=h.priv.ext a (qb9 h.own).2;exact⟨h.len,h.nd,d,qkD h.own c,λ i t n r f b=>(h.node i t n r f b).later a.le (e r (wb b))⟩
theorem Stk.grown{a:Option Nat}(h:Stk B N Γ σ w st ids g cap cs)(c:w.grownBy w' a)(b:some g≠a):Stk B N Γ σ w' st ids g cap cs :=
 ⟨h.len,h.nd,h.priv,qkD h.own (c.block g (qb9 h.own).2 b),h.node⟩
theorem Stk.cell(h:Stk B N Γ σ w st ids g cap cs){k:Nat}{u:Value}(a:cs[k]?=some u):w.cell? ⟨g,k,none⟩=some u/\w.frozen? ⟨g,k,none⟩=false:=by
 refine⟨?_,h.own.frozenAt k⟩;rw[h.own.cellAt k (by rw[<- h.own.1];exact getElem?_lt a)];exact a
theorem Stk.at(h:Stk B N Γ σ w st ids g cap cs){i:Nat}{t:T}{n:Int}(b:st[i]?=some (t,n)):∃ r,ids[i]?=some r/\qhU Γ σ cs i t n r:=by
 have a:i<ids.length:=by rw[h.len];exact getElem?_lt b
 exact⟨_,List.getElem?_eq_getElem a,h.node i t n _ b (List.getElem?_eq_getElem a)⟩
theorem Stk.left(h:Stk B N Γ σ w st ids g cap cs){i:Nat}{t:T}{n:Int}(l:st[i]?=some (t,n))(a:Int):Stk B N Γ σ (w.setCell ⟨g,i*5+4,none⟩ (.int .i64 a)) (st.set i (t,a)) ids g cap (cs.set (i*5+4) (.int .i64 a)):=by
 have s:=getElem?_lt l;have d:i*5+4<cs.length:=by rw[h.own.1];omega
 refine⟨by rw[wI];exact h.len,h.nd,h.priv,by rw[wI];exact(h.own.stored _ _).1,λ j o m r c f=>?_⟩;rw[List.getElem?_set]at c;split at c
 ·rename_i e;subst e;cases c;obtain⟨R,p,A,z,y,x,v,u,F,E,D,C,G⟩:=h.node i t n r l f;have b:∀ q,q≠i*5+4->(cs.set (i*5+4) (.int .i64 a))[q]?=cs[q]? := λ q k=>by rw[List.getElem?_set_ne (λ e=>k e.symm)]
  refine⟨R,p,A,z,y,x,v,u,(b _ (by omega)).trans F,(b _ (by omega)).trans E,(b _ (by omega)).trans D,(b _ (by omega)).trans C,?_⟩;rw[List.getElem?_set_self d]
 ·rename_i e;refine(h.node j o m r c f).cells λ q k=>?_;rw[List.getElem?_set_ne (by omega)]
theorem Stk.push(h:Stk B N Γ σ w st ids g cap cs){s:Value}{nk sk:Int}{nm:List UInt8}{lf:Int}{o:Value}{r:Nat}{R:Row}(F : σ.rw[r]?=some R)(K:R.k=4)(J:R.fz=0)(I:R.off=false)(H:R.c=[])(G:Rep Γ (.rs r 0 0 R.ver false) o)(A:r ∉ ids)
  (l:w'.ownsRow B N 5 s (st.length+1) (cs++[.int .i64 nk,.string ⟨nm.toArray⟩,.int .i64 sk,o,.int .i64 lf])) (z:s.ownBlock=some g\/∀ k,s.ownBlock=some k->qdO Γ k) :
  ∃ j d,s = .slice (some ⟨j,0,none⟩) ((st.length+1:Nat)) d/\Stk B N Γ σ w' (st++[(.mk nk nm sk [],lf)]) (ids++[r]) j d (cs++[.int .i64 nk,.string ⟨nm.toArray⟩,.int .i64 sk,o,.int .i64 lf]):=by
 have D:=h.own.1
 obtain⟨j,d,v⟩:∃ j d,s = .slice (some ⟨j,0,none⟩) ((st.length+1:Nat)) d:=by
  rcases l.2 with⟨_,O⟩ | ⟨j,d,L,e,_⟩
  ·omega
  ·exact⟨j,d,e⟩
 subst v;refine⟨j,d,rfl,⟨by simp[h.len],?_,?_,by simpa using l,λ i t n y p f=>?_⟩⟩
 ·rw[List.nodup_append];exact⟨h.nd,by simp,λ a E b x=>by simp at x;subst x;exact λ e=>A (e▸E)⟩
 ·rcases z with e | e
  ·cases e;exact h.priv
  ·exact e j rfl
 ·rw[List.getElem?_append]at p f;rw[h.len]at f;split at p
  ·rename_i m;rw[if_pos m]at f;refine(h.node i t n y p f).cells λ q M=>?_;rw[List.getElem?_append_left (by omega)]
  ·rename_i m;rw[if_neg m]at f
   have C:i=st.length:=by
    have:=getElem?_lt p;simp at this;omega
   subst C;simp at p f;obtain⟨rfl,rfl⟩:=p;subst f
   have u:∀ q,(cs++[.int .i64 nk,.string ⟨nm.toArray⟩,.int .i64 sk,o,.int .i64 lf])[st.length*5+q]?=([.int .i64 nk,.string ⟨nm.toArray⟩,.int .i64 sk,o,.int .i64 lf]:List Value)[q]? := λ q=>by
    rw[List.getElem?_append_right (by omega)];congr 1;omega
   exact⟨R,o,F,K,J,I,H,G,u 0,u 1,u 2,u 3,u 4⟩
theorem Stk.shrink(h:Stk B N Γ σ w st ids g cap cs){p:Nat}(e:p<=st.length):Stk B N Γ σ w (st.take p) (ids.take p) g cap (cs.take (p*5)):=by
 have a:(st.take p).length=p:=by rw[wo];omega
 refine⟨by rw[a,wo,h.len];omega,h.nd.sublist (List.take_sublist _ _),h.priv,by rw[a];exact qtc h.own e,λ i t n r b c=>?_⟩;rw[List.getElem?_take]at b c;split at b<;>try cases b
 rename_i d;rw[if_pos d]at c;refine(h.node i t n r b c).cells λ j f=>?_;rw[List.getElem?_take,if_pos (by omega)]
theorem Stk.kid(h:Stk B N Γ σ w st ids g cap cs)(v:Ext Γ w Γ' w'){q:Nat}(Z:q<st.length){t:T}{n:Int}(J:st[q]?=some (t,n)){r:Nat}(y:ids[q]?=some r)(x:T)
  (m:∀ i s,i<q->ids[i]?=some s->∀ R,σ.rw[s]?=some R -> σ'.rw[s]?=some R) {R:Row} (M : σ'.rw[r]?=some R) (U:R.k=4) (S:R.fz=0) (Q:R.off=false) (P:R.c=(t.kids++[x]).map (qf .term)) {f:Value} (O:Rep Γ' (.rs r 0 (t.kids.length+1) R.ver false) f) :
  Stk B N Γ' σ' (w'.setCell ⟨g,q*5+3,none⟩ f) (st.take q++[(.mk t.kind t.name t.sort (t.kids++[x]),n)]) (ids.take (q+1)) g cap ((cs.set (q*5+3) f).take ((q+1)*5)):=by
 obtain⟨D,C⟩:=h.priv.ext v (qb9 h.own).2
 have l:(st.take q++[(T.mk t.kind t.name t.sort (t.kids++[x]),n)]).length=q+1:=by
  rw[wc,wo];simp;omega
 have G:=qtc ((qkD h.own C).stored (q*5+3) f).1 (p:=q+1) (by omega);have L:=h.own.1;refine⟨by rw[l,wo,h.len];omega,h.nd.sublist (List.take_sublist _ _),D,by rw[l];exact G,λ i A E s b a=>?_⟩;rw[List.getElem?_take]at a;split at a<;>try cases a
 rename_i H
 have u:∀ j,j<5->((cs.set (q*5+3) f).take ((q+1)*5))[i*5+j]?=(cs.set (q*5+3) f)[i*5+j]? := λ j z=>by
  rw[List.getElem?_take,if_pos (by omega)]
 have d:∀ k,k≠q*5+3->(cs.set (q*5+3) f)[k]?=cs[k]? := λ k I=>by rw[List.getElem?_set_ne (λ e=>I e.symm)]
 rw[List.getElem?_append,wo,kN (by omega)]at b;split at b
 ·rename_i o;rw[List.getElem?_take,if_pos o]at b;exact((h.node i A E s b a).later v.le (m i s o a)).cells λ j z=>(u j z).trans (d _ (by omega))
 ·rename_i o;have K:i=q:=by omega
  subst K;simp at b;obtain⟨rfl,rfl⟩:=b;rw[y]at a;cases a;obtain⟨R0,F,b1,b2,b3,b4,b5,b6,Y,X,W,a3,V⟩:=h.node i t n r J y;refine⟨R,f,M,U,S,Q,P,(by show Rep Γ' (.rs r 0 (t.kids++[x]).length R.ver false) f;rw[wc];exact O),(u 0 (by decide)).trans ((d _ (by omega)).trans Y),(u 1 (by decide)).trans ((d _ (by omega)).trans X),(u 2 (by decide)).trans ((d _ (by omega)).trans W),(u 3 (by decide)).trans ?_,(u 4 (by decide)).trans ((d _ (by omega)).trans V)⟩;rw[List.getElem?_set_self (by omega)]
end
end Go.AmZ
namespace Go.AmZ
open Go Go.RowKit Go.GxZ
structure RS (Γ0:Gh) (w0:World) (rd:Val RD) (Γ : Gh) (σ : St) (w:World):Prop where
 x:Ext Γ0 w0 Γ w
 i:Inv Γ σ w
 bx : σ.bx=[qf RD rd]
abbrev qnE(F:Val RD->Option ((Val RD × Unit) × ((Int × List UInt8 × Int × List T × Int × Unit) × Unit))):qmx:=⟨[.box [.val RD]],[.agg [.val (.int .i64),.val .str,.val (.int .i64),.row .term,.val (.int .i64)]],λ x=>F x.1⟩
section
variable {P:Program} {Γ0 Γ : Gh} {σ : St} {w0 w:World} {rd:Val RD}
theorem RS.drew(h:RS Γ0 w0 rd Γ σ w):RS Γ0 w0 rd Γ σ { w with drawn:=w.drawn+1 }:=⟨h.x.trans (Ext.drew _ _),h.i.drew,h.bx⟩
theorem RS.box(h:RS Γ0 w0 rd Γ σ w):w.cell? ⟨Γ.β 0,0,none⟩=some (.string ⟨rd.1.toArray⟩)/\w.cell? ⟨Γ.β 0,1,none⟩=some (.int .i64 rd.2.1)/\w.cell? ⟨Γ.β 0,2,none⟩=some (.bool rd.2.2):=by
 obtain⟨vs,e,g,d,j⟩:=h.i.box 0 (qf RD rd) (by rw[h.bx];rfl);have f:=QA g;have c:∀(x:Value) (u:Value),Rep Γ (.v x) u->u=x := λ x u h=>by cases h;rfl
 refine⟨?_,?_,?_⟩<;>rw[f]
 ·obtain⟨u,a,b⟩:=d.get (i:=0) (x := .v (.string ⟨rd.1.toArray⟩)) rfl;rw[c _ _ b]at a;simpa using a
 ·obtain⟨u,a,b⟩:=d.get (i:=1) (x := .v (.int .i64 rd.2.1)) rfl;rw[c _ _ b]at a;simpa using a
 ·obtain⟨u,a,b⟩:=d.get (i:=2) (x := .v (.bool rd.2.2)) rfl;rw[c _ _ b]at a;simpa using a
theorem RS.grown{w':World}{c:Option Nat}(h:RS Γ0 w0 rd Γ σ w)(e:w.grownBy w' c)(d:∀ b,c=some b->qdO Γ b/\w0.heap.size<=b)(f:w.drawn<=w'.drawn):RS Γ0 w0 rd Γ σ w' :=
 let⟨a,b⟩:=qGN h.x h.i e d f;⟨a,b,h.bx⟩
theorem RS.set(h:RS Γ0 w0 rd Γ σ w){g:Nat}(a:qdO Γ g)(c:w0.heap.size<=g)(k:Nat)(u:Value):RS Γ0 w0 rd Γ σ (w.setCell ⟨g,k,none⟩ u) :=
 h.grown (qGj w g k u) (λ b e=>by cases e;exact⟨a,c⟩) (wa _)
theorem RS.put4(h:RS Γ0 w0 rd Γ σ w){b:Nat}(a:qdO Γ b)(c:w0.heap.size<=b)(g f e d:Value):RS Γ0 w0 rd Γ σ ((((w.setCell ⟨b,0,none⟩ g).setCell ⟨b,1,none⟩ f).setCell ⟨b,2,none⟩ e).setCell ⟨b,3,none⟩ d) :=
 (((h.set a c 0 g).set a c 1 f).set a c 2 e).set a c 3 d
theorem qAP:Rep Γ (.sl 4 [] 1) (.slice none 0 0) := .sl _ _ _ _ 0 0 0 0 (λ _ _=>undef) rfl (λ _=>wa _) (λ _=>rfl) (λ e h=>by cases h) (λ e h=>by cases h) (by decide) (.inl rfl) (λ i e j x h=>by cases h) (λ i e j x h=>by cases h)
theorem RS.alloc(h:RS Γ0 w0 rd Γ σ w)(o:Obj):RS Γ0 w0 rd Γ σ (w.alloc o) :=
 h.grown (World.grownBy_alloc w o none) (λ b e=>by cases e) (wa _)
theorem quw{f:FuncId}{F:Val RD->Option ((Val RD × Unit) × ((Int × List UInt8 × Int × List T × Int × Unit) × Unit))}(C:qV P f (sgP (qnE F))){b:Val RD}{nk sk lf:Int}{nm:List UInt8}{ks:List T}(A:F rd=some ((b,()),((nk,nm,sk,ks,lf,()),())))
  (h:RS Γ0 w0 rd Γ σ w):Calls P f #[.pointer (some ⟨Γ.β 0,0,none⟩)] w λ e w'=>∃ Γ' σ' o,e = .returned (.agg #[.int .i64 nk,.string ⟨nm.toArray⟩,.int .i64 sk,o,.int .i64 lf])/\Ext Γ w Γ' w'/\RS Γ0 w0 b Γ' σ' w' /\ σ'.rw = σ.rw++[⟨4,ks.map (qf .term),0,0,false⟩]/\Rep Γ' (.rs σ.rw.length 0 ks.length 0 false) o:=by
 have l : Γ.nb=1:=by rw[h.i.nb,h.bx];rfl
 have g:JW σ [.ptr 0 0] (sgP (qnE F))=some (.agg [.v (.int .i64 nk),.v (.string ⟨nm.toArray⟩),.v (.int .i64 sk),.rs σ.rw.length 0 ks.length 0 false,.v (.int .i64 lf)],some ⟨[qf RD b],σ.rw++[⟨4,ks.map (qf .term),0,0,false⟩],0 :: σ.wr,σ.wrr⟩):=by
  obtain⟨I,rw,c,a⟩ := σ;have m:I=[qf RD rd]:=h.bx;subst m;have B:yd RD ((qf RD rd).take (Ty.size RD))=some rd:=j9 RD rd
  have m:qih ⟨[qf RD rd],[],[],[]⟩ [.val RD] 0 0 (.ptr 0 0)=some ((rd,()),0):=by
   show(match yd RD ((qf RD rd).take (Ty.size RD))with
    | some v=>match qe5 ⟨[qf RD rd],[],[],[]⟩ [] 0 ((qf RD rd).drop (Ty.size RD))with
      | some (vs,n)=>some ((v,vs),n)
      | none=>none
    | none=>none)=_
   rw[B];rfl
  have s:dS ⟨[qf RD rd],[],[],[]⟩ (qnE F).args 0 0 [.ptr 0 0]=some (rd,()):=by
   show(match qih ⟨[qf RD rd],[],[],[]⟩ [.val RD] 0 0 (.ptr 0 0)with
    | some (v,k)=>match dS ⟨[qf RD rd],[],[],[]⟩ [] 1 k []with
      | some vs=>some (toB [.val RD] v,vs)
      | none=>none
    | none=>none)=_
   rw[m];rfl
  have z:sgP (qnE F) ⟨[qf RD rd],[],[],[]⟩ [.ptr 0 0]=some (.agg [.v (.int .i64 nk),.v (.string ⟨nm.toArray⟩),.v (.int .i64 sk),.rs 0 0 ks.length 0 false,.v (.int .i64 lf)],some ⟨[qf RD b],[⟨4,ks.map (qf .term),0,0,false⟩],[0],[]⟩):=by
   unfold sgP;rw[s];dsimp only;rw[A];rfl
  have q:qh3 ⟨[qf RD rd],rw,c,a⟩ [.ptr 0 0]=true:=rfl;have H:qK ⟨[qf RD rd],rw,c,a⟩ (QQ ⟨[qf RD rd],rw,c,a⟩ [.ptr 0 0]) (qca ⟨[qf RD rd],rw,c,a⟩ [.ptr 0 0])=⟨[qf RD rd],[],[],[]⟩:=rfl;unfold JW;rw[q]
  show(match sgP (qnE F) (qK ⟨[qf RD rd],rw,c,a⟩ (QQ ⟨[qf RD rd],rw,c,a⟩ [.ptr 0 0]) (qca ⟨[qf RD rd],rw,c,a⟩ [.ptr 0 0])) [.ptr 0 0]with
   | some r=>some (qhY ⟨[qf RD rd],rw,c,a⟩ [0] [] r)
   | none=>none)=_
  rw[H,z];rfl
 refine(qoi (λ Γ σ j r y d t=>C.2 Γ σ w j _ r y d t) h.i (waH (Rep.ptr 0 0 (by rw[l];exact wak)) .nil) g).mono ?_;rintro e w' ⟨v,Γ',rfl,p,E,D,O⟩;cases D with
 | agg _ us u G d =>
 match us,u with
 | [u0,u1,u2,u3,u4],_ =>
 have N:=d 0 _ _ rfl rfl;have M:=d 1 _ _ rfl rfl;have L:=d 2 _ _ rfl rfl;have K:=d 3 _ _ rfl rfl;have J:=d 4 _ _ rfl rfl;cases N;cases M;cases L;cases J;exact⟨Γ',_,u3,rfl,p,⟨h.x.trans p,E,rfl⟩,rfl,K⟩
theorem qAn(p:Inv Γ σ w){cs:List Value}{i:Nat}{t:T}{n:Int}{r:Nat}(h:qhU Γ σ cs i t n r) :
  ∃ a σ1 d,σ1.bx = σ.bx/\(∀ b,b≠r -> σ1.rw[b]? = σ.rw[b]?)/\Ext Γ w a w/\Inv a σ1 w/\cs[i*5+3]?=some d/\Rep a (.sl 4 (t.kids.map (qf .term)) 1) d/\d.oneCell'=true:=by
 obtain⟨R,d,j,B,E,D,s,q,I,H,G,C,F⟩:=h;obtain⟨m,l,v,u⟩:=quM p j σ.wrr;refine⟨_,{ σ with rw := σ.rw.modify r qkK,wrr := σ.wrr },d,rfl,λ b z=>?_,qjJ l w,v,C,?_,q.one rfl⟩
 ·show(σ.rw.modify r qkK)[b]?=_;rw[List.getElem?_modify];cases σ.rw[b]? with
  | none=>rfl
  | some x=>exact congrArg some (if_neg (λ e=>z (Eq.symm e)))
 ·have:=qjU p l.le (y := .rs r 0 t.kids.length R.ver false) (λ b f R' g=>by
    simp only[rsC,wF]at f;subst f;rw[j]at g;cases g;exact u) q
  have o:R.c.length=t.kids.length:=by rw[s,wC]
  have A:zh σ.rw (.rs r 0 t.kids.length R.ver false) = .sl 4 (t.kids.map (qf .term)) 1:=by
   simp only[zh,j]
   have:qlC R R.k 0 t.kids.length R.ver=some (t.kids.map (qf .term)):=by
    unfold qlC;rw[if_pos ⟨rfl,rfl,by omega⟩,wO,kE (by omega),s]
   rw[this,B]
  rw[A]at this;exact this
theorem qgv{t:T}{a:Value}(h:Rep Γ (.sl 4 (t.kids.map (qf .term)) 1) a):RepL Γ (qf .term t) [.int .i64 t.kind,.string ⟨t.name.toArray⟩,.int .i64 t.sort,a]:=by
 have b:qf .term t=[.v (.int .i64 t.kind),.v (.string ⟨t.name.toArray⟩),.v (.int .i64 t.sort),.sl 4 (t.kids.map (qf .term)) 1]:=by
  obtain⟨k,n,s,l⟩:=t;show JI _=_;rw[JI,qkn];rfl
 rw[b];exact waH (.v _ rfl) (waH (.v _ rfl) (waH (.v _ rfl) (waH h .nil)))
theorem qnZ{k s:Int}{b:ByteArray}{a:Value}(h:a.oneCell'=true):∀ u∈([.int .i64 k,.string b,.int .i64 s,a]:List Value),u.oneCell'=true:=by
 intro u c;simp only[wy,xq,or_false]at c;rcases c with rfl | rfl | rfl | rfl<;>first | rfl | exact h
theorem qIp(n:Inv Γ σ w){t:T}{b:Value}(h:Rep Γ (.sl 4 (t.kids.map (qf .term)) 1) b)(e:TypeId) :
  ∃ Γ',Ext Γ w Γ' (w.alloc (.cells #[.int .i64 t.kind,.string ⟨t.name.toArray⟩,.int .i64 t.sort,b] e))/\Inv Γ' σ (w.alloc (.cells #[.int .i64 t.kind,.string ⟨t.name.toArray⟩,.int .i64 t.sort,b] e))/\Rep Γ' (.sl (Ty.size .term) [qf .term t] 2) (.slice (some ⟨w.heap.size,0,none⟩) 1 1):=by
 obtain⟨Γ',g,l,k⟩:=qwN n (vs:=[.int .i64 t.kind,.string ⟨t.name.toArray⟩,.int .i64 t.sort,b]) (qnZ (h.one rfl)) e;refine⟨Γ',g,l,.sl _ _ _ _ 1 1 w.heap.size 0 (λ _ j=>([.int .i64 t.kind,.string ⟨t.name.toArray⟩,.int .i64 t.sort,b]:List Value).getD j undef) rfl (λ _=>wa _) (λ _=>rfl) ?_ ?_ (by decide) (.inr rfl) ?_ ?_⟩
 ·intro e f;rw[wF.1 f];exact jq .term t
 ·intro e f;rw[wF.1 f];exact zm .term t
 ·intro i e j x a d;cases i with
  | succ i=>cases a
  | zero =>
    cases a;obtain⟨u,c,_⟩:=(qgv h).get d;rw[wH,kQ,wH,k j u c,List.getD_eq_getElem?_getD,c];rfl
 ·intro i e j x a d;cases i with
  | succ i=>cases a
  | zero =>
    cases a;obtain⟨u,c,m⟩:=(qgv h).get d;rw[List.getD_eq_getElem?_getD,c];exact m.mono g.le
theorem qCL{B N:Nat}{f:List (T × Int)}{a:List Nat}{g cap:Nat}{cs:List Value}(h:RS Γ0 w0 rd Γ σ w)(j:Stk B N Γ σ w f a g cap cs){q:Nat}{x:T}{n:Int}(m:f[q]?=some (x,n)) :
  ∃ Γ' σ' c,cs[q*5+3]?=some c/\RS Γ0 w0 rd Γ' σ' w/\Stk B N Γ' σ' w (f.take q) (a.take q) g cap (cs.take (q*5))/\Rep Γ' (.sl 4 (x.kids.map (qf .term)) 1) c/\Ext Γ w Γ' w:=by
 obtain⟨A,k,z⟩:=j.at m;obtain⟨d,σ1,c,y,v,l,u,t,s,C⟩:=qAn h.i z;refine⟨d,σ1,c,t,⟨h.x.trans l,u,y.trans h.bx⟩,(j.shrink (xx (getElem?_lt m))).later l λ r o R p=>?_,s,l⟩;rw[v r λ e=>?_];exact p;subst e;obtain⟨i,b⟩:=vJ.1 o;rw[List.getElem?_take]at b;split at b<;>try cases b
 have:=(List.getElem?_inj (getElem?_lt b) j.nd).1 (b.trans k.symm);omega
theorem qDo{B N:Nat}{A:List (T × Int)}{f:List Nat}{g cap:Nat}{cs:List Value}{z V:TypeId}(hT:qmC P .term z V 56)(h:RS Γ0 w0 rd Γ σ w)(o:Stk B N Γ σ w A f g cap cs)(hB:w0.heap.size<=B){q:Nat}{t x:T}{n:Int}{J:Value}(E:A[q]?=some (t,n))(X:Rep Γ (.sl 4 (x.kids.map (qf .term)) 1) J)(l:zF (t.kids.length+1) 56=true)(e ty:TypeId) :
  ∃ p a,cs[q*5+3]?=some p/\f[q]?=some a/\(∃ C D,p = .slice C t.kids.length D) /\
  ∃ d w',(Builtin.append_ #[z,z] ty #[p,.slice (some ⟨w.heap.size,0,none⟩) 1 1]).run P (w.alloc (.cells #[.int .i64 x.kind,.string ⟨x.name.toArray⟩,.int .i64 x.sort,J] e)) = .ok d w'/\(∃ C D,d = .slice C (t.kids.length+1) D) /\
  ∃ Γ' σ',Ext Γ w Γ' w'/\RS Γ0 w0 rd Γ' σ' (w'.setCell ⟨g,q*5+3,none⟩ d)/\Stk B N Γ' σ' (w'.setCell ⟨g,q*5+3,none⟩ d) (A.take q++[(.mk t.kind t.name t.sort (t.kids++[x]),n)]) (f.take (q+1)) g cap ((cs.set (q*5+3) d).take ((q+1)*5)):=by
 obtain⟨U,S,c2,c3⟩:=qIp h.i X e;obtain⟨a,j,Nq⟩:=o.at E;obtain⟨R,p,e1,Q,O,e4,M,L,f0,f1,f2,f3,f4⟩:=Nq;have v:R.c.length=t.kids.length:=by rw[M,wC]
 have r:=of_decide_eq_true l
 have y:z8 (Ty.size .term) 56 σ (.rs a 0 t.kids.length R.ver false) [qf .term x]=some (.rs a 0 (t.kids.length+1) (R.ver+1) false,some { σ with rw := σ.rw.set a { R with c:=R.c++[qf .term x],ver:=R.ver+1 },wrr:=a :: σ.wrr }):=by
  have m:R.k=Ty.size .term/\R.ver=R.ver/\t.kids.length=R.c.length/\(0:Nat)=0/\false=false/\R.fz<=R.c.length/\(t.kids.length+[qf .term x].length)*56<=2 ^ 47/\t.kids.length+[qf .term x].length<2 ^ 62 :=
   ⟨Q,rfl,v.symm,rfl,rfl,by rw[O];exact we _,r.1,r.2⟩
  have G:qqW R (Ty.size .term) 0 t.kids.length R.ver false 56 [qf .term x]=some ({ R with c:=R.c++[qf .term x],ver:=R.ver+1 },t.kids.length+1):=if_pos m;have u:zd (qak [qf .term x]) 0=false:=rfl;simp only[z8,u,e1,G]
 obtain⟨d,w',Γ',g1,g2,g3,K⟩:=qpJ hT c2 (L.mono S.le) c3 (by intro q' hq';rw[wF.1 hq'];exact jq .term x) (by intro q' hq';rw[wF.1 hq'];exact zm .term x) y ty;have b:=S.trans g2;have F:=(o.priv.ext b (qb9 o.own).2).1;have Z:=(qb9 o.own).1;refine⟨p,a,f3,j,(by cases L;exact⟨_,_,rfl⟩),d,w',g1,(by cases K;exact⟨_,_,rfl⟩),Γ',_,b,RS.set ⟨h.x.trans b,g3,h.bx⟩ F (by omega) _ _,o.kid b (getElem?_lt E) E j x (λ i I hi s R' H=>?_) (R:={ R with c:=R.c++[qf .term x],ver:=R.ver+1 }) ?_ Q O e4 (by show R.c++_=_;rw[M,wT];rfl) K⟩
 ·have Y:=getElem?_lt s
  have W:I≠a := λ e=>by
   have:=(List.getElem?_inj Y o.nd).1 (s.trans (e▸j.symm));omega
  show(σ.rw.set a _)[I]?=_;rw[List.getElem?_set_ne (λ e=>W e.symm)];exact H
 ·show(σ.rw.set a _)[a]?=_;rw[List.getElem?_set_self (getElem?_lt e1)]
theorem qz7{vs:Array Value}{a:Nat}{f e c b:Value}(j:a+4<=vs.size)(off:Nat):((((vs.setIfInBounds a f).setIfInBounds (a+1) e).setIfInBounds (a+2) c).setIfInBounds (a+3) b)[off]?=if off<a then vs[off]? else if off<a+4 then([f,e,c,b]:List Value)[off-a]? else vs[off]?:=by
 simp only[Array.getElem?_setIfInBounds,xK];by_cases h:off<a
 ·rw[if_pos h,if_neg (by omega),if_neg (by omega),if_neg (by omega),if_neg (by omega)]
 ·rw[if_neg h];by_cases g:off<a+4
  ·rw[if_pos g];obtain⟨d,rfl⟩:∃ d,off=a+d:=⟨off-a,by omega⟩
   rw[show a+d-a=d by omega];have i:d<4:=by omega
   match d,i with
   | 0,_=>rw[if_neg (by omega),if_neg (by omega),if_neg (by omega),if_pos (by omega),if_pos (by omega)];rfl
   | 1,_=>rw[if_neg (by omega),if_neg (by omega),if_pos (by omega),if_pos (by omega)];rfl
   | 2,_=>rw[if_neg (by omega),if_pos (by omega),if_pos (by omega)];rfl
   | 3,_=>rw[if_pos (by omega),if_pos (by omega)];rfl
  ·rw[if_neg g,if_neg (by omega),if_neg (by omega),if_neg (by omega),if_neg (by omega)]
theorem qKe{B N:Nat}{O:List (T × Int)}{s:List Nat}{g cap:Nat}{cs:List Value}(h:RS Γ0 w0 rd Γ σ w)(f:Stk B N Γ σ w O s g cap cs){q:Nat}{t x z:T}{ks:List T}{n:Int}{o:Value}(hq:O[q]?=some (t,n))(K:t.kids=ks++[z])(hx:Rep Γ (.sl 4 (x.kids.map (qf .term)) 1) o) :
  ∃ b m,cs[q*5+3]?=some (.slice (some ⟨b,0,none⟩) (ks.length+1) m)/\b≠g/\Qt Γ b/\(∀ j,j<4->∃ u,w.cell? ⟨b,ks.length*4+j,none⟩=some u)/\(∀ j,w.frozen? ⟨b,j,none⟩=false) /\
  ∃ Γ' σ',Ext Γ w Γ' ((((w.setCell ⟨b,ks.length*4,none⟩ (.int .i64 x.kind)).setCell ⟨b,ks.length*4+1,none⟩ (.string ⟨x.name.toArray⟩)).setCell ⟨b,ks.length*4+2,none⟩ (.int .i64 x.sort)).setCell ⟨b,ks.length*4+3,none⟩ o) /\
   RS Γ0 w0 rd Γ' σ' ((((w.setCell ⟨b,ks.length*4,none⟩ (.int .i64 x.kind)).setCell ⟨b,ks.length*4+1,none⟩ (.string ⟨x.name.toArray⟩)).setCell ⟨b,ks.length*4+2,none⟩ (.int .i64 x.sort)).setCell ⟨b,ks.length*4+3,none⟩ o) /\
   Stk B N Γ' σ' ((((w.setCell ⟨b,ks.length*4,none⟩ (.int .i64 x.kind)).setCell ⟨b,ks.length*4+1,none⟩ (.string ⟨x.name.toArray⟩)).setCell ⟨b,ks.length*4+2,none⟩ (.int .i64 x.sort)).setCell ⟨b,ks.length*4+3,none⟩ o) (O.set q (.mk t.kind t.name t.sort (ks++[x]),n)) s g cap cs:=by
 obtain⟨r,hr,R,ku,e1,J,e3,e4,e5,e6,f0,f1,f2,f3,f4⟩:=f.at hq;have H:=h.i.row r R e1;have D:R.c.length=ks.length+1:=by rw[e5,K];simp
 have V:t.kids.length=ks.length+1:=by rw[K];simp
 rw[V]at e6;have G:R.c[ks.length]?=some (qf .term z):=by rw[e5,K];simp
 have hz:=H.real G;have C:=H.off e4
 obtain⟨b,m,rfl,hb⟩:∃ b m,ku = .slice (some ⟨b,0,none⟩) (ks.length+1) m/\b = Γ.cur r:=by
  cases e6 with
  | rs _ _ _ _ _ a m v Q hc hf hl =>
    obtain⟨I,h2⟩:=hl (H.ver (by rw[e3];exact we _)).symm;rcases I with I | I
    ·omega
    ·rw[C,kQ,wH]at I;exact⟨_,m,by rw[I],rfl⟩
 subst hb;have v:r < Γ.nr:=by rw[h.i.nr];exact getElem?_lt e1
 have A:Qt Γ (Γ.cur r) := .inr ⟨r,v,hz,rfl⟩;have Y : Γ.cur r≠g := λ e=>f.priv.own (e▸A);obtain⟨vs,e,fr,M,c2,c3,c4⟩:=H.blk hz;have X:fr=(0,0):=c4 (by omega);subst X;have F:=H.fit;rw[C,D,J,<- c2]at F;have s1:=heap_setCell_same w (Γ.cur r) (ks.length*4) vs e (.int .i64 x.kind) M;have s2:=heap_setCell_same _ (Γ.cur r) (ks.length*4+1) _ e (.string ⟨x.name.toArray⟩) s1;have s3:=heap_setCell_same _ (Γ.cur r) (ks.length*4+2) _ e (.int .i64 x.sort) s2;have s4:=heap_setCell_same _ (Γ.cur r) (ks.length*4+3) _ e o s3
 have l:∀ k,k ≠ Γ.cur r->((((w.setCell ⟨Γ.cur r,ks.length*4,none⟩ (.int .i64 x.kind)).setCell ⟨Γ.cur r,ks.length*4+1,none⟩ (.string ⟨x.name.toArray⟩)).setCell ⟨Γ.cur r,ks.length*4+2,none⟩ (.int .i64 x.sort)).setCell ⟨Γ.cur r,ks.length*4+3,none⟩ o).heap[k]?=w.heap[k]? := λ k L=>by
  rw[Below.heap_setCell _ _ _ _ L,Below.heap_setCell _ _ _ _ L,Below.heap_setCell _ _ _ _ L,Below.heap_setCell _ _ _ _ L]
 obtain⟨Γ',p,z2⟩:=qpD h.i e1 G (by rw[e3];exact we _) e4 (e1:=qf .term x) ((jq .term x).trans J.symm) (zm .term x) (λ vs' e' ab Q=>by
   rw[M]at Q;cases Q;refine⟨s4,by simp,λ off ho=>?_⟩;rw[J]at ho;rw[qz7 (by omega)];split
   ·rfl
   ·rw[if_neg (by omega)])
  (λ j y W=>by
   have aa:j<4:=by have:=getElem?_lt W;rwa [jq .term x]at this
   obtain⟨u,hu,S⟩:=(qgv hx).get W;refine⟨u,?_,S,qnZ (hx.one rfl) u (wb hu)⟩;rw[J,qz7 (by omega),if_neg (by omega),if_pos (by omega),show ks.length*4+j-ks.length*4=j by omega];exact hu) l rfl rfl rfl (by simp) (wa _) σ.wrr
 refine⟨Γ.cur r,m,f3,Y,A,λ j W=>⟨vs[ks.length*4+j]'(by omega),?_⟩,λ j=>frozen_of_row w _ j _ _ M,Γ',_,p,⟨h.x.trans p,z2,h.bx⟩,?_⟩
 ·rw[QA M,Array.getElem?_eq_getElem]
 ·obtain⟨p1,p2⟩:=f.priv.ext p (qb9 f.own).2;refine⟨by rw[wI];exact f.len,f.nd,p1,by rw[wI];exact qkD f.own p2,λ i t' n' P E d=>?_⟩;rw[List.getElem?_set]at E;split at E
  ·rename_i e;subst e;rw[if_pos (getElem?_lt hq)]at E;cases E;rw[hr]at d;cases d;refine⟨{ R with c:=R.c.set ks.length (qf .term x) },_,List.getElem?_set_self (getElem?_lt e1),J,e3,e4,?_,?_,f0,f1,f2,f3,f4⟩
   ·show R.c.set ks.length (qf .term x)=(ks++[x]).map (qf .term);rw[e5,K,wT,wT];simp
   ·have:=e6.mono p.le;show Rep Γ' (.rs r 0 (ks++[x]).length R.ver false) _;rw[wc];exact this
  ·rename_i e;refine(f.node i t' n' P E d).later p.le λ R' Z=>?_
   have U:P≠r := λ e'=>by
    have:=(List.getElem?_inj (getElem?_lt d) f.nd).1 (d.trans (e'▸hr.symm));omega
   show(σ.rw.set r _)[P]?=_;rw[List.getElem?_set_ne (λ e=>U e.symm)];exact Z
end
end Go.AmZ
namespace Go.AmZ
open Go Go.RowKit Go.GxZ
theorem qmP{P:Program}{o:Oper}{a:Act}{w:World}{K:Act->World->Prop}{Q:Exit->Act->World->Prop}(s x:Operand)(t:TypeId)(c:o.op=Op.call { callee:=Callee.builtin Builtin.append,args := #[s,x],argTypes := #[t,t] }){v d e:Value}{w':World}(g:a.eval s=v)(f:a.eval x=d)
  (b:(Builtin.append_ #[t,t] o.type #[v,d]).run P w = .ok e w') (h:K (a.put o.dst e) w'):Oper.wp P o a w K Q:=by
 unfold Oper.wp;simp[execOp,c,resolve,invoke,builtin,g,f,b,Result.andThen];exact h
theorem qm4{P:Program}{ops:Array Oper}{o:Oper}{a:Act}{w:World}{K:Act->World->Prop}{Q:Exit->Act->World->Prop}{E:Prop}(h:o.guard=none)(s x:Operand)(t:TypeId)(c:o.op=Op.call { callee:=Callee.builtin Builtin.append,args := #[s,x],argTypes := #[t,t] }){v d e:Value}{w':World}(g:a.eval s=v)(f:a.eval x=d)
  (b:(Builtin.append_ #[t,t] o.type #[v,d]).run P w = .ok e w') (i:K (a.put o.dst e) w'):if Region.wanted o (yielded ops a.tmps)=true then Oper.wp P o a w K Q else E:=by
 rw[if_pos (by simp[Region.wanted,h])];exact qmP s x t c g f b i
theorem qv9{P:Program}{ops:Array Oper}{b:List Oper}{o:Oper}{a:Act}{w:World}{Q:Exit->Act->World->Prop}(s x:Operand)(t:TypeId)(j:o.guard=none)(d:o.op=Op.call { callee:=Callee.builtin Builtin.append,args := #[s,x],argTypes := #[t,t] }){v e f:Value}{w':World}(i:a.eval s=v)(g:a.eval x=e)
  (c:(Builtin.append_ #[t,t] o.type #[v,e]).run P w = .ok f w') (k:wpList P ops Q b (a.put o.dst f) w'):wpList P ops Q (o::b) a w:=by
 have h:Region.wanted o (yielded ops a.tmps)=true:=by simp[Region.wanted,j]
 unfold wpList;rw[if_pos h];exact .inl (qmP s x t d i g c k)
abbrev qje:=(Val RD × Unit) × ((Int × List UInt8 × Int × List T × Int × Unit) × Unit)
def qd4(F:Val RD->Option qje)(rd:Val RD):Option (Val RD × (Int × List UInt8 × Int × Int)):=match F rd with
 | some (r,v)=>match v.1.2.2.2.1 with
   | []=>some (r.1,v.1.1,v.1.2.1,v.1.2.2.1,v.1.2.2.2.2.1)
   | _::_=>none
 | none=>none
def qlT(F:Val RD->Option qje)(c:List (T × Int)->Val RD->Option ((Val RD × Unit) × (T × Unit)))(b:List (T × Int))(rd:Val RD):Option ((Val RD × Unit) × (T × Unit)) :=
 cond rd.2.2 (some ((rd,()),(T.mk 0 [] 0 [],()))) (qa b[b.length-1]? λ a=>cond (ilt 0 a.2)
  (cond (zF (b.length+1) 64) (qa (qd4 F rd) λ h=>c (b.set (b.length-1) (a.1,iw .i64 (zO a.2 1))++[(T.mk h.2.1 h.2.2.1 h.2.2.2.1 [],h.2.2.2.2)]) h.1) none)
  (cond (Nat.beq b.length 1) (some ((rd,()),(a.1,()))) (qa b[b.length-2]? λ p=>cond (zF (p.1.kids.length+1) 56) (c (b.take (b.length-2)++[(T.mk p.1.kind p.1.name p.1.sort (p.1.kids++[a.1]),p.2)]) rd) none)))
def qjb(F:Val RD->Option qje):Nat->List (T × Int)->Val RD->Option ((Val RD × Unit) × (T × Unit)):=zb (λ _ _=>none) (qlT F)
def qn0(F:Val RD->Option qje)(k:Nat)(rd:Val RD):Option ((Val RD × Unit) × (T × Unit)):=qa (qd4 F rd) λ h=>qjb F k [(T.mk h.2.1 h.2.2.1 h.2.2.2.1 [],h.2.2.2.2)] h.1
theorem qrq{F:Val RD->Option qje}{rd f:Val RD}{nk sk lf:Int}{nm:List UInt8}(h:qd4 F rd=some (f,nk,nm,sk,lf)):F rd=some ((f,()),((nk,nm,sk,[],lf,()),())):=by
 unfold qd4 at h;split at h<;>try cases h
 rename_i r v i;split at h<;>cases h;rename_i g;obtain⟨⟨a,b,c,d,e,_⟩,_⟩:=v;obtain⟨r,_⟩:=r;have g:d=[]:=g;subst g;exact i
theorem qEg{F:Val RD->Option qje}{g:List (T × Int)->Val RD->Option ((Val RD × Unit) × (T × Unit))}{c:List (T × Int)}{rd:Val RD}{r:(Val RD × Unit) × (T × Unit)}(h:qlT F g c rd=some r) :
  (rd.2.2=true/\r=((rd,()),(T.mk 0 [] 0 [],())))\/rd.2.2=false/\∃ p b lt,c.length=p+1/\c[p]?=some (b,lt) /\
   ((0<lt/\zF (p+2) 64=true/\∃ d nk nm sk lf,F rd=some ((d,()),((nk,nm,sk,[],lf,()),()))/\g (c.set p (b,iw .i64 (zO lt 1))++[(T.mk nk nm sk [],lf)]) d=some r) \/
    ¬ 0<lt/\((p=0/\r=((rd,()),(b,())))\/∃ q a n,p=q+1/\c[q]?=some (a,n)/\zF (a.kids.length+1) 56=true/\g (c.take q++[(T.mk a.kind a.name a.sort (a.kids++[b]),n)]) rd=some r)):=by
 unfold qlT at h;cases m:rd.2.2 with
 | true=>rw[m]at h;exact .inl ⟨rfl,(kM h).symm⟩
 | false =>
   rw[m]at h;refine .inr ⟨rfl,?_⟩;cases e:c[c.length-1]? with
   | none=>rw[e]at h;cases h
   | some x =>
     obtain⟨b,lt⟩:=x;have o:=getElem?_lt e;obtain⟨p,s⟩:∃ p,c.length=p+1:=⟨c.length-1,by omega⟩
     rw[s]at h e;simp only[xQ]at h e;rw[e]at h;refine⟨p,b,lt,s,e,?_⟩;have h:cond (ilt 0 lt) _ _=some r:=h;cases i:ilt 0 lt with
     | true =>
       rw[i]at h;have h:cond (zF (p+1+1) 64) (qa (qd4 F rd) _) none=some r:=h;cases f:zF (p+1+1) 64 with
       | false=>rw[f]at h;cases h
       | true =>
         rw[f]at h;refine .inl ⟨of_decide_eq_true i,rfl,?_⟩;have h:qa (qd4 F rd) _=some r:=h;cases l:qd4 F rd with
         | none=>rw[l]at h;cases h
         | some y =>
           obtain⟨d,nk,nm,sk,lf⟩:=y;rw[l]at h;exact⟨d,nk,nm,sk,lf,qrq l,h⟩
     | false =>
       rw[i]at h;refine .inr ⟨of_decide_eq_false i,?_⟩;have h:cond (Nat.beq (p+1) 1) (some ((rd,()),(b,()))) _=some r:=h;cases j:Nat.beq (p+1) 1 with
       | true =>
         rw[j]at h;exact .inl ⟨by have:=wk j;omega,(kM h).symm⟩
       | false =>
         rw[j]at h;obtain⟨q,rfl⟩:∃ q,p=q+1:=⟨p-1,by cases p with | zero=>cases j | succ q=>rfl⟩
         have h:qa c[q+1+1-2]? _=some r:=h;rw[show q+1+1-2=q by omega]at h;cases k:c[q]? with
         | none=>rw[k]at h;cases h
         | some y =>
           obtain⟨a,n⟩:=y;rw[k]at h;have h:cond (zF (a.kids.length+1) 56) (g (c.take (q+1+1-2)++_) rd) none=some r:=h;rw[show q+1+1-2=q by omega]at h;cases f:zF (a.kids.length+1) 56 with
           | false=>rw[f]at h;cases h
           | true=>rw[f]at h;exact .inr ⟨q,a,n,rfl,k,f,h⟩
theorem qw0{Γ Γ':Gh}(q:∀ b o u,Γ.mem b o=some u -> Γ'.mem b o=some u){x:AV}{u:Value}(h:Rep Γ x u):qx x=true->Rep Γ' x u:=by
 induction h with
 | v x h=>exact λ _ => .v x h
 | sl k es f a n cap b o us p t s r l y w g z m =>
   exact λ _ => .sl k es f a n cap b o us p t s r l y w (λ i e j x d c=>q _ _ _ (g i e j x d c)) (λ i e j x d c=>m i e j x d c (l e (wb d) x (wb c)))
 | _=>intro h;cases h
section
variable {P:Program} {Γ0 Γ : Gh} {σ0 σ : St} {w0 w:World} {rd:Val RD}
theorem qF6(G:Inv Γ0 σ0 w0)(p : σ0.bx.length=1)(c : σ0.rw=[])(h:RS Γ0 w0 rd Γ σ w){t:T}{us:List Value}(s:RepL Γ (qf .term t) us)(F:∀ u∈us,u.oneCell'=true) :
  ∃ v Γ',(Ending.returned (.agg us.toArray):Ending) = .returned v/\Ext Γ0 w0 Γ' w/\Inv Γ' (turn σ0 (some ⟨[qf RD rd],[],List.range σ0.bx.length,List.range σ0.rw.length⟩)) w/\Rep Γ' (yG .term t) v/\qS { σ0 with wr:=[],wrr:=[] } (turn { σ0 with wr:=[],wrr:=[] } (some ⟨[qf RD rd],[],List.range σ0.bx.length,List.range σ0.rw.length⟩)):=by
 obtain⟨q,g,C,r⟩ := σ0;have c:g=[]:=c;subst c;obtain⟨y,rfl⟩:∃ y,q=[y]:=xR.1 p
 obtain⟨m,B,H,A,z⟩:=qo2 G h.x h.i (by rw[h.bx];exact wa _) [qf RD rd] [] rfl (by simp) kU [] [] (λ i cs d=>by
  cases i with
  | succ i=>cases d
  | zero =>
    cases d;refine⟨qf RD rd,by rw[h.bx];rfl,λ m n _ us f=>⟨f.len,λ j x u e k=>qw0 (Γ := Γ) (Γ':=yL Γ m 1 [] 0 []) (λ b o u l=>n.le.mem b o u l) (f.rep j x u e k) (zm RD rd x (wb e))⟩⟩) (λ a so R h=>by cases h) (λ a b j R R' h=>by cases h) [0] []
 refine⟨_,_,rfl,A,z,.agg _ us s.len F λ i x u e f=>qw0 (Γ := Γ) (Γ':=yL Γ m 1 [] 0 []) (λ b o u n=>B.le.mem b o u n) (s.rep i x u e f) (zm .term t x (wb e)),wa _,wa _,λ i d E=>?_,λ i d _=>absurd d (wL _),λ i h=>(by cases h),λ i h=>(by cases h)⟩;have:i=0:=by have:i<1:=d;omega
 exact absurd (by rw[this];exact wF.2 rfl) E
theorem qGY{B N:Nat}{m:List (T × Int)}{c:List Nat}{g cap:Nat}{cs:List Value}{q:TypeId}{i:TypeInfo}{z:Value}(J:P.underlying q=some (.slice N))(M:P.info? N=some i)(I:i.zero=some z)(x:i.size=5)(F:i.bytes=64)(v:z.cells.size=5)
  (h:RS Γ0 w0 rd Γ σ w) (s:Stk B N Γ σ w m c g cap cs) (Y:w0.heap.size<=B) {nk sk lf:Int} {nm:List UInt8} {n:Value} {r:Nat} (U : σ.rw[r]?=some ⟨4,[],0,0,false⟩) (o:Rep Γ (.rs r 0 0 0 false) n) (K:r ∉ c) (d:zF (m.length+1) 64=true) (ty:TypeId) :
  ∃ t w',(Builtin.append_ #[q,q] ty #[.slice (some ⟨g,0,none⟩) m.length cap,.slice (some ⟨w.heap.size,0,none⟩) 1 1]).run P (w.alloc (.cells #[.int .i64 nk,.string ⟨nm.toArray⟩,.int .i64 sk,n,.int .i64 lf] N)) = .ok t w' /\
  ∃ l a,t = .slice (some ⟨l,0,none⟩) ((m.length+1:Nat)) a/\RS Γ0 w0 rd Γ σ w'/\Stk B N Γ σ w' (m++[(.mk nk nm sk [],lf)]) (c++[r]) l a (cs++[.int .i64 nk,.string ⟨nm.toArray⟩,.int .i64 sk,n,.int .i64 lf]) /\
   w.heap.size<=w'.heap.size/\(∀ b,b<w.heap.size->b≠g->w'.heap[b]?=w.heap[b]?)/\(l=g\/w.heap.size<=l):=by
 have S:=s.own.alloc (.cells #[.int .i64 nk,.string ⟨nm.toArray⟩,.int .i64 sk,n,.int .i64 lf] N);have A:=of_decide_eq_true d;have V:=qb9 s.own
 obtain⟨t,w',e1,X,p,H⟩:=qkT (P:=P) (w.alloc (.cells #[.int .i64 nk,.string ⟨nm.toArray⟩,.int .i64 sk,n,.int .i64 lf] N)) B q ty N i z 5 64 J M I x F v (by decide) _ m.length cs S ⟨w.heap.size,0,none⟩ 1 1 [.int .i64 nk,.string ⟨nm.toArray⟩,.int .i64 sk,n,.int .i64 lf] rfl
  (λ j u L=>by rw[qAq,World.cell?_alloc_mark];simpa using L) (λ u G=>by
   simp only[wy,xq,or_false]at G;rcases G with rfl | rfl | rfl | rfl | rfl<;>first | rfl | exact o.one rfl) (by unfold maxLen;omega) (by have:=A.1;omega) (by simp;omega)
 have E:=GxZ.run_drawn _ e1;have f:w.grownBy w' (some g):=⟨p.os,p.tape,p.output,by have:=p.size;simp at this;omega,λ k D C=>(p.block k (by simp;omega) C).trans (Below.heap_alloc _ _ _ D)⟩
 have W:=RS.grown h f (λ b e=>by cases e;exact⟨s.priv,by omega⟩) E;obtain⟨l,a,rfl,y⟩:=Stk.push (Γ := Γ) (σ := σ) s (r:=r) (R:=⟨4,[],0,0,false⟩) U rfl rfl rfl rfl o K X (H.imp id λ O k D=>qdO.new h.i (by have:=O k D;simp at this;omega));refine⟨_,w',e1,l,a,rfl,W,y,f.size,λ b Q C=>f.block b Q (λ e=>C (by cases e;rfl)),?_⟩;rcases H with e | e
 ·cases e;exact .inl rfl
 ·have:=e l rfl;simp at this;exact .inr (by omega)
theorem qKp{B N:Nat}(h:RS Γ0 w0 rd Γ σ w)(f:B<=w.heap.size){nk sk lf:Int}{nm:List UInt8}{a:Value}{r:Nat}(e : σ.rw[r]?=some ⟨4,[],0,0,false⟩)(c:Rep Γ (.rs r 0 0 0 false) a) :
  RS Γ0 w0 rd Γ σ (w.alloc (.cells #[.int .i64 nk,.string ⟨nm.toArray⟩,.int .i64 sk,a,.int .i64 lf] N))/\Stk B N Γ σ (w.alloc (.cells #[.int .i64 nk,.string ⟨nm.toArray⟩,.int .i64 sk,a,.int .i64 lf] N)) [(.mk nk nm sk [],lf)] [r] w.heap.size 1 [.int .i64 nk,.string ⟨nm.toArray⟩,.int .i64 sk,a,.int .i64 lf]:=by
 refine⟨h.alloc _,rfl,by simp,qdO.new h.i (wa _),World.ownsRow_lit w #[.int .i64 nk,.string ⟨nm.toArray⟩,.int .i64 sk,a,.int .i64 lf] 1 f (by decide) rfl,λ i t n g d b=>?_⟩;cases i with
 | succ i=>cases d
 | zero =>
   cases d;cases b;exact⟨_,a,e,rfl,rfl,rfl,rfl,c,rfl,rfl,rfl,rfl,rfl⟩
theorem Stk.id_lt{B N:Nat}{b:List (T × Int)}{a:List Nat}{g cap:Nat}{cs:List Value}(c:Stk B N Γ σ w b a g cap cs) : σ.rw.length ∉ a := λ h=>by
 obtain⟨i,d⟩:=vJ.1 h;have e:i<b.length:=by rw[<- c.len];exact getElem?_lt d
 obtain⟨R,_,f,_⟩:=c.node i _ _ _ (List.getElem?_eq_getElem e) d;exact absurd (getElem?_lt f) (xN _)
def qcr(Γ : Gh)(w:World)(b:Nat)(e:TypeId):Prop:=qdO Γ b/\b<w.heap.size/\w.heap[b]?=some (.cells #[.int .i64 0,.string ⟨#[]⟩,.int .i64 0,.slice none 0 0] e (0,0))
theorem qcr.cells{b:Nat}{e:TypeId}(h:qcr Γ w b e):w.cell? ⟨b,0,none⟩=some (.int .i64 0)/\w.cell? ⟨b,1,none⟩=some (.string ⟨#[]⟩)/\w.cell? ⟨b,2,none⟩=some (.int .i64 0)/\w.cell? ⟨b,3,none⟩=some (.slice none 0 0)/\∀ i,w.frozen? ⟨b,i,none⟩=false:=by
 obtain⟨_,_,h⟩:=h;have a:=QA h;exact⟨a 0,a 1,a 2,a 3,λ i=>frozen_of_row w b i _ _ h⟩
theorem qcr.ext{Γ':Gh}{w':World}{b:Nat}{e:TypeId}(h:qcr Γ w b e)(d:Ext Γ w Γ' w'):qcr Γ' w' b e :=
 let⟨a,c⟩:=h.1.ext d h.2.1;⟨a,wB h.2.1 d.size,c.trans h.2.2⟩
theorem qcr.same{w':World}{b:Nat}{e:TypeId}(h:qcr Γ w b e)(a:w.heap.size<=w'.heap.size)(c:w'.heap[b]?=w.heap[b]?):qcr Γ w' b e:=⟨h.1,wB h.2.1 a,c.trans h.2.2⟩
theorem Stk.drew{B N:Nat}{b:List (T × Int)}{a:List Nat}{g cap:Nat}{cs:List Value}(h:Stk B N Γ σ w b a g cap cs):Stk B N Γ σ w.drew b a g cap cs:=⟨h.len,h.nd,h.priv,qkD h.own rfl,h.node⟩
theorem qcr.drew{b:Nat}{e:TypeId}(h:qcr Γ w b e):qcr Γ w.drew b e:=h
theorem RS.drew'(h:RS Γ0 w0 rd Γ σ w):RS Γ0 w0 rd Γ σ w.drew:=h.drew
end
end Go.AmZ
namespace Go.AmZ
open Go Go.GxZ
set_option linter.unusedVariables false
set_option maxRecDepth 100000
noncomputable section
abbrev Z1:=Option ((Unit) × ((Option ((Int) × (List (Int × (Int × (Y8 × Bool)))) × Unit)) × (Int) × Unit))
abbrev Z2:=Option ((((Int) × (List (Int × (Int × (Y8 × Bool)))) × Unit) × Unit) × ((Bool) × Unit))
abbrev Z3:=(Int) × (List (Int × (Int × (Y8 × Bool)))) × Unit
abbrev Z4:=Option (Bool)
abbrev Z5:=Int->Z4
abbrev Z6:=List UInt8
abbrev Z7:=Z6->Int->Int->Z4
abbrev Z8:=Y8->Z4
abbrev Z9:=Option (((Int) × (Int) × Unit) × ((Int) × Unit))
abbrev Z10:=T->Int->Int->Int->Z9
abbrev Z11:=List (T)
abbrev Z12:=Int->Z11->Int->Int->Int->Int->Z9
abbrev Z13:=Option (Int)
abbrev Z14:=T->Z13
abbrev Z15:=Option (Y8 × (Int × (Int × Int)))
abbrev Z16:=List (Y8 × (Int × (Int × Int)))
abbrev Z17:=Z6->Z16->Int->Int->Z6->Int->Int->Int->Z15
abbrev Z18:=Z11->Int->Int->Int->Z6->Int->Z11->Z13
abbrev Z19:=Z11->Int->Int->Z13
abbrev Z20:=Option (((Int) × (List (T)) × Unit) × (Unit))
abbrev Z21:=T->Int->Z11->Z20
abbrev Z22:=Z11->Int->Int->Int->Z11->Z20
abbrev Z23:=Int->Z11->Int->Int->Z13
abbrev Z24:=T->T->Z13
abbrev Z25:=Int->Int->Int->Z6->Int->Z11->Int->Z6->Int->Z11->Z13
abbrev Z26:=T->T->Z4
abbrev Z27:=Option (T)
abbrev Z28:=T->Z27
abbrev Z29:=Z11->Int->Int->Int->Z6->Int->Int->Z6->Int->Z11->Z11->Z27
abbrev Z30:=Option ((Unit) × ((List (T)) × Unit))
abbrev Z31:=Int->Int->Z11->Z30
abbrev Z32:=Option (TL)
abbrev Z33:=T->Z32
abbrev Z34:=(List (TL))->Int->(List (TL))->Int->Int->Z32
abbrev Z35:=(List (TL))->Int->Int->Z11->Z32
abbrev Z36:=Z11->Z11->Z11->Z32
abbrev Z37:=Z11->Z11->Int->Int->Z32
abbrev Z38:=Option ((T) × (Int))
abbrev Z39:=(List (Int))->Int->Int->Int->Z6->Int->Z11->Int->Z6->Int->Int->Z6->Int->Z11->Z11->Z38
abbrev Z40:=TL->Z32
abbrev Z41:=Z11->Int->Int->Z11->Z32
abbrev Z42:=Z11->Z11->Int->Int->Int->Z6->Int->Z11->Z38
abbrev Z43:=T->Z4
abbrev Z44:=Int->Int->Int->Z6->Int->Int->Z6->Int->Z11->Z11->Z27
abbrev Z45:=Option ((Int) × (Bool))
abbrev Z46:=List (T × Int)
abbrev Z47:=Z46->Int->Int->Int->Int->Z6->Int->Z11->Z45
abbrev Z48:=Option ((Unit) × ((List (T × Int)) × Unit))
abbrev Z49:=Option ((Unit) × ((List (T × Int)) × (Bool) × Unit))
abbrev Z50:=Z46->T->Int->Z49
abbrev Z51:=Int->Z11->Int->Int->Z46->Z49
abbrev Z52:=Option ((List (T × Int)) × (Int))
abbrev Z53:=T->Z52
abbrev Z54:=Z46->Z46->Int->Int->Z13
abbrev Z55:=Z46->Z13
abbrev Z56:=Y8->TL->Z27
abbrev Z57:=Z46->Int->Int->Int->Z6->Int->Z11->Z11->Z11->Z38
abbrev Z58:=Z46->Int->Int->Int->Int->Int->Z6->Int->Int->Z6->Int->Z11->Int->Z11->Z11->Z11->Z38
abbrev Z59:=Z46->Z38
abbrev Z60:=Z46->Int->Int->Z46->Z48
abbrev Z61:=Z46->Int->Int->Z13
abbrev Z62:=Z46->Int->Int->Z46->Z52
abbrev Z63:=Z46->Z46->Z52
abbrev Z64:=T->T->Z38
abbrev Z65:=T->Z38
abbrev Z66:=Z11->Int->Int->Int->Z6->Int->Z11->Int->Z6->Int->Int->Z6->Int->Z11->Z11->Z38
abbrev Z67:=Z11->Int->Int->Z4
abbrev Z68:=Option (((T) × Unit) × ((Bool) × Unit))
abbrev Z69:=Option (((T) × Unit) × ((Int) × Unit))
abbrev Z70:=(List (Y8 × (Int × Int)))->Int->Int->Int->Z6->Int->Z11->Z69
abbrev Z71:=Option (List (Y8 × (Int × Int)))
abbrev Z72:=Option ((Unit) × ((List (Int)) × Unit))
abbrev Z73:=(List (Int))->T->Z72
abbrev Z74:=Z11->Int->Int->(List (Int))->Z72
abbrev Z75:=Option ((Y8) × (Int))
abbrev Z76:=Option ((((Int) × (List (Int × (Int × (Y8 × Bool)))) × Unit) × Unit) × ((Int) × (Int) × Unit))
abbrev Z77:=Z6->Int->Int->Int->Int->Z13
abbrev Z78:=Y8->Z13
abbrev Z79:=Option (Y8)
abbrev Z80:=Option ((((Int) × (List (Int × (Int × (Y8 × Bool)))) × Unit) × Unit) × ((Option Int) × (Int) × Unit))
abbrev Z81:=Option ((((Int) × (List (Int × (Int × (Y8 × Bool)))) × Unit) × Unit) × ((Int) × Unit))
abbrev Z82:=Option (((Y8 × (Int × Bool)) × Unit) × ((Int) × Unit))
abbrev Z83:=Y8 × (Int × Bool)
abbrev Z84:=Option (((Y8 × (Int × Bool)) × Unit) × ((Y8) × Unit))
abbrev Z85:=Int->Int->Int->Z6->Int->Bool->Z84
abbrev Z86:=Option (((Y8 × (Int × Bool)) × Unit) × (((Int) × (Y8) × (Int) × (List (T)) × (Int) × Unit) × Unit))
abbrev Z87:=Option ((T) × ((Int) × (Int)))
abbrev Z88:=Option ((((Int) × (List (Int × (Int × (Y8 × Bool)))) × Unit) × Unit) × ((T) × (Int) × (Int) × Unit))
abbrev Z89:=Int->Int->Int->Z6->Int->Z11->Z13
abbrev Z90:=Int->Int->Z6->Int->Z11->Int->Z6->Int->Z11->Z13
abbrev Z91:=T->Int->Z13
abbrev Z92:=Z6->Int->Z4
abbrev Z93:=Int->Int->Z6->Int->Z11->Z13
abbrev Z94:=Option (List (Y8 × (Int × (Int × Int))))
abbrev Z95:=Z6->Z16->Int->Z13
abbrev Z96:=Z16->Int->Int->Z6->Int->Z11->Z4
abbrev Z97:=Int->Int->Z6->Int->Z11->Z4
abbrev Z98:=Int->Int->Z6->Int->Z11->Z11->Z32
abbrev Z99:=Z11->Bool->Int->Int->Z6->Int->Z11->Z11->Z32
abbrev qD1:=Z11->Z11->Int->Z32
abbrev qMr:=Int->Z11->Int->Z11->Z32
abbrev qpa:=Option ((T) × (Bool))
abbrev qLC:=Z11->Int->Int->Z6->Int->Z11->Z13
abbrev qLB:=Z11->Int->Int->Z6->Int->Z11->Z4
abbrev qLv:=Z11->Int->Int->Z6->Int->Z11->Z11->Z32
abbrev qLw:=Z11->Int->Int->Z6->Int->Z11->Z32
abbrev qL7:=Z11->Z11->Int->Int->Z6->Int->Z11->Z38
abbrev qK1:=Int->Int->Int->Z6->Int->Z11->Z4
abbrev qMh:=Int->Bool->Int->Int->Z6->Int->Z11->Z46->Z46->Z48
abbrev qzS:=Z46->T->Int->Z48
abbrev qLg:=Int->Int->Int->Z6->Int->Z11->Z46->Z48
abbrev qEn:=Z46->Int->Z13
abbrev qmo:=Z46->Int->Z11->Z32
abbrev qmj:=Z46->Int->Int->Z11->Z32
abbrev qMn:=Z46->Int->Z46->Z52
abbrev qLf:=Int->Int->Z6->Int->Z11->Int->Z6->Int->Z11->Z11->Z38
abbrev qLF:=Z11->Int->Z4
abbrev qLk:=Z6->(List (Y8))->Int->Z13
abbrev qEo:=T->Z79
abbrev qLl:=Z6->Int->Int->Z6->Int->Z11->Z79
abbrev qMi:=Option ((((Int) × (List (Int × (Int × (Y8 × Bool)))) × Unit) × Unit) × ((Y8) × (Int) × Unit))
def qhh(m:Nat)(a:Int):Z1 :=
 cond (ilt a 1) (some ((()),(none,7,()))) (cond (ilt 16 a) (some ((()),(none,7,()))) (some ((()),(some (a,[],()),0,()))))
def qh2:Nat->(Int->Z1):=qi (λ _=>none) λ m _=>qhh m
def qaF(m:Nat)(a:(Int) × (List (Int × (Int × (Y8 × Bool)))) × Unit)(b:Int):Z2 :=
 cond (ile 0 b) (some (((a.1,a.2.1,()),()),(ilt b a.1,()))) (some (((a.1,a.2.1,()),()),(false,())))
def QC:Nat->(Z3->Int->Z2):=qi (λ _ _=>none) λ m _=>qaF m
def qjV(m:Nat)(a:Int):Z4 :=
 let d:Z4:=(let c:Z4:=(let b:Z4:=(cond (ieq a 95) (some true) (some (ieq a 35)));cond (ile 48 a) (cond (ile a 57) (some true) b) b);cond (ile 65 a) (cond (ile a 90) (some true) c) c);
 cond (ile 97 a) (cond (ile a 122) (some true) d) d
def qic:Nat->Z5:=qi (λ _=>none) λ m _=>qjV m
def qek(m:Nat)(i:Z7)(a:Y8):Z4 :=
 cond (qy a []) (some false) (cond (ilt 24 a.length) (some false) (qa (qc a 0) λ h=>qa (qic m ((UInt8.toNat h:Nat):Int)) λ g=>cond (qe g) (some false) (qa (qc a 0) λ f =>
 let b:Z4:=(qa (qc a 0) λ d=>cond (ieq ((UInt8.toNat d:Nat):Int) 95) (some false) (qa (qc a 0) λ c=>cond (ieq ((UInt8.toNat c:Nat):Int) 35) (some false) (i a a.length 0)));
 cond (ile 48 ((UInt8.toNat f:Nat):Int)) (qa (qc a 0) λ e=>cond (ile ((UInt8.toNat e:Nat):Int) 57) (some false) b) b)))
def qez(m:Nat)(f:Z7)(c:Y8)(b a:Int):Z4 :=
 cond (ilt a b) (qa (qc c a) λ e=>qa (qic m ((UInt8.toNat e:Nat):Int)) λ d=>cond (qe d) (some false) (f c b (iw .i64 (qj a 1)))) (some true)
def Qq(m:Nat):=zb (λ _ _ _=>none) λ a=>qez m a
def qda:Nat->Z8:=qi (λ _=>none) λ m _=>qek m (Qq m m)
def qft(m:Nat)(b:Z10)(i:Z12)(a:T)(d f e:Int):Z9 :=
 let g:Z9:=(qa (qda m a.name) λ h=>cond (qe h) (some ((iw .i64 (qj f 1),qms e d,()),(2,()))) (cond (ilt 8 a.kids.length) (some ((iw .i64 (qj f 1),qms e d,()),(3,())))
 (i d a.kids a.kids.length 0 (iw .i64 (qj f 1)) (qms e d))));let c:Z9:=(some ((iw .i64 (qj f 1),qms e d,()),(1,())));let j3:Z9 :=
 (cond (ilt a.sort 0) c (cond (ilt 5 a.sort) c (cond (ilt 0 a.kids.length) c g)));cond (ieq a.kind 1) j3 (cond (ieq a.kind 2) j3 (cond (ieq a.kind 3) (cond (qe (ieq a.sort 0)) c g) c))
def qfs(m:Nat)(a:Z10)(j:Z12)(h:Int)(g:TL)(f c e d:Int):Z9 :=
 cond (ilt c f) (qa (qc g c) λ i=>qa (a (re i) (iw .i64 (qj h 1)) e d) λ b=>cond (qe (ieq b.2.1 0)) (some ((b.1.1,b.1.2.1,()),(b.2.1,())))
 (j h g f (iw .i64 (qj c 1)) b.1.1 b.1.2.1)) (some ((e,d,()),(0,())))
def jz(m:Nat)(a:Z10):=zb (λ _ _ _ _ _ _=>none) λ b=>qfs m a b
def yb:Nat->Z10:=qi (λ _ _ _ _=>none) λ m a=>qft m a (jz m a m)
def qiA(m:Nat)(b:T):Z13 :=
 qa (yb m (re b) 1 0 0) λ a=>cond (qe (ieq a.2.1 0)) (some a.2.1) (cond (ilt 400 a.1.1) (some 3) (cond (ilt 40 a.1.2.1) (some 3) (some 0)))
def yA:Nat->Z14:=qi (λ _=>none) λ m _=>qiA m
def qcE(m:Nat)(c:Z17)(b:Y8):Z15 :=
 qa (qhD 0) λ a=>c b a a.length 0 [] 0 0 0
def qcY(m:Nat)(j:Z17)(e:Y8)(d:List (Y8 × (Int × (Int × Int))))(c b:Int)(i:Y8)(h g f:Int):Z15 :=
 cond (ilt b c) (qa (qc d b) λ a=>cond (qy a.1 e) (some (a.1,(a.2.1,(a.2.2.1,a.2.2.2)))) (j e d c (iw .i64 (qj b 1)) i h g f)) (some ([],(0,(0,0))))
def QX(m:Nat):=zb (λ _ _ _ _ _ _ _ _=>none) λ a=>qcY m a
def qc2:Nat->(Y8->Z15):=qi (λ _=>none) λ m _=>qcE m (QX m m)
def qdK(m:Nat)(b:Z14)(e:Z18)(d:Z19)(a:T):Z13 :=
 cond (qe (ieq a.kind 3)) (some 0) (qa (qc2 m a.name) λ c=>cond (ieq c.2.2.2 0) (some 10) (cond (ilt a.kids.length c.2.1) (some 6) (cond (ilt c.2.2.1 a.kids.length) (some 6)
 (cond (qy a.name [115,107]) (e a.kids a.kids.length 0 a.kind a.name a.sort a.kids) (cond (qy a.name [115,104,107]) (e a.kids a.kids.length 0 a.kind a.name a.sort a.kids)
 (cond (qy a.name [110,101,119]) (qa (qc a.kids 0) λ f=>cond (qe (ieq f.kind 2)) (some 10) (d a.kids a.kids.length 0)) (d a.kids a.kids.length 0)))))))
def qdH(m:Nat)(a:Z14)(k:Z18)(j:Z19)(e:TL)(d c i:Int)(h:Y8)(g:Int)(b:TL):Z13 :=
 cond (ilt c d) (qa (qc e c) λ f=>cond (ieq f.kind 3) (some 10) (cond (qe (ieq f.sort 1)) (some 10) (k e d (iw .i64 (qj c 1)) i h g b))) (j b b.length 0)
def qdM(m:Nat)(a:Z14)(h:Z18)(g:Z19)(d:TL)(c b:Int):Z13 :=
 cond (ilt b c) (qa (qc d b) λ f=>qa (a (re f)) λ e=>cond (qe (ieq e 0)) (some e) (g d c (iw .i64 (qj b 1)))) (some 0)
def qQ(m:Nat)(a:Z14):=zb ((λ _ _ _ _ _ _ _=>none,λ _ _ _=>none)) λ b=>(qdH m a b.1 b.2,qdM m a b.1 b.2)
def qD:Nat->Z14:=qi (λ _=>none) λ m a=>qdK m a (qQ m a m).1 (qQ m a m).2
def qgp(m:Nat)(b:T):Z13 :=
 qa (yA m (re b)) λ a=>cond (qe (ieq a 0)) (some a) (qa (qD m (re b)) λ c=>some c)
def qd2:Nat->Z14:=qi (λ _=>none) λ m _=>qgp m
def qa9(m:Nat)(c:T)(b:Int)(a:TL):Z20 :=
 cond (ieq c.kind b) (cond (zF (List.length a+1) 56) (qa (qc (a++[T.mk 0 [] 0 []]) a.length) λ d=>some ((b,jt (a++[T.mk 0 [] 0 []]) a.length (re c),()),(()))) none)
 (some ((b,a,()),(())))
def qag:Nat->Z21:=qi (λ _ _ _=>none) λ m _=>qa9 m
def qaY(m:Nat)(a:Z21)(f:Z22)(d:T)(c:Int)(b:TL):Z20 :=
 qa (qag m (re d) c b) λ e=>f d.kids d.kids.length 0 e.1.1 e.1.2.1
def qa0(m:Nat)(a:Z21)(i:Z22)(f:TL)(e b d:Int)(c:TL):Z20 :=
 cond (ilt b e) (qa (qc f b) λ h=>qa (a (re h) d c) λ g=>i f e (iw .i64 (qj b 1)) g.1.1 g.1.2.1) (some ((d,c,()),(())))
def jT(m:Nat)(a:Z21):=zb (λ _ _ _ _ _=>none) λ b=>qa0 m a b
def zA:Nat->Z21:=qi (λ _ _ _=>none) λ m a=>qaY m a (jT m a m)
def qkr(m:Nat)(b a:Int):Z13 :=
 cond (ilt b a) (some (-1)) (cond (ilt a b) (some 1) (some 0))
def qd6:Nat->(Int->Int->Z13):=qi (λ _ _=>none) λ m _=>qkr m
def qgD(m:Nat)(a:Z14)(c:Z23)(b:T):Z13 :=
 c 1 b.kids b.kids.length 0
def qgU(m:Nat)(a:Z14)(h:Z23)(e:Int)(d:TL)(c b:Int):Z13 :=
 cond (ilt b c) (qa (qc d b) λ g=>qa (a (re g)) λ f=>h (iw .i64 (qj e f)) d c (iw .i64 (qj b 1))) (some e)
def qbG(m:Nat)(a:Z14):=zb (λ _ _ _ _=>none) λ b=>qgU m a b
def Qb:Nat->Z14:=qi (λ _=>none) λ m a=>qgD m a (qbG m a m)
def qdD(m:Nat)(c:Z24)(e:Z25)(b a:T):Z13 :=
 qa (Qb m (re b)) λ n=>qa (Qb m (re a)) λ l=>qa (qd6 m n l) λ d=>let j1:Z13:=(qa (qd6 m b.kids.length a.kids.length) λ k =>
 e k 0 b.kind b.name b.sort b.kids a.kind a.name a.sort a.kids);let h:Z13:=(qa (qd6 m b.sort a.sort) λ i =>
 cond (ieq i 0) j1 (e i 0 b.kind b.name b.sort b.kids a.kind a.name a.sort a.kids));let j:Z13:=(qa (strings_Compare 0 b.name a.name) λ g =>
 cond (ieq g 0) h (cond (ieq g 0) j1 (e g 0 b.kind b.name b.sort b.kids a.kind a.name a.sort a.kids)));cond (ieq d 0) (qa (qd6 m b.kind a.kind) λ f =>
 cond (ieq f 0) j (cond (ieq f 0) h (cond (ieq f 0) j1 (e f 0 b.kind b.name b.sort b.kids a.kind a.name a.sort a.kids))))
 (cond (ieq d 0) j (cond (ieq d 0) h (cond (ieq d 0) j1 (e d 0 b.kind b.name b.sort b.kids a.kind a.name a.sort a.kids))))
def qbk(m:Nat)(a:Z24)(p:Z25)(d b k:Int)(j:Y8)(i:Int)(c:TL)(h:Int)(g:Y8)(f:Int)(e:TL):Z13 :=
 cond (ieq d 0) (cond (ilt b c.length) (qa (qc c b) λ o=>qa (qc e b) λ n=>qa (a (re o) (re n)) λ l=>p l (iw .i64 (qj b 1)) k j i c h g f e) (some d))
 (some d)
def jW(m:Nat)(a:Z24):=zb (λ _ _ _ _ _ _ _ _ _ _=>none) λ b=>qbk m a b
def qA:Nat->Z24:=qi (λ _ _=>none) λ m a=>qdD m a (jW m a m)
def qY:Nat->TL->Option (TL):=qi (λ _=>none) λ m _=>qqM (qA m)
def qeZ(m:Nat)(c b:T):Z4 :=
 qa (qA m (re c) (re b)) λ a=>some (ieq a 0)
def yX:Nat->Z26:=qi (λ _ _=>none) λ m _=>qeZ m
def qG:Nat->TL->Option (Unit × TL × Unit):=qi (λ _=>none) λ m _=>qtH (yX m)
def qfy(m:Nat)(a:Z28)(c:Z29)(b:T):Z27 :=
 c b.kids b.kids.length 0 b.kind b.name b.sort 0 [] 0 [] []
def qfo(m:Nat)(a:Z28)(p:Z29)(i:TL)(h c g:Int)(f:Y8)(e l:Int)(k:Y8)(j:Int)(b d:TL):Z27 :=
 cond (ilt c h) (qa (qc i c) λ o=>qa (a (re o)) λ n=>cond (zF (List.length b+1) 56) (p i h (iw .i64 (qj c 1)) g f e l k j (b++[re n]) d) none)
 (some (T.mk g f e b))
def qaH(m:Nat)(a:Z28):=zb (λ _ _ _ _ _ _ _ _ _ _ _=>none) λ b=>qfo m a b
def jp:Nat->Z28:=qi (λ _=>none) λ m a=>qfy m a (qaH m a m)
def qdN(m:Nat)(d:Z31)(c:TL):Z30 :=
 qa (qY m c) λ b=>cond (Nat.beq b.length c.length) (qa (qG m b) λ a=>d a.2.1.length 0 a.2.1) none
def qdF(m:Nat)(f:Z31)(c a:Int)(b:TL):Z30 :=
 cond (ilt a c) (qa (qc b a) λ e=>qa (jp m (re e)) λ d=>qa (qc b a) λ g=>f c (iw .i64 (qj a 1)) (jt b a (re d))) (some ((()),(b,())))
def JE(m:Nat):=zb (λ _ _ _=>none) λ a=>qdF m a
def qgN:Nat->(Z11->Z30):=qi (λ _=>none) λ m _=>qdN m (JE m m)
def qhw(m:Nat)(d:T)(c:Int):Z32 :=
 qa (zA m (re d) c []) λ b=>qa (qgN m b.1.2.1) λ a=>some a.2.1
def qmh:Nat->(T->Int->Z32):=qi (λ _ _=>none) λ m _=>qhw m
def qkl(m:Nat)(b:T):Z32 :=
 qa (qmh m (re b) 1) λ a=>some a
def ql7:Nat->Z33:=qi (λ _=>none) λ m _=>qkl m
def qhe(m:Nat)(c b:T):Z4 :=
 qa (qA m (re c) (re b)) λ a=>some (ieq a 0)
def JJ:Nat->Z26:=qi (λ _ _=>none) λ m _=>qhe m
def qku(m:Nat)(a:T)(b:Y8):Z4 :=
 cond (ieq a.kind 3) (some (qy a.name b)) (some false)
def jl:Nat->(T->Y8->Z4):=qi (λ _ _=>none) λ m _=>qku m
def qe1(m:Nat)(b:T):Z27 :=
 qa (qc b.kids 0) λ a=>let j1:Z27:=(some (re b));let j2:Z27:=(qa (qc a.kids 0) λ I=>some (re I));let j3:Z27:=(cond (qy b.name [114,101,97,100])
 (qa (jl m (re a) [115,105,103,110]) λ p=>cond p j2 j1) j1);let j4:Z27:=(qa (jl m (re a) [112,97,105,114]) λ G=>cond G (qa (qc a.kids 1) λ F=>some (re F)) j1);
 let B:Z27:=(qa (jl m (re a) [112,97,105,114]) λ J=>cond J j2 j1);cond (ilt 1 b.kids.length) (qa (qc b.kids 1) λ c =>
 cond (qy b.name [102,115,116]) B (cond (qy b.name [115,110,100]) j4 (cond (qy b.name [100,101,99]) (qa (jl m (re a) [101,110,99]) λ E=>cond E (qa (qc a.kids 1) λ D =>
 qa (JJ m (re D) (re c)) λ C=>cond C j2 j1) j1) (cond (qy b.name [97,100,101,99]) (qa (jl m (re a) [97,101,110,99]) λ A=>cond A (qa (qc a.kids 1) λ z =>
 qa (jl m (re z) [112,107]) λ y=>cond y (qa (qc a.kids 1) λ x=>qa (qc x.kids 0) λ w=>qa (JJ m (re w) (re c)) λ v=>cond v j2 j1) j1) j1)
 (cond (qy b.name [111,112,101,110]) (qa (jl m (re a) [115,105,103,110]) λ u=>cond u (qa (jl m (re c) [112,107]) λ t=>cond t (qa (qc a.kids 1) λ s =>
 qa (qc c.kids 0) λ r=>qa (JJ m (re s) (re r)) λ q=>cond q j2 j1) j1) j1) j3)))))
 (cond (qy b.name [102,115,116]) B (cond (qy b.name [115,110,100]) j4 (cond (qy b.name [100,101,99]) (qa (jl m (re a) [101,110,99]) λ o=>cond o (qa (qc a.kids 1) λ n =>
 qa (JJ m (re n) (T.mk 0 [] 0 [])) λ l=>cond l j2 j1) j1) (cond (qy b.name [97,100,101,99]) (qa (jl m (re a) [97,101,110,99]) λ k =>
 cond k (qa (qc a.kids 1) λ j=>qa (jl m (re j) [112,107]) λ i=>cond i (qa (qc a.kids 1) λ h=>qa (qc h.kids 0) λ g=>qa (JJ m (re g)
 (T.mk 0 [] 0 [])) λ f=>cond f j2 j1) j1) j1) (cond (qy b.name [111,112,101,110]) (qa (jl m (re a) [115,105,103,110]) λ e =>
 cond e (qa (jl m (T.mk 0 [] 0 []) [112,107]) λ d=>cond d (qa (qc a.kids 1) λ H=>none) j1) j1) j3)))))
def qct:Nat->Z28:=qi (λ _=>none) λ m _=>qe1 m
def yS(m:Nat)(b:Z34)(c:Z35)(a:List TL):Z32 :=
 b a 0 a a.length 0
def yR(m:Nat)(i:Z34)(h:Z35)(c:List (TL))(b:Int)(e:List (TL))(d a:Int):Z32 :=
 cond (ilt a d) (qa (qc e a) λ f=>cond (ilt (iw .i64 (qj b f.length)) 0) none (i c (iw .i64 (qj b f.length)) e d (iw .i64 (qj a 1)))) (qa (yN 0 b) λ g =>
 h c c.length 0 g.2.1)
def yT(m:Nat)(g:Z34)(f:Z35)(d:List (TL))(c b:Int)(a:TL):Z32 :=
 cond (ilt b c) (qa (qc d b) λ e=>cond (zF (List.length a+List.length e) 56) (f d c (iw .i64 (qj b 1)) (a++e)) none) (some a)
def qm(m:Nat):=zb ((λ _ _ _ _ _=>none,λ _ _ _ _=>none)) λ a=>(yR m a.1 a.2,yT m a.1 a.2)
def zJ:Nat->((List TL)->Z32):=qi (λ _=>none) λ m _=>yS m (qm m m).1 (qm m m).2
def qgL(m:Nat)(d:Z19)(b c:TL):Z13 :=
 cond (ilt 200 b.length) (some 3) (qa (zJ m [b,c]) λ a=>d a a.length 0)
def qgn(m:Nat)(f:Z19)(c:TL)(b a:Int):Z13 :=
 cond (ilt a b) (qa (qc c a) λ e=>qa (yA m (re e)) λ d=>cond (qe (ieq d 0)) (some d) (f c b (iw .i64 (qj a 1)))) (some 0)
def qbD(m:Nat):=zb (λ _ _ _=>none) λ a=>qgn m a
def qlr:Nat->(TL->TL->Z13):=qi (λ _ _=>none) λ m _=>qgL m (qbD m m)
def qhR(m:Nat)(c:Z36)(b a:TL):Z32 :=
 c b a []
def qh5(m:Nat)(d:Z36)(a b c:TL):Z32 :=
 let f:Z32:=(cond (zF (List.length c+List.length a) 56) (cond (zF (List.length (c++a)+List.length b) 56) (some ((c++a)++b)) none) none);cond (ilt 0 a.length) (cond (ilt 0 b.length)
 (qa (qc a 0) λ j=>qa (qc b 0) λ i=>qa (qA m (re j) (re i)) λ e=>cond (ilt e 0) (qa (qc a 0) λ h=>cond (zF (List.length c+1) 56) (cond (inb a.length a.length)
 (cond (inb 1 (Int.toNat a.length)) (d (qd8 a 1 a.length) b (c++[re h])) none) none) none) (cond (ilt 0 e) (qa (qc b 0) λ g=>cond (zF (List.length c+1) 56) (cond (inb b.length b.length)
 (cond (inb 1 (Int.toNat b.length)) (d a (qd8 b 1 b.length) (c++[re g])) none) none) none) (cond (inb a.length a.length) (cond (inb 1 (Int.toNat a.length)) (cond (inb b.length b.length)
 (cond (inb 1 (Int.toNat b.length)) (d (qd8 a 1 a.length) (qd8 b 1 b.length) c) none) none) none) none))) f) f
def qcz(m:Nat):=zb (λ _ _ _=>none) λ a=>qh5 m a
def qkp:Nat->(TL->TL->Z32):=qi (λ _ _=>none) λ m _=>qhR m (qcz m m)
def qdA(m:Nat)(a:Z33)(d:Z37)(b:T):Z32 :=
 let c:Z32:=(cond (ieq b.kind 3) (cond (qy b.name [120,111,114]) (d [] b.kids b.kids.length 0) (some [re b])) (some [re b]));cond (ieq b.kind 3) (cond (qy b.name [122,101,114,111])
 (cond (ieq b.kids.length 0) (some []) c) c) c
def qdG(m:Nat)(a:Z33)(i:Z37)(e d:TL)(c b:Int):Z32 :=
 cond (ilt b c) (qa (qc d b) λ h=>qa (a (re h)) λ g=>qa (qkp m e g) λ f=>i f d c (iw .i64 (qj b 1))) (some e)
def QB(m:Nat)(a:Z33):=zb (λ _ _ _ _=>none) λ b=>qdG m a b
def yy:Nat->Z33:=qi (λ _=>none) λ m a=>qdA m a (QB m a m)
def qdB(m:Nat)(e:Z39)(d:T)(c:List Int)(b:T):Z38 :=
 qa (jp m (re d)) λ a=>e c c.length 0 b.kind b.name b.sort b.kids 0 [] 0 a.kind a.name a.sort a.kids []
def qgf(m:Nat)(t:Z39)(n:List (Int))(l c g:Int)(f:Y8)(e:Int)(d:TL)(r:Int)(q:Y8)(p k:Int)(j:Y8)(i:Int)(a h:TL):Z38 :=
 cond (ilt c l) (qa (qc n c) λ b=>cond (ilt b 0) (some (T.mk 0 [] 0 [],7)) (cond (ile a.length b) (some (T.mk 0 [] 0 [],7)) (qa (qc a b) λ s=>none)))
 (qa (jp m (T.mk g f e d)) λ o=>some (re o,0))
def qau(m:Nat):=zb (λ _ _ _ _ _ _ _ _ _ _ _ _ _ _ _=>none) λ a=>qgf m a
def qgu:Nat->(T->(List Int)->T->Z38):=qi (λ _ _ _=>none) λ m _=>qdB m (qau m m)
def qjk(m:Nat)(a:Z40)(c:Z41)(b:TL):Z32 :=
 cond (qEp b.length 56) (c b b.length 0 (List.replicate (Int.toNat b.length) (T.mk 0 [] 0 []):TL)) none
def qjf(m:Nat)(b:Z40)(k:Z41)(h:TL)(g a:Int)(d:TL):Z32 :=
 cond (ilt a g) (qa (qc h a) λ f=>qa (qgu m (re f) [] (re f)) λ e=>qa (qc d a) λ l=>qa (b f.kids) λ j=>qa (qc (jt d a (re e.1)) a) λ c =>
 cond (ieq f.kids.length 0) (qa (qc (jt (jt d a (re e.1)) a (T.mk c.kind c.name c.sort j)) a) λ i=>k h g (iw .i64 (qj a 1))
 (jt (jt (jt d a (re e.1)) a (T.mk c.kind c.name c.sort j)) a (T.mk i.kind i.name i.sort []))) (k h g (iw .i64 (qj a 1)) (jt (jt d a (re e.1)) a (T.mk c.kind c.name c.sort j))))
 (some d)
def qed(m:Nat)(a:Z40):=zb (λ _ _ _ _=>none) λ b=>qjf m a b
def JY:Nat->Z40:=qi (λ _=>none) λ m a=>qjk m a (qed m a m)
def qjv(m:Nat)(c:Z42)(a:TL):Z38 :=
 qa (qlr m a []) λ b=>cond (qe (ieq b 0)) (some (T.mk 0 [] 0 [],b)) (c [] a a.length 0 0 [] 0 [])
def qji(m:Nat)(r:Z42)(e d:TL)(c b j:Int)(i:Y8)(h:Int)(g:TL):Z38 :=
 cond (ilt b c) (qa (qc d b) λ q=>qa (yy m (re q)) λ p=>qa (qkp m e p) λ o=>r o d c (iw .i64 (qj b 1)) j i h g) (qa (JY m e) λ a=>let j1:Z38 :=
 (some (T.mk 0 [] 0 [],3));cond (ieq a.length 0) (qa (yA m (T.mk 3 [122,101,114,111] 0 [])) λ n=>cond (qe (ieq n 0)) j1 (some (T.mk 3 [122,101,114,111] 0 [],0))) (cond (ieq a.length 1)
 (qa (qc a 0) λ f=>qa (yA m (re f)) λ l=>cond (qe (ieq l 0)) j1 (some (re f,0))) (qa (yA m (T.mk 3 [120,111,114] 0 a)) λ k =>
 cond (qe (ieq k 0)) j1 (some (T.mk 3 [120,111,114] 0 a,0)))))
def qdR(m:Nat):=zb (λ _ _ _ _ _ _ _ _=>none) λ a=>qji m a
def qqI:Nat->(TL->Z38):=qi (λ _=>none) λ m _=>qjv m (qdR m m)
def qdQ(m:Nat)(a:T):Z4 :=
 cond (ieq a.kind 3) (cond (qy a.name [109,117,108]) (some true) (cond (qy a.name [105,110,118]) (some true) (some (qy a.name [111,110,101])))) (some false)
def qby:Nat->Z43:=qi (λ _=>none) λ m _=>qdQ m
def qbY(m:Nat)(a:Z28)(d:Z44)(b:T):Z27 :=
 qa (zX 0 b.kids) λ c=>d c.2.1.length 0 b.kind b.name b.sort 0 [] 0 c.2.1 []
def qb8(m:Nat)(a:Z28)(o:Z44)(g b f:Int)(e:Y8)(d k:Int)(j:Y8)(i:Int)(c h:TL):Z27 :=
 cond (ilt b g) (qa (qc c b) λ n=>qa (a (re n)) λ l=>qa (qc c b) λ p=>o g (iw .i64 (qj b 1)) f e d k j i (jt c b (re l)) h) (some (T.mk f e d c))
def Qv(m:Nat)(a:Z28):=zb (λ _ _ _ _ _ _ _ _ _ _=>none) λ b=>qb8 m a b
def zo:Nat->Z28:=qi (λ _=>none) λ m a=>qbY m a (Qv m a m)
def qcR(m:Nat)(c:T × Int)(b:T):Z13 :=
 qa (qA m (re c.1) (re b)) λ a=>some a
def qaa:Nat->((T × Int)->T->Z13):=qi (λ _ _=>none) λ m _=>qcR m
def qE(m:Nat)(c:Z47)(b:List (T × Int))(a:T):Z45 :=
 c b b.length 0 b.length a.kind a.name a.sort a.kids
def qF(m:Nat)(k:Z47)(g:List (T × Int))(h a b f:Int)(e:Y8)(d:Int)(c:TL):Z45 :=
 cond (ilt a b) (qa (qc g (iw .i64 (qa7 .u64 (iw .u64 (iw .i64 (qj a b))) 1))) λ j=>qa (qaa m (re j.1,j.2) (T.mk f e d c)) λ n=>cond (ilt n 0)
 (k g h (iw .i64 (qj (iw .i64 (qa7 .u64 (iw .u64 (iw .i64 (qj a b))) 1)) 1)) b f e d c) (k g h a (iw .i64 (qa7 .u64 (iw .u64 (iw .i64 (qj a b))) 1)) f e d c)) (cond (ilt a h)
 (qa (qc g a) λ i=>qa (qaa m (re i.1,i.2) (T.mk f e d c)) λ l=>some (a,ieq l 0)) (some (a,false)))
def qn(m:Nat):=zb (λ _ _ _ _ _ _ _ _=>none) λ a=>qF m a
def qI:Nat->(Z46->T->Z45):=qi (λ _ _=>none) λ m _=>qE m (qn m m)
def qdV(m:Nat)(b:List (T × Int))(c:T × Int):Z48 :=
 qa (qI m b (re c.1)) λ a=>cond (qe a.2) (qa (zo m (re c.1)) λ i =>
 qa (zq 0 b a.1 [(re i,c.2)]) λ h=>some ((()),(h.2.1,()))) (qa (qc b a.1) λ e=>qa (qc b a.1) λ d =>
 qa (qc (jt b a.1 (re d.1,iw .i64 (qj e.2 c.2))) a.1) λ g=>cond (ieq g.2 0)
 (qa (zt 0 (jt b a.1 (re d.1,iw .i64 (qj e.2 c.2))) a.1 (iw .i64 (qj a.1 1))) λ f=>some ((()),(f.2.1,())))
 (some ((()),(jt b a.1 (re d.1,iw .i64 (qj e.2 c.2)),()))))
def qbl:Nat->(Z46->(T × Int)->Z48):=qi (λ _ _=>none) λ m _=>qdV m
def qaX(m:Nat)(a:Z50)(h:Z51)(e:List (T × Int))(b:T)(d:Int):Z49 :=
 qa (qby m (re b)) λ j=>cond (qe j) (qa (qbl m e (re b,d)) λ i=>some ((()),(i.2.1,true,()))) (let c:Z49:=(some ((()),([],false,())));let j2:Z49 :=
 (let g:Z49:=(let f:Z49:=(cond (qy b.name [105,110,118]) (h (iw .i64 (zO 0 d)) b.kids b.kids.length 0 e) (h d b.kids b.kids.length 0 e));cond (qy b.name [109,117,108])
 (cond (ilt b.kids.length 2) c f) f);cond (qy b.name [105,110,118]) (cond (qe (ieq b.kids.length 1)) c g) g);cond (qy b.name [111,110,101]) (cond (qe (ieq b.kids.length 0)) c j2) j2)
def qaZ(m:Nat)(a:Z50)(i:Z51)(f:Int)(e:TL)(d b:Int)(c:List (T × Int)):Z49 :=
 cond (ilt b d) (qa (qc e b) λ h=>qa (a c (re h) f) λ g=>cond (qe g.2.2.1) (some ((()),([],false,()))) (i f e d (iw .i64 (qj b 1)) g.2.1))
 (some ((()),(c,true,())))
def ji(m:Nat)(a:Z50):=zb (λ _ _ _ _ _=>none) λ b=>qaZ m a b
def zl:Nat->Z50:=qi (λ _ _ _=>none) λ m a=>qaX m a (ji m a m)
def qhK(m:Nat)(c:T):Z52 :=
 qa (yA m (re c)) λ b=>cond (qe (ieq b 0)) (some ([],b)) (qa (zl m [] (re c) 1) λ a=>cond (qe a.2.2.1) (some ([],6)) (cond (ilt 200 a.2.1.length) (some ([],3))
 (some (a.2.1,0))))
def qbB:Nat->Z53:=qi (λ _=>none) λ m _=>qhK m
def qbV(m:Nat)(b:Z54)(a:List (T × Int)):Z13 :=
 cond (ilt 200 a.length) (some 3) (b a a a.length 0)
def qb6(m:Nat)(g:Z54)(e d:List (T × Int))(c a:Int):Z13 :=
 cond (ilt a c) (qa (qc d a) λ b=>qa (yA m (re b.1)) λ f=>cond (qe (ieq f 0)) (some f) (qa (qby m (re b.1)) λ j=>cond j (some 1) (cond (ieq b.2 0) (some 7)
 (cond (ilt b.2 (-1000)) (some 7) (cond (ilt 1000 b.2) (some 7) (cond (ilt 0 a) (qa (qc e (iw .i64 (zO a 1))) λ i=>qa (qA m (re i.1) (re b.1)) λ h=>cond (ile 0 h) (some 5)
 (g e d c (iw .i64 (qj a 1)))) (g e d c (iw .i64 (qj a 1))))))))) (some 0)
def jP(m:Nat):=zb (λ _ _ _ _=>none) λ a=>qb6 m a
def qat:Nat->Z55:=qi (λ _=>none) λ m _=>qbV m (jP m m)
def qtW(m:Nat)(b:Y8)(a:TL):Z27 :=
 some (T.mk 3 b 0 a)
def qdX:Nat->Z56:=qi (λ _ _=>none) λ m _=>qtW m
def qcI(m:Nat)(c:Z57)(e d:Z58)(a:List (T × Int)):Z38 :=
 qa (qat m a) λ b=>cond (qe (ieq b 0)) (some (T.mk 0 [] 0 [],b)) (c a a.length 0 0 [] 0 [] [] [])
def qcW(m:Nat)(v:Z57)(t u:Z58)(h:List (T × Int))(g c s:Int)(r:Y8)(q:Int)(p f e:TL):Z38 :=
 let d:Z38:=(some (T.mk 0 [] 0 [],3));cond (ilt c g) (qa (qc h c) λ a =>
 cond (ilt 8 a.2) d (cond (ilt a.2 (-8)) d (t h g c a.2 0 s r q a.1.kind a.1.name a.1.sort a.1.kids a.2 p f e))) (qa (zJ m [f,e]) λ b =>
 cond (ilt 8 b.length) d (qa (qdX m [109,117,108] b) λ o=>cond (ieq b.length 0) (qa (qdX m [111,110,101] []) λ n=>qa (yA m (re n)) λ l=>cond (qe (ieq l 0))
 (some (T.mk 0 [] 0 [],l)) (some (re n,0))) (cond (ieq b.length 1) (qa (qc b 0) λ k=>qa (yA m (re k)) λ j=>cond (qe (ieq j 0)) (some (T.mk 0 [] 0 [],j)) (some (re k,0)))
 (qa (yA m (re o)) λ i=>cond (qe (ieq i 0)) (some (T.mk 0 [] 0 [],i)) (some (re o,0))))))
def qcA(m:Nat)(u:Z57)(t s:Z58)(q:List (T × Int))(p o n l k:Int)(j:Y8)(i h:Int)(g:Y8)(d:Int)(c:TL)(b:Int)(f a e:TL):Z38 :=
 cond (ilt l n) (qa (zo m (T.mk h g d c)) λ r=>cond (zF (List.length a+1) 56) (t q p o n (iw .i64 (qj l 1)) k j i h g d c b f (a++[re r]) e) none)
 (s q p o (iw .i64 (zO 0 b)) 0 k j i h g d c b f a e)
def qcH(m:Nat)(u:Z57)(v t:Z58)(q:List (T × Int))(p o n l k:Int)(j:Y8)(i h:Int)(g:Y8)(e:Int)(d:TL)(f:Int)(c b a:TL):Z38 :=
 cond (ilt l n) (qa (zo m (T.mk h g e d)) λ s=>qa (qdX m [105,110,118] [re s]) λ r=>cond (zF (List.length a+1) 56)
 (t q p o n (iw .i64 (qj l 1)) k j i h g e d f c b (a++[re r])) none) (u q p (iw .i64 (qj o 1)) k j i c b a)
def qz(m:Nat):=zb ((λ _ _ _ _ _ _ _ _ _=>none,λ _ _ _ _ _ _ _ _ _ _ _ _ _ _ _ _=>none,λ _ _ _ _ _ _ _ _ _ _ _ _ _ _ _ _=>none)) λ a=>(qcW m a.1 a.2.1 a.2.2,qcA m a.1 a.2.1 a.2.2,qcH m a.1 a.2.1 a.2.2)
def Ja:Nat->Z59:=qi (λ _=>none) λ m _=>qcI m (qz m m).1 (qz m m).2.1 (qz m m).2.2
def qbx(m:Nat)(b:Z60)(a:List (T × Int)):Z48 :=
 b a a.length 0 []
def qbj(m:Nat)(g:Z60)(d:List (T × Int))(c b:Int)(a:List (T × Int)):Z48 :=
 cond (ilt b c) (qa (qc d b) λ e=>qa (zo m (re e.1)) λ f=>cond (zF (List.length a+1) 64) (g d c (iw .i64 (qj b 1)) (a++[(re f,e.2)])) none) (some ((()),(a,())))
def Qa(m:Nat):=zb (λ _ _ _ _=>none) λ a=>qbj m a
def qdm:Nat->(Z46->Z48):=qi (λ _=>none) λ m _=>qbx m (Qa m m)
def qc0(m:Nat)(a:T × Int):Z4 :=
 cond (ilt a.2 (-1000)) (some true) (some (ilt 1000 a.2))
def qbZ:Nat->((T × Int)->Z4):=qi (λ _=>none) λ m _=>qc0 m
def zx(m:Nat)(b:Z61)(a:List (T × Int)):Z13 :=
 b a a.length 0
def qW(m:Nat)(f:Z61)(c:List (T × Int))(b a:Int):Z13 :=
 cond (ilt a b) (qa (qc c a) λ d=>qa (qbZ m (re d.1,d.2)) λ e=>cond e (some a) (f c b (iw .i64 (qj a 1)))) (some (-1))
def qB(m:Nat):=zb (λ _ _ _=>none) λ a=>qW m a
def zQ:Nat->Z55:=qi (λ _=>none) λ m _=>zx m (qB m m)
def ye(m:Nat)(b:List (T × Int)):Z4 :=
 qa (zQ m b) λ a=>some (ile 0 a)
def zu:Nat->(Z46->Z4):=qi (λ _=>none) λ m _=>ye m
def qd0(m:Nat)(a:List (T × Int)):Z52 :=
 qa (zu m a) λ b=>cond b (some ([],7)) (cond (ilt 200 a.length) (some ([],3)) (some (a,0)))
def qdn:Nat->(Z46->Z52):=qi (λ _=>none) λ m _=>qd0 m
def qdv(m:Nat)(f:Z62)(d a:List (T × Int)):Z52 :=
 qa (qat m d) λ c=>cond (qe (ieq c 0)) (some ([],c)) (qa (qat m a) λ b=>cond (qe (ieq b 0)) (some ([],b)) (qa (qdm m d) λ e =>
 f a a.length 0 e.2.1))
def qdL(m:Nat)(h:Z62)(d:List (T × Int))(c a:Int)(b:List (T × Int)):Z52 :=
 cond (ilt a c) (qa (qc d a) λ f=>qa (qbl m b (re f.1,f.2)) λ g=>h d c (iw .i64 (qj a 1)) g.2.1) (qa (qdn m b) λ e=>some (e.1,e.2))
def Jz(m:Nat):=zb (λ _ _ _ _=>none) λ a=>qdL m a
def qgi:Nat->Z63:=qi (λ _ _=>none) λ m _=>qdv m (Jz m m)
def qxG(m:Nat)(b:Y8)(a:TL):Z27 :=
 some (T.mk 3 b 0 a)
def qgq:Nat->Z56:=qi (λ _ _=>none) λ m _=>qxG m
def qgo(m:Nat)(b l:T):Z38 :=
 qa (qbB m (re l)) λ a=>cond (qe (ieq a.2 0)) (some (T.mk 0 [] 0 [],a.2)) (qa (jl m (re b) [101,120,112]) λ k=>cond k (qa (qc b.kids 1) λ j =>
 qa (qbB m (re j)) λ f=>cond (qe (ieq f.2 0)) (some (T.mk 0 [] 0 [],f.2)) (qa (qgi m f.1 a.1) λ c=>cond (qe (ieq c.2 0)) (some (T.mk 0 [] 0 [],c.2))
 (qa (qc b.kids 0) λ h=>cond (ieq c.1.length 0) (some (re h,0)) (qa (Ja m c.1) λ e=>cond (qe (ieq e.2 0)) (some (T.mk 0 [] 0 [],e.2))
 (qa (qgq m [101,120,112] [re h,re e.1]) λ i=>some (re i,0)))))) (cond (ieq a.1.length 0) (some (re b,0)) (qa (Ja m a.1) λ d=>cond (qe (ieq d.2 0))
 (some (T.mk 0 [] 0 [],d.2)) (qa (qgq m [101,120,112] [re b,re d.1]) λ g=>some (re g,0)))))
def qge:Nat->Z64:=qi (λ _ _=>none) λ m _=>qgo m
def qcN(m:Nat)(a:Z65)(c:Z66)(b:T):Z38 :=
 cond (qe (ieq b.kind 3)) (some (re b,0)) (c b.kids b.kids.length 0 b.kind b.name b.sort b.kids 0 [] 0 3 b.name 0 [] [])
def qcG(m:Nat)(a:Z65)(C:Z66)(s:TL)(r k z:Int)(c:Y8)(y:Int)(x:TL)(w:Int)(v:Y8)(u f:Int)(e:Y8)(d:Int)(l b:TL):Z38 :=
 cond (ilt k r) (qa (qc s k) λ B=>qa (a (re B)) λ n=>cond (qe (ieq n.2 0)) (some (T.mk 0 [] 0 [],n.2)) (cond (zF (List.length b+1) 56)
 (C s r (iw .i64 (qj k 1)) z c y x w v u f e d l (b++[re n.1])) none)) (let h:Z38:=(qa (qct m (T.mk f e d b)) λ A=>some (re A,0));
 cond (qy c [102,115,116]) h (cond (qy c [115,110,100]) h (cond (qy c [100,101,99]) h (cond (qy c [97,100,101,99]) h (cond (qy c [111,112,101,110]) h (cond (qy c [114,101,97,100]) h (cond (qy c [120,111,114])
 (qa (qqI m b) λ t=>some (re t.1,t.2)) (let q:Z38:=(qa (qbB m (T.mk f e d b)) λ g=>cond (qe (ieq g.2 0)) (some (T.mk 0 [] 0 [],g.2))
 (qa (Ja m g.1) λ j=>some (re j.1,j.2)));cond (qy c [109,117,108]) q (cond (qy c [105,110,118]) q (cond (qy c [111,110,101]) q (cond (qy c [101,120,112])
 (qa (qc b 0) λ p=>qa (qc b 1) λ o=>qa (qge m (re p) (re o)) λ i=>some (re i.1,i.2)) (some (T.mk f e d b,0)))))))))))))
def Q5(m:Nat)(a:Z65):=zb (λ _ _ _ _ _ _ _ _ _ _ _ _ _ _ _=>none) λ b=>qcG m a b
def yw:Nat->Z65:=qi (λ _=>none) λ m a=>qcN m a (Q5 m a m)
def qfT(m:Nat)(d:T):Z38 :=
 qa (qd2 m (re d)) λ c=>cond (qe (ieq c 0)) (some (T.mk 0 [] 0 [],c)) (qa (yw m (re d)) λ a=>cond (ieq a.2 0) (qa (yA m (re a.1)) λ b=>cond (qe (ieq b 0))
 (some (T.mk 0 [] 0 [],b)) (some (re a.1,0))) (cond (qe (ieq a.2 0)) (some (T.mk 0 [] 0 [],a.2)) (some (re a.1,0))))
def qfl:Nat->Z65:=qi (λ _=>none) λ m _=>qfT m
def qeX(m:Nat)(b:Y8):Z4 :=
 qa (qc2 m b) λ a=>some (qe (ieq a.2.2.2 3))
def qel:Nat->Z8:=qi (λ _=>none) λ m _=>qeX m
def J1(m:Nat)(a:Z43)(c:Z67)(b:T):Z4 :=
 cond (ieq b.kind 3) (qa (qel m b.name) λ d=>cond (qe d) (some false) (c b.kids b.kids.length 0)) (c b.kids b.kids.length 0)
def JZ(m:Nat)(a:Z43)(g:Z67)(d:TL)(c b:Int):Z4 :=
 cond (ilt b c) (qa (qc d b) λ f=>qa (a (re f)) λ e=>cond (qe e) (some false) (g d c (iw .i64 (qj b 1)))) (some true)
def yC(m:Nat)(a:Z43):=zb (λ _ _ _=>none) λ b=>JZ m a b
def qZ:Nat->Z43:=qi (λ _=>none) λ m a=>J1 m a (yC m a m)
def qga(m:Nat)(a:T):Z4 :=
 qa (qfl m (re a)) λ b=>cond (ieq b.2 0) (qa (JJ m (re b.1) (re a)) λ d=>cond d (qa (qZ m (re a)) λ c=>some c) (some false)) (some false)
def qdZ:Nat->Z43:=qi (λ _=>none) λ m _=>qga m
def qay(m:Nat)(b:Y8 × (Int × Int))(a:T):Z68 :=
 some ((re a,()),(qy b.1 a.name,()))
def qci:Nat->((Y8 × (Int × Int))->T->Z68):=qi (λ _ _=>none) λ m _=>qay m
def qM(m:Nat)(c:Z70)(b:List (Y8 × (Int × Int)))(a:T):Z69 :=
 c b b.length 0 a.kind a.name a.sort a.kids
def qL(m:Nat)(j:Z70)(i:List (Y8 × (Int × Int)))(h b g:Int)(f:Y8)(e:Int)(d:TL):Z69 :=
 cond (ilt b h) (qa (qc i b) λ c=>qa (qci m (c.1,(c.2.1,c.2.2)) (T.mk g f e d)) λ a=>cond a.2.1 (some ((re a.1.1,()),(b,())))
 (j i h (iw .i64 (qj b 1)) a.1.1.kind a.1.1.name a.1.1.sort a.1.1.kids)) (some ((T.mk g f e d,()),((-1),())))
def qr(m:Nat):=zb (λ _ _ _ _ _ _ _=>none) λ a=>qL m a
def qX:Nat->((List (Y8 × (Int × Int)))->T->Z69):=qi (λ _ _=>none) λ m _=>qM m (qr m m)
def qdh(m:Nat):Z71 :=
 some [([112,97,105,114],(2,2)),([101,110,99],(2,2)),([97,101,110,99],(2,2)),([112,107],(1,1)),([115,105,103,110],(2,2)),([104,97,115,104],(1,1)),([120,111,114],(2,8)),([122,101,114,111],(0,0)),([101,120,112],(2,2)),([109,117,108],(2,8)),([105,110,118],(1,1)),([111,110,101],(0,0)),([115,107],(1,1)),([115,104,107],(2,2)),([110,101,119],(1,8))]
def yi:Nat->(Z71):=qi (none) λ m _=>qdh m
def Qo(m:Nat)(a:Y8 × (Int × Int)):Z4 :=
 some (qe (ieq a.2.1 a.2.2))
def yq:Nat->((Y8 × (Int × Int))->Z4):=qi (λ _=>none) λ m _=>Qo m
def qb5(m:Nat)(a:Z73)(f:Z74)(d:List (Int))(c:T):Z72 :=
 cond (qe (ieq c.kind 3)) (cond (zF (List.length d+2) 1) (cond (zF (List.length (d++[iw .u8 c.sort,iw .u8 c.name.length])+List.length (Qj c.name)) 1)
 (some ((()),((d++[iw .u8 c.sort,iw .u8 c.name.length])++(Qj c.name),()))) none) none) (qa (yi m) λ i =>
 qa (qX m i (re c)) λ b=>cond (zF (List.length d+1) 1) (qa (yi m) λ h=>qa (qc h b.2.1) λ e =>
 qa (yq m (e.1,(e.2.1,e.2.2))) λ g=>cond g (cond (zF (List.length (d++[iw .u8 (iw .i64 (qj 16 b.2.1))])+1) 1)
 (f b.1.1.kids b.1.1.kids.length 0 ((d++[iw .u8 (iw .i64 (qj 16 b.2.1))])++[iw .u8 b.1.1.kids.length])) none) (f b.1.1.kids b.1.1.kids.length 0 (d++[iw .u8 (iw .i64 (qj 16 b.2.1))]))) none)
def qbT(m:Nat)(a:Z73)(h:Z74)(e:TL)(d b:Int)(c:List (Int)):Z72 :=
 cond (ilt b d) (qa (qc e b) λ g=>qa (a c (re g)) λ f=>h e d (iw .i64 (qj b 1)) f.2.1) (some ((()),(c,())))
def jN(m:Nat)(a:Z73):=zb (λ _ _ _ _=>none) λ b=>qbT m a b
def zR:Nat->Z73:=qi (λ _ _=>none) λ m a=>qb5 m a (jN m a m)
def qd7(m:Nat)(a:T):Z75 :=
 qa (qd2 m (re a)) λ b=>cond (qe (ieq b 0)) (some ([],b)) (qa (ql7 m (re a)) λ e=>cond (ilt 0 e.length) (some ([],13)) (qa (qdZ m (re a)) λ d=>cond (qe d)
 (some ([],10)) (qa (zR m [] (re a)) λ c=>some (qH c.2.1,0))))
def qdr:Nat->(T->Z75):=qi (λ _=>none) λ m _=>qd7 m
def qbC(m:Nat)(b:(Int) × (List (Int × (Int × (Y8 × Bool)))) × Unit)(a:Int × (Int × (Y8 × Bool))):Z76 :=
 cond (ile 400 b.2.1.length) (some (((b.1,b.2.1,()),()),(0,3,()))) (cond (zF (List.length b.2.1+1) 40)
 (some (((b.1,b.2.1++[(a.1,(a.2.1,(a.2.2.1,a.2.2.2)))],()),()),(iw .i64 (zO (List.length (b.2.1++[(a.1,(a.2.1,(a.2.2.1,a.2.2.2)))])) 1),0,()))) none)
def Jp:Nat->(Z3->(Int × (Int × (Y8 × Bool)))->Z76):=qi (λ _ _=>none) λ m _=>qbC m
def qfi(m:Nat)(b:Z77)(a:Y8):Z13 :=
 b a 1 0 a.length 0
def qfA(m:Nat)(g:Z77)(e:Y8)(b d c a:Int):Z13 :=
 cond (ilt a c) (qa (qc e a) λ f=>g e (qmm (iw .u32 (qj b (iw .u32 ((UInt8.toNat f:Nat):Int)))) 65521)
 (qmm (iw .u32 (qj d (qmm (iw .u32 (qj b (iw .u32 ((UInt8.toNat f:Nat):Int)))) 65521))) 65521) c (iw .i64 (qj a 1))) (some (qkP .or .u32 (qvM .u32 d 16) b))
def qaJ(m:Nat):=zb (λ _ _ _ _ _=>none) λ a=>qfA m a
def qjt:Nat->Z78:=qi (λ _=>none) λ m _=>qfi m (qaJ m m)
def qkF(m:Nat)(b:Y8):Z79 :=
 qa (qjt m b) λ a=>cond (qjw (qH [iw .u8 (qa7 .u32 a 24),iw .u8 (qa7 .u32 a 16),iw .u8 (qa7 .u32 a 8),iw .u8 a]) b)
 (some ((qH [iw .u8 (qa7 .u32 a 24),iw .u8 (qa7 .u32 a 16),iw .u8 (qa7 .u32 a 8),iw .u8 a])++b)) none
def qiq:Nat->(Y8->Z79):=qi (λ _=>none) λ m _=>qkF m
def qa8(m:Nat)(g:(Int) × (List (Int × (Int × (Y8 × Bool)))) × Unit)(f e:Int)(i:T):Z76 :=
 qa (QC m (g.1,g.2.1,()) f) λ b=>cond (qe b.2.1) (some (((b.1.1.1,b.1.1.2.1,()),()),(0,7,()))) (qa (QC m (b.1.1.1,b.1.1.2.1,()) e) λ a =>
 cond (qe a.2.1) (some (((a.1.1.1,a.1.1.2.1,()),()),(0,7,()))) (cond (ile 400 a.1.1.2.1.length) (some (((a.1.1.1,a.1.1.2.1,()),()),(0,3,()))) (qa (qdr m (re i)) λ d =>
 cond (qe (ieq d.2 0)) (some (((a.1.1.1,a.1.1.2.1,()),()),(0,d.2,()))) (qa (qiq m d.1) λ h=>qa (Jp m (a.1.1.1,a.1.1.2.1,()) (f,(e,(h,true)))) λ c =>
 some (((c.1.1.1,c.1.1.2.1,()),()),(c.2.1,c.2.2.1,()))))))
def Q3:Nat->(Z3->Int->Int->T->Z76):=qi (λ _ _ _ _=>none) λ m _=>qa8 m
def J2(m:Nat)(a:(Int) × (List (Int × (Int × (Y8 × Bool)))) × Unit)(b:Int):Z80 :=
 cond (ilt b 0) (some (((a.1,a.2.1,()),()),(none,4,()))) (cond (ile a.2.1.length b) (some (((a.1,a.2.1,()),()),(none,4,()))) (qa (qc a.2.1 b) λ c=>cond (qe c.2.2.2)
 (some (((a.1,a.2.1,()),()),(none,9,()))) (qa (qc a.2.1 b) λ d=>some (((a.1,a.2.1,()),()),(some b,0,())))))
def j8:Nat->(Z3->Int->Z80):=qi (λ _ _=>none) λ m _=>J2 m
def qaM(m:Nat)(e:(Int) × (List (Int × (Int × (Y8 × Bool)))) × Unit)(g c f:Int):Z81 :=
 qa (j8 m (e.1,e.2.1,()) g) λ a=>let j1:Z81:=(some (((a.1.1.1,a.1.1.2.1,()),()),(7,())));qnq a.2.1 (cond (qe (ieq a.2.2.1 0))
 (some (((a.1.1.1,a.1.1.2.1,()),()),(a.2.2.1,()))) (cond (ilt c 0) j1 none)) λ d=>qa (qc a.1.1.2.1 d) λ b=>cond (qe (ieq a.2.2.1 0)) (some (((a.1.1.1,a.1.1.2.1,()),()),(a.2.2.1,())))
 (cond (ilt c 0) j1 (cond (ile b.2.2.1.length c) j1 (qa (qc (Qj b.2.2.1) c) λ h =>
 some (((a.1.1.1,jt a.1.1.2.1 d (b.1,(b.2.1,(qH (jt (Qj b.2.2.1) c f),b.2.2.2))),()),()),(0,())))))
def jG:Nat->(Z3->Int->Int->Int->Z81):=qi (λ _ _ _ _=>none) λ m _=>qaM m
def qkq(m:Nat)(a:Y8):Z75 :=
 cond (ilt a.length 4) (some ([],2)) (cond (inb a.length a.length) (cond (inb 4 (Int.toNat a.length)) (qa (qiq m (qd8 a 4 a.length)) λ b=>cond (qe (qy b a)) (some ([],19))
 (cond (inb a.length a.length) (cond (inb 4 (Int.toNat a.length)) (some (qd8 a 4 a.length,0)) none) none)) none) none)
def qll:Nat->(Y8->Z75):=qi (λ _=>none) λ m _=>qkq m
def qa3(m:Nat)(a:Y8 × (Int × Bool))(c g:Int):Z82 :=
 let b:Z82:=(some (((a.1,(a.2.1,true)),()),(c,())));cond a.2.2 b (cond (ile a.1.length a.2.1) b (qa (qc a.1 a.2.1) λ f =>
 cond (ilt (iw .i64 ((UInt8.toNat f:Nat):Int)) c) b (qa (qc a.1 a.2.1) λ e =>
 cond (ilt g (iw .i64 ((UInt8.toNat e:Nat):Int))) b (qa (qc a.1 (iw .i64 (zO (iw .i64 (qj a.2.1 1)) 1))) λ d =>
 some (((a.1,(iw .i64 (qj a.2.1 1),a.2.2)),()),(iw .i64 ((UInt8.toNat d:Nat):Int),()))))))
def zc:Nat->(Z83->Int->Int->Z82):=qi (λ _ _ _=>none) λ m _=>qa3 m
def Jo(m:Nat)(c:Z85)(b:Y8 × (Int × Bool)):Z84 :=
 qa (zc m (b.1,(b.2.1,b.2.2)) 1 24) λ a=>c a.1.1.2.1 a.2.1 0 a.1.1.1 a.1.1.2.1 a.1.1.2.2
def jZ(m:Nat)(l:Z85)(g h f:Int)(c:Y8)(a:Int)(e:Bool):Z84 :=
 cond (ilt f h) (let d:Z84:=(some (((c,(a,true)),()),([],())));cond e d (cond (ile c.length a) d (qa (qc c a) λ b=>let j2:Z84 :=
 (l g h (iw .i64 (qj f 1)) c (iw .i64 (qj a 1)) e);let k:Z84:=(let j:Z84:=(cond (ieq f 0) d (let i:Z84:=(cond (qe (ieq ((UInt8.toNat b:Nat):Int) 95))
 (cond (qe (ieq ((UInt8.toNat b:Nat):Int) 35)) d j2) j2);cond (ilt ((UInt8.toNat b:Nat):Int) 48) i (cond (ilt 57 ((UInt8.toNat b:Nat):Int)) i j2)));cond (ile 65 ((UInt8.toNat b:Nat):Int))
 (cond (qe (ile ((UInt8.toNat b:Nat):Int) 90)) j j2) j);cond (ile 97 ((UInt8.toNat b:Nat):Int)) (cond (ile ((UInt8.toNat b:Nat):Int) 122) j2 k) k))) (cond (inb a c.length)
 (cond (inb g (Int.toNat a)) (some (((c,(a,e)),()),(qd8 c g a,()))) none) none)
def yc(m:Nat):=zb (λ _ _ _ _ _ _=>none) λ a=>jZ m a
def QU:Nat->(Z83->Z84):=qi (λ _=>none) λ m _=>Jo m (yc m m)
def j7(m:Nat)(a:Y8 × (Int × Bool)):Z86 :=
 let g:Z86:=(qa (yi m) λ j=>qa (yi m) λ i=>qa (zc m (a.1,(a.2.1,a.2.2)) 16 (iw .i64 (zO (iw .i64 (qj 16 i.length)) 1))) λ c =>
 qa (qc j (iw .i64 (zO c.2.1 16))) λ b=>qa (yq m (b.1,(b.2.1,b.2.2))) λ h =>
 cond h (qa (zc m (c.1.1.1,(c.1.1.2.1,c.1.1.2.2)) b.2.1 b.2.2) λ d=>some (((d.1.1.1,(d.1.1.2.1,d.1.1.2.2)),()),((3,b.1,0,[],d.2.1,()),())))
 (some (((c.1.1.1,(c.1.1.2.1,c.1.1.2.2)),()),((3,b.1,0,[],b.2.1,()),()))));cond (ilt a.2.1 a.1.length) (qa (qc a.1 a.2.1) λ k=>cond (ile ((UInt8.toNat k:Nat):Int) 5)
 (qa (zc m (a.1,(a.2.1,a.2.2)) 0 5) λ f=>qa (QU m (f.1.1.1,(f.1.1.2.1,f.1.1.2.2))) λ e =>
 some (((e.1.1.1,(e.1.1.2.1,e.1.1.2.2)),()),((2,e.2.1,f.2.1,[],0,()),()))) g) g
def qv:Nat->(Z83->Z86):=qi (λ _=>none) λ m _=>j7 m
def jo:Nat->Val RD->Option ((Val RD × Unit) × (T × Unit)):=qi (λ _=>none) λ m _=>qn0 (qv m) m
def qdS(m:Nat)(b:Y8):Z87 :=
 qa (jo m (b,(0,false))) λ a=>cond a.1.1.2.2 (some (T.mk 0 [] 0 [],a.1.1.2.1,2)) (cond (qe (ieq a.1.1.2.1 b.length)) (some (T.mk 0 [] 0 [],a.1.1.2.1,2))
 (qa (yA m (re a.2.1)) λ d=>cond (ieq d 3) (some (T.mk 0 [] 0 [],0,3)) (qa (qdZ m (re a.2.1)) λ c=>cond (qe c) (some (T.mk 0 [] 0 [],0,10)) (some (re a.2.1,0,0)))))
def qdu:Nat->(Y8->Z87):=qi (λ _=>none) λ m _=>qdS m
def J7(m:Nat)(f:(Int) × (List (Int × (Int × (Y8 × Bool)))) × Unit)(k:Int):Z88 :=
 qa (j8 m (f.1,f.2.1,()) k) λ b=>qnq b.2.1 (cond (qe (ieq b.2.2.1 0)) (some (((b.1.1.1,b.1.1.2.1,()),()),(T.mk 0 [] 0 [],0,b.2.2.1,()))) none) λ c =>
 qa (qc b.1.1.2.1 c) λ a=>cond (qe (ieq b.2.2.1 0)) (some (((b.1.1.1,b.1.1.2.1,()),()),(T.mk 0 [] 0 [],0,b.2.2.1,())))
 (qa (qc (jt b.1.1.2.1 c (a.1,(a.2.1,(a.2.2.1,false)))) c) λ j=>qa (qll m j.2.2.1) λ e=>cond (qe (ieq e.2 0))
 (qa (qc (jt b.1.1.2.1 c (a.1,(a.2.1,(a.2.2.1,false)))) c) λ i=>some (((b.1.1.1,jt b.1.1.2.1 c (a.1,(a.2.1,(a.2.2.1,false))),()),()),(T.mk 0 [] 0 [],i.2.1,e.2,())))
 (qa (qdu m e.1) λ d=>cond (qe (ieq d.2.2 0)) (qa (qc (jt b.1.1.2.1 c (a.1,(a.2.1,(a.2.2.1,false)))) c) λ h =>
 some (((b.1.1.1,jt b.1.1.2.1 c (a.1,(a.2.1,(a.2.2.1,false))),()),()),(T.mk 0 [] 0 [],h.2.1,d.2.2,()))) (qa (qc (jt b.1.1.2.1 c (a.1,(a.2.1,(a.2.2.1,false)))) c) λ g =>
 some (((b.1.1.1,jt b.1.1.2.1 c (a.1,(a.2.1,(a.2.2.1,false))),()),()),(re d.1,g.2.1,0,())))))
def yp:Nat->(Z3->Int->Z88):=qi (λ _ _=>none) λ m _=>J7 m
def qgC(m:Nat)(b a:Int):Z13 :=
 cond (ilt b a) (some (-1)) (cond (ilt a b) (some 1) (some 0))
def qaC:Nat->(Int->Int->Z13):=qi (λ _ _=>none) λ m _=>qgC m
def qfv(m:Nat)(a:Z14)(c:Z89)(b:T):Z13 :=
 c 1 0 b.kind b.name b.sort b.kids
def qfB(m:Nat)(a:Z14)(j:Z89)(d c g:Int)(f:Y8)(e:Int)(b:TL):Z13 :=
 cond (ilt c b.length) (qa (qc b c) λ i=>qa (a (re i)) λ h=>j (iw .i64 (qj d h)) (iw .i64 (qj c 1)) g f e b) (some d)
def qaD(m:Nat)(a:Z14):=zb (λ _ _ _ _ _ _=>none) λ b=>qfB m a b
def jn:Nat->Z14:=qi (λ _=>none) λ m a=>qfv m a (qaD m a m)
def qcT(m:Nat)(a:Z24)(j:Z90)(c b:T):Z13 :=
 qa (jn m (re c)) λ i=>qa (jn m (re b)) λ h=>qa (qaC m i h) λ g=>cond (qe (ieq g 0)) (some g) (qa (qaC m c.kind b.kind) λ f =>
 cond (qe (ieq f 0)) (some f) (cond (slt c.name b.name) (some (-1)) (cond (qe (qpM (slt c.name b.name) (qy c.name b.name))) (some 1) (qa (qaC m c.sort b.sort) λ e=>cond (qe (ieq e 0))
 (some e) (qa (qaC m c.kids.length b.kids.length) λ d=>cond (qe (ieq d 0)) (some d) (j 0 c.kind c.name c.sort c.kids b.kind b.name b.sort b.kids))))))
def qcC(m:Nat)(a:Z24)(o:Z90)(b k:Int)(j:Y8)(i:Int)(c:TL)(h:Int)(g:Y8)(f:Int)(d:TL):Z13 :=
 cond (ilt b c.length) (qa (qc c b) λ n=>qa (qc d b) λ l=>qa (a (re n) (re l)) λ e=>cond (qe (ieq e 0)) (some e) (o (iw .i64 (qj b 1)) k j i c h g f d))
 (some 0)
def QY(m:Nat)(a:Z24):=zb (λ _ _ _ _ _ _ _ _ _=>none) λ b=>qcC m a b
def zD:Nat->Z24:=qi (λ _ _=>none) λ m a=>qcT m a (QY m a m)
def qiI(m:Nat)(c b:T):Z4 :=
 qa (zD m (re c) (re b)) λ a=>some (ieq a 0)
def Qp:Nat->Z26:=qi (λ _ _=>none) λ m _=>qiI m
def qjg(m:Nat)(a:(Int) × (List (Int × (Int × (Y8 × Bool)))) × Unit)(d:Int):Z76 :=
 cond (ilt d 0) (some (((a.1,a.2.1,()),()),(0,4,()))) (cond (ile a.2.1.length d) (some (((a.1,a.2.1,()),()),(0,4,()))) (qa (qc a.2.1 d) λ c=>qa (Jp m (a.1,a.2.1,())
 (c.1,(c.2.1,(c.2.2.1,true)))) λ b=>some (((b.1.1.1,b.1.1.2.1,()),()),(b.2.1,b.2.2.1,()))))
def qe8:Nat->(Z3->Int->Z76):=qi (λ _ _=>none) λ m _=>qjg m
def qxL(m:Nat)(b:Y8)(a:Int):Z27 :=
 some (T.mk 2 b a [])
def qto:Nat->(Y8->Int->Z27):=qi (λ _ _=>none) λ m _=>qxL m
def qwp(m:Nat)(b:Y8):Z27 :=
 qa (qto m b 1) λ a=>some (re a)
def qru:Nat->(Y8->Z27):=qi (λ _=>none) λ m _=>qwp m
def qvB(m:Nat):Z4 :=
 qa (qh2 m 2) λ f=>let j1:Z4:=(some false);qnq f.2.1 (cond (qe (ieq f.2.2.1 0)) j1 j1) λ h=>cond (qe (ieq f.2.2.1 0)) j1 (qa (qru m [97]) λ g =>
 qa (Q3 m (h.1,h.2.1,()) 0 1 (re g)) λ c=>qa (qe8 m (c.1.1.1,c.1.1.2.1,()) 0) λ b=>qa (jG m (b.1.1.1,b.1.1.2.1,()) 0 5 0) λ e =>
 qa (yp m (e.1.1.1,e.1.1.2.1,()) 0) λ a=>qa (yp m (a.1.1.1,a.1.1.2.1,()) 1) λ d=>cond (ieq c.2.2.1 0) (cond (ieq b.2.2.1 0) (cond (ieq e.2.1 0)
 (cond (ieq c.2.1 0) (cond (ieq b.2.1 1) (cond (ieq a.2.2.1 1) (cond (ieq a.2.2.2.1 19) (cond (ieq d.2.2.1 1) (cond (ieq d.2.2.2.1 0) (qa (Qp m (re d.2.1) (re g)) λ i =>
 some i) j1) j1) j1) j1) j1) j1) j1) j1) j1)
def qfc:Nat->(Z4):=qi (none) λ m _=>qvB m
def qdI(m:Nat)(a:Z91)(d:Z89)(b:T)(c:Int):Z13 :=
 cond (ile c 0) (some (-1)) (cond (ilt 40 b.name.length) (some (-1)) (d (iw .i64 (zO c 1)) 0 b.kind b.name b.sort b.kids))
def qdo(m:Nat)(a:Z91)(j:Z89)(d c h:Int)(g:Y8)(f:Int)(b:TL):Z13 :=
 cond (ilt c b.length) (qa (qc b c) λ i=>qa (a (re i) d) λ e=>cond (ilt e 0) (some (-1)) (j e (iw .i64 (qj c 1)) h g f b)) (some d)
def JF(m:Nat)(a:Z91):=zb (λ _ _ _ _ _ _=>none) λ b=>qdo m a b
def yW:Nat->Z91:=qi (λ _ _=>none) λ m a=>qdI m a (JF m a m)
def qgx(m:Nat)(d:Z67)(a:TL)(c b:Int):Z4 :=
 cond (ilt c a.length) (some false) (d a b 0)
def qgg(m:Nat)(f:Z67)(b:TL)(d a:Int):Z4 :=
 cond (ilt a b.length) (qa (qc b a) λ e=>qa (yW m (re e) d) λ c=>cond (ilt c 0) (some false) (f b c (iw .i64 (qj a 1)))) (some true)
def qbN(m:Nat):=zb (λ _ _ _=>none) λ a=>qgg m a
def qlA:Nat->(TL->Int->Int->Z4):=qi (λ _ _ _=>none) λ m _=>qgx m (qbN m m)
def qkg(m:Nat)(b:T):Z4 :=
 qa (qlA m [re b] 1 450) λ a=>some a
def qln:Nat->Z43:=qi (λ _=>none) λ m _=>qkg m
def qeA(m:Nat)(a:Z14)(c:Z89)(b:T):Z13 :=
 c 0 0 b.kind b.name b.sort b.kids
def qeH(m:Nat)(a:Z14)(j:Z89)(d c g:Int)(f:Y8)(e:Int)(b:TL):Z13 :=
 cond (ilt c b.length) (qa (qc b c) λ i=>qa (a (re i)) λ h=>j (qms d h) (iw .i64 (qj c 1)) g f e b) (some (iw .i64 (qj d 1)))
def J3(m:Nat)(a:Z14):=zb (λ _ _ _ _ _ _=>none) λ b=>qeH m a b
def jB:Nat->Z14:=qi (λ _=>none) λ m a=>qeA m a (J3 m a m)
def qgm(m:Nat)(a:Int):Z4 :=
 let b:Z4:=(cond (ile 65 a) (some (ile a 90)) (some false));cond (ile 97 a) (cond (ile a 122) (some true) b) b
def qei:Nat->Z5:=qi (λ _=>none) λ m _=>qgm m
def qhp(m:Nat)(a:Int):Z4 :=
 cond (ile 48 a) (some (ile a 57)) (some false)
def qh0:Nat->Z5:=qi (λ _=>none) λ m _=>qhp m
def qdE(m:Nat)(d:Z92)(a:Y8):Z4 :=
 cond (ieq a.length 0) (some false) (cond (ilt 24 a.length) (some false) (qa (qc a 0) λ c=>qa (qei m ((UInt8.toNat c:Nat):Int)) λ b=>cond (qe b) (some false) (d a 0)))
def qdx(m:Nat)(i:Z92)(b:Y8)(a:Int):Z4 :=
 cond (ilt a b.length) (qa (qc b a) λ h=>qa (qei m ((UInt8.toNat h:Nat):Int)) λ g=>let j1:Z4:=(i b (iw .i64 (qj a 1)));cond (qe g) (qa (qc b a) λ f =>
 qa (qh0 m ((UInt8.toNat f:Nat):Int)) λ e=>cond (qe e) (qa (qc b a) λ d=>cond (qe (ieq ((UInt8.toNat d:Nat):Int) 95)) (qa (qc b a) λ c =>
 cond (qe (ieq ((UInt8.toNat c:Nat):Int) 35)) (some false) j1) j1) j1) j1) (some true)
def Jv(m:Nat):=zb (λ _ _=>none) λ a=>qdx m a
def qcl:Nat->Z8:=qi (λ _=>none) λ m _=>qdE m (Jv m m)
def qiw(m:Nat)(a:T):Z13 :=
 let d:Z13:=(qa (qcl m a.name) λ e=>cond (qe e) (some 2) (cond (ilt 8 a.kids.length) (some 3) (some 0)));let j2:Z13:=(cond (ilt 0 a.kids.length) (some 1) d);cond (ieq a.kind 1)
 (cond (ilt a.sort 0) (some 1) (cond (ilt 5 a.sort) (some 1) j2)) (let c:Z13:=(cond (ilt a.sort 0) (some 1) (cond (ilt 5 a.sort) (some 1) (let b:Z13:=(cond (ieq a.kind 2) j2 d);
 cond (qe (ieq a.kind 2)) (cond (qe (ieq a.sort 0)) (some 1) b) b)));cond (qe (ieq a.kind 2)) (cond (qe (ieq a.kind 3)) (some 1) c) c)
def qja:Nat->Z14:=qi (λ _=>none) λ m _=>qiw m
def qem(m:Nat)(a:Z14)(d:Z93)(b:T):Z13 :=
 qa (qja m (re b)) λ c=>cond (qe (ieq c 0)) (some c) (d 0 b.kind b.name b.sort b.kids)
def qeo(m:Nat)(a:Z14)(i:Z93)(c g:Int)(f:Y8)(e:Int)(b:TL):Z13 :=
 cond (ilt c b.length) (qa (qc b c) λ h=>qa (a (re h)) λ d=>cond (qe (ieq d 0)) (some d) (i (iw .i64 (qj c 1)) g f e b)) (some 0)
def J4(m:Nat)(a:Z14):=zb (λ _ _ _ _ _=>none) λ b=>qeo m a b
def jC:Nat->Z14:=qi (λ _=>none) λ m a=>qem m a (J4 m a m)
def qhx(m:Nat)(a:T):Z13 :=
 qa (jC m (re a)) λ b=>cond (qe (ieq b 0)) (some b) (qa (jn m (re a)) λ d=>cond (ilt 400 d) (some 3) (qa (jB m (re a)) λ c=>cond (ilt 40 c) (some 3) (some 0)))
def jg:Nat->Z14:=qi (λ _=>none) λ m _=>qhx m
def qsq(m:Nat):Z94 :=
 some [([112,97,105,114],(2,(2,1))),([101,110,99],(2,(2,1))),([97,101,110,99],(2,(2,1))),([112,107],(1,(1,1))),([115,105,103,110],(2,(2,1))),([104,97,115,104],(1,(1,1))),([120,111,114],(2,(8,1))),([122,101,114,111],(0,(0,1))),([101,120,112],(2,(2,1))),([109,117,108],(2,(8,1))),([105,110,118],(1,(1,1))),([111,110,101],(0,(0,1))),([115,107],(1,(1,2))),([115,104,107],(2,(2,2))),([110,101,119],(1,(8,2))),([102,115,116],(1,(1,3))),([115,110,100],(1,(1,3))),([100,101,99],(2,(2,3))),([97,100,101,99],(2,(2,3))),([111,112,101,110],(2,(2,3))),([114,101,97,100],(1,(1,3)))]
def qiG:Nat->(Z94):=qi (none) λ m _=>qsq m
def qfk(m:Nat)(c:Z95)(b:Y8):Z13 :=
 qa (qiG m) λ a=>c b a 0
def qfn(m:Nat)(f:Z95)(c:Y8)(b:List (Y8 × (Int × (Int × Int))))(a:Int):Z13 :=
 cond (ilt a b.length) (qa (qc b a) λ e=>cond (qy e.1 c) (qa (qc b a) λ d=>some d.2.2.2) (f c b (iw .i64 (qj a 1)))) (some 0)
def qaS(m:Nat):=zb (λ _ _ _=>none) λ a=>qfn m a
def qen:Nat->Z78:=qi (λ _=>none) λ m _=>qfk m (qaS m m)
def qfD(m:Nat)(c:Z96)(a:T):Z4 :=
 qa (qiG m) λ b=>c b 0 a.kind a.name a.sort a.kids
def qfq(m:Nat)(j:Z96)(b:List (Y8 × (Int × (Int × Int))))(a f:Int)(d:Y8)(e:Int)(c:TL):Z4 :=
 cond (ilt a b.length) (qa (qc b a) λ i=>cond (qy i.1 d) (qa (qc b a) λ h=>cond (ile h.2.1 c.length) (qa (qc b a) λ g=>some (ile c.length g.2.2.1)) (some false))
 (j b (iw .i64 (qj a 1)) f d e c)) (some false)
def qaO(m:Nat):=zb (λ _ _ _ _ _ _=>none) λ a=>qfq m a
def qjr:Nat->Z43:=qi (λ _=>none) λ m _=>qfD m (qaO m m)
def qdC(m:Nat)(c:Z97)(a:T):Z4 :=
 cond (qy a.name [110,101,119]) (qa (qc a.kids 0) λ b=>some (ieq b.kind 2)) (c 0 a.kind a.name a.sort a.kids)
def qds(m:Nat)(h:Z97)(b e:Int)(d:Y8)(c:Int)(a:TL):Z4 :=
 cond (ilt b a.length) (qa (qc a b) λ g=>cond (ieq g.kind 3) (some false) (qa (qc a b) λ f=>cond (qe (ieq f.sort 1)) (some false) (h (iw .i64 (qj b 1)) e d c a))) (some true)
def Jx(m:Nat):=zb (λ _ _ _ _ _=>none) λ a=>qds m a
def qf9:Nat->Z43:=qi (λ _=>none) λ m _=>qdC m (Jx m m)
def qeS(m:Nat)(b:Z14)(d:Z93)(a:T):Z13 :=
 cond (qe (ieq a.kind 3)) (some 0) (qa (qen m a.name) λ c=>cond (ieq c 0) (some 10) (qa (qjr m (re a)) λ f=>cond (qe f) (some 6) (cond (ieq c 2)
 (qa (qf9 m (re a)) λ e=>cond (qe e) (some 10) (d 0 a.kind a.name a.sort a.kids)) (d 0 a.kind a.name a.sort a.kids))))
def qeJ(m:Nat)(a:Z14)(i:Z93)(c g:Int)(f:Y8)(e:Int)(b:TL):Z13 :=
 cond (ilt c b.length) (qa (qc b c) λ h=>qa (a (re h)) λ d=>cond (qe (ieq d 0)) (some d) (i (iw .i64 (qj c 1)) g f e b)) (some 0)
def Je(m:Nat)(a:Z14):=zb (λ _ _ _ _ _=>none) λ b=>qeJ m a b
def jd:Nat->Z14:=qi (λ _=>none) λ m a=>qeS m a (Je m a m)
def qhA(m:Nat)(b:T):Z13 :=
 qa (jg m (re b)) λ a=>cond (qe (ieq a 0)) (some a) (qa (jd m (re b)) λ c=>some c)
def qe9:Nat->Z14:=qi (λ _=>none) λ m _=>qhA m
def qg4(m:Nat)(a:Z33)(c:Z98)(b:T):Z32 :=
 c 0 b.kind b.name b.sort b.kids [re b]
def qgR(m:Nat)(a:Z33)(j:Z98)(d h:Int)(g:Y8)(f:Int)(c b:TL):Z32 :=
 cond (ilt d c.length) (qa (qc c d) λ i=>qa (a (re i)) λ e=>cond (zF (List.length b+List.length e) 56) (j (iw .i64 (qj d 1)) h g f c (b++e)) none) (some b)
def qbM(m:Nat)(a:Z33):=zb (λ _ _ _ _ _ _=>none) λ b=>qgR m a b
def Qc:Nat->Z33:=qi (λ _=>none) λ m a=>qg4 m a (qbM m a m)
def qgj(m:Nat)(c:Z99)(b:TL)(a:T):Z32 :=
 c b false 0 a.kind a.name a.sort a.kids []
def qgY(m:Nat)(i:Z99)(c:TL)(h:Bool)(b g:Int)(f:Y8)(e:Int)(d a:TL):Z32 :=
 cond (ilt b c.length) (qa (qc c b) λ o=>qa (zD m (T.mk g f e d) (re o)) λ j=>let j1:Z32:=(qa (qc c b) λ k=>cond (zF (List.length a+1) 56)
 (i c h (iw .i64 (qj b 1)) g f e d (a++[re k])) none);cond (qe h) (cond (ile j 0) (cond (ilt j 0) (cond (zF (List.length a+1) 56) (qa (qc c b) λ n =>
 cond (zF (List.length (a++[T.mk g f e d])+1) 56) (i c true (iw .i64 (qj b 1)) g f e d ((a++[T.mk g f e d])++[re n])) none) none) (qa (qc c b) λ l =>
 cond (zF (List.length a+1) 56) (i c true (iw .i64 (qj b 1)) g f e d (a++[re l])) none)) j1) j1) (cond (qe h) (cond (zF (List.length a+1) 56) (some (a++[T.mk g f e d])) none) (some a))
def qbK(m:Nat):=zb (λ _ _ _ _ _ _ _ _=>none) λ a=>qgY m a
def qit:Nat->(TL->T->Z32):=qi (λ _ _=>none) λ m _=>qgj m (qbK m m)
def qgQ(m:Nat)(b:qD1)(a:TL):Z32 :=
 b a [] 0
def qgB(m:Nat)(f:qD1)(b c:TL)(a:Int):Z32 :=
 cond (ilt a b.length) (qa (qc b a) λ e=>qa (qit m c (re e)) λ d=>f b d (iw .i64 (qj a 1))) (some c)
def qbH(m:Nat):=zb (λ _ _ _=>none) λ a=>qgB m a
def qlF:Nat->Z40:=qi (λ _=>none) λ m _=>qgQ m (qbH m m)
def qfr(m:Nat)(d:qMr)(c:T)(b:Int):Z32 :=
 qa (Qc m (re c)) λ a=>d b a 0 []
def qfz(m:Nat)(e:qMr)(d:Int)(b:TL)(a:Int)(c:TL):Z32 :=
 cond (ilt a b.length) (qa (qc b a) λ h=>cond (ieq h.kind d) (qa (qc b a) λ g=>cond (zF (List.length c+1) 56) (e d b (iw .i64 (qj a 1)) (c++[re g])) none)
 (e d b (iw .i64 (qj a 1)) c)) (qa (qlF m c) λ f=>some f)
def qax(m:Nat):=zb (λ _ _ _ _=>none) λ a=>qfz m a
def qjn:Nat->(T->Int->Z32):=qi (λ _ _=>none) λ m _=>qfr m (qax m m)
def qiF(m:Nat)(b:T):Z32 :=
 qa (qjn m (re b) 1) λ a=>some a
def qju:Nat->Z33:=qi (λ _=>none) λ m _=>qiF m
def qgG(m:Nat)(b:T):Z4 :=
 qa (qju m (re b)) λ a=>some (ieq a.length 0)
def qgy:Nat->Z43:=qi (λ _=>none) λ m _=>qgG m
def qkj(m:Nat)(b:Y8)(a:TL):Z27 :=
 cond (zF (List.length ([]:TL)+List.length a) 56) (qjs a (some (T.mk 3 b 0 [])) λ d c=>some (T.mk 3 b 0 ([]++(d::c)))) none
def Qe:Nat->Z56:=qi (λ _ _=>none) λ m _=>qkj m
def qmd(m:Nat)(a:T)(b:Y8):Z4 :=
 cond (ieq a.kind 3) (some (qy a.name b)) (some false)
def qbA:Nat->(T->Y8->Z4):=qi (λ _ _=>none) λ m _=>qmd m
def qfS(m:Nat)(a:T):qpa :=
 qa (qc a.kids 0) λ b=>let j1:qpa:=(qa (qc b.kids 0) λ y=>some (re y,true));let j2:qpa:=(let r:qpa:=(let q:qpa:=(let p:qpa:=(let o:qpa :=
 (cond (qy a.name [114,101,97,100]) (qa (qbA m (re b) [115,105,103,110]) λ c=>cond c j1 (some (re a,false))) (some (re a,false)));cond (qy a.name [111,112,101,110])
 (qa (qbA m (re b) [115,105,103,110]) λ h=>cond h (qa (qc a.kids 1) λ g=>qa (qc b.kids 1) λ f=>qa (Qe m [112,107] [re f]) λ e=>qa (Qp m (re g)
 (re e)) λ d=>cond d j1 o) o) o);cond (qy a.name [97,100,101,99]) (qa (qbA m (re b) [97,101,110,99]) λ n=>cond n (qa (qc b.kids 1) λ l =>
 qa (qc a.kids 1) λ k=>qa (Qe m [112,107] [re k]) λ j=>qa (Qp m (re l) (re j)) λ i=>cond i j1 p) p) p);cond (qy a.name [100,101,99])
 (qa (qbA m (re b) [101,110,99]) λ v=>cond v (qa (qc b.kids 1) λ u=>qa (qc a.kids 1) λ t=>qa (Qp m (re u) (re t)) λ s=>cond s j1 q) q) q);
 cond (qy a.name [115,110,100]) (qa (qbA m (re b) [112,97,105,114]) λ x=>cond x (qa (qc b.kids 1) λ w=>some (re w,true)) r) r);cond (qy a.name [102,115,116])
 (qa (qbA m (re b) [112,97,105,114]) λ z=>cond z j1 j2) j2
def qfm:Nat->(T->qpa):=qi (λ _=>none) λ m _=>qfS m
def qeN(m:Nat)(c:qLC)(b:TL)(a:T):Z13 :=
 cond (ilt 200 b.length) (some 3) (c b 0 a.kind a.name a.sort a.kids)
def qeF(m:Nat)(j:qLC)(b:TL)(a f:Int)(e:Y8)(d:Int)(c:TL):Z13 :=
 cond (ilt a b.length) (qa (qc b a) λ i=>qa (jg m (re i)) λ g=>cond (qe (ieq g 0)) (some g) (j b (iw .i64 (qj a 1)) f e d c))
 (qa (jg m (T.mk f e d c)) λ h=>some h)
def J8(m:Nat):=zb (λ _ _ _ _ _ _=>none) λ a=>qeF m a
def qh1:Nat->(TL->T->Z13):=qi (λ _ _=>none) λ m _=>qeN m (J8 m m)
def qiz(m:Nat):Z27 :=
 qa (Qe m [122,101,114,111] []) λ a=>some (re a)
def qi7:Nat->(Z27):=qi (none) λ m _=>qiz m
def qgl(m:Nat)(c:qLB)(b:TL)(a:T):Z4 :=
 c b 0 a.kind a.name a.sort a.kids
def qgk(m:Nat)(i:qLB)(b:TL)(a f:Int)(e:Y8)(d:Int)(c:TL):Z4 :=
 cond (ilt a b.length) (qa (qc b a) λ h=>qa (Qp m (re h) (T.mk f e d c)) λ g=>cond g (some true) (i b (iw .i64 (qj a 1)) f e d c)) (some false)
def qbJ(m:Nat):=zb (λ _ _ _ _ _ _=>none) λ a=>qgk m a
def ql6:Nat->(TL->T->Z4):=qi (λ _ _=>none) λ m _=>qgl m (qbJ m m)
def qdp(m:Nat)(e:qLv)(b:TL)(a:T):Z32 :=
 qa (ql6 m b (re a)) λ d=>cond (qe d) (qa (qit m b (re a)) λ c=>some c) (e b 0 a.kind a.name a.sort a.kids [])
def qdw(m:Nat)(h:qLv)(b:TL)(a g:Int)(f:Y8)(e:Int)(d c:TL):Z32 :=
 cond (ilt a b.length) (qa (qc b a) λ k=>qa (Qp m (re k) (T.mk g f e d)) λ j=>cond (qe j) (qa (qc b a) λ i=>cond (zF (List.length c+1) 56)
 (h b (iw .i64 (qj a 1)) g f e d (c++[re i])) none) (h b (iw .i64 (qj a 1)) g f e d c)) (some c)
def JC(m:Nat):=zb (λ _ _ _ _ _ _ _=>none) λ a=>qdw m a
def qgz:Nat->(TL->T->Z32):=qi (λ _ _=>none) λ m _=>qdp m (JC m m)
def qfx(m:Nat)(c:qD1)(b a:TL):Z32 :=
 cond (zF (List.length ([]:TL)+List.length b) 56) (qjs b (c a [] 0) λ e d=>c a ([]++(e::d)) 0) none
def qfp(m:Nat)(f:qD1)(b c:TL)(a:Int):Z32 :=
 cond (ilt a b.length) (qa (qc b a) λ e=>qa (qgz m c (re e)) λ d=>f b d (iw .i64 (qj a 1))) (some c)
def JU(m:Nat):=zb (λ _ _ _=>none) λ a=>qfp m a
def qgH:Nat->(TL->TL->Z32):=qi (λ _ _=>none) λ m _=>qfx m (JU m m)
def qbU(m:Nat)(a:Z33)(d:qLw)(b:T):Z32 :=
 let c:Z32:=(cond (qe (ieq b.kind 3)) (some [re b]) (cond (qe (qy b.name [120,111,114])) (some [re b]) (d [] 0 b.kind b.name b.sort b.kids)));cond (ieq b.kind 3)
 (cond (qy b.name [122,101,114,111]) (cond (ieq b.kids.length 0) (some []) c) c) c
def qb7(m:Nat)(a:Z33)(k:qLw)(d:TL)(c g:Int)(f:Y8)(e:Int)(b:TL):Z32 :=
 cond (ilt c b.length) (qa (qc b c) λ j=>qa (a (re j)) λ i=>qa (qgH m d i) λ h=>k h (iw .i64 (qj c 1)) g f e b) (some d)
def jL(m:Nat)(a:Z33):=zb (λ _ _ _ _ _ _=>none) λ b=>qb7 m a b
def zW:Nat->Z33:=qi (λ _=>none) λ m a=>qbU m a (jL m a m)
def qix(m:Nat)(a:TL):Z27 :=
 cond (ieq a.length 0) (qa (Qe m [122,101,114,111] []) λ e=>some (re e)) (cond (ieq a.length 1) (qa (qc a 0) λ d=>some (re d))
 (cond (zF (List.length ([]:TL)+List.length a) 56) (qjs a (some (T.mk 3 [120,111,114] 0 [])) λ c b=>some (T.mk 3 [120,111,114] 0 ([]++(c::b)))) none))
def qjB:Nat->(TL->Z27):=qi (λ _=>none) λ m _=>qix m
def qg3(m:Nat)(d:qL7)(b:TL):Z38 :=
 qa (qi7 m) λ c=>qa (qh1 m b (re c)) λ a=>cond (qe (ieq a 0)) (some (T.mk 0 [] 0 [],a)) (d b [] 0 0 [] 0 [])
def qgK(m:Nat)(n:qL7)(b c:TL)(a h:Int)(g:Y8)(f:Int)(e:TL):Z38 :=
 cond (ilt a b.length) (qa (qc b a) λ l=>qa (zW m (re l)) λ k=>qa (qgH m c k) λ j=>n b j (iw .i64 (qj a 1)) h g f e) (qa (qjB m c) λ d =>
 qa (jg m (re d)) λ i=>cond (qe (ieq i 0)) (some (T.mk 0 [] 0 [],3)) (some (re d,0)))
def qbP(m:Nat):=zb (λ _ _ _ _ _ _ _=>none) λ a=>qgK m a
def qlP:Nat->(TL->Z38):=qi (λ _=>none) λ m _=>qg3 m (qbP m m)
def qfK(m:Nat)(a:T):Z4 :=
 cond (ieq a.kind 3) (cond (qy a.name [109,117,108]) (some true) (cond (qy a.name [105,110,118]) (some true) (some (qy a.name [111,110,101])))) (some false)
def qbc:Nat->Z43:=qi (λ _=>none) λ m _=>qfK m
def qeD(m:Nat)(b:Z43)(e:qK1)(a:T):Z4 :=
 qa (qbc m (re a)) λ f=>cond (qe f) (some true) (let d:Z4:=(let c:Z4:=(cond (qy a.name [111,110,101]) (cond (qe (ieq a.kids.length 0)) (some false)
 (e a.kids.length 0 a.kind a.name a.sort a.kids)) (e a.kids.length 0 a.kind a.name a.sort a.kids));cond (qy a.name [105,110,118]) (cond (qe (ieq a.kids.length 1)) (some false) c) c);
 cond (qy a.name [109,117,108]) (cond (ilt a.kids.length 2) (some false) d) d)
def qer(m:Nat)(a:Z43)(j:qK1)(d b g:Int)(f:Y8)(e:Int)(c:TL):Z4 :=
 cond (ilt b d) (qa (qc c b) λ i=>qa (a (re i)) λ h=>cond (qe h) (some false) (j d (iw .i64 (qj b 1)) g f e c)) (some true)
def Jb(m:Nat)(a:Z43):=zb (λ _ _ _ _ _ _=>none) λ b=>qer m a b
def je:Nat->Z43:=qi (λ _=>none) λ m a=>qeD m a (Jb m a m)
def qgS(m:Nat)(d:qMh)(c:List (T × Int))(a:T)(b:Int):Z48 :=
 d b false 0 a.kind a.name a.sort a.kids c []
def qgJ(m:Nat)(i:qMh)(a:Int)(l:Bool)(h f:Int)(e:Y8)(d:Int)(c:TL)(g b:List (T × Int)):Z48 :=
 cond (ilt h g.length) (qa (qc g h) λ o=>qa (zD m (T.mk f e d c) (re o.1)) λ n=>let j1:Z48:=(qa (qc g h) λ j=>cond (ieq n 0)
 (cond (qe (ieq (iw .i64 (qj j.2 a)) 0)) (cond (zF (List.length b+1) 64) (i a true (iw .i64 (qj h 1)) f e d c g (b++[(re j.1,iw .i64 (qj j.2 a))])) none)
 (i a true (iw .i64 (qj h 1)) f e d c g b)) (cond (qe (ieq j.2 0)) (cond (zF (List.length b+1) 64) (i a l (iw .i64 (qj h 1)) f e d c g (b++[(re j.1,j.2)])) none)
 (i a l (iw .i64 (qj h 1)) f e d c g b)));cond (qe l) (cond (ilt n 0) (cond (zF (List.length b+1) 64) (qa (qc g h) λ k=>cond (ieq n 0) (cond (qe (ieq (iw .i64 (qj k.2 a)) 0))
 (cond (zF (List.length (b++[(T.mk f e d c,a)])+1) 64) (i a true (iw .i64 (qj h 1)) f e d c g ((b++[(T.mk f e d c,a)])++[(re k.1,iw .i64 (qj k.2 a))])) none)
 (i a true (iw .i64 (qj h 1)) f e d c g (b++[(T.mk f e d c,a)]))) (cond (qe (ieq k.2 0)) (cond (zF (List.length (b++[(T.mk f e d c,a)])+1) 64)
 (i a true (iw .i64 (qj h 1)) f e d c g ((b++[(T.mk f e d c,a)])++[(re k.1,k.2)])) none) (i a true (iw .i64 (qj h 1)) f e d c g (b++[(T.mk f e d c,a)])))) none) j1) j1)
 (cond (qe l) (cond (zF (List.length b+1) 64) (some ((()),(b++[(T.mk f e d c,a)],()))) none) (some ((()),(b,()))))
def JG(m:Nat):=zb (λ _ _ _ _ _ _ _ _ _=>none) λ a=>qgJ m a
def qia:Nat->qzS:=qi (λ _ _ _=>none) λ m _=>qgS m (JG m m)
def qcL(m:Nat)(a:qzS)(e:qLg)(d:List (T × Int))(b:T)(c:Int):Z48 :=
 qa (qbc m (re b)) λ g=>cond (qe g) (qa (qia m d (re b) c) λ f=>some ((()),(f.2.1,()))) (cond (qy b.name [105,110,118])
 (e (iw .i64 (zO 0 c)) 0 b.kind b.name b.sort b.kids d) (e c 0 b.kind b.name b.sort b.kids d))
def qcF(m:Nat)(a:qzS)(k:qLg)(e c h:Int)(g:Y8)(f:Int)(b:TL)(d:List (T × Int)):Z48 :=
 cond (ilt c b.length) (qa (qc b c) λ j=>qa (a d (re j) e) λ i=>k e (iw .i64 (qj c 1)) h g f b i.2.1) (some ((()),(d,())))
def Qd(m:Nat)(a:qzS):=zb (λ _ _ _ _ _ _ _=>none) λ b=>qcF m a b
def yg:Nat->qzS:=qi (λ _ _ _=>none) λ m a=>qcL m a (Qd m a m)
def qmn(m:Nat)(a:T):Z52 :=
 qa (jg m (re a)) λ c=>cond (qe (ieq c 0)) (some ([],c)) (qa (je m (re a)) λ d=>cond (qe d) (some ([],6)) (qa (yg m [] (re a) 1) λ b =>
 cond (ilt 200 b.2.1.length) (some ([],3)) (some (b.2.1,0))))
def qhl:Nat->Z53:=qi (λ _=>none) λ m _=>qmn m
def qeO(m:Nat)(b:qEn)(a:List (T × Int)):Z13 :=
 cond (ilt 200 a.length) (some 3) (b a 0)
def qeM(m:Nat)(e:qEn)(b:List (T × Int))(a:Int):Z13 :=
 cond (ilt a b.length) (qa (qc b a) λ n=>qa (jg m (re n.1)) λ d=>cond (qe (ieq d 0)) (some d) (qa (qc b a) λ l=>qa (qbc m (re l.1)) λ k=>cond k (some 1)
 (qa (qc b a) λ j=>cond (ieq j.2 0) (some 7) (qa (qc b a) λ i=>cond (ilt i.2 (-1000)) (some 7) (qa (qc b a) λ h=>cond (ilt 1000 h.2) (some 7) (cond (ilt 0 a)
 (qa (qc b (iw .i64 (zO a 1))) λ g=>qa (qc b a) λ f=>qa (zD m (re g.1) (re f.1)) λ c=>cond (ile 0 c) (some 5) (e b (iw .i64 (qj a 1))))
 (e b (iw .i64 (qj a 1))))))))) (some 0)
def Jd(m:Nat):=zb (λ _ _=>none) λ a=>qeM m a
def qdb:Nat->Z55:=qi (λ _=>none) λ m _=>qeO m (Jd m m)
def qb2(m:Nat)(b:qmo)(e:qmj)(d:qmo)(c:qmj)(a:List (T × Int)):Z32 :=
 b a 0 []
def qbX(m:Nat)(g:qmo)(e:qmj)(d:qmo)(f:qmj)(a:List (T × Int))(c:Int)(b:TL):Z32 :=
 cond (ilt c a.length) (e a c 0 b) (d a 0 b)
def qb0(m:Nat)(e:qmo)(h:qmj)(j:qmo)(i:qmj)(c:List (T × Int))(b d:Int)(a:TL):Z32 :=
 qa (qc c b) λ g=>cond (ilt d g.2) (cond (ilt a.length 9) (qa (qc c b) λ f=>cond (zF (List.length a+1) 56) (h c b (iw .i64 (qj d 1)) (a++[re f.1])) none)
 (e c (iw .i64 (qj b 1)) a)) (e c (iw .i64 (qj b 1)) a)
def qbS(m:Nat)(g:qmo)(f:qmj)(e:qmo)(d:qmj)(c:List (T × Int))(b:Int)(a:TL):Z32 :=
 cond (ilt b c.length) (d c b 0 a) (some a)
def qbW(m:Nat)(k:qmo)(j:qmj)(e:qmo)(i:qmj)(c:List (T × Int))(b d:Int)(a:TL):Z32 :=
 qa (qc c b) λ h=>cond (ilt d (iw .i64 (zO 0 h.2))) (cond (ilt a.length 9) (qa (qc c b) λ g=>qa (Qe m [105,110,118] [re g.1]) λ f=>cond (zF (List.length a+1) 56)
 (i c b (iw .i64 (qj d 1)) (a++[re f])) none) (e c (iw .i64 (qj b 1)) a)) (e c (iw .i64 (qj b 1)) a)
def ql(m:Nat):=zb ((λ _ _ _=>none,λ _ _ _ _=>none,λ _ _ _=>none,λ _ _ _ _=>none)) λ a=>(qbX m a.1 a.2.1 a.2.2.1 a.2.2.2,qb0 m a.1 a.2.1 a.2.2.1 a.2.2.2,qbS m a.1 a.2.1 a.2.2.1 a.2.2.2,qbW m a.1 a.2.1 a.2.2.1 a.2.2.2)
def qeB:Nat->(Z46->Z32):=qi (λ _=>none) λ m _=>qb2 m (ql m m).1 (ql m m).2.1 (ql m m).2.2.1 (ql m m).2.2.2
def qiy(m:Nat)(i:List (T × Int)):Z38 :=
 qa (qdb m i) λ h=>cond (qe (ieq h 0)) (some (T.mk 0 [] 0 [],h)) (qa (qeB m i) λ a=>cond (ilt 8 a.length) (some (T.mk 0 [] 0 [],3))
 (qa (Qe m [109,117,108] a) λ g=>let j1:Z38:=(qa (qc a 0) λ e=>qa (jg m (re e)) λ d=>cond (qe (ieq d 0)) (some (T.mk 0 [] 0 [],d)) (some (re e,0)));
 cond (ieq a.length 0) (qa (Qe m [111,110,101] []) λ f=>cond (ieq a.length 1) j1 (qa (jg m (re f)) λ c=>cond (qe (ieq c 0)) (some (T.mk 0 [] 0 [],c)) (some (re f,0))))
 (cond (ieq a.length 1) j1 (qa (jg m (re g)) λ b=>cond (qe (ieq b 0)) (some (T.mk 0 [] 0 [],b)) (some (re g,0))))))
def qcU:Nat->Z59:=qi (λ _=>none) λ m _=>qiy m
def qfI(m:Nat)(c:T):Z38 :=
 qa (qhl m (re c)) λ a=>cond (qe (ieq a.2 0)) (some (T.mk 0 [] 0 [],a.2)) (qa (qcU m a.1) λ b=>some (re b.1,b.2))
def qc5:Nat->Z65:=qi (λ _=>none) λ m _=>qfI m
def qcK(m:Nat)(b:qEn)(a:List (T × Int)):Z13 :=
 b a 0
def qcZ(m:Nat)(e:qEn)(a:List (T × Int))(b:Int):Z13 :=
 cond (ilt b a.length) (qa (qc a b) λ d=>cond (ilt d.2 (-1000)) (some 7) (qa (qc a b) λ c=>cond (ilt 1000 c.2) (some 7) (e a (iw .i64 (qj b 1))))) (cond (ilt 200 a.length) (some 3)
 (some 0))
def QZ(m:Nat):=zb (λ _ _=>none) λ a=>qcZ m a
def qfh:Nat->Z55:=qi (λ _=>none) λ m _=>qcK m (QZ m m)
def qg2(m:Nat)(e:qMn)(b a:List (T × Int)):Z52 :=
 qa (qdb m b) λ d=>cond (qe (ieq d 0)) (some ([],d)) (qa (qdb m a) λ c=>cond (qe (ieq c 0)) (some ([],c)) (cond (zF (List.length ([]:List (T × Int))+List.length b) 64)
 (qjs b (e a 0 []) λ g f=>e a 0 ([]++(g::f))) none))
def qgZ(m:Nat)(h:qMn)(b:List (T × Int))(a:Int)(c:List (T × Int)):Z52 :=
 cond (ilt a b.length) (qa (qc b a) λ g=>qa (qc b a) λ f=>qa (qia m c (re g.1) f.2) λ e=>h b (iw .i64 (qj a 1)) e.2.1) (qa (qfh m c) λ d =>
 cond (qe (ieq d 0)) (some ([],d)) (some (c,0)))
def qas(m:Nat):=zb (λ _ _ _=>none) λ a=>qgZ m a
def qli:Nat->Z63:=qi (λ _ _=>none) λ m _=>qg2 m (qas m m)
def qhL(m:Nat)(b l:T):Z38 :=
 qa (qhl m (re l)) λ a=>cond (qe (ieq a.2 0)) (some (T.mk 0 [] 0 [],a.2)) (qa (qbA m (re b) [101,120,112]) λ k=>cond k (qa (qc b.kids 1) λ j =>
 qa (qhl m (re j)) λ f=>cond (qe (ieq f.2 0)) (some (T.mk 0 [] 0 [],f.2)) (qa (qli m f.1 a.1) λ c=>cond (qe (ieq c.2 0)) (some (T.mk 0 [] 0 [],c.2))
 (qa (qc b.kids 0) λ h=>cond (ieq c.1.length 0) (some (re h,0)) (qa (qcU m c.1) λ e=>cond (qe (ieq e.2 0)) (some (T.mk 0 [] 0 [],e.2))
 (qa (Qe m [101,120,112] [re h,re e.1]) λ i=>some (re i,0)))))) (cond (ieq a.1.length 0) (some (re b,0)) (qa (qcU m a.1) λ d=>cond (qe (ieq d.2 0))
 (some (T.mk 0 [] 0 [],d.2)) (qa (Qe m [101,120,112] [re b,re d.1]) λ g=>some (re g,0)))))
def qhV:Nat->Z64:=qi (λ _ _=>none) λ m _=>qhL m
def qdy(m:Nat)(a:Z65)(c:qLf)(b:T):Z38 :=
 cond (qe (ieq b.kind 3)) (some (re b,0)) (c 0 b.kind b.name b.sort b.kids 0 [] 0 [] [])
def qdl(m:Nat)(a:Z65)(x:qLf)(f t:Int)(b:Y8)(s:Int)(e:TL)(r:Int)(q:Y8)(p:Int)(o c:TL):Z38 :=
 cond (ilt f e.length) (qa (qc e f) λ w=>qa (a (re w)) λ h=>cond (qe (ieq h.2 0)) (some (T.mk 0 [] 0 [],h.2)) (cond (zF (List.length c+1) 56)
 (x (iw .i64 (qj f 1)) t b s e r q p o (c++[re h.1])) none)) (qa (Qe m b c) λ g=>qa (qen m b) λ v=>cond (ieq v 3) (qa (qfm m (re g)) λ u =>
 some (re u.1,0)) (cond (qy b [120,111,114]) (qa (qlP m c) λ n=>some (re n.1,n.2)) (let k:Z38:=(qa (qc5 m (re g)) λ l=>some (re l.1,l.2));
 cond (qy b [109,117,108]) k (cond (qy b [105,110,118]) k (cond (qy b [111,110,101]) k (cond (qy b [101,120,112]) (qa (qc c 0) λ j=>qa (qc c 1) λ i =>
 qa (qhV m (re j) (re i)) λ d=>some (re d.1,d.2)) (some (re g,0))))))))
def Jt(m:Nat)(a:Z65):=zb (λ _ _ _ _ _ _ _ _ _ _=>none) λ b=>qdl m a b
def yY:Nat->Z65:=qi (λ _=>none) λ m a=>qdy m a (Jt m a m)
def qgt(m:Nat)(d:T):Z38 :=
 qa (qe9 m (re d)) λ c=>cond (qe (ieq c 0)) (some (T.mk 0 [] 0 [],c)) (qa (yY m (re d)) λ a=>cond (qe (ieq a.2 0)) (some (T.mk 0 [] 0 [],a.2))
 (qa (jg m (re a.1)) λ b=>cond (qe (ieq b 0)) (some (T.mk 0 [] 0 [],b)) (some (re a.1,0))))
def qg9:Nat->Z65:=qi (λ _=>none) λ m _=>qgt m
def qeU(m:Nat)(e:qLF)(a:T):Z4 :=
 qa (qg9 m (re a)) λ b=>cond (qe (ieq b.2 0)) (some false) (qa (Qp m (re a) (re b.1)) λ d=>cond (qe d) (some false) (qa (Qc m (re a)) λ c=>e c 0))
def qeL(m:Nat)(c:qLF)(b:TL)(a:Int):Z4 :=
 cond (ilt a b.length) (qa (qc b a) λ f=>cond (ieq f.kind 3) (qa (qc b a) λ e=>qa (qen m e.name) λ d=>cond (ieq d 3) (some false) (c b (iw .i64 (qj a 1))))
 (c b (iw .i64 (qj a 1)))) (some true)
def J6(m:Nat):=zb (λ _ _=>none) λ a=>qeL m a
def qhZ:Nat->Z43:=qi (λ _=>none) λ m _=>qeU m (J6 m m)
def qhN(m:Nat)(a:T):Z13 :=
 qa (qe9 m (re a)) λ b=>cond (qe (ieq b 0)) (some b) (qa (qgy m (re a)) λ d=>cond (qe d) (some 13) (qa (qhZ m (re a)) λ c=>cond (qe c) (some 10) (some 0)))
def qhX:Nat->Z14:=qi (λ _=>none) λ m _=>qhN m
def qu4(m:Nat):(Option (List Y8)) :=
 some [[112,97,105,114],[101,110,99],[97,101,110,99],[112,107],[115,105,103,110],[104,97,115,104],[120,111,114],[122,101,114,111],[101,120,112],[109,117,108],[105,110,118],[111,110,101],[115,107],[115,104,107],[110,101,119]]
def qrx:Nat->((Option (List Y8))):=qi (none) λ m _=>qu4 m
def qeE(m:Nat)(c:qLk)(b:Y8):Z13 :=
 qa (qrx m) λ a=>c b a 0
def qet(m:Nat)(e:qLk)(c:Y8)(b:List (Y8))(a:Int):Z13 :=
 cond (ilt a b.length) (qa (qc b a) λ d=>cond (qy d c) (some a) (e c b (iw .i64 (qj a 1)))) (some 0)
def J9(m:Nat):=zb (λ _ _ _=>none) λ a=>qet m a
def qh7:Nat->Z78:=qi (λ _=>none) λ m _=>qeE m (J9 m m)
def qfH(m:Nat)(a:Y8):Z4 :=
 cond (qy a [120,111,114]) (some true) (cond (qy a [109,117,108]) (some true) (some (qy a [110,101,119])))
def qfg:Nat->Z8:=qi (λ _=>none) λ m _=>qfH m
def qes(m:Nat)(b:qEo)(d:qLl)(a:T):Z79 :=
 cond (ieq a.kind 2) (cond (qjw (qH [iw .u8 a.sort,iw .u8 a.name.length]) a.name) (some ((qH [iw .u8 a.sort,iw .u8 a.name.length])++a.name)) none) (qa (qh7 m a.name) λ c =>
 qa (qfg m a.name) λ e=>cond e (cond (qjw (qH [iw .u8 (iw .i64 (qj 16 c))]) (qH [iw .u8 a.kids.length]))
 (d ((qH [iw .u8 (iw .i64 (qj 16 c))])++(qH [iw .u8 a.kids.length])) 0 a.kind a.name a.sort a.kids) none) (d (qH [iw .u8 (iw .i64 (qj 16 c))]) 0 a.kind a.name a.sort a.kids))
def qeG(m:Nat)(a:qEo)(j:qLl)(d:Y8)(c h:Int)(g:Y8)(f:Int)(b:TL):Z79 :=
 cond (ilt c b.length) (qa (qc b c) λ i=>qa (a (re i)) λ e=>cond (qjw d e) (j (d++e) (iw .i64 (qj c 1)) h g f b) none) (some d)
def Jf(m:Nat)(a:qEo):=zb (λ _ _ _ _ _ _=>none) λ b=>qeG m a b
def jb:Nat->qEo:=qi (λ _=>none) λ m a=>qes m a (Jf m a m)
def qgI(m:Nat)(b:T):Z75 :=
 qa (qhX m (re b)) λ a=>cond (qe (ieq a 0)) (some ([],a)) (qa (jb m (re b)) λ c=>some (c,0))
def qgO:Nat->(T->Z75):=qi (λ _=>none) λ m _=>qgI m
def qaG(m:Nat)(a:(Int) × (List (Int × (Int × (Y8 × Bool)))) × Unit)(b:Int):qMi :=
 cond (ilt b 0) (some (((a.1,a.2.1,()),()),([],4,()))) (cond (ile a.2.1.length b) (some (((a.1,a.2.1,()),()),([],4,()))) (qa (qc a.2.1 b) λ c =>
 some (((a.1,a.2.1,()),()),(c.2.2.1,0,()))))
def JX:Nat->(Z3->Int->qMi):=qi (λ _ _=>none) λ m _=>qaG m
def qbE(m:Nat)(h:T)(d:Int × (Int × Bool)):Z4 :=
 qa (qfc m) λ s=>let j1:Z4:=(qa (qfc m) λ r=>some r);cond (qe s) j1 (qa (qln m (re h)) λ q=>cond (qe q) j1 (qa (qh2 m 2) λ i=>let j2:Z4 :=
 (some false);qnq i.2.1 (cond (qe (ieq i.2.2.1 0)) j2 j2) λ o=>cond (qe (ieq i.2.2.1 0)) j2 (qa (Q3 m (o.1,o.2.1,()) 0 1 (re h)) λ e=>cond (qe (ieq e.2.2.1 0))
 (qa (qgO m (re h)) λ p=>some (ieq e.2.2.1 p.2)) (qa (JX m (e.1.1.1,e.1.1.2.1,()) e.2.1) λ f=>let j3:Z4:=(some (ieq f.2.2.1 0));
 cond (qe (ieq f.2.2.1 0)) j3 (cond (ilt d.1 0) j3 (cond (ile f.2.1.length d.1) j3 (qa (qc f.2.1 d.1) λ n =>
 cond (ieq ((UInt8.toNat n:Nat):Int) d.2.1) j3 (qa (jG m (f.1.1.1,f.1.1.2.1,()) e.2.1 d.1 d.2.1) λ c =>
 cond (qe (ieq c.2.1 0)) j2 (cond d.2.2 (qa (qc f.2.1 d.1) λ l=>qa (jG m (c.1.1.1,c.1.1.2.1,()) e.2.1 d.1 ((UInt8.toNat l:Nat):Int)) λ g =>
 cond (qe (ieq g.2.1 0)) j2 (qa (yp m (g.1.1.1,g.1.1.2.1,()) e.2.1) λ b=>cond d.2.2 (cond (ieq b.2.2.2.1 0) (cond (ieq b.2.2.1 1) (qa (Qp m (re b.2.1)
 (re h)) λ k=>some k) j2) j2) (cond (ieq b.2.2.2.1 19) (cond (ieq b.2.2.1 1) (some (ieq b.2.1.kind 0)) j2) j2))) (qa (yp m (c.1.1.1,c.1.1.2.1,()) e.2.1) λ a =>
 cond d.2.2 (cond (ieq a.2.2.2.1 0) (cond (ieq a.2.2.1 1) (qa (Qp m (re a.2.1) (re h)) λ j=>some j) j2) j2) (cond (ieq a.2.2.2.1 19) (cond (ieq a.2.2.1 1)
 (some (ieq a.2.1.kind 0)) j2) j2)))))))))))
def law31_NetworkSpoils:Nat->(T->(Int × (Int × Bool))->Z4):=qi (λ _ _=>none) λ m _=>qbE m
end
end Go.AmZ
namespace Go.AmZ
open Go Go.GxZ
def Ev{α : Type}(F:Nat->Nat->Option α)(r : α):Prop:=∃ B,∀ m k,B<=m->B<=k->F m k=some r
section
variable {α β : Type} {F G:Nat->Nat->Option α} {r : α}
theorem Ev.pure(r : α):Ev (λ _ _=>some r) r:=⟨0,λ _ _ _ _=>rfl⟩
theorem Ev.ret{r a : α}(h:r=a):Ev (λ _ _=>some r) a:=by subst h;exact .pure r
theorem Ev.bind{X:Nat->Nat->Option β}{K:Nat->Nat -> β -> Option α}{a : β}(h:Ev X a)(g:Ev (λ m k=>K m k a) r):Ev (λ m k=>qa (X m k) (K m k)) r:=by
 obtain⟨B,h⟩:=h;obtain⟨C,g⟩:=g;refine⟨max B C,λ m k b c=>?_⟩;simp only[h m k (by omega) (by omega),qa];exact g m k (by omega) (by omega)
theorem Ev.congr(h:Ev F r)(e:∀ m k,G m k=F m k):Ev G r:=by
 obtain⟨B,h⟩:=h;exact⟨B,λ m k a b=>(e m k).trans (h m k a b)⟩
theorem Ev.res{a : α}(h:Ev F r)(e:r=a):Ev F a:=by subst e;exact h
theorem Ev.succ{f:Nat->Option α}(h:Ev (λ m _=>f (m+1)) r):Ev (λ m _=>f m) r:=by
 obtain⟨B,h⟩:=h;refine⟨B+1,λ m k a b=>?_⟩;obtain⟨m,rfl⟩:∃ n,m=n+1:=⟨m-1,by omega⟩
 exact h m B (by omega) (wa _)
theorem Ev.loop{L:Nat->Nat->Option α}(h:Ev (λ m k=>L m (k+1)) r):Ev (λ m k=>L m k) r:=by
 obtain⟨B,h⟩:=h;refine⟨B+1,λ m k a b=>?_⟩;obtain⟨k,rfl⟩:∃ n,k=n+1:=⟨k-1,by omega⟩
 exact h m k (by omega) (by omega)
theorem Ev.diag{L:Nat->Nat->Option α}(h:Ev L r):Ev (λ m _=>L m m) r:=by
 obtain⟨B,h⟩:=h;exact⟨B,λ m k a _=>h m m a a⟩
theorem Ev.ct{b:Bool}(a:b=true)(h:Ev F r):Ev (λ m k=>cond b (F m k) (G m k)) r:=by subst a;exact h
theorem Ev.cf{b:Bool}(a:b=false)(h:Ev G r):Ev (λ m k=>cond b (F m k) (G m k)) r:=by subst a;exact h
theorem Ev.ite{b:Bool}(h:b=true->Ev F r)(g:b=false->Ev G r):Ev (λ m k=>cond b (F m k) (G m k)) r:=by
 cases b with
 | true=>exact h rfl
 | false=>exact g rfl
theorem Ev.some{x:Option β}{K:Nat->Nat -> β -> Option α}{a : β}(b:x=some a)(g:Ev (λ m k=>K m k a) r):Ev (λ m k=>qa x (K m k)) r:=by subst b;exact g
theorem Ev.case{l:List β}{K:Nat->Nat -> β -> List β -> Option α}(h:l=[]->Ev F r)(g:∀ x t,l=x::t->Ev (λ m k=>K m k x t) r):Ev (λ m k=>qjs l (F m k) (K m k)) r:=by
 cases l with
 | nil=>exact h rfl
 | cons x t=>exact g x t rfl
theorem Ev.get{x:Option α}(h:Ev (λ _ _=>x) r):x=Option.some r:=by
 obtain⟨B,h⟩:=h;exact h B B (wa _) (wa _)
end
theorem qw{a b:Int}:ilt a b=true↔a<b:=by unfold ilt;exact decide_eq_true_iff
theorem qt{a b:Int}:ilt a b=false↔b<=a:=by unfold ilt;rw[decide_eq_false_iff_not];omega
theorem qa1{a b:Int}:ile a b=true↔a<=b:=by unfold ile;exact decide_eq_true_iff
theorem qbv{a b:Int}:ile a b=false↔b<a:=by unfold ile;rw[decide_eq_false_iff_not];omega
theorem qk{a b:Int}:ieq a b=true↔a=b:=by unfold ieq;exact beq_iff_eq
theorem qg{a b:Int}:ieq a b=false↔a≠b:=by unfold ieq;exact beq_eq_false_iff_ne
theorem bnt{b:Bool}:qe b=true↔b=false:=by cases b<;>simp[qe]
theorem bnf{b:Bool}:qe b=false↔b=true:=by cases b<;>simp[qe]
theorem jf{a b:List UInt8}:qy a b=true↔a=b:=by unfold qy;exact beq_iff_eq
theorem jI{a b:List UInt8}:qy a b=false↔a≠b:=by unfold qy;exact beq_eq_false_iff_ne
theorem jJ{n:Int}(h:-9223372036854775808<=n/\n<=9223372036854775807):iw .i64 n=n:=IntWalk.i64_in n h
theorem qhq(a b:Nat):qj (a:Int) (b:Int)=((a+b:Nat):Int):=by unfold qj;omega
theorem qU{n b:Nat}(h:n*b<=2 ^ 47)(a:0<b):zF n b=true:=by
 unfold zF;rw[decide_eq_true_iff];refine⟨h,?_⟩;have:n*1<=n*b:=vQ _ a;omega
theorem zM{α : Type}(l:List α)(i:Nat):qc l (i:Int)=l[i]?:=by
 unfold qc;rw[if_pos (by omega),wJ]
theorem JS{α : Type}(l:List α):qc l 0=l[0]?:=zM l 0
theorem qs{α : Type}{P:Nat->Prop}(l:List α)(g:l.length<2 ^ 62)(e:ilt (l.length:Int) (l.length:Int)=false->P l.length)
  (b:∀(i:Nat) (x : α),l[i]?=some x->l.drop i=x::l.drop (i+1)->ilt (i:Int) (l.length:Int)=true->qc l (i:Int)=some x->iw .i64 (qj (i:Int) 1)=((i+1:Nat):Int)->P (i+1)->P i):∀ i,i<=l.length->P i:=by
 intro i h;obtain⟨d,j⟩:∃ d,l.length=i+d:=⟨l.length-i,by omega⟩
 induction d generalizing i with
 | zero =>
   have:i=l.length:=by omega
   subst this;exact e (qt.2 (vA _))
 | succ d f =>
   have c:i<l.length:=by omega
   have a:=List.getElem?_eq_getElem c;refine b i _ a (wac c) (qw.2 (by omega)) (by rw[zM,a]) ?_ (f (i+1) (by omega) (by omega));rw[show qj (i:Int) 1=((i+1:Nat):Int) by unfold qj;omega,jJ (by omega)]
abbrev wav:=@Ev.bind
abbrev waw:=@Ev.ite
abbrev wax:=@Ev.pure
abbrev way:=@Ev.some
abbrev waz:=@Ev.ct
abbrev waA:=@Ev.cf
abbrev waB:=@Ev.ret
abbrev waC:=@Ev.loop
abbrev waD:=@Ev.succ
abbrev waE:=@Ev.diag
end Go.AmZ
namespace Go.AmZ
open Go Go.GxZ
set_option linter.unusedVariables false
theorem qxx(m):qh2 (m+1)=qhh m:=rfl
theorem qk8(m):QC (m+1)=qaF m:=rfl
theorem qBk(m):qic (m+1)=qjV m:=rfl
theorem qyd(m):qda (m+1)=qek m (Qq m m):=rfl
theorem qmG(m k):(Qq m (k+1))=qez m (Qq m k):=rfl
theorem qAQ(m):yb (m+1)=qft m (yb m) (jz m (yb m) m):=rfl
theorem qox(m k):(jz m (yb m) (k+1))=qfs m (yb m) (jz m (yb m) k):=rfl
theorem qyD(m):yA (m+1)=qiA m:=rfl
theorem qtv(m):qc2 (m+1)=qcE m (QX m m):=rfl
theorem qka(m k):(QX m (k+1))=qcY m (QX m k):=rfl
theorem qu1(m):qD (m+1)=qdK m (qD m) (qQ m (qD m) m).1 (qQ m (qD m) m).2:=rfl
theorem qlZ(m k):(qQ m (qD m) (k+1)).1=qdH m (qD m) (qQ m (qD m) k).1 (qQ m (qD m) k).2:=rfl
theorem qlH(m k):(qQ m (qD m) (k+1)).2=qdM m (qD m) (qQ m (qD m) k).1 (qQ m (qD m) k).2:=rfl
theorem qwh(m):qd2 (m+1)=qgp m:=rfl
theorem qmv(m):qag (m+1)=qa9 m:=rfl
theorem qp9(m):zA (m+1)=qaY m (zA m) (jT m (zA m) m):=rfl
theorem qhd(m k):(jT m (zA m) (k+1))=qa0 m (zA m) (jT m (zA m) k):=rfl
theorem qBu(m):qd6 (m+1)=qkr m:=rfl
theorem qBB(m):Qb (m+1)=qgD m (Qb m) (qbG m (Qb m) m):=rfl
theorem qqj(m k):(qbG m (Qb m) (k+1))=qgU m (Qb m) (qbG m (Qb m) k):=rfl
theorem qvs(m):qA (m+1)=qdD m (qA m) (jW m (qA m) m):=rfl
theorem qgw(m k):(jW m (qA m) (k+1))=qbk m (qA m) (jW m (qA m) k):=rfl
theorem qcv(m):qY (m+1)=qqM (qA m):=rfl
theorem qr4(m):yX (m+1)=qeZ m:=rfl
theorem qbt(m):qG (m+1)=qtH (yX m):=rfl
theorem qyI(m):jp (m+1)=qfy m (jp m) (qaH m (jp m) m):=rfl
theorem qoz(m k):(qaH m (jp m) (k+1))=qfo m (jp m) (qaH m (jp m) k):=rfl
theorem qwi(m):qgN (m+1)=qdN m (JE m m):=rfl
theorem qlf(m k):(JE m (k+1))=qdF m (JE m k):=rfl
theorem qxR(m):qmh (m+1)=qhw m:=rfl
theorem qBs(m):ql7 (m+1)=qkl m:=rfl
theorem qx0(m):JJ (m+1)=qhe m:=rfl
theorem qBr(m):jl (m+1)=qku m:=rfl
theorem qrX(m):qct (m+1)=qe1 m:=rfl
theorem qfe(m):zJ (m+1)=yS m (qm m m).1 (qm m m).2:=rfl
theorem qaf(m k):(qm m (k+1)).1=yR m (qm m k).1 (qm m k).2:=rfl
theorem qad(m k):(qm m (k+1)).2=yT m (qm m k).1 (qm m k).2:=rfl
theorem qBR(m):qlr (m+1)=qgL m (qbD m m):=rfl
theorem qpS(m k):(qbD m (k+1))=qgn m (qbD m k):=rfl
theorem qEr(m):qkp (m+1)=qhR m (qcz m m):=rfl
theorem qrv(m k):(qcz m (k+1))=qh5 m (qcz m k):=rfl
theorem qu0(m):yy (m+1)=qdA m (yy m) (QB m (yy m) m):=rfl
theorem qk9(m k):(QB m (yy m) (k+1))=qdG m (yy m) (QB m (yy m) k):=rfl
theorem qwm(m):qgu (m+1)=qdB m (qau m m):=rfl
theorem qt8(m k):(qau m (k+1))=qgf m (qau m k):=rfl
theorem qGt(m):JY (m+1)=qjk m (JY m) (qed m (JY m) m):=rfl
theorem qub(m k):(qed m (JY m) (k+1))=qjf m (JY m) (qed m (JY m) k):=rfl
theorem qFi(m):qqI (m+1)=qjv m (qdR m m):=rfl
theorem qud(m k):(qdR m (k+1))=qji m (qdR m k):=rfl
theorem qqZ(m):qby (m+1)=qdQ m:=rfl
theorem qrW(m):zo (m+1)=qbY m (zo m) (Qv m (zo m) m):=rfl
theorem qiR(m k):(Qv m (zo m) (k+1))=qb8 m (zo m) (Qv m (zo m) k):=rfl
theorem qoS(m):qaa (m+1)=qcR m:=rfl
theorem QR(m):qI (m+1)=qE m (qn m m):=rfl
theorem ym(m k):(qn m (k+1))=qF m (qn m k):=rfl
theorem qq5(m):qbl (m+1)=qdV m:=rfl
theorem qpO(m):zl (m+1)=qaX m (zl m) (ji m (zl m) m):=rfl
theorem qhc(m k):(ji m (zl m) (k+1))=qaZ m (zl m) (ji m (zl m) k):=rfl
theorem qxU(m):qbB (m+1)=qhK m:=rfl
theorem qsO(m):qat (m+1)=qbV m (jP m m):=rfl
theorem qi5(m k):(jP m (k+1))=qb6 m (jP m k):=rfl
theorem qtG(m):Ja (m+1)=qcI m (qz m m).1 (qz m m).2.1 (qz m m).2.2:=rfl
theorem qkH(m k):(qz m (k+1)).1=qcW m (qz m k).1 (qz m k).2.1 (qz m k).2.2:=rfl
theorem qky(m k):(qz m (k+1)).2.1=qcA m (qz m k).1 (qz m k).2.1 (qz m k).2.2:=rfl
theorem qj4(m k):(qz m (k+1)).2.2=qcH m (qz m k).1 (qz m k).2.1 (qz m k).2.2:=rfl
theorem qrb(m):qdm (m+1)=qbx m (Qa m m):=rfl
theorem qim(m k):(Qa m (k+1))=qbj m (Qa m k):=rfl
theorem qoO(m):qbZ (m+1)=qc0 m:=rfl
theorem qbg(m):zQ (m+1)=zx m (qB m m):=rfl
theorem yr(m k):(qB m (k+1))=qW m (qB m k):=rfl
theorem qaB(m):zu (m+1)=ye m:=rfl
theorem qq1(m):qdn (m+1)=qd0 m:=rfl
theorem qvA(m):qgi (m+1)=qdv m (Jz m m):=rfl
theorem qlB(m k):(Jz m (k+1))=qdL m (Jz m k):=rfl
theorem qvr(m):qge (m+1)=qgo m:=rfl
theorem qtJ(m):yw (m+1)=qcN m (yw m) (Q5 m (yw m) m):=rfl
theorem qkf(m k):(Q5 m (yw m) (k+1))=qcG m (yw m) (Q5 m (yw m) k):=rfl
theorem qth(m):qfl (m+1)=qfT m:=rfl
theorem qsg(m):qel (m+1)=qeX m:=rfl
theorem qn9(m):qZ (m+1)=J1 m (qZ m) (yC m (qZ m) m):=rfl
theorem qf5(m k):(yC m (qZ m) (k+1))=JZ m (qZ m) (yC m (qZ m) k):=rfl
theorem qwl(m):qdZ (m+1)=qga m:=rfl
theorem qk6(m):qci (m+1)=qay m:=rfl
theorem Jq(m):qX (m+1)=qM m (qr m m):=rfl
theorem yO(m k):(qr m (k+1))=qL m (qr m k):=rfl
theorem qo9(m):yi (m+1)=qdh m:=rfl
theorem qdq(m):yq (m+1)=Qo m:=rfl
theorem qsa(m):zR (m+1)=qb5 m (zR m) (jN m (zR m) m):=rfl
theorem qiT(m k):(jN m (zR m) (k+1))=qbT m (zR m) (jN m (zR m) k):=rfl
theorem qq3(m):qdr (m+1)=qd7 m:=rfl
theorem qmL(m):Jp (m+1)=qbC m:=rfl
theorem qzL(m):qjt (m+1)=qfi m (qaJ m m):=rfl
theorem qoC(m k):(qaJ m (k+1))=qfA m (qaJ m k):=rfl
theorem qBh(m):qiq (m+1)=qkF m:=rfl
theorem qmi(m):Q3 (m+1)=qa8 m:=rfl
theorem qjm(m):j8 (m+1)=J2 m:=rfl
theorem qk0(m):jG (m+1)=qaM m:=rfl
theorem qBn(m):qll (m+1)=qkq m:=rfl
theorem qmk(m):zc (m+1)=qa3 m:=rfl
theorem qmb(m):QU (m+1)=Jo m (yc m m):=rfl
theorem qa4(m k):(yc m (k+1))=jZ m (yc m k):=rfl
theorem qbL(m):qv (m+1)=j7 m:=rfl
theorem qmq(m):jo (m+1)=qn0 (qv m) m:=rfl
theorem qra(m):qdu (m+1)=qdS m:=rfl
theorem qi8(m):yp (m+1)=J7 m:=rfl
theorem qvR(m):qaC (m+1)=qgC m:=rfl
theorem qAH(m):jn (m+1)=qfv m (jn m) (qaD m (jn m) m):=rfl
theorem qoB(m k):(qaD m (jn m) (k+1))=qfB m (jn m) (qaD m (jn m) k):=rfl
theorem quT(m):zD (m+1)=qcT m (zD m) (QY m (zD m) m):=rfl
theorem qkz(m k):(QY m (zD m) (k+1))=qcC m (zD m) (QY m (zD m) k):=rfl
theorem qzP(m):Qp (m+1)=qiI m:=rfl
theorem qv4(m):yW (m+1)=qdI m (yW m) (JF m (yW m) m):=rfl
theorem ql5(m k):(JF m (yW m) (k+1))=qdo m (yW m) (JF m (yW m) k):=rfl
theorem qBK(m):qlA (m+1)=qgx m (qbN m m):=rfl
theorem qpG(m k):(qbN m (k+1))=qgg m (qbN m k):=rfl
theorem qBj(m):qln (m+1)=qkg m:=rfl
theorem qye(m):jB (m+1)=qeA m (jB m) (J3 m (jB m) m):=rfl
theorem qna(m k):(J3 m (jB m) (k+1))=qeH m (jB m) (J3 m (jB m) k):=rfl
theorem qvE(m):qei (m+1)=qgm m:=rfl
theorem qxB(m):qh0 (m+1)=qhp m:=rfl
theorem qu3(m):qcl (m+1)=qdE m (Jv m m):=rfl
theorem qlY(m k):(Jv m (k+1))=qdx m (Jv m k):=rfl
theorem qAI(m):qja (m+1)=qiw m:=rfl
theorem qxY(m):jC (m+1)=qem m (jC m) (J4 m (jC m) m):=rfl
theorem qmH(m k):(J4 m (jC m) (k+1))=qeo m (jC m) (J4 m (jC m) k):=rfl
theorem qxK(m):jg (m+1)=qhx m:=rfl
theorem qyy(m):qen (m+1)=qfk m (qaS m m):=rfl
theorem qoy(m k):(qaS m (k+1))=qfn m (qaS m k):=rfl
theorem qyX(m):qjr (m+1)=qfD m (qaO m m):=rfl
theorem qoI(m k):(qaO m (k+1))=qfq m (qaO m k):=rfl
theorem qvx(m):qf9 (m+1)=qdC m (Jx m m):=rfl
theorem qlK(m k):(Jx m (k+1))=qds m (Jx m k):=rfl
theorem qya(m):jd (m+1)=qeS m (jd m) (Je m (jd m) m):=rfl
theorem qmZ(m k):(Je m (jd m) (k+1))=qeJ m (jd m) (Je m (jd m) k):=rfl
theorem qxQ(m):qe9 (m+1)=qhA m:=rfl
theorem qBg(m):Qc (m+1)=qg4 m (Qc m) (qbM m (Qc m) m):=rfl
theorem qpi(m k):(qbM m (Qc m) (k+1))=qgR m (Qc m) (qbM m (Qc m) k):=rfl
theorem qBQ(m):qit (m+1)=qgj m (qbK m m):=rfl
theorem qpQ(m k):(qbK m (k+1))=qgY m (qbK m k):=rfl
theorem qBl(m):qlF (m+1)=qgQ m (qbH m m):=rfl
theorem qpn(m k):(qbH m (k+1))=qgB m (qbH m k):=rfl
theorem qz0(m):qjn (m+1)=qfr m (qax m m):=rfl
theorem qoK(m k):(qax m (k+1))=qfz m (qax m k):=rfl
theorem qy8(m):qju (m+1)=qiF m:=rfl
theorem qvj(m):qgy (m+1)=qgG m:=rfl
theorem qBA(m):Qe (m+1)=qkj m:=rfl
theorem qDZ(m):qbA (m+1)=qmd m:=rfl
theorem qs7(m):qfm (m+1)=qfS m:=rfl
theorem qx1(m):qh1 (m+1)=qeN m (J8 m m):=rfl
theorem qmz(m k):(J8 m (k+1))=qeF m (J8 m k):=rfl
theorem qz4(m):qi7 (m+1)=qiz m:=rfl
theorem qBS(m):ql6 (m+1)=qgl m (qbJ m m):=rfl
theorem qqm(m k):(qbJ m (k+1))=qgk m (qbJ m k):=rfl
theorem qvV(m):qgz (m+1)=qdp m (JC m m):=rfl
theorem qlb(m k):(JC m (k+1))=qdw m (JC m k):=rfl
theorem qA5(m):qgH (m+1)=qfx m (JU m m):=rfl
theorem qoL(m k):(JU m (k+1))=qfp m (JU m k):=rfl
theorem qsF(m):zW (m+1)=qbU m (zW m) (jL m (zW m) m):=rfl
theorem qiW(m k):(jL m (zW m) (k+1))=qb7 m (zW m) (jL m (zW m) k):=rfl
theorem qAC(m):qjB (m+1)=qix m:=rfl
theorem qBw(m):qlP (m+1)=qg3 m (qbP m m):=rfl
theorem qp8(m k):(qbP m (k+1))=qgK m (qbP m k):=rfl
theorem qtx(m):qbc (m+1)=qfK m:=rfl
theorem qxP(m):je (m+1)=qeD m (je m) (Jb m (je m) m):=rfl
theorem qmM(m k):(Jb m (je m) (k+1))=qer m (je m) (Jb m (je m) k):=rfl
theorem qBF(m):qia (m+1)=qgS m (JG m m):=rfl
theorem qqc(m k):(JG m (k+1))=qgJ m (JG m k):=rfl
theorem quK(m):yg (m+1)=qcL m (yg m) (Qd m (yg m) m):=rfl
theorem qkv(m k):(Qd m (yg m) (k+1))=qcF m (yg m) (Qd m (yg m) k):=rfl
theorem qDs(m):qhl (m+1)=qmn m:=rfl
theorem qx8(m):qdb (m+1)=qeO m (Jd m m):=rfl
theorem qmO(m k):(Jd m (k+1))=qeM m (Jd m k):=rfl
theorem qsL(m):qeB (m+1)=qb2 m (ql m m).1 (ql m m).2.1 (ql m m).2.2.1 (ql m m).2.2.2:=rfl
theorem qiY(m k):(ql m (k+1)).1=qbX m (ql m k).1 (ql m k).2.1 (ql m k).2.2.1 (ql m k).2.2.2:=rfl
theorem qi2(m k):(ql m (k+1)).2.1=qb0 m (ql m k).1 (ql m k).2.1 (ql m k).2.2.1 (ql m k).2.2.2:=rfl
theorem qi3(m k):(ql m (k+1)).2.2.1=qbS m (ql m k).1 (ql m k).2.1 (ql m k).2.2.1 (ql m k).2.2.2:=rfl
theorem qiX(m k):(ql m (k+1)).2.2.2=qbW m (ql m k).1 (ql m k).2.1 (ql m k).2.2.1 (ql m k).2.2.2:=rfl
theorem qAx(m):qcU (m+1)=qiy m:=rfl
theorem qt4(m):qc5 (m+1)=qfI m:=rfl
theorem qun(m):qfh (m+1)=qcK m (QZ m m):=rfl
theorem qj8(m k):(QZ m (k+1))=qcZ m (QZ m k):=rfl
theorem qBt(m):qli (m+1)=qg2 m (qas m m):=rfl
theorem qp4(m k):(qas m (k+1))=qgZ m (qas m k):=rfl
theorem qxT(m):qhV (m+1)=qhL m:=rfl
theorem qvw(m):yY (m+1)=qdy m (yY m) (Jt m (yY m) m):=rfl
theorem ql9(m k):(Jt m (yY m) (k+1))=qdl m (yY m) (Jt m (yY m) k):=rfl
theorem qwe(m):qg9 (m+1)=qgt m:=rfl
theorem qxy(m):qhZ (m+1)=qeU m (J6 m m):=rfl
theorem qm6(m k):(J6 m (k+1))=qeL m (J6 m k):=rfl
theorem qxC(m):qhX (m+1)=qhN m:=rfl
theorem qx9(m):qh7 (m+1)=qeE m (J9 m m):=rfl
theorem qmE(m k):(J9 m (k+1))=qet m (J9 m k):=rfl
theorem qtC(m):qfg (m+1)=qfH m:=rfl
theorem qx7(m):jb (m+1)=qes m (jb m) (Jf m (jb m) m):=rfl
theorem qmA(m k):(Jf m (jb m) (k+1))=qeG m (jb m) (Jf m (jb m) k):=rfl
theorem qvN(m):qgO (m+1)=qgI m:=rfl
theorem qk4(m):JX (m+1)=qaG m:=rfl
theorem qmW(m):law31_NetworkSpoils (m+1)=qbE m:=rfl
end Go.AmZ
namespace Go.AmZ
open Go Go.GxZ
def ckS(p:Int × Int)(c:UInt8):Int × Int:=((p.1+c.toNat) % 65521,(p.2+(p.1+c.toNat) % 65521) % 65521)
def ckF(l:List UInt8):Int × Int:=l.foldl ckS (1,0)
def InC(p:Int × Int):Prop:=0<=p.1/\p.1<65521/\0<=p.2/\p.2<65521
theorem qK8{p:Int × Int}(c:UInt8)(h:InC p):InC (ckS p c):=by
 obtain⟨e,d,b,a⟩:=h;unfold ckS InC;simp only;omega
theorem qyz:∀(l:List UInt8) (p:Int × Int),InC p->InC (l.foldl ckS p)
 | [],_,h=>h
 | c::l,p,h=>qyz l _ (qK8 c h)
theorem quL(l:List UInt8):InC (ckF l):=qyz l _ (by unfold InC;omega)
theorem qJO{p:Int × Int}(c:UInt8)(h:InC p):qmm (iw .u32 (qj p.1 (iw .u32 ((UInt8.toNat c:Nat):Int)))) 65521=(ckS p c).1 /\
  qmm (iw .u32 (qj p.2 (qmm (iw .u32 (qj p.1 (iw .u32 ((UInt8.toNat c:Nat):Int)))) 65521))) 65521=(ckS p c).2:=by
 obtain⟨j,i,g,f⟩:=h;have e:c.toNat<256:=c.toNat_lt;have e1:iw .u32 ((UInt8.toNat c:Nat):Int)=((UInt8.toNat c:Nat):Int):=IntWalk.u32_in _ (by omega);have d:iw .u32 (qj p.1 ((UInt8.toNat c:Nat):Int))=p.1+((UInt8.toNat c:Nat):Int):=IntWalk.u32_in _ (by unfold qj;omega);have b:qmm (p.1+((UInt8.toNat c:Nat):Int)) 65521=(p.1+((UInt8.toNat c:Nat):Int)) % 65521:=IntWalk.rem_in _ _ (by omega);rw[e1,d,b];refine⟨rfl,?_⟩;have a:iw .u32 (qj p.2 ((p.1+((UInt8.toNat c:Nat):Int)) % 65521))=p.2+(p.1+((UInt8.toNat c:Nat):Int)) % 65521:=IntWalk.u32_in _ (by unfold qj;omega);rw[a];exact IntWalk.rem_in _ _ (by omega)
def ckN(p:Int × Int):Int:=65536*p.2+p.1
theorem qME{p:Int × Int}(h:InC p):qkP .or .u32 (qvM .u32 p.2 16) p.1=ckN p:=by
 obtain⟨h1,h2,h3,h4⟩:=h;obtain⟨a,ha⟩:=ky h1;obtain⟨b,hb⟩:=ky h3
 have e1:qvM .u32 p.2 16=((b*65536:Nat):Int):=by
  show IntKind.u32.wrap (p.2*2 ^ (min (16:Int).toNat 32))=_;rw[show(2:Int) ^ (min (16:Int).toNat 32)=65536 from rfl,IntWalk.u32_in _ (by omega),hb];omega
 rw[e1,ha];show IntKind.u32.wrap ((BitVec.ofInt 32 ((b*65536:Nat):Int) ||| BitVec.ofInt 32 (a:Int)).toNat:Int)=_
 have e2:(BitVec.ofInt 32 ((b*65536:Nat):Int) ||| BitVec.ofInt 32 (a:Int)).toNat=b*65536+a:=by
  rw[BitVec.ofInt_natCast,BitVec.ofInt_natCast,BitVec.toNat_or,BitVec.toNat_ofNat,BitVec.toNat_ofNat,xp (by omega),xp (by omega)];have:=Nat.two_pow_add_eq_or_of_lt (i:=16) (b:=a) (by omega) b;rw[show(2:Nat) ^ 16=65536 from rfl]at this;rw[xF b 65536];exact this.symm
 rw[e2,IntWalk.u32_in _ (by omega)];unfold ckN;omega
theorem qMq{p:Int × Int}(h:InC p):0<=ckN p/\ckN p<4294967296:=by
 obtain⟨d,c,b,a⟩:=h;unfold ckN;omega
theorem qEN{l:List UInt8}{i:Nat}{x:UInt8}(h:l[i]?=some x)(p:Int × Int):(l.take (i+1)).foldl ckS p=ckS ((l.take i).foldl ckS p) x:=by
 rw[List.take_succ_eq_append_getElem (List.getElem?_eq_some_iff.1 h).1,xk,(List.getElem?_eq_some_iff.1 h).2];rfl
theorem qGC(s:List UInt8)(d:s.length<2 ^ 62):Ev (λ m _=>qjt m s) (ckN (ckF s)):=by
 refine waD ?_;simp only[qzL,qfi]
 have a:=qs (P := λ i=>Ev (λ m k=>qaJ m k s ((s.take i).foldl ckS (1,0)).1 ((s.take i).foldl ckS (1,0)).2 s.length i) (ckN (ckF s))) s d
  (λ b=>by
   refine waC ?_;simp only[qoC,qfA];refine waA b (waB ?_);rw[wE];exact qME (quL s))
  (λ i x c j b f e g=>by
   refine waC ?_;simp only[qoC,qfA];refine waz b (way f ?_);obtain⟨e1,h⟩:=qJO x (qyz (s.take i) (1,0) (by unfold InC;omega));rw[e,h,e1,<- qEN c];exact g)
 exact waE (L := λ m k=>qaJ m k s 1 0 s.length 0) (a 0 (we _))
def ckB(v:Int):List UInt8:=qH [v / 16777216 % 256,v / 65536 % 256,v / 256 % 256,v % 256]
def yB(s:List UInt8):List UInt8:=ckB (ckN (ckF s))++s
theorem qp2(s:List UInt8):(yB s).length=s.length+4:=by
 unfold yB ckB qH;rw[wc,wC];show 4+s.length=_;omega
theorem qDx{v:Int}(n:Nat)(hn:n<=32):qa7 .u32 v (n:Int)=v / (2:Int) ^ n:=by
 show v.fdiv (2 ^ (min ((n:Nat):Int).toNat 32))=_;rw[wJ,kN hn];exact vY v (by exact Int.le_of_lt (Int.pow_pos (by decide)))
theorem iw8(v:Int):iw .u8 v=v % 256:=IntKind.wrap_u8 v
theorem qDG{v:Int}(h:0<=v/\v<4294967296):qH [iw .u8 (qa7 .u32 v 24),iw .u8 (qa7 .u32 v 16),iw .u8 (qa7 .u32 v 8),iw .u8 v]=ckB v:=by
 have e1:=qDx (v:=v) 24 (by omega);have b:=qDx (v:=v) 16 (by omega);have a:=qDx (v:=v) 8 (by omega);rw[show qa7 .u32 v 24=v / 16777216 from e1,show qa7 .u32 v 16=v / 65536 from b,show qa7 .u32 v 8=v / 256 from a,iw8,iw8,iw8,iw8];rfl
theorem qqS{a b:List UInt8}(h:a.length+b.length<2 ^ 62):qjw a b=true:=by
 unfold qjw;rw[decide_eq_true_iff,show IntKind.i64.max=9223372036854775807 from rfl];omega
theorem qC2(s:List UInt8)(a:s.length<=2 ^ 61):Ev (λ m _=>qiq m s) (yB s):=by
 refine waD ?_;simp only[qBh,qkF];refine wav (qGC s (by omega)) ?_;rw[qDG (qMq (quL s))];exact waz (qqS (by show 4+s.length<_;omega)) (wax _)
end Go.AmZ
namespace Go.GxZ
def size:T->Nat:=T.para λ _ a=>1+a.sum
theorem qR(t:T):size t=1+(t.kids.map size).sum:=T.para_eq _ _
theorem size_pos(t:T):1<=size t:=by rw[qR];omega
theorem qDD(l:List T):l.length<=(l.map size).sum:=by
 induction l with
 | nil=>simp
 | cons x l a=>have:=size_pos x;simp only[wu,wm,kD];omega
theorem qjd(l:List T)(x:T)(h:x∈l):size x<=(l.map size).sum:=by
 induction l with
 | nil=>cases h
 | cons y l a =>
   simp only[wm,kD];rcases wy.1 h with rfl | h
   ·omega
   ·have:=a h;omega
theorem jy(t:T)(x:T)(h:x∈t.kids):size x<size t:=by
 have:=qjd t.kids x h;rw[qR t];omega
theorem yt(t:T):t.kids.length<size t:=by
 have:=qDD t.kids;rw[qR t];omega
def sgn(a b:Int):Int:=if a<b then -1 else if b<a then 1 else 0
def thn(x y:Int):Int:=if x=0 then y else x
structure Cmp {α : Type} (f : α -> α -> Int):Prop where
 rng:∀ a b,f a b=-1\/f a b=0\/f a b=1
 anti:∀ a b,f b a=- f a b
 trans:∀ a b c,f a b=-1->f b c=-1->f a c=-1
 same:∀ a b c,f a b=0->f b c=f a c
theorem Cmp.thn{α : Type}{f g : α -> α -> Int}(d:Cmp f)(l:Cmp g):Cmp λ a b=>thn (f a b) (g a b):=by
 constructor
 ·intro a b;have:=d.rng a b;have:=l.rng a b;unfold GxZ.thn;split<;>omega
 ·intro a b;have:=d.anti a b;have:=l.anti a b;unfold GxZ.thn;split<;>split<;>omega
 ·intro a b c k j;have p:=d.anti a b;have a2:=d.anti b c;have a3:=d.anti a c;have n:=d.trans a b c;have t2:=l.trans a b c;have m:=d.same a b c;have s2:=d.same c b a;have o:=d.rng a b;have r2:=d.rng b c;have r3:=d.rng a c;unfold GxZ.thn at k j |-
  by_cases i:f a b=0
  ·by_cases e:f b c=0
   ·rw[if_pos i]at k;rw[if_pos e]at j;rw[if_pos (by rw[<- m i];exact e)];exact t2 k j
   ·rw[if_neg e]at j;rw[if_neg (by rw[<- m i];exact e),<- m i];exact j
  ·rw[if_neg i]at k;by_cases e:f b c=0
   ·have:=s2 (by omega);rw[if_neg (by omega)];omega
   ·rw[if_neg e]at j;have:=n k j;rw[if_neg (by omega)];exact this
 ·intro a b c h
  have i:f a b=0:=by
   unfold GxZ.thn at h;split at h
   ·assumption
   ·exact absurd h (by assumption)
  have e:g a b=0:=by
   unfold GxZ.thn at h
   rwa [if_pos i]at h
  show GxZ.thn _ _=GxZ.thn _ _;rw[d.same a b c i,l.same a b c e]
theorem Cmp.on{α d:Type}{f:d->d->Int}(c:Cmp f)(p : α -> d):Cmp λ a b=>f (p a) (p b) :=
 ⟨λ _ _=>c.rng _ _,λ _ _=>c.anti _ _,λ _ _ _=>c.trans _ _ _,λ _ _ _=>c.same _ _ _⟩
theorem qqO:Cmp sgn:=by
 constructor
 ·intro a b;unfold sgn;split<;>(try split)<;>omega
 ·intro a b;unfold sgn;split<;>split<;>(try split)<;>omega
 ·intro a b c;unfold sgn;split<;>split<;>(try split)<;>(try split)<;>omega
 ·intro a b c;unfold sgn;split<;>split<;>(try split)<;>(try split)<;>omega
theorem qj2{a b:Int}(h:sgn a b=0):a=b:=by unfold sgn at h;split at h<;>(try split at h)<;>omega
theorem qJe(a:Int):sgn a a=0:=by unfold sgn;split<;>(try split)<;>omega
open Lib (compareBytes)
theorem qxf(a:List UInt8):compareBytes a a=0:=by
 induction a with
 | nil=>rfl
 | cons x a b=>simp[compareBytes,b]
theorem qnV:∀ a b:List UInt8,compareBytes a b=-1\/compareBytes a b=0\/compareBytes a b=1
 | [],[]=>by simp[compareBytes]
 | [],_::_=>by simp[compareBytes]
 | _::_,[]=>by simp[compareBytes]
 | x::a,y::b=>by
   unfold compareBytes;split
   ·simp
   ·split
    ·simp
    ·exact qnV a b
theorem qxd:∀ a b:List UInt8,compareBytes b a=- compareBytes a b
 | [],[]=>by simp[compareBytes]
 | [],_::_=>by simp[compareBytes]
 | _::_,[]=>by simp[compareBytes]
 | x::a,y::b=>by
   have:=qxd a b;unfold compareBytes;simp only[xY];split<;>split<;>(try split)<;>omega
theorem qlE:∀ a b:List UInt8,compareBytes a b=0->a=b
 | [],[],_=>rfl
 | [],_::_,h=>by simp[compareBytes]at h
 | _::_,[],h=>by simp[compareBytes]at h
 | x::a,y::b,h=>by
   unfold compareBytes at h;simp only[xY]at h;split at h
   ·omega
   ·split at h
    ·omega
    ·rw[qlE a b h,wal.1 (show x.toNat=y.toNat by omega)]
theorem qtl:∀ a b c:List UInt8,compareBytes a b=-1->compareBytes b c=-1->compareBytes a c=-1
 | [],_,[],h1,h2=>by
   rename_i b;cases b<;>simp[compareBytes]at h1 h2
 | [],_,_::_,_,_=>by simp[compareBytes]
 | _::_,[],_,h1,_=>by simp[compareBytes]at h1
 | _::_,_::_,[],_,h2=>by simp[compareBytes]at h2
 | x::a,y::b,z::c,h1,h2=>by
   have ih:=qtl a b c;unfold compareBytes at h1 h2 |-
   simp only[xY]at h1 h2 |-
   split at h1
   ·split at h2
    ·rw[if_pos (by omega)]
    ·split at h2
     ·omega
     ·rw[if_pos (by omega)]
   ·split at h1
    ·omega
    ·split at h2
     ·rw[if_pos (by omega)]
     ·split at h2
      ·omega
      ·rw[if_neg (by omega),if_neg (by omega)];exact ih h1 h2
theorem qIq:Cmp compareBytes :=
 ⟨qnV,qxd,qtl,λ a b c h=>by rw[qlE a b h]⟩
def Q4:List (T->Int)->List T->Int
 | r::a,b::c=>thn (r b) (Q4 a c)
 | _,_=>0
def qiM(a b:T):Int :=
 thn (sgn (size a) (size b)) (thn (sgn a.kind b.kind) (thn (compareBytes a.name b.name) (thn (sgn a.sort b.sort) (sgn a.kids.length b.kids.length))))
def qp:T->T->Int:=T.para λ a c b=>thn (qiM a b) (Q4 c b.kids)
theorem qfV(a b:T):qp a b=thn (qiM a b) (Q4 (a.kids.map qp) b.kids):=congrFun (T.para_eq _ _) b
theorem qd5:Cmp qiM :=
 (qqO.on λ t:T=>(size t:Int)).thn ((qqO.on T.kind).thn ((qIq.on T.name).thn ((qqO.on T.sort).thn (qqO.on λ t:T=>(t.kids.length:Int)))))
theorem qfG{x y:Int}(h:thn x y=0):x=0/\y=0:=by unfold thn at h;split at h<;>omega
theorem qpI{a b:T}(h:qiM a b=0):a.kind=b.kind/\a.name=b.name/\a.sort=b.sort/\a.kids.length=b.kids.length:=by
 unfold qiM at h;obtain⟨_,h⟩:=qfG h;obtain⟨f,h⟩:=qfG h;obtain⟨e,h⟩:=qfG h;obtain⟨d,c⟩:=qfG h;have:=qj2 c;exact⟨qj2 f,qlE _ _ e,qj2 d,by omega⟩
theorem qFE(a:T):qiM a a=0:=by
 unfold qiM thn;simp[qJe,qxf]
theorem T.ext{a b:T}(f:a.kind=b.kind)(e:a.name=b.name)(d:a.sort=b.sort)(c:a.kids=b.kids):a=b:=by
 obtain⟨k,n,s,l⟩:=a;obtain⟨j,h,g,i⟩:=b;simp only[T.kind,T.name,T.sort,T.kids]at f e d c;rw[f,e,d,c]
theorem qqa(a:T):qp a a=0:=by
 refine T.ind (P := λ a=>qp a a=0) ?_ a;intro a c;rw[qfV,qFE,thn,if_pos rfl];generalize a.kids=l at *
 induction l with
 | nil=>rfl
 | cons x l b =>
   rw[wm,Q4,c x (wh ..),thn,if_pos rfl];exact b λ k d=>c k (wg _ d)
theorem qar(a:T):∀ b,qp a b=0->a=b:=by
 refine T.ind (P := λ a=>∀ b,qp a b=0->a=b) ?_ a;intro a e b h;rw[qfV]at h;obtain⟨g,f⟩:=qfG h;obtain⟨n,j,i,c⟩:=qpI g;refine T.ext n j i ?_;generalize a.kids=l at *;generalize b.kids=m at *;clear h g
 induction l generalizing m with
 | nil=>exact(ko.1 c.symm).symm
 | cons x l d =>
   cases m with
   | nil=>simp at c
   | cons y m =>
     rw[wm,Q4]at f;obtain⟨q,p⟩:=qfG f;rw[e x (wh ..) y q,d (λ k o=>e k (wg _ o)) m p (by simpa using c)]
def qta(a:T):Prop:=(∀ b,qp a b=-1\/qp a b=0\/qp a b=1)/\(∀ b,qp b a=- qp a b)/\(∀ b c,qp a b=-1->qp b c=-1->qp a c=-1)
theorem qzt:∀ l m:List T,(∀ k∈l,qta k)->Q4 (l.map qp) m=-1\/Q4 (l.map qp) m=0\/Q4 (l.map qp) m=1
 | [],_,_=>by simp[Q4]
 | _::_,[],_=>by simp[Q4]
 | x::l,y::m,h=>by
   rw[wm,Q4];have c:=(h x (wh ..)).1 y;have b:=qzt l m λ k a=>h k (wg _ a);unfold thn;split<;>omega
theorem qxq:∀ l m:List T,(∀ k∈l,qta k)->Q4 (m.map qp) l=- Q4 (l.map qp) m
 | [],[],_=>by simp[Q4]
 | [],_::_,_=>by simp[Q4]
 | _::_,[],_=>by simp[Q4]
 | x::l,y::m,h=>by
   rw[wm,Q4,wm,Q4];have c:=(h x (wh ..)).2.1 y;have b:=qxq l m λ k a=>h k (wg _ a);unfold thn;split<;>split<;>omega
theorem qtf:∀ l m n:List T,(∀ k∈l,qta k)->l.length=m.length->m.length=n.length->Q4 (l.map qp) m=-1->Q4 (m.map qp) n=-1->Q4 (l.map qp) n=-1
 | [],_,_,_,_,_,h,_=>by simp[Q4]at h
 | _::_,[],_,_,h,_,_,_=>by simp at h
 | _::_,_::_,[],_,_,h,_,_=>by simp at h
 | x::l,y::m,z::n,h,e1,j,b,a=>by
   rw[wm,Q4]at b a |-
   have g:=h x (wh ..);have f:=qtf l m n (λ k i=>h k (wg _ i)) (by simpa using e1) (by simpa using j);have e:=g.2.2 y z;by_cases d:qp x y=0
   ·have:=qar x y d;subst this;rw[thn,if_pos d]at b;by_cases c:qp x z=0
    ·rw[thn,if_pos c]at a |-
     exact f b a
    ·rw[thn,if_neg c]at a |-
     exact a
   ·rw[thn,if_neg d]at b;by_cases c:qp y z=0
    ·have:=qar y z c;subst this;rw[thn,if_neg d];exact b
    ·rw[thn,if_neg c]at a;have:=e b a;rw[thn,if_neg (by omega)];exact this
theorem qEL(a:T):qta a:=by
 refine T.ind (P:=qta) ?_ a;intro a i;refine⟨λ b=>?_,λ b=>?_,λ b c g d=>?_⟩
 ·rw[qfV];have g:=qd5.rng a b;have d:=qzt a.kids b.kids i;unfold thn;split<;>omega
 ·rw[qfV,qfV];have g:=qd5.anti a b;have d:=qxq a.kids b.kids i;unfold thn;split<;>split<;>omega
 ·rw[qfV]at g d |-
  by_cases h:qiM a b=0
  ·rw[thn,if_pos h]at g;have e:=qd5.same a b c h;by_cases f:qiM b c=0
   ·rw[thn,if_pos f]at d;rw[thn,if_pos (by rw[<- e];exact f)];exact qtf _ _ _ i (qpI h).2.2.2 (qpI f).2.2.2 g d
   ·rw[thn,if_neg f]at d;rw[thn,if_neg (by rw[<- e];exact f),<- e];exact d
  ·rw[thn,if_neg h]at g;by_cases f:qiM b c=0
   ·have e1:=qd5.anti b c;have l:=qd5.same c b a (by omega);have k:=qd5.anti a b;have j:=qd5.anti a c;rw[thn,if_neg (by omega)];omega
   ·rw[thn,if_neg f]at d;have:=qd5.trans a b c g d;rw[thn,if_neg (by omega)];exact this
theorem ya:Cmp qp :=
 ⟨λ a=>(qEL a).1,λ a b=>(qEL a).2.1 b,λ a=>(qEL a).2.2,λ a b c h=>by rw[qar a b h]⟩
theorem qHR(a b:T):qp a b=0↔a=b:=⟨qar a b,λ h=>by rw[h];exact qqa b⟩
theorem qoJ:∀ a b:List UInt8,Op.bytesLess a b=decide (compareBytes a b=-1)
 | [],[]=>by simp[Op.bytesLess,compareBytes]
 | [],_::_=>by simp[Op.bytesLess,compareBytes]
 | _::_,[]=>by simp[Op.bytesLess,compareBytes]
 | x::a,y::b=>by
   rw[Op.bytesLess,compareBytes,qoJ a b];by_cases d:x<y
   ·simp[d]
   ·by_cases c:y<x
    ·have:¬ x=y := λ e=>by rw[e]at c;exact d (by rw[e];exact c)
     simp[d,c,this]
    ·have:x=y:=wal.1 (by rw[xY]at d c;omega);simp[this]
end Go.GxZ
namespace Go.GxZ
def qkW:List (Int->Int)->Int->Int
 | [],m=>m
 | f::a,m=>if f m<0 then -1 else qkW a (f m)
def qa5:T->Int->Int:=T.para λ t a m=>if m<=0\/40<t.name.length then -1 else qkW a (m-1)
theorem qDp(t:T)(m:Int):qa5 t m=if m<=0\/40<t.name.length then -1 else qkW (t.kids.map qa5) (m-1):=congrFun (T.para_eq _ _) m
theorem qo3(t:T):∀ m,qa5 t m<0/\qa5 t m=-1\/0<=qa5 t m/\qa5 t m=m-size t:=by
 refine T.ind (P := λ t=>∀ m,qa5 t m<0/\qa5 t m=-1\/0<=qa5 t m/\qa5 t m=m-size t) ?_ t;intro t e m
 have g:∀ l:List T,(∀ k∈l,k∈t.kids)->∀ m,0<=m->(qkW (l.map qa5) m<0/\qkW (l.map qa5) m=-1\/0<=qkW (l.map qa5) m/\qkW (l.map qa5) m=m-((l.map size).sum:Nat)):=by
  intro l
  induction l with
  | nil=>intro _ m b;right;simp[qkW];exact b
  | cons x l a =>
    intro c m b;simp only[wm,qkW,kD];have j:=e x (c x (wh ..)) m;by_cases d:qa5 x m<0
    ·rw[if_pos d];left;exact⟨by omega,rfl⟩
    ·rw[if_neg d];have i:=a (λ k f=>c k (wg _ f)) (qa5 x m) (by omega);omega
 rw[qDp,qR];split
 ·left;exact⟨by omega,rfl⟩
 ·have:=g t.kids (λ _ h=>h) (m-1) (by omega);omega
def qcn:T->Nat:=T.para λ _ a=>a.foldl max 0+1
theorem qjH(t:T):qcn t=(t.kids.map qcn).foldl max 0+1:=T.para_eq _ _
theorem qAc(l:List Nat):∀(a b:Nat),a<=b->(∀ x∈l,x<=b)->l.foldl max a<=b:=by
 induction l with
 | nil=>intro a b h _;exact h
 | cons x l d=>intro a b h c;exact d _ _ (Nat.max_le.2 ⟨h,c x (wh ..)⟩) λ y e=>c y (wg _ e)
theorem qB9(t:T):qcn t<=size t:=by
 refine T.ind (P := λ t=>qcn t<=size t) ?_ t;intro t ih;rw[qjH,qR]
 have:(t.kids.map qcn).foldl max 0<=(t.kids.map size).sum:=by
  refine qAc _ _ _ (we _) λ x hx=>?_;obtain⟨k,hk,rfl⟩:=wx.1 hx;exact wD (ih k hk) (qjd _ _ hk)
 omega
def qeW(c:Int):Bool:=decide (97<=c/\c<=122)||decide (65<=c/\c<=90)
def qqo(c:Int):Bool:=decide (48<=c/\c<=57)
def Qf(c:Int):Bool:=qeW c||qqo c||decide (c=95)||decide (c=35)
def yD(l:List UInt8):Bool:=decide (0<l.length)&&decide (l.length<=24)&&qeW ((l.getD 0 0).toNat:Int)&&l.all λ c=>Qf (c.toNat:Int)
def qfC(k so:Int)(n:Nat)(a:Bool):Int :=
 if k=1\/k=2 then(if so<0\/5<so\/0<n then 1 else if a then 0 else 2)
 else if k=3 then(if so≠0 then 1 else if a then(if 8<n then 3 else 0)else 2)
 else 1
def yK(t:T):Int:=qfC t.kind t.sort t.kids.length (yD t.name)
def yV:T->Int:=T.para λ t a=>a.foldl thn (yK t)
theorem qif(t:T):yV t=(t.kids.map yV).foldl thn (yK t):=T.para_eq _ _
theorem QD{x:Int}(h:x≠0)(y:Int):thn x y=x:=if_neg h
theorem qP(l:List Int):∀{x:Int},x≠0->l.foldl thn x=x:=by
 induction l with
 | nil=>intro x _;rfl
 | cons y l a=>intro x h;rw[w7,QD h];exact a h
theorem QF(l:List Int)(x:Int):(x::l).foldl thn 0=l.foldl thn x:=rfl
theorem qhW{t:T}(h:yV t=0):yK t=0/\(∀ k∈t.kids,yV k=0):=by
 rw[qif]at h;by_cases b:yK t=0
 ·refine⟨b,?_⟩;rw[b]at h;generalize t.kids=l at *;clear b
  induction l with
  | nil=>intro k a;cases a
  | cons x l d =>
    rw[wm,QF]at h;by_cases c:yV x=0
    ·rw[c]at h;intro k a;rcases wy.1 a with rfl | a
     ·exact c
     ·exact d h k a
    ·rw[qP _ c]at h;exact absurd h c
 ·rw[qP _ b]at h;exact absurd h b
def qJ(t:T):Int:=if yV t≠0 then yV t else if 400<size t\/40<qcn t then 3 else 0
instance:DecidableEq T := λ _ _=>Classical.propDecidable _
def jc(a b:T):Bool:=decide (a=b)
def qml:List T->Int->Bool
 | [],_=>true
 | x::l,m=>if qa5 x m<0 then false else qml l (qa5 x m)
theorem qwB:∀(l:List T) (m:Int),0<=m->qml l m=true->((l.map size).sum:Nat)<=m
 | [],m,b,_=>by simpa using b
 | x::l,m,b,h=>by
   rw[qml]at h;by_cases a:qa5 x m<0
   ·rw[if_pos a]at h;exact absurd h (by decide)
   ·rw[if_neg a]at h;have d:=qo3 x m;have c:=qwB l (qa5 x m) (by omega) h;simp only[wm,kD];omega
def jE:List (List UInt8 × Int × Int × Int):=[
 ([112,97,105,114],2,2,1),
 ([101,110,99],2,2,1),
 ([97,101,110,99],2,2,1),
 ([112,107],1,1,1),
 ([115,105,103,110],2,2,1),
 ([104,97,115,104],1,1,1),
 ([120,111,114],2,8,1),
 ([122,101,114,111],0,0,1),
 ([101,120,112],2,2,1),
 ([109,117,108],2,8,1),
 ([105,110,118],1,1,1),
 ([111,110,101],0,0,1),
 ([115,107],1,1,2),
 ([115,104,107],2,2,2),
 ([110,101,119],1,8,2),
 ([102,115,116],1,1,3),
 ([115,110,100],1,1,3),
 ([100,101,99],2,2,3),
 ([97,100,101,99],2,2,3),
 ([111,112,101,110],2,2,3),
 ([114,101,97,100],1,1,3)]
def qu6(l:List (List UInt8 × Int × Int × Int))(n:List UInt8):Int × Int × Int:=((l.find? λ r=>r.1==n).map (·.2)).getD (0,0,0)
theorem qFV(r:List UInt8 × Int × Int × Int)(l:List (List UInt8 × Int × Int × Int))(n:List UInt8):qu6 (r::l) n=if(r.1==n)=true then r.2 else qu6 l n:=by
 unfold qu6;rw[List.find?_cons];cases h:r.1==n<;>simp
def qIj(l:List (List UInt8 × Int × Int × Int))(n:List UInt8):Bool:=l.any λ r=>r.1==n
def qmp(l:List (List UInt8 × Int × Int × Int))(n:List UInt8)(k:Int):Bool:=qIj l n&&decide ((qu6 l n).1<=k)&&decide (k<=(qu6 l n).2.1)
theorem qFp(r:List UInt8 × Int × Int × Int)(l:List (List UInt8 × Int × Int × Int))(n:List UInt8)(k:Int) :
  qmp (r::l) n k=if(r.1==n)=true then decide (r.2.1<=k)&&decide (k<=r.2.2.1)else qmp l n k:=by
 unfold qmp;rw[qFV];unfold qIj;rw[vZ];cases h:r.1==n<;>simp
def qn7:List UInt8:=[112,97,105,114]
def qnr:List UInt8:=[101,110,99]
def qhS:List UInt8:=[97,101,110,99]
def nPk:List UInt8:=[112,107]
def qew:List UInt8:=[115,105,103,110]
def qco:List UInt8:=[120,111,114]
def qb1:List UInt8:=[122,101,114,111]
def qe2:List UInt8:=[101,120,112]
def qeg:List UInt8:=[109,117,108]
def Ji:List UInt8:=[105,110,118]
def qiD:List UInt8:=[111,110,101]
def nSk:List UInt8:=[115,107]
def qsE:List UInt8:=[115,104,107]
def qg7:List UInt8:=[110,101,119]
def qIR:List UInt8:=[102,115,116]
def qvn:List UInt8:=[115,110,100]
def qIx:List UInt8:=[100,101,99]
def qDV:List UInt8:=[97,100,101,99]
def qDr:List UInt8:=[111,112,101,110]
def qEi:List UInt8:=[114,101,97,100]
def zT:T := .mk 0 [] 0 []
def kid(t:T)(i:Nat):T:=t.kids.getD i zT
def apT(n:List UInt8)(l:List T):T := .mk 3 n 0 l
def isN(t:T)(n:List UInt8):Bool:=t.kind==3&&t.name==n
def qC(n:List UInt8):Int × Int × Int:=((jE.find? λ r=>r.1==n).map (·.2)).getD (0,0,0)
def qah(t:T):Bool :=
 if t.name=qg7 then decide ((kid t 0).kind≠2)
 else if t.name=nSk\/t.name=qsE then t.kids.any λ k=>decide (k.kind=3)||decide (k.sort≠1)else false
def qcs(t:T):Int :=
 if t.kind≠3 then 0 else if(qC t.name).2.2=0 then 10 else if(t.kids.length:Int)<(qC t.name).1\/(qC t.name).2.1<(t.kids.length:Int)then 6 else if qah t then 10 else 0
def zg:T->Int:=T.para λ t a=>if t.kind≠3 then 0 else a.foldl thn (qcs t)
theorem qmF(t:T):zg t=if t.kind≠3 then 0 else(t.kids.map zg).foldl thn (qcs t):=T.para_eq _ _
def qce(t:T):Int:=thn (qJ t) (zg t)
def yh(t:T):Bool :=
 if t.name=qIR\/t.name=qvn then isN (kid t 0) qn7
 else if t.name=qIx then isN (kid t 0) qnr&&jc (kid (kid t 0) 1) (kid t 1)
 else if t.name=qDV then isN (kid t 0) qhS&&isN (kid (kid t 0) 1) nPk&&jc (kid (kid (kid t 0) 1) 0) (kid t 1)
 else if t.name=qDr then isN (kid t 0) qew&&isN (kid t 1) nPk&&jc (kid (kid t 0) 1) (kid (kid t 1) 0)
 else if t.name=qEi then isN (kid t 0) qew else false
def qiN(t:T):T:=if yh t then kid (kid t 0) (if t.name=qvn then 1 else 0)else t
def qcO(t:T):Bool:=t.kind==3&&(t.name==qeg||t.name==Ji||t.name==qiD)
abbrev Pw:=T × Int
def yz:List Pw->T->Int->List Pw
 | [],t,n=>[(t,n)]
 | (x,m)::l,t,n=>if qp t x=-1 then(t,n)::(x,m)::l else if qp t x=0 then(if m+n=0 then l else(x,m+n)::l)else(x,m)::yz l t n
def arK(t:T):Bool := !(t.name==qiD&&t.kids.length != 0||t.name==Ji&&t.kids.length != 1||t.name==qeg&&decide (t.kids.length<2))
def arT:T->Bool:=T.para λ t a => !qcO t||(arK t&&a.all id)
theorem qtY(t:T):arT t=(!qcO t||(arK t&&(t.kids.map arT).all id)):=T.para_eq _ _
def qaV(t:T)(n:Int):Int:=if t.name=Ji then -n else n
def js:T->List Pw->Int->List Pw:=T.para λ t a l n=>if qcO t then a.foldl (λ l f=>f l (qaV t n)) l else yz l t n
theorem qf0(t:T)(l:List Pw)(n:Int):js t l n=if qcO t then(t.kids.map js).foldl (λ l f=>f l (qaV t n)) l else yz l t n:=by
 have h:js t = λ l n=>if qcO t then(t.kids.map js).foldl (λ l f=>f l (qaV t n)) l else yz l t n:=T.para_eq _ _;rw[h]
def ofP(t:T):List Pw × Int :=
 if qJ t≠0 then([],qJ t)else if arT t=false then([],6)else if 200<(js t [] 1).length then([],3)else(js t [] 1,0)
def pvK(q:Option T)(p:Pw):Int :=
 if qJ p.1≠0 then qJ p.1 else if qcO p.1 then 1 else if p.2=0\/p.2 < -1000\/1000<p.2 then 7 else match q with | some x=>if 0<=qp x p.1 then 5 else 0 | none=>0
def pvL:Option T->List Pw->Int
 | _,[]=>0
 | q,p::l=>thn (pvK q p) (pvL (some p.1) l)
def Jl(l:List Pw):Int:=if 200<l.length then 3 else pvL none l
def yf(l:List Pw):List T:=l.flatMap λ p=>List.replicate p.2.toNat p.1
def yj(l:List Pw):List T:=l.flatMap λ p=>List.replicate (-p.2).toNat (apT Ji [p.1])
def JT(o:List T):T:=if o.length=0 then apT qiD []else if o.length=1 then o.getD 0 zT else apT qeg o
def qaW(l:List Pw):T × Int :=
 if Jl l≠0 then(zT,Jl l)else if 8<(yf l++yj l).length then(zT,3)
 else if qJ (JT (yf l++yj l))≠0 then(zT,qJ (JT (yf l++yj l)))else(JT (yf l++yj l),0)
def qmf(l:List Pw):Bool:=l.any λ p=>decide (p.2 < -1000)||decide (1000<p.2)
def QS(a b:List Pw):List Pw:=b.foldl (λ l p=>yz l p.1 p.2) a
def qkN(a b:List Pw):List Pw × Int :=
 if Jl a≠0 then([],Jl a)else if Jl b≠0 then([],Jl b)else if qmf (QS a b)then([],7)else if 200<(QS a b).length then([],3)else(QS a b,0)
def zj:List T->List T->List T
 | [],b=>b
 | x::a,[]=>x::a
 | x::a,y::b=>if qp x y=-1 then x::zj a (y::b)else if qp x y=1 then y::zj (x::a) b else zj a b
termination_by a b=>a.length+b.length
def jV:T->List T:=T.para λ t a=>if isN t qb1&&t.kids.isEmpty then[]else if isN t qco then a.foldl zj []else[t]
theorem qki(t:T):jV t=if isN t qb1&&t.kids.isEmpty then[]else if isN t qco then(t.kids.map jV).foldl zj []else[t]:=T.para_eq _ _
def qmT(l:List T):Int:=if 200<l.length then 3 else(l.map qJ).foldl thn 0
def zU(l:List T):List T:=(l.map jV).foldl zj []
def J5(o:List T):T:=if o.length=0 then apT qb1 []else if o.length=1 then o.getD 0 zT else apT qco o
def qoj(l:List T):T × Int :=
 if qmT l≠0 then(zT,qmT l)else if qJ (J5 (zU l))≠0 then(zT,3)else(J5 (zU l),0)
def qhG(b:T)(l:List Pw):T × Int :=
 if l.length=0 then(b,0)else if(qaW l).2≠0 then(zT,(qaW l).2)else(apT qe2 [b,(qaW l).1],0)
def qod(b e:T):T × Int :=
 if(ofP e).2≠0 then(zT,(ofP e).2)
 else if isN b qe2 then
  (if(ofP (kid b 1)).2≠0 then(zT,(ofP (kid b 1)).2)
   else if(qkN (ofP (kid b 1)).1 (ofP e).1).2≠0 then(zT,(qkN (ofP (kid b 1)).1 (ofP e).1).2)
   else qhG (kid b 0) (qkN (ofP (kid b 1)).1 (ofP e).1).1)
 else qhG b (ofP e).1
def isD(n:List UInt8):Bool:=n==qIR||n==qvn||n==qIx||n==qDV||n==qDr||n==qEi
def qlQ(t:T):T × Int:=if(ofP t).2≠0 then(zT,(ofP t).2)else qaW (ofP t).1
def JQ(t:T):T × Int :=
 if isD t.name then(qiN t,0)else if t.name=qco then qoj t.kids
 else if t.name=qeg\/t.name=Ji\/t.name=qiD then qlQ t
 else if t.name=qe2 then qod (kid t 0) (kid t 1)else(t,0)
def zG:T->T × Int:=T.para λ t a =>
 if t.kind≠3 then(t,0)else if(a.map (·.2)).foldl thn 0≠0 then(zT,(a.map (·.2)).foldl thn 0)else JQ (apT t.name (a.map (·.1)))
theorem qmK(t:T):zG t=if t.kind≠3 then(t,0)else if((t.kids.map zG).map (·.2)).foldl thn 0≠0 then(zT,((t.kids.map zG).map (·.2)).foldl thn 0)else JQ (apT t.name ((t.kids.map zG).map (·.1))):=T.para_eq _ _
def qjQ(t:T):T × Int :=
 if qce t≠0 then(zT,qce t)else if(zG t).2≠0 then(zT,(zG t).2)else if qJ (zG t).1≠0 then(zT,qJ (zG t).1)else zG t
def agB(l:List T):Bool:=l.all λ k => !(k.kind==3) && !(k.sort != 1)
def qjI(t:T):Bool:=if t.name=qg7 then(kid t 0).kind==2 else agB t.kids
theorem qHt(k:T)(l:List T):agB (k::l)=((!(k.kind==3) && !(k.sort != 1))&&agB l):=rfl
end Go.GxZ
namespace Go.AmZ
open Go Go.GxZ Go.Lib
theorem qlk(a b:Int):Ev (λ m _=>qaC m a b) (sgn a b):=by
 refine waD ?_;simp only[qvR,qgC];unfold sgn;refine waw (λ h=>?_) λ h=>?_
 ·exact waB (by rw[if_pos (qw.1 h)])
 ·rw[qt]at h;refine waw (λ c=>?_) λ c=>?_
  ·rw[qw]at c;exact waB (by rw[if_neg (by omega),if_pos c])
  ·rw[qt]at c;exact waB (by rw[if_neg (by omega),if_neg (by omega)])
theorem qrS{l:List T}{i:Nat}{x:T}(h:l.drop i=x::l.drop (i+1)):((l.drop i).map size).sum=size x+((l.drop (i+1)).map size).sum:=by
 rw[h,wm,kD]
theorem qrN(t:T):size t<=1000000000->Ev (λ m _=>jn m t) (size t:Int):=by
 induction t using T.ind with
 | h t d =>
   intro p;refine waD ?_;simp only[qAH,qfv];have q:=yt t;have j:=qR t
   have b:=qs (P := λ i=>∀ a:Nat,a+((t.kids.drop i).map size).sum<=1000000000->Ev (λ m k=>qaD m (jn m) k a i t.kind t.name t.sort t.kids) ((a+((t.kids.drop i).map size).sum:Nat):Int)) t.kids (by omega)
    (λ c a _=>by
     refine waC ?_;simp only[qoB,qfB];refine waA c ?_;exact waB (by simp))
    (λ i x e l c g f o a n=>by
     rw[qrS l]at n |-
     refine waC ?_;simp only[qoB,qfB];refine waz c (way g ?_);rw[qh];refine wav (d x (wb e) (by omega)) ?_;rw[f,qhq,jJ (by omega)];refine(o (a+size x) (by omega)).res (by congr 1;omega))
   refine waE (L := λ m k=>qaD m (jn m) k 1 0 t.kind t.name t.sort t.kids) ?_;refine(b 0 (we _) 1 (by simp;omega)).res (by rw[wO,j])
theorem qA7(a b:Nat):qms (a:Int) (b:Int)=((max a b:Nat):Int):=by unfold qms;split<;>omega
theorem qqE(a b:Int):Ev (λ m _=>qd6 m a b) (sgn a b):=by
 refine waD ?_;simp only[qBu,qkr];unfold sgn;refine waw (λ h=>?_) λ h=>?_
 ·exact waB (by rw[if_pos (qw.1 h)])
 ·rw[qt]at h;refine waw (λ c=>?_) λ c=>?_
  ·rw[qw]at c;exact waB (by rw[if_neg (by omega),if_pos c])
  ·rw[qt]at c;exact waB (by rw[if_neg (by omega),if_neg (by omega)])
theorem qzw(t:T):size t<=1000000000->Ev (λ m _=>Qb m t) (size t:Int):=by
 induction t using T.ind with
 | h t d =>
   intro p;refine waD ?_;simp only[qBB,qgD];have q:=yt t;have j:=qR t
   have b:=qs (P := λ i=>∀ a:Nat,a+((t.kids.drop i).map size).sum<=1000000000->Ev (λ m k=>qbG m (Qb m) k a t.kids t.kids.length i) ((a+((t.kids.drop i).map size).sum:Nat):Int)) t.kids (by omega)
    (λ c a _=>by
     refine waC ?_;simp only[qqj,qgU];refine waA c ?_;exact waB (by simp))
    (λ i x e l c g f o a n=>by
     rw[qrS l]at n |-
     refine waC ?_;simp only[qqj,qgU];refine waz c (way g ?_);rw[qh];refine wav (d x (wb e) (by omega)) ?_;rw[f,qhq,jJ (by omega)];refine(o (a+size x) (by omega)).res (by congr 1;omega))
   refine waE (L := λ m k=>qbG m (Qb m) k 1 t.kids t.kids.length 0) ?_;refine(b 0 (we _) 1 (by simp;omega)).res (by rw[wO,j])
theorem qFX(t:T):size t<=1000000000->Ev (λ m _=>jB m t) (qcn t:Int):=by
 induction t using T.ind with
 | h t e =>
   intro o;refine waD ?_;simp only[qye,qeA];have p:=yt t;have q:=qR t
   have b:=qs (P := λ i=>∀ a:Nat,a<=1000000000->Ev (λ m k=>J3 m (jB m) k a i t.kind t.name t.sort t.kids) ((((t.kids.drop i).map qcn).foldl max a+1:Nat):Int)) t.kids (by omega)
    (λ c a _=>by
     refine waC ?_;simp only[qna,qeH];refine waA c ?_;rw[show qj (a:Int) 1=((a+1:Nat):Int) by unfold qj;omega,jJ (by omega)];exact waB (by simp))
    (λ i x f l c j g n a r=>by
     refine waC ?_;simp only[qna,qeH];refine waz c (way j ?_);rw[qh];have d:=wb f;have u:=jy t x d;have s:=qB9 x;refine wav (e x d (by omega)) ?_;rw[g,qA7];refine(n (max a (qcn x)) (by omega)).res ?_;rw[l,wm,w7])
   refine waE (L := λ m k=>J3 m (jB m) k 0 0 t.kind t.name t.sort t.kids) ?_;refine(b 0 (we _) 0 (by omega)).res (by rw[wO,qjH])
theorem qAE(a:List (T->Int)):Q4 a []=0:=by cases a<;>rfl
theorem qxo{l m:List T}{i:Nat}{x y:T}(b:l.drop i=x::l.drop (i+1))(a:m.drop i=y::m.drop (i+1)):Q4 ((l.drop i).map qp) (m.drop i)=thn (qp x y) (Q4 ((l.drop (i+1)).map qp) (m.drop (i+1))):=by
 rw[b,a,wm];rfl
theorem qAD{l:List T}{i:Nat}{y:T}(h:l[i]?=some y):l.drop i=y::l.drop (i+1):=by
 obtain⟨a,rfl⟩:=List.getElem?_eq_some_iff.1 h;exact wac a
theorem qr6(a b:List UInt8):slt a b=decide (compareBytes a b=-1):=qoJ a b
theorem qAh(a b:List UInt8):qpM (slt a b) (qy a b)=decide (compareBytes a b≠1):=by
 rw[qr6];unfold qpM qy;rcases qnV a b with h | h | h
 ·rw[h];rfl
 ·have:=qlE a b h;subst this;rw[h];simp
 ·have:(a==b)=false:=by
    rw[beq_eq_false_iff_ne];intro c;subst c;rw[qxf]at h;omega
  rw[h,this];rfl
theorem qh6(a:T):size a<=1000000000->∀ b,size b<=1000000000->Ev (λ m _=>zD m a b) (qp a b):=by
 induction a using T.ind with
 | h a ih =>
   intro ha b hb;refine waD ?_;simp only[quT,qcT,qh];have hla:=yt a;have hlb:=yt b;rw[qfV];unfold qiM;refine wav (qrN a ha) (wav (qrN b hb) (wav (qlk _ _) ?_));refine waw (λ h=>?_) λ h=>?_
   ·rw[bnt,qg]at h;exact waB (by rw[QD (by rw[QD h];exact h),QD h])
   rw[bnf,qk]at h;rw[h,show ∀ y,thn 0 y=y from λ y=>rfl];refine wav (qlk _ _) ?_;refine waw (λ h=>?_) λ h=>?_
   ·rw[bnt,qg]at h;exact waB (by rw[QD (by rw[QD h];exact h),QD h])
   rw[bnf,qk]at h;rw[h,show ∀ y,thn 0 y=y from λ y=>rfl];refine waw (λ h=>?_) λ h=>?_
   ·rw[qr6,decide_eq_true_iff]at h;exact waB (by rw[h];rfl)
   rw[qr6,decide_eq_false_iff_not]at h;refine waw (λ h'=>?_) λ h'=>?_
   ·rw[bnt,qAh,decide_eq_false_iff_not,Decidable.not_not]at h';exact waB (by rw[h'];rfl)
   rw[bnf,qAh,decide_eq_true_iff]at h';have h0:compareBytes a.name b.name=0:=by have:=qnV a.name b.name;omega
   rw[h0,show ∀ y,thn 0 y=y from λ y=>rfl];refine wav (qlk _ _) ?_;refine waw (λ h=>?_) λ h=>?_
   ·rw[bnt,qg]at h;exact waB (by rw[QD (by rw[QD h];exact h),QD h])
   rw[bnf,qk]at h;rw[h,show ∀ y,thn 0 y=y from λ y=>rfl];refine wav (qlk _ _) ?_;refine waw (λ h=>?_) λ h=>?_
   ·rw[bnt,qg]at h;exact waB (by rw[QD h])
   rw[bnf,qk]at h;rw[h,show ∀ y,thn 0 y=y from λ y=>rfl];have hlen:a.kids.length=b.kids.length:=by have:=qj2 h;omega
   have key:=qs (P := λ i=>Ev (λ m k=>QY m (zD m) k i a.kind a.name a.sort a.kids b.kind b.name b.sort b.kids) (Q4 ((a.kids.drop i).map qp) (b.kids.drop i))) a.kids (by omega)
    (λ hc=>by
     refine waC ?_;simp only[qkz,qcC];refine waA hc ?_;exact waB (by rw[hlen,wU,qAE]))
    (λ i x hx hd hc hg hi hP=>by
     refine waC ?_;simp only[qkz,qcC,qh];have hib:i<b.kids.length:=by have:=(List.getElem?_eq_some_iff.1 hx).1;omega
     have hy:=List.getElem?_eq_getElem hib;have hmx:=wb hx;have h1:=jy a x hmx;have h2:=jy b _ (wb hy);refine waz hc (way hg (way (by rw[zM];exact hy) ?_));rw[qxo hd (qAD hy)];refine wav (ih x hmx (by omega) _ (by omega)) ?_;refine waw (λ h=>?_) λ h=>?_
     ·rw[bnt,qg]at h;exact waB (by rw[QD h])
     ·rw[bnf,qk]at h;rw[h,hi];exact hP)
   refine waE (L := λ m k=>QY m (zD m) k 0 a.kind a.name a.sort a.kids b.kind b.name b.sort b.kids) ?_;exact(key 0 (we _)).res (by rw[wO,wO])
theorem qE9(a b:List UInt8):Ev (λ m _=>strings_Compare 0 a b) (compareBytes a b):=wax _
theorem qdd(a:T):size a<=1000000000->∀ b,size b<=1000000000->Ev (λ m _=>qA m a b) (qp a b):=by
 induction a using T.ind with
 | h a ih =>
   intro ha b hb;refine waD ?_;simp only[qvs,qdD,qh];have hla:=yt a;have hlb:=yt b;rw[qfV];unfold qiM
   have stop:∀ c:Int,c≠0->∀ i:Int,Ev (λ m k=>jW m (qA m) k c i a.kind a.name a.sort a.kids b.kind b.name b.sort b.kids) c:=by
    intro c hc i;refine waC ?_;simp only[qgw,qbk];exact waA (qg.2 hc) (wax c)
   have key:a.kids.length=b.kids.length->∀ i,i<=a.kids.length->Ev (λ m k=>jW m (qA m) k 0 i a.kind a.name a.sort a.kids b.kind b.name b.sort b.kids) (Q4 ((a.kids.drop i).map qp) (b.kids.drop i)) := λ hlen=>qs a.kids (by omega)
    (λ hc=>by
     refine waC ?_;simp only[qgw,qbk];refine waz rfl (waA hc ?_);exact waB (by rw[hlen,wU,qAE]))
    (λ i x hx hd hc hg hi hP=>by
     refine waC ?_;simp only[qgw,qbk,qh];have hib:i<b.kids.length:=by have:=(List.getElem?_eq_some_iff.1 hx).1;omega
     have hy:=List.getElem?_eq_getElem hib;have hmx:=wb hx;have h1:=jy a x hmx;have h2:=jy b _ (wb hy);refine waz rfl (waz hc (way hg (way (by rw[zM];exact hy) ?_)));rw[qxo hd (qAD hy)];refine wav (ih x hmx (by omega) _ (by omega)) ?_;rw[hi];by_cases h:qp x b.kids[i]=0
     ·rw[h];exact hP
     ·rw[QD h];exact stop _ h _)
   have fin:∀ c:Int,(c=0->a.kids.length=b.kids.length)->Ev (λ m k=>jW m (qA m) m c 0 a.kind a.name a.sort a.kids b.kind b.name b.sort b.kids) (thn c (Q4 (a.kids.map qp) b.kids)):=by
    intro c hc;refine waE (L := λ m k=>jW m (qA m) k c 0 a.kind a.name a.sort a.kids b.kind b.name b.sort b.kids) ?_;by_cases h:c=0
    ·subst h;exact(key (hc rfl) 0 (we _)).res (by rw[wO,wO];rfl)
    ·rw[QD h];exact stop c h 0
   refine wav (qzw a ha) (wav (qzw b hb) (wav (qqE _ _) ?_));have z0:∀ y,thn 0 y=y := λ y=>rfl;by_cases h1:sgn (size a:Int) (size b)=0
   ·rw[h1,z0];refine waz rfl (wav (qqE _ _) ?_);by_cases h2:sgn a.kind b.kind=0
    ·rw[h2,z0];refine waz rfl (wav (qE9 _ _) ?_);by_cases h3:compareBytes a.name b.name=0
     ·rw[h3,z0];refine waz rfl (wav (qqE _ _) ?_);by_cases h4:sgn a.sort b.sort=0
      ·rw[h4,z0];refine waz rfl (wav (qqE _ _) ?_);exact fin _ λ h=>by have:=qj2 h;omega
      ·rw[QD h4];refine waA (qg.2 h4) ?_;exact fin _ λ h=>absurd h h4
     ·rw[QD h3];refine waA (qg.2 h3) (waA (qg.2 h3) ?_);exact fin _ λ h=>absurd h h3
    ·rw[QD h2];refine waA (qg.2 h2) (waA (qg.2 h2) (waA (qg.2 h2) ?_));exact fin _ λ h=>absurd h h2
   ·rw[QD h1];refine waA (qg.2 h1) (waA (qg.2 h1) (waA (qg.2 h1) (waA (qg.2 h1) ?_)));exact fin _ λ h=>absurd h h1
theorem qC6(a b:T):ieq (qp a b) 0=jc a b:=by
 unfold jc;rw[xe,qk,decide_eq_true_iff];exact qHR a b
theorem qfQ(a b:T)(d:size a<=1000000000)(c:size b<=1000000000):Ev (λ m _=>Qp m a b) (jc a b):=by
 refine waD ?_;simp only[qzP,qiI,qh];refine wav (qh6 a d b c) ?_;exact waB (qC6 a b)
theorem qnH(a b:T)(d:size a<=1000000000)(c:size b<=1000000000):Ev (λ m _=>JJ m a b) (jc a b):=by
 refine waD ?_;simp only[qx0,qhe,qh];refine wav (qdd a d b c) ?_;exact waB (qC6 a b)
end Go.AmZ
namespace Go.AmZ
open Go Go.GxZ Go.Lib
theorem qwo(a b:Int):ieq a b=decide (a=b):=by rw[xe,qk,decide_eq_true_iff]
theorem qwL(c:Int):Ev (λ m _=>qei m c) (qeW c):=by
 refine waD ?_;simp only[qvE,qgm];refine(wax (qeW c)).congr λ m k=>?_;unfold qeW ile;by_cases e:97<=c<;>by_cases d:c<=122<;>by_cases b:65<=c<;>by_cases a:c<=90<;>simp[e,d,b,a]
theorem qG5(c:Int):Ev (λ m _=>qh0 m c) (qqo c):=by
 refine waD ?_;simp only[qxB,qhp];refine(wax (qqo c)).congr λ m k=>?_;unfold qqo ile;by_cases b:48<=c<;>by_cases a:c<=57<;>simp[b,a]
theorem qCq(c:Int):Ev (λ m _=>qic m c) (Qf c):=by
 refine waD ?_;simp only[qBk,qjV];refine(wax (Qf c)).congr λ m k=>?_;simp only[qwo];unfold Qf qeW qqo ile;by_cases i:97<=c<;>by_cases h:c<=122<;>by_cases g:65<=c<;>by_cases f:c<=90<;>by_cases e:48<=c<;>by_cases d:c<=57<;>by_cases b:c=95<;>by_cases a:c=35<;>simp[i,h,g,f,e,d,b,a]
theorem qFw(l:List UInt8):Ev (λ m _=>qcl m l) (yD l):=by
 refine waD ?_;simp only[qu3,qdE];cases l with
 | nil=>exact waz rfl (wax _)
 | cons c r =>
   refine waA (qg.2 (by simp;omega)) ?_;refine waw (λ h=>?_) λ h=>?_
   ·rw[qw]at h;refine waB ?_;unfold yD;rw[decide_eq_false (show ¬ (c::r).length<=24 by omega)];simp
   rw[qt]at h;refine way (JS _) (wav (qwL _) ?_)
   have o:yD (c::r)=(qeW (c.toNat:Int)&&(c::r).all λ c=>Qf (c.toNat:Int)):=by
    unfold yD;rw[decide_eq_true (show(c::r).length<=24 by omega)];simp
   rw[o];cases b:qeW (c.toNat:Int)with
   | false=>exact waz rfl (wax _)
   | true =>
     refine waA rfl ?_
     have g:=qs (P := λ i=>Ev (λ m k=>Jv m k (c::r) i) (((c::r).drop i).all λ c=>Qf (c.toNat:Int))) (c::r) (by omega)
      (λ b=>by
       refine waC ?_;simp only[qlY,qdx];refine waA b (waB ?_);rw[wU];rfl)
      (λ i x s q b a p d=>by
       refine waC ?_;simp only[qlY,qdx];refine waz b (way a (wav (qwL _) ?_));rw[q,kC,p];cases n:qeW (x.toNat:Int)with
       | true=>exact waA rfl (d.res (by simp[Qf,n]))
       | false =>
         refine waz rfl (way a (wav (qG5 _) ?_));cases j:qqo (x.toNat:Int)with
         | true=>exact waA rfl (d.res (by simp[Qf,j]))
         | false =>
           refine waz rfl (way a ?_);by_cases f:(x.toNat:Int)=95
           ·exact waA (bnf.2 (qk.2 f)) (d.res (by simp[Qf,f]))
           ·refine waz (bnt.2 (qg.2 f)) (way a ?_);by_cases e:(x.toNat:Int)=35
            ·exact waA (bnf.2 (qk.2 e)) (d.res (by simp[Qf,e]))
            ·exact waz (bnt.2 (qg.2 e)) (waB (by unfold Qf;rw[n,j,decide_eq_false f,decide_eq_false e];rfl)))
     refine waE (L := λ m k=>Jv m k (c::r) 0) ?_;exact(g 0 (we _)).res (by rw[wO];rfl)
theorem qHX(c:Int):(Qf c&&(!(decide (48<=c)&&decide (c<=57))&&(!(decide (c=95)) && !(decide (c=35)))))=qeW c:=by
 unfold Qf qqo;cases h:qeW c with
 | true =>
   unfold qeW at h;rw[kg,decide_eq_true_iff,decide_eq_true_iff]at h;rw[decide_eq_false (show ¬ (c=95) by omega),decide_eq_false (show ¬ (c=35) by omega)]
   have:(decide (48<=c)&&decide (c<=57))=false:=by
    rw[xX,decide_eq_false_iff_not,decide_eq_false_iff_not];omega
   rw[this];rfl
 | false =>
   by_cases e:48<=c<;>by_cases d:c<=57<;>by_cases b:c=95<;>by_cases a:c=35<;>simp[e,d,b,a]
theorem qDJ(l:List UInt8):Ev (λ m _=>qda m l) (yD l):=by
 refine waD ?_;simp only[qyd,qek];cases l with
 | nil=>exact waz rfl (wax _)
 | cons c r =>
   refine waA rfl ?_;refine waw (λ h=>?_) λ h=>?_
   ·rw[qw]at h;refine waB ?_;unfold yD;rw[decide_eq_false (show ¬ (c::r).length<=24 by omega)];simp
   rw[qt]at h;refine way (JS _) (wav (qCq _) ?_)
   have p:yD (c::r)=(qeW (c.toNat:Int)&&(c::r).all λ c=>Qf (c.toNat:Int)):=by
    unfold yD;rw[decide_eq_true (show(c::r).length<=24 by omega)];simp
   rw[p,<- qHX]
   have g:=qs (P := λ i=>Ev (λ m k=>Qq m k (c::r) (c::r).length i) (((c::r).drop i).all λ c=>Qf (c.toNat:Int))) (c::r) (by omega)
    (λ j=>by
     refine waC ?_;simp only[qmG,qez];refine waA j (waB ?_);rw[wU];rfl)
    (λ i x y t j s q u=>by
     refine waC ?_;simp only[qmG,qez];refine waz j (way s (wav (qCq _) ?_));rw[t,kC,q];cases w:Qf (x.toNat:Int)with
     | true=>exact waA rfl (u.res (by simp))
     | false=>exact waz rfl (wax _))
   have o:Ev (λ m _=>Qq m m (c::r) (c::r).length 0) ((c::r).all λ c=>Qf (c.toNat:Int)):=by
    refine waE (L := λ m k=>Qq m k (c::r) (c::r).length 0) ?_;exact(g 0 (we _)).res (by rw[wO])
   have a:qc (c::r) 0=some c:=JS _
   have b:Ev (λ m _=>cond (ieq (c.toNat:Int) 95) (some false) (qa (qc (c::r) 0) λ v=>cond (ieq (v.toNat:Int) 35) (some false) (Qq m m (c::r) (c::r).length 0))) ((!(decide ((c.toNat:Int)=95)) && !(decide ((c.toNat:Int)=35)))&&(c::r).all λ c=>Qf (c.toNat:Int)):=by
    by_cases f:(c.toNat:Int)=95
    ·exact waz (qk.2 f) (waB (by rw[decide_eq_true f];rfl))
    ·refine waA (qg.2 f) (way a ?_);rw[decide_eq_false f];by_cases e:(c.toNat:Int)=35
     ·exact waz (qk.2 e) (waB (by rw[decide_eq_true e];rfl))
     ·refine waA (qg.2 e) (o.res ?_);rw[decide_eq_false e];rfl
   cases w:Qf (c.toNat:Int)with
   | false=>exact waz rfl (wax _)
   | true =>
     refine waA rfl (way a ?_);by_cases d:48<=(c.toNat:Int)
     ·refine waz (qa1.2 d) (way a ?_);by_cases n:(c.toNat:Int)<=57
      ·exact waz (qa1.2 n) (waB (by rw[decide_eq_true d,decide_eq_true n];rfl))
      ·refine waA (qbv.2 (by omega)) (way a ?_);exact b.res (by rw[decide_eq_true d,decide_eq_false n];rfl)
     ·refine waA (qbv.2 (by omega)) (way a ?_);exact b.res (by rw[decide_eq_false d];rfl)
theorem qKJ(t:T):Ev (λ m _=>qja m t) (yK t):=by
 refine waD ?_;simp only[qAI,qiw];unfold yK qfC
 have nm:∀{R:Int},(∀ b,yD t.name=b->(if b then(if 8<t.kids.length then 3 else 0)else 2)=R)->Ev (λ m _=>qa (qcl m t.name) λ v=>cond (qe v) (some 2) (cond (ilt 8 (t.kids.length:Int)) (some 3) (some 0))) R:=by
  intro R h;refine wav (qFw _) ?_;refine Ev.res ?_ (h _ rfl);cases j:yD t.name with
  | false=>exact waz rfl (wax _)
  | true =>
    refine waA rfl ?_;refine waw (λ h=>?_) λ h=>?_
    ·rw[qw]at h;exact waB (by rw[if_pos rfl,if_pos (by omega)])
    ·rw[qt]at h;exact waB (by rw[if_pos rfl,if_neg (by omega)])
 have d:t.kids.length=0->∀{R:Int},(∀ b,yD t.name=b->(if b then 0 else 2)=R)->Ev (λ m _=>qa (qcl m t.name) λ v=>cond (qe v) (some 2) (cond (ilt 8 (t.kids.length:Int)) (some 3) (some 0))) R:=by
  intro k R h;refine nm λ b e=>?_;rw[if_neg (show ¬ 8<t.kids.length by omega)];exact h b e
 by_cases i:t.kind=1
 ·rw[if_pos (.inl i)];refine waz (qk.2 i) ?_;refine waw (λ h=>?_) λ h=>?_
  ·rw[qw]at h;exact waB (by rw[if_pos (.inl h)])
  rw[qt]at h;refine waw (λ c=>?_) λ c=>?_
  ·rw[qw]at c;exact waB (by rw[if_pos (.inr (.inl c))])
  rw[qt]at c;refine waw (λ a=>?_) λ a=>?_
  ·rw[qw]at a;exact waB (by rw[if_pos (.inr (.inr (by omega)))])
  rw[qt]at a;rw[if_neg (by omega)];exact d (by omega) λ b e=>by rw[e]
 refine waA (qg.2 i) ?_;by_cases f:t.kind=2
 ·rw[if_pos (.inr f)];refine waA (bnf.2 (qk.2 f)) ?_;refine waw (λ h=>?_) λ h=>?_
  ·rw[qw]at h;exact waB (by rw[if_pos (.inl h)])
  rw[qt]at h;refine waw (λ c=>?_) λ c=>?_
  ·rw[qw]at c;exact waB (by rw[if_pos (.inr (.inl c))])
  rw[qt]at c;refine waA (bnf.2 (qk.2 f)) (waz (qk.2 f) ?_);refine waw (λ a=>?_) λ a=>?_
  ·rw[qw]at a;exact waB (by rw[if_pos (.inr (.inr (by omega)))])
  rw[qt]at a;rw[if_neg (by omega)];exact d (by omega) λ b e=>by rw[e]
 refine waz (bnt.2 (qg.2 f)) ?_;rw[if_neg (by omega)];by_cases g:t.kind=3
 ·rw[if_pos g];refine waA (bnf.2 (qk.2 g)) ?_;refine waw (λ h=>?_) λ h=>?_
  ·rw[qw]at h;exact waB (by rw[if_pos (by omega)])
  rw[qt]at h;refine waw (λ c=>?_) λ c=>?_
  ·rw[qw]at c;exact waB (by rw[if_pos (by omega)])
  rw[qt]at c;refine waz (bnt.2 (qg.2 f)) ?_;refine waw (λ a=>?_) λ a=>?_
  ·rw[bnt,qg]at a;exact waB (by rw[if_pos a])
  rw[bnf,qk]at a;rw[if_neg (by omega)];refine waA (qg.2 f) ?_;exact nm λ b e=>by rw[e]
 ·rw[if_neg g];exact waz (bnt.2 (qg.2 g)) (wax _)
theorem qHQ(t:T):size t<=1000000000->Ev (λ m _=>jC m t) (yV t):=by
 induction t using T.ind with
 | h t d =>
   intro n;refine waD ?_;simp only[qxY,qem,qh];have o:=yt t
   have a:=qs (P := λ i=>Ev (λ m k=>J4 m (jC m) k i t.kind t.name t.sort t.kids) (((t.kids.drop i).map yV).foldl thn 0)) t.kids (by omega)
    (λ b=>by
     refine waC ?_;simp only[qmH,qeo];refine waA b ?_;exact waB (by simp))
    (λ i x e j b g f l=>by
     refine waC ?_;simp only[qmH,qeo,qh];refine waz b (way g ?_);have c:=wb e;have p:=jy t x c;refine wav (d x c (by omega)) ?_;rw[j,wm,QF,f];refine waw (λ h=>?_) λ h=>?_
     ·rw[bnt,qg]at h;exact waB (by rw[qP _ h])
     ·rw[bnf,qk]at h;rw[h];exact l)
   rw[qif];refine wav (qKJ t) ?_;refine waw (λ h=>?_) λ h=>?_
   ·rw[bnt,qg]at h;exact waB (by rw[qP _ h])
   ·rw[bnf,qk]at h;rw[h];refine waE (L := λ m k=>J4 m (jC m) k 0 t.kind t.name t.sort t.kids) ?_;exact(a 0 (we _)).res (by rw[wO])
theorem qcx(t:T)(a:size t<=1000000000):Ev (λ m _=>jg m t) (qJ t):=by
 refine waD ?_;simp only[qxK,qhx,qh];unfold qJ;refine wav (qHQ t a) ?_;refine waw (λ h=>?_) λ h=>?_
 ·rw[bnt,qg]at h;exact waB (by rw[if_pos h])
 rw[bnf,qk]at h;rw[if_neg (by omega)];refine wav (qrN t a) ?_;refine waw (λ h=>?_) λ h=>?_
 ·rw[qw]at h;exact waB (by rw[if_pos (.inl (by omega))])
 rw[qt]at h;refine wav (qFX t a) ?_;refine waw (λ h=>?_) λ h=>?_
 ·rw[qw]at h;exact waB (by rw[if_pos (.inr (by omega))])
 ·rw[qt]at h;exact waB (by rw[if_neg (by omega)])
end Go.AmZ
namespace Go.AmZ
open Go Go.GxZ Go.Lib
theorem qyT(b d:Nat):∀(l:List Nat) (c:Nat),l.foldl (λ a x=>max a (b+x)) (max d (b+c))=max d (b+l.foldl max c)
 | [],c=>rfl
 | x::l,c=>by
   rw[w7,w7,<- qyT b d l (max c x)];congr 1;omega
def qLK(a n d:Nat)(e:Int)(s:Nat)(x:Nat)(r:(Int × Int × Unit) × (Int × Unit)):Prop:=r.2.1=e/\(e=0->r.1.1=((n+s:Nat):Int)/\r.1.2.1=((max d (a+x):Nat):Int))
theorem qJd(t:T):size t<=1000000000->∀ lev n d:Nat,lev+size t<=2000000000->n+size t<=2000000000->d<=2000000000->∃ r,Ev (λ m _=>yb m t lev n d) r/\qLK lev n d (yV t) (size t) (qcn t-1) r:=by
 induction t using T.ind with
 | h t ih =>
   intro hs lev n d hlev hn hd0;have hl:=yt t;have hsz:=qR t
   have key:=qs (P := λ i=>∀ n d:Nat,n+((t.kids.drop i).map size).sum<=2000000000->d<=2000000000->∃ r,Ev (λ m k=>jz m (yb m) k lev t.kids t.kids.length i n d) r/\r.2.1=((t.kids.drop i).map yV).foldl thn 0/\(((t.kids.drop i).map yV).foldl thn 0=0->r.1.1=((n+((t.kids.drop i).map size).sum:Nat):Int)/\r.1.2.1=((((t.kids.drop i).map qcn).foldl (λ a x=>max a (lev+x)) d:Nat):Int))) t.kids (by omega)
    (λ hc n d _ _=>by
     refine⟨((n,d,()),(0,())),?_,?_,λ _=>⟨?_,?_⟩⟩
     ·refine waC ?_;simp only[qox,qfs];exact waA hc (wax _)
     ·simp
     ·simp
     ·simp)
    (λ i x hx hd hc hg hi hP n d hn hd1=>by
     have hm:=wb hx;have h1:=jy t x hm;rw[qrS hd]at hn;obtain⟨r,hr,he,hz⟩:=ih x hm (by omega) (lev+1) n d (by omega) (by omega) hd1
     have hstep:∀ r' ,(r.2.1≠0->r'=((r.1.1,r.1.2.1,()),(r.2.1,())))->(r.2.1=0->Ev (λ m k=>jz m (yb m) k lev t.kids t.kids.length ((i+1:Nat):Int) r.1.1 r.1.2.1) r')->Ev (λ m k=>jz m (yb m) k lev t.kids t.kids.length i n d) r':=by
      intro r' g1 g2;refine waC ?_;simp only[qox,qfs,qh];refine waz hc (way hg ?_);rw[show qj (lev:Int) 1=((lev+1:Nat):Int) by unfold qj;omega,jJ (by omega),hi];refine wav hr ?_;refine waw (λ h=>?_) λ h=>?_
      ·rw[bnt,qg]at h;exact waB (g1 h).symm
      ·rw[bnf,qk]at h;exact g2 h
     rw[hd,wm,wm,wm,kD,QF,w7];by_cases h0:yV x=0
     ·obtain⟨z1,z2⟩:=hz h0;have hdep:=qB9 x;obtain⟨r',g1,g2,g3⟩:=hP (n+size x) (max d (lev+1+(qcn x-1))) (by omega) (by omega);refine⟨r',hstep r' (λ h=>absurd (he.trans h0) h) (λ _=>by rw[z1,z2];exact g1),by rw[h0];exact g2,λ hh=>?_⟩;rw[h0]at hh;obtain⟨q1,q2⟩:=g3 hh;refine⟨by rw[q1];congr 1;omega,?_⟩;rw[q2];have:qcn x ≥ 1:=by rw[qjH];omega
      rw[show max d (lev+1+(qcn x-1))=max d (lev+qcn x) by omega]
     ·refine⟨((r.1.1,r.1.2.1,()),(r.2.1,())),hstep _ (λ _=>rfl) (λ h=>absurd (he.symm.trans h) h0),?_,λ hh=>?_⟩
      ·rw[qP _ h0];exact he
      ·rw[qP _ h0]at hh;exact absurd hh h0)
   have start:∀ r,(yK t≠0->r=((((n+1:Nat):Int),((max d lev:Nat):Int),()),(yK t,())))->(yK t=0->Ev (λ m _=>jz m (yb m) m lev t.kids t.kids.length 0 ((n+1:Nat):Int) ((max d lev:Nat):Int)) r)->Ev (λ m _=>yb m t lev n d) r:=by
    intro r g1 g2;refine waD ?_;simp only[qAQ,qft];rw[show qj (n:Int) 1=((n+1:Nat):Int) by unfold qj;omega,jJ (by omega),qA7]
    have err:∀ e,yK t=e->e≠0->Ev (λ _ _=>some ((((n+1:Nat):Int),((max d lev:Nat):Int),()),(e,()))) r:=by
     intro e he h;refine waB ?_;subst he;exact(g1 h).symm
    have nm:(t.kind=3\/t.kids.length=0)->(∀ b,yD t.name=b->(if b then(if 8<t.kids.length then 3 else 0)else 2)=yK t)->Ev (λ m _=>qa (qda m t.name) λ v=>cond (qe v) (some ((((n+1:Nat):Int),((max d lev:Nat):Int),()),(2,()))) (cond (ilt 8 (t.kids.length:Int)) (some ((((n+1:Nat):Int),((max d lev:Nat):Int),()),(3,()))) (jz m (yb m) m lev t.kids t.kids.length 0 ((n+1:Nat):Int) ((max d lev:Nat):Int)))) r:=by
     intro _ h;have h:=h _ rfl;refine wav (qDJ _) ?_;cases hn:yD t.name with
     | false=>rw[hn]at h;exact waz rfl (err 2 h.symm (by decide))
     | true =>
       rw[hn,if_pos rfl]at h;refine waA rfl ?_;refine waw (λ h'=>?_) λ h'=>?_
       ·rw[qw]at h';rw[if_pos (by omega)]at h;exact err 3 h.symm (by decide)
       ·rw[qt]at h';rw[if_neg (by omega)]at h;exact g2 h.symm
    have leafE:∀ k,t.kind=k->(k=1\/k=2)->yK t=if t.sort<0\/5<t.sort\/0<t.kids.length then 1 else if yD t.name then 0 else 2:=by
     intro k hk h;unfold yK qfC;rw[hk,if_pos h]
    have leaf:∀ k,t.kind=k->(k=1\/k=2)->Ev (λ m _=>cond (ilt t.sort 0) (some ((((n+1:Nat):Int),((max d lev:Nat):Int),()),(1,()))) (cond (ilt 5 t.sort) (some ((((n+1:Nat):Int),((max d lev:Nat):Int),()),(1,()))) (cond (ilt 0 (t.kids.length:Int)) (some ((((n+1:Nat):Int),((max d lev:Nat):Int),()),(1,()))) (qa (qda m t.name) λ v=>cond (qe v) (some ((((n+1:Nat):Int),((max d lev:Nat):Int),()),(2,()))) (cond (ilt 8 (t.kids.length:Int)) (some ((((n+1:Nat):Int),((max d lev:Nat):Int),()),(3,()))) (jz m (yb m) m lev t.kids t.kids.length 0 ((n+1:Nat):Int) ((max d lev:Nat):Int))))))) r:=by
     intro k hk h;have hE:=leafE k hk h;refine waw (λ h'=>?_) λ h'=>?_
     ·rw[qw]at h';exact err 1 (by rw[hE,if_pos (.inl h')]) (by decide)
     rw[qt]at h';refine waw (λ h1=>?_) λ h1=>?_
     ·rw[qw]at h1;exact err 1 (by rw[hE,if_pos (.inr (.inl h1))]) (by decide)
     rw[qt]at h1;refine waw (λ h2=>?_) λ h2=>?_
     ·rw[qw]at h2;exact err 1 (by rw[hE,if_pos (.inr (.inr (by omega)))]) (by decide)
     rw[qt]at h2;rw[if_neg (by omega)]at hE;refine nm (.inr (by omega)) λ b hb=>?_;rw[hE,hb,if_neg (show ¬ 8<t.kids.length by omega)]
    by_cases h1:t.kind=1
    ·exact waz (qk.2 h1) (leaf 1 h1 (.inl rfl))
    refine waA (qg.2 h1) ?_;by_cases h2:t.kind=2
    ·exact waz (qk.2 h2) (leaf 2 h2 (.inr rfl))
    refine waA (qg.2 h2) ?_;by_cases h3:t.kind=3
    ·refine waz (qk.2 h3) ?_
     have hE:yK t=if t.sort≠0 then 1 else if yD t.name then(if 8<t.kids.length then 3 else 0)else 2:=by
      unfold yK qfC;rw[if_neg (by omega),if_pos h3]
     refine waw (λ h'=>?_) λ h'=>?_
     ·rw[bnt,qg]at h';exact err 1 (by rw[hE,if_pos h']) (by decide)
     rw[bnf,qk]at h';rw[if_neg (by omega)]at hE;exact nm (.inl h3) λ b hb=>by rw[hE,hb]
    ·refine waA (qg.2 h3) ?_;refine err 1 ?_ (by decide);unfold yK qfC;rw[if_neg (by omega),if_neg h3]
   rw[qif];by_cases h0:yK t=0
   ·rw[h0];obtain⟨r,g1,g2,g3⟩:=key 0 (we _) (n+1) (max d lev) (by rw[wO];omega) (by omega);rw[wO]at g2 g3;refine⟨r,start r (λ h=>absurd h0 h) (λ _=>waE (L := λ m k=>jz m (yb m) k lev t.kids t.kids.length 0 ((n+1:Nat):Int) ((max d lev:Nat):Int)) g1),g2,λ hh=>?_⟩;obtain⟨q1,q2⟩:=g3 hh;refine⟨by rw[q1];congr 1;omega,?_⟩;rw[q2,show max d lev=max d (lev+0) by omega,qyT,qjH,xQ]
   ·refine⟨_,start _ (λ _=>rfl) (λ h=>absurd h h0),?_,λ hh=>?_⟩
    ·rw[qP _ h0]
    ·rw[qP _ h0]at hh;exact absurd hh h0
theorem qcy(t:T)(c:size t<=1000000000):Ev (λ m _=>yA m t) (qJ t):=by
 refine waD ?_;simp only[qyD,qiA,qh];unfold qJ;obtain⟨r,f,e,d⟩:=qJd t c 1 0 0 (by omega) (by omega) (by omega);refine wav f ?_;rw[e];refine waw (λ h=>?_) λ h=>?_
 ·rw[bnt,qg]at h;exact waB (by rw[if_pos h])
 rw[bnf,qk]at h;obtain⟨b,a⟩:=d h;have g:qcn t ≥ 1:=by rw[qjH];omega
 rw[if_neg (by omega),b,a];refine waw (λ h=>?_) λ h=>?_
 ·rw[qw]at h;exact waB (by rw[if_pos (.inl (by omega))])
 rw[qt]at h;refine waw (λ h=>?_) λ h=>?_
 ·rw[qw]at h;exact waB (by rw[if_pos (.inr (by omega))])
 ·rw[qt]at h;exact waB (by rw[if_neg (by omega)])
theorem qsG(t:T):size t<=1000000000->Ev (λ m _=>jp m t) t:=by
 induction t using T.ind with
 | h t e =>
   intro l;refine waD ?_;simp only[qyI,qfy];have n:=yt t
   have a:=qs (P := λ i=>Ev (λ m k=>qaH m (jp m) k t.kids t.kids.length i t.kind t.name t.sort 0 [] 0 (t.kids.take i) []) t) t.kids (by omega)
    (λ b=>by
     refine waC ?_;simp only[qoz,qfo];refine waA b ?_;rw[wE];exact waB (qh t))
    (λ i x c o b g f j=>by
     refine waC ?_;simp only[qoz,qfo,qh];have d:=wb c;have p:=jy t x d;refine waz b (way g (wav (e x d (by omega)) (waz (qU ?_ (by omega)) ?_)))
     ·have:(t.kids.take i).length<=t.kids.length:=by rw[wo];omega
      omega
     ·rw[f];refine j.congr λ m k=>?_;rw[kt,c];rfl)
   refine waE (L := λ m k=>qaH m (jp m) k t.kids t.kids.length 0 t.kind t.name t.sort 0 [] 0 [] []) ?_;exact a 0 (we _)
def qp5:T->Prop:=T.para λ t a=>t.kids.length<2 ^ 62/\t.name.length<2 ^ 62/\∀ p∈a,p
theorem qCa(t:T):qp5 t↔t.kids.length<2 ^ 62/\t.name.length<2 ^ 62/\∀ k∈t.kids,qp5 k:=by
 unfold qp5;rw[T.para_eq];exact⟨λ⟨a,b,c⟩=>⟨a,b,λ k d=>c _ (kT d)⟩,λ⟨a,b,c⟩=>⟨a,b,λ p e=>by obtain⟨k,d,rfl⟩:=wx.1 e;exact c k d⟩⟩
theorem qIF{l:List T}{a:Int}(c:0<=a)(h:qml l a=true):∀ t∈l,(size t:Int)<=a := λ t b=>by
 have e:=qwB l a c h;have d:=qjd l t b;omega
end Go.AmZ
namespace Go.GxZ
def qtB(t:T):Int:=if(qC t.name).2.2=0 then 10 else if qmp jE t.name t.kids.length=false then 6 else if(qC t.name).2.2=2/\qjI t=false then 10 else 0
theorem qs1(n:List UInt8):(jE.find? λ r=>r.1==n)=none\/∃ r∈jE,r.1=n/\(jE.find? λ r=>r.1==n)=some r:=by
 cases h:jE.find? λ r=>r.1==n with
 | none=>exact .inl rfl
 | some r=>exact .inr ⟨r,List.mem_of_find?_eq_some h,by simpa using List.find?_some h,rfl⟩
theorem quA{n:List UInt8}(h:(jE.find? λ r=>r.1==n)=none):qC n=(0,0,0):=by unfold qC;rw[h];rfl
theorem qnF{n:List UInt8}{r:List UInt8 × Int × Int × Int}(h:(jE.find? λ r=>r.1==n)=some r):qC n=r.2:=by unfold qC;rw[h];rfl
def qJy(r:List UInt8 × Int × Int × Int):Bool :=
 decide (r.2.2.2≠0)&&decide (0<=r.2.1)&&decide (r.2.2.1<=8)&&(decide (r.2.2.2=2)==(r.1==qg7||r.1==nSk||r.1==qsE))&&(decide (r.2.2.2=2)==decide (r.2.2.2=2/\1<=r.2.1))&&(decide (r.2.2.2=3)==(r.1==qIR||r.1==qvn||r.1==qIx||r.1==qDV||r.1==qDr||r.1==qEi))
theorem qJL:jE.all qJy=true:=by decide
theorem quu{n:List UInt8}(h:(qC n).2.2≠0):qIj jE n=true/\qu6 jE n=qC n/\0<=(qC n).1/\(qC n).2.1<=8/\((qC n).2.2=2↔n=qg7\/n=nSk\/n=qsE)/\((qC n).2.2=2->1<=(qC n).1)/\((qC n).2.2=3↔isD n=true):=by
 rcases qs1 n with b | ⟨r,d,g,b⟩
 ·rw[quA b]at h;exact absurd rfl h
 ·have c:=wv.1 qJL r d;subst g;rw[qnF b];unfold qJy at c;simp only[wd,beq_iff_eq,decide_eq_true_eq]at c;obtain⟨⟨⟨⟨⟨l,k⟩,j⟩,a⟩,f⟩,i⟩:=c;refine⟨wai.2 ⟨r,d,by simp⟩,qnF b,k,j,?_,?_,?_⟩
  ·constructor
   ·intro h;rw[decide_eq_true h]at a;have:=a.symm;simp only[kg,beq_iff_eq]at this;exact or_assoc.1 this
   ·intro h;by_cases e:r.2.2.2=2
    ·exact e
    ·rw[decide_eq_false e]at a;have:=a.symm;simp only[xH,beq_eq_false_iff_ne]at this;rcases h with h | h | h
     ·exact absurd h this.1.1
     ·exact absurd h this.1.2
     ·exact absurd h this.2
  ·intro h;rw[decide_eq_true h]at f;have:=of_decide_eq_true f.symm;exact this.2
  ·unfold isD;rw[<- i];simp
theorem qHe(t:T)(n:t.kind=3):qtB t=qcs t:=by
 unfold qtB qcs;rw[if_neg (show ¬ (t.kind≠3)from λ h=>h n)];by_cases b:(qC t.name).2.2=0
 ·rw[if_pos b,if_pos b]
 ·rw[if_neg b,if_neg b];obtain⟨j,i,r,q,g,p,o⟩:=quu b
  have e1:qmp jE t.name t.kids.length=(decide ((qC t.name).1<=(t.kids.length:Int))&&decide ((t.kids.length:Int)<=(qC t.name).2.1)):=by
   unfold qmp;rw[j,i,kr]
  rw[e1];by_cases e:(t.kids.length:Int)<(qC t.name).1\/(qC t.name).2.1<(t.kids.length:Int)
  ·rw[if_pos e,if_pos];rw[xX,decide_eq_false_iff_not,decide_eq_false_iff_not];omega
  ·rw[if_neg e,if_neg]
   ·have f:(qC t.name).2.2=2/\qjI t=false↔qah t=true:=by
      rw[g];unfold qjI qah;by_cases a:t.name=qg7
      ·rw[if_pos a,if_pos a];simp[a]
      ·rw[if_neg a,if_neg a];by_cases c:t.name=nSk\/t.name=qsE
       ·rw[if_pos c]
        have:agB t.kids = !(t.kids.any λ k=>decide (k.kind=3)||decide (k.sort≠1)):=by
         unfold agB;generalize t.kids=l
         induction l with
         | nil=>rfl
         | cons x l m=>simp only[kC,vZ,m,Bool.not_or];congr 1;congr 1;by_cases h:x.sort=1<;>simp[bne,h]
        rw[this];simp[c]
       ·rw[if_neg c];constructor
        ·rintro⟨h,_⟩;rcases h with h | h
         ·exact absurd h a
         ·exact absurd h c
        ·intro h;cases h
    by_cases d:qah t=true
    ·rw[if_pos d,if_pos (f.2 d)]
    ·rw[if_neg d,if_neg (λ h=>d (f.1 h))]
   ·rw[xX,decide_eq_false_iff_not,decide_eq_false_iff_not];omega
theorem qaq{t:T}(e:t.kind=3)(h:zg t=0):qcs t=0/\(∀ k∈t.kids,zg k=0):=by
 rw[qmF,if_neg (show ¬ (t.kind≠3)from λ h=>h e)]at h;by_cases c:qcs t=0
 ·refine⟨c,?_⟩;rw[c]at h;generalize t.kids=l at *
  induction l with
  | nil=>intro k a;cases a
  | cons x l d =>
    rw[wm,QF]at h;by_cases b:zg x=0
    ·rw[b]at h;intro k a;rcases wy.1 a with rfl | a
     ·exact b
     ·exact d h k a
    ·rw[qP _ b]at h;exact absurd h b
 ·rw[qP _ c]at h;exact absurd h c
end Go.GxZ
namespace Go.AmZ
open Go Go.GxZ Go.Lib
theorem qjq(t:T)(n:List UInt8):Ev (λ m _=>jl m t n) (isN t n):=by
 refine waD ?_;simp only[qBr,qku];unfold isN;refine waw (λ h=>?_) λ h=>?_
 ·rw[qk]at h;exact waB (by rw[h];rfl)
 ·rw[qg]at h;exact waB (by rw[show(t.kind==3)=false from beq_eq_false_iff_ne.2 h];rfl)
theorem qkG(t:T)(n:List UInt8):Ev (λ m _=>qbA m t n) (isN t n):=by
 refine waD ?_;simp only[qDZ,qmd];unfold isN;refine waw (λ h=>?_) λ h=>?_
 ·rw[qk]at h;exact waB (by rw[h];rfl)
 ·rw[qg]at h;exact waB (by rw[show(t.kind==3)=false from beq_eq_false_iff_ne.2 h];rfl)
theorem qK0(n:List UInt8)(l:List T):Ev (λ m _=>qgq m n l) (apT n l):=waD (wax _)
theorem qeC(n:List UInt8)(l:List T)(a:l.length<=1000000000):Ev (λ m _=>Qe m n l) (apT n l):=by
 refine waD ?_;simp only[qBA,qkj];refine waz (qU (by simp;omega) (by omega)) ?_;refine Ev.case (λ h=>?_) λ x t h=>?_
 ·subst h;exact wax _
 ·subst h;exact wax _
def qH3(n:List UInt8):List UInt8 × Int × Int × Int:=(jE.find? λ r=>r.1==n).getD ([],0,0,0)
theorem qrP(n:List UInt8):(qH3 n).2=qC n:=by
 unfold qH3 qC;cases jE.find? λ r=>r.1==n<;>rfl
theorem qw7(n:List UInt8):Ev (λ m _=>qc2 m n) (qH3 n):=by
 refine waD ?_;simp only[qtv,qcE];refine wav (a:=jE) (wax _) ?_
 have b:=qs (P := λ i=>Ev (λ m k=>QX m k n jE jE.length i [] 0 0 0) (((jE.drop i).find? λ r=>r.1==n).getD ([],0,0,0))) jE (by decide)
  (λ c=>by
   refine waC ?_;simp only[qka,qcY];refine waA c ?_;exact wax _)
  (λ i x j f c e d g=>by
   refine waC ?_;simp only[qka,qcY];refine waz c (way e ?_);rw[f,List.find?_cons,d];refine waw (λ h=>?_) λ h=>?_
   ·exact waB (by rw[show(x.1==n)=true from h];rfl)
   ·rw[show(x.1==n)=false from h];exact g)
 refine waE (L := λ m k=>QX m k n jE jE.length 0 [] 0 0 0) ?_;exact b 0 (we _)
theorem qnX{t:T}(c:t.kind=3)(h:qcs t=0):(qC t.name).2.2≠0/\(qC t.name).1<=(t.kids.length:Int)/\(t.kids.length:Int)<=(qC t.name).2.1/\qah t=false:=by
 unfold qcs at h;rw[if_neg (show ¬ t.kind≠3 from λ a=>a c)]at h;split at h
 ·omega
 rename_i d;split at h
 ·omega
 rename_i e;split at h
 ·omega
 rename_i b;exact⟨d,by omega,by omega,by simpa using b⟩
theorem qwd{t:T}{i:Nat}(h:i<t.kids.length):qc t.kids (i:Int)=some (kid t i):=by
 rw[zM];unfold kid;rw[List.getD_eq_getElem?_getD,List.getElem?_eq_getElem h];rfl
theorem qdt{t:T}(h:0<t.kids.length):qc t.kids 0=some (kid t 0):=qwd (i:=0) h
theorem qqG{t:T}(h:1<t.kids.length):qc t.kids 1=some (kid t 1):=qwd (i:=1) h
theorem qBW{t:T}{i:Nat}(h:i<t.kids.length):kid t i∈t.kids:=by
 unfold kid;rw[List.getD_eq_getElem?_getD,List.getElem?_eq_getElem h];exact wW h
theorem yJ{t:T}{n:List UInt8}:isN t n=true↔t.kind=3/\t.name=n:=by
 unfold isN;rw[wd,beq_iff_eq,beq_iff_eq]
theorem qGp(t:T):size t<=1000000000->Ev (λ m _=>qD m t) (zg t):=by
 induction t using T.ind with
 | h t E =>
   intro F;refine waD ?_;simp only[qu1,qdK];have G:=yt t;rw[qmF];refine waw (λ h=>?_) λ z=>?_
   ·rw[bnt,qg]at h;exact waB (by rw[if_pos h])
   rw[bnf,qk]at z;rw[if_neg (show ¬ t.kind≠3 from λ c=>c z)]
   have C:=qs (P := λ i=>Ev (λ m k=>(qQ m (qD m) k).2 t.kids t.kids.length i) (((t.kids.drop i).map zg).foldl thn 0)) t.kids (by omega)
    (λ f=>by
     refine waC ?_;simp only[qlH,qdM];refine waA f ?_;exact waB (by simp))
    (λ i x A w f v u y=>by
     refine waC ?_;simp only[qlH,qdM,qh];have B:=wb A;have l:=jy t x B;refine waz f (way v (wav (E x B (by omega)) ?_));rw[w,wm,QF,u];refine waw (λ h=>?_) λ h=>?_
     ·rw[bnt,qg]at h;exact waB (by rw[qP _ h])
     ·rw[bnf,qk]at h;rw[h];exact y)
   have n:Ev (λ m k=>(qQ m (qD m) k).2 t.kids t.kids.length 0) ((t.kids.map zg).foldl thn 0):=(C 0 (we _)).res (by rw[wO])
   have D:=qs (P := λ i=>Ev (λ m k=>(qQ m (qD m) k).1 t.kids t.kids.length i t.kind t.name t.sort t.kids) (if(t.kids.drop i).any (λ k=>decide (k.kind=3)||decide (k.sort≠1))=true then 10 else(t.kids.map zg).foldl thn 0)) t.kids (by omega)
    (λ f=>by
     refine waC ?_;simp only[qlZ,qdH];refine waA f ?_;refine n.res ?_;rw[wU];rfl)
    (λ i x A w f v u y=>by
     refine waC ?_;simp only[qlZ,qdH,qh];refine waz f (way v ?_);rw[w,vZ,u];refine waw (λ h=>?_) λ h=>?_
     ·rw[qk]at h;exact waB (by rw[decide_eq_true h];rfl)
     rw[qg]at h;rw[decide_eq_false h];refine waw (λ q=>?_) λ q=>?_
     ·rw[bnt,qg]at q;exact waB (by rw[decide_eq_true q];rfl)
     ·rw[bnf,qk]at q;rw[decide_eq_false (λ c=>c q)];exact y)
   have d:qcs t=0->Ev (λ m _=>(qQ m (qD m) m).2 t.kids t.kids.length 0) ((t.kids.map zg).foldl thn (qcs t)) := λ h=>by
    rw[h];exact waE (L := λ m k=>(qQ m (qD m) k).2 t.kids t.kids.length 0) n
   have e:qah t=t.kids.any (λ k=>decide (k.kind=3)||decide (k.sort≠1))->qcs t=(if qah t=true then 10 else 0)->Ev (λ m _=>(qQ m (qD m) m).1 t.kids t.kids.length 0 t.kind t.name t.sort t.kids) ((t.kids.map zg).foldl thn (qcs t)) := λ r h=>by
    refine(waE (L := λ m k=>(qQ m (qD m) k).1 t.kids t.kids.length 0 t.kind t.name t.sort t.kids) (D 0 (we _))).res ?_;rw[wO,<- r,h];split
    ·rw[qP _ (by decide)]
    ·rfl
   refine wav (qw7 t.name) ?_;rw[qrP]
   have a:qcs t=if(qC t.name).2.2=0 then 10 else if(t.kids.length:Int)<(qC t.name).1\/(qC t.name).2.1<(t.kids.length:Int)then 6 else if qah t=true then 10 else 0:=by
    unfold qcs;rw[if_neg (show ¬ t.kind≠3 from λ c=>c z)]
   refine waw (λ h=>?_) λ h=>?_
   ·rw[qk]at h;rw[if_pos h]at a;exact waB (by rw[a,qP _ (by decide)])
   rw[qg]at h;rw[if_neg h]at a;refine waw (λ l=>?_) λ l=>?_
   ·rw[qw]at l;rw[if_pos (.inl l)]at a;exact waB (by rw[a,qP _ (by decide)])
   rw[qt]at l;refine waw (λ s=>?_) λ s=>?_
   ·rw[qw]at s;rw[if_pos (.inr s)]at a;exact waB (by rw[a,qP _ (by decide)])
   rw[qt]at s;rw[if_neg (by omega)]at a;refine waw (λ p=>?_) λ p=>?_
   ·rw[jf]at p;refine e ?_ a;unfold qah;rw[p,if_neg (by decide),if_pos (.inl rfl)]
   rw[jI]at p;refine waw (λ b=>?_) λ b=>?_
   ·rw[jf]at b;refine e ?_ a;unfold qah;rw[b,if_neg (by decide),if_pos (.inr rfl)]
   rw[jI]at b;refine waw (λ j=>?_) λ j=>?_
   ·rw[jf]at j
    have o:0<t.kids.length:=by
     rw[j,show(qC [110,101,119]).1=1 from by decide]at l;omega
    refine way (qdt o) ?_
    have r:qah t=decide ((kid t 0).kind≠2):=by
     unfold qah;rw[if_pos (show t.name=qg7 from j)]
    refine waw (λ c=>?_) λ c=>?_
    ·rw[bnt,qg]at c;rw[r,decide_eq_true c,if_pos rfl]at a;exact waB (by rw[a,qP _ (by decide)])
    ·rw[bnf,qk]at c;rw[r,decide_eq_false (λ g=>g c)]at a;exact d a
   ·rw[jI]at j;refine d ?_
    have:qah t=false:=by
     unfold qah;rw[if_neg (show ¬ t.name=qg7 from j),if_neg (λ h=>h.elim p b)]
    rw[this]at a;exact a
theorem qDj(t:T)(a:size t<=1000000000):Ev (λ m _=>qd2 m t) (qce t):=by
 refine waD ?_;simp only[qwh,qgp,qh];unfold qce;refine wav (qcy t a) ?_;refine waw (λ h=>?_) λ h=>?_
 ·rw[bnt,qg]at h;exact waB (by rw[QD h])
 ·rw[bnf,qk]at h;rw[h];exact wav (qGp t a) (wax _)
theorem qv6(n:List UInt8):Ev (λ m _=>qen m n) (qC n).2.2:=by
 refine waD ?_;simp only[qyy,qfk];refine wav (a:=jE) (waD (wax _)) ?_
 have b:=qs (P := λ i=>Ev (λ m k=>qaS m k n jE i) (((jE.drop i).find? λ r=>r.1==n).getD ([],0,0,0)).2.2.2) jE (by decide)
  (λ c=>by
   refine waC ?_;simp only[qoy,qfn];refine waA c ?_;exact wax _)
  (λ i x j f c d e g=>by
   refine waC ?_;simp only[qoy,qfn];refine waz c (way d ?_);rw[f,List.find?_cons,e];refine waw (λ h=>?_) λ h=>?_
   ·refine way d (waB ?_);rw[show(x.1==n)=true from h];rfl
   ·rw[show(x.1==n)=false from h];exact g)
 refine waE (L := λ m k=>qaS m k n jE 0) ?_;exact(b 0 (we _)).res (by rw[<- qrP];rfl)
theorem qKj(t:T):Ev (λ m _=>qjr m t) (qmp jE t.name t.kids.length):=by
 refine waD ?_;simp only[qyX,qfD];refine wav (a:=jE) (waD (wax _)) ?_
 have c:=qs (P := λ i=>Ev (λ m k=>qaO m k jE i t.kind t.name t.sort t.kids) (qmp (jE.drop i) t.name t.kids.length)) jE (by decide)
  (λ e=>by
   refine waC ?_;simp only[qoI,qfq];refine waA e ?_;exact wax _)
  (λ i x l g e d f j=>by
   refine waC ?_;simp only[qoI,qfq];refine waz e (way d ?_);rw[g,qFp,f];refine waw (λ h=>?_) λ h=>?_
   ·rw[if_pos (show(x.1==t.name)=true from h)];refine way d ?_;refine waw (λ b=>?_) λ b=>?_
    ·rw[qa1]at b;refine way d (waB ?_);rw[decide_eq_true b];rfl
    ·rw[qbv]at b;exact waB (by rw[decide_eq_false (by omega)];rfl)
   ·rw[if_neg (by rw[show(x.1==t.name)=false from h];decide)];exact j)
 refine waE (L := λ m k=>qaO m k jE 0 t.kind t.name t.sort t.kids) ?_;exact c 0 (we _)
theorem qFB(t:T)(f:t.kids.length<2 ^ 62)(a:t.name=qg7->0<t.kids.length):Ev (λ m _=>qf9 m t) (qjI t):=by
 refine waD ?_;simp only[qvx,qdC];unfold qjI;refine waw (λ h=>?_) λ h=>?_
 ·rw[jf]at h;rw[if_pos (show t.name=qg7 from h)];refine way (qdt (a h)) (wax _)
 rw[jI]at h;rw[if_neg (show ¬ t.name=qg7 from h)]
 have c:=qs (P := λ i=>Ev (λ m k=>Jx m k i t.kind t.name t.sort t.kids) (agB (t.kids.drop i))) t.kids f
  (λ d=>by
   refine waC ?_;simp only[qlK,qds];refine waA d ?_;exact waB (by rw[wU];rfl))
  (λ i x n j d e g l=>by
   refine waC ?_;simp only[qlK,qds];refine waz d (way e ?_);rw[j,qHt,g];refine waw (λ h=>?_) λ h=>?_
   ·exact waB (by rw[show(x.kind==3)=true from h];rfl)
   rw[show(x.kind==3)=false from h];refine way e ?_;refine waw (λ b=>?_) λ b=>?_
   ·rw[bnt,qg]at b;exact waB (by rw[show(x.sort != 1)=true from bne_iff_ne.2 b];rfl)
   ·rw[bnf,qk]at b;rw[show(x.sort != 1)=false by rw[b];rfl];exact l)
 refine waE (L := λ m k=>Jx m k 0 t.kind t.name t.sort t.kids) ?_;exact(c 0 (we _)).res (by rw[wO])
theorem qGO(t:T):size t<=1000000000->Ev (λ m _=>jd m t) (zg t):=by
 induction t using T.ind with
 | h t o =>
   intro C;refine waD ?_;simp only[qya,qeS,qh];have E:=yt t;rw[qmF];refine waw (λ h=>?_) λ f=>?_
   ·rw[bnt,qg]at h;exact waB (by rw[if_pos h])
   rw[bnf,qk]at f;rw[if_neg (show ¬ t.kind≠3 from λ r=>r f),<- qHe t f]
   have c:=qs (P := λ i=>Ev (λ m k=>Je m (jd m) k i t.kind t.name t.sort t.kids) (((t.kids.drop i).map zg).foldl thn 0)) t.kids (by omega)
    (λ e=>by
     refine waC ?_;simp only[qmZ,qeJ];refine waA e ?_;exact waB (by simp))
    (λ i x p u e s q w=>by
     refine waC ?_;simp only[qmZ,qeJ,qh];have g:=wb p;have G:=jy t x g;refine waz e (way s (wav (o x g (by omega)) ?_));rw[u,wm,QF,q];refine waw (λ h=>?_) λ h=>?_
     ·rw[bnt,qg]at h;exact waB (by rw[qP _ h])
     ·rw[bnf,qk]at h;rw[h];exact w)
   have a:qtB t=0->Ev (λ m _=>Je m (jd m) m 0 t.kind t.name t.sort t.kids) ((t.kids.map zg).foldl thn (qtB t)) := λ h=>by
    rw[h];exact(waE (L := λ m k=>Je m (jd m) k 0 t.kind t.name t.sort t.kids) (c 0 (we _))).res (by rw[wO])
   unfold qtB at a |-
   refine wav (qv6 t.name) ?_;refine waw (λ h=>?_) λ h=>?_
   ·rw[qk]at h;rw[if_pos h];exact waB (by rw[qP _ (by decide)])
   rw[qg]at h;rw[if_neg h]at a |-
   refine wav (qKj t) ?_;cases d:qmp jE t.name t.kids.length with
   | false =>
     refine waz rfl ?_;rw[if_pos rfl];exact waB (by rw[qP _ (by decide)])
   | true =>
     rw[d,if_neg (by decide)]at a;rw[if_neg (by decide)];refine waA rfl ?_;refine waw (λ b=>?_) λ b=>?_
     ·rw[qk]at b;refine wav (qFB t (by omega) λ D=>?_) ?_
      ·obtain⟨n,l,B,A,z,j,y⟩:=quu h;have F:=j b;unfold qmp at d;rw[n,l,kr,wd,decide_eq_true_iff]at d;omega
      cases v:qjI t with
      | false =>
        refine waz rfl ?_;rw[if_pos ⟨b,rfl⟩];exact waB (by rw[qP _ (by decide)])
      | true =>
        rw[v,if_neg (by rintro⟨_,h⟩;cases h)]at a;rw[if_neg (by rintro⟨_,h⟩;cases h)];exact waA rfl (a rfl)
     ·rw[qg]at b;rw[if_neg (by rintro⟨h,_⟩;exact b h)]at a |-
      exact a rfl
theorem qC9(t:T)(a:size t<=1000000000):Ev (λ m _=>qe9 m t) (qce t):=by
 refine waD ?_;simp only[qxQ,qhA,qh];unfold qce;refine wav (qcx t a) ?_;refine waw (λ h=>?_) λ h=>?_
 ·rw[bnt,qg]at h;exact waB (by rw[QD h])
 ·rw[bnf,qk]at h;rw[h];exact wav (qGO t a) (wax _)
end Go.AmZ
namespace Go.GxZ
def Asc(l:List T):Prop:=l.Pairwise λ a b=>qp a b=-1
theorem yu{a:T}:qp a a≠-1:=by rw[qqa];decide
theorem qva{a b:T}:qp a b=1↔qp b a=-1:=by
 have:=ya.anti a b;omega
theorem qeI{a b c:T}(e:qp a b=-1)(d:qp b c=-1):qp a c=-1:=ya.trans a b c e d
theorem qaw{x:T}{l:List T}:Asc (x::l)↔(∀ y∈l,qp x y=-1)/\Asc l:=List.pairwise_cons
theorem qCb:∀(l m:List T),Asc l->Asc m->(∀ x,x∈l↔x∈m)->l=m
 | [],[],_,_,_=>rfl
 | [],y::m,_,_,h=>absurd ((h y).2 (wh ..)) (by simp)
 | x::l,[],_,_,h=>absurd ((h x).1 (wh ..)) (by simp)
 | x::l,y::m,n,k,h=>by
   obtain⟨c,i⟩:=qaw.1 n;obtain⟨b,g⟩:=qaw.1 k;have f:=(h x).1 (wh ..);have d:=(h y).2 (wh ..)
   have e:x=y:=by
    rcases wy.1 f with e | f
    ·exact e
    rcases wy.1 d with e | d
    ·exact e.symm
    exact absurd (qeI (c y d) (b x f)) yu
   subst e;rw[qCb l m i g λ z=>?_];constructor
   ·intro a;rcases wy.1 ((h z).1 (wg _ a))with e | j
    ·subst e;exact absurd (c z a) yu
    ·exact j
   ·intro a;rcases wy.1 ((h z).2 (wg _ a))with e | j
    ·subst e;exact absurd (b z a) yu
    ·exact j
theorem qtu(n:Nat):∀(a b:List T),a.length+b.length<=n->Asc a->Asc b->Asc (zj a b)/\(∀ x,x∈zj a b↔¬(x∈a↔x∈b)):=by
 induction n with
 | zero =>
   intro a b h _ _;obtain rfl:a=[]:=ko.1 (by omega);obtain rfl:b=[]:=ko.1 (by omega);rw[zj];exact⟨List.Pairwise.nil,by simp⟩
 | succ n p =>
   intro a b h u t
   match a,b with
   | [],b=>rw[zj];exact⟨t,by simp⟩
   | x::a,[]=>rw[zj];exact⟨u,by simp[Classical.or_iff_not_imp_left]⟩
   | x::a,y::b =>
     rw[zj];obtain⟨g,o⟩:=qaw.1 u;obtain⟨f,m⟩:=qaw.1 t;simp only[wu]at h;by_cases k:qp x y=-1
     ·rw[if_pos k];obtain⟨l,i⟩:=p a (y::b) (by simp;omega) o t
      have s:x ∉ y::b:=by
       intro h;rcases wy.1 h with e | h
       ·subst e;exact yu k
       ·exact yu (qeI k (f x h))
      have B:x ∉ a := λ h=>yu (g x h);refine⟨qaw.2 ⟨λ z q=>?_,l⟩,λ z=>?_⟩
      ·have:=(i z).1 q;by_cases d:z∈a
       ·exact g z d
       ·have c:z∈y::b:=by
          by_cases c:z∈y::b
          ·exact c
          ·exact absurd ⟨λ h=>absurd h d,λ h=>absurd h c⟩ this
        rcases wy.1 c with e | w
        ·rw[e];exact k
        ·exact qeI k (f z w)
      ·rw[wy,i,wy (a:=z) (b:=x)];by_cases e:z=x
       ·subst e;simp[s]
       ·simp[e]
     ·rw[if_neg k];by_cases v:qp x y=1
      ·rw[if_pos v];have j:=qva.1 v;obtain⟨l,i⟩:=p (x::a) b (by simp;omega) u m
       have r:y ∉ x::a:=by
        intro h;rcases wy.1 h with e | h
        ·subst e;exact yu j
        ·exact yu (qeI j (g y h))
       have A:y ∉ b := λ h=>yu (f y h);refine⟨qaw.2 ⟨λ z q=>?_,l⟩,λ z=>?_⟩
       ·have:=(i z).1 q;by_cases c:z∈b
        ·exact f z c
        ·have d:z∈x::a:=by
           by_cases d:z∈x::a
           ·exact d
           ·exact absurd ⟨λ h=>absurd h d,λ h=>absurd h c⟩ this
         rcases wy.1 d with e | w
         ·rw[e];exact j
         ·exact qeI j (g z w)
       ·rw[wy,i,wy (a:=z) (b:=y)];by_cases e:z=y
        ·subst e;simp[r]
        ·simp[e]
      ·rw[if_neg v];have j:qp x y=0:=by have:=ya.rng x y;omega
       have e:=qar x y j;subst e;obtain⟨l,i⟩:=p a b (by omega) o m;refine⟨l,λ z=>?_⟩;rw[i,wy,wy];by_cases e:z=x
       ·subst e;have:z ∉ a := λ h=>yu (g z h);have:z ∉ b := λ h=>yu (f z h);simp[*]
       ·simp[e]
theorem qww{a b:List T}(d:Asc a)(c:Asc b):Asc (zj a b):=(qtu _ a b (wa _) d c).1
theorem qGo{a b:List T}(d:Asc a)(c:Asc b)(x:T):x∈zj a b↔¬(x∈a↔x∈b):=(qtu _ a b (wa _) d c).2 x
theorem qgT:∀(b:List (List T)) (a:List T),Asc a->(∀ l∈b,Asc l)->Asc (b.foldl zj a)
 | [],_,h,_=>h
 | l::b,a,h,k=>qgT b _ (qww h (k l (wh ..))) λ m c=>k m (wg _ c)
theorem qlc(t:T):Asc (jV t):=by
 refine T.ind (P := λ t=>Asc (jV t)) ?_ t;intro t a;rw[qki];split
 ·exact List.Pairwise.nil
 ·split
  ·exact qgT _ _ List.Pairwise.nil λ l b=>by
    obtain⟨k,c,rfl⟩:=wx.1 b;exact a k c
  ·exact vy _ _
def Js(t:T)(s:List T × Bool)(x:T):List T × Bool :=
 if s.2=false/\qp t x<=0 then(s.1++(if qp t x<0 then[t]else[])++[x],true)else(s.1++[x],s.2)
def qvZ(l:List T)(t:T):List T:=if(l.foldl (Js t) ([],false)).2 then(l.foldl (Js t) ([],false)).1 else(l.foldl (Js t) ([],false)).1++[t]
def qhI(l:List T)(t:T):List T:=if l.any (λ x=>jc x t)then l.filter (λ x => !jc x t)else qvZ l t
def qjx(a b:List T):List T:=b.foldl qhI a
theorem qwQ(t:T):∀(l a:List T),l.foldl (Js t) (a,true)=(a++l,true)
 | [],a=>by simp
 | x::l,a=>by
   have e:Js t (a,true) x=(a++[x],true):=by simp[Js]
   rw[w7,e,qwQ t l];simp
def Q6:List T->T->List T
 | [],t=>[t]
 | x::l,t=>if qp t x<0 then t::x::l else if qp t x=0 then x::l else x::Q6 l t
theorem quI(t:T):∀(l a:List T),(if(l.foldl (Js t) (a,false)).2 then(l.foldl (Js t) (a,false)).1 else(l.foldl (Js t) (a,false)).1++[t])=a++Q6 l t
 | [],a=>by simp[Q6]
 | x::l,a=>by
   rw[w7];by_cases h:qp t x<=0
   ·have e:Js t (a,false) x=(a++(if qp t x<0 then[t]else[])++[x],true):=by simp[Js,h]
    rw[e,qwQ,Q6];by_cases b:qp t x<0
    ·simp[b]
    ·have:qp t x=0:=by omega
     simp[this]
   ·have e:Js t (a,false) x=(a++[x],false):=by simp[Js,h]
    rw[e,quI t l,Q6,if_neg (by omega),if_neg (by omega)];simp
theorem qr2(l:List T)(t:T):qvZ l t=Q6 l t:=by
 have:=quI t l [];simpa[qvZ]using this
theorem qrE(t:T):∀(l:List T) (x:T),x∈Q6 l t↔x∈l\/x=t
 | [],x=>by simp[Q6]
 | y::l,x=>by
   rw[Q6];split
   ·simp only[wy];constructor
    ·rintro(h | h | h)<;>simp[h]
    ·rintro((h | h) | h)<;>simp[h]
   ·split
    ·rename_i h;have:=qar t y h;subst this;simp only[wy];constructor
     ·rintro(h | h)<;>simp[h]
     ·rintro((h | h) | h)<;>simp[h]
    ·rw[wy,qrE t l x,wy];constructor
     ·rintro(h | h | h)<;>simp[h]
     ·rintro((h | h) | h)<;>simp[h]
theorem qAS(t:T):∀(l:List T),Asc l->Asc (Q6 l t)
 | [],_=>vy _ _
 | y::l,h=>by
   obtain⟨c,d⟩:=qaw.1 h;rw[Q6];have f:=ya.rng t y;split
   ·have b:qp t y=-1:=by omega
    refine qaw.2 ⟨λ z a=>?_,h⟩;rcases wy.1 a with e | a
    ·rw[e];exact b
    ·exact qeI b (c z a)
   ·split
    ·exact h
    ·refine qaw.2 ⟨λ z a=>?_,qAS t l d⟩;rcases(qrE t l z).1 a with a | e
     ·exact c z a
     ·rw[e];exact qva.1 (by omega)
theorem qbp{a b:T}:jc a b=true↔a=b:=by unfold jc;exact decide_eq_true_iff
theorem qGM{l:List T}(h:Asc l)(t:T):Asc (qhI l t)/\∀ x,x∈qhI l t↔¬(x∈l↔x=t):=by
 unfold qhI;by_cases a:t∈l
 ·have f:(l.any λ x=>jc x t)=true:=wai.2 ⟨t,a,qbp.2 rfl⟩;rw[if_pos f];refine⟨List.Pairwise.filter _ h,λ x=>?_⟩;rw[kJ];by_cases e:x=t
  ·subst e;simp[a,qbp.2 rfl]
  ·have:jc x t=false:=by
     cases b:jc x t
     ·rfl
     ·exact absurd (qbp.1 b) e
   simp[e,this]
 ·rw[if_neg (λ b=>by
    obtain⟨x,c,d⟩:=wai.1 b;exact a (by rw[<- qbp.1 d];exact c)),qr2]
  refine⟨qAS t l h,λ x=>?_⟩;rw[qrE];by_cases e:x=t
  ·subst e;simp[a]
  ·simp[e]
theorem qnn:∀(b a:List T),Asc a->Asc b->Asc (qjx a b)/\∀ x,x∈qjx a b↔¬(x∈a↔x∈b)
 | [],a,g,_=>⟨g,λ x=>by simp[qjx]⟩
 | y::b,a,g,n=>by
   obtain⟨f,d⟩:=qaw.1 n;obtain⟨l,k⟩:=qGM g y;obtain⟨j,i⟩:=qnn b (qhI a y) l d;refine⟨j,λ x=>?_⟩;rw[show qjx a (y::b)=qjx (qhI a y) b from rfl,i,k,wy];by_cases e:x=y
   ·subst e;have:x ∉ b := λ h=>yu (f x h);by_cases c:x∈a<;>simp[this,c]
   ·by_cases c:x∈a<;>by_cases m:x∈b<;>simp[e,c,m]
theorem qAj{a b:List T}(d:Asc a)(c:Asc b):qjx a b=zj a b :=
 qCb _ _ (qnn b a d c).1 (qww d c) λ x=>by rw[(qnn b a d c).2,qGo d c]
end Go.GxZ
namespace Go.AmZ
open Go Go.GxZ Go.Lib
def szL(l:List T):Nat:=(l.map size).sum
theorem qO(x:T)(l:List T):szL (x::l)=size x+szL l:=by simp[szL]
theorem qhk(a b:List T):szL (a++b)=szL a+szL b:=by simp[szL]
theorem jF:∀ l:List T,l.length<=szL l
 | []=>we _
 | x::l=>by
   have:=jF l;have:=size_pos x;rw[qO,wu];omega
theorem qcc{l:List T}{x:T}(h:x∈l):size x<=szL l:=qjd l x h
theorem qoc:∀(n:Nat) (a b:List T),a.length+b.length<=n->szL (zj a b)<=szL a+szL b
 | _,[],b,_=>by rw[zj];omega
 | _,x::a,[],_=>by rw[zj];omega
 | 0,x::a,y::b,h=>by simp at h
 | n+1,x::a,y::b,h=>by
   simp only[wu]at h;rw[zj];split
   ·have:=qoc n a (y::b) (by simp;omega);rw[qO,qO];omega
   ·split
    ·have:=qoc n (x::a) b (by simp;omega);rw[qO y,qO y];omega
    ·have:=qoc n a b (by omega);rw[qO,qO];omega
theorem qrs:∀(b:List (List T)) (a:List T),szL (b.foldl zj a)<=szL a+(b.map szL).sum
 | [],_=>by simp
 | l::b,a=>by
   have d:=qrs b (zj a l);have c:=qoc _ a l (wa _);simp only[w7,wm,kD];omega
theorem quq(f g:T->Nat):∀ l:List T,(∀ k∈l,f k<=g k)->(l.map f).sum<=(l.map g).sum
 | [],_=>wa _
 | x::l,h=>by
   have c:=h x (wh ..);have b:=quq f g l λ k a=>h k (wg _ a);simp only[wm,kD];omega
theorem qzT(l:List T)(h:∀ k∈l,szL (jV k)<=size k):szL ((l.map jV).foldl zj [])<=szL l:=by
 refine wD (qrs _ _) ?_;rw[xg];have:=quq (szL ∘ jV) size l h;show 0+_<=(l.map size).sum;omega
theorem qj1(t:T):szL (jV t)<=size t:=by
 refine T.ind (P := λ t=>szL (jV t)<=size t) ?_ t;intro t a;rw[qki];split
 ·exact we _
 ·split
  ·have:=qzT t.kids a;have:=qR t;unfold szL at *;omega
  ·show szL [t]<=_;rw[qO];exact wa _
theorem qef(l:List T):szL (zU l)<=szL l:=qzT l λ k _=>qj1 k
theorem qnR(x:T)(l:List T):qd8 (x::l) 1 (((x::l).length:Nat):Int)=l:=by
 unfold qd8;rw[wJ,wE];rfl
theorem qhO(n:Nat):inb (n:Int) n=true:=by unfold inb;rw[decide_eq_true_iff];omega
theorem qqT(x:T)(l:List T):inb 1 (Int.toNat (((x::l).length:Nat):Int))=true:=by
 unfold inb;rw[decide_eq_true_iff,wJ,wu];omega
theorem qzD(x:T)(l:List T):ilt 0 (((x::l).length:Nat):Int)=true:=by rw[qw,wu];omega
theorem qEF:∀(n:Nat) (a b c:List T),a.length+b.length<=n->szL c+szL a+szL b<=1000000000->Ev (λ m k=>qcz m k a b c) (c++zj a b):=by
 intro n
 induction n with
 | zero =>
   intro a b c i g;have:a=[]:=wj (by omega);subst this;have:b=[]:=wj (by omega);subst this;refine waC ?_;simp only[qrv,qh5];have:=jF c;exact waA rfl (waz (qU (by simp only[wZ];omega) (by omega)) (waz (qU (by simp only[wZ,wA];omega) (by omega)) (waB (by rw[zj];simp))))
 | succ n f =>
   intro a b c i g;refine waC ?_;simp only[qrv,qh5,qh];have o:=jF c;have l:=jF a;have j:=jF b;cases a with
   | nil =>
     refine waA rfl (waz (qU (by simp only[wZ];omega) (by omega)) (waz (qU (by simp only[wA];omega) (by omega)) (waB (by rw[zj];simp))))
   | cons x a =>
     refine waz (qzD x a) ?_;cases b with
     | nil =>
       refine waA rfl (waz (qU (by omega) (by omega)) (waz (qU (by rw[wc];simp only[wZ];omega) (by omega)) (waB (by rw[zj];simp))))
     | cons y b =>
       rw[qO,qO]at g;refine waz (qzD y b) (way (JS _) (way (JS _) (wav (qdd x (by omega) y (by omega)) ?_)));rw[zj];simp only[wu]at i l j;rw[qO]at l j;refine waw (λ e=>?_) λ e=>?_
       ·rw[qw]at e;have e:qp x y=-1:=by rcases ya.rng x y with h | h | h<;>omega
        rw[if_pos e];refine way (JS _) (waz (qU (by omega) (by omega)) (waz (qhO _) (waz (qqT x a) ?_)));rw[qnR];refine(f a (y::b) (c++[x]) (by simp only[wu];omega) (by rw[qhk,qO,qO];show szL c+(size x+0)+_+_<=_;omega)).res (by simp)
       ·rw[qt]at e;rw[if_neg (by omega)];refine waw (λ d=>?_) λ d=>?_
        ·rw[qw]at d;have d:qp x y=1:=by rcases ya.rng x y with h | h | h<;>omega
         rw[if_pos d];refine way (JS _) (waz (qU (by omega) (by omega)) (waz (qhO _) (waz (qqT y b) ?_)));rw[qnR];refine(f (x::a) b (c++[y]) (by simp only[wu];omega) (by rw[qhk,qO,qO];show szL c+(size y+0)+_+_<=_;omega)).res (by simp)
        ·rw[qt]at d;rw[if_neg (by omega)];refine waz (qhO _) (waz (qqT x a) (waz (qhO _) (waz (qqT y b) ?_)));rw[qnR,qnR];exact f a b c (by omega) (by omega)
theorem qz6(a b:List T)(c:szL a+szL b<=1000000000):Ev (λ m _=>qkp m a b) (zj a b):=by
 refine waD ?_;simp only[qEr,qhR];refine waE (L := λ m k=>qcz m k a b []) ?_;exact qEF _ a b [] (wa _) (by show 0+_+_<=_;omega)
theorem qBv(l:List T)(i:Nat):szL (l.take i)<=szL l:=by
 have:=congrArg szL (kz i l);rw[qhk]at this;omega
theorem Ql{l:List T}{i:Nat}{x:T}(h:l[i]?=some x):szL (l.take i)+size x<=szL l:=by
 have b:l.take (i+1)=l.take i++[x]:=by rw[kt,h];rfl
 have a:=qBv l (i+1);rw[b,qhk,qO]at a;have:szL ([]:List T)=0:=rfl;omega
theorem qi9{l:List T}{i:Nat}{x:T}(h:l[i]?=some x):((l.take (i+1)).map jV).foldl zj []=zj (((l.take i).map jV).foldl zj []) (jV x):=by
 rw[kt,h,wT,xk];rfl
theorem qI1(t:T):size t<=1000000000->Ev (λ m _=>yy m t) (jV t):=by
 induction t using T.ind with
 | h t s =>
   intro B;have C:=yt t;have A:=qR t;refine waD ?_;simp only[qu0,qdA,qh]
   have o:=qs (P := λ i=>Ev (λ m k=>QB m (yy m) k (((t.kids.take i).map jV).foldl zj []) t.kids t.kids.length i) ((t.kids.map jV).foldl zj [])) t.kids (by omega)
    (λ q=>by
     refine waC ?_;simp only[qk9,qdG];refine waA q ?_;rw[wE];exact wax _)
    (λ i x c D q w u y=>by
     refine waC ?_;simp only[qk9,qdG,qh];have r:=wb c;have F:=jy t x r;have z:=qef (t.kids.take i);have g:=Ql c;have E:=qj1 x;refine waz q (way w (wav (s x r (by omega)) (wav (qz6 _ _ ?_) ?_)))
     ·unfold zU at z;unfold szL at *;omega
     ·rw[u];refine y.congr λ m k=>?_;rw[qi9 c])
   have j:Ev (λ m _=>QB m (yy m) m [] t.kids t.kids.length 0) ((t.kids.map jV).foldl zj []) :=
    waE (L := λ m k=>QB m (yy m) k [] t.kids t.kids.length 0) (o 0 (we _))
   rw[qki];by_cases g:t.kind=3
   ·have f:ieq t.kind 3=true:=qk.2 g;refine waz f ?_;refine waw (λ e=>?_) λ e=>?_
    ·rw[jf]at e;have a:isN t qb1=true:=yJ.2 ⟨g,e⟩
     have d:isN t qco=false:=by
      rw[<- kP,yJ];rintro⟨_,h⟩;rw[e]at h;exact absurd h (by decide)
     refine waw (λ b=>?_) λ b=>?_
     ·rw[qk]at b;have b:t.kids=[]:=wj (by omega);rw[a,b];exact wax _
     ·rw[qg]at b
      have b:t.kids.isEmpty=false:=by
       cases v:t.kids with
       | nil=>rw[v]at b;exact absurd rfl b
       | cons _ _=>rfl
      rw[a,b,d];exact waz f (waA (by rw[e];rfl) (wax _))
    ·have p:=jI.1 e
     have a:isN t qb1=false:=by
      rw[<- kP,yJ];rintro⟨_,h⟩;exact p h
     rw[a];refine waz f (waw (λ c=>?_) λ c=>?_)
     ·rw[show isN t qco=true from yJ.2 ⟨g,jf.1 c⟩];exact j
     ·have d:isN t qco=false:=by
        rw[<- kP,yJ];rintro⟨_,h⟩;exact jI.1 c h
      rw[d];exact wax _
   ·have f:ieq t.kind 3=false:=qg.2 g
    have l:∀ n,isN t n=false := λ n=>by
     rw[<- kP,yJ];rintro⟨h,_⟩;exact g h
    rw[l,l];exact waA f (waA f (wax _))
end Go.AmZ
namespace Go.AmZ
open Go Go.GxZ
theorem qGU(b:List (List T))(d:b.length<1000)(h:(b.map List.length).sum<=100000000):Ev (λ m _=>zJ m b) b.flatten:=by
 have g:∀ l:List (List T),l.flatten.length=(l.map List.length).sum := λ l=>List.length_flatten
 have s:=qs (P := λ i=>Ev (λ m k=>(qm m k).2 b b.length i (b.take i).flatten) b.flatten) b (by omega)
  (λ c=>by
   refine waC ?_;simp only[qad,yT];refine waA c ?_;rw[wE];exact wax _)
  (λ i x o r c f e j=>by
   refine waC ?_;simp only[qad,yT];have p:b.take (i+1)=b.take i++[x]:=by rw[kt,o];rfl
   have q:((b.take (i+1)).map List.length).sum<=(b.map List.length).sum:=by
    have:=congrArg (λ l=>(l.map List.length).sum) (kz (i+1) b);simp only[wT,List.sum_append]at this;omega
   rw[p]at q;simp only[wT,List.sum_append,wm,xW,kD,List.sum_nil]at q;refine waz c (way f (waz (qU ?_ (by omega)) ?_))
   ·rw[g];omega
   ·rw[e];refine j.congr λ m k=>?_;rw[p,xm];simp)
 have t:=qs (P := λ i=>∀ n:Nat,n+((b.drop i).map List.length).sum<=100000000->Ev (λ m k=>(qm m k).1 b n b b.length i) b.flatten) b (by omega)
  (λ c n d=>by
   refine waC ?_;simp only[qaf,yR];refine waA c (way (a:=((),[],())) ?_ (s 0 (we _)));unfold yN;rw[show inb (n:Int) 100000000=true from by unfold inb;rw[decide_eq_true_iff];omega];rfl)
  (λ i x o r c f e j n d=>by
   refine waC ?_;simp only[qaf,yR];rw[r,wm,kD]at d;refine waz c (way f ?_);rw[qhq,jJ (by omega)];refine waA (qt.2 (by omega)) ?_;rw[e];exact j (n+x.length) (by omega))
 refine waD ?_;simp only[qfe,yS];refine waE (L := λ m k=>(qm m k).1 b 0 b b.length 0) ?_;exact t 0 (we _) 0 (by rw[wO];omega)
theorem quv(a b:List T)(h:a.length+b.length<=100000000):Ev (λ m _=>zJ m [a,b]) (a++b) :=
 (qGU [a,b] (by simp) (by simpa using h)).res (by simp)
theorem qpp{f:T->Int}{l:List T}{i:Nat}{x:T}(h:l.drop i=x::l.drop (i+1)):((l.drop i).map f).foldl thn 0=if f x≠0 then f x else((l.drop (i+1)).map f).foldl thn 0:=by
 rw[h,wm];by_cases a:f x=0
 ·rw[if_neg (by simpa using a),a];rfl
 ·rw[if_pos a];exact qP _ a
theorem qI5(l:List T)(n:szL l<=100000000):Ev (λ m _=>qlr m l []) (qmT l):=by
 have o:=jF l;refine waD ?_;simp only[qBR,qgL];unfold qmT;refine waw (λ h=>?_) λ h=>?_
 ·rw[qw]at h;rw[if_pos (by omega)];exact wax _
 ·rw[qt]at h;rw[if_neg (by omega)];refine wav (quv l [] (by simp only[wZ];omega)) ?_;rw[wA]
  have b:=qs (P := λ i=>Ev (λ m k=>qbD m k l l.length i) (((l.drop i).map qJ).foldl thn 0)) l (by omega)
   (λ c=>by
    refine waC ?_;simp only[qpS,qgn];refine waA c ?_;rw[wU];exact wax _)
   (λ i x d g c f e j=>by
    refine waC ?_;simp only[qpS,qgn,qh];have p:=qcc (wb d);rw[qpp g];refine waz c (way f (wav (qcy x (by omega)) (waw (λ a=>?_) λ a=>?_)))
    ·rw[bnt,qg]at a;rw[if_pos a];exact wax _
    ·rw[bnf,qk]at a;rw[if_neg (by omega),e];exact j)
  refine waE (L := λ m k=>qbD m k l l.length 0) ?_;exact(b 0 (we _)).res (by rw[wO])
theorem qEH(t:T)(a:size t<=1000000000):Ev (λ m _=>qgu m t [] t) (t,0):=by
 refine waD ?_;simp only[qwm,qdB,qh];refine wav (qsG t a) ?_;refine waE (L := λ m k=>qau m k [] ([]:List Int).length 0 t.kind t.name t.sort t.kids 0 [] 0 t.kind t.name t.sort t.kids []) (waC ?_);simp only[qt8,qgf,qh];refine waA rfl ?_;rw[show T.mk t.kind t.name t.sort t.kids=t from qh t];exact wav (qsG t a) (wax _)
def qdW(l:List T)(i:Nat):List T:=l.take i++List.replicate (l.length-i) zT
theorem qJh{l:List T}{i:Nat}(h:i<l.length):(qdW l i)[i]?=some zT:=by
 unfold qdW;rw[List.getElem?_append_right (by rw[wo];omega),wo,List.getElem?_replicate,if_pos (by omega)]
theorem qsI{l:List T}{i:Nat}{x:T}(h:l[i]?=some x):(qdW l i).set i x=qdW l (i+1):=by
 have hi:=(List.getElem?_eq_some_iff.1 h).1;unfold qdW;have h1:l.take (i+1)=l.take i++[x]:=by rw[kt,h];rfl
 have h2:List.replicate (l.length-i) zT=zT::List.replicate (l.length-(i+1)) zT:=by
  rw[show l.length-i=(l.length-(i+1))+1 by omega,List.replicate_succ]
 rw[h1,h2,xZ _ _ (by rw[wo];omega),wo,show i-min i l.length=0 by omega,List.set_cons_zero,wi];rfl
theorem qGT{l:List T}{i:Nat}{x:T}(h:l[i]?=some x):(qdW l (i+1)).set i x=qdW l (i+1):=by
 rw[<- qsI h,List.set_set]
theorem qGB{l:List T}{i:Nat}{x:T}(h:l[i]?=some x):(qdW l (i+1))[i]?=some x:=by
 have a:=(List.getElem?_eq_some_iff.1 h).1;rw[<- qsI h,List.getElem?_set_self (by unfold qdW;rw[wc,wo,kH];omega)]
theorem qaz{α : Type}(l:List α)(i:Nat)(v : α):jt l (i:Int) v=l.set i v:=by
 unfold jt;rw[if_pos (by omega),wJ]
theorem qKD:∀(n:Nat) (l:List T),szL l<=n->n<=1000000->Ev (λ m _=>JY m l) l:=by
 intro n
 induction n using Nat.strongRecOn with
 | _ n p =>
 intro l s t;have u:=jF l;refine waD ?_;simp only[qGt,qjk]
 have d:=qs (P := λ i=>Ev (λ m k=>qed m (JY m) k l l.length i (qdW l i)) l) l (by omega)
  (λ h=>by
   refine waC ?_;simp only[qub,qjf];refine waA h ?_;exact waB (by unfold qdW;rw[wE,kK];simp))
  (λ i x b v h r q j=>by
   refine waC ?_;simp only[qub,qjf,qh];have y:=qcc (wb b);have w:=qR x;have f:=(List.getElem?_eq_some_iff.1 b).1;have e:jt (qdW l i) i x=qdW l (i+1):=by rw[qaz,qsI b]
   have o:jt (qdW l (i+1)) i x=qdW l (i+1):=by rw[qaz,qGT b]
   have g:qc (qdW l (i+1)) i=some x:=by rw[zM,qGB b]
   refine waz h (way r (wav (qEH x (by omega)) (way (a:=zT) (by rw[zM,qJh f]) (wav (p (szL x.kids) (by unfold szL at *;omega) x.kids (wa _) (by unfold szL at *;omega)) ?_))));rw[e];refine way g ?_;rw[show T.mk x.kind x.name x.sort x.kids=x from qh x,o,q];refine waw (λ c=>?_) λ c=>j;rw[qk]at c;have c:x.kids=[]:=wj (by omega);refine way g ?_;rw[show T.mk x.kind x.name x.sort []=x from by rw[<- c];exact qh x,o];exact j)
 refine waz (by unfold qEp;rw[decide_eq_true_iff,wJ];omega) ?_;refine waE (L := λ m k=>qed m (JY m) k l l.length 0 (List.replicate (Int.toNat (l.length:Int)) (T.mk 0 [] 0 []))) ?_;refine(d 0 (we _)).congr λ m k=>?_;unfold qdW;rw[xE,wJ];rfl
theorem qKS(l:List T)(z:szL l<=900000):Ev (λ m _=>qqI m l) (qoj l):=by
 have A:=jF l;refine waD ?_;simp only[qFi,qjv];unfold qoj;refine wav (qI5 l (by omega)) (waw (λ h=>?_) λ h=>?_)
 ·rw[bnt,qg]at h;rw[if_pos h];exact wax _
 ·rw[bnf,qk]at h;rw[if_neg (by omega)]
  have e:=qs (P := λ i=>Ev (λ m k=>qdR m k (((l.take i).map jV).foldl zj []) l l.length i 0 [] 0 []) (if qJ (J5 (zU l))≠0 then(zT,3)else(J5 (zU l),0))) l (by omega)
   (λ j=>by
    refine waC ?_;simp only[qud,qji,qh];refine waA j ?_;rw[wE];have b:=qef l;show Ev (λ m k=>qa (JY m (zU l)) _) _;have o:=jF (zU l)
    have c:∀ u:T,u=J5 (zU l)->Ev (λ m _=>qa (yA m u) λ v=>cond (qe (ieq v 0)) (some (T.mk 0 [] 0 [],(3:Int))) (some (u,0))) (if qJ (J5 (zU l))≠0 then(zT,3)else(J5 (zU l),0)):=by
     intro u p
     have y:size (J5 (zU l))<=1+szL (zU l):=by
      unfold J5;split
      ·rw[qR];show 1+0<=_;omega
      ·split
       ·rename_i _ d
        have:(zU l).getD 0 zT∈zU l:=by
         cases g:zU l with
         | nil=>rw[g]at d;cases d
         | cons x r=>exact wh ..
        have:=qcc this;omega
       ·rw[qR];exact wa _
     subst p;refine wav (qcy _ (by omega)) (waw (λ h=>?_) λ h=>?_)
     ·rw[bnt,qg]at h;rw[if_pos h];exact wax _
     ·rw[bnf,qk]at h;rw[if_neg (by omega)];exact wax _
    refine wav (qKD _ (zU l) (wa _) (by omega)) (waw (λ n=>?_) λ n=>?_)
    ·rw[qk]at n;exact c _ (by unfold J5;rw[if_pos (by omega)];rfl)
    ·rw[qg]at n;refine waw (λ b=>?_) λ b=>?_
     ·rw[qk]at b;refine way (a:=(zU l).getD 0 zT) ?_ (c _ (by unfold J5;rw[if_neg (by omega),if_pos (by omega)]));rw[JS,List.getD_eq_getElem?_getD];cases g:zU l with
      | nil=>rw[g]at b;simp at b
      | cons x r=>rfl
     ·rw[qg]at b;exact c _ (by unfold J5;rw[if_neg (by omega),if_neg (by omega)];rfl))
   (λ i x f B j t s w=>by
    refine waC ?_;simp only[qud,qji,qh];have q:=wb f;have b:=qcc q;have o:=qef (l.take i);have D:=Ql f;have C:=qj1 x;refine waz j (way t (wav (qI1 x (by omega)) (wav (qz6 _ _ ?_) ?_)))
    ·unfold zU at o;omega
    ·rw[s];refine w.congr λ m k=>?_;rw[qi9 f])
  refine waE (L := λ m k=>qdR m k [] l l.length 0 0 [] 0 []) ?_;exact e 0 (we _)
end Go.AmZ
namespace Go.AmZ
open Go Go.GxZ
theorem qLY(l:List T)(t:T)(j:szL l+size t<=1000000000):Ev (λ m _=>ql6 m l t) (l.any λ x=>jc x t):=by
 have n:=jF l;refine waD ?_;simp only[qBS,qgl]
 have a:=qs (P := λ i=>Ev (λ m k=>qbJ m k l i t.kind t.name t.sort t.kids) ((l.drop i).any λ x=>jc x t)) l (by omega)
  (λ b=>by
   refine waC ?_;simp only[qqm,qgk];refine waA b (waB ?_);rw[wU];rfl)
  (λ i x c f b e d g=>by
   refine waC ?_;simp only[qqm,qgk,qh];have o:=qcc (wb c);rw[f,vZ,show T.mk t.kind t.name t.sort t.kids=t from qh t];refine waz b (way e (wav (qfQ x t (by omega) (by omega)) (waw (λ h=>?_) λ h=>?_)))
   ·rw[h];exact wax _
   ·rw[h,d];exact g)
 refine waE (L := λ m k=>qbJ m k l 0 t.kind t.name t.sort t.kids) ?_;exact(a 0 (we _)).res (by rw[wO])
theorem qy9(t:T):∀(l:List T) (s:List T × Bool),(l.foldl (Js t) s).1.length<=s.1.length+2*l.length
 | [],s=>by simp
 | x::l,s=>by
   have h:=qy9 t l (Js t s x)
   have:(Js t s x).1.length<=s.1.length+2:=by
    unfold Js;split
    ·simp only[wc,wu,wZ];split<;>simp
    ·simp
   rw[w7,wu];omega
theorem qFt(l:List T)(t:T)(r:szL l+size t<=1000000000):Ev (λ m _=>qit m l t) (qvZ l t):=by
 have u:=jF l;refine waD ?_;simp only[qBQ,qgj]
 have d:∀ i,((l.take i).foldl (Js t) ([],false)).1.length<=2*l.length := λ i=>by
  have:=qy9 t (l.take i) ([],false);have q:(l.take i).length<=l.length:=by rw[wo];omega
  simp only[wZ]at this;omega
 have g:=qs (P := λ i=>Ev (λ m k=>qbK m k l ((l.take i).foldl (Js t) ([],false)).2 i t.kind t.name t.sort t.kids ((l.take i).foldl (Js t) ([],false)).1) (qvZ l t)) l (by omega)
  (λ j=>by
   refine waC ?_;simp only[qpQ,qgY];refine waA j ?_;rw[wE];unfold qvZ;have:=d l.length;rw[wE]at this;refine waw (λ h=>?_) λ h=>?_
   ·rw[bnt]at h;rw[if_neg (by rw[h];decide),show T.mk t.kind t.name t.sort t.kids=t from qh t];exact waz (qU (by omega) (by omega)) (wax _)
   ·rw[bnf]at h;rw[if_pos h];exact wax _)
  (λ i x n v j f o a=>by
   refine waC ?_;simp only[qpQ,qgY,qh];have w:=qcc (wb n);have q:=d i
   have e:(l.take (i+1)).foldl (Js t) ([],false)=Js t ((l.take i).foldl (Js t) ([],false)) x:=by
    rw[kt,n,xk];rfl
   rw[e]at a;generalize (l.take i).foldl (Js t) ([],false)=s at *;rw[show T.mk t.kind t.name t.sort t.kids=t from qh t,o];refine waz j (way f (wav (qh6 t (by omega) x (by omega)) (waw (λ h=>?_) λ h=>?_)))
   ·rw[bnt]at h;refine waw (λ c=>?_) λ c=>?_
    ·rw[qa1]at c;unfold Js at a;rw[if_pos ⟨h,c⟩]at a;refine waw (λ b=>?_) λ b=>?_
     ·rw[qw]at b;rw[if_pos b]at a;exact waz (qU (by omega) (by omega)) (way f (waz (qU (by rw[wc];simp only[wu,wZ];omega) (by omega)) a))
     ·rw[qt]at b;rw[if_neg (by omega),wA]at a;exact way f (waz (qU (by omega) (by omega)) a)
    ·rw[qbv]at c;unfold Js at a;rw[if_neg (by omega)]at a;exact way f (waz (qU (by omega) (by omega)) a)
   ·rw[bnf]at h;unfold Js at a;rw[if_neg (by rw[h];intro p;cases p.1)]at a;exact way f (waz (qU (by omega) (by omega)) a))
 refine waE (L := λ m k=>qbK m k l false 0 t.kind t.name t.sort t.kids []) ?_;exact g 0 (we _)
theorem qLP(l:List T)(t:T)(f:szL l+size t<=1000000000):Ev (λ m _=>qgz m l t) (qhI l t):=by
 have n:=jF l;refine waD ?_;simp only[qvV,qdp,qh];unfold qhI;refine wav (qLY l t f) (waw (λ h=>?_) λ h=>?_)
 ·rw[bnt]at h;rw[if_neg (by rw[h];decide)];exact wav (qFt l t f) (wax _)
 ·rw[bnf]at h;rw[if_pos h]
  have b:=qs (P := λ i=>Ev (λ m k=>JC m k l i t.kind t.name t.sort t.kids ((l.take i).filter λ x => !jc x t)) (l.filter λ x => !jc x t)) l (by omega)
   (λ c=>by
    refine waC ?_;simp only[qlb,qdw];refine waA c ?_;rw[wE];exact wax _)
   (λ i x d o c g j a=>by
    refine waC ?_;simp only[qlb,qdw,qh];have q:=qcc (wb d);have p:((l.take i).filter λ x => !jc x t).length<=l.length:=wD (va _ _) (by rw[wo];omega);rw[kt,d,vt]at a;rw[show T.mk t.kind t.name t.sort t.kids=t from qh t,j];refine waz c (way g (wav (qfQ x t (by omega) (by omega)) (waw (λ h=>?_) λ h=>?_)))
    ·rw[bnt]at h;have e:(Option.some x).toList.filter (λ x => !jc x t)=[x]:=by show[x].filter _=_;simp[h]
     rw[e]at a;exact way g (waz (qU (by omega) (by omega)) a)
    ·rw[bnf]at h;have e:(Option.some x).toList.filter (λ x => !jc x t)=[]:=by show[x].filter _=_;simp[h]
     rw[e,wA]at a;exact a)
  refine waE (L := λ m k=>JC m k l 0 t.kind t.name t.sort t.kids []) ?_;exact b 0 (we _)
theorem qwj(t:T):∀ l:List T,szL (Q6 l t)<=szL l+size t
 | []=>by rw[Q6,qO];omega
 | x::l=>by
   have:=qwj t l;rw[Q6];split
   ·rw[qO,qO];omega
   ·split
    ·omega
    ·rw[qO,qO];omega
theorem qw9(p:T->Bool):∀ l:List T,szL (l.filter p)<=szL l
 | []=>wa _
 | x::l=>by
   have:=qw9 p l;rw[List.filter_cons];split
   ·rw[qO,qO];omega
   ·rw[qO];omega
theorem qKL(l:List T)(t:T):szL (qhI l t)<=szL l+size t:=by
 unfold qhI;split
 ·exact wD (qw9 _ l) (by omega)
 ·rw[qr2];exact qwj t l
theorem qtI:∀(b a:List T),szL (b.foldl qhI a)<=szL a+szL b
 | [],a=>by simp[szL]
 | x::b,a=>by
   have d:=qtI b (qhI a x);have c:=qKL a x;rw[w7,qO];omega
theorem qAt(a b:List T)(n:szL a+szL b<=1000000000):Ev (λ m _=>qgH m a b) (qjx a b):=by
 have t:=jF a;have s:=jF b;refine waD ?_;simp only[qA5,qfx]
 have d:=qs (P := λ i=>Ev (λ m k=>JU m k b ((b.take i).foldl qhI a) i) (qjx a b)) b (by omega)
  (λ e=>by
   refine waC ?_;simp only[qoL,qfp];refine waA e ?_;rw[wE];exact wax _)
  (λ i x f o e l j g=>by
   refine waC ?_;simp only[qoL,qfp,qh];have q:=Ql f;have p:=qtI (b.take i) a;rw[kt,f,xk]at g;refine waz e (way l (wav (qLP _ x (by omega)) ?_));rw[j];exact g)
 refine waz (qU (by simp only[wZ];omega) (by omega)) ?_;have c:Ev (λ m _=>JU m m b a 0) (qjx a b):=waE (L := λ m k=>JU m k b a 0) (d 0 (we _));exact Ev.case (λ h=>by rw[h]at c |-;exact c) λ x r h=>by rw[h]at c |-;exact c
theorem qHA(t:T):size t<=1000000000->Ev (λ m _=>zW m t) (jV t):=by
 induction t using T.ind with
 | h t w =>
   intro F;have v:=yt t;have E:=qR t;refine waD ?_;simp only[qsF,qbU,qh]
   have q:=qs (P := λ i=>Ev (λ m k=>jL m (zW m) k (((t.kids.take i).map jV).foldl zj []) i t.kind t.name t.sort t.kids) ((t.kids.map jV).foldl zj [])) t.kids (by omega)
    (λ s=>by
     refine waC ?_;simp only[qiW,qb7];refine waA s ?_;rw[wE];exact wax _)
    (λ i x c G s A y C=>by
     refine waC ?_;simp only[qiW,qb7,qh];have u:=wb c;have I:=jy t x u;have D:=qef (t.kids.take i);have f:=Ql c;have H:=qj1 x
     have B:Asc (((t.kids.take i).map jV).foldl zj []):=qgT _ _ List.Pairwise.nil λ l v=>by
      obtain⟨k,_,rfl⟩:=wx.1 v;exact qlc k
     refine waz s (way A (wav (w x u (by omega)) (wav (qAt _ _ ?_) ?_)))
     ·unfold zU at D;unfold szL at *;omega
     ·rw[y,qAj B (qlc x)];refine C.congr λ m k=>?_;rw[qi9 c])
   have g:Ev (λ m _=>jL m (zW m) m [] 0 t.kind t.name t.sort t.kids) ((t.kids.map jV).foldl zj []) :=
    waE (L := λ m k=>jL m (zW m) k [] 0 t.kind t.name t.sort t.kids) (q 0 (we _))
   rw[qki];by_cases f:t.kind=3
   ·have p:ieq t.kind 3=true:=qk.2 f;have o:qe (ieq t.kind 3)=false:=bnf.2 p;refine waz p ?_;refine waw (λ e=>?_) λ e=>?_
    ·rw[jf]at e;have a:isN t qb1=true:=yJ.2 ⟨f,e⟩
     have d:isN t qco=false:=by
      rw[<- kP,yJ];rintro⟨_,h⟩;rw[e]at h;exact absurd h (by decide)
     refine waw (λ b=>?_) λ b=>?_
     ·rw[qk]at b;have b:t.kids=[]:=wj (by omega);rw[a,b];exact wax _
     ·rw[qg]at b
      have b:t.kids.isEmpty=false:=by
       cases z:t.kids with
       | nil=>rw[z]at b;exact absurd rfl b
       | cons _ _=>rfl
      rw[a,b,d];exact waA o (waz (by rw[e];rfl) (wax _))
    ·have r:=jI.1 e
     have a:isN t qb1=false:=by
      rw[<- kP,yJ];rintro⟨_,h⟩;exact r h
     rw[a];refine waA o (waw (λ c=>?_) λ c=>?_)
     ·have d:isN t qco=false:=by
        rw[<- kP,yJ];rintro⟨_,h⟩;exact jI.1 (bnt.1 c) h
      rw[d];exact wax _
     ·rw[show isN t qco=true from yJ.2 ⟨f,jf.1 (bnf.1 c)⟩];exact g
   ·have p:ieq t.kind 3=false:=qg.2 f
    have j:∀ n,isN t n=false := λ n=>by
     rw[<- kP,yJ];rintro⟨h,_⟩;exact f h
    rw[j,j];exact waA p (waz (bnt.2 p) (wax _))
theorem qEW:qJ (apT qb1 [])=0:=by
 unfold qJ;rw[qif,qR,qjH];have:yK (apT qb1 [])=0:=by decide
 show(if yK (apT qb1 [])≠0 then yK (apT qb1 [])else _)=0;rw[this];rfl
theorem qD0(l:List T)(n:szL l<=100000000):Ev (λ m _=>qh1 m l (apT qb1 [])) (qmT l):=by
 have o:=jF l;refine waD ?_;simp only[qx1,qeN];unfold qmT;refine waw (λ h=>?_) λ h=>?_
 ·rw[qw]at h;rw[if_pos (by omega)];exact wax _
 ·rw[qt]at h;rw[if_neg (by omega)]
  have b:=qs (P := λ i=>Ev (λ m k=>J8 m k l i 3 qb1 0 []) (((l.drop i).map qJ).foldl thn 0)) l (by omega)
   (λ c=>by
    refine waC ?_;simp only[qmz,qeF];refine waA c ?_;rw[wU];refine wav (qcx (T.mk 3 qb1 0 []) (by rw[qR];show 1+0<=_;omega)) ?_;exact waB qEW)
   (λ i x d g c f e j=>by
    refine waC ?_;simp only[qmz,qeF,qh];have p:=qcc (wb d);rw[qpp g];refine waz c (way f (wav (qcx x (by omega)) (waw (λ a=>?_) λ a=>?_)))
    ·rw[bnt,qg]at a;rw[if_pos a];exact wax _
    ·rw[bnf,qk]at a;rw[if_neg (by omega),e];exact j)
  refine waE (L := λ m k=>J8 m k l 0 3 qb1 0 []) ?_;exact(b 0 (we _)).res (by rw[wO])
theorem qCT(l:List T):size (J5 l)<=1+szL l:=by
 unfold J5;split
 ·rw[qR];show 1+0<=_;omega
 ·split
  ·rename_i _ a
   have:l.getD 0 zT∈l:=by
    cases l with
    | nil=>cases a
    | cons x r=>exact wh ..
   have:=qcc this;omega
  ·rw[qR];exact wa _
theorem qF1(l:List T)(d:szL l<=1000000000):Ev (λ m _=>qjB m l) (J5 l):=by
 have e:=jF l;refine waD ?_;simp only[qAC,qix,qh];unfold J5;refine waw (λ c=>?_) λ c=>?_
 ·rw[qk]at c;rw[if_pos (by omega)];exact wav (qeC _ [] (by simp)) (wax _)
 ·rw[qg]at c;rw[if_neg (by omega)];refine waw (λ b=>?_) λ b=>?_
  ·rw[qk]at b;rw[if_pos (by omega)];refine way (a:=l.getD 0 zT) ?_ (wax _);rw[JS,List.getD_eq_getElem?_getD];cases l with
   | nil=>simp at b
   | cons x r=>rfl
  ·rw[qg]at b;rw[if_neg (by omega)];exact waz (qU (by simp only[wZ];omega) (by omega)) (Ev.case (λ h=>waB (by rw[h];rfl)) λ x r h=>waB (by rw[h];rfl))
theorem qKG(l:List T)(q:szL l<=900000):Ev (λ m _=>qlP m l) (qoj l):=by
 have d:=jF l;refine waD ?_;simp only[qBw,qg3];unfold qoj
 have z:Ev (λ m _=>qi7 m) (apT qb1 []):=by
  refine waD ?_;simp only[qz4,qiz,qh];exact wav (qeC _ [] (by simp)) (wax _)
 refine wav z ?_;rw[qh];refine wav (qD0 l (by omega)) (waw (λ h=>?_) λ h=>?_)
 ·rw[bnt,qg]at h;rw[if_pos h];exact wax _
 ·rw[bnf,qk]at h;rw[if_neg (by omega)]
  have a:=qs (P := λ i=>Ev (λ m k=>qbP m k l (((l.take i).map jV).foldl zj []) i 0 [] 0 []) (if qJ (J5 (zU l))≠0 then(zT,3)else(J5 (zU l),0))) l (by omega)
   (λ c=>by
    refine waC ?_;simp only[qp8,qgK,qh];refine waA c ?_;rw[wE];have p:=qef l;have e:=qCT (zU l);refine wav (qF1 (zU l) (by omega)) (wav (qcx _ (by omega)) (waw (λ h=>?_) λ h=>?_))
    ·rw[bnt,qg]at h;rw[if_pos h];exact wax _
    ·rw[bnf,qk]at h;rw[if_neg (by omega)];exact wax _)
   (λ i x b r c j g o=>by
    refine waC ?_;simp only[qp8,qgK,qh];have f:=wb b;have p:=qcc f;have e:=qef (l.take i);have t:=Ql b;have s:=qj1 x
    have n:Asc (((l.take i).map jV).foldl zj []):=qgT _ _ List.Pairwise.nil λ l d=>by
     obtain⟨k,_,rfl⟩:=wx.1 d;exact qlc k
    refine waz c (way j (wav (qHA x (by omega)) (wav (qAt _ _ ?_) ?_)))
    ·unfold zU at e;omega
    ·rw[g,qAj n (qlc x)];refine o.congr λ m k=>?_;rw[qi9 b])
  refine waE (L := λ m k=>qbP m k l [] 0 0 [] 0 []) ?_;exact a 0 (we _)
end Go.AmZ
