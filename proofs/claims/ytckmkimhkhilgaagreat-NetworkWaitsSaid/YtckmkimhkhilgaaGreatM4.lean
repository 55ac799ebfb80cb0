/- Part 4 of what the proofs stand on: plain functions of the program, and that they are its functions. -/
import Derived.Test.YtckmkimhkhilgaaGreatM3
import Derived.KernelRfl
import Derived.Test.YtckmkimhkhilgaaGreatProg
import Derived.Laws.OwnMore
import Derived.Deep.DeepAppendRoom
import Derived.ArgAppend
import Derived.Test.YtckmkimhkhilgaaGreatM2
import Derived.IntWalk
import Derived.Lib.Bytealg
set_option linter.unusedVariables false
set_option linter.unusedSimpArgs false
noncomputable section
namespace Go.AmZ
open Go Go.RowKit Go.GxZ Go.Sort Go.Proofs Go.Shelf
structure qK0 (w0:World) (blk:Nat) (et:TypeId) (vs:Array Value) (W:World):Prop where
 hb:W.heap[blk]?=some (.cells vs et (0,0))
 os:W.os=w0.os
 tape:W.tape=w0.tape
 output:W.output=w0.output
 size:w0.heap.size<=W.heap.size
 other:∀ b,b<w0.heap.size->b≠blk->W.heap[b]?=w0.heap[b]?
 drawn:w0.drawn<=W.drawn
theorem qK0.refl{w:World}{a:Nat}{b:TypeId}{vs:Array Value}(h:w.heap[a]?=some (.cells vs b (0,0))):qK0 w a b vs w:=⟨h,rfl,rfl,rfl,wb _,λ _ _ _=>rfl,wb _⟩
theorem sort_blks{w:World}{blk:Nat}{et:TypeId}{vs:Array Value}(hb:w.heap[blk]?=some (.cells vs et (0,0))){α : Type}[Inhabited α](enc : α -> List Value)(k m:Nat)(dk:Array α)(os:Array Obj) :
  qK0 w blk et (putCells id 0 (flatK enc k dk) vs) (sortWorldK enc k w blk 0 m dk os):=by
 have hlt:blk<w.heap.size:=(Array.getElem?_eq_some_iff.1 hb).1;have hh:(sortWorldK enc k w blk 0 m dk os).heap=w.heap.modify blk (onCells (putCells id 0 (flatK enc k dk)))++os:=rfl;refine⟨?_,rfl,rfl,rfl,?_,λ b hb' hn=>?_,kF _ _⟩
 ·rw[hh,Array.getElem?_append_left (by simpa using hlt),Array.getElem?_modify,if_pos rfl,hb];rfl
 ·rw[hh,xD,Array.size_modify];exact kF _ _
 ·rw[hh,Array.getElem?_append_left (by simpa using hb'),Array.getElem?_modify,if_neg (xL hn)]
theorem qKn.grow{W w':World}(h:qKn W w'):∃ q a,w'=Sort.grow (W.drewN q) a:=by
 refine⟨w'.drawn-W.drawn,w'.heap.extract W.heap.size w'.heap.size,?_⟩
 have c:w'.heap=W.heap++w'.heap.extract W.heap.size w'.heap.size:=by
  apply Array.ext_getElem?;intro i;by_cases b:i<W.heap.size
  ·rw[Array.getElem?_append_left b];exact h.block i b
  ·rw[Array.getElem?_append_right (by omega),Array.getElem?_extract];split
   ·congr 1;omega
   ·rw[Array.getElem?_eq_none (by omega)]
 have d:W.drawn+(w'.drawn-W.drawn)=w'.drawn:=Nat.add_sub_cancel' h.drawn;obtain⟨g,f,e,_,_,_⟩:=h;cases w';cases W;simp only[Sort.grow,World.drewN]at *;rw[<- c,d,g,f,e]
def qcu(vs:Array Value)(k p:Nat):List Value:=(vs.toList.drop (p*k)).take k
theorem qqu{vs:Array Value}{k p j:Nat}(a:j<k):(qcu vs k p)[j]?=vs[p*k+j]?:=by
 unfold qcu;rw[List.getElem?_take,if_pos a,List.getElem?_drop,Array.getElem?_toList]
theorem qtW{vs:Array Value}{k p n:Nat}(a:p<n)(b:n*k<=vs.size):(qcu vs k p).length=k:=by
 unfold qcu;have:(p+1)*k<=n*k:=wn _ a;rw[kU]at this;rw[wm,wQ,wM];omega
theorem qBl{Γ : Gh}{τ : Ty}{c:List (List AV)}{l:List (Val τ)}{vs:Array Value}{n:Nat}(v:c.length=n)(B:∀ e∈c,e.length = τ.size)(w:zf (yh τ) c=some l)(C:yM Γ τ.size c (vs.toList.take (n * τ.size)))(A:n * τ.size<=vs.size)
  {p:Nat} {x:Val τ} (t:l[p]?=some x):RepL Γ (qj τ x) (qcu vs τ.size p)/\∀ u∈qcu vs τ.size p,u.oneCell'=true:=by
 have o:l.length=n:=(qY w).symm.trans v;have h:p<n:=by rw[<- o];exact getElem?_lt t
 have b:p<c.length:=by rw[v];exact h
 obtain⟨x',g,r⟩:=J5 w (List.getElem?_eq_getElem b);rw[t]at g;cases g;have f:=B _ (wW b);have a:=qtW (k := τ.size) h A
 have get:∀ j,j < τ.size->∃ u,(qcu vs τ.size p)[j]?=some u/\Rep Γ (c[p][j]?.getD .dead) u/\u.oneCell'=true:=by
  intro j d;have i:j<c[p].length:=by rw[f];exact d
  obtain⟨u,u1,u2,u3⟩:=C p c[p] j _ (List.getElem?_eq_getElem b) (List.getElem?_eq_getElem i);refine⟨u,?_,?_,u3⟩
  ·rw[qqu d,<- Array.getElem?_toList];rw[List.getElem?_take]at u1;split at u1
   ·exact u1
   ·cases u1
  ·rw[List.getElem?_eq_getElem i];exact u2
 constructor
 ·refine(qo3 r).rep ⟨by rw[a,f],λ j y u s m=>?_⟩;have d:j < τ.size:=by rw[<- f];exact getElem?_lt s
  obtain⟨z,u1,u2,_⟩:=get j d;rw[m]at u1;cases u1;rw[s]at u2;exact u2
 ·intro u m;obtain⟨j,d⟩:=List.getElem?_of_mem m;have q:j < τ.size:=by rw[<- a];exact getElem?_lt d
  obtain⟨z,u1,_,u3⟩:=get j q;rw[d]at u1;cases u1;exact u3
theorem qqb(j k n:Nat)(h:j<n*k):j / k<n/\j / k*k+j % k=j/\j % k<k:=by
 have b:0<k:=by
  rcases vp k with a | a
  ·rw[a,Nat.mul_zero]at h;exact absurd h (wL _)
  ·exact a
 refine⟨(xX b).2 h,?_,xU _ b⟩;rw[xG];exact vn j k
set_option maxHeartbeats 1000000 in
theorem qJf {P:Program} {ρ : Ren} (L:SlLaysF0.n6 P ρ) {τ : Ty} {g:FuncId} (hag:∀ v,yK τ v = .agg (qj τ v)) (aE:∀ w,(isAgg (ρ.t 24)).run P w = .ok true w) (zE:∀ w,(Go.sizeOf (ρ.t 24)).run P w = .ok τ.size w)
  {F:Val τ -> Val τ -> Option Int} (hF:Fn2 P g τ (λ c:Int => .int .i64 c) F) (hf:qgJ P (ρ.f 6)) {fn:List (Val τ)->Option (List (Val τ))} (hfn:∀ l r,fn l=some r->qs5 F l=some r) (hk1' : τ.size≠1:=by first | assumption | decide) :
  qZ P (ρ.f 6) (mgP ⟨τ,[.clo g 0],λ x=>fn x.1⟩):=by
 refine ⟨hf,λ Γ σ w args vals r hi hr hp=>?_⟩;unfold mgP at hp;split at hp
 case h_2=>cases hp
 rename_i x hx;split at hp
 case h_2=>cases hp
 rename_i v hv;split at hp
 case h_2=>cases hp
 rename_i hlen;obtain ⟨l,_⟩:=x;have hv:=hfn _ _ hv;have hlen:v.length=l.length:=wj hlen;obtain ⟨y0,ys0,nr,rfl,hy0,hx1⟩:=qwc hx;obtain ⟨ys1,rfl,hx2⟩:=qFZ (g:=g) (r:=[]) hx1;obtain ⟨rfl,hbx,hrw⟩:=qmm hx2;clear hx hx1 hx2;obtain ⟨u0,r0,rfl,hu0,hr⟩:=hr.uncons;obtain ⟨u1,r1,rfl,hu1,hr⟩:=hr.uncons;have:=hr.nil_inv;subst this
 have hu1:u1 = .func (.func g) #[] #[]:=by
  cases hu1 with
  | fn _ _ us hn _=>obtain rfl:=wk hn;rfl
 subst hu1;have hb0 : σ.bx=[]:=wk hbx.symm;have none0:∀ (p:Option Addr) (cap:Nat),Calls P (ρ.f 6) #[.slice p 0 cap,.func (.func g) #[] #[]] w λ e w'=>e = .returned (.tuple #[])/\w'=w := λ p cap=>AnyF.slices_SortFunc_none L p cap _ w;have tup:∀ Γ,Rep Γ (.tup []) (.tuple #[]) := λ Γ => .tup [] [] rfl (λ i x u h=>by cases h);rcases qhp hy0 with ⟨hnr,R,rfl,hR,hRk,hRf,hRd⟩ | ⟨hnr,hl0,hy⟩
 ·have hrw1 : σ.rw=[R]:=by
    rw [hnr] at hrw
    match hq : σ.rw,hrw with
    | [Q],_=>rw [hq] at hR;cases hR;rfl
  rw [hb0,hrw1] at hp;cases hp;have H:=hi.row 0 R hR;have hcl:R.c.length=l.length:=qY hRd;have hlk:∀ e∈R.c,e.length = τ.size := λ e he=>(H.len e he).trans hRk
  have qpR:qX { σ with wr:=[],wrr:=[] } ⟨[],[⟨R.k,v.map (qj τ),R.ver,R.fz,R.off⟩],[],[0]⟩ :=
   ⟨by show σ.bx.length<=0;rw [hb0];exact wb _,by show σ.rw.length<=1;rw [hrw1];exact wb _,λ i hi _=>(by have hi:i < σ.bx.length:=hi;rw [hb0] at hi;exact absurd hi (wL _)),λ i hi hn=>(by
    have hi:i < σ.rw.length:=hi;rw [hrw1] at hi;have hi:i<1:=hi;obtain rfl:i=0:=by omega
    exact absurd (wH.2 rfl) hn),λ i h=>(by cases h),λ i h=>(by cases h)⟩
  obtain ⟨p,cap,rfl,hcap,hrm⟩:=qx6 hi hR hRk hRf hu0;by_cases hl0:l=[]
  ·subst hl0;have hc0:R.c=[]:=wk hcl;have hv0:v=[]:=wk hlen;subst hv0;rw [hcl];refine (none0 p cap).mono ?_;rintro e w' ⟨rfl,rfl⟩;refine ⟨_,Γ,rfl,.refl _ _,?_,tup _,qpR⟩
   have:(⟨[],[⟨R.k,([]:List (Val τ)).map (qj τ),R.ver,R.fz,R.off⟩],[],[0]⟩:St)=⟨[],[R],[],[0]⟩:=by
    show (⟨[],[⟨R.k,[],R.ver,R.fz,R.off⟩],[],[0]⟩:St)=_;rw [<- hc0]
   show Inv Γ ⟨[],[⟨R.k,([]:List (Val τ)).map (qj τ),R.ver,R.fz,R.off⟩],[],[0]⟩ w';rw [this];exact hi.wr hb0.symm hrw1.symm
  ·have hlpos:0<l.length:=xg.2 hl0;rcases hrm with h0 | ⟨rfl,hz,vs,et,hvs,hvsz,hfit,hca,hxl,h1⟩
   ·omega
   obtain ⟨n,hn⟩:∃ n,n=l.length:=⟨_,rfl⟩
   have hnc:R.c.length=n:=hcl.trans hn.symm;rw [hnc] at hca hxl h1 hcap |-
   have hns:n * τ.size<=vs.size:=wD (wn _ hcap) hfit;have hsz0:0 < τ.size:=waE τ
   have hv':Nat.ble l.length 100000=true/\qda F l=true/\qtT l.length (ltOf (Jz F l))=true/\v=pick l (qbe F l):=by
    cases l with
    | nil=>exact absurd rfl hl0
    | cons y l =>
      have hv:cond _ _ _=some v:=hv;cases hb:(Nat.ble (y::l).length 100000&&(qda F (y::l)&&qtT (y::l).length (ltOf (Jz F (y::l))))) with
      | false=>unfold qs5 at hv;rw [hb] at hv;cases hv
      | true =>
        have hb':=hb;simp only [wd] at hb';unfold qs5 at hv;rw [hb] at hv;cases hv;exact ⟨hb'.1,hb'.2.1,hb'.2.2,rfl⟩
   obtain ⟨v1,v2,v3,v4⟩:=hv';have v1:l.length<=100000:=kN v1;have hO:SWO (ltOf (Jz F l)):=qO0 hlpos (λ i j=>by unfold ltOf;rw [qMc]) v3;obtain ⟨hperm,_⟩:=qtI F l hO;have hixlt:∀ i∈qbe F l,i<l.length := λ i hi=>kS.1 (hperm.mem_iff.1 hi);have hixlen:(qbe F l).length=l.length:=by rw [hperm.length_eq,xm]
   have hER:∀ {q:Nat} {y:Val τ},l[q]? = some y->RepL Γ (qj τ y) (qcu vs τ.size q)/\∀ u∈qcu vs τ.size q,u.oneCell'=true := λ hq=>qBl hnc hlk hRd hca hns hq;have hlast:∀ i,i % n<n := λ i=>xU _ (by omega);obtain ⟨enc,henc⟩:∃ enc:Nat->List Value,enc = λ i=>qcu vs τ.size (i % n):=⟨_,rfl⟩
   have hek:∀ i,(enc i).length = τ.size := λ i=>by rw [henc];exact qtW (hlast i) hns
   have hlget:∀ i,∃ y,l[i % n]? = some y := λ i=>⟨_,List.getElem?_eq_getElem (by rw [<- hn];exact hlast i)⟩
   have he1:∀ i,∀ u∈enc i,u.oneCell'=true := λ i u hu=>by
    rw [henc] at hu;obtain ⟨y,hy⟩:=hlget i;exact (hER hy).2 u hu
   have hrange:(Array.range n).size=n:=vC;have hvsb:w.heap[Γ.cur 0]? = some (.cells vs et (0,0)):=hvs;have hblk : Γ.cur 0<w.heap.size:=(Array.getElem?_eq_some_iff.1 hvsb).1;have hmem0:∀ off,Γ.mem (Γ.cur 0) off=none := λ off=>H.un hz off (by rw [hRf.1,kQ,H.off hRf.2];exact we _)
   have hH:HoldsK enc τ.size w (Γ.cur 0) 0 (Array.range n):=by
    intro j hj;rw [size_flatK,hrange] at hj;obtain ⟨q1,q2,q3⟩:=qqb j τ.size n hj;have hjs:j<vs.size:=wE hj hns;constructor
    ·rw [get_flatK _ _ _ _ (by rw [hrange];exact hj)];have e1:(Array.range n)[j / τ.size]! = j / τ.size:=by rw [getElem!_pos _ _ (by rw [hrange];exact q1)];simp
     rw [e1,henc];show _=some ((qcu vs τ.size (j / τ.size % n))[j % τ.size]!);rw [xr q1];have e2:(qcu vs τ.size (j / τ.size))[j % τ.size]? = some vs[j]:=by rw [qqu q3,q2];exact Array.getElem?_eq_getElem hjs
     rw [wG,Blk.cell hvs,List.getElem!_eq_getElem?_getD,e2,Array.getElem?_eq_getElem hjs];rfl
    ·exact Blk.free hvs _
   have hcmp:CmpLays P g #[] enc τ.size (Jz F l) (Γ.cur 0) 0 (Array.range n).size w:=by
    intro m os dk hdk x y;have B:=sort_blks hvsb enc τ.size m dk os;obtain ⟨W,hW⟩:∃ W,W=sortWorldK enc τ.size w (Γ.cur 0) 0 m dk os:=⟨_,rfl⟩
    rw [<- hW] at B |-
    have hiW:Inv (bare Γ) emp W:=hi.bare λ b o u e=>by
     have hne:b ≠ Γ.cur 0 := λ hb=>by rw [hb,hmem0] at e;cases e
     have hc:=(hi.mem b o u e).1;have hblt:=hi.mem_lt e;rw [show W.cell? _=w.cell? _ from World.cell?_of_block (B.other b hblt hne)];exact hc
    have rep:∀ (i:Nat) (y:Val τ),l[i % n]? = some y->Rep (bare Γ) (yK τ y) (.agg (enc i).toArray) := λ i y hy=>by
     obtain ⟨q1,q2⟩:=hER hy;rw [hag];have:enc i=qcu vs τ.size (i % n):=by rw [henc]
     rw [this];refine .agg _ _ q1.len q2 λ j z u a b=>(q1.rep j z u a b).bare (zt τ y z (wa a))
    obtain ⟨lx,hx⟩:=hlget x;obtain ⟨ly,hy⟩:=hlget y;have hsome:=wv.1 (wv.1 v2 lx (wa hx)) ly (wa hy);obtain ⟨c,hc⟩:=wag.1 hsome
    have hcf:Jz F l x y=c:=by
     unfold Jz;rw [<- hn,hx,hy];simp only;rw [hc];rfl
    rw [hcf];have hcall:=hF.2 hiW (rep x lx hx) (rep y ly hy) hc;refine Calls.mono (by simpa using hcall) ?_;rintro e w' ⟨rfl,hid⟩;exact ⟨rfl,hid.grow⟩
   have hcall:=AnyQ.slices_SortFunc_eq L τ.size aE zE enc hek he1 (Jz F l) hO g #[] (Γ.cur 0) 0 cap (Array.range n) w (λ args w=>qi0 hF.1 args w) hcmp hH hblk (by rw [hrange];omega);rw [hrange] at hcall;refine Calls.mono hcall ?_;rintro e w' ⟨rfl,m,os,hw'⟩;have B:=sort_blks hvsb enc τ.size m (pdq (ltOf (Jz F l)) (Array.range n) 0 n (Lib.bitLen n) true true) os;rw [<- hw'] at B;have hix:qbe F l=(pdq (ltOf (Jz F l)) (Array.range n) 0 n (Lib.bitLen n) true true).toList:=by unfold qbe;rw [hn]
   obtain ⟨dk,hdk⟩:∃ dk,dk=pdq (ltOf (Jz F l)) (Array.range n) 0 n (Lib.bitLen n) true true:=⟨_,rfl⟩
   rw [<- hdk] at B hix;have hdks:dk.size=n:=by rw [<- wM,<- hix,hixlen,hn]
   have hvlen:(v.map (qj τ)).length=n:=by rw [wA,hlen,hn]
   have hflat:(flatK enc τ.size dk).size=n * τ.size:=by rw [size_flatK,hdks]
   have hpsz:(putCells id 0 (flatK enc τ.size dk) vs).size=vs.size:=by unfold putCells;rw [vY]
   obtain ⟨Γ',x1,x2,_⟩:=quj hi hR (H.off hRf.2) (R':=⟨R.k,v.map (qj τ),R.ver,R.fz,R.off⟩) (by rw [hRf.1];exact we _) rfl (g := Γ.cur 0) (vs:=putCells id 0 (flatK enc τ.size dk) vs) (e:=et) (.inr ⟨rfl,rfl,hpsz.trans hvsz⟩)
    (λ e he=>by obtain ⟨y,_,rfl⟩:=wy.1 he;rw [jA,hRk]) (λ e he=>by obtain ⟨y,_,rfl⟩:=wy.1 he;exact zt τ y) (by show R.fz<=_;rw [hRf.1];exact we _) (qBc _) (λ _=>rfl) B.hb
    (by show (v.map (qj τ)).length*R.k<=_;rw [hvlen,hRk,hpsz];exact hns)
    (λ off _=>hmem0 off)
    (λ i e j x he hx=>by
     have he:(v.map (qj τ))[i]? = some e:=he;have hin:i<n:=by rw [<- hvlen];exact getElem?_lt he
     rw [List.getElem?_map,v4,qt5 hixlt] at he;have hixi:(qbe F l)[i]? = some dk[i]:=by rw [hix,Array.getElem?_toList];exact Array.getElem?_eq_getElem (by omega)
     rw [hixi] at he
     obtain ⟨y,hy,rfl⟩:∃ y,l[dk[i]]? = some y/\qj τ y=e:=by
      cases hq:l[dk[i]]? with
      | none=>simp [hq] at he
      | some y=>simp [hq] at he;exact ⟨y,rfl,he⟩
     have hdl:dk[i]<n:=wE (getElem?_lt hy) (vM hn.symm);obtain ⟨q1,q2⟩:=hER hy;have hj:j < τ.size:=by rw [<- jA τ y];exact getElem?_lt hx
     obtain ⟨u,hu,hrep⟩:=q1.get hx;refine ⟨u,?_,hrep,q2 u (wa hu)⟩;rw [hRk]
     have hlt:i * τ.size+j<n * τ.size:=by
      have:(i+1) * τ.size<=n * τ.size:=wn _ hin;rw [kU] at this;omega
     unfold putCells;rw [Array.getElem?_mapIdx,Array.getElem?_eq_getElem (wE hlt hns),kM,if_pos ⟨we _,by rw [hflat,wG];exact hlt⟩,Nat.sub_zero,id,get_flatK _ _ _ _ (by rw [hdks];exact hlt)];have e1:(i * τ.size+j) / τ.size=i:=by rw [xG,Nat.mul_add_div hsz0,Nat.div_eq_of_lt hj,wP]
     have e2:(i * τ.size+j) % τ.size=j:=by rw [xG,Nat.mul_add_mod,xr hj]
     rw [e1,e2,getElem!_pos dk i (by omega),henc];show some ((qcu vs τ.size (dk[i] % n))[j]!)=_;rw [xr hdl,List.getElem!_eq_getElem?_getD,hu];rfl)
    (λ b o u hm=>by
     have hne:b ≠ Γ.cur 0 := λ hb=>by rw [hb,hmem0] at hm;cases hm
     rw [show w'.cell? _=w.cell? _ from World.cell?_of_block (B.other b (hi.mem_lt hm) hne)];exact (hi.mem b o u hm).1)
    (λ b hb hor=>B.other b hb (hor.elim id λ h0=>absurd h0 hz)) (.inl ⟨rfl,hz⟩) B.os B.tape B.output B.size B.drawn [0]
   refine ⟨_,Γ',rfl,x1,?_,tup _,qpR⟩;refine x2.wr ?_ ?_
   ·exact hb0.symm
   ·show [(⟨R.k,v.map (qj τ),R.ver,R.fz,R.off⟩:Row)] = σ.rw.set 0 _;rw [hrw1];rfl
 ·have hrw0 : σ.rw=[]:=by rw [hnr] at hrw;exact wk hrw.symm
  rw [hb0,hrw0] at hp;cases hp
  have hfin:∀ (p:Option Addr) (cap:Nat),Jq P Γ σ w (ρ.f 6) [.slice p 0 cap,.func (.func g) #[] #[]] (.tup [],none) := λ p cap=>by
   refine (none0 p cap).mono ?_;rintro e w' ⟨rfl,rfl⟩;exact ⟨_,Γ,rfl,.refl _ _,hi,tup _,.refl _⟩
  rcases hy with rfl | ⟨f,rfl,hf2⟩
  ·have hu0:=zo hu0;subst hu0;exact hfin none 0
  ·cases hu0 with
   | sl _ _ _ a n cap b o us hn _ _ _ _ _ _ _ _ =>
     have hn:n=0:=hn;subst hn;exact hfin a cap
end Go.AmZ
namespace Go.Proofs.YtckmkimhkhilgaaGreat
open Go Go.RowKit Go.GxZ Go.Sort Go.Proofs Go.Shelf Go.Lib
def zH(a:Nat->Nat->Bool)(n:Nat):List Nat:=(List.range n).filter λ i=>decide (i=0) || !a i (i-1)
theorem qEc{a:Nat->Nat->Bool}{n:Nat}(h:a n (n-1)=false):zH a (n+1)=zH a n++[n]:=by
 unfold zH;rw[wak,xH];simp[h]
theorem qtM{a:Nat->Nat->Bool}{n:Nat}(b:0<n)(h:a n (n-1)=true):zH a (n+1)=zH a n:=by
 unfold zH;rw[wak,xH];have:¬ n=0:=by omega
 simp[h,this]
theorem qwX{b:Nat->Nat->Bool}{n:Nat}(h:∀ i,1<=i->i<n->b i (i-1)=false):zH b n=List.range n:=by
 unfold zH;rw[List.filter_eq_self];intro i a;have a:=kS.1 a;by_cases c:i=0
 ·simp[c]
 ·rw[h i (by omega) a];simp
theorem qEm{α : Type}[Inhabited α](enc : α -> List Value)(k:Nat)(g:∀ x,(enc x).length=k)(d:Array α)(i:Nat)(x : α)(h:i<d.size):setMany (flatK enc k d) (i*k) (enc x)=flatK enc k (d.setIfInBounds i x):=by
 refine ext_get! (by simp) λ t a=>?_;rw[size_setMany,size_flatK]at a;rw[get_setMany _ _ _ _ (by rw[size_flatK];exact a),g,get_flatK _ _ _ _ a,get_flatK _ _ _ _ (by simpa using a)]
 have b:0<k:=by
  rcases vp k with f | f
  ·rw[f,Nat.mul_zero]at a;exact absurd a (wL _)
  ·exact f
 by_cases c:i*k<=t/\t<i*k+k
 ·rw[if_pos c];have e:=(blk_iff k i t b).1 c;rw[e,getElem!_set_same d i x h];congr 1;have:=vn t k;rw[e]at this;have l:k*i=i*k:=xG _ _;omega
 ·rw[if_neg c,getElem!_set_other d i _ x λ j=>c ((blk_iff k i t b).2 j)]
theorem qJR{α : Type}[Inhabited α]{w:World}{enc : α -> List Value}{k blk:Nat}(hk:∀ x,(enc x).length=k)(m:Nat)(dk:Array α)(os:Array Obj)(hblk:blk<w.heap.size)(i:Nat)(x : α)(hi:i<dk.size) :
  (sortWorldK enc k w blk 0 m dk os).setCells blk (i*k) (enc x)=sortWorldK enc k w blk 0 m (dk.setIfInBounds i x) os:=by
 have hb:i*k+(enc x).length<=(flatK enc k dk).size:=by
  rw[hk,size_flatK];have:=wn k (show i+1<=dk.size from hi)
  rwa [kU]at this
 unfold sortWorldK;rw[setCells_grow os blk _ _ _ (by rw[size_putRowK];exact hblk)];congr 1;unfold putRowK;have:=setCells_putRow (Sort.ahead w m) blk 0 (enc x) (i*k) (flatK enc k dk) hb;rw[wG]at this;rw[this,qEm enc k hk dk i x hi]
variable {P:Program}
set_option maxHeartbeats 4000000 in
set_option maxRecDepth 1000000 in
theorem qIn(i:P.funcs[108]?=some Tryz.f108)(a:P.follows .mixedOrders=true)
  (t0:P.underlying 0=some (TypeDesc.tuple #[])) (y:∀ w,(isAgg 0).run P w = .ok false w) (o:∀ w,(Go.sizeOf 0).run P w = .ok 1 w) (s:∀ w,(zeroValue 0).run P w = .ok (Value.tuple #[]) w)
  (u:P.underlying 3=some (TypeDesc.int IntKind.i64)) (x:∀ w,(isAgg 3).run P w = .ok false w) (n:∀ w,(Go.sizeOf 3).run P w = .ok 1 w) (r:∀ w,(zeroValue 3).run P w = .ok (Value.int IntKind.i64 0) w)
  (t:P.underlying 4=some (TypeDesc.bool)) (v:∀ w,(isAgg 4).run P w = .ok false w) (m:∀ w,(Go.sizeOf 4).run P w = .ok 1 w) (q:∀ w,(zeroValue 4).run P w = .ok (Value.bool false) w)
  (h:P.underlying 22=some (TypeDesc.slice 24)) (l:∀ w,(isAgg 22).run P w = .ok false w) (c:∀ w,(Go.sizeOf 22).run P w = .ok 1 w) (f:∀ w,(zeroValue 22).run P w = .ok (Value.slice none 0 0) w)
  (g:P.underlying 41=some (TypeDesc.func #[24,24] #[4] false)) (k:∀ w,(isAgg 41).run P w = .ok false w) (b:∀ w,(Go.sizeOf 41).run P w = .ok 1 w) (d:∀ w,(zeroValue 41).run P w = .ok (Value.nilFunc) w)
  (p:Option Addr) (cap:Nat) (j:Value) (w:World) :
  Calls P 108 #[.slice p 0 cap,j] w λ e w'=>e = .returned (.slice p 0 cap)/\w'=w:=by
 go_enter i,Tryz.ntmps108
 go_wp2
 go_ret
 exact⟨rfl,rfl⟩
set_option maxHeartbeats 4000000 in
set_option maxRecDepth 1000000 in
theorem qJl (hF:P.funcs[108]? = some Tryz.f108) (mixed:P.follows .mixedOrders=true)
  (t0:P.underlying 0=some (TypeDesc.tuple #[])) (a0:∀ w,(isAgg 0).run P w = .ok false w) (z0:∀ w,(Go.sizeOf 0).run P w = .ok 1 w) (v0:∀ w,(zeroValue 0).run P w = .ok (Value.tuple #[]) w)
  (t3:P.underlying 3=some (TypeDesc.int IntKind.i64)) (a3:∀ w,(isAgg 3).run P w = .ok false w) (z3:∀ w,(Go.sizeOf 3).run P w = .ok 1 w) (v3:∀ w,(zeroValue 3).run P w = .ok (Value.int IntKind.i64 0) w)
  (t4:P.underlying 4=some (TypeDesc.bool)) (a4:∀ w,(isAgg 4).run P w = .ok false w) (z4:∀ w,(Go.sizeOf 4).run P w = .ok 1 w) (v4:∀ w,(zeroValue 4).run P w = .ok (Value.bool false) w)
  (t22:P.underlying 22=some (TypeDesc.slice 24)) (a22:∀ w,(isAgg 22).run P w = .ok false w) (z22:∀ w,(Go.sizeOf 22).run P w = .ok 1 w) (v22:∀ w,(zeroValue 22).run P w = .ok (Value.slice none 0 0) w)
  (t36:P.underlying 41=some (TypeDesc.func #[24,24] #[4] false)) (a36:∀ w,(isAgg 41).run P w = .ok false w) (z36:∀ w,(Go.sizeOf 41).run P w = .ok 1 w) (v36:∀ w,(zeroValue 41).run P w = .ok (Value.nilFunc) w)
  (k:Nat) (hk0:0<k) (aE:∀ w,(isAgg 24).run P w = .ok true w) (zE:∀ w,(Go.sizeOf 24).run P w = .ok k w) (zv:Value) (vE:∀ w,(zeroValue 24).run P w = .ok zv w) (hzk:zv.cells.size=k) (hz1:∀ n,∀ v∈(Builtin.zeroCells zv.cells n).toList,v.oneCell'=true)
  (w:World) (blk n cap:Nat) (et:TypeId) (vs:Array Value) (q:Nat) (hbk:w.heap[blk]? = some (.cells vs et (0,0))) (hcs:cap*k<=vs.size) (hnc:n<=cap) (hn:n<=100000) (h0n:0<n)
  (enc:Nat->List Value) (hk:∀ x,(enc x).length=k) (h1:∀ x,∀ v∈enc x,v.oneCell'=true) (hH:HoldsK enc k w blk 0 (Array.range n))
  (eg:∀ args w,(callFunc q args).run P w = .ok (.enter q args) w) (ef:Nat->Nat->Bool)
  (heq:∀ (m:Nat) (os:Array Obj) (dk:Array Nat),dk.size=n->∀ x y,Calls P q #[.agg (enc x).toArray,.agg (enc y).toArray] (sortWorldK enc k w blk 0 m dk os) λ e w'=>e = .returned (.bool (ef x y))/\∃ q' os',w'=grow ((sortWorldK enc k w blk 0 m dk os).drewN q') os') :
  Calls P 108 #[.slice (some ⟨blk,0,none⟩) n cap,.func (.func q) #[] #[]] w λ e w'=>e = .returned (.slice (some ⟨blk,0,none⟩) (zH ef n).length cap) /\
   ∃ (dk:Array Nat) (m:Nat) (os:Array Obj) (new:List Value),dk.size=n/\dk.toList.take (zH ef n).length=zH ef n/\(w'=sortWorldK enc k w blk 0 m dk os\/(new.take ((zH ef n).length*k)=(putCells id 0 (flatK enc k dk) vs).toList.take ((zH ef n).length*k)/\new.length=vs.size/\w'=(sortWorldK enc k w blk 0 m dk os).setRow blk new.toArray)):=by
 have u22:=run_underlying t22;have hblk:blk<w.heap.size:=(Array.getElem?_eq_some_iff.1 hbk).1;have hrs:(Array.range n).size=n:=vC;have HC:Aside _:=heq;have HST:Hid (w=sortWorldK enc k w blk 0 0 (Array.range n) #[]):=by show w=_;unfold sortWorldK;rw [grow_empty];exact (putRowK_self enc k w blk 0 _ hH).symm
 have HH:Hid (HoldsK enc k w blk 0 (Array.range n)):=hH;have HK:Hid (∀ x,(enc x).length=k):=hk;have H1:Hid (∀ x,∀ v∈enc x,v.oneCell'=true):=h1;have HBK:Hid (w.heap[blk]? = some (.cells vs et (0,0))):=hbk;have HVE:Aside _:=vE;have HZ1:Aside _:=hz1;have HZK:=Lib.hid hzk;have HCS:=Lib.hid hcs;clear heq hH hk h1 hbk vE hz1 hzk hcs;have hnz:(n:Int)<=100000:=by omega
 by_cases hn2:n<2
 ·have hn1:n=1:=by omega
  subst hn1;have hci:zH ef 1=[0]:=by unfold zH;simp
  have HCI:=Lib.hid hci;clear hci
  go_enter hF,Tryz.ntmps108
  go_wp2
  go_ret
  rw [HCI.out];exact ⟨rfl,Array.range 1,0,#[],[],hrs,by simp,.inl HST.out⟩
 ·have hn2z:¬ ((n:Int)<2):=by omega
  go_enter hF,Tryz.ntmps108
  go_wp2
  go_loopg [5] n (λ g1 vi wr=>∃ (i m:Nat) (os:Array Obj),vi = .int .i64 i/\1<=i/\i<=n/\n-i<=g1/\wr=sortWorldK enc k w blk 0 m (Array.range n) os/\Hid (∀ j,1<=j->j<i->ef j (j-1)=false))
  case atStart=>exact ⟨1,0,#[],rfl,wb _,by omega,by omega,HST.out,λ j h1 h2=>by omega⟩
  case round =>
   obtain ⟨i,m,os,rfl,hi1,hin,hg1,rfl,HE⟩:=hrel;by_cases hlt:i<n
   ·have hltz:(i:Int)<(n:Int):=by omega
    obtain ⟨ip,rfl⟩:∃ ip,i=ip+1:=⟨i-1,by omega⟩
    have hwp:IntKind.i64.wrap (ip:Int)=(ip:Int):=by rw [IntKind.wrap_i64];omega
    have jz1:(ip:Int)<(n:Int):=by omega
    have p0:(0:Int)<=(ip:Int)+1:=by omega
    have e0:((ip:Int)+1).toNat=ip+1:=by omega
    have r1:(Array.range n)[ip+1]! = ip+1:=by rw [getElem!_pos _ _ (by rw [hrs];exact hlt)];simp
    have r0:(Array.range n)[ip]! = ip:=by rw [getElem!_pos _ _ (by rw [hrs];omega)];simp
    have hcls:∀ n' os',grow ((sortWorldK enc k w blk 0 m (Array.range n) os).drewN n') os'=sortWorldK enc k w blk 0 (m+n') (Array.range n) (os++os') := λ n' os'=>sortWorldK_grown_c enc k w blk 0 m n' _ os os';have hHc:∀ n' os',HoldsK enc k (grow ((sortWorldK enc k w blk 0 m (Array.range n) os).drewN n') os') blk 0 (Array.range n) := λ n' os'=>by rw [hcls];exact holdsK_sortWorldK_c enc k w blk 0 _ _ _ _ HH.out hblk rfl
    have lj:∀ n' os',Sem.run P (loadCellsFrom ⟨blk,(ip+1)*k,none⟩ 0 k #[]) (grow ((sortWorldK enc k w blk 0 m (Array.range n) os).drewN n') os') = .ok (enc (ip+1)).toArray (grow ((sortWorldK enc k w blk 0 m (Array.range n) os).drewN n') os') := λ n' os'=>by
     have:=HoldsK.cells (hHc n' os') HK.out (i:=ip+1) (by rw [hrs];exact hlt);rw [r1,wG] at this;exact run_loadCellsFrom_list P _ _ _ k (HK.out _) this
    have lp:∀ n' os',Sem.run P (loadCellsFrom ⟨blk,ip*k,none⟩ 0 k #[]) (grow ((sortWorldK enc k w blk 0 m (Array.range n) os).drewN n') os') = .ok (enc ip).toArray (grow ((sortWorldK enc k w blk 0 m (Array.range n) os).drewN n') os') := λ n' os'=>by
     have:=HoldsK.cells (hHc n' os') HK.out (i:=ip) (by rw [hrs];omega);rw [r0,wG] at this;exact run_loadCellsFrom_list P _ _ _ k (HK.out _) this
    have hcg:∀ n' os',Calls P q #[.agg (enc (ip+1)).toArray,.agg (enc ip).toArray] (grow ((sortWorldK enc k w blk 0 m (Array.range n) os).drewN n') os') λ e w'=>e = .returned (.bool (ef (ip+1) ip))/\∃ q os'',w'=grow ((grow ((sortWorldK enc k w blk 0 m (Array.range n) os).drewN n') os').drewN q) os'' := λ n' os'=>by
     rw [hcls];exact HC.out _ _ _ hrs (ip+1) ip
    have CLS:Hid _:=hcls;clear hcls hHc r0 r1;generalize hwq:sortWorldK enc k w blk 0 m (Array.range n) os=wq at lj lp hcg CLS |-
    cases hev:ef (ip+1) ip with
    | false =>
      rw [hev] at hcg
      go_wp2_with fail
      go_quiet_grown (first | (go_at_fn q;refine Calls.grown_of (hcg _ _)))
      go_wp2
      go_roundg (n-(ip+2))
      case measure=>omega
      case rel =>
       refine ⟨ip+2,_,_,by go_num,by omega,by omega,by omega,CLS.out nq osq,(show Hid _ from λ j h1 h2=>?_)⟩;by_cases hj:j=ip+1
       ·rw [hj];exact hev
       ·exact HE.out j h1 (by omega)
    | true =>
      rw [hev] at hcg
      go_wp2_with fail
      go_quiet_grown (first | (go_at_fn q;refine Calls.grown_of (hcg _ _)))
      have hcap1:¬ (cap=ip+1):=by omega
      have hcap2:(ip:Int)+1<=(cap:Int):=by omega
      go_wp2
      go_loopg [5,7] n (λ g2 v5 v7 wr2=>∃ (b kk m2:Nat) (dk:Array Nat) (os2:Array Obj),v5 = .int .i64 kk/\v7 = .int .i64 b/\1<=b/\ip+1+b<=n/\n-b<=g2/\kk<=ip+b/\dk.size=n/\wr2=sortWorldK enc k w blk 0 m2 dk os2/\Hid (dk.toList.take kk=zH ef (ip+1+b))/\Hid (kk=(zH ef (ip+1+b)).length)/\Hid (∀ j,ip+b<=j->j<n->dk[j]! = j))
      case atStart =>
       have e1:zH ef (ip+1)=List.range (ip+1):=qwX λ j h1 h2=>HE.out j h1 h2;have e2:zH ef (ip+1+1)=List.range (ip+1):=by rw [qtM (by omega) (by simpa using hev),e1]
       refine ⟨1,ip+1,_,Array.range n,_,by go_num,rfl,wb _,by omega,by omega,by omega,hrs,CLS.out nq osq,?_,?_,?_⟩
       ·show _=_;rw [e2,Array.toList_range,List.take_range,kK (by omega)]
       ·show _=_;rw [e2,xm]
       ·intro j _ h2;rw [getElem!_pos _ _ (by rw [hrs];exact h2)];simp
      case round =>
       obtain ⟨b,kk,m2,dk,os2,rfl,rfl,hb1,hbn,hg2,hkk,hdk,rfl,HT,HL,HD⟩:=hrel;by_cases hlt2:ip+1+b<n
       ·obtain ⟨bp,rfl⟩:∃ bp,b=bp+1:=⟨b-1,by omega⟩
        have hltz2:(bp:Int)+1<((n-(ip+1):Nat):Int):=by omega
        have hltz3:(bp:Int)<((n-(ip+1):Nat):Int):=by omega
        have hwp2:IntKind.i64.wrap (bp:Int)=(bp:Int):=by rw [IntKind.wrap_i64];omega
        have p2:(0:Int)<=(bp:Int)+1:=by omega
        have e2:((bp:Int)+1).toNat=bp+1:=by omega
        have hkn:(kk:Int)<(n:Int):=by omega
        obtain ⟨ax,hax⟩:∃ ax,ax=ip+1+(bp+1):=⟨_,rfl⟩
        have hac:(ip+1)*k+(bp+1)*k=ax*k:=by rw [hax,wN (ip+1)]
        have hap:(ip+1)*k+bp*k=(ax-1)*k:=by rw [<- wN];congr 1;omega
        have r1:dk[ax]! = ax:=HD.out ax (by omega) (by omega);have r0:dk[ax-1]! = ax-1:=HD.out (ax-1) (by omega) (by omega);have hcls:∀ n' os',grow ((sortWorldK enc k w blk 0 m2 dk os2).drewN n') os'=sortWorldK enc k w blk 0 (m2+n') dk (os2++os') := λ n' os'=>sortWorldK_grown_c enc k w blk 0 m2 n' dk os2 os';have hHc:∀ n' os',HoldsK enc k (grow ((sortWorldK enc k w blk 0 m2 dk os2).drewN n') os') blk 0 dk := λ n' os'=>by rw [hcls];exact holdsK_sortWorldK_c enc k w blk 0 (Array.range n) dk _ _ HH.out hblk (by rw [hdk,hrs])
        have lj:∀ n' os',Sem.run P (loadCellsFrom ⟨blk,(ip+1)*k+(bp+1)*k,none⟩ 0 k #[]) (grow ((sortWorldK enc k w blk 0 m2 dk os2).drewN n') os') = .ok (enc ax).toArray (grow ((sortWorldK enc k w blk 0 m2 dk os2).drewN n') os') := λ n' os'=>by
         have:=HoldsK.cells (hHc n' os') HK.out (i:=ax) (by rw [hdk];omega);rw [r1,wG,<- hac] at this;exact run_loadCellsFrom_list P _ _ _ k (HK.out _) this
        have lp:∀ n' os',Sem.run P (loadCellsFrom ⟨blk,(ip+1)*k+bp*k,none⟩ 0 k #[]) (grow ((sortWorldK enc k w blk 0 m2 dk os2).drewN n') os') = .ok (enc (ax-1)).toArray (grow ((sortWorldK enc k w blk 0 m2 dk os2).drewN n') os') := λ n' os'=>by
         have:=HoldsK.cells (hHc n' os') HK.out (i:=ax-1) (by rw [hdk];omega);rw [r0,wG,<- hap] at this;exact run_loadCellsFrom_list P _ _ _ k (HK.out _) this
        have hcg:∀ n' os',Calls P q #[.agg (enc ax).toArray,.agg (enc (ax-1)).toArray] (grow ((sortWorldK enc k w blk 0 m2 dk os2).drewN n') os') λ e w'=>e = .returned (.bool (ef ax (ax-1)))/\∃ q os'',w'=grow ((grow ((sortWorldK enc k w blk 0 m2 dk os2).drewN n') os').drewN q) os'' := λ n' os'=>by
         rw [hcls];exact HC.out _ _ _ hdk ax (ax-1)
        have CLS2:Hid _:=hcls;have HHC:Hid _:=hHc;have HAC:=Lib.hid hac;clear hcls hHc hap hac;generalize hwq2:sortWorldK enc k w blk 0 m2 dk os2=wq2 at lj lp hcg CLS2 HHC |-
        have hlA:(enc ax).length=k:=HK.out _;have hA1:∀ v∈enc ax,v.oneCell'=true:=H1.out _;obtain ⟨cA,hcA⟩:∃ c,c=enc ax:=⟨_,rfl⟩
        obtain ⟨cP,hcP⟩:∃ c,c=enc (ax-1):=⟨_,rfl⟩
        rw [<- hcA] at lj hcg hlA hA1;rw [<- hcP] at lp hcg;have HCA:=Lib.hid hcA;clear hcA hcP;have hT:=HT.out;have hL:=HL.out;rw [show ip+1+(bp+1)=ax from hax.symm] at hT hL;have HAX:=Lib.hid hax;have hax1:0<ax:=by omega
        have hax3:ax<n:=by omega
        clear hax r0 r1;cases hev2:ef ax (ax-1) with
        | true =>
          have hcd:zH ef (ax+1)=zH ef ax:=qtM hax1 hev2;have HT2:Hid (dk.toList.take kk=zH ef (ax+1)):=by show _=_;rw [hcd];exact hT
          have HL2:Hid (kk=(zH ef (ax+1)).length):=by show _=_;rw [hcd];exact hL
          clear hT hL hcd;rw [hev2] at hcg
          go_wp2_with fail
          go_quiet_grown (first | (go_at_fn q;refine Calls.grown_of (hcg _ _)))
          go_wp2
          go_roundg (n-(bp+2))
          case measure=>omega
          case rel =>
           have hax2:ip+1+(bp+2)=ax+1:=by have:=HAX.out;omega
           refine ⟨bp+2,kk,_,dk,_,rfl,by go_num,by omega,by omega,by omega,by omega,hdk,CLS2.out nq osq,?_,?_,(show Hid _ from λ j h1 h2=>HD.out j (by omega) h2)⟩
           ·show _=_;rw [hax2];exact HT2.out
           ·show _=_;rw [hax2];exact HL2.out
        | false =>
          have hcd:zH ef (ax+1)=zH ef ax++[ax]:=qEc hev2;have hdl:kk<dk.toList.length:=by rw [wM,hdk];omega
          have HT2:Hid ((dk.setIfInBounds kk ax).toList.take (kk+1)=zH ef (ax+1)):=by
           show _=_;rw [hcd,<- hT,xq,kw,vk (wb _),List.getElem?_set_self hdl];rfl
          have HL2:Hid (kk+1=(zH ef (ax+1)).length):=by show _=_;rw [hcd,wc,<- hL];rfl
          clear hT hL hcd;rw [hev2] at hcg
          go_wp2_with fail
          go_quiet_grown (first | (go_at_fn q;refine Calls.grown_of (hcg _ _)))
          have hw2:grow (wq2.drewN nq) osq=sortWorldK enc k w blk 0 (m2+nq) dk (os2++osq):=CLS2.out nq osq;have lj2:=lj nq osq;have hHd:=HHC.out nq osq;clear lj lp hcg;generalize grow (wq2.drewN nq) osq=wq3 at hw2 hHd lj2 |-
          have hbd:kk*k+cA.length<=(flatK enc k dk).size:=by
           rw [hlA,size_flatK];have:=wn k (show kk+1<=dk.size by omega)
           rwa [kU] at this
          have s1:Sem.run P (storeCells ⟨blk,kk*k,none⟩ cA 0) wq3 = .ok () (wq3.setCells blk (kk*k) cA):=by
           have:=stores_of_holds P hHd (kk*k) cA hbd hA1
           rwa [wG] at this
          have HW3:Hid (wq3.setCells blk (kk*k) cA=sortWorldK enc k w blk 0 (m2+nq) (dk.setIfInBounds kk ax) (os2++osq)):=by
           show _=_;rw [hw2,HCA.out];exact qJR HK.out (m2+nq) dk (os2++osq) hblk kk ax (by omega)
          clear hw2 hHd hbd
          go_wp2
          go_roundg (n-(bp+2))
          case measure=>omega
          case rel =>
           have hax2:ip+1+(bp+2)=ax+1:=by have:=HAX.out;omega
           refine ⟨bp+2,kk+1,_,dk.setIfInBounds kk ax,_,by go_num,by go_num,by omega,by omega,by omega,by omega,by simpa using hdk,HW3.out,?_,?_,(show Hid _ from λ j h1 h2=>?_)⟩
           ·show _=_;rw [hax2];exact HT2.out
           ·show _=_;rw [hax2];exact HL2.out
           ·rw [getElem!_set_other _ _ _ _ (by omega)];exact HD.out j (by omega) h2
       ·obtain rfl:n=ip+1+b:=by omega
        have hW:=(Go.AmZ.sort_blks HBK.out enc k m2 dk os2).hb;have hpsz:(putCells id 0 (flatK enc k dk) vs).size=vs.size:=by unfold putCells;rw [vY]
        have hzl:(Builtin.zeroCells zv.cells (ip+1+b-kk)).toList.length=(ip+1+b-kk)*k:=by rw [wM,size_zeroCells,HZK.out]
        have hsum:kk*k+(ip+1+b-kk)*k=(ip+1+b)*k:=by rw [<- wN];congr 1;omega
        have hle:(ip+1+b)*k<=vs.size:=wD (wn _ hnc) HCS.out;obtain ⟨new,hnew⟩:∃ new,new=(putCells id 0 (flatK enc k dk) vs).toList.take (kk*k)++(Builtin.zeroCells zv.cells (ip+1+b-kk)).toList++(putCells id 0 (flatK enc k dk) vs).toList.drop (kk*k+(Builtin.zeroCells zv.cells (ip+1+b-kk)).toList.length):=⟨_,rfl⟩
        have hcl:∀ ty,(Builtin.clear_ #[22] ty #[.slice (some ⟨blk,kk*k,none⟩) (ip+1+b-kk) (cap-kk)]).run P (sortWorldK enc k w blk 0 m2 dk os2) = .ok (.tuple #[]) ((sortWorldK enc k w blk 0 m2 dk os2).setRow blk new.toArray) := λ ty=>by
         rw [hnew];exact qwJ _ 22 24 ty zv t22 HVE.out blk (kk*k) (ip+1+b-kk) (cap-kk) (by omega) _ et hW (by rw [hpsz,HZK.out];omega) (HZ1.out _)
        have HN1:Hid (new.take (kk*k)=(putCells id 0 (flatK enc k dk) vs).toList.take (kk*k)):=by
         show _=_;rw [hnew,wi,kH (by rw [wm,wM,hpsz];omega),xM,Nat.min_self]
        have HN2:Hid (new.length=vs.size):=by
         show _=_;rw [hnew];rw [wM] at hzl;simp only [wc,wm,wQ,wM,hpsz,hzl];omega
        have hkc:¬ (cap=kk):=by omega
        have hkc2:(kk:Int)<=(cap:Int):=by omega
        have hkn:(kk:Int)<=((ip+1+b:Nat):Int):=by omega
        clear hW hpsz hzl hsum hle hnew;have HW:Hid _:=(⟨dk,m2,os2,rfl⟩:∃ (d:Array Nat) (m:Nat) (os:Array Obj),sortWorldK enc k w blk 0 m2 dk os2=sortWorldK enc k w blk 0 m d os)
        generalize hwq2:sortWorldK enc k w blk 0 m2 dk os2=wq2 at hcl |-
        have HWQ:=Lib.hid hwq2;clear hwq2 HW;have HDK:=Lib.hid hdk
        go_wp2_with (simp only [hcl])
        go_ret
        have hL:=HL.out;rw [<- hL];exact ⟨rfl,dk,m2,os2,new,HDK.out,HT.out,.inr ⟨HN1.out,HN2.out,by rw [HWQ.out]⟩⟩
   ·obtain rfl:i=n:=by omega
    have hci:zH ef i=List.range i:=qwX λ j h1 h2=>HE.out j h1 h2;have HCI:=Lib.hid hci;clear hci
    go_wp2
    go_ret
    rw [HCI.out,xm];exact ⟨rfl,Array.range i,_,_,[],hrs,by simp,.inl rfl⟩
end Go.Proofs.YtckmkimhkhilgaaGreat
namespace Go.AmZ
open Go Go.RowKit Go.GxZ Go.Sort Go.Proofs Go.Shelf Go.Proofs.YtckmkimhkhilgaaGreat
def qlv{α : Type}(F : α -> α -> Option Bool)(l:List α)(i j:Nat):Bool:=match l[i % l.length]?,l[j % l.length]? with
 | some x,some y=>(F x y).getD false
 | _,_=>false
def qA4{α : Type}(F : α -> α -> Option Bool):List α -> Option (List α)
 | []=>some []
 | x::l=>cond (Nat.ble (x::l).length 100000&&qda F (x::l)) (some (pick (x::l) (zH (qlv F (x::l)) (x::l).length))) none
def qv7{α : Type}(F : α -> α -> Option Bool)(l:List α):Option (Unit × List α × Unit):=match qA4 F l with
 | some a=>some ((),a,())
 | none=>none
theorem qGU{α : Type}{F : α -> α -> Option Bool}{l:List α}{r:Unit × List α × Unit}(h:qv7 F l=some r):∃ a,qA4 F l=some a/\r=((),a,()):=by
 unfold qv7 at h;split at h
 ·cases h;exact⟨_,‹_›,rfl⟩
 ·cases h
theorem qId{P:Program}{f:FuncId}{g:qrd}(e:qgJ P f)(h:∀ a,g.fn a=none):qZ P f (mgP g):=by
 refine⟨e,λ Γ σ w d c r j i b=>?_⟩;unfold mgP at b;split at b
 ·rw[h]at b;cases b
 ·cases b
theorem qzV{b:Nat->Nat->Bool}{n:Nat}:∀ i∈zH b n,i<n := λ i a=>kS.1 (kG.1 a).1
theorem qsy{enc:Nat->List Value}{k:Nat}(a:∀ x,(enc x).length=k):∀(l:List Nat) (i j:Nat),j<k->(l.flatMap enc)[i*k+j]?=(l[i]?).bind λ x=>(enc x)[j]?
 | [],i,j,_=>by simp
 | x::l,0,j,b=>by
   rw[xc,kQ,wG,List.getElem?_append_left (by rw[a];exact b)];rfl
 | x::l,i+1,j,b=>by
   rw[xc,List.getElem?_append_right (by rw[a,kU];omega),a];have:(i+1)*k+j-k=i*k+j:=by rw[kU];omega
   rw[this];exact qsy a l i j b
theorem qzC{enc:Nat->List Value}{k:Nat}(a:∀ x,(enc x).length=k):∀ l:List Nat,(l.flatMap enc).length=l.length*k
 | []=>by simp
 | x::l=>by rw[xc,wc,a,qzC a l,wu,kU,wac]
theorem qwl{b:Type}{f:List AV->Option b}{es:List (List AV)}{l:List b}(h:zf f es=some l):∀{a:List Nat},(∀ i∈a,i<l.length)->zf f (pick es a)=some (pick l a)
 | [],_=>rfl
 | i::a,d=>by
   have e:=d i (wh ..);have n:=qY h
   have e1:pick es (i::a)=es[i]'(by omega)::pick es a:=by
    unfold pick;rw[vl,List.getElem?_eq_getElem (by omega)]
   have m:pick l (i::a)=l[i]::pick l a:=by
    unfold pick;rw[vl,List.getElem?_eq_getElem e]
   obtain⟨v,c,k⟩:=J5 h (List.getElem?_eq_getElem (show i<es.length by omega));rw[List.getElem?_eq_getElem e]at c;cases c;rw[e1,m];exact yW.2 ⟨_,_,k,qwl h λ j g=>d j (wg _ g),rfl⟩
theorem qLW(n:Nat):∀ v∈(Builtin.zeroCells (Value.cells (.agg #[.int .i64 0,.string ⟨#[]⟩,.int .i64 0,.slice none 0 0])) n).toList,v.oneCell'=true:=by
 intro v a;unfold Builtin.zeroCells at a;rw[Array.mem_toList_iff]at a;obtain⟨i,_,rfl⟩:=Array.mem_map.1 a;have c:(Value.cells (.agg #[.int .i64 0,.string ⟨#[]⟩,.int .i64 0,.slice none 0 0])).size=4:=rfl;rw[c];have b:i % 4<4:=xU _ (by decide);generalize i % 4=r at b
 match r,b with
 | 0,_=>rfl
 | 1,_=>rfl
 | 2,_=>rfl
 | 3,_=>rfl
set_option maxHeartbeats 1000000 in
theorem qCN {g:FuncId} {F:T->T->Option Bool} (hF:Fn2 Go.Proofs.Tryz.prog g .term (λ b:Bool => .bool b) F) {fn:List T->Option (Unit × List T × Unit)} (hfn:∀ l r,fn l=some r->∃ l',qA4 F l=some l'/\r=((),l',())) :
  qZ Go.Proofs.Tryz.prog 108 (sgP ⟨[.row .term,.clo g 0],[.one (.row .term)],λ x=>fn x.1⟩):=by
 have c0 := λ p cap fv w=>qIn (P:=Go.Proofs.Tryz.prog) Go.Proofs.Tryz.func108 (by kernel_rfl) Go.Proofs.Tryz.underlying0 Go.Proofs.Tryz.isAgg0 Go.Proofs.Tryz.sizeOf0 Go.Proofs.Tryz.zeroValue0 Go.Proofs.Tryz.underlying3 Go.Proofs.Tryz.isAgg3 Go.Proofs.Tryz.sizeOf3 Go.Proofs.Tryz.zeroValue3 Go.Proofs.Tryz.underlying4 Go.Proofs.Tryz.isAgg4 Go.Proofs.Tryz.sizeOf4 Go.Proofs.Tryz.zeroValue4 Go.Proofs.Tryz.underlying22 Go.Proofs.Tryz.isAgg22 Go.Proofs.Tryz.sizeOf22 Go.Proofs.Tryz.zeroValue22 Go.Proofs.Tryz.underlying41 Go.Proofs.Tryz.isAgg41 Go.Proofs.Tryz.sizeOf41 Go.Proofs.Tryz.zeroValue41 p cap fv w
 have cP := λ w blk n cap et vs h1 h2 h3 h4 h5 enc h6 h7 h8 ef h9=>qJl (P:=Go.Proofs.Tryz.prog) Go.Proofs.Tryz.func108 (by kernel_rfl) Go.Proofs.Tryz.underlying0 Go.Proofs.Tryz.isAgg0 Go.Proofs.Tryz.sizeOf0 Go.Proofs.Tryz.zeroValue0 Go.Proofs.Tryz.underlying3 Go.Proofs.Tryz.isAgg3 Go.Proofs.Tryz.sizeOf3 Go.Proofs.Tryz.zeroValue3 Go.Proofs.Tryz.underlying4 Go.Proofs.Tryz.isAgg4 Go.Proofs.Tryz.sizeOf4 Go.Proofs.Tryz.zeroValue4 Go.Proofs.Tryz.underlying22 Go.Proofs.Tryz.isAgg22 Go.Proofs.Tryz.sizeOf22 Go.Proofs.Tryz.zeroValue22 Go.Proofs.Tryz.underlying41 Go.Proofs.Tryz.isAgg41 Go.Proofs.Tryz.sizeOf41 Go.Proofs.Tryz.zeroValue41
  4 (by decide) Go.Proofs.Tryz.isAgg24 Go.Proofs.Tryz.sizeOf24 _ Go.Proofs.Tryz.zeroValue24 rfl qLW w blk n cap et vs g h1 h2 h3 h4 h5 enc h6 h7 h8 (λ args w=>qi0 hF.1 args w) ef h9
 have hag:∀ v:T,yK .term v = .agg (qj .term v) := λ _=>rfl;refine ⟨qap Go.Proofs.Tryz.func108 (by kernel_rfl),λ Γ σ w args vals r hi hr hp=>?_⟩;unfold sgP at hp;split at hp<;>try cases hp
 rename_i x hx;split at hp<;>cases hp;rename_i v0 hv0;obtain ⟨l,_⟩:=x;obtain ⟨l',hl',rfl⟩:=hfn _ _ hv0;obtain ⟨y0,ys0,nr,rfl,hy0,hx1⟩:=qwc hx;obtain ⟨ys1,rfl,hx2⟩:=qFZ (g:=g) (r:=[]) hx1;obtain ⟨rfl,hbx,hrw⟩:=qmm hx2;clear hx hx1 hx2 hv0 hfn;obtain ⟨u0,r0,rfl,hu0,hr⟩:=hr.uncons;obtain ⟨u1,r1,rfl,hu1,hr⟩:=hr.uncons;have:=hr.nil_inv;subst this
 have hu1:u1 = .func (.func g) #[] #[]:=by
  cases hu1 with
  | fn _ _ us hn _=>obtain rfl:=wk hn;rfl
 subst hu1;have hb0 : σ.bx=[]:=wk hbx.symm
 have nil0:∀ (p:Option Addr),l'=[]->Jq Go.Proofs.Tryz.prog Γ σ w 108 [.slice p 0 0,.func (.func g) #[] #[]] (zY (jL [.one (.row .term)] σ.rw.length (l',())),some ⟨[],σ.rw.map Q3++jZ [.one (.row .term)] (l',()),List.range σ.bx.length,List.range σ.rw.length⟩) := λ p hl=>by
  subst hl;refine (c0 p 0 _ w).mono ?_;rintro e w' ⟨rfl,rfl⟩;obtain ⟨Γ2,z1,z2,z3,z4⟩:=qMO (a := .term) hi (.refl _ _) hi hb0 p;exact ⟨_,Γ2,rfl,z1,z2,z3,z4⟩
 rcases qhp hy0 with ⟨hnr,R,rfl,hR,hRk,hRf,hRd⟩ | ⟨hnr,hl0,hy⟩
 ·have H:=hi.row 0 R hR;have hcl:R.c.length=l.length:=qY hRd;have hlk:∀ e∈R.c,e.length=Ty.size .term := λ e he=>(H.len e he).trans hRk;obtain ⟨p,cap,rfl,hcap,hrm⟩:=qx6 hi hR hRk hRf hu0;rcases hrm with h0 | ⟨rfl,hz,vs,et,hvs,hvsz,hfit,hca,hxl,h1⟩
  ·have hl0:l=[]:=wk (by omega);have hl2:l'=[]:=by rw [hl0] at hl';cases hl';rfl
   have hrc:R.c.length=0:=by omega
   rw [hrc,h0];exact nil0 p hl2
  ·by_cases hl0:l=[]
   ·have hl2:l'=[]:=by rw [hl0] at hl';cases hl';rfl
    have hrc:R.c.length=0:=by rw [hcl,hl0];rfl
    rw [hrc];subst hl2;refine qkO (a := .term) hi hb0 hR hRk hRf.1 hRf.2 hz (l:=[]) (c:=[]) (xs:=[]) (n:=0) rfl rfl (by intro e he;cases he) (by intro e he;cases he) (λ i e j x h=>by cases h) ?_;refine (c0 _ cap _ w).mono ?_;rintro e w' ⟨rfl,rfl⟩;exact ⟨Γ.cur 0,cap,vs,et,rfl,hvs,we _,hfit,by rw [kQ];rfl,.inl ⟨rfl,hvsz⟩,rfl,rfl,rfl,wb _,wb _,λ _ _ _=>rfl⟩
   ·have hlpos:0<l.length:=xg.2 hl0;obtain ⟨n,hn⟩:∃ n,n=l.length:=⟨_,rfl⟩
    have hnc:R.c.length=n:=hcl.trans hn.symm;rw [hnc] at hca hxl h1 hcap |-
    have hns:n*Ty.size .term<=vs.size:=wD (wn _ hcap) hfit
    have hv':Nat.ble l.length 100000=true/\qda F l=true/\l'=pick l (zH (qlv F l) l.length):=by
     cases l with
     | nil=>exact absurd rfl hl0
     | cons y l =>
       replace hl':cond _ _ _=some l':=hl'
       cases hb:(Nat.ble (y::l).length 100000&&qda F (y::l)) with
       | false =>
         replace hl':cond (Nat.ble (y::l).length 100000&&qda F (y::l)) _ _=some l':=hl'
         rw [hb] at hl';cases hl'
       | true =>
         replace hl':cond (Nat.ble (y::l).length 100000&&qda F (y::l)) _ _=some l':=hl'
         have hb':=hb;rw [wd] at hb';rw [hb] at hl';cases hl';exact ⟨hb'.1,hb'.2,rfl⟩
    obtain ⟨v1,v2,v4⟩:=hv';have v1:l.length<=100000:=kN v1;have hER:∀ {q:Nat} {y:T},l[q]? = some y->RepL Γ (qj .term y) (qcu vs (Ty.size .term) q)/\∀ u∈qcu vs (Ty.size .term) q,u.oneCell'=true := λ hq=>qBl hnc hlk hRd hca hns hq;have hlast:∀ i,i % n<n := λ i=>xU _ (by omega);obtain ⟨enc,henc⟩:∃ enc:Nat->List Value,enc = λ i=>qcu vs (Ty.size .term) (i % n):=⟨_,rfl⟩
    have hek:∀ i,(enc i).length=Ty.size .term := λ i=>by rw [henc];exact qtW (hlast i) hns
    have hlget:∀ i,∃ y,l[i % n]? = some y := λ i=>⟨_,List.getElem?_eq_getElem (by rw [<- hn];exact hlast i)⟩
    have he1:∀ i,∀ u∈enc i,u.oneCell'=true := λ i u hu=>by
     rw [henc] at hu;obtain ⟨y,hy⟩:=hlget i;exact (hER hy).2 u hu
    have hrange:(Array.range n).size=n:=vC;have hvsb:w.heap[Γ.cur 0]? = some (.cells vs et (0,0)):=hvs;have hmem0:∀ off,Γ.mem (Γ.cur 0) off=none := λ off=>H.un hz off (by rw [hRf.1,kQ,H.off hRf.2];exact we _)
    have hH:HoldsK enc (Ty.size .term) w (Γ.cur 0) 0 (Array.range n):=by
     intro j hj;rw [size_flatK,hrange] at hj;obtain ⟨q1,q2,q3⟩:=qqb j (Ty.size .term) n hj;have hjs:j<vs.size:=wE hj hns;constructor
     ·rw [get_flatK _ _ _ _ (by rw [hrange];exact hj)];have e1:(Array.range n)[j / (Ty.size .term)]! = j / (Ty.size .term):=by rw [getElem!_pos _ _ (by rw [hrange];exact q1)];simp
      rw [e1,henc];show _=some ((qcu vs (Ty.size .term) (j / (Ty.size .term) % n))[j % (Ty.size .term)]!);rw [xr q1];have e2:(qcu vs (Ty.size .term) (j / (Ty.size .term)))[j % (Ty.size .term)]? = some vs[j]:=by rw [qqu q3,q2];exact Array.getElem?_eq_getElem hjs
      rw [wG,Blk.cell hvs,List.getElem!_eq_getElem?_getD,e2,Array.getElem?_eq_getElem hjs];rfl
     ·exact Blk.free hvs _
    have heq:∀ (m:Nat) (os:Array Obj) (dk:Array Nat),dk.size=n->∀ x y,Calls Go.Proofs.Tryz.prog g #[.agg (enc x).toArray,.agg (enc y).toArray] (sortWorldK enc (Ty.size .term) w (Γ.cur 0) 0 m dk os) λ e w'=>e = .returned (.bool (qlv F l x y))/\∃ q' os',w'=grow ((sortWorldK enc (Ty.size .term) w (Γ.cur 0) 0 m dk os).drewN q') os':=by
     intro m os dk hdk x y;have B:=sort_blks hvsb enc (Ty.size .term) m dk os;obtain ⟨W,hW⟩:∃ W,W=sortWorldK enc (Ty.size .term) w (Γ.cur 0) 0 m dk os:=⟨_,rfl⟩
     rw [<- hW] at B |-
     have hiW:Inv (bare Γ) emp W:=hi.bare λ b o u e=>by
      have hne:b ≠ Γ.cur 0 := λ hb=>by rw [hb,hmem0] at e;cases e
      have hc:=(hi.mem b o u e).1;have hblt:=hi.mem_lt e;rw [show W.cell? _=w.cell? _ from World.cell?_of_block (B.other b hblt hne)];exact hc
     have rep:∀ (i:Nat) (y:T),l[i % n]? = some y->Rep (bare Γ) (yK .term y) (.agg (enc i).toArray) := λ i y hy=>by
      obtain ⟨q1,q2⟩:=hER hy;rw [hag];have:enc i=qcu vs (Ty.size .term) (i % n):=by rw [henc]
      rw [this];refine .agg _ _ q1.len q2 λ j z u a b=>(q1.rep j z u a b).bare (zt .term y z (wa a))
     obtain ⟨lx,hx⟩:=hlget x;obtain ⟨ly,hy⟩:=hlget y;have hsome:=wv.1 (wv.1 v2 lx (wa hx)) ly (wa hy);obtain ⟨c,hc⟩:=wag.1 hsome
     have hcf:qlv F l x y=c:=by
      unfold qlv;rw [<- hn,hx,hy];simp only;rw [hc];rfl
     rw [hcf];have hcall:=hF.2 hiW (rep x lx hx) (rep y ly hy) hc;refine Calls.mono hcall ?_;rintro e w' ⟨rfl,hid⟩;exact ⟨rfl,hid.grow⟩
    have hcall:=cP w (Γ.cur 0) n cap et vs hvsb hfit hcap (by omega) (by omega) enc hek he1 hH (qlv F l) heq;obtain ⟨ix,hix⟩:∃ ix,ix=zH (qlv F l) n:=⟨_,rfl⟩
    rw [<- hix] at hcall;have hixlt:∀ i∈ix,i<n := λ i hi=>by rw [hix] at hi;exact qzV i hi
    have hixl:∀ i∈ix,i<l.length := λ i hi=>by rw [<- hn];exact hixlt i hi
    have hixc:∀ i∈ix,i<R.c.length := λ i hi=>by rw [hnc];exact hixlt i hi
    have hl'e:l'=pick l ix:=by rw [v4,<- hn,hix]
    have hl'n:l'.length=ix.length:=by rw [hl'e,qpA hixl]
    have pm:∀ e∈pick R.c ix,e∈R.c := λ e he=>by
     unfold pick at he;obtain ⟨i,_,h⟩:=xa.1 he;exact wa h
    refine qkO (a := .term) hi hb0 hR hRk hRf.1 hRf.2 hz (l:=l') (c:=pick R.c ix) (xs:=ix.flatMap enc) (n:=ix.length) hl'n.symm (by rw [hl'e];exact qwl hRd hixl) (λ e he=>hlk e (pm e he)) (λ e he=>H.plain e (pm e he)) (λ i e j x h1 h2=>?_) ?_
    ·rw [qt5 hixc] at h1;cases hp:ix[i]? with
     | none=>rw [hp] at h1;cases h1
     | some p =>
       rw [hp] at h1;have h1:R.c[p]? = some e:=h1;have hj:j<Ty.size .term:=by have:=getElem?_lt h2;rwa [hlk e (wa h1)] at this
       obtain ⟨u,u1,u2⟩:=hca p e j x h1 h2;refine ⟨u,?_,u2⟩;have hpn:p<n:=hixlt p (wa hp);rw [qsy hek _ _ _ hj,hp];show (enc p)[j]? = some u;rw [henc];show (qcu vs (Ty.size .term) (p % n))[j]? = some u;rw [xr hpn,qqu hj,<- Array.getElem?_toList];rw [List.getElem?_take] at u1;split at u1
       ·exact u1
       ·cases u1
    ·refine Calls.mono hcall ?_;rintro e w' ⟨rfl,dk,m,os,new,hdk,htk,hw⟩;have B:=sort_blks hvsb enc (Ty.size .term) m dk os;have hpsz:(putCells id 0 (flatK enc (Ty.size .term) dk) vs).size=vs.size:=by unfold putCells;rw [vY]
     have hixn:ix.length<=n:=by
      have:=congrArg List.length htk;rw [wm] at this;have h2:dk.toList.length=n:=by rw [wM,hdk]
      omega
     have hlen:ix.length*Ty.size .term<=n*Ty.size .term:=wn _ hixn
     have hxs:(putCells id 0 (flatK enc (Ty.size .term) dk) vs).toList.take (ix.length*Ty.size .term)=ix.flatMap enc:=by
      apply xd;intro t;by_cases ht:t<ix.length*Ty.size .term
      ·obtain ⟨q1,q2,q3⟩:=qqb t (Ty.size .term) ix.length ht;rw [List.getElem?_take,if_pos ht,Array.getElem?_toList];unfold putCells;rw [Array.getElem?_mapIdx,Array.getElem?_eq_getElem (by omega),kM,if_pos ⟨we _,by rw [size_flatK,hdk];omega⟩,Nat.sub_zero,id,get_flatK _ _ _ _ (by rw [hdk];omega)]
       conv=>rhs;rw [<- q2]
       rw [qsy hek _ _ _ q3]
       have hd:dk[t / Ty.size .term]? = ix[t / Ty.size .term]? := by
        rw [<- htk,List.getElem?_take,if_pos q1,Array.getElem?_toList]
       have hdl:t / Ty.size .term<dk.size:=by rw [hdk];omega
       rw [<- hd,Array.getElem?_eq_getElem hdl,getElem!_pos dk _ hdl];show _=(enc dk[t / Ty.size .term])[t % Ty.size .term]?;rw [List.getElem!_eq_getElem?_getD,List.getElem?_eq_getElem (by rw [hek];exact q3)];rfl
      ·rw [List.getElem?_eq_none (by rw [wm];omega),List.getElem?_eq_none (by rw [qzC hek];omega)]
     rcases hw with rfl | ⟨n1,n2,rfl⟩
     ·exact ⟨Γ.cur 0,cap,_,et,rfl,B.hb,by omega,by rw [hpsz];exact hfit,hxs,.inl ⟨rfl,hpsz.trans hvsz⟩,B.os,B.tape,B.output,B.size,B.drawn,B.other⟩
     ·have hs:=setRow_heap _ (Γ.cur 0) _ new.toArray et (0,0) B.hb;refine ⟨Γ.cur 0,cap,new.toArray,et,rfl,hs,by omega,by rw [km,n2];exact hfit,?_,.inl ⟨rfl,by rw [km,n2];exact hvsz⟩,B.os,B.tape,B.output,?_,B.drawn,λ b hb hne=>(setRow_other _ (Γ.cur 0) b _ hne).trans (B.other b hb hne)⟩
      ·rw [<- hxs];exact n1
      ·show w.heap.size<=_;simp only [World.setRow,Array.size_modify];exact B.size
 ·have hl2:l'=[]:=by
    have hl0:l=[]:=hl0;rw [hl0] at hl';cases hl';rfl
  rcases hy with rfl | ⟨f,rfl,hf2⟩
  ·have hu0:=zo hu0;subst hu0;exact nil0 none hl2
  ·cases hu0 with
   | sl _ _ _ a n cap b o us hn _ hf _ _ _ _ _ _ =>
     have hn:n=0:=hn;have hcap:cap=n:=hf (by omega);rw [hcap,hn];exact nil0 a hl2
end Go.AmZ
namespace Go.AmZ
open Go Go.RowKit Go.GxZ
theorem qmz{P:Program}(w:World)(zu:Nat)(t ty e:TypeId)(i:TypeInfo)(z:Value)(size bytes:Nat)(F:P.underlying t=some (.slice e))(H:P.info? e=some i)(I:i.zero=some z)
  (d:i.size=size) (A:i.bytes=bytes) (s:z.cells.size=size) (x:0<size)
  (v:Value) (n:Nat) (xs:List Value) (b:w.ownsRow zu e size v n xs)
  (a:Addr) (m c:Nat) (qg:List Value) (G:qg.length=m*size) (f:∀ j u,qg[j]?=some u->w.cell? (a.add j)=some u) (J:∀ u∈qg,u.oneCell'=true)
  (B:n+m<=maxLen) (h:(n+m)*bytes<=140737488355328) (l:zu<=w.heap.size) :
  ∃ p w',(Builtin.append_ #[t,t] ty #[v,.slice (some a) m c]).run P w = .ok p w'/\w'.ownsRow zu e size p (n+m) (xs++qg)/\w.grownBy w' v.ownBlock /\
   (p.ownBlock=v.ownBlock\/∀ k,p.ownBlock=some k->w.heap.size<=k):=by
 rcases id b.2 with⟨rfl,rfl⟩ | ⟨g,cap,Q,rfl,O,R,K,N,M,E⟩
 ·have D:xs=[]:=kr.1 (by simpa using b.1);subst D;obtain⟨p,w',C,r,o,_⟩:=run_append_own (P:=P) w w.heap.size t ty e i z size bytes F H I d A s x (.slice none 0 0) 0 [] (World.ownsRow_nil w _ e size) a m c qg G f J B h (wb _);exact⟨p,w',C,r.mono l,o,.inr λ k y=>(r.lt k y).1⟩
 ·by_cases q:n+m<=cap
  ·obtain⟨w',C,r,o⟩:=run_append_own_spare (P:=P) w zu t ty e i size F H d g n cap xs b a m c qg G f J q;exact⟨_,w',C,r,o,.inl rfl⟩
  ·obtain⟨p,w',C,r,o⟩:=run_append_arg_grows (P:=P) w t ty e i z size bytes F H I d A s x ⟨g,0,none⟩ n cap xs b.1 (λ j u L=>b.cells rfl j u L) a m c qg G f (by omega) B h;exact⟨p,w',C,r.mono l,⟨o.os,o.tape,o.output,o.size,λ k y _=>o.block k y (by simp)⟩,.inr λ k y=>(r.lt k y).1⟩
structure qeE (Γ : Gh) (b:Nat):Prop where
 own:¬ QG Γ b
 mem:∀ o,Γ.mem b o=none
theorem qeE.ext{Γ Γ':Gh}{w w':World}{b:Nat}(h:qeE Γ b)(c:Ext Γ w Γ' w')(f:b<w.heap.size):qeE Γ' b/\w'.heap[b]?=w.heap[b]?:=by
 refine⟨⟨λ d=>(c.own b d).elim h.own λ h=>by omega,λ o=>?_⟩,c.block b f h.own⟩;cases e : Γ'.mem b o with
 | none=>rfl
 | some u =>
   rcases c.memg b o u e with a | a | a
   ·rw[h.mem]at a;cases a
   ·exact absurd a h.own
   ·omega
theorem qeE.new{Γ : Gh}{σ : St}{w:World}(a:Inv Γ σ w){b:Nat}(f:w.heap.size<=b):qeE Γ b:=by
 refine⟨λ h=>?_,λ o=>?_⟩
 ·rcases h with⟨i,c,rfl⟩ | ⟨r,c,e,rfl⟩
  ·have:=a.box_lt c;omega
  ·have:=a.cur_lt c e;omega
 ·cases d : Γ.mem b o with
  | none=>rfl
  | some u=>have:=a.mem_lt d;omega
theorem Inv.off{Γ : Gh}{σ : St}{w w':World}(h:Inv Γ σ w)(l:∀ k j,¬ qeE Γ k->w.heap[k]?=some j->w'.heap[k]?=some j):Inv Γ σ w' where
 nb:=h.nb
 nr:=h.nr
 mem := λ b o u e=>by
  obtain⟨m,q⟩:=h.mem b o u e;have c:=Array.getElem?_eq_getElem (qtf m);refine⟨?_,q⟩;rw[World.cell?_of_block (w:=w) (a:=⟨b,o,none⟩) ((l b _ (λ f=>by rw[f.mem]at e;cases e) c).trans c.symm)];exact m
 box := λ i cs e=>by
  have g:i < Γ.nb:=by rw[h.nb];exact getElem?_lt e
  exact(h.box i cs e).lift g (.refl _) λ o c=>l _ _ (λ f=>f.own (.inl ⟨i,g,rfl⟩)) c
 inj:=h.inj
 boxmem:=h.boxmem
 row := λ r R e=>by
  have d:r < Γ.nr:=by rw[h.nr];exact getElem?_lt e
  exact(h.row r R e).lift d (.refl _) rfl (λ n j c=>l _ _ (λ f=>f.own (.inr ⟨r,d,n,rfl⟩)) c) (λ _ _ p=>p) λ _ i t s=>by omega
 apart:=h.apart
theorem qJB{d Γ : Gh}{σ : St}{w0 w w':World}{e:Option Nat}(a:Ext d w0 Γ w)(m:Inv Γ σ w)(c:w.grownBy w' e)(f:∀ b,e=some b->qeE Γ b/\w0.heap.size<=b)(n:w.drawn<=w'.drawn):Ext d w0 Γ w'/\Inv Γ σ w':=by
 refine⟨⟨a.le,c.os.trans a.os,c.tape.trans a.tape,c.output.trans a.output,wD a.size c.size,λ b i l=>(c.block b (wE i a.size) λ h=>?_).trans (a.block b i l),a.own,a.memg,wD a.drawn n⟩,m.off λ k o j g=>?_⟩
 ·have:=(f b h.symm).2;omega
 ·rw[c.block k (Array.getElem?_eq_some_iff.1 g).1 λ h=>j (f k h.symm).1];exact g
theorem qeE.grown{Γ : Gh}{w w':World}{a:Option Nat}{b:Nat}(d:w.grownBy w' a)(e:b<w.heap.size)(c:some b≠a):w'.heap[b]?=w.heap[b]?:=d.block b e c
theorem qI9(w:World)(g k:Nat)(u:Value):w.grownBy (w.setCell ⟨g,k,none⟩ u) (some g) :=
 ⟨rfl,rfl,rfl,by simp,λ b _ a=>Below.heap_setCell _ _ _ _ λ h=>a (by rw[h])⟩
theorem qmh{w w':World}{B e s g n cap:Nat}{cs:List Value}(h:w.ownsRow B e s (.slice (some ⟨g,0,none⟩) n cap) n cs)(d:w'.heap[g]?=w.heap[g]?):w'.ownsRow B e s (.slice (some ⟨g,0,none⟩) n cap) n cs:=by
 rcases h.2 with⟨a,_⟩ | ⟨f,c,b,a,r⟩
 ·cases a
 ·cases a;exact⟨h.1,.inr ⟨g,cap,b,rfl,r.1,by rw[d];exact r.2.1,r.2.2⟩⟩
theorem qcP{w:World}{B e s g n cap:Nat}{cs:List Value}(h:w.ownsRow B e s (.slice (some ⟨g,0,none⟩) n cap) n cs):B<=g/\g<w.heap.size:=h.lt g rfl
theorem qvB{w:World}{B e s g n p cap:Nat}{cs:List Value}(h:w.ownsRow B e s (.slice (some ⟨g,0,none⟩) n cap) n cs)(d:p<=n):w.ownsRow B e s (.slice (some ⟨g,0,none⟩) p cap) p (cs.take (p*s)):=by
 have a:p*s<=n*s:=wn _ d;rcases h.2 with⟨b,_⟩ | ⟨q,f,c,b,o,m,l,k,j,i⟩
 ·cases b
 ·cases b;refine⟨by rw[wm,h.1];omega,.inr ⟨g,cap,c,rfl,o,m,wD d l,k,j,?_⟩⟩;rw[<- i,xM,kK a]
theorem qM8{w:World}{B e s g n cap:Nat}{cs:List Value}(h:w.ownsRow B e s (.slice (some ⟨g,0,none⟩) n cap) n cs):n<=cap/\cap<=maxLen:=by
 rcases h.2 with⟨a,_⟩ | ⟨m,b,f,a,l,k,d,c,j,i⟩
 ·cases a
 ·cases a;exact⟨d,c⟩
abbrev RD:Ty := .pair .str (.pair (.int .i64) .bool)
def qjj(Γ : Gh)(σ : St)(cs:List Value)(i:Nat)(t:T)(n:Int)(r:Nat):Prop :=
 ∃ R a,σ.rw[r]?=some R/\R.k=4/\R.fz=0/\R.off=false/\R.c=t.kids.map (qj .term)/\Rep Γ (.rs r 0 t.kids.length R.ver false) a /\
  cs[i*5]?=some (.int .i64 t.kind)/\cs[i*5+1]?=some (.string ⟨t.name.toArray⟩)/\cs[i*5+2]?=some (.int .i64 t.sort)/\cs[i*5+3]?=some a/\cs[i*5+4]?=some (.int .i64 n)
structure Stk (B N:Nat) (Γ : Gh) (σ : St) (w:World) (st:List (T × Int)) (ids:List Nat) (g cap:Nat) (cs:List Value):Prop where
 len:ids.length=st.length
 nd:ids.Nodup
 priv:qeE Γ g
 own:w.ownsRow B N 5 (.slice (some ⟨g,0,none⟩) st.length cap) st.length cs
 node:∀ i t n r,st[i]?=some (t,n)->ids[i]?=some r->qjj Γ σ cs i t n r
section
variable {B N:Nat} {Γ Γ':Gh} {σ σ':St} {w w':World} {st:List (T × Int)} {ids:List Nat} {g cap:Nat} {cs:List Value}
theorem qjj.later{i:Nat}{t:T}{n:Int}{r:Nat}(h:qjj Γ σ cs i t n r)(c:Le Γ Γ')(b:∀ R,σ.rw[r]?=some R -> σ'.rw[r]?=some R):qjj Γ' σ' cs i t n r:=by
 obtain⟨R,a,l,k,j,g,f,e,d⟩:=h;exact⟨R,a,b R l,k,j,g,f,e.mono c,d⟩
theorem qjj.cells{i:Nat}{t:T}{n:Int}{r:Nat}{cs':List Value}(h:qjj Γ σ cs i t n r)(a:∀ j,j<5->cs'[i*5+j]?=cs[i*5+j]?):qjj Γ σ cs' i t n r:=by
 obtain⟨R,b,k,g,f,e,d,c,q,p,o,m,l⟩:=h;exact⟨R,b,k,g,f,e,d,c,(a 0 (by decide)).trans q,(a 1 (by decide)).trans p,(a 2 (by decide)).trans o,(a 3 (by decide)).trans m,(a 4 (by decide)).trans l⟩
theorem Stk.later(h:Stk B N Γ σ w st ids g cap cs)(a:Ext Γ w Γ' w')(e:∀ r,r∈ids->∀ R,σ.rw[r]?=some R -> σ'.rw[r]?=some R):Stk B N Γ' σ' w' st ids g cap cs:=by
 obtain⟨d,c⟩:=h.priv.ext a (qcP h.own).2;exact⟨h.len,h.nd,d,qmh h.own c,λ i t n r f b=>(h.node i t n r f b).later a.le (e r (wa b))⟩
theorem Stk.grown{a:Option Nat}(h:Stk B N Γ σ w st ids g cap cs)(c:w.grownBy w' a)(b:some g≠a):Stk B N Γ σ w' st ids g cap cs :=
 ⟨h.len,h.nd,h.priv,qmh h.own (c.block g (qcP h.own).2 b),h.node⟩
theorem Stk.cell(h:Stk B N Γ σ w st ids g cap cs){k:Nat}{u:Value}(a:cs[k]?=some u):w.cell? ⟨g,k,none⟩=some u/\w.frozen? ⟨g,k,none⟩=false:=by
 refine⟨?_,h.own.frozenAt k⟩;rw[h.own.cellAt k (by rw[<- h.own.1];exact getElem?_lt a)];exact a
theorem Stk.at(h:Stk B N Γ σ w st ids g cap cs){i:Nat}{t:T}{n:Int}(b:st[i]?=some (t,n)):∃ r,ids[i]?=some r/\qjj Γ σ cs i t n r:=by
 have a:i<ids.length:=by rw[h.len];exact getElem?_lt b
 exact⟨_,List.getElem?_eq_getElem a,h.node i t n _ b (List.getElem?_eq_getElem a)⟩
theorem Stk.left(h:Stk B N Γ σ w st ids g cap cs){i:Nat}{t:T}{n:Int}(l:st[i]?=some (t,n))(a:Int):Stk B N Γ σ (w.setCell ⟨g,i*5+4,none⟩ (.int .i64 a)) (st.set i (t,a)) ids g cap (cs.set (i*5+4) (.int .i64 a)):=by
 have s:=getElem?_lt l;have d:i*5+4<cs.length:=by rw[h.own.1];omega
 refine⟨by rw[wJ];exact h.len,h.nd,h.priv,by rw[wJ];exact(h.own.stored _ _).1,λ j o m r c f=>?_⟩;rw[List.getElem?_set]at c;split at c
 ·rename_i e;subst e;cases c;obtain⟨R,p,A,z,y,x,v,u,F,E,D,C,G⟩:=h.node i t n r l f;have b:∀ q,q≠i*5+4->(cs.set (i*5+4) (.int .i64 a))[q]?=cs[q]? := λ q k=>by rw[List.getElem?_set_ne (λ e=>k e.symm)]
  refine⟨R,p,A,z,y,x,v,u,(b _ (by omega)).trans F,(b _ (by omega)).trans E,(b _ (by omega)).trans D,(b _ (by omega)).trans C,?_⟩;rw[List.getElem?_set_self d]
 ·rename_i e;refine(h.node j o m r c f).cells λ q k=>?_;rw[List.getElem?_set_ne (by omega)]
theorem Stk.push(h:Stk B N Γ σ w st ids g cap cs){s:Value}{nk sk:Int}{nm:List UInt8}{lf:Int}{o:Value}{r:Nat}{R:Row}(F : σ.rw[r]?=some R)(K:R.k=4)(J:R.fz=0)(I:R.off=false)(H:R.c=[])(G:Rep Γ (.rs r 0 0 R.ver false) o)(A:r ∉ ids)
  (l:w'.ownsRow B N 5 s (st.length+1) (cs++[.int .i64 nk,.string ⟨nm.toArray⟩,.int .i64 sk,o,.int .i64 lf])) (z:s.ownBlock=some g\/∀ k,s.ownBlock=some k->qeE Γ k) :
  ∃ j d,s = .slice (some ⟨j,0,none⟩) ((st.length+1:Nat)) d/\Stk B N Γ σ w' (st++[(.mk nk nm sk [],lf)]) (ids++[r]) j d (cs++[.int .i64 nk,.string ⟨nm.toArray⟩,.int .i64 sk,o,.int .i64 lf]):=by
 have D:=h.own.1
 obtain⟨j,d,v⟩:∃ j d,s = .slice (some ⟨j,0,none⟩) ((st.length+1:Nat)) d:=by
  rcases l.2 with⟨_,O⟩ | ⟨j,d,L,e,_⟩
  ·omega
  ·exact⟨j,d,e⟩
 subst v;refine⟨j,d,rfl,⟨by simp[h.len],?_,?_,by simpa using l,λ i t n y p f=>?_⟩⟩
 ·rw[List.nodup_append];exact⟨h.nd,by simp,λ a E b x=>by simp at x;subst x;exact λ e=>A (e▸E)⟩
 ·rcases z with e | e
  ·cases e;exact h.priv
  ·exact e j rfl
 ·rw[List.getElem?_append]at p f;rw[h.len]at f;split at p
  ·rename_i m;rw[if_pos m]at f;refine(h.node i t n y p f).cells λ q M=>?_;rw[List.getElem?_append_left (by omega)]
  ·rename_i m;rw[if_neg m]at f
   have C:i=st.length:=by
    have:=getElem?_lt p;simp at this;omega
   subst C;simp at p f;obtain⟨rfl,rfl⟩:=p;subst f
   have u:∀ q,(cs++[.int .i64 nk,.string ⟨nm.toArray⟩,.int .i64 sk,o,.int .i64 lf])[st.length*5+q]?=([.int .i64 nk,.string ⟨nm.toArray⟩,.int .i64 sk,o,.int .i64 lf]:List Value)[q]? := λ q=>by
    rw[List.getElem?_append_right (by omega)];congr 1;omega
   exact⟨R,o,F,K,J,I,H,G,u 0,u 1,u 2,u 3,u 4⟩
theorem Stk.shrink(h:Stk B N Γ σ w st ids g cap cs){p:Nat}(e:p<=st.length):Stk B N Γ σ w (st.take p) (ids.take p) g cap (cs.take (p*5)):=by
 have a:(st.take p).length=p:=by rw[wm];omega
 refine⟨by rw[a,wm,h.len];omega,h.nd.sublist (List.take_sublist _ _),h.priv,by rw[a];exact qvB h.own e,λ i t n r b c=>?_⟩;rw[List.getElem?_take]at b c;split at b<;>try cases b
 rename_i d;rw[if_pos d]at c;refine(h.node i t n r b c).cells λ j f=>?_;rw[List.getElem?_take,if_pos (by omega)]
theorem Stk.kid(h:Stk B N Γ σ w st ids g cap cs)(v:Ext Γ w Γ' w'){q:Nat}(Z:q<st.length){t:T}{n:Int}(J:st[q]?=some (t,n)){r:Nat}(y:ids[q]?=some r)(x:T)
  (m:∀ i s,i<q->ids[i]?=some s->∀ R,σ.rw[s]?=some R -> σ'.rw[s]?=some R) {R:Row} (M : σ'.rw[r]?=some R) (U:R.k=4) (S:R.fz=0) (Q:R.off=false) (P:R.c=(t.kids++[x]).map (qj .term)) {f:Value} (O:Rep Γ' (.rs r 0 (t.kids.length+1) R.ver false) f) :
  Stk B N Γ' σ' (w'.setCell ⟨g,q*5+3,none⟩ f) (st.take q++[(.mk t.kind t.name t.sort (t.kids++[x]),n)]) (ids.take (q+1)) g cap ((cs.set (q*5+3) f).take ((q+1)*5)):=by
 obtain⟨D,C⟩:=h.priv.ext v (qcP h.own).2
 have l:(st.take q++[(T.mk t.kind t.name t.sort (t.kids++[x]),n)]).length=q+1:=by
  rw[wc,wm];simp;omega
 have G:=qvB ((qmh h.own C).stored (q*5+3) f).1 (p:=q+1) (by omega);have L:=h.own.1;refine⟨by rw[l,wm,h.len];omega,h.nd.sublist (List.take_sublist _ _),D,by rw[l];exact G,λ i A E s b a=>?_⟩;rw[List.getElem?_take]at a;split at a<;>try cases a
 rename_i H
 have u:∀ j,j<5->((cs.set (q*5+3) f).take ((q+1)*5))[i*5+j]?=(cs.set (q*5+3) f)[i*5+j]? := λ j z=>by
  rw[List.getElem?_take,if_pos (by omega)]
 have d:∀ k,k≠q*5+3->(cs.set (q*5+3) f)[k]?=cs[k]? := λ k I=>by rw[List.getElem?_set_ne (λ e=>I e.symm)]
 rw[List.getElem?_append,wm,kK (by omega)]at b;split at b
 ·rename_i o;rw[List.getElem?_take,if_pos o]at b;exact((h.node i A E s b a).later v.le (m i s o a)).cells λ j z=>(u j z).trans (d _ (by omega))
 ·rename_i o;have K:i=q:=by omega
  subst K;simp at b;obtain⟨rfl,rfl⟩:=b;rw[y]at a;cases a;obtain⟨R0,F,b1,b2,b3,b4,b5,b6,Y,X,W,a3,V⟩:=h.node i t n r J y;refine⟨R,f,M,U,S,Q,P,(by show Rep Γ' (.rs r 0 (t.kids++[x]).length R.ver false) f;rw[wc];exact O),(u 0 (by decide)).trans ((d _ (by omega)).trans Y),(u 1 (by decide)).trans ((d _ (by omega)).trans X),(u 2 (by decide)).trans ((d _ (by omega)).trans W),(u 3 (by decide)).trans ?_,(u 4 (by decide)).trans ((d _ (by omega)).trans V)⟩;rw[List.getElem?_set_self (by omega)]
end
end Go.AmZ
namespace Go.AmZ
open Go Go.RowKit Go.GxZ
structure RS (Γ0:Gh) (w0:World) (rd:Val RD) (Γ : Gh) (σ : St) (w:World):Prop where
 x:Ext Γ0 w0 Γ w
 i:Inv Γ σ w
 bx : σ.bx=[qj RD rd]
abbrev qpH(F:Val RD->Option ((Val RD × Unit) × ((Int × List UInt8 × Int × List T × Int × Unit) × Unit))):qoj:=⟨[.box [.val RD]],[.agg [.val (.int .i64),.val .str,.val (.int .i64),.row .term,.val (.int .i64)]],λ x=>F x.1⟩
section
variable {P:Program} {Γ0 Γ : Gh} {σ : St} {w0 w:World} {rd:Val RD}
theorem RS.drew(h:RS Γ0 w0 rd Γ σ w):RS Γ0 w0 rd Γ σ { w with drawn:=w.drawn+1 }:=⟨h.x.trans (Ext.drew _ _),h.i.drew,h.bx⟩
theorem RS.box(h:RS Γ0 w0 rd Γ σ w):w.cell? ⟨Γ.β 0,0,none⟩=some (.string ⟨rd.1.toArray⟩)/\w.cell? ⟨Γ.β 0,1,none⟩=some (.int .i64 rd.2.1)/\w.cell? ⟨Γ.β 0,2,none⟩=some (.bool rd.2.2):=by
 obtain⟨vs,e,g,d,j⟩:=h.i.box 0 (qj RD rd) (by rw[h.bx];rfl);have f:=QQ g;have c:∀(x:Value) (u:Value),Rep Γ (.v x) u->u=x := λ x u h=>by cases h;rfl
 refine⟨?_,?_,?_⟩<;>rw[f]
 ·obtain⟨u,a,b⟩:=d.get (i:=0) (x := .v (.string ⟨rd.1.toArray⟩)) rfl;rw[c _ _ b]at a;simpa using a
 ·obtain⟨u,a,b⟩:=d.get (i:=1) (x := .v (.int .i64 rd.2.1)) rfl;rw[c _ _ b]at a;simpa using a
 ·obtain⟨u,a,b⟩:=d.get (i:=2) (x := .v (.bool rd.2.2)) rfl;rw[c _ _ b]at a;simpa using a
theorem RS.grown{w':World}{c:Option Nat}(h:RS Γ0 w0 rd Γ σ w)(e:w.grownBy w' c)(d:∀ b,c=some b->qeE Γ b/\w0.heap.size<=b)(f:w.drawn<=w'.drawn):RS Γ0 w0 rd Γ σ w' :=
 let⟨a,b⟩:=qJB h.x h.i e d f;⟨a,b,h.bx⟩
theorem RS.set(h:RS Γ0 w0 rd Γ σ w){g:Nat}(a:qeE Γ g)(c:w0.heap.size<=g)(k:Nat)(u:Value):RS Γ0 w0 rd Γ σ (w.setCell ⟨g,k,none⟩ u) :=
 h.grown (qI9 w g k u) (λ b e=>by cases e;exact⟨a,c⟩) (wb _)
theorem RS.put4(h:RS Γ0 w0 rd Γ σ w){b:Nat}(a:qeE Γ b)(c:w0.heap.size<=b)(g f e d:Value):RS Γ0 w0 rd Γ σ ((((w.setCell ⟨b,0,none⟩ g).setCell ⟨b,1,none⟩ f).setCell ⟨b,2,none⟩ e).setCell ⟨b,3,none⟩ d) :=
 (((h.set a c 0 g).set a c 1 f).set a c 2 e).set a c 3 d
theorem qDB:Rep Γ (.sl 4 [] 1) (.slice none 0 0) := .sl _ _ _ _ 0 0 0 0 (λ _ _=>undef) rfl (λ _=>wb _) (λ _=>rfl) (λ e h=>by cases h) (λ e h=>by cases h) (by decide) (.inl rfl) (λ i e j x h=>by cases h) (λ i e j x h=>by cases h)
theorem RS.alloc(h:RS Γ0 w0 rd Γ σ w)(o:Obj):RS Γ0 w0 rd Γ σ (w.alloc o) :=
 h.grown (World.grownBy_alloc w o none) (λ b e=>by cases e) (wb _)
theorem qwV{f:FuncId}{F:Val RD->Option ((Val RD × Unit) × ((Int × List UInt8 × Int × List T × Int × Unit) × Unit))}(C:qZ P f (sgP (qpH F))){b:Val RD}{nk sk lf:Int}{nm:List UInt8}{ks:List T}(A:F rd=some ((b,()),((nk,nm,sk,ks,lf,()),())))
  (h:RS Γ0 w0 rd Γ σ w):Calls P f #[.pointer (some ⟨Γ.β 0,0,none⟩)] w λ e w'=>∃ Γ' σ' o,e = .returned (.agg #[.int .i64 nk,.string ⟨nm.toArray⟩,.int .i64 sk,o,.int .i64 lf])/\Ext Γ w Γ' w'/\RS Γ0 w0 b Γ' σ' w' /\ σ'.rw = σ.rw++[⟨4,ks.map (qj .term),0,0,false⟩]/\Rep Γ' (.rs σ.rw.length 0 ks.length 0 false) o:=by
 have l : Γ.nb=1:=by rw[h.i.nb,h.bx];rfl
 have g:qai σ [.ptr 0 0] (sgP (qpH F))=some (.agg [.v (.int .i64 nk),.v (.string ⟨nm.toArray⟩),.v (.int .i64 sk),.rs σ.rw.length 0 ks.length 0 false,.v (.int .i64 lf)],some ⟨[qj RD b],σ.rw++[⟨4,ks.map (qj .term),0,0,false⟩],0 :: σ.wr,σ.wrr⟩):=by
  obtain⟨I,rw,c,a⟩ := σ;have m:I=[qj RD rd]:=h.bx;subst m;have B:yh RD ((qj RD rd).take (Ty.size RD))=some rd:=Qj RD rd
  have m:qjH ⟨[qj RD rd],[],[],[]⟩ [.val RD] 0 0 (.ptr 0 0)=some ((rd,()),0):=by
   show(match yh RD ((qj RD rd).take (Ty.size RD))with
    | some v=>match qf2 ⟨[qj RD rd],[],[],[]⟩ [] 0 ((qj RD rd).drop (Ty.size RD))with
      | some (vs,n)=>some ((v,vs),n)
      | none=>none
    | none=>none)=_
   rw[B];rfl
  have s:dS ⟨[qj RD rd],[],[],[]⟩ (qpH F).args 0 0 [.ptr 0 0]=some (rd,()):=by
   show(match qjH ⟨[qj RD rd],[],[],[]⟩ [.val RD] 0 0 (.ptr 0 0)with
    | some (v,k)=>match dS ⟨[qj RD rd],[],[],[]⟩ [] 1 k []with
      | some vs=>some (toB [.val RD] v,vs)
      | none=>none
    | none=>none)=_
   rw[m];rfl
  have z:sgP (qpH F) ⟨[qj RD rd],[],[],[]⟩ [.ptr 0 0]=some (.agg [.v (.int .i64 nk),.v (.string ⟨nm.toArray⟩),.v (.int .i64 sk),.rs 0 0 ks.length 0 false,.v (.int .i64 lf)],some ⟨[qj RD b],[⟨4,ks.map (qj .term),0,0,false⟩],[0],[]⟩):=by
   unfold sgP;rw[s];dsimp only;rw[A];rfl
  have q:qjr ⟨[qj RD rd],rw,c,a⟩ [.ptr 0 0]=true:=rfl;have H:qN ⟨[qj RD rd],rw,c,a⟩ (Q7 ⟨[qj RD rd],rw,c,a⟩ [.ptr 0 0]) (qcQ ⟨[qj RD rd],rw,c,a⟩ [.ptr 0 0])=⟨[qj RD rd],[],[],[]⟩:=rfl;unfold qai;rw[q]
  show(match sgP (qpH F) (qN ⟨[qj RD rd],rw,c,a⟩ (Q7 ⟨[qj RD rd],rw,c,a⟩ [.ptr 0 0]) (qcQ ⟨[qj RD rd],rw,c,a⟩ [.ptr 0 0])) [.ptr 0 0]with
   | some r=>some (qjn ⟨[qj RD rd],rw,c,a⟩ [0] [] r)
   | none=>none)=_
  rw[H,z];rfl
 refine(qqs (λ Γ σ j r y d t=>C.2 Γ σ w j _ r y d t) h.i (waF (Rep.ptr 0 0 (by rw[l];exact waj)) .nil) g).mono ?_;rintro e w' ⟨v,Γ',rfl,p,E,D,O⟩;cases D with
 | agg _ us u G d =>
 match us,u with
 | [u0,u1,u2,u3,u4],_ =>
 have N:=d 0 _ _ rfl rfl;have M:=d 1 _ _ rfl rfl;have L:=d 2 _ _ rfl rfl;have K:=d 3 _ _ rfl rfl;have J:=d 4 _ _ rfl rfl;cases N;cases M;cases L;cases J;exact⟨Γ',_,u3,rfl,p,⟨h.x.trans p,E,rfl⟩,rfl,K⟩
theorem qC9(p:Inv Γ σ w){cs:List Value}{i:Nat}{t:T}{n:Int}{r:Nat}(h:qjj Γ σ cs i t n r) :
  ∃ a σ1 d,σ1.bx = σ.bx/\(∀ b,b≠r -> σ1.rw[b]? = σ.rw[b]?)/\Ext Γ w a w/\Inv a σ1 w/\cs[i*5+3]?=some d/\Rep a (.sl 4 (t.kids.map (qj .term)) 1) d/\d.oneCell'=true:=by
 obtain⟨R,d,j,B,E,D,s,q,I,H,G,C,F⟩:=h;obtain⟨m,l,v,u⟩:=qxa p j σ.wrr;refine⟨_,{ σ with rw := σ.rw.modify r qmq,wrr := σ.wrr },d,rfl,λ b z=>?_,qli l w,v,C,?_,q.one rfl⟩
 ·show(σ.rw.modify r qmq)[b]?=_;rw[List.getElem?_modify];cases σ.rw[b]? with
  | none=>rfl
  | some x=>exact congrArg some (if_neg (λ e=>z (Eq.symm e)))
 ·have:=qls p l.le (y := .rs r 0 t.kids.length R.ver false) (λ b f R' g=>by
    simp only[rsC,wH]at f;subst f;rw[j]at g;cases g;exact u) q
  have o:R.c.length=t.kids.length:=by rw[s,wA]
  have A:zk σ.rw (.rs r 0 t.kids.length R.ver false) = .sl 4 (t.kids.map (qj .term)) 1:=by
   simp only[zk,j]
   have:qnk R R.k 0 t.kids.length R.ver=some (t.kids.map (qj .term)):=by
    unfold qnk;rw[if_pos ⟨rfl,rfl,by omega⟩,wO,kE (by omega),s]
   rw[this,B]
  rw[A]at this;exact this
theorem qhL{t:T}{a:Value}(h:Rep Γ (.sl 4 (t.kids.map (qj .term)) 1) a):RepL Γ (qj .term t) [.int .i64 t.kind,.string ⟨t.name.toArray⟩,.int .i64 t.sort,a]:=by
 have b:qj .term t=[.v (.int .i64 t.kind),.v (.string ⟨t.name.toArray⟩),.v (.int .i64 t.sort),.sl 4 (t.kids.map (qj .term)) 1]:=by
  obtain⟨k,n,s,l⟩:=t;show J3 _=_;rw[J3,qlZ];rfl
 rw[b];exact waF (.v _ rfl) (waF (.v _ rfl) (waF (.v _ rfl) (waF h .nil)))
theorem qp6{k s:Int}{b:ByteArray}{a:Value}(h:a.oneCell'=true):∀ u∈([.int .i64 k,.string b,.int .i64 s,a]:List Value),u.oneCell'=true:=by
 intro u c;simp only[wx,xt,or_false]at c;rcases c with rfl | rfl | rfl | rfl<;>first | rfl | exact h
theorem qLf(n:Inv Γ σ w){t:T}{b:Value}(h:Rep Γ (.sl 4 (t.kids.map (qj .term)) 1) b)(e:TypeId) :
  ∃ Γ',Ext Γ w Γ' (w.alloc (.cells #[.int .i64 t.kind,.string ⟨t.name.toArray⟩,.int .i64 t.sort,b] e))/\Inv Γ' σ (w.alloc (.cells #[.int .i64 t.kind,.string ⟨t.name.toArray⟩,.int .i64 t.sort,b] e))/\Rep Γ' (.sl (Ty.size .term) [qj .term t] 2) (.slice (some ⟨w.heap.size,0,none⟩) 1 1):=by
 obtain⟨Γ',g,l,k⟩:=qzn n (vs:=[.int .i64 t.kind,.string ⟨t.name.toArray⟩,.int .i64 t.sort,b]) (qp6 (h.one rfl)) e;refine⟨Γ',g,l,.sl _ _ _ _ 1 1 w.heap.size 0 (λ _ j=>([.int .i64 t.kind,.string ⟨t.name.toArray⟩,.int .i64 t.sort,b]:List Value).getD j undef) rfl (λ _=>wb _) (λ _=>rfl) ?_ ?_ (by decide) (.inr rfl) ?_ ?_⟩
 ·intro e f;rw[wH.1 f];exact jA .term t
 ·intro e f;rw[wH.1 f];exact zt .term t
 ·intro i e j x a d;cases i with
  | succ i=>cases a
  | zero =>
    cases a;obtain⟨u,c,_⟩:=(qhL h).get d;rw[wG,kQ,wG,k j u c,List.getD_eq_getElem?_getD,c];rfl
 ·intro i e j x a d;cases i with
  | succ i=>cases a
  | zero =>
    cases a;obtain⟨u,c,m⟩:=(qhL h).get d;rw[List.getD_eq_getElem?_getD,c];exact m.mono g.le
theorem qFB{B N:Nat}{f:List (T × Int)}{a:List Nat}{g cap:Nat}{cs:List Value}(h:RS Γ0 w0 rd Γ σ w)(j:Stk B N Γ σ w f a g cap cs){q:Nat}{x:T}{n:Int}(m:f[q]?=some (x,n)) :
  ∃ Γ' σ' c,cs[q*5+3]?=some c/\RS Γ0 w0 rd Γ' σ' w/\Stk B N Γ' σ' w (f.take q) (a.take q) g cap (cs.take (q*5))/\Rep Γ' (.sl 4 (x.kids.map (qj .term)) 1) c/\Ext Γ w Γ' w:=by
 obtain⟨A,k,z⟩:=j.at m;obtain⟨d,σ1,c,y,v,l,u,t,s,C⟩:=qC9 h.i z;refine⟨d,σ1,c,t,⟨h.x.trans l,u,y.trans h.bx⟩,(j.shrink (xz (getElem?_lt m))).later l λ r o R p=>?_,s,l⟩;rw[v r λ e=>?_];exact p;subst e;obtain⟨i,b⟩:=vG.1 o;rw[List.getElem?_take]at b;split at b<;>try cases b
 have:=(List.getElem?_inj (getElem?_lt b) j.nd).1 (b.trans k.symm);omega
theorem qGd{B N:Nat}{A:List (T × Int)}{f:List Nat}{g cap:Nat}{cs:List Value}{z V:TypeId}(hT:qot P .term z V 56)(h:RS Γ0 w0 rd Γ σ w)(o:Stk B N Γ σ w A f g cap cs)(hB:w0.heap.size<=B){q:Nat}{t x:T}{n:Int}{J:Value}(E:A[q]?=some (t,n))(X:Rep Γ (.sl 4 (x.kids.map (qj .term)) 1) J)(l:zp (t.kids.length+1) 56=true)(e ty:TypeId) :
  ∃ p a,cs[q*5+3]?=some p/\f[q]?=some a/\(∃ C D,p = .slice C t.kids.length D) /\
  ∃ d w',(Builtin.append_ #[z,z] ty #[p,.slice (some ⟨w.heap.size,0,none⟩) 1 1]).run P (w.alloc (.cells #[.int .i64 x.kind,.string ⟨x.name.toArray⟩,.int .i64 x.sort,J] e)) = .ok d w'/\(∃ C D,d = .slice C (t.kids.length+1) D) /\
  ∃ Γ' σ',Ext Γ w Γ' w'/\RS Γ0 w0 rd Γ' σ' (w'.setCell ⟨g,q*5+3,none⟩ d)/\Stk B N Γ' σ' (w'.setCell ⟨g,q*5+3,none⟩ d) (A.take q++[(.mk t.kind t.name t.sort (t.kids++[x]),n)]) (f.take (q+1)) g cap ((cs.set (q*5+3) d).take ((q+1)*5)):=by
 obtain⟨U,S,c2,c3⟩:=qLf h.i X e;obtain⟨a,j,Nq⟩:=o.at E;obtain⟨R,p,e1,Q,O,e4,M,L,f0,f1,f2,f3,f4⟩:=Nq;have v:R.c.length=t.kids.length:=by rw[M,wA]
 have r:=of_decide_eq_true l
 have y:yc (Ty.size .term) 56 σ (.rs a 0 t.kids.length R.ver false) [qj .term x]=some (.rs a 0 (t.kids.length+1) (R.ver+1) false,some { σ with rw := σ.rw.set a { R with c:=R.c++[qj .term x],ver:=R.ver+1 },wrr:=a :: σ.wrr }):=by
  have m:R.k=Ty.size .term/\R.ver=R.ver/\t.kids.length=R.c.length/\(0:Nat)=0/\false=false/\R.fz<=R.c.length/\(t.kids.length+[qj .term x].length)*56<=2 ^ 47/\t.kids.length+[qj .term x].length<2 ^ 62 :=
   ⟨Q,rfl,v.symm,rfl,rfl,by rw[O];exact we _,r.1,r.2⟩
  have G:qte R (Ty.size .term) 0 t.kids.length R.ver false 56 [qj .term x]=some ({ R with c:=R.c++[qj .term x],ver:=R.ver+1 },t.kids.length+1):=if_pos m;have u:zi (qaN [qj .term x]) 0=false:=rfl;simp only[yc,u,e1,G]
 obtain⟨d,w',Γ',g1,g2,g3,K⟩:=qr3 hT c2 (L.mono S.le) c3 (by intro q' hq';rw[wH.1 hq'];exact jA .term x) (by intro q' hq';rw[wH.1 hq'];exact zt .term x) y ty;have b:=S.trans g2;have F:=(o.priv.ext b (qcP o.own).2).1;have Z:=(qcP o.own).1;refine⟨p,a,f3,j,(by cases L;exact⟨_,_,rfl⟩),d,w',g1,(by cases K;exact⟨_,_,rfl⟩),Γ',_,b,RS.set ⟨h.x.trans b,g3,h.bx⟩ F (by omega) _ _,o.kid b (getElem?_lt E) E j x (λ i I hi s R' H=>?_) (R:={ R with c:=R.c++[qj .term x],ver:=R.ver+1 }) ?_ Q O e4 (by show R.c++_=_;rw[M,wS];rfl) K⟩
 ·have Y:=getElem?_lt s
  have W:I≠a := λ e=>by
   have:=(List.getElem?_inj Y o.nd).1 (s.trans (e▸j.symm));omega
  show(σ.rw.set a _)[I]?=_;rw[List.getElem?_set_ne (λ e=>W e.symm)];exact H
 ·show(σ.rw.set a _)[a]?=_;rw[List.getElem?_set_self (getElem?_lt e1)]
theorem qCS{vs:Array Value}{a:Nat}{f e c b:Value}(j:a+4<=vs.size)(off:Nat):((((vs.setIfInBounds a f).setIfInBounds (a+1) e).setIfInBounds (a+2) c).setIfInBounds (a+3) b)[off]?=if off<a then vs[off]? else if off<a+4 then([f,e,c,b]:List Value)[off-a]? else vs[off]?:=by
 simp only[Array.getElem?_setIfInBounds,xO];by_cases h:off<a
 ·rw[if_pos h,if_neg (by omega),if_neg (by omega),if_neg (by omega),if_neg (by omega)]
 ·rw[if_neg h];by_cases g:off<a+4
  ·rw[if_pos g];obtain⟨d,rfl⟩:∃ d,off=a+d:=⟨off-a,by omega⟩
   rw[show a+d-a=d by omega];have i:d<4:=by omega
   match d,i with
   | 0,_=>rw[if_neg (by omega),if_neg (by omega),if_neg (by omega),if_pos (by omega),if_pos (by omega)];rfl
   | 1,_=>rw[if_neg (by omega),if_neg (by omega),if_pos (by omega),if_pos (by omega)];rfl
   | 2,_=>rw[if_neg (by omega),if_pos (by omega),if_pos (by omega)];rfl
   | 3,_=>rw[if_pos (by omega),if_pos (by omega)];rfl
  ·rw[if_neg g,if_neg (by omega),if_neg (by omega),if_neg (by omega),if_neg (by omega)]
theorem qM5{B N:Nat}{O:List (T × Int)}{s:List Nat}{g cap:Nat}{cs:List Value}(h:RS Γ0 w0 rd Γ σ w)(f:Stk B N Γ σ w O s g cap cs){q:Nat}{t x z:T}{ks:List T}{n:Int}{o:Value}(hq:O[q]?=some (t,n))(K:t.kids=ks++[z])(hx:Rep Γ (.sl 4 (x.kids.map (qj .term)) 1) o) :
  ∃ b m,cs[q*5+3]?=some (.slice (some ⟨b,0,none⟩) (ks.length+1) m)/\b≠g/\QG Γ b/\(∀ j,j<4->∃ u,w.cell? ⟨b,ks.length*4+j,none⟩=some u)/\(∀ j,w.frozen? ⟨b,j,none⟩=false) /\
  ∃ Γ' σ',Ext Γ w Γ' ((((w.setCell ⟨b,ks.length*4,none⟩ (.int .i64 x.kind)).setCell ⟨b,ks.length*4+1,none⟩ (.string ⟨x.name.toArray⟩)).setCell ⟨b,ks.length*4+2,none⟩ (.int .i64 x.sort)).setCell ⟨b,ks.length*4+3,none⟩ o) /\
   RS Γ0 w0 rd Γ' σ' ((((w.setCell ⟨b,ks.length*4,none⟩ (.int .i64 x.kind)).setCell ⟨b,ks.length*4+1,none⟩ (.string ⟨x.name.toArray⟩)).setCell ⟨b,ks.length*4+2,none⟩ (.int .i64 x.sort)).setCell ⟨b,ks.length*4+3,none⟩ o) /\
   Stk B N Γ' σ' ((((w.setCell ⟨b,ks.length*4,none⟩ (.int .i64 x.kind)).setCell ⟨b,ks.length*4+1,none⟩ (.string ⟨x.name.toArray⟩)).setCell ⟨b,ks.length*4+2,none⟩ (.int .i64 x.sort)).setCell ⟨b,ks.length*4+3,none⟩ o) (O.set q (.mk t.kind t.name t.sort (ks++[x]),n)) s g cap cs:=by
 obtain⟨r,hr,R,ku,e1,J,e3,e4,e5,e6,f0,f1,f2,f3,f4⟩:=f.at hq;have H:=h.i.row r R e1;have D:R.c.length=ks.length+1:=by rw[e5,K];simp
 have V:t.kids.length=ks.length+1:=by rw[K];simp
 rw[V]at e6;have G:R.c[ks.length]?=some (qj .term z):=by rw[e5,K];simp
 have hz:=H.real G;have C:=H.off e4
 obtain⟨b,m,rfl,hb⟩:∃ b m,ku = .slice (some ⟨b,0,none⟩) (ks.length+1) m/\b = Γ.cur r:=by
  cases e6 with
  | rs _ _ _ _ _ a m v Q hc hf hl =>
    obtain⟨I,h2⟩:=hl (H.ver (by rw[e3];exact we _)).symm;rcases I with I | I
    ·omega
    ·rw[C,kQ,wG]at I;exact⟨_,m,by rw[I],rfl⟩
 subst hb;have v:r < Γ.nr:=by rw[h.i.nr];exact getElem?_lt e1
 have A:QG Γ (Γ.cur r) := .inr ⟨r,v,hz,rfl⟩;have Y : Γ.cur r≠g := λ e=>f.priv.own (e▸A);obtain⟨vs,e,fr,M,c2,c3,c4⟩:=H.blk hz;have X:fr=(0,0):=c4 (by omega);subst X;have F:=H.fit;rw[C,D,J,<- c2]at F;have s1:=heap_setCell_same w (Γ.cur r) (ks.length*4) vs e (.int .i64 x.kind) M;have s2:=heap_setCell_same _ (Γ.cur r) (ks.length*4+1) _ e (.string ⟨x.name.toArray⟩) s1;have s3:=heap_setCell_same _ (Γ.cur r) (ks.length*4+2) _ e (.int .i64 x.sort) s2;have s4:=heap_setCell_same _ (Γ.cur r) (ks.length*4+3) _ e o s3
 have l:∀ k,k ≠ Γ.cur r->((((w.setCell ⟨Γ.cur r,ks.length*4,none⟩ (.int .i64 x.kind)).setCell ⟨Γ.cur r,ks.length*4+1,none⟩ (.string ⟨x.name.toArray⟩)).setCell ⟨Γ.cur r,ks.length*4+2,none⟩ (.int .i64 x.sort)).setCell ⟨Γ.cur r,ks.length*4+3,none⟩ o).heap[k]?=w.heap[k]? := λ k L=>by
  rw[Below.heap_setCell _ _ _ _ L,Below.heap_setCell _ _ _ _ L,Below.heap_setCell _ _ _ _ L,Below.heap_setCell _ _ _ _ L]
 obtain⟨Γ',p,z2⟩:=qrX h.i e1 G (by rw[e3];exact we _) e4 (e1:=qj .term x) ((jA .term x).trans J.symm) (zt .term x) (λ vs' e' ab Q=>by
   rw[M]at Q;cases Q;refine⟨s4,by simp,λ off ho=>?_⟩;rw[J]at ho;rw[qCS (by omega)];split
   ·rfl
   ·rw[if_neg (by omega)])
  (λ j y W=>by
   have aa:j<4:=by have:=getElem?_lt W;rwa [jA .term x]at this
   obtain⟨u,hu,S⟩:=(qhL hx).get W;refine⟨u,?_,S,qp6 (hx.one rfl) u (wa hu)⟩;rw[J,qCS (by omega),if_neg (by omega),if_pos (by omega),show ks.length*4+j-ks.length*4=j by omega];exact hu) l rfl rfl rfl (by simp) (wb _) σ.wrr
 refine⟨Γ.cur r,m,f3,Y,A,λ j W=>⟨vs[ks.length*4+j]'(by omega),?_⟩,λ j=>frozen_of_row w _ j _ _ M,Γ',_,p,⟨h.x.trans p,z2,h.bx⟩,?_⟩
 ·rw[QQ M,Array.getElem?_eq_getElem]
 ·obtain⟨p1,p2⟩:=f.priv.ext p (qcP f.own).2;refine⟨by rw[wJ];exact f.len,f.nd,p1,by rw[wJ];exact qmh f.own p2,λ i t' n' P E d=>?_⟩;rw[List.getElem?_set]at E;split at E
  ·rename_i e;subst e;rw[if_pos (getElem?_lt hq)]at E;cases E;rw[hr]at d;cases d;refine⟨{ R with c:=R.c.set ks.length (qj .term x) },_,List.getElem?_set_self (getElem?_lt e1),J,e3,e4,?_,?_,f0,f1,f2,f3,f4⟩
   ·show R.c.set ks.length (qj .term x)=(ks++[x]).map (qj .term);rw[e5,K,wS,wS];simp
   ·have:=e6.mono p.le;show Rep Γ' (.rs r 0 (ks++[x]).length R.ver false) _;rw[wc];exact this
  ·rename_i e;refine(f.node i t' n' P E d).later p.le λ R' Z=>?_
   have U:P≠r := λ e'=>by
    have:=(List.getElem?_inj (getElem?_lt d) f.nd).1 (d.trans (e'▸hr.symm));omega
   show(σ.rw.set r _)[P]?=_;rw[List.getElem?_set_ne (λ e=>U e.symm)];exact Z
end
end Go.AmZ
namespace Go.AmZ
open Go Go.RowKit Go.GxZ
theorem qoJ{P:Program}{o:Oper}{a:Act}{w:World}{K:Act->World->Prop}{Q:Exit->Act->World->Prop}(s x:Operand)(t:TypeId)(c:o.op=Op.call { callee:=Callee.builtin Builtin.append,args := #[s,x],argTypes := #[t,t] }){v d e:Value}{w':World}(g:a.eval s=v)(f:a.eval x=d)
  (b:(Builtin.append_ #[t,t] o.type #[v,d]).run P w = .ok e w') (h:K (a.put o.dst e) w'):Oper.wp P o a w K Q:=by
 unfold Oper.wp;simp[execOp,c,resolve,invoke,builtin,g,f,b,Result.andThen];exact h
theorem qo2{P:Program}{ops:Array Oper}{o:Oper}{a:Act}{w:World}{K:Act->World->Prop}{Q:Exit->Act->World->Prop}{E:Prop}(h:o.guard=none)(s x:Operand)(t:TypeId)(c:o.op=Op.call { callee:=Callee.builtin Builtin.append,args := #[s,x],argTypes := #[t,t] }){v d e:Value}{w':World}(g:a.eval s=v)(f:a.eval x=d)
  (b:(Builtin.append_ #[t,t] o.type #[v,d]).run P w = .ok e w') (i:K (a.put o.dst e) w'):if Region.wanted o (yielded ops a.tmps)=true then Oper.wp P o a w K Q else E:=by
 rw[if_pos (by simp[Region.wanted,h])];exact qoJ s x t c g f b i
theorem qyH{P:Program}{ops:Array Oper}{b:List Oper}{o:Oper}{a:Act}{w:World}{Q:Exit->Act->World->Prop}(s x:Operand)(t:TypeId)(j:o.guard=none)(d:o.op=Op.call { callee:=Callee.builtin Builtin.append,args := #[s,x],argTypes := #[t,t] }){v e f:Value}{w':World}(i:a.eval s=v)(g:a.eval x=e)
  (c:(Builtin.append_ #[t,t] o.type #[v,e]).run P w = .ok f w') (k:wpList P ops Q b (a.put o.dst f) w'):wpList P ops Q (o::b) a w:=by
 have h:Region.wanted o (yielded ops a.tmps)=true:=by simp[Region.wanted,j]
 unfold wpList;rw[if_pos h];exact .inl (qoJ s x t d i g c k)
abbrev qkM:=(Val RD × Unit) × ((Int × List UInt8 × Int × List T × Int × Unit) × Unit)
def qeW(F:Val RD->Option qkM)(rd:Val RD):Option (Val RD × (Int × List UInt8 × Int × Int)):=match F rd with
 | some (r,v)=>match v.1.2.2.2.1 with
   | []=>some (r.1,v.1.1,v.1.2.1,v.1.2.2.1,v.1.2.2.2.2.1)
   | _::_=>none
 | none=>none
def qnC(F:Val RD->Option qkM)(c:List (T × Int)->Val RD->Option ((Val RD × Unit) × (T × Unit)))(b:List (T × Int))(rd:Val RD):Option ((Val RD × Unit) × (T × Unit)) :=
 cond rd.2.2 (some ((rd,()),(T.mk 0 [] 0 [],()))) (qa b[b.length-1]? λ a=>cond (ilt 0 a.2)
  (cond (zp (b.length+1) 64) (qa (qeW F rd) λ h=>c (b.set (b.length-1) (a.1,iw .i64 (zh a.2 1))++[(T.mk h.2.1 h.2.2.1 h.2.2.2.1 [],h.2.2.2.2)]) h.1) none)
  (cond (Nat.beq b.length 1) (some ((rd,()),(a.1,()))) (qa b[b.length-2]? λ p=>cond (zp (p.1.kids.length+1) 56) (c (b.take (b.length-2)++[(T.mk p.1.kind p.1.name p.1.sort (p.1.kids++[a.1]),p.2)]) rd) none)))
def qkI(F:Val RD->Option qkM):Nat->List (T × Int)->Val RD->Option ((Val RD × Unit) × (T × Unit)):=qJ (λ _ _=>none) (qnC F)
def qp7(F:Val RD->Option qkM)(k:Nat)(rd:Val RD):Option ((Val RD × Unit) × (T × Unit)):=qa (qeW F rd) λ h=>qkI F k [(T.mk h.2.1 h.2.2.1 h.2.2.2.1 [],h.2.2.2.2)] h.1
theorem qtJ{F:Val RD->Option qkM}{rd f:Val RD}{nk sk lf:Int}{nm:List UInt8}(h:qeW F rd=some (f,nk,nm,sk,lf)):F rd=some ((f,()),((nk,nm,sk,[],lf,()),())):=by
 unfold qeW at h;split at h<;>try cases h
 rename_i r v i;split at h<;>cases h;rename_i g;obtain⟨⟨a,b,c,d,e,_⟩,_⟩:=v;obtain⟨r,_⟩:=r;have g:d=[]:=g;subst g;exact i
theorem qG7{F:Val RD->Option qkM}{g:List (T × Int)->Val RD->Option ((Val RD × Unit) × (T × Unit))}{c:List (T × Int)}{rd:Val RD}{r:(Val RD × Unit) × (T × Unit)}(h:qnC F g c rd=some r) :
  (rd.2.2=true/\r=((rd,()),(T.mk 0 [] 0 [],())))\/rd.2.2=false/\∃ p b lt,c.length=p+1/\c[p]?=some (b,lt) /\
   ((0<lt/\zp (p+2) 64=true/\∃ d nk nm sk lf,F rd=some ((d,()),((nk,nm,sk,[],lf,()),()))/\g (c.set p (b,iw .i64 (zh lt 1))++[(T.mk nk nm sk [],lf)]) d=some r) \/
    ¬ 0<lt/\((p=0/\r=((rd,()),(b,())))\/∃ q a n,p=q+1/\c[q]?=some (a,n)/\zp (a.kids.length+1) 56=true/\g (c.take q++[(T.mk a.kind a.name a.sort (a.kids++[b]),n)]) rd=some r)):=by
 unfold qnC at h;cases m:rd.2.2 with
 | true=>rw[m]at h;exact .inl ⟨rfl,(kX h).symm⟩
 | false =>
   rw[m]at h;refine .inr ⟨rfl,?_⟩;cases e:c[c.length-1]? with
   | none=>rw[e]at h;cases h
   | some x =>
     obtain⟨b,lt⟩:=x;have o:=getElem?_lt e;obtain⟨p,s⟩:∃ p,c.length=p+1:=⟨c.length-1,by omega⟩
     rw[s]at h e;simp only[xV]at h e;rw[e]at h;refine⟨p,b,lt,s,e,?_⟩;have h:cond (ilt 0 lt) _ _=some r:=h;cases i:ilt 0 lt with
     | true =>
       rw[i]at h;have h:cond (zp (p+1+1) 64) (qa (qeW F rd) _) none=some r:=h;cases f:zp (p+1+1) 64 with
       | false=>rw[f]at h;cases h
       | true =>
         rw[f]at h;refine .inl ⟨of_decide_eq_true i,rfl,?_⟩;have h:qa (qeW F rd) _=some r:=h;cases l:qeW F rd with
         | none=>rw[l]at h;cases h
         | some y =>
           obtain⟨d,nk,nm,sk,lf⟩:=y;rw[l]at h;exact⟨d,nk,nm,sk,lf,qtJ l,h⟩
     | false =>
       rw[i]at h;refine .inr ⟨of_decide_eq_false i,?_⟩;have h:cond (Nat.beq (p+1) 1) (some ((rd,()),(b,()))) _=some r:=h;cases j:Nat.beq (p+1) 1 with
       | true =>
         rw[j]at h;exact .inl ⟨by have:=wj j;omega,(kX h).symm⟩
       | false =>
         rw[j]at h;obtain⟨q,rfl⟩:∃ q,p=q+1:=⟨p-1,by cases p with | zero=>cases j | succ q=>rfl⟩
         have h:qa c[q+1+1-2]? _=some r:=h;rw[show q+1+1-2=q by omega]at h;cases k:c[q]? with
         | none=>rw[k]at h;cases h
         | some y =>
           obtain⟨a,n⟩:=y;rw[k]at h;have h:cond (zp (a.kids.length+1) 56) (g (c.take (q+1+1-2)++_) rd) none=some r:=h;rw[show q+1+1-2=q by omega]at h;cases f:zp (a.kids.length+1) 56 with
           | false=>rw[f]at h;cases h
           | true=>rw[f]at h;exact .inr ⟨q,a,n,rfl,k,f,h⟩
theorem qzA{Γ Γ':Gh}(q:∀ b o u,Γ.mem b o=some u -> Γ'.mem b o=some u){x:AV}{u:Value}(h:Rep Γ x u):qz x=true->Rep Γ' x u:=by
 induction h with
 | v x h=>exact λ _ => .v x h
 | sl k es f a n cap b o us p t s r l y w g z m =>
   exact λ _ => .sl k es f a n cap b o us p t s r l y w (λ i e j x d c=>q _ _ _ (g i e j x d c)) (λ i e j x d c=>m i e j x d c (l e (wa d) x (wa c)))
 | _=>intro h;cases h
section
variable {P:Program} {Γ0 Γ : Gh} {σ0 σ : St} {w0 w:World} {rd:Val RD}
theorem qIW(G:Inv Γ0 σ0 w0)(p : σ0.bx.length=1)(c : σ0.rw=[])(h:RS Γ0 w0 rd Γ σ w){t:T}{us:List Value}(s:RepL Γ (qj .term t) us)(F:∀ u∈us,u.oneCell'=true) :
  ∃ v Γ',(Ending.returned (.agg us.toArray):Ending) = .returned v/\Ext Γ0 w0 Γ' w/\Inv Γ' (turn σ0 (some ⟨[qj RD rd],[],List.range σ0.bx.length,List.range σ0.rw.length⟩)) w/\Rep Γ' (yK .term t) v/\qX { σ0 with wr:=[],wrr:=[] } (turn { σ0 with wr:=[],wrr:=[] } (some ⟨[qj RD rd],[],List.range σ0.bx.length,List.range σ0.rw.length⟩)):=by
 obtain⟨q,g,C,r⟩ := σ0;have c:g=[]:=c;subst c;obtain⟨y,rfl⟩:∃ y,q=[y]:=xW.1 p
 obtain⟨m,B,H,A,z⟩:=qri G h.x h.i (by rw[h.bx];exact wb _) [qj RD rd] [] rfl (by simp) kT [] [] (λ i cs d=>by
  cases i with
  | succ i=>cases d
  | zero =>
    cases d;refine⟨qj RD rd,by rw[h.bx];rfl,λ m n _ us f=>⟨f.len,λ j x u e k=>qzA (Γ := Γ) (Γ':=yP Γ m 1 [] 0 []) (λ b o u l=>n.le.mem b o u l) (f.rep j x u e k) (zt RD rd x (wa e))⟩⟩) (λ a so R h=>by cases h) (λ a b j R R' h=>by cases h) [0] []
 refine⟨_,_,rfl,A,z,.agg _ us s.len F λ i x u e f=>qzA (Γ := Γ) (Γ':=yP Γ m 1 [] 0 []) (λ b o u n=>B.le.mem b o u n) (s.rep i x u e f) (zt .term t x (wa e)),wb _,wb _,λ i d E=>?_,λ i d _=>absurd d (wL _),λ i h=>(by cases h),λ i h=>(by cases h)⟩;have:i=0:=by have:i<1:=d;omega
 exact absurd (by rw[this];exact wH.2 rfl) E
theorem qJM{B N:Nat}{m:List (T × Int)}{c:List Nat}{g cap:Nat}{cs:List Value}{q:TypeId}{i:TypeInfo}{z:Value}(J:P.underlying q=some (.slice N))(M:P.info? N=some i)(I:i.zero=some z)(x:i.size=5)(F:i.bytes=64)(v:z.cells.size=5)
  (h:RS Γ0 w0 rd Γ σ w) (s:Stk B N Γ σ w m c g cap cs) (Y:w0.heap.size<=B) {nk sk lf:Int} {nm:List UInt8} {n:Value} {r:Nat} (U : σ.rw[r]?=some ⟨4,[],0,0,false⟩) (o:Rep Γ (.rs r 0 0 0 false) n) (K:r ∉ c) (d:zp (m.length+1) 64=true) (ty:TypeId) :
  ∃ t w',(Builtin.append_ #[q,q] ty #[.slice (some ⟨g,0,none⟩) m.length cap,.slice (some ⟨w.heap.size,0,none⟩) 1 1]).run P (w.alloc (.cells #[.int .i64 nk,.string ⟨nm.toArray⟩,.int .i64 sk,n,.int .i64 lf] N)) = .ok t w' /\
  ∃ l a,t = .slice (some ⟨l,0,none⟩) ((m.length+1:Nat)) a/\RS Γ0 w0 rd Γ σ w'/\Stk B N Γ σ w' (m++[(.mk nk nm sk [],lf)]) (c++[r]) l a (cs++[.int .i64 nk,.string ⟨nm.toArray⟩,.int .i64 sk,n,.int .i64 lf]) /\
   w.heap.size<=w'.heap.size/\(∀ b,b<w.heap.size->b≠g->w'.heap[b]?=w.heap[b]?)/\(l=g\/w.heap.size<=l):=by
 have S:=s.own.alloc (.cells #[.int .i64 nk,.string ⟨nm.toArray⟩,.int .i64 sk,n,.int .i64 lf] N);have A:=of_decide_eq_true d;have V:=qcP s.own
 obtain⟨t,w',e1,X,p,H⟩:=qmz (P:=P) (w.alloc (.cells #[.int .i64 nk,.string ⟨nm.toArray⟩,.int .i64 sk,n,.int .i64 lf] N)) B q ty N i z 5 64 J M I x F v (by decide) _ m.length cs S ⟨w.heap.size,0,none⟩ 1 1 [.int .i64 nk,.string ⟨nm.toArray⟩,.int .i64 sk,n,.int .i64 lf] rfl
  (λ j u L=>by rw[qDc,World.cell?_alloc_mark];simpa using L) (λ u G=>by
   simp only[wx,xt,or_false]at G;rcases G with rfl | rfl | rfl | rfl | rfl<;>first | rfl | exact o.one rfl) (by unfold maxLen;omega) (by have:=A.1;omega) (by simp;omega)
 have E:=GxZ.run_drawn _ e1;have f:w.grownBy w' (some g):=⟨p.os,p.tape,p.output,by have:=p.size;simp at this;omega,λ k D C=>(p.block k (by simp;omega) C).trans (Below.heap_alloc _ _ _ D)⟩
 have W:=RS.grown h f (λ b e=>by cases e;exact⟨s.priv,by omega⟩) E;obtain⟨l,a,rfl,y⟩:=Stk.push (Γ := Γ) (σ := σ) s (r:=r) (R:=⟨4,[],0,0,false⟩) U rfl rfl rfl rfl o K X (H.imp id λ O k D=>qeE.new h.i (by have:=O k D;simp at this;omega));refine⟨_,w',e1,l,a,rfl,W,y,f.size,λ b Q C=>f.block b Q (λ e=>C (by cases e;rfl)),?_⟩;rcases H with e | e
 ·cases e;exact .inl rfl
 ·have:=e l rfl;simp at this;exact .inr (by omega)
theorem qNh{B N:Nat}(h:RS Γ0 w0 rd Γ σ w)(f:B<=w.heap.size){nk sk lf:Int}{nm:List UInt8}{a:Value}{r:Nat}(e : σ.rw[r]?=some ⟨4,[],0,0,false⟩)(c:Rep Γ (.rs r 0 0 0 false) a) :
  RS Γ0 w0 rd Γ σ (w.alloc (.cells #[.int .i64 nk,.string ⟨nm.toArray⟩,.int .i64 sk,a,.int .i64 lf] N))/\Stk B N Γ σ (w.alloc (.cells #[.int .i64 nk,.string ⟨nm.toArray⟩,.int .i64 sk,a,.int .i64 lf] N)) [(.mk nk nm sk [],lf)] [r] w.heap.size 1 [.int .i64 nk,.string ⟨nm.toArray⟩,.int .i64 sk,a,.int .i64 lf]:=by
 refine⟨h.alloc _,rfl,by simp,qeE.new h.i (wb _),World.ownsRow_lit w #[.int .i64 nk,.string ⟨nm.toArray⟩,.int .i64 sk,a,.int .i64 lf] 1 f (by decide) rfl,λ i t n g d b=>?_⟩;cases i with
 | succ i=>cases d
 | zero =>
   cases d;cases b;exact⟨_,a,e,rfl,rfl,rfl,rfl,c,rfl,rfl,rfl,rfl,rfl⟩
theorem Stk.id_lt{B N:Nat}{b:List (T × Int)}{a:List Nat}{g cap:Nat}{cs:List Value}(c:Stk B N Γ σ w b a g cap cs) : σ.rw.length ∉ a := λ h=>by
 obtain⟨i,d⟩:=vG.1 h;have e:i<b.length:=by rw[<- c.len];exact getElem?_lt d
 obtain⟨R,_,f,_⟩:=c.node i _ _ _ (List.getElem?_eq_getElem e) d;exact absurd (getElem?_lt f) (xS _)
def qc7(Γ : Gh)(w:World)(b:Nat)(e:TypeId):Prop:=qeE Γ b/\b<w.heap.size/\w.heap[b]?=some (.cells #[.int .i64 0,.string ⟨#[]⟩,.int .i64 0,.slice none 0 0] e (0,0))
theorem qc7.cells{b:Nat}{e:TypeId}(h:qc7 Γ w b e):w.cell? ⟨b,0,none⟩=some (.int .i64 0)/\w.cell? ⟨b,1,none⟩=some (.string ⟨#[]⟩)/\w.cell? ⟨b,2,none⟩=some (.int .i64 0)/\w.cell? ⟨b,3,none⟩=some (.slice none 0 0)/\∀ i,w.frozen? ⟨b,i,none⟩=false:=by
 obtain⟨_,_,h⟩:=h;have a:=QQ h;exact⟨a 0,a 1,a 2,a 3,λ i=>frozen_of_row w b i _ _ h⟩
theorem qc7.ext{Γ':Gh}{w':World}{b:Nat}{e:TypeId}(h:qc7 Γ w b e)(d:Ext Γ w Γ' w'):qc7 Γ' w' b e :=
 let⟨a,c⟩:=h.1.ext d h.2.1;⟨a,wE h.2.1 d.size,c.trans h.2.2⟩
theorem qc7.same{w':World}{b:Nat}{e:TypeId}(h:qc7 Γ w b e)(a:w.heap.size<=w'.heap.size)(c:w'.heap[b]?=w.heap[b]?):qc7 Γ w' b e:=⟨h.1,wE h.2.1 a,c.trans h.2.2⟩
theorem Stk.drew{B N:Nat}{b:List (T × Int)}{a:List Nat}{g cap:Nat}{cs:List Value}(h:Stk B N Γ σ w b a g cap cs):Stk B N Γ σ w.drew b a g cap cs:=⟨h.len,h.nd,h.priv,qmh h.own rfl,h.node⟩
theorem qc7.drew{b:Nat}{e:TypeId}(h:qc7 Γ w b e):qc7 Γ w.drew b e:=h
theorem RS.drew'(h:RS Γ0 w0 rd Γ σ w):RS Γ0 w0 rd Γ σ w.drew:=h.drew
end
end Go.AmZ
namespace Go.AmZ
open Go Go.GxZ
set_option linter.unusedVariables false
set_option maxRecDepth 100000
noncomputable section
abbrev Z1:=Option ((Unit) × ((Option ((Int) × (List (Int × (Int × (Y8 × Bool)))) × Unit)) × (Int) × Unit))
abbrev Z2:=Option ((((Int) × (List (Int × (Int × (Y8 × Bool)))) × Unit) × Unit) × ((Bool) × Unit))
abbrev Z3:=(Int) × (List (Int × (Int × (Y8 × Bool)))) × Unit
abbrev Z4:=Option (Bool)
abbrev Z5:=Int->Z4
abbrev Z6:=List UInt8
abbrev Z7:=Z6->Int->Int->Z4
abbrev Z8:=Y8->Z4
abbrev Z9:=Option (((Int) × (Int) × Unit) × ((Int) × Unit))
abbrev Z10:=T->Int->Int->Int->Z9
abbrev Z11:=List (T)
abbrev Z12:=Int->Z11->Int->Int->Int->Int->Z9
abbrev Z13:=Option (Int)
abbrev Z14:=T->Z13
abbrev Z15:=Option (Y8 × (Int × (Int × Int)))
abbrev Z16:=List (Y8 × (Int × (Int × Int)))
abbrev Z17:=Z6->Z16->Int->Int->Z6->Int->Int->Int->Z15
abbrev Z18:=Z11->Int->Int->Int->Z6->Int->Z11->Z13
abbrev Z19:=Z11->Int->Int->Z13
abbrev Z20:=Option (((Int) × (List (T)) × Unit) × (Unit))
abbrev Z21:=T->Int->Z11->Z20
abbrev Z22:=Z11->Int->Int->Int->Z11->Z20
abbrev Z23:=Int->Z11->Int->Int->Z13
abbrev Z24:=T->T->Z13
abbrev Z25:=Int->Int->Int->Z6->Int->Z11->Int->Z6->Int->Z11->Z13
abbrev Z26:=T->T->Z4
abbrev Z27:=Option (T)
abbrev Z28:=T->Z27
abbrev Z29:=Z11->Int->Int->Int->Z6->Int->Int->Z6->Int->Z11->Z11->Z27
abbrev Z30:=Option ((Unit) × ((List (T)) × Unit))
abbrev Z31:=Int->Int->Z11->Z30
abbrev Z32:=Option (TL)
abbrev Z33:=T->Z32
abbrev Z34:=(List (TL))->Int->(List (TL))->Int->Int->Z32
abbrev Z35:=(List (TL))->Int->Int->Z11->Z32
abbrev Z36:=Z11->Z11->Z11->Z32
abbrev Z37:=Z11->Z11->Int->Int->Z32
abbrev Z38:=Option ((T) × (Int))
abbrev Z39:=List (Int)
abbrev Z40:=Z39->Int->Int->Int->Z6->Int->Z11->Int->Z6->Int->Int->Z6->Int->Z11->Z11->Z38
abbrev Z41:=TL->Z32
abbrev Z42:=Z11->Int->Int->Z11->Z32
abbrev Z43:=Z11->Z11->Int->Int->Int->Z6->Int->Z11->Z38
abbrev Z44:=T->Z4
abbrev Z45:=Int->Int->Int->Z6->Int->Int->Z6->Int->Z11->Z11->Z27
abbrev Z46:=Option ((Int) × (Bool))
abbrev Z47:=List (T × Int)
abbrev Z48:=Z47->Int->Int->Int->Int->Z6->Int->Z11->Z46
abbrev Z49:=Option ((Unit) × ((List (T × Int)) × Unit))
abbrev Z50:=Option ((Unit) × ((List (T × Int)) × (Bool) × Unit))
abbrev Z51:=Z47->T->Int->Z50
abbrev Z52:=Int->Z11->Int->Int->Z47->Z50
abbrev Z53:=Option ((List (T × Int)) × (Int))
abbrev Z54:=T->Z53
abbrev Z55:=Z47->Z47->Int->Int->Z13
abbrev Z56:=Z47->Z13
abbrev Z57:=Y8->TL->Z27
abbrev Z58:=Z47->Int->Int->Int->Z6->Int->Z11->Z11->Z11->Z38
abbrev Z59:=Z47->Int->Int->Int->Int->Int->Z6->Int->Int->Z6->Int->Z11->Int->Z11->Z11->Z11->Z38
abbrev Z60:=Z47->Z38
abbrev Z61:=Z47->Int->Int->Z47->Z49
abbrev Z62:=Z47->Int->Int->Z13
abbrev Z63:=Z47->Int->Int->Z47->Z53
abbrev Z64:=Z47->Z47->Z53
abbrev Z65:=T->T->Z38
abbrev Z66:=T->Z38
abbrev Z67:=Z11->Int->Int->Int->Z6->Int->Z11->Int->Z6->Int->Int->Z6->Int->Z11->Z11->Z38
abbrev Z68:=Z11->Int->Int->Z4
abbrev Z69:=Option (((T) × Unit) × ((Bool) × Unit))
abbrev Z70:=Option (((T) × Unit) × ((Int) × Unit))
abbrev Z71:=(List (Y8 × (Int × Int)))->Int->Int->Int->Z6->Int->Z11->Z70
abbrev Z72:=Option (List (Y8 × (Int × Int)))
abbrev Z73:=Option ((Unit) × ((List (Int)) × Unit))
abbrev Z74:=Z39->T->Z73
abbrev Z75:=Z11->Int->Int->Z39->Z73
abbrev Z76:=Option ((Y8) × (Int))
abbrev Z77:=Option ((((Int) × (List (Int × (Int × (Y8 × Bool)))) × Unit) × Unit) × ((Int) × (Int) × Unit))
abbrev Z78:=Z6->Int->Int->Int->Int->Z13
abbrev Z79:=Y8->Z13
abbrev Z80:=Option (Y8)
abbrev Z81:=Z3->Int->Int->T->Z77
abbrev Z82:=Option ((((Int) × (List (Int × (Int × (Y8 × Bool)))) × Unit) × Unit) × ((Option Int) × (Int) × Unit))
abbrev Z83:=Option ((((Int) × (List (Int × (Int × (Y8 × Bool)))) × Unit) × Unit) × ((Int) × Unit))
abbrev Z84:=Z3->Int->Int->Int->Z83
abbrev Z85:=Option (((Y8 × (Int × Bool)) × Unit) × ((Int) × Unit))
abbrev Z86:=Y8 × (Int × Bool)
abbrev Z87:=Option (((Y8 × (Int × Bool)) × Unit) × ((Y8) × Unit))
abbrev Z88:=Int->Int->Int->Z6->Int->Bool->Z87
abbrev Z89:=Option (((Y8 × (Int × Bool)) × Unit) × (((Int) × (Y8) × (Int) × (List (T)) × (Int) × Unit) × Unit))
abbrev Z90:=Option ((T) × ((Int) × (Int)))
abbrev Z91:=Y8->Z90
abbrev Z92:=Option ((((Int) × (List (Int × (Int × (Y8 × Bool)))) × Unit) × Unit) × ((T) × (Int) × (Int) × Unit))
abbrev Z93:=Z3->Int->Z92
abbrev Z94:=Int->Int->Int->Z6->Int->Z11->Z13
abbrev Z95:=Int->Int->Z6->Int->Z11->Int->Z6->Int->Z11->Z13
abbrev Z96:=Z3->Int->Z77
abbrev Z97:=T->Int->Z13
abbrev Z98:=List (Int × (Int × (Int × (Int × (T × Int)))))
abbrev Z99:=Z98->Int->Z11->Z4
abbrev qOt:=Z98->Z4
abbrev qPG:=Option ((Unit) × (((Int) × (List (Int × (Int × (Y8 × Bool)))) × Unit) × (Int) × Unit))
abbrev qKb:=Option ((((Int) × (List (Int × (Int × (Y8 × Bool)))) × Unit) × Unit) × ((Y8) × (Int) × Unit))
abbrev qOG:=Z3->Int->qKb
abbrev qOF:=Z6->Int->Z4
abbrev qGY:=Int->Int->Z6->Int->Z11->Z13
abbrev qOz:=Option (List (Y8 × (Int × (Int × Int))))
abbrev qPg:=Z6->Z16->Int->Z13
abbrev qNX:=Z16->Int->Int->Z6->Int->Z11->Z4
abbrev qPw:=Int->Int->Z6->Int->Z11->Z4
abbrev qOH:=Int->Int->Z6->Int->Z11->Z11->Z32
abbrev qOg:=Z11->Bool->Int->Int->Z6->Int->Z11->Z11->Z32
abbrev qHf:=Z11->Z11->Int->Z32
abbrev qOI:=Int->Z11->Int->Z11->Z32
abbrev qrD:=Option ((T) × (Bool))
abbrev qPC:=Z11->Int->Int->Z6->Int->Z11->Z13
abbrev qOf:=Z11->Int->Int->Z6->Int->Z11->Z4
abbrev qOL:=Z11->Int->Int->Z6->Int->Z11->Z11->Z32
abbrev qOl:=Z11->Int->Int->Z6->Int->Z11->Z32
abbrev qOP:=Z11->Z11->Int->Int->Z6->Int->Z11->Z38
abbrev qOm:=Int->Int->Int->Z6->Int->Z11->Z4
abbrev qPx:=Int->Bool->Int->Int->Z6->Int->Z11->Z47->Z47->Z49
abbrev qDZ:=Z47->T->Int->Z49
abbrev qOZ:=Int->Int->Int->Z6->Int->Z11->Z47->Z49
abbrev qHJ:=Z47->Int->Z13
abbrev qn4:=Z47->Int->Z11->Z32
abbrev qn7:=Z47->Int->Int->Z11->Z32
abbrev qNW:=Z47->Int->Z47->Z53
abbrev qOM:=Int->Int->Z6->Int->Z11->Int->Z6->Int->Z11->Z11->Z38
abbrev qN3:=Z11->Int->Z4
abbrev qOv:=Z6->(List (Y8))->Int->Z13
abbrev qGs:=T->Z80
abbrev qPq:=Z6->Int->Int->Z6->Int->Z11->Z80
abbrev qPH:=Z6->Int->Int->Int->Z13
abbrev qPm:=Z3->Int->Z83
abbrev qvi:=Option ((((Int) × (List (Int × (Int × (Y8 × Bool)))) × Unit) × Unit) × ((List (Int)) × Unit))
abbrev qob:=List (Int × (Int × (Y8 × Bool)))
abbrev qPi:=Int->Int->Int->Int->qob->Z39->qvi
abbrev qPF:=Z3->Int->qvi
abbrev qsr:=Option ((T) × ((Int) × (Bool)))
abbrev qGj:=Z6->Int->Int->Int->Int->Z6->Int->Int->Z6->Int->Z11->Z11->qsr
abbrev qCf:=Y8->Int->qsr
abbrev qrk:=Option ((Int) × ((Int) × (Bool)))
abbrev qOX:=Z6->Int->Z6->Z16->Int->qrk
abbrev qPh:=Z39->Z39->Int->Int->Z4
abbrev qNZ:=Int->Int->Int->qob->Z39->qvi
abbrev qNV:=Option ((((Int) × (List (Int × (Int × (Y8 × Bool)))) × Unit) × ((Int) × (List (Int × (Int × (Y8 × Bool)))) × Unit) × Unit) × ((Bool) × Unit))
abbrev qCp:=Option ((Unit) × ((Option ((Int) × (List (Int × (Int × (Y8 × Bool)))) × Unit)) × (Option ((Int) × (List (Int × (Int × (Y8 × Bool)))) × Unit)) × (Bool) × Unit))
abbrev qPs:=Z98->Int->Int->Int->Int->qob->qob->qCp
abbrev qea:=Int->Int->Int->Int->qob->qob->Z4
abbrev qd8:=Int->Int->Int->qob->Z4
abbrev qqg:=Int->Int->Z4
abbrev qpX:=Int->Int->Int->Int->Int->Int->Int->qob->qob->Z39->Z4
abbrev qpM:=Int->Int->Int->Int->Int->Int->qob->Z39->Z4
def qiF(m:Nat)(a:Int):Z1 :=
 cond (ilt a 1) (some ((()),(none,7,()))) (cond (ilt 16 a) (some ((()),(none,7,()))) (some ((()),(some (a,[],()),0,()))))
def qjq:Nat->(Int->Z1):=qi (λ _=>none) λ m _=>qiF m
def qbb(m:Nat)(a:(Int) × (List (Int × (Int × (Y8 × Bool)))) × Unit)(b:Int):Z2 :=
 cond (ile 0 b) (some (((a.1,a.2.1,()),()),(ilt b a.1,()))) (some (((a.1,a.2.1,()),()),(false,())))
def QS:Nat->(Z3->Int->Z2):=qi (λ _ _=>none) λ m _=>qbb m
def qlt(m:Nat)(a:Int):Z4 :=
 let d:Z4:=(let c:Z4:=(let b:Z4:=(cond (ieq a 95) (some true) (some (ieq a 35)));cond (ile 48 a) (cond (ile a 57) (some true) b) b);cond (ile 65 a) (cond (ile a 90) (some true) c) c);
 cond (ile 97 a) (cond (ile a 122) (some true) d) d
def qjC:Nat->Z5:=qi (λ _=>none) λ m _=>qlt m
def qfc(m:Nat)(i:Z7)(a:Y8):Z4 :=
 cond (qy a []) (some false) (cond (ilt 24 a.length) (some false) (qa (qc a 0) λ h=>qa (qjC m ((UInt8.toNat h:Nat):Int)) λ g=>cond (qf g) (some false) (qa (qc a 0) λ f =>
 let b:Z4:=(qa (qc a 0) λ d=>cond (ieq ((UInt8.toNat d:Nat):Int) 95) (some false) (qa (qc a 0) λ c=>cond (ieq ((UInt8.toNat c:Nat):Int) 35) (some false) (i a a.length 0)));
 cond (ile 48 ((UInt8.toNat f:Nat):Int)) (qa (qc a 0) λ e=>cond (ile ((UInt8.toNat e:Nat):Int) 57) (some false) b) b)))
def qfr(m:Nat)(f:Z7)(c:Y8)(b a:Int):Z4 :=
 cond (ilt a b) (qa (qc c a) λ e=>qa (qjC m ((UInt8.toNat e:Nat):Int)) λ d=>cond (qf d) (some false) (f c b (iw .i64 (qd a 1)))) (some true)
def QE(m:Nat):=qJ (λ _ _ _=>none) λ a=>qfr m a
def qdZ:Nat->Z8:=qi (λ _=>none) λ m _=>qfc m (QE m m)
def qgr(m:Nat)(b:Z10)(i:Z12)(a:T)(d f e:Int):Z9 :=
 let g:Z9:=(qa (qdZ m a.name) λ h=>cond (qf h) (some ((iw .i64 (qd f 1),qoe e d,()),(2,()))) (cond (ilt 8 a.kids.length) (some ((iw .i64 (qd f 1),qoe e d,()),(3,())))
 (i d a.kids a.kids.length 0 (iw .i64 (qd f 1)) (qoe e d))));let c:Z9:=(some ((iw .i64 (qd f 1),qoe e d,()),(1,())));let j3:Z9 :=
 (cond (ilt a.sort 0) c (cond (ilt 5 a.sort) c (cond (ilt 0 a.kids.length) c g)));cond (ieq a.kind 1) j3 (cond (ieq a.kind 2) j3 (cond (ieq a.kind 3) (cond (qf (ieq a.sort 0)) c g) c))
def qgq(m:Nat)(a:Z10)(j:Z12)(h:Int)(g:TL)(f c e d:Int):Z9 :=
 cond (ilt c f) (qa (qc g c) λ i=>qa (a (re i) (iw .i64 (qd h 1)) e d) λ b=>cond (qf (ieq b.2.1 0)) (some ((b.1.1,b.1.2.1,()),(b.2.1,())))
 (j h g f (iw .i64 (qd c 1)) b.1.1 b.1.2.1)) (some ((e,d,()),(0,())))
def jK(m:Nat)(a:Z10):=qJ (λ _ _ _ _ _ _=>none) λ b=>qgq m a b
def yf:Nat->Z10:=qi (λ _ _ _ _=>none) λ m a=>qgr m a (jK m a m)
def qj2(m:Nat)(b:T):Z13 :=
 qa (yf m (re b) 1 0 0) λ a=>cond (qf (ieq a.2.1 0)) (some a.2.1) (cond (ilt 400 a.1.1) (some 3) (cond (ilt 40 a.1.2.1) (some 3) (some 0)))
def yG:Nat->Z14:=qi (λ _=>none) λ m _=>qj2 m
def qdk(m:Nat)(c:Z17)(b:Y8):Z15 :=
 qa (qi1 0) λ a=>c b a a.length 0 [] 0 0 0
def qdI(m:Nat)(j:Z17)(e:Y8)(d:List (Y8 × (Int × (Int × Int))))(c b:Int)(i:Y8)(h g f:Int):Z15 :=
 cond (ilt b c) (qa (qc d b) λ a=>cond (qy a.1 e) (some (a.1,(a.2.1,(a.2.2.1,a.2.2.2)))) (j e d c (iw .i64 (qd b 1)) i h g f)) (some ([],(0,(0,0))))
def Je(m:Nat):=qJ (λ _ _ _ _ _ _ _ _=>none) λ a=>qdI m a
def qdP:Nat->(Y8->Z15):=qi (λ _=>none) λ m _=>qdk m (Je m m)
def qeA(m:Nat)(b:Z14)(e:Z18)(d:Z19)(a:T):Z13 :=
 cond (qf (ieq a.kind 3)) (some 0) (qa (qdP m a.name) λ c=>cond (ieq c.2.2.2 0) (some 10) (cond (ilt a.kids.length c.2.1) (some 6) (cond (ilt c.2.2.1 a.kids.length) (some 6)
 (cond (qy a.name [115,107]) (e a.kids a.kids.length 0 a.kind a.name a.sort a.kids) (cond (qy a.name [115,104,107]) (e a.kids a.kids.length 0 a.kind a.name a.sort a.kids)
 (cond (qy a.name [110,101,119]) (qa (qc a.kids 0) λ f=>cond (qf (ieq f.kind 2)) (some 10) (d a.kids a.kids.length 0)) (d a.kids a.kids.length 0)))))))
def qex(m:Nat)(a:Z14)(k:Z18)(j:Z19)(e:TL)(d c i:Int)(h:Y8)(g:Int)(b:TL):Z13 :=
 cond (ilt c d) (qa (qc e c) λ f=>cond (ieq f.kind 3) (some 10) (cond (qf (ieq f.sort 1)) (some 10) (k e d (iw .i64 (qd c 1)) i h g b))) (j b b.length 0)
def qeC(m:Nat)(a:Z14)(h:Z18)(g:Z19)(d:TL)(c b:Int):Z13 :=
 cond (ilt b c) (qa (qc d b) λ f=>qa (a (re f)) λ e=>cond (qf (ieq e 0)) (some e) (g d c (iw .i64 (qd b 1)))) (some 0)
def qV(m:Nat)(a:Z14):=qJ ((λ _ _ _ _ _ _ _=>none,λ _ _ _=>none)) λ b=>(qex m a b.1 b.2,qeC m a b.1 b.2)
def qE:Nat->Z14:=qi (λ _=>none) λ m a=>qeA m a (qV m a m).1 (qV m a m).2
def qhE(m:Nat)(b:T):Z13 :=
 qa (yG m (re b)) λ a=>cond (qf (ieq a 0)) (some a) (qa (qE m (re b)) λ c=>some c)
def qeU:Nat->Z14:=qi (λ _=>none) λ m _=>qhE m
def qbI(m:Nat)(c:T)(b:Int)(a:TL):Z20 :=
 cond (ieq c.kind b) (cond (zp (List.length a+1) 56) (qa (qc (a++[T.mk 0 [] 0 []]) a.length) λ d=>some ((b,yn (a++[T.mk 0 [] 0 []]) a.length (re c),()),(()))) none)
 (some ((b,a,()),(())))
def qaJ:Nat->Z21:=qi (λ _ _ _=>none) λ m _=>qbI m
def qbw(m:Nat)(a:Z21)(f:Z22)(d:T)(c:Int)(b:TL):Z20 :=
 qa (qaJ m (re d) c b) λ e=>f d.kids d.kids.length 0 e.1.1 e.1.2.1
def qby(m:Nat)(a:Z21)(i:Z22)(f:TL)(e b d:Int)(c:TL):Z20 :=
 cond (ilt b e) (qa (qc f b) λ h=>qa (a (re h) d c) λ g=>i f e (iw .i64 (qd b 1)) g.1.1 g.1.2.1) (some ((d,c,()),(())))
def Qb(m:Nat)(a:Z21):=qJ (λ _ _ _ _ _=>none) λ b=>qby m a b
def zJ:Nat->Z21:=qi (λ _ _ _=>none) λ m a=>qbw m a (Qb m a m)
def ql4(m:Nat)(b a:Int):Z13 :=
 cond (ilt b a) (some (-1)) (cond (ilt a b) (some 1) (some 0))
def qeY:Nat->(Int->Int->Z13):=qi (λ _ _=>none) λ m _=>ql4 m
def qhU(m:Nat)(a:Z14)(c:Z23)(b:T):Z13 :=
 c 1 b.kids b.kids.length 0
def qig(m:Nat)(a:Z14)(h:Z23)(e:Int)(d:TL)(c b:Int):Z13 :=
 cond (ilt b c) (qa (qc d b) λ g=>qa (a (re g)) λ f=>h (iw .i64 (qd e f)) d c (iw .i64 (qd b 1))) (some e)
def qcl(m:Nat)(a:Z14):=qJ (λ _ _ _ _=>none) λ b=>qig m a b
def Ql:Nat->Z14:=qi (λ _=>none) λ m a=>qhU m a (qcl m a m)
def qet(m:Nat)(c:Z24)(e:Z25)(b a:T):Z13 :=
 qa (Ql m (re b)) λ n=>qa (Ql m (re a)) λ l=>qa (qeY m n l) λ d=>let j1:Z13:=(qa (qeY m b.kids.length a.kids.length) λ k =>
 e k 0 b.kind b.name b.sort b.kids a.kind a.name a.sort a.kids);let h:Z13:=(qa (qeY m b.sort a.sort) λ i =>
 cond (ieq i 0) j1 (e i 0 b.kind b.name b.sort b.kids a.kind a.name a.sort a.kids));let j:Z13:=(qa (strings_Compare 0 b.name a.name) λ g =>
 cond (ieq g 0) h (cond (ieq g 0) j1 (e g 0 b.kind b.name b.sort b.kids a.kind a.name a.sort a.kids)));cond (ieq d 0) (qa (qeY m b.kind a.kind) λ f =>
 cond (ieq f 0) j (cond (ieq f 0) h (cond (ieq f 0) j1 (e f 0 b.kind b.name b.sort b.kids a.kind a.name a.sort a.kids))))
 (cond (ieq d 0) j (cond (ieq d 0) h (cond (ieq d 0) j1 (e d 0 b.kind b.name b.sort b.kids a.kind a.name a.sort a.kids))))
def qbW(m:Nat)(a:Z24)(p:Z25)(d b k:Int)(j:Y8)(i:Int)(c:TL)(h:Int)(g:Y8)(f:Int)(e:TL):Z13 :=
 cond (ieq d 0) (cond (ilt b c.length) (qa (qc c b) λ o=>qa (qc e b) λ n=>qa (a (re o) (re n)) λ l=>p l (iw .i64 (qd b 1)) k j i c h g f e) (some d))
 (some d)
def Qe(m:Nat)(a:Z24):=qJ (λ _ _ _ _ _ _ _ _ _ _=>none) λ b=>qbW m a b
def qB:Nat->Z24:=qi (λ _ _=>none) λ m a=>qet m a (Qe m a m)
def zb:Nat->TL->Option (TL):=qi (λ _=>none) λ m _=>qs5 (qB m)
def qfW(m:Nat)(c b:T):Z4 :=
 qa (qB m (re c) (re b)) λ a=>some (ieq a 0)
def jd:Nat->Z26:=qi (λ _ _=>none) λ m _=>qfW m
def qI:Nat->TL->Option (Unit × TL × Unit):=qi (λ _=>none) λ m _=>qv7 (jd m)
def qgy(m:Nat)(a:Z28)(c:Z29)(b:T):Z27 :=
 c b.kids b.kids.length 0 b.kind b.name b.sort 0 [] 0 [] []
def qgl(m:Nat)(a:Z28)(p:Z29)(i:TL)(h c g:Int)(f:Y8)(e l:Int)(k:Y8)(j:Int)(b d:TL):Z27 :=
 cond (ilt c h) (qa (qc i c) λ o=>qa (a (re o)) λ n=>cond (zp (List.length b+1) 56) (p i h (iw .i64 (qd c 1)) g f e l k j (b++[re n]) d) none)
 (some (T.mk g f e b))
def qbd(m:Nat)(a:Z28):=qJ (λ _ _ _ _ _ _ _ _ _ _ _=>none) λ b=>qgl m a b
def jz:Nat->Z28:=qi (λ _=>none) λ m a=>qgy m a (qbd m a m)
def qeD(m:Nat)(d:Z31)(c:TL):Z30 :=
 qa (zb m c) λ b=>cond (Nat.beq b.length c.length) (qa (qI m b) λ a=>d a.2.1.length 0 a.2.1) none
def qev(m:Nat)(f:Z31)(c a:Int)(b:TL):Z30 :=
 cond (ilt a c) (qa (qc b a) λ e=>qa (jz m (re e)) λ d=>qa (qc b a) λ g=>f c (iw .i64 (qd a 1)) (yn b a (re d))) (some ((()),(b,())))
def JZ(m:Nat):=qJ (λ _ _ _=>none) λ a=>qev m a
def qh5:Nat->(Z11->Z30):=qi (λ _=>none) λ m _=>qeD m (JZ m m)
def qiT(m:Nat)(d:T)(c:Int):Z32 :=
 qa (zJ m (re d) c []) λ b=>qa (qh5 m b.1.2.1) λ a=>some a.2.1
def qnZ:Nat->(T->Int->Z32):=qi (λ _ _=>none) λ m _=>qiT m
def qlW(m:Nat)(b:T):Z32 :=
 qa (qnZ m (re b) 1) λ a=>some a
def qnP:Nat->Z33:=qi (λ _=>none) λ m _=>qlW m
def qiC(m:Nat)(c b:T):Z4 :=
 qa (qB m (re c) (re b)) λ a=>some (ieq a 0)
def J4:Nat->Z26:=qi (λ _ _=>none) λ m _=>qiC m
def ql8(m:Nat)(a:T)(b:Y8):Z4 :=
 cond (ieq a.kind 3) (some (qy a.name b)) (some false)
def ju:Nat->(T->Y8->Z4):=qi (λ _ _=>none) λ m _=>ql8 m
def qfY(m:Nat)(b:T):Z27 :=
 qa (qc b.kids 0) λ a=>let j1:Z27:=(some (re b));let j2:Z27:=(qa (qc a.kids 0) λ I=>some (re I));let j3:Z27:=(cond (qy b.name [114,101,97,100])
 (qa (ju m (re a) [115,105,103,110]) λ p=>cond p j2 j1) j1);let j4:Z27:=(qa (ju m (re a) [112,97,105,114]) λ G=>cond G (qa (qc a.kids 1) λ F=>some (re F)) j1);
 let B:Z27:=(qa (ju m (re a) [112,97,105,114]) λ J=>cond J j2 j1);cond (ilt 1 b.kids.length) (qa (qc b.kids 1) λ c =>
 cond (qy b.name [102,115,116]) B (cond (qy b.name [115,110,100]) j4 (cond (qy b.name [100,101,99]) (qa (ju m (re a) [101,110,99]) λ E=>cond E (qa (qc a.kids 1) λ D =>
 qa (J4 m (re D) (re c)) λ C=>cond C j2 j1) j1) (cond (qy b.name [97,100,101,99]) (qa (ju m (re a) [97,101,110,99]) λ A=>cond A (qa (qc a.kids 1) λ z =>
 qa (ju m (re z) [112,107]) λ y=>cond y (qa (qc a.kids 1) λ x=>qa (qc x.kids 0) λ w=>qa (J4 m (re w) (re c)) λ v=>cond v j2 j1) j1) j1)
 (cond (qy b.name [111,112,101,110]) (qa (ju m (re a) [115,105,103,110]) λ u=>cond u (qa (ju m (re c) [112,107]) λ t=>cond t (qa (qc a.kids 1) λ s =>
 qa (qc c.kids 0) λ r=>qa (J4 m (re s) (re r)) λ q=>cond q j2 j1) j1) j1) j3)))))
 (cond (qy b.name [102,115,116]) B (cond (qy b.name [115,110,100]) j4 (cond (qy b.name [100,101,99]) (qa (ju m (re a) [101,110,99]) λ o=>cond o (qa (qc a.kids 1) λ n =>
 qa (J4 m (re n) (T.mk 0 [] 0 [])) λ l=>cond l j2 j1) j1) (cond (qy b.name [97,100,101,99]) (qa (ju m (re a) [97,101,110,99]) λ k =>
 cond k (qa (qc a.kids 1) λ j=>qa (ju m (re j) [112,107]) λ i=>cond i (qa (qc a.kids 1) λ h=>qa (qc h.kids 0) λ g=>qa (J4 m (re g)
 (T.mk 0 [] 0 [])) λ f=>cond f j2 j1) j1) j1) (cond (qy b.name [111,112,101,110]) (qa (ju m (re a) [115,105,103,110]) λ e =>
 cond e (qa (ju m (T.mk 0 [] 0 []) [112,107]) λ d=>cond d (qa (qc a.kids 1) λ H=>none) j1) j1) j3)))))
def qc9:Nat->Z28:=qi (λ _=>none) λ m _=>qfY m
def yZ(m:Nat)(b:Z34)(c:Z35)(a:List TL):Z32 :=
 b a 0 a a.length 0
def yY(m:Nat)(i:Z34)(h:Z35)(c:List (TL))(b:Int)(e:List (TL))(d a:Int):Z32 :=
 cond (ilt a d) (qa (qc e a) λ f=>cond (ilt (iw .i64 (qd b f.length)) 0) none (i c (iw .i64 (qd b f.length)) e d (iw .i64 (qd a 1)))) (qa (yS 0 b) λ g =>
 h c c.length 0 g.2.1)
def ja(m:Nat)(g:Z34)(f:Z35)(d:List (TL))(c b:Int)(a:TL):Z32 :=
 cond (ilt b c) (qa (qc d b) λ e=>cond (zp (List.length a+List.length e) 56) (f d c (iw .i64 (qd b 1)) (a++e)) none) (some a)
def qp(m:Nat):=qJ ((λ _ _ _ _ _=>none,λ _ _ _ _=>none)) λ a=>(yY m a.1 a.2,ja m a.1 a.2)
def zP:Nat->((List TL)->Z32):=qi (λ _=>none) λ m _=>yZ m (qp m m).1 (qp m m).2
def qh3(m:Nat)(d:Z19)(b c:TL):Z13 :=
 cond (ilt 200 b.length) (some 3) (qa (zP m [b,c]) λ a=>d a a.length 0)
def qhC(m:Nat)(f:Z19)(c:TL)(b a:Int):Z13 :=
 cond (ilt a b) (qa (qc c a) λ e=>qa (yG m (re e)) λ d=>cond (qf (ieq d 0)) (some d) (f c b (iw .i64 (qd a 1)))) (some 0)
def qcf(m:Nat):=qJ (λ _ _ _=>none) λ a=>qhC m a
def qnb:Nat->(TL->TL->Z13):=qi (λ _ _=>none) λ m _=>qh3 m (qcf m m)
def qjf(m:Nat)(c:Z36)(b a:TL):Z32 :=
 c b a []
def qjt(m:Nat)(d:Z36)(a b c:TL):Z32 :=
 let f:Z32:=(cond (zp (List.length c+List.length a) 56) (cond (zp (List.length (c++a)+List.length b) 56) (some ((c++a)++b)) none) none);cond (ilt 0 a.length) (cond (ilt 0 b.length)
 (qa (qc a 0) λ j=>qa (qc b 0) λ i=>qa (qB m (re j) (re i)) λ e=>cond (ilt e 0) (qa (qc a 0) λ h=>cond (zp (List.length c+1) 56) (cond (inb a.length a.length)
 (cond (inb 1 (Int.toNat a.length)) (d (QM a 1 a.length) b (c++[re h])) none) none) none) (cond (ilt 0 e) (qa (qc b 0) λ g=>cond (zp (List.length c+1) 56) (cond (inb b.length b.length)
 (cond (inb 1 (Int.toNat b.length)) (d a (QM b 1 b.length) (c++[re g])) none) none) none) (cond (inb a.length a.length) (cond (inb 1 (Int.toNat a.length)) (cond (inb b.length b.length)
 (cond (inb 1 (Int.toNat b.length)) (d (QM a 1 a.length) (QM b 1 b.length) c) none) none) none) none))) f) f
def qdg(m:Nat):=qJ (λ _ _ _=>none) λ a=>qjt m a
def ql2:Nat->(TL->TL->Z32):=qi (λ _ _=>none) λ m _=>qjf m (qdg m m)
def qeq(m:Nat)(a:Z33)(d:Z37)(b:T):Z32 :=
 let c:Z32:=(cond (ieq b.kind 3) (cond (qy b.name [120,111,114]) (d [] b.kids b.kids.length 0) (some [re b])) (some [re b]));cond (ieq b.kind 3) (cond (qy b.name [122,101,114,111])
 (cond (ieq b.kids.length 0) (some []) c) c) c
def qew(m:Nat)(a:Z33)(i:Z37)(e d:TL)(c b:Int):Z32 :=
 cond (ilt b c) (qa (qc d b) λ h=>qa (a (re h)) λ g=>qa (ql2 m e g) λ f=>i f d c (iw .i64 (qd b 1))) (some e)
def QR(m:Nat)(a:Z33):=qJ (λ _ _ _ _=>none) λ b=>qew m a b
def yE:Nat->Z33:=qi (λ _=>none) λ m a=>qeq m a (QR m a m)
def qer(m:Nat)(e:Z40)(d:T)(c:List Int)(b:T):Z38 :=
 qa (jz m (re d)) λ a=>e c c.length 0 b.kind b.name b.sort b.kids 0 [] 0 a.kind a.name a.sort a.kids []
def qht(m:Nat)(t:Z40)(n:List (Int))(l c g:Int)(f:Y8)(e:Int)(d:TL)(r:Int)(q:Y8)(p k:Int)(j:Y8)(i:Int)(a h:TL):Z38 :=
 cond (ilt c l) (qa (qc n c) λ b=>cond (ilt b 0) (some (T.mk 0 [] 0 [],7)) (cond (ile a.length b) (some (T.mk 0 [] 0 [],7)) (qa (qc a b) λ s=>none)))
 (qa (jz m (T.mk g f e d)) λ o=>some (re o,0))
def qa0(m:Nat):=qJ (λ _ _ _ _ _ _ _ _ _ _ _ _ _ _ _=>none) λ a=>qht m a
def qhK:Nat->(T->(List Int)->T->Z38):=qi (λ _ _ _=>none) λ m _=>qer m (qa0 m m)
def qkR(m:Nat)(a:Z41)(c:Z42)(b:TL):Z32 :=
 cond (qHg b.length 56) (c b b.length 0 (List.replicate (Int.toNat b.length) (T.mk 0 [] 0 []):TL)) none
def qkN(m:Nat)(b:Z41)(k:Z42)(h:TL)(g a:Int)(d:TL):Z32 :=
 cond (ilt a g) (qa (qc h a) λ f=>qa (qhK m (re f) [] (re f)) λ e=>qa (qc d a) λ l=>qa (b f.kids) λ j=>qa (qc (yn d a (re e.1)) a) λ c =>
 cond (ieq f.kids.length 0) (qa (qc (yn (yn d a (re e.1)) a (T.mk c.kind c.name c.sort j)) a) λ i=>k h g (iw .i64 (qd a 1))
 (yn (yn (yn d a (re e.1)) a (T.mk c.kind c.name c.sort j)) a (T.mk i.kind i.name i.sort []))) (k h g (iw .i64 (qd a 1)) (yn (yn d a (re e.1)) a (T.mk c.kind c.name c.sort j))))
 (some d)
def qe5(m:Nat)(a:Z41):=qJ (λ _ _ _ _=>none) λ b=>qkN m a b
def qam:Nat->Z41:=qi (λ _=>none) λ m a=>qkR m a (qe5 m a m)
def qk4(m:Nat)(c:Z43)(a:TL):Z38 :=
 qa (qnb m a []) λ b=>cond (qf (ieq b 0)) (some (T.mk 0 [] 0 [],b)) (c [] a a.length 0 0 [] 0 [])
def qkP(m:Nat)(r:Z43)(e d:TL)(c b j:Int)(i:Y8)(h:Int)(g:TL):Z38 :=
 cond (ilt b c) (qa (qc d b) λ q=>qa (yE m (re q)) λ p=>qa (ql2 m e p) λ o=>r o d c (iw .i64 (qd b 1)) j i h g) (qa (qam m e) λ a=>let j1:Z38 :=
 (some (T.mk 0 [] 0 [],3));cond (ieq a.length 0) (qa (yG m (T.mk 3 [122,101,114,111] 0 [])) λ n=>cond (qf (ieq n 0)) j1 (some (T.mk 3 [122,101,114,111] 0 [],0))) (cond (ieq a.length 1)
 (qa (qc a 0) λ f=>qa (yG m (re f)) λ l=>cond (qf (ieq l 0)) j1 (some (re f,0))) (qa (yG m (T.mk 3 [120,111,114] 0 a)) λ k =>
 cond (qf (ieq k 0)) j1 (some (T.mk 3 [120,111,114] 0 a,0)))))
def qeI(m:Nat):=qJ (λ _ _ _ _ _ _ _ _=>none) λ a=>qkP m a
def qs0:Nat->(TL->Z38):=qi (λ _=>none) λ m _=>qk4 m (qeI m m)
def qeH(m:Nat)(a:T):Z4 :=
 cond (ieq a.kind 3) (cond (qy a.name [109,117,108]) (some true) (cond (qy a.name [105,110,118]) (some true) (some (qy a.name [111,110,101])))) (some false)
def qcb:Nat->Z44:=qi (λ _=>none) λ m _=>qeH m
def qcE(m:Nat)(a:Z28)(d:Z45)(b:T):Z27 :=
 qa (z8 0 b.kids) λ c=>d c.2.1.length 0 b.kind b.name b.sort 0 [] 0 c.2.1 []
def qcO(m:Nat)(a:Z28)(o:Z45)(g b f:Int)(e:Y8)(d k:Int)(j:Y8)(i:Int)(c h:TL):Z27 :=
 cond (ilt b g) (qa (qc c b) λ n=>qa (a (re n)) λ l=>qa (qc c b) λ p=>o g (iw .i64 (qd b 1)) f e d k j i (yn c b (re l)) h) (some (T.mk f e d c))
def QJ(m:Nat)(a:Z28):=qJ (λ _ _ _ _ _ _ _ _ _ _=>none) λ b=>qcO m a b
def zw:Nat->Z28:=qi (λ _=>none) λ m a=>qcE m a (QJ m a m)
def qdA(m:Nat)(c:T × Int)(b:T):Z13 :=
 qa (qB m (re c.1) (re b)) λ a=>some a
def qaE:Nat->((T × Int)->T->Z13):=qi (λ _ _=>none) λ m _=>qdA m
def qF(m:Nat)(c:Z48)(b:List (T × Int))(a:T):Z46 :=
 c b b.length 0 b.length a.kind a.name a.sort a.kids
def qG(m:Nat)(k:Z48)(g:List (T × Int))(h a b f:Int)(e:Y8)(d:Int)(c:TL):Z46 :=
 cond (ilt a b) (qa (qc g (iw .i64 (qbG .u64 (iw .u64 (iw .i64 (qd a b))) 1))) λ j=>qa (qaE m (re j.1,j.2) (T.mk f e d c)) λ n=>cond (ilt n 0)
 (k g h (iw .i64 (qd (iw .i64 (qbG .u64 (iw .u64 (iw .i64 (qd a b))) 1)) 1)) b f e d c) (k g h a (iw .i64 (qbG .u64 (iw .u64 (iw .i64 (qd a b))) 1)) f e d c)) (cond (ilt a h)
 (qa (qc g a) λ i=>qa (qaE m (re i.1,i.2) (T.mk f e d c)) λ l=>some (a,ieq l 0)) (some (a,false)))
def qt(m:Nat):=qJ (λ _ _ _ _ _ _ _ _=>none) λ a=>qG m a
def qK:Nat->(Z47->T->Z46):=qi (λ _ _=>none) λ m _=>qF m (qt m m)
def qeM(m:Nat)(b:List (T × Int))(c:T × Int):Z49 :=
 qa (qK m b (re c.1)) λ a=>cond (qf a.2) (qa (zw m (re c.1)) λ i =>
 qa (zy 0 b a.1 [(re i,c.2)]) λ h=>some ((()),(h.2.1,()))) (qa (qc b a.1) λ e=>qa (qc b a.1) λ d =>
 qa (qc (yn b a.1 (re d.1,iw .i64 (qd e.2 c.2))) a.1) λ g=>cond (ieq g.2 0)
 (qa (zC 0 (yn b a.1 (re d.1,iw .i64 (qd e.2 c.2))) a.1 (iw .i64 (qd a.1 1))) λ f=>some ((()),(f.2.1,())))
 (some ((()),(yn b a.1 (re d.1,iw .i64 (qd e.2 c.2)),()))))
def qbX:Nat->(Z47->(T × Int)->Z49):=qi (λ _ _=>none) λ m _=>qeM m
def qbv(m:Nat)(a:Z51)(h:Z52)(e:List (T × Int))(b:T)(d:Int):Z50 :=
 qa (qcb m (re b)) λ j=>cond (qf j) (qa (qbX m e (re b,d)) λ i=>some ((()),(i.2.1,true,()))) (let c:Z50:=(some ((()),([],false,())));let j2:Z50 :=
 (let g:Z50:=(let f:Z50:=(cond (qy b.name [105,110,118]) (h (iw .i64 (zh 0 d)) b.kids b.kids.length 0 e) (h d b.kids b.kids.length 0 e));cond (qy b.name [109,117,108])
 (cond (ilt b.kids.length 2) c f) f);cond (qy b.name [105,110,118]) (cond (qf (ieq b.kids.length 1)) c g) g);cond (qy b.name [111,110,101]) (cond (qf (ieq b.kids.length 0)) c j2) j2)
def qbx(m:Nat)(a:Z51)(i:Z52)(f:Int)(e:TL)(d b:Int)(c:List (T × Int)):Z50 :=
 cond (ilt b d) (qa (qc e b) λ h=>qa (a c (re h) f) λ g=>cond (qf g.2.2.1) (some ((()),([],false,()))) (i f e d (iw .i64 (qd b 1)) g.2.1))
 (some ((()),(c,true,())))
def jr(m:Nat)(a:Z51):=qJ (λ _ _ _ _ _=>none) λ b=>qbx m a b
def zr:Nat->Z51:=qi (λ _ _ _=>none) λ m a=>qbv m a (jr m a m)
def qi8(m:Nat)(c:T):Z53 :=
 qa (yG m (re c)) λ b=>cond (qf (ieq b 0)) (some ([],b)) (qa (zr m [] (re c) 1) λ a=>cond (qf a.2.2.1) (some ([],6)) (cond (ilt 200 a.2.1.length) (some ([],3))
 (some (a.2.1,0))))
def qcd:Nat->Z54:=qi (λ _=>none) λ m _=>qi8 m
def qcB(m:Nat)(b:Z55)(a:List (T × Int)):Z13 :=
 cond (ilt 200 a.length) (some 3) (b a a a.length 0)
def qcM(m:Nat)(g:Z55)(e d:List (T × Int))(c a:Int):Z13 :=
 cond (ilt a c) (qa (qc d a) λ b=>qa (yG m (re b.1)) λ f=>cond (qf (ieq f 0)) (some f) (qa (qcb m (re b.1)) λ j=>cond j (some 1) (cond (ieq b.2 0) (some 7)
 (cond (ilt b.2 (-1000)) (some 7) (cond (ilt 1000 b.2) (some 7) (cond (ilt 0 a) (qa (qc e (iw .i64 (zh a 1))) λ i=>qa (qB m (re i.1) (re b.1)) λ h=>cond (ile 0 h) (some 5)
 (g e d c (iw .i64 (qd a 1)))) (g e d c (iw .i64 (qd a 1))))))))) (some 0)
def j7(m:Nat):=qJ (λ _ _ _ _=>none) λ a=>qcM m a
def qaZ:Nat->Z56:=qi (λ _=>none) λ m _=>qcB m (j7 m m)
def qwn(m:Nat)(b:Y8)(a:TL):Z27 :=
 some (T.mk 3 b 0 a)
def qeO:Nat->Z57:=qi (λ _ _=>none) λ m _=>qwn m
def qdp(m:Nat)(c:Z58)(e d:Z59)(a:List (T × Int)):Z38 :=
 qa (qaZ m a) λ b=>cond (qf (ieq b 0)) (some (T.mk 0 [] 0 [],b)) (c a a.length 0 0 [] 0 [] [] [])
def qdG(m:Nat)(v:Z58)(t u:Z59)(h:List (T × Int))(g c s:Int)(r:Y8)(q:Int)(p f e:TL):Z38 :=
 let d:Z38:=(some (T.mk 0 [] 0 [],3));cond (ilt c g) (qa (qc h c) λ a =>
 cond (ilt 8 a.2) d (cond (ilt a.2 (-8)) d (t h g c a.2 0 s r q a.1.kind a.1.name a.1.sort a.1.kids a.2 p f e))) (qa (zP m [f,e]) λ b =>
 cond (ilt 8 b.length) d (qa (qeO m [109,117,108] b) λ o=>cond (ieq b.length 0) (qa (qeO m [111,110,101] []) λ n=>qa (yG m (re n)) λ l=>cond (qf (ieq l 0))
 (some (T.mk 0 [] 0 [],l)) (some (re n,0))) (cond (ieq b.length 1) (qa (qc b 0) λ k=>qa (yG m (re k)) λ j=>cond (qf (ieq j 0)) (some (T.mk 0 [] 0 [],j)) (some (re k,0)))
 (qa (yG m (re o)) λ i=>cond (qf (ieq i 0)) (some (T.mk 0 [] 0 [],i)) (some (re o,0))))))
def qdh(m:Nat)(u:Z58)(t s:Z59)(q:List (T × Int))(p o n l k:Int)(j:Y8)(i h:Int)(g:Y8)(d:Int)(c:TL)(b:Int)(f a e:TL):Z38 :=
 cond (ilt l n) (qa (zw m (T.mk h g d c)) λ r=>cond (zp (List.length a+1) 56) (t q p o n (iw .i64 (qd l 1)) k j i h g d c b f (a++[re r]) e) none)
 (s q p o (iw .i64 (zh 0 b)) 0 k j i h g d c b f a e)
def qdo(m:Nat)(u:Z58)(v t:Z59)(q:List (T × Int))(p o n l k:Int)(j:Y8)(i h:Int)(g:Y8)(e:Int)(d:TL)(f:Int)(c b a:TL):Z38 :=
 cond (ilt l n) (qa (zw m (T.mk h g e d)) λ s=>qa (qeO m [105,110,118] [re s]) λ r=>cond (zp (List.length a+1) 56)
 (t q p o n (iw .i64 (qd l 1)) k j i h g e d f c b (a++[re r])) none) (u q p (iw .i64 (qd o 1)) k j i c b a)
def qA(m:Nat):=qJ ((λ _ _ _ _ _ _ _ _ _=>none,λ _ _ _ _ _ _ _ _ _ _ _ _ _ _ _ _=>none,λ _ _ _ _ _ _ _ _ _ _ _ _ _ _ _ _=>none)) λ a=>(qdG m a.1 a.2.1 a.2.2,qdh m a.1 a.2.1 a.2.2,qdo m a.1 a.2.1 a.2.2)
def Js:Nat->Z60:=qi (λ _=>none) λ m _=>qdp m (qA m m).1 (qA m m).2.1 (qA m m).2.2
def qca(m:Nat)(b:Z61)(a:List (T × Int)):Z49 :=
 b a a.length 0 []
def qbV(m:Nat)(g:Z61)(d:List (T × Int))(c b:Int)(a:List (T × Int)):Z49 :=
 cond (ilt b c) (qa (qc d b) λ e=>qa (zw m (re e.1)) λ f=>cond (zp (List.length a+1) 64) (g d c (iw .i64 (qd b 1)) (a++[(re f,e.2)])) none) (some ((()),(a,())))
def Qk(m:Nat):=qJ (λ _ _ _ _=>none) λ a=>qbV m a
def qec:Nat->(Z47->Z49):=qi (λ _=>none) λ m _=>qca m (Qk m m)
def qdL(m:Nat)(a:T × Int):Z4 :=
 cond (ilt a.2 (-1000)) (some true) (some (ilt 1000 a.2))
def qcF:Nat->((T × Int)->Z4):=qi (λ _=>none) λ m _=>qdL m
def zG(m:Nat)(b:Z62)(a:List (T × Int)):Z13 :=
 b a a.length 0
def q9(m:Nat)(f:Z62)(c:List (T × Int))(b a:Int):Z13 :=
 cond (ilt a b) (qa (qc c a) λ d=>qa (qcF m (re d.1,d.2)) λ e=>cond e (some a) (f c b (iw .i64 (qd a 1)))) (some (-1))
def qC(m:Nat):=qJ (λ _ _ _=>none) λ a=>q9 m a
def zV:Nat->Z56:=qi (λ _=>none) λ m _=>zG m (qC m m)
def yi(m:Nat)(b:List (T × Int)):Z4 :=
 qa (zV m b) λ a=>some (ile 0 a)
def zD:Nat->(Z47->Z4):=qi (λ _=>none) λ m _=>yi m
def qeS(m:Nat)(a:List (T × Int)):Z53 :=
 qa (zD m a) λ b=>cond b (some ([],7)) (cond (ilt 200 a.length) (some ([],3)) (some (a,0)))
def qed:Nat->(Z47->Z53):=qi (λ _=>none) λ m _=>qeS m
def qel(m:Nat)(f:Z63)(d a:List (T × Int)):Z53 :=
 qa (qaZ m d) λ c=>cond (qf (ieq c 0)) (some ([],c)) (qa (qaZ m a) λ b=>cond (qf (ieq b 0)) (some ([],b)) (qa (qec m d) λ e =>
 f a a.length 0 e.2.1))
def qeB(m:Nat)(h:Z63)(d:List (T × Int))(c a:Int)(b:List (T × Int)):Z53 :=
 cond (ilt a c) (qa (qc d a) λ f=>qa (qbX m b (re f.1,f.2)) λ g=>h d c (iw .i64 (qd a 1)) g.2.1) (qa (qed m b) λ e=>some (e.1,e.2))
def JU(m:Nat):=qJ (λ _ _ _ _=>none) λ a=>qeB m a
def qhw:Nat->Z64:=qi (λ _ _=>none) λ m _=>qel m (JU m m)
def qAl(m:Nat)(b:Y8)(a:TL):Z27 :=
 some (T.mk 3 b 0 a)
def qhF:Nat->Z57:=qi (λ _ _=>none) λ m _=>qAl m
def qhD(m:Nat)(b l:T):Z38 :=
 qa (qcd m (re l)) λ a=>cond (qf (ieq a.2 0)) (some (T.mk 0 [] 0 [],a.2)) (qa (ju m (re b) [101,120,112]) λ k=>cond k (qa (qc b.kids 1) λ j =>
 qa (qcd m (re j)) λ f=>cond (qf (ieq f.2 0)) (some (T.mk 0 [] 0 [],f.2)) (qa (qhw m f.1 a.1) λ c=>cond (qf (ieq c.2 0)) (some (T.mk 0 [] 0 [],c.2))
 (qa (qc b.kids 0) λ h=>cond (ieq c.1.length 0) (some (re h,0)) (qa (Js m c.1) λ e=>cond (qf (ieq e.2 0)) (some (T.mk 0 [] 0 [],e.2))
 (qa (qhF m [101,120,112] [re h,re e.1]) λ i=>some (re i,0)))))) (cond (ieq a.1.length 0) (some (re b,0)) (qa (Js m a.1) λ d=>cond (qf (ieq d.2 0))
 (some (T.mk 0 [] 0 [],d.2)) (qa (qhF m [101,120,112] [re b,re d.1]) λ g=>some (re g,0)))))
def qhs:Nat->Z65:=qi (λ _ _=>none) λ m _=>qhD m
def qdu(m:Nat)(a:Z66)(c:Z67)(b:T):Z38 :=
 cond (qf (ieq b.kind 3)) (some (re b,0)) (c b.kids b.kids.length 0 b.kind b.name b.sort b.kids 0 [] 0 3 b.name 0 [] [])
def qdn(m:Nat)(a:Z66)(C:Z67)(s:TL)(r k z:Int)(c:Y8)(y:Int)(x:TL)(w:Int)(v:Y8)(u f:Int)(e:Y8)(d:Int)(l b:TL):Z38 :=
 cond (ilt k r) (qa (qc s k) λ B=>qa (a (re B)) λ n=>cond (qf (ieq n.2 0)) (some (T.mk 0 [] 0 [],n.2)) (cond (zp (List.length b+1) 56)
 (C s r (iw .i64 (qd k 1)) z c y x w v u f e d l (b++[re n.1])) none)) (let h:Z38:=(qa (qc9 m (T.mk f e d b)) λ A=>some (re A,0));
 cond (qy c [102,115,116]) h (cond (qy c [115,110,100]) h (cond (qy c [100,101,99]) h (cond (qy c [97,100,101,99]) h (cond (qy c [111,112,101,110]) h (cond (qy c [114,101,97,100]) h (cond (qy c [120,111,114])
 (qa (qs0 m b) λ t=>some (re t.1,t.2)) (let q:Z38:=(qa (qcd m (T.mk f e d b)) λ g=>cond (qf (ieq g.2 0)) (some (T.mk 0 [] 0 [],g.2))
 (qa (Js m g.1) λ j=>some (re j.1,j.2)));cond (qy c [109,117,108]) q (cond (qy c [105,110,118]) q (cond (qy c [111,110,101]) q (cond (qy c [101,120,112])
 (qa (qc b 0) λ p=>qa (qc b 1) λ o=>qa (qhs m (re p) (re o)) λ i=>some (re i.1,i.2)) (some (T.mk f e d b,0)))))))))))))
def Jl(m:Nat)(a:Z66):=qJ (λ _ _ _ _ _ _ _ _ _ _ _ _ _ _ _=>none) λ b=>qdn m a b
def yC:Nat->Z66:=qi (λ _=>none) λ m a=>qdu m a (Jl m a m)
def qgU(m:Nat)(d:T):Z38 :=
 qa (qeU m (re d)) λ c=>cond (qf (ieq c 0)) (some (T.mk 0 [] 0 [],c)) (qa (yC m (re d)) λ a=>cond (ieq a.2 0) (qa (yG m (re a.1)) λ b=>cond (qf (ieq b 0))
 (some (T.mk 0 [] 0 [],b)) (some (re a.1,0))) (cond (qf (ieq a.2 0)) (some (T.mk 0 [] 0 [],a.2)) (some (re a.1,0))))
def qgh:Nat->Z66:=qi (λ _=>none) λ m _=>qgU m
def qfU(m:Nat)(b:Y8):Z4 :=
 qa (qdP m b) λ a=>some (qf (ieq a.2.2.2 3))
def qfd:Nat->Z8:=qi (λ _=>none) λ m _=>qfU m
def qaq(m:Nat)(a:Z44)(c:Z68)(b:T):Z4 :=
 cond (ieq b.kind 3) (qa (qfd m b.name) λ d=>cond (qf d) (some false) (c b.kids b.kids.length 0)) (c b.kids b.kids.length 0)
def qao(m:Nat)(a:Z44)(g:Z68)(d:TL)(c b:Int):Z4 :=
 cond (ilt b c) (qa (qc d b) λ f=>qa (a (re f)) λ e=>cond (qf e) (some false) (g d c (iw .i64 (qd b 1)))) (some true)
def yH(m:Nat)(a:Z44):=qJ (λ _ _ _=>none) λ b=>qao m a b
def zc:Nat->Z44:=qi (λ _=>none) λ m a=>qaq m a (yH m a m)
def qho(m:Nat)(a:T):Z4 :=
 qa (qgh m (re a)) λ b=>cond (ieq b.2 0) (qa (J4 m (re b.1) (re a)) λ d=>cond d (qa (zc m (re a)) λ c=>some c) (some false)) (some false)
def qeR:Nat->Z44:=qi (λ _=>none) λ m _=>qho m
def qa4(m:Nat)(b:Y8 × (Int × Int))(a:T):Z69 :=
 some ((re a,()),(qy b.1 a.name,()))
def qcZ:Nat->((Y8 × (Int × Int))->T->Z69):=qi (λ _ _=>none) λ m _=>qa4 m
def qP(m:Nat)(c:Z71)(b:List (Y8 × (Int × Int)))(a:T):Z70 :=
 c b b.length 0 a.kind a.name a.sort a.kids
def qO(m:Nat)(j:Z71)(i:List (Y8 × (Int × Int)))(h b g:Int)(f:Y8)(e:Int)(d:TL):Z70 :=
 cond (ilt b h) (qa (qc i b) λ c=>qa (qcZ m (c.1,(c.2.1,c.2.2)) (T.mk g f e d)) λ a=>cond a.2.1 (some ((re a.1.1,()),(b,())))
 (j i h (iw .i64 (qd b 1)) a.1.1.kind a.1.1.name a.1.1.sort a.1.1.kids)) (some ((T.mk g f e d,()),((-1),())))
def qv(m:Nat):=qJ (λ _ _ _ _ _ _ _=>none) λ a=>qO m a
def za:Nat->((List (Y8 × (Int × Int)))->T->Z70):=qi (λ _ _=>none) λ m _=>qP m (qv m m)
def qd5(m:Nat):Z72 :=
 some [([112,97,105,114],(2,2)),([101,110,99],(2,2)),([97,101,110,99],(2,2)),([112,107],(1,1)),([115,105,103,110],(2,2)),([104,97,115,104],(1,1)),([120,111,114],(2,8)),([122,101,114,111],(0,0)),([101,120,112],(2,2)),([109,117,108],(2,8)),([105,110,118],(1,1)),([111,110,101],(0,0)),([115,107],(1,1)),([115,104,107],(2,2)),([110,101,119],(1,8))]
def ym:Nat->(Z72):=qi (none) λ m _=>qd5 m
def QD(m:Nat)(a:Y8 × (Int × Int)):Z4 :=
 some (qf (ieq a.2.1 a.2.2))
def yx:Nat->((Y8 × (Int × Int))->Z4):=qi (λ _=>none) λ m _=>QD m
def qcL(m:Nat)(a:Z74)(f:Z75)(d:List (Int))(c:T):Z73 :=
 cond (qf (ieq c.kind 3)) (cond (zp (List.length d+2) 1) (cond (zp (List.length (d++[iw .u8 c.sort,iw .u8 c.name.length])+List.length (Qw c.name)) 1)
 (some ((()),((d++[iw .u8 c.sort,iw .u8 c.name.length])++(Qw c.name),()))) none) none) (qa (ym m) λ i =>
 qa (za m i (re c)) λ b=>cond (zp (List.length d+1) 1) (qa (ym m) λ h=>qa (qc h b.2.1) λ e =>
 qa (yx m (e.1,(e.2.1,e.2.2))) λ g=>cond g (cond (zp (List.length (d++[iw .u8 (iw .i64 (qd 16 b.2.1))])+1) 1)
 (f b.1.1.kids b.1.1.kids.length 0 ((d++[iw .u8 (iw .i64 (qd 16 b.2.1))])++[iw .u8 b.1.1.kids.length])) none) (f b.1.1.kids b.1.1.kids.length 0 (d++[iw .u8 (iw .i64 (qd 16 b.2.1))]))) none)
def qcz(m:Nat)(a:Z74)(h:Z75)(e:TL)(d b:Int)(c:List (Int)):Z73 :=
 cond (ilt b d) (qa (qc e b) λ g=>qa (a c (re g)) λ f=>h e d (iw .i64 (qd b 1)) f.2.1) (some ((()),(c,())))
def jY(m:Nat)(a:Z74):=qJ (λ _ _ _ _=>none) λ b=>qcz m a b
def zW:Nat->Z74:=qi (λ _ _=>none) λ m a=>qcL m a (jY m a m)
def qeZ(m:Nat)(a:T):Z76 :=
 qa (qeU m (re a)) λ b=>cond (qf (ieq b 0)) (some ([],b)) (qa (qnP m (re a)) λ e=>cond (ilt 0 e.length) (some ([],13)) (qa (qeR m (re a)) λ d=>cond (qf d)
 (some ([],10)) (qa (zW m [] (re a)) λ c=>some (zK c.2.1,0))))
def qeh:Nat->(T->Z76):=qi (λ _=>none) λ m _=>qeZ m
def qce(m:Nat)(b:(Int) × (List (Int × (Int × (Y8 × Bool)))) × Unit)(a:Int × (Int × (Y8 × Bool))):Z77 :=
 cond (ile 400 b.2.1.length) (some (((b.1,b.2.1,()),()),(0,3,()))) (cond (zp (List.length b.2.1+1) 40)
 (some (((b.1,b.2.1++[(a.1,(a.2.1,(a.2.2.1,a.2.2.2)))],()),()),(iw .i64 (zh (List.length (b.2.1++[(a.1,(a.2.1,(a.2.2.1,a.2.2.2)))])) 1),0,()))) none)
def JK:Nat->(Z3->(Int × (Int × (Y8 × Bool)))->Z77):=qi (λ _ _=>none) λ m _=>qce m
def qge(m:Nat)(b:Z78)(a:Y8):Z13 :=
 b a 1 0 a.length 0
def qgA(m:Nat)(g:Z78)(e:Y8)(b d c a:Int):Z13 :=
 cond (ilt a c) (qa (qc e a) λ f=>g e (jq (iw .u32 (qd b (iw .u32 ((UInt8.toNat f:Nat):Int)))) 65521)
 (jq (iw .u32 (qd d (jq (iw .u32 (qd b (iw .u32 ((UInt8.toNat f:Nat):Int)))) 65521))) 65521) c (iw .i64 (qd a 1))) (some (qmv .or .u32 (qyh .u32 d 16) b))
def qbf(m:Nat):=qJ (λ _ _ _ _ _=>none) λ a=>qgA m a
def qk2:Nat->Z79:=qi (λ _=>none) λ m _=>qge m (qbf m m)
def qmj(m:Nat)(b:Y8):Z80 :=
 qa (qk2 m b) λ a=>cond (qgB (zK [iw .u8 (qbG .u32 a 24),iw .u8 (qbG .u32 a 16),iw .u8 (qbG .u32 a 8),iw .u8 a]) b)
 (some ((zK [iw .u8 (qbG .u32 a 24),iw .u8 (qbG .u32 a 16),iw .u8 (qbG .u32 a 8),iw .u8 a])++b)) none
def qjQ:Nat->(Y8->Z80):=qi (λ _=>none) λ m _=>qmj m
def qbH(m:Nat)(g:(Int) × (List (Int × (Int × (Y8 × Bool)))) × Unit)(f e:Int)(i:T):Z77 :=
 qa (QS m (g.1,g.2.1,()) f) λ b=>cond (qf b.2.1) (some (((b.1.1.1,b.1.1.2.1,()),()),(0,7,()))) (qa (QS m (b.1.1.1,b.1.1.2.1,()) e) λ a =>
 cond (qf a.2.1) (some (((a.1.1.1,a.1.1.2.1,()),()),(0,7,()))) (cond (ile 400 a.1.1.2.1.length) (some (((a.1.1.1,a.1.1.2.1,()),()),(0,3,()))) (qa (qeh m (re i)) λ d =>
 cond (qf (ieq d.2 0)) (some (((a.1.1.1,a.1.1.2.1,()),()),(0,d.2,()))) (qa (qjQ m d.1) λ h=>qa (JK m (a.1.1.1,a.1.1.2.1,()) (f,(e,(h,true)))) λ c =>
 some (((c.1.1.1,c.1.1.2.1,()),()),(c.2.1,c.2.2.1,()))))))
def Jj:Nat->Z81:=qi (λ _ _ _ _=>none) λ m _=>qbH m
def qau(m:Nat)(a:(Int) × (List (Int × (Int × (Y8 × Bool)))) × Unit)(b:Int):Z82 :=
 cond (ilt b 0) (some (((a.1,a.2.1,()),()),(none,4,()))) (cond (ile a.2.1.length b) (some (((a.1,a.2.1,()),()),(none,4,()))) (qa (qc a.2.1 b) λ c=>cond (qf c.2.2.2)
 (some (((a.1,a.2.1,()),()),(none,9,()))) (qa (qc a.2.1 b) λ d=>some (((a.1,a.2.1,()),()),(some b,0,())))))
def jw:Nat->(Z3->Int->Z82):=qi (λ _ _=>none) λ m _=>qau m
def qbi(m:Nat)(e:(Int) × (List (Int × (Int × (Y8 × Bool)))) × Unit)(g c f:Int):Z83 :=
 qa (jw m (e.1,e.2.1,()) g) λ a=>let j1:Z83:=(some (((a.1.1.1,a.1.1.2.1,()),()),(7,())));qhx a.2.1 (cond (qf (ieq a.2.2.1 0))
 (some (((a.1.1.1,a.1.1.2.1,()),()),(a.2.2.1,()))) (cond (ilt c 0) j1 none)) λ d=>qa (qc a.1.1.2.1 d) λ b=>cond (qf (ieq a.2.2.1 0)) (some (((a.1.1.1,a.1.1.2.1,()),()),(a.2.2.1,())))
 (cond (ilt c 0) j1 (cond (ile b.2.2.1.length c) j1 (qa (qc (Qw b.2.2.1) c) λ h =>
 some (((a.1.1.1,yn a.1.1.2.1 d (b.1,(b.2.1,(zK (yn (Qw b.2.2.1) c f),b.2.2.2))),()),()),(0,())))))
def QY:Nat->Z84:=qi (λ _ _ _ _=>none) λ m _=>qbi m
def ql3(m:Nat)(a:Y8):Z76 :=
 cond (ilt a.length 4) (some ([],2)) (cond (inb a.length a.length) (cond (inb 4 (Int.toNat a.length)) (qa (qjQ m (QM a 4 a.length)) λ b=>cond (qf (qy b a)) (some ([],19))
 (cond (inb a.length a.length) (cond (inb 4 (Int.toNat a.length)) (some (QM a 4 a.length,0)) none) none)) none) none)
def qm5:Nat->(Y8->Z76):=qi (λ _=>none) λ m _=>ql3 m
def qbB(m:Nat)(a:Y8 × (Int × Bool))(c g:Int):Z85 :=
 let b:Z85:=(some (((a.1,(a.2.1,true)),()),(c,())));cond a.2.2 b (cond (ile a.1.length a.2.1) b (qa (qc a.1 a.2.1) λ f =>
 cond (ilt (iw .i64 ((UInt8.toNat f:Nat):Int)) c) b (qa (qc a.1 a.2.1) λ e =>
 cond (ilt g (iw .i64 ((UInt8.toNat e:Nat):Int))) b (qa (qc a.1 (iw .i64 (zh (iw .i64 (qd a.2.1 1)) 1))) λ d =>
 some (((a.1,(iw .i64 (qd a.2.1 1),a.2.2)),()),(iw .i64 ((UInt8.toNat d:Nat):Int),()))))))
def zg:Nat->(Z86->Int->Int->Z85):=qi (λ _ _ _=>none) λ m _=>qbB m
def JJ(m:Nat)(c:Z88)(b:Y8 × (Int × Bool)):Z87 :=
 qa (zg m (b.1,(b.2.1,b.2.2)) 1 24) λ a=>c a.1.1.2.1 a.2.1 0 a.1.1.1 a.1.1.2.1 a.1.1.2.2
def Qh(m:Nat)(l:Z88)(g h f:Int)(c:Y8)(a:Int)(e:Bool):Z87 :=
 cond (ilt f h) (let d:Z87:=(some (((c,(a,true)),()),([],())));cond e d (cond (ile c.length a) d (qa (qc c a) λ b=>let j2:Z87 :=
 (l g h (iw .i64 (qd f 1)) c (iw .i64 (qd a 1)) e);let k:Z87:=(let j:Z87:=(cond (ieq f 0) d (let i:Z87:=(cond (qf (ieq ((UInt8.toNat b:Nat):Int) 95))
 (cond (qf (ieq ((UInt8.toNat b:Nat):Int) 35)) d j2) j2);cond (ilt ((UInt8.toNat b:Nat):Int) 48) i (cond (ilt 57 ((UInt8.toNat b:Nat):Int)) i j2)));cond (ile 65 ((UInt8.toNat b:Nat):Int))
 (cond (qf (ile ((UInt8.toNat b:Nat):Int) 90)) j j2) j);cond (ile 97 ((UInt8.toNat b:Nat):Int)) (cond (ile ((UInt8.toNat b:Nat):Int) 122) j2 k) k))) (cond (inb a c.length)
 (cond (inb g (Int.toNat a)) (some (((c,(a,e)),()),(QM c g a,()))) none) none)
def yg(m:Nat):=qJ (λ _ _ _ _ _ _=>none) λ a=>Qh m a
def Jb:Nat->(Z86->Z87):=qi (λ _=>none) λ m _=>JJ m (yg m m)
def Qi(m:Nat)(a:Y8 × (Int × Bool)):Z89 :=
 let g:Z89:=(qa (ym m) λ j=>qa (ym m) λ i=>qa (zg m (a.1,(a.2.1,a.2.2)) 16 (iw .i64 (zh (iw .i64 (qd 16 i.length)) 1))) λ c =>
 qa (qc j (iw .i64 (zh c.2.1 16))) λ b=>qa (yx m (b.1,(b.2.1,b.2.2))) λ h =>
 cond h (qa (zg m (c.1.1.1,(c.1.1.2.1,c.1.1.2.2)) b.2.1 b.2.2) λ d=>some (((d.1.1.1,(d.1.1.2.1,d.1.1.2.2)),()),((3,b.1,0,[],d.2.1,()),())))
 (some (((c.1.1.1,(c.1.1.2.1,c.1.1.2.2)),()),((3,b.1,0,[],b.2.1,()),()))));cond (ilt a.2.1 a.1.length) (qa (qc a.1 a.2.1) λ k=>cond (ile ((UInt8.toNat k:Nat):Int) 5)
 (qa (zg m (a.1,(a.2.1,a.2.2)) 0 5) λ f=>qa (Jb m (f.1.1.1,(f.1.1.2.1,f.1.1.2.2))) λ e =>
 some (((e.1.1.1,(e.1.1.2.1,e.1.1.2.2)),()),((2,e.2.1,f.2.1,[],0,()),()))) g) g
def qx:Nat->(Z86->Z89):=qi (λ _=>none) λ m _=>Qi m
def jy:Nat->Val RD->Option ((Val RD × Unit) × (T × Unit)):=qi (λ _=>none) λ m _=>qp7 (qx m) m
def qeJ(m:Nat)(b:Y8):Z90 :=
 qa (jy m (b,(0,false))) λ a=>cond a.1.1.2.2 (some (T.mk 0 [] 0 [],a.1.1.2.1,2)) (cond (qf (ieq a.1.1.2.1 b.length)) (some (T.mk 0 [] 0 [],a.1.1.2.1,2))
 (qa (yG m (re a.2.1)) λ d=>cond (ieq d 3) (some (T.mk 0 [] 0 [],0,3)) (qa (qeR m (re a.2.1)) λ c=>cond (qf c) (some (T.mk 0 [] 0 [],0,10)) (some (re a.2.1,0,0)))))
def qek:Nat->Z91:=qi (λ _=>none) λ m _=>qeJ m
def qaB(m:Nat)(f:(Int) × (List (Int × (Int × (Y8 × Bool)))) × Unit)(k:Int):Z92 :=
 qa (jw m (f.1,f.2.1,()) k) λ b=>qhx b.2.1 (cond (qf (ieq b.2.2.1 0)) (some (((b.1.1.1,b.1.1.2.1,()),()),(T.mk 0 [] 0 [],0,b.2.2.1,()))) none) λ c =>
 qa (qc b.1.1.2.1 c) λ a=>cond (qf (ieq b.2.2.1 0)) (some (((b.1.1.1,b.1.1.2.1,()),()),(T.mk 0 [] 0 [],0,b.2.2.1,())))
 (qa (qc (yn b.1.1.2.1 c (a.1,(a.2.1,(a.2.2.1,false)))) c) λ j=>qa (qm5 m j.2.2.1) λ e=>cond (qf (ieq e.2 0))
 (qa (qc (yn b.1.1.2.1 c (a.1,(a.2.1,(a.2.2.1,false)))) c) λ i=>some (((b.1.1.1,yn b.1.1.2.1 c (a.1,(a.2.1,(a.2.2.1,false))),()),()),(T.mk 0 [] 0 [],i.2.1,e.2,())))
 (qa (qek m e.1) λ d=>cond (qf (ieq d.2.2 0)) (qa (qc (yn b.1.1.2.1 c (a.1,(a.2.1,(a.2.2.1,false)))) c) λ h =>
 some (((b.1.1.1,yn b.1.1.2.1 c (a.1,(a.2.1,(a.2.2.1,false))),()),()),(T.mk 0 [] 0 [],h.2.1,d.2.2,()))) (qa (qc (yn b.1.1.2.1 c (a.1,(a.2.1,(a.2.2.1,false)))) c) λ g =>
 some (((b.1.1.1,yn b.1.1.2.1 c (a.1,(a.2.1,(a.2.2.1,false))),()),()),(re d.1,g.2.1,0,())))))
def jv:Nat->Z93:=qi (λ _ _=>none) λ m _=>qaB m
def qhT(m:Nat)(b a:Int):Z13 :=
 cond (ilt b a) (some (-1)) (cond (ilt a b) (some 1) (some 0))
def qa8:Nat->(Int->Int->Z13):=qi (λ _ _=>none) λ m _=>qhT m
def qgt(m:Nat)(a:Z14)(c:Z94)(b:T):Z13 :=
 c 1 0 b.kind b.name b.sort b.kids
def qgC(m:Nat)(a:Z14)(j:Z94)(d c g:Int)(f:Y8)(e:Int)(b:TL):Z13 :=
 cond (ilt c b.length) (qa (qc b c) λ i=>qa (a (re i)) λ h=>j (iw .i64 (qd d h)) (iw .i64 (qd c 1)) g f e b) (some d)
def qa9(m:Nat)(a:Z14):=qJ (λ _ _ _ _ _ _=>none) λ b=>qgC m a b
def yV:Nat->Z14:=qi (λ _=>none) λ m a=>qgt m a (qa9 m a m)
def qdD(m:Nat)(a:Z24)(j:Z95)(c b:T):Z13 :=
 qa (yV m (re c)) λ i=>qa (yV m (re b)) λ h=>qa (qa8 m i h) λ g=>cond (qf (ieq g 0)) (some g) (qa (qa8 m c.kind b.kind) λ f =>
 cond (qf (ieq f 0)) (some f) (cond (slt c.name b.name) (some (-1)) (cond (qf (qr6 (slt c.name b.name) (qy c.name b.name))) (some 1) (qa (qa8 m c.sort b.sort) λ e=>cond (qf (ieq e 0))
 (some e) (qa (qa8 m c.kids.length b.kids.length) λ d=>cond (qf (ieq d 0)) (some d) (j 0 c.kind c.name c.sort c.kids b.kind b.name b.sort b.kids))))))
def qdj(m:Nat)(a:Z24)(o:Z95)(b k:Int)(j:Y8)(i:Int)(c:TL)(h:Int)(g:Y8)(f:Int)(d:TL):Z13 :=
 cond (ilt b c.length) (qa (qc c b) λ n=>qa (qc d b) λ l=>qa (a (re n) (re l)) λ e=>cond (qf (ieq e 0)) (some e) (o (iw .i64 (qd b 1)) k j i c h g f d))
 (some 0)
def Jg(m:Nat)(a:Z24):=qJ (λ _ _ _ _ _ _ _ _ _=>none) λ b=>qdj m a b
def zM:Nat->Z24:=qi (λ _ _=>none) λ m a=>qdD m a (Jg m a m)
def qkb(m:Nat)(c b:T):Z4 :=
 qa (zM m (re c) (re b)) λ a=>some (ieq a 0)
def Ji:Nat->Z26:=qi (λ _ _=>none) λ m _=>qkb m
def qaP(m:Nat)(a:(Int) × (List (Int × (Int × (Y8 × Bool)))) × Unit)(d:Int):Z77 :=
 cond (ilt d 0) (some (((a.1,a.2.1,()),()),(0,4,()))) (cond (ile a.2.1.length d) (some (((a.1,a.2.1,()),()),(0,4,()))) (qa (qc a.2.1 d) λ c=>qa (JK m (a.1,a.2.1,())
 (c.1,(c.2.1,(c.2.2.1,true)))) λ b=>some (((b.1.1.1,b.1.1.2.1,()),()),(b.2.1,b.2.2.1,()))))
def Qt:Nat->Z96:=qi (λ _ _=>none) λ m _=>qaP m
def qAq(m:Nat)(b:Y8)(a:Int):Z27 :=
 some (T.mk 2 b a [])
def qvN:Nat->(Y8->Int->Z27):=qi (λ _ _=>none) λ m _=>qAq m
def qyX(m:Nat)(b:Y8):Z27 :=
 qa (qvN m b 1) λ a=>some (re a)
def qtN:Nat->(Y8->Z27):=qi (λ _=>none) λ m _=>qyX m
def qx3(m:Nat):Z4 :=
 qa (qjq m 2) λ f=>let j1:Z4:=(some false);qhx f.2.1 (cond (qf (ieq f.2.2.1 0)) j1 j1) λ h=>cond (qf (ieq f.2.2.1 0)) j1 (qa (qtN m [97]) λ g =>
 qa (Jj m (h.1,h.2.1,()) 0 1 (re g)) λ c=>qa (Qt m (c.1.1.1,c.1.1.2.1,()) 0) λ b=>qa (QY m (b.1.1.1,b.1.1.2.1,()) 0 5 0) λ e =>
 qa (jv m (e.1.1.1,e.1.1.2.1,()) 0) λ a=>qa (jv m (a.1.1.1,a.1.1.2.1,()) 1) λ d=>cond (ieq c.2.2.1 0) (cond (ieq b.2.2.1 0) (cond (ieq e.2.1 0)
 (cond (ieq c.2.1 0) (cond (ieq b.2.1 1) (cond (ieq a.2.2.1 1) (cond (ieq a.2.2.2.1 19) (cond (ieq d.2.2.1 1) (cond (ieq d.2.2.2.1 0) (qa (Ji m (re d.2.1) (re g)) λ i =>
 some i) j1) j1) j1) j1) j1) j1) j1) j1) j1)
def qf9:Nat->(Z4):=qi (none) λ m _=>qx3 m
def qey(m:Nat)(a:Z97)(d:Z94)(b:T)(c:Int):Z13 :=
 cond (ile c 0) (some (-1)) (cond (ilt 40 b.name.length) (some (-1)) (d (iw .i64 (zh c 1)) 0 b.kind b.name b.sort b.kids))
def qee(m:Nat)(a:Z97)(j:Z94)(d c h:Int)(g:Y8)(f:Int)(b:TL):Z13 :=
 cond (ilt c b.length) (qa (qc b c) λ i=>qa (a (re i) d) λ e=>cond (ilt e 0) (some (-1)) (j e (iw .i64 (qd c 1)) h g f b)) (some d)
def J0(m:Nat)(a:Z97):=qJ (λ _ _ _ _ _ _=>none) λ b=>qee m a b
def jc:Nat->Z97:=qi (λ _ _=>none) λ m a=>qey m a (J0 m a m)
def qhN(m:Nat)(d:Z68)(a:TL)(c b:Int):Z4 :=
 cond (ilt c a.length) (some false) (d a b 0)
def qhu(m:Nat)(f:Z68)(b:TL)(d a:Int):Z4 :=
 cond (ilt a b.length) (qa (qc b a) λ e=>qa (jc m (re e) d) λ c=>cond (ilt c 0) (some false) (f b c (iw .i64 (qd a 1)))) (some true)
def qct(m:Nat):=qJ (λ _ _ _=>none) λ a=>qhu m a
def qni:Nat->(TL->Int->Int->Z4):=qi (λ _ _ _=>none) λ m _=>qhN m (qct m m)
def qid(m:Nat)(b:Z99)(a:List (Int × (Int × (Int × (Int × (T × Int)))))):Z4 :=
 b a 0 []
def qh7(m:Nat)(f:Z99)(c:List (Int × (Int × (Int × (Int × (T × Int))))))(b:Int)(a:TL):Z4 :=
 cond (ilt b c.length) (qa (qc c b) λ e=>cond (zp (List.length a+1) 56) (f c (iw .i64 (qd b 1)) (a++[re e.2.2.2.2.1])) none) (qa (qni m a 60 2000) λ d=>some d)
def qch(m:Nat):=qJ (λ _ _ _=>none) λ a=>qh7 m a
def qna:Nat->qOt:=qi (λ _=>none) λ m _=>qid m (qch m m)
def qlI(m:Nat)(a:Int):qPG :=
 cond (ilt a 1) (some ((()),((0,[],()),7,()))) (cond (ilt 16 a) (some ((()),((0,[],()),7,()))) (some ((()),((a,[],()),0,()))))
def qns:Nat->(Int->qPG):=qi (λ _=>none) λ m _=>qlI m
def qbc(m:Nat)(a:(Int) × (List (Int × (Int × (Y8 × Bool)))) × Unit)(b:Int):qKb :=
 cond (ilt b 0) (some (((a.1,a.2.1,()),()),([],4,()))) (cond (ile a.2.1.length b) (some (((a.1,a.2.1,()),()),([],4,()))) (qa (qc a.2.1 b) λ c =>
 some (((a.1,a.2.1,()),()),(c.2.2.1,0,()))))
def qak:Nat->qOG:=qi (λ _ _=>none) λ m _=>qbc m
def qfs(m:Nat)(a:Z14)(c:Z94)(b:T):Z13 :=
 c 0 0 b.kind b.name b.sort b.kids
def qfz(m:Nat)(a:Z14)(j:Z94)(d c g:Int)(f:Y8)(e:Int)(b:TL):Z13 :=
 cond (ilt c b.length) (qa (qc b c) λ i=>qa (a (re i)) λ h=>j (qoe d h) (iw .i64 (qd c 1)) g f e b) (some (iw .i64 (qd d 1)))
def qav(m:Nat)(a:Z14):=qJ (λ _ _ _ _ _ _=>none) λ b=>qfz m a b
def jh:Nat->Z14:=qi (λ _=>none) λ m a=>qfs m a (qav m a m)
def qhB(m:Nat)(a:Int):Z4 :=
 let b:Z4:=(cond (ile 65 a) (some (ile a 90)) (some false));cond (ile 97 a) (cond (ile a 122) (some true) b) b
def qfa:Nat->Z5:=qi (λ _=>none) λ m _=>qhB m
def qiN(m:Nat)(a:Int):Z4 :=
 cond (ile 48 a) (some (ile a 57)) (some false)
def qjo:Nat->Z5:=qi (λ _=>none) λ m _=>qiN m
def qeu(m:Nat)(d:qOF)(a:Y8):Z4 :=
 cond (ieq a.length 0) (some false) (cond (ilt 24 a.length) (some false) (qa (qc a 0) λ c=>qa (qfa m ((UInt8.toNat c:Nat):Int)) λ b=>cond (qf b) (some false) (d a 0)))
def qen(m:Nat)(i:qOF)(b:Y8)(a:Int):Z4 :=
 cond (ilt a b.length) (qa (qc b a) λ h=>qa (qfa m ((UInt8.toNat h:Nat):Int)) λ g=>let j1:Z4:=(i b (iw .i64 (qd a 1)));cond (qf g) (qa (qc b a) λ f =>
 qa (qjo m ((UInt8.toNat f:Nat):Int)) λ e=>cond (qf e) (qa (qc b a) λ d=>cond (qf (ieq ((UInt8.toNat d:Nat):Int) 95)) (qa (qc b a) λ c =>
 cond (qf (ieq ((UInt8.toNat c:Nat):Int) 35)) (some false) j1) j1) j1) j1) (some true)
def JR(m:Nat):=qJ (λ _ _=>none) λ a=>qen m a
def qag:Nat->Z8:=qi (λ _=>none) λ m _=>qeu m (JR m m)
def qjX(m:Nat)(a:T):Z13 :=
 let d:Z13:=(qa (qag m a.name) λ e=>cond (qf e) (some 2) (cond (ilt 8 a.kids.length) (some 3) (some 0)));let j2:Z13:=(cond (ilt 0 a.kids.length) (some 1) d);cond (ieq a.kind 1)
 (cond (ilt a.sort 0) (some 1) (cond (ilt 5 a.sort) (some 1) j2)) (let c:Z13:=(cond (ilt a.sort 0) (some 1) (cond (ilt 5 a.sort) (some 1) (let b:Z13:=(cond (ieq a.kind 2) j2 d);
 cond (qf (ieq a.kind 2)) (cond (qf (ieq a.sort 0)) (some 1) b) b)));cond (qf (ieq a.kind 2)) (cond (qf (ieq a.kind 3)) (some 1) c) c)
def qkG:Nat->Z14:=qi (λ _=>none) λ m _=>qjX m
def qfe(m:Nat)(a:Z14)(d:qGY)(b:T):Z13 :=
 qa (qkG m (re b)) λ c=>cond (qf (ieq c 0)) (some c) (d 0 b.kind b.name b.sort b.kids)
def qfg(m:Nat)(a:Z14)(i:qGY)(c g:Int)(f:Y8)(e:Int)(b:TL):Z13 :=
 cond (ilt c b.length) (qa (qc b c) λ h=>qa (a (re h)) λ d=>cond (qf (ieq d 0)) (some d) (i (iw .i64 (qd c 1)) g f e b)) (some 0)
def qax(m:Nat)(a:Z14):=qJ (λ _ _ _ _ _=>none) λ b=>qfg m a b
def jN:Nat->Z14:=qi (λ _=>none) λ m a=>qfe m a (qax m a m)
def qiV(m:Nat)(a:T):Z13 :=
 qa (jN m (re a)) λ b=>cond (qf (ieq b 0)) (some b) (qa (yV m (re a)) λ d=>cond (ilt 400 d) (some 3) (qa (jh m (re a)) λ c=>cond (ilt 40 c) (some 3) (some 0)))
def jo:Nat->Z14:=qi (λ _=>none) λ m _=>qiV m
def quL(m:Nat):qOz :=
 some [([112,97,105,114],(2,(2,1))),([101,110,99],(2,(2,1))),([97,101,110,99],(2,(2,1))),([112,107],(1,(1,1))),([115,105,103,110],(2,(2,1))),([104,97,115,104],(1,(1,1))),([120,111,114],(2,(8,1))),([122,101,114,111],(0,(0,1))),([101,120,112],(2,(2,1))),([109,117,108],(2,(8,1))),([105,110,118],(1,(1,1))),([111,110,101],(0,(0,1))),([115,107],(1,(1,2))),([115,104,107],(2,(2,2))),([110,101,119],(1,(8,2))),([102,115,116],(1,(1,3))),([115,110,100],(1,(1,3))),([100,101,99],(2,(2,3))),([97,100,101,99],(2,(2,3))),([111,112,101,110],(2,(2,3))),([114,101,97,100],(1,(1,3)))]
def qgv:Nat->(qOz):=qi (none) λ m _=>quL m
def qgg(m:Nat)(c:qPg)(b:Y8):Z13 :=
 qa (qgv m) λ a=>c b a 0
def qgk(m:Nat)(f:qPg)(c:Y8)(b:List (Y8 × (Int × (Int × Int))))(a:Int):Z13 :=
 cond (ilt a b.length) (qa (qc b a) λ e=>cond (qy e.1 c) (qa (qc b a) λ d=>some d.2.2.2) (f c b (iw .i64 (qd a 1)))) (some 0)
def qbp(m:Nat):=qJ (λ _ _ _=>none) λ a=>qgk m a
def qff:Nat->Z79:=qi (λ _=>none) λ m _=>qgg m (qbp m m)
def qgD(m:Nat)(c:qNX)(a:T):Z4 :=
 qa (qgv m) λ b=>c b 0 a.kind a.name a.sort a.kids
def qgn(m:Nat)(j:qNX)(b:List (Y8 × (Int × (Int × Int))))(a f:Int)(d:Y8)(e:Int)(c:TL):Z4 :=
 cond (ilt a b.length) (qa (qc b a) λ i=>cond (qy i.1 d) (qa (qc b a) λ h=>cond (ile h.2.1 c.length) (qa (qc b a) λ g=>some (ile c.length g.2.2.1)) (some false))
 (j b (iw .i64 (qd a 1)) f d e c)) (some false)
def qbk(m:Nat):=qJ (λ _ _ _ _ _ _=>none) λ a=>qgn m a
def qkY:Nat->Z44:=qi (λ _=>none) λ m _=>qgD m (qbk m m)
def qes(m:Nat)(c:qPw)(a:T):Z4 :=
 cond (qy a.name [110,101,119]) (qa (qc a.kids 0) λ b=>some (ieq b.kind 2)) (c 0 a.kind a.name a.sort a.kids)
def qei(m:Nat)(h:qPw)(b e:Int)(d:Y8)(c:Int)(a:TL):Z4 :=
 cond (ilt b a.length) (qa (qc a b) λ g=>cond (ieq g.kind 3) (some false) (qa (qc a b) λ f=>cond (qf (ieq f.sort 1)) (some false) (h (iw .i64 (qd b 1)) e d c a))) (some true)
def JS(m:Nat):=qJ (λ _ _ _ _ _=>none) λ a=>qei m a
def qhn:Nat->Z44:=qi (λ _=>none) λ m _=>qes m (JS m m)
def qfK(m:Nat)(b:Z14)(d:qGY)(a:T):Z13 :=
 cond (qf (ieq a.kind 3)) (some 0) (qa (qff m a.name) λ c=>cond (ieq c 0) (some 10) (qa (qkY m (re a)) λ f=>cond (qf f) (some 6) (cond (ieq c 2)
 (qa (qhn m (re a)) λ e=>cond (qf e) (some 10) (d 0 a.kind a.name a.sort a.kids)) (d 0 a.kind a.name a.sort a.kids))))
def qfB(m:Nat)(a:Z14)(i:qGY)(c g:Int)(f:Y8)(e:Int)(b:TL):Z13 :=
 cond (ilt c b.length) (qa (qc b c) λ h=>qa (a (re h)) λ d=>cond (qf (ieq d 0)) (some d) (i (iw .i64 (qd c 1)) g f e b)) (some 0)
def Jw(m:Nat)(a:Z14):=qJ (λ _ _ _ _ _=>none) λ b=>qfB m a b
def jl:Nat->Z14:=qi (λ _=>none) λ m a=>qfK m a (Jw m a m)
def qiY(m:Nat)(b:T):Z13 :=
 qa (jo m (re b)) λ a=>cond (qf (ieq a 0)) (some a) (qa (jl m (re b)) λ c=>some c)
def qdY:Nat->Z14:=qi (λ _=>none) λ m _=>qiY m
def qis(m:Nat)(a:Z33)(c:qOH)(b:T):Z32 :=
 c 0 b.kind b.name b.sort b.kids [re b]
def qic(m:Nat)(a:Z33)(j:qOH)(d h:Int)(g:Y8)(f:Int)(c b:TL):Z32 :=
 cond (ilt d c.length) (qa (qc c d) λ i=>qa (a (re i)) λ e=>cond (zp (List.length b+List.length e) 56) (j (iw .i64 (qd d 1)) h g f c (b++e)) none) (some b)
def qcs(m:Nat)(a:Z33):=qJ (λ _ _ _ _ _ _=>none) λ b=>qic m a b
def Qm:Nat->Z33:=qi (λ _=>none) λ m a=>qis m a (qcs m a m)
def qhy(m:Nat)(c:qOg)(b:TL)(a:T):Z32 :=
 c b false 0 a.kind a.name a.sort a.kids []
def qim(m:Nat)(i:qOg)(c:TL)(h:Bool)(b g:Int)(f:Y8)(e:Int)(d a:TL):Z32 :=
 cond (ilt b c.length) (qa (qc c b) λ o=>qa (zM m (T.mk g f e d) (re o)) λ j=>let j1:Z32:=(qa (qc c b) λ k=>cond (zp (List.length a+1) 56)
 (i c h (iw .i64 (qd b 1)) g f e d (a++[re k])) none);cond (qf h) (cond (ile j 0) (cond (ilt j 0) (cond (zp (List.length a+1) 56) (qa (qc c b) λ n =>
 cond (zp (List.length (a++[T.mk g f e d])+1) 56) (i c true (iw .i64 (qd b 1)) g f e d ((a++[T.mk g f e d])++[re n])) none) none) (qa (qc c b) λ l =>
 cond (zp (List.length a+1) 56) (i c true (iw .i64 (qd b 1)) g f e d (a++[re l])) none)) j1) j1) (cond (qf h) (cond (zp (List.length a+1) 56) (some (a++[T.mk g f e d])) none) (some a))
def qcp(m:Nat):=qJ (λ _ _ _ _ _ _ _ _=>none) λ a=>qim m a
def qjU:Nat->(TL->T->Z32):=qi (λ _ _=>none) λ m _=>qhy m (qcp m m)
def qib(m:Nat)(b:qHf)(a:TL):Z32 :=
 b a [] 0
def qhS(m:Nat)(f:qHf)(b c:TL)(a:Int):Z32 :=
 cond (ilt a b.length) (qa (qc b a) λ e=>qa (qjU m c (re e)) λ d=>f b d (iw .i64 (qd a 1))) (some c)
def qcm(m:Nat):=qJ (λ _ _ _=>none) λ a=>qhS m a
def qnn:Nat->Z41:=qi (λ _=>none) λ m _=>qib m (qcm m m)
def qgo(m:Nat)(d:qOI)(c:T)(b:Int):Z32 :=
 qa (Qm m (re c)) λ a=>d b a 0 []
def qgz(m:Nat)(e:qOI)(d:Int)(b:TL)(a:Int)(c:TL):Z32 :=
 cond (ilt a b.length) (qa (qc b a) λ h=>cond (ieq h.kind d) (qa (qc b a) λ g=>cond (zp (List.length c+1) 56) (e d b (iw .i64 (qd a 1)) (c++[re g])) none)
 (e d b (iw .i64 (qd a 1)) c)) (qa (qnn m c) λ f=>some f)
def qa3(m:Nat):=qJ (λ _ _ _ _=>none) λ a=>qgz m a
def qkU:Nat->(T->Int->Z32):=qi (λ _ _=>none) λ m _=>qgo m (qa3 m m)
def qj7(m:Nat)(b:T):Z32 :=
 qa (qkU m (re b) 1) λ a=>some a
def qk3:Nat->Z33:=qi (λ _=>none) λ m _=>qj7 m
def qhX(m:Nat)(b:T):Z4 :=
 qa (qk3 m (re b)) λ a=>some (ieq a.length 0)
def qhP:Nat->Z44:=qi (λ _=>none) λ m _=>qhX m
def qlU(m:Nat)(b:Y8)(a:TL):Z27 :=
 cond (zp (List.length ([]:TL)+List.length a) 56) (qkZ a (some (T.mk 3 b 0 [])) λ d c=>some (T.mk 3 b 0 ([]++(d::c)))) none
def Qo:Nat->Z57:=qi (λ _ _=>none) λ m _=>qlU m
def qnU(m:Nat)(a:T)(b:Y8):Z4 :=
 cond (ieq a.kind 3) (some (qy a.name b)) (some false)
def qcc:Nat->(T->Y8->Z4):=qi (λ _ _=>none) λ m _=>qnU m
def qgT(m:Nat)(a:T):qrD :=
 qa (qc a.kids 0) λ b=>let j1:qrD:=(qa (qc b.kids 0) λ y=>some (re y,true));let j2:qrD:=(let r:qrD:=(let q:qrD:=(let p:qrD:=(let o:qrD :=
 (cond (qy a.name [114,101,97,100]) (qa (qcc m (re b) [115,105,103,110]) λ c=>cond c j1 (some (re a,false))) (some (re a,false)));cond (qy a.name [111,112,101,110])
 (qa (qcc m (re b) [115,105,103,110]) λ h=>cond h (qa (qc a.kids 1) λ g=>qa (qc b.kids 1) λ f=>qa (Qo m [112,107] [re f]) λ e=>qa (Ji m (re g)
 (re e)) λ d=>cond d j1 o) o) o);cond (qy a.name [97,100,101,99]) (qa (qcc m (re b) [97,101,110,99]) λ n=>cond n (qa (qc b.kids 1) λ l =>
 qa (qc a.kids 1) λ k=>qa (Qo m [112,107] [re k]) λ j=>qa (Ji m (re l) (re j)) λ i=>cond i j1 p) p) p);cond (qy a.name [100,101,99])
 (qa (qcc m (re b) [101,110,99]) λ v=>cond v (qa (qc b.kids 1) λ u=>qa (qc a.kids 1) λ t=>qa (Ji m (re u) (re t)) λ s=>cond s j1 q) q) q);
 cond (qy a.name [115,110,100]) (qa (qcc m (re b) [112,97,105,114]) λ x=>cond x (qa (qc b.kids 1) λ w=>some (re w,true)) r) r);cond (qy a.name [102,115,116])
 (qa (qcc m (re b) [112,97,105,114]) λ z=>cond z j1 j2) j2
def qgj:Nat->(T->qrD):=qi (λ _=>none) λ m _=>qgT m
def qfG(m:Nat)(c:qPC)(b:TL)(a:T):Z13 :=
 cond (ilt 200 b.length) (some 3) (c b 0 a.kind a.name a.sort a.kids)
def qfx(m:Nat)(j:qPC)(b:TL)(a f:Int)(e:Y8)(d:Int)(c:TL):Z13 :=
 cond (ilt a b.length) (qa (qc b a) λ i=>qa (jo m (re i)) λ g=>cond (qf (ieq g 0)) (some g) (j b (iw .i64 (qd a 1)) f e d c))
 (qa (jo m (T.mk f e d c)) λ h=>some h)
def qaC(m:Nat):=qJ (λ _ _ _ _ _ _=>none) λ a=>qfx m a
def qjp:Nat->(TL->T->Z13):=qi (λ _ _=>none) λ m _=>qfG m (qaC m m)
def qj1(m:Nat):Z27 :=
 qa (Qo m [122,101,114,111] []) λ a=>some (re a)
def qkD:Nat->(Z27):=qi (none) λ m _=>qj1 m
def qhA(m:Nat)(c:qOf)(b:TL)(a:T):Z4 :=
 c b 0 a.kind a.name a.sort a.kids
def qhz(m:Nat)(i:qOf)(b:TL)(a f:Int)(e:Y8)(d:Int)(c:TL):Z4 :=
 cond (ilt a b.length) (qa (qc b a) λ h=>qa (Ji m (re h) (T.mk f e d c)) λ g=>cond g (some true) (i b (iw .i64 (qd a 1)) f e d c)) (some false)
def qco(m:Nat):=qJ (λ _ _ _ _ _ _=>none) λ a=>qhz m a
def qnO:Nat->(TL->T->Z4):=qi (λ _ _=>none) λ m _=>qhA m (qco m m)
def qef(m:Nat)(e:qOL)(b:TL)(a:T):Z32 :=
 qa (qnO m b (re a)) λ d=>cond (qf d) (qa (qjU m b (re a)) λ c=>some c) (e b 0 a.kind a.name a.sort a.kids [])
def qem(m:Nat)(h:qOL)(b:TL)(a g:Int)(f:Y8)(e:Int)(d c:TL):Z32 :=
 cond (ilt a b.length) (qa (qc b a) λ k=>qa (Ji m (re k) (T.mk g f e d)) λ j=>cond (qf j) (qa (qc b a) λ i=>cond (zp (List.length c+1) 56)
 (h b (iw .i64 (qd a 1)) g f e d (c++[re i])) none) (h b (iw .i64 (qd a 1)) g f e d c)) (some c)
def JW(m:Nat):=qJ (λ _ _ _ _ _ _ _=>none) λ a=>qem m a
def qhQ:Nat->(TL->T->Z32):=qi (λ _ _=>none) λ m _=>qef m (JW m m)
def qgx(m:Nat)(c:qHf)(b a:TL):Z32 :=
 cond (zp (List.length ([]:TL)+List.length b) 56) (qkZ b (c a [] 0) λ e d=>c a ([]++(e::d)) 0) none
def qgm(m:Nat)(f:qHf)(b c:TL)(a:Int):Z32 :=
 cond (ilt a b.length) (qa (qc b a) λ e=>qa (qhQ m c (re e)) λ d=>f b d (iw .i64 (qd a 1))) (some c)
def qaf(m:Nat):=qJ (λ _ _ _=>none) λ a=>qgm m a
def qhZ:Nat->(TL->TL->Z32):=qi (λ _ _=>none) λ m _=>qgx m (qaf m m)
def qcA(m:Nat)(a:Z33)(d:qOl)(b:T):Z32 :=
 let c:Z32:=(cond (qf (ieq b.kind 3)) (some [re b]) (cond (qf (qy b.name [120,111,114])) (some [re b]) (d [] 0 b.kind b.name b.sort b.kids)));cond (ieq b.kind 3)
 (cond (qy b.name [122,101,114,111]) (cond (ieq b.kids.length 0) (some []) c) c) c
def qcN(m:Nat)(a:Z33)(k:qOl)(d:TL)(c g:Int)(f:Y8)(e:Int)(b:TL):Z32 :=
 cond (ilt c b.length) (qa (qc b c) λ j=>qa (a (re j)) λ i=>qa (qhZ m d i) λ h=>k h (iw .i64 (qd c 1)) g f e b) (some d)
def jW(m:Nat)(a:Z33):=qJ (λ _ _ _ _ _ _=>none) λ b=>qcN m a b
def zZ:Nat->Z33:=qi (λ _=>none) λ m a=>qcA m a (jW m a m)
def qjY(m:Nat)(a:TL):Z27 :=
 cond (ieq a.length 0) (qa (Qo m [122,101,114,111] []) λ e=>some (re e)) (cond (ieq a.length 1) (qa (qc a 0) λ d=>some (re d))
 (cond (zp (List.length ([]:TL)+List.length a) 56) (qkZ a (some (T.mk 3 [120,111,114] 0 [])) λ c b=>some (T.mk 3 [120,111,114] 0 ([]++(c::b)))) none))
def qk9:Nat->(TL->Z27):=qi (λ _=>none) λ m _=>qjY m
def qir(m:Nat)(d:qOP)(b:TL):Z38 :=
 qa (qkD m) λ c=>qa (qjp m b (re c)) λ a=>cond (qf (ieq a 0)) (some (T.mk 0 [] 0 [],a)) (d b [] 0 0 [] 0 [])
def qh2(m:Nat)(n:qOP)(b c:TL)(a h:Int)(g:Y8)(f:Int)(e:TL):Z38 :=
 cond (ilt a b.length) (qa (qc b a) λ l=>qa (zZ m (re l)) λ k=>qa (qhZ m c k) λ j=>n b j (iw .i64 (qd a 1)) h g f e) (qa (qk9 m c) λ d =>
 qa (jo m (re d)) λ i=>cond (qf (ieq i 0)) (some (T.mk 0 [] 0 [],3)) (some (re d,0)))
def qcv(m:Nat):=qJ (λ _ _ _ _ _ _ _=>none) λ a=>qh2 m a
def qny:Nat->(TL->Z38):=qi (λ _=>none) λ m _=>qir m (qcv m m)
def qgK(m:Nat)(a:T):Z4 :=
 cond (ieq a.kind 3) (cond (qy a.name [109,117,108]) (some true) (cond (qy a.name [105,110,118]) (some true) (some (qy a.name [111,110,101])))) (some false)
def qbN:Nat->Z44:=qi (λ _=>none) λ m _=>qgK m
def qfv(m:Nat)(b:Z44)(e:qOm)(a:T):Z4 :=
 qa (qbN m (re a)) λ f=>cond (qf f) (some true) (let d:Z4:=(let c:Z4:=(cond (qy a.name [111,110,101]) (cond (qf (ieq a.kids.length 0)) (some false)
 (e a.kids.length 0 a.kind a.name a.sort a.kids)) (e a.kids.length 0 a.kind a.name a.sort a.kids));cond (qy a.name [105,110,118]) (cond (qf (ieq a.kids.length 1)) (some false) c) c);
 cond (qy a.name [109,117,108]) (cond (ilt a.kids.length 2) (some false) d) d)
def qfj(m:Nat)(a:Z44)(j:qOm)(d b g:Int)(f:Y8)(e:Int)(c:TL):Z4 :=
 cond (ilt b d) (qa (qc c b) λ i=>qa (a (re i)) λ h=>cond (qf h) (some false) (j d (iw .i64 (qd b 1)) g f e c)) (some true)
def Jt(m:Nat)(a:Z44):=qJ (λ _ _ _ _ _ _=>none) λ b=>qfj m a b
def jn:Nat->Z44:=qi (λ _=>none) λ m a=>qfv m a (Jt m a m)
def qie(m:Nat)(d:qPx)(c:List (T × Int))(a:T)(b:Int):Z49 :=
 d b false 0 a.kind a.name a.sort a.kids c []
def qh1(m:Nat)(i:qPx)(a:Int)(l:Bool)(h f:Int)(e:Y8)(d:Int)(c:TL)(g b:List (T × Int)):Z49 :=
 cond (ilt h g.length) (qa (qc g h) λ o=>qa (zM m (T.mk f e d c) (re o.1)) λ n=>let j1:Z49:=(qa (qc g h) λ j=>cond (ieq n 0)
 (cond (qf (ieq (iw .i64 (qd j.2 a)) 0)) (cond (zp (List.length b+1) 64) (i a true (iw .i64 (qd h 1)) f e d c g (b++[(re j.1,iw .i64 (qd j.2 a))])) none)
 (i a true (iw .i64 (qd h 1)) f e d c g b)) (cond (qf (ieq j.2 0)) (cond (zp (List.length b+1) 64) (i a l (iw .i64 (qd h 1)) f e d c g (b++[(re j.1,j.2)])) none)
 (i a l (iw .i64 (qd h 1)) f e d c g b)));cond (qf l) (cond (ilt n 0) (cond (zp (List.length b+1) 64) (qa (qc g h) λ k=>cond (ieq n 0) (cond (qf (ieq (iw .i64 (qd k.2 a)) 0))
 (cond (zp (List.length (b++[(T.mk f e d c,a)])+1) 64) (i a true (iw .i64 (qd h 1)) f e d c g ((b++[(T.mk f e d c,a)])++[(re k.1,iw .i64 (qd k.2 a))])) none)
 (i a true (iw .i64 (qd h 1)) f e d c g (b++[(T.mk f e d c,a)]))) (cond (qf (ieq k.2 0)) (cond (zp (List.length (b++[(T.mk f e d c,a)])+1) 64)
 (i a true (iw .i64 (qd h 1)) f e d c g ((b++[(T.mk f e d c,a)])++[(re k.1,k.2)])) none) (i a true (iw .i64 (qd h 1)) f e d c g (b++[(T.mk f e d c,a)])))) none) j1) j1)
 (cond (qf l) (cond (zp (List.length b+1) 64) (some ((()),(b++[(T.mk f e d c,a)],()))) none) (some ((()),(b,()))))
def J1(m:Nat):=qJ (λ _ _ _ _ _ _ _ _ _=>none) λ a=>qh1 m a
def qjA:Nat->qDZ:=qi (λ _ _ _=>none) λ m _=>qie m (J1 m m)
def qds(m:Nat)(a:qDZ)(e:qOZ)(d:List (T × Int))(b:T)(c:Int):Z49 :=
 qa (qbN m (re b)) λ g=>cond (qf g) (qa (qjA m d (re b) c) λ f=>some ((()),(f.2.1,()))) (cond (qy b.name [105,110,118])
 (e (iw .i64 (zh 0 c)) 0 b.kind b.name b.sort b.kids d) (e c 0 b.kind b.name b.sort b.kids d))
def qdl(m:Nat)(a:qDZ)(k:qOZ)(e c h:Int)(g:Y8)(f:Int)(b:TL)(d:List (T × Int)):Z49 :=
 cond (ilt c b.length) (qa (qc b c) λ j=>qa (a d (re j) e) λ i=>k e (iw .i64 (qd c 1)) h g f b i.2.1) (some ((()),(d,())))
def Qn(m:Nat)(a:qDZ):=qJ (λ _ _ _ _ _ _ _=>none) λ b=>qdl m a b
def yk:Nat->qDZ:=qi (λ _ _ _=>none) λ m a=>qds m a (Qn m a m)
def qn5(m:Nat)(a:T):Z53 :=
 qa (jo m (re a)) λ c=>cond (qf (ieq c 0)) (some ([],c)) (qa (jn m (re a)) λ d=>cond (qf d) (some ([],6)) (qa (yk m [] (re a) 1) λ b =>
 cond (ilt 200 b.2.1.length) (some ([],3)) (some (b.2.1,0))))
def qiJ:Nat->Z54:=qi (λ _=>none) λ m _=>qn5 m
def qfH(m:Nat)(b:qHJ)(a:List (T × Int)):Z13 :=
 cond (ilt 200 a.length) (some 3) (b a 0)
def qfF(m:Nat)(e:qHJ)(b:List (T × Int))(a:Int):Z13 :=
 cond (ilt a b.length) (qa (qc b a) λ n=>qa (jo m (re n.1)) λ d=>cond (qf (ieq d 0)) (some d) (qa (qc b a) λ l=>qa (qbN m (re l.1)) λ k=>cond k (some 1)
 (qa (qc b a) λ j=>cond (ieq j.2 0) (some 7) (qa (qc b a) λ i=>cond (ilt i.2 (-1000)) (some 7) (qa (qc b a) λ h=>cond (ilt 1000 h.2) (some 7) (cond (ilt 0 a)
 (qa (qc b (iw .i64 (zh a 1))) λ g=>qa (qc b a) λ f=>qa (zM m (re g.1) (re f.1)) λ c=>cond (ile 0 c) (some 5) (e b (iw .i64 (qd a 1))))
 (e b (iw .i64 (qd a 1))))))))) (some 0)
def Jv(m:Nat):=qJ (λ _ _=>none) λ a=>qfF m a
def qd0:Nat->Z56:=qi (λ _=>none) λ m _=>qfH m (Jv m m)
def qcI(m:Nat)(b:qn4)(e:qn7)(d:qn4)(c:qn7)(a:List (T × Int)):Z32 :=
 b a 0 []
def qcD(m:Nat)(g:qn4)(e:qn7)(d:qn4)(f:qn7)(a:List (T × Int))(c:Int)(b:TL):Z32 :=
 cond (ilt c a.length) (e a c 0 b) (d a 0 b)
def qcG(m:Nat)(e:qn4)(h:qn7)(j:qn4)(i:qn7)(c:List (T × Int))(b d:Int)(a:TL):Z32 :=
 qa (qc c b) λ g=>cond (ilt d g.2) (cond (ilt a.length 9) (qa (qc c b) λ f=>cond (zp (List.length a+1) 56) (h c b (iw .i64 (qd d 1)) (a++[re f.1])) none)
 (e c (iw .i64 (qd b 1)) a)) (e c (iw .i64 (qd b 1)) a)
def qcy(m:Nat)(g:qn4)(f:qn7)(e:qn4)(d:qn7)(c:List (T × Int))(b:Int)(a:TL):Z32 :=
 cond (ilt b c.length) (d c b 0 a) (some a)
def qcC(m:Nat)(k:qn4)(j:qn7)(e:qn4)(i:qn7)(c:List (T × Int))(b d:Int)(a:TL):Z32 :=
 qa (qc c b) λ h=>cond (ilt d (iw .i64 (zh 0 h.2))) (cond (ilt a.length 9) (qa (qc c b) λ g=>qa (Qo m [105,110,118] [re g.1]) λ f=>cond (zp (List.length a+1) 56)
 (i c b (iw .i64 (qd d 1)) (a++[re f])) none) (e c (iw .i64 (qd b 1)) a)) (e c (iw .i64 (qd b 1)) a)
def qm(m:Nat):=qJ ((λ _ _ _=>none,λ _ _ _ _=>none,λ _ _ _=>none,λ _ _ _ _=>none)) λ a=>(qcD m a.1 a.2.1 a.2.2.1 a.2.2.2,qcG m a.1 a.2.1 a.2.2.1 a.2.2.2,qcy m a.1 a.2.1 a.2.2.1 a.2.2.2,qcC m a.1 a.2.1 a.2.2.1 a.2.2.2)
def qft:Nat->(Z47->Z32):=qi (λ _=>none) λ m _=>qcI m (qm m m).1 (qm m m).2.1 (qm m m).2.2.1 (qm m m).2.2.2
def qj0(m:Nat)(i:List (T × Int)):Z38 :=
 qa (qd0 m i) λ h=>cond (qf (ieq h 0)) (some (T.mk 0 [] 0 [],h)) (qa (qft m i) λ a=>cond (ilt 8 a.length) (some (T.mk 0 [] 0 [],3))
 (qa (Qo m [109,117,108] a) λ g=>let j1:Z38:=(qa (qc a 0) λ e=>qa (jo m (re e)) λ d=>cond (qf (ieq d 0)) (some (T.mk 0 [] 0 [],d)) (some (re e,0)));
 cond (ieq a.length 0) (qa (Qo m [111,110,101] []) λ f=>cond (ieq a.length 1) j1 (qa (jo m (re f)) λ c=>cond (qf (ieq c 0)) (some (T.mk 0 [] 0 [],c)) (some (re f,0))))
 (cond (ieq a.length 1) j1 (qa (jo m (re g)) λ b=>cond (qf (ieq b 0)) (some (T.mk 0 [] 0 [],b)) (some (re g,0))))))
def qdE:Nat->Z60:=qi (λ _=>none) λ m _=>qj0 m
def qgI(m:Nat)(c:T):Z38 :=
 qa (qiJ m (re c)) λ a=>cond (qf (ieq a.2 0)) (some (T.mk 0 [] 0 [],a.2)) (qa (qdE m a.1) λ b=>some (re b.1,b.2))
def qdT:Nat->Z66:=qi (λ _=>none) λ m _=>qgI m
def qdr(m:Nat)(b:qHJ)(a:List (T × Int)):Z13 :=
 b a 0
def qdJ(m:Nat)(e:qHJ)(a:List (T × Int))(b:Int):Z13 :=
 cond (ilt b a.length) (qa (qc a b) λ d=>cond (ilt d.2 (-1000)) (some 7) (qa (qc a b) λ c=>cond (ilt 1000 c.2) (some 7) (e a (iw .i64 (qd b 1))))) (cond (ilt 200 a.length) (some 3)
 (some 0))
def Jh(m:Nat):=qJ (λ _ _=>none) λ a=>qdJ m a
def qgd:Nat->Z56:=qi (λ _=>none) λ m _=>qdr m (Jh m m)
def qiq(m:Nat)(e:qNW)(b a:List (T × Int)):Z53 :=
 qa (qd0 m b) λ d=>cond (qf (ieq d 0)) (some ([],d)) (qa (qd0 m a) λ c=>cond (qf (ieq c 0)) (some ([],c)) (cond (zp (List.length ([]:List (T × Int))+List.length b) 64)
 (qkZ b (e a 0 []) λ g f=>e a 0 ([]++(g::f))) none))
def qin(m:Nat)(h:qNW)(b:List (T × Int))(a:Int)(c:List (T × Int)):Z53 :=
 cond (ilt a b.length) (qa (qc b a) λ g=>qa (qc b a) λ f=>qa (qjA m c (re g.1) f.2) λ e=>h b (iw .i64 (qd a 1)) e.2.1) (qa (qgd m c) λ d =>
 cond (qf (ieq d 0)) (some ([],d)) (some (c,0)))
def qaY(m:Nat):=qJ (λ _ _ _=>none) λ a=>qin m a
def qm3:Nat->Z64:=qi (λ _ _=>none) λ m _=>qiq m (qaY m m)
def qja(m:Nat)(b l:T):Z38 :=
 qa (qiJ m (re l)) λ a=>cond (qf (ieq a.2 0)) (some (T.mk 0 [] 0 [],a.2)) (qa (qcc m (re b) [101,120,112]) λ k=>cond k (qa (qc b.kids 1) λ j =>
 qa (qiJ m (re j)) λ f=>cond (qf (ieq f.2 0)) (some (T.mk 0 [] 0 [],f.2)) (qa (qm3 m f.1 a.1) λ c=>cond (qf (ieq c.2 0)) (some (T.mk 0 [] 0 [],c.2))
 (qa (qc b.kids 0) λ h=>cond (ieq c.1.length 0) (some (re h,0)) (qa (qdE m c.1) λ e=>cond (qf (ieq e.2 0)) (some (T.mk 0 [] 0 [],e.2))
 (qa (Qo m [101,120,112] [re h,re e.1]) λ i=>some (re i,0)))))) (cond (ieq a.1.length 0) (some (re b,0)) (qa (qdE m a.1) λ d=>cond (qf (ieq d.2 0))
 (some (T.mk 0 [] 0 [],d.2)) (qa (Qo m [101,120,112] [re b,re d.1]) λ g=>some (re g,0)))))
def qjk:Nat->Z65:=qi (λ _ _=>none) λ m _=>qja m
def qeo(m:Nat)(a:Z66)(c:qOM)(b:T):Z38 :=
 cond (qf (ieq b.kind 3)) (some (re b,0)) (c 0 b.kind b.name b.sort b.kids 0 [] 0 [] [])
def qeb(m:Nat)(a:Z66)(x:qOM)(f t:Int)(b:Y8)(s:Int)(e:TL)(r:Int)(q:Y8)(p:Int)(o c:TL):Z38 :=
 cond (ilt f e.length) (qa (qc e f) λ w=>qa (a (re w)) λ h=>cond (qf (ieq h.2 0)) (some (T.mk 0 [] 0 [],h.2)) (cond (zp (List.length c+1) 56)
 (x (iw .i64 (qd f 1)) t b s e r q p o (c++[re h.1])) none)) (qa (Qo m b c) λ g=>qa (qff m b) λ v=>cond (ieq v 3) (qa (qgj m (re g)) λ u =>
 some (re u.1,0)) (cond (qy b [120,111,114]) (qa (qny m c) λ n=>some (re n.1,n.2)) (let k:Z38:=(qa (qdT m (re g)) λ l=>some (re l.1,l.2));
 cond (qy b [109,117,108]) k (cond (qy b [105,110,118]) k (cond (qy b [111,110,101]) k (cond (qy b [101,120,112]) (qa (qc c 0) λ j=>qa (qc c 1) λ i =>
 qa (qjk m (re j) (re i)) λ d=>some (re d.1,d.2)) (some (re g,0))))))))
def JP(m:Nat)(a:Z66):=qJ (λ _ _ _ _ _ _ _ _ _ _=>none) λ b=>qeb m a b
def je:Nat->Z66:=qi (λ _=>none) λ m a=>qeo m a (JP m a m)
def qhJ(m:Nat)(d:T):Z38 :=
 qa (qdY m (re d)) λ c=>cond (qf (ieq c 0)) (some (T.mk 0 [] 0 [],c)) (qa (je m (re d)) λ a=>cond (qf (ieq a.2 0)) (some (T.mk 0 [] 0 [],a.2))
 (qa (jo m (re a.1)) λ b=>cond (qf (ieq b 0)) (some (T.mk 0 [] 0 [],b)) (some (re a.1,0))))
def qix:Nat->Z66:=qi (λ _=>none) λ m _=>qhJ m
def qfO(m:Nat)(e:qN3)(a:T):Z4 :=
 qa (qix m (re a)) λ b=>cond (qf (ieq b.2 0)) (some false) (qa (Ji m (re a) (re b.1)) λ d=>cond (qf d) (some false) (qa (Qm m (re a)) λ c=>e c 0))
def qfE(m:Nat)(c:qN3)(b:TL)(a:Int):Z4 :=
 cond (ilt a b.length) (qa (qc b a) λ f=>cond (ieq f.kind 3) (qa (qc b a) λ e=>qa (qff m e.name) λ d=>cond (ieq d 3) (some false) (c b (iw .i64 (qd a 1))))
 (c b (iw .i64 (qd a 1)))) (some true)
def qaA(m:Nat):=qJ (λ _ _=>none) λ a=>qfE m a
def qf7:Nat->Z44:=qi (λ _=>none) λ m _=>qfO m (qaA m m)
def qjc(m:Nat)(a:T):Z13 :=
 qa (qdY m (re a)) λ b=>cond (qf (ieq b 0)) (some b) (qa (qhP m (re a)) λ d=>cond (qf d) (some 13) (qa (qf7 m (re a)) λ c=>cond (qf c) (some 10) (some 0)))
def qjm:Nat->Z14:=qi (λ _=>none) λ m _=>qjc m
def qxt(m:Nat):(Option (List Y8)) :=
 some [[112,97,105,114],[101,110,99],[97,101,110,99],[112,107],[115,105,103,110],[104,97,115,104],[120,111,114],[122,101,114,111],[101,120,112],[109,117,108],[105,110,118],[111,110,101],[115,107],[115,104,107],[110,101,119]]
def qjx:Nat->((Option (List Y8))):=qi (none) λ m _=>qxt m
def qfw(m:Nat)(c:qOv)(b:Y8):Z13 :=
 qa (qjx m) λ a=>c b a 0
def qfl(m:Nat)(e:qOv)(c:Y8)(b:List (Y8))(a:Int):Z13 :=
 cond (ilt a b.length) (qa (qc b a) λ d=>cond (qy d c) (some a) (e c b (iw .i64 (qd a 1)))) (some 0)
def qaD(m:Nat):=qJ (λ _ _ _=>none) λ a=>qfl m a
def qjw:Nat->Z79:=qi (λ _=>none) λ m _=>qfw m (qaD m m)
def qgH(m:Nat)(a:Y8):Z4 :=
 cond (qy a [120,111,114]) (some true) (cond (qy a [109,117,108]) (some true) (some (qy a [110,101,119])))
def qdM:Nat->Z8:=qi (λ _=>none) λ m _=>qgH m
def qfk(m:Nat)(b:qGs)(d:qPq)(a:T):Z80 :=
 cond (ieq a.kind 2) (cond (qgB (zK [iw .u8 a.sort,iw .u8 a.name.length]) a.name) (some ((zK [iw .u8 a.sort,iw .u8 a.name.length])++a.name)) none) (qa (qjw m a.name) λ c =>
 qa (qdM m a.name) λ e=>cond e (cond (qgB (zK [iw .u8 (iw .i64 (qd 16 c))]) (zK [iw .u8 a.kids.length]))
 (d ((zK [iw .u8 (iw .i64 (qd 16 c))])++(zK [iw .u8 a.kids.length])) 0 a.kind a.name a.sort a.kids) none) (d (zK [iw .u8 (iw .i64 (qd 16 c))]) 0 a.kind a.name a.sort a.kids))
def qfy(m:Nat)(a:qGs)(j:qPq)(d:Y8)(c h:Int)(g:Y8)(f:Int)(b:TL):Z80 :=
 cond (ilt c b.length) (qa (qc b c) λ i=>qa (a (re i)) λ e=>cond (qgB d e) (j (d++e) (iw .i64 (qd c 1)) h g f b) none) (some d)
def Jx(m:Nat)(a:qGs):=qJ (λ _ _ _ _ _ _=>none) λ b=>qfy m a b
def ji:Nat->qGs:=qi (λ _=>none) λ m a=>qfk m a (Jx m a m)
def qh0(m:Nat)(b:T):Z76 :=
 qa (qjm m (re b)) λ a=>cond (qf (ieq a 0)) (some ([],a)) (qa (ji m (re b)) λ c=>some (c,0))
def qh8:Nat->(T->Z76):=qi (λ _=>none) λ m _=>qh0 m
def qfN(m:Nat)(b:qPH)(a:Y8):Z13 :=
 b a 1 0 0
def qfC(m:Nat)(f:qPH)(c:Y8)(b d a:Int):Z13 :=
 cond (ilt a c.length) (qa (qc c a) λ e=>f c (jq (iw .u32 (qd b (iw .u32 ((UInt8.toNat e:Nat):Int)))) 65521)
 (jq (iw .u32 (qd d (jq (iw .u32 (qd b (iw .u32 ((UInt8.toNat e:Nat):Int)))) 65521))) 65521) (iw .i64 (qd a 1))) (some (iw .u32 (qd (iw .u32 (qtQ 65536 d)) b)))
def qaw(m:Nat):=qJ (λ _ _ _ _=>none) λ a=>qfC m a
def qjh:Nat->Z79:=qi (λ _=>none) λ m _=>qfN m (qaw m m)
def qkl(m:Nat)(b:Y8):Z80 :=
 qa (qjh m b) λ a=>cond (qgB (zK [iw .u8 (iw .u32 (qiU a 16777216)),iw .u8 (jq (iw .u32 (qiU a 65536)) 256),iw .u8 (jq (iw .u32 (qiU a 256)) 256),iw .u8 (jq a 256)]) b)
 (some ((zK [iw .u8 (iw .u32 (qiU a 16777216)),iw .u8 (jq (iw .u32 (qiU a 65536)) 256),iw .u8 (jq (iw .u32 (qiU a 256)) 256),iw .u8 (jq a 256)])++b)) none
def qh6:Nat->(Y8->Z80):=qi (λ _=>none) λ m _=>qkl m
def qcY(m:Nat)(a:(Int) × (List (Int × (Int × (Y8 × Bool)))) × Unit)(d c:Int)(g:T):Z77 :=
 let b:Z77:=(some (((a.1,a.2.1,()),()),(0,7,())));cond (ilt d 0) b (cond (ile a.1 d) b (cond (ilt c 0) b (cond (ile a.1 c) b (cond (ile 400 a.2.1.length)
 (some (((a.1,a.2.1,()),()),(0,3,()))) (qa (qh8 m (re g)) λ e=>cond (qf (ieq e.2 0)) (some (((a.1,a.2.1,()),()),(0,e.2,()))) (qa (qh6 m e.1) λ f =>
 cond (zp (List.length a.2.1+1) 40) (some (((a.1,a.2.1++[(d,(c,(f,true)))],()),()),(iw .i64 (zh (List.length (a.2.1++[(d,(c,(f,true)))])) 1),0,()))) none))))))
def qb7:Nat->Z81:=qi (λ _ _ _ _=>none) λ m _=>qcY m
def qbJ(m:Nat)(d:(Int) × (List (Int × (Int × (Y8 × Bool)))) × Unit)(e:Int):Z83 :=
 qa (jw m (d.1,d.2.1,()) e) λ a=>qhx a.2.1 (cond (ieq a.2.2.1 0) none (some (((a.1.1.1,a.1.1.2.1,()),()),(a.2.2.1,())))) λ c=>qa (qc a.1.1.2.1 c) λ b =>
 cond (ieq a.2.2.1 0) (some (((a.1.1.1,yn a.1.1.2.1 c (b.1,(b.2.1,(b.2.2.1,false))),()),()),(a.2.2.1,()))) (some (((a.1.1.1,a.1.1.2.1,()),()),(a.2.2.1,())))
def qaV:Nat->qPm:=qi (λ _ _=>none) λ m _=>qbJ m
def QB(m:Nat)(c:qPi)(a:(Int) × (List (Int × (Int × (Y8 × Bool)))) × Unit)(b:Int):qvi :=
 c b a.2.1.length 0 a.1 a.2.1 []
def QC(m:Nat)(g:qPi)(f e a d:Int)(c:List (Int × (Int × (Y8 × Bool))))(b:List (Int)):qvi :=
 cond (ilt a e) (qa (qc c a) λ h=>cond h.2.2.2 (cond (ieq h.2.1 f) (cond (zp (List.length b+1) 8) (g f e (iw .i64 (qd a 1)) d c (b++[a])) none) (g f e (iw .i64 (qd a 1)) d c b))
 (g f e (iw .i64 (qd a 1)) d c b)) (some (((d,c,()),()),(b,())))
def yd(m:Nat):=qJ (λ _ _ _ _ _ _=>none) λ a=>QC m a
def yb:Nat->qPF:=qi (λ _ _=>none) λ m _=>QB m (yd m m)
def qcS(m:Nat)(a:(Int) × (List (Int × (Int × (Y8 × Bool)))) × Unit)(b:Int)(d:Bool):Z83 :=
 cond (ilt b 0) (some (((a.1,a.2.1,()),()),(4,()))) (cond (ile a.2.1.length b) (some (((a.1,a.2.1,()),()),(4,()))) (cond d (qa (qc a.2.1 b) λ c=>cond (qf c.2.2.2)
 (some (((a.1,a.2.1,()),()),(9,()))) (some (((a.1,a.2.1,()),()),(0,())))) (some (((a.1,a.2.1,()),()),(0,())))))
def js:Nat->(Z3->Int->Bool->Z83):=qi (λ _ _ _=>none) λ m _=>qcS m
def qbE(m:Nat)(d:(Int) × (List (Int × (Int × (Y8 × Bool)))) × Unit)(c:Int):Z77 :=
 qa (js m (d.1,d.2.1,()) c false) λ a=>cond (qf (ieq a.2.1 0)) (some (((a.1.1.1,a.1.1.2.1,()),()),(0,a.2.1,()))) (cond (ile 400 a.1.1.2.1.length)
 (some (((a.1.1.1,a.1.1.2.1,()),()),(0,3,()))) (qa (qc a.1.1.2.1 c) λ b=>cond (zp (List.length a.1.1.2.1+1) 40)
 (some (((a.1.1.1,a.1.1.2.1++[(b.1,(b.2.1,(b.2.2.1,true)))],()),()),(iw .i64 (zh (List.length (a.1.1.2.1++[(b.1,(b.2.1,(b.2.2.1,true)))])) 1),0,()))) none))
def qaT:Nat->Z96:=qi (λ _ _=>none) λ m _=>qbE m
def qj9(m:Nat)(a:Y8):Z76 :=
 cond (ilt a.length 4) (some ([],2)) (cond (inb a.length a.length) (cond (inb 4 (Int.toNat a.length)) (qa (qh6 m (QM a 4 a.length)) λ b=>cond (qf (qy b a)) (some ([],19))
 (cond (inb a.length a.length) (cond (inb 4 (Int.toNat a.length)) (some (QM a 4 a.length,0)) none) none)) none) none)
def qlb:Nat->(Y8->Z76):=qi (λ _=>none) λ m _=>qj9 m
def qbK(m:Nat)(e:qGj)(b:Y8)(a:Int):qsr :=
 qa (qc b a) λ d=>let j1:qsr:=(some (T.mk 2 [] (iw .i64 ((UInt8.toNat d:Nat):Int)) [],iw .i64 (qd a 1),false));
 cond (ile b.length (iw .i64 (qd a 1))) j1 (qa (qc b (iw .i64 (qd a 1))) λ c =>
 cond (ilt (iw .i64 ((UInt8.toNat c:Nat):Int)) 1) j1 (cond (ilt 24 (iw .i64 ((UInt8.toNat c:Nat):Int))) j1 (e b a (iw .i64 ((UInt8.toNat c:Nat):Int)) 1 0 [] 0 2 [] (iw .i64 ((UInt8.toNat d:Nat):Int)) [] [])))
def qgi(m:Nat)(o:qGj)(e:Y8)(a d c l:Int)(k:Y8)(j g:Int)(h:Y8)(f:Int)(i b:TL):qsr :=
 cond (ile c d) (cond (ile e.length (iw .i64 (qd (iw .i64 (qd a 1)) c))) (some (T.mk g h f b,iw .i64 (qd (iw .i64 (qd a 1)) c),false)) (cond (inb (iw .i64 (qd (iw .i64 (qd a 2)) c)) e.length)
 (cond (inb (iw .i64 (qd a 2)) (Int.toNat (iw .i64 (qd (iw .i64 (qd a 2)) c)))) (qa (qag m (QM e (iw .i64 (qd a 2)) (iw .i64 (qd (iw .i64 (qd a 2)) c)))) λ n=>cond (qf n)
 (some (T.mk g h f b,iw .i64 (qd (iw .i64 (qd a 1)) c),false)) (o e a d (iw .i64 (qd c 1)) l k j g h f i b)) none) none)) (cond (inb (iw .i64 (qd (iw .i64 (qd a 2)) d)) e.length)
 (cond (inb (iw .i64 (qd a 2)) (Int.toNat (iw .i64 (qd (iw .i64 (qd a 2)) d)))) (some (T.mk g (QM e (iw .i64 (qd a 2))
 (iw .i64 (qd (iw .i64 (qd a 2)) d))) f b,iw .i64 (qd (iw .i64 (qd a 2)) d),true)) none) none)
def jH(m:Nat):=qJ (λ _ _ _ _ _ _ _ _ _ _ _ _=>none) λ a=>qgi m a
def qdx:Nat->qCf:=qi (λ _ _=>none) λ m _=>qbK m (jH m m)
def qgu(m:Nat)(k:qOX)(b:Y8)(a:Int)(d:Y8):qrk :=
 qa (qdM m d) λ j=>cond (qf j) (qa (qgv m) λ i=>k b a d i 0) (let c:qrk:=(some (0,a,false));let j2:qrk:=(qa (qc b a) λ g =>
 cond (ilt 8 ((UInt8.toNat g:Nat):Int)) c (qa (qc b a) λ f=>some (iw .i64 ((UInt8.toNat f:Nat):Int),iw .i64 (qd a 1),true)));cond (qy d [110,101,119])
 (cond (ile b.length a) c (qa (qc b a) λ h=>cond (ilt (iw .i64 ((UInt8.toNat h:Nat):Int)) 1) c j2)) (cond (ile b.length a) c (qa (qc b a) λ e =>
 cond (ilt (iw .i64 ((UInt8.toNat e:Nat):Int)) 2) c j2)))
def qj8(m:Nat)(o:qOX)(b:Y8)(a:Int)(f:Y8)(e:List (Y8 × (Int × (Int × Int))))(d:Int):qrk :=
 cond (ilt d e.length) (qa (qc e d) λ n=>cond (qy n.1 f) (qa (qc e d) λ l=>some (l.2.1,a,true)) (o b a f e (iw .i64 (qd d 1)))) (let c:qrk:=(some (0,a,false));
 let g:qrk:=(qa (qc b a) λ j=>cond (ilt 8 ((UInt8.toNat j:Nat):Int)) c (qa (qc b a) λ i=>some (iw .i64 ((UInt8.toNat i:Nat):Int),iw .i64 (qd a 1),true)));
 cond (qy f [110,101,119]) (cond (ile b.length a) c (qa (qc b a) λ k=>cond (ilt (iw .i64 ((UInt8.toNat k:Nat):Int)) 1) c g)) (cond (ile b.length a) c (qa (qc b a) λ h =>
 cond (ilt (iw .i64 ((UInt8.toNat h:Nat):Int)) 2) c g)))
def qa5(m:Nat):=qJ (λ _ _ _ _ _=>none) λ a=>qj8 m a
def qdm:Nat->(Y8->Int->Y8->qrk):=qi (λ _ _ _=>none) λ m _=>qgu m (qa5 m m)
def qay(m:Nat)(a:qCf)(o:qGj)(c:Y8)(b:Int):qsr :=
 let g:qsr:=(some (T.mk 0 [] 0 [],b,false));cond (ile c.length b) g (qa (qc c b) λ n=>cond (ile ((UInt8.toNat n:Nat):Int) 5) (qa (qdx m c b) λ f =>
 some (re f.1,f.2.1,f.2.2)) (qa (qc c b) λ l=>cond (ilt ((UInt8.toNat l:Nat):Int) 16) g (qa (qc c b) λ k=>qa (qjx m) λ j=>cond (ile (iw .i64 (qd 16 j.length))
 (iw .i64 ((UInt8.toNat k:Nat):Int))) g (qa (qjx m) λ i=>qa (qc c b) λ h=>qa (qc i (iw .i64 (zh (iw .i64 ((UInt8.toNat h:Nat):Int)) 16))) λ e =>
 qa (qdm m c (iw .i64 (qd b 1)) e) λ d=>cond (qf d.2.2) (some (T.mk 3 e 0 [],d.2.1,false)) (o c d.1 d.2.1 0 0 [] 0 3 e 0 [] [])))))
def qdO(m:Nat)(a:qCf)(p:qGj)(k:Y8)(j i h o:Int)(n:Y8)(l f:Int)(e:Y8)(d:Int)(g b:TL):qsr :=
 cond (ilt h j) (qa (a k i) λ c=>cond (qf c.2.2) (some (T.mk f e d b,c.2.1,false)) (cond (zp (List.length b+1) 56)
 (p k j c.2.1 (iw .i64 (qd h 1)) o n l f e d g (b++[re c.1])) none)) (some (T.mk f e d b,i,true))
def Qu(m:Nat)(a:qCf):=qJ (λ _ _ _ _ _ _ _ _ _ _ _ _=>none) λ b=>qdO m a b
def qW:Nat->qCf:=qi (λ _ _=>none) λ m a=>qay m a (Qu m a m)
def qhY(m:Nat)(b:Y8):Z90 :=
 qa (qW m b 0) λ a=>cond (qf a.2.2) (some (T.mk 0 [] 0 [],a.2.1,2)) (cond (qf (ieq a.2.1 b.length)) (some (T.mk 0 [] 0 [],a.2.1,2)) (qa (yV m (re a.1)) λ f =>
 cond (ilt 400 f) (some (T.mk 0 [] 0 [],0,3)) (qa (jh m (re a.1)) λ e=>cond (ilt 40 e) (some (T.mk 0 [] 0 [],0,3)) (qa (qdY m (re a.1)) λ d=>cond (qf (ieq d 0))
 (some (T.mk 0 [] 0 [],0,10)) (qa (qf7 m (re a.1)) λ c=>cond (qf c) (some (T.mk 0 [] 0 [],0,10)) (some (re a.1,0,0)))))))
def qia:Nat->Z91:=qi (λ _=>none) λ m _=>qhY m
def qbl(m:Nat)(g:(Int) × (List (Int × (Int × (Y8 × Bool)))) × Unit)(c:Int):Z92 :=
 qa (js m (g.1,g.2.1,()) c true) λ b=>cond (qf (ieq b.2.1 0)) (some (((b.1.1.1,b.1.1.2.1,()),()),(T.mk 0 [] 0 [],0,b.2.1,()))) (qa (qc b.1.1.2.1 c) λ a =>
 qa (qc (yn b.1.1.2.1 c (a.1,(a.2.1,(a.2.2.1,false)))) c) λ f=>qa (qc (yn b.1.1.2.1 c (a.1,(a.2.1,(a.2.2.1,false)))) c) λ h=>qa (qlb m h.2.2.1) λ e =>
 cond (qf (ieq e.2 0)) (some (((b.1.1.1,yn b.1.1.2.1 c (a.1,(a.2.1,(a.2.2.1,false))),()),()),(T.mk 0 [] 0 [],f.2.1,e.2,()))) (qa (qia m e.1) λ d=>cond (qf (ieq d.2.2 0))
 (some (((b.1.1.1,yn b.1.1.2.1 c (a.1,(a.2.1,(a.2.2.1,false))),()),()),(T.mk 0 [] 0 [],f.2.1,d.2.2,())))
 (some (((b.1.1.1,yn b.1.1.2.1 c (a.1,(a.2.1,(a.2.2.1,false))),()),()),(re d.1,f.2.1,0,())))))
def qas:Nat->Z93:=qi (λ _ _=>none) λ m _=>qbl m
def qcX(m:Nat)(d:(Int) × (List (Int × (Int × (Y8 × Bool)))) × Unit)(c:Int):Z83 :=
 qa (js m (d.1,d.2.1,()) c true) λ a=>cond (qf (ieq a.2.1 0)) (some (((a.1.1.1,a.1.1.2.1,()),()),(a.2.1,()))) (qa (qc a.1.1.2.1 c) λ b =>
 some (((a.1.1.1,yn a.1.1.2.1 c (b.1,(b.2.1,(b.2.2.1,false))),()),()),(0,())))
def qbQ:Nat->qPm:=qi (λ _ _=>none) λ m _=>qcX m
def qcq(m:Nat)(g:(Int) × (List (Int × (Int × (Y8 × Bool)))) × Unit)(d c f:Int):Z83 :=
 qa (js m (g.1,g.2.1,()) d true) λ b=>cond (qf (ieq b.2.1 0)) (some (((b.1.1.1,b.1.1.2.1,()),()),(b.2.1,()))) (qa (qc b.1.1.2.1 d) λ a=>cond (ilt c 0)
 (some (((b.1.1.1,b.1.1.2.1,()),()),(7,()))) (cond (ile a.2.2.1.length c) (some (((b.1.1.1,b.1.1.2.1,()),()),(7,()))) (cond (inb c a.2.2.1.length) (cond (inb 0 (Int.toNat c))
 (cond (qgB (QM a.2.2.1 0 c) (zK [f])) (cond (inb a.2.2.1.length a.2.2.1.length) (cond (inb (iw .i64 (qd c 1)) (Int.toNat a.2.2.1.length)) (cond (qgB ((QM a.2.2.1 0 c)++(zK [f]))
 (QM a.2.2.1 (iw .i64 (qd c 1)) a.2.2.1.length)) (qa (qc b.1.1.2.1 d) λ e =>
 some (((b.1.1.1,yn b.1.1.2.1 d (e.1,(e.2.1,(((QM a.2.2.1 0 c)++(zK [f]))++(QM a.2.2.1 (iw .i64 (qd c 1)) a.2.2.1.length),e.2.2.2))),()),()),(0,()))) none) none) none) none) none) none)))
def qbz:Nat->Z84:=qi (λ _ _ _ _=>none) λ m _=>qcq m
def JF(m:Nat)(c:qPh)(a b:List Int):Z4 :=
 cond (qf (ieq a.length b.length)) (some false) (c a b a.length 0)
def JD(m:Nat)(g:qPh)(d c:List (Int))(b a:Int):Z4 :=
 cond (ilt a b) (qa (qc d a) λ f=>qa (qc c a) λ e=>cond (qf (ieq f e)) (some false) (g d c b (iw .i64 (qd a 1)))) (some true)
def yL(m:Nat):=qJ (λ _ _ _ _=>none) λ a=>JD m a
def qaS:Nat->((List Int)->(List Int)->Z4):=qi (λ _ _=>none) λ m _=>JF m (yL m m)
def Jf(m:Nat)(c:qNZ)(a:(Int) × (List (Int × (Int × (Y8 × Bool)))) × Unit)(b:Int):qvi :=
 c b 0 a.1 a.2.1 []
def Jo(m:Nat)(f:qNZ)(e b d:Int)(a:List (Int × (Int × (Y8 × Bool))))(c:List (Int)):qvi :=
 cond (ilt b a.length) (qa (qc a b) λ h=>cond h.2.2.2 (qa (qc a b) λ g=>cond (ieq g.2.1 e) (cond (zp (List.length c+1) 8) (f e (iw .i64 (qd b 1)) d a (c++[b])) none)
 (f e (iw .i64 (qd b 1)) d a c)) (f e (iw .i64 (qd b 1)) d a c)) (some (((d,a,()),()),(c,())))
def yw(m:Nat):=qJ (λ _ _ _ _ _=>none) λ a=>Jo m a
def qal:Nat->qPF:=qi (λ _ _=>none) λ m _=>Jf m (yw m m)
def qci(m:Nat)(c:(Int) × (List (Int × (Int × (Y8 × Bool)))) × Unit)(b:Int):qKb :=
 qa (js m (c.1,c.2.1,()) b false) λ a=>cond (qf (ieq a.2.1 0)) (some (((a.1.1.1,a.1.1.2.1,()),()),([],a.2.1,()))) (qa (qc a.1.1.2.1 b) λ d =>
 some (((a.1.1.1,a.1.1.2.1,()),()),(d.2.2.1,0,())))
def qbu:Nat->qOG:=qi (λ _ _=>none) λ m _=>qci m
def qn6(m:Nat)(c b:(Int) × (List (Int × (Int × (Y8 × Bool)))) × Unit)(a:Int × (Int × (Int × (Int × (T × Int))))):qNV :=
 cond (ieq (jq a.1 7) 0) (qa (Jj m (c.1,c.2.1,()) a.2.1 a.2.2.1 (re a.2.2.2.2.1)) λ p=>qa (qb7 m (b.1,b.2.1,()) a.2.1 a.2.2.1 (re a.2.2.2.2.1)) λ o =>
 cond (ieq p.2.1 o.2.1) (some (((p.1.1.1,p.1.1.2.1,()),(o.1.1.1,o.1.1.2.1,()),()),(ieq p.2.2.1 o.2.2.1,()))) (some (((p.1.1.1,p.1.1.2.1,()),(o.1.1.1,o.1.1.2.1,()),()),(false,()))))
 (cond (ieq (jq a.1 7) 1) (qa (jv m (c.1,c.2.1,()) a.2.1) λ g=>qa (qas m (b.1,b.2.1,()) a.2.1) λ f=>qa (Ji m (re g.2.1)
 (re f.2.1)) λ t=>cond t (cond (ieq g.2.2.1 f.2.2.1) (some (((g.1.1.1,g.1.1.2.1,()),(f.1.1.1,f.1.1.2.1,()),()),(ieq g.2.2.2.1 f.2.2.2.1,())))
 (some (((g.1.1.1,g.1.1.2.1,()),(f.1.1.1,f.1.1.2.1,()),()),(false,())))) (some (((g.1.1.1,g.1.1.2.1,()),(f.1.1.1,f.1.1.2.1,()),()),(false,())))) (cond (ieq (jq a.1 7) 2)
 (qa (qaV m (c.1,c.2.1,()) a.2.1) λ r=>qa (qbQ m (b.1,b.2.1,()) a.2.1) λ q =>
 some (((r.1.1.1,r.1.1.2.1,()),(q.1.1.1,q.1.1.2.1,()),()),(ieq r.2.1 q.2.1,()))) (cond (ieq (jq a.1 7) 3) (qa (Qt m (c.1,c.2.1,()) a.2.1) λ n =>
 qa (qaT m (b.1,b.2.1,()) a.2.1) λ l=>cond (ieq n.2.1 l.2.1) (some (((n.1.1.1,n.1.1.2.1,()),(l.1.1.1,l.1.1.2.1,()),()),(ieq n.2.2.1 l.2.2.1,())))
 (some (((n.1.1.1,n.1.1.2.1,()),(l.1.1.1,l.1.1.2.1,()),()),(false,())))) (cond (ieq (jq a.1 7) 4) (qa (QY m (c.1,c.2.1,()) a.2.1 a.2.2.1 a.2.2.2.1) λ k =>
 qa (qbz m (b.1,b.2.1,()) a.2.1 a.2.2.1 a.2.2.2.1) λ j=>some (((k.1.1.1,k.1.1.2.1,()),(j.1.1.1,j.1.1.2.1,()),()),(ieq k.2.1 j.2.1,()))) (cond (ieq (jq a.1 7) 5)
 (qa (yb m (c.1,c.2.1,()) a.2.1) λ i=>qa (qal m (b.1,b.2.1,()) a.2.1) λ h=>qa (qaS m i.2.1 h.2.1) λ s =>
 some (((i.1.1.1,i.1.1.2.1,()),(h.1.1.1,h.1.1.2.1,()),()),(s,()))) (qa (qak m (c.1,c.2.1,()) a.2.1) λ e =>
 qa (qbu m (b.1,b.2.1,()) a.2.1) λ d=>cond (qy e.2.1 d.2.1) (some (((e.1.1.1,e.1.1.2.1,()),(d.1.1.1,d.1.1.2.1,()),()),(ieq e.2.2.1 d.2.2.1,())))
 (some (((e.1.1.1,e.1.1.2.1,()),(d.1.1.1,d.1.1.2.1,()),()),(false,())))))))))
def qpj:Nat->(Z3->Z3->(Int × (Int × (Int × (Int × (T × Int)))))->qNV):=qi (λ _ _ _=>none) λ m _=>qn6 m
def qdw(m:Nat)(e:qPs)(d:List (Int × (Int × (Int × (Int × (T × Int)))))):qCp :=
 qa (qjq m 4) λ a=>let j1:qCp:=(some ((()),(none,none,false,())));qhx a.2.1 (qa (qns m 4) λ f=>cond (qf (ieq a.2.2.1 0)) j1 j1) λ c=>qa (qns m 4) λ b =>
 cond (qf (ieq a.2.2.1 0)) j1 (e d d.length 0 c.1 b.2.1.1 c.2.1 b.2.1.2.1)
def qdB(m:Nat)(j:qPs)(i:List (Int × (Int × (Int × (Int × (T × Int))))))(h c g f:Int)(e d:List (Int × (Int × (Y8 × Bool)))):qCp :=
 cond (ilt c h) (qa (qc i c) λ a=>qa (qpj m (g,e,()) (f,d,()) (a.1,(a.2.1,(a.2.2.1,(a.2.2.2.1,(re a.2.2.2.2.1,a.2.2.2.2.2)))))) λ b=>cond (qf b.2.1)
 (some ((()),(none,none,false,()))) (j i h (iw .i64 (qd c 1)) b.1.1.1 b.1.2.1.1 b.1.1.2.1 b.1.2.1.2.1)) (some ((()),(some (g,e,()),some (f,d,()),true,())))
def Jn(m:Nat):=qJ (λ _ _ _ _ _ _ _=>none) λ a=>qdB m a
def qgp:Nat->(Z98->qCp):=qi (λ _=>none) λ m _=>qdw m (Jn m m)
def qat(m:Nat)(l:qea)(k j:qd8)(i:qqg)(q:qpX)(p:qea)(o:qpM)(n:qd8)(e:List (Int × (Int × (Int × (Int × (T × Int)))))):Z4 :=
 qa (qf9 m) λ h=>let j1:Z4:=(qa (qf9 m) λ g=>some g);cond (qf h) j1 (qa (qna m e) λ f=>cond (qf f) j1 (qa (qgp m e) λ a =>
 qhx a.2.1 (qhx a.2.2.1 (cond (qf a.2.2.2.1) (some false) (i 0 0)) λ c=>cond (qf a.2.2.2.1) (some false) (j 0 0 c.1 c.2.1)) λ b=>qhx a.2.2.1 (cond (qf a.2.2.2.1) (some false)
 (k 0 0 b.1 b.2.1)) λ d=>cond (qf a.2.2.2.1) (some false) (l 0 0 b.1 d.1 b.2.1 d.2.1)))
def qar(m:Nat)(p:qea)(o n:qd8)(l:qqg)(i:qpX)(h:qea)(k:qpM)(j:qd8)(f a e g:Int)(d c:List (Int × (Int × (Y8 × Bool)))):Z4 :=
 cond (ilt a 4) (qa (yb m (e,d,()) a) λ b=>i f a a b.2.1.length 0 b.1.1.1 g b.1.1.2.1 c b.2.1) (h f c.length 0 e d c)
def qoP(m:Nat)(n:qea)(l k:qd8)(j:qqg)(i:qpX)(h:qea)(f:qpM)(g:qd8)(e a d:Int)(c:List (Int × (Int × (Y8 × Bool)))):Z4 :=
 cond (ilt a 4) (qa (yb m (d,c,()) a) λ b=>f e a a b.2.1.length 0 b.1.1.1 b.1.1.2.1 b.2.1) none
def qpf(m:Nat)(l:qea)(k j:qd8)(i:qqg)(h:qpX)(g:qea)(f:qpM)(d:qd8)(c b e:Int)(a:List (Int × (Int × (Y8 × Bool)))):Z4 :=
 cond (ilt b 4) none (d c a.length 0 a)
def qon(m:Nat)(j:qea)(i h:qd8)(g:qqg)(f:qpX)(e:qea)(d:qpM)(c:qd8)(b a:Int):Z4 :=
 cond (ilt a 4) none none
def qan(m:Nat)(p:qea)(v u:qd8)(t:qqg)(o:qpX)(s:qea)(r:qpM)(q:qd8)(k j i h c g f:Int)(e a:List (Int × (Int × (Y8 × Bool))))(d:List (Int)):Z4 :=
 cond (ilt c h) (qa (qc d c) λ b=>cond (ilt b 0) (some false) (cond (ile a.length b) (some false) (qa (qc a b) λ n=>cond (qf n.2.2.2) (some false) (qa (qc a b) λ l =>
 cond (qf (ieq l.2.1 j)) (some false) (o (iw .i64 (qd k 1)) j i h (iw .i64 (qd c 1)) g f e a d))))) (p k (iw .i64 (qd i 1)) g f e a)
def qaj(m:Nat)(r:qea)(q p:qd8)(o:qqg)(n:qpX)(h:qea)(l:qpM)(k:qd8)(f e a d:Int)(c b:List (Int × (Int × (Y8 × Bool)))):Z4 :=
 cond (ilt a e) (qa (qc b a) λ j=>cond j.2.2.2 (h (iw .i64 (zh f 1)) e (iw .i64 (qd a 1)) d c b) (h f e (iw .i64 (qd a 1)) d c b)) (cond (ieq f 0)
 (qa (yb m (d,c,()) (-1)) λ g=>cond (ieq g.2.1.length 0) (qa (yb m (g.1.1.1,g.1.1.2.1,()) 4) λ i=>some (ieq i.2.1.length 0)) (some false)) (some false))
def qpb(m:Nat)(r:qea)(i q:qd8)(p:qqg)(o:qpX)(n:qea)(l:qpM)(k:qd8)(g j f e a d:Int)(c:List (Int × (Int × (Y8 × Bool))))(b:List (Int)):Z4 :=
 cond (ilt a e) (qa (qc b a) λ h=>cond (ilt h 0) (some false) none) (i g (iw .i64 (qd f 1)) d c)
def qoR(m:Nat)(n:qea)(l k:qd8)(j:qqg)(i:qpX)(h:qea)(g:qpM)(e:qd8)(d c a:Int)(b:List (Int × (Int × (Y8 × Bool)))):Z4 :=
 cond (ilt a c) (qa (qc b a) λ f=>cond f.2.2.2 (e (iw .i64 (zh d 1)) c (iw .i64 (qd a 1)) b) (e d c (iw .i64 (qd a 1)) b)) (cond (ieq d 0) none (some false))
def qb(m:Nat):=qJ ((λ _ _ _ _ _ _=>none,λ _ _ _ _=>none,λ _ _ _ _=>none,λ _ _=>none,λ _ _ _ _ _ _ _ _ _ _=>none,λ _ _ _ _ _ _=>none,λ _ _ _ _ _ _ _ _=>none,λ _ _ _ _=>none)) λ a=>(qar m a.1 a.2.1 a.2.2.1 a.2.2.2.1 a.2.2.2.2.1 a.2.2.2.2.2.1 a.2.2.2.2.2.2.1 a.2.2.2.2.2.2.2,qoP m a.1 a.2.1 a.2.2.1 a.2.2.2.1 a.2.2.2.2.1 a.2.2.2.2.2.1 a.2.2.2.2.2.2.1 a.2.2.2.2.2.2.2,qpf m a.1 a.2.1 a.2.2.1 a.2.2.2.1 a.2.2.2.2.1 a.2.2.2.2.2.1 a.2.2.2.2.2.2.1 a.2.2.2.2.2.2.2,qon m a.1 a.2.1 a.2.2.1 a.2.2.2.1 a.2.2.2.2.1 a.2.2.2.2.2.1 a.2.2.2.2.2.2.1 a.2.2.2.2.2.2.2,qan m a.1 a.2.1 a.2.2.1 a.2.2.2.1 a.2.2.2.2.1 a.2.2.2.2.2.1 a.2.2.2.2.2.2.1 a.2.2.2.2.2.2.2,qaj m a.1 a.2.1 a.2.2.1 a.2.2.2.1 a.2.2.2.2.1 a.2.2.2.2.2.1 a.2.2.2.2.2.2.1 a.2.2.2.2.2.2.2,qpb m a.1 a.2.1 a.2.2.1 a.2.2.2.1 a.2.2.2.2.1 a.2.2.2.2.2.1 a.2.2.2.2.2.2.1 a.2.2.2.2.2.2.2,qoR m a.1 a.2.1 a.2.2.1 a.2.2.2.1 a.2.2.2.2.1 a.2.2.2.2.2.1 a.2.2.2.2.2.2.1 a.2.2.2.2.2.2.2)
def law31_NetworkWaits:Nat->qOt:=qi (λ _=>none) λ m _=>qat m (qb m m).1 (qb m m).2.1 (qb m m).2.2.1 (qb m m).2.2.2.1 (qb m m).2.2.2.2.1 (qb m m).2.2.2.2.2.1 (qb m m).2.2.2.2.2.2.1 (qb m m).2.2.2.2.2.2.2
end
end Go.AmZ
namespace Go.AmZ
open Go Go.GxZ
def Ev{α : Type}(F:Nat->Nat->Option α)(r : α):Prop:=∃ B,∀ m k,B<=m->B<=k->F m k=some r
section
variable {α β : Type} {F G:Nat->Nat->Option α} {r : α}
theorem Ev.pure(r : α):Ev (λ _ _=>some r) r:=⟨0,λ _ _ _ _=>rfl⟩
theorem Ev.ret{r a : α}(h:r=a):Ev (λ _ _=>some r) a:=by subst h;exact .pure r
theorem Ev.bind{X:Nat->Nat->Option β}{K:Nat->Nat -> β -> Option α}{a : β}(h:Ev X a)(g:Ev (λ m k=>K m k a) r):Ev (λ m k=>qa (X m k) (K m k)) r:=by
 obtain⟨B,h⟩:=h;obtain⟨C,g⟩:=g;refine⟨max B C,λ m k b c=>?_⟩;simp only[h m k (by omega) (by omega),qa];exact g m k (by omega) (by omega)
theorem Ev.congr(h:Ev F r)(e:∀ m k,G m k=F m k):Ev G r:=by
 obtain⟨B,h⟩:=h;exact⟨B,λ m k a b=>(e m k).trans (h m k a b)⟩
theorem Ev.res{a : α}(h:Ev F r)(e:r=a):Ev F a:=by subst e;exact h
theorem Ev.succ{f:Nat->Option α}(h:Ev (λ m _=>f (m+1)) r):Ev (λ m _=>f m) r:=by
 obtain⟨B,h⟩:=h;refine⟨B+1,λ m k a b=>?_⟩;obtain⟨m,rfl⟩:∃ n,m=n+1:=⟨m-1,by omega⟩
 exact h m B (by omega) (wb _)
theorem Ev.loop{L:Nat->Nat->Option α}(h:Ev (λ m k=>L m (k+1)) r):Ev (λ m k=>L m k) r:=by
 obtain⟨B,h⟩:=h;refine⟨B+1,λ m k a b=>?_⟩;obtain⟨k,rfl⟩:∃ n,k=n+1:=⟨k-1,by omega⟩
 exact h m k (by omega) (by omega)
theorem Ev.diag{L:Nat->Nat->Option α}(h:Ev L r):Ev (λ m _=>L m m) r:=by
 obtain⟨B,h⟩:=h;exact⟨B,λ m k a _=>h m m a a⟩
theorem Ev.ct{b:Bool}(a:b=true)(h:Ev F r):Ev (λ m k=>cond b (F m k) (G m k)) r:=by subst a;exact h
theorem Ev.cf{b:Bool}(a:b=false)(h:Ev G r):Ev (λ m k=>cond b (F m k) (G m k)) r:=by subst a;exact h
theorem Ev.ite{b:Bool}(h:b=true->Ev F r)(g:b=false->Ev G r):Ev (λ m k=>cond b (F m k) (G m k)) r:=by
 cases b with
 | true=>exact h rfl
 | false=>exact g rfl
theorem Ev.some{x:Option β}{K:Nat->Nat -> β -> Option α}{a : β}(b:x=some a)(g:Ev (λ m k=>K m k a) r):Ev (λ m k=>qa x (K m k)) r:=by subst b;exact g
theorem Ev.case{l:List β}{K:Nat->Nat -> β -> List β -> Option α}(h:l=[]->Ev F r)(g:∀ x t,l=x::t->Ev (λ m k=>K m k x t) r):Ev (λ m k=>qkZ l (F m k) (K m k)) r:=by
 cases l with
 | nil=>exact h rfl
 | cons x t=>exact g x t rfl
theorem Ev.get{x:Option α}(h:Ev (λ _ _=>x) r):x=Option.some r:=by
 obtain⟨B,h⟩:=h;exact h B B (wb _) (wb _)
end
theorem qs{a b:Int}:ilt a b=true↔a<b:=by unfold ilt;exact decide_eq_true_iff
theorem qn{a b:Int}:ilt a b=false↔b<=a:=by unfold ilt;rw[decide_eq_false_iff_not];omega
theorem jm{a b:Int}:ile a b=true↔a<=b:=by unfold ile;exact decide_eq_true_iff
theorem yq{a b:Int}:ile a b=false↔b<a:=by unfold ile;rw[decide_eq_false_iff_not];omega
theorem qk{a b:Int}:ieq a b=true↔a=b:=by unfold ieq;exact beq_iff_eq
theorem qh{a b:Int}:ieq a b=false↔a≠b:=by unfold ieq;exact beq_eq_false_iff_ne
theorem bnt{b:Bool}:qf b=true↔b=false:=by cases b<;>simp[qf]
theorem bnf{b:Bool}:qf b=false↔b=true:=by cases b<;>simp[qf]
theorem yQ{a b:List UInt8}:qy a b=true↔a=b:=by unfold qy;exact beq_iff_eq
theorem jS{a b:List UInt8}:qy a b=false↔a≠b:=by unfold qy;exact beq_eq_false_iff_ne
theorem jF{n:Int}(h:-9223372036854775808<=n/\n<=9223372036854775807):iw .i64 n=n:=IntWalk.i64_in n h
theorem qlS(a b:Nat):qd (a:Int) (b:Int)=((a+b:Nat):Int):=by unfold qd;omega
theorem qD{n b:Nat}(h:n*b<=2 ^ 47)(a:0<b):zp n b=true:=by
 unfold zp;rw[decide_eq_true_iff];refine⟨h,?_⟩;have:n*1<=n*b:=vP _ a;omega
theorem qU{α : Type}(l:List α)(i:Nat):qc l (i:Int)=l[i]?:=by
 unfold qc;rw[if_pos (by omega),wF]
theorem qad{α : Type}(l:List α):qc l 0=l[0]?:=qU l 0
theorem qr{α : Type}{P:Nat->Prop}(l:List α)(g:l.length<2 ^ 62)(e:ilt (l.length:Int) (l.length:Int)=false->P l.length)
  (b:∀(i:Nat) (x : α),l[i]?=some x->l.drop i=x::l.drop (i+1)->ilt (i:Int) (l.length:Int)=true->qc l (i:Int)=some x->iw .i64 (qd (i:Int) 1)=((i+1:Nat):Int)->P (i+1)->P i):∀ i,i<=l.length->P i:=by
 intro i h;obtain⟨d,j⟩:∃ d,l.length=i+d:=⟨l.length-i,by omega⟩
 induction d generalizing i with
 | zero =>
   have:i=l.length:=by omega
   subst this;exact e (qn.2 (vj _))
 | succ d f =>
   have c:i<l.length:=by omega
   have a:=List.getElem?_eq_getElem c;refine b i _ a (waa c) (qs.2 (by omega)) (by rw[qU,a]) ?_ (f (i+1) (by omega) (by omega));rw[show qd (i:Int) 1=((i+1:Nat):Int) by unfold qd;omega,jF (by omega)]
abbrev wat:=@Ev.bind
abbrev wau:=@Ev.pure
abbrev wav:=@Ev.ct
abbrev waw:=@Ev.some
abbrev wax:=@Ev.cf
abbrev way:=@Ev.ite
abbrev waz:=@Ev.ret
abbrev waA:=@Ev.succ
abbrev waB:=@Ev.loop
abbrev waC:=@Ev.diag
end Go.AmZ
namespace Go.AmZ
open Go Go.GxZ
set_option linter.unusedVariables false
theorem qAb(m):qjq (m+1)=qiF m:=rfl
theorem qmS(m):QS (m+1)=qbb m:=rfl
theorem qD8(m):qjC (m+1)=qlt m:=rfl
theorem qAW(m):qdZ (m+1)=qfc m (QE m m):=rfl
theorem qoy(m k):(QE m (k+1))=qfr m (QE m k):=rfl
theorem qDC(m):yf (m+1)=qgr m (yf m) (jK m (yf m) m):=rfl
theorem qqK(m k):(jK m (yf m) (k+1))=qgq m (yf m) (jK m (yf m) k):=rfl
theorem qBm(m):yG (m+1)=qj2 m:=rfl
theorem qvV(m):qdP (m+1)=qdk m (Je m m):=rfl
theorem qlJ(m k):(Je m (k+1))=qdI m (Je m k):=rfl
theorem qxq(m):qE (m+1)=qeA m (qE m) (qV m (qE m) m).1 (qV m (qE m) m).2:=rfl
theorem qnI(m k):(qV m (qE m) (k+1)).1=qex m (qE m) (qV m (qE m) k).1 (qV m (qE m) k).2:=rfl
theorem qnp(m k):(qV m (qE m) (k+1)).2=qeC m (qE m) (qV m (qE m) k).1 (qV m (qE m) k).2:=rfl
theorem qyP(m):qeU (m+1)=qhE m:=rfl
theorem qoh(m):qaJ (m+1)=qbI m:=rfl
theorem qss(m):zJ (m+1)=qbw m (zJ m) (Qb m (zJ m) m):=rfl
theorem qiB(m k):(Qb m (zJ m) (k+1))=qby m (zJ m) (Qb m (zJ m) k):=rfl
theorem qEi(m):qeY (m+1)=ql4 m:=rfl
theorem qEp(m):Ql (m+1)=qhU m (Ql m) (qcl m (Ql m) m):=rfl
theorem qsC(m k):(qcl m (Ql m) (k+1))=qig m (Ql m) (qcl m (Ql m) k):=rfl
theorem qxT(m):qB (m+1)=qet m (qB m) (Qe m (qB m) m):=rfl
theorem qhM(m k):(Qe m (qB m) (k+1))=qbW m (qB m) (Qe m (qB m) k):=rfl
theorem qdb(m):zb (m+1)=qs5 (qB m):=rfl
theorem qup(m):jd (m+1)=qfW m:=rfl
theorem qb5(m):qI (m+1)=qv7 (jd m):=rfl
theorem qBr(m):jz (m+1)=qgy m (jz m) (qbd m (jz m) m):=rfl
theorem qqM(m k):(qbd m (jz m) (k+1))=qgl m (jz m) (qbd m (jz m) k):=rfl
theorem qyQ(m):qh5 (m+1)=qeD m (JZ m m):=rfl
theorem qm0(m k):(JZ m (k+1))=qev m (JZ m k):=rfl
theorem qAw(m):qnZ (m+1)=qiT m:=rfl
theorem qEg(m):qnP (m+1)=qlW m:=rfl
theorem qAF(m):J4 (m+1)=qiC m:=rfl
theorem qEf(m):ju (m+1)=ql8 m:=rfl
theorem quh(m):qc9 (m+1)=qfY m:=rfl
theorem qgb(m):zP (m+1)=yZ m (qp m m).1 (qp m m).2:=rfl
theorem qaI(m k):(qp m (k+1)).1=yY m (qp m k).1 (qp m k).2:=rfl
theorem qaG(m k):(qp m (k+1)).2=ja m (qp m k).1 (qp m k).2:=rfl
theorem qEG(m):qnb (m+1)=qh3 m (qcf m m):=rfl
theorem qsc(m k):(qcf m (k+1))=qhC m (qcf m k):=rfl
theorem qHi(m):ql2 (m+1)=qjf m (qdg m m):=rfl
theorem qtO(m k):(qdg m (k+1))=qjt m (qdg m k):=rfl
theorem qxp(m):yE (m+1)=qeq m (yE m) (QR m (yE m) m):=rfl
theorem qmU(m k):(QR m (yE m) (k+1))=qew m (yE m) (QR m (yE m) k):=rfl
theorem qyU(m):qhK (m+1)=qer m (qa0 m m):=rfl
theorem qwz(m k):(qa0 m (k+1))=qht m (qa0 m k):=rfl
theorem qJi(m):qam (m+1)=qkR m (qam m) (qe5 m (qam m) m):=rfl
theorem qwC(m k):(qe5 m (qam m) (k+1))=qkN m (qam m) (qe5 m (qam m) k):=rfl
theorem qIb(m):qs0 (m+1)=qk4 m (qeI m m):=rfl
theorem qwE(m k):(qeI m (k+1))=qkP m (qeI m k):=rfl
theorem qth(m):qcb (m+1)=qeH m:=rfl
theorem qug(m):zw (m+1)=qcE m (zw m) (QJ m (zw m) m):=rfl
theorem qkn(m k):(QJ m (zw m) (k+1))=qcO m (zw m) (QJ m (zw m) k):=rfl
theorem qq8(m):qaE (m+1)=qdA m:=rfl
theorem Q8(m):qK (m+1)=qF m (qt m m):=rfl
theorem yt(m k):(qt m (k+1))=qG m (qt m k):=rfl
theorem qtn(m):qbX (m+1)=qeM m:=rfl
theorem qr8(m):zr (m+1)=qbv m (zr m) (jr m (zr m) m):=rfl
theorem qiA(m k):(jr m (zr m) (k+1))=qbx m (zr m) (jr m (zr m) k):=rfl
theorem qAz(m):qcd (m+1)=qi8 m:=rfl
theorem qu9(m):qaZ (m+1)=qcB m (j7 m m):=rfl
theorem qkB(m k):(j7 m (k+1))=qcM m (j7 m k):=rfl
theorem qv6(m):Js (m+1)=qdp m (qA m m).1 (qA m m).2.1 (qA m m).2.2:=rfl
theorem qml(m k):(qA m (k+1)).1=qdG m (qA m k).1 (qA m k).2.1 (qA m k).2.2:=rfl
theorem qmc(m k):(qA m (k+1)).2.1=qdh m (qA m k).1 (qA m k).2.1 (qA m k).2.2:=rfl
theorem qlD(m k):(qA m (k+1)).2.2=qdo m (qA m k).1 (qA m k).2.1 (qA m k).2.2:=rfl
theorem qtt(m):qec (m+1)=qca m (Qk m m):=rfl
theorem qjM(m k):(Qk m (k+1))=qbV m (Qk m k):=rfl
theorem qq3(m):qcF (m+1)=qdL m:=rfl
theorem qbS(m):zV (m+1)=zG m (qC m m):=rfl
theorem yy(m k):(qC m (k+1))=q9 m (qC m k):=rfl
theorem qa7(m):zD (m+1)=yi m:=rfl
theorem qtj(m):qed (m+1)=qeS m:=rfl
theorem qx2(m):qhw (m+1)=qel m (JU m m):=rfl
theorem qnj(m k):(JU m (k+1))=qeB m (JU m k):=rfl
theorem qxS(m):qhs (m+1)=qhD m:=rfl
theorem qv9(m):yC (m+1)=qdu m (yC m) (Jl m (yC m) m):=rfl
theorem qlP(m k):(Jl m (yC m) (k+1))=qdn m (yC m) (Jl m (yC m) k):=rfl
theorem qvG(m):qgh (m+1)=qgU m:=rfl
theorem quB(m):qfd (m+1)=qfU m:=rfl
theorem qqj(m):zc (m+1)=qaq m (zc m) (yH m (zc m) m):=rfl
theorem qhj(m k):(yH m (zc m) (k+1))=qao m (zc m) (yH m (zc m) k):=rfl
theorem qyT(m):qeR (m+1)=qho m:=rfl
theorem qmP(m):qcZ (m+1)=qa4 m:=rfl
theorem JM(m):za (m+1)=qP m (qv m m):=rfl
theorem yT(m k):(qv m (k+1))=qO m (qv m k):=rfl
theorem qrr(m):ym (m+1)=qd5 m:=rfl
theorem qeg(m):yx (m+1)=QD m:=rfl
theorem quv(m):zW (m+1)=qcL m (zW m) (jY m (zW m) m):=rfl
theorem qkp(m k):(jY m (zW m) (k+1))=qcz m (zW m) (jY m (zW m) k):=rfl
theorem qtl(m):qeh (m+1)=qeZ m:=rfl
theorem qoE(m):JK (m+1)=qce m:=rfl
theorem qCy(m):qk2 (m+1)=qge m (qbf m m):=rfl
theorem qqQ(m k):(qbf m (k+1))=qgA m (qbf m k):=rfl
theorem qD5(m):qjQ (m+1)=qmj m:=rfl
theorem qn0(m):Jj (m+1)=qbH m:=rfl
theorem qkT(m):jw (m+1)=qau m:=rfl
theorem qmG(m):QY (m+1)=qbi m:=rfl
theorem qEb(m):qm5 (m+1)=ql3 m:=rfl
theorem qn3(m):zg (m+1)=qbB m:=rfl
theorem qnS(m):Jb (m+1)=JJ m (yg m m):=rfl
theorem qbC(m k):(yg m (k+1))=Qh m (yg m k):=rfl
theorem qcr(m):qx (m+1)=Qi m:=rfl
theorem qoa(m):jy (m+1)=qp7 (qx m) m:=rfl
theorem qts(m):qek (m+1)=qeJ m:=rfl
theorem qkE(m):jv (m+1)=qaB m:=rfl
theorem qyn(m):qa8 (m+1)=qhT m:=rfl
theorem qDs(m):yV (m+1)=qgt m (yV m) (qa9 m (yV m) m):=rfl
theorem qqP(m k):(qa9 m (yV m) (k+1))=qgC m (yV m) (qa9 m (yV m) k):=rfl
theorem qxi(m):zM (m+1)=qdD m (zM m) (Jg m (zM m) m):=rfl
theorem qmd(m k):(Jg m (zM m) (k+1))=qdj m (zM m) (Jg m (zM m) k):=rfl
theorem qCB(m):Ji (m+1)=qkb m:=rfl
theorem qmo(m):Qt (m+1)=qaP m:=rfl
theorem qyB(m):jc (m+1)=qey m (jc m) (J0 m (jc m) m):=rfl
theorem qnN(m k):(J0 m (jc m) (k+1))=qee m (jc m) (J0 m (jc m) k):=rfl
theorem qEy(m):qni (m+1)=qhN m (qct m m):=rfl
theorem qr0(m k):(qct m (k+1))=qhu m (qct m k):=rfl
theorem qEK(m):qna (m+1)=qid m (qch m m):=rfl
theorem qrS(m k):(qch m (k+1))=qh7 m (qch m k):=rfl
theorem qD7(m):qns (m+1)=qlI m:=rfl
theorem qmM(m):qak (m+1)=qbc m:=rfl
theorem qAX(m):jh (m+1)=qfs m (jh m) (qav m (jh m) m):=rfl
theorem qo8(m k):(qav m (jh m) (k+1))=qfz m (jh m) (qav m (jh m) k):=rfl
theorem qx7(m):qfa (m+1)=qhB m:=rfl
theorem qAg(m):qjo (m+1)=qiN m:=rfl
theorem qxs(m):qag (m+1)=qeu m (JR m m):=rfl
theorem qnH(m k):(JR m (k+1))=qen m (JR m k):=rfl
theorem qDu(m):qkG (m+1)=qjX m:=rfl
theorem qAD(m):jN (m+1)=qfe m (jN m) (qax m (jN m) m):=rfl
theorem qoz(m k):(qax m (jN m) (k+1))=qfg m (jN m) (qax m (jN m) k):=rfl
theorem qAp(m):jo (m+1)=qiV m:=rfl
theorem qBi(m):qff (m+1)=qgg m (qbp m m):=rfl
theorem qqL(m k):(qbp m (k+1))=qgk m (qbp m k):=rfl
theorem qBH(m):qkY (m+1)=qgD m (qbk m m):=rfl
theorem qqW(m k):(qbk m (k+1))=qgn m (qbk m k):=rfl
theorem qxY(m):qhn (m+1)=qes m (JS m m):=rfl
theorem qnt(m k):(JS m (k+1))=qei m (JS m k):=rfl
theorem qAS(m):jl (m+1)=qfK m (jl m) (Jw m (jl m) m):=rfl
theorem qoW(m k):(Jw m (jl m) (k+1))=qfB m (jl m) (Jw m (jl m) k):=rfl
theorem qAv(m):qdY (m+1)=qiY m:=rfl
theorem qD4(m):Qm (m+1)=qis m (Qm m) (qcs m (Qm m) m):=rfl
theorem qrA(m k):(qcs m (Qm m) (k+1))=qic m (Qm m) (qcs m (Qm m) k):=rfl
theorem qEE(m):qjU (m+1)=qhy m (qcp m m):=rfl
theorem qsa(m k):(qcp m (k+1))=qim m (qcp m k):=rfl
theorem qD9(m):qnn (m+1)=qib m (qcm m m):=rfl
theorem qrF(m k):(qcm m (k+1))=qhS m (qcm m k):=rfl
theorem qCK(m):qkU (m+1)=qgo m (qa3 m m):=rfl
theorem qqY(m k):(qa3 m (k+1))=qgz m (qa3 m k):=rfl
theorem qBS(m):qk3 (m+1)=qj7 m:=rfl
theorem qxJ(m):qhP (m+1)=qhX m:=rfl
theorem qEo(m):Qo (m+1)=qlU m:=rfl
theorem qGQ(m):qcc (m+1)=qnU m:=rfl
theorem qvu(m):qgj (m+1)=qgT m:=rfl
theorem qAG(m):qjp (m+1)=qfG m (qaC m m):=rfl
theorem qoo(m k):(qaC m (k+1))=qfx m (qaC m k):=rfl
theorem qCP(m):qkD (m+1)=qj1 m:=rfl
theorem qEI(m):qnO (m+1)=qhA m (qco m m):=rfl
theorem qsF(m k):(qco m (k+1))=qhz m (qco m k):=rfl
theorem qyr(m):qhQ (m+1)=qef m (JW m m):=rfl
theorem qmW(m k):(JW m (k+1))=qem m (JW m k):=rfl
theorem qDS(m):qhZ (m+1)=qgx m (qaf m m):=rfl
theorem qqZ(m k):(qaf m (k+1))=qgm m (qaf m k):=rfl
theorem quZ(m):zZ (m+1)=qcA m (zZ m) (jW m (zZ m) m):=rfl
theorem qks(m k):(jW m (zZ m) (k+1))=qcN m (zZ m) (jW m (zZ m) k):=rfl
theorem qDn(m):qk9 (m+1)=qjY m:=rfl
theorem qEk(m):qny (m+1)=qir m (qcv m m):=rfl
theorem qsq(m k):(qcv m (k+1))=qh2 m (qcv m k):=rfl
theorem qvX(m):qbN (m+1)=qgK m:=rfl
theorem qAu(m):jn (m+1)=qfv m (jn m) (Jt m (jn m) m):=rfl
theorem qoF(m k):(Jt m (jn m) (k+1))=qfj m (jn m) (Jt m (jn m) k):=rfl
theorem qEt(m):qjA (m+1)=qie m (J1 m m):=rfl
theorem qsv(m k):(J1 m (k+1))=qh1 m (J1 m k):=rfl
theorem qw8(m):yk (m+1)=qds m (yk m) (Qn m (yk m) m):=rfl
theorem ql9(m k):(Qn m (yk m) (k+1))=qdl m (yk m) (Qn m (yk m) k):=rfl
theorem qGh(m):qiJ (m+1)=qn5 m:=rfl
theorem qAQ(m):qd0 (m+1)=qfH m (Jv m m):=rfl
theorem qoI(m k):(Jv m (k+1))=qfF m (Jv m k):=rfl
theorem qu6(m):qft (m+1)=qcI m (qm m m).1 (qm m m).2.1 (qm m m).2.2.1 (qm m m).2.2.2:=rfl
theorem qku(m k):(qm m (k+1)).1=qcD m (qm m k).1 (qm m k).2.1 (qm m k).2.2.1 (qm m k).2.2.2:=rfl
theorem qky(m k):(qm m (k+1)).2.1=qcG m (qm m k).1 (qm m k).2.1 (qm m k).2.2.1 (qm m k).2.2.2:=rfl
theorem qkz(m k):(qm m (k+1)).2.2.1=qcy m (qm m k).1 (qm m k).2.1 (qm m k).2.2.1 (qm m k).2.2.2:=rfl
theorem qkt(m k):(qm m (k+1)).2.2.2=qcC m (qm m k).1 (qm m k).2.1 (qm m k).2.2.1 (qm m k).2.2.2:=rfl
theorem qDi(m):qdE (m+1)=qj0 m:=rfl
theorem qwu(m):qdT (m+1)=qgI m:=rfl
theorem qwN(m):qgd (m+1)=qdr m (Jh m m):=rfl
theorem qlH(m k):(Jh m (k+1))=qdJ m (Jh m k):=rfl
theorem qEh(m):qm3 (m+1)=qiq m (qaY m m):=rfl
theorem qsn(m k):(qaY m (k+1))=qin m (qaY m k):=rfl
theorem qAy(m):qjk (m+1)=qja m:=rfl
theorem qxX(m):je (m+1)=qeo m (je m) (JP m (je m) m):=rfl
theorem qnR(m k):(JP m (je m) (k+1))=qeb m (je m) (JP m (je m) k):=rfl
theorem qyM(m):qix (m+1)=qhJ m:=rfl
theorem qAc(m):qf7 (m+1)=qfO m (qaA m m):=rfl
theorem qo4(m k):(qaA m (k+1))=qfE m (qaA m k):=rfl
theorem qAh(m):qjm (m+1)=qjc m:=rfl
theorem qAR(m):qjw (m+1)=qfw m (qaD m m):=rfl
theorem qow(m k):(qaD m (k+1))=qfl m (qaD m k):=rfl
theorem qv2(m):qdM (m+1)=qgH m:=rfl
theorem qAO(m):ji (m+1)=qfk m (ji m) (Jx m (ji m) m):=rfl
theorem qop(m k):(Jx m (ji m) (k+1))=qfy m (ji m) (Jx m (ji m) k):=rfl
theorem qyj(m):qh8 (m+1)=qh0 m:=rfl
theorem qA2(m):qjh (m+1)=qfN m (qaw m m):=rfl
theorem qoZ(m k):(qaw m (k+1))=qfC m (qaw m k):=rfl
theorem qBy(m):qh6 (m+1)=qkl m:=rfl
theorem qpD(m):qb7 (m+1)=qcY m:=rfl
theorem qok(m):qaV (m+1)=qbJ m:=rfl
theorem qk0(m):yb (m+1)=QB m (yd m m):=rfl
theorem qdW(m k):(yd m (k+1))=QC m (yd m k):=rfl
theorem qp5(m):js (m+1)=qcS m:=rfl
theorem qn1(m):qaT (m+1)=qbE m:=rfl
theorem qDJ(m):qlb (m+1)=qj9 m:=rfl
theorem qlR(m):qdx (m+1)=qbK m (jH m m):=rfl
theorem qq1(m k):(jH m (k+1))=qgi m (jH m k):=rfl
theorem qCv(m):qdm (m+1)=qgu m (qa5 m m):=rfl
theorem qz8(m k):(qa5 m (k+1))=qj8 m (qa5 m k):=rfl
theorem qij(m):qW (m+1)=qay m (qW m) (Qu m (qW m) m):=rfl
theorem qkh(m k):(Qu m (qW m) (k+1))=qdO m (qW m) (Qu m (qW m) k):=rfl
theorem qx1(m):qia (m+1)=qhY m:=rfl
theorem qmJ(m):qas (m+1)=qbl m:=rfl
theorem qpP(m):qbQ (m+1)=qcX m:=rfl
theorem qoT(m):qbz (m+1)=qcq m:=rfl
theorem qol(m):qaS (m+1)=JF m (yL m m):=rfl
theorem qfQ(m k):(yL m (k+1))=JD m (yL m k):=rfl
theorem qmT(m):qal (m+1)=Jf m (yw m m):=rfl
theorem qeF(m k):(yw m (k+1))=Jo m (yw m k):=rfl
theorem qoU(m):qbu (m+1)=qci m:=rfl
theorem qHO(m):qpj (m+1)=qn6 m:=rfl
theorem qwy(m):qgp (m+1)=qdw m (Jn m m):=rfl
theorem qmn(m k):(Jn m (k+1))=qdB m (Jn m k):=rfl
theorem qp1(m):law31_NetworkWaits (m+1)=qat m (qb m m).1 (qb m m).2.1 (qb m m).2.2.1 (qb m m).2.2.2.1 (qb m m).2.2.2.2.1 (qb m m).2.2.2.2.2.1 (qb m m).2.2.2.2.2.2.1 (qb m m).2.2.2.2.2.2.2:=rfl
theorem qhb(m k):(qb m (k+1)).1=qar m (qb m k).1 (qb m k).2.1 (qb m k).2.2.1 (qb m k).2.2.2.1 (qb m k).2.2.2.2.1 (qb m k).2.2.2.2.2.1 (qb m k).2.2.2.2.2.2.1 (qb m k).2.2.2.2.2.2.2:=rfl
theorem qhh(m k):(qb m (k+1)).2.2.2.2.1=qan m (qb m k).1 (qb m k).2.1 (qb m k).2.2.1 (qb m k).2.2.2.1 (qb m k).2.2.2.2.1 (qb m k).2.2.2.2.2.1 (qb m k).2.2.2.2.2.2.1 (qb m k).2.2.2.2.2.2.2:=rfl
theorem qhc(m k):(qb m (k+1)).2.2.2.2.2.1=qaj m (qb m k).1 (qb m k).2.1 (qb m k).2.2.1 (qb m k).2.2.2.1 (qb m k).2.2.2.2.1 (qb m k).2.2.2.2.2.1 (qb m k).2.2.2.2.2.2.1 (qb m k).2.2.2.2.2.2.2:=rfl
end Go.AmZ
namespace Go.AmZ
open Go Go.GxZ
def ckS(p:Int × Int)(c:UInt8):Int × Int:=((p.1+c.toNat) % 65521,(p.2+(p.1+c.toNat) % 65521) % 65521)
def ckF(l:List UInt8):Int × Int:=l.foldl ckS (1,0)
def InC(p:Int × Int):Prop:=0<=p.1/\p.1<65521/\0<=p.2/\p.2<65521
theorem qN6{p:Int × Int}(c:UInt8)(h:InC p):InC (ckS p c):=by
 obtain⟨e,d,b,a⟩:=h;unfold ckS InC;simp only;omega
theorem qvl:∀(l:List UInt8) (p:Int × Int),InC p->InC (l.foldl ckS p)
 | [],_,h=>h
 | c::l,p,h=>qvl l _ (qN6 c h)
theorem qw9(l:List UInt8):InC (ckF l):=qvl l _ (by unfold InC;omega)
theorem qE3{p:Int × Int}(c:UInt8)(h:InC p):jq (iw .u32 (qd p.1 (iw .u32 ((UInt8.toNat c:Nat):Int)))) 65521=(ckS p c).1 /\
  jq (iw .u32 (qd p.2 (jq (iw .u32 (qd p.1 (iw .u32 ((UInt8.toNat c:Nat):Int)))) 65521))) 65521=(ckS p c).2:=by
 obtain⟨j,i,g,f⟩:=h;have e:c.toNat<256:=c.toNat_lt;have e1:iw .u32 ((UInt8.toNat c:Nat):Int)=((UInt8.toNat c:Nat):Int):=IntWalk.u32_in _ (by omega);have d:iw .u32 (qd p.1 ((UInt8.toNat c:Nat):Int))=p.1+((UInt8.toNat c:Nat):Int):=IntWalk.u32_in _ (by unfold qd;omega);have b:jq (p.1+((UInt8.toNat c:Nat):Int)) 65521=(p.1+((UInt8.toNat c:Nat):Int)) % 65521:=IntWalk.rem_in _ _ (by omega);rw[e1,d,b];refine⟨rfl,?_⟩;have a:iw .u32 (qd p.2 ((p.1+((UInt8.toNat c:Nat):Int)) % 65521))=p.2+(p.1+((UInt8.toNat c:Nat):Int)) % 65521:=IntWalk.u32_in _ (by unfold qd;omega);rw[a];exact IntWalk.rem_in _ _ (by omega)
def ckN(p:Int × Int):Int:=65536*p.2+p.1
theorem qPU{p:Int × Int}(h:InC p):qmv .or .u32 (qyh .u32 p.2 16) p.1=ckN p:=by
 obtain⟨h1,h2,h3,h4⟩:=h;obtain⟨a,ha⟩:=kt h1;obtain⟨b,hb⟩:=kt h3
 have e1:qyh .u32 p.2 16=((b*65536:Nat):Int):=by
  show IntKind.u32.wrap (p.2*2 ^ (min (16:Int).toNat 32))=_;rw[show(2:Int) ^ (min (16:Int).toNat 32)=65536 from rfl,IntWalk.u32_in _ (by omega),hb];omega
 rw[e1,ha];show IntKind.u32.wrap ((BitVec.ofInt 32 ((b*65536:Nat):Int) ||| BitVec.ofInt 32 (a:Int)).toNat:Int)=_
 have e2:(BitVec.ofInt 32 ((b*65536:Nat):Int) ||| BitVec.ofInt 32 (a:Int)).toNat=b*65536+a:=by
  rw[BitVec.ofInt_natCast,BitVec.ofInt_natCast,BitVec.toNat_or,BitVec.toNat_ofNat,BitVec.toNat_ofNat,xr (by omega),xr (by omega)];have:=Nat.two_pow_add_eq_or_of_lt (i:=16) (b:=a) (by omega) b;rw[show(2:Nat) ^ 16=65536 from rfl]at this;rw[xG b 65536];exact this.symm
 rw[e2,IntWalk.u32_in _ (by omega)];unfold ckN;omega
theorem qOd{p:Int × Int}(h:InC p):iw .u32 (qd (iw .u32 (qtQ 65536 p.2)) p.1)=ckN p:=by
 obtain⟨d,c,b,a⟩:=h;have e1:iw .u32 (qtQ 65536 p.2)=65536*p.2:=IntWalk.u32_in _ (by unfold qtQ;omega);rw[e1];exact IntWalk.u32_in _ (by unfold qd;omega)
theorem qJL{p:Int × Int}(h:InC p):0<=ckN p/\ckN p<4294967296:=by
 obtain⟨d,c,b,a⟩:=h;unfold ckN;omega
theorem qw2{l:List UInt8}{i:Nat}{x:UInt8}(h:l[i]?=some x)(p:Int × Int):(l.take (i+1)).foldl ckS p=ckS ((l.take i).foldl ckS p) x:=by
 rw[List.take_succ_eq_append_getElem (List.getElem?_eq_some_iff.1 h).1,xe,(List.getElem?_eq_some_iff.1 h).2];rfl
theorem qJq(s:List UInt8)(d:s.length<2 ^ 62):Ev (λ m _=>qk2 m s) (ckN (ckF s)):=by
 refine waA ?_;simp only[qCy,qge]
 have a:=qr (P := λ i=>Ev (λ m k=>qbf m k s ((s.take i).foldl ckS (1,0)).1 ((s.take i).foldl ckS (1,0)).2 s.length i) (ckN (ckF s))) s d
  (λ b=>by
   refine waB ?_;simp only[qqQ,qgA];refine wax b (waz ?_);rw[wC];exact qPU (qw9 s))
  (λ i x c j b f e g=>by
   refine waB ?_;simp only[qqQ,qgA];refine wav b (waw f ?_);obtain⟨e1,h⟩:=qE3 x (qvl (s.take i) (1,0) (by unfold InC;omega));rw[e,h,e1,<- qw2 c];exact g)
 exact waC (L := λ m k=>qbf m k s 1 0 s.length 0) (a 0 (we _))
theorem qHl(s:List UInt8)(d:s.length<2 ^ 62):Ev (λ m _=>qjh m s) (ckN (ckF s)):=by
 refine waA ?_;simp only[qA2,qfN]
 have a:=qr (P := λ i=>Ev (λ m k=>qaw m k s ((s.take i).foldl ckS (1,0)).1 ((s.take i).foldl ckS (1,0)).2 i) (ckN (ckF s))) s d
  (λ b=>by
   refine waB ?_;simp only[qoZ,qfC];refine wax b (waz ?_);rw[wC];exact qOd (qw9 s))
  (λ i x c j b f e g=>by
   refine waB ?_;simp only[qoZ,qfC];refine wav b (waw f ?_);obtain⟨e1,h⟩:=qE3 x (qvl (s.take i) (1,0) (by unfold InC;omega));rw[e,h,e1,<- qw2 c];exact g)
 exact waC (L := λ m k=>qaw m k s 1 0 0) (a 0 (we _))
def ckB(v:Int):List UInt8:=zK [v / 16777216 % 256,v / 65536 % 256,v / 256 % 256,v % 256]
def qjl(s:List UInt8):List UInt8:=ckB (ckN (ckF s))++s
theorem qI7(s:List UInt8):(qjl s).length=s.length+4:=by
 unfold qjl ckB zK;rw[wc,wA];show 4+s.length=_;omega
theorem qGn{v:Int}(n:Nat)(hn:n<=32):qbG .u32 v (n:Int)=v / (2:Int) ^ n:=by
 show v.fdiv (2 ^ (min ((n:Nat):Int).toNat 32))=_;rw[wF,kK hn];exact vW v (by exact Int.le_of_lt (Int.pow_pos (by decide)))
theorem iw8(v:Int):iw .u8 v=v % 256:=IntKind.wrap_u8 v
theorem qGx{v:Int}(h:0<=v/\v<4294967296):zK [iw .u8 (qbG .u32 v 24),iw .u8 (qbG .u32 v 16),iw .u8 (qbG .u32 v 8),iw .u8 v]=ckB v:=by
 have e1:=qGn (v:=v) 24 (by omega);have b:=qGn (v:=v) 16 (by omega);have a:=qGn (v:=v) 8 (by omega);rw[show qbG .u32 v 24=v / 16777216 from e1,show qbG .u32 v 16=v / 65536 from b,show qbG .u32 v 8=v / 256 from a,iw8,iw8,iw8,iw8];rfl
theorem qEF{v:Int}(h:0<=v/\v<4294967296):zK [iw .u8 (iw .u32 (qiU v 16777216)),iw .u8 (jq (iw .u32 (qiU v 65536)) 256),iw .u8 (jq (iw .u32 (qiU v 256)) 256),iw .u8 (jq v 256)]=ckB v:=by
 have q:∀ d:Int,0<d->iw .u32 (qiU v d)=v / d := λ d a=>IntWalk.u32_quo v d ⟨h.1,by omega,by omega⟩;have r:∀ x:Int,0<=x->jq x 256=x % 256 := λ x c=>IntWalk.rem_in _ _ c;have b:∀ d:Int,0<d->0<=v / d := λ d a=>Int.ediv_nonneg h.1 (Int.le_of_lt a);rw[q _ (by omega),q _ (by omega),q _ (by omega),r _ (b _ (by omega)),r _ (b _ (by omega)),r _ h.1,iw8,iw8,iw8,iw8,war,war,war];rfl
theorem qi9{a b:List UInt8}(h:a.length+b.length<2 ^ 62):qgB a b=true:=by
 unfold qgB;rw[decide_eq_true_iff,show IntKind.i64.max=9223372036854775807 from rfl];omega
theorem qFS(s:List UInt8)(a:s.length<=2 ^ 61):Ev (λ m _=>qjQ m s) (qjl s):=by
 refine waA ?_;simp only[qD5,qmj];refine wat (qJq s (by omega)) ?_;rw[qGx (qJL (qw9 s))];exact wav (qi9 (by show 4+s.length<_;omega)) (wau _)
theorem qBx(s:List UInt8)(a:s.length<=2 ^ 61):Ev (λ m _=>qh6 m s) (qjl s):=by
 refine waA ?_;simp only[qBy,qkl];refine wat (qHl s (by omega)) ?_;rw[qEF (qJL (qw9 s))];exact wav (qi9 (by show 4+s.length<_;omega)) (wau _)
end Go.AmZ
namespace Go.GxZ
def size:T->Nat:=T.para λ _ a=>1+a.sum
theorem qL(t:T):size t=1+(t.kids.map size).sum:=T.para_eq _ _
theorem size_pos(t:T):1<=size t:=by rw[qL];omega
theorem qGu(l:List T):l.length<=(l.map size).sum:=by
 induction l with
 | nil=>simp
 | cons x l a=>have:=size_pos x;simp only[wu,wo,kD];omega
theorem qkL(l:List T)(x:T)(h:x∈l):size x<=(l.map size).sum:=by
 induction l with
 | nil=>cases h
 | cons y l a =>
   simp only[wo,kD];rcases wx.1 h with rfl | h
   ·omega
   ·have:=a h;omega
theorem jJ(t:T)(x:T)(h:x∈t.kids):size x<size t:=by
 have:=qkL t.kids x h;rw[qL t];omega
theorem yz(t:T):t.kids.length<size t:=by
 have:=qGu t.kids;rw[qL t];omega
def sgn(a b:Int):Int:=if a<b then -1 else if b<a then 1 else 0
def thn(x y:Int):Int:=if x=0 then y else x
structure Cmp {α : Type} (f : α -> α -> Int):Prop where
 rng:∀ a b,f a b=-1\/f a b=0\/f a b=1
 anti:∀ a b,f b a=- f a b
 trans:∀ a b c,f a b=-1->f b c=-1->f a c=-1
 same:∀ a b c,f a b=0->f b c=f a c
theorem Cmp.thn{α : Type}{f g : α -> α -> Int}(d:Cmp f)(l:Cmp g):Cmp λ a b=>thn (f a b) (g a b):=by
 constructor
 ·intro a b;have:=d.rng a b;have:=l.rng a b;unfold GxZ.thn;split<;>omega
 ·intro a b;have:=d.anti a b;have:=l.anti a b;unfold GxZ.thn;split<;>split<;>omega
 ·intro a b c k j;have p:=d.anti a b;have a2:=d.anti b c;have a3:=d.anti a c;have n:=d.trans a b c;have t2:=l.trans a b c;have m:=d.same a b c;have s2:=d.same c b a;have o:=d.rng a b;have r2:=d.rng b c;have r3:=d.rng a c;unfold GxZ.thn at k j |-
  by_cases i:f a b=0
  ·by_cases e:f b c=0
   ·rw[if_pos i]at k;rw[if_pos e]at j;rw[if_pos (by rw[<- m i];exact e)];exact t2 k j
   ·rw[if_neg e]at j;rw[if_neg (by rw[<- m i];exact e),<- m i];exact j
  ·rw[if_neg i]at k;by_cases e:f b c=0
   ·have:=s2 (by omega);rw[if_neg (by omega)];omega
   ·rw[if_neg e]at j;have:=n k j;rw[if_neg (by omega)];exact this
 ·intro a b c h
  have i:f a b=0:=by
   unfold GxZ.thn at h;split at h
   ·assumption
   ·exact absurd h (by assumption)
  have e:g a b=0:=by
   unfold GxZ.thn at h
   rwa [if_pos i]at h
  show GxZ.thn _ _=GxZ.thn _ _;rw[d.same a b c i,l.same a b c e]
theorem Cmp.on{α d:Type}{f:d->d->Int}(c:Cmp f)(p : α -> d):Cmp λ a b=>f (p a) (p b) :=
 ⟨λ _ _=>c.rng _ _,λ _ _=>c.anti _ _,λ _ _ _=>c.trans _ _ _,λ _ _ _=>c.same _ _ _⟩
theorem qs7:Cmp sgn:=by
 constructor
 ·intro a b;unfold sgn;split<;>(try split)<;>omega
 ·intro a b;unfold sgn;split<;>split<;>(try split)<;>omega
 ·intro a b c;unfold sgn;split<;>split<;>(try split)<;>(try split)<;>omega
 ·intro a b c;unfold sgn;split<;>split<;>(try split)<;>(try split)<;>omega
theorem qlB{a b:Int}(h:sgn a b=0):a=b:=by unfold sgn at h;split at h<;>(try split at h)<;>omega
theorem qL3(a:Int):sgn a a=0:=by unfold sgn;split<;>(try split)<;>omega
open Lib (compareBytes)
theorem qzR(a:List UInt8):compareBytes a a=0:=by
 induction a with
 | nil=>rfl
 | cons x a b=>simp[compareBytes,b]
theorem qp0:∀ a b:List UInt8,compareBytes a b=-1\/compareBytes a b=0\/compareBytes a b=1
 | [],[]=>by simp[compareBytes]
 | [],_::_=>by simp[compareBytes]
 | _::_,[]=>by simp[compareBytes]
 | x::a,y::b=>by
   unfold compareBytes;split
   ·simp
   ·split
    ·simp
    ·exact qp0 a b
theorem qzP:∀ a b:List UInt8,compareBytes b a=- compareBytes a b
 | [],[]=>by simp[compareBytes]
 | [],_::_=>by simp[compareBytes]
 | _::_,[]=>by simp[compareBytes]
 | x::a,y::b=>by
   have:=qzP a b;unfold compareBytes;simp only[vb];split<;>split<;>(try split)<;>omega
theorem qnm:∀ a b:List UInt8,compareBytes a b=0->a=b
 | [],[],_=>rfl
 | [],_::_,h=>by simp[compareBytes]at h
 | _::_,[],h=>by simp[compareBytes]at h
 | x::a,y::b,h=>by
   unfold compareBytes at h;simp only[vb]at h;split at h
   ·omega
   ·split at h
    ·omega
    ·rw[qnm a b h,UInt8.toNat_inj.1 (show x.toNat=y.toNat by omega)]
theorem qvK:∀ a b c:List UInt8,compareBytes a b=-1->compareBytes b c=-1->compareBytes a c=-1
 | [],_,[],h1,h2=>by
   rename_i b;cases b<;>simp[compareBytes]at h1 h2
 | [],_,_::_,_,_=>by simp[compareBytes]
 | _::_,[],_,h1,_=>by simp[compareBytes]at h1
 | _::_,_::_,[],_,h2=>by simp[compareBytes]at h2
 | x::a,y::b,z::c,h1,h2=>by
   have ih:=qvK a b c;unfold compareBytes at h1 h2 |-
   simp only[vb]at h1 h2 |-
   split at h1
   ·split at h2
    ·rw[if_pos (by omega)]
    ·split at h2
     ·omega
     ·rw[if_pos (by omega)]
   ·split at h1
    ·omega
    ·split at h2
     ·rw[if_pos (by omega)]
     ·split at h2
      ·omega
      ·rw[if_neg (by omega),if_neg (by omega)];exact ih h1 h2
theorem qLg:Cmp compareBytes :=
 ⟨qp0,qzP,qvK,λ a b c h=>by rw[qnm a b h]⟩
def Jk:List (T->Int)->List T->Int
 | r::a,b::c=>thn (r b) (Jk a c)
 | _,_=>0
def qkg(a b:T):Int :=
 thn (sgn (size a) (size b)) (thn (sgn a.kind b.kind) (thn (compareBytes a.name b.name) (thn (sgn a.sort b.sort) (sgn a.kids.length b.kids.length))))
def qu:T->T->Int:=T.para λ a c b=>thn (qkg a b) (Jk c b.kids)
theorem qgY(a b:T):qu a b=thn (qkg a b) (Jk (a.kids.map qu) b.kids):=congrFun (T.para_eq _ _) b
theorem qeX:Cmp qkg :=
 (qs7.on λ t:T=>(size t:Int)).thn ((qs7.on T.kind).thn ((qLg.on T.name).thn ((qs7.on T.sort).thn (qs7.on λ t:T=>(t.kids.length:Int)))))
theorem qgG{x y:Int}(h:thn x y=0):x=0/\y=0:=by unfold thn at h;split at h<;>omega
theorem qr2{a b:T}(h:qkg a b=0):a.kind=b.kind/\a.name=b.name/\a.sort=b.sort/\a.kids.length=b.kids.length:=by
 unfold qkg at h;obtain⟨_,h⟩:=qgG h;obtain⟨f,h⟩:=qgG h;obtain⟨e,h⟩:=qgG h;obtain⟨d,c⟩:=qgG h;have:=qlB c;exact⟨qlB f,qnm _ _ e,qlB d,by omega⟩
theorem qIu(a:T):qkg a a=0:=by
 unfold qkg thn;simp[qL3,qzR]
theorem T.ext{a b:T}(f:a.kind=b.kind)(e:a.name=b.name)(d:a.sort=b.sort)(c:a.kids=b.kids):a=b:=by
 obtain⟨k,n,s,l⟩:=a;obtain⟨j,h,g,i⟩:=b;simp only[T.kind,T.name,T.sort,T.kids]at f e d c;rw[f,e,d,c]
theorem qst(a:T):qu a a=0:=by
 refine T.ind (P := λ a=>qu a a=0) ?_ a;intro a c;rw[qgY,qIu,thn,if_pos rfl];generalize a.kids=l at *
 induction l with
 | nil=>rfl
 | cons x l b =>
   rw[wo,Jk,c x (wh ..),thn,if_pos rfl];exact b λ k d=>c k (wg _ d)
theorem qaX(a:T):∀ b,qu a b=0->a=b:=by
 refine T.ind (P := λ a=>∀ b,qu a b=0->a=b) ?_ a;intro a e b h;rw[qgY]at h;obtain⟨g,f⟩:=qgG h;obtain⟨n,j,i,c⟩:=qr2 g;refine T.ext n j i ?_;generalize a.kids=l at *;generalize b.kids=m at *;clear h g
 induction l generalizing m with
 | nil=>exact(kr.1 c.symm).symm
 | cons x l d =>
   cases m with
   | nil=>simp at c
   | cons y m =>
     rw[wo,Jk]at f;obtain⟨q,p⟩:=qgG f;rw[e x (wh ..) y q,d (λ k o=>e k (wg _ o)) m p (by simpa using c)]
def qvx(a:T):Prop:=(∀ b,qu a b=-1\/qu a b=0\/qu a b=1)/\(∀ b,qu b a=- qu a b)/\(∀ b c,qu a b=-1->qu b c=-1->qu a c=-1)
theorem qCc:∀ l m:List T,(∀ k∈l,qvx k)->Jk (l.map qu) m=-1\/Jk (l.map qu) m=0\/Jk (l.map qu) m=1
 | [],_,_=>by simp[Jk]
 | _::_,[],_=>by simp[Jk]
 | x::l,y::m,h=>by
   rw[wo,Jk];have c:=(h x (wh ..)).1 y;have b:=qCc l m λ k a=>h k (wg _ a);unfold thn;split<;>omega
theorem qz3:∀ l m:List T,(∀ k∈l,qvx k)->Jk (m.map qu) l=- Jk (l.map qu) m
 | [],[],_=>by simp[Jk]
 | [],_::_,_=>by simp[Jk]
 | _::_,[],_=>by simp[Jk]
 | x::l,y::m,h=>by
   rw[wo,Jk,wo,Jk];have c:=(h x (wh ..)).2.1 y;have b:=qz3 l m λ k a=>h k (wg _ a);unfold thn;split<;>split<;>omega
theorem qvE:∀ l m n:List T,(∀ k∈l,qvx k)->l.length=m.length->m.length=n.length->Jk (l.map qu) m=-1->Jk (m.map qu) n=-1->Jk (l.map qu) n=-1
 | [],_,_,_,_,_,h,_=>by simp[Jk]at h
 | _::_,[],_,_,h,_,_,_=>by simp at h
 | _::_,_::_,[],_,_,h,_,_=>by simp at h
 | x::l,y::m,z::n,h,e1,j,b,a=>by
   rw[wo,Jk]at b a |-
   have g:=h x (wh ..);have f:=qvE l m n (λ k i=>h k (wg _ i)) (by simpa using e1) (by simpa using j);have e:=g.2.2 y z;by_cases d:qu x y=0
   ·have:=qaX x y d;subst this;rw[thn,if_pos d]at b;by_cases c:qu x z=0
    ·rw[thn,if_pos c]at a |-
     exact f b a
    ·rw[thn,if_neg c]at a |-
     exact a
   ·rw[thn,if_neg d]at b;by_cases c:qu y z=0
    ·have:=qaX y z c;subst this;rw[thn,if_neg d];exact b
    ·rw[thn,if_neg c]at a;have:=e b a;rw[thn,if_neg (by omega)];exact this
theorem qHD(a:T):qvx a:=by
 refine T.ind (P:=qvx) ?_ a;intro a i;refine⟨λ b=>?_,λ b=>?_,λ b c g d=>?_⟩
 ·rw[qgY];have g:=qeX.rng a b;have d:=qCc a.kids b.kids i;unfold thn;split<;>omega
 ·rw[qgY,qgY];have g:=qeX.anti a b;have d:=qz3 a.kids b.kids i;unfold thn;split<;>split<;>omega
 ·rw[qgY]at g d |-
  by_cases h:qkg a b=0
  ·rw[thn,if_pos h]at g;have e:=qeX.same a b c h;by_cases f:qkg b c=0
   ·rw[thn,if_pos f]at d;rw[thn,if_pos (by rw[<- e];exact f)];exact qvE _ _ _ i (qr2 h).2.2.2 (qr2 f).2.2.2 g d
   ·rw[thn,if_neg f]at d;rw[thn,if_neg (by rw[<- e];exact f),<- e];exact d
  ·rw[thn,if_neg h]at g;by_cases f:qkg b c=0
   ·have e1:=qeX.anti b c;have l:=qeX.same c b a (by omega);have k:=qeX.anti a b;have j:=qeX.anti a c;rw[thn,if_neg (by omega)];omega
   ·rw[thn,if_neg f]at d;have:=qeX.trans a b c g d;rw[thn,if_neg (by omega)];exact this
theorem ye:Cmp qu :=
 ⟨λ a=>(qHD a).1,λ a b=>(qHD a).2.1 b,λ a=>(qHD a).2.2,λ a b c h=>by rw[qaX a b h]⟩
theorem qKH(a b:T):qu a b=0↔a=b:=⟨qaX a b,λ h=>by rw[h];exact qst b⟩
theorem qqX:∀ a b:List UInt8,Op.bytesLess a b=decide (compareBytes a b=-1)
 | [],[]=>by simp[Op.bytesLess,compareBytes]
 | [],_::_=>by simp[Op.bytesLess,compareBytes]
 | _::_,[]=>by simp[Op.bytesLess,compareBytes]
 | x::a,y::b=>by
   rw[Op.bytesLess,compareBytes,qqX a b];by_cases d:x<y
   ·simp[d]
   ·by_cases c:y<x
    ·have:¬ x=y := λ e=>by rw[e]at c;exact d (by rw[e];exact c)
     simp[d,c,this]
    ·have:x=y:=UInt8.toNat_inj.1 (by rw[vb]at d c;omega);simp[this]
end Go.GxZ
namespace Go.GxZ
def qmC:List (Int->Int)->Int->Int
 | [],m=>m
 | f::a,m=>if f m<0 then -1 else qmC a (f m)
def qbD:T->Int->Int:=T.para λ t a m=>if m<=0\/40<t.name.length then -1 else qmC a (m-1)
theorem qGe(t:T)(m:Int):qbD t m=if m<=0\/40<t.name.length then -1 else qmC (t.kids.map qbD) (m-1):=congrFun (T.para_eq _ _) m
theorem qrj(t:T):∀ m,qbD t m<0/\qbD t m=-1\/0<=qbD t m/\qbD t m=m-size t:=by
 refine T.ind (P := λ t=>∀ m,qbD t m<0/\qbD t m=-1\/0<=qbD t m/\qbD t m=m-size t) ?_ t;intro t e m
 have g:∀ l:List T,(∀ k∈l,k∈t.kids)->∀ m,0<=m->(qmC (l.map qbD) m<0/\qmC (l.map qbD) m=-1\/0<=qmC (l.map qbD) m/\qmC (l.map qbD) m=m-((l.map size).sum:Nat)):=by
  intro l
  induction l with
  | nil=>intro _ m b;right;simp[qmC];exact b
  | cons x l a =>
    intro c m b;simp only[wo,qmC,kD];have j:=e x (c x (wh ..)) m;by_cases d:qbD x m<0
    ·rw[if_pos d];left;exact⟨by omega,rfl⟩
    ·rw[if_neg d];have i:=a (λ k f=>c k (wg _ f)) (qbD x m) (by omega);omega
 rw[qGe,qL];split
 ·left;exact⟨by omega,rfl⟩
 ·have:=g t.kids (λ _ h=>h) (m-1) (by omega);omega
def qc3:T->Nat:=T.para λ _ a=>a.foldl max 0+1
theorem qlg(t:T):qc3 t=(t.kids.map qc3).foldl max 0+1:=T.para_eq _ _
theorem qCX(l:List Nat):∀(a b:Nat),a<=b->(∀ x∈l,x<=b)->l.foldl max a<=b:=by
 induction l with
 | nil=>intro a b h _;exact h
 | cons x l d=>intro a b h c;exact d _ _ (Nat.max_le.2 ⟨h,c x (wh ..)⟩) λ y e=>c y (wg _ e)
theorem qEY(t:T):qc3 t<=size t:=by
 refine T.ind (P := λ t=>qc3 t<=size t) ?_ t;intro t ih;rw[qlg,qL]
 have:(t.kids.map qc3).foldl max 0<=(t.kids.map size).sum:=by
  refine qCX _ _ _ (we _) λ x hx=>?_;obtain⟨k,hk,rfl⟩:=wy.1 hx;exact wD (ih k hk) (qkL _ _ hk)
 omega
def qfT(c:Int):Bool:=decide (97<=c/\c<=122)||decide (65<=c/\c<=90)
def qsH(c:Int):Bool:=decide (48<=c/\c<=57)
def Qp(c:Int):Bool:=qfT c||qsH c||decide (c=95)||decide (c=35)
def jR(l:List UInt8):Bool:=decide (0<l.length)&&decide (l.length<=24)&&qfT ((l.getD 0 0).toNat:Int)&&l.all λ c=>Qp (c.toNat:Int)
def qjv(k so:Int)(n:Nat)(a:Bool):Int :=
 if k=1\/k=2 then(if so<0\/5<so\/0<n then 1 else if a then 0 else 2)
 else if k=3 then(if so≠0 then 1 else if a then(if 8<n then 3 else 0)else 2)
 else 1
def jM(t:T):Int:=qjv t.kind t.sort t.kids.length (jR t.name)
def jQ:T->Int:=T.para λ t a=>a.foldl thn (jM t)
theorem qjF(t:T):jQ t=(t.kids.map jQ).foldl thn (jM t):=T.para_eq _ _
theorem QT{x:Int}(h:x≠0)(y:Int):thn x y=x:=if_neg h
theorem qT(l:List Int):∀{x:Int},x≠0->l.foldl thn x=x:=by
 induction l with
 | nil=>intro x _;rfl
 | cons y l a=>intro x h;rw[kg,QT h];exact a h
theorem QV(l:List Int)(x:Int):(x::l).foldl thn 0=l.foldl thn x:=rfl
theorem qn2{t:T}(h:jQ t=0):jM t=0/\(∀ k∈t.kids,jQ k=0):=by
 rw[qjF]at h;by_cases b:jM t=0
 ·refine⟨b,?_⟩;rw[b]at h;generalize t.kids=l at *;clear b
  induction l with
  | nil=>intro k a;cases a
  | cons x l d =>
    rw[wo,QV]at h;by_cases c:jQ x=0
    ·rw[c]at h;intro k a;rcases wx.1 a with rfl | a
     ·exact c
     ·exact d h k a
    ·rw[qT _ c]at h;exact absurd h c
 ·rw[qT _ b]at h;exact absurd h b
def qS(t:T):Int:=if jQ t≠0 then jQ t else if 400<size t\/40<qc3 t then 3 else 0
instance:DecidableEq T := λ _ _=>Classical.propDecidable _
def jk(a b:T):Bool:=decide (a=b)
def ql0:List T->Int->Bool
 | [],_=>true
 | x::l,m=>if qbD x m<0 then false else ql0 l (qbD x m)
theorem qy8:∀(l:List T) (m:Int),0<=m->ql0 l m=true->((l.map size).sum:Nat)<=m
 | [],m,b,_=>by simpa using b
 | x::l,m,b,h=>by
   rw[ql0]at h;by_cases a:qbD x m<0
   ·rw[if_pos a]at h;exact absurd h (by decide)
   ·rw[if_neg a]at h;have d:=qrj x m;have c:=qy8 l (qbD x m) (by omega) h;simp only[wo,kD];omega
def yU:List (List UInt8 × Int × Int × Int):=[
 ([112,97,105,114],2,2,1),
 ([101,110,99],2,2,1),
 ([97,101,110,99],2,2,1),
 ([112,107],1,1,1),
 ([115,105,103,110],2,2,1),
 ([104,97,115,104],1,1,1),
 ([120,111,114],2,8,1),
 ([122,101,114,111],0,0,1),
 ([101,120,112],2,2,1),
 ([109,117,108],2,8,1),
 ([105,110,118],1,1,1),
 ([111,110,101],0,0,1),
 ([115,107],1,1,2),
 ([115,104,107],2,2,2),
 ([110,101,119],1,8,2),
 ([102,115,116],1,1,3),
 ([115,110,100],1,1,3),
 ([100,101,99],2,2,3),
 ([97,100,101,99],2,2,3),
 ([111,112,101,110],2,2,3),
 ([114,101,97,100],1,1,3)]
def qxu(l:List (List UInt8 × Int × Int × Int))(n:List UInt8):Int × Int × Int:=((l.find? λ r=>r.1==n).map (·.2)).getD (0,0,0)
theorem qIM(r:List UInt8 × Int × Int × Int)(l:List (List UInt8 × Int × Int × Int))(n:List UInt8):qxu (r::l) n=if(r.1==n)=true then r.2 else qxu l n:=by
 unfold qxu;rw[List.find?_cons];cases h:r.1==n<;>simp
def qK9(l:List (List UInt8 × Int × Int × Int))(n:List UInt8):Bool:=l.any λ r=>r.1==n
def qn9(l:List (List UInt8 × Int × Int × Int))(n:List UInt8)(k:Int):Bool:=qK9 l n&&decide ((qxu l n).1<=k)&&decide (k<=(qxu l n).2.1)
theorem qIh(r:List UInt8 × Int × Int × Int)(l:List (List UInt8 × Int × Int × Int))(n:List UInt8)(k:Int) :
  qn9 (r::l) n k=if(r.1==n)=true then decide (r.2.1<=k)&&decide (k<=r.2.2.1)else qn9 l n k:=by
 unfold qn9;rw[qIM];unfold qK9;rw[vX];cases h:r.1==n<;>simp
def qqf:List UInt8:=[112,97,105,114]
def qpt:List UInt8:=[101,110,99]
def qjg:List UInt8:=[97,101,110,99]
def nPk:List UInt8:=[112,107]
def qfo:List UInt8:=[115,105,103,110]
def qc5:List UInt8:=[120,111,114]
def qcH:List UInt8:=[122,101,114,111]
def qfZ:List UInt8:=[101,120,112]
def qe8:List UInt8:=[109,117,108]
def JB:List UInt8:=[105,110,118]
def qj5:List UInt8:=[111,110,101]
def nSk:List UInt8:=[115,107]
def quY:List UInt8:=[115,104,107]
def qiv:List UInt8:=[110,101,119]
def qLI:List UInt8:=[102,115,116]
def qxO:List UInt8:=[115,110,100]
def qLn:List UInt8:=[100,101,99]
def qGM:List UInt8:=[97,100,101,99]
def qGg:List UInt8:=[111,112,101,110]
def qG9:List UInt8:=[114,101,97,100]
def zT:T := .mk 0 [] 0 []
def kid(t:T)(i:Nat):T:=t.kids.getD i zT
def apT(n:List UInt8)(l:List T):T := .mk 3 n 0 l
def isN(t:T)(n:List UInt8):Bool:=t.kind==3&&t.name==n
def qH(n:List UInt8):Int × Int × Int:=((yU.find? λ r=>r.1==n).map (·.2)).getD (0,0,0)
def qaK(t:T):Bool :=
 if t.name=qiv then decide ((kid t 0).kind≠2)
 else if t.name=nSk\/t.name=quY then t.kids.any λ k=>decide (k.kind=3)||decide (k.sort≠1)else false
def qc8(t:T):Int :=
 if t.kind≠3 then 0 else if(qH t.name).2.2=0 then 10 else if(t.kids.length:Int)<(qH t.name).1\/(qH t.name).2.1<(t.kids.length:Int)then 6 else if qaK t then 10 else 0
def zl:T->Int:=T.para λ t a=>if t.kind≠3 then 0 else a.foldl thn (qc8 t)
theorem qox(t:T):zl t=if t.kind≠3 then 0 else(t.kids.map zl).foldl thn (qc8 t):=T.para_eq _ _
def qcj(t:T):Int:=thn (qS t) (zl t)
def yl(t:T):Bool :=
 if t.name=qLI\/t.name=qxO then isN (kid t 0) qqf
 else if t.name=qLn then isN (kid t 0) qpt&&jk (kid (kid t 0) 1) (kid t 1)
 else if t.name=qGM then isN (kid t 0) qjg&&isN (kid (kid t 0) 1) nPk&&jk (kid (kid (kid t 0) 1) 0) (kid t 1)
 else if t.name=qGg then isN (kid t 0) qfo&&isN (kid t 1) nPk&&jk (kid (kid t 0) 1) (kid (kid t 1) 0)
 else if t.name=qG9 then isN (kid t 0) qfo else false
def qki(t:T):T:=if yl t then kid (kid t 0) (if t.name=qxO then 1 else 0)else t
def qdv(t:T):Bool:=t.kind==3&&(t.name==qe8||t.name==JB||t.name==qj5)
abbrev Pw:=T × Int
def yF:List Pw->T->Int->List Pw
 | [],t,n=>[(t,n)]
 | (x,m)::l,t,n=>if qu t x=-1 then(t,n)::(x,m)::l else if qu t x=0 then(if m+n=0 then l else(x,m+n)::l)else(x,m)::yF l t n
def arK(t:T):Bool := !(t.name==qj5&&t.kids.length != 0||t.name==JB&&t.kids.length != 1||t.name==qe8&&decide (t.kids.length<2))
def arT:T->Bool:=T.para λ t a => !qdv t||(arK t&&a.all id)
theorem qwp(t:T):arT t=(!qdv t||(arK t&&(t.kids.map arT).all id)):=T.para_eq _ _
def qbs(t:T)(n:Int):Int:=if t.name=JB then -n else n
def jC:T->List Pw->Int->List Pw:=T.para λ t a l n=>if qdv t then a.foldl (λ l f=>f l (qbs t n)) l else yF l t n
theorem qg3(t:T)(l:List Pw)(n:Int):jC t l n=if qdv t then(t.kids.map jC).foldl (λ l f=>f l (qbs t n)) l else yF l t n:=by
 have h:jC t = λ l n=>if qdv t then(t.kids.map jC).foldl (λ l f=>f l (qbs t n)) l else yF l t n:=T.para_eq _ _;rw[h]
def ofP(t:T):List Pw × Int :=
 if qS t≠0 then([],qS t)else if arT t=false then([],6)else if 200<(jC t [] 1).length then([],3)else(jC t [] 1,0)
def pvK(q:Option T)(p:Pw):Int :=
 if qS p.1≠0 then qS p.1 else if qdv p.1 then 1 else if p.2=0\/p.2 < -1000\/1000<p.2 then 7 else match q with | some x=>if 0<=qu x p.1 then 5 else 0 | none=>0
def pvL:Option T->List Pw->Int
 | _,[]=>0
 | q,p::l=>thn (pvK q p) (pvL (some p.1) l)
def JG(l:List Pw):Int:=if 200<l.length then 3 else pvL none l
def yj(l:List Pw):List T:=l.flatMap λ p=>List.replicate p.2.toNat p.1
def yo(l:List Pw):List T:=l.flatMap λ p=>List.replicate (-p.2).toNat (apT JB [p.1])
def qae(o:List T):T:=if o.length=0 then apT qj5 []else if o.length=1 then o.getD 0 zT else apT qe8 o
def qbt(l:List Pw):T × Int :=
 if JG l≠0 then(zT,JG l)else if 8<(yj l++yo l).length then(zT,3)
 else if qS (qae (yj l++yo l))≠0 then(zT,qS (qae (yj l++yo l)))else(qae (yj l++yo l),0)
def qnX(l:List Pw):Bool:=l.any λ p=>decide (p.2 < -1000)||decide (1000<p.2)
def Q9(a b:List Pw):List Pw:=b.foldl (λ l p=>yF l p.1 p.2) a
def qmt(a b:List Pw):List Pw × Int :=
 if JG a≠0 then([],JG a)else if JG b≠0 then([],JG b)else if qnX (Q9 a b)then([],7)else if 200<(Q9 a b).length then([],3)else(Q9 a b,0)
def zm:List T->List T->List T
 | [],b=>b
 | x::a,[]=>x::a
 | x::a,y::b=>if qu x y=-1 then x::zm a (y::b)else if qu x y=1 then y::zm (x::a) b else zm a b
termination_by a b=>a.length+b.length
def Qd:T->List T:=T.para λ t a=>if isN t qcH&&t.kids.isEmpty then[]else if isN t qc5 then a.foldl zm []else[t]
theorem qlT(t:T):Qd t=if isN t qcH&&t.kids.isEmpty then[]else if isN t qc5 then(t.kids.map Qd).foldl zm []else[t]:=T.para_eq _ _
def qoN(l:List T):Int:=if 200<l.length then 3 else(l.map qS).foldl thn 0
def zX(l:List T):List T:=(l.map Qd).foldl zm []
def qaz(o:List T):T:=if o.length=0 then apT qcH []else if o.length=1 then o.getD 0 zT else apT qc5 o
def qqt(l:List T):T × Int :=
 if qoN l≠0 then(zT,qoN l)else if qS (qaz (zX l))≠0 then(zT,3)else(qaz (zX l),0)
def qi4(b:T)(l:List Pw):T × Int :=
 if l.length=0 then(b,0)else if(qbt l).2≠0 then(zT,(qbt l).2)else(apT qfZ [b,(qbt l).1],0)
def qqn(b e:T):T × Int :=
 if(ofP e).2≠0 then(zT,(ofP e).2)
 else if isN b qfZ then
  (if(ofP (kid b 1)).2≠0 then(zT,(ofP (kid b 1)).2)
   else if(qmt (ofP (kid b 1)).1 (ofP e).1).2≠0 then(zT,(qmt (ofP (kid b 1)).1 (ofP e).1).2)
   else qi4 (kid b 0) (qmt (ofP (kid b 1)).1 (ofP e).1).1)
 else qi4 b (ofP e).1
def isD(n:List UInt8):Bool:=n==qLI||n==qxO||n==qLn||n==qGM||n==qGg||n==qG9
def qnz(t:T):T × Int:=if(ofP t).2≠0 then(zT,(ofP t).2)else qbt (ofP t).1
def qab(t:T):T × Int :=
 if isD t.name then(qki t,0)else if t.name=qc5 then qqt t.kids
 else if t.name=qe8\/t.name=JB\/t.name=qj5 then qnz t
 else if t.name=qfZ then qqn (kid t 0) (kid t 1)else(t,0)
def zN:T->T × Int:=T.para λ t a =>
 if t.kind≠3 then(t,0)else if(a.map (·.2)).foldl thn 0≠0 then(zT,(a.map (·.2)).foldl thn 0)else qab (apT t.name (a.map (·.1)))
theorem qoD(t:T):zN t=if t.kind≠3 then(t,0)else if((t.kids.map zN).map (·.2)).foldl thn 0≠0 then(zT,((t.kids.map zN).map (·.2)).foldl thn 0)else qab (apT t.name ((t.kids.map zN).map (·.1))):=T.para_eq _ _
def qlo(t:T):T × Int :=
 if qcj t≠0 then(zT,qcj t)else if(zN t).2≠0 then(zT,(zN t).2)else if qS (zN t).1≠0 then(zT,qS (zN t).1)else zN t
def agB(l:List T):Bool:=l.all λ k => !(k.kind==3) && !(k.sort != 1)
def qlh(t:T):Bool:=if t.name=qiv then(kid t 0).kind==2 else agB t.kids
theorem qKi(k:T)(l:List T):agB (k::l)=((!(k.kind==3) && !(k.sort != 1))&&agB l):=rfl
end Go.GxZ
namespace Go.AmZ
open Go Go.GxZ Go.Lib
theorem qm4(a b:Int):Ev (λ m _=>qa8 m a b) (sgn a b):=by
 refine waA ?_;simp only[qyn,qhT];unfold sgn;refine way (λ h=>?_) λ h=>?_
 ·exact waz (by rw[if_pos (qs.1 h)])
 ·rw[qn]at h;refine way (λ c=>?_) λ c=>?_
  ·rw[qs]at c;exact waz (by rw[if_neg (by omega),if_pos c])
  ·rw[qn]at c;exact waz (by rw[if_neg (by omega),if_neg (by omega)])
theorem quc{l:List T}{i:Nat}{x:T}(h:l.drop i=x::l.drop (i+1)):((l.drop i).map size).sum=size x+((l.drop (i+1)).map size).sum:=by
 rw[h,wo,kD]
theorem qpv(t:T):size t<=1000000000->Ev (λ m _=>yV m t) (size t:Int):=by
 induction t using T.ind with
 | h t d =>
   intro p;refine waA ?_;simp only[qDs,qgt];have q:=yz t;have j:=qL t
   have b:=qr (P := λ i=>∀ a:Nat,a+((t.kids.drop i).map size).sum<=1000000000->Ev (λ m k=>qa9 m (yV m) k a i t.kind t.name t.sort t.kids) ((a+((t.kids.drop i).map size).sum:Nat):Int)) t.kids (by omega)
    (λ c a _=>by
     refine waB ?_;simp only[qqP,qgC];refine wax c ?_;exact waz (by simp))
    (λ i x e l c g f o a n=>by
     rw[quc l]at n |-
     refine waB ?_;simp only[qqP,qgC];refine wav c (waw g ?_);rw[ql];refine wat (d x (wa e) (by omega)) ?_;rw[f,qlS,jF (by omega)];refine(o (a+size x) (by omega)).res (by congr 1;omega))
   refine waC (L := λ m k=>qa9 m (yV m) k 1 0 t.kind t.name t.sort t.kids) ?_;refine(b 0 (we _) 1 (by simp;omega)).res (by rw[wO,j])
theorem qDU(a b:Nat):qoe (a:Int) (b:Int)=((max a b:Nat):Int):=by unfold qoe;split<;>omega
theorem qsX(a b:Int):Ev (λ m _=>qeY m a b) (sgn a b):=by
 refine waA ?_;simp only[qEi,ql4];unfold sgn;refine way (λ h=>?_) λ h=>?_
 ·exact waz (by rw[if_pos (qs.1 h)])
 ·rw[qn]at h;refine way (λ c=>?_) λ c=>?_
  ·rw[qs]at c;exact waz (by rw[if_neg (by omega),if_pos c])
  ·rw[qn]at c;exact waz (by rw[if_neg (by omega),if_neg (by omega)])
theorem qCh(t:T):size t<=1000000000->Ev (λ m _=>Ql m t) (size t:Int):=by
 induction t using T.ind with
 | h t d =>
   intro p;refine waA ?_;simp only[qEp,qhU];have q:=yz t;have j:=qL t
   have b:=qr (P := λ i=>∀ a:Nat,a+((t.kids.drop i).map size).sum<=1000000000->Ev (λ m k=>qcl m (Ql m) k a t.kids t.kids.length i) ((a+((t.kids.drop i).map size).sum:Nat):Int)) t.kids (by omega)
    (λ c a _=>by
     refine waB ?_;simp only[qsC,qig];refine wax c ?_;exact waz (by simp))
    (λ i x e l c g f o a n=>by
     rw[quc l]at n |-
     refine waB ?_;simp only[qsC,qig];refine wav c (waw g ?_);rw[ql];refine wat (d x (wa e) (by omega)) ?_;rw[f,qlS,jF (by omega)];refine(o (a+size x) (by omega)).res (by congr 1;omega))
   refine waC (L := λ m k=>qcl m (Ql m) k 1 t.kids t.kids.length 0) ?_;refine(b 0 (we _) 1 (by simp;omega)).res (by rw[wO,j])
theorem qzG(t:T):size t<=1000000000->Ev (λ m _=>jh m t) (qc3 t:Int):=by
 induction t using T.ind with
 | h t e =>
   intro o;refine waA ?_;simp only[qAX,qfs];have p:=yz t;have q:=qL t
   have b:=qr (P := λ i=>∀ a:Nat,a<=1000000000->Ev (λ m k=>qav m (jh m) k a i t.kind t.name t.sort t.kids) ((((t.kids.drop i).map qc3).foldl max a+1:Nat):Int)) t.kids (by omega)
    (λ c a _=>by
     refine waB ?_;simp only[qo8,qfz];refine wax c ?_;rw[show qd (a:Int) 1=((a+1:Nat):Int) by unfold qd;omega,jF (by omega)];exact waz (by simp))
    (λ i x f l c j g n a r=>by
     refine waB ?_;simp only[qo8,qfz];refine wav c (waw j ?_);rw[ql];have d:=wa f;have u:=jJ t x d;have s:=qEY x;refine wat (e x d (by omega)) ?_;rw[g,qDU];refine(n (max a (qc3 x)) (by omega)).res ?_;rw[l,wo,kg])
   refine waC (L := λ m k=>qav m (jh m) k 0 0 t.kind t.name t.sort t.kids) ?_;refine(b 0 (we _) 0 (by omega)).res (by rw[wO,qlg])
theorem qDp(a:List (T->Int)):Jk a []=0:=by cases a<;>rfl
theorem qz1{l m:List T}{i:Nat}{x y:T}(b:l.drop i=x::l.drop (i+1))(a:m.drop i=y::m.drop (i+1)):Jk ((l.drop i).map qu) (m.drop i)=thn (qu x y) (Jk ((l.drop (i+1)).map qu) (m.drop (i+1))):=by
 rw[b,a,wo];rfl
theorem qDo{l:List T}{i:Nat}{y:T}(h:l[i]?=some y):l.drop i=y::l.drop (i+1):=by
 obtain⟨a,rfl⟩:=List.getElem?_eq_some_iff.1 h;exact waa a
theorem qur(a b:List UInt8):slt a b=decide (compareBytes a b=-1):=qqX a b
theorem qC3(a b:List UInt8):qr6 (slt a b) (qy a b)=decide (compareBytes a b≠1):=by
 rw[qur];unfold qr6 qy;rcases qp0 a b with h | h | h
 ·rw[h];rfl
 ·have:=qnm a b h;subst this;rw[h];simp
 ·have:(a==b)=false:=by
    rw[beq_eq_false_iff_ne];intro c;subst c;rw[qzR]at h;omega
  rw[h,this];rfl
theorem qju(a:T):size a<=1000000000->∀ b,size b<=1000000000->Ev (λ m _=>zM m a b) (qu a b):=by
 induction a using T.ind with
 | h a ih =>
   intro ha b hb;refine waA ?_;simp only[qxi,qdD,ql];have hla:=yz a;have hlb:=yz b;rw[qgY];unfold qkg;refine wat (qpv a ha) (wat (qpv b hb) (wat (qm4 _ _) ?_));refine way (λ h=>?_) λ h=>?_
   ·rw[bnt,qh]at h;exact waz (by rw[QT (by rw[QT h];exact h),QT h])
   rw[bnf,qk]at h;rw[h,show ∀ y,thn 0 y=y from λ y=>rfl];refine wat (qm4 _ _) ?_;refine way (λ h=>?_) λ h=>?_
   ·rw[bnt,qh]at h;exact waz (by rw[QT (by rw[QT h];exact h),QT h])
   rw[bnf,qk]at h;rw[h,show ∀ y,thn 0 y=y from λ y=>rfl];refine way (λ h=>?_) λ h=>?_
   ·rw[qur,decide_eq_true_iff]at h;exact waz (by rw[h];rfl)
   rw[qur,decide_eq_false_iff_not]at h;refine way (λ h'=>?_) λ h'=>?_
   ·rw[bnt,qC3,decide_eq_false_iff_not,Decidable.not_not]at h';exact waz (by rw[h'];rfl)
   rw[bnf,qC3,decide_eq_true_iff]at h';have h0:compareBytes a.name b.name=0:=by have:=qp0 a.name b.name;omega
   rw[h0,show ∀ y,thn 0 y=y from λ y=>rfl];refine wat (qm4 _ _) ?_;refine way (λ h=>?_) λ h=>?_
   ·rw[bnt,qh]at h;exact waz (by rw[QT (by rw[QT h];exact h),QT h])
   rw[bnf,qk]at h;rw[h,show ∀ y,thn 0 y=y from λ y=>rfl];refine wat (qm4 _ _) ?_;refine way (λ h=>?_) λ h=>?_
   ·rw[bnt,qh]at h;exact waz (by rw[QT h])
   rw[bnf,qk]at h;rw[h,show ∀ y,thn 0 y=y from λ y=>rfl];have hlen:a.kids.length=b.kids.length:=by have:=qlB h;omega
   have key:=qr (P := λ i=>Ev (λ m k=>Jg m (zM m) k i a.kind a.name a.sort a.kids b.kind b.name b.sort b.kids) (Jk ((a.kids.drop i).map qu) (b.kids.drop i))) a.kids (by omega)
    (λ hc=>by
     refine waB ?_;simp only[qmd,qdj];refine wax hc ?_;exact waz (by rw[hlen,wT,qDp]))
    (λ i x hx hd hc hg hi hP=>by
     refine waB ?_;simp only[qmd,qdj,ql];have hib:i<b.kids.length:=by have:=(List.getElem?_eq_some_iff.1 hx).1;omega
     have hy:=List.getElem?_eq_getElem hib;have hmx:=wa hx;have h1:=jJ a x hmx;have h2:=jJ b _ (wa hy);refine wav hc (waw hg (waw (by rw[qU];exact hy) ?_));rw[qz1 hd (qDo hy)];refine wat (ih x hmx (by omega) _ (by omega)) ?_;refine way (λ h=>?_) λ h=>?_
     ·rw[bnt,qh]at h;exact waz (by rw[QT h])
     ·rw[bnf,qk]at h;rw[h,hi];exact hP)
   refine waC (L := λ m k=>Jg m (zM m) k 0 a.kind a.name a.sort a.kids b.kind b.name b.sort b.kids) ?_;exact(key 0 (we _)).res (by rw[wO,wO])
theorem qH2(a b:List UInt8):Ev (λ m _=>strings_Compare 0 a b) (compareBytes a b):=wau _
theorem qd2(a:T):size a<=1000000000->∀ b,size b<=1000000000->Ev (λ m _=>qB m a b) (qu a b):=by
 induction a using T.ind with
 | h a ih =>
   intro ha b hb;refine waA ?_;simp only[qxT,qet,ql];have hla:=yz a;have hlb:=yz b;rw[qgY];unfold qkg
   have stop:∀ c:Int,c≠0->∀ i:Int,Ev (λ m k=>Qe m (qB m) k c i a.kind a.name a.sort a.kids b.kind b.name b.sort b.kids) c:=by
    intro c hc i;refine waB ?_;simp only[qhM,qbW];exact wax (qh.2 hc) (wau c)
   have key:a.kids.length=b.kids.length->∀ i,i<=a.kids.length->Ev (λ m k=>Qe m (qB m) k 0 i a.kind a.name a.sort a.kids b.kind b.name b.sort b.kids) (Jk ((a.kids.drop i).map qu) (b.kids.drop i)) := λ hlen=>qr a.kids (by omega)
    (λ hc=>by
     refine waB ?_;simp only[qhM,qbW];refine wav rfl (wax hc ?_);exact waz (by rw[hlen,wT,qDp]))
    (λ i x hx hd hc hg hi hP=>by
     refine waB ?_;simp only[qhM,qbW,ql];have hib:i<b.kids.length:=by have:=(List.getElem?_eq_some_iff.1 hx).1;omega
     have hy:=List.getElem?_eq_getElem hib;have hmx:=wa hx;have h1:=jJ a x hmx;have h2:=jJ b _ (wa hy);refine wav rfl (wav hc (waw hg (waw (by rw[qU];exact hy) ?_)));rw[qz1 hd (qDo hy)];refine wat (ih x hmx (by omega) _ (by omega)) ?_;rw[hi];by_cases h:qu x b.kids[i]=0
     ·rw[h];exact hP
     ·rw[QT h];exact stop _ h _)
   have fin:∀ c:Int,(c=0->a.kids.length=b.kids.length)->Ev (λ m k=>Qe m (qB m) m c 0 a.kind a.name a.sort a.kids b.kind b.name b.sort b.kids) (thn c (Jk (a.kids.map qu) b.kids)):=by
    intro c hc;refine waC (L := λ m k=>Qe m (qB m) k c 0 a.kind a.name a.sort a.kids b.kind b.name b.sort b.kids) ?_;by_cases h:c=0
    ·subst h;exact(key (hc rfl) 0 (we _)).res (by rw[wO,wO];rfl)
    ·rw[QT h];exact stop c h 0
   refine wat (qCh a ha) (wat (qCh b hb) (wat (qsX _ _) ?_));have z0:∀ y,thn 0 y=y := λ y=>rfl;by_cases h1:sgn (size a:Int) (size b)=0
   ·rw[h1,z0];refine wav rfl (wat (qsX _ _) ?_);by_cases h2:sgn a.kind b.kind=0
    ·rw[h2,z0];refine wav rfl (wat (qH2 _ _) ?_);by_cases h3:compareBytes a.name b.name=0
     ·rw[h3,z0];refine wav rfl (wat (qsX _ _) ?_);by_cases h4:sgn a.sort b.sort=0
      ·rw[h4,z0];refine wav rfl (wat (qsX _ _) ?_);exact fin _ λ h=>by have:=qlB h;omega
      ·rw[QT h4];refine wax (qh.2 h4) ?_;exact fin _ λ h=>absurd h h4
     ·rw[QT h3];refine wax (qh.2 h3) (wax (qh.2 h3) ?_);exact fin _ λ h=>absurd h h3
    ·rw[QT h2];refine wax (qh.2 h2) (wax (qh.2 h2) (wax (qh.2 h2) ?_));exact fin _ λ h=>absurd h h2
   ·rw[QT h1];refine wax (qh.2 h1) (wax (qh.2 h1) (wax (qh.2 h1) (wax (qh.2 h1) ?_)));exact fin _ λ h=>absurd h h1
theorem qFV(a b:T):ieq (qu a b) 0=jk a b:=by
 unfold jk;rw[xh,qk,decide_eq_true_iff];exact qKH a b
theorem qgQ(a b:T)(d:size a<=1000000000)(c:size b<=1000000000):Ev (λ m _=>Ji m a b) (jk a b):=by
 refine waA ?_;simp only[qCB,qkb,ql];refine wat (qju a d b c) ?_;exact waz (qFV a b)
theorem qpK(a b:T)(d:size a<=1000000000)(c:size b<=1000000000):Ev (λ m _=>J4 m a b) (jk a b):=by
 refine waA ?_;simp only[qAF,qiC,ql];refine wat (qd2 a d b c) ?_;exact waz (qFV a b)
end Go.AmZ
namespace Go.AmZ
open Go Go.GxZ Go.Lib
theorem qyW(a b:Int):ieq a b=decide (a=b):=by rw[xh,qk,decide_eq_true_iff]
theorem qzj(c:Int):Ev (λ m _=>qfa m c) (qfT c):=by
 refine waA ?_;simp only[qx7,qhB];refine(wau (qfT c)).congr λ m k=>?_;unfold qfT ile;by_cases e:97<=c<;>by_cases d:c<=122<;>by_cases b:65<=c<;>by_cases a:c<=90<;>simp[e,d,b,a]
theorem qJU(c:Int):Ev (λ m _=>qjo m c) (qsH c):=by
 refine waA ?_;simp only[qAg,qiN];refine(wau (qsH c)).congr λ m k=>?_;unfold qsH ile;by_cases b:48<=c<;>by_cases a:c<=57<;>simp[b,a]
theorem qFg(c:Int):Ev (λ m _=>qjC m c) (Qp c):=by
 refine waA ?_;simp only[qD8,qlt];refine(wau (Qp c)).congr λ m k=>?_;simp only[qyW];unfold Qp qfT qsH ile;by_cases i:97<=c<;>by_cases h:c<=122<;>by_cases g:65<=c<;>by_cases f:c<=90<;>by_cases e:48<=c<;>by_cases d:c<=57<;>by_cases b:c=95<;>by_cases a:c=35<;>simp[i,h,g,f,e,d,b,a]
theorem qzk(l:List UInt8):Ev (λ m _=>qag m l) (jR l):=by
 refine waA ?_;simp only[qxs,qeu];cases l with
 | nil=>exact wav rfl (wau _)
 | cons c r =>
   refine wax (qh.2 (by simp;omega)) ?_;refine way (λ h=>?_) λ h=>?_
   ·rw[qs]at h;refine waz ?_;unfold jR;rw[decide_eq_false (show ¬ (c::r).length<=24 by omega)];simp
   rw[qn]at h;refine waw (qad _) (wat (qzj _) ?_)
   have o:jR (c::r)=(qfT (c.toNat:Int)&&(c::r).all λ c=>Qp (c.toNat:Int)):=by
    unfold jR;rw[decide_eq_true (show(c::r).length<=24 by omega)];simp
   rw[o];cases b:qfT (c.toNat:Int)with
   | false=>exact wav rfl (wau _)
   | true =>
     refine wax rfl ?_
     have g:=qr (P := λ i=>Ev (λ m k=>JR m k (c::r) i) (((c::r).drop i).all λ c=>Qp (c.toNat:Int))) (c::r) (by omega)
      (λ b=>by
       refine waB ?_;simp only[qnH,qen];refine wax b (waz ?_);rw[wT];rfl)
      (λ i x s q b a p d=>by
       refine waB ?_;simp only[qnH,qen];refine wav b (waw a (wat (qzj _) ?_));rw[q,kC,p];cases n:qfT (x.toNat:Int)with
       | true=>exact wax rfl (d.res (by simp[Qp,n]))
       | false =>
         refine wav rfl (waw a (wat (qJU _) ?_));cases j:qsH (x.toNat:Int)with
         | true=>exact wax rfl (d.res (by simp[Qp,j]))
         | false =>
           refine wav rfl (waw a ?_);by_cases f:(x.toNat:Int)=95
           ·exact wax (bnf.2 (qk.2 f)) (d.res (by simp[Qp,f]))
           ·refine wav (bnt.2 (qh.2 f)) (waw a ?_);by_cases e:(x.toNat:Int)=35
            ·exact wax (bnf.2 (qk.2 e)) (d.res (by simp[Qp,e]))
            ·exact wav (bnt.2 (qh.2 e)) (waz (by unfold Qp;rw[n,j,decide_eq_false f,decide_eq_false e];rfl)))
     refine waC (L := λ m k=>JR m k (c::r) 0) ?_;exact(g 0 (we _)).res (by rw[wO];rfl)
theorem qKN(c:Int):(Qp c&&(!(decide (48<=c)&&decide (c<=57))&&(!(decide (c=95)) && !(decide (c=35)))))=qfT c:=by
 unfold Qp qsH;cases h:qfT c with
 | true =>
   unfold qfT at h;rw[kh,decide_eq_true_iff,decide_eq_true_iff]at h;rw[decide_eq_false (show ¬ (c=95) by omega),decide_eq_false (show ¬ (c=35) by omega)]
   have:(decide (48<=c)&&decide (c<=57))=false:=by
    rw[va,decide_eq_false_iff_not,decide_eq_false_iff_not];omega
   rw[this];rfl
 | false =>
   by_cases e:48<=c<;>by_cases d:c<=57<;>by_cases b:c=95<;>by_cases a:c=35<;>simp[e,d,b,a]
theorem qGA(l:List UInt8):Ev (λ m _=>qdZ m l) (jR l):=by
 refine waA ?_;simp only[qAW,qfc];cases l with
 | nil=>exact wav rfl (wau _)
 | cons c r =>
   refine wax rfl ?_;refine way (λ h=>?_) λ h=>?_
   ·rw[qs]at h;refine waz ?_;unfold jR;rw[decide_eq_false (show ¬ (c::r).length<=24 by omega)];simp
   rw[qn]at h;refine waw (qad _) (wat (qFg _) ?_)
   have p:jR (c::r)=(qfT (c.toNat:Int)&&(c::r).all λ c=>Qp (c.toNat:Int)):=by
    unfold jR;rw[decide_eq_true (show(c::r).length<=24 by omega)];simp
   rw[p,<- qKN]
   have g:=qr (P := λ i=>Ev (λ m k=>QE m k (c::r) (c::r).length i) (((c::r).drop i).all λ c=>Qp (c.toNat:Int))) (c::r) (by omega)
    (λ j=>by
     refine waB ?_;simp only[qoy,qfr];refine wax j (waz ?_);rw[wT];rfl)
    (λ i x y t j s q u=>by
     refine waB ?_;simp only[qoy,qfr];refine wav j (waw s (wat (qFg _) ?_));rw[t,kC,q];cases w:Qp (x.toNat:Int)with
     | true=>exact wax rfl (u.res (by simp))
     | false=>exact wav rfl (wau _))
   have o:Ev (λ m _=>QE m m (c::r) (c::r).length 0) ((c::r).all λ c=>Qp (c.toNat:Int)):=by
    refine waC (L := λ m k=>QE m k (c::r) (c::r).length 0) ?_;exact(g 0 (we _)).res (by rw[wO])
   have a:qc (c::r) 0=some c:=qad _
   have b:Ev (λ m _=>cond (ieq (c.toNat:Int) 95) (some false) (qa (qc (c::r) 0) λ v=>cond (ieq (v.toNat:Int) 35) (some false) (QE m m (c::r) (c::r).length 0))) ((!(decide ((c.toNat:Int)=95)) && !(decide ((c.toNat:Int)=35)))&&(c::r).all λ c=>Qp (c.toNat:Int)):=by
    by_cases f:(c.toNat:Int)=95
    ·exact wav (qk.2 f) (waz (by rw[decide_eq_true f];rfl))
    ·refine wax (qh.2 f) (waw a ?_);rw[decide_eq_false f];by_cases e:(c.toNat:Int)=35
     ·exact wav (qk.2 e) (waz (by rw[decide_eq_true e];rfl))
     ·refine wax (qh.2 e) (o.res ?_);rw[decide_eq_false e];rfl
   cases w:Qp (c.toNat:Int)with
   | false=>exact wav rfl (wau _)
   | true =>
     refine wax rfl (waw a ?_);by_cases d:48<=(c.toNat:Int)
     ·refine wav (jm.2 d) (waw a ?_);by_cases n:(c.toNat:Int)<=57
      ·exact wav (jm.2 n) (waz (by rw[decide_eq_true d,decide_eq_true n];rfl))
      ·refine wax (yq.2 (by omega)) (waw a ?_);exact b.res (by rw[decide_eq_true d,decide_eq_false n];rfl)
     ·refine wax (yq.2 (by omega)) (waw a ?_);exact b.res (by rw[decide_eq_false d];rfl)
theorem qNC(t:T):Ev (λ m _=>qkG m t) (jM t):=by
 refine waA ?_;simp only[qDu,qjX];unfold jM qjv
 have nm:∀{R:Int},(∀ b,jR t.name=b->(if b then(if 8<t.kids.length then 3 else 0)else 2)=R)->Ev (λ m _=>qa (qag m t.name) λ v=>cond (qf v) (some 2) (cond (ilt 8 (t.kids.length:Int)) (some 3) (some 0))) R:=by
  intro R h;refine wat (qzk _) ?_;refine Ev.res ?_ (h _ rfl);cases j:jR t.name with
  | false=>exact wav rfl (wau _)
  | true =>
    refine wax rfl ?_;refine way (λ h=>?_) λ h=>?_
    ·rw[qs]at h;exact waz (by rw[if_pos rfl,if_pos (by omega)])
    ·rw[qn]at h;exact waz (by rw[if_pos rfl,if_neg (by omega)])
 have d:t.kids.length=0->∀{R:Int},(∀ b,jR t.name=b->(if b then 0 else 2)=R)->Ev (λ m _=>qa (qag m t.name) λ v=>cond (qf v) (some 2) (cond (ilt 8 (t.kids.length:Int)) (some 3) (some 0))) R:=by
  intro k R h;refine nm λ b e=>?_;rw[if_neg (show ¬ 8<t.kids.length by omega)];exact h b e
 by_cases i:t.kind=1
 ·rw[if_pos (.inl i)];refine wav (qk.2 i) ?_;refine way (λ h=>?_) λ h=>?_
  ·rw[qs]at h;exact waz (by rw[if_pos (.inl h)])
  rw[qn]at h;refine way (λ c=>?_) λ c=>?_
  ·rw[qs]at c;exact waz (by rw[if_pos (.inr (.inl c))])
  rw[qn]at c;refine way (λ a=>?_) λ a=>?_
  ·rw[qs]at a;exact waz (by rw[if_pos (.inr (.inr (by omega)))])
  rw[qn]at a;rw[if_neg (by omega)];exact d (by omega) λ b e=>by rw[e]
 refine wax (qh.2 i) ?_;by_cases f:t.kind=2
 ·rw[if_pos (.inr f)];refine wax (bnf.2 (qk.2 f)) ?_;refine way (λ h=>?_) λ h=>?_
  ·rw[qs]at h;exact waz (by rw[if_pos (.inl h)])
  rw[qn]at h;refine way (λ c=>?_) λ c=>?_
  ·rw[qs]at c;exact waz (by rw[if_pos (.inr (.inl c))])
  rw[qn]at c;refine wax (bnf.2 (qk.2 f)) (wav (qk.2 f) ?_);refine way (λ a=>?_) λ a=>?_
  ·rw[qs]at a;exact waz (by rw[if_pos (.inr (.inr (by omega)))])
  rw[qn]at a;rw[if_neg (by omega)];exact d (by omega) λ b e=>by rw[e]
 refine wav (bnt.2 (qh.2 f)) ?_;rw[if_neg (by omega)];by_cases g:t.kind=3
 ·rw[if_pos g];refine wax (bnf.2 (qk.2 g)) ?_;refine way (λ h=>?_) λ h=>?_
  ·rw[qs]at h;exact waz (by rw[if_pos (by omega)])
  rw[qn]at h;refine way (λ c=>?_) λ c=>?_
  ·rw[qs]at c;exact waz (by rw[if_pos (by omega)])
  rw[qn]at c;refine wav (bnt.2 (qh.2 f)) ?_;refine way (λ a=>?_) λ a=>?_
  ·rw[bnt,qh]at a;exact waz (by rw[if_pos a])
  rw[bnf,qk]at a;rw[if_neg (by omega)];refine wax (qh.2 f) ?_;exact nm λ b e=>by rw[e]
 ·rw[if_neg g];exact wav (bnt.2 (qh.2 g)) (wau _)
theorem qKG(t:T):size t<=1000000000->Ev (λ m _=>jN m t) (jQ t):=by
 induction t using T.ind with
 | h t d =>
   intro n;refine waA ?_;simp only[qAD,qfe,ql];have o:=yz t
   have a:=qr (P := λ i=>Ev (λ m k=>qax m (jN m) k i t.kind t.name t.sort t.kids) (((t.kids.drop i).map jQ).foldl thn 0)) t.kids (by omega)
    (λ b=>by
     refine waB ?_;simp only[qoz,qfg];refine wax b ?_;exact waz (by simp))
    (λ i x e j b g f l=>by
     refine waB ?_;simp only[qoz,qfg,ql];refine wav b (waw g ?_);have c:=wa e;have p:=jJ t x c;refine wat (d x c (by omega)) ?_;rw[j,wo,QV,f];refine way (λ h=>?_) λ h=>?_
     ·rw[bnt,qh]at h;exact waz (by rw[qT _ h])
     ·rw[bnf,qk]at h;rw[h];exact l)
   rw[qjF];refine wat (qNC t) ?_;refine way (λ h=>?_) λ h=>?_
   ·rw[bnt,qh]at h;exact waz (by rw[qT _ h])
   ·rw[bnf,qk]at h;rw[h];refine waC (L := λ m k=>qax m (jN m) k 0 t.kind t.name t.sort t.kids) ?_;exact(a 0 (we _)).res (by rw[wO])
theorem qde(t:T)(a:size t<=1000000000):Ev (λ m _=>jo m t) (qS t):=by
 refine waA ?_;simp only[qAp,qiV,ql];unfold qS;refine wat (qKG t a) ?_;refine way (λ h=>?_) λ h=>?_
 ·rw[bnt,qh]at h;exact waz (by rw[if_pos h])
 rw[bnf,qk]at h;rw[if_neg (by omega)];refine wat (qpv t a) ?_;refine way (λ h=>?_) λ h=>?_
 ·rw[qs]at h;exact waz (by rw[if_pos (.inl (by omega))])
 rw[qn]at h;refine wat (qzG t a) ?_;refine way (λ h=>?_) λ h=>?_
 ·rw[qs]at h;exact waz (by rw[if_pos (.inr (by omega))])
 ·rw[qn]at h;exact waz (by rw[if_neg (by omega)])
end Go.AmZ
namespace Go.AmZ
open Go Go.GxZ Go.Lib
theorem qBD(b d:Nat):∀(l:List Nat) (c:Nat),l.foldl (λ a x=>max a (b+x)) (max d (b+c))=max d (b+l.foldl max c)
 | [],c=>rfl
 | x::l,c=>by
   rw[kg,kg,<- qBD b d l (max c x)];congr 1;omega
def qOT(a n d:Nat)(e:Int)(s:Nat)(x:Nat)(r:(Int × Int × Unit) × (Int × Unit)):Prop:=r.2.1=e/\(e=0->r.1.1=((n+s:Nat):Int)/\r.1.2.1=((max d (a+x):Nat):Int))
theorem qL2(t:T):size t<=1000000000->∀ lev n d:Nat,lev+size t<=2000000000->n+size t<=2000000000->d<=2000000000->∃ r,Ev (λ m _=>yf m t lev n d) r/\qOT lev n d (jQ t) (size t) (qc3 t-1) r:=by
 induction t using T.ind with
 | h t ih =>
   intro hs lev n d hlev hn hd0;have hl:=yz t;have hsz:=qL t
   have key:=qr (P := λ i=>∀ n d:Nat,n+((t.kids.drop i).map size).sum<=2000000000->d<=2000000000->∃ r,Ev (λ m k=>jK m (yf m) k lev t.kids t.kids.length i n d) r/\r.2.1=((t.kids.drop i).map jQ).foldl thn 0/\(((t.kids.drop i).map jQ).foldl thn 0=0->r.1.1=((n+((t.kids.drop i).map size).sum:Nat):Int)/\r.1.2.1=((((t.kids.drop i).map qc3).foldl (λ a x=>max a (lev+x)) d:Nat):Int))) t.kids (by omega)
    (λ hc n d _ _=>by
     refine⟨((n,d,()),(0,())),?_,?_,λ _=>⟨?_,?_⟩⟩
     ·refine waB ?_;simp only[qqK,qgq];exact wax hc (wau _)
     ·simp
     ·simp
     ·simp)
    (λ i x hx hd hc hg hi hP n d hn hd1=>by
     have hm:=wa hx;have h1:=jJ t x hm;rw[quc hd]at hn;obtain⟨r,hr,he,hz⟩:=ih x hm (by omega) (lev+1) n d (by omega) (by omega) hd1
     have hstep:∀ r' ,(r.2.1≠0->r'=((r.1.1,r.1.2.1,()),(r.2.1,())))->(r.2.1=0->Ev (λ m k=>jK m (yf m) k lev t.kids t.kids.length ((i+1:Nat):Int) r.1.1 r.1.2.1) r')->Ev (λ m k=>jK m (yf m) k lev t.kids t.kids.length i n d) r':=by
      intro r' g1 g2;refine waB ?_;simp only[qqK,qgq,ql];refine wav hc (waw hg ?_);rw[show qd (lev:Int) 1=((lev+1:Nat):Int) by unfold qd;omega,jF (by omega),hi];refine wat hr ?_;refine way (λ h=>?_) λ h=>?_
      ·rw[bnt,qh]at h;exact waz (g1 h).symm
      ·rw[bnf,qk]at h;exact g2 h
     rw[hd,wo,wo,wo,kD,QV,kg];by_cases h0:jQ x=0
     ·obtain⟨z1,z2⟩:=hz h0;have hdep:=qEY x;obtain⟨r',g1,g2,g3⟩:=hP (n+size x) (max d (lev+1+(qc3 x-1))) (by omega) (by omega);refine⟨r',hstep r' (λ h=>absurd (he.trans h0) h) (λ _=>by rw[z1,z2];exact g1),by rw[h0];exact g2,λ hh=>?_⟩;rw[h0]at hh;obtain⟨q1,q2⟩:=g3 hh;refine⟨by rw[q1];congr 1;omega,?_⟩;rw[q2];have:qc3 x ≥ 1:=by rw[qlg];omega
      rw[show max d (lev+1+(qc3 x-1))=max d (lev+qc3 x) by omega]
     ·refine⟨((r.1.1,r.1.2.1,()),(r.2.1,())),hstep _ (λ _=>rfl) (λ h=>absurd (he.symm.trans h) h0),?_,λ hh=>?_⟩
      ·rw[qT _ h0];exact he
      ·rw[qT _ h0]at hh;exact absurd hh h0)
   have start:∀ r,(jM t≠0->r=((((n+1:Nat):Int),((max d lev:Nat):Int),()),(jM t,())))->(jM t=0->Ev (λ m _=>jK m (yf m) m lev t.kids t.kids.length 0 ((n+1:Nat):Int) ((max d lev:Nat):Int)) r)->Ev (λ m _=>yf m t lev n d) r:=by
    intro r g1 g2;refine waA ?_;simp only[qDC,qgr];rw[show qd (n:Int) 1=((n+1:Nat):Int) by unfold qd;omega,jF (by omega),qDU]
    have err:∀ e,jM t=e->e≠0->Ev (λ _ _=>some ((((n+1:Nat):Int),((max d lev:Nat):Int),()),(e,()))) r:=by
     intro e he h;refine waz ?_;subst he;exact(g1 h).symm
    have nm:(t.kind=3\/t.kids.length=0)->(∀ b,jR t.name=b->(if b then(if 8<t.kids.length then 3 else 0)else 2)=jM t)->Ev (λ m _=>qa (qdZ m t.name) λ v=>cond (qf v) (some ((((n+1:Nat):Int),((max d lev:Nat):Int),()),(2,()))) (cond (ilt 8 (t.kids.length:Int)) (some ((((n+1:Nat):Int),((max d lev:Nat):Int),()),(3,()))) (jK m (yf m) m lev t.kids t.kids.length 0 ((n+1:Nat):Int) ((max d lev:Nat):Int)))) r:=by
     intro _ h;have h:=h _ rfl;refine wat (qGA _) ?_;cases hn:jR t.name with
     | false=>rw[hn]at h;exact wav rfl (err 2 h.symm (by decide))
     | true =>
       rw[hn,if_pos rfl]at h;refine wax rfl ?_;refine way (λ h'=>?_) λ h'=>?_
       ·rw[qs]at h';rw[if_pos (by omega)]at h;exact err 3 h.symm (by decide)
       ·rw[qn]at h';rw[if_neg (by omega)]at h;exact g2 h.symm
    have leafE:∀ k,t.kind=k->(k=1\/k=2)->jM t=if t.sort<0\/5<t.sort\/0<t.kids.length then 1 else if jR t.name then 0 else 2:=by
     intro k hk h;unfold jM qjv;rw[hk,if_pos h]
    have leaf:∀ k,t.kind=k->(k=1\/k=2)->Ev (λ m _=>cond (ilt t.sort 0) (some ((((n+1:Nat):Int),((max d lev:Nat):Int),()),(1,()))) (cond (ilt 5 t.sort) (some ((((n+1:Nat):Int),((max d lev:Nat):Int),()),(1,()))) (cond (ilt 0 (t.kids.length:Int)) (some ((((n+1:Nat):Int),((max d lev:Nat):Int),()),(1,()))) (qa (qdZ m t.name) λ v=>cond (qf v) (some ((((n+1:Nat):Int),((max d lev:Nat):Int),()),(2,()))) (cond (ilt 8 (t.kids.length:Int)) (some ((((n+1:Nat):Int),((max d lev:Nat):Int),()),(3,()))) (jK m (yf m) m lev t.kids t.kids.length 0 ((n+1:Nat):Int) ((max d lev:Nat):Int))))))) r:=by
     intro k hk h;have hE:=leafE k hk h;refine way (λ h'=>?_) λ h'=>?_
     ·rw[qs]at h';exact err 1 (by rw[hE,if_pos (.inl h')]) (by decide)
     rw[qn]at h';refine way (λ h1=>?_) λ h1=>?_
     ·rw[qs]at h1;exact err 1 (by rw[hE,if_pos (.inr (.inl h1))]) (by decide)
     rw[qn]at h1;refine way (λ h2=>?_) λ h2=>?_
     ·rw[qs]at h2;exact err 1 (by rw[hE,if_pos (.inr (.inr (by omega)))]) (by decide)
     rw[qn]at h2;rw[if_neg (by omega)]at hE;refine nm (.inr (by omega)) λ b hb=>?_;rw[hE,hb,if_neg (show ¬ 8<t.kids.length by omega)]
    by_cases h1:t.kind=1
    ·exact wav (qk.2 h1) (leaf 1 h1 (.inl rfl))
    refine wax (qh.2 h1) ?_;by_cases h2:t.kind=2
    ·exact wav (qk.2 h2) (leaf 2 h2 (.inr rfl))
    refine wax (qh.2 h2) ?_;by_cases h3:t.kind=3
    ·refine wav (qk.2 h3) ?_
     have hE:jM t=if t.sort≠0 then 1 else if jR t.name then(if 8<t.kids.length then 3 else 0)else 2:=by
      unfold jM qjv;rw[if_neg (by omega),if_pos h3]
     refine way (λ h'=>?_) λ h'=>?_
     ·rw[bnt,qh]at h';exact err 1 (by rw[hE,if_pos h']) (by decide)
     rw[bnf,qk]at h';rw[if_neg (by omega)]at hE;exact nm (.inl h3) λ b hb=>by rw[hE,hb]
    ·refine wax (qh.2 h3) ?_;refine err 1 ?_ (by decide);unfold jM qjv;rw[if_neg (by omega),if_neg h3]
   rw[qjF];by_cases h0:jM t=0
   ·rw[h0];obtain⟨r,g1,g2,g3⟩:=key 0 (we _) (n+1) (max d lev) (by rw[wO];omega) (by omega);rw[wO]at g2 g3;refine⟨r,start r (λ h=>absurd h0 h) (λ _=>waC (L := λ m k=>jK m (yf m) k lev t.kids t.kids.length 0 ((n+1:Nat):Int) ((max d lev:Nat):Int)) g1),g2,λ hh=>?_⟩;obtain⟨q1,q2⟩:=g3 hh;refine⟨by rw[q1];congr 1;omega,?_⟩;rw[q2,show max d lev=max d (lev+0) by omega,qBD,qlg,xV]
   ·refine⟨_,start _ (λ _=>rfl) (λ h=>absurd h h0),?_,λ hh=>?_⟩
    ·rw[qT _ h0]
    ·rw[qT _ h0]at hh;exact absurd hh h0
theorem qdf(t:T)(c:size t<=1000000000):Ev (λ m _=>yG m t) (qS t):=by
 refine waA ?_;simp only[qBm,qj2,ql];unfold qS;obtain⟨r,f,e,d⟩:=qL2 t c 1 0 0 (by omega) (by omega) (by omega);refine wat f ?_;rw[e];refine way (λ h=>?_) λ h=>?_
 ·rw[bnt,qh]at h;exact waz (by rw[if_pos h])
 rw[bnf,qk]at h;obtain⟨b,a⟩:=d h;have g:qc3 t ≥ 1:=by rw[qlg];omega
 rw[if_neg (by omega),b,a];refine way (λ h=>?_) λ h=>?_
 ·rw[qs]at h;exact waz (by rw[if_pos (.inl (by omega))])
 rw[qn]at h;refine way (λ h=>?_) λ h=>?_
 ·rw[qs]at h;exact waz (by rw[if_pos (.inr (by omega))])
 ·rw[qn]at h;exact waz (by rw[if_neg (by omega)])
theorem qu1(t:T):size t<=1000000000->Ev (λ m _=>jz m t) t:=by
 induction t using T.ind with
 | h t e =>
   intro l;refine waA ?_;simp only[qBr,qgy];have n:=yz t
   have a:=qr (P := λ i=>Ev (λ m k=>qbd m (jz m) k t.kids t.kids.length i t.kind t.name t.sort 0 [] 0 (t.kids.take i) []) t) t.kids (by omega)
    (λ b=>by
     refine waB ?_;simp only[qqM,qgl];refine wax b ?_;rw[wC];exact waz (ql t))
    (λ i x c o b g f j=>by
     refine waB ?_;simp only[qqM,qgl,ql];have d:=wa c;have p:=jJ t x d;refine wav b (waw g (wat (e x d (by omega)) (wav (qD ?_ (by omega)) ?_)))
     ·have:(t.kids.take i).length<=t.kids.length:=by rw[wm];omega
      omega
     ·rw[f];refine j.congr λ m k=>?_;rw[kw,c];rfl)
   refine waC (L := λ m k=>qbd m (jz m) k t.kids t.kids.length 0 t.kind t.name t.sort 0 [] 0 [] []) ?_;exact a 0 (we _)
def qyu:T->Prop:=T.para λ t a=>t.kids.length<2 ^ 62/\t.name.length<2 ^ 62/\∀ p∈a,p
theorem qEZ(t:T):qyu t↔t.kids.length<2 ^ 62/\t.name.length<2 ^ 62/\∀ k∈t.kids,qyu k:=by
 unfold qyu;rw[T.para_eq];exact⟨λ⟨a,b,c⟩=>⟨a,b,λ k d=>c _ (kO d)⟩,λ⟨a,b,c⟩=>⟨a,b,λ p e=>by obtain⟨k,d,rfl⟩:=wy.1 e;exact c k d⟩⟩
theorem qLv{l:List T}{a:Int}(c:0<=a)(h:ql0 l a=true):∀ t∈l,(size t:Int)<=a := λ t b=>by
 have e:=qy8 l a c h;have d:=qkL l t b;omega
end Go.AmZ
namespace Go.GxZ
def qv1(t:T):Int:=if(qH t.name).2.2=0 then 10 else if qn9 yU t.name t.kids.length=false then 6 else if(qH t.name).2.2=2/\qlh t=false then 10 else 0
theorem qvo(n:List UInt8):(yU.find? λ r=>r.1==n)=none\/∃ r∈yU,r.1=n/\(yU.find? λ r=>r.1==n)=some r:=by
 cases h:yU.find? λ r=>r.1==n with
 | none=>exact .inl rfl
 | some r=>exact .inr ⟨r,List.mem_of_find?_eq_some h,by simpa using List.find?_some h,rfl⟩
theorem qwZ{n:List UInt8}(h:(yU.find? λ r=>r.1==n)=none):qH n=(0,0,0):=by unfold qH;rw[h];rfl
theorem qpI{n:List UInt8}{r:List UInt8 × Int × Int × Int}(h:(yU.find? λ r=>r.1==n)=some r):qH n=r.2:=by unfold qH;rw[h];rfl
def qMn(r:List UInt8 × Int × Int × Int):Bool :=
 decide (r.2.2.2≠0)&&decide (0<=r.2.1)&&decide (r.2.2.1<=8)&&(decide (r.2.2.2=2)==(r.1==qiv||r.1==nSk||r.1==quY))&&(decide (r.2.2.2=2)==decide (r.2.2.2=2/\1<=r.2.1))&&(decide (r.2.2.2=3)==(r.1==qLI||r.1==qxO||r.1==qLn||r.1==qGM||r.1==qGg||r.1==qG9))
theorem qMy:yU.all qMn=true:=by decide
theorem qwT{n:List UInt8}(h:(qH n).2.2≠0):qK9 yU n=true/\qxu yU n=qH n/\0<=(qH n).1/\(qH n).2.1<=8/\((qH n).2.2=2↔n=qiv\/n=nSk\/n=quY)/\((qH n).2.2=2->1<=(qH n).1)/\((qH n).2.2=3↔isD n=true):=by
 rcases qvo n with b | ⟨r,d,g,b⟩
 ·rw[qwZ b]at h;exact absurd rfl h
 ·have c:=wv.1 qMy r d;subst g;rw[qpI b];unfold qMn at c;simp only[wd,beq_iff_eq,decide_eq_true_eq]at c;obtain⟨⟨⟨⟨⟨l,k⟩,j⟩,a⟩,f⟩,i⟩:=c;refine⟨wah.2 ⟨r,d,by simp⟩,qpI b,k,j,?_,?_,?_⟩
  ·constructor
   ·intro h;rw[decide_eq_true h]at a;have:=a.symm;simp only[kh,beq_iff_eq]at this;exact or_assoc.1 this
   ·intro h;by_cases e:r.2.2.2=2
    ·exact e
    ·rw[decide_eq_false e]at a;have:=a.symm;simp only[xJ,beq_eq_false_iff_ne]at this;rcases h with h | h | h
     ·exact absurd h this.1.1
     ·exact absurd h this.1.2
     ·exact absurd h this.2
  ·intro h;rw[decide_eq_true h]at f;have:=of_decide_eq_true f.symm;exact this.2
  ·unfold isD;rw[<- i];simp
theorem qJ3(t:T)(n:t.kind=3):qv1 t=qc8 t:=by
 unfold qv1 qc8;rw[if_neg (show ¬ (t.kind≠3)from λ h=>h n)];by_cases b:(qH t.name).2.2=0
 ·rw[if_pos b,if_pos b]
 ·rw[if_neg b,if_neg b];obtain⟨j,i,r,q,g,p,o⟩:=qwT b
  have e1:qn9 yU t.name t.kids.length=(decide ((qH t.name).1<=(t.kids.length:Int))&&decide ((t.kids.length:Int)<=(qH t.name).2.1)):=by
   unfold qn9;rw[j,i,w7]
  rw[e1];by_cases e:(t.kids.length:Int)<(qH t.name).1\/(qH t.name).2.1<(t.kids.length:Int)
  ·rw[if_pos e,if_pos];rw[va,decide_eq_false_iff_not,decide_eq_false_iff_not];omega
  ·rw[if_neg e,if_neg]
   ·have f:(qH t.name).2.2=2/\qlh t=false↔qaK t=true:=by
      rw[g];unfold qlh qaK;by_cases a:t.name=qiv
      ·rw[if_pos a,if_pos a];simp[a]
      ·rw[if_neg a,if_neg a];by_cases c:t.name=nSk\/t.name=quY
       ·rw[if_pos c]
        have:agB t.kids = !(t.kids.any λ k=>decide (k.kind=3)||decide (k.sort≠1)):=by
         unfold agB;generalize t.kids=l
         induction l with
         | nil=>rfl
         | cons x l m=>simp only[kC,vX,m,Bool.not_or];congr 1;congr 1;by_cases h:x.sort=1<;>simp[bne,h]
        rw[this];simp[c]
       ·rw[if_neg c];constructor
        ·rintro⟨h,_⟩;rcases h with h | h
         ·exact absurd h a
         ·exact absurd h c
        ·intro h;cases h
    by_cases d:qaK t=true
    ·rw[if_pos d,if_pos (f.2 d)]
    ·rw[if_neg d,if_neg (λ h=>d (f.1 h))]
   ·rw[va,decide_eq_false_iff_not,decide_eq_false_iff_not];omega
theorem qdc{t:T}(e:t.kind=3)(h:zl t=0):qc8 t=0/\(∀ k∈t.kids,zl k=0):=by
 rw[qox,if_neg (show ¬ (t.kind≠3)from λ h=>h e)]at h;by_cases c:qc8 t=0
 ·refine⟨c,?_⟩;rw[c]at h;generalize t.kids=l at *
  induction l with
  | nil=>intro k a;cases a
  | cons x l d =>
    rw[wo,QV]at h;by_cases b:zl x=0
    ·rw[b]at h;intro k a;rcases wx.1 a with rfl | a
     ·exact b
     ·exact d h k a
    ·rw[qT _ b]at h;exact absurd h b
 ·rw[qT _ c]at h;exact absurd h c
end Go.GxZ
namespace Go.AmZ
open Go Go.GxZ Go.Lib
theorem qkX(t:T)(n:List UInt8):Ev (λ m _=>ju m t n) (isN t n):=by
 refine waA ?_;simp only[qEf,ql8];unfold isN;refine way (λ h=>?_) λ h=>?_
 ·rw[qk]at h;exact waz (by rw[h];rfl)
 ·rw[qh]at h;exact waz (by rw[show(t.kind==3)=false from beq_eq_false_iff_ne.2 h];rfl)
theorem qmk(t:T)(n:List UInt8):Ev (λ m _=>qcc m t n) (isN t n):=by
 refine waA ?_;simp only[qGQ,qnU];unfold isN;refine way (λ h=>?_) λ h=>?_
 ·rw[qk]at h;exact waz (by rw[h];rfl)
 ·rw[qh]at h;exact waz (by rw[show(t.kind==3)=false from beq_eq_false_iff_ne.2 h];rfl)
theorem qNU(n:List UInt8)(l:List T):Ev (λ m _=>qhF m n l) (apT n l):=waA (wau _)
theorem qfu(n:List UInt8)(l:List T)(a:l.length<=1000000000):Ev (λ m _=>Qo m n l) (apT n l):=by
 refine waA ?_;simp only[qEo,qlU];refine wav (qD (by simp;omega) (by omega)) ?_;refine Ev.case (λ h=>?_) λ x t h=>?_
 ·subst h;exact wau _
 ·subst h;exact wau _
def qKU(n:List UInt8):List UInt8 × Int × Int × Int:=(yU.find? λ r=>r.1==n).getD ([],0,0,0)
theorem qt9(n:List UInt8):(qKU n).2=qH n:=by
 unfold qKU qH;cases yU.find? λ r=>r.1==n<;>rfl
theorem qzJ(n:List UInt8):Ev (λ m _=>qdP m n) (qKU n):=by
 refine waA ?_;simp only[qvV,qdk];refine wat (a:=yU) (wau _) ?_
 have b:=qr (P := λ i=>Ev (λ m k=>Je m k n yU yU.length i [] 0 0 0) (((yU.drop i).find? λ r=>r.1==n).getD ([],0,0,0))) yU (by decide)
  (λ c=>by
   refine waB ?_;simp only[qlJ,qdI];refine wax c ?_;exact wau _)
  (λ i x j f c e d g=>by
   refine waB ?_;simp only[qlJ,qdI];refine wav c (waw e ?_);rw[f,List.find?_cons,d];refine way (λ h=>?_) λ h=>?_
   ·exact waz (by rw[show(x.1==n)=true from h];rfl)
   ·rw[show(x.1==n)=false from h];exact g)
 refine waC (L := λ m k=>Je m k n yU yU.length 0 [] 0 0 0) ?_;exact b 0 (we _)
theorem quM{t:T}(c:t.kind=3)(h:qc8 t=0):(qH t.name).2.2≠0/\(qH t.name).1<=(t.kids.length:Int)/\(t.kids.length:Int)<=(qH t.name).2.1/\qaK t=false:=by
 unfold qc8 at h;rw[if_neg (show ¬ t.kind≠3 from λ a=>a c)]at h;split at h
 ·omega
 rename_i d;split at h
 ·omega
 rename_i e;split at h
 ·omega
 rename_i b;exact⟨d,by omega,by omega,by simpa using b⟩
theorem qyL{t:T}{i:Nat}(h:i<t.kids.length):qc t.kids (i:Int)=some (kid t i):=by
 rw[qU];unfold kid;rw[List.getD_eq_getElem?_getD,List.getElem?_eq_getElem h];rfl
theorem qej{t:T}(h:0<t.kids.length):qc t.kids 0=some (kid t 0):=qyL (i:=0) h
theorem qsZ{t:T}(h:1<t.kids.length):qc t.kids 1=some (kid t 1):=qyL (i:=1) h
theorem qEM{t:T}{i:Nat}(h:i<t.kids.length):kid t i∈t.kids:=by
 unfold kid;rw[List.getD_eq_getElem?_getD,List.getElem?_eq_getElem h];exact wW h
theorem yO{t:T}{n:List UInt8}:isN t n=true↔t.kind=3/\t.name=n:=by
 unfold isN;rw[wd,beq_iff_eq,beq_iff_eq]
theorem qJe(t:T):size t<=1000000000->Ev (λ m _=>qE m t) (zl t):=by
 induction t using T.ind with
 | h t E =>
   intro F;refine waA ?_;simp only[qxq,qeA];have G:=yz t;rw[qox];refine way (λ h=>?_) λ z=>?_
   ·rw[bnt,qh]at h;exact waz (by rw[if_pos h])
   rw[bnf,qk]at z;rw[if_neg (show ¬ t.kind≠3 from λ c=>c z)]
   have C:=qr (P := λ i=>Ev (λ m k=>(qV m (qE m) k).2 t.kids t.kids.length i) (((t.kids.drop i).map zl).foldl thn 0)) t.kids (by omega)
    (λ f=>by
     refine waB ?_;simp only[qnp,qeC];refine wax f ?_;exact waz (by simp))
    (λ i x A w f v u y=>by
     refine waB ?_;simp only[qnp,qeC,ql];have B:=wa A;have l:=jJ t x B;refine wav f (waw v (wat (E x B (by omega)) ?_));rw[w,wo,QV,u];refine way (λ h=>?_) λ h=>?_
     ·rw[bnt,qh]at h;exact waz (by rw[qT _ h])
     ·rw[bnf,qk]at h;rw[h];exact y)
   have n:Ev (λ m k=>(qV m (qE m) k).2 t.kids t.kids.length 0) ((t.kids.map zl).foldl thn 0):=(C 0 (we _)).res (by rw[wO])
   have D:=qr (P := λ i=>Ev (λ m k=>(qV m (qE m) k).1 t.kids t.kids.length i t.kind t.name t.sort t.kids) (if(t.kids.drop i).any (λ k=>decide (k.kind=3)||decide (k.sort≠1))=true then 10 else(t.kids.map zl).foldl thn 0)) t.kids (by omega)
    (λ f=>by
     refine waB ?_;simp only[qnI,qex];refine wax f ?_;refine n.res ?_;rw[wT];rfl)
    (λ i x A w f v u y=>by
     refine waB ?_;simp only[qnI,qex,ql];refine wav f (waw v ?_);rw[w,vX,u];refine way (λ h=>?_) λ h=>?_
     ·rw[qk]at h;exact waz (by rw[decide_eq_true h];rfl)
     rw[qh]at h;rw[decide_eq_false h];refine way (λ q=>?_) λ q=>?_
     ·rw[bnt,qh]at q;exact waz (by rw[decide_eq_true q];rfl)
     ·rw[bnf,qk]at q;rw[decide_eq_false (λ c=>c q)];exact y)
   have d:qc8 t=0->Ev (λ m _=>(qV m (qE m) m).2 t.kids t.kids.length 0) ((t.kids.map zl).foldl thn (qc8 t)) := λ h=>by
    rw[h];exact waC (L := λ m k=>(qV m (qE m) k).2 t.kids t.kids.length 0) n
   have e:qaK t=t.kids.any (λ k=>decide (k.kind=3)||decide (k.sort≠1))->qc8 t=(if qaK t=true then 10 else 0)->Ev (λ m _=>(qV m (qE m) m).1 t.kids t.kids.length 0 t.kind t.name t.sort t.kids) ((t.kids.map zl).foldl thn (qc8 t)) := λ r h=>by
    refine(waC (L := λ m k=>(qV m (qE m) k).1 t.kids t.kids.length 0 t.kind t.name t.sort t.kids) (D 0 (we _))).res ?_;rw[wO,<- r,h];split
    ·rw[qT _ (by decide)]
    ·rfl
   refine wat (qzJ t.name) ?_;rw[qt9]
   have a:qc8 t=if(qH t.name).2.2=0 then 10 else if(t.kids.length:Int)<(qH t.name).1\/(qH t.name).2.1<(t.kids.length:Int)then 6 else if qaK t=true then 10 else 0:=by
    unfold qc8;rw[if_neg (show ¬ t.kind≠3 from λ c=>c z)]
   refine way (λ h=>?_) λ h=>?_
   ·rw[qk]at h;rw[if_pos h]at a;exact waz (by rw[a,qT _ (by decide)])
   rw[qh]at h;rw[if_neg h]at a;refine way (λ l=>?_) λ l=>?_
   ·rw[qs]at l;rw[if_pos (.inl l)]at a;exact waz (by rw[a,qT _ (by decide)])
   rw[qn]at l;refine way (λ s=>?_) λ s=>?_
   ·rw[qs]at s;rw[if_pos (.inr s)]at a;exact waz (by rw[a,qT _ (by decide)])
   rw[qn]at s;rw[if_neg (by omega)]at a;refine way (λ p=>?_) λ p=>?_
   ·rw[yQ]at p;refine e ?_ a;unfold qaK;rw[p,if_neg (by decide),if_pos (.inl rfl)]
   rw[jS]at p;refine way (λ b=>?_) λ b=>?_
   ·rw[yQ]at b;refine e ?_ a;unfold qaK;rw[b,if_neg (by decide),if_pos (.inr rfl)]
   rw[jS]at b;refine way (λ j=>?_) λ j=>?_
   ·rw[yQ]at j
    have o:0<t.kids.length:=by
     rw[j,show(qH [110,101,119]).1=1 from by decide]at l;omega
    refine waw (qej o) ?_
    have r:qaK t=decide ((kid t 0).kind≠2):=by
     unfold qaK;rw[if_pos (show t.name=qiv from j)]
    refine way (λ c=>?_) λ c=>?_
    ·rw[bnt,qh]at c;rw[r,decide_eq_true c,if_pos rfl]at a;exact waz (by rw[a,qT _ (by decide)])
    ·rw[bnf,qk]at c;rw[r,decide_eq_false (λ g=>g c)]at a;exact d a
   ·rw[jS]at j;refine d ?_
    have:qaK t=false:=by
     unfold qaK;rw[if_neg (show ¬ t.name=qiv from j),if_neg (λ h=>h.elim p b)]
    rw[this]at a;exact a
theorem qF8(t:T)(a:size t<=1000000000):Ev (λ m _=>qeU m t) (qcj t):=by
 refine waA ?_;simp only[qyP,qhE,ql];unfold qcj;refine wat (qdf t a) ?_;refine way (λ h=>?_) λ h=>?_
 ·rw[bnt,qh]at h;exact waz (by rw[QT h])
 ·rw[bnf,qk]at h;rw[h];exact wat (qJe t a) (wau _)
theorem qyD(n:List UInt8):Ev (λ m _=>qff m n) (qH n).2.2:=by
 refine waA ?_;simp only[qBi,qgg];refine wat (a:=yU) (waA (wau _)) ?_
 have b:=qr (P := λ i=>Ev (λ m k=>qbp m k n yU i) (((yU.drop i).find? λ r=>r.1==n).getD ([],0,0,0)).2.2.2) yU (by decide)
  (λ c=>by
   refine waB ?_;simp only[qqL,qgk];refine wax c ?_;exact wau _)
  (λ i x j f c d e g=>by
   refine waB ?_;simp only[qqL,qgk];refine wav c (waw d ?_);rw[f,List.find?_cons,e];refine way (λ h=>?_) λ h=>?_
   ·refine waw d (waz ?_);rw[show(x.1==n)=true from h];rfl
   ·rw[show(x.1==n)=false from h];exact g)
 refine waC (L := λ m k=>qbp m k n yU 0) ?_;exact(b 0 (we _)).res (by rw[<- qt9];rfl)
theorem qNa(t:T):Ev (λ m _=>qkY m t) (qn9 yU t.name t.kids.length):=by
 refine waA ?_;simp only[qBH,qgD];refine wat (a:=yU) (waA (wau _)) ?_
 have c:=qr (P := λ i=>Ev (λ m k=>qbk m k yU i t.kind t.name t.sort t.kids) (qn9 (yU.drop i) t.name t.kids.length)) yU (by decide)
  (λ e=>by
   refine waB ?_;simp only[qqW,qgn];refine wax e ?_;exact wau _)
  (λ i x l g e d f j=>by
   refine waB ?_;simp only[qqW,qgn];refine wav e (waw d ?_);rw[g,qIh,f];refine way (λ h=>?_) λ h=>?_
   ·rw[if_pos (show(x.1==t.name)=true from h)];refine waw d ?_;refine way (λ b=>?_) λ b=>?_
    ·rw[jm]at b;refine waw d (waz ?_);rw[decide_eq_true b];rfl
    ·rw[yq]at b;exact waz (by rw[decide_eq_false (by omega)];rfl)
   ·rw[if_neg (by rw[show(x.1==t.name)=false from h];decide)];exact j)
 refine waC (L := λ m k=>qbk m k yU 0 t.kind t.name t.sort t.kids) ?_;exact c 0 (we _)
theorem qIr(t:T)(f:t.kids.length<2 ^ 62)(a:t.name=qiv->0<t.kids.length):Ev (λ m _=>qhn m t) (qlh t):=by
 refine waA ?_;simp only[qxY,qes];unfold qlh;refine way (λ h=>?_) λ h=>?_
 ·rw[yQ]at h;rw[if_pos (show t.name=qiv from h)];refine waw (qej (a h)) (wau _)
 rw[jS]at h;rw[if_neg (show ¬ t.name=qiv from h)]
 have c:=qr (P := λ i=>Ev (λ m k=>JS m k i t.kind t.name t.sort t.kids) (agB (t.kids.drop i))) t.kids f
  (λ d=>by
   refine waB ?_;simp only[qnt,qei];refine wax d ?_;exact waz (by rw[wT];rfl))
  (λ i x n j d e g l=>by
   refine waB ?_;simp only[qnt,qei];refine wav d (waw e ?_);rw[j,qKi,g];refine way (λ h=>?_) λ h=>?_
   ·exact waz (by rw[show(x.kind==3)=true from h];rfl)
   rw[show(x.kind==3)=false from h];refine waw e ?_;refine way (λ b=>?_) λ b=>?_
   ·rw[bnt,qh]at b;exact waz (by rw[show(x.sort != 1)=true from bne_iff_ne.2 b];rfl)
   ·rw[bnf,qk]at b;rw[show(x.sort != 1)=false by rw[b];rfl];exact l)
 refine waC (L := λ m k=>JS m k 0 t.kind t.name t.sort t.kids) ?_;exact(c 0 (we _)).res (by rw[wO])
theorem qJC(t:T):size t<=1000000000->Ev (λ m _=>jl m t) (zl t):=by
 induction t using T.ind with
 | h t o =>
   intro C;refine waA ?_;simp only[qAS,qfK,ql];have E:=yz t;rw[qox];refine way (λ h=>?_) λ f=>?_
   ·rw[bnt,qh]at h;exact waz (by rw[if_pos h])
   rw[bnf,qk]at f;rw[if_neg (show ¬ t.kind≠3 from λ r=>r f),<- qJ3 t f]
   have c:=qr (P := λ i=>Ev (λ m k=>Jw m (jl m) k i t.kind t.name t.sort t.kids) (((t.kids.drop i).map zl).foldl thn 0)) t.kids (by omega)
    (λ e=>by
     refine waB ?_;simp only[qoW,qfB];refine wax e ?_;exact waz (by simp))
    (λ i x p u e s q w=>by
     refine waB ?_;simp only[qoW,qfB,ql];have g:=wa p;have G:=jJ t x g;refine wav e (waw s (wat (o x g (by omega)) ?_));rw[u,wo,QV,q];refine way (λ h=>?_) λ h=>?_
     ·rw[bnt,qh]at h;exact waz (by rw[qT _ h])
     ·rw[bnf,qk]at h;rw[h];exact w)
   have a:qv1 t=0->Ev (λ m _=>Jw m (jl m) m 0 t.kind t.name t.sort t.kids) ((t.kids.map zl).foldl thn (qv1 t)) := λ h=>by
    rw[h];exact(waC (L := λ m k=>Jw m (jl m) k 0 t.kind t.name t.sort t.kids) (c 0 (we _))).res (by rw[wO])
   unfold qv1 at a |-
   refine wat (qyD t.name) ?_;refine way (λ h=>?_) λ h=>?_
   ·rw[qk]at h;rw[if_pos h];exact waz (by rw[qT _ (by decide)])
   rw[qh]at h;rw[if_neg h]at a |-
   refine wat (qNa t) ?_;cases d:qn9 yU t.name t.kids.length with
   | false =>
     refine wav rfl ?_;rw[if_pos rfl];exact waz (by rw[qT _ (by decide)])
   | true =>
     rw[d,if_neg (by decide)]at a;rw[if_neg (by decide)];refine wax rfl ?_;refine way (λ b=>?_) λ b=>?_
     ·rw[qk]at b;refine wat (qIr t (by omega) λ D=>?_) ?_
      ·obtain⟨n,l,B,A,z,j,y⟩:=qwT h;have F:=j b;unfold qn9 at d;rw[n,l,w7,wd,decide_eq_true_iff]at d;omega
      cases v:qlh t with
      | false =>
        refine wav rfl ?_;rw[if_pos ⟨b,rfl⟩];exact waz (by rw[qT _ (by decide)])
      | true =>
        rw[v,if_neg (by rintro⟨_,h⟩;cases h)]at a;rw[if_neg (by rintro⟨_,h⟩;cases h)];exact wax rfl (a rfl)
     ·rw[qh]at b;rw[if_neg (by rintro⟨h,_⟩;exact b h)]at a |-
      exact a rfl
theorem qyE(t:T)(a:size t<=1000000000):Ev (λ m _=>qdY m t) (qcj t):=by
 refine waA ?_;simp only[qAv,qiY,ql];unfold qcj;refine wat (qde t a) ?_;refine way (λ h=>?_) λ h=>?_
 ·rw[bnt,qh]at h;exact waz (by rw[QT h])
 ·rw[bnf,qk]at h;rw[h];exact wat (qJC t a) (wau _)
end Go.AmZ
namespace Go.GxZ
def Asc(l:List T):Prop:=l.Pairwise λ a b=>qu a b=-1
theorem yA{a:T}:qu a a≠-1:=by rw[qst];decide
theorem qxy{a b:T}:qu a b=1↔qu b a=-1:=by
 have:=ye.anti a b;omega
theorem qfA{a b c:T}(e:qu a b=-1)(d:qu b c=-1):qu a c=-1:=ye.trans a b c e d
theorem qa2{x:T}{l:List T}:Asc (x::l)↔(∀ y∈l,qu x y=-1)/\Asc l:=List.pairwise_cons
theorem qE0:∀(l m:List T),Asc l->Asc m->(∀ x,x∈l↔x∈m)->l=m
 | [],[],_,_,_=>rfl
 | [],y::m,_,_,h=>absurd ((h y).2 (wh ..)) (by simp)
 | x::l,[],_,_,h=>absurd ((h x).1 (wh ..)) (by simp)
 | x::l,y::m,n,k,h=>by
   obtain⟨c,i⟩:=qa2.1 n;obtain⟨b,g⟩:=qa2.1 k;have f:=(h x).1 (wh ..);have d:=(h y).2 (wh ..)
   have e:x=y:=by
    rcases wx.1 f with e | f
    ·exact e
    rcases wx.1 d with e | d
    ·exact e.symm
    exact absurd (qfA (c y d) (b x f)) yA
   subst e;rw[qE0 l m i g λ z=>?_];constructor
   ·intro a;rcases wx.1 ((h z).1 (wg _ a))with e | j
    ·subst e;exact absurd (c z a) yA
    ·exact j
   ·intro a;rcases wx.1 ((h z).2 (wg _ a))with e | j
    ·subst e;exact absurd (b z a) yA
    ·exact j
theorem qvU(n:Nat):∀(a b:List T),a.length+b.length<=n->Asc a->Asc b->Asc (zm a b)/\(∀ x,x∈zm a b↔¬(x∈a↔x∈b)):=by
 induction n with
 | zero =>
   intro a b h _ _;obtain rfl:a=[]:=kr.1 (by omega);obtain rfl:b=[]:=kr.1 (by omega);rw[zm];exact⟨List.Pairwise.nil,by simp⟩
 | succ n p =>
   intro a b h u t
   match a,b with
   | [],b=>rw[zm];exact⟨t,by simp⟩
   | x::a,[]=>rw[zm];exact⟨u,by simp[Classical.or_iff_not_imp_left]⟩
   | x::a,y::b =>
     rw[zm];obtain⟨g,o⟩:=qa2.1 u;obtain⟨f,m⟩:=qa2.1 t;simp only[wu]at h;by_cases k:qu x y=-1
     ·rw[if_pos k];obtain⟨l,i⟩:=p a (y::b) (by simp;omega) o t
      have s:x ∉ y::b:=by
       intro h;rcases wx.1 h with e | h
       ·subst e;exact yA k
       ·exact yA (qfA k (f x h))
      have B:x ∉ a := λ h=>yA (g x h);refine⟨qa2.2 ⟨λ z q=>?_,l⟩,λ z=>?_⟩
      ·have:=(i z).1 q;by_cases d:z∈a
       ·exact g z d
       ·have c:z∈y::b:=by
          by_cases c:z∈y::b
          ·exact c
          ·exact absurd ⟨λ h=>absurd h d,λ h=>absurd h c⟩ this
        rcases wx.1 c with e | w
        ·rw[e];exact k
        ·exact qfA k (f z w)
      ·rw[wx,i,wx (a:=z) (b:=x)];by_cases e:z=x
       ·subst e;simp[s]
       ·simp[e]
     ·rw[if_neg k];by_cases v:qu x y=1
      ·rw[if_pos v];have j:=qxy.1 v;obtain⟨l,i⟩:=p (x::a) b (by simp;omega) u m
       have r:y ∉ x::a:=by
        intro h;rcases wx.1 h with e | h
        ·subst e;exact yA j
        ·exact yA (qfA j (g y h))
       have A:y ∉ b := λ h=>yA (f y h);refine⟨qa2.2 ⟨λ z q=>?_,l⟩,λ z=>?_⟩
       ·have:=(i z).1 q;by_cases c:z∈b
        ·exact f z c
        ·have d:z∈x::a:=by
           by_cases d:z∈x::a
           ·exact d
           ·exact absurd ⟨λ h=>absurd h d,λ h=>absurd h c⟩ this
         rcases wx.1 d with e | w
         ·rw[e];exact j
         ·exact qfA j (g z w)
       ·rw[wx,i,wx (a:=z) (b:=y)];by_cases e:z=y
        ·subst e;simp[r]
        ·simp[e]
      ·rw[if_neg v];have j:qu x y=0:=by have:=ye.rng x y;omega
       have e:=qaX x y j;subst e;obtain⟨l,i⟩:=p a b (by omega) o m;refine⟨l,λ z=>?_⟩;rw[i,wx,wx];by_cases e:z=x
       ·subst e;have:z ∉ a := λ h=>yA (g z h);have:z ∉ b := λ h=>yA (f z h);simp[*]
       ·simp[e]
theorem qy3{a b:List T}(d:Asc a)(c:Asc b):Asc (zm a b):=(qvU _ a b (wb _) d c).1
theorem qJd{a b:List T}(d:Asc a)(c:Asc b)(x:T):x∈zm a b↔¬(x∈a↔x∈b):=(qvU _ a b (wb _) d c).2 x
theorem qif:∀(b:List (List T)) (a:List T),Asc a->(∀ l∈b,Asc l)->Asc (b.foldl zm a)
 | [],_,h,_=>h
 | l::b,a,h,k=>qif b _ (qy3 h (k l (wh ..))) λ m c=>k m (wg _ c)
theorem qmX(t:T):Asc (Qd t):=by
 refine T.ind (P := λ t=>Asc (Qd t)) ?_ t;intro t a;rw[qlT];split
 ·exact List.Pairwise.nil
 ·split
  ·exact qif _ _ List.Pairwise.nil λ l b=>by
    obtain⟨k,c,rfl⟩:=wy.1 b;exact a k c
  ·exact vw _ _
def JO(t:T)(s:List T × Bool)(x:T):List T × Bool :=
 if s.2=false/\qu t x<=0 then(s.1++(if qu t x<0 then[t]else[])++[x],true)else(s.1++[x],s.2)
def qyw(l:List T)(t:T):List T:=if(l.foldl (JO t) ([],false)).2 then(l.foldl (JO t) ([],false)).1 else(l.foldl (JO t) ([],false)).1++[t]
def qi6(l:List T)(t:T):List T:=if l.any (λ x=>jk x t)then l.filter (λ x => !jk x t)else qyw l t
def qk5(a b:List T):List T:=b.foldl qi6 a
theorem qzq(t:T):∀(l a:List T),l.foldl (JO t) (a,true)=(a++l,true)
 | [],a=>by simp
 | x::l,a=>by
   have e:JO t (a,true) x=(a++[x],true):=by simp[JO]
   rw[kg,e,qzq t l];simp
def Jm:List T->T->List T
 | [],t=>[t]
 | x::l,t=>if qu t x<0 then t::x::l else if qu t x=0 then x::l else x::Jm l t
theorem qw6(t:T):∀(l a:List T),(if(l.foldl (JO t) (a,false)).2 then(l.foldl (JO t) (a,false)).1 else(l.foldl (JO t) (a,false)).1++[t])=a++Jm l t
 | [],a=>by simp[Jm]
 | x::l,a=>by
   rw[kg];by_cases h:qu t x<=0
   ·have e:JO t (a,false) x=(a++(if qu t x<0 then[t]else[])++[x],true):=by simp[JO,h]
    rw[e,qzq,Jm];by_cases b:qu t x<0
    ·simp[b]
    ·have:qu t x=0:=by omega
     simp[this]
   ·have e:JO t (a,false) x=(a++[x],false):=by simp[JO,h]
    rw[e,qw6 t l,Jm,if_neg (by omega),if_neg (by omega)];simp
theorem qum(l:List T)(t:T):qyw l t=Jm l t:=by
 have:=qw6 t l [];simpa[qyw]using this
theorem qtX(t:T):∀(l:List T) (x:T),x∈Jm l t↔x∈l\/x=t
 | [],x=>by simp[Jm]
 | y::l,x=>by
   rw[Jm];split
   ·simp only[wx];constructor
    ·rintro(h | h | h)<;>simp[h]
    ·rintro((h | h) | h)<;>simp[h]
   ·split
    ·rename_i h;have:=qaX t y h;subst this;simp only[wx];constructor
     ·rintro(h | h)<;>simp[h]
     ·rintro((h | h) | h)<;>simp[h]
    ·rw[wx,qtX t l x,wx];constructor
     ·rintro(h | h | h)<;>simp[h]
     ·rintro((h | h) | h)<;>simp[h]
theorem qDE(t:T):∀(l:List T),Asc l->Asc (Jm l t)
 | [],_=>vw _ _
 | y::l,h=>by
   obtain⟨c,d⟩:=qa2.1 h;rw[Jm];have f:=ye.rng t y;split
   ·have b:qu t y=-1:=by omega
    refine qa2.2 ⟨λ z a=>?_,h⟩;rcases wx.1 a with e | a
    ·rw[e];exact b
    ·exact qfA b (c z a)
   ·split
    ·exact h
    ·refine qa2.2 ⟨λ z a=>?_,qDE t l d⟩;rcases(qtX t l z).1 a with a | e
     ·exact c z a
     ·rw[e];exact qxy.1 (by omega)
theorem qb1{a b:T}:jk a b=true↔a=b:=by unfold jk;exact decide_eq_true_iff
theorem qJA{l:List T}(h:Asc l)(t:T):Asc (qi6 l t)/\∀ x,x∈qi6 l t↔¬(x∈l↔x=t):=by
 unfold qi6;by_cases a:t∈l
 ·have f:(l.any λ x=>jk x t)=true:=wah.2 ⟨t,a,qb1.2 rfl⟩;rw[if_pos f];refine⟨List.Pairwise.filter _ h,λ x=>?_⟩;rw[kG];by_cases e:x=t
  ·subst e;simp[a,qb1.2 rfl]
  ·have:jk x t=false:=by
     cases b:jk x t
     ·rfl
     ·exact absurd (qb1.1 b) e
   simp[e,this]
 ·rw[if_neg (λ b=>by
    obtain⟨x,c,d⟩:=wah.1 b;exact a (by rw[<- qb1.1 d];exact c)),qum]
  refine⟨qDE t l h,λ x=>?_⟩;rw[qtX];by_cases e:x=t
  ·subst e;simp[a]
  ·simp[e]
theorem qpq:∀(b a:List T),Asc a->Asc b->Asc (qk5 a b)/\∀ x,x∈qk5 a b↔¬(x∈a↔x∈b)
 | [],a,g,_=>⟨g,λ x=>by simp[qk5]⟩
 | y::b,a,g,n=>by
   obtain⟨f,d⟩:=qa2.1 n;obtain⟨l,k⟩:=qJA g y;obtain⟨j,i⟩:=qpq b (qi6 a y) l d;refine⟨j,λ x=>?_⟩;rw[show qk5 a (y::b)=qk5 (qi6 a y) b from rfl,i,k,wx];by_cases e:x=y
   ·subst e;have:x ∉ b := λ h=>yA (f x h);by_cases c:x∈a<;>simp[this,c]
   ·by_cases c:x∈a<;>by_cases m:x∈b<;>simp[e,c,m]
theorem qC5{a b:List T}(d:Asc a)(c:Asc b):qk5 a b=zm a b :=
 qE0 _ _ (qpq b a d c).1 (qy3 d c) λ x=>by rw[(qpq b a d c).2,qJd d c]
end Go.GxZ
namespace Go.AmZ
open Go Go.GxZ Go.Lib
def szL(l:List T):Nat:=(l.map size).sum
theorem qR(x:T)(l:List T):szL (x::l)=size x+szL l:=by simp[szL]
theorem qiI(a b:List T):szL (a++b)=szL a+szL b:=by simp[szL]
theorem jT:∀ l:List T,l.length<=szL l
 | []=>we _
 | x::l=>by
   have:=jT l;have:=size_pos x;rw[qR,wu];omega
theorem qcT{l:List T}{x:T}(h:x∈l):size x<=szL l:=qkL l x h
theorem qqm:∀(n:Nat) (a b:List T),a.length+b.length<=n->szL (zm a b)<=szL a+szL b
 | _,[],b,_=>by rw[zm];omega
 | _,x::a,[],_=>by rw[zm];omega
 | 0,x::a,y::b,h=>by simp at h
 | n+1,x::a,y::b,h=>by
   simp only[wu]at h;rw[zm];split
   ·have:=qqm n a (y::b) (by simp;omega);rw[qR,qR];omega
   ·split
    ·have:=qqm n (x::a) b (by simp;omega);rw[qR y,qR y];omega
    ·have:=qqm n a b (by omega);rw[qR,qR];omega
theorem qtL:∀(b:List (List T)) (a:List T),szL (b.foldl zm a)<=szL a+(b.map szL).sum
 | [],_=>by simp
 | l::b,a=>by
   have d:=qtL b (zm a l);have c:=qqm _ a l (wb _);simp only[kg,wo,kD];omega
theorem qwP(f g:T->Nat):∀ l:List T,(∀ k∈l,f k<=g k)->(l.map f).sum<=(l.map g).sum
 | [],_=>wb _
 | x::l,h=>by
   have c:=h x (wh ..);have b:=qwP f g l λ k a=>h k (wg _ a);simp only[wo,kD];omega
theorem qCD(l:List T)(h:∀ k∈l,szL (Qd k)<=size k):szL ((l.map Qd).foldl zm [])<=szL l:=by
 refine wD (qtL _ _) ?_;rw[xi];have:=qwP (szL ∘ Qd) size l h;show 0+_<=(l.map size).sum;omega
theorem qlA(t:T):szL (Qd t)<=size t:=by
 refine T.ind (P := λ t=>szL (Qd t)<=size t) ?_ t;intro t a;rw[qlT];split
 ·exact we _
 ·split
  ·have:=qCD t.kids a;have:=qL t;unfold szL at *;omega
  ·show szL [t]<=_;rw[qR];exact wb _
theorem qe7(l:List T):szL (zX l)<=szL l:=qCD l λ k _=>qlA k
theorem qpW(x:T)(l:List T):QM (x::l) 1 (((x::l).length:Nat):Int)=l:=by
 unfold QM;rw[wF,wC];rfl
theorem qdK(n:Nat):inb (n:Int) n=true:=by unfold inb;rw[decide_eq_true_iff];omega
theorem qtb(x:T)(l:List T):inb 1 (Int.toNat (((x::l).length:Nat):Int))=true:=by
 unfold inb;rw[decide_eq_true_iff,wF,wu];omega
theorem qCo(x:T)(l:List T):ilt 0 (((x::l).length:Nat):Int)=true:=by rw[qs,wu];omega
theorem qHx:∀(n:Nat) (a b c:List T),a.length+b.length<=n->szL c+szL a+szL b<=1000000000->Ev (λ m k=>qdg m k a b c) (c++zm a b):=by
 intro n
 induction n with
 | zero =>
   intro a b c i g;have:a=[]:=wk (by omega);subst this;have:b=[]:=wk (by omega);subst this;refine waB ?_;simp only[qtO,qjt];have:=jT c;exact wax rfl (wav (qD (by simp only[ke];omega) (by omega)) (wav (qD (by simp only[ke,wB];omega) (by omega)) (waz (by rw[zm];simp))))
 | succ n f =>
   intro a b c i g;refine waB ?_;simp only[qtO,qjt,ql];have o:=jT c;have l:=jT a;have j:=jT b;cases a with
   | nil =>
     refine wax rfl (wav (qD (by simp only[ke];omega) (by omega)) (wav (qD (by simp only[wB];omega) (by omega)) (waz (by rw[zm];simp))))
   | cons x a =>
     refine wav (qCo x a) ?_;cases b with
     | nil =>
       refine wax rfl (wav (qD (by omega) (by omega)) (wav (qD (by rw[wc];simp only[ke];omega) (by omega)) (waz (by rw[zm];simp))))
     | cons y b =>
       rw[qR,qR]at g;refine wav (qCo y b) (waw (qad _) (waw (qad _) (wat (qd2 x (by omega) y (by omega)) ?_)));rw[zm];simp only[wu]at i l j;rw[qR]at l j;refine way (λ e=>?_) λ e=>?_
       ·rw[qs]at e;have e:qu x y=-1:=by rcases ye.rng x y with h | h | h<;>omega
        rw[if_pos e];refine waw (qad _) (wav (qD (by omega) (by omega)) (wav (qdK _) (wav (qtb x a) ?_)));rw[qpW];refine(f a (y::b) (c++[x]) (by simp only[wu];omega) (by rw[qiI,qR,qR];show szL c+(size x+0)+_+_<=_;omega)).res (by simp)
       ·rw[qn]at e;rw[if_neg (by omega)];refine way (λ d=>?_) λ d=>?_
        ·rw[qs]at d;have d:qu x y=1:=by rcases ye.rng x y with h | h | h<;>omega
         rw[if_pos d];refine waw (qad _) (wav (qD (by omega) (by omega)) (wav (qdK _) (wav (qtb y b) ?_)));rw[qpW];refine(f (x::a) b (c++[y]) (by simp only[wu];omega) (by rw[qiI,qR,qR];show szL c+(size y+0)+_+_<=_;omega)).res (by simp)
        ·rw[qn]at d;rw[if_neg (by omega)];refine wav (qdK _) (wav (qtb x a) (wav (qdK _) (wav (qtb y b) ?_)));rw[qpW,qpW];exact f a b c (by omega) (by omega)
theorem qCR(a b:List T)(c:szL a+szL b<=1000000000):Ev (λ m _=>ql2 m a b) (zm a b):=by
 refine waA ?_;simp only[qHi,qjf];refine waC (L := λ m k=>qdg m k a b []) ?_;exact qHx _ a b [] (wb _) (by show 0+_+_<=_;omega)
theorem qEj(l:List T)(i:Nat):szL (l.take i)<=szL l:=by
 have:=congrArg szL (kz i l);rw[qiI]at this;omega
theorem Qy{l:List T}{i:Nat}{x:T}(h:l[i]?=some x):szL (l.take i)+size x<=szL l:=by
 have b:l.take (i+1)=l.take i++[x]:=by rw[kw,h];rfl
 have a:=qEj l (i+1);rw[b,qiI,qR]at a;have:szL ([]:List T)=0:=rfl;omega
theorem qkF{l:List T}{i:Nat}{x:T}(h:l[i]?=some x):((l.take (i+1)).map Qd).foldl zm []=zm (((l.take i).map Qd).foldl zm []) (Qd x):=by
 rw[kw,h,wS,xe];rfl
theorem qLR(t:T):size t<=1000000000->Ev (λ m _=>yE m t) (Qd t):=by
 induction t using T.ind with
 | h t s =>
   intro B;have C:=yz t;have A:=qL t;refine waA ?_;simp only[qxp,qeq,ql]
   have o:=qr (P := λ i=>Ev (λ m k=>QR m (yE m) k (((t.kids.take i).map Qd).foldl zm []) t.kids t.kids.length i) ((t.kids.map Qd).foldl zm [])) t.kids (by omega)
    (λ q=>by
     refine waB ?_;simp only[qmU,qew];refine wax q ?_;rw[wC];exact wau _)
    (λ i x c D q w u y=>by
     refine waB ?_;simp only[qmU,qew,ql];have r:=wa c;have F:=jJ t x r;have z:=qe7 (t.kids.take i);have g:=Qy c;have E:=qlA x;refine wav q (waw w (wat (s x r (by omega)) (wat (qCR _ _ ?_) ?_)))
     ·unfold zX at z;unfold szL at *;omega
     ·rw[u];refine y.congr λ m k=>?_;rw[qkF c])
   have j:Ev (λ m _=>QR m (yE m) m [] t.kids t.kids.length 0) ((t.kids.map Qd).foldl zm []) :=
    waC (L := λ m k=>QR m (yE m) k [] t.kids t.kids.length 0) (o 0 (we _))
   rw[qlT];by_cases g:t.kind=3
   ·have f:ieq t.kind 3=true:=qk.2 g;refine wav f ?_;refine way (λ e=>?_) λ e=>?_
    ·rw[yQ]at e;have a:isN t qcH=true:=yO.2 ⟨g,e⟩
     have d:isN t qc5=false:=by
      rw[<- kP,yO];rintro⟨_,h⟩;rw[e]at h;exact absurd h (by decide)
     refine way (λ b=>?_) λ b=>?_
     ·rw[qk]at b;have b:t.kids=[]:=wk (by omega);rw[a,b];exact wau _
     ·rw[qh]at b
      have b:t.kids.isEmpty=false:=by
       cases v:t.kids with
       | nil=>rw[v]at b;exact absurd rfl b
       | cons _ _=>rfl
      rw[a,b,d];exact wav f (wax (by rw[e];rfl) (wau _))
    ·have p:=jS.1 e
     have a:isN t qcH=false:=by
      rw[<- kP,yO];rintro⟨_,h⟩;exact p h
     rw[a];refine wav f (way (λ c=>?_) λ c=>?_)
     ·rw[show isN t qc5=true from yO.2 ⟨g,yQ.1 c⟩];exact j
     ·have d:isN t qc5=false:=by
        rw[<- kP,yO];rintro⟨_,h⟩;exact jS.1 c h
      rw[d];exact wau _
   ·have f:ieq t.kind 3=false:=qh.2 g
    have l:∀ n,isN t n=false := λ n=>by
     rw[<- kP,yO];rintro⟨h,_⟩;exact g h
    rw[l,l];exact wax f (wax f (wau _))
end Go.AmZ
