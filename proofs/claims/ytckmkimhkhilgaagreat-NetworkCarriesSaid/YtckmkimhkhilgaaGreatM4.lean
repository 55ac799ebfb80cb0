/- Part 4 of what the proofs stand on: plain functions of the program, and that they are its functions. -/
import Derived.Test.YtckmkimhkhilgaaGreatM3
import Derived.KernelRfl
import Derived.Test.YtckmkimhkhilgaaGreatProg
import Derived.Laws.OwnMore
import Derived.Deep.DeepAppendRoom
import Derived.ArgAppend
import Derived.Test.YtckmkimhkhilgaaGreatM2
import Derived.IntWalk
import Derived.Lib.Bytealg
set_option linter.unusedVariables false
set_option linter.unusedSimpArgs false
noncomputable section
namespace Go.AmZ
open Go Go.RowKit Go.GxZ Go.Sort Go.Proofs Go.Shelf
structure qK0 (w0:World) (blk:Nat) (et:TypeId) (vs:Array Value) (W:World):Prop where
 hb:W.heap[blk]?=some (.cells vs et (0,0))
 os:W.os=w0.os
 tape:W.tape=w0.tape
 output:W.output=w0.output
 size:w0.heap.size<=W.heap.size
 other:∀ b,b<w0.heap.size->b≠blk->W.heap[b]?=w0.heap[b]?
 drawn:w0.drawn<=W.drawn
theorem qK0.refl{w:World}{a:Nat}{b:TypeId}{vs:Array Value}(h:w.heap[a]?=some (.cells vs b (0,0))):qK0 w a b vs w:=⟨h,rfl,rfl,rfl,wb _,λ _ _ _=>rfl,wb _⟩
theorem sort_blks{w:World}{blk:Nat}{et:TypeId}{vs:Array Value}(hb:w.heap[blk]?=some (.cells vs et (0,0))){α : Type}[Inhabited α](enc : α -> List Value)(k m:Nat)(dk:Array α)(os:Array Obj) :
  qK0 w blk et (putCells id 0 (flatK enc k dk) vs) (sortWorldK enc k w blk 0 m dk os):=by
 have hlt:blk<w.heap.size:=(Array.getElem?_eq_some_iff.1 hb).1;have hh:(sortWorldK enc k w blk 0 m dk os).heap=w.heap.modify blk (onCells (putCells id 0 (flatK enc k dk)))++os:=rfl;refine⟨?_,rfl,rfl,rfl,?_,λ b hb' hn=>?_,kF _ _⟩
 ·rw[hh,Array.getElem?_append_left (by simpa using hlt),Array.getElem?_modify,if_pos rfl,hb];rfl
 ·rw[hh,xC,Array.size_modify];exact kF _ _
 ·rw[hh,Array.getElem?_append_left (by simpa using hb'),Array.getElem?_modify,if_neg (xK hn)]
theorem qKm.grow{W w':World}(h:qKm W w'):∃ q a,w'=Sort.grow (W.drewN q) a:=by
 refine⟨w'.drawn-W.drawn,w'.heap.extract W.heap.size w'.heap.size,?_⟩
 have c:w'.heap=W.heap++w'.heap.extract W.heap.size w'.heap.size:=by
  apply Array.ext_getElem?;intro i;by_cases b:i<W.heap.size
  ·rw[Array.getElem?_append_left b];exact h.block i b
  ·rw[Array.getElem?_append_right (by omega),Array.getElem?_extract];split
   ·congr 1;omega
   ·rw[Array.getElem?_eq_none (by omega)]
 have d:W.drawn+(w'.drawn-W.drawn)=w'.drawn:=Nat.add_sub_cancel' h.drawn;obtain⟨g,f,e,_,_,_⟩:=h;cases w';cases W;simp only[Sort.grow,World.drewN]at *;rw[<- c,d,g,f,e]
def qcz(vs:Array Value)(k p:Nat):List Value:=(vs.toList.drop (p*k)).take k
theorem qqe{vs:Array Value}{k p j:Nat}(a:j<k):(qcz vs k p)[j]?=vs[p*k+j]?:=by
 unfold qcz;rw[List.getElem?_take,if_pos a,List.getElem?_drop,Array.getElem?_toList]
theorem qtE{vs:Array Value}{k p n:Nat}(a:p<n)(b:n*k<=vs.size):(qcz vs k p).length=k:=by
 unfold qcz;have:(p+1)*k<=n*k:=wn _ a;rw[kU]at this;rw[wm,wQ,wM];omega
theorem qA8{Γ : Gh}{τ : Ty}{c:List (List AV)}{l:List (Val τ)}{vs:Array Value}{n:Nat}(v:c.length=n)(B:∀ e∈c,e.length = τ.size)(w:zf (yj τ) c=some l)(C:yP Γ τ.size c (vs.toList.take (n * τ.size)))(A:n * τ.size<=vs.size)
  {p:Nat} {x:Val τ} (t:l[p]?=some x):RepL Γ (qi τ x) (qcz vs τ.size p)/\∀ u∈qcz vs τ.size p,u.oneCell'=true:=by
 have o:l.length=n:=(qX w).symm.trans v;have h:p<n:=by rw[<- o];exact getElem?_lt t
 have b:p<c.length:=by rw[v];exact h
 obtain⟨x',g,r⟩:=J8 w (List.getElem?_eq_getElem b);rw[t]at g;cases g;have f:=B _ (wW b);have a:=qtE (k := τ.size) h A
 have get:∀ j,j < τ.size->∃ u,(qcz vs τ.size p)[j]?=some u/\Rep Γ (c[p][j]?.getD .dead) u/\u.oneCell'=true:=by
  intro j d;have i:j<c[p].length:=by rw[f];exact d
  obtain⟨u,u1,u2,u3⟩:=C p c[p] j _ (List.getElem?_eq_getElem b) (List.getElem?_eq_getElem i);refine⟨u,?_,?_,u3⟩
  ·rw[qqe d,<- Array.getElem?_toList];rw[List.getElem?_take]at u1;split at u1
   ·exact u1
   ·cases u1
  ·rw[List.getElem?_eq_getElem i];exact u2
 constructor
 ·refine(qoV r).rep ⟨by rw[a,f],λ j y u s m=>?_⟩;have d:j < τ.size:=by rw[<- f];exact getElem?_lt s
  obtain⟨z,u1,u2,_⟩:=get j d;rw[m]at u1;cases u1;rw[s]at u2;exact u2
 ·intro u m;obtain⟨j,d⟩:=List.getElem?_of_mem m;have q:j < τ.size:=by rw[<- a];exact getElem?_lt d
  obtain⟨z,u1,_,u3⟩:=get j q;rw[d]at u1;cases u1;exact u3
theorem qpY(j k n:Nat)(h:j<n*k):j / k<n/\j / k*k+j % k=j/\j % k<k:=by
 have b:0<k:=by
  rcases vu k with a | a
  ·rw[a,Nat.mul_zero]at h;exact absurd h (wL _)
  ·exact a
 refine⟨(xY b).2 h,?_,xT _ b⟩;rw[xF];exact vt j k
set_option maxHeartbeats 1000000 in
theorem qJb {P:Program} {ρ : Ren} (L:SlLaysF0.n6 P ρ) {τ : Ty} {g:FuncId} (hag:∀ v,yN τ v = .agg (qi τ v)) (aE:∀ w,(isAgg (ρ.t 24)).run P w = .ok true w) (zE:∀ w,(Go.sizeOf (ρ.t 24)).run P w = .ok τ.size w)
  {F:Val τ -> Val τ -> Option Int} (hF:Fn2 P g τ (λ c:Int => .int .i64 c) F) (hf:qgO P (ρ.f 6)) {fn:List (Val τ)->Option (List (Val τ))} (hfn:∀ l r,fn l=some r->qsN F l=some r) (hk1' : τ.size≠1:=by first | assumption | decide) :
  qY P (ρ.f 6) (mgP ⟨τ,[.clo g 0],λ x=>fn x.1⟩):=by
 refine ⟨hf,λ Γ σ w args vals r hi hr hp=>?_⟩;unfold mgP at hp;split at hp
 case h_2=>cases hp
 rename_i x hx;split at hp
 case h_2=>cases hp
 rename_i v hv;split at hp
 case h_2=>cases hp
 rename_i hlen;obtain ⟨l,_⟩:=x;have hv:=hfn _ _ hv;have hlen:v.length=l.length:=wk hlen;obtain ⟨y0,ys0,nr,rfl,hy0,hx1⟩:=qvT hx;obtain ⟨ys1,rfl,hx2⟩:=qFV (g:=g) (r:=[]) hx1;obtain ⟨rfl,hbx,hrw⟩:=qmi hx2;clear hx hx1 hx2;obtain ⟨u0,r0,rfl,hu0,hr⟩:=hr.uncons;obtain ⟨u1,r1,rfl,hu1,hr⟩:=hr.uncons;have:=hr.nil_inv;subst this
 have hu1:u1 = .func (.func g) #[] #[]:=by
  cases hu1 with
  | fn _ _ us hn _=>obtain rfl:=wj hn;rfl
 subst hu1;have hb0 : σ.bx=[]:=wj hbx.symm;have none0:∀ (p:Option Addr) (cap:Nat),Calls P (ρ.f 6) #[.slice p 0 cap,.func (.func g) #[] #[]] w λ e w'=>e = .returned (.tuple #[])/\w'=w := λ p cap=>AnyF.slices_SortFunc_none L p cap _ w;have tup:∀ Γ,Rep Γ (.tup []) (.tuple #[]) := λ Γ => .tup [] [] rfl (λ i x u h=>by cases h);rcases qhj hy0 with ⟨hnr,R,rfl,hR,hRk,hRf,hRd⟩ | ⟨hnr,hl0,hy⟩
 ·have hrw1 : σ.rw=[R]:=by
    rw [hnr] at hrw
    match hq : σ.rw,hrw with
    | [Q],_=>rw [hq] at hR;cases hR;rfl
  rw [hb0,hrw1] at hp;cases hp;have H:=hi.row 0 R hR;have hcl:R.c.length=l.length:=qX hRd;have hlk:∀ e∈R.c,e.length = τ.size := λ e he=>(H.len e he).trans hRk
  have qpG:qW { σ with wr:=[],wrr:=[] } ⟨[],[⟨R.k,v.map (qi τ),R.ver,R.fz,R.off⟩],[],[0]⟩ :=
   ⟨by show σ.bx.length<=0;rw [hb0];exact wb _,by show σ.rw.length<=1;rw [hrw1];exact wb _,λ i hi _=>(by have hi:i < σ.bx.length:=hi;rw [hb0] at hi;exact absurd hi (wL _)),λ i hi hn=>(by
    have hi:i < σ.rw.length:=hi;rw [hrw1] at hi;have hi:i<1:=hi;obtain rfl:i=0:=by omega
    exact absurd (wG.2 rfl) hn),λ i h=>(by cases h),λ i h=>(by cases h)⟩
  obtain ⟨p,cap,rfl,hcap,hrm⟩:=qxR hi hR hRk hRf hu0;by_cases hl0:l=[]
  ·subst hl0;have hc0:R.c=[]:=wj hcl;have hv0:v=[]:=wj hlen;subst hv0;rw [hcl];refine (none0 p cap).mono ?_;rintro e w' ⟨rfl,rfl⟩;refine ⟨_,Γ,rfl,.refl _ _,?_,tup _,qpG⟩
   have:(⟨[],[⟨R.k,([]:List (Val τ)).map (qi τ),R.ver,R.fz,R.off⟩],[],[0]⟩:St)=⟨[],[R],[],[0]⟩:=by
    show (⟨[],[⟨R.k,[],R.ver,R.fz,R.off⟩],[],[0]⟩:St)=_;rw [<- hc0]
   show Inv Γ ⟨[],[⟨R.k,([]:List (Val τ)).map (qi τ),R.ver,R.fz,R.off⟩],[],[0]⟩ w';rw [this];exact hi.wr hb0.symm hrw1.symm
  ·have hlpos:0<l.length:=xg.2 hl0;rcases hrm with h0 | ⟨rfl,hz,vs,et,hvs,hvsz,hfit,hca,hxl,h1⟩
   ·omega
   obtain ⟨n,hn⟩:∃ n,n=l.length:=⟨_,rfl⟩
   have hnc:R.c.length=n:=hcl.trans hn.symm;rw [hnc] at hca hxl h1 hcap |-
   have hns:n * τ.size<=vs.size:=wD (wn _ hcap) hfit;have hsz0:0 < τ.size:=waF τ
   have hv':Nat.ble l.length 100000=true/\qde F l=true/\qtB l.length (ltOf (JB F l))=true/\v=pick l (qbm F l):=by
    cases l with
    | nil=>exact absurd rfl hl0
    | cons y l =>
      have hv:cond _ _ _=some v:=hv;cases hb:(Nat.ble (y::l).length 100000&&(qde F (y::l)&&qtB (y::l).length (ltOf (JB F (y::l))))) with
      | false=>unfold qsN at hv;rw [hb] at hv;cases hv
      | true =>
        have hb':=hb;simp only [wd] at hb';unfold qsN at hv;rw [hb] at hv;cases hv;exact ⟨hb'.1,hb'.2.1,hb'.2.2,rfl⟩
   obtain ⟨v1,v2,v3,v4⟩:=hv';have v1:l.length<=100000:=kN v1;have hO:SWO (ltOf (JB F l)):=qO6 hlpos (λ i j=>by unfold ltOf;rw [qMd]) v3;obtain ⟨hperm,_⟩:=qtq F l hO;have hixlt:∀ i∈qbm F l,i<l.length := λ i hi=>kS.1 (hperm.mem_iff.1 hi);have hixlen:(qbm F l).length=l.length:=by rw [hperm.length_eq,xm]
   have hER:∀ {q:Nat} {y:Val τ},l[q]? = some y->RepL Γ (qi τ y) (qcz vs τ.size q)/\∀ u∈qcz vs τ.size q,u.oneCell'=true := λ hq=>qA8 hnc hlk hRd hca hns hq;have hlast:∀ i,i % n<n := λ i=>xT _ (by omega);obtain ⟨enc,henc⟩:∃ enc:Nat->List Value,enc = λ i=>qcz vs τ.size (i % n):=⟨_,rfl⟩
   have hek:∀ i,(enc i).length = τ.size := λ i=>by rw [henc];exact qtE (hlast i) hns
   have hlget:∀ i,∃ y,l[i % n]? = some y := λ i=>⟨_,List.getElem?_eq_getElem (by rw [<- hn];exact hlast i)⟩
   have he1:∀ i,∀ u∈enc i,u.oneCell'=true := λ i u hu=>by
    rw [henc] at hu;obtain ⟨y,hy⟩:=hlget i;exact (hER hy).2 u hu
   have hrange:(Array.range n).size=n:=vD;have hvsb:w.heap[Γ.cur 0]? = some (.cells vs et (0,0)):=hvs;have hblk : Γ.cur 0<w.heap.size:=(Array.getElem?_eq_some_iff.1 hvsb).1;have hmem0:∀ off,Γ.mem (Γ.cur 0) off=none := λ off=>H.un hz off (by rw [hRf.1,kQ,H.off hRf.2];exact we _)
   have hH:HoldsK enc τ.size w (Γ.cur 0) 0 (Array.range n):=by
    intro j hj;rw [size_flatK,hrange] at hj;obtain ⟨q1,q2,q3⟩:=qpY j τ.size n hj;have hjs:j<vs.size:=wE hj hns;constructor
    ·rw [get_flatK _ _ _ _ (by rw [hrange];exact hj)];have e1:(Array.range n)[j / τ.size]! = j / τ.size:=by rw [getElem!_pos _ _ (by rw [hrange];exact q1)];simp
     rw [e1,henc];show _=some ((qcz vs τ.size (j / τ.size % n))[j % τ.size]!);rw [xr q1];have e2:(qcz vs τ.size (j / τ.size))[j % τ.size]? = some vs[j]:=by rw [qqe q3,q2];exact Array.getElem?_eq_getElem hjs
     rw [wI,Blk.cell hvs,List.getElem!_eq_getElem?_getD,e2,Array.getElem?_eq_getElem hjs];rfl
    ·exact Blk.free hvs _
   have hcmp:CmpLays P g #[] enc τ.size (JB F l) (Γ.cur 0) 0 (Array.range n).size w:=by
    intro m os dk hdk x y;have B:=sort_blks hvsb enc τ.size m dk os;obtain ⟨W,hW⟩:∃ W,W=sortWorldK enc τ.size w (Γ.cur 0) 0 m dk os:=⟨_,rfl⟩
    rw [<- hW] at B |-
    have hiW:Inv (bare Γ) emp W:=hi.bare λ b o u e=>by
     have hne:b ≠ Γ.cur 0 := λ hb=>by rw [hb,hmem0] at e;cases e
     have hc:=(hi.mem b o u e).1;have hblt:=hi.mem_lt e;rw [show W.cell? _=w.cell? _ from World.cell?_of_block (B.other b hblt hne)];exact hc
    have rep:∀ (i:Nat) (y:Val τ),l[i % n]? = some y->Rep (bare Γ) (yN τ y) (.agg (enc i).toArray) := λ i y hy=>by
     obtain ⟨q1,q2⟩:=hER hy;rw [hag];have:enc i=qcz vs τ.size (i % n):=by rw [henc]
     rw [this];refine .agg _ _ q1.len q2 λ j z u a b=>(q1.rep j z u a b).bare (zr τ y z (wa a))
    obtain ⟨lx,hx⟩:=hlget x;obtain ⟨ly,hy⟩:=hlget y;have hsome:=wu.1 (wu.1 v2 lx (wa hx)) ly (wa hy);obtain ⟨c,hc⟩:=wag.1 hsome
    have hcf:JB F l x y=c:=by
     unfold JB;rw [<- hn,hx,hy];simp only;rw [hc];rfl
    rw [hcf];have hcall:=hF.2 hiW (rep x lx hx) (rep y ly hy) hc;refine Calls.mono (by simpa using hcall) ?_;rintro e w' ⟨rfl,hid⟩;exact ⟨rfl,hid.grow⟩
   have hcall:=AnyQ.slices_SortFunc_eq L τ.size aE zE enc hek he1 (JB F l) hO g #[] (Γ.cur 0) 0 cap (Array.range n) w (λ args w=>qiT hF.1 args w) hcmp hH hblk (by rw [hrange];omega);rw [hrange] at hcall;refine Calls.mono hcall ?_;rintro e w' ⟨rfl,m,os,hw'⟩;have B:=sort_blks hvsb enc τ.size m (pdq (ltOf (JB F l)) (Array.range n) 0 n (Lib.bitLen n) true true) os;rw [<- hw'] at B;have hix:qbm F l=(pdq (ltOf (JB F l)) (Array.range n) 0 n (Lib.bitLen n) true true).toList:=by unfold qbm;rw [hn]
   obtain ⟨dk,hdk⟩:∃ dk,dk=pdq (ltOf (JB F l)) (Array.range n) 0 n (Lib.bitLen n) true true:=⟨_,rfl⟩
   rw [<- hdk] at B hix;have hdks:dk.size=n:=by rw [<- wM,<- hix,hixlen,hn]
   have hvlen:(v.map (qi τ)).length=n:=by rw [wB,hlen,hn]
   have hflat:(flatK enc τ.size dk).size=n * τ.size:=by rw [size_flatK,hdks]
   have hpsz:(putCells id 0 (flatK enc τ.size dk) vs).size=vs.size:=by unfold putCells;rw [vY]
   obtain ⟨Γ',x1,x2,_⟩:=qt1 hi hR (H.off hRf.2) (R':=⟨R.k,v.map (qi τ),R.ver,R.fz,R.off⟩) (by rw [hRf.1];exact we _) rfl (g := Γ.cur 0) (vs:=putCells id 0 (flatK enc τ.size dk) vs) (e:=et) (.inr ⟨rfl,rfl,hpsz.trans hvsz⟩)
    (λ e he=>by obtain ⟨y,_,rfl⟩:=ww.1 he;rw [jD,hRk]) (λ e he=>by obtain ⟨y,_,rfl⟩:=ww.1 he;exact zr τ y) (by show R.fz<=_;rw [hRf.1];exact we _) (qAZ _) (λ _=>rfl) B.hb
    (by show (v.map (qi τ)).length*R.k<=_;rw [hvlen,hRk,hpsz];exact hns)
    (λ off _=>hmem0 off)
    (λ i e j x he hx=>by
     have he:(v.map (qi τ))[i]? = some e:=he;have hin:i<n:=by rw [<- hvlen];exact getElem?_lt he
     rw [List.getElem?_map,v4,qtO hixlt] at he;have hixi:(qbm F l)[i]? = some dk[i]:=by rw [hix,Array.getElem?_toList];exact Array.getElem?_eq_getElem (by omega)
     rw [hixi] at he
     obtain ⟨y,hy,rfl⟩:∃ y,l[dk[i]]? = some y/\qi τ y=e:=by
      cases hq:l[dk[i]]? with
      | none=>simp [hq] at he
      | some y=>simp [hq] at he;exact ⟨y,rfl,he⟩
     have hdl:dk[i]<n:=wE (getElem?_lt hy) (vM hn.symm);obtain ⟨q1,q2⟩:=hER hy;have hj:j < τ.size:=by rw [<- jD τ y];exact getElem?_lt hx
     obtain ⟨u,hu,hrep⟩:=q1.get hx;refine ⟨u,?_,hrep,q2 u (wa hu)⟩;rw [hRk]
     have hlt:i * τ.size+j<n * τ.size:=by
      have:(i+1) * τ.size<=n * τ.size:=wn _ hin;rw [kU] at this;omega
     unfold putCells;rw [Array.getElem?_mapIdx,Array.getElem?_eq_getElem (wE hlt hns),kM,if_pos ⟨we _,by rw [hflat,wI];exact hlt⟩,Nat.sub_zero,id,get_flatK _ _ _ _ (by rw [hdks];exact hlt)];have e1:(i * τ.size+j) / τ.size=i:=by rw [xF,Nat.mul_add_div hsz0,Nat.div_eq_of_lt hj,wP]
     have e2:(i * τ.size+j) % τ.size=j:=by rw [xF,Nat.mul_add_mod,xr hj]
     rw [e1,e2,getElem!_pos dk i (by omega),henc];show some ((qcz vs τ.size (dk[i] % n))[j]!)=_;rw [xr hdl,List.getElem!_eq_getElem?_getD,hu];rfl)
    (λ b o u hm=>by
     have hne:b ≠ Γ.cur 0 := λ hb=>by rw [hb,hmem0] at hm;cases hm
     rw [show w'.cell? _=w.cell? _ from World.cell?_of_block (B.other b (hi.mem_lt hm) hne)];exact (hi.mem b o u hm).1)
    (λ b hb hor=>B.other b hb (hor.elim id λ h0=>absurd h0 hz)) (.inl ⟨rfl,hz⟩) B.os B.tape B.output B.size B.drawn [0]
   refine ⟨_,Γ',rfl,x1,?_,tup _,qpG⟩;refine x2.wr ?_ ?_
   ·exact hb0.symm
   ·show [(⟨R.k,v.map (qi τ),R.ver,R.fz,R.off⟩:Row)] = σ.rw.set 0 _;rw [hrw1];rfl
 ·have hrw0 : σ.rw=[]:=by rw [hnr] at hrw;exact wj hrw.symm
  rw [hb0,hrw0] at hp;cases hp
  have hfin:∀ (p:Option Addr) (cap:Nat),Js P Γ σ w (ρ.f 6) [.slice p 0 cap,.func (.func g) #[] #[]] (.tup [],none) := λ p cap=>by
   refine (none0 p cap).mono ?_;rintro e w' ⟨rfl,rfl⟩;exact ⟨_,Γ,rfl,.refl _ _,hi,tup _,.refl _⟩
  rcases hy with rfl | ⟨f,rfl,hf2⟩
  ·have hu0:=zm hu0;subst hu0;exact hfin none 0
  ·cases hu0 with
   | sl _ _ _ a n cap b o us hn _ _ _ _ _ _ _ _ =>
     have hn:n=0:=hn;subst hn;exact hfin a cap
end Go.AmZ
namespace Go.Proofs.YtckmkimhkhilgaaGreat
open Go Go.RowKit Go.GxZ Go.Sort Go.Proofs Go.Shelf Go.Lib
def zG(a:Nat->Nat->Bool)(n:Nat):List Nat:=(List.range n).filter λ i=>decide (i=0) || !a i (i-1)
theorem qD6{a:Nat->Nat->Bool}{n:Nat}(h:a n (n-1)=false):zG a (n+1)=zG a n++[n]:=by
 unfold zG;rw[wal,xU];simp[h]
theorem qtu{a:Nat->Nat->Bool}{n:Nat}(b:0<n)(h:a n (n-1)=true):zG a (n+1)=zG a n:=by
 unfold zG;rw[wal,xU];have:¬ n=0:=by omega
 simp[h,this]
theorem qwH{b:Nat->Nat->Bool}{n:Nat}(h:∀ i,1<=i->i<n->b i (i-1)=false):zG b n=List.range n:=by
 unfold zG;rw[List.filter_eq_self];intro i a;have a:=kS.1 a;by_cases c:i=0
 ·simp[c]
 ·rw[h i (by omega) a];simp
theorem qEg{α : Type}[Inhabited α](enc : α -> List Value)(k:Nat)(g:∀ x,(enc x).length=k)(d:Array α)(i:Nat)(x : α)(h:i<d.size):setMany (flatK enc k d) (i*k) (enc x)=flatK enc k (d.setIfInBounds i x):=by
 refine ext_get! (by simp) λ t a=>?_;rw[size_setMany,size_flatK]at a;rw[get_setMany _ _ _ _ (by rw[size_flatK];exact a),g,get_flatK _ _ _ _ a,get_flatK _ _ _ _ (by simpa using a)]
 have b:0<k:=by
  rcases vu k with f | f
  ·rw[f,Nat.mul_zero]at a;exact absurd a (wL _)
  ·exact f
 by_cases c:i*k<=t/\t<i*k+k
 ·rw[if_pos c];have e:=(blk_iff k i t b).1 c;rw[e,getElem!_set_same d i x h];congr 1;have:=vt t k;rw[e]at this;have l:k*i=i*k:=xF _ _;omega
 ·rw[if_neg c,getElem!_set_other d i _ x λ j=>c ((blk_iff k i t b).2 j)]
theorem qJO{α : Type}[Inhabited α]{w:World}{enc : α -> List Value}{k blk:Nat}(hk:∀ x,(enc x).length=k)(m:Nat)(dk:Array α)(os:Array Obj)(hblk:blk<w.heap.size)(i:Nat)(x : α)(hi:i<dk.size) :
  (sortWorldK enc k w blk 0 m dk os).setCells blk (i*k) (enc x)=sortWorldK enc k w blk 0 m (dk.setIfInBounds i x) os:=by
 have hb:i*k+(enc x).length<=(flatK enc k dk).size:=by
  rw[hk,size_flatK];have:=wn k (show i+1<=dk.size from hi)
  rwa [kU]at this
 unfold sortWorldK;rw[setCells_grow os blk _ _ _ (by rw[size_putRowK];exact hblk)];congr 1;unfold putRowK;have:=setCells_putRow (Sort.ahead w m) blk 0 (enc x) (i*k) (flatK enc k dk) hb;rw[wI]at this;rw[this,qEg enc k hk dk i x hi]
variable {P:Program}
set_option maxHeartbeats 4000000 in
set_option maxRecDepth 1000000 in
theorem qIh(i:P.funcs[108]?=some Tryz.f108)(a:P.follows .mixedOrders=true)
  (t0:P.underlying 0=some (TypeDesc.tuple #[])) (y:∀ w,(isAgg 0).run P w = .ok false w) (o:∀ w,(Go.sizeOf 0).run P w = .ok 1 w) (s:∀ w,(zeroValue 0).run P w = .ok (Value.tuple #[]) w)
  (u:P.underlying 3=some (TypeDesc.int IntKind.i64)) (x:∀ w,(isAgg 3).run P w = .ok false w) (n:∀ w,(Go.sizeOf 3).run P w = .ok 1 w) (r:∀ w,(zeroValue 3).run P w = .ok (Value.int IntKind.i64 0) w)
  (t:P.underlying 4=some (TypeDesc.bool)) (v:∀ w,(isAgg 4).run P w = .ok false w) (m:∀ w,(Go.sizeOf 4).run P w = .ok 1 w) (q:∀ w,(zeroValue 4).run P w = .ok (Value.bool false) w)
  (h:P.underlying 22=some (TypeDesc.slice 24)) (l:∀ w,(isAgg 22).run P w = .ok false w) (c:∀ w,(Go.sizeOf 22).run P w = .ok 1 w) (f:∀ w,(zeroValue 22).run P w = .ok (Value.slice none 0 0) w)
  (g:P.underlying 41=some (TypeDesc.func #[24,24] #[4] false)) (k:∀ w,(isAgg 41).run P w = .ok false w) (b:∀ w,(Go.sizeOf 41).run P w = .ok 1 w) (d:∀ w,(zeroValue 41).run P w = .ok (Value.nilFunc) w)
  (p:Option Addr) (cap:Nat) (j:Value) (w:World) :
  Calls P 108 #[.slice p 0 cap,j] w λ e w'=>e = .returned (.slice p 0 cap)/\w'=w:=by
 go_enter i,Tryz.ntmps108
 go_wp2
 go_ret
 exact⟨rfl,rfl⟩
set_option maxHeartbeats 4000000 in
set_option maxRecDepth 1000000 in
theorem qJh (hF:P.funcs[108]? = some Tryz.f108) (mixed:P.follows .mixedOrders=true)
  (t0:P.underlying 0=some (TypeDesc.tuple #[])) (a0:∀ w,(isAgg 0).run P w = .ok false w) (z0:∀ w,(Go.sizeOf 0).run P w = .ok 1 w) (v0:∀ w,(zeroValue 0).run P w = .ok (Value.tuple #[]) w)
  (t3:P.underlying 3=some (TypeDesc.int IntKind.i64)) (a3:∀ w,(isAgg 3).run P w = .ok false w) (z3:∀ w,(Go.sizeOf 3).run P w = .ok 1 w) (v3:∀ w,(zeroValue 3).run P w = .ok (Value.int IntKind.i64 0) w)
  (t4:P.underlying 4=some (TypeDesc.bool)) (a4:∀ w,(isAgg 4).run P w = .ok false w) (z4:∀ w,(Go.sizeOf 4).run P w = .ok 1 w) (v4:∀ w,(zeroValue 4).run P w = .ok (Value.bool false) w)
  (t22:P.underlying 22=some (TypeDesc.slice 24)) (a22:∀ w,(isAgg 22).run P w = .ok false w) (z22:∀ w,(Go.sizeOf 22).run P w = .ok 1 w) (v22:∀ w,(zeroValue 22).run P w = .ok (Value.slice none 0 0) w)
  (t36:P.underlying 41=some (TypeDesc.func #[24,24] #[4] false)) (a36:∀ w,(isAgg 41).run P w = .ok false w) (z36:∀ w,(Go.sizeOf 41).run P w = .ok 1 w) (v36:∀ w,(zeroValue 41).run P w = .ok (Value.nilFunc) w)
  (k:Nat) (hk0:0<k) (aE:∀ w,(isAgg 24).run P w = .ok true w) (zE:∀ w,(Go.sizeOf 24).run P w = .ok k w) (zv:Value) (vE:∀ w,(zeroValue 24).run P w = .ok zv w) (hzk:zv.cells.size=k) (hz1:∀ n,∀ v∈(Builtin.zeroCells zv.cells n).toList,v.oneCell'=true)
  (w:World) (blk n cap:Nat) (et:TypeId) (vs:Array Value) (q:Nat) (hbk:w.heap[blk]? = some (.cells vs et (0,0))) (hcs:cap*k<=vs.size) (hnc:n<=cap) (hn:n<=100000) (h0n:0<n)
  (enc:Nat->List Value) (hk:∀ x,(enc x).length=k) (h1:∀ x,∀ v∈enc x,v.oneCell'=true) (hH:HoldsK enc k w blk 0 (Array.range n))
  (eg:∀ args w,(callFunc q args).run P w = .ok (.enter q args) w) (ef:Nat->Nat->Bool)
  (heq:∀ (m:Nat) (os:Array Obj) (dk:Array Nat),dk.size=n->∀ x y,Calls P q #[.agg (enc x).toArray,.agg (enc y).toArray] (sortWorldK enc k w blk 0 m dk os) λ e w'=>e = .returned (.bool (ef x y))/\∃ q' os',w'=grow ((sortWorldK enc k w blk 0 m dk os).drewN q') os') :
  Calls P 108 #[.slice (some ⟨blk,0,none⟩) n cap,.func (.func q) #[] #[]] w λ e w'=>e = .returned (.slice (some ⟨blk,0,none⟩) (zG ef n).length cap) /\
   ∃ (dk:Array Nat) (m:Nat) (os:Array Obj) (new:List Value),dk.size=n/\dk.toList.take (zG ef n).length=zG ef n/\(w'=sortWorldK enc k w blk 0 m dk os\/(new.take ((zG ef n).length*k)=(putCells id 0 (flatK enc k dk) vs).toList.take ((zG ef n).length*k)/\new.length=vs.size/\w'=(sortWorldK enc k w blk 0 m dk os).setRow blk new.toArray)):=by
 have u22:=run_underlying t22;have hblk:blk<w.heap.size:=(Array.getElem?_eq_some_iff.1 hbk).1;have hrs:(Array.range n).size=n:=vD;have HC:Aside _:=heq;have HST:Hid (w=sortWorldK enc k w blk 0 0 (Array.range n) #[]):=by show w=_;unfold sortWorldK;rw [grow_empty];exact (putRowK_self enc k w blk 0 _ hH).symm
 have HH:Hid (HoldsK enc k w blk 0 (Array.range n)):=hH;have HK:Hid (∀ x,(enc x).length=k):=hk;have H1:Hid (∀ x,∀ v∈enc x,v.oneCell'=true):=h1;have HBK:Hid (w.heap[blk]? = some (.cells vs et (0,0))):=hbk;have HVE:Aside _:=vE;have HZ1:Aside _:=hz1;have HZK:=Lib.hid hzk;have HCS:=Lib.hid hcs;clear heq hH hk h1 hbk vE hz1 hzk hcs;have hnz:(n:Int)<=100000:=by omega
 by_cases hn2:n<2
 ·have hn1:n=1:=by omega
  subst hn1;have hci:zG ef 1=[0]:=by unfold zG;simp
  have HCI:=Lib.hid hci;clear hci
  go_enter hF,Tryz.ntmps108
  go_wp2
  go_ret
  rw [HCI.out];exact ⟨rfl,Array.range 1,0,#[],[],hrs,by simp,.inl HST.out⟩
 ·have hn2z:¬ ((n:Int)<2):=by omega
  go_enter hF,Tryz.ntmps108
  go_wp2
  go_loopg [5] n (λ g1 vi wr=>∃ (i m:Nat) (os:Array Obj),vi = .int .i64 i/\1<=i/\i<=n/\n-i<=g1/\wr=sortWorldK enc k w blk 0 m (Array.range n) os/\Hid (∀ j,1<=j->j<i->ef j (j-1)=false))
  case atStart=>exact ⟨1,0,#[],rfl,wb _,by omega,by omega,HST.out,λ j h1 h2=>by omega⟩
  case round =>
   obtain ⟨i,m,os,rfl,hi1,hin,hg1,rfl,HE⟩:=hrel;by_cases hlt:i<n
   ·have hltz:(i:Int)<(n:Int):=by omega
    obtain ⟨ip,rfl⟩:∃ ip,i=ip+1:=⟨i-1,by omega⟩
    have hwp:IntKind.i64.wrap (ip:Int)=(ip:Int):=by rw [IntKind.wrap_i64];omega
    have jz1:(ip:Int)<(n:Int):=by omega
    have p0:(0:Int)<=(ip:Int)+1:=by omega
    have e0:((ip:Int)+1).toNat=ip+1:=by omega
    have r1:(Array.range n)[ip+1]! = ip+1:=by rw [getElem!_pos _ _ (by rw [hrs];exact hlt)];simp
    have r0:(Array.range n)[ip]! = ip:=by rw [getElem!_pos _ _ (by rw [hrs];omega)];simp
    have hcls:∀ n' os',grow ((sortWorldK enc k w blk 0 m (Array.range n) os).drewN n') os'=sortWorldK enc k w blk 0 (m+n') (Array.range n) (os++os') := λ n' os'=>sortWorldK_grown_c enc k w blk 0 m n' _ os os';have hHc:∀ n' os',HoldsK enc k (grow ((sortWorldK enc k w blk 0 m (Array.range n) os).drewN n') os') blk 0 (Array.range n) := λ n' os'=>by rw [hcls];exact holdsK_sortWorldK_c enc k w blk 0 _ _ _ _ HH.out hblk rfl
    have lj:∀ n' os',Sem.run P (loadCellsFrom ⟨blk,(ip+1)*k,none⟩ 0 k #[]) (grow ((sortWorldK enc k w blk 0 m (Array.range n) os).drewN n') os') = .ok (enc (ip+1)).toArray (grow ((sortWorldK enc k w blk 0 m (Array.range n) os).drewN n') os') := λ n' os'=>by
     have:=HoldsK.cells (hHc n' os') HK.out (i:=ip+1) (by rw [hrs];exact hlt);rw [r1,wI] at this;exact run_loadCellsFrom_list P _ _ _ k (HK.out _) this
    have lp:∀ n' os',Sem.run P (loadCellsFrom ⟨blk,ip*k,none⟩ 0 k #[]) (grow ((sortWorldK enc k w blk 0 m (Array.range n) os).drewN n') os') = .ok (enc ip).toArray (grow ((sortWorldK enc k w blk 0 m (Array.range n) os).drewN n') os') := λ n' os'=>by
     have:=HoldsK.cells (hHc n' os') HK.out (i:=ip) (by rw [hrs];omega);rw [r0,wI] at this;exact run_loadCellsFrom_list P _ _ _ k (HK.out _) this
    have hcg:∀ n' os',Calls P q #[.agg (enc (ip+1)).toArray,.agg (enc ip).toArray] (grow ((sortWorldK enc k w blk 0 m (Array.range n) os).drewN n') os') λ e w'=>e = .returned (.bool (ef (ip+1) ip))/\∃ q os'',w'=grow ((grow ((sortWorldK enc k w blk 0 m (Array.range n) os).drewN n') os').drewN q) os'' := λ n' os'=>by
     rw [hcls];exact HC.out _ _ _ hrs (ip+1) ip
    have CLS:Hid _:=hcls;clear hcls hHc r0 r1;generalize hwq:sortWorldK enc k w blk 0 m (Array.range n) os=wq at lj lp hcg CLS |-
    cases hev:ef (ip+1) ip with
    | false =>
      rw [hev] at hcg
      go_wp2_with fail
      go_quiet_grown (first | (go_at_fn q;refine Calls.grown_of (hcg _ _)))
      go_wp2
      go_roundg (n-(ip+2))
      case measure=>omega
      case rel =>
       refine ⟨ip+2,_,_,by go_num,by omega,by omega,by omega,CLS.out nq osq,(show Hid _ from λ j h1 h2=>?_)⟩;by_cases hj:j=ip+1
       ·rw [hj];exact hev
       ·exact HE.out j h1 (by omega)
    | true =>
      rw [hev] at hcg
      go_wp2_with fail
      go_quiet_grown (first | (go_at_fn q;refine Calls.grown_of (hcg _ _)))
      have hcap1:¬ (cap=ip+1):=by omega
      have hcap2:(ip:Int)+1<=(cap:Int):=by omega
      go_wp2
      go_loopg [5,7] n (λ g2 v5 v7 wr2=>∃ (b kk m2:Nat) (dk:Array Nat) (os2:Array Obj),v5 = .int .i64 kk/\v7 = .int .i64 b/\1<=b/\ip+1+b<=n/\n-b<=g2/\kk<=ip+b/\dk.size=n/\wr2=sortWorldK enc k w blk 0 m2 dk os2/\Hid (dk.toList.take kk=zG ef (ip+1+b))/\Hid (kk=(zG ef (ip+1+b)).length)/\Hid (∀ j,ip+b<=j->j<n->dk[j]! = j))
      case atStart =>
       have e1:zG ef (ip+1)=List.range (ip+1):=qwH λ j h1 h2=>HE.out j h1 h2;have e2:zG ef (ip+1+1)=List.range (ip+1):=by rw [qtu (by omega) (by simpa using hev),e1]
       refine ⟨1,ip+1,_,Array.range n,_,by go_num,rfl,wb _,by omega,by omega,by omega,hrs,CLS.out nq osq,?_,?_,?_⟩
       ·show _=_;rw [e2,Array.toList_range,List.take_range,kL (by omega)]
       ·show _=_;rw [e2,xm]
       ·intro j _ h2;rw [getElem!_pos _ _ (by rw [hrs];exact h2)];simp
      case round =>
       obtain ⟨b,kk,m2,dk,os2,rfl,rfl,hb1,hbn,hg2,hkk,hdk,rfl,HT,HL,HD⟩:=hrel;by_cases hlt2:ip+1+b<n
       ·obtain ⟨bp,rfl⟩:∃ bp,b=bp+1:=⟨b-1,by omega⟩
        have hltz2:(bp:Int)+1<((n-(ip+1):Nat):Int):=by omega
        have hltz3:(bp:Int)<((n-(ip+1):Nat):Int):=by omega
        have hwp2:IntKind.i64.wrap (bp:Int)=(bp:Int):=by rw [IntKind.wrap_i64];omega
        have p2:(0:Int)<=(bp:Int)+1:=by omega
        have e2:((bp:Int)+1).toNat=bp+1:=by omega
        have hkn:(kk:Int)<(n:Int):=by omega
        obtain ⟨ax,hax⟩:∃ ax,ax=ip+1+(bp+1):=⟨_,rfl⟩
        have hac:(ip+1)*k+(bp+1)*k=ax*k:=by rw [hax,wN (ip+1)]
        have hap:(ip+1)*k+bp*k=(ax-1)*k:=by rw [<- wN];congr 1;omega
        have r1:dk[ax]! = ax:=HD.out ax (by omega) (by omega);have r0:dk[ax-1]! = ax-1:=HD.out (ax-1) (by omega) (by omega);have hcls:∀ n' os',grow ((sortWorldK enc k w blk 0 m2 dk os2).drewN n') os'=sortWorldK enc k w blk 0 (m2+n') dk (os2++os') := λ n' os'=>sortWorldK_grown_c enc k w blk 0 m2 n' dk os2 os';have hHc:∀ n' os',HoldsK enc k (grow ((sortWorldK enc k w blk 0 m2 dk os2).drewN n') os') blk 0 dk := λ n' os'=>by rw [hcls];exact holdsK_sortWorldK_c enc k w blk 0 (Array.range n) dk _ _ HH.out hblk (by rw [hdk,hrs])
        have lj:∀ n' os',Sem.run P (loadCellsFrom ⟨blk,(ip+1)*k+(bp+1)*k,none⟩ 0 k #[]) (grow ((sortWorldK enc k w blk 0 m2 dk os2).drewN n') os') = .ok (enc ax).toArray (grow ((sortWorldK enc k w blk 0 m2 dk os2).drewN n') os') := λ n' os'=>by
         have:=HoldsK.cells (hHc n' os') HK.out (i:=ax) (by rw [hdk];omega);rw [r1,wI,<- hac] at this;exact run_loadCellsFrom_list P _ _ _ k (HK.out _) this
        have lp:∀ n' os',Sem.run P (loadCellsFrom ⟨blk,(ip+1)*k+bp*k,none⟩ 0 k #[]) (grow ((sortWorldK enc k w blk 0 m2 dk os2).drewN n') os') = .ok (enc (ax-1)).toArray (grow ((sortWorldK enc k w blk 0 m2 dk os2).drewN n') os') := λ n' os'=>by
         have:=HoldsK.cells (hHc n' os') HK.out (i:=ax-1) (by rw [hdk];omega);rw [r0,wI,<- hap] at this;exact run_loadCellsFrom_list P _ _ _ k (HK.out _) this
        have hcg:∀ n' os',Calls P q #[.agg (enc ax).toArray,.agg (enc (ax-1)).toArray] (grow ((sortWorldK enc k w blk 0 m2 dk os2).drewN n') os') λ e w'=>e = .returned (.bool (ef ax (ax-1)))/\∃ q os'',w'=grow ((grow ((sortWorldK enc k w blk 0 m2 dk os2).drewN n') os').drewN q) os'' := λ n' os'=>by
         rw [hcls];exact HC.out _ _ _ hdk ax (ax-1)
        have CLS2:Hid _:=hcls;have HHC:Hid _:=hHc;have HAC:=Lib.hid hac;clear hcls hHc hap hac;generalize hwq2:sortWorldK enc k w blk 0 m2 dk os2=wq2 at lj lp hcg CLS2 HHC |-
        have hlA:(enc ax).length=k:=HK.out _;have hA1:∀ v∈enc ax,v.oneCell'=true:=H1.out _;obtain ⟨cA,hcA⟩:∃ c,c=enc ax:=⟨_,rfl⟩
        obtain ⟨cP,hcP⟩:∃ c,c=enc (ax-1):=⟨_,rfl⟩
        rw [<- hcA] at lj hcg hlA hA1;rw [<- hcP] at lp hcg;have HCA:=Lib.hid hcA;clear hcA hcP;have hT:=HT.out;have hL:=HL.out;rw [show ip+1+(bp+1)=ax from hax.symm] at hT hL;have HAX:=Lib.hid hax;have hax1:0<ax:=by omega
        have hax3:ax<n:=by omega
        clear hax r0 r1;cases hev2:ef ax (ax-1) with
        | true =>
          have hcd:zG ef (ax+1)=zG ef ax:=qtu hax1 hev2;have HT2:Hid (dk.toList.take kk=zG ef (ax+1)):=by show _=_;rw [hcd];exact hT
          have HL2:Hid (kk=(zG ef (ax+1)).length):=by show _=_;rw [hcd];exact hL
          clear hT hL hcd;rw [hev2] at hcg
          go_wp2_with fail
          go_quiet_grown (first | (go_at_fn q;refine Calls.grown_of (hcg _ _)))
          go_wp2
          go_roundg (n-(bp+2))
          case measure=>omega
          case rel =>
           have hax2:ip+1+(bp+2)=ax+1:=by have:=HAX.out;omega
           refine ⟨bp+2,kk,_,dk,_,rfl,by go_num,by omega,by omega,by omega,by omega,hdk,CLS2.out nq osq,?_,?_,(show Hid _ from λ j h1 h2=>HD.out j (by omega) h2)⟩
           ·show _=_;rw [hax2];exact HT2.out
           ·show _=_;rw [hax2];exact HL2.out
        | false =>
          have hcd:zG ef (ax+1)=zG ef ax++[ax]:=qD6 hev2;have hdl:kk<dk.toList.length:=by rw [wM,hdk];omega
          have HT2:Hid ((dk.setIfInBounds kk ax).toList.take (kk+1)=zG ef (ax+1)):=by
           show _=_;rw [hcd,<- hT,xq,kw,vn (wb _),List.getElem?_set_self hdl];rfl
          have HL2:Hid (kk+1=(zG ef (ax+1)).length):=by show _=_;rw [hcd,wc,<- hL];rfl
          clear hT hL hcd;rw [hev2] at hcg
          go_wp2_with fail
          go_quiet_grown (first | (go_at_fn q;refine Calls.grown_of (hcg _ _)))
          have hw2:grow (wq2.drewN nq) osq=sortWorldK enc k w blk 0 (m2+nq) dk (os2++osq):=CLS2.out nq osq;have lj2:=lj nq osq;have hHd:=HHC.out nq osq;clear lj lp hcg;generalize grow (wq2.drewN nq) osq=wq3 at hw2 hHd lj2 |-
          have hbd:kk*k+cA.length<=(flatK enc k dk).size:=by
           rw [hlA,size_flatK];have:=wn k (show kk+1<=dk.size by omega)
           rwa [kU] at this
          have s1:Sem.run P (storeCells ⟨blk,kk*k,none⟩ cA 0) wq3 = .ok () (wq3.setCells blk (kk*k) cA):=by
           have:=stores_of_holds P hHd (kk*k) cA hbd hA1
           rwa [wI] at this
          have HW3:Hid (wq3.setCells blk (kk*k) cA=sortWorldK enc k w blk 0 (m2+nq) (dk.setIfInBounds kk ax) (os2++osq)):=by
           show _=_;rw [hw2,HCA.out];exact qJO HK.out (m2+nq) dk (os2++osq) hblk kk ax (by omega)
          clear hw2 hHd hbd
          go_wp2
          go_roundg (n-(bp+2))
          case measure=>omega
          case rel =>
           have hax2:ip+1+(bp+2)=ax+1:=by have:=HAX.out;omega
           refine ⟨bp+2,kk+1,_,dk.setIfInBounds kk ax,_,by go_num,by go_num,by omega,by omega,by omega,by omega,by simpa using hdk,HW3.out,?_,?_,(show Hid _ from λ j h1 h2=>?_)⟩
           ·show _=_;rw [hax2];exact HT2.out
           ·show _=_;rw [hax2];exact HL2.out
           ·rw [getElem!_set_other _ _ _ _ (by omega)];exact HD.out j (by omega) h2
       ·obtain rfl:n=ip+1+b:=by omega
        have hW:=(Go.AmZ.sort_blks HBK.out enc k m2 dk os2).hb;have hpsz:(putCells id 0 (flatK enc k dk) vs).size=vs.size:=by unfold putCells;rw [vY]
        have hzl:(Builtin.zeroCells zv.cells (ip+1+b-kk)).toList.length=(ip+1+b-kk)*k:=by rw [wM,size_zeroCells,HZK.out]
        have hsum:kk*k+(ip+1+b-kk)*k=(ip+1+b)*k:=by rw [<- wN];congr 1;omega
        have hle:(ip+1+b)*k<=vs.size:=wD (wn _ hnc) HCS.out;obtain ⟨new,hnew⟩:∃ new,new=(putCells id 0 (flatK enc k dk) vs).toList.take (kk*k)++(Builtin.zeroCells zv.cells (ip+1+b-kk)).toList++(putCells id 0 (flatK enc k dk) vs).toList.drop (kk*k+(Builtin.zeroCells zv.cells (ip+1+b-kk)).toList.length):=⟨_,rfl⟩
        have hcl:∀ ty,(Builtin.clear_ #[22] ty #[.slice (some ⟨blk,kk*k,none⟩) (ip+1+b-kk) (cap-kk)]).run P (sortWorldK enc k w blk 0 m2 dk os2) = .ok (.tuple #[]) ((sortWorldK enc k w blk 0 m2 dk os2).setRow blk new.toArray) := λ ty=>by
         rw [hnew];exact qwt _ 22 24 ty zv t22 HVE.out blk (kk*k) (ip+1+b-kk) (cap-kk) (by omega) _ et hW (by rw [hpsz,HZK.out];omega) (HZ1.out _)
        have HN1:Hid (new.take (kk*k)=(putCells id 0 (flatK enc k dk) vs).toList.take (kk*k)):=by
         show _=_;rw [hnew,wi,kG (by rw [wm,wM,hpsz];omega),xL,Nat.min_self]
        have HN2:Hid (new.length=vs.size):=by
         show _=_;rw [hnew];rw [wM] at hzl;simp only [wc,wm,wQ,wM,hpsz,hzl];omega
        have hkc:¬ (cap=kk):=by omega
        have hkc2:(kk:Int)<=(cap:Int):=by omega
        have hkn:(kk:Int)<=((ip+1+b:Nat):Int):=by omega
        clear hW hpsz hzl hsum hle hnew;have HW:Hid _:=(⟨dk,m2,os2,rfl⟩:∃ (d:Array Nat) (m:Nat) (os:Array Obj),sortWorldK enc k w blk 0 m2 dk os2=sortWorldK enc k w blk 0 m d os)
        generalize hwq2:sortWorldK enc k w blk 0 m2 dk os2=wq2 at hcl |-
        have HWQ:=Lib.hid hwq2;clear hwq2 HW;have HDK:=Lib.hid hdk
        go_wp2_with (simp only [hcl])
        go_ret
        have hL:=HL.out;rw [<- hL];exact ⟨rfl,dk,m2,os2,new,HDK.out,HT.out,.inr ⟨HN1.out,HN2.out,by rw [HWQ.out]⟩⟩
   ·obtain rfl:i=n:=by omega
    have hci:zG ef i=List.range i:=qwH λ j h1 h2=>HE.out j h1 h2;have HCI:=Lib.hid hci;clear hci
    go_wp2
    go_ret
    rw [HCI.out,xm];exact ⟨rfl,Array.range i,_,_,[],hrs,by simp,.inl rfl⟩
end Go.Proofs.YtckmkimhkhilgaaGreat
namespace Go.AmZ
open Go Go.RowKit Go.GxZ Go.Sort Go.Proofs Go.Shelf Go.Proofs.YtckmkimhkhilgaaGreat
def qlr{α : Type}(F : α -> α -> Option Bool)(l:List α)(i j:Nat):Bool:=match l[i % l.length]?,l[j % l.length]? with
 | some x,some y=>(F x y).getD false
 | _,_=>false
def qAR{α : Type}(F : α -> α -> Option Bool):List α -> Option (List α)
 | []=>some []
 | x::l=>cond (Nat.ble (x::l).length 100000&&qde F (x::l)) (some (pick (x::l) (zG (qlr F (x::l)) (x::l).length))) none
def qvO{α : Type}(F : α -> α -> Option Bool)(l:List α):Option (Unit × List α × Unit):=match qAR F l with
 | some a=>some ((),a,())
 | none=>none
theorem qGP{α : Type}{F : α -> α -> Option Bool}{l:List α}{r:Unit × List α × Unit}(h:qvO F l=some r):∃ a,qAR F l=some a/\r=((),a,()):=by
 unfold qvO at h;split at h
 ·cases h;exact⟨_,‹_›,rfl⟩
 ·cases h
theorem qH6{P:Program}{f:FuncId}{g:qqV}(e:qgO P f)(h:∀ a,g.fn a=none):qY P f (mgP g):=by
 refine⟨e,λ Γ σ w d c r j i b=>?_⟩;unfold mgP at b;split at b
 ·rw[h]at b;cases b
 ·cases b
theorem qzI{b:Nat->Nat->Bool}{n:Nat}:∀ i∈zG b n,i<n := λ i a=>kS.1 (kK.1 a).1
theorem qsf{enc:Nat->List Value}{k:Nat}(a:∀ x,(enc x).length=k):∀(l:List Nat) (i j:Nat),j<k->(l.flatMap enc)[i*k+j]?=(l[i]?).bind λ x=>(enc x)[j]?
 | [],i,j,_=>by simp
 | x::l,0,j,b=>by
   rw[xc,kQ,wI,List.getElem?_append_left (by rw[a];exact b)];rfl
 | x::l,i+1,j,b=>by
   rw[xc,List.getElem?_append_right (by rw[a,kU];omega),a];have:(i+1)*k+j-k=i*k+j:=by rw[kU];omega
   rw[this];exact qsf a l i j b
theorem qzp{enc:Nat->List Value}{k:Nat}(a:∀ x,(enc x).length=k):∀ l:List Nat,(l.flatMap enc).length=l.length*k
 | []=>by simp
 | x::l=>by rw[xc,wc,a,qzp a l,wv,kU,wac]
theorem qv2{b:Type}{f:List AV->Option b}{es:List (List AV)}{l:List b}(h:zf f es=some l):∀{a:List Nat},(∀ i∈a,i<l.length)->zf f (pick es a)=some (pick l a)
 | [],_=>rfl
 | i::a,d=>by
   have e:=d i (wh ..);have n:=qX h
   have e1:pick es (i::a)=es[i]'(by omega)::pick es a:=by
    unfold pick;rw[vp,List.getElem?_eq_getElem (by omega)]
   have m:pick l (i::a)=l[i]::pick l a:=by
    unfold pick;rw[vp,List.getElem?_eq_getElem e]
   obtain⟨v,c,k⟩:=J8 h (List.getElem?_eq_getElem (show i<es.length by omega));rw[List.getElem?_eq_getElem e]at c;cases c;rw[e1,m];exact jb.2 ⟨_,_,k,qv2 h λ j g=>d j (wg _ g),rfl⟩
theorem qLX(n:Nat):∀ v∈(Builtin.zeroCells (Value.cells (.agg #[.int .i64 0,.string ⟨#[]⟩,.int .i64 0,.slice none 0 0])) n).toList,v.oneCell'=true:=by
 intro v a;unfold Builtin.zeroCells at a;rw[Array.mem_toList_iff]at a;obtain⟨i,_,rfl⟩:=Array.mem_map.1 a;have c:(Value.cells (.agg #[.int .i64 0,.string ⟨#[]⟩,.int .i64 0,.slice none 0 0])).size=4:=rfl;rw[c];have b:i % 4<4:=xT _ (by decide);generalize i % 4=r at b
 match r,b with
 | 0,_=>rfl
 | 1,_=>rfl
 | 2,_=>rfl
 | 3,_=>rfl
set_option maxHeartbeats 1000000 in
theorem qCD {g:FuncId} {F:T->T->Option Bool} (hF:Fn2 Go.Proofs.Tryz.prog g .term (λ b:Bool => .bool b) F) {fn:List T->Option (Unit × List T × Unit)} (hfn:∀ l r,fn l=some r->∃ l',qAR F l=some l'/\r=((),l',())) :
  qY Go.Proofs.Tryz.prog 108 (sgP ⟨[.row .term,.clo g 0],[.one (.row .term)],λ x=>fn x.1⟩):=by
 have c0 := λ p cap fv w=>qIh (P:=Go.Proofs.Tryz.prog) Go.Proofs.Tryz.func108 (by kernel_rfl) Go.Proofs.Tryz.underlying0 Go.Proofs.Tryz.isAgg0 Go.Proofs.Tryz.sizeOf0 Go.Proofs.Tryz.zeroValue0 Go.Proofs.Tryz.underlying3 Go.Proofs.Tryz.isAgg3 Go.Proofs.Tryz.sizeOf3 Go.Proofs.Tryz.zeroValue3 Go.Proofs.Tryz.underlying4 Go.Proofs.Tryz.isAgg4 Go.Proofs.Tryz.sizeOf4 Go.Proofs.Tryz.zeroValue4 Go.Proofs.Tryz.underlying22 Go.Proofs.Tryz.isAgg22 Go.Proofs.Tryz.sizeOf22 Go.Proofs.Tryz.zeroValue22 Go.Proofs.Tryz.underlying41 Go.Proofs.Tryz.isAgg41 Go.Proofs.Tryz.sizeOf41 Go.Proofs.Tryz.zeroValue41 p cap fv w
 have cP := λ w blk n cap et vs h1 h2 h3 h4 h5 enc h6 h7 h8 ef h9=>qJh (P:=Go.Proofs.Tryz.prog) Go.Proofs.Tryz.func108 (by kernel_rfl) Go.Proofs.Tryz.underlying0 Go.Proofs.Tryz.isAgg0 Go.Proofs.Tryz.sizeOf0 Go.Proofs.Tryz.zeroValue0 Go.Proofs.Tryz.underlying3 Go.Proofs.Tryz.isAgg3 Go.Proofs.Tryz.sizeOf3 Go.Proofs.Tryz.zeroValue3 Go.Proofs.Tryz.underlying4 Go.Proofs.Tryz.isAgg4 Go.Proofs.Tryz.sizeOf4 Go.Proofs.Tryz.zeroValue4 Go.Proofs.Tryz.underlying22 Go.Proofs.Tryz.isAgg22 Go.Proofs.Tryz.sizeOf22 Go.Proofs.Tryz.zeroValue22 Go.Proofs.Tryz.underlying41 Go.Proofs.Tryz.isAgg41 Go.Proofs.Tryz.sizeOf41 Go.Proofs.Tryz.zeroValue41
  4 (by decide) Go.Proofs.Tryz.isAgg24 Go.Proofs.Tryz.sizeOf24 _ Go.Proofs.Tryz.zeroValue24 rfl qLX w blk n cap et vs g h1 h2 h3 h4 h5 enc h6 h7 h8 (λ args w=>qiT hF.1 args w) ef h9
 have hag:∀ v:T,yN .term v = .agg (qi .term v) := λ _=>rfl;refine ⟨qas Go.Proofs.Tryz.func108 (by kernel_rfl),λ Γ σ w args vals r hi hr hp=>?_⟩;unfold sgP at hp;split at hp<;>try cases hp
 rename_i x hx;split at hp<;>cases hp;rename_i v0 hv0;obtain ⟨l,_⟩:=x;obtain ⟨l',hl',rfl⟩:=hfn _ _ hv0;obtain ⟨y0,ys0,nr,rfl,hy0,hx1⟩:=qvT hx;obtain ⟨ys1,rfl,hx2⟩:=qFV (g:=g) (r:=[]) hx1;obtain ⟨rfl,hbx,hrw⟩:=qmi hx2;clear hx hx1 hx2 hv0 hfn;obtain ⟨u0,r0,rfl,hu0,hr⟩:=hr.uncons;obtain ⟨u1,r1,rfl,hu1,hr⟩:=hr.uncons;have:=hr.nil_inv;subst this
 have hu1:u1 = .func (.func g) #[] #[]:=by
  cases hu1 with
  | fn _ _ us hn _=>obtain rfl:=wj hn;rfl
 subst hu1;have hb0 : σ.bx=[]:=wj hbx.symm
 have nil0:∀ (p:Option Addr),l'=[]->Js Go.Proofs.Tryz.prog Γ σ w 108 [.slice p 0 0,.func (.func g) #[] #[]] (zX (jO [.one (.row .term)] σ.rw.length (l',())),some ⟨[],σ.rw.map Q5++jZ [.one (.row .term)] (l',()),List.range σ.bx.length,List.range σ.rw.length⟩) := λ p hl=>by
  subst hl;refine (c0 p 0 _ w).mono ?_;rintro e w' ⟨rfl,rfl⟩;obtain ⟨Γ2,z1,z2,z3,z4⟩:=qMR (a := .term) hi (.refl _ _) hi hb0 p;exact ⟨_,Γ2,rfl,z1,z2,z3,z4⟩
 rcases qhj hy0 with ⟨hnr,R,rfl,hR,hRk,hRf,hRd⟩ | ⟨hnr,hl0,hy⟩
 ·have H:=hi.row 0 R hR;have hcl:R.c.length=l.length:=qX hRd;have hlk:∀ e∈R.c,e.length=Ty.size .term := λ e he=>(H.len e he).trans hRk;obtain ⟨p,cap,rfl,hcap,hrm⟩:=qxR hi hR hRk hRf hu0;rcases hrm with h0 | ⟨rfl,hz,vs,et,hvs,hvsz,hfit,hca,hxl,h1⟩
  ·have hl0:l=[]:=wj (by omega);have hl2:l'=[]:=by rw [hl0] at hl';cases hl';rfl
   have hrc:R.c.length=0:=by omega
   rw [hrc,h0];exact nil0 p hl2
  ·by_cases hl0:l=[]
   ·have hl2:l'=[]:=by rw [hl0] at hl';cases hl';rfl
    have hrc:R.c.length=0:=by rw [hcl,hl0];rfl
    rw [hrc];subst hl2;refine qkJ (a := .term) hi hb0 hR hRk hRf.1 hRf.2 hz (l:=[]) (c:=[]) (xs:=[]) (n:=0) rfl rfl (by intro e he;cases he) (by intro e he;cases he) (λ i e j x h=>by cases h) ?_;refine (c0 _ cap _ w).mono ?_;rintro e w' ⟨rfl,rfl⟩;exact ⟨Γ.cur 0,cap,vs,et,rfl,hvs,we _,hfit,by rw [kQ];rfl,.inl ⟨rfl,hvsz⟩,rfl,rfl,rfl,wb _,wb _,λ _ _ _=>rfl⟩
   ·have hlpos:0<l.length:=xg.2 hl0;obtain ⟨n,hn⟩:∃ n,n=l.length:=⟨_,rfl⟩
    have hnc:R.c.length=n:=hcl.trans hn.symm;rw [hnc] at hca hxl h1 hcap |-
    have hns:n*Ty.size .term<=vs.size:=wD (wn _ hcap) hfit
    have hv':Nat.ble l.length 100000=true/\qde F l=true/\l'=pick l (zG (qlr F l) l.length):=by
     cases l with
     | nil=>exact absurd rfl hl0
     | cons y l =>
       replace hl':cond _ _ _=some l':=hl'
       cases hb:(Nat.ble (y::l).length 100000&&qde F (y::l)) with
       | false =>
         replace hl':cond (Nat.ble (y::l).length 100000&&qde F (y::l)) _ _=some l':=hl'
         rw [hb] at hl';cases hl'
       | true =>
         replace hl':cond (Nat.ble (y::l).length 100000&&qde F (y::l)) _ _=some l':=hl'
         have hb':=hb;rw [wd] at hb';rw [hb] at hl';cases hl';exact ⟨hb'.1,hb'.2,rfl⟩
    obtain ⟨v1,v2,v4⟩:=hv';have v1:l.length<=100000:=kN v1;have hER:∀ {q:Nat} {y:T},l[q]? = some y->RepL Γ (qi .term y) (qcz vs (Ty.size .term) q)/\∀ u∈qcz vs (Ty.size .term) q,u.oneCell'=true := λ hq=>qA8 hnc hlk hRd hca hns hq;have hlast:∀ i,i % n<n := λ i=>xT _ (by omega);obtain ⟨enc,henc⟩:∃ enc:Nat->List Value,enc = λ i=>qcz vs (Ty.size .term) (i % n):=⟨_,rfl⟩
    have hek:∀ i,(enc i).length=Ty.size .term := λ i=>by rw [henc];exact qtE (hlast i) hns
    have hlget:∀ i,∃ y,l[i % n]? = some y := λ i=>⟨_,List.getElem?_eq_getElem (by rw [<- hn];exact hlast i)⟩
    have he1:∀ i,∀ u∈enc i,u.oneCell'=true := λ i u hu=>by
     rw [henc] at hu;obtain ⟨y,hy⟩:=hlget i;exact (hER hy).2 u hu
    have hrange:(Array.range n).size=n:=vD;have hvsb:w.heap[Γ.cur 0]? = some (.cells vs et (0,0)):=hvs;have hmem0:∀ off,Γ.mem (Γ.cur 0) off=none := λ off=>H.un hz off (by rw [hRf.1,kQ,H.off hRf.2];exact we _)
    have hH:HoldsK enc (Ty.size .term) w (Γ.cur 0) 0 (Array.range n):=by
     intro j hj;rw [size_flatK,hrange] at hj;obtain ⟨q1,q2,q3⟩:=qpY j (Ty.size .term) n hj;have hjs:j<vs.size:=wE hj hns;constructor
     ·rw [get_flatK _ _ _ _ (by rw [hrange];exact hj)];have e1:(Array.range n)[j / (Ty.size .term)]! = j / (Ty.size .term):=by rw [getElem!_pos _ _ (by rw [hrange];exact q1)];simp
      rw [e1,henc];show _=some ((qcz vs (Ty.size .term) (j / (Ty.size .term) % n))[j % (Ty.size .term)]!);rw [xr q1];have e2:(qcz vs (Ty.size .term) (j / (Ty.size .term)))[j % (Ty.size .term)]? = some vs[j]:=by rw [qqe q3,q2];exact Array.getElem?_eq_getElem hjs
      rw [wI,Blk.cell hvs,List.getElem!_eq_getElem?_getD,e2,Array.getElem?_eq_getElem hjs];rfl
     ·exact Blk.free hvs _
    have heq:∀ (m:Nat) (os:Array Obj) (dk:Array Nat),dk.size=n->∀ x y,Calls Go.Proofs.Tryz.prog g #[.agg (enc x).toArray,.agg (enc y).toArray] (sortWorldK enc (Ty.size .term) w (Γ.cur 0) 0 m dk os) λ e w'=>e = .returned (.bool (qlr F l x y))/\∃ q' os',w'=grow ((sortWorldK enc (Ty.size .term) w (Γ.cur 0) 0 m dk os).drewN q') os':=by
     intro m os dk hdk x y;have B:=sort_blks hvsb enc (Ty.size .term) m dk os;obtain ⟨W,hW⟩:∃ W,W=sortWorldK enc (Ty.size .term) w (Γ.cur 0) 0 m dk os:=⟨_,rfl⟩
     rw [<- hW] at B |-
     have hiW:Inv (bare Γ) emp W:=hi.bare λ b o u e=>by
      have hne:b ≠ Γ.cur 0 := λ hb=>by rw [hb,hmem0] at e;cases e
      have hc:=(hi.mem b o u e).1;have hblt:=hi.mem_lt e;rw [show W.cell? _=w.cell? _ from World.cell?_of_block (B.other b hblt hne)];exact hc
     have rep:∀ (i:Nat) (y:T),l[i % n]? = some y->Rep (bare Γ) (yN .term y) (.agg (enc i).toArray) := λ i y hy=>by
      obtain ⟨q1,q2⟩:=hER hy;rw [hag];have:enc i=qcz vs (Ty.size .term) (i % n):=by rw [henc]
      rw [this];refine .agg _ _ q1.len q2 λ j z u a b=>(q1.rep j z u a b).bare (zr .term y z (wa a))
     obtain ⟨lx,hx⟩:=hlget x;obtain ⟨ly,hy⟩:=hlget y;have hsome:=wu.1 (wu.1 v2 lx (wa hx)) ly (wa hy);obtain ⟨c,hc⟩:=wag.1 hsome
     have hcf:qlr F l x y=c:=by
      unfold qlr;rw [<- hn,hx,hy];simp only;rw [hc];rfl
     rw [hcf];have hcall:=hF.2 hiW (rep x lx hx) (rep y ly hy) hc;refine Calls.mono hcall ?_;rintro e w' ⟨rfl,hid⟩;exact ⟨rfl,hid.grow⟩
    have hcall:=cP w (Γ.cur 0) n cap et vs hvsb hfit hcap (by omega) (by omega) enc hek he1 hH (qlr F l) heq;obtain ⟨ix,hix⟩:∃ ix,ix=zG (qlr F l) n:=⟨_,rfl⟩
    rw [<- hix] at hcall;have hixlt:∀ i∈ix,i<n := λ i hi=>by rw [hix] at hi;exact qzI i hi
    have hixl:∀ i∈ix,i<l.length := λ i hi=>by rw [<- hn];exact hixlt i hi
    have hixc:∀ i∈ix,i<R.c.length := λ i hi=>by rw [hnc];exact hixlt i hi
    have hl'e:l'=pick l ix:=by rw [v4,<- hn,hix]
    have hl'n:l'.length=ix.length:=by rw [hl'e,qpq hixl]
    have pm:∀ e∈pick R.c ix,e∈R.c := λ e he=>by
     unfold pick at he;obtain ⟨i,_,h⟩:=xa.1 he;exact wa h
    refine qkJ (a := .term) hi hb0 hR hRk hRf.1 hRf.2 hz (l:=l') (c:=pick R.c ix) (xs:=ix.flatMap enc) (n:=ix.length) hl'n.symm (by rw [hl'e];exact qv2 hRd hixl) (λ e he=>hlk e (pm e he)) (λ e he=>H.plain e (pm e he)) (λ i e j x h1 h2=>?_) ?_
    ·rw [qtO hixc] at h1;cases hp:ix[i]? with
     | none=>rw [hp] at h1;cases h1
     | some p =>
       rw [hp] at h1;have h1:R.c[p]? = some e:=h1;have hj:j<Ty.size .term:=by have:=getElem?_lt h2;rwa [hlk e (wa h1)] at this
       obtain ⟨u,u1,u2⟩:=hca p e j x h1 h2;refine ⟨u,?_,u2⟩;have hpn:p<n:=hixlt p (wa hp);rw [qsf hek _ _ _ hj,hp];show (enc p)[j]? = some u;rw [henc];show (qcz vs (Ty.size .term) (p % n))[j]? = some u;rw [xr hpn,qqe hj,<- Array.getElem?_toList];rw [List.getElem?_take] at u1;split at u1
       ·exact u1
       ·cases u1
    ·refine Calls.mono hcall ?_;rintro e w' ⟨rfl,dk,m,os,new,hdk,htk,hw⟩;have B:=sort_blks hvsb enc (Ty.size .term) m dk os;have hpsz:(putCells id 0 (flatK enc (Ty.size .term) dk) vs).size=vs.size:=by unfold putCells;rw [vY]
     have hixn:ix.length<=n:=by
      have:=congrArg List.length htk;rw [wm] at this;have h2:dk.toList.length=n:=by rw [wM,hdk]
      omega
     have hlen:ix.length*Ty.size .term<=n*Ty.size .term:=wn _ hixn
     have hxs:(putCells id 0 (flatK enc (Ty.size .term) dk) vs).toList.take (ix.length*Ty.size .term)=ix.flatMap enc:=by
      apply xd;intro t;by_cases ht:t<ix.length*Ty.size .term
      ·obtain ⟨q1,q2,q3⟩:=qpY t (Ty.size .term) ix.length ht;rw [List.getElem?_take,if_pos ht,Array.getElem?_toList];unfold putCells;rw [Array.getElem?_mapIdx,Array.getElem?_eq_getElem (by omega),kM,if_pos ⟨we _,by rw [size_flatK,hdk];omega⟩,Nat.sub_zero,id,get_flatK _ _ _ _ (by rw [hdk];omega)]
       conv=>rhs;rw [<- q2]
       rw [qsf hek _ _ _ q3]
       have hd:dk[t / Ty.size .term]? = ix[t / Ty.size .term]? := by
        rw [<- htk,List.getElem?_take,if_pos q1,Array.getElem?_toList]
       have hdl:t / Ty.size .term<dk.size:=by rw [hdk];omega
       rw [<- hd,Array.getElem?_eq_getElem hdl,getElem!_pos dk _ hdl];show _=(enc dk[t / Ty.size .term])[t % Ty.size .term]?;rw [List.getElem!_eq_getElem?_getD,List.getElem?_eq_getElem (by rw [hek];exact q3)];rfl
      ·rw [List.getElem?_eq_none (by rw [wm];omega),List.getElem?_eq_none (by rw [qzp hek];omega)]
     rcases hw with rfl | ⟨n1,n2,rfl⟩
     ·exact ⟨Γ.cur 0,cap,_,et,rfl,B.hb,by omega,by rw [hpsz];exact hfit,hxs,.inl ⟨rfl,hpsz.trans hvsz⟩,B.os,B.tape,B.output,B.size,B.drawn,B.other⟩
     ·have hs:=setRow_heap _ (Γ.cur 0) _ new.toArray et (0,0) B.hb;refine ⟨Γ.cur 0,cap,new.toArray,et,rfl,hs,by omega,by rw [km,n2];exact hfit,?_,.inl ⟨rfl,by rw [km,n2];exact hvsz⟩,B.os,B.tape,B.output,?_,B.drawn,λ b hb hne=>(setRow_other _ (Γ.cur 0) b _ hne).trans (B.other b hb hne)⟩
      ·rw [<- hxs];exact n1
      ·show w.heap.size<=_;simp only [World.setRow,Array.size_modify];exact B.size
 ·have hl2:l'=[]:=by
    have hl0:l=[]:=hl0;rw [hl0] at hl';cases hl';rfl
  rcases hy with rfl | ⟨f,rfl,hf2⟩
  ·have hu0:=zm hu0;subst hu0;exact nil0 none hl2
  ·cases hu0 with
   | sl _ _ _ a n cap b o us hn _ hf _ _ _ _ _ _ =>
     have hn:n=0:=hn;have hcap:cap=n:=hf (by omega);rw [hcap,hn];exact nil0 a hl2
end Go.AmZ
namespace Go.AmZ
open Go Go.RowKit Go.GxZ
theorem qmu{P:Program}(w:World)(zt:Nat)(t ty e:TypeId)(i:TypeInfo)(z:Value)(size bytes:Nat)(F:P.underlying t=some (.slice e))(H:P.info? e=some i)(I:i.zero=some z)
  (d:i.size=size) (A:i.bytes=bytes) (s:z.cells.size=size) (x:0<size)
  (v:Value) (n:Nat) (xs:List Value) (b:w.ownsRow zt e size v n xs)
  (a:Addr) (m c:Nat) (qf:List Value) (G:qf.length=m*size) (f:∀ j u,qf[j]?=some u->w.cell? (a.add j)=some u) (J:∀ u∈qf,u.oneCell'=true)
  (B:n+m<=maxLen) (h:(n+m)*bytes<=140737488355328) (l:zt<=w.heap.size) :
  ∃ p w',(Builtin.append_ #[t,t] ty #[v,.slice (some a) m c]).run P w = .ok p w'/\w'.ownsRow zt e size p (n+m) (xs++qf)/\w.grownBy w' v.ownBlock /\
   (p.ownBlock=v.ownBlock\/∀ k,p.ownBlock=some k->w.heap.size<=k):=by
 rcases id b.2 with⟨rfl,rfl⟩ | ⟨g,cap,Q,rfl,O,R,K,N,M,E⟩
 ·have D:xs=[]:=kt.1 (by simpa using b.1);subst D;obtain⟨p,w',C,r,o,_⟩:=run_append_own (P:=P) w w.heap.size t ty e i z size bytes F H I d A s x (.slice none 0 0) 0 [] (World.ownsRow_nil w _ e size) a m c qf G f J B h (wb _);exact⟨p,w',C,r.mono l,o,.inr λ k y=>(r.lt k y).1⟩
 ·by_cases q:n+m<=cap
  ·obtain⟨w',C,r,o⟩:=run_append_own_spare (P:=P) w zt t ty e i size F H d g n cap xs b a m c qf G f J q;exact⟨_,w',C,r,o,.inl rfl⟩
  ·obtain⟨p,w',C,r,o⟩:=run_append_arg_grows (P:=P) w t ty e i z size bytes F H I d A s x ⟨g,0,none⟩ n cap xs b.1 (λ j u L=>b.cells rfl j u L) a m c qf G f (by omega) B h;exact⟨p,w',C,r.mono l,⟨o.os,o.tape,o.output,o.size,λ k y _=>o.block k y (by simp)⟩,.inr λ k y=>(r.lt k y).1⟩
structure qeH (Γ : Gh) (b:Nat):Prop where
 own:¬ QI Γ b
 mem:∀ o,Γ.mem b o=none
theorem qeH.ext{Γ Γ':Gh}{w w':World}{b:Nat}(h:qeH Γ b)(c:Ext Γ w Γ' w')(f:b<w.heap.size):qeH Γ' b/\w'.heap[b]?=w.heap[b]?:=by
 refine⟨⟨λ d=>(c.own b d).elim h.own λ h=>by omega,λ o=>?_⟩,c.block b f h.own⟩;cases e : Γ'.mem b o with
 | none=>rfl
 | some u =>
   rcases c.memg b o u e with a | a | a
   ·rw[h.mem]at a;cases a
   ·exact absurd a h.own
   ·omega
theorem qeH.new{Γ : Gh}{σ : St}{w:World}(a:Inv Γ σ w){b:Nat}(f:w.heap.size<=b):qeH Γ b:=by
 refine⟨λ h=>?_,λ o=>?_⟩
 ·rcases h with⟨i,c,rfl⟩ | ⟨r,c,e,rfl⟩
  ·have:=a.box_lt c;omega
  ·have:=a.cur_lt c e;omega
 ·cases d : Γ.mem b o with
  | none=>rfl
  | some u=>have:=a.mem_lt d;omega
theorem Inv.off{Γ : Gh}{σ : St}{w w':World}(h:Inv Γ σ w)(l:∀ k j,¬ qeH Γ k->w.heap[k]?=some j->w'.heap[k]?=some j):Inv Γ σ w' where
 nb:=h.nb
 nr:=h.nr
 mem := λ b o u e=>by
  obtain⟨m,q⟩:=h.mem b o u e;have c:=Array.getElem?_eq_getElem (qsX m);refine⟨?_,q⟩;rw[World.cell?_of_block (w:=w) (a:=⟨b,o,none⟩) ((l b _ (λ f=>by rw[f.mem]at e;cases e) c).trans c.symm)];exact m
 box := λ i cs e=>by
  have g:i < Γ.nb:=by rw[h.nb];exact getElem?_lt e
  exact(h.box i cs e).lift g (.refl _) λ o c=>l _ _ (λ f=>f.own (.inl ⟨i,g,rfl⟩)) c
 inj:=h.inj
 boxmem:=h.boxmem
 row := λ r R e=>by
  have d:r < Γ.nr:=by rw[h.nr];exact getElem?_lt e
  exact(h.row r R e).lift d (.refl _) rfl (λ n j c=>l _ _ (λ f=>f.own (.inr ⟨r,d,n,rfl⟩)) c) (λ _ _ p=>p) λ _ i t s=>by omega
 apart:=h.apart
theorem qJx{d Γ : Gh}{σ : St}{w0 w w':World}{e:Option Nat}(a:Ext d w0 Γ w)(m:Inv Γ σ w)(c:w.grownBy w' e)(f:∀ b,e=some b->qeH Γ b/\w0.heap.size<=b)(n:w.drawn<=w'.drawn):Ext d w0 Γ w'/\Inv Γ σ w':=by
 refine⟨⟨a.le,c.os.trans a.os,c.tape.trans a.tape,c.output.trans a.output,wD a.size c.size,λ b i l=>(c.block b (wE i a.size) λ h=>?_).trans (a.block b i l),a.own,a.memg,wD a.drawn n⟩,m.off λ k o j g=>?_⟩
 ·have:=(f b h.symm).2;omega
 ·rw[c.block k (Array.getElem?_eq_some_iff.1 g).1 λ h=>j (f k h.symm).1];exact g
theorem qeH.grown{Γ : Gh}{w w':World}{a:Option Nat}{b:Nat}(d:w.grownBy w' a)(e:b<w.heap.size)(c:some b≠a):w'.heap[b]?=w.heap[b]?:=d.block b e c
theorem qI3(w:World)(g k:Nat)(u:Value):w.grownBy (w.setCell ⟨g,k,none⟩ u) (some g) :=
 ⟨rfl,rfl,rfl,by simp,λ b _ a=>Below.heap_setCell _ _ _ _ λ h=>a (by rw[h])⟩
theorem qmd{w w':World}{B e s g n cap:Nat}{cs:List Value}(h:w.ownsRow B e s (.slice (some ⟨g,0,none⟩) n cap) n cs)(d:w'.heap[g]?=w.heap[g]?):w'.ownsRow B e s (.slice (some ⟨g,0,none⟩) n cap) n cs:=by
 rcases h.2 with⟨a,_⟩ | ⟨f,c,b,a,r⟩
 ·cases a
 ·cases a;exact⟨h.1,.inr ⟨g,cap,b,rfl,r.1,by rw[d];exact r.2.1,r.2.2⟩⟩
theorem qcU{w:World}{B e s g n cap:Nat}{cs:List Value}(h:w.ownsRow B e s (.slice (some ⟨g,0,none⟩) n cap) n cs):B<=g/\g<w.heap.size:=h.lt g rfl
theorem qvk{w:World}{B e s g n p cap:Nat}{cs:List Value}(h:w.ownsRow B e s (.slice (some ⟨g,0,none⟩) n cap) n cs)(d:p<=n):w.ownsRow B e s (.slice (some ⟨g,0,none⟩) p cap) p (cs.take (p*s)):=by
 have a:p*s<=n*s:=wn _ d;rcases h.2 with⟨b,_⟩ | ⟨q,f,c,b,o,m,l,k,j,i⟩
 ·cases b
 ·cases b;refine⟨by rw[wm,h.1];omega,.inr ⟨g,cap,c,rfl,o,m,wD d l,k,j,?_⟩⟩;rw[<- i,xL,kL a]
theorem qNb{w:World}{B e s g n cap:Nat}{cs:List Value}(h:w.ownsRow B e s (.slice (some ⟨g,0,none⟩) n cap) n cs):n<=cap/\cap<=maxLen:=by
 rcases h.2 with⟨a,_⟩ | ⟨m,b,f,a,l,k,d,c,j,i⟩
 ·cases a
 ·cases a;exact⟨d,c⟩
abbrev RD:Ty := .pair .str (.pair (.int .i64) .bool)
def qjd(Γ : Gh)(σ : St)(cs:List Value)(i:Nat)(t:T)(n:Int)(r:Nat):Prop :=
 ∃ R a,σ.rw[r]?=some R/\R.k=4/\R.fz=0/\R.off=false/\R.c=t.kids.map (qi .term)/\Rep Γ (.rs r 0 t.kids.length R.ver false) a /\
  cs[i*5]?=some (.int .i64 t.kind)/\cs[i*5+1]?=some (.string ⟨t.name.toArray⟩)/\cs[i*5+2]?=some (.int .i64 t.sort)/\cs[i*5+3]?=some a/\cs[i*5+4]?=some (.int .i64 n)
structure Stk (B N:Nat) (Γ : Gh) (σ : St) (w:World) (st:List (T × Int)) (ids:List Nat) (g cap:Nat) (cs:List Value):Prop where
 len:ids.length=st.length
 nd:ids.Nodup
 priv:qeH Γ g
 own:w.ownsRow B N 5 (.slice (some ⟨g,0,none⟩) st.length cap) st.length cs
 node:∀ i t n r,st[i]?=some (t,n)->ids[i]?=some r->qjd Γ σ cs i t n r
section
variable {B N:Nat} {Γ Γ':Gh} {σ σ':St} {w w':World} {st:List (T × Int)} {ids:List Nat} {g cap:Nat} {cs:List Value}
theorem qjd.later{i:Nat}{t:T}{n:Int}{r:Nat}(h:qjd Γ σ cs i t n r)(c:Le Γ Γ')(b:∀ R,σ.rw[r]?=some R -> σ'.rw[r]?=some R):qjd Γ' σ' cs i t n r:=by
 obtain⟨R,a,l,k,j,g,f,e,d⟩:=h;exact⟨R,a,b R l,k,j,g,f,e.mono c,d⟩
theorem qjd.cells{i:Nat}{t:T}{n:Int}{r:Nat}{cs':List Value}(h:qjd Γ σ cs i t n r)(a:∀ j,j<5->cs'[i*5+j]?=cs[i*5+j]?):qjd Γ σ cs' i t n r:=by
 obtain⟨R,b,k,g,f,e,d,c,q,p,o,m,l⟩:=h;exact⟨R,b,k,g,f,e,d,c,(a 0 (by decide)).trans q,(a 1 (by decide)).trans p,(a 2 (by decide)).trans o,(a 3 (by decide)).trans m,(a 4 (by decide)).trans l⟩
theorem Stk.later(h:Stk B N Γ σ w st ids g cap cs)(a:Ext Γ w Γ' w')(e:∀ r,r∈ids->∀ R,σ.rw[r]?=some R -> σ'.rw[r]?=some R):Stk B N Γ' σ' w' st ids g cap cs:=by
 obtain⟨d,c⟩:=h.priv.ext a (qcU h.own).2;exact⟨h.len,h.nd,d,qmd h.own c,λ i t n r f b=>(h.node i t n r f b).later a.le (e r (wa b))⟩
theorem Stk.grown{a:Option Nat}(h:Stk B N Γ σ w st ids g cap cs)(c:w.grownBy w' a)(b:some g≠a):Stk B N Γ σ w' st ids g cap cs :=
 ⟨h.len,h.nd,h.priv,qmd h.own (c.block g (qcU h.own).2 b),h.node⟩
theorem Stk.cell(h:Stk B N Γ σ w st ids g cap cs){k:Nat}{u:Value}(a:cs[k]?=some u):w.cell? ⟨g,k,none⟩=some u/\w.frozen? ⟨g,k,none⟩=false:=by
 refine⟨?_,h.own.frozenAt k⟩;rw[h.own.cellAt k (by rw[<- h.own.1];exact getElem?_lt a)];exact a
theorem Stk.at(h:Stk B N Γ σ w st ids g cap cs){i:Nat}{t:T}{n:Int}(b:st[i]?=some (t,n)):∃ r,ids[i]?=some r/\qjd Γ σ cs i t n r:=by
 have a:i<ids.length:=by rw[h.len];exact getElem?_lt b
 exact⟨_,List.getElem?_eq_getElem a,h.node i t n _ b (List.getElem?_eq_getElem a)⟩
theorem Stk.left(h:Stk B N Γ σ w st ids g cap cs){i:Nat}{t:T}{n:Int}(l:st[i]?=some (t,n))(a:Int):Stk B N Γ σ (w.setCell ⟨g,i*5+4,none⟩ (.int .i64 a)) (st.set i (t,a)) ids g cap (cs.set (i*5+4) (.int .i64 a)):=by
 have s:=getElem?_lt l;have d:i*5+4<cs.length:=by rw[h.own.1];omega
 refine⟨by rw[wJ];exact h.len,h.nd,h.priv,by rw[wJ];exact(h.own.stored _ _).1,λ j o m r c f=>?_⟩;rw[List.getElem?_set]at c;split at c
 ·rename_i e;subst e;cases c;obtain⟨R,p,A,z,y,x,v,u,F,E,D,C,G⟩:=h.node i t n r l f;have b:∀ q,q≠i*5+4->(cs.set (i*5+4) (.int .i64 a))[q]?=cs[q]? := λ q k=>by rw[List.getElem?_set_ne (λ e=>k e.symm)]
  refine⟨R,p,A,z,y,x,v,u,(b _ (by omega)).trans F,(b _ (by omega)).trans E,(b _ (by omega)).trans D,(b _ (by omega)).trans C,?_⟩;rw[List.getElem?_set_self d]
 ·rename_i e;refine(h.node j o m r c f).cells λ q k=>?_;rw[List.getElem?_set_ne (by omega)]
theorem Stk.push(h:Stk B N Γ σ w st ids g cap cs){s:Value}{nk sk:Int}{nm:List UInt8}{lf:Int}{o:Value}{r:Nat}{R:Row}(F : σ.rw[r]?=some R)(K:R.k=4)(J:R.fz=0)(I:R.off=false)(H:R.c=[])(G:Rep Γ (.rs r 0 0 R.ver false) o)(A:r ∉ ids)
  (l:w'.ownsRow B N 5 s (st.length+1) (cs++[.int .i64 nk,.string ⟨nm.toArray⟩,.int .i64 sk,o,.int .i64 lf])) (z:s.ownBlock=some g\/∀ k,s.ownBlock=some k->qeH Γ k) :
  ∃ j d,s = .slice (some ⟨j,0,none⟩) ((st.length+1:Nat)) d/\Stk B N Γ σ w' (st++[(.mk nk nm sk [],lf)]) (ids++[r]) j d (cs++[.int .i64 nk,.string ⟨nm.toArray⟩,.int .i64 sk,o,.int .i64 lf]):=by
 have D:=h.own.1
 obtain⟨j,d,v⟩:∃ j d,s = .slice (some ⟨j,0,none⟩) ((st.length+1:Nat)) d:=by
  rcases l.2 with⟨_,O⟩ | ⟨j,d,L,e,_⟩
  ·omega
  ·exact⟨j,d,e⟩
 subst v;refine⟨j,d,rfl,⟨by simp[h.len],?_,?_,by simpa using l,λ i t n y p f=>?_⟩⟩
 ·rw[List.nodup_append];exact⟨h.nd,by simp,λ a E b x=>by simp at x;subst x;exact λ e=>A (e▸E)⟩
 ·rcases z with e | e
  ·cases e;exact h.priv
  ·exact e j rfl
 ·rw[List.getElem?_append]at p f;rw[h.len]at f;split at p
  ·rename_i m;rw[if_pos m]at f;refine(h.node i t n y p f).cells λ q M=>?_;rw[List.getElem?_append_left (by omega)]
  ·rename_i m;rw[if_neg m]at f
   have C:i=st.length:=by
    have:=getElem?_lt p;simp at this;omega
   subst C;simp at p f;obtain⟨rfl,rfl⟩:=p;subst f
   have u:∀ q,(cs++[.int .i64 nk,.string ⟨nm.toArray⟩,.int .i64 sk,o,.int .i64 lf])[st.length*5+q]?=([.int .i64 nk,.string ⟨nm.toArray⟩,.int .i64 sk,o,.int .i64 lf]:List Value)[q]? := λ q=>by
    rw[List.getElem?_append_right (by omega)];congr 1;omega
   exact⟨R,o,F,K,J,I,H,G,u 0,u 1,u 2,u 3,u 4⟩
theorem Stk.shrink(h:Stk B N Γ σ w st ids g cap cs){p:Nat}(e:p<=st.length):Stk B N Γ σ w (st.take p) (ids.take p) g cap (cs.take (p*5)):=by
 have a:(st.take p).length=p:=by rw[wm];omega
 refine⟨by rw[a,wm,h.len];omega,h.nd.sublist (List.take_sublist _ _),h.priv,by rw[a];exact qvk h.own e,λ i t n r b c=>?_⟩;rw[List.getElem?_take]at b c;split at b<;>try cases b
 rename_i d;rw[if_pos d]at c;refine(h.node i t n r b c).cells λ j f=>?_;rw[List.getElem?_take,if_pos (by omega)]
theorem Stk.kid(h:Stk B N Γ σ w st ids g cap cs)(v:Ext Γ w Γ' w'){q:Nat}(Z:q<st.length){t:T}{n:Int}(J:st[q]?=some (t,n)){r:Nat}(y:ids[q]?=some r)(x:T)
  (m:∀ i s,i<q->ids[i]?=some s->∀ R,σ.rw[s]?=some R -> σ'.rw[s]?=some R) {R:Row} (M : σ'.rw[r]?=some R) (U:R.k=4) (S:R.fz=0) (Q:R.off=false) (P:R.c=(t.kids++[x]).map (qi .term)) {f:Value} (O:Rep Γ' (.rs r 0 (t.kids.length+1) R.ver false) f) :
  Stk B N Γ' σ' (w'.setCell ⟨g,q*5+3,none⟩ f) (st.take q++[(.mk t.kind t.name t.sort (t.kids++[x]),n)]) (ids.take (q+1)) g cap ((cs.set (q*5+3) f).take ((q+1)*5)):=by
 obtain⟨D,C⟩:=h.priv.ext v (qcU h.own).2
 have l:(st.take q++[(T.mk t.kind t.name t.sort (t.kids++[x]),n)]).length=q+1:=by
  rw[wc,wm];simp;omega
 have G:=qvk ((qmd h.own C).stored (q*5+3) f).1 (p:=q+1) (by omega);have L:=h.own.1;refine⟨by rw[l,wm,h.len];omega,h.nd.sublist (List.take_sublist _ _),D,by rw[l];exact G,λ i A E s b a=>?_⟩;rw[List.getElem?_take]at a;split at a<;>try cases a
 rename_i H
 have u:∀ j,j<5->((cs.set (q*5+3) f).take ((q+1)*5))[i*5+j]?=(cs.set (q*5+3) f)[i*5+j]? := λ j z=>by
  rw[List.getElem?_take,if_pos (by omega)]
 have d:∀ k,k≠q*5+3->(cs.set (q*5+3) f)[k]?=cs[k]? := λ k I=>by rw[List.getElem?_set_ne (λ e=>I e.symm)]
 rw[List.getElem?_append,wm,kL (by omega)]at b;split at b
 ·rename_i o;rw[List.getElem?_take,if_pos o]at b;exact((h.node i A E s b a).later v.le (m i s o a)).cells λ j z=>(u j z).trans (d _ (by omega))
 ·rename_i o;have K:i=q:=by omega
  subst K;simp at b;obtain⟨rfl,rfl⟩:=b;rw[y]at a;cases a;obtain⟨R0,F,b1,b2,b3,b4,b5,b6,Y,X,W,a3,V⟩:=h.node i t n r J y;refine⟨R,f,M,U,S,Q,P,(by show Rep Γ' (.rs r 0 (t.kids++[x]).length R.ver false) f;rw[wc];exact O),(u 0 (by decide)).trans ((d _ (by omega)).trans Y),(u 1 (by decide)).trans ((d _ (by omega)).trans X),(u 2 (by decide)).trans ((d _ (by omega)).trans W),(u 3 (by decide)).trans ?_,(u 4 (by decide)).trans ((d _ (by omega)).trans V)⟩;rw[List.getElem?_set_self (by omega)]
end
end Go.AmZ
namespace Go.AmZ
open Go Go.RowKit Go.GxZ
structure RS (Γ0:Gh) (w0:World) (rd:Val RD) (Γ : Gh) (σ : St) (w:World):Prop where
 x:Ext Γ0 w0 Γ w
 i:Inv Γ σ w
 bx : σ.bx=[qi RD rd]
abbrev qpx(F:Val RD->Option ((Val RD × Unit) × ((Int × List UInt8 × Int × List T × Int × Unit) × Unit))):qof:=⟨[.box [.val RD]],[.agg [.val (.int .i64),.val .str,.val (.int .i64),.row .term,.val (.int .i64)]],λ x=>F x.1⟩
section
variable {P:Program} {Γ0 Γ : Gh} {σ : St} {w0 w:World} {rd:Val RD}
theorem RS.drew(h:RS Γ0 w0 rd Γ σ w):RS Γ0 w0 rd Γ σ { w with drawn:=w.drawn+1 }:=⟨h.x.trans (Ext.drew _ _),h.i.drew,h.bx⟩
theorem RS.box(h:RS Γ0 w0 rd Γ σ w):w.cell? ⟨Γ.β 0,0,none⟩=some (.string ⟨rd.1.toArray⟩)/\w.cell? ⟨Γ.β 0,1,none⟩=some (.int .i64 rd.2.1)/\w.cell? ⟨Γ.β 0,2,none⟩=some (.bool rd.2.2):=by
 obtain⟨vs,e,g,d,j⟩:=h.i.box 0 (qi RD rd) (by rw[h.bx];rfl);have f:=QS g;have c:∀(x:Value) (u:Value),Rep Γ (.v x) u->u=x := λ x u h=>by cases h;rfl
 refine⟨?_,?_,?_⟩<;>rw[f]
 ·obtain⟨u,a,b⟩:=d.get (i:=0) (x := .v (.string ⟨rd.1.toArray⟩)) rfl;rw[c _ _ b]at a;simpa using a
 ·obtain⟨u,a,b⟩:=d.get (i:=1) (x := .v (.int .i64 rd.2.1)) rfl;rw[c _ _ b]at a;simpa using a
 ·obtain⟨u,a,b⟩:=d.get (i:=2) (x := .v (.bool rd.2.2)) rfl;rw[c _ _ b]at a;simpa using a
theorem RS.grown{w':World}{c:Option Nat}(h:RS Γ0 w0 rd Γ σ w)(e:w.grownBy w' c)(d:∀ b,c=some b->qeH Γ b/\w0.heap.size<=b)(f:w.drawn<=w'.drawn):RS Γ0 w0 rd Γ σ w' :=
 let⟨a,b⟩:=qJx h.x h.i e d f;⟨a,b,h.bx⟩
theorem RS.set(h:RS Γ0 w0 rd Γ σ w){g:Nat}(a:qeH Γ g)(c:w0.heap.size<=g)(k:Nat)(u:Value):RS Γ0 w0 rd Γ σ (w.setCell ⟨g,k,none⟩ u) :=
 h.grown (qI3 w g k u) (λ b e=>by cases e;exact⟨a,c⟩) (wb _)
theorem RS.put4(h:RS Γ0 w0 rd Γ σ w){b:Nat}(a:qeH Γ b)(c:w0.heap.size<=b)(g f e d:Value):RS Γ0 w0 rd Γ σ ((((w.setCell ⟨b,0,none⟩ g).setCell ⟨b,1,none⟩ f).setCell ⟨b,2,none⟩ e).setCell ⟨b,3,none⟩ d) :=
 (((h.set a c 0 g).set a c 1 f).set a c 2 e).set a c 3 d
theorem qDt:Rep Γ (.sl 4 [] 1) (.slice none 0 0) := .sl _ _ _ _ 0 0 0 0 (λ _ _=>undef) rfl (λ _=>wb _) (λ _=>rfl) (λ e h=>by cases h) (λ e h=>by cases h) (by decide) (.inl rfl) (λ i e j x h=>by cases h) (λ i e j x h=>by cases h)
theorem RS.alloc(h:RS Γ0 w0 rd Γ σ w)(o:Obj):RS Γ0 w0 rd Γ σ (w.alloc o) :=
 h.grown (World.grownBy_alloc w o none) (λ b e=>by cases e) (wb _)
theorem qwF{f:FuncId}{F:Val RD->Option ((Val RD × Unit) × ((Int × List UInt8 × Int × List T × Int × Unit) × Unit))}(C:qY P f (sgP (qpx F))){b:Val RD}{nk sk lf:Int}{nm:List UInt8}{ks:List T}(A:F rd=some ((b,()),((nk,nm,sk,ks,lf,()),())))
  (h:RS Γ0 w0 rd Γ σ w):Calls P f #[.pointer (some ⟨Γ.β 0,0,none⟩)] w λ e w'=>∃ Γ' σ' o,e = .returned (.agg #[.int .i64 nk,.string ⟨nm.toArray⟩,.int .i64 sk,o,.int .i64 lf])/\Ext Γ w Γ' w'/\RS Γ0 w0 b Γ' σ' w' /\ σ'.rw = σ.rw++[⟨4,ks.map (qi .term),0,0,false⟩]/\Rep Γ' (.rs σ.rw.length 0 ks.length 0 false) o:=by
 have l : Γ.nb=1:=by rw[h.i.nb,h.bx];rfl
 have g:qam σ [.ptr 0 0] (sgP (qpx F))=some (.agg [.v (.int .i64 nk),.v (.string ⟨nm.toArray⟩),.v (.int .i64 sk),.rs σ.rw.length 0 ks.length 0 false,.v (.int .i64 lf)],some ⟨[qi RD b],σ.rw++[⟨4,ks.map (qi .term),0,0,false⟩],0 :: σ.wr,σ.wrr⟩):=by
  obtain⟨I,rw,c,a⟩ := σ;have m:I=[qi RD rd]:=h.bx;subst m;have B:yj RD ((qi RD rd).take (Ty.size RD))=some rd:=Qj RD rd
  have m:qjC ⟨[qi RD rd],[],[],[]⟩ [.val RD] 0 0 (.ptr 0 0)=some ((rd,()),0):=by
   show(match yj RD ((qi RD rd).take (Ty.size RD))with
    | some v=>match qf6 ⟨[qi RD rd],[],[],[]⟩ [] 0 ((qi RD rd).drop (Ty.size RD))with
      | some (vs,n)=>some ((v,vs),n)
      | none=>none
    | none=>none)=_
   rw[B];rfl
  have s:dS ⟨[qi RD rd],[],[],[]⟩ (qpx F).args 0 0 [.ptr 0 0]=some (rd,()):=by
   show(match qjC ⟨[qi RD rd],[],[],[]⟩ [.val RD] 0 0 (.ptr 0 0)with
    | some (v,k)=>match dS ⟨[qi RD rd],[],[],[]⟩ [] 1 k []with
      | some vs=>some (toB [.val RD] v,vs)
      | none=>none
    | none=>none)=_
   rw[m];rfl
  have z:sgP (qpx F) ⟨[qi RD rd],[],[],[]⟩ [.ptr 0 0]=some (.agg [.v (.int .i64 nk),.v (.string ⟨nm.toArray⟩),.v (.int .i64 sk),.rs 0 0 ks.length 0 false,.v (.int .i64 lf)],some ⟨[qi RD b],[⟨4,ks.map (qi .term),0,0,false⟩],[0],[]⟩):=by
   unfold sgP;rw[s];dsimp only;rw[A];rfl
  have q:qjl ⟨[qi RD rd],rw,c,a⟩ [.ptr 0 0]=true:=rfl;have H:qO ⟨[qi RD rd],rw,c,a⟩ (Q9 ⟨[qi RD rd],rw,c,a⟩ [.ptr 0 0]) (qcV ⟨[qi RD rd],rw,c,a⟩ [.ptr 0 0])=⟨[qi RD rd],[],[],[]⟩:=rfl;unfold qam;rw[q]
  show(match sgP (qpx F) (qO ⟨[qi RD rd],rw,c,a⟩ (Q9 ⟨[qi RD rd],rw,c,a⟩ [.ptr 0 0]) (qcV ⟨[qi RD rd],rw,c,a⟩ [.ptr 0 0])) [.ptr 0 0]with
   | some r=>some (qjh ⟨[qi RD rd],rw,c,a⟩ [0] [] r)
   | none=>none)=_
  rw[H,z];rfl
 refine(qqc (λ Γ σ j r y d t=>C.2 Γ σ w j _ r y d t) h.i (waG (Rep.ptr 0 0 (by rw[l];exact waj)) .nil) g).mono ?_;rintro e w' ⟨v,Γ',rfl,p,E,D,O⟩;cases D with
 | agg _ us u G d =>
 match us,u with
 | [u0,u1,u2,u3,u4],_ =>
 have N:=d 0 _ _ rfl rfl;have M:=d 1 _ _ rfl rfl;have L:=d 2 _ _ rfl rfl;have K:=d 3 _ _ rfl rfl;have J:=d 4 _ _ rfl rfl;cases N;cases M;cases L;cases J;exact⟨Γ',_,u3,rfl,p,⟨h.x.trans p,E,rfl⟩,rfl,K⟩
theorem qCY(p:Inv Γ σ w){cs:List Value}{i:Nat}{t:T}{n:Int}{r:Nat}(h:qjd Γ σ cs i t n r) :
  ∃ a σ1 d,σ1.bx = σ.bx/\(∀ b,b≠r -> σ1.rw[b]? = σ.rw[b]?)/\Ext Γ w a w/\Inv a σ1 w/\cs[i*5+3]?=some d/\Rep a (.sl 4 (t.kids.map (qi .term)) 1) d/\d.oneCell'=true:=by
 obtain⟨R,d,j,B,E,D,s,q,I,H,G,C,F⟩:=h;obtain⟨m,l,v,u⟩:=qwU p j σ.wrr;refine⟨_,{ σ with rw := σ.rw.modify r qmm,wrr := σ.wrr },d,rfl,λ b z=>?_,qld l w,v,C,?_,q.one rfl⟩
 ·show(σ.rw.modify r qmm)[b]?=_;rw[List.getElem?_modify];cases σ.rw[b]? with
  | none=>rfl
  | some x=>exact congrArg some (if_neg (λ e=>z (Eq.symm e)))
 ·have:=qlo p l.le (y := .rs r 0 t.kids.length R.ver false) (λ b f R' g=>by
    simp only[rsC,wG]at f;subst f;rw[j]at g;cases g;exact u) q
  have o:R.c.length=t.kids.length:=by rw[s,wB]
  have A:zk σ.rw (.rs r 0 t.kids.length R.ver false) = .sl 4 (t.kids.map (qi .term)) 1:=by
   simp only[zk,j]
   have:qnh R R.k 0 t.kids.length R.ver=some (t.kids.map (qi .term)):=by
    unfold qnh;rw[if_pos ⟨rfl,rfl,by omega⟩,wO,kE (by omega),s]
   rw[this,B]
  rw[A]at this;exact this
theorem qhE{t:T}{a:Value}(h:Rep Γ (.sl 4 (t.kids.map (qi .term)) 1) a):RepL Γ (qi .term t) [.int .i64 t.kind,.string ⟨t.name.toArray⟩,.int .i64 t.sort,a]:=by
 have b:qi .term t=[.v (.int .i64 t.kind),.v (.string ⟨t.name.toArray⟩),.v (.int .i64 t.sort),.sl 4 (t.kids.map (qi .term)) 1]:=by
  obtain⟨k,n,s,l⟩:=t;show J6 _=_;rw[J6,qlW];rfl
 rw[b];exact waG (.v _ rfl) (waG (.v _ rfl) (waG (.v _ rfl) (waG h .nil)))
theorem qpT{k s:Int}{b:ByteArray}{a:Value}(h:a.oneCell'=true):∀ u∈([.int .i64 k,.string b,.int .i64 s,a]:List Value),u.oneCell'=true:=by
 intro u c;simp only[wy,xt,or_false]at c;rcases c with rfl | rfl | rfl | rfl<;>first | rfl | exact h
theorem qLg(n:Inv Γ σ w){t:T}{b:Value}(h:Rep Γ (.sl 4 (t.kids.map (qi .term)) 1) b)(e:TypeId) :
  ∃ Γ',Ext Γ w Γ' (w.alloc (.cells #[.int .i64 t.kind,.string ⟨t.name.toArray⟩,.int .i64 t.sort,b] e))/\Inv Γ' σ (w.alloc (.cells #[.int .i64 t.kind,.string ⟨t.name.toArray⟩,.int .i64 t.sort,b] e))/\Rep Γ' (.sl (Ty.size .term) [qi .term t] 2) (.slice (some ⟨w.heap.size,0,none⟩) 1 1):=by
 obtain⟨Γ',g,l,k⟩:=qza n (vs:=[.int .i64 t.kind,.string ⟨t.name.toArray⟩,.int .i64 t.sort,b]) (qpT (h.one rfl)) e;refine⟨Γ',g,l,.sl _ _ _ _ 1 1 w.heap.size 0 (λ _ j=>([.int .i64 t.kind,.string ⟨t.name.toArray⟩,.int .i64 t.sort,b]:List Value).getD j undef) rfl (λ _=>wb _) (λ _=>rfl) ?_ ?_ (by decide) (.inr rfl) ?_ ?_⟩
 ·intro e f;rw[wG.1 f];exact jD .term t
 ·intro e f;rw[wG.1 f];exact zr .term t
 ·intro i e j x a d;cases i with
  | succ i=>cases a
  | zero =>
    cases a;obtain⟨u,c,_⟩:=(qhE h).get d;rw[wI,kQ,wI,k j u c,List.getD_eq_getElem?_getD,c];rfl
 ·intro i e j x a d;cases i with
  | succ i=>cases a
  | zero =>
    cases a;obtain⟨u,c,m⟩:=(qhE h).get d;rw[List.getD_eq_getElem?_getD,c];exact m.mono g.le
theorem qFx{B N:Nat}{f:List (T × Int)}{a:List Nat}{g cap:Nat}{cs:List Value}(h:RS Γ0 w0 rd Γ σ w)(j:Stk B N Γ σ w f a g cap cs){q:Nat}{x:T}{n:Int}(m:f[q]?=some (x,n)) :
  ∃ Γ' σ' c,cs[q*5+3]?=some c/\RS Γ0 w0 rd Γ' σ' w/\Stk B N Γ' σ' w (f.take q) (a.take q) g cap (cs.take (q*5))/\Rep Γ' (.sl 4 (x.kids.map (qi .term)) 1) c/\Ext Γ w Γ' w:=by
 obtain⟨A,k,z⟩:=j.at m;obtain⟨d,σ1,c,y,v,l,u,t,s,C⟩:=qCY h.i z;refine⟨d,σ1,c,t,⟨h.x.trans l,u,y.trans h.bx⟩,(j.shrink (xy (getElem?_lt m))).later l λ r o R p=>?_,s,l⟩;rw[v r λ e=>?_];exact p;subst e;obtain⟨i,b⟩:=vG.1 o;rw[List.getElem?_take]at b;split at b<;>try cases b
 have:=(List.getElem?_inj (getElem?_lt b) j.nd).1 (b.trans k.symm);omega
theorem qF9{B N:Nat}{A:List (T × Int)}{f:List Nat}{g cap:Nat}{cs:List Value}{z V:TypeId}(hT:qoo P .term z V 56)(h:RS Γ0 w0 rd Γ σ w)(o:Stk B N Γ σ w A f g cap cs)(hB:w0.heap.size<=B){q:Nat}{t x:T}{n:Int}{J:Value}(E:A[q]?=some (t,n))(X:Rep Γ (.sl 4 (x.kids.map (qi .term)) 1) J)(l:zo (t.kids.length+1) 56=true)(e ty:TypeId) :
  ∃ p a,cs[q*5+3]?=some p/\f[q]?=some a/\(∃ C D,p = .slice C t.kids.length D) /\
  ∃ d w',(Builtin.append_ #[z,z] ty #[p,.slice (some ⟨w.heap.size,0,none⟩) 1 1]).run P (w.alloc (.cells #[.int .i64 x.kind,.string ⟨x.name.toArray⟩,.int .i64 x.sort,J] e)) = .ok d w'/\(∃ C D,d = .slice C (t.kids.length+1) D) /\
  ∃ Γ' σ',Ext Γ w Γ' w'/\RS Γ0 w0 rd Γ' σ' (w'.setCell ⟨g,q*5+3,none⟩ d)/\Stk B N Γ' σ' (w'.setCell ⟨g,q*5+3,none⟩ d) (A.take q++[(.mk t.kind t.name t.sort (t.kids++[x]),n)]) (f.take (q+1)) g cap ((cs.set (q*5+3) d).take ((q+1)*5)):=by
 obtain⟨U,S,c2,c3⟩:=qLg h.i X e;obtain⟨a,j,Nq⟩:=o.at E;obtain⟨R,p,e1,Q,O,e4,M,L,f0,f1,f2,f3,f4⟩:=Nq;have v:R.c.length=t.kids.length:=by rw[M,wB]
 have r:=of_decide_eq_true l
 have y:yb (Ty.size .term) 56 σ (.rs a 0 t.kids.length R.ver false) [qi .term x]=some (.rs a 0 (t.kids.length+1) (R.ver+1) false,some { σ with rw := σ.rw.set a { R with c:=R.c++[qi .term x],ver:=R.ver+1 },wrr:=a :: σ.wrr }):=by
  have m:R.k=Ty.size .term/\R.ver=R.ver/\t.kids.length=R.c.length/\(0:Nat)=0/\false=false/\R.fz<=R.c.length/\(t.kids.length+[qi .term x].length)*56<=2 ^ 47/\t.kids.length+[qi .term x].length<2 ^ 62 :=
   ⟨Q,rfl,v.symm,rfl,rfl,by rw[O];exact we _,r.1,r.2⟩
  have G:qsW R (Ty.size .term) 0 t.kids.length R.ver false 56 [qi .term x]=some ({ R with c:=R.c++[qi .term x],ver:=R.ver+1 },t.kids.length+1):=if_pos m;have u:zh (qaP [qi .term x]) 0=false:=rfl;simp only[yb,u,e1,G]
 obtain⟨d,w',Γ',g1,g2,g3,K⟩:=qrI hT c2 (L.mono S.le) c3 (by intro q' hq';rw[wG.1 hq'];exact jD .term x) (by intro q' hq';rw[wG.1 hq'];exact zr .term x) y ty;have b:=S.trans g2;have F:=(o.priv.ext b (qcU o.own).2).1;have Z:=(qcU o.own).1;refine⟨p,a,f3,j,(by cases L;exact⟨_,_,rfl⟩),d,w',g1,(by cases K;exact⟨_,_,rfl⟩),Γ',_,b,RS.set ⟨h.x.trans b,g3,h.bx⟩ F (by omega) _ _,o.kid b (getElem?_lt E) E j x (λ i I hi s R' H=>?_) (R:={ R with c:=R.c++[qi .term x],ver:=R.ver+1 }) ?_ Q O e4 (by show R.c++_=_;rw[M,wS];rfl) K⟩
 ·have Y:=getElem?_lt s
  have W:I≠a := λ e=>by
   have:=(List.getElem?_inj Y o.nd).1 (s.trans (e▸j.symm));omega
  show(σ.rw.set a _)[I]?=_;rw[List.getElem?_set_ne (λ e=>W e.symm)];exact H
 ·show(σ.rw.set a _)[a]?=_;rw[List.getElem?_set_self (getElem?_lt e1)]
theorem qCI{vs:Array Value}{a:Nat}{f e c b:Value}(j:a+4<=vs.size)(off:Nat):((((vs.setIfInBounds a f).setIfInBounds (a+1) e).setIfInBounds (a+2) c).setIfInBounds (a+3) b)[off]?=if off<a then vs[off]? else if off<a+4 then([f,e,c,b]:List Value)[off-a]? else vs[off]?:=by
 simp only[Array.getElem?_setIfInBounds,xM];by_cases h:off<a
 ·rw[if_pos h,if_neg (by omega),if_neg (by omega),if_neg (by omega),if_neg (by omega)]
 ·rw[if_neg h];by_cases g:off<a+4
  ·rw[if_pos g];obtain⟨d,rfl⟩:∃ d,off=a+d:=⟨off-a,by omega⟩
   rw[show a+d-a=d by omega];have i:d<4:=by omega
   match d,i with
   | 0,_=>rw[if_neg (by omega),if_neg (by omega),if_neg (by omega),if_pos (by omega),if_pos (by omega)];rfl
   | 1,_=>rw[if_neg (by omega),if_neg (by omega),if_pos (by omega),if_pos (by omega)];rfl
   | 2,_=>rw[if_neg (by omega),if_pos (by omega),if_pos (by omega)];rfl
   | 3,_=>rw[if_pos (by omega),if_pos (by omega)];rfl
  ·rw[if_neg g,if_neg (by omega),if_neg (by omega),if_neg (by omega),if_neg (by omega)]
theorem qM8{B N:Nat}{O:List (T × Int)}{s:List Nat}{g cap:Nat}{cs:List Value}(h:RS Γ0 w0 rd Γ σ w)(f:Stk B N Γ σ w O s g cap cs){q:Nat}{t x z:T}{ks:List T}{n:Int}{o:Value}(hq:O[q]?=some (t,n))(K:t.kids=ks++[z])(hx:Rep Γ (.sl 4 (x.kids.map (qi .term)) 1) o) :
  ∃ b m,cs[q*5+3]?=some (.slice (some ⟨b,0,none⟩) (ks.length+1) m)/\b≠g/\QI Γ b/\(∀ j,j<4->∃ u,w.cell? ⟨b,ks.length*4+j,none⟩=some u)/\(∀ j,w.frozen? ⟨b,j,none⟩=false) /\
  ∃ Γ' σ',Ext Γ w Γ' ((((w.setCell ⟨b,ks.length*4,none⟩ (.int .i64 x.kind)).setCell ⟨b,ks.length*4+1,none⟩ (.string ⟨x.name.toArray⟩)).setCell ⟨b,ks.length*4+2,none⟩ (.int .i64 x.sort)).setCell ⟨b,ks.length*4+3,none⟩ o) /\
   RS Γ0 w0 rd Γ' σ' ((((w.setCell ⟨b,ks.length*4,none⟩ (.int .i64 x.kind)).setCell ⟨b,ks.length*4+1,none⟩ (.string ⟨x.name.toArray⟩)).setCell ⟨b,ks.length*4+2,none⟩ (.int .i64 x.sort)).setCell ⟨b,ks.length*4+3,none⟩ o) /\
   Stk B N Γ' σ' ((((w.setCell ⟨b,ks.length*4,none⟩ (.int .i64 x.kind)).setCell ⟨b,ks.length*4+1,none⟩ (.string ⟨x.name.toArray⟩)).setCell ⟨b,ks.length*4+2,none⟩ (.int .i64 x.sort)).setCell ⟨b,ks.length*4+3,none⟩ o) (O.set q (.mk t.kind t.name t.sort (ks++[x]),n)) s g cap cs:=by
 obtain⟨r,hr,R,ku,e1,J,e3,e4,e5,e6,f0,f1,f2,f3,f4⟩:=f.at hq;have H:=h.i.row r R e1;have D:R.c.length=ks.length+1:=by rw[e5,K];simp
 have V:t.kids.length=ks.length+1:=by rw[K];simp
 rw[V]at e6;have G:R.c[ks.length]?=some (qi .term z):=by rw[e5,K];simp
 have hz:=H.real G;have C:=H.off e4
 obtain⟨b,m,rfl,hb⟩:∃ b m,ku = .slice (some ⟨b,0,none⟩) (ks.length+1) m/\b = Γ.cur r:=by
  cases e6 with
  | rs _ _ _ _ _ a m v Q hc hf hl =>
    obtain⟨I,h2⟩:=hl (H.ver (by rw[e3];exact we _)).symm;rcases I with I | I
    ·omega
    ·rw[C,kQ,wI]at I;exact⟨_,m,by rw[I],rfl⟩
 subst hb;have v:r < Γ.nr:=by rw[h.i.nr];exact getElem?_lt e1
 have A:QI Γ (Γ.cur r) := .inr ⟨r,v,hz,rfl⟩;have Y : Γ.cur r≠g := λ e=>f.priv.own (e▸A);obtain⟨vs,e,fr,M,c2,c3,c4⟩:=H.blk hz;have X:fr=(0,0):=c4 (by omega);subst X;have F:=H.fit;rw[C,D,J,<- c2]at F;have s1:=heap_setCell_same w (Γ.cur r) (ks.length*4) vs e (.int .i64 x.kind) M;have s2:=heap_setCell_same _ (Γ.cur r) (ks.length*4+1) _ e (.string ⟨x.name.toArray⟩) s1;have s3:=heap_setCell_same _ (Γ.cur r) (ks.length*4+2) _ e (.int .i64 x.sort) s2;have s4:=heap_setCell_same _ (Γ.cur r) (ks.length*4+3) _ e o s3
 have l:∀ k,k ≠ Γ.cur r->((((w.setCell ⟨Γ.cur r,ks.length*4,none⟩ (.int .i64 x.kind)).setCell ⟨Γ.cur r,ks.length*4+1,none⟩ (.string ⟨x.name.toArray⟩)).setCell ⟨Γ.cur r,ks.length*4+2,none⟩ (.int .i64 x.sort)).setCell ⟨Γ.cur r,ks.length*4+3,none⟩ o).heap[k]?=w.heap[k]? := λ k L=>by
  rw[Below.heap_setCell _ _ _ _ L,Below.heap_setCell _ _ _ _ L,Below.heap_setCell _ _ _ _ L,Below.heap_setCell _ _ _ _ L]
 obtain⟨Γ',p,z2⟩:=qrC h.i e1 G (by rw[e3];exact we _) e4 (e1:=qi .term x) ((jD .term x).trans J.symm) (zr .term x) (λ vs' e' ab Q=>by
   rw[M]at Q;cases Q;refine⟨s4,by simp,λ off ho=>?_⟩;rw[J]at ho;rw[qCI (by omega)];split
   ·rfl
   ·rw[if_neg (by omega)])
  (λ j y W=>by
   have aa:j<4:=by have:=getElem?_lt W;rwa [jD .term x]at this
   obtain⟨u,hu,S⟩:=(qhE hx).get W;refine⟨u,?_,S,qpT (hx.one rfl) u (wa hu)⟩;rw[J,qCI (by omega),if_neg (by omega),if_pos (by omega),show ks.length*4+j-ks.length*4=j by omega];exact hu) l rfl rfl rfl (by simp) (wb _) σ.wrr
 refine⟨Γ.cur r,m,f3,Y,A,λ j W=>⟨vs[ks.length*4+j]'(by omega),?_⟩,λ j=>frozen_of_row w _ j _ _ M,Γ',_,p,⟨h.x.trans p,z2,h.bx⟩,?_⟩
 ·rw[QS M,Array.getElem?_eq_getElem]
 ·obtain⟨p1,p2⟩:=f.priv.ext p (qcU f.own).2;refine⟨by rw[wJ];exact f.len,f.nd,p1,by rw[wJ];exact qmd f.own p2,λ i t' n' P E d=>?_⟩;rw[List.getElem?_set]at E;split at E
  ·rename_i e;subst e;rw[if_pos (getElem?_lt hq)]at E;cases E;rw[hr]at d;cases d;refine⟨{ R with c:=R.c.set ks.length (qi .term x) },_,List.getElem?_set_self (getElem?_lt e1),J,e3,e4,?_,?_,f0,f1,f2,f3,f4⟩
   ·show R.c.set ks.length (qi .term x)=(ks++[x]).map (qi .term);rw[e5,K,wS,wS];simp
   ·have:=e6.mono p.le;show Rep Γ' (.rs r 0 (ks++[x]).length R.ver false) _;rw[wc];exact this
  ·rename_i e;refine(f.node i t' n' P E d).later p.le λ R' Z=>?_
   have U:P≠r := λ e'=>by
    have:=(List.getElem?_inj (getElem?_lt d) f.nd).1 (d.trans (e'▸hr.symm));omega
   show(σ.rw.set r _)[P]?=_;rw[List.getElem?_set_ne (λ e=>U e.symm)];exact Z
end
end Go.AmZ
namespace Go.AmZ
open Go Go.RowKit Go.GxZ
theorem qoD{P:Program}{o:Oper}{a:Act}{w:World}{K:Act->World->Prop}{Q:Exit->Act->World->Prop}(s x:Operand)(t:TypeId)(c:o.op=Op.call { callee:=Callee.builtin Builtin.append,args := #[s,x],argTypes := #[t,t] }){v d e:Value}{w':World}(g:a.eval s=v)(f:a.eval x=d)
  (b:(Builtin.append_ #[t,t] o.type #[v,d]).run P w = .ok e w') (h:K (a.put o.dst e) w'):Oper.wp P o a w K Q:=by
 unfold Oper.wp;simp[execOp,c,resolve,invoke,builtin,g,f,b,Result.andThen];exact h
theorem qoU{P:Program}{ops:Array Oper}{o:Oper}{a:Act}{w:World}{K:Act->World->Prop}{Q:Exit->Act->World->Prop}{E:Prop}(h:o.guard=none)(s x:Operand)(t:TypeId)(c:o.op=Op.call { callee:=Callee.builtin Builtin.append,args := #[s,x],argTypes := #[t,t] }){v d e:Value}{w':World}(g:a.eval s=v)(f:a.eval x=d)
  (b:(Builtin.append_ #[t,t] o.type #[v,d]).run P w = .ok e w') (i:K (a.put o.dst e) w'):if Region.wanted o (yielded ops a.tmps)=true then Oper.wp P o a w K Q else E:=by
 rw[if_pos (by simp[Region.wanted,h])];exact qoD s x t c g f b i
theorem qyr{P:Program}{ops:Array Oper}{b:List Oper}{o:Oper}{a:Act}{w:World}{Q:Exit->Act->World->Prop}(s x:Operand)(t:TypeId)(j:o.guard=none)(d:o.op=Op.call { callee:=Callee.builtin Builtin.append,args := #[s,x],argTypes := #[t,t] }){v e f:Value}{w':World}(i:a.eval s=v)(g:a.eval x=e)
  (c:(Builtin.append_ #[t,t] o.type #[v,e]).run P w = .ok f w') (k:wpList P ops Q b (a.put o.dst f) w'):wpList P ops Q (o::b) a w:=by
 have h:Region.wanted o (yielded ops a.tmps)=true:=by simp[Region.wanted,j]
 unfold wpList;rw[if_pos h];exact .inl (qoD s x t d i g c k)
abbrev qkH:=(Val RD × Unit) × ((Int × List UInt8 × Int × List T × Int × Unit) × Unit)
def qeY(F:Val RD->Option qkH)(rd:Val RD):Option (Val RD × (Int × List UInt8 × Int × Int)):=match F rd with
 | some (r,v)=>match v.1.2.2.2.1 with
   | []=>some (r.1,v.1.1,v.1.2.1,v.1.2.2.1,v.1.2.2.2.2.1)
   | _::_=>none
 | none=>none
def qnz(F:Val RD->Option qkH)(c:List (T × Int)->Val RD->Option ((Val RD × Unit) × (T × Unit)))(b:List (T × Int))(rd:Val RD):Option ((Val RD × Unit) × (T × Unit)) :=
 cond rd.2.2 (some ((rd,()),(T.mk 0 [] 0 [],()))) (qa b[b.length-1]? λ a=>cond (ilt 0 a.2)
  (cond (zo (b.length+1) 64) (qa (qeY F rd) λ h=>c (b.set (b.length-1) (a.1,iw .i64 (zp a.2 1))++[(T.mk h.2.1 h.2.2.1 h.2.2.2.1 [],h.2.2.2.2)]) h.1) none)
  (cond (Nat.beq b.length 1) (some ((rd,()),(a.1,()))) (qa b[b.length-2]? λ p=>cond (zo (p.1.kids.length+1) 56) (c (b.take (b.length-2)++[(T.mk p.1.kind p.1.name p.1.sort (p.1.kids++[a.1]),p.2)]) rd) none)))
def qkD(F:Val RD->Option qkH):Nat->List (T × Int)->Val RD->Option ((Val RD × Unit) × (T × Unit)):=qJ (λ _ _=>none) (qnz F)
def qpU(F:Val RD->Option qkH)(k:Nat)(rd:Val RD):Option ((Val RD × Unit) × (T × Unit)):=qa (qeY F rd) λ h=>qkD F k [(T.mk h.2.1 h.2.2.1 h.2.2.2.1 [],h.2.2.2.2)] h.1
theorem qtr{F:Val RD->Option qkH}{rd f:Val RD}{nk sk lf:Int}{nm:List UInt8}(h:qeY F rd=some (f,nk,nm,sk,lf)):F rd=some ((f,()),((nk,nm,sk,[],lf,()),())):=by
 unfold qeY at h;split at h<;>try cases h
 rename_i r v i;split at h<;>cases h;rename_i g;obtain⟨⟨a,b,c,d,e,_⟩,_⟩:=v;obtain⟨r,_⟩:=r;have g:d=[]:=g;subst g;exact i
theorem qG0{F:Val RD->Option qkH}{g:List (T × Int)->Val RD->Option ((Val RD × Unit) × (T × Unit))}{c:List (T × Int)}{rd:Val RD}{r:(Val RD × Unit) × (T × Unit)}(h:qnz F g c rd=some r) :
  (rd.2.2=true/\r=((rd,()),(T.mk 0 [] 0 [],())))\/rd.2.2=false/\∃ p b lt,c.length=p+1/\c[p]?=some (b,lt) /\
   ((0<lt/\zo (p+2) 64=true/\∃ d nk nm sk lf,F rd=some ((d,()),((nk,nm,sk,[],lf,()),()))/\g (c.set p (b,iw .i64 (zp lt 1))++[(T.mk nk nm sk [],lf)]) d=some r) \/
    ¬ 0<lt/\((p=0/\r=((rd,()),(b,())))\/∃ q a n,p=q+1/\c[q]?=some (a,n)/\zo (a.kids.length+1) 56=true/\g (c.take q++[(T.mk a.kind a.name a.sort (a.kids++[b]),n)]) rd=some r)):=by
 unfold qnz at h;cases m:rd.2.2 with
 | true=>rw[m]at h;exact .inl ⟨rfl,(kX h).symm⟩
 | false =>
   rw[m]at h;refine .inr ⟨rfl,?_⟩;cases e:c[c.length-1]? with
   | none=>rw[e]at h;cases h
   | some x =>
     obtain⟨b,lt⟩:=x;have o:=getElem?_lt e;obtain⟨p,s⟩:∃ p,c.length=p+1:=⟨c.length-1,by omega⟩
     rw[s]at h e;simp only[xV]at h e;rw[e]at h;refine⟨p,b,lt,s,e,?_⟩;have h:cond (ilt 0 lt) _ _=some r:=h;cases i:ilt 0 lt with
     | true =>
       rw[i]at h;have h:cond (zo (p+1+1) 64) (qa (qeY F rd) _) none=some r:=h;cases f:zo (p+1+1) 64 with
       | false=>rw[f]at h;cases h
       | true =>
         rw[f]at h;refine .inl ⟨of_decide_eq_true i,rfl,?_⟩;have h:qa (qeY F rd) _=some r:=h;cases l:qeY F rd with
         | none=>rw[l]at h;cases h
         | some y =>
           obtain⟨d,nk,nm,sk,lf⟩:=y;rw[l]at h;exact⟨d,nk,nm,sk,lf,qtr l,h⟩
     | false =>
       rw[i]at h;refine .inr ⟨of_decide_eq_false i,?_⟩;have h:cond (Nat.beq (p+1) 1) (some ((rd,()),(b,()))) _=some r:=h;cases j:Nat.beq (p+1) 1 with
       | true =>
         rw[j]at h;exact .inl ⟨by have:=wk j;omega,(kX h).symm⟩
       | false =>
         rw[j]at h;obtain⟨q,rfl⟩:∃ q,p=q+1:=⟨p-1,by cases p with | zero=>cases j | succ q=>rfl⟩
         have h:qa c[q+1+1-2]? _=some r:=h;rw[show q+1+1-2=q by omega]at h;cases k:c[q]? with
         | none=>rw[k]at h;cases h
         | some y =>
           obtain⟨a,n⟩:=y;rw[k]at h;have h:cond (zo (a.kids.length+1) 56) (g (c.take (q+1+1-2)++_) rd) none=some r:=h;rw[show q+1+1-2=q by omega]at h;cases f:zo (a.kids.length+1) 56 with
           | false=>rw[f]at h;cases h
           | true=>rw[f]at h;exact .inr ⟨q,a,n,rfl,k,f,h⟩
theorem qzn{Γ Γ':Gh}(q:∀ b o u,Γ.mem b o=some u -> Γ'.mem b o=some u){x:AV}{u:Value}(h:Rep Γ x u):qy x=true->Rep Γ' x u:=by
 induction h with
 | v x h=>exact λ _ => .v x h
 | sl k es f a n cap b o us p t s r l y w g z m =>
   exact λ _ => .sl k es f a n cap b o us p t s r l y w (λ i e j x d c=>q _ _ _ (g i e j x d c)) (λ i e j x d c=>m i e j x d c (l e (wa d) x (wa c)))
 | _=>intro h;cases h
section
variable {P:Program} {Γ0 Γ : Gh} {σ0 σ : St} {w0 w:World} {rd:Val RD}
theorem qIP(G:Inv Γ0 σ0 w0)(p : σ0.bx.length=1)(c : σ0.rw=[])(h:RS Γ0 w0 rd Γ σ w){t:T}{us:List Value}(s:RepL Γ (qi .term t) us)(F:∀ u∈us,u.oneCell'=true) :
  ∃ v Γ',(Ending.returned (.agg us.toArray):Ending) = .returned v/\Ext Γ0 w0 Γ' w/\Inv Γ' (turn σ0 (some ⟨[qi RD rd],[],List.range σ0.bx.length,List.range σ0.rw.length⟩)) w/\Rep Γ' (yN .term t) v/\qW { σ0 with wr:=[],wrr:=[] } (turn { σ0 with wr:=[],wrr:=[] } (some ⟨[qi RD rd],[],List.range σ0.bx.length,List.range σ0.rw.length⟩)):=by
 obtain⟨q,g,C,r⟩ := σ0;have c:g=[]:=c;subst c;obtain⟨y,rfl⟩:∃ y,q=[y]:=xW.1 p
 obtain⟨m,B,H,A,z⟩:=qq1 G h.x h.i (by rw[h.bx];exact wb _) [qi RD rd] [] rfl (by simp) kT [] [] (λ i cs d=>by
  cases i with
  | succ i=>cases d
  | zero =>
    cases d;refine⟨qi RD rd,by rw[h.bx];rfl,λ m n _ us f=>⟨f.len,λ j x u e k=>qzn (Γ := Γ) (Γ':=yU Γ m 1 [] 0 []) (λ b o u l=>n.le.mem b o u l) (f.rep j x u e k) (zr RD rd x (wa e))⟩⟩) (λ a so R h=>by cases h) (λ a b j R R' h=>by cases h) [0] []
 refine⟨_,_,rfl,A,z,.agg _ us s.len F λ i x u e f=>qzn (Γ := Γ) (Γ':=yU Γ m 1 [] 0 []) (λ b o u n=>B.le.mem b o u n) (s.rep i x u e f) (zr .term t x (wa e)),wb _,wb _,λ i d E=>?_,λ i d _=>absurd d (wL _),λ i h=>(by cases h),λ i h=>(by cases h)⟩;have:i=0:=by have:i<1:=d;omega
 exact absurd (by rw[this];exact wG.2 rfl) E
theorem qJJ{B N:Nat}{m:List (T × Int)}{c:List Nat}{g cap:Nat}{cs:List Value}{q:TypeId}{i:TypeInfo}{z:Value}(J:P.underlying q=some (.slice N))(M:P.info? N=some i)(I:i.zero=some z)(x:i.size=5)(F:i.bytes=64)(v:z.cells.size=5)
  (h:RS Γ0 w0 rd Γ σ w) (s:Stk B N Γ σ w m c g cap cs) (Y:w0.heap.size<=B) {nk sk lf:Int} {nm:List UInt8} {n:Value} {r:Nat} (U : σ.rw[r]?=some ⟨4,[],0,0,false⟩) (o:Rep Γ (.rs r 0 0 0 false) n) (K:r ∉ c) (d:zo (m.length+1) 64=true) (ty:TypeId) :
  ∃ t w',(Builtin.append_ #[q,q] ty #[.slice (some ⟨g,0,none⟩) m.length cap,.slice (some ⟨w.heap.size,0,none⟩) 1 1]).run P (w.alloc (.cells #[.int .i64 nk,.string ⟨nm.toArray⟩,.int .i64 sk,n,.int .i64 lf] N)) = .ok t w' /\
  ∃ l a,t = .slice (some ⟨l,0,none⟩) ((m.length+1:Nat)) a/\RS Γ0 w0 rd Γ σ w'/\Stk B N Γ σ w' (m++[(.mk nk nm sk [],lf)]) (c++[r]) l a (cs++[.int .i64 nk,.string ⟨nm.toArray⟩,.int .i64 sk,n,.int .i64 lf]) /\
   w.heap.size<=w'.heap.size/\(∀ b,b<w.heap.size->b≠g->w'.heap[b]?=w.heap[b]?)/\(l=g\/w.heap.size<=l):=by
 have S:=s.own.alloc (.cells #[.int .i64 nk,.string ⟨nm.toArray⟩,.int .i64 sk,n,.int .i64 lf] N);have A:=of_decide_eq_true d;have V:=qcU s.own
 obtain⟨t,w',e1,X,p,H⟩:=qmu (P:=P) (w.alloc (.cells #[.int .i64 nk,.string ⟨nm.toArray⟩,.int .i64 sk,n,.int .i64 lf] N)) B q ty N i z 5 64 J M I x F v (by decide) _ m.length cs S ⟨w.heap.size,0,none⟩ 1 1 [.int .i64 nk,.string ⟨nm.toArray⟩,.int .i64 sk,n,.int .i64 lf] rfl
  (λ j u L=>by rw[qC2,World.cell?_alloc_mark];simpa using L) (λ u G=>by
   simp only[wy,xt,or_false]at G;rcases G with rfl | rfl | rfl | rfl | rfl<;>first | rfl | exact o.one rfl) (by unfold maxLen;omega) (by have:=A.1;omega) (by simp;omega)
 have E:=GxZ.run_drawn _ e1;have f:w.grownBy w' (some g):=⟨p.os,p.tape,p.output,by have:=p.size;simp at this;omega,λ k D C=>(p.block k (by simp;omega) C).trans (Below.heap_alloc _ _ _ D)⟩
 have W:=RS.grown h f (λ b e=>by cases e;exact⟨s.priv,by omega⟩) E;obtain⟨l,a,rfl,y⟩:=Stk.push (Γ := Γ) (σ := σ) s (r:=r) (R:=⟨4,[],0,0,false⟩) U rfl rfl rfl rfl o K X (H.imp id λ O k D=>qeH.new h.i (by have:=O k D;simp at this;omega));refine⟨_,w',e1,l,a,rfl,W,y,f.size,λ b Q C=>f.block b Q (λ e=>C (by cases e;rfl)),?_⟩;rcases H with e | e
 ·cases e;exact .inl rfl
 ·have:=e l rfl;simp at this;exact .inr (by omega)
theorem qNj{B N:Nat}(h:RS Γ0 w0 rd Γ σ w)(f:B<=w.heap.size){nk sk lf:Int}{nm:List UInt8}{a:Value}{r:Nat}(e : σ.rw[r]?=some ⟨4,[],0,0,false⟩)(c:Rep Γ (.rs r 0 0 0 false) a) :
  RS Γ0 w0 rd Γ σ (w.alloc (.cells #[.int .i64 nk,.string ⟨nm.toArray⟩,.int .i64 sk,a,.int .i64 lf] N))/\Stk B N Γ σ (w.alloc (.cells #[.int .i64 nk,.string ⟨nm.toArray⟩,.int .i64 sk,a,.int .i64 lf] N)) [(.mk nk nm sk [],lf)] [r] w.heap.size 1 [.int .i64 nk,.string ⟨nm.toArray⟩,.int .i64 sk,a,.int .i64 lf]:=by
 refine⟨h.alloc _,rfl,by simp,qeH.new h.i (wb _),World.ownsRow_lit w #[.int .i64 nk,.string ⟨nm.toArray⟩,.int .i64 sk,a,.int .i64 lf] 1 f (by decide) rfl,λ i t n g d b=>?_⟩;cases i with
 | succ i=>cases d
 | zero =>
   cases d;cases b;exact⟨_,a,e,rfl,rfl,rfl,rfl,c,rfl,rfl,rfl,rfl,rfl⟩
theorem Stk.id_lt{B N:Nat}{b:List (T × Int)}{a:List Nat}{g cap:Nat}{cs:List Value}(c:Stk B N Γ σ w b a g cap cs) : σ.rw.length ∉ a := λ h=>by
 obtain⟨i,d⟩:=vG.1 h;have e:i<b.length:=by rw[<- c.len];exact getElem?_lt d
 obtain⟨R,_,f,_⟩:=c.node i _ _ _ (List.getElem?_eq_getElem e) d;exact absurd (getElem?_lt f) (xR _)
def qdb(Γ : Gh)(w:World)(b:Nat)(e:TypeId):Prop:=qeH Γ b/\b<w.heap.size/\w.heap[b]?=some (.cells #[.int .i64 0,.string ⟨#[]⟩,.int .i64 0,.slice none 0 0] e (0,0))
theorem qdb.cells{b:Nat}{e:TypeId}(h:qdb Γ w b e):w.cell? ⟨b,0,none⟩=some (.int .i64 0)/\w.cell? ⟨b,1,none⟩=some (.string ⟨#[]⟩)/\w.cell? ⟨b,2,none⟩=some (.int .i64 0)/\w.cell? ⟨b,3,none⟩=some (.slice none 0 0)/\∀ i,w.frozen? ⟨b,i,none⟩=false:=by
 obtain⟨_,_,h⟩:=h;have a:=QS h;exact⟨a 0,a 1,a 2,a 3,λ i=>frozen_of_row w b i _ _ h⟩
theorem qdb.ext{Γ':Gh}{w':World}{b:Nat}{e:TypeId}(h:qdb Γ w b e)(d:Ext Γ w Γ' w'):qdb Γ' w' b e :=
 let⟨a,c⟩:=h.1.ext d h.2.1;⟨a,wE h.2.1 d.size,c.trans h.2.2⟩
theorem qdb.same{w':World}{b:Nat}{e:TypeId}(h:qdb Γ w b e)(a:w.heap.size<=w'.heap.size)(c:w'.heap[b]?=w.heap[b]?):qdb Γ w' b e:=⟨h.1,wE h.2.1 a,c.trans h.2.2⟩
theorem Stk.drew{B N:Nat}{b:List (T × Int)}{a:List Nat}{g cap:Nat}{cs:List Value}(h:Stk B N Γ σ w b a g cap cs):Stk B N Γ σ w.drew b a g cap cs:=⟨h.len,h.nd,h.priv,qmd h.own rfl,h.node⟩
theorem qdb.drew{b:Nat}{e:TypeId}(h:qdb Γ w b e):qdb Γ w.drew b e:=h
theorem RS.drew'(h:RS Γ0 w0 rd Γ σ w):RS Γ0 w0 rd Γ σ w.drew:=h.drew
end
end Go.AmZ
namespace Go.AmZ
open Go Go.GxZ
set_option linter.unusedVariables false
set_option maxRecDepth 100000
noncomputable section
abbrev Z1:=Option ((Unit) × ((Option ((Int) × (List (Int × (Int × (Y8 × Bool)))) × Unit)) × (Int) × Unit))
abbrev Z2:=Option ((((Int) × (List (Int × (Int × (Y8 × Bool)))) × Unit) × Unit) × ((Bool) × Unit))
abbrev Z3:=(Int) × (List (Int × (Int × (Y8 × Bool)))) × Unit
abbrev Z4:=Option (Bool)
abbrev Z5:=Int->Z4
abbrev Z6:=List UInt8
abbrev Z7:=Z6->Int->Int->Z4
abbrev Z8:=Y8->Z4
abbrev Z9:=Option (((Int) × (Int) × Unit) × ((Int) × Unit))
abbrev Z10:=T->Int->Int->Int->Z9
abbrev Z11:=List (T)
abbrev Z12:=Int->Z11->Int->Int->Int->Int->Z9
abbrev Z13:=Option (Int)
abbrev Z14:=T->Z13
abbrev Z15:=Option (Y8 × (Int × (Int × Int)))
abbrev Z16:=List (Y8 × (Int × (Int × Int)))
abbrev Z17:=Z6->Z16->Int->Int->Z6->Int->Int->Int->Z15
abbrev Z18:=Z11->Int->Int->Int->Z6->Int->Z11->Z13
abbrev Z19:=Z11->Int->Int->Z13
abbrev Z20:=Option (((Int) × (List (T)) × Unit) × (Unit))
abbrev Z21:=T->Int->Z11->Z20
abbrev Z22:=Z11->Int->Int->Int->Z11->Z20
abbrev Z23:=Int->Z11->Int->Int->Z13
abbrev Z24:=T->T->Z13
abbrev Z25:=Int->Int->Int->Z6->Int->Z11->Int->Z6->Int->Z11->Z13
abbrev Z26:=T->T->Z4
abbrev Z27:=Option (T)
abbrev Z28:=T->Z27
abbrev Z29:=Z11->Int->Int->Int->Z6->Int->Int->Z6->Int->Z11->Z11->Z27
abbrev Z30:=Option ((Unit) × ((List (T)) × Unit))
abbrev Z31:=Int->Int->Z11->Z30
abbrev Z32:=Option (TL)
abbrev Z33:=T->Z32
abbrev Z34:=(List (TL))->Int->(List (TL))->Int->Int->Z32
abbrev Z35:=(List (TL))->Int->Int->Z11->Z32
abbrev Z36:=Z11->Z11->Z11->Z32
abbrev Z37:=Z11->Z11->Int->Int->Z32
abbrev Z38:=Option ((T) × (Int))
abbrev Z39:=List (Int)
abbrev Z40:=Z39->Int->Int->Int->Z6->Int->Z11->Int->Z6->Int->Int->Z6->Int->Z11->Z11->Z38
abbrev Z41:=TL->Z32
abbrev Z42:=Z11->Int->Int->Z11->Z32
abbrev Z43:=Z11->Z11->Int->Int->Int->Z6->Int->Z11->Z38
abbrev Z44:=T->Z4
abbrev Z45:=Int->Int->Int->Z6->Int->Int->Z6->Int->Z11->Z11->Z27
abbrev Z46:=Option ((Int) × (Bool))
abbrev Z47:=List (T × Int)
abbrev Z48:=Z47->Int->Int->Int->Int->Z6->Int->Z11->Z46
abbrev Z49:=Option ((Unit) × ((List (T × Int)) × Unit))
abbrev Z50:=Option ((Unit) × ((List (T × Int)) × (Bool) × Unit))
abbrev Z51:=Z47->T->Int->Z50
abbrev Z52:=Int->Z11->Int->Int->Z47->Z50
abbrev Z53:=Option ((List (T × Int)) × (Int))
abbrev Z54:=T->Z53
abbrev Z55:=Z47->Z47->Int->Int->Z13
abbrev Z56:=Z47->Z13
abbrev Z57:=Y8->TL->Z27
abbrev Z58:=Z47->Int->Int->Int->Z6->Int->Z11->Z11->Z11->Z38
abbrev Z59:=Z47->Int->Int->Int->Int->Int->Z6->Int->Int->Z6->Int->Z11->Int->Z11->Z11->Z11->Z38
abbrev Z60:=Z47->Z38
abbrev Z61:=Z47->Int->Int->Z47->Z49
abbrev Z62:=Z47->Int->Int->Z13
abbrev Z63:=Z47->Int->Int->Z47->Z53
abbrev Z64:=Z47->Z47->Z53
abbrev Z65:=T->T->Z38
abbrev Z66:=T->Z38
abbrev Z67:=Z11->Int->Int->Int->Z6->Int->Z11->Int->Z6->Int->Int->Z6->Int->Z11->Z11->Z38
abbrev Z68:=Z11->Int->Int->Z4
abbrev Z69:=Option (((T) × Unit) × ((Bool) × Unit))
abbrev Z70:=Option (((T) × Unit) × ((Int) × Unit))
abbrev Z71:=(List (Y8 × (Int × Int)))->Int->Int->Int->Z6->Int->Z11->Z70
abbrev Z72:=Option (List (Y8 × (Int × Int)))
abbrev Z73:=Option ((Unit) × ((List (Int)) × Unit))
abbrev Z74:=Z39->T->Z73
abbrev Z75:=Z11->Int->Int->Z39->Z73
abbrev Z76:=Option ((Y8) × (Int))
abbrev Z77:=Option ((((Int) × (List (Int × (Int × (Y8 × Bool)))) × Unit) × Unit) × ((Int) × (Int) × Unit))
abbrev Z78:=Z6->Int->Int->Int->Int->Z13
abbrev Z79:=Y8->Z13
abbrev Z80:=Option (Y8)
abbrev Z81:=Z3->Int->Int->T->Z77
abbrev Z82:=Option ((((Int) × (List (Int × (Int × (Y8 × Bool)))) × Unit) × Unit) × ((Option Int) × (Int) × Unit))
abbrev Z83:=Option ((((Int) × (List (Int × (Int × (Y8 × Bool)))) × Unit) × Unit) × ((Int) × Unit))
abbrev Z84:=Z3->Int->Int->Int->Z83
abbrev Z85:=Option (((Y8 × (Int × Bool)) × Unit) × ((Int) × Unit))
abbrev Z86:=Y8 × (Int × Bool)
abbrev Z87:=Option (((Y8 × (Int × Bool)) × Unit) × ((Y8) × Unit))
abbrev Z88:=Int->Int->Int->Z6->Int->Bool->Z87
abbrev Z89:=Option (((Y8 × (Int × Bool)) × Unit) × (((Int) × (Y8) × (Int) × (List (T)) × (Int) × Unit) × Unit))
abbrev Z90:=Option ((T) × ((Int) × (Int)))
abbrev Z91:=Y8->Z90
abbrev Z92:=Option ((((Int) × (List (Int × (Int × (Y8 × Bool)))) × Unit) × Unit) × ((T) × (Int) × (Int) × Unit))
abbrev Z93:=Z3->Int->Z92
abbrev Z94:=Int->Int->Int->Z6->Int->Z11->Z13
abbrev Z95:=Int->Int->Z6->Int->Z11->Int->Z6->Int->Z11->Z13
abbrev Z96:=Z3->Int->Z77
abbrev Z97:=T->Int->Z13
abbrev Z98:=List (Int × (Int × (Int × (Int × (T × Int)))))
abbrev Z99:=Z98->Int->Z11->Z4
abbrev qKt:=Option ((((Int) × (List (Int × (Int × (Y8 × Bool)))) × Unit) × Unit) × ((Y8) × (Int) × Unit))
abbrev qPK:=Z3->Int->qKt
abbrev qOh:=Z6->Int->Z4
abbrev qG1:=Int->Int->Z6->Int->Z11->Z13
abbrev qOM:=Option (List (Y8 × (Int × (Int × Int))))
abbrev qOE:=Z6->Z16->Int->Z13
abbrev qOF:=Z16->Int->Int->Z6->Int->Z11->Z4
abbrev qPn:=Int->Int->Z6->Int->Z11->Z4
abbrev qN1:=Int->Int->Z6->Int->Z11->Z11->Z32
abbrev qPB:=Z11->Bool->Int->Int->Z6->Int->Z11->Z11->Z32
abbrev qG2:=Z11->Z11->Int->Z32
abbrev qOn:=Int->Z11->Int->Z11->Z32
abbrev qrP:=Option ((T) × (Bool))
abbrev qON:=Z11->Int->Int->Z6->Int->Z11->Z13
abbrev qOy:=Z11->Int->Int->Z6->Int->Z11->Z4
abbrev qPH:=Z11->Int->Int->Z6->Int->Z11->Z11->Z32
abbrev qOm:=Z11->Int->Int->Z6->Int->Z11->Z32
abbrev qOR:=Z11->Z11->Int->Int->Z6->Int->Z11->Z38
abbrev qOr:=Int->Int->Int->Z6->Int->Z11->Z4
abbrev qOV:=Int->Bool->Int->Int->Z6->Int->Z11->Z47->Z47->Z49
abbrev qBV:=Z47->T->Int->Z49
abbrev qPC:=Int->Int->Int->Z6->Int->Z11->Z47->Z49
abbrev qHJ:=Z47->Int->Z13
abbrev qn8:=Z47->Int->Z11->Z32
abbrev qoh:=Z47->Int->Int->Z11->Z32
abbrev qOJ:=Z47->Int->Z47->Z53
abbrev qOQ:=Int->Int->Z6->Int->Z11->Int->Z6->Int->Z11->Z11->Z38
abbrev qN0:=Z11->Int->Z4
abbrev qOS:=Z6->(List (Y8))->Int->Z13
abbrev qGq:=T->Z80
abbrev qOA:=Z6->Int->Int->Z6->Int->Z11->Z80
abbrev qN4:=Z6->Int->Int->Int->Z13
abbrev qPv:=Z3->Int->Z83
abbrev qu2:=Option ((((Int) × (List (Int × (Int × (Y8 × Bool)))) × Unit) × Unit) × ((List (Int)) × Unit))
abbrev qys:=List (Int × (Int × (Y8 × Bool)))
abbrev qPJ:=Int->Int->Int->Int->qys->Z39->qu2
abbrev qO3:=Z3->Int->qu2
abbrev qr9:=Option ((T) × ((Int) × (Bool)))
abbrev qHK:=Z6->Int->Int->Int->Int->Z6->Int->Int->Z6->Int->Z11->Z11->qr9
abbrev qC8:=Y8->Int->qr9
abbrev qqX:=Option ((Int) × ((Int) × (Bool)))
abbrev qOw:=Z6->Int->Z6->Z16->Int->qqX
abbrev qN8:=Z39->Z39->Int->Int->Z4
abbrev qO4:=Int->Int->Int->qys->Z39->qu2
abbrev qPo:=Option ((((Int) × (List (Int × (Int × (Y8 × Bool)))) × Unit) × ((Int) × (List (Int × (Int × (Y8 × Bool)))) × Unit) × Unit) × ((Bool) × Unit))
abbrev qN3:=Option ((Unit) × (((Int) × (List (Int × (Int × (Y8 × Bool)))) × Unit) × (Int) × Unit))
abbrev qBj:=Option ((Unit) × ((Option ((Int) × (List (Int × (Int × (Y8 × Bool)))) × Unit)) × (Option ((Int) × (List (Int × (Int × (Y8 × Bool)))) × Unit)) × (Bool) × Unit))
abbrev qOB:=Z98->Int->Int->Int->Int->qys->qys->qBj
abbrev qPx:=Int->Z98->Int->Int->Int->Z6->Int->Z11->Int->Int->qys->qys->Z4
def qiw(m:Nat)(a:Int):Z1 :=
 cond (ilt a 1) (some ((()),(none,7,()))) (cond (ilt 16 a) (some ((()),(none,7,()))) (some ((()),(some (a,[],()),0,()))))
def qjk:Nat->(Int->Z1):=qh (λ _=>none) λ m _=>qiw m
def qbi(m:Nat)(a:(Int) × (List (Int × (Int × (Y8 × Bool)))) × Unit)(b:Int):Z2 :=
 cond (ile 0 b) (some (((a.1,a.2.1,()),()),(ilt b a.1,()))) (some (((a.1,a.2.1,()),()),(false,())))
def QU:Nat->(Z3->Int->Z2):=qh (λ _ _=>none) λ m _=>qbi m
def qlp(m:Nat)(a:Int):Z4 :=
 let d:Z4:=(let c:Z4:=(let b:Z4:=(cond (ieq a 95) (some true) (some (ieq a 35)));cond (ile 48 a) (cond (ile a 57) (some true) b) b);cond (ile 65 a) (cond (ile a 90) (some true) c) c);
 cond (ile 97 a) (cond (ile a 122) (some true) d) d
def qjv:Nat->Z5:=qh (λ _=>none) λ m _=>qlp m
def qff(m:Nat)(i:Z7)(a:Y8):Z4 :=
 cond (qx a []) (some false) (cond (ilt 24 a.length) (some false) (qa (qb a 0) λ h=>qa (qjv m ((UInt8.toNat h:Nat):Int)) λ g=>cond (qd g) (some false) (qa (qb a 0) λ f =>
 let b:Z4:=(qa (qb a 0) λ d=>cond (ieq ((UInt8.toNat d:Nat):Int) 95) (some false) (qa (qb a 0) λ c=>cond (ieq ((UInt8.toNat c:Nat):Int) 35) (some false) (i a a.length 0)));
 cond (ile 48 ((UInt8.toNat f:Nat):Int)) (qa (qb a 0) λ e=>cond (ile ((UInt8.toNat e:Nat):Int) 57) (some false) b) b)))
def qfu(m:Nat)(f:Z7)(c:Y8)(b a:Int):Z4 :=
 cond (ilt a b) (qa (qb c a) λ e=>qa (qjv m ((UInt8.toNat e:Nat):Int)) λ d=>cond (qd d) (some false) (f c b (iw .i64 (qe a 1)))) (some true)
def QG(m:Nat):=qJ (λ _ _ _=>none) λ a=>qfu m a
def qd3:Nat->Z8:=qh (λ _=>none) λ m _=>qff m (QG m m)
def qgu(m:Nat)(b:Z10)(i:Z12)(a:T)(d f e:Int):Z9 :=
 let g:Z9:=(qa (qd3 m a.name) λ h=>cond (qd h) (some ((iw .i64 (qe f 1),qoa e d,()),(2,()))) (cond (ilt 8 a.kids.length) (some ((iw .i64 (qe f 1),qoa e d,()),(3,())))
 (i d a.kids a.kids.length 0 (iw .i64 (qe f 1)) (qoa e d))));let c:Z9:=(some ((iw .i64 (qe f 1),qoa e d,()),(1,())));let j3:Z9 :=
 (cond (ilt a.sort 0) c (cond (ilt 5 a.sort) c (cond (ilt 0 a.kids.length) c g)));cond (ieq a.kind 1) j3 (cond (ieq a.kind 2) j3 (cond (ieq a.kind 3) (cond (qd (ieq a.sort 0)) c g) c))
def qgt(m:Nat)(a:Z10)(j:Z12)(h:Int)(g:TL)(f c e d:Int):Z9 :=
 cond (ilt c f) (qa (qb g c) λ i=>qa (a (re i) (iw .i64 (qe h 1)) e d) λ b=>cond (qd (ieq b.2.1 0)) (some ((b.1.1,b.1.2.1,()),(b.2.1,())))
 (j h g f (iw .i64 (qe c 1)) b.1.1 b.1.2.1)) (some ((e,d,()),(0,())))
def jN(m:Nat)(a:Z10):=qJ (λ _ _ _ _ _ _=>none) λ b=>qgt m a b
def yg:Nat->Z10:=qh (λ _ _ _ _=>none) λ m a=>qgu m a (jN m a m)
def qjX(m:Nat)(b:T):Z13 :=
 qa (yg m (re b) 1 0 0) λ a=>cond (qd (ieq a.2.1 0)) (some a.2.1) (cond (ilt 400 a.1.1) (some 3) (cond (ilt 40 a.1.2.1) (some 3) (some 0)))
def yI:Nat->Z14:=qh (λ _=>none) λ m _=>qjX m
def qdn(m:Nat)(c:Z17)(b:Y8):Z15 :=
 qa (qiU 0) λ a=>c b a a.length 0 [] 0 0 0
def qdL(m:Nat)(j:Z17)(e:Y8)(d:List (Y8 × (Int × (Int × Int))))(c b:Int)(i:Y8)(h g f:Int):Z15 :=
 cond (ilt b c) (qa (qb d b) λ a=>cond (qx a.1 e) (some (a.1,(a.2.1,(a.2.2.1,a.2.2.2)))) (j e d c (iw .i64 (qe b 1)) i h g f)) (some ([],(0,(0,0))))
def Jg(m:Nat):=qJ (λ _ _ _ _ _ _ _ _=>none) λ a=>qdL m a
def qdS:Nat->(Y8->Z15):=qh (λ _=>none) λ m _=>qdn m (Jg m m)
def qeD(m:Nat)(b:Z14)(e:Z18)(d:Z19)(a:T):Z13 :=
 cond (qd (ieq a.kind 3)) (some 0) (qa (qdS m a.name) λ c=>cond (ieq c.2.2.2 0) (some 10) (cond (ilt a.kids.length c.2.1) (some 6) (cond (ilt c.2.2.1 a.kids.length) (some 6)
 (cond (qx a.name [115,107]) (e a.kids a.kids.length 0 a.kind a.name a.sort a.kids) (cond (qx a.name [115,104,107]) (e a.kids a.kids.length 0 a.kind a.name a.sort a.kids)
 (cond (qx a.name [110,101,119]) (qa (qb a.kids 0) λ f=>cond (qd (ieq f.kind 2)) (some 10) (d a.kids a.kids.length 0)) (d a.kids a.kids.length 0)))))))
def qeA(m:Nat)(a:Z14)(k:Z18)(j:Z19)(e:TL)(d c i:Int)(h:Y8)(g:Int)(b:TL):Z13 :=
 cond (ilt c d) (qa (qb e c) λ f=>cond (ieq f.kind 3) (some 10) (cond (qd (ieq f.sort 1)) (some 10) (k e d (iw .i64 (qe c 1)) i h g b))) (j b b.length 0)
def qeF(m:Nat)(a:Z14)(h:Z18)(g:Z19)(d:TL)(c b:Int):Z13 :=
 cond (ilt b c) (qa (qb d b) λ f=>qa (a (re f)) λ e=>cond (qd (ieq e 0)) (some e) (g d c (iw .i64 (qe b 1)))) (some 0)
def qU(m:Nat)(a:Z14):=qJ ((λ _ _ _ _ _ _ _=>none,λ _ _ _=>none)) λ b=>(qeA m a b.1 b.2,qeF m a b.1 b.2)
def qF:Nat->Z14:=qh (λ _=>none) λ m a=>qeD m a (qU m a m).1 (qU m a m).2
def qhy(m:Nat)(b:T):Z13 :=
 qa (yI m (re b)) λ a=>cond (qd (ieq a 0)) (some a) (qa (qF m (re b)) λ c=>some c)
def qeW:Nat->Z14:=qh (λ _=>none) λ m _=>qhy m
def qbR(m:Nat)(c:T)(b:Int)(a:TL):Z20 :=
 cond (ieq c.kind b) (cond (zo (List.length a+1) 56) (qa (qb (a++[T.mk 0 [] 0 []]) a.length) λ d=>some ((b,yq (a++[T.mk 0 [] 0 []]) a.length (re c),()),(()))) none)
 (some ((b,a,()),(())))
def qaL:Nat->Z21:=qh (λ _ _ _=>none) λ m _=>qbR m
def qbE(m:Nat)(a:Z21)(f:Z22)(d:T)(c:Int)(b:TL):Z20 :=
 qa (qaL m (re d) c b) λ e=>f d.kids d.kids.length 0 e.1.1 e.1.2.1
def qbG(m:Nat)(a:Z21)(i:Z22)(f:TL)(e b d:Int)(c:TL):Z20 :=
 cond (ilt b e) (qa (qb f b) λ h=>qa (a (re h) d c) λ g=>i f e (iw .i64 (qe b 1)) g.1.1 g.1.2.1) (some ((d,c,()),(())))
def Qb(m:Nat)(a:Z21):=qJ (λ _ _ _ _ _=>none) λ b=>qbG m a b
def zJ:Nat->Z21:=qh (λ _ _ _=>none) λ m a=>qbE m a (Qb m a m)
def ql0(m:Nat)(b a:Int):Z13 :=
 cond (ilt b a) (some (-1)) (cond (ilt a b) (some 1) (some 0))
def qe0:Nat->(Int->Int->Z13):=qh (λ _ _=>none) λ m _=>ql0 m
def qhM(m:Nat)(a:Z14)(c:Z23)(b:T):Z13 :=
 c 1 b.kids b.kids.length 0
def qh8(m:Nat)(a:Z14)(h:Z23)(e:Int)(d:TL)(c b:Int):Z13 :=
 cond (ilt b c) (qa (qb d b) λ g=>qa (a (re g)) λ f=>h (iw .i64 (qe e f)) d c (iw .i64 (qe b 1))) (some e)
def qcp(m:Nat)(a:Z14):=qJ (λ _ _ _ _=>none) λ b=>qh8 m a b
def Ql:Nat->Z14:=qh (λ _=>none) λ m a=>qhM m a (qcp m a m)
def qew(m:Nat)(c:Z24)(e:Z25)(b a:T):Z13 :=
 qa (Ql m (re b)) λ n=>qa (Ql m (re a)) λ l=>qa (qe0 m n l) λ d=>let j1:Z13:=(qa (qe0 m b.kids.length a.kids.length) λ k =>
 e k 0 b.kind b.name b.sort b.kids a.kind a.name a.sort a.kids);let h:Z13:=(qa (qe0 m b.sort a.sort) λ i =>
 cond (ieq i 0) j1 (e i 0 b.kind b.name b.sort b.kids a.kind a.name a.sort a.kids));let j:Z13:=(qa (strings_Compare 0 b.name a.name) λ g =>
 cond (ieq g 0) h (cond (ieq g 0) j1 (e g 0 b.kind b.name b.sort b.kids a.kind a.name a.sort a.kids)));cond (ieq d 0) (qa (qe0 m b.kind a.kind) λ f =>
 cond (ieq f 0) j (cond (ieq f 0) h (cond (ieq f 0) j1 (e f 0 b.kind b.name b.sort b.kids a.kind a.name a.sort a.kids))))
 (cond (ieq d 0) j (cond (ieq d 0) h (cond (ieq d 0) j1 (e d 0 b.kind b.name b.sort b.kids a.kind a.name a.sort a.kids))))
def qb5(m:Nat)(a:Z24)(p:Z25)(d b k:Int)(j:Y8)(i:Int)(c:TL)(h:Int)(g:Y8)(f:Int)(e:TL):Z13 :=
 cond (ieq d 0) (cond (ilt b c.length) (qa (qb c b) λ o=>qa (qb e b) λ n=>qa (a (re o) (re n)) λ l=>p l (iw .i64 (qe b 1)) k j i c h g f e) (some d))
 (some d)
def Qe(m:Nat)(a:Z24):=qJ (λ _ _ _ _ _ _ _ _ _ _=>none) λ b=>qb5 m a b
def qA:Nat->Z24:=qh (λ _ _=>none) λ m a=>qew m a (Qe m a m)
def za:Nat->TL->Option (TL):=qh (λ _=>none) λ m _=>qsN (qA m)
def qf0(m:Nat)(c b:T):Z4 :=
 qa (qA m (re c) (re b)) λ a=>some (ieq a 0)
def jk:Nat->Z26:=qh (λ _ _=>none) λ m _=>qf0 m
def qI:Nat->TL->Option (Unit × TL × Unit):=qh (λ _=>none) λ m _=>qvO (jk m)
def qgB(m:Nat)(a:Z28)(c:Z29)(b:T):Z27 :=
 c b.kids b.kids.length 0 b.kind b.name b.sort 0 [] 0 [] []
def qgo(m:Nat)(a:Z28)(p:Z29)(i:TL)(h c g:Int)(f:Y8)(e l:Int)(k:Y8)(j:Int)(b d:TL):Z27 :=
 cond (ilt c h) (qa (qb i c) λ o=>qa (a (re o)) λ n=>cond (zo (List.length b+1) 56) (p i h (iw .i64 (qe c 1)) g f e l k j (b++[re n]) d) none)
 (some (T.mk g f e b))
def qbl(m:Nat)(a:Z28):=qJ (λ _ _ _ _ _ _ _ _ _ _ _=>none) λ b=>qgo m a b
def jC:Nat->Z28:=qh (λ _=>none) λ m a=>qgB m a (qbl m a m)
def qeG(m:Nat)(d:Z31)(c:TL):Z30 :=
 qa (za m c) λ b=>cond (Nat.beq b.length c.length) (qa (qI m b) λ a=>d a.2.1.length 0 a.2.1) none
def qey(m:Nat)(f:Z31)(c a:Int)(b:TL):Z30 :=
 cond (ilt a c) (qa (qb b a) λ e=>qa (jC m (re e)) λ d=>qa (qb b a) λ g=>f c (iw .i64 (qe a 1)) (yq b a (re d))) (some ((()),(b,())))
def J2(m:Nat):=qJ (λ _ _ _=>none) λ a=>qey m a
def qhX:Nat->(Z11->Z30):=qh (λ _=>none) λ m _=>qeG m (J2 m m)
def qiM(m:Nat)(d:T)(c:Int):Z32 :=
 qa (zJ m (re d) c []) λ b=>qa (qhX m b.1.2.1) λ a=>some a.2.1
def qnX:Nat->(T->Int->Z32):=qh (λ _ _=>none) λ m _=>qiM m
def qlT(m:Nat)(b:T):Z32 :=
 qa (qnX m (re b) 1) λ a=>some a
def qnN:Nat->Z33:=qh (λ _=>none) λ m _=>qlT m
def qit(m:Nat)(c b:T):Z4 :=
 qa (qA m (re c) (re b)) λ a=>some (ieq a 0)
def J7:Nat->Z26:=qh (λ _ _=>none) λ m _=>qit m
def ql4(m:Nat)(a:T)(b:Y8):Z4 :=
 cond (ieq a.kind 3) (some (qx a.name b)) (some false)
def jy:Nat->(T->Y8->Z4):=qh (λ _ _=>none) λ m _=>ql4 m
def qf2(m:Nat)(b:T):Z27 :=
 qa (qb b.kids 0) λ a=>let j1:Z27:=(some (re b));let j2:Z27:=(qa (qb a.kids 0) λ I=>some (re I));let j3:Z27:=(cond (qx b.name [114,101,97,100])
 (qa (jy m (re a) [115,105,103,110]) λ p=>cond p j2 j1) j1);let j4:Z27:=(qa (jy m (re a) [112,97,105,114]) λ G=>cond G (qa (qb a.kids 1) λ F=>some (re F)) j1);
 let B:Z27:=(qa (jy m (re a) [112,97,105,114]) λ J=>cond J j2 j1);cond (ilt 1 b.kids.length) (qa (qb b.kids 1) λ c =>
 cond (qx b.name [102,115,116]) B (cond (qx b.name [115,110,100]) j4 (cond (qx b.name [100,101,99]) (qa (jy m (re a) [101,110,99]) λ E=>cond E (qa (qb a.kids 1) λ D =>
 qa (J7 m (re D) (re c)) λ C=>cond C j2 j1) j1) (cond (qx b.name [97,100,101,99]) (qa (jy m (re a) [97,101,110,99]) λ A=>cond A (qa (qb a.kids 1) λ z =>
 qa (jy m (re z) [112,107]) λ y=>cond y (qa (qb a.kids 1) λ x=>qa (qb x.kids 0) λ w=>qa (J7 m (re w) (re c)) λ v=>cond v j2 j1) j1) j1)
 (cond (qx b.name [111,112,101,110]) (qa (jy m (re a) [115,105,103,110]) λ u=>cond u (qa (jy m (re c) [112,107]) λ t=>cond t (qa (qb a.kids 1) λ s =>
 qa (qb c.kids 0) λ r=>qa (J7 m (re s) (re r)) λ q=>cond q j2 j1) j1) j1) j3)))))
 (cond (qx b.name [102,115,116]) B (cond (qx b.name [115,110,100]) j4 (cond (qx b.name [100,101,99]) (qa (jy m (re a) [101,110,99]) λ o=>cond o (qa (qb a.kids 1) λ n =>
 qa (J7 m (re n) (T.mk 0 [] 0 [])) λ l=>cond l j2 j1) j1) (cond (qx b.name [97,100,101,99]) (qa (jy m (re a) [97,101,110,99]) λ k =>
 cond k (qa (qb a.kids 1) λ j=>qa (jy m (re j) [112,107]) λ i=>cond i (qa (qb a.kids 1) λ h=>qa (qb h.kids 0) λ g=>qa (J7 m (re g)
 (T.mk 0 [] 0 [])) λ f=>cond f j2 j1) j1) j1) (cond (qx b.name [111,112,101,110]) (qa (jy m (re a) [115,105,103,110]) λ e =>
 cond e (qa (jy m (T.mk 0 [] 0 []) [112,107]) λ d=>cond d (qa (qb a.kids 1) λ H=>none) j1) j1) j3)))))
def qdd:Nat->Z28:=qh (λ _=>none) λ m _=>qf2 m
def je(m:Nat)(b:Z34)(c:Z35)(a:List TL):Z32 :=
 b a 0 a a.length 0
def jd(m:Nat)(i:Z34)(h:Z35)(c:List (TL))(b:Int)(e:List (TL))(d a:Int):Z32 :=
 cond (ilt a d) (qa (qb e a) λ f=>cond (ilt (iw .i64 (qe b f.length)) 0) none (i c (iw .i64 (qe b f.length)) e d (iw .i64 (qe a 1)))) (qa (yX 0 b) λ g =>
 h c c.length 0 g.2.1)
def jf(m:Nat)(g:Z34)(f:Z35)(d:List (TL))(c b:Int)(a:TL):Z32 :=
 cond (ilt b c) (qa (qb d b) λ e=>cond (zo (List.length a+List.length e) 56) (f d c (iw .i64 (qe b 1)) (a++e)) none) (some a)
def qn(m:Nat):=qJ ((λ _ _ _ _ _=>none,λ _ _ _ _=>none)) λ a=>(jd m a.1 a.2,jf m a.1 a.2)
def zP:Nat->((List TL)->Z32):=qh (λ _=>none) λ m _=>je m (qn m m).1 (qn m m).2
def qhV(m:Nat)(d:Z19)(b c:TL):Z13 :=
 cond (ilt 200 b.length) (some 3) (qa (zP m [b,c]) λ a=>d a a.length 0)
def qhw(m:Nat)(f:Z19)(c:TL)(b a:Int):Z13 :=
 cond (ilt a b) (qa (qb c a) λ e=>qa (yI m (re e)) λ d=>cond (qd (ieq d 0)) (some d) (f c b (iw .i64 (qe a 1)))) (some 0)
def qcl(m:Nat):=qJ (λ _ _ _=>none) λ a=>qhw m a
def qm8:Nat->(TL->TL->Z13):=qh (λ _ _=>none) λ m _=>qhV m (qcl m m)
def qi8(m:Nat)(c:Z36)(b a:TL):Z32 :=
 c b a []
def qjn(m:Nat)(d:Z36)(a b c:TL):Z32 :=
 let f:Z32:=(cond (zo (List.length c+List.length a) 56) (cond (zo (List.length (c++a)+List.length b) 56) (some ((c++a)++b)) none) none);cond (ilt 0 a.length) (cond (ilt 0 b.length)
 (qa (qb a 0) λ j=>qa (qb b 0) λ i=>qa (qA m (re j) (re i)) λ e=>cond (ilt e 0) (qa (qb a 0) λ h=>cond (zo (List.length c+1) 56) (cond (inb a.length a.length)
 (cond (inb 1 (Int.toNat a.length)) (d (QO a 1 a.length) b (c++[re h])) none) none) none) (cond (ilt 0 e) (qa (qb b 0) λ g=>cond (zo (List.length c+1) 56) (cond (inb b.length b.length)
 (cond (inb 1 (Int.toNat b.length)) (d a (QO b 1 b.length) (c++[re g])) none) none) none) (cond (inb a.length a.length) (cond (inb 1 (Int.toNat a.length)) (cond (inb b.length b.length)
 (cond (inb 1 (Int.toNat b.length)) (d (QO a 1 a.length) (QO b 1 b.length) c) none) none) none) none))) f) f
def qdj(m:Nat):=qJ (λ _ _ _=>none) λ a=>qjn m a
def qlY:Nat->(TL->TL->Z32):=qh (λ _ _=>none) λ m _=>qi8 m (qdj m m)
def qet(m:Nat)(a:Z33)(d:Z37)(b:T):Z32 :=
 let c:Z32:=(cond (ieq b.kind 3) (cond (qx b.name [120,111,114]) (d [] b.kids b.kids.length 0) (some [re b])) (some [re b]));cond (ieq b.kind 3) (cond (qx b.name [122,101,114,111])
 (cond (ieq b.kids.length 0) (some []) c) c) c
def qez(m:Nat)(a:Z33)(i:Z37)(e d:TL)(c b:Int):Z32 :=
 cond (ilt b c) (qa (qb d b) λ h=>qa (a (re h)) λ g=>qa (qlY m e g) λ f=>i f d c (iw .i64 (qe b 1))) (some e)
def QT(m:Nat)(a:Z33):=qJ (λ _ _ _ _=>none) λ b=>qez m a b
def yG:Nat->Z33:=qh (λ _=>none) λ m a=>qet m a (QT m a m)
def qeu(m:Nat)(e:Z40)(d:T)(c:List Int)(b:T):Z38 :=
 qa (jC m (re d)) λ a=>e c c.length 0 b.kind b.name b.sort b.kids 0 [] 0 a.kind a.name a.sort a.kids []
def qhn(m:Nat)(t:Z40)(n:List (Int))(l c g:Int)(f:Y8)(e:Int)(d:TL)(r:Int)(q:Y8)(p k:Int)(j:Y8)(i:Int)(a h:TL):Z38 :=
 cond (ilt c l) (qa (qb n c) λ b=>cond (ilt b 0) (some (T.mk 0 [] 0 [],7)) (cond (ile a.length b) (some (T.mk 0 [] 0 [],7)) (qa (qb a b) λ s=>none)))
 (qa (jC m (T.mk g f e d)) λ o=>some (re o,0))
def qa7(m:Nat):=qJ (λ _ _ _ _ _ _ _ _ _ _ _ _ _ _ _=>none) λ a=>qhn m a
def qhD:Nat->(T->(List Int)->T->Z38):=qh (λ _ _ _=>none) λ m _=>qeu m (qa7 m m)
def qkM(m:Nat)(a:Z41)(c:Z42)(b:TL):Z32 :=
 cond (qG9 b.length 56) (c b b.length 0 (List.replicate (Int.toNat b.length) (T.mk 0 [] 0 []):TL)) none
def qkI(m:Nat)(b:Z41)(k:Z42)(h:TL)(g a:Int)(d:TL):Z32 :=
 cond (ilt a g) (qa (qb h a) λ f=>qa (qhD m (re f) [] (re f)) λ e=>qa (qb d a) λ l=>qa (b f.kids) λ j=>qa (qb (yq d a (re e.1)) a) λ c =>
 cond (ieq f.kids.length 0) (qa (qb (yq (yq d a (re e.1)) a (T.mk c.kind c.name c.sort j)) a) λ i=>k h g (iw .i64 (qe a 1))
 (yq (yq (yq d a (re e.1)) a (T.mk c.kind c.name c.sort j)) a (T.mk i.kind i.name i.sort []))) (k h g (iw .i64 (qe a 1)) (yq (yq d a (re e.1)) a (T.mk c.kind c.name c.sort j))))
 (some d)
def qe7(m:Nat)(a:Z41):=qJ (λ _ _ _ _=>none) λ b=>qkI m a b
def qaq:Nat->Z41:=qh (λ _=>none) λ m a=>qkM m a (qe7 m a m)
def qkZ(m:Nat)(c:Z43)(a:TL):Z38 :=
 qa (qm8 m a []) λ b=>cond (qd (ieq b 0)) (some (T.mk 0 [] 0 [],b)) (c [] a a.length 0 0 [] 0 [])
def qkK(m:Nat)(r:Z43)(e d:TL)(c b j:Int)(i:Y8)(h:Int)(g:TL):Z38 :=
 cond (ilt b c) (qa (qb d b) λ q=>qa (yG m (re q)) λ p=>qa (qlY m e p) λ o=>r o d c (iw .i64 (qe b 1)) j i h g) (qa (qaq m e) λ a=>let j1:Z38 :=
 (some (T.mk 0 [] 0 [],3));cond (ieq a.length 0) (qa (yI m (T.mk 3 [122,101,114,111] 0 [])) λ n=>cond (qd (ieq n 0)) j1 (some (T.mk 3 [122,101,114,111] 0 [],0))) (cond (ieq a.length 1)
 (qa (qb a 0) λ f=>qa (yI m (re f)) λ l=>cond (qd (ieq l 0)) j1 (some (re f,0))) (qa (yI m (T.mk 3 [120,111,114] 0 a)) λ k =>
 cond (qd (ieq k 0)) j1 (some (T.mk 3 [120,111,114] 0 a,0)))))
def qeL(m:Nat):=qJ (λ _ _ _ _ _ _ _ _=>none) λ a=>qkK m a
def qsI:Nat->(TL->Z38):=qh (λ _=>none) λ m _=>qkZ m (qeL m m)
def qeK(m:Nat)(a:T):Z4 :=
 cond (ieq a.kind 3) (cond (qx a.name [109,117,108]) (some true) (cond (qx a.name [105,110,118]) (some true) (some (qx a.name [111,110,101])))) (some false)
def qcg:Nat->Z44:=qh (λ _=>none) λ m _=>qeK m
def qcJ(m:Nat)(a:Z28)(d:Z45)(b:T):Z27 :=
 qa (zZ 0 b.kids) λ c=>d c.2.1.length 0 b.kind b.name b.sort 0 [] 0 c.2.1 []
def qcT(m:Nat)(a:Z28)(o:Z45)(g b f:Int)(e:Y8)(d k:Int)(j:Y8)(i:Int)(c h:TL):Z27 :=
 cond (ilt b g) (qa (qb c b) λ n=>qa (a (re n)) λ l=>qa (qb c b) λ p=>o g (iw .i64 (qe b 1)) f e d k j i (yq c b (re l)) h) (some (T.mk f e d c))
def QM(m:Nat)(a:Z28):=qJ (λ _ _ _ _ _ _ _ _ _ _=>none) λ b=>qcT m a b
def zu:Nat->Z28:=qh (λ _=>none) λ m a=>qcJ m a (QM m a m)
def qdD(m:Nat)(c:T × Int)(b:T):Z13 :=
 qa (qA m (re c.1) (re b)) λ a=>some a
def qaG:Nat->((T × Int)->T->Z13):=qh (λ _ _=>none) λ m _=>qdD m
def qG(m:Nat)(c:Z48)(b:List (T × Int))(a:T):Z46 :=
 c b b.length 0 b.length a.kind a.name a.sort a.kids
def qH(m:Nat)(k:Z48)(g:List (T × Int))(h a b f:Int)(e:Y8)(d:Int)(c:TL):Z46 :=
 cond (ilt a b) (qa (qb g (iw .i64 (qbP .u64 (iw .u64 (iw .i64 (qe a b))) 1))) λ j=>qa (qaG m (re j.1,j.2) (T.mk f e d c)) λ n=>cond (ilt n 0)
 (k g h (iw .i64 (qe (iw .i64 (qbP .u64 (iw .u64 (iw .i64 (qe a b))) 1)) 1)) b f e d c) (k g h a (iw .i64 (qbP .u64 (iw .u64 (iw .i64 (qe a b))) 1)) f e d c)) (cond (ilt a h)
 (qa (qb g a) λ i=>qa (qaG m (re i.1,i.2) (T.mk f e d c)) λ l=>some (a,ieq l 0)) (some (a,false)))
def qs(m:Nat):=qJ (λ _ _ _ _ _ _ _ _=>none) λ a=>qH m a
def qK:Nat->(Z47->T->Z46):=qh (λ _ _=>none) λ m _=>qG m (qs m m)
def qeP(m:Nat)(b:List (T × Int))(c:T × Int):Z49 :=
 qa (qK m b (re c.1)) λ a=>cond (qd a.2) (qa (zu m (re c.1)) λ i =>
 qa (zx 0 b a.1 [(re i,c.2)]) λ h=>some ((()),(h.2.1,()))) (qa (qb b a.1) λ e=>qa (qb b a.1) λ d =>
 qa (qb (yq b a.1 (re d.1,iw .i64 (qe e.2 c.2))) a.1) λ g=>cond (ieq g.2 0)
 (qa (zA 0 (yq b a.1 (re d.1,iw .i64 (qe e.2 c.2))) a.1 (iw .i64 (qe a.1 1))) λ f=>some ((()),(f.2.1,())))
 (some ((()),(yq b a.1 (re d.1,iw .i64 (qe e.2 c.2)),()))))
def qb6:Nat->(Z47->(T × Int)->Z49):=qh (λ _ _=>none) λ m _=>qeP m
def qbD(m:Nat)(a:Z51)(h:Z52)(e:List (T × Int))(b:T)(d:Int):Z50 :=
 qa (qcg m (re b)) λ j=>cond (qd j) (qa (qb6 m e (re b,d)) λ i=>some ((()),(i.2.1,true,()))) (let c:Z50:=(some ((()),([],false,())));let j2:Z50 :=
 (let g:Z50:=(let f:Z50:=(cond (qx b.name [105,110,118]) (h (iw .i64 (zp 0 d)) b.kids b.kids.length 0 e) (h d b.kids b.kids.length 0 e));cond (qx b.name [109,117,108])
 (cond (ilt b.kids.length 2) c f) f);cond (qx b.name [105,110,118]) (cond (qd (ieq b.kids.length 1)) c g) g);cond (qx b.name [111,110,101]) (cond (qd (ieq b.kids.length 0)) c j2) j2)
def qbF(m:Nat)(a:Z51)(i:Z52)(f:Int)(e:TL)(d b:Int)(c:List (T × Int)):Z50 :=
 cond (ilt b d) (qa (qb e b) λ h=>qa (a c (re h) f) λ g=>cond (qd g.2.2.1) (some ((()),([],false,()))) (i f e d (iw .i64 (qe b 1)) g.2.1))
 (some ((()),(c,true,())))
def jv(m:Nat)(a:Z51):=qJ (λ _ _ _ _ _=>none) λ b=>qbF m a b
def zq:Nat->Z51:=qh (λ _ _ _=>none) λ m a=>qbD m a (jv m a m)
def qi1(m:Nat)(c:T):Z53 :=
 qa (yI m (re c)) λ b=>cond (qd (ieq b 0)) (some ([],b)) (qa (zq m [] (re c) 1) λ a=>cond (qd a.2.2.1) (some ([],6)) (cond (ilt 200 a.2.1.length) (some ([],3))
 (some (a.2.1,0))))
def qcj:Nat->Z54:=qh (λ _=>none) λ m _=>qi1 m
def qcG(m:Nat)(b:Z55)(a:List (T × Int)):Z13 :=
 cond (ilt 200 a.length) (some 3) (b a a a.length 0)
def qcR(m:Nat)(g:Z55)(e d:List (T × Int))(c a:Int):Z13 :=
 cond (ilt a c) (qa (qb d a) λ b=>qa (yI m (re b.1)) λ f=>cond (qd (ieq f 0)) (some f) (qa (qcg m (re b.1)) λ j=>cond j (some 1) (cond (ieq b.2 0) (some 7)
 (cond (ilt b.2 (-1000)) (some 7) (cond (ilt 1000 b.2) (some 7) (cond (ilt 0 a) (qa (qb e (iw .i64 (zp a 1))) λ i=>qa (qA m (re i.1) (re b.1)) λ h=>cond (ile 0 h) (some 5)
 (g e d c (iw .i64 (qe a 1)))) (g e d c (iw .i64 (qe a 1))))))))) (some 0)
def j7(m:Nat):=qJ (λ _ _ _ _=>none) λ a=>qcR m a
def qa6:Nat->Z56:=qh (λ _=>none) λ m _=>qcG m (j7 m m)
def qv4(m:Nat)(b:Y8)(a:TL):Z27 :=
 some (T.mk 3 b 0 a)
def qeR:Nat->Z57:=qh (λ _ _=>none) λ m _=>qv4 m
def qds(m:Nat)(c:Z58)(e d:Z59)(a:List (T × Int)):Z38 :=
 qa (qa6 m a) λ b=>cond (qd (ieq b 0)) (some (T.mk 0 [] 0 [],b)) (c a a.length 0 0 [] 0 [] [] [])
def qdJ(m:Nat)(v:Z58)(t u:Z59)(h:List (T × Int))(g c s:Int)(r:Y8)(q:Int)(p f e:TL):Z38 :=
 let d:Z38:=(some (T.mk 0 [] 0 [],3));cond (ilt c g) (qa (qb h c) λ a =>
 cond (ilt 8 a.2) d (cond (ilt a.2 (-8)) d (t h g c a.2 0 s r q a.1.kind a.1.name a.1.sort a.1.kids a.2 p f e))) (qa (zP m [f,e]) λ b =>
 cond (ilt 8 b.length) d (qa (qeR m [109,117,108] b) λ o=>cond (ieq b.length 0) (qa (qeR m [111,110,101] []) λ n=>qa (yI m (re n)) λ l=>cond (qd (ieq l 0))
 (some (T.mk 0 [] 0 [],l)) (some (re n,0))) (cond (ieq b.length 1) (qa (qb b 0) λ k=>qa (yI m (re k)) λ j=>cond (qd (ieq j 0)) (some (T.mk 0 [] 0 [],j)) (some (re k,0)))
 (qa (yI m (re o)) λ i=>cond (qd (ieq i 0)) (some (T.mk 0 [] 0 [],i)) (some (re o,0))))))
def qdk(m:Nat)(u:Z58)(t s:Z59)(q:List (T × Int))(p o n l k:Int)(j:Y8)(i h:Int)(g:Y8)(d:Int)(c:TL)(b:Int)(f a e:TL):Z38 :=
 cond (ilt l n) (qa (zu m (T.mk h g d c)) λ r=>cond (zo (List.length a+1) 56) (t q p o n (iw .i64 (qe l 1)) k j i h g d c b f (a++[re r]) e) none)
 (s q p o (iw .i64 (zp 0 b)) 0 k j i h g d c b f a e)
def qdr(m:Nat)(u:Z58)(v t:Z59)(q:List (T × Int))(p o n l k:Int)(j:Y8)(i h:Int)(g:Y8)(e:Int)(d:TL)(f:Int)(c b a:TL):Z38 :=
 cond (ilt l n) (qa (zu m (T.mk h g e d)) λ s=>qa (qeR m [105,110,118] [re s]) λ r=>cond (zo (List.length a+1) 56)
 (t q p o n (iw .i64 (qe l 1)) k j i h g e d f c b (a++[re r])) none) (u q p (iw .i64 (qe o 1)) k j i c b a)
def qz(m:Nat):=qJ ((λ _ _ _ _ _ _ _ _ _=>none,λ _ _ _ _ _ _ _ _ _ _ _ _ _ _ _ _=>none,λ _ _ _ _ _ _ _ _ _ _ _ _ _ _ _ _=>none)) λ a=>(qdJ m a.1 a.2.1 a.2.2,qdk m a.1 a.2.1 a.2.2,qdr m a.1 a.2.1 a.2.2)
def Ju:Nat->Z60:=qh (λ _=>none) λ m _=>qds m (qz m m).1 (qz m m).2.1 (qz m m).2.2
def qcf(m:Nat)(b:Z61)(a:List (T × Int)):Z49 :=
 b a a.length 0 []
def qb4(m:Nat)(g:Z61)(d:List (T × Int))(c b:Int)(a:List (T × Int)):Z49 :=
 cond (ilt b c) (qa (qb d b) λ e=>qa (zu m (re e.1)) λ f=>cond (zo (List.length a+1) 64) (g d c (iw .i64 (qe b 1)) (a++[(re f,e.2)])) none) (some ((()),(a,())))
def Qk(m:Nat):=qJ (λ _ _ _ _=>none) λ a=>qb4 m a
def qef:Nat->(Z47->Z49):=qh (λ _=>none) λ m _=>qcf m (Qk m m)
def qdO(m:Nat)(a:T × Int):Z4 :=
 cond (ilt a.2 (-1000)) (some true) (some (ilt 1000 a.2))
def qcK:Nat->((T × Int)->Z4):=qh (λ _=>none) λ m _=>qdO m
def zF(m:Nat)(b:Z62)(a:List (T × Int)):Z13 :=
 b a a.length 0
def qZ(m:Nat)(f:Z62)(c:List (T × Int))(b a:Int):Z13 :=
 cond (ilt a b) (qa (qb c a) λ d=>qa (qcK m (re d.1,d.2)) λ e=>cond e (some a) (f c b (iw .i64 (qe a 1)))) (some (-1))
def qB(m:Nat):=qJ (λ _ _ _=>none) λ a=>qZ m a
def zU:Nat->Z56:=qh (λ _=>none) λ m _=>zF m (qB m m)
def yk(m:Nat)(b:List (T × Int)):Z4 :=
 qa (zU m b) λ a=>some (ile 0 a)
def zC:Nat->(Z47->Z4):=qh (λ _=>none) λ m _=>yk m
def qeU(m:Nat)(a:List (T × Int)):Z53 :=
 qa (zC m a) λ b=>cond b (some ([],7)) (cond (ilt 200 a.length) (some ([],3)) (some (a,0)))
def qeg:Nat->(Z47->Z53):=qh (λ _=>none) λ m _=>qeU m
def qeo(m:Nat)(f:Z63)(d a:List (T × Int)):Z53 :=
 qa (qa6 m d) λ c=>cond (qd (ieq c 0)) (some ([],c)) (qa (qa6 m a) λ b=>cond (qd (ieq b 0)) (some ([],b)) (qa (qef m d) λ e =>
 f a a.length 0 e.2.1))
def qeE(m:Nat)(h:Z63)(d:List (T × Int))(c a:Int)(b:List (T × Int)):Z53 :=
 cond (ilt a c) (qa (qb d a) λ f=>qa (qb6 m b (re f.1,f.2)) λ g=>h d c (iw .i64 (qe a 1)) g.2.1) (qa (qeg m b) λ e=>some (e.1,e.2))
def JY(m:Nat):=qJ (λ _ _ _ _=>none) λ a=>qeE m a
def qhq:Nat->Z64:=qh (λ _ _=>none) λ m _=>qeo m (JY m m)
def qz8(m:Nat)(b:Y8)(a:TL):Z27 :=
 some (T.mk 3 b 0 a)
def qhz:Nat->Z57:=qh (λ _ _=>none) λ m _=>qz8 m
def qhx(m:Nat)(b l:T):Z38 :=
 qa (qcj m (re l)) λ a=>cond (qd (ieq a.2 0)) (some (T.mk 0 [] 0 [],a.2)) (qa (jy m (re b) [101,120,112]) λ k=>cond k (qa (qb b.kids 1) λ j =>
 qa (qcj m (re j)) λ f=>cond (qd (ieq f.2 0)) (some (T.mk 0 [] 0 [],f.2)) (qa (qhq m f.1 a.1) λ c=>cond (qd (ieq c.2 0)) (some (T.mk 0 [] 0 [],c.2))
 (qa (qb b.kids 0) λ h=>cond (ieq c.1.length 0) (some (re h,0)) (qa (Ju m c.1) λ e=>cond (qd (ieq e.2 0)) (some (T.mk 0 [] 0 [],e.2))
 (qa (qhz m [101,120,112] [re h,re e.1]) λ i=>some (re i,0)))))) (cond (ieq a.1.length 0) (some (re b,0)) (qa (Ju m a.1) λ d=>cond (qd (ieq d.2 0))
 (some (T.mk 0 [] 0 [],d.2)) (qa (qhz m [101,120,112] [re b,re d.1]) λ g=>some (re g,0)))))
def qhm:Nat->Z65:=qh (λ _ _=>none) λ m _=>qhx m
def qdx(m:Nat)(a:Z66)(c:Z67)(b:T):Z38 :=
 cond (qd (ieq b.kind 3)) (some (re b,0)) (c b.kids b.kids.length 0 b.kind b.name b.sort b.kids 0 [] 0 3 b.name 0 [] [])
def qdq(m:Nat)(a:Z66)(C:Z67)(s:TL)(r k z:Int)(c:Y8)(y:Int)(x:TL)(w:Int)(v:Y8)(u f:Int)(e:Y8)(d:Int)(l b:TL):Z38 :=
 cond (ilt k r) (qa (qb s k) λ B=>qa (a (re B)) λ n=>cond (qd (ieq n.2 0)) (some (T.mk 0 [] 0 [],n.2)) (cond (zo (List.length b+1) 56)
 (C s r (iw .i64 (qe k 1)) z c y x w v u f e d l (b++[re n.1])) none)) (let h:Z38:=(qa (qdd m (T.mk f e d b)) λ A=>some (re A,0));
 cond (qx c [102,115,116]) h (cond (qx c [115,110,100]) h (cond (qx c [100,101,99]) h (cond (qx c [97,100,101,99]) h (cond (qx c [111,112,101,110]) h (cond (qx c [114,101,97,100]) h (cond (qx c [120,111,114])
 (qa (qsI m b) λ t=>some (re t.1,t.2)) (let q:Z38:=(qa (qcj m (T.mk f e d b)) λ g=>cond (qd (ieq g.2 0)) (some (T.mk 0 [] 0 [],g.2))
 (qa (Ju m g.1) λ j=>some (re j.1,j.2)));cond (qx c [109,117,108]) q (cond (qx c [105,110,118]) q (cond (qx c [111,110,101]) q (cond (qx c [101,120,112])
 (qa (qb b 0) λ p=>qa (qb b 1) λ o=>qa (qhm m (re p) (re o)) λ i=>some (re i.1,i.2)) (some (T.mk f e d b,0)))))))))))))
def Jm(m:Nat)(a:Z66):=qJ (λ _ _ _ _ _ _ _ _ _ _ _ _ _ _ _=>none) λ b=>qdq m a b
def yE:Nat->Z66:=qh (λ _=>none) λ m a=>qdx m a (Jm m a m)
def qgZ(m:Nat)(d:T):Z38 :=
 qa (qeW m (re d)) λ c=>cond (qd (ieq c 0)) (some (T.mk 0 [] 0 [],c)) (qa (yE m (re d)) λ a=>cond (ieq a.2 0) (qa (yI m (re a.1)) λ b=>cond (qd (ieq b 0))
 (some (T.mk 0 [] 0 [],b)) (some (re a.1,0))) (cond (qd (ieq a.2 0)) (some (T.mk 0 [] 0 [],a.2)) (some (re a.1,0))))
def qgk:Nat->Z66:=qh (λ _=>none) λ m _=>qgZ m
def qfY(m:Nat)(b:Y8):Z4 :=
 qa (qdS m b) λ a=>some (qd (ieq a.2.2.2 3))
def qfg:Nat->Z8:=qh (λ _=>none) λ m _=>qfY m
def qat(m:Nat)(a:Z44)(c:Z68)(b:T):Z4 :=
 cond (ieq b.kind 3) (qa (qfg m b.name) λ d=>cond (qd d) (some false) (c b.kids b.kids.length 0)) (c b.kids b.kids.length 0)
def qar(m:Nat)(a:Z44)(g:Z68)(d:TL)(c b:Int):Z4 :=
 cond (ilt b c) (qa (qb d b) λ f=>qa (a (re f)) λ e=>cond (qd e) (some false) (g d c (iw .i64 (qe b 1)))) (some true)
def yJ(m:Nat)(a:Z44):=qJ (λ _ _ _=>none) λ b=>qar m a b
def zc:Nat->Z44:=qh (λ _=>none) λ m a=>qat m a (yJ m a m)
def qhi(m:Nat)(a:T):Z4 :=
 qa (qgk m (re a)) λ b=>cond (ieq b.2 0) (qa (J7 m (re b.1) (re a)) λ d=>cond d (qa (zc m (re a)) λ c=>some c) (some false)) (some false)
def qeT:Nat->Z44:=qh (λ _=>none) λ m _=>qhi m
def qbb(m:Nat)(b:Y8 × (Int × Int))(a:T):Z69 :=
 some ((re a,()),(qx b.1 a.name,()))
def qc5:Nat->((Y8 × (Int × Int))->T->Z69):=qh (λ _ _=>none) λ m _=>qbb m
def qQ(m:Nat)(c:Z71)(b:List (Y8 × (Int × Int)))(a:T):Z70 :=
 c b b.length 0 a.kind a.name a.sort a.kids
def qP(m:Nat)(j:Z71)(i:List (Y8 × (Int × Int)))(h b g:Int)(f:Y8)(e:Int)(d:TL):Z70 :=
 cond (ilt b h) (qa (qb i b) λ c=>qa (qc5 m (c.1,(c.2.1,c.2.2)) (T.mk g f e d)) λ a=>cond a.2.1 (some ((re a.1.1,()),(b,())))
 (j i h (iw .i64 (qe b 1)) a.1.1.kind a.1.1.name a.1.1.sort a.1.1.kids)) (some ((T.mk g f e d,()),((-1),())))
def qu(m:Nat):=qJ (λ _ _ _ _ _ _ _=>none) λ a=>qP m a
def q9:Nat->((List (Y8 × (Int × Int)))->T->Z70):=qh (λ _ _=>none) λ m _=>qQ m (qu m m)
def qea(m:Nat):Z72 :=
 some [([112,97,105,114],(2,2)),([101,110,99],(2,2)),([97,101,110,99],(2,2)),([112,107],(1,1)),([115,105,103,110],(2,2)),([104,97,115,104],(1,1)),([120,111,114],(2,8)),([122,101,114,111],(0,0)),([101,120,112],(2,2)),([109,117,108],(2,8)),([105,110,118],(1,1)),([111,110,101],(0,0)),([115,107],(1,1)),([115,104,107],(2,2)),([110,101,119],(1,8))]
def yp:Nat->(Z72):=qh (none) λ m _=>qea m
def QE(m:Nat)(a:Y8 × (Int × Int)):Z4 :=
 some (qd (ieq a.2.1 a.2.2))
def yz:Nat->((Y8 × (Int × Int))->Z4):=qh (λ _=>none) λ m _=>QE m
def qcQ(m:Nat)(a:Z74)(f:Z75)(d:List (Int))(c:T):Z73 :=
 cond (qd (ieq c.kind 3)) (cond (zo (List.length d+2) 1) (cond (zo (List.length (d++[iw .u8 c.sort,iw .u8 c.name.length])+List.length (Qx c.name)) 1)
 (some ((()),((d++[iw .u8 c.sort,iw .u8 c.name.length])++(Qx c.name),()))) none) none) (qa (yp m) λ i =>
 qa (q9 m i (re c)) λ b=>cond (zo (List.length d+1) 1) (qa (yp m) λ h=>qa (qb h b.2.1) λ e =>
 qa (yz m (e.1,(e.2.1,e.2.2))) λ g=>cond g (cond (zo (List.length (d++[iw .u8 (iw .i64 (qe 16 b.2.1))])+1) 1)
 (f b.1.1.kids b.1.1.kids.length 0 ((d++[iw .u8 (iw .i64 (qe 16 b.2.1))])++[iw .u8 b.1.1.kids.length])) none) (f b.1.1.kids b.1.1.kids.length 0 (d++[iw .u8 (iw .i64 (qe 16 b.2.1))]))) none)
def qcE(m:Nat)(a:Z74)(h:Z75)(e:TL)(d b:Int)(c:List (Int)):Z73 :=
 cond (ilt b d) (qa (qb e b) λ g=>qa (a c (re g)) λ f=>h e d (iw .i64 (qe b 1)) f.2.1) (some ((()),(c,())))
def jY(m:Nat)(a:Z74):=qJ (λ _ _ _ _=>none) λ b=>qcE m a b
def zV:Nat->Z74:=qh (λ _ _=>none) λ m a=>qcQ m a (jY m a m)
def qe1(m:Nat)(a:T):Z76 :=
 qa (qeW m (re a)) λ b=>cond (qd (ieq b 0)) (some ([],b)) (qa (qnN m (re a)) λ e=>cond (ilt 0 e.length) (some ([],13)) (qa (qeT m (re a)) λ d=>cond (qd d)
 (some ([],10)) (qa (zV m [] (re a)) λ c=>some (qC c.2.1,0))))
def qek:Nat->(T->Z76):=qh (λ _=>none) λ m _=>qe1 m
def qck(m:Nat)(b:(Int) × (List (Int × (Int × (Y8 × Bool)))) × Unit)(a:Int × (Int × (Y8 × Bool))):Z77 :=
 cond (ile 400 b.2.1.length) (some (((b.1,b.2.1,()),()),(0,3,()))) (cond (zo (List.length b.2.1+1) 40)
 (some (((b.1,b.2.1++[(a.1,(a.2.1,(a.2.2.1,a.2.2.2)))],()),()),(iw .i64 (zp (List.length (b.2.1++[(a.1,(a.2.1,(a.2.2.1,a.2.2.2)))])) 1),0,()))) none)
def JP:Nat->(Z3->(Int × (Int × (Y8 × Bool)))->Z77):=qh (λ _ _=>none) λ m _=>qck m
def qgh(m:Nat)(b:Z78)(a:Y8):Z13 :=
 b a 1 0 a.length 0
def qgD(m:Nat)(g:Z78)(e:Y8)(b d c a:Int):Z13 :=
 cond (ilt a c) (qa (qb e a) λ f=>g e (ye (iw .u32 (qe b (iw .u32 ((UInt8.toNat f:Nat):Int)))) 65521)
 (ye (iw .u32 (qe d (ye (iw .u32 (qe b (iw .u32 ((UInt8.toNat f:Nat):Int)))) 65521))) 65521) c (iw .i64 (qe a 1))) (some (qmr .or .u32 (qx2 .u32 d 16) b))
def qbn(m:Nat):=qJ (λ _ _ _ _ _=>none) λ a=>qgD m a
def qkX:Nat->Z79:=qh (λ _=>none) λ m _=>qgh m (qbn m m)
def qmf(m:Nat)(b:Y8):Z80 :=
 qa (qkX m b) λ a=>cond (qgE (qC [iw .u8 (qbP .u32 a 24),iw .u8 (qbP .u32 a 16),iw .u8 (qbP .u32 a 8),iw .u8 a]) b)
 (some ((qC [iw .u8 (qbP .u32 a 24),iw .u8 (qbP .u32 a 16),iw .u8 (qbP .u32 a 8),iw .u8 a])++b)) none
def qjL:Nat->(Y8->Z80):=qh (λ _=>none) λ m _=>qmf m
def qbQ(m:Nat)(g:(Int) × (List (Int × (Int × (Y8 × Bool)))) × Unit)(f e:Int)(i:T):Z77 :=
 qa (QU m (g.1,g.2.1,()) f) λ b=>cond (qd b.2.1) (some (((b.1.1.1,b.1.1.2.1,()),()),(0,7,()))) (qa (QU m (b.1.1.1,b.1.1.2.1,()) e) λ a =>
 cond (qd a.2.1) (some (((a.1.1.1,a.1.1.2.1,()),()),(0,7,()))) (cond (ile 400 a.1.1.2.1.length) (some (((a.1.1.1,a.1.1.2.1,()),()),(0,3,()))) (qa (qek m (re i)) λ d =>
 cond (qd (ieq d.2 0)) (some (((a.1.1.1,a.1.1.2.1,()),()),(0,d.2,()))) (qa (qjL m d.1) λ h=>qa (JP m (a.1.1.1,a.1.1.2.1,()) (f,(e,(h,true)))) λ c =>
 some (((c.1.1.1,c.1.1.2.1,()),()),(c.2.1,c.2.2.1,()))))))
def jH:Nat->Z81:=qh (λ _ _ _ _=>none) λ m _=>qbQ m
def qav(m:Nat)(a:(Int) × (List (Int × (Int × (Y8 × Bool)))) × Unit)(b:Int):Z82 :=
 cond (ilt b 0) (some (((a.1,a.2.1,()),()),(none,4,()))) (cond (ile a.2.1.length b) (some (((a.1,a.2.1,()),()),(none,4,()))) (qa (qb a.2.1 b) λ c=>cond (qd c.2.2.2)
 (some (((a.1,a.2.1,()),()),(none,9,()))) (qa (qb a.2.1 b) λ d=>some (((a.1,a.2.1,()),()),(some b,0,())))))
def jz:Nat->(Z3->Int->Z82):=qh (λ _ _=>none) λ m _=>qav m
def qbq(m:Nat)(e:(Int) × (List (Int × (Int × (Y8 × Bool)))) × Unit)(g c f:Int):Z83 :=
 qa (jz m (e.1,e.2.1,()) g) λ a=>let j1:Z83:=(some (((a.1.1.1,a.1.1.2.1,()),()),(7,())));qhr a.2.1 (cond (qd (ieq a.2.2.1 0))
 (some (((a.1.1.1,a.1.1.2.1,()),()),(a.2.2.1,()))) (cond (ilt c 0) j1 none)) λ d=>qa (qb a.1.1.2.1 d) λ b=>cond (qd (ieq a.2.2.1 0)) (some (((a.1.1.1,a.1.1.2.1,()),()),(a.2.2.1,())))
 (cond (ilt c 0) j1 (cond (ile b.2.2.1.length c) j1 (qa (qb (Qx b.2.2.1) c) λ h =>
 some (((a.1.1.1,yq a.1.1.2.1 d (b.1,(b.2.1,(qC (yq (Qx b.2.2.1) c f),b.2.2.2))),()),()),(0,())))))
def Q0:Nat->Z84:=qh (λ _ _ _ _=>none) λ m _=>qbq m
def qlZ(m:Nat)(a:Y8):Z76 :=
 cond (ilt a.length 4) (some ([],2)) (cond (inb a.length a.length) (cond (inb 4 (Int.toNat a.length)) (qa (qjL m (QO a 4 a.length)) λ b=>cond (qd (qx b a)) (some ([],19))
 (cond (inb a.length a.length) (cond (inb 4 (Int.toNat a.length)) (some (QO a 4 a.length,0)) none) none)) none) none)
def qm2:Nat->(Y8->Z76):=qh (λ _=>none) λ m _=>qlZ m
def qbJ(m:Nat)(a:Y8 × (Int × Bool))(c g:Int):Z85 :=
 let b:Z85:=(some (((a.1,(a.2.1,true)),()),(c,())));cond a.2.2 b (cond (ile a.1.length a.2.1) b (qa (qb a.1 a.2.1) λ f =>
 cond (ilt (iw .i64 ((UInt8.toNat f:Nat):Int)) c) b (qa (qb a.1 a.2.1) λ e =>
 cond (ilt g (iw .i64 ((UInt8.toNat e:Nat):Int))) b (qa (qb a.1 (iw .i64 (zp (iw .i64 (qe a.2.1 1)) 1))) λ d =>
 some (((a.1,(iw .i64 (qe a.2.1 1),a.2.2)),()),(iw .i64 ((UInt8.toNat d:Nat):Int),()))))))
def zg:Nat->(Z86->Int->Int->Z85):=qh (λ _ _ _=>none) λ m _=>qbJ m
def JO(m:Nat)(c:Z88)(b:Y8 × (Int × Bool)):Z87 :=
 qa (zg m (b.1,(b.2.1,b.2.2)) 1 24) λ a=>c a.1.1.2.1 a.2.1 0 a.1.1.1 a.1.1.2.1 a.1.1.2.2
def Qh(m:Nat)(l:Z88)(g h f:Int)(c:Y8)(a:Int)(e:Bool):Z87 :=
 cond (ilt f h) (let d:Z87:=(some (((c,(a,true)),()),([],())));cond e d (cond (ile c.length a) d (qa (qb c a) λ b=>let j2:Z87 :=
 (l g h (iw .i64 (qe f 1)) c (iw .i64 (qe a 1)) e);let k:Z87:=(let j:Z87:=(cond (ieq f 0) d (let i:Z87:=(cond (qd (ieq ((UInt8.toNat b:Nat):Int) 95))
 (cond (qd (ieq ((UInt8.toNat b:Nat):Int) 35)) d j2) j2);cond (ilt ((UInt8.toNat b:Nat):Int) 48) i (cond (ilt 57 ((UInt8.toNat b:Nat):Int)) i j2)));cond (ile 65 ((UInt8.toNat b:Nat):Int))
 (cond (qd (ile ((UInt8.toNat b:Nat):Int) 90)) j j2) j);cond (ile 97 ((UInt8.toNat b:Nat):Int)) (cond (ile ((UInt8.toNat b:Nat):Int) 122) j2 k) k))) (cond (inb a c.length)
 (cond (inb g (Int.toNat a)) (some (((c,(a,e)),()),(QO c g a,()))) none) none)
def yi(m:Nat):=qJ (λ _ _ _ _ _ _=>none) λ a=>Qh m a
def Jd:Nat->(Z86->Z87):=qh (λ _=>none) λ m _=>JO m (yi m m)
def Qi(m:Nat)(a:Y8 × (Int × Bool)):Z89 :=
 let g:Z89:=(qa (yp m) λ j=>qa (yp m) λ i=>qa (zg m (a.1,(a.2.1,a.2.2)) 16 (iw .i64 (zp (iw .i64 (qe 16 i.length)) 1))) λ c =>
 qa (qb j (iw .i64 (zp c.2.1 16))) λ b=>qa (yz m (b.1,(b.2.1,b.2.2))) λ h =>
 cond h (qa (zg m (c.1.1.1,(c.1.1.2.1,c.1.1.2.2)) b.2.1 b.2.2) λ d=>some (((d.1.1.1,(d.1.1.2.1,d.1.1.2.2)),()),((3,b.1,0,[],d.2.1,()),())))
 (some (((c.1.1.1,(c.1.1.2.1,c.1.1.2.2)),()),((3,b.1,0,[],b.2.1,()),()))));cond (ilt a.2.1 a.1.length) (qa (qb a.1 a.2.1) λ k=>cond (ile ((UInt8.toNat k:Nat):Int) 5)
 (qa (zg m (a.1,(a.2.1,a.2.2)) 0 5) λ f=>qa (Jd m (f.1.1.1,(f.1.1.2.1,f.1.1.2.2))) λ e =>
 some (((e.1.1.1,(e.1.1.2.1,e.1.1.2.2)),()),((2,e.2.1,f.2.1,[],0,()),()))) g) g
def qw:Nat->(Z86->Z89):=qh (λ _=>none) λ m _=>Qi m
def jB:Nat->Val RD->Option ((Val RD × Unit) × (T × Unit)):=qh (λ _=>none) λ m _=>qpU (qw m) m
def qeM(m:Nat)(b:Y8):Z90 :=
 qa (jB m (b,(0,false))) λ a=>cond a.1.1.2.2 (some (T.mk 0 [] 0 [],a.1.1.2.1,2)) (cond (qd (ieq a.1.1.2.1 b.length)) (some (T.mk 0 [] 0 [],a.1.1.2.1,2))
 (qa (yI m (re a.2.1)) λ d=>cond (ieq d 3) (some (T.mk 0 [] 0 [],0,3)) (qa (qeT m (re a.2.1)) λ c=>cond (qd c) (some (T.mk 0 [] 0 [],0,10)) (some (re a.2.1,0,0)))))
def qen:Nat->Z91:=qh (λ _=>none) λ m _=>qeM m
def qaD(m:Nat)(f:(Int) × (List (Int × (Int × (Y8 × Bool)))) × Unit)(k:Int):Z92 :=
 qa (jz m (f.1,f.2.1,()) k) λ b=>qhr b.2.1 (cond (qd (ieq b.2.2.1 0)) (some (((b.1.1.1,b.1.1.2.1,()),()),(T.mk 0 [] 0 [],0,b.2.2.1,()))) none) λ c =>
 qa (qb b.1.1.2.1 c) λ a=>cond (qd (ieq b.2.2.1 0)) (some (((b.1.1.1,b.1.1.2.1,()),()),(T.mk 0 [] 0 [],0,b.2.2.1,())))
 (qa (qb (yq b.1.1.2.1 c (a.1,(a.2.1,(a.2.2.1,false)))) c) λ j=>qa (qm2 m j.2.2.1) λ e=>cond (qd (ieq e.2 0))
 (qa (qb (yq b.1.1.2.1 c (a.1,(a.2.1,(a.2.2.1,false)))) c) λ i=>some (((b.1.1.1,yq b.1.1.2.1 c (a.1,(a.2.1,(a.2.2.1,false))),()),()),(T.mk 0 [] 0 [],i.2.1,e.2,())))
 (qa (qen m e.1) λ d=>cond (qd (ieq d.2.2 0)) (qa (qb (yq b.1.1.2.1 c (a.1,(a.2.1,(a.2.2.1,false)))) c) λ h =>
 some (((b.1.1.1,yq b.1.1.2.1 c (a.1,(a.2.1,(a.2.2.1,false))),()),()),(T.mk 0 [] 0 [],h.2.1,d.2.2,()))) (qa (qb (yq b.1.1.2.1 c (a.1,(a.2.1,(a.2.2.1,false)))) c) λ g =>
 some (((b.1.1.1,yq b.1.1.2.1 c (a.1,(a.2.1,(a.2.2.1,false))),()),()),(re d.1,g.2.1,0,())))))
def z8:Nat->Z93:=qh (λ _ _=>none) λ m _=>qaD m
def qhL(m:Nat)(b a:Int):Z13 :=
 cond (ilt b a) (some (-1)) (cond (ilt a b) (some 1) (some 0))
def qbf:Nat->(Int->Int->Z13):=qh (λ _ _=>none) λ m _=>qhL m
def qgw(m:Nat)(a:Z14)(c:Z94)(b:T):Z13 :=
 c 1 0 b.kind b.name b.sort b.kids
def qgF(m:Nat)(a:Z14)(j:Z94)(d c g:Int)(f:Y8)(e:Int)(b:TL):Z13 :=
 cond (ilt c b.length) (qa (qb b c) λ i=>qa (a (re i)) λ h=>j (iw .i64 (qe d h)) (iw .i64 (qe c 1)) g f e b) (some d)
def qbg(m:Nat)(a:Z14):=qJ (λ _ _ _ _ _ _=>none) λ b=>qgF m a b
def ja:Nat->Z14:=qh (λ _=>none) λ m a=>qgw m a (qbg m a m)
def qdG(m:Nat)(a:Z24)(j:Z95)(c b:T):Z13 :=
 qa (ja m (re c)) λ i=>qa (ja m (re b)) λ h=>qa (qbf m i h) λ g=>cond (qd (ieq g 0)) (some g) (qa (qbf m c.kind b.kind) λ f =>
 cond (qd (ieq f 0)) (some f) (cond (slt c.name b.name) (some (-1)) (cond (qd (qrL (slt c.name b.name) (qx c.name b.name))) (some 1) (qa (qbf m c.sort b.sort) λ e=>cond (qd (ieq e 0))
 (some e) (qa (qbf m c.kids.length b.kids.length) λ d=>cond (qd (ieq d 0)) (some d) (j 0 c.kind c.name c.sort c.kids b.kind b.name b.sort b.kids))))))
def qdm(m:Nat)(a:Z24)(o:Z95)(b k:Int)(j:Y8)(i:Int)(c:TL)(h:Int)(g:Y8)(f:Int)(d:TL):Z13 :=
 cond (ilt b c.length) (qa (qb c b) λ n=>qa (qb d b) λ l=>qa (a (re n) (re l)) λ e=>cond (qd (ieq e 0)) (some e) (o (iw .i64 (qe b 1)) k j i c h g f d))
 (some 0)
def Ji(m:Nat)(a:Z24):=qJ (λ _ _ _ _ _ _ _ _ _=>none) λ b=>qdm m a b
def zM:Nat->Z24:=qh (λ _ _=>none) λ m a=>qdG m a (Ji m a m)
def qj6(m:Nat)(c b:T):Z4 :=
 qa (zM m (re c) (re b)) λ a=>some (ieq a 0)
def QF:Nat->Z26:=qh (λ _ _=>none) λ m _=>qj6 m
def qaS(m:Nat)(a:(Int) × (List (Int × (Int × (Y8 × Bool)))) × Unit)(d:Int):Z77 :=
 cond (ilt d 0) (some (((a.1,a.2.1,()),()),(0,4,()))) (cond (ile a.2.1.length d) (some (((a.1,a.2.1,()),()),(0,4,()))) (qa (qb a.2.1 d) λ c=>qa (JP m (a.1,a.2.1,())
 (c.1,(c.2.1,(c.2.2.1,true)))) λ b=>some (((b.1.1.1,b.1.1.2.1,()),()),(b.2.1,b.2.2.1,()))))
def Qt:Nat->Z96:=qh (λ _ _=>none) λ m _=>qaS m
def qAd(m:Nat)(b:Y8)(a:Int):Z27 :=
 some (T.mk 2 b a [])
def qvw:Nat->(Y8->Int->Z27):=qh (λ _ _=>none) λ m _=>qAd m
def qyI(m:Nat)(b:Y8):Z27 :=
 qa (qvw m b 1) λ a=>some (re a)
def qtv:Nat->(Y8->Z27):=qh (λ _=>none) λ m _=>qyI m
def qxO(m:Nat):Z4 :=
 qa (qjk m 2) λ f=>let j1:Z4:=(some false);qhr f.2.1 (cond (qd (ieq f.2.2.1 0)) j1 j1) λ h=>cond (qd (ieq f.2.2.1 0)) j1 (qa (qtv m [97]) λ g =>
 qa (jH m (h.1,h.2.1,()) 0 1 (re g)) λ c=>qa (Qt m (c.1.1.1,c.1.1.2.1,()) 0) λ b=>qa (Q0 m (b.1.1.1,b.1.1.2.1,()) 0 5 0) λ e =>
 qa (z8 m (e.1.1.1,e.1.1.2.1,()) 0) λ a=>qa (z8 m (a.1.1.1,a.1.1.2.1,()) 1) λ d=>cond (ieq c.2.2.1 0) (cond (ieq b.2.2.1 0) (cond (ieq e.2.1 0)
 (cond (ieq c.2.1 0) (cond (ieq b.2.1 1) (cond (ieq a.2.2.1 1) (cond (ieq a.2.2.2.1 19) (cond (ieq d.2.2.1 1) (cond (ieq d.2.2.2.1 0) (qa (QF m (re d.2.1) (re g)) λ i =>
 some i) j1) j1) j1) j1) j1) j1) j1) j1) j1)
def qgc:Nat->(Z4):=qh (none) λ m _=>qxO m
def qeB(m:Nat)(a:Z97)(d:Z94)(b:T)(c:Int):Z13 :=
 cond (ile c 0) (some (-1)) (cond (ilt 40 b.name.length) (some (-1)) (d (iw .i64 (zp c 1)) 0 b.kind b.name b.sort b.kids))
def qeh(m:Nat)(a:Z97)(j:Z94)(d c h:Int)(g:Y8)(f:Int)(b:TL):Z13 :=
 cond (ilt c b.length) (qa (qb b c) λ i=>qa (a (re i) d) λ e=>cond (ilt e 0) (some (-1)) (j e (iw .i64 (qe c 1)) h g f b)) (some d)
def J3(m:Nat)(a:Z97):=qJ (λ _ _ _ _ _ _=>none) λ b=>qeh m a b
def ji:Nat->Z97:=qh (λ _ _=>none) λ m a=>qeB m a (J3 m a m)
def qhG(m:Nat)(d:Z68)(a:TL)(c b:Int):Z4 :=
 cond (ilt c a.length) (some false) (d a b 0)
def qho(m:Nat)(f:Z68)(b:TL)(d a:Int):Z4 :=
 cond (ilt a b.length) (qa (qb b a) λ e=>qa (ji m (re e) d) λ c=>cond (ilt c 0) (some false) (f b c (iw .i64 (qe a 1)))) (some true)
def qcy(m:Nat):=qJ (λ _ _ _=>none) λ a=>qho m a
def qjB:Nat->(TL->Int->Int->Z4):=qh (λ _ _ _=>none) λ m _=>qhG m (qcy m m)
def qlN(m:Nat)(b:T):Z4 :=
 qa (qjB m [re b] 1 450) λ a=>some a
def qm4:Nat->Z44:=qh (λ _=>none) λ m _=>qlN m
def qh5(m:Nat)(b:Z99)(a:List (Int × (Int × (Int × (Int × (T × Int)))))):Z4 :=
 b a 0 []
def qhZ(m:Nat)(f:Z99)(c:List (Int × (Int × (Int × (Int × (T × Int))))))(b:Int)(a:TL):Z4 :=
 cond (ilt b c.length) (qa (qb c b) λ e=>cond (zo (List.length a+1) 56) (f c (iw .i64 (qe b 1)) (a++[re e.2.2.2.2.1])) none) (qa (qjB m a 60 2000) λ d=>some d)
def qcm(m:Nat):=qJ (λ _ _ _=>none) λ a=>qhZ m a
def qjz:Nat->(Z98->Z4):=qh (λ _=>none) λ m _=>qh5 m (qcm m m)
def qbk(m:Nat)(a:(Int) × (List (Int × (Int × (Y8 × Bool)))) × Unit)(b:Int):qKt :=
 cond (ilt b 0) (some (((a.1,a.2.1,()),()),([],4,()))) (cond (ile a.2.1.length b) (some (((a.1,a.2.1,()),()),([],4,()))) (qa (qb a.2.1 b) λ c =>
 some (((a.1,a.2.1,()),()),(c.2.2.1,0,()))))
def qan:Nat->qPK:=qh (λ _ _=>none) λ m _=>qbk m
def qfv(m:Nat)(a:Z14)(c:Z94)(b:T):Z13 :=
 c 0 0 b.kind b.name b.sort b.kids
def qfC(m:Nat)(a:Z14)(j:Z94)(d c g:Int)(f:Y8)(e:Int)(b:TL):Z13 :=
 cond (ilt c b.length) (qa (qb b c) λ i=>qa (a (re i)) λ h=>j (qoa d h) (iw .i64 (qe c 1)) g f e b) (some (iw .i64 (qe d 1)))
def qax(m:Nat)(a:Z14):=qJ (λ _ _ _ _ _ _=>none) λ b=>qfC m a b
def jo:Nat->Z14:=qh (λ _=>none) λ m a=>qfv m a (qax m a m)
def qhv(m:Nat)(a:Int):Z4 :=
 let b:Z4:=(cond (ile 65 a) (some (ile a 90)) (some false));cond (ile 97 a) (cond (ile a 122) (some true) b) b
def qfd:Nat->Z5:=qh (λ _=>none) λ m _=>qhv m
def qiF(m:Nat)(a:Int):Z4 :=
 cond (ile 48 a) (some (ile a 57)) (some false)
def qji:Nat->Z5:=qh (λ _=>none) λ m _=>qiF m
def qex(m:Nat)(d:qOh)(a:Y8):Z4 :=
 cond (ieq a.length 0) (some false) (cond (ilt 24 a.length) (some false) (qa (qb a 0) λ c=>qa (qfd m ((UInt8.toNat c:Nat):Int)) λ b=>cond (qd b) (some false) (d a 0)))
def qeq(m:Nat)(i:qOh)(b:Y8)(a:Int):Z4 :=
 cond (ilt a b.length) (qa (qb b a) λ h=>qa (qfd m ((UInt8.toNat h:Nat):Int)) λ g=>let j1:Z4:=(i b (iw .i64 (qe a 1)));cond (qd g) (qa (qb b a) λ f =>
 qa (qji m ((UInt8.toNat f:Nat):Int)) λ e=>cond (qd e) (qa (qb b a) λ d=>cond (qd (ieq ((UInt8.toNat d:Nat):Int) 95)) (qa (qb b a) λ c =>
 cond (qd (ieq ((UInt8.toNat c:Nat):Int) 35)) (some false) j1) j1) j1) j1) (some true)
def JV(m:Nat):=qJ (λ _ _=>none) λ a=>qeq m a
def qaj:Nat->Z8:=qh (λ _=>none) λ m _=>qex m (JV m m)
def qjS(m:Nat)(a:T):Z13 :=
 let d:Z13:=(qa (qaj m a.name) λ e=>cond (qd e) (some 2) (cond (ilt 8 a.kids.length) (some 3) (some 0)));let j2:Z13:=(cond (ilt 0 a.kids.length) (some 1) d);cond (ieq a.kind 1)
 (cond (ilt a.sort 0) (some 1) (cond (ilt 5 a.sort) (some 1) j2)) (let c:Z13:=(cond (ilt a.sort 0) (some 1) (cond (ilt 5 a.sort) (some 1) (let b:Z13:=(cond (ieq a.kind 2) j2 d);
 cond (qd (ieq a.kind 2)) (cond (qd (ieq a.sort 0)) (some 1) b) b)));cond (qd (ieq a.kind 2)) (cond (qd (ieq a.kind 3)) (some 1) c) c)
def qkB:Nat->Z14:=qh (λ _=>none) λ m _=>qjS m
def qfh(m:Nat)(a:Z14)(d:qG1)(b:T):Z13 :=
 qa (qkB m (re b)) λ c=>cond (qd (ieq c 0)) (some c) (d 0 b.kind b.name b.sort b.kids)
def qfj(m:Nat)(a:Z14)(i:qG1)(c g:Int)(f:Y8)(e:Int)(b:TL):Z13 :=
 cond (ilt c b.length) (qa (qb b c) λ h=>qa (a (re h)) λ d=>cond (qd (ieq d 0)) (some d) (i (iw .i64 (qe c 1)) g f e b)) (some 0)
def qaz(m:Nat)(a:Z14):=qJ (λ _ _ _ _ _=>none) λ b=>qfj m a b
def jP:Nat->Z14:=qh (λ _=>none) λ m a=>qfh m a (qaz m a m)
def qiO(m:Nat)(a:T):Z13 :=
 qa (jP m (re a)) λ b=>cond (qd (ieq b 0)) (some b) (qa (ja m (re a)) λ d=>cond (ilt 400 d) (some 3) (qa (jo m (re a)) λ c=>cond (ilt 40 c) (some 3) (some 0)))
def jt:Nat->Z14:=qh (λ _=>none) λ m _=>qiO m
def qut(m:Nat):qOM :=
 some [([112,97,105,114],(2,(2,1))),([101,110,99],(2,(2,1))),([97,101,110,99],(2,(2,1))),([112,107],(1,(1,1))),([115,105,103,110],(2,(2,1))),([104,97,115,104],(1,(1,1))),([120,111,114],(2,(8,1))),([122,101,114,111],(0,(0,1))),([101,120,112],(2,(2,1))),([109,117,108],(2,(8,1))),([105,110,118],(1,(1,1))),([111,110,101],(0,(0,1))),([115,107],(1,(1,2))),([115,104,107],(2,(2,2))),([110,101,119],(1,(8,2))),([102,115,116],(1,(1,3))),([115,110,100],(1,(1,3))),([100,101,99],(2,(2,3))),([97,100,101,99],(2,(2,3))),([111,112,101,110],(2,(2,3))),([114,101,97,100],(1,(1,3)))]
def qgy:Nat->(qOM):=qh (none) λ m _=>qut m
def qgj(m:Nat)(c:qOE)(b:Y8):Z13 :=
 qa (qgy m) λ a=>c b a 0
def qgn(m:Nat)(f:qOE)(c:Y8)(b:List (Y8 × (Int × (Int × Int))))(a:Int):Z13 :=
 cond (ilt a b.length) (qa (qb b a) λ e=>cond (qx e.1 c) (qa (qb b a) λ d=>some d.2.2.2) (f c b (iw .i64 (qe a 1)))) (some 0)
def qbx(m:Nat):=qJ (λ _ _ _=>none) λ a=>qgn m a
def qfi:Nat->Z79:=qh (λ _=>none) λ m _=>qgj m (qbx m m)
def qgH(m:Nat)(c:qOF)(a:T):Z4 :=
 qa (qgy m) λ b=>c b 0 a.kind a.name a.sort a.kids
def qgq(m:Nat)(j:qOF)(b:List (Y8 × (Int × (Int × Int))))(a f:Int)(d:Y8)(e:Int)(c:TL):Z4 :=
 cond (ilt a b.length) (qa (qb b a) λ i=>cond (qx i.1 d) (qa (qb b a) λ h=>cond (ile h.2.1 c.length) (qa (qb b a) λ g=>some (ile c.length g.2.2.1)) (some false))
 (j b (iw .i64 (qe a 1)) f d e c)) (some false)
def qbs(m:Nat):=qJ (λ _ _ _ _ _ _=>none) λ a=>qgq m a
def qkT:Nat->Z44:=qh (λ _=>none) λ m _=>qgH m (qbs m m)
def qev(m:Nat)(c:qPn)(a:T):Z4 :=
 cond (qx a.name [110,101,119]) (qa (qb a.kids 0) λ b=>some (ieq b.kind 2)) (c 0 a.kind a.name a.sort a.kids)
def qel(m:Nat)(h:qPn)(b e:Int)(d:Y8)(c:Int)(a:TL):Z4 :=
 cond (ilt b a.length) (qa (qb a b) λ g=>cond (ieq g.kind 3) (some false) (qa (qb a b) λ f=>cond (qd (ieq f.sort 1)) (some false) (h (iw .i64 (qe b 1)) e d c a))) (some true)
def JW(m:Nat):=qJ (λ _ _ _ _ _=>none) λ a=>qel m a
def qhh:Nat->Z44:=qh (λ _=>none) λ m _=>qev m (JW m m)
def qfO(m:Nat)(b:Z14)(d:qG1)(a:T):Z13 :=
 cond (qd (ieq a.kind 3)) (some 0) (qa (qfi m a.name) λ c=>cond (ieq c 0) (some 10) (qa (qkT m (re a)) λ f=>cond (qd f) (some 6) (cond (ieq c 2)
 (qa (qhh m (re a)) λ e=>cond (qd e) (some 10) (d 0 a.kind a.name a.sort a.kids)) (d 0 a.kind a.name a.sort a.kids))))
def qfE(m:Nat)(a:Z14)(i:qG1)(c g:Int)(f:Y8)(e:Int)(b:TL):Z13 :=
 cond (ilt c b.length) (qa (qb b c) λ h=>qa (a (re h)) λ d=>cond (qd (ieq d 0)) (some d) (i (iw .i64 (qe c 1)) g f e b)) (some 0)
def Jy(m:Nat)(a:Z14):=qJ (λ _ _ _ _ _=>none) λ b=>qfE m a b
def jr:Nat->Z14:=qh (λ _=>none) λ m a=>qfO m a (Jy m a m)
def qiR(m:Nat)(b:T):Z13 :=
 qa (jt m (re b)) λ a=>cond (qd (ieq a 0)) (some a) (qa (jr m (re b)) λ c=>some c)
def qd2:Nat->Z14:=qh (λ _=>none) λ m _=>qiR m
def qij(m:Nat)(a:Z33)(c:qN1)(b:T):Z32 :=
 c 0 b.kind b.name b.sort b.kids [re b]
def qh4(m:Nat)(a:Z33)(j:qN1)(d h:Int)(g:Y8)(f:Int)(c b:TL):Z32 :=
 cond (ilt d c.length) (qa (qb c d) λ i=>qa (a (re i)) λ e=>cond (zo (List.length b+List.length e) 56) (j (iw .i64 (qe d 1)) h g f c (b++e)) none) (some b)
def qcw(m:Nat)(a:Z33):=qJ (λ _ _ _ _ _ _=>none) λ b=>qh4 m a b
def Qm:Nat->Z33:=qh (λ _=>none) λ m a=>qij m a (qcw m a m)
def qhs(m:Nat)(c:qPB)(b:TL)(a:T):Z32 :=
 c b false 0 a.kind a.name a.sort a.kids []
def qid(m:Nat)(i:qPB)(c:TL)(h:Bool)(b g:Int)(f:Y8)(e:Int)(d a:TL):Z32 :=
 cond (ilt b c.length) (qa (qb c b) λ o=>qa (zM m (T.mk g f e d) (re o)) λ j=>let j1:Z32:=(qa (qb c b) λ k=>cond (zo (List.length a+1) 56)
 (i c h (iw .i64 (qe b 1)) g f e d (a++[re k])) none);cond (qd h) (cond (ile j 0) (cond (ilt j 0) (cond (zo (List.length a+1) 56) (qa (qb c b) λ n =>
 cond (zo (List.length (a++[T.mk g f e d])+1) 56) (i c true (iw .i64 (qe b 1)) g f e d ((a++[T.mk g f e d])++[re n])) none) none) (qa (qb c b) λ l =>
 cond (zo (List.length a+1) 56) (i c true (iw .i64 (qe b 1)) g f e d (a++[re l])) none)) j1) j1) (cond (qd h) (cond (zo (List.length a+1) 56) (some (a++[T.mk g f e d])) none) (some a))
def qct(m:Nat):=qJ (λ _ _ _ _ _ _ _ _=>none) λ a=>qid m a
def qjP:Nat->(TL->T->Z32):=qh (λ _ _=>none) λ m _=>qhs m (qct m m)
def qh3(m:Nat)(b:qG2)(a:TL):Z32 :=
 b a [] 0
def qhK(m:Nat)(f:qG2)(b c:TL)(a:Int):Z32 :=
 cond (ilt a b.length) (qa (qb b a) λ e=>qa (qjP m c (re e)) λ d=>f b d (iw .i64 (qe a 1))) (some c)
def qcq(m:Nat):=qJ (λ _ _ _=>none) λ a=>qhK m a
def qnk:Nat->Z41:=qh (λ _=>none) λ m _=>qh3 m (qcq m m)
def qgr(m:Nat)(d:qOn)(c:T)(b:Int):Z32 :=
 qa (Qm m (re c)) λ a=>d b a 0 []
def qgC(m:Nat)(e:qOn)(d:Int)(b:TL)(a:Int)(c:TL):Z32 :=
 cond (ilt a b.length) (qa (qb b a) λ h=>cond (ieq h.kind d) (qa (qb b a) λ g=>cond (zo (List.length c+1) 56) (e d b (iw .i64 (qe a 1)) (c++[re g])) none)
 (e d b (iw .i64 (qe a 1)) c)) (qa (qnk m c) λ f=>some f)
def qba(m:Nat):=qJ (λ _ _ _ _=>none) λ a=>qgC m a
def qkP:Nat->(T->Int->Z32):=qh (λ _ _=>none) λ m _=>qgr m (qba m m)
def qj2(m:Nat)(b:T):Z32 :=
 qa (qkP m (re b) 1) λ a=>some a
def qkY:Nat->Z33:=qh (λ _=>none) λ m _=>qj2 m
def qhP(m:Nat)(b:T):Z4 :=
 qa (qkY m (re b)) λ a=>some (ieq a.length 0)
def qhH:Nat->Z44:=qh (λ _=>none) λ m _=>qhP m
def qlR(m:Nat)(b:Y8)(a:TL):Z27 :=
 cond (zo (List.length ([]:TL)+List.length a) 56) (qkU a (some (T.mk 3 b 0 [])) λ d c=>some (T.mk 3 b 0 ([]++(d::c)))) none
def Qo:Nat->Z57:=qh (λ _ _=>none) λ m _=>qlR m
def qnS(m:Nat)(a:T)(b:Y8):Z4 :=
 cond (ieq a.kind 3) (some (qx a.name b)) (some false)
def qci:Nat->(T->Y8->Z4):=qh (λ _ _=>none) λ m _=>qnS m
def qgY(m:Nat)(a:T):qrP :=
 qa (qb a.kids 0) λ b=>let j1:qrP:=(qa (qb b.kids 0) λ y=>some (re y,true));let j2:qrP:=(let r:qrP:=(let q:qrP:=(let p:qrP:=(let o:qrP :=
 (cond (qx a.name [114,101,97,100]) (qa (qci m (re b) [115,105,103,110]) λ c=>cond c j1 (some (re a,false))) (some (re a,false)));cond (qx a.name [111,112,101,110])
 (qa (qci m (re b) [115,105,103,110]) λ h=>cond h (qa (qb a.kids 1) λ g=>qa (qb b.kids 1) λ f=>qa (Qo m [112,107] [re f]) λ e=>qa (QF m (re g)
 (re e)) λ d=>cond d j1 o) o) o);cond (qx a.name [97,100,101,99]) (qa (qci m (re b) [97,101,110,99]) λ n=>cond n (qa (qb b.kids 1) λ l =>
 qa (qb a.kids 1) λ k=>qa (Qo m [112,107] [re k]) λ j=>qa (QF m (re l) (re j)) λ i=>cond i j1 p) p) p);cond (qx a.name [100,101,99])
 (qa (qci m (re b) [101,110,99]) λ v=>cond v (qa (qb b.kids 1) λ u=>qa (qb a.kids 1) λ t=>qa (QF m (re u) (re t)) λ s=>cond s j1 q) q) q);
 cond (qx a.name [115,110,100]) (qa (qci m (re b) [112,97,105,114]) λ x=>cond x (qa (qb b.kids 1) λ w=>some (re w,true)) r) r);cond (qx a.name [102,115,116])
 (qa (qci m (re b) [112,97,105,114]) λ z=>cond z j1 j2) j2
def qgm:Nat->(T->qrP):=qh (λ _=>none) λ m _=>qgY m
def qfJ(m:Nat)(c:qON)(b:TL)(a:T):Z13 :=
 cond (ilt 200 b.length) (some 3) (c b 0 a.kind a.name a.sort a.kids)
def qfA(m:Nat)(j:qON)(b:TL)(a f:Int)(e:Y8)(d:Int)(c:TL):Z13 :=
 cond (ilt a b.length) (qa (qb b a) λ i=>qa (jt m (re i)) λ g=>cond (qd (ieq g 0)) (some g) (j b (iw .i64 (qe a 1)) f e d c))
 (qa (jt m (T.mk f e d c)) λ h=>some h)
def qaE(m:Nat):=qJ (λ _ _ _ _ _ _=>none) λ a=>qfA m a
def qjj:Nat->(TL->T->Z13):=qh (λ _ _=>none) λ m _=>qfJ m (qaE m m)
def qjW(m:Nat):Z27 :=
 qa (Qo m [122,101,114,111] []) λ a=>some (re a)
def qky:Nat->(Z27):=qh (none) λ m _=>qjW m
def qhu(m:Nat)(c:qOy)(b:TL)(a:T):Z4 :=
 c b 0 a.kind a.name a.sort a.kids
def qht(m:Nat)(i:qOy)(b:TL)(a f:Int)(e:Y8)(d:Int)(c:TL):Z4 :=
 cond (ilt a b.length) (qa (qb b a) λ h=>qa (QF m (re h) (T.mk f e d c)) λ g=>cond g (some true) (i b (iw .i64 (qe a 1)) f e d c)) (some false)
def qcs(m:Nat):=qJ (λ _ _ _ _ _ _=>none) λ a=>qht m a
def qnM:Nat->(TL->T->Z4):=qh (λ _ _=>none) λ m _=>qhu m (qcs m m)
def qei(m:Nat)(e:qPH)(b:TL)(a:T):Z32 :=
 qa (qnM m b (re a)) λ d=>cond (qd d) (qa (qjP m b (re a)) λ c=>some c) (e b 0 a.kind a.name a.sort a.kids [])
def qep(m:Nat)(h:qPH)(b:TL)(a g:Int)(f:Y8)(e:Int)(d c:TL):Z32 :=
 cond (ilt a b.length) (qa (qb b a) λ k=>qa (QF m (re k) (T.mk g f e d)) λ j=>cond (qd j) (qa (qb b a) λ i=>cond (zo (List.length c+1) 56)
 (h b (iw .i64 (qe a 1)) g f e d (c++[re i])) none) (h b (iw .i64 (qe a 1)) g f e d c)) (some c)
def J0(m:Nat):=qJ (λ _ _ _ _ _ _ _=>none) λ a=>qep m a
def qhI:Nat->(TL->T->Z32):=qh (λ _ _=>none) λ m _=>qei m (J0 m m)
def qgA(m:Nat)(c:qG2)(b a:TL):Z32 :=
 cond (zo (List.length ([]:TL)+List.length b) 56) (qkU b (c a [] 0) λ e d=>c a ([]++(e::d)) 0) none
def qgp(m:Nat)(f:qG2)(b c:TL)(a:Int):Z32 :=
 cond (ilt a b.length) (qa (qb b a) λ e=>qa (qhI m c (re e)) λ d=>f b d (iw .i64 (qe a 1))) (some c)
def qai(m:Nat):=qJ (λ _ _ _=>none) λ a=>qgp m a
def qhR:Nat->(TL->TL->Z32):=qh (λ _ _=>none) λ m _=>qgA m (qai m m)
def qcF(m:Nat)(a:Z33)(d:qOm)(b:T):Z32 :=
 let c:Z32:=(cond (qd (ieq b.kind 3)) (some [re b]) (cond (qd (qx b.name [120,111,114])) (some [re b]) (d [] 0 b.kind b.name b.sort b.kids)));cond (ieq b.kind 3)
 (cond (qx b.name [122,101,114,111]) (cond (ieq b.kids.length 0) (some []) c) c) c
def qcS(m:Nat)(a:Z33)(k:qOm)(d:TL)(c g:Int)(f:Y8)(e:Int)(b:TL):Z32 :=
 cond (ilt c b.length) (qa (qb b c) λ j=>qa (a (re j)) λ i=>qa (qhR m d i) λ h=>k h (iw .i64 (qe c 1)) g f e b) (some d)
def jW(m:Nat)(a:Z33):=qJ (λ _ _ _ _ _ _=>none) λ b=>qcS m a b
def zY:Nat->Z33:=qh (λ _=>none) λ m a=>qcF m a (jW m a m)
def qjT(m:Nat)(a:TL):Z27 :=
 cond (ieq a.length 0) (qa (Qo m [122,101,114,111] []) λ e=>some (re e)) (cond (ieq a.length 1) (qa (qb a 0) λ d=>some (re d))
 (cond (zo (List.length ([]:TL)+List.length a) 56) (qkU a (some (T.mk 3 [120,111,114] 0 [])) λ c b=>some (T.mk 3 [120,111,114] 0 ([]++(c::b)))) none))
def qk4:Nat->(TL->Z27):=qh (λ _=>none) λ m _=>qjT m
def qii(m:Nat)(d:qOR)(b:TL):Z38 :=
 qa (qky m) λ c=>qa (qjj m b (re c)) λ a=>cond (qd (ieq a 0)) (some (T.mk 0 [] 0 [],a)) (d b [] 0 0 [] 0 [])
def qhU(m:Nat)(n:qOR)(b c:TL)(a h:Int)(g:Y8)(f:Int)(e:TL):Z38 :=
 cond (ilt a b.length) (qa (qb b a) λ l=>qa (zY m (re l)) λ k=>qa (qhR m c k) λ j=>n b j (iw .i64 (qe a 1)) h g f e) (qa (qk4 m c) λ d =>
 qa (jt m (re d)) λ i=>cond (qd (ieq i 0)) (some (T.mk 0 [] 0 [],3)) (some (re d,0)))
def qcA(m:Nat):=qJ (λ _ _ _ _ _ _ _=>none) λ a=>qhU m a
def qnv:Nat->(TL->Z38):=qh (λ _=>none) λ m _=>qii m (qcA m m)
def qgQ(m:Nat)(a:T):Z4 :=
 cond (ieq a.kind 3) (cond (qx a.name [109,117,108]) (some true) (cond (qx a.name [105,110,118]) (some true) (some (qx a.name [111,110,101])))) (some false)
def qbW:Nat->Z44:=qh (λ _=>none) λ m _=>qgQ m
def qfy(m:Nat)(b:Z44)(e:qOr)(a:T):Z4 :=
 qa (qbW m (re a)) λ f=>cond (qd f) (some true) (let d:Z4:=(let c:Z4:=(cond (qx a.name [111,110,101]) (cond (qd (ieq a.kids.length 0)) (some false)
 (e a.kids.length 0 a.kind a.name a.sort a.kids)) (e a.kids.length 0 a.kind a.name a.sort a.kids));cond (qx a.name [105,110,118]) (cond (qd (ieq a.kids.length 1)) (some false) c) c);
 cond (qx a.name [109,117,108]) (cond (ilt a.kids.length 2) (some false) d) d)
def qfm(m:Nat)(a:Z44)(j:qOr)(d b g:Int)(f:Y8)(e:Int)(c:TL):Z4 :=
 cond (ilt b d) (qa (qb c b) λ i=>qa (a (re i)) λ h=>cond (qd h) (some false) (j d (iw .i64 (qe b 1)) g f e c)) (some true)
def Jv(m:Nat)(a:Z44):=qJ (λ _ _ _ _ _ _=>none) λ b=>qfm m a b
def js:Nat->Z44:=qh (λ _=>none) λ m a=>qfy m a (Jv m a m)
def qh6(m:Nat)(d:qOV)(c:List (T × Int))(a:T)(b:Int):Z49 :=
 d b false 0 a.kind a.name a.sort a.kids c []
def qhT(m:Nat)(i:qOV)(a:Int)(l:Bool)(h f:Int)(e:Y8)(d:Int)(c:TL)(g b:List (T × Int)):Z49 :=
 cond (ilt h g.length) (qa (qb g h) λ o=>qa (zM m (T.mk f e d c) (re o.1)) λ n=>let j1:Z49:=(qa (qb g h) λ j=>cond (ieq n 0)
 (cond (qd (ieq (iw .i64 (qe j.2 a)) 0)) (cond (zo (List.length b+1) 64) (i a true (iw .i64 (qe h 1)) f e d c g (b++[(re j.1,iw .i64 (qe j.2 a))])) none)
 (i a true (iw .i64 (qe h 1)) f e d c g b)) (cond (qd (ieq j.2 0)) (cond (zo (List.length b+1) 64) (i a l (iw .i64 (qe h 1)) f e d c g (b++[(re j.1,j.2)])) none)
 (i a l (iw .i64 (qe h 1)) f e d c g b)));cond (qd l) (cond (ilt n 0) (cond (zo (List.length b+1) 64) (qa (qb g h) λ k=>cond (ieq n 0) (cond (qd (ieq (iw .i64 (qe k.2 a)) 0))
 (cond (zo (List.length (b++[(T.mk f e d c,a)])+1) 64) (i a true (iw .i64 (qe h 1)) f e d c g ((b++[(T.mk f e d c,a)])++[(re k.1,iw .i64 (qe k.2 a))])) none)
 (i a true (iw .i64 (qe h 1)) f e d c g (b++[(T.mk f e d c,a)]))) (cond (qd (ieq k.2 0)) (cond (zo (List.length (b++[(T.mk f e d c,a)])+1) 64)
 (i a true (iw .i64 (qe h 1)) f e d c g ((b++[(T.mk f e d c,a)])++[(re k.1,k.2)])) none) (i a true (iw .i64 (qe h 1)) f e d c g (b++[(T.mk f e d c,a)])))) none) j1) j1)
 (cond (qd l) (cond (zo (List.length b+1) 64) (some ((()),(b++[(T.mk f e d c,a)],()))) none) (some ((()),(b,()))))
def J4(m:Nat):=qJ (λ _ _ _ _ _ _ _ _ _=>none) λ a=>qhT m a
def qjt:Nat->qBV:=qh (λ _ _ _=>none) λ m _=>qh6 m (J4 m m)
def qdv(m:Nat)(a:qBV)(e:qPC)(d:List (T × Int))(b:T)(c:Int):Z49 :=
 qa (qbW m (re b)) λ g=>cond (qd g) (qa (qjt m d (re b) c) λ f=>some ((()),(f.2.1,()))) (cond (qx b.name [105,110,118])
 (e (iw .i64 (zp 0 c)) 0 b.kind b.name b.sort b.kids d) (e c 0 b.kind b.name b.sort b.kids d))
def qdo(m:Nat)(a:qBV)(k:qPC)(e c h:Int)(g:Y8)(f:Int)(b:TL)(d:List (T × Int)):Z49 :=
 cond (ilt c b.length) (qa (qb b c) λ j=>qa (a d (re j) e) λ i=>k e (iw .i64 (qe c 1)) h g f b i.2.1) (some ((()),(d,())))
def Qn(m:Nat)(a:qBV):=qJ (λ _ _ _ _ _ _ _=>none) λ b=>qdo m a b
def ym:Nat->qBV:=qh (λ _ _ _=>none) λ m a=>qdv m a (Qn m a m)
def qn1(m:Nat)(a:T):Z53 :=
 qa (jt m (re a)) λ c=>cond (qd (ieq c 0)) (some ([],c)) (qa (js m (re a)) λ d=>cond (qd d) (some ([],6)) (qa (ym m [] (re a) 1) λ b =>
 cond (ilt 200 b.2.1.length) (some ([],3)) (some (b.2.1,0))))
def qiA:Nat->Z54:=qh (λ _=>none) λ m _=>qn1 m
def qfK(m:Nat)(b:qHJ)(a:List (T × Int)):Z13 :=
 cond (ilt 200 a.length) (some 3) (b a 0)
def qfI(m:Nat)(e:qHJ)(b:List (T × Int))(a:Int):Z13 :=
 cond (ilt a b.length) (qa (qb b a) λ n=>qa (jt m (re n.1)) λ d=>cond (qd (ieq d 0)) (some d) (qa (qb b a) λ l=>qa (qbW m (re l.1)) λ k=>cond k (some 1)
 (qa (qb b a) λ j=>cond (ieq j.2 0) (some 7) (qa (qb b a) λ i=>cond (ilt i.2 (-1000)) (some 7) (qa (qb b a) λ h=>cond (ilt 1000 h.2) (some 7) (cond (ilt 0 a)
 (qa (qb b (iw .i64 (zp a 1))) λ g=>qa (qb b a) λ f=>qa (zM m (re g.1) (re f.1)) λ c=>cond (ile 0 c) (some 5) (e b (iw .i64 (qe a 1))))
 (e b (iw .i64 (qe a 1))))))))) (some 0)
def Jx(m:Nat):=qJ (λ _ _=>none) λ a=>qfI m a
def qd4:Nat->Z56:=qh (λ _=>none) λ m _=>qfK m (Jx m m)
def qcN(m:Nat)(b:qn8)(e:qoh)(d:qn8)(c:qoh)(a:List (T × Int)):Z32 :=
 b a 0 []
def qcI(m:Nat)(g:qn8)(e:qoh)(d:qn8)(f:qoh)(a:List (T × Int))(c:Int)(b:TL):Z32 :=
 cond (ilt c a.length) (e a c 0 b) (d a 0 b)
def qcL(m:Nat)(e:qn8)(h:qoh)(j:qn8)(i:qoh)(c:List (T × Int))(b d:Int)(a:TL):Z32 :=
 qa (qb c b) λ g=>cond (ilt d g.2) (cond (ilt a.length 9) (qa (qb c b) λ f=>cond (zo (List.length a+1) 56) (h c b (iw .i64 (qe d 1)) (a++[re f.1])) none)
 (e c (iw .i64 (qe b 1)) a)) (e c (iw .i64 (qe b 1)) a)
def qcD(m:Nat)(g:qn8)(f:qoh)(e:qn8)(d:qoh)(c:List (T × Int))(b:Int)(a:TL):Z32 :=
 cond (ilt b c.length) (d c b 0 a) (some a)
def qcH(m:Nat)(k:qn8)(j:qoh)(e:qn8)(i:qoh)(c:List (T × Int))(b d:Int)(a:TL):Z32 :=
 qa (qb c b) λ h=>cond (ilt d (iw .i64 (zp 0 h.2))) (cond (ilt a.length 9) (qa (qb c b) λ g=>qa (Qo m [105,110,118] [re g.1]) λ f=>cond (zo (List.length a+1) 56)
 (i c b (iw .i64 (qe d 1)) (a++[re f])) none) (e c (iw .i64 (qe b 1)) a)) (e c (iw .i64 (qe b 1)) a)
def ql(m:Nat):=qJ ((λ _ _ _=>none,λ _ _ _ _=>none,λ _ _ _=>none,λ _ _ _ _=>none)) λ a=>(qcI m a.1 a.2.1 a.2.2.1 a.2.2.2,qcL m a.1 a.2.1 a.2.2.1 a.2.2.2,qcD m a.1 a.2.1 a.2.2.1 a.2.2.2,qcH m a.1 a.2.1 a.2.2.1 a.2.2.2)
def qfw:Nat->(Z47->Z32):=qh (λ _=>none) λ m _=>qcN m (ql m m).1 (ql m m).2.1 (ql m m).2.2.1 (ql m m).2.2.2
def qjV(m:Nat)(i:List (T × Int)):Z38 :=
 qa (qd4 m i) λ h=>cond (qd (ieq h 0)) (some (T.mk 0 [] 0 [],h)) (qa (qfw m i) λ a=>cond (ilt 8 a.length) (some (T.mk 0 [] 0 [],3))
 (qa (Qo m [109,117,108] a) λ g=>let j1:Z38:=(qa (qb a 0) λ e=>qa (jt m (re e)) λ d=>cond (qd (ieq d 0)) (some (T.mk 0 [] 0 [],d)) (some (re e,0)));
 cond (ieq a.length 0) (qa (Qo m [111,110,101] []) λ f=>cond (ieq a.length 1) j1 (qa (jt m (re f)) λ c=>cond (qd (ieq c 0)) (some (T.mk 0 [] 0 [],c)) (some (re f,0))))
 (cond (ieq a.length 1) j1 (qa (jt m (re g)) λ b=>cond (qd (ieq b 0)) (some (T.mk 0 [] 0 [],b)) (some (re g,0))))))
def qdH:Nat->Z60:=qh (λ _=>none) λ m _=>qjV m
def qgM(m:Nat)(c:T):Z38 :=
 qa (qiA m (re c)) λ a=>cond (qd (ieq a.2 0)) (some (T.mk 0 [] 0 [],a.2)) (qa (qdH m a.1) λ b=>some (re b.1,b.2))
def qdW:Nat->Z66:=qh (λ _=>none) λ m _=>qgM m
def qdu(m:Nat)(b:qHJ)(a:List (T × Int)):Z13 :=
 b a 0
def qdM(m:Nat)(e:qHJ)(a:List (T × Int))(b:Int):Z13 :=
 cond (ilt b a.length) (qa (qb a b) λ d=>cond (ilt d.2 (-1000)) (some 7) (qa (qb a b) λ c=>cond (ilt 1000 c.2) (some 7) (e a (iw .i64 (qe b 1))))) (cond (ilt 200 a.length) (some 3)
 (some 0))
def Jj(m:Nat):=qJ (λ _ _=>none) λ a=>qdM m a
def qgg:Nat->Z56:=qh (λ _=>none) λ m _=>qdu m (Jj m m)
def qih(m:Nat)(e:qOJ)(b a:List (T × Int)):Z53 :=
 qa (qd4 m b) λ d=>cond (qd (ieq d 0)) (some ([],d)) (qa (qd4 m a) λ c=>cond (qd (ieq c 0)) (some ([],c)) (cond (zo (List.length ([]:List (T × Int))+List.length b) 64)
 (qkU b (e a 0 []) λ g f=>e a 0 ([]++(g::f))) none))
def qie(m:Nat)(h:qOJ)(b:List (T × Int))(a:Int)(c:List (T × Int)):Z53 :=
 cond (ilt a b.length) (qa (qb b a) λ g=>qa (qb b a) λ f=>qa (qjt m c (re g.1) f.2) λ e=>h b (iw .i64 (qe a 1)) e.2.1) (qa (qgg m c) λ d =>
 cond (qd (ieq d 0)) (some ([],d)) (some (c,0)))
def qa4(m:Nat):=qJ (λ _ _ _=>none) λ a=>qie m a
def qmZ:Nat->Z64:=qh (λ _ _=>none) λ m _=>qih m (qa4 m m)
def qi3(m:Nat)(b l:T):Z38 :=
 qa (qiA m (re l)) λ a=>cond (qd (ieq a.2 0)) (some (T.mk 0 [] 0 [],a.2)) (qa (qci m (re b) [101,120,112]) λ k=>cond k (qa (qb b.kids 1) λ j =>
 qa (qiA m (re j)) λ f=>cond (qd (ieq f.2 0)) (some (T.mk 0 [] 0 [],f.2)) (qa (qmZ m f.1 a.1) λ c=>cond (qd (ieq c.2 0)) (some (T.mk 0 [] 0 [],c.2))
 (qa (qb b.kids 0) λ h=>cond (ieq c.1.length 0) (some (re h,0)) (qa (qdH m c.1) λ e=>cond (qd (ieq e.2 0)) (some (T.mk 0 [] 0 [],e.2))
 (qa (Qo m [101,120,112] [re h,re e.1]) λ i=>some (re i,0)))))) (cond (ieq a.1.length 0) (some (re b,0)) (qa (qdH m a.1) λ d=>cond (qd (ieq d.2 0))
 (some (T.mk 0 [] 0 [],d.2)) (qa (Qo m [101,120,112] [re b,re d.1]) λ g=>some (re g,0)))))
def qje:Nat->Z65:=qh (λ _ _=>none) λ m _=>qi3 m
def qer(m:Nat)(a:Z66)(c:qOQ)(b:T):Z38 :=
 cond (qd (ieq b.kind 3)) (some (re b,0)) (c 0 b.kind b.name b.sort b.kids 0 [] 0 [] [])
def qee(m:Nat)(a:Z66)(x:qOQ)(f t:Int)(b:Y8)(s:Int)(e:TL)(r:Int)(q:Y8)(p:Int)(o c:TL):Z38 :=
 cond (ilt f e.length) (qa (qb e f) λ w=>qa (a (re w)) λ h=>cond (qd (ieq h.2 0)) (some (T.mk 0 [] 0 [],h.2)) (cond (zo (List.length c+1) 56)
 (x (iw .i64 (qe f 1)) t b s e r q p o (c++[re h.1])) none)) (qa (Qo m b c) λ g=>qa (qfi m b) λ v=>cond (ieq v 3) (qa (qgm m (re g)) λ u =>
 some (re u.1,0)) (cond (qx b [120,111,114]) (qa (qnv m c) λ n=>some (re n.1,n.2)) (let k:Z38:=(qa (qdW m (re g)) λ l=>some (re l.1,l.2));
 cond (qx b [109,117,108]) k (cond (qx b [105,110,118]) k (cond (qx b [111,110,101]) k (cond (qx b [101,120,112]) (qa (qb c 0) λ j=>qa (qb c 1) λ i =>
 qa (qje m (re j) (re i)) λ d=>some (re d.1,d.2)) (some (re g,0))))))))
def JT(m:Nat)(a:Z66):=qJ (λ _ _ _ _ _ _ _ _ _ _=>none) λ b=>qee m a b
def jl:Nat->Z66:=qh (λ _=>none) λ m a=>qer m a (JT m a m)
def qhC(m:Nat)(d:T):Z38 :=
 qa (qd2 m (re d)) λ c=>cond (qd (ieq c 0)) (some (T.mk 0 [] 0 [],c)) (qa (jl m (re d)) λ a=>cond (qd (ieq a.2 0)) (some (T.mk 0 [] 0 [],a.2))
 (qa (jt m (re a.1)) λ b=>cond (qd (ieq b 0)) (some (T.mk 0 [] 0 [],b)) (some (re a.1,0))))
def qio:Nat->Z66:=qh (λ _=>none) λ m _=>qhC m
def qfR(m:Nat)(e:qN0)(a:T):Z4 :=
 qa (qio m (re a)) λ b=>cond (qd (ieq b.2 0)) (some false) (qa (QF m (re a) (re b.1)) λ d=>cond (qd d) (some false) (qa (Qm m (re a)) λ c=>e c 0))
def qfH(m:Nat)(c:qN0)(b:TL)(a:Int):Z4 :=
 cond (ilt a b.length) (qa (qb b a) λ f=>cond (ieq f.kind 3) (qa (qb b a) λ e=>qa (qfi m e.name) λ d=>cond (ieq d 3) (some false) (c b (iw .i64 (qe a 1))))
 (c b (iw .i64 (qe a 1)))) (some true)
def qaC(m:Nat):=qJ (λ _ _=>none) λ a=>qfH m a
def qgb:Nat->Z44:=qh (λ _=>none) λ m _=>qfR m (qaC m m)
def qi5(m:Nat)(a:T):Z13 :=
 qa (qd2 m (re a)) λ b=>cond (qd (ieq b 0)) (some b) (qa (qhH m (re a)) λ d=>cond (qd d) (some 13) (qa (qgb m (re a)) λ c=>cond (qd c) (some 10) (some 0)))
def qjg:Nat->Z14:=qh (λ _=>none) λ m _=>qi5 m
def qxd(m:Nat):(Option (List Y8)) :=
 some [[112,97,105,114],[101,110,99],[97,101,110,99],[112,107],[115,105,103,110],[104,97,115,104],[120,111,114],[122,101,114,111],[101,120,112],[109,117,108],[105,110,118],[111,110,101],[115,107],[115,104,107],[110,101,119]]
def qjq:Nat->((Option (List Y8))):=qh (none) λ m _=>qxd m
def qfz(m:Nat)(c:qOS)(b:Y8):Z13 :=
 qa (qjq m) λ a=>c b a 0
def qfo(m:Nat)(e:qOS)(c:Y8)(b:List (Y8))(a:Int):Z13 :=
 cond (ilt a b.length) (qa (qb b a) λ d=>cond (qx d c) (some a) (e c b (iw .i64 (qe a 1)))) (some 0)
def qaF(m:Nat):=qJ (λ _ _ _=>none) λ a=>qfo m a
def qjp:Nat->Z79:=qh (λ _=>none) λ m _=>qfz m (qaF m m)
def qgL(m:Nat)(a:Y8):Z4 :=
 cond (qx a [120,111,114]) (some true) (cond (qx a [109,117,108]) (some true) (some (qx a [110,101,119])))
def qdP:Nat->Z8:=qh (λ _=>none) λ m _=>qgL m
def qfn(m:Nat)(b:qGq)(d:qOA)(a:T):Z80 :=
 cond (ieq a.kind 2) (cond (qgE (qC [iw .u8 a.sort,iw .u8 a.name.length]) a.name) (some ((qC [iw .u8 a.sort,iw .u8 a.name.length])++a.name)) none) (qa (qjp m a.name) λ c =>
 qa (qdP m a.name) λ e=>cond e (cond (qgE (qC [iw .u8 (iw .i64 (qe 16 c))]) (qC [iw .u8 a.kids.length]))
 (d ((qC [iw .u8 (iw .i64 (qe 16 c))])++(qC [iw .u8 a.kids.length])) 0 a.kind a.name a.sort a.kids) none) (d (qC [iw .u8 (iw .i64 (qe 16 c))]) 0 a.kind a.name a.sort a.kids))
def qfB(m:Nat)(a:qGq)(j:qOA)(d:Y8)(c h:Int)(g:Y8)(f:Int)(b:TL):Z80 :=
 cond (ilt c b.length) (qa (qb b c) λ i=>qa (a (re i)) λ e=>cond (qgE d e) (j (d++e) (iw .i64 (qe c 1)) h g f b) none) (some d)
def Jz(m:Nat)(a:qGq):=qJ (λ _ _ _ _ _ _=>none) λ b=>qfB m a b
def jp:Nat->qGq:=qh (λ _=>none) λ m a=>qfn m a (Jz m a m)
def qhS(m:Nat)(b:T):Z76 :=
 qa (qjg m (re b)) λ a=>cond (qd (ieq a 0)) (some ([],a)) (qa (jp m (re b)) λ c=>some (c,0))
def qh0:Nat->(T->Z76):=qh (λ _=>none) λ m _=>qhS m
def qfQ(m:Nat)(b:qN4)(a:Y8):Z13 :=
 b a 1 0 0
def qfF(m:Nat)(f:qN4)(c:Y8)(b d a:Int):Z13 :=
 cond (ilt a c.length) (qa (qb c a) λ e=>f c (ye (iw .u32 (qe b (iw .u32 ((UInt8.toNat e:Nat):Int)))) 65521)
 (ye (iw .u32 (qe d (ye (iw .u32 (qe b (iw .u32 ((UInt8.toNat e:Nat):Int)))) 65521))) 65521) (iw .i64 (qe a 1))) (some (iw .u32 (qe (iw .u32 (qty 65536 d)) b)))
def qay(m:Nat):=qJ (λ _ _ _ _=>none) λ a=>qfF m a
def qja:Nat->Z79:=qh (λ _=>none) λ m _=>qfQ m (qay m m)
def qkg(m:Nat)(b:Y8):Z80 :=
 qa (qja m b) λ a=>cond (qgE (qC [iw .u8 (iw .u32 (qiN a 16777216)),iw .u8 (ye (iw .u32 (qiN a 65536)) 256),iw .u8 (ye (iw .u32 (qiN a 256)) 256),iw .u8 (ye a 256)]) b)
 (some ((qC [iw .u8 (iw .u32 (qiN a 16777216)),iw .u8 (ye (iw .u32 (qiN a 65536)) 256),iw .u8 (ye (iw .u32 (qiN a 256)) 256),iw .u8 (ye a 256)])++b)) none
def qhY:Nat->(Y8->Z80):=qh (λ _=>none) λ m _=>qkg m
def qc4(m:Nat)(a:(Int) × (List (Int × (Int × (Y8 × Bool)))) × Unit)(d c:Int)(g:T):Z77 :=
 let b:Z77:=(some (((a.1,a.2.1,()),()),(0,7,())));cond (ilt d 0) b (cond (ile a.1 d) b (cond (ilt c 0) b (cond (ile a.1 c) b (cond (ile 400 a.2.1.length)
 (some (((a.1,a.2.1,()),()),(0,3,()))) (qa (qh0 m (re g)) λ e=>cond (qd (ieq e.2 0)) (some (((a.1,a.2.1,()),()),(0,e.2,()))) (qa (qhY m e.1) λ f =>
 cond (zo (List.length a.2.1+1) 40) (some (((a.1,a.2.1++[(d,(c,(f,true)))],()),()),(iw .i64 (zp (List.length (a.2.1++[(d,(c,(f,true)))])) 1),0,()))) none))))))
def qak:Nat->Z81:=qh (λ _ _ _ _=>none) λ m _=>qc4 m
def qbS(m:Nat)(d:(Int) × (List (Int × (Int × (Y8 × Bool)))) × Unit)(e:Int):Z83 :=
 qa (jz m (d.1,d.2.1,()) e) λ a=>qhr a.2.1 (cond (ieq a.2.2.1 0) none (some (((a.1.1.1,a.1.1.2.1,()),()),(a.2.2.1,())))) λ c=>qa (qb a.1.1.2.1 c) λ b =>
 cond (ieq a.2.2.1 0) (some (((a.1.1.1,yq a.1.1.2.1 c (b.1,(b.2.1,(b.2.2.1,false))),()),()),(a.2.2.1,()))) (some (((a.1.1.1,a.1.1.2.1,()),()),(a.2.2.1,())))
def qaZ:Nat->qPv:=qh (λ _ _=>none) λ m _=>qbS m
def QC(m:Nat)(c:qPJ)(a:(Int) × (List (Int × (Int × (Y8 × Bool)))) × Unit)(b:Int):qu2 :=
 c b a.2.1.length 0 a.1 a.2.1 []
def QD(m:Nat)(g:qPJ)(f e a d:Int)(c:List (Int × (Int × (Y8 × Bool))))(b:List (Int)):qu2 :=
 cond (ilt a e) (qa (qb c a) λ h=>cond h.2.2.2 (cond (ieq h.2.1 f) (cond (zo (List.length b+1) 8) (g f e (iw .i64 (qe a 1)) d c (b++[a])) none) (g f e (iw .i64 (qe a 1)) d c b))
 (g f e (iw .i64 (qe a 1)) d c b)) (some (((d,c,()),()),(b,())))
def yd(m:Nat):=qJ (λ _ _ _ _ _ _=>none) λ a=>QD m a
def JN:Nat->qO3:=qh (λ _ _=>none) λ m _=>QC m (yd m m)
def qcX(m:Nat)(a:(Int) × (List (Int × (Int × (Y8 × Bool)))) × Unit)(b:Int)(d:Bool):Z83 :=
 cond (ilt b 0) (some (((a.1,a.2.1,()),()),(4,()))) (cond (ile a.2.1.length b) (some (((a.1,a.2.1,()),()),(4,()))) (cond d (qa (qb a.2.1 b) λ c=>cond (qd c.2.2.2)
 (some (((a.1,a.2.1,()),()),(9,()))) (some (((a.1,a.2.1,()),()),(0,())))) (some (((a.1,a.2.1,()),()),(0,())))))
def jw:Nat->(Z3->Int->Bool->Z83):=qh (λ _ _ _=>none) λ m _=>qcX m
def qbN(m:Nat)(d:(Int) × (List (Int × (Int × (Y8 × Bool)))) × Unit)(c:Int):Z77 :=
 qa (jw m (d.1,d.2.1,()) c false) λ a=>cond (qd (ieq a.2.1 0)) (some (((a.1.1.1,a.1.1.2.1,()),()),(0,a.2.1,()))) (cond (ile 400 a.1.1.2.1.length)
 (some (((a.1.1.1,a.1.1.2.1,()),()),(0,3,()))) (qa (qb a.1.1.2.1 c) λ b=>cond (zo (List.length a.1.1.2.1+1) 40)
 (some (((a.1.1.1,a.1.1.2.1++[(b.1,(b.2.1,(b.2.2.1,true)))],()),()),(iw .i64 (zp (List.length (a.1.1.2.1++[(b.1,(b.2.1,(b.2.2.1,true)))])) 1),0,()))) none))
def qaX:Nat->Z96:=qh (λ _ _=>none) λ m _=>qbN m
def qj4(m:Nat)(a:Y8):Z76 :=
 cond (ilt a.length 4) (some ([],2)) (cond (inb a.length a.length) (cond (inb 4 (Int.toNat a.length)) (qa (qhY m (QO a 4 a.length)) λ b=>cond (qd (qx b a)) (some ([],19))
 (cond (inb a.length a.length) (cond (inb 4 (Int.toNat a.length)) (some (QO a 4 a.length,0)) none) none)) none) none)
def qk6:Nat->(Y8->Z76):=qh (λ _=>none) λ m _=>qj4 m
def qbT(m:Nat)(e:qHK)(b:Y8)(a:Int):qr9 :=
 qa (qb b a) λ d=>let j1:qr9:=(some (T.mk 2 [] (iw .i64 ((UInt8.toNat d:Nat):Int)) [],iw .i64 (qe a 1),false));
 cond (ile b.length (iw .i64 (qe a 1))) j1 (qa (qb b (iw .i64 (qe a 1))) λ c =>
 cond (ilt (iw .i64 ((UInt8.toNat c:Nat):Int)) 1) j1 (cond (ilt 24 (iw .i64 ((UInt8.toNat c:Nat):Int))) j1 (e b a (iw .i64 ((UInt8.toNat c:Nat):Int)) 1 0 [] 0 2 [] (iw .i64 ((UInt8.toNat d:Nat):Int)) [] [])))
def qgl(m:Nat)(o:qHK)(e:Y8)(a d c l:Int)(k:Y8)(j g:Int)(h:Y8)(f:Int)(i b:TL):qr9 :=
 cond (ile c d) (cond (ile e.length (iw .i64 (qe (iw .i64 (qe a 1)) c))) (some (T.mk g h f b,iw .i64 (qe (iw .i64 (qe a 1)) c),false)) (cond (inb (iw .i64 (qe (iw .i64 (qe a 2)) c)) e.length)
 (cond (inb (iw .i64 (qe a 2)) (Int.toNat (iw .i64 (qe (iw .i64 (qe a 2)) c)))) (qa (qaj m (QO e (iw .i64 (qe a 2)) (iw .i64 (qe (iw .i64 (qe a 2)) c)))) λ n=>cond (qd n)
 (some (T.mk g h f b,iw .i64 (qe (iw .i64 (qe a 1)) c),false)) (o e a d (iw .i64 (qe c 1)) l k j g h f i b)) none) none)) (cond (inb (iw .i64 (qe (iw .i64 (qe a 2)) d)) e.length)
 (cond (inb (iw .i64 (qe a 2)) (Int.toNat (iw .i64 (qe (iw .i64 (qe a 2)) d)))) (some (T.mk g (QO e (iw .i64 (qe a 2))
 (iw .i64 (qe (iw .i64 (qe a 2)) d))) f b,iw .i64 (qe (iw .i64 (qe a 2)) d),true)) none) none)
def jK(m:Nat):=qJ (λ _ _ _ _ _ _ _ _ _ _ _ _=>none) λ a=>qgl m a
def qdA:Nat->qC8:=qh (λ _ _=>none) λ m _=>qbT m (jK m m)
def qgx(m:Nat)(k:qOw)(b:Y8)(a:Int)(d:Y8):qqX :=
 qa (qdP m d) λ j=>cond (qd j) (qa (qgy m) λ i=>k b a d i 0) (let c:qqX:=(some (0,a,false));let j2:qqX:=(qa (qb b a) λ g =>
 cond (ilt 8 ((UInt8.toNat g:Nat):Int)) c (qa (qb b a) λ f=>some (iw .i64 ((UInt8.toNat f:Nat):Int),iw .i64 (qe a 1),true)));cond (qx d [110,101,119])
 (cond (ile b.length a) c (qa (qb b a) λ h=>cond (ilt (iw .i64 ((UInt8.toNat h:Nat):Int)) 1) c j2)) (cond (ile b.length a) c (qa (qb b a) λ e =>
 cond (ilt (iw .i64 ((UInt8.toNat e:Nat):Int)) 2) c j2)))
def qj3(m:Nat)(o:qOw)(b:Y8)(a:Int)(f:Y8)(e:List (Y8 × (Int × (Int × Int))))(d:Int):qqX :=
 cond (ilt d e.length) (qa (qb e d) λ n=>cond (qx n.1 f) (qa (qb e d) λ l=>some (l.2.1,a,true)) (o b a f e (iw .i64 (qe d 1)))) (let c:qqX:=(some (0,a,false));
 let g:qqX:=(qa (qb b a) λ j=>cond (ilt 8 ((UInt8.toNat j:Nat):Int)) c (qa (qb b a) λ i=>some (iw .i64 ((UInt8.toNat i:Nat):Int),iw .i64 (qe a 1),true)));
 cond (qx f [110,101,119]) (cond (ile b.length a) c (qa (qb b a) λ k=>cond (ilt (iw .i64 ((UInt8.toNat k:Nat):Int)) 1) c g)) (cond (ile b.length a) c (qa (qb b a) λ h =>
 cond (ilt (iw .i64 ((UInt8.toNat h:Nat):Int)) 2) c g)))
def qbc(m:Nat):=qJ (λ _ _ _ _ _=>none) λ a=>qj3 m a
def qdp:Nat->(Y8->Int->Y8->qqX):=qh (λ _ _ _=>none) λ m _=>qgx m (qbc m m)
def qaA(m:Nat)(a:qC8)(o:qHK)(c:Y8)(b:Int):qr9 :=
 let g:qr9:=(some (T.mk 0 [] 0 [],b,false));cond (ile c.length b) g (qa (qb c b) λ n=>cond (ile ((UInt8.toNat n:Nat):Int) 5) (qa (qdA m c b) λ f =>
 some (re f.1,f.2.1,f.2.2)) (qa (qb c b) λ l=>cond (ilt ((UInt8.toNat l:Nat):Int) 16) g (qa (qb c b) λ k=>qa (qjq m) λ j=>cond (ile (iw .i64 (qe 16 j.length))
 (iw .i64 ((UInt8.toNat k:Nat):Int))) g (qa (qjq m) λ i=>qa (qb c b) λ h=>qa (qb i (iw .i64 (zp (iw .i64 ((UInt8.toNat h:Nat):Int)) 16))) λ e =>
 qa (qdp m c (iw .i64 (qe b 1)) e) λ d=>cond (qd d.2.2) (some (T.mk 3 e 0 [],d.2.1,false)) (o c d.1 d.2.1 0 0 [] 0 3 e 0 [] [])))))
def qdR(m:Nat)(a:qC8)(p:qHK)(k:Y8)(j i h o:Int)(n:Y8)(l f:Int)(e:Y8)(d:Int)(g b:TL):qr9 :=
 cond (ilt h j) (qa (a k i) λ c=>cond (qd c.2.2) (some (T.mk f e d b,c.2.1,false)) (cond (zo (List.length b+1) 56)
 (p k j c.2.1 (iw .i64 (qe h 1)) o n l f e d g (b++[re c.1])) none)) (some (T.mk f e d b,i,true))
def Qu(m:Nat)(a:qC8):=qJ (λ _ _ _ _ _ _ _ _ _ _ _ _=>none) λ b=>qdR m a b
def qV:Nat->qC8:=qh (λ _ _=>none) λ m a=>qaA m a (Qu m a m)
def qhQ(m:Nat)(b:Y8):Z90 :=
 qa (qV m b 0) λ a=>cond (qd a.2.2) (some (T.mk 0 [] 0 [],a.2.1,2)) (cond (qd (ieq a.2.1 b.length)) (some (T.mk 0 [] 0 [],a.2.1,2)) (qa (ja m (re a.1)) λ f =>
 cond (ilt 400 f) (some (T.mk 0 [] 0 [],0,3)) (qa (jo m (re a.1)) λ e=>cond (ilt 40 e) (some (T.mk 0 [] 0 [],0,3)) (qa (qd2 m (re a.1)) λ d=>cond (qd (ieq d 0))
 (some (T.mk 0 [] 0 [],0,10)) (qa (qgb m (re a.1)) λ c=>cond (qd c) (some (T.mk 0 [] 0 [],0,10)) (some (re a.1,0,0)))))))
def qh2:Nat->Z91:=qh (λ _=>none) λ m _=>qhQ m
def qbt(m:Nat)(g:(Int) × (List (Int × (Int × (Y8 × Bool)))) × Unit)(c:Int):Z92 :=
 qa (jw m (g.1,g.2.1,()) c true) λ b=>cond (qd (ieq b.2.1 0)) (some (((b.1.1.1,b.1.1.2.1,()),()),(T.mk 0 [] 0 [],0,b.2.1,()))) (qa (qb b.1.1.2.1 c) λ a =>
 qa (qb (yq b.1.1.2.1 c (a.1,(a.2.1,(a.2.2.1,false)))) c) λ f=>qa (qb (yq b.1.1.2.1 c (a.1,(a.2.1,(a.2.2.1,false)))) c) λ h=>qa (qk6 m h.2.2.1) λ e =>
 cond (qd (ieq e.2 0)) (some (((b.1.1.1,yq b.1.1.2.1 c (a.1,(a.2.1,(a.2.2.1,false))),()),()),(T.mk 0 [] 0 [],f.2.1,e.2,()))) (qa (qh2 m e.1) λ d=>cond (qd (ieq d.2.2 0))
 (some (((b.1.1.1,yq b.1.1.2.1 c (a.1,(a.2.1,(a.2.2.1,false))),()),()),(T.mk 0 [] 0 [],f.2.1,d.2.2,())))
 (some (((b.1.1.1,yq b.1.1.2.1 c (a.1,(a.2.1,(a.2.2.1,false))),()),()),(re d.1,f.2.1,0,())))))
def qau:Nat->Z93:=qh (λ _ _=>none) λ m _=>qbt m
def qc3(m:Nat)(d:(Int) × (List (Int × (Int × (Y8 × Bool)))) × Unit)(c:Int):Z83 :=
 qa (jw m (d.1,d.2.1,()) c true) λ a=>cond (qd (ieq a.2.1 0)) (some (((a.1.1.1,a.1.1.2.1,()),()),(a.2.1,()))) (qa (qb a.1.1.2.1 c) λ b =>
 some (((a.1.1.1,yq a.1.1.2.1 c (b.1,(b.2.1,(b.2.2.1,false))),()),()),(0,())))
def qbZ:Nat->qPv:=qh (λ _ _=>none) λ m _=>qc3 m
def qcu(m:Nat)(g:(Int) × (List (Int × (Int × (Y8 × Bool)))) × Unit)(d c f:Int):Z83 :=
 qa (jw m (g.1,g.2.1,()) d true) λ b=>cond (qd (ieq b.2.1 0)) (some (((b.1.1.1,b.1.1.2.1,()),()),(b.2.1,()))) (qa (qb b.1.1.2.1 d) λ a=>cond (ilt c 0)
 (some (((b.1.1.1,b.1.1.2.1,()),()),(7,()))) (cond (ile a.2.2.1.length c) (some (((b.1.1.1,b.1.1.2.1,()),()),(7,()))) (cond (inb c a.2.2.1.length) (cond (inb 0 (Int.toNat c))
 (cond (qgE (QO a.2.2.1 0 c) (qC [f])) (cond (inb a.2.2.1.length a.2.2.1.length) (cond (inb (iw .i64 (qe c 1)) (Int.toNat a.2.2.1.length)) (cond (qgE ((QO a.2.2.1 0 c)++(qC [f]))
 (QO a.2.2.1 (iw .i64 (qe c 1)) a.2.2.1.length)) (qa (qb b.1.1.2.1 d) λ e =>
 some (((b.1.1.1,yq b.1.1.2.1 d (e.1,(e.2.1,(((QO a.2.2.1 0 c)++(qC [f]))++(QO a.2.2.1 (iw .i64 (qe c 1)) a.2.2.1.length),e.2.2.2))),()),()),(0,()))) none) none) none) none) none) none)))
def qbH:Nat->Z84:=qh (λ _ _ _ _=>none) λ m _=>qcu m
def JJ(m:Nat)(c:qN8)(a b:List Int):Z4 :=
 cond (qd (ieq a.length b.length)) (some false) (c a b a.length 0)
def JF(m:Nat)(g:qN8)(d c:List (Int))(b a:Int):Z4 :=
 cond (ilt a b) (qa (qb d a) λ f=>qa (qb c a) λ e=>cond (qd (ieq f e)) (some false) (g d c b (iw .i64 (qe a 1)))) (some true)
def yO(m:Nat):=qJ (λ _ _ _ _=>none) λ a=>JF m a
def qaW:Nat->((List Int)->(List Int)->Z4):=qh (λ _ _=>none) λ m _=>JJ m (yO m m)
def Jh(m:Nat)(c:qO4)(a:(Int) × (List (Int × (Int × (Y8 × Bool)))) × Unit)(b:Int):qu2 :=
 c b 0 a.1 a.2.1 []
def Jp(m:Nat)(f:qO4)(e b d:Int)(a:List (Int × (Int × (Y8 × Bool))))(c:List (Int)):qu2 :=
 cond (ilt b a.length) (qa (qb a b) λ h=>cond h.2.2.2 (qa (qb a b) λ g=>cond (ieq g.2.1 e) (cond (zo (List.length c+1) 8) (f e (iw .i64 (qe b 1)) d a (c++[b])) none)
 (f e (iw .i64 (qe b 1)) d a c)) (f e (iw .i64 (qe b 1)) d a c)) (some (((d,a,()),()),(c,())))
def yy(m:Nat):=qJ (λ _ _ _ _ _=>none) λ a=>Jp m a
def qao:Nat->qO3:=qh (λ _ _=>none) λ m _=>Jh m (yy m m)
def qcn(m:Nat)(c:(Int) × (List (Int × (Int × (Y8 × Bool)))) × Unit)(b:Int):qKt :=
 qa (jw m (c.1,c.2.1,()) b false) λ a=>cond (qd (ieq a.2.1 0)) (some (((a.1.1.1,a.1.1.2.1,()),()),([],a.2.1,()))) (qa (qb a.1.1.2.1 b) λ d =>
 some (((a.1.1.1,a.1.1.2.1,()),()),(d.2.2.1,0,())))
def qbC:Nat->qPK:=qh (λ _ _=>none) λ m _=>qcn m
def qn2(m:Nat)(c b:(Int) × (List (Int × (Int × (Y8 × Bool)))) × Unit)(a:Int × (Int × (Int × (Int × (T × Int))))):qPo :=
 cond (ieq (ye a.1 7) 0) (qa (jH m (c.1,c.2.1,()) a.2.1 a.2.2.1 (re a.2.2.2.2.1)) λ p=>qa (qak m (b.1,b.2.1,()) a.2.1 a.2.2.1 (re a.2.2.2.2.1)) λ o =>
 cond (ieq p.2.1 o.2.1) (some (((p.1.1.1,p.1.1.2.1,()),(o.1.1.1,o.1.1.2.1,()),()),(ieq p.2.2.1 o.2.2.1,()))) (some (((p.1.1.1,p.1.1.2.1,()),(o.1.1.1,o.1.1.2.1,()),()),(false,()))))
 (cond (ieq (ye a.1 7) 1) (qa (z8 m (c.1,c.2.1,()) a.2.1) λ g=>qa (qau m (b.1,b.2.1,()) a.2.1) λ f=>qa (QF m (re g.2.1)
 (re f.2.1)) λ t=>cond t (cond (ieq g.2.2.1 f.2.2.1) (some (((g.1.1.1,g.1.1.2.1,()),(f.1.1.1,f.1.1.2.1,()),()),(ieq g.2.2.2.1 f.2.2.2.1,())))
 (some (((g.1.1.1,g.1.1.2.1,()),(f.1.1.1,f.1.1.2.1,()),()),(false,())))) (some (((g.1.1.1,g.1.1.2.1,()),(f.1.1.1,f.1.1.2.1,()),()),(false,())))) (cond (ieq (ye a.1 7) 2)
 (qa (qaZ m (c.1,c.2.1,()) a.2.1) λ r=>qa (qbZ m (b.1,b.2.1,()) a.2.1) λ q =>
 some (((r.1.1.1,r.1.1.2.1,()),(q.1.1.1,q.1.1.2.1,()),()),(ieq r.2.1 q.2.1,()))) (cond (ieq (ye a.1 7) 3) (qa (Qt m (c.1,c.2.1,()) a.2.1) λ n =>
 qa (qaX m (b.1,b.2.1,()) a.2.1) λ l=>cond (ieq n.2.1 l.2.1) (some (((n.1.1.1,n.1.1.2.1,()),(l.1.1.1,l.1.1.2.1,()),()),(ieq n.2.2.1 l.2.2.1,())))
 (some (((n.1.1.1,n.1.1.2.1,()),(l.1.1.1,l.1.1.2.1,()),()),(false,())))) (cond (ieq (ye a.1 7) 4) (qa (Q0 m (c.1,c.2.1,()) a.2.1 a.2.2.1 a.2.2.2.1) λ k =>
 qa (qbH m (b.1,b.2.1,()) a.2.1 a.2.2.1 a.2.2.2.1) λ j=>some (((k.1.1.1,k.1.1.2.1,()),(j.1.1.1,j.1.1.2.1,()),()),(ieq k.2.1 j.2.1,()))) (cond (ieq (ye a.1 7) 5)
 (qa (JN m (c.1,c.2.1,()) a.2.1) λ i=>qa (qao m (b.1,b.2.1,()) a.2.1) λ h=>qa (qaW m i.2.1 h.2.1) λ s =>
 some (((i.1.1.1,i.1.1.2.1,()),(h.1.1.1,h.1.1.2.1,()),()),(s,()))) (qa (qan m (c.1,c.2.1,()) a.2.1) λ e =>
 qa (qbC m (b.1,b.2.1,()) a.2.1) λ d=>cond (qx e.2.1 d.2.1) (some (((e.1.1.1,e.1.1.2.1,()),(d.1.1.1,d.1.1.2.1,()),()),(ieq e.2.2.1 d.2.2.1,())))
 (some (((e.1.1.1,e.1.1.2.1,()),(d.1.1.1,d.1.1.2.1,()),()),(false,())))))))))
def qlk:Nat->(Z3->Z3->(Int × (Int × (Int × (Int × (T × Int)))))->qPo):=qh (λ _ _ _=>none) λ m _=>qn2 m
def qlG(m:Nat)(a:Int):qN3 :=
 cond (ilt a 1) (some ((()),((0,[],()),7,()))) (cond (ilt 16 a) (some ((()),((0,[],()),7,()))) (some ((()),((a,[],()),0,()))))
def qnp:Nat->(Int->qN3):=qh (λ _=>none) λ m _=>qlG m
def qdz(m:Nat)(e:qOB)(d:List (Int × (Int × (Int × (Int × (T × Int)))))):qBj :=
 qa (qjk m 4) λ a=>let j1:qBj:=(some ((()),(none,none,false,())));qhr a.2.1 (qa (qnp m 4) λ f=>cond (qd (ieq a.2.2.1 0)) j1 j1) λ c=>qa (qnp m 4) λ b =>
 cond (qd (ieq a.2.2.1 0)) j1 (e d d.length 0 c.1 b.2.1.1 c.2.1 b.2.1.2.1)
def qdE(m:Nat)(j:qOB)(i:List (Int × (Int × (Int × (Int × (T × Int))))))(h c g f:Int)(e d:List (Int × (Int × (Y8 × Bool)))):qBj :=
 cond (ilt c h) (qa (qb i c) λ a=>qa (qlk m (g,e,()) (f,d,()) (a.1,(a.2.1,(a.2.2.1,(a.2.2.2.1,(re a.2.2.2.2.1,a.2.2.2.2.2)))))) λ b=>cond (qd b.2.1)
 (some ((()),(none,none,false,()))) (j i h (iw .i64 (qe c 1)) b.1.1.1 b.1.2.1.1 b.1.1.2.1 b.1.2.1.2.1)) (some ((()),(some (g,e,()),some (f,d,()),true,())))
def Jo(m:Nat):=qJ (λ _ _ _ _ _ _ _=>none) λ a=>qdE m a
def qgs:Nat->(Z98->qBj):=qh (λ _=>none) λ m _=>qdz m (Jo m m)
def JH(m:Nat)(r:qPx)(i g:List (Int × (Int × (Int × (Int × (T × Int))))))(d:T):Z4 :=
 qa (qgc m) λ q=>let j1:Z4:=(qa (qgc m) λ n=>some n);cond (qd q) j1 (qa (qjz m i) λ l=>cond (qd l) j1 (qa (qjz m g) λ k =>
 cond (qd k) j1 (qa (qm4 m (re d)) λ j=>cond (qd j) j1 (qa (qgs m i) λ e=>qhr e.2.1 (let h:Z4:=(cond (qd e.2.2.2.1) (some false) none);qhr e.2.2.1 h λ o =>
 h) λ c=>qhr e.2.2.1 (cond (qd e.2.2.2.1) (some false) (qa (jH m (c.1,c.2.1,()) 1 2 (re d)) λ p=>none)) λ f=>cond (qd e.2.2.2.1) (some false)
 (qa (jH m (c.1,c.2.1,()) 1 2 (re d)) λ a=>qa (qak m (f.1,f.2.1,()) 1 2 (re d)) λ b=>let j3:Z4:=(cond (ieq a.2.2.1 b.2.2.1)
 (some (ieq a.2.1 b.2.1)) (some false));
 cond (qd (ieq a.2.2.1 b.2.2.1)) j3 (cond (qd (ieq a.2.1 b.2.1)) j3 (cond (qd (ieq a.2.2.1 0)) j3 (r a.2.1 g g.length 0 d.kind d.name d.sort d.kids a.1.1.1 b.1.1.1 a.1.1.2.1 b.1.1.2.1))))))))
def JI(m:Nat)(q:qPx)(d:Int)(o:List (Int × (Int × (Int × (Int × (T × Int))))))(n g l:Int)(k:Y8)(j:Int)(i:TL)(h p:Int)(b c:List (Int × (Int × (Y8 × Bool)))):Z4 :=
 cond (ilt g n) (qa (qb o g) λ a=>let j1:Z4:=(qa (qlk m (h,b,()) (p,c,()) (a.1,(a.2.1,(a.2.2.1,(a.2.2.2.1,(re a.2.2.2.2.1,a.2.2.2.2.2)))))) λ f=>cond (qd f.2.1)
 (some false) (q d o n (iw .i64 (qe g 1)) l k j i f.1.1.1 f.1.2.1.1 f.1.1.2.1 f.1.2.1.2.1));cond (ieq a.2.1 d) (cond (ile 1 (ye a.1 7)) (cond (ile (ye a.1 7) 4) (cond (qd (ieq (ye a.1 7) 3))
 (q d o n (iw .i64 (qe g 1)) l k j i h p b c) j1) j1) j1) j1) (qa (z8 m (h,b,()) d) λ e=>qa (z8 m (e.1.1.1,e.1.1.2.1,()) d) λ s =>
 cond (ieq e.2.2.2.1 0) (cond (ieq e.2.2.1 2) (qa (QF m (re e.2.1) (T.mk l k j i)) λ r=>cond r (some (ieq s.2.2.2.1 9)) (some false)) (some false)) (some false))
def yh(m:Nat):=qJ (λ _ _ _ _ _ _ _ _ _ _ _ _=>none) λ a=>JI m a
def law31_NetworkCarries:Nat->(Z98->Z98->T->Z4):=qh (λ _ _ _=>none) λ m _=>JH m (yh m m)
end
end Go.AmZ
namespace Go.AmZ
open Go Go.GxZ
def Ev{α : Type}(F:Nat->Nat->Option α)(r : α):Prop:=∃ B,∀ m k,B<=m->B<=k->F m k=some r
section
variable {α β : Type} {F G:Nat->Nat->Option α} {r : α}
theorem Ev.pure(r : α):Ev (λ _ _=>some r) r:=⟨0,λ _ _ _ _=>rfl⟩
theorem Ev.ret{r a : α}(h:r=a):Ev (λ _ _=>some r) a:=by subst h;exact .pure r
theorem Ev.bind{X:Nat->Nat->Option β}{K:Nat->Nat -> β -> Option α}{a : β}(h:Ev X a)(g:Ev (λ m k=>K m k a) r):Ev (λ m k=>qa (X m k) (K m k)) r:=by
 obtain⟨B,h⟩:=h;obtain⟨C,g⟩:=g;refine⟨max B C,λ m k b c=>?_⟩;simp only[h m k (by omega) (by omega),qa];exact g m k (by omega) (by omega)
theorem Ev.congr(h:Ev F r)(e:∀ m k,G m k=F m k):Ev G r:=by
 obtain⟨B,h⟩:=h;exact⟨B,λ m k a b=>(e m k).trans (h m k a b)⟩
theorem Ev.res{a : α}(h:Ev F r)(e:r=a):Ev F a:=by subst e;exact h
theorem Ev.succ{f:Nat->Option α}(h:Ev (λ m _=>f (m+1)) r):Ev (λ m _=>f m) r:=by
 obtain⟨B,h⟩:=h;refine⟨B+1,λ m k a b=>?_⟩;obtain⟨m,rfl⟩:∃ n,m=n+1:=⟨m-1,by omega⟩
 exact h m B (by omega) (wb _)
theorem Ev.loop{L:Nat->Nat->Option α}(h:Ev (λ m k=>L m (k+1)) r):Ev (λ m k=>L m k) r:=by
 obtain⟨B,h⟩:=h;refine⟨B+1,λ m k a b=>?_⟩;obtain⟨k,rfl⟩:∃ n,k=n+1:=⟨k-1,by omega⟩
 exact h m k (by omega) (by omega)
theorem Ev.diag{L:Nat->Nat->Option α}(h:Ev L r):Ev (λ m _=>L m m) r:=by
 obtain⟨B,h⟩:=h;exact⟨B,λ m k a _=>h m m a a⟩
theorem Ev.ct{b:Bool}(a:b=true)(h:Ev F r):Ev (λ m k=>cond b (F m k) (G m k)) r:=by subst a;exact h
theorem Ev.cf{b:Bool}(a:b=false)(h:Ev G r):Ev (λ m k=>cond b (F m k) (G m k)) r:=by subst a;exact h
theorem Ev.ite{b:Bool}(h:b=true->Ev F r)(g:b=false->Ev G r):Ev (λ m k=>cond b (F m k) (G m k)) r:=by
 cases b with
 | true=>exact h rfl
 | false=>exact g rfl
theorem Ev.some{x:Option β}{K:Nat->Nat -> β -> Option α}{a : β}(b:x=some a)(g:Ev (λ m k=>K m k a) r):Ev (λ m k=>qa x (K m k)) r:=by subst b;exact g
theorem Ev.case{l:List β}{K:Nat->Nat -> β -> List β -> Option α}(h:l=[]->Ev F r)(g:∀ x t,l=x::t->Ev (λ m k=>K m k x t) r):Ev (λ m k=>qkU l (F m k) (K m k)) r:=by
 cases l with
 | nil=>exact h rfl
 | cons x t=>exact g x t rfl
theorem Ev.get{x:Option α}(h:Ev (λ _ _=>x) r):x=Option.some r:=by
 obtain⟨B,h⟩:=h;exact h B B (wb _) (wb _)
end
theorem qr{a b:Int}:ilt a b=true↔a<b:=by unfold ilt;exact decide_eq_true_iff
theorem qm{a b:Int}:ilt a b=false↔b<=a:=by unfold ilt;rw[decide_eq_false_iff_not];omega
theorem yT{a b:Int}:ile a b=true↔a<=b:=by unfold ile;exact decide_eq_true_iff
theorem yo{a b:Int}:ile a b=false↔b<a:=by unfold ile;rw[decide_eq_false_iff_not];omega
theorem qj{a b:Int}:ieq a b=true↔a=b:=by unfold ieq;exact beq_iff_eq
theorem qg{a b:Int}:ieq a b=false↔a≠b:=by unfold ieq;exact beq_eq_false_iff_ne
theorem bnt{b:Bool}:qd b=true↔b=false:=by cases b<;>simp[qd]
theorem bnf{b:Bool}:qd b=false↔b=true:=by cases b<;>simp[qd]
theorem yV{a b:List UInt8}:qx a b=true↔a=b:=by unfold qx;exact beq_iff_eq
theorem jR{a b:List UInt8}:qx a b=false↔a≠b:=by unfold qx;exact beq_eq_false_iff_ne
theorem jS{n:Int}(h:-9223372036854775808<=n/\n<=9223372036854775807):iw .i64 n=n:=IntWalk.i64_in n h
theorem qiG(a b:Nat):qe (a:Int) (b:Int)=((a+b:Nat):Int):=by unfold qe;omega
theorem qE{n b:Nat}(h:n*b<=2 ^ 47)(a:0<b):zo n b=true:=by
 unfold zo;rw[decide_eq_true_iff];refine⟨h,?_⟩;have:n*1<=n*b:=vP _ a;omega
theorem zb{α : Type}(l:List α)(i:Nat):qb l (i:Int)=l[i]?:=by
 unfold qb;rw[if_pos (by omega),wF]
theorem qag{α : Type}(l:List α):qb l 0=l[0]?:=zb l 0
theorem qp{α : Type}{P:Nat->Prop}(l:List α)(g:l.length<2 ^ 62)(e:ilt (l.length:Int) (l.length:Int)=false->P l.length)
  (b:∀(i:Nat) (x : α),l[i]?=some x->l.drop i=x::l.drop (i+1)->ilt (i:Int) (l.length:Int)=true->qb l (i:Int)=some x->iw .i64 (qe (i:Int) 1)=((i+1:Nat):Int)->P (i+1)->P i):∀ i,i<=l.length->P i:=by
 intro i h;obtain⟨d,j⟩:∃ d,l.length=i+d:=⟨l.length-i,by omega⟩
 induction d generalizing i with
 | zero =>
   have:i=l.length:=by omega
   subst this;exact e (qm.2 (vm _))
 | succ d f =>
   have c:i<l.length:=by omega
   have a:=List.getElem?_eq_getElem c;refine b i _ a (waa c) (qr.2 (by omega)) (by rw[zb,a]) ?_ (f (i+1) (by omega) (by omega));rw[show qe (i:Int) 1=((i+1:Nat):Int) by unfold qe;omega,jS (by omega)]
abbrev wau:=@Ev.bind
abbrev wav:=@Ev.pure
abbrev waw:=@Ev.ct
abbrev wax:=@Ev.cf
abbrev way:=@Ev.some
abbrev waz:=@Ev.ite
abbrev waA:=@Ev.ret
abbrev waB:=@Ev.succ
abbrev waC:=@Ev.loop
abbrev waD:=@Ev.diag
end Go.AmZ
namespace Go.AmZ
open Go Go.GxZ
set_option linter.unusedVariables false
theorem qzY(m):qjk (m+1)=qiw m:=rfl
theorem qmO(m):QU (m+1)=qbi m:=rfl
theorem qD2(m):qjv (m+1)=qlp m:=rfl
theorem qAJ(m):qd3 (m+1)=qff m (QG m m):=rfl
theorem qot(m k):(QG m (k+1))=qfu m (QG m k):=rfl
theorem qDu(m):yg (m+1)=qgu m (yg m) (jN m (yg m) m):=rfl
theorem qqt(m k):(jN m (yg m) (k+1))=qgt m (yg m) (jN m (yg m) k):=rfl
theorem qA9(m):yI (m+1)=qjX m:=rfl
theorem qvD(m):qdS (m+1)=qdn m (Jg m m):=rfl
theorem qlH(m k):(Jg m (k+1))=qdL m (Jg m k):=rfl
theorem qw9(m):qF (m+1)=qeD m (qF m) (qU m (qF m) m).1 (qU m (qF m) m).2:=rfl
theorem qnF(m k):(qU m (qF m) (k+1)).1=qeA m (qF m) (qU m (qF m) k).1 (qU m (qF m) k).2:=rfl
theorem qnm(m k):(qU m (qF m) (k+1)).2=qeF m (qF m) (qU m (qF m) k).1 (qU m (qF m) k).2:=rfl
theorem qyA(m):qeW (m+1)=qhy m:=rfl
theorem qod(m):qaL (m+1)=qbR m:=rfl
theorem qr8(m):zJ (m+1)=qbE m (zJ m) (Qb m (zJ m) m):=rfl
theorem qis(m k):(Qb m (zJ m) (k+1))=qbG m (zJ m) (Qb m (zJ m) k):=rfl
theorem qEc(m):qe0 (m+1)=ql0 m:=rfl
theorem qEj(m):Ql (m+1)=qhM m (Ql m) (qcp m (Ql m) m):=rfl
theorem qsi(m k):(qcp m (Ql m) (k+1))=qh8 m (Ql m) (qcp m (Ql m) k):=rfl
theorem qxE(m):qA (m+1)=qew m (qA m) (Qe m (qA m) m):=rfl
theorem qhF(m k):(Qe m (qA m) (k+1))=qb5 m (qA m) (Qe m (qA m) k):=rfl
theorem qdf(m):za (m+1)=qsN (qA m):=rfl
theorem qt6(m):jk (m+1)=qf0 m:=rfl
theorem qcc(m):qI (m+1)=qvO (jk m):=rfl
theorem qBe(m):jC (m+1)=qgB m (jC m) (qbl m (jC m) m):=rfl
theorem qqv(m k):(qbl m (jC m) (k+1))=qgo m (jC m) (qbl m (jC m) k):=rfl
theorem qyB(m):qhX (m+1)=qeG m (J2 m m):=rfl
theorem qmW(m k):(J2 m (k+1))=qey m (J2 m k):=rfl
theorem qAj(m):qnX (m+1)=qiM m:=rfl
theorem qEa(m):qnN (m+1)=qlT m:=rfl
theorem qAs(m):J7 (m+1)=qit m:=rfl
theorem qD9(m):jy (m+1)=ql4 m:=rfl
theorem qtZ(m):qdd (m+1)=qf2 m:=rfl
theorem qge(m):zP (m+1)=je m (qn m m).1 (qn m m).2:=rfl
theorem qaK(m k):(qn m (k+1)).1=jd m (qn m k).1 (qn m k).2:=rfl
theorem qaI(m k):(qn m (k+1)).2=jf m (qn m k).1 (qn m k).2:=rfl
theorem qEA(m):qm8 (m+1)=qhV m (qcl m m):=rfl
theorem qrS(m k):(qcl m (k+1))=qhw m (qcl m k):=rfl
theorem qHb(m):qlY (m+1)=qi8 m (qdj m m):=rfl
theorem qtw(m k):(qdj m (k+1))=qjn m (qdj m k):=rfl
theorem qw8(m):yG (m+1)=qet m (yG m) (QT m (yG m) m):=rfl
theorem qmQ(m k):(QT m (yG m) (k+1))=qez m (yG m) (QT m (yG m) k):=rfl
theorem qyF(m):qhD (m+1)=qeu m (qa7 m m):=rfl
theorem qwi(m k):(qa7 m (k+1))=qhn m (qa7 m k):=rfl
theorem qJe(m):qaq (m+1)=qkM m (qaq m) (qe7 m (qaq m) m):=rfl
theorem qwl(m k):(qe7 m (qaq m) (k+1))=qkI m (qaq m) (qe7 m (qaq m) k):=rfl
theorem qH4(m):qsI (m+1)=qkZ m (qeL m m):=rfl
theorem qwn(m k):(qeL m (k+1))=qkK m (qeL m k):=rfl
theorem qsZ(m):qcg (m+1)=qeK m:=rfl
theorem qtY(m):zu (m+1)=qcJ m (zu m) (QM m (zu m) m):=rfl
theorem qki(m k):(QM m (zu m) (k+1))=qcT m (zu m) (QM m (zu m) k):=rfl
theorem qqQ(m):qaG (m+1)=qdD m:=rfl
theorem Ja(m):qK (m+1)=qG m (qs m m):=rfl
theorem yv(m k):(qs m (k+1))=qH m (qs m k):=rfl
theorem qs5(m):qb6 (m+1)=qeP m:=rfl
theorem qrN(m):zq (m+1)=qbD m (zq m) (jv m (zq m) m):=rfl
theorem qir(m k):(jv m (zq m) (k+1))=qbF m (zq m) (jv m (zq m) k):=rfl
theorem qAm(m):qcj (m+1)=qi1 m:=rfl
theorem quR(m):qa6 (m+1)=qcG m (j7 m m):=rfl
theorem qkw(m k):(j7 m (k+1))=qcR m (j7 m k):=rfl
theorem qvN(m):Ju (m+1)=qds m (qz m m).1 (qz m m).2.1 (qz m m).2.2:=rfl
theorem qmh(m k):(qz m (k+1)).1=qdJ m (qz m k).1 (qz m k).2.1 (qz m k).2.2:=rfl
theorem ql8(m k):(qz m (k+1)).2.1=qdk m (qz m k).1 (qz m k).2.1 (qz m k).2.2:=rfl
theorem qlz(m k):(qz m (k+1)).2.2=qdr m (qz m k).1 (qz m k).2.1 (qz m k).2.2:=rfl
theorem qtb(m):qef (m+1)=qcf m (Qk m m):=rfl
theorem qjH(m k):(Qk m (k+1))=qb4 m (Qk m k):=rfl
theorem qqM(m):qcK (m+1)=qdO m:=rfl
theorem qb1(m):zU (m+1)=zF m (qB m m):=rfl
theorem yA(m k):(qB m (k+1))=qZ m (qB m k):=rfl
theorem qbe(m):zC (m+1)=yk m:=rfl
theorem qs1(m):qeg (m+1)=qeU m:=rfl
theorem qxN(m):qhq (m+1)=qeo m (JY m m):=rfl
theorem qng(m k):(JY m (k+1))=qeE m (JY m k):=rfl
theorem qxD(m):qhm (m+1)=qhx m:=rfl
theorem qvQ(m):yE (m+1)=qdx m (yE m) (Jm m (yE m) m):=rfl
theorem qlM(m k):(Jm m (yE m) (k+1))=qdq m (yE m) (Jm m (yE m) k):=rfl
theorem qvp(m):qgk (m+1)=qgZ m:=rfl
theorem qui(m):qfg (m+1)=qfY m:=rfl
theorem qp3(m):zc (m+1)=qat m (zc m) (yJ m (zc m) m):=rfl
theorem qhd(m k):(yJ m (zc m) (k+1))=qar m (zc m) (yJ m (zc m) k):=rfl
theorem qyE(m):qeT (m+1)=qhi m:=rfl
theorem qmL(m):qc5 (m+1)=qbb m:=rfl
theorem JQ(m):q9 (m+1)=qQ m (qu m m):=rfl
theorem yY(m k):(qu m (k+1))=qP m (qu m k):=rfl
theorem qq8(m):yp (m+1)=qea m:=rfl
theorem qej(m):yz (m+1)=QE m:=rfl
theorem quc(m):zV (m+1)=qcQ m (zV m) (jY m (zV m) m):=rfl
theorem qkk(m k):(jY m (zV m) (k+1))=qcE m (zV m) (jY m (zV m) k):=rfl
theorem qs3(m):qek (m+1)=qe1 m:=rfl
theorem qoy(m):JP (m+1)=qck m:=rfl
theorem qCn(m):qkX (m+1)=qgh m (qbn m m):=rfl
theorem qqz(m k):(qbn m (k+1))=qgD m (qbn m k):=rfl
theorem qDY(m):qjL (m+1)=qmf m:=rfl
theorem qnY(m):jH (m+1)=qbQ m:=rfl
theorem qkO(m):jz (m+1)=qav m:=rfl
theorem qmB(m):Q0 (m+1)=qbq m:=rfl
theorem qD5(m):qm2 (m+1)=qlZ m:=rfl
theorem qn0(m):zg (m+1)=qbJ m:=rfl
theorem qnQ(m):Jd (m+1)=JO m (yi m m):=rfl
theorem qbL(m k):(yi m (k+1))=Qh m (yi m k):=rfl
theorem qcv(m):qw (m+1)=Qi m:=rfl
theorem qn6(m):jB (m+1)=qpU (qw m) m:=rfl
theorem qta(m):qen (m+1)=qeM m:=rfl
theorem qkz(m):z8 (m+1)=qaD m:=rfl
theorem qx8(m):qbf (m+1)=qhL m:=rfl
theorem qDj(m):ja (m+1)=qgw m (ja m) (qbg m (ja m) m):=rfl
theorem qqy(m k):(qbg m (ja m) (k+1))=qgF m (ja m) (qbg m (ja m) k):=rfl
theorem qw1(m):zM (m+1)=qdG m (zM m) (Ji m (zM m) m):=rfl
theorem ql9(m k):(Ji m (zM m) (k+1))=qdm m (zM m) (Ji m (zM m) k):=rfl
theorem qCr(m):QF (m+1)=qj6 m:=rfl
theorem qmk(m):Qt (m+1)=qaS m:=rfl
theorem qyl(m):ji (m+1)=qeB m (ji m) (J3 m (ji m) m):=rfl
theorem qnL(m k):(J3 m (ji m) (k+1))=qeh m (ji m) (J3 m (ji m) k):=rfl
theorem qEs(m):qjB (m+1)=qhG m (qcy m m):=rfl
theorem qrF(m k):(qcy m (k+1))=qho m (qcy m k):=rfl
theorem qD1(m):qm4 (m+1)=qlN m:=rfl
theorem qEF(m):qjz (m+1)=qh5 m (qcm m m):=rfl
theorem qry(m k):(qcm m (k+1))=qhZ m (qcm m k):=rfl
theorem qmI(m):qan (m+1)=qbk m:=rfl
theorem qAK(m):jo (m+1)=qfv m (jo m) (qax m (jo m) m):=rfl
theorem qo0(m k):(qax m (jo m) (k+1))=qfC m (jo m) (qax m (jo m) k):=rfl
theorem qxS(m):qfd (m+1)=qhv m:=rfl
theorem qz3(m):qji (m+1)=qiF m:=rfl
theorem qxc(m):qaj (m+1)=qex m (JV m m):=rfl
theorem qnE(m k):(JV m (k+1))=qeq m (JV m k):=rfl
theorem qDl(m):qkB (m+1)=qjS m:=rfl
theorem qAq(m):jP (m+1)=qfh m (jP m) (qaz m (jP m) m):=rfl
theorem qou(m k):(qaz m (jP m) (k+1))=qfj m (jP m) (qaz m (jP m) k):=rfl
theorem qAc(m):jt (m+1)=qiO m:=rfl
theorem qA5(m):qfi (m+1)=qgj m (qbx m m):=rfl
theorem qqu(m k):(qbx m (k+1))=qgn m (qbx m k):=rfl
theorem qBv(m):qkT (m+1)=qgH m (qbs m m):=rfl
theorem qqF(m k):(qbs m (k+1))=qgq m (qbs m k):=rfl
theorem qxJ(m):qhh (m+1)=qev m (JW m m):=rfl
theorem qnq(m k):(JW m (k+1))=qel m (JW m k):=rfl
theorem qAF(m):jr (m+1)=qfO m (jr m) (Jy m (jr m) m):=rfl
theorem qoO(m k):(Jy m (jr m) (k+1))=qfE m (jr m) (Jy m (jr m) k):=rfl
theorem qAi(m):qd2 (m+1)=qiR m:=rfl
theorem qDX(m):Qm (m+1)=qij m (Qm m) (qcw m (Qm m) m):=rfl
theorem qrh(m k):(qcw m (Qm m) (k+1))=qh4 m (Qm m) (qcw m (Qm m) k):=rfl
theorem qEy(m):qjP (m+1)=qhs m (qct m m):=rfl
theorem qrQ(m k):(qct m (k+1))=qid m (qct m k):=rfl
theorem qD3(m):qnk (m+1)=qh3 m (qcq m m):=rfl
theorem qrl(m k):(qcq m (k+1))=qhK m (qcq m k):=rfl
theorem qCB(m):qkP (m+1)=qgr m (qba m m):=rfl
theorem qqH(m k):(qba m (k+1))=qgC m (qba m k):=rfl
theorem qBH(m):qkY (m+1)=qj2 m:=rfl
theorem qxu(m):qhH (m+1)=qhP m:=rfl
theorem qEi(m):Qo (m+1)=qlR m:=rfl
theorem qGL(m):qci (m+1)=qnS m:=rfl
theorem qvd(m):qgm (m+1)=qgY m:=rfl
theorem qAt(m):qjj (m+1)=qfJ m (qaE m m):=rfl
theorem qok(m k):(qaE m (k+1))=qfA m (qaE m k):=rfl
theorem qCF(m):qky (m+1)=qjW m:=rfl
theorem qEC(m):qnM (m+1)=qhu m (qcs m m):=rfl
theorem qsm(m k):(qcs m (k+1))=qht m (qcs m k):=rfl
theorem qyc(m):qhI (m+1)=qei m (J0 m m):=rfl
theorem qmS(m k):(J0 m (k+1))=qep m (J0 m k):=rfl
theorem qDL(m):qhR (m+1)=qgA m (qai m m):=rfl
theorem qqI(m k):(qai m (k+1))=qgp m (qai m k):=rfl
theorem quH(m):zY (m+1)=qcF m (zY m) (jW m (zY m) m):=rfl
theorem qkn(m k):(jW m (zY m) (k+1))=qcS m (zY m) (jW m (zY m) k):=rfl
theorem qDe(m):qk4 (m+1)=qjT m:=rfl
theorem qEe(m):qnv (m+1)=qii m (qcA m m):=rfl
theorem qr7(m k):(qcA m (k+1))=qhU m (qcA m k):=rfl
theorem qvF(m):qbW (m+1)=qgQ m:=rfl
theorem qAh(m):js (m+1)=qfy m (js m) (Jv m (js m) m):=rfl
theorem qoz(m k):(Jv m (js m) (k+1))=qfm m (js m) (Jv m (js m) k):=rfl
theorem qEn(m):qjt (m+1)=qh6 m (J4 m m):=rfl
theorem qsc(m k):(J4 m (k+1))=qhT m (J4 m k):=rfl
theorem qwS(m):ym (m+1)=qdv m (ym m) (Qn m (ym m) m):=rfl
theorem ql5(m k):(Qn m (ym m) (k+1))=qdo m (ym m) (Qn m (ym m) k):=rfl
theorem qGd(m):qiA (m+1)=qn1 m:=rfl
theorem qAD(m):qd4 (m+1)=qfK m (Jx m m):=rfl
theorem qoC(m k):(Jx m (k+1))=qfI m (Jx m k):=rfl
theorem quO(m):qfw (m+1)=qcN m (ql m m).1 (ql m m).2.1 (ql m m).2.2.1 (ql m m).2.2.2:=rfl
theorem qkp(m k):(ql m (k+1)).1=qcI m (ql m k).1 (ql m k).2.1 (ql m k).2.2.1 (ql m k).2.2.2:=rfl
theorem qkt(m k):(ql m (k+1)).2.1=qcL m (ql m k).1 (ql m k).2.1 (ql m k).2.2.1 (ql m k).2.2.2:=rfl
theorem qku(m k):(ql m (k+1)).2.2.1=qcD m (ql m k).1 (ql m k).2.1 (ql m k).2.2.1 (ql m k).2.2.2:=rfl
theorem qko(m k):(ql m (k+1)).2.2.2=qcH m (ql m k).1 (ql m k).2.1 (ql m k).2.2.1 (ql m k).2.2.2:=rfl
theorem qC9(m):qdH (m+1)=qjV m:=rfl
theorem qwd(m):qdW (m+1)=qgM m:=rfl
theorem qwx(m):qgg (m+1)=qdu m (Jj m m):=rfl
theorem qlF(m k):(Jj m (k+1))=qdM m (Jj m k):=rfl
theorem qEb(m):qmZ (m+1)=qih m (qa4 m m):=rfl
theorem qr3(m k):(qa4 m (k+1))=qie m (qa4 m k):=rfl
theorem qAl(m):qje (m+1)=qi3 m:=rfl
theorem qxI(m):jl (m+1)=qer m (jl m) (JT m (jl m) m):=rfl
theorem qnP(m k):(JT m (jl m) (k+1))=qee m (jl m) (JT m (jl m) k):=rfl
theorem qyx(m):qio (m+1)=qhC m:=rfl
theorem qzZ(m):qgb (m+1)=qfR m (qaC m m):=rfl
theorem qoW(m k):(qaC m (k+1))=qfH m (qaC m k):=rfl
theorem qz4(m):qjg (m+1)=qi5 m:=rfl
theorem qAE(m):qjp (m+1)=qfz m (qaF m m):=rfl
theorem qor(m k):(qaF m (k+1))=qfo m (qaF m k):=rfl
theorem qvK(m):qdP (m+1)=qgL m:=rfl
theorem qAB(m):jp (m+1)=qfn m (jp m) (Jz m (jp m) m):=rfl
theorem qol(m k):(Jz m (jp m) (k+1))=qfB m (jp m) (Jz m (jp m) k):=rfl
theorem qx4(m):qh0 (m+1)=qhS m:=rfl
theorem qAP(m):qja (m+1)=qfQ m (qay m m):=rfl
theorem qoR(m k):(qay m (k+1))=qfF m (qay m k):=rfl
theorem qBm(m):qhY (m+1)=qkg m:=rfl
theorem qpt(m):qak (m+1)=qc4 m:=rfl
theorem qog(m):qaZ (m+1)=qbS m:=rfl
theorem qkV(m):JN (m+1)=QC m (yd m m):=rfl
theorem qd0(m k):(yd m (k+1))=QD m (yd m k):=rfl
theorem qpS(m):jw (m+1)=qcX m:=rfl
theorem qnZ(m):qaX (m+1)=qbN m:=rfl
theorem qDB(m):qk6 (m+1)=qj4 m:=rfl
theorem qlP(m):qdA (m+1)=qbT m (jK m m):=rfl
theorem qqK(m k):(jK m (k+1))=qgl m (jK m k):=rfl
theorem qCk(m):qdp (m+1)=qgx m (qbc m m):=rfl
theorem qzV(m k):(qbc m (k+1))=qj3 m (qbc m k):=rfl
theorem qia(m):qV (m+1)=qaA m (qV m) (Qu m (qV m) m):=rfl
theorem qkc(m k):(Qu m (qV m) (k+1))=qdR m (qV m) (Qu m (qV m) k):=rfl
theorem qxM(m):qh2 (m+1)=qhQ m:=rfl
theorem qmF(m):qau (m+1)=qbt m:=rfl
theorem qpE(m):qbZ (m+1)=qc3 m:=rfl
theorem qoL(m):qbH (m+1)=qcu m:=rfl
theorem qoi(m):qaW (m+1)=JJ m (yO m m):=rfl
theorem qfT(m k):(yO m (k+1))=JF m (yO m k):=rfl
theorem qmP(m):qao (m+1)=Jh m (yy m m):=rfl
theorem qeI(m k):(yy m (k+1))=Jp m (yy m k):=rfl
theorem qoM(m):qbC (m+1)=qcn m:=rfl
theorem qHG(m):qlk (m+1)=qn2 m:=rfl
theorem qD0(m):qnp (m+1)=qlG m:=rfl
theorem qwh(m):qgs (m+1)=qdz m (Jo m m):=rfl
theorem qmj(m k):(Jo m (k+1))=qdE m (Jo m k):=rfl
theorem qn3(m):law31_NetworkCarries (m+1)=JH m (yh m m):=rfl
theorem qfS(m k):(yh m (k+1))=JI m (yh m k):=rfl
end Go.AmZ
namespace Go.AmZ
open Go Go.GxZ
def ckS(p:Int × Int)(c:UInt8):Int × Int:=((p.1+c.toNat) % 65521,(p.2+(p.1+c.toNat) % 65521) % 65521)
def ckF(l:List UInt8):Int × Int:=l.foldl ckS (1,0)
def InC(p:Int × Int):Prop:=0<=p.1/\p.1<65521/\0<=p.2/\p.2<65521
theorem qOc{p:Int × Int}(c:UInt8)(h:InC p):InC (ckS p c):=by
 obtain⟨e,d,b,a⟩:=h;unfold ckS InC;simp only;omega
theorem qu3:∀(l:List UInt8) (p:Int × Int),InC p->InC (l.foldl ckS p)
 | [],_,h=>h
 | c::l,p,h=>qu3 l _ (qOc c h)
theorem qwT(l:List UInt8):InC (ckF l):=qu3 l _ (by unfold InC;omega)
theorem qEZ{p:Int × Int}(c:UInt8)(h:InC p):ye (iw .u32 (qe p.1 (iw .u32 ((UInt8.toNat c:Nat):Int)))) 65521=(ckS p c).1 /\
  ye (iw .u32 (qe p.2 (ye (iw .u32 (qe p.1 (iw .u32 ((UInt8.toNat c:Nat):Int)))) 65521))) 65521=(ckS p c).2:=by
 obtain⟨j,i,g,f⟩:=h;have e:c.toNat<256:=c.toNat_lt;have e1:iw .u32 ((UInt8.toNat c:Nat):Int)=((UInt8.toNat c:Nat):Int):=IntWalk.u32_in _ (by omega);have d:iw .u32 (qe p.1 ((UInt8.toNat c:Nat):Int))=p.1+((UInt8.toNat c:Nat):Int):=IntWalk.u32_in _ (by unfold qe;omega);have b:ye (p.1+((UInt8.toNat c:Nat):Int)) 65521=(p.1+((UInt8.toNat c:Nat):Int)) % 65521:=IntWalk.rem_in _ _ (by omega);rw[e1,d,b];refine⟨rfl,?_⟩;have a:iw .u32 (qe p.2 ((p.1+((UInt8.toNat c:Nat):Int)) % 65521))=p.2+(p.1+((UInt8.toNat c:Nat):Int)) % 65521:=IntWalk.u32_in _ (by unfold qe;omega);rw[a];exact IntWalk.rem_in _ _ (by omega)
def ckN(p:Int × Int):Int:=65536*p.2+p.1
theorem qPW{p:Int × Int}(h:InC p):qmr .or .u32 (qx2 .u32 p.2 16) p.1=ckN p:=by
 obtain⟨h1,h2,h3,h4⟩:=h;obtain⟨a,ha⟩:=ko h1;obtain⟨b,hb⟩:=ko h3
 have e1:qx2 .u32 p.2 16=((b*65536:Nat):Int):=by
  show IntKind.u32.wrap (p.2*2 ^ (min (16:Int).toNat 32))=_;rw[show(2:Int) ^ (min (16:Int).toNat 32)=65536 from rfl,IntWalk.u32_in _ (by omega),hb];omega
 rw[e1,ha];show IntKind.u32.wrap ((BitVec.ofInt 32 ((b*65536:Nat):Int) ||| BitVec.ofInt 32 (a:Int)).toNat:Int)=_
 have e2:(BitVec.ofInt 32 ((b*65536:Nat):Int) ||| BitVec.ofInt 32 (a:Int)).toNat=b*65536+a:=by
  rw[BitVec.ofInt_natCast,BitVec.ofInt_natCast,BitVec.toNat_or,BitVec.toNat_ofNat,BitVec.toNat_ofNat,xr (by omega),xr (by omega)];have:=Nat.two_pow_add_eq_or_of_lt (i:=16) (b:=a) (by omega) b;rw[show(2:Nat) ^ 16=65536 from rfl]at this;rw[xF b 65536];exact this.symm
 rw[e2,IntWalk.u32_in _ (by omega)];unfold ckN;omega
theorem qOk{p:Int × Int}(h:InC p):iw .u32 (qe (iw .u32 (qty 65536 p.2)) p.1)=ckN p:=by
 obtain⟨d,c,b,a⟩:=h;have e1:iw .u32 (qty 65536 p.2)=65536*p.2:=IntWalk.u32_in _ (by unfold qty;omega);rw[e1];exact IntWalk.u32_in _ (by unfold qe;omega)
theorem qJI{p:Int × Int}(h:InC p):0<=ckN p/\ckN p<4294967296:=by
 obtain⟨d,c,b,a⟩:=h;unfold ckN;omega
theorem qwM{l:List UInt8}{i:Nat}{x:UInt8}(h:l[i]?=some x)(p:Int × Int):(l.take (i+1)).foldl ckS p=ckS ((l.take i).foldl ckS p) x:=by
 rw[List.take_succ_eq_append_getElem (List.getElem?_eq_some_iff.1 h).1,xe,(List.getElem?_eq_some_iff.1 h).2];rfl
theorem qJm(s:List UInt8)(d:s.length<2 ^ 62):Ev (λ m _=>qkX m s) (ckN (ckF s)):=by
 refine waB ?_;simp only[qCn,qgh]
 have a:=qp (P := λ i=>Ev (λ m k=>qbn m k s ((s.take i).foldl ckS (1,0)).1 ((s.take i).foldl ckS (1,0)).2 s.length i) (ckN (ckF s))) s d
  (λ b=>by
   refine waC ?_;simp only[qqz,qgD];refine wax b (waA ?_);rw[wC];exact qPW (qwT s))
  (λ i x c j b f e g=>by
   refine waC ?_;simp only[qqz,qgD];refine waw b (way f ?_);obtain⟨e1,h⟩:=qEZ x (qu3 (s.take i) (1,0) (by unfold InC;omega));rw[e,h,e1,<- qwM c];exact g)
 exact waD (L := λ m k=>qbn m k s 1 0 s.length 0) (a 0 (we _))
theorem qHe(s:List UInt8)(d:s.length<2 ^ 62):Ev (λ m _=>qja m s) (ckN (ckF s)):=by
 refine waB ?_;simp only[qAP,qfQ]
 have a:=qp (P := λ i=>Ev (λ m k=>qay m k s ((s.take i).foldl ckS (1,0)).1 ((s.take i).foldl ckS (1,0)).2 i) (ckN (ckF s))) s d
  (λ b=>by
   refine waC ?_;simp only[qoR,qfF];refine wax b (waA ?_);rw[wC];exact qOk (qwT s))
  (λ i x c j b f e g=>by
   refine waC ?_;simp only[qoR,qfF];refine waw b (way f ?_);obtain⟨e1,h⟩:=qEZ x (qu3 (s.take i) (1,0) (by unfold InC;omega));rw[e,h,e1,<- qwM c];exact g)
 exact waD (L := λ m k=>qay m k s 1 0 0) (a 0 (we _))
def ckB(v:Int):List UInt8:=qC [v / 16777216 % 256,v / 65536 % 256,v / 256 % 256,v % 256]
def qap(s:List UInt8):List UInt8:=ckB (ckN (ckF s))++s
theorem qzE(s:List UInt8):(qap s).length=s.length+4:=by
 unfold qap ckB qC;rw[wc,wB];show 4+s.length=_;omega
theorem qGi{v:Int}(n:Nat)(hn:n<=32):qbP .u32 v (n:Int)=v / (2:Int) ^ n:=by
 show v.fdiv (2 ^ (min ((n:Nat):Int).toNat 32))=_;rw[wF,kL hn];exact vW v (by exact Int.le_of_lt (Int.pow_pos (by decide)))
theorem iw8(v:Int):iw .u8 v=v % 256:=IntKind.wrap_u8 v
theorem qGs{v:Int}(h:0<=v/\v<4294967296):qC [iw .u8 (qbP .u32 v 24),iw .u8 (qbP .u32 v 16),iw .u8 (qbP .u32 v 8),iw .u8 v]=ckB v:=by
 have e1:=qGi (v:=v) 24 (by omega);have b:=qGi (v:=v) 16 (by omega);have a:=qGi (v:=v) 8 (by omega);rw[show qbP .u32 v 24=v / 16777216 from e1,show qbP .u32 v 16=v / 65536 from b,show qbP .u32 v 8=v / 256 from a,iw8,iw8,iw8,iw8];rfl
theorem qEz{v:Int}(h:0<=v/\v<4294967296):qC [iw .u8 (iw .u32 (qiN v 16777216)),iw .u8 (ye (iw .u32 (qiN v 65536)) 256),iw .u8 (ye (iw .u32 (qiN v 256)) 256),iw .u8 (ye v 256)]=ckB v:=by
 have q:∀ d:Int,0<d->iw .u32 (qiN v d)=v / d := λ d a=>IntWalk.u32_quo v d ⟨h.1,by omega,by omega⟩;have r:∀ x:Int,0<=x->ye x 256=x % 256 := λ x c=>IntWalk.rem_in _ _ c;have b:∀ d:Int,0<d->0<=v / d := λ d a=>Int.ediv_nonneg h.1 (Int.le_of_lt a);rw[q _ (by omega),q _ (by omega),q _ (by omega),r _ (b _ (by omega)),r _ (b _ (by omega)),r _ h.1,iw8,iw8,iw8,iw8,wat,wat,wat];rfl
theorem qi2{a b:List UInt8}(h:a.length+b.length<2 ^ 62):qgE a b=true:=by
 unfold qgE;rw[decide_eq_true_iff,show IntKind.i64.max=9223372036854775807 from rfl];omega
theorem qFO(s:List UInt8)(a:s.length<=2 ^ 61):Ev (λ m _=>qjL m s) (qap s):=by
 refine waB ?_;simp only[qDY,qmf];refine wau (qJm s (by omega)) ?_;rw[qGs (qJI (qwT s))];exact waw (qi2 (by show 4+s.length<_;omega)) (wav _)
theorem qBl(s:List UInt8)(a:s.length<=2 ^ 61):Ev (λ m _=>qhY m s) (qap s):=by
 refine waB ?_;simp only[qBm,qkg];refine wau (qHe s (by omega)) ?_;rw[qEz (qJI (qwT s))];exact waw (qi2 (by show 4+s.length<_;omega)) (wav _)
end Go.AmZ
namespace Go.GxZ
def size:T->Nat:=T.para λ _ a=>1+a.sum
theorem qM(t:T):size t=1+(t.kids.map size).sum:=T.para_eq _ _
theorem size_pos(t:T):1<=size t:=by rw[qM];omega
theorem qGo(l:List T):l.length<=(l.map size).sum:=by
 induction l with
 | nil=>simp
 | cons x l a=>have:=size_pos x;simp only[wv,wo,kD];omega
theorem qkF(l:List T)(x:T)(h:x∈l):size x<=(l.map size).sum:=by
 induction l with
 | nil=>cases h
 | cons y l a =>
   simp only[wo,kD];rcases wy.1 h with rfl | h
   ·omega
   ·have:=a h;omega
theorem jM(t:T)(x:T)(h:x∈t.kids):size x<size t:=by
 have:=qkF t.kids x h;rw[qM t];omega
theorem yB(t:T):t.kids.length<size t:=by
 have:=qGo t.kids;rw[qM t];omega
def sgn(a b:Int):Int:=if a<b then -1 else if b<a then 1 else 0
def thn(x y:Int):Int:=if x=0 then y else x
structure Cmp {α : Type} (f : α -> α -> Int):Prop where
 rng:∀ a b,f a b=-1\/f a b=0\/f a b=1
 anti:∀ a b,f b a=- f a b
 trans:∀ a b c,f a b=-1->f b c=-1->f a c=-1
 same:∀ a b c,f a b=0->f b c=f a c
theorem Cmp.thn{α : Type}{f g : α -> α -> Int}(d:Cmp f)(l:Cmp g):Cmp λ a b=>thn (f a b) (g a b):=by
 constructor
 ·intro a b;have:=d.rng a b;have:=l.rng a b;unfold GxZ.thn;split<;>omega
 ·intro a b;have:=d.anti a b;have:=l.anti a b;unfold GxZ.thn;split<;>split<;>omega
 ·intro a b c k j;have p:=d.anti a b;have a2:=d.anti b c;have a3:=d.anti a c;have n:=d.trans a b c;have t2:=l.trans a b c;have m:=d.same a b c;have s2:=d.same c b a;have o:=d.rng a b;have r2:=d.rng b c;have r3:=d.rng a c;unfold GxZ.thn at k j |-
  by_cases i:f a b=0
  ·by_cases e:f b c=0
   ·rw[if_pos i]at k;rw[if_pos e]at j;rw[if_pos (by rw[<- m i];exact e)];exact t2 k j
   ·rw[if_neg e]at j;rw[if_neg (by rw[<- m i];exact e),<- m i];exact j
  ·rw[if_neg i]at k;by_cases e:f b c=0
   ·have:=s2 (by omega);rw[if_neg (by omega)];omega
   ·rw[if_neg e]at j;have:=n k j;rw[if_neg (by omega)];exact this
 ·intro a b c h
  have i:f a b=0:=by
   unfold GxZ.thn at h;split at h
   ·assumption
   ·exact absurd h (by assumption)
  have e:g a b=0:=by
   unfold GxZ.thn at h
   rwa [if_pos i]at h
  show GxZ.thn _ _=GxZ.thn _ _;rw[d.same a b c i,l.same a b c e]
theorem Cmp.on{α d:Type}{f:d->d->Int}(c:Cmp f)(p : α -> d):Cmp λ a b=>f (p a) (p b) :=
 ⟨λ _ _=>c.rng _ _,λ _ _=>c.anti _ _,λ _ _ _=>c.trans _ _ _,λ _ _ _=>c.same _ _ _⟩
theorem qsP:Cmp sgn:=by
 constructor
 ·intro a b;unfold sgn;split<;>(try split)<;>omega
 ·intro a b;unfold sgn;split<;>split<;>(try split)<;>omega
 ·intro a b c;unfold sgn;split<;>split<;>(try split)<;>(try split)<;>omega
 ·intro a b c;unfold sgn;split<;>split<;>(try split)<;>(try split)<;>omega
theorem qlx{a b:Int}(h:sgn a b=0):a=b:=by unfold sgn at h;split at h<;>(try split at h)<;>omega
theorem qL4(a:Int):sgn a a=0:=by unfold sgn;split<;>(try split)<;>omega
open Lib (compareBytes)
theorem qzD(a:List UInt8):compareBytes a a=0:=by
 induction a with
 | nil=>rfl
 | cons x a b=>simp[compareBytes,b]
theorem qpO:∀ a b:List UInt8,compareBytes a b=-1\/compareBytes a b=0\/compareBytes a b=1
 | [],[]=>by simp[compareBytes]
 | [],_::_=>by simp[compareBytes]
 | _::_,[]=>by simp[compareBytes]
 | x::a,y::b=>by
   unfold compareBytes;split
   ·simp
   ·split
    ·simp
    ·exact qpO a b
theorem qzB:∀ a b:List UInt8,compareBytes b a=- compareBytes a b
 | [],[]=>by simp[compareBytes]
 | [],_::_=>by simp[compareBytes]
 | _::_,[]=>by simp[compareBytes]
 | x::a,y::b=>by
   have:=qzB a b;unfold compareBytes;simp only[vc];split<;>split<;>(try split)<;>omega
theorem qnj:∀ a b:List UInt8,compareBytes a b=0->a=b
 | [],[],_=>rfl
 | [],_::_,h=>by simp[compareBytes]at h
 | _::_,[],h=>by simp[compareBytes]at h
 | x::a,y::b,h=>by
   unfold compareBytes at h;simp only[vc]at h;split at h
   ·omega
   ·split at h
    ·omega
    ·rw[qnj a b h,UInt8.toNat_inj.1 (show x.toNat=y.toNat by omega)]
theorem qvt:∀ a b c:List UInt8,compareBytes a b=-1->compareBytes b c=-1->compareBytes a c=-1
 | [],_,[],h1,h2=>by
   rename_i b;cases b<;>simp[compareBytes]at h1 h2
 | [],_,_::_,_,_=>by simp[compareBytes]
 | _::_,[],_,h1,_=>by simp[compareBytes]at h1
 | _::_,_::_,[],_,h2=>by simp[compareBytes]at h2
 | x::a,y::b,z::c,h1,h2=>by
   have ih:=qvt a b c;unfold compareBytes at h1 h2 |-
   simp only[vc]at h1 h2 |-
   split at h1
   ·split at h2
    ·rw[if_pos (by omega)]
    ·split at h2
     ·omega
     ·rw[if_pos (by omega)]
   ·split at h1
    ·omega
    ·split at h2
     ·rw[if_pos (by omega)]
     ·split at h2
      ·omega
      ·rw[if_neg (by omega),if_neg (by omega)];exact ih h1 h2
theorem qLh:Cmp compareBytes :=
 ⟨qpO,qzB,qvt,λ a b c h=>by rw[qnj a b h]⟩
def Jl:List (T->Int)->List T->Int
 | r::a,b::c=>thn (r b) (Jl a c)
 | _,_=>0
def qkb(a b:T):Int :=
 thn (sgn (size a) (size b)) (thn (sgn a.kind b.kind) (thn (compareBytes a.name b.name) (thn (sgn a.sort b.sort) (sgn a.kids.length b.kids.length))))
def qt:T->T->Int:=T.para λ a c b=>thn (qkb a b) (Jl c b.kids)
theorem qg2(a b:T):qt a b=thn (qkb a b) (Jl (a.kids.map qt) b.kids):=congrFun (T.para_eq _ _) b
theorem qeZ:Cmp qkb :=
 (qsP.on λ t:T=>(size t:Int)).thn ((qsP.on T.kind).thn ((qLh.on T.name).thn ((qsP.on T.sort).thn (qsP.on λ t:T=>(t.kids.length:Int)))))
theorem qgK{x y:Int}(h:thn x y=0):x=0/\y=0:=by unfold thn at h;split at h<;>omega
theorem qrH{a b:T}(h:qkb a b=0):a.kind=b.kind/\a.name=b.name/\a.sort=b.sort/\a.kids.length=b.kids.length:=by
 unfold qkb at h;obtain⟨_,h⟩:=qgK h;obtain⟨f,h⟩:=qgK h;obtain⟨e,h⟩:=qgK h;obtain⟨d,c⟩:=qgK h;have:=qlx c;exact⟨qlx f,qnj _ _ e,qlx d,by omega⟩
theorem qIp(a:T):qkb a a=0:=by
 unfold qkb thn;simp[qL4,qzD]
theorem T.ext{a b:T}(f:a.kind=b.kind)(e:a.name=b.name)(d:a.sort=b.sort)(c:a.kids=b.kids):a=b:=by
 obtain⟨k,n,s,l⟩:=a;obtain⟨j,h,g,i⟩:=b;simp only[T.kind,T.name,T.sort,T.kids]at f e d c;rw[f,e,d,c]
theorem qsa(a:T):qt a a=0:=by
 refine T.ind (P := λ a=>qt a a=0) ?_ a;intro a c;rw[qg2,qIp,thn,if_pos rfl];generalize a.kids=l at *
 induction l with
 | nil=>rfl
 | cons x l b =>
   rw[wo,Jl,c x (wh ..),thn,if_pos rfl];exact b λ k d=>c k (wg _ d)
theorem qa3(a:T):∀ b,qt a b=0->a=b:=by
 refine T.ind (P := λ a=>∀ b,qt a b=0->a=b) ?_ a;intro a e b h;rw[qg2]at h;obtain⟨g,f⟩:=qgK h;obtain⟨n,j,i,c⟩:=qrH g;refine T.ext n j i ?_;generalize a.kids=l at *;generalize b.kids=m at *;clear h g
 induction l generalizing m with
 | nil=>exact(kt.1 c.symm).symm
 | cons x l d =>
   cases m with
   | nil=>simp at c
   | cons y m =>
     rw[wo,Jl]at f;obtain⟨q,p⟩:=qgK f;rw[e x (wh ..) y q,d (λ k o=>e k (wg _ o)) m p (by simpa using c)]
def qvg(a:T):Prop:=(∀ b,qt a b=-1\/qt a b=0\/qt a b=1)/\(∀ b,qt b a=- qt a b)/\(∀ b c,qt a b=-1->qt b c=-1->qt a c=-1)
theorem qB3:∀ l m:List T,(∀ k∈l,qvg k)->Jl (l.map qt) m=-1\/Jl (l.map qt) m=0\/Jl (l.map qt) m=1
 | [],_,_=>by simp[Jl]
 | _::_,[],_=>by simp[Jl]
 | x::l,y::m,h=>by
   rw[wo,Jl];have c:=(h x (wh ..)).1 y;have b:=qB3 l m λ k a=>h k (wg _ a);unfold thn;split<;>omega
theorem qzQ:∀ l m:List T,(∀ k∈l,qvg k)->Jl (m.map qt) l=- Jl (l.map qt) m
 | [],[],_=>by simp[Jl]
 | [],_::_,_=>by simp[Jl]
 | _::_,[],_=>by simp[Jl]
 | x::l,y::m,h=>by
   rw[wo,Jl,wo,Jl];have c:=(h x (wh ..)).2.1 y;have b:=qzQ l m λ k a=>h k (wg _ a);unfold thn;split<;>split<;>omega
theorem qvn:∀ l m n:List T,(∀ k∈l,qvg k)->l.length=m.length->m.length=n.length->Jl (l.map qt) m=-1->Jl (m.map qt) n=-1->Jl (l.map qt) n=-1
 | [],_,_,_,_,_,h,_=>by simp[Jl]at h
 | _::_,[],_,_,h,_,_,_=>by simp at h
 | _::_,_::_,[],_,_,h,_,_=>by simp at h
 | x::l,y::m,z::n,h,e1,j,b,a=>by
   rw[wo,Jl]at b a |-
   have g:=h x (wh ..);have f:=qvn l m n (λ k i=>h k (wg _ i)) (by simpa using e1) (by simpa using j);have e:=g.2.2 y z;by_cases d:qt x y=0
   ·have:=qa3 x y d;subst this;rw[thn,if_pos d]at b;by_cases c:qt x z=0
    ·rw[thn,if_pos c]at a |-
     exact f b a
    ·rw[thn,if_neg c]at a |-
     exact a
   ·rw[thn,if_neg d]at b;by_cases c:qt y z=0
    ·have:=qa3 y z c;subst this;rw[thn,if_neg d];exact b
    ·rw[thn,if_neg c]at a;have:=e b a;rw[thn,if_neg (by omega)];exact this
theorem qHw(a:T):qvg a:=by
 refine T.ind (P:=qvg) ?_ a;intro a i;refine⟨λ b=>?_,λ b=>?_,λ b c g d=>?_⟩
 ·rw[qg2];have g:=qeZ.rng a b;have d:=qB3 a.kids b.kids i;unfold thn;split<;>omega
 ·rw[qg2,qg2];have g:=qeZ.anti a b;have d:=qzQ a.kids b.kids i;unfold thn;split<;>split<;>omega
 ·rw[qg2]at g d |-
  by_cases h:qkb a b=0
  ·rw[thn,if_pos h]at g;have e:=qeZ.same a b c h;by_cases f:qkb b c=0
   ·rw[thn,if_pos f]at d;rw[thn,if_pos (by rw[<- e];exact f)];exact qvn _ _ _ i (qrH h).2.2.2 (qrH f).2.2.2 g d
   ·rw[thn,if_neg f]at d;rw[thn,if_neg (by rw[<- e];exact f),<- e];exact d
  ·rw[thn,if_neg h]at g;by_cases f:qkb b c=0
   ·have e1:=qeZ.anti b c;have l:=qeZ.same c b a (by omega);have k:=qeZ.anti a b;have j:=qeZ.anti a c;rw[thn,if_neg (by omega)];omega
   ·rw[thn,if_neg f]at d;have:=qeZ.trans a b c g d;rw[thn,if_neg (by omega)];exact this
theorem yf:Cmp qt :=
 ⟨λ a=>(qHw a).1,λ a b=>(qHw a).2.1 b,λ a=>(qHw a).2.2,λ a b c h=>by rw[qa3 a b h]⟩
theorem qKH(a b:T):qt a b=0↔a=b:=⟨qa3 a b,λ h=>by rw[h];exact qsa b⟩
theorem qqG:∀ a b:List UInt8,Op.bytesLess a b=decide (compareBytes a b=-1)
 | [],[]=>by simp[Op.bytesLess,compareBytes]
 | [],_::_=>by simp[Op.bytesLess,compareBytes]
 | _::_,[]=>by simp[Op.bytesLess,compareBytes]
 | x::a,y::b=>by
   rw[Op.bytesLess,compareBytes,qqG a b];by_cases d:x<y
   ·simp[d]
   ·by_cases c:y<x
    ·have:¬ x=y := λ e=>by rw[e]at c;exact d (by rw[e];exact c)
     simp[d,c,this]
    ·have:x=y:=UInt8.toNat_inj.1 (by rw[vc]at d c;omega);simp[this]
end Go.GxZ
namespace Go.GxZ
def qmx:List (Int->Int)->Int->Int
 | [],m=>m
 | f::a,m=>if f m<0 then -1 else qmx a (f m)
def qbM:T->Int->Int:=T.para λ t a m=>if m<=0\/40<t.name.length then -1 else qmx a (m-1)
theorem qGa(t:T)(m:Int):qbM t m=if m<=0\/40<t.name.length then -1 else qmx (t.kids.map qbM) (m-1):=congrFun (T.para_eq _ _) m
theorem qq2(t:T):∀ m,qbM t m<0/\qbM t m=-1\/0<=qbM t m/\qbM t m=m-size t:=by
 refine T.ind (P := λ t=>∀ m,qbM t m<0/\qbM t m=-1\/0<=qbM t m/\qbM t m=m-size t) ?_ t;intro t e m
 have g:∀ l:List T,(∀ k∈l,k∈t.kids)->∀ m,0<=m->(qmx (l.map qbM) m<0/\qmx (l.map qbM) m=-1\/0<=qmx (l.map qbM) m/\qmx (l.map qbM) m=m-((l.map size).sum:Nat)):=by
  intro l
  induction l with
  | nil=>intro _ m b;right;simp[qmx];exact b
  | cons x l a =>
    intro c m b;simp only[wo,qmx,kD];have j:=e x (c x (wh ..)) m;by_cases d:qbM x m<0
    ·rw[if_pos d];left;exact⟨by omega,rfl⟩
    ·rw[if_neg d];have i:=a (λ k f=>c k (wg _ f)) (qbM x m) (by omega);omega
 rw[qGa,qM];split
 ·left;exact⟨by omega,rfl⟩
 ·have:=g t.kids (λ _ h=>h) (m-1) (by omega);omega
def qcx:T->Nat:=T.para λ _ a=>a.foldl max 0+1
theorem qlb(t:T):qcx t=(t.kids.map qcx).foldl max 0+1:=T.para_eq _ _
theorem qCN(l:List Nat):∀(a b:Nat),a<=b->(∀ x∈l,x<=b)->l.foldl max a<=b:=by
 induction l with
 | nil=>intro a b h _;exact h
 | cons x l d=>intro a b h c;exact d _ _ (Nat.max_le.2 ⟨h,c x (wh ..)⟩) λ y e=>c y (wg _ e)
theorem qET(t:T):qcx t<=size t:=by
 refine T.ind (P := λ t=>qcx t<=size t) ?_ t;intro t ih;rw[qlb,qM]
 have:(t.kids.map qcx).foldl max 0<=(t.kids.map size).sum:=by
  refine qCN _ _ _ (we _) λ x hx=>?_;obtain⟨k,hk,rfl⟩:=ww.1 hx;exact wD (ih k hk) (qkF _ _ hk)
 omega
def qfX(c:Int):Bool:=decide (97<=c/\c<=122)||decide (65<=c/\c<=90)
def qso(c:Int):Bool:=decide (48<=c/\c<=57)
def Qp(c:Int):Bool:=qfX c||qso c||decide (c=95)||decide (c=35)
def yK(l:List UInt8):Bool:=decide (0<l.length)&&decide (l.length<=24)&&qfX ((l.getD 0 0).toNat:Int)&&l.all λ c=>Qp (c.toNat:Int)
def qgG(k so:Int)(n:Nat)(a:Bool):Int :=
 if k=1\/k=2 then(if so<0\/5<so\/0<n then 1 else if a then 0 else 2)
 else if k=3 then(if so≠0 then 1 else if a then(if 8<n then 3 else 0)else 2)
 else 1
def yS(t:T):Int:=qgG t.kind t.sort t.kids.length (yK t.name)
def jh:T->Int:=T.para λ t a=>a.foldl thn (yS t)
theorem qjy(t:T):jh t=(t.kids.map jh).foldl thn (yS t):=T.para_eq _ _
theorem QV{x:Int}(h:x≠0)(y:Int):thn x y=x:=if_neg h
theorem qT(l:List Int):∀{x:Int},x≠0->l.foldl thn x=x:=by
 induction l with
 | nil=>intro x _;rfl
 | cons y l a=>intro x h;rw[kg,QV h];exact a h
theorem QX(l:List Int)(x:Int):(x::l).foldl thn 0=l.foldl thn x:=rfl
theorem qjf{t:T}(h:jh t=0):yS t=0/\(∀ k∈t.kids,jh k=0):=by
 rw[qjy]at h;by_cases b:yS t=0
 ·refine⟨b,?_⟩;rw[b]at h;generalize t.kids=l at *;clear b
  induction l with
  | nil=>intro k a;cases a
  | cons x l d =>
    rw[wo,QX]at h;by_cases c:jh x=0
    ·rw[c]at h;intro k a;rcases wy.1 a with rfl | a
     ·exact c
     ·exact d h k a
    ·rw[qT _ c]at h;exact absurd h c
 ·rw[qT _ b]at h;exact absurd h b
def qL(t:T):Int:=if jh t≠0 then jh t else if 400<size t\/40<qcx t then 3 else 0
instance:DecidableEq T := λ _ _=>Classical.propDecidable _
def jq(a b:T):Bool:=decide (a=b)
def qgP:List T->Int->Bool
 | [],_=>true
 | x::l,m=>if qbM x m<0 then false else qgP l (qbM x m)
theorem qyU:∀(l:List T) (m:Int),0<=m->qgP l m=true->((l.map size).sum:Nat)<=m
 | [],m,b,_=>by simpa using b
 | x::l,m,b,h=>by
   rw[qgP]at h;by_cases a:qbM x m<0
   ·rw[if_pos a]at h;exact absurd h (by decide)
   ·rw[if_neg a]at h;have d:=qq2 x m;have c:=qyU l (qbM x m) (by omega) h;simp only[wo,kD];omega
def yZ:List (List UInt8 × Int × Int × Int):=[
 ([112,97,105,114],2,2,1),
 ([101,110,99],2,2,1),
 ([97,101,110,99],2,2,1),
 ([112,107],1,1,1),
 ([115,105,103,110],2,2,1),
 ([104,97,115,104],1,1,1),
 ([120,111,114],2,8,1),
 ([122,101,114,111],0,0,1),
 ([101,120,112],2,2,1),
 ([109,117,108],2,8,1),
 ([105,110,118],1,1,1),
 ([111,110,101],0,0,1),
 ([115,107],1,1,2),
 ([115,104,107],2,2,2),
 ([110,101,119],1,8,2),
 ([102,115,116],1,1,3),
 ([115,110,100],1,1,3),
 ([100,101,99],2,2,3),
 ([97,100,101,99],2,2,3),
 ([111,112,101,110],2,2,3),
 ([114,101,97,100],1,1,3)]
def qxf(l:List (List UInt8 × Int × Int × Int))(n:List UInt8):Int × Int × Int:=((l.find? λ r=>r.1==n).map (·.2)).getD (0,0,0)
theorem qIF(r:List UInt8 × Int × Int × Int)(l:List (List UInt8 × Int × Int × Int))(n:List UInt8):qxf (r::l) n=if(r.1==n)=true then r.2 else qxf l n:=by
 unfold qxf;rw[List.find?_cons];cases h:r.1==n<;>simp
def qLa(l:List (List UInt8 × Int × Int × Int))(n:List UInt8):Bool:=l.any λ r=>r.1==n
def qn5(l:List (List UInt8 × Int × Int × Int))(n:List UInt8)(k:Int):Bool:=qLa l n&&decide ((qxf l n).1<=k)&&decide (k<=(qxf l n).2.1)
theorem qIa(r:List UInt8 × Int × Int × Int)(l:List (List UInt8 × Int × Int × Int))(n:List UInt8)(k:Int) :
  qn5 (r::l) n k=if(r.1==n)=true then decide (r.2.1<=k)&&decide (k<=r.2.2.1)else qn5 l n k:=by
 unfold qn5;rw[qIF];unfold qLa;rw[vX];cases h:r.1==n<;>simp
def qp1:List UInt8:=[112,97,105,114]
def qpj:List UInt8:=[101,110,99]
def qi9:List UInt8:=[97,101,110,99]
def nPk:List UInt8:=[112,107]
def qfr:List UInt8:=[115,105,103,110]
def qc9:List UInt8:=[120,111,114]
def qcM:List UInt8:=[122,101,114,111]
def qf3:List UInt8:=[101,120,112]
def qfb:List UInt8:=[109,117,108]
def JD:List UInt8:=[105,110,118]
def qj0:List UInt8:=[111,110,101]
def nSk:List UInt8:=[115,107]
def quG:List UInt8:=[115,104,107]
def qim:List UInt8:=[110,101,119]
def qLI:List UInt8:=[102,115,116]
def qxz:List UInt8:=[115,110,100]
def qLo:List UInt8:=[100,101,99]
def qGH:List UInt8:=[97,100,101,99]
def qGc:List UInt8:=[111,112,101,110]
def qG4:List UInt8:=[114,101,97,100]
def zT:T := .mk 0 [] 0 []
def kid(t:T)(i:Nat):T:=t.kids.getD i zT
def apT(n:List UInt8)(l:List T):T := .mk 3 n 0 l
def isN(t:T)(n:List UInt8):Bool:=t.kind==3&&t.name==n
def qD(n:List UInt8):Int × Int × Int:=((yZ.find? λ r=>r.1==n).map (·.2)).getD (0,0,0)
def qaM(t:T):Bool :=
 if t.name=qim then decide ((kid t 0).kind≠2)
 else if t.name=nSk\/t.name=quG then t.kids.any λ k=>decide (k.kind=3)||decide (k.sort≠1)else false
def qdc(t:T):Int :=
 if t.kind≠3 then 0 else if(qD t.name).2.2=0 then 10 else if(t.kids.length:Int)<(qD t.name).1\/(qD t.name).2.1<(t.kids.length:Int)then 6 else if qaM t then 10 else 0
def zj:T->Int:=T.para λ t a=>if t.kind≠3 then 0 else a.foldl thn (qdc t)
theorem qos(t:T):zj t=if t.kind≠3 then 0 else(t.kids.map zj).foldl thn (qdc t):=T.para_eq _ _
def qbj(t:T):Int:=thn (qL t) (zj t)
def yn(t:T):Bool :=
 if t.name=qLI\/t.name=qxz then isN (kid t 0) qp1
 else if t.name=qLo then isN (kid t 0) qpj&&jq (kid (kid t 0) 1) (kid t 1)
 else if t.name=qGH then isN (kid t 0) qi9&&isN (kid (kid t 0) 1) nPk&&jq (kid (kid (kid t 0) 1) 0) (kid t 1)
 else if t.name=qGc then isN (kid t 0) qfr&&isN (kid t 1) nPk&&jq (kid (kid t 0) 1) (kid (kid t 1) 0)
 else if t.name=qG4 then isN (kid t 0) qfr else false
def qkd(t:T):T:=if yn t then kid (kid t 0) (if t.name=qxz then 1 else 0)else t
def qdy(t:T):Bool:=t.kind==3&&(t.name==qfb||t.name==JD||t.name==qj0)
abbrev Pw:=T × Int
def yH:List Pw->T->Int->List Pw
 | [],t,n=>[(t,n)]
 | (x,m)::l,t,n=>if qt t x=-1 then(t,n)::(x,m)::l else if qt t x=0 then(if m+n=0 then l else(x,m+n)::l)else(x,m)::yH l t n
def arK(t:T):Bool := !(t.name==qj0&&t.kids.length != 0||t.name==JD&&t.kids.length != 1||t.name==qfb&&decide (t.kids.length<2))
def arT:T->Bool:=T.para λ t a => !qdy t||(arK t&&a.all id)
theorem qv6(t:T):arT t=(!qdy t||(arK t&&(t.kids.map arT).all id)):=T.para_eq _ _
def qbA(t:T)(n:Int):Int:=if t.name=JD then -n else n
def jF:T->List Pw->Int->List Pw:=T.para λ t a l n=>if qdy t then a.foldl (λ l f=>f l (qbA t n)) l else yH l t n
theorem qg7(t:T)(l:List Pw)(n:Int):jF t l n=if qdy t then(t.kids.map jF).foldl (λ l f=>f l (qbA t n)) l else yH l t n:=by
 have h:jF t = λ l n=>if qdy t then(t.kids.map jF).foldl (λ l f=>f l (qbA t n)) l else yH l t n:=T.para_eq _ _;rw[h]
def ofP(t:T):List Pw × Int :=
 if qL t≠0 then([],qL t)else if arT t=false then([],6)else if 200<(jF t [] 1).length then([],3)else(jF t [] 1,0)
def pvK(q:Option T)(p:Pw):Int :=
 if qL p.1≠0 then qL p.1 else if qdy p.1 then 1 else if p.2=0\/p.2 < -1000\/1000<p.2 then 7 else match q with | some x=>if 0<=qt x p.1 then 5 else 0 | none=>0
def pvL:Option T->List Pw->Int
 | _,[]=>0
 | q,p::l=>thn (pvK q p) (pvL (some p.1) l)
def JK(l:List Pw):Int:=if 200<l.length then 3 else pvL none l
def yl(l:List Pw):List T:=l.flatMap λ p=>List.replicate p.2.toNat p.1
def yr(l:List Pw):List T:=l.flatMap λ p=>List.replicate (-p.2).toNat (apT JD [p.1])
def qah(o:List T):T:=if o.length=0 then apT qj0 []else if o.length=1 then o.getD 0 zT else apT qfb o
def qbB(l:List Pw):T × Int :=
 if JK l≠0 then(zT,JK l)else if 8<(yl l++yr l).length then(zT,3)
 else if qL (qah (yl l++yr l))≠0 then(zT,qL (qah (yl l++yr l)))else(qah (yl l++yr l),0)
def qnV(l:List Pw):Bool:=l.any λ p=>decide (p.2 < -1000)||decide (1000<p.2)
def Jb(a b:List Pw):List Pw:=b.foldl (λ l p=>yH l p.1 p.2) a
def qmp(a b:List Pw):List Pw × Int :=
 if JK a≠0 then([],JK a)else if JK b≠0 then([],JK b)else if qnV (Jb a b)then([],7)else if 200<(Jb a b).length then([],3)else(Jb a b,0)
def zl:List T->List T->List T
 | [],b=>b
 | x::a,[]=>x::a
 | x::a,y::b=>if qt x y=-1 then x::zl a (y::b)else if qt x y=1 then y::zl (x::a) b else zl a b
termination_by a b=>a.length+b.length
def Qd:T->List T:=T.para λ t a=>if isN t qcM&&t.kids.isEmpty then[]else if isN t qc9 then a.foldl zl []else[t]
theorem qlQ(t:T):Qd t=if isN t qcM&&t.kids.isEmpty then[]else if isN t qc9 then(t.kids.map Qd).foldl zl []else[t]:=T.para_eq _ _
def qoH(l:List T):Int:=if 200<l.length then 3 else(l.map qL).foldl thn 0
def zW(l:List T):List T:=(l.map Qd).foldl zl []
def qaB(o:List T):T:=if o.length=0 then apT qcM []else if o.length=1 then o.getD 0 zT else apT qc9 o
def qqd(l:List T):T × Int :=
 if qoH l≠0 then(zT,qoH l)else if qL (qaB (zW l))≠0 then(zT,3)else(qaB (zW l),0)
def qiX(b:T)(l:List Pw):T × Int :=
 if l.length=0 then(b,0)else if(qbB l).2≠0 then(zT,(qbB l).2)else(apT qf3 [b,(qbB l).1],0)
def qp7(b e:T):T × Int :=
 if(ofP e).2≠0 then(zT,(ofP e).2)
 else if isN b qf3 then
  (if(ofP (kid b 1)).2≠0 then(zT,(ofP (kid b 1)).2)
   else if(qmp (ofP (kid b 1)).1 (ofP e).1).2≠0 then(zT,(qmp (ofP (kid b 1)).1 (ofP e).1).2)
   else qiX (kid b 0) (qmp (ofP (kid b 1)).1 (ofP e).1).1)
 else qiX b (ofP e).1
def isD(n:List UInt8):Bool:=n==qLI||n==qxz||n==qLo||n==qGH||n==qGc||n==qG4
def qnw(t:T):T × Int:=if(ofP t).2≠0 then(zT,(ofP t).2)else qbB (ofP t).1
def qae(t:T):T × Int :=
 if isD t.name then(qkd t,0)else if t.name=qc9 then qqd t.kids
 else if t.name=qfb\/t.name=JD\/t.name=qj0 then qnw t
 else if t.name=qf3 then qp7 (kid t 0) (kid t 1)else(t,0)
def zN:T->T × Int:=T.para λ t a =>
 if t.kind≠3 then(t,0)else if(a.map (·.2)).foldl thn 0≠0 then(zT,(a.map (·.2)).foldl thn 0)else qae (apT t.name (a.map (·.1)))
theorem qox(t:T):zN t=if t.kind≠3 then(t,0)else if((t.kids.map zN).map (·.2)).foldl thn 0≠0 then(zT,((t.kids.map zN).map (·.2)).foldl thn 0)else qae (apT t.name ((t.kids.map zN).map (·.1))):=T.para_eq _ _
def qlj(t:T):T × Int :=
 if qbj t≠0 then(zT,qbj t)else if(zN t).2≠0 then(zT,(zN t).2)else if qL (zN t).1≠0 then(zT,qL (zN t).1)else zN t
def agB(l:List T):Bool:=l.all λ k => !(k.kind==3) && !(k.sort != 1)
def qlc(t:T):Bool:=if t.name=qim then(kid t 0).kind==2 else agB t.kids
theorem qKh(k:T)(l:List T):agB (k::l)=((!(k.kind==3) && !(k.sort != 1))&&agB l):=rfl
end Go.GxZ
namespace Go.AmZ
open Go Go.GxZ Go.Lib
theorem qm1(a b:Int):Ev (λ m _=>qbf m a b) (sgn a b):=by
 refine waB ?_;simp only[qx8,qhL];unfold sgn;refine waz (λ h=>?_) λ h=>?_
 ·exact waA (by rw[if_pos (qr.1 h)])
 ·rw[qm]at h;refine waz (λ c=>?_) λ c=>?_
  ·rw[qr]at c;exact waA (by rw[if_neg (by omega),if_pos c])
  ·rw[qm]at c;exact waA (by rw[if_neg (by omega),if_neg (by omega)])
theorem qtU{l:List T}{i:Nat}{x:T}(h:l.drop i=x::l.drop (i+1)):((l.drop i).map size).sum=size x+((l.drop (i+1)).map size).sum:=by
 rw[h,wo,kD]
theorem qpl(t:T):size t<=1000000000->Ev (λ m _=>ja m t) (size t:Int):=by
 induction t using T.ind with
 | h t d =>
   intro p;refine waB ?_;simp only[qDj,qgw];have q:=yB t;have j:=qM t
   have b:=qp (P := λ i=>∀ a:Nat,a+((t.kids.drop i).map size).sum<=1000000000->Ev (λ m k=>qbg m (ja m) k a i t.kind t.name t.sort t.kids) ((a+((t.kids.drop i).map size).sum:Nat):Int)) t.kids (by omega)
    (λ c a _=>by
     refine waC ?_;simp only[qqy,qgF];refine wax c ?_;exact waA (by simp))
    (λ i x e l c g f o a n=>by
     rw[qtU l]at n |-
     refine waC ?_;simp only[qqy,qgF];refine waw c (way g ?_);rw[qk];refine wau (d x (wa e) (by omega)) ?_;rw[f,qiG,jS (by omega)];refine(o (a+size x) (by omega)).res (by congr 1;omega))
   refine waD (L := λ m k=>qbg m (ja m) k 1 0 t.kind t.name t.sort t.kids) ?_;refine(b 0 (we _) 1 (by simp;omega)).res (by rw[wO,j])
theorem qDN(a b:Nat):qoa (a:Int) (b:Int)=((max a b:Nat):Int):=by unfold qoa;split<;>omega
theorem qsE(a b:Int):Ev (λ m _=>qe0 m a b) (sgn a b):=by
 refine waB ?_;simp only[qEc,ql0];unfold sgn;refine waz (λ h=>?_) λ h=>?_
 ·exact waA (by rw[if_pos (qr.1 h)])
 ·rw[qm]at h;refine waz (λ c=>?_) λ c=>?_
  ·rw[qr]at c;exact waA (by rw[if_neg (by omega),if_pos c])
  ·rw[qm]at c;exact waA (by rw[if_neg (by omega),if_neg (by omega)])
theorem qB7(t:T):size t<=1000000000->Ev (λ m _=>Ql m t) (size t:Int):=by
 induction t using T.ind with
 | h t d =>
   intro p;refine waB ?_;simp only[qEj,qhM];have q:=yB t;have j:=qM t
   have b:=qp (P := λ i=>∀ a:Nat,a+((t.kids.drop i).map size).sum<=1000000000->Ev (λ m k=>qcp m (Ql m) k a t.kids t.kids.length i) ((a+((t.kids.drop i).map size).sum:Nat):Int)) t.kids (by omega)
    (λ c a _=>by
     refine waC ?_;simp only[qsi,qh8];refine wax c ?_;exact waA (by simp))
    (λ i x e l c g f o a n=>by
     rw[qtU l]at n |-
     refine waC ?_;simp only[qsi,qh8];refine waw c (way g ?_);rw[qk];refine wau (d x (wa e) (by omega)) ?_;rw[f,qiG,jS (by omega)];refine(o (a+size x) (by omega)).res (by congr 1;omega))
   refine waD (L := λ m k=>qcp m (Ql m) k 1 t.kids t.kids.length 0) ?_;refine(b 0 (we _) 1 (by simp;omega)).res (by rw[wO,j])
theorem qzt(t:T):size t<=1000000000->Ev (λ m _=>jo m t) (qcx t:Int):=by
 induction t using T.ind with
 | h t e =>
   intro o;refine waB ?_;simp only[qAK,qfv];have p:=yB t;have q:=qM t
   have b:=qp (P := λ i=>∀ a:Nat,a<=1000000000->Ev (λ m k=>qax m (jo m) k a i t.kind t.name t.sort t.kids) ((((t.kids.drop i).map qcx).foldl max a+1:Nat):Int)) t.kids (by omega)
    (λ c a _=>by
     refine waC ?_;simp only[qo0,qfC];refine wax c ?_;rw[show qe (a:Int) 1=((a+1:Nat):Int) by unfold qe;omega,jS (by omega)];exact waA (by simp))
    (λ i x f l c j g n a r=>by
     refine waC ?_;simp only[qo0,qfC];refine waw c (way j ?_);rw[qk];have d:=wa f;have u:=jM t x d;have s:=qET x;refine wau (e x d (by omega)) ?_;rw[g,qDN];refine(n (max a (qcx x)) (by omega)).res ?_;rw[l,wo,kg])
   refine waD (L := λ m k=>qax m (jo m) k 0 0 t.kind t.name t.sort t.kids) ?_;refine(b 0 (we _) 0 (by omega)).res (by rw[wO,qlb])
theorem qDg(a:List (T->Int)):Jl a []=0:=by cases a<;>rfl
theorem qzO{l m:List T}{i:Nat}{x y:T}(b:l.drop i=x::l.drop (i+1))(a:m.drop i=y::m.drop (i+1)):Jl ((l.drop i).map qt) (m.drop i)=thn (qt x y) (Jl ((l.drop (i+1)).map qt) (m.drop (i+1))):=by
 rw[b,a,wo];rfl
theorem qDf{l:List T}{i:Nat}{y:T}(h:l[i]?=some y):l.drop i=y::l.drop (i+1):=by
 obtain⟨a,rfl⟩:=List.getElem?_eq_some_iff.1 h;exact waa a
theorem qt8(a b:List UInt8):slt a b=decide (compareBytes a b=-1):=qqG a b
theorem qCS(a b:List UInt8):qrL (slt a b) (qx a b)=decide (compareBytes a b≠1):=by
 rw[qt8];unfold qrL qx;rcases qpO a b with h | h | h
 ·rw[h];rfl
 ·have:=qnj a b h;subst this;rw[h];simp
 ·have:(a==b)=false:=by
    rw[beq_eq_false_iff_ne];intro c;subst c;rw[qzD]at h;omega
  rw[h,this];rfl
theorem qjo(a:T):size a<=1000000000->∀ b,size b<=1000000000->Ev (λ m _=>zM m a b) (qt a b):=by
 induction a using T.ind with
 | h a ih =>
   intro ha b hb;refine waB ?_;simp only[qw1,qdG,qk];have hla:=yB a;have hlb:=yB b;rw[qg2];unfold qkb;refine wau (qpl a ha) (wau (qpl b hb) (wau (qm1 _ _) ?_));refine waz (λ h=>?_) λ h=>?_
   ·rw[bnt,qg]at h;exact waA (by rw[QV (by rw[QV h];exact h),QV h])
   rw[bnf,qj]at h;rw[h,show ∀ y,thn 0 y=y from λ y=>rfl];refine wau (qm1 _ _) ?_;refine waz (λ h=>?_) λ h=>?_
   ·rw[bnt,qg]at h;exact waA (by rw[QV (by rw[QV h];exact h),QV h])
   rw[bnf,qj]at h;rw[h,show ∀ y,thn 0 y=y from λ y=>rfl];refine waz (λ h=>?_) λ h=>?_
   ·rw[qt8,decide_eq_true_iff]at h;exact waA (by rw[h];rfl)
   rw[qt8,decide_eq_false_iff_not]at h;refine waz (λ h'=>?_) λ h'=>?_
   ·rw[bnt,qCS,decide_eq_false_iff_not,Decidable.not_not]at h';exact waA (by rw[h'];rfl)
   rw[bnf,qCS,decide_eq_true_iff]at h';have h0:compareBytes a.name b.name=0:=by have:=qpO a.name b.name;omega
   rw[h0,show ∀ y,thn 0 y=y from λ y=>rfl];refine wau (qm1 _ _) ?_;refine waz (λ h=>?_) λ h=>?_
   ·rw[bnt,qg]at h;exact waA (by rw[QV (by rw[QV h];exact h),QV h])
   rw[bnf,qj]at h;rw[h,show ∀ y,thn 0 y=y from λ y=>rfl];refine wau (qm1 _ _) ?_;refine waz (λ h=>?_) λ h=>?_
   ·rw[bnt,qg]at h;exact waA (by rw[QV h])
   rw[bnf,qj]at h;rw[h,show ∀ y,thn 0 y=y from λ y=>rfl];have hlen:a.kids.length=b.kids.length:=by have:=qlx h;omega
   have key:=qp (P := λ i=>Ev (λ m k=>Ji m (zM m) k i a.kind a.name a.sort a.kids b.kind b.name b.sort b.kids) (Jl ((a.kids.drop i).map qt) (b.kids.drop i))) a.kids (by omega)
    (λ hc=>by
     refine waC ?_;simp only[ql9,qdm];refine wax hc ?_;exact waA (by rw[hlen,wU,qDg]))
    (λ i x hx hd hc hg hi hP=>by
     refine waC ?_;simp only[ql9,qdm,qk];have hib:i<b.kids.length:=by have:=(List.getElem?_eq_some_iff.1 hx).1;omega
     have hy:=List.getElem?_eq_getElem hib;have hmx:=wa hx;have h1:=jM a x hmx;have h2:=jM b _ (wa hy);refine waw hc (way hg (way (by rw[zb];exact hy) ?_));rw[qzO hd (qDf hy)];refine wau (ih x hmx (by omega) _ (by omega)) ?_;refine waz (λ h=>?_) λ h=>?_
     ·rw[bnt,qg]at h;exact waA (by rw[QV h])
     ·rw[bnf,qj]at h;rw[h,hi];exact hP)
   refine waD (L := λ m k=>Ji m (zM m) k 0 a.kind a.name a.sort a.kids b.kind b.name b.sort b.kids) ?_;exact(key 0 (we _)).res (by rw[wO,wO])
theorem qHV(a b:List UInt8):Ev (λ m _=>strings_Compare 0 a b) (compareBytes a b):=wav _
theorem qd6(a:T):size a<=1000000000->∀ b,size b<=1000000000->Ev (λ m _=>qA m a b) (qt a b):=by
 induction a using T.ind with
 | h a ih =>
   intro ha b hb;refine waB ?_;simp only[qxE,qew,qk];have hla:=yB a;have hlb:=yB b;rw[qg2];unfold qkb
   have stop:∀ c:Int,c≠0->∀ i:Int,Ev (λ m k=>Qe m (qA m) k c i a.kind a.name a.sort a.kids b.kind b.name b.sort b.kids) c:=by
    intro c hc i;refine waC ?_;simp only[qhF,qb5];exact wax (qg.2 hc) (wav c)
   have key:a.kids.length=b.kids.length->∀ i,i<=a.kids.length->Ev (λ m k=>Qe m (qA m) k 0 i a.kind a.name a.sort a.kids b.kind b.name b.sort b.kids) (Jl ((a.kids.drop i).map qt) (b.kids.drop i)) := λ hlen=>qp a.kids (by omega)
    (λ hc=>by
     refine waC ?_;simp only[qhF,qb5];refine waw rfl (wax hc ?_);exact waA (by rw[hlen,wU,qDg]))
    (λ i x hx hd hc hg hi hP=>by
     refine waC ?_;simp only[qhF,qb5,qk];have hib:i<b.kids.length:=by have:=(List.getElem?_eq_some_iff.1 hx).1;omega
     have hy:=List.getElem?_eq_getElem hib;have hmx:=wa hx;have h1:=jM a x hmx;have h2:=jM b _ (wa hy);refine waw rfl (waw hc (way hg (way (by rw[zb];exact hy) ?_)));rw[qzO hd (qDf hy)];refine wau (ih x hmx (by omega) _ (by omega)) ?_;rw[hi];by_cases h:qt x b.kids[i]=0
     ·rw[h];exact hP
     ·rw[QV h];exact stop _ h _)
   have fin:∀ c:Int,(c=0->a.kids.length=b.kids.length)->Ev (λ m k=>Qe m (qA m) m c 0 a.kind a.name a.sort a.kids b.kind b.name b.sort b.kids) (thn c (Jl (a.kids.map qt) b.kids)):=by
    intro c hc;refine waD (L := λ m k=>Qe m (qA m) k c 0 a.kind a.name a.sort a.kids b.kind b.name b.sort b.kids) ?_;by_cases h:c=0
    ·subst h;exact(key (hc rfl) 0 (we _)).res (by rw[wO,wO];rfl)
    ·rw[QV h];exact stop c h 0
   refine wau (qB7 a ha) (wau (qB7 b hb) (wau (qsE _ _) ?_));have z0:∀ y,thn 0 y=y := λ y=>rfl;by_cases h1:sgn (size a:Int) (size b)=0
   ·rw[h1,z0];refine waw rfl (wau (qsE _ _) ?_);by_cases h2:sgn a.kind b.kind=0
    ·rw[h2,z0];refine waw rfl (wau (qHV _ _) ?_);by_cases h3:compareBytes a.name b.name=0
     ·rw[h3,z0];refine waw rfl (wau (qsE _ _) ?_);by_cases h4:sgn a.sort b.sort=0
      ·rw[h4,z0];refine waw rfl (wau (qsE _ _) ?_);exact fin _ λ h=>by have:=qlx h;omega
      ·rw[QV h4];refine wax (qg.2 h4) ?_;exact fin _ λ h=>absurd h h4
     ·rw[QV h3];refine wax (qg.2 h3) (wax (qg.2 h3) ?_);exact fin _ λ h=>absurd h h3
    ·rw[QV h2];refine wax (qg.2 h2) (wax (qg.2 h2) (wax (qg.2 h2) ?_));exact fin _ λ h=>absurd h h2
   ·rw[QV h1];refine wax (qg.2 h1) (wax (qg.2 h1) (wax (qg.2 h1) (wax (qg.2 h1) ?_)));exact fin _ λ h=>absurd h h1
theorem qFR(a b:T):ieq (qt a b) 0=jq a b:=by
 unfold jq;rw[xh,qj,decide_eq_true_iff];exact qKH a b
theorem qe8(a b:T)(d:size a<=1000000000)(c:size b<=1000000000):Ev (λ m _=>QF m a b) (jq a b):=by
 refine waB ?_;simp only[qCr,qj6,qk];refine wau (qjo a d b c) ?_;exact waA (qFR a b)
theorem qpA(a b:T)(d:size a<=1000000000)(c:size b<=1000000000):Ev (λ m _=>J7 m a b) (jq a b):=by
 refine waB ?_;simp only[qAs,qit,qk];refine wau (qd6 a d b c) ?_;exact waA (qFR a b)
end Go.AmZ
namespace Go.AmZ
open Go Go.GxZ Go.Lib
theorem qyH(a b:Int):ieq a b=decide (a=b):=by rw[xh,qj,decide_eq_true_iff]
theorem qy6(c:Int):Ev (λ m _=>qfd m c) (qfX c):=by
 refine waB ?_;simp only[qxS,qhv];refine(wav (qfX c)).congr λ m k=>?_;unfold qfX ile;by_cases e:97<=c<;>by_cases d:c<=122<;>by_cases b:65<=c<;>by_cases a:c<=90<;>simp[e,d,b,a]
theorem qJR(c:Int):Ev (λ m _=>qji m c) (qso c):=by
 refine waB ?_;simp only[qz3,qiF];refine(wav (qso c)).congr λ m k=>?_;unfold qso ile;by_cases b:48<=c<;>by_cases a:c<=57<;>simp[b,a]
theorem qFc(c:Int):Ev (λ m _=>qjv m c) (Qp c):=by
 refine waB ?_;simp only[qD2,qlp];refine(wav (Qp c)).congr λ m k=>?_;simp only[qyH];unfold Qp qfX qso ile;by_cases i:97<=c<;>by_cases h:c<=122<;>by_cases g:65<=c<;>by_cases f:c<=90<;>by_cases e:48<=c<;>by_cases d:c<=57<;>by_cases b:c=95<;>by_cases a:c=35<;>simp[i,h,g,f,e,d,b,a]
theorem qy7(l:List UInt8):Ev (λ m _=>qaj m l) (yK l):=by
 refine waB ?_;simp only[qxc,qex];cases l with
 | nil=>exact waw rfl (wav _)
 | cons c r =>
   refine wax (qg.2 (by simp;omega)) ?_;refine waz (λ h=>?_) λ h=>?_
   ·rw[qr]at h;refine waA ?_;unfold yK;rw[decide_eq_false (show ¬ (c::r).length<=24 by omega)];simp
   rw[qm]at h;refine way (qag _) (wau (qy6 _) ?_)
   have o:yK (c::r)=(qfX (c.toNat:Int)&&(c::r).all λ c=>Qp (c.toNat:Int)):=by
    unfold yK;rw[decide_eq_true (show(c::r).length<=24 by omega)];simp
   rw[o];cases b:qfX (c.toNat:Int)with
   | false=>exact waw rfl (wav _)
   | true =>
     refine wax rfl ?_
     have g:=qp (P := λ i=>Ev (λ m k=>JV m k (c::r) i) (((c::r).drop i).all λ c=>Qp (c.toNat:Int))) (c::r) (by omega)
      (λ b=>by
       refine waC ?_;simp only[qnE,qeq];refine wax b (waA ?_);rw[wU];rfl)
      (λ i x s q b a p d=>by
       refine waC ?_;simp only[qnE,qeq];refine waw b (way a (wau (qy6 _) ?_));rw[q,kC,p];cases n:qfX (x.toNat:Int)with
       | true=>exact wax rfl (d.res (by simp[Qp,n]))
       | false =>
         refine waw rfl (way a (wau (qJR _) ?_));cases j:qso (x.toNat:Int)with
         | true=>exact wax rfl (d.res (by simp[Qp,j]))
         | false =>
           refine waw rfl (way a ?_);by_cases f:(x.toNat:Int)=95
           ·exact wax (bnf.2 (qj.2 f)) (d.res (by simp[Qp,f]))
           ·refine waw (bnt.2 (qg.2 f)) (way a ?_);by_cases e:(x.toNat:Int)=35
            ·exact wax (bnf.2 (qj.2 e)) (d.res (by simp[Qp,e]))
            ·exact waw (bnt.2 (qg.2 e)) (waA (by unfold Qp;rw[n,j,decide_eq_false f,decide_eq_false e];rfl)))
     refine waD (L := λ m k=>JV m k (c::r) 0) ?_;exact(g 0 (we _)).res (by rw[wO];rfl)
theorem qKN(c:Int):(Qp c&&(!(decide (48<=c)&&decide (c<=57))&&(!(decide (c=95)) && !(decide (c=35)))))=qfX c:=by
 unfold Qp qso;cases h:qfX c with
 | true =>
   unfold qfX at h;rw[kh,decide_eq_true_iff,decide_eq_true_iff]at h;rw[decide_eq_false (show ¬ (c=95) by omega),decide_eq_false (show ¬ (c=35) by omega)]
   have:(decide (48<=c)&&decide (c<=57))=false:=by
    rw[vb,decide_eq_false_iff_not,decide_eq_false_iff_not];omega
   rw[this];rfl
 | false =>
   by_cases e:48<=c<;>by_cases d:c<=57<;>by_cases b:c=95<;>by_cases a:c=35<;>simp[e,d,b,a]
theorem qGv(l:List UInt8):Ev (λ m _=>qd3 m l) (yK l):=by
 refine waB ?_;simp only[qAJ,qff];cases l with
 | nil=>exact waw rfl (wav _)
 | cons c r =>
   refine wax rfl ?_;refine waz (λ h=>?_) λ h=>?_
   ·rw[qr]at h;refine waA ?_;unfold yK;rw[decide_eq_false (show ¬ (c::r).length<=24 by omega)];simp
   rw[qm]at h;refine way (qag _) (wau (qFc _) ?_)
   have p:yK (c::r)=(qfX (c.toNat:Int)&&(c::r).all λ c=>Qp (c.toNat:Int)):=by
    unfold yK;rw[decide_eq_true (show(c::r).length<=24 by omega)];simp
   rw[p,<- qKN]
   have g:=qp (P := λ i=>Ev (λ m k=>QG m k (c::r) (c::r).length i) (((c::r).drop i).all λ c=>Qp (c.toNat:Int))) (c::r) (by omega)
    (λ j=>by
     refine waC ?_;simp only[qot,qfu];refine wax j (waA ?_);rw[wU];rfl)
    (λ i x y t j s q u=>by
     refine waC ?_;simp only[qot,qfu];refine waw j (way s (wau (qFc _) ?_));rw[t,kC,q];cases w:Qp (x.toNat:Int)with
     | true=>exact wax rfl (u.res (by simp))
     | false=>exact waw rfl (wav _))
   have o:Ev (λ m _=>QG m m (c::r) (c::r).length 0) ((c::r).all λ c=>Qp (c.toNat:Int)):=by
    refine waD (L := λ m k=>QG m k (c::r) (c::r).length 0) ?_;exact(g 0 (we _)).res (by rw[wO])
   have a:qb (c::r) 0=some c:=qag _
   have b:Ev (λ m _=>cond (ieq (c.toNat:Int) 95) (some false) (qa (qb (c::r) 0) λ v=>cond (ieq (v.toNat:Int) 35) (some false) (QG m m (c::r) (c::r).length 0))) ((!(decide ((c.toNat:Int)=95)) && !(decide ((c.toNat:Int)=35)))&&(c::r).all λ c=>Qp (c.toNat:Int)):=by
    by_cases f:(c.toNat:Int)=95
    ·exact waw (qj.2 f) (waA (by rw[decide_eq_true f];rfl))
    ·refine wax (qg.2 f) (way a ?_);rw[decide_eq_false f];by_cases e:(c.toNat:Int)=35
     ·exact waw (qj.2 e) (waA (by rw[decide_eq_true e];rfl))
     ·refine wax (qg.2 e) (o.res ?_);rw[decide_eq_false e];rfl
   cases w:Qp (c.toNat:Int)with
   | false=>exact waw rfl (wav _)
   | true =>
     refine wax rfl (way a ?_);by_cases d:48<=(c.toNat:Int)
     ·refine waw (yT.2 d) (way a ?_);by_cases n:(c.toNat:Int)<=57
      ·exact waw (yT.2 n) (waA (by rw[decide_eq_true d,decide_eq_true n];rfl))
      ·refine wax (yo.2 (by omega)) (way a ?_);exact b.res (by rw[decide_eq_true d,decide_eq_false n];rfl)
     ·refine wax (yo.2 (by omega)) (way a ?_);exact b.res (by rw[decide_eq_false d];rfl)
theorem qNG(t:T):Ev (λ m _=>qkB m t) (yS t):=by
 refine waB ?_;simp only[qDl,qjS];unfold yS qgG
 have nm:∀{R:Int},(∀ b,yK t.name=b->(if b then(if 8<t.kids.length then 3 else 0)else 2)=R)->Ev (λ m _=>qa (qaj m t.name) λ v=>cond (qd v) (some 2) (cond (ilt 8 (t.kids.length:Int)) (some 3) (some 0))) R:=by
  intro R h;refine wau (qy7 _) ?_;refine Ev.res ?_ (h _ rfl);cases j:yK t.name with
  | false=>exact waw rfl (wav _)
  | true =>
    refine wax rfl ?_;refine waz (λ h=>?_) λ h=>?_
    ·rw[qr]at h;exact waA (by rw[if_pos rfl,if_pos (by omega)])
    ·rw[qm]at h;exact waA (by rw[if_pos rfl,if_neg (by omega)])
 have d:t.kids.length=0->∀{R:Int},(∀ b,yK t.name=b->(if b then 0 else 2)=R)->Ev (λ m _=>qa (qaj m t.name) λ v=>cond (qd v) (some 2) (cond (ilt 8 (t.kids.length:Int)) (some 3) (some 0))) R:=by
  intro k R h;refine nm λ b e=>?_;rw[if_neg (show ¬ 8<t.kids.length by omega)];exact h b e
 by_cases i:t.kind=1
 ·rw[if_pos (.inl i)];refine waw (qj.2 i) ?_;refine waz (λ h=>?_) λ h=>?_
  ·rw[qr]at h;exact waA (by rw[if_pos (.inl h)])
  rw[qm]at h;refine waz (λ c=>?_) λ c=>?_
  ·rw[qr]at c;exact waA (by rw[if_pos (.inr (.inl c))])
  rw[qm]at c;refine waz (λ a=>?_) λ a=>?_
  ·rw[qr]at a;exact waA (by rw[if_pos (.inr (.inr (by omega)))])
  rw[qm]at a;rw[if_neg (by omega)];exact d (by omega) λ b e=>by rw[e]
 refine wax (qg.2 i) ?_;by_cases f:t.kind=2
 ·rw[if_pos (.inr f)];refine wax (bnf.2 (qj.2 f)) ?_;refine waz (λ h=>?_) λ h=>?_
  ·rw[qr]at h;exact waA (by rw[if_pos (.inl h)])
  rw[qm]at h;refine waz (λ c=>?_) λ c=>?_
  ·rw[qr]at c;exact waA (by rw[if_pos (.inr (.inl c))])
  rw[qm]at c;refine wax (bnf.2 (qj.2 f)) (waw (qj.2 f) ?_);refine waz (λ a=>?_) λ a=>?_
  ·rw[qr]at a;exact waA (by rw[if_pos (.inr (.inr (by omega)))])
  rw[qm]at a;rw[if_neg (by omega)];exact d (by omega) λ b e=>by rw[e]
 refine waw (bnt.2 (qg.2 f)) ?_;rw[if_neg (by omega)];by_cases g:t.kind=3
 ·rw[if_pos g];refine wax (bnf.2 (qj.2 g)) ?_;refine waz (λ h=>?_) λ h=>?_
  ·rw[qr]at h;exact waA (by rw[if_pos (by omega)])
  rw[qm]at h;refine waz (λ c=>?_) λ c=>?_
  ·rw[qr]at c;exact waA (by rw[if_pos (by omega)])
  rw[qm]at c;refine waw (bnt.2 (qg.2 f)) ?_;refine waz (λ a=>?_) λ a=>?_
  ·rw[bnt,qg]at a;exact waA (by rw[if_pos a])
  rw[bnf,qj]at a;rw[if_neg (by omega)];refine wax (qg.2 f) ?_;exact nm λ b e=>by rw[e]
 ·rw[if_neg g];exact waw (bnt.2 (qg.2 g)) (wav _)
theorem qKG(t:T):size t<=1000000000->Ev (λ m _=>jP m t) (jh t):=by
 induction t using T.ind with
 | h t d =>
   intro n;refine waB ?_;simp only[qAq,qfh,qk];have o:=yB t
   have a:=qp (P := λ i=>Ev (λ m k=>qaz m (jP m) k i t.kind t.name t.sort t.kids) (((t.kids.drop i).map jh).foldl thn 0)) t.kids (by omega)
    (λ b=>by
     refine waC ?_;simp only[qou,qfj];refine wax b ?_;exact waA (by simp))
    (λ i x e j b g f l=>by
     refine waC ?_;simp only[qou,qfj,qk];refine waw b (way g ?_);have c:=wa e;have p:=jM t x c;refine wau (d x c (by omega)) ?_;rw[j,wo,QX,f];refine waz (λ h=>?_) λ h=>?_
     ·rw[bnt,qg]at h;exact waA (by rw[qT _ h])
     ·rw[bnf,qj]at h;rw[h];exact l)
   rw[qjy];refine wau (qNG t) ?_;refine waz (λ h=>?_) λ h=>?_
   ·rw[bnt,qg]at h;exact waA (by rw[qT _ h])
   ·rw[bnf,qj]at h;rw[h];refine waD (L := λ m k=>qaz m (jP m) k 0 t.kind t.name t.sort t.kids) ?_;exact(a 0 (we _)).res (by rw[wO])
theorem qdh(t:T)(a:size t<=1000000000):Ev (λ m _=>jt m t) (qL t):=by
 refine waB ?_;simp only[qAc,qiO,qk];unfold qL;refine wau (qKG t a) ?_;refine waz (λ h=>?_) λ h=>?_
 ·rw[bnt,qg]at h;exact waA (by rw[if_pos h])
 rw[bnf,qj]at h;rw[if_neg (by omega)];refine wau (qpl t a) ?_;refine waz (λ h=>?_) λ h=>?_
 ·rw[qr]at h;exact waA (by rw[if_pos (.inl (by omega))])
 rw[qm]at h;refine wau (qzt t a) ?_;refine waz (λ h=>?_) λ h=>?_
 ·rw[qr]at h;exact waA (by rw[if_pos (.inr (by omega))])
 ·rw[qm]at h;exact waA (by rw[if_neg (by omega)])
end Go.AmZ
namespace Go.AmZ
open Go Go.GxZ Go.Lib
theorem qBr(b d:Nat):∀(l:List Nat) (c:Nat),l.foldl (λ a x=>max a (b+x)) (max d (b+c))=max d (b+l.foldl max c)
 | [],c=>rfl
 | x::l,c=>by
   rw[kg,kg,<- qBr b d l (max c x)];congr 1;omega
def qOZ(a n d:Nat)(e:Int)(s:Nat)(x:Nat)(r:(Int × Int × Unit) × (Int × Unit)):Prop:=r.2.1=e/\(e=0->r.1.1=((n+s:Nat):Int)/\r.1.2.1=((max d (a+x):Nat):Int))
theorem qL3(t:T):size t<=1000000000->∀ lev n d:Nat,lev+size t<=2000000000->n+size t<=2000000000->d<=2000000000->∃ r,Ev (λ m _=>yg m t lev n d) r/\qOZ lev n d (jh t) (size t) (qcx t-1) r:=by
 induction t using T.ind with
 | h t ih =>
   intro hs lev n d hlev hn hd0;have hl:=yB t;have hsz:=qM t
   have key:=qp (P := λ i=>∀ n d:Nat,n+((t.kids.drop i).map size).sum<=2000000000->d<=2000000000->∃ r,Ev (λ m k=>jN m (yg m) k lev t.kids t.kids.length i n d) r/\r.2.1=((t.kids.drop i).map jh).foldl thn 0/\(((t.kids.drop i).map jh).foldl thn 0=0->r.1.1=((n+((t.kids.drop i).map size).sum:Nat):Int)/\r.1.2.1=((((t.kids.drop i).map qcx).foldl (λ a x=>max a (lev+x)) d:Nat):Int))) t.kids (by omega)
    (λ hc n d _ _=>by
     refine⟨((n,d,()),(0,())),?_,?_,λ _=>⟨?_,?_⟩⟩
     ·refine waC ?_;simp only[qqt,qgt];exact wax hc (wav _)
     ·simp
     ·simp
     ·simp)
    (λ i x hx hd hc hg hi hP n d hn hd1=>by
     have hm:=wa hx;have h1:=jM t x hm;rw[qtU hd]at hn;obtain⟨r,hr,he,hz⟩:=ih x hm (by omega) (lev+1) n d (by omega) (by omega) hd1
     have hstep:∀ r' ,(r.2.1≠0->r'=((r.1.1,r.1.2.1,()),(r.2.1,())))->(r.2.1=0->Ev (λ m k=>jN m (yg m) k lev t.kids t.kids.length ((i+1:Nat):Int) r.1.1 r.1.2.1) r')->Ev (λ m k=>jN m (yg m) k lev t.kids t.kids.length i n d) r':=by
      intro r' g1 g2;refine waC ?_;simp only[qqt,qgt,qk];refine waw hc (way hg ?_);rw[show qe (lev:Int) 1=((lev+1:Nat):Int) by unfold qe;omega,jS (by omega),hi];refine wau hr ?_;refine waz (λ h=>?_) λ h=>?_
      ·rw[bnt,qg]at h;exact waA (g1 h).symm
      ·rw[bnf,qj]at h;exact g2 h
     rw[hd,wo,wo,wo,kD,QX,kg];by_cases h0:jh x=0
     ·obtain⟨z1,z2⟩:=hz h0;have hdep:=qET x;obtain⟨r',g1,g2,g3⟩:=hP (n+size x) (max d (lev+1+(qcx x-1))) (by omega) (by omega);refine⟨r',hstep r' (λ h=>absurd (he.trans h0) h) (λ _=>by rw[z1,z2];exact g1),by rw[h0];exact g2,λ hh=>?_⟩;rw[h0]at hh;obtain⟨q1,q2⟩:=g3 hh;refine⟨by rw[q1];congr 1;omega,?_⟩;rw[q2];have:qcx x ≥ 1:=by rw[qlb];omega
      rw[show max d (lev+1+(qcx x-1))=max d (lev+qcx x) by omega]
     ·refine⟨((r.1.1,r.1.2.1,()),(r.2.1,())),hstep _ (λ _=>rfl) (λ h=>absurd (he.symm.trans h) h0),?_,λ hh=>?_⟩
      ·rw[qT _ h0];exact he
      ·rw[qT _ h0]at hh;exact absurd hh h0)
   have start:∀ r,(yS t≠0->r=((((n+1:Nat):Int),((max d lev:Nat):Int),()),(yS t,())))->(yS t=0->Ev (λ m _=>jN m (yg m) m lev t.kids t.kids.length 0 ((n+1:Nat):Int) ((max d lev:Nat):Int)) r)->Ev (λ m _=>yg m t lev n d) r:=by
    intro r g1 g2;refine waB ?_;simp only[qDu,qgu];rw[show qe (n:Int) 1=((n+1:Nat):Int) by unfold qe;omega,jS (by omega),qDN]
    have err:∀ e,yS t=e->e≠0->Ev (λ _ _=>some ((((n+1:Nat):Int),((max d lev:Nat):Int),()),(e,()))) r:=by
     intro e he h;refine waA ?_;subst he;exact(g1 h).symm
    have nm:(t.kind=3\/t.kids.length=0)->(∀ b,yK t.name=b->(if b then(if 8<t.kids.length then 3 else 0)else 2)=yS t)->Ev (λ m _=>qa (qd3 m t.name) λ v=>cond (qd v) (some ((((n+1:Nat):Int),((max d lev:Nat):Int),()),(2,()))) (cond (ilt 8 (t.kids.length:Int)) (some ((((n+1:Nat):Int),((max d lev:Nat):Int),()),(3,()))) (jN m (yg m) m lev t.kids t.kids.length 0 ((n+1:Nat):Int) ((max d lev:Nat):Int)))) r:=by
     intro _ h;have h:=h _ rfl;refine wau (qGv _) ?_;cases hn:yK t.name with
     | false=>rw[hn]at h;exact waw rfl (err 2 h.symm (by decide))
     | true =>
       rw[hn,if_pos rfl]at h;refine wax rfl ?_;refine waz (λ h'=>?_) λ h'=>?_
       ·rw[qr]at h';rw[if_pos (by omega)]at h;exact err 3 h.symm (by decide)
       ·rw[qm]at h';rw[if_neg (by omega)]at h;exact g2 h.symm
    have leafE:∀ k,t.kind=k->(k=1\/k=2)->yS t=if t.sort<0\/5<t.sort\/0<t.kids.length then 1 else if yK t.name then 0 else 2:=by
     intro k hk h;unfold yS qgG;rw[hk,if_pos h]
    have leaf:∀ k,t.kind=k->(k=1\/k=2)->Ev (λ m _=>cond (ilt t.sort 0) (some ((((n+1:Nat):Int),((max d lev:Nat):Int),()),(1,()))) (cond (ilt 5 t.sort) (some ((((n+1:Nat):Int),((max d lev:Nat):Int),()),(1,()))) (cond (ilt 0 (t.kids.length:Int)) (some ((((n+1:Nat):Int),((max d lev:Nat):Int),()),(1,()))) (qa (qd3 m t.name) λ v=>cond (qd v) (some ((((n+1:Nat):Int),((max d lev:Nat):Int),()),(2,()))) (cond (ilt 8 (t.kids.length:Int)) (some ((((n+1:Nat):Int),((max d lev:Nat):Int),()),(3,()))) (jN m (yg m) m lev t.kids t.kids.length 0 ((n+1:Nat):Int) ((max d lev:Nat):Int))))))) r:=by
     intro k hk h;have hE:=leafE k hk h;refine waz (λ h'=>?_) λ h'=>?_
     ·rw[qr]at h';exact err 1 (by rw[hE,if_pos (.inl h')]) (by decide)
     rw[qm]at h';refine waz (λ h1=>?_) λ h1=>?_
     ·rw[qr]at h1;exact err 1 (by rw[hE,if_pos (.inr (.inl h1))]) (by decide)
     rw[qm]at h1;refine waz (λ h2=>?_) λ h2=>?_
     ·rw[qr]at h2;exact err 1 (by rw[hE,if_pos (.inr (.inr (by omega)))]) (by decide)
     rw[qm]at h2;rw[if_neg (by omega)]at hE;refine nm (.inr (by omega)) λ b hb=>?_;rw[hE,hb,if_neg (show ¬ 8<t.kids.length by omega)]
    by_cases h1:t.kind=1
    ·exact waw (qj.2 h1) (leaf 1 h1 (.inl rfl))
    refine wax (qg.2 h1) ?_;by_cases h2:t.kind=2
    ·exact waw (qj.2 h2) (leaf 2 h2 (.inr rfl))
    refine wax (qg.2 h2) ?_;by_cases h3:t.kind=3
    ·refine waw (qj.2 h3) ?_
     have hE:yS t=if t.sort≠0 then 1 else if yK t.name then(if 8<t.kids.length then 3 else 0)else 2:=by
      unfold yS qgG;rw[if_neg (by omega),if_pos h3]
     refine waz (λ h'=>?_) λ h'=>?_
     ·rw[bnt,qg]at h';exact err 1 (by rw[hE,if_pos h']) (by decide)
     rw[bnf,qj]at h';rw[if_neg (by omega)]at hE;exact nm (.inl h3) λ b hb=>by rw[hE,hb]
    ·refine wax (qg.2 h3) ?_;refine err 1 ?_ (by decide);unfold yS qgG;rw[if_neg (by omega),if_neg h3]
   rw[qjy];by_cases h0:yS t=0
   ·rw[h0];obtain⟨r,g1,g2,g3⟩:=key 0 (we _) (n+1) (max d lev) (by rw[wO];omega) (by omega);rw[wO]at g2 g3;refine⟨r,start r (λ h=>absurd h0 h) (λ _=>waD (L := λ m k=>jN m (yg m) k lev t.kids t.kids.length 0 ((n+1:Nat):Int) ((max d lev:Nat):Int)) g1),g2,λ hh=>?_⟩;obtain⟨q1,q2⟩:=g3 hh;refine⟨by rw[q1];congr 1;omega,?_⟩;rw[q2,show max d lev=max d (lev+0) by omega,qBr,qlb,xV]
   ·refine⟨_,start _ (λ _=>rfl) (λ h=>absurd h h0),?_,λ hh=>?_⟩
    ·rw[qT _ h0]
    ·rw[qT _ h0]at hh;exact absurd hh h0
theorem qdi(t:T)(c:size t<=1000000000):Ev (λ m _=>yI m t) (qL t):=by
 refine waB ?_;simp only[qA9,qjX,qk];unfold qL;obtain⟨r,f,e,d⟩:=qL3 t c 1 0 0 (by omega) (by omega) (by omega);refine wau f ?_;rw[e];refine waz (λ h=>?_) λ h=>?_
 ·rw[bnt,qg]at h;exact waA (by rw[if_pos h])
 rw[bnf,qj]at h;obtain⟨b,a⟩:=d h;have g:qcx t ≥ 1:=by rw[qlb];omega
 rw[if_neg (by omega),b,a];refine waz (λ h=>?_) λ h=>?_
 ·rw[qr]at h;exact waA (by rw[if_pos (.inl (by omega))])
 rw[qm]at h;refine waz (λ h=>?_) λ h=>?_
 ·rw[qr]at h;exact waA (by rw[if_pos (.inr (by omega))])
 ·rw[qm]at h;exact waA (by rw[if_neg (by omega)])
theorem quJ(t:T):size t<=1000000000->Ev (λ m _=>jC m t) t:=by
 induction t using T.ind with
 | h t e =>
   intro l;refine waB ?_;simp only[qBe,qgB];have n:=yB t
   have a:=qp (P := λ i=>Ev (λ m k=>qbl m (jC m) k t.kids t.kids.length i t.kind t.name t.sort 0 [] 0 (t.kids.take i) []) t) t.kids (by omega)
    (λ b=>by
     refine waC ?_;simp only[qqv,qgo];refine wax b ?_;rw[wC];exact waA (qk t))
    (λ i x c o b g f j=>by
     refine waC ?_;simp only[qqv,qgo,qk];have d:=wa c;have p:=jM t x d;refine waw b (way g (wau (e x d (by omega)) (waw (qE ?_ (by omega)) ?_)))
     ·have:(t.kids.take i).length<=t.kids.length:=by rw[wm];omega
      omega
     ·rw[f];refine j.congr λ m k=>?_;rw[kw,c];rfl)
   refine waD (L := λ m k=>qbl m (jC m) k t.kids t.kids.length 0 t.kind t.name t.sort 0 [] 0 [] []) ?_;exact a 0 (we _)
def qr4:T->Prop:=T.para λ t a=>t.kids.length<2 ^ 62/\t.name.length<2 ^ 62/\∀ p∈a,p
theorem qEU(t:T):qr4 t↔t.kids.length<2 ^ 62/\t.name.length<2 ^ 62/\∀ k∈t.kids,qr4 k:=by
 unfold qr4;rw[T.para_eq];exact⟨λ⟨a,b,c⟩=>⟨a,b,λ k d=>c _ (kO d)⟩,λ⟨a,b,c⟩=>⟨a,b,λ p e=>by obtain⟨k,d,rfl⟩:=ww.1 e;exact c k d⟩⟩
theorem qCZ{l:List T}{a:Int}(c:0<=a)(h:qgP l a=true):∀ t∈l,(size t:Int)<=a := λ t b=>by
 have e:=qyU l a c h;have d:=qkF l t b;omega
end Go.AmZ
namespace Go.GxZ
def qvJ(t:T):Int:=if(qD t.name).2.2=0 then 10 else if qn5 yZ t.name t.kids.length=false then 6 else if(qD t.name).2.2=2/\qlc t=false then 10 else 0
theorem qu6(n:List UInt8):(yZ.find? λ r=>r.1==n)=none\/∃ r∈yZ,r.1=n/\(yZ.find? λ r=>r.1==n)=some r:=by
 cases h:yZ.find? λ r=>r.1==n with
 | none=>exact .inl rfl
 | some r=>exact .inr ⟨r,List.mem_of_find?_eq_some h,by simpa using List.find?_some h,rfl⟩
theorem qwJ{n:List UInt8}(h:(yZ.find? λ r=>r.1==n)=none):qD n=(0,0,0):=by unfold qD;rw[h];rfl
theorem qpy{n:List UInt8}{r:List UInt8 × Int × Int × Int}(h:(yZ.find? λ r=>r.1==n)=some r):qD n=r.2:=by unfold qD;rw[h];rfl
def qMq(r:List UInt8 × Int × Int × Int):Bool :=
 decide (r.2.2.2≠0)&&decide (0<=r.2.1)&&decide (r.2.2.1<=8)&&(decide (r.2.2.2=2)==(r.1==qim||r.1==nSk||r.1==quG))&&(decide (r.2.2.2=2)==decide (r.2.2.2=2/\1<=r.2.1))&&(decide (r.2.2.2=3)==(r.1==qLI||r.1==qxz||r.1==qLo||r.1==qGH||r.1==qGc||r.1==qG4))
theorem qMC:yZ.all qMq=true:=by decide
theorem qwD{n:List UInt8}(h:(qD n).2.2≠0):qLa yZ n=true/\qxf yZ n=qD n/\0<=(qD n).1/\(qD n).2.1<=8/\((qD n).2.2=2↔n=qim\/n=nSk\/n=quG)/\((qD n).2.2=2->1<=(qD n).1)/\((qD n).2.2=3↔isD n=true):=by
 rcases qu6 n with b | ⟨r,d,g,b⟩
 ·rw[qwJ b]at h;exact absurd rfl h
 ·have c:=wu.1 qMC r d;subst g;rw[qpy b];unfold qMq at c;simp only[wd,beq_iff_eq,decide_eq_true_eq]at c;obtain⟨⟨⟨⟨⟨l,k⟩,j⟩,a⟩,f⟩,i⟩:=c;refine⟨wah.2 ⟨r,d,by simp⟩,qpy b,k,j,?_,?_,?_⟩
  ·constructor
   ·intro h;rw[decide_eq_true h]at a;have:=a.symm;simp only[kh,beq_iff_eq]at this;exact or_assoc.1 this
   ·intro h;by_cases e:r.2.2.2=2
    ·exact e
    ·rw[decide_eq_false e]at a;have:=a.symm;simp only[xI,beq_eq_false_iff_ne]at this;rcases h with h | h | h
     ·exact absurd h this.1.1
     ·exact absurd h this.1.2
     ·exact absurd h this.2
  ·intro h;rw[decide_eq_true h]at f;have:=of_decide_eq_true f.symm;exact this.2
  ·unfold isD;rw[<- i];simp
theorem qJ0(t:T)(n:t.kind=3):qvJ t=qdc t:=by
 unfold qvJ qdc;rw[if_neg (show ¬ (t.kind≠3)from λ h=>h n)];by_cases b:(qD t.name).2.2=0
 ·rw[if_pos b,if_pos b]
 ·rw[if_neg b,if_neg b];obtain⟨j,i,r,q,g,p,o⟩:=qwD b
  have e1:qn5 yZ t.name t.kids.length=(decide ((qD t.name).1<=(t.kids.length:Int))&&decide ((t.kids.length:Int)<=(qD t.name).2.1)):=by
   unfold qn5;rw[j,i,ka]
  rw[e1];by_cases e:(t.kids.length:Int)<(qD t.name).1\/(qD t.name).2.1<(t.kids.length:Int)
  ·rw[if_pos e,if_pos];rw[vb,decide_eq_false_iff_not,decide_eq_false_iff_not];omega
  ·rw[if_neg e,if_neg]
   ·have f:(qD t.name).2.2=2/\qlc t=false↔qaM t=true:=by
      rw[g];unfold qlc qaM;by_cases a:t.name=qim
      ·rw[if_pos a,if_pos a];simp[a]
      ·rw[if_neg a,if_neg a];by_cases c:t.name=nSk\/t.name=quG
       ·rw[if_pos c]
        have:agB t.kids = !(t.kids.any λ k=>decide (k.kind=3)||decide (k.sort≠1)):=by
         unfold agB;generalize t.kids=l
         induction l with
         | nil=>rfl
         | cons x l m=>simp only[kC,vX,m,Bool.not_or];congr 1;congr 1;by_cases h:x.sort=1<;>simp[bne,h]
        rw[this];simp[c]
       ·rw[if_neg c];constructor
        ·rintro⟨h,_⟩;rcases h with h | h
         ·exact absurd h a
         ·exact absurd h c
        ·intro h;cases h
    by_cases d:qaM t=true
    ·rw[if_pos d,if_pos (f.2 d)]
    ·rw[if_neg d,if_neg (λ h=>d (f.1 h))]
   ·rw[vb,decide_eq_false_iff_not,decide_eq_false_iff_not];omega
theorem qa2{t:T}(e:t.kind=3)(h:zj t=0):qdc t=0/\(∀ k∈t.kids,zj k=0):=by
 rw[qos,if_neg (show ¬ (t.kind≠3)from λ h=>h e)]at h;by_cases c:qdc t=0
 ·refine⟨c,?_⟩;rw[c]at h;generalize t.kids=l at *
  induction l with
  | nil=>intro k a;cases a
  | cons x l d =>
    rw[wo,QX]at h;by_cases b:zj x=0
    ·rw[b]at h;intro k a;rcases wy.1 a with rfl | a
     ·exact b
     ·exact d h k a
    ·rw[qT _ b]at h;exact absurd h b
 ·rw[qT _ c]at h;exact absurd h c
end Go.GxZ
namespace Go.AmZ
open Go Go.GxZ Go.Lib
theorem qkS(t:T)(n:List UInt8):Ev (λ m _=>jy m t n) (isN t n):=by
 refine waB ?_;simp only[qD9,ql4];unfold isN;refine waz (λ h=>?_) λ h=>?_
 ·rw[qj]at h;exact waA (by rw[h];rfl)
 ·rw[qg]at h;exact waA (by rw[show(t.kind==3)=false from beq_eq_false_iff_ne.2 h];rfl)
theorem qmg(t:T)(n:List UInt8):Ev (λ m _=>qci m t n) (isN t n):=by
 refine waB ?_;simp only[qGL,qnS];unfold isN;refine waz (λ h=>?_) λ h=>?_
 ·rw[qj]at h;exact waA (by rw[h];rfl)
 ·rw[qg]at h;exact waA (by rw[show(t.kind==3)=false from beq_eq_false_iff_ne.2 h];rfl)
theorem qNZ(n:List UInt8)(l:List T):Ev (λ m _=>qhz m n l) (apT n l):=waB (wav _)
theorem qfx(n:List UInt8)(l:List T)(a:l.length<=1000000000):Ev (λ m _=>Qo m n l) (apT n l):=by
 refine waB ?_;simp only[qEi,qlR];refine waw (qE (by simp;omega) (by omega)) ?_;refine Ev.case (λ h=>?_) λ x t h=>?_
 ·subst h;exact wav _
 ·subst h;exact wav _
def qKU(n:List UInt8):List UInt8 × Int × Int × Int:=(yZ.find? λ r=>r.1==n).getD ([],0,0,0)
theorem qtR(n:List UInt8):(qKU n).2=qD n:=by
 unfold qKU qD;cases yZ.find? λ r=>r.1==n<;>rfl
theorem qzv(n:List UInt8):Ev (λ m _=>qdS m n) (qKU n):=by
 refine waB ?_;simp only[qvD,qdn];refine wau (a:=yZ) (wav _) ?_
 have b:=qp (P := λ i=>Ev (λ m k=>Jg m k n yZ yZ.length i [] 0 0 0) (((yZ.drop i).find? λ r=>r.1==n).getD ([],0,0,0))) yZ (by decide)
  (λ c=>by
   refine waC ?_;simp only[qlH,qdL];refine wax c ?_;exact wav _)
  (λ i x j f c e d g=>by
   refine waC ?_;simp only[qlH,qdL];refine waw c (way e ?_);rw[f,List.find?_cons,d];refine waz (λ h=>?_) λ h=>?_
   ·exact waA (by rw[show(x.1==n)=true from h];rfl)
   ·rw[show(x.1==n)=false from h];exact g)
 refine waD (L := λ m k=>Jg m k n yZ yZ.length 0 [] 0 0 0) ?_;exact b 0 (we _)
theorem qpQ{t:T}(c:t.kind=3)(h:qdc t=0):(qD t.name).2.2≠0/\(qD t.name).1<=(t.kids.length:Int)/\(t.kids.length:Int)<=(qD t.name).2.1/\qaM t=false:=by
 unfold qdc at h;rw[if_neg (show ¬ t.kind≠3 from λ a=>a c)]at h;split at h
 ·omega
 rename_i d;split at h
 ·omega
 rename_i e;split at h
 ·omega
 rename_i b;exact⟨d,by omega,by omega,by simpa using b⟩
theorem qyw{t:T}{i:Nat}(h:i<t.kids.length):qb t.kids (i:Int)=some (kid t i):=by
 rw[zb];unfold kid;rw[List.getD_eq_getElem?_getD,List.getElem?_eq_getElem h];rfl
theorem qem{t:T}(h:0<t.kids.length):qb t.kids 0=some (kid t 0):=qyw (i:=0) h
theorem qsG{t:T}(h:1<t.kids.length):qb t.kids 1=some (kid t 1):=qyw (i:=1) h
theorem qEH{t:T}{i:Nat}(h:i<t.kids.length):kid t i∈t.kids:=by
 unfold kid;rw[List.getD_eq_getElem?_getD,List.getElem?_eq_getElem h];exact wW h
theorem yR{t:T}{n:List UInt8}:isN t n=true↔t.kind=3/\t.name=n:=by
 unfold isN;rw[wd,beq_iff_eq,beq_iff_eq]
theorem qJa(t:T):size t<=1000000000->Ev (λ m _=>qF m t) (zj t):=by
 induction t using T.ind with
 | h t E =>
   intro F;refine waB ?_;simp only[qw9,qeD];have G:=yB t;rw[qos];refine waz (λ h=>?_) λ z=>?_
   ·rw[bnt,qg]at h;exact waA (by rw[if_pos h])
   rw[bnf,qj]at z;rw[if_neg (show ¬ t.kind≠3 from λ c=>c z)]
   have C:=qp (P := λ i=>Ev (λ m k=>(qU m (qF m) k).2 t.kids t.kids.length i) (((t.kids.drop i).map zj).foldl thn 0)) t.kids (by omega)
    (λ f=>by
     refine waC ?_;simp only[qnm,qeF];refine wax f ?_;exact waA (by simp))
    (λ i x A w f v u y=>by
     refine waC ?_;simp only[qnm,qeF,qk];have B:=wa A;have l:=jM t x B;refine waw f (way v (wau (E x B (by omega)) ?_));rw[w,wo,QX,u];refine waz (λ h=>?_) λ h=>?_
     ·rw[bnt,qg]at h;exact waA (by rw[qT _ h])
     ·rw[bnf,qj]at h;rw[h];exact y)
   have n:Ev (λ m k=>(qU m (qF m) k).2 t.kids t.kids.length 0) ((t.kids.map zj).foldl thn 0):=(C 0 (we _)).res (by rw[wO])
   have D:=qp (P := λ i=>Ev (λ m k=>(qU m (qF m) k).1 t.kids t.kids.length i t.kind t.name t.sort t.kids) (if(t.kids.drop i).any (λ k=>decide (k.kind=3)||decide (k.sort≠1))=true then 10 else(t.kids.map zj).foldl thn 0)) t.kids (by omega)
    (λ f=>by
     refine waC ?_;simp only[qnF,qeA];refine wax f ?_;refine n.res ?_;rw[wU];rfl)
    (λ i x A w f v u y=>by
     refine waC ?_;simp only[qnF,qeA,qk];refine waw f (way v ?_);rw[w,vX,u];refine waz (λ h=>?_) λ h=>?_
     ·rw[qj]at h;exact waA (by rw[decide_eq_true h];rfl)
     rw[qg]at h;rw[decide_eq_false h];refine waz (λ q=>?_) λ q=>?_
     ·rw[bnt,qg]at q;exact waA (by rw[decide_eq_true q];rfl)
     ·rw[bnf,qj]at q;rw[decide_eq_false (λ c=>c q)];exact y)
   have d:qdc t=0->Ev (λ m _=>(qU m (qF m) m).2 t.kids t.kids.length 0) ((t.kids.map zj).foldl thn (qdc t)) := λ h=>by
    rw[h];exact waD (L := λ m k=>(qU m (qF m) k).2 t.kids t.kids.length 0) n
   have e:qaM t=t.kids.any (λ k=>decide (k.kind=3)||decide (k.sort≠1))->qdc t=(if qaM t=true then 10 else 0)->Ev (λ m _=>(qU m (qF m) m).1 t.kids t.kids.length 0 t.kind t.name t.sort t.kids) ((t.kids.map zj).foldl thn (qdc t)) := λ r h=>by
    refine(waD (L := λ m k=>(qU m (qF m) k).1 t.kids t.kids.length 0 t.kind t.name t.sort t.kids) (D 0 (we _))).res ?_;rw[wO,<- r,h];split
    ·rw[qT _ (by decide)]
    ·rfl
   refine wau (qzv t.name) ?_;rw[qtR]
   have a:qdc t=if(qD t.name).2.2=0 then 10 else if(t.kids.length:Int)<(qD t.name).1\/(qD t.name).2.1<(t.kids.length:Int)then 6 else if qaM t=true then 10 else 0:=by
    unfold qdc;rw[if_neg (show ¬ t.kind≠3 from λ c=>c z)]
   refine waz (λ h=>?_) λ h=>?_
   ·rw[qj]at h;rw[if_pos h]at a;exact waA (by rw[a,qT _ (by decide)])
   rw[qg]at h;rw[if_neg h]at a;refine waz (λ l=>?_) λ l=>?_
   ·rw[qr]at l;rw[if_pos (.inl l)]at a;exact waA (by rw[a,qT _ (by decide)])
   rw[qm]at l;refine waz (λ s=>?_) λ s=>?_
   ·rw[qr]at s;rw[if_pos (.inr s)]at a;exact waA (by rw[a,qT _ (by decide)])
   rw[qm]at s;rw[if_neg (by omega)]at a;refine waz (λ p=>?_) λ p=>?_
   ·rw[yV]at p;refine e ?_ a;unfold qaM;rw[p,if_neg (by decide),if_pos (.inl rfl)]
   rw[jR]at p;refine waz (λ b=>?_) λ b=>?_
   ·rw[yV]at b;refine e ?_ a;unfold qaM;rw[b,if_neg (by decide),if_pos (.inr rfl)]
   rw[jR]at b;refine waz (λ j=>?_) λ j=>?_
   ·rw[yV]at j
    have o:0<t.kids.length:=by
     rw[j,show(qD [110,101,119]).1=1 from by decide]at l;omega
    refine way (qem o) ?_
    have r:qaM t=decide ((kid t 0).kind≠2):=by
     unfold qaM;rw[if_pos (show t.name=qim from j)]
    refine waz (λ c=>?_) λ c=>?_
    ·rw[bnt,qg]at c;rw[r,decide_eq_true c,if_pos rfl]at a;exact waA (by rw[a,qT _ (by decide)])
    ·rw[bnf,qj]at c;rw[r,decide_eq_false (λ g=>g c)]at a;exact d a
   ·rw[jR]at j;refine d ?_
    have:qaM t=false:=by
     unfold qaM;rw[if_neg (show ¬ t.name=qim from j),if_neg (λ h=>h.elim p b)]
    rw[this]at a;exact a
theorem qF4(t:T)(a:size t<=1000000000):Ev (λ m _=>qeW m t) (qbj t):=by
 refine waB ?_;simp only[qyA,qhy,qk];unfold qbj;refine wau (qdi t a) ?_;refine waz (λ h=>?_) λ h=>?_
 ·rw[bnt,qg]at h;exact waA (by rw[QV h])
 ·rw[bnf,qj]at h;rw[h];exact wau (qJa t a) (wav _)
theorem qyn(n:List UInt8):Ev (λ m _=>qfi m n) (qD n).2.2:=by
 refine waB ?_;simp only[qA5,qgj];refine wau (a:=yZ) (waB (wav _)) ?_
 have b:=qp (P := λ i=>Ev (λ m k=>qbx m k n yZ i) (((yZ.drop i).find? λ r=>r.1==n).getD ([],0,0,0)).2.2.2) yZ (by decide)
  (λ c=>by
   refine waC ?_;simp only[qqu,qgn];refine wax c ?_;exact wav _)
  (λ i x j f c d e g=>by
   refine waC ?_;simp only[qqu,qgn];refine waw c (way d ?_);rw[f,List.find?_cons,e];refine waz (λ h=>?_) λ h=>?_
   ·refine way d (waA ?_);rw[show(x.1==n)=true from h];rfl
   ·rw[show(x.1==n)=false from h];exact g)
 refine waD (L := λ m k=>qbx m k n yZ 0) ?_;exact(b 0 (we _)).res (by rw[<- qtR];rfl)
theorem qNd(t:T):Ev (λ m _=>qkT m t) (qn5 yZ t.name t.kids.length):=by
 refine waB ?_;simp only[qBv,qgH];refine wau (a:=yZ) (waB (wav _)) ?_
 have c:=qp (P := λ i=>Ev (λ m k=>qbs m k yZ i t.kind t.name t.sort t.kids) (qn5 (yZ.drop i) t.name t.kids.length)) yZ (by decide)
  (λ e=>by
   refine waC ?_;simp only[qqF,qgq];refine wax e ?_;exact wav _)
  (λ i x l g e d f j=>by
   refine waC ?_;simp only[qqF,qgq];refine waw e (way d ?_);rw[g,qIa,f];refine waz (λ h=>?_) λ h=>?_
   ·rw[if_pos (show(x.1==t.name)=true from h)];refine way d ?_;refine waz (λ b=>?_) λ b=>?_
    ·rw[yT]at b;refine way d (waA ?_);rw[decide_eq_true b];rfl
    ·rw[yo]at b;exact waA (by rw[decide_eq_false (by omega)];rfl)
   ·rw[if_neg (by rw[show(x.1==t.name)=false from h];decide)];exact j)
 refine waD (L := λ m k=>qbs m k yZ 0 t.kind t.name t.sort t.kids) ?_;exact c 0 (we _)
theorem qIl(t:T)(f:t.kids.length<2 ^ 62)(a:t.name=qim->0<t.kids.length):Ev (λ m _=>qhh m t) (qlc t):=by
 refine waB ?_;simp only[qxJ,qev];unfold qlc;refine waz (λ h=>?_) λ h=>?_
 ·rw[yV]at h;rw[if_pos (show t.name=qim from h)];refine way (qem (a h)) (wav _)
 rw[jR]at h;rw[if_neg (show ¬ t.name=qim from h)]
 have c:=qp (P := λ i=>Ev (λ m k=>JW m k i t.kind t.name t.sort t.kids) (agB (t.kids.drop i))) t.kids f
  (λ d=>by
   refine waC ?_;simp only[qnq,qel];refine wax d ?_;exact waA (by rw[wU];rfl))
  (λ i x n j d e g l=>by
   refine waC ?_;simp only[qnq,qel];refine waw d (way e ?_);rw[j,qKh,g];refine waz (λ h=>?_) λ h=>?_
   ·exact waA (by rw[show(x.kind==3)=true from h];rfl)
   rw[show(x.kind==3)=false from h];refine way e ?_;refine waz (λ b=>?_) λ b=>?_
   ·rw[bnt,qg]at b;exact waA (by rw[show(x.sort != 1)=true from bne_iff_ne.2 b];rfl)
   ·rw[bnf,qj]at b;rw[show(x.sort != 1)=false by rw[b];rfl];exact l)
 refine waD (L := λ m k=>JW m k 0 t.kind t.name t.sort t.kids) ?_;exact(c 0 (we _)).res (by rw[wO])
theorem qJy(t:T):size t<=1000000000->Ev (λ m _=>jr m t) (zj t):=by
 induction t using T.ind with
 | h t o =>
   intro C;refine waB ?_;simp only[qAF,qfO,qk];have E:=yB t;rw[qos];refine waz (λ h=>?_) λ f=>?_
   ·rw[bnt,qg]at h;exact waA (by rw[if_pos h])
   rw[bnf,qj]at f;rw[if_neg (show ¬ t.kind≠3 from λ r=>r f),<- qJ0 t f]
   have c:=qp (P := λ i=>Ev (λ m k=>Jy m (jr m) k i t.kind t.name t.sort t.kids) (((t.kids.drop i).map zj).foldl thn 0)) t.kids (by omega)
    (λ e=>by
     refine waC ?_;simp only[qoO,qfE];refine wax e ?_;exact waA (by simp))
    (λ i x p u e s q w=>by
     refine waC ?_;simp only[qoO,qfE,qk];have g:=wa p;have G:=jM t x g;refine waw e (way s (wau (o x g (by omega)) ?_));rw[u,wo,QX,q];refine waz (λ h=>?_) λ h=>?_
     ·rw[bnt,qg]at h;exact waA (by rw[qT _ h])
     ·rw[bnf,qj]at h;rw[h];exact w)
   have a:qvJ t=0->Ev (λ m _=>Jy m (jr m) m 0 t.kind t.name t.sort t.kids) ((t.kids.map zj).foldl thn (qvJ t)) := λ h=>by
    rw[h];exact(waD (L := λ m k=>Jy m (jr m) k 0 t.kind t.name t.sort t.kids) (c 0 (we _))).res (by rw[wO])
   unfold qvJ at a |-
   refine wau (qyn t.name) ?_;refine waz (λ h=>?_) λ h=>?_
   ·rw[qj]at h;rw[if_pos h];exact waA (by rw[qT _ (by decide)])
   rw[qg]at h;rw[if_neg h]at a |-
   refine wau (qNd t) ?_;cases d:qn5 yZ t.name t.kids.length with
   | false =>
     refine waw rfl ?_;rw[if_pos rfl];exact waA (by rw[qT _ (by decide)])
   | true =>
     rw[d,if_neg (by decide)]at a;rw[if_neg (by decide)];refine wax rfl ?_;refine waz (λ b=>?_) λ b=>?_
     ·rw[qj]at b;refine wau (qIl t (by omega) λ D=>?_) ?_
      ·obtain⟨n,l,B,A,z,j,y⟩:=qwD h;have F:=j b;unfold qn5 at d;rw[n,l,ka,wd,decide_eq_true_iff]at d;omega
      cases v:qlc t with
      | false =>
        refine waw rfl ?_;rw[if_pos ⟨b,rfl⟩];exact waA (by rw[qT _ (by decide)])
      | true =>
        rw[v,if_neg (by rintro⟨_,h⟩;cases h)]at a;rw[if_neg (by rintro⟨_,h⟩;cases h)];exact wax rfl (a rfl)
     ·rw[qg]at b;rw[if_neg (by rintro⟨h,_⟩;exact b h)]at a |-
      exact a rfl
theorem qyo(t:T)(a:size t<=1000000000):Ev (λ m _=>qd2 m t) (qbj t):=by
 refine waB ?_;simp only[qAi,qiR,qk];unfold qbj;refine wau (qdh t a) ?_;refine waz (λ h=>?_) λ h=>?_
 ·rw[bnt,qg]at h;exact waA (by rw[QV h])
 ·rw[bnf,qj]at h;rw[h];exact wau (qJy t a) (wav _)
end Go.AmZ
namespace Go.GxZ
def Asc(l:List T):Prop:=l.Pairwise λ a b=>qt a b=-1
theorem yC{a:T}:qt a a≠-1:=by rw[qsa];decide
theorem qxj{a b:T}:qt a b=1↔qt b a=-1:=by
 have:=yf.anti a b;omega
theorem qfD{a b c:T}(e:qt a b=-1)(d:qt b c=-1):qt a c=-1:=yf.trans a b c e d
theorem qa9{x:T}{l:List T}:Asc (x::l)↔(∀ y∈l,qt x y=-1)/\Asc l:=List.pairwise_cons
theorem qEV:∀(l m:List T),Asc l->Asc m->(∀ x,x∈l↔x∈m)->l=m
 | [],[],_,_,_=>rfl
 | [],y::m,_,_,h=>absurd ((h y).2 (wh ..)) (by simp)
 | x::l,[],_,_,h=>absurd ((h x).1 (wh ..)) (by simp)
 | x::l,y::m,n,k,h=>by
   obtain⟨c,i⟩:=qa9.1 n;obtain⟨b,g⟩:=qa9.1 k;have f:=(h x).1 (wh ..);have d:=(h y).2 (wh ..)
   have e:x=y:=by
    rcases wy.1 f with e | f
    ·exact e
    rcases wy.1 d with e | d
    ·exact e.symm
    exact absurd (qfD (c y d) (b x f)) yC
   subst e;rw[qEV l m i g λ z=>?_];constructor
   ·intro a;rcases wy.1 ((h z).1 (wg _ a))with e | j
    ·subst e;exact absurd (c z a) yC
    ·exact j
   ·intro a;rcases wy.1 ((h z).2 (wg _ a))with e | j
    ·subst e;exact absurd (b z a) yC
    ·exact j
theorem qvC(n:Nat):∀(a b:List T),a.length+b.length<=n->Asc a->Asc b->Asc (zl a b)/\(∀ x,x∈zl a b↔¬(x∈a↔x∈b)):=by
 induction n with
 | zero =>
   intro a b h _ _;obtain rfl:a=[]:=kt.1 (by omega);obtain rfl:b=[]:=kt.1 (by omega);rw[zl];exact⟨List.Pairwise.nil,by simp⟩
 | succ n p =>
   intro a b h u t
   match a,b with
   | [],b=>rw[zl];exact⟨t,by simp⟩
   | x::a,[]=>rw[zl];exact⟨u,by simp[Classical.or_iff_not_imp_left]⟩
   | x::a,y::b =>
     rw[zl];obtain⟨g,o⟩:=qa9.1 u;obtain⟨f,m⟩:=qa9.1 t;simp only[wv]at h;by_cases k:qt x y=-1
     ·rw[if_pos k];obtain⟨l,i⟩:=p a (y::b) (by simp;omega) o t
      have s:x ∉ y::b:=by
       intro h;rcases wy.1 h with e | h
       ·subst e;exact yC k
       ·exact yC (qfD k (f x h))
      have B:x ∉ a := λ h=>yC (g x h);refine⟨qa9.2 ⟨λ z q=>?_,l⟩,λ z=>?_⟩
      ·have:=(i z).1 q;by_cases d:z∈a
       ·exact g z d
       ·have c:z∈y::b:=by
          by_cases c:z∈y::b
          ·exact c
          ·exact absurd ⟨λ h=>absurd h d,λ h=>absurd h c⟩ this
        rcases wy.1 c with e | w
        ·rw[e];exact k
        ·exact qfD k (f z w)
      ·rw[wy,i,wy (a:=z) (b:=x)];by_cases e:z=x
       ·subst e;simp[s]
       ·simp[e]
     ·rw[if_neg k];by_cases v:qt x y=1
      ·rw[if_pos v];have j:=qxj.1 v;obtain⟨l,i⟩:=p (x::a) b (by simp;omega) u m
       have r:y ∉ x::a:=by
        intro h;rcases wy.1 h with e | h
        ·subst e;exact yC j
        ·exact yC (qfD j (g y h))
       have A:y ∉ b := λ h=>yC (f y h);refine⟨qa9.2 ⟨λ z q=>?_,l⟩,λ z=>?_⟩
       ·have:=(i z).1 q;by_cases c:z∈b
        ·exact f z c
        ·have d:z∈x::a:=by
           by_cases d:z∈x::a
           ·exact d
           ·exact absurd ⟨λ h=>absurd h d,λ h=>absurd h c⟩ this
         rcases wy.1 d with e | w
         ·rw[e];exact j
         ·exact qfD j (g z w)
       ·rw[wy,i,wy (a:=z) (b:=y)];by_cases e:z=y
        ·subst e;simp[r]
        ·simp[e]
      ·rw[if_neg v];have j:qt x y=0:=by have:=yf.rng x y;omega
       have e:=qa3 x y j;subst e;obtain⟨l,i⟩:=p a b (by omega) o m;refine⟨l,λ z=>?_⟩;rw[i,wy,wy];by_cases e:z=x
       ·subst e;have:z ∉ a := λ h=>yC (g z h);have:z ∉ b := λ h=>yC (f z h);simp[*]
       ·simp[e]
theorem qyP{a b:List T}(d:Asc a)(c:Asc b):Asc (zl a b):=(qvC _ a b (wb _) d c).1
theorem qI9{a b:List T}(d:Asc a)(c:Asc b)(x:T):x∈zl a b↔¬(x∈a↔x∈b):=(qvC _ a b (wb _) d c).2 x
theorem qh7:∀(b:List (List T)) (a:List T),Asc a->(∀ l∈b,Asc l)->Asc (b.foldl zl a)
 | [],_,h,_=>h
 | l::b,a,h,k=>qh7 b _ (qyP h (k l (wh ..))) λ m c=>k m (wg _ c)
theorem qmT(t:T):Asc (Qd t):=by
 refine T.ind (P := λ t=>Asc (Qd t)) ?_ t;intro t a;rw[qlQ];split
 ·exact List.Pairwise.nil
 ·split
  ·exact qh7 _ _ List.Pairwise.nil λ l b=>by
    obtain⟨k,c,rfl⟩:=ww.1 b;exact a k c
  ·exact vy _ _
def JS(t:T)(s:List T × Bool)(x:T):List T × Bool :=
 if s.2=false/\qt t x<=0 then(s.1++(if qt t x<0 then[t]else[])++[x],true)else(s.1++[x],s.2)
def qyg(l:List T)(t:T):List T:=if(l.foldl (JS t) ([],false)).2 then(l.foldl (JS t) ([],false)).1 else(l.foldl (JS t) ([],false)).1++[t]
def qiZ(l:List T)(t:T):List T:=if l.any (λ x=>jq x t)then l.filter (λ x => !jq x t)else qyg l t
def qk0(a b:List T):List T:=b.foldl qiZ a
theorem qzd(t:T):∀(l a:List T),l.foldl (JS t) (a,true)=(a++l,true)
 | [],a=>by simp
 | x::l,a=>by
   have e:JS t (a,true) x=(a++[x],true):=by simp[JS]
   rw[kg,e,qzd t l];simp
def Jn:List T->T->List T
 | [],t=>[t]
 | x::l,t=>if qt t x<0 then t::x::l else if qt t x=0 then x::l else x::Jn l t
theorem qwQ(t:T):∀(l a:List T),(if(l.foldl (JS t) (a,false)).2 then(l.foldl (JS t) (a,false)).1 else(l.foldl (JS t) (a,false)).1++[t])=a++Jn l t
 | [],a=>by simp[Jn]
 | x::l,a=>by
   rw[kg];by_cases h:qt t x<=0
   ·have e:JS t (a,false) x=(a++(if qt t x<0 then[t]else[])++[x],true):=by simp[JS,h]
    rw[e,qzd,Jn];by_cases b:qt t x<0
    ·simp[b]
    ·have:qt t x=0:=by omega
     simp[this]
   ·have e:JS t (a,false) x=(a++[x],false):=by simp[JS,h]
    rw[e,qwQ t l,Jn,if_neg (by omega),if_neg (by omega)];simp
theorem qt4(l:List T)(t:T):qyg l t=Jn l t:=by
 have:=qwQ t l [];simpa[qyg]using this
theorem qtG(t:T):∀(l:List T) (x:T),x∈Jn l t↔x∈l\/x=t
 | [],x=>by simp[Jn]
 | y::l,x=>by
   rw[Jn];split
   ·simp only[wy];constructor
    ·rintro(h | h | h)<;>simp[h]
    ·rintro((h | h) | h)<;>simp[h]
   ·split
    ·rename_i h;have:=qa3 t y h;subst this;simp only[wy];constructor
     ·rintro(h | h)<;>simp[h]
     ·rintro((h | h) | h)<;>simp[h]
    ·rw[wy,qtG t l x,wy];constructor
     ·rintro(h | h | h)<;>simp[h]
     ·rintro((h | h) | h)<;>simp[h]
theorem qDw(t:T):∀(l:List T),Asc l->Asc (Jn l t)
 | [],_=>vy _ _
 | y::l,h=>by
   obtain⟨c,d⟩:=qa9.1 h;rw[Jn];have f:=yf.rng t y;split
   ·have b:qt t y=-1:=by omega
    refine qa9.2 ⟨λ z a=>?_,h⟩;rcases wy.1 a with e | a
    ·rw[e];exact b
    ·exact qfD b (c z a)
   ·split
    ·exact h
    ·refine qa9.2 ⟨λ z a=>?_,qDw t l d⟩;rcases(qtG t l z).1 a with a | e
     ·exact c z a
     ·rw[e];exact qxj.1 (by omega)
theorem qa5{a b:T}:jq a b=true↔a=b:=by unfold jq;exact decide_eq_true_iff
theorem qJw{l:List T}(h:Asc l)(t:T):Asc (qiZ l t)/\∀ x,x∈qiZ l t↔¬(x∈l↔x=t):=by
 unfold qiZ;by_cases a:t∈l
 ·have f:(l.any λ x=>jq x t)=true:=wah.2 ⟨t,a,qa5.2 rfl⟩;rw[if_pos f];refine⟨List.Pairwise.filter _ h,λ x=>?_⟩;rw[kK];by_cases e:x=t
  ·subst e;simp[a,qa5.2 rfl]
  ·have:jq x t=false:=by
     cases b:jq x t
     ·rfl
     ·exact absurd (qa5.1 b) e
   simp[e,this]
 ·rw[if_neg (λ b=>by
    obtain⟨x,c,d⟩:=wah.1 b;exact a (by rw[<- qa5.1 d];exact c)),qt4]
  refine⟨qDw t l h,λ x=>?_⟩;rw[qtG];by_cases e:x=t
  ·subst e;simp[a]
  ·simp[e]
theorem qpg:∀(b a:List T),Asc a->Asc b->Asc (qk0 a b)/\∀ x,x∈qk0 a b↔¬(x∈a↔x∈b)
 | [],a,g,_=>⟨g,λ x=>by simp[qk0]⟩
 | y::b,a,g,n=>by
   obtain⟨f,d⟩:=qa9.1 n;obtain⟨l,k⟩:=qJw g y;obtain⟨j,i⟩:=qpg b (qiZ a y) l d;refine⟨j,λ x=>?_⟩;rw[show qk0 a (y::b)=qk0 (qiZ a y) b from rfl,i,k,wy];by_cases e:x=y
   ·subst e;have:x ∉ b := λ h=>yC (f x h);by_cases c:x∈a<;>simp[this,c]
   ·by_cases c:x∈a<;>by_cases m:x∈b<;>simp[e,c,m]
theorem qCU{a b:List T}(d:Asc a)(c:Asc b):qk0 a b=zl a b :=
 qEV _ _ (qpg b a d c).1 (qyP d c) λ x=>by rw[(qpg b a d c).2,qI9 d c]
end Go.GxZ
namespace Go.AmZ
open Go Go.GxZ Go.Lib
def szL(l:List T):Nat:=(l.map size).sum
theorem qS(x:T)(l:List T):szL (x::l)=size x+szL l:=by simp[szL]
theorem qiz(a b:List T):szL (a++b)=szL a+szL b:=by simp[szL]
theorem jT:∀ l:List T,l.length<=szL l
 | []=>we _
 | x::l=>by
   have:=jT l;have:=size_pos x;rw[qS,wv];omega
theorem qcY{l:List T}{x:T}(h:x∈l):size x<=szL l:=qkF l x h
theorem qp6:∀(n:Nat) (a b:List T),a.length+b.length<=n->szL (zl a b)<=szL a+szL b
 | _,[],b,_=>by rw[zl];omega
 | _,x::a,[],_=>by rw[zl];omega
 | 0,x::a,y::b,h=>by simp at h
 | n+1,x::a,y::b,h=>by
   simp only[wv]at h;rw[zl];split
   ·have:=qp6 n a (y::b) (by simp;omega);rw[qS,qS];omega
   ·split
    ·have:=qp6 n (x::a) b (by simp;omega);rw[qS y,qS y];omega
    ·have:=qp6 n a b (by omega);rw[qS,qS];omega
theorem qtt:∀(b:List (List T)) (a:List T),szL (b.foldl zl a)<=szL a+(b.map szL).sum
 | [],_=>by simp
 | l::b,a=>by
   have d:=qtt b (zl a l);have c:=qp6 _ a l (wb _);simp only[kg,wo,kD];omega
theorem qwz(f g:T->Nat):∀ l:List T,(∀ k∈l,f k<=g k)->(l.map f).sum<=(l.map g).sum
 | [],_=>wb _
 | x::l,h=>by
   have c:=h x (wh ..);have b:=qwz f g l λ k a=>h k (wg _ a);simp only[wo,kD];omega
theorem qCu(l:List T)(h:∀ k∈l,szL (Qd k)<=size k):szL ((l.map Qd).foldl zl [])<=szL l:=by
 refine wD (qtt _ _) ?_;rw[xi];have:=qwz (szL ∘ Qd) size l h;show 0+_<=(l.map size).sum;omega
theorem qlw(t:T):szL (Qd t)<=size t:=by
 refine T.ind (P := λ t=>szL (Qd t)<=size t) ?_ t;intro t a;rw[qlQ];split
 ·exact we _
 ·split
  ·have:=qCu t.kids a;have:=qM t;unfold szL at *;omega
  ·show szL [t]<=_;rw[qS];exact wb _
theorem qfa(l:List T):szL (zW l)<=szL l:=qCu l λ k _=>qlw k
theorem qpL(x:T)(l:List T):QO (x::l) 1 (((x::l).length:Nat):Int)=l:=by
 unfold QO;rw[wF,wC];rfl
theorem qdN(n:Nat):inb (n:Int) n=true:=by unfold inb;rw[decide_eq_true_iff];omega
theorem qsT(x:T)(l:List T):inb 1 (Int.toNat (((x::l).length:Nat):Int))=true:=by
 unfold inb;rw[decide_eq_true_iff,wF,wv];omega
theorem qCe(x:T)(l:List T):ilt 0 (((x::l).length:Nat):Int)=true:=by rw[qr,wv];omega
theorem qHq:∀(n:Nat) (a b c:List T),a.length+b.length<=n->szL c+szL a+szL b<=1000000000->Ev (λ m k=>qdj m k a b c) (c++zl a b):=by
 intro n
 induction n with
 | zero =>
   intro a b c i g;have:a=[]:=wj (by omega);subst this;have:b=[]:=wj (by omega);subst this;refine waC ?_;simp only[qtw,qjn];have:=jT c;exact wax rfl (waw (qE (by simp only[w7];omega) (by omega)) (waw (qE (by simp only[w7,wA];omega) (by omega)) (waA (by rw[zl];simp))))
 | succ n f =>
   intro a b c i g;refine waC ?_;simp only[qtw,qjn,qk];have o:=jT c;have l:=jT a;have j:=jT b;cases a with
   | nil =>
     refine wax rfl (waw (qE (by simp only[w7];omega) (by omega)) (waw (qE (by simp only[wA];omega) (by omega)) (waA (by rw[zl];simp))))
   | cons x a =>
     refine waw (qCe x a) ?_;cases b with
     | nil =>
       refine wax rfl (waw (qE (by omega) (by omega)) (waw (qE (by rw[wc];simp only[w7];omega) (by omega)) (waA (by rw[zl];simp))))
     | cons y b =>
       rw[qS,qS]at g;refine waw (qCe y b) (way (qag _) (way (qag _) (wau (qd6 x (by omega) y (by omega)) ?_)));rw[zl];simp only[wv]at i l j;rw[qS]at l j;refine waz (λ e=>?_) λ e=>?_
       ·rw[qr]at e;have e:qt x y=-1:=by rcases yf.rng x y with h | h | h<;>omega
        rw[if_pos e];refine way (qag _) (waw (qE (by omega) (by omega)) (waw (qdN _) (waw (qsT x a) ?_)));rw[qpL];refine(f a (y::b) (c++[x]) (by simp only[wv];omega) (by rw[qiz,qS,qS];show szL c+(size x+0)+_+_<=_;omega)).res (by simp)
       ·rw[qm]at e;rw[if_neg (by omega)];refine waz (λ d=>?_) λ d=>?_
        ·rw[qr]at d;have d:qt x y=1:=by rcases yf.rng x y with h | h | h<;>omega
         rw[if_pos d];refine way (qag _) (waw (qE (by omega) (by omega)) (waw (qdN _) (waw (qsT y b) ?_)));rw[qpL];refine(f (x::a) b (c++[y]) (by simp only[wv];omega) (by rw[qiz,qS,qS];show szL c+(size y+0)+_+_<=_;omega)).res (by simp)
        ·rw[qm]at d;rw[if_neg (by omega)];refine waw (qdN _) (waw (qsT x a) (waw (qdN _) (waw (qsT y b) ?_)));rw[qpL,qpL];exact f a b c (by omega) (by omega)
theorem qCH(a b:List T)(c:szL a+szL b<=1000000000):Ev (λ m _=>qlY m a b) (zl a b):=by
 refine waB ?_;simp only[qHb,qi8];refine waD (L := λ m k=>qdj m k a b []) ?_;exact qHq _ a b [] (wb _) (by show 0+_+_<=_;omega)
theorem qEd(l:List T)(i:Nat):szL (l.take i)<=szL l:=by
 have:=congrArg szL (kz i l);rw[qiz]at this;omega
theorem Qz{l:List T}{i:Nat}{x:T}(h:l[i]?=some x):szL (l.take i)+size x<=szL l:=by
 have b:l.take (i+1)=l.take i++[x]:=by rw[kw,h];rfl
 have a:=qEd l (i+1);rw[b,qiz,qS]at a;have:szL ([]:List T)=0:=rfl;omega
theorem qkA{l:List T}{i:Nat}{x:T}(h:l[i]?=some x):((l.take (i+1)).map Qd).foldl zl []=zl (((l.take i).map Qd).foldl zl []) (Qd x):=by
 rw[kw,h,wS,xe];rfl
theorem qLS(t:T):size t<=1000000000->Ev (λ m _=>yG m t) (Qd t):=by
 induction t using T.ind with
 | h t s =>
   intro B;have C:=yB t;have A:=qM t;refine waB ?_;simp only[qw8,qet,qk]
   have o:=qp (P := λ i=>Ev (λ m k=>QT m (yG m) k (((t.kids.take i).map Qd).foldl zl []) t.kids t.kids.length i) ((t.kids.map Qd).foldl zl [])) t.kids (by omega)
    (λ q=>by
     refine waC ?_;simp only[qmQ,qez];refine wax q ?_;rw[wC];exact wav _)
    (λ i x c D q w u y=>by
     refine waC ?_;simp only[qmQ,qez,qk];have r:=wa c;have F:=jM t x r;have z:=qfa (t.kids.take i);have g:=Qz c;have E:=qlw x;refine waw q (way w (wau (s x r (by omega)) (wau (qCH _ _ ?_) ?_)))
     ·unfold zW at z;unfold szL at *;omega
     ·rw[u];refine y.congr λ m k=>?_;rw[qkA c])
   have j:Ev (λ m _=>QT m (yG m) m [] t.kids t.kids.length 0) ((t.kids.map Qd).foldl zl []) :=
    waD (L := λ m k=>QT m (yG m) k [] t.kids t.kids.length 0) (o 0 (we _))
   rw[qlQ];by_cases g:t.kind=3
   ·have f:ieq t.kind 3=true:=qj.2 g;refine waw f ?_;refine waz (λ e=>?_) λ e=>?_
    ·rw[yV]at e;have a:isN t qcM=true:=yR.2 ⟨g,e⟩
     have d:isN t qc9=false:=by
      rw[<- kP,yR];rintro⟨_,h⟩;rw[e]at h;exact absurd h (by decide)
     refine waz (λ b=>?_) λ b=>?_
     ·rw[qj]at b;have b:t.kids=[]:=wj (by omega);rw[a,b];exact wav _
     ·rw[qg]at b
      have b:t.kids.isEmpty=false:=by
       cases v:t.kids with
       | nil=>rw[v]at b;exact absurd rfl b
       | cons _ _=>rfl
      rw[a,b,d];exact waw f (wax (by rw[e];rfl) (wav _))
    ·have p:=jR.1 e
     have a:isN t qcM=false:=by
      rw[<- kP,yR];rintro⟨_,h⟩;exact p h
     rw[a];refine waw f (waz (λ c=>?_) λ c=>?_)
     ·rw[show isN t qc9=true from yR.2 ⟨g,yV.1 c⟩];exact j
     ·have d:isN t qc9=false:=by
        rw[<- kP,yR];rintro⟨_,h⟩;exact jR.1 c h
      rw[d];exact wav _
   ·have f:ieq t.kind 3=false:=qg.2 g
    have l:∀ n,isN t n=false := λ n=>by
     rw[<- kP,yR];rintro⟨h,_⟩;exact g h
    rw[l,l];exact wax f (wax f (wav _))
end Go.AmZ
