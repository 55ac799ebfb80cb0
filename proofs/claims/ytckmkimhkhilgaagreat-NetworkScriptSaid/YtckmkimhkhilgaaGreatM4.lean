/- Part 4 of what the proofs stand on: plain functions of the program, and that they are its functions. -/
import Derived.Test.YtckmkimhkhilgaaGreatM3
import Derived.KernelRfl
import Derived.Test.YtckmkimhkhilgaaGreatProg
import Derived.Laws.OwnMore
import Derived.Deep.DeepAppendRoom
import Derived.ArgAppend
import Derived.Test.YtckmkimhkhilgaaGreatM2
import Derived.IntWalk
import Derived.Lib.Bytealg
set_option linter.unusedVariables false
set_option linter.unusedSimpArgs false
noncomputable section
namespace Go.AmZ
open Go Go.RowKit Go.GxZ Go.Sort Go.Proofs Go.Shelf
structure qKz (w0:World) (blk:Nat) (et:TypeId) (vs:Array Value) (W:World):Prop where
 hb:W.heap[blk]?=some (.cells vs et (0,0))
 os:W.os=w0.os
 tape:W.tape=w0.tape
 output:W.output=w0.output
 size:w0.heap.size<=W.heap.size
 other:∀ b,b<w0.heap.size->b≠blk->W.heap[b]?=w0.heap[b]?
 drawn:w0.drawn<=W.drawn
theorem qKz.refl{w:World}{a:Nat}{b:TypeId}{vs:Array Value}(h:w.heap[a]?=some (.cells vs b (0,0))):qKz w a b vs w:=⟨h,rfl,rfl,rfl,wb _,λ _ _ _=>rfl,wb _⟩
theorem sort_blks{w:World}{blk:Nat}{et:TypeId}{vs:Array Value}(hb:w.heap[blk]?=some (.cells vs et (0,0))){α : Type}[Inhabited α](enc : α -> List Value)(k m:Nat)(dk:Array α)(os:Array Obj) :
  qKz w blk et (putCells id 0 (flatK enc k dk) vs) (sortWorldK enc k w blk 0 m dk os):=by
 have hlt:blk<w.heap.size:=(Array.getElem?_eq_some_iff.1 hb).1;have hh:(sortWorldK enc k w blk 0 m dk os).heap=w.heap.modify blk (onCells (putCells id 0 (flatK enc k dk)))++os:=rfl;refine⟨?_,rfl,rfl,rfl,?_,λ b hb' hn=>?_,kF _ _⟩
 ·rw[hh,Array.getElem?_append_left (by simpa using hlt),Array.getElem?_modify,if_pos rfl,hb];rfl
 ·rw[hh,xC,Array.size_modify];exact kF _ _
 ·rw[hh,Array.getElem?_append_left (by simpa using hb'),Array.getElem?_modify,if_neg (xK hn)]
theorem qJW.grow{W w':World}(h:qJW W w'):∃ q a,w'=Sort.grow (W.drewN q) a:=by
 refine⟨w'.drawn-W.drawn,w'.heap.extract W.heap.size w'.heap.size,?_⟩
 have c:w'.heap=W.heap++w'.heap.extract W.heap.size w'.heap.size:=by
  apply Array.ext_getElem?;intro i;by_cases b:i<W.heap.size
  ·rw[Array.getElem?_append_left b];exact h.block i b
  ·rw[Array.getElem?_append_right (by omega),Array.getElem?_extract];split
   ·congr 1;omega
   ·rw[Array.getElem?_eq_none (by omega)]
 have d:W.drawn+(w'.drawn-W.drawn)=w'.drawn:=Nat.add_sub_cancel' h.drawn;obtain⟨g,f,e,_,_,_⟩:=h;cases w';cases W;simp only[Sort.grow,World.drewN]at *;rw[<- c,d,g,f,e]
def qcu(vs:Array Value)(k p:Nat):List Value:=(vs.toList.drop (p*k)).take k
theorem qp8{vs:Array Value}{k p j:Nat}(a:j<k):(qcu vs k p)[j]?=vs[p*k+j]?:=by
 unfold qcu;rw[List.getElem?_take,if_pos a,List.getElem?_drop,Array.getElem?_toList]
theorem qty{vs:Array Value}{k p n:Nat}(a:p<n)(b:n*k<=vs.size):(qcu vs k p).length=k:=by
 unfold qcu;have:(p+1)*k<=n*k:=wn _ a;rw[kU]at this;rw[wm,wQ,wM];omega
theorem qAU{Γ : Gh}{τ : Ty}{c:List (List AV)}{l:List (Val τ)}{vs:Array Value}{n:Nat}(v:c.length=n)(B:∀ e∈c,e.length = τ.size)(w:zf (yh τ) c=some l)(C:yM Γ τ.size c (vs.toList.take (n * τ.size)))(A:n * τ.size<=vs.size)
  {p:Nat} {x:Val τ} (t:l[p]?=some x):RepL Γ (qj τ x) (qcu vs τ.size p)/\∀ u∈qcu vs τ.size p,u.oneCell'=true:=by
 have o:l.length=n:=(qX w).symm.trans v;have h:p<n:=by rw[<- o];exact getElem?_lt t
 have b:p<c.length:=by rw[v];exact h
 obtain⟨x',g,r⟩:=J7 w (List.getElem?_eq_getElem b);rw[t]at g;cases g;have f:=B _ (wW b);have a:=qty (k := τ.size) h A
 have get:∀ j,j < τ.size->∃ u,(qcu vs τ.size p)[j]?=some u/\Rep Γ (c[p][j]?.getD .dead) u/\u.oneCell'=true:=by
  intro j d;have i:j<c[p].length:=by rw[f];exact d
  obtain⟨u,u1,u2,u3⟩:=C p c[p] j _ (List.getElem?_eq_getElem b) (List.getElem?_eq_getElem i);refine⟨u,?_,?_,u3⟩
  ·rw[qp8 d,<- Array.getElem?_toList];rw[List.getElem?_take]at u1;split at u1
   ·exact u1
   ·cases u1
  ·rw[List.getElem?_eq_getElem i];exact u2
 constructor
 ·refine(qoN r).rep ⟨by rw[a,f],λ j y u s m=>?_⟩;have d:j < τ.size:=by rw[<- f];exact getElem?_lt s
  obtain⟨z,u1,u2,_⟩:=get j d;rw[m]at u1;cases u1;rw[s]at u2;exact u2
 ·intro u m;obtain⟨j,d⟩:=List.getElem?_of_mem m;have q:j < τ.size:=by rw[<- a];exact getElem?_lt d
  obtain⟨z,u1,_,u3⟩:=get j q;rw[d]at u1;cases u1;exact u3
theorem qpR(j k n:Nat)(h:j<n*k):j / k<n/\j / k*k+j % k=j/\j % k<k:=by
 have b:0<k:=by
  rcases vp k with a | a
  ·rw[a,Nat.mul_zero]at h;exact absurd h (wL _)
  ·exact a
 refine⟨(xW b).2 h,?_,xS _ b⟩;rw[xF];exact vn j k
set_option maxHeartbeats 1000000 in
theorem qIO {P:Program} {ρ : Ren} (L:SlLaysF0.n6 P ρ) {τ : Ty} {g:FuncId} (hag:∀ v,yK τ v = .agg (qj τ v)) (aE:∀ w,(isAgg (ρ.t 24)).run P w = .ok true w) (zE:∀ w,(Go.sizeOf (ρ.t 24)).run P w = .ok τ.size w)
  {F:Val τ -> Val τ -> Option Int} (hF:Fn2 P g τ (λ c:Int => .int .i64 c) F) (hf:qgO P (ρ.f 6)) {fn:List (Val τ)->Option (List (Val τ))} (hfn:∀ l r,fn l=some r->qsI F l=some r) (hk1' : τ.size≠1:=by first | assumption | decide) :
  qY P (ρ.f 6) (mgP ⟨τ,[.clo g 0],λ x=>fn x.1⟩):=by
 refine ⟨hf,λ Γ σ w args vals r hi hr hp=>?_⟩;unfold mgP at hp;split at hp
 case h_2=>cases hp
 rename_i x hx;split at hp
 case h_2=>cases hp
 rename_i v hv;split at hp
 case h_2=>cases hp
 rename_i hlen;obtain ⟨l,_⟩:=x;have hv:=hfn _ _ hv;have hlen:v.length=l.length:=wj hlen;obtain ⟨y0,ys0,nr,rfl,hy0,hx1⟩:=qvM hx;obtain ⟨ys1,rfl,hx2⟩:=qFB (g:=g) (r:=[]) hx1;obtain ⟨rfl,hbx,hrw⟩:=qmc hx2;clear hx hx1 hx2;obtain ⟨u0,r0,rfl,hu0,hr⟩:=hr.uncons;obtain ⟨u1,r1,rfl,hu1,hr⟩:=hr.uncons;have:=hr.nil_inv;subst this
 have hu1:u1 = .func (.func g) #[] #[]:=by
  cases hu1 with
  | fn _ _ us hn _=>obtain rfl:=wk hn;rfl
 subst hu1;have hb0 : σ.bx=[]:=wk hbx.symm;have none0:∀ (p:Option Addr) (cap:Nat),Calls P (ρ.f 6) #[.slice p 0 cap,.func (.func g) #[] #[]] w λ e w'=>e = .returned (.tuple #[])/\w'=w := λ p cap=>AnyF.slices_SortFunc_none L p cap _ w;have tup:∀ Γ,Rep Γ (.tup []) (.tuple #[]) := λ Γ => .tup [] [] rfl (λ i x u h=>by cases h);rcases qhj hy0 with ⟨hnr,R,rfl,hR,hRk,hRf,hRd⟩ | ⟨hnr,hl0,hy⟩
 ·have hrw1 : σ.rw=[R]:=by
    rw [hnr] at hrw
    match hq : σ.rw,hrw with
    | [Q],_=>rw [hq] at hR;cases hR;rfl
  rw [hb0,hrw1] at hp;cases hp;have H:=hi.row 0 R hR;have hcl:R.c.length=l.length:=qX hRd;have hlk:∀ e∈R.c,e.length = τ.size := λ e he=>(H.len e he).trans hRk
  have qpy:qW { σ with wr:=[],wrr:=[] } ⟨[],[⟨R.k,v.map (qj τ),R.ver,R.fz,R.off⟩],[],[0]⟩ :=
   ⟨by show σ.bx.length<=0;rw [hb0];exact wb _,by show σ.rw.length<=1;rw [hrw1];exact wb _,λ i hi _=>(by have hi:i < σ.bx.length:=hi;rw [hb0] at hi;exact absurd hi (wL _)),λ i hi hn=>(by
    have hi:i < σ.rw.length:=hi;rw [hrw1] at hi;have hi:i<1:=hi;obtain rfl:i=0:=by omega
    exact absurd (wH.2 rfl) hn),λ i h=>(by cases h),λ i h=>(by cases h)⟩
  obtain ⟨p,cap,rfl,hcap,hrm⟩:=qxG hi hR hRk hRf hu0;by_cases hl0:l=[]
  ·subst hl0;have hc0:R.c=[]:=wk hcl;have hv0:v=[]:=wk hlen;subst hv0;rw [hcl];refine (none0 p cap).mono ?_;rintro e w' ⟨rfl,rfl⟩;refine ⟨_,Γ,rfl,.refl _ _,?_,tup _,qpy⟩
   have:(⟨[],[⟨R.k,([]:List (Val τ)).map (qj τ),R.ver,R.fz,R.off⟩],[],[0]⟩:St)=⟨[],[R],[],[0]⟩:=by
    show (⟨[],[⟨R.k,[],R.ver,R.fz,R.off⟩],[],[0]⟩:St)=_;rw [<- hc0]
   show Inv Γ ⟨[],[⟨R.k,([]:List (Val τ)).map (qj τ),R.ver,R.fz,R.off⟩],[],[0]⟩ w';rw [this];exact hi.wr hb0.symm hrw1.symm
  ·have hlpos:0<l.length:=xe.2 hl0;rcases hrm with h0 | ⟨rfl,hz,vs,et,hvs,hvsz,hfit,hca,hxl,h1⟩
   ·omega
   obtain ⟨n,hn⟩:∃ n,n=l.length:=⟨_,rfl⟩
   have hnc:R.c.length=n:=hcl.trans hn.symm;rw [hnc] at hca hxl h1 hcap |-
   have hns:n * τ.size<=vs.size:=wD (wn _ hcap) hfit;have hsz0:0 < τ.size:=waD τ
   have hv':Nat.ble l.length 100000=true/\qda F l=true/\qtv l.length (ltOf (Jx F l))=true/\v=pick l (qbe F l):=by
    cases l with
    | nil=>exact absurd rfl hl0
    | cons y l =>
      have hv:cond _ _ _=some v:=hv;cases hb:(Nat.ble (y::l).length 100000&&(qda F (y::l)&&qtv (y::l).length (ltOf (Jx F (y::l))))) with
      | false=>unfold qsI at hv;rw [hb] at hv;cases hv
      | true =>
        have hb':=hb;simp only [wd] at hb';unfold qsI at hv;rw [hb] at hv;cases hv;exact ⟨hb'.1,hb'.2.1,hb'.2.2,rfl⟩
   obtain ⟨v1,v2,v3,v4⟩:=hv';have v1:l.length<=100000:=kN v1;have hO:SWO (ltOf (Jx F l)):=qOD hlpos (λ i j=>by unfold ltOf;rw [qLL]) v3;obtain ⟨hperm,_⟩:=qtk F l hO;have hixlt:∀ i∈qbe F l,i<l.length := λ i hi=>kS.1 (hperm.mem_iff.1 hi);have hixlen:(qbe F l).length=l.length:=by rw [hperm.length_eq,xl]
   have hER:∀ {q:Nat} {y:Val τ},l[q]? = some y->RepL Γ (qj τ y) (qcu vs τ.size q)/\∀ u∈qcu vs τ.size q,u.oneCell'=true := λ hq=>qAU hnc hlk hRd hca hns hq;have hlast:∀ i,i % n<n := λ i=>xS _ (by omega);obtain ⟨enc,henc⟩:∃ enc:Nat->List Value,enc = λ i=>qcu vs τ.size (i % n):=⟨_,rfl⟩
   have hek:∀ i,(enc i).length = τ.size := λ i=>by rw [henc];exact qty (hlast i) hns
   have hlget:∀ i,∃ y,l[i % n]? = some y := λ i=>⟨_,List.getElem?_eq_getElem (by rw [<- hn];exact hlast i)⟩
   have he1:∀ i,∀ u∈enc i,u.oneCell'=true := λ i u hu=>by
    rw [henc] at hu;obtain ⟨y,hy⟩:=hlget i;exact (hER hy).2 u hu
   have hrange:(Array.range n).size=n:=vB;have hvsb:w.heap[Γ.cur 0]? = some (.cells vs et (0,0)):=hvs;have hblk : Γ.cur 0<w.heap.size:=(Array.getElem?_eq_some_iff.1 hvsb).1;have hmem0:∀ off,Γ.mem (Γ.cur 0) off=none := λ off=>H.un hz off (by rw [hRf.1,kQ,H.off hRf.2];exact we _)
   have hH:HoldsK enc τ.size w (Γ.cur 0) 0 (Array.range n):=by
    intro j hj;rw [size_flatK,hrange] at hj;obtain ⟨q1,q2,q3⟩:=qpR j τ.size n hj;have hjs:j<vs.size:=wE hj hns;constructor
    ·rw [get_flatK _ _ _ _ (by rw [hrange];exact hj)];have e1:(Array.range n)[j / τ.size]! = j / τ.size:=by rw [getElem!_pos _ _ (by rw [hrange];exact q1)];simp
     rw [e1,henc];show _=some ((qcu vs τ.size (j / τ.size % n))[j % τ.size]!);rw [xr q1];have e2:(qcu vs τ.size (j / τ.size))[j % τ.size]? = some vs[j]:=by rw [qp8 q3,q2];exact Array.getElem?_eq_getElem hjs
     rw [wG,Blk.cell hvs,List.getElem!_eq_getElem?_getD,e2,Array.getElem?_eq_getElem hjs];rfl
    ·exact Blk.free hvs _
   have hcmp:CmpLays P g #[] enc τ.size (Jx F l) (Γ.cur 0) 0 (Array.range n).size w:=by
    intro m os dk hdk x y;have B:=sort_blks hvsb enc τ.size m dk os;obtain ⟨W,hW⟩:∃ W,W=sortWorldK enc τ.size w (Γ.cur 0) 0 m dk os:=⟨_,rfl⟩
    rw [<- hW] at B |-
    have hiW:Inv (bare Γ) emp W:=hi.bare λ b o u e=>by
     have hne:b ≠ Γ.cur 0 := λ hb=>by rw [hb,hmem0] at e;cases e
     have hc:=(hi.mem b o u e).1;have hblt:=hi.mem_lt e;rw [show W.cell? _=w.cell? _ from World.cell?_of_block (B.other b hblt hne)];exact hc
    have rep:∀ (i:Nat) (y:Val τ),l[i % n]? = some y->Rep (bare Γ) (yK τ y) (.agg (enc i).toArray) := λ i y hy=>by
     obtain ⟨q1,q2⟩:=hER hy;rw [hag];have:enc i=qcu vs τ.size (i % n):=by rw [henc]
     rw [this];refine .agg _ _ q1.len q2 λ j z u a b=>(q1.rep j z u a b).bare (zr τ y z (wa a))
    obtain ⟨lx,hx⟩:=hlget x;obtain ⟨ly,hy⟩:=hlget y;have hsome:=wv.1 (wv.1 v2 lx (wa hx)) ly (wa hy);obtain ⟨c,hc⟩:=waf.1 hsome
    have hcf:Jx F l x y=c:=by
     unfold Jx;rw [<- hn,hx,hy];simp only;rw [hc];rfl
    rw [hcf];have hcall:=hF.2 hiW (rep x lx hx) (rep y ly hy) hc;refine Calls.mono (by simpa using hcall) ?_;rintro e w' ⟨rfl,hid⟩;exact ⟨rfl,hid.grow⟩
   have hcall:=AnyQ.slices_SortFunc_eq L τ.size aE zE enc hek he1 (Jx F l) hO g #[] (Γ.cur 0) 0 cap (Array.range n) w (λ args w=>qiS hF.1 args w) hcmp hH hblk (by rw [hrange];omega);rw [hrange] at hcall;refine Calls.mono hcall ?_;rintro e w' ⟨rfl,m,os,hw'⟩;have B:=sort_blks hvsb enc τ.size m (pdq (ltOf (Jx F l)) (Array.range n) 0 n (Lib.bitLen n) true true) os;rw [<- hw'] at B;have hix:qbe F l=(pdq (ltOf (Jx F l)) (Array.range n) 0 n (Lib.bitLen n) true true).toList:=by unfold qbe;rw [hn]
   obtain ⟨dk,hdk⟩:∃ dk,dk=pdq (ltOf (Jx F l)) (Array.range n) 0 n (Lib.bitLen n) true true:=⟨_,rfl⟩
   rw [<- hdk] at B hix;have hdks:dk.size=n:=by rw [<- wM,<- hix,hixlen,hn]
   have hvlen:(v.map (qj τ)).length=n:=by rw [wA,hlen,hn]
   have hflat:(flatK enc τ.size dk).size=n * τ.size:=by rw [size_flatK,hdks]
   have hpsz:(putCells id 0 (flatK enc τ.size dk) vs).size=vs.size:=by unfold putCells;rw [vX]
   obtain ⟨Γ',x1,x2,_⟩:=qtU hi hR (H.off hRf.2) (R':=⟨R.k,v.map (qj τ),R.ver,R.fz,R.off⟩) (by rw [hRf.1];exact we _) rfl (g := Γ.cur 0) (vs:=putCells id 0 (flatK enc τ.size dk) vs) (e:=et) (.inr ⟨rfl,rfl,hpsz.trans hvsz⟩)
    (λ e he=>by obtain ⟨y,_,rfl⟩:=wy.1 he;rw [jz,hRk]) (λ e he=>by obtain ⟨y,_,rfl⟩:=wy.1 he;exact zr τ y) (by show R.fz<=_;rw [hRf.1];exact we _) (qAL _) (λ _=>rfl) B.hb
    (by show (v.map (qj τ)).length*R.k<=_;rw [hvlen,hRk,hpsz];exact hns)
    (λ off _=>hmem0 off)
    (λ i e j x he hx=>by
     have he:(v.map (qj τ))[i]? = some e:=he;have hin:i<n:=by rw [<- hvlen];exact getElem?_lt he
     rw [List.getElem?_map,v4,qtH hixlt] at he;have hixi:(qbe F l)[i]? = some dk[i]:=by rw [hix,Array.getElem?_toList];exact Array.getElem?_eq_getElem (by omega)
     rw [hixi] at he
     obtain ⟨y,hy,rfl⟩:∃ y,l[dk[i]]? = some y/\qj τ y=e:=by
      cases hq:l[dk[i]]? with
      | none=>simp [hq] at he
      | some y=>simp [hq] at he;exact ⟨y,rfl,he⟩
     have hdl:dk[i]<n:=wE (getElem?_lt hy) (vK hn.symm);obtain ⟨q1,q2⟩:=hER hy;have hj:j < τ.size:=by rw [<- jz τ y];exact getElem?_lt hx
     obtain ⟨u,hu,hrep⟩:=q1.get hx;refine ⟨u,?_,hrep,q2 u (wa hu)⟩;rw [hRk]
     have hlt:i * τ.size+j<n * τ.size:=by
      have:(i+1) * τ.size<=n * τ.size:=wn _ hin;rw [kU] at this;omega
     unfold putCells;rw [Array.getElem?_mapIdx,Array.getElem?_eq_getElem (wE hlt hns),kM,if_pos ⟨we _,by rw [hflat,wG];exact hlt⟩,Nat.sub_zero,id,get_flatK _ _ _ _ (by rw [hdks];exact hlt)];have e1:(i * τ.size+j) / τ.size=i:=by rw [xF,Nat.mul_add_div hsz0,Nat.div_eq_of_lt hj,wP]
     have e2:(i * τ.size+j) % τ.size=j:=by rw [xF,Nat.mul_add_mod,xr hj]
     rw [e1,e2,getElem!_pos dk i (by omega),henc];show some ((qcu vs τ.size (dk[i] % n))[j]!)=_;rw [xr hdl,List.getElem!_eq_getElem?_getD,hu];rfl)
    (λ b o u hm=>by
     have hne:b ≠ Γ.cur 0 := λ hb=>by rw [hb,hmem0] at hm;cases hm
     rw [show w'.cell? _=w.cell? _ from World.cell?_of_block (B.other b (hi.mem_lt hm) hne)];exact (hi.mem b o u hm).1)
    (λ b hb hor=>B.other b hb (hor.elim id λ h0=>absurd h0 hz)) (.inl ⟨rfl,hz⟩) B.os B.tape B.output B.size B.drawn [0]
   refine ⟨_,Γ',rfl,x1,?_,tup _,qpy⟩;refine x2.wr ?_ ?_
   ·exact hb0.symm
   ·show [(⟨R.k,v.map (qj τ),R.ver,R.fz,R.off⟩:Row)] = σ.rw.set 0 _;rw [hrw1];rfl
 ·have hrw0 : σ.rw=[]:=by rw [hnr] at hrw;exact wk hrw.symm
  rw [hb0,hrw0] at hp;cases hp
  have hfin:∀ (p:Option Addr) (cap:Nat),Jo P Γ σ w (ρ.f 6) [.slice p 0 cap,.func (.func g) #[] #[]] (.tup [],none) := λ p cap=>by
   refine (none0 p cap).mono ?_;rintro e w' ⟨rfl,rfl⟩;exact ⟨_,Γ,rfl,.refl _ _,hi,tup _,.refl _⟩
  rcases hy with rfl | ⟨f,rfl,hf2⟩
  ·have hu0:=zm hu0;subst hu0;exact hfin none 0
  ·cases hu0 with
   | sl _ _ _ a n cap b o us hn _ _ _ _ _ _ _ _ =>
     have hn:n=0:=hn;subst hn;exact hfin a cap
end Go.AmZ
namespace Go.Proofs.YtckmkimhkhilgaaGreat
open Go Go.RowKit Go.GxZ Go.Sort Go.Proofs Go.Shelf Go.Lib
def zG(a:Nat->Nat->Bool)(n:Nat):List Nat:=(List.range n).filter λ i=>decide (i=0) || !a i (i-1)
theorem qDO{a:Nat->Nat->Bool}{n:Nat}(h:a n (n-1)=false):zG a (n+1)=zG a n++[n]:=by
 unfold zG;rw[waj,xT];simp[h]
theorem qto{a:Nat->Nat->Bool}{n:Nat}(b:0<n)(h:a n (n-1)=true):zG a (n+1)=zG a n:=by
 unfold zG;rw[waj,xT];have:¬ n=0:=by omega
 simp[h,this]
theorem qww{b:Nat->Nat->Bool}{n:Nat}(h:∀ i,1<=i->i<n->b i (i-1)=false):zG b n=List.range n:=by
 unfold zG;rw[List.filter_eq_self];intro i a;have a:=kS.1 a;by_cases c:i=0
 ·simp[c]
 ·rw[h i (by omega) a];simp
theorem qDY{α : Type}[Inhabited α](enc : α -> List Value)(k:Nat)(g:∀ x,(enc x).length=k)(d:Array α)(i:Nat)(x : α)(h:i<d.size):setMany (flatK enc k d) (i*k) (enc x)=flatK enc k (d.setIfInBounds i x):=by
 refine ext_get! (by simp) λ t a=>?_;rw[size_setMany,size_flatK]at a;rw[get_setMany _ _ _ _ (by rw[size_flatK];exact a),g,get_flatK _ _ _ _ a,get_flatK _ _ _ _ (by simpa using a)]
 have b:0<k:=by
  rcases vp k with f | f
  ·rw[f,Nat.mul_zero]at a;exact absurd a (wL _)
  ·exact f
 by_cases c:i*k<=t/\t<i*k+k
 ·rw[if_pos c];have e:=(blk_iff k i t b).1 c;rw[e,getElem!_set_same d i x h];congr 1;have:=vn t k;rw[e]at this;have l:k*i=i*k:=xF _ _;omega
 ·rw[if_neg c,getElem!_set_other d i _ x λ j=>c ((blk_iff k i t b).2 j)]
theorem qJr{α : Type}[Inhabited α]{w:World}{enc : α -> List Value}{k blk:Nat}(hk:∀ x,(enc x).length=k)(m:Nat)(dk:Array α)(os:Array Obj)(hblk:blk<w.heap.size)(i:Nat)(x : α)(hi:i<dk.size) :
  (sortWorldK enc k w blk 0 m dk os).setCells blk (i*k) (enc x)=sortWorldK enc k w blk 0 m (dk.setIfInBounds i x) os:=by
 have hb:i*k+(enc x).length<=(flatK enc k dk).size:=by
  rw[hk,size_flatK];have:=wn k (show i+1<=dk.size from hi)
  rwa [kU]at this
 unfold sortWorldK;rw[setCells_grow os blk _ _ _ (by rw[size_putRowK];exact hblk)];congr 1;unfold putRowK;have:=setCells_putRow (Sort.ahead w m) blk 0 (enc x) (i*k) (flatK enc k dk) hb;rw[wG]at this;rw[this,qDY enc k hk dk i x hi]
variable {P:Program}
set_option maxHeartbeats 4000000 in
set_option maxRecDepth 1000000 in
theorem qHX(i:P.funcs[108]?=some Tryz.f108)(a:P.follows .mixedOrders=true)
  (t0:P.underlying 0=some (TypeDesc.tuple #[])) (y:∀ w,(isAgg 0).run P w = .ok false w) (o:∀ w,(Go.sizeOf 0).run P w = .ok 1 w) (s:∀ w,(zeroValue 0).run P w = .ok (Value.tuple #[]) w)
  (u:P.underlying 3=some (TypeDesc.int IntKind.i64)) (x:∀ w,(isAgg 3).run P w = .ok false w) (n:∀ w,(Go.sizeOf 3).run P w = .ok 1 w) (r:∀ w,(zeroValue 3).run P w = .ok (Value.int IntKind.i64 0) w)
  (t:P.underlying 4=some (TypeDesc.bool)) (v:∀ w,(isAgg 4).run P w = .ok false w) (m:∀ w,(Go.sizeOf 4).run P w = .ok 1 w) (q:∀ w,(zeroValue 4).run P w = .ok (Value.bool false) w)
  (h:P.underlying 22=some (TypeDesc.slice 24)) (l:∀ w,(isAgg 22).run P w = .ok false w) (c:∀ w,(Go.sizeOf 22).run P w = .ok 1 w) (f:∀ w,(zeroValue 22).run P w = .ok (Value.slice none 0 0) w)
  (g:P.underlying 41=some (TypeDesc.func #[24,24] #[4] false)) (k:∀ w,(isAgg 41).run P w = .ok false w) (b:∀ w,(Go.sizeOf 41).run P w = .ok 1 w) (d:∀ w,(zeroValue 41).run P w = .ok (Value.nilFunc) w)
  (p:Option Addr) (cap:Nat) (j:Value) (w:World) :
  Calls P 108 #[.slice p 0 cap,j] w λ e w'=>e = .returned (.slice p 0 cap)/\w'=w:=by
 go_enter i,Tryz.ntmps108
 go_wp2
 go_ret
 exact⟨rfl,rfl⟩
set_option maxHeartbeats 4000000 in
set_option maxRecDepth 1000000 in
theorem qIU (hF:P.funcs[108]? = some Tryz.f108) (mixed:P.follows .mixedOrders=true)
  (t0:P.underlying 0=some (TypeDesc.tuple #[])) (a0:∀ w,(isAgg 0).run P w = .ok false w) (z0:∀ w,(Go.sizeOf 0).run P w = .ok 1 w) (v0:∀ w,(zeroValue 0).run P w = .ok (Value.tuple #[]) w)
  (t3:P.underlying 3=some (TypeDesc.int IntKind.i64)) (a3:∀ w,(isAgg 3).run P w = .ok false w) (z3:∀ w,(Go.sizeOf 3).run P w = .ok 1 w) (v3:∀ w,(zeroValue 3).run P w = .ok (Value.int IntKind.i64 0) w)
  (t4:P.underlying 4=some (TypeDesc.bool)) (a4:∀ w,(isAgg 4).run P w = .ok false w) (z4:∀ w,(Go.sizeOf 4).run P w = .ok 1 w) (v4:∀ w,(zeroValue 4).run P w = .ok (Value.bool false) w)
  (t22:P.underlying 22=some (TypeDesc.slice 24)) (a22:∀ w,(isAgg 22).run P w = .ok false w) (z22:∀ w,(Go.sizeOf 22).run P w = .ok 1 w) (v22:∀ w,(zeroValue 22).run P w = .ok (Value.slice none 0 0) w)
  (t36:P.underlying 41=some (TypeDesc.func #[24,24] #[4] false)) (a36:∀ w,(isAgg 41).run P w = .ok false w) (z36:∀ w,(Go.sizeOf 41).run P w = .ok 1 w) (v36:∀ w,(zeroValue 41).run P w = .ok (Value.nilFunc) w)
  (k:Nat) (hk0:0<k) (aE:∀ w,(isAgg 24).run P w = .ok true w) (zE:∀ w,(Go.sizeOf 24).run P w = .ok k w) (zv:Value) (vE:∀ w,(zeroValue 24).run P w = .ok zv w) (hzk:zv.cells.size=k) (hz1:∀ n,∀ v∈(Builtin.zeroCells zv.cells n).toList,v.oneCell'=true)
  (w:World) (blk n cap:Nat) (et:TypeId) (vs:Array Value) (q:Nat) (hbk:w.heap[blk]? = some (.cells vs et (0,0))) (hcs:cap*k<=vs.size) (hnc:n<=cap) (hn:n<=100000) (h0n:0<n)
  (enc:Nat->List Value) (hk:∀ x,(enc x).length=k) (h1:∀ x,∀ v∈enc x,v.oneCell'=true) (hH:HoldsK enc k w blk 0 (Array.range n))
  (eg:∀ args w,(callFunc q args).run P w = .ok (.enter q args) w) (ef:Nat->Nat->Bool)
  (heq:∀ (m:Nat) (os:Array Obj) (dk:Array Nat),dk.size=n->∀ x y,Calls P q #[.agg (enc x).toArray,.agg (enc y).toArray] (sortWorldK enc k w blk 0 m dk os) λ e w'=>e = .returned (.bool (ef x y))/\∃ q' os',w'=grow ((sortWorldK enc k w blk 0 m dk os).drewN q') os') :
  Calls P 108 #[.slice (some ⟨blk,0,none⟩) n cap,.func (.func q) #[] #[]] w λ e w'=>e = .returned (.slice (some ⟨blk,0,none⟩) (zG ef n).length cap) /\
   ∃ (dk:Array Nat) (m:Nat) (os:Array Obj) (new:List Value),dk.size=n/\dk.toList.take (zG ef n).length=zG ef n/\(w'=sortWorldK enc k w blk 0 m dk os\/(new.take ((zG ef n).length*k)=(putCells id 0 (flatK enc k dk) vs).toList.take ((zG ef n).length*k)/\new.length=vs.size/\w'=(sortWorldK enc k w blk 0 m dk os).setRow blk new.toArray)):=by
 have u22:=run_underlying t22;have hblk:blk<w.heap.size:=(Array.getElem?_eq_some_iff.1 hbk).1;have hrs:(Array.range n).size=n:=vB;have HC:Aside _:=heq;have HST:Hid (w=sortWorldK enc k w blk 0 0 (Array.range n) #[]):=by show w=_;unfold sortWorldK;rw [grow_empty];exact (putRowK_self enc k w blk 0 _ hH).symm
 have HH:Hid (HoldsK enc k w blk 0 (Array.range n)):=hH;have HK:Hid (∀ x,(enc x).length=k):=hk;have H1:Hid (∀ x,∀ v∈enc x,v.oneCell'=true):=h1;have HBK:Hid (w.heap[blk]? = some (.cells vs et (0,0))):=hbk;have HVE:Aside _:=vE;have HZ1:Aside _:=hz1;have HZK:=Lib.hid hzk;have HCS:=Lib.hid hcs;clear heq hH hk h1 hbk vE hz1 hzk hcs;have hnz:(n:Int)<=100000:=by omega
 by_cases hn2:n<2
 ·have hn1:n=1:=by omega
  subst hn1;have hci:zG ef 1=[0]:=by unfold zG;simp
  have HCI:=Lib.hid hci;clear hci
  go_enter hF,Tryz.ntmps108
  go_wp2
  go_ret
  rw [HCI.out];exact ⟨rfl,Array.range 1,0,#[],[],hrs,by simp,.inl HST.out⟩
 ·have hn2z:¬ ((n:Int)<2):=by omega
  go_enter hF,Tryz.ntmps108
  go_wp2
  go_loopg [5] n (λ g1 vi wr=>∃ (i m:Nat) (os:Array Obj),vi = .int .i64 i/\1<=i/\i<=n/\n-i<=g1/\wr=sortWorldK enc k w blk 0 m (Array.range n) os/\Hid (∀ j,1<=j->j<i->ef j (j-1)=false))
  case atStart=>exact ⟨1,0,#[],rfl,wb _,by omega,by omega,HST.out,λ j h1 h2=>by omega⟩
  case round =>
   obtain ⟨i,m,os,rfl,hi1,hin,hg1,rfl,HE⟩:=hrel;by_cases hlt:i<n
   ·have hltz:(i:Int)<(n:Int):=by omega
    obtain ⟨ip,rfl⟩:∃ ip,i=ip+1:=⟨i-1,by omega⟩
    have hwp:IntKind.i64.wrap (ip:Int)=(ip:Int):=by rw [IntKind.wrap_i64];omega
    have jz1:(ip:Int)<(n:Int):=by omega
    have p0:(0:Int)<=(ip:Int)+1:=by omega
    have e0:((ip:Int)+1).toNat=ip+1:=by omega
    have r1:(Array.range n)[ip+1]! = ip+1:=by rw [getElem!_pos _ _ (by rw [hrs];exact hlt)];simp
    have r0:(Array.range n)[ip]! = ip:=by rw [getElem!_pos _ _ (by rw [hrs];omega)];simp
    have hcls:∀ n' os',grow ((sortWorldK enc k w blk 0 m (Array.range n) os).drewN n') os'=sortWorldK enc k w blk 0 (m+n') (Array.range n) (os++os') := λ n' os'=>sortWorldK_grown_c enc k w blk 0 m n' _ os os';have hHc:∀ n' os',HoldsK enc k (grow ((sortWorldK enc k w blk 0 m (Array.range n) os).drewN n') os') blk 0 (Array.range n) := λ n' os'=>by rw [hcls];exact holdsK_sortWorldK_c enc k w blk 0 _ _ _ _ HH.out hblk rfl
    have lj:∀ n' os',Sem.run P (loadCellsFrom ⟨blk,(ip+1)*k,none⟩ 0 k #[]) (grow ((sortWorldK enc k w blk 0 m (Array.range n) os).drewN n') os') = .ok (enc (ip+1)).toArray (grow ((sortWorldK enc k w blk 0 m (Array.range n) os).drewN n') os') := λ n' os'=>by
     have:=HoldsK.cells (hHc n' os') HK.out (i:=ip+1) (by rw [hrs];exact hlt);rw [r1,wG] at this;exact run_loadCellsFrom_list P _ _ _ k (HK.out _) this
    have lp:∀ n' os',Sem.run P (loadCellsFrom ⟨blk,ip*k,none⟩ 0 k #[]) (grow ((sortWorldK enc k w blk 0 m (Array.range n) os).drewN n') os') = .ok (enc ip).toArray (grow ((sortWorldK enc k w blk 0 m (Array.range n) os).drewN n') os') := λ n' os'=>by
     have:=HoldsK.cells (hHc n' os') HK.out (i:=ip) (by rw [hrs];omega);rw [r0,wG] at this;exact run_loadCellsFrom_list P _ _ _ k (HK.out _) this
    have hcg:∀ n' os',Calls P q #[.agg (enc (ip+1)).toArray,.agg (enc ip).toArray] (grow ((sortWorldK enc k w blk 0 m (Array.range n) os).drewN n') os') λ e w'=>e = .returned (.bool (ef (ip+1) ip))/\∃ q os'',w'=grow ((grow ((sortWorldK enc k w blk 0 m (Array.range n) os).drewN n') os').drewN q) os'' := λ n' os'=>by
     rw [hcls];exact HC.out _ _ _ hrs (ip+1) ip
    have CLS:Hid _:=hcls;clear hcls hHc r0 r1;generalize hwq:sortWorldK enc k w blk 0 m (Array.range n) os=wq at lj lp hcg CLS |-
    cases hev:ef (ip+1) ip with
    | false =>
      rw [hev] at hcg
      go_wp2_with fail
      go_quiet_grown (first | (go_at_fn q;refine Calls.grown_of (hcg _ _)))
      go_wp2
      go_roundg (n-(ip+2))
      case measure=>omega
      case rel =>
       refine ⟨ip+2,_,_,by go_num,by omega,by omega,by omega,CLS.out nq osq,(show Hid _ from λ j h1 h2=>?_)⟩;by_cases hj:j=ip+1
       ·rw [hj];exact hev
       ·exact HE.out j h1 (by omega)
    | true =>
      rw [hev] at hcg
      go_wp2_with fail
      go_quiet_grown (first | (go_at_fn q;refine Calls.grown_of (hcg _ _)))
      have hcap1:¬ (cap=ip+1):=by omega
      have hcap2:(ip:Int)+1<=(cap:Int):=by omega
      go_wp2
      go_loopg [5,7] n (λ g2 v5 v7 wr2=>∃ (b kk m2:Nat) (dk:Array Nat) (os2:Array Obj),v5 = .int .i64 kk/\v7 = .int .i64 b/\1<=b/\ip+1+b<=n/\n-b<=g2/\kk<=ip+b/\dk.size=n/\wr2=sortWorldK enc k w blk 0 m2 dk os2/\Hid (dk.toList.take kk=zG ef (ip+1+b))/\Hid (kk=(zG ef (ip+1+b)).length)/\Hid (∀ j,ip+b<=j->j<n->dk[j]! = j))
      case atStart =>
       have e1:zG ef (ip+1)=List.range (ip+1):=qww λ j h1 h2=>HE.out j h1 h2;have e2:zG ef (ip+1+1)=List.range (ip+1):=by rw [qto (by omega) (by simpa using hev),e1]
       refine ⟨1,ip+1,_,Array.range n,_,by go_num,rfl,wb _,by omega,by omega,by omega,hrs,CLS.out nq osq,?_,?_,?_⟩
       ·show _=_;rw [e2,Array.toList_range,List.take_range,kK (by omega)]
       ·show _=_;rw [e2,xl]
       ·intro j _ h2;rw [getElem!_pos _ _ (by rw [hrs];exact h2)];simp
      case round =>
       obtain ⟨b,kk,m2,dk,os2,rfl,rfl,hb1,hbn,hg2,hkk,hdk,rfl,HT,HL,HD⟩:=hrel;by_cases hlt2:ip+1+b<n
       ·obtain ⟨bp,rfl⟩:∃ bp,b=bp+1:=⟨b-1,by omega⟩
        have hltz2:(bp:Int)+1<((n-(ip+1):Nat):Int):=by omega
        have hltz3:(bp:Int)<((n-(ip+1):Nat):Int):=by omega
        have hwp2:IntKind.i64.wrap (bp:Int)=(bp:Int):=by rw [IntKind.wrap_i64];omega
        have p2:(0:Int)<=(bp:Int)+1:=by omega
        have e2:((bp:Int)+1).toNat=bp+1:=by omega
        have hkn:(kk:Int)<(n:Int):=by omega
        obtain ⟨ax,hax⟩:∃ ax,ax=ip+1+(bp+1):=⟨_,rfl⟩
        have hac:(ip+1)*k+(bp+1)*k=ax*k:=by rw [hax,wN (ip+1)]
        have hap:(ip+1)*k+bp*k=(ax-1)*k:=by rw [<- wN];congr 1;omega
        have r1:dk[ax]! = ax:=HD.out ax (by omega) (by omega);have r0:dk[ax-1]! = ax-1:=HD.out (ax-1) (by omega) (by omega);have hcls:∀ n' os',grow ((sortWorldK enc k w blk 0 m2 dk os2).drewN n') os'=sortWorldK enc k w blk 0 (m2+n') dk (os2++os') := λ n' os'=>sortWorldK_grown_c enc k w blk 0 m2 n' dk os2 os';have hHc:∀ n' os',HoldsK enc k (grow ((sortWorldK enc k w blk 0 m2 dk os2).drewN n') os') blk 0 dk := λ n' os'=>by rw [hcls];exact holdsK_sortWorldK_c enc k w blk 0 (Array.range n) dk _ _ HH.out hblk (by rw [hdk,hrs])
        have lj:∀ n' os',Sem.run P (loadCellsFrom ⟨blk,(ip+1)*k+(bp+1)*k,none⟩ 0 k #[]) (grow ((sortWorldK enc k w blk 0 m2 dk os2).drewN n') os') = .ok (enc ax).toArray (grow ((sortWorldK enc k w blk 0 m2 dk os2).drewN n') os') := λ n' os'=>by
         have:=HoldsK.cells (hHc n' os') HK.out (i:=ax) (by rw [hdk];omega);rw [r1,wG,<- hac] at this;exact run_loadCellsFrom_list P _ _ _ k (HK.out _) this
        have lp:∀ n' os',Sem.run P (loadCellsFrom ⟨blk,(ip+1)*k+bp*k,none⟩ 0 k #[]) (grow ((sortWorldK enc k w blk 0 m2 dk os2).drewN n') os') = .ok (enc (ax-1)).toArray (grow ((sortWorldK enc k w blk 0 m2 dk os2).drewN n') os') := λ n' os'=>by
         have:=HoldsK.cells (hHc n' os') HK.out (i:=ax-1) (by rw [hdk];omega);rw [r0,wG,<- hap] at this;exact run_loadCellsFrom_list P _ _ _ k (HK.out _) this
        have hcg:∀ n' os',Calls P q #[.agg (enc ax).toArray,.agg (enc (ax-1)).toArray] (grow ((sortWorldK enc k w blk 0 m2 dk os2).drewN n') os') λ e w'=>e = .returned (.bool (ef ax (ax-1)))/\∃ q os'',w'=grow ((grow ((sortWorldK enc k w blk 0 m2 dk os2).drewN n') os').drewN q) os'' := λ n' os'=>by
         rw [hcls];exact HC.out _ _ _ hdk ax (ax-1)
        have CLS2:Hid _:=hcls;have HHC:Hid _:=hHc;have HAC:=Lib.hid hac;clear hcls hHc hap hac;generalize hwq2:sortWorldK enc k w blk 0 m2 dk os2=wq2 at lj lp hcg CLS2 HHC |-
        have hlA:(enc ax).length=k:=HK.out _;have hA1:∀ v∈enc ax,v.oneCell'=true:=H1.out _;obtain ⟨cA,hcA⟩:∃ c,c=enc ax:=⟨_,rfl⟩
        obtain ⟨cP,hcP⟩:∃ c,c=enc (ax-1):=⟨_,rfl⟩
        rw [<- hcA] at lj hcg hlA hA1;rw [<- hcP] at lp hcg;have HCA:=Lib.hid hcA;clear hcA hcP;have hT:=HT.out;have hL:=HL.out;rw [show ip+1+(bp+1)=ax from hax.symm] at hT hL;have HAX:=Lib.hid hax;have hax1:0<ax:=by omega
        have hax3:ax<n:=by omega
        clear hax r0 r1;cases hev2:ef ax (ax-1) with
        | true =>
          have hcd:zG ef (ax+1)=zG ef ax:=qto hax1 hev2;have HT2:Hid (dk.toList.take kk=zG ef (ax+1)):=by show _=_;rw [hcd];exact hT
          have HL2:Hid (kk=(zG ef (ax+1)).length):=by show _=_;rw [hcd];exact hL
          clear hT hL hcd;rw [hev2] at hcg
          go_wp2_with fail
          go_quiet_grown (first | (go_at_fn q;refine Calls.grown_of (hcg _ _)))
          go_wp2
          go_roundg (n-(bp+2))
          case measure=>omega
          case rel =>
           have hax2:ip+1+(bp+2)=ax+1:=by have:=HAX.out;omega
           refine ⟨bp+2,kk,_,dk,_,rfl,by go_num,by omega,by omega,by omega,by omega,hdk,CLS2.out nq osq,?_,?_,(show Hid _ from λ j h1 h2=>HD.out j (by omega) h2)⟩
           ·show _=_;rw [hax2];exact HT2.out
           ·show _=_;rw [hax2];exact HL2.out
        | false =>
          have hcd:zG ef (ax+1)=zG ef ax++[ax]:=qDO hev2;have hdl:kk<dk.toList.length:=by rw [wM,hdk];omega
          have HT2:Hid ((dk.setIfInBounds kk ax).toList.take (kk+1)=zG ef (ax+1)):=by
           show _=_;rw [hcd,<- hT,xq,kw,vk (wb _),List.getElem?_set_self hdl];rfl
          have HL2:Hid (kk+1=(zG ef (ax+1)).length):=by show _=_;rw [hcd,wc,<- hL];rfl
          clear hT hL hcd;rw [hev2] at hcg
          go_wp2_with fail
          go_quiet_grown (first | (go_at_fn q;refine Calls.grown_of (hcg _ _)))
          have hw2:grow (wq2.drewN nq) osq=sortWorldK enc k w blk 0 (m2+nq) dk (os2++osq):=CLS2.out nq osq;have lj2:=lj nq osq;have hHd:=HHC.out nq osq;clear lj lp hcg;generalize grow (wq2.drewN nq) osq=wq3 at hw2 hHd lj2 |-
          have hbd:kk*k+cA.length<=(flatK enc k dk).size:=by
           rw [hlA,size_flatK];have:=wn k (show kk+1<=dk.size by omega)
           rwa [kU] at this
          have s1:Sem.run P (storeCells ⟨blk,kk*k,none⟩ cA 0) wq3 = .ok () (wq3.setCells blk (kk*k) cA):=by
           have:=stores_of_holds P hHd (kk*k) cA hbd hA1
           rwa [wG] at this
          have HW3:Hid (wq3.setCells blk (kk*k) cA=sortWorldK enc k w blk 0 (m2+nq) (dk.setIfInBounds kk ax) (os2++osq)):=by
           show _=_;rw [hw2,HCA.out];exact qJr HK.out (m2+nq) dk (os2++osq) hblk kk ax (by omega)
          clear hw2 hHd hbd
          go_wp2
          go_roundg (n-(bp+2))
          case measure=>omega
          case rel =>
           have hax2:ip+1+(bp+2)=ax+1:=by have:=HAX.out;omega
           refine ⟨bp+2,kk+1,_,dk.setIfInBounds kk ax,_,by go_num,by go_num,by omega,by omega,by omega,by omega,by simpa using hdk,HW3.out,?_,?_,(show Hid _ from λ j h1 h2=>?_)⟩
           ·show _=_;rw [hax2];exact HT2.out
           ·show _=_;rw [hax2];exact HL2.out
           ·rw [getElem!_set_other _ _ _ _ (by omega)];exact HD.out j (by omega) h2
       ·obtain rfl:n=ip+1+b:=by omega
        have hW:=(Go.AmZ.sort_blks HBK.out enc k m2 dk os2).hb;have hpsz:(putCells id 0 (flatK enc k dk) vs).size=vs.size:=by unfold putCells;rw [vX]
        have hzl:(Builtin.zeroCells zv.cells (ip+1+b-kk)).toList.length=(ip+1+b-kk)*k:=by rw [wM,size_zeroCells,HZK.out]
        have hsum:kk*k+(ip+1+b-kk)*k=(ip+1+b)*k:=by rw [<- wN];congr 1;omega
        have hle:(ip+1+b)*k<=vs.size:=wD (wn _ hnc) HCS.out;obtain ⟨new,hnew⟩:∃ new,new=(putCells id 0 (flatK enc k dk) vs).toList.take (kk*k)++(Builtin.zeroCells zv.cells (ip+1+b-kk)).toList++(putCells id 0 (flatK enc k dk) vs).toList.drop (kk*k+(Builtin.zeroCells zv.cells (ip+1+b-kk)).toList.length):=⟨_,rfl⟩
        have hcl:∀ ty,(Builtin.clear_ #[22] ty #[.slice (some ⟨blk,kk*k,none⟩) (ip+1+b-kk) (cap-kk)]).run P (sortWorldK enc k w blk 0 m2 dk os2) = .ok (.tuple #[]) ((sortWorldK enc k w blk 0 m2 dk os2).setRow blk new.toArray) := λ ty=>by
         rw [hnew];exact qwi _ 22 24 ty zv t22 HVE.out blk (kk*k) (ip+1+b-kk) (cap-kk) (by omega) _ et hW (by rw [hpsz,HZK.out];omega) (HZ1.out _)
        have HN1:Hid (new.take (kk*k)=(putCells id 0 (flatK enc k dk) vs).toList.take (kk*k)):=by
         show _=_;rw [hnew,wi,kG (by rw [wm,wM,hpsz];omega),xL,Nat.min_self]
        have HN2:Hid (new.length=vs.size):=by
         show _=_;rw [hnew];rw [wM] at hzl;simp only [wc,wm,wQ,wM,hpsz,hzl];omega
        have hkc:¬ (cap=kk):=by omega
        have hkc2:(kk:Int)<=(cap:Int):=by omega
        have hkn:(kk:Int)<=((ip+1+b:Nat):Int):=by omega
        clear hW hpsz hzl hsum hle hnew;have HW:Hid _:=(⟨dk,m2,os2,rfl⟩:∃ (d:Array Nat) (m:Nat) (os:Array Obj),sortWorldK enc k w blk 0 m2 dk os2=sortWorldK enc k w blk 0 m d os)
        generalize hwq2:sortWorldK enc k w blk 0 m2 dk os2=wq2 at hcl |-
        have HWQ:=Lib.hid hwq2;clear hwq2 HW;have HDK:=Lib.hid hdk
        go_wp2_with (simp only [hcl])
        go_ret
        have hL:=HL.out;rw [<- hL];exact ⟨rfl,dk,m2,os2,new,HDK.out,HT.out,.inr ⟨HN1.out,HN2.out,by rw [HWQ.out]⟩⟩
   ·obtain rfl:i=n:=by omega
    have hci:zG ef i=List.range i:=qww λ j h1 h2=>HE.out j h1 h2;have HCI:=Lib.hid hci;clear hci
    go_wp2
    go_ret
    rw [HCI.out,xl];exact ⟨rfl,Array.range i,_,_,[],hrs,by simp,.inl rfl⟩
end Go.Proofs.YtckmkimhkhilgaaGreat
namespace Go.AmZ
open Go Go.RowKit Go.GxZ Go.Sort Go.Proofs Go.Shelf Go.Proofs.YtckmkimhkhilgaaGreat
def qln{α : Type}(F : α -> α -> Option Bool)(l:List α)(i j:Nat):Bool:=match l[i % l.length]?,l[j % l.length]? with
 | some x,some y=>(F x y).getD false
 | _,_=>false
def qAD{α : Type}(F : α -> α -> Option Bool):List α -> Option (List α)
 | []=>some []
 | x::l=>cond (Nat.ble (x::l).length 100000&&qda F (x::l)) (some (pick (x::l) (zG (qln F (x::l)) (x::l).length))) none
def qvH{α : Type}(F : α -> α -> Option Bool)(l:List α):Option (Unit × List α × Unit):=match qAD F l with
 | some a=>some ((),a,())
 | none=>none
theorem qGu{α : Type}{F : α -> α -> Option Bool}{l:List α}{r:Unit × List α × Unit}(h:qvH F l=some r):∃ a,qAD F l=some a/\r=((),a,()):=by
 unfold qvH at h;split at h
 ·cases h;exact⟨_,‹_›,rfl⟩
 ·cases h
theorem qHN{P:Program}{f:FuncId}{g:qqP}(e:qgO P f)(h:∀ a,g.fn a=none):qY P f (mgP g):=by
 refine⟨e,λ Γ σ w d c r j i b=>?_⟩;unfold mgP at b;split at b
 ·rw[h]at b;cases b
 ·cases b
theorem qzu{b:Nat->Nat->Bool}{n:Nat}:∀ i∈zG b n,i<n := λ i a=>kS.1 (kJ.1 a).1
theorem qr9{enc:Nat->List Value}{k:Nat}(a:∀ x,(enc x).length=k):∀(l:List Nat) (i j:Nat),j<k->(l.flatMap enc)[i*k+j]?=(l[i]?).bind λ x=>(enc x)[j]?
 | [],i,j,_=>by simp
 | x::l,0,j,b=>by
   rw[xc,kQ,wG,List.getElem?_append_left (by rw[a];exact b)];rfl
 | x::l,i+1,j,b=>by
   rw[xc,List.getElem?_append_right (by rw[a,kU];omega),a];have:(i+1)*k+j-k=i*k+j:=by rw[kU];omega
   rw[this];exact qr9 a l i j b
theorem qzc{enc:Nat->List Value}{k:Nat}(a:∀ x,(enc x).length=k):∀ l:List Nat,(l.flatMap enc).length=l.length*k
 | []=>by simp
 | x::l=>by rw[xc,wc,a,qzc a l,wu,kU,wab]
theorem qvV{b:Type}{f:List AV->Option b}{es:List (List AV)}{l:List b}(h:zf f es=some l):∀{a:List Nat},(∀ i∈a,i<l.length)->zf f (pick es a)=some (pick l a)
 | [],_=>rfl
 | i::a,d=>by
   have e:=d i (wh ..);have n:=qX h
   have e1:pick es (i::a)=es[i]'(by omega)::pick es a:=by
    unfold pick;rw[vl,List.getElem?_eq_getElem (by omega)]
   have m:pick l (i::a)=l[i]::pick l a:=by
    unfold pick;rw[vl,List.getElem?_eq_getElem e]
   obtain⟨v,c,k⟩:=J7 h (List.getElem?_eq_getElem (show i<es.length by omega));rw[List.getElem?_eq_getElem e]at c;cases c;rw[e1,m];exact yW.2 ⟨_,_,k,qvV h λ j g=>d j (wg _ g),rfl⟩
theorem qLv(n:Nat):∀ v∈(Builtin.zeroCells (Value.cells (.agg #[.int .i64 0,.string ⟨#[]⟩,.int .i64 0,.slice none 0 0])) n).toList,v.oneCell'=true:=by
 intro v a;unfold Builtin.zeroCells at a;rw[Array.mem_toList_iff]at a;obtain⟨i,_,rfl⟩:=Array.mem_map.1 a;have c:(Value.cells (.agg #[.int .i64 0,.string ⟨#[]⟩,.int .i64 0,.slice none 0 0])).size=4:=rfl;rw[c];have b:i % 4<4:=xS _ (by decide);generalize i % 4=r at b
 match r,b with
 | 0,_=>rfl
 | 1,_=>rfl
 | 2,_=>rfl
 | 3,_=>rfl
set_option maxHeartbeats 1000000 in
theorem qCn {g:FuncId} {F:T->T->Option Bool} (hF:Fn2 Go.Proofs.Tryz.prog g .term (λ b:Bool => .bool b) F) {fn:List T->Option (Unit × List T × Unit)} (hfn:∀ l r,fn l=some r->∃ l',qAD F l=some l'/\r=((),l',())) :
  qY Go.Proofs.Tryz.prog 108 (sgP ⟨[.row .term,.clo g 0],[.one (.row .term)],λ x=>fn x.1⟩):=by
 have c0 := λ p cap fv w=>qHX (P:=Go.Proofs.Tryz.prog) Go.Proofs.Tryz.func108 (by kernel_rfl) Go.Proofs.Tryz.underlying0 Go.Proofs.Tryz.isAgg0 Go.Proofs.Tryz.sizeOf0 Go.Proofs.Tryz.zeroValue0 Go.Proofs.Tryz.underlying3 Go.Proofs.Tryz.isAgg3 Go.Proofs.Tryz.sizeOf3 Go.Proofs.Tryz.zeroValue3 Go.Proofs.Tryz.underlying4 Go.Proofs.Tryz.isAgg4 Go.Proofs.Tryz.sizeOf4 Go.Proofs.Tryz.zeroValue4 Go.Proofs.Tryz.underlying22 Go.Proofs.Tryz.isAgg22 Go.Proofs.Tryz.sizeOf22 Go.Proofs.Tryz.zeroValue22 Go.Proofs.Tryz.underlying41 Go.Proofs.Tryz.isAgg41 Go.Proofs.Tryz.sizeOf41 Go.Proofs.Tryz.zeroValue41 p cap fv w
 have cP := λ w blk n cap et vs h1 h2 h3 h4 h5 enc h6 h7 h8 ef h9=>qIU (P:=Go.Proofs.Tryz.prog) Go.Proofs.Tryz.func108 (by kernel_rfl) Go.Proofs.Tryz.underlying0 Go.Proofs.Tryz.isAgg0 Go.Proofs.Tryz.sizeOf0 Go.Proofs.Tryz.zeroValue0 Go.Proofs.Tryz.underlying3 Go.Proofs.Tryz.isAgg3 Go.Proofs.Tryz.sizeOf3 Go.Proofs.Tryz.zeroValue3 Go.Proofs.Tryz.underlying4 Go.Proofs.Tryz.isAgg4 Go.Proofs.Tryz.sizeOf4 Go.Proofs.Tryz.zeroValue4 Go.Proofs.Tryz.underlying22 Go.Proofs.Tryz.isAgg22 Go.Proofs.Tryz.sizeOf22 Go.Proofs.Tryz.zeroValue22 Go.Proofs.Tryz.underlying41 Go.Proofs.Tryz.isAgg41 Go.Proofs.Tryz.sizeOf41 Go.Proofs.Tryz.zeroValue41
  4 (by decide) Go.Proofs.Tryz.isAgg24 Go.Proofs.Tryz.sizeOf24 _ Go.Proofs.Tryz.zeroValue24 rfl qLv w blk n cap et vs g h1 h2 h3 h4 h5 enc h6 h7 h8 (λ args w=>qiS hF.1 args w) ef h9
 have hag:∀ v:T,yK .term v = .agg (qj .term v) := λ _=>rfl;refine ⟨qar Go.Proofs.Tryz.func108 (by kernel_rfl),λ Γ σ w args vals r hi hr hp=>?_⟩;unfold sgP at hp;split at hp<;>try cases hp
 rename_i x hx;split at hp<;>cases hp;rename_i v0 hv0;obtain ⟨l,_⟩:=x;obtain ⟨l',hl',rfl⟩:=hfn _ _ hv0;obtain ⟨y0,ys0,nr,rfl,hy0,hx1⟩:=qvM hx;obtain ⟨ys1,rfl,hx2⟩:=qFB (g:=g) (r:=[]) hx1;obtain ⟨rfl,hbx,hrw⟩:=qmc hx2;clear hx hx1 hx2 hv0 hfn;obtain ⟨u0,r0,rfl,hu0,hr⟩:=hr.uncons;obtain ⟨u1,r1,rfl,hu1,hr⟩:=hr.uncons;have:=hr.nil_inv;subst this
 have hu1:u1 = .func (.func g) #[] #[]:=by
  cases hu1 with
  | fn _ _ us hn _=>obtain rfl:=wk hn;rfl
 subst hu1;have hb0 : σ.bx=[]:=wk hbx.symm
 have nil0:∀ (p:Option Addr),l'=[]->Jo Go.Proofs.Tryz.prog Γ σ w 108 [.slice p 0 0,.func (.func g) #[] #[]] (zY (jJ [.one (.row .term)] σ.rw.length (l',())),some ⟨[],σ.rw.map Q0++jY [.one (.row .term)] (l',()),List.range σ.bx.length,List.range σ.rw.length⟩) := λ p hl=>by
  subst hl;refine (c0 p 0 _ w).mono ?_;rintro e w' ⟨rfl,rfl⟩;obtain ⟨Γ2,z1,z2,z3,z4⟩:=qMp (a := .term) hi (.refl _ _) hi hb0 p;exact ⟨_,Γ2,rfl,z1,z2,z3,z4⟩
 rcases qhj hy0 with ⟨hnr,R,rfl,hR,hRk,hRf,hRd⟩ | ⟨hnr,hl0,hy⟩
 ·have H:=hi.row 0 R hR;have hcl:R.c.length=l.length:=qX hRd;have hlk:∀ e∈R.c,e.length=Ty.size .term := λ e he=>(H.len e he).trans hRk;obtain ⟨p,cap,rfl,hcap,hrm⟩:=qxG hi hR hRk hRf hu0;rcases hrm with h0 | ⟨rfl,hz,vs,et,hvs,hvsz,hfit,hca,hxl,h1⟩
  ·have hl0:l=[]:=wk (by omega);have hl2:l'=[]:=by rw [hl0] at hl';cases hl';rfl
   have hrc:R.c.length=0:=by omega
   rw [hrc,h0];exact nil0 p hl2
  ·by_cases hl0:l=[]
   ·have hl2:l'=[]:=by rw [hl0] at hl';cases hl';rfl
    have hrc:R.c.length=0:=by rw [hcl,hl0];rfl
    rw [hrc];subst hl2;refine qkG (a := .term) hi hb0 hR hRk hRf.1 hRf.2 hz (l:=[]) (c:=[]) (xs:=[]) (n:=0) rfl rfl (by intro e he;cases he) (by intro e he;cases he) (λ i e j x h=>by cases h) ?_;refine (c0 _ cap _ w).mono ?_;rintro e w' ⟨rfl,rfl⟩;exact ⟨Γ.cur 0,cap,vs,et,rfl,hvs,we _,hfit,by rw [kQ];rfl,.inl ⟨rfl,hvsz⟩,rfl,rfl,rfl,wb _,wb _,λ _ _ _=>rfl⟩
   ·have hlpos:0<l.length:=xe.2 hl0;obtain ⟨n,hn⟩:∃ n,n=l.length:=⟨_,rfl⟩
    have hnc:R.c.length=n:=hcl.trans hn.symm;rw [hnc] at hca hxl h1 hcap |-
    have hns:n*Ty.size .term<=vs.size:=wD (wn _ hcap) hfit
    have hv':Nat.ble l.length 100000=true/\qda F l=true/\l'=pick l (zG (qln F l) l.length):=by
     cases l with
     | nil=>exact absurd rfl hl0
     | cons y l =>
       replace hl':cond _ _ _=some l':=hl'
       cases hb:(Nat.ble (y::l).length 100000&&qda F (y::l)) with
       | false =>
         replace hl':cond (Nat.ble (y::l).length 100000&&qda F (y::l)) _ _=some l':=hl'
         rw [hb] at hl';cases hl'
       | true =>
         replace hl':cond (Nat.ble (y::l).length 100000&&qda F (y::l)) _ _=some l':=hl'
         have hb':=hb;rw [wd] at hb';rw [hb] at hl';cases hl';exact ⟨hb'.1,hb'.2,rfl⟩
    obtain ⟨v1,v2,v4⟩:=hv';have v1:l.length<=100000:=kN v1;have hER:∀ {q:Nat} {y:T},l[q]? = some y->RepL Γ (qj .term y) (qcu vs (Ty.size .term) q)/\∀ u∈qcu vs (Ty.size .term) q,u.oneCell'=true := λ hq=>qAU hnc hlk hRd hca hns hq;have hlast:∀ i,i % n<n := λ i=>xS _ (by omega);obtain ⟨enc,henc⟩:∃ enc:Nat->List Value,enc = λ i=>qcu vs (Ty.size .term) (i % n):=⟨_,rfl⟩
    have hek:∀ i,(enc i).length=Ty.size .term := λ i=>by rw [henc];exact qty (hlast i) hns
    have hlget:∀ i,∃ y,l[i % n]? = some y := λ i=>⟨_,List.getElem?_eq_getElem (by rw [<- hn];exact hlast i)⟩
    have he1:∀ i,∀ u∈enc i,u.oneCell'=true := λ i u hu=>by
     rw [henc] at hu;obtain ⟨y,hy⟩:=hlget i;exact (hER hy).2 u hu
    have hrange:(Array.range n).size=n:=vB;have hvsb:w.heap[Γ.cur 0]? = some (.cells vs et (0,0)):=hvs;have hmem0:∀ off,Γ.mem (Γ.cur 0) off=none := λ off=>H.un hz off (by rw [hRf.1,kQ,H.off hRf.2];exact we _)
    have hH:HoldsK enc (Ty.size .term) w (Γ.cur 0) 0 (Array.range n):=by
     intro j hj;rw [size_flatK,hrange] at hj;obtain ⟨q1,q2,q3⟩:=qpR j (Ty.size .term) n hj;have hjs:j<vs.size:=wE hj hns;constructor
     ·rw [get_flatK _ _ _ _ (by rw [hrange];exact hj)];have e1:(Array.range n)[j / (Ty.size .term)]! = j / (Ty.size .term):=by rw [getElem!_pos _ _ (by rw [hrange];exact q1)];simp
      rw [e1,henc];show _=some ((qcu vs (Ty.size .term) (j / (Ty.size .term) % n))[j % (Ty.size .term)]!);rw [xr q1];have e2:(qcu vs (Ty.size .term) (j / (Ty.size .term)))[j % (Ty.size .term)]? = some vs[j]:=by rw [qp8 q3,q2];exact Array.getElem?_eq_getElem hjs
      rw [wG,Blk.cell hvs,List.getElem!_eq_getElem?_getD,e2,Array.getElem?_eq_getElem hjs];rfl
     ·exact Blk.free hvs _
    have heq:∀ (m:Nat) (os:Array Obj) (dk:Array Nat),dk.size=n->∀ x y,Calls Go.Proofs.Tryz.prog g #[.agg (enc x).toArray,.agg (enc y).toArray] (sortWorldK enc (Ty.size .term) w (Γ.cur 0) 0 m dk os) λ e w'=>e = .returned (.bool (qln F l x y))/\∃ q' os',w'=grow ((sortWorldK enc (Ty.size .term) w (Γ.cur 0) 0 m dk os).drewN q') os':=by
     intro m os dk hdk x y;have B:=sort_blks hvsb enc (Ty.size .term) m dk os;obtain ⟨W,hW⟩:∃ W,W=sortWorldK enc (Ty.size .term) w (Γ.cur 0) 0 m dk os:=⟨_,rfl⟩
     rw [<- hW] at B |-
     have hiW:Inv (bare Γ) emp W:=hi.bare λ b o u e=>by
      have hne:b ≠ Γ.cur 0 := λ hb=>by rw [hb,hmem0] at e;cases e
      have hc:=(hi.mem b o u e).1;have hblt:=hi.mem_lt e;rw [show W.cell? _=w.cell? _ from World.cell?_of_block (B.other b hblt hne)];exact hc
     have rep:∀ (i:Nat) (y:T),l[i % n]? = some y->Rep (bare Γ) (yK .term y) (.agg (enc i).toArray) := λ i y hy=>by
      obtain ⟨q1,q2⟩:=hER hy;rw [hag];have:enc i=qcu vs (Ty.size .term) (i % n):=by rw [henc]
      rw [this];refine .agg _ _ q1.len q2 λ j z u a b=>(q1.rep j z u a b).bare (zr .term y z (wa a))
     obtain ⟨lx,hx⟩:=hlget x;obtain ⟨ly,hy⟩:=hlget y;have hsome:=wv.1 (wv.1 v2 lx (wa hx)) ly (wa hy);obtain ⟨c,hc⟩:=waf.1 hsome
     have hcf:qln F l x y=c:=by
      unfold qln;rw [<- hn,hx,hy];simp only;rw [hc];rfl
     rw [hcf];have hcall:=hF.2 hiW (rep x lx hx) (rep y ly hy) hc;refine Calls.mono hcall ?_;rintro e w' ⟨rfl,hid⟩;exact ⟨rfl,hid.grow⟩
    have hcall:=cP w (Γ.cur 0) n cap et vs hvsb hfit hcap (by omega) (by omega) enc hek he1 hH (qln F l) heq;obtain ⟨ix,hix⟩:∃ ix,ix=zG (qln F l) n:=⟨_,rfl⟩
    rw [<- hix] at hcall;have hixlt:∀ i∈ix,i<n := λ i hi=>by rw [hix] at hi;exact qzu i hi
    have hixl:∀ i∈ix,i<l.length := λ i hi=>by rw [<- hn];exact hixlt i hi
    have hixc:∀ i∈ix,i<R.c.length := λ i hi=>by rw [hnc];exact hixlt i hi
    have hl'e:l'=pick l ix:=by rw [v4,<- hn,hix]
    have hl'n:l'.length=ix.length:=by rw [hl'e,qpi hixl]
    have pm:∀ e∈pick R.c ix,e∈R.c := λ e he=>by
     unfold pick at he;obtain ⟨i,_,h⟩:=xa.1 he;exact wa h
    refine qkG (a := .term) hi hb0 hR hRk hRf.1 hRf.2 hz (l:=l') (c:=pick R.c ix) (xs:=ix.flatMap enc) (n:=ix.length) hl'n.symm (by rw [hl'e];exact qvV hRd hixl) (λ e he=>hlk e (pm e he)) (λ e he=>H.plain e (pm e he)) (λ i e j x h1 h2=>?_) ?_
    ·rw [qtH hixc] at h1;cases hp:ix[i]? with
     | none=>rw [hp] at h1;cases h1
     | some p =>
       rw [hp] at h1;have h1:R.c[p]? = some e:=h1;have hj:j<Ty.size .term:=by have:=getElem?_lt h2;rwa [hlk e (wa h1)] at this
       obtain ⟨u,u1,u2⟩:=hca p e j x h1 h2;refine ⟨u,?_,u2⟩;have hpn:p<n:=hixlt p (wa hp);rw [qr9 hek _ _ _ hj,hp];show (enc p)[j]? = some u;rw [henc];show (qcu vs (Ty.size .term) (p % n))[j]? = some u;rw [xr hpn,qp8 hj,<- Array.getElem?_toList];rw [List.getElem?_take] at u1;split at u1
       ·exact u1
       ·cases u1
    ·refine Calls.mono hcall ?_;rintro e w' ⟨rfl,dk,m,os,new,hdk,htk,hw⟩;have B:=sort_blks hvsb enc (Ty.size .term) m dk os;have hpsz:(putCells id 0 (flatK enc (Ty.size .term) dk) vs).size=vs.size:=by unfold putCells;rw [vX]
     have hixn:ix.length<=n:=by
      have:=congrArg List.length htk;rw [wm] at this;have h2:dk.toList.length=n:=by rw [wM,hdk]
      omega
     have hlen:ix.length*Ty.size .term<=n*Ty.size .term:=wn _ hixn
     have hxs:(putCells id 0 (flatK enc (Ty.size .term) dk) vs).toList.take (ix.length*Ty.size .term)=ix.flatMap enc:=by
      apply xd;intro t;by_cases ht:t<ix.length*Ty.size .term
      ·obtain ⟨q1,q2,q3⟩:=qpR t (Ty.size .term) ix.length ht;rw [List.getElem?_take,if_pos ht,Array.getElem?_toList];unfold putCells;rw [Array.getElem?_mapIdx,Array.getElem?_eq_getElem (by omega),kM,if_pos ⟨we _,by rw [size_flatK,hdk];omega⟩,Nat.sub_zero,id,get_flatK _ _ _ _ (by rw [hdk];omega)]
       conv=>rhs;rw [<- q2]
       rw [qr9 hek _ _ _ q3]
       have hd:dk[t / Ty.size .term]? = ix[t / Ty.size .term]? := by
        rw [<- htk,List.getElem?_take,if_pos q1,Array.getElem?_toList]
       have hdl:t / Ty.size .term<dk.size:=by rw [hdk];omega
       rw [<- hd,Array.getElem?_eq_getElem hdl,getElem!_pos dk _ hdl];show _=(enc dk[t / Ty.size .term])[t % Ty.size .term]?;rw [List.getElem!_eq_getElem?_getD,List.getElem?_eq_getElem (by rw [hek];exact q3)];rfl
      ·rw [List.getElem?_eq_none (by rw [wm];omega),List.getElem?_eq_none (by rw [qzc hek];omega)]
     rcases hw with rfl | ⟨n1,n2,rfl⟩
     ·exact ⟨Γ.cur 0,cap,_,et,rfl,B.hb,by omega,by rw [hpsz];exact hfit,hxs,.inl ⟨rfl,hpsz.trans hvsz⟩,B.os,B.tape,B.output,B.size,B.drawn,B.other⟩
     ·have hs:=setRow_heap _ (Γ.cur 0) _ new.toArray et (0,0) B.hb;refine ⟨Γ.cur 0,cap,new.toArray,et,rfl,hs,by omega,by rw [km,n2];exact hfit,?_,.inl ⟨rfl,by rw [km,n2];exact hvsz⟩,B.os,B.tape,B.output,?_,B.drawn,λ b hb hne=>(setRow_other _ (Γ.cur 0) b _ hne).trans (B.other b hb hne)⟩
      ·rw [<- hxs];exact n1
      ·show w.heap.size<=_;simp only [World.setRow,Array.size_modify];exact B.size
 ·have hl2:l'=[]:=by
    have hl0:l=[]:=hl0;rw [hl0] at hl';cases hl';rfl
  rcases hy with rfl | ⟨f,rfl,hf2⟩
  ·have hu0:=zm hu0;subst hu0;exact nil0 none hl2
  ·cases hu0 with
   | sl _ _ _ a n cap b o us hn _ hf _ _ _ _ _ _ =>
     have hn:n=0:=hn;have hcap:cap=n:=hf (by omega);rw [hcap,hn];exact nil0 a hl2
end Go.AmZ
namespace Go.AmZ
open Go Go.RowKit Go.GxZ
theorem qmo{P:Program}(w:World)(zt:Nat)(t ty e:TypeId)(i:TypeInfo)(z:Value)(size bytes:Nat)(F:P.underlying t=some (.slice e))(H:P.info? e=some i)(I:i.zero=some z)
  (d:i.size=size) (A:i.bytes=bytes) (s:z.cells.size=size) (x:0<size)
  (v:Value) (n:Nat) (xs:List Value) (b:w.ownsRow zt e size v n xs)
  (a:Addr) (m c:Nat) (qf:List Value) (G:qf.length=m*size) (f:∀ j u,qf[j]?=some u->w.cell? (a.add j)=some u) (J:∀ u∈qf,u.oneCell'=true)
  (B:n+m<=maxLen) (h:(n+m)*bytes<=140737488355328) (l:zt<=w.heap.size) :
  ∃ p w',(Builtin.append_ #[t,t] ty #[v,.slice (some a) m c]).run P w = .ok p w'/\w'.ownsRow zt e size p (n+m) (xs++qf)/\w.grownBy w' v.ownBlock /\
   (p.ownBlock=v.ownBlock\/∀ k,p.ownBlock=some k->w.heap.size<=k):=by
 rcases id b.2 with⟨rfl,rfl⟩ | ⟨g,cap,Q,rfl,O,R,K,N,M,E⟩
 ·have D:xs=[]:=kr.1 (by simpa using b.1);subst D;obtain⟨p,w',C,r,o,_⟩:=run_append_own (P:=P) w w.heap.size t ty e i z size bytes F H I d A s x (.slice none 0 0) 0 [] (World.ownsRow_nil w _ e size) a m c qf G f J B h (wb _);exact⟨p,w',C,r.mono l,o,.inr λ k y=>(r.lt k y).1⟩
 ·by_cases q:n+m<=cap
  ·obtain⟨w',C,r,o⟩:=run_append_own_spare (P:=P) w zt t ty e i size F H d g n cap xs b a m c qf G f J q;exact⟨_,w',C,r,o,.inl rfl⟩
  ·obtain⟨p,w',C,r,o⟩:=run_append_arg_grows (P:=P) w t ty e i z size bytes F H I d A s x ⟨g,0,none⟩ n cap xs b.1 (λ j u L=>b.cells rfl j u L) a m c qf G f (by omega) B h;exact⟨p,w',C,r.mono l,⟨o.os,o.tape,o.output,o.size,λ k y _=>o.block k y (by simp)⟩,.inr λ k y=>(r.lt k y).1⟩
structure qeA (Γ : Gh) (b:Nat):Prop where
 own:¬ QF Γ b
 mem:∀ o,Γ.mem b o=none
theorem qeA.ext{Γ Γ':Gh}{w w':World}{b:Nat}(h:qeA Γ b)(c:Ext Γ w Γ' w')(f:b<w.heap.size):qeA Γ' b/\w'.heap[b]?=w.heap[b]?:=by
 refine⟨⟨λ d=>(c.own b d).elim h.own λ h=>by omega,λ o=>?_⟩,c.block b f h.own⟩;cases e : Γ'.mem b o with
 | none=>rfl
 | some u =>
   rcases c.memg b o u e with a | a | a
   ·rw[h.mem]at a;cases a
   ·exact absurd a h.own
   ·omega
theorem qeA.new{Γ : Gh}{σ : St}{w:World}(a:Inv Γ σ w){b:Nat}(f:w.heap.size<=b):qeA Γ b:=by
 refine⟨λ h=>?_,λ o=>?_⟩
 ·rcases h with⟨i,c,rfl⟩ | ⟨r,c,e,rfl⟩
  ·have:=a.box_lt c;omega
  ·have:=a.cur_lt c e;omega
 ·cases d : Γ.mem b o with
  | none=>rfl
  | some u=>have:=a.mem_lt d;omega
theorem Inv.off{Γ : Gh}{σ : St}{w w':World}(h:Inv Γ σ w)(l:∀ k j,¬ qeA Γ k->w.heap[k]?=some j->w'.heap[k]?=some j):Inv Γ σ w' where
 nb:=h.nb
 nr:=h.nr
 mem := λ b o u e=>by
  obtain⟨m,q⟩:=h.mem b o u e;have c:=Array.getElem?_eq_getElem (qsS m);refine⟨?_,q⟩;rw[World.cell?_of_block (w:=w) (a:=⟨b,o,none⟩) ((l b _ (λ f=>by rw[f.mem]at e;cases e) c).trans c.symm)];exact m
 box := λ i cs e=>by
  have g:i < Γ.nb:=by rw[h.nb];exact getElem?_lt e
  exact(h.box i cs e).lift g (.refl _) λ o c=>l _ _ (λ f=>f.own (.inl ⟨i,g,rfl⟩)) c
 inj:=h.inj
 boxmem:=h.boxmem
 row := λ r R e=>by
  have d:r < Γ.nr:=by rw[h.nr];exact getElem?_lt e
  exact(h.row r R e).lift d (.refl _) rfl (λ n j c=>l _ _ (λ f=>f.own (.inr ⟨r,d,n,rfl⟩)) c) (λ _ _ p=>p) λ _ i t s=>by omega
 apart:=h.apart
theorem qJa{d Γ : Gh}{σ : St}{w0 w w':World}{e:Option Nat}(a:Ext d w0 Γ w)(m:Inv Γ σ w)(c:w.grownBy w' e)(f:∀ b,e=some b->qeA Γ b/\w0.heap.size<=b)(n:w.drawn<=w'.drawn):Ext d w0 Γ w'/\Inv Γ σ w':=by
 refine⟨⟨a.le,c.os.trans a.os,c.tape.trans a.tape,c.output.trans a.output,wD a.size c.size,λ b i l=>(c.block b (wE i a.size) λ h=>?_).trans (a.block b i l),a.own,a.memg,wD a.drawn n⟩,m.off λ k o j g=>?_⟩
 ·have:=(f b h.symm).2;omega
 ·rw[c.block k (Array.getElem?_eq_some_iff.1 g).1 λ h=>j (f k h.symm).1];exact g
theorem qeA.grown{Γ : Gh}{w w':World}{a:Option Nat}{b:Nat}(d:w.grownBy w' a)(e:b<w.heap.size)(c:some b≠a):w'.heap[b]?=w.heap[b]?:=d.block b e c
theorem qIH(w:World)(g k:Nat)(u:Value):w.grownBy (w.setCell ⟨g,k,none⟩ u) (some g) :=
 ⟨rfl,rfl,rfl,by simp,λ b _ a=>Below.heap_setCell _ _ _ _ λ h=>a (by rw[h])⟩
theorem ql7{w w':World}{B e s g n cap:Nat}{cs:List Value}(h:w.ownsRow B e s (.slice (some ⟨g,0,none⟩) n cap) n cs)(d:w'.heap[g]?=w.heap[g]?):w'.ownsRow B e s (.slice (some ⟨g,0,none⟩) n cap) n cs:=by
 rcases h.2 with⟨a,_⟩ | ⟨f,c,b,a,r⟩
 ·cases a
 ·cases a;exact⟨h.1,.inr ⟨g,cap,b,rfl,r.1,by rw[d];exact r.2.1,r.2.2⟩⟩
theorem qcP{w:World}{B e s g n cap:Nat}{cs:List Value}(h:w.ownsRow B e s (.slice (some ⟨g,0,none⟩) n cap) n cs):B<=g/\g<w.heap.size:=h.lt g rfl
theorem qvc{w:World}{B e s g n p cap:Nat}{cs:List Value}(h:w.ownsRow B e s (.slice (some ⟨g,0,none⟩) n cap) n cs)(d:p<=n):w.ownsRow B e s (.slice (some ⟨g,0,none⟩) p cap) p (cs.take (p*s)):=by
 have a:p*s<=n*s:=wn _ d;rcases h.2 with⟨b,_⟩ | ⟨q,f,c,b,o,m,l,k,j,i⟩
 ·cases b
 ·cases b;refine⟨by rw[wm,h.1];omega,.inr ⟨g,cap,c,rfl,o,m,wD d l,k,j,?_⟩⟩;rw[<- i,xL,kK a]
theorem qMJ{w:World}{B e s g n cap:Nat}{cs:List Value}(h:w.ownsRow B e s (.slice (some ⟨g,0,none⟩) n cap) n cs):n<=cap/\cap<=maxLen:=by
 rcases h.2 with⟨a,_⟩ | ⟨m,b,f,a,l,k,d,c,j,i⟩
 ·cases a
 ·cases a;exact⟨d,c⟩
abbrev RD:Ty := .pair .str (.pair (.int .i64) .bool)
def qjb(Γ : Gh)(σ : St)(cs:List Value)(i:Nat)(t:T)(n:Int)(r:Nat):Prop :=
 ∃ R a,σ.rw[r]?=some R/\R.k=4/\R.fz=0/\R.off=false/\R.c=t.kids.map (qj .term)/\Rep Γ (.rs r 0 t.kids.length R.ver false) a /\
  cs[i*5]?=some (.int .i64 t.kind)/\cs[i*5+1]?=some (.string ⟨t.name.toArray⟩)/\cs[i*5+2]?=some (.int .i64 t.sort)/\cs[i*5+3]?=some a/\cs[i*5+4]?=some (.int .i64 n)
structure Stk (B N:Nat) (Γ : Gh) (σ : St) (w:World) (st:List (T × Int)) (ids:List Nat) (g cap:Nat) (cs:List Value):Prop where
 len:ids.length=st.length
 nd:ids.Nodup
 priv:qeA Γ g
 own:w.ownsRow B N 5 (.slice (some ⟨g,0,none⟩) st.length cap) st.length cs
 node:∀ i t n r,st[i]?=some (t,n)->ids[i]?=some r->qjb Γ σ cs i t n r
section
variable {B N:Nat} {Γ Γ':Gh} {σ σ':St} {w w':World} {st:List (T × Int)} {ids:List Nat} {g cap:Nat} {cs:List Value}
theorem qjb.later{i:Nat}{t:T}{n:Int}{r:Nat}(h:qjb Γ σ cs i t n r)(c:Le Γ Γ')(b:∀ R,σ.rw[r]?=some R -> σ'.rw[r]?=some R):qjb Γ' σ' cs i t n r:=by
 obtain⟨R,a,l,k,j,g,f,e,d⟩:=h;exact⟨R,a,b R l,k,j,g,f,e.mono c,d⟩
theorem qjb.cells{i:Nat}{t:T}{n:Int}{r:Nat}{cs':List Value}(h:qjb Γ σ cs i t n r)(a:∀ j,j<5->cs'[i*5+j]?=cs[i*5+j]?):qjb Γ σ cs' i t n r:=by
 obtain⟨R,b,k,g,f,e,d,c,q,p,o,m,l⟩:=h;exact⟨R,b,k,g,f,e,d,c,(a 0 (by decide)).trans q,(a 1 (by decide)).trans p,(a 2 (by decide)).trans o,(a 3 (by decide)).trans m,(a 4 (by decide)).trans l⟩
theorem Stk.later(h:Stk B N Γ σ w st ids g cap cs)(a:Ext Γ w Γ' w')(e:∀ r,r∈ids->∀ R,σ.rw[r]?=some R -> σ'.rw[r]?=some R):Stk B N Γ' σ' w' st ids g cap cs:=by
 obtain⟨d,c⟩:=h.priv.ext a (qcP h.own).2;exact⟨h.len,h.nd,d,ql7 h.own c,λ i t n r f b=>(h.node i t n r f b).later a.le (e r (wa b))⟩
theorem Stk.grown{a:Option Nat}(h:Stk B N Γ σ w st ids g cap cs)(c:w.grownBy w' a)(b:some g≠a):Stk B N Γ σ w' st ids g cap cs :=
 ⟨h.len,h.nd,h.priv,ql7 h.own (c.block g (qcP h.own).2 b),h.node⟩
theorem Stk.cell(h:Stk B N Γ σ w st ids g cap cs){k:Nat}{u:Value}(a:cs[k]?=some u):w.cell? ⟨g,k,none⟩=some u/\w.frozen? ⟨g,k,none⟩=false:=by
 refine⟨?_,h.own.frozenAt k⟩;rw[h.own.cellAt k (by rw[<- h.own.1];exact getElem?_lt a)];exact a
theorem Stk.at(h:Stk B N Γ σ w st ids g cap cs){i:Nat}{t:T}{n:Int}(b:st[i]?=some (t,n)):∃ r,ids[i]?=some r/\qjb Γ σ cs i t n r:=by
 have a:i<ids.length:=by rw[h.len];exact getElem?_lt b
 exact⟨_,List.getElem?_eq_getElem a,h.node i t n _ b (List.getElem?_eq_getElem a)⟩
theorem Stk.left(h:Stk B N Γ σ w st ids g cap cs){i:Nat}{t:T}{n:Int}(l:st[i]?=some (t,n))(a:Int):Stk B N Γ σ (w.setCell ⟨g,i*5+4,none⟩ (.int .i64 a)) (st.set i (t,a)) ids g cap (cs.set (i*5+4) (.int .i64 a)):=by
 have s:=getElem?_lt l;have d:i*5+4<cs.length:=by rw[h.own.1];omega
 refine⟨by rw[wJ];exact h.len,h.nd,h.priv,by rw[wJ];exact(h.own.stored _ _).1,λ j o m r c f=>?_⟩;rw[List.getElem?_set]at c;split at c
 ·rename_i e;subst e;cases c;obtain⟨R,p,A,z,y,x,v,u,F,E,D,C,G⟩:=h.node i t n r l f;have b:∀ q,q≠i*5+4->(cs.set (i*5+4) (.int .i64 a))[q]?=cs[q]? := λ q k=>by rw[List.getElem?_set_ne (λ e=>k e.symm)]
  refine⟨R,p,A,z,y,x,v,u,(b _ (by omega)).trans F,(b _ (by omega)).trans E,(b _ (by omega)).trans D,(b _ (by omega)).trans C,?_⟩;rw[List.getElem?_set_self d]
 ·rename_i e;refine(h.node j o m r c f).cells λ q k=>?_;rw[List.getElem?_set_ne (by omega)]
theorem Stk.push(h:Stk B N Γ σ w st ids g cap cs){s:Value}{nk sk:Int}{nm:List UInt8}{lf:Int}{o:Value}{r:Nat}{R:Row}(F : σ.rw[r]?=some R)(K:R.k=4)(J:R.fz=0)(I:R.off=false)(H:R.c=[])(G:Rep Γ (.rs r 0 0 R.ver false) o)(A:r ∉ ids)
  (l:w'.ownsRow B N 5 s (st.length+1) (cs++[.int .i64 nk,.string ⟨nm.toArray⟩,.int .i64 sk,o,.int .i64 lf])) (z:s.ownBlock=some g\/∀ k,s.ownBlock=some k->qeA Γ k) :
  ∃ j d,s = .slice (some ⟨j,0,none⟩) ((st.length+1:Nat)) d/\Stk B N Γ σ w' (st++[(.mk nk nm sk [],lf)]) (ids++[r]) j d (cs++[.int .i64 nk,.string ⟨nm.toArray⟩,.int .i64 sk,o,.int .i64 lf]):=by
 have D:=h.own.1
 obtain⟨j,d,v⟩:∃ j d,s = .slice (some ⟨j,0,none⟩) ((st.length+1:Nat)) d:=by
  rcases l.2 with⟨_,O⟩ | ⟨j,d,L,e,_⟩
  ·omega
  ·exact⟨j,d,e⟩
 subst v;refine⟨j,d,rfl,⟨by simp[h.len],?_,?_,by simpa using l,λ i t n y p f=>?_⟩⟩
 ·rw[List.nodup_append];exact⟨h.nd,by simp,λ a E b x=>by simp at x;subst x;exact λ e=>A (e▸E)⟩
 ·rcases z with e | e
  ·cases e;exact h.priv
  ·exact e j rfl
 ·rw[List.getElem?_append]at p f;rw[h.len]at f;split at p
  ·rename_i m;rw[if_pos m]at f;refine(h.node i t n y p f).cells λ q M=>?_;rw[List.getElem?_append_left (by omega)]
  ·rename_i m;rw[if_neg m]at f
   have C:i=st.length:=by
    have:=getElem?_lt p;simp at this;omega
   subst C;simp at p f;obtain⟨rfl,rfl⟩:=p;subst f
   have u:∀ q,(cs++[.int .i64 nk,.string ⟨nm.toArray⟩,.int .i64 sk,o,.int .i64 lf])[st.length*5+q]?=([.int .i64 nk,.string ⟨nm.toArray⟩,.int .i64 sk,o,.int .i64 lf]:List Value)[q]? := λ q=>by
    rw[List.getElem?_append_right (by omega)];congr 1;omega
   exact⟨R,o,F,K,J,I,H,G,u 0,u 1,u 2,u 3,u 4⟩
theorem Stk.shrink(h:Stk B N Γ σ w st ids g cap cs){p:Nat}(e:p<=st.length):Stk B N Γ σ w (st.take p) (ids.take p) g cap (cs.take (p*5)):=by
 have a:(st.take p).length=p:=by rw[wm];omega
 refine⟨by rw[a,wm,h.len];omega,h.nd.sublist (List.take_sublist _ _),h.priv,by rw[a];exact qvc h.own e,λ i t n r b c=>?_⟩;rw[List.getElem?_take]at b c;split at b<;>try cases b
 rename_i d;rw[if_pos d]at c;refine(h.node i t n r b c).cells λ j f=>?_;rw[List.getElem?_take,if_pos (by omega)]
theorem Stk.kid(h:Stk B N Γ σ w st ids g cap cs)(v:Ext Γ w Γ' w'){q:Nat}(Z:q<st.length){t:T}{n:Int}(J:st[q]?=some (t,n)){r:Nat}(y:ids[q]?=some r)(x:T)
  (m:∀ i s,i<q->ids[i]?=some s->∀ R,σ.rw[s]?=some R -> σ'.rw[s]?=some R) {R:Row} (M : σ'.rw[r]?=some R) (U:R.k=4) (S:R.fz=0) (Q:R.off=false) (P:R.c=(t.kids++[x]).map (qj .term)) {f:Value} (O:Rep Γ' (.rs r 0 (t.kids.length+1) R.ver false) f) :
  Stk B N Γ' σ' (w'.setCell ⟨g,q*5+3,none⟩ f) (st.take q++[(.mk t.kind t.name t.sort (t.kids++[x]),n)]) (ids.take (q+1)) g cap ((cs.set (q*5+3) f).take ((q+1)*5)):=by
 obtain⟨D,C⟩:=h.priv.ext v (qcP h.own).2
 have l:(st.take q++[(T.mk t.kind t.name t.sort (t.kids++[x]),n)]).length=q+1:=by
  rw[wc,wm];simp;omega
 have G:=qvc ((ql7 h.own C).stored (q*5+3) f).1 (p:=q+1) (by omega);have L:=h.own.1;refine⟨by rw[l,wm,h.len];omega,h.nd.sublist (List.take_sublist _ _),D,by rw[l];exact G,λ i A E s b a=>?_⟩;rw[List.getElem?_take]at a;split at a<;>try cases a
 rename_i H
 have u:∀ j,j<5->((cs.set (q*5+3) f).take ((q+1)*5))[i*5+j]?=(cs.set (q*5+3) f)[i*5+j]? := λ j z=>by
  rw[List.getElem?_take,if_pos (by omega)]
 have d:∀ k,k≠q*5+3->(cs.set (q*5+3) f)[k]?=cs[k]? := λ k I=>by rw[List.getElem?_set_ne (λ e=>I e.symm)]
 rw[List.getElem?_append,wm,kK (by omega)]at b;split at b
 ·rename_i o;rw[List.getElem?_take,if_pos o]at b;exact((h.node i A E s b a).later v.le (m i s o a)).cells λ j z=>(u j z).trans (d _ (by omega))
 ·rename_i o;have K:i=q:=by omega
  subst K;simp at b;obtain⟨rfl,rfl⟩:=b;rw[y]at a;cases a;obtain⟨R0,F,b1,b2,b3,b4,b5,b6,Y,X,W,a3,V⟩:=h.node i t n r J y;refine⟨R,f,M,U,S,Q,P,(by show Rep Γ' (.rs r 0 (t.kids++[x]).length R.ver false) f;rw[wc];exact O),(u 0 (by decide)).trans ((d _ (by omega)).trans Y),(u 1 (by decide)).trans ((d _ (by omega)).trans X),(u 2 (by decide)).trans ((d _ (by omega)).trans W),(u 3 (by decide)).trans ?_,(u 4 (by decide)).trans ((d _ (by omega)).trans V)⟩;rw[List.getElem?_set_self (by omega)]
end
end Go.AmZ
namespace Go.AmZ
open Go Go.RowKit Go.GxZ
structure RS (Γ0:Gh) (w0:World) (rd:Val RD) (Γ : Gh) (σ : St) (w:World):Prop where
 x:Ext Γ0 w0 Γ w
 i:Inv Γ σ w
 bx : σ.bx=[qj RD rd]
abbrev qpp(F:Val RD->Option ((Val RD × Unit) × ((Int × List UInt8 × Int × List T × Int × Unit) × Unit))):qn6:=⟨[.box [.val RD]],[.agg [.val (.int .i64),.val .str,.val (.int .i64),.row .term,.val (.int .i64)]],λ x=>F x.1⟩
section
variable {P:Program} {Γ0 Γ : Gh} {σ : St} {w0 w:World} {rd:Val RD}
theorem RS.drew(h:RS Γ0 w0 rd Γ σ w):RS Γ0 w0 rd Γ σ { w with drawn:=w.drawn+1 }:=⟨h.x.trans (Ext.drew _ _),h.i.drew,h.bx⟩
theorem RS.box(h:RS Γ0 w0 rd Γ σ w):w.cell? ⟨Γ.β 0,0,none⟩=some (.string ⟨rd.1.toArray⟩)/\w.cell? ⟨Γ.β 0,1,none⟩=some (.int .i64 rd.2.1)/\w.cell? ⟨Γ.β 0,2,none⟩=some (.bool rd.2.2):=by
 obtain⟨vs,e,g,d,j⟩:=h.i.box 0 (qj RD rd) (by rw[h.bx];rfl);have f:=QP g;have c:∀(x:Value) (u:Value),Rep Γ (.v x) u->u=x := λ x u h=>by cases h;rfl
 refine⟨?_,?_,?_⟩<;>rw[f]
 ·obtain⟨u,a,b⟩:=d.get (i:=0) (x := .v (.string ⟨rd.1.toArray⟩)) rfl;rw[c _ _ b]at a;simpa using a
 ·obtain⟨u,a,b⟩:=d.get (i:=1) (x := .v (.int .i64 rd.2.1)) rfl;rw[c _ _ b]at a;simpa using a
 ·obtain⟨u,a,b⟩:=d.get (i:=2) (x := .v (.bool rd.2.2)) rfl;rw[c _ _ b]at a;simpa using a
theorem RS.grown{w':World}{c:Option Nat}(h:RS Γ0 w0 rd Γ σ w)(e:w.grownBy w' c)(d:∀ b,c=some b->qeA Γ b/\w0.heap.size<=b)(f:w.drawn<=w'.drawn):RS Γ0 w0 rd Γ σ w' :=
 let⟨a,b⟩:=qJa h.x h.i e d f;⟨a,b,h.bx⟩
theorem RS.set(h:RS Γ0 w0 rd Γ σ w){g:Nat}(a:qeA Γ g)(c:w0.heap.size<=g)(k:Nat)(u:Value):RS Γ0 w0 rd Γ σ (w.setCell ⟨g,k,none⟩ u) :=
 h.grown (qIH w g k u) (λ b e=>by cases e;exact⟨a,c⟩) (wb _)
theorem RS.put4(h:RS Γ0 w0 rd Γ σ w){b:Nat}(a:qeA Γ b)(c:w0.heap.size<=b)(g f e d:Value):RS Γ0 w0 rd Γ σ ((((w.setCell ⟨b,0,none⟩ g).setCell ⟨b,1,none⟩ f).setCell ⟨b,2,none⟩ e).setCell ⟨b,3,none⟩ d) :=
 (((h.set a c 0 g).set a c 1 f).set a c 2 e).set a c 3 d
theorem qDc:Rep Γ (.sl 4 [] 1) (.slice none 0 0) := .sl _ _ _ _ 0 0 0 0 (λ _ _=>undef) rfl (λ _=>wb _) (λ _=>rfl) (λ e h=>by cases h) (λ e h=>by cases h) (by decide) (.inl rfl) (λ i e j x h=>by cases h) (λ i e j x h=>by cases h)
theorem RS.alloc(h:RS Γ0 w0 rd Γ σ w)(o:Obj):RS Γ0 w0 rd Γ σ (w.alloc o) :=
 h.grown (World.grownBy_alloc w o none) (λ b e=>by cases e) (wb _)
theorem qwu{f:FuncId}{F:Val RD->Option ((Val RD × Unit) × ((Int × List UInt8 × Int × List T × Int × Unit) × Unit))}(C:qY P f (sgP (qpp F))){b:Val RD}{nk sk lf:Int}{nm:List UInt8}{ks:List T}(A:F rd=some ((b,()),((nk,nm,sk,ks,lf,()),())))
  (h:RS Γ0 w0 rd Γ σ w):Calls P f #[.pointer (some ⟨Γ.β 0,0,none⟩)] w λ e w'=>∃ Γ' σ' o,e = .returned (.agg #[.int .i64 nk,.string ⟨nm.toArray⟩,.int .i64 sk,o,.int .i64 lf])/\Ext Γ w Γ' w'/\RS Γ0 w0 b Γ' σ' w' /\ σ'.rw = σ.rw++[⟨4,ks.map (qj .term),0,0,false⟩]/\Rep Γ' (.rs σ.rw.length 0 ks.length 0 false) o:=by
 have l : Γ.nb=1:=by rw[h.i.nb,h.bx];rfl
 have g:qam σ [.ptr 0 0] (sgP (qpp F))=some (.agg [.v (.int .i64 nk),.v (.string ⟨nm.toArray⟩),.v (.int .i64 sk),.rs σ.rw.length 0 ks.length 0 false,.v (.int .i64 lf)],some ⟨[qj RD b],σ.rw++[⟨4,ks.map (qj .term),0,0,false⟩],0 :: σ.wr,σ.wrr⟩):=by
  obtain⟨I,rw,c,a⟩ := σ;have m:I=[qj RD rd]:=h.bx;subst m;have B:yh RD ((qj RD rd).take (Ty.size RD))=some rd:=Qi RD rd
  have m:qjy ⟨[qj RD rd],[],[],[]⟩ [.val RD] 0 0 (.ptr 0 0)=some ((rd,()),0):=by
   show(match yh RD ((qj RD rd).take (Ty.size RD))with
    | some v=>match qfY ⟨[qj RD rd],[],[],[]⟩ [] 0 ((qj RD rd).drop (Ty.size RD))with
      | some (vs,n)=>some ((v,vs),n)
      | none=>none
    | none=>none)=_
   rw[B];rfl
  have s:dS ⟨[qj RD rd],[],[],[]⟩ (qpp F).args 0 0 [.ptr 0 0]=some (rd,()):=by
   show(match qjy ⟨[qj RD rd],[],[],[]⟩ [.val RD] 0 0 (.ptr 0 0)with
    | some (v,k)=>match dS ⟨[qj RD rd],[],[],[]⟩ [] 1 k []with
      | some vs=>some (toB [.val RD] v,vs)
      | none=>none
    | none=>none)=_
   rw[m];rfl
  have z:sgP (qpp F) ⟨[qj RD rd],[],[],[]⟩ [.ptr 0 0]=some (.agg [.v (.int .i64 nk),.v (.string ⟨nm.toArray⟩),.v (.int .i64 sk),.rs 0 0 ks.length 0 false,.v (.int .i64 lf)],some ⟨[qj RD b],[⟨4,ks.map (qj .term),0,0,false⟩],[0],[]⟩):=by
   unfold sgP;rw[s];dsimp only;rw[A];rfl
  have q:qji ⟨[qj RD rd],rw,c,a⟩ [.ptr 0 0]=true:=rfl;have H:qM ⟨[qj RD rd],rw,c,a⟩ (Q6 ⟨[qj RD rd],rw,c,a⟩ [.ptr 0 0]) (qcQ ⟨[qj RD rd],rw,c,a⟩ [.ptr 0 0])=⟨[qj RD rd],[],[],[]⟩:=rfl;unfold qam;rw[q]
  show(match sgP (qpp F) (qM ⟨[qj RD rd],rw,c,a⟩ (Q6 ⟨[qj RD rd],rw,c,a⟩ [.ptr 0 0]) (qcQ ⟨[qj RD rd],rw,c,a⟩ [.ptr 0 0])) [.ptr 0 0]with
   | some r=>some (qjf ⟨[qj RD rd],rw,c,a⟩ [0] [] r)
   | none=>none)=_
  rw[H,z];rfl
 refine(qp6 (λ Γ σ j r y d t=>C.2 Γ σ w j _ r y d t) h.i (waE (Rep.ptr 0 0 (by rw[l];exact wai)) .nil) g).mono ?_;rintro e w' ⟨v,Γ',rfl,p,E,D,O⟩;cases D with
 | agg _ us u G d =>
 match us,u with
 | [u0,u1,u2,u3,u4],_ =>
 have N:=d 0 _ _ rfl rfl;have M:=d 1 _ _ rfl rfl;have L:=d 2 _ _ rfl rfl;have K:=d 3 _ _ rfl rfl;have J:=d 4 _ _ rfl rfl;cases N;cases M;cases L;cases J;exact⟨Γ',_,u3,rfl,p,⟨h.x.trans p,E,rfl⟩,rfl,K⟩
theorem qCJ(p:Inv Γ σ w){cs:List Value}{i:Nat}{t:T}{n:Int}{r:Nat}(h:qjb Γ σ cs i t n r) :
  ∃ a σ1 d,σ1.bx = σ.bx/\(∀ b,b≠r -> σ1.rw[b]? = σ.rw[b]?)/\Ext Γ w a w/\Inv a σ1 w/\cs[i*5+3]?=some d/\Rep a (.sl 4 (t.kids.map (qj .term)) 1) d/\d.oneCell'=true:=by
 obtain⟨R,d,j,B,E,D,s,q,I,H,G,C,F⟩:=h;obtain⟨m,l,v,u⟩:=qwJ p j σ.wrr;refine⟨_,{ σ with rw := σ.rw.modify r qmf,wrr := σ.wrr },d,rfl,λ b z=>?_,qla l w,v,C,?_,q.one rfl⟩
 ·show(σ.rw.modify r qmf)[b]?=_;rw[List.getElem?_modify];cases σ.rw[b]? with
  | none=>rfl
  | some x=>exact congrArg some (if_neg (λ e=>z (Eq.symm e)))
 ·have:=qlk p l.le (y := .rs r 0 t.kids.length R.ver false) (λ b f R' g=>by
    simp only[rsC,wH]at f;subst f;rw[j]at g;cases g;exact u) q
  have o:R.c.length=t.kids.length:=by rw[s,wA]
  have A:zj σ.rw (.rs r 0 t.kids.length R.ver false) = .sl 4 (t.kids.map (qj .term)) 1:=by
   simp only[zj,j]
   have:qna R R.k 0 t.kids.length R.ver=some (t.kids.map (qj .term)):=by
    unfold qna;rw[if_pos ⟨rfl,rfl,by omega⟩,wO,kE (by omega),s]
   rw[this,B]
  rw[A]at this;exact this
theorem qhE{t:T}{a:Value}(h:Rep Γ (.sl 4 (t.kids.map (qj .term)) 1) a):RepL Γ (qj .term t) [.int .i64 t.kind,.string ⟨t.name.toArray⟩,.int .i64 t.sort,a]:=by
 have b:qj .term t=[.v (.int .i64 t.kind),.v (.string ⟨t.name.toArray⟩),.v (.int .i64 t.sort),.sl 4 (t.kids.map (qj .term)) 1]:=by
  obtain⟨k,n,s,l⟩:=t;show J5 _=_;rw[J5,qlP];rfl
 rw[b];exact waE (.v _ rfl) (waE (.v _ rfl) (waE (.v _ rfl) (waE h .nil)))
theorem qpM{k s:Int}{b:ByteArray}{a:Value}(h:a.oneCell'=true):∀ u∈([.int .i64 k,.string b,.int .i64 s,a]:List Value),u.oneCell'=true:=by
 intro u c;simp only[wx,xt,or_false]at c;rcases c with rfl | rfl | rfl | rfl<;>first | rfl | exact h
theorem qKO(n:Inv Γ σ w){t:T}{b:Value}(h:Rep Γ (.sl 4 (t.kids.map (qj .term)) 1) b)(e:TypeId) :
  ∃ Γ',Ext Γ w Γ' (w.alloc (.cells #[.int .i64 t.kind,.string ⟨t.name.toArray⟩,.int .i64 t.sort,b] e))/\Inv Γ' σ (w.alloc (.cells #[.int .i64 t.kind,.string ⟨t.name.toArray⟩,.int .i64 t.sort,b] e))/\Rep Γ' (.sl (Ty.size .term) [qj .term t] 2) (.slice (some ⟨w.heap.size,0,none⟩) 1 1):=by
 obtain⟨Γ',g,l,k⟩:=qyX n (vs:=[.int .i64 t.kind,.string ⟨t.name.toArray⟩,.int .i64 t.sort,b]) (qpM (h.one rfl)) e;refine⟨Γ',g,l,.sl _ _ _ _ 1 1 w.heap.size 0 (λ _ j=>([.int .i64 t.kind,.string ⟨t.name.toArray⟩,.int .i64 t.sort,b]:List Value).getD j undef) rfl (λ _=>wb _) (λ _=>rfl) ?_ ?_ (by decide) (.inr rfl) ?_ ?_⟩
 ·intro e f;rw[wH.1 f];exact jz .term t
 ·intro e f;rw[wH.1 f];exact zr .term t
 ·intro i e j x a d;cases i with
  | succ i=>cases a
  | zero =>
    cases a;obtain⟨u,c,_⟩:=(qhE h).get d;rw[wG,kQ,wG,k j u c,List.getD_eq_getElem?_getD,c];rfl
 ·intro i e j x a d;cases i with
  | succ i=>cases a
  | zero =>
    cases a;obtain⟨u,c,m⟩:=(qhE h).get d;rw[List.getD_eq_getElem?_getD,c];exact m.mono g.le
theorem qFd{B N:Nat}{f:List (T × Int)}{a:List Nat}{g cap:Nat}{cs:List Value}(h:RS Γ0 w0 rd Γ σ w)(j:Stk B N Γ σ w f a g cap cs){q:Nat}{x:T}{n:Int}(m:f[q]?=some (x,n)) :
  ∃ Γ' σ' c,cs[q*5+3]?=some c/\RS Γ0 w0 rd Γ' σ' w/\Stk B N Γ' σ' w (f.take q) (a.take q) g cap (cs.take (q*5))/\Rep Γ' (.sl 4 (x.kids.map (qj .term)) 1) c/\Ext Γ w Γ' w:=by
 obtain⟨A,k,z⟩:=j.at m;obtain⟨d,σ1,c,y,v,l,u,t,s,C⟩:=qCJ h.i z;refine⟨d,σ1,c,t,⟨h.x.trans l,u,y.trans h.bx⟩,(j.shrink (xy (getElem?_lt m))).later l λ r o R p=>?_,s,l⟩;rw[v r λ e=>?_];exact p;subst e;obtain⟨i,b⟩:=vD.1 o;rw[List.getElem?_take]at b;split at b<;>try cases b
 have:=(List.getElem?_inj (getElem?_lt b) j.nd).1 (b.trans k.symm);omega
theorem qFO{B N:Nat}{A:List (T × Int)}{f:List Nat}{g cap:Nat}{cs:List Value}{z V:TypeId}(hT:qof P .term z V 56)(h:RS Γ0 w0 rd Γ σ w)(o:Stk B N Γ σ w A f g cap cs)(hB:w0.heap.size<=B){q:Nat}{t x:T}{n:Int}{J:Value}(E:A[q]?=some (t,n))(X:Rep Γ (.sl 4 (x.kids.map (qj .term)) 1) J)(l:zo (t.kids.length+1) 56=true)(e ty:TypeId) :
  ∃ p a,cs[q*5+3]?=some p/\f[q]?=some a/\(∃ C D,p = .slice C t.kids.length D) /\
  ∃ d w',(Builtin.append_ #[z,z] ty #[p,.slice (some ⟨w.heap.size,0,none⟩) 1 1]).run P (w.alloc (.cells #[.int .i64 x.kind,.string ⟨x.name.toArray⟩,.int .i64 x.sort,J] e)) = .ok d w'/\(∃ C D,d = .slice C (t.kids.length+1) D) /\
  ∃ Γ' σ',Ext Γ w Γ' w'/\RS Γ0 w0 rd Γ' σ' (w'.setCell ⟨g,q*5+3,none⟩ d)/\Stk B N Γ' σ' (w'.setCell ⟨g,q*5+3,none⟩ d) (A.take q++[(.mk t.kind t.name t.sort (t.kids++[x]),n)]) (f.take (q+1)) g cap ((cs.set (q*5+3) d).take ((q+1)*5)):=by
 obtain⟨U,S,c2,c3⟩:=qKO h.i X e;obtain⟨a,j,Nq⟩:=o.at E;obtain⟨R,p,e1,Q,O,e4,M,L,f0,f1,f2,f3,f4⟩:=Nq;have v:R.c.length=t.kids.length:=by rw[M,wA]
 have r:=of_decide_eq_true l
 have y:yb (Ty.size .term) 56 σ (.rs a 0 t.kids.length R.ver false) [qj .term x]=some (.rs a 0 (t.kids.length+1) (R.ver+1) false,some { σ with rw := σ.rw.set a { R with c:=R.c++[qj .term x],ver:=R.ver+1 },wrr:=a :: σ.wrr }):=by
  have m:R.k=Ty.size .term/\R.ver=R.ver/\t.kids.length=R.c.length/\(0:Nat)=0/\false=false/\R.fz<=R.c.length/\(t.kids.length+[qj .term x].length)*56<=2 ^ 47/\t.kids.length+[qj .term x].length<2 ^ 62 :=
   ⟨Q,rfl,v.symm,rfl,rfl,by rw[O];exact we _,r.1,r.2⟩
  have G:qsR R (Ty.size .term) 0 t.kids.length R.ver false 56 [qj .term x]=some ({ R with c:=R.c++[qj .term x],ver:=R.ver+1 },t.kids.length+1):=if_pos m;have u:zh (qaN [qj .term x]) 0=false:=rfl;simp only[yb,u,e1,G]
 obtain⟨d,w',Γ',g1,g2,g3,K⟩:=qrF hT c2 (L.mono S.le) c3 (by intro q' hq';rw[wH.1 hq'];exact jz .term x) (by intro q' hq';rw[wH.1 hq'];exact zr .term x) y ty;have b:=S.trans g2;have F:=(o.priv.ext b (qcP o.own).2).1;have Z:=(qcP o.own).1;refine⟨p,a,f3,j,(by cases L;exact⟨_,_,rfl⟩),d,w',g1,(by cases K;exact⟨_,_,rfl⟩),Γ',_,b,RS.set ⟨h.x.trans b,g3,h.bx⟩ F (by omega) _ _,o.kid b (getElem?_lt E) E j x (λ i I hi s R' H=>?_) (R:={ R with c:=R.c++[qj .term x],ver:=R.ver+1 }) ?_ Q O e4 (by show R.c++_=_;rw[M,wS];rfl) K⟩
 ·have Y:=getElem?_lt s
  have W:I≠a := λ e=>by
   have:=(List.getElem?_inj Y o.nd).1 (s.trans (e▸j.symm));omega
  show(σ.rw.set a _)[I]?=_;rw[List.getElem?_set_ne (λ e=>W e.symm)];exact H
 ·show(σ.rw.set a _)[a]?=_;rw[List.getElem?_set_self (getElem?_lt e1)]
theorem qCs{vs:Array Value}{a:Nat}{f e c b:Value}(j:a+4<=vs.size)(off:Nat):((((vs.setIfInBounds a f).setIfInBounds (a+1) e).setIfInBounds (a+2) c).setIfInBounds (a+3) b)[off]?=if off<a then vs[off]? else if off<a+4 then([f,e,c,b]:List Value)[off-a]? else vs[off]?:=by
 simp only[Array.getElem?_setIfInBounds,xM];by_cases h:off<a
 ·rw[if_pos h,if_neg (by omega),if_neg (by omega),if_neg (by omega),if_neg (by omega)]
 ·rw[if_neg h];by_cases g:off<a+4
  ·rw[if_pos g];obtain⟨d,rfl⟩:∃ d,off=a+d:=⟨off-a,by omega⟩
   rw[show a+d-a=d by omega];have i:d<4:=by omega
   match d,i with
   | 0,_=>rw[if_neg (by omega),if_neg (by omega),if_neg (by omega),if_pos (by omega),if_pos (by omega)];rfl
   | 1,_=>rw[if_neg (by omega),if_neg (by omega),if_pos (by omega),if_pos (by omega)];rfl
   | 2,_=>rw[if_neg (by omega),if_pos (by omega),if_pos (by omega)];rfl
   | 3,_=>rw[if_pos (by omega),if_pos (by omega)];rfl
  ·rw[if_neg g,if_neg (by omega),if_neg (by omega),if_neg (by omega),if_neg (by omega)]
theorem qMG{B N:Nat}{O:List (T × Int)}{s:List Nat}{g cap:Nat}{cs:List Value}(h:RS Γ0 w0 rd Γ σ w)(f:Stk B N Γ σ w O s g cap cs){q:Nat}{t x z:T}{ks:List T}{n:Int}{o:Value}(hq:O[q]?=some (t,n))(K:t.kids=ks++[z])(hx:Rep Γ (.sl 4 (x.kids.map (qj .term)) 1) o) :
  ∃ b m,cs[q*5+3]?=some (.slice (some ⟨b,0,none⟩) (ks.length+1) m)/\b≠g/\QF Γ b/\(∀ j,j<4->∃ u,w.cell? ⟨b,ks.length*4+j,none⟩=some u)/\(∀ j,w.frozen? ⟨b,j,none⟩=false) /\
  ∃ Γ' σ',Ext Γ w Γ' ((((w.setCell ⟨b,ks.length*4,none⟩ (.int .i64 x.kind)).setCell ⟨b,ks.length*4+1,none⟩ (.string ⟨x.name.toArray⟩)).setCell ⟨b,ks.length*4+2,none⟩ (.int .i64 x.sort)).setCell ⟨b,ks.length*4+3,none⟩ o) /\
   RS Γ0 w0 rd Γ' σ' ((((w.setCell ⟨b,ks.length*4,none⟩ (.int .i64 x.kind)).setCell ⟨b,ks.length*4+1,none⟩ (.string ⟨x.name.toArray⟩)).setCell ⟨b,ks.length*4+2,none⟩ (.int .i64 x.sort)).setCell ⟨b,ks.length*4+3,none⟩ o) /\
   Stk B N Γ' σ' ((((w.setCell ⟨b,ks.length*4,none⟩ (.int .i64 x.kind)).setCell ⟨b,ks.length*4+1,none⟩ (.string ⟨x.name.toArray⟩)).setCell ⟨b,ks.length*4+2,none⟩ (.int .i64 x.sort)).setCell ⟨b,ks.length*4+3,none⟩ o) (O.set q (.mk t.kind t.name t.sort (ks++[x]),n)) s g cap cs:=by
 obtain⟨r,hr,R,ku,e1,J,e3,e4,e5,e6,f0,f1,f2,f3,f4⟩:=f.at hq;have H:=h.i.row r R e1;have D:R.c.length=ks.length+1:=by rw[e5,K];simp
 have V:t.kids.length=ks.length+1:=by rw[K];simp
 rw[V]at e6;have G:R.c[ks.length]?=some (qj .term z):=by rw[e5,K];simp
 have hz:=H.real G;have C:=H.off e4
 obtain⟨b,m,rfl,hb⟩:∃ b m,ku = .slice (some ⟨b,0,none⟩) (ks.length+1) m/\b = Γ.cur r:=by
  cases e6 with
  | rs _ _ _ _ _ a m v Q hc hf hl =>
    obtain⟨I,h2⟩:=hl (H.ver (by rw[e3];exact we _)).symm;rcases I with I | I
    ·omega
    ·rw[C,kQ,wG]at I;exact⟨_,m,by rw[I],rfl⟩
 subst hb;have v:r < Γ.nr:=by rw[h.i.nr];exact getElem?_lt e1
 have A:QF Γ (Γ.cur r) := .inr ⟨r,v,hz,rfl⟩;have Y : Γ.cur r≠g := λ e=>f.priv.own (e▸A);obtain⟨vs,e,fr,M,c2,c3,c4⟩:=H.blk hz;have X:fr=(0,0):=c4 (by omega);subst X;have F:=H.fit;rw[C,D,J,<- c2]at F;have s1:=heap_setCell_same w (Γ.cur r) (ks.length*4) vs e (.int .i64 x.kind) M;have s2:=heap_setCell_same _ (Γ.cur r) (ks.length*4+1) _ e (.string ⟨x.name.toArray⟩) s1;have s3:=heap_setCell_same _ (Γ.cur r) (ks.length*4+2) _ e (.int .i64 x.sort) s2;have s4:=heap_setCell_same _ (Γ.cur r) (ks.length*4+3) _ e o s3
 have l:∀ k,k ≠ Γ.cur r->((((w.setCell ⟨Γ.cur r,ks.length*4,none⟩ (.int .i64 x.kind)).setCell ⟨Γ.cur r,ks.length*4+1,none⟩ (.string ⟨x.name.toArray⟩)).setCell ⟨Γ.cur r,ks.length*4+2,none⟩ (.int .i64 x.sort)).setCell ⟨Γ.cur r,ks.length*4+3,none⟩ o).heap[k]?=w.heap[k]? := λ k L=>by
  rw[Below.heap_setCell _ _ _ _ L,Below.heap_setCell _ _ _ _ L,Below.heap_setCell _ _ _ _ L,Below.heap_setCell _ _ _ _ L]
 obtain⟨Γ',p,z2⟩:=qry h.i e1 G (by rw[e3];exact we _) e4 (e1:=qj .term x) ((jz .term x).trans J.symm) (zr .term x) (λ vs' e' ab Q=>by
   rw[M]at Q;cases Q;refine⟨s4,by simp,λ off ho=>?_⟩;rw[J]at ho;rw[qCs (by omega)];split
   ·rfl
   ·rw[if_neg (by omega)])
  (λ j y W=>by
   have aa:j<4:=by have:=getElem?_lt W;rwa [jz .term x]at this
   obtain⟨u,hu,S⟩:=(qhE hx).get W;refine⟨u,?_,S,qpM (hx.one rfl) u (wa hu)⟩;rw[J,qCs (by omega),if_neg (by omega),if_pos (by omega),show ks.length*4+j-ks.length*4=j by omega];exact hu) l rfl rfl rfl (by simp) (wb _) σ.wrr
 refine⟨Γ.cur r,m,f3,Y,A,λ j W=>⟨vs[ks.length*4+j]'(by omega),?_⟩,λ j=>frozen_of_row w _ j _ _ M,Γ',_,p,⟨h.x.trans p,z2,h.bx⟩,?_⟩
 ·rw[QP M,Array.getElem?_eq_getElem]
 ·obtain⟨p1,p2⟩:=f.priv.ext p (qcP f.own).2;refine⟨by rw[wJ];exact f.len,f.nd,p1,by rw[wJ];exact ql7 f.own p2,λ i t' n' P E d=>?_⟩;rw[List.getElem?_set]at E;split at E
  ·rename_i e;subst e;rw[if_pos (getElem?_lt hq)]at E;cases E;rw[hr]at d;cases d;refine⟨{ R with c:=R.c.set ks.length (qj .term x) },_,List.getElem?_set_self (getElem?_lt e1),J,e3,e4,?_,?_,f0,f1,f2,f3,f4⟩
   ·show R.c.set ks.length (qj .term x)=(ks++[x]).map (qj .term);rw[e5,K,wS,wS];simp
   ·have:=e6.mono p.le;show Rep Γ' (.rs r 0 (ks++[x]).length R.ver false) _;rw[wc];exact this
  ·rename_i e;refine(f.node i t' n' P E d).later p.le λ R' Z=>?_
   have U:P≠r := λ e'=>by
    have:=(List.getElem?_inj (getElem?_lt d) f.nd).1 (d.trans (e'▸hr.symm));omega
   show(σ.rw.set r _)[P]?=_;rw[List.getElem?_set_ne (λ e=>U e.symm)];exact Z
end
end Go.AmZ
namespace Go.AmZ
open Go Go.RowKit Go.GxZ
theorem qov{P:Program}{o:Oper}{a:Act}{w:World}{K:Act->World->Prop}{Q:Exit->Act->World->Prop}(s x:Operand)(t:TypeId)(c:o.op=Op.call { callee:=Callee.builtin Builtin.append,args := #[s,x],argTypes := #[t,t] }){v d e:Value}{w':World}(g:a.eval s=v)(f:a.eval x=d)
  (b:(Builtin.append_ #[t,t] o.type #[v,d]).run P w = .ok e w') (h:K (a.put o.dst e) w'):Oper.wp P o a w K Q:=by
 unfold Oper.wp;simp[execOp,c,resolve,invoke,builtin,g,f,b,Result.andThen];exact h
theorem qoM{P:Program}{ops:Array Oper}{o:Oper}{a:Act}{w:World}{K:Act->World->Prop}{Q:Exit->Act->World->Prop}{E:Prop}(h:o.guard=none)(s x:Operand)(t:TypeId)(c:o.op=Op.call { callee:=Callee.builtin Builtin.append,args := #[s,x],argTypes := #[t,t] }){v d e:Value}{w':World}(g:a.eval s=v)(f:a.eval x=d)
  (b:(Builtin.append_ #[t,t] o.type #[v,d]).run P w = .ok e w') (i:K (a.put o.dst e) w'):if Region.wanted o (yielded ops a.tmps)=true then Oper.wp P o a w K Q else E:=by
 rw[if_pos (by simp[Region.wanted,h])];exact qov s x t c g f b i
theorem qyh{P:Program}{ops:Array Oper}{b:List Oper}{o:Oper}{a:Act}{w:World}{Q:Exit->Act->World->Prop}(s x:Operand)(t:TypeId)(j:o.guard=none)(d:o.op=Op.call { callee:=Callee.builtin Builtin.append,args := #[s,x],argTypes := #[t,t] }){v e f:Value}{w':World}(i:a.eval s=v)(g:a.eval x=e)
  (c:(Builtin.append_ #[t,t] o.type #[v,e]).run P w = .ok f w') (k:wpList P ops Q b (a.put o.dst f) w'):wpList P ops Q (o::b) a w:=by
 have h:Region.wanted o (yielded ops a.tmps)=true:=by simp[Region.wanted,j]
 unfold wpList;rw[if_pos h];exact .inl (qov s x t d i g c k)
abbrev qkE:=(Val RD × Unit) × ((Int × List UInt8 × Int × List T × Int × Unit) × Unit)
def qeS(F:Val RD->Option qkE)(rd:Val RD):Option (Val RD × (Int × List UInt8 × Int × Int)):=match F rd with
 | some (r,v)=>match v.1.2.2.2.1 with
   | []=>some (r.1,v.1.1,v.1.2.1,v.1.2.2.1,v.1.2.2.2.2.1)
   | _::_=>none
 | none=>none
def qnr(F:Val RD->Option qkE)(c:List (T × Int)->Val RD->Option ((Val RD × Unit) × (T × Unit)))(b:List (T × Int))(rd:Val RD):Option ((Val RD × Unit) × (T × Unit)) :=
 cond rd.2.2 (some ((rd,()),(T.mk 0 [] 0 [],()))) (qa b[b.length-1]? λ a=>cond (ilt 0 a.2)
  (cond (zo (b.length+1) 64) (qa (qeS F rd) λ h=>c (b.set (b.length-1) (a.1,iw .i64 (zp a.2 1))++[(T.mk h.2.1 h.2.2.1 h.2.2.2.1 [],h.2.2.2.2)]) h.1) none)
  (cond (Nat.beq b.length 1) (some ((rd,()),(a.1,()))) (qa b[b.length-2]? λ p=>cond (zo (p.1.kids.length+1) 56) (c (b.take (b.length-2)++[(T.mk p.1.kind p.1.name p.1.sort (p.1.kids++[a.1]),p.2)]) rd) none)))
def qkA(F:Val RD->Option qkE):Nat->List (T × Int)->Val RD->Option ((Val RD × Unit) × (T × Unit)):=qJ (λ _ _=>none) (qnr F)
def qpN(F:Val RD->Option qkE)(k:Nat)(rd:Val RD):Option ((Val RD × Unit) × (T × Unit)):=qa (qeS F rd) λ h=>qkA F k [(T.mk h.2.1 h.2.2.1 h.2.2.2.1 [],h.2.2.2.2)] h.1
theorem qtl{F:Val RD->Option qkE}{rd f:Val RD}{nk sk lf:Int}{nm:List UInt8}(h:qeS F rd=some (f,nk,nm,sk,lf)):F rd=some ((f,()),((nk,nm,sk,[],lf,()),())):=by
 unfold qeS at h;split at h<;>try cases h
 rename_i r v i;split at h<;>cases h;rename_i g;obtain⟨⟨a,b,c,d,e,_⟩,_⟩:=v;obtain⟨r,_⟩:=r;have g:d=[]:=g;subst g;exact i
theorem qGH{F:Val RD->Option qkE}{g:List (T × Int)->Val RD->Option ((Val RD × Unit) × (T × Unit))}{c:List (T × Int)}{rd:Val RD}{r:(Val RD × Unit) × (T × Unit)}(h:qnr F g c rd=some r) :
  (rd.2.2=true/\r=((rd,()),(T.mk 0 [] 0 [],())))\/rd.2.2=false/\∃ p b lt,c.length=p+1/\c[p]?=some (b,lt) /\
   ((0<lt/\zo (p+2) 64=true/\∃ d nk nm sk lf,F rd=some ((d,()),((nk,nm,sk,[],lf,()),()))/\g (c.set p (b,iw .i64 (zp lt 1))++[(T.mk nk nm sk [],lf)]) d=some r) \/
    ¬ 0<lt/\((p=0/\r=((rd,()),(b,())))\/∃ q a n,p=q+1/\c[q]?=some (a,n)/\zo (a.kids.length+1) 56=true/\g (c.take q++[(T.mk a.kind a.name a.sort (a.kids++[b]),n)]) rd=some r)):=by
 unfold qnr at h;cases m:rd.2.2 with
 | true=>rw[m]at h;exact .inl ⟨rfl,(kX h).symm⟩
 | false =>
   rw[m]at h;refine .inr ⟨rfl,?_⟩;cases e:c[c.length-1]? with
   | none=>rw[e]at h;cases h
   | some x =>
     obtain⟨b,lt⟩:=x;have o:=getElem?_lt e;obtain⟨p,s⟩:∃ p,c.length=p+1:=⟨c.length-1,by omega⟩
     rw[s]at h e;simp only[xU]at h e;rw[e]at h;refine⟨p,b,lt,s,e,?_⟩;have h:cond (ilt 0 lt) _ _=some r:=h;cases i:ilt 0 lt with
     | true =>
       rw[i]at h;have h:cond (zo (p+1+1) 64) (qa (qeS F rd) _) none=some r:=h;cases f:zo (p+1+1) 64 with
       | false=>rw[f]at h;cases h
       | true =>
         rw[f]at h;refine .inl ⟨of_decide_eq_true i,rfl,?_⟩;have h:qa (qeS F rd) _=some r:=h;cases l:qeS F rd with
         | none=>rw[l]at h;cases h
         | some y =>
           obtain⟨d,nk,nm,sk,lf⟩:=y;rw[l]at h;exact⟨d,nk,nm,sk,lf,qtl l,h⟩
     | false =>
       rw[i]at h;refine .inr ⟨of_decide_eq_false i,?_⟩;have h:cond (Nat.beq (p+1) 1) (some ((rd,()),(b,()))) _=some r:=h;cases j:Nat.beq (p+1) 1 with
       | true =>
         rw[j]at h;exact .inl ⟨by have:=wj j;omega,(kX h).symm⟩
       | false =>
         rw[j]at h;obtain⟨q,rfl⟩:∃ q,p=q+1:=⟨p-1,by cases p with | zero=>cases j | succ q=>rfl⟩
         have h:qa c[q+1+1-2]? _=some r:=h;rw[show q+1+1-2=q by omega]at h;cases k:c[q]? with
         | none=>rw[k]at h;cases h
         | some y =>
           obtain⟨a,n⟩:=y;rw[k]at h;have h:cond (zo (a.kids.length+1) 56) (g (c.take (q+1+1-2)++_) rd) none=some r:=h;rw[show q+1+1-2=q by omega]at h;cases f:zo (a.kids.length+1) 56 with
           | false=>rw[f]at h;cases h
           | true=>rw[f]at h;exact .inr ⟨q,a,n,rfl,k,f,h⟩
theorem qza{Γ Γ':Gh}(q:∀ b o u,Γ.mem b o=some u -> Γ'.mem b o=some u){x:AV}{u:Value}(h:Rep Γ x u):qz x=true->Rep Γ' x u:=by
 induction h with
 | v x h=>exact λ _ => .v x h
 | sl k es f a n cap b o us p t s r l y w g z m =>
   exact λ _ => .sl k es f a n cap b o us p t s r l y w (λ i e j x d c=>q _ _ _ (g i e j x d c)) (λ i e j x d c=>m i e j x d c (l e (wa d) x (wa c)))
 | _=>intro h;cases h
section
variable {P:Program} {Γ0 Γ : Gh} {σ0 σ : St} {w0 w:World} {rd:Val RD}
theorem qIu(G:Inv Γ0 σ0 w0)(p : σ0.bx.length=1)(c : σ0.rw=[])(h:RS Γ0 w0 rd Γ σ w){t:T}{us:List Value}(s:RepL Γ (qj .term t) us)(F:∀ u∈us,u.oneCell'=true) :
  ∃ v Γ',(Ending.returned (.agg us.toArray):Ending) = .returned v/\Ext Γ0 w0 Γ' w/\Inv Γ' (turn σ0 (some ⟨[qj RD rd],[],List.range σ0.bx.length,List.range σ0.rw.length⟩)) w/\Rep Γ' (yK .term t) v/\qW { σ0 with wr:=[],wrr:=[] } (turn { σ0 with wr:=[],wrr:=[] } (some ⟨[qj RD rd],[],List.range σ0.bx.length,List.range σ0.rw.length⟩)):=by
 obtain⟨q,g,C,r⟩ := σ0;have c:g=[]:=c;subst c;obtain⟨y,rfl⟩:∃ y,q=[y]:=xV.1 p
 obtain⟨m,B,H,A,z⟩:=qqU G h.x h.i (by rw[h.bx];exact wb _) [qj RD rd] [] rfl (by simp) kT [] [] (λ i cs d=>by
  cases i with
  | succ i=>cases d
  | zero =>
    cases d;refine⟨qj RD rd,by rw[h.bx];rfl,λ m n _ us f=>⟨f.len,λ j x u e k=>qza (Γ := Γ) (Γ':=yP Γ m 1 [] 0 []) (λ b o u l=>n.le.mem b o u l) (f.rep j x u e k) (zr RD rd x (wa e))⟩⟩) (λ a so R h=>by cases h) (λ a b j R R' h=>by cases h) [0] []
 refine⟨_,_,rfl,A,z,.agg _ us s.len F λ i x u e f=>qza (Γ := Γ) (Γ':=yP Γ m 1 [] 0 []) (λ b o u n=>B.le.mem b o u n) (s.rep i x u e f) (zr .term t x (wa e)),wb _,wb _,λ i d E=>?_,λ i d _=>absurd d (wL _),λ i h=>(by cases h),λ i h=>(by cases h)⟩;have:i=0:=by have:i<1:=d;omega
 exact absurd (by rw[this];exact wH.2 rfl) E
theorem qJl{B N:Nat}{m:List (T × Int)}{c:List Nat}{g cap:Nat}{cs:List Value}{q:TypeId}{i:TypeInfo}{z:Value}(J:P.underlying q=some (.slice N))(M:P.info? N=some i)(I:i.zero=some z)(x:i.size=5)(F:i.bytes=64)(v:z.cells.size=5)
  (h:RS Γ0 w0 rd Γ σ w) (s:Stk B N Γ σ w m c g cap cs) (Y:w0.heap.size<=B) {nk sk lf:Int} {nm:List UInt8} {n:Value} {r:Nat} (U : σ.rw[r]?=some ⟨4,[],0,0,false⟩) (o:Rep Γ (.rs r 0 0 0 false) n) (K:r ∉ c) (d:zo (m.length+1) 64=true) (ty:TypeId) :
  ∃ t w',(Builtin.append_ #[q,q] ty #[.slice (some ⟨g,0,none⟩) m.length cap,.slice (some ⟨w.heap.size,0,none⟩) 1 1]).run P (w.alloc (.cells #[.int .i64 nk,.string ⟨nm.toArray⟩,.int .i64 sk,n,.int .i64 lf] N)) = .ok t w' /\
  ∃ l a,t = .slice (some ⟨l,0,none⟩) ((m.length+1:Nat)) a/\RS Γ0 w0 rd Γ σ w'/\Stk B N Γ σ w' (m++[(.mk nk nm sk [],lf)]) (c++[r]) l a (cs++[.int .i64 nk,.string ⟨nm.toArray⟩,.int .i64 sk,n,.int .i64 lf]) /\
   w.heap.size<=w'.heap.size/\(∀ b,b<w.heap.size->b≠g->w'.heap[b]?=w.heap[b]?)/\(l=g\/w.heap.size<=l):=by
 have S:=s.own.alloc (.cells #[.int .i64 nk,.string ⟨nm.toArray⟩,.int .i64 sk,n,.int .i64 lf] N);have A:=of_decide_eq_true d;have V:=qcP s.own
 obtain⟨t,w',e1,X,p,H⟩:=qmo (P:=P) (w.alloc (.cells #[.int .i64 nk,.string ⟨nm.toArray⟩,.int .i64 sk,n,.int .i64 lf] N)) B q ty N i z 5 64 J M I x F v (by decide) _ m.length cs S ⟨w.heap.size,0,none⟩ 1 1 [.int .i64 nk,.string ⟨nm.toArray⟩,.int .i64 sk,n,.int .i64 lf] rfl
  (λ j u L=>by rw[qCM,World.cell?_alloc_mark];simpa using L) (λ u G=>by
   simp only[wx,xt,or_false]at G;rcases G with rfl | rfl | rfl | rfl | rfl<;>first | rfl | exact o.one rfl) (by unfold maxLen;omega) (by have:=A.1;omega) (by simp;omega)
 have E:=GxZ.run_drawn _ e1;have f:w.grownBy w' (some g):=⟨p.os,p.tape,p.output,by have:=p.size;simp at this;omega,λ k D C=>(p.block k (by simp;omega) C).trans (Below.heap_alloc _ _ _ D)⟩
 have W:=RS.grown h f (λ b e=>by cases e;exact⟨s.priv,by omega⟩) E;obtain⟨l,a,rfl,y⟩:=Stk.push (Γ := Γ) (σ := σ) s (r:=r) (R:=⟨4,[],0,0,false⟩) U rfl rfl rfl rfl o K X (H.imp id λ O k D=>qeA.new h.i (by have:=O k D;simp at this;omega));refine⟨_,w',e1,l,a,rfl,W,y,f.size,λ b Q C=>f.block b Q (λ e=>C (by cases e;rfl)),?_⟩;rcases H with e | e
 ·cases e;exact .inl rfl
 ·have:=e l rfl;simp at this;exact .inr (by omega)
theorem qMR{B N:Nat}(h:RS Γ0 w0 rd Γ σ w)(f:B<=w.heap.size){nk sk lf:Int}{nm:List UInt8}{a:Value}{r:Nat}(e : σ.rw[r]?=some ⟨4,[],0,0,false⟩)(c:Rep Γ (.rs r 0 0 0 false) a) :
  RS Γ0 w0 rd Γ σ (w.alloc (.cells #[.int .i64 nk,.string ⟨nm.toArray⟩,.int .i64 sk,a,.int .i64 lf] N))/\Stk B N Γ σ (w.alloc (.cells #[.int .i64 nk,.string ⟨nm.toArray⟩,.int .i64 sk,a,.int .i64 lf] N)) [(.mk nk nm sk [],lf)] [r] w.heap.size 1 [.int .i64 nk,.string ⟨nm.toArray⟩,.int .i64 sk,a,.int .i64 lf]:=by
 refine⟨h.alloc _,rfl,by simp,qeA.new h.i (wb _),World.ownsRow_lit w #[.int .i64 nk,.string ⟨nm.toArray⟩,.int .i64 sk,a,.int .i64 lf] 1 f (by decide) rfl,λ i t n g d b=>?_⟩;cases i with
 | succ i=>cases d
 | zero =>
   cases d;cases b;exact⟨_,a,e,rfl,rfl,rfl,rfl,c,rfl,rfl,rfl,rfl,rfl⟩
theorem Stk.id_lt{B N:Nat}{b:List (T × Int)}{a:List Nat}{g cap:Nat}{cs:List Value}(c:Stk B N Γ σ w b a g cap cs) : σ.rw.length ∉ a := λ h=>by
 obtain⟨i,d⟩:=vD.1 h;have e:i<b.length:=by rw[<- c.len];exact getElem?_lt d
 obtain⟨R,_,f,_⟩:=c.node i _ _ _ (List.getElem?_eq_getElem e) d;exact absurd (getElem?_lt f) (xQ _)
def qc7(Γ : Gh)(w:World)(b:Nat)(e:TypeId):Prop:=qeA Γ b/\b<w.heap.size/\w.heap[b]?=some (.cells #[.int .i64 0,.string ⟨#[]⟩,.int .i64 0,.slice none 0 0] e (0,0))
theorem qc7.cells{b:Nat}{e:TypeId}(h:qc7 Γ w b e):w.cell? ⟨b,0,none⟩=some (.int .i64 0)/\w.cell? ⟨b,1,none⟩=some (.string ⟨#[]⟩)/\w.cell? ⟨b,2,none⟩=some (.int .i64 0)/\w.cell? ⟨b,3,none⟩=some (.slice none 0 0)/\∀ i,w.frozen? ⟨b,i,none⟩=false:=by
 obtain⟨_,_,h⟩:=h;have a:=QP h;exact⟨a 0,a 1,a 2,a 3,λ i=>frozen_of_row w b i _ _ h⟩
theorem qc7.ext{Γ':Gh}{w':World}{b:Nat}{e:TypeId}(h:qc7 Γ w b e)(d:Ext Γ w Γ' w'):qc7 Γ' w' b e :=
 let⟨a,c⟩:=h.1.ext d h.2.1;⟨a,wE h.2.1 d.size,c.trans h.2.2⟩
theorem qc7.same{w':World}{b:Nat}{e:TypeId}(h:qc7 Γ w b e)(a:w.heap.size<=w'.heap.size)(c:w'.heap[b]?=w.heap[b]?):qc7 Γ w' b e:=⟨h.1,wE h.2.1 a,c.trans h.2.2⟩
theorem Stk.drew{B N:Nat}{b:List (T × Int)}{a:List Nat}{g cap:Nat}{cs:List Value}(h:Stk B N Γ σ w b a g cap cs):Stk B N Γ σ w.drew b a g cap cs:=⟨h.len,h.nd,h.priv,ql7 h.own rfl,h.node⟩
theorem qc7.drew{b:Nat}{e:TypeId}(h:qc7 Γ w b e):qc7 Γ w.drew b e:=h
theorem RS.drew'(h:RS Γ0 w0 rd Γ σ w):RS Γ0 w0 rd Γ σ w.drew:=h.drew
end
end Go.AmZ
namespace Go.AmZ
open Go Go.GxZ
set_option linter.unusedVariables false
set_option maxRecDepth 100000
noncomputable section
abbrev Z1:=Option ((Unit) × ((Option ((Int) × (List (Int × (Int × (Y8 × Bool)))) × Unit)) × (Int) × Unit))
abbrev Z2:=Option ((((Int) × (List (Int × (Int × (Y8 × Bool)))) × Unit) × Unit) × ((Bool) × Unit))
abbrev Z3:=(Int) × (List (Int × (Int × (Y8 × Bool)))) × Unit
abbrev Z4:=Option (Bool)
abbrev Z5:=Int->Z4
abbrev Z6:=List UInt8
abbrev Z7:=Z6->Int->Int->Z4
abbrev Z8:=Y8->Z4
abbrev Z9:=Option (((Int) × (Int) × Unit) × ((Int) × Unit))
abbrev Z10:=T->Int->Int->Int->Z9
abbrev Z11:=List (T)
abbrev Z12:=Int->Z11->Int->Int->Int->Int->Z9
abbrev Z13:=Option (Int)
abbrev Z14:=T->Z13
abbrev Z15:=Option (Y8 × (Int × (Int × Int)))
abbrev Z16:=List (Y8 × (Int × (Int × Int)))
abbrev Z17:=Z6->Z16->Int->Int->Z6->Int->Int->Int->Z15
abbrev Z18:=Z11->Int->Int->Int->Z6->Int->Z11->Z13
abbrev Z19:=Z11->Int->Int->Z13
abbrev Z20:=Option (((Int) × (List (T)) × Unit) × (Unit))
abbrev Z21:=T->Int->Z11->Z20
abbrev Z22:=Z11->Int->Int->Int->Z11->Z20
abbrev Z23:=Int->Z11->Int->Int->Z13
abbrev Z24:=T->T->Z13
abbrev Z25:=Int->Int->Int->Z6->Int->Z11->Int->Z6->Int->Z11->Z13
abbrev Z26:=T->T->Z4
abbrev Z27:=Option (T)
abbrev Z28:=T->Z27
abbrev Z29:=Z11->Int->Int->Int->Z6->Int->Int->Z6->Int->Z11->Z11->Z27
abbrev Z30:=Option ((Unit) × ((List (T)) × Unit))
abbrev Z31:=Int->Int->Z11->Z30
abbrev Z32:=Option (TL)
abbrev Z33:=T->Z32
abbrev Z34:=(List (TL))->Int->(List (TL))->Int->Int->Z32
abbrev Z35:=(List (TL))->Int->Int->Z11->Z32
abbrev Z36:=Z11->Z11->Z11->Z32
abbrev Z37:=Z11->Z11->Int->Int->Z32
abbrev Z38:=Option ((T) × (Int))
abbrev Z39:=List (Int)
abbrev Z40:=Z39->Int->Int->Int->Z6->Int->Z11->Int->Z6->Int->Int->Z6->Int->Z11->Z11->Z38
abbrev Z41:=TL->Z32
abbrev Z42:=Z11->Int->Int->Z11->Z32
abbrev Z43:=Z11->Z11->Int->Int->Int->Z6->Int->Z11->Z38
abbrev Z44:=T->Z4
abbrev Z45:=Int->Int->Int->Z6->Int->Int->Z6->Int->Z11->Z11->Z27
abbrev Z46:=Option ((Int) × (Bool))
abbrev Z47:=List (T × Int)
abbrev Z48:=Z47->Int->Int->Int->Int->Z6->Int->Z11->Z46
abbrev Z49:=Option ((Unit) × ((List (T × Int)) × Unit))
abbrev Z50:=Option ((Unit) × ((List (T × Int)) × (Bool) × Unit))
abbrev Z51:=Z47->T->Int->Z50
abbrev Z52:=Int->Z11->Int->Int->Z47->Z50
abbrev Z53:=Option ((List (T × Int)) × (Int))
abbrev Z54:=T->Z53
abbrev Z55:=Z47->Z47->Int->Int->Z13
abbrev Z56:=Z47->Z13
abbrev Z57:=Y8->TL->Z27
abbrev Z58:=Z47->Int->Int->Int->Z6->Int->Z11->Z11->Z11->Z38
abbrev Z59:=Z47->Int->Int->Int->Int->Int->Z6->Int->Int->Z6->Int->Z11->Int->Z11->Z11->Z11->Z38
abbrev Z60:=Z47->Z38
abbrev Z61:=Z47->Int->Int->Z47->Z49
abbrev Z62:=Z47->Int->Int->Z13
abbrev Z63:=Z47->Int->Int->Z47->Z53
abbrev Z64:=Z47->Z47->Z53
abbrev Z65:=T->T->Z38
abbrev Z66:=T->Z38
abbrev Z67:=Z11->Int->Int->Int->Z6->Int->Z11->Int->Z6->Int->Int->Z6->Int->Z11->Z11->Z38
abbrev Z68:=Z11->Int->Int->Z4
abbrev Z69:=Option (((T) × Unit) × ((Bool) × Unit))
abbrev Z70:=Option (((T) × Unit) × ((Int) × Unit))
abbrev Z71:=(List (Y8 × (Int × Int)))->Int->Int->Int->Z6->Int->Z11->Z70
abbrev Z72:=Option (List (Y8 × (Int × Int)))
abbrev Z73:=Option ((Unit) × ((List (Int)) × Unit))
abbrev Z74:=Z39->T->Z73
abbrev Z75:=Z11->Int->Int->Z39->Z73
abbrev Z76:=Option ((Y8) × (Int))
abbrev Z77:=Option ((((Int) × (List (Int × (Int × (Y8 × Bool)))) × Unit) × Unit) × ((Int) × (Int) × Unit))
abbrev Z78:=Z6->Int->Int->Int->Int->Z13
abbrev Z79:=Y8->Z13
abbrev Z80:=Option (Y8)
abbrev Z81:=Z3->Int->Int->T->Z77
abbrev Z82:=Option ((((Int) × (List (Int × (Int × (Y8 × Bool)))) × Unit) × Unit) × ((Option Int) × (Int) × Unit))
abbrev Z83:=Option ((((Int) × (List (Int × (Int × (Y8 × Bool)))) × Unit) × Unit) × ((Int) × Unit))
abbrev Z84:=Z3->Int->Int->Int->Z83
abbrev Z85:=Option (((Y8 × (Int × Bool)) × Unit) × ((Int) × Unit))
abbrev Z86:=Y8 × (Int × Bool)
abbrev Z87:=Option (((Y8 × (Int × Bool)) × Unit) × ((Y8) × Unit))
abbrev Z88:=Int->Int->Int->Z6->Int->Bool->Z87
abbrev Z89:=Option (((Y8 × (Int × Bool)) × Unit) × (((Int) × (Y8) × (Int) × (List (T)) × (Int) × Unit) × Unit))
abbrev Z90:=Option ((T) × ((Int) × (Int)))
abbrev Z91:=Y8->Z90
abbrev Z92:=Option ((((Int) × (List (Int × (Int × (Y8 × Bool)))) × Unit) × Unit) × ((T) × (Int) × (Int) × Unit))
abbrev Z93:=Z3->Int->Z92
abbrev Z94:=Int->Int->Int->Z6->Int->Z11->Z13
abbrev Z95:=Int->Int->Z6->Int->Z11->Int->Z6->Int->Z11->Z13
abbrev Z96:=Z3->Int->Z77
abbrev Z97:=T->Int->Z13
abbrev Z98:=List (Int × (Int × (Int × (Int × (T × Int)))))
abbrev Z99:=Z98->Int->Z11->Z4
abbrev qN6:=Option ((Unit) × (((Int) × (List (Int × (Int × (Y8 × Bool)))) × Unit) × (Int) × Unit))
abbrev qLP:=Option ((((Int) × (List (Int × (Int × (Y8 × Bool)))) × Unit) × Unit) × ((Y8) × (Int) × Unit))
abbrev qNN:=Z3->Int->qLP
abbrev qOi:=Z6->Int->Z4
abbrev qGE:=Int->Int->Z6->Int->Z11->Z13
abbrev qOb:=Option (List (Y8 × (Int × (Int × Int))))
abbrev qOc:=Z6->Z16->Int->Z13
abbrev qOT:=Z16->Int->Int->Z6->Int->Z11->Z4
abbrev qNw:=Int->Int->Z6->Int->Z11->Z4
abbrev qO7:=Int->Int->Z6->Int->Z11->Z11->Z32
abbrev qOj:=Z11->Bool->Int->Int->Z6->Int->Z11->Z11->Z32
abbrev qGg:=Z11->Z11->Int->Z32
abbrev qOp:=Int->Z11->Int->Z11->Z32
abbrev qrD:=Option ((T) × (Bool))
abbrev qN5:=Z11->Int->Int->Z6->Int->Z11->Z13
abbrev qPc:=Z11->Int->Int->Z6->Int->Z11->Z4
abbrev qNS:=Z11->Int->Int->Z6->Int->Z11->Z11->Z32
abbrev qOn:=Z11->Int->Int->Z6->Int->Z11->Z32
abbrev qNX:=Z11->Z11->Int->Int->Z6->Int->Z11->Z38
abbrev qOs:=Int->Int->Int->Z6->Int->Z11->Z4
abbrev qNY:=Int->Bool->Int->Int->Z6->Int->Z11->Z47->Z47->Z49
abbrev qDo:=Z47->T->Int->Z49
abbrev qPf:=Int->Int->Int->Z6->Int->Z11->Z47->Z49
abbrev qG0:=Z47->Int->Z13
abbrev qn8:=Z47->Int->Z11->Z32
abbrev qnT:=Z47->Int->Int->Z11->Z32
abbrev qOm:=Z47->Int->Z47->Z53
abbrev qNv:=Int->Int->Z6->Int->Z11->Int->Z6->Int->Z11->Z11->Z38
abbrev qOo:=Z11->Int->Z4
abbrev qNE:=Z6->(List (Y8))->Int->Z13
abbrev qGs:=T->Z80
abbrev qNz:=Z6->Int->Int->Z6->Int->Z11->Z80
abbrev qO2:=Z6->Int->Int->Int->Z13
abbrev qPg:=Z3->Int->Z83
abbrev quI:=Option ((((Int) × (List (Int × (Int × (Y8 × Bool)))) × Unit) × Unit) × ((List (Int)) × Unit))
abbrev qsi:=List (Int × (Int × (Y8 × Bool)))
abbrev qOA:=Int->Int->Int->Int->qsi->Z39->quI
abbrev qOV:=Z3->Int->quI
abbrev qsl:=Option ((T) × ((Int) × (Bool)))
abbrev qG8:=Z6->Int->Int->Int->Int->Z6->Int->Int->Z6->Int->Z11->Z11->qsl
abbrev qAW:=Y8->Int->qsl
abbrev qre:=Option ((Int) × ((Int) × (Bool)))
abbrev qND:=Z6->Int->Z6->Z16->Int->qre
abbrev qOB:=Z39->Z39->Int->Int->Z4
abbrev qOU:=Int->Int->Int->qsi->Z39->quI
abbrev qNy:=Option ((((Int) × (List (Int × (Int × (Y8 × Bool)))) × Unit) × ((Int) × (List (Int × (Int × (Y8 × Bool)))) × Unit) × Unit) × ((Bool) × Unit))
abbrev qA6:=Z98->Int->Int->Int->Int->qsi->qsi->Z4
abbrev qB0:=Z98->Int->Int->Int->qsi->Z4
abbrev qDb:=Z98->Int->Int->Int->Int->Int->Int->Int->Int->Int->Int->Int->Z6->Int->Z11->Int->qsi->qsi->Z4
abbrev qC4:=Z98->Int->Int->Int->Int->Int->Int->Int->Int->Int->Int->Z6->Int->Z11->Int->qsi->Z4
def qiw(m:Nat)(a:Int):Z1 :=
 cond (ilt a 1) (some ((()),(none,7,()))) (cond (ilt 16 a) (some ((()),(none,7,()))) (some ((()),(some (a,[],()),0,()))))
def qgc:Nat->(Int->Z1):=qi (λ _=>none) λ m _=>qiw m
def qbb(m:Nat)(a:(Int) × (List (Int × (Int × (Y8 × Bool)))) × Unit)(b:Int):Z2 :=
 cond (ile 0 b) (some (((a.1,a.2.1,()),()),(ilt b a.1,()))) (some (((a.1,a.2.1,()),()),(false,())))
def QR:Nat->(Z3->Int->Z2):=qi (λ _ _=>none) λ m _=>qbb m
def qll(m:Nat)(a:Int):Z4 :=
 let d:Z4:=(let c:Z4:=(let b:Z4:=(cond (ieq a 95) (some true) (some (ieq a 35)));cond (ile 48 a) (cond (ile a 57) (some true) b) b);cond (ile 65 a) (cond (ile a 90) (some true) c) c);
 cond (ile 97 a) (cond (ile a 122) (some true) d) d
def qjt:Nat->Z5:=qi (λ _=>none) λ m _=>qll m
def qe8(m:Nat)(i:Z7)(a:Y8):Z4 :=
 cond (qy a []) (some false) (cond (ilt 24 a.length) (some false) (qa (qb a 0) λ h=>qa (qjt m ((UInt8.toNat h:Nat):Int)) λ g=>cond (qe g) (some false) (qa (qb a 0) λ f =>
 let b:Z4:=(qa (qb a 0) λ d=>cond (ieq ((UInt8.toNat d:Nat):Int) 95) (some false) (qa (qb a 0) λ c=>cond (ieq ((UInt8.toNat c:Nat):Int) 35) (some false) (i a a.length 0)));
 cond (ile 48 ((UInt8.toNat f:Nat):Int)) (qa (qb a 0) λ e=>cond (ile ((UInt8.toNat e:Nat):Int) 57) (some false) b) b)))
def qfn(m:Nat)(f:Z7)(c:Y8)(b a:Int):Z4 :=
 cond (ilt a b) (qa (qb c a) λ e=>qa (qjt m ((UInt8.toNat e:Nat):Int)) λ d=>cond (qe d) (some false) (f c b (iw .i64 (qc a 1)))) (some true)
def QD(m:Nat):=qJ (λ _ _ _=>none) λ a=>qfn m a
def qdX:Nat->Z8:=qi (λ _=>none) λ m _=>qe8 m (QD m m)
def qgw(m:Nat)(b:Z10)(i:Z12)(a:T)(d f e:Int):Z9 :=
 let g:Z9:=(qa (qdX m a.name) λ h=>cond (qe h) (some ((iw .i64 (qc f 1),qn1 e d,()),(2,()))) (cond (ilt 8 a.kids.length) (some ((iw .i64 (qc f 1),qn1 e d,()),(3,())))
 (i d a.kids a.kids.length 0 (iw .i64 (qc f 1)) (qn1 e d))));let c:Z9:=(some ((iw .i64 (qc f 1),qn1 e d,()),(1,())));let j3:Z9 :=
 (cond (ilt a.sort 0) c (cond (ilt 5 a.sort) c (cond (ilt 0 a.kids.length) c g)));cond (ieq a.kind 1) j3 (cond (ieq a.kind 2) j3 (cond (ieq a.kind 3) (cond (qe (ieq a.sort 0)) c g) c))
def qgv(m:Nat)(a:Z10)(j:Z12)(h:Int)(g:TL)(f c e d:Int):Z9 :=
 cond (ilt c f) (qa (qb g c) λ i=>qa (a (re i) (iw .i64 (qc h 1)) e d) λ b=>cond (qe (ieq b.2.1 0)) (some ((b.1.1,b.1.2.1,()),(b.2.1,())))
 (j h g f (iw .i64 (qc c 1)) b.1.1 b.1.2.1)) (some ((e,d,()),(0,())))
def jI(m:Nat)(a:Z10):=qJ (λ _ _ _ _ _ _=>none) λ b=>qgv m a b
def ye:Nat->Z10:=qi (λ _ _ _ _=>none) λ m a=>qgw m a (jI m a m)
def qjU(m:Nat)(b:T):Z13 :=
 qa (ye m (re b) 1 0 0) λ a=>cond (qe (ieq a.2.1 0)) (some a.2.1) (cond (ilt 400 a.1.1) (some 3) (cond (ilt 40 a.1.2.1) (some 3) (some 0)))
def yG:Nat->Z14:=qi (λ _=>none) λ m _=>qjU m
def qdk(m:Nat)(c:Z17)(b:Y8):Z15 :=
 qa (qiT 0) λ a=>c b a a.length 0 [] 0 0 0
def qdG(m:Nat)(j:Z17)(e:Y8)(d:List (Y8 × (Int × (Int × Int))))(c b:Int)(i:Y8)(h g f:Int):Z15 :=
 cond (ilt b c) (qa (qb d b) λ a=>cond (qy a.1 e) (some (a.1,(a.2.1,(a.2.2.1,a.2.2.2)))) (j e d c (iw .i64 (qc b 1)) i h g f)) (some ([],(0,(0,0))))
def Jd(m:Nat):=qJ (λ _ _ _ _ _ _ _ _=>none) λ a=>qdG m a
def qdN:Nat->(Y8->Z15):=qi (λ _=>none) λ m _=>qdk m (Jd m m)
def qew(m:Nat)(b:Z14)(e:Z18)(d:Z19)(a:T):Z13 :=
 cond (qe (ieq a.kind 3)) (some 0) (qa (qdN m a.name) λ c=>cond (ieq c.2.2.2 0) (some 10) (cond (ilt a.kids.length c.2.1) (some 6) (cond (ilt c.2.2.1 a.kids.length) (some 6)
 (cond (qy a.name [115,107]) (e a.kids a.kids.length 0 a.kind a.name a.sort a.kids) (cond (qy a.name [115,104,107]) (e a.kids a.kids.length 0 a.kind a.name a.sort a.kids)
 (cond (qy a.name [110,101,119]) (qa (qb a.kids 0) λ f=>cond (qe (ieq f.kind 2)) (some 10) (d a.kids a.kids.length 0)) (d a.kids a.kids.length 0)))))))
def qet(m:Nat)(a:Z14)(k:Z18)(j:Z19)(e:TL)(d c i:Int)(h:Y8)(g:Int)(b:TL):Z13 :=
 cond (ilt c d) (qa (qb e c) λ f=>cond (ieq f.kind 3) (some 10) (cond (qe (ieq f.sort 1)) (some 10) (k e d (iw .i64 (qc c 1)) i h g b))) (j b b.length 0)
def qey(m:Nat)(a:Z14)(h:Z18)(g:Z19)(d:TL)(c b:Int):Z13 :=
 cond (ilt b c) (qa (qb d b) λ f=>qa (a (re f)) λ e=>cond (qe (ieq e 0)) (some e) (g d c (iw .i64 (qc b 1)))) (some 0)
def qU(m:Nat)(a:Z14):=qJ ((λ _ _ _ _ _ _ _=>none,λ _ _ _=>none)) λ b=>(qet m a b.1 b.2,qey m a b.1 b.2)
def qE:Nat->Z14:=qi (λ _=>none) λ m a=>qew m a (qU m a m).1 (qU m a m).2
def qhx(m:Nat)(b:T):Z13 :=
 qa (yG m (re b)) λ a=>cond (qe (ieq a 0)) (some a) (qa (qE m (re b)) λ c=>some c)
def qeQ:Nat->Z14:=qi (λ _=>none) λ m _=>qhx m
def qbI(m:Nat)(c:T)(b:Int)(a:TL):Z20 :=
 cond (ieq c.kind b) (cond (zo (List.length a+1) 56) (qa (qb (a++[T.mk 0 [] 0 []]) a.length) λ d=>some ((b,yn (a++[T.mk 0 [] 0 []]) a.length (re c),()),(()))) none)
 (some ((b,a,()),(())))
def qaJ:Nat->Z21:=qi (λ _ _ _=>none) λ m _=>qbI m
def qbw(m:Nat)(a:Z21)(f:Z22)(d:T)(c:Int)(b:TL):Z20 :=
 qa (qaJ m (re d) c b) λ e=>f d.kids d.kids.length 0 e.1.1 e.1.2.1
def qby(m:Nat)(a:Z21)(i:Z22)(f:TL)(e b d:Int)(c:TL):Z20 :=
 cond (ilt b e) (qa (qb f b) λ h=>qa (a (re h) d c) λ g=>i f e (iw .i64 (qc b 1)) g.1.1 g.1.2.1) (some ((d,c,()),(())))
def Qa(m:Nat)(a:Z21):=qJ (λ _ _ _ _ _=>none) λ b=>qby m a b
def zH:Nat->Z21:=qi (λ _ _ _=>none) λ m a=>qbw m a (Qa m a m)
def qlU(m:Nat)(b a:Int):Z13 :=
 cond (ilt b a) (some (-1)) (cond (ilt a b) (some 1) (some 0))
def qeU:Nat->(Int->Int->Z13):=qi (λ _ _=>none) λ m _=>qlU m
def qhN(m:Nat)(a:Z14)(c:Z23)(b:T):Z13 :=
 c 1 b.kids b.kids.length 0
def qh9(m:Nat)(a:Z14)(h:Z23)(e:Int)(d:TL)(c b:Int):Z13 :=
 cond (ilt b c) (qa (qb d b) λ g=>qa (a (re g)) λ f=>h (iw .i64 (qc e f)) d c (iw .i64 (qc b 1))) (some e)
def qcl(m:Nat)(a:Z14):=qJ (λ _ _ _ _=>none) λ b=>qh9 m a b
def Qk:Nat->Z14:=qi (λ _=>none) λ m a=>qhN m a (qcl m a m)
def qep(m:Nat)(c:Z24)(e:Z25)(b a:T):Z13 :=
 qa (Qk m (re b)) λ n=>qa (Qk m (re a)) λ l=>qa (qeU m n l) λ d=>let j1:Z13:=(qa (qeU m b.kids.length a.kids.length) λ k =>
 e k 0 b.kind b.name b.sort b.kids a.kind a.name a.sort a.kids);let h:Z13:=(qa (qeU m b.sort a.sort) λ i =>
 cond (ieq i 0) j1 (e i 0 b.kind b.name b.sort b.kids a.kind a.name a.sort a.kids));let j:Z13:=(qa (strings_Compare 0 b.name a.name) λ g =>
 cond (ieq g 0) h (cond (ieq g 0) j1 (e g 0 b.kind b.name b.sort b.kids a.kind a.name a.sort a.kids)));cond (ieq d 0) (qa (qeU m b.kind a.kind) λ f =>
 cond (ieq f 0) j (cond (ieq f 0) h (cond (ieq f 0) j1 (e f 0 b.kind b.name b.sort b.kids a.kind a.name a.sort a.kids))))
 (cond (ieq d 0) j (cond (ieq d 0) h (cond (ieq d 0) j1 (e d 0 b.kind b.name b.sort b.kids a.kind a.name a.sort a.kids))))
def qbW(m:Nat)(a:Z24)(p:Z25)(d b k:Int)(j:Y8)(i:Int)(c:TL)(h:Int)(g:Y8)(f:Int)(e:TL):Z13 :=
 cond (ieq d 0) (cond (ilt b c.length) (qa (qb c b) λ o=>qa (qb e b) λ n=>qa (a (re o) (re n)) λ l=>p l (iw .i64 (qc b 1)) k j i c h g f e) (some d))
 (some d)
def Qd(m:Nat)(a:Z24):=qJ (λ _ _ _ _ _ _ _ _ _ _=>none) λ b=>qbW m a b
def qB:Nat->Z24:=qi (λ _ _=>none) λ m a=>qep m a (Qd m a m)
def za:Nat->TL->Option (TL):=qi (λ _=>none) λ m _=>qsI (qB m)
def qfS(m:Nat)(c b:T):Z4 :=
 qa (qB m (re c) (re b)) λ a=>some (ieq a 0)
def jd:Nat->Z26:=qi (λ _ _=>none) λ m _=>qfS m
def qI:Nat->TL->Option (Unit × TL × Unit):=qi (λ _=>none) λ m _=>qvH (jd m)
def qgD(m:Nat)(a:Z28)(c:Z29)(b:T):Z27 :=
 c b.kids b.kids.length 0 b.kind b.name b.sort 0 [] 0 [] []
def qgr(m:Nat)(a:Z28)(p:Z29)(i:TL)(h c g:Int)(f:Y8)(e l:Int)(k:Y8)(j:Int)(b d:TL):Z27 :=
 cond (ilt c h) (qa (qb i c) λ o=>qa (a (re o)) λ n=>cond (zo (List.length b+1) 56) (p i h (iw .i64 (qc c 1)) g f e l k j (b++[re n]) d) none)
 (some (T.mk g f e b))
def qbd(m:Nat)(a:Z28):=qJ (λ _ _ _ _ _ _ _ _ _ _ _=>none) λ b=>qgr m a b
def jy:Nat->Z28:=qi (λ _=>none) λ m a=>qgD m a (qbd m a m)
def qez(m:Nat)(d:Z31)(c:TL):Z30 :=
 qa (za m c) λ b=>cond (Nat.beq b.length c.length) (qa (qI m b) λ a=>d a.2.1.length 0 a.2.1) none
def qer(m:Nat)(f:Z31)(c a:Int)(b:TL):Z30 :=
 cond (ilt a c) (qa (qb b a) λ e=>qa (jy m (re e)) λ d=>qa (qb b a) λ g=>f c (iw .i64 (qc a 1)) (yn b a (re d))) (some ((()),(b,())))
def JY(m:Nat):=qJ (λ _ _ _=>none) λ a=>qer m a
def qhY:Nat->(Z11->Z30):=qi (λ _=>none) λ m _=>qez m (JY m m)
def qiL(m:Nat)(d:T)(c:Int):Z32 :=
 qa (zH m (re d) c []) λ b=>qa (qhY m b.1.2.1) λ a=>some a.2.1
def qnO:Nat->(T->Int->Z32):=qi (λ _ _=>none) λ m _=>qiL m
def qlM(m:Nat)(b:T):Z32 :=
 qa (qnO m (re b) 1) λ a=>some a
def qnE:Nat->Z33:=qi (λ _=>none) λ m _=>qlM m
def qit(m:Nat)(c b:T):Z4 :=
 qa (qB m (re c) (re b)) λ a=>some (ieq a 0)
def J6:Nat->Z26:=qi (λ _ _=>none) λ m _=>qit m
def qlY(m:Nat)(a:T)(b:Y8):Z4 :=
 cond (ieq a.kind 3) (some (qy a.name b)) (some false)
def jt:Nat->(T->Y8->Z4):=qi (λ _ _=>none) λ m _=>qlY m
def qfU(m:Nat)(b:T):Z27 :=
 qa (qb b.kids 0) λ a=>let j1:Z27:=(some (re b));let j2:Z27:=(qa (qb a.kids 0) λ I=>some (re I));let j3:Z27:=(cond (qy b.name [114,101,97,100])
 (qa (jt m (re a) [115,105,103,110]) λ p=>cond p j2 j1) j1);let j4:Z27:=(qa (jt m (re a) [112,97,105,114]) λ G=>cond G (qa (qb a.kids 1) λ F=>some (re F)) j1);
 let B:Z27:=(qa (jt m (re a) [112,97,105,114]) λ J=>cond J j2 j1);cond (ilt 1 b.kids.length) (qa (qb b.kids 1) λ c =>
 cond (qy b.name [102,115,116]) B (cond (qy b.name [115,110,100]) j4 (cond (qy b.name [100,101,99]) (qa (jt m (re a) [101,110,99]) λ E=>cond E (qa (qb a.kids 1) λ D =>
 qa (J6 m (re D) (re c)) λ C=>cond C j2 j1) j1) (cond (qy b.name [97,100,101,99]) (qa (jt m (re a) [97,101,110,99]) λ A=>cond A (qa (qb a.kids 1) λ z =>
 qa (jt m (re z) [112,107]) λ y=>cond y (qa (qb a.kids 1) λ x=>qa (qb x.kids 0) λ w=>qa (J6 m (re w) (re c)) λ v=>cond v j2 j1) j1) j1)
 (cond (qy b.name [111,112,101,110]) (qa (jt m (re a) [115,105,103,110]) λ u=>cond u (qa (jt m (re c) [112,107]) λ t=>cond t (qa (qb a.kids 1) λ s =>
 qa (qb c.kids 0) λ r=>qa (J6 m (re s) (re r)) λ q=>cond q j2 j1) j1) j1) j3)))))
 (cond (qy b.name [102,115,116]) B (cond (qy b.name [115,110,100]) j4 (cond (qy b.name [100,101,99]) (qa (jt m (re a) [101,110,99]) λ o=>cond o (qa (qb a.kids 1) λ n =>
 qa (J6 m (re n) (T.mk 0 [] 0 [])) λ l=>cond l j2 j1) j1) (cond (qy b.name [97,100,101,99]) (qa (jt m (re a) [97,101,110,99]) λ k =>
 cond k (qa (qb a.kids 1) λ j=>qa (jt m (re j) [112,107]) λ i=>cond i (qa (qb a.kids 1) λ h=>qa (qb h.kids 0) λ g=>qa (J6 m (re g)
 (T.mk 0 [] 0 [])) λ f=>cond f j2 j1) j1) j1) (cond (qy b.name [111,112,101,110]) (qa (jt m (re a) [115,105,103,110]) λ e =>
 cond e (qa (jt m (T.mk 0 [] 0 []) [112,107]) λ d=>cond d (qa (qb a.kids 1) λ H=>none) j1) j1) j3)))))
def qc9:Nat->Z28:=qi (λ _=>none) λ m _=>qfU m
def yZ(m:Nat)(b:Z34)(c:Z35)(a:List TL):Z32 :=
 b a 0 a a.length 0
def yY(m:Nat)(i:Z34)(h:Z35)(c:List (TL))(b:Int)(e:List (TL))(d a:Int):Z32 :=
 cond (ilt a d) (qa (qb e a) λ f=>cond (ilt (iw .i64 (qc b f.length)) 0) none (i c (iw .i64 (qc b f.length)) e d (iw .i64 (qc a 1)))) (qa (yS 0 b) λ g =>
 h c c.length 0 g.2.1)
def ja(m:Nat)(g:Z34)(f:Z35)(d:List (TL))(c b:Int)(a:TL):Z32 :=
 cond (ilt b c) (qa (qb d b) λ e=>cond (zo (List.length a+List.length e) 56) (f d c (iw .i64 (qc b 1)) (a++e)) none) (some a)
def qp(m:Nat):=qJ ((λ _ _ _ _ _=>none,λ _ _ _ _=>none)) λ a=>(yY m a.1 a.2,ja m a.1 a.2)
def zO:Nat->((List TL)->Z32):=qi (λ _=>none) λ m _=>yZ m (qp m m).1 (qp m m).2
def qhW(m:Nat)(d:Z19)(b c:TL):Z13 :=
 cond (ilt 200 b.length) (some 3) (qa (zO m [b,c]) λ a=>d a a.length 0)
def qhv(m:Nat)(f:Z19)(c:TL)(b a:Int):Z13 :=
 cond (ilt a b) (qa (qb c a) λ e=>qa (yG m (re e)) λ d=>cond (qe (ieq d 0)) (some d) (f c b (iw .i64 (qc a 1)))) (some 0)
def qcf(m:Nat):=qJ (λ _ _ _=>none) λ a=>qhv m a
def qm1:Nat->(TL->TL->Z13):=qi (λ _ _=>none) λ m _=>qhW m (qcf m m)
def qi7(m:Nat)(c:Z36)(b a:TL):Z32 :=
 c b a []
def qjk(m:Nat)(d:Z36)(a b c:TL):Z32 :=
 let f:Z32:=(cond (zo (List.length c+List.length a) 56) (cond (zo (List.length (c++a)+List.length b) 56) (some ((c++a)++b)) none) none);cond (ilt 0 a.length) (cond (ilt 0 b.length)
 (qa (qb a 0) λ j=>qa (qb b 0) λ i=>qa (qB m (re j) (re i)) λ e=>cond (ilt e 0) (qa (qb a 0) λ h=>cond (zo (List.length c+1) 56) (cond (inb a.length a.length)
 (cond (inb 1 (Int.toNat a.length)) (d (QK a 1 a.length) b (c++[re h])) none) none) none) (cond (ilt 0 e) (qa (qb b 0) λ g=>cond (zo (List.length c+1) 56) (cond (inb b.length b.length)
 (cond (inb 1 (Int.toNat b.length)) (d a (QK b 1 b.length) (c++[re g])) none) none) none) (cond (inb a.length a.length) (cond (inb 1 (Int.toNat a.length)) (cond (inb b.length b.length)
 (cond (inb 1 (Int.toNat b.length)) (d (QK a 1 a.length) (QK b 1 b.length) c) none) none) none) none))) f) f
def qdg(m:Nat):=qJ (λ _ _ _=>none) λ a=>qjk m a
def qlS:Nat->(TL->TL->Z32):=qi (λ _ _=>none) λ m _=>qi7 m (qdg m m)
def qem(m:Nat)(a:Z33)(d:Z37)(b:T):Z32 :=
 let c:Z32:=(cond (ieq b.kind 3) (cond (qy b.name [120,111,114]) (d [] b.kids b.kids.length 0) (some [re b])) (some [re b]));cond (ieq b.kind 3) (cond (qy b.name [122,101,114,111])
 (cond (ieq b.kids.length 0) (some []) c) c) c
def qes(m:Nat)(a:Z33)(i:Z37)(e d:TL)(c b:Int):Z32 :=
 cond (ilt b c) (qa (qb d b) λ h=>qa (a (re h)) λ g=>qa (qlS m e g) λ f=>i f d c (iw .i64 (qc b 1))) (some e)
def QQ(m:Nat)(a:Z33):=qJ (λ _ _ _ _=>none) λ b=>qes m a b
def yE:Nat->Z33:=qi (λ _=>none) λ m a=>qem m a (QQ m a m)
def qen(m:Nat)(e:Z40)(d:T)(c:List Int)(b:T):Z38 :=
 qa (jy m (re d)) λ a=>e c c.length 0 b.kind b.name b.sort b.kids 0 [] 0 a.kind a.name a.sort a.kids []
def qhn(m:Nat)(t:Z40)(n:List (Int))(l c g:Int)(f:Y8)(e:Int)(d:TL)(r:Int)(q:Y8)(p k:Int)(j:Y8)(i:Int)(a h:TL):Z38 :=
 cond (ilt c l) (qa (qb n c) λ b=>cond (ilt b 0) (some (T.mk 0 [] 0 [],7)) (cond (ile a.length b) (some (T.mk 0 [] 0 [],7)) (qa (qb a b) λ s=>none)))
 (qa (jy m (T.mk g f e d)) λ o=>some (re o,0))
def qa0(m:Nat):=qJ (λ _ _ _ _ _ _ _ _ _ _ _ _ _ _ _=>none) λ a=>qhn m a
def qhD:Nat->(T->(List Int)->T->Z38):=qi (λ _ _ _=>none) λ m _=>qen m (qa0 m m)
def qkJ(m:Nat)(a:Z41)(c:Z42)(b:TL):Z32 :=
 cond (qGQ b.length 56) (c b b.length 0 (List.replicate (Int.toNat b.length) (T.mk 0 [] 0 []):TL)) none
def qkF(m:Nat)(b:Z41)(k:Z42)(h:TL)(g a:Int)(d:TL):Z32 :=
 cond (ilt a g) (qa (qb h a) λ f=>qa (qhD m (re f) [] (re f)) λ e=>qa (qb d a) λ l=>qa (b f.kids) λ j=>qa (qb (yn d a (re e.1)) a) λ c =>
 cond (ieq f.kids.length 0) (qa (qb (yn (yn d a (re e.1)) a (T.mk c.kind c.name c.sort j)) a) λ i=>k h g (iw .i64 (qc a 1))
 (yn (yn (yn d a (re e.1)) a (T.mk c.kind c.name c.sort j)) a (T.mk i.kind i.name i.sort []))) (k h g (iw .i64 (qc a 1)) (yn (yn d a (re e.1)) a (T.mk c.kind c.name c.sort j))))
 (some d)
def qe1(m:Nat)(a:Z41):=qJ (λ _ _ _ _=>none) λ b=>qkF m a b
def qap:Nat->Z41:=qi (λ _=>none) λ m a=>qkJ m a (qe1 m a m)
def qkW(m:Nat)(c:Z43)(a:TL):Z38 :=
 qa (qm1 m a []) λ b=>cond (qe (ieq b 0)) (some (T.mk 0 [] 0 [],b)) (c [] a a.length 0 0 [] 0 [])
def qkH(m:Nat)(r:Z43)(e d:TL)(c b j:Int)(i:Y8)(h:Int)(g:TL):Z38 :=
 cond (ilt b c) (qa (qb d b) λ q=>qa (yE m (re q)) λ p=>qa (qlS m e p) λ o=>r o d c (iw .i64 (qc b 1)) j i h g) (qa (qap m e) λ a=>let j1:Z38 :=
 (some (T.mk 0 [] 0 [],3));cond (ieq a.length 0) (qa (yG m (T.mk 3 [122,101,114,111] 0 [])) λ n=>cond (qe (ieq n 0)) j1 (some (T.mk 3 [122,101,114,111] 0 [],0))) (cond (ieq a.length 1)
 (qa (qb a 0) λ f=>qa (yG m (re f)) λ l=>cond (qe (ieq l 0)) j1 (some (re f,0))) (qa (yG m (T.mk 3 [120,111,114] 0 a)) λ k =>
 cond (qe (ieq k 0)) j1 (some (T.mk 3 [120,111,114] 0 a,0)))))
def qeE(m:Nat):=qJ (λ _ _ _ _ _ _ _ _=>none) λ a=>qkH m a
def qsD:Nat->(TL->Z38):=qi (λ _=>none) λ m _=>qkW m (qeE m m)
def qeD(m:Nat)(a:T):Z4 :=
 cond (ieq a.kind 3) (cond (qy a.name [109,117,108]) (some true) (cond (qy a.name [105,110,118]) (some true) (some (qy a.name [111,110,101])))) (some false)
def qcb:Nat->Z44:=qi (λ _=>none) λ m _=>qeD m
def qcE(m:Nat)(a:Z28)(d:Z45)(b:T):Z27 :=
 qa (z8 0 b.kids) λ c=>d c.2.1.length 0 b.kind b.name b.sort 0 [] 0 c.2.1 []
def qcO(m:Nat)(a:Z28)(o:Z45)(g b f:Int)(e:Y8)(d k:Int)(j:Y8)(i:Int)(c h:TL):Z27 :=
 cond (ilt b g) (qa (qb c b) λ n=>qa (a (re n)) λ l=>qa (qb c b) λ p=>o g (iw .i64 (qc b 1)) f e d k j i (yn c b (re l)) h) (some (T.mk f e d c))
def QI(m:Nat)(a:Z28):=qJ (λ _ _ _ _ _ _ _ _ _ _=>none) λ b=>qcO m a b
def zu:Nat->Z28:=qi (λ _=>none) λ m a=>qcE m a (QI m a m)
def qdz(m:Nat)(c:T × Int)(b:T):Z13 :=
 qa (qB m (re c.1) (re b)) λ a=>some a
def qaE:Nat->((T × Int)->T->Z13):=qi (λ _ _=>none) λ m _=>qdz m
def qF(m:Nat)(c:Z48)(b:List (T × Int))(a:T):Z46 :=
 c b b.length 0 b.length a.kind a.name a.sort a.kids
def qG(m:Nat)(k:Z48)(g:List (T × Int))(h a b f:Int)(e:Y8)(d:Int)(c:TL):Z46 :=
 cond (ilt a b) (qa (qb g (iw .i64 (qbG .u64 (iw .u64 (iw .i64 (qc a b))) 1))) λ j=>qa (qaE m (re j.1,j.2) (T.mk f e d c)) λ n=>cond (ilt n 0)
 (k g h (iw .i64 (qc (iw .i64 (qbG .u64 (iw .u64 (iw .i64 (qc a b))) 1)) 1)) b f e d c) (k g h a (iw .i64 (qbG .u64 (iw .u64 (iw .i64 (qc a b))) 1)) f e d c)) (cond (ilt a h)
 (qa (qb g a) λ i=>qa (qaE m (re i.1,i.2) (T.mk f e d c)) λ l=>some (a,ieq l 0)) (some (a,false)))
def qt(m:Nat):=qJ (λ _ _ _ _ _ _ _ _=>none) λ a=>qG m a
def qK:Nat->(Z47->T->Z46):=qi (λ _ _=>none) λ m _=>qF m (qt m m)
def qeI(m:Nat)(b:List (T × Int))(c:T × Int):Z49 :=
 qa (qK m b (re c.1)) λ a=>cond (qe a.2) (qa (zu m (re c.1)) λ i =>
 qa (zx 0 b a.1 [(re i,c.2)]) λ h=>some ((()),(h.2.1,()))) (qa (qb b a.1) λ e=>qa (qb b a.1) λ d =>
 qa (qb (yn b a.1 (re d.1,iw .i64 (qc e.2 c.2))) a.1) λ g=>cond (ieq g.2 0)
 (qa (zA 0 (yn b a.1 (re d.1,iw .i64 (qc e.2 c.2))) a.1 (iw .i64 (qc a.1 1))) λ f=>some ((()),(f.2.1,())))
 (some ((()),(yn b a.1 (re d.1,iw .i64 (qc e.2 c.2)),()))))
def qbX:Nat->(Z47->(T × Int)->Z49):=qi (λ _ _=>none) λ m _=>qeI m
def qbv(m:Nat)(a:Z51)(h:Z52)(e:List (T × Int))(b:T)(d:Int):Z50 :=
 qa (qcb m (re b)) λ j=>cond (qe j) (qa (qbX m e (re b,d)) λ i=>some ((()),(i.2.1,true,()))) (let c:Z50:=(some ((()),([],false,())));let j2:Z50 :=
 (let g:Z50:=(let f:Z50:=(cond (qy b.name [105,110,118]) (h (iw .i64 (zp 0 d)) b.kids b.kids.length 0 e) (h d b.kids b.kids.length 0 e));cond (qy b.name [109,117,108])
 (cond (ilt b.kids.length 2) c f) f);cond (qy b.name [105,110,118]) (cond (qe (ieq b.kids.length 1)) c g) g);cond (qy b.name [111,110,101]) (cond (qe (ieq b.kids.length 0)) c j2) j2)
def qbx(m:Nat)(a:Z51)(i:Z52)(f:Int)(e:TL)(d b:Int)(c:List (T × Int)):Z50 :=
 cond (ilt b d) (qa (qb e b) λ h=>qa (a c (re h) f) λ g=>cond (qe g.2.2.1) (some ((()),([],false,()))) (i f e d (iw .i64 (qc b 1)) g.2.1))
 (some ((()),(c,true,())))
def jq(m:Nat)(a:Z51):=qJ (λ _ _ _ _ _=>none) λ b=>qbx m a b
def zq:Nat->Z51:=qi (λ _ _ _=>none) λ m a=>qbv m a (jq m a m)
def qi0(m:Nat)(c:T):Z53 :=
 qa (yG m (re c)) λ b=>cond (qe (ieq b 0)) (some ([],b)) (qa (zq m [] (re c) 1) λ a=>cond (qe a.2.2.1) (some ([],6)) (cond (ilt 200 a.2.1.length) (some ([],3))
 (some (a.2.1,0))))
def qcd:Nat->Z54:=qi (λ _=>none) λ m _=>qi0 m
def qcB(m:Nat)(b:Z55)(a:List (T × Int)):Z13 :=
 cond (ilt 200 a.length) (some 3) (b a a a.length 0)
def qcM(m:Nat)(g:Z55)(e d:List (T × Int))(c a:Int):Z13 :=
 cond (ilt a c) (qa (qb d a) λ b=>qa (yG m (re b.1)) λ f=>cond (qe (ieq f 0)) (some f) (qa (qcb m (re b.1)) λ j=>cond j (some 1) (cond (ieq b.2 0) (some 7)
 (cond (ilt b.2 (-1000)) (some 7) (cond (ilt 1000 b.2) (some 7) (cond (ilt 0 a) (qa (qb e (iw .i64 (zp a 1))) λ i=>qa (qB m (re i.1) (re b.1)) λ h=>cond (ile 0 h) (some 5)
 (g e d c (iw .i64 (qc a 1)))) (g e d c (iw .i64 (qc a 1))))))))) (some 0)
def jZ(m:Nat):=qJ (λ _ _ _ _=>none) λ a=>qcM m a
def qaZ:Nat->Z56:=qi (λ _=>none) λ m _=>qcB m (jZ m m)
def qvX(m:Nat)(b:Y8)(a:TL):Z27 :=
 some (T.mk 3 b 0 a)
def qeK:Nat->Z57:=qi (λ _ _=>none) λ m _=>qvX m
def qdp(m:Nat)(c:Z58)(e d:Z59)(a:List (T × Int)):Z38 :=
 qa (qaZ m a) λ b=>cond (qe (ieq b 0)) (some (T.mk 0 [] 0 [],b)) (c a a.length 0 0 [] 0 [] [] [])
def qdE(m:Nat)(v:Z58)(t u:Z59)(h:List (T × Int))(g c s:Int)(r:Y8)(q:Int)(p f e:TL):Z38 :=
 let d:Z38:=(some (T.mk 0 [] 0 [],3));cond (ilt c g) (qa (qb h c) λ a =>
 cond (ilt 8 a.2) d (cond (ilt a.2 (-8)) d (t h g c a.2 0 s r q a.1.kind a.1.name a.1.sort a.1.kids a.2 p f e))) (qa (zO m [f,e]) λ b =>
 cond (ilt 8 b.length) d (qa (qeK m [109,117,108] b) λ o=>cond (ieq b.length 0) (qa (qeK m [111,110,101] []) λ n=>qa (yG m (re n)) λ l=>cond (qe (ieq l 0))
 (some (T.mk 0 [] 0 [],l)) (some (re n,0))) (cond (ieq b.length 1) (qa (qb b 0) λ k=>qa (yG m (re k)) λ j=>cond (qe (ieq j 0)) (some (T.mk 0 [] 0 [],j)) (some (re k,0)))
 (qa (yG m (re o)) λ i=>cond (qe (ieq i 0)) (some (T.mk 0 [] 0 [],i)) (some (re o,0))))))
def qdh(m:Nat)(u:Z58)(t s:Z59)(q:List (T × Int))(p o n l k:Int)(j:Y8)(i h:Int)(g:Y8)(d:Int)(c:TL)(b:Int)(f a e:TL):Z38 :=
 cond (ilt l n) (qa (zu m (T.mk h g d c)) λ r=>cond (zo (List.length a+1) 56) (t q p o n (iw .i64 (qc l 1)) k j i h g d c b f (a++[re r]) e) none)
 (s q p o (iw .i64 (zp 0 b)) 0 k j i h g d c b f a e)
def qdo(m:Nat)(u:Z58)(v t:Z59)(q:List (T × Int))(p o n l k:Int)(j:Y8)(i h:Int)(g:Y8)(e:Int)(d:TL)(f:Int)(c b a:TL):Z38 :=
 cond (ilt l n) (qa (zu m (T.mk h g e d)) λ s=>qa (qeK m [105,110,118] [re s]) λ r=>cond (zo (List.length a+1) 56)
 (t q p o n (iw .i64 (qc l 1)) k j i h g e d f c b (a++[re r])) none) (u q p (iw .i64 (qc o 1)) k j i c b a)
def qA(m:Nat):=qJ ((λ _ _ _ _ _ _ _ _ _=>none,λ _ _ _ _ _ _ _ _ _ _ _ _ _ _ _ _=>none,λ _ _ _ _ _ _ _ _ _ _ _ _ _ _ _ _=>none)) λ a=>(qdE m a.1 a.2.1 a.2.2,qdh m a.1 a.2.1 a.2.2,qdo m a.1 a.2.1 a.2.2)
def Jq:Nat->Z60:=qi (λ _=>none) λ m _=>qdp m (qA m m).1 (qA m m).2.1 (qA m m).2.2
def qca(m:Nat)(b:Z61)(a:List (T × Int)):Z49 :=
 b a a.length 0 []
def qbV(m:Nat)(g:Z61)(d:List (T × Int))(c b:Int)(a:List (T × Int)):Z49 :=
 cond (ilt b c) (qa (qb d b) λ e=>qa (zu m (re e.1)) λ f=>cond (zo (List.length a+1) 64) (g d c (iw .i64 (qc b 1)) (a++[(re f,e.2)])) none) (some ((()),(a,())))
def Qj(m:Nat):=qJ (λ _ _ _ _=>none) λ a=>qbV m a
def qd8:Nat->(Z47->Z49):=qi (λ _=>none) λ m _=>qca m (Qj m m)
def qdJ(m:Nat)(a:T × Int):Z4 :=
 cond (ilt a.2 (-1000)) (some true) (some (ilt 1000 a.2))
def qcF:Nat->((T × Int)->Z4):=qi (λ _=>none) λ m _=>qdJ m
def zF(m:Nat)(b:Z62)(a:List (T × Int)):Z13 :=
 b a a.length 0
def qZ(m:Nat)(f:Z62)(c:List (T × Int))(b a:Int):Z13 :=
 cond (ilt a b) (qa (qb c a) λ d=>qa (qcF m (re d.1,d.2)) λ e=>cond e (some a) (f c b (iw .i64 (qc a 1)))) (some (-1))
def qC(m:Nat):=qJ (λ _ _ _=>none) λ a=>qZ m a
def zV:Nat->Z56:=qi (λ _=>none) λ m _=>zF m (qC m m)
def yi(m:Nat)(b:List (T × Int)):Z4 :=
 qa (zV m b) λ a=>some (ile 0 a)
def zC:Nat->(Z47->Z4):=qi (λ _=>none) λ m _=>yi m
def qeO(m:Nat)(a:List (T × Int)):Z53 :=
 qa (zC m a) λ b=>cond b (some ([],7)) (cond (ilt 200 a.length) (some ([],3)) (some (a,0)))
def qd9:Nat->(Z47->Z53):=qi (λ _=>none) λ m _=>qeO m
def qeh(m:Nat)(f:Z63)(d a:List (T × Int)):Z53 :=
 qa (qaZ m d) λ c=>cond (qe (ieq c 0)) (some ([],c)) (qa (qaZ m a) λ b=>cond (qe (ieq b 0)) (some ([],b)) (qa (qd8 m d) λ e =>
 f a a.length 0 e.2.1))
def qex(m:Nat)(h:Z63)(d:List (T × Int))(c a:Int)(b:List (T × Int)):Z53 :=
 cond (ilt a c) (qa (qb d a) λ f=>qa (qbX m b (re f.1,f.2)) λ g=>h d c (iw .i64 (qc a 1)) g.2.1) (qa (qd9 m b) λ e=>some (e.1,e.2))
def JT(m:Nat):=qJ (λ _ _ _ _=>none) λ a=>qex m a
def qhq:Nat->Z64:=qi (λ _ _=>none) λ m _=>qeh m (JT m m)
def qzU(m:Nat)(b:Y8)(a:TL):Z27 :=
 some (T.mk 3 b 0 a)
def qhy:Nat->Z57:=qi (λ _ _=>none) λ m _=>qzU m
def qhw(m:Nat)(b l:T):Z38 :=
 qa (qcd m (re l)) λ a=>cond (qe (ieq a.2 0)) (some (T.mk 0 [] 0 [],a.2)) (qa (jt m (re b) [101,120,112]) λ k=>cond k (qa (qb b.kids 1) λ j =>
 qa (qcd m (re j)) λ f=>cond (qe (ieq f.2 0)) (some (T.mk 0 [] 0 [],f.2)) (qa (qhq m f.1 a.1) λ c=>cond (qe (ieq c.2 0)) (some (T.mk 0 [] 0 [],c.2))
 (qa (qb b.kids 0) λ h=>cond (ieq c.1.length 0) (some (re h,0)) (qa (Jq m c.1) λ e=>cond (qe (ieq e.2 0)) (some (T.mk 0 [] 0 [],e.2))
 (qa (qhy m [101,120,112] [re h,re e.1]) λ i=>some (re i,0)))))) (cond (ieq a.1.length 0) (some (re b,0)) (qa (Jq m a.1) λ d=>cond (qe (ieq d.2 0))
 (some (T.mk 0 [] 0 [],d.2)) (qa (qhy m [101,120,112] [re b,re d.1]) λ g=>some (re g,0)))))
def qhm:Nat->Z65:=qi (λ _ _=>none) λ m _=>qhw m
def qdu(m:Nat)(a:Z66)(c:Z67)(b:T):Z38 :=
 cond (qe (ieq b.kind 3)) (some (re b,0)) (c b.kids b.kids.length 0 b.kind b.name b.sort b.kids 0 [] 0 3 b.name 0 [] [])
def qdn(m:Nat)(a:Z66)(C:Z67)(s:TL)(r k z:Int)(c:Y8)(y:Int)(x:TL)(w:Int)(v:Y8)(u f:Int)(e:Y8)(d:Int)(l b:TL):Z38 :=
 cond (ilt k r) (qa (qb s k) λ B=>qa (a (re B)) λ n=>cond (qe (ieq n.2 0)) (some (T.mk 0 [] 0 [],n.2)) (cond (zo (List.length b+1) 56)
 (C s r (iw .i64 (qc k 1)) z c y x w v u f e d l (b++[re n.1])) none)) (let h:Z38:=(qa (qc9 m (T.mk f e d b)) λ A=>some (re A,0));
 cond (qy c [102,115,116]) h (cond (qy c [115,110,100]) h (cond (qy c [100,101,99]) h (cond (qy c [97,100,101,99]) h (cond (qy c [111,112,101,110]) h (cond (qy c [114,101,97,100]) h (cond (qy c [120,111,114])
 (qa (qsD m b) λ t=>some (re t.1,t.2)) (let q:Z38:=(qa (qcd m (T.mk f e d b)) λ g=>cond (qe (ieq g.2 0)) (some (T.mk 0 [] 0 [],g.2))
 (qa (Jq m g.1) λ j=>some (re j.1,j.2)));cond (qy c [109,117,108]) q (cond (qy c [105,110,118]) q (cond (qy c [111,110,101]) q (cond (qy c [101,120,112])
 (qa (qb b 0) λ p=>qa (qb b 1) λ o=>qa (qhm m (re p) (re o)) λ i=>some (re i.1,i.2)) (some (T.mk f e d b,0)))))))))))))
def Jk(m:Nat)(a:Z66):=qJ (λ _ _ _ _ _ _ _ _ _ _ _ _ _ _ _=>none) λ b=>qdn m a b
def yC:Nat->Z66:=qi (λ _=>none) λ m a=>qdu m a (Jk m a m)
def qgZ(m:Nat)(d:T):Z38 :=
 qa (qeQ m (re d)) λ c=>cond (qe (ieq c 0)) (some (T.mk 0 [] 0 [],c)) (qa (yC m (re d)) λ a=>cond (ieq a.2 0) (qa (yG m (re a.1)) λ b=>cond (qe (ieq b 0))
 (some (T.mk 0 [] 0 [],b)) (some (re a.1,0))) (cond (qe (ieq a.2 0)) (some (T.mk 0 [] 0 [],a.2)) (some (re a.1,0))))
def qgn:Nat->Z66:=qi (λ _=>none) λ m _=>qgZ m
def qfQ(m:Nat)(b:Y8):Z4 :=
 qa (qdN m b) λ a=>some (qe (ieq a.2.2.2 3))
def qe9:Nat->Z8:=qi (λ _=>none) λ m _=>qfQ m
def qas(m:Nat)(a:Z44)(c:Z68)(b:T):Z4 :=
 cond (ieq b.kind 3) (qa (qe9 m b.name) λ d=>cond (qe d) (some false) (c b.kids b.kids.length 0)) (c b.kids b.kids.length 0)
def qaq(m:Nat)(a:Z44)(g:Z68)(d:TL)(c b:Int):Z4 :=
 cond (ilt b c) (qa (qb d b) λ f=>qa (a (re f)) λ e=>cond (qe e) (some false) (g d c (iw .i64 (qc b 1)))) (some true)
def yH(m:Nat)(a:Z44):=qJ (λ _ _ _=>none) λ b=>qaq m a b
def zc:Nat->Z44:=qi (λ _=>none) λ m a=>qas m a (yH m a m)
def qhi(m:Nat)(a:T):Z4 :=
 qa (qgn m (re a)) λ b=>cond (ieq b.2 0) (qa (J6 m (re b.1) (re a)) λ d=>cond d (qa (zc m (re a)) λ c=>some c) (some false)) (some false)
def qeN:Nat->Z44:=qi (λ _=>none) λ m _=>qhi m
def qa4(m:Nat)(b:Y8 × (Int × Int))(a:T):Z69 :=
 some ((re a,()),(qy b.1 a.name,()))
def qcZ:Nat->((Y8 × (Int × Int))->T->Z69):=qi (λ _ _=>none) λ m _=>qa4 m
def qO(m:Nat)(c:Z71)(b:List (Y8 × (Int × Int)))(a:T):Z70 :=
 c b b.length 0 a.kind a.name a.sort a.kids
def qN(m:Nat)(j:Z71)(i:List (Y8 × (Int × Int)))(h b g:Int)(f:Y8)(e:Int)(d:TL):Z70 :=
 cond (ilt b h) (qa (qb i b) λ c=>qa (qcZ m (c.1,(c.2.1,c.2.2)) (T.mk g f e d)) λ a=>cond a.2.1 (some ((re a.1.1,()),(b,())))
 (j i h (iw .i64 (qc b 1)) a.1.1.kind a.1.1.name a.1.1.sort a.1.1.kids)) (some ((T.mk g f e d,()),((-1),())))
def qv(m:Nat):=qJ (λ _ _ _ _ _ _ _=>none) λ a=>qN m a
def q9:Nat->((List (Y8 × (Int × Int)))->T->Z70):=qi (λ _ _=>none) λ m _=>qO m (qv m m)
def qd3(m:Nat):Z72 :=
 some [([112,97,105,114],(2,2)),([101,110,99],(2,2)),([97,101,110,99],(2,2)),([112,107],(1,1)),([115,105,103,110],(2,2)),([104,97,115,104],(1,1)),([120,111,114],(2,8)),([122,101,114,111],(0,0)),([101,120,112],(2,2)),([109,117,108],(2,8)),([105,110,118],(1,1)),([111,110,101],(0,0)),([115,107],(1,1)),([115,104,107],(2,2)),([110,101,119],(1,8))]
def ym:Nat->(Z72):=qi (none) λ m _=>qd3 m
def QC(m:Nat)(a:Y8 × (Int × Int)):Z4 :=
 some (qe (ieq a.2.1 a.2.2))
def yx:Nat->((Y8 × (Int × Int))->Z4):=qi (λ _=>none) λ m _=>QC m
def qcL(m:Nat)(a:Z74)(f:Z75)(d:List (Int))(c:T):Z73 :=
 cond (qe (ieq c.kind 3)) (cond (zo (List.length d+2) 1) (cond (zo (List.length (d++[iw .u8 c.sort,iw .u8 c.name.length])+List.length (Qv c.name)) 1)
 (some ((()),((d++[iw .u8 c.sort,iw .u8 c.name.length])++(Qv c.name),()))) none) none) (qa (ym m) λ i =>
 qa (q9 m i (re c)) λ b=>cond (zo (List.length d+1) 1) (qa (ym m) λ h=>qa (qb h b.2.1) λ e =>
 qa (yx m (e.1,(e.2.1,e.2.2))) λ g=>cond g (cond (zo (List.length (d++[iw .u8 (iw .i64 (qc 16 b.2.1))])+1) 1)
 (f b.1.1.kids b.1.1.kids.length 0 ((d++[iw .u8 (iw .i64 (qc 16 b.2.1))])++[iw .u8 b.1.1.kids.length])) none) (f b.1.1.kids b.1.1.kids.length 0 (d++[iw .u8 (iw .i64 (qc 16 b.2.1))]))) none)
def qcz(m:Nat)(a:Z74)(h:Z75)(e:TL)(d b:Int)(c:List (Int)):Z73 :=
 cond (ilt b d) (qa (qb e b) λ g=>qa (a c (re g)) λ f=>h e d (iw .i64 (qc b 1)) f.2.1) (some ((()),(c,())))
def jX(m:Nat)(a:Z74):=qJ (λ _ _ _ _=>none) λ b=>qcz m a b
def zW:Nat->Z74:=qi (λ _ _=>none) λ m a=>qcL m a (jX m a m)
def qeV(m:Nat)(a:T):Z76 :=
 qa (qeQ m (re a)) λ b=>cond (qe (ieq b 0)) (some ([],b)) (qa (qnE m (re a)) λ e=>cond (ilt 0 e.length) (some ([],13)) (qa (qeN m (re a)) λ d=>cond (qe d)
 (some ([],10)) (qa (zW m [] (re a)) λ c=>some (zJ c.2.1,0))))
def qed:Nat->(T->Z76):=qi (λ _=>none) λ m _=>qeV m
def qce(m:Nat)(b:(Int) × (List (Int × (Int × (Y8 × Bool)))) × Unit)(a:Int × (Int × (Y8 × Bool))):Z77 :=
 cond (ile 400 b.2.1.length) (some (((b.1,b.2.1,()),()),(0,3,()))) (cond (zo (List.length b.2.1+1) 40)
 (some (((b.1,b.2.1++[(a.1,(a.2.1,(a.2.2.1,a.2.2.2)))],()),()),(iw .i64 (zp (List.length (b.2.1++[(a.1,(a.2.1,(a.2.2.1,a.2.2.2)))])) 1),0,()))) none)
def JJ:Nat->(Z3->(Int × (Int × (Y8 × Bool)))->Z77):=qi (λ _ _=>none) λ m _=>qce m
def qgk(m:Nat)(b:Z78)(a:Y8):Z13 :=
 b a 1 0 a.length 0
def qgF(m:Nat)(g:Z78)(e:Y8)(b d c a:Int):Z13 :=
 cond (ilt a c) (qa (qb e a) λ f=>g e (yg (iw .u32 (qc b (iw .u32 ((UInt8.toNat f:Nat):Int)))) 65521)
 (yg (iw .u32 (qc d (yg (iw .u32 (qc b (iw .u32 ((UInt8.toNat f:Nat):Int)))) 65521))) 65521) c (iw .i64 (qc a 1))) (some (qmk .or .u32 (qxR .u32 d 16) b))
def qbf(m:Nat):=qJ (λ _ _ _ _ _=>none) λ a=>qgF m a
def qkU:Nat->Z79:=qi (λ _=>none) λ m _=>qgk m (qbf m m)
def ql9(m:Nat)(b:Y8):Z80 :=
 qa (qkU m b) λ a=>cond (qgG (zJ [iw .u8 (qbG .u32 a 24),iw .u8 (qbG .u32 a 16),iw .u8 (qbG .u32 a 8),iw .u8 a]) b)
 (some ((zJ [iw .u8 (qbG .u32 a 24),iw .u8 (qbG .u32 a 16),iw .u8 (qbG .u32 a 8),iw .u8 a])++b)) none
def qjI:Nat->(Y8->Z80):=qi (λ _=>none) λ m _=>ql9 m
def qbH(m:Nat)(g:(Int) × (List (Int × (Int × (Y8 × Bool)))) × Unit)(f e:Int)(i:T):Z77 :=
 qa (QR m (g.1,g.2.1,()) f) λ b=>cond (qe b.2.1) (some (((b.1.1.1,b.1.1.2.1,()),()),(0,7,()))) (qa (QR m (b.1.1.1,b.1.1.2.1,()) e) λ a =>
 cond (qe a.2.1) (some (((a.1.1.1,a.1.1.2.1,()),()),(0,7,()))) (cond (ile 400 a.1.1.2.1.length) (some (((a.1.1.1,a.1.1.2.1,()),()),(0,3,()))) (qa (qed m (re i)) λ d =>
 cond (qe (ieq d.2 0)) (some (((a.1.1.1,a.1.1.2.1,()),()),(0,d.2,()))) (qa (qjI m d.1) λ h=>qa (JJ m (a.1.1.1,a.1.1.2.1,()) (f,(e,(h,true)))) λ c =>
 some (((c.1.1.1,c.1.1.2.1,()),()),(c.2.1,c.2.2.1,()))))))
def Ji:Nat->Z81:=qi (λ _ _ _ _=>none) λ m _=>qbH m
def qau(m:Nat)(a:(Int) × (List (Int × (Int × (Y8 × Bool)))) × Unit)(b:Int):Z82 :=
 cond (ilt b 0) (some (((a.1,a.2.1,()),()),(none,4,()))) (cond (ile a.2.1.length b) (some (((a.1,a.2.1,()),()),(none,4,()))) (qa (qb a.2.1 b) λ c=>cond (qe c.2.2.2)
 (some (((a.1,a.2.1,()),()),(none,9,()))) (qa (qb a.2.1 b) λ d=>some (((a.1,a.2.1,()),()),(some b,0,())))))
def jv:Nat->(Z3->Int->Z82):=qi (λ _ _=>none) λ m _=>qau m
def qbi(m:Nat)(e:(Int) × (List (Int × (Int × (Y8 × Bool)))) × Unit)(g c f:Int):Z83 :=
 qa (jv m (e.1,e.2.1,()) g) λ a=>let j1:Z83:=(some (((a.1.1.1,a.1.1.2.1,()),()),(7,())));qkw a.2.1 (cond (qe (ieq a.2.2.1 0))
 (some (((a.1.1.1,a.1.1.2.1,()),()),(a.2.2.1,()))) (cond (ilt c 0) j1 none)) λ d=>qa (qb a.1.1.2.1 d) λ b=>cond (qe (ieq a.2.2.1 0)) (some (((a.1.1.1,a.1.1.2.1,()),()),(a.2.2.1,())))
 (cond (ilt c 0) j1 (cond (ile b.2.2.1.length c) j1 (qa (qb (Qv b.2.2.1) c) λ h =>
 some (((a.1.1.1,yn a.1.1.2.1 d (b.1,(b.2.1,(zJ (yn (Qv b.2.2.1) c f),b.2.2.2))),()),()),(0,())))))
def QX:Nat->Z84:=qi (λ _ _ _ _=>none) λ m _=>qbi m
def qlT(m:Nat)(a:Y8):Z76 :=
 cond (ilt a.length 4) (some ([],2)) (cond (inb a.length a.length) (cond (inb 4 (Int.toNat a.length)) (qa (qjI m (QK a 4 a.length)) λ b=>cond (qe (qy b a)) (some ([],19))
 (cond (inb a.length a.length) (cond (inb 4 (Int.toNat a.length)) (some (QK a 4 a.length,0)) none) none)) none) none)
def qmV:Nat->(Y8->Z76):=qi (λ _=>none) λ m _=>qlT m
def qbB(m:Nat)(a:Y8 × (Int × Bool))(c g:Int):Z85 :=
 let b:Z85:=(some (((a.1,(a.2.1,true)),()),(c,())));cond a.2.2 b (cond (ile a.1.length a.2.1) b (qa (qb a.1 a.2.1) λ f =>
 cond (ilt (iw .i64 ((UInt8.toNat f:Nat):Int)) c) b (qa (qb a.1 a.2.1) λ e =>
 cond (ilt g (iw .i64 ((UInt8.toNat e:Nat):Int))) b (qa (qb a.1 (iw .i64 (zp (iw .i64 (qc a.2.1 1)) 1))) λ d =>
 some (((a.1,(iw .i64 (qc a.2.1 1),a.2.2)),()),(iw .i64 ((UInt8.toNat d:Nat):Int),()))))))
def zg:Nat->(Z86->Int->Int->Z85):=qi (λ _ _ _=>none) λ m _=>qbB m
def JI(m:Nat)(c:Z88)(b:Y8 × (Int × Bool)):Z87 :=
 qa (zg m (b.1,(b.2.1,b.2.2)) 1 24) λ a=>c a.1.1.2.1 a.2.1 0 a.1.1.1 a.1.1.2.1 a.1.1.2.2
def Qg(m:Nat)(l:Z88)(g h f:Int)(c:Y8)(a:Int)(e:Bool):Z87 :=
 cond (ilt f h) (let d:Z87:=(some (((c,(a,true)),()),([],())));cond e d (cond (ile c.length a) d (qa (qb c a) λ b=>let j2:Z87 :=
 (l g h (iw .i64 (qc f 1)) c (iw .i64 (qc a 1)) e);let k:Z87:=(let j:Z87:=(cond (ieq f 0) d (let i:Z87:=(cond (qe (ieq ((UInt8.toNat b:Nat):Int) 95))
 (cond (qe (ieq ((UInt8.toNat b:Nat):Int) 35)) d j2) j2);cond (ilt ((UInt8.toNat b:Nat):Int) 48) i (cond (ilt 57 ((UInt8.toNat b:Nat):Int)) i j2)));cond (ile 65 ((UInt8.toNat b:Nat):Int))
 (cond (qe (ile ((UInt8.toNat b:Nat):Int) 90)) j j2) j);cond (ile 97 ((UInt8.toNat b:Nat):Int)) (cond (ile ((UInt8.toNat b:Nat):Int) 122) j2 k) k))) (cond (inb a c.length)
 (cond (inb g (Int.toNat a)) (some (((c,(a,e)),()),(QK c g a,()))) none) none)
def yf(m:Nat):=qJ (λ _ _ _ _ _ _=>none) λ a=>Qg m a
def Ja:Nat->(Z86->Z87):=qi (λ _=>none) λ m _=>JI m (yf m m)
def Qh(m:Nat)(a:Y8 × (Int × Bool)):Z89 :=
 let g:Z89:=(qa (ym m) λ j=>qa (ym m) λ i=>qa (zg m (a.1,(a.2.1,a.2.2)) 16 (iw .i64 (zp (iw .i64 (qc 16 i.length)) 1))) λ c =>
 qa (qb j (iw .i64 (zp c.2.1 16))) λ b=>qa (yx m (b.1,(b.2.1,b.2.2))) λ h =>
 cond h (qa (zg m (c.1.1.1,(c.1.1.2.1,c.1.1.2.2)) b.2.1 b.2.2) λ d=>some (((d.1.1.1,(d.1.1.2.1,d.1.1.2.2)),()),((3,b.1,0,[],d.2.1,()),())))
 (some (((c.1.1.1,(c.1.1.2.1,c.1.1.2.2)),()),((3,b.1,0,[],b.2.1,()),()))));cond (ilt a.2.1 a.1.length) (qa (qb a.1 a.2.1) λ k=>cond (ile ((UInt8.toNat k:Nat):Int) 5)
 (qa (zg m (a.1,(a.2.1,a.2.2)) 0 5) λ f=>qa (Ja m (f.1.1.1,(f.1.1.2.1,f.1.1.2.2))) λ e =>
 some (((e.1.1.1,(e.1.1.2.1,e.1.1.2.2)),()),((2,e.2.1,f.2.1,[],0,()),()))) g) g
def qx:Nat->(Z86->Z89):=qi (λ _=>none) λ m _=>Qh m
def jx:Nat->Val RD->Option ((Val RD × Unit) × (T × Unit)):=qi (λ _=>none) λ m _=>qpN (qx m) m
def qeF(m:Nat)(b:Y8):Z90 :=
 qa (jx m (b,(0,false))) λ a=>cond a.1.1.2.2 (some (T.mk 0 [] 0 [],a.1.1.2.1,2)) (cond (qe (ieq a.1.1.2.1 b.length)) (some (T.mk 0 [] 0 [],a.1.1.2.1,2))
 (qa (yG m (re a.2.1)) λ d=>cond (ieq d 3) (some (T.mk 0 [] 0 [],0,3)) (qa (qeN m (re a.2.1)) λ c=>cond (qe c) (some (T.mk 0 [] 0 [],0,10)) (some (re a.2.1,0,0)))))
def qeg:Nat->Z91:=qi (λ _=>none) λ m _=>qeF m
def qaB(m:Nat)(f:(Int) × (List (Int × (Int × (Y8 × Bool)))) × Unit)(k:Int):Z92 :=
 qa (jv m (f.1,f.2.1,()) k) λ b=>qkw b.2.1 (cond (qe (ieq b.2.2.1 0)) (some (((b.1.1.1,b.1.1.2.1,()),()),(T.mk 0 [] 0 [],0,b.2.2.1,()))) none) λ c =>
 qa (qb b.1.1.2.1 c) λ a=>cond (qe (ieq b.2.2.1 0)) (some (((b.1.1.1,b.1.1.2.1,()),()),(T.mk 0 [] 0 [],0,b.2.2.1,())))
 (qa (qb (yn b.1.1.2.1 c (a.1,(a.2.1,(a.2.2.1,false)))) c) λ j=>qa (qmV m j.2.2.1) λ e=>cond (qe (ieq e.2 0))
 (qa (qb (yn b.1.1.2.1 c (a.1,(a.2.1,(a.2.2.1,false)))) c) λ i=>some (((b.1.1.1,yn b.1.1.2.1 c (a.1,(a.2.1,(a.2.2.1,false))),()),()),(T.mk 0 [] 0 [],i.2.1,e.2,())))
 (qa (qeg m e.1) λ d=>cond (qe (ieq d.2.2 0)) (qa (qb (yn b.1.1.2.1 c (a.1,(a.2.1,(a.2.2.1,false)))) c) λ h =>
 some (((b.1.1.1,yn b.1.1.2.1 c (a.1,(a.2.1,(a.2.2.1,false))),()),()),(T.mk 0 [] 0 [],h.2.1,d.2.2,()))) (qa (qb (yn b.1.1.2.1 c (a.1,(a.2.1,(a.2.2.1,false)))) c) λ g =>
 some (((b.1.1.1,yn b.1.1.2.1 c (a.1,(a.2.1,(a.2.2.1,false))),()),()),(re d.1,g.2.1,0,())))))
def ju:Nat->Z93:=qi (λ _ _=>none) λ m _=>qaB m
def qhM(m:Nat)(b a:Int):Z13 :=
 cond (ilt b a) (some (-1)) (cond (ilt a b) (some 1) (some 0))
def qa8:Nat->(Int->Int->Z13):=qi (λ _ _=>none) λ m _=>qhM m
def qgy(m:Nat)(a:Z14)(c:Z94)(b:T):Z13 :=
 c 1 0 b.kind b.name b.sort b.kids
def qgH(m:Nat)(a:Z14)(j:Z94)(d c g:Int)(f:Y8)(e:Int)(b:TL):Z13 :=
 cond (ilt c b.length) (qa (qb b c) λ i=>qa (a (re i)) λ h=>j (iw .i64 (qc d h)) (iw .i64 (qc c 1)) g f e b) (some d)
def qa9(m:Nat)(a:Z14):=qJ (λ _ _ _ _ _ _=>none) λ b=>qgH m a b
def yV:Nat->Z14:=qi (λ _=>none) λ m a=>qgy m a (qa9 m a m)
def qdB(m:Nat)(a:Z24)(j:Z95)(c b:T):Z13 :=
 qa (yV m (re c)) λ i=>qa (yV m (re b)) λ h=>qa (qa8 m i h) λ g=>cond (qe (ieq g 0)) (some g) (qa (qa8 m c.kind b.kind) λ f =>
 cond (qe (ieq f 0)) (some f) (cond (slt c.name b.name) (some (-1)) (cond (qe (qrI (slt c.name b.name) (qy c.name b.name))) (some 1) (qa (qa8 m c.sort b.sort) λ e=>cond (qe (ieq e 0))
 (some e) (qa (qa8 m c.kids.length b.kids.length) λ d=>cond (qe (ieq d 0)) (some d) (j 0 c.kind c.name c.sort c.kids b.kind b.name b.sort b.kids))))))
def qdj(m:Nat)(a:Z24)(o:Z95)(b k:Int)(j:Y8)(i:Int)(c:TL)(h:Int)(g:Y8)(f:Int)(d:TL):Z13 :=
 cond (ilt b c.length) (qa (qb c b) λ n=>qa (qb d b) λ l=>qa (a (re n) (re l)) λ e=>cond (qe (ieq e 0)) (some e) (o (iw .i64 (qc b 1)) k j i c h g f d))
 (some 0)
def Jf(m:Nat)(a:Z24):=qJ (λ _ _ _ _ _ _ _ _ _=>none) λ b=>qdj m a b
def zK:Nat->Z24:=qi (λ _ _=>none) λ m a=>qdB m a (Jf m a m)
def qj3(m:Nat)(c b:T):Z4 :=
 qa (zK m (re c) (re b)) λ a=>some (ieq a 0)
def Jh:Nat->Z26:=qi (λ _ _=>none) λ m _=>qj3 m
def qaP(m:Nat)(a:(Int) × (List (Int × (Int × (Y8 × Bool)))) × Unit)(d:Int):Z77 :=
 cond (ilt d 0) (some (((a.1,a.2.1,()),()),(0,4,()))) (cond (ile a.2.1.length d) (some (((a.1,a.2.1,()),()),(0,4,()))) (qa (qb a.2.1 d) λ c=>qa (JJ m (a.1,a.2.1,())
 (c.1,(c.2.1,(c.2.2.1,true)))) λ b=>some (((b.1.1.1,b.1.1.2.1,()),()),(b.2.1,b.2.2.1,()))))
def Qs:Nat->Z96:=qi (λ _ _=>none) λ m _=>qaP m
def qzZ(m:Nat)(b:Y8)(a:Int):Z27 :=
 some (T.mk 2 b a [])
def qvo:Nat->(Y8->Int->Z27):=qi (λ _ _=>none) λ m _=>qzZ m
def qyx(m:Nat)(b:Y8):Z27 :=
 qa (qvo m b 1) λ a=>some (re a)
def qtp:Nat->(Y8->Z27):=qi (λ _=>none) λ m _=>qyx m
def qxD(m:Nat):Z4 :=
 qa (qgc m 2) λ f=>let j1:Z4:=(some false);qkw f.2.1 (cond (qe (ieq f.2.2.1 0)) j1 j1) λ h=>cond (qe (ieq f.2.2.1 0)) j1 (qa (qtp m [97]) λ g =>
 qa (Ji m (h.1,h.2.1,()) 0 1 (re g)) λ c=>qa (Qs m (c.1.1.1,c.1.1.2.1,()) 0) λ b=>qa (QX m (b.1.1.1,b.1.1.2.1,()) 0 5 0) λ e =>
 qa (ju m (e.1.1.1,e.1.1.2.1,()) 0) λ a=>qa (ju m (a.1.1.1,a.1.1.2.1,()) 1) λ d=>cond (ieq c.2.2.1 0) (cond (ieq b.2.2.1 0) (cond (ieq e.2.1 0)
 (cond (ieq c.2.1 0) (cond (ieq b.2.1 1) (cond (ieq a.2.2.1 1) (cond (ieq a.2.2.2.1 19) (cond (ieq d.2.2.1 1) (cond (ieq d.2.2.2.1 0) (qa (Jh m (re d.2.1) (re g)) λ i =>
 some i) j1) j1) j1) j1) j1) j1) j1) j1) j1)
def qgb:Nat->(Z4):=qi (none) λ m _=>qxD m
def qeu(m:Nat)(a:Z97)(d:Z94)(b:T)(c:Int):Z13 :=
 cond (ile c 0) (some (-1)) (cond (ilt 40 b.name.length) (some (-1)) (d (iw .i64 (zp c 1)) 0 b.kind b.name b.sort b.kids))
def qea(m:Nat)(a:Z97)(j:Z94)(d c h:Int)(g:Y8)(f:Int)(b:TL):Z13 :=
 cond (ilt c b.length) (qa (qb b c) λ i=>qa (a (re i) d) λ e=>cond (ilt e 0) (some (-1)) (j e (iw .i64 (qc c 1)) h g f b)) (some d)
def JZ(m:Nat)(a:Z97):=qJ (λ _ _ _ _ _ _=>none) λ b=>qea m a b
def jc:Nat->Z97:=qi (λ _ _=>none) λ m a=>qeu m a (JZ m a m)
def qhG(m:Nat)(d:Z68)(a:TL)(c b:Int):Z4 :=
 cond (ilt c a.length) (some false) (d a b 0)
def qho(m:Nat)(f:Z68)(b:TL)(d a:Int):Z4 :=
 cond (ilt a b.length) (qa (qb b a) λ e=>qa (jc m (re e) d) λ c=>cond (ilt c 0) (some false) (f b c (iw .i64 (qc a 1)))) (some true)
def qct(m:Nat):=qJ (λ _ _ _=>none) λ a=>qho m a
def qm8:Nat->(TL->Int->Int->Z4):=qi (λ _ _ _=>none) λ m _=>qhG m (qct m m)
def qh6(m:Nat)(b:Z99)(a:List (Int × (Int × (Int × (Int × (T × Int)))))):Z4 :=
 b a 0 []
def qh0(m:Nat)(f:Z99)(c:List (Int × (Int × (Int × (Int × (T × Int))))))(b:Int)(a:TL):Z4 :=
 cond (ilt b c.length) (qa (qb c b) λ e=>cond (zo (List.length a+1) 56) (f c (iw .i64 (qc b 1)) (a++[re e.2.2.2.2.1])) none) (qa (qm8 m a 60 2000) λ d=>some d)
def qch(m:Nat):=qJ (λ _ _ _=>none) λ a=>qh0 m a
def qm0:Nat->(Z98->Z4):=qi (λ _=>none) λ m _=>qh6 m (qch m m)
def qlz(m:Nat)(a:Int):qN6 :=
 cond (ilt a 1) (some ((()),((0,[],()),7,()))) (cond (ilt 16 a) (some ((()),((0,[],()),7,()))) (some ((()),((a,[],()),0,()))))
def qjC:Nat->(Int->qN6):=qi (λ _=>none) λ m _=>qlz m
def qbc(m:Nat)(a:(Int) × (List (Int × (Int × (Y8 × Bool)))) × Unit)(b:Int):qLP :=
 cond (ilt b 0) (some (((a.1,a.2.1,()),()),([],4,()))) (cond (ile a.2.1.length b) (some (((a.1,a.2.1,()),()),([],4,()))) (qa (qb a.2.1 b) λ c =>
 some (((a.1,a.2.1,()),()),(c.2.2.1,0,()))))
def qan:Nat->qNN:=qi (λ _ _=>none) λ m _=>qbc m
def qfo(m:Nat)(a:Z14)(c:Z94)(b:T):Z13 :=
 c 0 0 b.kind b.name b.sort b.kids
def qfv(m:Nat)(a:Z14)(j:Z94)(d c g:Int)(f:Y8)(e:Int)(b:TL):Z13 :=
 cond (ilt c b.length) (qa (qb b c) λ i=>qa (a (re i)) λ h=>j (qn1 d h) (iw .i64 (qc c 1)) g f e b) (some (iw .i64 (qc d 1)))
def qav(m:Nat)(a:Z14):=qJ (λ _ _ _ _ _ _=>none) λ b=>qfv m a b
def jh:Nat->Z14:=qi (λ _=>none) λ m a=>qfo m a (qav m a m)
def qhu(m:Nat)(a:Int):Z4 :=
 let b:Z4:=(cond (ile 65 a) (some (ile a 90)) (some false));cond (ile 97 a) (cond (ile a 122) (some true) b) b
def qe6:Nat->Z5:=qi (λ _=>none) λ m _=>qhu m
def qiE(m:Nat)(a:Int):Z4 :=
 cond (ile 48 a) (some (ile a 57)) (some false)
def qjg:Nat->Z5:=qi (λ _=>none) λ m _=>qiE m
def qeq(m:Nat)(d:qOi)(a:Y8):Z4 :=
 cond (ieq a.length 0) (some false) (cond (ilt 24 a.length) (some false) (qa (qb a 0) λ c=>qa (qe6 m ((UInt8.toNat c:Nat):Int)) λ b=>cond (qe b) (some false) (d a 0)))
def qej(m:Nat)(i:qOi)(b:Y8)(a:Int):Z4 :=
 cond (ilt a b.length) (qa (qb b a) λ h=>qa (qe6 m ((UInt8.toNat h:Nat):Int)) λ g=>let j1:Z4:=(i b (iw .i64 (qc a 1)));cond (qe g) (qa (qb b a) λ f =>
 qa (qjg m ((UInt8.toNat f:Nat):Int)) λ e=>cond (qe e) (qa (qb b a) λ d=>cond (qe (ieq ((UInt8.toNat d:Nat):Int) 95)) (qa (qb b a) λ c =>
 cond (qe (ieq ((UInt8.toNat c:Nat):Int) 35)) (some false) j1) j1) j1) j1) (some true)
def JQ(m:Nat):=qJ (λ _ _=>none) λ a=>qej m a
def qak:Nat->Z8:=qi (λ _=>none) λ m _=>qeq m (JQ m m)
def qjP(m:Nat)(a:T):Z13 :=
 let d:Z13:=(qa (qak m a.name) λ e=>cond (qe e) (some 2) (cond (ilt 8 a.kids.length) (some 3) (some 0)));let j2:Z13:=(cond (ilt 0 a.kids.length) (some 1) d);cond (ieq a.kind 1)
 (cond (ilt a.sort 0) (some 1) (cond (ilt 5 a.sort) (some 1) j2)) (let c:Z13:=(cond (ilt a.sort 0) (some 1) (cond (ilt 5 a.sort) (some 1) (let b:Z13:=(cond (ieq a.kind 2) j2 d);
 cond (qe (ieq a.kind 2)) (cond (qe (ieq a.sort 0)) (some 1) b) b)));cond (qe (ieq a.kind 2)) (cond (qe (ieq a.kind 3)) (some 1) c) c)
def qky:Nat->Z14:=qi (λ _=>none) λ m _=>qjP m
def qfa(m:Nat)(a:Z14)(d:qGE)(b:T):Z13 :=
 qa (qky m (re b)) λ c=>cond (qe (ieq c 0)) (some c) (d 0 b.kind b.name b.sort b.kids)
def qfc(m:Nat)(a:Z14)(i:qGE)(c g:Int)(f:Y8)(e:Int)(b:TL):Z13 :=
 cond (ilt c b.length) (qa (qb b c) λ h=>qa (a (re h)) λ d=>cond (qe (ieq d 0)) (some d) (i (iw .i64 (qc c 1)) g f e b)) (some 0)
def qax(m:Nat)(a:Z14):=qJ (λ _ _ _ _ _=>none) λ b=>qfc m a b
def jL:Nat->Z14:=qi (λ _=>none) λ m a=>qfa m a (qax m a m)
def qiN(m:Nat)(a:T):Z13 :=
 qa (jL m (re a)) λ b=>cond (qe (ieq b 0)) (some b) (qa (yV m (re a)) λ d=>cond (ilt 400 d) (some 3) (qa (jh m (re a)) λ c=>cond (ilt 40 c) (some 3) (some 0)))
def jo:Nat->Z14:=qi (λ _=>none) λ m _=>qiN m
def qul(m:Nat):qOb :=
 some [([112,97,105,114],(2,(2,1))),([101,110,99],(2,(2,1))),([97,101,110,99],(2,(2,1))),([112,107],(1,(1,1))),([115,105,103,110],(2,(2,1))),([104,97,115,104],(1,(1,1))),([120,111,114],(2,(8,1))),([122,101,114,111],(0,(0,1))),([101,120,112],(2,(2,1))),([109,117,108],(2,(8,1))),([105,110,118],(1,(1,1))),([111,110,101],(0,(0,1))),([115,107],(1,(1,2))),([115,104,107],(2,(2,2))),([110,101,119],(1,(8,2))),([102,115,116],(1,(1,3))),([115,110,100],(1,(1,3))),([100,101,99],(2,(2,3))),([97,100,101,99],(2,(2,3))),([111,112,101,110],(2,(2,3))),([114,101,97,100],(1,(1,3)))]
def qgA:Nat->(qOb):=qi (none) λ m _=>qul m
def qgm(m:Nat)(c:qOc)(b:Y8):Z13 :=
 qa (qgA m) λ a=>c b a 0
def qgq(m:Nat)(f:qOc)(c:Y8)(b:List (Y8 × (Int × (Int × Int))))(a:Int):Z13 :=
 cond (ilt a b.length) (qa (qb b a) λ e=>cond (qy e.1 c) (qa (qb b a) λ d=>some d.2.2.2) (f c b (iw .i64 (qc a 1)))) (some 0)
def qbp(m:Nat):=qJ (λ _ _ _=>none) λ a=>qgq m a
def qfb:Nat->Z79:=qi (λ _=>none) λ m _=>qgm m (qbp m m)
def qgI(m:Nat)(c:qOT)(a:T):Z4 :=
 qa (qgA m) λ b=>c b 0 a.kind a.name a.sort a.kids
def qgt(m:Nat)(j:qOT)(b:List (Y8 × (Int × (Int × Int))))(a f:Int)(d:Y8)(e:Int)(c:TL):Z4 :=
 cond (ilt a b.length) (qa (qb b a) λ i=>cond (qy i.1 d) (qa (qb b a) λ h=>cond (ile h.2.1 c.length) (qa (qb b a) λ g=>some (ile c.length g.2.2.1)) (some false))
 (j b (iw .i64 (qc a 1)) f d e c)) (some false)
def qbk(m:Nat):=qJ (λ _ _ _ _ _ _=>none) λ a=>qgt m a
def qkQ:Nat->Z44:=qi (λ _=>none) λ m _=>qgI m (qbk m m)
def qeo(m:Nat)(c:qNw)(a:T):Z4 :=
 cond (qy a.name [110,101,119]) (qa (qb a.kids 0) λ b=>some (ieq b.kind 2)) (c 0 a.kind a.name a.sort a.kids)
def qee(m:Nat)(h:qNw)(b e:Int)(d:Y8)(c:Int)(a:TL):Z4 :=
 cond (ilt b a.length) (qa (qb a b) λ g=>cond (ieq g.kind 3) (some false) (qa (qb a b) λ f=>cond (qe (ieq f.sort 1)) (some false) (h (iw .i64 (qc b 1)) e d c a))) (some true)
def JR(m:Nat):=qJ (λ _ _ _ _ _=>none) λ a=>qee m a
def qhh:Nat->Z44:=qi (λ _=>none) λ m _=>qeo m (JR m m)
def qfG(m:Nat)(b:Z14)(d:qGE)(a:T):Z13 :=
 cond (qe (ieq a.kind 3)) (some 0) (qa (qfb m a.name) λ c=>cond (ieq c 0) (some 10) (qa (qkQ m (re a)) λ f=>cond (qe f) (some 6) (cond (ieq c 2)
 (qa (qhh m (re a)) λ e=>cond (qe e) (some 10) (d 0 a.kind a.name a.sort a.kids)) (d 0 a.kind a.name a.sort a.kids))))
def qfx(m:Nat)(a:Z14)(i:qGE)(c g:Int)(f:Y8)(e:Int)(b:TL):Z13 :=
 cond (ilt c b.length) (qa (qb b c) λ h=>qa (a (re h)) λ d=>cond (qe (ieq d 0)) (some d) (i (iw .i64 (qc c 1)) g f e b)) (some 0)
def Ju(m:Nat)(a:Z14):=qJ (λ _ _ _ _ _=>none) λ b=>qfx m a b
def jl:Nat->Z14:=qi (λ _=>none) λ m a=>qfG m a (Ju m a m)
def qiQ(m:Nat)(b:T):Z13 :=
 qa (jo m (re b)) λ a=>cond (qe (ieq a 0)) (some a) (qa (jl m (re b)) λ c=>some c)
def qdW:Nat->Z14:=qi (λ _=>none) λ m _=>qiQ m
def qij(m:Nat)(a:Z33)(c:qO7)(b:T):Z32 :=
 c 0 b.kind b.name b.sort b.kids [re b]
def qh5(m:Nat)(a:Z33)(j:qO7)(d h:Int)(g:Y8)(f:Int)(c b:TL):Z32 :=
 cond (ilt d c.length) (qa (qb c d) λ i=>qa (a (re i)) λ e=>cond (zo (List.length b+List.length e) 56) (j (iw .i64 (qc d 1)) h g f c (b++e)) none) (some b)
def qcs(m:Nat)(a:Z33):=qJ (λ _ _ _ _ _ _=>none) λ b=>qh5 m a b
def Ql:Nat->Z33:=qi (λ _=>none) λ m a=>qij m a (qcs m a m)
def qhr(m:Nat)(c:qOj)(b:TL)(a:T):Z32 :=
 c b false 0 a.kind a.name a.sort a.kids []
def qid(m:Nat)(i:qOj)(c:TL)(h:Bool)(b g:Int)(f:Y8)(e:Int)(d a:TL):Z32 :=
 cond (ilt b c.length) (qa (qb c b) λ o=>qa (zK m (T.mk g f e d) (re o)) λ j=>let j1:Z32:=(qa (qb c b) λ k=>cond (zo (List.length a+1) 56)
 (i c h (iw .i64 (qc b 1)) g f e d (a++[re k])) none);cond (qe h) (cond (ile j 0) (cond (ilt j 0) (cond (zo (List.length a+1) 56) (qa (qb c b) λ n =>
 cond (zo (List.length (a++[T.mk g f e d])+1) 56) (i c true (iw .i64 (qc b 1)) g f e d ((a++[T.mk g f e d])++[re n])) none) none) (qa (qb c b) λ l =>
 cond (zo (List.length a+1) 56) (i c true (iw .i64 (qc b 1)) g f e d (a++[re l])) none)) j1) j1) (cond (qe h) (cond (zo (List.length a+1) 56) (some (a++[T.mk g f e d])) none) (some a))
def qcp(m:Nat):=qJ (λ _ _ _ _ _ _ _ _=>none) λ a=>qid m a
def qjM:Nat->(TL->T->Z32):=qi (λ _ _=>none) λ m _=>qhr m (qcp m m)
def qh4(m:Nat)(b:qGg)(a:TL):Z32 :=
 b a [] 0
def qhL(m:Nat)(f:qGg)(b c:TL)(a:Int):Z32 :=
 cond (ilt a b.length) (qa (qb b a) λ e=>qa (qjM m c (re e)) λ d=>f b d (iw .i64 (qc a 1))) (some c)
def qcm(m:Nat):=qJ (λ _ _ _=>none) λ a=>qhL m a
def qnd:Nat->Z41:=qi (λ _=>none) λ m _=>qh4 m (qcm m m)
def qgu(m:Nat)(d:qOp)(c:T)(b:Int):Z32 :=
 qa (Ql m (re c)) λ a=>d b a 0 []
def qgE(m:Nat)(e:qOp)(d:Int)(b:TL)(a:Int)(c:TL):Z32 :=
 cond (ilt a b.length) (qa (qb b a) λ h=>cond (ieq h.kind d) (qa (qb b a) λ g=>cond (zo (List.length c+1) 56) (e d b (iw .i64 (qc a 1)) (c++[re g])) none)
 (e d b (iw .i64 (qc a 1)) c)) (qa (qnd m c) λ f=>some f)
def qa3(m:Nat):=qJ (λ _ _ _ _=>none) λ a=>qgE m a
def qkM:Nat->(T->Int->Z32):=qi (λ _ _=>none) λ m _=>qgu m (qa3 m m)
def qjZ(m:Nat)(b:T):Z32 :=
 qa (qkM m (re b) 1) λ a=>some a
def qkV:Nat->Z33:=qi (λ _=>none) λ m _=>qjZ m
def qhQ(m:Nat)(b:T):Z4 :=
 qa (qkV m (re b)) λ a=>some (ieq a.length 0)
def qhI:Nat->Z44:=qi (λ _=>none) λ m _=>qhQ m
def qlK(m:Nat)(b:Y8)(a:TL):Z27 :=
 cond (zo (List.length ([]:TL)+List.length a) 56) (qkR a (some (T.mk 3 b 0 [])) λ d c=>some (T.mk 3 b 0 ([]++(d::c)))) none
def Qn:Nat->Z57:=qi (λ _ _=>none) λ m _=>qlK m
def qnJ(m:Nat)(a:T)(b:Y8):Z4 :=
 cond (ieq a.kind 3) (some (qy a.name b)) (some false)
def qcc:Nat->(T->Y8->Z4):=qi (λ _ _=>none) λ m _=>qnJ m
def qgY(m:Nat)(a:T):qrD :=
 qa (qb a.kids 0) λ b=>let j1:qrD:=(qa (qb b.kids 0) λ y=>some (re y,true));let j2:qrD:=(let r:qrD:=(let q:qrD:=(let p:qrD:=(let o:qrD :=
 (cond (qy a.name [114,101,97,100]) (qa (qcc m (re b) [115,105,103,110]) λ c=>cond c j1 (some (re a,false))) (some (re a,false)));cond (qy a.name [111,112,101,110])
 (qa (qcc m (re b) [115,105,103,110]) λ h=>cond h (qa (qb a.kids 1) λ g=>qa (qb b.kids 1) λ f=>qa (Qn m [112,107] [re f]) λ e=>qa (Jh m (re g)
 (re e)) λ d=>cond d j1 o) o) o);cond (qy a.name [97,100,101,99]) (qa (qcc m (re b) [97,101,110,99]) λ n=>cond n (qa (qb b.kids 1) λ l =>
 qa (qb a.kids 1) λ k=>qa (Qn m [112,107] [re k]) λ j=>qa (Jh m (re l) (re j)) λ i=>cond i j1 p) p) p);cond (qy a.name [100,101,99])
 (qa (qcc m (re b) [101,110,99]) λ v=>cond v (qa (qb b.kids 1) λ u=>qa (qb a.kids 1) λ t=>qa (Jh m (re u) (re t)) λ s=>cond s j1 q) q) q);
 cond (qy a.name [115,110,100]) (qa (qcc m (re b) [112,97,105,114]) λ x=>cond x (qa (qb b.kids 1) λ w=>some (re w,true)) r) r);cond (qy a.name [102,115,116])
 (qa (qcc m (re b) [112,97,105,114]) λ z=>cond z j1 j2) j2
def qgp:Nat->(T->qrD):=qi (λ _=>none) λ m _=>qgY m
def qfC(m:Nat)(c:qN5)(b:TL)(a:T):Z13 :=
 cond (ilt 200 b.length) (some 3) (c b 0 a.kind a.name a.sort a.kids)
def qft(m:Nat)(j:qN5)(b:TL)(a f:Int)(e:Y8)(d:Int)(c:TL):Z13 :=
 cond (ilt a b.length) (qa (qb b a) λ i=>qa (jo m (re i)) λ g=>cond (qe (ieq g 0)) (some g) (j b (iw .i64 (qc a 1)) f e d c))
 (qa (jo m (T.mk f e d c)) λ h=>some h)
def qaC(m:Nat):=qJ (λ _ _ _ _ _ _=>none) λ a=>qft m a
def qjh:Nat->(TL->T->Z13):=qi (λ _ _=>none) λ m _=>qfC m (qaC m m)
def qjT(m:Nat):Z27 :=
 qa (Qn m [122,101,114,111] []) λ a=>some (re a)
def qku:Nat->(Z27):=qi (none) λ m _=>qjT m
def qht(m:Nat)(c:qPc)(b:TL)(a:T):Z4 :=
 c b 0 a.kind a.name a.sort a.kids
def qhs(m:Nat)(i:qPc)(b:TL)(a f:Int)(e:Y8)(d:Int)(c:TL):Z4 :=
 cond (ilt a b.length) (qa (qb b a) λ h=>qa (Jh m (re h) (T.mk f e d c)) λ g=>cond g (some true) (i b (iw .i64 (qc a 1)) f e d c)) (some false)
def qco(m:Nat):=qJ (λ _ _ _ _ _ _=>none) λ a=>qhs m a
def qnD:Nat->(TL->T->Z4):=qi (λ _ _=>none) λ m _=>qht m (qco m m)
def qeb(m:Nat)(e:qNS)(b:TL)(a:T):Z32 :=
 qa (qnD m b (re a)) λ d=>cond (qe d) (qa (qjM m b (re a)) λ c=>some c) (e b 0 a.kind a.name a.sort a.kids [])
def qei(m:Nat)(h:qNS)(b:TL)(a g:Int)(f:Y8)(e:Int)(d c:TL):Z32 :=
 cond (ilt a b.length) (qa (qb b a) λ k=>qa (Jh m (re k) (T.mk g f e d)) λ j=>cond (qe j) (qa (qb b a) λ i=>cond (zo (List.length c+1) 56)
 (h b (iw .i64 (qc a 1)) g f e d (c++[re i])) none) (h b (iw .i64 (qc a 1)) g f e d c)) (some c)
def JV(m:Nat):=qJ (λ _ _ _ _ _ _ _=>none) λ a=>qei m a
def qhJ:Nat->(TL->T->Z32):=qi (λ _ _=>none) λ m _=>qeb m (JV m m)
def qgC(m:Nat)(c:qGg)(b a:TL):Z32 :=
 cond (zo (List.length ([]:TL)+List.length b) 56) (qkR b (c a [] 0) λ e d=>c a ([]++(e::d)) 0) none
def qgs(m:Nat)(f:qGg)(b c:TL)(a:Int):Z32 :=
 cond (ilt a b.length) (qa (qb b a) λ e=>qa (qhJ m c (re e)) λ d=>f b d (iw .i64 (qc a 1))) (some c)
def qaj(m:Nat):=qJ (λ _ _ _=>none) λ a=>qgs m a
def qhS:Nat->(TL->TL->Z32):=qi (λ _ _=>none) λ m _=>qgC m (qaj m m)
def qcA(m:Nat)(a:Z33)(d:qOn)(b:T):Z32 :=
 let c:Z32:=(cond (qe (ieq b.kind 3)) (some [re b]) (cond (qe (qy b.name [120,111,114])) (some [re b]) (d [] 0 b.kind b.name b.sort b.kids)));cond (ieq b.kind 3)
 (cond (qy b.name [122,101,114,111]) (cond (ieq b.kids.length 0) (some []) c) c) c
def qcN(m:Nat)(a:Z33)(k:qOn)(d:TL)(c g:Int)(f:Y8)(e:Int)(b:TL):Z32 :=
 cond (ilt c b.length) (qa (qb b c) λ j=>qa (a (re j)) λ i=>qa (qhS m d i) λ h=>k h (iw .i64 (qc c 1)) g f e b) (some d)
def jV(m:Nat)(a:Z33):=qJ (λ _ _ _ _ _ _=>none) λ b=>qcN m a b
def zZ:Nat->Z33:=qi (λ _=>none) λ m a=>qcA m a (jV m a m)
def qjQ(m:Nat)(a:TL):Z27 :=
 cond (ieq a.length 0) (qa (Qn m [122,101,114,111] []) λ e=>some (re e)) (cond (ieq a.length 1) (qa (qb a 0) λ d=>some (re d))
 (cond (zo (List.length ([]:TL)+List.length a) 56) (qkR a (some (T.mk 3 [120,111,114] 0 [])) λ c b=>some (T.mk 3 [120,111,114] 0 ([]++(c::b)))) none))
def qk1:Nat->(TL->Z27):=qi (λ _=>none) λ m _=>qjQ m
def qii(m:Nat)(d:qNX)(b:TL):Z38 :=
 qa (qku m) λ c=>qa (qjh m b (re c)) λ a=>cond (qe (ieq a 0)) (some (T.mk 0 [] 0 [],a)) (d b [] 0 0 [] 0 [])
def qhV(m:Nat)(n:qNX)(b c:TL)(a h:Int)(g:Y8)(f:Int)(e:TL):Z38 :=
 cond (ilt a b.length) (qa (qb b a) λ l=>qa (zZ m (re l)) λ k=>qa (qhS m c k) λ j=>n b j (iw .i64 (qc a 1)) h g f e) (qa (qk1 m c) λ d =>
 qa (jo m (re d)) λ i=>cond (qe (ieq i 0)) (some (T.mk 0 [] 0 [],3)) (some (re d,0)))
def qcv(m:Nat):=qJ (λ _ _ _ _ _ _ _=>none) λ a=>qhV m a
def qnn:Nat->(TL->Z38):=qi (λ _=>none) λ m _=>qii m (qcv m m)
def qgP(m:Nat)(a:T):Z4 :=
 cond (ieq a.kind 3) (cond (qy a.name [109,117,108]) (some true) (cond (qy a.name [105,110,118]) (some true) (some (qy a.name [111,110,101])))) (some false)
def qbN:Nat->Z44:=qi (λ _=>none) λ m _=>qgP m
def qfr(m:Nat)(b:Z44)(e:qOs)(a:T):Z4 :=
 qa (qbN m (re a)) λ f=>cond (qe f) (some true) (let d:Z4:=(let c:Z4:=(cond (qy a.name [111,110,101]) (cond (qe (ieq a.kids.length 0)) (some false)
 (e a.kids.length 0 a.kind a.name a.sort a.kids)) (e a.kids.length 0 a.kind a.name a.sort a.kids));cond (qy a.name [105,110,118]) (cond (qe (ieq a.kids.length 1)) (some false) c) c);
 cond (qy a.name [109,117,108]) (cond (ilt a.kids.length 2) (some false) d) d)
def qff(m:Nat)(a:Z44)(j:qOs)(d b g:Int)(f:Y8)(e:Int)(c:TL):Z4 :=
 cond (ilt b d) (qa (qb c b) λ i=>qa (a (re i)) λ h=>cond (qe h) (some false) (j d (iw .i64 (qc b 1)) g f e c)) (some true)
def Jr(m:Nat)(a:Z44):=qJ (λ _ _ _ _ _ _=>none) λ b=>qff m a b
def jn:Nat->Z44:=qi (λ _=>none) λ m a=>qfr m a (Jr m a m)
def qh7(m:Nat)(d:qNY)(c:List (T × Int))(a:T)(b:Int):Z49 :=
 d b false 0 a.kind a.name a.sort a.kids c []
def qhU(m:Nat)(i:qNY)(a:Int)(l:Bool)(h f:Int)(e:Y8)(d:Int)(c:TL)(g b:List (T × Int)):Z49 :=
 cond (ilt h g.length) (qa (qb g h) λ o=>qa (zK m (T.mk f e d c) (re o.1)) λ n=>let j1:Z49:=(qa (qb g h) λ j=>cond (ieq n 0)
 (cond (qe (ieq (iw .i64 (qc j.2 a)) 0)) (cond (zo (List.length b+1) 64) (i a true (iw .i64 (qc h 1)) f e d c g (b++[(re j.1,iw .i64 (qc j.2 a))])) none)
 (i a true (iw .i64 (qc h 1)) f e d c g b)) (cond (qe (ieq j.2 0)) (cond (zo (List.length b+1) 64) (i a l (iw .i64 (qc h 1)) f e d c g (b++[(re j.1,j.2)])) none)
 (i a l (iw .i64 (qc h 1)) f e d c g b)));cond (qe l) (cond (ilt n 0) (cond (zo (List.length b+1) 64) (qa (qb g h) λ k=>cond (ieq n 0) (cond (qe (ieq (iw .i64 (qc k.2 a)) 0))
 (cond (zo (List.length (b++[(T.mk f e d c,a)])+1) 64) (i a true (iw .i64 (qc h 1)) f e d c g ((b++[(T.mk f e d c,a)])++[(re k.1,iw .i64 (qc k.2 a))])) none)
 (i a true (iw .i64 (qc h 1)) f e d c g (b++[(T.mk f e d c,a)]))) (cond (qe (ieq k.2 0)) (cond (zo (List.length (b++[(T.mk f e d c,a)])+1) 64)
 (i a true (iw .i64 (qc h 1)) f e d c g ((b++[(T.mk f e d c,a)])++[(re k.1,k.2)])) none) (i a true (iw .i64 (qc h 1)) f e d c g (b++[(T.mk f e d c,a)])))) none) j1) j1)
 (cond (qe l) (cond (zo (List.length b+1) 64) (some ((()),(b++[(T.mk f e d c,a)],()))) none) (some ((()),(b,()))))
def J0(m:Nat):=qJ (λ _ _ _ _ _ _ _ _ _=>none) λ a=>qhU m a
def qjr:Nat->qDo:=qi (λ _ _ _=>none) λ m _=>qh7 m (J0 m m)
def qds(m:Nat)(a:qDo)(e:qPf)(d:List (T × Int))(b:T)(c:Int):Z49 :=
 qa (qbN m (re b)) λ g=>cond (qe g) (qa (qjr m d (re b) c) λ f=>some ((()),(f.2.1,()))) (cond (qy b.name [105,110,118])
 (e (iw .i64 (zp 0 c)) 0 b.kind b.name b.sort b.kids d) (e c 0 b.kind b.name b.sort b.kids d))
def qdl(m:Nat)(a:qDo)(k:qPf)(e c h:Int)(g:Y8)(f:Int)(b:TL)(d:List (T × Int)):Z49 :=
 cond (ilt c b.length) (qa (qb b c) λ j=>qa (a d (re j) e) λ i=>k e (iw .i64 (qc c 1)) h g f b i.2.1) (some ((()),(d,())))
def Qm(m:Nat)(a:qDo):=qJ (λ _ _ _ _ _ _ _=>none) λ b=>qdl m a b
def yk:Nat->qDo:=qi (λ _ _ _=>none) λ m a=>qds m a (Qm m a m)
def qnU(m:Nat)(a:T):Z53 :=
 qa (jo m (re a)) λ c=>cond (qe (ieq c 0)) (some ([],c)) (qa (jn m (re a)) λ d=>cond (qe d) (some ([],6)) (qa (yk m [] (re a) 1) λ b =>
 cond (ilt 200 b.2.1.length) (some ([],3)) (some (b.2.1,0))))
def qiA:Nat->Z54:=qi (λ _=>none) λ m _=>qnU m
def qfD(m:Nat)(b:qG0)(a:List (T × Int)):Z13 :=
 cond (ilt 200 a.length) (some 3) (b a 0)
def qfB(m:Nat)(e:qG0)(b:List (T × Int))(a:Int):Z13 :=
 cond (ilt a b.length) (qa (qb b a) λ n=>qa (jo m (re n.1)) λ d=>cond (qe (ieq d 0)) (some d) (qa (qb b a) λ l=>qa (qbN m (re l.1)) λ k=>cond k (some 1)
 (qa (qb b a) λ j=>cond (ieq j.2 0) (some 7) (qa (qb b a) λ i=>cond (ilt i.2 (-1000)) (some 7) (qa (qb b a) λ h=>cond (ilt 1000 h.2) (some 7) (cond (ilt 0 a)
 (qa (qb b (iw .i64 (zp a 1))) λ g=>qa (qb b a) λ f=>qa (zK m (re g.1) (re f.1)) λ c=>cond (ile 0 c) (some 5) (e b (iw .i64 (qc a 1))))
 (e b (iw .i64 (qc a 1))))))))) (some 0)
def Jt(m:Nat):=qJ (λ _ _=>none) λ a=>qfB m a
def qdY:Nat->Z56:=qi (λ _=>none) λ m _=>qfD m (Jt m m)
def qcI(m:Nat)(b:qn8)(e:qnT)(d:qn8)(c:qnT)(a:List (T × Int)):Z32 :=
 b a 0 []
def qcD(m:Nat)(g:qn8)(e:qnT)(d:qn8)(f:qnT)(a:List (T × Int))(c:Int)(b:TL):Z32 :=
 cond (ilt c a.length) (e a c 0 b) (d a 0 b)
def qcG(m:Nat)(e:qn8)(h:qnT)(j:qn8)(i:qnT)(c:List (T × Int))(b d:Int)(a:TL):Z32 :=
 qa (qb c b) λ g=>cond (ilt d g.2) (cond (ilt a.length 9) (qa (qb c b) λ f=>cond (zo (List.length a+1) 56) (h c b (iw .i64 (qc d 1)) (a++[re f.1])) none)
 (e c (iw .i64 (qc b 1)) a)) (e c (iw .i64 (qc b 1)) a)
def qcy(m:Nat)(g:qn8)(f:qnT)(e:qn8)(d:qnT)(c:List (T × Int))(b:Int)(a:TL):Z32 :=
 cond (ilt b c.length) (d c b 0 a) (some a)
def qcC(m:Nat)(k:qn8)(j:qnT)(e:qn8)(i:qnT)(c:List (T × Int))(b d:Int)(a:TL):Z32 :=
 qa (qb c b) λ h=>cond (ilt d (iw .i64 (zp 0 h.2))) (cond (ilt a.length 9) (qa (qb c b) λ g=>qa (Qn m [105,110,118] [re g.1]) λ f=>cond (zo (List.length a+1) 56)
 (i c b (iw .i64 (qc d 1)) (a++[re f])) none) (e c (iw .i64 (qc b 1)) a)) (e c (iw .i64 (qc b 1)) a)
def qm(m:Nat):=qJ ((λ _ _ _=>none,λ _ _ _ _=>none,λ _ _ _=>none,λ _ _ _ _=>none)) λ a=>(qcD m a.1 a.2.1 a.2.2.1 a.2.2.2,qcG m a.1 a.2.1 a.2.2.1 a.2.2.2,qcy m a.1 a.2.1 a.2.2.1 a.2.2.2,qcC m a.1 a.2.1 a.2.2.1 a.2.2.2)
def qfp:Nat->(Z47->Z32):=qi (λ _=>none) λ m _=>qcI m (qm m m).1 (qm m m).2.1 (qm m m).2.2.1 (qm m m).2.2.2
def qjS(m:Nat)(i:List (T × Int)):Z38 :=
 qa (qdY m i) λ h=>cond (qe (ieq h 0)) (some (T.mk 0 [] 0 [],h)) (qa (qfp m i) λ a=>cond (ilt 8 a.length) (some (T.mk 0 [] 0 [],3))
 (qa (Qn m [109,117,108] a) λ g=>let j1:Z38:=(qa (qb a 0) λ e=>qa (jo m (re e)) λ d=>cond (qe (ieq d 0)) (some (T.mk 0 [] 0 [],d)) (some (re e,0)));
 cond (ieq a.length 0) (qa (Qn m [111,110,101] []) λ f=>cond (ieq a.length 1) j1 (qa (jo m (re f)) λ c=>cond (qe (ieq c 0)) (some (T.mk 0 [] 0 [],c)) (some (re f,0))))
 (cond (ieq a.length 1) j1 (qa (jo m (re g)) λ b=>cond (qe (ieq b 0)) (some (T.mk 0 [] 0 [],b)) (some (re g,0))))))
def qdC:Nat->Z60:=qi (λ _=>none) λ m _=>qjS m
def qgN(m:Nat)(c:T):Z38 :=
 qa (qiA m (re c)) λ a=>cond (qe (ieq a.2 0)) (some (T.mk 0 [] 0 [],a.2)) (qa (qdC m a.1) λ b=>some (re b.1,b.2))
def qdR:Nat->Z66:=qi (λ _=>none) λ m _=>qgN m
def qdr(m:Nat)(b:qG0)(a:List (T × Int)):Z13 :=
 b a 0
def qdH(m:Nat)(e:qG0)(a:List (T × Int))(b:Int):Z13 :=
 cond (ilt b a.length) (qa (qb a b) λ d=>cond (ilt d.2 (-1000)) (some 7) (qa (qb a b) λ c=>cond (ilt 1000 c.2) (some 7) (e a (iw .i64 (qc b 1))))) (cond (ilt 200 a.length) (some 3)
 (some 0))
def Jg(m:Nat):=qJ (λ _ _=>none) λ a=>qdH m a
def qgj:Nat->Z56:=qi (λ _=>none) λ m _=>qdr m (Jg m m)
def qih(m:Nat)(e:qOm)(b a:List (T × Int)):Z53 :=
 qa (qdY m b) λ d=>cond (qe (ieq d 0)) (some ([],d)) (qa (qdY m a) λ c=>cond (qe (ieq c 0)) (some ([],c)) (cond (zo (List.length ([]:List (T × Int))+List.length b) 64)
 (qkR b (e a 0 []) λ g f=>e a 0 ([]++(g::f))) none))
def qie(m:Nat)(h:qOm)(b:List (T × Int))(a:Int)(c:List (T × Int)):Z53 :=
 cond (ilt a b.length) (qa (qb b a) λ g=>qa (qb b a) λ f=>qa (qjr m c (re g.1) f.2) λ e=>h b (iw .i64 (qc a 1)) e.2.1) (qa (qgj m c) λ d =>
 cond (qe (ieq d 0)) (some ([],d)) (some (c,0)))
def qaY(m:Nat):=qJ (λ _ _ _=>none) λ a=>qie m a
def qmT:Nat->Z64:=qi (λ _ _=>none) λ m _=>qih m (qaY m m)
def qi2(m:Nat)(b l:T):Z38 :=
 qa (qiA m (re l)) λ a=>cond (qe (ieq a.2 0)) (some (T.mk 0 [] 0 [],a.2)) (qa (qcc m (re b) [101,120,112]) λ k=>cond k (qa (qb b.kids 1) λ j =>
 qa (qiA m (re j)) λ f=>cond (qe (ieq f.2 0)) (some (T.mk 0 [] 0 [],f.2)) (qa (qmT m f.1 a.1) λ c=>cond (qe (ieq c.2 0)) (some (T.mk 0 [] 0 [],c.2))
 (qa (qb b.kids 0) λ h=>cond (ieq c.1.length 0) (some (re h,0)) (qa (qdC m c.1) λ e=>cond (qe (ieq e.2 0)) (some (T.mk 0 [] 0 [],e.2))
 (qa (Qn m [101,120,112] [re h,re e.1]) λ i=>some (re i,0)))))) (cond (ieq a.1.length 0) (some (re b,0)) (qa (qdC m a.1) λ d=>cond (qe (ieq d.2 0))
 (some (T.mk 0 [] 0 [],d.2)) (qa (Qn m [101,120,112] [re b,re d.1]) λ g=>some (re g,0)))))
def qjc:Nat->Z65:=qi (λ _ _=>none) λ m _=>qi2 m
def qek(m:Nat)(a:Z66)(c:qNv)(b:T):Z38 :=
 cond (qe (ieq b.kind 3)) (some (re b,0)) (c 0 b.kind b.name b.sort b.kids 0 [] 0 [] [])
def qd7(m:Nat)(a:Z66)(x:qNv)(f t:Int)(b:Y8)(s:Int)(e:TL)(r:Int)(q:Y8)(p:Int)(o c:TL):Z38 :=
 cond (ilt f e.length) (qa (qb e f) λ w=>qa (a (re w)) λ h=>cond (qe (ieq h.2 0)) (some (T.mk 0 [] 0 [],h.2)) (cond (zo (List.length c+1) 56)
 (x (iw .i64 (qc f 1)) t b s e r q p o (c++[re h.1])) none)) (qa (Qn m b c) λ g=>qa (qfb m b) λ v=>cond (ieq v 3) (qa (qgp m (re g)) λ u =>
 some (re u.1,0)) (cond (qy b [120,111,114]) (qa (qnn m c) λ n=>some (re n.1,n.2)) (let k:Z38:=(qa (qdR m (re g)) λ l=>some (re l.1,l.2));
 cond (qy b [109,117,108]) k (cond (qy b [105,110,118]) k (cond (qy b [111,110,101]) k (cond (qy b [101,120,112]) (qa (qb c 0) λ j=>qa (qb c 1) λ i =>
 qa (qjc m (re j) (re i)) λ d=>some (re d.1,d.2)) (some (re g,0))))))))
def JO(m:Nat)(a:Z66):=qJ (λ _ _ _ _ _ _ _ _ _ _=>none) λ b=>qd7 m a b
def je:Nat->Z66:=qi (λ _=>none) λ m a=>qek m a (JO m a m)
def qhC(m:Nat)(d:T):Z38 :=
 qa (qdW m (re d)) λ c=>cond (qe (ieq c 0)) (some (T.mk 0 [] 0 [],c)) (qa (je m (re d)) λ a=>cond (qe (ieq a.2 0)) (some (T.mk 0 [] 0 [],a.2))
 (qa (jo m (re a.1)) λ b=>cond (qe (ieq b 0)) (some (T.mk 0 [] 0 [],b)) (some (re a.1,0))))
def qio:Nat->Z66:=qi (λ _=>none) λ m _=>qhC m
def qfK(m:Nat)(e:qOo)(a:T):Z4 :=
 qa (qio m (re a)) λ b=>cond (qe (ieq b.2 0)) (some false) (qa (Jh m (re a) (re b.1)) λ d=>cond (qe d) (some false) (qa (Ql m (re a)) λ c=>e c 0))
def qfA(m:Nat)(c:qOo)(b:TL)(a:Int):Z4 :=
 cond (ilt a b.length) (qa (qb b a) λ f=>cond (ieq f.kind 3) (qa (qb b a) λ e=>qa (qfb m e.name) λ d=>cond (ieq d 3) (some false) (c b (iw .i64 (qc a 1))))
 (c b (iw .i64 (qc a 1)))) (some true)
def qaA(m:Nat):=qJ (λ _ _=>none) λ a=>qfA m a
def qf8:Nat->Z44:=qi (λ _=>none) λ m _=>qfK m (qaA m m)
def qi4(m:Nat)(a:T):Z13 :=
 qa (qdW m (re a)) λ b=>cond (qe (ieq b 0)) (some b) (qa (qhI m (re a)) λ d=>cond (qe d) (some 13) (qa (qf8 m (re a)) λ c=>cond (qe c) (some 10) (some 0)))
def qje:Nat->Z14:=qi (λ _=>none) λ m _=>qi4 m
def qw3(m:Nat):(Option (List Y8)) :=
 some [[112,97,105,114],[101,110,99],[97,101,110,99],[112,107],[115,105,103,110],[104,97,115,104],[120,111,114],[122,101,114,111],[101,120,112],[109,117,108],[105,110,118],[111,110,101],[115,107],[115,104,107],[110,101,119]]
def qjo:Nat->((Option (List Y8))):=qi (none) λ m _=>qw3 m
def qfs(m:Nat)(c:qNE)(b:Y8):Z13 :=
 qa (qjo m) λ a=>c b a 0
def qfh(m:Nat)(e:qNE)(c:Y8)(b:List (Y8))(a:Int):Z13 :=
 cond (ilt a b.length) (qa (qb b a) λ d=>cond (qy d c) (some a) (e c b (iw .i64 (qc a 1)))) (some 0)
def qaD(m:Nat):=qJ (λ _ _ _=>none) λ a=>qfh m a
def qjn:Nat->Z79:=qi (λ _=>none) λ m _=>qfs m (qaD m m)
def qgM(m:Nat)(a:Y8):Z4 :=
 cond (qy a [120,111,114]) (some true) (cond (qy a [109,117,108]) (some true) (some (qy a [110,101,119])))
def qdK:Nat->Z8:=qi (λ _=>none) λ m _=>qgM m
def qfg(m:Nat)(b:qGs)(d:qNz)(a:T):Z80 :=
 cond (ieq a.kind 2) (cond (qgG (zJ [iw .u8 a.sort,iw .u8 a.name.length]) a.name) (some ((zJ [iw .u8 a.sort,iw .u8 a.name.length])++a.name)) none) (qa (qjn m a.name) λ c =>
 qa (qdK m a.name) λ e=>cond e (cond (qgG (zJ [iw .u8 (iw .i64 (qc 16 c))]) (zJ [iw .u8 a.kids.length]))
 (d ((zJ [iw .u8 (iw .i64 (qc 16 c))])++(zJ [iw .u8 a.kids.length])) 0 a.kind a.name a.sort a.kids) none) (d (zJ [iw .u8 (iw .i64 (qc 16 c))]) 0 a.kind a.name a.sort a.kids))
def qfu(m:Nat)(a:qGs)(j:qNz)(d:Y8)(c h:Int)(g:Y8)(f:Int)(b:TL):Z80 :=
 cond (ilt c b.length) (qa (qb b c) λ i=>qa (a (re i)) λ e=>cond (qgG d e) (j (d++e) (iw .i64 (qc c 1)) h g f b) none) (some d)
def Jv(m:Nat)(a:qGs):=qJ (λ _ _ _ _ _ _=>none) λ b=>qfu m a b
def ji:Nat->qGs:=qi (λ _=>none) λ m a=>qfg m a (Jv m a m)
def qhT(m:Nat)(b:T):Z76 :=
 qa (qje m (re b)) λ a=>cond (qe (ieq a 0)) (some ([],a)) (qa (ji m (re b)) λ c=>some (c,0))
def qh1:Nat->(T->Z76):=qi (λ _=>none) λ m _=>qhT m
def qfJ(m:Nat)(b:qO2)(a:Y8):Z13 :=
 b a 1 0 0
def qfy(m:Nat)(f:qO2)(c:Y8)(b d a:Int):Z13 :=
 cond (ilt a c.length) (qa (qb c a) λ e=>f c (yg (iw .u32 (qc b (iw .u32 ((UInt8.toNat e:Nat):Int)))) 65521)
 (yg (iw .u32 (qc d (yg (iw .u32 (qc b (iw .u32 ((UInt8.toNat e:Nat):Int)))) 65521))) 65521) (iw .i64 (qc a 1))) (some (iw .u32 (qc (iw .u32 (qts 65536 d)) b)))
def qaw(m:Nat):=qJ (λ _ _ _ _=>none) λ a=>qfy m a
def qi9:Nat->Z79:=qi (λ _=>none) λ m _=>qfJ m (qaw m m)
def qkc(m:Nat)(b:Y8):Z80 :=
 qa (qi9 m b) λ a=>cond (qgG (zJ [iw .u8 (iw .u32 (qiM a 16777216)),iw .u8 (yg (iw .u32 (qiM a 65536)) 256),iw .u8 (yg (iw .u32 (qiM a 256)) 256),iw .u8 (yg a 256)]) b)
 (some ((zJ [iw .u8 (iw .u32 (qiM a 16777216)),iw .u8 (yg (iw .u32 (qiM a 65536)) 256),iw .u8 (yg (iw .u32 (qiM a 256)) 256),iw .u8 (yg a 256)])++b)) none
def qhZ:Nat->(Y8->Z80):=qi (λ _=>none) λ m _=>qkc m
def qcY(m:Nat)(a:(Int) × (List (Int × (Int × (Y8 × Bool)))) × Unit)(d c:Int)(g:T):Z77 :=
 let b:Z77:=(some (((a.1,a.2.1,()),()),(0,7,())));cond (ilt d 0) b (cond (ile a.1 d) b (cond (ilt c 0) b (cond (ile a.1 c) b (cond (ile 400 a.2.1.length)
 (some (((a.1,a.2.1,()),()),(0,3,()))) (qa (qh1 m (re g)) λ e=>cond (qe (ieq e.2 0)) (some (((a.1,a.2.1,()),()),(0,e.2,()))) (qa (qhZ m e.1) λ f =>
 cond (zo (List.length a.2.1+1) 40) (some (((a.1,a.2.1++[(d,(c,(f,true)))],()),()),(iw .i64 (zp (List.length (a.2.1++[(d,(c,(f,true)))])) 1),0,()))) none))))))
def qb7:Nat->Z81:=qi (λ _ _ _ _=>none) λ m _=>qcY m
def qbJ(m:Nat)(d:(Int) × (List (Int × (Int × (Y8 × Bool)))) × Unit)(e:Int):Z83 :=
 qa (jv m (d.1,d.2.1,()) e) λ a=>qkw a.2.1 (cond (ieq a.2.2.1 0) none (some (((a.1.1.1,a.1.1.2.1,()),()),(a.2.2.1,())))) λ c=>qa (qb a.1.1.2.1 c) λ b =>
 cond (ieq a.2.2.1 0) (some (((a.1.1.1,yn a.1.1.2.1 c (b.1,(b.2.1,(b.2.2.1,false))),()),()),(a.2.2.1,()))) (some (((a.1.1.1,a.1.1.2.1,()),()),(a.2.2.1,())))
def qaV:Nat->qPg:=qi (λ _ _=>none) λ m _=>qbJ m
def QA(m:Nat)(c:qOA)(a:(Int) × (List (Int × (Int × (Y8 × Bool)))) × Unit)(b:Int):quI :=
 c b a.2.1.length 0 a.1 a.2.1 []
def QB(m:Nat)(g:qOA)(f e a d:Int)(c:List (Int × (Int × (Y8 × Bool))))(b:List (Int)):quI :=
 cond (ilt a e) (qa (qb c a) λ h=>cond h.2.2.2 (cond (ieq h.2.1 f) (cond (zo (List.length b+1) 8) (g f e (iw .i64 (qc a 1)) d c (b++[a])) none) (g f e (iw .i64 (qc a 1)) d c b))
 (g f e (iw .i64 (qc a 1)) d c b)) (some (((d,c,()),()),(b,())))
def yc(m:Nat):=qJ (λ _ _ _ _ _ _=>none) λ a=>QB m a
def JH:Nat->qOV:=qi (λ _ _=>none) λ m _=>QA m (yc m m)
def qcS(m:Nat)(a:(Int) × (List (Int × (Int × (Y8 × Bool)))) × Unit)(b:Int)(d:Bool):Z83 :=
 cond (ilt b 0) (some (((a.1,a.2.1,()),()),(4,()))) (cond (ile a.2.1.length b) (some (((a.1,a.2.1,()),()),(4,()))) (cond d (qa (qb a.2.1 b) λ c=>cond (qe c.2.2.2)
 (some (((a.1,a.2.1,()),()),(9,()))) (some (((a.1,a.2.1,()),()),(0,())))) (some (((a.1,a.2.1,()),()),(0,())))))
def jr:Nat->(Z3->Int->Bool->Z83):=qi (λ _ _ _=>none) λ m _=>qcS m
def qbE(m:Nat)(d:(Int) × (List (Int × (Int × (Y8 × Bool)))) × Unit)(c:Int):Z77 :=
 qa (jr m (d.1,d.2.1,()) c false) λ a=>cond (qe (ieq a.2.1 0)) (some (((a.1.1.1,a.1.1.2.1,()),()),(0,a.2.1,()))) (cond (ile 400 a.1.1.2.1.length)
 (some (((a.1.1.1,a.1.1.2.1,()),()),(0,3,()))) (qa (qb a.1.1.2.1 c) λ b=>cond (zo (List.length a.1.1.2.1+1) 40)
 (some (((a.1.1.1,a.1.1.2.1++[(b.1,(b.2.1,(b.2.2.1,true)))],()),()),(iw .i64 (zp (List.length (a.1.1.2.1++[(b.1,(b.2.1,(b.2.2.1,true)))])) 1),0,()))) none))
def qaT:Nat->Z96:=qi (λ _ _=>none) λ m _=>qbE m
def qj1(m:Nat)(a:Y8):Z76 :=
 cond (ilt a.length 4) (some ([],2)) (cond (inb a.length a.length) (cond (inb 4 (Int.toNat a.length)) (qa (qhZ m (QK a 4 a.length)) λ b=>cond (qe (qy b a)) (some ([],19))
 (cond (inb a.length a.length) (cond (inb 4 (Int.toNat a.length)) (some (QK a 4 a.length,0)) none) none)) none) none)
def qk3:Nat->(Y8->Z76):=qi (λ _=>none) λ m _=>qj1 m
def qbK(m:Nat)(e:qG8)(b:Y8)(a:Int):qsl :=
 qa (qb b a) λ d=>let j1:qsl:=(some (T.mk 2 [] (iw .i64 ((UInt8.toNat d:Nat):Int)) [],iw .i64 (qc a 1),false));
 cond (ile b.length (iw .i64 (qc a 1))) j1 (qa (qb b (iw .i64 (qc a 1))) λ c =>
 cond (ilt (iw .i64 ((UInt8.toNat c:Nat):Int)) 1) j1 (cond (ilt 24 (iw .i64 ((UInt8.toNat c:Nat):Int))) j1 (e b a (iw .i64 ((UInt8.toNat c:Nat):Int)) 1 0 [] 0 2 [] (iw .i64 ((UInt8.toNat d:Nat):Int)) [] [])))
def qgo(m:Nat)(o:qG8)(e:Y8)(a d c l:Int)(k:Y8)(j g:Int)(h:Y8)(f:Int)(i b:TL):qsl :=
 cond (ile c d) (cond (ile e.length (iw .i64 (qc (iw .i64 (qc a 1)) c))) (some (T.mk g h f b,iw .i64 (qc (iw .i64 (qc a 1)) c),false)) (cond (inb (iw .i64 (qc (iw .i64 (qc a 2)) c)) e.length)
 (cond (inb (iw .i64 (qc a 2)) (Int.toNat (iw .i64 (qc (iw .i64 (qc a 2)) c)))) (qa (qak m (QK e (iw .i64 (qc a 2)) (iw .i64 (qc (iw .i64 (qc a 2)) c)))) λ n=>cond (qe n)
 (some (T.mk g h f b,iw .i64 (qc (iw .i64 (qc a 1)) c),false)) (o e a d (iw .i64 (qc c 1)) l k j g h f i b)) none) none)) (cond (inb (iw .i64 (qc (iw .i64 (qc a 2)) d)) e.length)
 (cond (inb (iw .i64 (qc a 2)) (Int.toNat (iw .i64 (qc (iw .i64 (qc a 2)) d)))) (some (T.mk g (QK e (iw .i64 (qc a 2))
 (iw .i64 (qc (iw .i64 (qc a 2)) d))) f b,iw .i64 (qc (iw .i64 (qc a 2)) d),true)) none) none)
def jF(m:Nat):=qJ (λ _ _ _ _ _ _ _ _ _ _ _ _=>none) λ a=>qgo m a
def qdw:Nat->qAW:=qi (λ _ _=>none) λ m _=>qbK m (jF m m)
def qgz(m:Nat)(k:qND)(b:Y8)(a:Int)(d:Y8):qre :=
 qa (qdK m d) λ j=>cond (qe j) (qa (qgA m) λ i=>k b a d i 0) (let c:qre:=(some (0,a,false));let j2:qre:=(qa (qb b a) λ g =>
 cond (ilt 8 ((UInt8.toNat g:Nat):Int)) c (qa (qb b a) λ f=>some (iw .i64 ((UInt8.toNat f:Nat):Int),iw .i64 (qc a 1),true)));cond (qy d [110,101,119])
 (cond (ile b.length a) c (qa (qb b a) λ h=>cond (ilt (iw .i64 ((UInt8.toNat h:Nat):Int)) 1) c j2)) (cond (ile b.length a) c (qa (qb b a) λ e =>
 cond (ilt (iw .i64 ((UInt8.toNat e:Nat):Int)) 2) c j2)))
def qj0(m:Nat)(o:qND)(b:Y8)(a:Int)(f:Y8)(e:List (Y8 × (Int × (Int × Int))))(d:Int):qre :=
 cond (ilt d e.length) (qa (qb e d) λ n=>cond (qy n.1 f) (qa (qb e d) λ l=>some (l.2.1,a,true)) (o b a f e (iw .i64 (qc d 1)))) (let c:qre:=(some (0,a,false));
 let g:qre:=(qa (qb b a) λ j=>cond (ilt 8 ((UInt8.toNat j:Nat):Int)) c (qa (qb b a) λ i=>some (iw .i64 ((UInt8.toNat i:Nat):Int),iw .i64 (qc a 1),true)));
 cond (qy f [110,101,119]) (cond (ile b.length a) c (qa (qb b a) λ k=>cond (ilt (iw .i64 ((UInt8.toNat k:Nat):Int)) 1) c g)) (cond (ile b.length a) c (qa (qb b a) λ h =>
 cond (ilt (iw .i64 ((UInt8.toNat h:Nat):Int)) 2) c g)))
def qa5(m:Nat):=qJ (λ _ _ _ _ _=>none) λ a=>qj0 m a
def qdm:Nat->(Y8->Int->Y8->qre):=qi (λ _ _ _=>none) λ m _=>qgz m (qa5 m m)
def qay(m:Nat)(a:qAW)(o:qG8)(c:Y8)(b:Int):qsl :=
 let g:qsl:=(some (T.mk 0 [] 0 [],b,false));cond (ile c.length b) g (qa (qb c b) λ n=>cond (ile ((UInt8.toNat n:Nat):Int) 5) (qa (qdw m c b) λ f =>
 some (re f.1,f.2.1,f.2.2)) (qa (qb c b) λ l=>cond (ilt ((UInt8.toNat l:Nat):Int) 16) g (qa (qb c b) λ k=>qa (qjo m) λ j=>cond (ile (iw .i64 (qc 16 j.length))
 (iw .i64 ((UInt8.toNat k:Nat):Int))) g (qa (qjo m) λ i=>qa (qb c b) λ h=>qa (qb i (iw .i64 (zp (iw .i64 ((UInt8.toNat h:Nat):Int)) 16))) λ e =>
 qa (qdm m c (iw .i64 (qc b 1)) e) λ d=>cond (qe d.2.2) (some (T.mk 3 e 0 [],d.2.1,false)) (o c d.1 d.2.1 0 0 [] 0 3 e 0 [] [])))))
def qdM(m:Nat)(a:qAW)(p:qG8)(k:Y8)(j i h o:Int)(n:Y8)(l f:Int)(e:Y8)(d:Int)(g b:TL):qsl :=
 cond (ilt h j) (qa (a k i) λ c=>cond (qe c.2.2) (some (T.mk f e d b,c.2.1,false)) (cond (zo (List.length b+1) 56)
 (p k j c.2.1 (iw .i64 (qc h 1)) o n l f e d g (b++[re c.1])) none)) (some (T.mk f e d b,i,true))
def Qt(m:Nat)(a:qAW):=qJ (λ _ _ _ _ _ _ _ _ _ _ _ _=>none) λ b=>qdM m a b
def qV:Nat->qAW:=qi (λ _ _=>none) λ m a=>qay m a (Qt m a m)
def qhR(m:Nat)(b:Y8):Z90 :=
 qa (qV m b 0) λ a=>cond (qe a.2.2) (some (T.mk 0 [] 0 [],a.2.1,2)) (cond (qe (ieq a.2.1 b.length)) (some (T.mk 0 [] 0 [],a.2.1,2)) (qa (yV m (re a.1)) λ f =>
 cond (ilt 400 f) (some (T.mk 0 [] 0 [],0,3)) (qa (jh m (re a.1)) λ e=>cond (ilt 40 e) (some (T.mk 0 [] 0 [],0,3)) (qa (qdW m (re a.1)) λ d=>cond (qe (ieq d 0))
 (some (T.mk 0 [] 0 [],0,10)) (qa (qf8 m (re a.1)) λ c=>cond (qe c) (some (T.mk 0 [] 0 [],0,10)) (some (re a.1,0,0)))))))
def qh3:Nat->Z91:=qi (λ _=>none) λ m _=>qhR m
def qbl(m:Nat)(g:(Int) × (List (Int × (Int × (Y8 × Bool)))) × Unit)(c:Int):Z92 :=
 qa (jr m (g.1,g.2.1,()) c true) λ b=>cond (qe (ieq b.2.1 0)) (some (((b.1.1.1,b.1.1.2.1,()),()),(T.mk 0 [] 0 [],0,b.2.1,()))) (qa (qb b.1.1.2.1 c) λ a =>
 qa (qb (yn b.1.1.2.1 c (a.1,(a.2.1,(a.2.2.1,false)))) c) λ f=>qa (qb (yn b.1.1.2.1 c (a.1,(a.2.1,(a.2.2.1,false)))) c) λ h=>qa (qk3 m h.2.2.1) λ e =>
 cond (qe (ieq e.2 0)) (some (((b.1.1.1,yn b.1.1.2.1 c (a.1,(a.2.1,(a.2.2.1,false))),()),()),(T.mk 0 [] 0 [],f.2.1,e.2,()))) (qa (qh3 m e.1) λ d=>cond (qe (ieq d.2.2 0))
 (some (((b.1.1.1,yn b.1.1.2.1 c (a.1,(a.2.1,(a.2.2.1,false))),()),()),(T.mk 0 [] 0 [],f.2.1,d.2.2,())))
 (some (((b.1.1.1,yn b.1.1.2.1 c (a.1,(a.2.1,(a.2.2.1,false))),()),()),(re d.1,f.2.1,0,())))))
def qat:Nat->Z93:=qi (λ _ _=>none) λ m _=>qbl m
def qcX(m:Nat)(d:(Int) × (List (Int × (Int × (Y8 × Bool)))) × Unit)(c:Int):Z83 :=
 qa (jr m (d.1,d.2.1,()) c true) λ a=>cond (qe (ieq a.2.1 0)) (some (((a.1.1.1,a.1.1.2.1,()),()),(a.2.1,()))) (qa (qb a.1.1.2.1 c) λ b =>
 some (((a.1.1.1,yn a.1.1.2.1 c (b.1,(b.2.1,(b.2.2.1,false))),()),()),(0,())))
def qbQ:Nat->qPg:=qi (λ _ _=>none) λ m _=>qcX m
def qcq(m:Nat)(g:(Int) × (List (Int × (Int × (Y8 × Bool)))) × Unit)(d c f:Int):Z83 :=
 qa (jr m (g.1,g.2.1,()) d true) λ b=>cond (qe (ieq b.2.1 0)) (some (((b.1.1.1,b.1.1.2.1,()),()),(b.2.1,()))) (qa (qb b.1.1.2.1 d) λ a=>cond (ilt c 0)
 (some (((b.1.1.1,b.1.1.2.1,()),()),(7,()))) (cond (ile a.2.2.1.length c) (some (((b.1.1.1,b.1.1.2.1,()),()),(7,()))) (cond (inb c a.2.2.1.length) (cond (inb 0 (Int.toNat c))
 (cond (qgG (QK a.2.2.1 0 c) (zJ [f])) (cond (inb a.2.2.1.length a.2.2.1.length) (cond (inb (iw .i64 (qc c 1)) (Int.toNat a.2.2.1.length)) (cond (qgG ((QK a.2.2.1 0 c)++(zJ [f]))
 (QK a.2.2.1 (iw .i64 (qc c 1)) a.2.2.1.length)) (qa (qb b.1.1.2.1 d) λ e =>
 some (((b.1.1.1,yn b.1.1.2.1 d (e.1,(e.2.1,(((QK a.2.2.1 0 c)++(zJ [f]))++(QK a.2.2.1 (iw .i64 (qc c 1)) a.2.2.1.length),e.2.2.2))),()),()),(0,()))) none) none) none) none) none) none)))
def qbz:Nat->Z84:=qi (λ _ _ _ _=>none) λ m _=>qcq m
def JD(m:Nat)(c:qOB)(a b:List Int):Z4 :=
 cond (qe (ieq a.length b.length)) (some false) (c a b a.length 0)
def JB(m:Nat)(g:qOB)(d c:List (Int))(b a:Int):Z4 :=
 cond (ilt a b) (qa (qb d a) λ f=>qa (qb c a) λ e=>cond (qe (ieq f e)) (some false) (g d c b (iw .i64 (qc a 1)))) (some true)
def yL(m:Nat):=qJ (λ _ _ _ _=>none) λ a=>JB m a
def qaS:Nat->((List Int)->(List Int)->Z4):=qi (λ _ _=>none) λ m _=>JD m (yL m m)
def Je(m:Nat)(c:qOU)(a:(Int) × (List (Int × (Int × (Y8 × Bool)))) × Unit)(b:Int):quI :=
 c b 0 a.1 a.2.1 []
def Jm(m:Nat)(f:qOU)(e b d:Int)(a:List (Int × (Int × (Y8 × Bool))))(c:List (Int)):quI :=
 cond (ilt b a.length) (qa (qb a b) λ h=>cond h.2.2.2 (qa (qb a b) λ g=>cond (ieq g.2.1 e) (cond (zo (List.length c+1) 8) (f e (iw .i64 (qc b 1)) d a (c++[b])) none)
 (f e (iw .i64 (qc b 1)) d a c)) (f e (iw .i64 (qc b 1)) d a c)) (some (((d,a,()),()),(c,())))
def yw(m:Nat):=qJ (λ _ _ _ _ _=>none) λ a=>Jm m a
def qao:Nat->qOV:=qi (λ _ _=>none) λ m _=>Je m (yw m m)
def qci(m:Nat)(c:(Int) × (List (Int × (Int × (Y8 × Bool)))) × Unit)(b:Int):qLP :=
 qa (jr m (c.1,c.2.1,()) b false) λ a=>cond (qe (ieq a.2.1 0)) (some (((a.1.1.1,a.1.1.2.1,()),()),([],a.2.1,()))) (qa (qb a.1.1.2.1 b) λ d =>
 some (((a.1.1.1,a.1.1.2.1,()),()),(d.2.2.1,0,())))
def qbu:Nat->qNN:=qi (λ _ _=>none) λ m _=>qci m
def qnV(m:Nat)(c b:(Int) × (List (Int × (Int × (Y8 × Bool)))) × Unit)(a:Int × (Int × (Int × (Int × (T × Int))))):qNy :=
 cond (ieq (yg a.1 7) 0) (qa (Ji m (c.1,c.2.1,()) a.2.1 a.2.2.1 (re a.2.2.2.2.1)) λ p=>qa (qb7 m (b.1,b.2.1,()) a.2.1 a.2.2.1 (re a.2.2.2.2.1)) λ o =>
 cond (ieq p.2.1 o.2.1) (some (((p.1.1.1,p.1.1.2.1,()),(o.1.1.1,o.1.1.2.1,()),()),(ieq p.2.2.1 o.2.2.1,()))) (some (((p.1.1.1,p.1.1.2.1,()),(o.1.1.1,o.1.1.2.1,()),()),(false,()))))
 (cond (ieq (yg a.1 7) 1) (qa (ju m (c.1,c.2.1,()) a.2.1) λ g=>qa (qat m (b.1,b.2.1,()) a.2.1) λ f=>qa (Jh m (re g.2.1)
 (re f.2.1)) λ t=>cond t (cond (ieq g.2.2.1 f.2.2.1) (some (((g.1.1.1,g.1.1.2.1,()),(f.1.1.1,f.1.1.2.1,()),()),(ieq g.2.2.2.1 f.2.2.2.1,())))
 (some (((g.1.1.1,g.1.1.2.1,()),(f.1.1.1,f.1.1.2.1,()),()),(false,())))) (some (((g.1.1.1,g.1.1.2.1,()),(f.1.1.1,f.1.1.2.1,()),()),(false,())))) (cond (ieq (yg a.1 7) 2)
 (qa (qaV m (c.1,c.2.1,()) a.2.1) λ r=>qa (qbQ m (b.1,b.2.1,()) a.2.1) λ q =>
 some (((r.1.1.1,r.1.1.2.1,()),(q.1.1.1,q.1.1.2.1,()),()),(ieq r.2.1 q.2.1,()))) (cond (ieq (yg a.1 7) 3) (qa (Qs m (c.1,c.2.1,()) a.2.1) λ n =>
 qa (qaT m (b.1,b.2.1,()) a.2.1) λ l=>cond (ieq n.2.1 l.2.1) (some (((n.1.1.1,n.1.1.2.1,()),(l.1.1.1,l.1.1.2.1,()),()),(ieq n.2.2.1 l.2.2.1,())))
 (some (((n.1.1.1,n.1.1.2.1,()),(l.1.1.1,l.1.1.2.1,()),()),(false,())))) (cond (ieq (yg a.1 7) 4) (qa (QX m (c.1,c.2.1,()) a.2.1 a.2.2.1 a.2.2.2.1) λ k =>
 qa (qbz m (b.1,b.2.1,()) a.2.1 a.2.2.1 a.2.2.2.1) λ j=>some (((k.1.1.1,k.1.1.2.1,()),(j.1.1.1,j.1.1.2.1,()),()),(ieq k.2.1 j.2.1,()))) (cond (ieq (yg a.1 7) 5)
 (qa (JH m (c.1,c.2.1,()) a.2.1) λ i=>qa (qao m (b.1,b.2.1,()) a.2.1) λ h=>qa (qaS m i.2.1 h.2.1) λ s =>
 some (((i.1.1.1,i.1.1.2.1,()),(h.1.1.1,h.1.1.2.1,()),()),(s,()))) (qa (qan m (c.1,c.2.1,()) a.2.1) λ e =>
 qa (qbu m (b.1,b.2.1,()) a.2.1) λ d=>cond (qy e.2.1 d.2.1) (some (((e.1.1.1,e.1.1.2.1,()),(d.1.1.1,d.1.1.2.1,()),()),(ieq e.2.2.1 d.2.2.1,())))
 (some (((e.1.1.1,e.1.1.2.1,()),(d.1.1.1,d.1.1.2.1,()),()),(false,())))))))))
def qo1:Nat->(Z3->Z3->(Int × (Int × (Int × (Int × (T × Int)))))->qNy):=qi (λ _ _ _=>none) λ m _=>qnV m
def qab(m:Nat)(k:qA6)(j:qB0)(n:qDb)(l:qC4)(e:Int)(b:List (Int × (Int × (Int × (Int × (T × Int)))))):Z4 :=
 qa (qgb m) λ i=>let j1:Z4:=(qa (qgb m) λ h=>some h);cond (qe i) j1 (qa (qm0 m b) λ g=>cond (qe g) j1 (qa (qgc m e) λ a =>
 qkw a.2.1 (qa (qjC m e) λ c=>cond (qe (ieq a.2.2.1 c.2.2.1)) (some false) (cond (qe (qfZ true (qe (ieq a.2.2.1 0)))) (some false) (j b b.length 0 c.2.1.1 c.2.1.2.1))) λ f =>
 qa (qjC m e) λ d=>cond (qe (ieq a.2.2.1 d.2.2.1)) (some false) (cond (qe (qfZ false (qe (ieq a.2.2.1 0)))) (some false) (k b b.length 0 f.1 d.2.1.1 f.2.1 d.2.1.2.1))))
def J2(m:Nat)(l:qA6)(k:qB0)(i:qDb)(j:qC4)(d:List (Int × (Int × (Int × (Int × (T × Int))))))(c b h g:Int)(f e:List (Int × (Int × (Y8 × Bool)))):Z4 :=
 cond (ilt b c) (qa (qb d b) λ a =>
 i d c b (iw .u8 (qc (yg a.2.2.2.2.2 20) 1)) 0 h g a.1 a.2.1 a.2.2.1 a.2.2.2.1 a.2.2.2.2.1.kind a.2.2.2.2.1.name a.2.2.2.2.1.sort a.2.2.2.2.1.kids a.2.2.2.2.2 f e) (some true)
def qaa(m:Nat)(j:qA6)(i:qB0)(h:qDb)(g:qC4)(d:List (Int × (Int × (Int × (Int × (T × Int))))))(c b f:Int)(e:List (Int × (Int × (Y8 × Bool)))):Z4 :=
 cond (ilt b c) (qa (qb d b) λ a =>
 g d c b (iw .u8 (qc (yg a.2.2.2.2.2 20) 1)) 0 f a.1 a.2.1 a.2.2.1 a.2.2.2.1 a.2.2.2.2.1.kind a.2.2.2.2.1.name a.2.2.2.2.1.sort a.2.2.2.2.1.kids a.2.2.2.2.2 e) (some true)
def J3(m:Nat)(v:qA6)(x:qB0)(u:qDb)(w:qC4)(t:List (Int × (Int × (Int × (Int × (T × Int))))))(s r q p o n l k j h g:Int)(f:Y8)(e:Int)(d:TL)(c:Int)(b a:List (Int × (Int × (Y8 × Bool)))):Z4 :=
 cond (ilt p q) (qa (qo1 m (o,b,()) (n,a,()) (l,(k,(j,(h,(T.mk g f e d,c)))))) λ i=>cond (qe i.2.1) (some false)
 (u t s r q (iw .u8 (qc p 1)) i.1.1.1 i.1.2.1.1 l k j h g f e d c i.1.1.2.1 i.1.2.1.2.1)) (v t s (iw .i64 (qc r 1)) o n b a)
def J4(m:Nat)(u:qA6)(s:qB0)(t:qDb)(r:qC4)(l:List (Int × (Int × (Int × (Int × (T × Int))))))(k j i h g q p o n f:Int)(e:Y8)(d:Int)(c:TL)(b:Int)(a:List (Int × (Int × (Y8 × Bool)))):Z4 :=
 cond (ilt h i) (r l k j i (iw .u8 (qc h 1)) g q p o n f e d c b a) (s l k (iw .i64 (qc j 1)) g a)
def qg(m:Nat):=qJ ((λ _ _ _ _ _ _ _=>none,λ _ _ _ _ _=>none,λ _ _ _ _ _ _ _ _ _ _ _ _ _ _ _ _ _ _=>none,λ _ _ _ _ _ _ _ _ _ _ _ _ _ _ _ _=>none)) λ a=>(J2 m a.1 a.2.1 a.2.2.1 a.2.2.2,qaa m a.1 a.2.1 a.2.2.1 a.2.2.2,J3 m a.1 a.2.1 a.2.2.1 a.2.2.2,J4 m a.1 a.2.1 a.2.2.1 a.2.2.2)
def law31_NetworkScript:Nat->(Int->Z98->Z4):=qi (λ _ _=>none) λ m _=>qab m (qg m m).1 (qg m m).2.1 (qg m m).2.2.1 (qg m m).2.2.2
end
end Go.AmZ
namespace Go.AmZ
open Go Go.GxZ
def Ev{α : Type}(F:Nat->Nat->Option α)(r : α):Prop:=∃ B,∀ m k,B<=m->B<=k->F m k=some r
section
variable {α β : Type} {F G:Nat->Nat->Option α} {r : α}
theorem Ev.pure(r : α):Ev (λ _ _=>some r) r:=⟨0,λ _ _ _ _=>rfl⟩
theorem Ev.ret{r a : α}(h:r=a):Ev (λ _ _=>some r) a:=by subst h;exact .pure r
theorem Ev.bind{X:Nat->Nat->Option β}{K:Nat->Nat -> β -> Option α}{a : β}(h:Ev X a)(g:Ev (λ m k=>K m k a) r):Ev (λ m k=>qa (X m k) (K m k)) r:=by
 obtain⟨B,h⟩:=h;obtain⟨C,g⟩:=g;refine⟨max B C,λ m k b c=>?_⟩;simp only[h m k (by omega) (by omega),qa];exact g m k (by omega) (by omega)
theorem Ev.congr(h:Ev F r)(e:∀ m k,G m k=F m k):Ev G r:=by
 obtain⟨B,h⟩:=h;exact⟨B,λ m k a b=>(e m k).trans (h m k a b)⟩
theorem Ev.res{a : α}(h:Ev F r)(e:r=a):Ev F a:=by subst e;exact h
theorem Ev.succ{f:Nat->Option α}(h:Ev (λ m _=>f (m+1)) r):Ev (λ m _=>f m) r:=by
 obtain⟨B,h⟩:=h;refine⟨B+1,λ m k a b=>?_⟩;obtain⟨m,rfl⟩:∃ n,m=n+1:=⟨m-1,by omega⟩
 exact h m B (by omega) (wb _)
theorem Ev.loop{L:Nat->Nat->Option α}(h:Ev (λ m k=>L m (k+1)) r):Ev (λ m k=>L m k) r:=by
 obtain⟨B,h⟩:=h;refine⟨B+1,λ m k a b=>?_⟩;obtain⟨k,rfl⟩:∃ n,k=n+1:=⟨k-1,by omega⟩
 exact h m k (by omega) (by omega)
theorem Ev.diag{L:Nat->Nat->Option α}(h:Ev L r):Ev (λ m _=>L m m) r:=by
 obtain⟨B,h⟩:=h;exact⟨B,λ m k a _=>h m m a a⟩
theorem Ev.ct{b:Bool}(a:b=true)(h:Ev F r):Ev (λ m k=>cond b (F m k) (G m k)) r:=by subst a;exact h
theorem Ev.cf{b:Bool}(a:b=false)(h:Ev G r):Ev (λ m k=>cond b (F m k) (G m k)) r:=by subst a;exact h
theorem Ev.ite{b:Bool}(h:b=true->Ev F r)(g:b=false->Ev G r):Ev (λ m k=>cond b (F m k) (G m k)) r:=by
 cases b with
 | true=>exact h rfl
 | false=>exact g rfl
theorem Ev.some{x:Option β}{K:Nat->Nat -> β -> Option α}{a : β}(b:x=some a)(g:Ev (λ m k=>K m k a) r):Ev (λ m k=>qa x (K m k)) r:=by subst b;exact g
theorem Ev.case{l:List β}{K:Nat->Nat -> β -> List β -> Option α}(h:l=[]->Ev F r)(g:∀ x t,l=x::t->Ev (λ m k=>K m k x t) r):Ev (λ m k=>qkR l (F m k) (K m k)) r:=by
 cases l with
 | nil=>exact h rfl
 | cons x t=>exact g x t rfl
theorem Ev.get{x:Option α}(h:Ev (λ _ _=>x) r):x=Option.some r:=by
 obtain⟨B,h⟩:=h;exact h B B (wb _) (wb _)
end
theorem qr{a b:Int}:ilt a b=true↔a<b:=by unfold ilt;exact decide_eq_true_iff
theorem qn{a b:Int}:ilt a b=false↔b<=a:=by unfold ilt;rw[decide_eq_false_iff_not];omega
theorem jm{a b:Int}:ile a b=true↔a<=b:=by unfold ile;exact decide_eq_true_iff
theorem yv{a b:Int}:ile a b=false↔b<a:=by unfold ile;rw[decide_eq_false_iff_not];omega
theorem qk{a b:Int}:ieq a b=true↔a=b:=by unfold ieq;exact beq_iff_eq
theorem qh{a b:Int}:ieq a b=false↔a≠b:=by unfold ieq;exact beq_eq_false_iff_ne
theorem bnt{b:Bool}:qe b=true↔b=false:=by cases b<;>simp[qe]
theorem bnf{b:Bool}:qe b=false↔b=true:=by cases b<;>simp[qe]
theorem yQ{a b:List UInt8}:qy a b=true↔a=b:=by unfold qy;exact beq_iff_eq
theorem jQ{a b:List UInt8}:qy a b=false↔a≠b:=by unfold qy;exact beq_eq_false_iff_ne
theorem jT{n:Int}(h:-9223372036854775808<=n/\n<=9223372036854775807):iw .i64 n=n:=IntWalk.i64_in n h
theorem qiF(a b:Nat):qc (a:Int) (b:Int)=((a+b:Nat):Int):=by unfold qc;omega
theorem qD{n b:Nat}(h:n*b<=2 ^ 47)(a:0<b):zo n b=true:=by
 unfold zo;rw[decide_eq_true_iff];refine⟨h,?_⟩;have:n*1<=n*b:=vN _ a;omega
theorem zb{α : Type}(l:List α)(i:Nat):qb l (i:Int)=l[i]?:=by
 unfold qb;rw[if_pos (by omega),wF]
theorem qah{α : Type}(l:List α):qb l 0=l[0]?:=zb l 0
theorem qs{α : Type}{P:Nat->Prop}(l:List α)(g:l.length<2 ^ 62)(e:ilt (l.length:Int) (l.length:Int)=false->P l.length)
  (b:∀(i:Nat) (x : α),l[i]?=some x->l.drop i=x::l.drop (i+1)->ilt (i:Int) (l.length:Int)=true->qb l (i:Int)=some x->iw .i64 (qc (i:Int) 1)=((i+1:Nat):Int)->P (i+1)->P i):∀ i,i<=l.length->P i:=by
 intro i h;obtain⟨d,j⟩:∃ d,l.length=i+d:=⟨l.length-i,by omega⟩
 induction d generalizing i with
 | zero =>
   have:i=l.length:=by omega
   subst this;exact e (qn.2 (vj _))
 | succ d f =>
   have c:i<l.length:=by omega
   have a:=List.getElem?_eq_getElem c;refine b i _ a (vZ c) (qr.2 (by omega)) (by rw[zb,a]) ?_ (f (i+1) (by omega) (by omega));rw[show qc (i:Int) 1=((i+1:Nat):Int) by unfold qc;omega,jT (by omega)]
abbrev war:=@Ev.bind
abbrev wat:=@Ev.pure
abbrev wau:=@Ev.ct
abbrev wav:=@Ev.some
abbrev waw:=@Ev.cf
abbrev wax:=@Ev.ite
abbrev way:=@Ev.ret
abbrev waz:=@Ev.succ
abbrev waA:=@Ev.loop
abbrev waB:=@Ev.diag
end Go.AmZ
namespace Go.AmZ
open Go Go.GxZ
set_option linter.unusedVariables false
theorem qzK(m):qgc (m+1)=qiw m:=rfl
theorem qmI(m):QR (m+1)=qbb m:=rfl
theorem qDK(m):qjt (m+1)=qll m:=rfl
theorem qAv(m):qdX (m+1)=qe8 m (QD m m):=rfl
theorem qok(m k):(QD m (k+1))=qfn m (QD m k):=rfl
theorem qDd(m):ye (m+1)=qgw m (ye m) (jI m (ye m) m):=rfl
theorem qqn(m k):(jI m (ye m) (k+1))=qgv m (ye m) (jI m (ye m) k):=rfl
theorem qAV(m):yG (m+1)=qjU m:=rfl
theorem qvv(m):qdN (m+1)=qdk m (Jd m m):=rfl
theorem qlA(m k):(Jd m (k+1))=qdG m (Jd m k):=rfl
theorem qwZ(m):qE (m+1)=qew m (qE m) (qU m (qE m) m).1 (qU m (qE m) m).2:=rfl
theorem qnx(m k):(qU m (qE m) (k+1)).1=qet m (qE m) (qU m (qE m) k).1 (qU m (qE m) k).2:=rfl
theorem qnf(m k):(qU m (qE m) (k+1)).2=qey m (qE m) (qU m (qE m) k).1 (qU m (qE m) k).2:=rfl
theorem qyp(m):qeQ (m+1)=qhx m:=rfl
theorem qn4(m):qaJ (m+1)=qbI m:=rfl
theorem qr3(m):zH (m+1)=qbw m (zH m) (Qa m (zH m) m):=rfl
theorem qis(m k):(Qa m (zH m) (k+1))=qby m (zH m) (Qa m (zH m) k):=rfl
theorem qDU(m):qeU (m+1)=qlU m:=rfl
theorem qD1(m):Qk (m+1)=qhN m (Qk m) (qcl m (Qk m) m):=rfl
theorem qsd(m k):(qcl m (Qk m) (k+1))=qh9 m (Qk m) (qcl m (Qk m) k):=rfl
theorem qxt(m):qB (m+1)=qep m (qB m) (Qd m (qB m) m):=rfl
theorem qhF(m k):(Qd m (qB m) (k+1))=qbW m (qB m) (Qd m (qB m) k):=rfl
theorem qdb(m):za (m+1)=qsI (qB m):=rfl
theorem qtZ(m):jd (m+1)=qfS m:=rfl
theorem qb5(m):qI (m+1)=qvH (jd m):=rfl
theorem qA1(m):jy (m+1)=qgD m (jy m) (qbd m (jy m) m):=rfl
theorem qqp(m k):(qbd m (jy m) (k+1))=qgr m (jy m) (qbd m (jy m) k):=rfl
theorem qyq(m):qhY (m+1)=qez m (JY m m):=rfl
theorem qmQ(m k):(JY m (k+1))=qer m (JY m k):=rfl
theorem qz5(m):qnO (m+1)=qiL m:=rfl
theorem qDS(m):qnE (m+1)=qlM m:=rfl
theorem qAe(m):J6 (m+1)=qit m:=rfl
theorem qDR(m):jt (m+1)=qlY m:=rfl
theorem qtS(m):qc9 (m+1)=qfU m:=rfl
theorem qge(m):zO (m+1)=yZ m (qp m m).1 (qp m m).2:=rfl
theorem qaI(m k):(qp m (k+1)).1=yY m (qp m k).1 (qp m k).2:=rfl
theorem qaG(m k):(qp m (k+1)).2=ja m (qp m k).1 (qp m k).2:=rfl
theorem qEi(m):qm1 (m+1)=qhW m (qcf m m):=rfl
theorem qrO(m k):(qcf m (k+1))=qhv m (qcf m k):=rfl
theorem qGS(m):qlS (m+1)=qi7 m (qdg m m):=rfl
theorem qtq(m k):(qdg m (k+1))=qjk m (qdg m k):=rfl
theorem qwY(m):yE (m+1)=qem m (yE m) (QQ m (yE m) m):=rfl
theorem qmK(m k):(QQ m (yE m) (k+1))=qes m (yE m) (QQ m (yE m) k):=rfl
theorem qyu(m):qhD (m+1)=qen m (qa0 m m):=rfl
theorem qv8(m k):(qa0 m (k+1))=qhn m (qa0 m k):=rfl
theorem qIR(m):qap (m+1)=qkJ m (qap m) (qe1 m (qap m) m):=rfl
theorem qwb(m k):(qe1 m (qap m) (k+1))=qkF m (qap m) (qe1 m (qap m) k):=rfl
theorem qHL(m):qsD (m+1)=qkW m (qeE m m):=rfl
theorem qwd(m k):(qeE m (k+1))=qkH m (qeE m k):=rfl
theorem qsU(m):qcb (m+1)=qeD m:=rfl
theorem qtR(m):zu (m+1)=qcE m (zu m) (QI m (zu m) m):=rfl
theorem qke(m k):(QI m (zu m) (k+1))=qcO m (zu m) (QI m (zu m) k):=rfl
theorem qqK(m):qaE (m+1)=qdz m:=rfl
theorem Q7(m):qK (m+1)=qF m (qt m m):=rfl
theorem yr(m k):(qt m (k+1))=qG m (qt m k):=rfl
theorem qs0(m):qbX (m+1)=qeI m:=rfl
theorem qrK(m):zq (m+1)=qbv m (zq m) (jq m (zq m) m):=rfl
theorem qir(m k):(jq m (zq m) (k+1))=qbx m (zq m) (jq m (zq m) k):=rfl
theorem qz8(m):qcd (m+1)=qi0 m:=rfl
theorem quL(m):qaZ (m+1)=qcB m (jZ m m):=rfl
theorem qks(m k):(jZ m (k+1))=qcM m (jZ m k):=rfl
theorem qvG(m):Jq (m+1)=qdp m (qA m m).1 (qA m m).2.1 (qA m m).2.2:=rfl
theorem qmb(m k):(qA m (k+1)).1=qdE m (qA m k).1 (qA m k).2.1 (qA m k).2.2:=rfl
theorem ql2(m k):(qA m (k+1)).2.1=qdh m (qA m k).1 (qA m k).2.1 (qA m k).2.2:=rfl
theorem qlv(m k):(qA m (k+1)).2.2=qdo m (qA m k).1 (qA m k).2.1 (qA m k).2.2:=rfl
theorem qs6(m):qd8 (m+1)=qca m (Qj m m):=rfl
theorem qjE(m k):(Qj m (k+1))=qbV m (Qj m k):=rfl
theorem qqG(m):qcF (m+1)=qdJ m:=rfl
theorem qbS(m):zV (m+1)=zF m (qC m m):=rfl
theorem yy(m k):(qC m (k+1))=qZ m (qC m k):=rfl
theorem qa7(m):zC (m+1)=yi m:=rfl
theorem qsW(m):qd9 (m+1)=qeO m:=rfl
theorem qxC(m):qhq (m+1)=qeh m (JT m m):=rfl
theorem qm9(m k):(JT m (k+1))=qex m (JT m k):=rfl
theorem qxs(m):qhm (m+1)=qhw m:=rfl
theorem qvJ(m):yC (m+1)=qdu m (yC m) (Jk m (yC m) m):=rfl
theorem qlG(m k):(Jk m (yC m) (k+1))=qdn m (yC m) (Jk m (yC m) k):=rfl
theorem qvh(m):qgn (m+1)=qgZ m:=rfl
theorem qub(m):qe9 (m+1)=qfQ m:=rfl
theorem qpX(m):zc (m+1)=qas m (zc m) (yH m (zc m) m):=rfl
theorem qhd(m k):(yH m (zc m) (k+1))=qaq m (zc m) (yH m (zc m) k):=rfl
theorem qyt(m):qeN (m+1)=qhi m:=rfl
theorem qmE(m):qcZ (m+1)=qa4 m:=rfl
theorem JL(m):q9 (m+1)=qO m (qv m m):=rfl
theorem yT(m k):(qv m (k+1))=qN m (qv m k):=rfl
theorem qq2(m):ym (m+1)=qd3 m:=rfl
theorem qec(m):yx (m+1)=QC m:=rfl
theorem qt5(m):zW (m+1)=qcL m (zW m) (jX m (zW m) m):=rfl
theorem qkg(m k):(jX m (zW m) (k+1))=qcz m (zW m) (jX m (zW m) k):=rfl
theorem qsY(m):qed (m+1)=qeV m:=rfl
theorem qoq(m):JJ (m+1)=qce m:=rfl
theorem qB9(m):qkU (m+1)=qgk m (qbf m m):=rfl
theorem qqt(m k):(qbf m (k+1))=qgF m (qbf m k):=rfl
theorem qDH(m):qjI (m+1)=ql9 m:=rfl
theorem qnP(m):Ji (m+1)=qbH m:=rfl
theorem qkL(m):jv (m+1)=qau m:=rfl
theorem qmv(m):QX (m+1)=qbi m:=rfl
theorem qDN(m):qmV (m+1)=qlT m:=rfl
theorem qnS(m):zg (m+1)=qbB m:=rfl
theorem qnH(m):Ja (m+1)=JI m (yf m m):=rfl
theorem qbC(m k):(yf m (k+1))=Qg m (yf m k):=rfl
theorem qcr(m):qx (m+1)=Qh m:=rfl
theorem qnZ(m):jx (m+1)=qpN (qx m) m:=rfl
theorem qs5(m):qeg (m+1)=qeF m:=rfl
theorem qkv(m):ju (m+1)=qaB m:=rfl
theorem qxX(m):qa8 (m+1)=qhM m:=rfl
theorem qC2(m):yV (m+1)=qgy m (yV m) (qa9 m (yV m) m):=rfl
theorem qqs(m k):(qa9 m (yV m) (k+1))=qgH m (yV m) (qa9 m (yV m) k):=rfl
theorem qwR(m):zK (m+1)=qdB m (zK m) (Jf m (zK m) m):=rfl
theorem ql3(m k):(Jf m (zK m) (k+1))=qdj m (zK m) (Jf m (zK m) k):=rfl
theorem qCc(m):Jh (m+1)=qj3 m:=rfl
theorem qmd(m):Qs (m+1)=qaP m:=rfl
theorem qyb(m):jc (m+1)=qeu m (jc m) (JZ m (jc m) m):=rfl
theorem qnC(m k):(JZ m (jc m) (k+1))=qea m (jc m) (JZ m (jc m) k):=rfl
theorem qEa(m):qm8 (m+1)=qhG m (qct m m):=rfl
theorem qrB(m k):(qct m (k+1))=qho m (qct m k):=rfl
theorem qEm(m):qm0 (m+1)=qh6 m (qch m m):=rfl
theorem qrt(m k):(qch m (k+1))=qh0 m (qch m k):=rfl
theorem qDJ(m):qjC (m+1)=qlz m:=rfl
theorem qmB(m):qan (m+1)=qbc m:=rfl
theorem qAw(m):jh (m+1)=qfo m (jh m) (qav m (jh m) m):=rfl
theorem qoS(m k):(qav m (jh m) (k+1))=qfv m (jh m) (qav m (jh m) k):=rfl
theorem qxH(m):qe6 (m+1)=qhu m:=rfl
theorem qzP(m):qjg (m+1)=qiE m:=rfl
theorem qw2(m):qak (m+1)=qeq m (JQ m m):=rfl
theorem qnw(m k):(JQ m (k+1))=qej m (JQ m k):=rfl
theorem qC5(m):qky (m+1)=qjP m:=rfl
theorem qAc(m):jL (m+1)=qfa m (jL m) (qax m (jL m) m):=rfl
theorem qol(m k):(qax m (jL m) (k+1))=qfc m (jL m) (qax m (jL m) k):=rfl
theorem qzY(m):jo (m+1)=qiN m:=rfl
theorem qAR(m):qfb (m+1)=qgm m (qbp m m):=rfl
theorem qqo(m k):(qbp m (k+1))=qgq m (qbp m k):=rfl
theorem qBi(m):qkQ (m+1)=qgI m (qbk m m):=rfl
theorem qqz(m k):(qbk m (k+1))=qgt m (qbk m k):=rfl
theorem qxy(m):qhh (m+1)=qeo m (JR m m):=rfl
theorem qni(m k):(JR m (k+1))=qee m (JR m k):=rfl
theorem qAr(m):jl (m+1)=qfG m (jl m) (Ju m (jl m) m):=rfl
theorem qoG(m k):(Ju m (jl m) (k+1))=qfx m (jl m) (Ju m (jl m) k):=rfl
theorem qz4(m):qdW (m+1)=qiQ m:=rfl
theorem qDG(m):Ql (m+1)=qij m (Ql m) (qcs m (Ql m) m):=rfl
theorem qrb(m k):(qcs m (Ql m) (k+1))=qh5 m (Ql m) (qcs m (Ql m) k):=rfl
theorem qEg(m):qjM (m+1)=qhr m (qcp m m):=rfl
theorem qrM(m k):(qcp m (k+1))=qid m (qcp m k):=rfl
theorem qDL(m):qnd (m+1)=qh4 m (qcm m m):=rfl
theorem qrg(m k):(qcm m (k+1))=qhL m (qcm m k):=rfl
theorem qCl(m):qkM (m+1)=qgu m (qa3 m m):=rfl
theorem qqB(m k):(qa3 m (k+1))=qgE m (qa3 m k):=rfl
theorem qBt(m):qkV (m+1)=qjZ m:=rfl
theorem qxj(m):qhI (m+1)=qhQ m:=rfl
theorem qD0(m):Qn (m+1)=qlK m:=rfl
theorem qGp(m):qcc (m+1)=qnJ m:=rfl
theorem qu5(m):qgp (m+1)=qgY m:=rfl
theorem qAf(m):qjh (m+1)=qfC m (qaC m m):=rfl
theorem qob(m k):(qaC m (k+1))=qft m (qaC m k):=rfl
theorem qCp(m):qku (m+1)=qjT m:=rfl
theorem qEk(m):qnD (m+1)=qht m (qco m m):=rfl
theorem qsg(m k):(qco m (k+1))=qhs m (qco m k):=rfl
theorem qx1(m):qhJ (m+1)=qeb m (JV m m):=rfl
theorem qmM(m k):(JV m (k+1))=qei m (JV m k):=rfl
theorem qDu(m):qhS (m+1)=qgC m (qaj m m):=rfl
theorem qqC(m k):(qaj m (k+1))=qgs m (qaj m k):=rfl
theorem quA(m):zZ (m+1)=qcA m (zZ m) (jV m (zZ m) m):=rfl
theorem qkj(m k):(jV m (zZ m) (k+1))=qcN m (zZ m) (jV m (zZ m) k):=rfl
theorem qCX(m):qk1 (m+1)=qjQ m:=rfl
theorem qDW(m):qnn (m+1)=qii m (qcv m m):=rfl
theorem qr2(m k):(qcv m (k+1))=qhV m (qcv m k):=rfl
theorem qvx(m):qbN (m+1)=qgP m:=rfl
theorem qz3(m):jn (m+1)=qfr m (jn m) (Jr m (jn m) m):=rfl
theorem qor(m k):(Jr m (jn m) (k+1))=qff m (jn m) (Jr m (jn m) k):=rfl
theorem qD5(m):qjr (m+1)=qh7 m (J0 m m):=rfl
theorem qr6(m k):(J0 m (k+1))=qhU m (J0 m k):=rfl
theorem qwH(m):yk (m+1)=qds m (yk m) (Qm m (yk m) m):=rfl
theorem qlZ(m k):(Qm m (yk m) (k+1))=qdl m (yk m) (Qm m (yk m) k):=rfl
theorem qFS(m):qiA (m+1)=qnU m:=rfl
theorem qAp(m):qdY (m+1)=qfD m (Jt m m):=rfl
theorem qou(m k):(Jt m (k+1))=qfB m (Jt m k):=rfl
theorem quH(m):qfp (m+1)=qcI m (qm m m).1 (qm m m).2.1 (qm m m).2.2.1 (qm m m).2.2.2:=rfl
theorem qkl(m k):(qm m (k+1)).1=qcD m (qm m k).1 (qm m k).2.1 (qm m k).2.2.1 (qm m k).2.2.2:=rfl
theorem qkp(m k):(qm m (k+1)).2.1=qcG m (qm m k).1 (qm m k).2.1 (qm m k).2.2.1 (qm m k).2.2.2:=rfl
theorem qkq(m k):(qm m (k+1)).2.2.1=qcy m (qm m k).1 (qm m k).2.1 (qm m k).2.2.1 (qm m k).2.2.2:=rfl
theorem qkk(m k):(qm m (k+1)).2.2.2=qcC m (qm m k).1 (qm m k).2.1 (qm m k).2.2.1 (qm m k).2.2.2:=rfl
theorem qCS(m):qdC (m+1)=qjS m:=rfl
theorem qv4(m):qdR (m+1)=qgN m:=rfl
theorem qwm(m):qgj (m+1)=qdr m (Jg m m):=rfl
theorem qly(m k):(Jg m (k+1))=qdH m (Jg m k):=rfl
theorem qDT(m):qmT (m+1)=qih m (qaY m m):=rfl
theorem qrZ(m k):(qaY m (k+1))=qie m (qaY m k):=rfl
theorem qz7(m):qjc (m+1)=qi2 m:=rfl
theorem qxx(m):je (m+1)=qek m (je m) (JO m (je m) m):=rfl
theorem qnG(m k):(JO m (je m) (k+1))=qd7 m (je m) (JO m (je m) k):=rfl
theorem qym(m):qio (m+1)=qhC m:=rfl
theorem qzL(m):qf8 (m+1)=qfK m (qaA m m):=rfl
theorem qoO(m k):(qaA m (k+1))=qfA m (qaA m k):=rfl
theorem qzQ(m):qje (m+1)=qi4 m:=rfl
theorem qAq(m):qjn (m+1)=qfs m (qaD m m):=rfl
theorem qoi(m k):(qaD m (k+1))=qfh m (qaD m k):=rfl
theorem qvC(m):qdK (m+1)=qgM m:=rfl
theorem qAn(m):ji (m+1)=qfg m (ji m) (Jv m (ji m) m):=rfl
theorem qoc(m k):(Jv m (ji m) (k+1))=qfu m (ji m) (Jv m (ji m) k):=rfl
theorem qxT(m):qh1 (m+1)=qhT m:=rfl
theorem qAB(m):qi9 (m+1)=qfJ m (qaw m m):=rfl
theorem qoJ(m k):(qaw m (k+1))=qfy m (qaw m k):=rfl
theorem qA9(m):qhZ (m+1)=qkc m:=rfl
theorem qpl(m):qb7 (m+1)=qcY m:=rfl
theorem qn7(m):qaV (m+1)=qbJ m:=rfl
theorem qkS(m):JH (m+1)=QA m (yc m m):=rfl
theorem qdU(m k):(yc m (k+1))=QB m (yc m k):=rfl
theorem qpL(m):jr (m+1)=qcS m:=rfl
theorem qnQ(m):qaT (m+1)=qbE m:=rfl
theorem qDk(m):qk3 (m+1)=qj1 m:=rfl
theorem qlI(m):qdw (m+1)=qbK m (jF m m):=rfl
theorem qqE(m k):(jF m (k+1))=qgo m (jF m k):=rfl
theorem qB6(m):qdm (m+1)=qgz m (qa5 m m):=rfl
theorem qzH(m k):(qa5 m (k+1))=qj0 m (qa5 m k):=rfl
theorem qia(m):qV (m+1)=qay m (qV m) (Qt m (qV m) m):=rfl
theorem qj8(m k):(Qt m (qV m) (k+1))=qdM m (qV m) (Qt m (qV m) k):=rfl
theorem qxB(m):qh3 (m+1)=qhR m:=rfl
theorem qmy(m):qat (m+1)=qbl m:=rfl
theorem qpw(m):qbQ (m+1)=qcX m:=rfl
theorem qoD(m):qbz (m+1)=qcq m:=rfl
theorem qn9(m):qaS (m+1)=JD m (yL m m):=rfl
theorem qfM(m k):(yL m (k+1))=JB m (yL m k):=rfl
theorem qmJ(m):qao (m+1)=Je m (yw m m):=rfl
theorem qeB(m k):(yw m (k+1))=Jm m (yw m k):=rfl
theorem qoE(m):qbu (m+1)=qci m:=rfl
theorem qHp(m):qo1 (m+1)=qnV m:=rfl
theorem qoo(m):law31_NetworkScript (m+1)=qab m (qg m m).1 (qg m m).2.1 (qg m m).2.2.1 (qg m m).2.2.2:=rfl
theorem qf6(m k):(qg m (k+1)).1=J2 m (qg m k).1 (qg m k).2.1 (qg m k).2.2.1 (qg m k).2.2.2:=rfl
theorem qga(m k):(qg m (k+1)).2.1=qaa m (qg m k).1 (qg m k).2.1 (qg m k).2.2.1 (qg m k).2.2.2:=rfl
theorem qgf(m k):(qg m (k+1)).2.2.1=J3 m (qg m k).1 (qg m k).2.1 (qg m k).2.2.1 (qg m k).2.2.2:=rfl
theorem qf2(m k):(qg m (k+1)).2.2.2=J4 m (qg m k).1 (qg m k).2.1 (qg m k).2.2.1 (qg m k).2.2.2:=rfl
end Go.AmZ
namespace Go.AmZ
open Go Go.GxZ
def ckS(p:Int × Int)(c:UInt8):Int × Int:=((p.1+c.toNat) % 65521,(p.2+(p.1+c.toNat) % 65521) % 65521)
def ckF(l:List UInt8):Int × Int:=l.foldl ckS (1,0)
def InC(p:Int × Int):Prop:=0<=p.1/\p.1<65521/\0<=p.2/\p.2<65521
theorem qNI{p:Int × Int}(c:UInt8)(h:InC p):InC (ckS p c):=by
 obtain⟨e,d,b,a⟩:=h;unfold ckS InC;simp only;omega
theorem quW:∀(l:List UInt8) (p:Int × Int),InC p->InC (l.foldl ckS p)
 | [],_,h=>h
 | c::l,p,h=>quW l _ (qNI c h)
theorem qwI(l:List UInt8):InC (ckF l):=quW l _ (by unfold InC;omega)
theorem qEF{p:Int × Int}(c:UInt8)(h:InC p):yg (iw .u32 (qc p.1 (iw .u32 ((UInt8.toNat c:Nat):Int)))) 65521=(ckS p c).1 /\
  yg (iw .u32 (qc p.2 (yg (iw .u32 (qc p.1 (iw .u32 ((UInt8.toNat c:Nat):Int)))) 65521))) 65521=(ckS p c).2:=by
 obtain⟨j,i,g,f⟩:=h;have e:c.toNat<256:=c.toNat_lt;have e1:iw .u32 ((UInt8.toNat c:Nat):Int)=((UInt8.toNat c:Nat):Int):=IntWalk.u32_in _ (by omega);have d:iw .u32 (qc p.1 ((UInt8.toNat c:Nat):Int))=p.1+((UInt8.toNat c:Nat):Int):=IntWalk.u32_in _ (by unfold qc;omega);have b:yg (p.1+((UInt8.toNat c:Nat):Int)) 65521=(p.1+((UInt8.toNat c:Nat):Int)) % 65521:=IntWalk.rem_in _ _ (by omega);rw[e1,d,b];refine⟨rfl,?_⟩;have a:iw .u32 (qc p.2 ((p.1+((UInt8.toNat c:Nat):Int)) % 65521))=p.2+(p.1+((UInt8.toNat c:Nat):Int)) % 65521:=IntWalk.u32_in _ (by unfold qc;omega);rw[a];exact IntWalk.rem_in _ _ (by omega)
def ckN(p:Int × Int):Int:=65536*p.2+p.1
theorem qPt{p:Int × Int}(h:InC p):qmk .or .u32 (qxR .u32 p.2 16) p.1=ckN p:=by
 obtain⟨h1,h2,h3,h4⟩:=h;obtain⟨a,ha⟩:=kt h1;obtain⟨b,hb⟩:=kt h3
 have e1:qxR .u32 p.2 16=((b*65536:Nat):Int):=by
  show IntKind.u32.wrap (p.2*2 ^ (min (16:Int).toNat 32))=_;rw[show(2:Int) ^ (min (16:Int).toNat 32)=65536 from rfl,IntWalk.u32_in _ (by omega),hb];omega
 rw[e1,ha];show IntKind.u32.wrap ((BitVec.ofInt 32 ((b*65536:Nat):Int) ||| BitVec.ofInt 32 (a:Int)).toNat:Int)=_
 have e2:(BitVec.ofInt 32 ((b*65536:Nat):Int) ||| BitVec.ofInt 32 (a:Int)).toNat=b*65536+a:=by
  rw[BitVec.ofInt_natCast,BitVec.ofInt_natCast,BitVec.toNat_or,BitVec.toNat_ofNat,BitVec.toNat_ofNat,xr (by omega),xr (by omega)];have:=Nat.two_pow_add_eq_or_of_lt (i:=16) (b:=a) (by omega) b;rw[show(2:Nat) ^ 16=65536 from rfl]at this;rw[xF b 65536];exact this.symm
 rw[e2,IntWalk.u32_in _ (by omega)];unfold ckN;omega
theorem qNQ{p:Int × Int}(h:InC p):iw .u32 (qc (iw .u32 (qts 65536 p.2)) p.1)=ckN p:=by
 obtain⟨d,c,b,a⟩:=h;have e1:iw .u32 (qts 65536 p.2)=65536*p.2:=IntWalk.u32_in _ (by unfold qts;omega);rw[e1];exact IntWalk.u32_in _ (by unfold qc;omega)
theorem qJk{p:Int × Int}(h:InC p):0<=ckN p/\ckN p<4294967296:=by
 obtain⟨d,c,b,a⟩:=h;unfold ckN;omega
theorem qwB{l:List UInt8}{i:Nat}{x:UInt8}(h:l[i]?=some x)(p:Int × Int):(l.take (i+1)).foldl ckS p=ckS ((l.take i).foldl ckS p) x:=by
 rw[List.take_succ_eq_append_getElem (List.getElem?_eq_some_iff.1 h).1,xm,(List.getElem?_eq_some_iff.1 h).2];rfl
theorem qIZ(s:List UInt8)(d:s.length<2 ^ 62):Ev (λ m _=>qkU m s) (ckN (ckF s)):=by
 refine waz ?_;simp only[qB9,qgk]
 have a:=qs (P := λ i=>Ev (λ m k=>qbf m k s ((s.take i).foldl ckS (1,0)).1 ((s.take i).foldl ckS (1,0)).2 s.length i) (ckN (ckF s))) s d
  (λ b=>by
   refine waA ?_;simp only[qqt,qgF];refine waw b (way ?_);rw[wC];exact qPt (qwI s))
  (λ i x c j b f e g=>by
   refine waA ?_;simp only[qqt,qgF];refine wau b (wav f ?_);obtain⟨e1,h⟩:=qEF x (quW (s.take i) (1,0) (by unfold InC;omega));rw[e,h,e1,<- qwB c];exact g)
 exact waB (L := λ m k=>qbf m k s 1 0 s.length 0) (a 0 (we _))
theorem qGV(s:List UInt8)(d:s.length<2 ^ 62):Ev (λ m _=>qi9 m s) (ckN (ckF s)):=by
 refine waz ?_;simp only[qAB,qfJ]
 have a:=qs (P := λ i=>Ev (λ m k=>qaw m k s ((s.take i).foldl ckS (1,0)).1 ((s.take i).foldl ckS (1,0)).2 i) (ckN (ckF s))) s d
  (λ b=>by
   refine waA ?_;simp only[qoJ,qfy];refine waw b (way ?_);rw[wC];exact qNQ (qwI s))
  (λ i x c j b f e g=>by
   refine waA ?_;simp only[qoJ,qfy];refine wau b (wav f ?_);obtain⟨e1,h⟩:=qEF x (quW (s.take i) (1,0) (by unfold InC;omega));rw[e,h,e1,<- qwB c];exact g)
 exact waB (L := λ m k=>qaw m k s 1 0 0) (a 0 (we _))
def ckB(v:Int):List UInt8:=zJ [v / 16777216 % 256,v / 65536 % 256,v / 256 % 256,v % 256]
def qjd(s:List UInt8):List UInt8:=ckB (ckN (ckF s))++s
theorem qIF(s:List UInt8):(qjd s).length=s.length+4:=by
 unfold qjd ckB zJ;rw[wc,wA];show 4+s.length=_;omega
theorem qFX{v:Int}(n:Nat)(hn:n<=32):qbG .u32 v (n:Int)=v / (2:Int) ^ n:=by
 show v.fdiv (2 ^ (min ((n:Nat):Int).toNat 32))=_;rw[wF,kK hn];exact vV v (by exact Int.le_of_lt (Int.pow_pos (by decide)))
theorem iw8(v:Int):iw .u8 v=v % 256:=IntKind.wrap_u8 v
theorem qF6{v:Int}(h:0<=v/\v<4294967296):zJ [iw .u8 (qbG .u32 v 24),iw .u8 (qbG .u32 v 16),iw .u8 (qbG .u32 v 8),iw .u8 v]=ckB v:=by
 have e1:=qFX (v:=v) 24 (by omega);have b:=qFX (v:=v) 16 (by omega);have a:=qFX (v:=v) 8 (by omega);rw[show qbG .u32 v 24=v / 16777216 from e1,show qbG .u32 v 16=v / 65536 from b,show qbG .u32 v 8=v / 256 from a,iw8,iw8,iw8,iw8];rfl
theorem qEh{v:Int}(h:0<=v/\v<4294967296):zJ [iw .u8 (iw .u32 (qiM v 16777216)),iw .u8 (yg (iw .u32 (qiM v 65536)) 256),iw .u8 (yg (iw .u32 (qiM v 256)) 256),iw .u8 (yg v 256)]=ckB v:=by
 have q:∀ d:Int,0<d->iw .u32 (qiM v d)=v / d := λ d a=>IntWalk.u32_quo v d ⟨h.1,by omega,by omega⟩;have r:∀ x:Int,0<=x->yg x 256=x % 256 := λ x c=>IntWalk.rem_in _ _ c;have b:∀ d:Int,0<d->0<=v / d := λ d a=>Int.ediv_nonneg h.1 (Int.le_of_lt a);rw[q _ (by omega),q _ (by omega),q _ (by omega),r _ (b _ (by omega)),r _ (b _ (by omega)),r _ h.1,iw8,iw8,iw8,iw8,waq,waq,waq];rfl
theorem qi1{a b:List UInt8}(h:a.length+b.length<2 ^ 62):qgG a b=true:=by
 unfold qgG;rw[decide_eq_true_iff,show IntKind.i64.max=9223372036854775807 from rfl];omega
theorem qFu(s:List UInt8)(a:s.length<=2 ^ 61):Ev (λ m _=>qjI m s) (qjd s):=by
 refine waz ?_;simp only[qDH,ql9];refine war (qIZ s (by omega)) ?_;rw[qF6 (qJk (qwI s))];exact wau (qi1 (by show 4+s.length<_;omega)) (wat _)
theorem qA8(s:List UInt8)(a:s.length<=2 ^ 61):Ev (λ m _=>qhZ m s) (qjd s):=by
 refine waz ?_;simp only[qA9,qkc];refine war (qGV s (by omega)) ?_;rw[qEh (qJk (qwI s))];exact wau (qi1 (by show 4+s.length<_;omega)) (wat _)
end Go.AmZ
namespace Go.GxZ
def size:T->Nat:=T.para λ _ a=>1+a.sum
theorem qL(t:T):size t=1+(t.kids.map size).sum:=T.para_eq _ _
theorem size_pos(t:T):1<=size t:=by rw[qL];omega
theorem qF3(l:List T):l.length<=(l.map size).sum:=by
 induction l with
 | nil=>simp
 | cons x l a=>have:=size_pos x;simp only[wu,wo,kD];omega
theorem qkD(l:List T)(x:T)(h:x∈l):size x<=(l.map size).sum:=by
 induction l with
 | nil=>cases h
 | cons y l a =>
   simp only[wo,kD];rcases wx.1 h with rfl | h
   ·omega
   ·have:=a h;omega
theorem jH(t:T)(x:T)(h:x∈t.kids):size x<size t:=by
 have:=qkD t.kids x h;rw[qL t];omega
theorem yz(t:T):t.kids.length<size t:=by
 have:=qF3 t.kids;rw[qL t];omega
def sgn(a b:Int):Int:=if a<b then -1 else if b<a then 1 else 0
def thn(x y:Int):Int:=if x=0 then y else x
structure Cmp {α : Type} (f : α -> α -> Int):Prop where
 rng:∀ a b,f a b=-1\/f a b=0\/f a b=1
 anti:∀ a b,f b a=- f a b
 trans:∀ a b c,f a b=-1->f b c=-1->f a c=-1
 same:∀ a b c,f a b=0->f b c=f a c
theorem Cmp.thn{α : Type}{f g : α -> α -> Int}(d:Cmp f)(l:Cmp g):Cmp λ a b=>thn (f a b) (g a b):=by
 constructor
 ·intro a b;have:=d.rng a b;have:=l.rng a b;unfold GxZ.thn;split<;>omega
 ·intro a b;have:=d.anti a b;have:=l.anti a b;unfold GxZ.thn;split<;>split<;>omega
 ·intro a b c k j;have p:=d.anti a b;have a2:=d.anti b c;have a3:=d.anti a c;have n:=d.trans a b c;have t2:=l.trans a b c;have m:=d.same a b c;have s2:=d.same c b a;have o:=d.rng a b;have r2:=d.rng b c;have r3:=d.rng a c;unfold GxZ.thn at k j |-
  by_cases i:f a b=0
  ·by_cases e:f b c=0
   ·rw[if_pos i]at k;rw[if_pos e]at j;rw[if_pos (by rw[<- m i];exact e)];exact t2 k j
   ·rw[if_neg e]at j;rw[if_neg (by rw[<- m i];exact e),<- m i];exact j
  ·rw[if_neg i]at k;by_cases e:f b c=0
   ·have:=s2 (by omega);rw[if_neg (by omega)];omega
   ·rw[if_neg e]at j;have:=n k j;rw[if_neg (by omega)];exact this
 ·intro a b c h
  have i:f a b=0:=by
   unfold GxZ.thn at h;split at h
   ·assumption
   ·exact absurd h (by assumption)
  have e:g a b=0:=by
   unfold GxZ.thn at h
   rwa [if_pos i]at h
  show GxZ.thn _ _=GxZ.thn _ _;rw[d.same a b c i,l.same a b c e]
theorem Cmp.on{α d:Type}{f:d->d->Int}(c:Cmp f)(p : α -> d):Cmp λ a b=>f (p a) (p b) :=
 ⟨λ _ _=>c.rng _ _,λ _ _=>c.anti _ _,λ _ _ _=>c.trans _ _ _,λ _ _ _=>c.same _ _ _⟩
theorem qsK:Cmp sgn:=by
 constructor
 ·intro a b;unfold sgn;split<;>(try split)<;>omega
 ·intro a b;unfold sgn;split<;>split<;>(try split)<;>omega
 ·intro a b c;unfold sgn;split<;>split<;>(try split)<;>(try split)<;>omega
 ·intro a b c;unfold sgn;split<;>split<;>(try split)<;>(try split)<;>omega
theorem qlt{a b:Int}(h:sgn a b=0):a=b:=by unfold sgn at h;split at h<;>(try split at h)<;>omega
theorem qLC(a:Int):sgn a a=0:=by unfold sgn;split<;>(try split)<;>omega
open Lib (compareBytes)
theorem qzq(a:List UInt8):compareBytes a a=0:=by
 induction a with
 | nil=>rfl
 | cons x a b=>simp[compareBytes,b]
theorem qpH:∀ a b:List UInt8,compareBytes a b=-1\/compareBytes a b=0\/compareBytes a b=1
 | [],[]=>by simp[compareBytes]
 | [],_::_=>by simp[compareBytes]
 | _::_,[]=>by simp[compareBytes]
 | x::a,y::b=>by
   unfold compareBytes;split
   ·simp
   ·split
    ·simp
    ·exact qpH a b
theorem qzo:∀ a b:List UInt8,compareBytes b a=- compareBytes a b
 | [],[]=>by simp[compareBytes]
 | [],_::_=>by simp[compareBytes]
 | _::_,[]=>by simp[compareBytes]
 | x::a,y::b=>by
   have:=qzo a b;unfold compareBytes;simp only[va];split<;>split<;>(try split)<;>omega
theorem qnc:∀ a b:List UInt8,compareBytes a b=0->a=b
 | [],[],_=>rfl
 | [],_::_,h=>by simp[compareBytes]at h
 | _::_,[],h=>by simp[compareBytes]at h
 | x::a,y::b,h=>by
   unfold compareBytes at h;simp only[va]at h;split at h
   ·omega
   ·split at h
    ·omega
    ·rw[qnc a b h,UInt8.toNat_inj.1 (show x.toNat=y.toNat by omega)]
theorem qvl:∀ a b c:List UInt8,compareBytes a b=-1->compareBytes b c=-1->compareBytes a c=-1
 | [],_,[],h1,h2=>by
   rename_i b;cases b<;>simp[compareBytes]at h1 h2
 | [],_,_::_,_,_=>by simp[compareBytes]
 | _::_,[],_,h1,_=>by simp[compareBytes]at h1
 | _::_,_::_,[],_,h2=>by simp[compareBytes]at h2
 | x::a,y::b,z::c,h1,h2=>by
   have ih:=qvl a b c;unfold compareBytes at h1 h2 |-
   simp only[va]at h1 h2 |-
   split at h1
   ·split at h2
    ·rw[if_pos (by omega)]
    ·split at h2
     ·omega
     ·rw[if_pos (by omega)]
   ·split at h1
    ·omega
    ·split at h2
     ·rw[if_pos (by omega)]
     ·split at h2
      ·omega
      ·rw[if_neg (by omega),if_neg (by omega)];exact ih h1 h2
theorem qKP:Cmp compareBytes :=
 ⟨qpH,qzo,qvl,λ a b c h=>by rw[qnc a b h]⟩
def Jj:List (T->Int)->List T->Int
 | r::a,b::c=>thn (r b) (Jj a c)
 | _,_=>0
def qj7(a b:T):Int :=
 thn (sgn (size a) (size b)) (thn (sgn a.kind b.kind) (thn (compareBytes a.name b.name) (thn (sgn a.sort b.sort) (sgn a.kids.length b.kids.length))))
def qu:T->T->Int:=T.para λ a c b=>thn (qj7 a b) (Jj c b.kids)
theorem qg1(a b:T):qu a b=thn (qj7 a b) (Jj (a.kids.map qu) b.kids):=congrFun (T.para_eq _ _) b
theorem qeT:Cmp qj7 :=
 (qsK.on λ t:T=>(size t:Int)).thn ((qsK.on T.kind).thn ((qKP.on T.name).thn ((qsK.on T.sort).thn (qsK.on λ t:T=>(t.kids.length:Int)))))
theorem qgL{x y:Int}(h:thn x y=0):x=0/\y=0:=by unfold thn at h;split at h<;>omega
theorem qrE{a b:T}(h:qj7 a b=0):a.kind=b.kind/\a.name=b.name/\a.sort=b.sort/\a.kids.length=b.kids.length:=by
 unfold qj7 at h;obtain⟨_,h⟩:=qgL h;obtain⟨f,h⟩:=qgL h;obtain⟨e,h⟩:=qgL h;obtain⟨d,c⟩:=qgL h;have:=qlt c;exact⟨qlt f,qnc _ _ e,qlt d,by omega⟩
theorem qH4(a:T):qj7 a a=0:=by
 unfold qj7 thn;simp[qLC,qzq]
theorem T.ext{a b:T}(f:a.kind=b.kind)(e:a.name=b.name)(d:a.sort=b.sort)(c:a.kids=b.kids):a=b:=by
 obtain⟨k,n,s,l⟩:=a;obtain⟨j,h,g,i⟩:=b;simp only[T.kind,T.name,T.sort,T.kids]at f e d c;rw[f,e,d,c]
theorem qr4(a:T):qu a a=0:=by
 refine T.ind (P := λ a=>qu a a=0) ?_ a;intro a c;rw[qg1,qH4,thn,if_pos rfl];generalize a.kids=l at *
 induction l with
 | nil=>rfl
 | cons x l b =>
   rw[wo,Jj,c x (wh ..),thn,if_pos rfl];exact b λ k d=>c k (wg _ d)
theorem qaX(a:T):∀ b,qu a b=0->a=b:=by
 refine T.ind (P := λ a=>∀ b,qu a b=0->a=b) ?_ a;intro a e b h;rw[qg1]at h;obtain⟨g,f⟩:=qgL h;obtain⟨n,j,i,c⟩:=qrE g;refine T.ext n j i ?_;generalize a.kids=l at *;generalize b.kids=m at *;clear h g
 induction l generalizing m with
 | nil=>exact(kr.1 c.symm).symm
 | cons x l d =>
   cases m with
   | nil=>simp at c
   | cons y m =>
     rw[wo,Jj]at f;obtain⟨q,p⟩:=qgL f;rw[e x (wh ..) y q,d (λ k o=>e k (wg _ o)) m p (by simpa using c)]
def qu8(a:T):Prop:=(∀ b,qu a b=-1\/qu a b=0\/qu a b=1)/\(∀ b,qu b a=- qu a b)/\(∀ b c,qu a b=-1->qu b c=-1->qu a c=-1)
theorem qBO:∀ l m:List T,(∀ k∈l,qu8 k)->Jj (l.map qu) m=-1\/Jj (l.map qu) m=0\/Jj (l.map qu) m=1
 | [],_,_=>by simp[Jj]
 | _::_,[],_=>by simp[Jj]
 | x::l,y::m,h=>by
   rw[wo,Jj];have c:=(h x (wh ..)).1 y;have b:=qBO l m λ k a=>h k (wg _ a);unfold thn;split<;>omega
theorem qzC:∀ l m:List T,(∀ k∈l,qu8 k)->Jj (m.map qu) l=- Jj (l.map qu) m
 | [],[],_=>by simp[Jj]
 | [],_::_,_=>by simp[Jj]
 | _::_,[],_=>by simp[Jj]
 | x::l,y::m,h=>by
   rw[wo,Jj,wo,Jj];have c:=(h x (wh ..)).2.1 y;have b:=qzC l m λ k a=>h k (wg _ a);unfold thn;split<;>split<;>omega
theorem qvf:∀ l m n:List T,(∀ k∈l,qu8 k)->l.length=m.length->m.length=n.length->Jj (l.map qu) m=-1->Jj (m.map qu) n=-1->Jj (l.map qu) n=-1
 | [],_,_,_,_,_,h,_=>by simp[Jj]at h
 | _::_,[],_,_,h,_,_,_=>by simp at h
 | _::_,_::_,[],_,_,h,_,_=>by simp at h
 | x::l,y::m,z::n,h,e1,j,b,a=>by
   rw[wo,Jj]at b a |-
   have g:=h x (wh ..);have f:=qvf l m n (λ k i=>h k (wg _ i)) (by simpa using e1) (by simpa using j);have e:=g.2.2 y z;by_cases d:qu x y=0
   ·have:=qaX x y d;subst this;rw[thn,if_pos d]at b;by_cases c:qu x z=0
    ·rw[thn,if_pos c]at a |-
     exact f b a
    ·rw[thn,if_neg c]at a |-
     exact a
   ·rw[thn,if_neg d]at b;by_cases c:qu y z=0
    ·have:=qaX y z c;subst this;rw[thn,if_neg d];exact b
    ·rw[thn,if_neg c]at a;have:=e b a;rw[thn,if_neg (by omega)];exact this
theorem qHf(a:T):qu8 a:=by
 refine T.ind (P:=qu8) ?_ a;intro a i;refine⟨λ b=>?_,λ b=>?_,λ b c g d=>?_⟩
 ·rw[qg1];have g:=qeT.rng a b;have d:=qBO a.kids b.kids i;unfold thn;split<;>omega
 ·rw[qg1,qg1];have g:=qeT.anti a b;have d:=qzC a.kids b.kids i;unfold thn;split<;>split<;>omega
 ·rw[qg1]at g d |-
  by_cases h:qj7 a b=0
  ·rw[thn,if_pos h]at g;have e:=qeT.same a b c h;by_cases f:qj7 b c=0
   ·rw[thn,if_pos f]at d;rw[thn,if_pos (by rw[<- e];exact f)];exact qvf _ _ _ i (qrE h).2.2.2 (qrE f).2.2.2 g d
   ·rw[thn,if_neg f]at d;rw[thn,if_neg (by rw[<- e];exact f),<- e];exact d
  ·rw[thn,if_neg h]at g;by_cases f:qj7 b c=0
   ·have e1:=qeT.anti b c;have l:=qeT.same c b a (by omega);have k:=qeT.anti a b;have j:=qeT.anti a c;rw[thn,if_neg (by omega)];omega
   ·rw[thn,if_neg f]at d;have:=qeT.trans a b c g d;rw[thn,if_neg (by omega)];exact this
theorem yd:Cmp qu :=
 ⟨λ a=>(qHf a).1,λ a b=>(qHf a).2.1 b,λ a=>(qHf a).2.2,λ a b c h=>by rw[qaX a b h]⟩
theorem qKg(a b:T):qu a b=0↔a=b:=⟨qaX a b,λ h=>by rw[h];exact qr4 b⟩
theorem qqA:∀ a b:List UInt8,Op.bytesLess a b=decide (compareBytes a b=-1)
 | [],[]=>by simp[Op.bytesLess,compareBytes]
 | [],_::_=>by simp[Op.bytesLess,compareBytes]
 | _::_,[]=>by simp[Op.bytesLess,compareBytes]
 | x::a,y::b=>by
   rw[Op.bytesLess,compareBytes,qqA a b];by_cases d:x<y
   ·simp[d]
   ·by_cases c:y<x
    ·have:¬ x=y := λ e=>by rw[e]at c;exact d (by rw[e];exact c)
     simp[d,c,this]
    ·have:x=y:=UInt8.toNat_inj.1 (by rw[va]at d c;omega);simp[this]
end Go.GxZ
namespace Go.GxZ
def qmr:List (Int->Int)->Int->Int
 | [],m=>m
 | f::a,m=>if f m<0 then -1 else qmr a (f m)
def qbD:T->Int->Int:=T.para λ t a m=>if m<=0\/40<t.name.length then -1 else qmr a (m-1)
theorem qFP(t:T)(m:Int):qbD t m=if m<=0\/40<t.name.length then -1 else qmr (t.kids.map qbD) (m-1):=congrFun (T.para_eq _ _) m
theorem qqV(t:T):∀ m,qbD t m<0/\qbD t m=-1\/0<=qbD t m/\qbD t m=m-size t:=by
 refine T.ind (P := λ t=>∀ m,qbD t m<0/\qbD t m=-1\/0<=qbD t m/\qbD t m=m-size t) ?_ t;intro t e m
 have g:∀ l:List T,(∀ k∈l,k∈t.kids)->∀ m,0<=m->(qmr (l.map qbD) m<0/\qmr (l.map qbD) m=-1\/0<=qmr (l.map qbD) m/\qmr (l.map qbD) m=m-((l.map size).sum:Nat)):=by
  intro l
  induction l with
  | nil=>intro _ m b;right;simp[qmr];exact b
  | cons x l a =>
    intro c m b;simp only[wo,qmr,kD];have j:=e x (c x (wh ..)) m;by_cases d:qbD x m<0
    ·rw[if_pos d];left;exact⟨by omega,rfl⟩
    ·rw[if_neg d];have i:=a (λ k f=>c k (wg _ f)) (qbD x m) (by omega);omega
 rw[qFP,qL];split
 ·left;exact⟨by omega,rfl⟩
 ·have:=g t.kids (λ _ h=>h) (m-1) (by omega);omega
def qc3:T->Nat:=T.para λ _ a=>a.foldl max 0+1
theorem qk8(t:T):qc3 t=(t.kids.map qc3).foldl max 0+1:=T.para_eq _ _
theorem qCx(l:List Nat):∀(a b:Nat),a<=b->(∀ x∈l,x<=b)->l.foldl max a<=b:=by
 induction l with
 | nil=>intro a b h _;exact h
 | cons x l d=>intro a b h c;exact d _ _ (Nat.max_le.2 ⟨h,c x (wh ..)⟩) λ y e=>c y (wg _ e)
theorem qEA(t:T):qc3 t<=size t:=by
 refine T.ind (P := λ t=>qc3 t<=size t) ?_ t;intro t ih;rw[qk8,qL]
 have:(t.kids.map qc3).foldl max 0<=(t.kids.map size).sum:=by
  refine qCx _ _ _ (we _) λ x hx=>?_;obtain⟨k,hk,rfl⟩:=wy.1 hx;exact wD (ih k hk) (qkD _ _ hk)
 omega
def qfP(c:Int):Bool:=decide (97<=c/\c<=122)||decide (65<=c/\c<=90)
def qsj(c:Int):Bool:=decide (48<=c/\c<=57)
def Qo(c:Int):Bool:=qfP c||qsj c||decide (c=95)||decide (c=35)
def jP(l:List UInt8):Bool:=decide (0<l.length)&&decide (l.length<=24)&&qfP ((l.getD 0 0).toNat:Int)&&l.all λ c=>Qo (c.toNat:Int)
def qjm(k so:Int)(n:Nat)(a:Bool):Int :=
 if k=1\/k=2 then(if so<0\/5<so\/0<n then 1 else if a then 0 else 2)
 else if k=3 then(if so≠0 then 1 else if a then(if 8<n then 3 else 0)else 2)
 else 1
def jK(t:T):Int:=qjm t.kind t.sort t.kids.length (jP t.name)
def jO:T->Int:=T.para λ t a=>a.foldl thn (jK t)
theorem qjw(t:T):jO t=(t.kids.map jO).foldl thn (jK t):=T.para_eq _ _
theorem QS{x:Int}(h:x≠0)(y:Int):thn x y=x:=if_neg h
theorem qS(l:List Int):∀{x:Int},x≠0->l.foldl thn x=x:=by
 induction l with
 | nil=>intro x _;rfl
 | cons y l a=>intro x h;rw[kg,QS h];exact a h
theorem QU(l:List Int)(x:Int):(x::l).foldl thn 0=l.foldl thn x:=rfl
theorem qnR{t:T}(h:jO t=0):jK t=0/\(∀ k∈t.kids,jO k=0):=by
 rw[qjw]at h;by_cases b:jK t=0
 ·refine⟨b,?_⟩;rw[b]at h;generalize t.kids=l at *;clear b
  induction l with
  | nil=>intro k a;cases a
  | cons x l d =>
    rw[wo,QU]at h;by_cases c:jO x=0
    ·rw[c]at h;intro k a;rcases wx.1 a with rfl | a
     ·exact c
     ·exact d h k a
    ·rw[qS _ c]at h;exact absurd h c
 ·rw[qS _ b]at h;exact absurd h b
def qR(t:T):Int:=if jO t≠0 then jO t else if 400<size t\/40<qc3 t then 3 else 0
instance:DecidableEq T := λ _ _=>Classical.propDecidable _
def jk(a b:T):Bool:=decide (a=b)
def qlQ:List T->Int->Bool
 | [],_=>true
 | x::l,m=>if qbD x m<0 then false else qlQ l (qbD x m)
theorem qyI:∀(l:List T) (m:Int),0<=m->qlQ l m=true->((l.map size).sum:Nat)<=m
 | [],m,b,_=>by simpa using b
 | x::l,m,b,h=>by
   rw[qlQ]at h;by_cases a:qbD x m<0
   ·rw[if_pos a]at h;exact absurd h (by decide)
   ·rw[if_neg a]at h;have d:=qqV x m;have c:=qyI l (qbD x m) (by omega) h;simp only[wo,kD];omega
def yU:List (List UInt8 × Int × Int × Int):=[
 ([112,97,105,114],2,2,1),
 ([101,110,99],2,2,1),
 ([97,101,110,99],2,2,1),
 ([112,107],1,1,1),
 ([115,105,103,110],2,2,1),
 ([104,97,115,104],1,1,1),
 ([120,111,114],2,8,1),
 ([122,101,114,111],0,0,1),
 ([101,120,112],2,2,1),
 ([109,117,108],2,8,1),
 ([105,110,118],1,1,1),
 ([111,110,101],0,0,1),
 ([115,107],1,1,2),
 ([115,104,107],2,2,2),
 ([110,101,119],1,8,2),
 ([102,115,116],1,1,3),
 ([115,110,100],1,1,3),
 ([100,101,99],2,2,3),
 ([97,100,101,99],2,2,3),
 ([111,112,101,110],2,2,3),
 ([114,101,97,100],1,1,3)]
def qw4(l:List (List UInt8 × Int × Int × Int))(n:List UInt8):Int × Int × Int:=((l.find? λ r=>r.1==n).map (·.2)).getD (0,0,0)
theorem qIk(r:List UInt8 × Int × Int × Int)(l:List (List UInt8 × Int × Int × Int))(n:List UInt8):qw4 (r::l) n=if(r.1==n)=true then r.2 else qw4 l n:=by
 unfold qw4;rw[List.find?_cons];cases h:r.1==n<;>simp
def qKI(l:List (List UInt8 × Int × Int × Int))(n:List UInt8):Bool:=l.any λ r=>r.1==n
def qnY(l:List (List UInt8 × Int × Int × Int))(n:List UInt8)(k:Int):Bool:=qKI l n&&decide ((qw4 l n).1<=k)&&decide (k<=(qw4 l n).2.1)
theorem qHR(r:List UInt8 × Int × Int × Int)(l:List (List UInt8 × Int × Int × Int))(n:List UInt8)(k:Int) :
  qnY (r::l) n k=if(r.1==n)=true then decide (r.2.1<=k)&&decide (k<=r.2.2.1)else qnY l n k:=by
 unfold qnY;rw[qIk];unfold qKI;rw[vW];cases h:r.1==n<;>simp
def qpV:List UInt8:=[112,97,105,114]
def qpb:List UInt8:=[101,110,99]
def qi8:List UInt8:=[97,101,110,99]
def nPk:List UInt8:=[112,107]
def qfk:List UInt8:=[115,105,103,110]
def qc5:List UInt8:=[120,111,114]
def qcH:List UInt8:=[122,101,114,111]
def qfV:List UInt8:=[101,120,112]
def qe4:List UInt8:=[109,117,108]
def Jz:List UInt8:=[105,110,118]
def qjX:List UInt8:=[111,110,101]
def nSk:List UInt8:=[115,107]
def quz:List UInt8:=[115,104,107]
def qim:List UInt8:=[110,101,119]
def qLh:List UInt8:=[102,115,116]
def qxo:List UInt8:=[115,110,100]
def qKW:List UInt8:=[100,101,99]
def qGl:List UInt8:=[97,100,101,99]
def qFR:List UInt8:=[111,112,101,110]
def qGJ:List UInt8:=[114,101,97,100]
def zT:T := .mk 0 [] 0 []
def kid(t:T)(i:Nat):T:=t.kids.getD i zT
def apT(n:List UInt8)(l:List T):T := .mk 3 n 0 l
def isN(t:T)(n:List UInt8):Bool:=t.kind==3&&t.name==n
def qH(n:List UInt8):Int × Int × Int:=((yU.find? λ r=>r.1==n).map (·.2)).getD (0,0,0)
def qaK(t:T):Bool :=
 if t.name=qim then decide ((kid t 0).kind≠2)
 else if t.name=nSk\/t.name=quz then t.kids.any λ k=>decide (k.kind=3)||decide (k.sort≠1)else false
def qc8(t:T):Int :=
 if t.kind≠3 then 0 else if(qH t.name).2.2=0 then 10 else if(t.kids.length:Int)<(qH t.name).1\/(qH t.name).2.1<(t.kids.length:Int)then 6 else if qaK t then 10 else 0
def zk:T->Int:=T.para λ t a=>if t.kind≠3 then 0 else a.foldl thn (qc8 t)
theorem qoj(t:T):zk t=if t.kind≠3 then 0 else(t.kids.map zk).foldl thn (qc8 t):=T.para_eq _ _
def qcj(t:T):Int:=thn (qR t) (zk t)
def yl(t:T):Bool :=
 if t.name=qLh\/t.name=qxo then isN (kid t 0) qpV
 else if t.name=qKW then isN (kid t 0) qpb&&jk (kid (kid t 0) 1) (kid t 1)
 else if t.name=qGl then isN (kid t 0) qi8&&isN (kid (kid t 0) 1) nPk&&jk (kid (kid (kid t 0) 1) 0) (kid t 1)
 else if t.name=qFR then isN (kid t 0) qfk&&isN (kid t 1) nPk&&jk (kid (kid t 0) 1) (kid (kid t 1) 0)
 else if t.name=qGJ then isN (kid t 0) qfk else false
def qj9(t:T):T:=if yl t then kid (kid t 0) (if t.name=qxo then 1 else 0)else t
def qdv(t:T):Bool:=t.kind==3&&(t.name==qe4||t.name==Jz||t.name==qjX)
abbrev Pw:=T × Int
def yF:List Pw->T->Int->List Pw
 | [],t,n=>[(t,n)]
 | (x,m)::l,t,n=>if qu t x=-1 then(t,n)::(x,m)::l else if qu t x=0 then(if m+n=0 then l else(x,m+n)::l)else(x,m)::yF l t n
def arK(t:T):Bool := !(t.name==qjX&&t.kids.length != 0||t.name==Jz&&t.kids.length != 1||t.name==qe4&&decide (t.kids.length<2))
def arT:T->Bool:=T.para λ t a => !qdv t||(arK t&&a.all id)
theorem qvZ(t:T):arT t=(!qdv t||(arK t&&(t.kids.map arT).all id)):=T.para_eq _ _
def qbs(t:T)(n:Int):Int:=if t.name=Jz then -n else n
def jB:T->List Pw->Int->List Pw:=T.para λ t a l n=>if qdv t then a.foldl (λ l f=>f l (qbs t n)) l else yF l t n
theorem qg6(t:T)(l:List Pw)(n:Int):jB t l n=if qdv t then(t.kids.map jB).foldl (λ l f=>f l (qbs t n)) l else yF l t n:=by
 have h:jB t = λ l n=>if qdv t then(t.kids.map jB).foldl (λ l f=>f l (qbs t n)) l else yF l t n:=T.para_eq _ _;rw[h]
def ofP(t:T):List Pw × Int :=
 if qR t≠0 then([],qR t)else if arT t=false then([],6)else if 200<(jB t [] 1).length then([],3)else(jB t [] 1,0)
def pvK(q:Option T)(p:Pw):Int :=
 if qR p.1≠0 then qR p.1 else if qdv p.1 then 1 else if p.2=0\/p.2 < -1000\/1000<p.2 then 7 else match q with | some x=>if 0<=qu x p.1 then 5 else 0 | none=>0
def pvL:Option T->List Pw->Int
 | _,[]=>0
 | q,p::l=>thn (pvK q p) (pvL (some p.1) l)
def JE(l:List Pw):Int:=if 200<l.length then 3 else pvL none l
def yj(l:List Pw):List T:=l.flatMap λ p=>List.replicate p.2.toNat p.1
def yo(l:List Pw):List T:=l.flatMap λ p=>List.replicate (-p.2).toNat (apT Jz [p.1])
def qai(o:List T):T:=if o.length=0 then apT qjX []else if o.length=1 then o.getD 0 zT else apT qe4 o
def qbt(l:List Pw):T × Int :=
 if JE l≠0 then(zT,JE l)else if 8<(yj l++yo l).length then(zT,3)
 else if qR (qai (yj l++yo l))≠0 then(zT,qR (qai (yj l++yo l)))else(qai (yj l++yo l),0)
def qnM(l:List Pw):Bool:=l.any λ p=>decide (p.2 < -1000)||decide (1000<p.2)
def Q8(a b:List Pw):List Pw:=b.foldl (λ l p=>yF l p.1 p.2) a
def qmi(a b:List Pw):List Pw × Int :=
 if JE a≠0 then([],JE a)else if JE b≠0 then([],JE b)else if qnM (Q8 a b)then([],7)else if 200<(Q8 a b).length then([],3)else(Q8 a b,0)
def zl:List T->List T->List T
 | [],b=>b
 | x::a,[]=>x::a
 | x::a,y::b=>if qu x y=-1 then x::zl a (y::b)else if qu x y=1 then y::zl (x::a) b else zl a b
termination_by a b=>a.length+b.length
def Qc:T->List T:=T.para λ t a=>if isN t qcH&&t.kids.isEmpty then[]else if isN t qc5 then a.foldl zl []else[t]
theorem qlJ(t:T):Qc t=if isN t qcH&&t.kids.isEmpty then[]else if isN t qc5 then(t.kids.map Qc).foldl zl []else[t]:=T.para_eq _ _
def qoz(l:List T):Int:=if 200<l.length then 3 else(l.map qR).foldl thn 0
def zX(l:List T):List T:=(l.map Qc).foldl zl []
def qaz(o:List T):T:=if o.length=0 then apT qcH []else if o.length=1 then o.getD 0 zT else apT qc5 o
def qp7(l:List T):T × Int :=
 if qoz l≠0 then(zT,qoz l)else if qR (qaz (zX l))≠0 then(zT,3)else(qaz (zX l),0)
def qiW(b:T)(l:List Pw):T × Int :=
 if l.length=0 then(b,0)else if(qbt l).2≠0 then(zT,(qbt l).2)else(apT qfV [b,(qbt l).1],0)
def qp1(b e:T):T × Int :=
 if(ofP e).2≠0 then(zT,(ofP e).2)
 else if isN b qfV then
  (if(ofP (kid b 1)).2≠0 then(zT,(ofP (kid b 1)).2)
   else if(qmi (ofP (kid b 1)).1 (ofP e).1).2≠0 then(zT,(qmi (ofP (kid b 1)).1 (ofP e).1).2)
   else qiW (kid b 0) (qmi (ofP (kid b 1)).1 (ofP e).1).1)
 else qiW b (ofP e).1
def isD(n:List UInt8):Bool:=n==qLh||n==qxo||n==qKW||n==qGl||n==qFR||n==qGJ
def qno(t:T):T × Int:=if(ofP t).2≠0 then(zT,(ofP t).2)else qbt (ofP t).1
def qaf(t:T):T × Int :=
 if isD t.name then(qj9 t,0)else if t.name=qc5 then qp7 t.kids
 else if t.name=qe4\/t.name=Jz\/t.name=qjX then qno t
 else if t.name=qfV then qp1 (kid t 0) (kid t 1)else(t,0)
def zM:T->T × Int:=T.para λ t a =>
 if t.kind≠3 then(t,0)else if(a.map (·.2)).foldl thn 0≠0 then(zT,(a.map (·.2)).foldl thn 0)else qaf (apT t.name (a.map (·.1)))
theorem qop(t:T):zM t=if t.kind≠3 then(t,0)else if((t.kids.map zM).map (·.2)).foldl thn 0≠0 then(zT,((t.kids.map zM).map (·.2)).foldl thn 0)else qaf (apT t.name ((t.kids.map zM).map (·.1))):=T.para_eq _ _
def qlg(t:T):T × Int :=
 if qcj t≠0 then(zT,qcj t)else if(zM t).2≠0 then(zT,(zM t).2)else if qR (zM t).1≠0 then(zT,qR (zM t).1)else zM t
def agB(l:List T):Bool:=l.all λ k => !(k.kind==3) && !(k.sort != 1)
def qk9(t:T):Bool:=if t.name=qim then(kid t 0).kind==2 else agB t.kids
theorem qJR(k:T)(l:List T):agB (k::l)=((!(k.kind==3) && !(k.sort != 1))&&agB l):=rfl
end Go.GxZ
namespace Go.AmZ
open Go Go.GxZ Go.Lib
theorem qmU(a b:Int):Ev (λ m _=>qa8 m a b) (sgn a b):=by
 refine waz ?_;simp only[qxX,qhM];unfold sgn;refine wax (λ h=>?_) λ h=>?_
 ·exact way (by rw[if_pos (qr.1 h)])
 ·rw[qn]at h;refine wax (λ c=>?_) λ c=>?_
  ·rw[qr]at c;exact way (by rw[if_neg (by omega),if_pos c])
  ·rw[qn]at c;exact way (by rw[if_neg (by omega),if_neg (by omega)])
theorem qtN{l:List T}{i:Nat}{x:T}(h:l.drop i=x::l.drop (i+1)):((l.drop i).map size).sum=size x+((l.drop (i+1)).map size).sum:=by
 rw[h,wo,kD]
theorem qpd(t:T):size t<=1000000000->Ev (λ m _=>yV m t) (size t:Int):=by
 induction t using T.ind with
 | h t d =>
   intro p;refine waz ?_;simp only[qC2,qgy];have q:=yz t;have j:=qL t
   have b:=qs (P := λ i=>∀ a:Nat,a+((t.kids.drop i).map size).sum<=1000000000->Ev (λ m k=>qa9 m (yV m) k a i t.kind t.name t.sort t.kids) ((a+((t.kids.drop i).map size).sum:Nat):Int)) t.kids (by omega)
    (λ c a _=>by
     refine waA ?_;simp only[qqs,qgH];refine waw c ?_;exact way (by simp))
    (λ i x e l c g f o a n=>by
     rw[qtN l]at n |-
     refine waA ?_;simp only[qqs,qgH];refine wau c (wav g ?_);rw[ql];refine war (d x (wa e) (by omega)) ?_;rw[f,qiF,jT (by omega)];refine(o (a+size x) (by omega)).res (by congr 1;omega))
   refine waB (L := λ m k=>qa9 m (yV m) k 1 0 t.kind t.name t.sort t.kids) ?_;refine(b 0 (we _) 1 (by simp;omega)).res (by rw[wO,j])
theorem qDw(a b:Nat):qn1 (a:Int) (b:Int)=((max a b:Nat):Int):=by unfold qn1;split<;>omega
theorem qsA(a b:Int):Ev (λ m _=>qeU m a b) (sgn a b):=by
 refine waz ?_;simp only[qDU,qlU];unfold sgn;refine wax (λ h=>?_) λ h=>?_
 ·exact way (by rw[if_pos (qr.1 h)])
 ·rw[qn]at h;refine wax (λ c=>?_) λ c=>?_
  ·rw[qr]at c;exact way (by rw[if_neg (by omega),if_pos c])
  ·rw[qn]at c;exact way (by rw[if_neg (by omega),if_neg (by omega)])
theorem qBS(t:T):size t<=1000000000->Ev (λ m _=>Qk m t) (size t:Int):=by
 induction t using T.ind with
 | h t d =>
   intro p;refine waz ?_;simp only[qD1,qhN];have q:=yz t;have j:=qL t
   have b:=qs (P := λ i=>∀ a:Nat,a+((t.kids.drop i).map size).sum<=1000000000->Ev (λ m k=>qcl m (Qk m) k a t.kids t.kids.length i) ((a+((t.kids.drop i).map size).sum:Nat):Int)) t.kids (by omega)
    (λ c a _=>by
     refine waA ?_;simp only[qsd,qh9];refine waw c ?_;exact way (by simp))
    (λ i x e l c g f o a n=>by
     rw[qtN l]at n |-
     refine waA ?_;simp only[qsd,qh9];refine wau c (wav g ?_);rw[ql];refine war (d x (wa e) (by omega)) ?_;rw[f,qiF,jT (by omega)];refine(o (a+size x) (by omega)).res (by congr 1;omega))
   refine waB (L := λ m k=>qcl m (Qk m) k 1 t.kids t.kids.length 0) ?_;refine(b 0 (we _) 1 (by simp;omega)).res (by rw[wO,j])
theorem qzg(t:T):size t<=1000000000->Ev (λ m _=>jh m t) (qc3 t:Int):=by
 induction t using T.ind with
 | h t e =>
   intro o;refine waz ?_;simp only[qAw,qfo];have p:=yz t;have q:=qL t
   have b:=qs (P := λ i=>∀ a:Nat,a<=1000000000->Ev (λ m k=>qav m (jh m) k a i t.kind t.name t.sort t.kids) ((((t.kids.drop i).map qc3).foldl max a+1:Nat):Int)) t.kids (by omega)
    (λ c a _=>by
     refine waA ?_;simp only[qoS,qfv];refine waw c ?_;rw[show qc (a:Int) 1=((a+1:Nat):Int) by unfold qc;omega,jT (by omega)];exact way (by simp))
    (λ i x f l c j g n a r=>by
     refine waA ?_;simp only[qoS,qfv];refine wau c (wav j ?_);rw[ql];have d:=wa f;have u:=jH t x d;have s:=qEA x;refine war (e x d (by omega)) ?_;rw[g,qDw];refine(n (max a (qc3 x)) (by omega)).res ?_;rw[l,wo,kg])
   refine waB (L := λ m k=>qav m (jh m) k 0 0 t.kind t.name t.sort t.kids) ?_;refine(b 0 (we _) 0 (by omega)).res (by rw[wO,qk8])
theorem qCZ(a:List (T->Int)):Jj a []=0:=by cases a<;>rfl
theorem qzA{l m:List T}{i:Nat}{x y:T}(b:l.drop i=x::l.drop (i+1))(a:m.drop i=y::m.drop (i+1)):Jj ((l.drop i).map qu) (m.drop i)=thn (qu x y) (Jj ((l.drop (i+1)).map qu) (m.drop (i+1))):=by
 rw[b,a,wo];rfl
theorem qCY{l:List T}{i:Nat}{y:T}(h:l[i]?=some y):l.drop i=y::l.drop (i+1):=by
 obtain⟨a,rfl⟩:=List.getElem?_eq_some_iff.1 h;exact vZ a
theorem qt1(a b:List UInt8):slt a b=decide (compareBytes a b=-1):=qqA a b
theorem qCD(a b:List UInt8):qrI (slt a b) (qy a b)=decide (compareBytes a b≠1):=by
 rw[qt1];unfold qrI qy;rcases qpH a b with h | h | h
 ·rw[h];rfl
 ·have:=qnc a b h;subst this;rw[h];simp
 ·have:(a==b)=false:=by
    rw[beq_eq_false_iff_ne];intro c;subst c;rw[qzq]at h;omega
  rw[h,this];rfl
theorem qjl(a:T):size a<=1000000000->∀ b,size b<=1000000000->Ev (λ m _=>zK m a b) (qu a b):=by
 induction a using T.ind with
 | h a ih =>
   intro ha b hb;refine waz ?_;simp only[qwR,qdB,ql];have hla:=yz a;have hlb:=yz b;rw[qg1];unfold qj7;refine war (qpd a ha) (war (qpd b hb) (war (qmU _ _) ?_));refine wax (λ h=>?_) λ h=>?_
   ·rw[bnt,qh]at h;exact way (by rw[QS (by rw[QS h];exact h),QS h])
   rw[bnf,qk]at h;rw[h,show ∀ y,thn 0 y=y from λ y=>rfl];refine war (qmU _ _) ?_;refine wax (λ h=>?_) λ h=>?_
   ·rw[bnt,qh]at h;exact way (by rw[QS (by rw[QS h];exact h),QS h])
   rw[bnf,qk]at h;rw[h,show ∀ y,thn 0 y=y from λ y=>rfl];refine wax (λ h=>?_) λ h=>?_
   ·rw[qt1,decide_eq_true_iff]at h;exact way (by rw[h];rfl)
   rw[qt1,decide_eq_false_iff_not]at h;refine wax (λ h'=>?_) λ h'=>?_
   ·rw[bnt,qCD,decide_eq_false_iff_not,Decidable.not_not]at h';exact way (by rw[h'];rfl)
   rw[bnf,qCD,decide_eq_true_iff]at h';have h0:compareBytes a.name b.name=0:=by have:=qpH a.name b.name;omega
   rw[h0,show ∀ y,thn 0 y=y from λ y=>rfl];refine war (qmU _ _) ?_;refine wax (λ h=>?_) λ h=>?_
   ·rw[bnt,qh]at h;exact way (by rw[QS (by rw[QS h];exact h),QS h])
   rw[bnf,qk]at h;rw[h,show ∀ y,thn 0 y=y from λ y=>rfl];refine war (qmU _ _) ?_;refine wax (λ h=>?_) λ h=>?_
   ·rw[bnt,qh]at h;exact way (by rw[QS h])
   rw[bnf,qk]at h;rw[h,show ∀ y,thn 0 y=y from λ y=>rfl];have hlen:a.kids.length=b.kids.length:=by have:=qlt h;omega
   have key:=qs (P := λ i=>Ev (λ m k=>Jf m (zK m) k i a.kind a.name a.sort a.kids b.kind b.name b.sort b.kids) (Jj ((a.kids.drop i).map qu) (b.kids.drop i))) a.kids (by omega)
    (λ hc=>by
     refine waA ?_;simp only[ql3,qdj];refine waw hc ?_;exact way (by rw[hlen,wT,qCZ]))
    (λ i x hx hd hc hg hi hP=>by
     refine waA ?_;simp only[ql3,qdj,ql];have hib:i<b.kids.length:=by have:=(List.getElem?_eq_some_iff.1 hx).1;omega
     have hy:=List.getElem?_eq_getElem hib;have hmx:=wa hx;have h1:=jH a x hmx;have h2:=jH b _ (wa hy);refine wau hc (wav hg (wav (by rw[zb];exact hy) ?_));rw[qzA hd (qCY hy)];refine war (ih x hmx (by omega) _ (by omega)) ?_;refine wax (λ h=>?_) λ h=>?_
     ·rw[bnt,qh]at h;exact way (by rw[QS h])
     ·rw[bnf,qk]at h;rw[h,hi];exact hP)
   refine waB (L := λ m k=>Jf m (zK m) k 0 a.kind a.name a.sort a.kids b.kind b.name b.sort b.kids) ?_;exact(key 0 (we _)).res (by rw[wO,wO])
theorem qHC(a b:List UInt8):Ev (λ m _=>strings_Compare 0 a b) (compareBytes a b):=wat _
theorem qd0(a:T):size a<=1000000000->∀ b,size b<=1000000000->Ev (λ m _=>qB m a b) (qu a b):=by
 induction a using T.ind with
 | h a ih =>
   intro ha b hb;refine waz ?_;simp only[qxt,qep,ql];have hla:=yz a;have hlb:=yz b;rw[qg1];unfold qj7
   have stop:∀ c:Int,c≠0->∀ i:Int,Ev (λ m k=>Qd m (qB m) k c i a.kind a.name a.sort a.kids b.kind b.name b.sort b.kids) c:=by
    intro c hc i;refine waA ?_;simp only[qhF,qbW];exact waw (qh.2 hc) (wat c)
   have key:a.kids.length=b.kids.length->∀ i,i<=a.kids.length->Ev (λ m k=>Qd m (qB m) k 0 i a.kind a.name a.sort a.kids b.kind b.name b.sort b.kids) (Jj ((a.kids.drop i).map qu) (b.kids.drop i)) := λ hlen=>qs a.kids (by omega)
    (λ hc=>by
     refine waA ?_;simp only[qhF,qbW];refine wau rfl (waw hc ?_);exact way (by rw[hlen,wT,qCZ]))
    (λ i x hx hd hc hg hi hP=>by
     refine waA ?_;simp only[qhF,qbW,ql];have hib:i<b.kids.length:=by have:=(List.getElem?_eq_some_iff.1 hx).1;omega
     have hy:=List.getElem?_eq_getElem hib;have hmx:=wa hx;have h1:=jH a x hmx;have h2:=jH b _ (wa hy);refine wau rfl (wau hc (wav hg (wav (by rw[zb];exact hy) ?_)));rw[qzA hd (qCY hy)];refine war (ih x hmx (by omega) _ (by omega)) ?_;rw[hi];by_cases h:qu x b.kids[i]=0
     ·rw[h];exact hP
     ·rw[QS h];exact stop _ h _)
   have fin:∀ c:Int,(c=0->a.kids.length=b.kids.length)->Ev (λ m k=>Qd m (qB m) m c 0 a.kind a.name a.sort a.kids b.kind b.name b.sort b.kids) (thn c (Jj (a.kids.map qu) b.kids)):=by
    intro c hc;refine waB (L := λ m k=>Qd m (qB m) k c 0 a.kind a.name a.sort a.kids b.kind b.name b.sort b.kids) ?_;by_cases h:c=0
    ·subst h;exact(key (hc rfl) 0 (we _)).res (by rw[wO,wO];rfl)
    ·rw[QS h];exact stop c h 0
   refine war (qBS a ha) (war (qBS b hb) (war (qsA _ _) ?_));have z0:∀ y,thn 0 y=y := λ y=>rfl;by_cases h1:sgn (size a:Int) (size b)=0
   ·rw[h1,z0];refine wau rfl (war (qsA _ _) ?_);by_cases h2:sgn a.kind b.kind=0
    ·rw[h2,z0];refine wau rfl (war (qHC _ _) ?_);by_cases h3:compareBytes a.name b.name=0
     ·rw[h3,z0];refine wau rfl (war (qsA _ _) ?_);by_cases h4:sgn a.sort b.sort=0
      ·rw[h4,z0];refine wau rfl (war (qsA _ _) ?_);exact fin _ λ h=>by have:=qlt h;omega
      ·rw[QS h4];refine waw (qh.2 h4) ?_;exact fin _ λ h=>absurd h h4
     ·rw[QS h3];refine waw (qh.2 h3) (waw (qh.2 h3) ?_);exact fin _ λ h=>absurd h h3
    ·rw[QS h2];refine waw (qh.2 h2) (waw (qh.2 h2) (waw (qh.2 h2) ?_));exact fin _ λ h=>absurd h h2
   ·rw[QS h1];refine waw (qh.2 h1) (waw (qh.2 h1) (waw (qh.2 h1) (waw (qh.2 h1) ?_)));exact fin _ λ h=>absurd h h1
theorem qFx(a b:T):ieq (qu a b) 0=jk a b:=by
 unfold jk;rw[xg,qk,decide_eq_true_iff];exact qKg a b
theorem qgV(a b:T)(d:size a<=1000000000)(c:size b<=1000000000):Ev (λ m _=>Jh m a b) (jk a b):=by
 refine waz ?_;simp only[qCc,qj3,ql];refine war (qjl a d b c) ?_;exact way (qFx a b)
theorem qps(a b:T)(d:size a<=1000000000)(c:size b<=1000000000):Ev (λ m _=>J6 m a b) (jk a b):=by
 refine waz ?_;simp only[qAe,qit,ql];refine war (qd0 a d b c) ?_;exact way (qFx a b)
end Go.AmZ
namespace Go.AmZ
open Go Go.GxZ Go.Lib
theorem qyw(a b:Int):ieq a b=decide (a=b):=by rw[xg,qk,decide_eq_true_iff]
theorem qyT(c:Int):Ev (λ m _=>qe6 m c) (qfP c):=by
 refine waz ?_;simp only[qxH,qhu];refine(wat (qfP c)).congr λ m k=>?_;unfold qfP ile;by_cases e:97<=c<;>by_cases d:c<=122<;>by_cases b:65<=c<;>by_cases a:c<=90<;>simp[e,d,b,a]
theorem qJu(c:Int):Ev (λ m _=>qjg m c) (qsj c):=by
 refine waz ?_;simp only[qzP,qiE];refine(wat (qsj c)).congr λ m k=>?_;unfold qsj ile;by_cases b:48<=c<;>by_cases a:c<=57<;>simp[b,a]
theorem qES(c:Int):Ev (λ m _=>qjt m c) (Qo c):=by
 refine waz ?_;simp only[qDK,qll];refine(wat (Qo c)).congr λ m k=>?_;simp only[qyw];unfold Qo qfP qsj ile;by_cases i:97<=c<;>by_cases h:c<=122<;>by_cases g:65<=c<;>by_cases f:c<=90<;>by_cases e:48<=c<;>by_cases d:c<=57<;>by_cases b:c=95<;>by_cases a:c=35<;>simp[i,h,g,f,e,d,b,a]
theorem qyU(l:List UInt8):Ev (λ m _=>qak m l) (jP l):=by
 refine waz ?_;simp only[qw2,qeq];cases l with
 | nil=>exact wau rfl (wat _)
 | cons c r =>
   refine waw (qh.2 (by simp;omega)) ?_;refine wax (λ h=>?_) λ h=>?_
   ·rw[qr]at h;refine way ?_;unfold jP;rw[decide_eq_false (show ¬ (c::r).length<=24 by omega)];simp
   rw[qn]at h;refine wav (qah _) (war (qyT _) ?_)
   have o:jP (c::r)=(qfP (c.toNat:Int)&&(c::r).all λ c=>Qo (c.toNat:Int)):=by
    unfold jP;rw[decide_eq_true (show(c::r).length<=24 by omega)];simp
   rw[o];cases b:qfP (c.toNat:Int)with
   | false=>exact wau rfl (wat _)
   | true =>
     refine waw rfl ?_
     have g:=qs (P := λ i=>Ev (λ m k=>JQ m k (c::r) i) (((c::r).drop i).all λ c=>Qo (c.toNat:Int))) (c::r) (by omega)
      (λ b=>by
       refine waA ?_;simp only[qnw,qej];refine waw b (way ?_);rw[wT];rfl)
      (λ i x s q b a p d=>by
       refine waA ?_;simp only[qnw,qej];refine wau b (wav a (war (qyT _) ?_));rw[q,kC,p];cases n:qfP (x.toNat:Int)with
       | true=>exact waw rfl (d.res (by simp[Qo,n]))
       | false =>
         refine wau rfl (wav a (war (qJu _) ?_));cases j:qsj (x.toNat:Int)with
         | true=>exact waw rfl (d.res (by simp[Qo,j]))
         | false =>
           refine wau rfl (wav a ?_);by_cases f:(x.toNat:Int)=95
           ·exact waw (bnf.2 (qk.2 f)) (d.res (by simp[Qo,f]))
           ·refine wau (bnt.2 (qh.2 f)) (wav a ?_);by_cases e:(x.toNat:Int)=35
            ·exact waw (bnf.2 (qk.2 e)) (d.res (by simp[Qo,e]))
            ·exact wau (bnt.2 (qh.2 e)) (way (by unfold Qo;rw[n,j,decide_eq_false f,decide_eq_false e];rfl)))
     refine waB (L := λ m k=>JQ m k (c::r) 0) ?_;exact(g 0 (we _)).res (by rw[wO];rfl)
theorem qKm(c:Int):(Qo c&&(!(decide (48<=c)&&decide (c<=57))&&(!(decide (c=95)) && !(decide (c=35)))))=qfP c:=by
 unfold Qo qsj;cases h:qfP c with
 | true =>
   unfold qfP at h;rw[kh,decide_eq_true_iff,decide_eq_true_iff]at h;rw[decide_eq_false (show ¬ (c=95) by omega),decide_eq_false (show ¬ (c=35) by omega)]
   have:(decide (48<=c)&&decide (c<=57))=false:=by
    rw[xZ,decide_eq_false_iff_not,decide_eq_false_iff_not];omega
   rw[this];rfl
 | false =>
   by_cases e:48<=c<;>by_cases d:c<=57<;>by_cases b:c=95<;>by_cases a:c=35<;>simp[e,d,b,a]
theorem qF9(l:List UInt8):Ev (λ m _=>qdX m l) (jP l):=by
 refine waz ?_;simp only[qAv,qe8];cases l with
 | nil=>exact wau rfl (wat _)
 | cons c r =>
   refine waw rfl ?_;refine wax (λ h=>?_) λ h=>?_
   ·rw[qr]at h;refine way ?_;unfold jP;rw[decide_eq_false (show ¬ (c::r).length<=24 by omega)];simp
   rw[qn]at h;refine wav (qah _) (war (qES _) ?_)
   have p:jP (c::r)=(qfP (c.toNat:Int)&&(c::r).all λ c=>Qo (c.toNat:Int)):=by
    unfold jP;rw[decide_eq_true (show(c::r).length<=24 by omega)];simp
   rw[p,<- qKm]
   have g:=qs (P := λ i=>Ev (λ m k=>QD m k (c::r) (c::r).length i) (((c::r).drop i).all λ c=>Qo (c.toNat:Int))) (c::r) (by omega)
    (λ j=>by
     refine waA ?_;simp only[qok,qfn];refine waw j (way ?_);rw[wT];rfl)
    (λ i x y t j s q u=>by
     refine waA ?_;simp only[qok,qfn];refine wau j (wav s (war (qES _) ?_));rw[t,kC,q];cases w:Qo (x.toNat:Int)with
     | true=>exact waw rfl (u.res (by simp))
     | false=>exact wau rfl (wat _))
   have o:Ev (λ m _=>QD m m (c::r) (c::r).length 0) ((c::r).all λ c=>Qo (c.toNat:Int)):=by
    refine waB (L := λ m k=>QD m k (c::r) (c::r).length 0) ?_;exact(g 0 (we _)).res (by rw[wO])
   have a:qb (c::r) 0=some c:=qah _
   have b:Ev (λ m _=>cond (ieq (c.toNat:Int) 95) (some false) (qa (qb (c::r) 0) λ v=>cond (ieq (v.toNat:Int) 35) (some false) (QD m m (c::r) (c::r).length 0))) ((!(decide ((c.toNat:Int)=95)) && !(decide ((c.toNat:Int)=35)))&&(c::r).all λ c=>Qo (c.toNat:Int)):=by
    by_cases f:(c.toNat:Int)=95
    ·exact wau (qk.2 f) (way (by rw[decide_eq_true f];rfl))
    ·refine waw (qh.2 f) (wav a ?_);rw[decide_eq_false f];by_cases e:(c.toNat:Int)=35
     ·exact wau (qk.2 e) (way (by rw[decide_eq_true e];rfl))
     ·refine waw (qh.2 e) (o.res ?_);rw[decide_eq_false e];rfl
   cases w:Qo (c.toNat:Int)with
   | false=>exact wau rfl (wat _)
   | true =>
     refine waw rfl (wav a ?_);by_cases d:48<=(c.toNat:Int)
     ·refine wau (jm.2 d) (wav a ?_);by_cases n:(c.toNat:Int)<=57
      ·exact wau (jm.2 n) (way (by rw[decide_eq_true d,decide_eq_true n];rfl))
      ·refine waw (yv.2 (by omega)) (wav a ?_);exact b.res (by rw[decide_eq_true d,decide_eq_false n];rfl)
     ·refine waw (yv.2 (by omega)) (wav a ?_);exact b.res (by rw[decide_eq_false d];rfl)
theorem qNc(t:T):Ev (λ m _=>qky m t) (jK t):=by
 refine waz ?_;simp only[qC5,qjP];unfold jK qjm
 have nm:∀{R:Int},(∀ b,jP t.name=b->(if b then(if 8<t.kids.length then 3 else 0)else 2)=R)->Ev (λ m _=>qa (qak m t.name) λ v=>cond (qe v) (some 2) (cond (ilt 8 (t.kids.length:Int)) (some 3) (some 0))) R:=by
  intro R h;refine war (qyU _) ?_;refine Ev.res ?_ (h _ rfl);cases j:jP t.name with
  | false=>exact wau rfl (wat _)
  | true =>
    refine waw rfl ?_;refine wax (λ h=>?_) λ h=>?_
    ·rw[qr]at h;exact way (by rw[if_pos rfl,if_pos (by omega)])
    ·rw[qn]at h;exact way (by rw[if_pos rfl,if_neg (by omega)])
 have d:t.kids.length=0->∀{R:Int},(∀ b,jP t.name=b->(if b then 0 else 2)=R)->Ev (λ m _=>qa (qak m t.name) λ v=>cond (qe v) (some 2) (cond (ilt 8 (t.kids.length:Int)) (some 3) (some 0))) R:=by
  intro k R h;refine nm λ b e=>?_;rw[if_neg (show ¬ 8<t.kids.length by omega)];exact h b e
 by_cases i:t.kind=1
 ·rw[if_pos (.inl i)];refine wau (qk.2 i) ?_;refine wax (λ h=>?_) λ h=>?_
  ·rw[qr]at h;exact way (by rw[if_pos (.inl h)])
  rw[qn]at h;refine wax (λ c=>?_) λ c=>?_
  ·rw[qr]at c;exact way (by rw[if_pos (.inr (.inl c))])
  rw[qn]at c;refine wax (λ a=>?_) λ a=>?_
  ·rw[qr]at a;exact way (by rw[if_pos (.inr (.inr (by omega)))])
  rw[qn]at a;rw[if_neg (by omega)];exact d (by omega) λ b e=>by rw[e]
 refine waw (qh.2 i) ?_;by_cases f:t.kind=2
 ·rw[if_pos (.inr f)];refine waw (bnf.2 (qk.2 f)) ?_;refine wax (λ h=>?_) λ h=>?_
  ·rw[qr]at h;exact way (by rw[if_pos (.inl h)])
  rw[qn]at h;refine wax (λ c=>?_) λ c=>?_
  ·rw[qr]at c;exact way (by rw[if_pos (.inr (.inl c))])
  rw[qn]at c;refine waw (bnf.2 (qk.2 f)) (wau (qk.2 f) ?_);refine wax (λ a=>?_) λ a=>?_
  ·rw[qr]at a;exact way (by rw[if_pos (.inr (.inr (by omega)))])
  rw[qn]at a;rw[if_neg (by omega)];exact d (by omega) λ b e=>by rw[e]
 refine wau (bnt.2 (qh.2 f)) ?_;rw[if_neg (by omega)];by_cases g:t.kind=3
 ·rw[if_pos g];refine waw (bnf.2 (qk.2 g)) ?_;refine wax (λ h=>?_) λ h=>?_
  ·rw[qr]at h;exact way (by rw[if_pos (by omega)])
  rw[qn]at h;refine wax (λ c=>?_) λ c=>?_
  ·rw[qr]at c;exact way (by rw[if_pos (by omega)])
  rw[qn]at c;refine wau (bnt.2 (qh.2 f)) ?_;refine wax (λ a=>?_) λ a=>?_
  ·rw[bnt,qh]at a;exact way (by rw[if_pos a])
  rw[bnf,qk]at a;rw[if_neg (by omega)];refine waw (qh.2 f) ?_;exact nm λ b e=>by rw[e]
 ·rw[if_neg g];exact wau (bnt.2 (qh.2 g)) (wat _)
theorem qKf(t:T):size t<=1000000000->Ev (λ m _=>jL m t) (jO t):=by
 induction t using T.ind with
 | h t d =>
   intro n;refine waz ?_;simp only[qAc,qfa,ql];have o:=yz t
   have a:=qs (P := λ i=>Ev (λ m k=>qax m (jL m) k i t.kind t.name t.sort t.kids) (((t.kids.drop i).map jO).foldl thn 0)) t.kids (by omega)
    (λ b=>by
     refine waA ?_;simp only[qol,qfc];refine waw b ?_;exact way (by simp))
    (λ i x e j b g f l=>by
     refine waA ?_;simp only[qol,qfc,ql];refine wau b (wav g ?_);have c:=wa e;have p:=jH t x c;refine war (d x c (by omega)) ?_;rw[j,wo,QU,f];refine wax (λ h=>?_) λ h=>?_
     ·rw[bnt,qh]at h;exact way (by rw[qS _ h])
     ·rw[bnf,qk]at h;rw[h];exact l)
   rw[qjw];refine war (qNc t) ?_;refine wax (λ h=>?_) λ h=>?_
   ·rw[bnt,qh]at h;exact way (by rw[qS _ h])
   ·rw[bnf,qk]at h;rw[h];refine waB (L := λ m k=>qax m (jL m) k 0 t.kind t.name t.sort t.kids) ?_;exact(a 0 (we _)).res (by rw[wO])
theorem qde(t:T)(a:size t<=1000000000):Ev (λ m _=>jo m t) (qR t):=by
 refine waz ?_;simp only[qzY,qiN,ql];unfold qR;refine war (qKf t a) ?_;refine wax (λ h=>?_) λ h=>?_
 ·rw[bnt,qh]at h;exact way (by rw[if_pos h])
 rw[bnf,qk]at h;rw[if_neg (by omega)];refine war (qpd t a) ?_;refine wax (λ h=>?_) λ h=>?_
 ·rw[qr]at h;exact way (by rw[if_pos (.inl (by omega))])
 rw[qn]at h;refine war (qzg t a) ?_;refine wax (λ h=>?_) λ h=>?_
 ·rw[qr]at h;exact way (by rw[if_pos (.inr (by omega))])
 ·rw[qn]at h;exact way (by rw[if_neg (by omega)])
end Go.AmZ
namespace Go.AmZ
open Go Go.GxZ Go.Lib
theorem qBe(b d:Nat):∀(l:List Nat) (c:Nat),l.foldl (λ a x=>max a (b+x)) (max d (b+c))=max d (b+l.foldl max c)
 | [],c=>rfl
 | x::l,c=>by
   rw[kg,kg,<- qBe b d l (max c x)];congr 1;omega
def qOw(a n d:Nat)(e:Int)(s:Nat)(x:Nat)(r:(Int × Int × Unit) × (Int × Unit)):Prop:=r.2.1=e/\(e=0->r.1.1=((n+s:Nat):Int)/\r.1.2.1=((max d (a+x):Nat):Int))
theorem qLB(t:T):size t<=1000000000->∀ lev n d:Nat,lev+size t<=2000000000->n+size t<=2000000000->d<=2000000000->∃ r,Ev (λ m _=>ye m t lev n d) r/\qOw lev n d (jO t) (size t) (qc3 t-1) r:=by
 induction t using T.ind with
 | h t ih =>
   intro hs lev n d hlev hn hd0;have hl:=yz t;have hsz:=qL t
   have key:=qs (P := λ i=>∀ n d:Nat,n+((t.kids.drop i).map size).sum<=2000000000->d<=2000000000->∃ r,Ev (λ m k=>jI m (ye m) k lev t.kids t.kids.length i n d) r/\r.2.1=((t.kids.drop i).map jO).foldl thn 0/\(((t.kids.drop i).map jO).foldl thn 0=0->r.1.1=((n+((t.kids.drop i).map size).sum:Nat):Int)/\r.1.2.1=((((t.kids.drop i).map qc3).foldl (λ a x=>max a (lev+x)) d:Nat):Int))) t.kids (by omega)
    (λ hc n d _ _=>by
     refine⟨((n,d,()),(0,())),?_,?_,λ _=>⟨?_,?_⟩⟩
     ·refine waA ?_;simp only[qqn,qgv];exact waw hc (wat _)
     ·simp
     ·simp
     ·simp)
    (λ i x hx hd hc hg hi hP n d hn hd1=>by
     have hm:=wa hx;have h1:=jH t x hm;rw[qtN hd]at hn;obtain⟨r,hr,he,hz⟩:=ih x hm (by omega) (lev+1) n d (by omega) (by omega) hd1
     have hstep:∀ r' ,(r.2.1≠0->r'=((r.1.1,r.1.2.1,()),(r.2.1,())))->(r.2.1=0->Ev (λ m k=>jI m (ye m) k lev t.kids t.kids.length ((i+1:Nat):Int) r.1.1 r.1.2.1) r')->Ev (λ m k=>jI m (ye m) k lev t.kids t.kids.length i n d) r':=by
      intro r' g1 g2;refine waA ?_;simp only[qqn,qgv,ql];refine wau hc (wav hg ?_);rw[show qc (lev:Int) 1=((lev+1:Nat):Int) by unfold qc;omega,jT (by omega),hi];refine war hr ?_;refine wax (λ h=>?_) λ h=>?_
      ·rw[bnt,qh]at h;exact way (g1 h).symm
      ·rw[bnf,qk]at h;exact g2 h
     rw[hd,wo,wo,wo,kD,QU,kg];by_cases h0:jO x=0
     ·obtain⟨z1,z2⟩:=hz h0;have hdep:=qEA x;obtain⟨r',g1,g2,g3⟩:=hP (n+size x) (max d (lev+1+(qc3 x-1))) (by omega) (by omega);refine⟨r',hstep r' (λ h=>absurd (he.trans h0) h) (λ _=>by rw[z1,z2];exact g1),by rw[h0];exact g2,λ hh=>?_⟩;rw[h0]at hh;obtain⟨q1,q2⟩:=g3 hh;refine⟨by rw[q1];congr 1;omega,?_⟩;rw[q2];have:qc3 x ≥ 1:=by rw[qk8];omega
      rw[show max d (lev+1+(qc3 x-1))=max d (lev+qc3 x) by omega]
     ·refine⟨((r.1.1,r.1.2.1,()),(r.2.1,())),hstep _ (λ _=>rfl) (λ h=>absurd (he.symm.trans h) h0),?_,λ hh=>?_⟩
      ·rw[qS _ h0];exact he
      ·rw[qS _ h0]at hh;exact absurd hh h0)
   have start:∀ r,(jK t≠0->r=((((n+1:Nat):Int),((max d lev:Nat):Int),()),(jK t,())))->(jK t=0->Ev (λ m _=>jI m (ye m) m lev t.kids t.kids.length 0 ((n+1:Nat):Int) ((max d lev:Nat):Int)) r)->Ev (λ m _=>ye m t lev n d) r:=by
    intro r g1 g2;refine waz ?_;simp only[qDd,qgw];rw[show qc (n:Int) 1=((n+1:Nat):Int) by unfold qc;omega,jT (by omega),qDw]
    have err:∀ e,jK t=e->e≠0->Ev (λ _ _=>some ((((n+1:Nat):Int),((max d lev:Nat):Int),()),(e,()))) r:=by
     intro e he h;refine way ?_;subst he;exact(g1 h).symm
    have nm:(t.kind=3\/t.kids.length=0)->(∀ b,jP t.name=b->(if b then(if 8<t.kids.length then 3 else 0)else 2)=jK t)->Ev (λ m _=>qa (qdX m t.name) λ v=>cond (qe v) (some ((((n+1:Nat):Int),((max d lev:Nat):Int),()),(2,()))) (cond (ilt 8 (t.kids.length:Int)) (some ((((n+1:Nat):Int),((max d lev:Nat):Int),()),(3,()))) (jI m (ye m) m lev t.kids t.kids.length 0 ((n+1:Nat):Int) ((max d lev:Nat):Int)))) r:=by
     intro _ h;have h:=h _ rfl;refine war (qF9 _) ?_;cases hn:jP t.name with
     | false=>rw[hn]at h;exact wau rfl (err 2 h.symm (by decide))
     | true =>
       rw[hn,if_pos rfl]at h;refine waw rfl ?_;refine wax (λ h'=>?_) λ h'=>?_
       ·rw[qr]at h';rw[if_pos (by omega)]at h;exact err 3 h.symm (by decide)
       ·rw[qn]at h';rw[if_neg (by omega)]at h;exact g2 h.symm
    have leafE:∀ k,t.kind=k->(k=1\/k=2)->jK t=if t.sort<0\/5<t.sort\/0<t.kids.length then 1 else if jP t.name then 0 else 2:=by
     intro k hk h;unfold jK qjm;rw[hk,if_pos h]
    have leaf:∀ k,t.kind=k->(k=1\/k=2)->Ev (λ m _=>cond (ilt t.sort 0) (some ((((n+1:Nat):Int),((max d lev:Nat):Int),()),(1,()))) (cond (ilt 5 t.sort) (some ((((n+1:Nat):Int),((max d lev:Nat):Int),()),(1,()))) (cond (ilt 0 (t.kids.length:Int)) (some ((((n+1:Nat):Int),((max d lev:Nat):Int),()),(1,()))) (qa (qdX m t.name) λ v=>cond (qe v) (some ((((n+1:Nat):Int),((max d lev:Nat):Int),()),(2,()))) (cond (ilt 8 (t.kids.length:Int)) (some ((((n+1:Nat):Int),((max d lev:Nat):Int),()),(3,()))) (jI m (ye m) m lev t.kids t.kids.length 0 ((n+1:Nat):Int) ((max d lev:Nat):Int))))))) r:=by
     intro k hk h;have hE:=leafE k hk h;refine wax (λ h'=>?_) λ h'=>?_
     ·rw[qr]at h';exact err 1 (by rw[hE,if_pos (.inl h')]) (by decide)
     rw[qn]at h';refine wax (λ h1=>?_) λ h1=>?_
     ·rw[qr]at h1;exact err 1 (by rw[hE,if_pos (.inr (.inl h1))]) (by decide)
     rw[qn]at h1;refine wax (λ h2=>?_) λ h2=>?_
     ·rw[qr]at h2;exact err 1 (by rw[hE,if_pos (.inr (.inr (by omega)))]) (by decide)
     rw[qn]at h2;rw[if_neg (by omega)]at hE;refine nm (.inr (by omega)) λ b hb=>?_;rw[hE,hb,if_neg (show ¬ 8<t.kids.length by omega)]
    by_cases h1:t.kind=1
    ·exact wau (qk.2 h1) (leaf 1 h1 (.inl rfl))
    refine waw (qh.2 h1) ?_;by_cases h2:t.kind=2
    ·exact wau (qk.2 h2) (leaf 2 h2 (.inr rfl))
    refine waw (qh.2 h2) ?_;by_cases h3:t.kind=3
    ·refine wau (qk.2 h3) ?_
     have hE:jK t=if t.sort≠0 then 1 else if jP t.name then(if 8<t.kids.length then 3 else 0)else 2:=by
      unfold jK qjm;rw[if_neg (by omega),if_pos h3]
     refine wax (λ h'=>?_) λ h'=>?_
     ·rw[bnt,qh]at h';exact err 1 (by rw[hE,if_pos h']) (by decide)
     rw[bnf,qk]at h';rw[if_neg (by omega)]at hE;exact nm (.inl h3) λ b hb=>by rw[hE,hb]
    ·refine waw (qh.2 h3) ?_;refine err 1 ?_ (by decide);unfold jK qjm;rw[if_neg (by omega),if_neg h3]
   rw[qjw];by_cases h0:jK t=0
   ·rw[h0];obtain⟨r,g1,g2,g3⟩:=key 0 (we _) (n+1) (max d lev) (by rw[wO];omega) (by omega);rw[wO]at g2 g3;refine⟨r,start r (λ h=>absurd h0 h) (λ _=>waB (L := λ m k=>jI m (ye m) k lev t.kids t.kids.length 0 ((n+1:Nat):Int) ((max d lev:Nat):Int)) g1),g2,λ hh=>?_⟩;obtain⟨q1,q2⟩:=g3 hh;refine⟨by rw[q1];congr 1;omega,?_⟩;rw[q2,show max d lev=max d (lev+0) by omega,qBe,qk8,xU]
   ·refine⟨_,start _ (λ _=>rfl) (λ h=>absurd h h0),?_,λ hh=>?_⟩
    ·rw[qS _ h0]
    ·rw[qS _ h0]at hh;exact absurd hh h0
theorem qdf(t:T)(c:size t<=1000000000):Ev (λ m _=>yG m t) (qR t):=by
 refine waz ?_;simp only[qAV,qjU,ql];unfold qR;obtain⟨r,f,e,d⟩:=qLB t c 1 0 0 (by omega) (by omega) (by omega);refine war f ?_;rw[e];refine wax (λ h=>?_) λ h=>?_
 ·rw[bnt,qh]at h;exact way (by rw[if_pos h])
 rw[bnf,qk]at h;obtain⟨b,a⟩:=d h;have g:qc3 t ≥ 1:=by rw[qk8];omega
 rw[if_neg (by omega),b,a];refine wax (λ h=>?_) λ h=>?_
 ·rw[qr]at h;exact way (by rw[if_pos (.inl (by omega))])
 rw[qn]at h;refine wax (λ h=>?_) λ h=>?_
 ·rw[qr]at h;exact way (by rw[if_pos (.inr (by omega))])
 ·rw[qn]at h;exact way (by rw[if_neg (by omega)])
theorem quC(t:T):size t<=1000000000->Ev (λ m _=>jy m t) t:=by
 induction t using T.ind with
 | h t e =>
   intro l;refine waz ?_;simp only[qA1,qgD];have n:=yz t
   have a:=qs (P := λ i=>Ev (λ m k=>qbd m (jy m) k t.kids t.kids.length i t.kind t.name t.sort 0 [] 0 (t.kids.take i) []) t) t.kids (by omega)
    (λ b=>by
     refine waA ?_;simp only[qqp,qgr];refine waw b ?_;rw[wC];exact way (ql t))
    (λ i x c o b g f j=>by
     refine waA ?_;simp only[qqp,qgr,ql];have d:=wa c;have p:=jH t x d;refine wau b (wav g (war (e x d (by omega)) (wau (qD ?_ (by omega)) ?_)))
     ·have:(t.kids.take i).length<=t.kids.length:=by rw[wm];omega
      omega
     ·rw[f];refine j.congr λ m k=>?_;rw[kw,c];rfl)
   refine waB (L := λ m k=>qbd m (jy m) k t.kids t.kids.length 0 t.kind t.name t.sort 0 [] 0 [] []) ?_;exact a 0 (we _)
def qx4:T->Prop:=T.para λ t a=>t.kids.length<2 ^ 62/\t.name.length<2 ^ 62/\∀ p∈a,p
theorem qEB(t:T):qx4 t↔t.kids.length<2 ^ 62/\t.name.length<2 ^ 62/\∀ k∈t.kids,qx4 k:=by
 unfold qx4;rw[T.para_eq];exact⟨λ⟨a,b,c⟩=>⟨a,b,λ k d=>c _ (kO d)⟩,λ⟨a,b,c⟩=>⟨a,b,λ p e=>by obtain⟨k,d,rfl⟩:=wy.1 e;exact c k d⟩⟩
theorem qK4{l:List T}{a:Int}(c:0<=a)(h:qlQ l a=true):∀ t∈l,(size t:Int)<=a := λ t b=>by
 have e:=qyI l a c h;have d:=qkD l t b;omega
end Go.AmZ
namespace Go.GxZ
def qvB(t:T):Int:=if(qH t.name).2.2=0 then 10 else if qnY yU t.name t.kids.length=false then 6 else if(qH t.name).2.2=2/\qk9 t=false then 10 else 0
theorem quZ(n:List UInt8):(yU.find? λ r=>r.1==n)=none\/∃ r∈yU,r.1=n/\(yU.find? λ r=>r.1==n)=some r:=by
 cases h:yU.find? λ r=>r.1==n with
 | none=>exact .inl rfl
 | some r=>exact .inr ⟨r,List.mem_of_find?_eq_some h,by simpa using List.find?_some h,rfl⟩
theorem qwy{n:List UInt8}(h:(yU.find? λ r=>r.1==n)=none):qH n=(0,0,0):=by unfold qH;rw[h];rfl
theorem qpq{n:List UInt8}{r:List UInt8 × Int × Int × Int}(h:(yU.find? λ r=>r.1==n)=some r):qH n=r.2:=by unfold qH;rw[h];rfl
def qLX(r:List UInt8 × Int × Int × Int):Bool :=
 decide (r.2.2.2≠0)&&decide (0<=r.2.1)&&decide (r.2.2.1<=8)&&(decide (r.2.2.2=2)==(r.1==qim||r.1==nSk||r.1==quz))&&(decide (r.2.2.2=2)==decide (r.2.2.2=2/\1<=r.2.1))&&(decide (r.2.2.2=3)==(r.1==qLh||r.1==qxo||r.1==qKW||r.1==qGl||r.1==qFR||r.1==qGJ))
theorem qL8:yU.all qLX=true:=by decide
theorem qws{n:List UInt8}(h:(qH n).2.2≠0):qKI yU n=true/\qw4 yU n=qH n/\0<=(qH n).1/\(qH n).2.1<=8/\((qH n).2.2=2↔n=qim\/n=nSk\/n=quz)/\((qH n).2.2=2->1<=(qH n).1)/\((qH n).2.2=3↔isD n=true):=by
 rcases quZ n with b | ⟨r,d,g,b⟩
 ·rw[qwy b]at h;exact absurd rfl h
 ·have c:=wv.1 qL8 r d;subst g;rw[qpq b];unfold qLX at c;simp only[wd,beq_iff_eq,decide_eq_true_eq]at c;obtain⟨⟨⟨⟨⟨l,k⟩,j⟩,a⟩,f⟩,i⟩:=c;refine⟨wag.2 ⟨r,d,by simp⟩,qpq b,k,j,?_,?_,?_⟩
  ·constructor
   ·intro h;rw[decide_eq_true h]at a;have:=a.symm;simp only[kh,beq_iff_eq]at this;exact or_assoc.1 this
   ·intro h;by_cases e:r.2.2.2=2
    ·exact e
    ·rw[decide_eq_false e]at a;have:=a.symm;simp only[xI,beq_eq_false_iff_ne]at this;rcases h with h | h | h
     ·exact absurd h this.1.1
     ·exact absurd h this.1.2
     ·exact absurd h this.2
  ·intro h;rw[decide_eq_true h]at f;have:=of_decide_eq_true f.symm;exact this.2
  ·unfold isD;rw[<- i];simp
theorem qJD(t:T)(n:t.kind=3):qvB t=qc8 t:=by
 unfold qvB qc8;rw[if_neg (show ¬ (t.kind≠3)from λ h=>h n)];by_cases b:(qH t.name).2.2=0
 ·rw[if_pos b,if_pos b]
 ·rw[if_neg b,if_neg b];obtain⟨j,i,r,q,g,p,o⟩:=qws b
  have e1:qnY yU t.name t.kids.length=(decide ((qH t.name).1<=(t.kids.length:Int))&&decide ((t.kids.length:Int)<=(qH t.name).2.1)):=by
   unfold qnY;rw[j,i,wZ]
  rw[e1];by_cases e:(t.kids.length:Int)<(qH t.name).1\/(qH t.name).2.1<(t.kids.length:Int)
  ·rw[if_pos e,if_pos];rw[xZ,decide_eq_false_iff_not,decide_eq_false_iff_not];omega
  ·rw[if_neg e,if_neg]
   ·have f:(qH t.name).2.2=2/\qk9 t=false↔qaK t=true:=by
      rw[g];unfold qk9 qaK;by_cases a:t.name=qim
      ·rw[if_pos a,if_pos a];simp[a]
      ·rw[if_neg a,if_neg a];by_cases c:t.name=nSk\/t.name=quz
       ·rw[if_pos c]
        have:agB t.kids = !(t.kids.any λ k=>decide (k.kind=3)||decide (k.sort≠1)):=by
         unfold agB;generalize t.kids=l
         induction l with
         | nil=>rfl
         | cons x l m=>simp only[kC,vW,m,Bool.not_or];congr 1;congr 1;by_cases h:x.sort=1<;>simp[bne,h]
        rw[this];simp[c]
       ·rw[if_neg c];constructor
        ·rintro⟨h,_⟩;rcases h with h | h
         ·exact absurd h a
         ·exact absurd h c
        ·intro h;cases h
    by_cases d:qaK t=true
    ·rw[if_pos d,if_pos (f.2 d)]
    ·rw[if_neg d,if_neg (λ h=>d (f.1 h))]
   ·rw[xZ,decide_eq_false_iff_not,decide_eq_false_iff_not];omega
theorem qdc{t:T}(e:t.kind=3)(h:zk t=0):qc8 t=0/\(∀ k∈t.kids,zk k=0):=by
 rw[qoj,if_neg (show ¬ (t.kind≠3)from λ h=>h e)]at h;by_cases c:qc8 t=0
 ·refine⟨c,?_⟩;rw[c]at h;generalize t.kids=l at *
  induction l with
  | nil=>intro k a;cases a
  | cons x l d =>
    rw[wo,QU]at h;by_cases b:zk x=0
    ·rw[b]at h;intro k a;rcases wx.1 a with rfl | a
     ·exact b
     ·exact d h k a
    ·rw[qS _ b]at h;exact absurd h b
 ·rw[qS _ c]at h;exact absurd h c
end Go.GxZ
namespace Go.AmZ
open Go Go.GxZ Go.Lib
theorem qkP(t:T)(n:List UInt8):Ev (λ m _=>jt m t n) (isN t n):=by
 refine waz ?_;simp only[qDR,qlY];unfold isN;refine wax (λ h=>?_) λ h=>?_
 ·rw[qk]at h;exact way (by rw[h];rfl)
 ·rw[qh]at h;exact way (by rw[show(t.kind==3)=false from beq_eq_false_iff_ne.2 h];rfl)
theorem qma(t:T)(n:List UInt8):Ev (λ m _=>qcc m t n) (isN t n):=by
 refine waz ?_;simp only[qGp,qnJ];unfold isN;refine wax (λ h=>?_) λ h=>?_
 ·rw[qk]at h;exact way (by rw[h];rfl)
 ·rw[qh]at h;exact way (by rw[show(t.kind==3)=false from beq_eq_false_iff_ne.2 h];rfl)
theorem qNu(n:List UInt8)(l:List T):Ev (λ m _=>qhy m n l) (apT n l):=waz (wat _)
theorem qfq(n:List UInt8)(l:List T)(a:l.length<=1000000000):Ev (λ m _=>Qn m n l) (apT n l):=by
 refine waz ?_;simp only[qD0,qlK];refine wau (qD (by simp;omega) (by omega)) ?_;refine Ev.case (λ h=>?_) λ x t h=>?_
 ·subst h;exact wat _
 ·subst h;exact wat _
def qKt(n:List UInt8):List UInt8 × Int × Int × Int:=(yU.find? λ r=>r.1==n).getD ([],0,0,0)
theorem qtK(n:List UInt8):(qKt n).2=qH n:=by
 unfold qKt qH;cases yU.find? λ r=>r.1==n<;>rfl
theorem qzi(n:List UInt8):Ev (λ m _=>qdN m n) (qKt n):=by
 refine waz ?_;simp only[qvv,qdk];refine war (a:=yU) (wat _) ?_
 have b:=qs (P := λ i=>Ev (λ m k=>Jd m k n yU yU.length i [] 0 0 0) (((yU.drop i).find? λ r=>r.1==n).getD ([],0,0,0))) yU (by decide)
  (λ c=>by
   refine waA ?_;simp only[qlA,qdG];refine waw c ?_;exact wat _)
  (λ i x j f c e d g=>by
   refine waA ?_;simp only[qlA,qdG];refine wau c (wav e ?_);rw[f,List.find?_cons,d];refine wax (λ h=>?_) λ h=>?_
   ·exact way (by rw[show(x.1==n)=true from h];rfl)
   ·rw[show(x.1==n)=false from h];exact g)
 refine waB (L := λ m k=>Jd m k n yU yU.length 0 [] 0 0 0) ?_;exact b 0 (we _)
theorem qum{t:T}(c:t.kind=3)(h:qc8 t=0):(qH t.name).2.2≠0/\(qH t.name).1<=(t.kids.length:Int)/\(t.kids.length:Int)<=(qH t.name).2.1/\qaK t=false:=by
 unfold qc8 at h;rw[if_neg (show ¬ t.kind≠3 from λ a=>a c)]at h;split at h
 ·omega
 rename_i d;split at h
 ·omega
 rename_i e;split at h
 ·omega
 rename_i b;exact⟨d,by omega,by omega,by simpa using b⟩
theorem qyl{t:T}{i:Nat}(h:i<t.kids.length):qb t.kids (i:Int)=some (kid t i):=by
 rw[zb];unfold kid;rw[List.getD_eq_getElem?_getD,List.getElem?_eq_getElem h];rfl
theorem qef{t:T}(h:0<t.kids.length):qb t.kids 0=some (kid t 0):=qyl (i:=0) h
theorem qsC{t:T}(h:1<t.kids.length):qb t.kids 1=some (kid t 1):=qyl (i:=1) h
theorem qEo{t:T}{i:Nat}(h:i<t.kids.length):kid t i∈t.kids:=by
 unfold kid;rw[List.getD_eq_getElem?_getD,List.getElem?_eq_getElem h];exact wW h
theorem yO{t:T}{n:List UInt8}:isN t n=true↔t.kind=3/\t.name=n:=by
 unfold isN;rw[wd,beq_iff_eq,beq_iff_eq]
theorem qIM(t:T):size t<=1000000000->Ev (λ m _=>qE m t) (zk t):=by
 induction t using T.ind with
 | h t E =>
   intro F;refine waz ?_;simp only[qwZ,qew];have G:=yz t;rw[qoj];refine wax (λ h=>?_) λ z=>?_
   ·rw[bnt,qh]at h;exact way (by rw[if_pos h])
   rw[bnf,qk]at z;rw[if_neg (show ¬ t.kind≠3 from λ c=>c z)]
   have C:=qs (P := λ i=>Ev (λ m k=>(qU m (qE m) k).2 t.kids t.kids.length i) (((t.kids.drop i).map zk).foldl thn 0)) t.kids (by omega)
    (λ f=>by
     refine waA ?_;simp only[qnf,qey];refine waw f ?_;exact way (by simp))
    (λ i x A w f v u y=>by
     refine waA ?_;simp only[qnf,qey,ql];have B:=wa A;have l:=jH t x B;refine wau f (wav v (war (E x B (by omega)) ?_));rw[w,wo,QU,u];refine wax (λ h=>?_) λ h=>?_
     ·rw[bnt,qh]at h;exact way (by rw[qS _ h])
     ·rw[bnf,qk]at h;rw[h];exact y)
   have n:Ev (λ m k=>(qU m (qE m) k).2 t.kids t.kids.length 0) ((t.kids.map zk).foldl thn 0):=(C 0 (we _)).res (by rw[wO])
   have D:=qs (P := λ i=>Ev (λ m k=>(qU m (qE m) k).1 t.kids t.kids.length i t.kind t.name t.sort t.kids) (if(t.kids.drop i).any (λ k=>decide (k.kind=3)||decide (k.sort≠1))=true then 10 else(t.kids.map zk).foldl thn 0)) t.kids (by omega)
    (λ f=>by
     refine waA ?_;simp only[qnx,qet];refine waw f ?_;refine n.res ?_;rw[wT];rfl)
    (λ i x A w f v u y=>by
     refine waA ?_;simp only[qnx,qet,ql];refine wau f (wav v ?_);rw[w,vW,u];refine wax (λ h=>?_) λ h=>?_
     ·rw[qk]at h;exact way (by rw[decide_eq_true h];rfl)
     rw[qh]at h;rw[decide_eq_false h];refine wax (λ q=>?_) λ q=>?_
     ·rw[bnt,qh]at q;exact way (by rw[decide_eq_true q];rfl)
     ·rw[bnf,qk]at q;rw[decide_eq_false (λ c=>c q)];exact y)
   have d:qc8 t=0->Ev (λ m _=>(qU m (qE m) m).2 t.kids t.kids.length 0) ((t.kids.map zk).foldl thn (qc8 t)) := λ h=>by
    rw[h];exact waB (L := λ m k=>(qU m (qE m) k).2 t.kids t.kids.length 0) n
   have e:qaK t=t.kids.any (λ k=>decide (k.kind=3)||decide (k.sort≠1))->qc8 t=(if qaK t=true then 10 else 0)->Ev (λ m _=>(qU m (qE m) m).1 t.kids t.kids.length 0 t.kind t.name t.sort t.kids) ((t.kids.map zk).foldl thn (qc8 t)) := λ r h=>by
    refine(waB (L := λ m k=>(qU m (qE m) k).1 t.kids t.kids.length 0 t.kind t.name t.sort t.kids) (D 0 (we _))).res ?_;rw[wO,<- r,h];split
    ·rw[qS _ (by decide)]
    ·rfl
   refine war (qzi t.name) ?_;rw[qtK]
   have a:qc8 t=if(qH t.name).2.2=0 then 10 else if(t.kids.length:Int)<(qH t.name).1\/(qH t.name).2.1<(t.kids.length:Int)then 6 else if qaK t=true then 10 else 0:=by
    unfold qc8;rw[if_neg (show ¬ t.kind≠3 from λ c=>c z)]
   refine wax (λ h=>?_) λ h=>?_
   ·rw[qk]at h;rw[if_pos h]at a;exact way (by rw[a,qS _ (by decide)])
   rw[qh]at h;rw[if_neg h]at a;refine wax (λ l=>?_) λ l=>?_
   ·rw[qr]at l;rw[if_pos (.inl l)]at a;exact way (by rw[a,qS _ (by decide)])
   rw[qn]at l;refine wax (λ s=>?_) λ s=>?_
   ·rw[qr]at s;rw[if_pos (.inr s)]at a;exact way (by rw[a,qS _ (by decide)])
   rw[qn]at s;rw[if_neg (by omega)]at a;refine wax (λ p=>?_) λ p=>?_
   ·rw[yQ]at p;refine e ?_ a;unfold qaK;rw[p,if_neg (by decide),if_pos (.inl rfl)]
   rw[jQ]at p;refine wax (λ b=>?_) λ b=>?_
   ·rw[yQ]at b;refine e ?_ a;unfold qaK;rw[b,if_neg (by decide),if_pos (.inr rfl)]
   rw[jQ]at b;refine wax (λ j=>?_) λ j=>?_
   ·rw[yQ]at j
    have o:0<t.kids.length:=by
     rw[j,show(qH [110,101,119]).1=1 from by decide]at l;omega
    refine wav (qef o) ?_
    have r:qaK t=decide ((kid t 0).kind≠2):=by
     unfold qaK;rw[if_pos (show t.name=qim from j)]
    refine wax (λ c=>?_) λ c=>?_
    ·rw[bnt,qh]at c;rw[r,decide_eq_true c,if_pos rfl]at a;exact way (by rw[a,qS _ (by decide)])
    ·rw[bnf,qk]at c;rw[r,decide_eq_false (λ g=>g c)]at a;exact d a
   ·rw[jQ]at j;refine d ?_
    have:qaK t=false:=by
     unfold qaK;rw[if_neg (show ¬ t.name=qim from j),if_neg (λ h=>h.elim p b)]
    rw[this]at a;exact a
theorem qFJ(t:T)(a:size t<=1000000000):Ev (λ m _=>qeQ m t) (qcj t):=by
 refine waz ?_;simp only[qyp,qhx,ql];unfold qcj;refine war (qdf t a) ?_;refine wax (λ h=>?_) λ h=>?_
 ·rw[bnt,qh]at h;exact way (by rw[QS h])
 ·rw[bnf,qk]at h;rw[h];exact war (qIM t a) (wat _)
theorem qyd(n:List UInt8):Ev (λ m _=>qfb m n) (qH n).2.2:=by
 refine waz ?_;simp only[qAR,qgm];refine war (a:=yU) (waz (wat _)) ?_
 have b:=qs (P := λ i=>Ev (λ m k=>qbp m k n yU i) (((yU.drop i).find? λ r=>r.1==n).getD ([],0,0,0)).2.2.2) yU (by decide)
  (λ c=>by
   refine waA ?_;simp only[qqo,qgq];refine waw c ?_;exact wat _)
  (λ i x j f c d e g=>by
   refine waA ?_;simp only[qqo,qgq];refine wau c (wav d ?_);rw[f,List.find?_cons,e];refine wax (λ h=>?_) λ h=>?_
   ·refine wav d (way ?_);rw[show(x.1==n)=true from h];rfl
   ·rw[show(x.1==n)=false from h];exact g)
 refine waB (L := λ m k=>qbp m k n yU 0) ?_;exact(b 0 (we _)).res (by rw[<- qtK];rfl)
theorem qML(t:T):Ev (λ m _=>qkQ m t) (qnY yU t.name t.kids.length):=by
 refine waz ?_;simp only[qBi,qgI];refine war (a:=yU) (waz (wat _)) ?_
 have c:=qs (P := λ i=>Ev (λ m k=>qbk m k yU i t.kind t.name t.sort t.kids) (qnY (yU.drop i) t.name t.kids.length)) yU (by decide)
  (λ e=>by
   refine waA ?_;simp only[qqz,qgt];refine waw e ?_;exact wat _)
  (λ i x l g e d f j=>by
   refine waA ?_;simp only[qqz,qgt];refine wau e (wav d ?_);rw[g,qHR,f];refine wax (λ h=>?_) λ h=>?_
   ·rw[if_pos (show(x.1==t.name)=true from h)];refine wav d ?_;refine wax (λ b=>?_) λ b=>?_
    ·rw[jm]at b;refine wav d (way ?_);rw[decide_eq_true b];rfl
    ·rw[yv]at b;exact way (by rw[decide_eq_false (by omega)];rfl)
   ·rw[if_neg (by rw[show(x.1==t.name)=false from h];decide)];exact j)
 refine waB (L := λ m k=>qbk m k yU 0 t.kind t.name t.sort t.kids) ?_;exact c 0 (we _)
theorem qH1(t:T)(f:t.kids.length<2 ^ 62)(a:t.name=qim->0<t.kids.length):Ev (λ m _=>qhh m t) (qk9 t):=by
 refine waz ?_;simp only[qxy,qeo];unfold qk9;refine wax (λ h=>?_) λ h=>?_
 ·rw[yQ]at h;rw[if_pos (show t.name=qim from h)];refine wav (qef (a h)) (wat _)
 rw[jQ]at h;rw[if_neg (show ¬ t.name=qim from h)]
 have c:=qs (P := λ i=>Ev (λ m k=>JR m k i t.kind t.name t.sort t.kids) (agB (t.kids.drop i))) t.kids f
  (λ d=>by
   refine waA ?_;simp only[qni,qee];refine waw d ?_;exact way (by rw[wT];rfl))
  (λ i x n j d e g l=>by
   refine waA ?_;simp only[qni,qee];refine wau d (wav e ?_);rw[j,qJR,g];refine wax (λ h=>?_) λ h=>?_
   ·exact way (by rw[show(x.kind==3)=true from h];rfl)
   rw[show(x.kind==3)=false from h];refine wav e ?_;refine wax (λ b=>?_) λ b=>?_
   ·rw[bnt,qh]at b;exact way (by rw[show(x.sort != 1)=true from bne_iff_ne.2 b];rfl)
   ·rw[bnf,qk]at b;rw[show(x.sort != 1)=false by rw[b];rfl];exact l)
 refine waB (L := λ m k=>JR m k 0 t.kind t.name t.sort t.kids) ?_;exact(c 0 (we _)).res (by rw[wO])
theorem qJb(t:T):size t<=1000000000->Ev (λ m _=>jl m t) (zk t):=by
 induction t using T.ind with
 | h t o =>
   intro C;refine waz ?_;simp only[qAr,qfG,ql];have E:=yz t;rw[qoj];refine wax (λ h=>?_) λ f=>?_
   ·rw[bnt,qh]at h;exact way (by rw[if_pos h])
   rw[bnf,qk]at f;rw[if_neg (show ¬ t.kind≠3 from λ r=>r f),<- qJD t f]
   have c:=qs (P := λ i=>Ev (λ m k=>Ju m (jl m) k i t.kind t.name t.sort t.kids) (((t.kids.drop i).map zk).foldl thn 0)) t.kids (by omega)
    (λ e=>by
     refine waA ?_;simp only[qoG,qfx];refine waw e ?_;exact way (by simp))
    (λ i x p u e s q w=>by
     refine waA ?_;simp only[qoG,qfx,ql];have g:=wa p;have G:=jH t x g;refine wau e (wav s (war (o x g (by omega)) ?_));rw[u,wo,QU,q];refine wax (λ h=>?_) λ h=>?_
     ·rw[bnt,qh]at h;exact way (by rw[qS _ h])
     ·rw[bnf,qk]at h;rw[h];exact w)
   have a:qvB t=0->Ev (λ m _=>Ju m (jl m) m 0 t.kind t.name t.sort t.kids) ((t.kids.map zk).foldl thn (qvB t)) := λ h=>by
    rw[h];exact(waB (L := λ m k=>Ju m (jl m) k 0 t.kind t.name t.sort t.kids) (c 0 (we _))).res (by rw[wO])
   unfold qvB at a |-
   refine war (qyd t.name) ?_;refine wax (λ h=>?_) λ h=>?_
   ·rw[qk]at h;rw[if_pos h];exact way (by rw[qS _ (by decide)])
   rw[qh]at h;rw[if_neg h]at a |-
   refine war (qML t) ?_;cases d:qnY yU t.name t.kids.length with
   | false =>
     refine wau rfl ?_;rw[if_pos rfl];exact way (by rw[qS _ (by decide)])
   | true =>
     rw[d,if_neg (by decide)]at a;rw[if_neg (by decide)];refine waw rfl ?_;refine wax (λ b=>?_) λ b=>?_
     ·rw[qk]at b;refine war (qH1 t (by omega) λ D=>?_) ?_
      ·obtain⟨n,l,B,A,z,j,y⟩:=qws h;have F:=j b;unfold qnY at d;rw[n,l,wZ,wd,decide_eq_true_iff]at d;omega
      cases v:qk9 t with
      | false =>
        refine wau rfl ?_;rw[if_pos ⟨b,rfl⟩];exact way (by rw[qS _ (by decide)])
      | true =>
        rw[v,if_neg (by rintro⟨_,h⟩;cases h)]at a;rw[if_neg (by rintro⟨_,h⟩;cases h)];exact waw rfl (a rfl)
     ·rw[qh]at b;rw[if_neg (by rintro⟨h,_⟩;exact b h)]at a |-
      exact a rfl
theorem qye(t:T)(a:size t<=1000000000):Ev (λ m _=>qdW m t) (qcj t):=by
 refine waz ?_;simp only[qz4,qiQ,ql];unfold qcj;refine war (qde t a) ?_;refine wax (λ h=>?_) λ h=>?_
 ·rw[bnt,qh]at h;exact way (by rw[QS h])
 ·rw[bnf,qk]at h;rw[h];exact war (qJb t a) (wat _)
end Go.AmZ
namespace Go.GxZ
def Asc(l:List T):Prop:=l.Pairwise λ a b=>qu a b=-1
theorem yA{a:T}:qu a a≠-1:=by rw[qr4];decide
theorem qw8{a b:T}:qu a b=1↔qu b a=-1:=by
 have:=yd.anti a b;omega
theorem qfw{a b c:T}(e:qu a b=-1)(d:qu b c=-1):qu a c=-1:=yd.trans a b c e d
theorem qa2{x:T}{l:List T}:Asc (x::l)↔(∀ y∈l,qu x y=-1)/\Asc l:=List.pairwise_cons
theorem qEC:∀(l m:List T),Asc l->Asc m->(∀ x,x∈l↔x∈m)->l=m
 | [],[],_,_,_=>rfl
 | [],y::m,_,_,h=>absurd ((h y).2 (wh ..)) (by simp)
 | x::l,[],_,_,h=>absurd ((h x).1 (wh ..)) (by simp)
 | x::l,y::m,n,k,h=>by
   obtain⟨c,i⟩:=qa2.1 n;obtain⟨b,g⟩:=qa2.1 k;have f:=(h x).1 (wh ..);have d:=(h y).2 (wh ..)
   have e:x=y:=by
    rcases wx.1 f with e | f
    ·exact e
    rcases wx.1 d with e | d
    ·exact e.symm
    exact absurd (qfw (c y d) (b x f)) yA
   subst e;rw[qEC l m i g λ z=>?_];constructor
   ·intro a;rcases wx.1 ((h z).1 (wg _ a))with e | j
    ·subst e;exact absurd (c z a) yA
    ·exact j
   ·intro a;rcases wx.1 ((h z).2 (wg _ a))with e | j
    ·subst e;exact absurd (b z a) yA
    ·exact j
theorem qvu(n:Nat):∀(a b:List T),a.length+b.length<=n->Asc a->Asc b->Asc (zl a b)/\(∀ x,x∈zl a b↔¬(x∈a↔x∈b)):=by
 induction n with
 | zero =>
   intro a b h _ _;obtain rfl:a=[]:=kr.1 (by omega);obtain rfl:b=[]:=kr.1 (by omega);rw[zl];exact⟨List.Pairwise.nil,by simp⟩
 | succ n p =>
   intro a b h u t
   match a,b with
   | [],b=>rw[zl];exact⟨t,by simp⟩
   | x::a,[]=>rw[zl];exact⟨u,by simp[Classical.or_iff_not_imp_left]⟩
   | x::a,y::b =>
     rw[zl];obtain⟨g,o⟩:=qa2.1 u;obtain⟨f,m⟩:=qa2.1 t;simp only[wu]at h;by_cases k:qu x y=-1
     ·rw[if_pos k];obtain⟨l,i⟩:=p a (y::b) (by simp;omega) o t
      have s:x ∉ y::b:=by
       intro h;rcases wx.1 h with e | h
       ·subst e;exact yA k
       ·exact yA (qfw k (f x h))
      have B:x ∉ a := λ h=>yA (g x h);refine⟨qa2.2 ⟨λ z q=>?_,l⟩,λ z=>?_⟩
      ·have:=(i z).1 q;by_cases d:z∈a
       ·exact g z d
       ·have c:z∈y::b:=by
          by_cases c:z∈y::b
          ·exact c
          ·exact absurd ⟨λ h=>absurd h d,λ h=>absurd h c⟩ this
        rcases wx.1 c with e | w
        ·rw[e];exact k
        ·exact qfw k (f z w)
      ·rw[wx,i,wx (a:=z) (b:=x)];by_cases e:z=x
       ·subst e;simp[s]
       ·simp[e]
     ·rw[if_neg k];by_cases v:qu x y=1
      ·rw[if_pos v];have j:=qw8.1 v;obtain⟨l,i⟩:=p (x::a) b (by simp;omega) u m
       have r:y ∉ x::a:=by
        intro h;rcases wx.1 h with e | h
        ·subst e;exact yA j
        ·exact yA (qfw j (g y h))
       have A:y ∉ b := λ h=>yA (f y h);refine⟨qa2.2 ⟨λ z q=>?_,l⟩,λ z=>?_⟩
       ·have:=(i z).1 q;by_cases c:z∈b
        ·exact f z c
        ·have d:z∈x::a:=by
           by_cases d:z∈x::a
           ·exact d
           ·exact absurd ⟨λ h=>absurd h d,λ h=>absurd h c⟩ this
         rcases wx.1 d with e | w
         ·rw[e];exact j
         ·exact qfw j (g z w)
       ·rw[wx,i,wx (a:=z) (b:=y)];by_cases e:z=y
        ·subst e;simp[r]
        ·simp[e]
      ·rw[if_neg v];have j:qu x y=0:=by have:=yd.rng x y;omega
       have e:=qaX x y j;subst e;obtain⟨l,i⟩:=p a b (by omega) o m;refine⟨l,λ z=>?_⟩;rw[i,wx,wx];by_cases e:z=x
       ·subst e;have:z ∉ a := λ h=>yA (g z h);have:z ∉ b := λ h=>yA (f z h);simp[*]
       ·simp[e]
theorem qyD{a b:List T}(d:Asc a)(c:Asc b):Asc (zl a b):=(qvu _ a b (wb _) d c).1
theorem qIL{a b:List T}(d:Asc a)(c:Asc b)(x:T):x∈zl a b↔¬(x∈a↔x∈b):=(qvu _ a b (wb _) d c).2 x
theorem qh8:∀(b:List (List T)) (a:List T),Asc a->(∀ l∈b,Asc l)->Asc (b.foldl zl a)
 | [],_,h,_=>h
 | l::b,a,h,k=>qh8 b _ (qyD h (k l (wh ..))) λ m c=>k m (wg _ c)
theorem qmN(t:T):Asc (Qc t):=by
 refine T.ind (P := λ t=>Asc (Qc t)) ?_ t;intro t a;rw[qlJ];split
 ·exact List.Pairwise.nil
 ·split
  ·exact qh8 _ _ List.Pairwise.nil λ l b=>by
    obtain⟨k,c,rfl⟩:=wy.1 b;exact a k c
  ·exact vu _ _
def JN(t:T)(s:List T × Bool)(x:T):List T × Bool :=
 if s.2=false/\qu t x<=0 then(s.1++(if qu t x<0 then[t]else[])++[x],true)else(s.1++[x],s.2)
def qx6(l:List T)(t:T):List T:=if(l.foldl (JN t) ([],false)).2 then(l.foldl (JN t) ([],false)).1 else(l.foldl (JN t) ([],false)).1++[t]
def qiY(l:List T)(t:T):List T:=if l.any (λ x=>jk x t)then l.filter (λ x => !jk x t)else qx6 l t
def qkX(a b:List T):List T:=b.foldl qiY a
theorem qy0(t:T):∀(l a:List T),l.foldl (JN t) (a,true)=(a++l,true)
 | [],a=>by simp
 | x::l,a=>by
   have e:JN t (a,true) x=(a++[x],true):=by simp[JN]
   rw[kg,e,qy0 t l];simp
def Jl:List T->T->List T
 | [],t=>[t]
 | x::l,t=>if qu t x<0 then t::x::l else if qu t x=0 then x::l else x::Jl l t
theorem qwF(t:T):∀(l a:List T),(if(l.foldl (JN t) (a,false)).2 then(l.foldl (JN t) (a,false)).1 else(l.foldl (JN t) (a,false)).1++[t])=a++Jl l t
 | [],a=>by simp[Jl]
 | x::l,a=>by
   rw[kg];by_cases h:qu t x<=0
   ·have e:JN t (a,false) x=(a++(if qu t x<0 then[t]else[])++[x],true):=by simp[JN,h]
    rw[e,qy0,Jl];by_cases b:qu t x<0
    ·simp[b]
    ·have:qu t x=0:=by omega
     simp[this]
   ·have e:JN t (a,false) x=(a++[x],false):=by simp[JN,h]
    rw[e,qwF t l,Jl,if_neg (by omega),if_neg (by omega)];simp
theorem qtX(l:List T)(t:T):qx6 l t=Jl l t:=by
 have:=qwF t l [];simpa[qx6]using this
theorem qtz(t:T):∀(l:List T) (x:T),x∈Jl l t↔x∈l\/x=t
 | [],x=>by simp[Jl]
 | y::l,x=>by
   rw[Jl];split
   ·simp only[wx];constructor
    ·rintro(h | h | h)<;>simp[h]
    ·rintro((h | h) | h)<;>simp[h]
   ·split
    ·rename_i h;have:=qaX t y h;subst this;simp only[wx];constructor
     ·rintro(h | h)<;>simp[h]
     ·rintro((h | h) | h)<;>simp[h]
    ·rw[wx,qtz t l x,wx];constructor
     ·rintro(h | h | h)<;>simp[h]
     ·rintro((h | h) | h)<;>simp[h]
theorem qDf(t:T):∀(l:List T),Asc l->Asc (Jl l t)
 | [],_=>vu _ _
 | y::l,h=>by
   obtain⟨c,d⟩:=qa2.1 h;rw[Jl];have f:=yd.rng t y;split
   ·have b:qu t y=-1:=by omega
    refine qa2.2 ⟨λ z a=>?_,h⟩;rcases wx.1 a with e | a
    ·rw[e];exact b
    ·exact qfw b (c z a)
   ·split
    ·exact h
    ·refine qa2.2 ⟨λ z a=>?_,qDf t l d⟩;rcases(qtz t l z).1 a with a | e
     ·exact c z a
     ·rw[e];exact qw8.1 (by omega)
theorem qb1{a b:T}:jk a b=true↔a=b:=by unfold jk;exact decide_eq_true_iff
theorem qI9{l:List T}(h:Asc l)(t:T):Asc (qiY l t)/\∀ x,x∈qiY l t↔¬(x∈l↔x=t):=by
 unfold qiY;by_cases a:t∈l
 ·have f:(l.any λ x=>jk x t)=true:=wag.2 ⟨t,a,qb1.2 rfl⟩;rw[if_pos f];refine⟨List.Pairwise.filter _ h,λ x=>?_⟩;rw[kJ];by_cases e:x=t
  ·subst e;simp[a,qb1.2 rfl]
  ·have:jk x t=false:=by
     cases b:jk x t
     ·rfl
     ·exact absurd (qb1.1 b) e
   simp[e,this]
 ·rw[if_neg (λ b=>by
    obtain⟨x,c,d⟩:=wag.1 b;exact a (by rw[<- qb1.1 d];exact c)),qtX]
  refine⟨qDf t l h,λ x=>?_⟩;rw[qtz];by_cases e:x=t
  ·subst e;simp[a]
  ·simp[e]
theorem qo8:∀(b a:List T),Asc a->Asc b->Asc (qkX a b)/\∀ x,x∈qkX a b↔¬(x∈a↔x∈b)
 | [],a,g,_=>⟨g,λ x=>by simp[qkX]⟩
 | y::b,a,g,n=>by
   obtain⟨f,d⟩:=qa2.1 n;obtain⟨l,k⟩:=qI9 g y;obtain⟨j,i⟩:=qo8 b (qiY a y) l d;refine⟨j,λ x=>?_⟩;rw[show qkX a (y::b)=qkX (qiY a y) b from rfl,i,k,wx];by_cases e:x=y
   ·subst e;have:x ∉ b := λ h=>yA (f x h);by_cases c:x∈a<;>simp[this,c]
   ·by_cases c:x∈a<;>by_cases m:x∈b<;>simp[e,c,m]
theorem qCF{a b:List T}(d:Asc a)(c:Asc b):qkX a b=zl a b :=
 qEC _ _ (qo8 b a d c).1 (qyD d c) λ x=>by rw[(qo8 b a d c).2,qIL d c]
end Go.GxZ
namespace Go.AmZ
open Go Go.GxZ Go.Lib
def szL(l:List T):Nat:=(l.map size).sum
theorem qQ(x:T)(l:List T):szL (x::l)=size x+szL l:=by simp[szL]
theorem qiz(a b:List T):szL (a++b)=szL a+szL b:=by simp[szL]
theorem jR:∀ l:List T,l.length<=szL l
 | []=>we _
 | x::l=>by
   have:=jR l;have:=size_pos x;rw[qQ,wu];omega
theorem qcT{l:List T}{x:T}(h:x∈l):size x<=szL l:=qkD l x h
theorem qp0:∀(n:Nat) (a b:List T),a.length+b.length<=n->szL (zl a b)<=szL a+szL b
 | _,[],b,_=>by rw[zl];omega
 | _,x::a,[],_=>by rw[zl];omega
 | 0,x::a,y::b,h=>by simp at h
 | n+1,x::a,y::b,h=>by
   simp only[wu]at h;rw[zl];split
   ·have:=qp0 n a (y::b) (by simp;omega);rw[qQ,qQ];omega
   ·split
    ·have:=qp0 n (x::a) b (by simp;omega);rw[qQ y,qQ y];omega
    ·have:=qp0 n a b (by omega);rw[qQ,qQ];omega
theorem qtn:∀(b:List (List T)) (a:List T),szL (b.foldl zl a)<=szL a+(b.map szL).sum
 | [],_=>by simp
 | l::b,a=>by
   have d:=qtn b (zl a l);have c:=qp0 _ a l (wb _);simp only[kg,wo,kD];omega
theorem qwo(f g:T->Nat):∀ l:List T,(∀ k∈l,f k<=g k)->(l.map f).sum<=(l.map g).sum
 | [],_=>wb _
 | x::l,h=>by
   have c:=h x (wh ..);have b:=qwo f g l λ k a=>h k (wg _ a);simp only[wo,kD];omega
theorem qCe(l:List T)(h:∀ k∈l,szL (Qc k)<=size k):szL ((l.map Qc).foldl zl [])<=szL l:=by
 refine wD (qtn _ _) ?_;rw[xh];have:=qwo (szL ∘ Qc) size l h;show 0+_<=(l.map size).sum;omega
theorem qls(t:T):szL (Qc t)<=size t:=by
 refine T.ind (P := λ t=>szL (Qc t)<=size t) ?_ t;intro t a;rw[qlJ];split
 ·exact we _
 ·split
  ·have:=qCe t.kids a;have:=qL t;unfold szL at *;omega
  ·show szL [t]<=_;rw[qQ];exact wb _
theorem qe3(l:List T):szL (zX l)<=szL l:=qCe l λ k _=>qls k
theorem qpE(x:T)(l:List T):QK (x::l) 1 (((x::l).length:Nat):Int)=l:=by
 unfold QK;rw[wF,wC];rfl
theorem qdI(n:Nat):inb (n:Int) n=true:=by unfold inb;rw[decide_eq_true_iff];omega
theorem qsO(x:T)(l:List T):inb 1 (Int.toNat (((x::l).length:Nat):Int))=true:=by
 unfold inb;rw[decide_eq_true_iff,wF,wu];omega
theorem qBZ(x:T)(l:List T):ilt 0 (((x::l).length:Nat):Int)=true:=by rw[qr,wu];omega
theorem qG9:∀(n:Nat) (a b c:List T),a.length+b.length<=n->szL c+szL a+szL b<=1000000000->Ev (λ m k=>qdg m k a b c) (c++zl a b):=by
 intro n
 induction n with
 | zero =>
   intro a b c i g;have:a=[]:=wk (by omega);subst this;have:b=[]:=wk (by omega);subst this;refine waA ?_;simp only[qtq,qjk];have:=jR c;exact waw rfl (wau (qD (by simp only[ke];omega) (by omega)) (wau (qD (by simp only[ke,wB];omega) (by omega)) (way (by rw[zl];simp))))
 | succ n f =>
   intro a b c i g;refine waA ?_;simp only[qtq,qjk,ql];have o:=jR c;have l:=jR a;have j:=jR b;cases a with
   | nil =>
     refine waw rfl (wau (qD (by simp only[ke];omega) (by omega)) (wau (qD (by simp only[wB];omega) (by omega)) (way (by rw[zl];simp))))
   | cons x a =>
     refine wau (qBZ x a) ?_;cases b with
     | nil =>
       refine waw rfl (wau (qD (by omega) (by omega)) (wau (qD (by rw[wc];simp only[ke];omega) (by omega)) (way (by rw[zl];simp))))
     | cons y b =>
       rw[qQ,qQ]at g;refine wau (qBZ y b) (wav (qah _) (wav (qah _) (war (qd0 x (by omega) y (by omega)) ?_)));rw[zl];simp only[wu]at i l j;rw[qQ]at l j;refine wax (λ e=>?_) λ e=>?_
       ·rw[qr]at e;have e:qu x y=-1:=by rcases yd.rng x y with h | h | h<;>omega
        rw[if_pos e];refine wav (qah _) (wau (qD (by omega) (by omega)) (wau (qdI _) (wau (qsO x a) ?_)));rw[qpE];refine(f a (y::b) (c++[x]) (by simp only[wu];omega) (by rw[qiz,qQ,qQ];show szL c+(size x+0)+_+_<=_;omega)).res (by simp)
       ·rw[qn]at e;rw[if_neg (by omega)];refine wax (λ d=>?_) λ d=>?_
        ·rw[qr]at d;have d:qu x y=1:=by rcases yd.rng x y with h | h | h<;>omega
         rw[if_pos d];refine wav (qah _) (wau (qD (by omega) (by omega)) (wau (qdI _) (wau (qsO y b) ?_)));rw[qpE];refine(f (x::a) b (c++[y]) (by simp only[wu];omega) (by rw[qiz,qQ,qQ];show szL c+(size y+0)+_+_<=_;omega)).res (by simp)
        ·rw[qn]at d;rw[if_neg (by omega)];refine wau (qdI _) (wau (qsO x a) (wau (qdI _) (wau (qsO y b) ?_)));rw[qpE,qpE];exact f a b c (by omega) (by omega)
theorem qCr(a b:List T)(c:szL a+szL b<=1000000000):Ev (λ m _=>qlS m a b) (zl a b):=by
 refine waz ?_;simp only[qGS,qi7];refine waB (L := λ m k=>qdg m k a b []) ?_;exact qG9 _ a b [] (wb _) (by show 0+_+_<=_;omega)
theorem qDV(l:List T)(i:Nat):szL (l.take i)<=szL l:=by
 have:=congrArg szL (kz i l);rw[qiz]at this;omega
theorem Qx{l:List T}{i:Nat}{x:T}(h:l[i]?=some x):szL (l.take i)+size x<=szL l:=by
 have b:l.take (i+1)=l.take i++[x]:=by rw[kw,h];rfl
 have a:=qDV l (i+1);rw[b,qiz,qQ]at a;have:szL ([]:List T)=0:=rfl;omega
theorem qkx{l:List T}{i:Nat}{x:T}(h:l[i]?=some x):((l.take (i+1)).map Qc).foldl zl []=zl (((l.take i).map Qc).foldl zl []) (Qc x):=by
 rw[kw,h,wS,xm];rfl
theorem qLq(t:T):size t<=1000000000->Ev (λ m _=>yE m t) (Qc t):=by
 induction t using T.ind with
 | h t s =>
   intro B;have C:=yz t;have A:=qL t;refine waz ?_;simp only[qwY,qem,ql]
   have o:=qs (P := λ i=>Ev (λ m k=>QQ m (yE m) k (((t.kids.take i).map Qc).foldl zl []) t.kids t.kids.length i) ((t.kids.map Qc).foldl zl [])) t.kids (by omega)
    (λ q=>by
     refine waA ?_;simp only[qmK,qes];refine waw q ?_;rw[wC];exact wat _)
    (λ i x c D q w u y=>by
     refine waA ?_;simp only[qmK,qes,ql];have r:=wa c;have F:=jH t x r;have z:=qe3 (t.kids.take i);have g:=Qx c;have E:=qls x;refine wau q (wav w (war (s x r (by omega)) (war (qCr _ _ ?_) ?_)))
     ·unfold zX at z;unfold szL at *;omega
     ·rw[u];refine y.congr λ m k=>?_;rw[qkx c])
   have j:Ev (λ m _=>QQ m (yE m) m [] t.kids t.kids.length 0) ((t.kids.map Qc).foldl zl []) :=
    waB (L := λ m k=>QQ m (yE m) k [] t.kids t.kids.length 0) (o 0 (we _))
   rw[qlJ];by_cases g:t.kind=3
   ·have f:ieq t.kind 3=true:=qk.2 g;refine wau f ?_;refine wax (λ e=>?_) λ e=>?_
    ·rw[yQ]at e;have a:isN t qcH=true:=yO.2 ⟨g,e⟩
     have d:isN t qc5=false:=by
      rw[<- kP,yO];rintro⟨_,h⟩;rw[e]at h;exact absurd h (by decide)
     refine wax (λ b=>?_) λ b=>?_
     ·rw[qk]at b;have b:t.kids=[]:=wk (by omega);rw[a,b];exact wat _
     ·rw[qh]at b
      have b:t.kids.isEmpty=false:=by
       cases v:t.kids with
       | nil=>rw[v]at b;exact absurd rfl b
       | cons _ _=>rfl
      rw[a,b,d];exact wau f (waw (by rw[e];rfl) (wat _))
    ·have p:=jQ.1 e
     have a:isN t qcH=false:=by
      rw[<- kP,yO];rintro⟨_,h⟩;exact p h
     rw[a];refine wau f (wax (λ c=>?_) λ c=>?_)
     ·rw[show isN t qc5=true from yO.2 ⟨g,yQ.1 c⟩];exact j
     ·have d:isN t qc5=false:=by
        rw[<- kP,yO];rintro⟨_,h⟩;exact jQ.1 c h
      rw[d];exact wat _
   ·have f:ieq t.kind 3=false:=qh.2 g
    have l:∀ n,isN t n=false := λ n=>by
     rw[<- kP,yO];rintro⟨h,_⟩;exact g h
    rw[l,l];exact waw f (waw f (wat _))
end Go.AmZ
