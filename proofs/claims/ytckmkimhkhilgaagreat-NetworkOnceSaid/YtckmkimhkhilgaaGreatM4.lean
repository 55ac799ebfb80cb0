/- Part 4 of what the proofs stand on: plain functions of the program, and that they are its functions. -/
import Derived.Test.YtckmkimhkhilgaaGreatM3
import Derived.KernelRfl
import Derived.Test.YtckmkimhkhilgaaGreatProg
import Derived.Laws.OwnMore
import Derived.Deep.DeepAppendRoom
import Derived.ArgAppend
import Derived.Test.YtckmkimhkhilgaaGreatM2
import Derived.IntWalk
import Derived.Lib.Bytealg
set_option linter.unusedVariables false
set_option linter.unusedSimpArgs false
noncomputable section
namespace Go.AmZ
open Go Go.RowKit Go.GxZ Go.Sort Go.Proofs Go.Shelf
structure qKG (w0:World) (blk:Nat) (et:TypeId) (vs:Array Value) (W:World):Prop where
 hb:W.heap[blk]?=some (.cells vs et (0,0))
 os:W.os=w0.os
 tape:W.tape=w0.tape
 output:W.output=w0.output
 size:w0.heap.size<=W.heap.size
 other:∀ b,b<w0.heap.size->b≠blk->W.heap[b]?=w0.heap[b]?
 drawn:w0.drawn<=W.drawn
theorem qKG.refl{w:World}{a:Nat}{b:TypeId}{vs:Array Value}(h:w.heap[a]?=some (.cells vs b (0,0))):qKG w a b vs w:=⟨h,rfl,rfl,rfl,wb _,λ _ _ _=>rfl,wb _⟩
theorem sort_blks{w:World}{blk:Nat}{et:TypeId}{vs:Array Value}(hb:w.heap[blk]?=some (.cells vs et (0,0))){α : Type}[Inhabited α](enc : α -> List Value)(k m:Nat)(dk:Array α)(os:Array Obj) :
  qKG w blk et (putCells id 0 (flatK enc k dk) vs) (sortWorldK enc k w blk 0 m dk os):=by
 have hlt:blk<w.heap.size:=(Array.getElem?_eq_some_iff.1 hb).1;have hh:(sortWorldK enc k w blk 0 m dk os).heap=w.heap.modify blk (onCells (putCells id 0 (flatK enc k dk)))++os:=rfl;refine⟨?_,rfl,rfl,rfl,?_,λ b hb' hn=>?_,kF _ _⟩
 ·rw[hh,Array.getElem?_append_left (by simpa using hlt),Array.getElem?_modify,if_pos rfl,hb];rfl
 ·rw[hh,xC,Array.size_modify];exact kF _ _
 ·rw[hh,Array.getElem?_append_left (by simpa using hb'),Array.getElem?_modify,if_neg (xK hn)]
theorem qJ2.grow{W w':World}(h:qJ2 W w'):∃ q a,w'=Sort.grow (W.drewN q) a:=by
 refine⟨w'.drawn-W.drawn,w'.heap.extract W.heap.size w'.heap.size,?_⟩
 have c:w'.heap=W.heap++w'.heap.extract W.heap.size w'.heap.size:=by
  apply Array.ext_getElem?;intro i;by_cases b:i<W.heap.size
  ·rw[Array.getElem?_append_left b];exact h.block i b
  ·rw[Array.getElem?_append_right (by omega),Array.getElem?_extract];split
   ·congr 1;omega
   ·rw[Array.getElem?_eq_none (by omega)]
 have d:W.drawn+(w'.drawn-W.drawn)=w'.drawn:=Nat.add_sub_cancel' h.drawn;obtain⟨g,f,e,_,_,_⟩:=h;cases w';cases W;simp only[Sort.grow,World.drewN]at *;rw[<- c,d,g,f,e]
def qct(vs:Array Value)(k p:Nat):List Value:=(vs.toList.drop (p*k)).take k
theorem qp8{vs:Array Value}{k p j:Nat}(a:j<k):(qct vs k p)[j]?=vs[p*k+j]?:=by
 unfold qct;rw[List.getElem?_take,if_pos a,List.getElem?_drop,Array.getElem?_toList]
theorem qtA{vs:Array Value}{k p n:Nat}(a:p<n)(b:n*k<=vs.size):(qct vs k p).length=k:=by
 unfold qct;have:(p+1)*k<=n*k:=wn _ a;rw[kU]at this;rw[wm,wQ,wM];omega
theorem qAY{Γ : Gh}{τ : Ty}{c:List (List AV)}{l:List (Val τ)}{vs:Array Value}{n:Nat}(v:c.length=n)(B:∀ e∈c,e.length = τ.size)(w:zg (yh τ) c=some l)(C:yN Γ τ.size c (vs.toList.take (n * τ.size)))(A:n * τ.size<=vs.size)
  {p:Nat} {x:Val τ} (t:l[p]?=some x):RepL Γ (qi τ x) (qct vs τ.size p)/\∀ u∈qct vs τ.size p,u.oneCell'=true:=by
 have o:l.length=n:=(qY w).symm.trans v;have h:p<n:=by rw[<- o];exact getElem?_lt t
 have b:p<c.length:=by rw[v];exact h
 obtain⟨x',g,r⟩:=J8 w (List.getElem?_eq_getElem b);rw[t]at g;cases g;have f:=B _ (wW b);have a:=qtA (k := τ.size) h A
 have get:∀ j,j < τ.size->∃ u,(qct vs τ.size p)[j]?=some u/\Rep Γ (c[p][j]?.getD .dead) u/\u.oneCell'=true:=by
  intro j d;have i:j<c[p].length:=by rw[f];exact d
  obtain⟨u,u1,u2,u3⟩:=C p c[p] j _ (List.getElem?_eq_getElem b) (List.getElem?_eq_getElem i);refine⟨u,?_,?_,u3⟩
  ·rw[qp8 d,<- Array.getElem?_toList];rw[List.getElem?_take]at u1;split at u1
   ·exact u1
   ·cases u1
  ·rw[List.getElem?_eq_getElem i];exact u2
 constructor
 ·refine(qoL r).rep ⟨by rw[a,f],λ j y u s m=>?_⟩;have d:j < τ.size:=by rw[<- f];exact getElem?_lt s
  obtain⟨z,u1,u2,_⟩:=get j d;rw[m]at u1;cases u1;rw[s]at u2;exact u2
 ·intro u m;obtain⟨j,d⟩:=List.getElem?_of_mem m;have q:j < τ.size:=by rw[<- a];exact getElem?_lt d
  obtain⟨z,u1,_,u3⟩:=get j q;rw[d]at u1;cases u1;exact u3
theorem qpR(j k n:Nat)(h:j<n*k):j / k<n/\j / k*k+j % k=j/\j % k<k:=by
 have b:0<k:=by
  rcases vp k with a | a
  ·rw[a,Nat.mul_zero]at h;exact absurd h (wL _)
  ·exact a
 refine⟨(xW b).2 h,?_,xS _ b⟩;rw[xF];exact vn j k
set_option maxHeartbeats 1000000 in
theorem qIU {P:Program} {ρ : Ren} (L:SlLaysF0.n6 P ρ) {τ : Ty} {g:FuncId} (hag:∀ v,yL τ v = .agg (qi τ v)) (aE:∀ w,(isAgg (ρ.t 24)).run P w = .ok true w) (zE:∀ w,(Go.sizeOf (ρ.t 24)).run P w = .ok τ.size w)
  {F:Val τ -> Val τ -> Option Int} (hF:Fn2 P g τ (λ c:Int => .int .i64 c) F) (hf:qgJ P (ρ.f 6)) {fn:List (Val τ)->Option (List (Val τ))} (hfn:∀ l r,fn l=some r->qsJ F l=some r) (hk1' : τ.size≠1:=by first | assumption | decide) :
  qZ P (ρ.f 6) (mgP ⟨τ,[.clo g 0],λ x=>fn x.1⟩):=by
 refine ⟨hf,λ Γ σ w args vals r hi hr hp=>?_⟩;unfold mgP at hp;split at hp
 case h_2=>cases hp
 rename_i x hx;split at hp
 case h_2=>cases hp
 rename_i v hv;split at hp
 case h_2=>cases hp
 rename_i hlen;obtain ⟨l,_⟩:=x;have hv:=hfn _ _ hv;have hlen:v.length=l.length:=wj hlen;obtain ⟨y0,ys0,nr,rfl,hy0,hx1⟩:=qvO hx;obtain ⟨ys1,rfl,hx2⟩:=qFF (g:=g) (r:=[]) hx1;obtain ⟨rfl,hbx,hrw⟩:=qma hx2;clear hx hx1 hx2;obtain ⟨u0,r0,rfl,hu0,hr⟩:=hr.uncons;obtain ⟨u1,r1,rfl,hu1,hr⟩:=hr.uncons;have:=hr.nil_inv;subst this
 have hu1:u1 = .func (.func g) #[] #[]:=by
  cases hu1 with
  | fn _ _ us hn _=>obtain rfl:=wk hn;rfl
 subst hu1;have hb0 : σ.bx=[]:=wk hbx.symm;have none0:∀ (p:Option Addr) (cap:Nat),Calls P (ρ.f 6) #[.slice p 0 cap,.func (.func g) #[] #[]] w λ e w'=>e = .returned (.tuple #[])/\w'=w := λ p cap=>AnyF.slices_SortFunc_none L p cap _ w;have tup:∀ Γ,Rep Γ (.tup []) (.tuple #[]) := λ Γ => .tup [] [] rfl (λ i x u h=>by cases h);rcases qhd hy0 with ⟨hnr,R,rfl,hR,hRk,hRf,hRd⟩ | ⟨hnr,hl0,hy⟩
 ·have hrw1 : σ.rw=[R]:=by
    rw [hnr] at hrw
    match hq : σ.rw,hrw with
    | [Q],_=>rw [hq] at hR;cases hR;rfl
  rw [hb0,hrw1] at hp;cases hp;have H:=hi.row 0 R hR;have hcl:R.c.length=l.length:=qY hRd;have hlk:∀ e∈R.c,e.length = τ.size := λ e he=>(H.len e he).trans hRk
  have qpy:qX { σ with wr:=[],wrr:=[] } ⟨[],[⟨R.k,v.map (qi τ),R.ver,R.fz,R.off⟩],[],[0]⟩ :=
   ⟨by show σ.bx.length<=0;rw [hb0];exact wb _,by show σ.rw.length<=1;rw [hrw1];exact wb _,λ i hi _=>(by have hi:i < σ.bx.length:=hi;rw [hb0] at hi;exact absurd hi (wL _)),λ i hi hn=>(by
    have hi:i < σ.rw.length:=hi;rw [hrw1] at hi;have hi:i<1:=hi;obtain rfl:i=0:=by omega
    exact absurd (wH.2 rfl) hn),λ i h=>(by cases h),λ i h=>(by cases h)⟩
  obtain ⟨p,cap,rfl,hcap,hrm⟩:=qxJ hi hR hRk hRf hu0;by_cases hl0:l=[]
  ·subst hl0;have hc0:R.c=[]:=wk hcl;have hv0:v=[]:=wk hlen;subst hv0;rw [hcl];refine (none0 p cap).mono ?_;rintro e w' ⟨rfl,rfl⟩;refine ⟨_,Γ,rfl,.refl _ _,?_,tup _,qpy⟩
   have:(⟨[],[⟨R.k,([]:List (Val τ)).map (qi τ),R.ver,R.fz,R.off⟩],[],[0]⟩:St)=⟨[],[R],[],[0]⟩:=by
    show (⟨[],[⟨R.k,[],R.ver,R.fz,R.off⟩],[],[0]⟩:St)=_;rw [<- hc0]
   show Inv Γ ⟨[],[⟨R.k,([]:List (Val τ)).map (qi τ),R.ver,R.fz,R.off⟩],[],[0]⟩ w';rw [this];exact hi.wr hb0.symm hrw1.symm
  ·have hlpos:0<l.length:=xg.2 hl0;rcases hrm with h0 | ⟨rfl,hz,vs,et,hvs,hvsz,hfit,hca,hxl,h1⟩
   ·omega
   obtain ⟨n,hn⟩:∃ n,n=l.length:=⟨_,rfl⟩
   have hnc:R.c.length=n:=hcl.trans hn.symm;rw [hnc] at hca hxl h1 hcap |-
   have hns:n * τ.size<=vs.size:=wD (wn _ hcap) hfit;have hsz0:0 < τ.size:=waD τ
   have hv':Nat.ble l.length 100000=true/\qc9 F l=true/\qtx l.length (ltOf (JB F l))=true/\v=pick l (qbe F l):=by
    cases l with
    | nil=>exact absurd rfl hl0
    | cons y l =>
      have hv:cond _ _ _=some v:=hv;cases hb:(Nat.ble (y::l).length 100000&&(qc9 F (y::l)&&qtx (y::l).length (ltOf (JB F (y::l))))) with
      | false=>unfold qsJ at hv;rw [hb] at hv;cases hv
      | true =>
        have hb':=hb;simp only [wd] at hb';unfold qsJ at hv;rw [hb] at hv;cases hv;exact ⟨hb'.1,hb'.2.1,hb'.2.2,rfl⟩
   obtain ⟨v1,v2,v3,v4⟩:=hv';have v1:l.length<=100000:=kO v1;have hO:SWO (ltOf (JB F l)):=qOO hlpos (λ i j=>by unfold ltOf;rw [qLW]) v3;obtain ⟨hperm,_⟩:=qtm F l hO;have hixlt:∀ i∈qbe F l,i<l.length := λ i hi=>kS.1 (hperm.mem_iff.1 hi);have hixlen:(qbe F l).length=l.length:=by rw [hperm.length_eq,xm]
   have hER:∀ {q:Nat} {y:Val τ},l[q]? = some y->RepL Γ (qi τ y) (qct vs τ.size q)/\∀ u∈qct vs τ.size q,u.oneCell'=true := λ hq=>qAY hnc hlk hRd hca hns hq;have hlast:∀ i,i % n<n := λ i=>xS _ (by omega);obtain ⟨enc,henc⟩:∃ enc:Nat->List Value,enc = λ i=>qct vs τ.size (i % n):=⟨_,rfl⟩
   have hek:∀ i,(enc i).length = τ.size := λ i=>by rw [henc];exact qtA (hlast i) hns
   have hlget:∀ i,∃ y,l[i % n]? = some y := λ i=>⟨_,List.getElem?_eq_getElem (by rw [<- hn];exact hlast i)⟩
   have he1:∀ i,∀ u∈enc i,u.oneCell'=true := λ i u hu=>by
    rw [henc] at hu;obtain ⟨y,hy⟩:=hlget i;exact (hER hy).2 u hu
   have hrange:(Array.range n).size=n:=vB;have hvsb:w.heap[Γ.cur 0]? = some (.cells vs et (0,0)):=hvs;have hblk : Γ.cur 0<w.heap.size:=(Array.getElem?_eq_some_iff.1 hvsb).1;have hmem0:∀ off,Γ.mem (Γ.cur 0) off=none := λ off=>H.un hz off (by rw [hRf.1,kQ,H.off hRf.2];exact we _)
   have hH:HoldsK enc τ.size w (Γ.cur 0) 0 (Array.range n):=by
    intro j hj;rw [size_flatK,hrange] at hj;obtain ⟨q1,q2,q3⟩:=qpR j τ.size n hj;have hjs:j<vs.size:=wE hj hns;constructor
    ·rw [get_flatK _ _ _ _ (by rw [hrange];exact hj)];have e1:(Array.range n)[j / τ.size]! = j / τ.size:=by rw [getElem!_pos _ _ (by rw [hrange];exact q1)];simp
     rw [e1,henc];show _=some ((qct vs τ.size (j / τ.size % n))[j % τ.size]!);rw [xr q1];have e2:(qct vs τ.size (j / τ.size))[j % τ.size]? = some vs[j]:=by rw [qp8 q3,q2];exact Array.getElem?_eq_getElem hjs
     rw [wG,Blk.cell hvs,List.getElem!_eq_getElem?_getD,e2,Array.getElem?_eq_getElem hjs];rfl
    ·exact Blk.free hvs _
   have hcmp:CmpLays P g #[] enc τ.size (JB F l) (Γ.cur 0) 0 (Array.range n).size w:=by
    intro m os dk hdk x y;have B:=sort_blks hvsb enc τ.size m dk os;obtain ⟨W,hW⟩:∃ W,W=sortWorldK enc τ.size w (Γ.cur 0) 0 m dk os:=⟨_,rfl⟩
    rw [<- hW] at B |-
    have hiW:Inv (bare Γ) emp W:=hi.bare λ b o u e=>by
     have hne:b ≠ Γ.cur 0 := λ hb=>by rw [hb,hmem0] at e;cases e
     have hc:=(hi.mem b o u e).1;have hblt:=hi.mem_lt e;rw [show W.cell? _=w.cell? _ from World.cell?_of_block (B.other b hblt hne)];exact hc
    have rep:∀ (i:Nat) (y:Val τ),l[i % n]? = some y->Rep (bare Γ) (yL τ y) (.agg (enc i).toArray) := λ i y hy=>by
     obtain ⟨q1,q2⟩:=hER hy;rw [hag];have:enc i=qct vs τ.size (i % n):=by rw [henc]
     rw [this];refine .agg _ _ q1.len q2 λ j z u a b=>(q1.rep j z u a b).bare (zt τ y z (wa a))
    obtain ⟨lx,hx⟩:=hlget x;obtain ⟨ly,hy⟩:=hlget y;have hsome:=wv.1 (wv.1 v2 lx (wa hx)) ly (wa hy);obtain ⟨c,hc⟩:=waf.1 hsome
    have hcf:JB F l x y=c:=by
     unfold JB;rw [<- hn,hx,hy];simp only;rw [hc];rfl
    rw [hcf];have hcall:=hF.2 hiW (rep x lx hx) (rep y ly hy) hc;refine Calls.mono (by simpa using hcall) ?_;rintro e w' ⟨rfl,hid⟩;exact ⟨rfl,hid.grow⟩
   have hcall:=AnyQ.slices_SortFunc_eq L τ.size aE zE enc hek he1 (JB F l) hO g #[] (Γ.cur 0) 0 cap (Array.range n) w (λ args w=>qiP hF.1 args w) hcmp hH hblk (by rw [hrange];omega);rw [hrange] at hcall;refine Calls.mono hcall ?_;rintro e w' ⟨rfl,m,os,hw'⟩;have B:=sort_blks hvsb enc τ.size m (pdq (ltOf (JB F l)) (Array.range n) 0 n (Lib.bitLen n) true true) os;rw [<- hw'] at B;have hix:qbe F l=(pdq (ltOf (JB F l)) (Array.range n) 0 n (Lib.bitLen n) true true).toList:=by unfold qbe;rw [hn]
   obtain ⟨dk,hdk⟩:∃ dk,dk=pdq (ltOf (JB F l)) (Array.range n) 0 n (Lib.bitLen n) true true:=⟨_,rfl⟩
   rw [<- hdk] at B hix;have hdks:dk.size=n:=by rw [<- wM,<- hix,hixlen,hn]
   have hvlen:(v.map (qi τ)).length=n:=by rw [wA,hlen,hn]
   have hflat:(flatK enc τ.size dk).size=n * τ.size:=by rw [size_flatK,hdks]
   have hpsz:(putCells id 0 (flatK enc τ.size dk) vs).size=vs.size:=by unfold putCells;rw [vX]
   obtain ⟨Γ',x1,x2,_⟩:=qtW hi hR (H.off hRf.2) (R':=⟨R.k,v.map (qi τ),R.ver,R.fz,R.off⟩) (by rw [hRf.1];exact we _) rfl (g := Γ.cur 0) (vs:=putCells id 0 (flatK enc τ.size dk) vs) (e:=et) (.inr ⟨rfl,rfl,hpsz.trans hvsz⟩)
    (λ e he=>by obtain ⟨y,_,rfl⟩:=wy.1 he;rw [jA,hRk]) (λ e he=>by obtain ⟨y,_,rfl⟩:=wy.1 he;exact zt τ y) (by show R.fz<=_;rw [hRf.1];exact we _) (qAP _) (λ _=>rfl) B.hb
    (by show (v.map (qi τ)).length*R.k<=_;rw [hvlen,hRk,hpsz];exact hns)
    (λ off _=>hmem0 off)
    (λ i e j x he hx=>by
     have he:(v.map (qi τ))[i]? = some e:=he;have hin:i<n:=by rw [<- hvlen];exact getElem?_lt he
     rw [List.getElem?_map,v4,qtJ hixlt] at he;have hixi:(qbe F l)[i]? = some dk[i]:=by rw [hix,Array.getElem?_toList];exact Array.getElem?_eq_getElem (by omega)
     rw [hixi] at he
     obtain ⟨y,hy,rfl⟩:∃ y,l[dk[i]]? = some y/\qi τ y=e:=by
      cases hq:l[dk[i]]? with
      | none=>simp [hq] at he
      | some y=>simp [hq] at he;exact ⟨y,rfl,he⟩
     have hdl:dk[i]<n:=wE (getElem?_lt hy) (vK hn.symm);obtain ⟨q1,q2⟩:=hER hy;have hj:j < τ.size:=by rw [<- jA τ y];exact getElem?_lt hx
     obtain ⟨u,hu,hrep⟩:=q1.get hx;refine ⟨u,?_,hrep,q2 u (wa hu)⟩;rw [hRk]
     have hlt:i * τ.size+j<n * τ.size:=by
      have:(i+1) * τ.size<=n * τ.size:=wn _ hin;rw [kU] at this;omega
     unfold putCells;rw [Array.getElem?_mapIdx,Array.getElem?_eq_getElem (wE hlt hns),kN,if_pos ⟨we _,by rw [hflat,wG];exact hlt⟩,Nat.sub_zero,id,get_flatK _ _ _ _ (by rw [hdks];exact hlt)];have e1:(i * τ.size+j) / τ.size=i:=by rw [xF,Nat.mul_add_div hsz0,Nat.div_eq_of_lt hj,wP]
     have e2:(i * τ.size+j) % τ.size=j:=by rw [xF,Nat.mul_add_mod,xr hj]
     rw [e1,e2,getElem!_pos dk i (by omega),henc];show some ((qct vs τ.size (dk[i] % n))[j]!)=_;rw [xr hdl,List.getElem!_eq_getElem?_getD,hu];rfl)
    (λ b o u hm=>by
     have hne:b ≠ Γ.cur 0 := λ hb=>by rw [hb,hmem0] at hm;cases hm
     rw [show w'.cell? _=w.cell? _ from World.cell?_of_block (B.other b (hi.mem_lt hm) hne)];exact (hi.mem b o u hm).1)
    (λ b hb hor=>B.other b hb (hor.elim id λ h0=>absurd h0 hz)) (.inl ⟨rfl,hz⟩) B.os B.tape B.output B.size B.drawn [0]
   refine ⟨_,Γ',rfl,x1,?_,tup _,qpy⟩;refine x2.wr ?_ ?_
   ·exact hb0.symm
   ·show [(⟨R.k,v.map (qi τ),R.ver,R.fz,R.off⟩:Row)] = σ.rw.set 0 _;rw [hrw1];rfl
 ·have hrw0 : σ.rw=[]:=by rw [hnr] at hrw;exact wk hrw.symm
  rw [hb0,hrw0] at hp;cases hp
  have hfin:∀ (p:Option Addr) (cap:Nat),Js P Γ σ w (ρ.f 6) [.slice p 0 cap,.func (.func g) #[] #[]] (.tup [],none) := λ p cap=>by
   refine (none0 p cap).mono ?_;rintro e w' ⟨rfl,rfl⟩;exact ⟨_,Γ,rfl,.refl _ _,hi,tup _,.refl _⟩
  rcases hy with rfl | ⟨f,rfl,hf2⟩
  ·have hu0:=zo hu0;subst hu0;exact hfin none 0
  ·cases hu0 with
   | sl _ _ _ a n cap b o us hn _ _ _ _ _ _ _ _ =>
     have hn:n=0:=hn;subst hn;exact hfin a cap
end Go.AmZ
namespace Go.Proofs.YtckmkimhkhilgaaGreat
open Go Go.RowKit Go.GxZ Go.Sort Go.Proofs Go.Shelf Go.Lib
def zH(a:Nat->Nat->Bool)(n:Nat):List Nat:=(List.range n).filter λ i=>decide (i=0) || !a i (i-1)
theorem qDQ{a:Nat->Nat->Bool}{n:Nat}(h:a n (n-1)=false):zH a (n+1)=zH a n++[n]:=by
 unfold zH;rw[waj,xT];simp[h]
theorem qtq{a:Nat->Nat->Bool}{n:Nat}(b:0<n)(h:a n (n-1)=true):zH a (n+1)=zH a n:=by
 unfold zH;rw[waj,xT];have:¬ n=0:=by omega
 simp[h,this]
theorem qwz{b:Nat->Nat->Bool}{n:Nat}(h:∀ i,1<=i->i<n->b i (i-1)=false):zH b n=List.range n:=by
 unfold zH;rw[List.filter_eq_self];intro i a;have a:=kS.1 a;by_cases c:i=0
 ·simp[c]
 ·rw[h i (by omega) a];simp
theorem qD0{α : Type}[Inhabited α](enc : α -> List Value)(k:Nat)(g:∀ x,(enc x).length=k)(d:Array α)(i:Nat)(x : α)(h:i<d.size):setMany (flatK enc k d) (i*k) (enc x)=flatK enc k (d.setIfInBounds i x):=by
 refine ext_get! (by simp) λ t a=>?_;rw[size_setMany,size_flatK]at a;rw[get_setMany _ _ _ _ (by rw[size_flatK];exact a),g,get_flatK _ _ _ _ a,get_flatK _ _ _ _ (by simpa using a)]
 have b:0<k:=by
  rcases vp k with f | f
  ·rw[f,Nat.mul_zero]at a;exact absurd a (wL _)
  ·exact f
 by_cases c:i*k<=t/\t<i*k+k
 ·rw[if_pos c];have e:=(blk_iff k i t b).1 c;rw[e,getElem!_set_same d i x h];congr 1;have:=vn t k;rw[e]at this;have l:k*i=i*k:=xF _ _;omega
 ·rw[if_neg c,getElem!_set_other d i _ x λ j=>c ((blk_iff k i t b).2 j)]
theorem qJx{α : Type}[Inhabited α]{w:World}{enc : α -> List Value}{k blk:Nat}(hk:∀ x,(enc x).length=k)(m:Nat)(dk:Array α)(os:Array Obj)(hblk:blk<w.heap.size)(i:Nat)(x : α)(hi:i<dk.size) :
  (sortWorldK enc k w blk 0 m dk os).setCells blk (i*k) (enc x)=sortWorldK enc k w blk 0 m (dk.setIfInBounds i x) os:=by
 have hb:i*k+(enc x).length<=(flatK enc k dk).size:=by
  rw[hk,size_flatK];have:=wn k (show i+1<=dk.size from hi)
  rwa [kU]at this
 unfold sortWorldK;rw[setCells_grow os blk _ _ _ (by rw[size_putRowK];exact hblk)];congr 1;unfold putRowK;have:=setCells_putRow (Sort.ahead w m) blk 0 (enc x) (i*k) (flatK enc k dk) hb;rw[wG]at this;rw[this,qD0 enc k hk dk i x hi]
variable {P:Program}
set_option maxHeartbeats 4000000 in
set_option maxRecDepth 1000000 in
theorem qH3(i:P.funcs[108]?=some Tryz.f108)(a:P.follows .mixedOrders=true)
  (t0:P.underlying 0=some (TypeDesc.tuple #[])) (y:∀ w,(isAgg 0).run P w = .ok false w) (o:∀ w,(Go.sizeOf 0).run P w = .ok 1 w) (s:∀ w,(zeroValue 0).run P w = .ok (Value.tuple #[]) w)
  (u:P.underlying 3=some (TypeDesc.int IntKind.i64)) (x:∀ w,(isAgg 3).run P w = .ok false w) (n:∀ w,(Go.sizeOf 3).run P w = .ok 1 w) (r:∀ w,(zeroValue 3).run P w = .ok (Value.int IntKind.i64 0) w)
  (t:P.underlying 4=some (TypeDesc.bool)) (v:∀ w,(isAgg 4).run P w = .ok false w) (m:∀ w,(Go.sizeOf 4).run P w = .ok 1 w) (q:∀ w,(zeroValue 4).run P w = .ok (Value.bool false) w)
  (h:P.underlying 22=some (TypeDesc.slice 24)) (l:∀ w,(isAgg 22).run P w = .ok false w) (c:∀ w,(Go.sizeOf 22).run P w = .ok 1 w) (f:∀ w,(zeroValue 22).run P w = .ok (Value.slice none 0 0) w)
  (g:P.underlying 41=some (TypeDesc.func #[24,24] #[4] false)) (k:∀ w,(isAgg 41).run P w = .ok false w) (b:∀ w,(Go.sizeOf 41).run P w = .ok 1 w) (d:∀ w,(zeroValue 41).run P w = .ok (Value.nilFunc) w)
  (p:Option Addr) (cap:Nat) (j:Value) (w:World) :
  Calls P 108 #[.slice p 0 cap,j] w λ e w'=>e = .returned (.slice p 0 cap)/\w'=w:=by
 go_enter i,Tryz.ntmps108
 go_wp2
 go_ret
 exact⟨rfl,rfl⟩
set_option maxHeartbeats 4000000 in
set_option maxRecDepth 1000000 in
theorem qI0 (hF:P.funcs[108]? = some Tryz.f108) (mixed:P.follows .mixedOrders=true)
  (t0:P.underlying 0=some (TypeDesc.tuple #[])) (a0:∀ w,(isAgg 0).run P w = .ok false w) (z0:∀ w,(Go.sizeOf 0).run P w = .ok 1 w) (v0:∀ w,(zeroValue 0).run P w = .ok (Value.tuple #[]) w)
  (t3:P.underlying 3=some (TypeDesc.int IntKind.i64)) (a3:∀ w,(isAgg 3).run P w = .ok false w) (z3:∀ w,(Go.sizeOf 3).run P w = .ok 1 w) (v3:∀ w,(zeroValue 3).run P w = .ok (Value.int IntKind.i64 0) w)
  (t4:P.underlying 4=some (TypeDesc.bool)) (a4:∀ w,(isAgg 4).run P w = .ok false w) (z4:∀ w,(Go.sizeOf 4).run P w = .ok 1 w) (v4:∀ w,(zeroValue 4).run P w = .ok (Value.bool false) w)
  (t22:P.underlying 22=some (TypeDesc.slice 24)) (a22:∀ w,(isAgg 22).run P w = .ok false w) (z22:∀ w,(Go.sizeOf 22).run P w = .ok 1 w) (v22:∀ w,(zeroValue 22).run P w = .ok (Value.slice none 0 0) w)
  (t36:P.underlying 41=some (TypeDesc.func #[24,24] #[4] false)) (a36:∀ w,(isAgg 41).run P w = .ok false w) (z36:∀ w,(Go.sizeOf 41).run P w = .ok 1 w) (v36:∀ w,(zeroValue 41).run P w = .ok (Value.nilFunc) w)
  (k:Nat) (hk0:0<k) (aE:∀ w,(isAgg 24).run P w = .ok true w) (zE:∀ w,(Go.sizeOf 24).run P w = .ok k w) (zv:Value) (vE:∀ w,(zeroValue 24).run P w = .ok zv w) (hzk:zv.cells.size=k) (hz1:∀ n,∀ v∈(Builtin.zeroCells zv.cells n).toList,v.oneCell'=true)
  (w:World) (blk n cap:Nat) (et:TypeId) (vs:Array Value) (q:Nat) (hbk:w.heap[blk]? = some (.cells vs et (0,0))) (hcs:cap*k<=vs.size) (hnc:n<=cap) (hn:n<=100000) (h0n:0<n)
  (enc:Nat->List Value) (hk:∀ x,(enc x).length=k) (h1:∀ x,∀ v∈enc x,v.oneCell'=true) (hH:HoldsK enc k w blk 0 (Array.range n))
  (eg:∀ args w,(callFunc q args).run P w = .ok (.enter q args) w) (ef:Nat->Nat->Bool)
  (heq:∀ (m:Nat) (os:Array Obj) (dk:Array Nat),dk.size=n->∀ x y,Calls P q #[.agg (enc x).toArray,.agg (enc y).toArray] (sortWorldK enc k w blk 0 m dk os) λ e w'=>e = .returned (.bool (ef x y))/\∃ q' os',w'=grow ((sortWorldK enc k w blk 0 m dk os).drewN q') os') :
  Calls P 108 #[.slice (some ⟨blk,0,none⟩) n cap,.func (.func q) #[] #[]] w λ e w'=>e = .returned (.slice (some ⟨blk,0,none⟩) (zH ef n).length cap) /\
   ∃ (dk:Array Nat) (m:Nat) (os:Array Obj) (new:List Value),dk.size=n/\dk.toList.take (zH ef n).length=zH ef n/\(w'=sortWorldK enc k w blk 0 m dk os\/(new.take ((zH ef n).length*k)=(putCells id 0 (flatK enc k dk) vs).toList.take ((zH ef n).length*k)/\new.length=vs.size/\w'=(sortWorldK enc k w blk 0 m dk os).setRow blk new.toArray)):=by
 have u22:=run_underlying t22;have hblk:blk<w.heap.size:=(Array.getElem?_eq_some_iff.1 hbk).1;have hrs:(Array.range n).size=n:=vB;have HC:Aside _:=heq;have HST:Hid (w=sortWorldK enc k w blk 0 0 (Array.range n) #[]):=by show w=_;unfold sortWorldK;rw [grow_empty];exact (putRowK_self enc k w blk 0 _ hH).symm
 have HH:Hid (HoldsK enc k w blk 0 (Array.range n)):=hH;have HK:Hid (∀ x,(enc x).length=k):=hk;have H1:Hid (∀ x,∀ v∈enc x,v.oneCell'=true):=h1;have HBK:Hid (w.heap[blk]? = some (.cells vs et (0,0))):=hbk;have HVE:Aside _:=vE;have HZ1:Aside _:=hz1;have HZK:=Lib.hid hzk;have HCS:=Lib.hid hcs;clear heq hH hk h1 hbk vE hz1 hzk hcs;have hnz:(n:Int)<=100000:=by omega
 by_cases hn2:n<2
 ·have hn1:n=1:=by omega
  subst hn1;have hci:zH ef 1=[0]:=by unfold zH;simp
  have HCI:=Lib.hid hci;clear hci
  go_enter hF,Tryz.ntmps108
  go_wp2
  go_ret
  rw [HCI.out];exact ⟨rfl,Array.range 1,0,#[],[],hrs,by simp,.inl HST.out⟩
 ·have hn2z:¬ ((n:Int)<2):=by omega
  go_enter hF,Tryz.ntmps108
  go_wp2
  go_loopg [5] n (λ g1 vi wr=>∃ (i m:Nat) (os:Array Obj),vi = .int .i64 i/\1<=i/\i<=n/\n-i<=g1/\wr=sortWorldK enc k w blk 0 m (Array.range n) os/\Hid (∀ j,1<=j->j<i->ef j (j-1)=false))
  case atStart=>exact ⟨1,0,#[],rfl,wb _,by omega,by omega,HST.out,λ j h1 h2=>by omega⟩
  case round =>
   obtain ⟨i,m,os,rfl,hi1,hin,hg1,rfl,HE⟩:=hrel;by_cases hlt:i<n
   ·have hltz:(i:Int)<(n:Int):=by omega
    obtain ⟨ip,rfl⟩:∃ ip,i=ip+1:=⟨i-1,by omega⟩
    have hwp:IntKind.i64.wrap (ip:Int)=(ip:Int):=by rw [IntKind.wrap_i64];omega
    have jz1:(ip:Int)<(n:Int):=by omega
    have p0:(0:Int)<=(ip:Int)+1:=by omega
    have e0:((ip:Int)+1).toNat=ip+1:=by omega
    have r1:(Array.range n)[ip+1]! = ip+1:=by rw [getElem!_pos _ _ (by rw [hrs];exact hlt)];simp
    have r0:(Array.range n)[ip]! = ip:=by rw [getElem!_pos _ _ (by rw [hrs];omega)];simp
    have hcls:∀ n' os',grow ((sortWorldK enc k w blk 0 m (Array.range n) os).drewN n') os'=sortWorldK enc k w blk 0 (m+n') (Array.range n) (os++os') := λ n' os'=>sortWorldK_grown_c enc k w blk 0 m n' _ os os';have hHc:∀ n' os',HoldsK enc k (grow ((sortWorldK enc k w blk 0 m (Array.range n) os).drewN n') os') blk 0 (Array.range n) := λ n' os'=>by rw [hcls];exact holdsK_sortWorldK_c enc k w blk 0 _ _ _ _ HH.out hblk rfl
    have lj:∀ n' os',Sem.run P (loadCellsFrom ⟨blk,(ip+1)*k,none⟩ 0 k #[]) (grow ((sortWorldK enc k w blk 0 m (Array.range n) os).drewN n') os') = .ok (enc (ip+1)).toArray (grow ((sortWorldK enc k w blk 0 m (Array.range n) os).drewN n') os') := λ n' os'=>by
     have:=HoldsK.cells (hHc n' os') HK.out (i:=ip+1) (by rw [hrs];exact hlt);rw [r1,wG] at this;exact run_loadCellsFrom_list P _ _ _ k (HK.out _) this
    have lp:∀ n' os',Sem.run P (loadCellsFrom ⟨blk,ip*k,none⟩ 0 k #[]) (grow ((sortWorldK enc k w blk 0 m (Array.range n) os).drewN n') os') = .ok (enc ip).toArray (grow ((sortWorldK enc k w blk 0 m (Array.range n) os).drewN n') os') := λ n' os'=>by
     have:=HoldsK.cells (hHc n' os') HK.out (i:=ip) (by rw [hrs];omega);rw [r0,wG] at this;exact run_loadCellsFrom_list P _ _ _ k (HK.out _) this
    have hcg:∀ n' os',Calls P q #[.agg (enc (ip+1)).toArray,.agg (enc ip).toArray] (grow ((sortWorldK enc k w blk 0 m (Array.range n) os).drewN n') os') λ e w'=>e = .returned (.bool (ef (ip+1) ip))/\∃ q os'',w'=grow ((grow ((sortWorldK enc k w blk 0 m (Array.range n) os).drewN n') os').drewN q) os'' := λ n' os'=>by
     rw [hcls];exact HC.out _ _ _ hrs (ip+1) ip
    have CLS:Hid _:=hcls;clear hcls hHc r0 r1;generalize hwq:sortWorldK enc k w blk 0 m (Array.range n) os=wq at lj lp hcg CLS |-
    cases hev:ef (ip+1) ip with
    | false =>
      rw [hev] at hcg
      go_wp2_with fail
      go_quiet_grown (first | (go_at_fn q;refine Calls.grown_of (hcg _ _)))
      go_wp2
      go_roundg (n-(ip+2))
      case measure=>omega
      case rel =>
       refine ⟨ip+2,_,_,by go_num,by omega,by omega,by omega,CLS.out nq osq,(show Hid _ from λ j h1 h2=>?_)⟩;by_cases hj:j=ip+1
       ·rw [hj];exact hev
       ·exact HE.out j h1 (by omega)
    | true =>
      rw [hev] at hcg
      go_wp2_with fail
      go_quiet_grown (first | (go_at_fn q;refine Calls.grown_of (hcg _ _)))
      have hcap1:¬ (cap=ip+1):=by omega
      have hcap2:(ip:Int)+1<=(cap:Int):=by omega
      go_wp2
      go_loopg [5,7] n (λ g2 v5 v7 wr2=>∃ (b kk m2:Nat) (dk:Array Nat) (os2:Array Obj),v5 = .int .i64 kk/\v7 = .int .i64 b/\1<=b/\ip+1+b<=n/\n-b<=g2/\kk<=ip+b/\dk.size=n/\wr2=sortWorldK enc k w blk 0 m2 dk os2/\Hid (dk.toList.take kk=zH ef (ip+1+b))/\Hid (kk=(zH ef (ip+1+b)).length)/\Hid (∀ j,ip+b<=j->j<n->dk[j]! = j))
      case atStart =>
       have e1:zH ef (ip+1)=List.range (ip+1):=qwz λ j h1 h2=>HE.out j h1 h2;have e2:zH ef (ip+1+1)=List.range (ip+1):=by rw [qtq (by omega) (by simpa using hev),e1]
       refine ⟨1,ip+1,_,Array.range n,_,by go_num,rfl,wb _,by omega,by omega,by omega,hrs,CLS.out nq osq,?_,?_,?_⟩
       ·show _=_;rw [e2,Array.toList_range,List.take_range,kK (by omega)]
       ·show _=_;rw [e2,xm]
       ·intro j _ h2;rw [getElem!_pos _ _ (by rw [hrs];exact h2)];simp
      case round =>
       obtain ⟨b,kk,m2,dk,os2,rfl,rfl,hb1,hbn,hg2,hkk,hdk,rfl,HT,HL,HD⟩:=hrel;by_cases hlt2:ip+1+b<n
       ·obtain ⟨bp,rfl⟩:∃ bp,b=bp+1:=⟨b-1,by omega⟩
        have hltz2:(bp:Int)+1<((n-(ip+1):Nat):Int):=by omega
        have hltz3:(bp:Int)<((n-(ip+1):Nat):Int):=by omega
        have hwp2:IntKind.i64.wrap (bp:Int)=(bp:Int):=by rw [IntKind.wrap_i64];omega
        have p2:(0:Int)<=(bp:Int)+1:=by omega
        have e2:((bp:Int)+1).toNat=bp+1:=by omega
        have hkn:(kk:Int)<(n:Int):=by omega
        obtain ⟨ax,hax⟩:∃ ax,ax=ip+1+(bp+1):=⟨_,rfl⟩
        have hac:(ip+1)*k+(bp+1)*k=ax*k:=by rw [hax,wN (ip+1)]
        have hap:(ip+1)*k+bp*k=(ax-1)*k:=by rw [<- wN];congr 1;omega
        have r1:dk[ax]! = ax:=HD.out ax (by omega) (by omega);have r0:dk[ax-1]! = ax-1:=HD.out (ax-1) (by omega) (by omega);have hcls:∀ n' os',grow ((sortWorldK enc k w blk 0 m2 dk os2).drewN n') os'=sortWorldK enc k w blk 0 (m2+n') dk (os2++os') := λ n' os'=>sortWorldK_grown_c enc k w blk 0 m2 n' dk os2 os';have hHc:∀ n' os',HoldsK enc k (grow ((sortWorldK enc k w blk 0 m2 dk os2).drewN n') os') blk 0 dk := λ n' os'=>by rw [hcls];exact holdsK_sortWorldK_c enc k w blk 0 (Array.range n) dk _ _ HH.out hblk (by rw [hdk,hrs])
        have lj:∀ n' os',Sem.run P (loadCellsFrom ⟨blk,(ip+1)*k+(bp+1)*k,none⟩ 0 k #[]) (grow ((sortWorldK enc k w blk 0 m2 dk os2).drewN n') os') = .ok (enc ax).toArray (grow ((sortWorldK enc k w blk 0 m2 dk os2).drewN n') os') := λ n' os'=>by
         have:=HoldsK.cells (hHc n' os') HK.out (i:=ax) (by rw [hdk];omega);rw [r1,wG,<- hac] at this;exact run_loadCellsFrom_list P _ _ _ k (HK.out _) this
        have lp:∀ n' os',Sem.run P (loadCellsFrom ⟨blk,(ip+1)*k+bp*k,none⟩ 0 k #[]) (grow ((sortWorldK enc k w blk 0 m2 dk os2).drewN n') os') = .ok (enc (ax-1)).toArray (grow ((sortWorldK enc k w blk 0 m2 dk os2).drewN n') os') := λ n' os'=>by
         have:=HoldsK.cells (hHc n' os') HK.out (i:=ax-1) (by rw [hdk];omega);rw [r0,wG,<- hap] at this;exact run_loadCellsFrom_list P _ _ _ k (HK.out _) this
        have hcg:∀ n' os',Calls P q #[.agg (enc ax).toArray,.agg (enc (ax-1)).toArray] (grow ((sortWorldK enc k w blk 0 m2 dk os2).drewN n') os') λ e w'=>e = .returned (.bool (ef ax (ax-1)))/\∃ q os'',w'=grow ((grow ((sortWorldK enc k w blk 0 m2 dk os2).drewN n') os').drewN q) os'' := λ n' os'=>by
         rw [hcls];exact HC.out _ _ _ hdk ax (ax-1)
        have CLS2:Hid _:=hcls;have HHC:Hid _:=hHc;have HAC:=Lib.hid hac;clear hcls hHc hap hac;generalize hwq2:sortWorldK enc k w blk 0 m2 dk os2=wq2 at lj lp hcg CLS2 HHC |-
        have hlA:(enc ax).length=k:=HK.out _;have hA1:∀ v∈enc ax,v.oneCell'=true:=H1.out _;obtain ⟨cA,hcA⟩:∃ c,c=enc ax:=⟨_,rfl⟩
        obtain ⟨cP,hcP⟩:∃ c,c=enc (ax-1):=⟨_,rfl⟩
        rw [<- hcA] at lj hcg hlA hA1;rw [<- hcP] at lp hcg;have HCA:=Lib.hid hcA;clear hcA hcP;have hT:=HT.out;have hL:=HL.out;rw [show ip+1+(bp+1)=ax from hax.symm] at hT hL;have HAX:=Lib.hid hax;have hax1:0<ax:=by omega
        have hax3:ax<n:=by omega
        clear hax r0 r1;cases hev2:ef ax (ax-1) with
        | true =>
          have hcd:zH ef (ax+1)=zH ef ax:=qtq hax1 hev2;have HT2:Hid (dk.toList.take kk=zH ef (ax+1)):=by show _=_;rw [hcd];exact hT
          have HL2:Hid (kk=(zH ef (ax+1)).length):=by show _=_;rw [hcd];exact hL
          clear hT hL hcd;rw [hev2] at hcg
          go_wp2_with fail
          go_quiet_grown (first | (go_at_fn q;refine Calls.grown_of (hcg _ _)))
          go_wp2
          go_roundg (n-(bp+2))
          case measure=>omega
          case rel =>
           have hax2:ip+1+(bp+2)=ax+1:=by have:=HAX.out;omega
           refine ⟨bp+2,kk,_,dk,_,rfl,by go_num,by omega,by omega,by omega,by omega,hdk,CLS2.out nq osq,?_,?_,(show Hid _ from λ j h1 h2=>HD.out j (by omega) h2)⟩
           ·show _=_;rw [hax2];exact HT2.out
           ·show _=_;rw [hax2];exact HL2.out
        | false =>
          have hcd:zH ef (ax+1)=zH ef ax++[ax]:=qDQ hev2;have hdl:kk<dk.toList.length:=by rw [wM,hdk];omega
          have HT2:Hid ((dk.setIfInBounds kk ax).toList.take (kk+1)=zH ef (ax+1)):=by
           show _=_;rw [hcd,<- hT,xq,kw,vk (wb _),List.getElem?_set_self hdl];rfl
          have HL2:Hid (kk+1=(zH ef (ax+1)).length):=by show _=_;rw [hcd,wc,<- hL];rfl
          clear hT hL hcd;rw [hev2] at hcg
          go_wp2_with fail
          go_quiet_grown (first | (go_at_fn q;refine Calls.grown_of (hcg _ _)))
          have hw2:grow (wq2.drewN nq) osq=sortWorldK enc k w blk 0 (m2+nq) dk (os2++osq):=CLS2.out nq osq;have lj2:=lj nq osq;have hHd:=HHC.out nq osq;clear lj lp hcg;generalize grow (wq2.drewN nq) osq=wq3 at hw2 hHd lj2 |-
          have hbd:kk*k+cA.length<=(flatK enc k dk).size:=by
           rw [hlA,size_flatK];have:=wn k (show kk+1<=dk.size by omega)
           rwa [kU] at this
          have s1:Sem.run P (storeCells ⟨blk,kk*k,none⟩ cA 0) wq3 = .ok () (wq3.setCells blk (kk*k) cA):=by
           have:=stores_of_holds P hHd (kk*k) cA hbd hA1
           rwa [wG] at this
          have HW3:Hid (wq3.setCells blk (kk*k) cA=sortWorldK enc k w blk 0 (m2+nq) (dk.setIfInBounds kk ax) (os2++osq)):=by
           show _=_;rw [hw2,HCA.out];exact qJx HK.out (m2+nq) dk (os2++osq) hblk kk ax (by omega)
          clear hw2 hHd hbd
          go_wp2
          go_roundg (n-(bp+2))
          case measure=>omega
          case rel =>
           have hax2:ip+1+(bp+2)=ax+1:=by have:=HAX.out;omega
           refine ⟨bp+2,kk+1,_,dk.setIfInBounds kk ax,_,by go_num,by go_num,by omega,by omega,by omega,by omega,by simpa using hdk,HW3.out,?_,?_,(show Hid _ from λ j h1 h2=>?_)⟩
           ·show _=_;rw [hax2];exact HT2.out
           ·show _=_;rw [hax2];exact HL2.out
           ·rw [getElem!_set_other _ _ _ _ (by omega)];exact HD.out j (by omega) h2
       ·obtain rfl:n=ip+1+b:=by omega
        have hW:=(Go.AmZ.sort_blks HBK.out enc k m2 dk os2).hb;have hpsz:(putCells id 0 (flatK enc k dk) vs).size=vs.size:=by unfold putCells;rw [vX]
        have hzl:(Builtin.zeroCells zv.cells (ip+1+b-kk)).toList.length=(ip+1+b-kk)*k:=by rw [wM,size_zeroCells,HZK.out]
        have hsum:kk*k+(ip+1+b-kk)*k=(ip+1+b)*k:=by rw [<- wN];congr 1;omega
        have hle:(ip+1+b)*k<=vs.size:=wD (wn _ hnc) HCS.out;obtain ⟨new,hnew⟩:∃ new,new=(putCells id 0 (flatK enc k dk) vs).toList.take (kk*k)++(Builtin.zeroCells zv.cells (ip+1+b-kk)).toList++(putCells id 0 (flatK enc k dk) vs).toList.drop (kk*k+(Builtin.zeroCells zv.cells (ip+1+b-kk)).toList.length):=⟨_,rfl⟩
        have hcl:∀ ty,(Builtin.clear_ #[22] ty #[.slice (some ⟨blk,kk*k,none⟩) (ip+1+b-kk) (cap-kk)]).run P (sortWorldK enc k w blk 0 m2 dk os2) = .ok (.tuple #[]) ((sortWorldK enc k w blk 0 m2 dk os2).setRow blk new.toArray) := λ ty=>by
         rw [hnew];exact qwl _ 22 24 ty zv t22 HVE.out blk (kk*k) (ip+1+b-kk) (cap-kk) (by omega) _ et hW (by rw [hpsz,HZK.out];omega) (HZ1.out _)
        have HN1:Hid (new.take (kk*k)=(putCells id 0 (flatK enc k dk) vs).toList.take (kk*k)):=by
         show _=_;rw [hnew,wi,kG (by rw [wm,wM,hpsz];omega),xL,Nat.min_self]
        have HN2:Hid (new.length=vs.size):=by
         show _=_;rw [hnew];rw [wM] at hzl;simp only [wc,wm,wQ,wM,hpsz,hzl];omega
        have hkc:¬ (cap=kk):=by omega
        have hkc2:(kk:Int)<=(cap:Int):=by omega
        have hkn:(kk:Int)<=((ip+1+b:Nat):Int):=by omega
        clear hW hpsz hzl hsum hle hnew;have HW:Hid _:=(⟨dk,m2,os2,rfl⟩:∃ (d:Array Nat) (m:Nat) (os:Array Obj),sortWorldK enc k w blk 0 m2 dk os2=sortWorldK enc k w blk 0 m d os)
        generalize hwq2:sortWorldK enc k w blk 0 m2 dk os2=wq2 at hcl |-
        have HWQ:=Lib.hid hwq2;clear hwq2 HW;have HDK:=Lib.hid hdk
        go_wp2_with (simp only [hcl])
        go_ret
        have hL:=HL.out;rw [<- hL];exact ⟨rfl,dk,m2,os2,new,HDK.out,HT.out,.inr ⟨HN1.out,HN2.out,by rw [HWQ.out]⟩⟩
   ·obtain rfl:i=n:=by omega
    have hci:zH ef i=List.range i:=qwz λ j h1 h2=>HE.out j h1 h2;have HCI:=Lib.hid hci;clear hci
    go_wp2
    go_ret
    rw [HCI.out,xm];exact ⟨rfl,Array.range i,_,_,[],hrs,by simp,.inl rfl⟩
end Go.Proofs.YtckmkimhkhilgaaGreat
namespace Go.AmZ
open Go Go.RowKit Go.GxZ Go.Sort Go.Proofs Go.Shelf Go.Proofs.YtckmkimhkhilgaaGreat
def qlk{α : Type}(F : α -> α -> Option Bool)(l:List α)(i j:Nat):Bool:=match l[i % l.length]?,l[j % l.length]? with
 | some x,some y=>(F x y).getD false
 | _,_=>false
def qAH{α : Type}(F : α -> α -> Option Bool):List α -> Option (List α)
 | []=>some []
 | x::l=>cond (Nat.ble (x::l).length 100000&&qc9 F (x::l)) (some (pick (x::l) (zH (qlk F (x::l)) (x::l).length))) none
def qvJ{α : Type}(F : α -> α -> Option Bool)(l:List α):Option (Unit × List α × Unit):=match qAH F l with
 | some a=>some ((),a,())
 | none=>none
theorem qGz{α : Type}{F : α -> α -> Option Bool}{l:List α}{r:Unit × List α × Unit}(h:qvJ F l=some r):∃ a,qAH F l=some a/\r=((),a,()):=by
 unfold qvJ at h;split at h
 ·cases h;exact⟨_,‹_›,rfl⟩
 ·cases h
theorem qHS{P:Program}{f:FuncId}{g:qqR}(e:qgJ P f)(h:∀ a,g.fn a=none):qZ P f (mgP g):=by
 refine⟨e,λ Γ σ w d c r j i b=>?_⟩;unfold mgP at b;split at b
 ·rw[h]at b;cases b
 ·cases b
theorem qzy{b:Nat->Nat->Bool}{n:Nat}:∀ i∈zH b n,i<n := λ i a=>kS.1 (kJ.1 a).1
theorem qsb{enc:Nat->List Value}{k:Nat}(a:∀ x,(enc x).length=k):∀(l:List Nat) (i j:Nat),j<k->(l.flatMap enc)[i*k+j]?=(l[i]?).bind λ x=>(enc x)[j]?
 | [],i,j,_=>by simp
 | x::l,0,j,b=>by
   rw[xc,kQ,wG,List.getElem?_append_left (by rw[a];exact b)];rfl
 | x::l,i+1,j,b=>by
   rw[xc,List.getElem?_append_right (by rw[a,kU];omega),a];have:(i+1)*k+j-k=i*k+j:=by rw[kU];omega
   rw[this];exact qsb a l i j b
theorem qzg{enc:Nat->List Value}{k:Nat}(a:∀ x,(enc x).length=k):∀ l:List Nat,(l.flatMap enc).length=l.length*k
 | []=>by simp
 | x::l=>by rw[xc,wc,a,qzg a l,wu,kU,wab]
theorem qvX{b:Type}{f:List AV->Option b}{es:List (List AV)}{l:List b}(h:zg f es=some l):∀{a:List Nat},(∀ i∈a,i<l.length)->zg f (pick es a)=some (pick l a)
 | [],_=>rfl
 | i::a,d=>by
   have e:=d i (wh ..);have n:=qY h
   have e1:pick es (i::a)=es[i]'(by omega)::pick es a:=by
    unfold pick;rw[vl,List.getElem?_eq_getElem (by omega)]
   have m:pick l (i::a)=l[i]::pick l a:=by
    unfold pick;rw[vl,List.getElem?_eq_getElem e]
   obtain⟨v,c,k⟩:=J8 h (List.getElem?_eq_getElem (show i<es.length by omega));rw[List.getElem?_eq_getElem e]at c;cases c;rw[e1,m];exact yX.2 ⟨_,_,k,qvX h λ j g=>d j (wg _ g),rfl⟩
theorem qLF(n:Nat):∀ v∈(Builtin.zeroCells (Value.cells (.agg #[.int .i64 0,.string ⟨#[]⟩,.int .i64 0,.slice none 0 0])) n).toList,v.oneCell'=true:=by
 intro v a;unfold Builtin.zeroCells at a;rw[Array.mem_toList_iff]at a;obtain⟨i,_,rfl⟩:=Array.mem_map.1 a;have c:(Value.cells (.agg #[.int .i64 0,.string ⟨#[]⟩,.int .i64 0,.slice none 0 0])).size=4:=rfl;rw[c];have b:i % 4<4:=xS _ (by decide);generalize i % 4=r at b
 match r,b with
 | 0,_=>rfl
 | 1,_=>rfl
 | 2,_=>rfl
 | 3,_=>rfl
set_option maxHeartbeats 1000000 in
theorem qCp {g:FuncId} {F:T->T->Option Bool} (hF:Fn2 Go.Proofs.Tryz.prog g .term (λ b:Bool => .bool b) F) {fn:List T->Option (Unit × List T × Unit)} (hfn:∀ l r,fn l=some r->∃ l',qAH F l=some l'/\r=((),l',())) :
  qZ Go.Proofs.Tryz.prog 108 (sgP ⟨[.row .term,.clo g 0],[.one (.row .term)],λ x=>fn x.1⟩):=by
 have c0 := λ p cap fv w=>qH3 (P:=Go.Proofs.Tryz.prog) Go.Proofs.Tryz.func108 (by kernel_rfl) Go.Proofs.Tryz.underlying0 Go.Proofs.Tryz.isAgg0 Go.Proofs.Tryz.sizeOf0 Go.Proofs.Tryz.zeroValue0 Go.Proofs.Tryz.underlying3 Go.Proofs.Tryz.isAgg3 Go.Proofs.Tryz.sizeOf3 Go.Proofs.Tryz.zeroValue3 Go.Proofs.Tryz.underlying4 Go.Proofs.Tryz.isAgg4 Go.Proofs.Tryz.sizeOf4 Go.Proofs.Tryz.zeroValue4 Go.Proofs.Tryz.underlying22 Go.Proofs.Tryz.isAgg22 Go.Proofs.Tryz.sizeOf22 Go.Proofs.Tryz.zeroValue22 Go.Proofs.Tryz.underlying41 Go.Proofs.Tryz.isAgg41 Go.Proofs.Tryz.sizeOf41 Go.Proofs.Tryz.zeroValue41 p cap fv w
 have cP := λ w blk n cap et vs h1 h2 h3 h4 h5 enc h6 h7 h8 ef h9=>qI0 (P:=Go.Proofs.Tryz.prog) Go.Proofs.Tryz.func108 (by kernel_rfl) Go.Proofs.Tryz.underlying0 Go.Proofs.Tryz.isAgg0 Go.Proofs.Tryz.sizeOf0 Go.Proofs.Tryz.zeroValue0 Go.Proofs.Tryz.underlying3 Go.Proofs.Tryz.isAgg3 Go.Proofs.Tryz.sizeOf3 Go.Proofs.Tryz.zeroValue3 Go.Proofs.Tryz.underlying4 Go.Proofs.Tryz.isAgg4 Go.Proofs.Tryz.sizeOf4 Go.Proofs.Tryz.zeroValue4 Go.Proofs.Tryz.underlying22 Go.Proofs.Tryz.isAgg22 Go.Proofs.Tryz.sizeOf22 Go.Proofs.Tryz.zeroValue22 Go.Proofs.Tryz.underlying41 Go.Proofs.Tryz.isAgg41 Go.Proofs.Tryz.sizeOf41 Go.Proofs.Tryz.zeroValue41
  4 (by decide) Go.Proofs.Tryz.isAgg24 Go.Proofs.Tryz.sizeOf24 _ Go.Proofs.Tryz.zeroValue24 rfl qLF w blk n cap et vs g h1 h2 h3 h4 h5 enc h6 h7 h8 (λ args w=>qiP hF.1 args w) ef h9
 have hag:∀ v:T,yL .term v = .agg (qi .term v) := λ _=>rfl;refine ⟨qaq Go.Proofs.Tryz.func108 (by kernel_rfl),λ Γ σ w args vals r hi hr hp=>?_⟩;unfold sgP at hp;split at hp<;>try cases hp
 rename_i x hx;split at hp<;>cases hp;rename_i v0 hv0;obtain ⟨l,_⟩:=x;obtain ⟨l',hl',rfl⟩:=hfn _ _ hv0;obtain ⟨y0,ys0,nr,rfl,hy0,hx1⟩:=qvO hx;obtain ⟨ys1,rfl,hx2⟩:=qFF (g:=g) (r:=[]) hx1;obtain ⟨rfl,hbx,hrw⟩:=qma hx2;clear hx hx1 hx2 hv0 hfn;obtain ⟨u0,r0,rfl,hu0,hr⟩:=hr.uncons;obtain ⟨u1,r1,rfl,hu1,hr⟩:=hr.uncons;have:=hr.nil_inv;subst this
 have hu1:u1 = .func (.func g) #[] #[]:=by
  cases hu1 with
  | fn _ _ us hn _=>obtain rfl:=wk hn;rfl
 subst hu1;have hb0 : σ.bx=[]:=wk hbx.symm
 have nil0:∀ (p:Option Addr),l'=[]->Js Go.Proofs.Tryz.prog Γ σ w 108 [.slice p 0 0,.func (.func g) #[] #[]] (zZ (jK [.one (.row .term)] σ.rw.length (l',())),some ⟨[],σ.rw.map Q3++jY [.one (.row .term)] (l',()),List.range σ.bx.length,List.range σ.rw.length⟩) := λ p hl=>by
  subst hl;refine (c0 p 0 _ w).mono ?_;rintro e w' ⟨rfl,rfl⟩;obtain ⟨Γ2,z1,z2,z3,z4⟩:=qMA (a := .term) hi (.refl _ _) hi hb0 p;exact ⟨_,Γ2,rfl,z1,z2,z3,z4⟩
 rcases qhd hy0 with ⟨hnr,R,rfl,hR,hRk,hRf,hRd⟩ | ⟨hnr,hl0,hy⟩
 ·have H:=hi.row 0 R hR;have hcl:R.c.length=l.length:=qY hRd;have hlk:∀ e∈R.c,e.length=Ty.size .term := λ e he=>(H.len e he).trans hRk;obtain ⟨p,cap,rfl,hcap,hrm⟩:=qxJ hi hR hRk hRf hu0;rcases hrm with h0 | ⟨rfl,hz,vs,et,hvs,hvsz,hfit,hca,hxl,h1⟩
  ·have hl0:l=[]:=wk (by omega);have hl2:l'=[]:=by rw [hl0] at hl';cases hl';rfl
   have hrc:R.c.length=0:=by omega
   rw [hrc,h0];exact nil0 p hl2
  ·by_cases hl0:l=[]
   ·have hl2:l'=[]:=by rw [hl0] at hl';cases hl';rfl
    have hrc:R.c.length=0:=by rw [hcl,hl0];rfl
    rw [hrc];subst hl2;refine qkD (a := .term) hi hb0 hR hRk hRf.1 hRf.2 hz (l:=[]) (c:=[]) (xs:=[]) (n:=0) rfl rfl (by intro e he;cases he) (by intro e he;cases he) (λ i e j x h=>by cases h) ?_;refine (c0 _ cap _ w).mono ?_;rintro e w' ⟨rfl,rfl⟩;exact ⟨Γ.cur 0,cap,vs,et,rfl,hvs,we _,hfit,by rw [kQ];rfl,.inl ⟨rfl,hvsz⟩,rfl,rfl,rfl,wb _,wb _,λ _ _ _=>rfl⟩
   ·have hlpos:0<l.length:=xg.2 hl0;obtain ⟨n,hn⟩:∃ n,n=l.length:=⟨_,rfl⟩
    have hnc:R.c.length=n:=hcl.trans hn.symm;rw [hnc] at hca hxl h1 hcap |-
    have hns:n*Ty.size .term<=vs.size:=wD (wn _ hcap) hfit
    have hv':Nat.ble l.length 100000=true/\qc9 F l=true/\l'=pick l (zH (qlk F l) l.length):=by
     cases l with
     | nil=>exact absurd rfl hl0
     | cons y l =>
       replace hl':cond _ _ _=some l':=hl'
       cases hb:(Nat.ble (y::l).length 100000&&qc9 F (y::l)) with
       | false =>
         replace hl':cond (Nat.ble (y::l).length 100000&&qc9 F (y::l)) _ _=some l':=hl'
         rw [hb] at hl';cases hl'
       | true =>
         replace hl':cond (Nat.ble (y::l).length 100000&&qc9 F (y::l)) _ _=some l':=hl'
         have hb':=hb;rw [wd] at hb';rw [hb] at hl';cases hl';exact ⟨hb'.1,hb'.2,rfl⟩
    obtain ⟨v1,v2,v4⟩:=hv';have v1:l.length<=100000:=kO v1;have hER:∀ {q:Nat} {y:T},l[q]? = some y->RepL Γ (qi .term y) (qct vs (Ty.size .term) q)/\∀ u∈qct vs (Ty.size .term) q,u.oneCell'=true := λ hq=>qAY hnc hlk hRd hca hns hq;have hlast:∀ i,i % n<n := λ i=>xS _ (by omega);obtain ⟨enc,henc⟩:∃ enc:Nat->List Value,enc = λ i=>qct vs (Ty.size .term) (i % n):=⟨_,rfl⟩
    have hek:∀ i,(enc i).length=Ty.size .term := λ i=>by rw [henc];exact qtA (hlast i) hns
    have hlget:∀ i,∃ y,l[i % n]? = some y := λ i=>⟨_,List.getElem?_eq_getElem (by rw [<- hn];exact hlast i)⟩
    have he1:∀ i,∀ u∈enc i,u.oneCell'=true := λ i u hu=>by
     rw [henc] at hu;obtain ⟨y,hy⟩:=hlget i;exact (hER hy).2 u hu
    have hrange:(Array.range n).size=n:=vB;have hvsb:w.heap[Γ.cur 0]? = some (.cells vs et (0,0)):=hvs;have hmem0:∀ off,Γ.mem (Γ.cur 0) off=none := λ off=>H.un hz off (by rw [hRf.1,kQ,H.off hRf.2];exact we _)
    have hH:HoldsK enc (Ty.size .term) w (Γ.cur 0) 0 (Array.range n):=by
     intro j hj;rw [size_flatK,hrange] at hj;obtain ⟨q1,q2,q3⟩:=qpR j (Ty.size .term) n hj;have hjs:j<vs.size:=wE hj hns;constructor
     ·rw [get_flatK _ _ _ _ (by rw [hrange];exact hj)];have e1:(Array.range n)[j / (Ty.size .term)]! = j / (Ty.size .term):=by rw [getElem!_pos _ _ (by rw [hrange];exact q1)];simp
      rw [e1,henc];show _=some ((qct vs (Ty.size .term) (j / (Ty.size .term) % n))[j % (Ty.size .term)]!);rw [xr q1];have e2:(qct vs (Ty.size .term) (j / (Ty.size .term)))[j % (Ty.size .term)]? = some vs[j]:=by rw [qp8 q3,q2];exact Array.getElem?_eq_getElem hjs
      rw [wG,Blk.cell hvs,List.getElem!_eq_getElem?_getD,e2,Array.getElem?_eq_getElem hjs];rfl
     ·exact Blk.free hvs _
    have heq:∀ (m:Nat) (os:Array Obj) (dk:Array Nat),dk.size=n->∀ x y,Calls Go.Proofs.Tryz.prog g #[.agg (enc x).toArray,.agg (enc y).toArray] (sortWorldK enc (Ty.size .term) w (Γ.cur 0) 0 m dk os) λ e w'=>e = .returned (.bool (qlk F l x y))/\∃ q' os',w'=grow ((sortWorldK enc (Ty.size .term) w (Γ.cur 0) 0 m dk os).drewN q') os':=by
     intro m os dk hdk x y;have B:=sort_blks hvsb enc (Ty.size .term) m dk os;obtain ⟨W,hW⟩:∃ W,W=sortWorldK enc (Ty.size .term) w (Γ.cur 0) 0 m dk os:=⟨_,rfl⟩
     rw [<- hW] at B |-
     have hiW:Inv (bare Γ) emp W:=hi.bare λ b o u e=>by
      have hne:b ≠ Γ.cur 0 := λ hb=>by rw [hb,hmem0] at e;cases e
      have hc:=(hi.mem b o u e).1;have hblt:=hi.mem_lt e;rw [show W.cell? _=w.cell? _ from World.cell?_of_block (B.other b hblt hne)];exact hc
     have rep:∀ (i:Nat) (y:T),l[i % n]? = some y->Rep (bare Γ) (yL .term y) (.agg (enc i).toArray) := λ i y hy=>by
      obtain ⟨q1,q2⟩:=hER hy;rw [hag];have:enc i=qct vs (Ty.size .term) (i % n):=by rw [henc]
      rw [this];refine .agg _ _ q1.len q2 λ j z u a b=>(q1.rep j z u a b).bare (zt .term y z (wa a))
     obtain ⟨lx,hx⟩:=hlget x;obtain ⟨ly,hy⟩:=hlget y;have hsome:=wv.1 (wv.1 v2 lx (wa hx)) ly (wa hy);obtain ⟨c,hc⟩:=waf.1 hsome
     have hcf:qlk F l x y=c:=by
      unfold qlk;rw [<- hn,hx,hy];simp only;rw [hc];rfl
     rw [hcf];have hcall:=hF.2 hiW (rep x lx hx) (rep y ly hy) hc;refine Calls.mono hcall ?_;rintro e w' ⟨rfl,hid⟩;exact ⟨rfl,hid.grow⟩
    have hcall:=cP w (Γ.cur 0) n cap et vs hvsb hfit hcap (by omega) (by omega) enc hek he1 hH (qlk F l) heq;obtain ⟨ix,hix⟩:∃ ix,ix=zH (qlk F l) n:=⟨_,rfl⟩
    rw [<- hix] at hcall;have hixlt:∀ i∈ix,i<n := λ i hi=>by rw [hix] at hi;exact qzy i hi
    have hixl:∀ i∈ix,i<l.length := λ i hi=>by rw [<- hn];exact hixlt i hi
    have hixc:∀ i∈ix,i<R.c.length := λ i hi=>by rw [hnc];exact hixlt i hi
    have hl'e:l'=pick l ix:=by rw [v4,<- hn,hix]
    have hl'n:l'.length=ix.length:=by rw [hl'e,qpg hixl]
    have pm:∀ e∈pick R.c ix,e∈R.c := λ e he=>by
     unfold pick at he;obtain ⟨i,_,h⟩:=xa.1 he;exact wa h
    refine qkD (a := .term) hi hb0 hR hRk hRf.1 hRf.2 hz (l:=l') (c:=pick R.c ix) (xs:=ix.flatMap enc) (n:=ix.length) hl'n.symm (by rw [hl'e];exact qvX hRd hixl) (λ e he=>hlk e (pm e he)) (λ e he=>H.plain e (pm e he)) (λ i e j x h1 h2=>?_) ?_
    ·rw [qtJ hixc] at h1;cases hp:ix[i]? with
     | none=>rw [hp] at h1;cases h1
     | some p =>
       rw [hp] at h1;have h1:R.c[p]? = some e:=h1;have hj:j<Ty.size .term:=by have:=getElem?_lt h2;rwa [hlk e (wa h1)] at this
       obtain ⟨u,u1,u2⟩:=hca p e j x h1 h2;refine ⟨u,?_,u2⟩;have hpn:p<n:=hixlt p (wa hp);rw [qsb hek _ _ _ hj,hp];show (enc p)[j]? = some u;rw [henc];show (qct vs (Ty.size .term) (p % n))[j]? = some u;rw [xr hpn,qp8 hj,<- Array.getElem?_toList];rw [List.getElem?_take] at u1;split at u1
       ·exact u1
       ·cases u1
    ·refine Calls.mono hcall ?_;rintro e w' ⟨rfl,dk,m,os,new,hdk,htk,hw⟩;have B:=sort_blks hvsb enc (Ty.size .term) m dk os;have hpsz:(putCells id 0 (flatK enc (Ty.size .term) dk) vs).size=vs.size:=by unfold putCells;rw [vX]
     have hixn:ix.length<=n:=by
      have:=congrArg List.length htk;rw [wm] at this;have h2:dk.toList.length=n:=by rw [wM,hdk]
      omega
     have hlen:ix.length*Ty.size .term<=n*Ty.size .term:=wn _ hixn
     have hxs:(putCells id 0 (flatK enc (Ty.size .term) dk) vs).toList.take (ix.length*Ty.size .term)=ix.flatMap enc:=by
      apply xd;intro t;by_cases ht:t<ix.length*Ty.size .term
      ·obtain ⟨q1,q2,q3⟩:=qpR t (Ty.size .term) ix.length ht;rw [List.getElem?_take,if_pos ht,Array.getElem?_toList];unfold putCells;rw [Array.getElem?_mapIdx,Array.getElem?_eq_getElem (by omega),kN,if_pos ⟨we _,by rw [size_flatK,hdk];omega⟩,Nat.sub_zero,id,get_flatK _ _ _ _ (by rw [hdk];omega)]
       conv=>rhs;rw [<- q2]
       rw [qsb hek _ _ _ q3]
       have hd:dk[t / Ty.size .term]? = ix[t / Ty.size .term]? := by
        rw [<- htk,List.getElem?_take,if_pos q1,Array.getElem?_toList]
       have hdl:t / Ty.size .term<dk.size:=by rw [hdk];omega
       rw [<- hd,Array.getElem?_eq_getElem hdl,getElem!_pos dk _ hdl];show _=(enc dk[t / Ty.size .term])[t % Ty.size .term]?;rw [List.getElem!_eq_getElem?_getD,List.getElem?_eq_getElem (by rw [hek];exact q3)];rfl
      ·rw [List.getElem?_eq_none (by rw [wm];omega),List.getElem?_eq_none (by rw [qzg hek];omega)]
     rcases hw with rfl | ⟨n1,n2,rfl⟩
     ·exact ⟨Γ.cur 0,cap,_,et,rfl,B.hb,by omega,by rw [hpsz];exact hfit,hxs,.inl ⟨rfl,hpsz.trans hvsz⟩,B.os,B.tape,B.output,B.size,B.drawn,B.other⟩
     ·have hs:=setRow_heap _ (Γ.cur 0) _ new.toArray et (0,0) B.hb;refine ⟨Γ.cur 0,cap,new.toArray,et,rfl,hs,by omega,by rw [km,n2];exact hfit,?_,.inl ⟨rfl,by rw [km,n2];exact hvsz⟩,B.os,B.tape,B.output,?_,B.drawn,λ b hb hne=>(setRow_other _ (Γ.cur 0) b _ hne).trans (B.other b hb hne)⟩
      ·rw [<- hxs];exact n1
      ·show w.heap.size<=_;simp only [World.setRow,Array.size_modify];exact B.size
 ·have hl2:l'=[]:=by
    have hl0:l=[]:=hl0;rw [hl0] at hl';cases hl';rfl
  rcases hy with rfl | ⟨f,rfl,hf2⟩
  ·have hu0:=zo hu0;subst hu0;exact nil0 none hl2
  ·cases hu0 with
   | sl _ _ _ a n cap b o us hn _ hf _ _ _ _ _ _ =>
     have hn:n=0:=hn;have hcap:cap=n:=hf (by omega);rw [hcap,hn];exact nil0 a hl2
end Go.AmZ
namespace Go.AmZ
open Go Go.RowKit Go.GxZ
theorem qmn{P:Program}(w:World)(zu:Nat)(t ty e:TypeId)(i:TypeInfo)(z:Value)(size bytes:Nat)(F:P.underlying t=some (.slice e))(H:P.info? e=some i)(I:i.zero=some z)
  (d:i.size=size) (A:i.bytes=bytes) (s:z.cells.size=size) (x:0<size)
  (v:Value) (n:Nat) (xs:List Value) (b:w.ownsRow zu e size v n xs)
  (a:Addr) (m c:Nat) (qf:List Value) (G:qf.length=m*size) (f:∀ j u,qf[j]?=some u->w.cell? (a.add j)=some u) (J:∀ u∈qf,u.oneCell'=true)
  (B:n+m<=maxLen) (h:(n+m)*bytes<=140737488355328) (l:zu<=w.heap.size) :
  ∃ p w',(Builtin.append_ #[t,t] ty #[v,.slice (some a) m c]).run P w = .ok p w'/\w'.ownsRow zu e size p (n+m) (xs++qf)/\w.grownBy w' v.ownBlock /\
   (p.ownBlock=v.ownBlock\/∀ k,p.ownBlock=some k->w.heap.size<=k):=by
 rcases id b.2 with⟨rfl,rfl⟩ | ⟨g,cap,Q,rfl,O,R,K,N,M,E⟩
 ·have D:xs=[]:=kt.1 (by simpa using b.1);subst D;obtain⟨p,w',C,r,o,_⟩:=run_append_own (P:=P) w w.heap.size t ty e i z size bytes F H I d A s x (.slice none 0 0) 0 [] (World.ownsRow_nil w _ e size) a m c qf G f J B h (wb _);exact⟨p,w',C,r.mono l,o,.inr λ k y=>(r.lt k y).1⟩
 ·by_cases q:n+m<=cap
  ·obtain⟨w',C,r,o⟩:=run_append_own_spare (P:=P) w zu t ty e i size F H d g n cap xs b a m c qf G f J q;exact⟨_,w',C,r,o,.inl rfl⟩
  ·obtain⟨p,w',C,r,o⟩:=run_append_arg_grows (P:=P) w t ty e i z size bytes F H I d A s x ⟨g,0,none⟩ n cap xs b.1 (λ j u L=>b.cells rfl j u L) a m c qf G f (by omega) B h;exact⟨p,w',C,r.mono l,⟨o.os,o.tape,o.output,o.size,λ k y _=>o.block k y (by simp)⟩,.inr λ k y=>(r.lt k y).1⟩
structure qeD (Γ : Gh) (b:Nat):Prop where
 own:¬ QG Γ b
 mem:∀ o,Γ.mem b o=none
theorem qeD.ext{Γ Γ':Gh}{w w':World}{b:Nat}(h:qeD Γ b)(c:Ext Γ w Γ' w')(f:b<w.heap.size):qeD Γ' b/\w'.heap[b]?=w.heap[b]?:=by
 refine⟨⟨λ d=>(c.own b d).elim h.own λ h=>by omega,λ o=>?_⟩,c.block b f h.own⟩;cases e : Γ'.mem b o with
 | none=>rfl
 | some u =>
   rcases c.memg b o u e with a | a | a
   ·rw[h.mem]at a;cases a
   ·exact absurd a h.own
   ·omega
theorem qeD.new{Γ : Gh}{σ : St}{w:World}(a:Inv Γ σ w){b:Nat}(f:w.heap.size<=b):qeD Γ b:=by
 refine⟨λ h=>?_,λ o=>?_⟩
 ·rcases h with⟨i,c,rfl⟩ | ⟨r,c,e,rfl⟩
  ·have:=a.box_lt c;omega
  ·have:=a.cur_lt c e;omega
 ·cases d : Γ.mem b o with
  | none=>rfl
  | some u=>have:=a.mem_lt d;omega
theorem Inv.off{Γ : Gh}{σ : St}{w w':World}(h:Inv Γ σ w)(l:∀ k j,¬ qeD Γ k->w.heap[k]?=some j->w'.heap[k]?=some j):Inv Γ σ w' where
 nb:=h.nb
 nr:=h.nr
 mem := λ b o u e=>by
  obtain⟨m,q⟩:=h.mem b o u e;have c:=Array.getElem?_eq_getElem (qsT m);refine⟨?_,q⟩;rw[World.cell?_of_block (w:=w) (a:=⟨b,o,none⟩) ((l b _ (λ f=>by rw[f.mem]at e;cases e) c).trans c.symm)];exact m
 box := λ i cs e=>by
  have g:i < Γ.nb:=by rw[h.nb];exact getElem?_lt e
  exact(h.box i cs e).lift g (.refl _) λ o c=>l _ _ (λ f=>f.own (.inl ⟨i,g,rfl⟩)) c
 inj:=h.inj
 boxmem:=h.boxmem
 row := λ r R e=>by
  have d:r < Γ.nr:=by rw[h.nr];exact getElem?_lt e
  exact(h.row r R e).lift d (.refl _) rfl (λ n j c=>l _ _ (λ f=>f.own (.inr ⟨r,d,n,rfl⟩)) c) (λ _ _ p=>p) λ _ i t s=>by omega
 apart:=h.apart
theorem qJg{d Γ : Gh}{σ : St}{w0 w w':World}{e:Option Nat}(a:Ext d w0 Γ w)(m:Inv Γ σ w)(c:w.grownBy w' e)(f:∀ b,e=some b->qeD Γ b/\w0.heap.size<=b)(n:w.drawn<=w'.drawn):Ext d w0 Γ w'/\Inv Γ σ w':=by
 refine⟨⟨a.le,c.os.trans a.os,c.tape.trans a.tape,c.output.trans a.output,wD a.size c.size,λ b i l=>(c.block b (wE i a.size) λ h=>?_).trans (a.block b i l),a.own,a.memg,wD a.drawn n⟩,m.off λ k o j g=>?_⟩
 ·have:=(f b h.symm).2;omega
 ·rw[c.block k (Array.getElem?_eq_some_iff.1 g).1 λ h=>j (f k h.symm).1];exact g
theorem qeD.grown{Γ : Gh}{w w':World}{a:Option Nat}{b:Nat}(d:w.grownBy w' a)(e:b<w.heap.size)(c:some b≠a):w'.heap[b]?=w.heap[b]?:=d.block b e c
theorem qIO(w:World)(g k:Nat)(u:Value):w.grownBy (w.setCell ⟨g,k,none⟩ u) (some g) :=
 ⟨rfl,rfl,rfl,by simp,λ b _ a=>Below.heap_setCell _ _ _ _ λ h=>a (by rw[h])⟩
theorem ql5{w w':World}{B e s g n cap:Nat}{cs:List Value}(h:w.ownsRow B e s (.slice (some ⟨g,0,none⟩) n cap) n cs)(d:w'.heap[g]?=w.heap[g]?):w'.ownsRow B e s (.slice (some ⟨g,0,none⟩) n cap) n cs:=by
 rcases h.2 with⟨a,_⟩ | ⟨f,c,b,a,r⟩
 ·cases a
 ·cases a;exact⟨h.1,.inr ⟨g,cap,b,rfl,r.1,by rw[d];exact r.2.1,r.2.2⟩⟩
theorem qcO{w:World}{B e s g n cap:Nat}{cs:List Value}(h:w.ownsRow B e s (.slice (some ⟨g,0,none⟩) n cap) n cs):B<=g/\g<w.heap.size:=h.lt g rfl
theorem qve{w:World}{B e s g n p cap:Nat}{cs:List Value}(h:w.ownsRow B e s (.slice (some ⟨g,0,none⟩) n cap) n cs)(d:p<=n):w.ownsRow B e s (.slice (some ⟨g,0,none⟩) p cap) p (cs.take (p*s)):=by
 have a:p*s<=n*s:=wn _ d;rcases h.2 with⟨b,_⟩ | ⟨q,f,c,b,o,m,l,k,j,i⟩
 ·cases b
 ·cases b;refine⟨by rw[wm,h.1];omega,.inr ⟨g,cap,c,rfl,o,m,wD d l,k,j,?_⟩⟩;rw[<- i,xL,kK a]
theorem qMU{w:World}{B e s g n cap:Nat}{cs:List Value}(h:w.ownsRow B e s (.slice (some ⟨g,0,none⟩) n cap) n cs):n<=cap/\cap<=maxLen:=by
 rcases h.2 with⟨a,_⟩ | ⟨m,b,f,a,l,k,d,c,j,i⟩
 ·cases a
 ·cases a;exact⟨d,c⟩
abbrev RD:Ty := .pair .str (.pair (.int .i64) .bool)
def qi8(Γ : Gh)(σ : St)(cs:List Value)(i:Nat)(t:T)(n:Int)(r:Nat):Prop :=
 ∃ R a,σ.rw[r]?=some R/\R.k=4/\R.fz=0/\R.off=false/\R.c=t.kids.map (qi .term)/\Rep Γ (.rs r 0 t.kids.length R.ver false) a /\
  cs[i*5]?=some (.int .i64 t.kind)/\cs[i*5+1]?=some (.string ⟨t.name.toArray⟩)/\cs[i*5+2]?=some (.int .i64 t.sort)/\cs[i*5+3]?=some a/\cs[i*5+4]?=some (.int .i64 n)
structure Stk (B N:Nat) (Γ : Gh) (σ : St) (w:World) (st:List (T × Int)) (ids:List Nat) (g cap:Nat) (cs:List Value):Prop where
 len:ids.length=st.length
 nd:ids.Nodup
 priv:qeD Γ g
 own:w.ownsRow B N 5 (.slice (some ⟨g,0,none⟩) st.length cap) st.length cs
 node:∀ i t n r,st[i]?=some (t,n)->ids[i]?=some r->qi8 Γ σ cs i t n r
section
variable {B N:Nat} {Γ Γ':Gh} {σ σ':St} {w w':World} {st:List (T × Int)} {ids:List Nat} {g cap:Nat} {cs:List Value}
theorem qi8.later{i:Nat}{t:T}{n:Int}{r:Nat}(h:qi8 Γ σ cs i t n r)(c:Le Γ Γ')(b:∀ R,σ.rw[r]?=some R -> σ'.rw[r]?=some R):qi8 Γ' σ' cs i t n r:=by
 obtain⟨R,a,l,k,j,g,f,e,d⟩:=h;exact⟨R,a,b R l,k,j,g,f,e.mono c,d⟩
theorem qi8.cells{i:Nat}{t:T}{n:Int}{r:Nat}{cs':List Value}(h:qi8 Γ σ cs i t n r)(a:∀ j,j<5->cs'[i*5+j]?=cs[i*5+j]?):qi8 Γ σ cs' i t n r:=by
 obtain⟨R,b,k,g,f,e,d,c,q,p,o,m,l⟩:=h;exact⟨R,b,k,g,f,e,d,c,(a 0 (by decide)).trans q,(a 1 (by decide)).trans p,(a 2 (by decide)).trans o,(a 3 (by decide)).trans m,(a 4 (by decide)).trans l⟩
theorem Stk.later(h:Stk B N Γ σ w st ids g cap cs)(a:Ext Γ w Γ' w')(e:∀ r,r∈ids->∀ R,σ.rw[r]?=some R -> σ'.rw[r]?=some R):Stk B N Γ' σ' w' st ids g cap cs:=by
 obtain⟨d,c⟩:=h.priv.ext a (qcO h.own).2;exact⟨h.len,h.nd,d,ql5 h.own c,λ i t n r f b=>(h.node i t n r f b).later a.le (e r (wa b))⟩
theorem Stk.grown{a:Option Nat}(h:Stk B N Γ σ w st ids g cap cs)(c:w.grownBy w' a)(b:some g≠a):Stk B N Γ σ w' st ids g cap cs :=
 ⟨h.len,h.nd,h.priv,ql5 h.own (c.block g (qcO h.own).2 b),h.node⟩
theorem Stk.cell(h:Stk B N Γ σ w st ids g cap cs){k:Nat}{u:Value}(a:cs[k]?=some u):w.cell? ⟨g,k,none⟩=some u/\w.frozen? ⟨g,k,none⟩=false:=by
 refine⟨?_,h.own.frozenAt k⟩;rw[h.own.cellAt k (by rw[<- h.own.1];exact getElem?_lt a)];exact a
theorem Stk.at(h:Stk B N Γ σ w st ids g cap cs){i:Nat}{t:T}{n:Int}(b:st[i]?=some (t,n)):∃ r,ids[i]?=some r/\qi8 Γ σ cs i t n r:=by
 have a:i<ids.length:=by rw[h.len];exact getElem?_lt b
 exact⟨_,List.getElem?_eq_getElem a,h.node i t n _ b (List.getElem?_eq_getElem a)⟩
theorem Stk.left(h:Stk B N Γ σ w st ids g cap cs){i:Nat}{t:T}{n:Int}(l:st[i]?=some (t,n))(a:Int):Stk B N Γ σ (w.setCell ⟨g,i*5+4,none⟩ (.int .i64 a)) (st.set i (t,a)) ids g cap (cs.set (i*5+4) (.int .i64 a)):=by
 have s:=getElem?_lt l;have d:i*5+4<cs.length:=by rw[h.own.1];omega
 refine⟨by rw[wJ];exact h.len,h.nd,h.priv,by rw[wJ];exact(h.own.stored _ _).1,λ j o m r c f=>?_⟩;rw[List.getElem?_set]at c;split at c
 ·rename_i e;subst e;cases c;obtain⟨R,p,A,z,y,x,v,u,F,E,D,C,G⟩:=h.node i t n r l f;have b:∀ q,q≠i*5+4->(cs.set (i*5+4) (.int .i64 a))[q]?=cs[q]? := λ q k=>by rw[List.getElem?_set_ne (λ e=>k e.symm)]
  refine⟨R,p,A,z,y,x,v,u,(b _ (by omega)).trans F,(b _ (by omega)).trans E,(b _ (by omega)).trans D,(b _ (by omega)).trans C,?_⟩;rw[List.getElem?_set_self d]
 ·rename_i e;refine(h.node j o m r c f).cells λ q k=>?_;rw[List.getElem?_set_ne (by omega)]
theorem Stk.push(h:Stk B N Γ σ w st ids g cap cs){s:Value}{nk sk:Int}{nm:List UInt8}{lf:Int}{o:Value}{r:Nat}{R:Row}(F : σ.rw[r]?=some R)(K:R.k=4)(J:R.fz=0)(I:R.off=false)(H:R.c=[])(G:Rep Γ (.rs r 0 0 R.ver false) o)(A:r ∉ ids)
  (l:w'.ownsRow B N 5 s (st.length+1) (cs++[.int .i64 nk,.string ⟨nm.toArray⟩,.int .i64 sk,o,.int .i64 lf])) (z:s.ownBlock=some g\/∀ k,s.ownBlock=some k->qeD Γ k) :
  ∃ j d,s = .slice (some ⟨j,0,none⟩) ((st.length+1:Nat)) d/\Stk B N Γ σ w' (st++[(.mk nk nm sk [],lf)]) (ids++[r]) j d (cs++[.int .i64 nk,.string ⟨nm.toArray⟩,.int .i64 sk,o,.int .i64 lf]):=by
 have D:=h.own.1
 obtain⟨j,d,v⟩:∃ j d,s = .slice (some ⟨j,0,none⟩) ((st.length+1:Nat)) d:=by
  rcases l.2 with⟨_,O⟩ | ⟨j,d,L,e,_⟩
  ·omega
  ·exact⟨j,d,e⟩
 subst v;refine⟨j,d,rfl,⟨by simp[h.len],?_,?_,by simpa using l,λ i t n y p f=>?_⟩⟩
 ·rw[List.nodup_append];exact⟨h.nd,by simp,λ a E b x=>by simp at x;subst x;exact λ e=>A (e▸E)⟩
 ·rcases z with e | e
  ·cases e;exact h.priv
  ·exact e j rfl
 ·rw[List.getElem?_append]at p f;rw[h.len]at f;split at p
  ·rename_i m;rw[if_pos m]at f;refine(h.node i t n y p f).cells λ q M=>?_;rw[List.getElem?_append_left (by omega)]
  ·rename_i m;rw[if_neg m]at f
   have C:i=st.length:=by
    have:=getElem?_lt p;simp at this;omega
   subst C;simp at p f;obtain⟨rfl,rfl⟩:=p;subst f
   have u:∀ q,(cs++[.int .i64 nk,.string ⟨nm.toArray⟩,.int .i64 sk,o,.int .i64 lf])[st.length*5+q]?=([.int .i64 nk,.string ⟨nm.toArray⟩,.int .i64 sk,o,.int .i64 lf]:List Value)[q]? := λ q=>by
    rw[List.getElem?_append_right (by omega)];congr 1;omega
   exact⟨R,o,F,K,J,I,H,G,u 0,u 1,u 2,u 3,u 4⟩
theorem Stk.shrink(h:Stk B N Γ σ w st ids g cap cs){p:Nat}(e:p<=st.length):Stk B N Γ σ w (st.take p) (ids.take p) g cap (cs.take (p*5)):=by
 have a:(st.take p).length=p:=by rw[wm];omega
 refine⟨by rw[a,wm,h.len];omega,h.nd.sublist (List.take_sublist _ _),h.priv,by rw[a];exact qve h.own e,λ i t n r b c=>?_⟩;rw[List.getElem?_take]at b c;split at b<;>try cases b
 rename_i d;rw[if_pos d]at c;refine(h.node i t n r b c).cells λ j f=>?_;rw[List.getElem?_take,if_pos (by omega)]
theorem Stk.kid(h:Stk B N Γ σ w st ids g cap cs)(v:Ext Γ w Γ' w'){q:Nat}(Z:q<st.length){t:T}{n:Int}(J:st[q]?=some (t,n)){r:Nat}(y:ids[q]?=some r)(x:T)
  (m:∀ i s,i<q->ids[i]?=some s->∀ R,σ.rw[s]?=some R -> σ'.rw[s]?=some R) {R:Row} (M : σ'.rw[r]?=some R) (U:R.k=4) (S:R.fz=0) (Q:R.off=false) (P:R.c=(t.kids++[x]).map (qi .term)) {f:Value} (O:Rep Γ' (.rs r 0 (t.kids.length+1) R.ver false) f) :
  Stk B N Γ' σ' (w'.setCell ⟨g,q*5+3,none⟩ f) (st.take q++[(.mk t.kind t.name t.sort (t.kids++[x]),n)]) (ids.take (q+1)) g cap ((cs.set (q*5+3) f).take ((q+1)*5)):=by
 obtain⟨D,C⟩:=h.priv.ext v (qcO h.own).2
 have l:(st.take q++[(T.mk t.kind t.name t.sort (t.kids++[x]),n)]).length=q+1:=by
  rw[wc,wm];simp;omega
 have G:=qve ((ql5 h.own C).stored (q*5+3) f).1 (p:=q+1) (by omega);have L:=h.own.1;refine⟨by rw[l,wm,h.len];omega,h.nd.sublist (List.take_sublist _ _),D,by rw[l];exact G,λ i A E s b a=>?_⟩;rw[List.getElem?_take]at a;split at a<;>try cases a
 rename_i H
 have u:∀ j,j<5->((cs.set (q*5+3) f).take ((q+1)*5))[i*5+j]?=(cs.set (q*5+3) f)[i*5+j]? := λ j z=>by
  rw[List.getElem?_take,if_pos (by omega)]
 have d:∀ k,k≠q*5+3->(cs.set (q*5+3) f)[k]?=cs[k]? := λ k I=>by rw[List.getElem?_set_ne (λ e=>I e.symm)]
 rw[List.getElem?_append,wm,kK (by omega)]at b;split at b
 ·rename_i o;rw[List.getElem?_take,if_pos o]at b;exact((h.node i A E s b a).later v.le (m i s o a)).cells λ j z=>(u j z).trans (d _ (by omega))
 ·rename_i o;have K:i=q:=by omega
  subst K;simp at b;obtain⟨rfl,rfl⟩:=b;rw[y]at a;cases a;obtain⟨R0,F,b1,b2,b3,b4,b5,b6,Y,X,W,a3,V⟩:=h.node i t n r J y;refine⟨R,f,M,U,S,Q,P,(by show Rep Γ' (.rs r 0 (t.kids++[x]).length R.ver false) f;rw[wc];exact O),(u 0 (by decide)).trans ((d _ (by omega)).trans Y),(u 1 (by decide)).trans ((d _ (by omega)).trans X),(u 2 (by decide)).trans ((d _ (by omega)).trans W),(u 3 (by decide)).trans ?_,(u 4 (by decide)).trans ((d _ (by omega)).trans V)⟩;rw[List.getElem?_set_self (by omega)]
end
end Go.AmZ
namespace Go.AmZ
open Go Go.RowKit Go.GxZ
structure RS (Γ0:Gh) (w0:World) (rd:Val RD) (Γ : Gh) (σ : St) (w:World):Prop where
 x:Ext Γ0 w0 Γ w
 i:Inv Γ σ w
 bx : σ.bx=[qi RD rd]
abbrev qpn(F:Val RD->Option ((Val RD × Unit) × ((Int × List UInt8 × Int × List T × Int × Unit) × Unit))):qn4:=⟨[.box [.val RD]],[.agg [.val (.int .i64),.val .str,.val (.int .i64),.row .term,.val (.int .i64)]],λ x=>F x.1⟩
section
variable {P:Program} {Γ0 Γ : Gh} {σ : St} {w0 w:World} {rd:Val RD}
theorem RS.drew(h:RS Γ0 w0 rd Γ σ w):RS Γ0 w0 rd Γ σ { w with drawn:=w.drawn+1 }:=⟨h.x.trans (Ext.drew _ _),h.i.drew,h.bx⟩
theorem RS.box(h:RS Γ0 w0 rd Γ σ w):w.cell? ⟨Γ.β 0,0,none⟩=some (.string ⟨rd.1.toArray⟩)/\w.cell? ⟨Γ.β 0,1,none⟩=some (.int .i64 rd.2.1)/\w.cell? ⟨Γ.β 0,2,none⟩=some (.bool rd.2.2):=by
 obtain⟨vs,e,g,d,j⟩:=h.i.box 0 (qi RD rd) (by rw[h.bx];rfl);have f:=QQ g;have c:∀(x:Value) (u:Value),Rep Γ (.v x) u->u=x := λ x u h=>by cases h;rfl
 refine⟨?_,?_,?_⟩<;>rw[f]
 ·obtain⟨u,a,b⟩:=d.get (i:=0) (x := .v (.string ⟨rd.1.toArray⟩)) rfl;rw[c _ _ b]at a;simpa using a
 ·obtain⟨u,a,b⟩:=d.get (i:=1) (x := .v (.int .i64 rd.2.1)) rfl;rw[c _ _ b]at a;simpa using a
 ·obtain⟨u,a,b⟩:=d.get (i:=2) (x := .v (.bool rd.2.2)) rfl;rw[c _ _ b]at a;simpa using a
theorem RS.grown{w':World}{c:Option Nat}(h:RS Γ0 w0 rd Γ σ w)(e:w.grownBy w' c)(d:∀ b,c=some b->qeD Γ b/\w0.heap.size<=b)(f:w.drawn<=w'.drawn):RS Γ0 w0 rd Γ σ w' :=
 let⟨a,b⟩:=qJg h.x h.i e d f;⟨a,b,h.bx⟩
theorem RS.set(h:RS Γ0 w0 rd Γ σ w){g:Nat}(a:qeD Γ g)(c:w0.heap.size<=g)(k:Nat)(u:Value):RS Γ0 w0 rd Γ σ (w.setCell ⟨g,k,none⟩ u) :=
 h.grown (qIO w g k u) (λ b e=>by cases e;exact⟨a,c⟩) (wb _)
theorem RS.put4(h:RS Γ0 w0 rd Γ σ w){b:Nat}(a:qeD Γ b)(c:w0.heap.size<=b)(g f e d:Value):RS Γ0 w0 rd Γ σ ((((w.setCell ⟨b,0,none⟩ g).setCell ⟨b,1,none⟩ f).setCell ⟨b,2,none⟩ e).setCell ⟨b,3,none⟩ d) :=
 (((h.set a c 0 g).set a c 1 f).set a c 2 e).set a c 3 d
theorem qDd:Rep Γ (.sl 4 [] 1) (.slice none 0 0) := .sl _ _ _ _ 0 0 0 0 (λ _ _=>undef) rfl (λ _=>wb _) (λ _=>rfl) (λ e h=>by cases h) (λ e h=>by cases h) (by decide) (.inl rfl) (λ i e j x h=>by cases h) (λ i e j x h=>by cases h)
theorem RS.alloc(h:RS Γ0 w0 rd Γ σ w)(o:Obj):RS Γ0 w0 rd Γ σ (w.alloc o) :=
 h.grown (World.grownBy_alloc w o none) (λ b e=>by cases e) (wb _)
theorem qwx{f:FuncId}{F:Val RD->Option ((Val RD × Unit) × ((Int × List UInt8 × Int × List T × Int × Unit) × Unit))}(C:qZ P f (sgP (qpn F))){b:Val RD}{nk sk lf:Int}{nm:List UInt8}{ks:List T}(A:F rd=some ((b,()),((nk,nm,sk,ks,lf,()),())))
  (h:RS Γ0 w0 rd Γ σ w):Calls P f #[.pointer (some ⟨Γ.β 0,0,none⟩)] w λ e w'=>∃ Γ' σ' o,e = .returned (.agg #[.int .i64 nk,.string ⟨nm.toArray⟩,.int .i64 sk,o,.int .i64 lf])/\Ext Γ w Γ' w'/\RS Γ0 w0 b Γ' σ' w' /\ σ'.rw = σ.rw++[⟨4,ks.map (qi .term),0,0,false⟩]/\Rep Γ' (.rs σ.rw.length 0 ks.length 0 false) o:=by
 have l : Γ.nb=1:=by rw[h.i.nb,h.bx];rfl
 have g:qal σ [.ptr 0 0] (sgP (qpn F))=some (.agg [.v (.int .i64 nk),.v (.string ⟨nm.toArray⟩),.v (.int .i64 sk),.rs σ.rw.length 0 ks.length 0 false,.v (.int .i64 lf)],some ⟨[qi RD b],σ.rw++[⟨4,ks.map (qi .term),0,0,false⟩],0 :: σ.wr,σ.wrr⟩):=by
  obtain⟨I,rw,c,a⟩ := σ;have m:I=[qi RD rd]:=h.bx;subst m;have B:yh RD ((qi RD rd).take (Ty.size RD))=some rd:=Qi RD rd
  have m:qjw ⟨[qi RD rd],[],[],[]⟩ [.val RD] 0 0 (.ptr 0 0)=some ((rd,()),0):=by
   show(match yh RD ((qi RD rd).take (Ty.size RD))with
    | some v=>match qf2 ⟨[qi RD rd],[],[],[]⟩ [] 0 ((qi RD rd).drop (Ty.size RD))with
      | some (vs,n)=>some ((v,vs),n)
      | none=>none
    | none=>none)=_
   rw[B];rfl
  have s:dS ⟨[qi RD rd],[],[],[]⟩ (qpn F).args 0 0 [.ptr 0 0]=some (rd,()):=by
   show(match qjw ⟨[qi RD rd],[],[],[]⟩ [.val RD] 0 0 (.ptr 0 0)with
    | some (v,k)=>match dS ⟨[qi RD rd],[],[],[]⟩ [] 1 k []with
      | some vs=>some (toB [.val RD] v,vs)
      | none=>none
    | none=>none)=_
   rw[m];rfl
  have z:sgP (qpn F) ⟨[qi RD rd],[],[],[]⟩ [.ptr 0 0]=some (.agg [.v (.int .i64 nk),.v (.string ⟨nm.toArray⟩),.v (.int .i64 sk),.rs 0 0 ks.length 0 false,.v (.int .i64 lf)],some ⟨[qi RD b],[⟨4,ks.map (qi .term),0,0,false⟩],[0],[]⟩):=by
   unfold sgP;rw[s];dsimp only;rw[A];rfl
  have q:qjg ⟨[qi RD rd],rw,c,a⟩ [.ptr 0 0]=true:=rfl;have H:qN ⟨[qi RD rd],rw,c,a⟩ (Q7 ⟨[qi RD rd],rw,c,a⟩ [.ptr 0 0]) (qcP ⟨[qi RD rd],rw,c,a⟩ [.ptr 0 0])=⟨[qi RD rd],[],[],[]⟩:=rfl;unfold qal;rw[q]
  show(match sgP (qpn F) (qN ⟨[qi RD rd],rw,c,a⟩ (Q7 ⟨[qi RD rd],rw,c,a⟩ [.ptr 0 0]) (qcP ⟨[qi RD rd],rw,c,a⟩ [.ptr 0 0])) [.ptr 0 0]with
   | some r=>some (qjc ⟨[qi RD rd],rw,c,a⟩ [0] [] r)
   | none=>none)=_
  rw[H,z];rfl
 refine(qp6 (λ Γ σ j r y d t=>C.2 Γ σ w j _ r y d t) h.i (waE (Rep.ptr 0 0 (by rw[l];exact wai)) .nil) g).mono ?_;rintro e w' ⟨v,Γ',rfl,p,E,D,O⟩;cases D with
 | agg _ us u G d =>
 match us,u with
 | [u0,u1,u2,u3,u4],_ =>
 have N:=d 0 _ _ rfl rfl;have M:=d 1 _ _ rfl rfl;have L:=d 2 _ _ rfl rfl;have K:=d 3 _ _ rfl rfl;have J:=d 4 _ _ rfl rfl;cases N;cases M;cases L;cases J;exact⟨Γ',_,u3,rfl,p,⟨h.x.trans p,E,rfl⟩,rfl,K⟩
theorem qCL(p:Inv Γ σ w){cs:List Value}{i:Nat}{t:T}{n:Int}{r:Nat}(h:qi8 Γ σ cs i t n r) :
  ∃ a σ1 d,σ1.bx = σ.bx/\(∀ b,b≠r -> σ1.rw[b]? = σ.rw[b]?)/\Ext Γ w a w/\Inv a σ1 w/\cs[i*5+3]?=some d/\Rep a (.sl 4 (t.kids.map (qi .term)) 1) d/\d.oneCell'=true:=by
 obtain⟨R,d,j,B,E,D,s,q,I,H,G,C,F⟩:=h;obtain⟨m,l,v,u⟩:=qwM p j σ.wrr;refine⟨_,{ σ with rw := σ.rw.modify r qme,wrr := σ.wrr },d,rfl,λ b z=>?_,qk7 l w,v,C,?_,q.one rfl⟩
 ·show(σ.rw.modify r qme)[b]?=_;rw[List.getElem?_modify];cases σ.rw[b]? with
  | none=>rfl
  | some x=>exact congrArg some (if_neg (λ e=>z (Eq.symm e)))
 ·have:=qlh p l.le (y := .rs r 0 t.kids.length R.ver false) (λ b f R' g=>by
    simp only[rsC,wH]at f;subst f;rw[j]at g;cases g;exact u) q
  have o:R.c.length=t.kids.length:=by rw[s,wA]
  have A:zk σ.rw (.rs r 0 t.kids.length R.ver false) = .sl 4 (t.kids.map (qi .term)) 1:=by
   simp only[zk,j]
   have:qm9 R R.k 0 t.kids.length R.ver=some (t.kids.map (qi .term)):=by
    unfold qm9;rw[if_pos ⟨rfl,rfl,by omega⟩,wO,kE (by omega),s]
   rw[this,B]
  rw[A]at this;exact this
theorem qhA{t:T}{a:Value}(h:Rep Γ (.sl 4 (t.kids.map (qi .term)) 1) a):RepL Γ (qi .term t) [.int .i64 t.kind,.string ⟨t.name.toArray⟩,.int .i64 t.sort,a]:=by
 have b:qi .term t=[.v (.int .i64 t.kind),.v (.string ⟨t.name.toArray⟩),.v (.int .i64 t.sort),.sl 4 (t.kids.map (qi .term)) 1]:=by
  obtain⟨k,n,s,l⟩:=t;show J6 _=_;rw[J6,qlN];rfl
 rw[b];exact waE (.v _ rfl) (waE (.v _ rfl) (waE (.v _ rfl) (waE h .nil)))
theorem qpM{k s:Int}{b:ByteArray}{a:Value}(h:a.oneCell'=true):∀ u∈([.int .i64 k,.string b,.int .i64 s,a]:List Value),u.oneCell'=true:=by
 intro u c;simp only[wx,xt,or_false]at c;rcases c with rfl | rfl | rfl | rfl<;>first | rfl | exact h
theorem qKV(n:Inv Γ σ w){t:T}{b:Value}(h:Rep Γ (.sl 4 (t.kids.map (qi .term)) 1) b)(e:TypeId) :
  ∃ Γ',Ext Γ w Γ' (w.alloc (.cells #[.int .i64 t.kind,.string ⟨t.name.toArray⟩,.int .i64 t.sort,b] e))/\Inv Γ' σ (w.alloc (.cells #[.int .i64 t.kind,.string ⟨t.name.toArray⟩,.int .i64 t.sort,b] e))/\Rep Γ' (.sl (Ty.size .term) [qi .term t] 2) (.slice (some ⟨w.heap.size,0,none⟩) 1 1):=by
 obtain⟨Γ',g,l,k⟩:=qy0 n (vs:=[.int .i64 t.kind,.string ⟨t.name.toArray⟩,.int .i64 t.sort,b]) (qpM (h.one rfl)) e;refine⟨Γ',g,l,.sl _ _ _ _ 1 1 w.heap.size 0 (λ _ j=>([.int .i64 t.kind,.string ⟨t.name.toArray⟩,.int .i64 t.sort,b]:List Value).getD j undef) rfl (λ _=>wb _) (λ _=>rfl) ?_ ?_ (by decide) (.inr rfl) ?_ ?_⟩
 ·intro e f;rw[wH.1 f];exact jA .term t
 ·intro e f;rw[wH.1 f];exact zt .term t
 ·intro i e j x a d;cases i with
  | succ i=>cases a
  | zero =>
    cases a;obtain⟨u,c,_⟩:=(qhA h).get d;rw[wG,kQ,wG,k j u c,List.getD_eq_getElem?_getD,c];rfl
 ·intro i e j x a d;cases i with
  | succ i=>cases a
  | zero =>
    cases a;obtain⟨u,c,m⟩:=(qhA h).get d;rw[List.getD_eq_getElem?_getD,c];exact m.mono g.le
theorem qFg{B N:Nat}{f:List (T × Int)}{a:List Nat}{g cap:Nat}{cs:List Value}(h:RS Γ0 w0 rd Γ σ w)(j:Stk B N Γ σ w f a g cap cs){q:Nat}{x:T}{n:Int}(m:f[q]?=some (x,n)) :
  ∃ Γ' σ' c,cs[q*5+3]?=some c/\RS Γ0 w0 rd Γ' σ' w/\Stk B N Γ' σ' w (f.take q) (a.take q) g cap (cs.take (q*5))/\Rep Γ' (.sl 4 (x.kids.map (qi .term)) 1) c/\Ext Γ w Γ' w:=by
 obtain⟨A,k,z⟩:=j.at m;obtain⟨d,σ1,c,y,v,l,u,t,s,C⟩:=qCL h.i z;refine⟨d,σ1,c,t,⟨h.x.trans l,u,y.trans h.bx⟩,(j.shrink (xy (getElem?_lt m))).later l λ r o R p=>?_,s,l⟩;rw[v r λ e=>?_];exact p;subst e;obtain⟨i,b⟩:=vD.1 o;rw[List.getElem?_take]at b;split at b<;>try cases b
 have:=(List.getElem?_inj (getElem?_lt b) j.nd).1 (b.trans k.symm);omega
theorem qFS{B N:Nat}{A:List (T × Int)}{f:List Nat}{g cap:Nat}{cs:List Value}{z V:TypeId}(hT:qoe P .term z V 56)(h:RS Γ0 w0 rd Γ σ w)(o:Stk B N Γ σ w A f g cap cs)(hB:w0.heap.size<=B){q:Nat}{t x:T}{n:Int}{J:Value}(E:A[q]?=some (t,n))(X:Rep Γ (.sl 4 (x.kids.map (qi .term)) 1) J)(l:zp (t.kids.length+1) 56=true)(e ty:TypeId) :
  ∃ p a,cs[q*5+3]?=some p/\f[q]?=some a/\(∃ C D,p = .slice C t.kids.length D) /\
  ∃ d w',(Builtin.append_ #[z,z] ty #[p,.slice (some ⟨w.heap.size,0,none⟩) 1 1]).run P (w.alloc (.cells #[.int .i64 x.kind,.string ⟨x.name.toArray⟩,.int .i64 x.sort,J] e)) = .ok d w'/\(∃ C D,d = .slice C (t.kids.length+1) D) /\
  ∃ Γ' σ',Ext Γ w Γ' w'/\RS Γ0 w0 rd Γ' σ' (w'.setCell ⟨g,q*5+3,none⟩ d)/\Stk B N Γ' σ' (w'.setCell ⟨g,q*5+3,none⟩ d) (A.take q++[(.mk t.kind t.name t.sort (t.kids++[x]),n)]) (f.take (q+1)) g cap ((cs.set (q*5+3) d).take ((q+1)*5)):=by
 obtain⟨U,S,c2,c3⟩:=qKV h.i X e;obtain⟨a,j,Nq⟩:=o.at E;obtain⟨R,p,e1,Q,O,e4,M,L,f0,f1,f2,f3,f4⟩:=Nq;have v:R.c.length=t.kids.length:=by rw[M,wA]
 have r:=of_decide_eq_true l
 have y:yc (Ty.size .term) 56 σ (.rs a 0 t.kids.length R.ver false) [qi .term x]=some (.rs a 0 (t.kids.length+1) (R.ver+1) false,some { σ with rw := σ.rw.set a { R with c:=R.c++[qi .term x],ver:=R.ver+1 },wrr:=a :: σ.wrr }):=by
  have m:R.k=Ty.size .term/\R.ver=R.ver/\t.kids.length=R.c.length/\(0:Nat)=0/\false=false/\R.fz<=R.c.length/\(t.kids.length+[qi .term x].length)*56<=2 ^ 47/\t.kids.length+[qi .term x].length<2 ^ 62 :=
   ⟨Q,rfl,v.symm,rfl,rfl,by rw[O];exact we _,r.1,r.2⟩
  have G:qsS R (Ty.size .term) 0 t.kids.length R.ver false 56 [qi .term x]=some ({ R with c:=R.c++[qi .term x],ver:=R.ver+1 },t.kids.length+1):=if_pos m;have u:zi (qaM [qi .term x]) 0=false:=rfl;simp only[yc,u,e1,G]
 obtain⟨d,w',Γ',g1,g2,g3,K⟩:=qrH hT c2 (L.mono S.le) c3 (by intro q' hq';rw[wH.1 hq'];exact jA .term x) (by intro q' hq';rw[wH.1 hq'];exact zt .term x) y ty;have b:=S.trans g2;have F:=(o.priv.ext b (qcO o.own).2).1;have Z:=(qcO o.own).1;refine⟨p,a,f3,j,(by cases L;exact⟨_,_,rfl⟩),d,w',g1,(by cases K;exact⟨_,_,rfl⟩),Γ',_,b,RS.set ⟨h.x.trans b,g3,h.bx⟩ F (by omega) _ _,o.kid b (getElem?_lt E) E j x (λ i I hi s R' H=>?_) (R:={ R with c:=R.c++[qi .term x],ver:=R.ver+1 }) ?_ Q O e4 (by show R.c++_=_;rw[M,wS];rfl) K⟩
 ·have Y:=getElem?_lt s
  have W:I≠a := λ e=>by
   have:=(List.getElem?_inj Y o.nd).1 (s.trans (e▸j.symm));omega
  show(σ.rw.set a _)[I]?=_;rw[List.getElem?_set_ne (λ e=>W e.symm)];exact H
 ·show(σ.rw.set a _)[a]?=_;rw[List.getElem?_set_self (getElem?_lt e1)]
theorem qCu{vs:Array Value}{a:Nat}{f e c b:Value}(j:a+4<=vs.size)(off:Nat):((((vs.setIfInBounds a f).setIfInBounds (a+1) e).setIfInBounds (a+2) c).setIfInBounds (a+3) b)[off]?=if off<a then vs[off]? else if off<a+4 then([f,e,c,b]:List Value)[off-a]? else vs[off]?:=by
 simp only[Array.getElem?_setIfInBounds,xM];by_cases h:off<a
 ·rw[if_pos h,if_neg (by omega),if_neg (by omega),if_neg (by omega),if_neg (by omega)]
 ·rw[if_neg h];by_cases g:off<a+4
  ·rw[if_pos g];obtain⟨d,rfl⟩:∃ d,off=a+d:=⟨off-a,by omega⟩
   rw[show a+d-a=d by omega];have i:d<4:=by omega
   match d,i with
   | 0,_=>rw[if_neg (by omega),if_neg (by omega),if_neg (by omega),if_pos (by omega),if_pos (by omega)];rfl
   | 1,_=>rw[if_neg (by omega),if_neg (by omega),if_pos (by omega),if_pos (by omega)];rfl
   | 2,_=>rw[if_neg (by omega),if_pos (by omega),if_pos (by omega)];rfl
   | 3,_=>rw[if_pos (by omega),if_pos (by omega)];rfl
  ·rw[if_neg g,if_neg (by omega),if_neg (by omega),if_neg (by omega),if_neg (by omega)]
theorem qMR{B N:Nat}{O:List (T × Int)}{s:List Nat}{g cap:Nat}{cs:List Value}(h:RS Γ0 w0 rd Γ σ w)(f:Stk B N Γ σ w O s g cap cs){q:Nat}{t x z:T}{ks:List T}{n:Int}{o:Value}(hq:O[q]?=some (t,n))(K:t.kids=ks++[z])(hx:Rep Γ (.sl 4 (x.kids.map (qi .term)) 1) o) :
  ∃ b m,cs[q*5+3]?=some (.slice (some ⟨b,0,none⟩) (ks.length+1) m)/\b≠g/\QG Γ b/\(∀ j,j<4->∃ u,w.cell? ⟨b,ks.length*4+j,none⟩=some u)/\(∀ j,w.frozen? ⟨b,j,none⟩=false) /\
  ∃ Γ' σ',Ext Γ w Γ' ((((w.setCell ⟨b,ks.length*4,none⟩ (.int .i64 x.kind)).setCell ⟨b,ks.length*4+1,none⟩ (.string ⟨x.name.toArray⟩)).setCell ⟨b,ks.length*4+2,none⟩ (.int .i64 x.sort)).setCell ⟨b,ks.length*4+3,none⟩ o) /\
   RS Γ0 w0 rd Γ' σ' ((((w.setCell ⟨b,ks.length*4,none⟩ (.int .i64 x.kind)).setCell ⟨b,ks.length*4+1,none⟩ (.string ⟨x.name.toArray⟩)).setCell ⟨b,ks.length*4+2,none⟩ (.int .i64 x.sort)).setCell ⟨b,ks.length*4+3,none⟩ o) /\
   Stk B N Γ' σ' ((((w.setCell ⟨b,ks.length*4,none⟩ (.int .i64 x.kind)).setCell ⟨b,ks.length*4+1,none⟩ (.string ⟨x.name.toArray⟩)).setCell ⟨b,ks.length*4+2,none⟩ (.int .i64 x.sort)).setCell ⟨b,ks.length*4+3,none⟩ o) (O.set q (.mk t.kind t.name t.sort (ks++[x]),n)) s g cap cs:=by
 obtain⟨r,hr,R,ku,e1,J,e3,e4,e5,e6,f0,f1,f2,f3,f4⟩:=f.at hq;have H:=h.i.row r R e1;have D:R.c.length=ks.length+1:=by rw[e5,K];simp
 have V:t.kids.length=ks.length+1:=by rw[K];simp
 rw[V]at e6;have G:R.c[ks.length]?=some (qi .term z):=by rw[e5,K];simp
 have hz:=H.real G;have C:=H.off e4
 obtain⟨b,m,rfl,hb⟩:∃ b m,ku = .slice (some ⟨b,0,none⟩) (ks.length+1) m/\b = Γ.cur r:=by
  cases e6 with
  | rs _ _ _ _ _ a m v Q hc hf hl =>
    obtain⟨I,h2⟩:=hl (H.ver (by rw[e3];exact we _)).symm;rcases I with I | I
    ·omega
    ·rw[C,kQ,wG]at I;exact⟨_,m,by rw[I],rfl⟩
 subst hb;have v:r < Γ.nr:=by rw[h.i.nr];exact getElem?_lt e1
 have A:QG Γ (Γ.cur r) := .inr ⟨r,v,hz,rfl⟩;have Y : Γ.cur r≠g := λ e=>f.priv.own (e▸A);obtain⟨vs,e,fr,M,c2,c3,c4⟩:=H.blk hz;have X:fr=(0,0):=c4 (by omega);subst X;have F:=H.fit;rw[C,D,J,<- c2]at F;have s1:=heap_setCell_same w (Γ.cur r) (ks.length*4) vs e (.int .i64 x.kind) M;have s2:=heap_setCell_same _ (Γ.cur r) (ks.length*4+1) _ e (.string ⟨x.name.toArray⟩) s1;have s3:=heap_setCell_same _ (Γ.cur r) (ks.length*4+2) _ e (.int .i64 x.sort) s2;have s4:=heap_setCell_same _ (Γ.cur r) (ks.length*4+3) _ e o s3
 have l:∀ k,k ≠ Γ.cur r->((((w.setCell ⟨Γ.cur r,ks.length*4,none⟩ (.int .i64 x.kind)).setCell ⟨Γ.cur r,ks.length*4+1,none⟩ (.string ⟨x.name.toArray⟩)).setCell ⟨Γ.cur r,ks.length*4+2,none⟩ (.int .i64 x.sort)).setCell ⟨Γ.cur r,ks.length*4+3,none⟩ o).heap[k]?=w.heap[k]? := λ k L=>by
  rw[Below.heap_setCell _ _ _ _ L,Below.heap_setCell _ _ _ _ L,Below.heap_setCell _ _ _ _ L,Below.heap_setCell _ _ _ _ L]
 obtain⟨Γ',p,z2⟩:=qrA h.i e1 G (by rw[e3];exact we _) e4 (e1:=qi .term x) ((jA .term x).trans J.symm) (zt .term x) (λ vs' e' ab Q=>by
   rw[M]at Q;cases Q;refine⟨s4,by simp,λ off ho=>?_⟩;rw[J]at ho;rw[qCu (by omega)];split
   ·rfl
   ·rw[if_neg (by omega)])
  (λ j y W=>by
   have aa:j<4:=by have:=getElem?_lt W;rwa [jA .term x]at this
   obtain⟨u,hu,S⟩:=(qhA hx).get W;refine⟨u,?_,S,qpM (hx.one rfl) u (wa hu)⟩;rw[J,qCu (by omega),if_neg (by omega),if_pos (by omega),show ks.length*4+j-ks.length*4=j by omega];exact hu) l rfl rfl rfl (by simp) (wb _) σ.wrr
 refine⟨Γ.cur r,m,f3,Y,A,λ j W=>⟨vs[ks.length*4+j]'(by omega),?_⟩,λ j=>frozen_of_row w _ j _ _ M,Γ',_,p,⟨h.x.trans p,z2,h.bx⟩,?_⟩
 ·rw[QQ M,Array.getElem?_eq_getElem]
 ·obtain⟨p1,p2⟩:=f.priv.ext p (qcO f.own).2;refine⟨by rw[wJ];exact f.len,f.nd,p1,by rw[wJ];exact ql5 f.own p2,λ i t' n' P E d=>?_⟩;rw[List.getElem?_set]at E;split at E
  ·rename_i e;subst e;rw[if_pos (getElem?_lt hq)]at E;cases E;rw[hr]at d;cases d;refine⟨{ R with c:=R.c.set ks.length (qi .term x) },_,List.getElem?_set_self (getElem?_lt e1),J,e3,e4,?_,?_,f0,f1,f2,f3,f4⟩
   ·show R.c.set ks.length (qi .term x)=(ks++[x]).map (qi .term);rw[e5,K,wS,wS];simp
   ·have:=e6.mono p.le;show Rep Γ' (.rs r 0 (ks++[x]).length R.ver false) _;rw[wc];exact this
  ·rename_i e;refine(f.node i t' n' P E d).later p.le λ R' Z=>?_
   have U:P≠r := λ e'=>by
    have:=(List.getElem?_inj (getElem?_lt d) f.nd).1 (d.trans (e'▸hr.symm));omega
   show(σ.rw.set r _)[P]?=_;rw[List.getElem?_set_ne (λ e=>U e.symm)];exact Z
end
end Go.AmZ
namespace Go.AmZ
open Go Go.RowKit Go.GxZ
theorem qot{P:Program}{o:Oper}{a:Act}{w:World}{K:Act->World->Prop}{Q:Exit->Act->World->Prop}(s x:Operand)(t:TypeId)(c:o.op=Op.call { callee:=Callee.builtin Builtin.append,args := #[s,x],argTypes := #[t,t] }){v d e:Value}{w':World}(g:a.eval s=v)(f:a.eval x=d)
  (b:(Builtin.append_ #[t,t] o.type #[v,d]).run P w = .ok e w') (h:K (a.put o.dst e) w'):Oper.wp P o a w K Q:=by
 unfold Oper.wp;simp[execOp,c,resolve,invoke,builtin,g,f,b,Result.andThen];exact h
theorem qoK{P:Program}{ops:Array Oper}{o:Oper}{a:Act}{w:World}{K:Act->World->Prop}{Q:Exit->Act->World->Prop}{E:Prop}(h:o.guard=none)(s x:Operand)(t:TypeId)(c:o.op=Op.call { callee:=Callee.builtin Builtin.append,args := #[s,x],argTypes := #[t,t] }){v d e:Value}{w':World}(g:a.eval s=v)(f:a.eval x=d)
  (b:(Builtin.append_ #[t,t] o.type #[v,d]).run P w = .ok e w') (i:K (a.put o.dst e) w'):if Region.wanted o (yielded ops a.tmps)=true then Oper.wp P o a w K Q else E:=by
 rw[if_pos (by simp[Region.wanted,h])];exact qot s x t c g f b i
theorem qyk{P:Program}{ops:Array Oper}{b:List Oper}{o:Oper}{a:Act}{w:World}{Q:Exit->Act->World->Prop}(s x:Operand)(t:TypeId)(j:o.guard=none)(d:o.op=Op.call { callee:=Callee.builtin Builtin.append,args := #[s,x],argTypes := #[t,t] }){v e f:Value}{w':World}(i:a.eval s=v)(g:a.eval x=e)
  (c:(Builtin.append_ #[t,t] o.type #[v,e]).run P w = .ok f w') (k:wpList P ops Q b (a.put o.dst f) w'):wpList P ops Q (o::b) a w:=by
 have h:Region.wanted o (yielded ops a.tmps)=true:=by simp[Region.wanted,j]
 unfold wpList;rw[if_pos h];exact .inl (qot s x t d i g c k)
abbrev qkB:=(Val RD × Unit) × ((Int × List UInt8 × Int × List T × Int × Unit) × Unit)
def qeV(F:Val RD->Option qkB)(rd:Val RD):Option (Val RD × (Int × List UInt8 × Int × Int)):=match F rd with
 | some (r,v)=>match v.1.2.2.2.1 with
   | []=>some (r.1,v.1.1,v.1.2.1,v.1.2.2.1,v.1.2.2.2.2.1)
   | _::_=>none
 | none=>none
def qnr(F:Val RD->Option qkB)(c:List (T × Int)->Val RD->Option ((Val RD × Unit) × (T × Unit)))(b:List (T × Int))(rd:Val RD):Option ((Val RD × Unit) × (T × Unit)) :=
 cond rd.2.2 (some ((rd,()),(T.mk 0 [] 0 [],()))) (qa b[b.length-1]? λ a=>cond (ilt 0 a.2)
  (cond (zp (b.length+1) 64) (qa (qeV F rd) λ h=>c (b.set (b.length-1) (a.1,iw .i64 (zq a.2 1))++[(T.mk h.2.1 h.2.2.1 h.2.2.2.1 [],h.2.2.2.2)]) h.1) none)
  (cond (Nat.beq b.length 1) (some ((rd,()),(a.1,()))) (qa b[b.length-2]? λ p=>cond (zp (p.1.kids.length+1) 56) (c (b.take (b.length-2)++[(T.mk p.1.kind p.1.name p.1.sort (p.1.kids++[a.1]),p.2)]) rd) none)))
def qky(F:Val RD->Option qkB):Nat->List (T × Int)->Val RD->Option ((Val RD × Unit) × (T × Unit)):=qJ (λ _ _=>none) (qnr F)
def qpN(F:Val RD->Option qkB)(k:Nat)(rd:Val RD):Option ((Val RD × Unit) × (T × Unit)):=qa (qeV F rd) λ h=>qky F k [(T.mk h.2.1 h.2.2.1 h.2.2.2.1 [],h.2.2.2.2)] h.1
theorem qtn{F:Val RD->Option qkB}{rd f:Val RD}{nk sk lf:Int}{nm:List UInt8}(h:qeV F rd=some (f,nk,nm,sk,lf)):F rd=some ((f,()),((nk,nm,sk,[],lf,()),())):=by
 unfold qeV at h;split at h<;>try cases h
 rename_i r v i;split at h<;>cases h;rename_i g;obtain⟨⟨a,b,c,d,e,_⟩,_⟩:=v;obtain⟨r,_⟩:=r;have g:d=[]:=g;subst g;exact i
theorem qGM{F:Val RD->Option qkB}{g:List (T × Int)->Val RD->Option ((Val RD × Unit) × (T × Unit))}{c:List (T × Int)}{rd:Val RD}{r:(Val RD × Unit) × (T × Unit)}(h:qnr F g c rd=some r) :
  (rd.2.2=true/\r=((rd,()),(T.mk 0 [] 0 [],())))\/rd.2.2=false/\∃ p b lt,c.length=p+1/\c[p]?=some (b,lt) /\
   ((0<lt/\zp (p+2) 64=true/\∃ d nk nm sk lf,F rd=some ((d,()),((nk,nm,sk,[],lf,()),()))/\g (c.set p (b,iw .i64 (zq lt 1))++[(T.mk nk nm sk [],lf)]) d=some r) \/
    ¬ 0<lt/\((p=0/\r=((rd,()),(b,())))\/∃ q a n,p=q+1/\c[q]?=some (a,n)/\zp (a.kids.length+1) 56=true/\g (c.take q++[(T.mk a.kind a.name a.sort (a.kids++[b]),n)]) rd=some r)):=by
 unfold qnr at h;cases m:rd.2.2 with
 | true=>rw[m]at h;exact .inl ⟨rfl,(kX h).symm⟩
 | false =>
   rw[m]at h;refine .inr ⟨rfl,?_⟩;cases e:c[c.length-1]? with
   | none=>rw[e]at h;cases h
   | some x =>
     obtain⟨b,lt⟩:=x;have o:=getElem?_lt e;obtain⟨p,s⟩:∃ p,c.length=p+1:=⟨c.length-1,by omega⟩
     rw[s]at h e;simp only[xU]at h e;rw[e]at h;refine⟨p,b,lt,s,e,?_⟩;have h:cond (ilt 0 lt) _ _=some r:=h;cases i:ilt 0 lt with
     | true =>
       rw[i]at h;have h:cond (zp (p+1+1) 64) (qa (qeV F rd) _) none=some r:=h;cases f:zp (p+1+1) 64 with
       | false=>rw[f]at h;cases h
       | true =>
         rw[f]at h;refine .inl ⟨of_decide_eq_true i,rfl,?_⟩;have h:qa (qeV F rd) _=some r:=h;cases l:qeV F rd with
         | none=>rw[l]at h;cases h
         | some y =>
           obtain⟨d,nk,nm,sk,lf⟩:=y;rw[l]at h;exact⟨d,nk,nm,sk,lf,qtn l,h⟩
     | false =>
       rw[i]at h;refine .inr ⟨of_decide_eq_false i,?_⟩;have h:cond (Nat.beq (p+1) 1) (some ((rd,()),(b,()))) _=some r:=h;cases j:Nat.beq (p+1) 1 with
       | true =>
         rw[j]at h;exact .inl ⟨by have:=wj j;omega,(kX h).symm⟩
       | false =>
         rw[j]at h;obtain⟨q,rfl⟩:∃ q,p=q+1:=⟨p-1,by cases p with | zero=>cases j | succ q=>rfl⟩
         have h:qa c[q+1+1-2]? _=some r:=h;rw[show q+1+1-2=q by omega]at h;cases k:c[q]? with
         | none=>rw[k]at h;cases h
         | some y =>
           obtain⟨a,n⟩:=y;rw[k]at h;have h:cond (zp (a.kids.length+1) 56) (g (c.take (q+1+1-2)++_) rd) none=some r:=h;rw[show q+1+1-2=q by omega]at h;cases f:zp (a.kids.length+1) 56 with
           | false=>rw[f]at h;cases h
           | true=>rw[f]at h;exact .inr ⟨q,a,n,rfl,k,f,h⟩
theorem qze{Γ Γ':Gh}(q:∀ b o u,Γ.mem b o=some u -> Γ'.mem b o=some u){x:AV}{u:Value}(h:Rep Γ x u):qy x=true->Rep Γ' x u:=by
 induction h with
 | v x h=>exact λ _ => .v x h
 | sl k es f a n cap b o us p t s r l y w g z m =>
   exact λ _ => .sl k es f a n cap b o us p t s r l y w (λ i e j x d c=>q _ _ _ (g i e j x d c)) (λ i e j x d c=>m i e j x d c (l e (wa d) x (wa c)))
 | _=>intro h;cases h
section
variable {P:Program} {Γ0 Γ : Gh} {σ0 σ : St} {w0 w:World} {rd:Val RD}
theorem qIB(G:Inv Γ0 σ0 w0)(p : σ0.bx.length=1)(c : σ0.rw=[])(h:RS Γ0 w0 rd Γ σ w){t:T}{us:List Value}(s:RepL Γ (qi .term t) us)(F:∀ u∈us,u.oneCell'=true) :
  ∃ v Γ',(Ending.returned (.agg us.toArray):Ending) = .returned v/\Ext Γ0 w0 Γ' w/\Inv Γ' (turn σ0 (some ⟨[qi RD rd],[],List.range σ0.bx.length,List.range σ0.rw.length⟩)) w/\Rep Γ' (yL .term t) v/\qX { σ0 with wr:=[],wrr:=[] } (turn { σ0 with wr:=[],wrr:=[] } (some ⟨[qi RD rd],[],List.range σ0.bx.length,List.range σ0.rw.length⟩)):=by
 obtain⟨q,g,C,r⟩ := σ0;have c:g=[]:=c;subst c;obtain⟨y,rfl⟩:∃ y,q=[y]:=xV.1 p
 obtain⟨m,B,H,A,z⟩:=qqW G h.x h.i (by rw[h.bx];exact wb _) [qi RD rd] [] rfl (by simp) kT [] [] (λ i cs d=>by
  cases i with
  | succ i=>cases d
  | zero =>
    cases d;refine⟨qi RD rd,by rw[h.bx];rfl,λ m n _ us f=>⟨f.len,λ j x u e k=>qze (Γ := Γ) (Γ':=yQ Γ m 1 [] 0 []) (λ b o u l=>n.le.mem b o u l) (f.rep j x u e k) (zt RD rd x (wa e))⟩⟩) (λ a so R h=>by cases h) (λ a b j R R' h=>by cases h) [0] []
 refine⟨_,_,rfl,A,z,.agg _ us s.len F λ i x u e f=>qze (Γ := Γ) (Γ':=yQ Γ m 1 [] 0 []) (λ b o u n=>B.le.mem b o u n) (s.rep i x u e f) (zt .term t x (wa e)),wb _,wb _,λ i d E=>?_,λ i d _=>absurd d (wL _),λ i h=>(by cases h),λ i h=>(by cases h)⟩;have:i=0:=by have:i<1:=d;omega
 exact absurd (by rw[this];exact wH.2 rfl) E
theorem qJr{B N:Nat}{m:List (T × Int)}{c:List Nat}{g cap:Nat}{cs:List Value}{q:TypeId}{i:TypeInfo}{z:Value}(J:P.underlying q=some (.slice N))(M:P.info? N=some i)(I:i.zero=some z)(x:i.size=5)(F:i.bytes=64)(v:z.cells.size=5)
  (h:RS Γ0 w0 rd Γ σ w) (s:Stk B N Γ σ w m c g cap cs) (Y:w0.heap.size<=B) {nk sk lf:Int} {nm:List UInt8} {n:Value} {r:Nat} (U : σ.rw[r]?=some ⟨4,[],0,0,false⟩) (o:Rep Γ (.rs r 0 0 0 false) n) (K:r ∉ c) (d:zp (m.length+1) 64=true) (ty:TypeId) :
  ∃ t w',(Builtin.append_ #[q,q] ty #[.slice (some ⟨g,0,none⟩) m.length cap,.slice (some ⟨w.heap.size,0,none⟩) 1 1]).run P (w.alloc (.cells #[.int .i64 nk,.string ⟨nm.toArray⟩,.int .i64 sk,n,.int .i64 lf] N)) = .ok t w' /\
  ∃ l a,t = .slice (some ⟨l,0,none⟩) ((m.length+1:Nat)) a/\RS Γ0 w0 rd Γ σ w'/\Stk B N Γ σ w' (m++[(.mk nk nm sk [],lf)]) (c++[r]) l a (cs++[.int .i64 nk,.string ⟨nm.toArray⟩,.int .i64 sk,n,.int .i64 lf]) /\
   w.heap.size<=w'.heap.size/\(∀ b,b<w.heap.size->b≠g->w'.heap[b]?=w.heap[b]?)/\(l=g\/w.heap.size<=l):=by
 have S:=s.own.alloc (.cells #[.int .i64 nk,.string ⟨nm.toArray⟩,.int .i64 sk,n,.int .i64 lf] N);have A:=of_decide_eq_true d;have V:=qcO s.own
 obtain⟨t,w',e1,X,p,H⟩:=qmn (P:=P) (w.alloc (.cells #[.int .i64 nk,.string ⟨nm.toArray⟩,.int .i64 sk,n,.int .i64 lf] N)) B q ty N i z 5 64 J M I x F v (by decide) _ m.length cs S ⟨w.heap.size,0,none⟩ 1 1 [.int .i64 nk,.string ⟨nm.toArray⟩,.int .i64 sk,n,.int .i64 lf] rfl
  (λ j u L=>by rw[qCO,World.cell?_alloc_mark];simpa using L) (λ u G=>by
   simp only[wx,xt,or_false]at G;rcases G with rfl | rfl | rfl | rfl | rfl<;>first | rfl | exact o.one rfl) (by unfold maxLen;omega) (by have:=A.1;omega) (by simp;omega)
 have E:=GxZ.run_drawn _ e1;have f:w.grownBy w' (some g):=⟨p.os,p.tape,p.output,by have:=p.size;simp at this;omega,λ k D C=>(p.block k (by simp;omega) C).trans (Below.heap_alloc _ _ _ D)⟩
 have W:=RS.grown h f (λ b e=>by cases e;exact⟨s.priv,by omega⟩) E;obtain⟨l,a,rfl,y⟩:=Stk.push (Γ := Γ) (σ := σ) s (r:=r) (R:=⟨4,[],0,0,false⟩) U rfl rfl rfl rfl o K X (H.imp id λ O k D=>qeD.new h.i (by have:=O k D;simp at this;omega));refine⟨_,w',e1,l,a,rfl,W,y,f.size,λ b Q C=>f.block b Q (λ e=>C (by cases e;rfl)),?_⟩;rcases H with e | e
 ·cases e;exact .inl rfl
 ·have:=e l rfl;simp at this;exact .inr (by omega)
theorem qM2{B N:Nat}(h:RS Γ0 w0 rd Γ σ w)(f:B<=w.heap.size){nk sk lf:Int}{nm:List UInt8}{a:Value}{r:Nat}(e : σ.rw[r]?=some ⟨4,[],0,0,false⟩)(c:Rep Γ (.rs r 0 0 0 false) a) :
  RS Γ0 w0 rd Γ σ (w.alloc (.cells #[.int .i64 nk,.string ⟨nm.toArray⟩,.int .i64 sk,a,.int .i64 lf] N))/\Stk B N Γ σ (w.alloc (.cells #[.int .i64 nk,.string ⟨nm.toArray⟩,.int .i64 sk,a,.int .i64 lf] N)) [(.mk nk nm sk [],lf)] [r] w.heap.size 1 [.int .i64 nk,.string ⟨nm.toArray⟩,.int .i64 sk,a,.int .i64 lf]:=by
 refine⟨h.alloc _,rfl,by simp,qeD.new h.i (wb _),World.ownsRow_lit w #[.int .i64 nk,.string ⟨nm.toArray⟩,.int .i64 sk,a,.int .i64 lf] 1 f (by decide) rfl,λ i t n g d b=>?_⟩;cases i with
 | succ i=>cases d
 | zero =>
   cases d;cases b;exact⟨_,a,e,rfl,rfl,rfl,rfl,c,rfl,rfl,rfl,rfl,rfl⟩
theorem Stk.id_lt{B N:Nat}{b:List (T × Int)}{a:List Nat}{g cap:Nat}{cs:List Value}(c:Stk B N Γ σ w b a g cap cs) : σ.rw.length ∉ a := λ h=>by
 obtain⟨i,d⟩:=vD.1 h;have e:i<b.length:=by rw[<- c.len];exact getElem?_lt d
 obtain⟨R,_,f,_⟩:=c.node i _ _ _ (List.getElem?_eq_getElem e) d;exact absurd (getElem?_lt f) (xQ _)
def qc6(Γ : Gh)(w:World)(b:Nat)(e:TypeId):Prop:=qeD Γ b/\b<w.heap.size/\w.heap[b]?=some (.cells #[.int .i64 0,.string ⟨#[]⟩,.int .i64 0,.slice none 0 0] e (0,0))
theorem qc6.cells{b:Nat}{e:TypeId}(h:qc6 Γ w b e):w.cell? ⟨b,0,none⟩=some (.int .i64 0)/\w.cell? ⟨b,1,none⟩=some (.string ⟨#[]⟩)/\w.cell? ⟨b,2,none⟩=some (.int .i64 0)/\w.cell? ⟨b,3,none⟩=some (.slice none 0 0)/\∀ i,w.frozen? ⟨b,i,none⟩=false:=by
 obtain⟨_,_,h⟩:=h;have a:=QQ h;exact⟨a 0,a 1,a 2,a 3,λ i=>frozen_of_row w b i _ _ h⟩
theorem qc6.ext{Γ':Gh}{w':World}{b:Nat}{e:TypeId}(h:qc6 Γ w b e)(d:Ext Γ w Γ' w'):qc6 Γ' w' b e :=
 let⟨a,c⟩:=h.1.ext d h.2.1;⟨a,wE h.2.1 d.size,c.trans h.2.2⟩
theorem qc6.same{w':World}{b:Nat}{e:TypeId}(h:qc6 Γ w b e)(a:w.heap.size<=w'.heap.size)(c:w'.heap[b]?=w.heap[b]?):qc6 Γ w' b e:=⟨h.1,wE h.2.1 a,c.trans h.2.2⟩
theorem Stk.drew{B N:Nat}{b:List (T × Int)}{a:List Nat}{g cap:Nat}{cs:List Value}(h:Stk B N Γ σ w b a g cap cs):Stk B N Γ σ w.drew b a g cap cs:=⟨h.len,h.nd,h.priv,ql5 h.own rfl,h.node⟩
theorem qc6.drew{b:Nat}{e:TypeId}(h:qc6 Γ w b e):qc6 Γ w.drew b e:=h
theorem RS.drew'(h:RS Γ0 w0 rd Γ σ w):RS Γ0 w0 rd Γ σ w.drew:=h.drew
end
end Go.AmZ
namespace Go.AmZ
open Go Go.GxZ
set_option linter.unusedVariables false
set_option maxRecDepth 100000
noncomputable section
abbrev Z1:=Option ((Unit) × ((Option ((Int) × (List (Int × (Int × (Y8 × Bool)))) × Unit)) × (Int) × Unit))
abbrev Z2:=Option ((((Int) × (List (Int × (Int × (Y8 × Bool)))) × Unit) × Unit) × ((Bool) × Unit))
abbrev Z3:=(Int) × (List (Int × (Int × (Y8 × Bool)))) × Unit
abbrev Z4:=Option (Bool)
abbrev Z5:=Int->Z4
abbrev Z6:=List UInt8
abbrev Z7:=Z6->Int->Int->Z4
abbrev Z8:=Y8->Z4
abbrev Z9:=Option (((Int) × (Int) × Unit) × ((Int) × Unit))
abbrev Z10:=T->Int->Int->Int->Z9
abbrev Z11:=List (T)
abbrev Z12:=Int->Z11->Int->Int->Int->Int->Z9
abbrev Z13:=Option (Int)
abbrev Z14:=T->Z13
abbrev Z15:=Option (Y8 × (Int × (Int × Int)))
abbrev Z16:=List (Y8 × (Int × (Int × Int)))
abbrev Z17:=Z6->Z16->Int->Int->Z6->Int->Int->Int->Z15
abbrev Z18:=Z11->Int->Int->Int->Z6->Int->Z11->Z13
abbrev Z19:=Z11->Int->Int->Z13
abbrev Z20:=Option (((Int) × (List (T)) × Unit) × (Unit))
abbrev Z21:=T->Int->Z11->Z20
abbrev Z22:=Z11->Int->Int->Int->Z11->Z20
abbrev Z23:=Int->Z11->Int->Int->Z13
abbrev Z24:=T->T->Z13
abbrev Z25:=Int->Int->Int->Z6->Int->Z11->Int->Z6->Int->Z11->Z13
abbrev Z26:=T->T->Z4
abbrev Z27:=Option (T)
abbrev Z28:=T->Z27
abbrev Z29:=Z11->Int->Int->Int->Z6->Int->Int->Z6->Int->Z11->Z11->Z27
abbrev Z30:=Option ((Unit) × ((List (T)) × Unit))
abbrev Z31:=Int->Int->Z11->Z30
abbrev Z32:=Option (TL)
abbrev Z33:=T->Z32
abbrev Z34:=(List (TL))->Int->(List (TL))->Int->Int->Z32
abbrev Z35:=(List (TL))->Int->Int->Z11->Z32
abbrev Z36:=Z11->Z11->Z11->Z32
abbrev Z37:=Z11->Z11->Int->Int->Z32
abbrev Z38:=Option ((T) × (Int))
abbrev Z39:=List (Int)
abbrev Z40:=Z39->Int->Int->Int->Z6->Int->Z11->Int->Z6->Int->Int->Z6->Int->Z11->Z11->Z38
abbrev Z41:=TL->Z32
abbrev Z42:=Z11->Int->Int->Z11->Z32
abbrev Z43:=Z11->Z11->Int->Int->Int->Z6->Int->Z11->Z38
abbrev Z44:=T->Z4
abbrev Z45:=Int->Int->Int->Z6->Int->Int->Z6->Int->Z11->Z11->Z27
abbrev Z46:=Option ((Int) × (Bool))
abbrev Z47:=List (T × Int)
abbrev Z48:=Z47->Int->Int->Int->Int->Z6->Int->Z11->Z46
abbrev Z49:=Option ((Unit) × ((List (T × Int)) × Unit))
abbrev Z50:=Option ((Unit) × ((List (T × Int)) × (Bool) × Unit))
abbrev Z51:=Z47->T->Int->Z50
abbrev Z52:=Int->Z11->Int->Int->Z47->Z50
abbrev Z53:=Option ((List (T × Int)) × (Int))
abbrev Z54:=T->Z53
abbrev Z55:=Z47->Z47->Int->Int->Z13
abbrev Z56:=Z47->Z13
abbrev Z57:=Y8->TL->Z27
abbrev Z58:=Z47->Int->Int->Int->Z6->Int->Z11->Z11->Z11->Z38
abbrev Z59:=Z47->Int->Int->Int->Int->Int->Z6->Int->Int->Z6->Int->Z11->Int->Z11->Z11->Z11->Z38
abbrev Z60:=Z47->Z38
abbrev Z61:=Z47->Int->Int->Z47->Z49
abbrev Z62:=Z47->Int->Int->Z13
abbrev Z63:=Z47->Int->Int->Z47->Z53
abbrev Z64:=Z47->Z47->Z53
abbrev Z65:=T->T->Z38
abbrev Z66:=T->Z38
abbrev Z67:=Z11->Int->Int->Int->Z6->Int->Z11->Int->Z6->Int->Int->Z6->Int->Z11->Z11->Z38
abbrev Z68:=Z11->Int->Int->Z4
abbrev Z69:=Option (((T) × Unit) × ((Bool) × Unit))
abbrev Z70:=Option (((T) × Unit) × ((Int) × Unit))
abbrev Z71:=(List (Y8 × (Int × Int)))->Int->Int->Int->Z6->Int->Z11->Z70
abbrev Z72:=Option (List (Y8 × (Int × Int)))
abbrev Z73:=Option ((Unit) × ((List (Int)) × Unit))
abbrev Z74:=Z39->T->Z73
abbrev Z75:=Z11->Int->Int->Z39->Z73
abbrev Z76:=Option ((Y8) × (Int))
abbrev Z77:=Option ((((Int) × (List (Int × (Int × (Y8 × Bool)))) × Unit) × Unit) × ((Int) × (Int) × Unit))
abbrev Z78:=Z6->Int->Int->Int->Int->Z13
abbrev Z79:=Y8->Z13
abbrev Z80:=Option (Y8)
abbrev Z81:=Z3->Int->Int->T->Z77
abbrev Z82:=Option ((((Int) × (List (Int × (Int × (Y8 × Bool)))) × Unit) × Unit) × ((Option Int) × (Int) × Unit))
abbrev Z83:=Option ((((Int) × (List (Int × (Int × (Y8 × Bool)))) × Unit) × Unit) × ((Int) × Unit))
abbrev Z84:=Z3->Int->Int->Int->Z83
abbrev Z85:=Option (((Y8 × (Int × Bool)) × Unit) × ((Int) × Unit))
abbrev Z86:=Y8 × (Int × Bool)
abbrev Z87:=Option (((Y8 × (Int × Bool)) × Unit) × ((Y8) × Unit))
abbrev Z88:=Int->Int->Int->Z6->Int->Bool->Z87
abbrev Z89:=Option (((Y8 × (Int × Bool)) × Unit) × (((Int) × (Y8) × (Int) × (List (T)) × (Int) × Unit) × Unit))
abbrev Z90:=Option ((T) × ((Int) × (Int)))
abbrev Z91:=Y8->Z90
abbrev Z92:=Option ((((Int) × (List (Int × (Int × (Y8 × Bool)))) × Unit) × Unit) × ((T) × (Int) × (Int) × Unit))
abbrev Z93:=Z3->Int->Z92
abbrev Z94:=Int->Int->Int->Z6->Int->Z11->Z13
abbrev Z95:=Int->Int->Z6->Int->Z11->Int->Z6->Int->Z11->Z13
abbrev Z96:=Z3->Int->Z77
abbrev Z97:=T->Int->Z13
abbrev Z98:=List (Int × (Int × (Int × (Int × (T × Int)))))
abbrev Z99:=Z98->Int->Z11->Z4
abbrev qOg:=Option ((Unit) × (((Int) × (List (Int × (Int × (Y8 × Bool)))) × Unit) × (Int) × Unit))
abbrev qL0:=Option ((((Int) × (List (Int × (Int × (Y8 × Bool)))) × Unit) × Unit) × ((Y8) × (Int) × Unit))
abbrev qNZ:=Z3->Int->qL0
abbrev qOt:=Z6->Int->Z4
abbrev qGJ:=Int->Int->Z6->Int->Z11->Z13
abbrev qOm:=Option (List (Y8 × (Int × (Int × Int))))
abbrev qOn:=Z6->Z16->Int->Z13
abbrev qO4:=Z16->Int->Int->Z6->Int->Z11->Z4
abbrev qNI:=Int->Int->Z6->Int->Z11->Z4
abbrev qPi:=Int->Int->Z6->Int->Z11->Z11->Z32
abbrev qOu:=Z11->Bool->Int->Int->Z6->Int->Z11->Z11->Z32
abbrev qGl:=Z11->Z11->Int->Z32
abbrev qOA:=Int->Z11->Int->Z11->Z32
abbrev qrF:=Option ((T) × (Bool))
abbrev qOf:=Z11->Int->Int->Z6->Int->Z11->Z13
abbrev qPn:=Z11->Int->Int->Z6->Int->Z11->Z4
abbrev qN4:=Z11->Int->Int->Z6->Int->Z11->Z11->Z32
abbrev qOy:=Z11->Int->Int->Z6->Int->Z11->Z32
abbrev qN8:=Z11->Z11->Int->Int->Z6->Int->Z11->Z38
abbrev qOD:=Int->Int->Int->Z6->Int->Z11->Z4
abbrev qN9:=Int->Bool->Int->Int->Z6->Int->Z11->Z47->Z47->Z49
abbrev qDp:=Z47->T->Int->Z49
abbrev qPq:=Int->Int->Int->Z6->Int->Z11->Z47->Z49
abbrev qG4:=Z47->Int->Z13
abbrev qn6:=Z47->Int->Z11->Z32
abbrev qnS:=Z47->Int->Int->Z11->Z32
abbrev qOx:=Z47->Int->Z47->Z53
abbrev qNH:=Int->Int->Z6->Int->Z11->Int->Z6->Int->Z11->Z11->Z38
abbrev qOz:=Z11->Int->Z4
abbrev qNQ:=Z6->(List (Y8))->Int->Z13
abbrev qGx:=T->Z80
abbrev qNL:=Z6->Int->Int->Z6->Int->Z11->Z80
abbrev qPd:=Z6->Int->Int->Int->Z13
abbrev qPr:=Z3->Int->Z83
abbrev quK:=Option ((((Int) × (List (Int × (Int × (Y8 × Bool)))) × Unit) × Unit) × ((List (Int)) × Unit))
abbrev qDC:=List (Int × (Int × (Y8 × Bool)))
abbrev qOL:=Int->Int->Int->Int->qDC->Z39->quK
abbrev qO6:=Z3->Int->quK
abbrev qsm:=Option ((T) × ((Int) × (Bool)))
abbrev qHc:=Z6->Int->Int->Int->Int->Z6->Int->Int->Z6->Int->Z11->Z11->qsm
abbrev qA0:=Y8->Int->qsm
abbrev qrg:=Option ((Int) × ((Int) × (Bool)))
abbrev qNP:=Z6->Int->Z6->Z16->Int->qrg
abbrev qOM:=Z39->Z39->Int->Int->Z4
abbrev qO5:=Int->Int->Int->qDC->Z39->quK
abbrev qNK:=Option ((((Int) × (List (Int × (Int × (Y8 × Bool)))) × Unit) × ((Int) × (List (Int × (Int × (Y8 × Bool)))) × Unit) × Unit) × ((Bool) × Unit))
abbrev qBa:=Option ((Unit) × ((Option ((Int) × (List (Int × (Int × (Y8 × Bool)))) × Unit)) × (Option ((Int) × (List (Int × (Int × (Y8 × Bool)))) × Unit)) × (Bool) × Unit))
abbrev qOj:=Z98->Int->Int->Int->Int->qDC->qDC->qBa
abbrev qLH:=Int->Bool->(List (Bool))->Int->Int->Int->qDC->Z4
abbrev qLv:=Int->Bool->(List (Bool))->Int->Int->Z4
def qiu(m:Nat)(a:Int):Z1 :=
 cond (ilt a 1) (some ((()),(none,7,()))) (cond (ilt 16 a) (some ((()),(none,7,()))) (some ((()),(some (a,[],()),0,()))))
def qjf:Nat->(Int->Z1):=qh (λ _=>none) λ m _=>qiu m
def qbb(m:Nat)(a:(Int) × (List (Int × (Int × (Y8 × Bool)))) × Unit)(b:Int):Z2 :=
 cond (ile 0 b) (some (((a.1,a.2.1,()),()),(ilt b a.1,()))) (some (((a.1,a.2.1,()),()),(false,())))
def QS:Nat->(Z3->Int->Z2):=qh (λ _ _=>none) λ m _=>qbb m
def qli(m:Nat)(a:Int):Z4 :=
 let d:Z4:=(let c:Z4:=(let b:Z4:=(cond (ieq a 95) (some true) (some (ieq a 35)));cond (ile 48 a) (cond (ile a 57) (some true) b) b);cond (ile 65 a) (cond (ile a 90) (some true) c) c);
 cond (ile 97 a) (cond (ile a 122) (some true) d) d
def qjr:Nat->Z5:=qh (λ _=>none) λ m _=>qli m
def qfb(m:Nat)(i:Z7)(a:Y8):Z4 :=
 cond (qx a []) (some false) (cond (ilt 24 a.length) (some false) (qa (qb a 0) λ h=>qa (qjr m ((UInt8.toNat h:Nat):Int)) λ g=>cond (qd g) (some false) (qa (qb a 0) λ f =>
 let b:Z4:=(qa (qb a 0) λ d=>cond (ieq ((UInt8.toNat d:Nat):Int) 95) (some false) (qa (qb a 0) λ c=>cond (ieq ((UInt8.toNat c:Nat):Int) 35) (some false) (i a a.length 0)));
 cond (ile 48 ((UInt8.toNat f:Nat):Int)) (qa (qb a 0) λ e=>cond (ile ((UInt8.toNat e:Nat):Int) 57) (some false) b) b)))
def qfr(m:Nat)(f:Z7)(c:Y8)(b a:Int):Z4 :=
 cond (ilt a b) (qa (qb c a) λ e=>qa (qjr m ((UInt8.toNat e:Nat):Int)) λ d=>cond (qd d) (some false) (f c b (iw .i64 (qe a 1)))) (some true)
def QE(m:Nat):=qJ (λ _ _ _=>none) λ a=>qfr m a
def qdZ:Nat->Z8:=qh (λ _=>none) λ m _=>qfb m (QE m m)
def qgr(m:Nat)(b:Z10)(i:Z12)(a:T)(d f e:Int):Z9 :=
 let g:Z9:=(qa (qdZ m a.name) λ h=>cond (qd h) (some ((iw .i64 (qe f 1),qnZ e d,()),(2,()))) (cond (ilt 8 a.kids.length) (some ((iw .i64 (qe f 1),qnZ e d,()),(3,())))
 (i d a.kids a.kids.length 0 (iw .i64 (qe f 1)) (qnZ e d))));let c:Z9:=(some ((iw .i64 (qe f 1),qnZ e d,()),(1,())));let j3:Z9 :=
 (cond (ilt a.sort 0) c (cond (ilt 5 a.sort) c (cond (ilt 0 a.kids.length) c g)));cond (ieq a.kind 1) j3 (cond (ieq a.kind 2) j3 (cond (ieq a.kind 3) (cond (qd (ieq a.sort 0)) c g) c))
def qgq(m:Nat)(a:Z10)(j:Z12)(h:Int)(g:TL)(f c e d:Int):Z9 :=
 cond (ilt c f) (qa (qb g c) λ i=>qa (a (re i) (iw .i64 (qe h 1)) e d) λ b=>cond (qd (ieq b.2.1 0)) (some ((b.1.1,b.1.2.1,()),(b.2.1,())))
 (j h g f (iw .i64 (qe c 1)) b.1.1 b.1.2.1)) (some ((e,d,()),(0,())))
def jJ(m:Nat)(a:Z10):=qJ (λ _ _ _ _ _ _=>none) λ b=>qgq m a b
def yf:Nat->Z10:=qh (λ _ _ _ _=>none) λ m a=>qgr m a (jJ m a m)
def qjR(m:Nat)(b:T):Z13 :=
 qa (yf m (re b) 1 0 0) λ a=>cond (qd (ieq a.2.1 0)) (some a.2.1) (cond (ilt 400 a.1.1) (some 3) (cond (ilt 40 a.1.2.1) (some 3) (some 0)))
def yH:Nat->Z14:=qh (λ _=>none) λ m _=>qjR m
def qdj(m:Nat)(c:Z17)(b:Y8):Z15 :=
 qa (qiQ 0) λ a=>c b a a.length 0 [] 0 0 0
def qdI(m:Nat)(j:Z17)(e:Y8)(d:List (Y8 × (Int × (Int × Int))))(c b:Int)(i:Y8)(h g f:Int):Z15 :=
 cond (ilt b c) (qa (qb d b) λ a=>cond (qx a.1 e) (some (a.1,(a.2.1,(a.2.2.1,a.2.2.2)))) (j e d c (iw .i64 (qe b 1)) i h g f)) (some ([],(0,(0,0))))
def Je(m:Nat):=qJ (λ _ _ _ _ _ _ _ _=>none) λ a=>qdI m a
def qdP:Nat->(Y8->Z15):=qh (λ _=>none) λ m _=>qdj m (Je m m)
def qez(m:Nat)(b:Z14)(e:Z18)(d:Z19)(a:T):Z13 :=
 cond (qd (ieq a.kind 3)) (some 0) (qa (qdP m a.name) λ c=>cond (ieq c.2.2.2 0) (some 10) (cond (ilt a.kids.length c.2.1) (some 6) (cond (ilt c.2.2.1 a.kids.length) (some 6)
 (cond (qx a.name [115,107]) (e a.kids a.kids.length 0 a.kind a.name a.sort a.kids) (cond (qx a.name [115,104,107]) (e a.kids a.kids.length 0 a.kind a.name a.sort a.kids)
 (cond (qx a.name [110,101,119]) (qa (qb a.kids 0) λ f=>cond (qd (ieq f.kind 2)) (some 10) (d a.kids a.kids.length 0)) (d a.kids a.kids.length 0)))))))
def qew(m:Nat)(a:Z14)(k:Z18)(j:Z19)(e:TL)(d c i:Int)(h:Y8)(g:Int)(b:TL):Z13 :=
 cond (ilt c d) (qa (qb e c) λ f=>cond (ieq f.kind 3) (some 10) (cond (qd (ieq f.sort 1)) (some 10) (k e d (iw .i64 (qe c 1)) i h g b))) (j b b.length 0)
def qeB(m:Nat)(a:Z14)(h:Z18)(g:Z19)(d:TL)(c b:Int):Z13 :=
 cond (ilt b c) (qa (qb d b) λ f=>qa (a (re f)) λ e=>cond (qd (ieq e 0)) (some e) (g d c (iw .i64 (qe b 1)))) (some 0)
def qV(m:Nat)(a:Z14):=qJ ((λ _ _ _ _ _ _ _=>none,λ _ _ _=>none)) λ b=>(qew m a b.1 b.2,qeB m a b.1 b.2)
def qD:Nat->Z14:=qh (λ _=>none) λ m a=>qez m a (qV m a m).1 (qV m a m).2
def qhs(m:Nat)(b:T):Z13 :=
 qa (yH m (re b)) λ a=>cond (qd (ieq a 0)) (some a) (qa (qD m (re b)) λ c=>some c)
def qeT:Nat->Z14:=qh (λ _=>none) λ m _=>qhs m
def qbI(m:Nat)(c:T)(b:Int)(a:TL):Z20 :=
 cond (ieq c.kind b) (cond (zp (List.length a+1) 56) (qa (qb (a++[T.mk 0 [] 0 []]) a.length) λ d=>some ((b,yn (a++[T.mk 0 [] 0 []]) a.length (re c),()),(()))) none)
 (some ((b,a,()),(())))
def qaI:Nat->Z21:=qh (λ _ _ _=>none) λ m _=>qbI m
def qbw(m:Nat)(a:Z21)(f:Z22)(d:T)(c:Int)(b:TL):Z20 :=
 qa (qaI m (re d) c b) λ e=>f d.kids d.kids.length 0 e.1.1 e.1.2.1
def qby(m:Nat)(a:Z21)(i:Z22)(f:TL)(e b d:Int)(c:TL):Z20 :=
 cond (ilt b e) (qa (qb f b) λ h=>qa (a (re h) d c) λ g=>i f e (iw .i64 (qe b 1)) g.1.1 g.1.2.1) (some ((d,c,()),(())))
def Qa(m:Nat)(a:Z21):=qJ (λ _ _ _ _ _=>none) λ b=>qby m a b
def zK:Nat->Z21:=qh (λ _ _ _=>none) λ m a=>qbw m a (Qa m a m)
def qlS(m:Nat)(b a:Int):Z13 :=
 cond (ilt b a) (some (-1)) (cond (ilt a b) (some 1) (some 0))
def qeX:Nat->(Int->Int->Z13):=qh (λ _ _=>none) λ m _=>qlS m
def qhJ(m:Nat)(a:Z14)(c:Z23)(b:T):Z13 :=
 c 1 b.kids b.kids.length 0
def qh6(m:Nat)(a:Z14)(h:Z23)(e:Int)(d:TL)(c b:Int):Z13 :=
 cond (ilt b c) (qa (qb d b) λ g=>qa (a (re g)) λ f=>h (iw .i64 (qe e f)) d c (iw .i64 (qe b 1))) (some e)
def qck(m:Nat)(a:Z14):=qJ (λ _ _ _ _=>none) λ b=>qh6 m a b
def Qk:Nat->Z14:=qh (λ _=>none) λ m a=>qhJ m a (qck m a m)
def qes(m:Nat)(c:Z24)(e:Z25)(b a:T):Z13 :=
 qa (Qk m (re b)) λ n=>qa (Qk m (re a)) λ l=>qa (qeX m n l) λ d=>let j1:Z13:=(qa (qeX m b.kids.length a.kids.length) λ k =>
 e k 0 b.kind b.name b.sort b.kids a.kind a.name a.sort a.kids);let h:Z13:=(qa (qeX m b.sort a.sort) λ i =>
 cond (ieq i 0) j1 (e i 0 b.kind b.name b.sort b.kids a.kind a.name a.sort a.kids));let j:Z13:=(qa (strings_Compare 0 b.name a.name) λ g =>
 cond (ieq g 0) h (cond (ieq g 0) j1 (e g 0 b.kind b.name b.sort b.kids a.kind a.name a.sort a.kids)));cond (ieq d 0) (qa (qeX m b.kind a.kind) λ f =>
 cond (ieq f 0) j (cond (ieq f 0) h (cond (ieq f 0) j1 (e f 0 b.kind b.name b.sort b.kids a.kind a.name a.sort a.kids))))
 (cond (ieq d 0) j (cond (ieq d 0) h (cond (ieq d 0) j1 (e d 0 b.kind b.name b.sort b.kids a.kind a.name a.sort a.kids))))
def qbW(m:Nat)(a:Z24)(p:Z25)(d b k:Int)(j:Y8)(i:Int)(c:TL)(h:Int)(g:Y8)(f:Int)(e:TL):Z13 :=
 cond (ieq d 0) (cond (ilt b c.length) (qa (qb c b) λ o=>qa (qb e b) λ n=>qa (a (re o) (re n)) λ l=>p l (iw .i64 (qe b 1)) k j i c h g f e) (some d))
 (some d)
def Qd(m:Nat)(a:Z24):=qJ (λ _ _ _ _ _ _ _ _ _ _=>none) λ b=>qbW m a b
def qA:Nat->Z24:=qh (λ _ _=>none) λ m a=>qes m a (Qd m a m)
def zb:Nat->TL->Option (TL):=qh (λ _=>none) λ m _=>qsJ (qA m)
def qfW(m:Nat)(c b:T):Z4 :=
 qa (qA m (re c) (re b)) λ a=>some (ieq a 0)
def jf:Nat->Z26:=qh (λ _ _=>none) λ m _=>qfW m
def qI:Nat->TL->Option (Unit × TL × Unit):=qh (λ _=>none) λ m _=>qvJ (jf m)
def qgy(m:Nat)(a:Z28)(c:Z29)(b:T):Z27 :=
 c b.kids b.kids.length 0 b.kind b.name b.sort 0 [] 0 [] []
def qgl(m:Nat)(a:Z28)(p:Z29)(i:TL)(h c g:Int)(f:Y8)(e l:Int)(k:Y8)(j:Int)(b d:TL):Z27 :=
 cond (ilt c h) (qa (qb i c) λ o=>qa (a (re o)) λ n=>cond (zp (List.length b+1) 56) (p i h (iw .i64 (qe c 1)) g f e l k j (b++[re n]) d) none)
 (some (T.mk g f e b))
def qbd(m:Nat)(a:Z28):=qJ (λ _ _ _ _ _ _ _ _ _ _ _=>none) λ b=>qgl m a b
def jz:Nat->Z28:=qh (λ _=>none) λ m a=>qgy m a (qbd m a m)
def qeC(m:Nat)(d:Z31)(c:TL):Z30 :=
 qa (zb m c) λ b=>cond (Nat.beq b.length c.length) (qa (qI m b) λ a=>d a.2.1.length 0 a.2.1) none
def qeu(m:Nat)(f:Z31)(c a:Int)(b:TL):Z30 :=
 cond (ilt a c) (qa (qb b a) λ e=>qa (jz m (re e)) λ d=>qa (qb b a) λ g=>f c (iw .i64 (qe a 1)) (yn b a (re d))) (some ((()),(b,())))
def J2(m:Nat):=qJ (λ _ _ _=>none) λ a=>qeu m a
def qhV:Nat->(Z11->Z30):=qh (λ _=>none) λ m _=>qeC m (J2 m m)
def qiI(m:Nat)(d:T)(c:Int):Z32 :=
 qa (zK m (re d) c []) λ b=>qa (qhV m b.1.2.1) λ a=>some a.2.1
def qnN:Nat->(T->Int->Z32):=qh (λ _ _=>none) λ m _=>qiI m
def qlK(m:Nat)(b:T):Z32 :=
 qa (qnN m (re b) 1) λ a=>some a
def qnD:Nat->Z33:=qh (λ _=>none) λ m _=>qlK m
def qir(m:Nat)(c b:T):Z4 :=
 qa (qA m (re c) (re b)) λ a=>some (ieq a 0)
def J7:Nat->Z26:=qh (λ _ _=>none) λ m _=>qir m
def qlW(m:Nat)(a:T)(b:Y8):Z4 :=
 cond (ieq a.kind 3) (some (qx a.name b)) (some false)
def jv:Nat->(T->Y8->Z4):=qh (λ _ _=>none) λ m _=>qlW m
def qfY(m:Nat)(b:T):Z27 :=
 qa (qb b.kids 0) λ a=>let j1:Z27:=(some (re b));let j2:Z27:=(qa (qb a.kids 0) λ I=>some (re I));let j3:Z27:=(cond (qx b.name [114,101,97,100])
 (qa (jv m (re a) [115,105,103,110]) λ p=>cond p j2 j1) j1);let j4:Z27:=(qa (jv m (re a) [112,97,105,114]) λ G=>cond G (qa (qb a.kids 1) λ F=>some (re F)) j1);
 let B:Z27:=(qa (jv m (re a) [112,97,105,114]) λ J=>cond J j2 j1);cond (ilt 1 b.kids.length) (qa (qb b.kids 1) λ c =>
 cond (qx b.name [102,115,116]) B (cond (qx b.name [115,110,100]) j4 (cond (qx b.name [100,101,99]) (qa (jv m (re a) [101,110,99]) λ E=>cond E (qa (qb a.kids 1) λ D =>
 qa (J7 m (re D) (re c)) λ C=>cond C j2 j1) j1) (cond (qx b.name [97,100,101,99]) (qa (jv m (re a) [97,101,110,99]) λ A=>cond A (qa (qb a.kids 1) λ z =>
 qa (jv m (re z) [112,107]) λ y=>cond y (qa (qb a.kids 1) λ x=>qa (qb x.kids 0) λ w=>qa (J7 m (re w) (re c)) λ v=>cond v j2 j1) j1) j1)
 (cond (qx b.name [111,112,101,110]) (qa (jv m (re a) [115,105,103,110]) λ u=>cond u (qa (jv m (re c) [112,107]) λ t=>cond t (qa (qb a.kids 1) λ s =>
 qa (qb c.kids 0) λ r=>qa (J7 m (re s) (re r)) λ q=>cond q j2 j1) j1) j1) j3)))))
 (cond (qx b.name [102,115,116]) B (cond (qx b.name [115,110,100]) j4 (cond (qx b.name [100,101,99]) (qa (jv m (re a) [101,110,99]) λ o=>cond o (qa (qb a.kids 1) λ n =>
 qa (J7 m (re n) (T.mk 0 [] 0 [])) λ l=>cond l j2 j1) j1) (cond (qx b.name [97,100,101,99]) (qa (jv m (re a) [97,101,110,99]) λ k =>
 cond k (qa (qb a.kids 1) λ j=>qa (jv m (re j) [112,107]) λ i=>cond i (qa (qb a.kids 1) λ h=>qa (qb h.kids 0) λ g=>qa (J7 m (re g)
 (T.mk 0 [] 0 [])) λ f=>cond f j2 j1) j1) j1) (cond (qx b.name [111,112,101,110]) (qa (jv m (re a) [115,105,103,110]) λ e =>
 cond e (qa (jv m (T.mk 0 [] 0 []) [112,107]) λ d=>cond d (qa (qb a.kids 1) λ H=>none) j1) j1) j3)))))
def qc8:Nat->Z28:=qh (λ _=>none) λ m _=>qfY m
def jb(m:Nat)(b:Z34)(c:Z35)(a:List TL):Z32 :=
 b a 0 a a.length 0
def yZ(m:Nat)(i:Z34)(h:Z35)(c:List (TL))(b:Int)(e:List (TL))(d a:Int):Z32 :=
 cond (ilt a d) (qa (qb e a) λ f=>cond (ilt (iw .i64 (qe b f.length)) 0) none (i c (iw .i64 (qe b f.length)) e d (iw .i64 (qe a 1)))) (qa (yT 0 b) λ g =>
 h c c.length 0 g.2.1)
def jc(m:Nat)(g:Z34)(f:Z35)(d:List (TL))(c b:Int)(a:TL):Z32 :=
 cond (ilt b c) (qa (qb d b) λ e=>cond (zp (List.length a+List.length e) 56) (f d c (iw .i64 (qe b 1)) (a++e)) none) (some a)
def qn(m:Nat):=qJ ((λ _ _ _ _ _=>none,λ _ _ _ _=>none)) λ a=>(yZ m a.1 a.2,jc m a.1 a.2)
def zQ:Nat->((List TL)->Z32):=qh (λ _=>none) λ m _=>jb m (qn m m).1 (qn m m).2
def qhT(m:Nat)(d:Z19)(b c:TL):Z13 :=
 cond (ilt 200 b.length) (some 3) (qa (zQ m [b,c]) λ a=>d a a.length 0)
def qhq(m:Nat)(f:Z19)(c:TL)(b a:Int):Z13 :=
 cond (ilt a b) (qa (qb c a) λ e=>qa (yH m (re e)) λ d=>cond (qd (ieq d 0)) (some d) (f c b (iw .i64 (qe a 1)))) (some 0)
def qcd(m:Nat):=qJ (λ _ _ _=>none) λ a=>qhq m a
def qm0:Nat->(TL->TL->Z13):=qh (λ _ _=>none) λ m _=>qhT m (qcd m m)
def qi4(m:Nat)(c:Z36)(b a:TL):Z32 :=
 c b a []
def qji(m:Nat)(d:Z36)(a b c:TL):Z32 :=
 let f:Z32:=(cond (zp (List.length c+List.length a) 56) (cond (zp (List.length (c++a)+List.length b) 56) (some ((c++a)++b)) none) none);cond (ilt 0 a.length) (cond (ilt 0 b.length)
 (qa (qb a 0) λ j=>qa (qb b 0) λ i=>qa (qA m (re j) (re i)) λ e=>cond (ilt e 0) (qa (qb a 0) λ h=>cond (zp (List.length c+1) 56) (cond (inb a.length a.length)
 (cond (inb 1 (Int.toNat a.length)) (d (QM a 1 a.length) b (c++[re h])) none) none) none) (cond (ilt 0 e) (qa (qb b 0) λ g=>cond (zp (List.length c+1) 56) (cond (inb b.length b.length)
 (cond (inb 1 (Int.toNat b.length)) (d a (QM b 1 b.length) (c++[re g])) none) none) none) (cond (inb a.length a.length) (cond (inb 1 (Int.toNat a.length)) (cond (inb b.length b.length)
 (cond (inb 1 (Int.toNat b.length)) (d (QM a 1 a.length) (QM b 1 b.length) c) none) none) none) none))) f) f
def qdf(m:Nat):=qJ (λ _ _ _=>none) λ a=>qji m a
def qlQ:Nat->(TL->TL->Z32):=qh (λ _ _=>none) λ m _=>qi4 m (qdf m m)
def qep(m:Nat)(a:Z33)(d:Z37)(b:T):Z32 :=
 let c:Z32:=(cond (ieq b.kind 3) (cond (qx b.name [120,111,114]) (d [] b.kids b.kids.length 0) (some [re b])) (some [re b]));cond (ieq b.kind 3) (cond (qx b.name [122,101,114,111])
 (cond (ieq b.kids.length 0) (some []) c) c) c
def qev(m:Nat)(a:Z33)(i:Z37)(e d:TL)(c b:Int):Z32 :=
 cond (ilt b c) (qa (qb d b) λ h=>qa (a (re h)) λ g=>qa (qlQ m e g) λ f=>i f d c (iw .i64 (qe b 1))) (some e)
def QR(m:Nat)(a:Z33):=qJ (λ _ _ _ _=>none) λ b=>qev m a b
def yF:Nat->Z33:=qh (λ _=>none) λ m a=>qep m a (QR m a m)
def qeq(m:Nat)(e:Z40)(d:T)(c:List Int)(b:T):Z38 :=
 qa (jz m (re d)) λ a=>e c c.length 0 b.kind b.name b.sort b.kids 0 [] 0 a.kind a.name a.sort a.kids []
def qhh(m:Nat)(t:Z40)(n:List (Int))(l c g:Int)(f:Y8)(e:Int)(d:TL)(r:Int)(q:Y8)(p k:Int)(j:Y8)(i:Int)(a h:TL):Z38 :=
 cond (ilt c l) (qa (qb n c) λ b=>cond (ilt b 0) (some (T.mk 0 [] 0 [],7)) (cond (ile a.length b) (some (T.mk 0 [] 0 [],7)) (qa (qb a b) λ s=>none)))
 (qa (jz m (T.mk g f e d)) λ o=>some (re o,0))
def qa0(m:Nat):=qJ (λ _ _ _ _ _ _ _ _ _ _ _ _ _ _ _=>none) λ a=>qhh m a
def qhz:Nat->(T->(List Int)->T->Z38):=qh (λ _ _ _=>none) λ m _=>qeq m (qa0 m m)
def qkG(m:Nat)(a:Z41)(c:Z42)(b:TL):Z32 :=
 cond (qGU b.length 56) (c b b.length 0 (List.replicate (Int.toNat b.length) (T.mk 0 [] 0 []):TL)) none
def qkC(m:Nat)(b:Z41)(k:Z42)(h:TL)(g a:Int)(d:TL):Z32 :=
 cond (ilt a g) (qa (qb h a) λ f=>qa (qhz m (re f) [] (re f)) λ e=>qa (qb d a) λ l=>qa (b f.kids) λ j=>qa (qb (yn d a (re e.1)) a) λ c =>
 cond (ieq f.kids.length 0) (qa (qb (yn (yn d a (re e.1)) a (T.mk c.kind c.name c.sort j)) a) λ i=>k h g (iw .i64 (qe a 1))
 (yn (yn (yn d a (re e.1)) a (T.mk c.kind c.name c.sort j)) a (T.mk i.kind i.name i.sort []))) (k h g (iw .i64 (qe a 1)) (yn (yn d a (re e.1)) a (T.mk c.kind c.name c.sort j))))
 (some d)
def qe4(m:Nat)(a:Z41):=qJ (λ _ _ _ _=>none) λ b=>qkC m a b
def qao:Nat->Z41:=qh (λ _=>none) λ m a=>qkG m a (qe4 m a m)
def qkT(m:Nat)(c:Z43)(a:TL):Z38 :=
 qa (qm0 m a []) λ b=>cond (qd (ieq b 0)) (some (T.mk 0 [] 0 [],b)) (c [] a a.length 0 0 [] 0 [])
def qkE(m:Nat)(r:Z43)(e d:TL)(c b j:Int)(i:Y8)(h:Int)(g:TL):Z38 :=
 cond (ilt b c) (qa (qb d b) λ q=>qa (yF m (re q)) λ p=>qa (qlQ m e p) λ o=>r o d c (iw .i64 (qe b 1)) j i h g) (qa (qao m e) λ a=>let j1:Z38 :=
 (some (T.mk 0 [] 0 [],3));cond (ieq a.length 0) (qa (yH m (T.mk 3 [122,101,114,111] 0 [])) λ n=>cond (qd (ieq n 0)) j1 (some (T.mk 3 [122,101,114,111] 0 [],0))) (cond (ieq a.length 1)
 (qa (qb a 0) λ f=>qa (yH m (re f)) λ l=>cond (qd (ieq l 0)) j1 (some (re f,0))) (qa (yH m (T.mk 3 [120,111,114] 0 a)) λ k =>
 cond (qd (ieq k 0)) j1 (some (T.mk 3 [120,111,114] 0 a,0)))))
def qeH(m:Nat):=qJ (λ _ _ _ _ _ _ _ _=>none) λ a=>qkE m a
def qsF:Nat->(TL->Z38):=qh (λ _=>none) λ m _=>qkT m (qeH m m)
def qeG(m:Nat)(a:T):Z4 :=
 cond (ieq a.kind 3) (cond (qx a.name [109,117,108]) (some true) (cond (qx a.name [105,110,118]) (some true) (some (qx a.name [111,110,101])))) (some false)
def qb9:Nat->Z44:=qh (λ _=>none) λ m _=>qeG m
def qcD(m:Nat)(a:Z28)(d:Z45)(b:T):Z27 :=
 qa (ya 0 b.kids) λ c=>d c.2.1.length 0 b.kind b.name b.sort 0 [] 0 c.2.1 []
def qcN(m:Nat)(a:Z28)(o:Z45)(g b f:Int)(e:Y8)(d k:Int)(j:Y8)(i:Int)(c h:TL):Z27 :=
 cond (ilt b g) (qa (qb c b) λ n=>qa (a (re n)) λ l=>qa (qb c b) λ p=>o g (iw .i64 (qe b 1)) f e d k j i (yn c b (re l)) h) (some (T.mk f e d c))
def QJ(m:Nat)(a:Z28):=qJ (λ _ _ _ _ _ _ _ _ _ _=>none) λ b=>qcN m a b
def zw:Nat->Z28:=qh (λ _=>none) λ m a=>qcD m a (QJ m a m)
def qdz(m:Nat)(c:T × Int)(b:T):Z13 :=
 qa (qA m (re c.1) (re b)) λ a=>some a
def qaD:Nat->((T × Int)->T->Z13):=qh (λ _ _=>none) λ m _=>qdz m
def qE(m:Nat)(c:Z48)(b:List (T × Int))(a:T):Z46 :=
 c b b.length 0 b.length a.kind a.name a.sort a.kids
def qF(m:Nat)(k:Z48)(g:List (T × Int))(h a b f:Int)(e:Y8)(d:Int)(c:TL):Z46 :=
 cond (ilt a b) (qa (qb g (iw .i64 (qbG .u64 (iw .u64 (iw .i64 (qe a b))) 1))) λ j=>qa (qaD m (re j.1,j.2) (T.mk f e d c)) λ n=>cond (ilt n 0)
 (k g h (iw .i64 (qe (iw .i64 (qbG .u64 (iw .u64 (iw .i64 (qe a b))) 1)) 1)) b f e d c) (k g h a (iw .i64 (qbG .u64 (iw .u64 (iw .i64 (qe a b))) 1)) f e d c)) (cond (ilt a h)
 (qa (qb g a) λ i=>qa (qaD m (re i.1,i.2) (T.mk f e d c)) λ l=>some (a,ieq l 0)) (some (a,false)))
def qs(m:Nat):=qJ (λ _ _ _ _ _ _ _ _=>none) λ a=>qF m a
def qK:Nat->(Z47->T->Z46):=qh (λ _ _=>none) λ m _=>qE m (qs m m)
def qeL(m:Nat)(b:List (T × Int))(c:T × Int):Z49 :=
 qa (qK m b (re c.1)) λ a=>cond (qd a.2) (qa (zw m (re c.1)) λ i =>
 qa (zy 0 b a.1 [(re i,c.2)]) λ h=>some ((()),(h.2.1,()))) (qa (qb b a.1) λ e=>qa (qb b a.1) λ d =>
 qa (qb (yn b a.1 (re d.1,iw .i64 (qe e.2 c.2))) a.1) λ g=>cond (ieq g.2 0)
 (qa (zC 0 (yn b a.1 (re d.1,iw .i64 (qe e.2 c.2))) a.1 (iw .i64 (qe a.1 1))) λ f=>some ((()),(f.2.1,())))
 (some ((()),(yn b a.1 (re d.1,iw .i64 (qe e.2 c.2)),()))))
def qbX:Nat->(Z47->(T × Int)->Z49):=qh (λ _ _=>none) λ m _=>qeL m
def qbv(m:Nat)(a:Z51)(h:Z52)(e:List (T × Int))(b:T)(d:Int):Z50 :=
 qa (qb9 m (re b)) λ j=>cond (qd j) (qa (qbX m e (re b,d)) λ i=>some ((()),(i.2.1,true,()))) (let c:Z50:=(some ((()),([],false,())));let j2:Z50 :=
 (let g:Z50:=(let f:Z50:=(cond (qx b.name [105,110,118]) (h (iw .i64 (zq 0 d)) b.kids b.kids.length 0 e) (h d b.kids b.kids.length 0 e));cond (qx b.name [109,117,108])
 (cond (ilt b.kids.length 2) c f) f);cond (qx b.name [105,110,118]) (cond (qd (ieq b.kids.length 1)) c g) g);cond (qx b.name [111,110,101]) (cond (qd (ieq b.kids.length 0)) c j2) j2)
def qbx(m:Nat)(a:Z51)(i:Z52)(f:Int)(e:TL)(d b:Int)(c:List (T × Int)):Z50 :=
 cond (ilt b d) (qa (qb e b) λ h=>qa (a c (re h) f) λ g=>cond (qd g.2.2.1) (some ((()),([],false,()))) (i f e d (iw .i64 (qe b 1)) g.2.1))
 (some ((()),(c,true,())))
def js(m:Nat)(a:Z51):=qJ (λ _ _ _ _ _=>none) λ b=>qbx m a b
def zr:Nat->Z51:=qh (λ _ _ _=>none) λ m a=>qbv m a (js m a m)
def qiX(m:Nat)(c:T):Z53 :=
 qa (yH m (re c)) λ b=>cond (qd (ieq b 0)) (some ([],b)) (qa (zr m [] (re c) 1) λ a=>cond (qd a.2.2.1) (some ([],6)) (cond (ilt 200 a.2.1.length) (some ([],3))
 (some (a.2.1,0))))
def qcb:Nat->Z54:=qh (λ _=>none) λ m _=>qiX m
def qcA(m:Nat)(b:Z55)(a:List (T × Int)):Z13 :=
 cond (ilt 200 a.length) (some 3) (b a a a.length 0)
def qcL(m:Nat)(g:Z55)(e d:List (T × Int))(c a:Int):Z13 :=
 cond (ilt a c) (qa (qb d a) λ b=>qa (yH m (re b.1)) λ f=>cond (qd (ieq f 0)) (some f) (qa (qb9 m (re b.1)) λ j=>cond j (some 1) (cond (ieq b.2 0) (some 7)
 (cond (ilt b.2 (-1000)) (some 7) (cond (ilt 1000 b.2) (some 7) (cond (ilt 0 a) (qa (qb e (iw .i64 (zq a 1))) λ i=>qa (qA m (re i.1) (re b.1)) λ h=>cond (ile 0 h) (some 5)
 (g e d c (iw .i64 (qe a 1)))) (g e d c (iw .i64 (qe a 1))))))))) (some 0)
def jZ(m:Nat):=qJ (λ _ _ _ _=>none) λ a=>qcL m a
def qaZ:Nat->Z56:=qh (λ _=>none) λ m _=>qcA m (jZ m m)
def qvZ(m:Nat)(b:Y8)(a:TL):Z27 :=
 some (T.mk 3 b 0 a)
def qeN:Nat->Z57:=qh (λ _ _=>none) λ m _=>qvZ m
def qdo(m:Nat)(c:Z58)(e d:Z59)(a:List (T × Int)):Z38 :=
 qa (qaZ m a) λ b=>cond (qd (ieq b 0)) (some (T.mk 0 [] 0 [],b)) (c a a.length 0 0 [] 0 [] [] [])
def qdF(m:Nat)(v:Z58)(t u:Z59)(h:List (T × Int))(g c s:Int)(r:Y8)(q:Int)(p f e:TL):Z38 :=
 let d:Z38:=(some (T.mk 0 [] 0 [],3));cond (ilt c g) (qa (qb h c) λ a =>
 cond (ilt 8 a.2) d (cond (ilt a.2 (-8)) d (t h g c a.2 0 s r q a.1.kind a.1.name a.1.sort a.1.kids a.2 p f e))) (qa (zQ m [f,e]) λ b =>
 cond (ilt 8 b.length) d (qa (qeN m [109,117,108] b) λ o=>cond (ieq b.length 0) (qa (qeN m [111,110,101] []) λ n=>qa (yH m (re n)) λ l=>cond (qd (ieq l 0))
 (some (T.mk 0 [] 0 [],l)) (some (re n,0))) (cond (ieq b.length 1) (qa (qb b 0) λ k=>qa (yH m (re k)) λ j=>cond (qd (ieq j 0)) (some (T.mk 0 [] 0 [],j)) (some (re k,0)))
 (qa (yH m (re o)) λ i=>cond (qd (ieq i 0)) (some (T.mk 0 [] 0 [],i)) (some (re o,0))))))
def qdg(m:Nat)(u:Z58)(t s:Z59)(q:List (T × Int))(p o n l k:Int)(j:Y8)(i h:Int)(g:Y8)(d:Int)(c:TL)(b:Int)(f a e:TL):Z38 :=
 cond (ilt l n) (qa (zw m (T.mk h g d c)) λ r=>cond (zp (List.length a+1) 56) (t q p o n (iw .i64 (qe l 1)) k j i h g d c b f (a++[re r]) e) none)
 (s q p o (iw .i64 (zq 0 b)) 0 k j i h g d c b f a e)
def qdn(m:Nat)(u:Z58)(v t:Z59)(q:List (T × Int))(p o n l k:Int)(j:Y8)(i h:Int)(g:Y8)(e:Int)(d:TL)(f:Int)(c b a:TL):Z38 :=
 cond (ilt l n) (qa (zw m (T.mk h g e d)) λ s=>qa (qeN m [105,110,118] [re s]) λ r=>cond (zp (List.length a+1) 56)
 (t q p o n (iw .i64 (qe l 1)) k j i h g e d f c b (a++[re r])) none) (u q p (iw .i64 (qe o 1)) k j i c b a)
def qz(m:Nat):=qJ ((λ _ _ _ _ _ _ _ _ _=>none,λ _ _ _ _ _ _ _ _ _ _ _ _ _ _ _ _=>none,λ _ _ _ _ _ _ _ _ _ _ _ _ _ _ _ _=>none)) λ a=>(qdF m a.1 a.2.1 a.2.2,qdg m a.1 a.2.1 a.2.2,qdn m a.1 a.2.1 a.2.2)
def Ju:Nat->Z60:=qh (λ _=>none) λ m _=>qdo m (qz m m).1 (qz m m).2.1 (qz m m).2.2
def qb8(m:Nat)(b:Z61)(a:List (T × Int)):Z49 :=
 b a a.length 0 []
def qbV(m:Nat)(g:Z61)(d:List (T × Int))(c b:Int)(a:List (T × Int)):Z49 :=
 cond (ilt b c) (qa (qb d b) λ e=>qa (zw m (re e.1)) λ f=>cond (zp (List.length a+1) 64) (g d c (iw .i64 (qe b 1)) (a++[(re f,e.2)])) none) (some ((()),(a,())))
def Qj(m:Nat):=qJ (λ _ _ _ _=>none) λ a=>qbV m a
def qeb:Nat->(Z47->Z49):=qh (λ _=>none) λ m _=>qb8 m (Qj m m)
def qdL(m:Nat)(a:T × Int):Z4 :=
 cond (ilt a.2 (-1000)) (some true) (some (ilt 1000 a.2))
def qcE:Nat->((T × Int)->Z4):=qh (λ _=>none) λ m _=>qdL m
def zG(m:Nat)(b:Z62)(a:List (T × Int)):Z13 :=
 b a a.length 0
def q9(m:Nat)(f:Z62)(c:List (T × Int))(b a:Int):Z13 :=
 cond (ilt a b) (qa (qb c a) λ d=>qa (qcE m (re d.1,d.2)) λ e=>cond e (some a) (f c b (iw .i64 (qe a 1)))) (some (-1))
def qB(m:Nat):=qJ (λ _ _ _=>none) λ a=>q9 m a
def zW:Nat->Z56:=qh (λ _=>none) λ m _=>zG m (qB m m)
def yi(m:Nat)(b:List (T × Int)):Z4 :=
 qa (zW m b) λ a=>some (ile 0 a)
def zD:Nat->(Z47->Z4):=qh (λ _=>none) λ m _=>yi m
def qeQ(m:Nat)(a:List (T × Int)):Z53 :=
 qa (zD m a) λ b=>cond b (some ([],7)) (cond (ilt 200 a.length) (some ([],3)) (some (a,0)))
def qec:Nat->(Z47->Z53):=qh (λ _=>none) λ m _=>qeQ m
def qek(m:Nat)(f:Z63)(d a:List (T × Int)):Z53 :=
 qa (qaZ m d) λ c=>cond (qd (ieq c 0)) (some ([],c)) (qa (qaZ m a) λ b=>cond (qd (ieq b 0)) (some ([],b)) (qa (qeb m d) λ e =>
 f a a.length 0 e.2.1))
def qeA(m:Nat)(h:Z63)(d:List (T × Int))(c a:Int)(b:List (T × Int)):Z53 :=
 cond (ilt a c) (qa (qb d a) λ f=>qa (qbX m b (re f.1,f.2)) λ g=>h d c (iw .i64 (qe a 1)) g.2.1) (qa (qec m b) λ e=>some (e.1,e.2))
def JX(m:Nat):=qJ (λ _ _ _ _=>none) λ a=>qeA m a
def qhk:Nat->Z64:=qh (λ _ _=>none) λ m _=>qek m (JX m m)
def qzY(m:Nat)(b:Y8)(a:TL):Z27 :=
 some (T.mk 3 b 0 a)
def qht:Nat->Z57:=qh (λ _ _=>none) λ m _=>qzY m
def qhr(m:Nat)(b l:T):Z38 :=
 qa (qcb m (re l)) λ a=>cond (qd (ieq a.2 0)) (some (T.mk 0 [] 0 [],a.2)) (qa (jv m (re b) [101,120,112]) λ k=>cond k (qa (qb b.kids 1) λ j =>
 qa (qcb m (re j)) λ f=>cond (qd (ieq f.2 0)) (some (T.mk 0 [] 0 [],f.2)) (qa (qhk m f.1 a.1) λ c=>cond (qd (ieq c.2 0)) (some (T.mk 0 [] 0 [],c.2))
 (qa (qb b.kids 0) λ h=>cond (ieq c.1.length 0) (some (re h,0)) (qa (Ju m c.1) λ e=>cond (qd (ieq e.2 0)) (some (T.mk 0 [] 0 [],e.2))
 (qa (qht m [101,120,112] [re h,re e.1]) λ i=>some (re i,0)))))) (cond (ieq a.1.length 0) (some (re b,0)) (qa (Ju m a.1) λ d=>cond (qd (ieq d.2 0))
 (some (T.mk 0 [] 0 [],d.2)) (qa (qht m [101,120,112] [re b,re d.1]) λ g=>some (re g,0)))))
def qhg:Nat->Z65:=qh (λ _ _=>none) λ m _=>qhr m
def qdt(m:Nat)(a:Z66)(c:Z67)(b:T):Z38 :=
 cond (qd (ieq b.kind 3)) (some (re b,0)) (c b.kids b.kids.length 0 b.kind b.name b.sort b.kids 0 [] 0 3 b.name 0 [] [])
def qdm(m:Nat)(a:Z66)(C:Z67)(s:TL)(r k z:Int)(c:Y8)(y:Int)(x:TL)(w:Int)(v:Y8)(u f:Int)(e:Y8)(d:Int)(l b:TL):Z38 :=
 cond (ilt k r) (qa (qb s k) λ B=>qa (a (re B)) λ n=>cond (qd (ieq n.2 0)) (some (T.mk 0 [] 0 [],n.2)) (cond (zp (List.length b+1) 56)
 (C s r (iw .i64 (qe k 1)) z c y x w v u f e d l (b++[re n.1])) none)) (let h:Z38:=(qa (qc8 m (T.mk f e d b)) λ A=>some (re A,0));
 cond (qx c [102,115,116]) h (cond (qx c [115,110,100]) h (cond (qx c [100,101,99]) h (cond (qx c [97,100,101,99]) h (cond (qx c [111,112,101,110]) h (cond (qx c [114,101,97,100]) h (cond (qx c [120,111,114])
 (qa (qsF m b) λ t=>some (re t.1,t.2)) (let q:Z38:=(qa (qcb m (T.mk f e d b)) λ g=>cond (qd (ieq g.2 0)) (some (T.mk 0 [] 0 [],g.2))
 (qa (Ju m g.1) λ j=>some (re j.1,j.2)));cond (qx c [109,117,108]) q (cond (qx c [105,110,118]) q (cond (qx c [111,110,101]) q (cond (qx c [101,120,112])
 (qa (qb b 0) λ p=>qa (qb b 1) λ o=>qa (qhg m (re p) (re o)) λ i=>some (re i.1,i.2)) (some (T.mk f e d b,0)))))))))))))
def Jl(m:Nat)(a:Z66):=qJ (λ _ _ _ _ _ _ _ _ _ _ _ _ _ _ _=>none) λ b=>qdm m a b
def yD:Nat->Z66:=qh (λ _=>none) λ m a=>qdt m a (Jl m a m)
def qgU(m:Nat)(d:T):Z38 :=
 qa (qeT m (re d)) λ c=>cond (qd (ieq c 0)) (some (T.mk 0 [] 0 [],c)) (qa (yD m (re d)) λ a=>cond (ieq a.2 0) (qa (yH m (re a.1)) λ b=>cond (qd (ieq b 0))
 (some (T.mk 0 [] 0 [],b)) (some (re a.1,0))) (cond (qd (ieq a.2 0)) (some (T.mk 0 [] 0 [],a.2)) (some (re a.1,0))))
def qgh:Nat->Z66:=qh (λ _=>none) λ m _=>qgU m
def qfU(m:Nat)(b:Y8):Z4 :=
 qa (qdP m b) λ a=>some (qd (ieq a.2.2.2 3))
def qfc:Nat->Z8:=qh (λ _=>none) λ m _=>qfU m
def qar(m:Nat)(a:Z44)(c:Z68)(b:T):Z4 :=
 cond (ieq b.kind 3) (qa (qfc m b.name) λ d=>cond (qd d) (some false) (c b.kids b.kids.length 0)) (c b.kids b.kids.length 0)
def qap(m:Nat)(a:Z44)(g:Z68)(d:TL)(c b:Int):Z4 :=
 cond (ilt b c) (qa (qb d b) λ f=>qa (a (re f)) λ e=>cond (qd e) (some false) (g d c (iw .i64 (qe b 1)))) (some true)
def yI(m:Nat)(a:Z44):=qJ (λ _ _ _=>none) λ b=>qap m a b
def zc:Nat->Z44:=qh (λ _=>none) λ m a=>qar m a (yI m a m)
def qhc(m:Nat)(a:T):Z4 :=
 qa (qgh m (re a)) λ b=>cond (ieq b.2 0) (qa (J7 m (re b.1) (re a)) λ d=>cond d (qa (zc m (re a)) λ c=>some c) (some false)) (some false)
def qeP:Nat->Z44:=qh (λ _=>none) λ m _=>qhc m
def qa4(m:Nat)(b:Y8 × (Int × Int))(a:T):Z69 :=
 some ((re a,()),(qx b.1 a.name,()))
def qcY:Nat->((Y8 × (Int × Int))->T->Z69):=qh (λ _ _=>none) λ m _=>qa4 m
def qP(m:Nat)(c:Z71)(b:List (Y8 × (Int × Int)))(a:T):Z70 :=
 c b b.length 0 a.kind a.name a.sort a.kids
def qO(m:Nat)(j:Z71)(i:List (Y8 × (Int × Int)))(h b g:Int)(f:Y8)(e:Int)(d:TL):Z70 :=
 cond (ilt b h) (qa (qb i b) λ c=>qa (qcY m (c.1,(c.2.1,c.2.2)) (T.mk g f e d)) λ a=>cond a.2.1 (some ((re a.1.1,()),(b,())))
 (j i h (iw .i64 (qe b 1)) a.1.1.kind a.1.1.name a.1.1.sort a.1.1.kids)) (some ((T.mk g f e d,()),((-1),())))
def qu(m:Nat):=qJ (λ _ _ _ _ _ _ _=>none) λ a=>qO m a
def za:Nat->((List (Y8 × (Int × Int)))->T->Z70):=qh (λ _ _=>none) λ m _=>qP m (qu m m)
def qd5(m:Nat):Z72 :=
 some [([112,97,105,114],(2,2)),([101,110,99],(2,2)),([97,101,110,99],(2,2)),([112,107],(1,1)),([115,105,103,110],(2,2)),([104,97,115,104],(1,1)),([120,111,114],(2,8)),([122,101,114,111],(0,0)),([101,120,112],(2,2)),([109,117,108],(2,8)),([105,110,118],(1,1)),([111,110,101],(0,0)),([115,107],(1,1)),([115,104,107],(2,2)),([110,101,119],(1,8))]
def ym:Nat->(Z72):=qh (none) λ m _=>qd5 m
def QD(m:Nat)(a:Y8 × (Int × Int)):Z4 :=
 some (qd (ieq a.2.1 a.2.2))
def yy:Nat->((Y8 × (Int × Int))->Z4):=qh (λ _=>none) λ m _=>QD m
def qcK(m:Nat)(a:Z74)(f:Z75)(d:List (Int))(c:T):Z73 :=
 cond (qd (ieq c.kind 3)) (cond (zp (List.length d+2) 1) (cond (zp (List.length (d++[iw .u8 c.sort,iw .u8 c.name.length])+List.length (Qw c.name)) 1)
 (some ((()),((d++[iw .u8 c.sort,iw .u8 c.name.length])++(Qw c.name),()))) none) none) (qa (ym m) λ i =>
 qa (za m i (re c)) λ b=>cond (zp (List.length d+1) 1) (qa (ym m) λ h=>qa (qb h b.2.1) λ e =>
 qa (yy m (e.1,(e.2.1,e.2.2))) λ g=>cond g (cond (zp (List.length (d++[iw .u8 (iw .i64 (qe 16 b.2.1))])+1) 1)
 (f b.1.1.kids b.1.1.kids.length 0 ((d++[iw .u8 (iw .i64 (qe 16 b.2.1))])++[iw .u8 b.1.1.kids.length])) none) (f b.1.1.kids b.1.1.kids.length 0 (d++[iw .u8 (iw .i64 (qe 16 b.2.1))]))) none)
def qcy(m:Nat)(a:Z74)(h:Z75)(e:TL)(d b:Int)(c:List (Int)):Z73 :=
 cond (ilt b d) (qa (qb e b) λ g=>qa (a c (re g)) λ f=>h e d (iw .i64 (qe b 1)) f.2.1) (some ((()),(c,())))
def jX(m:Nat)(a:Z74):=qJ (λ _ _ _ _=>none) λ b=>qcy m a b
def zX:Nat->Z74:=qh (λ _ _=>none) λ m a=>qcK m a (jX m a m)
def qeY(m:Nat)(a:T):Z76 :=
 qa (qeT m (re a)) λ b=>cond (qd (ieq b 0)) (some ([],b)) (qa (qnD m (re a)) λ e=>cond (ilt 0 e.length) (some ([],13)) (qa (qeP m (re a)) λ d=>cond (qd d)
 (some ([],10)) (qa (zX m [] (re a)) λ c=>some (zM c.2.1,0))))
def qeg:Nat->(T->Z76):=qh (λ _=>none) λ m _=>qeY m
def qcc(m:Nat)(b:(Int) × (List (Int × (Int × (Y8 × Bool)))) × Unit)(a:Int × (Int × (Y8 × Bool))):Z77 :=
 cond (ile 400 b.2.1.length) (some (((b.1,b.2.1,()),()),(0,3,()))) (cond (zp (List.length b.2.1+1) 40)
 (some (((b.1,b.2.1++[(a.1,(a.2.1,(a.2.2.1,a.2.2.2)))],()),()),(iw .i64 (zq (List.length (b.2.1++[(a.1,(a.2.1,(a.2.2.1,a.2.2.2)))])) 1),0,()))) none)
def JN:Nat->(Z3->(Int × (Int × (Y8 × Bool)))->Z77):=qh (λ _ _=>none) λ m _=>qcc m
def qge(m:Nat)(b:Z78)(a:Y8):Z13 :=
 b a 1 0 a.length 0
def qgA(m:Nat)(g:Z78)(e:Y8)(b d c a:Int):Z13 :=
 cond (ilt a c) (qa (qb e a) λ f=>g e (jr (iw .u32 (qe b (iw .u32 ((UInt8.toNat f:Nat):Int)))) 65521)
 (jr (iw .u32 (qe d (jr (iw .u32 (qe b (iw .u32 ((UInt8.toNat f:Nat):Int)))) 65521))) 65521) c (iw .i64 (qe a 1))) (some (qmj .or .u32 (qxU .u32 d 16) b))
def qbf(m:Nat):=qJ (λ _ _ _ _ _=>none) λ a=>qgA m a
def qkR:Nat->Z79:=qh (λ _=>none) λ m _=>qge m (qbf m m)
def ql7(m:Nat)(b:Y8):Z80 :=
 qa (qkR m b) λ a=>cond (qgB (zM [iw .u8 (qbG .u32 a 24),iw .u8 (qbG .u32 a 16),iw .u8 (qbG .u32 a 8),iw .u8 a]) b)
 (some ((zM [iw .u8 (qbG .u32 a 24),iw .u8 (qbG .u32 a 16),iw .u8 (qbG .u32 a 8),iw .u8 a])++b)) none
def qjF:Nat->(Y8->Z80):=qh (λ _=>none) λ m _=>ql7 m
def qbH(m:Nat)(g:(Int) × (List (Int × (Int × (Y8 × Bool)))) × Unit)(f e:Int)(i:T):Z77 :=
 qa (QS m (g.1,g.2.1,()) f) λ b=>cond (qd b.2.1) (some (((b.1.1.1,b.1.1.2.1,()),()),(0,7,()))) (qa (QS m (b.1.1.1,b.1.1.2.1,()) e) λ a =>
 cond (qd a.2.1) (some (((a.1.1.1,a.1.1.2.1,()),()),(0,7,()))) (cond (ile 400 a.1.1.2.1.length) (some (((a.1.1.1,a.1.1.2.1,()),()),(0,3,()))) (qa (qeg m (re i)) λ d =>
 cond (qd (ieq d.2 0)) (some (((a.1.1.1,a.1.1.2.1,()),()),(0,d.2,()))) (qa (qjF m d.1) λ h=>qa (JN m (a.1.1.1,a.1.1.2.1,()) (f,(e,(h,true)))) λ c =>
 some (((c.1.1.1,c.1.1.2.1,()),()),(c.2.1,c.2.2.1,()))))))
def Jj:Nat->Z81:=qh (λ _ _ _ _=>none) λ m _=>qbH m
def qat(m:Nat)(a:(Int) × (List (Int × (Int × (Y8 × Bool)))) × Unit)(b:Int):Z82 :=
 cond (ilt b 0) (some (((a.1,a.2.1,()),()),(none,4,()))) (cond (ile a.2.1.length b) (some (((a.1,a.2.1,()),()),(none,4,()))) (qa (qb a.2.1 b) λ c=>cond (qd c.2.2.2)
 (some (((a.1,a.2.1,()),()),(none,9,()))) (qa (qb a.2.1 b) λ d=>some (((a.1,a.2.1,()),()),(some b,0,())))))
def jw:Nat->(Z3->Int->Z82):=qh (λ _ _=>none) λ m _=>qat m
def qbi(m:Nat)(e:(Int) × (List (Int × (Int × (Y8 × Bool)))) × Unit)(g c f:Int):Z83 :=
 qa (jw m (e.1,e.2.1,()) g) λ a=>let j1:Z83:=(some (((a.1.1.1,a.1.1.2.1,()),()),(7,())));qhl a.2.1 (cond (qd (ieq a.2.2.1 0))
 (some (((a.1.1.1,a.1.1.2.1,()),()),(a.2.2.1,()))) (cond (ilt c 0) j1 none)) λ d=>qa (qb a.1.1.2.1 d) λ b=>cond (qd (ieq a.2.2.1 0)) (some (((a.1.1.1,a.1.1.2.1,()),()),(a.2.2.1,())))
 (cond (ilt c 0) j1 (cond (ile b.2.2.1.length c) j1 (qa (qb (Qw b.2.2.1) c) λ h =>
 some (((a.1.1.1,yn a.1.1.2.1 d (b.1,(b.2.1,(zM (yn (Qw b.2.2.1) c f),b.2.2.2))),()),()),(0,())))))
def QY:Nat->Z84:=qh (λ _ _ _ _=>none) λ m _=>qbi m
def qlR(m:Nat)(a:Y8):Z76 :=
 cond (ilt a.length 4) (some ([],2)) (cond (inb a.length a.length) (cond (inb 4 (Int.toNat a.length)) (qa (qjF m (QM a 4 a.length)) λ b=>cond (qd (qx b a)) (some ([],19))
 (cond (inb a.length a.length) (cond (inb 4 (Int.toNat a.length)) (some (QM a 4 a.length,0)) none) none)) none) none)
def qmU:Nat->(Y8->Z76):=qh (λ _=>none) λ m _=>qlR m
def qbB(m:Nat)(a:Y8 × (Int × Bool))(c g:Int):Z85 :=
 let b:Z85:=(some (((a.1,(a.2.1,true)),()),(c,())));cond a.2.2 b (cond (ile a.1.length a.2.1) b (qa (qb a.1 a.2.1) λ f =>
 cond (ilt (iw .i64 ((UInt8.toNat f:Nat):Int)) c) b (qa (qb a.1 a.2.1) λ e =>
 cond (ilt g (iw .i64 ((UInt8.toNat e:Nat):Int))) b (qa (qb a.1 (iw .i64 (zq (iw .i64 (qe a.2.1 1)) 1))) λ d =>
 some (((a.1,(iw .i64 (qe a.2.1 1),a.2.2)),()),(iw .i64 ((UInt8.toNat d:Nat):Int),()))))))
def zh:Nat->(Z86->Int->Int->Z85):=qh (λ _ _ _=>none) λ m _=>qbB m
def JM(m:Nat)(c:Z88)(b:Y8 × (Int × Bool)):Z87 :=
 qa (zh m (b.1,(b.2.1,b.2.2)) 1 24) λ a=>c a.1.1.2.1 a.2.1 0 a.1.1.1 a.1.1.2.1 a.1.1.2.2
def Qg(m:Nat)(l:Z88)(g h f:Int)(c:Y8)(a:Int)(e:Bool):Z87 :=
 cond (ilt f h) (let d:Z87:=(some (((c,(a,true)),()),([],())));cond e d (cond (ile c.length a) d (qa (qb c a) λ b=>let j2:Z87 :=
 (l g h (iw .i64 (qe f 1)) c (iw .i64 (qe a 1)) e);let k:Z87:=(let j:Z87:=(cond (ieq f 0) d (let i:Z87:=(cond (qd (ieq ((UInt8.toNat b:Nat):Int) 95))
 (cond (qd (ieq ((UInt8.toNat b:Nat):Int) 35)) d j2) j2);cond (ilt ((UInt8.toNat b:Nat):Int) 48) i (cond (ilt 57 ((UInt8.toNat b:Nat):Int)) i j2)));cond (ile 65 ((UInt8.toNat b:Nat):Int))
 (cond (qd (ile ((UInt8.toNat b:Nat):Int) 90)) j j2) j);cond (ile 97 ((UInt8.toNat b:Nat):Int)) (cond (ile ((UInt8.toNat b:Nat):Int) 122) j2 k) k))) (cond (inb a c.length)
 (cond (inb g (Int.toNat a)) (some (((c,(a,e)),()),(QM c g a,()))) none) none)
def yg(m:Nat):=qJ (λ _ _ _ _ _ _=>none) λ a=>Qg m a
def Jb:Nat->(Z86->Z87):=qh (λ _=>none) λ m _=>JM m (yg m m)
def Qh(m:Nat)(a:Y8 × (Int × Bool)):Z89 :=
 let g:Z89:=(qa (ym m) λ j=>qa (ym m) λ i=>qa (zh m (a.1,(a.2.1,a.2.2)) 16 (iw .i64 (zq (iw .i64 (qe 16 i.length)) 1))) λ c =>
 qa (qb j (iw .i64 (zq c.2.1 16))) λ b=>qa (yy m (b.1,(b.2.1,b.2.2))) λ h =>
 cond h (qa (zh m (c.1.1.1,(c.1.1.2.1,c.1.1.2.2)) b.2.1 b.2.2) λ d=>some (((d.1.1.1,(d.1.1.2.1,d.1.1.2.2)),()),((3,b.1,0,[],d.2.1,()),())))
 (some (((c.1.1.1,(c.1.1.2.1,c.1.1.2.2)),()),((3,b.1,0,[],b.2.1,()),()))));cond (ilt a.2.1 a.1.length) (qa (qb a.1 a.2.1) λ k=>cond (ile ((UInt8.toNat k:Nat):Int) 5)
 (qa (zh m (a.1,(a.2.1,a.2.2)) 0 5) λ f=>qa (Jb m (f.1.1.1,(f.1.1.2.1,f.1.1.2.2))) λ e =>
 some (((e.1.1.1,(e.1.1.2.1,e.1.1.2.2)),()),((2,e.2.1,f.2.1,[],0,()),()))) g) g
def qw:Nat->(Z86->Z89):=qh (λ _=>none) λ m _=>Qh m
def jy:Nat->Val RD->Option ((Val RD × Unit) × (T × Unit)):=qh (λ _=>none) λ m _=>qpN (qw m) m
def qeI(m:Nat)(b:Y8):Z90 :=
 qa (jy m (b,(0,false))) λ a=>cond a.1.1.2.2 (some (T.mk 0 [] 0 [],a.1.1.2.1,2)) (cond (qd (ieq a.1.1.2.1 b.length)) (some (T.mk 0 [] 0 [],a.1.1.2.1,2))
 (qa (yH m (re a.2.1)) λ d=>cond (ieq d 3) (some (T.mk 0 [] 0 [],0,3)) (qa (qeP m (re a.2.1)) λ c=>cond (qd c) (some (T.mk 0 [] 0 [],0,10)) (some (re a.2.1,0,0)))))
def qej:Nat->Z91:=qh (λ _=>none) λ m _=>qeI m
def qaA(m:Nat)(f:(Int) × (List (Int × (Int × (Y8 × Bool)))) × Unit)(k:Int):Z92 :=
 qa (jw m (f.1,f.2.1,()) k) λ b=>qhl b.2.1 (cond (qd (ieq b.2.2.1 0)) (some (((b.1.1.1,b.1.1.2.1,()),()),(T.mk 0 [] 0 [],0,b.2.2.1,()))) none) λ c =>
 qa (qb b.1.1.2.1 c) λ a=>cond (qd (ieq b.2.2.1 0)) (some (((b.1.1.1,b.1.1.2.1,()),()),(T.mk 0 [] 0 [],0,b.2.2.1,())))
 (qa (qb (yn b.1.1.2.1 c (a.1,(a.2.1,(a.2.2.1,false)))) c) λ j=>qa (qmU m j.2.2.1) λ e=>cond (qd (ieq e.2 0))
 (qa (qb (yn b.1.1.2.1 c (a.1,(a.2.1,(a.2.2.1,false)))) c) λ i=>some (((b.1.1.1,yn b.1.1.2.1 c (a.1,(a.2.1,(a.2.2.1,false))),()),()),(T.mk 0 [] 0 [],i.2.1,e.2,())))
 (qa (qej m e.1) λ d=>cond (qd (ieq d.2.2 0)) (qa (qb (yn b.1.1.2.1 c (a.1,(a.2.1,(a.2.2.1,false)))) c) λ h =>
 some (((b.1.1.1,yn b.1.1.2.1 c (a.1,(a.2.1,(a.2.2.1,false))),()),()),(T.mk 0 [] 0 [],h.2.1,d.2.2,()))) (qa (qb (yn b.1.1.2.1 c (a.1,(a.2.1,(a.2.2.1,false)))) c) λ g =>
 some (((b.1.1.1,yn b.1.1.2.1 c (a.1,(a.2.1,(a.2.2.1,false))),()),()),(re d.1,g.2.1,0,())))))
def yx:Nat->Z93:=qh (λ _ _=>none) λ m _=>qaA m
def qhI(m:Nat)(b a:Int):Z13 :=
 cond (ilt b a) (some (-1)) (cond (ilt a b) (some 1) (some 0))
def qa8:Nat->(Int->Int->Z13):=qh (λ _ _=>none) λ m _=>qhI m
def qgt(m:Nat)(a:Z14)(c:Z94)(b:T):Z13 :=
 c 1 0 b.kind b.name b.sort b.kids
def qgC(m:Nat)(a:Z14)(j:Z94)(d c g:Int)(f:Y8)(e:Int)(b:TL):Z13 :=
 cond (ilt c b.length) (qa (qb b c) λ i=>qa (a (re i)) λ h=>j (iw .i64 (qe d h)) (iw .i64 (qe c 1)) g f e b) (some d)
def qa9(m:Nat)(a:Z14):=qJ (λ _ _ _ _ _ _=>none) λ b=>qgC m a b
def yW:Nat->Z14:=qh (λ _=>none) λ m a=>qgt m a (qa9 m a m)
def qdC(m:Nat)(a:Z24)(j:Z95)(c b:T):Z13 :=
 qa (yW m (re c)) λ i=>qa (yW m (re b)) λ h=>qa (qa8 m i h) λ g=>cond (qd (ieq g 0)) (some g) (qa (qa8 m c.kind b.kind) λ f =>
 cond (qd (ieq f 0)) (some f) (cond (slt c.name b.name) (some (-1)) (cond (qd (qrK (slt c.name b.name) (qx c.name b.name))) (some 1) (qa (qa8 m c.sort b.sort) λ e=>cond (qd (ieq e 0))
 (some e) (qa (qa8 m c.kids.length b.kids.length) λ d=>cond (qd (ieq d 0)) (some d) (j 0 c.kind c.name c.sort c.kids b.kind b.name b.sort b.kids))))))
def qdi(m:Nat)(a:Z24)(o:Z95)(b k:Int)(j:Y8)(i:Int)(c:TL)(h:Int)(g:Y8)(f:Int)(d:TL):Z13 :=
 cond (ilt b c.length) (qa (qb c b) λ n=>qa (qb d b) λ l=>qa (a (re n) (re l)) λ e=>cond (qd (ieq e 0)) (some e) (o (iw .i64 (qe b 1)) k j i c h g f d))
 (some 0)
def Jg(m:Nat)(a:Z24):=qJ (λ _ _ _ _ _ _ _ _ _=>none) λ b=>qdi m a b
def zN:Nat->Z24:=qh (λ _ _=>none) λ m a=>qdC m a (Jg m a m)
def qj1(m:Nat)(c b:T):Z4 :=
 qa (zN m (re c) (re b)) λ a=>some (ieq a 0)
def Ji:Nat->Z26:=qh (λ _ _=>none) λ m _=>qj1 m
def qaP(m:Nat)(a:(Int) × (List (Int × (Int × (Y8 × Bool)))) × Unit)(d:Int):Z77 :=
 cond (ilt d 0) (some (((a.1,a.2.1,()),()),(0,4,()))) (cond (ile a.2.1.length d) (some (((a.1,a.2.1,()),()),(0,4,()))) (qa (qb a.2.1 d) λ c=>qa (JN m (a.1,a.2.1,())
 (c.1,(c.2.1,(c.2.2.1,true)))) λ b=>some (((b.1.1.1,b.1.1.2.1,()),()),(b.2.1,b.2.2.1,()))))
def Qt:Nat->Z96:=qh (λ _ _=>none) λ m _=>qaP m
def qz3(m:Nat)(b:Y8)(a:Int):Z27 :=
 some (T.mk 2 b a [])
def qvq:Nat->(Y8->Int->Z27):=qh (λ _ _=>none) λ m _=>qz3 m
def qyA(m:Nat)(b:Y8):Z27 :=
 qa (qvq m b 1) λ a=>some (re a)
def qtr:Nat->(Y8->Z27):=qh (λ _=>none) λ m _=>qyA m
def qxG(m:Nat):Z4 :=
 qa (qjf m 2) λ f=>let j1:Z4:=(some false);qhl f.2.1 (cond (qd (ieq f.2.2.1 0)) j1 j1) λ h=>cond (qd (ieq f.2.2.1 0)) j1 (qa (qtr m [97]) λ g =>
 qa (Jj m (h.1,h.2.1,()) 0 1 (re g)) λ c=>qa (Qt m (c.1.1.1,c.1.1.2.1,()) 0) λ b=>qa (QY m (b.1.1.1,b.1.1.2.1,()) 0 5 0) λ e =>
 qa (yx m (e.1.1.1,e.1.1.2.1,()) 0) λ a=>qa (yx m (a.1.1.1,a.1.1.2.1,()) 1) λ d=>cond (ieq c.2.2.1 0) (cond (ieq b.2.2.1 0) (cond (ieq e.2.1 0)
 (cond (ieq c.2.1 0) (cond (ieq b.2.1 1) (cond (ieq a.2.2.1 1) (cond (ieq a.2.2.2.1 19) (cond (ieq d.2.2.1 1) (cond (ieq d.2.2.2.1 0) (qa (Ji m (re d.2.1) (re g)) λ i =>
 some i) j1) j1) j1) j1) j1) j1) j1) j1) j1)
def qf9:Nat->(Z4):=qh (none) λ m _=>qxG m
def qex(m:Nat)(a:Z97)(d:Z94)(b:T)(c:Int):Z13 :=
 cond (ile c 0) (some (-1)) (cond (ilt 40 b.name.length) (some (-1)) (d (iw .i64 (zq c 1)) 0 b.kind b.name b.sort b.kids))
def qed(m:Nat)(a:Z97)(j:Z94)(d c h:Int)(g:Y8)(f:Int)(b:TL):Z13 :=
 cond (ilt c b.length) (qa (qb b c) λ i=>qa (a (re i) d) λ e=>cond (ilt e 0) (some (-1)) (j e (iw .i64 (qe c 1)) h g f b)) (some d)
def J3(m:Nat)(a:Z97):=qJ (λ _ _ _ _ _ _=>none) λ b=>qed m a b
def je:Nat->Z97:=qh (λ _ _=>none) λ m a=>qex m a (J3 m a m)
def qhC(m:Nat)(d:Z68)(a:TL)(c b:Int):Z4 :=
 cond (ilt c a.length) (some false) (d a b 0)
def qhi(m:Nat)(f:Z68)(b:TL)(d a:Int):Z4 :=
 cond (ilt a b.length) (qa (qb b a) λ e=>qa (je m (re e) d) λ c=>cond (ilt c 0) (some false) (f b c (iw .i64 (qe a 1)))) (some true)
def qcs(m:Nat):=qJ (λ _ _ _=>none) λ a=>qhi m a
def qm7:Nat->(TL->Int->Int->Z4):=qh (λ _ _ _=>none) λ m _=>qhC m (qcs m m)
def qh3(m:Nat)(b:Z99)(a:List (Int × (Int × (Int × (Int × (T × Int)))))):Z4 :=
 b a 0 []
def qhX(m:Nat)(f:Z99)(c:List (Int × (Int × (Int × (Int × (T × Int))))))(b:Int)(a:TL):Z4 :=
 cond (ilt b c.length) (qa (qb c b) λ e=>cond (zp (List.length a+1) 56) (f c (iw .i64 (qe b 1)) (a++[re e.2.2.2.2.1])) none) (qa (qm7 m a 60 2000) λ d=>some d)
def qcg(m:Nat):=qJ (λ _ _ _=>none) λ a=>qhX m a
def qmZ:Nat->(Z98->Z4):=qh (λ _=>none) λ m _=>qh3 m (qcg m m)
def qly(m:Nat)(a:Int):qOg :=
 cond (ilt a 1) (some ((()),((0,[],()),7,()))) (cond (ilt 16 a) (some ((()),((0,[],()),7,()))) (some ((()),((a,[],()),0,()))))
def qnh:Nat->(Int->qOg):=qh (λ _=>none) λ m _=>qly m
def qbc(m:Nat)(a:(Int) × (List (Int × (Int × (Y8 × Bool)))) × Unit)(b:Int):qL0 :=
 cond (ilt b 0) (some (((a.1,a.2.1,()),()),([],4,()))) (cond (ile a.2.1.length b) (some (((a.1,a.2.1,()),()),([],4,()))) (qa (qb a.2.1 b) λ c =>
 some (((a.1,a.2.1,()),()),(c.2.2.1,0,()))))
def qam:Nat->qNZ:=qh (λ _ _=>none) λ m _=>qbc m
def qfs(m:Nat)(a:Z14)(c:Z94)(b:T):Z13 :=
 c 0 0 b.kind b.name b.sort b.kids
def qfz(m:Nat)(a:Z14)(j:Z94)(d c g:Int)(f:Y8)(e:Int)(b:TL):Z13 :=
 cond (ilt c b.length) (qa (qb b c) λ i=>qa (a (re i)) λ h=>j (qnZ d h) (iw .i64 (qe c 1)) g f e b) (some (iw .i64 (qe d 1)))
def qau(m:Nat)(a:Z14):=qJ (λ _ _ _ _ _ _=>none) λ b=>qfz m a b
def jk:Nat->Z14:=qh (λ _=>none) λ m a=>qfs m a (qau m a m)
def qhp(m:Nat)(a:Int):Z4 :=
 let b:Z4:=(cond (ile 65 a) (some (ile a 90)) (some false));cond (ile 97 a) (cond (ile a 122) (some true) b) b
def qe9:Nat->Z5:=qh (λ _=>none) λ m _=>qhp m
def qiC(m:Nat)(a:Int):Z4 :=
 cond (ile 48 a) (some (ile a 57)) (some false)
def qjd:Nat->Z5:=qh (λ _=>none) λ m _=>qiC m
def qet(m:Nat)(d:qOt)(a:Y8):Z4 :=
 cond (ieq a.length 0) (some false) (cond (ilt 24 a.length) (some false) (qa (qb a 0) λ c=>qa (qe9 m ((UInt8.toNat c:Nat):Int)) λ b=>cond (qd b) (some false) (d a 0)))
def qem(m:Nat)(i:qOt)(b:Y8)(a:Int):Z4 :=
 cond (ilt a b.length) (qa (qb b a) λ h=>qa (qe9 m ((UInt8.toNat h:Nat):Int)) λ g=>let j1:Z4:=(i b (iw .i64 (qe a 1)));cond (qd g) (qa (qb b a) λ f =>
 qa (qjd m ((UInt8.toNat f:Nat):Int)) λ e=>cond (qd e) (qa (qb b a) λ d=>cond (qd (ieq ((UInt8.toNat d:Nat):Int) 95)) (qa (qb b a) λ c =>
 cond (qd (ieq ((UInt8.toNat c:Nat):Int) 35)) (some false) j1) j1) j1) j1) (some true)
def JU(m:Nat):=qJ (λ _ _=>none) λ a=>qem m a
def qaj:Nat->Z8:=qh (λ _=>none) λ m _=>qet m (JU m m)
def qjM(m:Nat)(a:T):Z13 :=
 let d:Z13:=(qa (qaj m a.name) λ e=>cond (qd e) (some 2) (cond (ilt 8 a.kids.length) (some 3) (some 0)));let j2:Z13:=(cond (ilt 0 a.kids.length) (some 1) d);cond (ieq a.kind 1)
 (cond (ilt a.sort 0) (some 1) (cond (ilt 5 a.sort) (some 1) j2)) (let c:Z13:=(cond (ilt a.sort 0) (some 1) (cond (ilt 5 a.sort) (some 1) (let b:Z13:=(cond (ieq a.kind 2) j2 d);
 cond (qd (ieq a.kind 2)) (cond (qd (ieq a.sort 0)) (some 1) b) b)));cond (qd (ieq a.kind 2)) (cond (qd (ieq a.kind 3)) (some 1) c) c)
def qkw:Nat->Z14:=qh (λ _=>none) λ m _=>qjM m
def qfd(m:Nat)(a:Z14)(d:qGJ)(b:T):Z13 :=
 qa (qkw m (re b)) λ c=>cond (qd (ieq c 0)) (some c) (d 0 b.kind b.name b.sort b.kids)
def qff(m:Nat)(a:Z14)(i:qGJ)(c g:Int)(f:Y8)(e:Int)(b:TL):Z13 :=
 cond (ilt c b.length) (qa (qb b c) λ h=>qa (a (re h)) λ d=>cond (qd (ieq d 0)) (some d) (i (iw .i64 (qe c 1)) g f e b)) (some 0)
def qaw(m:Nat)(a:Z14):=qJ (λ _ _ _ _ _=>none) λ b=>qff m a b
def jM:Nat->Z14:=qh (λ _=>none) λ m a=>qfd m a (qaw m a m)
def qiK(m:Nat)(a:T):Z13 :=
 qa (jM m (re a)) λ b=>cond (qd (ieq b 0)) (some b) (qa (yW m (re a)) λ d=>cond (ilt 400 d) (some 3) (qa (jk m (re a)) λ c=>cond (ilt 40 c) (some 3) (some 0)))
def jp:Nat->Z14:=qh (λ _=>none) λ m _=>qiK m
def qun(m:Nat):qOm :=
 some [([112,97,105,114],(2,(2,1))),([101,110,99],(2,(2,1))),([97,101,110,99],(2,(2,1))),([112,107],(1,(1,1))),([115,105,103,110],(2,(2,1))),([104,97,115,104],(1,(1,1))),([120,111,114],(2,(8,1))),([122,101,114,111],(0,(0,1))),([101,120,112],(2,(2,1))),([109,117,108],(2,(8,1))),([105,110,118],(1,(1,1))),([111,110,101],(0,(0,1))),([115,107],(1,(1,2))),([115,104,107],(2,(2,2))),([110,101,119],(1,(8,2))),([102,115,116],(1,(1,3))),([115,110,100],(1,(1,3))),([100,101,99],(2,(2,3))),([97,100,101,99],(2,(2,3))),([111,112,101,110],(2,(2,3))),([114,101,97,100],(1,(1,3)))]
def qgv:Nat->(qOm):=qh (none) λ m _=>qun m
def qgg(m:Nat)(c:qOn)(b:Y8):Z13 :=
 qa (qgv m) λ a=>c b a 0
def qgk(m:Nat)(f:qOn)(c:Y8)(b:List (Y8 × (Int × (Int × Int))))(a:Int):Z13 :=
 cond (ilt a b.length) (qa (qb b a) λ e=>cond (qx e.1 c) (qa (qb b a) λ d=>some d.2.2.2) (f c b (iw .i64 (qe a 1)))) (some 0)
def qbp(m:Nat):=qJ (λ _ _ _=>none) λ a=>qgk m a
def qfe:Nat->Z79:=qh (λ _=>none) λ m _=>qgg m (qbp m m)
def qgD(m:Nat)(c:qO4)(a:T):Z4 :=
 qa (qgv m) λ b=>c b 0 a.kind a.name a.sort a.kids
def qgn(m:Nat)(j:qO4)(b:List (Y8 × (Int × (Int × Int))))(a f:Int)(d:Y8)(e:Int)(c:TL):Z4 :=
 cond (ilt a b.length) (qa (qb b a) λ i=>cond (qx i.1 d) (qa (qb b a) λ h=>cond (ile h.2.1 c.length) (qa (qb b a) λ g=>some (ile c.length g.2.2.1)) (some false))
 (j b (iw .i64 (qe a 1)) f d e c)) (some false)
def qbk(m:Nat):=qJ (λ _ _ _ _ _ _=>none) λ a=>qgn m a
def qkN:Nat->Z44:=qh (λ _=>none) λ m _=>qgD m (qbk m m)
def qer(m:Nat)(c:qNI)(a:T):Z4 :=
 cond (qx a.name [110,101,119]) (qa (qb a.kids 0) λ b=>some (ieq b.kind 2)) (c 0 a.kind a.name a.sort a.kids)
def qeh(m:Nat)(h:qNI)(b e:Int)(d:Y8)(c:Int)(a:TL):Z4 :=
 cond (ilt b a.length) (qa (qb a b) λ g=>cond (ieq g.kind 3) (some false) (qa (qb a b) λ f=>cond (qd (ieq f.sort 1)) (some false) (h (iw .i64 (qe b 1)) e d c a))) (some true)
def JV(m:Nat):=qJ (λ _ _ _ _ _=>none) λ a=>qeh m a
def qhb:Nat->Z44:=qh (λ _=>none) λ m _=>qer m (JV m m)
def qfK(m:Nat)(b:Z14)(d:qGJ)(a:T):Z13 :=
 cond (qd (ieq a.kind 3)) (some 0) (qa (qfe m a.name) λ c=>cond (ieq c 0) (some 10) (qa (qkN m (re a)) λ f=>cond (qd f) (some 6) (cond (ieq c 2)
 (qa (qhb m (re a)) λ e=>cond (qd e) (some 10) (d 0 a.kind a.name a.sort a.kids)) (d 0 a.kind a.name a.sort a.kids))))
def qfB(m:Nat)(a:Z14)(i:qGJ)(c g:Int)(f:Y8)(e:Int)(b:TL):Z13 :=
 cond (ilt c b.length) (qa (qb b c) λ h=>qa (a (re h)) λ d=>cond (qd (ieq d 0)) (some d) (i (iw .i64 (qe c 1)) g f e b)) (some 0)
def Jy(m:Nat)(a:Z14):=qJ (λ _ _ _ _ _=>none) λ b=>qfB m a b
def jn:Nat->Z14:=qh (λ _=>none) λ m a=>qfK m a (Jy m a m)
def qiN(m:Nat)(b:T):Z13 :=
 qa (jp m (re b)) λ a=>cond (qd (ieq a 0)) (some a) (qa (jn m (re b)) λ c=>some c)
def qdY:Nat->Z14:=qh (λ _=>none) λ m _=>qiN m
def qih(m:Nat)(a:Z33)(c:qPi)(b:T):Z32 :=
 c 0 b.kind b.name b.sort b.kids [re b]
def qh2(m:Nat)(a:Z33)(j:qPi)(d h:Int)(g:Y8)(f:Int)(c b:TL):Z32 :=
 cond (ilt d c.length) (qa (qb c d) λ i=>qa (a (re i)) λ e=>cond (zp (List.length b+List.length e) 56) (j (iw .i64 (qe d 1)) h g f c (b++e)) none) (some b)
def qcr(m:Nat)(a:Z33):=qJ (λ _ _ _ _ _ _=>none) λ b=>qh2 m a b
def Ql:Nat->Z33:=qh (λ _=>none) λ m a=>qih m a (qcr m a m)
def qhm(m:Nat)(c:qOu)(b:TL)(a:T):Z32 :=
 c b false 0 a.kind a.name a.sort a.kids []
def qia(m:Nat)(i:qOu)(c:TL)(h:Bool)(b g:Int)(f:Y8)(e:Int)(d a:TL):Z32 :=
 cond (ilt b c.length) (qa (qb c b) λ o=>qa (zN m (T.mk g f e d) (re o)) λ j=>let j1:Z32:=(qa (qb c b) λ k=>cond (zp (List.length a+1) 56)
 (i c h (iw .i64 (qe b 1)) g f e d (a++[re k])) none);cond (qd h) (cond (ile j 0) (cond (ilt j 0) (cond (zp (List.length a+1) 56) (qa (qb c b) λ n =>
 cond (zp (List.length (a++[T.mk g f e d])+1) 56) (i c true (iw .i64 (qe b 1)) g f e d ((a++[T.mk g f e d])++[re n])) none) none) (qa (qb c b) λ l =>
 cond (zp (List.length a+1) 56) (i c true (iw .i64 (qe b 1)) g f e d (a++[re l])) none)) j1) j1) (cond (qd h) (cond (zp (List.length a+1) 56) (some (a++[T.mk g f e d])) none) (some a))
def qco(m:Nat):=qJ (λ _ _ _ _ _ _ _ _=>none) λ a=>qia m a
def qjJ:Nat->(TL->T->Z32):=qh (λ _ _=>none) λ m _=>qhm m (qco m m)
def qh1(m:Nat)(b:qGl)(a:TL):Z32 :=
 b a [] 0
def qhH(m:Nat)(f:qGl)(b c:TL)(a:Int):Z32 :=
 cond (ilt a b.length) (qa (qb b a) λ e=>qa (qjJ m c (re e)) λ d=>f b d (iw .i64 (qe a 1))) (some c)
def qcl(m:Nat):=qJ (λ _ _ _=>none) λ a=>qhH m a
def qnc:Nat->Z41:=qh (λ _=>none) λ m _=>qh1 m (qcl m m)
def qgo(m:Nat)(d:qOA)(c:T)(b:Int):Z32 :=
 qa (Ql m (re c)) λ a=>d b a 0 []
def qgz(m:Nat)(e:qOA)(d:Int)(b:TL)(a:Int)(c:TL):Z32 :=
 cond (ilt a b.length) (qa (qb b a) λ h=>cond (ieq h.kind d) (qa (qb b a) λ g=>cond (zp (List.length c+1) 56) (e d b (iw .i64 (qe a 1)) (c++[re g])) none)
 (e d b (iw .i64 (qe a 1)) c)) (qa (qnc m c) λ f=>some f)
def qa3(m:Nat):=qJ (λ _ _ _ _=>none) λ a=>qgz m a
def qkJ:Nat->(T->Int->Z32):=qh (λ _ _=>none) λ m _=>qgo m (qa3 m m)
def qjX(m:Nat)(b:T):Z32 :=
 qa (qkJ m (re b) 1) λ a=>some a
def qkS:Nat->Z33:=qh (λ _=>none) λ m _=>qjX m
def qhM(m:Nat)(b:T):Z4 :=
 qa (qkS m (re b)) λ a=>some (ieq a.length 0)
def qhE:Nat->Z44:=qh (λ _=>none) λ m _=>qhM m
def qlJ(m:Nat)(b:Y8)(a:TL):Z27 :=
 cond (zp (List.length ([]:TL)+List.length a) 56) (qkO a (some (T.mk 3 b 0 [])) λ d c=>some (T.mk 3 b 0 ([]++(d::c)))) none
def Qo:Nat->Z57:=qh (λ _ _=>none) λ m _=>qlJ m
def qnI(m:Nat)(a:T)(b:Y8):Z4 :=
 cond (ieq a.kind 3) (some (qx a.name b)) (some false)
def qca:Nat->(T->Y8->Z4):=qh (λ _ _=>none) λ m _=>qnI m
def qgT(m:Nat)(a:T):qrF :=
 qa (qb a.kids 0) λ b=>let j1:qrF:=(qa (qb b.kids 0) λ y=>some (re y,true));let j2:qrF:=(let r:qrF:=(let q:qrF:=(let p:qrF:=(let o:qrF :=
 (cond (qx a.name [114,101,97,100]) (qa (qca m (re b) [115,105,103,110]) λ c=>cond c j1 (some (re a,false))) (some (re a,false)));cond (qx a.name [111,112,101,110])
 (qa (qca m (re b) [115,105,103,110]) λ h=>cond h (qa (qb a.kids 1) λ g=>qa (qb b.kids 1) λ f=>qa (Qo m [112,107] [re f]) λ e=>qa (Ji m (re g)
 (re e)) λ d=>cond d j1 o) o) o);cond (qx a.name [97,100,101,99]) (qa (qca m (re b) [97,101,110,99]) λ n=>cond n (qa (qb b.kids 1) λ l =>
 qa (qb a.kids 1) λ k=>qa (Qo m [112,107] [re k]) λ j=>qa (Ji m (re l) (re j)) λ i=>cond i j1 p) p) p);cond (qx a.name [100,101,99])
 (qa (qca m (re b) [101,110,99]) λ v=>cond v (qa (qb b.kids 1) λ u=>qa (qb a.kids 1) λ t=>qa (Ji m (re u) (re t)) λ s=>cond s j1 q) q) q);
 cond (qx a.name [115,110,100]) (qa (qca m (re b) [112,97,105,114]) λ x=>cond x (qa (qb b.kids 1) λ w=>some (re w,true)) r) r);cond (qx a.name [102,115,116])
 (qa (qca m (re b) [112,97,105,114]) λ z=>cond z j1 j2) j2
def qgj:Nat->(T->qrF):=qh (λ _=>none) λ m _=>qgT m
def qfG(m:Nat)(c:qOf)(b:TL)(a:T):Z13 :=
 cond (ilt 200 b.length) (some 3) (c b 0 a.kind a.name a.sort a.kids)
def qfx(m:Nat)(j:qOf)(b:TL)(a f:Int)(e:Y8)(d:Int)(c:TL):Z13 :=
 cond (ilt a b.length) (qa (qb b a) λ i=>qa (jp m (re i)) λ g=>cond (qd (ieq g 0)) (some g) (j b (iw .i64 (qe a 1)) f e d c))
 (qa (jp m (T.mk f e d c)) λ h=>some h)
def qaB(m:Nat):=qJ (λ _ _ _ _ _ _=>none) λ a=>qfx m a
def qje:Nat->(TL->T->Z13):=qh (λ _ _=>none) λ m _=>qfG m (qaB m m)
def qjQ(m:Nat):Z27 :=
 qa (Qo m [122,101,114,111] []) λ a=>some (re a)
def qkt:Nat->(Z27):=qh (none) λ m _=>qjQ m
def qho(m:Nat)(c:qPn)(b:TL)(a:T):Z4 :=
 c b 0 a.kind a.name a.sort a.kids
def qhn(m:Nat)(i:qPn)(b:TL)(a f:Int)(e:Y8)(d:Int)(c:TL):Z4 :=
 cond (ilt a b.length) (qa (qb b a) λ h=>qa (Ji m (re h) (T.mk f e d c)) λ g=>cond g (some true) (i b (iw .i64 (qe a 1)) f e d c)) (some false)
def qcn(m:Nat):=qJ (λ _ _ _ _ _ _=>none) λ a=>qhn m a
def qnC:Nat->(TL->T->Z4):=qh (λ _ _=>none) λ m _=>qho m (qcn m m)
def qee(m:Nat)(e:qN4)(b:TL)(a:T):Z32 :=
 qa (qnC m b (re a)) λ d=>cond (qd d) (qa (qjJ m b (re a)) λ c=>some c) (e b 0 a.kind a.name a.sort a.kids [])
def qel(m:Nat)(h:qN4)(b:TL)(a g:Int)(f:Y8)(e:Int)(d c:TL):Z32 :=
 cond (ilt a b.length) (qa (qb b a) λ k=>qa (Ji m (re k) (T.mk g f e d)) λ j=>cond (qd j) (qa (qb b a) λ i=>cond (zp (List.length c+1) 56)
 (h b (iw .i64 (qe a 1)) g f e d (c++[re i])) none) (h b (iw .i64 (qe a 1)) g f e d c)) (some c)
def JZ(m:Nat):=qJ (λ _ _ _ _ _ _ _=>none) λ a=>qel m a
def qhF:Nat->(TL->T->Z32):=qh (λ _ _=>none) λ m _=>qee m (JZ m m)
def qgx(m:Nat)(c:qGl)(b a:TL):Z32 :=
 cond (zp (List.length ([]:TL)+List.length b) 56) (qkO b (c a [] 0) λ e d=>c a ([]++(e::d)) 0) none
def qgm(m:Nat)(f:qGl)(b c:TL)(a:Int):Z32 :=
 cond (ilt a b.length) (qa (qb b a) λ e=>qa (qhF m c (re e)) λ d=>f b d (iw .i64 (qe a 1))) (some c)
def qai(m:Nat):=qJ (λ _ _ _=>none) λ a=>qgm m a
def qhO:Nat->(TL->TL->Z32):=qh (λ _ _=>none) λ m _=>qgx m (qai m m)
def qcz(m:Nat)(a:Z33)(d:qOy)(b:T):Z32 :=
 let c:Z32:=(cond (qd (ieq b.kind 3)) (some [re b]) (cond (qd (qx b.name [120,111,114])) (some [re b]) (d [] 0 b.kind b.name b.sort b.kids)));cond (ieq b.kind 3)
 (cond (qx b.name [122,101,114,111]) (cond (ieq b.kids.length 0) (some []) c) c) c
def qcM(m:Nat)(a:Z33)(k:qOy)(d:TL)(c g:Int)(f:Y8)(e:Int)(b:TL):Z32 :=
 cond (ilt c b.length) (qa (qb b c) λ j=>qa (a (re j)) λ i=>qa (qhO m d i) λ h=>k h (iw .i64 (qe c 1)) g f e b) (some d)
def jV(m:Nat)(a:Z33):=qJ (λ _ _ _ _ _ _=>none) λ b=>qcM m a b
def z8:Nat->Z33:=qh (λ _=>none) λ m a=>qcz m a (jV m a m)
def qjN(m:Nat)(a:TL):Z27 :=
 cond (ieq a.length 0) (qa (Qo m [122,101,114,111] []) λ e=>some (re e)) (cond (ieq a.length 1) (qa (qb a 0) λ d=>some (re d))
 (cond (zp (List.length ([]:TL)+List.length a) 56) (qkO a (some (T.mk 3 [120,111,114] 0 [])) λ c b=>some (T.mk 3 [120,111,114] 0 ([]++(c::b)))) none))
def qkY:Nat->(TL->Z27):=qh (λ _=>none) λ m _=>qjN m
def qig(m:Nat)(d:qN8)(b:TL):Z38 :=
 qa (qkt m) λ c=>qa (qje m b (re c)) λ a=>cond (qd (ieq a 0)) (some (T.mk 0 [] 0 [],a)) (d b [] 0 0 [] 0 [])
def qhS(m:Nat)(n:qN8)(b c:TL)(a h:Int)(g:Y8)(f:Int)(e:TL):Z38 :=
 cond (ilt a b.length) (qa (qb b a) λ l=>qa (z8 m (re l)) λ k=>qa (qhO m c k) λ j=>n b j (iw .i64 (qe a 1)) h g f e) (qa (qkY m c) λ d =>
 qa (jp m (re d)) λ i=>cond (qd (ieq i 0)) (some (T.mk 0 [] 0 [],3)) (some (re d,0)))
def qcu(m:Nat):=qJ (λ _ _ _ _ _ _ _=>none) λ a=>qhS m a
def qnn:Nat->(TL->Z38):=qh (λ _=>none) λ m _=>qig m (qcu m m)
def qgK(m:Nat)(a:T):Z4 :=
 cond (ieq a.kind 3) (cond (qx a.name [109,117,108]) (some true) (cond (qx a.name [105,110,118]) (some true) (some (qx a.name [111,110,101])))) (some false)
def qbN:Nat->Z44:=qh (λ _=>none) λ m _=>qgK m
def qfv(m:Nat)(b:Z44)(e:qOD)(a:T):Z4 :=
 qa (qbN m (re a)) λ f=>cond (qd f) (some true) (let d:Z4:=(let c:Z4:=(cond (qx a.name [111,110,101]) (cond (qd (ieq a.kids.length 0)) (some false)
 (e a.kids.length 0 a.kind a.name a.sort a.kids)) (e a.kids.length 0 a.kind a.name a.sort a.kids));cond (qx a.name [105,110,118]) (cond (qd (ieq a.kids.length 1)) (some false) c) c);
 cond (qx a.name [109,117,108]) (cond (ilt a.kids.length 2) (some false) d) d)
def qfi(m:Nat)(a:Z44)(j:qOD)(d b g:Int)(f:Y8)(e:Int)(c:TL):Z4 :=
 cond (ilt b d) (qa (qb c b) λ i=>qa (a (re i)) λ h=>cond (qd h) (some false) (j d (iw .i64 (qe b 1)) g f e c)) (some true)
def Jv(m:Nat)(a:Z44):=qJ (λ _ _ _ _ _ _=>none) λ b=>qfi m a b
def jo:Nat->Z44:=qh (λ _=>none) λ m a=>qfv m a (Jv m a m)
def qh4(m:Nat)(d:qN9)(c:List (T × Int))(a:T)(b:Int):Z49 :=
 d b false 0 a.kind a.name a.sort a.kids c []
def qhQ(m:Nat)(i:qN9)(a:Int)(l:Bool)(h f:Int)(e:Y8)(d:Int)(c:TL)(g b:List (T × Int)):Z49 :=
 cond (ilt h g.length) (qa (qb g h) λ o=>qa (zN m (T.mk f e d c) (re o.1)) λ n=>let j1:Z49:=(qa (qb g h) λ j=>cond (ieq n 0)
 (cond (qd (ieq (iw .i64 (qe j.2 a)) 0)) (cond (zp (List.length b+1) 64) (i a true (iw .i64 (qe h 1)) f e d c g (b++[(re j.1,iw .i64 (qe j.2 a))])) none)
 (i a true (iw .i64 (qe h 1)) f e d c g b)) (cond (qd (ieq j.2 0)) (cond (zp (List.length b+1) 64) (i a l (iw .i64 (qe h 1)) f e d c g (b++[(re j.1,j.2)])) none)
 (i a l (iw .i64 (qe h 1)) f e d c g b)));cond (qd l) (cond (ilt n 0) (cond (zp (List.length b+1) 64) (qa (qb g h) λ k=>cond (ieq n 0) (cond (qd (ieq (iw .i64 (qe k.2 a)) 0))
 (cond (zp (List.length (b++[(T.mk f e d c,a)])+1) 64) (i a true (iw .i64 (qe h 1)) f e d c g ((b++[(T.mk f e d c,a)])++[(re k.1,iw .i64 (qe k.2 a))])) none)
 (i a true (iw .i64 (qe h 1)) f e d c g (b++[(T.mk f e d c,a)]))) (cond (qd (ieq k.2 0)) (cond (zp (List.length (b++[(T.mk f e d c,a)])+1) 64)
 (i a true (iw .i64 (qe h 1)) f e d c g ((b++[(T.mk f e d c,a)])++[(re k.1,k.2)])) none) (i a true (iw .i64 (qe h 1)) f e d c g (b++[(T.mk f e d c,a)])))) none) j1) j1)
 (cond (qd l) (cond (zp (List.length b+1) 64) (some ((()),(b++[(T.mk f e d c,a)],()))) none) (some ((()),(b,()))))
def J4(m:Nat):=qJ (λ _ _ _ _ _ _ _ _ _=>none) λ a=>qhQ m a
def qjp:Nat->qDp:=qh (λ _ _ _=>none) λ m _=>qh4 m (J4 m m)
def qdr(m:Nat)(a:qDp)(e:qPq)(d:List (T × Int))(b:T)(c:Int):Z49 :=
 qa (qbN m (re b)) λ g=>cond (qd g) (qa (qjp m d (re b) c) λ f=>some ((()),(f.2.1,()))) (cond (qx b.name [105,110,118])
 (e (iw .i64 (zq 0 c)) 0 b.kind b.name b.sort b.kids d) (e c 0 b.kind b.name b.sort b.kids d))
def qdk(m:Nat)(a:qDp)(k:qPq)(e c h:Int)(g:Y8)(f:Int)(b:TL)(d:List (T × Int)):Z49 :=
 cond (ilt c b.length) (qa (qb b c) λ j=>qa (a d (re j) e) λ i=>k e (iw .i64 (qe c 1)) h g f b i.2.1) (some ((()),(d,())))
def Qm(m:Nat)(a:qDp):=qJ (λ _ _ _ _ _ _ _=>none) λ b=>qdk m a b
def yk:Nat->qDp:=qh (λ _ _ _=>none) λ m a=>qdr m a (Qm m a m)
def qnT(m:Nat)(a:T):Z53 :=
 qa (jp m (re a)) λ c=>cond (qd (ieq c 0)) (some ([],c)) (qa (jo m (re a)) λ d=>cond (qd d) (some ([],6)) (qa (yk m [] (re a) 1) λ b =>
 cond (ilt 200 b.2.1.length) (some ([],3)) (some (b.2.1,0))))
def qiy:Nat->Z54:=qh (λ _=>none) λ m _=>qnT m
def qfH(m:Nat)(b:qG4)(a:List (T × Int)):Z13 :=
 cond (ilt 200 a.length) (some 3) (b a 0)
def qfF(m:Nat)(e:qG4)(b:List (T × Int))(a:Int):Z13 :=
 cond (ilt a b.length) (qa (qb b a) λ n=>qa (jp m (re n.1)) λ d=>cond (qd (ieq d 0)) (some d) (qa (qb b a) λ l=>qa (qbN m (re l.1)) λ k=>cond k (some 1)
 (qa (qb b a) λ j=>cond (ieq j.2 0) (some 7) (qa (qb b a) λ i=>cond (ilt i.2 (-1000)) (some 7) (qa (qb b a) λ h=>cond (ilt 1000 h.2) (some 7) (cond (ilt 0 a)
 (qa (qb b (iw .i64 (zq a 1))) λ g=>qa (qb b a) λ f=>qa (zN m (re g.1) (re f.1)) λ c=>cond (ile 0 c) (some 5) (e b (iw .i64 (qe a 1))))
 (e b (iw .i64 (qe a 1))))))))) (some 0)
def Jx(m:Nat):=qJ (λ _ _=>none) λ a=>qfF m a
def qd0:Nat->Z56:=qh (λ _=>none) λ m _=>qfH m (Jx m m)
def qcH(m:Nat)(b:qn6)(e:qnS)(d:qn6)(c:qnS)(a:List (T × Int)):Z32 :=
 b a 0 []
def qcC(m:Nat)(g:qn6)(e:qnS)(d:qn6)(f:qnS)(a:List (T × Int))(c:Int)(b:TL):Z32 :=
 cond (ilt c a.length) (e a c 0 b) (d a 0 b)
def qcF(m:Nat)(e:qn6)(h:qnS)(j:qn6)(i:qnS)(c:List (T × Int))(b d:Int)(a:TL):Z32 :=
 qa (qb c b) λ g=>cond (ilt d g.2) (cond (ilt a.length 9) (qa (qb c b) λ f=>cond (zp (List.length a+1) 56) (h c b (iw .i64 (qe d 1)) (a++[re f.1])) none)
 (e c (iw .i64 (qe b 1)) a)) (e c (iw .i64 (qe b 1)) a)
def qcx(m:Nat)(g:qn6)(f:qnS)(e:qn6)(d:qnS)(c:List (T × Int))(b:Int)(a:TL):Z32 :=
 cond (ilt b c.length) (d c b 0 a) (some a)
def qcB(m:Nat)(k:qn6)(j:qnS)(e:qn6)(i:qnS)(c:List (T × Int))(b d:Int)(a:TL):Z32 :=
 qa (qb c b) λ h=>cond (ilt d (iw .i64 (zq 0 h.2))) (cond (ilt a.length 9) (qa (qb c b) λ g=>qa (Qo m [105,110,118] [re g.1]) λ f=>cond (zp (List.length a+1) 56)
 (i c b (iw .i64 (qe d 1)) (a++[re f])) none) (e c (iw .i64 (qe b 1)) a)) (e c (iw .i64 (qe b 1)) a)
def ql(m:Nat):=qJ ((λ _ _ _=>none,λ _ _ _ _=>none,λ _ _ _=>none,λ _ _ _ _=>none)) λ a=>(qcC m a.1 a.2.1 a.2.2.1 a.2.2.2,qcF m a.1 a.2.1 a.2.2.1 a.2.2.2,qcx m a.1 a.2.1 a.2.2.1 a.2.2.2,qcB m a.1 a.2.1 a.2.2.1 a.2.2.2)
def qft:Nat->(Z47->Z32):=qh (λ _=>none) λ m _=>qcH m (ql m m).1 (ql m m).2.1 (ql m m).2.2.1 (ql m m).2.2.2
def qjP(m:Nat)(i:List (T × Int)):Z38 :=
 qa (qd0 m i) λ h=>cond (qd (ieq h 0)) (some (T.mk 0 [] 0 [],h)) (qa (qft m i) λ a=>cond (ilt 8 a.length) (some (T.mk 0 [] 0 [],3))
 (qa (Qo m [109,117,108] a) λ g=>let j1:Z38:=(qa (qb a 0) λ e=>qa (jp m (re e)) λ d=>cond (qd (ieq d 0)) (some (T.mk 0 [] 0 [],d)) (some (re e,0)));
 cond (ieq a.length 0) (qa (Qo m [111,110,101] []) λ f=>cond (ieq a.length 1) j1 (qa (jp m (re f)) λ c=>cond (qd (ieq c 0)) (some (T.mk 0 [] 0 [],c)) (some (re f,0))))
 (cond (ieq a.length 1) j1 (qa (jp m (re g)) λ b=>cond (qd (ieq b 0)) (some (T.mk 0 [] 0 [],b)) (some (re g,0))))))
def qdD:Nat->Z60:=qh (λ _=>none) λ m _=>qjP m
def qgI(m:Nat)(c:T):Z38 :=
 qa (qiy m (re c)) λ a=>cond (qd (ieq a.2 0)) (some (T.mk 0 [] 0 [],a.2)) (qa (qdD m a.1) λ b=>some (re b.1,b.2))
def qdT:Nat->Z66:=qh (λ _=>none) λ m _=>qgI m
def qdq(m:Nat)(b:qG4)(a:List (T × Int)):Z13 :=
 b a 0
def qdJ(m:Nat)(e:qG4)(a:List (T × Int))(b:Int):Z13 :=
 cond (ilt b a.length) (qa (qb a b) λ d=>cond (ilt d.2 (-1000)) (some 7) (qa (qb a b) λ c=>cond (ilt 1000 c.2) (some 7) (e a (iw .i64 (qe b 1))))) (cond (ilt 200 a.length) (some 3)
 (some 0))
def Jh(m:Nat):=qJ (λ _ _=>none) λ a=>qdJ m a
def qgd:Nat->Z56:=qh (λ _=>none) λ m _=>qdq m (Jh m m)
def qif(m:Nat)(e:qOx)(b a:List (T × Int)):Z53 :=
 qa (qd0 m b) λ d=>cond (qd (ieq d 0)) (some ([],d)) (qa (qd0 m a) λ c=>cond (qd (ieq c 0)) (some ([],c)) (cond (zp (List.length ([]:List (T × Int))+List.length b) 64)
 (qkO b (e a 0 []) λ g f=>e a 0 ([]++(g::f))) none))
def qic(m:Nat)(h:qOx)(b:List (T × Int))(a:Int)(c:List (T × Int)):Z53 :=
 cond (ilt a b.length) (qa (qb b a) λ g=>qa (qb b a) λ f=>qa (qjp m c (re g.1) f.2) λ e=>h b (iw .i64 (qe a 1)) e.2.1) (qa (qgd m c) λ d =>
 cond (qd (ieq d 0)) (some ([],d)) (some (c,0)))
def qaY(m:Nat):=qJ (λ _ _ _=>none) λ a=>qic m a
def qmR:Nat->Z64:=qh (λ _ _=>none) λ m _=>qif m (qaY m m)
def qiZ(m:Nat)(b l:T):Z38 :=
 qa (qiy m (re l)) λ a=>cond (qd (ieq a.2 0)) (some (T.mk 0 [] 0 [],a.2)) (qa (qca m (re b) [101,120,112]) λ k=>cond k (qa (qb b.kids 1) λ j =>
 qa (qiy m (re j)) λ f=>cond (qd (ieq f.2 0)) (some (T.mk 0 [] 0 [],f.2)) (qa (qmR m f.1 a.1) λ c=>cond (qd (ieq c.2 0)) (some (T.mk 0 [] 0 [],c.2))
 (qa (qb b.kids 0) λ h=>cond (ieq c.1.length 0) (some (re h,0)) (qa (qdD m c.1) λ e=>cond (qd (ieq e.2 0)) (some (T.mk 0 [] 0 [],e.2))
 (qa (Qo m [101,120,112] [re h,re e.1]) λ i=>some (re i,0)))))) (cond (ieq a.1.length 0) (some (re b,0)) (qa (qdD m a.1) λ d=>cond (qd (ieq d.2 0))
 (some (T.mk 0 [] 0 [],d.2)) (qa (Qo m [101,120,112] [re b,re d.1]) λ g=>some (re g,0)))))
def qi9:Nat->Z65:=qh (λ _ _=>none) λ m _=>qiZ m
def qen(m:Nat)(a:Z66)(c:qNH)(b:T):Z38 :=
 cond (qd (ieq b.kind 3)) (some (re b,0)) (c 0 b.kind b.name b.sort b.kids 0 [] 0 [] [])
def qea(m:Nat)(a:Z66)(x:qNH)(f t:Int)(b:Y8)(s:Int)(e:TL)(r:Int)(q:Y8)(p:Int)(o c:TL):Z38 :=
 cond (ilt f e.length) (qa (qb e f) λ w=>qa (a (re w)) λ h=>cond (qd (ieq h.2 0)) (some (T.mk 0 [] 0 [],h.2)) (cond (zp (List.length c+1) 56)
 (x (iw .i64 (qe f 1)) t b s e r q p o (c++[re h.1])) none)) (qa (Qo m b c) λ g=>qa (qfe m b) λ v=>cond (ieq v 3) (qa (qgj m (re g)) λ u =>
 some (re u.1,0)) (cond (qx b [120,111,114]) (qa (qnn m c) λ n=>some (re n.1,n.2)) (let k:Z38:=(qa (qdT m (re g)) λ l=>some (re l.1,l.2));
 cond (qx b [109,117,108]) k (cond (qx b [105,110,118]) k (cond (qx b [111,110,101]) k (cond (qx b [101,120,112]) (qa (qb c 0) λ j=>qa (qb c 1) λ i =>
 qa (qi9 m (re j) (re i)) λ d=>some (re d.1,d.2)) (some (re g,0))))))))
def JS(m:Nat)(a:Z66):=qJ (λ _ _ _ _ _ _ _ _ _ _=>none) λ b=>qea m a b
def jg:Nat->Z66:=qh (λ _=>none) λ m a=>qen m a (JS m a m)
def qhx(m:Nat)(d:T):Z38 :=
 qa (qdY m (re d)) λ c=>cond (qd (ieq c 0)) (some (T.mk 0 [] 0 [],c)) (qa (jg m (re d)) λ a=>cond (qd (ieq a.2 0)) (some (T.mk 0 [] 0 [],a.2))
 (qa (jp m (re a.1)) λ b=>cond (qd (ieq b 0)) (some (T.mk 0 [] 0 [],b)) (some (re a.1,0))))
def qim:Nat->Z66:=qh (λ _=>none) λ m _=>qhx m
def qfO(m:Nat)(e:qOz)(a:T):Z4 :=
 qa (qim m (re a)) λ b=>cond (qd (ieq b.2 0)) (some false) (qa (Ji m (re a) (re b.1)) λ d=>cond (qd d) (some false) (qa (Ql m (re a)) λ c=>e c 0))
def qfE(m:Nat)(c:qOz)(b:TL)(a:Int):Z4 :=
 cond (ilt a b.length) (qa (qb b a) λ f=>cond (ieq f.kind 3) (qa (qb b a) λ e=>qa (qfe m e.name) λ d=>cond (ieq d 3) (some false) (c b (iw .i64 (qe a 1))))
 (c b (iw .i64 (qe a 1)))) (some true)
def qaz(m:Nat):=qJ (λ _ _=>none) λ a=>qfE m a
def qf7:Nat->Z44:=qh (λ _=>none) λ m _=>qfO m (qaz m m)
def qi1(m:Nat)(a:T):Z13 :=
 qa (qdY m (re a)) λ b=>cond (qd (ieq b 0)) (some b) (qa (qhE m (re a)) λ d=>cond (qd d) (some 13) (qa (qf7 m (re a)) λ c=>cond (qd c) (some 10) (some 0)))
def qjb:Nat->Z14:=qh (λ _=>none) λ m _=>qi1 m
def qw6(m:Nat):(Option (List Y8)) :=
 some [[112,97,105,114],[101,110,99],[97,101,110,99],[112,107],[115,105,103,110],[104,97,115,104],[120,111,114],[122,101,114,111],[101,120,112],[109,117,108],[105,110,118],[111,110,101],[115,107],[115,104,107],[110,101,119]]
def qjm:Nat->((Option (List Y8))):=qh (none) λ m _=>qw6 m
def qfw(m:Nat)(c:qNQ)(b:Y8):Z13 :=
 qa (qjm m) λ a=>c b a 0
def qfk(m:Nat)(e:qNQ)(c:Y8)(b:List (Y8))(a:Int):Z13 :=
 cond (ilt a b.length) (qa (qb b a) λ d=>cond (qx d c) (some a) (e c b (iw .i64 (qe a 1)))) (some 0)
def qaC(m:Nat):=qJ (λ _ _ _=>none) λ a=>qfk m a
def qjl:Nat->Z79:=qh (λ _=>none) λ m _=>qfw m (qaC m m)
def qgH(m:Nat)(a:Y8):Z4 :=
 cond (qx a [120,111,114]) (some true) (cond (qx a [109,117,108]) (some true) (some (qx a [110,101,119])))
def qdM:Nat->Z8:=qh (λ _=>none) λ m _=>qgH m
def qfj(m:Nat)(b:qGx)(d:qNL)(a:T):Z80 :=
 cond (ieq a.kind 2) (cond (qgB (zM [iw .u8 a.sort,iw .u8 a.name.length]) a.name) (some ((zM [iw .u8 a.sort,iw .u8 a.name.length])++a.name)) none) (qa (qjl m a.name) λ c =>
 qa (qdM m a.name) λ e=>cond e (cond (qgB (zM [iw .u8 (iw .i64 (qe 16 c))]) (zM [iw .u8 a.kids.length]))
 (d ((zM [iw .u8 (iw .i64 (qe 16 c))])++(zM [iw .u8 a.kids.length])) 0 a.kind a.name a.sort a.kids) none) (d (zM [iw .u8 (iw .i64 (qe 16 c))]) 0 a.kind a.name a.sort a.kids))
def qfy(m:Nat)(a:qGx)(j:qNL)(d:Y8)(c h:Int)(g:Y8)(f:Int)(b:TL):Z80 :=
 cond (ilt c b.length) (qa (qb b c) λ i=>qa (a (re i)) λ e=>cond (qgB d e) (j (d++e) (iw .i64 (qe c 1)) h g f b) none) (some d)
def Jz(m:Nat)(a:qGx):=qJ (λ _ _ _ _ _ _=>none) λ b=>qfy m a b
def jl:Nat->qGx:=qh (λ _=>none) λ m a=>qfj m a (Jz m a m)
def qhP(m:Nat)(b:T):Z76 :=
 qa (qjb m (re b)) λ a=>cond (qd (ieq a 0)) (some ([],a)) (qa (jl m (re b)) λ c=>some (c,0))
def qhY:Nat->(T->Z76):=qh (λ _=>none) λ m _=>qhP m
def qfN(m:Nat)(b:qPd)(a:Y8):Z13 :=
 b a 1 0 0
def qfC(m:Nat)(f:qPd)(c:Y8)(b d a:Int):Z13 :=
 cond (ilt a c.length) (qa (qb c a) λ e=>f c (jr (iw .u32 (qe b (iw .u32 ((UInt8.toNat e:Nat):Int)))) 65521)
 (jr (iw .u32 (qe d (jr (iw .u32 (qe b (iw .u32 ((UInt8.toNat e:Nat):Int)))) 65521))) 65521) (iw .i64 (qe a 1))) (some (iw .u32 (qe (iw .u32 (qtu 65536 d)) b)))
def qav(m:Nat):=qJ (λ _ _ _ _=>none) λ a=>qfC m a
def qi6:Nat->Z79:=qh (λ _=>none) λ m _=>qfN m (qav m m)
def qkb(m:Nat)(b:Y8):Z80 :=
 qa (qi6 m b) λ a=>cond (qgB (zM [iw .u8 (iw .u32 (qiJ a 16777216)),iw .u8 (jr (iw .u32 (qiJ a 65536)) 256),iw .u8 (jr (iw .u32 (qiJ a 256)) 256),iw .u8 (jr a 256)]) b)
 (some ((zM [iw .u8 (iw .u32 (qiJ a 16777216)),iw .u8 (jr (iw .u32 (qiJ a 65536)) 256),iw .u8 (jr (iw .u32 (qiJ a 256)) 256),iw .u8 (jr a 256)])++b)) none
def qhW:Nat->(Y8->Z80):=qh (λ _=>none) λ m _=>qkb m
def qcX(m:Nat)(a:(Int) × (List (Int × (Int × (Y8 × Bool)))) × Unit)(d c:Int)(g:T):Z77 :=
 let b:Z77:=(some (((a.1,a.2.1,()),()),(0,7,())));cond (ilt d 0) b (cond (ile a.1 d) b (cond (ilt c 0) b (cond (ile a.1 c) b (cond (ile 400 a.2.1.length)
 (some (((a.1,a.2.1,()),()),(0,3,()))) (qa (qhY m (re g)) λ e=>cond (qd (ieq e.2 0)) (some (((a.1,a.2.1,()),()),(0,e.2,()))) (qa (qhW m e.1) λ f =>
 cond (zp (List.length a.2.1+1) 40) (some (((a.1,a.2.1++[(d,(c,(f,true)))],()),()),(iw .i64 (zq (List.length (a.2.1++[(d,(c,(f,true)))])) 1),0,()))) none))))))
def qb5:Nat->Z81:=qh (λ _ _ _ _=>none) λ m _=>qcX m
def qbJ(m:Nat)(d:(Int) × (List (Int × (Int × (Y8 × Bool)))) × Unit)(e:Int):Z83 :=
 qa (jw m (d.1,d.2.1,()) e) λ a=>qhl a.2.1 (cond (ieq a.2.2.1 0) none (some (((a.1.1.1,a.1.1.2.1,()),()),(a.2.2.1,())))) λ c=>qa (qb a.1.1.2.1 c) λ b =>
 cond (ieq a.2.2.1 0) (some (((a.1.1.1,yn a.1.1.2.1 c (b.1,(b.2.1,(b.2.2.1,false))),()),()),(a.2.2.1,()))) (some (((a.1.1.1,a.1.1.2.1,()),()),(a.2.2.1,())))
def Jo:Nat->qPr:=qh (λ _ _=>none) λ m _=>qbJ m
def QB(m:Nat)(c:qOL)(a:(Int) × (List (Int × (Int × (Y8 × Bool)))) × Unit)(b:Int):quK :=
 c b a.2.1.length 0 a.1 a.2.1 []
def QC(m:Nat)(g:qOL)(f e a d:Int)(c:List (Int × (Int × (Y8 × Bool))))(b:List (Int)):quK :=
 cond (ilt a e) (qa (qb c a) λ h=>cond h.2.2.2 (cond (ieq h.2.1 f) (cond (zp (List.length b+1) 8) (g f e (iw .i64 (qe a 1)) d c (b++[a])) none) (g f e (iw .i64 (qe a 1)) d c b))
 (g f e (iw .i64 (qe a 1)) d c b)) (some (((d,c,()),()),(b,())))
def yd(m:Nat):=qJ (λ _ _ _ _ _ _=>none) λ a=>QC m a
def JL:Nat->qO6:=qh (λ _ _=>none) λ m _=>QB m (yd m m)
def qcR(m:Nat)(a:(Int) × (List (Int × (Int × (Y8 × Bool)))) × Unit)(b:Int)(d:Bool):Z83 :=
 cond (ilt b 0) (some (((a.1,a.2.1,()),()),(4,()))) (cond (ile a.2.1.length b) (some (((a.1,a.2.1,()),()),(4,()))) (cond d (qa (qb a.2.1 b) λ c=>cond (qd c.2.2.2)
 (some (((a.1,a.2.1,()),()),(9,()))) (some (((a.1,a.2.1,()),()),(0,())))) (some (((a.1,a.2.1,()),()),(0,())))))
def jt:Nat->(Z3->Int->Bool->Z83):=qh (λ _ _ _=>none) λ m _=>qcR m
def qbE(m:Nat)(d:(Int) × (List (Int × (Int × (Y8 × Bool)))) × Unit)(c:Int):Z77 :=
 qa (jt m (d.1,d.2.1,()) c false) λ a=>cond (qd (ieq a.2.1 0)) (some (((a.1.1.1,a.1.1.2.1,()),()),(0,a.2.1,()))) (cond (ile 400 a.1.1.2.1.length)
 (some (((a.1.1.1,a.1.1.2.1,()),()),(0,3,()))) (qa (qb a.1.1.2.1 c) λ b=>cond (zp (List.length a.1.1.2.1+1) 40)
 (some (((a.1.1.1,a.1.1.2.1++[(b.1,(b.2.1,(b.2.2.1,true)))],()),()),(iw .i64 (zq (List.length (a.1.1.2.1++[(b.1,(b.2.1,(b.2.2.1,true)))])) 1),0,()))) none))
def qaU:Nat->Z96:=qh (λ _ _=>none) λ m _=>qbE m
def qjZ(m:Nat)(a:Y8):Z76 :=
 cond (ilt a.length 4) (some ([],2)) (cond (inb a.length a.length) (cond (inb 4 (Int.toNat a.length)) (qa (qhW m (QM a 4 a.length)) λ b=>cond (qd (qx b a)) (some ([],19))
 (cond (inb a.length a.length) (cond (inb 4 (Int.toNat a.length)) (some (QM a 4 a.length,0)) none) none)) none) none)
def qk0:Nat->(Y8->Z76):=qh (λ _=>none) λ m _=>qjZ m
def qbK(m:Nat)(e:qHc)(b:Y8)(a:Int):qsm :=
 qa (qb b a) λ d=>let j1:qsm:=(some (T.mk 2 [] (iw .i64 ((UInt8.toNat d:Nat):Int)) [],iw .i64 (qe a 1),false));
 cond (ile b.length (iw .i64 (qe a 1))) j1 (qa (qb b (iw .i64 (qe a 1))) λ c =>
 cond (ilt (iw .i64 ((UInt8.toNat c:Nat):Int)) 1) j1 (cond (ilt 24 (iw .i64 ((UInt8.toNat c:Nat):Int))) j1 (e b a (iw .i64 ((UInt8.toNat c:Nat):Int)) 1 0 [] 0 2 [] (iw .i64 ((UInt8.toNat d:Nat):Int)) [] [])))
def qgi(m:Nat)(o:qHc)(e:Y8)(a d c l:Int)(k:Y8)(j g:Int)(h:Y8)(f:Int)(i b:TL):qsm :=
 cond (ile c d) (cond (ile e.length (iw .i64 (qe (iw .i64 (qe a 1)) c))) (some (T.mk g h f b,iw .i64 (qe (iw .i64 (qe a 1)) c),false)) (cond (inb (iw .i64 (qe (iw .i64 (qe a 2)) c)) e.length)
 (cond (inb (iw .i64 (qe a 2)) (Int.toNat (iw .i64 (qe (iw .i64 (qe a 2)) c)))) (qa (qaj m (QM e (iw .i64 (qe a 2)) (iw .i64 (qe (iw .i64 (qe a 2)) c)))) λ n=>cond (qd n)
 (some (T.mk g h f b,iw .i64 (qe (iw .i64 (qe a 1)) c),false)) (o e a d (iw .i64 (qe c 1)) l k j g h f i b)) none) none)) (cond (inb (iw .i64 (qe (iw .i64 (qe a 2)) d)) e.length)
 (cond (inb (iw .i64 (qe a 2)) (Int.toNat (iw .i64 (qe (iw .i64 (qe a 2)) d)))) (some (T.mk g (QM e (iw .i64 (qe a 2))
 (iw .i64 (qe (iw .i64 (qe a 2)) d))) f b,iw .i64 (qe (iw .i64 (qe a 2)) d),true)) none) none)
def jG(m:Nat):=qJ (λ _ _ _ _ _ _ _ _ _ _ _ _=>none) λ a=>qgi m a
def qdw:Nat->qA0:=qh (λ _ _=>none) λ m _=>qbK m (jG m m)
def qgu(m:Nat)(k:qNP)(b:Y8)(a:Int)(d:Y8):qrg :=
 qa (qdM m d) λ j=>cond (qd j) (qa (qgv m) λ i=>k b a d i 0) (let c:qrg:=(some (0,a,false));let j2:qrg:=(qa (qb b a) λ g =>
 cond (ilt 8 ((UInt8.toNat g:Nat):Int)) c (qa (qb b a) λ f=>some (iw .i64 ((UInt8.toNat f:Nat):Int),iw .i64 (qe a 1),true)));cond (qx d [110,101,119])
 (cond (ile b.length a) c (qa (qb b a) λ h=>cond (ilt (iw .i64 ((UInt8.toNat h:Nat):Int)) 1) c j2)) (cond (ile b.length a) c (qa (qb b a) λ e =>
 cond (ilt (iw .i64 ((UInt8.toNat e:Nat):Int)) 2) c j2)))
def qjY(m:Nat)(o:qNP)(b:Y8)(a:Int)(f:Y8)(e:List (Y8 × (Int × (Int × Int))))(d:Int):qrg :=
 cond (ilt d e.length) (qa (qb e d) λ n=>cond (qx n.1 f) (qa (qb e d) λ l=>some (l.2.1,a,true)) (o b a f e (iw .i64 (qe d 1)))) (let c:qrg:=(some (0,a,false));
 let g:qrg:=(qa (qb b a) λ j=>cond (ilt 8 ((UInt8.toNat j:Nat):Int)) c (qa (qb b a) λ i=>some (iw .i64 ((UInt8.toNat i:Nat):Int),iw .i64 (qe a 1),true)));
 cond (qx f [110,101,119]) (cond (ile b.length a) c (qa (qb b a) λ k=>cond (ilt (iw .i64 ((UInt8.toNat k:Nat):Int)) 1) c g)) (cond (ile b.length a) c (qa (qb b a) λ h =>
 cond (ilt (iw .i64 ((UInt8.toNat h:Nat):Int)) 2) c g)))
def qa5(m:Nat):=qJ (λ _ _ _ _ _=>none) λ a=>qjY m a
def qdl:Nat->(Y8->Int->Y8->qrg):=qh (λ _ _ _=>none) λ m _=>qgu m (qa5 m m)
def qax(m:Nat)(a:qA0)(o:qHc)(c:Y8)(b:Int):qsm :=
 let g:qsm:=(some (T.mk 0 [] 0 [],b,false));cond (ile c.length b) g (qa (qb c b) λ n=>cond (ile ((UInt8.toNat n:Nat):Int) 5) (qa (qdw m c b) λ f =>
 some (re f.1,f.2.1,f.2.2)) (qa (qb c b) λ l=>cond (ilt ((UInt8.toNat l:Nat):Int) 16) g (qa (qb c b) λ k=>qa (qjm m) λ j=>cond (ile (iw .i64 (qe 16 j.length))
 (iw .i64 ((UInt8.toNat k:Nat):Int))) g (qa (qjm m) λ i=>qa (qb c b) λ h=>qa (qb i (iw .i64 (zq (iw .i64 ((UInt8.toNat h:Nat):Int)) 16))) λ e =>
 qa (qdl m c (iw .i64 (qe b 1)) e) λ d=>cond (qd d.2.2) (some (T.mk 3 e 0 [],d.2.1,false)) (o c d.1 d.2.1 0 0 [] 0 3 e 0 [] [])))))
def qdO(m:Nat)(a:qA0)(p:qHc)(k:Y8)(j i h o:Int)(n:Y8)(l f:Int)(e:Y8)(d:Int)(g b:TL):qsm :=
 cond (ilt h j) (qa (a k i) λ c=>cond (qd c.2.2) (some (T.mk f e d b,c.2.1,false)) (cond (zp (List.length b+1) 56)
 (p k j c.2.1 (iw .i64 (qe h 1)) o n l f e d g (b++[re c.1])) none)) (some (T.mk f e d b,i,true))
def Qu(m:Nat)(a:qA0):=qJ (λ _ _ _ _ _ _ _ _ _ _ _ _=>none) λ b=>qdO m a b
def qW:Nat->qA0:=qh (λ _ _=>none) λ m a=>qax m a (Qu m a m)
def qhN(m:Nat)(b:Y8):Z90 :=
 qa (qW m b 0) λ a=>cond (qd a.2.2) (some (T.mk 0 [] 0 [],a.2.1,2)) (cond (qd (ieq a.2.1 b.length)) (some (T.mk 0 [] 0 [],a.2.1,2)) (qa (yW m (re a.1)) λ f =>
 cond (ilt 400 f) (some (T.mk 0 [] 0 [],0,3)) (qa (jk m (re a.1)) λ e=>cond (ilt 40 e) (some (T.mk 0 [] 0 [],0,3)) (qa (qdY m (re a.1)) λ d=>cond (qd (ieq d 0))
 (some (T.mk 0 [] 0 [],0,10)) (qa (qf7 m (re a.1)) λ c=>cond (qd c) (some (T.mk 0 [] 0 [],0,10)) (some (re a.1,0,0)))))))
def qh0:Nat->Z91:=qh (λ _=>none) λ m _=>qhN m
def qbl(m:Nat)(g:(Int) × (List (Int × (Int × (Y8 × Bool)))) × Unit)(c:Int):Z92 :=
 qa (jt m (g.1,g.2.1,()) c true) λ b=>cond (qd (ieq b.2.1 0)) (some (((b.1.1.1,b.1.1.2.1,()),()),(T.mk 0 [] 0 [],0,b.2.1,()))) (qa (qb b.1.1.2.1 c) λ a =>
 qa (qb (yn b.1.1.2.1 c (a.1,(a.2.1,(a.2.2.1,false)))) c) λ f=>qa (qb (yn b.1.1.2.1 c (a.1,(a.2.1,(a.2.2.1,false)))) c) λ h=>qa (qk0 m h.2.2.1) λ e =>
 cond (qd (ieq e.2 0)) (some (((b.1.1.1,yn b.1.1.2.1 c (a.1,(a.2.1,(a.2.2.1,false))),()),()),(T.mk 0 [] 0 [],f.2.1,e.2,()))) (qa (qh0 m e.1) λ d=>cond (qd (ieq d.2.2 0))
 (some (((b.1.1.1,yn b.1.1.2.1 c (a.1,(a.2.1,(a.2.2.1,false))),()),()),(T.mk 0 [] 0 [],f.2.1,d.2.2,())))
 (some (((b.1.1.1,yn b.1.1.2.1 c (a.1,(a.2.1,(a.2.2.1,false))),()),()),(re d.1,f.2.1,0,())))))
def qas:Nat->Z93:=qh (λ _ _=>none) λ m _=>qbl m
def qcW(m:Nat)(d:(Int) × (List (Int × (Int × (Y8 × Bool)))) × Unit)(c:Int):Z83 :=
 qa (jt m (d.1,d.2.1,()) c true) λ a=>cond (qd (ieq a.2.1 0)) (some (((a.1.1.1,a.1.1.2.1,()),()),(a.2.1,()))) (qa (qb a.1.1.2.1 c) λ b =>
 some (((a.1.1.1,yn a.1.1.2.1 c (b.1,(b.2.1,(b.2.2.1,false))),()),()),(0,())))
def qbQ:Nat->qPr:=qh (λ _ _=>none) λ m _=>qcW m
def qcp(m:Nat)(g:(Int) × (List (Int × (Int × (Y8 × Bool)))) × Unit)(d c f:Int):Z83 :=
 qa (jt m (g.1,g.2.1,()) d true) λ b=>cond (qd (ieq b.2.1 0)) (some (((b.1.1.1,b.1.1.2.1,()),()),(b.2.1,()))) (qa (qb b.1.1.2.1 d) λ a=>cond (ilt c 0)
 (some (((b.1.1.1,b.1.1.2.1,()),()),(7,()))) (cond (ile a.2.2.1.length c) (some (((b.1.1.1,b.1.1.2.1,()),()),(7,()))) (cond (inb c a.2.2.1.length) (cond (inb 0 (Int.toNat c))
 (cond (qgB (QM a.2.2.1 0 c) (zM [f])) (cond (inb a.2.2.1.length a.2.2.1.length) (cond (inb (iw .i64 (qe c 1)) (Int.toNat a.2.2.1.length)) (cond (qgB ((QM a.2.2.1 0 c)++(zM [f]))
 (QM a.2.2.1 (iw .i64 (qe c 1)) a.2.2.1.length)) (qa (qb b.1.1.2.1 d) λ e =>
 some (((b.1.1.1,yn b.1.1.2.1 d (e.1,(e.2.1,(((QM a.2.2.1 0 c)++(zM [f]))++(QM a.2.2.1 (iw .i64 (qe c 1)) a.2.2.1.length),e.2.2.2))),()),()),(0,()))) none) none) none) none) none) none)))
def qbz:Nat->Z84:=qh (λ _ _ _ _=>none) λ m _=>qcp m
def JH(m:Nat)(c:qOM)(a b:List Int):Z4 :=
 cond (qd (ieq a.length b.length)) (some false) (c a b a.length 0)
def JF(m:Nat)(g:qOM)(d c:List (Int))(b a:Int):Z4 :=
 cond (ilt a b) (qa (qb d a) λ f=>qa (qb c a) λ e=>cond (qd (ieq f e)) (some false) (g d c b (iw .i64 (qe a 1)))) (some true)
def yM(m:Nat):=qJ (λ _ _ _ _=>none) λ a=>JF m a
def qaT:Nat->((List Int)->(List Int)->Z4):=qh (λ _ _=>none) λ m _=>JH m (yM m m)
def Jf(m:Nat)(c:qO5)(a:(Int) × (List (Int × (Int × (Y8 × Bool)))) × Unit)(b:Int):quK :=
 c b 0 a.1 a.2.1 []
def Jp(m:Nat)(f:qO5)(e b d:Int)(a:List (Int × (Int × (Y8 × Bool))))(c:List (Int)):quK :=
 cond (ilt b a.length) (qa (qb a b) λ h=>cond h.2.2.2 (qa (qb a b) λ g=>cond (ieq g.2.1 e) (cond (zp (List.length c+1) 8) (f e (iw .i64 (qe b 1)) d a (c++[b])) none)
 (f e (iw .i64 (qe b 1)) d a c)) (f e (iw .i64 (qe b 1)) d a c)) (some (((d,a,()),()),(c,())))
def yw(m:Nat):=qJ (λ _ _ _ _ _=>none) λ a=>Jp m a
def qan:Nat->qO6:=qh (λ _ _=>none) λ m _=>Jf m (yw m m)
def qch(m:Nat)(c:(Int) × (List (Int × (Int × (Y8 × Bool)))) × Unit)(b:Int):qL0 :=
 qa (jt m (c.1,c.2.1,()) b false) λ a=>cond (qd (ieq a.2.1 0)) (some (((a.1.1.1,a.1.1.2.1,()),()),([],a.2.1,()))) (qa (qb a.1.1.2.1 b) λ d =>
 some (((a.1.1.1,a.1.1.2.1,()),()),(d.2.2.1,0,())))
def qbu:Nat->qNZ:=qh (λ _ _=>none) λ m _=>qch m
def qnU(m:Nat)(c b:(Int) × (List (Int × (Int × (Y8 × Bool)))) × Unit)(a:Int × (Int × (Int × (Int × (T × Int))))):qNK :=
 cond (ieq (jr a.1 7) 0) (qa (Jj m (c.1,c.2.1,()) a.2.1 a.2.2.1 (re a.2.2.2.2.1)) λ p=>qa (qb5 m (b.1,b.2.1,()) a.2.1 a.2.2.1 (re a.2.2.2.2.1)) λ o =>
 cond (ieq p.2.1 o.2.1) (some (((p.1.1.1,p.1.1.2.1,()),(o.1.1.1,o.1.1.2.1,()),()),(ieq p.2.2.1 o.2.2.1,()))) (some (((p.1.1.1,p.1.1.2.1,()),(o.1.1.1,o.1.1.2.1,()),()),(false,()))))
 (cond (ieq (jr a.1 7) 1) (qa (yx m (c.1,c.2.1,()) a.2.1) λ g=>qa (qas m (b.1,b.2.1,()) a.2.1) λ f=>qa (Ji m (re g.2.1)
 (re f.2.1)) λ t=>cond t (cond (ieq g.2.2.1 f.2.2.1) (some (((g.1.1.1,g.1.1.2.1,()),(f.1.1.1,f.1.1.2.1,()),()),(ieq g.2.2.2.1 f.2.2.2.1,())))
 (some (((g.1.1.1,g.1.1.2.1,()),(f.1.1.1,f.1.1.2.1,()),()),(false,())))) (some (((g.1.1.1,g.1.1.2.1,()),(f.1.1.1,f.1.1.2.1,()),()),(false,())))) (cond (ieq (jr a.1 7) 2)
 (qa (Jo m (c.1,c.2.1,()) a.2.1) λ r=>qa (qbQ m (b.1,b.2.1,()) a.2.1) λ q =>
 some (((r.1.1.1,r.1.1.2.1,()),(q.1.1.1,q.1.1.2.1,()),()),(ieq r.2.1 q.2.1,()))) (cond (ieq (jr a.1 7) 3) (qa (Qt m (c.1,c.2.1,()) a.2.1) λ n =>
 qa (qaU m (b.1,b.2.1,()) a.2.1) λ l=>cond (ieq n.2.1 l.2.1) (some (((n.1.1.1,n.1.1.2.1,()),(l.1.1.1,l.1.1.2.1,()),()),(ieq n.2.2.1 l.2.2.1,())))
 (some (((n.1.1.1,n.1.1.2.1,()),(l.1.1.1,l.1.1.2.1,()),()),(false,())))) (cond (ieq (jr a.1 7) 4) (qa (QY m (c.1,c.2.1,()) a.2.1 a.2.2.1 a.2.2.2.1) λ k =>
 qa (qbz m (b.1,b.2.1,()) a.2.1 a.2.2.1 a.2.2.2.1) λ j=>some (((k.1.1.1,k.1.1.2.1,()),(j.1.1.1,j.1.1.2.1,()),()),(ieq k.2.1 j.2.1,()))) (cond (ieq (jr a.1 7) 5)
 (qa (JL m (c.1,c.2.1,()) a.2.1) λ i=>qa (qan m (b.1,b.2.1,()) a.2.1) λ h=>qa (qaT m i.2.1 h.2.1) λ s =>
 some (((i.1.1.1,i.1.1.2.1,()),(h.1.1.1,h.1.1.2.1,()),()),(s,()))) (qa (qam m (c.1,c.2.1,()) a.2.1) λ e =>
 qa (qbu m (b.1,b.2.1,()) a.2.1) λ d=>cond (qx e.2.1 d.2.1) (some (((e.1.1.1,e.1.1.2.1,()),(d.1.1.1,d.1.1.2.1,()),()),(ieq e.2.2.1 d.2.2.1,())))
 (some (((e.1.1.1,e.1.1.2.1,()),(d.1.1.1,d.1.1.2.1,()),()),(false,())))))))))
def qoZ:Nat->(Z3->Z3->(Int × (Int × (Int × (Int × (T × Int)))))->qNK):=qh (λ _ _ _=>none) λ m _=>qnU m
def qdv(m:Nat)(e:qOj)(d:List (Int × (Int × (Int × (Int × (T × Int)))))):qBa :=
 qa (qjf m 4) λ a=>let j1:qBa:=(some ((()),(none,none,false,())));qhl a.2.1 (qa (qnh m 4) λ f=>cond (qd (ieq a.2.2.1 0)) j1 j1) λ c=>qa (qnh m 4) λ b =>
 cond (qd (ieq a.2.2.1 0)) j1 (e d d.length 0 c.1 b.2.1.1 c.2.1 b.2.1.2.1)
def qdA(m:Nat)(j:qOj)(i:List (Int × (Int × (Int × (Int × (T × Int))))))(h c g f:Int)(e d:List (Int × (Int × (Y8 × Bool)))):qBa :=
 cond (ilt c h) (qa (qb i c) λ a=>qa (qoZ m (g,e,()) (f,d,()) (a.1,(a.2.1,(a.2.2.1,(a.2.2.2.1,(re a.2.2.2.2.1,a.2.2.2.2.2)))))) λ b=>cond (qd b.2.1)
 (some ((()),(none,none,false,()))) (j i h (iw .i64 (qe c 1)) b.1.1.1 b.1.2.1.1 b.1.1.2.1 b.1.2.1.2.1)) (some ((()),(some (g,e,()),some (f,d,()),true,())))
def Jn(m:Nat):=qJ (λ _ _ _ _ _ _ _=>none) λ a=>qdA m a
def qgp:Nat->(Z98->qBa):=qh (λ _=>none) λ m _=>qdv m (Jn m m)
def qaO(m:Nat)(l:qLH)(k:qLv)(j:List (Int × (Int × (Int × (Int × (T × Int))))))(a:Int)(b:List Bool):Z4 :=
 qa (qf9 m) λ q=>let j1:Z4:=(qa (qf9 m) λ p=>some p);cond (qd q) j1 (qa (qmZ m j) λ o =>
 cond (qd o) j1 (cond (ilt 20 b.length) j1 (qa (qgp m j) λ c=>qhl c.2.1 (let h:Z4:=(k a true b b.length 0);qhl c.2.2.1 (cond (qd c.2.2.2.1) (some false)
 (cond (ilt a 0) h none)) λ d=>cond (qd c.2.2.2.1) (some false) (cond (ilt a 0) h (cond (ile d.2.1.length a) h (qa (qb d.2.1 a) λ f=>k a (qd f.2.2.2) b b.length 0)))) λ e =>
 let g:Z4:=(l a true b b.length 0 e.1 e.2.1);qhl c.2.2.1 (cond (qd c.2.2.2.1) (some false) (cond (ilt a 0) g none)) λ i=>cond (qd c.2.2.2.1) (some false)
 (cond (ilt a 0) g (cond (ile i.2.1.length a) g (qa (qb i.2.1 a) λ n=>l a (qd n.2.2.2) b b.length 0 e.1 e.2.1))))))
def qaS(m:Nat)(h:qLH)(l:qLv)(b:Int)(g:Bool)(f:List (Bool))(e a j:Int)(i:List (Int × (Int × (Y8 × Bool)))):Z4 :=
 cond (ilt a e) (qa (qb f a) λ k=>cond k (qa (Jo m (j,i,()) b) λ d=>cond (ieq d.2.1 4) (cond (qd (qdG true g)) (some false)
 (h b true f e (iw .i64 (qe a 1)) d.1.1.1 d.1.1.2.1)) (cond (qd (qdG (ieq d.2.1 9) g)) (some false) (h b true f e (iw .i64 (qe a 1)) d.1.1.1 d.1.1.2.1)))
 (qa (yx m (j,i,()) b) λ c=>cond (ieq c.2.2.2.1 4) (cond (qd (qdG true g)) (some false) (h b true f e (iw .i64 (qe a 1)) c.1.1.1 c.1.1.2.1))
 (cond (qd (qdG (ieq c.2.2.2.1 9) g)) (some false) (h b true f e (iw .i64 (qe a 1)) c.1.1.1 c.1.1.2.1)))) (some true)
def qpo(m:Nat)(h:qLH)(g:qLv)(f:Int)(e:Bool)(c:List (Bool))(b a:Int):Z4 :=
 cond (ilt a b) (qa (qb c a) λ d=>cond d none none) (some true)
def qH(m:Nat):=qJ ((λ _ _ _ _ _ _ _=>none,λ _ _ _ _ _=>none)) λ a=>(qaS m a.1 a.2,qpo m a.1 a.2)
def law31_NetworkOnce:Nat->(Z98->Int->(List Bool)->Z4):=qh (λ _ _ _=>none) λ m _=>qaO m (qH m m).1 (qH m m).2
end
end Go.AmZ
namespace Go.AmZ
open Go Go.GxZ
def Ev{α : Type}(F:Nat->Nat->Option α)(r : α):Prop:=∃ B,∀ m k,B<=m->B<=k->F m k=some r
section
variable {α β : Type} {F G:Nat->Nat->Option α} {r : α}
theorem Ev.pure(r : α):Ev (λ _ _=>some r) r:=⟨0,λ _ _ _ _=>rfl⟩
theorem Ev.ret{r a : α}(h:r=a):Ev (λ _ _=>some r) a:=by subst h;exact .pure r
theorem Ev.bind{X:Nat->Nat->Option β}{K:Nat->Nat -> β -> Option α}{a : β}(h:Ev X a)(g:Ev (λ m k=>K m k a) r):Ev (λ m k=>qa (X m k) (K m k)) r:=by
 obtain⟨B,h⟩:=h;obtain⟨C,g⟩:=g;refine⟨max B C,λ m k b c=>?_⟩;simp only[h m k (by omega) (by omega),qa];exact g m k (by omega) (by omega)
theorem Ev.congr(h:Ev F r)(e:∀ m k,G m k=F m k):Ev G r:=by
 obtain⟨B,h⟩:=h;exact⟨B,λ m k a b=>(e m k).trans (h m k a b)⟩
theorem Ev.res{a : α}(h:Ev F r)(e:r=a):Ev F a:=by subst e;exact h
theorem Ev.succ{f:Nat->Option α}(h:Ev (λ m _=>f (m+1)) r):Ev (λ m _=>f m) r:=by
 obtain⟨B,h⟩:=h;refine⟨B+1,λ m k a b=>?_⟩;obtain⟨m,rfl⟩:∃ n,m=n+1:=⟨m-1,by omega⟩
 exact h m B (by omega) (wb _)
theorem Ev.loop{L:Nat->Nat->Option α}(h:Ev (λ m k=>L m (k+1)) r):Ev (λ m k=>L m k) r:=by
 obtain⟨B,h⟩:=h;refine⟨B+1,λ m k a b=>?_⟩;obtain⟨k,rfl⟩:∃ n,k=n+1:=⟨k-1,by omega⟩
 exact h m k (by omega) (by omega)
theorem Ev.diag{L:Nat->Nat->Option α}(h:Ev L r):Ev (λ m _=>L m m) r:=by
 obtain⟨B,h⟩:=h;exact⟨B,λ m k a _=>h m m a a⟩
theorem Ev.ct{b:Bool}(a:b=true)(h:Ev F r):Ev (λ m k=>cond b (F m k) (G m k)) r:=by subst a;exact h
theorem Ev.cf{b:Bool}(a:b=false)(h:Ev G r):Ev (λ m k=>cond b (F m k) (G m k)) r:=by subst a;exact h
theorem Ev.ite{b:Bool}(h:b=true->Ev F r)(g:b=false->Ev G r):Ev (λ m k=>cond b (F m k) (G m k)) r:=by
 cases b with
 | true=>exact h rfl
 | false=>exact g rfl
theorem Ev.some{x:Option β}{K:Nat->Nat -> β -> Option α}{a : β}(b:x=some a)(g:Ev (λ m k=>K m k a) r):Ev (λ m k=>qa x (K m k)) r:=by subst b;exact g
theorem Ev.case{l:List β}{K:Nat->Nat -> β -> List β -> Option α}(h:l=[]->Ev F r)(g:∀ x t,l=x::t->Ev (λ m k=>K m k x t) r):Ev (λ m k=>qkO l (F m k) (K m k)) r:=by
 cases l with
 | nil=>exact h rfl
 | cons x t=>exact g x t rfl
theorem Ev.get{x:Option α}(h:Ev (λ _ _=>x) r):x=Option.some r:=by
 obtain⟨B,h⟩:=h;exact h B B (wb _) (wb _)
end
theorem qp{a b:Int}:ilt a b=true↔a<b:=by unfold ilt;exact decide_eq_true_iff
theorem qm{a b:Int}:ilt a b=false↔b<=a:=by unfold ilt;rw[decide_eq_false_iff_not];omega
theorem ja{a b:Int}:ile a b=true↔a<=b:=by unfold ile;exact decide_eq_true_iff
theorem yq{a b:Int}:ile a b=false↔b<a:=by unfold ile;rw[decide_eq_false_iff_not];omega
theorem qj{a b:Int}:ieq a b=true↔a=b:=by unfold ieq;exact beq_iff_eq
theorem qg{a b:Int}:ieq a b=false↔a≠b:=by unfold ieq;exact beq_eq_false_iff_ne
theorem bnt{b:Bool}:qd b=true↔b=false:=by cases b<;>simp[qd]
theorem bnf{b:Bool}:qd b=false↔b=true:=by cases b<;>simp[qd]
theorem yR{a b:List UInt8}:qx a b=true↔a=b:=by unfold qx;exact beq_iff_eq
theorem jQ{a b:List UInt8}:qx a b=false↔a≠b:=by unfold qx;exact beq_eq_false_iff_ne
theorem jT{n:Int}(h:-9223372036854775808<=n/\n<=9223372036854775807):iw .i64 n=n:=IntWalk.i64_in n h
theorem qlH(a b:Nat):qe (a:Int) (b:Int)=((a+b:Nat):Int):=by unfold qe;omega
theorem qC{n b:Nat}(h:n*b<=2 ^ 47)(a:0<b):zp n b=true:=by
 unfold zp;rw[decide_eq_true_iff];refine⟨h,?_⟩;have:n*1<=n*b:=vN _ a;omega
theorem qU{α : Type}(l:List α)(i:Nat):qb l (i:Int)=l[i]?:=by
 unfold qb;rw[if_pos (by omega),wF]
theorem qag{α : Type}(l:List α):qb l 0=l[0]?:=qU l 0
theorem qr{α : Type}{P:Nat->Prop}(l:List α)(g:l.length<2 ^ 62)(e:ilt (l.length:Int) (l.length:Int)=false->P l.length)
  (b:∀(i:Nat) (x : α),l[i]?=some x->l.drop i=x::l.drop (i+1)->ilt (i:Int) (l.length:Int)=true->qb l (i:Int)=some x->iw .i64 (qe (i:Int) 1)=((i+1:Nat):Int)->P (i+1)->P i):∀ i,i<=l.length->P i:=by
 intro i h;obtain⟨d,j⟩:∃ d,l.length=i+d:=⟨l.length-i,by omega⟩
 induction d generalizing i with
 | zero =>
   have:i=l.length:=by omega
   subst this;exact e (qm.2 (vj _))
 | succ d f =>
   have c:i<l.length:=by omega
   have a:=List.getElem?_eq_getElem c;refine b i _ a (vZ c) (qp.2 (by omega)) (by rw[qU,a]) ?_ (f (i+1) (by omega) (by omega));rw[show qe (i:Int) 1=((i+1:Nat):Int) by unfold qe;omega,jT (by omega)]
abbrev war:=@Ev.bind
abbrev wat:=@Ev.pure
abbrev wau:=@Ev.ct
abbrev wav:=@Ev.cf
abbrev waw:=@Ev.some
abbrev wax:=@Ev.ite
abbrev way:=@Ev.ret
abbrev waz:=@Ev.succ
abbrev waA:=@Ev.loop
abbrev waB:=@Ev.diag
end Go.AmZ
namespace Go.AmZ
open Go Go.GxZ
set_option linter.unusedVariables false
theorem qzO(m):qjf (m+1)=qiu m:=rfl
theorem qmG(m):QS (m+1)=qbb m:=rfl
theorem qDM(m):qjr (m+1)=qli m:=rfl
theorem qAz(m):qdZ (m+1)=qfb m (QE m m):=rfl
theorem qoj(m k):(QE m (k+1))=qfr m (QE m k):=rfl
theorem qDe(m):yf (m+1)=qgr m (yf m) (jJ m (yf m) m):=rfl
theorem qqo(m k):(jJ m (yf m) (k+1))=qgq m (yf m) (jJ m (yf m) k):=rfl
theorem qAZ(m):yH (m+1)=qjR m:=rfl
theorem qvy(m):qdP (m+1)=qdj m (Je m m):=rfl
theorem qlz(m k):(Je m (k+1))=qdI m (Je m k):=rfl
theorem qw2(m):qD (m+1)=qez m (qD m) (qV m (qD m) m).1 (qV m (qD m) m).2:=rfl
theorem qnw(m k):(qV m (qD m) (k+1)).1=qew m (qD m) (qV m (qD m) k).1 (qV m (qD m) k).2:=rfl
theorem qne(m k):(qV m (qD m) (k+1)).2=qeB m (qD m) (qV m (qD m) k).1 (qV m (qD m) k).2:=rfl
theorem qys(m):qeT (m+1)=qhs m:=rfl
theorem qn2(m):qaI (m+1)=qbI m:=rfl
theorem qr5(m):zK (m+1)=qbw m (zK m) (Qa m (zK m) m):=rfl
theorem qiq(m k):(Qa m (zK m) (k+1))=qby m (zK m) (Qa m (zK m) k):=rfl
theorem qDW(m):qeX (m+1)=qlS m:=rfl
theorem qD3(m):Qk (m+1)=qhJ m (Qk m) (qck m (Qk m) m):=rfl
theorem qsf(m k):(qck m (Qk m) (k+1))=qh6 m (Qk m) (qck m (Qk m) k):=rfl
theorem qxw(m):qA (m+1)=qes m (qA m) (Qd m (qA m) m):=rfl
theorem qhB(m k):(Qd m (qA m) (k+1))=qbW m (qA m) (Qd m (qA m) k):=rfl
theorem qda(m):zb (m+1)=qsJ (qA m):=rfl
theorem qt1(m):jf (m+1)=qfW m:=rfl
theorem qb4(m):qI (m+1)=qvJ (jf m):=rfl
theorem qA5(m):jz (m+1)=qgy m (jz m) (qbd m (jz m) m):=rfl
theorem qqq(m k):(qbd m (jz m) (k+1))=qgl m (jz m) (qbd m (jz m) k):=rfl
theorem qyt(m):qhV (m+1)=qeC m (J2 m m):=rfl
theorem qmO(m k):(J2 m (k+1))=qeu m (J2 m k):=rfl
theorem qz9(m):qnN (m+1)=qiI m:=rfl
theorem qDU(m):qnD (m+1)=qlK m:=rfl
theorem qAi(m):J7 (m+1)=qir m:=rfl
theorem qDT(m):jv (m+1)=qlW m:=rfl
theorem qtU(m):qc8 (m+1)=qfY m:=rfl
theorem qgb(m):zQ (m+1)=jb m (qn m m).1 (qn m m).2:=rfl
theorem qaH(m k):(qn m (k+1)).1=yZ m (qn m k).1 (qn m k).2:=rfl
theorem qaF(m k):(qn m (k+1)).2=jc m (qn m k).1 (qn m k).2:=rfl
theorem qEk(m):qm0 (m+1)=qhT m (qcd m m):=rfl
theorem qrQ(m k):(qcd m (k+1))=qhq m (qcd m k):=rfl
theorem qGW(m):qlQ (m+1)=qi4 m (qdf m m):=rfl
theorem qts(m k):(qdf m (k+1))=qji m (qdf m k):=rfl
theorem qw1(m):yF (m+1)=qep m (yF m) (QR m (yF m) m):=rfl
theorem qmI(m k):(QR m (yF m) (k+1))=qev m (yF m) (QR m (yF m) k):=rfl
theorem qyx(m):qhz (m+1)=qeq m (qa0 m m):=rfl
theorem qwb(m k):(qa0 m (k+1))=qhh m (qa0 m k):=rfl
theorem qIX(m):qao (m+1)=qkG m (qao m) (qe4 m (qao m) m):=rfl
theorem qwe(m k):(qe4 m (qao m) (k+1))=qkC m (qao m) (qe4 m (qao m) k):=rfl
theorem qHQ(m):qsF (m+1)=qkT m (qeH m m):=rfl
theorem qwg(m k):(qeH m (k+1))=qkE m (qeH m k):=rfl
theorem qsV(m):qb9 (m+1)=qeG m:=rfl
theorem qtT(m):zw (m+1)=qcD m (zw m) (QJ m (zw m) m):=rfl
theorem qkd(m k):(QJ m (zw m) (k+1))=qcN m (zw m) (QJ m (zw m) k):=rfl
theorem qqM(m):qaD (m+1)=qdz m:=rfl
theorem Q8(m):qK (m+1)=qE m (qs m m):=rfl
theorem yt(m k):(qs m (k+1))=qF m (qs m k):=rfl
theorem qs1(m):qbX (m+1)=qeL m:=rfl
theorem qrM(m):zr (m+1)=qbv m (zr m) (js m (zr m) m):=rfl
theorem qip(m k):(js m (zr m) (k+1))=qbx m (zr m) (js m (zr m) k):=rfl
theorem qAc(m):qcb (m+1)=qiX m:=rfl
theorem quN(m):qaZ (m+1)=qcA m (jZ m m):=rfl
theorem qkr(m k):(jZ m (k+1))=qcL m (jZ m k):=rfl
theorem qvI(m):Ju (m+1)=qdo m (qz m m).1 (qz m m).2.1 (qz m m).2.2:=rfl
theorem ql9(m k):(qz m (k+1)).1=qdF m (qz m k).1 (qz m k).2.1 (qz m k).2.2:=rfl
theorem ql0(m k):(qz m (k+1)).2.1=qdg m (qz m k).1 (qz m k).2.1 (qz m k).2.2:=rfl
theorem qls(m k):(qz m (k+1)).2.2=qdn m (qz m k).1 (qz m k).2.1 (qz m k).2.2:=rfl
theorem qs7(m):qeb (m+1)=qb8 m (Qj m m):=rfl
theorem qjB(m k):(Qj m (k+1))=qbV m (Qj m k):=rfl
theorem qqH(m):qcE (m+1)=qdL m:=rfl
theorem qbS(m):zW (m+1)=zG m (qB m m):=rfl
theorem yz(m k):(qB m (k+1))=q9 m (qB m k):=rfl
theorem qa7(m):zD (m+1)=yi m:=rfl
theorem qsX(m):qec (m+1)=qeQ m:=rfl
theorem qxF(m):qhk (m+1)=qek m (JX m m):=rfl
theorem qm8(m k):(JX m (k+1))=qeA m (JX m k):=rfl
theorem qxv(m):qhg (m+1)=qhr m:=rfl
theorem qvL(m):yD (m+1)=qdt m (yD m) (Jl m (yD m) m):=rfl
theorem qlE(m k):(Jl m (yD m) (k+1))=qdm m (yD m) (Jl m (yD m) k):=rfl
theorem qvj(m):qgh (m+1)=qgU m:=rfl
theorem qud(m):qfc (m+1)=qfU m:=rfl
theorem qpX(m):zc (m+1)=qar m (zc m) (yI m (zc m) m):=rfl
theorem qg7(m k):(yI m (zc m) (k+1))=qap m (zc m) (yI m (zc m) k):=rfl
theorem qyw(m):qeP (m+1)=qhc m:=rfl
theorem qmD(m):qcY (m+1)=qa4 m:=rfl
theorem JP(m):za (m+1)=qP m (qu m m):=rfl
theorem yU(m k):(qu m (k+1))=qO m (qu m k):=rfl
theorem qq4(m):ym (m+1)=qd5 m:=rfl
theorem qef(m):yy (m+1)=QD m:=rfl
theorem qt7(m):zX (m+1)=qcK m (zX m) (jX m (zX m) m):=rfl
theorem qkf(m k):(jX m (zX m) (k+1))=qcy m (zX m) (jX m (zX m) k):=rfl
theorem qsZ(m):qeg (m+1)=qeY m:=rfl
theorem qoo(m):JN (m+1)=qcc m:=rfl
theorem qCb(m):qkR (m+1)=qge m (qbf m m):=rfl
theorem qqu(m k):(qbf m (k+1))=qgA m (qbf m k):=rfl
theorem qDJ(m):qjF (m+1)=ql7 m:=rfl
theorem qnO(m):Jj (m+1)=qbH m:=rfl
theorem qkI(m):jw (m+1)=qat m:=rfl
theorem qmu(m):QY (m+1)=qbi m:=rfl
theorem qDP(m):qmU (m+1)=qlR m:=rfl
theorem qnR(m):zh (m+1)=qbB m:=rfl
theorem qnG(m):Jb (m+1)=JM m (yg m m):=rfl
theorem qbC(m k):(yg m (k+1))=Qg m (yg m k):=rfl
theorem qcq(m):qw (m+1)=Qh m:=rfl
theorem qnX(m):jy (m+1)=qpN (qw m) m:=rfl
theorem qs6(m):qej (m+1)=qeI m:=rfl
theorem qku(m):yx (m+1)=qaA m:=rfl
theorem qx0(m):qa8 (m+1)=qhI m:=rfl
theorem qC4(m):yW (m+1)=qgt m (yW m) (qa9 m (yW m) m):=rfl
theorem qqt(m k):(qa9 m (yW m) (k+1))=qgC m (yW m) (qa9 m (yW m) k):=rfl
theorem qwU(m):zN (m+1)=qdC m (zN m) (Jg m (zN m) m):=rfl
theorem ql1(m k):(Jg m (zN m) (k+1))=qdi m (zN m) (Jg m (zN m) k):=rfl
theorem qCe(m):Ji (m+1)=qj1 m:=rfl
theorem qmc(m):Qt (m+1)=qaP m:=rfl
theorem qye(m):je (m+1)=qex m (je m) (J3 m (je m) m):=rfl
theorem qnB(m k):(J3 m (je m) (k+1))=qed m (je m) (J3 m (je m) k):=rfl
theorem qEc(m):qm7 (m+1)=qhC m (qcs m m):=rfl
theorem qrD(m k):(qcs m (k+1))=qhi m (qcs m k):=rfl
theorem qEo(m):qmZ (m+1)=qh3 m (qcg m m):=rfl
theorem qrv(m k):(qcg m (k+1))=qhX m (qcg m k):=rfl
theorem qDL(m):qnh (m+1)=qly m:=rfl
theorem qmA(m):qam (m+1)=qbc m:=rfl
theorem qAA(m):jk (m+1)=qfs m (jk m) (qau m (jk m) m):=rfl
theorem qoQ(m k):(qau m (jk m) (k+1))=qfz m (jk m) (qau m (jk m) k):=rfl
theorem qxK(m):qe9 (m+1)=qhp m:=rfl
theorem qzT(m):qjd (m+1)=qiC m:=rfl
theorem qw5(m):qaj (m+1)=qet m (JU m m):=rfl
theorem qnv(m k):(JU m (k+1))=qem m (JU m k):=rfl
theorem qC6(m):qkw (m+1)=qjM m:=rfl
theorem qAg(m):jM (m+1)=qfd m (jM m) (qaw m (jM m) m):=rfl
theorem qok(m k):(qaw m (jM m) (k+1))=qff m (jM m) (qaw m (jM m) k):=rfl
theorem qz2(m):jp (m+1)=qiK m:=rfl
theorem qAV(m):qfe (m+1)=qgg m (qbp m m):=rfl
theorem qqp(m k):(qbp m (k+1))=qgk m (qbp m k):=rfl
theorem qBm(m):qkN (m+1)=qgD m (qbk m m):=rfl
theorem qqA(m k):(qbk m (k+1))=qgn m (qbk m k):=rfl
theorem qxB(m):qhb (m+1)=qer m (JV m m):=rfl
theorem qni(m k):(JV m (k+1))=qeh m (JV m k):=rfl
theorem qAv(m):jn (m+1)=qfK m (jn m) (Jy m (jn m) m):=rfl
theorem qoE(m k):(Jy m (jn m) (k+1))=qfB m (jn m) (Jy m (jn m) k):=rfl
theorem qz8(m):qdY (m+1)=qiN m:=rfl
theorem qDI(m):Ql (m+1)=qih m (Ql m) (qcr m (Ql m) m):=rfl
theorem qrd(m k):(qcr m (Ql m) (k+1))=qh2 m (Ql m) (qcr m (Ql m) k):=rfl
theorem qEi(m):qjJ (m+1)=qhm m (qco m m):=rfl
theorem qrO(m k):(qco m (k+1))=qia m (qco m k):=rfl
theorem qDN(m):qnc (m+1)=qh1 m (qcl m m):=rfl
theorem qri(m k):(qcl m (k+1))=qhH m (qcl m k):=rfl
theorem qCn(m):qkJ (m+1)=qgo m (qa3 m m):=rfl
theorem qqC(m k):(qa3 m (k+1))=qgz m (qa3 m k):=rfl
theorem qBx(m):qkS (m+1)=qjX m:=rfl
theorem qxm(m):qhE (m+1)=qhM m:=rfl
theorem qD2(m):Qo (m+1)=qlJ m:=rfl
theorem qGu(m):qca (m+1)=qnI m:=rfl
theorem qu7(m):qgj (m+1)=qgT m:=rfl
theorem qAj(m):qje (m+1)=qfG m (qaB m m):=rfl
theorem qn9(m k):(qaB m (k+1))=qfx m (qaB m k):=rfl
theorem qCr(m):qkt (m+1)=qjQ m:=rfl
theorem qEm(m):qnC (m+1)=qho m (qcn m m):=rfl
theorem qsi(m k):(qcn m (k+1))=qhn m (qcn m k):=rfl
theorem qx4(m):qhF (m+1)=qee m (JZ m m):=rfl
theorem qmK(m k):(JZ m (k+1))=qel m (JZ m k):=rfl
theorem qDv(m):qhO (m+1)=qgx m (qai m m):=rfl
theorem qqD(m k):(qai m (k+1))=qgm m (qai m k):=rfl
theorem quC(m):z8 (m+1)=qcz m (z8 m) (jV m (z8 m) m):=rfl
theorem qki(m k):(jV m (z8 m) (k+1))=qcM m (z8 m) (jV m (z8 m) k):=rfl
theorem qCZ(m):qkY (m+1)=qjN m:=rfl
theorem qDY(m):qnn (m+1)=qig m (qcu m m):=rfl
theorem qr4(m k):(qcu m (k+1))=qhS m (qcu m k):=rfl
theorem qvA(m):qbN (m+1)=qgK m:=rfl
theorem qz7(m):jo (m+1)=qfv m (jo m) (Jv m (jo m) m):=rfl
theorem qop(m k):(Jv m (jo m) (k+1))=qfi m (jo m) (Jv m (jo m) k):=rfl
theorem qD7(m):qjp (m+1)=qh4 m (J4 m m):=rfl
theorem qr8(m k):(J4 m (k+1))=qhQ m (J4 m k):=rfl
theorem qwK(m):yk (m+1)=qdr m (yk m) (Qm m (yk m) m):=rfl
theorem qlX(m k):(Qm m (yk m) (k+1))=qdk m (yk m) (Qm m (yk m) k):=rfl
theorem qFW(m):qiy (m+1)=qnT m:=rfl
theorem qAt(m):qd0 (m+1)=qfH m (Jx m m):=rfl
theorem qos(m k):(Jx m (k+1))=qfF m (Jx m k):=rfl
theorem quJ(m):qft (m+1)=qcH m (ql m m).1 (ql m m).2.1 (ql m m).2.2.1 (ql m m).2.2.2:=rfl
theorem qkk(m k):(ql m (k+1)).1=qcC m (ql m k).1 (ql m k).2.1 (ql m k).2.2.1 (ql m k).2.2.2:=rfl
theorem qko(m k):(ql m (k+1)).2.1=qcF m (ql m k).1 (ql m k).2.1 (ql m k).2.2.1 (ql m k).2.2.2:=rfl
theorem qkp(m k):(ql m (k+1)).2.2.1=qcx m (ql m k).1 (ql m k).2.1 (ql m k).2.2.1 (ql m k).2.2.2:=rfl
theorem qkj(m k):(ql m (k+1)).2.2.2=qcB m (ql m k).1 (ql m k).2.1 (ql m k).2.2.1 (ql m k).2.2.2:=rfl
theorem qCU(m):qdD (m+1)=qjP m:=rfl
theorem qv6(m):qdT (m+1)=qgI m:=rfl
theorem qwp(m):qgd (m+1)=qdq m (Jh m m):=rfl
theorem qlx(m k):(Jh m (k+1))=qdJ m (Jh m k):=rfl
theorem qDV(m):qmR (m+1)=qif m (qaY m m):=rfl
theorem qr1(m k):(qaY m (k+1))=qic m (qaY m k):=rfl
theorem qAb(m):qi9 (m+1)=qiZ m:=rfl
theorem qxA(m):jg (m+1)=qen m (jg m) (JS m (jg m) m):=rfl
theorem qnF(m k):(JS m (jg m) (k+1))=qea m (jg m) (JS m (jg m) k):=rfl
theorem qyp(m):qim (m+1)=qhx m:=rfl
theorem qzP(m):qf7 (m+1)=qfO m (qaz m m):=rfl
theorem qoM(m k):(qaz m (k+1))=qfE m (qaz m k):=rfl
theorem qzU(m):qjb (m+1)=qi1 m:=rfl
theorem qAu(m):qjl (m+1)=qfw m (qaC m m):=rfl
theorem qoh(m k):(qaC m (k+1))=qfk m (qaC m k):=rfl
theorem qvF(m):qdM (m+1)=qgH m:=rfl
theorem qAr(m):jl (m+1)=qfj m (jl m) (Jz m (jl m) m):=rfl
theorem qoa(m k):(Jz m (jl m) (k+1))=qfy m (jl m) (Jz m (jl m) k):=rfl
theorem qxW(m):qhY (m+1)=qhP m:=rfl
theorem qAF(m):qi6 (m+1)=qfN m (qav m m):=rfl
theorem qoH(m k):(qav m (k+1))=qfC m (qav m k):=rfl
theorem qBd(m):qhW (m+1)=qkb m:=rfl
theorem qpj(m):qb5 (m+1)=qcX m:=rfl
theorem qn5(m):Jo (m+1)=qbJ m:=rfl
theorem qkP(m):JL (m+1)=QB m (yd m m):=rfl
theorem qdW(m k):(yd m (k+1))=QC m (yd m k):=rfl
theorem qpL(m):jt (m+1)=qcR m:=rfl
theorem qnP(m):qaU (m+1)=qbE m:=rfl
theorem qDl(m):qk0 (m+1)=qjZ m:=rfl
theorem qlG(m):qdw (m+1)=qbK m (jG m m):=rfl
theorem qqF(m k):(jG m (k+1))=qgi m (jG m k):=rfl
theorem qB8(m):qdl (m+1)=qgu m (qa5 m m):=rfl
theorem qzL(m k):(qa5 m (k+1))=qjY m (qa5 m k):=rfl
theorem qh7(m):qW (m+1)=qax m (qW m) (Qu m (qW m) m):=rfl
theorem qj7(m k):(Qu m (qW m) (k+1))=qdO m (qW m) (Qu m (qW m) k):=rfl
theorem qxE(m):qh0 (m+1)=qhN m:=rfl
theorem qmx(m):qas (m+1)=qbl m:=rfl
theorem qpw(m):qbQ (m+1)=qcW m:=rfl
theorem qoB(m):qbz (m+1)=qcp m:=rfl
theorem qn7(m):qaT (m+1)=JH m (yM m m):=rfl
theorem qfQ(m k):(yM m (k+1))=JF m (yM m k):=rfl
theorem qmH(m):qan (m+1)=Jf m (yw m m):=rfl
theorem qeE(m k):(yw m (k+1))=Jp m (yw m k):=rfl
theorem qoC(m):qbu (m+1)=qch m:=rfl
theorem qHt(m):qoZ (m+1)=qnU m:=rfl
theorem qwa(m):qgp (m+1)=qdv m (Jn m m):=rfl
theorem qmb(m k):(Jn m (k+1))=qdA m (Jn m k):=rfl
theorem qqJ(m):law31_NetworkOnce (m+1)=qaO m (qH m m).1 (qH m m).2:=rfl
theorem qib(m k):(qH m (k+1)).1=qaS m (qH m k).1 (qH m k).2:=rfl
end Go.AmZ
namespace Go.AmZ
open Go Go.GxZ
def ckS(p:Int × Int)(c:UInt8):Int × Int:=((p.1+c.toNat) % 65521,(p.2+(p.1+c.toNat) % 65521) % 65521)
def ckF(l:List UInt8):Int × Int:=l.foldl ckS (1,0)
def InC(p:Int × Int):Prop:=0<=p.1/\p.1<65521/\0<=p.2/\p.2<65521
theorem qNU{p:Int × Int}(c:UInt8)(h:InC p):InC (ckS p c):=by
 obtain⟨e,d,b,a⟩:=h;unfold ckS InC;simp only;omega
theorem quY:∀(l:List UInt8) (p:Int × Int),InC p->InC (l.foldl ckS p)
 | [],_,h=>h
 | c::l,p,h=>quY l _ (qNU c h)
theorem qwL(l:List UInt8):InC (ckF l):=quY l _ (by unfold InC;omega)
theorem qEH{p:Int × Int}(c:UInt8)(h:InC p):jr (iw .u32 (qe p.1 (iw .u32 ((UInt8.toNat c:Nat):Int)))) 65521=(ckS p c).1 /\
  jr (iw .u32 (qe p.2 (jr (iw .u32 (qe p.1 (iw .u32 ((UInt8.toNat c:Nat):Int)))) 65521))) 65521=(ckS p c).2:=by
 obtain⟨j,i,g,f⟩:=h;have e:c.toNat<256:=c.toNat_lt;have e1:iw .u32 ((UInt8.toNat c:Nat):Int)=((UInt8.toNat c:Nat):Int):=IntWalk.u32_in _ (by omega);have d:iw .u32 (qe p.1 ((UInt8.toNat c:Nat):Int))=p.1+((UInt8.toNat c:Nat):Int):=IntWalk.u32_in _ (by unfold qe;omega);have b:jr (p.1+((UInt8.toNat c:Nat):Int)) 65521=(p.1+((UInt8.toNat c:Nat):Int)) % 65521:=IntWalk.rem_in _ _ (by omega);rw[e1,d,b];refine⟨rfl,?_⟩;have a:iw .u32 (qe p.2 ((p.1+((UInt8.toNat c:Nat):Int)) % 65521))=p.2+(p.1+((UInt8.toNat c:Nat):Int)) % 65521:=IntWalk.u32_in _ (by unfold qe;omega);rw[a];exact IntWalk.rem_in _ _ (by omega)
def ckN(p:Int × Int):Int:=65536*p.2+p.1
theorem qPE{p:Int × Int}(h:InC p):qmj .or .u32 (qxU .u32 p.2 16) p.1=ckN p:=by
 obtain⟨h1,h2,h3,h4⟩:=h;obtain⟨a,ha⟩:=ko h1;obtain⟨b,hb⟩:=ko h3
 have e1:qxU .u32 p.2 16=((b*65536:Nat):Int):=by
  show IntKind.u32.wrap (p.2*2 ^ (min (16:Int).toNat 32))=_;rw[show(2:Int) ^ (min (16:Int).toNat 32)=65536 from rfl,IntWalk.u32_in _ (by omega),hb];omega
 rw[e1,ha];show IntKind.u32.wrap ((BitVec.ofInt 32 ((b*65536:Nat):Int) ||| BitVec.ofInt 32 (a:Int)).toNat:Int)=_
 have e2:(BitVec.ofInt 32 ((b*65536:Nat):Int) ||| BitVec.ofInt 32 (a:Int)).toNat=b*65536+a:=by
  rw[BitVec.ofInt_natCast,BitVec.ofInt_natCast,BitVec.toNat_or,BitVec.toNat_ofNat,BitVec.toNat_ofNat,xr (by omega),xr (by omega)];have:=Nat.two_pow_add_eq_or_of_lt (i:=16) (b:=a) (by omega) b;rw[show(2:Nat) ^ 16=65536 from rfl]at this;rw[xF b 65536];exact this.symm
 rw[e2,IntWalk.u32_in _ (by omega)];unfold ckN;omega
theorem qN2{p:Int × Int}(h:InC p):iw .u32 (qe (iw .u32 (qtu 65536 p.2)) p.1)=ckN p:=by
 obtain⟨d,c,b,a⟩:=h;have e1:iw .u32 (qtu 65536 p.2)=65536*p.2:=IntWalk.u32_in _ (by unfold qtu;omega);rw[e1];exact IntWalk.u32_in _ (by unfold qe;omega)
theorem qJq{p:Int × Int}(h:InC p):0<=ckN p/\ckN p<4294967296:=by
 obtain⟨d,c,b,a⟩:=h;unfold ckN;omega
theorem qwE{l:List UInt8}{i:Nat}{x:UInt8}(h:l[i]?=some x)(p:Int × Int):(l.take (i+1)).foldl ckS p=ckS ((l.take i).foldl ckS p) x:=by
 rw[List.take_succ_eq_append_getElem (List.getElem?_eq_some_iff.1 h).1,xe,(List.getElem?_eq_some_iff.1 h).2];rfl
theorem qI5(s:List UInt8)(d:s.length<2 ^ 62):Ev (λ m _=>qkR m s) (ckN (ckF s)):=by
 refine waz ?_;simp only[qCb,qge]
 have a:=qr (P := λ i=>Ev (λ m k=>qbf m k s ((s.take i).foldl ckS (1,0)).1 ((s.take i).foldl ckS (1,0)).2 s.length i) (ckN (ckF s))) s d
  (λ b=>by
   refine waA ?_;simp only[qqu,qgA];refine wav b (way ?_);rw[wC];exact qPE (qwL s))
  (λ i x c j b f e g=>by
   refine waA ?_;simp only[qqu,qgA];refine wau b (waw f ?_);obtain⟨e1,h⟩:=qEH x (quY (s.take i) (1,0) (by unfold InC;omega));rw[e,h,e1,<- qwE c];exact g)
 exact waB (L := λ m k=>qbf m k s 1 0 s.length 0) (a 0 (we _))
theorem qGZ(s:List UInt8)(d:s.length<2 ^ 62):Ev (λ m _=>qi6 m s) (ckN (ckF s)):=by
 refine waz ?_;simp only[qAF,qfN]
 have a:=qr (P := λ i=>Ev (λ m k=>qav m k s ((s.take i).foldl ckS (1,0)).1 ((s.take i).foldl ckS (1,0)).2 i) (ckN (ckF s))) s d
  (λ b=>by
   refine waA ?_;simp only[qoH,qfC];refine wav b (way ?_);rw[wC];exact qN2 (qwL s))
  (λ i x c j b f e g=>by
   refine waA ?_;simp only[qoH,qfC];refine wau b (waw f ?_);obtain⟨e1,h⟩:=qEH x (quY (s.take i) (1,0) (by unfold InC;omega));rw[e,h,e1,<- qwE c];exact g)
 exact waB (L := λ m k=>qav m k s 1 0 0) (a 0 (we _))
def ckB(v:Int):List UInt8:=zM [v / 16777216 % 256,v / 65536 % 256,v / 256 % 256,v % 256]
def qja(s:List UInt8):List UInt8:=ckB (ckN (ckF s))++s
theorem qIM(s:List UInt8):(qja s).length=s.length+4:=by
 unfold qja ckB zM;rw[wc,wA];show 4+s.length=_;omega
theorem qF1{v:Int}(n:Nat)(hn:n<=32):qbG .u32 v (n:Int)=v / (2:Int) ^ n:=by
 show v.fdiv (2 ^ (min ((n:Nat):Int).toNat 32))=_;rw[wF,kK hn];exact vV v (by exact Int.le_of_lt (Int.pow_pos (by decide)))
theorem iw8(v:Int):iw .u8 v=v % 256:=IntKind.wrap_u8 v
theorem qGa{v:Int}(h:0<=v/\v<4294967296):zM [iw .u8 (qbG .u32 v 24),iw .u8 (qbG .u32 v 16),iw .u8 (qbG .u32 v 8),iw .u8 v]=ckB v:=by
 have e1:=qF1 (v:=v) 24 (by omega);have b:=qF1 (v:=v) 16 (by omega);have a:=qF1 (v:=v) 8 (by omega);rw[show qbG .u32 v 24=v / 16777216 from e1,show qbG .u32 v 16=v / 65536 from b,show qbG .u32 v 8=v / 256 from a,iw8,iw8,iw8,iw8];rfl
theorem qEj{v:Int}(h:0<=v/\v<4294967296):zM [iw .u8 (iw .u32 (qiJ v 16777216)),iw .u8 (jr (iw .u32 (qiJ v 65536)) 256),iw .u8 (jr (iw .u32 (qiJ v 256)) 256),iw .u8 (jr v 256)]=ckB v:=by
 have q:∀ d:Int,0<d->iw .u32 (qiJ v d)=v / d := λ d a=>IntWalk.u32_quo v d ⟨h.1,by omega,by omega⟩;have r:∀ x:Int,0<=x->jr x 256=x % 256 := λ x c=>IntWalk.rem_in _ _ c;have b:∀ d:Int,0<d->0<=v / d := λ d a=>Int.ediv_nonneg h.1 (Int.le_of_lt a);rw[q _ (by omega),q _ (by omega),q _ (by omega),r _ (b _ (by omega)),r _ (b _ (by omega)),r _ h.1,iw8,iw8,iw8,iw8,waq,waq,waq];rfl
theorem qiY{a b:List UInt8}(h:a.length+b.length<2 ^ 62):qgB a b=true:=by
 unfold qgB;rw[decide_eq_true_iff,show IntKind.i64.max=9223372036854775807 from rfl];omega
theorem qFy(s:List UInt8)(a:s.length<=2 ^ 61):Ev (λ m _=>qjF m s) (qja s):=by
 refine waz ?_;simp only[qDJ,ql7];refine war (qI5 s (by omega)) ?_;rw[qGa (qJq (qwL s))];exact wau (qiY (by show 4+s.length<_;omega)) (wat _)
theorem qBc(s:List UInt8)(a:s.length<=2 ^ 61):Ev (λ m _=>qhW m s) (qja s):=by
 refine waz ?_;simp only[qBd,qkb];refine war (qGZ s (by omega)) ?_;rw[qEj (qJq (qwL s))];exact wau (qiY (by show 4+s.length<_;omega)) (wat _)
end Go.AmZ
namespace Go.GxZ
def size:T->Nat:=T.para λ _ a=>1+a.sum
theorem qL(t:T):size t=1+(t.kids.map size).sum:=T.para_eq _ _
theorem size_pos(t:T):1<=size t:=by rw[qL];omega
theorem qF7(l:List T):l.length<=(l.map size).sum:=by
 induction l with
 | nil=>simp
 | cons x l a=>have:=size_pos x;simp only[wu,wo,kD];omega
theorem qkA(l:List T)(x:T)(h:x∈l):size x<=(l.map size).sum:=by
 induction l with
 | nil=>cases h
 | cons y l a =>
   simp only[wo,kD];rcases wx.1 h with rfl | h
   ·omega
   ·have:=a h;omega
theorem jI(t:T)(x:T)(h:x∈t.kids):size x<size t:=by
 have:=qkA t.kids x h;rw[qL t];omega
theorem yA(t:T):t.kids.length<size t:=by
 have:=qF7 t.kids;rw[qL t];omega
def sgn(a b:Int):Int:=if a<b then -1 else if b<a then 1 else 0
def thn(x y:Int):Int:=if x=0 then y else x
structure Cmp {α : Type} (f : α -> α -> Int):Prop where
 rng:∀ a b,f a b=-1\/f a b=0\/f a b=1
 anti:∀ a b,f b a=- f a b
 trans:∀ a b c,f a b=-1->f b c=-1->f a c=-1
 same:∀ a b c,f a b=0->f b c=f a c
theorem Cmp.thn{α : Type}{f g : α -> α -> Int}(d:Cmp f)(l:Cmp g):Cmp λ a b=>thn (f a b) (g a b):=by
 constructor
 ·intro a b;have:=d.rng a b;have:=l.rng a b;unfold GxZ.thn;split<;>omega
 ·intro a b;have:=d.anti a b;have:=l.anti a b;unfold GxZ.thn;split<;>split<;>omega
 ·intro a b c k j;have p:=d.anti a b;have a2:=d.anti b c;have a3:=d.anti a c;have n:=d.trans a b c;have t2:=l.trans a b c;have m:=d.same a b c;have s2:=d.same c b a;have o:=d.rng a b;have r2:=d.rng b c;have r3:=d.rng a c;unfold GxZ.thn at k j |-
  by_cases i:f a b=0
  ·by_cases e:f b c=0
   ·rw[if_pos i]at k;rw[if_pos e]at j;rw[if_pos (by rw[<- m i];exact e)];exact t2 k j
   ·rw[if_neg e]at j;rw[if_neg (by rw[<- m i];exact e),<- m i];exact j
  ·rw[if_neg i]at k;by_cases e:f b c=0
   ·have:=s2 (by omega);rw[if_neg (by omega)];omega
   ·rw[if_neg e]at j;have:=n k j;rw[if_neg (by omega)];exact this
 ·intro a b c h
  have i:f a b=0:=by
   unfold GxZ.thn at h;split at h
   ·assumption
   ·exact absurd h (by assumption)
  have e:g a b=0:=by
   unfold GxZ.thn at h
   rwa [if_pos i]at h
  show GxZ.thn _ _=GxZ.thn _ _;rw[d.same a b c i,l.same a b c e]
theorem Cmp.on{α d:Type}{f:d->d->Int}(c:Cmp f)(p : α -> d):Cmp λ a b=>f (p a) (p b) :=
 ⟨λ _ _=>c.rng _ _,λ _ _=>c.anti _ _,λ _ _ _=>c.trans _ _ _,λ _ _ _=>c.same _ _ _⟩
theorem qsL:Cmp sgn:=by
 constructor
 ·intro a b;unfold sgn;split<;>(try split)<;>omega
 ·intro a b;unfold sgn;split<;>split<;>(try split)<;>omega
 ·intro a b c;unfold sgn;split<;>split<;>(try split)<;>(try split)<;>omega
 ·intro a b c;unfold sgn;split<;>split<;>(try split)<;>(try split)<;>omega
theorem qlq{a b:Int}(h:sgn a b=0):a=b:=by unfold sgn at h;split at h<;>(try split at h)<;>omega
theorem qLN(a:Int):sgn a a=0:=by unfold sgn;split<;>(try split)<;>omega
open Lib (compareBytes)
theorem qzu(a:List UInt8):compareBytes a a=0:=by
 induction a with
 | nil=>rfl
 | cons x a b=>simp[compareBytes,b]
theorem qpH:∀ a b:List UInt8,compareBytes a b=-1\/compareBytes a b=0\/compareBytes a b=1
 | [],[]=>by simp[compareBytes]
 | [],_::_=>by simp[compareBytes]
 | _::_,[]=>by simp[compareBytes]
 | x::a,y::b=>by
   unfold compareBytes;split
   ·simp
   ·split
    ·simp
    ·exact qpH a b
theorem qzs:∀ a b:List UInt8,compareBytes b a=- compareBytes a b
 | [],[]=>by simp[compareBytes]
 | [],_::_=>by simp[compareBytes]
 | _::_,[]=>by simp[compareBytes]
 | x::a,y::b=>by
   have:=qzs a b;unfold compareBytes;simp only[va];split<;>split<;>(try split)<;>omega
theorem qnb:∀ a b:List UInt8,compareBytes a b=0->a=b
 | [],[],_=>rfl
 | [],_::_,h=>by simp[compareBytes]at h
 | _::_,[],h=>by simp[compareBytes]at h
 | x::a,y::b,h=>by
   unfold compareBytes at h;simp only[va]at h;split at h
   ·omega
   ·split at h
    ·omega
    ·rw[qnb a b h,UInt8.toNat_inj.1 (show x.toNat=y.toNat by omega)]
theorem qvn:∀ a b c:List UInt8,compareBytes a b=-1->compareBytes b c=-1->compareBytes a c=-1
 | [],_,[],h1,h2=>by
   rename_i b;cases b<;>simp[compareBytes]at h1 h2
 | [],_,_::_,_,_=>by simp[compareBytes]
 | _::_,[],_,h1,_=>by simp[compareBytes]at h1
 | _::_,_::_,[],_,h2=>by simp[compareBytes]at h2
 | x::a,y::b,z::c,h1,h2=>by
   have ih:=qvn a b c;unfold compareBytes at h1 h2 |-
   simp only[va]at h1 h2 |-
   split at h1
   ·split at h2
    ·rw[if_pos (by omega)]
    ·split at h2
     ·omega
     ·rw[if_pos (by omega)]
   ·split at h1
    ·omega
    ·split at h2
     ·rw[if_pos (by omega)]
     ·split at h2
      ·omega
      ·rw[if_neg (by omega),if_neg (by omega)];exact ih h1 h2
theorem qKW:Cmp compareBytes :=
 ⟨qpH,qzs,qvn,λ a b c h=>by rw[qnb a b h]⟩
def Jk:List (T->Int)->List T->Int
 | r::a,b::c=>thn (r b) (Jk a c)
 | _,_=>0
def qj6(a b:T):Int :=
 thn (sgn (size a) (size b)) (thn (sgn a.kind b.kind) (thn (compareBytes a.name b.name) (thn (sgn a.sort b.sort) (sgn a.kids.length b.kids.length))))
def qt:T->T->Int:=T.para λ a c b=>thn (qj6 a b) (Jk c b.kids)
theorem qgW(a b:T):qt a b=thn (qj6 a b) (Jk (a.kids.map qt) b.kids):=congrFun (T.para_eq _ _) b
theorem qeW:Cmp qj6 :=
 (qsL.on λ t:T=>(size t:Int)).thn ((qsL.on T.kind).thn ((qKW.on T.name).thn ((qsL.on T.sort).thn (qsL.on λ t:T=>(t.kids.length:Int)))))
theorem qgG{x y:Int}(h:thn x y=0):x=0/\y=0:=by unfold thn at h;split at h<;>omega
theorem qrG{a b:T}(h:qj6 a b=0):a.kind=b.kind/\a.name=b.name/\a.sort=b.sort/\a.kids.length=b.kids.length:=by
 unfold qj6 at h;obtain⟨_,h⟩:=qgG h;obtain⟨f,h⟩:=qgG h;obtain⟨e,h⟩:=qgG h;obtain⟨d,c⟩:=qgG h;have:=qlq c;exact⟨qlq f,qnb _ _ e,qlq d,by omega⟩
theorem qIb(a:T):qj6 a a=0:=by
 unfold qj6 thn;simp[qLN,qzu]
theorem T.ext{a b:T}(f:a.kind=b.kind)(e:a.name=b.name)(d:a.sort=b.sort)(c:a.kids=b.kids):a=b:=by
 obtain⟨k,n,s,l⟩:=a;obtain⟨j,h,g,i⟩:=b;simp only[T.kind,T.name,T.sort,T.kids]at f e d c;rw[f,e,d,c]
theorem qr6(a:T):qt a a=0:=by
 refine T.ind (P := λ a=>qt a a=0) ?_ a;intro a c;rw[qgW,qIb,thn,if_pos rfl];generalize a.kids=l at *
 induction l with
 | nil=>rfl
 | cons x l b =>
   rw[wo,Jk,c x (wh ..),thn,if_pos rfl];exact b λ k d=>c k (wg _ d)
theorem qaX(a:T):∀ b,qt a b=0->a=b:=by
 refine T.ind (P := λ a=>∀ b,qt a b=0->a=b) ?_ a;intro a e b h;rw[qgW]at h;obtain⟨g,f⟩:=qgG h;obtain⟨n,j,i,c⟩:=qrG g;refine T.ext n j i ?_;generalize a.kids=l at *;generalize b.kids=m at *;clear h g
 induction l generalizing m with
 | nil=>exact(kt.1 c.symm).symm
 | cons x l d =>
   cases m with
   | nil=>simp at c
   | cons y m =>
     rw[wo,Jk]at f;obtain⟨q,p⟩:=qgG f;rw[e x (wh ..) y q,d (λ k o=>e k (wg _ o)) m p (by simpa using c)]
def qva(a:T):Prop:=(∀ b,qt a b=-1\/qt a b=0\/qt a b=1)/\(∀ b,qt b a=- qt a b)/\(∀ b c,qt a b=-1->qt b c=-1->qt a c=-1)
theorem qBR:∀ l m:List T,(∀ k∈l,qva k)->Jk (l.map qt) m=-1\/Jk (l.map qt) m=0\/Jk (l.map qt) m=1
 | [],_,_=>by simp[Jk]
 | _::_,[],_=>by simp[Jk]
 | x::l,y::m,h=>by
   rw[wo,Jk];have c:=(h x (wh ..)).1 y;have b:=qBR l m λ k a=>h k (wg _ a);unfold thn;split<;>omega
theorem qzG:∀ l m:List T,(∀ k∈l,qva k)->Jk (m.map qt) l=- Jk (l.map qt) m
 | [],[],_=>by simp[Jk]
 | [],_::_,_=>by simp[Jk]
 | _::_,[],_=>by simp[Jk]
 | x::l,y::m,h=>by
   rw[wo,Jk,wo,Jk];have c:=(h x (wh ..)).2.1 y;have b:=qzG l m λ k a=>h k (wg _ a);unfold thn;split<;>split<;>omega
theorem qvh:∀ l m n:List T,(∀ k∈l,qva k)->l.length=m.length->m.length=n.length->Jk (l.map qt) m=-1->Jk (m.map qt) n=-1->Jk (l.map qt) n=-1
 | [],_,_,_,_,_,h,_=>by simp[Jk]at h
 | _::_,[],_,_,h,_,_,_=>by simp at h
 | _::_,_::_,[],_,_,h,_,_=>by simp at h
 | x::l,y::m,z::n,h,e1,j,b,a=>by
   rw[wo,Jk]at b a |-
   have g:=h x (wh ..);have f:=qvh l m n (λ k i=>h k (wg _ i)) (by simpa using e1) (by simpa using j);have e:=g.2.2 y z;by_cases d:qt x y=0
   ·have:=qaX x y d;subst this;rw[thn,if_pos d]at b;by_cases c:qt x z=0
    ·rw[thn,if_pos c]at a |-
     exact f b a
    ·rw[thn,if_neg c]at a |-
     exact a
   ·rw[thn,if_neg d]at b;by_cases c:qt y z=0
    ·have:=qaX y z c;subst this;rw[thn,if_neg d];exact b
    ·rw[thn,if_neg c]at a;have:=e b a;rw[thn,if_neg (by omega)];exact this
theorem qHj(a:T):qva a:=by
 refine T.ind (P:=qva) ?_ a;intro a i;refine⟨λ b=>?_,λ b=>?_,λ b c g d=>?_⟩
 ·rw[qgW];have g:=qeW.rng a b;have d:=qBR a.kids b.kids i;unfold thn;split<;>omega
 ·rw[qgW,qgW];have g:=qeW.anti a b;have d:=qzG a.kids b.kids i;unfold thn;split<;>split<;>omega
 ·rw[qgW]at g d |-
  by_cases h:qj6 a b=0
  ·rw[thn,if_pos h]at g;have e:=qeW.same a b c h;by_cases f:qj6 b c=0
   ·rw[thn,if_pos f]at d;rw[thn,if_pos (by rw[<- e];exact f)];exact qvh _ _ _ i (qrG h).2.2.2 (qrG f).2.2.2 g d
   ·rw[thn,if_neg f]at d;rw[thn,if_neg (by rw[<- e];exact f),<- e];exact d
  ·rw[thn,if_neg h]at g;by_cases f:qj6 b c=0
   ·have e1:=qeW.anti b c;have l:=qeW.same c b a (by omega);have k:=qeW.anti a b;have j:=qeW.anti a c;rw[thn,if_neg (by omega)];omega
   ·rw[thn,if_neg f]at d;have:=qeW.trans a b c g d;rw[thn,if_neg (by omega)];exact this
theorem ye:Cmp qt :=
 ⟨λ a=>(qHj a).1,λ a b=>(qHj a).2.1 b,λ a=>(qHj a).2.2,λ a b c h=>by rw[qaX a b h]⟩
theorem qKm(a b:T):qt a b=0↔a=b:=⟨qaX a b,λ h=>by rw[h];exact qr6 b⟩
theorem qqB:∀ a b:List UInt8,Op.bytesLess a b=decide (compareBytes a b=-1)
 | [],[]=>by simp[Op.bytesLess,compareBytes]
 | [],_::_=>by simp[Op.bytesLess,compareBytes]
 | _::_,[]=>by simp[Op.bytesLess,compareBytes]
 | x::a,y::b=>by
   rw[Op.bytesLess,compareBytes,qqB a b];by_cases d:x<y
   ·simp[d]
   ·by_cases c:y<x
    ·have:¬ x=y := λ e=>by rw[e]at c;exact d (by rw[e];exact c)
     simp[d,c,this]
    ·have:x=y:=UInt8.toNat_inj.1 (by rw[va]at d c;omega);simp[this]
end Go.GxZ
namespace Go.GxZ
def qmq:List (Int->Int)->Int->Int
 | [],m=>m
 | f::a,m=>if f m<0 then -1 else qmq a (f m)
def qbD:T->Int->Int:=T.para λ t a m=>if m<=0\/40<t.name.length then -1 else qmq a (m-1)
theorem qFT(t:T)(m:Int):qbD t m=if m<=0\/40<t.name.length then -1 else qmq (t.kids.map qbD) (m-1):=congrFun (T.para_eq _ _) m
theorem qqX(t:T):∀ m,qbD t m<0/\qbD t m=-1\/0<=qbD t m/\qbD t m=m-size t:=by
 refine T.ind (P := λ t=>∀ m,qbD t m<0/\qbD t m=-1\/0<=qbD t m/\qbD t m=m-size t) ?_ t;intro t e m
 have g:∀ l:List T,(∀ k∈l,k∈t.kids)->∀ m,0<=m->(qmq (l.map qbD) m<0/\qmq (l.map qbD) m=-1\/0<=qmq (l.map qbD) m/\qmq (l.map qbD) m=m-((l.map size).sum:Nat)):=by
  intro l
  induction l with
  | nil=>intro _ m b;right;simp[qmq];exact b
  | cons x l a =>
    intro c m b;simp only[wo,qmq,kD];have j:=e x (c x (wh ..)) m;by_cases d:qbD x m<0
    ·rw[if_pos d];left;exact⟨by omega,rfl⟩
    ·rw[if_neg d];have i:=a (λ k f=>c k (wg _ f)) (qbD x m) (by omega);omega
 rw[qFT,qL];split
 ·left;exact⟨by omega,rfl⟩
 ·have:=g t.kids (λ _ h=>h) (m-1) (by omega);omega
def qc2:T->Nat:=T.para λ _ a=>a.foldl max 0+1
theorem qk5(t:T):qc2 t=(t.kids.map qc2).foldl max 0+1:=T.para_eq _ _
theorem qCz(l:List Nat):∀(a b:Nat),a<=b->(∀ x∈l,x<=b)->l.foldl max a<=b:=by
 induction l with
 | nil=>intro a b h _;exact h
 | cons x l d=>intro a b h c;exact d _ _ (Nat.max_le.2 ⟨h,c x (wh ..)⟩) λ y e=>c y (wg _ e)
theorem qEC(t:T):qc2 t<=size t:=by
 refine T.ind (P := λ t=>qc2 t<=size t) ?_ t;intro t ih;rw[qk5,qL]
 have:(t.kids.map qc2).foldl max 0<=(t.kids.map size).sum:=by
  refine qCz _ _ _ (we _) λ x hx=>?_;obtain⟨k,hk,rfl⟩:=wy.1 hx;exact wD (ih k hk) (qkA _ _ hk)
 omega
def qfT(c:Int):Bool:=decide (97<=c/\c<=122)||decide (65<=c/\c<=90)
def qsk(c:Int):Bool:=decide (48<=c/\c<=57)
def Qp(c:Int):Bool:=qfT c||qsk c||decide (c=95)||decide (c=35)
def jP(l:List UInt8):Bool:=decide (0<l.length)&&decide (l.length<=24)&&qfT ((l.getD 0 0).toNat:Int)&&l.all λ c=>Qp (c.toNat:Int)
def qjk(k so:Int)(n:Nat)(a:Bool):Int :=
 if k=1\/k=2 then(if so<0\/5<so\/0<n then 1 else if a then 0 else 2)
 else if k=3 then(if so≠0 then 1 else if a then(if 8<n then 3 else 0)else 2)
 else 1
def jL(t:T):Int:=qjk t.kind t.sort t.kids.length (jP t.name)
def jO:T->Int:=T.para λ t a=>a.foldl thn (jL t)
theorem qju(t:T):jO t=(t.kids.map jO).foldl thn (jL t):=T.para_eq _ _
theorem QT{x:Int}(h:x≠0)(y:Int):thn x y=x:=if_neg h
theorem qT(l:List Int):∀{x:Int},x≠0->l.foldl thn x=x:=by
 induction l with
 | nil=>intro x _;rfl
 | cons y l a=>intro x h;rw[kg,QT h];exact a h
theorem QV(l:List Int)(x:Int):(x::l).foldl thn 0=l.foldl thn x:=rfl
theorem qnQ{t:T}(h:jO t=0):jL t=0/\(∀ k∈t.kids,jO k=0):=by
 rw[qju]at h;by_cases b:jL t=0
 ·refine⟨b,?_⟩;rw[b]at h;generalize t.kids=l at *;clear b
  induction l with
  | nil=>intro k a;cases a
  | cons x l d =>
    rw[wo,QV]at h;by_cases c:jO x=0
    ·rw[c]at h;intro k a;rcases wx.1 a with rfl | a
     ·exact c
     ·exact d h k a
    ·rw[qT _ c]at h;exact absurd h c
 ·rw[qT _ b]at h;exact absurd h b
def qS(t:T):Int:=if jO t≠0 then jO t else if 400<size t\/40<qc2 t then 3 else 0
instance:DecidableEq T := λ _ _=>Classical.propDecidable _
def jm(a b:T):Bool:=decide (a=b)
def qlO:List T->Int->Bool
 | [],_=>true
 | x::l,m=>if qbD x m<0 then false else qlO l (qbD x m)
theorem qyL:∀(l:List T) (m:Int),0<=m->qlO l m=true->((l.map size).sum:Nat)<=m
 | [],m,b,_=>by simpa using b
 | x::l,m,b,h=>by
   rw[qlO]at h;by_cases a:qbD x m<0
   ·rw[if_pos a]at h;exact absurd h (by decide)
   ·rw[if_neg a]at h;have d:=qqX x m;have c:=qyL l (qbD x m) (by omega) h;simp only[wo,kD];omega
def yV:List (List UInt8 × Int × Int × Int):=[
 ([112,97,105,114],2,2,1),
 ([101,110,99],2,2,1),
 ([97,101,110,99],2,2,1),
 ([112,107],1,1,1),
 ([115,105,103,110],2,2,1),
 ([104,97,115,104],1,1,1),
 ([120,111,114],2,8,1),
 ([122,101,114,111],0,0,1),
 ([101,120,112],2,2,1),
 ([109,117,108],2,8,1),
 ([105,110,118],1,1,1),
 ([111,110,101],0,0,1),
 ([115,107],1,1,2),
 ([115,104,107],2,2,2),
 ([110,101,119],1,8,2),
 ([102,115,116],1,1,3),
 ([115,110,100],1,1,3),
 ([100,101,99],2,2,3),
 ([97,100,101,99],2,2,3),
 ([111,112,101,110],2,2,3),
 ([114,101,97,100],1,1,3)]
def qw7(l:List (List UInt8 × Int × Int × Int))(n:List UInt8):Int × Int × Int:=((l.find? λ r=>r.1==n).map (·.2)).getD (0,0,0)
theorem qIr(r:List UInt8 × Int × Int × Int)(l:List (List UInt8 × Int × Int × Int))(n:List UInt8):qw7 (r::l) n=if(r.1==n)=true then r.2 else qw7 l n:=by
 unfold qw7;rw[List.find?_cons];cases h:r.1==n<;>simp
def qKP(l:List (List UInt8 × Int × Int × Int))(n:List UInt8):Bool:=l.any λ r=>r.1==n
def qnW(l:List (List UInt8 × Int × Int × Int))(n:List UInt8)(k:Int):Bool:=qKP l n&&decide ((qw7 l n).1<=k)&&decide (k<=(qw7 l n).2.1)
theorem qHW(r:List UInt8 × Int × Int × Int)(l:List (List UInt8 × Int × Int × Int))(n:List UInt8)(k:Int) :
  qnW (r::l) n k=if(r.1==n)=true then decide (r.2.1<=k)&&decide (k<=r.2.2.1)else qnW l n k:=by
 unfold qnW;rw[qIr];unfold qKP;rw[vW];cases h:r.1==n<;>simp
def qpV:List UInt8:=[112,97,105,114]
def qo9:List UInt8:=[101,110,99]
def qi5:List UInt8:=[97,101,110,99]
def nPk:List UInt8:=[112,107]
def qfn:List UInt8:=[115,105,103,110]
def qc4:List UInt8:=[120,111,114]
def qcG:List UInt8:=[122,101,114,111]
def qfZ:List UInt8:=[101,120,112]
def qe7:List UInt8:=[109,117,108]
def JD:List UInt8:=[105,110,118]
def qjV:List UInt8:=[111,110,101]
def nSk:List UInt8:=[115,107]
def quB:List UInt8:=[115,104,107]
def qik:List UInt8:=[110,101,119]
def qLp:List UInt8:=[102,115,116]
def qxr:List UInt8:=[115,110,100]
def qK3:List UInt8:=[100,101,99]
def qGq:List UInt8:=[97,100,101,99]
def qFV:List UInt8:=[111,112,101,110]
def qGO:List UInt8:=[114,101,97,100]
def zT:T := .mk 0 [] 0 []
def kid(t:T)(i:Nat):T:=t.kids.getD i zT
def apT(n:List UInt8)(l:List T):T := .mk 3 n 0 l
def isN(t:T)(n:List UInt8):Bool:=t.kind==3&&t.name==n
def qG(n:List UInt8):Int × Int × Int:=((yV.find? λ r=>r.1==n).map (·.2)).getD (0,0,0)
def qaJ(t:T):Bool :=
 if t.name=qik then decide ((kid t 0).kind≠2)
 else if t.name=nSk\/t.name=quB then t.kids.any λ k=>decide (k.kind=3)||decide (k.sort≠1)else false
def qc7(t:T):Int :=
 if t.kind≠3 then 0 else if(qG t.name).2.2=0 then 10 else if(t.kids.length:Int)<(qG t.name).1\/(qG t.name).2.1<(t.kids.length:Int)then 6 else if qaJ t then 10 else 0
def zl:T->Int:=T.para λ t a=>if t.kind≠3 then 0 else a.foldl thn (qc7 t)
theorem qoi(t:T):zl t=if t.kind≠3 then 0 else(t.kids.map zl).foldl thn (qc7 t):=T.para_eq _ _
def qci(t:T):Int:=thn (qS t) (zl t)
def yl(t:T):Bool :=
 if t.name=qLp\/t.name=qxr then isN (kid t 0) qpV
 else if t.name=qK3 then isN (kid t 0) qo9&&jm (kid (kid t 0) 1) (kid t 1)
 else if t.name=qGq then isN (kid t 0) qi5&&isN (kid (kid t 0) 1) nPk&&jm (kid (kid (kid t 0) 1) 0) (kid t 1)
 else if t.name=qFV then isN (kid t 0) qfn&&isN (kid t 1) nPk&&jm (kid (kid t 0) 1) (kid (kid t 1) 0)
 else if t.name=qGO then isN (kid t 0) qfn else false
def qj8(t:T):T:=if yl t then kid (kid t 0) (if t.name=qxr then 1 else 0)else t
def qdu(t:T):Bool:=t.kind==3&&(t.name==qe7||t.name==JD||t.name==qjV)
abbrev Pw:=T × Int
def yG:List Pw->T->Int->List Pw
 | [],t,n=>[(t,n)]
 | (x,m)::l,t,n=>if qt t x=-1 then(t,n)::(x,m)::l else if qt t x=0 then(if m+n=0 then l else(x,m+n)::l)else(x,m)::yG l t n
def arK(t:T):Bool := !(t.name==qjV&&t.kids.length != 0||t.name==JD&&t.kids.length != 1||t.name==qe7&&decide (t.kids.length<2))
def arT:T->Bool:=T.para λ t a => !qdu t||(arK t&&a.all id)
theorem qv1(t:T):arT t=(!qdu t||(arK t&&(t.kids.map arT).all id)):=T.para_eq _ _
def qbs(t:T)(n:Int):Int:=if t.name=JD then -n else n
def jC:T->List Pw->Int->List Pw:=T.para λ t a l n=>if qdu t then a.foldl (λ l f=>f l (qbs t n)) l else yG l t n
theorem qg1(t:T)(l:List Pw)(n:Int):jC t l n=if qdu t then(t.kids.map jC).foldl (λ l f=>f l (qbs t n)) l else yG l t n:=by
 have h:jC t = λ l n=>if qdu t then(t.kids.map jC).foldl (λ l f=>f l (qbs t n)) l else yG l t n:=T.para_eq _ _;rw[h]
def ofP(t:T):List Pw × Int :=
 if qS t≠0 then([],qS t)else if arT t=false then([],6)else if 200<(jC t [] 1).length then([],3)else(jC t [] 1,0)
def pvK(q:Option T)(p:Pw):Int :=
 if qS p.1≠0 then qS p.1 else if qdu p.1 then 1 else if p.2=0\/p.2 < -1000\/1000<p.2 then 7 else match q with | some x=>if 0<=qt x p.1 then 5 else 0 | none=>0
def pvL:Option T->List Pw->Int
 | _,[]=>0
 | q,p::l=>thn (pvK q p) (pvL (some p.1) l)
def JI(l:List Pw):Int:=if 200<l.length then 3 else pvL none l
def yj(l:List Pw):List T:=l.flatMap λ p=>List.replicate p.2.toNat p.1
def yo(l:List Pw):List T:=l.flatMap λ p=>List.replicate (-p.2).toNat (apT JD [p.1])
def qah(o:List T):T:=if o.length=0 then apT qjV []else if o.length=1 then o.getD 0 zT else apT qe7 o
def qbt(l:List Pw):T × Int :=
 if JI l≠0 then(zT,JI l)else if 8<(yj l++yo l).length then(zT,3)
 else if qS (qah (yj l++yo l))≠0 then(zT,qS (qah (yj l++yo l)))else(qah (yj l++yo l),0)
def qnL(l:List Pw):Bool:=l.any λ p=>decide (p.2 < -1000)||decide (1000<p.2)
def Q9(a b:List Pw):List Pw:=b.foldl (λ l p=>yG l p.1 p.2) a
def qmh(a b:List Pw):List Pw × Int :=
 if JI a≠0 then([],JI a)else if JI b≠0 then([],JI b)else if qnL (Q9 a b)then([],7)else if 200<(Q9 a b).length then([],3)else(Q9 a b,0)
def zm:List T->List T->List T
 | [],b=>b
 | x::a,[]=>x::a
 | x::a,y::b=>if qt x y=-1 then x::zm a (y::b)else if qt x y=1 then y::zm (x::a) b else zm a b
termination_by a b=>a.length+b.length
def Qc:T->List T:=T.para λ t a=>if isN t qcG&&t.kids.isEmpty then[]else if isN t qc4 then a.foldl zm []else[t]
theorem qlI(t:T):Qc t=if isN t qcG&&t.kids.isEmpty then[]else if isN t qc4 then(t.kids.map Qc).foldl zm []else[t]:=T.para_eq _ _
def qox(l:List T):Int:=if 200<l.length then 3 else(l.map qS).foldl thn 0
def zY(l:List T):List T:=(l.map Qc).foldl zm []
def qay(o:List T):T:=if o.length=0 then apT qcG []else if o.length=1 then o.getD 0 zT else apT qc4 o
def qp7(l:List T):T × Int :=
 if qox l≠0 then(zT,qox l)else if qS (qay (zY l))≠0 then(zT,3)else(qay (zY l),0)
def qiT(b:T)(l:List Pw):T × Int :=
 if l.length=0 then(b,0)else if(qbt l).2≠0 then(zT,(qbt l).2)else(apT qfZ [b,(qbt l).1],0)
def qp1(b e:T):T × Int :=
 if(ofP e).2≠0 then(zT,(ofP e).2)
 else if isN b qfZ then
  (if(ofP (kid b 1)).2≠0 then(zT,(ofP (kid b 1)).2)
   else if(qmh (ofP (kid b 1)).1 (ofP e).1).2≠0 then(zT,(qmh (ofP (kid b 1)).1 (ofP e).1).2)
   else qiT (kid b 0) (qmh (ofP (kid b 1)).1 (ofP e).1).1)
 else qiT b (ofP e).1
def isD(n:List UInt8):Bool:=n==qLp||n==qxr||n==qK3||n==qGq||n==qFV||n==qGO
def qno(t:T):T × Int:=if(ofP t).2≠0 then(zT,(ofP t).2)else qbt (ofP t).1
def qae(t:T):T × Int :=
 if isD t.name then(qj8 t,0)else if t.name=qc4 then qp7 t.kids
 else if t.name=qe7\/t.name=JD\/t.name=qjV then qno t
 else if t.name=qfZ then qp1 (kid t 0) (kid t 1)else(t,0)
def zO:T->T × Int:=T.para λ t a =>
 if t.kind≠3 then(t,0)else if(a.map (·.2)).foldl thn 0≠0 then(zT,(a.map (·.2)).foldl thn 0)else qae (apT t.name (a.map (·.1)))
theorem qon(t:T):zO t=if t.kind≠3 then(t,0)else if((t.kids.map zO).map (·.2)).foldl thn 0≠0 then(zT,((t.kids.map zO).map (·.2)).foldl thn 0)else qae (apT t.name ((t.kids.map zO).map (·.1))):=T.para_eq _ _
def qld(t:T):T × Int :=
 if qci t≠0 then(zT,qci t)else if(zO t).2≠0 then(zT,(zO t).2)else if qS (zO t).1≠0 then(zT,qS (zO t).1)else zO t
def agB(l:List T):Bool:=l.all λ k => !(k.kind==3) && !(k.sort != 1)
def qk6(t:T):Bool:=if t.name=qik then(kid t 0).kind==2 else agB t.kids
theorem qJX(k:T)(l:List T):agB (k::l)=((!(k.kind==3) && !(k.sort != 1))&&agB l):=rfl
end Go.GxZ
namespace Go.AmZ
open Go Go.GxZ Go.Lib
theorem qmT(a b:Int):Ev (λ m _=>qa8 m a b) (sgn a b):=by
 refine waz ?_;simp only[qx0,qhI];unfold sgn;refine wax (λ h=>?_) λ h=>?_
 ·exact way (by rw[if_pos (qp.1 h)])
 ·rw[qm]at h;refine wax (λ c=>?_) λ c=>?_
  ·rw[qp]at c;exact way (by rw[if_neg (by omega),if_pos c])
  ·rw[qm]at c;exact way (by rw[if_neg (by omega),if_neg (by omega)])
theorem qtP{l:List T}{i:Nat}{x:T}(h:l.drop i=x::l.drop (i+1)):((l.drop i).map size).sum=size x+((l.drop (i+1)).map size).sum:=by
 rw[h,wo,kD]
theorem qpb(t:T):size t<=1000000000->Ev (λ m _=>yW m t) (size t:Int):=by
 induction t using T.ind with
 | h t d =>
   intro p;refine waz ?_;simp only[qC4,qgt];have q:=yA t;have j:=qL t
   have b:=qr (P := λ i=>∀ a:Nat,a+((t.kids.drop i).map size).sum<=1000000000->Ev (λ m k=>qa9 m (yW m) k a i t.kind t.name t.sort t.kids) ((a+((t.kids.drop i).map size).sum:Nat):Int)) t.kids (by omega)
    (λ c a _=>by
     refine waA ?_;simp only[qqt,qgC];refine wav c ?_;exact way (by simp))
    (λ i x e l c g f o a n=>by
     rw[qtP l]at n |-
     refine waA ?_;simp only[qqt,qgC];refine wau c (waw g ?_);rw[qk];refine war (d x (wa e) (by omega)) ?_;rw[f,qlH,jT (by omega)];refine(o (a+size x) (by omega)).res (by congr 1;omega))
   refine waB (L := λ m k=>qa9 m (yW m) k 1 0 t.kind t.name t.sort t.kids) ?_;refine(b 0 (we _) 1 (by simp;omega)).res (by rw[wO,j])
theorem qDx(a b:Nat):qnZ (a:Int) (b:Int)=((max a b:Nat):Int):=by unfold qnZ;split<;>omega
theorem qsC(a b:Int):Ev (λ m _=>qeX m a b) (sgn a b):=by
 refine waz ?_;simp only[qDW,qlS];unfold sgn;refine wax (λ h=>?_) λ h=>?_
 ·exact way (by rw[if_pos (qp.1 h)])
 ·rw[qm]at h;refine wax (λ c=>?_) λ c=>?_
  ·rw[qp]at c;exact way (by rw[if_neg (by omega),if_pos c])
  ·rw[qm]at c;exact way (by rw[if_neg (by omega),if_neg (by omega)])
theorem qBV(t:T):size t<=1000000000->Ev (λ m _=>Qk m t) (size t:Int):=by
 induction t using T.ind with
 | h t d =>
   intro p;refine waz ?_;simp only[qD3,qhJ];have q:=yA t;have j:=qL t
   have b:=qr (P := λ i=>∀ a:Nat,a+((t.kids.drop i).map size).sum<=1000000000->Ev (λ m k=>qck m (Qk m) k a t.kids t.kids.length i) ((a+((t.kids.drop i).map size).sum:Nat):Int)) t.kids (by omega)
    (λ c a _=>by
     refine waA ?_;simp only[qsf,qh6];refine wav c ?_;exact way (by simp))
    (λ i x e l c g f o a n=>by
     rw[qtP l]at n |-
     refine waA ?_;simp only[qsf,qh6];refine wau c (waw g ?_);rw[qk];refine war (d x (wa e) (by omega)) ?_;rw[f,qlH,jT (by omega)];refine(o (a+size x) (by omega)).res (by congr 1;omega))
   refine waB (L := λ m k=>qck m (Qk m) k 1 t.kids t.kids.length 0) ?_;refine(b 0 (we _) 1 (by simp;omega)).res (by rw[wO,j])
theorem qzk(t:T):size t<=1000000000->Ev (λ m _=>jk m t) (qc2 t:Int):=by
 induction t using T.ind with
 | h t e =>
   intro o;refine waz ?_;simp only[qAA,qfs];have p:=yA t;have q:=qL t
   have b:=qr (P := λ i=>∀ a:Nat,a<=1000000000->Ev (λ m k=>qau m (jk m) k a i t.kind t.name t.sort t.kids) ((((t.kids.drop i).map qc2).foldl max a+1:Nat):Int)) t.kids (by omega)
    (λ c a _=>by
     refine waA ?_;simp only[qoQ,qfz];refine wav c ?_;rw[show qe (a:Int) 1=((a+1:Nat):Int) by unfold qe;omega,jT (by omega)];exact way (by simp))
    (λ i x f l c j g n a r=>by
     refine waA ?_;simp only[qoQ,qfz];refine wau c (waw j ?_);rw[qk];have d:=wa f;have u:=jI t x d;have s:=qEC x;refine war (e x d (by omega)) ?_;rw[g,qDx];refine(n (max a (qc2 x)) (by omega)).res ?_;rw[l,wo,kg])
   refine waB (L := λ m k=>qau m (jk m) k 0 0 t.kind t.name t.sort t.kids) ?_;refine(b 0 (we _) 0 (by omega)).res (by rw[wO,qk5])
theorem qC1(a:List (T->Int)):Jk a []=0:=by cases a<;>rfl
theorem qzE{l m:List T}{i:Nat}{x y:T}(b:l.drop i=x::l.drop (i+1))(a:m.drop i=y::m.drop (i+1)):Jk ((l.drop i).map qt) (m.drop i)=thn (qt x y) (Jk ((l.drop (i+1)).map qt) (m.drop (i+1))):=by
 rw[b,a,wo];rfl
theorem qC0{l:List T}{i:Nat}{y:T}(h:l[i]?=some y):l.drop i=y::l.drop (i+1):=by
 obtain⟨a,rfl⟩:=List.getElem?_eq_some_iff.1 h;exact vZ a
theorem qt3(a b:List UInt8):slt a b=decide (compareBytes a b=-1):=qqB a b
theorem qCF(a b:List UInt8):qrK (slt a b) (qx a b)=decide (compareBytes a b≠1):=by
 rw[qt3];unfold qrK qx;rcases qpH a b with h | h | h
 ·rw[h];rfl
 ·have:=qnb a b h;subst this;rw[h];simp
 ·have:(a==b)=false:=by
    rw[beq_eq_false_iff_ne];intro c;subst c;rw[qzu]at h;omega
  rw[h,this];rfl
theorem qjj(a:T):size a<=1000000000->∀ b,size b<=1000000000->Ev (λ m _=>zN m a b) (qt a b):=by
 induction a using T.ind with
 | h a ih =>
   intro ha b hb;refine waz ?_;simp only[qwU,qdC,qk];have hla:=yA a;have hlb:=yA b;rw[qgW];unfold qj6;refine war (qpb a ha) (war (qpb b hb) (war (qmT _ _) ?_));refine wax (λ h=>?_) λ h=>?_
   ·rw[bnt,qg]at h;exact way (by rw[QT (by rw[QT h];exact h),QT h])
   rw[bnf,qj]at h;rw[h,show ∀ y,thn 0 y=y from λ y=>rfl];refine war (qmT _ _) ?_;refine wax (λ h=>?_) λ h=>?_
   ·rw[bnt,qg]at h;exact way (by rw[QT (by rw[QT h];exact h),QT h])
   rw[bnf,qj]at h;rw[h,show ∀ y,thn 0 y=y from λ y=>rfl];refine wax (λ h=>?_) λ h=>?_
   ·rw[qt3,decide_eq_true_iff]at h;exact way (by rw[h];rfl)
   rw[qt3,decide_eq_false_iff_not]at h;refine wax (λ h'=>?_) λ h'=>?_
   ·rw[bnt,qCF,decide_eq_false_iff_not,Decidable.not_not]at h';exact way (by rw[h'];rfl)
   rw[bnf,qCF,decide_eq_true_iff]at h';have h0:compareBytes a.name b.name=0:=by have:=qpH a.name b.name;omega
   rw[h0,show ∀ y,thn 0 y=y from λ y=>rfl];refine war (qmT _ _) ?_;refine wax (λ h=>?_) λ h=>?_
   ·rw[bnt,qg]at h;exact way (by rw[QT (by rw[QT h];exact h),QT h])
   rw[bnf,qj]at h;rw[h,show ∀ y,thn 0 y=y from λ y=>rfl];refine war (qmT _ _) ?_;refine wax (λ h=>?_) λ h=>?_
   ·rw[bnt,qg]at h;exact way (by rw[QT h])
   rw[bnf,qj]at h;rw[h,show ∀ y,thn 0 y=y from λ y=>rfl];have hlen:a.kids.length=b.kids.length:=by have:=qlq h;omega
   have key:=qr (P := λ i=>Ev (λ m k=>Jg m (zN m) k i a.kind a.name a.sort a.kids b.kind b.name b.sort b.kids) (Jk ((a.kids.drop i).map qt) (b.kids.drop i))) a.kids (by omega)
    (λ hc=>by
     refine waA ?_;simp only[ql1,qdi];refine wav hc ?_;exact way (by rw[hlen,wT,qC1]))
    (λ i x hx hd hc hg hi hP=>by
     refine waA ?_;simp only[ql1,qdi,qk];have hib:i<b.kids.length:=by have:=(List.getElem?_eq_some_iff.1 hx).1;omega
     have hy:=List.getElem?_eq_getElem hib;have hmx:=wa hx;have h1:=jI a x hmx;have h2:=jI b _ (wa hy);refine wau hc (waw hg (waw (by rw[qU];exact hy) ?_));rw[qzE hd (qC0 hy)];refine war (ih x hmx (by omega) _ (by omega)) ?_;refine wax (λ h=>?_) λ h=>?_
     ·rw[bnt,qg]at h;exact way (by rw[QT h])
     ·rw[bnf,qj]at h;rw[h,hi];exact hP)
   refine waB (L := λ m k=>Jg m (zN m) k 0 a.kind a.name a.sort a.kids b.kind b.name b.sort b.kids) ?_;exact(key 0 (we _)).res (by rw[wO,wO])
theorem qHH(a b:List UInt8):Ev (λ m _=>strings_Compare 0 a b) (compareBytes a b):=wat _
theorem qd2(a:T):size a<=1000000000->∀ b,size b<=1000000000->Ev (λ m _=>qA m a b) (qt a b):=by
 induction a using T.ind with
 | h a ih =>
   intro ha b hb;refine waz ?_;simp only[qxw,qes,qk];have hla:=yA a;have hlb:=yA b;rw[qgW];unfold qj6
   have stop:∀ c:Int,c≠0->∀ i:Int,Ev (λ m k=>Qd m (qA m) k c i a.kind a.name a.sort a.kids b.kind b.name b.sort b.kids) c:=by
    intro c hc i;refine waA ?_;simp only[qhB,qbW];exact wav (qg.2 hc) (wat c)
   have key:a.kids.length=b.kids.length->∀ i,i<=a.kids.length->Ev (λ m k=>Qd m (qA m) k 0 i a.kind a.name a.sort a.kids b.kind b.name b.sort b.kids) (Jk ((a.kids.drop i).map qt) (b.kids.drop i)) := λ hlen=>qr a.kids (by omega)
    (λ hc=>by
     refine waA ?_;simp only[qhB,qbW];refine wau rfl (wav hc ?_);exact way (by rw[hlen,wT,qC1]))
    (λ i x hx hd hc hg hi hP=>by
     refine waA ?_;simp only[qhB,qbW,qk];have hib:i<b.kids.length:=by have:=(List.getElem?_eq_some_iff.1 hx).1;omega
     have hy:=List.getElem?_eq_getElem hib;have hmx:=wa hx;have h1:=jI a x hmx;have h2:=jI b _ (wa hy);refine wau rfl (wau hc (waw hg (waw (by rw[qU];exact hy) ?_)));rw[qzE hd (qC0 hy)];refine war (ih x hmx (by omega) _ (by omega)) ?_;rw[hi];by_cases h:qt x b.kids[i]=0
     ·rw[h];exact hP
     ·rw[QT h];exact stop _ h _)
   have fin:∀ c:Int,(c=0->a.kids.length=b.kids.length)->Ev (λ m k=>Qd m (qA m) m c 0 a.kind a.name a.sort a.kids b.kind b.name b.sort b.kids) (thn c (Jk (a.kids.map qt) b.kids)):=by
    intro c hc;refine waB (L := λ m k=>Qd m (qA m) k c 0 a.kind a.name a.sort a.kids b.kind b.name b.sort b.kids) ?_;by_cases h:c=0
    ·subst h;exact(key (hc rfl) 0 (we _)).res (by rw[wO,wO];rfl)
    ·rw[QT h];exact stop c h 0
   refine war (qBV a ha) (war (qBV b hb) (war (qsC _ _) ?_));have z0:∀ y,thn 0 y=y := λ y=>rfl;by_cases h1:sgn (size a:Int) (size b)=0
   ·rw[h1,z0];refine wau rfl (war (qsC _ _) ?_);by_cases h2:sgn a.kind b.kind=0
    ·rw[h2,z0];refine wau rfl (war (qHH _ _) ?_);by_cases h3:compareBytes a.name b.name=0
     ·rw[h3,z0];refine wau rfl (war (qsC _ _) ?_);by_cases h4:sgn a.sort b.sort=0
      ·rw[h4,z0];refine wau rfl (war (qsC _ _) ?_);exact fin _ λ h=>by have:=qlq h;omega
      ·rw[QT h4];refine wav (qg.2 h4) ?_;exact fin _ λ h=>absurd h h4
     ·rw[QT h3];refine wav (qg.2 h3) (wav (qg.2 h3) ?_);exact fin _ λ h=>absurd h h3
    ·rw[QT h2];refine wav (qg.2 h2) (wav (qg.2 h2) (wav (qg.2 h2) ?_));exact fin _ λ h=>absurd h h2
   ·rw[QT h1];refine wav (qg.2 h1) (wav (qg.2 h1) (wav (qg.2 h1) (wav (qg.2 h1) ?_)));exact fin _ λ h=>absurd h h1
theorem qFB(a b:T):ieq (qt a b) 0=jm a b:=by
 unfold jm;rw[xh,qj,decide_eq_true_iff];exact qKm a b
theorem qgQ(a b:T)(d:size a<=1000000000)(c:size b<=1000000000):Ev (λ m _=>Ji m a b) (jm a b):=by
 refine waz ?_;simp only[qCe,qj1,qk];refine war (qjj a d b c) ?_;exact way (qFB a b)
theorem qps(a b:T)(d:size a<=1000000000)(c:size b<=1000000000):Ev (λ m _=>J7 m a b) (jm a b):=by
 refine waz ?_;simp only[qAi,qir,qk];refine war (qd2 a d b c) ?_;exact way (qFB a b)
end Go.AmZ
namespace Go.AmZ
open Go Go.GxZ Go.Lib
theorem qyz(a b:Int):ieq a b=decide (a=b):=by rw[xh,qj,decide_eq_true_iff]
theorem qyW(c:Int):Ev (λ m _=>qe9 m c) (qfT c):=by
 refine waz ?_;simp only[qxK,qhp];refine(wat (qfT c)).congr λ m k=>?_;unfold qfT ile;by_cases e:97<=c<;>by_cases d:c<=122<;>by_cases b:65<=c<;>by_cases a:c<=90<;>simp[e,d,b,a]
theorem qJA(c:Int):Ev (λ m _=>qjd m c) (qsk c):=by
 refine waz ?_;simp only[qzT,qiC];refine(wat (qsk c)).congr λ m k=>?_;unfold qsk ile;by_cases b:48<=c<;>by_cases a:c<=57<;>simp[b,a]
theorem qEV(c:Int):Ev (λ m _=>qjr m c) (Qp c):=by
 refine waz ?_;simp only[qDM,qli];refine(wat (Qp c)).congr λ m k=>?_;simp only[qyz];unfold Qp qfT qsk ile;by_cases i:97<=c<;>by_cases h:c<=122<;>by_cases g:65<=c<;>by_cases f:c<=90<;>by_cases e:48<=c<;>by_cases d:c<=57<;>by_cases b:c=95<;>by_cases a:c=35<;>simp[i,h,g,f,e,d,b,a]
theorem qyX(l:List UInt8):Ev (λ m _=>qaj m l) (jP l):=by
 refine waz ?_;simp only[qw5,qet];cases l with
 | nil=>exact wau rfl (wat _)
 | cons c r =>
   refine wav (qg.2 (by simp;omega)) ?_;refine wax (λ h=>?_) λ h=>?_
   ·rw[qp]at h;refine way ?_;unfold jP;rw[decide_eq_false (show ¬ (c::r).length<=24 by omega)];simp
   rw[qm]at h;refine waw (qag _) (war (qyW _) ?_)
   have o:jP (c::r)=(qfT (c.toNat:Int)&&(c::r).all λ c=>Qp (c.toNat:Int)):=by
    unfold jP;rw[decide_eq_true (show(c::r).length<=24 by omega)];simp
   rw[o];cases b:qfT (c.toNat:Int)with
   | false=>exact wau rfl (wat _)
   | true =>
     refine wav rfl ?_
     have g:=qr (P := λ i=>Ev (λ m k=>JU m k (c::r) i) (((c::r).drop i).all λ c=>Qp (c.toNat:Int))) (c::r) (by omega)
      (λ b=>by
       refine waA ?_;simp only[qnv,qem];refine wav b (way ?_);rw[wT];rfl)
      (λ i x s q b a p d=>by
       refine waA ?_;simp only[qnv,qem];refine wau b (waw a (war (qyW _) ?_));rw[q,kC,p];cases n:qfT (x.toNat:Int)with
       | true=>exact wav rfl (d.res (by simp[Qp,n]))
       | false =>
         refine wau rfl (waw a (war (qJA _) ?_));cases j:qsk (x.toNat:Int)with
         | true=>exact wav rfl (d.res (by simp[Qp,j]))
         | false =>
           refine wau rfl (waw a ?_);by_cases f:(x.toNat:Int)=95
           ·exact wav (bnf.2 (qj.2 f)) (d.res (by simp[Qp,f]))
           ·refine wau (bnt.2 (qg.2 f)) (waw a ?_);by_cases e:(x.toNat:Int)=35
            ·exact wav (bnf.2 (qj.2 e)) (d.res (by simp[Qp,e]))
            ·exact wau (bnt.2 (qg.2 e)) (way (by unfold Qp;rw[n,j,decide_eq_false f,decide_eq_false e];rfl)))
     refine waB (L := λ m k=>JU m k (c::r) 0) ?_;exact(g 0 (we _)).res (by rw[wO];rfl)
theorem qKt(c:Int):(Qp c&&(!(decide (48<=c)&&decide (c<=57))&&(!(decide (c=95)) && !(decide (c=35)))))=qfT c:=by
 unfold Qp qsk;cases h:qfT c with
 | true =>
   unfold qfT at h;rw[kh,decide_eq_true_iff,decide_eq_true_iff]at h;rw[decide_eq_false (show ¬ (c=95) by omega),decide_eq_false (show ¬ (c=35) by omega)]
   have:(decide (48<=c)&&decide (c<=57))=false:=by
    rw[xZ,decide_eq_false_iff_not,decide_eq_false_iff_not];omega
   rw[this];rfl
 | false =>
   by_cases e:48<=c<;>by_cases d:c<=57<;>by_cases b:c=95<;>by_cases a:c=35<;>simp[e,d,b,a]
theorem qGd(l:List UInt8):Ev (λ m _=>qdZ m l) (jP l):=by
 refine waz ?_;simp only[qAz,qfb];cases l with
 | nil=>exact wau rfl (wat _)
 | cons c r =>
   refine wav rfl ?_;refine wax (λ h=>?_) λ h=>?_
   ·rw[qp]at h;refine way ?_;unfold jP;rw[decide_eq_false (show ¬ (c::r).length<=24 by omega)];simp
   rw[qm]at h;refine waw (qag _) (war (qEV _) ?_)
   have p:jP (c::r)=(qfT (c.toNat:Int)&&(c::r).all λ c=>Qp (c.toNat:Int)):=by
    unfold jP;rw[decide_eq_true (show(c::r).length<=24 by omega)];simp
   rw[p,<- qKt]
   have g:=qr (P := λ i=>Ev (λ m k=>QE m k (c::r) (c::r).length i) (((c::r).drop i).all λ c=>Qp (c.toNat:Int))) (c::r) (by omega)
    (λ j=>by
     refine waA ?_;simp only[qoj,qfr];refine wav j (way ?_);rw[wT];rfl)
    (λ i x y t j s q u=>by
     refine waA ?_;simp only[qoj,qfr];refine wau j (waw s (war (qEV _) ?_));rw[t,kC,q];cases w:Qp (x.toNat:Int)with
     | true=>exact wav rfl (u.res (by simp))
     | false=>exact wau rfl (wat _))
   have o:Ev (λ m _=>QE m m (c::r) (c::r).length 0) ((c::r).all λ c=>Qp (c.toNat:Int)):=by
    refine waB (L := λ m k=>QE m k (c::r) (c::r).length 0) ?_;exact(g 0 (we _)).res (by rw[wO])
   have a:qb (c::r) 0=some c:=qag _
   have b:Ev (λ m _=>cond (ieq (c.toNat:Int) 95) (some false) (qa (qb (c::r) 0) λ v=>cond (ieq (v.toNat:Int) 35) (some false) (QE m m (c::r) (c::r).length 0))) ((!(decide ((c.toNat:Int)=95)) && !(decide ((c.toNat:Int)=35)))&&(c::r).all λ c=>Qp (c.toNat:Int)):=by
    by_cases f:(c.toNat:Int)=95
    ·exact wau (qj.2 f) (way (by rw[decide_eq_true f];rfl))
    ·refine wav (qg.2 f) (waw a ?_);rw[decide_eq_false f];by_cases e:(c.toNat:Int)=35
     ·exact wau (qj.2 e) (way (by rw[decide_eq_true e];rfl))
     ·refine wav (qg.2 e) (o.res ?_);rw[decide_eq_false e];rfl
   cases w:Qp (c.toNat:Int)with
   | false=>exact wau rfl (wat _)
   | true =>
     refine wav rfl (waw a ?_);by_cases d:48<=(c.toNat:Int)
     ·refine wau (ja.2 d) (waw a ?_);by_cases n:(c.toNat:Int)<=57
      ·exact wau (ja.2 n) (way (by rw[decide_eq_true d,decide_eq_true n];rfl))
      ·refine wav (yq.2 (by omega)) (waw a ?_);exact b.res (by rw[decide_eq_true d,decide_eq_false n];rfl)
     ·refine wav (yq.2 (by omega)) (waw a ?_);exact b.res (by rw[decide_eq_false d];rfl)
theorem qNn(t:T):Ev (λ m _=>qkw m t) (jL t):=by
 refine waz ?_;simp only[qC6,qjM];unfold jL qjk
 have nm:∀{R:Int},(∀ b,jP t.name=b->(if b then(if 8<t.kids.length then 3 else 0)else 2)=R)->Ev (λ m _=>qa (qaj m t.name) λ v=>cond (qd v) (some 2) (cond (ilt 8 (t.kids.length:Int)) (some 3) (some 0))) R:=by
  intro R h;refine war (qyX _) ?_;refine Ev.res ?_ (h _ rfl);cases j:jP t.name with
  | false=>exact wau rfl (wat _)
  | true =>
    refine wav rfl ?_;refine wax (λ h=>?_) λ h=>?_
    ·rw[qp]at h;exact way (by rw[if_pos rfl,if_pos (by omega)])
    ·rw[qm]at h;exact way (by rw[if_pos rfl,if_neg (by omega)])
 have d:t.kids.length=0->∀{R:Int},(∀ b,jP t.name=b->(if b then 0 else 2)=R)->Ev (λ m _=>qa (qaj m t.name) λ v=>cond (qd v) (some 2) (cond (ilt 8 (t.kids.length:Int)) (some 3) (some 0))) R:=by
  intro k R h;refine nm λ b e=>?_;rw[if_neg (show ¬ 8<t.kids.length by omega)];exact h b e
 by_cases i:t.kind=1
 ·rw[if_pos (.inl i)];refine wau (qj.2 i) ?_;refine wax (λ h=>?_) λ h=>?_
  ·rw[qp]at h;exact way (by rw[if_pos (.inl h)])
  rw[qm]at h;refine wax (λ c=>?_) λ c=>?_
  ·rw[qp]at c;exact way (by rw[if_pos (.inr (.inl c))])
  rw[qm]at c;refine wax (λ a=>?_) λ a=>?_
  ·rw[qp]at a;exact way (by rw[if_pos (.inr (.inr (by omega)))])
  rw[qm]at a;rw[if_neg (by omega)];exact d (by omega) λ b e=>by rw[e]
 refine wav (qg.2 i) ?_;by_cases f:t.kind=2
 ·rw[if_pos (.inr f)];refine wav (bnf.2 (qj.2 f)) ?_;refine wax (λ h=>?_) λ h=>?_
  ·rw[qp]at h;exact way (by rw[if_pos (.inl h)])
  rw[qm]at h;refine wax (λ c=>?_) λ c=>?_
  ·rw[qp]at c;exact way (by rw[if_pos (.inr (.inl c))])
  rw[qm]at c;refine wav (bnf.2 (qj.2 f)) (wau (qj.2 f) ?_);refine wax (λ a=>?_) λ a=>?_
  ·rw[qp]at a;exact way (by rw[if_pos (.inr (.inr (by omega)))])
  rw[qm]at a;rw[if_neg (by omega)];exact d (by omega) λ b e=>by rw[e]
 refine wau (bnt.2 (qg.2 f)) ?_;rw[if_neg (by omega)];by_cases g:t.kind=3
 ·rw[if_pos g];refine wav (bnf.2 (qj.2 g)) ?_;refine wax (λ h=>?_) λ h=>?_
  ·rw[qp]at h;exact way (by rw[if_pos (by omega)])
  rw[qm]at h;refine wax (λ c=>?_) λ c=>?_
  ·rw[qp]at c;exact way (by rw[if_pos (by omega)])
  rw[qm]at c;refine wau (bnt.2 (qg.2 f)) ?_;refine wax (λ a=>?_) λ a=>?_
  ·rw[bnt,qg]at a;exact way (by rw[if_pos a])
  rw[bnf,qj]at a;rw[if_neg (by omega)];refine wav (qg.2 f) ?_;exact nm λ b e=>by rw[e]
 ·rw[if_neg g];exact wau (bnt.2 (qg.2 g)) (wat _)
theorem qKl(t:T):size t<=1000000000->Ev (λ m _=>jM m t) (jO t):=by
 induction t using T.ind with
 | h t d =>
   intro n;refine waz ?_;simp only[qAg,qfd,qk];have o:=yA t
   have a:=qr (P := λ i=>Ev (λ m k=>qaw m (jM m) k i t.kind t.name t.sort t.kids) (((t.kids.drop i).map jO).foldl thn 0)) t.kids (by omega)
    (λ b=>by
     refine waA ?_;simp only[qok,qff];refine wav b ?_;exact way (by simp))
    (λ i x e j b g f l=>by
     refine waA ?_;simp only[qok,qff,qk];refine wau b (waw g ?_);have c:=wa e;have p:=jI t x c;refine war (d x c (by omega)) ?_;rw[j,wo,QV,f];refine wax (λ h=>?_) λ h=>?_
     ·rw[bnt,qg]at h;exact way (by rw[qT _ h])
     ·rw[bnf,qj]at h;rw[h];exact l)
   rw[qju];refine war (qNn t) ?_;refine wax (λ h=>?_) λ h=>?_
   ·rw[bnt,qg]at h;exact way (by rw[qT _ h])
   ·rw[bnf,qj]at h;rw[h];refine waB (L := λ m k=>qaw m (jM m) k 0 t.kind t.name t.sort t.kids) ?_;exact(a 0 (we _)).res (by rw[wO])
theorem qdd(t:T)(a:size t<=1000000000):Ev (λ m _=>jp m t) (qS t):=by
 refine waz ?_;simp only[qz2,qiK,qk];unfold qS;refine war (qKl t a) ?_;refine wax (λ h=>?_) λ h=>?_
 ·rw[bnt,qg]at h;exact way (by rw[if_pos h])
 rw[bnf,qj]at h;rw[if_neg (by omega)];refine war (qpb t a) ?_;refine wax (λ h=>?_) λ h=>?_
 ·rw[qp]at h;exact way (by rw[if_pos (.inl (by omega))])
 rw[qm]at h;refine war (qzk t a) ?_;refine wax (λ h=>?_) λ h=>?_
 ·rw[qp]at h;exact way (by rw[if_pos (.inr (by omega))])
 ·rw[qm]at h;exact way (by rw[if_neg (by omega)])
end Go.AmZ
namespace Go.AmZ
open Go Go.GxZ Go.Lib
theorem qBi(b d:Nat):∀(l:List Nat) (c:Nat),l.foldl (λ a x=>max a (b+x)) (max d (b+c))=max d (b+l.foldl max c)
 | [],c=>rfl
 | x::l,c=>by
   rw[kg,kg,<- qBi b d l (max c x)];congr 1;omega
def qOH(a n d:Nat)(e:Int)(s:Nat)(x:Nat)(r:(Int × Int × Unit) × (Int × Unit)):Prop:=r.2.1=e/\(e=0->r.1.1=((n+s:Nat):Int)/\r.1.2.1=((max d (a+x):Nat):Int))
theorem qLM(t:T):size t<=1000000000->∀ lev n d:Nat,lev+size t<=2000000000->n+size t<=2000000000->d<=2000000000->∃ r,Ev (λ m _=>yf m t lev n d) r/\qOH lev n d (jO t) (size t) (qc2 t-1) r:=by
 induction t using T.ind with
 | h t ih =>
   intro hs lev n d hlev hn hd0;have hl:=yA t;have hsz:=qL t
   have key:=qr (P := λ i=>∀ n d:Nat,n+((t.kids.drop i).map size).sum<=2000000000->d<=2000000000->∃ r,Ev (λ m k=>jJ m (yf m) k lev t.kids t.kids.length i n d) r/\r.2.1=((t.kids.drop i).map jO).foldl thn 0/\(((t.kids.drop i).map jO).foldl thn 0=0->r.1.1=((n+((t.kids.drop i).map size).sum:Nat):Int)/\r.1.2.1=((((t.kids.drop i).map qc2).foldl (λ a x=>max a (lev+x)) d:Nat):Int))) t.kids (by omega)
    (λ hc n d _ _=>by
     refine⟨((n,d,()),(0,())),?_,?_,λ _=>⟨?_,?_⟩⟩
     ·refine waA ?_;simp only[qqo,qgq];exact wav hc (wat _)
     ·simp
     ·simp
     ·simp)
    (λ i x hx hd hc hg hi hP n d hn hd1=>by
     have hm:=wa hx;have h1:=jI t x hm;rw[qtP hd]at hn;obtain⟨r,hr,he,hz⟩:=ih x hm (by omega) (lev+1) n d (by omega) (by omega) hd1
     have hstep:∀ r' ,(r.2.1≠0->r'=((r.1.1,r.1.2.1,()),(r.2.1,())))->(r.2.1=0->Ev (λ m k=>jJ m (yf m) k lev t.kids t.kids.length ((i+1:Nat):Int) r.1.1 r.1.2.1) r')->Ev (λ m k=>jJ m (yf m) k lev t.kids t.kids.length i n d) r':=by
      intro r' g1 g2;refine waA ?_;simp only[qqo,qgq,qk];refine wau hc (waw hg ?_);rw[show qe (lev:Int) 1=((lev+1:Nat):Int) by unfold qe;omega,jT (by omega),hi];refine war hr ?_;refine wax (λ h=>?_) λ h=>?_
      ·rw[bnt,qg]at h;exact way (g1 h).symm
      ·rw[bnf,qj]at h;exact g2 h
     rw[hd,wo,wo,wo,kD,QV,kg];by_cases h0:jO x=0
     ·obtain⟨z1,z2⟩:=hz h0;have hdep:=qEC x;obtain⟨r',g1,g2,g3⟩:=hP (n+size x) (max d (lev+1+(qc2 x-1))) (by omega) (by omega);refine⟨r',hstep r' (λ h=>absurd (he.trans h0) h) (λ _=>by rw[z1,z2];exact g1),by rw[h0];exact g2,λ hh=>?_⟩;rw[h0]at hh;obtain⟨q1,q2⟩:=g3 hh;refine⟨by rw[q1];congr 1;omega,?_⟩;rw[q2];have:qc2 x ≥ 1:=by rw[qk5];omega
      rw[show max d (lev+1+(qc2 x-1))=max d (lev+qc2 x) by omega]
     ·refine⟨((r.1.1,r.1.2.1,()),(r.2.1,())),hstep _ (λ _=>rfl) (λ h=>absurd (he.symm.trans h) h0),?_,λ hh=>?_⟩
      ·rw[qT _ h0];exact he
      ·rw[qT _ h0]at hh;exact absurd hh h0)
   have start:∀ r,(jL t≠0->r=((((n+1:Nat):Int),((max d lev:Nat):Int),()),(jL t,())))->(jL t=0->Ev (λ m _=>jJ m (yf m) m lev t.kids t.kids.length 0 ((n+1:Nat):Int) ((max d lev:Nat):Int)) r)->Ev (λ m _=>yf m t lev n d) r:=by
    intro r g1 g2;refine waz ?_;simp only[qDe,qgr];rw[show qe (n:Int) 1=((n+1:Nat):Int) by unfold qe;omega,jT (by omega),qDx]
    have err:∀ e,jL t=e->e≠0->Ev (λ _ _=>some ((((n+1:Nat):Int),((max d lev:Nat):Int),()),(e,()))) r:=by
     intro e he h;refine way ?_;subst he;exact(g1 h).symm
    have nm:(t.kind=3\/t.kids.length=0)->(∀ b,jP t.name=b->(if b then(if 8<t.kids.length then 3 else 0)else 2)=jL t)->Ev (λ m _=>qa (qdZ m t.name) λ v=>cond (qd v) (some ((((n+1:Nat):Int),((max d lev:Nat):Int),()),(2,()))) (cond (ilt 8 (t.kids.length:Int)) (some ((((n+1:Nat):Int),((max d lev:Nat):Int),()),(3,()))) (jJ m (yf m) m lev t.kids t.kids.length 0 ((n+1:Nat):Int) ((max d lev:Nat):Int)))) r:=by
     intro _ h;have h:=h _ rfl;refine war (qGd _) ?_;cases hn:jP t.name with
     | false=>rw[hn]at h;exact wau rfl (err 2 h.symm (by decide))
     | true =>
       rw[hn,if_pos rfl]at h;refine wav rfl ?_;refine wax (λ h'=>?_) λ h'=>?_
       ·rw[qp]at h';rw[if_pos (by omega)]at h;exact err 3 h.symm (by decide)
       ·rw[qm]at h';rw[if_neg (by omega)]at h;exact g2 h.symm
    have leafE:∀ k,t.kind=k->(k=1\/k=2)->jL t=if t.sort<0\/5<t.sort\/0<t.kids.length then 1 else if jP t.name then 0 else 2:=by
     intro k hk h;unfold jL qjk;rw[hk,if_pos h]
    have leaf:∀ k,t.kind=k->(k=1\/k=2)->Ev (λ m _=>cond (ilt t.sort 0) (some ((((n+1:Nat):Int),((max d lev:Nat):Int),()),(1,()))) (cond (ilt 5 t.sort) (some ((((n+1:Nat):Int),((max d lev:Nat):Int),()),(1,()))) (cond (ilt 0 (t.kids.length:Int)) (some ((((n+1:Nat):Int),((max d lev:Nat):Int),()),(1,()))) (qa (qdZ m t.name) λ v=>cond (qd v) (some ((((n+1:Nat):Int),((max d lev:Nat):Int),()),(2,()))) (cond (ilt 8 (t.kids.length:Int)) (some ((((n+1:Nat):Int),((max d lev:Nat):Int),()),(3,()))) (jJ m (yf m) m lev t.kids t.kids.length 0 ((n+1:Nat):Int) ((max d lev:Nat):Int))))))) r:=by
     intro k hk h;have hE:=leafE k hk h;refine wax (λ h'=>?_) λ h'=>?_
     ·rw[qp]at h';exact err 1 (by rw[hE,if_pos (.inl h')]) (by decide)
     rw[qm]at h';refine wax (λ h1=>?_) λ h1=>?_
     ·rw[qp]at h1;exact err 1 (by rw[hE,if_pos (.inr (.inl h1))]) (by decide)
     rw[qm]at h1;refine wax (λ h2=>?_) λ h2=>?_
     ·rw[qp]at h2;exact err 1 (by rw[hE,if_pos (.inr (.inr (by omega)))]) (by decide)
     rw[qm]at h2;rw[if_neg (by omega)]at hE;refine nm (.inr (by omega)) λ b hb=>?_;rw[hE,hb,if_neg (show ¬ 8<t.kids.length by omega)]
    by_cases h1:t.kind=1
    ·exact wau (qj.2 h1) (leaf 1 h1 (.inl rfl))
    refine wav (qg.2 h1) ?_;by_cases h2:t.kind=2
    ·exact wau (qj.2 h2) (leaf 2 h2 (.inr rfl))
    refine wav (qg.2 h2) ?_;by_cases h3:t.kind=3
    ·refine wau (qj.2 h3) ?_
     have hE:jL t=if t.sort≠0 then 1 else if jP t.name then(if 8<t.kids.length then 3 else 0)else 2:=by
      unfold jL qjk;rw[if_neg (by omega),if_pos h3]
     refine wax (λ h'=>?_) λ h'=>?_
     ·rw[bnt,qg]at h';exact err 1 (by rw[hE,if_pos h']) (by decide)
     rw[bnf,qj]at h';rw[if_neg (by omega)]at hE;exact nm (.inl h3) λ b hb=>by rw[hE,hb]
    ·refine wav (qg.2 h3) ?_;refine err 1 ?_ (by decide);unfold jL qjk;rw[if_neg (by omega),if_neg h3]
   rw[qju];by_cases h0:jL t=0
   ·rw[h0];obtain⟨r,g1,g2,g3⟩:=key 0 (we _) (n+1) (max d lev) (by rw[wO];omega) (by omega);rw[wO]at g2 g3;refine⟨r,start r (λ h=>absurd h0 h) (λ _=>waB (L := λ m k=>jJ m (yf m) k lev t.kids t.kids.length 0 ((n+1:Nat):Int) ((max d lev:Nat):Int)) g1),g2,λ hh=>?_⟩;obtain⟨q1,q2⟩:=g3 hh;refine⟨by rw[q1];congr 1;omega,?_⟩;rw[q2,show max d lev=max d (lev+0) by omega,qBi,qk5,xU]
   ·refine⟨_,start _ (λ _=>rfl) (λ h=>absurd h h0),?_,λ hh=>?_⟩
    ·rw[qT _ h0]
    ·rw[qT _ h0]at hh;exact absurd hh h0
theorem qde(t:T)(c:size t<=1000000000):Ev (λ m _=>yH m t) (qS t):=by
 refine waz ?_;simp only[qAZ,qjR,qk];unfold qS;obtain⟨r,f,e,d⟩:=qLM t c 1 0 0 (by omega) (by omega) (by omega);refine war f ?_;rw[e];refine wax (λ h=>?_) λ h=>?_
 ·rw[bnt,qg]at h;exact way (by rw[if_pos h])
 rw[bnf,qj]at h;obtain⟨b,a⟩:=d h;have g:qc2 t ≥ 1:=by rw[qk5];omega
 rw[if_neg (by omega),b,a];refine wax (λ h=>?_) λ h=>?_
 ·rw[qp]at h;exact way (by rw[if_pos (.inl (by omega))])
 rw[qm]at h;refine wax (λ h=>?_) λ h=>?_
 ·rw[qp]at h;exact way (by rw[if_pos (.inr (by omega))])
 ·rw[qm]at h;exact way (by rw[if_neg (by omega)])
theorem quE(t:T):size t<=1000000000->Ev (λ m _=>jz m t) t:=by
 induction t using T.ind with
 | h t e =>
   intro l;refine waz ?_;simp only[qA5,qgy];have n:=yA t
   have a:=qr (P := λ i=>Ev (λ m k=>qbd m (jz m) k t.kids t.kids.length i t.kind t.name t.sort 0 [] 0 (t.kids.take i) []) t) t.kids (by omega)
    (λ b=>by
     refine waA ?_;simp only[qqq,qgl];refine wav b ?_;rw[wC];exact way (qk t))
    (λ i x c o b g f j=>by
     refine waA ?_;simp only[qqq,qgl,qk];have d:=wa c;have p:=jI t x d;refine wau b (waw g (war (e x d (by omega)) (wau (qC ?_ (by omega)) ?_)))
     ·have:(t.kids.take i).length<=t.kids.length:=by rw[wm];omega
      omega
     ·rw[f];refine j.congr λ m k=>?_;rw[kw,c];rfl)
   refine waB (L := λ m k=>qbd m (jz m) k t.kids t.kids.length 0 t.kind t.name t.sort 0 [] 0 [] []) ?_;exact a 0 (we _)
def qx7:T->Prop:=T.para λ t a=>t.kids.length<2 ^ 62/\t.name.length<2 ^ 62/\∀ p∈a,p
theorem qED(t:T):qx7 t↔t.kids.length<2 ^ 62/\t.name.length<2 ^ 62/\∀ k∈t.kids,qx7 k:=by
 unfold qx7;rw[T.para_eq];exact⟨λ⟨a,b,c⟩=>⟨a,b,λ k d=>c _ (kP d)⟩,λ⟨a,b,c⟩=>⟨a,b,λ p e=>by obtain⟨k,d,rfl⟩:=wy.1 e;exact c k d⟩⟩
theorem qLc{l:List T}{a:Int}(c:0<=a)(h:qlO l a=true):∀ t∈l,(size t:Int)<=a := λ t b=>by
 have e:=qyL l a c h;have d:=qkA l t b;omega
end Go.AmZ
namespace Go.GxZ
def qvE(t:T):Int:=if(qG t.name).2.2=0 then 10 else if qnW yV t.name t.kids.length=false then 6 else if(qG t.name).2.2=2/\qk6 t=false then 10 else 0
theorem qu1(n:List UInt8):(yV.find? λ r=>r.1==n)=none\/∃ r∈yV,r.1=n/\(yV.find? λ r=>r.1==n)=some r:=by
 cases h:yV.find? λ r=>r.1==n with
 | none=>exact .inl rfl
 | some r=>exact .inr ⟨r,List.mem_of_find?_eq_some h,by simpa using List.find?_some h,rfl⟩
theorem qwB{n:List UInt8}(h:(yV.find? λ r=>r.1==n)=none):qG n=(0,0,0):=by unfold qG;rw[h];rfl
theorem qpq{n:List UInt8}{r:List UInt8 × Int × Int × Int}(h:(yV.find? λ r=>r.1==n)=some r):qG n=r.2:=by unfold qG;rw[h];rfl
def qL9(r:List UInt8 × Int × Int × Int):Bool :=
 decide (r.2.2.2≠0)&&decide (0<=r.2.1)&&decide (r.2.2.1<=8)&&(decide (r.2.2.2=2)==(r.1==qik||r.1==nSk||r.1==quB))&&(decide (r.2.2.2=2)==decide (r.2.2.2=2/\1<=r.2.1))&&(decide (r.2.2.2=3)==(r.1==qLp||r.1==qxr||r.1==qK3||r.1==qGq||r.1==qFV||r.1==qGO))
theorem qMl:yV.all qL9=true:=by decide
theorem qwv{n:List UInt8}(h:(qG n).2.2≠0):qKP yV n=true/\qw7 yV n=qG n/\0<=(qG n).1/\(qG n).2.1<=8/\((qG n).2.2=2↔n=qik\/n=nSk\/n=quB)/\((qG n).2.2=2->1<=(qG n).1)/\((qG n).2.2=3↔isD n=true):=by
 rcases qu1 n with b | ⟨r,d,g,b⟩
 ·rw[qwB b]at h;exact absurd rfl h
 ·have c:=wv.1 qMl r d;subst g;rw[qpq b];unfold qL9 at c;simp only[wd,beq_iff_eq,decide_eq_true_eq]at c;obtain⟨⟨⟨⟨⟨l,k⟩,j⟩,a⟩,f⟩,i⟩:=c;refine⟨wag.2 ⟨r,d,by simp⟩,qpq b,k,j,?_,?_,?_⟩
  ·constructor
   ·intro h;rw[decide_eq_true h]at a;have:=a.symm;simp only[kh,beq_iff_eq]at this;exact or_assoc.1 this
   ·intro h;by_cases e:r.2.2.2=2
    ·exact e
    ·rw[decide_eq_false e]at a;have:=a.symm;simp only[xI,beq_eq_false_iff_ne]at this;rcases h with h | h | h
     ·exact absurd h this.1.1
     ·exact absurd h this.1.2
     ·exact absurd h this.2
  ·intro h;rw[decide_eq_true h]at f;have:=of_decide_eq_true f.symm;exact this.2
  ·unfold isD;rw[<- i];simp
theorem qJJ(t:T)(n:t.kind=3):qvE t=qc7 t:=by
 unfold qvE qc7;rw[if_neg (show ¬ (t.kind≠3)from λ h=>h n)];by_cases b:(qG t.name).2.2=0
 ·rw[if_pos b,if_pos b]
 ·rw[if_neg b,if_neg b];obtain⟨j,i,r,q,g,p,o⟩:=qwv b
  have e1:qnW yV t.name t.kids.length=(decide ((qG t.name).1<=(t.kids.length:Int))&&decide ((t.kids.length:Int)<=(qG t.name).2.1)):=by
   unfold qnW;rw[j,i,w7]
  rw[e1];by_cases e:(t.kids.length:Int)<(qG t.name).1\/(qG t.name).2.1<(t.kids.length:Int)
  ·rw[if_pos e,if_pos];rw[xZ,decide_eq_false_iff_not,decide_eq_false_iff_not];omega
  ·rw[if_neg e,if_neg]
   ·have f:(qG t.name).2.2=2/\qk6 t=false↔qaJ t=true:=by
      rw[g];unfold qk6 qaJ;by_cases a:t.name=qik
      ·rw[if_pos a,if_pos a];simp[a]
      ·rw[if_neg a,if_neg a];by_cases c:t.name=nSk\/t.name=quB
       ·rw[if_pos c]
        have:agB t.kids = !(t.kids.any λ k=>decide (k.kind=3)||decide (k.sort≠1)):=by
         unfold agB;generalize t.kids=l
         induction l with
         | nil=>rfl
         | cons x l m=>simp only[kC,vW,m,Bool.not_or];congr 1;congr 1;by_cases h:x.sort=1<;>simp[bne,h]
        rw[this];simp[c]
       ·rw[if_neg c];constructor
        ·rintro⟨h,_⟩;rcases h with h | h
         ·exact absurd h a
         ·exact absurd h c
        ·intro h;cases h
    by_cases d:qaJ t=true
    ·rw[if_pos d,if_pos (f.2 d)]
    ·rw[if_neg d,if_neg (λ h=>d (f.1 h))]
   ·rw[xZ,decide_eq_false_iff_not,decide_eq_false_iff_not];omega
theorem qdb{t:T}(e:t.kind=3)(h:zl t=0):qc7 t=0/\(∀ k∈t.kids,zl k=0):=by
 rw[qoi,if_neg (show ¬ (t.kind≠3)from λ h=>h e)]at h;by_cases c:qc7 t=0
 ·refine⟨c,?_⟩;rw[c]at h;generalize t.kids=l at *
  induction l with
  | nil=>intro k a;cases a
  | cons x l d =>
    rw[wo,QV]at h;by_cases b:zl x=0
    ·rw[b]at h;intro k a;rcases wx.1 a with rfl | a
     ·exact b
     ·exact d h k a
    ·rw[qT _ b]at h;exact absurd h b
 ·rw[qT _ c]at h;exact absurd h c
end Go.GxZ
namespace Go.AmZ
open Go Go.GxZ Go.Lib
theorem qkM(t:T)(n:List UInt8):Ev (λ m _=>jv m t n) (isN t n):=by
 refine waz ?_;simp only[qDT,qlW];unfold isN;refine wax (λ h=>?_) λ h=>?_
 ·rw[qj]at h;exact way (by rw[h];rfl)
 ·rw[qg]at h;exact way (by rw[show(t.kind==3)=false from beq_eq_false_iff_ne.2 h];rfl)
theorem ql8(t:T)(n:List UInt8):Ev (λ m _=>qca m t n) (isN t n):=by
 refine waz ?_;simp only[qGu,qnI];unfold isN;refine wax (λ h=>?_) λ h=>?_
 ·rw[qj]at h;exact way (by rw[h];rfl)
 ·rw[qg]at h;exact way (by rw[show(t.kind==3)=false from beq_eq_false_iff_ne.2 h];rfl)
theorem qNG(n:List UInt8)(l:List T):Ev (λ m _=>qht m n l) (apT n l):=waz (wat _)
theorem qfu(n:List UInt8)(l:List T)(a:l.length<=1000000000):Ev (λ m _=>Qo m n l) (apT n l):=by
 refine waz ?_;simp only[qD2,qlJ];refine wau (qC (by simp;omega) (by omega)) ?_;refine Ev.case (λ h=>?_) λ x t h=>?_
 ·subst h;exact wat _
 ·subst h;exact wat _
def qKA(n:List UInt8):List UInt8 × Int × Int × Int:=(yV.find? λ r=>r.1==n).getD ([],0,0,0)
theorem qtM(n:List UInt8):(qKA n).2=qG n:=by
 unfold qKA qG;cases yV.find? λ r=>r.1==n<;>rfl
theorem qzm(n:List UInt8):Ev (λ m _=>qdP m n) (qKA n):=by
 refine waz ?_;simp only[qvy,qdj];refine war (a:=yV) (wat _) ?_
 have b:=qr (P := λ i=>Ev (λ m k=>Je m k n yV yV.length i [] 0 0 0) (((yV.drop i).find? λ r=>r.1==n).getD ([],0,0,0))) yV (by decide)
  (λ c=>by
   refine waA ?_;simp only[qlz,qdI];refine wav c ?_;exact wat _)
  (λ i x j f c e d g=>by
   refine waA ?_;simp only[qlz,qdI];refine wau c (waw e ?_);rw[f,List.find?_cons,d];refine wax (λ h=>?_) λ h=>?_
   ·exact way (by rw[show(x.1==n)=true from h];rfl)
   ·rw[show(x.1==n)=false from h];exact g)
 refine waB (L := λ m k=>Je m k n yV yV.length 0 [] 0 0 0) ?_;exact b 0 (we _)
theorem qup{t:T}(c:t.kind=3)(h:qc7 t=0):(qG t.name).2.2≠0/\(qG t.name).1<=(t.kids.length:Int)/\(t.kids.length:Int)<=(qG t.name).2.1/\qaJ t=false:=by
 unfold qc7 at h;rw[if_neg (show ¬ t.kind≠3 from λ a=>a c)]at h;split at h
 ·omega
 rename_i d;split at h
 ·omega
 rename_i e;split at h
 ·omega
 rename_i b;exact⟨d,by omega,by omega,by simpa using b⟩
theorem qyo{t:T}{i:Nat}(h:i<t.kids.length):qb t.kids (i:Int)=some (kid t i):=by
 rw[qU];unfold kid;rw[List.getD_eq_getElem?_getD,List.getElem?_eq_getElem h];rfl
theorem qei{t:T}(h:0<t.kids.length):qb t.kids 0=some (kid t 0):=qyo (i:=0) h
theorem qsE{t:T}(h:1<t.kids.length):qb t.kids 1=some (kid t 1):=qyo (i:=1) h
theorem qEq{t:T}{i:Nat}(h:i<t.kids.length):kid t i∈t.kids:=by
 unfold kid;rw[List.getD_eq_getElem?_getD,List.getElem?_eq_getElem h];exact wW h
theorem yP{t:T}{n:List UInt8}:isN t n=true↔t.kind=3/\t.name=n:=by
 unfold isN;rw[wd,beq_iff_eq,beq_iff_eq]
theorem qIT(t:T):size t<=1000000000->Ev (λ m _=>qD m t) (zl t):=by
 induction t using T.ind with
 | h t E =>
   intro F;refine waz ?_;simp only[qw2,qez];have G:=yA t;rw[qoi];refine wax (λ h=>?_) λ z=>?_
   ·rw[bnt,qg]at h;exact way (by rw[if_pos h])
   rw[bnf,qj]at z;rw[if_neg (show ¬ t.kind≠3 from λ c=>c z)]
   have C:=qr (P := λ i=>Ev (λ m k=>(qV m (qD m) k).2 t.kids t.kids.length i) (((t.kids.drop i).map zl).foldl thn 0)) t.kids (by omega)
    (λ f=>by
     refine waA ?_;simp only[qne,qeB];refine wav f ?_;exact way (by simp))
    (λ i x A w f v u y=>by
     refine waA ?_;simp only[qne,qeB,qk];have B:=wa A;have l:=jI t x B;refine wau f (waw v (war (E x B (by omega)) ?_));rw[w,wo,QV,u];refine wax (λ h=>?_) λ h=>?_
     ·rw[bnt,qg]at h;exact way (by rw[qT _ h])
     ·rw[bnf,qj]at h;rw[h];exact y)
   have n:Ev (λ m k=>(qV m (qD m) k).2 t.kids t.kids.length 0) ((t.kids.map zl).foldl thn 0):=(C 0 (we _)).res (by rw[wO])
   have D:=qr (P := λ i=>Ev (λ m k=>(qV m (qD m) k).1 t.kids t.kids.length i t.kind t.name t.sort t.kids) (if(t.kids.drop i).any (λ k=>decide (k.kind=3)||decide (k.sort≠1))=true then 10 else(t.kids.map zl).foldl thn 0)) t.kids (by omega)
    (λ f=>by
     refine waA ?_;simp only[qnw,qew];refine wav f ?_;refine n.res ?_;rw[wT];rfl)
    (λ i x A w f v u y=>by
     refine waA ?_;simp only[qnw,qew,qk];refine wau f (waw v ?_);rw[w,vW,u];refine wax (λ h=>?_) λ h=>?_
     ·rw[qj]at h;exact way (by rw[decide_eq_true h];rfl)
     rw[qg]at h;rw[decide_eq_false h];refine wax (λ q=>?_) λ q=>?_
     ·rw[bnt,qg]at q;exact way (by rw[decide_eq_true q];rfl)
     ·rw[bnf,qj]at q;rw[decide_eq_false (λ c=>c q)];exact y)
   have d:qc7 t=0->Ev (λ m _=>(qV m (qD m) m).2 t.kids t.kids.length 0) ((t.kids.map zl).foldl thn (qc7 t)) := λ h=>by
    rw[h];exact waB (L := λ m k=>(qV m (qD m) k).2 t.kids t.kids.length 0) n
   have e:qaJ t=t.kids.any (λ k=>decide (k.kind=3)||decide (k.sort≠1))->qc7 t=(if qaJ t=true then 10 else 0)->Ev (λ m _=>(qV m (qD m) m).1 t.kids t.kids.length 0 t.kind t.name t.sort t.kids) ((t.kids.map zl).foldl thn (qc7 t)) := λ r h=>by
    refine(waB (L := λ m k=>(qV m (qD m) k).1 t.kids t.kids.length 0 t.kind t.name t.sort t.kids) (D 0 (we _))).res ?_;rw[wO,<- r,h];split
    ·rw[qT _ (by decide)]
    ·rfl
   refine war (qzm t.name) ?_;rw[qtM]
   have a:qc7 t=if(qG t.name).2.2=0 then 10 else if(t.kids.length:Int)<(qG t.name).1\/(qG t.name).2.1<(t.kids.length:Int)then 6 else if qaJ t=true then 10 else 0:=by
    unfold qc7;rw[if_neg (show ¬ t.kind≠3 from λ c=>c z)]
   refine wax (λ h=>?_) λ h=>?_
   ·rw[qj]at h;rw[if_pos h]at a;exact way (by rw[a,qT _ (by decide)])
   rw[qg]at h;rw[if_neg h]at a;refine wax (λ l=>?_) λ l=>?_
   ·rw[qp]at l;rw[if_pos (.inl l)]at a;exact way (by rw[a,qT _ (by decide)])
   rw[qm]at l;refine wax (λ s=>?_) λ s=>?_
   ·rw[qp]at s;rw[if_pos (.inr s)]at a;exact way (by rw[a,qT _ (by decide)])
   rw[qm]at s;rw[if_neg (by omega)]at a;refine wax (λ p=>?_) λ p=>?_
   ·rw[yR]at p;refine e ?_ a;unfold qaJ;rw[p,if_neg (by decide),if_pos (.inl rfl)]
   rw[jQ]at p;refine wax (λ b=>?_) λ b=>?_
   ·rw[yR]at b;refine e ?_ a;unfold qaJ;rw[b,if_neg (by decide),if_pos (.inr rfl)]
   rw[jQ]at b;refine wax (λ j=>?_) λ j=>?_
   ·rw[yR]at j
    have o:0<t.kids.length:=by
     rw[j,show(qG [110,101,119]).1=1 from by decide]at l;omega
    refine waw (qei o) ?_
    have r:qaJ t=decide ((kid t 0).kind≠2):=by
     unfold qaJ;rw[if_pos (show t.name=qik from j)]
    refine wax (λ c=>?_) λ c=>?_
    ·rw[bnt,qg]at c;rw[r,decide_eq_true c,if_pos rfl]at a;exact way (by rw[a,qT _ (by decide)])
    ·rw[bnf,qj]at c;rw[r,decide_eq_false (λ g=>g c)]at a;exact d a
   ·rw[jQ]at j;refine d ?_
    have:qaJ t=false:=by
     unfold qaJ;rw[if_neg (show ¬ t.name=qik from j),if_neg (λ h=>h.elim p b)]
    rw[this]at a;exact a
theorem qFN(t:T)(a:size t<=1000000000):Ev (λ m _=>qeT m t) (qci t):=by
 refine waz ?_;simp only[qys,qhs,qk];unfold qci;refine war (qde t a) ?_;refine wax (λ h=>?_) λ h=>?_
 ·rw[bnt,qg]at h;exact way (by rw[QT h])
 ·rw[bnf,qj]at h;rw[h];exact war (qIT t a) (wat _)
theorem qyg(n:List UInt8):Ev (λ m _=>qfe m n) (qG n).2.2:=by
 refine waz ?_;simp only[qAV,qgg];refine war (a:=yV) (waz (wat _)) ?_
 have b:=qr (P := λ i=>Ev (λ m k=>qbp m k n yV i) (((yV.drop i).find? λ r=>r.1==n).getD ([],0,0,0)).2.2.2) yV (by decide)
  (λ c=>by
   refine waA ?_;simp only[qqp,qgk];refine wav c ?_;exact wat _)
  (λ i x j f c d e g=>by
   refine waA ?_;simp only[qqp,qgk];refine wau c (waw d ?_);rw[f,List.find?_cons,e];refine wax (λ h=>?_) λ h=>?_
   ·refine waw d (way ?_);rw[show(x.1==n)=true from h];rfl
   ·rw[show(x.1==n)=false from h];exact g)
 refine waB (L := λ m k=>qbp m k n yV 0) ?_;exact(b 0 (we _)).res (by rw[<- qtM];rfl)
theorem qMW(t:T):Ev (λ m _=>qkN m t) (qnW yV t.name t.kids.length):=by
 refine waz ?_;simp only[qBm,qgD];refine war (a:=yV) (waz (wat _)) ?_
 have c:=qr (P := λ i=>Ev (λ m k=>qbk m k yV i t.kind t.name t.sort t.kids) (qnW (yV.drop i) t.name t.kids.length)) yV (by decide)
  (λ e=>by
   refine waA ?_;simp only[qqA,qgn];refine wav e ?_;exact wat _)
  (λ i x l g e d f j=>by
   refine waA ?_;simp only[qqA,qgn];refine wau e (waw d ?_);rw[g,qHW,f];refine wax (λ h=>?_) λ h=>?_
   ·rw[if_pos (show(x.1==t.name)=true from h)];refine waw d ?_;refine wax (λ b=>?_) λ b=>?_
    ·rw[ja]at b;refine waw d (way ?_);rw[decide_eq_true b];rfl
    ·rw[yq]at b;exact way (by rw[decide_eq_false (by omega)];rfl)
   ·rw[if_neg (by rw[show(x.1==t.name)=false from h];decide)];exact j)
 refine waB (L := λ m k=>qbk m k yV 0 t.kind t.name t.sort t.kids) ?_;exact c 0 (we _)
theorem qH8(t:T)(f:t.kids.length<2 ^ 62)(a:t.name=qik->0<t.kids.length):Ev (λ m _=>qhb m t) (qk6 t):=by
 refine waz ?_;simp only[qxB,qer];unfold qk6;refine wax (λ h=>?_) λ h=>?_
 ·rw[yR]at h;rw[if_pos (show t.name=qik from h)];refine waw (qei (a h)) (wat _)
 rw[jQ]at h;rw[if_neg (show ¬ t.name=qik from h)]
 have c:=qr (P := λ i=>Ev (λ m k=>JV m k i t.kind t.name t.sort t.kids) (agB (t.kids.drop i))) t.kids f
  (λ d=>by
   refine waA ?_;simp only[qni,qeh];refine wav d ?_;exact way (by rw[wT];rfl))
  (λ i x n j d e g l=>by
   refine waA ?_;simp only[qni,qeh];refine wau d (waw e ?_);rw[j,qJX,g];refine wax (λ h=>?_) λ h=>?_
   ·exact way (by rw[show(x.kind==3)=true from h];rfl)
   rw[show(x.kind==3)=false from h];refine waw e ?_;refine wax (λ b=>?_) λ b=>?_
   ·rw[bnt,qg]at b;exact way (by rw[show(x.sort != 1)=true from bne_iff_ne.2 b];rfl)
   ·rw[bnf,qj]at b;rw[show(x.sort != 1)=false by rw[b];rfl];exact l)
 refine waB (L := λ m k=>JV m k 0 t.kind t.name t.sort t.kids) ?_;exact(c 0 (we _)).res (by rw[wO])
theorem qJh(t:T):size t<=1000000000->Ev (λ m _=>jn m t) (zl t):=by
 induction t using T.ind with
 | h t o =>
   intro C;refine waz ?_;simp only[qAv,qfK,qk];have E:=yA t;rw[qoi];refine wax (λ h=>?_) λ f=>?_
   ·rw[bnt,qg]at h;exact way (by rw[if_pos h])
   rw[bnf,qj]at f;rw[if_neg (show ¬ t.kind≠3 from λ r=>r f),<- qJJ t f]
   have c:=qr (P := λ i=>Ev (λ m k=>Jy m (jn m) k i t.kind t.name t.sort t.kids) (((t.kids.drop i).map zl).foldl thn 0)) t.kids (by omega)
    (λ e=>by
     refine waA ?_;simp only[qoE,qfB];refine wav e ?_;exact way (by simp))
    (λ i x p u e s q w=>by
     refine waA ?_;simp only[qoE,qfB,qk];have g:=wa p;have G:=jI t x g;refine wau e (waw s (war (o x g (by omega)) ?_));rw[u,wo,QV,q];refine wax (λ h=>?_) λ h=>?_
     ·rw[bnt,qg]at h;exact way (by rw[qT _ h])
     ·rw[bnf,qj]at h;rw[h];exact w)
   have a:qvE t=0->Ev (λ m _=>Jy m (jn m) m 0 t.kind t.name t.sort t.kids) ((t.kids.map zl).foldl thn (qvE t)) := λ h=>by
    rw[h];exact(waB (L := λ m k=>Jy m (jn m) k 0 t.kind t.name t.sort t.kids) (c 0 (we _))).res (by rw[wO])
   unfold qvE at a |-
   refine war (qyg t.name) ?_;refine wax (λ h=>?_) λ h=>?_
   ·rw[qj]at h;rw[if_pos h];exact way (by rw[qT _ (by decide)])
   rw[qg]at h;rw[if_neg h]at a |-
   refine war (qMW t) ?_;cases d:qnW yV t.name t.kids.length with
   | false =>
     refine wau rfl ?_;rw[if_pos rfl];exact way (by rw[qT _ (by decide)])
   | true =>
     rw[d,if_neg (by decide)]at a;rw[if_neg (by decide)];refine wav rfl ?_;refine wax (λ b=>?_) λ b=>?_
     ·rw[qj]at b;refine war (qH8 t (by omega) λ D=>?_) ?_
      ·obtain⟨n,l,B,A,z,j,y⟩:=qwv h;have F:=j b;unfold qnW at d;rw[n,l,w7,wd,decide_eq_true_iff]at d;omega
      cases v:qk6 t with
      | false =>
        refine wau rfl ?_;rw[if_pos ⟨b,rfl⟩];exact way (by rw[qT _ (by decide)])
      | true =>
        rw[v,if_neg (by rintro⟨_,h⟩;cases h)]at a;rw[if_neg (by rintro⟨_,h⟩;cases h)];exact wav rfl (a rfl)
     ·rw[qg]at b;rw[if_neg (by rintro⟨h,_⟩;exact b h)]at a |-
      exact a rfl
theorem qyh(t:T)(a:size t<=1000000000):Ev (λ m _=>qdY m t) (qci t):=by
 refine waz ?_;simp only[qz8,qiN,qk];unfold qci;refine war (qdd t a) ?_;refine wax (λ h=>?_) λ h=>?_
 ·rw[bnt,qg]at h;exact way (by rw[QT h])
 ·rw[bnf,qj]at h;rw[h];exact war (qJh t a) (wat _)
end Go.AmZ
namespace Go.GxZ
def Asc(l:List T):Prop:=l.Pairwise λ a b=>qt a b=-1
theorem yB{a:T}:qt a a≠-1:=by rw[qr6];decide
theorem qxb{a b:T}:qt a b=1↔qt b a=-1:=by
 have:=ye.anti a b;omega
theorem qfA{a b c:T}(e:qt a b=-1)(d:qt b c=-1):qt a c=-1:=ye.trans a b c e d
theorem qa2{x:T}{l:List T}:Asc (x::l)↔(∀ y∈l,qt x y=-1)/\Asc l:=List.pairwise_cons
theorem qEE:∀(l m:List T),Asc l->Asc m->(∀ x,x∈l↔x∈m)->l=m
 | [],[],_,_,_=>rfl
 | [],y::m,_,_,h=>absurd ((h y).2 (wh ..)) (by simp)
 | x::l,[],_,_,h=>absurd ((h x).1 (wh ..)) (by simp)
 | x::l,y::m,n,k,h=>by
   obtain⟨c,i⟩:=qa2.1 n;obtain⟨b,g⟩:=qa2.1 k;have f:=(h x).1 (wh ..);have d:=(h y).2 (wh ..)
   have e:x=y:=by
    rcases wx.1 f with e | f
    ·exact e
    rcases wx.1 d with e | d
    ·exact e.symm
    exact absurd (qfA (c y d) (b x f)) yB
   subst e;rw[qEE l m i g λ z=>?_];constructor
   ·intro a;rcases wx.1 ((h z).1 (wg _ a))with e | j
    ·subst e;exact absurd (c z a) yB
    ·exact j
   ·intro a;rcases wx.1 ((h z).2 (wg _ a))with e | j
    ·subst e;exact absurd (b z a) yB
    ·exact j
theorem qvx(n:Nat):∀(a b:List T),a.length+b.length<=n->Asc a->Asc b->Asc (zm a b)/\(∀ x,x∈zm a b↔¬(x∈a↔x∈b)):=by
 induction n with
 | zero =>
   intro a b h _ _;obtain rfl:a=[]:=kt.1 (by omega);obtain rfl:b=[]:=kt.1 (by omega);rw[zm];exact⟨List.Pairwise.nil,by simp⟩
 | succ n p =>
   intro a b h u t
   match a,b with
   | [],b=>rw[zm];exact⟨t,by simp⟩
   | x::a,[]=>rw[zm];exact⟨u,by simp[Classical.or_iff_not_imp_left]⟩
   | x::a,y::b =>
     rw[zm];obtain⟨g,o⟩:=qa2.1 u;obtain⟨f,m⟩:=qa2.1 t;simp only[wu]at h;by_cases k:qt x y=-1
     ·rw[if_pos k];obtain⟨l,i⟩:=p a (y::b) (by simp;omega) o t
      have s:x ∉ y::b:=by
       intro h;rcases wx.1 h with e | h
       ·subst e;exact yB k
       ·exact yB (qfA k (f x h))
      have B:x ∉ a := λ h=>yB (g x h);refine⟨qa2.2 ⟨λ z q=>?_,l⟩,λ z=>?_⟩
      ·have:=(i z).1 q;by_cases d:z∈a
       ·exact g z d
       ·have c:z∈y::b:=by
          by_cases c:z∈y::b
          ·exact c
          ·exact absurd ⟨λ h=>absurd h d,λ h=>absurd h c⟩ this
        rcases wx.1 c with e | w
        ·rw[e];exact k
        ·exact qfA k (f z w)
      ·rw[wx,i,wx (a:=z) (b:=x)];by_cases e:z=x
       ·subst e;simp[s]
       ·simp[e]
     ·rw[if_neg k];by_cases v:qt x y=1
      ·rw[if_pos v];have j:=qxb.1 v;obtain⟨l,i⟩:=p (x::a) b (by simp;omega) u m
       have r:y ∉ x::a:=by
        intro h;rcases wx.1 h with e | h
        ·subst e;exact yB j
        ·exact yB (qfA j (g y h))
       have A:y ∉ b := λ h=>yB (f y h);refine⟨qa2.2 ⟨λ z q=>?_,l⟩,λ z=>?_⟩
       ·have:=(i z).1 q;by_cases c:z∈b
        ·exact f z c
        ·have d:z∈x::a:=by
           by_cases d:z∈x::a
           ·exact d
           ·exact absurd ⟨λ h=>absurd h d,λ h=>absurd h c⟩ this
         rcases wx.1 d with e | w
         ·rw[e];exact j
         ·exact qfA j (g z w)
       ·rw[wx,i,wx (a:=z) (b:=y)];by_cases e:z=y
        ·subst e;simp[r]
        ·simp[e]
      ·rw[if_neg v];have j:qt x y=0:=by have:=ye.rng x y;omega
       have e:=qaX x y j;subst e;obtain⟨l,i⟩:=p a b (by omega) o m;refine⟨l,λ z=>?_⟩;rw[i,wx,wx];by_cases e:z=x
       ·subst e;have:z ∉ a := λ h=>yB (g z h);have:z ∉ b := λ h=>yB (f z h);simp[*]
       ·simp[e]
theorem qyG{a b:List T}(d:Asc a)(c:Asc b):Asc (zm a b):=(qvx _ a b (wb _) d c).1
theorem qIS{a b:List T}(d:Asc a)(c:Asc b)(x:T):x∈zm a b↔¬(x∈a↔x∈b):=(qvx _ a b (wb _) d c).2 x
theorem qh5:∀(b:List (List T)) (a:List T),Asc a->(∀ l∈b,Asc l)->Asc (b.foldl zm a)
 | [],_,h,_=>h
 | l::b,a,h,k=>qh5 b _ (qyG h (k l (wh ..))) λ m c=>k m (wg _ c)
theorem qmL(t:T):Asc (Qc t):=by
 refine T.ind (P := λ t=>Asc (Qc t)) ?_ t;intro t a;rw[qlI];split
 ·exact List.Pairwise.nil
 ·split
  ·exact qh5 _ _ List.Pairwise.nil λ l b=>by
    obtain⟨k,c,rfl⟩:=wy.1 b;exact a k c
  ·exact vu _ _
def JR(t:T)(s:List T × Bool)(x:T):List T × Bool :=
 if s.2=false/\qt t x<=0 then(s.1++(if qt t x<0 then[t]else[])++[x],true)else(s.1++[x],s.2)
def qx9(l:List T)(t:T):List T:=if(l.foldl (JR t) ([],false)).2 then(l.foldl (JR t) ([],false)).1 else(l.foldl (JR t) ([],false)).1++[t]
def qiV(l:List T)(t:T):List T:=if l.any (λ x=>jm x t)then l.filter (λ x => !jm x t)else qx9 l t
def qkU(a b:List T):List T:=b.foldl qiV a
theorem qy3(t:T):∀(l a:List T),l.foldl (JR t) (a,true)=(a++l,true)
 | [],a=>by simp
 | x::l,a=>by
   have e:JR t (a,true) x=(a++[x],true):=by simp[JR]
   rw[kg,e,qy3 t l];simp
def Jm:List T->T->List T
 | [],t=>[t]
 | x::l,t=>if qt t x<0 then t::x::l else if qt t x=0 then x::l else x::Jm l t
theorem qwI(t:T):∀(l a:List T),(if(l.foldl (JR t) (a,false)).2 then(l.foldl (JR t) (a,false)).1 else(l.foldl (JR t) (a,false)).1++[t])=a++Jm l t
 | [],a=>by simp[Jm]
 | x::l,a=>by
   rw[kg];by_cases h:qt t x<=0
   ·have e:JR t (a,false) x=(a++(if qt t x<0 then[t]else[])++[x],true):=by simp[JR,h]
    rw[e,qy3,Jm];by_cases b:qt t x<0
    ·simp[b]
    ·have:qt t x=0:=by omega
     simp[this]
   ·have e:JR t (a,false) x=(a++[x],false):=by simp[JR,h]
    rw[e,qwI t l,Jm,if_neg (by omega),if_neg (by omega)];simp
theorem qtZ(l:List T)(t:T):qx9 l t=Jm l t:=by
 have:=qwI t l [];simpa[qx9]using this
theorem qtB(t:T):∀(l:List T) (x:T),x∈Jm l t↔x∈l\/x=t
 | [],x=>by simp[Jm]
 | y::l,x=>by
   rw[Jm];split
   ·simp only[wx];constructor
    ·rintro(h | h | h)<;>simp[h]
    ·rintro((h | h) | h)<;>simp[h]
   ·split
    ·rename_i h;have:=qaX t y h;subst this;simp only[wx];constructor
     ·rintro(h | h)<;>simp[h]
     ·rintro((h | h) | h)<;>simp[h]
    ·rw[wx,qtB t l x,wx];constructor
     ·rintro(h | h | h)<;>simp[h]
     ·rintro((h | h) | h)<;>simp[h]
theorem qDg(t:T):∀(l:List T),Asc l->Asc (Jm l t)
 | [],_=>vu _ _
 | y::l,h=>by
   obtain⟨c,d⟩:=qa2.1 h;rw[Jm];have f:=ye.rng t y;split
   ·have b:qt t y=-1:=by omega
    refine qa2.2 ⟨λ z a=>?_,h⟩;rcases wx.1 a with e | a
    ·rw[e];exact b
    ·exact qfA b (c z a)
   ·split
    ·exact h
    ·refine qa2.2 ⟨λ z a=>?_,qDg t l d⟩;rcases(qtB t l z).1 a with a | e
     ·exact c z a
     ·rw[e];exact qxb.1 (by omega)
theorem qb0{a b:T}:jm a b=true↔a=b:=by unfold jm;exact decide_eq_true_iff
theorem qJf{l:List T}(h:Asc l)(t:T):Asc (qiV l t)/\∀ x,x∈qiV l t↔¬(x∈l↔x=t):=by
 unfold qiV;by_cases a:t∈l
 ·have f:(l.any λ x=>jm x t)=true:=wag.2 ⟨t,a,qb0.2 rfl⟩;rw[if_pos f];refine⟨List.Pairwise.filter _ h,λ x=>?_⟩;rw[kJ];by_cases e:x=t
  ·subst e;simp[a,qb0.2 rfl]
  ·have:jm x t=false:=by
     cases b:jm x t
     ·rfl
     ·exact absurd (qb0.1 b) e
   simp[e,this]
 ·rw[if_neg (λ b=>by
    obtain⟨x,c,d⟩:=wag.1 b;exact a (by rw[<- qb0.1 d];exact c)),qtZ]
  refine⟨qDg t l h,λ x=>?_⟩;rw[qtB];by_cases e:x=t
  ·subst e;simp[a]
  ·simp[e]
theorem qo6:∀(b a:List T),Asc a->Asc b->Asc (qkU a b)/\∀ x,x∈qkU a b↔¬(x∈a↔x∈b)
 | [],a,g,_=>⟨g,λ x=>by simp[qkU]⟩
 | y::b,a,g,n=>by
   obtain⟨f,d⟩:=qa2.1 n;obtain⟨l,k⟩:=qJf g y;obtain⟨j,i⟩:=qo6 b (qiV a y) l d;refine⟨j,λ x=>?_⟩;rw[show qkU a (y::b)=qkU (qiV a y) b from rfl,i,k,wx];by_cases e:x=y
   ·subst e;have:x ∉ b := λ h=>yB (f x h);by_cases c:x∈a<;>simp[this,c]
   ·by_cases c:x∈a<;>by_cases m:x∈b<;>simp[e,c,m]
theorem qCH{a b:List T}(d:Asc a)(c:Asc b):qkU a b=zm a b :=
 qEE _ _ (qo6 b a d c).1 (qyG d c) λ x=>by rw[(qo6 b a d c).2,qIS d c]
end Go.GxZ
namespace Go.AmZ
open Go Go.GxZ Go.Lib
def szL(l:List T):Nat:=(l.map size).sum
theorem qR(x:T)(l:List T):szL (x::l)=size x+szL l:=by simp[szL]
theorem qix(a b:List T):szL (a++b)=szL a+szL b:=by simp[szL]
theorem jR:∀ l:List T,l.length<=szL l
 | []=>we _
 | x::l=>by
   have:=jR l;have:=size_pos x;rw[qR,wu];omega
theorem qcS{l:List T}{x:T}(h:x∈l):size x<=szL l:=qkA l x h
theorem qp0:∀(n:Nat) (a b:List T),a.length+b.length<=n->szL (zm a b)<=szL a+szL b
 | _,[],b,_=>by rw[zm];omega
 | _,x::a,[],_=>by rw[zm];omega
 | 0,x::a,y::b,h=>by simp at h
 | n+1,x::a,y::b,h=>by
   simp only[wu]at h;rw[zm];split
   ·have:=qp0 n a (y::b) (by simp;omega);rw[qR,qR];omega
   ·split
    ·have:=qp0 n (x::a) b (by simp;omega);rw[qR y,qR y];omega
    ·have:=qp0 n a b (by omega);rw[qR,qR];omega
theorem qtp:∀(b:List (List T)) (a:List T),szL (b.foldl zm a)<=szL a+(b.map szL).sum
 | [],_=>by simp
 | l::b,a=>by
   have d:=qtp b (zm a l);have c:=qp0 _ a l (wb _);simp only[kg,wo,kD];omega
theorem qwr(f g:T->Nat):∀ l:List T,(∀ k∈l,f k<=g k)->(l.map f).sum<=(l.map g).sum
 | [],_=>wb _
 | x::l,h=>by
   have c:=h x (wh ..);have b:=qwr f g l λ k a=>h k (wg _ a);simp only[wo,kD];omega
theorem qCg(l:List T)(h:∀ k∈l,szL (Qc k)<=size k):szL ((l.map Qc).foldl zm [])<=szL l:=by
 refine wD (qtp _ _) ?_;rw[xi];have:=qwr (szL ∘ Qc) size l h;show 0+_<=(l.map size).sum;omega
theorem qlp(t:T):szL (Qc t)<=size t:=by
 refine T.ind (P := λ t=>szL (Qc t)<=size t) ?_ t;intro t a;rw[qlI];split
 ·exact we _
 ·split
  ·have:=qCg t.kids a;have:=qL t;unfold szL at *;omega
  ·show szL [t]<=_;rw[qR];exact wb _
theorem qe6(l:List T):szL (zY l)<=szL l:=qCg l λ k _=>qlp k
theorem qpE(x:T)(l:List T):QM (x::l) 1 (((x::l).length:Nat):Int)=l:=by
 unfold QM;rw[wF,wC];rfl
theorem qdK(n:Nat):inb (n:Int) n=true:=by unfold inb;rw[decide_eq_true_iff];omega
theorem qsP(x:T)(l:List T):inb 1 (Int.toNat (((x::l).length:Nat):Int))=true:=by
 unfold inb;rw[decide_eq_true_iff,wF,wu];omega
theorem qB2(x:T)(l:List T):ilt 0 (((x::l).length:Nat):Int)=true:=by rw[qp,wu];omega
theorem qHd:∀(n:Nat) (a b c:List T),a.length+b.length<=n->szL c+szL a+szL b<=1000000000->Ev (λ m k=>qdf m k a b c) (c++zm a b):=by
 intro n
 induction n with
 | zero =>
   intro a b c i g;have:a=[]:=wk (by omega);subst this;have:b=[]:=wk (by omega);subst this;refine waA ?_;simp only[qts,qji];have:=jR c;exact wav rfl (wau (qC (by simp only[ke];omega) (by omega)) (wau (qC (by simp only[ke,wB];omega) (by omega)) (way (by rw[zm];simp))))
 | succ n f =>
   intro a b c i g;refine waA ?_;simp only[qts,qji,qk];have o:=jR c;have l:=jR a;have j:=jR b;cases a with
   | nil =>
     refine wav rfl (wau (qC (by simp only[ke];omega) (by omega)) (wau (qC (by simp only[wB];omega) (by omega)) (way (by rw[zm];simp))))
   | cons x a =>
     refine wau (qB2 x a) ?_;cases b with
     | nil =>
       refine wav rfl (wau (qC (by omega) (by omega)) (wau (qC (by rw[wc];simp only[ke];omega) (by omega)) (way (by rw[zm];simp))))
     | cons y b =>
       rw[qR,qR]at g;refine wau (qB2 y b) (waw (qag _) (waw (qag _) (war (qd2 x (by omega) y (by omega)) ?_)));rw[zm];simp only[wu]at i l j;rw[qR]at l j;refine wax (λ e=>?_) λ e=>?_
       ·rw[qp]at e;have e:qt x y=-1:=by rcases ye.rng x y with h | h | h<;>omega
        rw[if_pos e];refine waw (qag _) (wau (qC (by omega) (by omega)) (wau (qdK _) (wau (qsP x a) ?_)));rw[qpE];refine(f a (y::b) (c++[x]) (by simp only[wu];omega) (by rw[qix,qR,qR];show szL c+(size x+0)+_+_<=_;omega)).res (by simp)
       ·rw[qm]at e;rw[if_neg (by omega)];refine wax (λ d=>?_) λ d=>?_
        ·rw[qp]at d;have d:qt x y=1:=by rcases ye.rng x y with h | h | h<;>omega
         rw[if_pos d];refine waw (qag _) (wau (qC (by omega) (by omega)) (wau (qdK _) (wau (qsP y b) ?_)));rw[qpE];refine(f (x::a) b (c++[y]) (by simp only[wu];omega) (by rw[qix,qR,qR];show szL c+(size y+0)+_+_<=_;omega)).res (by simp)
        ·rw[qm]at d;rw[if_neg (by omega)];refine wau (qdK _) (wau (qsP x a) (wau (qdK _) (wau (qsP y b) ?_)));rw[qpE,qpE];exact f a b c (by omega) (by omega)
theorem qCt(a b:List T)(c:szL a+szL b<=1000000000):Ev (λ m _=>qlQ m a b) (zm a b):=by
 refine waz ?_;simp only[qGW,qi4];refine waB (L := λ m k=>qdf m k a b []) ?_;exact qHd _ a b [] (wb _) (by show 0+_+_<=_;omega)
theorem qDX(l:List T)(i:Nat):szL (l.take i)<=szL l:=by
 have:=congrArg szL (kz i l);rw[qix]at this;omega
theorem Qy{l:List T}{i:Nat}{x:T}(h:l[i]?=some x):szL (l.take i)+size x<=szL l:=by
 have b:l.take (i+1)=l.take i++[x]:=by rw[kw,h];rfl
 have a:=qDX l (i+1);rw[b,qix,qR]at a;have:szL ([]:List T)=0:=rfl;omega
theorem qkv{l:List T}{i:Nat}{x:T}(h:l[i]?=some x):((l.take (i+1)).map Qc).foldl zm []=zm (((l.take i).map Qc).foldl zm []) (Qc x):=by
 rw[kw,h,wS,xe];rfl
theorem qLA(t:T):size t<=1000000000->Ev (λ m _=>yF m t) (Qc t):=by
 induction t using T.ind with
 | h t s =>
   intro B;have C:=yA t;have A:=qL t;refine waz ?_;simp only[qw1,qep,qk]
   have o:=qr (P := λ i=>Ev (λ m k=>QR m (yF m) k (((t.kids.take i).map Qc).foldl zm []) t.kids t.kids.length i) ((t.kids.map Qc).foldl zm [])) t.kids (by omega)
    (λ q=>by
     refine waA ?_;simp only[qmI,qev];refine wav q ?_;rw[wC];exact wat _)
    (λ i x c D q w u y=>by
     refine waA ?_;simp only[qmI,qev,qk];have r:=wa c;have F:=jI t x r;have z:=qe6 (t.kids.take i);have g:=Qy c;have E:=qlp x;refine wau q (waw w (war (s x r (by omega)) (war (qCt _ _ ?_) ?_)))
     ·unfold zY at z;unfold szL at *;omega
     ·rw[u];refine y.congr λ m k=>?_;rw[qkv c])
   have j:Ev (λ m _=>QR m (yF m) m [] t.kids t.kids.length 0) ((t.kids.map Qc).foldl zm []) :=
    waB (L := λ m k=>QR m (yF m) k [] t.kids t.kids.length 0) (o 0 (we _))
   rw[qlI];by_cases g:t.kind=3
   ·have f:ieq t.kind 3=true:=qj.2 g;refine wau f ?_;refine wax (λ e=>?_) λ e=>?_
    ·rw[yR]at e;have a:isN t qcG=true:=yP.2 ⟨g,e⟩
     have d:isN t qc4=false:=by
      rw[<- kL,yP];rintro⟨_,h⟩;rw[e]at h;exact absurd h (by decide)
     refine wax (λ b=>?_) λ b=>?_
     ·rw[qj]at b;have b:t.kids=[]:=wk (by omega);rw[a,b];exact wat _
     ·rw[qg]at b
      have b:t.kids.isEmpty=false:=by
       cases v:t.kids with
       | nil=>rw[v]at b;exact absurd rfl b
       | cons _ _=>rfl
      rw[a,b,d];exact wau f (wav (by rw[e];rfl) (wat _))
    ·have p:=jQ.1 e
     have a:isN t qcG=false:=by
      rw[<- kL,yP];rintro⟨_,h⟩;exact p h
     rw[a];refine wau f (wax (λ c=>?_) λ c=>?_)
     ·rw[show isN t qc4=true from yP.2 ⟨g,yR.1 c⟩];exact j
     ·have d:isN t qc4=false:=by
        rw[<- kL,yP];rintro⟨_,h⟩;exact jQ.1 c h
      rw[d];exact wat _
   ·have f:ieq t.kind 3=false:=qg.2 g
    have l:∀ n,isN t n=false := λ n=>by
     rw[<- kL,yP];rintro⟨h,_⟩;exact g h
    rw[l,l];exact wav f (wav f (wat _))
end Go.AmZ
