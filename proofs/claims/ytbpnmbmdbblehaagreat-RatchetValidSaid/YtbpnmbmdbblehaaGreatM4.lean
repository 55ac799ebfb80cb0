/- Part 4 of what the proofs stand on: plain functions of the program, and that they are its functions. -/
import Derived.Test.YtbpnmbmdbblehaaGreatM3
import Derived.KernelRfl
import Derived.Test.YtbpnmbmdbblehaaGreatProg
import Derived.Test.YtbpnmbmdbblehaaGreatM2
import Derived.IntWalk
import Derived.Lib.Bytealg
set_option linter.unusedVariables false
set_option linter.unusedSimpArgs false
namespace Go.AmYtbpnmbmdbblehaaGreat
open Go Go.RowKit Go.GxYtbpnmbmdbblehaaGreat Go.Sort Go.Proofs Go.Shelf
structure qGJ (w0:World) (blk:Nat) (et:TypeId) (vs:Array Value) (W:World):Prop where
 hb:W.heap[blk]? = some (.cells vs et (0,0))
 os:W.os=w0.os
 tape:W.tape=w0.tape
 output:W.output=w0.output
 size:w0.heap.size≤W.heap.size
 other:∀ b,b<w0.heap.size→b≠blk→W.heap[b]? = w0.heap[b]?
 drawn:w0.drawn≤W.drawn
theorem qGJ.refl {w:World} {blk:Nat} {et:TypeId} {vs:Array Value} (h:w.heap[blk]? = some (.cells vs et (0,0))):qGJ w blk et vs w:=⟨h,rfl,rfl,rfl,Nat.le_refl _,λ _ _ _=>rfl,Nat.le_refl _⟩
theorem sort_blks {w:World} {blk:Nat} {et:TypeId} {vs:Array Value} (hb:w.heap[blk]? = some (.cells vs et (0,0))) {α : Type} [Inhabited α] (enc : α → List Value) (k m:Nat) (dk:Array α) (os:Array Obj) :
  qGJ w blk et (putCells id 0 (flatK enc k dk) vs) (sortWorldK enc k w blk 0 m dk os):=by
 have hlt:blk<w.heap.size:=(Array.getElem?_eq_some_iff.1 hb).1
 have hh:(sortWorldK enc k w blk 0 m dk os).heap=w.heap.modify blk (onCells (putCells id 0 (flatK enc k dk)))++os:=rfl
 refine ⟨?_,rfl,rfl,rfl,?_,λ b hb' hn=>?_,Nat.le_add_right _ _⟩
 ·rw [hh,Array.getElem?_append_left (by simpa using hlt),Array.getElem?_modify,if_pos rfl,hb]
  rfl
 ·rw [hh,Array.size_append,Array.size_modify];exact Nat.le_add_right _ _
 ·rw [hh,Array.getElem?_append_left (by simpa using hb'),Array.getElem?_modify,if_neg (Ne.symm hn)]
theorem qek.grow {W w':World} (h:qek W w'):∃ q os',w'=Sort.grow (W.drewN q) os':=by
 refine ⟨w'.drawn-W.drawn,w'.heap.extract W.heap.size w'.heap.size,?_⟩
 have hh:w'.heap=W.heap++w'.heap.extract W.heap.size w'.heap.size:=by
  apply Array.ext_getElem?
  intro i
  by_cases hi:i<W.heap.size
  ·rw [Array.getElem?_append_left hi];exact h.block i hi
  ·rw [Array.getElem?_append_right (by omega),Array.getElem?_extract]
   split
   ·congr 1;omega
   ·rw [Array.getElem?_eq_none (by omega)]
 have hd:W.drawn+(w'.drawn-W.drawn)=w'.drawn:=Nat.add_sub_cancel' h.drawn
 obtain ⟨h1,h2,h3,_,_,_⟩:=h
 cases w'
 cases W
 simp only [Sort.grow,World.drewN] at *
 rw [← hh,hd,h1,h2,h3]
def j9 (vs:Array Value) (k p:Nat):List Value:=(vs.toList.drop (p*k)).take k
theorem qjw {vs:Array Value} {k p j:Nat} (hj:j<k):(j9 vs k p)[j]? = vs[p*k+j]? := by
 unfold j9
 rw [List.getElem?_take,if_pos hj,List.getElem?_drop,Array.getElem?_toList]
theorem qlA {vs:Array Value} {k p n:Nat} (hp:p<n) (hn:n*k≤vs.size):(j9 vs k p).length=k:=by
 unfold j9
 have:(p+1)*k≤n*k:=Nat.mul_le_mul_right _ hp
 rw [Nat.succ_mul] at this
 rw [List.length_take,List.length_drop,Array.length_toList]
 omega
theorem qp4 {Γ : Gh} {τ : Ty} {c:List (List AV)} {l:List (Val τ)} {vs:Array Value} {n:Nat} (hn:c.length=n) (hk:∀ e∈c,e.length = τ.size) (hd:qU (yj τ) c=some l) (hc:yu Γ τ.size c (vs.toList.take (n * τ.size))) (hs:n * τ.size≤vs.size)
  {p:Nat} {x:Val τ} (hp:l[p]? = some x):RepL Γ (qm τ x) (j9 vs τ.size p)∧∀ u∈j9 vs τ.size p,u.oneCell'=true:=by
 have hln:l.length=n:=(qT hd).symm.trans hn
 have hpn:p<n:=by rw [← hln];exact getElem?_lt hp
 have hpc:p<c.length:=by rw [hn];exact hpn
 obtain ⟨x',hx',hdx⟩:=Jh hd (List.getElem?_eq_getElem hpc)
 rw [hp] at hx'
 cases hx'
 have hel:=hk _ (List.getElem_mem hpc)
 have hlen:=qlA (k := τ.size) hpn hs
 have get:∀ j,j < τ.size→∃ u,(j9 vs τ.size p)[j]? = some u∧Rep Γ (c[p][j]?.getD .dead) u∧u.oneCell'=true:=by
  intro j hj
  have hj':j<c[p].length:=by rw [hel];exact hj
  obtain ⟨u,u1,u2,u3⟩:=hc p c[p] j _ (List.getElem?_eq_getElem hpc) (List.getElem?_eq_getElem hj')
  refine ⟨u,?_,?_,u3⟩
  ·rw [qjw hj,← Array.getElem?_toList]
   rw [List.getElem?_take] at u1
   split at u1
   ·exact u1
   ·cases u1
  ·rw [List.getElem?_eq_getElem hj'];exact u2
 constructor
 ·refine (qiE hdx).rep ⟨by rw [hlen,hel],λ j y u hy hu=>?_⟩
  have hj:j < τ.size:=by rw [← hel];exact getElem?_lt hy
  obtain ⟨u',u1,u2,_⟩:=get j hj
  rw [hu] at u1;cases u1
  rw [hy] at u2
  exact u2
 ·intro u hu
  obtain ⟨j,hj⟩:=List.getElem?_of_mem hu
  have hjk:j < τ.size:=by rw [← hlen];exact getElem?_lt hj
  obtain ⟨u',u1,_,u3⟩:=get j hjk
  rw [hj] at u1;cases u1
  exact u3
theorem qin (j k n:Nat) (h:j<n*k):j / k<n∧j / k*k+j % k=j∧j % k<k:=by
 have hk:0<k:=by
  rcases Nat.eq_zero_or_pos k with h0 | h0
  ·rw [h0,Nat.mul_zero] at h;exact absurd h (Nat.not_lt_zero _)
  ·exact h0
 refine ⟨(Nat.div_lt_iff_lt_mul hk).2 h,?_,Nat.mod_lt _ hk⟩
 rw [Nat.mul_comm];exact Nat.div_add_mod j k
set_option maxHeartbeats 1000000 in
theorem qEu {P:Program} {ρ : Ren} (L:SlLaysF0.n6 P ρ) {τ : Ty} {g:FuncId} (hag:∀ v,yH τ v = .agg (qm τ v)) (aE:∀ w,(isAgg (ρ.t 24)).run P w = .ok true w) (zE:∀ w,(Go.sizeOf (ρ.t 24)).run P w = .ok τ.size w)
  {F:Val τ → Val τ → Option Int} (hF:Fn2 P g τ (λ c:Int => .int .i64 c) F) (hf:qe9 P (ρ.f 6)) {fn:List (Val τ)→Option (List (Val τ))} (hfn:∀ l r,fn l=some r→qo5 F l=some r) :
  qW P (ρ.f 6) (mgP ⟨τ,[.clo g 0],λ x=>fn x.1⟩):=by
 refine ⟨hf,λ Γ σ w args vals r hi hr hp=>?_⟩
 unfold mgP at hp
 split at hp
 case h_2=>cases hp
 rename_i x hx
 split at hp
 case h_2=>cases hp
 rename_i v hv
 split at hp
 case h_2=>cases hp
 rename_i hlen
 obtain ⟨l,_⟩:=x
 have hv:=hfn _ _ hv
 have hlen:v.length=l.length:=Nat.eq_of_beq_eq_true hlen
 obtain ⟨y0,ys0,nr,rfl,hy0,hx1⟩:=qob hx
 obtain ⟨ys1,rfl,hx2⟩:=qAZ (g:=g) (r:=[]) hx1
 obtain ⟨rfl,hbx,hrw⟩:=qi4 hx2
 clear hx hx1 hx2
 obtain ⟨u0,r0,rfl,hu0,hr⟩:=hr.uncons
 obtain ⟨u1,r1,rfl,hu1,hr⟩:=hr.uncons
 have:=hr.nil_inv
 subst this
 have hu1:u1 = .func (.func g) #[] #[]:=by
  cases hu1 with
  | fn _ _ us hn _=>obtain rfl:=List.eq_nil_of_length_eq_zero hn;rfl
 subst hu1
 have hb0 : σ.bx=[]:=List.eq_nil_of_length_eq_zero hbx.symm
 have none0:∀ (p:Option Addr) (cap:Nat),Calls P (ρ.f 6) #[.slice p 0 cap,.func (.func g) #[] #[]] w λ e w'=>e = .returned (.tuple #[])∧w'=w := λ p cap=>AnyF.slices_SortFunc_none L p cap _ w
 have tup:∀ Γ,Rep Γ (.tup []) (.tuple #[]) := λ Γ => .tup [] [] rfl (λ i x u h=>by cases h)
 rcases qds hy0 with ⟨hnr,R,rfl,hR,hRk,hRf,hRd⟩ | ⟨hnr,hl0,hy⟩
 ·have hrw1 : σ.rw=[R]:=by
    rw [hnr] at hrw
    match hq : σ.rw,hrw with
    | [Q],_=>rw [hq] at hR;cases hR;rfl
  rw [hb0,hrw1] at hp
  cases hp
  have H:=hi.row 0 R hR
  have hcl:R.c.length=l.length:=qT hRd
  have hlk:∀ e∈R.c,e.length = τ.size := λ e he=>(H.len e he).trans hRk
  have qlP:qP { σ with wr:=[],wrr:=[] } ⟨[],[⟨R.k,v.map (qm τ),R.ver,R.fz⟩],[],[0]⟩ :=
   ⟨by show σ.bx.length≤0;rw [hb0];exact Nat.le_refl _,by show σ.rw.length≤1;rw [hrw1];exact Nat.le_refl _,λ i hi _=>(by have hi:i < σ.bx.length:=hi;rw [hb0] at hi;exact absurd hi (Nat.not_lt_zero _)),λ i hi hn=>(by
    have hi:i < σ.rw.length:=hi
    rw [hrw1] at hi
    have hi:i<1:=hi
    obtain rfl:i=0:=by omega
    exact absurd (List.mem_singleton.2 rfl) hn),λ i h=>(by cases h),λ i h=>(by cases h)⟩
  obtain ⟨p,cap,rfl,hcap,hrm⟩:=qpc hi hR hRk hRf hu0
  by_cases hl0:l=[]
  ·subst hl0
   have hc0:R.c=[]:=List.eq_nil_of_length_eq_zero hcl
   have hv0:v=[]:=List.eq_nil_of_length_eq_zero hlen
   subst hv0
   rw [hcl]
   refine (none0 p cap).mono ?_
   rintro e w' ⟨rfl,rfl⟩
   refine ⟨_,Γ,rfl,.refl _ _,?_,tup _,qlP⟩
   have:(⟨[],[⟨R.k,([]:List (Val τ)).map (qm τ),R.ver,R.fz⟩],[],[0]⟩:St)=⟨[],[R],[],[0]⟩:=by
    show (⟨[],[⟨R.k,[],R.ver,R.fz⟩],[],[0]⟩:St)=_
    rw [← hc0]
   show Inv Γ ⟨[],[⟨R.k,([]:List (Val τ)).map (qm τ),R.ver,R.fz⟩],[],[0]⟩ w'
   rw [this]
   exact hi.wr hb0.symm hrw1.symm
  ·have hlpos:0<l.length:=List.length_pos_iff.2 hl0
   rcases hrm with h0 | ⟨rfl,hz,vs,et,hvs,hvsz,hfit,hca,hxl,h1⟩
   ·omega
   obtain ⟨n,hn⟩:∃ n,n=l.length:=⟨_,rfl⟩
   have hnc:R.c.length=n:=hcl.trans hn.symm
   rw [hnc] at hca hxl h1 hcap ⊢
   have hns:n * τ.size≤vs.size:=Nat.le_trans (Nat.mul_le_mul_right _ hcap) hfit
   have hsz0:0 < τ.size:=Ty.size_pos τ
   have hv':Nat.ble l.length 100000=true∧qbE F l=true∧qrm l.length (ltOf (QA F l))=true∧v=pick l (qai F l):=by
    cases l with
    | nil=>exact absurd rfl hl0
    | cons y l =>
      have hv:cond _ _ _=some v:=hv
      cases hb:(Nat.ble (y::l).length 100000&&(qbE F (y::l)&&qrm (y::l).length (ltOf (QA F (y::l))))) with
      | false=>unfold qo5 at hv;rw [hb] at hv;cases hv
      | true =>
        have hb':=hb
        simp only [Bool.and_eq_true] at hb'
        unfold qo5 at hv
        rw [hb] at hv
        cases hv
        exact ⟨hb'.1,hb'.2.1,hb'.2.2,rfl⟩
   obtain ⟨v1,v2,v3,v4⟩:=hv'
   have v1:l.length≤100000:=Nat.le_of_ble_eq_true v1
   have hO:SWO (ltOf (QA F l)):=qIs hlpos (λ i j=>by unfold ltOf;rw [qFI]) v3
   obtain ⟨hperm,_⟩:=qpU F l hO
   have hixlt:∀ i∈qai F l,i<l.length := λ i hi=>List.mem_range.1 (hperm.mem_iff.1 hi)
   have hixlen:(qai F l).length=l.length:=by rw [hperm.length_eq,List.length_range]
   have hER:∀ {q:Nat} {y:Val τ},l[q]? = some y→RepL Γ (qm τ y) (j9 vs τ.size q)∧∀ u∈j9 vs τ.size q,u.oneCell'=true := λ hq=>qp4 hnc hlk hRd hca hns hq
   have hlast:∀ i,i % n<n := λ i=>Nat.mod_lt _ (by omega)
   obtain ⟨enc,henc⟩:∃ enc:Nat→List Value,enc = λ i=>j9 vs τ.size (i % n):=⟨_,rfl⟩
   have hek:∀ i,(enc i).length = τ.size := λ i=>by rw [henc];exact qlA (hlast i) hns
   have hlget:∀ i,∃ y,l[i % n]? = some y := λ i=>⟨_,List.getElem?_eq_getElem (by rw [← hn];exact hlast i)⟩
   have he1:∀ i,∀ u∈enc i,u.oneCell'=true := λ i u hu=>by
    rw [henc] at hu
    obtain ⟨y,hy⟩:=hlget i
    exact (hER hy).2 u hu
   have hrange:(Array.range n).size=n:=Array.size_range
   have hvsb:w.heap[Γ.cur 0]? = some (.cells vs et (0,0)):=hvs
   have hblk : Γ.cur 0<w.heap.size:=(Array.getElem?_eq_some_iff.1 hvsb).1
   have hmem0:∀ off,Γ.mem (Γ.cur 0) off=none := λ off=>H.un hz off (by rw [hRf,Nat.zero_mul];exact Nat.zero_le _)
   have hH:HoldsK enc τ.size w (Γ.cur 0) 0 (Array.range n):=by
    intro j hj
    rw [size_flatK,hrange] at hj
    obtain ⟨q1,q2,q3⟩:=qin j τ.size n hj
    have hjs:j<vs.size:=Nat.lt_of_lt_of_le hj hns
    constructor
    ·rw [get_flatK _ _ _ _ (by rw [hrange];exact hj)]
     have e1:(Array.range n)[j / τ.size]! = j / τ.size:=by rw [getElem!_pos _ _ (by rw [hrange];exact q1)];simp
     rw [e1,henc]
     show _=some ((j9 vs τ.size (j / τ.size % n))[j % τ.size]!)
     rw [Nat.mod_eq_of_lt q1]
     have e2:(j9 vs τ.size (j / τ.size))[j % τ.size]? = some vs[j]:=by rw [qjw q3,q2];exact Array.getElem?_eq_getElem hjs
     rw [Nat.zero_add,Blk.cell hvs,List.getElem!_eq_getElem?_getD,e2,Array.getElem?_eq_getElem hjs]
     rfl
    ·exact Blk.free hvs _
   have hcmp:CmpLays P g #[] enc τ.size (QA F l) (Γ.cur 0) 0 (Array.range n).size w:=by
    intro m os dk hdk x y
    have B:=sort_blks hvsb enc τ.size m dk os
    obtain ⟨W,hW⟩:∃ W,W=sortWorldK enc τ.size w (Γ.cur 0) 0 m dk os:=⟨_,rfl⟩
    rw [← hW] at B ⊢
    have hiW:Inv (bare Γ) emp W:=hi.bare λ b o u e=>by
     have hne:b ≠ Γ.cur 0 := λ hb=>by rw [hb,hmem0] at e;cases e
     have hc:=(hi.mem b o u e).1
     have hblt:=hi.mem_lt e
     rw [show W.cell? _=w.cell? _ from World.cell?_of_block (B.other b hblt hne)]
     exact hc
    have rep:∀ (i:Nat) (y:Val τ),l[i % n]? = some y→Rep (bare Γ) (yH τ y) (.agg (enc i).toArray) := λ i y hy=>by
     obtain ⟨q1,q2⟩:=hER hy
     rw [hag]
     have:enc i=j9 vs τ.size (i % n):=by rw [henc]
     rw [this]
     refine .agg _ _ q1.len q2 λ j z u a b=>(q1.rep j z u a b).bare (zU τ y z (List.mem_of_getElem? a))
    obtain ⟨lx,hx⟩:=hlget x
    obtain ⟨ly,hy⟩:=hlget y
    have hsome:=List.all_eq_true.1 (List.all_eq_true.1 v2 lx (List.mem_of_getElem? hx)) ly (List.mem_of_getElem? hy)
    obtain ⟨c,hc⟩:=Option.isSome_iff_exists.1 hsome
    have hcf:QA F l x y=c:=by
     unfold QA
     rw [← hn,hx,hy]
     simp only
     rw [hc];rfl
    rw [hcf]
    have hcall:=hF.2 hiW (rep x lx hx) (rep y ly hy) hc
    refine Calls.mono (by simpa using hcall) ?_
    rintro e w' ⟨rfl,hid⟩
    exact ⟨rfl,hid.grow⟩
   have hcall:=AnyQ.slices_SortFunc_eq L τ.size aE zE enc hek he1 (QA F l) hO g #[] (Γ.cur 0) 0 cap (Array.range n) w (λ args w=>qd3 hF.1 args w) hcmp hH hblk (by rw [hrange];omega)
   rw [hrange] at hcall
   refine Calls.mono hcall ?_
   rintro e w' ⟨rfl,m,os,hw'⟩
   have B:=sort_blks hvsb enc τ.size m (pdq (ltOf (QA F l)) (Array.range n) 0 n (Lib.bitLen n) true true) os
   rw [← hw'] at B
   have hix:qai F l=(pdq (ltOf (QA F l)) (Array.range n) 0 n (Lib.bitLen n) true true).toList:=by unfold qai;rw [hn]
   obtain ⟨dk,hdk⟩:∃ dk,dk=pdq (ltOf (QA F l)) (Array.range n) 0 n (Lib.bitLen n) true true:=⟨_,rfl⟩
   rw [← hdk] at B hix
   have hdks:dk.size=n:=by rw [← Array.length_toList,← hix,hixlen,hn]
   have hvlen:(v.map (qm τ)).length=n:=by rw [List.length_map,hlen,hn]
   have hflat:(flatK enc τ.size dk).size=n * τ.size:=by rw [size_flatK,hdks]
   have hpsz:(putCells id 0 (flatK enc τ.size dk) vs).size=vs.size:=by unfold putCells;rw [Array.size_mapIdx]
   obtain ⟨Γ',x1,x2,_⟩:=qi2 hi hR (R':=⟨R.k,v.map (qm τ),R.ver,R.fz⟩) (by rw [hRf];exact Nat.zero_le _) rfl (g := Γ.cur 0) (vs:=putCells id 0 (flatK enc τ.size dk) vs) (e:=et) (.inr ⟨rfl,rfl,hpsz.trans hvsz⟩)
    (λ e he=>by obtain ⟨y,_,rfl⟩:=List.mem_map.1 he;rw [jM,hRk]) (λ e he=>by obtain ⟨y,_,rfl⟩:=List.mem_map.1 he;exact zU τ y) (by show R.fz≤_;rw [hRf];exact Nat.zero_le _) B.hb
    (by show (v.map (qm τ)).length*R.k≤_;rw [hvlen,hRk,hpsz];exact hns)
    (λ off _=>hmem0 off)
    (λ i e j x he hx=>by
     have he:(v.map (qm τ))[i]? = some e:=he
     have hin:i<n:=by rw [← hvlen];exact getElem?_lt he
     rw [List.getElem?_map,v4,qqj hixlt] at he
     have hixi:(qai F l)[i]? = some dk[i]:=by rw [hix,Array.getElem?_toList];exact Array.getElem?_eq_getElem (by omega)
     rw [hixi] at he
     obtain ⟨y,hy,rfl⟩:∃ y,l[dk[i]]? = some y∧qm τ y=e:=by
      cases hq:l[dk[i]]? with
      | none=>simp [hq] at he
      | some y=>simp [hq] at he;exact ⟨y,rfl,he⟩
     have hdl:dk[i]<n:=Nat.lt_of_lt_of_le (getElem?_lt hy) (Nat.le_of_eq hn.symm)
     obtain ⟨q1,q2⟩:=hER hy
     have hj:j < τ.size:=by rw [← jM τ y];exact getElem?_lt hx
     obtain ⟨u,hu,hrep⟩:=q1.get hx
     refine ⟨u,?_,hrep,q2 u (List.mem_of_getElem? hu)⟩
     rw [hRk]
     have hlt:i * τ.size+j<n * τ.size:=by
      have:(i+1) * τ.size≤n * τ.size:=Nat.mul_le_mul_right _ hin
      rw [Nat.succ_mul] at this
      omega
     unfold putCells
     rw [Array.getElem?_mapIdx,Array.getElem?_eq_getElem (Nat.lt_of_lt_of_le hlt hns),Option.map_some,if_pos ⟨Nat.zero_le _,by rw [hflat,Nat.zero_add];exact hlt⟩,Nat.sub_zero,id,get_flatK _ _ _ _ (by rw [hdks];exact hlt)]
     have e1:(i * τ.size+j) / τ.size=i:=by rw [Nat.mul_comm,Nat.mul_add_div hsz0,Nat.div_eq_of_lt hj,Nat.add_zero]
     have e2:(i * τ.size+j) % τ.size=j:=by rw [Nat.mul_comm,Nat.mul_add_mod,Nat.mod_eq_of_lt hj]
     rw [e1,e2,getElem!_pos dk i (by omega),henc]
     show some ((j9 vs τ.size (dk[i] % n))[j]!)=_
     rw [Nat.mod_eq_of_lt hdl,List.getElem!_eq_getElem?_getD,hu]
     rfl)
    (λ b o u hm=>by
     have hne:b ≠ Γ.cur 0 := λ hb=>by rw [hb,hmem0] at hm;cases hm
     rw [show w'.cell? _=w.cell? _ from World.cell?_of_block (B.other b (hi.mem_lt hm) hne)]
     exact (hi.mem b o u hm).1)
    (λ b hb hor=>B.other b hb (hor.elim id λ h0=>absurd h0 hz)) (.inl ⟨rfl,hz⟩) B.os B.tape B.output B.size B.drawn [0]
   refine ⟨_,Γ',rfl,x1,?_,tup _,qlP⟩
   refine x2.wr ?_ ?_
   ·exact hb0.symm
   ·show [(⟨R.k,v.map (qm τ),R.ver,R.fz⟩:Row)] = σ.rw.set 0 _
    rw [hrw1];rfl
 ·have hrw0 : σ.rw=[]:=by rw [hnr] at hrw;exact List.eq_nil_of_length_eq_zero hrw.symm
  rw [hb0,hrw0] at hp
  cases hp
  have hfin:∀ (p:Option Addr) (cap:Nat),jD P Γ σ w (ρ.f 6) [.slice p 0 cap,.func (.func g) #[] #[]] (.tup [],none) := λ p cap=>by
   refine (none0 p cap).mono ?_
   rintro e w' ⟨rfl,rfl⟩
   exact ⟨_,Γ,rfl,.refl _ _,hi,tup _,.refl _⟩
  rcases hy with rfl | ⟨f,rfl,hf2⟩
  ·have hu0:=zr hu0
   subst hu0
   exact hfin none 0
  ·cases hu0 with
   | sl _ _ _ a n cap b o us hn _ _ _ _ _ _ _ _ =>
     have hn:n=0:=hn
     subst hn
     exact hfin a cap
end Go.AmYtbpnmbmdbblehaaGreat
namespace Go.Proofs.YtbpnmbmdbblehaaGreat
open Go Go.RowKit Go.GxYtbpnmbmdbblehaaGreat Go.Sort Go.Proofs Go.Shelf Go.Lib
def zq (ef:Nat→Nat→Bool) (n:Nat):List Nat:=(List.range n).filter λ i=>decide (i=0) || !ef i (i-1)
theorem qzN {ef:Nat→Nat→Bool} {n:Nat} (h:ef n (n-1)=false):zq ef (n+1)=zq ef n++[n]:=by
 unfold zq
 rw [List.range_succ,List.filter_append]
 simp [h]
theorem qpR {ef:Nat→Nat→Bool} {n:Nat} (hn:0<n) (h:ef n (n-1)=true):zq ef (n+1)=zq ef n:=by
 unfold zq
 rw [List.range_succ,List.filter_append]
 have:¬ n=0:=by omega
 simp [h,this]
theorem qte {ef:Nat→Nat→Bool} {n:Nat} (h:∀ i,1≤i→i<n→ef i (i-1)=false):zq ef n=List.range n:=by
 unfold zq
 rw [List.filter_eq_self]
 intro i hi
 have hi:=List.mem_range.1 hi
 by_cases h0:i=0
 ·simp [h0]
 ·rw [h i (by omega) hi];simp
theorem qz9 {α : Type} [Inhabited α] (enc : α → List Value) (k:Nat) (hk:∀ x,(enc x).length=k) (d:Array α) (i:Nat) (x : α) (hi:i<d.size):setMany (flatK enc k d) (i*k) (enc x)=flatK enc k (d.setIfInBounds i x):=by
 refine ext_get! (by simp) λ t ht=>?_
 rw [size_setMany,size_flatK] at ht
 rw [get_setMany _ _ _ _ (by rw [size_flatK];exact ht),hk,get_flatK _ _ _ _ ht,get_flatK _ _ _ _ (by simpa using ht)]
 have hk0:0<k:=by
  rcases Nat.eq_zero_or_pos k with h0 | h0
  ·rw [h0,Nat.mul_zero] at ht;exact absurd ht (Nat.not_lt_zero _)
  ·exact h0
 by_cases hb:i*k≤t∧t<i*k+k
 ·rw [if_pos hb]
  have e:=(blk_iff k i t hk0).1 hb
  rw [e,getElem!_set_same d i x hi]
  congr 1
  have:=Nat.div_add_mod t k
  rw [e] at this
  have e2:k*i=i*k:=Nat.mul_comm _ _
  omega
 ·rw [if_neg hb,getElem!_set_other d i _ x λ he=>hb ((blk_iff k i t hk0).2 he)]
theorem qFH {α : Type} [Inhabited α] {w:World} {enc : α → List Value} {k blk:Nat} (hk:∀ x,(enc x).length=k) (m:Nat) (dk:Array α) (os:Array Obj) (hblk:blk<w.heap.size) (i:Nat) (x : α) (hi:i<dk.size) :
  (sortWorldK enc k w blk 0 m dk os).setCells blk (i*k) (enc x)=sortWorldK enc k w blk 0 m (dk.setIfInBounds i x) os:=by
 have hb:i*k+(enc x).length≤(flatK enc k dk).size:=by
  rw [hk,size_flatK]
  have:=Nat.mul_le_mul_right k (show i+1≤dk.size from hi)
  rwa [Nat.succ_mul] at this
 unfold sortWorldK
 rw [setCells_grow os blk _ _ _ (by rw [size_putRowK];exact hblk)]
 congr 1
 unfold putRowK
 have:=setCells_putRow (Sort.ahead w m) blk 0 (enc x) (i*k) (flatK enc k dk) hb
 rw [Nat.zero_add] at this
 rw [this,qz9 enc k hk dk i x hi]
variable {P:Program}
set_option maxHeartbeats 4000000 in
set_option maxRecDepth 1000000 in
theorem qDC (hF:P.funcs[155]? = some Tryz.f155) (mixed:P.follows .mixedOrders=true)
  (t0:P.underlying 0=some (TypeDesc.tuple #[])) (a0:∀ w,(isAgg 0).run P w = .ok false w) (z0:∀ w,(Go.sizeOf 0).run P w = .ok 1 w) (v0:∀ w,(zeroValue 0).run P w = .ok (Value.tuple #[]) w)
  (t3:P.underlying 3=some (TypeDesc.int IntKind.i64)) (a3:∀ w,(isAgg 3).run P w = .ok false w) (z3:∀ w,(Go.sizeOf 3).run P w = .ok 1 w) (v3:∀ w,(zeroValue 3).run P w = .ok (Value.int IntKind.i64 0) w)
  (t4:P.underlying 4=some (TypeDesc.bool)) (a4:∀ w,(isAgg 4).run P w = .ok false w) (z4:∀ w,(Go.sizeOf 4).run P w = .ok 1 w) (v4:∀ w,(zeroValue 4).run P w = .ok (Value.bool false) w)
  (t22:P.underlying 22=some (TypeDesc.slice 24)) (a22:∀ w,(isAgg 22).run P w = .ok false w) (z22:∀ w,(Go.sizeOf 22).run P w = .ok 1 w) (v22:∀ w,(zeroValue 22).run P w = .ok (Value.slice none 0 0) w)
  (t36:P.underlying 36=some (TypeDesc.func #[24,24] #[4] false)) (a36:∀ w,(isAgg 36).run P w = .ok false w) (z36:∀ w,(Go.sizeOf 36).run P w = .ok 1 w) (v36:∀ w,(zeroValue 36).run P w = .ok (Value.nilFunc) w)
  (p:Option Addr) (cap:Nat) (fv:Value) (w:World) :
  Calls P 155 #[.slice p 0 cap,fv] w λ e w'=>e = .returned (.slice p 0 cap)∧w'=w:=by
 go_enter hF,Tryz.ntmps155
 go_wp2
 go_ret
 exact ⟨rfl,rfl⟩
set_option maxHeartbeats 4000000 in
set_option maxRecDepth 1000000 in
theorem qEw (hF:P.funcs[155]? = some Tryz.f155) (mixed:P.follows .mixedOrders=true)
  (t0:P.underlying 0=some (TypeDesc.tuple #[])) (a0:∀ w,(isAgg 0).run P w = .ok false w) (z0:∀ w,(Go.sizeOf 0).run P w = .ok 1 w) (v0:∀ w,(zeroValue 0).run P w = .ok (Value.tuple #[]) w)
  (t3:P.underlying 3=some (TypeDesc.int IntKind.i64)) (a3:∀ w,(isAgg 3).run P w = .ok false w) (z3:∀ w,(Go.sizeOf 3).run P w = .ok 1 w) (v3:∀ w,(zeroValue 3).run P w = .ok (Value.int IntKind.i64 0) w)
  (t4:P.underlying 4=some (TypeDesc.bool)) (a4:∀ w,(isAgg 4).run P w = .ok false w) (z4:∀ w,(Go.sizeOf 4).run P w = .ok 1 w) (v4:∀ w,(zeroValue 4).run P w = .ok (Value.bool false) w)
  (t22:P.underlying 22=some (TypeDesc.slice 24)) (a22:∀ w,(isAgg 22).run P w = .ok false w) (z22:∀ w,(Go.sizeOf 22).run P w = .ok 1 w) (v22:∀ w,(zeroValue 22).run P w = .ok (Value.slice none 0 0) w)
  (t36:P.underlying 36=some (TypeDesc.func #[24,24] #[4] false)) (a36:∀ w,(isAgg 36).run P w = .ok false w) (z36:∀ w,(Go.sizeOf 36).run P w = .ok 1 w) (v36:∀ w,(zeroValue 36).run P w = .ok (Value.nilFunc) w)
  (k:Nat) (hk0:0<k) (aE:∀ w,(isAgg 24).run P w = .ok true w) (zE:∀ w,(Go.sizeOf 24).run P w = .ok k w) (zv:Value) (vE:∀ w,(zeroValue 24).run P w = .ok zv w) (hzk:zv.cells.size=k) (hz1:∀ n,∀ v∈(Builtin.zeroCells zv.cells n).toList,v.oneCell'=true)
  (w:World) (blk n cap:Nat) (et:TypeId) (vs:Array Value) (q:Nat) (hbk:w.heap[blk]? = some (.cells vs et (0,0))) (hcs:cap*k≤vs.size) (hnc:n≤cap) (hn:n≤100000) (h0n:0<n)
  (enc:Nat→List Value) (hk:∀ x,(enc x).length=k) (h1:∀ x,∀ v∈enc x,v.oneCell'=true) (hH:HoldsK enc k w blk 0 (Array.range n))
  (eg:∀ args w,(callFunc q args).run P w = .ok (.enter q args) w) (ef:Nat→Nat→Bool)
  (heq:∀ (m:Nat) (os:Array Obj) (dk:Array Nat),dk.size=n→∀ x y,Calls P q #[.agg (enc x).toArray,.agg (enc y).toArray] (sortWorldK enc k w blk 0 m dk os) λ e w'=>e = .returned (.bool (ef x y))∧∃ q' os',w'=grow ((sortWorldK enc k w blk 0 m dk os).drewN q') os') :
  Calls P 155 #[.slice (some ⟨blk,0,none⟩) n cap,.func (.func q) #[] #[]] w λ e w'=>e = .returned (.slice (some ⟨blk,0,none⟩) (zq ef n).length cap) ∧
   ∃ (dk:Array Nat) (m:Nat) (os:Array Obj) (new:List Value),dk.size=n∧dk.toList.take (zq ef n).length=zq ef n∧(w'=sortWorldK enc k w blk 0 m dk os∨(new.take ((zq ef n).length*k)=(putCells id 0 (flatK enc k dk) vs).toList.take ((zq ef n).length*k)∧new.length=vs.size∧w'=(sortWorldK enc k w blk 0 m dk os).setRow blk new.toArray)):=by
 have u22:=run_underlying t22
 have hblk:blk<w.heap.size:=(Array.getElem?_eq_some_iff.1 hbk).1
 have hrs:(Array.range n).size=n:=Array.size_range
 have HC:Aside _:=heq
 have HST:Hid (w=sortWorldK enc k w blk 0 0 (Array.range n) #[]):=by show w=_;unfold sortWorldK;rw [grow_empty];exact (putRowK_self enc k w blk 0 _ hH).symm
 have HH:Hid (HoldsK enc k w blk 0 (Array.range n)):=hH
 have HK:Hid (∀ x,(enc x).length=k):=hk
 have H1:Hid (∀ x,∀ v∈enc x,v.oneCell'=true):=h1
 have HBK:Hid (w.heap[blk]? = some (.cells vs et (0,0))):=hbk
 have HVE:Aside _:=vE
 have HZ1:Aside _:=hz1
 have HZK:=Lib.hid hzk
 have HCS:=Lib.hid hcs
 clear heq hH hk h1 hbk vE hz1 hzk hcs
 have hnz:(n:Int)≤100000:=by omega
 by_cases hn2:n<2
 ·have hn1:n=1:=by omega
  subst hn1
  have hci:zq ef 1=[0]:=by unfold zq;simp
  have HCI:=Lib.hid hci
  clear hci
  go_enter hF,Tryz.ntmps155
  go_wp2
  go_ret
  rw [HCI.out]
  exact ⟨rfl,Array.range 1,0,#[],[],hrs,by simp,.inl HST.out⟩
 ·have hn2z:¬ ((n:Int)<2):=by omega
  go_enter hF,Tryz.ntmps155
  go_wp2
  go_loopg [5] n (λ g1 vi wr=>∃ (i m:Nat) (os:Array Obj),vi = .int .i64 i∧1≤i∧i≤n∧n-i≤g1∧wr=sortWorldK enc k w blk 0 m (Array.range n) os∧Hid (∀ j,1≤j→j<i→ef j (j-1)=false))
  case atStart=>exact ⟨1,0,#[],rfl,Nat.le_refl _,by omega,by omega,HST.out,λ j h1 h2=>by omega⟩
  case round =>
   obtain ⟨i,m,os,rfl,hi1,hin,hg1,rfl,HE⟩:=hrel
   by_cases hlt:i<n
   ·have hltz:(i:Int)<(n:Int):=by omega
    obtain ⟨ip,rfl⟩:∃ ip,i=ip+1:=⟨i-1,by omega⟩
    have hwp:IntKind.i64.wrap (ip:Int)=(ip:Int):=by rw [IntKind.wrap_i64];omega
    have jz1:(ip:Int)<(n:Int):=by omega
    have p0:(0:Int)≤(ip:Int)+1:=by omega
    have e0:((ip:Int)+1).toNat=ip+1:=by omega
    have r1:(Array.range n)[ip+1]! = ip+1:=by rw [getElem!_pos _ _ (by rw [hrs];exact hlt)];simp
    have r0:(Array.range n)[ip]! = ip:=by rw [getElem!_pos _ _ (by rw [hrs];omega)];simp
    have hcls:∀ n' os',grow ((sortWorldK enc k w blk 0 m (Array.range n) os).drewN n') os'=sortWorldK enc k w blk 0 (m+n') (Array.range n) (os++os') := λ n' os'=>sortWorldK_grown_c enc k w blk 0 m n' _ os os'
    have hHc:∀ n' os',HoldsK enc k (grow ((sortWorldK enc k w blk 0 m (Array.range n) os).drewN n') os') blk 0 (Array.range n) := λ n' os'=>by rw [hcls];exact holdsK_sortWorldK_c enc k w blk 0 _ _ _ _ HH.out hblk rfl
    have lj:∀ n' os',Sem.run P (loadCellsFrom ⟨blk,(ip+1)*k,none⟩ 0 k #[]) (grow ((sortWorldK enc k w blk 0 m (Array.range n) os).drewN n') os') = .ok (enc (ip+1)).toArray (grow ((sortWorldK enc k w blk 0 m (Array.range n) os).drewN n') os') := λ n' os'=>by
     have:=HoldsK.cells (hHc n' os') HK.out (i:=ip+1) (by rw [hrs];exact hlt)
     rw [r1,Nat.zero_add] at this
     exact run_loadCellsFrom_list P _ _ _ k (HK.out _) this
    have lp:∀ n' os',Sem.run P (loadCellsFrom ⟨blk,ip*k,none⟩ 0 k #[]) (grow ((sortWorldK enc k w blk 0 m (Array.range n) os).drewN n') os') = .ok (enc ip).toArray (grow ((sortWorldK enc k w blk 0 m (Array.range n) os).drewN n') os') := λ n' os'=>by
     have:=HoldsK.cells (hHc n' os') HK.out (i:=ip) (by rw [hrs];omega)
     rw [r0,Nat.zero_add] at this
     exact run_loadCellsFrom_list P _ _ _ k (HK.out _) this
    have hcg:∀ n' os',Calls P q #[.agg (enc (ip+1)).toArray,.agg (enc ip).toArray] (grow ((sortWorldK enc k w blk 0 m (Array.range n) os).drewN n') os') λ e w'=>e = .returned (.bool (ef (ip+1) ip))∧∃ q os'',w'=grow ((grow ((sortWorldK enc k w blk 0 m (Array.range n) os).drewN n') os').drewN q) os'' := λ n' os'=>by
     rw [hcls];exact HC.out _ _ _ hrs (ip+1) ip
    have CLS:Hid _:=hcls
    clear hcls hHc r0 r1
    generalize hwq:sortWorldK enc k w blk 0 m (Array.range n) os=wq at lj lp hcg CLS ⊢
    cases hev:ef (ip+1) ip with
    | false =>
      rw [hev] at hcg
      go_wp2_with fail
      go_quiet_grown (first | (go_at_fn q;refine Calls.grown_of (hcg _ _)))
      go_wp2
      go_roundg (n-(ip+2))
      case measure=>omega
      case rel =>
       refine ⟨ip+2,_,_,by go_num,by omega,by omega,by omega,CLS.out nq osq,(show Hid _ from λ j h1 h2=>?_)⟩
       by_cases hj:j=ip+1
       ·rw [hj];exact hev
       ·exact HE.out j h1 (by omega)
    | true =>
      rw [hev] at hcg
      go_wp2_with fail
      go_quiet_grown (first | (go_at_fn q;refine Calls.grown_of (hcg _ _)))
      have hcap1:¬ (cap=ip+1):=by omega
      have hcap2:(ip:Int)+1≤(cap:Int):=by omega
      go_wp2
      go_loopg [5,7] n (λ g2 v5 v7 wr2=>∃ (b kk m2:Nat) (dk:Array Nat) (os2:Array Obj),v5 = .int .i64 kk∧v7 = .int .i64 b∧1≤b∧ip+1+b≤n∧n-b≤g2∧kk≤ip+b∧dk.size=n∧wr2=sortWorldK enc k w blk 0 m2 dk os2∧Hid (dk.toList.take kk=zq ef (ip+1+b))∧Hid (kk=(zq ef (ip+1+b)).length)∧Hid (∀ j,ip+b≤j→j<n→dk[j]! = j))
      case atStart =>
       have e1:zq ef (ip+1)=List.range (ip+1):=qte λ j h1 h2=>HE.out j h1 h2
       have e2:zq ef (ip+1+1)=List.range (ip+1):=by rw [qpR (by omega) (by simpa using hev),e1]
       refine ⟨1,ip+1,_,Array.range n,_,by go_num,rfl,Nat.le_refl _,by omega,by omega,by omega,hrs,CLS.out nq osq,?_,?_,?_⟩
       ·show _=_
        rw [e2,Array.toList_range,List.take_range,Nat.min_eq_left (by omega)]
       ·show _=_
        rw [e2,List.length_range]
       ·intro j _ h2
        rw [getElem!_pos _ _ (by rw [hrs];exact h2)];simp
      case round =>
       obtain ⟨b,kk,m2,dk,os2,rfl,rfl,hb1,hbn,hg2,hkk,hdk,rfl,HT,HL,HD⟩:=hrel
       by_cases hlt2:ip+1+b<n
       ·obtain ⟨bp,rfl⟩:∃ bp,b=bp+1:=⟨b-1,by omega⟩
        have hltz2:(bp:Int)+1<((n-(ip+1):Nat):Int):=by omega
        have hltz3:(bp:Int)<((n-(ip+1):Nat):Int):=by omega
        have hwp2:IntKind.i64.wrap (bp:Int)=(bp:Int):=by rw [IntKind.wrap_i64];omega
        have p2:(0:Int)≤(bp:Int)+1:=by omega
        have e2:((bp:Int)+1).toNat=bp+1:=by omega
        have hkn:(kk:Int)<(n:Int):=by omega
        obtain ⟨ax,hax⟩:∃ ax,ax=ip+1+(bp+1):=⟨_,rfl⟩
        have hac:(ip+1)*k+(bp+1)*k=ax*k:=by rw [hax,Nat.add_mul (ip+1)]
        have hap:(ip+1)*k+bp*k=(ax-1)*k:=by rw [← Nat.add_mul];congr 1;omega
        have r1:dk[ax]! = ax:=HD.out ax (by omega) (by omega)
        have r0:dk[ax-1]! = ax-1:=HD.out (ax-1) (by omega) (by omega)
        have hcls:∀ n' os',grow ((sortWorldK enc k w blk 0 m2 dk os2).drewN n') os'=sortWorldK enc k w blk 0 (m2+n') dk (os2++os') := λ n' os'=>sortWorldK_grown_c enc k w blk 0 m2 n' dk os2 os'
        have hHc:∀ n' os',HoldsK enc k (grow ((sortWorldK enc k w blk 0 m2 dk os2).drewN n') os') blk 0 dk := λ n' os'=>by rw [hcls];exact holdsK_sortWorldK_c enc k w blk 0 (Array.range n) dk _ _ HH.out hblk (by rw [hdk,hrs])
        have lj:∀ n' os',Sem.run P (loadCellsFrom ⟨blk,(ip+1)*k+(bp+1)*k,none⟩ 0 k #[]) (grow ((sortWorldK enc k w blk 0 m2 dk os2).drewN n') os') = .ok (enc ax).toArray (grow ((sortWorldK enc k w blk 0 m2 dk os2).drewN n') os') := λ n' os'=>by
         have:=HoldsK.cells (hHc n' os') HK.out (i:=ax) (by rw [hdk];omega)
         rw [r1,Nat.zero_add,← hac] at this
         exact run_loadCellsFrom_list P _ _ _ k (HK.out _) this
        have lp:∀ n' os',Sem.run P (loadCellsFrom ⟨blk,(ip+1)*k+bp*k,none⟩ 0 k #[]) (grow ((sortWorldK enc k w blk 0 m2 dk os2).drewN n') os') = .ok (enc (ax-1)).toArray (grow ((sortWorldK enc k w blk 0 m2 dk os2).drewN n') os') := λ n' os'=>by
         have:=HoldsK.cells (hHc n' os') HK.out (i:=ax-1) (by rw [hdk];omega)
         rw [r0,Nat.zero_add,← hap] at this
         exact run_loadCellsFrom_list P _ _ _ k (HK.out _) this
        have hcg:∀ n' os',Calls P q #[.agg (enc ax).toArray,.agg (enc (ax-1)).toArray] (grow ((sortWorldK enc k w blk 0 m2 dk os2).drewN n') os') λ e w'=>e = .returned (.bool (ef ax (ax-1)))∧∃ q os'',w'=grow ((grow ((sortWorldK enc k w blk 0 m2 dk os2).drewN n') os').drewN q) os'' := λ n' os'=>by
         rw [hcls];exact HC.out _ _ _ hdk ax (ax-1)
        have CLS2:Hid _:=hcls
        have HHC:Hid _:=hHc
        have HAC:=Lib.hid hac
        clear hcls hHc hap hac
        generalize hwq2:sortWorldK enc k w blk 0 m2 dk os2=wq2 at lj lp hcg CLS2 HHC ⊢
        have hlA:(enc ax).length=k:=HK.out _
        have hA1:∀ v∈enc ax,v.oneCell'=true:=H1.out _
        obtain ⟨cA,hcA⟩:∃ c,c=enc ax:=⟨_,rfl⟩
        obtain ⟨cP,hcP⟩:∃ c,c=enc (ax-1):=⟨_,rfl⟩
        rw [← hcA] at lj hcg hlA hA1
        rw [← hcP] at lp hcg
        have HCA:=Lib.hid hcA
        clear hcA hcP
        have hT:=HT.out
        have hL:=HL.out
        rw [show ip+1+(bp+1)=ax from hax.symm] at hT hL
        have HAX:=Lib.hid hax
        have hax1:0<ax:=by omega
        have hax3:ax<n:=by omega
        clear hax r0 r1
        cases hev2:ef ax (ax-1) with
        | true =>
          have hcd:zq ef (ax+1)=zq ef ax:=qpR hax1 hev2
          have HT2:Hid (dk.toList.take kk=zq ef (ax+1)):=by show _=_;rw [hcd];exact hT
          have HL2:Hid (kk=(zq ef (ax+1)).length):=by show _=_;rw [hcd];exact hL
          clear hT hL hcd
          rw [hev2] at hcg
          go_wp2_with fail
          go_quiet_grown (first | (go_at_fn q;refine Calls.grown_of (hcg _ _)))
          go_wp2
          go_roundg (n-(bp+2))
          case measure=>omega
          case rel =>
           have hax2:ip+1+(bp+2)=ax+1:=by have:=HAX.out;omega
           refine ⟨bp+2,kk,_,dk,_,rfl,by go_num,by omega,by omega,by omega,by omega,hdk,CLS2.out nq osq,?_,?_,(show Hid _ from λ j h1 h2=>HD.out j (by omega) h2)⟩
           ·show _=_
            rw [hax2];exact HT2.out
           ·show _=_
            rw [hax2];exact HL2.out
        | false =>
          have hcd:zq ef (ax+1)=zq ef ax++[ax]:=qzN hev2
          have hdl:kk<dk.toList.length:=by rw [Array.length_toList,hdk];omega
          have HT2:Hid ((dk.setIfInBounds kk ax).toList.take (kk+1)=zq ef (ax+1)):=by
           show _=_
           rw [hcd,← hT,Array.toList_setIfInBounds,List.take_add_one,List.take_set_of_le (Nat.le_refl _),List.getElem?_set_self hdl];rfl
          have HL2:Hid (kk+1=(zq ef (ax+1)).length):=by show _=_;rw [hcd,List.length_append,← hL];rfl
          clear hT hL hcd
          rw [hev2] at hcg
          go_wp2_with fail
          go_quiet_grown (first | (go_at_fn q;refine Calls.grown_of (hcg _ _)))
          have hw2:grow (wq2.drewN nq) osq=sortWorldK enc k w blk 0 (m2+nq) dk (os2++osq):=CLS2.out nq osq
          have lj2:=lj nq osq
          have hHd:=HHC.out nq osq
          clear lj lp hcg
          generalize grow (wq2.drewN nq) osq=wq3 at hw2 hHd lj2 ⊢
          have hbd:kk*k+cA.length≤(flatK enc k dk).size:=by
           rw [hlA,size_flatK]
           have:=Nat.mul_le_mul_right k (show kk+1≤dk.size by omega)
           rwa [Nat.succ_mul] at this
          have s1:Sem.run P (storeCells ⟨blk,kk*k,none⟩ cA 0) wq3 = .ok () (wq3.setCells blk (kk*k) cA):=by
           have:=stores_of_holds P hHd (kk*k) cA hbd hA1
           rwa [Nat.zero_add] at this
          have HW3:Hid (wq3.setCells blk (kk*k) cA=sortWorldK enc k w blk 0 (m2+nq) (dk.setIfInBounds kk ax) (os2++osq)):=by
           show _=_
           rw [hw2,HCA.out]
           exact qFH HK.out (m2+nq) dk (os2++osq) hblk kk ax (by omega)
          clear hw2 hHd hbd
          go_wp2
          go_roundg (n-(bp+2))
          case measure=>omega
          case rel =>
           have hax2:ip+1+(bp+2)=ax+1:=by have:=HAX.out;omega
           refine ⟨bp+2,kk+1,_,dk.setIfInBounds kk ax,_,by go_num,by go_num,by omega,by omega,by omega,by omega,by simpa using hdk,HW3.out,?_,?_,(show Hid _ from λ j h1 h2=>?_)⟩
           ·show _=_
            rw [hax2];exact HT2.out
           ·show _=_
            rw [hax2];exact HL2.out
           ·rw [getElem!_set_other _ _ _ _ (by omega)]
            exact HD.out j (by omega) h2
       ·obtain rfl:n=ip+1+b:=by omega
        have hW:=(Go.AmYtbpnmbmdbblehaaGreat.sort_blks HBK.out enc k m2 dk os2).hb
        have hpsz:(putCells id 0 (flatK enc k dk) vs).size=vs.size:=by unfold putCells;rw [Array.size_mapIdx]
        have hzl:(Builtin.zeroCells zv.cells (ip+1+b-kk)).toList.length=(ip+1+b-kk)*k:=by rw [Array.length_toList,size_zeroCells,HZK.out]
        have hsum:kk*k+(ip+1+b-kk)*k=(ip+1+b)*k:=by rw [← Nat.add_mul];congr 1;omega
        have hle:(ip+1+b)*k≤vs.size:=Nat.le_trans (Nat.mul_le_mul_right _ hnc) HCS.out
        obtain ⟨new,hnew⟩:∃ new,new=(putCells id 0 (flatK enc k dk) vs).toList.take (kk*k)++(Builtin.zeroCells zv.cells (ip+1+b-kk)).toList++(putCells id 0 (flatK enc k dk) vs).toList.drop (kk*k+(Builtin.zeroCells zv.cells (ip+1+b-kk)).toList.length):=⟨_,rfl⟩
        have hcl:∀ ty,(Builtin.clear_ #[22] ty #[.slice (some ⟨blk,kk*k,none⟩) (ip+1+b-kk) (cap-kk)]).run P (sortWorldK enc k w blk 0 m2 dk os2) = .ok (.tuple #[]) ((sortWorldK enc k w blk 0 m2 dk os2).setRow blk new.toArray) := λ ty=>by
         rw [hnew]
         exact qmA _ 22 24 ty zv t22 HVE.out blk (kk*k) (ip+1+b-kk) (cap-kk) (by omega) _ et hW (by rw [hpsz,HZK.out];omega) (HZ1.out _)
        have HN1:Hid (new.take (kk*k)=(putCells id 0 (flatK enc k dk) vs).toList.take (kk*k)):=by
         show _=_
         rw [hnew,List.append_assoc,List.take_append_of_le_length (by rw [List.length_take,Array.length_toList,hpsz];omega),List.take_take,Nat.min_self]
        have HN2:Hid (new.length=vs.size):=by
         show _=_
         rw [hnew]
         rw [Array.length_toList] at hzl
         simp only [List.length_append,List.length_take,List.length_drop,Array.length_toList,hpsz,hzl]
         omega
        have hkc:¬ (cap=kk):=by omega
        have hkc2:(kk:Int)≤(cap:Int):=by omega
        have hkn:(kk:Int)≤((ip+1+b:Nat):Int):=by omega
        clear hW hpsz hzl hsum hle hnew
        have HW:Hid _:=(⟨dk,m2,os2,rfl⟩:∃ (d:Array Nat) (m:Nat) (os:Array Obj),sortWorldK enc k w blk 0 m2 dk os2=sortWorldK enc k w blk 0 m d os)
        generalize hwq2:sortWorldK enc k w blk 0 m2 dk os2=wq2 at hcl ⊢
        have HWQ:=Lib.hid hwq2
        clear hwq2 HW
        have HDK:=Lib.hid hdk
        go_wp2_with (simp only [hcl])
        go_ret
        have hL:=HL.out
        rw [← hL]
        exact ⟨rfl,dk,m2,os2,new,HDK.out,HT.out,.inr ⟨HN1.out,HN2.out,by rw [HWQ.out]⟩⟩
   ·obtain rfl:i=n:=by omega
    have hci:zq ef i=List.range i:=qte λ j h1 h2=>HE.out j h1 h2
    have HCI:=Lib.hid hci
    clear hci
    go_wp2
    go_ret
    rw [HCI.out,List.length_range]
    exact ⟨rfl,Array.range i,_,_,[],hrs,by simp,.inl rfl⟩
end Go.Proofs.YtbpnmbmdbblehaaGreat
namespace Go.AmYtbpnmbmdbblehaaGreat
open Go Go.RowKit Go.GxYtbpnmbmdbblehaaGreat Go.Sort Go.Proofs Go.Shelf Go.Proofs.YtbpnmbmdbblehaaGreat
def qiO {α : Type} (F : α → α → Option Bool) (l:List α) (i j:Nat):Bool:=match l[i % l.length]?,l[j % l.length]? with
 | some x,some y=>(F x y).getD false
 | _,_=>false
def qxf {α : Type} (F : α → α → Option Bool):List α → Option (List α)
 | []=>some []
 | x::l=>cond (Nat.ble (x::l).length 100000&&qbE F (x::l)) (some (pick (x::l) (zq (qiO F (x::l)) (x::l).length))) none
def qsC {α : Type} (F : α → α → Option Bool) (l:List α):Option (Unit × List α × Unit):=match qxf F l with
 | some l'=>some ((),l',())
 | none=>none
theorem qCO {α : Type} {F : α → α → Option Bool} {l:List α} {r:Unit × List α × Unit} (h:qsC F l=some r):∃ l',qxf F l=some l'∧r=((),l',()):=by
 unfold qsC at h
 split at h
 ·cases h;exact ⟨_,‹_›,rfl⟩
 ·cases h
theorem qDA {P:Program} {f:FuncId} {g:qom} (hf:qe9 P f) (h:∀ a,g.fn a=none):qW P f (mgP g):=by
 refine ⟨hf,λ Γ σ w args vals r hi hr hp=>?_⟩
 unfold mgP at hp
 split at hp
 ·rw [h] at hp;cases hp
 ·cases hp
theorem qvF {ef:Nat→Nat→Bool} {n:Nat}:∀ i∈zq ef n,i<n := λ i hi=>List.mem_range.1 (List.mem_filter.1 hi).1
theorem qoQ {enc:Nat→List Value} {k:Nat} (hk:∀ x,(enc x).length=k):∀ (l:List Nat) (i j:Nat),j<k→(l.flatMap enc)[i*k+j]? = (l[i]?).bind λ x=>(enc x)[j]?
 | [],i,j,_=>by simp
 | x::l,0,j,hj=>by
   rw [List.flatMap_cons,Nat.zero_mul,Nat.zero_add,List.getElem?_append_left (by rw [hk];exact hj)]
   rfl
 | x::l,i+1,j,hj=>by
   rw [List.flatMap_cons,List.getElem?_append_right (by rw [hk,Nat.succ_mul];omega),hk]
   have:(i+1)*k+j-k=i*k+j:=by rw [Nat.succ_mul];omega
   rw [this]
   exact qoQ hk l i j hj
theorem qvN {enc:Nat→List Value} {k:Nat} (hk:∀ x,(enc x).length=k):∀ l:List Nat,(l.flatMap enc).length=l.length*k
 | []=>by simp
 | x::l=>by rw [List.flatMap_cons,List.length_append,hk,qvN hk l,List.length_cons,Nat.succ_mul,Nat.add_comm]
theorem qrC {β : Type} {f:List AV→Option β} {es:List (List AV)} {l:List β} (h:qU f es=some l):∀ {ix:List Nat},(∀ i∈ix,i<l.length)→qU f (pick es ix)=some (pick l ix)
 | [],_=>rfl
 | i::ix,hi=>by
   have h1:=hi i (List.mem_cons_self ..)
   have hl:=qT h
   have e1:pick es (i::ix)=es[i]'(by omega)::pick es ix:=by
    unfold pick;rw [List.filterMap_cons,List.getElem?_eq_getElem (by omega)]
   have e2:pick l (i::ix)=l[i]::pick l ix:=by
    unfold pick;rw [List.filterMap_cons,List.getElem?_eq_getElem h1]
   obtain ⟨v,hv,hd⟩:=Jh h (List.getElem?_eq_getElem (show i<es.length by omega))
   rw [List.getElem?_eq_getElem h1] at hv
   cases hv
   rw [e1,e2]
   exact yC.2 ⟨_,_,hd,qrC h λ j hj=>hi j (List.mem_cons_of_mem _ hj),rfl⟩
theorem qGS (n:Nat):∀ v∈(Builtin.zeroCells (Value.cells (.agg #[.int .i64 0,.string ⟨#[]⟩,.int .i64 0,.slice none 0 0])) n).toList,v.oneCell'=true:=by
 intro v hv
 unfold Builtin.zeroCells at hv
 rw [Array.mem_toList_iff] at hv
 obtain ⟨i,_,rfl⟩:=Array.mem_map.1 hv
 have hs:(Value.cells (.agg #[.int .i64 0,.string ⟨#[]⟩,.int .i64 0,.slice none 0 0])).size=4:=rfl
 rw [hs]
 have h4:i % 4<4:=Nat.mod_lt _ (by decide)
 generalize i % 4=r at h4
 match r,h4 with
 | 0,_=>rfl
 | 1,_=>rfl
 | 2,_=>rfl
 | 3,_=>rfl
set_option maxHeartbeats 1000000 in
theorem qyk {g:FuncId} {F:T→T→Option Bool} (hF:Fn2 Go.Proofs.Tryz.prog g .term (λ b:Bool => .bool b) F) {fn:List T→Option (Unit × List T × Unit)} (hfn:∀ l r,fn l=some r→∃ l',qxf F l=some l'∧r=((),l',())) :
  qW Go.Proofs.Tryz.prog 155 (sgP ⟨[.row .term,.clo g 0],[.one (.row .term)],λ x=>fn x.1⟩):=by
 have c0 := λ p cap fv w=>qDC (P:=Go.Proofs.Tryz.prog) Go.Proofs.Tryz.func155 (by kernel_rfl) Go.Proofs.Tryz.underlying0 Go.Proofs.Tryz.isAgg0 Go.Proofs.Tryz.sizeOf0 Go.Proofs.Tryz.zeroValue0 Go.Proofs.Tryz.underlying3 Go.Proofs.Tryz.isAgg3 Go.Proofs.Tryz.sizeOf3 Go.Proofs.Tryz.zeroValue3 Go.Proofs.Tryz.underlying4 Go.Proofs.Tryz.isAgg4 Go.Proofs.Tryz.sizeOf4 Go.Proofs.Tryz.zeroValue4 Go.Proofs.Tryz.underlying22 Go.Proofs.Tryz.isAgg22 Go.Proofs.Tryz.sizeOf22 Go.Proofs.Tryz.zeroValue22 Go.Proofs.Tryz.underlying36 Go.Proofs.Tryz.isAgg36 Go.Proofs.Tryz.sizeOf36 Go.Proofs.Tryz.zeroValue36 p cap fv w
 have cP := λ w blk n cap et vs h1 h2 h3 h4 h5 enc h6 h7 h8 ef h9=>qEw (P:=Go.Proofs.Tryz.prog) Go.Proofs.Tryz.func155 (by kernel_rfl) Go.Proofs.Tryz.underlying0 Go.Proofs.Tryz.isAgg0 Go.Proofs.Tryz.sizeOf0 Go.Proofs.Tryz.zeroValue0 Go.Proofs.Tryz.underlying3 Go.Proofs.Tryz.isAgg3 Go.Proofs.Tryz.sizeOf3 Go.Proofs.Tryz.zeroValue3 Go.Proofs.Tryz.underlying4 Go.Proofs.Tryz.isAgg4 Go.Proofs.Tryz.sizeOf4 Go.Proofs.Tryz.zeroValue4 Go.Proofs.Tryz.underlying22 Go.Proofs.Tryz.isAgg22 Go.Proofs.Tryz.sizeOf22 Go.Proofs.Tryz.zeroValue22 Go.Proofs.Tryz.underlying36 Go.Proofs.Tryz.isAgg36 Go.Proofs.Tryz.sizeOf36 Go.Proofs.Tryz.zeroValue36
  4 (by decide) Go.Proofs.Tryz.isAgg24 Go.Proofs.Tryz.sizeOf24 _ Go.Proofs.Tryz.zeroValue24 rfl qGS w blk n cap et vs g h1 h2 h3 h4 h5 enc h6 h7 h8 (λ args w=>qd3 hF.1 args w) ef h9
 have hag:∀ v:T,yH .term v = .agg (qm .term v) := λ _=>rfl
 refine ⟨QN Go.Proofs.Tryz.func155 (by kernel_rfl),λ Γ σ w args vals r hi hr hp=>?_⟩
 unfold sgP at hp
 split at hp<;>try cases hp
 rename_i x hx
 split at hp<;>cases hp
 rename_i v0 hv0
 obtain ⟨l,_⟩:=x
 obtain ⟨l',hl',rfl⟩:=hfn _ _ hv0
 obtain ⟨y0,ys0,nr,rfl,hy0,hx1⟩:=qob hx
 obtain ⟨ys1,rfl,hx2⟩:=qAZ (g:=g) (r:=[]) hx1
 obtain ⟨rfl,hbx,hrw⟩:=qi4 hx2
 clear hx hx1 hx2 hv0 hfn
 obtain ⟨u0,r0,rfl,hu0,hr⟩:=hr.uncons
 obtain ⟨u1,r1,rfl,hu1,hr⟩:=hr.uncons
 have:=hr.nil_inv
 subst this
 have hu1:u1 = .func (.func g) #[] #[]:=by
  cases hu1 with
  | fn _ _ us hn _=>obtain rfl:=List.eq_nil_of_length_eq_zero hn;rfl
 subst hu1
 have hb0 : σ.bx=[]:=List.eq_nil_of_length_eq_zero hbx.symm
 have nil0:∀ (p:Option Addr),l'=[]→jD Go.Proofs.Tryz.prog Γ σ w 155 [.slice p 0 0,.func (.func g) #[] #[]] (zy (Q7 [.one (.row .term)] σ.rw.length (l',())),some ⟨[],σ.rw.map j7++QC [.one (.row .term)] (l',()),List.range σ.bx.length,List.range σ.rw.length⟩) := λ p hl=>by
  subst hl
  refine (c0 p 0 _ w).mono ?_
  rintro e w' ⟨rfl,rfl⟩
  obtain ⟨Γ2,z1,z2,z3,z4⟩:=qHH (a := .term) hi (.refl _ _) hi hb0 p
  exact ⟨_,Γ2,rfl,z1,z2,z3,z4⟩
 rcases qds hy0 with ⟨hnr,R,rfl,hR,hRk,hRf,hRd⟩ | ⟨hnr,hl0,hy⟩
 ·have H:=hi.row 0 R hR
  have hcl:R.c.length=l.length:=qT hRd
  have hlk:∀ e∈R.c,e.length=Ty.size .term := λ e he=>(H.len e he).trans hRk
  obtain ⟨p,cap,rfl,hcap,hrm⟩:=qpc hi hR hRk hRf hu0
  rcases hrm with h0 | ⟨rfl,hz,vs,et,hvs,hvsz,hfit,hca,hxl,h1⟩
  ·have hl0:l=[]:=List.eq_nil_of_length_eq_zero (by omega)
   have hl2:l'=[]:=by rw [hl0] at hl';cases hl';rfl
   have hrc:R.c.length=0:=by omega
   rw [hrc,h0]
   exact nil0 p hl2
  ·by_cases hl0:l=[]
   ·have hl2:l'=[]:=by rw [hl0] at hl';cases hl';rfl
    have hrc:R.c.length=0:=by rw [hcl,hl0];rfl
    rw [hrc]
    subst hl2
    refine qiA (a := .term) hi hb0 hR hRk hRf hz (l:=[]) (c:=[]) (xs:=[]) (n:=0) rfl rfl (by intro e he;cases he) (by intro e he;cases he) (λ i e j x h=>by cases h) ?_
    refine (c0 _ cap _ w).mono ?_
    rintro e w' ⟨rfl,rfl⟩
    exact ⟨Γ.cur 0,cap,vs,et,rfl,hvs,Nat.zero_le _,hfit,by rw [Nat.zero_mul];rfl,.inl ⟨rfl,hvsz⟩,rfl,rfl,rfl,Nat.le_refl _,Nat.le_refl _,λ _ _ _=>rfl⟩
   ·have hlpos:0<l.length:=List.length_pos_iff.2 hl0
    obtain ⟨n,hn⟩:∃ n,n=l.length:=⟨_,rfl⟩
    have hnc:R.c.length=n:=hcl.trans hn.symm
    rw [hnc] at hca hxl h1 hcap ⊢
    have hns:n*Ty.size .term≤vs.size:=Nat.le_trans (Nat.mul_le_mul_right _ hcap) hfit
    have hv':Nat.ble l.length 100000=true∧qbE F l=true∧l'=pick l (zq (qiO F l) l.length):=by
     cases l with
     | nil=>exact absurd rfl hl0
     | cons y l =>
       replace hl':cond _ _ _=some l':=hl'
       cases hb:(Nat.ble (y::l).length 100000&&qbE F (y::l)) with
       | false =>
         replace hl':cond (Nat.ble (y::l).length 100000&&qbE F (y::l)) _ _=some l':=hl'
         rw [hb] at hl';cases hl'
       | true =>
         replace hl':cond (Nat.ble (y::l).length 100000&&qbE F (y::l)) _ _=some l':=hl'
         have hb':=hb
         rw [Bool.and_eq_true] at hb'
         rw [hb] at hl'
         cases hl'
         exact ⟨hb'.1,hb'.2,rfl⟩
    obtain ⟨v1,v2,v4⟩:=hv'
    have v1:l.length≤100000:=Nat.le_of_ble_eq_true v1
    have hER:∀ {q:Nat} {y:T},l[q]? = some y→RepL Γ (qm .term y) (j9 vs (Ty.size .term) q)∧∀ u∈j9 vs (Ty.size .term) q,u.oneCell'=true := λ hq=>qp4 hnc hlk hRd hca hns hq
    have hlast:∀ i,i % n<n := λ i=>Nat.mod_lt _ (by omega)
    obtain ⟨enc,henc⟩:∃ enc:Nat→List Value,enc = λ i=>j9 vs (Ty.size .term) (i % n):=⟨_,rfl⟩
    have hek:∀ i,(enc i).length=Ty.size .term := λ i=>by rw [henc];exact qlA (hlast i) hns
    have hlget:∀ i,∃ y,l[i % n]? = some y := λ i=>⟨_,List.getElem?_eq_getElem (by rw [← hn];exact hlast i)⟩
    have he1:∀ i,∀ u∈enc i,u.oneCell'=true := λ i u hu=>by
     rw [henc] at hu
     obtain ⟨y,hy⟩:=hlget i
     exact (hER hy).2 u hu
    have hrange:(Array.range n).size=n:=Array.size_range
    have hvsb:w.heap[Γ.cur 0]? = some (.cells vs et (0,0)):=hvs
    have hmem0:∀ off,Γ.mem (Γ.cur 0) off=none := λ off=>H.un hz off (by rw [hRf,Nat.zero_mul];exact Nat.zero_le _)
    have hH:HoldsK enc (Ty.size .term) w (Γ.cur 0) 0 (Array.range n):=by
     intro j hj
     rw [size_flatK,hrange] at hj
     obtain ⟨q1,q2,q3⟩:=qin j (Ty.size .term) n hj
     have hjs:j<vs.size:=Nat.lt_of_lt_of_le hj hns
     constructor
     ·rw [get_flatK _ _ _ _ (by rw [hrange];exact hj)]
      have e1:(Array.range n)[j / (Ty.size .term)]! = j / (Ty.size .term):=by rw [getElem!_pos _ _ (by rw [hrange];exact q1)];simp
      rw [e1,henc]
      show _=some ((j9 vs (Ty.size .term) (j / (Ty.size .term) % n))[j % (Ty.size .term)]!)
      rw [Nat.mod_eq_of_lt q1]
      have e2:(j9 vs (Ty.size .term) (j / (Ty.size .term)))[j % (Ty.size .term)]? = some vs[j]:=by rw [qjw q3,q2];exact Array.getElem?_eq_getElem hjs
      rw [Nat.zero_add,Blk.cell hvs,List.getElem!_eq_getElem?_getD,e2,Array.getElem?_eq_getElem hjs]
      rfl
     ·exact Blk.free hvs _
    have heq:∀ (m:Nat) (os:Array Obj) (dk:Array Nat),dk.size=n→∀ x y,Calls Go.Proofs.Tryz.prog g #[.agg (enc x).toArray,.agg (enc y).toArray] (sortWorldK enc (Ty.size .term) w (Γ.cur 0) 0 m dk os) λ e w'=>e = .returned (.bool (qiO F l x y))∧∃ q' os',w'=grow ((sortWorldK enc (Ty.size .term) w (Γ.cur 0) 0 m dk os).drewN q') os':=by
     intro m os dk hdk x y
     have B:=sort_blks hvsb enc (Ty.size .term) m dk os
     obtain ⟨W,hW⟩:∃ W,W=sortWorldK enc (Ty.size .term) w (Γ.cur 0) 0 m dk os:=⟨_,rfl⟩
     rw [← hW] at B ⊢
     have hiW:Inv (bare Γ) emp W:=hi.bare λ b o u e=>by
      have hne:b ≠ Γ.cur 0 := λ hb=>by rw [hb,hmem0] at e;cases e
      have hc:=(hi.mem b o u e).1
      have hblt:=hi.mem_lt e
      rw [show W.cell? _=w.cell? _ from World.cell?_of_block (B.other b hblt hne)]
      exact hc
     have rep:∀ (i:Nat) (y:T),l[i % n]? = some y→Rep (bare Γ) (yH .term y) (.agg (enc i).toArray) := λ i y hy=>by
      obtain ⟨q1,q2⟩:=hER hy
      rw [hag]
      have:enc i=j9 vs (Ty.size .term) (i % n):=by rw [henc]
      rw [this]
      refine .agg _ _ q1.len q2 λ j z u a b=>(q1.rep j z u a b).bare (zU .term y z (List.mem_of_getElem? a))
     obtain ⟨lx,hx⟩:=hlget x
     obtain ⟨ly,hy⟩:=hlget y
     have hsome:=List.all_eq_true.1 (List.all_eq_true.1 v2 lx (List.mem_of_getElem? hx)) ly (List.mem_of_getElem? hy)
     obtain ⟨c,hc⟩:=Option.isSome_iff_exists.1 hsome
     have hcf:qiO F l x y=c:=by
      unfold qiO
      rw [← hn,hx,hy]
      simp only
      rw [hc];rfl
     rw [hcf]
     have hcall:=hF.2 hiW (rep x lx hx) (rep y ly hy) hc
     refine Calls.mono hcall ?_
     rintro e w' ⟨rfl,hid⟩
     exact ⟨rfl,hid.grow⟩
    have hcall:=cP w (Γ.cur 0) n cap et vs hvsb hfit hcap (by omega) (by omega) enc hek he1 hH (qiO F l) heq
    obtain ⟨ix,hix⟩:∃ ix,ix=zq (qiO F l) n:=⟨_,rfl⟩
    rw [← hix] at hcall
    have hixlt:∀ i∈ix,i<n := λ i hi=>by rw [hix] at hi;exact qvF i hi
    have hixl:∀ i∈ix,i<l.length := λ i hi=>by rw [← hn];exact hixlt i hi
    have hixc:∀ i∈ix,i<R.c.length := λ i hi=>by rw [hnc];exact hixlt i hi
    have hl'e:l'=pick l ix:=by rw [v4,← hn,hix]
    have hl'n:l'.length=ix.length:=by rw [hl'e,qmt hixl]
    have pm:∀ e∈pick R.c ix,e∈R.c := λ e he=>by
     unfold pick at he
     obtain ⟨i,_,h⟩:=List.mem_filterMap.1 he
     exact List.mem_of_getElem? h
    refine qiA (a := .term) hi hb0 hR hRk hRf hz (l:=l') (c:=pick R.c ix) (xs:=ix.flatMap enc) (n:=ix.length) hl'n.symm (by rw [hl'e];exact qrC hRd hixl) (λ e he=>hlk e (pm e he)) (λ e he=>H.plain e (pm e he)) (λ i e j x h1 h2=>?_) ?_
    ·rw [qqj hixc] at h1
     cases hp:ix[i]? with
     | none=>rw [hp] at h1;cases h1
     | some p =>
       rw [hp] at h1
       have h1:R.c[p]? = some e:=h1
       have hj:j<Ty.size .term:=by have:=getElem?_lt h2;rwa [hlk e (List.mem_of_getElem? h1)] at this
       obtain ⟨u,u1,u2⟩:=hca p e j x h1 h2
       refine ⟨u,?_,u2⟩
       have hpn:p<n:=hixlt p (List.mem_of_getElem? hp)
       rw [qoQ hek _ _ _ hj,hp]
       show (enc p)[j]? = some u
       rw [henc]
       show (j9 vs (Ty.size .term) (p % n))[j]? = some u
       rw [Nat.mod_eq_of_lt hpn,qjw hj,← Array.getElem?_toList]
       rw [List.getElem?_take] at u1
       split at u1
       ·exact u1
       ·cases u1
    ·refine Calls.mono hcall ?_
     rintro e w' ⟨rfl,dk,m,os,new,hdk,htk,hw⟩
     have B:=sort_blks hvsb enc (Ty.size .term) m dk os
     have hpsz:(putCells id 0 (flatK enc (Ty.size .term) dk) vs).size=vs.size:=by unfold putCells;rw [Array.size_mapIdx]
     have hixn:ix.length≤n:=by
      have:=congrArg List.length htk
      rw [List.length_take] at this
      have h2:dk.toList.length=n:=by rw [Array.length_toList,hdk]
      omega
     have hlen:ix.length*Ty.size .term≤n*Ty.size .term:=Nat.mul_le_mul_right _ hixn
     have hxs:(putCells id 0 (flatK enc (Ty.size .term) dk) vs).toList.take (ix.length*Ty.size .term)=ix.flatMap enc:=by
      apply List.ext_getElem?
      intro t
      by_cases ht:t<ix.length*Ty.size .term
      ·obtain ⟨q1,q2,q3⟩:=qin t (Ty.size .term) ix.length ht
       rw [List.getElem?_take,if_pos ht,Array.getElem?_toList]
       unfold putCells
       rw [Array.getElem?_mapIdx,Array.getElem?_eq_getElem (by omega),Option.map_some,if_pos ⟨Nat.zero_le _,by rw [size_flatK,hdk];omega⟩,Nat.sub_zero,id,get_flatK _ _ _ _ (by rw [hdk];omega)]
       conv=>rhs;rw [← q2]
       rw [qoQ hek _ _ _ q3]
       have hd:dk[t / Ty.size .term]? = ix[t / Ty.size .term]? := by
        rw [← htk,List.getElem?_take,if_pos q1,Array.getElem?_toList]
       have hdl:t / Ty.size .term<dk.size:=by rw [hdk];omega
       rw [← hd,Array.getElem?_eq_getElem hdl,getElem!_pos dk _ hdl]
       show _=(enc dk[t / Ty.size .term])[t % Ty.size .term]?
       rw [List.getElem!_eq_getElem?_getD,List.getElem?_eq_getElem (by rw [hek];exact q3)]
       rfl
      ·rw [List.getElem?_eq_none (by rw [List.length_take];omega),List.getElem?_eq_none (by rw [qvN hek];omega)]
     rcases hw with rfl | ⟨n1,n2,rfl⟩
     ·exact ⟨Γ.cur 0,cap,_,et,rfl,B.hb,by omega,by rw [hpsz];exact hfit,hxs,.inl ⟨rfl,hpsz.trans hvsz⟩,B.os,B.tape,B.output,B.size,B.drawn,B.other⟩
     ·have hs:=setRow_heap _ (Γ.cur 0) _ new.toArray et (0,0) B.hb
      refine ⟨Γ.cur 0,cap,new.toArray,et,rfl,hs,by omega,by rw [List.size_toArray,n2];exact hfit,?_,.inl ⟨rfl,by rw [List.size_toArray,n2];exact hvsz⟩,B.os,B.tape,B.output,?_,B.drawn,λ b hb hne=>(setRow_other _ (Γ.cur 0) b _ hne).trans (B.other b hb hne)⟩
      ·rw [← hxs];exact n1
      ·show w.heap.size≤_
       simp only [World.setRow,Array.size_modify]
       exact B.size
 ·have hl2:l'=[]:=by
    have hl0:l=[]:=hl0
    rw [hl0] at hl';cases hl';rfl
  rcases hy with rfl | ⟨f,rfl,hf2⟩
  ·have hu0:=zr hu0
   subst hu0
   exact nil0 none hl2
  ·cases hu0 with
   | sl _ _ _ a n cap b o us hn _ hf _ _ _ _ _ _ =>
     have hn:n=0:=hn
     have hcap:cap=n:=hf (by omega)
     rw [hcap,hn]
     exact nil0 a hl2
end Go.AmYtbpnmbmdbblehaaGreat
namespace Go.Proofs.YtbpnmbmdbblehaaGreat
open Go.RowKit Go.GxYtbpnmbmdbblehaaGreat Go.BigFrame
theorem qG4:(Tryz.prog.info? 77).map (λ i=>(i.zero,i.size,i.bytes))=some (some (.agg #[.int .i64 0,.int .i64 0,.string ⟨#[]⟩,.int .i64 0,.slice none 0 0]),5,64):=by kernel_rfl
theorem qG5 (w:World):(zeroValue 77).run Tryz.prog w = .ok (.agg #[.int .i64 0,.int .i64 0,.string ⟨#[]⟩,.int .i64 0,.slice none 0 0]) w:=by kernel_rfl
theorem qyX:(Builtin.zeroCells (Value.cells (.agg #[.int .i64 0,.int .i64 0,.string ⟨#[]⟩,.int .i64 0,.slice none 0 0])) 1).toList=(Value.cells (.agg #[.int .i64 0,.int .i64 0,.string ⟨#[]⟩,.int .i64 0,.slice none 0 0])).toList:=by kernel_rfl
theorem qzU:∀ v∈(Builtin.zeroCells (Value.cells (.agg #[.int .i64 0,.int .i64 0,.string ⟨#[]⟩,.int .i64 0,.slice none 0 0])) 1).toList,v.oneCell'=true:=by
 rw [qyX]
 decide
set_option maxHeartbeats 4000000 in
set_option maxRecDepth 100000 in
theorem delete_oneSlt (w:World) (g m c i:Nat) (et:TypeId) (cur:Array Value) (xs:List Value) (hbk:Blk w g et cur) (hcs:c*5≤cur.size) (hx:cur.toList.take ((m+1)*5)=xs) (hone:∀ u∈xs,u.oneCell'=true)
  (hn:m≤100000) (hi:i≤m) (hroom:m+1≤c) :
  Calls Tryz.prog 55 #[.slice (some ⟨g,0,none⟩) (m+1) c,.int .i64 i,.int .i64 ((i:Int)+1)] w (qiw 5 w g cur.size m (xs.take (i*5)++xs.drop ((i+1)*5))):=by
 have hlc:cur.toList.length=cur.size:=by simp
 have hmc:(m+1)*5≤c*5:=Nat.mul_le_mul_right _ hroom
 have him:i*5≤m*5:=Nat.mul_le_mul_right _ hi
 have hxl:xs.length=(m+1)*5:=by rw [← hx,List.length_take,hlc];omega
 have hadd:∀ (b o j:Nat),(⟨b,o,none⟩:Addr).add j=⟨b,o+j,none⟩ := λ b o j=>by unfold Addr.add;split<;>simp_all
 have hcell:∀ (o j:Nat) (v:Value),(xs.drop o)[j]? = some v→w.drew.cell? ⟨g,o+j,none⟩=some v := λ o j v hj=>by
  show w.cell? _=_
  rw [hbk.cell,← Array.getElem?_toList]
  rw [List.getElem?_drop,← hx,List.getElem?_take] at hj
  split at hj
  ·exact hj
  ·cases hj
 obtain ⟨i0,hi0,hz0,hz1,hz2⟩:=info_parts qG4
 have hdl:(xs.drop ((i+1)*5)).length=(m-i)*5:=by rw [List.length_drop,hxl,← Nat.sub_mul];congr 1;omega
 have hdl':(m-i)*5=m*5-i*5:=Nat.sub_mul ..
 obtain ⟨A,hA,HN⟩:∃ A:Addr,(if c=i+1 then some (⟨g,0,none⟩:Addr) else some ⟨g,(i+1)*5,none⟩)=some A∧Hid (∀ j u,(xs.drop ((i+1)*5))[j]? = some u→w.drew.cell? (A.add j)=some u):=by
  by_cases h:c=i+1
  ·refine ⟨_,if_pos h,λ j u hj=>?_⟩
   have:=(List.getElem?_eq_some_iff.1 hj).1
   rw [hdl] at this
   have:m-i=0:=by omega
   simp [this] at *
  ·exact ⟨_,if_neg h,λ j u hj=>by rw [hadd];exact hcell _ j u hj⟩
 have HDL:=Lib.hid hdl
 have HO1:Hid (∀ u∈xs.drop ((i+1)*5),u.oneCell'=true) := λ v hv=>hone v (List.mem_of_mem_drop hv)
 have HSP:Hid (∀ j,j<(xs.drop ((i+1)*5)).length→(w.drew.cell? ⟨g,0+i*5+j,none⟩).isSome=true∧w.drew.frozen? ⟨g,0+i*5+j,none⟩=false) := λ j hj=>by
  rw [hdl] at hj
  refine ⟨?_,hbk.free _⟩
  show (w.cell? _).isSome=true
  rw [hbk.cell,Array.getElem?_eq_getElem (by omega)];rfl
 have hBKd:Blk w.drew g et cur:=hbk
 have hw0:=qgE g et (xs.drop ((i+1)*5)) (0+i*5) w.drew cur hBKd (by rw [hdl];omega)
 obtain ⟨w2,hw2⟩:∃ w2,w2=w.drew.setCells g (0+i*5) (xs.drop ((i+1)*5)):=⟨_,rfl⟩
 rw [← hw2] at hw0
 obtain ⟨c1,hc1⟩:∃ c1,c1=cur.toList.take (0+i*5)++xs.drop ((i+1)*5)++cur.toList.drop (0+i*5+(xs.drop ((i+1)*5)).length):=⟨_,rfl⟩
 rw [← hc1] at hw0
 have hl1:c1.length=cur.size:=by rw [hc1];simp only [List.length_append,List.length_take,List.length_drop,hlc,hdl];simp only [List.length_drop] at hdl;omega
 have ht1:c1.take (m*5)=xs.take (i*5)++xs.drop ((i+1)*5):=by
  have e1:cur.toList.take (0+i*5)=xs.take (i*5):=by rw [← hx,List.take_take];congr 1;omega
  rw [hc1,e1,List.take_append_of_le_length (by simp only [List.length_append,List.length_take,hdl,hxl];omega),List.take_of_length_le (by simp only [List.length_append,List.length_take,hdl,hxl];omega)]
 have hzl:(Builtin.zeroCells (Value.cells (.agg #[.int .i64 0,.int .i64 0,.string ⟨#[]⟩,.int .i64 0,.slice none 0 0])) 1).toList.length=5:=by rw [Array.length_toList,size_zeroCells];rfl
 obtain ⟨w3,hcl,hw3⟩:∃ w3,(∀ ty,(Builtin.clear_ #[27] ty #[.slice (some ⟨g,m*5,none⟩) 1 (c-m)]).run Tryz.prog w2 = .ok (.tuple #[]) w3)∧qib w2 w3 g et (c1.toArray.toList.take (m*5)++(Builtin.zeroCells (Value.cells (.agg #[.int .i64 0,.int .i64 0,.string ⟨#[]⟩,.int .i64 0,.slice none 0 0])) 1).toList++c1.toArray.toList.drop (m*5+(Builtin.zeroCells (Value.cells (.agg #[.int .i64 0,.int .i64 0,.string ⟨#[]⟩,.int .i64 0,.slice none 0 0])) 1).toList.length)) :=
  ⟨_,λ ty=>qmA w2 27 77 ty _ Tryz.underlying27 qG5 g (m*5) 1 (c-m) (by omega) c1.toArray et hw0.blk (by
   show m*5+1*5≤c1.toArray.size
   rw [List.size_toArray,hl1];omega) qzU,qc6 hw0.blk _⟩
 have HW0:=Lib.hid hw0
 have HW2:=Lib.hid hw2
 have HW3:=Lib.hid hw3
 have HCL:=Lib.hid hcl
 have HT1:=Lib.hid ht1
 have HL1:=Lib.hid hl1
 have HZL:=Lib.hid hzl
 have HI:=Lib.hid hi0
 have HZ1:=Lib.hid hz1
 have HCS:=Lib.hid hcs
 have HMC:=Lib.hid hmc
 have hlt:=lt_of_block hbk
 have hc1:¬ (m+1=i):=by omega
 have hc2:¬ (c=m):=by omega
 have hf1:((i:Int)==(i:Int)+1)=false:=by simp;omega
 have hrm:i+(m-i)≤c:=by omega
 have hmi:i+(m-i)=m:=by omega
 have HRM:=Lib.hid hrm
 have HMI:=Lib.hid hmi
 clear hlc hxl hadd hcell hi0 hz0 hz1 hz2 hdl hBKd hw0 hw2 hl1 ht1 hzl hcl hw3 hcs hx hone hbk hrm hmi hmc him hdl'
 have hw1:((i:Int)+1).toNat=i+1:=by omega
 have hw4:(i:Int)+1≤(m:Int)+1:=by omega
 have hw5:(i:Int)≤(m:Int)+1:=by omega
 have hw6:(0:Int)≤(i:Int)+1:=by omega
 have hic:i≤c:=by omega
 go_enter Tryz.func55,Tryz.ntmps55
 go_upto_region 5 with (fail)
 go_region_law (refine step_append_room rfl (.tmp 22) (.tmp 25) 27 rfl 77 i0 5 Tryz.underlying27 HI.out HZ1.out g 0 i c (by simp [Act.eval,Act.put]) A (m-i) (c-(i+1)) (xs.drop ((i+1)*5)) (by simp [Act.eval,Act.put]) HDL.out HN.out HO1.out HRM.out HSP.out ?_;rw [← HW2.out,HMI.out])
 all_goals
  clear hw1 hw4 hw5 hw6 hA
  have hcl:=HCL.out
  go_wp2_with (simp only [hcl])
  go_ret
  have h3:=HW3.out
  have h0:=HW0.out
  have hblk:=h3.blk
  have hl1:=HL1.out
  have hzl:=HZL.out
  have hmc:=HMC.out
  have hcs:=HCS.out
  have hsz:(c1.toArray.toList.take (m*5)++(Builtin.zeroCells (Value.cells (.agg #[.int .i64 0,.int .i64 0,.string ⟨#[]⟩,.int .i64 0,.slice none 0 0])) 1).toList++c1.toArray.toList.drop (m*5+(Builtin.zeroCells (Value.cells (.agg #[.int .i64 0,.int .i64 0,.string ⟨#[]⟩,.int .i64 0,.slice none 0 0])) 1).toList.length)).length=cur.size:=by
   show (c1.take (m*5)++_++c1.drop (m*5+_)).length=_
   simp only [List.length_append,List.length_take,List.length_drop,hl1,hzl];omega
  refine ⟨g,c,_,et,rfl,hblk,by omega,?_,?_,.inl ⟨rfl,?_⟩,h3.os.trans h0.os,h3.tape.trans h0.tape,h3.output.trans h0.output,?_,?_,λ k _ hk=>(h3.other k hk).trans (h0.other k hk)⟩
  ·rw [List.size_toArray,hsz];exact hcs
  ·show (c1.take (m*5)++_++c1.drop (m*5+_)).take (m*5)=_
   rw [List.append_assoc,List.take_append_of_le_length (by rw [List.length_take,hl1];omega),List.take_take,Nat.min_self]
   exact HT1.out
  ·rw [List.size_toArray,hsz]
  ·rw [h3.size,h0.size];exact Nat.le_refl _
  ·rw [h3.drawn,h0.drawn];exact Nat.le_succ _
end Go.Proofs.YtbpnmbmdbblehaaGreat
namespace Go.Proofs.YtbpnmbmdbblehaaGreat
open Go Go.RowKit Go.GxYtbpnmbmdbblehaaGreat Go.Sort Go.Proofs Go.Shelf Go.Lib Go.AmYtbpnmbmdbblehaaGreat
def qkw (ef:Nat→Bool):Nat→Nat→Int
 | 0,_=>-1
 | n+1,i=>cond (ef i) i (qkw ef n (i+1))
theorem qu7 (w:World):qek w w:=⟨rfl,rfl,rfl,Nat.le_refl _,λ _ _=>rfl,Nat.le_refl _⟩
theorem qsh {a b c:World} (h:qek a b) (g:qek b c):qek a c :=
 ⟨g.os.trans h.os,g.tape.trans h.tape,g.output.trans h.output,Nat.le_trans h.size g.size,λ i hi=>(g.block i (Nat.lt_of_lt_of_le hi h.size)).trans (h.block i hi),Nat.le_trans h.drawn g.drawn⟩
variable {P:Program}
set_option maxHeartbeats 4000000 in
set_option maxRecDepth 1000000 in
theorem qHS (hF:P.funcs[52]? = some Tryz.f52) (mixed:P.follows .mixedOrders=true)
  (t0:P.underlying 0=some (TypeDesc.tuple #[])) (a0:∀ w,(isAgg 0).run P w = .ok false w) (z0:∀ w,(Go.sizeOf 0).run P w = .ok 1 w) (v0:∀ w,(zeroValue 0).run P w = .ok (Value.tuple #[]) w)
  (t3:P.underlying 3=some (TypeDesc.int IntKind.i64)) (a3:∀ w,(isAgg 3).run P w = .ok false w) (z3:∀ w,(Go.sizeOf 3).run P w = .ok 1 w) (v3:∀ w,(zeroValue 3).run P w = .ok (Value.int IntKind.i64 0) w)
  (t4:P.underlying 4=some (TypeDesc.bool)) (a4:∀ w,(isAgg 4).run P w = .ok false w) (z4:∀ w,(Go.sizeOf 4).run P w = .ok 1 w) (v4:∀ w,(zeroValue 4).run P w = .ok (Value.bool false) w)
  (t22:P.underlying 27=some (TypeDesc.slice 77)) (a22:∀ w,(isAgg 27).run P w = .ok false w) (z22:∀ w,(Go.sizeOf 27).run P w = .ok 1 w) (v22:∀ w,(zeroValue 27).run P w = .ok (Value.slice none 0 0) w)
  (t36:P.underlying 81=some (TypeDesc.func #[77] #[4] false)) (a36:∀ w,(isAgg 81).run P w = .ok false w) (z36:∀ w,(Go.sizeOf 81).run P w = .ok 1 w) (v36:∀ w,(zeroValue 81).run P w = .ok (Value.nilFunc) w)
  (k:Nat) (aE:∀ w,(isAgg 77).run P w = .ok true w) (zE:∀ w,(Go.sizeOf 77).run P w = .ok k w)
  (w:World) (blk n cap:Nat) (q:Nat) (bp:Value) (hn:n≤100000) (hblk:blk<w.heap.size)
  (enc:Nat→List Value) (hk:∀ x,(enc x).length=k) (hH:HoldsK enc k w blk 0 (Array.range n))
  (eg:∀ args w,(callFunc q args).run P w = .ok (.enter q args) w) (ef:Nat→Bool)
  (heq:∀ W,qek w W→∀ i,i<n→Calls P q #[.agg (enc i).toArray,bp] W λ e w'=>e = .returned (.bool (ef i))∧qek W w') :
  Calls P 52 #[.slice (some ⟨blk,0,none⟩) n cap,.func (.func q) #[] #[bp]] w λ e w'=>e = .returned (.int .i64 (qkw ef n 0))∧qek w w':=by
 have u22:=run_underlying t22
 have hrs:(Array.range n).size=n:=Array.size_range
 have HC:Aside _:=heq
 have HH:Hid (HoldsK enc k w blk 0 (Array.range n)):=hH
 have HK:Hid (∀ x,(enc x).length=k):=hk
 clear heq hH hk
 have hnz:(n:Int)≤100000:=by omega
 generalize hr0:qkw ef n 0=r
 have HR:=Lib.hid hr0
 clear hr0
 go_enter hF,Tryz.ntmps52
 go_wp2
 go_loopg [8] n (λ g1 vi wr=>∃ (i:Nat),vi = .int .i64 i∧i≤n∧n-i≤g1∧Hid (qek w wr)∧Hid (qkw ef (n-i) i=r))
 case atStart=>exact ⟨0,rfl,Nat.zero_le _,by omega,qu7 w,by show _=_;rw [Nat.sub_zero];exact HR.out⟩
 case round =>
  obtain ⟨i,rfl,hin,hg1,HI,HE⟩:=hrel
  by_cases hlt:i<n
  ·have hltz:(i:Int)<(n:Int):=by omega
   have r1:(Array.range n)[i]! = i:=by rw [getElem!_pos _ _ (by rw [hrs];exact hlt)];simp
   have hHw:HoldsK enc k wr blk 0 (Array.range n):=by
    intro j hj
    obtain ⟨h1,h2⟩:=HH.out j hj
    have hb:=HI.out.block blk hblk
    exact ⟨by rw [show wr.cell? _=w.cell? _ from World.cell?_of_block hb];exact h1,by
     rw [← h2];unfold World.frozen?;rw [hb]⟩
   have lj:Sem.run P (loadCellsFrom ⟨blk,i*k,none⟩ 0 k #[]) wr = .ok (enc i).toArray wr:=by
    have:=HoldsK.cells hHw HK.out (i:=i) (by rw [hrs];exact hlt)
    rw [r1,Nat.zero_add] at this
    exact run_loadCellsFrom_list P _ _ _ k (HK.out _) this
   have hcg:=HC.out wr HI.out i hlt
   clear hHw r1
   have hE:=HE.out
   rw [show n-i=(n-(i+1))+1 by omega] at hE
   cases hev:ef i with
   | true =>
     have hE2:r=(i:Int):=by rw [← hE,qkw,hev];rfl
     have HE2:=Lib.hid hE2
     clear hE hE2
     rw [hev] at hcg
     go_wp2_with (go_at_fn q;refine hcg.mono ?_;rintro e w1 ⟨rfl,hid⟩)
     go_ret
     rw [HE2.out]
     exact ⟨rfl,qsh HI.out hid⟩
   | false =>
     have hE2:qkw ef (n-(i+1)) (i+1)=r:=by rw [← hE,qkw,hev];rfl
     have HE2:=Lib.hid hE2
     clear hE hE2
     rw [hev] at hcg
     go_wp2_with (go_at_fn q;refine hcg.mono ?_;rintro e w1 ⟨rfl,hid⟩)
     go_roundg (n-(i+1))
     case measure=>omega
     case rel=>exact ⟨i+1,by go_num,by omega,by omega,qsh HI.out hid,HE2.out⟩
  ·obtain rfl:i=n:=by omega
   have hE:=HE.out
   rw [Nat.sub_self] at hE
   have HE2:=Lib.hid hE
   clear hE
   go_wp2
   go_ret
   rw [← HE2.out]
   exact ⟨rfl,HI.out⟩
set_option maxHeartbeats 4000000 in
set_option maxRecDepth 1000000 in
theorem qHd (p:Option Addr) (cap:Nat) (fv:Value) (w:World) :
  Calls Tryz.prog 52 #[.slice p 0 cap,fv] w λ e w'=>e = .returned (.int .i64 (-1))∧qek w w':=by
 go_enter Tryz.func52,Tryz.ntmps52
 go_wp2
 refine wp_loop_rounds 1 ?_
 rw [rounds_succ]
 go_wp2
 go_ret
 exact ⟨rfl,qu7 w⟩
set_option maxHeartbeats 4000000 in
set_option maxRecDepth 1000000 in
theorem qJJ (w:World) (x n:Int) (c1 c2 c3 c4:Value) (h1:c1.oneCell'=true) (h2:c2.oneCell'=true) (h3:c3.oneCell'=true) (h4:c4.oneCell'=true) (b:Nat) (hN:w.cell? ⟨b,0,none⟩=some (.int .i64 n)) :
  Calls Tryz.prog 53 #[.agg #[.int .i64 x,c1,c2,c3,c4],.pointer (some ⟨b,0,none⟩)] w λ e w'=>e = .returned (.bool (x==n))∧qek w w':=by
 have hb:b<w.heap.size:=qpe hN
 have hN2:∀ o,(w.alloc o).cell? ⟨b,0,none⟩=some (.int .i64 n) := λ o=>by
  rw [show (w.alloc o).cell? _=w.cell? _ from World.cell?_of_block (Below.heap_alloc _ _ _ hb)];exact hN
 go_enter Tryz.func53,Tryz.ntmps53
 go_wp2
 go_ret
 exact ⟨rfl,rfl,rfl,rfl,by simp,λ b hb=>Below.heap_alloc _ _ _ hb,Nat.le_refl _⟩
end Go.Proofs.YtbpnmbmdbblehaaGreat
namespace Go.AmYtbpnmbmdbblehaaGreat
open Go Go.RowKit Go.GxYtbpnmbmdbblehaaGreat Go.Sort Go.Proofs Go.Shelf Go.Proofs.YtbpnmbmdbblehaaGreat
abbrev ya:Ty := .pair (.int .i64) .term
def qjC (l:List (Val ya)) (n:Int) (i:Nat):Bool:=match l[i]? with
 | some x=>x.1==n
 | none=>false
noncomputable def yN (m:Nat) (l:List (Int × T)) (c:Int × T):Option Int:=cond (Nat.ble l.length 100000) (some (qkw (qjC l c.1) l.length 0)) none
theorem qHm {σ : St} {g k:Nat} {r:List SA} {nb nr:Nat} {ys:List AV} {a:jA (.clo g k::r)} (h:dS σ (.clo g k::r) nb nr ys=some a):∃ cs ys',ys = .fn g cs::ys'∧cs.length=k∧dS σ r nb nr (cs++ys')=some a:=by
 cases ys with
 | nil=>simp [dS] at h
 | cons y ys =>
   simp only [dS] at h
   split at h
   ·rename_i cs hc
    obtain ⟨rfl,h1⟩:=qtD hc
    exact ⟨cs,ys,rfl,h1,h⟩
   ·cases h
theorem qHy {σ : St} {τ : Ty} {r:List SA} {nb nr:Nat} {ys:List AV} {a:jA (.box [.val τ]::r)} (h:dS σ (.box [.val τ]::r) nb nr ys=some a):∃ ds ys',ys = .ptr nb 0::ys' ∧ σ.bx[nb]? = some ds∧yj τ (ds.take τ.size)=some a.1∧dS σ r (nb+1) nr ys'=some a.2:=by
 cases ys with
 | nil=>simp [dS] at h
 | cons y ys =>
   simp only [dS] at h
   cases hb:qk9 σ [.val τ] nb nr y with
   | none=>rw [hb] at h;cases h
   | some p =>
     obtain ⟨v,n⟩:=p
     rw [hb] at h
     simp only at h
     unfold qk9 at hb
     split at hb<;>try cases hb
     rename_i j
     split at hb<;>try cases hb
     rename_i ds hj hds
     have hj:=Nat.eq_of_beq_eq_true hj
     subst hj
     simp only [qfb] at hb
     split at hb<;>try cases hb
     rename_i x hx
     split at hb<;>cases hb
     rename_i hvs
     have hm:n=nr:=by
      cases hdd:ds.drop τ.size with
      | nil=>rw [hdd] at hvs;simp [qfb] at hvs;exact hvs.symm
      | cons z zs=>rw [hdd] at hvs;simp [qfb] at hvs
     subst hm
     split at h<;>cases h
     rename_i vs' hvs'
     exact ⟨ds,ys,rfl,hds,hx,hvs'⟩
set_option maxHeartbeats 1000000 in
theorem jv {m:Nat}:qW Go.Proofs.Tryz.prog 52 (xgP ⟨[.row ya,.clo 53 1,.box [.val ya]],λ x=>yN m x.1 x.2.1⟩):=by
 refine ⟨QN Go.Proofs.Tryz.func52 (by kernel_rfl),λ Γ σ w args vals r hi hr hp=>?_⟩
 unfold xgP at hp
 split at hp<;>try cases hp
 rename_i x hx
 split at hp<;>cases hp
 rename_i v0 hv0
 obtain ⟨l,c,_⟩:=x
 obtain ⟨y0,ys0,nr,rfl,hy0,hx1⟩:=qob hx
 obtain ⟨cs,ys1,rfl,hcs,hx2⟩:=qHm (r:=[.box [.val ya]]) hx1
 match cs,hcs with
 | [yp],_ =>
 obtain ⟨ds,ys2,he2,hds,hdv,hx3⟩:=qHy (τ := ya) (r:=[]) hx2
 obtain ⟨rfl,hbx,hrw⟩:=qi4 hx3
 have he2:yp::ys1=[.ptr 0 0]:=he2
 cases he2
 clear hx hx1 hx2 hx3
 obtain ⟨u0,r0,rfl,hu0,hr⟩:=hr.uncons
 obtain ⟨u1,r1,rfl,hu1,hr⟩:=hr.uncons
 have:=hr.nil_inv
 subst this
 have hv0:cond (Nat.ble l.length 100000) (some (qkw (qjC l c.1) l.length 0)) none=some v0:=hv0
 obtain ⟨hll,rfl⟩:=qd8 hv0
 have hll:l.length≤100000:=Nat.le_of_ble_eq_true hll
 obtain ⟨bp,rfl⟩:∃ bp,u1 = .func (.func 53) #[] #[.pointer (some ⟨Γ.β 0,0,none⟩)]:=by
  cases hu1 with
  | fn _ _ us hn hrr =>
    match us,hn with
    | [u],_ =>
      have:=hrr 0 _ u rfl rfl
      cases this with
      | ptr b o h=>exact ⟨0,rfl⟩
 have hbl:0 < Γ.nb:=by rw [hi.nb];omega
 have fin:∀ {vs:Array Value} {v:Int},Calls Go.Proofs.Tryz.prog 52 vs w (λ e w'=>e = .returned (.int .i64 v)∧qek w w')→jD Go.Proofs.Tryz.prog Γ σ w 52 vs.toList (.v (.int .i64 v),none) := λ {vs v} h=>by
  refine Calls.mono (by simpa using h) ?_
  rintro e w' ⟨rfl,hid⟩
  have hb:Below w.heap.size w w':=⟨hid.os,hid.tape,hid.output,hid.size,hid.block⟩
  exact ⟨_,Γ,rfl,qdm hb hid.drawn,hi.later hb,.v _ rfl,.refl _⟩
 have nil0:∀ (p:Option Addr) (cap:Nat),l=[]→jD Go.Proofs.Tryz.prog Γ σ w 52 [.slice p 0 cap,.func (.func 53) #[] #[.pointer (some ⟨Γ.β 0,0,none⟩)]] (.v (.int .i64 (qkw (qjC l c.1) l.length 0)),none) := λ p cap h=>by
  subst h
  exact fin (qHd p cap _ w)
 rcases qds hy0 with ⟨hnr,R,rfl,hR,hRk,hRf,hRd⟩ | ⟨hnr,hl0,hy⟩
 ·have H:=hi.row 0 R hR
  have hcl:R.c.length=l.length:=qT hRd
  have hlk:∀ e∈R.c,e.length=Ty.size ya := λ e he=>(H.len e he).trans hRk
  obtain ⟨p,cap,rfl,hcap,hrm⟩:=qpc hi hR hRk hRf hu0
  by_cases hl0:l=[]
  ·have hrc:R.c.length=0:=by rw [hcl,hl0];rfl
   rw [hrc]
   exact nil0 p cap hl0
  ·have hlpos:0<l.length:=List.length_pos_iff.2 hl0
   rcases hrm with h0 | ⟨rfl,hz,vs,et,hvs,hvsz,hfit,hca,hxl,h1⟩
   ·omega
   obtain ⟨n,hn⟩:∃ n,n=l.length:=⟨_,rfl⟩
   have hnc:R.c.length=n:=hcl.trans hn.symm
   rw [hnc] at hca hxl h1 hcap ⊢
   have hns:n*Ty.size ya≤vs.size:=Nat.le_trans (Nat.mul_le_mul_right _ hcap) hfit
   have hER:∀ {q:Nat} {y:Val ya},l[q]? = some y→RepL Γ (qm ya y) (j9 vs (Ty.size ya) q)∧∀ u∈j9 vs (Ty.size ya) q,u.oneCell'=true := λ hq=>qp4 hnc hlk hRd hca hns hq
   have hlast:∀ i,i % n<n := λ i=>Nat.mod_lt _ (by omega)
   obtain ⟨enc,henc⟩:∃ enc:Nat→List Value,enc = λ i=>j9 vs (Ty.size ya) (i % n):=⟨_,rfl⟩
   have hek:∀ i,(enc i).length=Ty.size ya := λ i=>by rw [henc];exact qlA (hlast i) hns
   have hrange:(Array.range n).size=n:=Array.size_range
   have hvsb:w.heap[Γ.cur 0]? = some (.cells vs et (0,0)):=hvs
   have hH:HoldsK enc (Ty.size ya) w (Γ.cur 0) 0 (Array.range n):=by
    intro j hj
    rw [size_flatK,hrange] at hj
    obtain ⟨q1,q2,q3⟩:=qin j (Ty.size ya) n hj
    have hjs:j<vs.size:=Nat.lt_of_lt_of_le hj hns
    constructor
    ·rw [get_flatK _ _ _ _ (by rw [hrange];exact hj)]
     have e1:(Array.range n)[j / (Ty.size ya)]! = j / (Ty.size ya):=by rw [getElem!_pos _ _ (by rw [hrange];exact q1)];simp
     rw [e1,henc]
     show _=some ((j9 vs (Ty.size ya) (j / (Ty.size ya) % n))[j % (Ty.size ya)]!)
     rw [Nat.mod_eq_of_lt q1]
     have e2:(j9 vs (Ty.size ya) (j / (Ty.size ya)))[j % (Ty.size ya)]? = some vs[j]:=by rw [qjw q3,q2];exact Array.getElem?_eq_getElem hjs
     rw [Nat.zero_add,Blk.cell hvs,List.getElem!_eq_getElem?_getD,e2,Array.getElem?_eq_getElem hjs]
     rfl
    ·exact Blk.free hvs _
   have hN:w.cell? ⟨Γ.β 0,0,none⟩=some (.int .i64 c.1):=by
    obtain ⟨cs,e,hh,hrep,_⟩:=hi.box 0 ds hds
    have hsub:=qiE hdv
    have hr5:RepL Γ (qm ya c) (cs.toList.take (Ty.size ya)):=hsub.rep (hrep.take _)
    obtain ⟨u,r,hu,hu1,_⟩:=(show RepL Γ (.v (.int .i64 c.1)::Ja c.2) _ from hr5).uncons
    have:=zr hu1
    subst this
    have h0:cs.toList[0]? = some (.int .i64 c.1):=by
     have:(cs.toList.take (Ty.size ya))[0]? = some (.int .i64 c.1):=by rw [hu];rfl
     rw [List.getElem?_take] at this
     split at this
     ·exact this
     ·cases this
    unfold World.cell?
    rw [hh]
    show cs[0]? = _
    rw [← Array.getElem?_toList];exact h0
   have heq:∀ W,qek w W→∀ i,i<n→Calls Go.Proofs.Tryz.prog 53 #[.agg (enc i).toArray,.pointer (some ⟨Γ.β 0,0,none⟩)] W λ e w'=>e = .returned (.bool (qjC l c.1 i))∧qek W w':=by
    intro W hid i hi'
    have hli:i<l.length:=by omega
    obtain ⟨q1,q2⟩:=hER (List.getElem?_eq_getElem hli)
    have he:enc i=j9 vs (Ty.size ya) i:=by rw [henc];show j9 _ _ (i % n)=_;rw [Nat.mod_eq_of_lt hi']
    rw [he]
    have hlen5:(j9 vs (Ty.size ya) i).length=5:=by rw [← he];exact hek i
    match hE:j9 vs (Ty.size ya) i,hlen5 with
    | [d0,d1,d2,d3,d4],_ =>
      rw [hE] at q1 q2
      obtain ⟨u,r,hu,hu1,_⟩:=(show RepL Γ (.v (.int .i64 l[i].1)::Ja l[i].2) _ from q1).uncons
      have:=zr hu1
      subst this
      cases hu
      have hb:(qjC l c.1 i)=(l[i].1==c.1):=by unfold qjC;rw [List.getElem?_eq_getElem hli]
      rw [hb]
      refine qJJ W _ _ d1 d2 d3 d4 (q2 _ (by simp)) (q2 _ (by simp)) (q2 _ (by simp)) (q2 _ (by simp)) (Γ.β 0) ?_
      rw [show W.cell? _=w.cell? _ from World.cell?_of_block (hid.block _ (qpe hN))]
      exact hN
   have hcall:=qHS (P:=Go.Proofs.Tryz.prog) Go.Proofs.Tryz.func52 (by kernel_rfl) Go.Proofs.Tryz.underlying0 Go.Proofs.Tryz.isAgg0 Go.Proofs.Tryz.sizeOf0 Go.Proofs.Tryz.zeroValue0 Go.Proofs.Tryz.underlying3 Go.Proofs.Tryz.isAgg3 Go.Proofs.Tryz.sizeOf3 Go.Proofs.Tryz.zeroValue3 Go.Proofs.Tryz.underlying4 Go.Proofs.Tryz.isAgg4 Go.Proofs.Tryz.sizeOf4 Go.Proofs.Tryz.zeroValue4 Go.Proofs.Tryz.underlying27 Go.Proofs.Tryz.isAgg27 Go.Proofs.Tryz.sizeOf27 Go.Proofs.Tryz.zeroValue27 Go.Proofs.Tryz.underlying81 Go.Proofs.Tryz.isAgg81 Go.Proofs.Tryz.sizeOf81 Go.Proofs.Tryz.zeroValue81 (Ty.size ya) Go.Proofs.Tryz.isAgg77 Go.Proofs.Tryz.sizeOf77
    w (Γ.cur 0) n cap 53 (.pointer (some ⟨Γ.β 0,0,none⟩)) (by omega) (Array.getElem?_eq_some_iff.1 hvsb).1 enc hek hH (λ args w=>qd3 (QN Go.Proofs.Tryz.func53 (by kernel_rfl)) args w) (qjC l c.1) heq
   have:=fin hcall
   rw [← hn]
   exact this
 ·have hl0:l=[]:=hl0
  rcases hy with rfl | ⟨f,rfl,hf2⟩
  ·have hu0:=zr hu0
   subst hu0
   exact nil0 none 0 hl0
  ·cases hu0 with
   | sl _ _ _ a n cap b o us hn _ hf _ _ _ _ _ _ =>
     have hn:n=0:=hn
     rw [hn]
     exact nil0 a cap hl0
end Go.AmYtbpnmbmdbblehaaGreat
namespace Go.AmYtbpnmbmdbblehaaGreat
open Go Go.RowKit Go.GxYtbpnmbmdbblehaaGreat
noncomputable def yX (m:Nat) (l:List (Int × T)) (i j:Int):Option (Unit × List (Int × T) × Unit):=cond (inb j l.length&&(inb i l.length&&(ieq j (qi i 1)&&Nat.ble l.length 100000))) (some ((),l.take i.toNat++l.drop (i.toNat+1),())) none
theorem qdj {m:Nat}:qW Go.Proofs.Tryz.prog 55 (sgP ⟨[.row (.pair (.int .i64) .term),.val (.int .i64),.val (.int .i64)],[.one (.row (.pair (.int .i64) .term))],λ x=>yX m x.1 x.2.1 x.2.2.1⟩):=by
 refine qxW (a := .pair (.int .i64) .term) (QN Go.Proofs.Tryz.func55 (by kernel_rfl)) Go.Proofs.YtbpnmbmdbblehaaGreat.delete_oneSlt (fn:=yX m) λ l i j r h=>?_
 obtain ⟨h1,h2⟩:=qd8 h
 simp only [Bool.and_eq_true] at h1
 obtain ⟨h3,h4,h5,h6⟩:=h1
 have h3:=of_decide_eq_true h3
 have h4:=of_decide_eq_true h4
 have h5:j=i+1:=by simpa [ieq,qi] using h5
 refine ⟨h5,h4.1,?_,Nat.le_of_ble_eq_true h6,h2.symm⟩
 omega
end Go.AmYtbpnmbmdbblehaaGreat
namespace Go.AmYtbpnmbmdbblehaaGreat
open Go Go.GxYtbpnmbmdbblehaaGreat
set_option linter.unusedVariables false
set_option maxRecDepth 100000
noncomputable section
abbrev Z1:=Option (Bool)
abbrev Z2:=Int→Z1
abbrev Z3:=List UInt8
abbrev Z4:=Z3→Int→Int→Z1
abbrev Z5:=Y8→Z1
abbrev Z6:=Option (((Int) × (Int) × Unit) × ((Int) × Unit))
abbrev Z7:=T→Int→Int→Int→Z6
abbrev Z8:=List (T)
abbrev Z9:=Int→Z8→Int→Int→Int→Int→Z6
abbrev Z10:=Option (Int)
abbrev Z11:=T→Z10
abbrev Z12:=Option (Y8 × (Int × (Int × Int)))
abbrev Z13:=List (Y8 × (Int × (Int × Int)))
abbrev Z14:=Z3→Z13→Int→Int→Z3→Int→Int→Int→Z12
abbrev Z15:=Z8→Int→Int→Int→Z3→Int→Z8→Z10
abbrev Z16:=Z8→Int→Int→Z10
abbrev Z17:=Int→Z8→Int→Int→Z10
abbrev Z18:=T→T→Z10
abbrev Z19:=Int→Int→Int→Z3→Int→Z8→Int→Z3→Int→Z8→Z10
abbrev Z20:=T→T→Z1
abbrev Z21:=Option (T)
abbrev Z22:=T→Z21
abbrev Z23:=Option (TL)
abbrev Z24:=(List (TL))→Int→(List (TL))→Int→Int→Z23
abbrev Z25:=(List (TL))→Int→Int→Z8→Z23
abbrev Z26:=Z8→Z8→Z8→Z23
abbrev Z27:=T→Z23
abbrev Z28:=Z8→Z8→Int→Int→Z23
abbrev Z29:=Z8→Int→Int→Int→Z3→Int→Int→Z3→Int→Z8→Z8→Z21
abbrev Z30:=Option ((T) × (Int))
abbrev Z31:=List (Int)
abbrev Z32:=Z31→Int→Int→Int→Z3→Int→Z8→Int→Z3→Int→Int→Z3→Int→Z8→Z8→Z30
abbrev Z33:=TL→Z23
abbrev Z34:=Z8→Int→Int→Z8→Z23
abbrev Z35:=Z8→Z8→Int→Int→Int→Z3→Int→Z8→Z30
abbrev Z36:=T→Z1
abbrev Z37:=Int→Int→Int→Z3→Int→Int→Z3→Int→Z8→Z8→Z21
abbrev Z38:=Option ((Int) × (Bool))
abbrev Z39:=List (T × Int)
abbrev Z40:=Z39→Int→Int→Int→Int→Z3→Int→Z8→Z38
abbrev Z41:=Option ((Unit) × ((List (T × Int)) × Unit))
abbrev Z42:=Option ((Unit) × ((List (T × Int)) × (Bool) × Unit))
abbrev Z43:=Z39→T→Int→Z42
abbrev Z44:=Int→Z8→Int→Int→Z39→Z42
abbrev Z45:=Option ((List (T × Int)) × (Int))
abbrev Z46:=T→Z45
abbrev Z47:=Z39→Z39→Int→Int→Z10
abbrev Z48:=Z39→Z10
abbrev Z49:=Y8→TL→Z21
abbrev Z50:=Z39→Int→Int→Int→Z3→Int→Z8→Z8→Z8→Z30
abbrev Z51:=Z39→Int→Int→Int→Int→Int→Z3→Int→Int→Z3→Int→Z8→Int→Z8→Z8→Z8→Z30
abbrev Z52:=Z39→Z30
abbrev Z53:=Z39→Int→Int→Z39→Z41
abbrev Z54:=Z39→Int→Int→Z10
abbrev Z55:=Z39→Int→Int→Z39→Z45
abbrev Z56:=Z39→Z39→Z45
abbrev Z57:=T→T→Z30
abbrev Z58:=T→Z30
abbrev Z59:=Z8→Int→Int→Int→Z3→Int→Z8→Int→Z3→Int→Int→Z3→Int→Z8→Z8→Z30
abbrev Z60:=Z8→Int→Int→Z1
abbrev Z61:=Option (((Int) × (List (T)) × Unit) × (Unit))
abbrev Z62:=T→Int→Z8→Z61
abbrev Z63:=Z8→Int→Int→Int→Z8→Z61
abbrev Z64:=Option ((Unit) × ((List (T)) × Unit))
abbrev Z65:=Int→Int→Z8→Z64
abbrev Z66:=Z31→Int→Int→Int→Z3→Int→Z8→Int→Z3→Int→Z8→Z30
abbrev Z67:=Option ((T × (Int × ((List (Int × T)) × Int))) × (Int))
abbrev Z68:=T→Z67
abbrev Z69:=Int→Int→Int→Z3→Int→Int→Z3→Int→Z8→Z8→Z30
abbrev Z70:=Int→Int→Int→Z3→Int→Z8→Z10
abbrev Z71:=Int→Int→Z3→Int→Z8→Int→Z3→Int→Z8→Z10
abbrev Z72:=List (Int × T)
abbrev Z73:=Int→Z72→Int→Int→Int→Z3→Int→Z8→Int→Z72→Int→Z10
abbrev Z74:=T × (Int × ((List (Int × T)) × Int))
abbrev Z75:=Z74→Z10
abbrev Z76:=Option ((Unit) × (((T) × (Int) × (List (Int × T)) × (Int) × Unit) × Unit))
abbrev Z77:=Z72→Int→Int→Int→Z3→Int→Z8→Int→Z72→Int→Int→Z3→Int→Int→Int→Z8→Z72→Z72→Z76
abbrev Z78:=Option ((T) × (Bool))
abbrev Z79:=Option ((T × (Int × ((List (Int × T)) × Int))) × ((T) × (Int)))
abbrev Z80:=Int→Int→Z3→Int→Z8→Int→Z3→Int→Int→Int→Int→Z3→Int→Int→Z3→Int→Z8→Int→Int→Z8→Z72→Z8→Z72→Z79
abbrev Z81:=Option (Y8)
abbrev Z82:=Z3→Int→Z81
abbrev Z83:=Z3→Int→Z1
abbrev Z84:=Option ((T) × ((Y8) × (Bool)))
abbrev Z85:=Z3→Z3→Int→Int→Z3→Int→Z8→Int→Z3→Int→Z8→Z84
abbrev Z86:=Y8→Int→Z84
abbrev Z87:=Z3→Int→Int→Z3→Int→Int→Z3→Int→Z8→Z8→Z84
abbrev Z88:=Int→Int→Z3→Int→Z8→Z10
abbrev Z89:=Option (List (Y8 × (Int × (Int × Int))))
abbrev Z90:=Z3→Z13→Int→Z10
abbrev Z91:=Z13→Int→Int→Z3→Int→Z8→Z1
abbrev Z92:=Int→Int→Z3→Int→Z8→Z1
abbrev Z93:=Z8→Int→Int→Z3→Int→Z8→Z1
abbrev Z94:=Z8→Bool→Int→Int→Z3→Int→Z8→Z8→Z23
abbrev Z95:=Z8→Int→Int→Z3→Int→Z8→Z8→Z23
abbrev Z96:=Z8→Z8→Int→Z23
abbrev Z97:=Z8→Int→Int→Z3→Int→Z8→Z23
abbrev Z98:=Z8→Int→Int→Z3→Int→Z8→Z10
abbrev Z99:=Z8→Z8→Int→Int→Z3→Int→Z8→Z30
abbrev qIP:=Int→Int→Int→Z3→Int→Z8→Z1
abbrev qIv:=Int→Bool→Int→Int→Z3→Int→Z8→Z39→Z39→Z41
abbrev qzC:=Z39→T→Int→Z41
abbrev qIu:=Int→Int→Int→Z3→Int→Z8→Z39→Z41
abbrev qCM:=Z39→Int→Z10
abbrev qkA:=Z39→Int→Z8→Z23
abbrev qkH:=Z39→Int→Int→Z8→Z23
abbrev qJe:=Z39→Int→Z39→Z45
abbrev qJl:=Int→Int→Z3→Int→Z8→Int→Z3→Int→Z8→Z8→Z30
abbrev qIH:=Int→Int→Z3→Int→Z8→Z8→Z23
abbrev qIR:=Z8→Int→Z1
abbrev qI4:=Int→Z8→Int→Z8→Z23
abbrev qJc:=Int→Int→Int→Z3→Int→Z8→Int→Z72→Int→Z10
abbrev qFi:=Option ((T × (Int × ((List (Int × T)) × Int))) × ((Int × T) × (Int)))
abbrev qJA:=Z74→T→qFi
abbrev qCt:=Option (List (Int × T))
abbrev qJg:=Int→Int→Int→Z3→Int→Z8→Int→Z72→Int→Z72→qCt
abbrev qCS:=T→Int→Z10
abbrev qI3:=Int→Int→Z3→Int→Z8→Int→Z72→Int→Z8→Z23
abbrev qJk:=Z74→Z23
abbrev qJE:=Z74→Z1
abbrev qJr:=Z8→Z8→Int→Z1
abbrev qJh:=Z72→Int→Int→Z8→Z23
abbrev qIp:=Z31→Z31→Int→Int→Z1
abbrev qqg:=Option (List Int)
abbrev qJa:=Z72→Int→Int→Z31→qqg
abbrev qIq:=Z74→qqg
abbrev qIj:=Int→Int→Z3→Int→Z8→Int→Z72→Int→Z31→qqg
abbrev qI6:=Int→Int→Z3→Int→Z8→Int→Z72→Int→Int→Z3→Int→Z8→Int→Z72→Int→Z1
abbrev qJF:=Z74→T→Z67
def qje (m:Nat) (a0:Int):Z1 :=
 let j1:Z1:=(let j2:Z1:=(let j3:Z1:=(cond (ieq a0 95) (some true) (some (ieq a0 35)));cond (ile 48 a0) (cond (ile a0 57) (some true) j3) j3);cond (ile 65 a0) (cond (ile a0 90) (some true) j2) j2);
 cond (ile 97 a0) (cond (ile a0 122) (some true) j1) j1
def qfh:Nat→Z2:=qe (λ _=>none) λ m _=>qje m
def qdJ (m:Nat) (K1:Z4) (a0:Y8):Z1 :=
 cond (qA a0 []) (some false) (cond (ilt 24 (List.length a0)) (some false) (qa (qd a0 0) λ v1=>qa (qfh m ((UInt8.toNat v1:Nat):Int)) λ v2=>cond (qb v2) (some false)
 (qa (qd a0 0) λ v3=>let j1:Z1:=(qa (qd a0 0) λ v5=>cond (ieq ((UInt8.toNat v5:Nat):Int) 95) (some false) (qa (qd a0 0) λ v6=>cond (ieq ((UInt8.toNat v6:Nat):Int) 35) (some false)
 (K1 a0 (List.length a0) 0)));cond (ile 48 ((UInt8.toNat v3:Nat):Int)) (qa (qd a0 0) λ v4=>cond (ile ((UInt8.toNat v4:Nat):Int) 57) (some false) j1) j1)))
def qdS (m:Nat) (K1:Z4) (x0:List UInt8) (x1 x2:Int):Z1 :=
 cond (ilt x2 x1) (qa (qd x0 x2) λ v1=>qa (qfh m ((UInt8.toNat v1:Nat):Int)) λ v2=>cond (qb v2) (some false) (K1 x0 x1 (iw .i64 (qi x2 1)))) (some true)
def jH (m:Nat):=qF (λ _ _ _=>none) λ ih=>qdS m ih
def qaW:Nat→Z5:=qe (λ _=>none) λ m _=>qdJ m (jH m m)
def qeX (m:Nat) (q_term_check:Z7) (K1:Z9) (a0:T) (a1 a2 a3:Int):Z6 :=
 let j1:Z6:=(qa (qaW m (T.name a0)) λ v1=>cond (qb v1) (some ((iw .i64 (qi a2 1),qkE a3 a1,()),(2,()))) (cond (ilt 8 (List.length (T.kids a0)))
 (some ((iw .i64 (qi a2 1),qkE a3 a1,()),(3,()))) (K1 a1 (T.kids a0) (List.length (T.kids a0)) 0 (iw .i64 (qi a2 1)) (qkE a3 a1))));let j2:Z6:=(some ((iw .i64 (qi a2 1),qkE a3 a1,()),(1,())));
 let j3:Z6:=(cond (ilt (T.sort a0) 0) j2 (cond (ilt 5 (T.sort a0)) j2 (cond (ilt 0 (List.length (T.kids a0))) j2 j1)));cond (ieq (T.kind a0) 1) j3 (cond (ieq (T.kind a0) 2) j3 (cond (ieq (T.kind a0) 3)
 (cond (qb (ieq (T.sort a0) 0)) j2 j1) j2))
def qeH (m:Nat) (q_term_check:Z7) (K1:Z9) (x0:Int) (x1:List (T)) (x2 x3 x4 x5:Int):Z6 :=
 cond (ilt x3 x2) (qa (qd x1 x3) λ v1=>qa (q_term_check (re v1) (iw .i64 (qi x0 1)) x4 x5) λ v2=>cond (qb (ieq v2.2.1 0)) (some ((v2.1.1,v2.1.2.1,()),(v2.2.1,())))
 (K1 x0 x1 x2 (iw .i64 (qi x3 1)) v2.1.1 v2.1.2.1)) (some ((x4,x5,()),(0,())))
def yW (m:Nat) (q_term_check:Z7):=qF (λ _ _ _ _ _ _=>none) λ ih=>qeH m q_term_check ih
def zD:Nat→Z7:=qe (λ _ _ _ _=>none) λ m q_term_check=>qeX m q_term_check (yW m q_term_check m)
def qhy (m:Nat) (a0:T):Z10 :=
 qa (zD m (re a0) 1 0 0) λ v1=>cond (qb (ieq v1.2.1 0)) (some v1.2.1) (cond (ilt 400 v1.1.1) (some 3) (cond (ilt 40 v1.1.2.1) (some 3) (some 0)))
def zc:Nat→Z11:=qe (λ _=>none) λ m _=>qhy m
def qb8 (m:Nat) (K1:Z14) (a0:Y8):Z12 :=
 qa (qgA 0) λ v1=>K1 a0 v1 (List.length v1) 0 [] 0 0 0
def qcb (m:Nat) (K1:Z14) (x0:List UInt8) (x1:List (Y8 × (Int × (Int × Int)))) (x2 x3:Int) (x4:List UInt8) (x5 x6 x7:Int):Z12 :=
 cond (ilt x3 x2) (qa (qd x1 x3) λ v1=>cond (qA v1.1 x0) (some (v1.1,(v1.2.1,(v1.2.2.1,v1.2.2.2)))) (K1 x0 x1 x2 (iw .i64 (qi x3 1)) x4 x5 x6 x7)) (some ([],(0,(0,0))))
def Qm (m:Nat):=qF (λ _ _ _ _ _ _ _ _=>none) λ ih=>qcb m ih
def qaw:Nat→(Y8→Z12):=qe (λ _=>none) λ m _=>qb8 m (Qm m m)
def qcN (m:Nat) (q_theory_check:Z11) (K1:Z15) (K2:Z16) (a0:T):Z10 :=
 cond (qb (ieq (T.kind a0) 3)) (some 0) (qa (qaw m (T.name a0)) λ v1=>cond (ieq v1.2.2.2 0) (some 10) (cond (ilt (List.length (T.kids a0)) v1.2.1) (some 6)
 (cond (ilt v1.2.2.1 (List.length (T.kids a0))) (some 6) (cond (qA (T.name a0) [115,107]) (K1 (T.kids a0) (List.length (T.kids a0)) 0 (T.kind a0) (T.name a0) (T.sort a0) (T.kids a0))
 (cond (qA (T.name a0) [115,104,107]) (K1 (T.kids a0) (List.length (T.kids a0)) 0 (T.kind a0) (T.name a0) (T.sort a0) (T.kids a0)) (cond (qA (T.name a0) [110,101,119]) (qa (qd (T.kids a0) 0) λ v2 =>
 cond (qb (ieq (T.kind v2) 2)) (some 10) (K2 (T.kids a0) (List.length (T.kids a0)) 0)) (K2 (T.kids a0) (List.length (T.kids a0)) 0)))))))
def qcI (m:Nat) (q_theory_check:Z11) (K1:Z15) (K2:Z16) (x0:List (T)) (x1 x2 x3:Int) (x4:List UInt8) (x5:Int) (x6:List (T)):Z10 :=
 cond (ilt x2 x1) (qa (qd x0 x2) λ v1=>cond (ieq (T.kind v1) 3) (some 10) (cond (qb (ieq (T.sort v1) 1)) (some 10) (K1 x0 x1 (iw .i64 (qi x2 1)) x3 x4 x5 x6))) (K2 x6 (List.length x6) 0)
def qcy (m:Nat) (q_theory_check:Z11) (K1:Z15) (K2:Z16) (x0:List (T)) (x1 x2:Int):Z10 :=
 cond (ilt x2 x1) (qa (qd x0 x2) λ v1=>qa (q_theory_check (re v1)) λ v2=>cond (qb (ieq v2 0)) (some v2) (K2 x0 x1 (iw .i64 (qi x2 1)))) (some 0)
def qM (m:Nat) (q_theory_check:Z11):=qF ((λ _ _ _ _ _ _ _=>none,λ _ _ _=>none)) λ ih=>(qcI m q_theory_check ih.1 ih.2,qcy m q_theory_check ih.1 ih.2)
def qz:Nat→Z11:=qe (λ _=>none) λ m q_theory_check=>qcN m q_theory_check (qM m q_theory_check m).1 (qM m q_theory_check m).2
def qf4 (m:Nat) (a0:T):Z10 :=
 qa (zc m (re a0)) λ v1=>cond (qb (ieq v1 0)) (some v1) (qa (qz m (re a0)) λ v2=>some v2)
def qdz:Nat→Z11:=qe (λ _=>none) λ m _=>qf4 m
def qjB (m:Nat) (a0 a1:Int):Z10 :=
 cond (ilt a0 a1) (some (-1)) (cond (ilt a1 a0) (some 1) (some 0))
def qbJ:Nat→(Int→Int→Z10):=qe (λ _ _=>none) λ m _=>qjB m
def qfF (m:Nat) (q_term_Size:Z11) (K1:Z17) (a0:T):Z10 :=
 K1 1 (T.kids a0) (List.length (T.kids a0)) 0
def qfX (m:Nat) (q_term_Size:Z11) (K1:Z17) (x0:Int) (x1:List (T)) (x2 x3:Int):Z10 :=
 cond (ilt x3 x2) (qa (qd x1 x3) λ v1=>qa (q_term_Size (re v1)) λ v2=>K1 (iw .i64 (qi x0 v2)) x1 x2 (iw .i64 (qi x3 1))) (some x0)
def qaX (m:Nat) (q_term_Size:Z11):=qF (λ _ _ _ _=>none) λ ih=>qfX m q_term_Size ih
def jo:Nat→Z11:=qe (λ _=>none) λ m q_term_Size=>qfF m q_term_Size (qaX m q_term_Size m)
def qcB (m:Nat) (q_term_Compare:Z18) (K1:Z19) (a0 a1:T):Z10 :=
 qa (jo m (re a0)) λ v1=>qa (jo m (re a1)) λ v2=>qa (qbJ m v1 v2) λ v3=>let j1:Z10:=(qa (qbJ m (List.length (T.kids a0)) (List.length (T.kids a1))) λ v7 =>
 K1 v7 0 (T.kind a0) (T.name a0) (T.sort a0) (T.kids a0) (T.kind a1) (T.name a1) (T.sort a1) (T.kids a1));let j2:Z10:=(qa (qbJ m (T.sort a0) (T.sort a1)) λ v6=>cond (ieq v6 0) j1 (K1 v6 0 (T.kind a0)
 (T.name a0) (T.sort a0) (T.kids a0) (T.kind a1) (T.name a1) (T.sort a1) (T.kids a1)));let j3:Z10:=(qa (strings_Compare 0 (T.name a0) (T.name a1)) λ v5 =>
 cond (ieq v5 0) j2 (cond (ieq v5 0) j1 (K1 v5 0 (T.kind a0) (T.name a0) (T.sort a0) (T.kids a0) (T.kind a1) (T.name a1) (T.sort a1) (T.kids a1))));cond (ieq v3 0) (qa (qbJ m (T.kind a0) (T.kind a1)) λ v4 =>
 cond (ieq v4 0) j3 (cond (ieq v4 0) j2 (cond (ieq v4 0) j1 (K1 v4 0 (T.kind a0) (T.name a0) (T.sort a0) (T.kids a0) (T.kind a1) (T.name a1) (T.sort a1) (T.kids a1)))))
 (cond (ieq v3 0) j3 (cond (ieq v3 0) j2 (cond (ieq v3 0) j1 (K1 v3 0 (T.kind a0) (T.name a0) (T.sort a0) (T.kids a0) (T.kind a1) (T.name a1) (T.sort a1) (T.kids a1)))))
def qaQ (m:Nat) (q_term_Compare:Z18) (K1:Z19) (x0 x1 x2:Int) (x3:List UInt8) (x4:Int) (x5:List (T)) (x6:Int) (x7:List UInt8) (x8:Int) (x9:List (T)):Z10 :=
 cond (ieq x0 0) (cond (ilt x1 (List.length x5)) (qa (qd x5 x1) λ v1=>qa (qd x9 x1) λ v2=>qa (q_term_Compare (re v1) (re v2)) λ v3=>K1 v3 (iw .i64 (qi x1 1)) x2 x3 x4 x5 x6 x7 x8 x9) (some x0))
 (some x0)
def jr (m:Nat) (q_term_Compare:Z18):=qF (λ _ _ _ _ _ _ _ _ _ _=>none) λ ih=>qaQ m q_term_Compare ih
def qt:Nat→Z18:=qe (λ _ _=>none) λ m q_term_Compare=>qcB m q_term_Compare (jr m q_term_Compare m)
def qgQ (m:Nat) (a0 a1:T):Z1 :=
 qa (qt m (re a0) (re a1)) λ v1=>some (ieq v1 0)
def Qc:Nat→Z20:=qe (λ _ _=>none) λ m _=>qgQ m
def qjv (m:Nat) (a0:T) (a1:Y8):Z1 :=
 cond (ieq (T.kind a0) 3) (some (qA (T.name a0) a1)) (some false)
def yx:Nat→(T→Y8→Z1):=qe (λ _ _=>none) λ m _=>qjv m
def qee (m:Nat) (a0:T):Z21 :=
 qa (qd (T.kids a0) 0) λ v1=>let j1:Z21:=(some (re a0));let j2:Z21:=(qa (qd (T.kids v1) 0) λ v4=>some (re v4));let j3:Z21:=(cond (qA (T.name a0) [114,101,97,100])
 (qa (yx m (re v1) [115,105,103,110]) λ v24=>cond v24 j2 j1) j1);let j4:Z21:=(qa (yx m (re v1) [112,97,105,114]) λ v5=>cond v5 (qa (qd (T.kids v1) 1) λ v6 =>
 some (re v6)) j1);let j5:Z21:=(qa (yx m (re v1) [112,97,105,114]) λ v3=>cond v3 j2 j1);cond (ilt 1 (List.length (T.kids a0))) (qa (qd (T.kids a0) 1) λ v2 =>
 cond (qA (T.name a0) [102,115,116]) j5 (cond (qA (T.name a0) [115,110,100]) j4 (cond (qA (T.name a0) [100,101,99]) (qa (yx m (re v1) [101,110,99]) λ v7 =>
 cond v7 (qa (qd (T.kids v1) 1) λ v8=>qa (Qc m (re v8) (re v2)) λ v9=>cond v9 j2 j1) j1) (cond (qA (T.name a0) [97,100,101,99]) (qa (yx m (re v1) [97,101,110,99]) λ v11 =>
 cond v11 (qa (qd (T.kids v1) 1) λ v12=>qa (yx m (re v12) [112,107]) λ v13=>cond v13 (qa (qd (T.kids v1) 1) λ v14=>qa (qd (T.kids v14) 0) λ v15=>qa (Qc m (re v15)
 (re v2)) λ v16=>cond v16 j2 j1) j1) j1) (cond (qA (T.name a0) [111,112,101,110]) (qa (yx m (re v1) [115,105,103,110]) λ v18=>cond v18 (qa (yx m (re v2) [112,107]) λ v19 =>
 cond v19 (qa (qd (T.kids v1) 1) λ v20=>qa (qd (T.kids v2) 0) λ v21=>qa (Qc m (re v20) (re v21)) λ v22=>cond v22 j2 j1) j1) j1) j3)))))
 (cond (qA (T.name a0) [102,115,116]) j5 (cond (qA (T.name a0) [115,110,100]) j4 (cond (qA (T.name a0) [100,101,99]) (qa (yx m (re v1) [101,110,99]) λ v30 =>
 cond v30 (qa (qd (T.kids v1) 1) λ v31=>qa (Qc m (re v31) (T.mk 0 [] 0 [])) λ v32=>cond v32 j2 j1) j1) (cond (qA (T.name a0) [97,100,101,99])
 (qa (yx m (re v1) [97,101,110,99]) λ v34=>cond v34 (qa (qd (T.kids v1) 1) λ v35=>qa (yx m (re v35) [112,107]) λ v36=>cond v36 (qa (qd (T.kids v1) 1) λ v37 =>
 qa (qd (T.kids v37) 0) λ v38=>qa (Qc m (re v38) (T.mk 0 [] 0 [])) λ v39=>cond v39 j2 j1) j1) j1) (cond (qA (T.name a0) [111,112,101,110])
 (qa (yx m (re v1) [115,105,103,110]) λ v41=>cond v41 (qa (yx m (T.mk 0 [] 0 []) [112,107]) λ v42=>cond v42 (qa (qd (T.kids v1) 1) λ v43=>none) j1) j1) j3)))))
def J1:Nat→Z22:=qe (λ _=>none) λ m _=>qee m
def yy (m:Nat) (K1:Z24) (K2:Z25) (a0:List TL):Z23 :=
 K1 a0 0 a0 (List.length a0) 0
def yG (m:Nat) (K1:Z24) (K2:Z25) (x0:List (TL)) (x1:Int) (x2:List (TL)) (x3 x4:Int):Z23 :=
 cond (ilt x4 x3) (qa (qd x2 x4) λ v1=>cond (ilt (iw .i64 (qi x1 (List.length v1))) 0) none (K1 x0 (iw .i64 (qi x1 (List.length v1))) x2 x3 (iw .i64 (qi x4 1))))
 (qa (yw 0 x1) λ v2=>K2 x0 (List.length x0) 0 v2.2.1)
def yE (m:Nat) (K1:Z24) (K2:Z25) (x0:List (TL)) (x1 x2:Int) (x3:List (T)):Z23 :=
 cond (ilt x2 x1) (qa (qd x0 x2) λ v1=>cond (zL (List.length x3+List.length v1) 56) (K2 x0 x1 (iw .i64 (qi x2 1)) (x3++v1)) none) (some x3)
def ql (m:Nat):=qF ((λ _ _ _ _ _=>none,λ _ _ _ _=>none)) λ ih=>(yG m ih.1 ih.2,yE m ih.1 ih.2)
def zd:Nat→((List TL)→Z23):=qe (λ _=>none) λ m _=>yy m (ql m m).1 (ql m m).2
def qgi (m:Nat) (K1:Z16) (a0 a1:TL):Z10 :=
 cond (ilt 200 (List.length a0)) (some 3) (qa (zd m [a0,a1]) λ v1=>K1 v1 (List.length v1) 0)
def qgn (m:Nat) (K1:Z16) (x0:List (T)) (x1 x2:Int):Z10 :=
 cond (ilt x2 x1) (qa (qd x0 x2) λ v1=>qa (zc m (re v1)) λ v2=>cond (qb (ieq v2 0)) (some v2) (K1 x0 x1 (iw .i64 (qi x2 1)))) (some 0)
def qaY (m:Nat):=qF (λ _ _ _=>none) λ ih=>qgn m ih
def qg9:Nat→(TL→TL→Z10):=qe (λ _ _=>none) λ m _=>qgi m (qaY m m)
def qg5 (m:Nat) (K1:Z26) (a0 a1:TL):Z23 :=
 K1 a0 a1 []
def qg4 (m:Nat) (K1:Z26) (x0 x1 x2:List (T)):Z23 :=
 let j1:Z23:=(cond (zL (List.length x2+List.length x0) 56) (cond (zL (List.length (x2++x0)+List.length x1) 56) (some ((x2++x0)++x1)) none) none);cond (ilt 0 (List.length x0))
 (cond (ilt 0 (List.length x1)) (qa (qd x0 0) λ v1=>qa (qd x1 0) λ v2=>qa (qt m (re v1) (re v2)) λ v3=>cond (ilt v3 0) (qa (qd x0 0) λ v4=>cond (zL (List.length x2+1) 56)
 (cond (inb (List.length x0) (List.length x0)) (cond (inb 1 (Int.toNat (List.length x0))) (K1 (y8 x0 1 (List.length x0)) x1 (x2++[re v4])) none) none) none) (cond (ilt 0 v3) (qa (qd x1 0) λ v5 =>
 cond (zL (List.length x2+1) 56) (cond (inb (List.length x1) (List.length x1)) (cond (inb 1 (Int.toNat (List.length x1))) (K1 x0 (y8 x1 1 (List.length x1)) (x2++[re v5])) none) none) none)
 (cond (inb (List.length x0) (List.length x0)) (cond (inb 1 (Int.toNat (List.length x0))) (cond (inb (List.length x1) (List.length x1)) (cond (inb 1 (Int.toNat (List.length x1))) (K1 (y8 x0 1 (List.length x0))
 (y8 x1 1 (List.length x1)) x2) none) none) none) none))) j1) j1
def qbN (m:Nat):=qF (λ _ _ _=>none) λ ih=>qg4 m ih
def qgO:Nat→(TL→TL→Z23):=qe (λ _ _=>none) λ m _=>qg5 m (qbN m m)
def qcT (m:Nat) (q_xor_summands:Z27) (K1:Z28) (a0:T):Z23 :=
 let j1:Z23:=(cond (ieq (T.kind a0) 3) (cond (qA (T.name a0) [120,111,114]) (K1 [] (T.kids a0) (List.length (T.kids a0)) 0) (some [re a0])) (some [re a0]));cond (ieq (T.kind a0) 3)
 (cond (qA (T.name a0) [122,101,114,111]) (cond (ieq (List.length (T.kids a0)) 0) (some []) j1) j1) j1
def qcQ (m:Nat) (q_xor_summands:Z27) (K1:Z28) (x0 x1:List (T)) (x2 x3:Int):Z23 :=
 cond (ilt x3 x2) (qa (qd x1 x3) λ v1=>qa (q_xor_summands (re v1)) λ v2=>qa (qgO m x0 v2) λ v3=>K1 v3 x1 x2 (iw .i64 (qi x3 1))) (some x0)
def jW (m:Nat) (q_xor_summands:Z27):=qF (λ _ _ _ _=>none) λ ih=>qcQ m q_xor_summands ih
def zR:Nat→Z27:=qe (λ _=>none) λ m q_xor_summands=>qcT m q_xor_summands (jW m q_xor_summands m)
def qeI (m:Nat) (q_term_clone:Z22) (K1:Z29) (a0:T):Z21 :=
 K1 (T.kids a0) (List.length (T.kids a0)) 0 (T.kind a0) (T.name a0) (T.sort a0) 0 [] 0 [] []
def qeT (m:Nat) (q_term_clone:Z22) (K1:Z29) (x0:List (T)) (x1 x2 x3:Int) (x4:List UInt8) (x5 x6:Int) (x7:List UInt8) (x8:Int) (x9 x10:List (T)):Z21 :=
 cond (ilt x2 x1) (qa (qd x0 x2) λ v1=>qa (q_term_clone (re v1)) λ v2=>cond (zL (List.length x9+1) 56) (K1 x0 x1 (iw .i64 (qi x2 1)) x3 x4 x5 x6 x7 x8 (x9++[re v2]) x10) none)
 (some (T.mk x3 x4 x5 x9))
def qac (m:Nat) (q_term_clone:Z22):=qF (λ _ _ _ _ _ _ _ _ _ _ _=>none) λ ih=>qeT m q_term_clone ih
def yn:Nat→Z22:=qe (λ _=>none) λ m q_term_clone=>qeI m q_term_clone (qac m q_term_clone m)
def qcD (m:Nat) (K1:Z32) (a0:T) (a1:List Int) (a2:T):Z30 :=
 qa (yn m (re a0)) λ v1=>K1 a1 (List.length a1) 0 (T.kind a2) (T.name a2) (T.sort a2) (T.kids a2) 0 [] 0 (T.kind v1) (T.name v1) (T.sort v1) (T.kids v1) []
def qf8 (m:Nat) (K1:Z32) (x0:List (Int)) (x1 x2 x3:Int) (x4:List UInt8) (x5:Int) (x6:List (T)) (x7:Int) (x8:List UInt8) (x9 x10:Int) (x11:List UInt8) (x12:Int) (x13 x14:List (T)):Z30 :=
 cond (ilt x2 x1) (qa (qd x0 x2) λ v1=>cond (ilt v1 0) (some (T.mk 0 [] 0 [],7)) (cond (ile (List.length x13) v1) (some (T.mk 0 [] 0 [],7)) (qa (qd x13 v1) λ v2=>none)))
 (qa (yn m (T.mk x3 x4 x5 x6)) λ v3=>some (re v3,0))
def J3 (m:Nat):=qF (λ _ _ _ _ _ _ _ _ _ _ _ _ _ _ _=>none) λ ih=>qf8 m ih
def qdr:Nat→(T→(List Int)→T→Z30):=qe (λ _ _ _=>none) λ m _=>qcD m (J3 m m)
def qid (m:Nat) (q_xor_own:Z33) (K1:Z34) (a0:TL):Z23 :=
 cond (qBO (List.length a0) 56) (K1 a0 (List.length a0) 0 (List.replicate (Int.toNat (List.length a0)) (T.mk 0 [] 0 []):List (T))) none
def qiv (m:Nat) (q_xor_own:Z33) (K1:Z34) (x0:List (T)) (x1 x2:Int) (x3:List (T)):Z23 :=
 cond (ilt x2 x1) (qa (qd x0 x2) λ v1=>qa (qdr m (re v1) [] (re v1)) λ v2=>qa (qd x3 x2) λ v3=>qa (q_xor_own (T.kids v1)) λ v4=>qa (qd (jO x3 x2 (re v2.1)) x2) λ v5 =>
 cond (ieq (List.length (T.kids v1)) 0) (qa (qd (jO (jO x3 x2 (re v2.1)) x2 (T.mk (T.kind v5) (T.name v5) (T.sort v5) v4)) x2) λ v6=>K1 x0 x1 (iw .i64 (qi x2 1))
 (jO (jO (jO x3 x2 (re v2.1)) x2 (T.mk (T.kind v5) (T.name v5) (T.sort v5) v4)) x2 (T.mk (T.kind v6) (T.name v6) (T.sort v6) []))) (K1 x0 x1 (iw .i64 (qi x2 1)) (jO (jO x3 x2 (re v2.1)) x2 (T.mk (T.kind v5)
 (T.name v5) (T.sort v5) v4)))) (some x3)
def qc9 (m:Nat) (q_xor_own:Z33):=qF (λ _ _ _ _=>none) λ ih=>qiv m q_xor_own ih
def QX:Nat→Z33:=qe (λ _=>none) λ m q_xor_own=>qid m q_xor_own (qc9 m q_xor_own m)
def qh8 (m:Nat) (K1:Z35) (a0:TL):Z30 :=
 qa (qg9 m a0 []) λ v1=>cond (qb (ieq v1 0)) (some (T.mk 0 [] 0 [],v1)) (K1 [] a0 (List.length a0) 0 0 [] 0 [])
def qil (m:Nat) (K1:Z35) (x0 x1:List (T)) (x2 x3 x4:Int) (x5:List UInt8) (x6:Int) (x7:List (T)):Z30 :=
 cond (ilt x3 x2) (qa (qd x1 x3) λ v1=>qa (zR m (re v1)) λ v2=>qa (qgO m x0 v2) λ v3=>K1 v3 x1 x2 (iw .i64 (qi x3 1)) x4 x5 x6 x7) (qa (QX m x0) λ v4=>let j1:Z30 :=
 (some (T.mk 0 [] 0 [],3));cond (ieq (List.length v4) 0) (qa (zc m (T.mk 3 [122,101,114,111] 0 [])) λ v5=>cond (qb (ieq v5 0)) j1 (some (T.mk 3 [122,101,114,111] 0 [],0)))
 (cond (ieq (List.length v4) 1) (qa (qd v4 0) λ v6=>qa (zc m (re v6)) λ v7=>cond (qb (ieq v7 0)) j1 (some (re v6,0))) (qa (zc m (T.mk 3 [120,111,114] 0 v4)) λ v8 =>
 cond (qb (ieq v8 0)) j1 (some (T.mk 3 [120,111,114] 0 v4,0)))))
def qdn (m:Nat):=qF (λ _ _ _ _ _ _ _ _=>none) λ ih=>qil m ih
def qle:Nat→(TL→Z30):=qe (λ _=>none) λ m _=>qh8 m (qdn m m)
def qdb (m:Nat) (a0:T):Z1 :=
 cond (ieq (T.kind a0) 3) (cond (qA (T.name a0) [109,117,108]) (some true) (cond (qA (T.name a0) [105,110,118]) (some true) (some (qA (T.name a0) [111,110,101])))) (some false)
def Ju:Nat→Z36:=qe (λ _=>none) λ m _=>qdb m
def qbb (m:Nat) (q_exponent_clone:Z22) (K1:Z37) (a0:T):Z21 :=
 qa (zG 0 (T.kids a0)) λ v1=>K1 (List.length v1.2.1) 0 (T.kind a0) (T.name a0) (T.sort a0) 0 [] 0 v1.2.1 []
def qa7 (m:Nat) (q_exponent_clone:Z22) (K1:Z37) (x0 x1 x2:Int) (x3:List UInt8) (x4 x5:Int) (x6:List UInt8) (x7:Int) (x8 x9:List (T)):Z21 :=
 cond (ilt x1 x0) (qa (qd x8 x1) λ v1=>qa (q_exponent_clone (re v1)) λ v2=>qa (qd x8 x1) λ v3=>K1 x0 (iw .i64 (qi x1 1)) x2 x3 x4 x5 x6 x7 (jO x8 x1 (re v2)) x9) (some (T.mk x2 x3 x4 x8))
def jN (m:Nat) (q_exponent_clone:Z22):=qF (λ _ _ _ _ _ _ _ _ _ _=>none) λ ih=>qa7 m q_exponent_clone ih
def zb:Nat→Z22:=qe (λ _=>none) λ m q_exponent_clone=>qbb m q_exponent_clone (jN m q_exponent_clone m)
def qcg (m:Nat) (a0:T × Int) (a1:T):Z10 :=
 qa (qt m (re a0.1) (re a1)) λ v1=>some v1
def Qv:Nat→((T × Int)→T→Z10):=qe (λ _ _=>none) λ m _=>qcg m
def qC (m:Nat) (K1:Z40) (a0:List (T × Int)) (a1:T):Z38 :=
 K1 a0 (List.length a0) 0 (List.length a0) (T.kind a1) (T.name a1) (T.sort a1) (T.kids a1)
def qB (m:Nat) (K1:Z40) (x0:List (T × Int)) (x1 x2 x3 x4:Int) (x5:List UInt8) (x6:Int) (x7:List (T)):Z38 :=
 cond (ilt x2 x3) (qa (qd x0 (iw .i64 (qlG .u64 (iw .u64 (iw .i64 (qi x2 x3))) 1))) λ v1=>qa (Qv m (re v1.1,v1.2) (T.mk x4 x5 x6 x7)) λ v2=>cond (ilt v2 0)
 (K1 x0 x1 (iw .i64 (qi (iw .i64 (qlG .u64 (iw .u64 (iw .i64 (qi x2 x3))) 1)) 1)) x3 x4 x5 x6 x7) (K1 x0 x1 x2 (iw .i64 (qlG .u64 (iw .u64 (iw .i64 (qi x2 x3))) 1)) x4 x5 x6 x7)) (cond (ilt x2 x1)
 (qa (qd x0 x2) λ v3=>qa (Qv m (re v3.1,v3.2) (T.mk x4 x5 x6 x7)) λ v4=>some (x2,ieq v4 0)) (some (x2,false)))
def qn (m:Nat):=qF (λ _ _ _ _ _ _ _ _=>none) λ ih=>qB m ih
def qx:Nat→(Z39→T→Z38):=qe (λ _ _=>none) λ m _=>qC m (qn m m)
def qdk (m:Nat) (a0:List (T × Int)) (a1:T × Int):Z41 :=
 qa (qx m a0 (re a1.1)) λ v1=>cond (qb v1.2) (qa (zb m (re a1.1)) λ v2 =>
 qa (zl 0 a0 v1.1 [(re v2,a1.2)]) λ v3=>some ((()),(v3.2.1,()))) (qa (qd a0 v1.1) λ v4=>qa (qd a0 v1.1) λ v5 =>
 qa (qd (jO a0 v1.1 (re v5.1,iw .i64 (qi v4.2 a1.2))) v1.1) λ v6=>cond (ieq v6.2 0)
 (qa (zm 0 (jO a0 v1.1 (re v5.1,iw .i64 (qi v4.2 a1.2))) v1.1 (iw .i64 (qi v1.1 1))) λ v7=>some ((()),(v7.2.1,())))
 (some ((()),(jO a0 v1.1 (re v5.1,iw .i64 (qi v4.2 a1.2)),()))))
def Jt:Nat→(Z39→(T × Int)→Z41):=qe (λ _ _=>none) λ m _=>qdk m
def qam (m:Nat) (q_exponent_collect:Z43) (K1:Z44) (a0:List (T × Int)) (a1:T) (a2:Int):Z42 :=
 qa (Ju m (re a1)) λ v1=>cond (qb v1) (qa (Jt m a0 (re a1,a2)) λ v2=>some ((()),(v2.2.1,true,()))) (let j1:Z42:=(some ((()),([],false,())));let j2:Z42 :=
 (let j3:Z42:=(let j4:Z42:=(cond (qA (T.name a1) [105,110,118]) (K1 (iw .i64 (QD 0 a2)) (T.kids a1) (List.length (T.kids a1)) 0 a0) (K1 a2 (T.kids a1) (List.length (T.kids a1)) 0 a0));
 cond (qA (T.name a1) [109,117,108]) (cond (ilt (List.length (T.kids a1)) 2) j1 j4) j4);cond (qA (T.name a1) [105,110,118]) (cond (qb (ieq (List.length (T.kids a1)) 1)) j1 j3) j3);
 cond (qA (T.name a1) [111,110,101]) (cond (qb (ieq (List.length (T.kids a1)) 0)) j1 j2) j2)
def qak (m:Nat) (q_exponent_collect:Z43) (K1:Z44) (x0:Int) (x1:List (T)) (x2 x3:Int) (x4:List (T × Int)):Z42 :=
 cond (ilt x3 x2) (qa (qd x1 x3) λ v1=>qa (q_exponent_collect x4 (re v1) x0) λ v2=>cond (qb v2.2.2.1) (some ((()),([],false,()))) (K1 x0 x1 x2 (iw .i64 (qi x3 1)) v2.2.1))
 (some ((()),(x4,true,())))
def yS (m:Nat) (q_exponent_collect:Z43):=qF (λ _ _ _ _ _=>none) λ ih=>qak m q_exponent_collect ih
def qZ:Nat→Z43:=qe (λ _ _ _=>none) λ m q_exponent_collect=>qam m q_exponent_collect (yS m q_exponent_collect m)
def qgG (m:Nat) (a0:T):Z45 :=
 qa (zc m (re a0)) λ v1=>cond (qb (ieq v1 0)) (some ([],v1)) (qa (qZ m [] (re a0) 1) λ v2=>cond (qb v2.2.2.1) (some ([],6)) (cond (ilt 200 (List.length v2.2.1)) (some ([],3))
 (some (v2.2.1,0))))
def JY:Nat→Z46:=qe (λ _=>none) λ m _=>qgG m
def qbl (m:Nat) (K1:Z47) (a0:List (T × Int)):Z10 :=
 cond (ilt 200 (List.length a0)) (some 3) (K1 a0 a0 (List.length a0) 0)
def qbj (m:Nat) (K1:Z47) (x0 x1:List (T × Int)) (x2 x3:Int):Z10 :=
 cond (ilt x3 x2) (qa (qd x1 x3) λ v1=>qa (zc m (re v1.1)) λ v2=>cond (qb (ieq v2 0)) (some v2) (qa (Ju m (re v1.1)) λ v3=>cond v3 (some 1) (cond (ieq v1.2 0) (some 7)
 (cond (ilt v1.2 (-1000)) (some 7) (cond (ilt 1000 v1.2) (some 7) (cond (ilt 0 x3) (qa (qd x0 (iw .i64 (QD x3 1))) λ v4=>qa (qt m (re v4.1) (re v1.1)) λ v5=>cond (ile 0 v5) (some 5)
 (K1 x0 x1 x2 (iw .i64 (qi x3 1)))) (K1 x0 x1 x2 (iw .i64 (qi x3 1))))))))) (some 0)
def jn (m:Nat):=qF (λ _ _ _ _=>none) λ ih=>qbj m ih
def Q4:Nat→Z48:=qe (λ _=>none) λ m _=>qbl m (jn m m)
def qrW (m:Nat) (a0:Y8) (a1:TL):Z21 :=
 some (T.mk 3 a0 0 a1)
def qby:Nat→Z49:=qe (λ _ _=>none) λ m _=>qrW m
def qce (m:Nat) (K1:Z50) (K2 K3:Z51) (a0:List (T × Int)):Z30 :=
 qa (Q4 m a0) λ v1=>cond (qb (ieq v1 0)) (some (T.mk 0 [] 0 [],v1)) (K1 a0 (List.length a0) 0 0 [] 0 [] [] [])
def qcc (m:Nat) (K1:Z50) (K2 K3:Z51) (x0:List (T × Int)) (x1 x2 x3:Int) (x4:List UInt8) (x5:Int) (x6 x7 x8:List (T)):Z30 :=
 let j1:Z30:=(some (T.mk 0 [] 0 [],3));cond (ilt x2 x1) (qa (qd x0 x2) λ v1=>cond (ilt 8 v1.2) j1 (cond (ilt v1.2 (-8)) j1 (K2 x0 x1 x2 v1.2 0 x3 x4 x5 (T.kind v1.1) (T.name v1.1) (T.sort v1.1)
 (T.kids v1.1) v1.2 x6 x7 x8))) (qa (zd m [x7,x8]) λ v2=>cond (ilt 8 (List.length v2)) j1 (qa (qby m [109,117,108] v2) λ v3=>cond (ieq (List.length v2) 0)
 (qa (qby m [111,110,101] []) λ v4=>qa (zc m (re v4)) λ v5=>cond (qb (ieq v5 0)) (some (T.mk 0 [] 0 [],v5)) (some (re v4,0))) (cond (ieq (List.length v2) 1)
 (qa (qd v2 0) λ v6=>qa (zc m (re v6)) λ v7=>cond (qb (ieq v7 0)) (some (T.mk 0 [] 0 [],v7)) (some (re v6,0))) (qa (zc m (re v3)) λ v8=>cond (qb (ieq v8 0))
 (some (T.mk 0 [] 0 [],v8)) (some (re v3,0))))))
def qbW (m:Nat) (K1:Z50) (K2 K3:Z51) (x0:List (T × Int)) (x1 x2 x3 x4 x5:Int) (x6:List UInt8) (x7 x8:Int) (x9:List UInt8) (x10:Int) (x11:List (T)) (x12:Int) (x13 x14 x15:List (T)):Z30 :=
 cond (ilt x4 x3) (qa (zb m (T.mk x8 x9 x10 x11)) λ v1=>cond (zL (List.length x14+1) 56) (K2 x0 x1 x2 x3 (iw .i64 (qi x4 1)) x5 x6 x7 x8 x9 x10 x11 x12 x13 (x14++[re v1]) x15) none)
 (K3 x0 x1 x2 (iw .i64 (QD 0 x12)) 0 x5 x6 x7 x8 x9 x10 x11 x12 x13 x14 x15)
def qcd (m:Nat) (K1:Z50) (K2 K3:Z51) (x0:List (T × Int)) (x1 x2 x3 x4 x5:Int) (x6:List UInt8) (x7 x8:Int) (x9:List UInt8) (x10:Int) (x11:List (T)) (x12:Int) (x13 x14 x15:List (T)):Z30 :=
 cond (ilt x4 x3) (qa (zb m (T.mk x8 x9 x10 x11)) λ v1=>qa (qby m [105,110,118] [re v1]) λ v2=>cond (zL (List.length x15+1) 56)
 (K3 x0 x1 x2 x3 (iw .i64 (qi x4 1)) x5 x6 x7 x8 x9 x10 x11 x12 x13 x14 (x15++[re v2])) none) (K1 x0 x1 (iw .i64 (qi x2 1)) x5 x6 x7 x13 x14 x15)
def qu (m:Nat):=qF ((λ _ _ _ _ _ _ _ _ _=>none,λ _ _ _ _ _ _ _ _ _ _ _ _ _ _ _ _=>none,λ _ _ _ _ _ _ _ _ _ _ _ _ _ _ _ _=>none)) λ ih=>(qcc m ih.1 ih.2.1 ih.2.2,qbW m ih.1 ih.2.1 ih.2.2,qcd m ih.1 ih.2.1 ih.2.2)
def jF:Nat→Z52:=qe (λ _=>none) λ m _=>qce m (qu m m).1 (qu m m).2.1 (qu m m).2.2
def qax (m:Nat) (K1:Z53) (a0:List (T × Int)):Z41 :=
 K1 a0 (List.length a0) 0 []
def qay (m:Nat) (K1:Z53) (x0:List (T × Int)) (x1 x2:Int) (x3:List (T × Int)):Z41 :=
 cond (ilt x2 x1) (qa (qd x0 x2) λ v1=>qa (zb m (re v1.1)) λ v2=>cond (zL (List.length x3+1) 64) (K1 x0 x1 (iw .i64 (qi x2 1)) (x3++[(re v2,v1.2)])) none) (some ((()),(x3,())))
def jx (m:Nat):=qF (λ _ _ _ _=>none) λ ih=>qay m ih
def qaH:Nat→(Z39→Z41):=qe (λ _=>none) λ m _=>qax m (jx m m)
def qbS (m:Nat) (a0:T × Int):Z1 :=
 cond (ilt a0.2 (-1000)) (some true) (some (ilt 1000 a0.2))
def JI:Nat→((T × Int)→Z1):=qe (λ _=>none) λ m _=>qbS m
def zo (m:Nat) (K1:Z54) (a0:List (T × Int)):Z10 :=
 K1 a0 (List.length a0) 0
def qO (m:Nat) (K1:Z54) (x0:List (T × Int)) (x1 x2:Int):Z10 :=
 cond (ilt x2 x1) (qa (qd x0 x2) λ v1=>qa (JI m (re v1.1,v1.2)) λ v2=>cond v2 (some x2) (K1 x0 x1 (iw .i64 (qi x2 1)))) (some (-1))
def qv (m:Nat):=qF (λ _ _ _=>none) λ ih=>qO m ih
def qX:Nat→Z48:=qe (λ _=>none) λ m _=>zo m (qv m m)
def zM (m:Nat) (a0:List (T × Int)):Z1 :=
 qa (qX m a0) λ v1=>some (ile 0 v1)
def qN:Nat→(Z39→Z1):=qe (λ _=>none) λ m _=>zM m
def qc7 (m:Nat) (a0:List (T × Int)):Z45 :=
 qa (qN m a0) λ v1=>cond v1 (some ([],7)) (cond (ilt 200 (List.length a0)) (some ([],3)) (some (a0,0)))
def qaJ:Nat→(Z39→Z45):=qe (λ _=>none) λ m _=>qc7 m
def qcK (m:Nat) (K1:Z55) (a0 a1:List (T × Int)):Z45 :=
 qa (Q4 m a0) λ v1=>cond (qb (ieq v1 0)) (some ([],v1)) (qa (Q4 m a1) λ v2=>cond (qb (ieq v2 0)) (some ([],v2)) (qa (qaH m a0) λ v3 =>
 K1 a1 (List.length a1) 0 v3.2.1))
def qcF (m:Nat) (K1:Z55) (x0:List (T × Int)) (x1 x2:Int) (x3:List (T × Int)):Z45 :=
 cond (ilt x2 x1) (qa (qd x0 x2) λ v1=>qa (Jt m x3 (re v1.1,v1.2)) λ v2=>K1 x0 x1 (iw .i64 (qi x2 1)) v2.2.1) (qa (qaJ m x3) λ v3=>some (v3.1,v3.2))
def Q6 (m:Nat):=qF (λ _ _ _ _=>none) λ ih=>qcF m ih
def qc5:Nat→Z56:=qe (λ _ _=>none) λ m _=>qcK m (Q6 m m)
def qw3 (m:Nat) (a0:Y8) (a1:TL):Z21 :=
 some (T.mk 3 a0 0 a1)
def qdZ:Nat→Z49:=qe (λ _ _=>none) λ m _=>qw3 m
def qgh (m:Nat) (a0 a1:T):Z30 :=
 qa (JY m (re a1)) λ v1=>cond (qb (ieq v1.2 0)) (some (T.mk 0 [] 0 [],v1.2)) (qa (yx m (re a0) [101,120,112]) λ v2=>cond v2 (qa (qd (T.kids a0) 1) λ v3 =>
 qa (JY m (re v3)) λ v4=>cond (qb (ieq v4.2 0)) (some (T.mk 0 [] 0 [],v4.2)) (qa (qc5 m v4.1 v1.1) λ v5=>cond (qb (ieq v5.2 0)) (some (T.mk 0 [] 0 [],v5.2))
 (qa (qd (T.kids a0) 0) λ v6=>cond (ieq (List.length v5.1) 0) (some (re v6,0)) (qa (jF m v5.1) λ v7=>cond (qb (ieq v7.2 0)) (some (T.mk 0 [] 0 [],v7.2))
 (qa (qdZ m [101,120,112] [re v6,re v7.1]) λ v8=>some (re v8,0)))))) (cond (ieq (List.length v1.1) 0) (some (re a0,0)) (qa (jF m v1.1) λ v9=>cond (qb (ieq v9.2 0))
 (some (T.mk 0 [] 0 [],v9.2)) (qa (qdZ m [101,120,112] [re a0,re v9.1]) λ v10=>some (re v10,0)))))
def qdg:Nat→Z57:=qe (λ _ _=>none) λ m _=>qgh m
def qbU (m:Nat) (q_theory_normal:Z58) (K1:Z59) (a0:T):Z30 :=
 cond (qb (ieq (T.kind a0) 3)) (some (re a0,0)) (K1 (T.kids a0) (List.length (T.kids a0)) 0 (T.kind a0) (T.name a0) (T.sort a0) (T.kids a0) 0 [] 0 3 (T.name a0) 0 [] [])
def qbO (m:Nat) (q_theory_normal:Z58) (K1:Z59) (x0:List (T)) (x1 x2 x3:Int) (x4:List UInt8) (x5:Int) (x6:List (T)) (x7:Int) (x8:List UInt8) (x9 x10:Int) (x11:List UInt8) (x12:Int) (x13 x14:List (T)):Z30 :=
 cond (ilt x2 x1) (qa (qd x0 x2) λ v1=>qa (q_theory_normal (re v1)) λ v2=>cond (qb (ieq v2.2 0)) (some (T.mk 0 [] 0 [],v2.2)) (cond (zL (List.length x14+1) 56)
 (K1 x0 x1 (iw .i64 (qi x2 1)) x3 x4 x5 x6 x7 x8 x9 x10 x11 x12 x13 (x14++[re v2.1])) none)) (let j1:Z30:=(qa (J1 m (T.mk x10 x11 x12 x14)) λ v3=>some (re v3,0));
 cond (qA x4 [102,115,116]) j1 (cond (qA x4 [115,110,100]) j1 (cond (qA x4 [100,101,99]) j1 (cond (qA x4 [97,100,101,99]) j1 (cond (qA x4 [111,112,101,110]) j1 (cond (qA x4 [114,101,97,100]) j1 (cond (qA x4 [120,111,114])
 (qa (qle m x14) λ v9=>some (re v9.1,v9.2)) (let j2:Z30:=(qa (JY m (T.mk x10 x11 x12 x14)) λ v10=>cond (qb (ieq v10.2 0)) (some (T.mk 0 [] 0 [],v10.2))
 (qa (jF m v10.1) λ v11=>some (re v11.1,v11.2)));cond (qA x4 [109,117,108]) j2 (cond (qA x4 [105,110,118]) j2 (cond (qA x4 [111,110,101]) j2 (cond (qA x4 [101,120,112])
 (qa (qd x14 0) λ v16=>qa (qd x14 1) λ v17=>qa (qdg m (re v16) (re v17)) λ v18=>some (re v18.1,v18.2)) (some (T.mk x10 x11 x12 x14,0)))))))))))))
def Qe (m:Nat) (q_theory_normal:Z58):=qF (λ _ _ _ _ _ _ _ _ _ _ _ _ _ _ _=>none) λ ih=>qbO m q_theory_normal ih
def zP:Nat→Z58:=qe (λ _=>none) λ m q_theory_normal=>qbU m q_theory_normal (Qe m q_theory_normal m)
def qfa (m:Nat) (a0:T):Z30 :=
 qa (qdz m (re a0)) λ v1=>cond (qb (ieq v1 0)) (some (T.mk 0 [] 0 [],v1)) (qa (zP m (re a0)) λ v2=>cond (ieq v2.2 0) (qa (zc m (re v2.1)) λ v3=>cond (qb (ieq v3 0))
 (some (T.mk 0 [] 0 [],v3)) (some (re v2.1,0))) (cond (qb (ieq v2.2 0)) (some (T.mk 0 [] 0 [],v2.2)) (some (re v2.1,0))))
def qck:Nat→Z58:=qe (λ _=>none) λ m _=>qfa m
def qep (m:Nat) (a0:Y8):Z1 :=
 qa (qaw m a0) λ v1=>some (qb (ieq v1.2.2.2 3))
def qbt:Nat→Z5:=qe (λ _=>none) λ m _=>qep m
def Jr (m:Nat) (q_theory_every_of_94:Z36) (K1:Z60) (a0:T):Z1 :=
 cond (ieq (T.kind a0) 3) (qa (qbt m (T.name a0)) λ v1=>cond (qb v1) (some false) (K1 (T.kids a0) (List.length (T.kids a0)) 0)) (K1 (T.kids a0) (List.length (T.kids a0)) 0)
def Jv (m:Nat) (q_theory_every_of_94:Z36) (K1:Z60) (x0:List (T)) (x1 x2:Int):Z1 :=
 cond (ilt x2 x1) (qa (qd x0 x2) λ v1=>qa (q_theory_every_of_94 (re v1)) λ v2=>cond (qb v2) (some false) (K1 x0 x1 (iw .i64 (qi x2 1)))) (some true)
def ym (m:Nat) (q_theory_every_of_94:Z36):=qF (λ _ _ _=>none) λ ih=>Jv m q_theory_every_of_94 ih
def qI:Nat→Z36:=qe (λ _=>none) λ m q_theory_every_of_94=>Jr m q_theory_every_of_94 (ym m q_theory_every_of_94 m)
def qf2 (m:Nat) (a0:T):Z1 :=
 qa (qck m (re a0)) λ v1=>cond (ieq v1.2 0) (qa (Qc m (re v1.1) (re a0)) λ v2=>cond v2 (qa (qI m (re a0)) λ v3=>some v3) (some false)) (some false)
def qdc:Nat→Z36:=qe (λ _=>none) λ m _=>qf2 m
def qao (m:Nat) (a0:T) (a1:Int) (a2:List (T)):Z61 :=
 cond (ieq (T.kind a0) a1) (cond (zL (List.length a2+1) 56) (qa (qd (a2++[T.mk 0 [] 0 []]) (List.length a2)) λ v1=>some ((a1,jO (a2++[T.mk 0 [] 0 []]) (List.length a2) (re a0),()),(()))) none)
 (some ((a1,a2,()),(())))
def Qs:Nat→Z62:=qe (λ _ _ _=>none) λ m _=>qao m
def JT (m:Nat) (q_term_walk_of_128c:Z62) (K1:Z63) (a0:T) (a1_0:Int) (a1_1:List (T)):Z61 :=
 qa (Qs m (re a0) a1_0 a1_1) λ v1=>K1 (T.kids a0) (List.length (T.kids a0)) 0 v1.1.1 v1.1.2.1
def JQ (m:Nat) (q_term_walk_of_128c:Z62) (K1:Z63) (x0:List (T)) (x1 x2 x3:Int) (x4:List (T)):Z61 :=
 cond (ilt x2 x1) (qa (qd x0 x2) λ v1=>qa (q_term_walk_of_128c (re v1) x3 x4) λ v2=>K1 x0 x1 (iw .i64 (qi x2 1)) v2.1.1 v2.1.2.1) (some ((x3,x4,()),(())))
def yY (m:Nat) (q_term_walk_of_128c:Z62):=qF (λ _ _ _ _ _=>none) λ ih=>JQ m q_term_walk_of_128c ih
def q9:Nat→Z62:=qe (λ _ _ _=>none) λ m q_term_walk_of_128c=>JT m q_term_walk_of_128c (yY m q_term_walk_of_128c m)
def qQ:Nat→List (T)→Option (List (T)):=qe (λ _=>none) λ m _=>qo5 (qt m)
def qeh (m:Nat) (a0 a1:T):Z1 :=
 qa (qt m (re a0) (re a1)) λ v1=>some (ieq v1 0)
def yd:Nat→Z20:=qe (λ _ _=>none) λ m _=>qeh m
def qD:Nat→List (T)→Option (Unit × List (T) × Unit):=qe (λ _=>none) λ m _=>qsC (yd m)
def qcO (m:Nat) (K1:Z65) (a0:List (T)):Z64 :=
 qa (qQ m a0) λ v1=>cond (Nat.beq (List.length v1) (List.length a0)) (qa (qD m v1) λ v2=>K1 (List.length v2.2.1) 0 v2.2.1) none
def qcV (m:Nat) (K1:Z65) (x0 x1:Int) (x2:List (T)):Z64 :=
 cond (ilt x1 x0) (qa (qd x2 x1) λ v1=>qa (yn m (re v1)) λ v2=>qa (qd x2 x1) λ v3=>K1 x0 (iw .i64 (qi x1 1)) (jO x2 x1 (re v2))) (some ((()),(x2,())))
def QW (m:Nat):=qF (λ _ _ _=>none) λ ih=>qcV m ih
def qdp:Nat→(Z8→Z64):=qe (λ _=>none) λ m _=>qcO m (QW m m)
def qgH (m:Nat) (a0:T) (a1:Int):Z23 :=
 qa (q9 m (re a0) a1 []) λ v1=>qa (qdp m v1.1.2.1) λ v2=>some v2.2.1
def qg6:Nat→(T→Int→Z23):=qe (λ _ _=>none) λ m _=>qgH m
def qjj (m:Nat) (a0:T):Z23 :=
 qa (qg6 m (re a0) 1) λ v1=>some v1
def qg7:Nat→Z27:=qe (λ _=>none) λ m _=>qjj m
def qe3 (m:Nat) (a0:T):Z1 :=
 qa (qdc m (re a0)) λ v1=>cond v1 (qa (qg7 m (re a0)) λ v2=>some (ieq (List.length v2) 0)) (some false)
def yV:Nat→Z36:=qe (λ _=>none) λ m _=>qe3 m
def qiy (m:Nat) (K1:Z66) (a0:T) (a1:List Int):Z30 :=
 K1 a1 (List.length a1) 0 (T.kind a0) (T.name a0) (T.sort a0) (T.kids a0) 0 [] 0 []
def qly (m:Nat) (K1:Z66) (x0:List (Int)) (x1 x2 x3:Int) (x4:List UInt8) (x5:Int) (x6:List (T)) (x7:Int) (x8:List UInt8) (x9:Int) (x10:List (T)):Z30 :=
 cond (ilt x2 x1) (qa (qd x0 x2) λ v1=>cond (ilt v1 0) (some (T.mk 0 [] 0 [],7)) (cond (ile (List.length x6) v1) (some (T.mk 0 [] 0 [],7)) (qa (qd x6 v1) λ v2=>K1 x0 x1 (iw .i64 (qi x2 1))
 (T.kind v2) (T.name v2) (T.sort v2) (T.kids v2) x7 x8 x9 x10))) (qa (yn m (T.mk x3 x4 x5 x6)) λ v3=>some (re v3,0))
def qfk (m:Nat):=qF (λ _ _ _ _ _ _ _ _ _ _ _=>none) λ ih=>qly m ih
def qlx:Nat→(T→(List Int)→Z30):=qe (λ _ _=>none) λ m _=>qiy m (qfk m m)
def qen (m:Nat) (a0:T):Z21 :=
 qa (qlx m (re a0) []) λ v1=>some (re v1.1)
def zC:Nat→Z22:=qe (λ _=>none) λ m _=>qen m
def quF (m:Nat) (a0:T):Z67 :=
 qa (yV m (re a0)) λ v1=>cond (qb v1) (some ((T.mk 0 [] 0 [],(0,([],0))),10)) (qa (zC m (re a0)) λ v2=>some ((re v2,(0,([],4))),0))
def qkx:Nat→Z68:=qe (λ _=>none) λ m _=>quF m
def qnw (m:Nat) (a0 a1:T):Z21 :=
 qa (zC m (re a0)) λ v1=>qa (zC m (re a1)) λ v2=>some (T.mk 3 [104,97,115,104] 0 [T.mk 3 [112,97,105,114] 0 [re v1,re v2]])
def qaS:Nat→(T→T→Z21):=qe (λ _ _=>none) λ m _=>qnw m
def quf (m:Nat) (a0:Y8):Z21 :=
 some (T.mk 2 a0 5 [])
def qgZ:Nat→(Y8→Z21):=qe (λ _=>none) λ m _=>quf m
def qs8 (m:Nat) (a0:T):Z21 :=
 qa (qgZ m [99,104,97,105,110]) λ v1=>qa (qaS m (re a0) (re v1)) λ v2=>some (re v2)
def qc2:Nat→Z22:=qe (λ _=>none) λ m _=>qs8 m
def qu1 (m:Nat) (a0:T):Z21 :=
 qa (qgZ m [109,101,115,115,97,103,101]) λ v1=>qa (qaS m (re a0) (re v1)) λ v2=>some (re v2)
def qeC:Nat→Z22:=qe (λ _=>none) λ m _=>qu1 m
def qkP (m:Nat) (K1:Z69) (a0:T) (a1:Int):Z30 :=
 qa (yV m (re a0)) λ v1=>cond (qb v1) (some (T.mk 0 [] 0 [],10)) (cond (ilt a1 0) (some (T.mk 0 [] 0 [],7)) (cond (ile 1000 a1) (some (T.mk 0 [] 0 [],7)) (qa (zC m (re a0)) λ v2 =>
 K1 a1 0 0 [] 0 (T.kind v2) (T.name v2) (T.sort v2) (T.kids v2) [])))
def qud (m:Nat) (K1:Z69) (x0 x1 x2:Int) (x3:List UInt8) (x4 x5:Int) (x6:List UInt8) (x7:Int) (x8 x9:List (T)):Z30 :=
 cond (ilt x1 x0) (qa (qc2 m (T.mk x5 x6 x7 x8)) λ v1=>qa (zc m (re v1)) λ v2=>cond (qb (ieq v2 0)) (some (T.mk 0 [] 0 [],3)) (K1 x0 (iw .i64 (qi x1 1)) x2 x3 x4 (T.kind v1)
 (T.name v1) (T.sort v1) (T.kids v1) x9)) (qa (qeC m (T.mk x5 x6 x7 x8)) λ v3=>qa (zc m (re v3)) λ v4=>cond (qb (ieq v4 0)) (some (T.mk 0 [] 0 [],3)) (some (re v3,0)))
def qmT (m:Nat):=qF (λ _ _ _ _ _ _ _ _ _ _=>none) λ ih=>qud m ih
def qgY:Nat→(T→Int→Z30):=qe (λ _ _=>none) λ m _=>qkP m (qmT m m)
def qfM (m:Nat) (a0 a1:Int):Z10 :=
 cond (ilt a0 a1) (some (-1)) (cond (ilt a1 a0) (some 1) (some 0))
def Jp:Nat→(Int→Int→Z10):=qe (λ _ _=>none) λ m _=>qfM m
def qeJ (m:Nat) (q_ref01_Size:Z11) (K1:Z70) (a0:T):Z10 :=
 K1 1 0 (T.kind a0) (T.name a0) (T.sort a0) (T.kids a0)
def qeU (m:Nat) (q_ref01_Size:Z11) (K1:Z70) (x0 x1 x2:Int) (x3:List UInt8) (x4:Int) (x5:List (T)):Z10 :=
 cond (ilt x1 (List.length x5)) (qa (qd x5 x1) λ v1=>qa (q_ref01_Size (re v1)) λ v2=>K1 (iw .i64 (qi x0 v2)) (iw .i64 (qi x1 1)) x2 x3 x4 x5) (some x0)
def qae (m:Nat) (q_ref01_Size:Z11):=qF (λ _ _ _ _ _ _=>none) λ ih=>qeU m q_ref01_Size ih
def yA:Nat→Z11:=qe (λ _=>none) λ m q_ref01_Size=>qeJ m q_ref01_Size (qae m q_ref01_Size m)
def qb7 (m:Nat) (q_ref01_Compare:Z18) (K1:Z71) (a0 a1:T):Z10 :=
 qa (yA m (re a0)) λ v1=>qa (yA m (re a1)) λ v2=>qa (Jp m v1 v2) λ v3=>cond (qb (ieq v3 0)) (some v3) (qa (Jp m (T.kind a0) (T.kind a1)) λ v4 =>
 cond (qb (ieq v4 0)) (some v4) (cond (slt (T.name a0) (T.name a1)) (some (-1)) (cond (qb (qoa (slt (T.name a0) (T.name a1)) (qA (T.name a0) (T.name a1)))) (some 1) (qa (Jp m (T.sort a0)
 (T.sort a1)) λ v5=>cond (qb (ieq v5 0)) (some v5) (qa (Jp m (List.length (T.kids a0)) (List.length (T.kids a1))) λ v6=>cond (qb (ieq v6 0)) (some v6) (K1 0 (T.kind a0) (T.name a0) (T.sort a0)
 (T.kids a0) (T.kind a1) (T.name a1) (T.sort a1) (T.kids a1)))))))
def qb3 (m:Nat) (q_ref01_Compare:Z18) (K1:Z71) (x0 x1:Int) (x2:List UInt8) (x3:Int) (x4:List (T)) (x5:Int) (x6:List UInt8) (x7:Int) (x8:List (T)):Z10 :=
 cond (ilt x0 (List.length x4)) (qa (qd x4 x0) λ v1=>qa (qd x8 x0) λ v2=>qa (q_ref01_Compare (re v1) (re v2)) λ v3=>cond (qb (ieq v3 0)) (some v3)
 (K1 (iw .i64 (qi x0 1)) x1 x2 x3 x4 x5 x6 x7 x8)) (some 0)
def Qf (m:Nat) (q_ref01_Compare:Z18):=qF (λ _ _ _ _ _ _ _ _ _=>none) λ ih=>qb3 m q_ref01_Compare ih
def zj:Nat→Z18:=qe (λ _ _=>none) λ m q_ref01_Compare=>qb7 m q_ref01_Compare (Qf m q_ref01_Compare m)
def qhE (m:Nat) (a0 a1:T):Z1 :=
 qa (zj m (re a0) (re a1)) λ v1=>some (ieq v1 0)
def yB:Nat→Z20:=qe (λ _ _=>none) λ m _=>qhE m
def qb1 (m:Nat) (K1:Z73) (a0:T × (Int × ((List (Int × T)) × Int))):Z10 :=
 qa (yV m (re a0.1)) λ v1=>cond (qb v1) (some 1) (cond (ilt a0.2.1 0) (some 1) (cond (ilt 1000 a0.2.1) (some 1) (cond (ilt a0.2.2.2 0) (some 1) (cond (ilt 8 a0.2.2.2) (some 1)
 (cond (ilt a0.2.2.2 (List.length a0.2.2.1)) (some 1) (K1 (-1) a0.2.2.1 (List.length a0.2.2.1) 0 (T.kind a0.1) (T.name a0.1) (T.sort a0.1) (T.kids a0.1) a0.2.1 a0.2.2.1 a0.2.2.2))))))
def qb5 (m:Nat) (K1:Z73) (x0:Int) (x1:List (Int × T)) (x2 x3 x4:Int) (x5:List UInt8) (x6:Int) (x7:List (T)) (x8:Int) (x9:List (Int × T)) (x10:Int):Z10 :=
 cond (ilt x3 x2) (qa (qd x1 x3) λ v1=>cond (ile v1.1 x0) (some 1) (cond (ile x8 v1.1) (some 1) (qa (yV m (re v1.2)) λ v2=>cond (qb v2) (some 1)
 (K1 v1.1 x1 x2 (iw .i64 (qi x3 1)) x4 x5 x6 x7 x8 x9 x10)))) (some 0)
def Qd (m:Nat):=qF (λ _ _ _ _ _ _ _ _ _ _ _=>none) λ ih=>qb5 m ih
def jp:Nat→Z75:=qe (λ _=>none) λ m _=>qb1 m (Qd m m)
def qlb (m:Nat) (K1:Z77) (a0:T × (Int × ((List (Int × T)) × Int))):Z76 :=
 qa (zC m (re a0.1)) λ v1=>K1 a0.2.2.1 (List.length a0.2.2.1) 0 (T.kind v1) (T.name v1) (T.sort v1) (T.kids v1) a0.2.1 a0.2.2.1 a0.2.2.2 0 [] 0 0 0 [] [] []
def quy (m:Nat) (K1:Z77) (x0:List (Int × T)) (x1 x2 x3:Int) (x4:List UInt8) (x5:Int) (x6:List (T)) (x7:Int) (x8:List (Int × T)) (x9 x10:Int) (x11:List UInt8) (x12 x13 x14:Int) (x15:List (T)) (x16 x17:List (Int × T)):Z76 :=
 cond (ilt x2 x1) (qa (qd x0 x2) λ v1=>qa (zC m (re v1.2)) λ v2=>cond (zL (List.length x17+1) 64)
 (K1 x0 x1 (iw .i64 (qi x2 1)) x3 x4 x5 x6 x7 x8 x9 x10 x11 x12 x13 x14 x15 x16 (x17++[(v1.1,re v2)])) none) (some ((()),((T.mk x3 x4 x5 x6,x7,x17,x9,()),())))
def qm8 (m:Nat):=qF (λ _ _ _ _ _ _ _ _ _ _ _ _ _ _ _ _ _ _=>none) λ ih=>quy m ih
def qeA:Nat→(Z74→Z76):=qe (λ _=>none) λ m _=>qlb m (qm8 m m)
def qpw (m:Nat) (a0 a1:T):Z78 :=
 let j1:Z78:=(some (T.mk 0 [] 0 [],false));cond (qb (ieq (T.kind a0) 3)) j1 (cond (qb (qA (T.name a0) [101,110,99])) j1 (qa (qd (T.kids a0) 1) λ v1=>qa (qt m (re v1)
 (re a1)) λ v2=>cond (qb (ieq v2 0)) j1 (qa (qd (T.kids a0) 0) λ v3=>qa (zC m (re v3)) λ v4=>some (re v4,true))))
def qdI:Nat→(T→T→Z78):=qe (λ _ _=>none) λ m _=>qpw m
def qhr (m:Nat) (K1:Z80) (a0:T × (Int × ((List (Int × T)) × Int))) (a1:Int × T):Z79 :=
 qa (jp m (re a0.1,(a0.2.1,(a0.2.2.1,a0.2.2.2)))) λ v1=>cond (qb (ieq v1 0)) (some ((T.mk 0 [] 0 [],(0,([],0))),T.mk 0 [] 0 [],1)) (qa (yV m (re a1.2)) λ v2=>cond (qb v2)
 (some ((T.mk 0 [] 0 [],(0,([],0))),T.mk 0 [] 0 [],10)) (qa (qeA m (re a0.1,(a0.2.1,(a0.2.2.1,a0.2.2.2)))) λ v3=>cond (ilt a1.1 a0.2.1)
 (qa (yN 0 v3.2.1.2.2.1 (a1.1,re a1.2)) λ v4=>cond (ilt v4 0) (some ((T.mk 0 [] 0 [],(0,([],0))),T.mk 0 [] 0 [],21)) (qa (qd v3.2.1.2.2.1 v4) λ v5 =>
 qa (qdI m (re a1.2) (re v5.2)) λ v6=>cond (qb v6.2) (some ((T.mk 0 [] 0 [],(0,([],0))),T.mk 0 [] 0 [],11))
 (qa (yX 0 v3.2.1.2.2.1 v4 (iw .i64 (qi v4 1))) λ v7=>some ((re v3.2.1.1,(v3.2.1.2.1,(v7.2.1,v3.2.1.2.2.2.1))),re v6.1,0)))) (cond (ilt (iw .i64 (qi a0.2.1 a0.2.2.2)) a1.1)
 (some ((T.mk 0 [] 0 [],(0,([],0))),T.mk 0 [] 0 [],7)) (cond (ile 1000 a1.1) (some ((T.mk 0 [] 0 [],(0,([],0))),T.mk 0 [] 0 [],7)) (K1 a1.1 (T.kind a1.2) (T.name a1.2) (T.sort a1.2)
 (T.kids a1.2) 0 [] 0 0 0 0 [] 0 (T.kind v3.2.1.1) (T.name v3.2.1.1) (T.sort v3.2.1.1) (T.kids v3.2.1.1) v3.2.1.2.1 v3.2.1.2.2.2.1 [] [] [] v3.2.1.2.2.1)))))
def qoC (m:Nat) (K1:Z80) (x0 x1:Int) (x2:List UInt8) (x3:Int) (x4:List (T)) (x5:Int) (x6:List UInt8) (x7 x8 x9 x10:Int) (x11:List UInt8) (x12 x13:Int) (x14:List UInt8) (x15:Int) (x16:List (T)) (x17 x18:Int) (x19:List (T)) (x20:List (Int × T)) (x21:List (T)) (x22:List (Int × T)):Z79 :=
 qa (qeC m (T.mk x13 x14 x15 x16)) λ v1=>qa (qc2 m (T.mk x13 x14 x15 x16)) λ v2=>qa (zc m (re v1)) λ v3=>cond (qb (ieq v3 0))
 (some ((T.mk 0 [] 0 [],(0,([],0))),T.mk 0 [] 0 [],3)) (qa (zc m (re v2)) λ v4=>cond (qb (ieq v4 0)) (some ((T.mk 0 [] 0 [],(0,([],0))),T.mk 0 [] 0 [],3)) (cond (ieq x17 x0)
 (qa (qdI m (T.mk x1 x2 x3 x4) (re v1)) λ v5=>cond (qb v5.2) (some ((T.mk 0 [] 0 [],(0,([],0))),T.mk 0 [] 0 [],11)) (some ((re v2,(iw .i64 (qi x17 1),(x22,x18))),re v5.1,0)))
 (cond (zL (List.length x22+1) 64) (cond (ilt x18 (List.length (x22++[(x17,re v1)]))) none (K1 x0 x1 x2 x3 x4 x5 x6 x7 x8 x9 x10 x11 x12 (T.kind v2) (T.name v2) (T.sort v2) (T.kids v2)
 (iw .i64 (qi x17 1)) x18 x19 x20 x21 (x22++[(x17,re v1)]))) none)))
def qh0 (m:Nat):=qF (λ _ _ _ _ _ _ _ _ _ _ _ _ _ _ _ _ _ _ _ _ _ _ _=>none) λ ih=>qoC m ih
def qaN:Nat→(Z74→(Int × T)→Z79):=qe (λ _ _=>none) λ m _=>qhr m (qh0 m m)
def qwa (m:Nat) (a0:Y8) (a1:Int):Z21 :=
 some (T.mk 2 a0 a1 [])
def qfw:Nat→(Y8→Int→Z21):=qe (λ _ _=>none) λ m _=>qwa m
def qwN (m:Nat):Z21 :=
 qa (qfw m [114] 2) λ v1=>some (re v1)
def qdL:Nat→(Z21):=qe (none) λ m _=>qwN m
def qfP (m:Nat) (a0:Int):Z1 :=
 let j1:Z1:=(cond (ile 65 a0) (some (ile a0 90)) (some false));cond (ile 97 a0) (cond (ile a0 122) (some true) j1) j1
def J9:Nat→Z2:=qe (λ _=>none) λ m _=>qfP m
def qgx (m:Nat) (a0:Int):Z1 :=
 cond (ile 48 a0) (some (ile a0 57)) (some false)
def qcr:Nat→Z2:=qe (λ _=>none) λ m _=>qgx m
def qm4 (m:Nat) (K1:Z82) (a0:Y8):Z81 :=
 K1 a0 0
def qw6 (m:Nat) (K1:Z82) (x0:List UInt8) (x1:Int):Z81 :=
 let j1:Z81:=(cond (inb x1 (List.length x0)) (cond (inb 0 (Int.toNat x1)) (some (y8 x0 0 x1)) none) none);cond (ilt x1 (List.length x0)) (qa (qd x0 x1) λ v1 =>
 qa (J9 m ((UInt8.toNat v1:Nat):Int)) λ v2=>let j2:Z81:=(K1 x0 (iw .i64 (qi x1 1)));cond v2 j2 (qa (qd x0 x1) λ v3=>qa (qcr m ((UInt8.toNat v3:Nat):Int)) λ v4 =>
 cond v4 j2 (qa (qd x0 x1) λ v5=>cond (ieq ((UInt8.toNat v5:Nat):Int) 95) j2 (qa (qd x0 x1) λ v6=>cond (ieq ((UInt8.toNat v6:Nat):Int) 35) j2 j1)))) j1
def qnG (m:Nat):=qF (λ _ _=>none) λ ih=>qw6 m ih
def qfE:Nat→(Y8→Z81):=qe (λ _=>none) λ m _=>qm4 m (qnG m m)
def qcS (m:Nat) (K1:Z83) (a0:Y8):Z1 :=
 cond (ieq (List.length a0) 0) (some false) (cond (ilt 24 (List.length a0)) (some false) (qa (qd a0 0) λ v1=>qa (J9 m ((UInt8.toNat v1:Nat):Int)) λ v2=>cond (qb v2) (some false) (K1 a0 0)))
def qcR (m:Nat) (K1:Z83) (x0:List UInt8) (x1:Int):Z1 :=
 cond (ilt x1 (List.length x0)) (qa (qd x0 x1) λ v1=>qa (J9 m ((UInt8.toNat v1:Nat):Int)) λ v2=>let j1:Z1:=(K1 x0 (iw .i64 (qi x1 1)));cond (qb v2) (qa (qd x0 x1) λ v3 =>
 qa (qcr m ((UInt8.toNat v3:Nat):Int)) λ v4=>cond (qb v4) (qa (qd x0 x1) λ v5=>cond (qb (ieq ((UInt8.toNat v5:Nat):Int) 95)) (qa (qd x0 x1) λ v6 =>
 cond (qb (ieq ((UInt8.toNat v6:Nat):Int) 35)) (some false) j1) j1) j1) j1) (some true)
def Q9 (m:Nat):=qF (λ _ _=>none) λ ih=>qcR m ih
def Qi:Nat→Z5:=qe (λ _=>none) λ m _=>qcS m (Q9 m m)
def qwU (m:Nat) (a0:Int):Z81 :=
 qa (qd [[97,110,121],[97,103,101,110,116],[110,111,110,99,101],[107,101,121],[100,97,116,97],[116,97,103]] a0) λ v1=>some v1
def qlX:Nat→(Int→Z81):=qe (λ _=>none) λ m _=>qwU m
def qne (m:Nat) (K1:Z85) (a0:T) (a1:Y8):Z84 :=
 cond (ieq (List.length a1) 0) (some (re a0,a1,ieq (T.kind a0) 1)) (qa (qd a1 0) λ v1=>cond (qb (ieq ((UInt8.toNat v1:Nat):Int) 58)) (some (re a0,a1,ieq (T.kind a0) 1)) (cond (inb (List.length a1)
 (List.length a1)) (cond (inb 1 (Int.toNat (List.length a1))) (qa (qfE m (y8 a1 1 (List.length a1))) λ v2=>K1 a1 v2 0 (T.kind a0) (T.name a0) (T.sort a0) (T.kids a0) 0 [] 0 []) none) none))
def qwX (m:Nat) (K1:Z85) (x0 x1:List UInt8) (x2 x3:Int) (x4:List UInt8) (x5:Int) (x6:List (T)) (x7:Int) (x8:List UInt8) (x9:Int) (x10:List (T)):Z84 :=
 cond (ile x2 5) (qa (qlX m x2) λ v1=>cond (qA x1 v1) (let j1:Z84:=(cond (inb (List.length x0) (List.length x0)) (cond (inb (iw .i64 (qi 1 (List.length x1))) (Int.toNat (List.length x0)))
 (some (T.mk x3 x4 x2 x6,y8 x0 (iw .i64 (qi 1 (List.length x1))) (List.length x0),true)) none) none);cond (qb (ieq x2 0)) j1 (cond (ieq x3 2) j1 (K1 x0 x1 (iw .i64 (qi x2 1)) x3 x4 x5 x6 x7 x8 x9 x10)))
 (K1 x0 x1 (iw .i64 (qi x2 1)) x3 x4 x5 x6 x7 x8 x9 x10)) (some (T.mk x3 x4 x5 x6,x0,false))
def qoB (m:Nat):=qF (λ _ _ _ _ _ _ _ _ _ _ _=>none) λ ih=>qwX m ih
def qiq:Nat→(T→Y8→Z84):=qe (λ _ _=>none) λ m _=>qne m (qoB m m)
def qm5 (m:Nat) (q_ref01_read:Z86) (K1:Z87) (a0:Y8) (a1:Int):Z84 :=
 let j1:Z84:=(qa (qfE m a0) λ v5=>qa (Qi m v5) λ v6=>cond (qb v6) (some (T.mk 2 v5 0 [],a0,false)) (cond (ieq a1 0) (some (T.mk 2 v5 0 [],a0,false)) (cond (inb (List.length a0)
 (List.length a0)) (cond (inb (List.length v5) (Int.toNat (List.length a0))) (let j2:Z84:=(qa (qiq m (T.mk 2 v5 0 []) (y8 a0 (List.length v5) (List.length a0))) λ v7 =>
 some (re v7.1,v7.2.1,v7.2.2));cond (ieq (List.length (y8 a0 (List.length v5) (List.length a0))) 0) j2 (qa (qd (y8 a0 (List.length v5) (List.length a0)) 0) λ v8 =>
 cond (qb (ieq ((UInt8.toNat v8:Nat):Int) 40)) j2 (cond (inb (List.length (y8 a0 (List.length v5) (List.length a0))) (List.length (y8 a0 (List.length v5) (List.length a0))))
 (cond (inb 1 (Int.toNat (List.length (y8 a0 (List.length v5) (List.length a0))))) (K1 (y8 (y8 a0 (List.length v5) (List.length a0)) 1 (List.length (y8 a0 (List.length v5)
 (List.length a0)))) a1 0 [] 0 3 v5 0 [] []) none) none))) none) none)));cond (ilt 0 (List.length a0)) (qa (qd a0 0) λ v1=>cond (ieq ((UInt8.toNat v1:Nat):Int) 63) (cond (inb (List.length a0)
 (List.length a0)) (cond (inb 1 (Int.toNat (List.length a0))) (qa (qfE m (y8 a0 1 (List.length a0))) λ v2=>qa (Qi m v2) λ v3=>cond (qb v3)
 (some (T.mk 1 v2 0 [],y8 a0 1 (List.length a0),false)) (cond (ieq a1 0) (some (T.mk 1 v2 0 [],y8 a0 1 (List.length a0),false)) (cond (inb (List.length (y8 a0 1 (List.length a0)))
 (List.length (y8 a0 1 (List.length a0)))) (cond (inb (List.length v2) (Int.toNat (List.length (y8 a0 1 (List.length a0))))) (qa (qiq m (T.mk 1 v2 0 []) (y8 (y8 a0 1 (List.length a0)) (List.length v2)
 (List.length (y8 a0 1 (List.length a0))))) λ v4=>some (re v4.1,v4.2.1,v4.2.2)) none) none))) none) none) j1) j1
def qwr (m:Nat) (q_ref01_read:Z86) (K1:Z87) (x0:List UInt8) (x1 x2:Int) (x3:List UInt8) (x4 x5:Int) (x6:List UInt8) (x7:Int) (x8 x9:List (T)):Z84 :=
 let j1:Z84:=(some (T.mk x5 x6 x7 x9,x0,false));let j2:Z84:=(cond (ieq (List.length x0) 0) j1 (cond (inb (List.length x0) (List.length x0)) (cond (inb 1 (Int.toNat (List.length x0)))
 (some (T.mk x5 x6 x7 x9,y8 x0 1 (List.length x0),true)) none) none));cond (ilt 0 (List.length x0)) (qa (qd x0 0) λ v1=>cond (qb (ieq ((UInt8.toNat v1:Nat):Int) 41)) (cond (ilt 0 (List.length x9))
 (cond (ilt (List.length x0) 2) j1 (cond (inb 2 (List.length x0)) (cond (inb 0 (Int.toNat 2)) (cond (qb (qA (y8 x0 0 2) [44,32])) j1 (cond (inb (List.length x0) (List.length x0))
 (cond (inb 2 (Int.toNat (List.length x0))) (qa (q_ref01_read (y8 x0 2 (List.length x0)) (iw .i64 (QD x1 1))) λ v2=>cond (qb v2.2.2) (some (T.mk x5 x6 x7 x9,y8 x0 2 (List.length x0),false))
 (cond (zL (List.length x9+1) 56) (K1 v2.2.1 x1 x2 x3 x4 x5 x6 x7 x8 (x9++[re v2.1])) none)) none) none)) none) none)) (qa (q_ref01_read x0 (iw .i64 (QD x1 1))) λ v3 =>
 cond (qb v3.2.2) j1 (cond (zL (List.length x9+1) 56) (K1 v3.2.1 x1 x2 x3 x4 x5 x6 x7 x8 (x9++[re v3.1])) none))) j2) j2
def qoI (m:Nat) (q_ref01_read:Z86):=qF (λ _ _ _ _ _ _ _ _ _ _=>none) λ ih=>qwr m q_ref01_read ih
def qgb:Nat→Z86:=qe (λ _ _=>none) λ m q_ref01_read=>qm5 m q_ref01_read (qoI m q_ref01_read m)
def qhI (m:Nat) (a0:T):Z10 :=
 let j1:Z10:=(qa (Qi m (T.name a0)) λ v1=>cond (qb v1) (some 2) (cond (ilt 8 (List.length (T.kids a0))) (some 3) (some 0)));let j2:Z10:=(cond (ilt 0 (List.length (T.kids a0))) (some 1) j1);
 cond (ieq (T.kind a0) 1) (cond (ilt (T.sort a0) 0) (some 1) (cond (ilt 5 (T.sort a0)) (some 1) j2)) (let j3:Z10:=(cond (ilt (T.sort a0) 0) (some 1) (cond (ilt 5 (T.sort a0)) (some 1) (let j4:Z10 :=
 (cond (ieq (T.kind a0) 2) j2 j1);cond (qb (ieq (T.kind a0) 2)) (cond (qb (ieq (T.sort a0) 0)) (some 1) j4) j4)));cond (qb (ieq (T.kind a0) 2)) (cond (qb (ieq (T.kind a0) 3)) (some 1) j3) j3)
def qfB:Nat→Z11:=qe (λ _=>none) λ m _=>qhI m
def qdB (m:Nat) (q_ref01_nodes:Z11) (K1:Z88) (a0:T):Z10 :=
 qa (qfB m (re a0)) λ v1=>cond (qb (ieq v1 0)) (some v1) (K1 0 (T.kind a0) (T.name a0) (T.sort a0) (T.kids a0))
def qdW (m:Nat) (q_ref01_nodes:Z11) (K1:Z88) (x0 x1:Int) (x2:List UInt8) (x3:Int) (x4:List (T)):Z10 :=
 cond (ilt x0 (List.length x4)) (qa (qd x4 x0) λ v1=>qa (q_ref01_nodes (re v1)) λ v2=>cond (qb (ieq v2 0)) (some v2) (K1 (iw .i64 (qi x0 1)) x1 x2 x3 x4)) (some 0)
def JB (m:Nat) (q_ref01_nodes:Z11):=qF (λ _ _ _ _ _=>none) λ ih=>qdW m q_ref01_nodes ih
def yL:Nat→Z11:=qe (λ _=>none) λ m q_ref01_nodes=>qdB m q_ref01_nodes (JB m q_ref01_nodes m)
def qdE (m:Nat) (q_ref01_Depth:Z11) (K1:Z70) (a0:T):Z10 :=
 K1 0 0 (T.kind a0) (T.name a0) (T.sort a0) (T.kids a0)
def qd1 (m:Nat) (q_ref01_Depth:Z11) (K1:Z70) (x0 x1 x2:Int) (x3:List UInt8) (x4:Int) (x5:List (T)):Z10 :=
 cond (ilt x1 (List.length x5)) (qa (qd x5 x1) λ v1=>qa (q_ref01_Depth (re v1)) λ v2=>K1 (qkE x0 v2) (iw .i64 (qi x1 1)) x2 x3 x4 x5) (some (iw .i64 (qi x0 1)))
def JC (m:Nat) (q_ref01_Depth:Z11):=qF (λ _ _ _ _ _ _=>none) λ ih=>qd1 m q_ref01_Depth ih
def yM:Nat→Z11:=qe (λ _=>none) λ m q_ref01_Depth=>qdE m q_ref01_Depth (JC m q_ref01_Depth m)
def qgF (m:Nat) (a0:T):Z10 :=
 qa (yL m (re a0)) λ v1=>cond (qb (ieq v1 0)) (some v1) (qa (yA m (re a0)) λ v2=>cond (ilt 400 v2) (some 3) (qa (yM m (re a0)) λ v3=>cond (ilt 40 v3) (some 3) (some 0)))
def zJ:Nat→Z11:=qe (λ _=>none) λ m _=>qgF m
def qun (m:Nat) (a0:Y8):Z30 :=
 qa (qgb m a0 800) λ v1=>cond (qb v1.2.2) (some (T.mk 0 [] 0 [],2)) (cond (qb (qA v1.2.1 [])) (some (T.mk 0 [] 0 [],2)) (qa (zJ m (re v1.1)) λ v2=>cond (qb (ieq v2 0))
 (some (T.mk 0 [] 0 [],v2)) (some (re v1.1,0))))
def qg1:Nat→(Y8→Z30):=qe (λ _=>none) λ m _=>qun m
def qqn (m:Nat):Z89 :=
 some [([112,97,105,114],(2,(2,1))),([101,110,99],(2,(2,1))),([97,101,110,99],(2,(2,1))),([112,107],(1,(1,1))),([115,105,103,110],(2,(2,1))),([104,97,115,104],(1,(1,1))),([120,111,114],(2,(8,1))),([122,101,114,111],(0,(0,1))),([101,120,112],(2,(2,1))),([109,117,108],(2,(8,1))),([105,110,118],(1,(1,1))),([111,110,101],(0,(0,1))),([115,107],(1,(1,2))),([115,104,107],(2,(2,2))),([110,101,119],(1,(8,2))),([102,115,116],(1,(1,3))),([115,110,100],(1,(1,3))),([100,101,99],(2,(2,3))),([97,100,101,99],(2,(2,3))),([111,112,101,110],(2,(2,3))),([114,101,97,100],(1,(1,3)))]
def qeK:Nat→(Z89):=qe (none) λ m _=>qqn m
def qeM (m:Nat) (K1:Z90) (a0:Y8):Z10 :=
 qa (qeK m) λ v1=>K1 a0 v1 0
def qeO (m:Nat) (K1:Z90) (x0:List UInt8) (x1:List (Y8 × (Int × (Int × Int)))) (x2:Int):Z10 :=
 cond (ilt x2 (List.length x1)) (qa (qd x1 x2) λ v1=>cond (qA v1.1 x0) (qa (qd x1 x2) λ v2=>some v2.2.2.2) (K1 x0 x1 (iw .i64 (qi x2 1)))) (some 0)
def J4 (m:Nat):=qF (λ _ _ _=>none) λ ih=>qeO m ih
def qcf:Nat→(Y8→Z10):=qe (λ _=>none) λ m _=>qeM m (J4 m m)
def qeG (m:Nat) (K1:Z91) (a0:T):Z1 :=
 qa (qeK m) λ v1=>K1 v1 0 (T.kind a0) (T.name a0) (T.sort a0) (T.kids a0)
def qeN (m:Nat) (K1:Z91) (x0:List (Y8 × (Int × (Int × Int)))) (x1 x2:Int) (x3:List UInt8) (x4:Int) (x5:List (T)):Z1 :=
 cond (ilt x1 (List.length x0)) (qa (qd x0 x1) λ v1=>cond (qA v1.1 x3) (qa (qd x0 x1) λ v2=>cond (ile v2.2.1 (List.length x5)) (qa (qd x0 x1) λ v3=>some (ile (List.length x5) v3.2.2.1))
 (some false)) (K1 x0 (iw .i64 (qi x1 1)) x2 x3 x4 x5)) (some false)
def J6 (m:Nat):=qF (λ _ _ _ _ _ _=>none) λ ih=>qeN m ih
def qgf:Nat→Z36:=qe (λ _=>none) λ m _=>qeG m (J6 m m)
def qcL (m:Nat) (K1:Z92) (a0:T):Z1 :=
 cond (qA (T.name a0) [110,101,119]) (qa (qd (T.kids a0) 0) λ v1=>some (ieq (T.kind v1) 2)) (K1 0 (T.kind a0) (T.name a0) (T.sort a0) (T.kids a0))
def qcH (m:Nat) (K1:Z92) (x0 x1:Int) (x2:List UInt8) (x3:Int) (x4:List (T)):Z1 :=
 cond (ilt x0 (List.length x4)) (qa (qd x4 x0) λ v1=>cond (ieq (T.kind v1) 3) (some false) (qa (qd x4 x0) λ v2=>cond (qb (ieq (T.sort v2) 1)) (some false) (K1 (iw .i64 (qi x0 1)) x1 x2 x3 x4)))
 (some true)
def Q3 (m:Nat):=qF (λ _ _ _ _ _=>none) λ ih=>qcH m ih
def qdd:Nat→Z36:=qe (λ _=>none) λ m _=>qcL m (Q3 m m)
def qdV (m:Nat) (q_ref09_nodes:Z11) (K1:Z88) (a0:T):Z10 :=
 cond (qb (ieq (T.kind a0) 3)) (some 0) (qa (qcf m (T.name a0)) λ v1=>cond (ieq v1 0) (some 10) (qa (qgf m (re a0)) λ v2=>cond (qb v2) (some 6) (cond (ieq v1 2)
 (qa (qdd m (re a0)) λ v3=>cond (qb v3) (some 10) (K1 0 (T.kind a0) (T.name a0) (T.sort a0) (T.kids a0))) (K1 0 (T.kind a0) (T.name a0) (T.sort a0) (T.kids a0)))))
def qdO (m:Nat) (q_ref09_nodes:Z11) (K1:Z88) (x0 x1:Int) (x2:List UInt8) (x3:Int) (x4:List (T)):Z10 :=
 cond (ilt x0 (List.length x4)) (qa (qd x4 x0) λ v1=>qa (q_ref09_nodes (re v1)) λ v2=>cond (qb (ieq v2 0)) (some v2) (K1 (iw .i64 (qi x0 1)) x1 x2 x3 x4)) (some 0)
def Qy (m:Nat) (q_ref09_nodes:Z11):=qF (λ _ _ _ _ _=>none) λ ih=>qdO m q_ref09_nodes ih
def yo:Nat→Z11:=qe (λ _=>none) λ m q_ref09_nodes=>qdV m q_ref09_nodes (Qy m q_ref09_nodes m)
def qgN (m:Nat) (a0:T):Z10 :=
 qa (zJ m (re a0)) λ v1=>cond (qb (ieq v1 0)) (some v1) (qa (yo m (re a0)) λ v2=>some v2)
def qew:Nat→Z11:=qe (λ _=>none) λ m _=>qgN m
def qjy (m:Nat) (a0:Y8) (a1:TL):Z21 :=
 cond (zL (List.length ([]:List (T))+List.length a1) 56) (qio a1 (some (T.mk 3 a0 0 [])) λ v1 v2=>some (T.mk 3 a0 0 ([]++(v1::v2)))) none
def zV:Nat→Z49:=qe (λ _ _=>none) λ m _=>qjy m
def qkG (m:Nat) (a0:T) (a1:Y8):Z1 :=
 cond (ieq (T.kind a0) 3) (some (qA (T.name a0) a1)) (some false)
def qaf:Nat→(T→Y8→Z1):=qe (λ _ _=>none) λ m _=>qkG m
def qe8 (m:Nat) (a0:T):Z78 :=
 qa (qd (T.kids a0) 0) λ v1=>let j1:Z78:=(qa (qd (T.kids v1) 0) λ v3=>some (re v3,true));let j2:Z78:=(let j3:Z78:=(let j4:Z78:=(let j5:Z78:=(let j6:Z78 :=
 (cond (qA (T.name a0) [114,101,97,100]) (qa (qaf m (re v1) [115,105,103,110]) λ v23=>cond v23 j1 (some (re a0,false))) (some (re a0,false)));cond (qA (T.name a0) [111,112,101,110])
 (qa (qaf m (re v1) [115,105,103,110]) λ v17=>cond v17 (qa (qd (T.kids a0) 1) λ v18=>qa (qd (T.kids v1) 1) λ v19=>qa (zV m [112,107] [re v19]) λ v20 =>
 qa (yB m (re v18) (re v20)) λ v21=>cond v21 j1 j6) j6) j6);cond (qA (T.name a0) [97,100,101,99]) (qa (qaf m (re v1) [97,101,110,99]) λ v11 =>
 cond v11 (qa (qd (T.kids v1) 1) λ v12=>qa (qd (T.kids a0) 1) λ v13=>qa (zV m [112,107] [re v13]) λ v14=>qa (yB m (re v12) (re v14)) λ v15=>cond v15 j1 j5) j5) j5);
 cond (qA (T.name a0) [100,101,99]) (qa (qaf m (re v1) [101,110,99]) λ v6=>cond v6 (qa (qd (T.kids v1) 1) λ v7=>qa (qd (T.kids a0) 1) λ v8=>qa (yB m (re v7)
 (re v8)) λ v9=>cond v9 j1 j4) j4) j4);cond (qA (T.name a0) [115,110,100]) (qa (qaf m (re v1) [112,97,105,114]) λ v4=>cond v4 (qa (qd (T.kids v1) 1) λ v5=>some (re v5,true)) j3) j3);
 cond (qA (T.name a0) [102,115,116]) (qa (qaf m (re v1) [112,97,105,114]) λ v2=>cond v2 j1 j2) j2
def qcm:Nat→(T→Z78):=qe (λ _=>none) λ m _=>qe8 m
def qfO (m:Nat) (K1:Z93) (a0:TL) (a1:T):Z1 :=
 K1 a0 0 (T.kind a1) (T.name a1) (T.sort a1) (T.kids a1)
def qfN (m:Nat) (K1:Z93) (x0:List (T)) (x1 x2:Int) (x3:List UInt8) (x4:Int) (x5:List (T)):Z1 :=
 cond (ilt x1 (List.length x0)) (qa (qd x0 x1) λ v1=>qa (yB m (re v1) (T.mk x2 x3 x4 x5)) λ v2=>cond v2 (some true) (K1 x0 (iw .i64 (qi x1 1)) x2 x3 x4 x5)) (some false)
def qaV (m:Nat):=qF (λ _ _ _ _ _ _=>none) λ ih=>qfN m ih
def qhv:Nat→(TL→T→Z1):=qe (λ _ _=>none) λ m _=>qfO m (qaV m m)
def qf0 (m:Nat) (K1:Z94) (a0:TL) (a1:T):Z23 :=
 K1 a0 false 0 (T.kind a1) (T.name a1) (T.sort a1) (T.kids a1) []
def qfv (m:Nat) (K1:Z94) (x0:List (T)) (x1:Bool) (x2 x3:Int) (x4:List UInt8) (x5:Int) (x6 x7:List (T)):Z23 :=
 cond (ilt x2 (List.length x0)) (qa (qd x0 x2) λ v1=>qa (zj m (T.mk x3 x4 x5 x6) (re v1)) λ v2=>let j1:Z23:=(qa (qd x0 x2) λ v5=>cond (zL (List.length x7+1) 56)
 (K1 x0 x1 (iw .i64 (qi x2 1)) x3 x4 x5 x6 (x7++[re v5])) none);cond (qb x1) (cond (ile v2 0) (cond (ilt v2 0) (cond (zL (List.length x7+1) 56) (qa (qd x0 x2) λ v3 =>
 cond (zL (List.length (x7++[T.mk x3 x4 x5 x6])+1) 56) (K1 x0 true (iw .i64 (qi x2 1)) x3 x4 x5 x6 ((x7++[T.mk x3 x4 x5 x6])++[re v3])) none) none) (qa (qd x0 x2) λ v4 =>
 cond (zL (List.length x7+1) 56) (K1 x0 true (iw .i64 (qi x2 1)) x3 x4 x5 x6 (x7++[re v4])) none)) j1) j1) (cond (qb x1) (cond (zL (List.length x7+1) 56) (some (x7++[T.mk x3 x4 x5 x6])) none) (some x7))
def qa0 (m:Nat):=qF (λ _ _ _ _ _ _ _ _=>none) λ ih=>qfv m ih
def qfd:Nat→(TL→T→Z23):=qe (λ _ _=>none) λ m _=>qf0 m (qa0 m m)
def qcA (m:Nat) (K1:Z95) (a0:TL) (a1:T):Z23 :=
 qa (qhv m a0 (re a1)) λ v1=>cond (qb v1) (qa (qfd m a0 (re a1)) λ v2=>some v2) (K1 a0 0 (T.kind a1) (T.name a1) (T.sort a1) (T.kids a1) [])
def qcz (m:Nat) (K1:Z95) (x0:List (T)) (x1 x2:Int) (x3:List UInt8) (x4:Int) (x5 x6:List (T)):Z23 :=
 cond (ilt x1 (List.length x0)) (qa (qd x0 x1) λ v1=>qa (yB m (re v1) (T.mk x2 x3 x4 x5)) λ v2=>cond (qb v2) (qa (qd x0 x1) λ v3=>cond (zL (List.length x6+1) 56)
 (K1 x0 (iw .i64 (qi x1 1)) x2 x3 x4 x5 (x6++[re v3])) none) (K1 x0 (iw .i64 (qi x1 1)) x2 x3 x4 x5 x6)) (some x6)
def QM (m:Nat):=qF (λ _ _ _ _ _ _ _=>none) λ ih=>qcz m ih
def qdf:Nat→(TL→T→Z23):=qe (λ _ _=>none) λ m _=>qcA m (QM m m)
def qeF (m:Nat) (K1:Z96) (a0 a1:TL):Z23 :=
 cond (zL (List.length ([]:List (T))+List.length a0) 56) (qio a0 (K1 a1 [] 0) λ v1 v2=>K1 a1 ([]++(v1::v2)) 0) none
def qeV (m:Nat) (K1:Z96) (x0 x1:List (T)) (x2:Int):Z23 :=
 cond (ilt x2 (List.length x0)) (qa (qd x0 x2) λ v1=>qa (qdf m x1 (re v1)) λ v2=>K1 x0 v2 (iw .i64 (qi x2 1))) (some x1)
def Jo (m:Nat):=qF (λ _ _ _=>none) λ ih=>qeV m ih
def qd6:Nat→(TL→TL→Z23):=qe (λ _ _=>none) λ m _=>qeF m (Jo m m)
def qbh (m:Nat) (q_ref08_Summands:Z27) (K1:Z97) (a0:T):Z23 :=
 let j1:Z23:=(cond (qb (ieq (T.kind a0) 3)) (some [re a0]) (cond (qb (qA (T.name a0) [120,111,114])) (some [re a0]) (K1 [] 0 (T.kind a0) (T.name a0) (T.sort a0) (T.kids a0))));cond (ieq (T.kind a0) 3)
 (cond (qA (T.name a0) [122,101,114,111]) (cond (ieq (List.length (T.kids a0)) 0) (some []) j1) j1) j1
def qa9 (m:Nat) (q_ref08_Summands:Z27) (K1:Z97) (x0:List (T)) (x1 x2:Int) (x3:List UInt8) (x4:Int) (x5:List (T)):Z23 :=
 cond (ilt x1 (List.length x5)) (qa (qd x5 x1) λ v1=>qa (q_ref08_Summands (re v1)) λ v2=>qa (qd6 m x0 v2) λ v3=>K1 v3 (iw .i64 (qi x1 1)) x2 x3 x4 x5) (some x0)
def jk (m:Nat) (q_ref08_Summands:Z27):=qF (λ _ _ _ _ _ _=>none) λ ih=>qa9 m q_ref08_Summands ih
def zt:Nat→Z27:=qe (λ _=>none) λ m q_ref08_Summands=>qbh m q_ref08_Summands (jk m q_ref08_Summands m)
def qd2 (m:Nat) (K1:Z98) (a0:TL) (a1:T):Z10 :=
 cond (ilt 200 (List.length a0)) (some 3) (K1 a0 0 (T.kind a1) (T.name a1) (T.sort a1) (T.kids a1))
def qdY (m:Nat) (K1:Z98) (x0:List (T)) (x1 x2:Int) (x3:List UInt8) (x4:Int) (x5:List (T)):Z10 :=
 cond (ilt x1 (List.length x0)) (qa (qd x0 x1) λ v1=>qa (zJ m (re v1)) λ v2=>cond (qb (ieq v2 0)) (some v2) (K1 x0 (iw .i64 (qi x1 1)) x2 x3 x4 x5))
 (qa (zJ m (T.mk x2 x3 x4 x5)) λ v3=>some v3)
def JE (m:Nat):=qF (λ _ _ _ _ _ _=>none) λ ih=>qdY m ih
def qeu:Nat→(TL→T→Z10):=qe (λ _ _=>none) λ m _=>qd2 m (JE m m)
def qhx (m:Nat):Z21 :=
 qa (zV m [122,101,114,111] []) λ v1=>some (re v1)
def qf5:Nat→(Z21):=qe (none) λ m _=>qhx m
def qhL (m:Nat) (a0:TL):Z21 :=
 cond (ieq (List.length a0) 0) (qa (zV m [122,101,114,111] []) λ v1=>some (re v1)) (cond (ieq (List.length a0) 1) (qa (qd a0 0) λ v2=>some (re v2))
 (cond (zL (List.length ([]:List (T))+List.length a0) 56) (qio a0 (some (T.mk 3 [120,111,114] 0 [])) λ v3 v4=>some (T.mk 3 [120,111,114] 0 ([]++(v3::v4)))) none))
def qgk:Nat→(TL→Z21):=qe (λ _=>none) λ m _=>qhL m
def qf9 (m:Nat) (K1:Z99) (a0:TL):Z30 :=
 qa (qf5 m) λ v1=>qa (qeu m a0 (re v1)) λ v2=>cond (qb (ieq v2 0)) (some (T.mk 0 [] 0 [],v2)) (K1 a0 [] 0 0 [] 0 [])
def qgd (m:Nat) (K1:Z99) (x0 x1:List (T)) (x2 x3:Int) (x4:List UInt8) (x5:Int) (x6:List (T)):Z30 :=
 cond (ilt x2 (List.length x0)) (qa (qd x0 x2) λ v1=>qa (zt m (re v1)) λ v2=>qa (qd6 m x1 v2) λ v3=>K1 x0 v3 (iw .i64 (qi x2 1)) x3 x4 x5 x6) (qa (qgk m x1) λ v4 =>
 qa (zJ m (re v4)) λ v5=>cond (qb (ieq v5 0)) (some (T.mk 0 [] 0 [],3)) (some (re v4,0)))
def qaU (m:Nat):=qF (λ _ _ _ _ _ _ _=>none) λ ih=>qgd m ih
def qhu:Nat→(TL→Z30):=qe (λ _=>none) λ m _=>qf9 m (qaU m m)
def qe1 (m:Nat) (a0:T):Z1 :=
 cond (ieq (T.kind a0) 3) (cond (qA (T.name a0) [109,117,108]) (some true) (cond (qA (T.name a0) [105,110,118]) (some true) (some (qA (T.name a0) [111,110,101])))) (some false)
def JA:Nat→Z36:=qe (λ _=>none) λ m _=>qe1 m
def qd4 (m:Nat) (q_ref06_arity:Z36) (K1:qIP) (a0:T):Z1 :=
 qa (JA m (re a0)) λ v1=>cond (qb v1) (some true) (let j1:Z1:=(let j2:Z1:=(cond (qA (T.name a0) [111,110,101]) (cond (qb (ieq (List.length (T.kids a0)) 0)) (some false)
 (K1 (List.length (T.kids a0)) 0 (T.kind a0) (T.name a0) (T.sort a0) (T.kids a0))) (K1 (List.length (T.kids a0)) 0 (T.kind a0) (T.name a0) (T.sort a0) (T.kids a0)));cond (qA (T.name a0) [105,110,118])
 (cond (qb (ieq (List.length (T.kids a0)) 1)) (some false) j2) j2);cond (qA (T.name a0) [109,117,108]) (cond (ilt (List.length (T.kids a0)) 2) (some false) j1) j1)
def qdX (m:Nat) (q_ref06_arity:Z36) (K1:qIP) (x0 x1 x2:Int) (x3:List UInt8) (x4:Int) (x5:List (T)):Z1 :=
 cond (ilt x1 x0) (qa (qd x5 x1) λ v1=>qa (q_ref06_arity (re v1)) λ v2=>cond (qb v2) (some false) (K1 x0 (iw .i64 (qi x1 1)) x2 x3 x4 x5)) (some true)
def Qz (m:Nat) (q_ref06_arity:Z36):=qF (λ _ _ _ _ _ _=>none) λ ih=>qdX m q_ref06_arity ih
def yq:Nat→Z36:=qe (λ _=>none) λ m q_ref06_arity=>qd4 m q_ref06_arity (Qz m q_ref06_arity m)
def qfA (m:Nat) (K1:qIv) (a0:List (T × Int)) (a1:T) (a2:Int):Z41 :=
 K1 a2 false 0 (T.kind a1) (T.name a1) (T.sort a1) (T.kids a1) a0 []
def qfu (m:Nat) (K1:qIv) (x0:Int) (x1:Bool) (x2 x3:Int) (x4:List UInt8) (x5:Int) (x6:List (T)) (x7 x8:List (T × Int)):Z41 :=
 cond (ilt x2 (List.length x7)) (qa (qd x7 x2) λ v1=>qa (zj m (T.mk x3 x4 x5 x6) (re v1.1)) λ v2=>let j1:Z41:=(qa (qd x7 x2) λ v4=>cond (ieq v2 0)
 (cond (qb (ieq (iw .i64 (qi v4.2 x0)) 0)) (cond (zL (List.length x8+1) 64) (K1 x0 true (iw .i64 (qi x2 1)) x3 x4 x5 x6 x7 (x8++[(re v4.1,iw .i64 (qi v4.2 x0))])) none)
 (K1 x0 true (iw .i64 (qi x2 1)) x3 x4 x5 x6 x7 x8)) (cond (qb (ieq v4.2 0)) (cond (zL (List.length x8+1) 64) (K1 x0 x1 (iw .i64 (qi x2 1)) x3 x4 x5 x6 x7 (x8++[(re v4.1,v4.2)])) none)
 (K1 x0 x1 (iw .i64 (qi x2 1)) x3 x4 x5 x6 x7 x8)));cond (qb x1) (cond (ilt v2 0) (cond (zL (List.length x8+1) 64) (qa (qd x7 x2) λ v3=>cond (ieq v2 0) (cond (qb (ieq (iw .i64 (qi v3.2 x0)) 0))
 (cond (zL (List.length (x8++[(T.mk x3 x4 x5 x6,x0)])+1) 64) (K1 x0 true (iw .i64 (qi x2 1)) x3 x4 x5 x6 x7 ((x8++[(T.mk x3 x4 x5 x6,x0)])++[(re v3.1,iw .i64 (qi v3.2 x0))])) none)
 (K1 x0 true (iw .i64 (qi x2 1)) x3 x4 x5 x6 x7 (x8++[(T.mk x3 x4 x5 x6,x0)]))) (cond (qb (ieq v3.2 0)) (cond (zL (List.length (x8++[(T.mk x3 x4 x5 x6,x0)])+1) 64)
 (K1 x0 true (iw .i64 (qi x2 1)) x3 x4 x5 x6 x7 ((x8++[(T.mk x3 x4 x5 x6,x0)])++[(re v3.1,v3.2)])) none) (K1 x0 true (iw .i64 (qi x2 1)) x3 x4 x5 x6 x7 (x8++[(T.mk x3 x4 x5 x6,x0)])))) none) j1) j1)
 (cond (qb x1) (cond (zL (List.length x8+1) 64) (some ((()),(x8++[(T.mk x3 x4 x5 x6,x0)],()))) none) (some ((()),(x8,()))))
def Jg (m:Nat):=qF (λ _ _ _ _ _ _ _ _ _=>none) λ ih=>qfu m ih
def qfp:Nat→qzC:=qe (λ _ _ _=>none) λ m _=>qfA m (Jg m m)
def qca (m:Nat) (q_ref06_collect:qzC) (K1:qIu) (a0:List (T × Int)) (a1:T) (a2:Int):Z41 :=
 qa (JA m (re a1)) λ v1=>cond (qb v1) (qa (qfp m a0 (re a1) a2) λ v2=>some ((()),(v2.2.1,()))) (cond (qA (T.name a1) [105,110,118]) (K1 (iw .i64 (QD 0 a2)) 0 (T.kind a1)
 (T.name a1) (T.sort a1) (T.kids a1) a0) (K1 a2 0 (T.kind a1) (T.name a1) (T.sort a1) (T.kids a1) a0))
def qb4 (m:Nat) (q_ref06_collect:qzC) (K1:qIu) (x0 x1 x2:Int) (x3:List UInt8) (x4:Int) (x5:List (T)) (x6:List (T × Int)):Z41 :=
 cond (ilt x1 (List.length x5)) (qa (qd x5 x1) λ v1=>qa (q_ref06_collect x6 (re v1) x0) λ v2=>K1 x0 (iw .i64 (qi x1 1)) x2 x3 x4 x5 v2.2.1) (some ((()),(x6,())))
def jC (m:Nat) (q_ref06_collect:qzC):=qF (λ _ _ _ _ _ _ _=>none) λ ih=>qb4 m q_ref06_collect ih
def zH:Nat→qzC:=qe (λ _ _ _=>none) λ m q_ref06_collect=>qca m q_ref06_collect (jC m q_ref06_collect m)
def qkK (m:Nat) (a0:T):Z45 :=
 qa (zJ m (re a0)) λ v1=>cond (qb (ieq v1 0)) (some ([],v1)) (qa (yq m (re a0)) λ v2=>cond (qb v2) (some ([],6)) (qa (zH m [] (re a0) 1) λ v3 =>
 cond (ilt 200 (List.length v3.2.1)) (some ([],3)) (some (v3.2.1,0))))
def qeZ:Nat→Z46:=qe (λ _=>none) λ m _=>qkK m
def qd7 (m:Nat) (K1:qCM) (a0:List (T × Int)):Z10 :=
 cond (ilt 200 (List.length a0)) (some 3) (K1 a0 0)
def qdT (m:Nat) (K1:qCM) (x0:List (T × Int)) (x1:Int):Z10 :=
 cond (ilt x1 (List.length x0)) (qa (qd x0 x1) λ v1=>qa (zJ m (re v1.1)) λ v2=>cond (qb (ieq v2 0)) (some v2) (qa (qd x0 x1) λ v3=>qa (JA m (re v3.1)) λ v4 =>
 cond v4 (some 1) (qa (qd x0 x1) λ v5=>cond (ieq v5.2 0) (some 7) (qa (qd x0 x1) λ v6=>cond (ilt v6.2 (-1000)) (some 7) (qa (qd x0 x1) λ v7=>cond (ilt 1000 v7.2) (some 7) (cond (ilt 0 x1)
 (qa (qd x0 (iw .i64 (QD x1 1))) λ v8=>qa (qd x0 x1) λ v9=>qa (zj m (re v8.1) (re v9.1)) λ v10=>cond (ile 0 v10) (some 5) (K1 x0 (iw .i64 (qi x1 1))))
 (K1 x0 (iw .i64 (qi x1 1))))))))) (some 0)
def Qx (m:Nat):=qF (λ _ _=>none) λ ih=>qdT m ih
def qa4:Nat→Z48:=qe (λ _=>none) λ m _=>qd7 m (Qx m m)
def qba (m:Nat) (K1:qkA) (K2:qkH) (K3:qkA) (K4:qkH) (a0:List (T × Int)):Z23 :=
 K1 a0 0 []
def qbg (m:Nat) (K1:qkA) (K2:qkH) (K3:qkA) (K4:qkH) (x0:List (T × Int)) (x1:Int) (x2:List (T)):Z23 :=
 cond (ilt x1 (List.length x0)) (K2 x0 x1 0 x2) (K3 x0 0 x2)
def qbm (m:Nat) (K1:qkA) (K2:qkH) (K3:qkA) (K4:qkH) (x0:List (T × Int)) (x1 x2:Int) (x3:List (T)):Z23 :=
 qa (qd x0 x1) λ v1=>cond (ilt x2 v1.2) (cond (ilt (List.length x3) 9) (qa (qd x0 x1) λ v2=>cond (zL (List.length x3+1) 56) (K2 x0 x1 (iw .i64 (qi x2 1)) (x3++[re v2.1])) none)
 (K1 x0 (iw .i64 (qi x1 1)) x3)) (K1 x0 (iw .i64 (qi x1 1)) x3)
def qbc (m:Nat) (K1:qkA) (K2:qkH) (K3:qkA) (K4:qkH) (x0:List (T × Int)) (x1:Int) (x2:List (T)):Z23 :=
 cond (ilt x1 (List.length x0)) (K4 x0 x1 0 x2) (some x2)
def qbn (m:Nat) (K1:qkA) (K2:qkH) (K3:qkA) (K4:qkH) (x0:List (T × Int)) (x1 x2:Int) (x3:List (T)):Z23 :=
 qa (qd x0 x1) λ v1=>cond (ilt x2 (iw .i64 (QD 0 v1.2))) (cond (ilt (List.length x3) 9) (qa (qd x0 x1) λ v2=>qa (zV m [105,110,118] [re v2.1]) λ v3=>cond (zL (List.length x3+1) 56)
 (K4 x0 x1 (iw .i64 (qi x2 1)) (x3++[re v3])) none) (K3 x0 (iw .i64 (qi x1 1)) x3)) (K3 x0 (iw .i64 (qi x1 1)) x3)
def qk (m:Nat):=qF ((λ _ _ _=>none,λ _ _ _ _=>none,λ _ _ _=>none,λ _ _ _ _=>none)) λ ih=>(qbg m ih.1 ih.2.1 ih.2.2.1 ih.2.2.2,qbm m ih.1 ih.2.1 ih.2.2.1 ih.2.2.2,qbc m ih.1 ih.2.1 ih.2.2.1 ih.2.2.2,qbn m ih.1 ih.2.1 ih.2.2.1 ih.2.2.2)
def qbs:Nat→(Z39→Z23):=qe (λ _=>none) λ m _=>qba m (qk m m).1 (qk m m).2.1 (qk m m).2.2.1 (qk m m).2.2.2
def qhC (m:Nat) (a0:List (T × Int)):Z30 :=
 qa (qa4 m a0) λ v1=>cond (qb (ieq v1 0)) (some (T.mk 0 [] 0 [],v1)) (qa (qbs m a0) λ v2=>cond (ilt 8 (List.length v2)) (some (T.mk 0 [] 0 [],3))
 (qa (zV m [109,117,108] v2) λ v3=>let j1:Z30:=(qa (qd v2 0) λ v5=>qa (zJ m (re v5)) λ v6=>cond (qb (ieq v6 0)) (some (T.mk 0 [] 0 [],v6)) (some (re v5,0)));
 cond (ieq (List.length v2) 0) (qa (zV m [111,110,101] []) λ v4=>cond (ieq (List.length v2) 1) j1 (qa (zJ m (re v4)) λ v7=>cond (qb (ieq v7 0)) (some (T.mk 0 [] 0 [],v7))
 (some (re v4,0)))) (cond (ieq (List.length v2) 1) j1 (qa (zJ m (re v3)) λ v10=>cond (qb (ieq v10 0)) (some (T.mk 0 [] 0 [],v10)) (some (re v3,0))))))
def qaG:Nat→Z52:=qe (λ _=>none) λ m _=>qhC m
def qe4 (m:Nat) (a0:T):Z30 :=
 qa (qeZ m (re a0)) λ v1=>cond (qb (ieq v1.2 0)) (some (T.mk 0 [] 0 [],v1.2)) (qa (qaG m v1.1) λ v2=>some (re v2.1,v2.2))
def qat:Nat→Z58:=qe (λ _=>none) λ m _=>qe4 m
def qbQ (m:Nat) (K1:qCM) (a0:List (T × Int)):Z10 :=
 K1 a0 0
def qb6 (m:Nat) (K1:qCM) (x0:List (T × Int)) (x1:Int):Z10 :=
 cond (ilt x1 (List.length x0)) (qa (qd x0 x1) λ v1=>cond (ilt v1.2 (-1000)) (some 7) (qa (qd x0 x1) λ v2=>cond (ilt 1000 v2.2) (some 7) (K1 x0 (iw .i64 (qi x1 1))))) (cond (ilt 200 (List.length x0))
 (some 3) (some 0))
def Qj (m:Nat):=qF (λ _ _=>none) λ ih=>qb6 m ih
def qcj:Nat→Z48:=qe (λ _=>none) λ m _=>qbQ m (Qj m m)
def qfL (m:Nat) (K1:qJe) (a0 a1:List (T × Int)):Z45 :=
 qa (qa4 m a0) λ v1=>cond (qb (ieq v1 0)) (some ([],v1)) (qa (qa4 m a1) λ v2=>cond (qb (ieq v2 0)) (some ([],v2)) (cond (zL (List.length ([]:List (T × Int))+List.length a0) 64)
 (qio a0 (K1 a1 0 []) λ v3 v4=>K1 a1 0 ([]++(v3::v4))) none))
def qgg (m:Nat) (K1:qJe) (x0:List (T × Int)) (x1:Int) (x2:List (T × Int)):Z45 :=
 cond (ilt x1 (List.length x0)) (qa (qd x0 x1) λ v1=>qa (qd x0 x1) λ v2=>qa (qfp m x2 (re v1.1) v2.2) λ v3=>K1 x0 (iw .i64 (qi x1 1)) v3.2.1) (qa (qcj m x2) λ v4 =>
 cond (qb (ieq v4 0)) (some ([],v4)) (some (x2,0)))
def J0 (m:Nat):=qF (λ _ _ _=>none) λ ih=>qgg m ih
def qht:Nat→Z56:=qe (λ _ _=>none) λ m _=>qfL m (J0 m m)
def qgR (m:Nat) (a0 a1:T):Z30 :=
 qa (qeZ m (re a1)) λ v1=>cond (qb (ieq v1.2 0)) (some (T.mk 0 [] 0 [],v1.2)) (qa (qaf m (re a0) [101,120,112]) λ v2=>cond v2 (qa (qd (T.kids a0) 1) λ v3 =>
 qa (qeZ m (re v3)) λ v4=>cond (qb (ieq v4.2 0)) (some (T.mk 0 [] 0 [],v4.2)) (qa (qht m v4.1 v1.1) λ v5=>cond (qb (ieq v5.2 0)) (some (T.mk 0 [] 0 [],v5.2))
 (qa (qd (T.kids a0) 0) λ v6=>cond (ieq (List.length v5.1) 0) (some (re v6,0)) (qa (qaG m v5.1) λ v7=>cond (qb (ieq v7.2 0)) (some (T.mk 0 [] 0 [],v7.2))
 (qa (zV m [101,120,112] [re v6,re v7.1]) λ v8=>some (re v8,0)))))) (cond (ieq (List.length v1.1) 0) (some (re a0,0)) (qa (qaG m v1.1) λ v9=>cond (qb (ieq v9.2 0))
 (some (T.mk 0 [] 0 [],v9.2)) (qa (zV m [101,120,112] [re a0,re v9.1]) λ v10=>some (re v10,0)))))
def qes:Nat→Z57:=qe (λ _ _=>none) λ m _=>qgR m
def qcM (m:Nat) (q_ref09_normal:Z58) (K1:qJl) (a0:T):Z30 :=
 cond (qb (ieq (T.kind a0) 3)) (some (re a0,0)) (K1 0 (T.kind a0) (T.name a0) (T.sort a0) (T.kids a0) 0 [] 0 [] [])
def qcE (m:Nat) (q_ref09_normal:Z58) (K1:qJl) (x0 x1:Int) (x2:List UInt8) (x3:Int) (x4:List (T)) (x5:Int) (x6:List UInt8) (x7:Int) (x8 x9:List (T)):Z30 :=
 cond (ilt x0 (List.length x4)) (qa (qd x4 x0) λ v1=>qa (q_ref09_normal (re v1)) λ v2=>cond (qb (ieq v2.2 0)) (some (T.mk 0 [] 0 [],v2.2)) (cond (zL (List.length x9+1) 56)
 (K1 (iw .i64 (qi x0 1)) x1 x2 x3 x4 x5 x6 x7 x8 (x9++[re v2.1])) none)) (qa (zV m x2 x9) λ v3=>qa (qcf m x2) λ v4=>cond (ieq v4 3) (qa (qcm m (re v3)) λ v5 =>
 some (re v5.1,0)) (cond (qA x2 [120,111,114]) (qa (qhu m x9) λ v6=>some (re v6.1,v6.2)) (let j1:Z30:=(qa (qat m (re v3)) λ v7=>some (re v7.1,v7.2));
 cond (qA x2 [109,117,108]) j1 (cond (qA x2 [105,110,118]) j1 (cond (qA x2 [111,110,101]) j1 (cond (qA x2 [101,120,112]) (qa (qd x9 0) λ v10=>qa (qd x9 1) λ v11 =>
 qa (qes m (re v10) (re v11)) λ v12=>some (re v12.1,v12.2)) (some (re v3,0))))))))
def QY (m:Nat) (q_ref09_normal:Z58):=qF (λ _ _ _ _ _ _ _ _ _ _=>none) λ ih=>qcE m q_ref09_normal ih
def ye:Nat→Z58:=qe (λ _=>none) λ m q_ref09_normal=>qcM m q_ref09_normal (QY m q_ref09_normal m)
def qga (m:Nat) (a0:T):Z30 :=
 qa (qew m (re a0)) λ v1=>cond (qb (ieq v1 0)) (some (T.mk 0 [] 0 [],v1)) (qa (ye m (re a0)) λ v2=>cond (qb (ieq v2.2 0)) (some (T.mk 0 [] 0 [],v2.2))
 (qa (zJ m (re v2.1)) λ v3=>cond (qb (ieq v3 0)) (some (T.mk 0 [] 0 [],v3)) (some (re v2.1,0))))
def qcY:Nat→Z58:=qe (λ _=>none) λ m _=>qga m
def qfJ (m:Nat) (q_ref01_All:Z27) (K1:qIH) (a0:T):Z23 :=
 K1 0 (T.kind a0) (T.name a0) (T.sort a0) (T.kids a0) [re a0]
def qfY (m:Nat) (q_ref01_All:Z27) (K1:qIH) (x0 x1:Int) (x2:List UInt8) (x3:Int) (x4 x5:List (T)):Z23 :=
 cond (ilt x0 (List.length x4)) (qa (qd x4 x0) λ v1=>qa (q_ref01_All (re v1)) λ v2=>cond (zL (List.length x5+List.length v2) 56) (K1 (iw .i64 (qi x0 1)) x1 x2 x3 x4 (x5++v2)) none) (some x5)
def qa5 (m:Nat) (q_ref01_All:Z27):=qF (λ _ _ _ _ _ _=>none) λ ih=>qfY m q_ref01_All ih
def jm:Nat→Z27:=qe (λ _=>none) λ m q_ref01_All=>qfJ m q_ref01_All (qa5 m q_ref01_All m)
def qdQ (m:Nat) (K1:qIR) (a0:T):Z1 :=
 qa (qcY m (re a0)) λ v1=>cond (qb (ieq v1.2 0)) (some false) (qa (yB m (re a0) (re v1.1)) λ v2=>cond (qb v2) (some false) (qa (jm m (re a0)) λ v3=>K1 v3 0))
def qdU (m:Nat) (K1:qIR) (x0:List (T)) (x1:Int):Z1 :=
 cond (ilt x1 (List.length x0)) (qa (qd x0 x1) λ v1=>cond (ieq (T.kind v1) 3) (qa (qd x0 x1) λ v2=>qa (qcf m (T.name v2)) λ v3=>cond (ieq v3 3) (some false) (K1 x0 (iw .i64 (qi x1 1))))
 (K1 x0 (iw .i64 (qi x1 1)))) (some true)
def Jy (m:Nat):=qF (λ _ _=>none) λ ih=>qdU m ih
def qet:Nat→Z36:=qe (λ _=>none) λ m _=>qdQ m (Jy m m)
def qfC (m:Nat) (K1:Z96) (a0:TL):Z23 :=
 K1 a0 [] 0
def qfx (m:Nat) (K1:Z96) (x0 x1:List (T)) (x2:Int):Z23 :=
 cond (ilt x2 (List.length x0)) (qa (qd x0 x2) λ v1=>qa (qfd m x1 (re v1)) λ v2=>K1 x0 v2 (iw .i64 (qi x2 1))) (some x1)
def qaT (m:Nat):=qF (λ _ _ _=>none) λ ih=>qfx m ih
def qg8:Nat→Z33:=qe (λ _=>none) λ m _=>qfC m (qaT m m)
def qeL (m:Nat) (K1:qI4) (a0:T) (a1:Int):Z23 :=
 qa (jm m (re a0)) λ v1=>K1 a1 v1 0 []
def qeW (m:Nat) (K1:qI4) (x0:Int) (x1:List (T)) (x2:Int) (x3:List (T)):Z23 :=
 cond (ilt x2 (List.length x1)) (qa (qd x1 x2) λ v1=>cond (ieq (T.kind v1) x0) (qa (qd x1 x2) λ v2=>cond (zL (List.length x3+1) 56) (K1 x0 x1 (iw .i64 (qi x2 1)) (x3++[re v2])) none)
 (K1 x0 x1 (iw .i64 (qi x2 1)) x3)) (qa (qg8 m x3) λ v3=>some v3)
def qad (m:Nat):=qF (λ _ _ _ _=>none) λ ih=>qeW m ih
def qfZ:Nat→(T→Int→Z23):=qe (λ _ _=>none) λ m _=>qeL m (qad m m)
def qhD (m:Nat) (a0:T):Z23 :=
 qa (qfZ m (re a0) 1) λ v1=>some v1
def qfy:Nat→Z27:=qe (λ _=>none) λ m _=>qhD m
def qfG (m:Nat) (a0:T):Z1 :=
 qa (qfy m (re a0)) λ v1=>some (ieq (List.length v1) 0)
def qcZ:Nat→Z36:=qe (λ _=>none) λ m _=>qfG m
def qfH (m:Nat) (a0:T):Z1 :=
 qa (qet m (re a0)) λ v1=>cond v1 (qa (qcZ m (re a0)) λ v2=>some v2) (some false)
def Qp:Nat→Z36:=qe (λ _=>none) λ m _=>qfH m
def qzD (m:Nat) (a0:T):Z67 :=
 qa (Qp m (re a0)) λ v1=>cond (qb v1) (some ((T.mk 0 [] 0 [],(0,([],0))),10)) (some ((re a0,(0,([],4))),0))
def qoP:Nat→Z68:=qe (λ _=>none) λ m _=>qzD m
def qdM (m:Nat) (K1:qJc) (a0:T × (Int × ((List (Int × T)) × Int))):Z10 :=
 qa (Qp m (re a0.1)) λ v1=>cond (qb v1) (some 1) (cond (ilt a0.2.1 0) (some 1) (cond (ilt 1000 a0.2.1) (some 1) (cond (ilt a0.2.2.2 0) (some 1) (cond (ilt 8 a0.2.2.2) (some 1)
 (cond (ilt a0.2.2.2 (List.length a0.2.2.1)) (some 1) (K1 (-1) 0 (T.kind a0.1) (T.name a0.1) (T.sort a0.1) (T.kids a0.1) a0.2.1 a0.2.2.1 a0.2.2.2))))))
def qd0 (m:Nat) (K1:qJc) (x0 x1 x2:Int) (x3:List UInt8) (x4:Int) (x5:List (T)) (x6:Int) (x7:List (Int × T)) (x8:Int):Z10 :=
 cond (ilt x1 (List.length x7)) (qa (qd x7 x1) λ v1=>cond (ile v1.1 x0) (some 1) (qa (qd x7 x1) λ v2=>cond (ile x6 v2.1) (some 1) (qa (qd x7 x1) λ v3=>qa (Qp m (re v3.2)) λ v4 =>
 cond (qb v4) (some 1) (qa (qd x7 x1) λ v5=>K1 v5.1 (iw .i64 (qi x1 1)) x2 x3 x4 x5 x6 x7 x8)))) (some 0)
def Jx (m:Nat):=qF (λ _ _ _ _ _ _ _ _ _=>none) λ ih=>qd0 m ih
def qa2:Nat→Z75:=qe (λ _=>none) λ m _=>qdM m (Jx m m)
def qql (m:Nat) (a0:T) (a1:Y8):Z21 :=
 qa (qfw m a1 5) λ v1=>qa (zV m [112,97,105,114] [re a0,re v1]) λ v2=>qa (zV m [104,97,115,104] [re v2]) λ v3=>some (re v3)
def qeQ:Nat→(T→Y8→Z21):=qe (λ _ _=>none) λ m _=>qql m
def qwj (m:Nat) (a0:T):Z21 :=
 qa (qeQ m (re a0) [99,104,97,105,110]) λ v1=>some (re v1)
def qlT:Nat→Z22:=qe (λ _=>none) λ m _=>qwj m
def qv2 (m:Nat) (a0:T):Z1 :=
 qa (zJ m (re a0)) λ v1=>some (qb (ieq v1 0))
def qfV:Nat→Z36:=qe (λ _=>none) λ m _=>qv2 m
def qxo (m:Nat) (a0:T):Z21 :=
 qa (qeQ m (re a0) [109,101,115,115,97,103,101]) λ v1=>some (re v1)
def qoq:Nat→Z22:=qe (λ _=>none) λ m _=>qxo m
def qwP (m:Nat) (a0:T × (Int × ((List (Int × T)) × Int))) (a1:T):qFi :=
 qa (qa2 m (re a0.1,(a0.2.1,(a0.2.2.1,a0.2.2.2)))) λ v1=>cond (qb (ieq v1 0)) (some ((T.mk 0 [] 0 [],(0,([],0))),(0,T.mk 0 [] 0 []),v1)) (qa (Qp m (re a1)) λ v2=>cond (qb v2)
 (some ((T.mk 0 [] 0 [],(0,([],0))),(0,T.mk 0 [] 0 []),10)) (cond (ieq a0.2.1 1000) (some ((T.mk 0 [] 0 [],(0,([],0))),(0,T.mk 0 [] 0 []),7)) (qa (qoq m (re a0.1)) λ v3 =>
 qa (zV m [101,110,99] [re a1,re v3]) λ v4=>qa (qlT m (re a0.1)) λ v5=>qa (qfV m (re v5)) λ v6=>cond v6 (some ((T.mk 0 [] 0 [],(0,([],0))),(0,T.mk 0 [] 0 []),3))
 (qa (qfV m (re v4)) λ v7=>cond v7 (some ((T.mk 0 [] 0 [],(0,([],0))),(0,T.mk 0 [] 0 []),3)) (some ((re v5,(iw .i64 (qi a0.2.1 1),(a0.2.2.1,a0.2.2.2))),(a0.2.1,re v4),0))))))
def qif:Nat→qJA:=qe (λ _ _=>none) λ m _=>qwP m
def qnb (m:Nat) (K1:qJg) (a0:Int):qCt :=
 qa (qdL m) λ v1=>qa (qoP m (re v1)) λ v2=>K1 a0 0 (T.kind v2.1.1) (T.name v2.1.1) (T.sort v2.1.1) (T.kids v2.1.1) v2.1.2.1 v2.1.2.2.1 v2.1.2.2.2 []
def qw1 (m:Nat) (K1:qJg) (x0 x1 x2:Int) (x3:List UInt8) (x4:Int) (x5:List (T)) (x6:Int) (x7:List (Int × T)) (x8:Int) (x9:List (Int × T)):qCt :=
 cond (ilt x1 x0) (qa (qd [[112],[113]] (qCn x1 2)) λ v1=>qa (qfw m v1 4) λ v2=>qa (qif m (T.mk x2 x3 x4 x5,(x6,(x7,x8))) (re v2)) λ v3=>cond (qb (ieq v3.2.2 0)) (some x9)
 (cond (zL (List.length x9+1) 64) (K1 x0 (iw .i64 (qi x1 1)) (T.kind v3.1.1) (T.name v3.1.1) (T.sort v3.1.1) (T.kids v3.1.1) v3.1.2.1 v3.1.2.2.1 v3.1.2.2.2 (x9++[(v3.2.1.1,re v3.2.1.2)])) none)) (some x9)
def qnC (m:Nat):=qF (λ _ _ _ _ _ _ _ _ _ _=>none) λ ih=>qw1 m ih
def qml:Nat→(Int→qCt):=qe (λ _=>none) λ m _=>qnb m (qnC m m)
def quS (m:Nat):Z1 :=
 qa (qdL m) λ v1=>qa (qgY m (re v1) 0) λ v2=>qa (qdL m) λ v3=>qa (qgY m (re v3) 1) λ v4 =>
 qa (qg1 m [104,97,115,104,40,112,97,105,114,40,114,58,110,111,110,99,101,44,32,109,101,115,115,97,103,101,58,116,97,103,41,41]) λ v5 =>
 qa (qg1 m [104,97,115,104,40,112,97,105,114,40,104,97,115,104,40,112,97,105,114,40,114,58,110,111,110,99,101,44,32,99,104,97,105,110,58,116,97,103,41,41,44,32,109,101,115,115,97,103,101,58,116,97,103,41,41]) λ v6 =>
 qa (qdL m) λ v7=>qa (qkx m (re v7)) λ v8=>qa (qml m 2) λ v9=>let j1:Z1:=(some false);
 cond (qb (ieq v2.2 0)) j1 (cond (qb (ieq v4.2 0)) j1 (cond (qb (ieq v8.2 0)) j1 (cond (qb (ieq (List.length v9) 2)) j1 (qa (yB m (re v2.1) (re v5.1)) λ v10 =>
 cond (qb v10) j1 (qa (yB m (re v4.1) (re v6.1)) λ v11=>cond (qb v11) j1 (qa (qd v9 1) λ v12=>qa (qaN m (re v8.1.1,(v8.1.2.1,(v8.1.2.2.1,v8.1.2.2.2)))
 (v12.1,re v12.2)) λ v13=>qa (qd v9 0) λ v14=>qa (qaN m (re v13.1.1,(v13.1.2.1,(v13.1.2.2.1,v13.1.2.2.2))) (v14.1,re v14.2)) λ v15=>qa (qd v9 0) λ v16 =>
 qa (qaN m (re v15.1.1,(v15.1.2.1,(v15.1.2.2.1,v15.1.2.2.2))) (v16.1,re v16.2)) λ v17=>cond (ieq v13.2.2 0) (cond (ieq v15.2.2 0) (some (ieq v17.2.2 21)) j1) j1))))))
def Je:Nat→(Z1):=qe (none) λ m _=>quS m
def qcP (m:Nat) (q_ref01_budget:qCS) (K1:Z70) (a0:T) (a1:Int):Z10 :=
 cond (ile a1 0) (some (-1)) (cond (ilt 40 (List.length (T.name a0))) (some (-1)) (K1 (iw .i64 (QD a1 1)) 0 (T.kind a0) (T.name a0) (T.sort a0) (T.kids a0)))
def qcW (m:Nat) (q_ref01_budget:qCS) (K1:Z70) (x0 x1 x2:Int) (x3:List UInt8) (x4:Int) (x5:List (T)):Z10 :=
 cond (ilt x1 (List.length x5)) (qa (qd x5 x1) λ v1=>qa (q_ref01_budget (re v1) x0) λ v2=>cond (ilt v2 0) (some (-1)) (K1 v2 (iw .i64 (qi x1 1)) x2 x3 x4 x5)) (some x0)
def QT (m:Nat) (q_ref01_budget:qCS):=qF (λ _ _ _ _ _ _=>none) λ ih=>qcW m q_ref01_budget ih
def yh:Nat→qCS:=qe (λ _ _=>none) λ m q_ref01_budget=>qcP m q_ref01_budget (QT m q_ref01_budget m)
def qfI (m:Nat) (K1:Z60) (a0:TL) (a1 a2:Int):Z1 :=
 cond (ilt a1 (List.length a0)) (some false) (K1 a0 a2 0)
def qf1 (m:Nat) (K1:Z60) (x0:List (T)) (x1 x2:Int):Z1 :=
 cond (ilt x2 (List.length x0)) (qa (qd x0 x2) λ v1=>qa (yh m (re v1) x1) λ v2=>cond (ilt v2 0) (some false) (K1 x0 v2 (iw .i64 (qi x2 1)))) (some true)
def qa6 (m:Nat):=qF (λ _ _ _=>none) λ ih=>qf1 m ih
def qfo:Nat→(TL→Int→Int→Z1):=qe (λ _ _ _=>none) λ m _=>qfI m (qa6 m m)
def qcG (m:Nat) (K1:qI3) (a0:T × (Int × ((List (Int × T)) × Int))):Z23 :=
 K1 0 (T.kind a0.1) (T.name a0.1) (T.sort a0.1) (T.kids a0.1) a0.2.1 a0.2.2.1 a0.2.2.2 [re a0.1]
def qcC (m:Nat) (K1:qI3) (x0 x1:Int) (x2:List UInt8) (x3:Int) (x4:List (T)) (x5:Int) (x6:List (Int × T)) (x7:Int) (x8:List (T)):Z23 :=
 cond (ilt x0 (List.length x6)) (qa (qd x6 x0) λ v1=>cond (zL (List.length x8+1) 56) (K1 (iw .i64 (qi x0 1)) x1 x2 x3 x4 x5 x6 x7 (x8++[re v1.2])) none) (some x8)
def QP (m:Nat):=qF (λ _ _ _ _ _ _ _ _ _=>none) λ ih=>qcC m ih
def qbv:Nat→qJk:=qe (λ _=>none) λ m _=>qcG m (QP m m)
def qjE (m:Nat) (a0:T × (Int × ((List (Int × T)) × Int))):Z1 :=
 cond (ile (List.length a0.2.2.1) 12) (qa (qbv m (re a0.1,(a0.2.1,(a0.2.2.1,a0.2.2.2)))) λ v1=>qa (qfo m v1 13 600) λ v2=>some v2) (some false)
def qff:Nat→qJE:=qe (λ _=>none) λ m _=>qjE m
def qdR (m:Nat) (K1:qJr) (a0 a1:TL):Z1 :=
 cond (qb (ieq (List.length a0) (List.length a1))) (some false) (K1 a0 a1 0)
def qdF (m:Nat) (K1:qJr) (x0 x1:List (T)) (x2:Int):Z1 :=
 cond (ilt x2 (List.length x0)) (qa (qd x0 x2) λ v1=>qa (qd x1 x2) λ v2=>qa (yB m (re v1) (re v2)) λ v3=>cond (qb v3) (some false) (K1 x0 x1 (iw .i64 (qi x2 1)))) (some true)
def Jz (m:Nat):=qF (λ _ _ _=>none) λ ih=>qdF m ih
def qez:Nat→(TL→TL→Z1):=qe (λ _ _=>none) λ m _=>qdR m (Jz m m)
def qbi (m:Nat) (K1:qJh) (a0:T × (Int × ((List (Int × T)) × Int))):Z23 :=
 qa (zC m (re a0.1)) λ v1=>K1 a0.2.2.1 (List.length a0.2.2.1) 0 [re v1]
def qbf (m:Nat) (K1:qJh) (x0:List (Int × T)) (x1 x2:Int) (x3:List (T)):Z23 :=
 cond (ilt x2 x1) (qa (qd x0 x2) λ v1=>qa (zC m (re v1.2)) λ v2=>cond (zL (List.length x3+1) 56) (K1 x0 x1 (iw .i64 (qi x2 1)) (x3++[re v2])) none) (some x3)
def jP (m:Nat):=qF (λ _ _ _ _=>none) λ ih=>qbf m ih
def qbD:Nat→qJk:=qe (λ _=>none) λ m _=>qbi m (jP m m)
def QE (m:Nat) (K1:qIp) (a0 a1:List Int):Z1 :=
 cond (qb (ieq (List.length a0) (List.length a1))) (some false) (K1 a0 a1 (List.length a0) 0)
def QH (m:Nat) (K1:qIp) (x0 x1:List (Int)) (x2 x3:Int):Z1 :=
 cond (ilt x3 x2) (qa (qd x0 x3) λ v1=>qa (qd x1 x3) λ v2=>cond (qb (ieq v1 v2)) (some false) (K1 x0 x1 x2 (iw .i64 (qi x3 1)))) (some true)
def yt (m:Nat):=qF (λ _ _ _ _=>none) λ ih=>QH m ih
def Qk:Nat→((List Int)→(List Int)→Z1):=qe (λ _ _=>none) λ m _=>QE m (yt m m)
def qaE (m:Nat) (K1:qJa) (a0:T × (Int × ((List (Int × T)) × Int))):qqg :=
 K1 a0.2.2.1 (List.length a0.2.2.1) 0 []
def qaO (m:Nat) (K1:qJa) (x0:List (Int × T)) (x1 x2:Int) (x3:List (Int)):qqg :=
 cond (ilt x2 x1) (qa (qd x0 x2) λ v1=>cond (zL (List.length x3+1) 8) (K1 x0 x1 (iw .i64 (qi x2 1)) (x3++[v1.1])) none) (some x3)
def jy (m:Nat):=qF (λ _ _ _ _=>none) λ ih=>qaO m ih
def qaB:Nat→qIq:=qe (λ _=>none) λ m _=>qaE m (jy m m)
def qbX (m:Nat) (K1:qIj) (a0:T × (Int × ((List (Int × T)) × Int))):qqg :=
 K1 0 (T.kind a0.1) (T.name a0.1) (T.sort a0.1) (T.kids a0.1) a0.2.1 a0.2.2.1 a0.2.2.2 []
def qbY (m:Nat) (K1:qIj) (x0 x1:Int) (x2:List UInt8) (x3:Int) (x4:List (T)) (x5:Int) (x6:List (Int × T)) (x7:Int) (x8:List (Int)):qqg :=
 cond (ilt x0 (List.length x6)) (qa (qd x6 x0) λ v1=>cond (zL (List.length x8+1) 8) (K1 (iw .i64 (qi x0 1)) x1 x2 x3 x4 x5 x6 x7 (x8++[v1.1])) none) (some x8)
def Qq (m:Nat):=qF (λ _ _ _ _ _ _ _ _ _=>none) λ ih=>qbY m ih
def qci:Nat→qIq:=qe (λ _=>none) λ m _=>qbX m (Qq m m)
def qbx (m:Nat) (a0:T × (Int × ((List (Int × T)) × Int))):Z1 :=
 qa (Je m) λ v1=>let j1:Z1:=(qa (Je m) λ v2=>some v2);cond (qb v1) j1 (qa (qff m (re a0.1,(a0.2.1,(a0.2.2.1,a0.2.2.2)))) λ v3 =>
 cond (qb v3) j1 (qa (jp m (re a0.1,(a0.2.1,(a0.2.2.1,a0.2.2.2)))) λ v5=>qa (qa2 m (re a0.1,(a0.2.1,(a0.2.2.1,a0.2.2.2)))) λ v6=>cond (ieq v5 v6)
 (qa (qbD m (re a0.1,(a0.2.1,(a0.2.2.1,a0.2.2.2)))) λ v7=>qa (qbv m (re a0.1,(a0.2.1,(a0.2.2.1,a0.2.2.2)))) λ v8=>qa (qez m v7 v8) λ v9 =>
 cond v9 (qa (qaB m (re a0.1,(a0.2.1,(a0.2.2.1,a0.2.2.2)))) λ v10=>qa (qci m (re a0.1,(a0.2.1,(a0.2.2.1,a0.2.2.2)))) λ v11=>qa (Qk m v10 v11) λ v12 =>
 some v12) (some false)) (some false)))
def law53_RatchetValid:Nat→qJE:=qe (λ _=>none) λ m _=>qbx m
def qng (m:Nat) (K1:qI6) (a0 a1:T × (Int × ((List (Int × T)) × Int))):Z1 :=
 cond (qb (ieq a0.2.1 a1.2.1)) (some false) (cond (qb (ieq a0.2.2.2 a1.2.2.2)) (some false) (cond (qb (ieq (List.length a0.2.2.1) (List.length a1.2.2.1))) (some false) (qa (yB m (re a0.1)
 (re a1.1)) λ v1=>cond (qb v1) (some false) (K1 0 (T.kind a0.1) (T.name a0.1) (T.sort a0.1) (T.kids a0.1) a0.2.1 a0.2.2.1 a0.2.2.2 (T.kind a1.1) (T.name a1.1) (T.sort a1.1) (T.kids a1.1) a1.2.1 a1.2.2.1 a1.2.2.2))))
def qwY (m:Nat) (K1:qI6) (x0 x1:Int) (x2:List UInt8) (x3:Int) (x4:List (T)) (x5:Int) (x6:List (Int × T)) (x7 x8:Int) (x9:List UInt8) (x10:Int) (x11:List (T)) (x12:Int) (x13:List (Int × T)) (x14:Int):Z1 :=
 cond (ilt x0 (List.length x6)) (qa (qd x6 x0) λ v1=>qa (qd x13 x0) λ v2=>cond (qb (ieq v1.1 v2.1)) (some false) (qa (qd x6 x0) λ v3=>qa (qd x13 x0) λ v4 =>
 qa (yB m (re v3.2) (re v4.2)) λ v5=>cond (qb v5) (some false) (K1 (iw .i64 (qi x0 1)) x1 x2 x3 x4 x5 x6 x7 x8 x9 x10 x11 x12 x13 x14))) (some true)
def qoz (m:Nat):=qF (λ _ _ _ _ _ _ _ _ _ _ _ _ _ _ _=>none) λ ih=>qwY m ih
def qic:Nat→(Z74→Z74→Z1):=qe (λ _ _=>none) λ m _=>qng m (qoz m m)
def qrZ (m:Nat) (a0:T × (Int × ((List (Int × T)) × Int))) (a1:T):qFi :=
 qa (jp m (re a0.1,(a0.2.1,(a0.2.2.1,a0.2.2.2)))) λ v1=>cond (qb (ieq v1 0)) (some ((T.mk 0 [] 0 [],(0,([],0))),(0,T.mk 0 [] 0 []),1)) (qa (yV m (re a1)) λ v2 =>
 cond (qb v2) (some ((T.mk 0 [] 0 [],(0,([],0))),(0,T.mk 0 [] 0 []),10)) (cond (ieq a0.2.1 1000) (some ((T.mk 0 [] 0 [],(0,([],0))),(0,T.mk 0 [] 0 []),7))
 (qa (qeA m (re a0.1,(a0.2.1,(a0.2.2.1,a0.2.2.2)))) λ v3=>qa (zC m (re a1)) λ v4=>qa (qeC m (re a0.1)) λ v5=>qa (qc2 m (re a0.1)) λ v6 =>
 qa (zc m (re v6)) λ v7=>cond (qb (ieq v7 0)) (some ((T.mk 0 [] 0 [],(0,([],0))),(0,T.mk 0 [] 0 []),3)) (qa (zc m (T.mk 3 [101,110,99] 0 [re v4,re v5])) λ v8 =>
 cond (qb (ieq v8 0)) (some ((T.mk 0 [] 0 [],(0,([],0))),(0,T.mk 0 [] 0 []),3))
 (some ((re v6,(iw .i64 (qi v3.2.1.2.1 1),(v3.2.1.2.2.1,v3.2.1.2.2.2.1))),(a0.2.1,T.mk 3 [101,110,99] 0 [re v4,re v5]),0))))))
def qiQ:Nat→qJA:=qe (λ _ _=>none) λ m _=>qrZ m
def qtd (m:Nat) (a0:T × (Int × ((List (Int × T)) × Int))) (a1:T):Z67 :=
 qa (jp m (re a0.1,(a0.2.1,(a0.2.2.1,a0.2.2.2)))) λ v1=>cond (qb (ieq v1 0)) (some ((T.mk 0 [] 0 [],(0,([],0))),1)) (qa (yV m (re a1)) λ v2=>cond (qb v2)
 (some ((T.mk 0 [] 0 [],(0,([],0))),10)) (qa (qeA m (re a0.1,(a0.2.1,(a0.2.2.1,a0.2.2.2)))) λ v3=>qa (qaS m (re a0.1) (re a1)) λ v4=>qa (zc m (re v4)) λ v5 =>
 cond (qb (ieq v5 0)) (some ((T.mk 0 [] 0 [],(0,([],0))),3)) (some ((re v4,(v3.2.1.2.1,(v3.2.1.2.2.1,v3.2.1.2.2.2.1))),0))))
def qjb:Nat→qJF:=qe (λ _ _=>none) λ m _=>qtd m
def qv8 (m:Nat) (a0:T × (Int × ((List (Int × T)) × Int))) (a1:T):Z67 :=
 qa (qa2 m (re a0.1,(a0.2.1,(a0.2.2.1,a0.2.2.2)))) λ v1=>cond (qb (ieq v1 0)) (some ((T.mk 0 [] 0 [],(0,([],0))),v1)) (qa (Qp m (re a1)) λ v2=>cond (qb v2)
 (some ((T.mk 0 [] 0 [],(0,([],0))),10)) (qa (zV m [112,97,105,114] [re a0.1,re a1]) λ v3=>qa (zV m [104,97,115,104] [re v3]) λ v4=>qa (qfV m (re v4)) λ v5 =>
 cond v5 (some ((T.mk 0 [] 0 [],(0,([],0))),3)) (some ((re v4,(a0.2.1,(a0.2.2.1,a0.2.2.2))),0))))
def ql0:Nat→qJF:=qe (λ _ _=>none) λ m _=>qv8 m
def qmg (m:Nat) (a0:T × (Int × ((List (Int × T)) × Int))) (a1:T):Z1 :=
 qa (Je m) λ v1=>let j1:Z1:=(qa (Je m) λ v2=>some v2);cond (qb v1) j1 (qa (qff m (re a0.1,(a0.2.1,(a0.2.2.1,a0.2.2.2)))) λ v3 =>
 cond (qb v3) j1 (qa (qfo m [re a1] 1 100) λ v5=>cond (qb v5) j1 (qa (qiQ m (re a0.1,(a0.2.1,(a0.2.2.1,a0.2.2.2))) (re a1)) λ v7 =>
 qa (qif m (re a0.1,(a0.2.1,(a0.2.2.1,a0.2.2.2))) (re a1)) λ v8=>qa (qjb m (re a0.1,(a0.2.1,(a0.2.2.1,a0.2.2.2))) (re a1)) λ v9 =>
 qa (ql0 m (re a0.1,(a0.2.1,(a0.2.2.1,a0.2.2.2))) (re a1)) λ v10=>let j2:Z1:=(some false);
 cond (qb (ieq v7.2.2 v8.2.2)) j2 (cond (qb (ieq v9.2 v10.2)) j2 (qa (qic m (re v7.1.1,(v7.1.2.1,(v7.1.2.2.1,v7.1.2.2.2))) (re v8.1.1,(v8.1.2.1,(v8.1.2.2.1,v8.1.2.2.2)))) λ v11 =>
 cond (qb v11) j2 (qa (qic m (re v9.1.1,(v9.1.2.1,(v9.1.2.2.1,v9.1.2.2.2))) (re v10.1.1,(v10.1.2.1,(v10.1.2.2.1,v10.1.2.2.2)))) λ v12 =>
 cond (qb v12) j2 (cond (qb (ieq v7.2.1.1 v8.2.1.1)) j2 (qa (yB m (re v7.2.1.2) (re v8.2.1.2)) λ v13=>cond (qb v13) j2 (let j3:Z1:=(cond (qb (ieq v9.2 0)) (some true)
 (qa (jp m (re v9.1.1,(v9.1.2.1,(v9.1.2.2.1,v9.1.2.2.2)))) λ v14=>some (ieq v14 0)));
 cond (qb (ieq v7.2.2 0)) j3 (qa (jp m (re v7.1.1,(v7.1.2.1,(v7.1.2.2.1,v7.1.2.2.2)))) λ v15=>cond (ieq v15 0) j3 j2))))))))))
def qhZ:Nat→(Z74→T→Z1):=qe (λ _ _=>none) λ m _=>qmg m
end
end Go.AmYtbpnmbmdbblehaaGreat
namespace Go.AmYtbpnmbmdbblehaaGreat
open Go Go.GxYtbpnmbmdbblehaaGreat
def Ev {α : Type} (F:Nat→Nat→Option α) (r : α):Prop:=∃ B,∀ m k,B≤m→B≤k→F m k=some r
section
variable {α β : Type} {F G:Nat→Nat→Option α} {r : α}
theorem Ev.pure (r : α):Ev (λ _ _=>some r) r:=⟨0,λ _ _ _ _=>rfl⟩
theorem Ev.ret {r r' : α} (h:r=r'):Ev (λ _ _=>some r) r':=by subst h;exact .pure r
theorem Ev.bind {X:Nat→Nat→Option β} {K:Nat→Nat → β → Option α} {a : β} (h:Ev X a) (g:Ev (λ m k=>K m k a) r):Ev (λ m k=>qa (X m k) (K m k)) r:=by
 obtain ⟨B,h⟩:=h
 obtain ⟨C,g⟩:=g
 refine ⟨max B C,λ m k hm hk=>?_⟩
 simp only [h m k (by omega) (by omega),qa]
 exact g m k (by omega) (by omega)
theorem Ev.congr (h:Ev F r) (e:∀ m k,G m k=F m k):Ev G r:=by
 obtain ⟨B,h⟩:=h
 exact ⟨B,λ m k hm hk=>(e m k).trans (h m k hm hk)⟩
theorem Ev.res {r' : α} (h:Ev F r) (e:r=r'):Ev F r':=by subst e;exact h
theorem Ev.succ {f:Nat→Option α} (h:Ev (λ m _=>f (m+1)) r):Ev (λ m _=>f m) r:=by
 obtain ⟨B,h⟩:=h
 refine ⟨B+1,λ m k hm hk=>?_⟩
 obtain ⟨m,rfl⟩:∃ n,m=n+1:=⟨m-1,by omega⟩
 exact h m B (by omega) (Nat.le_refl _)
theorem Ev.loop {L:Nat→Nat→Option α} (h:Ev (λ m k=>L m (k+1)) r):Ev (λ m k=>L m k) r:=by
 obtain ⟨B,h⟩:=h
 refine ⟨B+1,λ m k hm hk=>?_⟩
 obtain ⟨k,rfl⟩:∃ n,k=n+1:=⟨k-1,by omega⟩
 exact h m k (by omega) (by omega)
theorem Ev.diag {L:Nat→Nat→Option α} (h:Ev L r):Ev (λ m _=>L m m) r:=by
 obtain ⟨B,h⟩:=h
 exact ⟨B,λ m k hm _=>h m m hm hm⟩
theorem Ev.ct {b:Bool} (hb:b=true) (h:Ev F r):Ev (λ m k=>cond b (F m k) (G m k)) r:=by subst hb;exact h
theorem Ev.cf {b:Bool} (hb:b=false) (h:Ev G r):Ev (λ m k=>cond b (F m k) (G m k)) r:=by subst hb;exact h
theorem Ev.ite {b:Bool} (h:b=true→Ev F r) (g:b=false→Ev G r):Ev (λ m k=>cond b (F m k) (G m k)) r:=by
 cases b with
 | true=>exact h rfl
 | false=>exact g rfl
theorem Ev.some {x:Option β} {K:Nat→Nat → β → Option α} {a : β} (hx:x=some a) (g:Ev (λ m k=>K m k a) r):Ev (λ m k=>qa x (K m k)) r:=by subst hx;exact g
theorem Ev.case {l:List β} {K:Nat→Nat → β → List β → Option α} (h:l=[]→Ev F r) (g:∀ x t,l=x::t→Ev (λ m k=>K m k x t) r):Ev (λ m k=>qio l (F m k) (K m k)) r:=by
 cases l with
 | nil=>exact h rfl
 | cons x t=>exact g x t rfl
theorem Ev.get {x:Option α} (h:Ev (λ _ _=>x) r):x=Option.some r:=by
 obtain ⟨B,h⟩:=h
 exact h B B (Nat.le_refl _) (Nat.le_refl _)
end
theorem qs {a b:Int}:ilt a b=true↔a<b:=by unfold ilt;exact decide_eq_true_iff
theorem qw {a b:Int}:ilt a b=false↔b≤a:=by unfold ilt;rw [decide_eq_false_iff_not];omega
theorem qd9 {a b:Int}:ile a b=true↔a≤b:=by unfold ile;exact decide_eq_true_iff
theorem qjS {a b:Int}:ile a b=false↔b<a:=by unfold ile;rw [decide_eq_false_iff_not];omega
theorem qj {a b:Int}:ieq a b=true↔a=b:=by unfold ieq;exact beq_iff_eq
theorem qh {a b:Int}:ieq a b=false↔a≠b:=by unfold ieq;exact beq_eq_false_iff_ne
theorem bnt {b:Bool}:qb b=true↔b=false:=by cases b<;>simp [qb]
theorem bnf {b:Bool}:qb b=false↔b=true:=by cases b<;>simp [qb]
theorem y9 {a b:List UInt8}:qA a b=true↔a=b:=by unfold qA;exact beq_iff_eq
theorem jq {a b:List UInt8}:qA a b=false↔a≠b:=by unfold qA;exact beq_eq_false_iff_ne
theorem Jc {n:Int} (h:-9223372036854775808≤n∧n≤9223372036854775807):iw .i64 n=n:=IntWalk.i64_in n h
theorem qlD (a b:Nat):qi (a:Int) (b:Int)=((a+b:Nat):Int):=by unfold qi;omega
theorem qY {n b:Nat} (h:n*b≤2 ^ 47) (hb:0<b):zL n b=true:=by
 unfold zL
 rw [decide_eq_true_iff]
 refine ⟨h,?_⟩
 have:n*1≤n*b:=Nat.mul_le_mul_left _ hb
 omega
theorem jz {α : Type} (l:List α) (i:Nat):qd l (i:Int)=l[i]? := by
 unfold qd
 rw [if_pos (by omega),Int.toNat_natCast]
theorem Jk {α : Type} (l:List α):qd l 0=l[0]? := jz l 0
theorem qr {α : Type} {P:Nat→Prop} (l:List α) (hl:l.length<2 ^ 62) (hend:ilt (l.length:Int) (l.length:Int)=false→P l.length)
  (hstep:∀ (i:Nat) (x : α),l[i]? = some x→l.drop i=x::l.drop (i+1)→ilt (i:Int) (l.length:Int)=true→qd l (i:Int)=some x→iw .i64 (qi (i:Int) 1)=((i+1:Nat):Int)→P (i+1)→P i):∀ i,i≤l.length→P i:=by
 intro i hi
 obtain ⟨d,hd⟩:∃ d,l.length=i+d:=⟨l.length-i,by omega⟩
 induction d generalizing i with
 | zero =>
   have:i=l.length:=by omega
   subst this
   exact hend (qw.2 (Int.le_refl _))
 | succ d ih =>
   have hlt:i<l.length:=by omega
   have hget:=List.getElem?_eq_getElem hlt
   refine hstep i _ hget (List.drop_eq_getElem_cons hlt) (qs.2 (by omega)) (by rw [jz,hget]) ?_ (ih (i+1) (by omega) (by omega))
   rw [show qi (i:Int) 1=((i+1:Nat):Int) by unfold qi;omega,Jc (by omega)]
end Go.AmYtbpnmbmdbblehaaGreat
namespace Go.AmYtbpnmbmdbblehaaGreat
open Go Go.GxYtbpnmbmdbblehaaGreat
set_option linter.unusedVariables false
theorem qAh (m):qfh (m+1)=qje m:=rfl
theorem qwk (m):qaW (m+1)=qdJ m (jH m m):=rfl
theorem qkO (m k):(jH m (k+1))=qdS m (jH m k):=rfl
theorem qy4 (m):zD (m+1)=qeX m (zD m) (yW m (zD m) m):=rfl
theorem qmO (m k):(yW m (zD m) (k+1))=qeH m (zD m) (yW m (zD m) k):=rfl
theorem qzq (m):zc (m+1)=qhy m:=rfl
theorem qsB (m):qaw (m+1)=qb8 m (Qm m m):=rfl
theorem qji (m k):(Qm m (k+1))=qcb m (Qm m k):=rfl
theorem quZ (m):qz (m+1)=qcN m (qz m) (qM m (qz m) m).1 (qM m (qz m) m).2:=rfl
theorem qkl (m k):(qM m (qz m) (k+1)).1=qcI m (qz m) (qM m (qz m) k).1 (qM m (qz m) k).2:=rfl
theorem qj0 (m k):(qM m (qz m) (k+1)).2=qcy m (qz m) (qM m (qz m) k).1 (qM m (qz m) k).2:=rfl
theorem qt4 (m):qdz (m+1)=qf4 m:=rfl
theorem qAm (m):qbJ (m+1)=qjB m:=rfl
theorem qz0 (m):jo (m+1)=qfF m (jo m) (qaX m (jo m) m):=rfl
theorem qos (m k):(qaX m (jo m) (k+1))=qfX m (jo m) (qaX m (jo m) k):=rfl
theorem qtC (m):qt (m+1)=qcB m (qt m) (jr m (qt m) m):=rfl
theorem qf6 (m k):(jr m (qt m) (k+1))=qaQ m (qt m) (jr m (qt m) k):=rfl
theorem qwK (m):Qc (m+1)=qgQ m:=rfl
theorem qzP (m):yx (m+1)=qjv m:=rfl
theorem qp7 (m):J1 (m+1)=qee m:=rfl
theorem qeD (m):zd (m+1)=yy m (ql m m).1 (ql m m).2:=rfl
theorem JH (m k):(ql m (k+1)).1=yG m (ql m k).1 (ql m k).2:=rfl
theorem JK (m k):(ql m (k+1)).2=yE m (ql m k).1 (ql m k).2:=rfl
theorem qAq (m):qg9 (m+1)=qgi m (qaY m m):=rfl
theorem qov (m k):(qaY m (k+1))=qgn m (qaY m k):=rfl
theorem qBL (m):qgO (m+1)=qg5 m (qbN m m):=rfl
theorem qpX (m k):(qbN m (k+1))=qg4 m (qbN m k):=rfl
theorem qt0 (m):zR (m+1)=qcT m (zR m) (jW m (zR m) m):=rfl
theorem qj6 (m k):(jW m (zR m) (k+1))=qcQ m (zR m) (jW m (zR m) k):=rfl
theorem qy8 (m):yn (m+1)=qeI m (yn m) (qac m (yn m) m):=rfl
theorem qnd (m k):(qac m (yn m) (k+1))=qeT m (yn m) (qac m (yn m) k):=rfl
theorem quQ (m):qdr (m+1)=qcD m (J3 m m):=rfl
theorem qry (m k):(J3 m (k+1))=qf8 m (J3 m k):=rfl
theorem qDM (m):QX (m+1)=qid m (QX m) (qc9 m (QX m) m):=rfl
theorem qsD (m k):(qc9 m (QX m) (k+1))=qiv m (QX m) (qc9 m (QX m) k):=rfl
theorem qDb (m):qle (m+1)=qh8 m (qdn m m):=rfl
theorem qr3 (m k):(qdn m (k+1))=qil m (qdn m k):=rfl
theorem qpv (m):Ju (m+1)=qdb m:=rfl
theorem qp9 (m):zb (m+1)=qbb m (zb m) (jN m (zb m) m):=rfl
theorem qhO (m k):(jN m (zb m) (k+1))=qa7 m (zb m) (jN m (zb m) k):=rfl
theorem qnp (m):Qv (m+1)=qcg m:=rfl
theorem Qb (m):qx (m+1)=qC m (qn m m):=rfl
theorem z8 (m k):(qn m (k+1))=qB m (qn m k):=rfl
theorem qpt (m):Jt (m+1)=qdk m:=rfl
theorem qnI (m):qZ (m+1)=qam m (qZ m) (yS m (qZ m) m):=rfl
theorem qgp (m k):(yS m (qZ m) (k+1))=qak m (qZ m) (yS m (qZ m) k):=rfl
theorem qwR (m):JY (m+1)=qgG m:=rfl
theorem qro (m):Q4 (m+1)=qbl m (jn m m):=rfl
theorem qh1 (m k):(jn m (k+1))=qbj m (jn m k):=rfl
theorem qrR (m):jF (m+1)=qce m (qu m m).1 (qu m m).2.1 (qu m m).2.2:=rfl
theorem qiP (m k):(qu m (k+1)).1=qcc m (qu m k).1 (qu m k).2.1 (qu m k).2.2:=rfl
theorem qjm (m k):(qu m (k+1)).2.1=qbW m (qu m k).1 (qu m k).2.1 (qu m k).2.2:=rfl
theorem qjH (m k):(qu m (k+1)).2.2=qcd m (qu m k).1 (qu m k).2.1 (qu m k).2.2:=rfl
theorem qpy (m):qaH (m+1)=qax m (jx m m):=rfl
theorem qho (m k):(jx m (k+1))=qay m (jx m k):=rfl
theorem qnn (m):JI (m+1)=qbS m:=rfl
theorem qaR (m):qX (m+1)=zo m (qv m m):=rfl
theorem yb (m k):(qv m (k+1))=qO m (qv m k):=rfl
theorem J5 (m):qN (m+1)=zM m:=rfl
theorem qpr (m):qaJ (m+1)=qc7 m:=rfl
theorem quI (m):qc5 (m+1)=qcK m (Q6 m m):=rfl
theorem qkc (m k):(Q6 m (k+1))=qcF m (Q6 m k):=rfl
theorem quH (m):qdg (m+1)=qgh m:=rfl
theorem qta (m):zP (m+1)=qbU m (zP m) (Qe m (zP m) m):=rfl
theorem qja (m k):(Qe m (zP m) (k+1))=qbO m (zP m) (Qe m (zP m) k):=rfl
theorem qsk (m):qck (m+1)=qfa m:=rfl
theorem qqi (m):qbt (m+1)=qep m:=rfl
theorem ql4 (m):qI (m+1)=Jr m (qI m) (ym m (qI m) m):=rfl
theorem qfc (m k):(ym m (qI m) (k+1))=Jv m (qI m) (ym m (qI m) k):=rfl
theorem qus (m):qdc (m+1)=qf2 m:=rfl
theorem qkB (m):Qs (m+1)=qao m:=rfl
theorem qno (m):q9 (m+1)=JT m (q9 m) (yY m (q9 m) m):=rfl
theorem qgm (m k):(yY m (q9 m) (k+1))=JQ m (q9 m) (yY m (q9 m) k):=rfl
theorem qbH (m):qQ (m+1)=qo5 (qt m):=rfl
theorem qrk (m):yd (m+1)=qeh m:=rfl
theorem qaA (m):qD (m+1)=qsC (yd m):=rfl
theorem qtx (m):qdp (m+1)=qcO m (QW m m):=rfl
theorem qjL (m k):(QW m (k+1))=qcV m (QW m k):=rfl
theorem qv6 (m):qg6 (m+1)=qgH m:=rfl
theorem qzQ (m):qg7 (m+1)=qjj m:=rfl
theorem qtf (m):yV (m+1)=qe3 m:=rfl
theorem qDe (m):qlx (m+1)=qiy m (qfk m m):=rfl
theorem qCV (m k):(qfk m (k+1))=qly m (qfk m k):=rfl
theorem qqa (m):zC (m+1)=qen m:=rfl
theorem qtZ (m):Jp (m+1)=qfM m:=rfl
theorem qxY (m):yA (m+1)=qeJ m (yA m) (qae m (yA m) m):=rfl
theorem qmP (m k):(qae m (yA m) (k+1))=qeU m (yA m) (qae m (yA m) k):=rfl
theorem qrI (m):zj (m+1)=qb7 m (zj m) (Qf m (zj m) m):=rfl
theorem qjA (m k):(Qf m (zj m) (k+1))=qb3 m (zj m) (Qf m (zj m) k):=rfl
theorem qyj (m):yB (m+1)=qhE m:=rfl
theorem qsG (m):jp (m+1)=qb1 m (Qd m m):=rfl
theorem qjk (m k):(Qd m (k+1))=qb5 m (Qd m k):=rfl
theorem quA (m):J9 (m+1)=qfP m:=rfl
theorem qwB (m):qcr (m+1)=qgx m:=rfl
theorem qtF (m):Qi (m+1)=qcS m (Q9 m m):=rfl
theorem qjR (m k):(Q9 m (k+1))=qcR m (Q9 m k):=rfl
theorem qzy (m):qfB (m+1)=qhI m:=rfl
theorem qv3 (m):yL (m+1)=qdB m (yL m) (JB m (yL m) m):=rfl
theorem qkR (m k):(JB m (yL m) (k+1))=qdW m (yL m) (JB m (yL m) k):=rfl
theorem qv0 (m):yM (m+1)=qdE m (yM m) (JC m (yM m) m):=rfl
theorem qlg (m k):(JC m (yM m) (k+1))=qd1 m (yM m) (JC m (yM m) k):=rfl
theorem qw4 (m):zJ (m+1)=qgF m:=rfl
theorem qzu (m):qcf (m+1)=qeM m (J4 m m):=rfl
theorem qm9 (m k):(J4 m (k+1))=qeO m (J4 m k):=rfl
theorem qxz (m):qgf (m+1)=qeG m (J6 m m):=rfl
theorem qmW (m k):(J6 m (k+1))=qeN m (J6 m k):=rfl
theorem quj (m):qdd (m+1)=qcL m (Q3 m m):=rfl
theorem qka (m k):(Q3 m (k+1))=qcH m (Q3 m k):=rfl
theorem qwS (m):yo (m+1)=qdV m (yo m) (Qy m (yo m) m):=rfl
theorem qlh (m k):(Qy m (yo m) (k+1))=qdO m (yo m) (Qy m (yo m) k):=rfl
theorem qwb (m):qew (m+1)=qgN m:=rfl
theorem qAo (m):zV (m+1)=qjy m:=rfl
theorem qCv (m):qaf (m+1)=qkG m:=rfl
theorem qr5 (m):qcm (m+1)=qe8 m:=rfl
theorem qz3 (m):qhv (m+1)=qfO m (qaV m m):=rfl
theorem qoJ (m k):(qaV m (k+1))=qfN m (qaV m k):=rfl
theorem qAa (m):qfd (m+1)=qf0 m (qa0 m m):=rfl
theorem qn8 (m k):(qa0 m (k+1))=qfv m (qa0 m k):=rfl
theorem qtH (m):qdf (m+1)=qcA m (QM m m):=rfl
theorem qkt (m k):(QM m (k+1))=qcz m (QM m k):=rfl
theorem qxS (m):qd6 (m+1)=qeF m (Jo m m):=rfl
theorem qmS (m k):(Jo m (k+1))=qeV m (Jo m k):=rfl
theorem qqU (m):zt (m+1)=qbh m (zt m) (jk m (zt m) m):=rfl
theorem qh3 (m k):(jk m (zt m) (k+1))=qa9 m (zt m) (jk m (zt m) k):=rfl
theorem qwG (m):qeu (m+1)=qd2 m (JE m m):=rfl
theorem qlu (m k):(JE m (k+1))=qdY m (JE m k):=rfl
theorem qzt (m):qf5 (m+1)=qhx m:=rfl
theorem qya (m):qgk (m+1)=qhL m:=rfl
theorem qAl (m):qhu (m+1)=qf9 m (qaU m m):=rfl
theorem qnQ (m k):(qaU m (k+1))=qgd m (qaU m k):=rfl
theorem qsq (m):JA (m+1)=qe1 m:=rfl
theorem qw2 (m):yq (m+1)=qd4 m (yq m) (Qz m (yq m) m):=rfl
theorem qk8 (m k):(Qz m (yq m) (k+1))=qdX m (yq m) (Qz m (yq m) k):=rfl
theorem qAb (m):qfp (m+1)=qfA m (Jg m m):=rfl
theorem qoy (m k):(Jg m (k+1))=qfu m (Jg m k):=rfl
theorem qss (m):zH (m+1)=qca m (zH m) (jC m (zH m) m):=rfl
theorem qjF (m k):(jC m (zH m) (k+1))=qb4 m (zH m) (jC m (zH m) k):=rfl
theorem qCi (m):qeZ (m+1)=qkK m:=rfl
theorem qwu (m):qa4 (m+1)=qd7 m (Qx m m):=rfl
theorem qli (m k):(Qx m (k+1))=qdT m (Qx m k):=rfl
theorem qrs (m):qbs (m+1)=qba m (qk m m).1 (qk m m).2.1 (qk m m).2.2.1 (qk m m).2.2.2:=rfl
theorem qhW (m k):(qk m (k+1)).1=qbg m (qk m k).1 (qk m k).2.1 (qk m k).2.2.1 (qk m k).2.2.2:=rfl
theorem qh2 (m k):(qk m (k+1)).2.1=qbm m (qk m k).1 (qk m k).2.1 (qk m k).2.2.1 (qk m k).2.2.2:=rfl
theorem qhQ (m k):(qk m (k+1)).2.2.1=qbc m (qk m k).1 (qk m k).2.1 (qk m k).2.2.1 (qk m k).2.2.2:=rfl
theorem qh5 (m k):(qk m (k+1)).2.2.2=qbn m (qk m k).1 (qk m k).2.1 (qk m k).2.2.1 (qk m k).2.2.2:=rfl
theorem qxv (m):qaG (m+1)=qhC m:=rfl
theorem qr8 (m):qat (m+1)=qe4 m:=rfl
theorem qrG (m):qcj (m+1)=qbQ m (Qj m m):=rfl
theorem qjf (m k):(Qj m (k+1))=qb6 m (Qj m k):=rfl
theorem qAk (m):qht (m+1)=qfL m (J0 m m):=rfl
theorem qoe (m k):(J0 m (k+1))=qgg m (J0 m k):=rfl
theorem qwz (m):qes (m+1)=qgR m:=rfl
theorem quB (m):ye (m+1)=qcM m (ye m) (QY m (ye m) m):=rfl
theorem qkh (m k):(QY m (ye m) (k+1))=qcE m (ye m) (QY m (ye m) k):=rfl
theorem qtT (m):qcY (m+1)=qga m:=rfl
theorem qAi (m):jm (m+1)=qfJ m (jm m) (qa5 m (jm m) m):=rfl
theorem qoD (m k):(qa5 m (jm m) (k+1))=qfY m (jm m) (qa5 m (jm m) k):=rfl
theorem qws (m):qet (m+1)=qdQ m (Jy m m):=rfl
theorem qlk (m k):(Jy m (k+1))=qdU m (Jy m k):=rfl
theorem qAj (m):qg8 (m+1)=qfC m (qaT m m):=rfl
theorem qnr (m k):(qaT m (k+1))=qfx m (qaT m k):=rfl
theorem qx9 (m):qfZ (m+1)=qeL m (qad m m):=rfl
theorem qnc (m k):(qad m (k+1))=qeW m (qad m k):=rfl
theorem qxP (m):qfy (m+1)=qhD m:=rfl
theorem qub (m):qcZ (m+1)=qfG m:=rfl
theorem qul (m):Qp (m+1)=qfH m:=rfl
theorem qwA (m):qa2 (m+1)=qdM m (Jx m m):=rfl
theorem qk2 (m k):(Jx m (k+1))=qd0 m (Jx m k):=rfl
theorem quG (m):yh (m+1)=qcP m (yh m) (QT m (yh m) m):=rfl
theorem qjP (m k):(QT m (yh m) (k+1))=qcW m (yh m) (QT m (yh m) k):=rfl
theorem qAp (m):qfo (m+1)=qfI m (qa6 m m):=rfl
theorem qoH (m k):(qa6 m (k+1))=qf1 m (qa6 m k):=rfl
theorem qtK (m):qbv (m+1)=qcG m (QP m m):=rfl
theorem qke (m k):(QP m (k+1))=qcC m (QP m k):=rfl
theorem qAc (m):qff (m+1)=qjE m:=rfl
theorem qwQ (m):qez (m+1)=qdR m (Jz m m):=rfl
theorem qlw (m k):(Jz m (k+1))=qdF m (Jz m k):=rfl
theorem qqV (m):qbD (m+1)=qbi m (jP m m):=rfl
theorem qhP (m k):(jP m (k+1))=qbf m (jP m k):=rfl
theorem qkv (m):Qk (m+1)=QE m (yt m m):=rfl
theorem qed (m k):(yt m (k+1))=QH m (yt m k):=rfl
theorem qpF (m):qaB (m+1)=qaE m (jy m m):=rfl
theorem qhd (m k):(jy m (k+1))=qaO m (jy m k):=rfl
theorem qrw (m):qci (m+1)=qbX m (Qq m m):=rfl
theorem qi8 (m k):(Qq m (k+1))=qbY m (Qq m k):=rfl
theorem qlB (m):law53_RatchetValid (m+1)=qbx m:=rfl
end Go.AmYtbpnmbmdbblehaaGreat
namespace Go.GxYtbpnmbmdbblehaaGreat
noncomputable def size:T→Nat:=T.para λ _ rs=>1+rs.sum
theorem qS (t:T):size t=1+(t.kids.map size).sum:=T.para_eq _ _
theorem size_pos (t:T):1≤size t:=by rw [qS];omega
theorem qBH (l:List T):l.length≤(l.map size).sum:=by
 induction l with
 | nil=>simp
 | cons x l ih=>have:=size_pos x;simp only [List.length_cons,List.map_cons,List.sum_cons];omega
theorem qih (l:List T) (x:T) (h:x∈l):size x≤(l.map size).sum:=by
 induction l with
 | nil=>cases h
 | cons y l ih =>
   simp only [List.map_cons,List.sum_cons]
   rcases List.mem_cons.1 h with rfl | h
   ·omega
   ·have:=ih h;omega
theorem jl (t:T) (x:T) (h:x∈t.kids):size x<size t:=by
 have:=qih t.kids x h
 rw [qS t];omega
theorem yJ (t:T):t.kids.length<size t:=by
 have:=qBH t.kids
 rw [qS t];omega
def sgn (a b:Int):Int:=if a<b then -1 else if b<a then 1 else 0
def thn (x y:Int):Int:=if x=0 then y else x
structure Cmp {α : Type} (f : α → α → Int):Prop where
 rng:∀ a b,f a b=-1∨f a b=0∨f a b=1
 anti:∀ a b,f b a=- f a b
 trans:∀ a b c,f a b=-1→f b c=-1→f a c=-1
 same:∀ a b c,f a b=0→f b c=f a c
theorem Cmp.thn {α : Type} {f g : α → α → Int} (hf:Cmp f) (hg:Cmp g):Cmp λ a b=>thn (f a b) (g a b):=by
 constructor
 ·intro a b
  have:=hf.rng a b;have:=hg.rng a b
  unfold GxYtbpnmbmdbblehaaGreat.thn;split<;>omega
 ·intro a b
  have:=hf.anti a b;have:=hg.anti a b
  unfold GxYtbpnmbmdbblehaaGreat.thn;split<;>split<;>omega
 ·intro a b c h1 h2
  have a1:=hf.anti a b;have a2:=hf.anti b c;have a3:=hf.anti a c
  have t1:=hf.trans a b c;have t2:=hg.trans a b c
  have s1:=hf.same a b c;have s2:=hf.same c b a
  have r1:=hf.rng a b;have r2:=hf.rng b c;have r3:=hf.rng a c
  unfold GxYtbpnmbmdbblehaaGreat.thn at h1 h2 ⊢
  by_cases x1:f a b=0
  ·by_cases x2:f b c=0
   ·rw [if_pos x1] at h1
    rw [if_pos x2] at h2
    rw [if_pos (by rw [← s1 x1];exact x2)]
    exact t2 h1 h2
   ·rw [if_neg x2] at h2
    rw [if_neg (by rw [← s1 x1];exact x2),← s1 x1]
    exact h2
  ·rw [if_neg x1] at h1
   by_cases x2:f b c=0
   ·have:=s2 (by omega)
    rw [if_neg (by omega)]
    omega
   ·rw [if_neg x2] at h2
    have:=t1 h1 h2
    rw [if_neg (by omega)]
    exact this
 ·intro a b c h
  have x1:f a b=0:=by
   unfold GxYtbpnmbmdbblehaaGreat.thn at h
   split at h
   ·assumption
   ·exact absurd h (by assumption)
  have x2:g a b=0:=by
   unfold GxYtbpnmbmdbblehaaGreat.thn at h
   rwa [if_pos x1] at h
  show GxYtbpnmbmdbblehaaGreat.thn _ _=GxYtbpnmbmdbblehaaGreat.thn _ _
  rw [hf.same a b c x1,hg.same a b c x2]
theorem Cmp.on {α β : Type} {f : β → β → Int} (hf:Cmp f) (p : α → β):Cmp λ a b=>f (p a) (p b) :=
 ⟨λ _ _=>hf.rng _ _,λ _ _=>hf.anti _ _,λ _ _ _=>hf.trans _ _ _,λ _ _ _=>hf.same _ _ _⟩
theorem qpg:Cmp sgn:=by
 constructor
 ·intro a b;unfold sgn;split<;>(try split)<;>omega
 ·intro a b;unfold sgn;split<;>split<;>(try split)<;>omega
 ·intro a b c;unfold sgn;split<;>split<;>(try split)<;>(try split)<;>omega
 ·intro a b c;unfold sgn;split<;>split<;>(try split)<;>(try split)<;>omega
theorem qjD {a b:Int} (h:sgn a b=0):a=b:=by unfold sgn at h;split at h<;>(try split at h)<;>omega
theorem qFT (a:Int):sgn a a=0:=by unfold sgn;split<;>(try split)<;>omega
open Lib (compareBytes)
theorem qvl (a:List UInt8):compareBytes a a=0:=by
 induction a with
 | nil=>rfl
 | cons x a ih=>simp [compareBytes,ih]
theorem qmn:∀ a b:List UInt8,compareBytes a b=-1∨compareBytes a b=0∨compareBytes a b=1
 | [],[]=>by simp [compareBytes]
 | [],_::_=>by simp [compareBytes]
 | _::_,[]=>by simp [compareBytes]
 | x::a,y::b=>by
   unfold compareBytes
   split
   ·simp
   ·split
    ·simp
    ·exact qmn a b
theorem qvI:∀ a b:List UInt8,compareBytes b a=- compareBytes a b
 | [],[]=>by simp [compareBytes]
 | [],_::_=>by simp [compareBytes]
 | _::_,[]=>by simp [compareBytes]
 | x::a,y::b=>by
   have:=qvI a b
   unfold compareBytes
   simp only [UInt8.lt_iff_toNat_lt]
   split<;>split<;>(try split)<;>omega
theorem qjQ:∀ a b:List UInt8,compareBytes a b=0→a=b
 | [],[],_=>rfl
 | [],_::_,h=>by simp [compareBytes] at h
 | _::_,[],h=>by simp [compareBytes] at h
 | x::a,y::b,h=>by
   unfold compareBytes at h
   simp only [UInt8.lt_iff_toNat_lt] at h
   split at h
   ·omega
   ·split at h
    ·omega
    ·rw [qjQ a b h,UInt8.toNat_inj.1 (show x.toNat=y.toNat by omega)]
theorem qsv:∀ a b c:List UInt8,compareBytes a b=-1→compareBytes b c=-1→compareBytes a c=-1
 | [],_,[],h1,h2=>by
   rename_i b
   cases b<;>simp [compareBytes] at h1 h2
 | [],_,_::_,_,_=>by simp [compareBytes]
 | _::_,[],_,h1,_=>by simp [compareBytes] at h1
 | _::_,_::_,[],_,h2=>by simp [compareBytes] at h2
 | x::a,y::b,z::c,h1,h2=>by
   have ih:=qsv a b c
   unfold compareBytes at h1 h2 ⊢
   simp only [UInt8.lt_iff_toNat_lt] at h1 h2 ⊢
   split at h1
   ·split at h2
    ·rw [if_pos (by omega)]
    ·split at h2
     ·omega
     ·rw [if_pos (by omega)]
   ·split at h1
    ·omega
    ·split at h2
     ·rw [if_pos (by omega)]
     ·split at h2
      ·omega
      ·rw [if_neg (by omega),if_neg (by omega)];exact ih h1 h2
theorem qFD:Cmp compareBytes :=
 ⟨qmn,qvI,qsv,λ a b c h=>by rw [qjQ a b h]⟩
def Qo:List (T→Int)→List T→Int
 | r::rs,b::bs=>thn (r b) (Qo rs bs)
 | _,_=>0
noncomputable def qhJ (a b:T):Int :=
 thn (sgn (size a) (size b)) (thn (sgn a.kind b.kind) (thn (compareBytes a.name b.name) (thn (sgn a.sort b.sort) (sgn a.kids.length b.kids.length))))
noncomputable def qp:T→T→Int:=T.para λ a rs b=>thn (qhJ a b) (Qo rs b.kids)
theorem qfe (a b:T):qp a b=thn (qhJ a b) (Qo (a.kids.map qp) b.kids):=congrFun (T.para_eq _ _) b
theorem qdu:Cmp qhJ :=
 (qpg.on λ t:T=>(size t:Int)).thn ((qpg.on T.kind).thn ((qFD.on T.name).thn ((qpg.on T.sort).thn (qpg.on λ t:T=>(t.kids.length:Int)))))
theorem qe0 {x y:Int} (h:thn x y=0):x=0∧y=0:=by unfold thn at h;split at h<;>omega
theorem qn3 {a b:T} (h:qhJ a b=0):a.kind=b.kind∧a.name=b.name∧a.sort=b.sort∧a.kids.length=b.kids.length:=by
 unfold qhJ at h
 obtain ⟨_,h⟩:=qe0 h
 obtain ⟨h2,h⟩:=qe0 h
 obtain ⟨h3,h⟩:=qe0 h
 obtain ⟨h4,h5⟩:=qe0 h
 have:=qjD h5
 exact ⟨qjD h2,qjQ _ _ h3,qjD h4,by omega⟩
theorem qDa (a:T):qhJ a a=0:=by
 unfold qhJ thn
 simp [qFT,qvl]
theorem T.ext {a b:T} (h1:a.kind=b.kind) (h2:a.name=b.name) (h3:a.sort=b.sort) (h4:a.kids=b.kids):a=b:=by
 obtain ⟨k,n,s,l⟩:=a
 obtain ⟨k',n',s',l'⟩:=b
 simp only [T.kind,T.name,T.sort,T.kids] at h1 h2 h3 h4
 rw [h1,h2,h3,h4]
theorem qoO (a:T):qp a a=0:=by
 refine T.ind (P := λ a=>qp a a=0) ?_ a
 intro a ih
 rw [qfe,qDa,thn,if_pos rfl]
 generalize a.kids=l at *
 induction l with
 | nil=>rfl
 | cons x l ihl =>
   rw [List.map_cons,Qo,ih x (List.mem_cons_self ..),thn,if_pos rfl]
   exact ihl λ k hk=>ih k (List.mem_cons_of_mem _ hk)
theorem JZ (a:T):∀ b,qp a b=0→a=b:=by
 refine T.ind (P := λ a=>∀ b,qp a b=0→a=b) ?_ a
 intro a ih b h
 rw [qfe] at h
 obtain ⟨h1,h2⟩:=qe0 h
 obtain ⟨k1,k2,k3,k4⟩:=qn3 h1
 refine T.ext k1 k2 k3 ?_
 generalize a.kids=l at *
 generalize b.kids=m at *
 clear h h1
 induction l generalizing m with
 | nil=>exact (List.length_eq_zero_iff.1 k4.symm).symm
 | cons x l ihl =>
   cases m with
   | nil=>simp at k4
   | cons y m =>
     rw [List.map_cons,Qo] at h2
     obtain ⟨h3,h4⟩:=qe0 h2
     rw [ih x (List.mem_cons_self ..) y h3,ihl (λ k hk=>ih k (List.mem_cons_of_mem _ hk)) m h4 (by simpa using k4)]
def qsM (a:T):Prop:=(∀ b,qp a b=-1∨qp a b=0∨qp a b=1)∧(∀ b,qp b a=- qp a b)∧(∀ b c,qp a b=-1→qp b c=-1→qp a c=-1)
theorem qze:∀ l m:List T,(∀ k∈l,qsM k)→Qo (l.map qp) m=-1∨Qo (l.map qp) m=0∨Qo (l.map qp) m=1
 | [],_,_=>by simp [Qo]
 | _::_,[],_=>by simp [Qo]
 | x::l,y::m,h=>by
   rw [List.map_cons,Qo]
   have h1:=(h x (List.mem_cons_self ..)).1 y
   have h2:=qze l m λ k hk=>h k (List.mem_cons_of_mem _ hk)
   unfold thn;split<;>omega
theorem qvV:∀ l m:List T,(∀ k∈l,qsM k)→Qo (m.map qp) l=- Qo (l.map qp) m
 | [],[],_=>by simp [Qo]
 | [],_::_,_=>by simp [Qo]
 | _::_,[],_=>by simp [Qo]
 | x::l,y::m,h=>by
   rw [List.map_cons,Qo,List.map_cons,Qo]
   have h1:=(h x (List.mem_cons_self ..)).2.1 y
   have h2:=qvV l m λ k hk=>h k (List.mem_cons_of_mem _ hk)
   unfold thn;split<;>split<;>omega
theorem qrP:∀ l m n:List T,(∀ k∈l,qsM k)→l.length=m.length→m.length=n.length→Qo (l.map qp) m=-1→Qo (m.map qp) n=-1→Qo (l.map qp) n=-1
 | [],_,_,_,_,_,h,_=>by simp [Qo] at h
 | _::_,[],_,_,h,_,_,_=>by simp at h
 | _::_,_::_,[],_,_,h,_,_=>by simp at h
 | x::l,y::m,z::n,h,e1,e2,h1,h2=>by
   rw [List.map_cons,Qo] at h1 h2 ⊢
   have hx:=h x (List.mem_cons_self ..)
   have ih:=qrP l m n (λ k hk=>h k (List.mem_cons_of_mem _ hk)) (by simpa using e1) (by simpa using e2)
   have t1:=hx.2.2 y z
   by_cases x1:qp x y=0
   ·have:=JZ x y x1
    subst this
    rw [thn,if_pos x1] at h1
    by_cases x2:qp x z=0
    ·rw [thn,if_pos x2] at h2 ⊢
     exact ih h1 h2
    ·rw [thn,if_neg x2] at h2 ⊢
     exact h2
   ·rw [thn,if_neg x1] at h1
    by_cases x2:qp y z=0
    ·have:=JZ y z x2
     subst this
     rw [thn,if_neg x1]
     exact h1
    ·rw [thn,if_neg x2] at h2
     have:=t1 h1 h2
     rw [thn,if_neg (by omega)]
     exact this
theorem qCw (a:T):qsM a:=by
 refine T.ind (P:=qsM) ?_ a
 intro a ih
 refine ⟨λ b=>?_,λ b=>?_,λ b c h1 h2=>?_⟩
 ·rw [qfe]
  have h1:=qdu.rng a b
  have h2:=qze a.kids b.kids ih
  unfold thn;split<;>omega
 ·rw [qfe,qfe]
  have h1:=qdu.anti a b
  have h2:=qvV a.kids b.kids ih
  unfold thn;split<;>split<;>omega
 ·rw [qfe] at h1 h2 ⊢
  by_cases x1:qhJ a b=0
  ·rw [thn,if_pos x1] at h1
   have e:=qdu.same a b c x1
   by_cases x2:qhJ b c=0
   ·rw [thn,if_pos x2] at h2
    rw [thn,if_pos (by rw [← e];exact x2)]
    exact qrP _ _ _ ih (qn3 x1).2.2.2 (qn3 x2).2.2.2 h1 h2
   ·rw [thn,if_neg x2] at h2
    rw [thn,if_neg (by rw [← e];exact x2),← e]
    exact h2
  ·rw [thn,if_neg x1] at h1
   by_cases x2:qhJ b c=0
   ·have e1:=qdu.anti b c
    have e2:=qdu.same c b a (by omega)
    have e3:=qdu.anti a b
    have e4:=qdu.anti a c
    rw [thn,if_neg (by omega)];omega
   ·rw [thn,if_neg x2] at h2
    have:=qdu.trans a b c h1 h2
    rw [thn,if_neg (by omega)];exact this
theorem zI:Cmp qp :=
 ⟨λ a=>(qCw a).1,λ a b=>(qCw a).2.1 b,λ a=>(qCw a).2.2,λ a b c h=>by rw [JZ a b h]⟩
theorem qGB (a b:T):qp a b=0↔a=b:=⟨JZ a b,λ h=>by rw [h];exact qoO b⟩
theorem qnh:∀ a b:List UInt8,Op.bytesLess a b=decide (compareBytes a b=-1)
 | [],[]=>by simp [Op.bytesLess,compareBytes]
 | [],_::_=>by simp [Op.bytesLess,compareBytes]
 | _::_,[]=>by simp [Op.bytesLess,compareBytes]
 | x::a,y::b=>by
   rw [Op.bytesLess,compareBytes,qnh a b]
   by_cases h1:x<y
   ·simp [h1]
   ·by_cases h2:y<x
    ·have:¬ x=y := λ e=>by rw [e] at h2;exact h1 (by rw [e];exact h2)
     simp [h1,h2,this]
    ·have:x=y:=UInt8.toNat_inj.1 (by rw [UInt8.lt_iff_toNat_lt] at h1 h2;omega)
     simp [this]
end Go.GxYtbpnmbmdbblehaaGreat
namespace Go.GxYtbpnmbmdbblehaaGreat
def qjg:List (Int→Int)→Int→Int
 | [],m=>m
 | f::fs,m=>if f m<0 then -1 else qjg fs (f m)
noncomputable def qar:T→Int→Int:=T.para λ t rs m=>if m≤0∨40<t.name.length then -1 else qjg rs (m-1)
theorem qA3 (t:T) (m:Int):qar t m=if m≤0∨40<t.name.length then -1 else qjg (t.kids.map qar) (m-1):=congrFun (T.para_eq _ _) m
theorem qnv (t:T):∀ m,qar t m<0∧qar t m=-1∨0≤qar t m∧qar t m=m-size t:=by
 refine T.ind (P := λ t=>∀ m,qar t m<0∧qar t m=-1∨0≤qar t m∧qar t m=m-size t) ?_ t
 intro t ih m
 have hL:∀ l:List T,(∀ k∈l,k∈t.kids)→∀ m,0≤m→(qjg (l.map qar) m<0∧qjg (l.map qar) m=-1∨0≤qjg (l.map qar) m∧qjg (l.map qar) m=m-((l.map size).sum:Nat)):=by
  intro l
  induction l with
  | nil=>intro _ m hm;right;simp [qjg];exact hm
  | cons x l ihl =>
    intro hl m hm
    simp only [List.map_cons,qjg,List.sum_cons]
    have h1:=ih x (hl x (List.mem_cons_self ..)) m
    by_cases h2:qar x m<0
    ·rw [if_pos h2];left;exact ⟨by omega,rfl⟩
    ·rw [if_neg h2]
     have h3:=ihl (λ k hk=>hl k (List.mem_cons_of_mem _ hk)) (qar x m) (by omega)
     omega
 rw [qA3,qS]
 split
 ·left;exact ⟨by omega,rfl⟩
 ·have:=hL t.kids (λ _ h=>h) (m-1) (by omega)
  omega
noncomputable def qef:T→Nat:=T.para λ _ rs=>rs.foldl max 0+1
theorem qiG (t:T):qef t=(t.kids.map qef).foldl max 0+1:=T.para_eq _ _
theorem qzm (l:List Nat):∀ (a b:Nat),a≤b→(∀ x∈l,x≤b)→l.foldl max a≤b:=by
 induction l with
 | nil=>intro a b h _;exact h
 | cons x l ih=>intro a b h hx;exact ih _ _ (Nat.max_le.2 ⟨h,hx x (List.mem_cons_self ..)⟩) λ y hy=>hx y (List.mem_cons_of_mem _ hy)
theorem qAP (t:T):qef t≤size t:=by
 refine T.ind (P := λ t=>qef t≤size t) ?_ t
 intro t ih
 rw [qiG,qS]
 have:(t.kids.map qef).foldl max 0≤(t.kids.map size).sum:=by
  refine qzm _ _ _ (Nat.zero_le _) λ x hx=>?_
  obtain ⟨k,hk,rfl⟩:=List.mem_map.1 hx
  exact Nat.le_trans (ih k hk) (qih _ _ hk)
 omega
def qgL (c:Int):Bool:=decide (97≤c∧c≤122)||decide (65≤c∧c≤90)
def qri (c:Int):Bool:=decide (48≤c∧c≤57)
def JW (c:Int):Bool:=qgL c||qri c||decide (c=95)||decide (c=35)
def JJ (l:List UInt8):Bool:=decide (0<l.length)&&decide (l.length≤24)&&qgL ((l.getD 0 0).toNat:Int)&&l.all λ c=>JW (c.toNat:Int)
def qmF (k so:Int) (n:Nat) (ok:Bool):Int :=
 if k=1∨k=2 then (if so<0∨5<so∨0<n then 1 else if ok then 0 else 2)
 else if k=3 then (if so≠0 then 1 else if ok then (if 8<n then 3 else 0) else 2)
 else 1
def Qu (t:T):Int:=qmF t.kind t.sort t.kids.length (JJ t.name)
noncomputable def JF:T→Int:=T.para λ t rs=>rs.foldl thn (Qu t)
theorem qjV (t:T):JF t=(t.kids.map JF).foldl thn (Qu t):=T.para_eq _ _
theorem jX {x:Int} (h:x≠0) (y:Int):thn x y=x:=if_neg h
theorem qH (l:List Int):∀ {x:Int},x≠0→l.foldl thn x=x:=by
 induction l with
 | nil=>intro x _;rfl
 | cons y l ih=>intro x h;rw [List.foldl_cons,jX h];exact ih h
theorem jR (l:List Int) (x:Int):(x::l).foldl thn 0=l.foldl thn x:=rfl
theorem qpS {t:T} (h:JF t=0):Qu t=0∧(∀ k∈t.kids,JF k=0):=by
 rw [qjV] at h
 by_cases h0:Qu t=0
 ·refine ⟨h0,?_⟩
  rw [h0] at h
  generalize t.kids=l at *
  clear h0
  induction l with
  | nil=>intro k hk;cases hk
  | cons x l ih =>
    rw [List.map_cons,jR] at h
    by_cases hx:JF x=0
    ·rw [hx] at h
     intro k hk
     rcases List.mem_cons.1 hk with rfl | hk
     ·exact hx
     ·exact ih h k hk
    ·rw [qH _ hx] at h;exact absurd h hx
 ·rw [qH _ h0] at h;exact absurd h h0
noncomputable def qR (t:T):Int:=if JF t≠0 then JF t else if 400<size t∨40<qef t then 3 else 0
noncomputable instance:DecidableEq T := λ _ _=>Classical.propDecidable _
noncomputable def yz (a b:T):Bool:=decide (a=b)
noncomputable def qnW:List T→Int→Bool
 | [],_=>true
 | x::l,m=>if qar x m<0 then false else qnW l (qar x m)
theorem qu4:∀ (l:List T) (m:Int),0≤m→qnW l m=true→((l.map size).sum:Nat)≤m
 | [],m,hm,_=>by simpa using hm
 | x::l,m,hm,h=>by
   rw [qnW] at h
   by_cases hx:qar x m<0
   ·rw [if_pos hx] at h;exact absurd h (by decide)
   ·rw [if_neg hx] at h
    have h1:=qnv x m
    have h2:=qu4 l (qar x m) (by omega) h
    simp only [List.map_cons,List.sum_cons]
    omega
def jt:List (List UInt8 × Int × Int × Int):=[
 ([112,97,105,114],2,2,1),
 ([101,110,99],2,2,1),
 ([97,101,110,99],2,2,1),
 ([112,107],1,1,1),
 ([115,105,103,110],2,2,1),
 ([104,97,115,104],1,1,1),
 ([120,111,114],2,8,1),
 ([122,101,114,111],0,0,1),
 ([101,120,112],2,2,1),
 ([109,117,108],2,8,1),
 ([105,110,118],1,1,1),
 ([111,110,101],0,0,1),
 ([115,107],1,1,2),
 ([115,104,107],2,2,2),
 ([110,101,119],1,8,2),
 ([102,115,116],1,1,3),
 ([115,110,100],1,1,3),
 ([100,101,99],2,2,3),
 ([97,100,101,99],2,2,3),
 ([111,112,101,110],2,2,3),
 ([114,101,97,100],1,1,3)]
def qum (l:List (List UInt8 × Int × Int × Int)) (n:List UInt8):Int × Int × Int:=((l.find? λ r=>r.1==n).map (·.2)).getD (0,0,0)
theorem qDL (r:List UInt8 × Int × Int × Int) (l:List (List UInt8 × Int × Int × Int)) (n:List UInt8):qum (r::l) n=if (r.1==n)=true then r.2 else qum l n:=by
 unfold qum
 rw [List.find?_cons]
 cases h:r.1==n<;>simp
def qFZ (l:List (List UInt8 × Int × Int × Int)) (n:List UInt8):Bool:=l.any λ r=>r.1==n
def qkM (l:List (List UInt8 × Int × Int × Int)) (n:List UInt8) (k:Int):Bool:=qFZ l n&&decide ((qum l n).1≤k)&&decide (k≤(qum l n).2.1)
theorem qEt (r:List UInt8 × Int × Int × Int) (l:List (List UInt8 × Int × Int × Int)) (n:List UInt8) (k:Int) :
  qkM (r::l) n k=if (r.1==n)=true then decide (r.2.1≤k)&&decide (k≤r.2.2.1) else qkM l n k:=by
 unfold qkM
 rw [qDL]
 unfold qFZ
 rw [List.any_cons]
 cases h:r.1==n<;>simp
def qlQ:List UInt8:=[112,97,105,114]
def ql5:List UInt8:=[101,110,99]
def qgW:List UInt8:=[97,101,110,99]
def nPk:List UInt8:=[112,107]
def qdA:List UInt8:=[115,105,103,110]
def qej:List UInt8:=[120,111,114]
def qbk:List UInt8:=[122,101,114,111]
def qei:List UInt8:=[101,120,112]
def qf7:List UInt8:=[109,117,108]
def QB:List UInt8:=[105,110,118]
def qhG:List UInt8:=[111,110,101]
def nSk:List UInt8:=[115,107]
def qp6:List UInt8:=[115,104,107]
def qgV:List UInt8:=[110,101,119]
def qFo:List UInt8:=[102,115,116]
def qug:List UInt8:=[115,110,100]
def qE0:List UInt8:=[100,101,99]
def qCm:List UInt8:=[97,100,101,99]
def qCY:List UInt8:=[111,112,101,110]
def qCL:List UInt8:=[114,101,97,100]
def zT:T := .mk 0 [] 0 []
def kid (t:T) (i:Nat):T:=t.kids.getD i zT
def apT (n:List UInt8) (l:List T):T := .mk 3 n 0 l
def isN (t:T) (n:List UInt8):Bool:=t.kind==3&&t.name==n
def qE (n:List UInt8):Int × Int × Int:=((jt.find? λ r=>r.1==n).map (·.2)).getD (0,0,0)
def JO (t:T):Bool :=
 if t.name=qgV then decide ((kid t 0).kind≠2)
 else if t.name=nSk∨t.name=qp6 then t.kids.any λ k=>decide (k.kind=3)||decide (k.sort≠1) else false
def qbC (t:T):Int :=
 if t.kind≠3 then 0 else if (qE t.name).2.2=0 then 10 else if (t.kids.length:Int)<(qE t.name).1∨(qE t.name).2.1<(t.kids.length:Int) then 6 else if JO t then 10 else 0
noncomputable def zf:T→Int:=T.para λ t rs=>if t.kind≠3 then 0 else rs.foldl thn (qbC t)
theorem qll (t:T):zf t=if t.kind≠3 then 0 else (t.kids.map zf).foldl thn (qbC t):=T.para_eq _ _
noncomputable def qkJ (t:T):Int:=thn (qR t) (zf t)
noncomputable def zO (t:T):Bool :=
 if t.name=qFo∨t.name=qug then isN (kid t 0) qlQ
 else if t.name=qE0 then isN (kid t 0) ql5&&yz (kid (kid t 0) 1) (kid t 1)
 else if t.name=qCm then isN (kid t 0) qgW&&isN (kid (kid t 0) 1) nPk&&yz (kid (kid (kid t 0) 1) 0) (kid t 1)
 else if t.name=qCY then isN (kid t 0) qdA&&isN (kid t 1) nPk&&yz (kid (kid t 0) 1) (kid (kid t 1) 0)
 else if t.name=qCL then isN (kid t 0) qdA else false
noncomputable def qhz (t:T):T:=if zO t then kid (kid t 0) (if t.name=qug then 1 else 0) else t
def qbZ (t:T):Bool:=t.kind==3&&(t.name==qf7||t.name==QB||t.name==qhG)
abbrev Pw:=T × Int
noncomputable def yk:List Pw→T→Int→List Pw
 | [],t,n=>[(t,n)]
 | (x,m)::l,t,n=>if qp t x=-1 then (t,n)::(x,m)::l else if qp t x=0 then (if m+n=0 then l else (x,m+n)::l) else (x,m)::yk l t n
def arK (t:T):Bool := !(t.name==qhG&&t.kids.length != 0||t.name==QB&&t.kids.length != 1||t.name==qf7&&decide (t.kids.length<2))
noncomputable def arT:T→Bool:=T.para λ t rs => !qbZ t||(arK t&&rs.all id)
theorem qsO (t:T):arT t=(!qbZ t||(arK t&&(t.kids.map arT).all id)):=T.para_eq _ _
def J7 (t:T) (n:Int):Int:=if t.name=QB then -n else n
noncomputable def yT:T→List Pw→Int→List Pw:=T.para λ t rs l n=>if qbZ t then rs.foldl (λ l f=>f l (J7 t n)) l else yk l t n
theorem qfl (t:T) (l:List Pw) (n:Int):yT t l n=if qbZ t then (t.kids.map yT).foldl (λ l f=>f l (J7 t n)) l else yk l t n:=by
 have h:yT t = λ l n=>if qbZ t then (t.kids.map yT).foldl (λ l f=>f l (J7 t n)) l else yk l t n:=T.para_eq _ _
 rw [h]
noncomputable def ofP (t:T):List Pw × Int :=
 if qR t≠0 then ([],qR t) else if arT t=false then ([],6) else if 200<(yT t [] 1).length then ([],3) else (yT t [] 1,0)
noncomputable def pvK (q:Option T) (p:Pw):Int :=
 if qR p.1≠0 then qR p.1 else if qbZ p.1 then 1 else if p.2=0∨p.2 < -1000∨1000<p.2 then 7 else match q with | some x=>if 0≤qp x p.1 then 5 else 0 | none=>0
noncomputable def pvL:Option T→List Pw→Int
 | _,[]=>0
 | q,p::l=>thn (pvK q p) (pvL (some p.1) l)
noncomputable def QI (l:List Pw):Int:=if 200<l.length then 3 else pvL none l
def zK (l:List Pw):List T:=l.flatMap λ p=>List.replicate p.2.toNat p.1
def zQ (l:List Pw):List T:=l.flatMap λ p=>List.replicate (-p.2).toNat (apT QB [p.1])
def Jj (o:List T):T:=if o.length=0 then apT qhG [] else if o.length=1 then o.getD 0 zT else apT qf7 o
noncomputable def qal (l:List Pw):T × Int :=
 if QI l≠0 then (zT,QI l) else if 8<(zK l++zQ l).length then (zT,3)
 else if qR (Jj (zK l++zQ l))≠0 then (zT,qR (Jj (zK l++zQ l))) else (Jj (zK l++zQ l),0)
def qkD (l:List Pw):Bool:=l.any λ p=>decide (p.2 < -1000)||decide (1000<p.2)
noncomputable def Qt (a b:List Pw):List Pw:=b.foldl (λ l p=>yk l p.1 p.2) a
noncomputable def qiT (a b:List Pw):List Pw × Int :=
 if QI a≠0 then ([],QI a) else if QI b≠0 then ([],QI b) else if qkD (Qt a b) then ([],7) else if 200<(Qt a b).length then ([],3) else (Qt a b,0)
noncomputable def zg:List T→List T→List T
 | [],b=>b
 | x::a,[]=>x::a
 | x::a,y::b=>if qp x y=-1 then x::zg a (y::b) else if qp x y=1 then y::zg (x::a) b else zg a b
termination_by a b=>a.length+b.length
noncomputable def ju:T→List T:=T.para λ t rs=>if isN t qbk&&t.kids.isEmpty then [] else if isN t qej then rs.foldl zg [] else [t]
theorem qiZ (t:T):ju t=if isN t qbk&&t.kids.isEmpty then [] else if isN t qej then (t.kids.map ju).foldl zg [] else [t]:=T.para_eq _ _
noncomputable def qk3 (l:List T):Int:=if 200<l.length then 3 else (l.map qR).foldl thn 0
noncomputable def zF (l:List T):List T:=(l.map ju).foldl zg []
def JD (o:List T):T:=if o.length=0 then apT qbk [] else if o.length=1 then o.getD 0 zT else apT qej o
noncomputable def ql3 (l:List T):T × Int :=
 if qk3 l≠0 then (zT,qk3 l) else if qR (JD (zF l))≠0 then (zT,3) else (JD (zF l),0)
noncomputable def qgB (b:T) (l:List Pw):T × Int :=
 if l.length=0 then (b,0) else if (qal l).2≠0 then (zT,(qal l).2) else (apT qei [b,(qal l).1],0)
noncomputable def qmc (b e:T):T × Int :=
 if (ofP e).2≠0 then (zT,(ofP e).2)
 else if isN b qei then
  (if (ofP (kid b 1)).2≠0 then (zT,(ofP (kid b 1)).2)
   else if (qiT (ofP (kid b 1)).1 (ofP e).1).2≠0 then (zT,(qiT (ofP (kid b 1)).1 (ofP e).1).2)
   else qgB (kid b 0) (qiT (ofP (kid b 1)).1 (ofP e).1).1)
 else qgB b (ofP e).1
def isD (n:List UInt8):Bool:=n==qFo||n==qug||n==qE0||n==qCm||n==qCY||n==qCL
noncomputable def qj5 (t:T):T × Int:=if (ofP t).2≠0 then (zT,(ofP t).2) else qal (ofP t).1
noncomputable def Jl (t:T):T × Int :=
 if isD t.name then (qhz t,0) else if t.name=qej then ql3 t.kids
 else if t.name=qf7∨t.name=QB∨t.name=qhG then qj5 t
 else if t.name=qei then qmc (kid t 0) (kid t 1) else (t,0)
noncomputable def zw:T→T × Int:=T.para λ t rs =>
 if t.kind≠3 then (t,0) else if (rs.map (·.2)).foldl thn 0≠0 then (zT,(rs.map (·.2)).foldl thn 0) else Jl (apT t.name (rs.map (·.1)))
theorem qk0 (t:T):zw t=if t.kind≠3 then (t,0) else if ((t.kids.map zw).map (·.2)).foldl thn 0≠0 then (zT,((t.kids.map zw).map (·.2)).foldl thn 0) else Jl (apT t.name ((t.kids.map zw).map (·.1))):=T.para_eq _ _
noncomputable def qiL (t:T):T × Int :=
 if qkJ t≠0 then (zT,qkJ t) else if (zw t).2≠0 then (zT,(zw t).2) else if qR (zw t).1≠0 then (zT,qR (zw t).1) else zw t
def agB (l:List T):Bool:=l.all λ k => !(k.kind==3) && !(k.sort != 1)
def qiC (t:T):Bool:=if t.name=qgV then (kid t 0).kind==2 else agB t.kids
theorem qFg (k:T) (l:List T):agB (k::l)=((!(k.kind==3) && !(k.sort != 1))&&agB l):=rfl
end Go.GxYtbpnmbmdbblehaaGreat
namespace Go.AmYtbpnmbmdbblehaaGreat
open Go Go.GxYtbpnmbmdbblehaaGreat Go.Lib
theorem qkj (a b:Int):Ev (λ m _=>Jp m a b) (sgn a b):=by
 refine Ev.succ ?_
 simp only [qtZ,qfM]
 unfold sgn
 refine Ev.ite (λ h=>?_) λ h=>?_
 ·exact Ev.ret (by rw [if_pos (qs.1 h)])
 ·rw [qw] at h
  refine Ev.ite (λ h'=>?_) λ h'=>?_
  ·rw [qs] at h'
   exact Ev.ret (by rw [if_neg (by omega),if_pos h'])
  ·rw [qw] at h'
   exact Ev.ret (by rw [if_neg (by omega),if_neg (by omega)])
theorem qrr {l:List T} {i:Nat} {x:T} (h:l.drop i=x::l.drop (i+1)):((l.drop i).map size).sum=size x+((l.drop (i+1)).map size).sum:=by
 rw [h,List.map_cons,List.sum_cons]
theorem qqt (t:T):size t≤1000000000→Ev (λ m _=>yA m t) (size t:Int):=by
 induction t using T.ind with
 | h t ih =>
   intro hs
   refine Ev.succ ?_
   simp only [qxY,qeJ]
   have hl:=yJ t
   have he:=qS t
   have key:=qr (P := λ i=>∀ acc:Nat,acc+((t.kids.drop i).map size).sum≤1000000000→Ev (λ m k=>qae m (yA m) k acc i t.kind t.name t.sort t.kids) ((acc+((t.kids.drop i).map size).sum:Nat):Int)) t.kids (by omega)
    (λ hc acc _=>by
     refine Ev.loop ?_
     simp only [qmP,qeU]
     refine Ev.cf hc ?_
     exact Ev.ret (by simp))
    (λ i x hx hd hc hg hi hP acc ha=>by
     rw [qrr hd] at ha ⊢
     refine Ev.loop ?_
     simp only [qmP,qeU]
     refine Ev.ct hc (Ev.some hg ?_)
     rw [qf]
     refine Ev.bind (ih x (List.mem_of_getElem? hx) (by omega)) ?_
     rw [hi,qlD,Jc (by omega)]
     refine (hP (acc+size x) (by omega)).res (by congr 1;omega))
   refine Ev.diag (L := λ m k=>qae m (yA m) k 1 0 t.kind t.name t.sort t.kids) ?_
   refine (key 0 (Nat.zero_le _) 1 (by simp;omega)).res (by rw [List.drop_zero,he])
theorem qxy (a b:Nat):qkE (a:Int) (b:Int)=((max a b:Nat):Int):=by unfold qkE;split<;>omega
theorem qpl (a b:Int):Ev (λ m _=>qbJ m a b) (sgn a b):=by
 refine Ev.succ ?_
 simp only [qAm,qjB]
 unfold sgn
 refine Ev.ite (λ h=>?_) λ h=>?_
 ·exact Ev.ret (by rw [if_pos (qs.1 h)])
 ·rw [qw] at h
  refine Ev.ite (λ h'=>?_) λ h'=>?_
  ·rw [qs] at h'
   exact Ev.ret (by rw [if_neg (by omega),if_pos h'])
  ·rw [qw] at h'
   exact Ev.ret (by rw [if_neg (by omega),if_neg (by omega)])
theorem qyn (t:T):size t≤1000000000→Ev (λ m _=>jo m t) (size t:Int):=by
 induction t using T.ind with
 | h t ih =>
   intro hs
   refine Ev.succ ?_
   simp only [qz0,qfF]
   have hl:=yJ t
   have he:=qS t
   have key:=qr (P := λ i=>∀ acc:Nat,acc+((t.kids.drop i).map size).sum≤1000000000→Ev (λ m k=>qaX m (jo m) k acc t.kids t.kids.length i) ((acc+((t.kids.drop i).map size).sum:Nat):Int)) t.kids (by omega)
    (λ hc acc _=>by
     refine Ev.loop ?_
     simp only [qos,qfX]
     refine Ev.cf hc ?_
     exact Ev.ret (by simp))
    (λ i x hx hd hc hg hi hP acc ha=>by
     rw [qrr hd] at ha ⊢
     refine Ev.loop ?_
     simp only [qos,qfX]
     refine Ev.ct hc (Ev.some hg ?_)
     rw [qf]
     refine Ev.bind (ih x (List.mem_of_getElem? hx) (by omega)) ?_
     rw [hi,qlD,Jc (by omega)]
     refine (hP (acc+size x) (by omega)).res (by congr 1;omega))
   refine Ev.diag (L := λ m k=>qaX m (jo m) k 1 t.kids t.kids.length 0) ?_
   refine (key 0 (Nat.zero_le _) 1 (by simp;omega)).res (by rw [List.drop_zero,he])
theorem qDR (t:T):size t≤1000000000→Ev (λ m _=>yM m t) (qef t:Int):=by
 induction t using T.ind with
 | h t ih =>
   intro hs
   refine Ev.succ ?_
   simp only [qv0,qdE]
   have hl:=yJ t
   have he:=qS t
   have key:=qr (P := λ i=>∀ acc:Nat,acc≤1000000000→Ev (λ m k=>JC m (yM m) k acc i t.kind t.name t.sort t.kids) ((((t.kids.drop i).map qef).foldl max acc+1:Nat):Int)) t.kids (by omega)
    (λ hc acc _=>by
     refine Ev.loop ?_
     simp only [qlg,qd1]
     refine Ev.cf hc ?_
     rw [show qi (acc:Int) 1=((acc+1:Nat):Int) by unfold qi;omega,Jc (by omega)]
     exact Ev.ret (by simp))
    (λ i x hx hd hc hg hi hP acc ha=>by
     refine Ev.loop ?_
     simp only [qlg,qd1]
     refine Ev.ct hc (Ev.some hg ?_)
     rw [qf]
     have hm:=List.mem_of_getElem? hx
     have h1:=jl t x hm
     have h2:=qAP x
     refine Ev.bind (ih x hm (by omega)) ?_
     rw [hi,qxy]
     refine (hP (max acc (qef x)) (by omega)).res ?_
     rw [hd,List.map_cons,List.foldl_cons])
   refine Ev.diag (L := λ m k=>JC m (yM m) k 0 0 t.kind t.name t.sort t.kids) ?_
   refine (key 0 (Nat.zero_le _) 0 (by omega)).res (by rw [List.drop_zero,qiG])
theorem qzK (fs:List (T→Int)):Qo fs []=0:=by cases fs<;>rfl
theorem qvX {l m:List T} {i:Nat} {x y:T} (h1:l.drop i=x::l.drop (i+1)) (h2:m.drop i=y::m.drop (i+1)):Qo ((l.drop i).map qp) (m.drop i)=thn (qp x y) (Qo ((l.drop (i+1)).map qp) (m.drop (i+1))):=by
 rw [h1,h2,List.map_cons];rfl
theorem qqZ {l:List T} {i:Nat} {y:T} (h:l[i]? = some y):l.drop i=y::l.drop (i+1):=by
 obtain ⟨hlt,rfl⟩:=List.getElem?_eq_some_iff.1 h
 exact List.drop_eq_getElem_cons hlt
theorem qrh (a b:List UInt8):slt a b=decide (compareBytes a b=-1):=qnh a b
theorem qyS (a b:List UInt8):qoa (slt a b) (qA a b)=decide (compareBytes a b≠1):=by
 rw [qrh]
 unfold qoa qA
 rcases qmn a b with h | h | h
 ·rw [h];rfl
 ·have:=qjQ a b h
  subst this
  rw [h];simp
 ·have:(a==b)=false:=by
    rw [beq_eq_false_iff_ne];intro he;subst he;rw [qvl] at h;omega
  rw [h,this];rfl
theorem qg2 (a:T):size a≤1000000000→∀ b,size b≤1000000000→Ev (λ m _=>zj m a b) (qp a b):=by
 induction a using T.ind with
 | h a ih =>
   intro ha b hb
   refine Ev.succ ?_
   simp only [qrI,qb7,qf]
   have hla:=yJ a
   have hlb:=yJ b
   rw [qfe]
   unfold qhJ
   refine Ev.bind (qqt a ha) (Ev.bind (qqt b hb) (Ev.bind (qkj _ _) ?_))
   refine Ev.ite (λ h=>?_) λ h=>?_
   ·rw [bnt,qh] at h
    exact Ev.ret (by rw [jX (by rw [jX h];exact h),jX h])
   rw [bnf,qj] at h
   rw [h,show ∀ y,thn 0 y=y from λ y=>rfl]
   refine Ev.bind (qkj _ _) ?_
   refine Ev.ite (λ h=>?_) λ h=>?_
   ·rw [bnt,qh] at h
    exact Ev.ret (by rw [jX (by rw [jX h];exact h),jX h])
   rw [bnf,qj] at h
   rw [h,show ∀ y,thn 0 y=y from λ y=>rfl]
   refine Ev.ite (λ h=>?_) λ h=>?_
   ·rw [qrh,decide_eq_true_iff] at h
    exact Ev.ret (by rw [h];rfl)
   rw [qrh,decide_eq_false_iff_not] at h
   refine Ev.ite (λ h'=>?_) λ h'=>?_
   ·rw [bnt,qyS,decide_eq_false_iff_not,Decidable.not_not] at h'
    exact Ev.ret (by rw [h'];rfl)
   rw [bnf,qyS,decide_eq_true_iff] at h'
   have h0:compareBytes a.name b.name=0:=by have:=qmn a.name b.name;omega
   rw [h0,show ∀ y,thn 0 y=y from λ y=>rfl]
   refine Ev.bind (qkj _ _) ?_
   refine Ev.ite (λ h=>?_) λ h=>?_
   ·rw [bnt,qh] at h
    exact Ev.ret (by rw [jX (by rw [jX h];exact h),jX h])
   rw [bnf,qj] at h
   rw [h,show ∀ y,thn 0 y=y from λ y=>rfl]
   refine Ev.bind (qkj _ _) ?_
   refine Ev.ite (λ h=>?_) λ h=>?_
   ·rw [bnt,qh] at h
    exact Ev.ret (by rw [jX h])
   rw [bnf,qj] at h
   rw [h,show ∀ y,thn 0 y=y from λ y=>rfl]
   have hlen:a.kids.length=b.kids.length:=by have:=qjD h;omega
   have key:=qr (P := λ i=>Ev (λ m k=>Qf m (zj m) k i a.kind a.name a.sort a.kids b.kind b.name b.sort b.kids) (Qo ((a.kids.drop i).map qp) (b.kids.drop i))) a.kids (by omega)
    (λ hc=>by
     refine Ev.loop ?_
     simp only [qjA,qb3]
     refine Ev.cf hc ?_
     exact Ev.ret (by rw [hlen,List.drop_length,qzK]))
    (λ i x hx hd hc hg hi hP=>by
     refine Ev.loop ?_
     simp only [qjA,qb3,qf]
     have hib:i<b.kids.length:=by have:=(List.getElem?_eq_some_iff.1 hx).1;omega
     have hy:=List.getElem?_eq_getElem hib
     have hmx:=List.mem_of_getElem? hx
     have h1:=jl a x hmx
     have h2:=jl b _ (List.mem_of_getElem? hy)
     refine Ev.ct hc (Ev.some hg (Ev.some (by rw [jz];exact hy) ?_))
     rw [qvX hd (qqZ hy)]
     refine Ev.bind (ih x hmx (by omega) _ (by omega)) ?_
     refine Ev.ite (λ h=>?_) λ h=>?_
     ·rw [bnt,qh] at h
      exact Ev.ret (by rw [jX h])
     ·rw [bnf,qj] at h
      rw [h,hi]
      exact hP)
   refine Ev.diag (L := λ m k=>Qf m (zj m) k 0 a.kind a.name a.sort a.kids b.kind b.name b.sort b.kids) ?_
   exact (key 0 (Nat.zero_le _)).res (by rw [List.drop_zero,List.drop_zero])
theorem qDl (a b:List UInt8):Ev (λ m _=>strings_Compare 0 a b) (compareBytes a b):=Ev.pure _
theorem qcp (a:T):size a≤1000000000→∀ b,size b≤1000000000→Ev (λ m _=>qt m a b) (qp a b):=by
 induction a using T.ind with
 | h a ih =>
   intro ha b hb
   refine Ev.succ ?_
   simp only [qtC,qcB,qf]
   have hla:=yJ a
   have hlb:=yJ b
   rw [qfe]
   unfold qhJ
   have stop:∀ c:Int,c≠0→∀ i:Int,Ev (λ m k=>jr m (qt m) k c i a.kind a.name a.sort a.kids b.kind b.name b.sort b.kids) c:=by
    intro c hc i
    refine Ev.loop ?_
    simp only [qf6,qaQ]
    exact Ev.cf (qh.2 hc) (Ev.pure c)
   have key:a.kids.length=b.kids.length→∀ i,i≤a.kids.length→Ev (λ m k=>jr m (qt m) k 0 i a.kind a.name a.sort a.kids b.kind b.name b.sort b.kids) (Qo ((a.kids.drop i).map qp) (b.kids.drop i)) := λ hlen=>qr a.kids (by omega)
    (λ hc=>by
     refine Ev.loop ?_
     simp only [qf6,qaQ]
     refine Ev.ct rfl (Ev.cf hc ?_)
     exact Ev.ret (by rw [hlen,List.drop_length,qzK]))
    (λ i x hx hd hc hg hi hP=>by
     refine Ev.loop ?_
     simp only [qf6,qaQ,qf]
     have hib:i<b.kids.length:=by have:=(List.getElem?_eq_some_iff.1 hx).1;omega
     have hy:=List.getElem?_eq_getElem hib
     have hmx:=List.mem_of_getElem? hx
     have h1:=jl a x hmx
     have h2:=jl b _ (List.mem_of_getElem? hy)
     refine Ev.ct rfl (Ev.ct hc (Ev.some hg (Ev.some (by rw [jz];exact hy) ?_)))
     rw [qvX hd (qqZ hy)]
     refine Ev.bind (ih x hmx (by omega) _ (by omega)) ?_
     rw [hi]
     by_cases h:qp x b.kids[i]=0
     ·rw [h];exact hP
     ·rw [jX h];exact stop _ h _)
   have fin:∀ c:Int,(c=0→a.kids.length=b.kids.length)→Ev (λ m k=>jr m (qt m) m c 0 a.kind a.name a.sort a.kids b.kind b.name b.sort b.kids) (thn c (Qo (a.kids.map qp) b.kids)):=by
    intro c hc
    refine Ev.diag (L := λ m k=>jr m (qt m) k c 0 a.kind a.name a.sort a.kids b.kind b.name b.sort b.kids) ?_
    by_cases h:c=0
    ·subst h
     exact (key (hc rfl) 0 (Nat.zero_le _)).res (by rw [List.drop_zero,List.drop_zero];rfl)
    ·rw [jX h];exact stop c h 0
   refine Ev.bind (qyn a ha) (Ev.bind (qyn b hb) (Ev.bind (qpl _ _) ?_))
   have z0:∀ y,thn 0 y=y := λ y=>rfl
   by_cases h1:sgn (size a:Int) (size b)=0
   ·rw [h1,z0]
    refine Ev.ct rfl (Ev.bind (qpl _ _) ?_)
    by_cases h2:sgn a.kind b.kind=0
    ·rw [h2,z0]
     refine Ev.ct rfl (Ev.bind (qDl _ _) ?_)
     by_cases h3:compareBytes a.name b.name=0
     ·rw [h3,z0]
      refine Ev.ct rfl (Ev.bind (qpl _ _) ?_)
      by_cases h4:sgn a.sort b.sort=0
      ·rw [h4,z0]
       refine Ev.ct rfl (Ev.bind (qpl _ _) ?_)
       exact fin _ λ h=>by have:=qjD h;omega
      ·rw [jX h4]
       refine Ev.cf (qh.2 h4) ?_
       exact fin _ λ h=>absurd h h4
     ·rw [jX h3]
      refine Ev.cf (qh.2 h3) (Ev.cf (qh.2 h3) ?_)
      exact fin _ λ h=>absurd h h3
    ·rw [jX h2]
     refine Ev.cf (qh.2 h2) (Ev.cf (qh.2 h2) (Ev.cf (qh.2 h2) ?_))
     exact fin _ λ h=>absurd h h2
   ·rw [jX h1]
    refine Ev.cf (qh.2 h1) (Ev.cf (qh.2 h1) (Ev.cf (qh.2 h1) (Ev.cf (qh.2 h1) ?_)))
    exact fin _ λ h=>absurd h h1
theorem qBb (a b:T):ieq (qp a b) 0=yz a b:=by
 unfold yz
 rw [Bool.eq_iff_iff,qj,decide_eq_true_iff]
 exact qGB a b
theorem qe7 (a b:T) (ha:size a≤1000000000) (hb:size b≤1000000000):Ev (λ m _=>yB m a b) (yz a b):=by
 refine Ev.succ ?_
 simp only [qyj,qhE,qf]
 refine Ev.bind (qg2 a ha b hb) ?_
 exact Ev.ret (qBb a b)
theorem qlL (a b:T) (ha:size a≤1000000000) (hb:size b≤1000000000):Ev (λ m _=>Qc m a b) (yz a b):=by
 refine Ev.succ ?_
 simp only [qwK,qgQ,qf]
 refine Ev.bind (qcp a ha b hb) ?_
 exact Ev.ret (qBb a b)
end Go.AmYtbpnmbmdbblehaaGreat
namespace Go.AmYtbpnmbmdbblehaaGreat
open Go Go.GxYtbpnmbmdbblehaaGreat Go.Lib
theorem qIa (a b:Int):ieq a b=decide (a=b):=by rw [Bool.eq_iff_iff,qj,decide_eq_true_iff]
theorem qvT (c:Int):Ev (λ m _=>J9 m c) (qgL c):=by
 refine Ev.succ ?_
 simp only [quA,qfP]
 refine (Ev.pure (qgL c)).congr λ m k=>?_
 unfold qgL ile
 by_cases h1:97≤c<;>by_cases h2:c≤122<;>by_cases h3:65≤c<;>by_cases h4:c≤90<;>simp [h1,h2,h3,h4]
theorem qEU (c:Int):Ev (λ m _=>qcr m c) (qri c):=by
 refine Ev.succ ?_
 simp only [qwB,qgx]
 refine (Ev.pure (qri c)).congr λ m k=>?_
 unfold qri ile
 by_cases h1:48≤c<;>by_cases h2:c≤57<;>simp [h1,h2]
theorem qA4 (c:Int):Ev (λ m _=>qfh m c) (JW c):=by
 refine Ev.succ ?_
 simp only [qAh,qje]
 refine (Ev.pure (JW c)).congr λ m k=>?_
 simp only [qIa]
 unfold JW qgL qri ile
 by_cases h1:97≤c<;>by_cases h2:c≤122<;>by_cases h3:65≤c<;>by_cases h4:c≤90<;>by_cases h5:48≤c<;>by_cases h6:c≤57<;>by_cases h7:c=95<;>by_cases h8:c=35<;>simp [h1,h2,h3,h4,h5,h6,h7,h8]
theorem qD1 (l:List UInt8):Ev (λ m _=>Qi m l) (JJ l):=by
 refine Ev.succ ?_
 simp only [qtF,qcS]
 cases l with
 | nil=>exact Ev.ct rfl (Ev.pure _)
 | cons c r =>
   refine Ev.cf (qh.2 (by simp;omega)) ?_
   refine Ev.ite (λ h=>?_) λ h=>?_
   ·rw [qs] at h
    refine Ev.ret ?_
    unfold JJ
    rw [decide_eq_false (show ¬ (c::r).length≤24 by omega)]
    simp
   rw [qw] at h
   refine Ev.some (Jk _) (Ev.bind (qvT _) ?_)
   have hn:JJ (c::r)=(qgL (c.toNat:Int)&&(c::r).all λ c=>JW (c.toNat:Int)):=by
    unfold JJ
    rw [decide_eq_true (show (c::r).length≤24 by omega)]
    simp
   rw [hn]
   cases hc:qgL (c.toNat:Int) with
   | false=>exact Ev.ct rfl (Ev.pure _)
   | true =>
     refine Ev.cf rfl ?_
     have key:=qr (P := λ i=>Ev (λ m k=>Q9 m k (c::r) i) (((c::r).drop i).all λ c=>JW (c.toNat:Int))) (c::r) (by omega)
      (λ hc=>by
       refine Ev.loop ?_
       simp only [qjR,qcR]
       refine Ev.cf hc (Ev.ret ?_)
       rw [List.drop_length];rfl)
      (λ i x hx hd hc hg hi hP=>by
       refine Ev.loop ?_
       simp only [qjR,qcR]
       refine Ev.ct hc (Ev.some hg (Ev.bind (qvT _) ?_))
       rw [hd,List.all_cons,hi]
       cases h1:qgL (x.toNat:Int) with
       | true=>exact Ev.cf rfl (hP.res (by simp [JW,h1]))
       | false =>
         refine Ev.ct rfl (Ev.some hg (Ev.bind (qEU _) ?_))
         cases h2:qri (x.toNat:Int) with
         | true=>exact Ev.cf rfl (hP.res (by simp [JW,h2]))
         | false =>
           refine Ev.ct rfl (Ev.some hg ?_)
           by_cases h3:(x.toNat:Int)=95
           ·exact Ev.cf (bnf.2 (qj.2 h3)) (hP.res (by simp [JW,h3]))
           ·refine Ev.ct (bnt.2 (qh.2 h3)) (Ev.some hg ?_)
            by_cases h4:(x.toNat:Int)=35
            ·exact Ev.cf (bnf.2 (qj.2 h4)) (hP.res (by simp [JW,h4]))
            ·exact Ev.ct (bnt.2 (qh.2 h4)) (Ev.ret (by unfold JW;rw [h1,h2,decide_eq_false h3,decide_eq_false h4];rfl)))
     refine Ev.diag (L := λ m k=>Q9 m k (c::r) 0) ?_
     exact (key 0 (Nat.zero_le _)).res (by rw [List.drop_zero];rfl)
theorem qGT (c:Int):(JW c&&(!(decide (48≤c)&&decide (c≤57))&&(!(decide (c=95)) && !(decide (c=35)))))=qgL c:=by
 unfold JW qri
 cases h:qgL c with
 | true =>
   unfold qgL at h
   rw [Bool.or_eq_true,decide_eq_true_iff,decide_eq_true_iff] at h
   rw [decide_eq_false (show ¬ (c=95) by omega),decide_eq_false (show ¬ (c=35) by omega)]
   have:(decide (48≤c)&&decide (c≤57))=false:=by
    rw [Bool.and_eq_false_iff,decide_eq_false_iff_not,decide_eq_false_iff_not];omega
   rw [this];rfl
 | false =>
   by_cases h1:48≤c<;>by_cases h2:c≤57<;>by_cases h3:c=95<;>by_cases h4:c=35<;>simp [h1,h2,h3,h4]
theorem qCQ (l:List UInt8):Ev (λ m _=>qaW m l) (JJ l):=by
 refine Ev.succ ?_
 simp only [qwk,qdJ]
 cases l with
 | nil=>exact Ev.ct rfl (Ev.pure _)
 | cons c r =>
   refine Ev.cf rfl ?_
   refine Ev.ite (λ h=>?_) λ h=>?_
   ·rw [qs] at h
    refine Ev.ret ?_
    unfold JJ
    rw [decide_eq_false (show ¬ (c::r).length≤24 by omega)]
    simp
   rw [qw] at h
   refine Ev.some (Jk _) (Ev.bind (qA4 _) ?_)
   have hn:JJ (c::r)=(qgL (c.toNat:Int)&&(c::r).all λ c=>JW (c.toNat:Int)):=by
    unfold JJ
    rw [decide_eq_true (show (c::r).length≤24 by omega)]
    simp
   rw [hn,← qGT]
   have key:=qr (P := λ i=>Ev (λ m k=>jH m k (c::r) (c::r).length i) (((c::r).drop i).all λ c=>JW (c.toNat:Int))) (c::r) (by omega)
    (λ hc=>by
     refine Ev.loop ?_
     simp only [qkO,qdS]
     refine Ev.cf hc (Ev.ret ?_)
     rw [List.drop_length];rfl)
    (λ i x hx hd hc hg hi hP=>by
     refine Ev.loop ?_
     simp only [qkO,qdS]
     refine Ev.ct hc (Ev.some hg (Ev.bind (qA4 _) ?_))
     rw [hd,List.all_cons,hi]
     cases h1:JW (x.toNat:Int) with
     | true=>exact Ev.cf rfl (hP.res (by simp))
     | false=>exact Ev.ct rfl (Ev.pure _))
   have fin:Ev (λ m _=>jH m m (c::r) (c::r).length 0) ((c::r).all λ c=>JW (c.toNat:Int)):=by
    refine Ev.diag (L := λ m k=>jH m k (c::r) (c::r).length 0) ?_
    exact (key 0 (Nat.zero_le _)).res (by rw [List.drop_zero])
   have hz:qd (c::r) 0=some c:=Jk _
   have h95:Ev (λ m _=>cond (ieq (c.toNat:Int) 95) (some false) (qa (qd (c::r) 0) λ v=>cond (ieq (v.toNat:Int) 35) (some false) (jH m m (c::r) (c::r).length 0))) ((!(decide ((c.toNat:Int)=95)) && !(decide ((c.toNat:Int)=35)))&&(c::r).all λ c=>JW (c.toNat:Int)):=by
    by_cases h3:(c.toNat:Int)=95
    ·exact Ev.ct (qj.2 h3) (Ev.ret (by rw [decide_eq_true h3];rfl))
    ·refine Ev.cf (qh.2 h3) (Ev.some hz ?_)
     rw [decide_eq_false h3]
     by_cases h4:(c.toNat:Int)=35
     ·exact Ev.ct (qj.2 h4) (Ev.ret (by rw [decide_eq_true h4];rfl))
     ·refine Ev.cf (qh.2 h4) (fin.res ?_)
      rw [decide_eq_false h4];rfl
   cases h1:JW (c.toNat:Int) with
   | false=>exact Ev.ct rfl (Ev.pure _)
   | true =>
     refine Ev.cf rfl (Ev.some hz ?_)
     by_cases h5:48≤(c.toNat:Int)
     ·refine Ev.ct (qd9.2 h5) (Ev.some hz ?_)
      by_cases h6:(c.toNat:Int)≤57
      ·exact Ev.ct (qd9.2 h6) (Ev.ret (by rw [decide_eq_true h5,decide_eq_true h6];rfl))
      ·refine Ev.cf (qjS.2 (by omega)) (Ev.some hz ?_)
       exact h95.res (by rw [decide_eq_true h5,decide_eq_false h6];rfl)
     ·refine Ev.cf (qjS.2 (by omega)) (Ev.some hz ?_)
      exact h95.res (by rw [decide_eq_false h5];rfl)
theorem qHC (t:T):Ev (λ m _=>qfB m t) (Qu t):=by
 refine Ev.succ ?_
 simp only [qzy,qhI]
 unfold Qu qmF
 have nm:∀ {R:Int},(∀ b,JJ t.name=b→(if b then (if 8<t.kids.length then 3 else 0) else 2)=R)→Ev (λ m _=>qa (Qi m t.name) λ v=>cond (qb v) (some 2) (cond (ilt 8 (t.kids.length:Int)) (some 3) (some 0))) R:=by
  intro R h
  refine Ev.bind (qD1 _) ?_
  refine Ev.res ?_ (h _ rfl)
  cases hn:JJ t.name with
  | false=>exact Ev.ct rfl (Ev.pure _)
  | true =>
    refine Ev.cf rfl ?_
    refine Ev.ite (λ h=>?_) λ h=>?_
    ·rw [qs] at h;exact Ev.ret (by rw [if_pos rfl,if_pos (by omega)])
    ·rw [qw] at h;exact Ev.ret (by rw [if_pos rfl,if_neg (by omega)])
 have leaf:t.kids.length=0→∀ {R:Int},(∀ b,JJ t.name=b→(if b then 0 else 2)=R)→Ev (λ m _=>qa (Qi m t.name) λ v=>cond (qb v) (some 2) (cond (ilt 8 (t.kids.length:Int)) (some 3) (some 0))) R:=by
  intro h0 R h
  refine nm λ b hb=>?_
  rw [if_neg (show ¬ 8<t.kids.length by omega)]
  exact h b hb
 by_cases h1:t.kind=1
 ·rw [if_pos (.inl h1)]
  refine Ev.ct (qj.2 h1) ?_
  refine Ev.ite (λ h=>?_) λ h=>?_
  ·rw [qs] at h;exact Ev.ret (by rw [if_pos (.inl h)])
  rw [qw] at h
  refine Ev.ite (λ h'=>?_) λ h'=>?_
  ·rw [qs] at h';exact Ev.ret (by rw [if_pos (.inr (.inl h'))])
  rw [qw] at h'
  refine Ev.ite (λ h''=>?_) λ h''=>?_
  ·rw [qs] at h'';exact Ev.ret (by rw [if_pos (.inr (.inr (by omega)))])
  rw [qw] at h''
  rw [if_neg (by omega)]
  exact leaf (by omega) λ b hb=>by rw [hb]
 refine Ev.cf (qh.2 h1) ?_
 by_cases h2:t.kind=2
 ·rw [if_pos (.inr h2)]
  refine Ev.cf (bnf.2 (qj.2 h2)) ?_
  refine Ev.ite (λ h=>?_) λ h=>?_
  ·rw [qs] at h;exact Ev.ret (by rw [if_pos (.inl h)])
  rw [qw] at h
  refine Ev.ite (λ h'=>?_) λ h'=>?_
  ·rw [qs] at h';exact Ev.ret (by rw [if_pos (.inr (.inl h'))])
  rw [qw] at h'
  refine Ev.cf (bnf.2 (qj.2 h2)) (Ev.ct (qj.2 h2) ?_)
  refine Ev.ite (λ h''=>?_) λ h''=>?_
  ·rw [qs] at h'';exact Ev.ret (by rw [if_pos (.inr (.inr (by omega)))])
  rw [qw] at h''
  rw [if_neg (by omega)]
  exact leaf (by omega) λ b hb=>by rw [hb]
 refine Ev.ct (bnt.2 (qh.2 h2)) ?_
 rw [if_neg (by omega)]
 by_cases h3:t.kind=3
 ·rw [if_pos h3]
  refine Ev.cf (bnf.2 (qj.2 h3)) ?_
  refine Ev.ite (λ h=>?_) λ h=>?_
  ·rw [qs] at h;exact Ev.ret (by rw [if_pos (by omega)])
  rw [qw] at h
  refine Ev.ite (λ h'=>?_) λ h'=>?_
  ·rw [qs] at h';exact Ev.ret (by rw [if_pos (by omega)])
  rw [qw] at h'
  refine Ev.ct (bnt.2 (qh.2 h2)) ?_
  refine Ev.ite (λ h''=>?_) λ h''=>?_
  ·rw [bnt,qh] at h'';exact Ev.ret (by rw [if_pos h''])
  rw [bnf,qj] at h''
  rw [if_neg (by omega)]
  refine Ev.cf (qh.2 h2) ?_
  exact nm λ b hb=>by rw [hb]
 ·rw [if_neg h3]
  exact Ev.ct (bnt.2 (qh.2 h3)) (Ev.pure _)
theorem qE2 (t:T):size t≤1000000000→Ev (λ m _=>yL m t) (JF t):=by
 induction t using T.ind with
 | h t ih =>
   intro hs
   refine Ev.succ ?_
   simp only [qv3,qdB,qf]
   have hl:=yJ t
   have key:=qr (P := λ i=>Ev (λ m k=>JB m (yL m) k i t.kind t.name t.sort t.kids) (((t.kids.drop i).map JF).foldl thn 0)) t.kids (by omega)
    (λ hc=>by
     refine Ev.loop ?_
     simp only [qkR,qdW]
     refine Ev.cf hc ?_
     exact Ev.ret (by simp))
    (λ i x hx hd hc hg hi hP=>by
     refine Ev.loop ?_
     simp only [qkR,qdW,qf]
     refine Ev.ct hc (Ev.some hg ?_)
     have hm:=List.mem_of_getElem? hx
     have h1:=jl t x hm
     refine Ev.bind (ih x hm (by omega)) ?_
     rw [hd,List.map_cons,jR,hi]
     refine Ev.ite (λ h=>?_) λ h=>?_
     ·rw [bnt,qh] at h;exact Ev.ret (by rw [qH _ h])
     ·rw [bnf,qj] at h;rw [h];exact hP)
   rw [qjV]
   refine Ev.bind (qHC t) ?_
   refine Ev.ite (λ h=>?_) λ h=>?_
   ·rw [bnt,qh] at h;exact Ev.ret (by rw [qH _ h])
   ·rw [bnf,qj] at h;rw [h]
    refine Ev.diag (L := λ m k=>JB m (yL m) k 0 t.kind t.name t.sort t.kids) ?_
    exact (key 0 (Nat.zero_le _)).res (by rw [List.drop_zero])
theorem qbK (t:T) (hs:size t≤1000000000):Ev (λ m _=>zJ m t) (qR t):=by
 refine Ev.succ ?_
 simp only [qw4,qgF,qf]
 unfold qR
 refine Ev.bind (qE2 t hs) ?_
 refine Ev.ite (λ h=>?_) λ h=>?_
 ·rw [bnt,qh] at h;exact Ev.ret (by rw [if_pos h])
 rw [bnf,qj] at h
 rw [if_neg (by omega)]
 refine Ev.bind (qqt t hs) ?_
 refine Ev.ite (λ h=>?_) λ h=>?_
 ·rw [qs] at h;exact Ev.ret (by rw [if_pos (.inl (by omega))])
 rw [qw] at h
 refine Ev.bind (qDR t hs) ?_
 refine Ev.ite (λ h=>?_) λ h=>?_
 ·rw [qs] at h;exact Ev.ret (by rw [if_pos (.inr (by omega))])
 ·rw [qw] at h;exact Ev.ret (by rw [if_neg (by omega)])
end Go.AmYtbpnmbmdbblehaaGreat
namespace Go.AmYtbpnmbmdbblehaaGreat
open Go Go.GxYtbpnmbmdbblehaaGreat Go.Lib
theorem qxD (lev d:Nat):∀ (l:List Nat) (c:Nat),l.foldl (λ a x=>max a (lev+x)) (max d (lev+c))=max d (lev+l.foldl max c)
 | [],c=>rfl
 | x::l,c=>by
   rw [List.foldl_cons,List.foldl_cons,← qxD lev d l (max c x)]
   congr 1;omega
def qID (lev n d:Nat) (e:Int) (s:Nat) (x:Nat) (r:(Int × Int × Unit) × (Int × Unit)):Prop:=r.2.1=e∧(e=0→r.1.1=((n+s:Nat):Int)∧r.1.2.1=((max d (lev+x):Nat):Int))
theorem qGD (t:T):size t≤1000000000→∀ lev n d:Nat,lev+size t≤2000000000→n+size t≤2000000000→d≤2000000000→∃ r,Ev (λ m _=>zD m t lev n d) r∧qID lev n d (JF t) (size t) (qef t-1) r:=by
 induction t using T.ind with
 | h t ih =>
   intro hs lev n d hlev hn hd0
   have hl:=yJ t
   have hsz:=qS t
   have key:=qr (P := λ i=>∀ n d:Nat,n+((t.kids.drop i).map size).sum≤2000000000→d≤2000000000→∃ r,Ev (λ m k=>yW m (zD m) k lev t.kids t.kids.length i n d) r∧r.2.1=((t.kids.drop i).map JF).foldl thn 0∧(((t.kids.drop i).map JF).foldl thn 0=0→r.1.1=((n+((t.kids.drop i).map size).sum:Nat):Int)∧r.1.2.1=((((t.kids.drop i).map qef).foldl (λ a x=>max a (lev+x)) d:Nat):Int))) t.kids (by omega)
    (λ hc n d _ _=>by
     refine ⟨((n,d,()),(0,())),?_,?_,λ _=>⟨?_,?_⟩⟩
     ·refine Ev.loop ?_
      simp only [qmO,qeH]
      exact Ev.cf hc (Ev.pure _)
     ·simp
     ·simp
     ·simp)
    (λ i x hx hd hc hg hi hP n d hn hd1=>by
     have hm:=List.mem_of_getElem? hx
     have h1:=jl t x hm
     rw [qrr hd] at hn
     obtain ⟨r,hr,he,hz⟩:=ih x hm (by omega) (lev+1) n d (by omega) (by omega) hd1
     have hstep:∀ r' ,(r.2.1≠0→r'=((r.1.1,r.1.2.1,()),(r.2.1,())))→(r.2.1=0→Ev (λ m k=>yW m (zD m) k lev t.kids t.kids.length ((i+1:Nat):Int) r.1.1 r.1.2.1) r')→Ev (λ m k=>yW m (zD m) k lev t.kids t.kids.length i n d) r':=by
      intro r' g1 g2
      refine Ev.loop ?_
      simp only [qmO,qeH,qf]
      refine Ev.ct hc (Ev.some hg ?_)
      rw [show qi (lev:Int) 1=((lev+1:Nat):Int) by unfold qi;omega,Jc (by omega),hi]
      refine Ev.bind hr ?_
      refine Ev.ite (λ h=>?_) λ h=>?_
      ·rw [bnt,qh] at h;exact Ev.ret (g1 h).symm
      ·rw [bnf,qj] at h;exact g2 h
     rw [hd,List.map_cons,List.map_cons,List.map_cons,List.sum_cons,jR,List.foldl_cons]
     by_cases h0:JF x=0
     ·obtain ⟨z1,z2⟩:=hz h0
      have hdep:=qAP x
      obtain ⟨r',g1,g2,g3⟩:=hP (n+size x) (max d (lev+1+(qef x-1))) (by omega) (by omega)
      refine ⟨r',hstep r' (λ h=>absurd (he.trans h0) h) (λ _=>by rw [z1,z2];exact g1),by rw [h0];exact g2,λ hh=>?_⟩
      rw [h0] at hh
      obtain ⟨q1,q2⟩:=g3 hh
      refine ⟨by rw [q1];congr 1;omega,?_⟩
      rw [q2]
      have:qef x ≥ 1:=by rw [qiG];omega
      rw [show max d (lev+1+(qef x-1))=max d (lev+qef x) by omega]
     ·refine ⟨((r.1.1,r.1.2.1,()),(r.2.1,())),hstep _ (λ _=>rfl) (λ h=>absurd (he.symm.trans h) h0),?_,λ hh=>?_⟩
      ·rw [qH _ h0];exact he
      ·rw [qH _ h0] at hh;exact absurd hh h0)
   have start:∀ r,(Qu t≠0→r=((((n+1:Nat):Int),((max d lev:Nat):Int),()),(Qu t,())))→(Qu t=0→Ev (λ m _=>yW m (zD m) m lev t.kids t.kids.length 0 ((n+1:Nat):Int) ((max d lev:Nat):Int)) r)→Ev (λ m _=>zD m t lev n d) r:=by
    intro r g1 g2
    refine Ev.succ ?_
    simp only [qy4,qeX]
    rw [show qi (n:Int) 1=((n+1:Nat):Int) by unfold qi;omega,Jc (by omega),qxy]
    have err:∀ e,Qu t=e→e≠0→Ev (λ _ _=>some ((((n+1:Nat):Int),((max d lev:Nat):Int),()),(e,()))) r:=by
     intro e he h
     refine Ev.ret ?_
     subst he
     exact (g1 h).symm
    have nm:(t.kind=3∨t.kids.length=0)→(∀ b,JJ t.name=b→(if b then (if 8<t.kids.length then 3 else 0) else 2)=Qu t)→Ev (λ m _=>qa (qaW m t.name) λ v=>cond (qb v) (some ((((n+1:Nat):Int),((max d lev:Nat):Int),()),(2,()))) (cond (ilt 8 (t.kids.length:Int)) (some ((((n+1:Nat):Int),((max d lev:Nat):Int),()),(3,()))) (yW m (zD m) m lev t.kids t.kids.length 0 ((n+1:Nat):Int) ((max d lev:Nat):Int)))) r:=by
     intro _ h
     have h:=h _ rfl
     refine Ev.bind (qCQ _) ?_
     cases hn:JJ t.name with
     | false=>rw [hn] at h;exact Ev.ct rfl (err 2 h.symm (by decide))
     | true =>
       rw [hn,if_pos rfl] at h
       refine Ev.cf rfl ?_
       refine Ev.ite (λ h'=>?_) λ h'=>?_
       ·rw [qs] at h';rw [if_pos (by omega)] at h;exact err 3 h.symm (by decide)
       ·rw [qw] at h';rw [if_neg (by omega)] at h;exact g2 h.symm
    have leafE:∀ k,t.kind=k→(k=1∨k=2)→Qu t=if t.sort<0∨5<t.sort∨0<t.kids.length then 1 else if JJ t.name then 0 else 2:=by
     intro k hk h
     unfold Qu qmF
     rw [hk,if_pos h]
    have leaf:∀ k,t.kind=k→(k=1∨k=2)→Ev (λ m _=>cond (ilt t.sort 0) (some ((((n+1:Nat):Int),((max d lev:Nat):Int),()),(1,()))) (cond (ilt 5 t.sort) (some ((((n+1:Nat):Int),((max d lev:Nat):Int),()),(1,()))) (cond (ilt 0 (t.kids.length:Int)) (some ((((n+1:Nat):Int),((max d lev:Nat):Int),()),(1,()))) (qa (qaW m t.name) λ v=>cond (qb v) (some ((((n+1:Nat):Int),((max d lev:Nat):Int),()),(2,()))) (cond (ilt 8 (t.kids.length:Int)) (some ((((n+1:Nat):Int),((max d lev:Nat):Int),()),(3,()))) (yW m (zD m) m lev t.kids t.kids.length 0 ((n+1:Nat):Int) ((max d lev:Nat):Int))))))) r:=by
     intro k hk h
     have hE:=leafE k hk h
     refine Ev.ite (λ h'=>?_) λ h'=>?_
     ·rw [qs] at h';exact err 1 (by rw [hE,if_pos (.inl h')]) (by decide)
     rw [qw] at h'
     refine Ev.ite (λ h1=>?_) λ h1=>?_
     ·rw [qs] at h1;exact err 1 (by rw [hE,if_pos (.inr (.inl h1))]) (by decide)
     rw [qw] at h1
     refine Ev.ite (λ h2=>?_) λ h2=>?_
     ·rw [qs] at h2;exact err 1 (by rw [hE,if_pos (.inr (.inr (by omega)))]) (by decide)
     rw [qw] at h2
     rw [if_neg (by omega)] at hE
     refine nm (.inr (by omega)) λ b hb=>?_
     rw [hE,hb,if_neg (show ¬ 8<t.kids.length by omega)]
    by_cases h1:t.kind=1
    ·exact Ev.ct (qj.2 h1) (leaf 1 h1 (.inl rfl))
    refine Ev.cf (qh.2 h1) ?_
    by_cases h2:t.kind=2
    ·exact Ev.ct (qj.2 h2) (leaf 2 h2 (.inr rfl))
    refine Ev.cf (qh.2 h2) ?_
    by_cases h3:t.kind=3
    ·refine Ev.ct (qj.2 h3) ?_
     have hE:Qu t=if t.sort≠0 then 1 else if JJ t.name then (if 8<t.kids.length then 3 else 0) else 2:=by
      unfold Qu qmF
      rw [if_neg (by omega),if_pos h3]
     refine Ev.ite (λ h'=>?_) λ h'=>?_
     ·rw [bnt,qh] at h';exact err 1 (by rw [hE,if_pos h']) (by decide)
     rw [bnf,qj] at h'
     rw [if_neg (by omega)] at hE
     exact nm (.inl h3) λ b hb=>by rw [hE,hb]
    ·refine Ev.cf (qh.2 h3) ?_
     refine err 1 ?_ (by decide)
     unfold Qu qmF
     rw [if_neg (by omega),if_neg h3]
   rw [qjV]
   by_cases h0:Qu t=0
   ·rw [h0]
    obtain ⟨r,g1,g2,g3⟩:=key 0 (Nat.zero_le _) (n+1) (max d lev) (by rw [List.drop_zero];omega) (by omega)
    rw [List.drop_zero] at g2 g3
    refine ⟨r,start r (λ h=>absurd h0 h) (λ _=>Ev.diag (L := λ m k=>yW m (zD m) k lev t.kids t.kids.length 0 ((n+1:Nat):Int) ((max d lev:Nat):Int)) g1),g2,λ hh=>?_⟩
    obtain ⟨q1,q2⟩:=g3 hh
    refine ⟨by rw [q1];congr 1;omega,?_⟩
    rw [q2,show max d lev=max d (lev+0) by omega,qxD,qiG,Nat.add_sub_cancel]
   ·refine ⟨_,start _ (λ _=>rfl) (λ h=>absurd h h0),?_,λ hh=>?_⟩
    ·rw [qH _ h0]
    ·rw [qH _ h0] at hh;exact absurd hh h0
theorem qc8 (t:T) (hs:size t≤1000000000):Ev (λ m _=>zc m t) (qR t):=by
 refine Ev.succ ?_
 simp only [qzq,qhy,qf]
 unfold qR
 obtain ⟨r,h1,h2,h3⟩:=qGD t hs 1 0 0 (by omega) (by omega) (by omega)
 refine Ev.bind h1 ?_
 rw [h2]
 refine Ev.ite (λ h=>?_) λ h=>?_
 ·rw [bnt,qh] at h;exact Ev.ret (by rw [if_pos h])
 rw [bnf,qj] at h
 obtain ⟨q1,q2⟩:=h3 h
 have hd:qef t ≥ 1:=by rw [qiG];omega
 rw [if_neg (by omega),q1,q2]
 refine Ev.ite (λ h=>?_) λ h=>?_
 ·rw [qs] at h;exact Ev.ret (by rw [if_pos (.inl (by omega))])
 rw [qw] at h
 refine Ev.ite (λ h=>?_) λ h=>?_
 ·rw [qs] at h;exact Ev.ret (by rw [if_pos (.inr (by omega))])
 ·rw [qw] at h;exact Ev.ret (by rw [if_neg (by omega)])
theorem ql7 (t:T):size t≤1000000000→Ev (λ m _=>yn m t) t:=by
 induction t using T.ind with
 | h t ih =>
   intro hs
   refine Ev.succ ?_
   simp only [qy8,qeI]
   have hl:=yJ t
   have key:=qr (P := λ i=>Ev (λ m k=>qac m (yn m) k t.kids t.kids.length i t.kind t.name t.sort 0 [] 0 (t.kids.take i) []) t) t.kids (by omega)
    (λ hc=>by
     refine Ev.loop ?_
     simp only [qnd,qeT]
     refine Ev.cf hc ?_
     rw [List.take_length]
     exact Ev.ret (qf t))
    (λ i x hx hd hc hg hi hP=>by
     refine Ev.loop ?_
     simp only [qnd,qeT,qf]
     have hm:=List.mem_of_getElem? hx
     have h1:=jl t x hm
     refine Ev.ct hc (Ev.some hg (Ev.bind (ih x hm (by omega)) (Ev.ct (qY ?_ (by omega)) ?_)))
     ·have:(t.kids.take i).length≤t.kids.length:=by rw [List.length_take];omega
      omega
     ·rw [hi]
      refine hP.congr λ m k=>?_
      rw [List.take_add_one,hx];rfl)
   refine Ev.diag (L := λ m k=>qac m (yn m) k t.kids t.kids.length 0 t.kind t.name t.sort 0 [] 0 [] []) ?_
   exact key 0 (Nat.zero_le _)
noncomputable def qku:T→Prop:=T.para λ t rs=>t.kids.length<2 ^ 62∧t.name.length<2 ^ 62∧∀ p∈rs,p
theorem qAO (t:T):qku t↔t.kids.length<2 ^ 62∧t.name.length<2 ^ 62∧∀ k∈t.kids,qku k:=by
 unfold qku
 rw [T.para_eq]
 exact ⟨λ ⟨a,b,c⟩=>⟨a,b,λ k hk=>c _ (List.mem_map_of_mem hk)⟩,λ ⟨a,b,c⟩=>⟨a,b,λ p hp=>by obtain ⟨k,hk,rfl⟩:=List.mem_map.1 hp;exact c k hk⟩⟩
theorem qEp (t:T):qku t→∀ mm:Int,-1000000000≤mm→mm≤1000000000→Ev (λ m _=>yh m t mm) (qar t mm):=by
 induction t using T.ind with
 | h t ih =>
   intro hf mm hm0 hm1
   obtain ⟨f1,f2,f3⟩:=(qAO t).1 hf
   refine Ev.succ ?_
   simp only [quG,qcP]
   rw [qA3]
   refine Ev.ite (λ h=>?_) λ h=>?_
   ·rw [qd9] at h;exact Ev.ret (by rw [if_pos (.inl h)])
   rw [qjS] at h
   refine Ev.ite (λ h'=>?_) λ h'=>?_
   ·rw [qs] at h';exact Ev.ret (by rw [if_pos (.inr (by omega))])
   rw [qw] at h'
   rw [if_neg (by omega),show QD mm 1=mm-1 from rfl,Jc (by omega)]
   have key:=qr (P := λ i=>∀ mm:Int,0≤mm→mm≤1000000000→Ev (λ m k=>QT m (yh m) k mm i t.kind t.name t.sort t.kids) (qjg ((t.kids.drop i).map qar) mm)) t.kids f1
    (λ hc mm _ _=>by
     refine Ev.loop ?_
     simp only [qjP,qcW]
     refine Ev.cf hc ?_
     rw [List.drop_length]
     exact Ev.pure _)
    (λ i x hx hd hc hg hi hP mm hm0 hm1=>by
     refine Ev.loop ?_
     simp only [qjP,qcW,qf]
     have hm:=List.mem_of_getElem? hx
     refine Ev.ct hc (Ev.some hg (Ev.bind (ih x hm (f3 x hm) mm (by omega) (by omega)) ?_))
     rw [hd,List.map_cons,qjg,hi]
     have:=qnv x mm
     refine Ev.ite (λ h=>?_) λ h=>?_
     ·rw [qs] at h;exact Ev.ret (by rw [if_pos h])
     ·rw [qw] at h
      rw [if_neg (by omega)]
      exact hP _ (by omega) (by omega))
   refine Ev.diag (L := λ m k=>QT m (yh m) k (mm-1) 0 t.kind t.name t.sort t.kids) ?_
   exact (key 0 (Nat.zero_le _) (mm-1) (by omega) (by omega)).res (by rw [List.drop_zero])
theorem qIx (l:List T) (hl:l.length<2 ^ 62) (hf:∀ t∈l,qku t) (n:Nat) (mm:Int) (hm0:0≤mm) (hm1:mm≤1000000000):Ev (λ m _=>qfo m l n mm) (decide (l.length≤n)&&qnW l mm):=by
 refine Ev.succ ?_
 simp only [qAp,qfI]
 refine Ev.ite (λ h=>?_) λ h=>?_
 ·rw [qs] at h;exact Ev.ret (by rw [decide_eq_false (by omega)];rfl)
 rw [qw] at h
 rw [decide_eq_true (by omega),Bool.true_and]
 have key:=qr (P := λ i=>∀ mm:Int,0≤mm→mm≤1000000000→Ev (λ m k=>qa6 m k l mm i) (qnW (l.drop i) mm)) l hl
  (λ hc mm _ _=>by
   refine Ev.loop ?_
   simp only [qoH,qf1]
   refine Ev.cf hc ?_
   rw [List.drop_length]
   exact Ev.pure _)
  (λ i x hx hd hc hg hi hP mm hm0 hm1=>by
   refine Ev.loop ?_
   simp only [qoH,qf1,qf]
   have hm:=List.mem_of_getElem? hx
   refine Ev.ct hc (Ev.some hg (Ev.bind (qEp x (hf x hm) mm (by omega) (by omega)) ?_))
   rw [hd,qnW,hi]
   have:=qnv x mm
   refine Ev.ite (λ h=>?_) λ h=>?_
   ·rw [qs] at h;exact Ev.ret (by rw [if_pos h])
   ·rw [qw] at h
    rw [if_neg (by omega)]
    exact hP _ (by omega) (by omega))
 refine Ev.diag (L := λ m k=>qa6 m k l mm 0) ?_
 exact (key 0 (Nat.zero_le _) mm hm0 hm1).res (by rw [List.drop_zero])
theorem qGQ {l:List T} {mm:Int} (hm:0≤mm) (h:qnW l mm=true):∀ t∈l,(size t:Int)≤mm := λ t ht=>by
 have h1:=qu4 l mm hm h
 have h2:=qih l t ht
 omega
end Go.AmYtbpnmbmdbblehaaGreat
namespace Go.GxYtbpnmbmdbblehaaGreat
def qtg (t:T):Int:=if (qE t.name).2.2=0 then 10 else if qkM jt t.name t.kids.length=false then 6 else if (qE t.name).2.2=2∧qiC t=false then 10 else 0
theorem qsi (n:List UInt8):(jt.find? λ r=>r.1==n)=none∨∃ r∈jt,r.1=n∧(jt.find? λ r=>r.1==n)=some r:=by
 cases h:jt.find? λ r=>r.1==n with
 | none=>exact .inl rfl
 | some r=>exact .inr ⟨r,List.mem_of_find?_eq_some h,by simpa using List.find?_some h,rfl⟩
theorem qrz {n:List UInt8} (h:(jt.find? λ r=>r.1==n)=none):qE n=(0,0,0):=by unfold qE;rw [h];rfl
theorem qmz {n:List UInt8} {r:List UInt8 × Int × Int × Int} (h:(jt.find? λ r=>r.1==n)=some r):qE n=r.2:=by unfold qE;rw [h];rfl
def qGZ (r:List UInt8 × Int × Int × Int):Bool :=
 decide (r.2.2.2≠0)&&decide (0≤r.2.1)&&decide (r.2.2.1≤8)&&(decide (r.2.2.2=2)==(r.1==qgV||r.1==nSk||r.1==qp6))&&(decide (r.2.2.2=2)==decide (r.2.2.2=2∧1≤r.2.1))&&(decide (r.2.2.2=3)==(r.1==qFo||r.1==qug||r.1==qE0||r.1==qCm||r.1==qCY||r.1==qCL))
theorem qHv:jt.all qGZ=true:=by decide
theorem qsI {n:List UInt8} (h:(qE n).2.2≠0):qFZ jt n=true∧qum jt n=qE n∧0≤(qE n).1∧(qE n).2.1≤8∧((qE n).2.2=2↔n=qgV∨n=nSk∨n=qp6)∧((qE n).2.2=2→1≤(qE n).1)∧((qE n).2.2=3↔isD n=true):=by
 rcases qsi n with h0 | ⟨r,hr,hn,h0⟩
 ·rw [qrz h0] at h;exact absurd rfl h
 ·have hk:=List.all_eq_true.1 qHv r hr
  subst hn
  rw [qmz h0]
  unfold qGZ at hk
  simp only [Bool.and_eq_true,beq_iff_eq,decide_eq_true_eq] at hk
  obtain ⟨⟨⟨⟨⟨h1,h2⟩,h3⟩,h4⟩,h5⟩,h6⟩:=hk
  refine ⟨List.any_eq_true.2 ⟨r,hr,by simp⟩,qmz h0,h2,h3,?_,?_,?_⟩
  ·constructor
   ·intro h
    rw [decide_eq_true h] at h4
    have:=h4.symm
    simp only [Bool.or_eq_true,beq_iff_eq] at this
    exact or_assoc.1 this
   ·intro h
    by_cases hh:r.2.2.2=2
    ·exact hh
    ·rw [decide_eq_false hh] at h4
     have:=h4.symm
     simp only [Bool.or_eq_false_iff,beq_eq_false_iff_ne] at this
     rcases h with h | h | h
     ·exact absurd h this.1.1
     ·exact absurd h this.1.2
     ·exact absurd h this.2
  ·intro h
   rw [decide_eq_true h] at h5
   have:=of_decide_eq_true h5.symm
   exact this.2
  ·unfold isD
   rw [← h6]
   simp
theorem qFr (t:T) (h3:t.kind=3):qtg t=qbC t:=by
 unfold qtg qbC
 rw [if_neg (show ¬ (t.kind≠3) from λ h=>h h3)]
 by_cases h0:(qE t.name).2.2=0
 ·rw [if_pos h0,if_pos h0]
 ·rw [if_neg h0,if_neg h0]
  obtain ⟨k1,k2,k3,k4,k5,k6,k7⟩:=qsI h0
  have e1:qkM jt t.name t.kids.length=(decide ((qE t.name).1≤(t.kids.length:Int))&&decide ((t.kids.length:Int)≤(qE t.name).2.1)):=by
   unfold qkM;rw [k1,k2,Bool.true_and]
  rw [e1]
  by_cases h1:(t.kids.length:Int)<(qE t.name).1∨(qE t.name).2.1<(t.kids.length:Int)
  ·rw [if_pos h1,if_pos]
   rw [Bool.and_eq_false_iff,decide_eq_false_iff_not,decide_eq_false_iff_not]
   omega
  ·rw [if_neg h1,if_neg]
   ·have e2:(qE t.name).2.2=2∧qiC t=false↔JO t=true:=by
      rw [k5]
      unfold qiC JO
      by_cases hn:t.name=qgV
      ·rw [if_pos hn,if_pos hn]
       simp [hn]
      ·rw [if_neg hn,if_neg hn]
       by_cases hs:t.name=nSk∨t.name=qp6
       ·rw [if_pos hs]
        have:agB t.kids = !(t.kids.any λ k=>decide (k.kind=3)||decide (k.sort≠1)):=by
         unfold agB
         generalize t.kids=l
         induction l with
         | nil=>rfl
         | cons x l ih=>simp only [List.all_cons,List.any_cons,ih,Bool.not_or];congr 1;congr 1;by_cases h:x.sort=1<;>simp [bne,h]
        rw [this]
        simp [hs]
       ·rw [if_neg hs]
        constructor
        ·rintro ⟨h,_⟩
         rcases h with h | h
         ·exact absurd h hn
         ·exact absurd h hs
        ·intro h;cases h
    by_cases hp:JO t=true
    ·rw [if_pos hp,if_pos (e2.2 hp)]
    ·rw [if_neg hp,if_neg (λ h=>hp (e2.1 h))]
   ·rw [Bool.and_eq_false_iff,decide_eq_false_iff_not,decide_eq_false_iff_not]
    omega
theorem qfs {t:T} (h3:t.kind=3) (h:zf t=0):qbC t=0∧(∀ k∈t.kids,zf k=0):=by
 rw [qll,if_neg (show ¬ (t.kind≠3) from λ h=>h h3)] at h
 by_cases h0:qbC t=0
 ·refine ⟨h0,?_⟩
  rw [h0] at h
  generalize t.kids=l at *
  induction l with
  | nil=>intro k hk;cases hk
  | cons x l ih =>
    rw [List.map_cons,jR] at h
    by_cases hx:zf x=0
    ·rw [hx] at h
     intro k hk
     rcases List.mem_cons.1 hk with rfl | hk
     ·exact hx
     ·exact ih h k hk
    ·rw [qH _ hx] at h;exact absurd h hx
 ·rw [qH _ h0] at h;exact absurd h h0
end Go.GxYtbpnmbmdbblehaaGreat
namespace Go.AmYtbpnmbmdbblehaaGreat
open Go Go.GxYtbpnmbmdbblehaaGreat Go.Lib
theorem qij (t:T) (n:List UInt8):Ev (λ m _=>yx m t n) (isN t n):=by
 refine Ev.succ ?_
 simp only [qzP,qjv]
 unfold isN
 refine Ev.ite (λ h=>?_) λ h=>?_
 ·rw [qj] at h;exact Ev.ret (by rw [h];rfl)
 ·rw [qh] at h;exact Ev.ret (by rw [show (t.kind==3)=false from beq_eq_false_iff_ne.2 h];rfl)
theorem qi0 (t:T) (n:List UInt8):Ev (λ m _=>qaf m t n) (isN t n):=by
 refine Ev.succ ?_
 simp only [qCv,qkG]
 unfold isN
 refine Ev.ite (λ h=>?_) λ h=>?_
 ·rw [qj] at h;exact Ev.ret (by rw [h];rfl)
 ·rw [qh] at h;exact Ev.ret (by rw [show (t.kind==3)=false from beq_eq_false_iff_ne.2 h];rfl)
theorem qJt (n:List UInt8) (l:List T):Ev (λ m _=>qdZ m n l) (apT n l):=Ev.succ (Ev.pure _)
theorem qea (n:List UInt8) (l:List T) (hl:l.length≤1000000000):Ev (λ m _=>zV m n l) (apT n l):=by
 refine Ev.succ ?_
 simp only [qAo,qjy]
 refine Ev.ct (qY (by simp;omega) (by omega)) ?_
 refine Ev.case (λ h=>?_) λ x t h=>?_
 ·subst h;exact Ev.pure _
 ·subst h;exact Ev.pure _
def qE7 (n:List UInt8):List UInt8 × Int × Int × Int:=(jt.find? λ r=>r.1==n).getD ([],0,0,0)
theorem qq3 (n:List UInt8):(qE7 n).2=qE n:=by
 unfold qE7 qE
 cases jt.find? λ r=>r.1==n<;>rfl
theorem qu9 (n:List UInt8):Ev (λ m _=>qaw m n) (qE7 n):=by
 refine Ev.succ ?_
 simp only [qsB,qb8]
 refine Ev.bind (a:=jt) (Ev.pure _) ?_
 have key:=qr (P := λ i=>Ev (λ m k=>Qm m k n jt jt.length i [] 0 0 0) (((jt.drop i).find? λ r=>r.1==n).getD ([],0,0,0))) jt (by decide)
  (λ hc=>by
   refine Ev.loop ?_
   simp only [qji,qcb]
   refine Ev.cf hc ?_
   exact Ev.pure _)
  (λ i x hx hd hc hg hi hP=>by
   refine Ev.loop ?_
   simp only [qji,qcb]
   refine Ev.ct hc (Ev.some hg ?_)
   rw [hd,List.find?_cons,hi]
   refine Ev.ite (λ h=>?_) λ h=>?_
   ·exact Ev.ret (by rw [show (x.1==n)=true from h];rfl)
   ·rw [show (x.1==n)=false from h];exact hP)
 refine Ev.diag (L := λ m k=>Qm m k n jt jt.length 0 [] 0 0 0) ?_
 exact key 0 (Nat.zero_le _)
theorem qx6 {t:T} (h3:t.kind=3) (h:qbC t=0):(qE t.name).2.2≠0∧(qE t.name).1≤(t.kids.length:Int)∧(t.kids.length:Int)≤(qE t.name).2.1∧JO t=false:=by
 unfold qbC at h
 rw [if_neg (show ¬ t.kind≠3 from λ hh=>hh h3)] at h
 split at h
 ·omega
 rename_i h1
 split at h
 ·omega
 rename_i h2
 split at h
 ·omega
 rename_i h4
 exact ⟨h1,by omega,by omega,by simpa using h4⟩
theorem qtv {t:T} {i:Nat} (h:i<t.kids.length):qd t.kids (i:Int)=some (kid t i):=by
 rw [jz]
 unfold kid
 rw [List.getD_eq_getElem?_getD,List.getElem?_eq_getElem h];rfl
theorem qcX {t:T} (h:0<t.kids.length):qd t.kids 0=some (kid t 0):=qtv (i:=0) h
theorem qpn {t:T} (h:1<t.kids.length):qd t.kids 1=some (kid t 1):=qtv (i:=1) h
theorem qBr {t:T} {i:Nat} (h:i<t.kids.length):kid t i∈t.kids:=by
 unfold kid
 rw [List.getD_eq_getElem?_getD,List.getElem?_eq_getElem h]
 exact List.getElem_mem h
theorem yv {t:T} {n:List UInt8}:isN t n=true↔t.kind=3∧t.name=n:=by
 unfold isN
 rw [Bool.and_eq_true,beq_iff_eq,beq_iff_eq]
theorem qEJ (t:T):size t≤1000000000→Ev (λ m _=>qz m t) (zf t):=by
 induction t using T.ind with
 | h t ih =>
   intro hs
   refine Ev.succ ?_
   simp only [quZ,qcN]
   have hl:=yJ t
   rw [qll]
   refine Ev.ite (λ h=>?_) λ h3=>?_
   ·rw [bnt,qh] at h;exact Ev.ret (by rw [if_pos h])
   rw [bnf,qj] at h3
   rw [if_neg (show ¬ t.kind≠3 from λ hh=>hh h3)]
   have k2:=qr (P := λ i=>Ev (λ m k=>(qM m (qz m) k).2 t.kids t.kids.length i) (((t.kids.drop i).map zf).foldl thn 0)) t.kids (by omega)
    (λ hc=>by
     refine Ev.loop ?_
     simp only [qj0,qcy]
     refine Ev.cf hc ?_
     exact Ev.ret (by simp))
    (λ i x hx hd hc hg hi hP=>by
     refine Ev.loop ?_
     simp only [qj0,qcy,qf]
     have hm:=List.mem_of_getElem? hx
     have h1:=jl t x hm
     refine Ev.ct hc (Ev.some hg (Ev.bind (ih x hm (by omega)) ?_))
     rw [hd,List.map_cons,jR,hi]
     refine Ev.ite (λ h=>?_) λ h=>?_
     ·rw [bnt,qh] at h;exact Ev.ret (by rw [qH _ h])
     ·rw [bnf,qj] at h;rw [h];exact hP)
   have k2':Ev (λ m k=>(qM m (qz m) k).2 t.kids t.kids.length 0) ((t.kids.map zf).foldl thn 0):=(k2 0 (Nat.zero_le _)).res (by rw [List.drop_zero])
   have k1:=qr (P := λ i=>Ev (λ m k=>(qM m (qz m) k).1 t.kids t.kids.length i t.kind t.name t.sort t.kids) (if (t.kids.drop i).any (λ k=>decide (k.kind=3)||decide (k.sort≠1))=true then 10 else (t.kids.map zf).foldl thn 0)) t.kids (by omega)
    (λ hc=>by
     refine Ev.loop ?_
     simp only [qkl,qcI]
     refine Ev.cf hc ?_
     refine k2'.res ?_
     rw [List.drop_length];rfl)
    (λ i x hx hd hc hg hi hP=>by
     refine Ev.loop ?_
     simp only [qkl,qcI,qf]
     refine Ev.ct hc (Ev.some hg ?_)
     rw [hd,List.any_cons,hi]
     refine Ev.ite (λ h=>?_) λ h=>?_
     ·rw [qj] at h;exact Ev.ret (by rw [decide_eq_true h];rfl)
     rw [qh] at h
     rw [decide_eq_false h]
     refine Ev.ite (λ h'=>?_) λ h'=>?_
     ·rw [bnt,qh] at h';exact Ev.ret (by rw [decide_eq_true h'];rfl)
     ·rw [bnf,qj] at h';rw [decide_eq_false (λ hh=>hh h')];exact hP)
   have fin2:qbC t=0→Ev (λ m _=>(qM m (qz m) m).2 t.kids t.kids.length 0) ((t.kids.map zf).foldl thn (qbC t)) := λ h=>by
    rw [h]
    exact Ev.diag (L := λ m k=>(qM m (qz m) k).2 t.kids t.kids.length 0) k2'
   have fin1:JO t=t.kids.any (λ k=>decide (k.kind=3)||decide (k.sort≠1))→qbC t=(if JO t=true then 10 else 0)→Ev (λ m _=>(qM m (qz m) m).1 t.kids t.kids.length 0 t.kind t.name t.sort t.kids) ((t.kids.map zf).foldl thn (qbC t)) := λ hp h=>by
    refine (Ev.diag (L := λ m k=>(qM m (qz m) k).1 t.kids t.kids.length 0 t.kind t.name t.sort t.kids) (k1 0 (Nat.zero_le _))).res ?_
    rw [List.drop_zero,← hp,h]
    split
    ·rw [qH _ (by decide)]
    ·rfl
   refine Ev.bind (qu9 t.name) ?_
   rw [qq3]
   have hK:qbC t=if (qE t.name).2.2=0 then 10 else if (t.kids.length:Int)<(qE t.name).1∨(qE t.name).2.1<(t.kids.length:Int) then 6 else if JO t=true then 10 else 0:=by
    unfold qbC
    rw [if_neg (show ¬ t.kind≠3 from λ hh=>hh h3)]
   refine Ev.ite (λ h=>?_) λ h=>?_
   ·rw [qj] at h;rw [if_pos h] at hK;exact Ev.ret (by rw [hK,qH _ (by decide)])
   rw [qh] at h
   rw [if_neg h] at hK
   refine Ev.ite (λ h1=>?_) λ h1=>?_
   ·rw [qs] at h1;rw [if_pos (.inl h1)] at hK;exact Ev.ret (by rw [hK,qH _ (by decide)])
   rw [qw] at h1
   refine Ev.ite (λ h2=>?_) λ h2=>?_
   ·rw [qs] at h2;rw [if_pos (.inr h2)] at hK;exact Ev.ret (by rw [hK,qH _ (by decide)])
   rw [qw] at h2
   rw [if_neg (by omega)] at hK
   refine Ev.ite (λ hn=>?_) λ hn=>?_
   ·rw [y9] at hn
    refine fin1 ?_ hK
    unfold JO
    rw [hn,if_neg (by decide),if_pos (.inl rfl)]
   rw [jq] at hn
   refine Ev.ite (λ hn'=>?_) λ hn'=>?_
   ·rw [y9] at hn'
    refine fin1 ?_ hK
    unfold JO
    rw [hn',if_neg (by decide),if_pos (.inr rfl)]
   rw [jq] at hn'
   refine Ev.ite (λ hw=>?_) λ hw=>?_
   ·rw [y9] at hw
    have hpos:0<t.kids.length:=by
     rw [hw,show (qE [110,101,119]).1=1 from by decide] at h1
     omega
    refine Ev.some (qcX hpos) ?_
    have hp:JO t=decide ((kid t 0).kind≠2):=by
     unfold JO
     rw [if_pos (show t.name=qgV from hw)]
    refine Ev.ite (λ hh=>?_) λ hh=>?_
    ·rw [bnt,qh] at hh
     rw [hp,decide_eq_true hh,if_pos rfl] at hK
     exact Ev.ret (by rw [hK,qH _ (by decide)])
    ·rw [bnf,qj] at hh
     rw [hp,decide_eq_false (λ g=>g hh)] at hK
     exact fin2 hK
   ·rw [jq] at hw
    refine fin2 ?_
    have:JO t=false:=by
     unfold JO
     rw [if_neg (show ¬ t.name=qgV from hw),if_neg (λ h=>h.elim hn hn')]
    rw [this] at hK
    exact hK
theorem qG6 (t:T) (hs:size t≤1000000000):Ev (λ m _=>qdz m t) (qkJ t):=by
 refine Ev.succ ?_
 simp only [qt4,qf4,qf]
 unfold qkJ
 refine Ev.bind (qc8 t hs) ?_
 refine Ev.ite (λ h=>?_) λ h=>?_
 ·rw [bnt,qh] at h;exact Ev.ret (by rw [jX h])
 ·rw [bnf,qj] at h;rw [h];exact Ev.bind (qEJ t hs) (Ev.pure _)
theorem qt5 (n:List UInt8):Ev (λ m _=>qcf m n) (qE n).2.2:=by
 refine Ev.succ ?_
 simp only [qzu,qeM]
 refine Ev.bind (a:=jt) (Ev.succ (Ev.pure _)) ?_
 have key:=qr (P := λ i=>Ev (λ m k=>J4 m k n jt i) (((jt.drop i).find? λ r=>r.1==n).getD ([],0,0,0)).2.2.2) jt (by decide)
  (λ hc=>by
   refine Ev.loop ?_
   simp only [qm9,qeO]
   refine Ev.cf hc ?_
   exact Ev.pure _)
  (λ i x hx hd hc hg hi hP=>by
   refine Ev.loop ?_
   simp only [qm9,qeO]
   refine Ev.ct hc (Ev.some hg ?_)
   rw [hd,List.find?_cons,hi]
   refine Ev.ite (λ h=>?_) λ h=>?_
   ·refine Ev.some hg (Ev.ret ?_)
    rw [show (x.1==n)=true from h];rfl
   ·rw [show (x.1==n)=false from h];exact hP)
 refine Ev.diag (L := λ m k=>J4 m k n jt 0) ?_
 exact (key 0 (Nat.zero_le _)).res (by rw [← qq3];rfl)
theorem qH3 (t:T):Ev (λ m _=>qgf m t) (qkM jt t.name t.kids.length):=by
 refine Ev.succ ?_
 simp only [qxz,qeG]
 refine Ev.bind (a:=jt) (Ev.succ (Ev.pure _)) ?_
 have key:=qr (P := λ i=>Ev (λ m k=>J6 m k jt i t.kind t.name t.sort t.kids) (qkM (jt.drop i) t.name t.kids.length)) jt (by decide)
  (λ hc=>by
   refine Ev.loop ?_
   simp only [qmW,qeN]
   refine Ev.cf hc ?_
   exact Ev.pure _)
  (λ i x hx hd hc hg hi hP=>by
   refine Ev.loop ?_
   simp only [qmW,qeN]
   refine Ev.ct hc (Ev.some hg ?_)
   rw [hd,qEt,hi]
   refine Ev.ite (λ h=>?_) λ h=>?_
   ·rw [if_pos (show (x.1==t.name)=true from h)]
    refine Ev.some hg ?_
    refine Ev.ite (λ h'=>?_) λ h'=>?_
    ·rw [qd9] at h'
     refine Ev.some hg (Ev.ret ?_)
     rw [decide_eq_true h'];rfl
    ·rw [qjS] at h'
     exact Ev.ret (by rw [decide_eq_false (by omega)];rfl)
   ·rw [if_neg (by rw [show (x.1==t.name)=false from h];decide)];exact hP)
 refine Ev.diag (L := λ m k=>J6 m k jt 0 t.kind t.name t.sort t.kids) ?_
 exact key 0 (Nat.zero_le _)
theorem qDH (t:T) (hl:t.kids.length<2 ^ 62) (hpos:t.name=qgV→0<t.kids.length):Ev (λ m _=>qdd m t) (qiC t):=by
 refine Ev.succ ?_
 simp only [quj,qcL]
 unfold qiC
 refine Ev.ite (λ h=>?_) λ h=>?_
 ·rw [y9] at h
  rw [if_pos (show t.name=qgV from h)]
  refine Ev.some (qcX (hpos h)) (Ev.pure _)
 rw [jq] at h
 rw [if_neg (show ¬ t.name=qgV from h)]
 have key:=qr (P := λ i=>Ev (λ m k=>Q3 m k i t.kind t.name t.sort t.kids) (agB (t.kids.drop i))) t.kids hl
  (λ hc=>by
   refine Ev.loop ?_
   simp only [qka,qcH]
   refine Ev.cf hc ?_
   exact Ev.ret (by rw [List.drop_length];rfl))
  (λ i x hx hd hc hg hi hP=>by
   refine Ev.loop ?_
   simp only [qka,qcH]
   refine Ev.ct hc (Ev.some hg ?_)
   rw [hd,qFg,hi]
   refine Ev.ite (λ h=>?_) λ h=>?_
   ·exact Ev.ret (by rw [show (x.kind==3)=true from h];rfl)
   rw [show (x.kind==3)=false from h]
   refine Ev.some hg ?_
   refine Ev.ite (λ h'=>?_) λ h'=>?_
   ·rw [bnt,qh] at h'
    exact Ev.ret (by rw [show (x.sort != 1)=true from bne_iff_ne.2 h'];rfl)
   ·rw [bnf,qj] at h'
    rw [show (x.sort != 1)=false by rw [h'];rfl]
    exact hP)
 refine Ev.diag (L := λ m k=>Q3 m k 0 t.kind t.name t.sort t.kids) ?_
 exact (key 0 (Nat.zero_le _)).res (by rw [List.drop_zero])
theorem qD9 (t:T):size t≤1000000000→Ev (λ m _=>yo m t) (zf t):=by
 induction t using T.ind with
 | h t ih =>
   intro hs
   refine Ev.succ ?_
   simp only [qwS,qdV,qf]
   have hl:=yJ t
   rw [qll]
   refine Ev.ite (λ h=>?_) λ h3=>?_
   ·rw [bnt,qh] at h;exact Ev.ret (by rw [if_pos h])
   rw [bnf,qj] at h3
   rw [if_neg (show ¬ t.kind≠3 from λ hh=>hh h3),← qFr t h3]
   have key:=qr (P := λ i=>Ev (λ m k=>Qy m (yo m) k i t.kind t.name t.sort t.kids) (((t.kids.drop i).map zf).foldl thn 0)) t.kids (by omega)
    (λ hc=>by
     refine Ev.loop ?_
     simp only [qlh,qdO]
     refine Ev.cf hc ?_
     exact Ev.ret (by simp))
    (λ i x hx hd hc hg hi hP=>by
     refine Ev.loop ?_
     simp only [qlh,qdO,qf]
     have hm:=List.mem_of_getElem? hx
     have h1:=jl t x hm
     refine Ev.ct hc (Ev.some hg (Ev.bind (ih x hm (by omega)) ?_))
     rw [hd,List.map_cons,jR,hi]
     refine Ev.ite (λ h=>?_) λ h=>?_
     ·rw [bnt,qh] at h;exact Ev.ret (by rw [qH _ h])
     ·rw [bnf,qj] at h;rw [h];exact hP)
   have fin:qtg t=0→Ev (λ m _=>Qy m (yo m) m 0 t.kind t.name t.sort t.kids) ((t.kids.map zf).foldl thn (qtg t)) := λ h=>by
    rw [h]
    exact (Ev.diag (L := λ m k=>Qy m (yo m) k 0 t.kind t.name t.sort t.kids) (key 0 (Nat.zero_le _))).res (by rw [List.drop_zero])
   unfold qtg at fin ⊢
   refine Ev.bind (qt5 t.name) ?_
   refine Ev.ite (λ h=>?_) λ h=>?_
   ·rw [qj] at h;rw [if_pos h];exact Ev.ret (by rw [qH _ (by decide)])
   rw [qh] at h
   rw [if_neg h] at fin ⊢
   refine Ev.bind (qH3 t) ?_
   cases hf:qkM jt t.name t.kids.length with
   | false =>
     refine Ev.ct rfl ?_
     rw [if_pos rfl];exact Ev.ret (by rw [qH _ (by decide)])
   | true =>
     rw [hf,if_neg (by decide)] at fin
     rw [if_neg (by decide)]
     refine Ev.cf rfl ?_
     refine Ev.ite (λ h2=>?_) λ h2=>?_
     ·rw [qj] at h2
      refine Ev.bind (qDH t (by omega) λ hn=>?_) ?_
      ·obtain ⟨k1,k2,k3,k4,k5,k6,k7⟩:=qsI h
       have h6:=k6 h2
       unfold qkM at hf
       rw [k1,k2,Bool.true_and,Bool.and_eq_true,decide_eq_true_iff] at hf
       omega
      cases ha:qiC t with
      | false =>
        refine Ev.ct rfl ?_
        rw [if_pos ⟨h2,rfl⟩]
        exact Ev.ret (by rw [qH _ (by decide)])
      | true =>
        rw [ha,if_neg (by rintro ⟨_,h⟩;cases h)] at fin
        rw [if_neg (by rintro ⟨_,h⟩;cases h)]
        exact Ev.cf rfl (fin rfl)
     ·rw [qh] at h2
      rw [if_neg (by rintro ⟨h,_⟩;exact h2 h)] at fin ⊢
      exact fin rfl
theorem qHs (t:T) (hs:size t≤1000000000):Ev (λ m _=>qew m t) (qkJ t):=by
 refine Ev.succ ?_
 simp only [qwb,qgN,qf]
 unfold qkJ
 refine Ev.bind (qbK t hs) ?_
 refine Ev.ite (λ h=>?_) λ h=>?_
 ·rw [bnt,qh] at h;exact Ev.ret (by rw [jX h])
 ·rw [bnf,qj] at h;rw [h];exact Ev.bind (qD9 t hs) (Ev.pure _)
end Go.AmYtbpnmbmdbblehaaGreat
namespace Go.GxYtbpnmbmdbblehaaGreat
def Asc (l:List T):Prop:=l.Pairwise λ a b=>qp a b=-1
theorem yc {a:T}:qp a a≠-1:=by rw [qoO];decide
theorem qtE {a b:T}:qp a b=1↔qp b a=-1:=by
 have:=zI.anti a b;omega
theorem qdC {a b c:T} (h1:qp a b=-1) (h2:qp b c=-1):qp a c=-1:=zI.trans a b c h1 h2
theorem qaa {x:T} {l:List T}:Asc (x::l)↔(∀ y∈l,qp x y=-1)∧Asc l:=List.pairwise_cons
theorem qA1:∀ (l m:List T),Asc l→Asc m→(∀ x,x∈l↔x∈m)→l=m
 | [],[],_,_,_=>rfl
 | [],y::m,_,_,h=>absurd ((h y).2 (List.mem_cons_self ..)) (by simp)
 | x::l,[],_,_,h=>absurd ((h x).1 (List.mem_cons_self ..)) (by simp)
 | x::l,y::m,hl,hm,h=>by
   obtain ⟨hl1,hl2⟩:=qaa.1 hl
   obtain ⟨hm1,hm2⟩:=qaa.1 hm
   have hx:=(h x).1 (List.mem_cons_self ..)
   have hy:=(h y).2 (List.mem_cons_self ..)
   have e:x=y:=by
    rcases List.mem_cons.1 hx with e | hx
    ·exact e
    rcases List.mem_cons.1 hy with e | hy
    ·exact e.symm
    exact absurd (qdC (hl1 y hy) (hm1 x hx)) yc
   subst e
   rw [qA1 l m hl2 hm2 λ z=>?_]
   constructor
   ·intro hz
    rcases List.mem_cons.1 ((h z).1 (List.mem_cons_of_mem _ hz)) with e | h'
    ·subst e;exact absurd (hl1 z hz) yc
    ·exact h'
   ·intro hz
    rcases List.mem_cons.1 ((h z).2 (List.mem_cons_of_mem _ hz)) with e | h'
    ·subst e;exact absurd (hm1 z hz) yc
    ·exact h'
theorem qsc (n:Nat):∀ (a b:List T),a.length+b.length≤n→Asc a→Asc b→Asc (zg a b)∧(∀ x,x∈zg a b↔¬(x∈a↔x∈b)):=by
 induction n with
 | zero =>
   intro a b h _ _
   obtain rfl:a=[]:=List.length_eq_zero_iff.1 (by omega)
   obtain rfl:b=[]:=List.length_eq_zero_iff.1 (by omega)
   rw [zg]
   exact ⟨List.Pairwise.nil,by simp⟩
 | succ n ih =>
   intro a b h ha hb
   match a,b with
   | [],b=>rw [zg];exact ⟨hb,by simp⟩
   | x::a,[]=>rw [zg];exact ⟨ha,by simp [Classical.or_iff_not_imp_left]⟩
   | x::a,y::b =>
     rw [zg]
     obtain ⟨ha1,ha2⟩:=qaa.1 ha
     obtain ⟨hb1,hb2⟩:=qaa.1 hb
     simp only [List.length_cons] at h
     by_cases h1:qp x y=-1
     ·rw [if_pos h1]
      obtain ⟨k1,k2⟩:=ih a (y::b) (by simp;omega) ha2 hb
      have hxn:x ∉ y::b:=by
       intro h
       rcases List.mem_cons.1 h with e | h
       ·subst e;exact yc h1
       ·exact yc (qdC h1 (hb1 x h))
      have hxa:x ∉ a := λ h=>yc (ha1 x h)
      refine ⟨qaa.2 ⟨λ z hz=>?_,k1⟩,λ z=>?_⟩
      ·have:=(k2 z).1 hz
       by_cases hza:z∈a
       ·exact ha1 z hza
       ·have hzb:z∈y::b:=by
          by_cases hzb:z∈y::b
          ·exact hzb
          ·exact absurd ⟨λ h=>absurd h hza,λ h=>absurd h hzb⟩ this
        rcases List.mem_cons.1 hzb with e | h'
        ·rw [e];exact h1
        ·exact qdC h1 (hb1 z h')
      ·rw [List.mem_cons,k2,List.mem_cons (a:=z) (b:=x)]
       by_cases e:z=x
       ·subst e
        simp [hxn]
       ·simp [e]
     ·rw [if_neg h1]
      by_cases h2:qp x y=1
      ·rw [if_pos h2]
       have h3:=qtE.1 h2
       obtain ⟨k1,k2⟩:=ih (x::a) b (by simp;omega) ha hb2
       have hyn:y ∉ x::a:=by
        intro h
        rcases List.mem_cons.1 h with e | h
        ·subst e;exact yc h3
        ·exact yc (qdC h3 (ha1 y h))
       have hyb:y ∉ b := λ h=>yc (hb1 y h)
       refine ⟨qaa.2 ⟨λ z hz=>?_,k1⟩,λ z=>?_⟩
       ·have:=(k2 z).1 hz
        by_cases hzb:z∈b
        ·exact hb1 z hzb
        ·have hza:z∈x::a:=by
           by_cases hza:z∈x::a
           ·exact hza
           ·exact absurd ⟨λ h=>absurd h hza,λ h=>absurd h hzb⟩ this
         rcases List.mem_cons.1 hza with e | h'
         ·rw [e];exact h3
         ·exact qdC h3 (ha1 z h')
       ·rw [List.mem_cons,k2,List.mem_cons (a:=z) (b:=y)]
        by_cases e:z=y
        ·subst e
         simp [hyn]
        ·simp [e]
      ·rw [if_neg h2]
       have h3:qp x y=0:=by have:=zI.rng x y;omega
       have e:=JZ x y h3
       subst e
       obtain ⟨k1,k2⟩:=ih a b (by omega) ha2 hb2
       refine ⟨k1,λ z=>?_⟩
       rw [k2,List.mem_cons,List.mem_cons]
       by_cases e:z=x
       ·subst e
        have:z ∉ a := λ h=>yc (ha1 z h)
        have:z ∉ b := λ h=>yc (hb1 z h)
        simp [*]
       ·simp [e]
theorem qu5 {a b:List T} (ha:Asc a) (hb:Asc b):Asc (zg a b):=(qsc _ a b (Nat.le_refl _) ha hb).1
theorem qEn {a b:List T} (ha:Asc a) (hb:Asc b) (x:T):x∈zg a b↔¬(x∈a↔x∈b):=(qsc _ a b (Nat.le_refl _) ha hb).2 x
theorem qfU:∀ (ls:List (List T)) (a:List T),Asc a→(∀ l∈ls,Asc l)→Asc (ls.foldl zg a)
 | [],_,h,_=>h
 | l::ls,a,h,k=>qfU ls _ (qu5 h (k l (List.mem_cons_self ..))) λ m hm=>k m (List.mem_cons_of_mem _ hm)
theorem qkb (t:T):Asc (ju t):=by
 refine T.ind (P := λ t=>Asc (ju t)) ?_ t
 intro t ih
 rw [qiZ]
 split
 ·exact List.Pairwise.nil
 ·split
  ·exact qfU _ _ List.Pairwise.nil λ l hl=>by
    obtain ⟨k,hk,rfl⟩:=List.mem_map.1 hl
    exact ih k hk
  ·exact List.pairwise_singleton _ _
noncomputable def QQ (t:T) (s:List T × Bool) (x:T):List T × Bool :=
 if s.2=false∧qp t x≤0 then (s.1++(if qp t x<0 then [t] else [])++[x],true) else (s.1++[x],s.2)
noncomputable def qtz (l:List T) (t:T):List T:=if (l.foldl (QQ t) ([],false)).2 then (l.foldl (QQ t) ([],false)).1 else (l.foldl (QQ t) ([],false)).1++[t]
noncomputable def qgr (l:List T) (t:T):List T:=if l.any (λ x=>yz x t) then l.filter (λ x => !yz x t) else qtz l t
noncomputable def qiz (a b:List T):List T:=b.foldl qgr a
theorem qvq (t:T):∀ (l out:List T),l.foldl (QQ t) (out,true)=(out++l,true)
 | [],out=>by simp
 | x::l,out=>by
   have e:QQ t (out,true) x=(out++[x],true):=by simp [QQ]
   rw [List.foldl_cons,e,qvq t l]
   simp
noncomputable def Qg:List T→T→List T
 | [],t=>[t]
 | x::l,t=>if qp t x<0 then t::x::l else if qp t x=0 then x::l else x::Qg l t
theorem qsy (t:T):∀ (l out:List T),(if (l.foldl (QQ t) (out,false)).2 then (l.foldl (QQ t) (out,false)).1 else (l.foldl (QQ t) (out,false)).1++[t])=out++Qg l t
 | [],out=>by simp [Qg]
 | x::l,out=>by
   rw [List.foldl_cons]
   by_cases h:qp t x≤0
   ·have e:QQ t (out,false) x=(out++(if qp t x<0 then [t] else [])++[x],true):=by simp [QQ,h]
    rw [e,qvq,Qg]
    by_cases h0:qp t x<0
    ·simp [h0]
    ·have:qp t x=0:=by omega
     simp [this]
   ·have e:QQ t (out,false) x=(out++[x],false):=by simp [QQ,h]
    rw [e,qsy t l,Qg,if_neg (by omega),if_neg (by omega)]
    simp
theorem qqc (l:List T) (t:T):qtz l t=Qg l t:=by
 have:=qsy t l []
 simpa [qtz] using this
theorem qqA (t:T):∀ (l:List T) (x:T),x∈Qg l t↔x∈l∨x=t
 | [],x=>by simp [Qg]
 | y::l,x=>by
   rw [Qg]
   split
   ·simp only [List.mem_cons]
    constructor
    ·rintro (h | h | h)<;>simp [h]
    ·rintro ((h | h) | h)<;>simp [h]
   ·split
    ·rename_i h
     have:=JZ t y h
     subst this
     simp only [List.mem_cons]
     constructor
     ·rintro (h | h)<;>simp [h]
     ·rintro ((h | h) | h)<;>simp [h]
    ·rw [List.mem_cons,qqA t l x,List.mem_cons]
     constructor
     ·rintro (h | h | h)<;>simp [h]
     ·rintro ((h | h) | h)<;>simp [h]
theorem qyt (t:T):∀ (l:List T),Asc l→Asc (Qg l t)
 | [],_=>List.pairwise_singleton _ _
 | y::l,h=>by
   obtain ⟨h1,h2⟩:=qaa.1 h
   rw [Qg]
   have hr:=zI.rng t y
   split
   ·have hlt:qp t y=-1:=by omega
    refine qaa.2 ⟨λ z hz=>?_,h⟩
    rcases List.mem_cons.1 hz with e | hz
    ·rw [e];exact hlt
    ·exact qdC hlt (h1 z hz)
   ·split
    ·exact h
    ·refine qaa.2 ⟨λ z hz=>?_,qyt t l h2⟩
     rcases (qqA t l z).1 hz with hz | e
     ·exact h1 z hz
     ·rw [e];exact qtE.1 (by omega)
theorem qbM {a b:T}:yz a b=true↔a=b:=by unfold yz;exact decide_eq_true_iff
theorem qEM {l:List T} (h:Asc l) (t:T):Asc (qgr l t)∧∀ x,x∈qgr l t↔¬(x∈l↔x=t):=by
 unfold qgr
 by_cases hm:t∈l
 ·have h1:(l.any λ x=>yz x t)=true:=List.any_eq_true.2 ⟨t,hm,qbM.2 rfl⟩
  rw [if_pos h1]
  refine ⟨List.Pairwise.filter _ h,λ x=>?_⟩
  rw [List.mem_filter]
  by_cases e:x=t
  ·subst e
   simp [hm,qbM.2 rfl]
  ·have:yz x t=false:=by
     cases hh:yz x t
     ·rfl
     ·exact absurd (qbM.1 hh) e
   simp [e,this]
 ·rw [if_neg (λ hh=>by
    obtain ⟨x,hx,he⟩:=List.any_eq_true.1 hh
    exact hm (by rw [← qbM.1 he];exact hx)),qqc]
  refine ⟨qyt t l h,λ x=>?_⟩
  rw [qqA]
  by_cases e:x=t
  ·subst e;simp [hm]
  ·simp [e]
theorem qmK:∀ (b a:List T),Asc a→Asc b→Asc (qiz a b)∧∀ x,x∈qiz a b↔¬(x∈a↔x∈b)
 | [],a,ha,_=>⟨ha,λ x=>by simp [qiz]⟩
 | y::b,a,ha,hb=>by
   obtain ⟨hb1,hb2⟩:=qaa.1 hb
   obtain ⟨k1,k2⟩:=qEM ha y
   obtain ⟨m1,m2⟩:=qmK b (qgr a y) k1 hb2
   refine ⟨m1,λ x=>?_⟩
   rw [show qiz a (y::b)=qiz (qgr a y) b from rfl,m2,k2,List.mem_cons]
   by_cases e:x=y
   ·subst e
    have:x ∉ b := λ h=>yc (hb1 x h)
    by_cases hx:x∈a<;>simp [this,hx]
   ·by_cases hx:x∈a<;>by_cases hy:x∈b<;>simp [e,hx,hy]
theorem qyi {a b:List T} (ha:Asc a) (hb:Asc b):qiz a b=zg a b :=
 qA1 _ _ (qmK b a ha hb).1 (qu5 ha hb) λ x=>by rw [(qmK b a ha hb).2,qEn ha hb]
end Go.GxYtbpnmbmdbblehaaGreat
namespace Go.AmYtbpnmbmdbblehaaGreat
open Go Go.GxYtbpnmbmdbblehaaGreat Go.Lib
noncomputable def szL (l:List T):Nat:=(l.map size).sum
theorem qJ (x:T) (l:List T):szL (x::l)=size x+szL l:=by simp [szL]
theorem qgq (a b:List T):szL (a++b)=szL a+szL b:=by simp [szL]
theorem jb:∀ l:List T,l.length≤szL l
 | []=>Nat.zero_le _
 | x::l=>by
   have:=jb l
   have:=size_pos x
   rw [qJ,List.length_cons];omega
theorem qbF {l:List T} {x:T} (h:x∈l):size x≤szL l:=qih l x h
theorem qlR:∀ (n:Nat) (a b:List T),a.length+b.length≤n→szL (zg a b)≤szL a+szL b
 | _,[],b,_=>by rw [zg];omega
 | _,x::a,[],_=>by rw [zg];omega
 | 0,x::a,y::b,h=>by simp at h
 | n+1,x::a,y::b,h=>by
   simp only [List.length_cons] at h
   rw [zg]
   split
   ·have:=qlR n a (y::b) (by simp;omega)
    rw [qJ,qJ];omega
   ·split
    ·have:=qlR n (x::a) b (by simp;omega)
     rw [qJ y,qJ y];omega
    ·have:=qlR n a b (by omega)
     rw [qJ,qJ];omega
theorem qpW:∀ (ls:List (List T)) (a:List T),szL (ls.foldl zg a)≤szL a+(ls.map szL).sum
 | [],_=>by simp
 | l::ls,a=>by
   have h1:=qpW ls (zg a l)
   have h2:=qlR _ a l (Nat.le_refl _)
   simp only [List.foldl_cons,List.map_cons,List.sum_cons]
   omega
theorem qth (f g:T→Nat):∀ l:List T,(∀ k∈l,f k≤g k)→(l.map f).sum≤(l.map g).sum
 | [],_=>Nat.le_refl _
 | x::l,h=>by
   have h1:=h x (List.mem_cons_self ..)
   have h2:=qth f g l λ k hk=>h k (List.mem_cons_of_mem _ hk)
   simp only [List.map_cons,List.sum_cons];omega
theorem qyT (l:List T) (h:∀ k∈l,szL (ju k)≤size k):szL ((l.map ju).foldl zg [])≤szL l:=by
 refine Nat.le_trans (qpW _ _) ?_
 rw [List.map_map]
 have:=qth (szL ∘ ju) size l h
 show 0+_≤(l.map size).sum
 omega
theorem qjc (t:T):szL (ju t)≤size t:=by
 refine T.ind (P := λ t=>szL (ju t)≤size t) ?_ t
 intro t ih
 rw [qiZ]
 split
 ·exact Nat.zero_le _
 ·split
  ·have:=qyT t.kids ih
   have:=qS t
   unfold szL at *;omega
  ·show szL [t]≤_
   rw [qJ];exact Nat.le_refl _
theorem qdv (l:List T):szL (zF l)≤szL l:=qyT l λ k _=>qjc k
theorem qlY (x:T) (l:List T):y8 (x::l) 1 (((x::l).length:Nat):Int)=l:=by
 unfold y8
 rw [Int.toNat_natCast,List.take_length];rfl
theorem ql6 (n:Nat):inb (n:Int) n=true:=by unfold inb;rw [decide_eq_true_iff];omega
theorem qpk (x:T) (l:List T):inb 1 (Int.toNat (((x::l).length:Nat):Int))=true:=by
 unfold inb;rw [decide_eq_true_iff,Int.toNat_natCast,List.length_cons];omega
theorem qye (x:T) (l:List T):ilt 0 (((x::l).length:Nat):Int)=true:=by rw [qs,List.length_cons];omega
theorem qCf:∀ (n:Nat) (a b acc:List T),a.length+b.length≤n→szL acc+szL a+szL b≤1000000000→Ev (λ m k=>qbN m k a b acc) (acc++zg a b):=by
 intro n
 induction n with
 | zero =>
   intro a b acc hn hs
   have:a=[]:=List.eq_nil_of_length_eq_zero (by omega)
   subst this
   have:b=[]:=List.eq_nil_of_length_eq_zero (by omega)
   subst this
   refine Ev.loop ?_
   simp only [qpX,qg4]
   have:=jb acc
   exact Ev.cf rfl (Ev.ct (qY (by simp only [List.length_nil];omega) (by omega)) (Ev.ct (qY (by simp only [List.length_nil,List.append_nil];omega) (by omega)) (Ev.ret (by rw [zg];simp))))
 | succ n ih =>
   intro a b acc hn hs
   refine Ev.loop ?_
   simp only [qpX,qg4,qf]
   have h1:=jb acc
   have h2:=jb a
   have h3:=jb b
   cases a with
   | nil =>
     refine Ev.cf rfl (Ev.ct (qY (by simp only [List.length_nil];omega) (by omega)) (Ev.ct (qY (by simp only [List.append_nil];omega) (by omega)) (Ev.ret (by rw [zg];simp))))
   | cons x a =>
     refine Ev.ct (qye x a) ?_
     cases b with
     | nil =>
       refine Ev.cf rfl (Ev.ct (qY (by omega) (by omega)) (Ev.ct (qY (by rw [List.length_append];simp only [List.length_nil];omega) (by omega)) (Ev.ret (by rw [zg];simp))))
     | cons y b =>
       rw [qJ,qJ] at hs
       refine Ev.ct (qye y b) (Ev.some (Jk _) (Ev.some (Jk _) (Ev.bind (qcp x (by omega) y (by omega)) ?_)))
       rw [zg]
       simp only [List.length_cons] at hn h2 h3
       rw [qJ] at h2 h3
       refine Ev.ite (λ hc=>?_) λ hc=>?_
       ·rw [qs] at hc
        have hc:qp x y=-1:=by rcases zI.rng x y with h | h | h<;>omega
        rw [if_pos hc]
        refine Ev.some (Jk _) (Ev.ct (qY (by omega) (by omega)) (Ev.ct (ql6 _) (Ev.ct (qpk x a) ?_)))
        rw [qlY]
        refine (ih a (y::b) (acc++[x]) (by simp only [List.length_cons];omega) (by rw [qgq,qJ,qJ];show szL acc+(size x+0)+_+_≤_;omega)).res (by simp)
       ·rw [qw] at hc
        rw [if_neg (by omega)]
        refine Ev.ite (λ hd=>?_) λ hd=>?_
        ·rw [qs] at hd
         have hd:qp x y=1:=by rcases zI.rng x y with h | h | h<;>omega
         rw [if_pos hd]
         refine Ev.some (Jk _) (Ev.ct (qY (by omega) (by omega)) (Ev.ct (ql6 _) (Ev.ct (qpk y b) ?_)))
         rw [qlY]
         refine (ih (x::a) b (acc++[y]) (by simp only [List.length_cons];omega) (by rw [qgq,qJ,qJ];show szL acc+(size y+0)+_+_≤_;omega)).res (by simp)
        ·rw [qw] at hd
         rw [if_neg (by omega)]
         refine Ev.ct (ql6 _) (Ev.ct (qpk x a) (Ev.ct (ql6 _) (Ev.ct (qpk y b) ?_)))
         rw [qlY,qlY]
         exact ih a b acc (by omega) (by omega)
theorem qx0 (a b:List T) (hs:szL a+szL b≤1000000000):Ev (λ m _=>qgO m a b) (zg a b):=by
 refine Ev.succ ?_
 simp only [qBL,qg5]
 refine Ev.diag (L := λ m k=>qbN m k a b []) ?_
 exact qCf _ a b [] (Nat.le_refl _) (by show 0+_+_≤_;omega)
theorem qzX (l:List T) (i:Nat):szL (l.take i)≤szL l:=by
 have:=congrArg szL (List.take_append_drop i l)
 rw [qgq] at this;omega
theorem jJ {l:List T} {i:Nat} {x:T} (h:l[i]? = some x):szL (l.take i)+size x≤szL l:=by
 have h1:l.take (i+1)=l.take i++[x]:=by rw [List.take_add_one,h];rfl
 have h2:=qzX l (i+1)
 rw [h1,qgq,qJ] at h2
 have:szL ([]:List T)=0:=rfl
 omega
theorem qim {l:List T} {i:Nat} {x:T} (h:l[i]? = some x):((l.take (i+1)).map ju).foldl zg []=zg (((l.take i).map ju).foldl zg []) (ju x):=by
 rw [List.take_add_one,h,List.map_append,List.foldl_append];rfl
theorem qFE (t:T):size t≤1000000000→Ev (λ m _=>zR m t) (ju t):=by
 induction t using T.ind with
 | h t ih =>
   intro hs
   have hl:=yJ t
   have hz:=qS t
   refine Ev.succ ?_
   simp only [qt0,qcT,qf]
   have key:=qr (P := λ i=>Ev (λ m k=>jW m (zR m) k (((t.kids.take i).map ju).foldl zg []) t.kids t.kids.length i) ((t.kids.map ju).foldl zg [])) t.kids (by omega)
    (λ hc=>by
     refine Ev.loop ?_
     simp only [qj6,qcQ]
     refine Ev.cf hc ?_
     rw [List.take_length]
     exact Ev.pure _)
    (λ i x hx hd hc hg hi hP=>by
     refine Ev.loop ?_
     simp only [qj6,qcQ,qf]
     have hm:=List.mem_of_getElem? hx
     have h1:=jl t x hm
     have h2:=qdv (t.kids.take i)
     have h3:=jJ hx
     have h4:=qjc x
     refine Ev.ct hc (Ev.some hg (Ev.bind (ih x hm (by omega)) (Ev.bind (qx0 _ _ ?_) ?_)))
     ·unfold zF at h2;unfold szL at *;omega
     ·rw [hi]
      refine hP.congr λ m k=>?_
      rw [qim hx])
   have main:Ev (λ m _=>jW m (zR m) m [] t.kids t.kids.length 0) ((t.kids.map ju).foldl zg []) :=
    Ev.diag (L := λ m k=>jW m (zR m) k [] t.kids t.kids.length 0) (key 0 (Nat.zero_le _))
   rw [qiZ]
   by_cases h3:t.kind=3
   ·have hk:ieq t.kind 3=true:=qj.2 h3
    refine Ev.ct hk ?_
    refine Ev.ite (λ hn=>?_) λ hn=>?_
    ·rw [y9] at hn
     have hnz:isN t qbk=true:=yv.2 ⟨h3,hn⟩
     have hnx:isN t qej=false:=by
      rw [← Bool.not_eq_true,yv];rintro ⟨_,h⟩;rw [hn] at h;exact absurd h (by decide)
     refine Ev.ite (λ he=>?_) λ he=>?_
     ·rw [qj] at he
      have he:t.kids=[]:=List.eq_nil_of_length_eq_zero (by omega)
      rw [hnz,he]
      exact Ev.pure _
     ·rw [qh] at he
      have he:t.kids.isEmpty=false:=by
       cases hh:t.kids with
       | nil=>rw [hh] at he;exact absurd rfl he
       | cons _ _=>rfl
      rw [hnz,he,hnx]
      exact Ev.ct hk (Ev.cf (by rw [hn];rfl) (Ev.pure _))
    ·have hn':=jq.1 hn
     have hnz:isN t qbk=false:=by
      rw [← Bool.not_eq_true,yv];rintro ⟨_,h⟩;exact hn' h
     rw [hnz]
     refine Ev.ct hk (Ev.ite (λ hx=>?_) λ hx=>?_)
     ·rw [show isN t qej=true from yv.2 ⟨h3,y9.1 hx⟩]
      exact main
     ·have hnx:isN t qej=false:=by
        rw [← Bool.not_eq_true,yv];rintro ⟨_,h⟩;exact jq.1 hx h
      rw [hnx]
      exact Ev.pure _
   ·have hk:ieq t.kind 3=false:=qh.2 h3
    have hnn:∀ n,isN t n=false := λ n=>by
     rw [← Bool.not_eq_true,yv];rintro ⟨h,_⟩;exact h3 h
    rw [hnn,hnn]
    exact Ev.cf hk (Ev.cf hk (Ev.pure _))
end Go.AmYtbpnmbmdbblehaaGreat
