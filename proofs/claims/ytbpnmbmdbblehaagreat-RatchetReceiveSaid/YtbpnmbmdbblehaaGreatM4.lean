/- Part 4 of what the proofs stand on: plain functions of the program, and that they are its functions. -/
import Derived.Test.YtbpnmbmdbblehaaGreatM3
import Derived.KernelRfl
import Derived.Test.YtbpnmbmdbblehaaGreatProg
import Derived.Test.YtbpnmbmdbblehaaGreatM2
import Derived.IntWalk
import Derived.Lib.Bytealg
set_option linter.unusedVariables false
set_option linter.unusedSimpArgs false
namespace Go.AmYtbpnmbmdbblehaaGreat
open Go Go.RowKit Go.GxYtbpnmbmdbblehaaGreat Go.Sort Go.Proofs Go.Shelf
structure qGS (w0:World) (blk:Nat) (et:TypeId) (vs:Array Value) (W:World):Prop where
 hb:W.heap[blk]? = some (.cells vs et (0,0))
 os:W.os=w0.os
 tape:W.tape=w0.tape
 output:W.output=w0.output
 size:w0.heap.size≤W.heap.size
 other:∀ b,b<w0.heap.size→b≠blk→W.heap[b]? = w0.heap[b]?
 drawn:w0.drawn≤W.drawn
theorem qGS.refl {w:World} {blk:Nat} {et:TypeId} {vs:Array Value} (h:w.heap[blk]? = some (.cells vs et (0,0))):qGS w blk et vs w:=⟨h,rfl,rfl,rfl,Nat.le_refl _,λ _ _ _=>rfl,Nat.le_refl _⟩
theorem sort_blks {w:World} {blk:Nat} {et:TypeId} {vs:Array Value} (hb:w.heap[blk]? = some (.cells vs et (0,0))) {α : Type} [Inhabited α] (enc : α → List Value) (k m:Nat) (dk:Array α) (os:Array Obj) :
  qGS w blk et (putCells id 0 (flatK enc k dk) vs) (sortWorldK enc k w blk 0 m dk os):=by
 have hlt:blk<w.heap.size:=(Array.getElem?_eq_some_iff.1 hb).1
 have hh:(sortWorldK enc k w blk 0 m dk os).heap=w.heap.modify blk (onCells (putCells id 0 (flatK enc k dk)))++os:=rfl
 refine ⟨?_,rfl,rfl,rfl,?_,λ b hb' hn=>?_,Nat.le_add_right _ _⟩
 ·rw [hh,Array.getElem?_append_left (by simpa using hlt),Array.getElem?_modify,if_pos rfl,hb]
  rfl
 ·rw [hh,Array.size_append,Array.size_modify];exact Nat.le_add_right _ _
 ·rw [hh,Array.getElem?_append_left (by simpa using hb'),Array.getElem?_modify,if_neg (Ne.symm hn)]
theorem qeF.grow {W w':World} (h:qeF W w'):∃ q os',w'=Sort.grow (W.drewN q) os':=by
 refine ⟨w'.drawn-W.drawn,w'.heap.extract W.heap.size w'.heap.size,?_⟩
 have hh:w'.heap=W.heap++w'.heap.extract W.heap.size w'.heap.size:=by
  apply Array.ext_getElem?
  intro i
  by_cases hi:i<W.heap.size
  ·rw [Array.getElem?_append_left hi];exact h.block i hi
  ·rw [Array.getElem?_append_right (by omega),Array.getElem?_extract]
   split
   ·congr 1;omega
   ·rw [Array.getElem?_eq_none (by omega)]
 have hd:W.drawn+(w'.drawn-W.drawn)=w'.drawn:=Nat.add_sub_cancel' h.drawn
 obtain ⟨h1,h2,h3,_,_,_⟩:=h
 cases w'
 cases W
 simp only [Sort.grow,World.drewN] at *
 rw [← hh,hd,h1,h2,h3]
def Ql (vs:Array Value) (k p:Nat):List Value:=(vs.toList.drop (p*k)).take k
theorem qj0 {vs:Array Value} {k p j:Nat} (hj:j<k):(Ql vs k p)[j]? = vs[p*k+j]? := by
 unfold Ql
 rw [List.getElem?_take,if_pos hj,List.getElem?_drop,Array.getElem?_toList]
theorem qmf {vs:Array Value} {k p n:Nat} (hp:p<n) (hn:n*k≤vs.size):(Ql vs k p).length=k:=by
 unfold Ql
 have:(p+1)*k≤n*k:=Nat.mul_le_mul_right _ hp
 rw [Nat.succ_mul] at this
 rw [List.length_take,List.length_drop,Array.length_toList]
 omega
theorem qrm {Γ : Gh} {τ : Ty} {c:List (List AV)} {l:List (Val τ)} {vs:Array Value} {n:Nat} (hn:c.length=n) (hk:∀ e∈c,e.length = τ.size) (hd:qX (ym τ) c=some l) (hc:yu Γ τ.size c (vs.toList.take (n * τ.size))) (hs:n * τ.size≤vs.size)
  {p:Nat} {x:Val τ} (hp:l[p]? = some x):RepL Γ (qm τ x) (Ql vs τ.size p)∧∀ u∈Ql vs τ.size p,u.oneCell'=true:=by
 have hln:l.length=n:=(qQ hd).symm.trans hn
 have hpn:p<n:=by rw [← hln];exact getElem?_lt hp
 have hpc:p<c.length:=by rw [hn];exact hpn
 obtain ⟨x',hx',hdx⟩:=Ji hd (List.getElem?_eq_getElem hpc)
 rw [hp] at hx'
 cases hx'
 have hel:=hk _ (List.getElem_mem hpc)
 have hlen:=qmf (k := τ.size) hpn hs
 have get:∀ j,j < τ.size→∃ u,(Ql vs τ.size p)[j]? = some u∧Rep Γ (c[p][j]?.getD .dead) u∧u.oneCell'=true:=by
  intro j hj
  have hj':j<c[p].length:=by rw [hel];exact hj
  obtain ⟨u,u1,u2,u3⟩:=hc p c[p] j _ (List.getElem?_eq_getElem hpc) (List.getElem?_eq_getElem hj')
  refine ⟨u,?_,?_,u3⟩
  ·rw [qj0 hj,← Array.getElem?_toList]
   rw [List.getElem?_take] at u1
   split at u1
   ·exact u1
   ·cases u1
  ·rw [List.getElem?_eq_getElem hj'];exact u2
 constructor
 ·refine (qjh hdx).rep ⟨by rw [hlen,hel],λ j y u hy hu=>?_⟩
  have hj:j < τ.size:=by rw [← hel];exact getElem?_lt hy
  obtain ⟨u',u1,u2,_⟩:=get j hj
  rw [hu] at u1;cases u1
  rw [hy] at u2
  exact u2
 ·intro u hu
  obtain ⟨j,hj⟩:=List.getElem?_of_mem hu
  have hjk:j < τ.size:=by rw [← hlen];exact getElem?_lt hj
  obtain ⟨u',u1,_,u3⟩:=get j hjk
  rw [hj] at u1;cases u1
  exact u3
theorem qi5 (j k n:Nat) (h:j<n*k):j / k<n∧j / k*k+j % k=j∧j % k<k:=by
 have hk:0<k:=by
  rcases Nat.eq_zero_or_pos k with h0 | h0
  ·rw [h0,Nat.mul_zero] at h;exact absurd h (Nat.not_lt_zero _)
  ·exact h0
 refine ⟨(Nat.div_lt_iff_lt_mul hk).2 h,?_,Nat.mod_lt _ hk⟩
 rw [Nat.mul_comm];exact Nat.div_add_mod j k
set_option maxHeartbeats 1000000 in
theorem qET {P:Program} {ρ : Ren} (L:SlLaysF0.n6 P ρ) {τ : Ty} {g:FuncId} (hag:∀ v,yN τ v = .agg (qm τ v)) (aE:∀ w,(isAgg (ρ.t 24)).run P w = .ok true w) (zE:∀ w,(Go.sizeOf (ρ.t 24)).run P w = .ok τ.size w)
  {F:Val τ → Val τ → Option Int} (hF:Fn2 P g τ (λ c:Int => .int .i64 c) F) (hf:qfz P (ρ.f 6)) {fn:List (Val τ)→Option (List (Val τ))} (hfn:∀ l r,fn l=some r→qpC F l=some r) :
  qY P (ρ.f 6) (mgP ⟨τ,[.clo g 0],λ x=>fn x.1⟩):=by
 refine ⟨hf,λ Γ σ w args vals r hi hr hp=>?_⟩
 unfold mgP at hp
 split at hp
 case h_2=>cases hp
 rename_i x hx
 split at hp
 case h_2=>cases hp
 rename_i v hv
 split at hp
 case h_2=>cases hp
 rename_i hlen
 obtain ⟨l,_⟩:=x
 have hv:=hfn _ _ hv
 have hlen:v.length=l.length:=Nat.eq_of_beq_eq_true hlen
 obtain ⟨y0,ys0,nr,rfl,hy0,hx1⟩:=qoU hx
 obtain ⟨ys1,rfl,hx2⟩:=qCf (g:=g) (r:=[]) hx1
 obtain ⟨rfl,hbx,hrw⟩:=qjy hx2
 clear hx hx1 hx2
 obtain ⟨u0,r0,rfl,hu0,hr⟩:=hr.uncons
 obtain ⟨u1,r1,rfl,hu1,hr⟩:=hr.uncons
 have:=hr.nil_inv
 subst this
 have hu1:u1 = .func (.func g) #[] #[]:=by
  cases hu1 with
  | fn _ _ us hn _=>obtain rfl:=List.eq_nil_of_length_eq_zero hn;rfl
 subst hu1
 have hb0 : σ.bx=[]:=List.eq_nil_of_length_eq_zero hbx.symm
 have none0:∀ (p:Option Addr) (cap:Nat),Calls P (ρ.f 6) #[.slice p 0 cap,.func (.func g) #[] #[]] w λ e w'=>e = .returned (.tuple #[])∧w'=w := λ p cap=>AnyF.slices_SortFunc_none L p cap _ w
 have tup:∀ Γ,Rep Γ (.tup []) (.tuple #[]) := λ Γ => .tup [] [] rfl (λ i x u h=>by cases h)
 rcases qdR hy0 with ⟨hnr,R,rfl,hR,hRk,hRf,hRd⟩ | ⟨hnr,hl0,hy⟩
 ·have hrw1 : σ.rw=[R]:=by
    rw [hnr] at hrw
    match hq : σ.rw,hrw with
    | [Q],_=>rw [hq] at hR;cases hR;rfl
  rw [hb0,hrw1] at hp
  cases hp
  have H:=hi.row 0 R hR
  have hcl:R.c.length=l.length:=qQ hRd
  have hlk:∀ e∈R.c,e.length = τ.size := λ e he=>(H.len e he).trans hRk
  have qm6:qU { σ with wr:=[],wrr:=[] } ⟨[],[⟨R.k,v.map (qm τ),R.ver,R.fz,R.off⟩],[],[0]⟩ :=
   ⟨by show σ.bx.length≤0;rw [hb0];exact Nat.le_refl _,by show σ.rw.length≤1;rw [hrw1];exact Nat.le_refl _,λ i hi _=>(by have hi:i < σ.bx.length:=hi;rw [hb0] at hi;exact absurd hi (Nat.not_lt_zero _)),λ i hi hn=>(by
    have hi:i < σ.rw.length:=hi
    rw [hrw1] at hi
    have hi:i<1:=hi
    obtain rfl:i=0:=by omega
    exact absurd (List.mem_singleton.2 rfl) hn),λ i h=>(by cases h),λ i h=>(by cases h)⟩
  obtain ⟨p,cap,rfl,hcap,hrm⟩:=qpu hi hR hRk hRf hu0
  by_cases hl0:l=[]
  ·subst hl0
   have hc0:R.c=[]:=List.eq_nil_of_length_eq_zero hcl
   have hv0:v=[]:=List.eq_nil_of_length_eq_zero hlen
   subst hv0
   rw [hcl]
   refine (none0 p cap).mono ?_
   rintro e w' ⟨rfl,rfl⟩
   refine ⟨_,Γ,rfl,.refl _ _,?_,tup _,qm6⟩
   have:(⟨[],[⟨R.k,([]:List (Val τ)).map (qm τ),R.ver,R.fz,R.off⟩],[],[0]⟩:St)=⟨[],[R],[],[0]⟩:=by
    show (⟨[],[⟨R.k,[],R.ver,R.fz,R.off⟩],[],[0]⟩:St)=_
    rw [← hc0]
   show Inv Γ ⟨[],[⟨R.k,([]:List (Val τ)).map (qm τ),R.ver,R.fz,R.off⟩],[],[0]⟩ w'
   rw [this]
   exact hi.wr hb0.symm hrw1.symm
  ·have hlpos:0<l.length:=List.length_pos_iff.2 hl0
   rcases hrm with h0 | ⟨rfl,hz,vs,et,hvs,hvsz,hfit,hca,hxl,h1⟩
   ·omega
   obtain ⟨n,hn⟩:∃ n,n=l.length:=⟨_,rfl⟩
   have hnc:R.c.length=n:=hcl.trans hn.symm
   rw [hnc] at hca hxl h1 hcap ⊢
   have hns:n * τ.size≤vs.size:=Nat.le_trans (Nat.mul_le_mul_right _ hcap) hfit
   have hsz0:0 < τ.size:=Ty.size_pos τ
   have hv':Nat.ble l.length 100000=true∧qbP F l=true∧qrF l.length (ltOf (QI F l))=true∧v=pick l (qan F l):=by
    cases l with
    | nil=>exact absurd rfl hl0
    | cons y l =>
      have hv:cond _ _ _=some v:=hv
      cases hb:(Nat.ble (y::l).length 100000&&(qbP F (y::l)&&qrF (y::l).length (ltOf (QI F (y::l))))) with
      | false=>unfold qpC at hv;rw [hb] at hv;cases hv
      | true =>
        have hb':=hb
        simp only [Bool.and_eq_true] at hb'
        unfold qpC at hv
        rw [hb] at hv
        cases hv
        exact ⟨hb'.1,hb'.2.1,hb'.2.2,rfl⟩
   obtain ⟨v1,v2,v3,v4⟩:=hv'
   have v1:l.length≤100000:=Nat.le_of_ble_eq_true v1
   have hO:SWO (ltOf (QI F l)):=qKd hlpos (λ i j=>by unfold ltOf;rw [qGq]) v3
   obtain ⟨hperm,_⟩:=qqe F l hO
   have hixlt:∀ i∈qan F l,i<l.length := λ i hi=>List.mem_range.1 (hperm.mem_iff.1 hi)
   have hixlen:(qan F l).length=l.length:=by rw [hperm.length_eq,List.length_range]
   have hER:∀ {q:Nat} {y:Val τ},l[q]? = some y→RepL Γ (qm τ y) (Ql vs τ.size q)∧∀ u∈Ql vs τ.size q,u.oneCell'=true := λ hq=>qrm hnc hlk hRd hca hns hq
   have hlast:∀ i,i % n<n := λ i=>Nat.mod_lt _ (by omega)
   obtain ⟨enc,henc⟩:∃ enc:Nat→List Value,enc = λ i=>Ql vs τ.size (i % n):=⟨_,rfl⟩
   have hek:∀ i,(enc i).length = τ.size := λ i=>by rw [henc];exact qmf (hlast i) hns
   have hlget:∀ i,∃ y,l[i % n]? = some y := λ i=>⟨_,List.getElem?_eq_getElem (by rw [← hn];exact hlast i)⟩
   have he1:∀ i,∀ u∈enc i,u.oneCell'=true := λ i u hu=>by
    rw [henc] at hu
    obtain ⟨y,hy⟩:=hlget i
    exact (hER hy).2 u hu
   have hrange:(Array.range n).size=n:=Array.size_range
   have hvsb:w.heap[Γ.cur 0]? = some (.cells vs et (0,0)):=hvs
   have hblk : Γ.cur 0<w.heap.size:=(Array.getElem?_eq_some_iff.1 hvsb).1
   have hmem0:∀ off,Γ.mem (Γ.cur 0) off=none := λ off=>H.un hz off (by rw [hRf.1,Nat.zero_mul,H.off hRf.2];exact Nat.zero_le _)
   have hH:HoldsK enc τ.size w (Γ.cur 0) 0 (Array.range n):=by
    intro j hj
    rw [size_flatK,hrange] at hj
    obtain ⟨q1,q2,q3⟩:=qi5 j τ.size n hj
    have hjs:j<vs.size:=Nat.lt_of_lt_of_le hj hns
    constructor
    ·rw [get_flatK _ _ _ _ (by rw [hrange];exact hj)]
     have e1:(Array.range n)[j / τ.size]! = j / τ.size:=by rw [getElem!_pos _ _ (by rw [hrange];exact q1)];simp
     rw [e1,henc]
     show _=some ((Ql vs τ.size (j / τ.size % n))[j % τ.size]!)
     rw [Nat.mod_eq_of_lt q1]
     have e2:(Ql vs τ.size (j / τ.size))[j % τ.size]? = some vs[j]:=by rw [qj0 q3,q2];exact Array.getElem?_eq_getElem hjs
     rw [Nat.zero_add,Blk.cell hvs,List.getElem!_eq_getElem?_getD,e2,Array.getElem?_eq_getElem hjs]
     rfl
    ·exact Blk.free hvs _
   have hcmp:CmpLays P g #[] enc τ.size (QI F l) (Γ.cur 0) 0 (Array.range n).size w:=by
    intro m os dk hdk x y
    have B:=sort_blks hvsb enc τ.size m dk os
    obtain ⟨W,hW⟩:∃ W,W=sortWorldK enc τ.size w (Γ.cur 0) 0 m dk os:=⟨_,rfl⟩
    rw [← hW] at B ⊢
    have hiW:Inv (bare Γ) emp W:=hi.bare λ b o u e=>by
     have hne:b ≠ Γ.cur 0 := λ hb=>by rw [hb,hmem0] at e;cases e
     have hc:=(hi.mem b o u e).1
     have hblt:=hi.mem_lt e
     rw [show W.cell? _=w.cell? _ from World.cell?_of_block (B.other b hblt hne)]
     exact hc
    have rep:∀ (i:Nat) (y:Val τ),l[i % n]? = some y→Rep (bare Γ) (yN τ y) (.agg (enc i).toArray) := λ i y hy=>by
     obtain ⟨q1,q2⟩:=hER hy
     rw [hag]
     have:enc i=Ql vs τ.size (i % n):=by rw [henc]
     rw [this]
     refine .agg _ _ q1.len q2 λ j z u a b=>(q1.rep j z u a b).bare (zY τ y z (List.mem_of_getElem? a))
    obtain ⟨lx,hx⟩:=hlget x
    obtain ⟨ly,hy⟩:=hlget y
    have hsome:=List.all_eq_true.1 (List.all_eq_true.1 v2 lx (List.mem_of_getElem? hx)) ly (List.mem_of_getElem? hy)
    obtain ⟨c,hc⟩:=Option.isSome_iff_exists.1 hsome
    have hcf:QI F l x y=c:=by
     unfold QI
     rw [← hn,hx,hy]
     simp only
     rw [hc];rfl
    rw [hcf]
    have hcall:=hF.2 hiW (rep x lx hx) (rep y ly hy) hc
    refine Calls.mono (by simpa using hcall) ?_
    rintro e w' ⟨rfl,hid⟩
    exact ⟨rfl,hid.grow⟩
   have hcall:=AnyQ.slices_SortFunc_eq L τ.size aE zE enc hek he1 (QI F l) hO g #[] (Γ.cur 0) 0 cap (Array.range n) w (λ args w=>qeg hF.1 args w) hcmp hH hblk (by rw [hrange];omega)
   rw [hrange] at hcall
   refine Calls.mono hcall ?_
   rintro e w' ⟨rfl,m,os,hw'⟩
   have B:=sort_blks hvsb enc τ.size m (pdq (ltOf (QI F l)) (Array.range n) 0 n (Lib.bitLen n) true true) os
   rw [← hw'] at B
   have hix:qan F l=(pdq (ltOf (QI F l)) (Array.range n) 0 n (Lib.bitLen n) true true).toList:=by unfold qan;rw [hn]
   obtain ⟨dk,hdk⟩:∃ dk,dk=pdq (ltOf (QI F l)) (Array.range n) 0 n (Lib.bitLen n) true true:=⟨_,rfl⟩
   rw [← hdk] at B hix
   have hdks:dk.size=n:=by rw [← Array.length_toList,← hix,hixlen,hn]
   have hvlen:(v.map (qm τ)).length=n:=by rw [List.length_map,hlen,hn]
   have hflat:(flatK enc τ.size dk).size=n * τ.size:=by rw [size_flatK,hdks]
   have hpsz:(putCells id 0 (flatK enc τ.size dk) vs).size=vs.size:=by unfold putCells;rw [Array.size_mapIdx]
   obtain ⟨Γ',x1,x2,_⟩:=qrP hi hR (H.off hRf.2) (R':=⟨R.k,v.map (qm τ),R.ver,R.fz,R.off⟩) (by rw [hRf.1];exact Nat.zero_le _) rfl (g := Γ.cur 0) (vs:=putCells id 0 (flatK enc τ.size dk) vs) (e:=et) (.inr ⟨rfl,rfl,hpsz.trans hvsz⟩)
    (λ e he=>by obtain ⟨y,_,rfl⟩:=List.mem_map.1 he;rw [jS,hRk]) (λ e he=>by obtain ⟨y,_,rfl⟩:=List.mem_map.1 he;exact zY τ y) (by show R.fz≤_;rw [hRf.1];exact Nat.zero_le _) B.hb
    (by show (v.map (qm τ)).length*R.k≤_;rw [hvlen,hRk,hpsz];exact hns)
    (λ off _=>hmem0 off)
    (λ i e j x he hx=>by
     have he:(v.map (qm τ))[i]? = some e:=he
     have hin:i<n:=by rw [← hvlen];exact getElem?_lt he
     rw [List.getElem?_map,v4,qrC hixlt] at he
     have hixi:(qan F l)[i]? = some dk[i]:=by rw [hix,Array.getElem?_toList];exact Array.getElem?_eq_getElem (by omega)
     rw [hixi] at he
     obtain ⟨y,hy,rfl⟩:∃ y,l[dk[i]]? = some y∧qm τ y=e:=by
      cases hq:l[dk[i]]? with
      | none=>simp [hq] at he
      | some y=>simp [hq] at he;exact ⟨y,rfl,he⟩
     have hdl:dk[i]<n:=Nat.lt_of_lt_of_le (getElem?_lt hy) (Nat.le_of_eq hn.symm)
     obtain ⟨q1,q2⟩:=hER hy
     have hj:j < τ.size:=by rw [← jS τ y];exact getElem?_lt hx
     obtain ⟨u,hu,hrep⟩:=q1.get hx
     refine ⟨u,?_,hrep,q2 u (List.mem_of_getElem? hu)⟩
     rw [hRk]
     have hlt:i * τ.size+j<n * τ.size:=by
      have:(i+1) * τ.size≤n * τ.size:=Nat.mul_le_mul_right _ hin
      rw [Nat.succ_mul] at this
      omega
     unfold putCells
     rw [Array.getElem?_mapIdx,Array.getElem?_eq_getElem (Nat.lt_of_lt_of_le hlt hns),Option.map_some,if_pos ⟨Nat.zero_le _,by rw [hflat,Nat.zero_add];exact hlt⟩,Nat.sub_zero,id,get_flatK _ _ _ _ (by rw [hdks];exact hlt)]
     have e1:(i * τ.size+j) / τ.size=i:=by rw [Nat.mul_comm,Nat.mul_add_div hsz0,Nat.div_eq_of_lt hj,Nat.add_zero]
     have e2:(i * τ.size+j) % τ.size=j:=by rw [Nat.mul_comm,Nat.mul_add_mod,Nat.mod_eq_of_lt hj]
     rw [e1,e2,getElem!_pos dk i (by omega),henc]
     show some ((Ql vs τ.size (dk[i] % n))[j]!)=_
     rw [Nat.mod_eq_of_lt hdl,List.getElem!_eq_getElem?_getD,hu]
     rfl)
    (λ b o u hm=>by
     have hne:b ≠ Γ.cur 0 := λ hb=>by rw [hb,hmem0] at hm;cases hm
     rw [show w'.cell? _=w.cell? _ from World.cell?_of_block (B.other b (hi.mem_lt hm) hne)]
     exact (hi.mem b o u hm).1)
    (λ b hb hor=>B.other b hb (hor.elim id λ h0=>absurd h0 hz)) (.inl ⟨rfl,hz⟩) B.os B.tape B.output B.size B.drawn [0]
   refine ⟨_,Γ',rfl,x1,?_,tup _,qm6⟩
   refine x2.wr ?_ ?_
   ·exact hb0.symm
   ·show [(⟨R.k,v.map (qm τ),R.ver,R.fz,R.off⟩:Row)] = σ.rw.set 0 _
    rw [hrw1];rfl
 ·have hrw0 : σ.rw=[]:=by rw [hnr] at hrw;exact List.eq_nil_of_length_eq_zero hrw.symm
  rw [hb0,hrw0] at hp
  cases hp
  have hfin:∀ (p:Option Addr) (cap:Nat),jJ P Γ σ w (ρ.f 6) [.slice p 0 cap,.func (.func g) #[] #[]] (.tup [],none) := λ p cap=>by
   refine (none0 p cap).mono ?_
   rintro e w' ⟨rfl,rfl⟩
   exact ⟨_,Γ,rfl,.refl _ _,hi,tup _,.refl _⟩
  rcases hy with rfl | ⟨f,rfl,hf2⟩
  ·have hu0:=zw hu0
   subst hu0
   exact hfin none 0
  ·cases hu0 with
   | sl _ _ _ a n cap b o us hn _ _ _ _ _ _ _ _ =>
     have hn:n=0:=hn
     subst hn
     exact hfin a cap
end Go.AmYtbpnmbmdbblehaaGreat
namespace Go.Proofs.YtbpnmbmdbblehaaGreat
open Go Go.RowKit Go.GxYtbpnmbmdbblehaaGreat Go.Sort Go.Proofs Go.Shelf Go.Lib
def zt (ef:Nat→Nat→Bool) (n:Nat):List Nat:=(List.range n).filter λ i=>decide (i=0) || !ef i (i-1)
theorem qA0 {ef:Nat→Nat→Bool} {n:Nat} (h:ef n (n-1)=false):zt ef (n+1)=zt ef n++[n]:=by
 unfold zt
 rw [List.range_succ,List.filter_append]
 simp [h]
theorem qp8 {ef:Nat→Nat→Bool} {n:Nat} (hn:0<n) (h:ef n (n-1)=true):zt ef (n+1)=zt ef n:=by
 unfold zt
 rw [List.range_succ,List.filter_append]
 have:¬ n=0:=by omega
 simp [h,this]
theorem qsp {ef:Nat→Nat→Bool} {n:Nat} (h:∀ i,1≤i→i<n→ef i (i-1)=false):zt ef n=List.range n:=by
 unfold zt
 rw [List.filter_eq_self]
 intro i hi
 have hi:=List.mem_range.1 hi
 by_cases h0:i=0
 ·simp [h0]
 ·rw [h i (by omega) hi];simp
theorem qBb {α : Type} [Inhabited α] (enc : α → List Value) (k:Nat) (hk:∀ x,(enc x).length=k) (d:Array α) (i:Nat) (x : α) (hi:i<d.size):setMany (flatK enc k d) (i*k) (enc x)=flatK enc k (d.setIfInBounds i x):=by
 refine ext_get! (by simp) λ t ht=>?_
 rw [size_setMany,size_flatK] at ht
 rw [get_setMany _ _ _ _ (by rw [size_flatK];exact ht),hk,get_flatK _ _ _ _ ht,get_flatK _ _ _ _ (by simpa using ht)]
 have hk0:0<k:=by
  rcases Nat.eq_zero_or_pos k with h0 | h0
  ·rw [h0,Nat.mul_zero] at ht;exact absurd ht (Nat.not_lt_zero _)
  ·exact h0
 by_cases hb:i*k≤t∧t<i*k+k
 ·rw [if_pos hb]
  have e:=(blk_iff k i t hk0).1 hb
  rw [e,getElem!_set_same d i x hi]
  congr 1
  have:=Nat.div_add_mod t k
  rw [e] at this
  have e2:k*i=i*k:=Nat.mul_comm _ _
  omega
 ·rw [if_neg hb,getElem!_set_other d i _ x λ he=>hb ((blk_iff k i t hk0).2 he)]
theorem qGc {α : Type} [Inhabited α] {w:World} {enc : α → List Value} {k blk:Nat} (hk:∀ x,(enc x).length=k) (m:Nat) (dk:Array α) (os:Array Obj) (hblk:blk<w.heap.size) (i:Nat) (x : α) (hi:i<dk.size) :
  (sortWorldK enc k w blk 0 m dk os).setCells blk (i*k) (enc x)=sortWorldK enc k w blk 0 m (dk.setIfInBounds i x) os:=by
 have hb:i*k+(enc x).length≤(flatK enc k dk).size:=by
  rw [hk,size_flatK]
  have:=Nat.mul_le_mul_right k (show i+1≤dk.size from hi)
  rwa [Nat.succ_mul] at this
 unfold sortWorldK
 rw [setCells_grow os blk _ _ _ (by rw [size_putRowK];exact hblk)]
 congr 1
 unfold putRowK
 have:=setCells_putRow (Sort.ahead w m) blk 0 (enc x) (i*k) (flatK enc k dk) hb
 rw [Nat.zero_add] at this
 rw [this,qBb enc k hk dk i x hi]
variable {P:Program}
set_option maxHeartbeats 4000000 in
set_option maxRecDepth 1000000 in
theorem qEU (hF:P.funcs[155]? = some Tryz.f155) (mixed:P.follows .mixedOrders=true)
  (t0:P.underlying 0=some (TypeDesc.tuple #[])) (a0:∀ w,(isAgg 0).run P w = .ok false w) (z0:∀ w,(Go.sizeOf 0).run P w = .ok 1 w) (v0:∀ w,(zeroValue 0).run P w = .ok (Value.tuple #[]) w)
  (t3:P.underlying 3=some (TypeDesc.int IntKind.i64)) (a3:∀ w,(isAgg 3).run P w = .ok false w) (z3:∀ w,(Go.sizeOf 3).run P w = .ok 1 w) (v3:∀ w,(zeroValue 3).run P w = .ok (Value.int IntKind.i64 0) w)
  (t4:P.underlying 4=some (TypeDesc.bool)) (a4:∀ w,(isAgg 4).run P w = .ok false w) (z4:∀ w,(Go.sizeOf 4).run P w = .ok 1 w) (v4:∀ w,(zeroValue 4).run P w = .ok (Value.bool false) w)
  (t22:P.underlying 22=some (TypeDesc.slice 24)) (a22:∀ w,(isAgg 22).run P w = .ok false w) (z22:∀ w,(Go.sizeOf 22).run P w = .ok 1 w) (v22:∀ w,(zeroValue 22).run P w = .ok (Value.slice none 0 0) w)
  (t36:P.underlying 36=some (TypeDesc.func #[24,24] #[4] false)) (a36:∀ w,(isAgg 36).run P w = .ok false w) (z36:∀ w,(Go.sizeOf 36).run P w = .ok 1 w) (v36:∀ w,(zeroValue 36).run P w = .ok (Value.nilFunc) w)
  (p:Option Addr) (cap:Nat) (fv:Value) (w:World) :
  Calls P 155 #[.slice p 0 cap,fv] w λ e w'=>e = .returned (.slice p 0 cap)∧w'=w:=by
 go_enter hF,Tryz.ntmps155
 go_wp2
 go_ret
 exact ⟨rfl,rfl⟩
set_option maxHeartbeats 4000000 in
set_option maxRecDepth 1000000 in
theorem qFh (hF:P.funcs[155]? = some Tryz.f155) (mixed:P.follows .mixedOrders=true)
  (t0:P.underlying 0=some (TypeDesc.tuple #[])) (a0:∀ w,(isAgg 0).run P w = .ok false w) (z0:∀ w,(Go.sizeOf 0).run P w = .ok 1 w) (v0:∀ w,(zeroValue 0).run P w = .ok (Value.tuple #[]) w)
  (t3:P.underlying 3=some (TypeDesc.int IntKind.i64)) (a3:∀ w,(isAgg 3).run P w = .ok false w) (z3:∀ w,(Go.sizeOf 3).run P w = .ok 1 w) (v3:∀ w,(zeroValue 3).run P w = .ok (Value.int IntKind.i64 0) w)
  (t4:P.underlying 4=some (TypeDesc.bool)) (a4:∀ w,(isAgg 4).run P w = .ok false w) (z4:∀ w,(Go.sizeOf 4).run P w = .ok 1 w) (v4:∀ w,(zeroValue 4).run P w = .ok (Value.bool false) w)
  (t22:P.underlying 22=some (TypeDesc.slice 24)) (a22:∀ w,(isAgg 22).run P w = .ok false w) (z22:∀ w,(Go.sizeOf 22).run P w = .ok 1 w) (v22:∀ w,(zeroValue 22).run P w = .ok (Value.slice none 0 0) w)
  (t36:P.underlying 36=some (TypeDesc.func #[24,24] #[4] false)) (a36:∀ w,(isAgg 36).run P w = .ok false w) (z36:∀ w,(Go.sizeOf 36).run P w = .ok 1 w) (v36:∀ w,(zeroValue 36).run P w = .ok (Value.nilFunc) w)
  (k:Nat) (hk0:0<k) (aE:∀ w,(isAgg 24).run P w = .ok true w) (zE:∀ w,(Go.sizeOf 24).run P w = .ok k w) (zv:Value) (vE:∀ w,(zeroValue 24).run P w = .ok zv w) (hzk:zv.cells.size=k) (hz1:∀ n,∀ v∈(Builtin.zeroCells zv.cells n).toList,v.oneCell'=true)
  (w:World) (blk n cap:Nat) (et:TypeId) (vs:Array Value) (q:Nat) (hbk:w.heap[blk]? = some (.cells vs et (0,0))) (hcs:cap*k≤vs.size) (hnc:n≤cap) (hn:n≤100000) (h0n:0<n)
  (enc:Nat→List Value) (hk:∀ x,(enc x).length=k) (h1:∀ x,∀ v∈enc x,v.oneCell'=true) (hH:HoldsK enc k w blk 0 (Array.range n))
  (eg:∀ args w,(callFunc q args).run P w = .ok (.enter q args) w) (ef:Nat→Nat→Bool)
  (heq:∀ (m:Nat) (os:Array Obj) (dk:Array Nat),dk.size=n→∀ x y,Calls P q #[.agg (enc x).toArray,.agg (enc y).toArray] (sortWorldK enc k w blk 0 m dk os) λ e w'=>e = .returned (.bool (ef x y))∧∃ q' os',w'=grow ((sortWorldK enc k w blk 0 m dk os).drewN q') os') :
  Calls P 155 #[.slice (some ⟨blk,0,none⟩) n cap,.func (.func q) #[] #[]] w λ e w'=>e = .returned (.slice (some ⟨blk,0,none⟩) (zt ef n).length cap) ∧
   ∃ (dk:Array Nat) (m:Nat) (os:Array Obj) (new:List Value),dk.size=n∧dk.toList.take (zt ef n).length=zt ef n∧(w'=sortWorldK enc k w blk 0 m dk os∨(new.take ((zt ef n).length*k)=(putCells id 0 (flatK enc k dk) vs).toList.take ((zt ef n).length*k)∧new.length=vs.size∧w'=(sortWorldK enc k w blk 0 m dk os).setRow blk new.toArray)):=by
 have u22:=run_underlying t22
 have hblk:blk<w.heap.size:=(Array.getElem?_eq_some_iff.1 hbk).1
 have hrs:(Array.range n).size=n:=Array.size_range
 have HC:Aside _:=heq
 have HST:Hid (w=sortWorldK enc k w blk 0 0 (Array.range n) #[]):=by show w=_;unfold sortWorldK;rw [grow_empty];exact (putRowK_self enc k w blk 0 _ hH).symm
 have HH:Hid (HoldsK enc k w blk 0 (Array.range n)):=hH
 have HK:Hid (∀ x,(enc x).length=k):=hk
 have H1:Hid (∀ x,∀ v∈enc x,v.oneCell'=true):=h1
 have HBK:Hid (w.heap[blk]? = some (.cells vs et (0,0))):=hbk
 have HVE:Aside _:=vE
 have HZ1:Aside _:=hz1
 have HZK:=Lib.hid hzk
 have HCS:=Lib.hid hcs
 clear heq hH hk h1 hbk vE hz1 hzk hcs
 have hnz:(n:Int)≤100000:=by omega
 by_cases hn2:n<2
 ·have hn1:n=1:=by omega
  subst hn1
  have hci:zt ef 1=[0]:=by unfold zt;simp
  have HCI:=Lib.hid hci
  clear hci
  go_enter hF,Tryz.ntmps155
  go_wp2
  go_ret
  rw [HCI.out]
  exact ⟨rfl,Array.range 1,0,#[],[],hrs,by simp,.inl HST.out⟩
 ·have hn2z:¬ ((n:Int)<2):=by omega
  go_enter hF,Tryz.ntmps155
  go_wp2
  go_loopg [5] n (λ g1 vi wr=>∃ (i m:Nat) (os:Array Obj),vi = .int .i64 i∧1≤i∧i≤n∧n-i≤g1∧wr=sortWorldK enc k w blk 0 m (Array.range n) os∧Hid (∀ j,1≤j→j<i→ef j (j-1)=false))
  case atStart=>exact ⟨1,0,#[],rfl,Nat.le_refl _,by omega,by omega,HST.out,λ j h1 h2=>by omega⟩
  case round =>
   obtain ⟨i,m,os,rfl,hi1,hin,hg1,rfl,HE⟩:=hrel
   by_cases hlt:i<n
   ·have hltz:(i:Int)<(n:Int):=by omega
    obtain ⟨ip,rfl⟩:∃ ip,i=ip+1:=⟨i-1,by omega⟩
    have hwp:IntKind.i64.wrap (ip:Int)=(ip:Int):=by rw [IntKind.wrap_i64];omega
    have jz1:(ip:Int)<(n:Int):=by omega
    have p0:(0:Int)≤(ip:Int)+1:=by omega
    have e0:((ip:Int)+1).toNat=ip+1:=by omega
    have r1:(Array.range n)[ip+1]! = ip+1:=by rw [getElem!_pos _ _ (by rw [hrs];exact hlt)];simp
    have r0:(Array.range n)[ip]! = ip:=by rw [getElem!_pos _ _ (by rw [hrs];omega)];simp
    have hcls:∀ n' os',grow ((sortWorldK enc k w blk 0 m (Array.range n) os).drewN n') os'=sortWorldK enc k w blk 0 (m+n') (Array.range n) (os++os') := λ n' os'=>sortWorldK_grown_c enc k w blk 0 m n' _ os os'
    have hHc:∀ n' os',HoldsK enc k (grow ((sortWorldK enc k w blk 0 m (Array.range n) os).drewN n') os') blk 0 (Array.range n) := λ n' os'=>by rw [hcls];exact holdsK_sortWorldK_c enc k w blk 0 _ _ _ _ HH.out hblk rfl
    have lj:∀ n' os',Sem.run P (loadCellsFrom ⟨blk,(ip+1)*k,none⟩ 0 k #[]) (grow ((sortWorldK enc k w blk 0 m (Array.range n) os).drewN n') os') = .ok (enc (ip+1)).toArray (grow ((sortWorldK enc k w blk 0 m (Array.range n) os).drewN n') os') := λ n' os'=>by
     have:=HoldsK.cells (hHc n' os') HK.out (i:=ip+1) (by rw [hrs];exact hlt)
     rw [r1,Nat.zero_add] at this
     exact run_loadCellsFrom_list P _ _ _ k (HK.out _) this
    have lp:∀ n' os',Sem.run P (loadCellsFrom ⟨blk,ip*k,none⟩ 0 k #[]) (grow ((sortWorldK enc k w blk 0 m (Array.range n) os).drewN n') os') = .ok (enc ip).toArray (grow ((sortWorldK enc k w blk 0 m (Array.range n) os).drewN n') os') := λ n' os'=>by
     have:=HoldsK.cells (hHc n' os') HK.out (i:=ip) (by rw [hrs];omega)
     rw [r0,Nat.zero_add] at this
     exact run_loadCellsFrom_list P _ _ _ k (HK.out _) this
    have hcg:∀ n' os',Calls P q #[.agg (enc (ip+1)).toArray,.agg (enc ip).toArray] (grow ((sortWorldK enc k w blk 0 m (Array.range n) os).drewN n') os') λ e w'=>e = .returned (.bool (ef (ip+1) ip))∧∃ q os'',w'=grow ((grow ((sortWorldK enc k w blk 0 m (Array.range n) os).drewN n') os').drewN q) os'' := λ n' os'=>by
     rw [hcls];exact HC.out _ _ _ hrs (ip+1) ip
    have CLS:Hid _:=hcls
    clear hcls hHc r0 r1
    generalize hwq:sortWorldK enc k w blk 0 m (Array.range n) os=wq at lj lp hcg CLS ⊢
    cases hev:ef (ip+1) ip with
    | false =>
      rw [hev] at hcg
      go_wp2_with fail
      go_quiet_grown (first | (go_at_fn q;refine Calls.grown_of (hcg _ _)))
      go_wp2
      go_roundg (n-(ip+2))
      case measure=>omega
      case rel =>
       refine ⟨ip+2,_,_,by go_num,by omega,by omega,by omega,CLS.out nq osq,(show Hid _ from λ j h1 h2=>?_)⟩
       by_cases hj:j=ip+1
       ·rw [hj];exact hev
       ·exact HE.out j h1 (by omega)
    | true =>
      rw [hev] at hcg
      go_wp2_with fail
      go_quiet_grown (first | (go_at_fn q;refine Calls.grown_of (hcg _ _)))
      have hcap1:¬ (cap=ip+1):=by omega
      have hcap2:(ip:Int)+1≤(cap:Int):=by omega
      go_wp2
      go_loopg [5,7] n (λ g2 v5 v7 wr2=>∃ (b kk m2:Nat) (dk:Array Nat) (os2:Array Obj),v5 = .int .i64 kk∧v7 = .int .i64 b∧1≤b∧ip+1+b≤n∧n-b≤g2∧kk≤ip+b∧dk.size=n∧wr2=sortWorldK enc k w blk 0 m2 dk os2∧Hid (dk.toList.take kk=zt ef (ip+1+b))∧Hid (kk=(zt ef (ip+1+b)).length)∧Hid (∀ j,ip+b≤j→j<n→dk[j]! = j))
      case atStart =>
       have e1:zt ef (ip+1)=List.range (ip+1):=qsp λ j h1 h2=>HE.out j h1 h2
       have e2:zt ef (ip+1+1)=List.range (ip+1):=by rw [qp8 (by omega) (by simpa using hev),e1]
       refine ⟨1,ip+1,_,Array.range n,_,by go_num,rfl,Nat.le_refl _,by omega,by omega,by omega,hrs,CLS.out nq osq,?_,?_,?_⟩
       ·show _=_
        rw [e2,Array.toList_range,List.take_range,Nat.min_eq_left (by omega)]
       ·show _=_
        rw [e2,List.length_range]
       ·intro j _ h2
        rw [getElem!_pos _ _ (by rw [hrs];exact h2)];simp
      case round =>
       obtain ⟨b,kk,m2,dk,os2,rfl,rfl,hb1,hbn,hg2,hkk,hdk,rfl,HT,HL,HD⟩:=hrel
       by_cases hlt2:ip+1+b<n
       ·obtain ⟨bp,rfl⟩:∃ bp,b=bp+1:=⟨b-1,by omega⟩
        have hltz2:(bp:Int)+1<((n-(ip+1):Nat):Int):=by omega
        have hltz3:(bp:Int)<((n-(ip+1):Nat):Int):=by omega
        have hwp2:IntKind.i64.wrap (bp:Int)=(bp:Int):=by rw [IntKind.wrap_i64];omega
        have p2:(0:Int)≤(bp:Int)+1:=by omega
        have e2:((bp:Int)+1).toNat=bp+1:=by omega
        have hkn:(kk:Int)<(n:Int):=by omega
        obtain ⟨ax,hax⟩:∃ ax,ax=ip+1+(bp+1):=⟨_,rfl⟩
        have hac:(ip+1)*k+(bp+1)*k=ax*k:=by rw [hax,Nat.add_mul (ip+1)]
        have hap:(ip+1)*k+bp*k=(ax-1)*k:=by rw [← Nat.add_mul];congr 1;omega
        have r1:dk[ax]! = ax:=HD.out ax (by omega) (by omega)
        have r0:dk[ax-1]! = ax-1:=HD.out (ax-1) (by omega) (by omega)
        have hcls:∀ n' os',grow ((sortWorldK enc k w blk 0 m2 dk os2).drewN n') os'=sortWorldK enc k w blk 0 (m2+n') dk (os2++os') := λ n' os'=>sortWorldK_grown_c enc k w blk 0 m2 n' dk os2 os'
        have hHc:∀ n' os',HoldsK enc k (grow ((sortWorldK enc k w blk 0 m2 dk os2).drewN n') os') blk 0 dk := λ n' os'=>by rw [hcls];exact holdsK_sortWorldK_c enc k w blk 0 (Array.range n) dk _ _ HH.out hblk (by rw [hdk,hrs])
        have lj:∀ n' os',Sem.run P (loadCellsFrom ⟨blk,(ip+1)*k+(bp+1)*k,none⟩ 0 k #[]) (grow ((sortWorldK enc k w blk 0 m2 dk os2).drewN n') os') = .ok (enc ax).toArray (grow ((sortWorldK enc k w blk 0 m2 dk os2).drewN n') os') := λ n' os'=>by
         have:=HoldsK.cells (hHc n' os') HK.out (i:=ax) (by rw [hdk];omega)
         rw [r1,Nat.zero_add,← hac] at this
         exact run_loadCellsFrom_list P _ _ _ k (HK.out _) this
        have lp:∀ n' os',Sem.run P (loadCellsFrom ⟨blk,(ip+1)*k+bp*k,none⟩ 0 k #[]) (grow ((sortWorldK enc k w blk 0 m2 dk os2).drewN n') os') = .ok (enc (ax-1)).toArray (grow ((sortWorldK enc k w blk 0 m2 dk os2).drewN n') os') := λ n' os'=>by
         have:=HoldsK.cells (hHc n' os') HK.out (i:=ax-1) (by rw [hdk];omega)
         rw [r0,Nat.zero_add,← hap] at this
         exact run_loadCellsFrom_list P _ _ _ k (HK.out _) this
        have hcg:∀ n' os',Calls P q #[.agg (enc ax).toArray,.agg (enc (ax-1)).toArray] (grow ((sortWorldK enc k w blk 0 m2 dk os2).drewN n') os') λ e w'=>e = .returned (.bool (ef ax (ax-1)))∧∃ q os'',w'=grow ((grow ((sortWorldK enc k w blk 0 m2 dk os2).drewN n') os').drewN q) os'' := λ n' os'=>by
         rw [hcls];exact HC.out _ _ _ hdk ax (ax-1)
        have CLS2:Hid _:=hcls
        have HHC:Hid _:=hHc
        have HAC:=Lib.hid hac
        clear hcls hHc hap hac
        generalize hwq2:sortWorldK enc k w blk 0 m2 dk os2=wq2 at lj lp hcg CLS2 HHC ⊢
        have hlA:(enc ax).length=k:=HK.out _
        have hA1:∀ v∈enc ax,v.oneCell'=true:=H1.out _
        obtain ⟨cA,hcA⟩:∃ c,c=enc ax:=⟨_,rfl⟩
        obtain ⟨cP,hcP⟩:∃ c,c=enc (ax-1):=⟨_,rfl⟩
        rw [← hcA] at lj hcg hlA hA1
        rw [← hcP] at lp hcg
        have HCA:=Lib.hid hcA
        clear hcA hcP
        have hT:=HT.out
        have hL:=HL.out
        rw [show ip+1+(bp+1)=ax from hax.symm] at hT hL
        have HAX:=Lib.hid hax
        have hax1:0<ax:=by omega
        have hax3:ax<n:=by omega
        clear hax r0 r1
        cases hev2:ef ax (ax-1) with
        | true =>
          have hcd:zt ef (ax+1)=zt ef ax:=qp8 hax1 hev2
          have HT2:Hid (dk.toList.take kk=zt ef (ax+1)):=by show _=_;rw [hcd];exact hT
          have HL2:Hid (kk=(zt ef (ax+1)).length):=by show _=_;rw [hcd];exact hL
          clear hT hL hcd
          rw [hev2] at hcg
          go_wp2_with fail
          go_quiet_grown (first | (go_at_fn q;refine Calls.grown_of (hcg _ _)))
          go_wp2
          go_roundg (n-(bp+2))
          case measure=>omega
          case rel =>
           have hax2:ip+1+(bp+2)=ax+1:=by have:=HAX.out;omega
           refine ⟨bp+2,kk,_,dk,_,rfl,by go_num,by omega,by omega,by omega,by omega,hdk,CLS2.out nq osq,?_,?_,(show Hid _ from λ j h1 h2=>HD.out j (by omega) h2)⟩
           ·show _=_
            rw [hax2];exact HT2.out
           ·show _=_
            rw [hax2];exact HL2.out
        | false =>
          have hcd:zt ef (ax+1)=zt ef ax++[ax]:=qA0 hev2
          have hdl:kk<dk.toList.length:=by rw [Array.length_toList,hdk];omega
          have HT2:Hid ((dk.setIfInBounds kk ax).toList.take (kk+1)=zt ef (ax+1)):=by
           show _=_
           rw [hcd,← hT,Array.toList_setIfInBounds,List.take_add_one,List.take_set_of_le (Nat.le_refl _),List.getElem?_set_self hdl];rfl
          have HL2:Hid (kk+1=(zt ef (ax+1)).length):=by show _=_;rw [hcd,List.length_append,← hL];rfl
          clear hT hL hcd
          rw [hev2] at hcg
          go_wp2_with fail
          go_quiet_grown (first | (go_at_fn q;refine Calls.grown_of (hcg _ _)))
          have hw2:grow (wq2.drewN nq) osq=sortWorldK enc k w blk 0 (m2+nq) dk (os2++osq):=CLS2.out nq osq
          have lj2:=lj nq osq
          have hHd:=HHC.out nq osq
          clear lj lp hcg
          generalize grow (wq2.drewN nq) osq=wq3 at hw2 hHd lj2 ⊢
          have hbd:kk*k+cA.length≤(flatK enc k dk).size:=by
           rw [hlA,size_flatK]
           have:=Nat.mul_le_mul_right k (show kk+1≤dk.size by omega)
           rwa [Nat.succ_mul] at this
          have s1:Sem.run P (storeCells ⟨blk,kk*k,none⟩ cA 0) wq3 = .ok () (wq3.setCells blk (kk*k) cA):=by
           have:=stores_of_holds P hHd (kk*k) cA hbd hA1
           rwa [Nat.zero_add] at this
          have HW3:Hid (wq3.setCells blk (kk*k) cA=sortWorldK enc k w blk 0 (m2+nq) (dk.setIfInBounds kk ax) (os2++osq)):=by
           show _=_
           rw [hw2,HCA.out]
           exact qGc HK.out (m2+nq) dk (os2++osq) hblk kk ax (by omega)
          clear hw2 hHd hbd
          go_wp2
          go_roundg (n-(bp+2))
          case measure=>omega
          case rel =>
           have hax2:ip+1+(bp+2)=ax+1:=by have:=HAX.out;omega
           refine ⟨bp+2,kk+1,_,dk.setIfInBounds kk ax,_,by go_num,by go_num,by omega,by omega,by omega,by omega,by simpa using hdk,HW3.out,?_,?_,(show Hid _ from λ j h1 h2=>?_)⟩
           ·show _=_
            rw [hax2];exact HT2.out
           ·show _=_
            rw [hax2];exact HL2.out
           ·rw [getElem!_set_other _ _ _ _ (by omega)]
            exact HD.out j (by omega) h2
       ·obtain rfl:n=ip+1+b:=by omega
        have hW:=(Go.AmYtbpnmbmdbblehaaGreat.sort_blks HBK.out enc k m2 dk os2).hb
        have hpsz:(putCells id 0 (flatK enc k dk) vs).size=vs.size:=by unfold putCells;rw [Array.size_mapIdx]
        have hzl:(Builtin.zeroCells zv.cells (ip+1+b-kk)).toList.length=(ip+1+b-kk)*k:=by rw [Array.length_toList,size_zeroCells,HZK.out]
        have hsum:kk*k+(ip+1+b-kk)*k=(ip+1+b)*k:=by rw [← Nat.add_mul];congr 1;omega
        have hle:(ip+1+b)*k≤vs.size:=Nat.le_trans (Nat.mul_le_mul_right _ hnc) HCS.out
        obtain ⟨new,hnew⟩:∃ new,new=(putCells id 0 (flatK enc k dk) vs).toList.take (kk*k)++(Builtin.zeroCells zv.cells (ip+1+b-kk)).toList++(putCells id 0 (flatK enc k dk) vs).toList.drop (kk*k+(Builtin.zeroCells zv.cells (ip+1+b-kk)).toList.length):=⟨_,rfl⟩
        have hcl:∀ ty,(Builtin.clear_ #[22] ty #[.slice (some ⟨blk,kk*k,none⟩) (ip+1+b-kk) (cap-kk)]).run P (sortWorldK enc k w blk 0 m2 dk os2) = .ok (.tuple #[]) ((sortWorldK enc k w blk 0 m2 dk os2).setRow blk new.toArray) := λ ty=>by
         rw [hnew]
         exact ql8 _ 22 24 ty zv t22 HVE.out blk (kk*k) (ip+1+b-kk) (cap-kk) (by omega) _ et hW (by rw [hpsz,HZK.out];omega) (HZ1.out _)
        have HN1:Hid (new.take (kk*k)=(putCells id 0 (flatK enc k dk) vs).toList.take (kk*k)):=by
         show _=_
         rw [hnew,List.append_assoc,List.take_append_of_le_length (by rw [List.length_take,Array.length_toList,hpsz];omega),List.take_take,Nat.min_self]
        have HN2:Hid (new.length=vs.size):=by
         show _=_
         rw [hnew]
         rw [Array.length_toList] at hzl
         simp only [List.length_append,List.length_take,List.length_drop,Array.length_toList,hpsz,hzl]
         omega
        have hkc:¬ (cap=kk):=by omega
        have hkc2:(kk:Int)≤(cap:Int):=by omega
        have hkn:(kk:Int)≤((ip+1+b:Nat):Int):=by omega
        clear hW hpsz hzl hsum hle hnew
        have HW:Hid _:=(⟨dk,m2,os2,rfl⟩:∃ (d:Array Nat) (m:Nat) (os:Array Obj),sortWorldK enc k w blk 0 m2 dk os2=sortWorldK enc k w blk 0 m d os)
        generalize hwq2:sortWorldK enc k w blk 0 m2 dk os2=wq2 at hcl ⊢
        have HWQ:=Lib.hid hwq2
        clear hwq2 HW
        have HDK:=Lib.hid hdk
        go_wp2_with (simp only [hcl])
        go_ret
        have hL:=HL.out
        rw [← hL]
        exact ⟨rfl,dk,m2,os2,new,HDK.out,HT.out,.inr ⟨HN1.out,HN2.out,by rw [HWQ.out]⟩⟩
   ·obtain rfl:i=n:=by omega
    have hci:zt ef i=List.range i:=qsp λ j h1 h2=>HE.out j h1 h2
    have HCI:=Lib.hid hci
    clear hci
    go_wp2
    go_ret
    rw [HCI.out,List.length_range]
    exact ⟨rfl,Array.range i,_,_,[],hrs,by simp,.inl rfl⟩
end Go.Proofs.YtbpnmbmdbblehaaGreat
namespace Go.AmYtbpnmbmdbblehaaGreat
open Go Go.RowKit Go.GxYtbpnmbmdbblehaaGreat Go.Sort Go.Proofs Go.Shelf Go.Proofs.YtbpnmbmdbblehaaGreat
def qjC {α : Type} (F : α → α → Option Bool) (l:List α) (i j:Nat):Bool:=match l[i % l.length]?,l[j % l.length]? with
 | some x,some y=>(F x y).getD false
 | _,_=>false
def qxH {α : Type} (F : α → α → Option Bool):List α → Option (List α)
 | []=>some []
 | x::l=>cond (Nat.ble (x::l).length 100000&&qbP F (x::l)) (some (pick (x::l) (zt (qjC F (x::l)) (x::l).length))) none
def qsU {α : Type} (F : α → α → Option Bool) (l:List α):Option (Unit × List α × Unit):=match qxH F l with
 | some l'=>some ((),l',())
 | none=>none
theorem qCR {α : Type} {F : α → α → Option Bool} {l:List α} {r:Unit × List α × Unit} (h:qsU F l=some r):∃ l',qxH F l=some l'∧r=((),l',()):=by
 unfold qsU at h
 split at h
 ·cases h;exact ⟨_,‹_›,rfl⟩
 ·cases h
theorem qEB {P:Program} {f:FuncId} {g:qnU} (hf:qfz P f) (h:∀ a,g.fn a=none):qY P f (mgP g):=by
 refine ⟨hf,λ Γ σ w args vals r hi hr hp=>?_⟩
 unfold mgP at hp
 split at hp
 ·rw [h] at hp;cases hp
 ·cases hp
theorem qv3 {ef:Nat→Nat→Bool} {n:Nat}:∀ i∈zt ef n,i<n := λ i hi=>List.mem_range.1 (List.mem_filter.1 hi).1
theorem qn4 {enc:Nat→List Value} {k:Nat} (hk:∀ x,(enc x).length=k):∀ (l:List Nat) (i j:Nat),j<k→(l.flatMap enc)[i*k+j]? = (l[i]?).bind λ x=>(enc x)[j]?
 | [],i,j,_=>by simp
 | x::l,0,j,hj=>by
   rw [List.flatMap_cons,Nat.zero_mul,Nat.zero_add,List.getElem?_append_left (by rw [hk];exact hj)]
   rfl
 | x::l,i+1,j,hj=>by
   rw [List.flatMap_cons,List.getElem?_append_right (by rw [hk,Nat.succ_mul];omega),hk]
   have:(i+1)*k+j-k=i*k+j:=by rw [Nat.succ_mul];omega
   rw [this]
   exact qn4 hk l i j hj
theorem qvO {enc:Nat→List Value} {k:Nat} (hk:∀ x,(enc x).length=k):∀ l:List Nat,(l.flatMap enc).length=l.length*k
 | []=>by simp
 | x::l=>by rw [List.flatMap_cons,List.length_append,hk,qvO hk l,List.length_cons,Nat.succ_mul,Nat.add_comm]
theorem qsY {β : Type} {f:List AV→Option β} {es:List (List AV)} {l:List β} (h:qX f es=some l):∀ {ix:List Nat},(∀ i∈ix,i<l.length)→qX f (pick es ix)=some (pick l ix)
 | [],_=>rfl
 | i::ix,hi=>by
   have h1:=hi i (List.mem_cons_self ..)
   have hl:=qQ h
   have e1:pick es (i::ix)=es[i]'(by omega)::pick es ix:=by
    unfold pick;rw [List.filterMap_cons,List.getElem?_eq_getElem (by omega)]
   have e2:pick l (i::ix)=l[i]::pick l ix:=by
    unfold pick;rw [List.filterMap_cons,List.getElem?_eq_getElem h1]
   obtain ⟨v,hv,hd⟩:=Ji h (List.getElem?_eq_getElem (show i<es.length by omega))
   rw [List.getElem?_eq_getElem h1] at hv
   cases hv
   rw [e1,e2]
   exact yH.2 ⟨_,_,hd,qsY h λ j hj=>hi j (List.mem_cons_of_mem _ hj),rfl⟩
theorem qHc (n:Nat):∀ v∈(Builtin.zeroCells (Value.cells (.agg #[.int .i64 0,.string ⟨#[]⟩,.int .i64 0,.slice none 0 0])) n).toList,v.oneCell'=true:=by
 intro v hv
 unfold Builtin.zeroCells at hv
 rw [Array.mem_toList_iff] at hv
 obtain ⟨i,_,rfl⟩:=Array.mem_map.1 hv
 have hs:(Value.cells (.agg #[.int .i64 0,.string ⟨#[]⟩,.int .i64 0,.slice none 0 0])).size=4:=rfl
 rw [hs]
 have h4:i % 4<4:=Nat.mod_lt _ (by decide)
 generalize i % 4=r at h4
 match r,h4 with
 | 0,_=>rfl
 | 1,_=>rfl
 | 2,_=>rfl
 | 3,_=>rfl
set_option maxHeartbeats 1000000 in
theorem qz4 {g:FuncId} {F:T→T→Option Bool} (hF:Fn2 Go.Proofs.Tryz.prog g .term (λ b:Bool => .bool b) F) {fn:List T→Option (Unit × List T × Unit)} (hfn:∀ l r,fn l=some r→∃ l',qxH F l=some l'∧r=((),l',())) :
  qY Go.Proofs.Tryz.prog 155 (sgP ⟨[.row .term,.clo g 0],[.one (.row .term)],λ x=>fn x.1⟩):=by
 have c0 := λ p cap fv w=>qEU (P:=Go.Proofs.Tryz.prog) Go.Proofs.Tryz.func155 (by kernel_rfl) Go.Proofs.Tryz.underlying0 Go.Proofs.Tryz.isAgg0 Go.Proofs.Tryz.sizeOf0 Go.Proofs.Tryz.zeroValue0 Go.Proofs.Tryz.underlying3 Go.Proofs.Tryz.isAgg3 Go.Proofs.Tryz.sizeOf3 Go.Proofs.Tryz.zeroValue3 Go.Proofs.Tryz.underlying4 Go.Proofs.Tryz.isAgg4 Go.Proofs.Tryz.sizeOf4 Go.Proofs.Tryz.zeroValue4 Go.Proofs.Tryz.underlying22 Go.Proofs.Tryz.isAgg22 Go.Proofs.Tryz.sizeOf22 Go.Proofs.Tryz.zeroValue22 Go.Proofs.Tryz.underlying36 Go.Proofs.Tryz.isAgg36 Go.Proofs.Tryz.sizeOf36 Go.Proofs.Tryz.zeroValue36 p cap fv w
 have cP := λ w blk n cap et vs h1 h2 h3 h4 h5 enc h6 h7 h8 ef h9=>qFh (P:=Go.Proofs.Tryz.prog) Go.Proofs.Tryz.func155 (by kernel_rfl) Go.Proofs.Tryz.underlying0 Go.Proofs.Tryz.isAgg0 Go.Proofs.Tryz.sizeOf0 Go.Proofs.Tryz.zeroValue0 Go.Proofs.Tryz.underlying3 Go.Proofs.Tryz.isAgg3 Go.Proofs.Tryz.sizeOf3 Go.Proofs.Tryz.zeroValue3 Go.Proofs.Tryz.underlying4 Go.Proofs.Tryz.isAgg4 Go.Proofs.Tryz.sizeOf4 Go.Proofs.Tryz.zeroValue4 Go.Proofs.Tryz.underlying22 Go.Proofs.Tryz.isAgg22 Go.Proofs.Tryz.sizeOf22 Go.Proofs.Tryz.zeroValue22 Go.Proofs.Tryz.underlying36 Go.Proofs.Tryz.isAgg36 Go.Proofs.Tryz.sizeOf36 Go.Proofs.Tryz.zeroValue36
  4 (by decide) Go.Proofs.Tryz.isAgg24 Go.Proofs.Tryz.sizeOf24 _ Go.Proofs.Tryz.zeroValue24 rfl qHc w blk n cap et vs g h1 h2 h3 h4 h5 enc h6 h7 h8 (λ args w=>qeg hF.1 args w) ef h9
 have hag:∀ v:T,yN .term v = .agg (qm .term v) := λ _=>rfl
 refine ⟨QV Go.Proofs.Tryz.func155 (by kernel_rfl),λ Γ σ w args vals r hi hr hp=>?_⟩
 unfold sgP at hp
 split at hp<;>try cases hp
 rename_i x hx
 split at hp<;>cases hp
 rename_i v0 hv0
 obtain ⟨l,_⟩:=x
 obtain ⟨l',hl',rfl⟩:=hfn _ _ hv0
 obtain ⟨y0,ys0,nr,rfl,hy0,hx1⟩:=qoU hx
 obtain ⟨ys1,rfl,hx2⟩:=qCf (g:=g) (r:=[]) hx1
 obtain ⟨rfl,hbx,hrw⟩:=qjy hx2
 clear hx hx1 hx2 hv0 hfn
 obtain ⟨u0,r0,rfl,hu0,hr⟩:=hr.uncons
 obtain ⟨u1,r1,rfl,hu1,hr⟩:=hr.uncons
 have:=hr.nil_inv
 subst this
 have hu1:u1 = .func (.func g) #[] #[]:=by
  cases hu1 with
  | fn _ _ us hn _=>obtain rfl:=List.eq_nil_of_length_eq_zero hn;rfl
 subst hu1
 have hb0 : σ.bx=[]:=List.eq_nil_of_length_eq_zero hbx.symm
 have nil0:∀ (p:Option Addr),l'=[]→jJ Go.Proofs.Tryz.prog Γ σ w 155 [.slice p 0 0,.func (.func g) #[] #[]] (zF (QS [.one (.row .term)] σ.rw.length (l',())),some ⟨[],σ.rw.map Qe++QJ [.one (.row .term)] (l',()),List.range σ.bx.length,List.range σ.rw.length⟩) := λ p hl=>by
  subst hl
  refine (c0 p 0 _ w).mono ?_
  rintro e w' ⟨rfl,rfl⟩
  obtain ⟨Γ2,z1,z2,z3,z4⟩:=qIv (a := .term) hi (.refl _ _) hi hb0 p
  exact ⟨_,Γ2,rfl,z1,z2,z3,z4⟩
 rcases qdR hy0 with ⟨hnr,R,rfl,hR,hRk,hRf,hRd⟩ | ⟨hnr,hl0,hy⟩
 ·have H:=hi.row 0 R hR
  have hcl:R.c.length=l.length:=qQ hRd
  have hlk:∀ e∈R.c,e.length=Ty.size .term := λ e he=>(H.len e he).trans hRk
  obtain ⟨p,cap,rfl,hcap,hrm⟩:=qpu hi hR hRk hRf hu0
  rcases hrm with h0 | ⟨rfl,hz,vs,et,hvs,hvsz,hfit,hca,hxl,h1⟩
  ·have hl0:l=[]:=List.eq_nil_of_length_eq_zero (by omega)
   have hl2:l'=[]:=by rw [hl0] at hl';cases hl';rfl
   have hrc:R.c.length=0:=by omega
   rw [hrc,h0]
   exact nil0 p hl2
  ·by_cases hl0:l=[]
   ·have hl2:l'=[]:=by rw [hl0] at hl';cases hl';rfl
    have hrc:R.c.length=0:=by rw [hcl,hl0];rfl
    rw [hrc]
    subst hl2
    refine qiN (a := .term) hi hb0 hR hRk hRf.1 hRf.2 hz (l:=[]) (c:=[]) (xs:=[]) (n:=0) rfl rfl (by intro e he;cases he) (by intro e he;cases he) (λ i e j x h=>by cases h) ?_
    refine (c0 _ cap _ w).mono ?_
    rintro e w' ⟨rfl,rfl⟩
    exact ⟨Γ.cur 0,cap,vs,et,rfl,hvs,Nat.zero_le _,hfit,by rw [Nat.zero_mul];rfl,.inl ⟨rfl,hvsz⟩,rfl,rfl,rfl,Nat.le_refl _,Nat.le_refl _,λ _ _ _=>rfl⟩
   ·have hlpos:0<l.length:=List.length_pos_iff.2 hl0
    obtain ⟨n,hn⟩:∃ n,n=l.length:=⟨_,rfl⟩
    have hnc:R.c.length=n:=hcl.trans hn.symm
    rw [hnc] at hca hxl h1 hcap ⊢
    have hns:n*Ty.size .term≤vs.size:=Nat.le_trans (Nat.mul_le_mul_right _ hcap) hfit
    have hv':Nat.ble l.length 100000=true∧qbP F l=true∧l'=pick l (zt (qjC F l) l.length):=by
     cases l with
     | nil=>exact absurd rfl hl0
     | cons y l =>
       replace hl':cond _ _ _=some l':=hl'
       cases hb:(Nat.ble (y::l).length 100000&&qbP F (y::l)) with
       | false =>
         replace hl':cond (Nat.ble (y::l).length 100000&&qbP F (y::l)) _ _=some l':=hl'
         rw [hb] at hl';cases hl'
       | true =>
         replace hl':cond (Nat.ble (y::l).length 100000&&qbP F (y::l)) _ _=some l':=hl'
         have hb':=hb
         rw [Bool.and_eq_true] at hb'
         rw [hb] at hl'
         cases hl'
         exact ⟨hb'.1,hb'.2,rfl⟩
    obtain ⟨v1,v2,v4⟩:=hv'
    have v1:l.length≤100000:=Nat.le_of_ble_eq_true v1
    have hER:∀ {q:Nat} {y:T},l[q]? = some y→RepL Γ (qm .term y) (Ql vs (Ty.size .term) q)∧∀ u∈Ql vs (Ty.size .term) q,u.oneCell'=true := λ hq=>qrm hnc hlk hRd hca hns hq
    have hlast:∀ i,i % n<n := λ i=>Nat.mod_lt _ (by omega)
    obtain ⟨enc,henc⟩:∃ enc:Nat→List Value,enc = λ i=>Ql vs (Ty.size .term) (i % n):=⟨_,rfl⟩
    have hek:∀ i,(enc i).length=Ty.size .term := λ i=>by rw [henc];exact qmf (hlast i) hns
    have hlget:∀ i,∃ y,l[i % n]? = some y := λ i=>⟨_,List.getElem?_eq_getElem (by rw [← hn];exact hlast i)⟩
    have he1:∀ i,∀ u∈enc i,u.oneCell'=true := λ i u hu=>by
     rw [henc] at hu
     obtain ⟨y,hy⟩:=hlget i
     exact (hER hy).2 u hu
    have hrange:(Array.range n).size=n:=Array.size_range
    have hvsb:w.heap[Γ.cur 0]? = some (.cells vs et (0,0)):=hvs
    have hmem0:∀ off,Γ.mem (Γ.cur 0) off=none := λ off=>H.un hz off (by rw [hRf.1,Nat.zero_mul,H.off hRf.2];exact Nat.zero_le _)
    have hH:HoldsK enc (Ty.size .term) w (Γ.cur 0) 0 (Array.range n):=by
     intro j hj
     rw [size_flatK,hrange] at hj
     obtain ⟨q1,q2,q3⟩:=qi5 j (Ty.size .term) n hj
     have hjs:j<vs.size:=Nat.lt_of_lt_of_le hj hns
     constructor
     ·rw [get_flatK _ _ _ _ (by rw [hrange];exact hj)]
      have e1:(Array.range n)[j / (Ty.size .term)]! = j / (Ty.size .term):=by rw [getElem!_pos _ _ (by rw [hrange];exact q1)];simp
      rw [e1,henc]
      show _=some ((Ql vs (Ty.size .term) (j / (Ty.size .term) % n))[j % (Ty.size .term)]!)
      rw [Nat.mod_eq_of_lt q1]
      have e2:(Ql vs (Ty.size .term) (j / (Ty.size .term)))[j % (Ty.size .term)]? = some vs[j]:=by rw [qj0 q3,q2];exact Array.getElem?_eq_getElem hjs
      rw [Nat.zero_add,Blk.cell hvs,List.getElem!_eq_getElem?_getD,e2,Array.getElem?_eq_getElem hjs]
      rfl
     ·exact Blk.free hvs _
    have heq:∀ (m:Nat) (os:Array Obj) (dk:Array Nat),dk.size=n→∀ x y,Calls Go.Proofs.Tryz.prog g #[.agg (enc x).toArray,.agg (enc y).toArray] (sortWorldK enc (Ty.size .term) w (Γ.cur 0) 0 m dk os) λ e w'=>e = .returned (.bool (qjC F l x y))∧∃ q' os',w'=grow ((sortWorldK enc (Ty.size .term) w (Γ.cur 0) 0 m dk os).drewN q') os':=by
     intro m os dk hdk x y
     have B:=sort_blks hvsb enc (Ty.size .term) m dk os
     obtain ⟨W,hW⟩:∃ W,W=sortWorldK enc (Ty.size .term) w (Γ.cur 0) 0 m dk os:=⟨_,rfl⟩
     rw [← hW] at B ⊢
     have hiW:Inv (bare Γ) emp W:=hi.bare λ b o u e=>by
      have hne:b ≠ Γ.cur 0 := λ hb=>by rw [hb,hmem0] at e;cases e
      have hc:=(hi.mem b o u e).1
      have hblt:=hi.mem_lt e
      rw [show W.cell? _=w.cell? _ from World.cell?_of_block (B.other b hblt hne)]
      exact hc
     have rep:∀ (i:Nat) (y:T),l[i % n]? = some y→Rep (bare Γ) (yN .term y) (.agg (enc i).toArray) := λ i y hy=>by
      obtain ⟨q1,q2⟩:=hER hy
      rw [hag]
      have:enc i=Ql vs (Ty.size .term) (i % n):=by rw [henc]
      rw [this]
      refine .agg _ _ q1.len q2 λ j z u a b=>(q1.rep j z u a b).bare (zY .term y z (List.mem_of_getElem? a))
     obtain ⟨lx,hx⟩:=hlget x
     obtain ⟨ly,hy⟩:=hlget y
     have hsome:=List.all_eq_true.1 (List.all_eq_true.1 v2 lx (List.mem_of_getElem? hx)) ly (List.mem_of_getElem? hy)
     obtain ⟨c,hc⟩:=Option.isSome_iff_exists.1 hsome
     have hcf:qjC F l x y=c:=by
      unfold qjC
      rw [← hn,hx,hy]
      simp only
      rw [hc];rfl
     rw [hcf]
     have hcall:=hF.2 hiW (rep x lx hx) (rep y ly hy) hc
     refine Calls.mono hcall ?_
     rintro e w' ⟨rfl,hid⟩
     exact ⟨rfl,hid.grow⟩
    have hcall:=cP w (Γ.cur 0) n cap et vs hvsb hfit hcap (by omega) (by omega) enc hek he1 hH (qjC F l) heq
    obtain ⟨ix,hix⟩:∃ ix,ix=zt (qjC F l) n:=⟨_,rfl⟩
    rw [← hix] at hcall
    have hixlt:∀ i∈ix,i<n := λ i hi=>by rw [hix] at hi;exact qv3 i hi
    have hixl:∀ i∈ix,i<l.length := λ i hi=>by rw [← hn];exact hixlt i hi
    have hixc:∀ i∈ix,i<R.c.length := λ i hi=>by rw [hnc];exact hixlt i hi
    have hl'e:l'=pick l ix:=by rw [v4,← hn,hix]
    have hl'n:l'.length=ix.length:=by rw [hl'e,qmQ hixl]
    have pm:∀ e∈pick R.c ix,e∈R.c := λ e he=>by
     unfold pick at he
     obtain ⟨i,_,h⟩:=List.mem_filterMap.1 he
     exact List.mem_of_getElem? h
    refine qiN (a := .term) hi hb0 hR hRk hRf.1 hRf.2 hz (l:=l') (c:=pick R.c ix) (xs:=ix.flatMap enc) (n:=ix.length) hl'n.symm (by rw [hl'e];exact qsY hRd hixl) (λ e he=>hlk e (pm e he)) (λ e he=>H.plain e (pm e he)) (λ i e j x h1 h2=>?_) ?_
    ·rw [qrC hixc] at h1
     cases hp:ix[i]? with
     | none=>rw [hp] at h1;cases h1
     | some p =>
       rw [hp] at h1
       have h1:R.c[p]? = some e:=h1
       have hj:j<Ty.size .term:=by have:=getElem?_lt h2;rwa [hlk e (List.mem_of_getElem? h1)] at this
       obtain ⟨u,u1,u2⟩:=hca p e j x h1 h2
       refine ⟨u,?_,u2⟩
       have hpn:p<n:=hixlt p (List.mem_of_getElem? hp)
       rw [qn4 hek _ _ _ hj,hp]
       show (enc p)[j]? = some u
       rw [henc]
       show (Ql vs (Ty.size .term) (p % n))[j]? = some u
       rw [Nat.mod_eq_of_lt hpn,qj0 hj,← Array.getElem?_toList]
       rw [List.getElem?_take] at u1
       split at u1
       ·exact u1
       ·cases u1
    ·refine Calls.mono hcall ?_
     rintro e w' ⟨rfl,dk,m,os,new,hdk,htk,hw⟩
     have B:=sort_blks hvsb enc (Ty.size .term) m dk os
     have hpsz:(putCells id 0 (flatK enc (Ty.size .term) dk) vs).size=vs.size:=by unfold putCells;rw [Array.size_mapIdx]
     have hixn:ix.length≤n:=by
      have:=congrArg List.length htk
      rw [List.length_take] at this
      have h2:dk.toList.length=n:=by rw [Array.length_toList,hdk]
      omega
     have hlen:ix.length*Ty.size .term≤n*Ty.size .term:=Nat.mul_le_mul_right _ hixn
     have hxs:(putCells id 0 (flatK enc (Ty.size .term) dk) vs).toList.take (ix.length*Ty.size .term)=ix.flatMap enc:=by
      apply List.ext_getElem?
      intro t
      by_cases ht:t<ix.length*Ty.size .term
      ·obtain ⟨q1,q2,q3⟩:=qi5 t (Ty.size .term) ix.length ht
       rw [List.getElem?_take,if_pos ht,Array.getElem?_toList]
       unfold putCells
       rw [Array.getElem?_mapIdx,Array.getElem?_eq_getElem (by omega),Option.map_some,if_pos ⟨Nat.zero_le _,by rw [size_flatK,hdk];omega⟩,Nat.sub_zero,id,get_flatK _ _ _ _ (by rw [hdk];omega)]
       conv=>rhs;rw [← q2]
       rw [qn4 hek _ _ _ q3]
       have hd:dk[t / Ty.size .term]? = ix[t / Ty.size .term]? := by
        rw [← htk,List.getElem?_take,if_pos q1,Array.getElem?_toList]
       have hdl:t / Ty.size .term<dk.size:=by rw [hdk];omega
       rw [← hd,Array.getElem?_eq_getElem hdl,getElem!_pos dk _ hdl]
       show _=(enc dk[t / Ty.size .term])[t % Ty.size .term]?
       rw [List.getElem!_eq_getElem?_getD,List.getElem?_eq_getElem (by rw [hek];exact q3)]
       rfl
      ·rw [List.getElem?_eq_none (by rw [List.length_take];omega),List.getElem?_eq_none (by rw [qvO hek];omega)]
     rcases hw with rfl | ⟨n1,n2,rfl⟩
     ·exact ⟨Γ.cur 0,cap,_,et,rfl,B.hb,by omega,by rw [hpsz];exact hfit,hxs,.inl ⟨rfl,hpsz.trans hvsz⟩,B.os,B.tape,B.output,B.size,B.drawn,B.other⟩
     ·have hs:=setRow_heap _ (Γ.cur 0) _ new.toArray et (0,0) B.hb
      refine ⟨Γ.cur 0,cap,new.toArray,et,rfl,hs,by omega,by rw [List.size_toArray,n2];exact hfit,?_,.inl ⟨rfl,by rw [List.size_toArray,n2];exact hvsz⟩,B.os,B.tape,B.output,?_,B.drawn,λ b hb hne=>(setRow_other _ (Γ.cur 0) b _ hne).trans (B.other b hb hne)⟩
      ·rw [← hxs];exact n1
      ·show w.heap.size≤_
       simp only [World.setRow,Array.size_modify]
       exact B.size
 ·have hl2:l'=[]:=by
    have hl0:l=[]:=hl0
    rw [hl0] at hl';cases hl';rfl
  rcases hy with rfl | ⟨f,rfl,hf2⟩
  ·have hu0:=zw hu0
   subst hu0
   exact nil0 none hl2
  ·cases hu0 with
   | sl _ _ _ a n cap b o us hn _ hf _ _ _ _ _ _ =>
     have hn:n=0:=hn
     have hcap:cap=n:=hf (by omega)
     rw [hcap,hn]
     exact nil0 a hl2
end Go.AmYtbpnmbmdbblehaaGreat
namespace Go.Proofs.YtbpnmbmdbblehaaGreat
open Go.RowKit Go.GxYtbpnmbmdbblehaaGreat Go.BigFrame
theorem qIJ:(Tryz.prog.info? 77).map (λ i=>(i.zero,i.size,i.bytes))=some (some (.agg #[.int .i64 0,.int .i64 0,.string ⟨#[]⟩,.int .i64 0,.slice none 0 0]),5,64):=by kernel_rfl
theorem qIU (w:World):(zeroValue 77).run Tryz.prog w = .ok (.agg #[.int .i64 0,.int .i64 0,.string ⟨#[]⟩,.int .i64 0,.slice none 0 0]) w:=by kernel_rfl
theorem qxX:(Builtin.zeroCells (Value.cells (.agg #[.int .i64 0,.int .i64 0,.string ⟨#[]⟩,.int .i64 0,.slice none 0 0])) 1).toList=(Value.cells (.agg #[.int .i64 0,.int .i64 0,.string ⟨#[]⟩,.int .i64 0,.slice none 0 0])).toList:=by kernel_rfl
theorem qA2:∀ v∈(Builtin.zeroCells (Value.cells (.agg #[.int .i64 0,.int .i64 0,.string ⟨#[]⟩,.int .i64 0,.slice none 0 0])) 1).toList,v.oneCell'=true:=by
 rw [qxX]
 decide
set_option maxHeartbeats 4000000 in
set_option maxRecDepth 100000 in
theorem delete_oneSlt (w:World) (g m c i:Nat) (et:TypeId) (cur:Array Value) (xs:List Value) (hbk:Blk w g et cur) (hcs:c*5≤cur.size) (hx:cur.toList.take ((m+1)*5)=xs) (hone:∀ u∈xs,u.oneCell'=true)
  (hn:m≤100000) (hi:i≤m) (hroom:m+1≤c) :
  Calls Tryz.prog 55 #[.slice (some ⟨g,0,none⟩) (m+1) c,.int .i64 i,.int .i64 ((i:Int)+1)] w (qi1 5 w g cur.size m (xs.take (i*5)++xs.drop ((i+1)*5))):=by
 have hlc:cur.toList.length=cur.size:=by simp
 have hmc:(m+1)*5≤c*5:=Nat.mul_le_mul_right _ hroom
 have him:i*5≤m*5:=Nat.mul_le_mul_right _ hi
 have hxl:xs.length=(m+1)*5:=by rw [← hx,List.length_take,hlc];omega
 have hadd:∀ (b o j:Nat),(⟨b,o,none⟩:Addr).add j=⟨b,o+j,none⟩ := λ b o j=>by unfold Addr.add;split<;>simp_all
 have hcell:∀ (o j:Nat) (v:Value),(xs.drop o)[j]? = some v→w.drew.cell? ⟨g,o+j,none⟩=some v := λ o j v hj=>by
  show w.cell? _=_
  rw [hbk.cell,← Array.getElem?_toList]
  rw [List.getElem?_drop,← hx,List.getElem?_take] at hj
  split at hj
  ·exact hj
  ·cases hj
 obtain ⟨i0,hi0,hz0,hz1,hz2⟩:=info_parts qIJ
 have hdl:(xs.drop ((i+1)*5)).length=(m-i)*5:=by rw [List.length_drop,hxl,← Nat.sub_mul];congr 1;omega
 have hdl':(m-i)*5=m*5-i*5:=Nat.sub_mul ..
 obtain ⟨A,hA,HN⟩:∃ A:Addr,(if c=i+1 then some (⟨g,0,none⟩:Addr) else some ⟨g,(i+1)*5,none⟩)=some A∧Hid (∀ j u,(xs.drop ((i+1)*5))[j]? = some u→w.drew.cell? (A.add j)=some u):=by
  by_cases h:c=i+1
  ·refine ⟨_,if_pos h,λ j u hj=>?_⟩
   have:=(List.getElem?_eq_some_iff.1 hj).1
   rw [hdl] at this
   have:m-i=0:=by omega
   simp [this] at *
  ·exact ⟨_,if_neg h,λ j u hj=>by rw [hadd];exact hcell _ j u hj⟩
 have HDL:=Lib.hid hdl
 have HO1:Hid (∀ u∈xs.drop ((i+1)*5),u.oneCell'=true) := λ v hv=>hone v (List.mem_of_mem_drop hv)
 have HSP:Hid (∀ j,j<(xs.drop ((i+1)*5)).length→(w.drew.cell? ⟨g,0+i*5+j,none⟩).isSome=true∧w.drew.frozen? ⟨g,0+i*5+j,none⟩=false) := λ j hj=>by
  rw [hdl] at hj
  refine ⟨?_,hbk.free _⟩
  show (w.cell? _).isSome=true
  rw [hbk.cell,Array.getElem?_eq_getElem (by omega)];rfl
 have hBKd:Blk w.drew g et cur:=hbk
 have hw0:=qg7 g et (xs.drop ((i+1)*5)) (0+i*5) w.drew cur hBKd (by rw [hdl];omega)
 obtain ⟨w2,hw2⟩:∃ w2,w2=w.drew.setCells g (0+i*5) (xs.drop ((i+1)*5)):=⟨_,rfl⟩
 rw [← hw2] at hw0
 obtain ⟨c1,hc1⟩:∃ c1,c1=cur.toList.take (0+i*5)++xs.drop ((i+1)*5)++cur.toList.drop (0+i*5+(xs.drop ((i+1)*5)).length):=⟨_,rfl⟩
 rw [← hc1] at hw0
 have hl1:c1.length=cur.size:=by rw [hc1];simp only [List.length_append,List.length_take,List.length_drop,hlc,hdl];simp only [List.length_drop] at hdl;omega
 have ht1:c1.take (m*5)=xs.take (i*5)++xs.drop ((i+1)*5):=by
  have e1:cur.toList.take (0+i*5)=xs.take (i*5):=by rw [← hx,List.take_take];congr 1;omega
  rw [hc1,e1,List.take_append_of_le_length (by simp only [List.length_append,List.length_take,hdl,hxl];omega),List.take_of_length_le (by simp only [List.length_append,List.length_take,hdl,hxl];omega)]
 have hzl:(Builtin.zeroCells (Value.cells (.agg #[.int .i64 0,.int .i64 0,.string ⟨#[]⟩,.int .i64 0,.slice none 0 0])) 1).toList.length=5:=by rw [Array.length_toList,size_zeroCells];rfl
 obtain ⟨w3,hcl,hw3⟩:∃ w3,(∀ ty,(Builtin.clear_ #[27] ty #[.slice (some ⟨g,m*5,none⟩) 1 (c-m)]).run Tryz.prog w2 = .ok (.tuple #[]) w3)∧qi2 w2 w3 g et (c1.toArray.toList.take (m*5)++(Builtin.zeroCells (Value.cells (.agg #[.int .i64 0,.int .i64 0,.string ⟨#[]⟩,.int .i64 0,.slice none 0 0])) 1).toList++c1.toArray.toList.drop (m*5+(Builtin.zeroCells (Value.cells (.agg #[.int .i64 0,.int .i64 0,.string ⟨#[]⟩,.int .i64 0,.slice none 0 0])) 1).toList.length)) :=
  ⟨_,λ ty=>ql8 w2 27 77 ty _ Tryz.underlying27 qIU g (m*5) 1 (c-m) (by omega) c1.toArray et hw0.blk (by
   show m*5+1*5≤c1.toArray.size
   rw [List.size_toArray,hl1];omega) qA2,qdC hw0.blk _⟩
 have HW0:=Lib.hid hw0
 have HW2:=Lib.hid hw2
 have HW3:=Lib.hid hw3
 have HCL:=Lib.hid hcl
 have HT1:=Lib.hid ht1
 have HL1:=Lib.hid hl1
 have HZL:=Lib.hid hzl
 have HI:=Lib.hid hi0
 have HZ1:=Lib.hid hz1
 have HCS:=Lib.hid hcs
 have HMC:=Lib.hid hmc
 have hlt:=lt_of_block hbk
 have hc1:¬ (m+1=i):=by omega
 have hc2:¬ (c=m):=by omega
 have hf1:((i:Int)==(i:Int)+1)=false:=by simp;omega
 have hrm:i+(m-i)≤c:=by omega
 have hmi:i+(m-i)=m:=by omega
 have HRM:=Lib.hid hrm
 have HMI:=Lib.hid hmi
 clear hlc hxl hadd hcell hi0 hz0 hz1 hz2 hdl hBKd hw0 hw2 hl1 ht1 hzl hcl hw3 hcs hx hone hbk hrm hmi hmc him hdl'
 have hw1:((i:Int)+1).toNat=i+1:=by omega
 have hw4:(i:Int)+1≤(m:Int)+1:=by omega
 have hw5:(i:Int)≤(m:Int)+1:=by omega
 have hw6:(0:Int)≤(i:Int)+1:=by omega
 have hic:i≤c:=by omega
 go_enter Tryz.func55,Tryz.ntmps55
 go_upto_region 5 with (fail)
 go_region_law (refine step_append_room rfl (.tmp 22) (.tmp 25) 27 rfl 77 i0 5 Tryz.underlying27 HI.out HZ1.out g 0 i c (by simp [Act.eval,Act.put]) A (m-i) (c-(i+1)) (xs.drop ((i+1)*5)) (by simp [Act.eval,Act.put]) HDL.out HN.out HO1.out HRM.out HSP.out ?_;rw [← HW2.out,HMI.out])
 all_goals
  clear hw1 hw4 hw5 hw6 hA
  have hcl:=HCL.out
  go_wp2_with (simp only [hcl])
  go_ret
  have h3:=HW3.out
  have h0:=HW0.out
  have hblk:=h3.blk
  have hl1:=HL1.out
  have hzl:=HZL.out
  have hmc:=HMC.out
  have hcs:=HCS.out
  have hsz:(c1.toArray.toList.take (m*5)++(Builtin.zeroCells (Value.cells (.agg #[.int .i64 0,.int .i64 0,.string ⟨#[]⟩,.int .i64 0,.slice none 0 0])) 1).toList++c1.toArray.toList.drop (m*5+(Builtin.zeroCells (Value.cells (.agg #[.int .i64 0,.int .i64 0,.string ⟨#[]⟩,.int .i64 0,.slice none 0 0])) 1).toList.length)).length=cur.size:=by
   show (c1.take (m*5)++_++c1.drop (m*5+_)).length=_
   simp only [List.length_append,List.length_take,List.length_drop,hl1,hzl];omega
  refine ⟨g,c,_,et,rfl,hblk,by omega,?_,?_,.inl ⟨rfl,?_⟩,h3.os.trans h0.os,h3.tape.trans h0.tape,h3.output.trans h0.output,?_,?_,λ k _ hk=>(h3.other k hk).trans (h0.other k hk)⟩
  ·rw [List.size_toArray,hsz];exact hcs
  ·show (c1.take (m*5)++_++c1.drop (m*5+_)).take (m*5)=_
   rw [List.append_assoc,List.take_append_of_le_length (by rw [List.length_take,hl1];omega),List.take_take,Nat.min_self]
   exact HT1.out
  ·rw [List.size_toArray,hsz]
  ·rw [h3.size,h0.size];exact Nat.le_refl _
  ·rw [h3.drawn,h0.drawn];exact Nat.le_succ _
end Go.Proofs.YtbpnmbmdbblehaaGreat
namespace Go.Proofs.YtbpnmbmdbblehaaGreat
open Go Go.RowKit Go.GxYtbpnmbmdbblehaaGreat Go.Sort Go.Proofs Go.Shelf Go.Lib Go.AmYtbpnmbmdbblehaaGreat
def qdI (ef:Nat→Bool):Nat→Nat→Int
 | 0,_=>-1
 | n+1,i=>cond (ef i) i (qdI ef n (i+1))
theorem qvC (w:World):qeF w w:=⟨rfl,rfl,rfl,Nat.le_refl _,λ _ _=>rfl,Nat.le_refl _⟩
theorem qts {a b c:World} (h:qeF a b) (g:qeF b c):qeF a c :=
 ⟨g.os.trans h.os,g.tape.trans h.tape,g.output.trans h.output,Nat.le_trans h.size g.size,λ i hi=>(g.block i (Nat.lt_of_lt_of_le hi h.size)).trans (h.block i hi),Nat.le_trans h.drawn g.drawn⟩
variable {P:Program}
set_option maxHeartbeats 4000000 in
set_option maxRecDepth 1000000 in
theorem qID (hF:P.funcs[52]? = some Tryz.f52) (mixed:P.follows .mixedOrders=true)
  (t0:P.underlying 0=some (TypeDesc.tuple #[])) (a0:∀ w,(isAgg 0).run P w = .ok false w) (z0:∀ w,(Go.sizeOf 0).run P w = .ok 1 w) (v0:∀ w,(zeroValue 0).run P w = .ok (Value.tuple #[]) w)
  (t3:P.underlying 3=some (TypeDesc.int IntKind.i64)) (a3:∀ w,(isAgg 3).run P w = .ok false w) (z3:∀ w,(Go.sizeOf 3).run P w = .ok 1 w) (v3:∀ w,(zeroValue 3).run P w = .ok (Value.int IntKind.i64 0) w)
  (t4:P.underlying 4=some (TypeDesc.bool)) (a4:∀ w,(isAgg 4).run P w = .ok false w) (z4:∀ w,(Go.sizeOf 4).run P w = .ok 1 w) (v4:∀ w,(zeroValue 4).run P w = .ok (Value.bool false) w)
  (t22:P.underlying 27=some (TypeDesc.slice 77)) (a22:∀ w,(isAgg 27).run P w = .ok false w) (z22:∀ w,(Go.sizeOf 27).run P w = .ok 1 w) (v22:∀ w,(zeroValue 27).run P w = .ok (Value.slice none 0 0) w)
  (t36:P.underlying 81=some (TypeDesc.func #[77] #[4] false)) (a36:∀ w,(isAgg 81).run P w = .ok false w) (z36:∀ w,(Go.sizeOf 81).run P w = .ok 1 w) (v36:∀ w,(zeroValue 81).run P w = .ok (Value.nilFunc) w)
  (k:Nat) (aE:∀ w,(isAgg 77).run P w = .ok true w) (zE:∀ w,(Go.sizeOf 77).run P w = .ok k w)
  (w:World) (blk n cap:Nat) (q:Nat) (bp:Value) (hn:n≤100000) (hblk:blk<w.heap.size)
  (enc:Nat→List Value) (hk:∀ x,(enc x).length=k) (hH:HoldsK enc k w blk 0 (Array.range n))
  (eg:∀ args w,(callFunc q args).run P w = .ok (.enter q args) w) (ef:Nat→Bool)
  (heq:∀ W,qeF w W→∀ i,i<n→Calls P q #[.agg (enc i).toArray,bp] W λ e w'=>e = .returned (.bool (ef i))∧qeF W w') :
  Calls P 52 #[.slice (some ⟨blk,0,none⟩) n cap,.func (.func q) #[] #[bp]] w λ e w'=>e = .returned (.int .i64 (qdI ef n 0))∧qeF w w':=by
 have u22:=run_underlying t22
 have hrs:(Array.range n).size=n:=Array.size_range
 have HC:Aside _:=heq
 have HH:Hid (HoldsK enc k w blk 0 (Array.range n)):=hH
 have HK:Hid (∀ x,(enc x).length=k):=hk
 clear heq hH hk
 have hnz:(n:Int)≤100000:=by omega
 generalize hr0:qdI ef n 0=r
 have HR:=Lib.hid hr0
 clear hr0
 go_enter hF,Tryz.ntmps52
 go_wp2
 go_loopg [8] n (λ g1 vi wr=>∃ (i:Nat),vi = .int .i64 i∧i≤n∧n-i≤g1∧Hid (qeF w wr)∧Hid (qdI ef (n-i) i=r))
 case atStart=>exact ⟨0,rfl,Nat.zero_le _,by omega,qvC w,by show _=_;rw [Nat.sub_zero];exact HR.out⟩
 case round =>
  obtain ⟨i,rfl,hin,hg1,HI,HE⟩:=hrel
  by_cases hlt:i<n
  ·have hltz:(i:Int)<(n:Int):=by omega
   have r1:(Array.range n)[i]! = i:=by rw [getElem!_pos _ _ (by rw [hrs];exact hlt)];simp
   have hHw:HoldsK enc k wr blk 0 (Array.range n):=by
    intro j hj
    obtain ⟨h1,h2⟩:=HH.out j hj
    have hb:=HI.out.block blk hblk
    exact ⟨by rw [show wr.cell? _=w.cell? _ from World.cell?_of_block hb];exact h1,by
     rw [← h2];unfold World.frozen?;rw [hb]⟩
   have lj:Sem.run P (loadCellsFrom ⟨blk,i*k,none⟩ 0 k #[]) wr = .ok (enc i).toArray wr:=by
    have:=HoldsK.cells hHw HK.out (i:=i) (by rw [hrs];exact hlt)
    rw [r1,Nat.zero_add] at this
    exact run_loadCellsFrom_list P _ _ _ k (HK.out _) this
   have hcg:=HC.out wr HI.out i hlt
   clear hHw r1
   have hE:=HE.out
   rw [show n-i=(n-(i+1))+1 by omega] at hE
   cases hev:ef i with
   | true =>
     have hE2:r=(i:Int):=by rw [← hE,qdI,hev];rfl
     have HE2:=Lib.hid hE2
     clear hE hE2
     rw [hev] at hcg
     go_wp2_with (go_at_fn q;refine hcg.mono ?_;rintro e w1 ⟨rfl,hid⟩)
     go_ret
     rw [HE2.out]
     exact ⟨rfl,qts HI.out hid⟩
   | false =>
     have hE2:qdI ef (n-(i+1)) (i+1)=r:=by rw [← hE,qdI,hev];rfl
     have HE2:=Lib.hid hE2
     clear hE hE2
     rw [hev] at hcg
     go_wp2_with (go_at_fn q;refine hcg.mono ?_;rintro e w1 ⟨rfl,hid⟩)
     go_roundg (n-(i+1))
     case measure=>omega
     case rel=>exact ⟨i+1,by go_num,by omega,by omega,qts HI.out hid,HE2.out⟩
  ·obtain rfl:i=n:=by omega
   have hE:=HE.out
   rw [Nat.sub_self] at hE
   have HE2:=Lib.hid hE
   clear hE
   go_wp2
   go_ret
   rw [← HE2.out]
   exact ⟨rfl,HI.out⟩
set_option maxHeartbeats 4000000 in
set_option maxRecDepth 1000000 in
theorem qIo (p:Option Addr) (cap:Nat) (fv:Value) (w:World) :
  Calls Tryz.prog 52 #[.slice p 0 cap,fv] w λ e w'=>e = .returned (.int .i64 (-1))∧qeF w w':=by
 go_enter Tryz.func52,Tryz.ntmps52
 go_wp2
 refine wp_loop_rounds 1 ?_
 rw [rounds_succ]
 go_wp2
 go_ret
 exact ⟨rfl,qvC w⟩
set_option maxHeartbeats 4000000 in
set_option maxRecDepth 1000000 in
theorem qKD (w:World) (x n:Int) (c1 c2 c3 c4:Value) (h1:c1.oneCell'=true) (h2:c2.oneCell'=true) (h3:c3.oneCell'=true) (h4:c4.oneCell'=true) (b:Nat) (hN:w.cell? ⟨b,0,none⟩=some (.int .i64 n)) :
  Calls Tryz.prog 53 #[.agg #[.int .i64 x,c1,c2,c3,c4],.pointer (some ⟨b,0,none⟩)] w λ e w'=>e = .returned (.bool (x==n))∧qeF w w':=by
 have hb:b<w.heap.size:=qpF hN
 have hN2:∀ o,(w.alloc o).cell? ⟨b,0,none⟩=some (.int .i64 n) := λ o=>by
  rw [show (w.alloc o).cell? _=w.cell? _ from World.cell?_of_block (Below.heap_alloc _ _ _ hb)];exact hN
 go_enter Tryz.func53,Tryz.ntmps53
 go_wp2
 go_ret
 exact ⟨rfl,rfl,rfl,rfl,by simp,λ b hb=>Below.heap_alloc _ _ _ hb,Nat.le_refl _⟩
end Go.Proofs.YtbpnmbmdbblehaaGreat
namespace Go.AmYtbpnmbmdbblehaaGreat
open Go Go.RowKit Go.GxYtbpnmbmdbblehaaGreat Go.Sort Go.Proofs Go.Shelf Go.Proofs.YtbpnmbmdbblehaaGreat
abbrev zX:Ty := .pair (.int .i64) .term
def qcI (l:List (Val zX)) (n:Int) (i:Nat):Bool:=match l[i]? with
 | some x=>x.1==n
 | none=>false
noncomputable def zg (m:Nat) (l:List (Int × T)) (c:Int × T):Option Int:=cond (Nat.ble l.length 100000) (some (qdI (qcI l c.1) l.length 0)) none
theorem qH2 {σ : St} {g k:Nat} {r:List SA} {nb nr:Nat} {ys:List AV} {a:jE (.clo g k::r)} (h:dS σ (.clo g k::r) nb nr ys=some a):∃ cs ys',ys = .fn g cs::ys'∧cs.length=k∧dS σ r nb nr (cs++ys')=some a:=by
 cases ys with
 | nil=>simp [dS] at h
 | cons y ys =>
   simp only [dS] at h
   split at h
   ·rename_i cs hc
    obtain ⟨rfl,h1⟩:=quV hc
    exact ⟨cs,ys,rfl,h1,h⟩
   ·cases h
theorem qIw {σ : St} {τ : Ty} {r:List SA} {nb nr:Nat} {ys:List AV} {a:jE (.box [.val τ]::r)} (h:dS σ (.box [.val τ]::r) nb nr ys=some a):∃ ds ys',ys = .ptr nb 0::ys' ∧ σ.bx[nb]? = some ds∧ym τ (ds.take τ.size)=some a.1∧dS σ r (nb+1) nr ys'=some a.2:=by
 cases ys with
 | nil=>simp [dS] at h
 | cons y ys =>
   simp only [dS] at h
   cases hb:qlu σ [.val τ] nb nr y with
   | none=>rw [hb] at h;cases h
   | some p =>
     obtain ⟨v,n⟩:=p
     rw [hb] at h
     simp only at h
     unfold qlu at hb
     split at hb<;>try cases hb
     rename_i j
     split at hb<;>try cases hb
     rename_i ds hj hds
     have hj:=Nat.eq_of_beq_eq_true hj
     subst hj
     simp only [qfE] at hb
     split at hb<;>try cases hb
     rename_i x hx
     split at hb<;>cases hb
     rename_i hvs
     have hm:n=nr:=by
      cases hdd:ds.drop τ.size with
      | nil=>rw [hdd] at hvs;simp [qfE] at hvs;exact hvs.symm
      | cons z zs=>rw [hdd] at hvs;simp [qfE] at hvs
     subst hm
     split at h<;>cases h
     rename_i vs' hvs'
     exact ⟨ds,ys,rfl,hds,hx,hvs'⟩
set_option maxHeartbeats 1000000 in
theorem jA {m:Nat}:qY Go.Proofs.Tryz.prog 52 (xgP ⟨[.row zX,.clo 53 1,.box [.val zX]],λ x=>zg m x.1 x.2.1⟩):=by
 refine ⟨QV Go.Proofs.Tryz.func52 (by kernel_rfl),λ Γ σ w args vals r hi hr hp=>?_⟩
 unfold xgP at hp
 split at hp<;>try cases hp
 rename_i x hx
 split at hp<;>cases hp
 rename_i v0 hv0
 obtain ⟨l,c,_⟩:=x
 obtain ⟨y0,ys0,nr,rfl,hy0,hx1⟩:=qoU hx
 obtain ⟨cs,ys1,rfl,hcs,hx2⟩:=qH2 (r:=[.box [.val zX]]) hx1
 match cs,hcs with
 | [yp],_ =>
 obtain ⟨ds,ys2,he2,hds,hdv,hx3⟩:=qIw (τ := zX) (r:=[]) hx2
 obtain ⟨rfl,hbx,hrw⟩:=qjy hx3
 have he2:yp::ys1=[.ptr 0 0]:=he2
 cases he2
 clear hx hx1 hx2 hx3
 obtain ⟨u0,r0,rfl,hu0,hr⟩:=hr.uncons
 obtain ⟨u1,r1,rfl,hu1,hr⟩:=hr.uncons
 have:=hr.nil_inv
 subst this
 have hv0:cond (Nat.ble l.length 100000) (some (qdI (qcI l c.1) l.length 0)) none=some v0:=hv0
 obtain ⟨hll,rfl⟩:=qeB hv0
 have hll:l.length≤100000:=Nat.le_of_ble_eq_true hll
 obtain ⟨bp,rfl⟩:∃ bp,u1 = .func (.func 53) #[] #[.pointer (some ⟨Γ.β 0,0,none⟩)]:=by
  cases hu1 with
  | fn _ _ us hn hrr =>
    match us,hn with
    | [u],_ =>
      have:=hrr 0 _ u rfl rfl
      cases this with
      | ptr b o h=>exact ⟨0,rfl⟩
 have hbl:0 < Γ.nb:=by rw [hi.nb];omega
 have fin:∀ {vs:Array Value} {v:Int},Calls Go.Proofs.Tryz.prog 52 vs w (λ e w'=>e = .returned (.int .i64 v)∧qeF w w')→jJ Go.Proofs.Tryz.prog Γ σ w 52 vs.toList (.v (.int .i64 v),none) := λ {vs v} h=>by
  refine Calls.mono (by simpa using h) ?_
  rintro e w' ⟨rfl,hid⟩
  have hb:Below w.heap.size w w':=⟨hid.os,hid.tape,hid.output,hid.size,hid.block⟩
  exact ⟨_,Γ,rfl,qdS hb hid.drawn,hi.later hb,.v _ rfl,.refl _⟩
 have nil0:∀ (p:Option Addr) (cap:Nat),l=[]→jJ Go.Proofs.Tryz.prog Γ σ w 52 [.slice p 0 cap,.func (.func 53) #[] #[.pointer (some ⟨Γ.β 0,0,none⟩)]] (.v (.int .i64 (qdI (qcI l c.1) l.length 0)),none) := λ p cap h=>by
  subst h
  exact fin (qIo p cap _ w)
 rcases qdR hy0 with ⟨hnr,R,rfl,hR,hRk,hRf,hRd⟩ | ⟨hnr,hl0,hy⟩
 ·have H:=hi.row 0 R hR
  have hcl:R.c.length=l.length:=qQ hRd
  have hlk:∀ e∈R.c,e.length=Ty.size zX := λ e he=>(H.len e he).trans hRk
  obtain ⟨p,cap,rfl,hcap,hrm⟩:=qpu hi hR hRk hRf hu0
  by_cases hl0:l=[]
  ·have hrc:R.c.length=0:=by rw [hcl,hl0];rfl
   rw [hrc]
   exact nil0 p cap hl0
  ·have hlpos:0<l.length:=List.length_pos_iff.2 hl0
   rcases hrm with h0 | ⟨rfl,hz,vs,et,hvs,hvsz,hfit,hca,hxl,h1⟩
   ·omega
   obtain ⟨n,hn⟩:∃ n,n=l.length:=⟨_,rfl⟩
   have hnc:R.c.length=n:=hcl.trans hn.symm
   rw [hnc] at hca hxl h1 hcap ⊢
   have hns:n*Ty.size zX≤vs.size:=Nat.le_trans (Nat.mul_le_mul_right _ hcap) hfit
   have hER:∀ {q:Nat} {y:Val zX},l[q]? = some y→RepL Γ (qm zX y) (Ql vs (Ty.size zX) q)∧∀ u∈Ql vs (Ty.size zX) q,u.oneCell'=true := λ hq=>qrm hnc hlk hRd hca hns hq
   have hlast:∀ i,i % n<n := λ i=>Nat.mod_lt _ (by omega)
   obtain ⟨enc,henc⟩:∃ enc:Nat→List Value,enc = λ i=>Ql vs (Ty.size zX) (i % n):=⟨_,rfl⟩
   have hek:∀ i,(enc i).length=Ty.size zX := λ i=>by rw [henc];exact qmf (hlast i) hns
   have hrange:(Array.range n).size=n:=Array.size_range
   have hvsb:w.heap[Γ.cur 0]? = some (.cells vs et (0,0)):=hvs
   have hH:HoldsK enc (Ty.size zX) w (Γ.cur 0) 0 (Array.range n):=by
    intro j hj
    rw [size_flatK,hrange] at hj
    obtain ⟨q1,q2,q3⟩:=qi5 j (Ty.size zX) n hj
    have hjs:j<vs.size:=Nat.lt_of_lt_of_le hj hns
    constructor
    ·rw [get_flatK _ _ _ _ (by rw [hrange];exact hj)]
     have e1:(Array.range n)[j / (Ty.size zX)]! = j / (Ty.size zX):=by rw [getElem!_pos _ _ (by rw [hrange];exact q1)];simp
     rw [e1,henc]
     show _=some ((Ql vs (Ty.size zX) (j / (Ty.size zX) % n))[j % (Ty.size zX)]!)
     rw [Nat.mod_eq_of_lt q1]
     have e2:(Ql vs (Ty.size zX) (j / (Ty.size zX)))[j % (Ty.size zX)]? = some vs[j]:=by rw [qj0 q3,q2];exact Array.getElem?_eq_getElem hjs
     rw [Nat.zero_add,Blk.cell hvs,List.getElem!_eq_getElem?_getD,e2,Array.getElem?_eq_getElem hjs]
     rfl
    ·exact Blk.free hvs _
   have hN:w.cell? ⟨Γ.β 0,0,none⟩=some (.int .i64 c.1):=by
    obtain ⟨cs,e,hh,hrep,_⟩:=hi.box 0 ds hds
    have hsub:=qjh hdv
    have hr5:RepL Γ (qm zX c) (cs.toList.take (Ty.size zX)):=hsub.rep (hrep.take _)
    obtain ⟨u,r,hu,hu1,_⟩:=(show RepL Γ (.v (.int .i64 c.1)::Jj c.2) _ from hr5).uncons
    have:=zw hu1
    subst this
    have h0:cs.toList[0]? = some (.int .i64 c.1):=by
     have:(cs.toList.take (Ty.size zX))[0]? = some (.int .i64 c.1):=by rw [hu];rfl
     rw [List.getElem?_take] at this
     split at this
     ·exact this
     ·cases this
    unfold World.cell?
    rw [hh]
    show cs[0]? = _
    rw [← Array.getElem?_toList];exact h0
   have heq:∀ W,qeF w W→∀ i,i<n→Calls Go.Proofs.Tryz.prog 53 #[.agg (enc i).toArray,.pointer (some ⟨Γ.β 0,0,none⟩)] W λ e w'=>e = .returned (.bool (qcI l c.1 i))∧qeF W w':=by
    intro W hid i hi'
    have hli:i<l.length:=by omega
    obtain ⟨q1,q2⟩:=hER (List.getElem?_eq_getElem hli)
    have he:enc i=Ql vs (Ty.size zX) i:=by rw [henc];show Ql _ _ (i % n)=_;rw [Nat.mod_eq_of_lt hi']
    rw [he]
    have hlen5:(Ql vs (Ty.size zX) i).length=5:=by rw [← he];exact hek i
    match hE:Ql vs (Ty.size zX) i,hlen5 with
    | [d0,d1,d2,d3,d4],_ =>
      rw [hE] at q1 q2
      obtain ⟨u,r,hu,hu1,_⟩:=(show RepL Γ (.v (.int .i64 l[i].1)::Jj l[i].2) _ from q1).uncons
      have:=zw hu1
      subst this
      cases hu
      have hb:(qcI l c.1 i)=(l[i].1==c.1):=by unfold qcI;rw [List.getElem?_eq_getElem hli]
      rw [hb]
      refine qKD W _ _ d1 d2 d3 d4 (q2 _ (by simp)) (q2 _ (by simp)) (q2 _ (by simp)) (q2 _ (by simp)) (Γ.β 0) ?_
      rw [show W.cell? _=w.cell? _ from World.cell?_of_block (hid.block _ (qpF hN))]
      exact hN
   have hcall:=qID (P:=Go.Proofs.Tryz.prog) Go.Proofs.Tryz.func52 (by kernel_rfl) Go.Proofs.Tryz.underlying0 Go.Proofs.Tryz.isAgg0 Go.Proofs.Tryz.sizeOf0 Go.Proofs.Tryz.zeroValue0 Go.Proofs.Tryz.underlying3 Go.Proofs.Tryz.isAgg3 Go.Proofs.Tryz.sizeOf3 Go.Proofs.Tryz.zeroValue3 Go.Proofs.Tryz.underlying4 Go.Proofs.Tryz.isAgg4 Go.Proofs.Tryz.sizeOf4 Go.Proofs.Tryz.zeroValue4 Go.Proofs.Tryz.underlying27 Go.Proofs.Tryz.isAgg27 Go.Proofs.Tryz.sizeOf27 Go.Proofs.Tryz.zeroValue27 Go.Proofs.Tryz.underlying81 Go.Proofs.Tryz.isAgg81 Go.Proofs.Tryz.sizeOf81 Go.Proofs.Tryz.zeroValue81 (Ty.size zX) Go.Proofs.Tryz.isAgg77 Go.Proofs.Tryz.sizeOf77
    w (Γ.cur 0) n cap 53 (.pointer (some ⟨Γ.β 0,0,none⟩)) (by omega) (Array.getElem?_eq_some_iff.1 hvsb).1 enc hek hH (λ args w=>qeg (QV Go.Proofs.Tryz.func53 (by kernel_rfl)) args w) (qcI l c.1) heq
   have:=fin hcall
   rw [← hn]
   exact this
 ·have hl0:l=[]:=hl0
  rcases hy with rfl | ⟨f,rfl,hf2⟩
  ·have hu0:=zw hu0
   subst hu0
   exact nil0 none 0 hl0
  ·cases hu0 with
   | sl _ _ _ a n cap b o us hn _ hf _ _ _ _ _ _ =>
     have hn:n=0:=hn
     rw [hn]
     exact nil0 a cap hl0
end Go.AmYtbpnmbmdbblehaaGreat
namespace Go.AmYtbpnmbmdbblehaaGreat
open Go Go.RowKit Go.GxYtbpnmbmdbblehaaGreat
noncomputable def zA (m:Nat) (l:List (Int × T)) (i j:Int):Option (Unit × List (Int × T) × Unit):=cond (inb j l.length&&(inb i l.length&&(ieq j (qf i 1)&&Nat.ble l.length 100000))) (some ((),l.take i.toNat++l.drop (i.toNat+1),())) none
theorem qdD {m:Nat}:qY Go.Proofs.Tryz.prog 55 (sgP ⟨[.row (.pair (.int .i64) .term),.val (.int .i64),.val (.int .i64)],[.one (.row (.pair (.int .i64) .term))],λ x=>zA m x.1 x.2.1 x.2.2.1⟩):=by
 refine qxO (a := .pair (.int .i64) .term) (QV Go.Proofs.Tryz.func55 (by kernel_rfl)) Go.Proofs.YtbpnmbmdbblehaaGreat.delete_oneSlt (fn:=zA m) λ l i j r h=>?_
 obtain ⟨h1,h2⟩:=qeB h
 simp only [Bool.and_eq_true] at h1
 obtain ⟨h3,h4,h5,h6⟩:=h1
 have h3:=of_decide_eq_true h3
 have h4:=of_decide_eq_true h4
 have h5:j=i+1:=by simpa [ieq,qf] using h5
 refine ⟨h5,h4.1,?_,Nat.le_of_ble_eq_true h6,h2.symm⟩
 omega
end Go.AmYtbpnmbmdbblehaaGreat
namespace Go.AmYtbpnmbmdbblehaaGreat
open Go Go.GxYtbpnmbmdbblehaaGreat
set_option linter.unusedVariables false
set_option maxRecDepth 100000
noncomputable section
abbrev Z1:=Option (Bool)
abbrev Z2:=Int→Z1
abbrev Z3:=List UInt8
abbrev Z4:=Z3→Int→Int→Z1
abbrev Z5:=Y8→Z1
abbrev Z6:=Option (((Int) × (Int) × Unit) × ((Int) × Unit))
abbrev Z7:=T→Int→Int→Int→Z6
abbrev Z8:=List (T)
abbrev Z9:=Int→Z8→Int→Int→Int→Int→Z6
abbrev Z10:=Option (Int)
abbrev Z11:=T→Z10
abbrev Z12:=Option (Y8 × (Int × (Int × Int)))
abbrev Z13:=List (Y8 × (Int × (Int × Int)))
abbrev Z14:=Z3→Z13→Int→Int→Z3→Int→Int→Int→Z12
abbrev Z15:=Z8→Int→Int→Int→Z3→Int→Z8→Z10
abbrev Z16:=Z8→Int→Int→Z10
abbrev Z17:=Int→Z8→Int→Int→Z10
abbrev Z18:=T→T→Z10
abbrev Z19:=Int→Int→Int→Z3→Int→Z8→Int→Z3→Int→Z8→Z10
abbrev Z20:=T→T→Z1
abbrev Z21:=Option (T)
abbrev Z22:=T→Z21
abbrev Z23:=Option (TL)
abbrev Z24:=(List (TL))→Int→(List (TL))→Int→Int→Z23
abbrev Z25:=(List (TL))→Int→Int→Z8→Z23
abbrev Z26:=Z8→Z8→Z8→Z23
abbrev Z27:=T→Z23
abbrev Z28:=Z8→Z8→Int→Int→Z23
abbrev Z29:=Z8→Int→Int→Int→Z3→Int→Int→Z3→Int→Z8→Z8→Z21
abbrev Z30:=Option ((T) × (Int))
abbrev Z31:=(List (Int))→Int→Int→Int→Z3→Int→Z8→Int→Z3→Int→Int→Z3→Int→Z8→Z8→Z30
abbrev Z32:=TL→Z23
abbrev Z33:=Z8→Int→Int→Z8→Z23
abbrev Z34:=Z8→Z8→Int→Int→Int→Z3→Int→Z8→Z30
abbrev Z35:=T→Z1
abbrev Z36:=Int→Int→Int→Z3→Int→Int→Z3→Int→Z8→Z8→Z21
abbrev Z37:=Option ((Int) × (Bool))
abbrev Z38:=List (T × Int)
abbrev Z39:=Z38→Int→Int→Int→Int→Z3→Int→Z8→Z37
abbrev Z40:=Option ((Unit) × ((List (T × Int)) × Unit))
abbrev Z41:=Option ((Unit) × ((List (T × Int)) × (Bool) × Unit))
abbrev Z42:=Z38→T→Int→Z41
abbrev Z43:=Int→Z8→Int→Int→Z38→Z41
abbrev Z44:=Option ((List (T × Int)) × (Int))
abbrev Z45:=T→Z44
abbrev Z46:=Z38→Z38→Int→Int→Z10
abbrev Z47:=Z38→Z10
abbrev Z48:=Y8→TL→Z21
abbrev Z49:=Z38→Int→Int→Int→Z3→Int→Z8→Z8→Z8→Z30
abbrev Z50:=Z38→Int→Int→Int→Int→Int→Z3→Int→Int→Z3→Int→Z8→Int→Z8→Z8→Z8→Z30
abbrev Z51:=Z38→Z30
abbrev Z52:=Z38→Int→Int→Z38→Z40
abbrev Z53:=Z38→Int→Int→Z10
abbrev Z54:=Z38→Int→Int→Z38→Z44
abbrev Z55:=Z38→Z38→Z44
abbrev Z56:=T→T→Z30
abbrev Z57:=T→Z30
abbrev Z58:=Z8→Int→Int→Int→Z3→Int→Z8→Int→Z3→Int→Int→Z3→Int→Z8→Z8→Z30
abbrev Z59:=Z8→Int→Int→Z1
abbrev Z60:=Option (((Int) × (List (T)) × Unit) × (Unit))
abbrev Z61:=T→Int→Z8→Z60
abbrev Z62:=Z8→Int→Int→Int→Z8→Z60
abbrev Z63:=Option ((Unit) × ((List (T)) × Unit))
abbrev Z64:=Int→Int→Z8→Z63
abbrev Z65:=(List (Int))→Int→Int→Int→Z3→Int→Z8→Int→Z3→Int→Z8→Z30
abbrev Z66:=Option ((T × (Int × ((List (Int × T)) × Int))) × (Int))
abbrev Z67:=T→Z66
abbrev Z68:=Int→Int→Int→Z3→Int→Int→Z3→Int→Z8→Z8→Z30
abbrev Z69:=Int→Int→Int→Z3→Int→Z8→Z10
abbrev Z70:=Int→Int→Z3→Int→Z8→Int→Z3→Int→Z8→Z10
abbrev Z71:=List (Int × T)
abbrev Z72:=Int→Z71→Int→Int→Int→Z3→Int→Z8→Int→Z71→Int→Z10
abbrev Z73:=T × (Int × ((List (Int × T)) × Int))
abbrev Z74:=Z73→Z10
abbrev Z75:=Option ((Unit) × (((T) × (Int) × (List (Int × T)) × (Int) × Unit) × Unit))
abbrev Z76:=Z71→Int→Int→Int→Z3→Int→Z8→Int→Z71→Int→Int→Z3→Int→Int→Int→Z8→Z71→Z71→Z75
abbrev Z77:=Option ((T) × (Bool))
abbrev Z78:=T→T→Z77
abbrev Z79:=Option ((T × (Int × ((List (Int × T)) × Int))) × ((T) × (Int)))
abbrev Z80:=Int→Int→Z3→Int→Z8→Int→Z3→Int→Int→Int→Int→Z3→Int→Int→Z3→Int→Z8→Int→Int→Z8→Z71→Z8→Z71→Z79
abbrev Z81:=Z73→(Int × T)→Z79
abbrev Z82:=Option (Y8)
abbrev Z83:=Z3→Int→Z82
abbrev Z84:=Z3→Int→Z1
abbrev Z85:=Option ((T) × ((Y8) × (Bool)))
abbrev Z86:=Z3→Z3→Int→Int→Z3→Int→Z8→Int→Z3→Int→Z8→Z85
abbrev Z87:=Y8→Int→Z85
abbrev Z88:=Z3→Int→Int→Z3→Int→Int→Z3→Int→Z8→Z8→Z85
abbrev Z89:=Int→Int→Z3→Int→Z8→Z10
abbrev Z90:=Option (List (Y8 × (Int × (Int × Int))))
abbrev Z91:=Z3→Z13→Int→Z10
abbrev Z92:=Z13→Int→Int→Z3→Int→Z8→Z1
abbrev Z93:=Int→Int→Z3→Int→Z8→Z1
abbrev Z94:=Z8→Int→Int→Z3→Int→Z8→Z1
abbrev Z95:=Z8→Bool→Int→Int→Z3→Int→Z8→Z8→Z23
abbrev Z96:=Z8→Int→Int→Z3→Int→Z8→Z8→Z23
abbrev Z97:=Z8→Z8→Int→Z23
abbrev Z98:=Z8→Int→Int→Z3→Int→Z8→Z23
abbrev Z99:=Z8→Int→Int→Z3→Int→Z8→Z10
abbrev qJj:=Z8→Z8→Int→Int→Z3→Int→Z8→Z30
abbrev qJk:=Int→Int→Int→Z3→Int→Z8→Z1
abbrev qJz:=Int→Bool→Int→Int→Z3→Int→Z8→Z38→Z38→Z40
abbrev qz6:=Z38→T→Int→Z40
abbrev qJ9:=Int→Int→Int→Z3→Int→Z8→Z38→Z40
abbrev qDT:=Z38→Int→Z10
abbrev qld:=Z38→Int→Z8→Z23
abbrev qla:=Z38→Int→Int→Z8→Z23
abbrev qJQ:=Z38→Int→Z38→Z44
abbrev qJL:=Int→Int→Z3→Int→Z8→Int→Z3→Int→Z8→Z8→Z30
abbrev qJK:=Int→Int→Z3→Int→Z8→Z8→Z23
abbrev qJh:=Z8→Int→Z1
abbrev qJP:=Int→Z8→Int→Z8→Z23
abbrev qCM:=Int→Int→Int→Z3→Int→Z8→Int→Z71→Int→Z10
abbrev qKx:=Option ((T × (Int × ((List (Int × T)) × Int))) × ((Int × T) × (Int)))
abbrev qCO:=Option (List (Int × T))
abbrev qJH:=Int→Int→Int→Z3→Int→Z8→Int→Z71→Int→Z71→qCO
abbrev qCr:=T→Int→Z10
abbrev qKl:=Int→Int→Z3→Int→Z8→Int→Z71→Int→Int→Z3→Int→Z8→Int→Z71→Int→Z1
abbrev qKa:=Int→Int→Z3→Int→Z8→Int→Z71→Int→Z8→Z23
abbrev qKq:=Option (T × (Int × ((List (Int × T)) × Int)))
abbrev qKg:=Int→Z3→Int→Z8→Int→Z71→Int→Int→Int→Z3→Int→Z8→Int→Z3→Int→Int→Int→Int→Z3→Int→Z8→Z71→Z8→Z79
def qjD (m:Nat) (a0:Int):Z1 :=
 let j1:Z1:=(let j2:Z1:=(let j3:Z1:=(cond (ieq a0 95) (some true) (some (ieq a0 35)));cond (ile 48 a0) (cond (ile a0 57) (some true) j3) j3);cond (ile 65 a0) (cond (ile a0 90) (some true) j2) j2);
 cond (ile 97 a0) (cond (ile a0 122) (some true) j1) j1
def qfT:Nat→Z2:=qg (λ _=>none) λ m _=>qjD m
def qeA (m:Nat) (K1:Z4) (a0:Y8):Z1 :=
 cond (qC a0 []) (some false) (cond (ilt 24 (List.length a0)) (some false) (qa (qd a0 0) λ v1=>qa (qfT m ((UInt8.toNat v1:Nat):Int)) λ v2=>cond (qc v2) (some false)
 (qa (qd a0 0) λ v3=>let j1:Z1:=(qa (qd a0 0) λ v5=>cond (ieq ((UInt8.toNat v5:Nat):Int) 95) (some false) (qa (qd a0 0) λ v6=>cond (ieq ((UInt8.toNat v6:Nat):Int) 35) (some false)
 (K1 a0 (List.length a0) 0)));cond (ile 48 ((UInt8.toNat v3:Nat):Int)) (qa (qd a0 0) λ v4=>cond (ile ((UInt8.toNat v4:Nat):Int) 57) (some false) j1) j1)))
def qeu (m:Nat) (K1:Z4) (x0:List UInt8) (x1 x2:Int):Z1 :=
 cond (ilt x2 x1) (qa (qd x0 x2) λ v1=>qa (qfT m ((UInt8.toNat v1:Nat):Int)) λ v2=>cond (qc v2) (some false) (K1 x0 x1 (iw .i64 (qf x2 1)))) (some true)
def jO (m:Nat):=qI (λ _ _ _=>none) λ ih=>qeu m ih
def qbh:Nat→Z5:=qg (λ _=>none) λ m _=>qeA m (jO m m)
def qfv (m:Nat) (q_term_check:Z7) (K1:Z9) (a0:T) (a1 a2 a3:Int):Z6 :=
 let j1:Z6:=(qa (qbh m (T.name a0)) λ v1=>cond (qc v1) (some ((iw .i64 (qf a2 1),qlf a3 a1,()),(2,()))) (cond (ilt 8 (List.length (T.kids a0)))
 (some ((iw .i64 (qf a2 1),qlf a3 a1,()),(3,()))) (K1 a1 (T.kids a0) (List.length (T.kids a0)) 0 (iw .i64 (qf a2 1)) (qlf a3 a1))));let j2:Z6:=(some ((iw .i64 (qf a2 1),qlf a3 a1,()),(1,())));
 let j3:Z6:=(cond (ilt (T.sort a0) 0) j2 (cond (ilt 5 (T.sort a0)) j2 (cond (ilt 0 (List.length (T.kids a0))) j2 j1)));cond (ieq (T.kind a0) 1) j3 (cond (ieq (T.kind a0) 2) j3 (cond (ieq (T.kind a0) 3)
 (cond (qc (ieq (T.sort a0) 0)) j2 j1) j2))
def qfb (m:Nat) (q_term_check:Z7) (K1:Z9) (x0:Int) (x1:List (T)) (x2 x3 x4 x5:Int):Z6 :=
 cond (ilt x3 x2) (qa (qd x1 x3) λ v1=>qa (q_term_check (re v1) (iw .i64 (qf x0 1)) x4 x5) λ v2=>cond (qc (ieq v2.2.1 0)) (some ((v2.1.1,v2.1.2.1,()),(v2.2.1,())))
 (K1 x0 x1 x2 (iw .i64 (qf x3 1)) v2.1.1 v2.1.2.1)) (some ((x4,x5,()),(0,())))
def y9 (m:Nat) (q_term_check:Z7):=qI (λ _ _ _ _ _ _=>none) λ ih=>qfb m q_term_check ih
def zJ:Nat→Z7:=qg (λ _ _ _ _=>none) λ m q_term_check=>qfv m q_term_check (y9 m q_term_check m)
def qin (m:Nat) (a0:T):Z10 :=
 qa (zJ m (re a0) 1 0 0) λ v1=>cond (qc (ieq v1.2.1 0)) (some v1.2.1) (cond (ilt 400 v1.1.1) (some 3) (cond (ilt 40 v1.1.2.1) (some 3) (some 0)))
def zy:Nat→Z11:=qg (λ _=>none) λ m _=>qin m
def qcy (m:Nat) (K1:Z14) (a0:Y8):Z12 :=
 qa (qhC 0) λ v1=>K1 a0 v1 (List.length v1) 0 [] 0 0 0
def qct (m:Nat) (K1:Z14) (x0:List UInt8) (x1:List (Y8 × (Int × (Int × Int)))) (x2 x3:Int) (x4:List UInt8) (x5 x6 x7:Int):Z12 :=
 cond (ilt x3 x2) (qa (qd x1 x3) λ v1=>cond (qC v1.1 x0) (some (v1.1,(v1.2.1,(v1.2.2.1,v1.2.2.2)))) (K1 x0 x1 x2 (iw .i64 (qf x3 1)) x4 x5 x6 x7)) (some ([],(0,(0,0))))
def Qv (m:Nat):=qI (λ _ _ _ _ _ _ _ _=>none) λ ih=>qct m ih
def qaJ:Nat→(Y8→Z12):=qg (λ _=>none) λ m _=>qcy m (Qv m m)
def qc8 (m:Nat) (q_theory_check:Z11) (K1:Z15) (K2:Z16) (a0:T):Z10 :=
 cond (qc (ieq (T.kind a0) 3)) (some 0) (qa (qaJ m (T.name a0)) λ v1=>cond (ieq v1.2.2.2 0) (some 10) (cond (ilt (List.length (T.kids a0)) v1.2.1) (some 6)
 (cond (ilt v1.2.2.1 (List.length (T.kids a0))) (some 6) (cond (qC (T.name a0) [115,107]) (K1 (T.kids a0) (List.length (T.kids a0)) 0 (T.kind a0) (T.name a0) (T.sort a0) (T.kids a0))
 (cond (qC (T.name a0) [115,104,107]) (K1 (T.kids a0) (List.length (T.kids a0)) 0 (T.kind a0) (T.name a0) (T.sort a0) (T.kids a0)) (cond (qC (T.name a0) [110,101,119]) (qa (qd (T.kids a0) 0) λ v2 =>
 cond (qc (ieq (T.kind v2) 2)) (some 10) (K2 (T.kids a0) (List.length (T.kids a0)) 0)) (K2 (T.kids a0) (List.length (T.kids a0)) 0)))))))
def qde (m:Nat) (q_theory_check:Z11) (K1:Z15) (K2:Z16) (x0:List (T)) (x1 x2 x3:Int) (x4:List UInt8) (x5:Int) (x6:List (T)):Z10 :=
 cond (ilt x2 x1) (qa (qd x0 x2) λ v1=>cond (ieq (T.kind v1) 3) (some 10) (cond (qc (ieq (T.sort v1) 1)) (some 10) (K1 x0 x1 (iw .i64 (qf x2 1)) x3 x4 x5 x6))) (K2 x6 (List.length x6) 0)
def qc6 (m:Nat) (q_theory_check:Z11) (K1:Z15) (K2:Z16) (x0:List (T)) (x1 x2:Int):Z10 :=
 cond (ilt x2 x1) (qa (qd x0 x2) λ v1=>qa (q_theory_check (re v1)) λ v2=>cond (qc (ieq v2 0)) (some v2) (K2 x0 x1 (iw .i64 (qf x2 1)))) (some 0)
def qO (m:Nat) (q_theory_check:Z11):=qI ((λ _ _ _ _ _ _ _=>none,λ _ _ _=>none)) λ ih=>(qde m q_theory_check ih.1 ih.2,qc6 m q_theory_check ih.1 ih.2)
def qB:Nat→Z11:=qg (λ _=>none) λ m q_theory_check=>qc8 m q_theory_check (qO m q_theory_check m).1 (qO m q_theory_check m).2
def qgK (m:Nat) (a0:T):Z10 :=
 qa (zy m (re a0)) λ v1=>cond (qc (ieq v1 0)) (some v1) (qa (qB m (re a0)) λ v2=>some v2)
def qdr:Nat→Z11:=qg (λ _=>none) λ m _=>qgK m
def qj6 (m:Nat) (a0 a1:Int):Z10 :=
 cond (ilt a0 a1) (some (-1)) (cond (ilt a1 a0) (some 1) (some 0))
def qbY:Nat→(Int→Int→Z10):=qg (λ _ _=>none) λ m _=>qj6 m
def qgi (m:Nat) (q_term_Size:Z11) (K1:Z17) (a0:T):Z10 :=
 K1 1 (T.kids a0) (List.length (T.kids a0)) 0
def qgy (m:Nat) (q_term_Size:Z11) (K1:Z17) (x0:Int) (x1:List (T)) (x2 x3:Int):Z10 :=
 cond (ilt x3 x2) (qa (qd x1 x3) λ v1=>qa (q_term_Size (re v1)) λ v2=>K1 (iw .i64 (qf x0 v2)) x1 x2 (iw .i64 (qf x3 1))) (some x0)
def qbf (m:Nat) (q_term_Size:Z11):=qI (λ _ _ _ _=>none) λ ih=>qgy m q_term_Size ih
def ju:Nat→Z11:=qg (λ _=>none) λ m q_term_Size=>qgi m q_term_Size (qbf m q_term_Size m)
def qdl (m:Nat) (q_term_Compare:Z18) (K1:Z19) (a0 a1:T):Z10 :=
 qa (ju m (re a0)) λ v1=>qa (ju m (re a1)) λ v2=>qa (qbY m v1 v2) λ v3=>let j1:Z10:=(qa (qbY m (List.length (T.kids a0)) (List.length (T.kids a1))) λ v7 =>
 K1 v7 0 (T.kind a0) (T.name a0) (T.sort a0) (T.kids a0) (T.kind a1) (T.name a1) (T.sort a1) (T.kids a1));let j2:Z10:=(qa (qbY m (T.sort a0) (T.sort a1)) λ v6=>cond (ieq v6 0) j1 (K1 v6 0 (T.kind a0)
 (T.name a0) (T.sort a0) (T.kids a0) (T.kind a1) (T.name a1) (T.sort a1) (T.kids a1)));let j3:Z10:=(qa (strings_Compare 0 (T.name a0) (T.name a1)) λ v5 =>
 cond (ieq v5 0) j2 (cond (ieq v5 0) j1 (K1 v5 0 (T.kind a0) (T.name a0) (T.sort a0) (T.kids a0) (T.kind a1) (T.name a1) (T.sort a1) (T.kids a1))));cond (ieq v3 0) (qa (qbY m (T.kind a0) (T.kind a1)) λ v4 =>
 cond (ieq v4 0) j3 (cond (ieq v4 0) j2 (cond (ieq v4 0) j1 (K1 v4 0 (T.kind a0) (T.name a0) (T.sort a0) (T.kids a0) (T.kind a1) (T.name a1) (T.sort a1) (T.kids a1)))))
 (cond (ieq v3 0) j3 (cond (ieq v3 0) j2 (cond (ieq v3 0) j1 (K1 v3 0 (T.kind a0) (T.name a0) (T.sort a0) (T.kids a0) (T.kind a1) (T.name a1) (T.sort a1) (T.kids a1)))))
def qaQ (m:Nat) (q_term_Compare:Z18) (K1:Z19) (x0 x1 x2:Int) (x3:List UInt8) (x4:Int) (x5:List (T)) (x6:Int) (x7:List UInt8) (x8:Int) (x9:List (T)):Z10 :=
 cond (ieq x0 0) (cond (ilt x1 (List.length x5)) (qa (qd x5 x1) λ v1=>qa (qd x9 x1) λ v2=>qa (q_term_Compare (re v1) (re v2)) λ v3=>K1 v3 (iw .i64 (qf x1 1)) x2 x3 x4 x5 x6 x7 x8 x9) (some x0))
 (some x0)
def jw (m:Nat) (q_term_Compare:Z18):=qI (λ _ _ _ _ _ _ _ _ _ _=>none) λ ih=>qaQ m q_term_Compare ih
def qu:Nat→Z18:=qg (λ _ _=>none) λ m q_term_Compare=>qdl m q_term_Compare (jw m q_term_Compare m)
def qg6 (m:Nat) (a0 a1:T):Z1 :=
 qa (qu m (re a0) (re a1)) λ v1=>some (ieq v1 0)
def Qn:Nat→Z20:=qg (λ _ _=>none) λ m _=>qg6 m
def qjN (m:Nat) (a0:T) (a1:Y8):Z1 :=
 cond (ieq (T.kind a0) 3) (some (qC (T.name a0) a1)) (some false)
def yD:Nat→(T→Y8→Z1):=qg (λ _ _=>none) λ m _=>qjN m
def qeP (m:Nat) (a0:T):Z21 :=
 qa (qd (T.kids a0) 0) λ v1=>let j1:Z21:=(qa (qd (T.kids v1) 0) λ v4=>some (re v4));let j2:Z21:=(some (re a0));let j3:Z21:=(cond (qC (T.name a0) [114,101,97,100])
 (qa (yD m (re v1) [115,105,103,110]) λ v24=>cond v24 j1 j2) j2);let j4:Z21:=(qa (yD m (re v1) [112,97,105,114]) λ v5=>cond v5 (qa (qd (T.kids v1) 1) λ v6 =>
 some (re v6)) j2);let j5:Z21:=(qa (yD m (re v1) [112,97,105,114]) λ v3=>cond v3 j1 j2);cond (ilt 1 (List.length (T.kids a0))) (qa (qd (T.kids a0) 1) λ v2 =>
 cond (qC (T.name a0) [102,115,116]) j5 (cond (qC (T.name a0) [115,110,100]) j4 (cond (qC (T.name a0) [100,101,99]) (qa (yD m (re v1) [101,110,99]) λ v7 =>
 cond v7 (qa (qd (T.kids v1) 1) λ v8=>qa (Qn m (re v8) (re v2)) λ v9=>cond v9 j1 j2) j2) (cond (qC (T.name a0) [97,100,101,99]) (qa (yD m (re v1) [97,101,110,99]) λ v11 =>
 cond v11 (qa (qd (T.kids v1) 1) λ v12=>qa (yD m (re v12) [112,107]) λ v13=>cond v13 (qa (qd (T.kids v1) 1) λ v14=>qa (qd (T.kids v14) 0) λ v15=>qa (Qn m (re v15)
 (re v2)) λ v16=>cond v16 j1 j2) j2) j2) (cond (qC (T.name a0) [111,112,101,110]) (qa (yD m (re v1) [115,105,103,110]) λ v18=>cond v18 (qa (yD m (re v2) [112,107]) λ v19 =>
 cond v19 (qa (qd (T.kids v1) 1) λ v20=>qa (qd (T.kids v2) 0) λ v21=>qa (Qn m (re v20) (re v21)) λ v22=>cond v22 j1 j2) j2) j2) j3)))))
 (cond (qC (T.name a0) [102,115,116]) j5 (cond (qC (T.name a0) [115,110,100]) j4 (cond (qC (T.name a0) [100,101,99]) (qa (yD m (re v1) [101,110,99]) λ v30 =>
 cond v30 (qa (qd (T.kids v1) 1) λ v31=>qa (Qn m (re v31) (T.mk 0 [] 0 [])) λ v32=>cond v32 j1 j2) j2) (cond (qC (T.name a0) [97,100,101,99])
 (qa (yD m (re v1) [97,101,110,99]) λ v34=>cond v34 (qa (qd (T.kids v1) 1) λ v35=>qa (yD m (re v35) [112,107]) λ v36=>cond v36 (qa (qd (T.kids v1) 1) λ v37 =>
 qa (qd (T.kids v37) 0) λ v38=>qa (Qn m (re v38) (T.mk 0 [] 0 [])) λ v39=>cond v39 j1 j2) j2) j2) (cond (qC (T.name a0) [111,112,101,110])
 (qa (yD m (re v1) [115,105,103,110]) λ v41=>cond v41 (qa (yD m (T.mk 0 [] 0 []) [112,107]) λ v42=>cond v42 (qa (qd (T.kids v1) 1) λ v43=>none) j2) j2) j3)))))
def J9:Nat→Z22:=qg (λ _=>none) λ m _=>qeP m
def yJ (m:Nat) (K1:Z24) (K2:Z25) (a0:List TL):Z23 :=
 K1 a0 0 a0 (List.length a0) 0
def yE (m:Nat) (K1:Z24) (K2:Z25) (x0:List (TL)) (x1:Int) (x2:List (TL)) (x3 x4:Int):Z23 :=
 cond (ilt x4 x3) (qa (qd x2 x4) λ v1=>cond (ilt (iw .i64 (qf x1 (List.length v1))) 0) none (K1 x0 (iw .i64 (qf x1 (List.length v1))) x2 x3 (iw .i64 (qf x4 1))))
 (qa (yB 0 x1) λ v2=>K2 x0 (List.length x0) 0 v2.2.1)
def yL (m:Nat) (K1:Z24) (K2:Z25) (x0:List (TL)) (x1 x2:Int) (x3:List (T)):Z23 :=
 cond (ilt x2 x1) (qa (qd x0 x2) λ v1=>cond (zD (List.length x3+List.length v1) 56) (K2 x0 x1 (iw .i64 (qf x2 1)) (x3++v1)) none) (some x3)
def ql (m:Nat):=qI ((λ _ _ _ _ _=>none,λ _ _ _ _=>none)) λ ih=>(yE m ih.1 ih.2,yL m ih.1 ih.2)
def zf:Nat→((List TL)→Z23):=qg (λ _=>none) λ m _=>yJ m (ql m m).1 (ql m m).2
def qgz (m:Nat) (K1:Z16) (a0 a1:TL):Z10 :=
 cond (ilt 200 (List.length a0)) (some 3) (qa (zf m [a0,a1]) λ v1=>K1 v1 (List.length v1) 0)
def qgS (m:Nat) (K1:Z16) (x0:List (T)) (x1 x2:Int):Z10 :=
 cond (ilt x2 x1) (qa (qd x0 x2) λ v1=>qa (zy m (re v1)) λ v2=>cond (qc (ieq v2 0)) (some v2) (K1 x0 x1 (iw .i64 (qf x2 1)))) (some 0)
def qbd (m:Nat):=qI (λ _ _ _=>none) λ ih=>qgS m ih
def qhW:Nat→(TL→TL→Z10):=qg (λ _ _=>none) λ m _=>qgz m (qbd m m)
def qhN (m:Nat) (K1:Z26) (a0 a1:TL):Z23 :=
 K1 a0 a1 []
def qhG (m:Nat) (K1:Z26) (x0 x1 x2:List (T)):Z23 :=
 let j1:Z23:=(cond (zD (List.length x2+List.length x0) 56) (cond (zD (List.length (x2++x0)+List.length x1) 56) (some ((x2++x0)++x1)) none) none);cond (ilt 0 (List.length x0))
 (cond (ilt 0 (List.length x1)) (qa (qd x0 0) λ v1=>qa (qd x1 0) λ v2=>qa (qu m (re v1) (re v2)) λ v3=>cond (ilt v3 0) (qa (qd x0 0) λ v4=>cond (zD (List.length x2+1) 56)
 (cond (inb (List.length x0) (List.length x0)) (cond (inb 1 (Int.toNat (List.length x0))) (K1 (zS x0 1 (List.length x0)) x1 (x2++[re v4])) none) none) none) (cond (ilt 0 v3) (qa (qd x1 0) λ v5 =>
 cond (zD (List.length x2+1) 56) (cond (inb (List.length x1) (List.length x1)) (cond (inb 1 (Int.toNat (List.length x1))) (K1 x0 (zS x1 1 (List.length x1)) (x2++[re v5])) none) none) none)
 (cond (inb (List.length x0) (List.length x0)) (cond (inb 1 (Int.toNat (List.length x0))) (cond (inb (List.length x1) (List.length x1)) (cond (inb 1 (Int.toNat (List.length x1))) (K1 (zS x0 1 (List.length x0))
 (zS x1 1 (List.length x1)) x2) none) none) none) none))) j1) j1
def qck (m:Nat):=qI (λ _ _ _=>none) λ ih=>qhG m ih
def qhs:Nat→(TL→TL→Z23):=qg (λ _ _=>none) λ m _=>qhN m (qck m m)
def qc9 (m:Nat) (q_xor_summands:Z27) (K1:Z28) (a0:T):Z23 :=
 let j1:Z23:=(cond (ieq (T.kind a0) 3) (cond (qC (T.name a0) [120,111,114]) (K1 [] (T.kids a0) (List.length (T.kids a0)) 0) (some [re a0])) (some [re a0]));cond (ieq (T.kind a0) 3)
 (cond (qC (T.name a0) [122,101,114,111]) (cond (ieq (List.length (T.kids a0)) 0) (some []) j1) j1) j1
def qdg (m:Nat) (q_xor_summands:Z27) (K1:Z28) (x0 x1:List (T)) (x2 x3:Int):Z23 :=
 cond (ilt x3 x2) (qa (qd x1 x3) λ v1=>qa (q_xor_summands (re v1)) λ v2=>qa (qhs m x0 v2) λ v3=>K1 v3 x1 x2 (iw .i64 (qf x3 1))) (some x0)
def Qb (m:Nat) (q_xor_summands:Z27):=qI (λ _ _ _ _=>none) λ ih=>qdg m q_xor_summands ih
def zW:Nat→Z27:=qg (λ _=>none) λ m q_xor_summands=>qc9 m q_xor_summands (Qb m q_xor_summands m)
def qfo (m:Nat) (q_term_clone:Z22) (K1:Z29) (a0:T):Z21 :=
 K1 (T.kids a0) (List.length (T.kids a0)) 0 (T.kind a0) (T.name a0) (T.sort a0) 0 [] 0 [] []
def qfp (m:Nat) (q_term_clone:Z22) (K1:Z29) (x0:List (T)) (x1 x2 x3:Int) (x4:List UInt8) (x5 x6:Int) (x7:List UInt8) (x8:Int) (x9 x10:List (T)):Z21 :=
 cond (ilt x2 x1) (qa (qd x0 x2) λ v1=>qa (q_term_clone (re v1)) λ v2=>cond (zD (List.length x9+1) 56) (K1 x0 x1 (iw .i64 (qf x2 1)) x3 x4 x5 x6 x7 x8 (x9++[re v2]) x10) none)
 (some (T.mk x3 x4 x5 x9))
def qai (m:Nat) (q_term_clone:Z22):=qI (λ _ _ _ _ _ _ _ _ _ _ _=>none) λ ih=>qfp m q_term_clone ih
def yo:Nat→Z22:=qg (λ _=>none) λ m q_term_clone=>qfo m q_term_clone (qai m q_term_clone m)
def qc1 (m:Nat) (K1:Z31) (a0:T) (a1:List Int) (a2:T):Z30 :=
 qa (yo m (re a0)) λ v1=>K1 a1 (List.length a1) 0 (T.kind a2) (T.name a2) (T.sort a2) (T.kids a2) 0 [] 0 (T.kind v1) (T.name v1) (T.sort v1) (T.kids v1) []
def qgO (m:Nat) (K1:Z31) (x0:List (Int)) (x1 x2 x3:Int) (x4:List UInt8) (x5:Int) (x6:List (T)) (x7:Int) (x8:List UInt8) (x9 x10:Int) (x11:List UInt8) (x12:Int) (x13 x14:List (T)):Z30 :=
 cond (ilt x2 x1) (qa (qd x0 x2) λ v1=>cond (ilt v1 0) (some (T.mk 0 [] 0 [],7)) (cond (ile (List.length x13) v1) (some (T.mk 0 [] 0 [],7)) (qa (qd x13 v1) λ v2=>none)))
 (qa (yo m (T.mk x3 x4 x5 x6)) λ v3=>some (re v3,0))
def qac (m:Nat):=qI (λ _ _ _ _ _ _ _ _ _ _ _ _ _ _ _=>none) λ ih=>qgO m ih
def qdQ:Nat→(T→(List Int)→T→Z30):=qg (λ _ _ _=>none) λ m _=>qc1 m (qac m m)
def qi9 (m:Nat) (q_xor_own:Z32) (K1:Z33) (a0:TL):Z23 :=
 cond (qCI (List.length a0) 56) (K1 a0 (List.length a0) 0 (List.replicate (Int.toNat (List.length a0)) (T.mk 0 [] 0 []):List (T))) none
def qiO (m:Nat) (q_xor_own:Z32) (K1:Z33) (x0:List (T)) (x1 x2:Int) (x3:List (T)):Z23 :=
 cond (ilt x2 x1) (qa (qd x0 x2) λ v1=>qa (qdQ m (re v1) [] (re v1)) λ v2=>qa (qd x3 x2) λ v3=>qa (q_xor_own (T.kids v1)) λ v4=>qa (qd (jW x3 x2 (re v2.1)) x2) λ v5 =>
 cond (ieq (List.length (T.kids v1)) 0) (qa (qd (jW (jW x3 x2 (re v2.1)) x2 (T.mk (T.kind v5) (T.name v5) (T.sort v5) v4)) x2) λ v6=>K1 x0 x1 (iw .i64 (qf x2 1))
 (jW (jW (jW x3 x2 (re v2.1)) x2 (T.mk (T.kind v5) (T.name v5) (T.sort v5) v4)) x2 (T.mk (T.kind v6) (T.name v6) (T.sort v6) []))) (K1 x0 x1 (iw .i64 (qf x2 1)) (jW (jW x3 x2 (re v2.1)) x2 (T.mk (T.kind v5)
 (T.name v5) (T.sort v5) v4)))) (some x3)
def qdz (m:Nat) (q_xor_own:Z32):=qI (λ _ _ _ _=>none) λ ih=>qiO m q_xor_own ih
def Q9:Nat→Z32:=qg (λ _=>none) λ m q_xor_own=>qi9 m q_xor_own (qdz m q_xor_own m)
def qiL (m:Nat) (K1:Z34) (a0:TL):Z30 :=
 qa (qhW m a0 []) λ v1=>cond (qc (ieq v1 0)) (some (T.mk 0 [] 0 [],v1)) (K1 [] a0 (List.length a0) 0 0 [] 0 [])
def qiX (m:Nat) (K1:Z34) (x0 x1:List (T)) (x2 x3 x4:Int) (x5:List UInt8) (x6:Int) (x7:List (T)):Z30 :=
 cond (ilt x3 x2) (qa (qd x1 x3) λ v1=>qa (zW m (re v1)) λ v2=>qa (qhs m x0 v2) λ v3=>K1 v3 x1 x2 (iw .i64 (qf x3 1)) x4 x5 x6 x7) (qa (Q9 m x0) λ v4=>let j1:Z30 :=
 (some (T.mk 0 [] 0 [],3));cond (ieq (List.length v4) 0) (qa (zy m (T.mk 3 [122,101,114,111] 0 [])) λ v5=>cond (qc (ieq v5 0)) j1 (some (T.mk 3 [122,101,114,111] 0 [],0)))
 (cond (ieq (List.length v4) 1) (qa (qd v4 0) λ v6=>qa (zy m (re v6)) λ v7=>cond (qc (ieq v7 0)) j1 (some (re v6,0))) (qa (zy m (T.mk 3 [120,111,114] 0 v4)) λ v8 =>
 cond (qc (ieq v8 0)) j1 (some (T.mk 3 [120,111,114] 0 v4,0)))))
def qdH (m:Nat):=qI (λ _ _ _ _ _ _ _ _=>none) λ ih=>qiX m ih
def qlN:Nat→(TL→Z30):=qg (λ _=>none) λ m _=>qiL m (qdH m m)
def qdw (m:Nat) (a0:T):Z1 :=
 cond (ieq (T.kind a0) 3) (cond (qC (T.name a0) [109,117,108]) (some true) (cond (qC (T.name a0) [105,110,118]) (some true) (some (qC (T.name a0) [111,110,101])))) (some false)
def JD:Nat→Z35:=qg (λ _=>none) λ m _=>qdw m
def qbu (m:Nat) (q_exponent_clone:Z22) (K1:Z36) (a0:T):Z21 :=
 qa (zH 0 (T.kids a0)) λ v1=>K1 (List.length v1.2.1) 0 (T.kind a0) (T.name a0) (T.sort a0) 0 [] 0 v1.2.1 []
def qbs (m:Nat) (q_exponent_clone:Z22) (K1:Z36) (x0 x1 x2:Int) (x3:List UInt8) (x4 x5:Int) (x6:List UInt8) (x7:Int) (x8 x9:List (T)):Z21 :=
 cond (ilt x1 x0) (qa (qd x8 x1) λ v1=>qa (q_exponent_clone (re v1)) λ v2=>qa (qd x8 x1) λ v3=>K1 x0 (iw .i64 (qf x1 1)) x2 x3 x4 x5 x6 x7 (jW x8 x1 (re v2)) x9) (some (T.mk x2 x3 x4 x8))
def jT (m:Nat) (q_exponent_clone:Z22):=qI (λ _ _ _ _ _ _ _ _ _ _=>none) λ ih=>qbs m q_exponent_clone ih
def zc:Nat→Z22:=qg (λ _=>none) λ m q_exponent_clone=>qbu m q_exponent_clone (jT m q_exponent_clone m)
def qcw (m:Nat) (a0:T × Int) (a1:T):Z10 :=
 qa (qu m (re a0.1) (re a1)) λ v1=>some v1
def QE:Nat→((T × Int)→T→Z10):=qg (λ _ _=>none) λ m _=>qcw m
def qD (m:Nat) (K1:Z39) (a0:List (T × Int)) (a1:T):Z37 :=
 K1 a0 (List.length a0) 0 (List.length a0) (T.kind a1) (T.name a1) (T.sort a1) (T.kids a1)
def qE (m:Nat) (K1:Z39) (x0:List (T × Int)) (x1 x2 x3 x4:Int) (x5:List UInt8) (x6:Int) (x7:List (T)):Z37 :=
 cond (ilt x2 x3) (qa (qd x0 (iw .i64 (qmV .u64 (iw .u64 (iw .i64 (qf x2 x3))) 1))) λ v1=>qa (QE m (re v1.1,v1.2) (T.mk x4 x5 x6 x7)) λ v2=>cond (ilt v2 0)
 (K1 x0 x1 (iw .i64 (qf (iw .i64 (qmV .u64 (iw .u64 (iw .i64 (qf x2 x3))) 1)) 1)) x3 x4 x5 x6 x7) (K1 x0 x1 x2 (iw .i64 (qmV .u64 (iw .u64 (iw .i64 (qf x2 x3))) 1)) x4 x5 x6 x7)) (cond (ilt x2 x1)
 (qa (qd x0 x2) λ v3=>qa (QE m (re v3.1,v3.2) (T.mk x4 x5 x6 x7)) λ v4=>some (x2,ieq v4 0)) (some (x2,false)))
def qn (m:Nat):=qI (λ _ _ _ _ _ _ _ _=>none) λ ih=>qE m ih
def qy:Nat→(Z38→T→Z37):=qg (λ _ _=>none) λ m _=>qD m (qn m m)
def qd2 (m:Nat) (a0:List (T × Int)) (a1:T × Int):Z40 :=
 qa (qy m a0 (re a1.1)) λ v1=>cond (qc v1.2) (qa (zc m (re a1.1)) λ v2 =>
 qa (zo 0 a0 v1.1 [(re v2,a1.2)]) λ v3=>some ((()),(v3.2.1,()))) (qa (qd a0 v1.1) λ v4=>qa (qd a0 v1.1) λ v5 =>
 qa (qd (jW a0 v1.1 (re v5.1,iw .i64 (qf v4.2 a1.2))) v1.1) λ v6=>cond (ieq v6.2 0)
 (qa (zp 0 (jW a0 v1.1 (re v5.1,iw .i64 (qf v4.2 a1.2))) v1.1 (iw .i64 (qf v1.1 1))) λ v7=>some ((()),(v7.2.1,())))
 (some ((()),(jW a0 v1.1 (re v5.1,iw .i64 (qf v4.2 a1.2)),()))))
def JC:Nat→(Z38→(T × Int)→Z40):=qg (λ _ _=>none) λ m _=>qd2 m
def qax (m:Nat) (q_exponent_collect:Z42) (K1:Z43) (a0:List (T × Int)) (a1:T) (a2:Int):Z41 :=
 qa (JD m (re a1)) λ v1=>cond (qc v1) (qa (JC m a0 (re a1,a2)) λ v2=>some ((()),(v2.2.1,true,()))) (let j1:Z41:=(some ((()),([],false,())));let j2:Z41 :=
 (let j3:Z41:=(let j4:Z41:=(cond (qC (T.name a1) [105,110,118]) (K1 (iw .i64 (QK 0 a2)) (T.kids a1) (List.length (T.kids a1)) 0 a0) (K1 a2 (T.kids a1) (List.length (T.kids a1)) 0 a0));
 cond (qC (T.name a1) [109,117,108]) (cond (ilt (List.length (T.kids a1)) 2) j1 j4) j4);cond (qC (T.name a1) [105,110,118]) (cond (qc (ieq (List.length (T.kids a1)) 1)) j1 j3) j3);
 cond (qC (T.name a1) [111,110,101]) (cond (qc (ieq (List.length (T.kids a1)) 0)) j1 j2) j2)
def qav (m:Nat) (q_exponent_collect:Z42) (K1:Z43) (x0:Int) (x1:List (T)) (x2 x3:Int) (x4:List (T × Int)):Z41 :=
 cond (ilt x3 x2) (qa (qd x1 x3) λ v1=>qa (q_exponent_collect x4 (re v1) x0) λ v2=>cond (qc v2.2.2.1) (some ((()),([],false,()))) (K1 x0 x1 x2 (iw .i64 (qf x3 1)) v2.2.1))
 (some ((()),(x4,true,())))
def yW (m:Nat) (q_exponent_collect:Z42):=qI (λ _ _ _ _ _=>none) λ ih=>qav m q_exponent_collect ih
def za:Nat→Z42:=qg (λ _ _ _=>none) λ m q_exponent_collect=>qax m q_exponent_collect (yW m q_exponent_collect m)
def qhg (m:Nat) (a0:T):Z44 :=
 qa (zy m (re a0)) λ v1=>cond (qc (ieq v1 0)) (some ([],v1)) (qa (za m [] (re a0) 1) λ v2=>cond (qc v2.2.2.1) (some ([],6)) (cond (ilt 200 (List.length v2.2.1)) (some ([],3))
 (some (v2.2.1,0))))
def J6:Nat→Z45:=qg (λ _=>none) λ m _=>qhg m
def qbr (m:Nat) (K1:Z46) (a0:List (T × Int)):Z10 :=
 cond (ilt 200 (List.length a0)) (some 3) (K1 a0 a0 (List.length a0) 0)
def qbv (m:Nat) (K1:Z46) (x0 x1:List (T × Int)) (x2 x3:Int):Z10 :=
 cond (ilt x3 x2) (qa (qd x1 x3) λ v1=>qa (zy m (re v1.1)) λ v2=>cond (qc (ieq v2 0)) (some v2) (qa (JD m (re v1.1)) λ v3=>cond v3 (some 1) (cond (ieq v1.2 0) (some 7)
 (cond (ilt v1.2 (-1000)) (some 7) (cond (ilt 1000 v1.2) (some 7) (cond (ilt 0 x3) (qa (qd x0 (iw .i64 (QK x3 1))) λ v4=>qa (qu m (re v4.1) (re v1.1)) λ v5=>cond (ile 0 v5) (some 5)
 (K1 x0 x1 x2 (iw .i64 (qf x3 1)))) (K1 x0 x1 x2 (iw .i64 (qf x3 1))))))))) (some 0)
def jo (m:Nat):=qI (λ _ _ _ _=>none) λ ih=>qbv m ih
def Jc:Nat→Z47:=qg (λ _=>none) λ m _=>qbr m (jo m m)
def qte (m:Nat) (a0:Y8) (a1:TL):Z21 :=
 some (T.mk 3 a0 0 a1)
def qbJ:Nat→Z48:=qg (λ _ _=>none) λ m _=>qte m
def qcv (m:Nat) (K1:Z49) (K2 K3:Z50) (a0:List (T × Int)):Z30 :=
 qa (Jc m a0) λ v1=>cond (qc (ieq v1 0)) (some (T.mk 0 [] 0 [],v1)) (K1 a0 (List.length a0) 0 0 [] 0 [] [] [])
def qb4 (m:Nat) (K1:Z49) (K2 K3:Z50) (x0:List (T × Int)) (x1 x2 x3:Int) (x4:List UInt8) (x5:Int) (x6 x7 x8:List (T)):Z30 :=
 let j1:Z30:=(some (T.mk 0 [] 0 [],3));cond (ilt x2 x1) (qa (qd x0 x2) λ v1=>cond (ilt 8 v1.2) j1 (cond (ilt v1.2 (-8)) j1 (K2 x0 x1 x2 v1.2 0 x3 x4 x5 (T.kind v1.1) (T.name v1.1) (T.sort v1.1)
 (T.kids v1.1) v1.2 x6 x7 x8))) (qa (zf m [x7,x8]) λ v2=>cond (ilt 8 (List.length v2)) j1 (qa (qbJ m [109,117,108] v2) λ v3=>cond (ieq (List.length v2) 0)
 (qa (qbJ m [111,110,101] []) λ v4=>qa (zy m (re v4)) λ v5=>cond (qc (ieq v5 0)) (some (T.mk 0 [] 0 [],v5)) (some (re v4,0))) (cond (ieq (List.length v2) 1)
 (qa (qd v2 0) λ v6=>qa (zy m (re v6)) λ v7=>cond (qc (ieq v7 0)) (some (T.mk 0 [] 0 [],v7)) (some (re v6,0))) (qa (zy m (re v3)) λ v8=>cond (qc (ieq v8 0))
 (some (T.mk 0 [] 0 [],v8)) (some (re v3,0))))))
def qch (m:Nat) (K1:Z49) (K2 K3:Z50) (x0:List (T × Int)) (x1 x2 x3 x4 x5:Int) (x6:List UInt8) (x7 x8:Int) (x9:List UInt8) (x10:Int) (x11:List (T)) (x12:Int) (x13 x14 x15:List (T)):Z30 :=
 cond (ilt x4 x3) (qa (zc m (T.mk x8 x9 x10 x11)) λ v1=>cond (zD (List.length x14+1) 56) (K2 x0 x1 x2 x3 (iw .i64 (qf x4 1)) x5 x6 x7 x8 x9 x10 x11 x12 x13 (x14++[re v1]) x15) none)
 (K3 x0 x1 x2 (iw .i64 (QK 0 x12)) 0 x5 x6 x7 x8 x9 x10 x11 x12 x13 x14 x15)
def qcp (m:Nat) (K1:Z49) (K2 K3:Z50) (x0:List (T × Int)) (x1 x2 x3 x4 x5:Int) (x6:List UInt8) (x7 x8:Int) (x9:List UInt8) (x10:Int) (x11:List (T)) (x12:Int) (x13 x14 x15:List (T)):Z30 :=
 cond (ilt x4 x3) (qa (zc m (T.mk x8 x9 x10 x11)) λ v1=>qa (qbJ m [105,110,118] [re v1]) λ v2=>cond (zD (List.length x15+1) 56)
 (K3 x0 x1 x2 x3 (iw .i64 (qf x4 1)) x5 x6 x7 x8 x9 x10 x11 x12 x13 x14 (x15++[re v2])) none) (K1 x0 x1 (iw .i64 (qf x2 1)) x5 x6 x7 x13 x14 x15)
def qw (m:Nat):=qI ((λ _ _ _ _ _ _ _ _ _=>none,λ _ _ _ _ _ _ _ _ _ _ _ _ _ _ _ _=>none,λ _ _ _ _ _ _ _ _ _ _ _ _ _ _ _ _=>none)) λ ih=>(qb4 m ih.1 ih.2.1 ih.2.2,qch m ih.1 ih.2.1 ih.2.2,qcp m ih.1 ih.2.1 ih.2.2)
def jM:Nat→Z51:=qg (λ _=>none) λ m _=>qcv m (qw m m).1 (qw m m).2.1 (qw m m).2.2
def qaL (m:Nat) (K1:Z52) (a0:List (T × Int)):Z40 :=
 K1 a0 (List.length a0) 0 []
def qaW (m:Nat) (K1:Z52) (x0:List (T × Int)) (x1 x2:Int) (x3:List (T × Int)):Z40 :=
 cond (ilt x2 x1) (qa (qd x0 x2) λ v1=>qa (zc m (re v1.1)) λ v2=>cond (zD (List.length x3+1) 64) (K1 x0 x1 (iw .i64 (qf x2 1)) (x3++[(re v2,v1.2)])) none) (some ((()),(x3,())))
def jC (m:Nat):=qI (λ _ _ _ _=>none) λ ih=>qaW m ih
def qa1:Nat→(Z38→Z40):=qg (λ _=>none) λ m _=>qaL m (jC m m)
def qci (m:Nat) (a0:T × Int):Z1 :=
 cond (ilt a0.2 (-1000)) (some true) (some (ilt 1000 a0.2))
def JN:Nat→((T × Int)→Z1):=qg (λ _=>none) λ m _=>qci m
def zq (m:Nat) (K1:Z53) (a0:List (T × Int)):Z10 :=
 K1 a0 (List.length a0) 0
def qR (m:Nat) (K1:Z53) (x0:List (T × Int)) (x1 x2:Int):Z10 :=
 cond (ilt x2 x1) (qa (qd x0 x2) λ v1=>qa (JN m (re v1.1,v1.2)) λ v2=>cond v2 (some x2) (K1 x0 x1 (iw .i64 (qf x2 1)))) (some (-1))
def qx (m:Nat):=qI (λ _ _ _=>none) λ ih=>qR m ih
def qZ:Nat→Z47:=qg (λ _=>none) λ m _=>zq m (qx m m)
def zP (m:Nat) (a0:List (T × Int)):Z1 :=
 qa (qZ m a0) λ v1=>some (ile 0 v1)
def qT:Nat→(Z38→Z1):=qg (λ _=>none) λ m _=>zP m
def qdP (m:Nat) (a0:List (T × Int)):Z44 :=
 qa (qT m a0) λ v1=>cond v1 (some ([],7)) (cond (ilt 200 (List.length a0)) (some ([],3)) (some (a0,0)))
def qaX:Nat→(Z38→Z44):=qg (λ _=>none) λ m _=>qdP m
def qcZ (m:Nat) (K1:Z54) (a0 a1:List (T × Int)):Z44 :=
 qa (Jc m a0) λ v1=>cond (qc (ieq v1 0)) (some ([],v1)) (qa (Jc m a1) λ v2=>cond (qc (ieq v2 0)) (some ([],v2)) (qa (qa1 m a0) λ v3 =>
 K1 a1 (List.length a1) 0 v3.2.1))
def qc3 (m:Nat) (K1:Z54) (x0:List (T × Int)) (x1 x2:Int) (x3:List (T × Int)):Z44 :=
 cond (ilt x2 x1) (qa (qd x0 x2) λ v1=>qa (JC m x3 (re v1.1,v1.2)) λ v2=>K1 x0 x1 (iw .i64 (qf x2 1)) v2.2.1) (qa (qaX m x3) λ v3=>some (v3.1,v3.2))
def QY (m:Nat):=qI (λ _ _ _ _=>none) λ ih=>qc3 m ih
def qdy:Nat→Z55:=qg (λ _ _=>none) λ m _=>qcZ m (QY m m)
def qxs (m:Nat) (a0:Y8) (a1:TL):Z21 :=
 some (T.mk 3 a0 0 a1)
def qem:Nat→Z48:=qg (λ _ _=>none) λ m _=>qxs m
def qga (m:Nat) (a0 a1:T):Z30 :=
 qa (J6 m (re a1)) λ v1=>cond (qc (ieq v1.2 0)) (some (T.mk 0 [] 0 [],v1.2)) (qa (yD m (re a0) [101,120,112]) λ v2=>cond v2 (qa (qd (T.kids a0) 1) λ v3 =>
 qa (J6 m (re v3)) λ v4=>cond (qc (ieq v4.2 0)) (some (T.mk 0 [] 0 [],v4.2)) (qa (qdy m v4.1 v1.1) λ v5=>cond (qc (ieq v5.2 0)) (some (T.mk 0 [] 0 [],v5.2))
 (qa (qd (T.kids a0) 0) λ v6=>cond (ieq (List.length v5.1) 0) (some (re v6,0)) (qa (jM m v5.1) λ v7=>cond (qc (ieq v7.2 0)) (some (T.mk 0 [] 0 [],v7.2))
 (qa (qem m [101,120,112] [re v6,re v7.1]) λ v8=>some (re v8,0)))))) (cond (ieq (List.length v1.1) 0) (some (re a0,0)) (qa (jM m v1.1) λ v9=>cond (qc (ieq v9.2 0))
 (some (T.mk 0 [] 0 [],v9.2)) (qa (qem m [101,120,112] [re a0,re v9.1]) λ v10=>some (re v10,0)))))
def qdq:Nat→Z56:=qg (λ _ _=>none) λ m _=>qga m
def qcc (m:Nat) (q_theory_normal:Z57) (K1:Z58) (a0:T):Z30 :=
 cond (qc (ieq (T.kind a0) 3)) (some (re a0,0)) (K1 (T.kids a0) (List.length (T.kids a0)) 0 (T.kind a0) (T.name a0) (T.sort a0) (T.kids a0) 0 [] 0 3 (T.name a0) 0 [] [])
def qb3 (m:Nat) (q_theory_normal:Z57) (K1:Z58) (x0:List (T)) (x1 x2 x3:Int) (x4:List UInt8) (x5:Int) (x6:List (T)) (x7:Int) (x8:List UInt8) (x9 x10:Int) (x11:List UInt8) (x12:Int) (x13 x14:List (T)):Z30 :=
 cond (ilt x2 x1) (qa (qd x0 x2) λ v1=>qa (q_theory_normal (re v1)) λ v2=>cond (qc (ieq v2.2 0)) (some (T.mk 0 [] 0 [],v2.2)) (cond (zD (List.length x14+1) 56)
 (K1 x0 x1 (iw .i64 (qf x2 1)) x3 x4 x5 x6 x7 x8 x9 x10 x11 x12 x13 (x14++[re v2.1])) none)) (let j1:Z30:=(qa (J9 m (T.mk x10 x11 x12 x14)) λ v3=>some (re v3,0));
 cond (qC x4 [102,115,116]) j1 (cond (qC x4 [115,110,100]) j1 (cond (qC x4 [100,101,99]) j1 (cond (qC x4 [97,100,101,99]) j1 (cond (qC x4 [111,112,101,110]) j1 (cond (qC x4 [114,101,97,100]) j1 (cond (qC x4 [120,111,114])
 (qa (qlN m x14) λ v9=>some (re v9.1,v9.2)) (let j2:Z30:=(qa (J6 m (T.mk x10 x11 x12 x14)) λ v10=>cond (qc (ieq v10.2 0)) (some (T.mk 0 [] 0 [],v10.2))
 (qa (jM m v10.1) λ v11=>some (re v11.1,v11.2)));cond (qC x4 [109,117,108]) j2 (cond (qC x4 [105,110,118]) j2 (cond (qC x4 [111,110,101]) j2 (cond (qC x4 [101,120,112])
 (qa (qd x14 0) λ v16=>qa (qd x14 1) λ v17=>qa (qdq m (re v16) (re v17)) λ v18=>some (re v18.1,v18.2)) (some (T.mk x10 x11 x12 x14,0)))))))))))))
def Qw (m:Nat) (q_theory_normal:Z57):=qI (λ _ _ _ _ _ _ _ _ _ _ _ _ _ _ _=>none) λ ih=>qb3 m q_theory_normal ih
def zR:Nat→Z57:=qg (λ _=>none) λ m q_theory_normal=>qcc m q_theory_normal (Qw m q_theory_normal m)
def qfI (m:Nat) (a0:T):Z30 :=
 qa (qdr m (re a0)) λ v1=>cond (qc (ieq v1 0)) (some (T.mk 0 [] 0 [],v1)) (qa (zR m (re a0)) λ v2=>cond (ieq v2.2 0) (qa (zy m (re v2.1)) λ v3=>cond (qc (ieq v3 0))
 (some (T.mk 0 [] 0 [],v3)) (some (re v2.1,0))) (cond (qc (ieq v2.2 0)) (some (T.mk 0 [] 0 [],v2.2)) (some (re v2.1,0))))
def qcG:Nat→Z57:=qg (λ _=>none) λ m _=>qfI m
def qeM (m:Nat) (a0:Y8):Z1 :=
 qa (qaJ m a0) λ v1=>some (qc (ieq v1.2.2.2 3))
def qbM:Nat→Z5:=qg (λ _=>none) λ m _=>qeM m
def JB (m:Nat) (q_theory_every_of_94:Z35) (K1:Z59) (a0:T):Z1 :=
 cond (ieq (T.kind a0) 3) (qa (qbM m (T.name a0)) λ v1=>cond (qc v1) (some false) (K1 (T.kids a0) (List.length (T.kids a0)) 0)) (K1 (T.kids a0) (List.length (T.kids a0)) 0)
def Jx (m:Nat) (q_theory_every_of_94:Z35) (K1:Z59) (x0:List (T)) (x1 x2:Int):Z1 :=
 cond (ilt x2 x1) (qa (qd x0 x2) λ v1=>qa (q_theory_every_of_94 (re v1)) λ v2=>cond (qc v2) (some false) (K1 x0 x1 (iw .i64 (qf x2 1)))) (some true)
def yk (m:Nat) (q_theory_every_of_94:Z35):=qI (λ _ _ _=>none) λ ih=>Jx m q_theory_every_of_94 ih
def qJ:Nat→Z35:=qg (λ _=>none) λ m q_theory_every_of_94=>JB m q_theory_every_of_94 (yk m q_theory_every_of_94 m)
def qgl (m:Nat) (a0:T):Z1 :=
 qa (qcG m (re a0)) λ v1=>cond (ieq v1.2 0) (qa (Qn m (re v1.1) (re a0)) λ v2=>cond v2 (qa (qJ m (re a0)) λ v3=>some v3) (some false)) (some false)
def qdO:Nat→Z35:=qg (λ _=>none) λ m _=>qgl m
def qaz (m:Nat) (a0:T) (a1:Int) (a2:List (T)):Z60 :=
 cond (ieq (T.kind a0) a1) (cond (zD (List.length a2+1) 56) (qa (qd (a2++[T.mk 0 [] 0 []]) (List.length a2)) λ v1=>some ((a1,jW (a2++[T.mk 0 [] 0 []]) (List.length a2) (re a0),()),(()))) none)
 (some ((a1,a2,()),(())))
def QB:Nat→Z61:=qg (λ _ _ _=>none) λ m _=>qaz m
def JY (m:Nat) (q_term_walk_of_128c:Z61) (K1:Z62) (a0:T) (a1_0:Int) (a1_1:List (T)):Z60 :=
 qa (QB m (re a0) a1_0 a1_1) λ v1=>K1 (T.kids a0) (List.length (T.kids a0)) 0 v1.1.1 v1.1.2.1
def J5 (m:Nat) (q_term_walk_of_128c:Z61) (K1:Z62) (x0:List (T)) (x1 x2 x3:Int) (x4:List (T)):Z60 :=
 cond (ilt x2 x1) (qa (qd x0 x2) λ v1=>qa (q_term_walk_of_128c (re v1) x3 x4) λ v2=>K1 x0 x1 (iw .i64 (qf x2 1)) v2.1.1 v2.1.2.1) (some ((x3,x4,()),(())))
def jd (m:Nat) (q_term_walk_of_128c:Z61):=qI (λ _ _ _ _ _=>none) λ ih=>J5 m q_term_walk_of_128c ih
def zb:Nat→Z61:=qg (λ _ _ _=>none) λ m q_term_walk_of_128c=>JY m q_term_walk_of_128c (jd m q_term_walk_of_128c m)
def qV:Nat→List (T)→Option (List (T)):=qg (λ _=>none) λ m _=>qpC (qu m)
def qeG (m:Nat) (a0 a1:T):Z1 :=
 qa (qu m (re a0) (re a1)) λ v1=>some (ieq v1 0)
def yg:Nat→Z20:=qg (λ _ _=>none) λ m _=>qeG m
def qF:Nat→List (T)→Option (Unit × List (T) × Unit):=qg (λ _=>none) λ m _=>qsU (yg m)
def qdd (m:Nat) (K1:Z64) (a0:List (T)):Z63 :=
 qa (qV m a0) λ v1=>cond (Nat.beq (List.length v1) (List.length a0)) (qa (qF m v1) λ v2=>K1 (List.length v2.2.1) 0 v2.2.1) none
def qdn (m:Nat) (K1:Z64) (x0 x1:Int) (x2:List (T)):Z63 :=
 cond (ilt x1 x0) (qa (qd x2 x1) λ v1=>qa (yo m (re v1)) λ v2=>qa (qd x2 x1) λ v3=>K1 x0 (iw .i64 (qf x1 1)) (jW x2 x1 (re v2))) (some ((()),(x2,())))
def Ja (m:Nat):=qI (λ _ _ _=>none) λ ih=>qdn m ih
def qdJ:Nat→(Z8→Z63):=qg (λ _=>none) λ m _=>qdd m (Ja m m)
def qg3 (m:Nat) (a0:T) (a1:Int):Z23 :=
 qa (zb m (re a0) a1 []) λ v1=>qa (qdJ m v1.1.2.1) λ v2=>some v2.2.1
def qhO:Nat→(T→Int→Z23):=qg (λ _ _=>none) λ m _=>qg3 m
def qjM (m:Nat) (a0:T):Z23 :=
 qa (qhO m (re a0) 1) λ v1=>some v1
def qh3:Nat→Z27:=qg (λ _=>none) λ m _=>qjM m
def qfC (m:Nat) (a0:T):Z1 :=
 qa (qdO m (re a0)) λ v1=>cond v1 (qa (qh3 m (re a0)) λ v2=>some (ieq (List.length v2) 0)) (some false)
def jR:Nat→Z35:=qg (λ _=>none) λ m _=>qfC m
def qiT (m:Nat) (K1:Z65) (a0:T) (a1:List Int):Z30 :=
 K1 a1 (List.length a1) 0 (T.kind a0) (T.name a0) (T.sort a0) (T.kids a0) 0 [] 0 []
def qna (m:Nat) (K1:Z65) (x0:List (Int)) (x1 x2 x3:Int) (x4:List UInt8) (x5:Int) (x6:List (T)) (x7:Int) (x8:List UInt8) (x9:Int) (x10:List (T)):Z30 :=
 cond (ilt x2 x1) (qa (qd x0 x2) λ v1=>cond (ilt v1 0) (some (T.mk 0 [] 0 [],7)) (cond (ile (List.length x6) v1) (some (T.mk 0 [] 0 [],7)) (qa (qd x6 v1) λ v2=>K1 x0 x1 (iw .i64 (qf x2 1))
 (T.kind v2) (T.name v2) (T.sort v2) (T.kids v2) x7 x8 x9 x10))) (qa (yo m (T.mk x3 x4 x5 x6)) λ v3=>some (re v3,0))
def qfM (m:Nat):=qI (λ _ _ _ _ _ _ _ _ _ _ _=>none) λ ih=>qna m ih
def qlk:Nat→(T→(List Int)→Z30):=qg (λ _ _=>none) λ m _=>qiT m (qfM m m)
def qeI (m:Nat) (a0:T):Z21 :=
 qa (qlk m (re a0) []) λ v1=>some (re v1.1)
def yQ:Nat→Z22:=qg (λ _=>none) λ m _=>qeI m
def quk (m:Nat) (a0:T):Z66 :=
 qa (jR m (re a0)) λ v1=>cond (qc v1) (some ((T.mk 0 [] 0 [],(0,([],0))),10)) (qa (yQ m (re a0)) λ v2=>some ((re v2,(0,([],4))),0))
def qk7:Nat→Z67:=qg (λ _=>none) λ m _=>quk m
def qdv (m:Nat) (a0 a1:T):Z21 :=
 qa (yQ m (re a0)) λ v1=>qa (yQ m (re a1)) λ v2=>some (T.mk 3 [104,97,115,104] 0 [T.mk 3 [112,97,105,114] 0 [re v1,re v2]])
def Jz:Nat→(T→T→Z21):=qg (λ _ _=>none) λ m _=>qdv m
def quu (m:Nat) (a0:Y8):Z21 :=
 some (T.mk 2 a0 5 [])
def qe0:Nat→(Y8→Z21):=qg (λ _=>none) λ m _=>quu m
def qf8 (m:Nat) (a0:T):Z21 :=
 qa (qe0 m [99,104,97,105,110]) λ v1=>qa (Jz m (re a0) (re v1)) λ v2=>some (re v2)
def qbO:Nat→Z22:=qg (λ _=>none) λ m _=>qf8 m
def qhi (m:Nat) (a0:T):Z21 :=
 qa (qe0 m [109,101,115,115,97,103,101]) λ v1=>qa (Jz m (re a0) (re v1)) λ v2=>some (re v2)
def qcO:Nat→Z22:=qg (λ _=>none) λ m _=>qhi m
def qlD (m:Nat) (K1:Z68) (a0:T) (a1:Int):Z30 :=
 qa (jR m (re a0)) λ v1=>cond (qc v1) (some (T.mk 0 [] 0 [],10)) (cond (ilt a1 0) (some (T.mk 0 [] 0 [],7)) (cond (ile 1000 a1) (some (T.mk 0 [] 0 [],7)) (qa (yQ m (re a0)) λ v2 =>
 K1 a1 0 0 [] 0 (T.kind v2) (T.name v2) (T.sort v2) (T.kids v2) [])))
def qvb (m:Nat) (K1:Z68) (x0 x1 x2:Int) (x3:List UInt8) (x4 x5:Int) (x6:List UInt8) (x7:Int) (x8 x9:List (T)):Z30 :=
 cond (ilt x1 x0) (qa (qbO m (T.mk x5 x6 x7 x8)) λ v1=>qa (zy m (re v1)) λ v2=>cond (qc (ieq v2 0)) (some (T.mk 0 [] 0 [],3)) (K1 x0 (iw .i64 (qf x1 1)) x2 x3 x4 (T.kind v1)
 (T.name v1) (T.sort v1) (T.kids v1) x9)) (qa (qcO m (T.mk x5 x6 x7 x8)) λ v3=>qa (zy m (re v3)) λ v4=>cond (qc (ieq v4 0)) (some (T.mk 0 [] 0 [],3)) (some (re v3,0)))
def qnj (m:Nat):=qI (λ _ _ _ _ _ _ _ _ _ _=>none) λ ih=>qvb m ih
def qhL:Nat→(T→Int→Z30):=qg (λ _ _=>none) λ m _=>qlD m (qnj m m)
def qgj (m:Nat) (a0 a1:Int):Z10 :=
 cond (ilt a0 a1) (some (-1)) (cond (ilt a1 a0) (some 1) (some 0))
def Js:Nat→(Int→Int→Z10):=qg (λ _ _=>none) λ m _=>qgj m
def qff (m:Nat) (q_ref01_Size:Z11) (K1:Z69) (a0:T):Z10 :=
 K1 1 0 (T.kind a0) (T.name a0) (T.sort a0) (T.kids a0)
def qfd (m:Nat) (q_ref01_Size:Z11) (K1:Z69) (x0 x1 x2:Int) (x3:List UInt8) (x4:Int) (x5:List (T)):Z10 :=
 cond (ilt x1 (List.length x5)) (qa (qd x5 x1) λ v1=>qa (q_ref01_Size (re v1)) λ v2=>K1 (iw .i64 (qf x0 v2)) (iw .i64 (qf x1 1)) x2 x3 x4 x5) (some x0)
def qak (m:Nat) (q_ref01_Size:Z11):=qI (λ _ _ _ _ _ _=>none) λ ih=>qfd m q_ref01_Size ih
def yK:Nat→Z11:=qg (λ _=>none) λ m q_ref01_Size=>qff m q_ref01_Size (qak m q_ref01_Size m)
def qcn (m:Nat) (q_ref01_Compare:Z18) (K1:Z70) (a0 a1:T):Z10 :=
 qa (yK m (re a0)) λ v1=>qa (yK m (re a1)) λ v2=>qa (Js m v1 v2) λ v3=>cond (qc (ieq v3 0)) (some v3) (qa (Js m (T.kind a0) (T.kind a1)) λ v4 =>
 cond (qc (ieq v4 0)) (some v4) (cond (slt (T.name a0) (T.name a1)) (some (-1)) (cond (qc (qob (slt (T.name a0) (T.name a1)) (qC (T.name a0) (T.name a1)))) (some 1) (qa (Js m (T.sort a0)
 (T.sort a1)) λ v5=>cond (qc (ieq v5 0)) (some v5) (qa (Js m (List.length (T.kids a0)) (List.length (T.kids a1))) λ v6=>cond (qc (ieq v6 0)) (some v6) (K1 0 (T.kind a0) (T.name a0) (T.sort a0)
 (T.kids a0) (T.kind a1) (T.name a1) (T.sort a1) (T.kids a1)))))))
def qb2 (m:Nat) (q_ref01_Compare:Z18) (K1:Z70) (x0 x1:Int) (x2:List UInt8) (x3:Int) (x4:List (T)) (x5:Int) (x6:List UInt8) (x7:Int) (x8:List (T)):Z10 :=
 cond (ilt x0 (List.length x4)) (qa (qd x4 x0) λ v1=>qa (qd x8 x0) λ v2=>qa (q_ref01_Compare (re v1) (re v2)) λ v3=>cond (qc (ieq v3 0)) (some v3)
 (K1 (iw .i64 (qf x0 1)) x1 x2 x3 x4 x5 x6 x7 x8)) (some 0)
def Qz (m:Nat) (q_ref01_Compare:Z18):=qI (λ _ _ _ _ _ _ _ _ _=>none) λ ih=>qb2 m q_ref01_Compare ih
def zl:Nat→Z18:=qg (λ _ _=>none) λ m q_ref01_Compare=>qcn m q_ref01_Compare (Qz m q_ref01_Compare m)
def qic (m:Nat) (a0 a1:T):Z1 :=
 qa (zl m (re a0) (re a1)) λ v1=>some (ieq v1 0)
def yI:Nat→Z20:=qg (λ _ _=>none) λ m _=>qic m
def qcs (m:Nat) (K1:Z72) (a0:T × (Int × ((List (Int × T)) × Int))):Z10 :=
 qa (jR m (re a0.1)) λ v1=>cond (qc v1) (some 1) (cond (ilt a0.2.1 0) (some 1) (cond (ilt 1000 a0.2.1) (some 1) (cond (ilt a0.2.2.2 0) (some 1) (cond (ilt 8 a0.2.2.2) (some 1)
 (cond (ilt a0.2.2.2 (List.length a0.2.2.1)) (some 1) (K1 (-1) a0.2.2.1 (List.length a0.2.2.1) 0 (T.kind a0.1) (T.name a0.1) (T.sort a0.1) (T.kids a0.1) a0.2.1 a0.2.2.1 a0.2.2.2))))))
def qb8 (m:Nat) (K1:Z72) (x0:Int) (x1:List (Int × T)) (x2 x3 x4:Int) (x5:List UInt8) (x6:Int) (x7:List (T)) (x8:Int) (x9:List (Int × T)) (x10:Int):Z10 :=
 cond (ilt x3 x2) (qa (qd x1 x3) λ v1=>cond (ile v1.1 x0) (some 1) (cond (ile x8 v1.1) (some 1) (qa (jR m (re v1.2)) λ v2=>cond (qc v2) (some 1)
 (K1 v1.1 x1 x2 (iw .i64 (qf x3 1)) x4 x5 x6 x7 x8 x9 x10)))) (some 0)
def Qt (m:Nat):=qI (λ _ _ _ _ _ _ _ _ _ _ _=>none) λ ih=>qb8 m ih
def qaG:Nat→Z74:=qg (λ _=>none) λ m _=>qcs m (Qt m m)
def qen (m:Nat) (K1:Z76) (a0:T × (Int × ((List (Int × T)) × Int))):Z75 :=
 qa (yQ m (re a0.1)) λ v1=>K1 a0.2.2.1 (List.length a0.2.2.1) 0 (T.kind v1) (T.name v1) (T.sort v1) (T.kids v1) a0.2.1 a0.2.2.1 a0.2.2.2 0 [] 0 0 0 [] [] []
def qeh (m:Nat) (K1:Z76) (x0:List (Int × T)) (x1 x2 x3:Int) (x4:List UInt8) (x5:Int) (x6:List (T)) (x7:Int) (x8:List (Int × T)) (x9 x10:Int) (x11:List UInt8) (x12 x13 x14:Int) (x15:List (T)) (x16 x17:List (Int × T)):Z75 :=
 cond (ilt x2 x1) (qa (qd x0 x2) λ v1=>qa (yQ m (re v1.2)) λ v2=>cond (zD (List.length x17+1) 64)
 (K1 x0 x1 (iw .i64 (qf x2 1)) x3 x4 x5 x6 x7 x8 x9 x10 x11 x12 x13 x14 x15 x16 (x17++[(v1.1,re v2)])) none) (some ((()),((T.mk x3 x4 x5 x6,x7,x17,x9,()),())))
def JF (m:Nat):=qI (λ _ _ _ _ _ _ _ _ _ _ _ _ _ _ _ _ _ _=>none) λ ih=>qeh m ih
def qeT:Nat→(Z73→Z75):=qg (λ _=>none) λ m _=>qen m (JF m m)
def qeJ (m:Nat) (a0 a1:T):Z77 :=
 let j1:Z77:=(some (T.mk 0 [] 0 [],false));cond (qc (ieq (T.kind a0) 3)) j1 (cond (qc (qC (T.name a0) [101,110,99])) j1 (qa (qd (T.kids a0) 1) λ v1=>qa (qu m (re v1)
 (re a1)) λ v2=>cond (qc (ieq v2 0)) j1 (qa (qd (T.kids a0) 0) λ v3=>qa (yQ m (re v3)) λ v4=>some (re v4,true))))
def qaa:Nat→Z78:=qg (λ _ _=>none) λ m _=>qeJ m
def qaS (m:Nat) (K1:Z80) (a0:T × (Int × ((List (Int × T)) × Int))) (a1:Int × T):Z79 :=
 qa (qaG m (re a0.1,(a0.2.1,(a0.2.2.1,a0.2.2.2)))) λ v1=>cond (qc (ieq v1 0)) (some ((T.mk 0 [] 0 [],(0,([],0))),T.mk 0 [] 0 [],1)) (qa (jR m (re a1.2)) λ v2=>cond (qc v2)
 (some ((T.mk 0 [] 0 [],(0,([],0))),T.mk 0 [] 0 [],10)) (qa (qeT m (re a0.1,(a0.2.1,(a0.2.2.1,a0.2.2.2)))) λ v3=>cond (ilt a1.1 a0.2.1)
 (qa (zg 0 v3.2.1.2.2.1 (a1.1,re a1.2)) λ v4=>cond (ilt v4 0) (some ((T.mk 0 [] 0 [],(0,([],0))),T.mk 0 [] 0 [],21)) (qa (qd v3.2.1.2.2.1 v4) λ v5 =>
 qa (qaa m (re a1.2) (re v5.2)) λ v6=>cond (qc v6.2) (some ((T.mk 0 [] 0 [],(0,([],0))),T.mk 0 [] 0 [],11))
 (qa (zA 0 v3.2.1.2.2.1 v4 (iw .i64 (qf v4 1))) λ v7=>some ((re v3.2.1.1,(v3.2.1.2.1,(v7.2.1,v3.2.1.2.2.2.1))),re v6.1,0)))) (cond (ilt (iw .i64 (qf a0.2.1 a0.2.2.2)) a1.1)
 (some ((T.mk 0 [] 0 [],(0,([],0))),T.mk 0 [] 0 [],7)) (cond (ile 1000 a1.1) (some ((T.mk 0 [] 0 [],(0,([],0))),T.mk 0 [] 0 [],7)) (K1 a1.1 (T.kind a1.2) (T.name a1.2) (T.sort a1.2)
 (T.kids a1.2) 0 [] 0 0 0 0 [] 0 (T.kind v3.2.1.1) (T.name v3.2.1.1) (T.sort v3.2.1.1) (T.kids v3.2.1.1) v3.2.1.2.1 v3.2.1.2.2.2.1 [] [] [] v3.2.1.2.2.1)))))
def qaM (m:Nat) (K1:Z80) (x0 x1:Int) (x2:List UInt8) (x3:Int) (x4:List (T)) (x5:Int) (x6:List UInt8) (x7 x8 x9 x10:Int) (x11:List UInt8) (x12 x13:Int) (x14:List UInt8) (x15:Int) (x16:List (T)) (x17 x18:Int) (x19:List (T)) (x20:List (Int × T)) (x21:List (T)) (x22:List (Int × T)):Z79 :=
 qa (qcO m (T.mk x13 x14 x15 x16)) λ v1=>qa (qbO m (T.mk x13 x14 x15 x16)) λ v2=>qa (zy m (re v1)) λ v3=>cond (qc (ieq v3 0))
 (some ((T.mk 0 [] 0 [],(0,([],0))),T.mk 0 [] 0 [],3)) (qa (zy m (re v2)) λ v4=>cond (qc (ieq v4 0)) (some ((T.mk 0 [] 0 [],(0,([],0))),T.mk 0 [] 0 [],3)) (cond (ieq x17 x0)
 (qa (qaa m (T.mk x1 x2 x3 x4) (re v1)) λ v5=>cond (qc v5.2) (some ((T.mk 0 [] 0 [],(0,([],0))),T.mk 0 [] 0 [],11)) (some ((re v2,(iw .i64 (qf x17 1),(x22,x18))),re v5.1,0)))
 (cond (zD (List.length x22+1) 64) (cond (ilt x18 (List.length (x22++[(x17,re v1)]))) (cond (inb 1 (List.length (x22++[(x17,re v1)]))) (K1 x0 x1 x2 x3 x4 x5 x6 x7 x8 x9 x10 x11 x12 (T.kind v2) (T.name v2)
 (T.sort v2) (T.kids v2) (iw .i64 (qf x17 1)) x18 x19 x20 x21 (List.drop (Int.toNat 1) (x22++[(x17,re v1)]))) none) (K1 x0 x1 x2 x3 x4 x5 x6 x7 x8 x9 x10 x11 x12 (T.kind v2) (T.name v2) (T.sort v2) (T.kids v2)
 (iw .i64 (qf x17 1)) x18 x19 x20 x21 (x22++[(x17,re v1)]))) none)))
def jD (m:Nat):=qI (λ _ _ _ _ _ _ _ _ _ _ _ _ _ _ _ _ _ _ _ _ _ _ _=>none) λ ih=>qaM m ih
def jI:Nat→Z81:=qg (λ _ _=>none) λ m _=>qaS m (jD m m)
def qwQ (m:Nat) (a0:Y8) (a1:Int):Z21 :=
 some (T.mk 2 a0 a1 [])
def qgV:Nat→(Y8→Int→Z21):=qg (λ _ _=>none) λ m _=>qwQ m
def qxf (m:Nat):Z21 :=
 qa (qgV m [114] 2) λ v1=>some (re v1)
def qey:Nat→(Z21):=qg (none) λ m _=>qxf m
def qgm (m:Nat) (a0:Int):Z1 :=
 let j1:Z1:=(cond (ile 65 a0) (some (ile a0 90)) (some false));cond (ile 97 a0) (cond (ile a0 122) (some true) j1) j1
def qap:Nat→Z2:=qg (λ _=>none) λ m _=>qgm m
def qhD (m:Nat) (a0:Int):Z1 :=
 cond (ile 48 a0) (some (ile a0 57)) (some false)
def qcQ:Nat→Z2:=qg (λ _=>none) λ m _=>qhD m
def qnf (m:Nat) (K1:Z83) (a0:Y8):Z82 :=
 K1 a0 0
def qwR (m:Nat) (K1:Z83) (x0:List UInt8) (x1:Int):Z82 :=
 let j1:Z82:=(cond (inb x1 (List.length x0)) (cond (inb 0 (Int.toNat x1)) (some (zS x0 0 x1)) none) none);cond (ilt x1 (List.length x0)) (qa (qd x0 x1) λ v1 =>
 qa (qap m ((UInt8.toNat v1:Nat):Int)) λ v2=>let j2:Z82:=(K1 x0 (iw .i64 (qf x1 1)));cond v2 j2 (qa (qd x0 x1) λ v3=>qa (qcQ m ((UInt8.toNat v3:Nat):Int)) λ v4 =>
 cond v4 j2 (qa (qd x0 x1) λ v5=>cond (ieq ((UInt8.toNat v5:Nat):Int) 95) j2 (qa (qd x0 x1) λ v6=>cond (ieq ((UInt8.toNat v6:Nat):Int) 35) j2 j1)))) j1
def qoj (m:Nat):=qI (λ _ _=>none) λ ih=>qwR m ih
def qgf:Nat→(Y8→Z82):=qg (λ _=>none) λ m _=>qnf m (qoj m m)
def qdo (m:Nat) (K1:Z84) (a0:Y8):Z1 :=
 cond (ieq (List.length a0) 0) (some false) (cond (ilt 24 (List.length a0)) (some false) (qa (qd a0 0) λ v1=>qa (qap m ((UInt8.toNat v1:Nat):Int)) λ v2=>cond (qc v2) (some false) (K1 a0 0)))
def qdm (m:Nat) (K1:Z84) (x0:List UInt8) (x1:Int):Z1 :=
 cond (ilt x1 (List.length x0)) (qa (qd x0 x1) λ v1=>qa (qap m ((UInt8.toNat v1:Nat):Int)) λ v2=>let j1:Z1:=(K1 x0 (iw .i64 (qf x1 1)));cond (qc v2) (qa (qd x0 x1) λ v3 =>
 qa (qcQ m ((UInt8.toNat v3:Nat):Int)) λ v4=>cond (qc v4) (qa (qd x0 x1) λ v5=>cond (qc (ieq ((UInt8.toNat v5:Nat):Int) 95)) (qa (qd x0 x1) λ v6 =>
 cond (qc (ieq ((UInt8.toNat v6:Nat):Int) 35)) (some false) j1) j1) j1) j1) (some true)
def QR (m:Nat):=qI (λ _ _=>none) λ ih=>qdm m ih
def Qy:Nat→Z5:=qg (λ _=>none) λ m _=>qdo m (QR m m)
def qxn (m:Nat) (a0:Int):Z82 :=
 qa (qd [[97,110,121],[97,103,101,110,116],[110,111,110,99,101],[107,101,121],[100,97,116,97],[116,97,103]] a0) λ v1=>some v1
def qmr:Nat→(Int→Z82):=qg (λ _=>none) λ m _=>qxn m
def qnF (m:Nat) (K1:Z86) (a0:T) (a1:Y8):Z85 :=
 cond (ieq (List.length a1) 0) (some (re a0,a1,ieq (T.kind a0) 1)) (qa (qd a1 0) λ v1=>cond (qc (ieq ((UInt8.toNat v1:Nat):Int) 58)) (some (re a0,a1,ieq (T.kind a0) 1)) (cond (inb (List.length a1)
 (List.length a1)) (cond (inb 1 (Int.toNat (List.length a1))) (qa (qgf m (zS a1 1 (List.length a1))) λ v2=>K1 a1 v2 0 (T.kind a0) (T.name a0) (T.sort a0) (T.kids a0) 0 [] 0 []) none) none))
def qwr (m:Nat) (K1:Z86) (x0 x1:List UInt8) (x2 x3:Int) (x4:List UInt8) (x5:Int) (x6:List (T)) (x7:Int) (x8:List UInt8) (x9:Int) (x10:List (T)):Z85 :=
 cond (ile x2 5) (qa (qmr m x2) λ v1=>cond (qC x1 v1) (let j1:Z85:=(cond (inb (List.length x0) (List.length x0)) (cond (inb (iw .i64 (qf 1 (List.length x1))) (Int.toNat (List.length x0)))
 (some (T.mk x3 x4 x2 x6,zS x0 (iw .i64 (qf 1 (List.length x1))) (List.length x0),true)) none) none);cond (qc (ieq x2 0)) j1 (cond (ieq x3 2) j1 (K1 x0 x1 (iw .i64 (qf x2 1)) x3 x4 x5 x6 x7 x8 x9 x10)))
 (K1 x0 x1 (iw .i64 (qf x2 1)) x3 x4 x5 x6 x7 x8 x9 x10)) (some (T.mk x3 x4 x5 x6,x0,false))
def qo7 (m:Nat):=qI (λ _ _ _ _ _ _ _ _ _ _ _=>none) λ ih=>qwr m ih
def qiP:Nat→(T→Y8→Z85):=qg (λ _ _=>none) λ m _=>qnF m (qo7 m m)
def qnE (m:Nat) (q_ref01_read:Z87) (K1:Z88) (a0:Y8) (a1:Int):Z85 :=
 let j1:Z85:=(qa (qgf m a0) λ v5=>qa (Qy m v5) λ v6=>cond (qc v6) (some (T.mk 2 v5 0 [],a0,false)) (cond (ieq a1 0) (some (T.mk 2 v5 0 [],a0,false)) (cond (inb (List.length a0)
 (List.length a0)) (cond (inb (List.length v5) (Int.toNat (List.length a0))) (let j2:Z85:=(qa (qiP m (T.mk 2 v5 0 []) (zS a0 (List.length v5) (List.length a0))) λ v7 =>
 some (re v7.1,v7.2.1,v7.2.2));cond (ieq (List.length (zS a0 (List.length v5) (List.length a0))) 0) j2 (qa (qd (zS a0 (List.length v5) (List.length a0)) 0) λ v8 =>
 cond (qc (ieq ((UInt8.toNat v8:Nat):Int) 40)) j2 (cond (inb (List.length (zS a0 (List.length v5) (List.length a0))) (List.length (zS a0 (List.length v5) (List.length a0))))
 (cond (inb 1 (Int.toNat (List.length (zS a0 (List.length v5) (List.length a0))))) (K1 (zS (zS a0 (List.length v5) (List.length a0)) 1 (List.length (zS a0 (List.length v5)
 (List.length a0)))) a1 0 [] 0 3 v5 0 [] []) none) none))) none) none)));cond (ilt 0 (List.length a0)) (qa (qd a0 0) λ v1=>cond (ieq ((UInt8.toNat v1:Nat):Int) 63) (cond (inb (List.length a0)
 (List.length a0)) (cond (inb 1 (Int.toNat (List.length a0))) (qa (qgf m (zS a0 1 (List.length a0))) λ v2=>qa (Qy m v2) λ v3=>cond (qc v3)
 (some (T.mk 1 v2 0 [],zS a0 1 (List.length a0),false)) (cond (ieq a1 0) (some (T.mk 1 v2 0 [],zS a0 1 (List.length a0),false)) (cond (inb (List.length (zS a0 1 (List.length a0)))
 (List.length (zS a0 1 (List.length a0)))) (cond (inb (List.length v2) (Int.toNat (List.length (zS a0 1 (List.length a0))))) (qa (qiP m (T.mk 1 v2 0 []) (zS (zS a0 1 (List.length a0)) (List.length v2)
 (List.length (zS a0 1 (List.length a0))))) λ v4=>some (re v4.1,v4.2.1,v4.2.2)) none) none))) none) none) j1) j1
def qwC (m:Nat) (q_ref01_read:Z87) (K1:Z88) (x0:List UInt8) (x1 x2:Int) (x3:List UInt8) (x4 x5:Int) (x6:List UInt8) (x7:Int) (x8 x9:List (T)):Z85 :=
 let j1:Z85:=(some (T.mk x5 x6 x7 x9,x0,false));let j2:Z85:=(cond (ieq (List.length x0) 0) j1 (cond (inb (List.length x0) (List.length x0)) (cond (inb 1 (Int.toNat (List.length x0)))
 (some (T.mk x5 x6 x7 x9,zS x0 1 (List.length x0),true)) none) none));cond (ilt 0 (List.length x0)) (qa (qd x0 0) λ v1=>cond (qc (ieq ((UInt8.toNat v1:Nat):Int) 41)) (cond (ilt 0 (List.length x9))
 (cond (ilt (List.length x0) 2) j1 (cond (inb 2 (List.length x0)) (cond (inb 0 (Int.toNat 2)) (cond (qc (qC (zS x0 0 2) [44,32])) j1 (cond (inb (List.length x0) (List.length x0))
 (cond (inb 2 (Int.toNat (List.length x0))) (qa (q_ref01_read (zS x0 2 (List.length x0)) (iw .i64 (QK x1 1))) λ v2=>cond (qc v2.2.2) (some (T.mk x5 x6 x7 x9,zS x0 2 (List.length x0),false))
 (cond (zD (List.length x9+1) 56) (K1 v2.2.1 x1 x2 x3 x4 x5 x6 x7 x8 (x9++[re v2.1])) none)) none) none)) none) none)) (qa (q_ref01_read x0 (iw .i64 (QK x1 1))) λ v3 =>
 cond (qc v3.2.2) j1 (cond (zD (List.length x9+1) 56) (K1 v3.2.1 x1 x2 x3 x4 x5 x6 x7 x8 (x9++[re v3.1])) none))) j2) j2
def qpa (m:Nat) (q_ref01_read:Z87):=qI (λ _ _ _ _ _ _ _ _ _ _=>none) λ ih=>qwC m q_ref01_read ih
def qf3:Nat→Z87:=qg (λ _ _=>none) λ m q_ref01_read=>qnE m q_ref01_read (qpa m q_ref01_read m)
def qir (m:Nat) (a0:T):Z10 :=
 let j1:Z10:=(qa (Qy m (T.name a0)) λ v1=>cond (qc v1) (some 2) (cond (ilt 8 (List.length (T.kids a0))) (some 3) (some 0)));let j2:Z10:=(cond (ilt 0 (List.length (T.kids a0))) (some 1) j1);
 cond (ieq (T.kind a0) 1) (cond (ilt (T.sort a0) 0) (some 1) (cond (ilt 5 (T.sort a0)) (some 1) j2)) (let j3:Z10:=(cond (ilt (T.sort a0) 0) (some 1) (cond (ilt 5 (T.sort a0)) (some 1) (let j4:Z10 :=
 (cond (ieq (T.kind a0) 2) j2 j1);cond (qc (ieq (T.kind a0) 2)) (cond (qc (ieq (T.sort a0) 0)) (some 1) j4) j4)));cond (qc (ieq (T.kind a0) 2)) (cond (qc (ieq (T.kind a0) 3)) (some 1) j3) j3)
def qgs:Nat→Z11:=qg (λ _=>none) λ m _=>qir m
def qea (m:Nat) (q_ref01_nodes:Z11) (K1:Z89) (a0:T):Z10 :=
 qa (qgs m (re a0)) λ v1=>cond (qc (ieq v1 0)) (some v1) (K1 0 (T.kind a0) (T.name a0) (T.sort a0) (T.kids a0))
def qeo (m:Nat) (q_ref01_nodes:Z11) (K1:Z89) (x0 x1:Int) (x2:List UInt8) (x3:Int) (x4:List (T)):Z10 :=
 cond (ilt x0 (List.length x4)) (qa (qd x4 x0) λ v1=>qa (q_ref01_nodes (re v1)) λ v2=>cond (qc (ieq v2 0)) (some v2) (K1 (iw .i64 (qf x0 1)) x1 x2 x3 x4)) (some 0)
def JI (m:Nat) (q_ref01_nodes:Z11):=qI (λ _ _ _ _ _=>none) λ ih=>qeo m q_ref01_nodes ih
def yT:Nat→Z11:=qg (λ _=>none) λ m q_ref01_nodes=>qea m q_ref01_nodes (JI m q_ref01_nodes m)
def qec (m:Nat) (q_ref01_Depth:Z11) (K1:Z69) (a0:T):Z10 :=
 K1 0 0 (T.kind a0) (T.name a0) (T.sort a0) (T.kids a0)
def qd3 (m:Nat) (q_ref01_Depth:Z11) (K1:Z69) (x0 x1 x2:Int) (x3:List UInt8) (x4:Int) (x5:List (T)):Z10 :=
 cond (ilt x1 (List.length x5)) (qa (qd x5 x1) λ v1=>qa (q_ref01_Depth (re v1)) λ v2=>K1 (qlf x0 v2) (iw .i64 (qf x1 1)) x2 x3 x4 x5) (some (iw .i64 (qf x0 1)))
def JJ (m:Nat) (q_ref01_Depth:Z11):=qI (λ _ _ _ _ _ _=>none) λ ih=>qd3 m q_ref01_Depth ih
def yR:Nat→Z11:=qg (λ _=>none) λ m q_ref01_Depth=>qec m q_ref01_Depth (JJ m q_ref01_Depth m)
def qhk (m:Nat) (a0:T):Z10 :=
 qa (yT m (re a0)) λ v1=>cond (qc (ieq v1 0)) (some v1) (qa (yK m (re a0)) λ v2=>cond (ilt 400 v2) (some 3) (qa (yR m (re a0)) λ v3=>cond (ilt 40 v3) (some 3) (some 0)))
def zM:Nat→Z11:=qg (λ _=>none) λ m _=>qhk m
def quX (m:Nat) (a0:Y8):Z30 :=
 qa (qf3 m a0 800) λ v1=>cond (qc v1.2.2) (some (T.mk 0 [] 0 [],2)) (cond (qc (qC v1.2.1 [])) (some (T.mk 0 [] 0 [],2)) (qa (zM m (re v1.1)) λ v2=>cond (qc (ieq v2 0))
 (some (T.mk 0 [] 0 [],v2)) (some (re v1.1,0))))
def qhH:Nat→(Y8→Z30):=qg (λ _=>none) λ m _=>quX m
def qra (m:Nat):Z90 :=
 some [([112,97,105,114],(2,(2,1))),([101,110,99],(2,(2,1))),([97,101,110,99],(2,(2,1))),([112,107],(1,(1,1))),([115,105,103,110],(2,(2,1))),([104,97,115,104],(1,(1,1))),([120,111,114],(2,(8,1))),([122,101,114,111],(0,(0,1))),([101,120,112],(2,(2,1))),([109,117,108],(2,(8,1))),([105,110,118],(1,(1,1))),([111,110,101],(0,(0,1))),([115,107],(1,(1,2))),([115,104,107],(2,(2,2))),([110,101,119],(1,(8,2))),([102,115,116],(1,(1,3))),([115,110,100],(1,(1,3))),([100,101,99],(2,(2,3))),([97,100,101,99],(2,(2,3))),([111,112,101,110],(2,(2,3))),([114,101,97,100],(1,(1,3)))]
def qfq:Nat→(Z90):=qg (none) λ m _=>qra m
def qfh (m:Nat) (K1:Z91) (a0:Y8):Z10 :=
 qa (qfq m) λ v1=>K1 a0 v1 0
def qfl (m:Nat) (K1:Z91) (x0:List UInt8) (x1:List (Y8 × (Int × (Int × Int)))) (x2:Int):Z10 :=
 cond (ilt x2 (List.length x1)) (qa (qd x1 x2) λ v1=>cond (qC v1.1 x0) (qa (qd x1 x2) λ v2=>some v2.2.2.2) (K1 x0 x1 (iw .i64 (qf x2 1)))) (some 0)
def qae (m:Nat):=qI (λ _ _ _=>none) λ ih=>qfl m ih
def qcd:Nat→(Y8→Z10):=qg (λ _=>none) λ m _=>qfh m (qae m m)
def qfn (m:Nat) (K1:Z92) (a0:T):Z1 :=
 qa (qfq m) λ v1=>K1 v1 0 (T.kind a0) (T.name a0) (T.sort a0) (T.kids a0)
def qe9 (m:Nat) (K1:Z92) (x0:List (Y8 × (Int × (Int × Int)))) (x1 x2:Int) (x3:List UInt8) (x4:Int) (x5:List (T)):Z1 :=
 cond (ilt x1 (List.length x0)) (qa (qd x0 x1) λ v1=>cond (qC v1.1 x3) (qa (qd x0 x1) λ v2=>cond (ile v2.2.1 (List.length x5)) (qa (qd x0 x1) λ v3=>some (ile (List.length x5) v3.2.2.1))
 (some false)) (K1 x0 (iw .i64 (qf x1 1)) x2 x3 x4 x5)) (some false)
def qal (m:Nat):=qI (λ _ _ _ _ _ _=>none) λ ih=>qe9 m ih
def qgo:Nat→Z35:=qg (λ _=>none) λ m _=>qfn m (qal m m)
def qc2 (m:Nat) (K1:Z93) (a0:T):Z1 :=
 cond (qC (T.name a0) [110,101,119]) (qa (qd (T.kids a0) 0) λ v1=>some (ieq (T.kind v1) 2)) (K1 0 (T.kind a0) (T.name a0) (T.sort a0) (T.kids a0))
def qc7 (m:Nat) (K1:Z93) (x0 x1:Int) (x2:List UInt8) (x3:Int) (x4:List (T)):Z1 :=
 cond (ilt x0 (List.length x4)) (qa (qd x4 x0) λ v1=>cond (ieq (T.kind v1) 3) (some false) (qa (qd x4 x0) λ v2=>cond (qc (ieq (T.sort v2) 1)) (some false) (K1 (iw .i64 (qf x0 1)) x1 x2 x3 x4)))
 (some true)
def Q5 (m:Nat):=qI (λ _ _ _ _ _=>none) λ ih=>qc7 m ih
def qdL:Nat→Z35:=qg (λ _=>none) λ m _=>qc2 m (Q5 m m)
def qej (m:Nat) (q_ref09_nodes:Z11) (K1:Z89) (a0:T):Z10 :=
 cond (qc (ieq (T.kind a0) 3)) (some 0) (qa (qcd m (T.name a0)) λ v1=>cond (ieq v1 0) (some 10) (qa (qgo m (re a0)) λ v2=>cond (qc v2) (some 6) (cond (ieq v1 2)
 (qa (qdL m (re a0)) λ v3=>cond (qc v3) (some 10) (K1 0 (T.kind a0) (T.name a0) (T.sort a0) (T.kids a0))) (K1 0 (T.kind a0) (T.name a0) (T.sort a0) (T.kids a0)))))
def qd8 (m:Nat) (q_ref09_nodes:Z11) (K1:Z89) (x0 x1:Int) (x2:List UInt8) (x3:Int) (x4:List (T)):Z10 :=
 cond (ilt x0 (List.length x4)) (qa (qd x4 x0) λ v1=>qa (q_ref09_nodes (re v1)) λ v2=>cond (qc (ieq v2 0)) (some v2) (K1 (iw .i64 (qf x0 1)) x1 x2 x3 x4)) (some 0)
def QH (m:Nat) (q_ref09_nodes:Z11):=qI (λ _ _ _ _ _=>none) λ ih=>qd8 m q_ref09_nodes ih
def yx:Nat→Z11:=qg (λ _=>none) λ m q_ref09_nodes=>qej m q_ref09_nodes (QH m q_ref09_nodes m)
def qhr (m:Nat) (a0:T):Z10 :=
 qa (zM m (re a0)) λ v1=>cond (qc (ieq v1 0)) (some v1) (qa (yx m (re a0)) λ v2=>some v2)
def qeY:Nat→Z11:=qg (λ _=>none) λ m _=>qhr m
def qj5 (m:Nat) (a0:Y8) (a1:TL):Z21 :=
 cond (zD (List.length ([]:List (T))+List.length a1) 56) (qe8 a1 (some (T.mk 3 a0 0 [])) λ v1 v2=>some (T.mk 3 a0 0 ([]++(v1::v2)))) none
def yC:Nat→Z48:=qg (λ _ _=>none) λ m _=>qj5 m
def qli (m:Nat) (a0:T) (a1:Y8):Z1 :=
 cond (ieq (T.kind a0) 3) (some (qC (T.name a0) a1)) (some false)
def JK:Nat→(T→Y8→Z1):=qg (λ _ _=>none) λ m _=>qli m
def qfx (m:Nat) (a0:T):Z77 :=
 qa (qd (T.kids a0) 0) λ v1=>let j1:Z77:=(qa (qd (T.kids v1) 0) λ v3=>some (re v3,true));let j2:Z77:=(let j3:Z77:=(let j4:Z77:=(let j5:Z77:=(let j6:Z77 :=
 (cond (qC (T.name a0) [114,101,97,100]) (qa (JK m (re v1) [115,105,103,110]) λ v23=>cond v23 j1 (some (re a0,false))) (some (re a0,false)));cond (qC (T.name a0) [111,112,101,110])
 (qa (JK m (re v1) [115,105,103,110]) λ v17=>cond v17 (qa (qd (T.kids a0) 1) λ v18=>qa (qd (T.kids v1) 1) λ v19=>qa (yC m [112,107] [re v19]) λ v20 =>
 qa (yI m (re v18) (re v20)) λ v21=>cond v21 j1 j6) j6) j6);cond (qC (T.name a0) [97,100,101,99]) (qa (JK m (re v1) [97,101,110,99]) λ v11 =>
 cond v11 (qa (qd (T.kids v1) 1) λ v12=>qa (qd (T.kids a0) 1) λ v13=>qa (yC m [112,107] [re v13]) λ v14=>qa (yI m (re v12) (re v14)) λ v15=>cond v15 j1 j5) j5) j5);
 cond (qC (T.name a0) [100,101,99]) (qa (JK m (re v1) [101,110,99]) λ v6=>cond v6 (qa (qd (T.kids v1) 1) λ v7=>qa (qd (T.kids a0) 1) λ v8=>qa (yI m (re v7)
 (re v8)) λ v9=>cond v9 j1 j4) j4) j4);cond (qC (T.name a0) [115,110,100]) (qa (JK m (re v1) [112,97,105,114]) λ v4=>cond v4 (qa (qd (T.kids v1) 1) λ v5=>some (re v5,true)) j3) j3);
 cond (qC (T.name a0) [102,115,116]) (qa (JK m (re v1) [112,97,105,114]) λ v2=>cond v2 j1 j2) j2
def qcF:Nat→(T→Z77):=qg (λ _=>none) λ m _=>qfx m
def qgQ (m:Nat) (K1:Z94) (a0:TL) (a1:T):Z1 :=
 K1 a0 0 (T.kind a1) (T.name a1) (T.sort a1) (T.kids a1)
def qgr (m:Nat) (K1:Z94) (x0:List (T)) (x1 x2:Int) (x3:List UInt8) (x4:Int) (x5:List (T)):Z1 :=
 cond (ilt x1 (List.length x0)) (qa (qd x0 x1) λ v1=>qa (yI m (re v1) (T.mk x2 x3 x4 x5)) λ v2=>cond v2 (some true) (K1 x0 (iw .i64 (qf x1 1)) x2 x3 x4 x5)) (some false)
def qbj (m:Nat):=qI (λ _ _ _ _ _ _=>none) λ ih=>qgr m ih
def qhS:Nat→(TL→T→Z1):=qg (λ _ _=>none) λ m _=>qgQ m (qbj m m)
def qgM (m:Nat) (K1:Z95) (a0:TL) (a1:T):Z23 :=
 K1 a0 false 0 (T.kind a1) (T.name a1) (T.sort a1) (T.kids a1) []
def qgR (m:Nat) (K1:Z95) (x0:List (T)) (x1:Bool) (x2 x3:Int) (x4:List UInt8) (x5:Int) (x6 x7:List (T)):Z23 :=
 cond (ilt x2 (List.length x0)) (qa (qd x0 x2) λ v1=>qa (zl m (T.mk x3 x4 x5 x6) (re v1)) λ v2=>let j1:Z23:=(qa (qd x0 x2) λ v5=>cond (zD (List.length x7+1) 56)
 (K1 x0 x1 (iw .i64 (qf x2 1)) x3 x4 x5 x6 (x7++[re v5])) none);cond (qc x1) (cond (ile v2 0) (cond (ilt v2 0) (cond (zD (List.length x7+1) 56) (qa (qd x0 x2) λ v3 =>
 cond (zD (List.length (x7++[T.mk x3 x4 x5 x6])+1) 56) (K1 x0 true (iw .i64 (qf x2 1)) x3 x4 x5 x6 ((x7++[T.mk x3 x4 x5 x6])++[re v3])) none) none) (qa (qd x0 x2) λ v4 =>
 cond (zD (List.length x7+1) 56) (K1 x0 true (iw .i64 (qf x2 1)) x3 x4 x5 x6 (x7++[re v4])) none)) j1) j1) (cond (qc x1) (cond (zD (List.length x7+1) 56) (some (x7++[T.mk x3 x4 x5 x6])) none) (some x7))
def qbe (m:Nat):=qI (λ _ _ _ _ _ _ _ _=>none) λ ih=>qgR m ih
def qf1:Nat→(TL→T→Z23):=qg (λ _ _=>none) λ m _=>qgM m (qbe m m)
def qcY (m:Nat) (K1:Z96) (a0:TL) (a1:T):Z23 :=
 qa (qhS m a0 (re a1)) λ v1=>cond (qc v1) (qa (qf1 m a0 (re a1)) λ v2=>some v2) (K1 a0 0 (T.kind a1) (T.name a1) (T.sort a1) (T.kids a1) [])
def qc0 (m:Nat) (K1:Z96) (x0:List (T)) (x1 x2:Int) (x3:List UInt8) (x4:Int) (x5 x6:List (T)):Z23 :=
 cond (ilt x1 (List.length x0)) (qa (qd x0 x1) λ v1=>qa (yI m (re v1) (T.mk x2 x3 x4 x5)) λ v2=>cond (qc v2) (qa (qd x0 x1) λ v3=>cond (zD (List.length x6+1) 56)
 (K1 x0 (iw .i64 (qf x1 1)) x2 x3 x4 x5 (x6++[re v3])) none) (K1 x0 (iw .i64 (qf x1 1)) x2 x3 x4 x5 x6)) (some x6)
def QX (m:Nat):=qI (λ _ _ _ _ _ _ _=>none) λ ih=>qc0 m ih
def qdY:Nat→(TL→T→Z23):=qg (λ _ _=>none) λ m _=>qcY m (QX m m)
def qfm (m:Nat) (K1:Z97) (a0 a1:TL):Z23 :=
 cond (zD (List.length ([]:List (T))+List.length a0) 56) (qe8 a0 (K1 a1 [] 0) λ v1 v2=>K1 a1 ([]++(v1::v2)) 0) none
def qfu (m:Nat) (K1:Z97) (x0 x1:List (T)) (x2:Int):Z23 :=
 cond (ilt x2 (List.length x0)) (qa (qd x0 x2) λ v1=>qa (qdY m x1 (re v1)) λ v2=>K1 x0 v2 (iw .i64 (qf x2 1))) (some x1)
def Jt (m:Nat):=qI (λ _ _ _=>none) λ ih=>qfu m ih
def qez:Nat→(TL→TL→Z23):=qg (λ _ _=>none) λ m _=>qfm m (Jt m m)
def qbB (m:Nat) (q_ref08_Summands:Z27) (K1:Z98) (a0:T):Z23 :=
 let j1:Z23:=(cond (qc (ieq (T.kind a0) 3)) (some [re a0]) (cond (qc (qC (T.name a0) [120,111,114])) (some [re a0]) (K1 [] 0 (T.kind a0) (T.name a0) (T.sort a0) (T.kids a0))));cond (ieq (T.kind a0) 3)
 (cond (qC (T.name a0) [122,101,114,111]) (cond (ieq (List.length (T.kids a0)) 0) (some []) j1) j1) j1
def qbw (m:Nat) (q_ref08_Summands:Z27) (K1:Z98) (x0:List (T)) (x1 x2:Int) (x3:List UInt8) (x4:Int) (x5:List (T)):Z23 :=
 cond (ilt x1 (List.length x5)) (qa (qd x5 x1) λ v1=>qa (q_ref08_Summands (re v1)) λ v2=>qa (qez m x0 v2) λ v3=>K1 v3 (iw .i64 (qf x1 1)) x2 x3 x4 x5) (some x0)
def jp (m:Nat) (q_ref08_Summands:Z27):=qI (λ _ _ _ _ _ _=>none) λ ih=>qbw m q_ref08_Summands ih
def zx:Nat→Z27:=qg (λ _=>none) λ m q_ref08_Summands=>qbB m q_ref08_Summands (jp m q_ref08_Summands m)
def qer (m:Nat) (K1:Z99) (a0:TL) (a1:T):Z10 :=
 cond (ilt 200 (List.length a0)) (some 3) (K1 a0 0 (T.kind a1) (T.name a1) (T.sort a1) (T.kids a1))
def qep (m:Nat) (K1:Z99) (x0:List (T)) (x1 x2:Int) (x3:List UInt8) (x4:Int) (x5:List (T)):Z10 :=
 cond (ilt x1 (List.length x0)) (qa (qd x0 x1) λ v1=>qa (zM m (re v1)) λ v2=>cond (qc (ieq v2 0)) (some v2) (K1 x0 (iw .i64 (qf x1 1)) x2 x3 x4 x5))
 (qa (zM m (T.mk x2 x3 x4 x5)) λ v3=>some v3)
def JE (m:Nat):=qI (λ _ _ _ _ _ _=>none) λ ih=>qep m ih
def qeX:Nat→(TL→T→Z10):=qg (λ _ _=>none) λ m _=>qer m (JE m m)
def qie (m:Nat):Z21 :=
 qa (yC m [122,101,114,111] []) λ v1=>some (re v1)
def qf6:Nat→(Z21):=qg (none) λ m _=>qie m
def qig (m:Nat) (a0:TL):Z21 :=
 cond (ieq (List.length a0) 0) (qa (yC m [122,101,114,111] []) λ v1=>some (re v1)) (cond (ieq (List.length a0) 1) (qa (qd a0 0) λ v2=>some (re v2))
 (cond (zD (List.length ([]:List (T))+List.length a0) 56) (qe8 a0 (some (T.mk 3 [120,111,114] 0 [])) λ v3 v4=>some (T.mk 3 [120,111,114] 0 ([]++(v3::v4)))) none))
def qgk:Nat→(TL→Z21):=qg (λ _=>none) λ m _=>qig m
def qgd (m:Nat) (K1:qJj) (a0:TL):Z30 :=
 qa (qf6 m) λ v1=>qa (qeX m a0 (re v1)) λ v2=>cond (qc (ieq v2 0)) (some (T.mk 0 [] 0 [],v2)) (K1 a0 [] 0 0 [] 0 [])
def qg0 (m:Nat) (K1:qJj) (x0 x1:List (T)) (x2 x3:Int) (x4:List UInt8) (x5:Int) (x6:List (T)):Z30 :=
 cond (ilt x2 (List.length x0)) (qa (qd x0 x2) λ v1=>qa (zx m (re v1)) λ v2=>qa (qez m x1 v2) λ v3=>K1 x0 v3 (iw .i64 (qf x2 1)) x3 x4 x5 x6) (qa (qgk m x1) λ v4 =>
 qa (zM m (re v4)) λ v5=>cond (qc (ieq v5 0)) (some (T.mk 0 [] 0 [],3)) (some (re v4,0)))
def qa7 (m:Nat):=qI (λ _ _ _ _ _ _ _=>none) λ ih=>qg0 m ih
def qib:Nat→(TL→Z30):=qg (λ _=>none) λ m _=>qgd m (qa7 m m)
def qfw (m:Nat) (a0:T):Z1 :=
 cond (ieq (T.kind a0) 3) (cond (qC (T.name a0) [109,117,108]) (some true) (cond (qC (T.name a0) [105,110,118]) (some true) (some (qC (T.name a0) [111,110,101])))) (some false)
def JL:Nat→Z35:=qg (λ _=>none) λ m _=>qfw m
def qef (m:Nat) (q_ref06_arity:Z35) (K1:qJk) (a0:T):Z1 :=
 qa (JL m (re a0)) λ v1=>cond (qc v1) (some true) (let j1:Z1:=(let j2:Z1:=(cond (qC (T.name a0) [111,110,101]) (cond (qc (ieq (List.length (T.kids a0)) 0)) (some false)
 (K1 (List.length (T.kids a0)) 0 (T.kind a0) (T.name a0) (T.sort a0) (T.kids a0))) (K1 (List.length (T.kids a0)) 0 (T.kind a0) (T.name a0) (T.sort a0) (T.kids a0)));cond (qC (T.name a0) [105,110,118])
 (cond (qc (ieq (List.length (T.kids a0)) 1)) (some false) j2) j2);cond (qC (T.name a0) [109,117,108]) (cond (ilt (List.length (T.kids a0)) 2) (some false) j1) j1)
def qd6 (m:Nat) (q_ref06_arity:Z35) (K1:qJk) (x0 x1 x2:Int) (x3:List UInt8) (x4:Int) (x5:List (T)):Z1 :=
 cond (ilt x1 x0) (qa (qd x5 x1) λ v1=>qa (q_ref06_arity (re v1)) λ v2=>cond (qc v2) (some false) (K1 x0 (iw .i64 (qf x1 1)) x2 x3 x4 x5)) (some true)
def QG (m:Nat) (q_ref06_arity:Z35):=qI (λ _ _ _ _ _ _=>none) λ ih=>qd6 m q_ref06_arity ih
def yw:Nat→Z35:=qg (λ _=>none) λ m q_ref06_arity=>qef m q_ref06_arity (QG m q_ref06_arity m)
def qgZ (m:Nat) (K1:qJz) (a0:List (T × Int)) (a1:T) (a2:Int):Z40 :=
 K1 a2 false 0 (T.kind a1) (T.name a1) (T.sort a1) (T.kids a1) a0 []
def qgA (m:Nat) (K1:qJz) (x0:Int) (x1:Bool) (x2 x3:Int) (x4:List UInt8) (x5:Int) (x6:List (T)) (x7 x8:List (T × Int)):Z40 :=
 cond (ilt x2 (List.length x7)) (qa (qd x7 x2) λ v1=>qa (zl m (T.mk x3 x4 x5 x6) (re v1.1)) λ v2=>let j1:Z40:=(qa (qd x7 x2) λ v4=>cond (ieq v2 0)
 (cond (qc (ieq (iw .i64 (qf v4.2 x0)) 0)) (cond (zD (List.length x8+1) 64) (K1 x0 true (iw .i64 (qf x2 1)) x3 x4 x5 x6 x7 (x8++[(re v4.1,iw .i64 (qf v4.2 x0))])) none)
 (K1 x0 true (iw .i64 (qf x2 1)) x3 x4 x5 x6 x7 x8)) (cond (qc (ieq v4.2 0)) (cond (zD (List.length x8+1) 64) (K1 x0 x1 (iw .i64 (qf x2 1)) x3 x4 x5 x6 x7 (x8++[(re v4.1,v4.2)])) none)
 (K1 x0 x1 (iw .i64 (qf x2 1)) x3 x4 x5 x6 x7 x8)));cond (qc x1) (cond (ilt v2 0) (cond (zD (List.length x8+1) 64) (qa (qd x7 x2) λ v3=>cond (ieq v2 0) (cond (qc (ieq (iw .i64 (qf v3.2 x0)) 0))
 (cond (zD (List.length (x8++[(T.mk x3 x4 x5 x6,x0)])+1) 64) (K1 x0 true (iw .i64 (qf x2 1)) x3 x4 x5 x6 x7 ((x8++[(T.mk x3 x4 x5 x6,x0)])++[(re v3.1,iw .i64 (qf v3.2 x0))])) none)
 (K1 x0 true (iw .i64 (qf x2 1)) x3 x4 x5 x6 x7 (x8++[(T.mk x3 x4 x5 x6,x0)]))) (cond (qc (ieq v3.2 0)) (cond (zD (List.length (x8++[(T.mk x3 x4 x5 x6,x0)])+1) 64)
 (K1 x0 true (iw .i64 (qf x2 1)) x3 x4 x5 x6 x7 ((x8++[(T.mk x3 x4 x5 x6,x0)])++[(re v3.1,v3.2)])) none) (K1 x0 true (iw .i64 (qf x2 1)) x3 x4 x5 x6 x7 (x8++[(T.mk x3 x4 x5 x6,x0)])))) none) j1) j1)
 (cond (qc x1) (cond (zD (List.length x8+1) 64) (some ((()),(x8++[(T.mk x3 x4 x5 x6,x0)],()))) none) (some ((()),(x8,()))))
def Jm (m:Nat):=qI (λ _ _ _ _ _ _ _ _ _=>none) λ ih=>qgA m ih
def qfL:Nat→qz6:=qg (λ _ _ _=>none) λ m _=>qgZ m (Jm m m)
def qb7 (m:Nat) (q_ref06_collect:qz6) (K1:qJ9) (a0:List (T × Int)) (a1:T) (a2:Int):Z40 :=
 qa (JL m (re a1)) λ v1=>cond (qc v1) (qa (qfL m a0 (re a1) a2) λ v2=>some ((()),(v2.2.1,()))) (cond (qC (T.name a1) [105,110,118]) (K1 (iw .i64 (QK 0 a2)) 0 (T.kind a1)
 (T.name a1) (T.sort a1) (T.kids a1) a0) (K1 a2 0 (T.kind a1) (T.name a1) (T.sort a1) (T.kids a1) a0))
def qce (m:Nat) (q_ref06_collect:qz6) (K1:qJ9) (x0 x1 x2:Int) (x3:List UInt8) (x4:Int) (x5:List (T)) (x6:List (T × Int)):Z40 :=
 cond (ilt x1 (List.length x5)) (qa (qd x5 x1) λ v1=>qa (q_ref06_collect x6 (re v1) x0) λ v2=>K1 x0 (iw .i64 (qf x1 1)) x2 x3 x4 x5 v2.2.1) (some ((()),(x6,())))
def jH (m:Nat) (q_ref06_collect:qz6):=qI (λ _ _ _ _ _ _ _=>none) λ ih=>qce m q_ref06_collect ih
def zK:Nat→qz6:=qg (λ _ _ _=>none) λ m q_ref06_collect=>qb7 m q_ref06_collect (jH m q_ref06_collect m)
def qk5 (m:Nat) (a0:T):Z44 :=
 qa (zM m (re a0)) λ v1=>cond (qc (ieq v1 0)) (some ([],v1)) (qa (yw m (re a0)) λ v2=>cond (qc v2) (some ([],6)) (qa (zK m [] (re a0) 1) λ v3 =>
 cond (ilt 200 (List.length v3.2.1)) (some ([],3)) (some (v3.2.1,0))))
def qfH:Nat→Z45:=qg (λ _=>none) λ m _=>qk5 m
def qed (m:Nat) (K1:qDT) (a0:List (T × Int)):Z10 :=
 cond (ilt 200 (List.length a0)) (some 3) (K1 a0 0)
def qd5 (m:Nat) (K1:qDT) (x0:List (T × Int)) (x1:Int):Z10 :=
 cond (ilt x1 (List.length x0)) (qa (qd x0 x1) λ v1=>qa (zM m (re v1.1)) λ v2=>cond (qc (ieq v2 0)) (some v2) (qa (qd x0 x1) λ v3=>qa (JL m (re v3.1)) λ v4 =>
 cond v4 (some 1) (qa (qd x0 x1) λ v5=>cond (ieq v5.2 0) (some 7) (qa (qd x0 x1) λ v6=>cond (ilt v6.2 (-1000)) (some 7) (qa (qd x0 x1) λ v7=>cond (ilt 1000 v7.2) (some 7) (cond (ilt 0 x1)
 (qa (qd x0 (iw .i64 (QK x1 1))) λ v8=>qa (qd x0 x1) λ v9=>qa (zl m (re v8.1) (re v9.1)) λ v10=>cond (ile 0 v10) (some 5) (K1 x0 (iw .i64 (qf x1 1))))
 (K1 x0 (iw .i64 (qf x1 1))))))))) (some 0)
def QF (m:Nat):=qI (λ _ _=>none) λ ih=>qd5 m ih
def qbk:Nat→Z47:=qg (λ _=>none) λ m _=>qed m (QF m m)
def qbx (m:Nat) (K1:qld) (K2:qla) (K3:qld) (K4:qla) (a0:List (T × Int)):Z23 :=
 K1 a0 0 []
def qbq (m:Nat) (K1:qld) (K2:qla) (K3:qld) (K4:qla) (x0:List (T × Int)) (x1:Int) (x2:List (T)):Z23 :=
 cond (ilt x1 (List.length x0)) (K2 x0 x1 0 x2) (K3 x0 0 x2)
def qbp (m:Nat) (K1:qld) (K2:qla) (K3:qld) (K4:qla) (x0:List (T × Int)) (x1 x2:Int) (x3:List (T)):Z23 :=
 qa (qd x0 x1) λ v1=>cond (ilt x2 v1.2) (cond (ilt (List.length x3) 9) (qa (qd x0 x1) λ v2=>cond (zD (List.length x3+1) 56) (K2 x0 x1 (iw .i64 (qf x2 1)) (x3++[re v2.1])) none)
 (K1 x0 (iw .i64 (qf x1 1)) x3)) (K1 x0 (iw .i64 (qf x1 1)) x3)
def qbz (m:Nat) (K1:qld) (K2:qla) (K3:qld) (K4:qla) (x0:List (T × Int)) (x1:Int) (x2:List (T)):Z23 :=
 cond (ilt x1 (List.length x0)) (K4 x0 x1 0 x2) (some x2)
def qbt (m:Nat) (K1:qld) (K2:qla) (K3:qld) (K4:qla) (x0:List (T × Int)) (x1 x2:Int) (x3:List (T)):Z23 :=
 qa (qd x0 x1) λ v1=>cond (ilt x2 (iw .i64 (QK 0 v1.2))) (cond (ilt (List.length x3) 9) (qa (qd x0 x1) λ v2=>qa (yC m [105,110,118] [re v2.1]) λ v3=>cond (zD (List.length x3+1) 56)
 (K4 x0 x1 (iw .i64 (qf x2 1)) (x3++[re v3])) none) (K3 x0 (iw .i64 (qf x1 1)) x3)) (K3 x0 (iw .i64 (qf x1 1)) x3)
def qk (m:Nat):=qI ((λ _ _ _=>none,λ _ _ _ _=>none,λ _ _ _=>none,λ _ _ _ _=>none)) λ ih=>(qbq m ih.1 ih.2.1 ih.2.2.1 ih.2.2.2,qbp m ih.1 ih.2.1 ih.2.2.1 ih.2.2.2,qbz m ih.1 ih.2.1 ih.2.2.1 ih.2.2.2,qbt m ih.1 ih.2.1 ih.2.2.1 ih.2.2.2)
def qbE:Nat→(Z38→Z23):=qg (λ _=>none) λ m _=>qbx m (qk m m).1 (qk m m).2.1 (qk m m).2.2.1 (qk m m).2.2.2
def qih (m:Nat) (a0:List (T × Int)):Z30 :=
 qa (qbk m a0) λ v1=>cond (qc (ieq v1 0)) (some (T.mk 0 [] 0 [],v1)) (qa (qbE m a0) λ v2=>cond (ilt 8 (List.length v2)) (some (T.mk 0 [] 0 [],3))
 (qa (yC m [109,117,108] v2) λ v3=>let j1:Z30:=(qa (qd v2 0) λ v5=>qa (zM m (re v5)) λ v6=>cond (qc (ieq v6 0)) (some (T.mk 0 [] 0 [],v6)) (some (re v5,0)));
 cond (ieq (List.length v2) 0) (qa (yC m [111,110,101] []) λ v4=>cond (ieq (List.length v2) 1) j1 (qa (zM m (re v4)) λ v7=>cond (qc (ieq v7 0)) (some (T.mk 0 [] 0 [],v7))
 (some (re v4,0)))) (cond (ieq (List.length v2) 1) j1 (qa (zM m (re v3)) λ v10=>cond (qc (ieq v10 0)) (some (T.mk 0 [] 0 [],v10)) (some (re v3,0))))))
def qa6:Nat→Z51:=qg (λ _=>none) λ m _=>qih m
def qfA (m:Nat) (a0:T):Z30 :=
 qa (qfH m (re a0)) λ v1=>cond (qc (ieq v1.2 0)) (some (T.mk 0 [] 0 [],v1.2)) (qa (qa6 m v1.1) λ v2=>some (re v2.1,v2.2))
def qaI:Nat→Z57:=qg (λ _=>none) λ m _=>qfA m
def qcg (m:Nat) (K1:qDT) (a0:List (T × Int)):Z10 :=
 K1 a0 0
def qcx (m:Nat) (K1:qDT) (x0:List (T × Int)) (x1:Int):Z10 :=
 cond (ilt x1 (List.length x0)) (qa (qd x0 x1) λ v1=>cond (ilt v1.2 (-1000)) (some 7) (qa (qd x0 x1) λ v2=>cond (ilt 1000 v2.2) (some 7) (K1 x0 (iw .i64 (qf x1 1))))) (cond (ilt 200 (List.length x0))
 (some 3) (some 0))
def Qu (m:Nat):=qI (λ _ _=>none) λ ih=>qcx m ih
def qcC:Nat→Z47:=qg (λ _=>none) λ m _=>qcg m (Qu m m)
def qgq (m:Nat) (K1:qJQ) (a0 a1:List (T × Int)):Z44 :=
 qa (qbk m a0) λ v1=>cond (qc (ieq v1 0)) (some ([],v1)) (qa (qbk m a1) λ v2=>cond (qc (ieq v2 0)) (some ([],v2)) (cond (zD (List.length ([]:List (T × Int))+List.length a0) 64)
 (qe8 a0 (K1 a1 0 []) λ v3 v4=>K1 a1 0 ([]++(v3::v4))) none))
def qgP (m:Nat) (K1:qJQ) (x0:List (T × Int)) (x1:Int) (x2:List (T × Int)):Z44 :=
 cond (ilt x1 (List.length x0)) (qa (qd x0 x1) λ v1=>qa (qd x0 x1) λ v2=>qa (qfL m x2 (re v1.1) v2.2) λ v3=>K1 x0 (iw .i64 (qf x1 1)) v3.2.1) (qa (qcC m x2) λ v4 =>
 cond (qc (ieq v4 0)) (some ([],v4)) (some (x2,0)))
def J8 (m:Nat):=qI (λ _ _ _=>none) λ ih=>qgP m ih
def qhP:Nat→Z55:=qg (λ _ _=>none) λ m _=>qgq m (J8 m m)
def qhd (m:Nat) (a0 a1:T):Z30 :=
 qa (qfH m (re a1)) λ v1=>cond (qc (ieq v1.2 0)) (some (T.mk 0 [] 0 [],v1.2)) (qa (JK m (re a0) [101,120,112]) λ v2=>cond v2 (qa (qd (T.kids a0) 1) λ v3 =>
 qa (qfH m (re v3)) λ v4=>cond (qc (ieq v4.2 0)) (some (T.mk 0 [] 0 [],v4.2)) (qa (qhP m v4.1 v1.1) λ v5=>cond (qc (ieq v5.2 0)) (some (T.mk 0 [] 0 [],v5.2))
 (qa (qd (T.kids a0) 0) λ v6=>cond (ieq (List.length v5.1) 0) (some (re v6,0)) (qa (qa6 m v5.1) λ v7=>cond (qc (ieq v7.2 0)) (some (T.mk 0 [] 0 [],v7.2))
 (qa (yC m [101,120,112] [re v6,re v7.1]) λ v8=>some (re v8,0)))))) (cond (ieq (List.length v1.1) 0) (some (re a0,0)) (qa (qa6 m v1.1) λ v9=>cond (qc (ieq v9.2 0))
 (some (T.mk 0 [] 0 [],v9.2)) (qa (yC m [101,120,112] [re a0,re v9.1]) λ v10=>some (re v10,0)))))
def qe2:Nat→Z56:=qg (λ _ _=>none) λ m _=>qhd m
def qda (m:Nat) (q_ref09_normal:Z57) (K1:qJL) (a0:T):Z30 :=
 cond (qc (ieq (T.kind a0) 3)) (some (re a0,0)) (K1 0 (T.kind a0) (T.name a0) (T.sort a0) (T.kids a0) 0 [] 0 [] [])
def qdk (m:Nat) (q_ref09_normal:Z57) (K1:qJL) (x0 x1:Int) (x2:List UInt8) (x3:Int) (x4:List (T)) (x5:Int) (x6:List UInt8) (x7:Int) (x8 x9:List (T)):Z30 :=
 cond (ilt x0 (List.length x4)) (qa (qd x4 x0) λ v1=>qa (q_ref09_normal (re v1)) λ v2=>cond (qc (ieq v2.2 0)) (some (T.mk 0 [] 0 [],v2.2)) (cond (zD (List.length x9+1) 56)
 (K1 (iw .i64 (qf x0 1)) x1 x2 x3 x4 x5 x6 x7 x8 (x9++[re v2.1])) none)) (qa (yC m x2 x9) λ v3=>qa (qcd m x2) λ v4=>cond (ieq v4 3) (qa (qcF m (re v3)) λ v5 =>
 some (re v5.1,0)) (cond (qC x2 [120,111,114]) (qa (qib m x9) λ v6=>some (re v6.1,v6.2)) (let j1:Z30:=(qa (qaI m (re v3)) λ v7=>some (re v7.1,v7.2));
 cond (qC x2 [109,117,108]) j1 (cond (qC x2 [105,110,118]) j1 (cond (qC x2 [111,110,101]) j1 (cond (qC x2 [101,120,112]) (qa (qd x9 0) λ v10=>qa (qd x9 1) λ v11 =>
 qa (qe2 m (re v10) (re v11)) λ v12=>some (re v12.1,v12.2)) (some (re v3,0))))))))
def Q8 (m:Nat) (q_ref09_normal:Z57):=qI (λ _ _ _ _ _ _ _ _ _ _=>none) λ ih=>qdk m q_ref09_normal ih
def yl:Nat→Z57:=qg (λ _=>none) λ m q_ref09_normal=>qda m q_ref09_normal (Q8 m q_ref09_normal m)
def qgc (m:Nat) (a0:T):Z30 :=
 qa (qeY m (re a0)) λ v1=>cond (qc (ieq v1 0)) (some (T.mk 0 [] 0 [],v1)) (qa (yl m (re a0)) λ v2=>cond (qc (ieq v2.2 0)) (some (T.mk 0 [] 0 [],v2.2))
 (qa (zM m (re v2.1)) λ v3=>cond (qc (ieq v3 0)) (some (T.mk 0 [] 0 [],v3)) (some (re v2.1,0))))
def qdX:Nat→Z57:=qg (λ _=>none) λ m _=>qgc m
def qgW (m:Nat) (q_ref01_All:Z27) (K1:qJK) (a0:T):Z23 :=
 K1 0 (T.kind a0) (T.name a0) (T.sort a0) (T.kids a0) [re a0]
def qgT (m:Nat) (q_ref01_All:Z27) (K1:qJK) (x0 x1:Int) (x2:List UInt8) (x3:Int) (x4 x5:List (T)):Z23 :=
 cond (ilt x0 (List.length x4)) (qa (qd x4 x0) λ v1=>qa (q_ref01_All (re v1)) λ v2=>cond (zD (List.length x5+List.length v2) 56) (K1 (iw .i64 (qf x0 1)) x1 x2 x3 x4 (x5++v2)) none) (some x5)
def qbl (m:Nat) (q_ref01_All:Z27):=qI (λ _ _ _ _ _ _=>none) λ ih=>qgT m q_ref01_All ih
def jr:Nat→Z27:=qg (λ _=>none) λ m q_ref01_All=>qgW m q_ref01_All (qbl m q_ref01_All m)
def qee (m:Nat) (K1:qJh) (a0:T):Z1 :=
 qa (qdX m (re a0)) λ v1=>cond (qc (ieq v1.2 0)) (some false) (qa (yI m (re a0) (re v1.1)) λ v2=>cond (qc v2) (some false) (qa (jr m (re a0)) λ v3=>K1 v3 0))
def qex (m:Nat) (K1:qJh) (x0:List (T)) (x1:Int):Z1 :=
 cond (ilt x1 (List.length x0)) (qa (qd x0 x1) λ v1=>cond (ieq (T.kind v1) 3) (qa (qd x0 x1) λ v2=>qa (qcd m (T.name v2)) λ v3=>cond (ieq v3 3) (some false) (K1 x0 (iw .i64 (qf x1 1))))
 (K1 x0 (iw .i64 (qf x1 1)))) (some true)
def JM (m:Nat):=qI (λ _ _=>none) λ ih=>qex m ih
def qeV:Nat→Z35:=qg (λ _=>none) λ m _=>qee m (JM m m)
def qge (m:Nat) (K1:Z97) (a0:TL):Z23 :=
 K1 a0 [] 0
def qf7 (m:Nat) (K1:Z97) (x0 x1:List (T)) (x2:Int):Z23 :=
 cond (ilt x2 (List.length x0)) (qa (qd x0 x2) λ v1=>qa (qf1 m x1 (re v1)) λ v2=>K1 x0 v2 (iw .i64 (qf x2 1))) (some x1)
def qbm (m:Nat):=qI (λ _ _ _=>none) λ ih=>qf7 m ih
def qhR:Nat→Z32:=qg (λ _=>none) λ m _=>qge m (qbm m m)
def qfk (m:Nat) (K1:qJP) (a0:T) (a1:Int):Z23 :=
 qa (jr m (re a0)) λ v1=>K1 a1 v1 0 []
def qfa (m:Nat) (K1:qJP) (x0:Int) (x1:List (T)) (x2:Int) (x3:List (T)):Z23 :=
 cond (ilt x2 (List.length x1)) (qa (qd x1 x2) λ v1=>cond (ieq (T.kind v1) x0) (qa (qd x1 x2) λ v2=>cond (zD (List.length x3+1) 56) (K1 x0 x1 (iw .i64 (qf x2 1)) (x3++[re v2])) none)
 (K1 x0 x1 (iw .i64 (qf x2 1)) x3)) (qa (qhR m x3) λ v3=>some v3)
def qat (m:Nat):=qI (λ _ _ _ _=>none) λ ih=>qfa m ih
def qgE:Nat→(T→Int→Z23):=qg (λ _ _=>none) λ m _=>qfk m (qat m m)
def qii (m:Nat) (a0:T):Z23 :=
 qa (qgE m (re a0) 1) λ v1=>some v1
def qf9:Nat→Z27:=qg (λ _=>none) λ m _=>qii m
def qgv (m:Nat) (a0:T):Z1 :=
 qa (qf9 m (re a0)) λ v1=>some (ieq (List.length v1) 0)
def qdp:Nat→Z35:=qg (λ _=>none) λ m _=>qgv m
def qgg (m:Nat) (a0:T):Z1 :=
 qa (qeV m (re a0)) λ v1=>cond v1 (qa (qdp m (re a0)) λ v2=>some v2) (some false)
def Qo:Nat→Z35:=qg (λ _=>none) λ m _=>qgg m
def qyz (m:Nat) (a0:T):Z66 :=
 qa (Qo m (re a0)) λ v1=>cond (qc v1) (some ((T.mk 0 [] 0 [],(0,([],0))),10)) (some ((re a0,(0,([],4))),0))
def qoI:Nat→Z67:=qg (λ _=>none) λ m _=>qyz m
def qd4 (m:Nat) (K1:qCM) (a0:T × (Int × ((List (Int × T)) × Int))):Z10 :=
 qa (Qo m (re a0.1)) λ v1=>cond (qc v1) (some 1) (cond (ilt a0.2.1 0) (some 1) (cond (ilt 1000 a0.2.1) (some 1) (cond (ilt a0.2.2.2 0) (some 1) (cond (ilt 8 a0.2.2.2) (some 1)
 (cond (ilt a0.2.2.2 (List.length a0.2.2.1)) (some 1) (K1 (-1) 0 (T.kind a0.1) (T.name a0.1) (T.sort a0.1) (T.kids a0.1) a0.2.1 a0.2.2.1 a0.2.2.2))))))
def qeD (m:Nat) (K1:qCM) (x0 x1 x2:Int) (x3:List UInt8) (x4:Int) (x5:List (T)) (x6:Int) (x7:List (Int × T)) (x8:Int):Z10 :=
 cond (ilt x1 (List.length x7)) (qa (qd x7 x1) λ v1=>cond (ile v1.1 x0) (some 1) (qa (qd x7 x1) λ v2=>cond (ile x6 v2.1) (some 1) (qa (qd x7 x1) λ v3=>qa (Qo m (re v3.2)) λ v4 =>
 cond (qc v4) (some 1) (qa (qd x7 x1) λ v5=>K1 v5.1 (iw .i64 (qf x1 1)) x2 x3 x4 x5 x6 x7 x8)))) (some 0)
def JG (m:Nat):=qI (λ _ _ _ _ _ _ _ _ _=>none) λ ih=>qeD m ih
def qcN:Nat→Z74:=qg (λ _=>none) λ m _=>qd4 m (JG m m)
def qfG (m:Nat) (a0:T) (a1:Y8):Z21 :=
 qa (qgV m a1 5) λ v1=>qa (yC m [112,97,105,114] [re a0,re v1]) λ v2=>qa (yC m [104,97,115,104] [re v2]) λ v3=>some (re v3)
def qaH:Nat→(T→Y8→Z21):=qg (λ _ _=>none) λ m _=>qfG m
def qio (m:Nat) (a0:T):Z21 :=
 qa (qaH m (re a0) [99,104,97,105,110]) λ v1=>some (re v1)
def jN:Nat→Z22:=qg (λ _=>none) λ m _=>qio m
def qij (m:Nat) (a0:T):Z1 :=
 qa (zM m (re a0)) λ v1=>some (qc (ieq v1 0))
def qaR:Nat→Z35:=qg (λ _=>none) λ m _=>qij m
def qjO (m:Nat) (a0:T):Z21 :=
 qa (qaH m (re a0) [109,101,115,115,97,103,101]) λ v1=>some (re v1)
def qaV:Nat→Z22:=qg (λ _=>none) λ m _=>qjO m
def qw6 (m:Nat) (a0:T × (Int × ((List (Int × T)) × Int))) (a1:T):qKx :=
 qa (qcN m (re a0.1,(a0.2.1,(a0.2.2.1,a0.2.2.2)))) λ v1=>cond (qc (ieq v1 0)) (some ((T.mk 0 [] 0 [],(0,([],0))),(0,T.mk 0 [] 0 []),v1)) (qa (Qo m (re a1)) λ v2=>cond (qc v2)
 (some ((T.mk 0 [] 0 [],(0,([],0))),(0,T.mk 0 [] 0 []),10)) (cond (ieq a0.2.1 1000) (some ((T.mk 0 [] 0 [],(0,([],0))),(0,T.mk 0 [] 0 []),7)) (qa (qaV m (re a0.1)) λ v3 =>
 qa (yC m [101,110,99] [re a1,re v3]) λ v4=>qa (jN m (re a0.1)) λ v5=>qa (qaR m (re v5)) λ v6=>cond v6 (some ((T.mk 0 [] 0 [],(0,([],0))),(0,T.mk 0 [] 0 []),3))
 (qa (qaR m (re v4)) λ v7=>cond v7 (some ((T.mk 0 [] 0 [],(0,([],0))),(0,T.mk 0 [] 0 []),3)) (some ((re v5,(iw .i64 (qf a0.2.1 1),(a0.2.2.1,a0.2.2.2))),(a0.2.1,re v4),0))))))
def qmy:Nat→(Z73→T→qKx):=qg (λ _ _=>none) λ m _=>qw6 m
def qnB (m:Nat) (K1:qJH) (a0:Int):qCO :=
 qa (qey m) λ v1=>qa (qoI m (re v1)) λ v2=>K1 a0 0 (T.kind v2.1.1) (T.name v2.1.1) (T.sort v2.1.1) (T.kids v2.1.1) v2.1.2.1 v2.1.2.2.1 v2.1.2.2.2 []
def qwK (m:Nat) (K1:qJH) (x0 x1 x2:Int) (x3:List UInt8) (x4:Int) (x5:List (T)) (x6:Int) (x7:List (Int × T)) (x8:Int) (x9:List (Int × T)):qCO :=
 cond (ilt x1 x0) (qa (qd [[112],[113]] (qCJ x1 2)) λ v1=>qa (qgV m v1 4) λ v2=>qa (qmy m (T.mk x2 x3 x4 x5,(x6,(x7,x8))) (re v2)) λ v3=>cond (qc (ieq v3.2.2 0)) (some x9)
 (cond (zD (List.length x9+1) 64) (K1 x0 (iw .i64 (qf x1 1)) (T.kind v3.1.1) (T.name v3.1.1) (T.sort v3.1.1) (T.kids v3.1.1) v3.1.2.1 v3.1.2.2.1 v3.1.2.2.2 (x9++[(v3.2.1.1,re v3.2.1.2)])) none)) (some x9)
def qoP (m:Nat):=qI (λ _ _ _ _ _ _ _ _ _ _=>none) λ ih=>qwK m ih
def qm8:Nat→(Int→qCO):=qg (λ _=>none) λ m _=>qnB m (qoP m m)
def quc (m:Nat):Z1 :=
 qa (qey m) λ v1=>qa (qhL m (re v1) 0) λ v2=>qa (qey m) λ v3=>qa (qhL m (re v3) 1) λ v4 =>
 qa (qhH m [104,97,115,104,40,112,97,105,114,40,114,58,110,111,110,99,101,44,32,109,101,115,115,97,103,101,58,116,97,103,41,41]) λ v5 =>
 qa (qhH m [104,97,115,104,40,112,97,105,114,40,104,97,115,104,40,112,97,105,114,40,114,58,110,111,110,99,101,44,32,99,104,97,105,110,58,116,97,103,41,41,44,32,109,101,115,115,97,103,101,58,116,97,103,41,41]) λ v6 =>
 qa (qey m) λ v7=>qa (qk7 m (re v7)) λ v8=>qa (qm8 m 2) λ v9=>let j1:Z1:=(some false);
 cond (qc (ieq v2.2 0)) j1 (cond (qc (ieq v4.2 0)) j1 (cond (qc (ieq v8.2 0)) j1 (cond (qc (ieq (List.length v9) 2)) j1 (qa (yI m (re v2.1) (re v5.1)) λ v10 =>
 cond (qc v10) j1 (qa (yI m (re v4.1) (re v6.1)) λ v11=>cond (qc v11) j1 (qa (qd v9 1) λ v12=>qa (jI m (re v8.1.1,(v8.1.2.1,(v8.1.2.2.1,v8.1.2.2.2)))
 (v12.1,re v12.2)) λ v13=>qa (qd v9 0) λ v14=>qa (jI m (re v13.1.1,(v13.1.2.1,(v13.1.2.2.1,v13.1.2.2.2))) (v14.1,re v14.2)) λ v15=>qa (qd v9 0) λ v16 =>
 qa (jI m (re v15.1.1,(v15.1.2.1,(v15.1.2.2.1,v15.1.2.2.2))) (v16.1,re v16.2)) λ v17=>cond (ieq v13.2.2 0) (cond (ieq v15.2.2 0) (some (ieq v17.2.2 21)) j1) j1))))))
def qbb:Nat→(Z1):=qg (none) λ m _=>quc m
def qdj (m:Nat) (q_ref01_budget:qCr) (K1:Z69) (a0:T) (a1:Int):Z10 :=
 cond (ile a1 0) (some (-1)) (cond (ilt 40 (List.length (T.name a0))) (some (-1)) (K1 (iw .i64 (QK a1 1)) 0 (T.kind a0) (T.name a0) (T.sort a0) (T.kids a0)))
def qdf (m:Nat) (q_ref01_budget:qCr) (K1:Z69) (x0 x1 x2:Int) (x3:List UInt8) (x4:Int) (x5:List (T)):Z10 :=
 cond (ilt x1 (List.length x5)) (qa (qd x5 x1) λ v1=>qa (q_ref01_budget (re v1) x0) λ v2=>cond (ilt v2 0) (some (-1)) (K1 v2 (iw .i64 (qf x1 1)) x2 x3 x4 x5)) (some x0)
def QT (m:Nat) (q_ref01_budget:qCr):=qI (λ _ _ _ _ _ _=>none) λ ih=>qdf m q_ref01_budget ih
def yt:Nat→qCr:=qg (λ _ _=>none) λ m q_ref01_budget=>qdj m q_ref01_budget (QT m q_ref01_budget m)
def qgG (m:Nat) (K1:Z59) (a0:TL) (a1 a2:Int):Z1 :=
 cond (ilt a1 (List.length a0)) (some false) (K1 a0 a2 0)
def qgF (m:Nat) (K1:Z59) (x0:List (T)) (x1 x2:Int):Z1 :=
 cond (ilt x2 (List.length x0)) (qa (qd x0 x2) λ v1=>qa (yt m (re v1) x1) λ v2=>cond (ilt v2 0) (some false) (K1 x0 v2 (iw .i64 (qf x2 1)))) (some true)
def qbg (m:Nat):=qI (λ _ _ _=>none) λ ih=>qgF m ih
def qfX:Nat→(TL→Int→Int→Z1):=qg (λ _ _ _=>none) λ m _=>qgG m (qbg m m)
def qfg (m:Nat) (K1:qKl) (a0 a1:T × (Int × ((List (Int × T)) × Int))):Z1 :=
 cond (qc (ieq a0.2.1 a1.2.1)) (some false) (cond (qc (ieq a0.2.2.2 a1.2.2.2)) (some false) (cond (qc (ieq (List.length a0.2.2.1) (List.length a1.2.2.1))) (some false) (qa (yI m (re a0.1)
 (re a1.1)) λ v1=>cond (qc v1) (some false) (K1 0 (T.kind a0.1) (T.name a0.1) (T.sort a0.1) (T.kids a0.1) a0.2.1 a0.2.2.1 a0.2.2.2 (T.kind a1.1) (T.name a1.1) (T.sort a1.1) (T.kids a1.1) a1.2.1 a1.2.2.1 a1.2.2.2))))
def qfs (m:Nat) (K1:qKl) (x0 x1:Int) (x2:List UInt8) (x3:Int) (x4:List (T)) (x5:Int) (x6:List (Int × T)) (x7 x8:Int) (x9:List UInt8) (x10:Int) (x11:List (T)) (x12:Int) (x13:List (Int × T)) (x14:Int):Z1 :=
 cond (ilt x0 (List.length x6)) (qa (qd x6 x0) λ v1=>qa (qd x13 x0) λ v2=>cond (qc (ieq v1.1 v2.1)) (some false) (qa (qd x6 x0) λ v3=>qa (qd x13 x0) λ v4 =>
 qa (yI m (re v3.2) (re v4.2)) λ v5=>cond (qc v5) (some false) (K1 (iw .i64 (qf x0 1)) x1 x2 x3 x4 x5 x6 x7 x8 x9 x10 x11 x12 x13 x14))) (some true)
def qaj (m:Nat):=qI (λ _ _ _ _ _ _ _ _ _ _ _ _ _ _ _=>none) λ ih=>qfs m ih
def qgu:Nat→(Z73→Z73→Z1):=qg (λ _ _=>none) λ m _=>qfg m (qaj m m)
def qdc (m:Nat) (K1:qKa) (a0:T × (Int × ((List (Int × T)) × Int))):Z23 :=
 K1 0 (T.kind a0.1) (T.name a0.1) (T.sort a0.1) (T.kids a0.1) a0.2.1 a0.2.2.1 a0.2.2.2 [re a0.1]
def qc5 (m:Nat) (K1:qKa) (x0 x1:Int) (x2:List UInt8) (x3:Int) (x4:List (T)) (x5:Int) (x6:List (Int × T)) (x7:Int) (x8:List (T)):Z23 :=
 cond (ilt x0 (List.length x6)) (qa (qd x6 x0) λ v1=>cond (zD (List.length x8+1) 56) (K1 (iw .i64 (qf x0 1)) x1 x2 x3 x4 x5 x6 x7 (x8++[re v1.2])) none) (some x8)
def Jb (m:Nat):=qI (λ _ _ _ _ _ _ _ _ _=>none) λ ih=>qc5 m ih
def qdB:Nat→(Z73→Z23):=qg (λ _=>none) λ m _=>qdc m (Jb m m)
def qjs (m:Nat) (a0:T × (Int × ((List (Int × T)) × Int))):Z1 :=
 cond (ile (List.length a0.2.2.1) 12) (qa (qdB m (re a0.1,(a0.2.1,(a0.2.2.1,a0.2.2.2)))) λ v1=>qa (qfX m v1 13 600) λ v2=>some v2) (some false)
def qhX:Nat→(Z73→Z1):=qg (λ _=>none) λ m _=>qjs m
def qfj (m:Nat) (K1:qCM) (a0:T × (Int × ((List (Int × T)) × Int))) (a1:Int):Z10 :=
 K1 a1 0 (T.kind a0.1) (T.name a0.1) (T.sort a0.1) (T.kids a0.1) a0.2.1 a0.2.2.1 a0.2.2.2
def qft (m:Nat) (K1:qCM) (x0 x1 x2:Int) (x3:List UInt8) (x4:Int) (x5:List (T)) (x6:Int) (x7:List (Int × T)) (x8:Int):Z10 :=
 cond (ilt x1 (List.length x7)) (qa (qd x7 x1) λ v1=>cond (ieq v1.1 x0) (some x1) (K1 x0 (iw .i64 (qf x1 1)) x2 x3 x4 x5 x6 x7 x8)) (some (-1))
def qau (m:Nat):=qI (λ _ _ _ _ _ _ _ _ _=>none) λ ih=>qft m ih
def qgC:Nat→(Z73→Int→Z10):=qg (λ _ _=>none) λ m _=>qfj m (qau m m)
def qik (m:Nat) (a0 a1:T):Z77 :=
 qa (JK m (re a0) [101,110,99]) λ v1=>cond (qc v1) (some (T.mk 0 [] 0 [],false)) (qa (qd (T.kids a0) 1) λ v2=>qa (yI m (re v2) (re a1)) λ v3=>cond (qc v3)
 (some (T.mk 0 [] 0 [],false)) (qa (qd (T.kids a0) 0) λ v4=>some (re v4,true)))
def qew:Nat→Z78:=qg (λ _ _=>none) λ m _=>qik m
def qfF (m:Nat) (a0:T × (Int × ((List (Int × T)) × Int))):qKq :=
 cond (zD (List.length ([]:List (Int × T))+List.length a0.2.2.1) 64) (qe8 a0.2.2.1 (qa (qaV m (re a0.1)) λ v6=>cond (zD (List.length ([]:List (Int × T))+1) 64)
 (cond (ilt a0.2.2.2 (List.length ([]++[(a0.2.1,re v6)]))) (cond (inb 1 (List.length ([]++[(a0.2.1,re v6)]))) (qa (jN m (re a0.1)) λ v7 =>
 some (re v7,(iw .i64 (qf a0.2.1 1),(List.drop (Int.toNat 1) ([]++[(a0.2.1,re v6)]),a0.2.2.2)))) none) (qa (jN m (re a0.1)) λ v8 =>
 some (re v8,(iw .i64 (qf a0.2.1 1),([]++[(a0.2.1,re v6)],a0.2.2.2))))) none) λ v1 v2=>qa (qaV m (re a0.1)) λ v3=>cond (zD (List.length ([]++(v1::v2))+1) 64)
 (cond (ilt a0.2.2.2 (List.length (([]++(v1::v2))++[(a0.2.1,re v3)]))) (cond (inb 1 (List.length (([]++(v1::v2))++[(a0.2.1,re v3)]))) (qa (jN m (re a0.1)) λ v4 =>
 some (re v4,(iw .i64 (qf a0.2.1 1),(List.drop (Int.toNat 1) (([]++(v1::v2))++[(a0.2.1,re v3)]),a0.2.2.2)))) none) (qa (jN m (re a0.1)) λ v5 =>
 some (re v5,(iw .i64 (qf a0.2.1 1),(([]++(v1::v2))++[(a0.2.1,re v3)],a0.2.2.2))))) none) none
def qcE:Nat→(Z73→qKq):=qg (λ _=>none) λ m _=>qfF m
def qcz (m:Nat) (K1:qKg) (a0:T × (Int × ((List (Int × T)) × Int))) (a1:Int × T):Z79 :=
 qa (qcN m (re a0.1,(a0.2.1,(a0.2.2.1,a0.2.2.2)))) λ v1=>cond (qc (ieq v1 0)) (some ((T.mk 0 [] 0 [],(0,([],0))),T.mk 0 [] 0 [],v1)) (qa (Qo m (re a1.2)) λ v2=>cond (qc v2)
 (some ((T.mk 0 [] 0 [],(0,([],0))),T.mk 0 [] 0 [],10)) (qa (qgC m (re a0.1,(a0.2.1,(a0.2.2.1,a0.2.2.2))) a1.1) λ v3=>let j1:Z79:=(cond (ilt (iw .i64 (qf a0.2.1 a0.2.2.2)) a1.1)
 (some ((T.mk 0 [] 0 [],(0,([],0))),T.mk 0 [] 0 [],7)) (cond (ile 1000 a1.1) (some ((T.mk 0 [] 0 [],(0,([],0))),T.mk 0 [] 0 [],7)) (cond (ilt a1.1 a0.2.1) (qa (qd a0.2.2.1 v3) λ v4 =>
 qa (qew m (re a1.2) (re v4.2)) λ v5=>cond (qc v5.2) (some ((T.mk 0 [] 0 [],(0,([],0))),T.mk 0 [] 0 [],11)) (cond (inb v3 (List.length a0.2.2.1)) (cond (inb 0 (Int.toNat v3))
 (cond (zD (List.length ([]:List (Int × T))+List.length (zS a0.2.2.1 0 v3)) 64) (qe8 (zS a0.2.2.1 0 v3) (cond (inb (List.length a0.2.2.1) (List.length a0.2.2.1)) (cond (inb (iw .i64 (qf v3 1))
 (Int.toNat (List.length a0.2.2.1))) (cond (zD (List.length ([]:List (Int × T))+List.length (zS a0.2.2.1 (iw .i64 (qf v3 1)) (List.length a0.2.2.1))) 64) (qe8 (zS a0.2.2.1 (iw .i64 (qf v3 1))
 (List.length a0.2.2.1)) (some ((re a0.1,(a0.2.1,([],a0.2.2.2))),re v5.1,0)) λ v8 v9=>some ((re a0.1,(a0.2.1,([]++(v8::v9),a0.2.2.2))),re v5.1,0)) none) none) none) λ v6 v7 =>
 cond (inb (List.length a0.2.2.1) (List.length a0.2.2.1)) (cond (inb (iw .i64 (qf v3 1)) (Int.toNat (List.length a0.2.2.1)))
 (cond (zD (List.length ([]++(v6::v7))+List.length (zS a0.2.2.1 (iw .i64 (qf v3 1)) (List.length a0.2.2.1))) 64) (some ((re a0.1,(a0.2.1,(([]++(v6::v7))++(zS a0.2.2.1 (iw .i64 (qf v3 1))
 (List.length a0.2.2.1)),a0.2.2.2))),re v5.1,0)) none) none) none) none) none) none)) (K1 (T.kind a0.1) (T.name a0.1) (T.sort a0.1) (T.kids a0.1) a0.2.1 a0.2.2.1 a0.2.2.2 a1.1 (T.kind a1.2) (T.name a1.2) (T.sort a1.2)
 (T.kids a1.2) 0 [] 0 0 0 0 [] 0 [] [] []))));cond (ilt a1.1 a0.2.1) (cond (ilt v3 0) (some ((T.mk 0 [] 0 [],(0,([],0))),T.mk 0 [] 0 [],21)) j1) j1))
def qcj (m:Nat) (K1:qKg) (x0:Int) (x1:List UInt8) (x2:Int) (x3:List (T)) (x4:Int) (x5:List (Int × T)) (x6 x7 x8:Int) (x9:List UInt8) (x10:Int) (x11:List (T)) (x12:Int) (x13:List UInt8) (x14 x15 x16 x17:Int) (x18:List UInt8) (x19:Int) (x20:List (T)) (x21:List (Int × T)) (x22:List (T)):Z79 :=
 cond (ilt x4 x7) (qa (qcE m (T.mk x0 x1 x2 x3,(x4,(x5,x6)))) λ v1=>K1 (T.kind v1.1) (T.name v1.1) (T.sort v1.1)
 (T.kids v1.1) v1.2.1 v1.2.2.1 v1.2.2.2 x7 x8 x9 x10 x11 x12 x13 x14 x15 x16 x17 x18 x19 x20 x21 x22) (qa (qaV m (T.mk x0 x1 x2 x3)) λ v2=>qa (jN m (T.mk x0 x1 x2 x3)) λ v3 =>
 qa (qaR m (re v3)) λ v4=>cond v4 (some ((T.mk 0 [] 0 [],(0,([],0))),T.mk 0 [] 0 [],3)) (qa (qaR m (re v2)) λ v5=>cond v5 (some ((T.mk 0 [] 0 [],(0,([],0))),T.mk 0 [] 0 [],3))
 (qa (qew m (T.mk x8 x9 x10 x11) (re v2)) λ v6=>cond (qc v6.2) (some ((T.mk 0 [] 0 [],(0,([],0))),T.mk 0 [] 0 [],11)) (some ((re v3,(iw .i64 (qf x4 1),(x5,x6))),re v6.1,0)))))
def QD (m:Nat):=qI (λ _ _ _ _ _ _ _ _ _ _ _ _ _ _ _ _ _ _ _ _ _ _ _=>none) λ ih=>qcj m ih
def qcB:Nat→Z81:=qg (λ _ _=>none) λ m _=>qcz m (QD m m)
def qaD (m:Nat) (a0:T × (Int × ((List (Int × T)) × Int))) (a1:Int × T):Z1 :=
 qa (qbb m) λ v1=>let j1:Z1:=(qa (qbb m) λ v2=>some v2);cond (qc v1) j1 (qa (qhX m (re a0.1,(a0.2.1,(a0.2.2.1,a0.2.2.2)))) λ v3 =>
 cond (qc v3) j1 (qa (qfX m [re a1.2] 1 100) λ v5=>cond (qc v5) j1 (qa (jI m (re a0.1,(a0.2.1,(a0.2.2.1,a0.2.2.2))) (a1.1,re a1.2)) λ v7 =>
 qa (qcB m (re a0.1,(a0.2.1,(a0.2.2.1,a0.2.2.2))) (a1.1,re a1.2)) λ v8=>cond (ieq v7.2.2 v8.2.2) (qa (qgu m (re v7.1.1,(v7.1.2.1,(v7.1.2.2.1,v7.1.2.2.2)))
 (re v8.1.1,(v8.1.2.1,(v8.1.2.2.1,v8.1.2.2.2)))) λ v9=>cond v9 (qa (yI m (re v7.2.1) (re v8.2.1)) λ v10=>cond v10 (cond (qc (ieq v7.2.2 0)) (some true)
 (qa (qaG m (re v7.1.1,(v7.1.2.1,(v7.1.2.2.1,v7.1.2.2.2)))) λ v11=>some (ieq v11 0))) (some false)) (some false)) (some false))))
def law53_RatchetReceive:Nat→(Z73→(Int × T)→Z1):=qg (λ _ _=>none) λ m _=>qaD m
end
end Go.AmYtbpnmbmdbblehaaGreat
namespace Go.AmYtbpnmbmdbblehaaGreat
open Go Go.GxYtbpnmbmdbblehaaGreat
def Ev {α : Type} (F:Nat→Nat→Option α) (r : α):Prop:=∃ B,∀ m k,B≤m→B≤k→F m k=some r
section
variable {α β : Type} {F G:Nat→Nat→Option α} {r : α}
theorem Ev.pure (r : α):Ev (λ _ _=>some r) r:=⟨0,λ _ _ _ _=>rfl⟩
theorem Ev.ret {r r' : α} (h:r=r'):Ev (λ _ _=>some r) r':=by subst h;exact .pure r
theorem Ev.bind {X:Nat→Nat→Option β} {K:Nat→Nat → β → Option α} {a : β} (h:Ev X a) (g:Ev (λ m k=>K m k a) r):Ev (λ m k=>qa (X m k) (K m k)) r:=by
 obtain ⟨B,h⟩:=h
 obtain ⟨C,g⟩:=g
 refine ⟨max B C,λ m k hm hk=>?_⟩
 simp only [h m k (by omega) (by omega),qa]
 exact g m k (by omega) (by omega)
theorem Ev.congr (h:Ev F r) (e:∀ m k,G m k=F m k):Ev G r:=by
 obtain ⟨B,h⟩:=h
 exact ⟨B,λ m k hm hk=>(e m k).trans (h m k hm hk)⟩
theorem Ev.res {r' : α} (h:Ev F r) (e:r=r'):Ev F r':=by subst e;exact h
theorem Ev.succ {f:Nat→Option α} (h:Ev (λ m _=>f (m+1)) r):Ev (λ m _=>f m) r:=by
 obtain ⟨B,h⟩:=h
 refine ⟨B+1,λ m k hm hk=>?_⟩
 obtain ⟨m,rfl⟩:∃ n,m=n+1:=⟨m-1,by omega⟩
 exact h m B (by omega) (Nat.le_refl _)
theorem Ev.loop {L:Nat→Nat→Option α} (h:Ev (λ m k=>L m (k+1)) r):Ev (λ m k=>L m k) r:=by
 obtain ⟨B,h⟩:=h
 refine ⟨B+1,λ m k hm hk=>?_⟩
 obtain ⟨k,rfl⟩:∃ n,k=n+1:=⟨k-1,by omega⟩
 exact h m k (by omega) (by omega)
theorem Ev.diag {L:Nat→Nat→Option α} (h:Ev L r):Ev (λ m _=>L m m) r:=by
 obtain ⟨B,h⟩:=h
 exact ⟨B,λ m k hm _=>h m m hm hm⟩
theorem Ev.ct {b:Bool} (hb:b=true) (h:Ev F r):Ev (λ m k=>cond b (F m k) (G m k)) r:=by subst hb;exact h
theorem Ev.cf {b:Bool} (hb:b=false) (h:Ev G r):Ev (λ m k=>cond b (F m k) (G m k)) r:=by subst hb;exact h
theorem Ev.ite {b:Bool} (h:b=true→Ev F r) (g:b=false→Ev G r):Ev (λ m k=>cond b (F m k) (G m k)) r:=by
 cases b with
 | true=>exact h rfl
 | false=>exact g rfl
theorem Ev.some {x:Option β} {K:Nat→Nat → β → Option α} {a : β} (hx:x=some a) (g:Ev (λ m k=>K m k a) r):Ev (λ m k=>qa x (K m k)) r:=by subst hx;exact g
theorem Ev.case {l:List β} {K:Nat→Nat → β → List β → Option α} (h:l=[]→Ev F r) (g:∀ x t,l=x::t→Ev (λ m k=>K m k x t) r):Ev (λ m k=>qe8 l (F m k) (K m k)) r:=by
 cases l with
 | nil=>exact h rfl
 | cons x t=>exact g x t rfl
theorem Ev.get {x:Option α} (h:Ev (λ _ _=>x) r):x=Option.some r:=by
 obtain ⟨B,h⟩:=h
 exact h B B (Nat.le_refl _) (Nat.le_refl _)
end
theorem qr {a b:Int}:ilt a b=true↔a<b:=by unfold ilt;exact decide_eq_true_iff
theorem qv {a b:Int}:ilt a b=false↔b≤a:=by unfold ilt;rw [decide_eq_false_iff_not];omega
theorem qcf {a b:Int}:ile a b=true↔a≤b:=by unfold ile;exact decide_eq_true_iff
theorem qiW {a b:Int}:ile a b=false↔b<a:=by unfold ile;rw [decide_eq_false_iff_not];omega
theorem qj {a b:Int}:ieq a b=true↔a=b:=by unfold ieq;exact beq_iff_eq
theorem qh {a b:Int}:ieq a b=false↔a≠b:=by unfold ieq;exact beq_eq_false_iff_ne
theorem bnt {b:Bool}:qc b=true↔b=false:=by cases b<;>simp [qc]
theorem bnf {b:Bool}:qc b=false↔b=true:=by cases b<;>simp [qc]
theorem jb {a b:List UInt8}:qC a b=true↔a=b:=by unfold qC;exact beq_iff_eq
theorem jl {a b:List UInt8}:qC a b=false↔a≠b:=by unfold qC;exact beq_eq_false_iff_ne
theorem jg {n:Int} (h:-9223372036854775808≤n∧n≤9223372036854775807):iw .i64 n=n:=IntWalk.i64_in n h
theorem qmP (a b:Nat):qf (a:Int) (b:Int)=((a+b:Nat):Int):=by unfold qf;omega
theorem qS {n b:Nat} (h:n*b≤2 ^ 47) (hb:0<b):zD n b=true:=by
 unfold zD
 rw [decide_eq_true_iff]
 refine ⟨h,?_⟩
 have:n*1≤n*b:=Nat.mul_le_mul_left _ hb
 omega
theorem jt {α : Type} (l:List α) (i:Nat):qd l (i:Int)=l[i]? := by
 unfold qd
 rw [if_pos (by omega),Int.toNat_natCast]
theorem Jo {α : Type} (l:List α):qd l 0=l[0]? := jt l 0
theorem qt {α : Type} {P:Nat→Prop} (l:List α) (hl:l.length<2 ^ 62) (hend:ilt (l.length:Int) (l.length:Int)=false→P l.length)
  (hstep:∀ (i:Nat) (x : α),l[i]? = some x→l.drop i=x::l.drop (i+1)→ilt (i:Int) (l.length:Int)=true→qd l (i:Int)=some x→iw .i64 (qf (i:Int) 1)=((i+1:Nat):Int)→P (i+1)→P i):∀ i,i≤l.length→P i:=by
 intro i hi
 obtain ⟨d,hd⟩:∃ d,l.length=i+d:=⟨l.length-i,by omega⟩
 induction d generalizing i with
 | zero =>
   have:i=l.length:=by omega
   subst this
   exact hend (qv.2 (Int.le_refl _))
 | succ d ih =>
   have hlt:i<l.length:=by omega
   have hget:=List.getElem?_eq_getElem hlt
   refine hstep i _ hget (List.drop_eq_getElem_cons hlt) (qr.2 (by omega)) (by rw [jt,hget]) ?_ (ih (i+1) (by omega) (by omega))
   rw [show qf (i:Int) 1=((i+1:Nat):Int) by unfold qf;omega,jg (by omega)]
end Go.AmYtbpnmbmdbblehaaGreat
namespace Go.AmYtbpnmbmdbblehaaGreat
open Go Go.GxYtbpnmbmdbblehaaGreat
set_option linter.unusedVariables false
theorem qAC (m):qfT (m+1)=qjD m:=rfl
theorem qwy (m):qbh (m+1)=qeA m (jO m m):=rfl
theorem qlI (m k):(jO m (k+1))=qeu m (jO m k):=rfl
theorem qx7 (m):zJ (m+1)=qfv m (zJ m) (y9 m (zJ m) m):=rfl
theorem qnr (m k):(y9 m (zJ m) (k+1))=qfb m (zJ m) (y9 m (zJ m) k):=rfl
theorem qzq (m):zy (m+1)=qin m:=rfl
theorem qsE (m):qaJ (m+1)=qcy m (Qv m m):=rfl
theorem qjJ (m k):(Qv m (k+1))=qct m (Qv m k):=rfl
theorem quz (m):qB (m+1)=qc8 m (qB m) (qO m (qB m) m).1 (qO m (qB m) m).2:=rfl
theorem qkf (m k):(qO m (qB m) (k+1)).1=qde m (qB m) (qO m (qB m) k).1 (qO m (qB m) k).2:=rfl
theorem qkj (m k):(qO m (qB m) (k+1)).2=qc6 m (qB m) (qO m (qB m) k).1 (qO m (qB m) k).2:=rfl
theorem quP (m):qdr (m+1)=qgK m:=rfl
theorem qAL (m):qbY (m+1)=qj6 m:=rfl
theorem qAG (m):ju (m+1)=qgi m (ju m) (qbf m (ju m) m):=rfl
theorem qoH (m k):(qbf m (ju m) (k+1))=qgy m (ju m) (qbf m (ju m) k):=rfl
theorem quM (m):qu (m+1)=qdl m (qu m) (jw m (qu m) m):=rfl
theorem qgH (m k):(jw m (qu m) (k+1))=qaQ m (qu m) (jw m (qu m) k):=rfl
theorem qxu (m):Qn (m+1)=qg6 m:=rfl
theorem qAF (m):yD (m+1)=qjN m:=rfl
theorem qq4 (m):J9 (m+1)=qeP m:=rfl
theorem qe3 (m):zf (m+1)=yJ m (ql m m).1 (ql m m).2:=rfl
theorem JS (m k):(ql m (k+1)).1=yE m (ql m k).1 (ql m k).2:=rfl
theorem JO (m k):(ql m (k+1)).2=yL m (ql m k).1 (ql m k).2:=rfl
theorem qA6 (m):qhW (m+1)=qgz m (qbd m m):=rfl
theorem qo2 (m k):(qbd m (k+1))=qgS m (qbd m k):=rfl
theorem qDB (m):qhs (m+1)=qhN m (qck m m):=rfl
theorem qqm (m k):(qck m (k+1))=qhG m (qck m k):=rfl
theorem qvd (m):zW (m+1)=qc9 m (zW m) (Qb m (zW m) m):=rfl
theorem qkP (m k):(Qb m (zW m) (k+1))=qdg m (zW m) (Qb m (zW m) k):=rfl
theorem qza (m):yo (m+1)=qfo m (yo m) (qai m (yo m) m):=rfl
theorem qnk (m k):(qai m (yo m) (k+1))=qfp m (yo m) (qai m (yo m) k):=rfl
theorem qvk (m):qdQ (m+1)=qc1 m (qac m m):=rfl
theorem qtP (m k):(qac m (k+1))=qgO m (qac m k):=rfl
theorem qFe (m):Q9 (m+1)=qi9 m (Q9 m) (qdz m (Q9 m) m):=rfl
theorem qs7 (m k):(qdz m (Q9 m) (k+1))=qiO m (Q9 m) (qdz m (Q9 m) k):=rfl
theorem qFs (m):qlN (m+1)=qiL m (qdH m m):=rfl
theorem qtA (m k):(qdH m (k+1))=qiX m (qdH m k):=rfl
theorem qpR (m):JD (m+1)=qdw m:=rfl
theorem qqQ (m):zc (m+1)=qbu m (zc m) (jT m (zc m) m):=rfl
theorem qiD (m k):(jT m (zc m) (k+1))=qbs m (zc m) (jT m (zc m) k):=rfl
theorem qnK (m):QE (m+1)=qcw m:=rfl
theorem Qm (m):qy (m+1)=qD m (qn m m):=rfl
theorem yd (m k):(qn m (k+1))=qE m (qn m k):=rfl
theorem qpW (m):JC (m+1)=qd2 m:=rfl
theorem qoA (m):za (m+1)=qax m (za m) (yW m (za m) m):=rfl
theorem qg1 (m k):(yW m (za m) (k+1))=qav m (za m) (yW m (za m) k):=rfl
theorem qwW (m):J6 (m+1)=qhg m:=rfl
theorem qqr (m):Jc (m+1)=qbr m (jo m m):=rfl
theorem qiv (m k):(jo m (k+1))=qbv m (jo m k):=rfl
theorem qtp (m):jM (m+1)=qcv m (qw m m).1 (qw m m).2.1 (qw m m).2.2:=rfl
theorem qjZ (m k):(qw m (k+1)).1=qb4 m (qw m k).1 (qw m k).2.1 (qw m k).2.2:=rfl
theorem qjl (m k):(qw m (k+1)).2.1=qch m (qw m k).1 (qw m k).2.1 (qw m k).2.2:=rfl
theorem qjG (m k):(qw m (k+1)).2.2=qcp m (qw m k).1 (qw m k).2.1 (qw m k).2.2:=rfl
theorem qpZ (m):qa1 (m+1)=qaL m (jC m m):=rfl
theorem qh6 (m k):(jC m (k+1))=qaW m (jC m k):=rfl
theorem qnP (m):JN (m+1)=qci m:=rfl
theorem qa2 (m):qZ (m+1)=zq m (qx m m):=rfl
theorem yf (m k):(qx m (k+1))=qR m (qx m k):=rfl
theorem qar (m):qT (m+1)=zP m:=rfl
theorem qpX (m):qaX (m+1)=qdP m:=rfl
theorem qvf (m):qdy (m+1)=qcZ m (QY m m):=rfl
theorem qkw (m k):(QY m (k+1))=qc3 m (QY m k):=rfl
theorem qud (m):qdq (m+1)=qga m:=rfl
theorem qsa (m):zR (m+1)=qcc m (zR m) (Qw m (zR m) m):=rfl
theorem qjX (m k):(Qw m (zR m) (k+1))=qb3 m (zR m) (Qw m (zR m) k):=rfl
theorem qtt (m):qcG (m+1)=qfI m:=rfl
theorem qrR (m):qbM (m+1)=qeM m:=rfl
theorem qmj (m):qJ (m+1)=JB m (qJ m) (yk m (qJ m) m):=rfl
theorem qfR (m k):(yk m (qJ m) (k+1))=Jx m (qJ m) (yk m (qJ m) k):=rfl
theorem qum (m):qdO (m+1)=qgl m:=rfl
theorem qlh (m):QB (m+1)=qaz m:=rfl
theorem qnM (m):zb (m+1)=JY m (zb m) (jd m (zb m) m):=rfl
theorem qgI (m k):(jd m (zb m) (k+1))=J5 m (zb m) (jd m (zb m) k):=rfl
theorem qbV (m):qV (m+1)=qpC (qu m):=rfl
theorem qrv (m):yg (m+1)=qeG m:=rfl
theorem qaU (m):qF (m+1)=qsU (yg m):=rfl
theorem quO (m):qdJ (m+1)=qdd m (Ja m m):=rfl
theorem qkZ (m k):(Ja m (k+1))=qdn m (Ja m k):=rfl
theorem qwx (m):qhO (m+1)=qg3 m:=rfl
theorem qAs (m):qh3 (m+1)=qjM m:=rfl
theorem qsV (m):jR (m+1)=qfC m:=rfl
theorem qEz (m):qlk (m+1)=qiT m (qfM m m):=rfl
theorem qCT (m k):(qfM m (k+1))=qna m (qfM m k):=rfl
theorem qqU (m):yQ (m+1)=qeI m:=rfl
theorem qp5 (m):Jz (m+1)=qdv m:=rfl
theorem qtY (m):qbO (m+1)=qf8 m:=rfl
theorem qxv (m):qcO (m+1)=qhi m:=rfl
theorem qut (m):Js (m+1)=qgj m:=rfl
theorem qzy (m):yK (m+1)=qff m (yK m) (qak m (yK m) m):=rfl
theorem qnx (m k):(qak m (yK m) (k+1))=qfd m (yK m) (qak m (yK m) k):=rfl
theorem qtz (m):zl (m+1)=qcn m (zl m) (Qz m (zl m) m):=rfl
theorem qj8 (m k):(Qz m (zl m) (k+1))=qb2 m (zl m) (Qz m (zl m) k):=rfl
theorem qAd (m):yI (m+1)=qic m:=rfl
theorem qsH (m):qaG (m+1)=qcs m (Qt m m):=rfl
theorem qjt (m k):(Qt m (k+1))=qb8 m (Qt m k):=rfl
theorem qwI (m):qeT (m+1)=qen m (JF m m):=rfl
theorem qlG (m k):(JF m (k+1))=qeh m (JF m k):=rfl
theorem qqD (m):qaa (m+1)=qeJ m:=rfl
theorem qp0 (m):jI (m+1)=qaS m (jD m m):=rfl
theorem qhY (m k):(jD m (k+1))=qaM m (jD m k):=rfl
theorem qu3 (m):qap (m+1)=qgm m:=rfl
theorem qxe (m):qcQ (m+1)=qhD m:=rfl
theorem quC (m):Qy (m+1)=qdo m (QR m m):=rfl
theorem qkn (m k):(QR m (k+1))=qdm m (QR m k):=rfl
theorem qyy (m):qgs (m+1)=qir m:=rfl
theorem qxm (m):yT (m+1)=qea m (yT m) (JI m (yT m) m):=rfl
theorem qlC (m k):(JI m (yT m) (k+1))=qeo m (yT m) (JI m (yT m) k):=rfl
theorem qwZ (m):yR (m+1)=qec m (yR m) (JJ m (yR m) m):=rfl
theorem qlM (m k):(JJ m (yR m) (k+1))=qd3 m (yR m) (JJ m (yR m) k):=rfl
theorem qw3 (m):zM (m+1)=qhk m:=rfl
theorem qyI (m):qcd (m+1)=qfh m (qae m m):=rfl
theorem qne (m k):(qae m (k+1))=qfl m (qae m k):=rfl
theorem qx8 (m):qgo (m+1)=qfn m (qal m m):=rfl
theorem qny (m k):(qal m (k+1))=qe9 m (qal m k):=rfl
theorem qt0 (m):qdL (m+1)=qc2 m (Q5 m m):=rfl
theorem qkM (m k):(Q5 m (k+1))=qc7 m (Q5 m k):=rfl
theorem qw7 (m):yx (m+1)=qej m (yx m) (QH m (yx m) m):=rfl
theorem qln (m k):(QH m (yx m) (k+1))=qd8 m (yx m) (QH m (yx m) k):=rfl
theorem qxb (m):qeY (m+1)=qhr m:=rfl
theorem qAT (m):yC (m+1)=qj5 m:=rfl
theorem qCw (m):JK (m+1)=qli m:=rfl
theorem qsn (m):qcF (m+1)=qfx m:=rfl
theorem qAH (m):qhS (m+1)=qgQ m (qbj m m):=rfl
theorem qov (m k):(qbj m (k+1))=qgr m (qbj m k):=rfl
theorem qAR (m):qf1 (m+1)=qgM m (qbe m m):=rfl
theorem qn3 (m k):(qbe m (k+1))=qgR m (qbe m k):=rfl
theorem qu5 (m):qdY (m+1)=qcY m (QX m m):=rfl
theorem qkX (m k):(QX m (k+1))=qc0 m (QX m k):=rfl
theorem qAj (m):qez (m+1)=qfm m (Jt m m):=rfl
theorem qnm (m k):(Jt m (k+1))=qfu m (Jt m k):=rfl
theorem qqA (m):zx (m+1)=qbB m (zx m) (jp m (zx m) m):=rfl
theorem qiz (m k):(jp m (zx m) (k+1))=qbw m (zx m) (jp m (zx m) k):=rfl
theorem qw5 (m):qeX (m+1)=qer m (JE m m):=rfl
theorem qlp (m k):(JE m (k+1))=qep m (JE m k):=rfl
theorem qxZ (m):qf6 (m+1)=qie m:=rfl
theorem qxU (m):qgk (m+1)=qig m:=rfl
theorem qAD (m):qib (m+1)=qgd m (qa7 m m):=rfl
theorem qoK (m k):(qa7 m (k+1))=qg0 m (qa7 m k):=rfl
theorem qsT (m):JL (m+1)=qfw m:=rfl
theorem qwH (m):yw (m+1)=qef m (yw m) (QG m (yw m) m):=rfl
theorem qlW (m k):(QG m (yw m) (k+1))=qd6 m (yw m) (QG m (yw m) k):=rfl
theorem qAO (m):qfL (m+1)=qgZ m (Jm m m):=rfl
theorem qoF (m k):(Jm m (k+1))=qgA m (Jm m k):=rfl
theorem qtk (m):zK (m+1)=qb7 m (zK m) (jH m (zK m) m):=rfl
theorem qjj (m k):(jH m (zK m) (k+1))=qce m (zK m) (jH m (zK m) k):=rfl
theorem qC1 (m):qfH (m+1)=qk5 m:=rfl
theorem qw9 (m):qbk (m+1)=qed m (QF m m):=rfl
theorem qlK (m k):(QF m (k+1))=qd5 m (QF m k):=rfl
theorem qq6 (m):qbE (m+1)=qbx m (qk m m).1 (qk m m).2.1 (qk m m).2.2.1 (qk m m).2.2.2:=rfl
theorem qiG (m k):(qk m (k+1)).1=qbq m (qk m k).1 (qk m k).2.1 (qk m k).2.2.1 (qk m k).2.2.2:=rfl
theorem qiA (m k):(qk m (k+1)).2.1=qbp m (qk m k).1 (qk m k).2.1 (qk m k).2.2.1 (qk m k).2.2.2:=rfl
theorem qiE (m k):(qk m (k+1)).2.2.1=qbz m (qk m k).1 (qk m k).2.1 (qk m k).2.2.1 (qk m k).2.2.2:=rfl
theorem qix (m k):(qk m (k+1)).2.2.2=qbt m (qk m k).1 (qk m k).2.1 (qk m k).2.2.1 (qk m k).2.2.2:=rfl
theorem qyv (m):qa6 (m+1)=qih m:=rfl
theorem qtL (m):qaI (m+1)=qfA m:=rfl
theorem qsP (m):qcC (m+1)=qcg m (Qu m m):=rfl
theorem qjI (m k):(Qu m (k+1))=qcx m (Qu m k):=rfl
theorem qAV (m):qhP (m+1)=qgq m (J8 m m):=rfl
theorem qoN (m k):(J8 m (k+1))=qgP m (J8 m k):=rfl
theorem qxh (m):qe2 (m+1)=qhd m:=rfl
theorem qtW (m):yl (m+1)=qda m (yl m) (Q8 m (yl m) m):=rfl
theorem qkm (m k):(Q8 m (yl m) (k+1))=qdk m (yl m) (Q8 m (yl m) k):=rfl
theorem quf (m):qdX (m+1)=qgc m:=rfl
theorem qAW (m):jr (m+1)=qgW m (jr m) (qbl m (jr m) m):=rfl
theorem qnV (m k):(qbl m (jr m) (k+1))=qgT m (jr m) (qbl m (jr m) k):=rfl
theorem qxt (m):qeV (m+1)=qee m (JM m m):=rfl
theorem qlJ (m k):(JM m (k+1))=qex m (JM m k):=rfl
theorem qA5 (m):qhR (m+1)=qge m (qbm m m):=rfl
theorem qop (m k):(qbm m (k+1))=qf7 m (qbm m k):=rfl
theorem qyL (m):qgE (m+1)=qfk m (qat m m):=rfl
theorem qnA (m k):(qat m (k+1))=qfa m (qat m k):=rfl
theorem qxP (m):qf9 (m+1)=qii m:=rfl
theorem qvq (m):qdp (m+1)=qgv m:=rfl
theorem qvc (m):Qo (m+1)=qgg m:=rfl
theorem qxr (m):qcN (m+1)=qd4 m (JG m m):=rfl
theorem qlZ (m k):(JG m (k+1))=qeD m (JG m k):=rfl
theorem qsA (m):qaH (m+1)=qfG m:=rfl
theorem qzJ (m):jN (m+1)=qio m:=rfl
theorem qzi (m):qaR (m+1)=qij m:=rfl
theorem qAN (m):qaV (m+1)=qjO m:=rfl
theorem qui (m):yt (m+1)=qdj m (yt m) (QT m (yt m) m):=rfl
theorem qkT (m k):(QT m (yt m) (k+1))=qdf m (yt m) (QT m (yt m) k):=rfl
theorem qAE (m):qfX (m+1)=qgG m (qbg m m):=rfl
theorem qoZ (m k):(qbg m (k+1))=qgF m (qbg m k):=rfl
theorem qy6 (m):qgu (m+1)=qfg m (qaj m m):=rfl
theorem qnl (m k):(qaj m (k+1))=qfs m (qaj m k):=rfl
theorem quI (m):qdB (m+1)=qdc m (Jb m m):=rfl
theorem qkS (m k):(Jb m (k+1))=qc5 m (Jb m k):=rfl
theorem qA7 (m):qhX (m+1)=qjs m:=rfl
theorem qzw (m):qgC (m+1)=qfj m (qau m m):=rfl
theorem qni (m k):(qau m (k+1))=qft m (qau m k):=rfl
theorem qxT (m):qew (m+1)=qik m:=rfl
theorem qr1 (m):qcE (m+1)=qfF m:=rfl
theorem qtl (m):qcB (m+1)=qcz m (QD m m):=rfl
theorem qj7 (m k):(QD m (k+1))=qcj m (QD m k):=rfl
theorem qk9 (m):law53_RatchetReceive (m+1)=qaD m:=rfl
end Go.AmYtbpnmbmdbblehaaGreat
namespace Go.GxYtbpnmbmdbblehaaGreat
noncomputable def size:T→Nat:=T.para λ _ rs=>1+rs.sum
theorem qG (t:T):size t=1+(t.kids.map size).sum:=T.para_eq _ _
theorem size_pos (t:T):1≤size t:=by rw [qG];omega
theorem qDV (l:List T):l.length≤(l.map size).sum:=by
 induction l with
 | nil=>simp
 | cons x l ih=>have:=size_pos x;simp only [List.length_cons,List.map_cons,List.sum_cons];omega
theorem qiY (l:List T) (x:T) (h:x∈l):size x≤(l.map size).sum:=by
 induction l with
 | nil=>cases h
 | cons y l ih =>
   simp only [List.map_cons,List.sum_cons]
   rcases List.mem_cons.1 h with rfl | h
   ·omega
   ·have:=ih h;omega
theorem yO (t:T) (x:T) (h:x∈t.kids):size x<size t:=by
 have:=qiY t.kids x h
 rw [qG t];omega
theorem yM (t:T):t.kids.length<size t:=by
 have:=qDV t.kids
 rw [qG t];omega
def sgn (a b:Int):Int:=if a<b then -1 else if b<a then 1 else 0
def thn (x y:Int):Int:=if x=0 then y else x
structure Cmp {α : Type} (f : α → α → Int):Prop where
 rng:∀ a b,f a b=-1∨f a b=0∨f a b=1
 anti:∀ a b,f b a=- f a b
 trans:∀ a b c,f a b=-1→f b c=-1→f a c=-1
 same:∀ a b c,f a b=0→f b c=f a c
theorem Cmp.thn {α : Type} {f g : α → α → Int} (hf:Cmp f) (hg:Cmp g):Cmp λ a b=>thn (f a b) (g a b):=by
 constructor
 ·intro a b
  have:=hf.rng a b;have:=hg.rng a b
  unfold GxYtbpnmbmdbblehaaGreat.thn;split<;>omega
 ·intro a b
  have:=hf.anti a b;have:=hg.anti a b
  unfold GxYtbpnmbmdbblehaaGreat.thn;split<;>split<;>omega
 ·intro a b c h1 h2
  have a1:=hf.anti a b;have a2:=hf.anti b c;have a3:=hf.anti a c
  have t1:=hf.trans a b c;have t2:=hg.trans a b c
  have s1:=hf.same a b c;have s2:=hf.same c b a
  have r1:=hf.rng a b;have r2:=hf.rng b c;have r3:=hf.rng a c
  unfold GxYtbpnmbmdbblehaaGreat.thn at h1 h2 ⊢
  by_cases x1:f a b=0
  ·by_cases x2:f b c=0
   ·rw [if_pos x1] at h1
    rw [if_pos x2] at h2
    rw [if_pos (by rw [← s1 x1];exact x2)]
    exact t2 h1 h2
   ·rw [if_neg x2] at h2
    rw [if_neg (by rw [← s1 x1];exact x2),← s1 x1]
    exact h2
  ·rw [if_neg x1] at h1
   by_cases x2:f b c=0
   ·have:=s2 (by omega)
    rw [if_neg (by omega)]
    omega
   ·rw [if_neg x2] at h2
    have:=t1 h1 h2
    rw [if_neg (by omega)]
    exact this
 ·intro a b c h
  have x1:f a b=0:=by
   unfold GxYtbpnmbmdbblehaaGreat.thn at h
   split at h
   ·assumption
   ·exact absurd h (by assumption)
  have x2:g a b=0:=by
   unfold GxYtbpnmbmdbblehaaGreat.thn at h
   rwa [if_pos x1] at h
  show GxYtbpnmbmdbblehaaGreat.thn _ _=GxYtbpnmbmdbblehaaGreat.thn _ _
  rw [hf.same a b c x1,hg.same a b c x2]
theorem Cmp.on {α β : Type} {f : β → β → Int} (hf:Cmp f) (p : α → β):Cmp λ a b=>f (p a) (p b) :=
 ⟨λ _ _=>hf.rng _ _,λ _ _=>hf.anti _ _,λ _ _ _=>hf.trans _ _ _,λ _ _ _=>hf.same _ _ _⟩
theorem qpn:Cmp sgn:=by
 constructor
 ·intro a b;unfold sgn;split<;>(try split)<;>omega
 ·intro a b;unfold sgn;split<;>split<;>(try split)<;>omega
 ·intro a b c;unfold sgn;split<;>split<;>(try split)<;>(try split)<;>omega
 ·intro a b c;unfold sgn;split<;>split<;>(try split)<;>(try split)<;>omega
theorem qjw {a b:Int} (h:sgn a b=0):a=b:=by unfold sgn at h;split at h<;>(try split at h)<;>omega
theorem qGv (a:Int):sgn a a=0:=by unfold sgn;split<;>(try split)<;>omega
open Lib (compareBytes)
theorem qv8 (a:List UInt8):compareBytes a a=0:=by
 induction a with
 | nil=>rfl
 | cons x a ih=>simp [compareBytes,ih]
theorem ql4:∀ a b:List UInt8,compareBytes a b=-1∨compareBytes a b=0∨compareBytes a b=1
 | [],[]=>by simp [compareBytes]
 | [],_::_=>by simp [compareBytes]
 | _::_,[]=>by simp [compareBytes]
 | x::a,y::b=>by
   unfold compareBytes
   split
   ·simp
   ·split
    ·simp
    ·exact ql4 a b
theorem qvy:∀ a b:List UInt8,compareBytes b a=- compareBytes a b
 | [],[]=>by simp [compareBytes]
 | [],_::_=>by simp [compareBytes]
 | _::_,[]=>by simp [compareBytes]
 | x::a,y::b=>by
   have:=qvy a b
   unfold compareBytes
   simp only [UInt8.lt_iff_toNat_lt]
   split<;>split<;>(try split)<;>omega
theorem qkt:∀ a b:List UInt8,compareBytes a b=0→a=b
 | [],[],_=>rfl
 | [],_::_,h=>by simp [compareBytes] at h
 | _::_,[],h=>by simp [compareBytes] at h
 | x::a,y::b,h=>by
   unfold compareBytes at h
   simp only [UInt8.lt_iff_toNat_lt] at h
   split at h
   ·omega
   ·split at h
    ·omega
    ·rw [qkt a b h,UInt8.toNat_inj.1 (show x.toNat=y.toNat by omega)]
theorem qsl:∀ a b c:List UInt8,compareBytes a b=-1→compareBytes b c=-1→compareBytes a c=-1
 | [],_,[],h1,h2=>by
   rename_i b
   cases b<;>simp [compareBytes] at h1 h2
 | [],_,_::_,_,_=>by simp [compareBytes]
 | _::_,[],_,h1,_=>by simp [compareBytes] at h1
 | _::_,_::_,[],_,h2=>by simp [compareBytes] at h2
 | x::a,y::b,z::c,h1,h2=>by
   have ih:=qsl a b c
   unfold compareBytes at h1 h2 ⊢
   simp only [UInt8.lt_iff_toNat_lt] at h1 h2 ⊢
   split at h1
   ·split at h2
    ·rw [if_pos (by omega)]
    ·split at h2
     ·omega
     ·rw [if_pos (by omega)]
   ·split at h1
    ·omega
    ·split at h2
     ·rw [if_pos (by omega)]
     ·split at h2
      ·omega
      ·rw [if_neg (by omega),if_neg (by omega)];exact ih h1 h2
theorem qG5:Cmp compareBytes :=
 ⟨ql4,qvy,qsl,λ a b c h=>by rw [qkt a b h]⟩
def Qs:List (T→Int)→List T→Int
 | r::rs,b::bs=>thn (r b) (Qs rs bs)
 | _,_=>0
noncomputable def qiu (a b:T):Int :=
 thn (sgn (size a) (size b)) (thn (sgn a.kind b.kind) (thn (compareBytes a.name b.name) (thn (sgn a.sort b.sort) (sgn a.kids.length b.kids.length))))
noncomputable def qp:T→T→Int:=T.para λ a rs b=>thn (qiu a b) (Qs rs b.kids)
theorem qf0 (a b:T):qp a b=thn (qiu a b) (Qs (a.kids.map qp) b.kids):=congrFun (T.para_eq _ _) b
theorem qdA:Cmp qiu :=
 (qpn.on λ t:T=>(size t:Int)).thn ((qpn.on T.kind).thn ((qG5.on T.name).thn ((qpn.on T.sort).thn (qpn.on λ t:T=>(t.kids.length:Int)))))
theorem qfD {x y:Int} (h:thn x y=0):x=0∧y=0:=by unfold thn at h;split at h<;>omega
theorem qoq {a b:T} (h:qiu a b=0):a.kind=b.kind∧a.name=b.name∧a.sort=b.sort∧a.kids.length=b.kids.length:=by
 unfold qiu at h
 obtain ⟨_,h⟩:=qfD h
 obtain ⟨h2,h⟩:=qfD h
 obtain ⟨h3,h⟩:=qfD h
 obtain ⟨h4,h5⟩:=qfD h
 have:=qjw h5
 exact ⟨qjw h2,qkt _ _ h3,qjw h4,by omega⟩
theorem qEN (a:T):qiu a a=0:=by
 unfold qiu thn
 simp [qGv,qv8]
theorem T.ext {a b:T} (h1:a.kind=b.kind) (h2:a.name=b.name) (h3:a.sort=b.sort) (h4:a.kids=b.kids):a=b:=by
 obtain ⟨k,n,s,l⟩:=a
 obtain ⟨k',n',s',l'⟩:=b
 simp only [T.kind,T.name,T.sort,T.kids] at h1 h2 h3 h4
 rw [h1,h2,h3,h4]
theorem qkz (a:T):qp a a=0:=by
 refine T.ind (P := λ a=>qp a a=0) ?_ a
 intro a ih
 rw [qf0,qEN,thn,if_pos rfl]
 generalize a.kids=l at *
 induction l with
 | nil=>rfl
 | cons x l ihl =>
   rw [List.map_cons,Qs,ih x (List.mem_cons_self ..),thn,if_pos rfl]
   exact ihl λ k hk=>ih k (List.mem_cons_of_mem _ hk)
theorem Jv (a:T):∀ b,qp a b=0→a=b:=by
 refine T.ind (P := λ a=>∀ b,qp a b=0→a=b) ?_ a
 intro a ih b h
 rw [qf0] at h
 obtain ⟨h1,h2⟩:=qfD h
 obtain ⟨k1,k2,k3,k4⟩:=qoq h1
 refine T.ext k1 k2 k3 ?_
 generalize a.kids=l at *
 generalize b.kids=m at *
 clear h h1
 induction l generalizing m with
 | nil=>exact (List.length_eq_zero_iff.1 k4.symm).symm
 | cons x l ihl =>
   cases m with
   | nil=>simp at k4
   | cons y m =>
     rw [List.map_cons,Qs] at h2
     obtain ⟨h3,h4⟩:=qfD h2
     rw [ih x (List.mem_cons_self ..) y h3,ihl (λ k hk=>ih k (List.mem_cons_of_mem _ hk)) m h4 (by simpa using k4)]
def qsI (a:T):Prop:=(∀ b,qp a b=-1∨qp a b=0∨qp a b=1)∧(∀ b,qp b a=- qp a b)∧(∀ b c,qp a b=-1→qp b c=-1→qp a c=-1)
theorem qy1:∀ l m:List T,(∀ k∈l,qsI k)→Qs (l.map qp) m=-1∨Qs (l.map qp) m=0∨Qs (l.map qp) m=1
 | [],_,_=>by simp [Qs]
 | _::_,[],_=>by simp [Qs]
 | x::l,y::m,h=>by
   rw [List.map_cons,Qs]
   have h1:=(h x (List.mem_cons_self ..)).1 y
   have h2:=qy1 l m λ k hk=>h k (List.mem_cons_of_mem _ hk)
   unfold thn;split<;>omega
theorem qvV:∀ l m:List T,(∀ k∈l,qsI k)→Qs (m.map qp) l=- Qs (l.map qp) m
 | [],[],_=>by simp [Qs]
 | [],_::_,_=>by simp [Qs]
 | _::_,[],_=>by simp [Qs]
 | x::l,y::m,h=>by
   rw [List.map_cons,Qs,List.map_cons,Qs]
   have h1:=(h x (List.mem_cons_self ..)).2.1 y
   have h2:=qvV l m λ k hk=>h k (List.mem_cons_of_mem _ hk)
   unfold thn;split<;>split<;>omega
theorem qtR:∀ l m n:List T,(∀ k∈l,qsI k)→l.length=m.length→m.length=n.length→Qs (l.map qp) m=-1→Qs (m.map qp) n=-1→Qs (l.map qp) n=-1
 | [],_,_,_,_,_,h,_=>by simp [Qs] at h
 | _::_,[],_,_,h,_,_,_=>by simp at h
 | _::_,_::_,[],_,_,h,_,_=>by simp at h
 | x::l,y::m,z::n,h,e1,e2,h1,h2=>by
   rw [List.map_cons,Qs] at h1 h2 ⊢
   have hx:=h x (List.mem_cons_self ..)
   have ih:=qtR l m n (λ k hk=>h k (List.mem_cons_of_mem _ hk)) (by simpa using e1) (by simpa using e2)
   have t1:=hx.2.2 y z
   by_cases x1:qp x y=0
   ·have:=Jv x y x1
    subst this
    rw [thn,if_pos x1] at h1
    by_cases x2:qp x z=0
    ·rw [thn,if_pos x2] at h2 ⊢
     exact ih h1 h2
    ·rw [thn,if_neg x2] at h2 ⊢
     exact h2
   ·rw [thn,if_neg x1] at h1
    by_cases x2:qp y z=0
    ·have:=Jv y z x2
     subst this
     rw [thn,if_neg x1]
     exact h1
    ·rw [thn,if_neg x2] at h2
     have:=t1 h1 h2
     rw [thn,if_neg (by omega)]
     exact this
theorem qDA (a:T):qsI a:=by
 refine T.ind (P:=qsI) ?_ a
 intro a ih
 refine ⟨λ b=>?_,λ b=>?_,λ b c h1 h2=>?_⟩
 ·rw [qf0]
  have h1:=qdA.rng a b
  have h2:=qy1 a.kids b.kids ih
  unfold thn;split<;>omega
 ·rw [qf0,qf0]
  have h1:=qdA.anti a b
  have h2:=qvV a.kids b.kids ih
  unfold thn;split<;>split<;>omega
 ·rw [qf0] at h1 h2 ⊢
  by_cases x1:qiu a b=0
  ·rw [thn,if_pos x1] at h1
   have e:=qdA.same a b c x1
   by_cases x2:qiu b c=0
   ·rw [thn,if_pos x2] at h2
    rw [thn,if_pos (by rw [← e];exact x2)]
    exact qtR _ _ _ ih (qoq x1).2.2.2 (qoq x2).2.2.2 h1 h2
   ·rw [thn,if_neg x2] at h2
    rw [thn,if_neg (by rw [← e];exact x2),← e]
    exact h2
  ·rw [thn,if_neg x1] at h1
   by_cases x2:qiu b c=0
   ·have e1:=qdA.anti b c
    have e2:=qdA.same c b a (by omega)
    have e3:=qdA.anti a b
    have e4:=qdA.anti a c
    rw [thn,if_neg (by omega)];omega
   ·rw [thn,if_neg x2] at h2
    have:=qdA.trans a b c h1 h2
    rw [thn,if_neg (by omega)];exact this
theorem zL:Cmp qp :=
 ⟨λ a=>(qDA a).1,λ a b=>(qDA a).2.1 b,λ a=>(qDA a).2.2,λ a b c h=>by rw [Jv a b h]⟩
theorem qHl (a b:T):qp a b=0↔a=b:=⟨Jv a b,λ h=>by rw [h];exact qkz b⟩
theorem qng:∀ a b:List UInt8,Op.bytesLess a b=decide (compareBytes a b=-1)
 | [],[]=>by simp [Op.bytesLess,compareBytes]
 | [],_::_=>by simp [Op.bytesLess,compareBytes]
 | _::_,[]=>by simp [Op.bytesLess,compareBytes]
 | x::a,y::b=>by
   rw [Op.bytesLess,compareBytes,qng a b]
   by_cases h1:x<y
   ·simp [h1]
   ·by_cases h2:y<x
    ·have:¬ x=y := λ e=>by rw [e] at h2;exact h1 (by rw [e];exact h2)
     simp [h1,h2,this]
    ·have:x=y:=UInt8.toNat_inj.1 (by rw [UInt8.lt_iff_toNat_lt] at h1 h2;omega)
     simp [this]
end Go.GxYtbpnmbmdbblehaaGreat
namespace Go.GxYtbpnmbmdbblehaaGreat
def qjz:List (Int→Int)→Int→Int
 | [],m=>m
 | f::fs,m=>if f m<0 then -1 else qjz fs (f m)
noncomputable def qaA:T→Int→Int:=T.para λ t rs m=>if m≤0∨40<t.name.length then -1 else qjz rs (m-1)
theorem qBN (t:T) (m:Int):qaA t m=if m≤0∨40<t.name.length then -1 else qjz (t.kids.map qaA) (m-1):=congrFun (T.para_eq _ _) m
theorem qoY (t:T):∀ m,qaA t m<0∧qaA t m=-1∨0≤qaA t m∧qaA t m=m-size t:=by
 refine T.ind (P := λ t=>∀ m,qaA t m<0∧qaA t m=-1∨0≤qaA t m∧qaA t m=m-size t) ?_ t
 intro t ih m
 have hL:∀ l:List T,(∀ k∈l,k∈t.kids)→∀ m,0≤m→(qjz (l.map qaA) m<0∧qjz (l.map qaA) m=-1∨0≤qjz (l.map qaA) m∧qjz (l.map qaA) m=m-((l.map size).sum:Nat)):=by
  intro l
  induction l with
  | nil=>intro _ m hm;right;simp [qjz];exact hm
  | cons x l ihl =>
    intro hl m hm
    simp only [List.map_cons,qjz,List.sum_cons]
    have h1:=ih x (hl x (List.mem_cons_self ..)) m
    by_cases h2:qaA x m<0
    ·rw [if_pos h2];left;exact ⟨by omega,rfl⟩
    ·rw [if_neg h2]
     have h3:=ihl (λ k hk=>hl k (List.mem_cons_of_mem _ hk)) (qaA x m) (by omega)
     omega
 rw [qBN,qG]
 split
 ·left;exact ⟨by omega,rfl⟩
 ·have:=hL t.kids (λ _ h=>h) (m-1) (by omega)
  omega
noncomputable def Qk:T→Nat:=T.para λ _ rs=>rs.foldl max 0+1
theorem qbG (t:T):Qk t=(t.kids.map Qk).foldl max 0+1:=T.para_eq _ _
theorem qx4 (l:List Nat):∀ (a b:Nat),a≤b→(∀ x∈l,x≤b)→l.foldl max a≤b:=by
 induction l with
 | nil=>intro a b h _;exact h
 | cons x l ih=>intro a b h hx;exact ih _ _ (Nat.max_le.2 ⟨h,hx x (List.mem_cons_self ..)⟩) λ y hy=>hx y (List.mem_cons_of_mem _ hy)
theorem qB3 (t:T):Qk t≤size t:=by
 refine T.ind (P := λ t=>Qk t≤size t) ?_ t
 intro t ih
 rw [qbG,qG]
 have:(t.kids.map Qk).foldl max 0≤(t.kids.map size).sum:=by
  refine qx4 _ _ _ (Nat.zero_le _) λ x hx=>?_
  obtain ⟨k,hk,rfl⟩:=List.mem_map.1 hx
  exact Nat.le_trans (ih k hk) (qiY _ _ hk)
 omega
def qhy (c:Int):Bool:=decide (97≤c∧c≤122)||decide (65≤c∧c≤90)
def qqV (c:Int):Bool:=decide (48≤c∧c≤57)
def JV (c:Int):Bool:=qhy c||qqV c||decide (c=95)||decide (c=35)
def jh (l:List UInt8):Bool:=decide (0<l.length)&&decide (l.length≤24)&&qhy ((l.getD 0 0).toNat:Int)&&l.all λ c=>JV (c.toNat:Int)
def qet (k so:Int) (n:Nat) (ok:Bool):Int :=
 if k=1∨k=2 then (if so<0∨5<so∨0<n then 1 else if ok then 0 else 2)
 else if k=3 then (if so≠0 then 1 else if ok then (if 8<n then 3 else 0) else 2)
 else 1
def Qp (t:T):Int:=qet t.kind t.sort t.kids.length (jh t.name)
noncomputable def zC:T→Int:=T.para λ t rs=>rs.foldl thn (Qp t)
theorem qbW (t:T):zC t=(t.kids.map zC).foldl thn (Qp t):=T.para_eq _ _
theorem j8 {x:Int} (h:x≠0) (y:Int):thn x y=x:=if_neg h
theorem qH (l:List Int):∀ {x:Int},x≠0→l.foldl thn x=x:=by
 induction l with
 | nil=>intro x _;rfl
 | cons y l ih=>intro x h;rw [List.foldl_cons,j8 h];exact ih h
theorem j7 (l:List Int) (x:Int):(x::l).foldl thn 0=l.foldl thn x:=rfl
theorem qk6 {t:T} (h:zC t=0):Qp t=0∧(∀ k∈t.kids,zC k=0):=by
 rw [qbW] at h
 by_cases h0:Qp t=0
 ·refine ⟨h0,?_⟩
  rw [h0] at h
  generalize t.kids=l at *
  clear h0
  induction l with
  | nil=>intro k hk;cases hk
  | cons x l ih =>
    rw [List.map_cons,j7] at h
    by_cases hx:zC x=0
    ·rw [hx] at h
     intro k hk
     rcases List.mem_cons.1 hk with rfl | hk
     ·exact hx
     ·exact ih h k hk
    ·rw [qH _ hx] at h;exact absurd h hx
 ·rw [qH _ h0] at h;exact absurd h h0
noncomputable def qs (t:T):Int:=if zC t≠0 then zC t else if 400<size t∨40<Qk t then 3 else 0
theorem qyo (l:List Nat):∀ a:Nat,a≤l.foldl max a:=by
 induction l with
 | nil=>intro a;exact Nat.le_refl _
 | cons x l ih=>intro a;exact Nat.le_trans (Nat.le_max_left a x) (ih _)
noncomputable instance:DecidableEq T := λ _ _=>Classical.propDecidable _
noncomputable def yy (a b:T):Bool:=decide (a=b)
noncomputable def qmu:List T→Int→Bool
 | [],_=>true
 | x::l,m=>if qaA x m<0 then false else qmu l (qaA x m)
theorem qvM:∀ (l:List T) (m:Int),0≤m→qmu l m=true→((l.map size).sum:Nat)≤m
 | [],m,hm,_=>by simpa using hm
 | x::l,m,hm,h=>by
   rw [qmu] at h
   by_cases hx:qaA x m<0
   ·rw [if_pos hx] at h;exact absurd h (by decide)
   ·rw [if_neg hx] at h
    have h1:=qoY x m
    have h2:=qvM l (qaA x m) (by omega) h
    simp only [List.map_cons,List.sum_cons]
    omega
def jx:List (List UInt8 × Int × Int × Int):=[
 ([112,97,105,114],2,2,1),
 ([101,110,99],2,2,1),
 ([97,101,110,99],2,2,1),
 ([112,107],1,1,1),
 ([115,105,103,110],2,2,1),
 ([104,97,115,104],1,1,1),
 ([120,111,114],2,8,1),
 ([122,101,114,111],0,0,1),
 ([101,120,112],2,2,1),
 ([109,117,108],2,8,1),
 ([105,110,118],1,1,1),
 ([111,110,101],0,0,1),
 ([115,107],1,1,2),
 ([115,104,107],2,2,2),
 ([110,101,119],1,8,2),
 ([102,115,116],1,1,3),
 ([115,110,100],1,1,3),
 ([100,101,99],2,2,3),
 ([97,100,101,99],2,2,3),
 ([111,112,101,110],2,2,3),
 ([114,101,97,100],1,1,3)]
def quE (l:List (List UInt8 × Int × Int × Int)) (n:List UInt8):Int × Int × Int:=((l.find? λ r=>r.1==n).map (·.2)).getD (0,0,0)
theorem qFg (r:List UInt8 × Int × Int × Int) (l:List (List UInt8 × Int × Int × Int)) (n:List UInt8):quE (r::l) n=if (r.1==n)=true then r.2 else quE l n:=by
 unfold quE
 rw [List.find?_cons]
 cases h:r.1==n<;>simp
def qHK (l:List (List UInt8 × Int × Int × Int)) (n:List UInt8):Bool:=l.any λ r=>r.1==n
def qlc (l:List (List UInt8 × Int × Int × Int)) (n:List UInt8) (k:Int):Bool:=qHK l n&&decide ((quE l n).1≤k)&&decide (k≤(quE l n).2.1)
theorem qFp (r:List UInt8 × Int × Int × Int) (l:List (List UInt8 × Int × Int × Int)) (n:List UInt8) (k:Int) :
  qlc (r::l) n k=if (r.1==n)=true then decide (r.2.1≤k)&&decide (k≤r.2.2.1) else qlc l n k:=by
 unfold qlc
 rw [qFg]
 unfold qHK
 rw [List.any_cons]
 cases h:r.1==n<;>simp
def qmt:List UInt8:=[112,97,105,114]
def qdG:List UInt8:=[101,110,99]
def qhK:List UInt8:=[97,101,110,99]
def nPk:List UInt8:=[112,107]
def qek:List UInt8:=[115,105,103,110]
def qcU:List UInt8:=[120,111,114]
def qbn:List UInt8:=[122,101,114,111]
def qcV:List UInt8:=[101,120,112]
def qeN:List UInt8:=[109,117,108]
def Qh:List UInt8:=[105,110,118]
def qgN:List UInt8:=[111,110,101]
def nSk:List UInt8:=[115,107]
def qqn:List UInt8:=[115,104,107]
def qhw:List UInt8:=[110,101,119]
def qGf:List UInt8:=[102,115,116]
def quS:List UInt8:=[115,110,100]
def qGk:List UInt8:=[100,101,99]
def qCE:List UInt8:=[97,100,101,99]
def qDt:List UInt8:=[111,112,101,110]
def qDp:List UInt8:=[114,101,97,100]
def zT:T := .mk 0 [] 0 []
def kid (t:T) (i:Nat):T:=t.kids.getD i zT
def apT (n:List UInt8) (l:List T):T := .mk 3 n 0 l
def isN (t:T) (n:List UInt8):Bool:=t.kind==3&&t.name==n
def qA (n:List UInt8):Int × Int × Int:=((jx.find? λ r=>r.1==n).map (·.2)).getD (0,0,0)
def J1 (t:T):Bool :=
 if t.name=qhw then decide ((kid t 0).kind≠2)
 else if t.name=nSk∨t.name=qqn then t.kids.any λ k=>decide (k.kind=3)||decide (k.sort≠1) else false
def qaC (t:T):Int :=
 if t.kind≠3 then 0 else if (qA t.name).2.2=0 then 10 else if (t.kids.length:Int)<(qA t.name).1∨(qA t.name).2.1<(t.kids.length:Int) then 6 else if J1 t then 10 else 0
noncomputable def qP:T→Int:=T.para λ t rs=>if t.kind≠3 then 0 else rs.foldl thn (qaC t)
theorem qje (t:T):qP t=if t.kind≠3 then 0 else (t.kids.map qP).foldl thn (qaC t):=T.para_eq _ _
noncomputable def qg4 (t:T):Int:=thn (qs t) (qP t)
noncomputable def zQ (t:T):Bool :=
 if t.name=qGf∨t.name=quS then isN (kid t 0) qmt
 else if t.name=qGk then isN (kid t 0) qdG&&yy (kid (kid t 0) 1) (kid t 1)
 else if t.name=qCE then isN (kid t 0) qhK&&isN (kid (kid t 0) 1) nPk&&yy (kid (kid (kid t 0) 1) 0) (kid t 1)
 else if t.name=qDt then isN (kid t 0) qek&&isN (kid t 1) nPk&&yy (kid (kid t 0) 1) (kid (kid t 1) 0)
 else if t.name=qDp then isN (kid t 0) qek else false
noncomputable def qiq (t:T):T:=if zQ t then kid (kid t 0) (if t.name=quS then 1 else 0) else t
def qcb (t:T):Bool:=t.kind==3&&(t.name==qeN||t.name==Qh||t.name==qgN)
abbrev Pw:=T × Int
noncomputable def yn:List Pw→T→Int→List Pw
 | [],t,n=>[(t,n)]
 | (x,m)::l,t,n=>if qp t x=-1 then (t,n)::(x,m)::l else if qp t x=0 then (if m+n=0 then l else (x,m+n)::l) else (x,m)::yn l t n
def arK (t:T):Bool := !(t.name==qgN&&t.kids.length != 0||t.name==Qh&&t.kids.length != 1||t.name==qeN&&decide (t.kids.length<2))
noncomputable def arT:T→Bool:=T.para λ t rs => !qcb t||(arK t&&rs.all id)
theorem qti (t:T):arT t=(!qcb t||(arK t&&(t.kids.map arT).all id)):=T.para_eq _ _
def qaq (t:T) (n:Int):Int:=if t.name=Qh then -n else n
noncomputable def y8:T→List Pw→Int→List Pw:=T.para λ t rs l n=>if qcb t then rs.foldl (λ l f=>f l (qaq t n)) l else yn l t n
theorem qfV (t:T) (l:List Pw) (n:Int):y8 t l n=if qcb t then (t.kids.map y8).foldl (λ l f=>f l (qaq t n)) l else yn l t n:=by
 have h:y8 t = λ l n=>if qcb t then (t.kids.map y8).foldl (λ l f=>f l (qaq t n)) l else yn l t n:=T.para_eq _ _
 rw [h]
noncomputable def ofP (t:T):List Pw × Int :=
 if qs t≠0 then ([],qs t) else if arT t=false then ([],6) else if 200<(y8 t [] 1).length then ([],3) else (y8 t [] 1,0)
noncomputable def pvK (q:Option T) (p:Pw):Int :=
 if qs p.1≠0 then qs p.1 else if qcb p.1 then 1 else if p.2=0∨p.2 < -1000∨1000<p.2 then 7 else match q with | some x=>if 0≤qp x p.1 then 5 else 0 | none=>0
noncomputable def pvL:Option T→List Pw→Int
 | _,[]=>0
 | q,p::l=>thn (pvK q p) (pvL (some p.1) l)
noncomputable def QM (l:List Pw):Int:=if 200<l.length then 3 else pvL none l
def zN (l:List Pw):List T:=l.flatMap λ p=>List.replicate p.2.toNat p.1
def zU (l:List Pw):List T:=l.flatMap λ p=>List.replicate (-p.2).toNat (apT Qh [p.1])
def Jp (o:List T):T:=if o.length=0 then apT qgN [] else if o.length=1 then o.getD 0 zT else apT qeN o
noncomputable def qaw (l:List Pw):T × Int :=
 if QM l≠0 then (zT,QM l) else if 8<(zN l++zU l).length then (zT,3)
 else if qs (Jp (zN l++zU l))≠0 then (zT,qs (Jp (zN l++zU l))) else (Jp (zN l++zU l),0)
def qk8 (l:List Pw):Bool:=l.any λ p=>decide (p.2 < -1000)||decide (1000<p.2)
noncomputable def QC (a b:List Pw):List Pw:=b.foldl (λ l p=>yn l p.1 p.2) a
noncomputable def qjq (a b:List Pw):List Pw × Int :=
 if QM a≠0 then ([],QM a) else if QM b≠0 then ([],QM b) else if qk8 (QC a b) then ([],7) else if 200<(QC a b).length then ([],3) else (QC a b,0)
noncomputable def zi:List T→List T→List T
 | [],b=>b
 | x::a,[]=>x::a
 | x::a,y::b=>if qp x y=-1 then x::zi a (y::b) else if qp x y=1 then y::zi (x::a) b else zi a b
termination_by a b=>a.length+b.length
noncomputable def jy:T→List T:=T.para λ t rs=>if isN t qbn&&t.kids.isEmpty then [] else if isN t qcU then rs.foldl zi [] else [t]
theorem qj1 (t:T):jy t=if isN t qbn&&t.kids.isEmpty then [] else if isN t qcU then (t.kids.map jy).foldl zi [] else [t]:=T.para_eq _ _
noncomputable def qlS (l:List T):Int:=if 200<l.length then 3 else (l.map qs).foldl thn 0
noncomputable def zI (l:List T):List T:=(l.map jy).foldl zi []
def JH (o:List T):T:=if o.length=0 then apT qbn [] else if o.length=1 then o.getD 0 zT else apT qcU o
noncomputable def qmd (l:List T):T × Int :=
 if qlS l≠0 then (zT,qlS l) else if qs (JH (zI l))≠0 then (zT,3) else (JH (zI l),0)
noncomputable def qha (b:T) (l:List Pw):T × Int :=
 if l.length=0 then (b,0) else if (qaw l).2≠0 then (zT,(qaw l).2) else (apT qcV [b,(qaw l).1],0)
noncomputable def qmR (b e:T):T × Int :=
 if (ofP e).2≠0 then (zT,(ofP e).2)
 else if isN b qcV then
  (if (ofP (kid b 1)).2≠0 then (zT,(ofP (kid b 1)).2)
   else if (qjq (ofP (kid b 1)).1 (ofP e).1).2≠0 then (zT,(qjq (ofP (kid b 1)).1 (ofP e).1).2)
   else qha (kid b 0) (qjq (ofP (kid b 1)).1 (ofP e).1).1)
 else qha b (ofP e).1
def isD (n:List UInt8):Bool:=n==qGf||n==quS||n==qGk||n==qCE||n==qDt||n==qDp
noncomputable def qkN (t:T):T × Int:=if (ofP t).2≠0 then (zT,(ofP t).2) else qaw (ofP t).1
noncomputable def Q7 (t:T):T × Int :=
 if isD t.name then (qiq t,0) else if t.name=qcU then qmd t.kids
 else if t.name=qeN∨t.name=Qh∨t.name=qgN then qkN t
 else if t.name=qcV then qmR (kid t 0) (kid t 1) else (t,0)
noncomputable def zj:T→T × Int:=T.para λ t rs =>
 if t.kind≠3 then (t,0) else if (rs.map (·.2)).foldl thn 0≠0 then (zT,(rs.map (·.2)).foldl thn 0) else Q7 (apT t.name (rs.map (·.1)))
theorem qls (t:T):zj t=if t.kind≠3 then (t,0) else if ((t.kids.map zj).map (·.2)).foldl thn 0≠0 then (zT,((t.kids.map zj).map (·.2)).foldl thn 0) else Q7 (apT t.name ((t.kids.map zj).map (·.1))):=T.para_eq _ _
noncomputable def qhv (t:T):T × Int :=
 if qg4 t≠0 then (zT,qg4 t) else if (zj t).2≠0 then (zT,(zj t).2) else if qs (zj t).1≠0 then (zT,qs (zj t).1) else zj t
def agB (l:List T):Bool:=l.all λ k => !(k.kind==3) && !(k.sort != 1)
def qjb (t:T):Bool:=if t.name=qhw then (kid t 0).kind==2 else agB t.kids
theorem qHJ (k:T) (l:List T):agB (k::l)=((!(k.kind==3) && !(k.sort != 1))&&agB l):=rfl
end Go.GxYtbpnmbmdbblehaaGreat
namespace Go.AmYtbpnmbmdbblehaaGreat
open Go Go.GxYtbpnmbmdbblehaaGreat Go.Lib
theorem qkB (a b:Int):Ev (λ m _=>Js m a b) (sgn a b):=by
 refine Ev.succ ?_
 simp only [qut,qgj]
 unfold sgn
 refine Ev.ite (λ h=>?_) λ h=>?_
 ·exact Ev.ret (by rw [if_pos (qr.1 h)])
 ·rw [qv] at h
  refine Ev.ite (λ h'=>?_) λ h'=>?_
  ·rw [qr] at h'
   exact Ev.ret (by rw [if_neg (by omega),if_pos h'])
  ·rw [qv] at h'
   exact Ev.ret (by rw [if_neg (by omega),if_neg (by omega)])
theorem qry {l:List T} {i:Nat} {x:T} (h:l.drop i=x::l.drop (i+1)):((l.drop i).map size).sum=size x+((l.drop (i+1)).map size).sum:=by
 rw [h,List.map_cons,List.sum_cons]
theorem qq8 (t:T):size t≤1000000000→Ev (λ m _=>yK m t) (size t:Int):=by
 induction t using T.ind with
 | h t ih =>
   intro hs
   refine Ev.succ ?_
   simp only [qzy,qff]
   have hl:=yM t
   have he:=qG t
   have key:=qt (P := λ i=>∀ acc:Nat,acc+((t.kids.drop i).map size).sum≤1000000000→Ev (λ m k=>qak m (yK m) k acc i t.kind t.name t.sort t.kids) ((acc+((t.kids.drop i).map size).sum:Nat):Int)) t.kids (by omega)
    (λ hc acc _=>by
     refine Ev.loop ?_
     simp only [qnx,qfd]
     refine Ev.cf hc ?_
     exact Ev.ret (by simp))
    (λ i x hx hd hc hg hi hP acc ha=>by
     rw [qry hd] at ha ⊢
     refine Ev.loop ?_
     simp only [qnx,qfd]
     refine Ev.ct hc (Ev.some hg ?_)
     rw [qe]
     refine Ev.bind (ih x (List.mem_of_getElem? hx) (by omega)) ?_
     rw [hi,qmP,jg (by omega)]
     refine (hP (acc+size x) (by omega)).res (by congr 1;omega))
   refine Ev.diag (L := λ m k=>qak m (yK m) k 1 0 t.kind t.name t.sort t.kids) ?_
   refine (key 0 (Nat.zero_le _) 1 (by simp;omega)).res (by rw [List.drop_zero,he])
theorem qy3 (a b:Nat):qlf (a:Int) (b:Int)=((max a b:Nat):Int):=by unfold qlf;split<;>omega
theorem qps (a b:Int):Ev (λ m _=>qbY m a b) (sgn a b):=by
 refine Ev.succ ?_
 simp only [qAL,qj6]
 unfold sgn
 refine Ev.ite (λ h=>?_) λ h=>?_
 ·exact Ev.ret (by rw [if_pos (qr.1 h)])
 ·rw [qv] at h
  refine Ev.ite (λ h'=>?_) λ h'=>?_
  ·rw [qr] at h'
   exact Ev.ret (by rw [if_neg (by omega),if_pos h'])
  ·rw [qv] at h'
   exact Ev.ret (by rw [if_neg (by omega),if_neg (by omega)])
theorem qxK (t:T):size t≤1000000000→Ev (λ m _=>ju m t) (size t:Int):=by
 induction t using T.ind with
 | h t ih =>
   intro hs
   refine Ev.succ ?_
   simp only [qAG,qgi]
   have hl:=yM t
   have he:=qG t
   have key:=qt (P := λ i=>∀ acc:Nat,acc+((t.kids.drop i).map size).sum≤1000000000→Ev (λ m k=>qbf m (ju m) k acc t.kids t.kids.length i) ((acc+((t.kids.drop i).map size).sum:Nat):Int)) t.kids (by omega)
    (λ hc acc _=>by
     refine Ev.loop ?_
     simp only [qoH,qgy]
     refine Ev.cf hc ?_
     exact Ev.ret (by simp))
    (λ i x hx hd hc hg hi hP acc ha=>by
     rw [qry hd] at ha ⊢
     refine Ev.loop ?_
     simp only [qoH,qgy]
     refine Ev.ct hc (Ev.some hg ?_)
     rw [qe]
     refine Ev.bind (ih x (List.mem_of_getElem? hx) (by omega)) ?_
     rw [hi,qmP,jg (by omega)]
     refine (hP (acc+size x) (by omega)).res (by congr 1;omega))
   refine Ev.diag (L := λ m k=>qbf m (ju m) k 1 t.kids t.kids.length 0) ?_
   refine (key 0 (Nat.zero_le _) 1 (by simp;omega)).res (by rw [List.drop_zero,he])
theorem qEq (t:T):size t≤1000000000→Ev (λ m _=>yR m t) (Qk t:Int):=by
 induction t using T.ind with
 | h t ih =>
   intro hs
   refine Ev.succ ?_
   simp only [qwZ,qec]
   have hl:=yM t
   have he:=qG t
   have key:=qt (P := λ i=>∀ acc:Nat,acc≤1000000000→Ev (λ m k=>JJ m (yR m) k acc i t.kind t.name t.sort t.kids) ((((t.kids.drop i).map Qk).foldl max acc+1:Nat):Int)) t.kids (by omega)
    (λ hc acc _=>by
     refine Ev.loop ?_
     simp only [qlM,qd3]
     refine Ev.cf hc ?_
     rw [show qf (acc:Int) 1=((acc+1:Nat):Int) by unfold qf;omega,jg (by omega)]
     exact Ev.ret (by simp))
    (λ i x hx hd hc hg hi hP acc ha=>by
     refine Ev.loop ?_
     simp only [qlM,qd3]
     refine Ev.ct hc (Ev.some hg ?_)
     rw [qe]
     have hm:=List.mem_of_getElem? hx
     have h1:=yO t x hm
     have h2:=qB3 x
     refine Ev.bind (ih x hm (by omega)) ?_
     rw [hi,qy3]
     refine (hP (max acc (Qk x)) (by omega)).res ?_
     rw [hd,List.map_cons,List.foldl_cons])
   refine Ev.diag (L := λ m k=>JJ m (yR m) k 0 0 t.kind t.name t.sort t.kids) ?_
   refine (key 0 (Nat.zero_le _) 0 (by omega)).res (by rw [List.drop_zero,qbG])
theorem qz5 (fs:List (T→Int)):Qs fs []=0:=by cases fs<;>rfl
theorem qv7 {l m:List T} {i:Nat} {x y:T} (h1:l.drop i=x::l.drop (i+1)) (h2:m.drop i=y::m.drop (i+1)):Qs ((l.drop i).map qp) (m.drop i)=thn (qp x y) (Qs ((l.drop (i+1)).map qp) (m.drop (i+1))):=by
 rw [h1,h2,List.map_cons];rfl
theorem qzc {l:List T} {i:Nat} {y:T} (h:l[i]? = some y):l.drop i=y::l.drop (i+1):=by
 obtain ⟨hlt,rfl⟩:=List.getElem?_eq_some_iff.1 h
 exact List.drop_eq_getElem_cons hlt
theorem qqs (a b:List UInt8):slt a b=decide (compareBytes a b=-1):=qng a b
theorem qyT (a b:List UInt8):qob (slt a b) (qC a b)=decide (compareBytes a b≠1):=by
 rw [qqs]
 unfold qob qC
 rcases ql4 a b with h | h | h
 ·rw [h];rfl
 ·have:=qkt a b h
  subst this
  rw [h];simp
 ·have:(a==b)=false:=by
    rw [beq_eq_false_iff_ne];intro he;subst he;rw [qv8] at h;omega
  rw [h,this];rfl
theorem qhJ (a:T):size a≤1000000000→∀ b,size b≤1000000000→Ev (λ m _=>zl m a b) (qp a b):=by
 induction a using T.ind with
 | h a ih =>
   intro ha b hb
   refine Ev.succ ?_
   simp only [qtz,qcn,qe]
   have hla:=yM a
   have hlb:=yM b
   rw [qf0]
   unfold qiu
   refine Ev.bind (qq8 a ha) (Ev.bind (qq8 b hb) (Ev.bind (qkB _ _) ?_))
   refine Ev.ite (λ h=>?_) λ h=>?_
   ·rw [bnt,qh] at h
    exact Ev.ret (by rw [j8 (by rw [j8 h];exact h),j8 h])
   rw [bnf,qj] at h
   rw [h,show ∀ y,thn 0 y=y from λ y=>rfl]
   refine Ev.bind (qkB _ _) ?_
   refine Ev.ite (λ h=>?_) λ h=>?_
   ·rw [bnt,qh] at h
    exact Ev.ret (by rw [j8 (by rw [j8 h];exact h),j8 h])
   rw [bnf,qj] at h
   rw [h,show ∀ y,thn 0 y=y from λ y=>rfl]
   refine Ev.ite (λ h=>?_) λ h=>?_
   ·rw [qqs,decide_eq_true_iff] at h
    exact Ev.ret (by rw [h];rfl)
   rw [qqs,decide_eq_false_iff_not] at h
   refine Ev.ite (λ h'=>?_) λ h'=>?_
   ·rw [bnt,qyT,decide_eq_false_iff_not,Decidable.not_not] at h'
    exact Ev.ret (by rw [h'];rfl)
   rw [bnf,qyT,decide_eq_true_iff] at h'
   have h0:compareBytes a.name b.name=0:=by have:=ql4 a.name b.name;omega
   rw [h0,show ∀ y,thn 0 y=y from λ y=>rfl]
   refine Ev.bind (qkB _ _) ?_
   refine Ev.ite (λ h=>?_) λ h=>?_
   ·rw [bnt,qh] at h
    exact Ev.ret (by rw [j8 (by rw [j8 h];exact h),j8 h])
   rw [bnf,qj] at h
   rw [h,show ∀ y,thn 0 y=y from λ y=>rfl]
   refine Ev.bind (qkB _ _) ?_
   refine Ev.ite (λ h=>?_) λ h=>?_
   ·rw [bnt,qh] at h
    exact Ev.ret (by rw [j8 h])
   rw [bnf,qj] at h
   rw [h,show ∀ y,thn 0 y=y from λ y=>rfl]
   have hlen:a.kids.length=b.kids.length:=by have:=qjw h;omega
   have key:=qt (P := λ i=>Ev (λ m k=>Qz m (zl m) k i a.kind a.name a.sort a.kids b.kind b.name b.sort b.kids) (Qs ((a.kids.drop i).map qp) (b.kids.drop i))) a.kids (by omega)
    (λ hc=>by
     refine Ev.loop ?_
     simp only [qj8,qb2]
     refine Ev.cf hc ?_
     exact Ev.ret (by rw [hlen,List.drop_length,qz5]))
    (λ i x hx hd hc hg hi hP=>by
     refine Ev.loop ?_
     simp only [qj8,qb2,qe]
     have hib:i<b.kids.length:=by have:=(List.getElem?_eq_some_iff.1 hx).1;omega
     have hy:=List.getElem?_eq_getElem hib
     have hmx:=List.mem_of_getElem? hx
     have h1:=yO a x hmx
     have h2:=yO b _ (List.mem_of_getElem? hy)
     refine Ev.ct hc (Ev.some hg (Ev.some (by rw [jt];exact hy) ?_))
     rw [qv7 hd (qzc hy)]
     refine Ev.bind (ih x hmx (by omega) _ (by omega)) ?_
     refine Ev.ite (λ h=>?_) λ h=>?_
     ·rw [bnt,qh] at h
      exact Ev.ret (by rw [j8 h])
     ·rw [bnf,qj] at h
      rw [h,hi]
      exact hP)
   refine Ev.diag (L := λ m k=>Qz m (zl m) k 0 a.kind a.name a.sort a.kids b.kind b.name b.sort b.kids) ?_
   exact (key 0 (Nat.zero_le _)).res (by rw [List.drop_zero,List.drop_zero])
theorem qFI (a b:List UInt8):Ev (λ m _=>strings_Compare 0 a b) (compareBytes a b):=Ev.pure _
theorem qba (a:T):size a≤1000000000→∀ b,size b≤1000000000→Ev (λ m _=>qu m a b) (qp a b):=by
 induction a using T.ind with
 | h a ih =>
   intro ha b hb
   refine Ev.succ ?_
   simp only [quM,qdl,qe]
   have hla:=yM a
   have hlb:=yM b
   rw [qf0]
   unfold qiu
   have stop:∀ c:Int,c≠0→∀ i:Int,Ev (λ m k=>jw m (qu m) k c i a.kind a.name a.sort a.kids b.kind b.name b.sort b.kids) c:=by
    intro c hc i
    refine Ev.loop ?_
    simp only [qgH,qaQ]
    exact Ev.cf (qh.2 hc) (Ev.pure c)
   have key:a.kids.length=b.kids.length→∀ i,i≤a.kids.length→Ev (λ m k=>jw m (qu m) k 0 i a.kind a.name a.sort a.kids b.kind b.name b.sort b.kids) (Qs ((a.kids.drop i).map qp) (b.kids.drop i)) := λ hlen=>qt a.kids (by omega)
    (λ hc=>by
     refine Ev.loop ?_
     simp only [qgH,qaQ]
     refine Ev.ct rfl (Ev.cf hc ?_)
     exact Ev.ret (by rw [hlen,List.drop_length,qz5]))
    (λ i x hx hd hc hg hi hP=>by
     refine Ev.loop ?_
     simp only [qgH,qaQ,qe]
     have hib:i<b.kids.length:=by have:=(List.getElem?_eq_some_iff.1 hx).1;omega
     have hy:=List.getElem?_eq_getElem hib
     have hmx:=List.mem_of_getElem? hx
     have h1:=yO a x hmx
     have h2:=yO b _ (List.mem_of_getElem? hy)
     refine Ev.ct rfl (Ev.ct hc (Ev.some hg (Ev.some (by rw [jt];exact hy) ?_)))
     rw [qv7 hd (qzc hy)]
     refine Ev.bind (ih x hmx (by omega) _ (by omega)) ?_
     rw [hi]
     by_cases h:qp x b.kids[i]=0
     ·rw [h];exact hP
     ·rw [j8 h];exact stop _ h _)
   have fin:∀ c:Int,(c=0→a.kids.length=b.kids.length)→Ev (λ m k=>jw m (qu m) m c 0 a.kind a.name a.sort a.kids b.kind b.name b.sort b.kids) (thn c (Qs (a.kids.map qp) b.kids)):=by
    intro c hc
    refine Ev.diag (L := λ m k=>jw m (qu m) k c 0 a.kind a.name a.sort a.kids b.kind b.name b.sort b.kids) ?_
    by_cases h:c=0
    ·subst h
     exact (key (hc rfl) 0 (Nat.zero_le _)).res (by rw [List.drop_zero,List.drop_zero];rfl)
    ·rw [j8 h];exact stop c h 0
   refine Ev.bind (qxK a ha) (Ev.bind (qxK b hb) (Ev.bind (qps _ _) ?_))
   have z0:∀ y,thn 0 y=y := λ y=>rfl
   by_cases h1:sgn (size a:Int) (size b)=0
   ·rw [h1,z0]
    refine Ev.ct rfl (Ev.bind (qps _ _) ?_)
    by_cases h2:sgn a.kind b.kind=0
    ·rw [h2,z0]
     refine Ev.ct rfl (Ev.bind (qFI _ _) ?_)
     by_cases h3:compareBytes a.name b.name=0
     ·rw [h3,z0]
      refine Ev.ct rfl (Ev.bind (qps _ _) ?_)
      by_cases h4:sgn a.sort b.sort=0
      ·rw [h4,z0]
       refine Ev.ct rfl (Ev.bind (qps _ _) ?_)
       exact fin _ λ h=>by have:=qjw h;omega
      ·rw [j8 h4]
       refine Ev.cf (qh.2 h4) ?_
       exact fin _ λ h=>absurd h h4
     ·rw [j8 h3]
      refine Ev.cf (qh.2 h3) (Ev.cf (qh.2 h3) ?_)
      exact fin _ λ h=>absurd h h3
    ·rw [j8 h2]
     refine Ev.cf (qh.2 h2) (Ev.cf (qh.2 h2) (Ev.cf (qh.2 h2) ?_))
     exact fin _ λ h=>absurd h h2
   ·rw [j8 h1]
    refine Ev.cf (qh.2 h1) (Ev.cf (qh.2 h1) (Ev.cf (qh.2 h1) (Ev.cf (qh.2 h1) ?_)))
    exact fin _ λ h=>absurd h h1
theorem qB0 (a b:T):ieq (qp a b) 0=yy a b:=by
 unfold yy
 rw [Bool.eq_iff_iff,qj,decide_eq_true_iff]
 exact qHl a b
theorem qbi (a b:T) (ha:size a≤1000000000) (hb:size b≤1000000000):Ev (λ m _=>yI m a b) (yy a b):=by
 refine Ev.succ ?_
 simp only [qAd,qic,qe]
 refine Ev.bind (qhJ a ha b hb) ?_
 exact Ev.ret (qB0 a b)
theorem qmE (a b:T) (ha:size a≤1000000000) (hb:size b≤1000000000):Ev (λ m _=>Qn m a b) (yy a b):=by
 refine Ev.succ ?_
 simp only [qxu,qg6,qe]
 refine Ev.bind (qba a ha b hb) ?_
 exact Ev.ret (qB0 a b)
end Go.AmYtbpnmbmdbblehaaGreat
namespace Go.AmYtbpnmbmdbblehaaGreat
open Go Go.GxYtbpnmbmdbblehaaGreat Go.Lib
theorem qI2 (a b:Int):ieq a b=decide (a=b):=by rw [Bool.eq_iff_iff,qj,decide_eq_true_iff]
theorem qvR (c:Int):Ev (λ m _=>qap m c) (qhy c):=by
 refine Ev.succ ?_
 simp only [qu3,qgm]
 refine (Ev.pure (qhy c)).congr λ m k=>?_
 unfold qhy ile
 by_cases h1:97≤c<;>by_cases h2:c≤122<;>by_cases h3:65≤c<;>by_cases h4:c≤90<;>simp [h1,h2,h3,h4]
theorem qGU (c:Int):Ev (λ m _=>qcQ m c) (qqV c):=by
 refine Ev.succ ?_
 simp only [qxe,qhD]
 refine (Ev.pure (qqV c)).congr λ m k=>?_
 unfold qqV ile
 by_cases h1:48≤c<;>by_cases h2:c≤57<;>simp [h1,h2]
theorem qBg (c:Int):Ev (λ m _=>qfT m c) (JV c):=by
 refine Ev.succ ?_
 simp only [qAC,qjD]
 refine (Ev.pure (JV c)).congr λ m k=>?_
 simp only [qI2]
 unfold JV qhy qqV ile
 by_cases h1:97≤c<;>by_cases h2:c≤122<;>by_cases h3:65≤c<;>by_cases h4:c≤90<;>by_cases h5:48≤c<;>by_cases h6:c≤57<;>by_cases h7:c=95<;>by_cases h8:c=35<;>simp [h1,h2,h3,h4,h5,h6,h7,h8]
theorem qEd (l:List UInt8):Ev (λ m _=>Qy m l) (jh l):=by
 refine Ev.succ ?_
 simp only [quC,qdo]
 cases l with
 | nil=>exact Ev.ct rfl (Ev.pure _)
 | cons c r =>
   refine Ev.cf (qh.2 (by simp;omega)) ?_
   refine Ev.ite (λ h=>?_) λ h=>?_
   ·rw [qr] at h
    refine Ev.ret ?_
    unfold jh
    rw [decide_eq_false (show ¬ (c::r).length≤24 by omega)]
    simp
   rw [qv] at h
   refine Ev.some (Jo _) (Ev.bind (qvR _) ?_)
   have hn:jh (c::r)=(qhy (c.toNat:Int)&&(c::r).all λ c=>JV (c.toNat:Int)):=by
    unfold jh
    rw [decide_eq_true (show (c::r).length≤24 by omega)]
    simp
   rw [hn]
   cases hc:qhy (c.toNat:Int) with
   | false=>exact Ev.ct rfl (Ev.pure _)
   | true =>
     refine Ev.cf rfl ?_
     have key:=qt (P := λ i=>Ev (λ m k=>QR m k (c::r) i) (((c::r).drop i).all λ c=>JV (c.toNat:Int))) (c::r) (by omega)
      (λ hc=>by
       refine Ev.loop ?_
       simp only [qkn,qdm]
       refine Ev.cf hc (Ev.ret ?_)
       rw [List.drop_length];rfl)
      (λ i x hx hd hc hg hi hP=>by
       refine Ev.loop ?_
       simp only [qkn,qdm]
       refine Ev.ct hc (Ev.some hg (Ev.bind (qvR _) ?_))
       rw [hd,List.all_cons,hi]
       cases h1:qhy (x.toNat:Int) with
       | true=>exact Ev.cf rfl (hP.res (by simp [JV,h1]))
       | false =>
         refine Ev.ct rfl (Ev.some hg (Ev.bind (qGU _) ?_))
         cases h2:qqV (x.toNat:Int) with
         | true=>exact Ev.cf rfl (hP.res (by simp [JV,h2]))
         | false =>
           refine Ev.ct rfl (Ev.some hg ?_)
           by_cases h3:(x.toNat:Int)=95
           ·exact Ev.cf (bnf.2 (qj.2 h3)) (hP.res (by simp [JV,h3]))
           ·refine Ev.ct (bnt.2 (qh.2 h3)) (Ev.some hg ?_)
            by_cases h4:(x.toNat:Int)=35
            ·exact Ev.cf (bnf.2 (qj.2 h4)) (hP.res (by simp [JV,h4]))
            ·exact Ev.ct (bnt.2 (qh.2 h4)) (Ev.ret (by unfold JV;rw [h1,h2,decide_eq_false h3,decide_eq_false h4];rfl)))
     refine Ev.diag (L := λ m k=>QR m k (c::r) 0) ?_
     exact (key 0 (Nat.zero_le _)).res (by rw [List.drop_zero];rfl)
theorem qHd (c:Int):(JV c&&(!(decide (48≤c)&&decide (c≤57))&&(!(decide (c=95)) && !(decide (c=35)))))=qhy c:=by
 unfold JV qqV
 cases h:qhy c with
 | true =>
   unfold qhy at h
   rw [Bool.or_eq_true,decide_eq_true_iff,decide_eq_true_iff] at h
   rw [decide_eq_false (show ¬ (c=95) by omega),decide_eq_false (show ¬ (c=35) by omega)]
   have:(decide (48≤c)&&decide (c≤57))=false:=by
    rw [Bool.and_eq_false_iff,decide_eq_false_iff_not,decide_eq_false_iff_not];omega
   rw [this];rfl
 | false =>
   by_cases h1:48≤c<;>by_cases h2:c≤57<;>by_cases h3:c=95<;>by_cases h4:c=35<;>simp [h1,h2,h3,h4]
theorem qDO (l:List UInt8):Ev (λ m _=>qbh m l) (jh l):=by
 refine Ev.succ ?_
 simp only [qwy,qeA]
 cases l with
 | nil=>exact Ev.ct rfl (Ev.pure _)
 | cons c r =>
   refine Ev.cf rfl ?_
   refine Ev.ite (λ h=>?_) λ h=>?_
   ·rw [qr] at h
    refine Ev.ret ?_
    unfold jh
    rw [decide_eq_false (show ¬ (c::r).length≤24 by omega)]
    simp
   rw [qv] at h
   refine Ev.some (Jo _) (Ev.bind (qBg _) ?_)
   have hn:jh (c::r)=(qhy (c.toNat:Int)&&(c::r).all λ c=>JV (c.toNat:Int)):=by
    unfold jh
    rw [decide_eq_true (show (c::r).length≤24 by omega)]
    simp
   rw [hn,← qHd]
   have key:=qt (P := λ i=>Ev (λ m k=>jO m k (c::r) (c::r).length i) (((c::r).drop i).all λ c=>JV (c.toNat:Int))) (c::r) (by omega)
    (λ hc=>by
     refine Ev.loop ?_
     simp only [qlI,qeu]
     refine Ev.cf hc (Ev.ret ?_)
     rw [List.drop_length];rfl)
    (λ i x hx hd hc hg hi hP=>by
     refine Ev.loop ?_
     simp only [qlI,qeu]
     refine Ev.ct hc (Ev.some hg (Ev.bind (qBg _) ?_))
     rw [hd,List.all_cons,hi]
     cases h1:JV (x.toNat:Int) with
     | true=>exact Ev.cf rfl (hP.res (by simp))
     | false=>exact Ev.ct rfl (Ev.pure _))
   have fin:Ev (λ m _=>jO m m (c::r) (c::r).length 0) ((c::r).all λ c=>JV (c.toNat:Int)):=by
    refine Ev.diag (L := λ m k=>jO m k (c::r) (c::r).length 0) ?_
    exact (key 0 (Nat.zero_le _)).res (by rw [List.drop_zero])
   have hz:qd (c::r) 0=some c:=Jo _
   have h95:Ev (λ m _=>cond (ieq (c.toNat:Int) 95) (some false) (qa (qd (c::r) 0) λ v=>cond (ieq (v.toNat:Int) 35) (some false) (jO m m (c::r) (c::r).length 0))) ((!(decide ((c.toNat:Int)=95)) && !(decide ((c.toNat:Int)=35)))&&(c::r).all λ c=>JV (c.toNat:Int)):=by
    by_cases h3:(c.toNat:Int)=95
    ·exact Ev.ct (qj.2 h3) (Ev.ret (by rw [decide_eq_true h3];rfl))
    ·refine Ev.cf (qh.2 h3) (Ev.some hz ?_)
     rw [decide_eq_false h3]
     by_cases h4:(c.toNat:Int)=35
     ·exact Ev.ct (qj.2 h4) (Ev.ret (by rw [decide_eq_true h4];rfl))
     ·refine Ev.cf (qh.2 h4) (fin.res ?_)
      rw [decide_eq_false h4];rfl
   cases h1:JV (c.toNat:Int) with
   | false=>exact Ev.ct rfl (Ev.pure _)
   | true =>
     refine Ev.cf rfl (Ev.some hz ?_)
     by_cases h5:48≤(c.toNat:Int)
     ·refine Ev.ct (qcf.2 h5) (Ev.some hz ?_)
      by_cases h6:(c.toNat:Int)≤57
      ·exact Ev.ct (qcf.2 h6) (Ev.ret (by rw [decide_eq_true h5,decide_eq_true h6];rfl))
      ·refine Ev.cf (qiW.2 (by omega)) (Ev.some hz ?_)
       exact h95.res (by rw [decide_eq_true h5,decide_eq_false h6];rfl)
     ·refine Ev.cf (qiW.2 (by omega)) (Ev.some hz ?_)
      exact h95.res (by rw [decide_eq_false h5];rfl)
theorem qIa (t:T):Ev (λ m _=>qgs m t) (Qp t):=by
 refine Ev.succ ?_
 simp only [qyy,qir]
 unfold Qp qet
 have nm:∀ {R:Int},(∀ b,jh t.name=b→(if b then (if 8<t.kids.length then 3 else 0) else 2)=R)→Ev (λ m _=>qa (Qy m t.name) λ v=>cond (qc v) (some 2) (cond (ilt 8 (t.kids.length:Int)) (some 3) (some 0))) R:=by
  intro R h
  refine Ev.bind (qEd _) ?_
  refine Ev.res ?_ (h _ rfl)
  cases hn:jh t.name with
  | false=>exact Ev.ct rfl (Ev.pure _)
  | true =>
    refine Ev.cf rfl ?_
    refine Ev.ite (λ h=>?_) λ h=>?_
    ·rw [qr] at h;exact Ev.ret (by rw [if_pos rfl,if_pos (by omega)])
    ·rw [qv] at h;exact Ev.ret (by rw [if_pos rfl,if_neg (by omega)])
 have leaf:t.kids.length=0→∀ {R:Int},(∀ b,jh t.name=b→(if b then 0 else 2)=R)→Ev (λ m _=>qa (Qy m t.name) λ v=>cond (qc v) (some 2) (cond (ilt 8 (t.kids.length:Int)) (some 3) (some 0))) R:=by
  intro h0 R h
  refine nm λ b hb=>?_
  rw [if_neg (show ¬ 8<t.kids.length by omega)]
  exact h b hb
 by_cases h1:t.kind=1
 ·rw [if_pos (.inl h1)]
  refine Ev.ct (qj.2 h1) ?_
  refine Ev.ite (λ h=>?_) λ h=>?_
  ·rw [qr] at h;exact Ev.ret (by rw [if_pos (.inl h)])
  rw [qv] at h
  refine Ev.ite (λ h'=>?_) λ h'=>?_
  ·rw [qr] at h';exact Ev.ret (by rw [if_pos (.inr (.inl h'))])
  rw [qv] at h'
  refine Ev.ite (λ h''=>?_) λ h''=>?_
  ·rw [qr] at h'';exact Ev.ret (by rw [if_pos (.inr (.inr (by omega)))])
  rw [qv] at h''
  rw [if_neg (by omega)]
  exact leaf (by omega) λ b hb=>by rw [hb]
 refine Ev.cf (qh.2 h1) ?_
 by_cases h2:t.kind=2
 ·rw [if_pos (.inr h2)]
  refine Ev.cf (bnf.2 (qj.2 h2)) ?_
  refine Ev.ite (λ h=>?_) λ h=>?_
  ·rw [qr] at h;exact Ev.ret (by rw [if_pos (.inl h)])
  rw [qv] at h
  refine Ev.ite (λ h'=>?_) λ h'=>?_
  ·rw [qr] at h';exact Ev.ret (by rw [if_pos (.inr (.inl h'))])
  rw [qv] at h'
  refine Ev.cf (bnf.2 (qj.2 h2)) (Ev.ct (qj.2 h2) ?_)
  refine Ev.ite (λ h''=>?_) λ h''=>?_
  ·rw [qr] at h'';exact Ev.ret (by rw [if_pos (.inr (.inr (by omega)))])
  rw [qv] at h''
  rw [if_neg (by omega)]
  exact leaf (by omega) λ b hb=>by rw [hb]
 refine Ev.ct (bnt.2 (qh.2 h2)) ?_
 rw [if_neg (by omega)]
 by_cases h3:t.kind=3
 ·rw [if_pos h3]
  refine Ev.cf (bnf.2 (qj.2 h3)) ?_
  refine Ev.ite (λ h=>?_) λ h=>?_
  ·rw [qr] at h;exact Ev.ret (by rw [if_pos (by omega)])
  rw [qv] at h
  refine Ev.ite (λ h'=>?_) λ h'=>?_
  ·rw [qr] at h';exact Ev.ret (by rw [if_pos (by omega)])
  rw [qv] at h'
  refine Ev.ct (bnt.2 (qh.2 h2)) ?_
  refine Ev.ite (λ h''=>?_) λ h''=>?_
  ·rw [bnt,qh] at h'';exact Ev.ret (by rw [if_pos h''])
  rw [bnf,qj] at h''
  rw [if_neg (by omega)]
  refine Ev.cf (qh.2 h2) ?_
  exact nm λ b hb=>by rw [hb]
 ·rw [if_neg h3]
  exact Ev.ct (bnt.2 (qh.2 h3)) (Ev.pure _)
theorem qGA (t:T):size t≤1000000000→Ev (λ m _=>yT m t) (zC t):=by
 induction t using T.ind with
 | h t ih =>
   intro hs
   refine Ev.succ ?_
   simp only [qxm,qea,qe]
   have hl:=yM t
   have key:=qt (P := λ i=>Ev (λ m k=>JI m (yT m) k i t.kind t.name t.sort t.kids) (((t.kids.drop i).map zC).foldl thn 0)) t.kids (by omega)
    (λ hc=>by
     refine Ev.loop ?_
     simp only [qlC,qeo]
     refine Ev.cf hc ?_
     exact Ev.ret (by simp))
    (λ i x hx hd hc hg hi hP=>by
     refine Ev.loop ?_
     simp only [qlC,qeo,qe]
     refine Ev.ct hc (Ev.some hg ?_)
     have hm:=List.mem_of_getElem? hx
     have h1:=yO t x hm
     refine Ev.bind (ih x hm (by omega)) ?_
     rw [hd,List.map_cons,j7,hi]
     refine Ev.ite (λ h=>?_) λ h=>?_
     ·rw [bnt,qh] at h;exact Ev.ret (by rw [qH _ h])
     ·rw [bnf,qj] at h;rw [h];exact hP)
   rw [qbW]
   refine Ev.bind (qIa t) ?_
   refine Ev.ite (λ h=>?_) λ h=>?_
   ·rw [bnt,qh] at h;exact Ev.ret (by rw [qH _ h])
   ·rw [bnf,qj] at h;rw [h]
    refine Ev.diag (L := λ m k=>JI m (yT m) k 0 t.kind t.name t.sort t.kids) ?_
    exact (key 0 (Nat.zero_le _)).res (by rw [List.drop_zero])
theorem qaN (t:T) (hs:size t≤1000000000):Ev (λ m _=>zM m t) (qs t):=by
 refine Ev.succ ?_
 simp only [qw3,qhk,qe]
 unfold qs
 refine Ev.bind (qGA t hs) ?_
 refine Ev.ite (λ h=>?_) λ h=>?_
 ·rw [bnt,qh] at h;exact Ev.ret (by rw [if_pos h])
 rw [bnf,qj] at h
 rw [if_neg (by omega)]
 refine Ev.bind (qq8 t hs) ?_
 refine Ev.ite (λ h=>?_) λ h=>?_
 ·rw [qr] at h;exact Ev.ret (by rw [if_pos (.inl (by omega))])
 rw [qv] at h
 refine Ev.bind (qEq t hs) ?_
 refine Ev.ite (λ h=>?_) λ h=>?_
 ·rw [qr] at h;exact Ev.ret (by rw [if_pos (.inr (by omega))])
 ·rw [qv] at h;exact Ev.ret (by rw [if_neg (by omega)])
end Go.AmYtbpnmbmdbblehaaGreat
namespace Go.AmYtbpnmbmdbblehaaGreat
open Go Go.GxYtbpnmbmdbblehaaGreat Go.Lib
theorem qx0 (lev d:Nat):∀ (l:List Nat) (c:Nat),l.foldl (λ a x=>max a (lev+x)) (max d (lev+c))=max d (lev+l.foldl max c)
 | [],c=>rfl
 | x::l,c=>by
   rw [List.foldl_cons,List.foldl_cons,← qx0 lev d l (max c x)]
   congr 1;omega
def qKu (lev n d:Nat) (e:Int) (s:Nat) (x:Nat) (r:(Int × Int × Unit) × (Int × Unit)):Prop:=r.2.1=e∧(e=0→r.1.1=((n+s:Nat):Int)∧r.1.2.1=((max d (lev+x):Nat):Int))
theorem qGw (t:T):size t≤1000000000→∀ lev n d:Nat,lev+size t≤2000000000→n+size t≤2000000000→d≤2000000000→∃ r,Ev (λ m _=>zJ m t lev n d) r∧qKu lev n d (zC t) (size t) (Qk t-1) r:=by
 induction t using T.ind with
 | h t ih =>
   intro hs lev n d hlev hn hd0
   have hl:=yM t
   have hsz:=qG t
   have key:=qt (P := λ i=>∀ n d:Nat,n+((t.kids.drop i).map size).sum≤2000000000→d≤2000000000→∃ r,Ev (λ m k=>y9 m (zJ m) k lev t.kids t.kids.length i n d) r∧r.2.1=((t.kids.drop i).map zC).foldl thn 0∧(((t.kids.drop i).map zC).foldl thn 0=0→r.1.1=((n+((t.kids.drop i).map size).sum:Nat):Int)∧r.1.2.1=((((t.kids.drop i).map Qk).foldl (λ a x=>max a (lev+x)) d:Nat):Int))) t.kids (by omega)
    (λ hc n d _ _=>by
     refine ⟨((n,d,()),(0,())),?_,?_,λ _=>⟨?_,?_⟩⟩
     ·refine Ev.loop ?_
      simp only [qnr,qfb]
      exact Ev.cf hc (Ev.pure _)
     ·simp
     ·simp
     ·simp)
    (λ i x hx hd hc hg hi hP n d hn hd1=>by
     have hm:=List.mem_of_getElem? hx
     have h1:=yO t x hm
     rw [qry hd] at hn
     obtain ⟨r,hr,he,hz⟩:=ih x hm (by omega) (lev+1) n d (by omega) (by omega) hd1
     have hstep:∀ r' ,(r.2.1≠0→r'=((r.1.1,r.1.2.1,()),(r.2.1,())))→(r.2.1=0→Ev (λ m k=>y9 m (zJ m) k lev t.kids t.kids.length ((i+1:Nat):Int) r.1.1 r.1.2.1) r')→Ev (λ m k=>y9 m (zJ m) k lev t.kids t.kids.length i n d) r':=by
      intro r' g1 g2
      refine Ev.loop ?_
      simp only [qnr,qfb,qe]
      refine Ev.ct hc (Ev.some hg ?_)
      rw [show qf (lev:Int) 1=((lev+1:Nat):Int) by unfold qf;omega,jg (by omega),hi]
      refine Ev.bind hr ?_
      refine Ev.ite (λ h=>?_) λ h=>?_
      ·rw [bnt,qh] at h;exact Ev.ret (g1 h).symm
      ·rw [bnf,qj] at h;exact g2 h
     rw [hd,List.map_cons,List.map_cons,List.map_cons,List.sum_cons,j7,List.foldl_cons]
     by_cases h0:zC x=0
     ·obtain ⟨z1,z2⟩:=hz h0
      have hdep:=qB3 x
      obtain ⟨r',g1,g2,g3⟩:=hP (n+size x) (max d (lev+1+(Qk x-1))) (by omega) (by omega)
      refine ⟨r',hstep r' (λ h=>absurd (he.trans h0) h) (λ _=>by rw [z1,z2];exact g1),by rw [h0];exact g2,λ hh=>?_⟩
      rw [h0] at hh
      obtain ⟨q1,q2⟩:=g3 hh
      refine ⟨by rw [q1];congr 1;omega,?_⟩
      rw [q2]
      have:Qk x ≥ 1:=by rw [qbG];omega
      rw [show max d (lev+1+(Qk x-1))=max d (lev+Qk x) by omega]
     ·refine ⟨((r.1.1,r.1.2.1,()),(r.2.1,())),hstep _ (λ _=>rfl) (λ h=>absurd (he.symm.trans h) h0),?_,λ hh=>?_⟩
      ·rw [qH _ h0];exact he
      ·rw [qH _ h0] at hh;exact absurd hh h0)
   have start:∀ r,(Qp t≠0→r=((((n+1:Nat):Int),((max d lev:Nat):Int),()),(Qp t,())))→(Qp t=0→Ev (λ m _=>y9 m (zJ m) m lev t.kids t.kids.length 0 ((n+1:Nat):Int) ((max d lev:Nat):Int)) r)→Ev (λ m _=>zJ m t lev n d) r:=by
    intro r g1 g2
    refine Ev.succ ?_
    simp only [qx7,qfv]
    rw [show qf (n:Int) 1=((n+1:Nat):Int) by unfold qf;omega,jg (by omega),qy3]
    have err:∀ e,Qp t=e→e≠0→Ev (λ _ _=>some ((((n+1:Nat):Int),((max d lev:Nat):Int),()),(e,()))) r:=by
     intro e he h
     refine Ev.ret ?_
     subst he
     exact (g1 h).symm
    have nm:(t.kind=3∨t.kids.length=0)→(∀ b,jh t.name=b→(if b then (if 8<t.kids.length then 3 else 0) else 2)=Qp t)→Ev (λ m _=>qa (qbh m t.name) λ v=>cond (qc v) (some ((((n+1:Nat):Int),((max d lev:Nat):Int),()),(2,()))) (cond (ilt 8 (t.kids.length:Int)) (some ((((n+1:Nat):Int),((max d lev:Nat):Int),()),(3,()))) (y9 m (zJ m) m lev t.kids t.kids.length 0 ((n+1:Nat):Int) ((max d lev:Nat):Int)))) r:=by
     intro _ h
     have h:=h _ rfl
     refine Ev.bind (qDO _) ?_
     cases hn:jh t.name with
     | false=>rw [hn] at h;exact Ev.ct rfl (err 2 h.symm (by decide))
     | true =>
       rw [hn,if_pos rfl] at h
       refine Ev.cf rfl ?_
       refine Ev.ite (λ h'=>?_) λ h'=>?_
       ·rw [qr] at h';rw [if_pos (by omega)] at h;exact err 3 h.symm (by decide)
       ·rw [qv] at h';rw [if_neg (by omega)] at h;exact g2 h.symm
    have leafE:∀ k,t.kind=k→(k=1∨k=2)→Qp t=if t.sort<0∨5<t.sort∨0<t.kids.length then 1 else if jh t.name then 0 else 2:=by
     intro k hk h
     unfold Qp qet
     rw [hk,if_pos h]
    have leaf:∀ k,t.kind=k→(k=1∨k=2)→Ev (λ m _=>cond (ilt t.sort 0) (some ((((n+1:Nat):Int),((max d lev:Nat):Int),()),(1,()))) (cond (ilt 5 t.sort) (some ((((n+1:Nat):Int),((max d lev:Nat):Int),()),(1,()))) (cond (ilt 0 (t.kids.length:Int)) (some ((((n+1:Nat):Int),((max d lev:Nat):Int),()),(1,()))) (qa (qbh m t.name) λ v=>cond (qc v) (some ((((n+1:Nat):Int),((max d lev:Nat):Int),()),(2,()))) (cond (ilt 8 (t.kids.length:Int)) (some ((((n+1:Nat):Int),((max d lev:Nat):Int),()),(3,()))) (y9 m (zJ m) m lev t.kids t.kids.length 0 ((n+1:Nat):Int) ((max d lev:Nat):Int))))))) r:=by
     intro k hk h
     have hE:=leafE k hk h
     refine Ev.ite (λ h'=>?_) λ h'=>?_
     ·rw [qr] at h';exact err 1 (by rw [hE,if_pos (.inl h')]) (by decide)
     rw [qv] at h'
     refine Ev.ite (λ h1=>?_) λ h1=>?_
     ·rw [qr] at h1;exact err 1 (by rw [hE,if_pos (.inr (.inl h1))]) (by decide)
     rw [qv] at h1
     refine Ev.ite (λ h2=>?_) λ h2=>?_
     ·rw [qr] at h2;exact err 1 (by rw [hE,if_pos (.inr (.inr (by omega)))]) (by decide)
     rw [qv] at h2
     rw [if_neg (by omega)] at hE
     refine nm (.inr (by omega)) λ b hb=>?_
     rw [hE,hb,if_neg (show ¬ 8<t.kids.length by omega)]
    by_cases h1:t.kind=1
    ·exact Ev.ct (qj.2 h1) (leaf 1 h1 (.inl rfl))
    refine Ev.cf (qh.2 h1) ?_
    by_cases h2:t.kind=2
    ·exact Ev.ct (qj.2 h2) (leaf 2 h2 (.inr rfl))
    refine Ev.cf (qh.2 h2) ?_
    by_cases h3:t.kind=3
    ·refine Ev.ct (qj.2 h3) ?_
     have hE:Qp t=if t.sort≠0 then 1 else if jh t.name then (if 8<t.kids.length then 3 else 0) else 2:=by
      unfold Qp qet
      rw [if_neg (by omega),if_pos h3]
     refine Ev.ite (λ h'=>?_) λ h'=>?_
     ·rw [bnt,qh] at h';exact err 1 (by rw [hE,if_pos h']) (by decide)
     rw [bnf,qj] at h'
     rw [if_neg (by omega)] at hE
     exact nm (.inl h3) λ b hb=>by rw [hE,hb]
    ·refine Ev.cf (qh.2 h3) ?_
     refine err 1 ?_ (by decide)
     unfold Qp qet
     rw [if_neg (by omega),if_neg h3]
   rw [qbW]
   by_cases h0:Qp t=0
   ·rw [h0]
    obtain ⟨r,g1,g2,g3⟩:=key 0 (Nat.zero_le _) (n+1) (max d lev) (by rw [List.drop_zero];omega) (by omega)
    rw [List.drop_zero] at g2 g3
    refine ⟨r,start r (λ h=>absurd h0 h) (λ _=>Ev.diag (L := λ m k=>y9 m (zJ m) k lev t.kids t.kids.length 0 ((n+1:Nat):Int) ((max d lev:Nat):Int)) g1),g2,λ hh=>?_⟩
    obtain ⟨q1,q2⟩:=g3 hh
    refine ⟨by rw [q1];congr 1;omega,?_⟩
    rw [q2,show max d lev=max d (lev+0) by omega,qx0,qbG,Nat.add_sub_cancel]
   ·refine ⟨_,start _ (λ _=>rfl) (λ h=>absurd h h0),?_,λ hh=>?_⟩
    ·rw [qH _ h0]
    ·rw [qH _ h0] at hh;exact absurd hh h0
theorem Ju (t:T) (hs:size t≤1000000000):Ev (λ m _=>zy m t) (qs t):=by
 refine Ev.succ ?_
 simp only [qzq,qin,qe]
 unfold qs
 obtain ⟨r,h1,h2,h3⟩:=qGw t hs 1 0 0 (by omega) (by omega) (by omega)
 refine Ev.bind h1 ?_
 rw [h2]
 refine Ev.ite (λ h=>?_) λ h=>?_
 ·rw [bnt,qh] at h;exact Ev.ret (by rw [if_pos h])
 rw [bnf,qj] at h
 obtain ⟨q1,q2⟩:=h3 h
 have hd:Qk t ≥ 1:=by rw [qbG];omega
 rw [if_neg (by omega),q1,q2]
 refine Ev.ite (λ h=>?_) λ h=>?_
 ·rw [qr] at h;exact Ev.ret (by rw [if_pos (.inl (by omega))])
 rw [qv] at h
 refine Ev.ite (λ h=>?_) λ h=>?_
 ·rw [qr] at h;exact Ev.ret (by rw [if_pos (.inr (by omega))])
 ·rw [qv] at h;exact Ev.ret (by rw [if_neg (by omega)])
theorem ql2 (t:T):size t≤1000000000→Ev (λ m _=>yo m t) t:=by
 induction t using T.ind with
 | h t ih =>
   intro hs
   refine Ev.succ ?_
   simp only [qza,qfo]
   have hl:=yM t
   have key:=qt (P := λ i=>Ev (λ m k=>qai m (yo m) k t.kids t.kids.length i t.kind t.name t.sort 0 [] 0 (t.kids.take i) []) t) t.kids (by omega)
    (λ hc=>by
     refine Ev.loop ?_
     simp only [qnk,qfp]
     refine Ev.cf hc ?_
     rw [List.take_length]
     exact Ev.ret (qe t))
    (λ i x hx hd hc hg hi hP=>by
     refine Ev.loop ?_
     simp only [qnk,qfp,qe]
     have hm:=List.mem_of_getElem? hx
     have h1:=yO t x hm
     refine Ev.ct hc (Ev.some hg (Ev.bind (ih x hm (by omega)) (Ev.ct (qS ?_ (by omega)) ?_)))
     ·have:(t.kids.take i).length≤t.kids.length:=by rw [List.length_take];omega
      omega
     ·rw [hi]
      refine hP.congr λ m k=>?_
      rw [List.take_add_one,hx];rfl)
   refine Ev.diag (L := λ m k=>qai m (yo m) k t.kids t.kids.length 0 t.kind t.name t.sort 0 [] 0 [] []) ?_
   exact key 0 (Nat.zero_le _)
noncomputable def qjk:T→Prop:=T.para λ t rs=>t.kids.length<2 ^ 62∧t.name.length<2 ^ 62∧∀ p∈rs,p
theorem qBp (t:T):qjk t↔t.kids.length<2 ^ 62∧t.name.length<2 ^ 62∧∀ k∈t.kids,qjk k:=by
 unfold qjk
 rw [T.para_eq]
 exact ⟨λ ⟨a,b,c⟩=>⟨a,b,λ k hk=>c _ (List.mem_map_of_mem hk)⟩,λ ⟨a,b,c⟩=>⟨a,b,λ p hp=>by obtain ⟨k,hk,rfl⟩:=List.mem_map.1 hp;exact c k hk⟩⟩
theorem qFq (t:T):qjk t→∀ mm:Int,-1000000000≤mm→mm≤1000000000→Ev (λ m _=>yt m t mm) (qaA t mm):=by
 induction t using T.ind with
 | h t ih =>
   intro hf mm hm0 hm1
   obtain ⟨f1,f2,f3⟩:=(qBp t).1 hf
   refine Ev.succ ?_
   simp only [qui,qdj]
   rw [qBN]
   refine Ev.ite (λ h=>?_) λ h=>?_
   ·rw [qcf] at h;exact Ev.ret (by rw [if_pos (.inl h)])
   rw [qiW] at h
   refine Ev.ite (λ h'=>?_) λ h'=>?_
   ·rw [qr] at h';exact Ev.ret (by rw [if_pos (.inr (by omega))])
   rw [qv] at h'
   rw [if_neg (by omega),show QK mm 1=mm-1 from rfl,jg (by omega)]
   have key:=qt (P := λ i=>∀ mm:Int,0≤mm→mm≤1000000000→Ev (λ m k=>QT m (yt m) k mm i t.kind t.name t.sort t.kids) (qjz ((t.kids.drop i).map qaA) mm)) t.kids f1
    (λ hc mm _ _=>by
     refine Ev.loop ?_
     simp only [qkT,qdf]
     refine Ev.cf hc ?_
     rw [List.drop_length]
     exact Ev.pure _)
    (λ i x hx hd hc hg hi hP mm hm0 hm1=>by
     refine Ev.loop ?_
     simp only [qkT,qdf,qe]
     have hm:=List.mem_of_getElem? hx
     refine Ev.ct hc (Ev.some hg (Ev.bind (ih x hm (f3 x hm) mm (by omega) (by omega)) ?_))
     rw [hd,List.map_cons,qjz,hi]
     have:=qoY x mm
     refine Ev.ite (λ h=>?_) λ h=>?_
     ·rw [qr] at h;exact Ev.ret (by rw [if_pos h])
     ·rw [qv] at h
      rw [if_neg (by omega)]
      exact hP _ (by omega) (by omega))
   refine Ev.diag (L := λ m k=>QT m (yt m) k (mm-1) 0 t.kind t.name t.sort t.kids) ?_
   exact (key 0 (Nat.zero_le _) (mm-1) (by omega) (by omega)).res (by rw [List.drop_zero])
theorem qE5 (l:List T) (hl:l.length<2 ^ 62) (hf:∀ t∈l,qjk t) (n:Nat) (mm:Int) (hm0:0≤mm) (hm1:mm≤1000000000):Ev (λ m _=>qfX m l n mm) (decide (l.length≤n)&&qmu l mm):=by
 refine Ev.succ ?_
 simp only [qAE,qgG]
 refine Ev.ite (λ h=>?_) λ h=>?_
 ·rw [qr] at h;exact Ev.ret (by rw [decide_eq_false (by omega)];rfl)
 rw [qv] at h
 rw [decide_eq_true (by omega),Bool.true_and]
 have key:=qt (P := λ i=>∀ mm:Int,0≤mm→mm≤1000000000→Ev (λ m k=>qbg m k l mm i) (qmu (l.drop i) mm)) l hl
  (λ hc mm _ _=>by
   refine Ev.loop ?_
   simp only [qoZ,qgF]
   refine Ev.cf hc ?_
   rw [List.drop_length]
   exact Ev.pure _)
  (λ i x hx hd hc hg hi hP mm hm0 hm1=>by
   refine Ev.loop ?_
   simp only [qoZ,qgF,qe]
   have hm:=List.mem_of_getElem? hx
   refine Ev.ct hc (Ev.some hg (Ev.bind (qFq x (hf x hm) mm (by omega) (by omega)) ?_))
   rw [hd,qmu,hi]
   have:=qoY x mm
   refine Ev.ite (λ h=>?_) λ h=>?_
   ·rw [qr] at h;exact Ev.ret (by rw [if_pos h])
   ·rw [qv] at h
    rw [if_neg (by omega)]
    exact hP _ (by omega) (by omega))
 refine Ev.diag (L := λ m k=>qbg m k l mm 0) ?_
 exact (key 0 (Nat.zero_le _) mm hm0 hm1).res (by rw [List.drop_zero])
theorem qyY {l:List T} {mm:Int} (hm:0≤mm) (h:qmu l mm=true):∀ t∈l,(size t:Int)≤mm := λ t ht=>by
 have h1:=qvM l mm hm h
 have h2:=qiY l t ht
 omega
end Go.AmYtbpnmbmdbblehaaGreat
namespace Go.GxYtbpnmbmdbblehaaGreat
def qtS (t:T):Int:=if (qA t.name).2.2=0 then 10 else if qlc jx t.name t.kids.length=false then 6 else if (qA t.name).2.2=2∧qjb t=false then 10 else 0
theorem qs0 (n:List UInt8):(jx.find? λ r=>r.1==n)=none∨∃ r∈jx,r.1=n∧(jx.find? λ r=>r.1==n)=some r:=by
 cases h:jx.find? λ r=>r.1==n with
 | none=>exact .inl rfl
 | some r=>exact .inr ⟨r,List.mem_of_find?_eq_some h,by simpa using List.find?_some h,rfl⟩
theorem qtf {n:List UInt8} (h:(jx.find? λ r=>r.1==n)=none):qA n=(0,0,0):=by unfold qA;rw [h];rfl
theorem qmN {n:List UInt8} {r:List UInt8 × Int × Int × Int} (h:(jx.find? λ r=>r.1==n)=some r):qA n=r.2:=by unfold qA;rw [h];rfl
def qH1 (r:List UInt8 × Int × Int × Int):Bool :=
 decide (r.2.2.2≠0)&&decide (0≤r.2.1)&&decide (r.2.2.1≤8)&&(decide (r.2.2.2=2)==(r.1==qhw||r.1==nSk||r.1==qqn))&&(decide (r.2.2.2=2)==decide (r.2.2.2=2∧1≤r.2.1))&&(decide (r.2.2.2=3)==(r.1==qGf||r.1==quS||r.1==qGk||r.1==qCE||r.1==qDt||r.1==qDp))
theorem qI8:jx.all qH1=true:=by decide
theorem qtb {n:List UInt8} (h:(qA n).2.2≠0):qHK jx n=true∧quE jx n=qA n∧0≤(qA n).1∧(qA n).2.1≤8∧((qA n).2.2=2↔n=qhw∨n=nSk∨n=qqn)∧((qA n).2.2=2→1≤(qA n).1)∧((qA n).2.2=3↔isD n=true):=by
 rcases qs0 n with h0 | ⟨r,hr,hn,h0⟩
 ·rw [qtf h0] at h;exact absurd rfl h
 ·have hk:=List.all_eq_true.1 qI8 r hr
  subst hn
  rw [qmN h0]
  unfold qH1 at hk
  simp only [Bool.and_eq_true,beq_iff_eq,decide_eq_true_eq] at hk
  obtain ⟨⟨⟨⟨⟨h1,h2⟩,h3⟩,h4⟩,h5⟩,h6⟩:=hk
  refine ⟨List.any_eq_true.2 ⟨r,hr,by simp⟩,qmN h0,h2,h3,?_,?_,?_⟩
  ·constructor
   ·intro h
    rw [decide_eq_true h] at h4
    have:=h4.symm
    simp only [Bool.or_eq_true,beq_iff_eq] at this
    exact or_assoc.1 this
   ·intro h
    by_cases hh:r.2.2.2=2
    ·exact hh
    ·rw [decide_eq_false hh] at h4
     have:=h4.symm
     simp only [Bool.or_eq_false_iff,beq_eq_false_iff_ne] at this
     rcases h with h | h | h
     ·exact absurd h this.1.1
     ·exact absurd h this.1.2
     ·exact absurd h this.2
  ·intro h
   rw [decide_eq_true h] at h5
   have:=of_decide_eq_true h5.symm
   exact this.2
  ·unfold isD
   rw [← h6]
   simp
theorem qHT (t:T) (h3:t.kind=3):qtS t=qaC t:=by
 unfold qtS qaC
 rw [if_neg (show ¬ (t.kind≠3) from λ h=>h h3)]
 by_cases h0:(qA t.name).2.2=0
 ·rw [if_pos h0,if_pos h0]
 ·rw [if_neg h0,if_neg h0]
  obtain ⟨k1,k2,k3,k4,k5,k6,k7⟩:=qtb h0
  have e1:qlc jx t.name t.kids.length=(decide ((qA t.name).1≤(t.kids.length:Int))&&decide ((t.kids.length:Int)≤(qA t.name).2.1)):=by
   unfold qlc;rw [k1,k2,Bool.true_and]
  rw [e1]
  by_cases h1:(t.kids.length:Int)<(qA t.name).1∨(qA t.name).2.1<(t.kids.length:Int)
  ·rw [if_pos h1,if_pos]
   rw [Bool.and_eq_false_iff,decide_eq_false_iff_not,decide_eq_false_iff_not]
   omega
  ·rw [if_neg h1,if_neg]
   ·have e2:(qA t.name).2.2=2∧qjb t=false↔J1 t=true:=by
      rw [k5]
      unfold qjb J1
      by_cases hn:t.name=qhw
      ·rw [if_pos hn,if_pos hn]
       simp [hn]
      ·rw [if_neg hn,if_neg hn]
       by_cases hs:t.name=nSk∨t.name=qqn
       ·rw [if_pos hs]
        have:agB t.kids = !(t.kids.any λ k=>decide (k.kind=3)||decide (k.sort≠1)):=by
         unfold agB
         generalize t.kids=l
         induction l with
         | nil=>rfl
         | cons x l ih=>simp only [List.all_cons,List.any_cons,ih,Bool.not_or];congr 1;congr 1;by_cases h:x.sort=1<;>simp [bne,h]
        rw [this]
        simp [hs]
       ·rw [if_neg hs]
        constructor
        ·rintro ⟨h,_⟩
         rcases h with h | h
         ·exact absurd h hn
         ·exact absurd h hs
        ·intro h;cases h
    by_cases hp:J1 t=true
    ·rw [if_pos hp,if_pos (e2.2 hp)]
    ·rw [if_neg hp,if_neg (λ h=>hp (e2.1 h))]
   ·rw [Bool.and_eq_false_iff,decide_eq_false_iff_not,decide_eq_false_iff_not]
    omega
theorem qfN {t:T} (h3:t.kind=3) (h:qP t=0):qaC t=0∧(∀ k∈t.kids,qP k=0):=by
 rw [qje,if_neg (show ¬ (t.kind≠3) from λ h=>h h3)] at h
 by_cases h0:qaC t=0
 ·refine ⟨h0,?_⟩
  rw [h0] at h
  generalize t.kids=l at *
  induction l with
  | nil=>intro k hk;cases hk
  | cons x l ih =>
    rw [List.map_cons,j7] at h
    by_cases hx:qP x=0
    ·rw [hx] at h
     intro k hk
     rcases List.mem_cons.1 hk with rfl | hk
     ·exact hx
     ·exact ih h k hk
    ·rw [qH _ hx] at h;exact absurd h hx
 ·rw [qH _ h0] at h;exact absurd h h0
end Go.GxYtbpnmbmdbblehaaGreat
namespace Go.AmYtbpnmbmdbblehaaGreat
open Go Go.GxYtbpnmbmdbblehaaGreat Go.Lib
theorem qiM (t:T) (n:List UInt8):Ev (λ m _=>yD m t n) (isN t n):=by
 refine Ev.succ ?_
 simp only [qAF,qjN]
 unfold isN
 refine Ev.ite (λ h=>?_) λ h=>?_
 ·rw [qj] at h;exact Ev.ret (by rw [h];rfl)
 ·rw [qh] at h;exact Ev.ret (by rw [show (t.kind==3)=false from beq_eq_false_iff_ne.2 h];rfl)
theorem qh1 (t:T) (n:List UInt8):Ev (λ m _=>JK m t n) (isN t n):=by
 refine Ev.succ ?_
 simp only [qCw,qli]
 unfold isN
 refine Ev.ite (λ h=>?_) λ h=>?_
 ·rw [qj] at h;exact Ev.ret (by rw [h];rfl)
 ·rw [qh] at h;exact Ev.ret (by rw [show (t.kind==3)=false from beq_eq_false_iff_ne.2 h];rfl)
theorem qJo (n:List UInt8) (l:List T):Ev (λ m _=>qem m n l) (apT n l):=Ev.succ (Ev.pure _)
theorem qbR (n:List UInt8) (l:List T) (hl:l.length≤1000000000):Ev (λ m _=>yC m n l) (apT n l):=by
 refine Ev.succ ?_
 simp only [qAT,qj5]
 refine Ev.ct (qS (by simp;omega) (by omega)) ?_
 refine Ev.case (λ h=>?_) λ x t h=>?_
 ·subst h;exact Ev.pure _
 ·subst h;exact Ev.pure _
def qGX (n:List UInt8):List UInt8 × Int × Int × Int:=(jx.find? λ r=>r.1==n).getD ([],0,0,0)
theorem qqo (n:List UInt8):(qGX n).2=qA n:=by
 unfold qGX qA
 cases jx.find? λ r=>r.1==n<;>rfl
theorem qwj (n:List UInt8):Ev (λ m _=>qaJ m n) (qGX n):=by
 refine Ev.succ ?_
 simp only [qsE,qcy]
 refine Ev.bind (a:=jx) (Ev.pure _) ?_
 have key:=qt (P := λ i=>Ev (λ m k=>Qv m k n jx jx.length i [] 0 0 0) (((jx.drop i).find? λ r=>r.1==n).getD ([],0,0,0))) jx (by decide)
  (λ hc=>by
   refine Ev.loop ?_
   simp only [qjJ,qct]
   refine Ev.cf hc ?_
   exact Ev.pure _)
  (λ i x hx hd hc hg hi hP=>by
   refine Ev.loop ?_
   simp only [qjJ,qct]
   refine Ev.ct hc (Ev.some hg ?_)
   rw [hd,List.find?_cons,hi]
   refine Ev.ite (λ h=>?_) λ h=>?_
   ·exact Ev.ret (by rw [show (x.1==n)=true from h];rfl)
   ·rw [show (x.1==n)=false from h];exact hP)
 refine Ev.diag (L := λ m k=>Qv m k n jx jx.length 0 [] 0 0 0) ?_
 exact key 0 (Nat.zero_le _)
theorem qyb {t:T} (h3:t.kind=3) (h:qaC t=0):(qA t.name).2.2≠0∧(qA t.name).1≤(t.kids.length:Int)∧(t.kids.length:Int)≤(qA t.name).2.1∧J1 t=false:=by
 unfold qaC at h
 rw [if_neg (show ¬ t.kind≠3 from λ hh=>hh h3)] at h
 split at h
 ·omega
 rename_i h1
 split at h
 ·omega
 rename_i h2
 split at h
 ·omega
 rename_i h4
 exact ⟨h1,by omega,by omega,by simpa using h4⟩
theorem qur {t:T} {i:Nat} (h:i<t.kids.length):qd t.kids (i:Int)=some (kid t i):=by
 rw [jt]
 unfold kid
 rw [List.getD_eq_getElem?_getD,List.getElem?_eq_getElem h];rfl
theorem qdb {t:T} (h:0<t.kids.length):qd t.kids 0=some (kid t 0):=qur (i:=0) h
theorem qpw {t:T} (h:1<t.kids.length):qd t.kids 1=some (kid t 1):=qur (i:=1) h
theorem qBw {t:T} {i:Nat} (h:i<t.kids.length):kid t i∈t.kids:=by
 unfold kid
 rw [List.getD_eq_getElem?_getD,List.getElem?_eq_getElem h]
 exact List.getElem_mem h
theorem yz {t:T} {n:List UInt8}:isN t n=true↔t.kind=3∧t.name=n:=by
 unfold isN
 rw [Bool.and_eq_true,beq_iff_eq,beq_iff_eq]
theorem qEu (t:T):size t≤1000000000→Ev (λ m _=>qB m t) (qP t):=by
 induction t using T.ind with
 | h t ih =>
   intro hs
   refine Ev.succ ?_
   simp only [quz,qc8]
   have hl:=yM t
   rw [qje]
   refine Ev.ite (λ h=>?_) λ h3=>?_
   ·rw [bnt,qh] at h;exact Ev.ret (by rw [if_pos h])
   rw [bnf,qj] at h3
   rw [if_neg (show ¬ t.kind≠3 from λ hh=>hh h3)]
   have k2:=qt (P := λ i=>Ev (λ m k=>(qO m (qB m) k).2 t.kids t.kids.length i) (((t.kids.drop i).map qP).foldl thn 0)) t.kids (by omega)
    (λ hc=>by
     refine Ev.loop ?_
     simp only [qkj,qc6]
     refine Ev.cf hc ?_
     exact Ev.ret (by simp))
    (λ i x hx hd hc hg hi hP=>by
     refine Ev.loop ?_
     simp only [qkj,qc6,qe]
     have hm:=List.mem_of_getElem? hx
     have h1:=yO t x hm
     refine Ev.ct hc (Ev.some hg (Ev.bind (ih x hm (by omega)) ?_))
     rw [hd,List.map_cons,j7,hi]
     refine Ev.ite (λ h=>?_) λ h=>?_
     ·rw [bnt,qh] at h;exact Ev.ret (by rw [qH _ h])
     ·rw [bnf,qj] at h;rw [h];exact hP)
   have k2':Ev (λ m k=>(qO m (qB m) k).2 t.kids t.kids.length 0) ((t.kids.map qP).foldl thn 0):=(k2 0 (Nat.zero_le _)).res (by rw [List.drop_zero])
   have k1:=qt (P := λ i=>Ev (λ m k=>(qO m (qB m) k).1 t.kids t.kids.length i t.kind t.name t.sort t.kids) (if (t.kids.drop i).any (λ k=>decide (k.kind=3)||decide (k.sort≠1))=true then 10 else (t.kids.map qP).foldl thn 0)) t.kids (by omega)
    (λ hc=>by
     refine Ev.loop ?_
     simp only [qkf,qde]
     refine Ev.cf hc ?_
     refine k2'.res ?_
     rw [List.drop_length];rfl)
    (λ i x hx hd hc hg hi hP=>by
     refine Ev.loop ?_
     simp only [qkf,qde,qe]
     refine Ev.ct hc (Ev.some hg ?_)
     rw [hd,List.any_cons,hi]
     refine Ev.ite (λ h=>?_) λ h=>?_
     ·rw [qj] at h;exact Ev.ret (by rw [decide_eq_true h];rfl)
     rw [qh] at h
     rw [decide_eq_false h]
     refine Ev.ite (λ h'=>?_) λ h'=>?_
     ·rw [bnt,qh] at h';exact Ev.ret (by rw [decide_eq_true h'];rfl)
     ·rw [bnf,qj] at h';rw [decide_eq_false (λ hh=>hh h')];exact hP)
   have fin2:qaC t=0→Ev (λ m _=>(qO m (qB m) m).2 t.kids t.kids.length 0) ((t.kids.map qP).foldl thn (qaC t)) := λ h=>by
    rw [h]
    exact Ev.diag (L := λ m k=>(qO m (qB m) k).2 t.kids t.kids.length 0) k2'
   have fin1:J1 t=t.kids.any (λ k=>decide (k.kind=3)||decide (k.sort≠1))→qaC t=(if J1 t=true then 10 else 0)→Ev (λ m _=>(qO m (qB m) m).1 t.kids t.kids.length 0 t.kind t.name t.sort t.kids) ((t.kids.map qP).foldl thn (qaC t)) := λ hp h=>by
    refine (Ev.diag (L := λ m k=>(qO m (qB m) k).1 t.kids t.kids.length 0 t.kind t.name t.sort t.kids) (k1 0 (Nat.zero_le _))).res ?_
    rw [List.drop_zero,← hp,h]
    split
    ·rw [qH _ (by decide)]
    ·rfl
   refine Ev.bind (qwj t.name) ?_
   rw [qqo]
   have hK:qaC t=if (qA t.name).2.2=0 then 10 else if (t.kids.length:Int)<(qA t.name).1∨(qA t.name).2.1<(t.kids.length:Int) then 6 else if J1 t=true then 10 else 0:=by
    unfold qaC
    rw [if_neg (show ¬ t.kind≠3 from λ hh=>hh h3)]
   refine Ev.ite (λ h=>?_) λ h=>?_
   ·rw [qj] at h;rw [if_pos h] at hK;exact Ev.ret (by rw [hK,qH _ (by decide)])
   rw [qh] at h
   rw [if_neg h] at hK
   refine Ev.ite (λ h1=>?_) λ h1=>?_
   ·rw [qr] at h1;rw [if_pos (.inl h1)] at hK;exact Ev.ret (by rw [hK,qH _ (by decide)])
   rw [qv] at h1
   refine Ev.ite (λ h2=>?_) λ h2=>?_
   ·rw [qr] at h2;rw [if_pos (.inr h2)] at hK;exact Ev.ret (by rw [hK,qH _ (by decide)])
   rw [qv] at h2
   rw [if_neg (by omega)] at hK
   refine Ev.ite (λ hn=>?_) λ hn=>?_
   ·rw [jb] at hn
    refine fin1 ?_ hK
    unfold J1
    rw [hn,if_neg (by decide),if_pos (.inl rfl)]
   rw [jl] at hn
   refine Ev.ite (λ hn'=>?_) λ hn'=>?_
   ·rw [jb] at hn'
    refine fin1 ?_ hK
    unfold J1
    rw [hn',if_neg (by decide),if_pos (.inr rfl)]
   rw [jl] at hn'
   refine Ev.ite (λ hw=>?_) λ hw=>?_
   ·rw [jb] at hw
    have hpos:0<t.kids.length:=by
     rw [hw,show (qA [110,101,119]).1=1 from by decide] at h1
     omega
    refine Ev.some (qdb hpos) ?_
    have hp:J1 t=decide ((kid t 0).kind≠2):=by
     unfold J1
     rw [if_pos (show t.name=qhw from hw)]
    refine Ev.ite (λ hh=>?_) λ hh=>?_
    ·rw [bnt,qh] at hh
     rw [hp,decide_eq_true hh,if_pos rfl] at hK
     exact Ev.ret (by rw [hK,qH _ (by decide)])
    ·rw [bnf,qj] at hh
     rw [hp,decide_eq_false (λ g=>g hh)] at hK
     exact fin2 hK
   ·rw [jl] at hw
    refine fin2 ?_
    have:J1 t=false:=by
     unfold J1
     rw [if_neg (show ¬ t.name=qhw from hw),if_neg (λ h=>h.elim hn hn')]
    rw [this] at hK
    exact hK
theorem qI4 (t:T) (hs:size t≤1000000000):Ev (λ m _=>qdr m t) (qg4 t):=by
 refine Ev.succ ?_
 simp only [quP,qgK,qe]
 unfold qg4
 refine Ev.bind (Ju t hs) ?_
 refine Ev.ite (λ h=>?_) λ h=>?_
 ·rw [bnt,qh] at h;exact Ev.ret (by rw [j8 h])
 ·rw [bnf,qj] at h;rw [h];exact Ev.bind (qEu t hs) (Ev.pure _)
theorem qt3 (n:List UInt8):Ev (λ m _=>qcd m n) (qA n).2.2:=by
 refine Ev.succ ?_
 simp only [qyI,qfh]
 refine Ev.bind (a:=jx) (Ev.succ (Ev.pure _)) ?_
 have key:=qt (P := λ i=>Ev (λ m k=>qae m k n jx i) (((jx.drop i).find? λ r=>r.1==n).getD ([],0,0,0)).2.2.2) jx (by decide)
  (λ hc=>by
   refine Ev.loop ?_
   simp only [qne,qfl]
   refine Ev.cf hc ?_
   exact Ev.pure _)
  (λ i x hx hd hc hg hi hP=>by
   refine Ev.loop ?_
   simp only [qne,qfl]
   refine Ev.ct hc (Ev.some hg ?_)
   rw [hd,List.find?_cons,hi]
   refine Ev.ite (λ h=>?_) λ h=>?_
   ·refine Ev.some hg (Ev.ret ?_)
    rw [show (x.1==n)=true from h];rfl
   ·rw [show (x.1==n)=false from h];exact hP)
 refine Ev.diag (L := λ m k=>qae m k n jx 0) ?_
 exact (key 0 (Nat.zero_le _)).res (by rw [← qqo];rfl)
theorem qIt (t:T):Ev (λ m _=>qgo m t) (qlc jx t.name t.kids.length):=by
 refine Ev.succ ?_
 simp only [qx8,qfn]
 refine Ev.bind (a:=jx) (Ev.succ (Ev.pure _)) ?_
 have key:=qt (P := λ i=>Ev (λ m k=>qal m k jx i t.kind t.name t.sort t.kids) (qlc (jx.drop i) t.name t.kids.length)) jx (by decide)
  (λ hc=>by
   refine Ev.loop ?_
   simp only [qny,qe9]
   refine Ev.cf hc ?_
   exact Ev.pure _)
  (λ i x hx hd hc hg hi hP=>by
   refine Ev.loop ?_
   simp only [qny,qe9]
   refine Ev.ct hc (Ev.some hg ?_)
   rw [hd,qFp,hi]
   refine Ev.ite (λ h=>?_) λ h=>?_
   ·rw [if_pos (show (x.1==t.name)=true from h)]
    refine Ev.some hg ?_
    refine Ev.ite (λ h'=>?_) λ h'=>?_
    ·rw [qcf] at h'
     refine Ev.some hg (Ev.ret ?_)
     rw [decide_eq_true h'];rfl
    ·rw [qiW] at h'
     exact Ev.ret (by rw [decide_eq_false (by omega)];rfl)
   ·rw [if_neg (by rw [show (x.1==t.name)=false from h];decide)];exact hP)
 refine Ev.diag (L := λ m k=>qal m k jx 0 t.kind t.name t.sort t.kids) ?_
 exact key 0 (Nat.zero_le _)
theorem qD4 (t:T) (hl:t.kids.length<2 ^ 62) (hpos:t.name=qhw→0<t.kids.length):Ev (λ m _=>qdL m t) (qjb t):=by
 refine Ev.succ ?_
 simp only [qt0,qc2]
 unfold qjb
 refine Ev.ite (λ h=>?_) λ h=>?_
 ·rw [jb] at h
  rw [if_pos (show t.name=qhw from h)]
  refine Ev.some (qdb (hpos h)) (Ev.pure _)
 rw [jl] at h
 rw [if_neg (show ¬ t.name=qhw from h)]
 have key:=qt (P := λ i=>Ev (λ m k=>Q5 m k i t.kind t.name t.sort t.kids) (agB (t.kids.drop i))) t.kids hl
  (λ hc=>by
   refine Ev.loop ?_
   simp only [qkM,qc7]
   refine Ev.cf hc ?_
   exact Ev.ret (by rw [List.drop_length];rfl))
  (λ i x hx hd hc hg hi hP=>by
   refine Ev.loop ?_
   simp only [qkM,qc7]
   refine Ev.ct hc (Ev.some hg ?_)
   rw [hd,qHJ,hi]
   refine Ev.ite (λ h=>?_) λ h=>?_
   ·exact Ev.ret (by rw [show (x.kind==3)=true from h];rfl)
   rw [show (x.kind==3)=false from h]
   refine Ev.some hg ?_
   refine Ev.ite (λ h'=>?_) λ h'=>?_
   ·rw [bnt,qh] at h'
    exact Ev.ret (by rw [show (x.sort != 1)=true from bne_iff_ne.2 h'];rfl)
   ·rw [bnf,qj] at h'
    rw [show (x.sort != 1)=false by rw [h'];rfl]
    exact hP)
 refine Ev.diag (L := λ m k=>Q5 m k 0 t.kind t.name t.sort t.kids) ?_
 exact (key 0 (Nat.zero_le _)).res (by rw [List.drop_zero])
theorem qEa (t:T):size t≤1000000000→Ev (λ m _=>yx m t) (qP t):=by
 induction t using T.ind with
 | h t ih =>
   intro hs
   refine Ev.succ ?_
   simp only [qw7,qej,qe]
   have hl:=yM t
   rw [qje]
   refine Ev.ite (λ h=>?_) λ h3=>?_
   ·rw [bnt,qh] at h;exact Ev.ret (by rw [if_pos h])
   rw [bnf,qj] at h3
   rw [if_neg (show ¬ t.kind≠3 from λ hh=>hh h3),← qHT t h3]
   have key:=qt (P := λ i=>Ev (λ m k=>QH m (yx m) k i t.kind t.name t.sort t.kids) (((t.kids.drop i).map qP).foldl thn 0)) t.kids (by omega)
    (λ hc=>by
     refine Ev.loop ?_
     simp only [qln,qd8]
     refine Ev.cf hc ?_
     exact Ev.ret (by simp))
    (λ i x hx hd hc hg hi hP=>by
     refine Ev.loop ?_
     simp only [qln,qd8,qe]
     have hm:=List.mem_of_getElem? hx
     have h1:=yO t x hm
     refine Ev.ct hc (Ev.some hg (Ev.bind (ih x hm (by omega)) ?_))
     rw [hd,List.map_cons,j7,hi]
     refine Ev.ite (λ h=>?_) λ h=>?_
     ·rw [bnt,qh] at h;exact Ev.ret (by rw [qH _ h])
     ·rw [bnf,qj] at h;rw [h];exact hP)
   have fin:qtS t=0→Ev (λ m _=>QH m (yx m) m 0 t.kind t.name t.sort t.kids) ((t.kids.map qP).foldl thn (qtS t)) := λ h=>by
    rw [h]
    exact (Ev.diag (L := λ m k=>QH m (yx m) k 0 t.kind t.name t.sort t.kids) (key 0 (Nat.zero_le _))).res (by rw [List.drop_zero])
   unfold qtS at fin ⊢
   refine Ev.bind (qt3 t.name) ?_
   refine Ev.ite (λ h=>?_) λ h=>?_
   ·rw [qj] at h;rw [if_pos h];exact Ev.ret (by rw [qH _ (by decide)])
   rw [qh] at h
   rw [if_neg h] at fin ⊢
   refine Ev.bind (qIt t) ?_
   cases hf:qlc jx t.name t.kids.length with
   | false =>
     refine Ev.ct rfl ?_
     rw [if_pos rfl];exact Ev.ret (by rw [qH _ (by decide)])
   | true =>
     rw [hf,if_neg (by decide)] at fin
     rw [if_neg (by decide)]
     refine Ev.cf rfl ?_
     refine Ev.ite (λ h2=>?_) λ h2=>?_
     ·rw [qj] at h2
      refine Ev.bind (qD4 t (by omega) λ hn=>?_) ?_
      ·obtain ⟨k1,k2,k3,k4,k5,k6,k7⟩:=qtb h
       have h6:=k6 h2
       unfold qlc at hf
       rw [k1,k2,Bool.true_and,Bool.and_eq_true,decide_eq_true_iff] at hf
       omega
      cases ha:qjb t with
      | false =>
        refine Ev.ct rfl ?_
        rw [if_pos ⟨h2,rfl⟩]
        exact Ev.ret (by rw [qH _ (by decide)])
      | true =>
        rw [ha,if_neg (by rintro ⟨_,h⟩;cases h)] at fin
        rw [if_neg (by rintro ⟨_,h⟩;cases h)]
        exact Ev.cf rfl (fin rfl)
     ·rw [qh] at h2
      rw [if_neg (by rintro ⟨h,_⟩;exact h2 h)] at fin ⊢
      exact fin rfl
theorem qIW (t:T) (hs:size t≤1000000000):Ev (λ m _=>qeY m t) (qg4 t):=by
 refine Ev.succ ?_
 simp only [qxb,qhr,qe]
 unfold qg4
 refine Ev.bind (qaN t hs) ?_
 refine Ev.ite (λ h=>?_) λ h=>?_
 ·rw [bnt,qh] at h;exact Ev.ret (by rw [j8 h])
 ·rw [bnf,qj] at h;rw [h];exact Ev.bind (qEa t hs) (Ev.pure _)
end Go.AmYtbpnmbmdbblehaaGreat
namespace Go.GxYtbpnmbmdbblehaaGreat
def Asc (l:List T):Prop:=l.Pairwise λ a b=>qp a b=-1
theorem yh {a:T}:qp a a≠-1:=by rw [qkz];decide
theorem qtZ {a b:T}:qp a b=1↔qp b a=-1:=by
 have:=zL.anti a b;omega
theorem qeb {a b c:T} (h1:qp a b=-1) (h2:qp b c=-1):qp a c=-1:=zL.trans a b c h1 h2
theorem qam {x:T} {l:List T}:Asc (x::l)↔(∀ y∈l,qp x y=-1)∧Asc l:=List.pairwise_cons
theorem qBL:∀ (l m:List T),Asc l→Asc m→(∀ x,x∈l↔x∈m)→l=m
 | [],[],_,_,_=>rfl
 | [],y::m,_,_,h=>absurd ((h y).2 (List.mem_cons_self ..)) (by simp)
 | x::l,[],_,_,h=>absurd ((h x).1 (List.mem_cons_self ..)) (by simp)
 | x::l,y::m,hl,hm,h=>by
   obtain ⟨hl1,hl2⟩:=qam.1 hl
   obtain ⟨hm1,hm2⟩:=qam.1 hm
   have hx:=(h x).1 (List.mem_cons_self ..)
   have hy:=(h y).2 (List.mem_cons_self ..)
   have e:x=y:=by
    rcases List.mem_cons.1 hx with e | hx
    ·exact e
    rcases List.mem_cons.1 hy with e | hy
    ·exact e.symm
    exact absurd (qeb (hl1 y hy) (hm1 x hx)) yh
   subst e
   rw [qBL l m hl2 hm2 λ z=>?_]
   constructor
   ·intro hz
    rcases List.mem_cons.1 ((h z).1 (List.mem_cons_of_mem _ hz)) with e | h'
    ·subst e;exact absurd (hl1 z hz) yh
    ·exact h'
   ·intro hz
    rcases List.mem_cons.1 ((h z).2 (List.mem_cons_of_mem _ hz)) with e | h'
    ·subst e;exact absurd (hm1 z hz) yh
    ·exact h'
theorem qr8 (n:Nat):∀ (a b:List T),a.length+b.length≤n→Asc a→Asc b→Asc (zi a b)∧(∀ x,x∈zi a b↔¬(x∈a↔x∈b)):=by
 induction n with
 | zero =>
   intro a b h _ _
   obtain rfl:a=[]:=List.length_eq_zero_iff.1 (by omega)
   obtain rfl:b=[]:=List.length_eq_zero_iff.1 (by omega)
   rw [zi]
   exact ⟨List.Pairwise.nil,by simp⟩
 | succ n ih =>
   intro a b h ha hb
   match a,b with
   | [],b=>rw [zi];exact ⟨hb,by simp⟩
   | x::a,[]=>rw [zi];exact ⟨ha,by simp [Classical.or_iff_not_imp_left]⟩
   | x::a,y::b =>
     rw [zi]
     obtain ⟨ha1,ha2⟩:=qam.1 ha
     obtain ⟨hb1,hb2⟩:=qam.1 hb
     simp only [List.length_cons] at h
     by_cases h1:qp x y=-1
     ·rw [if_pos h1]
      obtain ⟨k1,k2⟩:=ih a (y::b) (by simp;omega) ha2 hb
      have hxn:x ∉ y::b:=by
       intro h
       rcases List.mem_cons.1 h with e | h
       ·subst e;exact yh h1
       ·exact yh (qeb h1 (hb1 x h))
      have hxa:x ∉ a := λ h=>yh (ha1 x h)
      refine ⟨qam.2 ⟨λ z hz=>?_,k1⟩,λ z=>?_⟩
      ·have:=(k2 z).1 hz
       by_cases hza:z∈a
       ·exact ha1 z hza
       ·have hzb:z∈y::b:=by
          by_cases hzb:z∈y::b
          ·exact hzb
          ·exact absurd ⟨λ h=>absurd h hza,λ h=>absurd h hzb⟩ this
        rcases List.mem_cons.1 hzb with e | h'
        ·rw [e];exact h1
        ·exact qeb h1 (hb1 z h')
      ·rw [List.mem_cons,k2,List.mem_cons (a:=z) (b:=x)]
       by_cases e:z=x
       ·subst e
        simp [hxn]
       ·simp [e]
     ·rw [if_neg h1]
      by_cases h2:qp x y=1
      ·rw [if_pos h2]
       have h3:=qtZ.1 h2
       obtain ⟨k1,k2⟩:=ih (x::a) b (by simp;omega) ha hb2
       have hyn:y ∉ x::a:=by
        intro h
        rcases List.mem_cons.1 h with e | h
        ·subst e;exact yh h3
        ·exact yh (qeb h3 (ha1 y h))
       have hyb:y ∉ b := λ h=>yh (hb1 y h)
       refine ⟨qam.2 ⟨λ z hz=>?_,k1⟩,λ z=>?_⟩
       ·have:=(k2 z).1 hz
        by_cases hzb:z∈b
        ·exact hb1 z hzb
        ·have hza:z∈x::a:=by
           by_cases hza:z∈x::a
           ·exact hza
           ·exact absurd ⟨λ h=>absurd h hza,λ h=>absurd h hzb⟩ this
         rcases List.mem_cons.1 hza with e | h'
         ·rw [e];exact h3
         ·exact qeb h3 (ha1 z h')
       ·rw [List.mem_cons,k2,List.mem_cons (a:=z) (b:=y)]
        by_cases e:z=y
        ·subst e
         simp [hyn]
        ·simp [e]
      ·rw [if_neg h2]
       have h3:qp x y=0:=by have:=zL.rng x y;omega
       have e:=Jv x y h3
       subst e
       obtain ⟨k1,k2⟩:=ih a b (by omega) ha2 hb2
       refine ⟨k1,λ z=>?_⟩
       rw [k2,List.mem_cons,List.mem_cons]
       by_cases e:z=x
       ·subst e
        have:z ∉ a := λ h=>yh (ha1 z h)
        have:z ∉ b := λ h=>yh (hb1 z h)
        simp [*]
       ·simp [e]
theorem qwp {a b:List T} (ha:Asc a) (hb:Asc b):Asc (zi a b):=(qr8 _ a b (Nat.le_refl _) ha hb).1
theorem qFk {a b:List T} (ha:Asc a) (hb:Asc b) (x:T):x∈zi a b↔¬(x∈a↔x∈b):=(qr8 _ a b (Nat.le_refl _) ha hb).2 x
theorem qgD:∀ (ls:List (List T)) (a:List T),Asc a→(∀ l∈ls,Asc l)→Asc (ls.foldl zi a)
 | [],_,h,_=>h
 | l::ls,a,h,k=>qgD ls _ (qwp h (k l (List.mem_cons_self ..))) λ m hm=>k m (List.mem_cons_of_mem _ hm)
theorem qkr (t:T):Asc (jy t):=by
 refine T.ind (P := λ t=>Asc (jy t)) ?_ t
 intro t ih
 rw [qj1]
 split
 ·exact List.Pairwise.nil
 ·split
  ·exact qgD _ _ List.Pairwise.nil λ l hl=>by
    obtain ⟨k,hk,rfl⟩:=List.mem_map.1 hl
    exact ih k hk
  ·exact List.pairwise_singleton _ _
noncomputable def Q6 (t:T) (s:List T × Bool) (x:T):List T × Bool :=
 if s.2=false∧qp t x≤0 then (s.1++(if qp t x<0 then [t] else [])++[x],true) else (s.1++[x],s.2)
noncomputable def qvp (l:List T) (t:T):List T:=if (l.foldl (Q6 t) ([],false)).2 then (l.foldl (Q6 t) ([],false)).1 else (l.foldl (Q6 t) ([],false)).1++[t]
noncomputable def qhp (l:List T) (t:T):List T:=if l.any (λ x=>yy x t) then l.filter (λ x => !yy x t) else qvp l t
noncomputable def qiV (a b:List T):List T:=b.foldl qhp a
theorem qvv (t:T):∀ (l out:List T),l.foldl (Q6 t) (out,true)=(out++l,true)
 | [],out=>by simp
 | x::l,out=>by
   have e:Q6 t (out,true) x=(out++[x],true):=by simp [Q6]
   rw [List.foldl_cons,e,qvv t l]
   simp
noncomputable def Qq:List T→T→List T
 | [],t=>[t]
 | x::l,t=>if qp t x<0 then t::x::l else if qp t x=0 then x::l else x::Qq l t
theorem qtK (t:T):∀ (l out:List T),(if (l.foldl (Q6 t) (out,false)).2 then (l.foldl (Q6 t) (out,false)).1 else (l.foldl (Q6 t) (out,false)).1++[t])=out++Qq l t
 | [],out=>by simp [Qq]
 | x::l,out=>by
   rw [List.foldl_cons]
   by_cases h:qp t x≤0
   ·have e:Q6 t (out,false) x=(out++(if qp t x<0 then [t] else [])++[x],true):=by simp [Q6,h]
    rw [e,qvv,Qq]
    by_cases h0:qp t x<0
    ·simp [h0]
    ·have:qp t x=0:=by omega
     simp [this]
   ·have e:Q6 t (out,false) x=(out++[x],false):=by simp [Q6,h]
    rw [e,qtK t l,Qq,if_neg (by omega),if_neg (by omega)]
    simp
theorem qqq (l:List T) (t:T):qvp l t=Qq l t:=by
 have:=qtK t l []
 simpa [qvp] using this
theorem qrO (t:T):∀ (l:List T) (x:T),x∈Qq l t↔x∈l∨x=t
 | [],x=>by simp [Qq]
 | y::l,x=>by
   rw [Qq]
   split
   ·simp only [List.mem_cons]
    constructor
    ·rintro (h | h | h)<;>simp [h]
    ·rintro ((h | h) | h)<;>simp [h]
   ·split
    ·rename_i h
     have:=Jv t y h
     subst this
     simp only [List.mem_cons]
     constructor
     ·rintro (h | h)<;>simp [h]
     ·rintro ((h | h) | h)<;>simp [h]
    ·rw [List.mem_cons,qrO t l x,List.mem_cons]
     constructor
     ·rintro (h | h | h)<;>simp [h]
     ·rintro ((h | h) | h)<;>simp [h]
theorem qyr (t:T):∀ (l:List T),Asc l→Asc (Qq l t)
 | [],_=>List.pairwise_singleton _ _
 | y::l,h=>by
   obtain ⟨h1,h2⟩:=qam.1 h
   rw [Qq]
   have hr:=zL.rng t y
   split
   ·have hlt:qp t y=-1:=by omega
    refine qam.2 ⟨λ z hz=>?_,h⟩
    rcases List.mem_cons.1 hz with e | hz
    ·rw [e];exact hlt
    ·exact qeb hlt (h1 z hz)
   ·split
    ·exact h
    ·refine qam.2 ⟨λ z hz=>?_,qyr t l h2⟩
     rcases (qrO t l z).1 hz with hz | e
     ·exact h1 z hz
     ·rw [e];exact qtZ.1 (by omega)
theorem jv {a b:T}:yy a b=true↔a=b:=by unfold yy;exact decide_eq_true_iff
theorem qFm {l:List T} (h:Asc l) (t:T):Asc (qhp l t)∧∀ x,x∈qhp l t↔¬(x∈l↔x=t):=by
 unfold qhp
 by_cases hm:t∈l
 ·have h1:(l.any λ x=>yy x t)=true:=List.any_eq_true.2 ⟨t,hm,jv.2 rfl⟩
  rw [if_pos h1]
  refine ⟨List.Pairwise.filter _ h,λ x=>?_⟩
  rw [List.mem_filter]
  by_cases e:x=t
  ·subst e
   simp [hm,jv.2 rfl]
  ·have:yy x t=false:=by
     cases hh:yy x t
     ·rfl
     ·exact absurd (jv.1 hh) e
   simp [e,this]
 ·rw [if_neg (λ hh=>by
    obtain ⟨x,hx,he⟩:=List.any_eq_true.1 hh
    exact hm (by rw [← jv.1 he];exact hx)),qqq]
  refine ⟨qyr t l h,λ x=>?_⟩
  rw [qrO]
  by_cases e:x=t
  ·subst e;simp [hm]
  ·simp [e]
theorem qm5:∀ (b a:List T),Asc a→Asc b→Asc (qiV a b)∧∀ x,x∈qiV a b↔¬(x∈a↔x∈b)
 | [],a,ha,_=>⟨ha,λ x=>by simp [qiV]⟩
 | y::b,a,ha,hb=>by
   obtain ⟨hb1,hb2⟩:=qam.1 hb
   obtain ⟨k1,k2⟩:=qFm ha y
   obtain ⟨m1,m2⟩:=qm5 b (qhp a y) k1 hb2
   refine ⟨m1,λ x=>?_⟩
   rw [show qiV a (y::b)=qiV (qhp a y) b from rfl,m2,k2,List.mem_cons]
   by_cases e:x=y
   ·subst e
    have:x ∉ b := λ h=>yh (hb1 x h)
    by_cases hx:x∈a<;>simp [this,hx]
   ·by_cases hx:x∈a<;>by_cases hy:x∈b<;>simp [e,hx,hy]
theorem qzE {a b:List T} (ha:Asc a) (hb:Asc b):qiV a b=zi a b :=
 qBL _ _ (qm5 b a ha hb).1 (qwp ha hb) λ x=>by rw [(qm5 b a ha hb).2,qFk ha hb]
end Go.GxYtbpnmbmdbblehaaGreat
namespace Go.AmYtbpnmbmdbblehaaGreat
open Go Go.GxYtbpnmbmdbblehaaGreat Go.Lib
noncomputable def szL (l:List T):Nat:=(l.map size).sum
theorem qK (x:T) (l:List T):szL (x::l)=size x+szL l:=by simp [szL]
theorem qhx (a b:List T):szL (a++b)=szL a+szL b:=by simp [szL]
theorem ji:∀ l:List T,l.length≤szL l
 | []=>Nat.zero_le _
 | x::l=>by
   have:=ji l
   have:=size_pos x
   rw [qK,List.length_cons];omega
theorem qbN {l:List T} {x:T} (h:x∈l):size x≤szL l:=qiY l x h
theorem qnc:∀ (n:Nat) (a b:List T),a.length+b.length≤n→szL (zi a b)≤szL a+szL b
 | _,[],b,_=>by rw [zi];omega
 | _,x::a,[],_=>by rw [zi];omega
 | 0,x::a,y::b,h=>by simp at h
 | n+1,x::a,y::b,h=>by
   simp only [List.length_cons] at h
   rw [zi]
   split
   ·have:=qnc n a (y::b) (by simp;omega)
    rw [qK,qK];omega
   ·split
    ·have:=qnc n (x::a) b (by simp;omega)
     rw [qK y,qK y];omega
    ·have:=qnc n a b (by omega)
     rw [qK,qK];omega
theorem qqf:∀ (ls:List (List T)) (a:List T),szL (ls.foldl zi a)≤szL a+(ls.map szL).sum
 | [],_=>by simp
 | l::ls,a=>by
   have h1:=qqf ls (zi a l)
   have h2:=qnc _ a l (Nat.le_refl _)
   simp only [List.foldl_cons,List.map_cons,List.sum_cons]
   omega
theorem qtE (f g:T→Nat):∀ l:List T,(∀ k∈l,f k≤g k)→(l.map f).sum≤(l.map g).sum
 | [],_=>Nat.le_refl _
 | x::l,h=>by
   have h1:=h x (List.mem_cons_self ..)
   have h2:=qtE f g l λ k hk=>h k (List.mem_cons_of_mem _ hk)
   simp only [List.map_cons,List.sum_cons];omega
theorem qxS (l:List T) (h:∀ k∈l,szL (jy k)≤size k):szL ((l.map jy).foldl zi [])≤szL l:=by
 refine Nat.le_trans (qqf _ _) ?_
 rw [List.map_map]
 have:=qtE (szL ∘ jy) size l h
 show 0+_≤(l.map size).sum
 omega
theorem qjB (t:T):szL (jy t)≤size t:=by
 refine T.ind (P := λ t=>szL (jy t)≤size t) ?_ t
 intro t ih
 rw [qj1]
 split
 ·exact Nat.zero_le _
 ·split
  ·have:=qxS t.kids ih
   have:=qG t
   unfold szL at *;omega
  ·show szL [t]≤_
   rw [qK];exact Nat.le_refl _
theorem qdZ (l:List T):szL (zI l)≤szL l:=qxS l λ k _=>qjB k
theorem qmG (x:T) (l:List T):zS (x::l) 1 (((x::l).length:Nat):Int)=l:=by
 unfold zS
 rw [Int.toNat_natCast,List.take_length];rfl
theorem ql6 (n:Nat):inb (n:Int) n=true:=by unfold inb;rw [decide_eq_true_iff];omega
theorem qpc (x:T) (l:List T):inb 1 (Int.toNat (((x::l).length:Nat):Int))=true:=by
 unfold inb;rw [decide_eq_true_iff,Int.toNat_natCast,List.length_cons];omega
theorem qyE (x:T) (l:List T):ilt 0 (((x::l).length:Nat):Int)=true:=by rw [qr,List.length_cons];omega
theorem qCP:∀ (n:Nat) (a b acc:List T),a.length+b.length≤n→szL acc+szL a+szL b≤1000000000→Ev (λ m k=>qck m k a b acc) (acc++zi a b):=by
 intro n
 induction n with
 | zero =>
   intro a b acc hn hs
   have:a=[]:=List.eq_nil_of_length_eq_zero (by omega)
   subst this
   have:b=[]:=List.eq_nil_of_length_eq_zero (by omega)
   subst this
   refine Ev.loop ?_
   simp only [qqm,qhG]
   have:=ji acc
   exact Ev.cf rfl (Ev.ct (qS (by simp only [List.length_nil];omega) (by omega)) (Ev.ct (qS (by simp only [List.length_nil,List.append_nil];omega) (by omega)) (Ev.ret (by rw [zi];simp))))
 | succ n ih =>
   intro a b acc hn hs
   refine Ev.loop ?_
   simp only [qqm,qhG,qe]
   have h1:=ji acc
   have h2:=ji a
   have h3:=ji b
   cases a with
   | nil =>
     refine Ev.cf rfl (Ev.ct (qS (by simp only [List.length_nil];omega) (by omega)) (Ev.ct (qS (by simp only [List.append_nil];omega) (by omega)) (Ev.ret (by rw [zi];simp))))
   | cons x a =>
     refine Ev.ct (qyE x a) ?_
     cases b with
     | nil =>
       refine Ev.cf rfl (Ev.ct (qS (by omega) (by omega)) (Ev.ct (qS (by rw [List.length_append];simp only [List.length_nil];omega) (by omega)) (Ev.ret (by rw [zi];simp))))
     | cons y b =>
       rw [qK,qK] at hs
       refine Ev.ct (qyE y b) (Ev.some (Jo _) (Ev.some (Jo _) (Ev.bind (qba x (by omega) y (by omega)) ?_)))
       rw [zi]
       simp only [List.length_cons] at hn h2 h3
       rw [qK] at h2 h3
       refine Ev.ite (λ hc=>?_) λ hc=>?_
       ·rw [qr] at hc
        have hc:qp x y=-1:=by rcases zL.rng x y with h | h | h<;>omega
        rw [if_pos hc]
        refine Ev.some (Jo _) (Ev.ct (qS (by omega) (by omega)) (Ev.ct (ql6 _) (Ev.ct (qpc x a) ?_)))
        rw [qmG]
        refine (ih a (y::b) (acc++[x]) (by simp only [List.length_cons];omega) (by rw [qhx,qK,qK];show szL acc+(size x+0)+_+_≤_;omega)).res (by simp)
       ·rw [qv] at hc
        rw [if_neg (by omega)]
        refine Ev.ite (λ hd=>?_) λ hd=>?_
        ·rw [qr] at hd
         have hd:qp x y=1:=by rcases zL.rng x y with h | h | h<;>omega
         rw [if_pos hd]
         refine Ev.some (Jo _) (Ev.ct (qS (by omega) (by omega)) (Ev.ct (ql6 _) (Ev.ct (qpc y b) ?_)))
         rw [qmG]
         refine (ih (x::a) b (acc++[y]) (by simp only [List.length_cons];omega) (by rw [qhx,qK,qK];show szL acc+(size y+0)+_+_≤_;omega)).res (by simp)
        ·rw [qv] at hd
         rw [if_neg (by omega)]
         refine Ev.ct (ql6 _) (Ev.ct (qpc x a) (Ev.ct (ql6 _) (Ev.ct (qpc y b) ?_)))
         rw [qmG,qmG]
         exact ih a b acc (by omega) (by omega)
theorem qzX (a b:List T) (hs:szL a+szL b≤1000000000):Ev (λ m _=>qhs m a b) (zi a b):=by
 refine Ev.succ ?_
 simp only [qDB,qhN]
 refine Ev.diag (L := λ m k=>qck m k a b []) ?_
 exact qCP _ a b [] (Nat.le_refl _) (by show 0+_+_≤_;omega)
theorem qAA (l:List T) (i:Nat):szL (l.take i)≤szL l:=by
 have:=congrArg szL (List.take_append_drop i l)
 rw [qhx] at this;omega
theorem jQ {l:List T} {i:Nat} {x:T} (h:l[i]? = some x):szL (l.take i)+size x≤szL l:=by
 have h1:l.take (i+1)=l.take i++[x]:=by rw [List.take_add_one,h];rfl
 have h2:=qAA l (i+1)
 rw [h1,qhx,qK] at h2
 have:szL ([]:List T)=0:=rfl
 omega
theorem qi8 {l:List T} {i:Nat} {x:T} (h:l[i]? = some x):((l.take (i+1)).map jy).foldl zi []=zi (((l.take i).map jy).foldl zi []) (jy x):=by
 rw [List.take_add_one,h,List.map_append,List.foldl_append];rfl
theorem qHk (t:T):size t≤1000000000→Ev (λ m _=>zW m t) (jy t):=by
 induction t using T.ind with
 | h t ih =>
   intro hs
   have hl:=yM t
   have hz:=qG t
   refine Ev.succ ?_
   simp only [qvd,qc9,qe]
   have key:=qt (P := λ i=>Ev (λ m k=>Qb m (zW m) k (((t.kids.take i).map jy).foldl zi []) t.kids t.kids.length i) ((t.kids.map jy).foldl zi [])) t.kids (by omega)
    (λ hc=>by
     refine Ev.loop ?_
     simp only [qkP,qdg]
     refine Ev.cf hc ?_
     rw [List.take_length]
     exact Ev.pure _)
    (λ i x hx hd hc hg hi hP=>by
     refine Ev.loop ?_
     simp only [qkP,qdg,qe]
     have hm:=List.mem_of_getElem? hx
     have h1:=yO t x hm
     have h2:=qdZ (t.kids.take i)
     have h3:=jQ hx
     have h4:=qjB x
     refine Ev.ct hc (Ev.some hg (Ev.bind (ih x hm (by omega)) (Ev.bind (qzX _ _ ?_) ?_)))
     ·unfold zI at h2;unfold szL at *;omega
     ·rw [hi]
      refine hP.congr λ m k=>?_
      rw [qi8 hx])
   have main:Ev (λ m _=>Qb m (zW m) m [] t.kids t.kids.length 0) ((t.kids.map jy).foldl zi []) :=
    Ev.diag (L := λ m k=>Qb m (zW m) k [] t.kids t.kids.length 0) (key 0 (Nat.zero_le _))
   rw [qj1]
   by_cases h3:t.kind=3
   ·have hk:ieq t.kind 3=true:=qj.2 h3
    refine Ev.ct hk ?_
    refine Ev.ite (λ hn=>?_) λ hn=>?_
    ·rw [jb] at hn
     have hnz:isN t qbn=true:=yz.2 ⟨h3,hn⟩
     have hnx:isN t qcU=false:=by
      rw [← Bool.not_eq_true,yz];rintro ⟨_,h⟩;rw [hn] at h;exact absurd h (by decide)
     refine Ev.ite (λ he=>?_) λ he=>?_
     ·rw [qj] at he
      have he:t.kids=[]:=List.eq_nil_of_length_eq_zero (by omega)
      rw [hnz,he]
      exact Ev.pure _
     ·rw [qh] at he
      have he:t.kids.isEmpty=false:=by
       cases hh:t.kids with
       | nil=>rw [hh] at he;exact absurd rfl he
       | cons _ _=>rfl
      rw [hnz,he,hnx]
      exact Ev.ct hk (Ev.cf (by rw [hn];rfl) (Ev.pure _))
    ·have hn':=jl.1 hn
     have hnz:isN t qbn=false:=by
      rw [← Bool.not_eq_true,yz];rintro ⟨_,h⟩;exact hn' h
     rw [hnz]
     refine Ev.ct hk (Ev.ite (λ hx=>?_) λ hx=>?_)
     ·rw [show isN t qcU=true from yz.2 ⟨h3,jb.1 hx⟩]
      exact main
     ·have hnx:isN t qcU=false:=by
        rw [← Bool.not_eq_true,yz];rintro ⟨_,h⟩;exact jl.1 hx h
      rw [hnx]
      exact Ev.pure _
   ·have hk:ieq t.kind 3=false:=qh.2 h3
    have hnn:∀ n,isN t n=false := λ n=>by
     rw [← Bool.not_eq_true,yz];rintro ⟨h,_⟩;exact h3 h
    rw [hnn,hnn]
    exact Ev.cf hk (Ev.cf hk (Ev.pure _))
end Go.AmYtbpnmbmdbblehaaGreat
