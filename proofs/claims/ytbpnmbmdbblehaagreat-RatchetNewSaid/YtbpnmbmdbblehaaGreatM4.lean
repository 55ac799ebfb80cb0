/- Part 4 of what the proofs stand on: plain functions of the program, and that they are its functions. -/
import Derived.Test.YtbpnmbmdbblehaaGreatM3
import Derived.KernelRfl
import Derived.Test.YtbpnmbmdbblehaaGreatProg
import Derived.Test.YtbpnmbmdbblehaaGreatM2
import Derived.IntWalk
import Derived.Lib.Bytealg
set_option linter.unusedVariables false
set_option linter.unusedSimpArgs false
namespace Go.AmYtbpnmbmdbblehaaGreat
open Go Go.RowKit Go.GxYtbpnmbmdbblehaaGreat Go.Sort Go.Proofs Go.Shelf
structure qFq (w0:World) (blk:Nat) (et:TypeId) (vs:Array Value) (W:World):Prop where
 hb:W.heap[blk]? = some (.cells vs et (0,0))
 os:W.os=w0.os
 tape:W.tape=w0.tape
 output:W.output=w0.output
 size:w0.heap.size≤W.heap.size
 other:∀ b,b<w0.heap.size→b≠blk→W.heap[b]? = w0.heap[b]?
 drawn:w0.drawn≤W.drawn
theorem qFq.refl {w:World} {blk:Nat} {et:TypeId} {vs:Array Value} (h:w.heap[blk]? = some (.cells vs et (0,0))):qFq w blk et vs w:=⟨h,rfl,rfl,rfl,Nat.le_refl _,λ _ _ _=>rfl,Nat.le_refl _⟩
theorem sort_blks {w:World} {blk:Nat} {et:TypeId} {vs:Array Value} (hb:w.heap[blk]? = some (.cells vs et (0,0))) {α : Type} [Inhabited α] (enc : α → List Value) (k m:Nat) (dk:Array α) (os:Array Obj) :
  qFq w blk et (putCells id 0 (flatK enc k dk) vs) (sortWorldK enc k w blk 0 m dk os):=by
 have hlt:blk<w.heap.size:=(Array.getElem?_eq_some_iff.1 hb).1
 have hh:(sortWorldK enc k w blk 0 m dk os).heap=w.heap.modify blk (onCells (putCells id 0 (flatK enc k dk)))++os:=rfl
 refine ⟨?_,rfl,rfl,rfl,?_,λ b hb' hn=>?_,Nat.le_add_right _ _⟩
 ·rw [hh,Array.getElem?_append_left (by simpa using hlt),Array.getElem?_modify,if_pos rfl,hb]
  rfl
 ·rw [hh,Array.size_append,Array.size_modify];exact Nat.le_add_right _ _
 ·rw [hh,Array.getElem?_append_left (by simpa using hb'),Array.getElem?_modify,if_neg (Ne.symm hn)]
theorem qd2.grow {W w':World} (h:qd2 W w'):∃ q os',w'=Sort.grow (W.drewN q) os':=by
 refine ⟨w'.drawn-W.drawn,w'.heap.extract W.heap.size w'.heap.size,?_⟩
 have hh:w'.heap=W.heap++w'.heap.extract W.heap.size w'.heap.size:=by
  apply Array.ext_getElem?
  intro i
  by_cases hi:i<W.heap.size
  ·rw [Array.getElem?_append_left hi];exact h.block i hi
  ·rw [Array.getElem?_append_right (by omega),Array.getElem?_extract]
   split
   ·congr 1;omega
   ·rw [Array.getElem?_eq_none (by omega)]
 have hd:W.drawn+(w'.drawn-W.drawn)=w'.drawn:=Nat.add_sub_cancel' h.drawn
 obtain ⟨h1,h2,h3,_,_,_⟩:=h
 cases w'
 cases W
 simp only [Sort.grow,World.drewN] at *
 rw [← hh,hd,h1,h2,h3]
def jY (vs:Array Value) (k p:Nat):List Value:=(vs.toList.drop (p*k)).take k
theorem qjd {vs:Array Value} {k p j:Nat} (hj:j<k):(jY vs k p)[j]? = vs[p*k+j]? := by
 unfold jY
 rw [List.getElem?_take,if_pos hj,List.getElem?_drop,Array.getElem?_toList]
theorem qln {vs:Array Value} {k p n:Nat} (hp:p<n) (hn:n*k≤vs.size):(jY vs k p).length=k:=by
 unfold jY
 have:(p+1)*k≤n*k:=Nat.mul_le_mul_right _ hp
 rw [Nat.succ_mul] at this
 rw [List.length_take,List.length_drop,Array.length_toList]
 omega
theorem qpQ {Γ : Gh} {τ : Ty} {c:List (List AV)} {l:List (Val τ)} {vs:Array Value} {n:Nat} (hn:c.length=n) (hk:∀ e∈c,e.length = τ.size) (hd:qV (yj τ) c=some l) (hc:yo Γ τ.size c (vs.toList.take (n * τ.size))) (hs:n * τ.size≤vs.size)
  {p:Nat} {x:Val τ} (hp:l[p]? = some x):RepL Γ (qm τ x) (jY vs τ.size p)∧∀ u∈jY vs τ.size p,u.oneCell'=true:=by
 have hln:l.length=n:=(qT hd).symm.trans hn
 have hpn:p<n:=by rw [← hln];exact getElem?_lt hp
 have hpc:p<c.length:=by rw [hn];exact hpn
 obtain ⟨x',hx',hdx⟩:=Q5 hd (List.getElem?_eq_getElem hpc)
 rw [hp] at hx'
 cases hx'
 have hel:=hk _ (List.getElem_mem hpc)
 have hlen:=qln (k := τ.size) hpn hs
 have get:∀ j,j < τ.size→∃ u,(jY vs τ.size p)[j]? = some u∧Rep Γ (c[p][j]?.getD .dead) u∧u.oneCell'=true:=by
  intro j hj
  have hj':j<c[p].length:=by rw [hel];exact hj
  obtain ⟨u,u1,u2,u3⟩:=hc p c[p] j _ (List.getElem?_eq_getElem hpc) (List.getElem?_eq_getElem hj')
  refine ⟨u,?_,?_,u3⟩
  ·rw [qjd hj,← Array.getElem?_toList]
   rw [List.getElem?_take] at u1
   split at u1
   ·exact u1
   ·cases u1
  ·rw [List.getElem?_eq_getElem hj'];exact u2
 constructor
 ·refine (qim hdx).rep ⟨by rw [hlen,hel],λ j y u hy hu=>?_⟩
  have hj:j < τ.size:=by rw [← hel];exact getElem?_lt hy
  obtain ⟨u',u1,u2,_⟩:=get j hj
  rw [hu] at u1;cases u1
  rw [hy] at u2
  exact u2
 ·intro u hu
  obtain ⟨j,hj⟩:=List.getElem?_of_mem hu
  have hjk:j < τ.size:=by rw [← hlen];exact getElem?_lt hj
  obtain ⟨u',u1,_,u3⟩:=get j hjk
  rw [hj] at u1;cases u1
  exact u3
theorem qie (j k n:Nat) (h:j<n*k):j / k<n∧j / k*k+j % k=j∧j % k<k:=by
 have hk:0<k:=by
  rcases Nat.eq_zero_or_pos k with h0 | h0
  ·rw [h0,Nat.mul_zero] at h;exact absurd h (Nat.not_lt_zero _)
  ·exact h0
 refine ⟨(Nat.div_lt_iff_lt_mul hk).2 h,?_,Nat.mod_lt _ hk⟩
 rw [Nat.mul_comm];exact Nat.div_add_mod j k
set_option maxHeartbeats 1000000 in
theorem qCU {P:Program} {ρ : Ren} (L:SlLaysF0.n6 P ρ) {τ : Ty} {g:FuncId} (hag:∀ v,yD τ v = .agg (qm τ v)) (aE:∀ w,(isAgg (ρ.t 24)).run P w = .ok true w) (zE:∀ w,(Go.sizeOf (ρ.t 24)).run P w = .ok τ.size w)
  {F:Val τ → Val τ → Option Int} (hF:Fn2 P g τ (λ c:Int => .int .i64 c) F) (hf:qeL P (ρ.f 6)) {fn:List (Val τ)→Option (List (Val τ))} (hfn:∀ l r,fn l=some r→qoG F l=some r) :
  qX P (ρ.f 6) (mgP ⟨τ,[.clo g 0],λ x=>fn x.1⟩):=by
 refine ⟨hf,λ Γ σ w args vals r hi hr hp=>?_⟩
 unfold mgP at hp
 split at hp
 case h_2=>cases hp
 rename_i x hx
 split at hp
 case h_2=>cases hp
 rename_i v hv
 split at hp
 case h_2=>cases hp
 rename_i hlen
 obtain ⟨l,_⟩:=x
 have hv:=hfn _ _ hv
 have hlen:v.length=l.length:=Nat.eq_of_beq_eq_true hlen
 obtain ⟨y0,ys0,nr,rfl,hy0,hx1⟩:=qna hx
 obtain ⟨ys1,rfl,hx2⟩:=qzW (g:=g) (r:=[]) hx1
 obtain ⟨rfl,hbx,hrw⟩:=qjn hx2
 clear hx hx1 hx2
 obtain ⟨u0,r0,rfl,hu0,hr⟩:=hr.uncons
 obtain ⟨u1,r1,rfl,hu1,hr⟩:=hr.uncons
 have:=hr.nil_inv
 subst this
 have hu1:u1 = .func (.func g) #[] #[]:=by
  cases hu1 with
  | fn _ _ us hn _=>obtain rfl:=List.eq_nil_of_length_eq_zero hn;rfl
 subst hu1
 have hb0 : σ.bx=[]:=List.eq_nil_of_length_eq_zero hbx.symm
 have none0:∀ (p:Option Addr) (cap:Nat),Calls P (ρ.f 6) #[.slice p 0 cap,.func (.func g) #[] #[]] w λ e w'=>e = .returned (.tuple #[])∧w'=w := λ p cap=>AnyF.slices_SortFunc_none L p cap _ w
 have tup:∀ Γ,Rep Γ (.tup []) (.tuple #[]) := λ Γ => .tup [] [] rfl (λ i x u h=>by cases h)
 rcases qc3 hy0 with ⟨hnr,R,rfl,hR,hRk,hRf,hRd⟩ | ⟨hnr,hl0,hy⟩
 ·have hrw1 : σ.rw=[R]:=by
    rw [hnr] at hrw
    match hq : σ.rw,hrw with
    | [Q],_=>rw [hq] at hR;cases hR;rfl
  rw [hb0,hrw1] at hp
  cases hp
  have H:=hi.row 0 R hR
  have hcl:R.c.length=l.length:=qT hRd
  have hlk:∀ e∈R.c,e.length = τ.size := λ e he=>(H.len e he).trans hRk
  have qll:qR { σ with wr:=[],wrr:=[] } ⟨[],[⟨R.k,v.map (qm τ),R.ver,R.fz⟩],[],[0]⟩ :=
   ⟨by show σ.bx.length≤0;rw [hb0];exact Nat.le_refl _,by show σ.rw.length≤1;rw [hrw1];exact Nat.le_refl _,λ i hi _=>(by have hi:i < σ.bx.length:=hi;rw [hb0] at hi;exact absurd hi (Nat.not_lt_zero _)),λ i hi hn=>(by
    have hi:i < σ.rw.length:=hi
    rw [hrw1] at hi
    have hi:i<1:=hi
    obtain rfl:i=0:=by omega
    exact absurd (List.mem_singleton.2 rfl) hn),λ i h=>(by cases h),λ i h=>(by cases h)⟩
  obtain ⟨p,cap,rfl,hcap,hrm⟩:=qoR hi hR hRk hRf hu0
  by_cases hl0:l=[]
  ·subst hl0
   have hc0:R.c=[]:=List.eq_nil_of_length_eq_zero hcl
   have hv0:v=[]:=List.eq_nil_of_length_eq_zero hlen
   subst hv0
   rw [hcl]
   refine (none0 p cap).mono ?_
   rintro e w' ⟨rfl,rfl⟩
   refine ⟨_,Γ,rfl,.refl _ _,?_,tup _,qll⟩
   have:(⟨[],[⟨R.k,([]:List (Val τ)).map (qm τ),R.ver,R.fz⟩],[],[0]⟩:St)=⟨[],[R],[],[0]⟩:=by
    show (⟨[],[⟨R.k,[],R.ver,R.fz⟩],[],[0]⟩:St)=_
    rw [← hc0]
   show Inv Γ ⟨[],[⟨R.k,([]:List (Val τ)).map (qm τ),R.ver,R.fz⟩],[],[0]⟩ w'
   rw [this]
   exact hi.wr hb0.symm hrw1.symm
  ·have hlpos:0<l.length:=List.length_pos_iff.2 hl0
   rcases hrm with h0 | ⟨rfl,hz,vs,et,hvs,hvsz,hfit,hca,hxl,h1⟩
   ·omega
   obtain ⟨n,hn⟩:∃ n,n=l.length:=⟨_,rfl⟩
   have hnc:R.c.length=n:=hcl.trans hn.symm
   rw [hnc] at hca hxl h1 hcap ⊢
   have hns:n * τ.size≤vs.size:=Nat.le_trans (Nat.mul_le_mul_right _ hcap) hfit
   have hsz0:0 < τ.size:=Ty.size_pos τ
   have hv':Nat.ble l.length 100000=true∧qbr F l=true∧qqg l.length (ltOf (Qx F l))=true∧v=pick l (JY F l):=by
    cases l with
    | nil=>exact absurd rfl hl0
    | cons y l =>
      have hv:cond _ _ _=some v:=hv
      cases hb:(Nat.ble (y::l).length 100000&&(qbr F (y::l)&&qqg (y::l).length (ltOf (Qx F (y::l))))) with
      | false=>unfold qoG at hv;rw [hb] at hv;cases hv
      | true =>
        have hb':=hb
        simp only [Bool.and_eq_true] at hb'
        unfold qoG at hv
        rw [hb] at hv
        cases hv
        exact ⟨hb'.1,hb'.2.1,hb'.2.2,rfl⟩
   obtain ⟨v1,v2,v3,v4⟩:=hv'
   have v1:l.length≤100000:=Nat.le_of_ble_eq_true v1
   have hO:SWO (ltOf (Qx F l)):=qHX hlpos (λ i j=>by unfold ltOf;rw [qD3]) v3
   obtain ⟨hperm,_⟩:=qpk F l hO
   have hixlt:∀ i∈JY F l,i<l.length := λ i hi=>List.mem_range.1 (hperm.mem_iff.1 hi)
   have hixlen:(JY F l).length=l.length:=by rw [hperm.length_eq,List.length_range]
   have hER:∀ {q:Nat} {y:Val τ},l[q]? = some y→RepL Γ (qm τ y) (jY vs τ.size q)∧∀ u∈jY vs τ.size q,u.oneCell'=true := λ hq=>qpQ hnc hlk hRd hca hns hq
   have hlast:∀ i,i % n<n := λ i=>Nat.mod_lt _ (by omega)
   obtain ⟨enc,henc⟩:∃ enc:Nat→List Value,enc = λ i=>jY vs τ.size (i % n):=⟨_,rfl⟩
   have hek:∀ i,(enc i).length = τ.size := λ i=>by rw [henc];exact qln (hlast i) hns
   have hlget:∀ i,∃ y,l[i % n]? = some y := λ i=>⟨_,List.getElem?_eq_getElem (by rw [← hn];exact hlast i)⟩
   have he1:∀ i,∀ u∈enc i,u.oneCell'=true := λ i u hu=>by
    rw [henc] at hu
    obtain ⟨y,hy⟩:=hlget i
    exact (hER hy).2 u hu
   have hrange:(Array.range n).size=n:=Array.size_range
   have hvsb:w.heap[Γ.cur 0]? = some (.cells vs et (0,0)):=hvs
   have hblk : Γ.cur 0<w.heap.size:=(Array.getElem?_eq_some_iff.1 hvsb).1
   have hmem0:∀ off,Γ.mem (Γ.cur 0) off=none := λ off=>H.un hz off (by rw [hRf,Nat.zero_mul];exact Nat.zero_le _)
   have hH:HoldsK enc τ.size w (Γ.cur 0) 0 (Array.range n):=by
    intro j hj
    rw [size_flatK,hrange] at hj
    obtain ⟨q1,q2,q3⟩:=qie j τ.size n hj
    have hjs:j<vs.size:=Nat.lt_of_lt_of_le hj hns
    constructor
    ·rw [get_flatK _ _ _ _ (by rw [hrange];exact hj)]
     have e1:(Array.range n)[j / τ.size]! = j / τ.size:=by rw [getElem!_pos _ _ (by rw [hrange];exact q1)];simp
     rw [e1,henc]
     show _=some ((jY vs τ.size (j / τ.size % n))[j % τ.size]!)
     rw [Nat.mod_eq_of_lt q1]
     have e2:(jY vs τ.size (j / τ.size))[j % τ.size]? = some vs[j]:=by rw [qjd q3,q2];exact Array.getElem?_eq_getElem hjs
     rw [Nat.zero_add,Blk.cell hvs,List.getElem!_eq_getElem?_getD,e2,Array.getElem?_eq_getElem hjs]
     rfl
    ·exact Blk.free hvs _
   have hcmp:CmpLays P g #[] enc τ.size (Qx F l) (Γ.cur 0) 0 (Array.range n).size w:=by
    intro m os dk hdk x y
    have B:=sort_blks hvsb enc τ.size m dk os
    obtain ⟨W,hW⟩:∃ W,W=sortWorldK enc τ.size w (Γ.cur 0) 0 m dk os:=⟨_,rfl⟩
    rw [← hW] at B ⊢
    have hiW:Inv (bare Γ) emp W:=hi.bare λ b o u e=>by
     have hne:b ≠ Γ.cur 0 := λ hb=>by rw [hb,hmem0] at e;cases e
     have hc:=(hi.mem b o u e).1
     have hblt:=hi.mem_lt e
     rw [show W.cell? _=w.cell? _ from World.cell?_of_block (B.other b hblt hne)]
     exact hc
    have rep:∀ (i:Nat) (y:Val τ),l[i % n]? = some y→Rep (bare Γ) (yD τ y) (.agg (enc i).toArray) := λ i y hy=>by
     obtain ⟨q1,q2⟩:=hER hy
     rw [hag]
     have:enc i=jY vs τ.size (i % n):=by rw [henc]
     rw [this]
     refine .agg _ _ q1.len q2 λ j z u a b=>(q1.rep j z u a b).bare (zR τ y z (List.mem_of_getElem? a))
    obtain ⟨lx,hx⟩:=hlget x
    obtain ⟨ly,hy⟩:=hlget y
    have hsome:=List.all_eq_true.1 (List.all_eq_true.1 v2 lx (List.mem_of_getElem? hx)) ly (List.mem_of_getElem? hy)
    obtain ⟨c,hc⟩:=Option.isSome_iff_exists.1 hsome
    have hcf:Qx F l x y=c:=by
     unfold Qx
     rw [← hn,hx,hy]
     simp only
     rw [hc];rfl
    rw [hcf]
    have hcall:=hF.2 hiW (rep x lx hx) (rep y ly hy) hc
    refine Calls.mono (by simpa using hcall) ?_
    rintro e w' ⟨rfl,hid⟩
    exact ⟨rfl,hid.grow⟩
   have hcall:=AnyQ.slices_SortFunc_eq L τ.size aE zE enc hek he1 (Qx F l) hO g #[] (Γ.cur 0) 0 cap (Array.range n) w (λ args w=>qdO hF.1 args w) hcmp hH hblk (by rw [hrange];omega)
   rw [hrange] at hcall
   refine Calls.mono hcall ?_
   rintro e w' ⟨rfl,m,os,hw'⟩
   have B:=sort_blks hvsb enc τ.size m (pdq (ltOf (Qx F l)) (Array.range n) 0 n (Lib.bitLen n) true true) os
   rw [← hw'] at B
   have hix:JY F l=(pdq (ltOf (Qx F l)) (Array.range n) 0 n (Lib.bitLen n) true true).toList:=by unfold JY;rw [hn]
   obtain ⟨dk,hdk⟩:∃ dk,dk=pdq (ltOf (Qx F l)) (Array.range n) 0 n (Lib.bitLen n) true true:=⟨_,rfl⟩
   rw [← hdk] at B hix
   have hdks:dk.size=n:=by rw [← Array.length_toList,← hix,hixlen,hn]
   have hvlen:(v.map (qm τ)).length=n:=by rw [List.length_map,hlen,hn]
   have hflat:(flatK enc τ.size dk).size=n * τ.size:=by rw [size_flatK,hdks]
   have hpsz:(putCells id 0 (flatK enc τ.size dk) vs).size=vs.size:=by unfold putCells;rw [Array.size_mapIdx]
   obtain ⟨Γ',x1,x2,_⟩:=qiZ hi hR (R':=⟨R.k,v.map (qm τ),R.ver,R.fz⟩) (by rw [hRf];exact Nat.zero_le _) rfl (g := Γ.cur 0) (vs:=putCells id 0 (flatK enc τ.size dk) vs) (e:=et) (.inr ⟨rfl,rfl,hpsz.trans hvsz⟩)
    (λ e he=>by obtain ⟨y,_,rfl⟩:=List.mem_map.1 he;rw [jL,hRk]) (λ e he=>by obtain ⟨y,_,rfl⟩:=List.mem_map.1 he;exact zR τ y) (by show R.fz≤_;rw [hRf];exact Nat.zero_le _) B.hb
    (by show (v.map (qm τ)).length*R.k≤_;rw [hvlen,hRk,hpsz];exact hns)
    (λ off _=>hmem0 off)
    (λ i e j x he hx=>by
     have he:(v.map (qm τ))[i]? = some e:=he
     have hin:i<n:=by rw [← hvlen];exact getElem?_lt he
     rw [List.getElem?_map,v4,qqR hixlt] at he
     have hixi:(JY F l)[i]? = some dk[i]:=by rw [hix,Array.getElem?_toList];exact Array.getElem?_eq_getElem (by omega)
     rw [hixi] at he
     obtain ⟨y,hy,rfl⟩:∃ y,l[dk[i]]? = some y∧qm τ y=e:=by
      cases hq:l[dk[i]]? with
      | none=>simp [hq] at he
      | some y=>simp [hq] at he;exact ⟨y,rfl,he⟩
     have hdl:dk[i]<n:=Nat.lt_of_lt_of_le (getElem?_lt hy) (Nat.le_of_eq hn.symm)
     obtain ⟨q1,q2⟩:=hER hy
     have hj:j < τ.size:=by rw [← jL τ y];exact getElem?_lt hx
     obtain ⟨u,hu,hrep⟩:=q1.get hx
     refine ⟨u,?_,hrep,q2 u (List.mem_of_getElem? hu)⟩
     rw [hRk]
     have hlt:i * τ.size+j<n * τ.size:=by
      have:(i+1) * τ.size≤n * τ.size:=Nat.mul_le_mul_right _ hin
      rw [Nat.succ_mul] at this
      omega
     unfold putCells
     rw [Array.getElem?_mapIdx,Array.getElem?_eq_getElem (Nat.lt_of_lt_of_le hlt hns),Option.map_some,if_pos ⟨Nat.zero_le _,by rw [hflat,Nat.zero_add];exact hlt⟩,Nat.sub_zero,id,get_flatK _ _ _ _ (by rw [hdks];exact hlt)]
     have e1:(i * τ.size+j) / τ.size=i:=by rw [Nat.mul_comm,Nat.mul_add_div hsz0,Nat.div_eq_of_lt hj,Nat.add_zero]
     have e2:(i * τ.size+j) % τ.size=j:=by rw [Nat.mul_comm,Nat.mul_add_mod,Nat.mod_eq_of_lt hj]
     rw [e1,e2,getElem!_pos dk i (by omega),henc]
     show some ((jY vs τ.size (dk[i] % n))[j]!)=_
     rw [Nat.mod_eq_of_lt hdl,List.getElem!_eq_getElem?_getD,hu]
     rfl)
    (λ b o u hm=>by
     have hne:b ≠ Γ.cur 0 := λ hb=>by rw [hb,hmem0] at hm;cases hm
     rw [show w'.cell? _=w.cell? _ from World.cell?_of_block (B.other b (hi.mem_lt hm) hne)]
     exact (hi.mem b o u hm).1)
    (λ b hb hor=>B.other b hb (hor.elim id λ h0=>absurd h0 hz)) (.inl ⟨rfl,hz⟩) B.os B.tape B.output B.size B.drawn [0]
   refine ⟨_,Γ',rfl,x1,?_,tup _,qll⟩
   refine x2.wr ?_ ?_
   ·exact hb0.symm
   ·show [(⟨R.k,v.map (qm τ),R.ver,R.fz⟩:Row)] = σ.rw.set 0 _
    rw [hrw1];rfl
 ·have hrw0 : σ.rw=[]:=by rw [hnr] at hrw;exact List.eq_nil_of_length_eq_zero hrw.symm
  rw [hb0,hrw0] at hp
  cases hp
  have hfin:∀ (p:Option Addr) (cap:Nat),jy P Γ σ w (ρ.f 6) [.slice p 0 cap,.func (.func g) #[] #[]] (.tup [],none) := λ p cap=>by
   refine (none0 p cap).mono ?_
   rintro e w' ⟨rfl,rfl⟩
   exact ⟨_,Γ,rfl,.refl _ _,hi,tup _,.refl _⟩
  rcases hy with rfl | ⟨f,rfl,hf2⟩
  ·have hu0:=zq hu0
   subst hu0
   exact hfin none 0
  ·cases hu0 with
   | sl _ _ _ a n cap b o us hn _ _ _ _ _ _ _ _ =>
     have hn:n=0:=hn
     subst hn
     exact hfin a cap
end Go.AmYtbpnmbmdbblehaaGreat
namespace Go.Proofs.YtbpnmbmdbblehaaGreat
open Go Go.RowKit Go.GxYtbpnmbmdbblehaaGreat Go.Sort Go.Proofs Go.Shelf Go.Lib
def zp (ef:Nat→Nat→Bool) (n:Nat):List Nat:=(List.range n).filter λ i=>decide (i=0) || !ef i (i-1)
theorem qy6 {ef:Nat→Nat→Bool} {n:Nat} (h:ef n (n-1)=false):zp ef (n+1)=zp ef n++[n]:=by
 unfold zp
 rw [List.range_succ,List.filter_append]
 simp [h]
theorem qps {ef:Nat→Nat→Bool} {n:Nat} (hn:0<n) (h:ef n (n-1)=true):zp ef (n+1)=zp ef n:=by
 unfold zp
 rw [List.range_succ,List.filter_append]
 have:¬ n=0:=by omega
 simp [h,this]
theorem qr2 {ef:Nat→Nat→Bool} {n:Nat} (h:∀ i,1≤i→i<n→ef i (i-1)=false):zp ef n=List.range n:=by
 unfold zp
 rw [List.filter_eq_self]
 intro i hi
 have hi:=List.mem_range.1 hi
 by_cases h0:i=0
 ·simp [h0]
 ·rw [h i (by omega) hi];simp
theorem qzF {α : Type} [Inhabited α] (enc : α → List Value) (k:Nat) (hk:∀ x,(enc x).length=k) (d:Array α) (i:Nat) (x : α) (hi:i<d.size):setMany (flatK enc k d) (i*k) (enc x)=flatK enc k (d.setIfInBounds i x):=by
 refine ext_get! (by simp) λ t ht=>?_
 rw [size_setMany,size_flatK] at ht
 rw [get_setMany _ _ _ _ (by rw [size_flatK];exact ht),hk,get_flatK _ _ _ _ ht,get_flatK _ _ _ _ (by simpa using ht)]
 have hk0:0<k:=by
  rcases Nat.eq_zero_or_pos k with h0 | h0
  ·rw [h0,Nat.mul_zero] at ht;exact absurd ht (Nat.not_lt_zero _)
  ·exact h0
 by_cases hb:i*k≤t∧t<i*k+k
 ·rw [if_pos hb]
  have e:=(blk_iff k i t hk0).1 hb
  rw [e,getElem!_set_same d i x hi]
  congr 1
  have:=Nat.div_add_mod t k
  rw [e] at this
  have e2:k*i=i*k:=Nat.mul_comm _ _
  omega
 ·rw [if_neg hb,getElem!_set_other d i _ x λ he=>hb ((blk_iff k i t hk0).2 he)]
theorem qFY {α : Type} [Inhabited α] {w:World} {enc : α → List Value} {k blk:Nat} (hk:∀ x,(enc x).length=k) (m:Nat) (dk:Array α) (os:Array Obj) (hblk:blk<w.heap.size) (i:Nat) (x : α) (hi:i<dk.size) :
  (sortWorldK enc k w blk 0 m dk os).setCells blk (i*k) (enc x)=sortWorldK enc k w blk 0 m (dk.setIfInBounds i x) os:=by
 have hb:i*k+(enc x).length≤(flatK enc k dk).size:=by
  rw [hk,size_flatK]
  have:=Nat.mul_le_mul_right k (show i+1≤dk.size from hi)
  rwa [Nat.succ_mul] at this
 unfold sortWorldK
 rw [setCells_grow os blk _ _ _ (by rw [size_putRowK];exact hblk)]
 congr 1
 unfold putRowK
 have:=setCells_putRow (Sort.ahead w m) blk 0 (enc x) (i*k) (flatK enc k dk) hb
 rw [Nat.zero_add] at this
 rw [this,qzF enc k hk dk i x hi]
variable {P:Program}
set_option maxHeartbeats 4000000 in
set_option maxRecDepth 1000000 in
theorem qDW (hF:P.funcs[155]? = some Tryz.f155) (mixed:P.follows .mixedOrders=true)
  (t0:P.underlying 0=some (TypeDesc.tuple #[])) (a0:∀ w,(isAgg 0).run P w = .ok false w) (z0:∀ w,(Go.sizeOf 0).run P w = .ok 1 w) (v0:∀ w,(zeroValue 0).run P w = .ok (Value.tuple #[]) w)
  (t3:P.underlying 3=some (TypeDesc.int IntKind.i64)) (a3:∀ w,(isAgg 3).run P w = .ok false w) (z3:∀ w,(Go.sizeOf 3).run P w = .ok 1 w) (v3:∀ w,(zeroValue 3).run P w = .ok (Value.int IntKind.i64 0) w)
  (t4:P.underlying 4=some (TypeDesc.bool)) (a4:∀ w,(isAgg 4).run P w = .ok false w) (z4:∀ w,(Go.sizeOf 4).run P w = .ok 1 w) (v4:∀ w,(zeroValue 4).run P w = .ok (Value.bool false) w)
  (t22:P.underlying 22=some (TypeDesc.slice 24)) (a22:∀ w,(isAgg 22).run P w = .ok false w) (z22:∀ w,(Go.sizeOf 22).run P w = .ok 1 w) (v22:∀ w,(zeroValue 22).run P w = .ok (Value.slice none 0 0) w)
  (t36:P.underlying 36=some (TypeDesc.func #[24,24] #[4] false)) (a36:∀ w,(isAgg 36).run P w = .ok false w) (z36:∀ w,(Go.sizeOf 36).run P w = .ok 1 w) (v36:∀ w,(zeroValue 36).run P w = .ok (Value.nilFunc) w)
  (p:Option Addr) (cap:Nat) (fv:Value) (w:World) :
  Calls P 155 #[.slice p 0 cap,fv] w λ e w'=>e = .returned (.slice p 0 cap)∧w'=w:=by
 go_enter hF,Tryz.ntmps155
 go_wp2
 go_ret
 exact ⟨rfl,rfl⟩
set_option maxHeartbeats 4000000 in
set_option maxRecDepth 1000000 in
theorem qDY (hF:P.funcs[155]? = some Tryz.f155) (mixed:P.follows .mixedOrders=true)
  (t0:P.underlying 0=some (TypeDesc.tuple #[])) (a0:∀ w,(isAgg 0).run P w = .ok false w) (z0:∀ w,(Go.sizeOf 0).run P w = .ok 1 w) (v0:∀ w,(zeroValue 0).run P w = .ok (Value.tuple #[]) w)
  (t3:P.underlying 3=some (TypeDesc.int IntKind.i64)) (a3:∀ w,(isAgg 3).run P w = .ok false w) (z3:∀ w,(Go.sizeOf 3).run P w = .ok 1 w) (v3:∀ w,(zeroValue 3).run P w = .ok (Value.int IntKind.i64 0) w)
  (t4:P.underlying 4=some (TypeDesc.bool)) (a4:∀ w,(isAgg 4).run P w = .ok false w) (z4:∀ w,(Go.sizeOf 4).run P w = .ok 1 w) (v4:∀ w,(zeroValue 4).run P w = .ok (Value.bool false) w)
  (t22:P.underlying 22=some (TypeDesc.slice 24)) (a22:∀ w,(isAgg 22).run P w = .ok false w) (z22:∀ w,(Go.sizeOf 22).run P w = .ok 1 w) (v22:∀ w,(zeroValue 22).run P w = .ok (Value.slice none 0 0) w)
  (t36:P.underlying 36=some (TypeDesc.func #[24,24] #[4] false)) (a36:∀ w,(isAgg 36).run P w = .ok false w) (z36:∀ w,(Go.sizeOf 36).run P w = .ok 1 w) (v36:∀ w,(zeroValue 36).run P w = .ok (Value.nilFunc) w)
  (k:Nat) (hk0:0<k) (aE:∀ w,(isAgg 24).run P w = .ok true w) (zE:∀ w,(Go.sizeOf 24).run P w = .ok k w) (zv:Value) (vE:∀ w,(zeroValue 24).run P w = .ok zv w) (hzk:zv.cells.size=k) (hz1:∀ n,∀ v∈(Builtin.zeroCells zv.cells n).toList,v.oneCell'=true)
  (w:World) (blk n cap:Nat) (et:TypeId) (vs:Array Value) (q:Nat) (hbk:w.heap[blk]? = some (.cells vs et (0,0))) (hcs:cap*k≤vs.size) (hnc:n≤cap) (hn:n≤100000) (h0n:0<n)
  (enc:Nat→List Value) (hk:∀ x,(enc x).length=k) (h1:∀ x,∀ v∈enc x,v.oneCell'=true) (hH:HoldsK enc k w blk 0 (Array.range n))
  (eg:∀ args w,(callFunc q args).run P w = .ok (.enter q args) w) (ef:Nat→Nat→Bool)
  (heq:∀ (m:Nat) (os:Array Obj) (dk:Array Nat),dk.size=n→∀ x y,Calls P q #[.agg (enc x).toArray,.agg (enc y).toArray] (sortWorldK enc k w blk 0 m dk os) λ e w'=>e = .returned (.bool (ef x y))∧∃ q' os',w'=grow ((sortWorldK enc k w blk 0 m dk os).drewN q') os') :
  Calls P 155 #[.slice (some ⟨blk,0,none⟩) n cap,.func (.func q) #[] #[]] w λ e w'=>e = .returned (.slice (some ⟨blk,0,none⟩) (zp ef n).length cap) ∧
   ∃ (dk:Array Nat) (m:Nat) (os:Array Obj) (new:List Value),dk.size=n∧dk.toList.take (zp ef n).length=zp ef n∧(w'=sortWorldK enc k w blk 0 m dk os∨(new.take ((zp ef n).length*k)=(putCells id 0 (flatK enc k dk) vs).toList.take ((zp ef n).length*k)∧new.length=vs.size∧w'=(sortWorldK enc k w blk 0 m dk os).setRow blk new.toArray)):=by
 have u22:=run_underlying t22
 have hblk:blk<w.heap.size:=(Array.getElem?_eq_some_iff.1 hbk).1
 have hrs:(Array.range n).size=n:=Array.size_range
 have HC:Aside _:=heq
 have HST:Hid (w=sortWorldK enc k w blk 0 0 (Array.range n) #[]):=by show w=_;unfold sortWorldK;rw [grow_empty];exact (putRowK_self enc k w blk 0 _ hH).symm
 have HH:Hid (HoldsK enc k w blk 0 (Array.range n)):=hH
 have HK:Hid (∀ x,(enc x).length=k):=hk
 have H1:Hid (∀ x,∀ v∈enc x,v.oneCell'=true):=h1
 have HBK:Hid (w.heap[blk]? = some (.cells vs et (0,0))):=hbk
 have HVE:Aside _:=vE
 have HZ1:Aside _:=hz1
 have HZK:=Lib.hid hzk
 have HCS:=Lib.hid hcs
 clear heq hH hk h1 hbk vE hz1 hzk hcs
 have hnz:(n:Int)≤100000:=by omega
 by_cases hn2:n<2
 ·have hn1:n=1:=by omega
  subst hn1
  have hci:zp ef 1=[0]:=by unfold zp;simp
  have HCI:=Lib.hid hci
  clear hci
  go_enter hF,Tryz.ntmps155
  go_wp2
  go_ret
  rw [HCI.out]
  exact ⟨rfl,Array.range 1,0,#[],[],hrs,by simp,.inl HST.out⟩
 ·have hn2z:¬ ((n:Int)<2):=by omega
  go_enter hF,Tryz.ntmps155
  go_wp2
  go_loopg [5] n (λ g1 vi wr=>∃ (i m:Nat) (os:Array Obj),vi = .int .i64 i∧1≤i∧i≤n∧n-i≤g1∧wr=sortWorldK enc k w blk 0 m (Array.range n) os∧Hid (∀ j,1≤j→j<i→ef j (j-1)=false))
  case atStart=>exact ⟨1,0,#[],rfl,Nat.le_refl _,by omega,by omega,HST.out,λ j h1 h2=>by omega⟩
  case round =>
   obtain ⟨i,m,os,rfl,hi1,hin,hg1,rfl,HE⟩:=hrel
   by_cases hlt:i<n
   ·have hltz:(i:Int)<(n:Int):=by omega
    obtain ⟨ip,rfl⟩:∃ ip,i=ip+1:=⟨i-1,by omega⟩
    have hwp:IntKind.i64.wrap (ip:Int)=(ip:Int):=by rw [IntKind.wrap_i64];omega
    have jz1:(ip:Int)<(n:Int):=by omega
    have p0:(0:Int)≤(ip:Int)+1:=by omega
    have e0:((ip:Int)+1).toNat=ip+1:=by omega
    have r1:(Array.range n)[ip+1]! = ip+1:=by rw [getElem!_pos _ _ (by rw [hrs];exact hlt)];simp
    have r0:(Array.range n)[ip]! = ip:=by rw [getElem!_pos _ _ (by rw [hrs];omega)];simp
    have hcls:∀ n' os',grow ((sortWorldK enc k w blk 0 m (Array.range n) os).drewN n') os'=sortWorldK enc k w blk 0 (m+n') (Array.range n) (os++os') := λ n' os'=>sortWorldK_grown_c enc k w blk 0 m n' _ os os'
    have hHc:∀ n' os',HoldsK enc k (grow ((sortWorldK enc k w blk 0 m (Array.range n) os).drewN n') os') blk 0 (Array.range n) := λ n' os'=>by rw [hcls];exact holdsK_sortWorldK_c enc k w blk 0 _ _ _ _ HH.out hblk rfl
    have lj:∀ n' os',Sem.run P (loadCellsFrom ⟨blk,(ip+1)*k,none⟩ 0 k #[]) (grow ((sortWorldK enc k w blk 0 m (Array.range n) os).drewN n') os') = .ok (enc (ip+1)).toArray (grow ((sortWorldK enc k w blk 0 m (Array.range n) os).drewN n') os') := λ n' os'=>by
     have:=HoldsK.cells (hHc n' os') HK.out (i:=ip+1) (by rw [hrs];exact hlt)
     rw [r1,Nat.zero_add] at this
     exact run_loadCellsFrom_list P _ _ _ k (HK.out _) this
    have lp:∀ n' os',Sem.run P (loadCellsFrom ⟨blk,ip*k,none⟩ 0 k #[]) (grow ((sortWorldK enc k w blk 0 m (Array.range n) os).drewN n') os') = .ok (enc ip).toArray (grow ((sortWorldK enc k w blk 0 m (Array.range n) os).drewN n') os') := λ n' os'=>by
     have:=HoldsK.cells (hHc n' os') HK.out (i:=ip) (by rw [hrs];omega)
     rw [r0,Nat.zero_add] at this
     exact run_loadCellsFrom_list P _ _ _ k (HK.out _) this
    have hcg:∀ n' os',Calls P q #[.agg (enc (ip+1)).toArray,.agg (enc ip).toArray] (grow ((sortWorldK enc k w blk 0 m (Array.range n) os).drewN n') os') λ e w'=>e = .returned (.bool (ef (ip+1) ip))∧∃ q os'',w'=grow ((grow ((sortWorldK enc k w blk 0 m (Array.range n) os).drewN n') os').drewN q) os'' := λ n' os'=>by
     rw [hcls];exact HC.out _ _ _ hrs (ip+1) ip
    have CLS:Hid _:=hcls
    clear hcls hHc r0 r1
    generalize hwq:sortWorldK enc k w blk 0 m (Array.range n) os=wq at lj lp hcg CLS ⊢
    cases hev:ef (ip+1) ip with
    | false =>
      rw [hev] at hcg
      go_wp2_with fail
      go_quiet_grown (first | (go_at_fn q;refine Calls.grown_of (hcg _ _)))
      go_wp2
      go_roundg (n-(ip+2))
      case measure=>omega
      case rel =>
       refine ⟨ip+2,_,_,by go_num,by omega,by omega,by omega,CLS.out nq osq,(show Hid _ from λ j h1 h2=>?_)⟩
       by_cases hj:j=ip+1
       ·rw [hj];exact hev
       ·exact HE.out j h1 (by omega)
    | true =>
      rw [hev] at hcg
      go_wp2_with fail
      go_quiet_grown (first | (go_at_fn q;refine Calls.grown_of (hcg _ _)))
      have hcap1:¬ (cap=ip+1):=by omega
      have hcap2:(ip:Int)+1≤(cap:Int):=by omega
      go_wp2
      go_loopg [5,7] n (λ g2 v5 v7 wr2=>∃ (b kk m2:Nat) (dk:Array Nat) (os2:Array Obj),v5 = .int .i64 kk∧v7 = .int .i64 b∧1≤b∧ip+1+b≤n∧n-b≤g2∧kk≤ip+b∧dk.size=n∧wr2=sortWorldK enc k w blk 0 m2 dk os2∧Hid (dk.toList.take kk=zp ef (ip+1+b))∧Hid (kk=(zp ef (ip+1+b)).length)∧Hid (∀ j,ip+b≤j→j<n→dk[j]! = j))
      case atStart =>
       have e1:zp ef (ip+1)=List.range (ip+1):=qr2 λ j h1 h2=>HE.out j h1 h2
       have e2:zp ef (ip+1+1)=List.range (ip+1):=by rw [qps (by omega) (by simpa using hev),e1]
       refine ⟨1,ip+1,_,Array.range n,_,by go_num,rfl,Nat.le_refl _,by omega,by omega,by omega,hrs,CLS.out nq osq,?_,?_,?_⟩
       ·show _=_
        rw [e2,Array.toList_range,List.take_range,Nat.min_eq_left (by omega)]
       ·show _=_
        rw [e2,List.length_range]
       ·intro j _ h2
        rw [getElem!_pos _ _ (by rw [hrs];exact h2)];simp
      case round =>
       obtain ⟨b,kk,m2,dk,os2,rfl,rfl,hb1,hbn,hg2,hkk,hdk,rfl,HT,HL,HD⟩:=hrel
       by_cases hlt2:ip+1+b<n
       ·obtain ⟨bp,rfl⟩:∃ bp,b=bp+1:=⟨b-1,by omega⟩
        have hltz2:(bp:Int)+1<((n-(ip+1):Nat):Int):=by omega
        have hltz3:(bp:Int)<((n-(ip+1):Nat):Int):=by omega
        have hwp2:IntKind.i64.wrap (bp:Int)=(bp:Int):=by rw [IntKind.wrap_i64];omega
        have p2:(0:Int)≤(bp:Int)+1:=by omega
        have e2:((bp:Int)+1).toNat=bp+1:=by omega
        have hkn:(kk:Int)<(n:Int):=by omega
        obtain ⟨ax,hax⟩:∃ ax,ax=ip+1+(bp+1):=⟨_,rfl⟩
        have hac:(ip+1)*k+(bp+1)*k=ax*k:=by rw [hax,Nat.add_mul (ip+1)]
        have hap:(ip+1)*k+bp*k=(ax-1)*k:=by rw [← Nat.add_mul];congr 1;omega
        have r1:dk[ax]! = ax:=HD.out ax (by omega) (by omega)
        have r0:dk[ax-1]! = ax-1:=HD.out (ax-1) (by omega) (by omega)
        have hcls:∀ n' os',grow ((sortWorldK enc k w blk 0 m2 dk os2).drewN n') os'=sortWorldK enc k w blk 0 (m2+n') dk (os2++os') := λ n' os'=>sortWorldK_grown_c enc k w blk 0 m2 n' dk os2 os'
        have hHc:∀ n' os',HoldsK enc k (grow ((sortWorldK enc k w blk 0 m2 dk os2).drewN n') os') blk 0 dk := λ n' os'=>by rw [hcls];exact holdsK_sortWorldK_c enc k w blk 0 (Array.range n) dk _ _ HH.out hblk (by rw [hdk,hrs])
        have lj:∀ n' os',Sem.run P (loadCellsFrom ⟨blk,(ip+1)*k+(bp+1)*k,none⟩ 0 k #[]) (grow ((sortWorldK enc k w blk 0 m2 dk os2).drewN n') os') = .ok (enc ax).toArray (grow ((sortWorldK enc k w blk 0 m2 dk os2).drewN n') os') := λ n' os'=>by
         have:=HoldsK.cells (hHc n' os') HK.out (i:=ax) (by rw [hdk];omega)
         rw [r1,Nat.zero_add,← hac] at this
         exact run_loadCellsFrom_list P _ _ _ k (HK.out _) this
        have lp:∀ n' os',Sem.run P (loadCellsFrom ⟨blk,(ip+1)*k+bp*k,none⟩ 0 k #[]) (grow ((sortWorldK enc k w blk 0 m2 dk os2).drewN n') os') = .ok (enc (ax-1)).toArray (grow ((sortWorldK enc k w blk 0 m2 dk os2).drewN n') os') := λ n' os'=>by
         have:=HoldsK.cells (hHc n' os') HK.out (i:=ax-1) (by rw [hdk];omega)
         rw [r0,Nat.zero_add,← hap] at this
         exact run_loadCellsFrom_list P _ _ _ k (HK.out _) this
        have hcg:∀ n' os',Calls P q #[.agg (enc ax).toArray,.agg (enc (ax-1)).toArray] (grow ((sortWorldK enc k w blk 0 m2 dk os2).drewN n') os') λ e w'=>e = .returned (.bool (ef ax (ax-1)))∧∃ q os'',w'=grow ((grow ((sortWorldK enc k w blk 0 m2 dk os2).drewN n') os').drewN q) os'' := λ n' os'=>by
         rw [hcls];exact HC.out _ _ _ hdk ax (ax-1)
        have CLS2:Hid _:=hcls
        have HHC:Hid _:=hHc
        have HAC:=Lib.hid hac
        clear hcls hHc hap hac
        generalize hwq2:sortWorldK enc k w blk 0 m2 dk os2=wq2 at lj lp hcg CLS2 HHC ⊢
        have hlA:(enc ax).length=k:=HK.out _
        have hA1:∀ v∈enc ax,v.oneCell'=true:=H1.out _
        obtain ⟨cA,hcA⟩:∃ c,c=enc ax:=⟨_,rfl⟩
        obtain ⟨cP,hcP⟩:∃ c,c=enc (ax-1):=⟨_,rfl⟩
        rw [← hcA] at lj hcg hlA hA1
        rw [← hcP] at lp hcg
        have HCA:=Lib.hid hcA
        clear hcA hcP
        have hT:=HT.out
        have hL:=HL.out
        rw [show ip+1+(bp+1)=ax from hax.symm] at hT hL
        have HAX:=Lib.hid hax
        have hax1:0<ax:=by omega
        have hax3:ax<n:=by omega
        clear hax r0 r1
        cases hev2:ef ax (ax-1) with
        | true =>
          have hcd:zp ef (ax+1)=zp ef ax:=qps hax1 hev2
          have HT2:Hid (dk.toList.take kk=zp ef (ax+1)):=by show _=_;rw [hcd];exact hT
          have HL2:Hid (kk=(zp ef (ax+1)).length):=by show _=_;rw [hcd];exact hL
          clear hT hL hcd
          rw [hev2] at hcg
          go_wp2_with fail
          go_quiet_grown (first | (go_at_fn q;refine Calls.grown_of (hcg _ _)))
          go_wp2
          go_roundg (n-(bp+2))
          case measure=>omega
          case rel =>
           have hax2:ip+1+(bp+2)=ax+1:=by have:=HAX.out;omega
           refine ⟨bp+2,kk,_,dk,_,rfl,by go_num,by omega,by omega,by omega,by omega,hdk,CLS2.out nq osq,?_,?_,(show Hid _ from λ j h1 h2=>HD.out j (by omega) h2)⟩
           ·show _=_
            rw [hax2];exact HT2.out
           ·show _=_
            rw [hax2];exact HL2.out
        | false =>
          have hcd:zp ef (ax+1)=zp ef ax++[ax]:=qy6 hev2
          have hdl:kk<dk.toList.length:=by rw [Array.length_toList,hdk];omega
          have HT2:Hid ((dk.setIfInBounds kk ax).toList.take (kk+1)=zp ef (ax+1)):=by
           show _=_
           rw [hcd,← hT,Array.toList_setIfInBounds,List.take_add_one,List.take_set_of_le (Nat.le_refl _),List.getElem?_set_self hdl];rfl
          have HL2:Hid (kk+1=(zp ef (ax+1)).length):=by show _=_;rw [hcd,List.length_append,← hL];rfl
          clear hT hL hcd
          rw [hev2] at hcg
          go_wp2_with fail
          go_quiet_grown (first | (go_at_fn q;refine Calls.grown_of (hcg _ _)))
          have hw2:grow (wq2.drewN nq) osq=sortWorldK enc k w blk 0 (m2+nq) dk (os2++osq):=CLS2.out nq osq
          have lj2:=lj nq osq
          have hHd:=HHC.out nq osq
          clear lj lp hcg
          generalize grow (wq2.drewN nq) osq=wq3 at hw2 hHd lj2 ⊢
          have hbd:kk*k+cA.length≤(flatK enc k dk).size:=by
           rw [hlA,size_flatK]
           have:=Nat.mul_le_mul_right k (show kk+1≤dk.size by omega)
           rwa [Nat.succ_mul] at this
          have s1:Sem.run P (storeCells ⟨blk,kk*k,none⟩ cA 0) wq3 = .ok () (wq3.setCells blk (kk*k) cA):=by
           have:=stores_of_holds P hHd (kk*k) cA hbd hA1
           rwa [Nat.zero_add] at this
          have HW3:Hid (wq3.setCells blk (kk*k) cA=sortWorldK enc k w blk 0 (m2+nq) (dk.setIfInBounds kk ax) (os2++osq)):=by
           show _=_
           rw [hw2,HCA.out]
           exact qFY HK.out (m2+nq) dk (os2++osq) hblk kk ax (by omega)
          clear hw2 hHd hbd
          go_wp2
          go_roundg (n-(bp+2))
          case measure=>omega
          case rel =>
           have hax2:ip+1+(bp+2)=ax+1:=by have:=HAX.out;omega
           refine ⟨bp+2,kk+1,_,dk.setIfInBounds kk ax,_,by go_num,by go_num,by omega,by omega,by omega,by omega,by simpa using hdk,HW3.out,?_,?_,(show Hid _ from λ j h1 h2=>?_)⟩
           ·show _=_
            rw [hax2];exact HT2.out
           ·show _=_
            rw [hax2];exact HL2.out
           ·rw [getElem!_set_other _ _ _ _ (by omega)]
            exact HD.out j (by omega) h2
       ·obtain rfl:n=ip+1+b:=by omega
        have hW:=(Go.AmYtbpnmbmdbblehaaGreat.sort_blks HBK.out enc k m2 dk os2).hb
        have hpsz:(putCells id 0 (flatK enc k dk) vs).size=vs.size:=by unfold putCells;rw [Array.size_mapIdx]
        have hzl:(Builtin.zeroCells zv.cells (ip+1+b-kk)).toList.length=(ip+1+b-kk)*k:=by rw [Array.length_toList,size_zeroCells,HZK.out]
        have hsum:kk*k+(ip+1+b-kk)*k=(ip+1+b)*k:=by rw [← Nat.add_mul];congr 1;omega
        have hle:(ip+1+b)*k≤vs.size:=Nat.le_trans (Nat.mul_le_mul_right _ hnc) HCS.out
        obtain ⟨new,hnew⟩:∃ new,new=(putCells id 0 (flatK enc k dk) vs).toList.take (kk*k)++(Builtin.zeroCells zv.cells (ip+1+b-kk)).toList++(putCells id 0 (flatK enc k dk) vs).toList.drop (kk*k+(Builtin.zeroCells zv.cells (ip+1+b-kk)).toList.length):=⟨_,rfl⟩
        have hcl:∀ ty,(Builtin.clear_ #[22] ty #[.slice (some ⟨blk,kk*k,none⟩) (ip+1+b-kk) (cap-kk)]).run P (sortWorldK enc k w blk 0 m2 dk os2) = .ok (.tuple #[]) ((sortWorldK enc k w blk 0 m2 dk os2).setRow blk new.toArray) := λ ty=>by
         rw [hnew]
         exact ql1 _ 22 24 ty zv t22 HVE.out blk (kk*k) (ip+1+b-kk) (cap-kk) (by omega) _ et hW (by rw [hpsz,HZK.out];omega) (HZ1.out _)
        have HN1:Hid (new.take (kk*k)=(putCells id 0 (flatK enc k dk) vs).toList.take (kk*k)):=by
         show _=_
         rw [hnew,List.append_assoc,List.take_append_of_le_length (by rw [List.length_take,Array.length_toList,hpsz];omega),List.take_take,Nat.min_self]
        have HN2:Hid (new.length=vs.size):=by
         show _=_
         rw [hnew]
         rw [Array.length_toList] at hzl
         simp only [List.length_append,List.length_take,List.length_drop,Array.length_toList,hpsz,hzl]
         omega
        have hkc:¬ (cap=kk):=by omega
        have hkc2:(kk:Int)≤(cap:Int):=by omega
        have hkn:(kk:Int)≤((ip+1+b:Nat):Int):=by omega
        clear hW hpsz hzl hsum hle hnew
        have HW:Hid _:=(⟨dk,m2,os2,rfl⟩:∃ (d:Array Nat) (m:Nat) (os:Array Obj),sortWorldK enc k w blk 0 m2 dk os2=sortWorldK enc k w blk 0 m d os)
        generalize hwq2:sortWorldK enc k w blk 0 m2 dk os2=wq2 at hcl ⊢
        have HWQ:=Lib.hid hwq2
        clear hwq2 HW
        have HDK:=Lib.hid hdk
        go_wp2_with (simp only [hcl])
        go_ret
        have hL:=HL.out
        rw [← hL]
        exact ⟨rfl,dk,m2,os2,new,HDK.out,HT.out,.inr ⟨HN1.out,HN2.out,by rw [HWQ.out]⟩⟩
   ·obtain rfl:i=n:=by omega
    have hci:zp ef i=List.range i:=qr2 λ j h1 h2=>HE.out j h1 h2
    have HCI:=Lib.hid hci
    clear hci
    go_wp2
    go_ret
    rw [HCI.out,List.length_range]
    exact ⟨rfl,Array.range i,_,_,[],hrs,by simp,.inl rfl⟩
end Go.Proofs.YtbpnmbmdbblehaaGreat
namespace Go.AmYtbpnmbmdbblehaaGreat
open Go Go.RowKit Go.GxYtbpnmbmdbblehaaGreat Go.Sort Go.Proofs Go.Shelf Go.Proofs.YtbpnmbmdbblehaaGreat
def qiI {α : Type} (F : α → α → Option Bool) (l:List α) (i j:Nat):Bool:=match l[i % l.length]?,l[j % l.length]? with
 | some x,some y=>(F x y).getD false
 | _,_=>false
def qwo {α : Type} (F : α → α → Option Bool):List α → Option (List α)
 | []=>some []
 | x::l=>cond (Nat.ble (x::l).length 100000&&qbr F (x::l)) (some (pick (x::l) (zp (qiI F (x::l)) (x::l).length))) none
def qr4 {α : Type} (F : α → α → Option Bool) (l:List α):Option (Unit × List α × Unit):=match qwo F l with
 | some l'=>some ((),l',())
 | none=>none
theorem qBI {α : Type} {F : α → α → Option Bool} {l:List α} {r:Unit × List α × Unit} (h:qr4 F l=some r):∃ l',qwo F l=some l'∧r=((),l',()):=by
 unfold qr4 at h
 split at h
 ·cases h;exact ⟨_,‹_›,rfl⟩
 ·cases h
theorem qDU {P:Program} {f:FuncId} {g:qoc} (hf:qeL P f) (h:∀ a,g.fn a=none):qX P f (mgP g):=by
 refine ⟨hf,λ Γ σ w args vals r hi hr hp=>?_⟩
 unfold mgP at hp
 split at hp
 ·rw [h] at hp;cases hp
 ·cases hp
theorem qu8 {ef:Nat→Nat→Bool} {n:Nat}:∀ i∈zp ef n,i<n := λ i hi=>List.mem_range.1 (List.mem_filter.1 hi).1
theorem qn5 {enc:Nat→List Value} {k:Nat} (hk:∀ x,(enc x).length=k):∀ (l:List Nat) (i j:Nat),j<k→(l.flatMap enc)[i*k+j]? = (l[i]?).bind λ x=>(enc x)[j]?
 | [],i,j,_=>by simp
 | x::l,0,j,hj=>by
   rw [List.flatMap_cons,Nat.zero_mul,Nat.zero_add,List.getElem?_append_left (by rw [hk];exact hj)]
   rfl
 | x::l,i+1,j,hj=>by
   rw [List.flatMap_cons,List.getElem?_append_right (by rw [hk,Nat.succ_mul];omega),hk]
   have:(i+1)*k+j-k=i*k+j:=by rw [Nat.succ_mul];omega
   rw [this]
   exact qn5 hk l i j hj
theorem qun {enc:Nat→List Value} {k:Nat} (hk:∀ x,(enc x).length=k):∀ l:List Nat,(l.flatMap enc).length=l.length*k
 | []=>by simp
 | x::l=>by rw [List.flatMap_cons,List.length_append,hk,qun hk l,List.length_cons,Nat.succ_mul,Nat.add_comm]
theorem qrB {β : Type} {f:List AV→Option β} {es:List (List AV)} {l:List β} (h:qV f es=some l):∀ {ix:List Nat},(∀ i∈ix,i<l.length)→qV f (pick es ix)=some (pick l ix)
 | [],_=>rfl
 | i::ix,hi=>by
   have h1:=hi i (List.mem_cons_self ..)
   have hl:=qT h
   have e1:pick es (i::ix)=es[i]'(by omega)::pick es ix:=by
    unfold pick;rw [List.filterMap_cons,List.getElem?_eq_getElem (by omega)]
   have e2:pick l (i::ix)=l[i]::pick l ix:=by
    unfold pick;rw [List.filterMap_cons,List.getElem?_eq_getElem h1]
   obtain ⟨v,hv,hd⟩:=Q5 h (List.getElem?_eq_getElem (show i<es.length by omega))
   rw [List.getElem?_eq_getElem h1] at hv
   cases hv
   rw [e1,e2]
   exact yx.2 ⟨_,_,hd,qrB h λ j hj=>hi j (List.mem_cons_of_mem _ hj),rfl⟩
theorem qD6 (n:Nat):∀ v∈(Builtin.zeroCells (Value.cells (.agg #[.int .i64 0,.string ⟨#[]⟩,.int .i64 0,.slice none 0 0])) n).toList,v.oneCell'=true:=by
 intro v hv
 unfold Builtin.zeroCells at hv
 rw [Array.mem_toList_iff] at hv
 obtain ⟨i,_,rfl⟩:=Array.mem_map.1 hv
 have hs:(Value.cells (.agg #[.int .i64 0,.string ⟨#[]⟩,.int .i64 0,.slice none 0 0])).size=4:=rfl
 rw [hs]
 have h4:i % 4<4:=Nat.mod_lt _ (by decide)
 generalize i % 4=r at h4
 match r,h4 with
 | 0,_=>rfl
 | 1,_=>rfl
 | 2,_=>rfl
 | 3,_=>rfl
set_option maxHeartbeats 1000000 in
theorem qxY {g:FuncId} {F:T→T→Option Bool} (hF:Fn2 Go.Proofs.Tryz.prog g .term (λ b:Bool => .bool b) F) {fn:List T→Option (Unit × List T × Unit)} (hfn:∀ l r,fn l=some r→∃ l',qwo F l=some l'∧r=((),l',())) :
  qX Go.Proofs.Tryz.prog 155 (sgP ⟨[.row .term,.clo g 0],[.one (.row .term)],λ x=>fn x.1⟩):=by
 have c0 := λ p cap fv w=>qDW (P:=Go.Proofs.Tryz.prog) Go.Proofs.Tryz.func155 (by kernel_rfl) Go.Proofs.Tryz.underlying0 Go.Proofs.Tryz.isAgg0 Go.Proofs.Tryz.sizeOf0 Go.Proofs.Tryz.zeroValue0 Go.Proofs.Tryz.underlying3 Go.Proofs.Tryz.isAgg3 Go.Proofs.Tryz.sizeOf3 Go.Proofs.Tryz.zeroValue3 Go.Proofs.Tryz.underlying4 Go.Proofs.Tryz.isAgg4 Go.Proofs.Tryz.sizeOf4 Go.Proofs.Tryz.zeroValue4 Go.Proofs.Tryz.underlying22 Go.Proofs.Tryz.isAgg22 Go.Proofs.Tryz.sizeOf22 Go.Proofs.Tryz.zeroValue22 Go.Proofs.Tryz.underlying36 Go.Proofs.Tryz.isAgg36 Go.Proofs.Tryz.sizeOf36 Go.Proofs.Tryz.zeroValue36 p cap fv w
 have cP := λ w blk n cap et vs h1 h2 h3 h4 h5 enc h6 h7 h8 ef h9=>qDY (P:=Go.Proofs.Tryz.prog) Go.Proofs.Tryz.func155 (by kernel_rfl) Go.Proofs.Tryz.underlying0 Go.Proofs.Tryz.isAgg0 Go.Proofs.Tryz.sizeOf0 Go.Proofs.Tryz.zeroValue0 Go.Proofs.Tryz.underlying3 Go.Proofs.Tryz.isAgg3 Go.Proofs.Tryz.sizeOf3 Go.Proofs.Tryz.zeroValue3 Go.Proofs.Tryz.underlying4 Go.Proofs.Tryz.isAgg4 Go.Proofs.Tryz.sizeOf4 Go.Proofs.Tryz.zeroValue4 Go.Proofs.Tryz.underlying22 Go.Proofs.Tryz.isAgg22 Go.Proofs.Tryz.sizeOf22 Go.Proofs.Tryz.zeroValue22 Go.Proofs.Tryz.underlying36 Go.Proofs.Tryz.isAgg36 Go.Proofs.Tryz.sizeOf36 Go.Proofs.Tryz.zeroValue36
  4 (by decide) Go.Proofs.Tryz.isAgg24 Go.Proofs.Tryz.sizeOf24 _ Go.Proofs.Tryz.zeroValue24 rfl qD6 w blk n cap et vs g h1 h2 h3 h4 h5 enc h6 h7 h8 (λ args w=>qdO hF.1 args w) ef h9
 have hag:∀ v:T,yD .term v = .agg (qm .term v) := λ _=>rfl
 refine ⟨QM Go.Proofs.Tryz.func155 (by kernel_rfl),λ Γ σ w args vals r hi hr hp=>?_⟩
 unfold sgP at hp
 split at hp<;>try cases hp
 rename_i x hx
 split at hp<;>cases hp
 rename_i v0 hv0
 obtain ⟨l,_⟩:=x
 obtain ⟨l',hl',rfl⟩:=hfn _ _ hv0
 obtain ⟨y0,ys0,nr,rfl,hy0,hx1⟩:=qna hx
 obtain ⟨ys1,rfl,hx2⟩:=qzW (g:=g) (r:=[]) hx1
 obtain ⟨rfl,hbx,hrw⟩:=qjn hx2
 clear hx hx1 hx2 hv0 hfn
 obtain ⟨u0,r0,rfl,hu0,hr⟩:=hr.uncons
 obtain ⟨u1,r1,rfl,hu1,hr⟩:=hr.uncons
 have:=hr.nil_inv
 subst this
 have hu1:u1 = .func (.func g) #[] #[]:=by
  cases hu1 with
  | fn _ _ us hn _=>obtain rfl:=List.eq_nil_of_length_eq_zero hn;rfl
 subst hu1
 have hb0 : σ.bx=[]:=List.eq_nil_of_length_eq_zero hbx.symm
 have nil0:∀ (p:Option Addr),l'=[]→jy Go.Proofs.Tryz.prog Γ σ w 155 [.slice p 0 0,.func (.func g) #[] #[]] (zA (QK [.one (.row .term)] σ.rw.length (l',())),some ⟨[],σ.rw.map jV++Qv [.one (.row .term)] (l',()),List.range σ.bx.length,List.range σ.rw.length⟩) := λ p hl=>by
  subst hl
  refine (c0 p 0 _ w).mono ?_
  rintro e w' ⟨rfl,rfl⟩
  obtain ⟨Γ2,z1,z2,z3,z4⟩:=qGU (a := .term) hi (.refl _ _) hi hb0 p
  exact ⟨_,Γ2,rfl,z1,z2,z3,z4⟩
 rcases qc3 hy0 with ⟨hnr,R,rfl,hR,hRk,hRf,hRd⟩ | ⟨hnr,hl0,hy⟩
 ·have H:=hi.row 0 R hR
  have hcl:R.c.length=l.length:=qT hRd
  have hlk:∀ e∈R.c,e.length=Ty.size .term := λ e he=>(H.len e he).trans hRk
  obtain ⟨p,cap,rfl,hcap,hrm⟩:=qoR hi hR hRk hRf hu0
  rcases hrm with h0 | ⟨rfl,hz,vs,et,hvs,hvsz,hfit,hca,hxl,h1⟩
  ·have hl0:l=[]:=List.eq_nil_of_length_eq_zero (by omega)
   have hl2:l'=[]:=by rw [hl0] at hl';cases hl';rfl
   have hrc:R.c.length=0:=by omega
   rw [hrc,h0]
   exact nil0 p hl2
  ·by_cases hl0:l=[]
   ·have hl2:l'=[]:=by rw [hl0] at hl';cases hl';rfl
    have hrc:R.c.length=0:=by rw [hcl,hl0];rfl
    rw [hrc]
    subst hl2
    refine qhU (a := .term) hi hb0 hR hRk hRf hz (l:=[]) (c:=[]) (xs:=[]) (n:=0) rfl rfl (by intro e he;cases he) (by intro e he;cases he) (λ i e j x h=>by cases h) ?_
    refine (c0 _ cap _ w).mono ?_
    rintro e w' ⟨rfl,rfl⟩
    exact ⟨Γ.cur 0,cap,vs,et,rfl,hvs,Nat.zero_le _,hfit,by rw [Nat.zero_mul];rfl,.inl ⟨rfl,hvsz⟩,rfl,rfl,rfl,Nat.le_refl _,Nat.le_refl _,λ _ _ _=>rfl⟩
   ·have hlpos:0<l.length:=List.length_pos_iff.2 hl0
    obtain ⟨n,hn⟩:∃ n,n=l.length:=⟨_,rfl⟩
    have hnc:R.c.length=n:=hcl.trans hn.symm
    rw [hnc] at hca hxl h1 hcap ⊢
    have hns:n*Ty.size .term≤vs.size:=Nat.le_trans (Nat.mul_le_mul_right _ hcap) hfit
    have hv':Nat.ble l.length 100000=true∧qbr F l=true∧l'=pick l (zp (qiI F l) l.length):=by
     cases l with
     | nil=>exact absurd rfl hl0
     | cons y l =>
       replace hl':cond _ _ _=some l':=hl'
       cases hb:(Nat.ble (y::l).length 100000&&qbr F (y::l)) with
       | false =>
         replace hl':cond (Nat.ble (y::l).length 100000&&qbr F (y::l)) _ _=some l':=hl'
         rw [hb] at hl';cases hl'
       | true =>
         replace hl':cond (Nat.ble (y::l).length 100000&&qbr F (y::l)) _ _=some l':=hl'
         have hb':=hb
         rw [Bool.and_eq_true] at hb'
         rw [hb] at hl'
         cases hl'
         exact ⟨hb'.1,hb'.2,rfl⟩
    obtain ⟨v1,v2,v4⟩:=hv'
    have v1:l.length≤100000:=Nat.le_of_ble_eq_true v1
    have hER:∀ {q:Nat} {y:T},l[q]? = some y→RepL Γ (qm .term y) (jY vs (Ty.size .term) q)∧∀ u∈jY vs (Ty.size .term) q,u.oneCell'=true := λ hq=>qpQ hnc hlk hRd hca hns hq
    have hlast:∀ i,i % n<n := λ i=>Nat.mod_lt _ (by omega)
    obtain ⟨enc,henc⟩:∃ enc:Nat→List Value,enc = λ i=>jY vs (Ty.size .term) (i % n):=⟨_,rfl⟩
    have hek:∀ i,(enc i).length=Ty.size .term := λ i=>by rw [henc];exact qln (hlast i) hns
    have hlget:∀ i,∃ y,l[i % n]? = some y := λ i=>⟨_,List.getElem?_eq_getElem (by rw [← hn];exact hlast i)⟩
    have he1:∀ i,∀ u∈enc i,u.oneCell'=true := λ i u hu=>by
     rw [henc] at hu
     obtain ⟨y,hy⟩:=hlget i
     exact (hER hy).2 u hu
    have hrange:(Array.range n).size=n:=Array.size_range
    have hvsb:w.heap[Γ.cur 0]? = some (.cells vs et (0,0)):=hvs
    have hmem0:∀ off,Γ.mem (Γ.cur 0) off=none := λ off=>H.un hz off (by rw [hRf,Nat.zero_mul];exact Nat.zero_le _)
    have hH:HoldsK enc (Ty.size .term) w (Γ.cur 0) 0 (Array.range n):=by
     intro j hj
     rw [size_flatK,hrange] at hj
     obtain ⟨q1,q2,q3⟩:=qie j (Ty.size .term) n hj
     have hjs:j<vs.size:=Nat.lt_of_lt_of_le hj hns
     constructor
     ·rw [get_flatK _ _ _ _ (by rw [hrange];exact hj)]
      have e1:(Array.range n)[j / (Ty.size .term)]! = j / (Ty.size .term):=by rw [getElem!_pos _ _ (by rw [hrange];exact q1)];simp
      rw [e1,henc]
      show _=some ((jY vs (Ty.size .term) (j / (Ty.size .term) % n))[j % (Ty.size .term)]!)
      rw [Nat.mod_eq_of_lt q1]
      have e2:(jY vs (Ty.size .term) (j / (Ty.size .term)))[j % (Ty.size .term)]? = some vs[j]:=by rw [qjd q3,q2];exact Array.getElem?_eq_getElem hjs
      rw [Nat.zero_add,Blk.cell hvs,List.getElem!_eq_getElem?_getD,e2,Array.getElem?_eq_getElem hjs]
      rfl
     ·exact Blk.free hvs _
    have heq:∀ (m:Nat) (os:Array Obj) (dk:Array Nat),dk.size=n→∀ x y,Calls Go.Proofs.Tryz.prog g #[.agg (enc x).toArray,.agg (enc y).toArray] (sortWorldK enc (Ty.size .term) w (Γ.cur 0) 0 m dk os) λ e w'=>e = .returned (.bool (qiI F l x y))∧∃ q' os',w'=grow ((sortWorldK enc (Ty.size .term) w (Γ.cur 0) 0 m dk os).drewN q') os':=by
     intro m os dk hdk x y
     have B:=sort_blks hvsb enc (Ty.size .term) m dk os
     obtain ⟨W,hW⟩:∃ W,W=sortWorldK enc (Ty.size .term) w (Γ.cur 0) 0 m dk os:=⟨_,rfl⟩
     rw [← hW] at B ⊢
     have hiW:Inv (bare Γ) emp W:=hi.bare λ b o u e=>by
      have hne:b ≠ Γ.cur 0 := λ hb=>by rw [hb,hmem0] at e;cases e
      have hc:=(hi.mem b o u e).1
      have hblt:=hi.mem_lt e
      rw [show W.cell? _=w.cell? _ from World.cell?_of_block (B.other b hblt hne)]
      exact hc
     have rep:∀ (i:Nat) (y:T),l[i % n]? = some y→Rep (bare Γ) (yD .term y) (.agg (enc i).toArray) := λ i y hy=>by
      obtain ⟨q1,q2⟩:=hER hy
      rw [hag]
      have:enc i=jY vs (Ty.size .term) (i % n):=by rw [henc]
      rw [this]
      refine .agg _ _ q1.len q2 λ j z u a b=>(q1.rep j z u a b).bare (zR .term y z (List.mem_of_getElem? a))
     obtain ⟨lx,hx⟩:=hlget x
     obtain ⟨ly,hy⟩:=hlget y
     have hsome:=List.all_eq_true.1 (List.all_eq_true.1 v2 lx (List.mem_of_getElem? hx)) ly (List.mem_of_getElem? hy)
     obtain ⟨c,hc⟩:=Option.isSome_iff_exists.1 hsome
     have hcf:qiI F l x y=c:=by
      unfold qiI
      rw [← hn,hx,hy]
      simp only
      rw [hc];rfl
     rw [hcf]
     have hcall:=hF.2 hiW (rep x lx hx) (rep y ly hy) hc
     refine Calls.mono hcall ?_
     rintro e w' ⟨rfl,hid⟩
     exact ⟨rfl,hid.grow⟩
    have hcall:=cP w (Γ.cur 0) n cap et vs hvsb hfit hcap (by omega) (by omega) enc hek he1 hH (qiI F l) heq
    obtain ⟨ix,hix⟩:∃ ix,ix=zp (qiI F l) n:=⟨_,rfl⟩
    rw [← hix] at hcall
    have hixlt:∀ i∈ix,i<n := λ i hi=>by rw [hix] at hi;exact qu8 i hi
    have hixl:∀ i∈ix,i<l.length := λ i hi=>by rw [← hn];exact hixlt i hi
    have hixc:∀ i∈ix,i<R.c.length := λ i hi=>by rw [hnc];exact hixlt i hi
    have hl'e:l'=pick l ix:=by rw [v4,← hn,hix]
    have hl'n:l'.length=ix.length:=by rw [hl'e,ql3 hixl]
    have pm:∀ e∈pick R.c ix,e∈R.c := λ e he=>by
     unfold pick at he
     obtain ⟨i,_,h⟩:=List.mem_filterMap.1 he
     exact List.mem_of_getElem? h
    refine qhU (a := .term) hi hb0 hR hRk hRf hz (l:=l') (c:=pick R.c ix) (xs:=ix.flatMap enc) (n:=ix.length) hl'n.symm (by rw [hl'e];exact qrB hRd hixl) (λ e he=>hlk e (pm e he)) (λ e he=>H.plain e (pm e he)) (λ i e j x h1 h2=>?_) ?_
    ·rw [qqR hixc] at h1
     cases hp:ix[i]? with
     | none=>rw [hp] at h1;cases h1
     | some p =>
       rw [hp] at h1
       have h1:R.c[p]? = some e:=h1
       have hj:j<Ty.size .term:=by have:=getElem?_lt h2;rwa [hlk e (List.mem_of_getElem? h1)] at this
       obtain ⟨u,u1,u2⟩:=hca p e j x h1 h2
       refine ⟨u,?_,u2⟩
       have hpn:p<n:=hixlt p (List.mem_of_getElem? hp)
       rw [qn5 hek _ _ _ hj,hp]
       show (enc p)[j]? = some u
       rw [henc]
       show (jY vs (Ty.size .term) (p % n))[j]? = some u
       rw [Nat.mod_eq_of_lt hpn,qjd hj,← Array.getElem?_toList]
       rw [List.getElem?_take] at u1
       split at u1
       ·exact u1
       ·cases u1
    ·refine Calls.mono hcall ?_
     rintro e w' ⟨rfl,dk,m,os,new,hdk,htk,hw⟩
     have B:=sort_blks hvsb enc (Ty.size .term) m dk os
     have hpsz:(putCells id 0 (flatK enc (Ty.size .term) dk) vs).size=vs.size:=by unfold putCells;rw [Array.size_mapIdx]
     have hixn:ix.length≤n:=by
      have:=congrArg List.length htk
      rw [List.length_take] at this
      have h2:dk.toList.length=n:=by rw [Array.length_toList,hdk]
      omega
     have hlen:ix.length*Ty.size .term≤n*Ty.size .term:=Nat.mul_le_mul_right _ hixn
     have hxs:(putCells id 0 (flatK enc (Ty.size .term) dk) vs).toList.take (ix.length*Ty.size .term)=ix.flatMap enc:=by
      apply List.ext_getElem?
      intro t
      by_cases ht:t<ix.length*Ty.size .term
      ·obtain ⟨q1,q2,q3⟩:=qie t (Ty.size .term) ix.length ht
       rw [List.getElem?_take,if_pos ht,Array.getElem?_toList]
       unfold putCells
       rw [Array.getElem?_mapIdx,Array.getElem?_eq_getElem (by omega),Option.map_some,if_pos ⟨Nat.zero_le _,by rw [size_flatK,hdk];omega⟩,Nat.sub_zero,id,get_flatK _ _ _ _ (by rw [hdk];omega)]
       conv=>rhs;rw [← q2]
       rw [qn5 hek _ _ _ q3]
       have hd:dk[t / Ty.size .term]? = ix[t / Ty.size .term]? := by
        rw [← htk,List.getElem?_take,if_pos q1,Array.getElem?_toList]
       have hdl:t / Ty.size .term<dk.size:=by rw [hdk];omega
       rw [← hd,Array.getElem?_eq_getElem hdl,getElem!_pos dk _ hdl]
       show _=(enc dk[t / Ty.size .term])[t % Ty.size .term]?
       rw [List.getElem!_eq_getElem?_getD,List.getElem?_eq_getElem (by rw [hek];exact q3)]
       rfl
      ·rw [List.getElem?_eq_none (by rw [List.length_take];omega),List.getElem?_eq_none (by rw [qun hek];omega)]
     rcases hw with rfl | ⟨n1,n2,rfl⟩
     ·exact ⟨Γ.cur 0,cap,_,et,rfl,B.hb,by omega,by rw [hpsz];exact hfit,hxs,.inl ⟨rfl,hpsz.trans hvsz⟩,B.os,B.tape,B.output,B.size,B.drawn,B.other⟩
     ·have hs:=setRow_heap _ (Γ.cur 0) _ new.toArray et (0,0) B.hb
      refine ⟨Γ.cur 0,cap,new.toArray,et,rfl,hs,by omega,by rw [List.size_toArray,n2];exact hfit,?_,.inl ⟨rfl,by rw [List.size_toArray,n2];exact hvsz⟩,B.os,B.tape,B.output,?_,B.drawn,λ b hb hne=>(setRow_other _ (Γ.cur 0) b _ hne).trans (B.other b hb hne)⟩
      ·rw [← hxs];exact n1
      ·show w.heap.size≤_
       simp only [World.setRow,Array.size_modify]
       exact B.size
 ·have hl2:l'=[]:=by
    have hl0:l=[]:=hl0
    rw [hl0] at hl';cases hl';rfl
  rcases hy with rfl | ⟨f,rfl,hf2⟩
  ·have hu0:=zq hu0
   subst hu0
   exact nil0 none hl2
  ·cases hu0 with
   | sl _ _ _ a n cap b o us hn _ hf _ _ _ _ _ _ =>
     have hn:n=0:=hn
     have hcap:cap=n:=hf (by omega)
     rw [hcap,hn]
     exact nil0 a hl2
end Go.AmYtbpnmbmdbblehaaGreat
namespace Go.Proofs.YtbpnmbmdbblehaaGreat
open Go.RowKit Go.GxYtbpnmbmdbblehaaGreat Go.BigFrame
theorem qHg:(Tryz.prog.info? 77).map (λ i=>(i.zero,i.size,i.bytes))=some (some (.agg #[.int .i64 0,.int .i64 0,.string ⟨#[]⟩,.int .i64 0,.slice none 0 0]),5,64):=by kernel_rfl
theorem qGQ (w:World):(zeroValue 77).run Tryz.prog w = .ok (.agg #[.int .i64 0,.int .i64 0,.string ⟨#[]⟩,.int .i64 0,.slice none 0 0]) w:=by kernel_rfl
theorem qwT:(Builtin.zeroCells (Value.cells (.agg #[.int .i64 0,.int .i64 0,.string ⟨#[]⟩,.int .i64 0,.slice none 0 0])) 1).toList=(Value.cells (.agg #[.int .i64 0,.int .i64 0,.string ⟨#[]⟩,.int .i64 0,.slice none 0 0])).toList:=by kernel_rfl
theorem qzD:∀ v∈(Builtin.zeroCells (Value.cells (.agg #[.int .i64 0,.int .i64 0,.string ⟨#[]⟩,.int .i64 0,.slice none 0 0])) 1).toList,v.oneCell'=true:=by
 rw [qwT]
 decide
set_option maxHeartbeats 4000000 in
set_option maxRecDepth 100000 in
theorem delete_oneSlt (w:World) (g m c i:Nat) (et:TypeId) (cur:Array Value) (xs:List Value) (hbk:Blk w g et cur) (hcs:c*5≤cur.size) (hx:cur.toList.take ((m+1)*5)=xs) (hone:∀ u∈xs,u.oneCell'=true)
  (hn:m≤100000) (hi:i≤m) (hroom:m+1≤c) :
  Calls Tryz.prog 55 #[.slice (some ⟨g,0,none⟩) (m+1) c,.int .i64 i,.int .i64 ((i:Int)+1)] w (qh5 5 w g cur.size m (xs.take (i*5)++xs.drop ((i+1)*5))):=by
 have hlc:cur.toList.length=cur.size:=by simp
 have hmc:(m+1)*5≤c*5:=Nat.mul_le_mul_right _ hroom
 have him:i*5≤m*5:=Nat.mul_le_mul_right _ hi
 have hxl:xs.length=(m+1)*5:=by rw [← hx,List.length_take,hlc];omega
 have hadd:∀ (b o j:Nat),(⟨b,o,none⟩:Addr).add j=⟨b,o+j,none⟩ := λ b o j=>by unfold Addr.add;split<;>simp_all
 have hcell:∀ (o j:Nat) (v:Value),(xs.drop o)[j]? = some v→w.drew.cell? ⟨g,o+j,none⟩=some v := λ o j v hj=>by
  show w.cell? _=_
  rw [hbk.cell,← Array.getElem?_toList]
  rw [List.getElem?_drop,← hx,List.getElem?_take] at hj
  split at hj
  ·exact hj
  ·cases hj
 obtain ⟨i0,hi0,hz0,hz1,hz2⟩:=info_parts qHg
 have hdl:(xs.drop ((i+1)*5)).length=(m-i)*5:=by rw [List.length_drop,hxl,← Nat.sub_mul];congr 1;omega
 have hdl':(m-i)*5=m*5-i*5:=Nat.sub_mul ..
 obtain ⟨A,hA,HN⟩:∃ A:Addr,(if c=i+1 then some (⟨g,0,none⟩:Addr) else some ⟨g,(i+1)*5,none⟩)=some A∧Hid (∀ j u,(xs.drop ((i+1)*5))[j]? = some u→w.drew.cell? (A.add j)=some u):=by
  by_cases h:c=i+1
  ·refine ⟨_,if_pos h,λ j u hj=>?_⟩
   have:=(List.getElem?_eq_some_iff.1 hj).1
   rw [hdl] at this
   have:m-i=0:=by omega
   simp [this] at *
  ·exact ⟨_,if_neg h,λ j u hj=>by rw [hadd];exact hcell _ j u hj⟩
 have HDL:=Lib.hid hdl
 have HO1:Hid (∀ u∈xs.drop ((i+1)*5),u.oneCell'=true) := λ v hv=>hone v (List.mem_of_mem_drop hv)
 have HSP:Hid (∀ j,j<(xs.drop ((i+1)*5)).length→(w.drew.cell? ⟨g,0+i*5+j,none⟩).isSome=true∧w.drew.frozen? ⟨g,0+i*5+j,none⟩=false) := λ j hj=>by
  rw [hdl] at hj
  refine ⟨?_,hbk.free _⟩
  show (w.cell? _).isSome=true
  rw [hbk.cell,Array.getElem?_eq_getElem (by omega)];rfl
 have hBKd:Blk w.drew g et cur:=hbk
 have hw0:=qgo g et (xs.drop ((i+1)*5)) (0+i*5) w.drew cur hBKd (by rw [hdl];omega)
 obtain ⟨w2,hw2⟩:∃ w2,w2=w.drew.setCells g (0+i*5) (xs.drop ((i+1)*5)):=⟨_,rfl⟩
 rw [← hw2] at hw0
 obtain ⟨c1,hc1⟩:∃ c1,c1=cur.toList.take (0+i*5)++xs.drop ((i+1)*5)++cur.toList.drop (0+i*5+(xs.drop ((i+1)*5)).length):=⟨_,rfl⟩
 rw [← hc1] at hw0
 have hl1:c1.length=cur.size:=by rw [hc1];simp only [List.length_append,List.length_take,List.length_drop,hlc,hdl];simp only [List.length_drop] at hdl;omega
 have ht1:c1.take (m*5)=xs.take (i*5)++xs.drop ((i+1)*5):=by
  have e1:cur.toList.take (0+i*5)=xs.take (i*5):=by rw [← hx,List.take_take];congr 1;omega
  rw [hc1,e1,List.take_append_of_le_length (by simp only [List.length_append,List.length_take,hdl,hxl];omega),List.take_of_length_le (by simp only [List.length_append,List.length_take,hdl,hxl];omega)]
 have hzl:(Builtin.zeroCells (Value.cells (.agg #[.int .i64 0,.int .i64 0,.string ⟨#[]⟩,.int .i64 0,.slice none 0 0])) 1).toList.length=5:=by rw [Array.length_toList,size_zeroCells];rfl
 obtain ⟨w3,hcl,hw3⟩:∃ w3,(∀ ty,(Builtin.clear_ #[27] ty #[.slice (some ⟨g,m*5,none⟩) 1 (c-m)]).run Tryz.prog w2 = .ok (.tuple #[]) w3)∧qhV w2 w3 g et (c1.toArray.toList.take (m*5)++(Builtin.zeroCells (Value.cells (.agg #[.int .i64 0,.int .i64 0,.string ⟨#[]⟩,.int .i64 0,.slice none 0 0])) 1).toList++c1.toArray.toList.drop (m*5+(Builtin.zeroCells (Value.cells (.agg #[.int .i64 0,.int .i64 0,.string ⟨#[]⟩,.int .i64 0,.slice none 0 0])) 1).toList.length)) :=
  ⟨_,λ ty=>ql1 w2 27 77 ty _ Tryz.underlying27 qGQ g (m*5) 1 (c-m) (by omega) c1.toArray et hw0.blk (by
   show m*5+1*5≤c1.toArray.size
   rw [List.size_toArray,hl1];omega) qzD,qcL hw0.blk _⟩
 have HW0:=Lib.hid hw0
 have HW2:=Lib.hid hw2
 have HW3:=Lib.hid hw3
 have HCL:=Lib.hid hcl
 have HT1:=Lib.hid ht1
 have HL1:=Lib.hid hl1
 have HZL:=Lib.hid hzl
 have HI:=Lib.hid hi0
 have HZ1:=Lib.hid hz1
 have HCS:=Lib.hid hcs
 have HMC:=Lib.hid hmc
 have hlt:=lt_of_block hbk
 have hc1:¬ (m+1=i):=by omega
 have hc2:¬ (c=m):=by omega
 have hf1:((i:Int)==(i:Int)+1)=false:=by simp;omega
 have hrm:i+(m-i)≤c:=by omega
 have hmi:i+(m-i)=m:=by omega
 have HRM:=Lib.hid hrm
 have HMI:=Lib.hid hmi
 clear hlc hxl hadd hcell hi0 hz0 hz1 hz2 hdl hBKd hw0 hw2 hl1 ht1 hzl hcl hw3 hcs hx hone hbk hrm hmi hmc him hdl'
 have hw1:((i:Int)+1).toNat=i+1:=by omega
 have hw4:(i:Int)+1≤(m:Int)+1:=by omega
 have hw5:(i:Int)≤(m:Int)+1:=by omega
 have hw6:(0:Int)≤(i:Int)+1:=by omega
 have hic:i≤c:=by omega
 go_enter Tryz.func55,Tryz.ntmps55
 go_upto_region 5 with (fail)
 go_region_law (refine step_append_room rfl (.tmp 22) (.tmp 25) 27 rfl 77 i0 5 Tryz.underlying27 HI.out HZ1.out g 0 i c (by simp [Act.eval,Act.put]) A (m-i) (c-(i+1)) (xs.drop ((i+1)*5)) (by simp [Act.eval,Act.put]) HDL.out HN.out HO1.out HRM.out HSP.out ?_;rw [← HW2.out,HMI.out])
 all_goals
  clear hw1 hw4 hw5 hw6 hA
  have hcl:=HCL.out
  go_wp2_with (simp only [hcl])
  go_ret
  have h3:=HW3.out
  have h0:=HW0.out
  have hblk:=h3.blk
  have hl1:=HL1.out
  have hzl:=HZL.out
  have hmc:=HMC.out
  have hcs:=HCS.out
  have hsz:(c1.toArray.toList.take (m*5)++(Builtin.zeroCells (Value.cells (.agg #[.int .i64 0,.int .i64 0,.string ⟨#[]⟩,.int .i64 0,.slice none 0 0])) 1).toList++c1.toArray.toList.drop (m*5+(Builtin.zeroCells (Value.cells (.agg #[.int .i64 0,.int .i64 0,.string ⟨#[]⟩,.int .i64 0,.slice none 0 0])) 1).toList.length)).length=cur.size:=by
   show (c1.take (m*5)++_++c1.drop (m*5+_)).length=_
   simp only [List.length_append,List.length_take,List.length_drop,hl1,hzl];omega
  refine ⟨g,c,_,et,rfl,hblk,by omega,?_,?_,.inl ⟨rfl,?_⟩,h3.os.trans h0.os,h3.tape.trans h0.tape,h3.output.trans h0.output,?_,?_,λ k _ hk=>(h3.other k hk).trans (h0.other k hk)⟩
  ·rw [List.size_toArray,hsz];exact hcs
  ·show (c1.take (m*5)++_++c1.drop (m*5+_)).take (m*5)=_
   rw [List.append_assoc,List.take_append_of_le_length (by rw [List.length_take,hl1];omega),List.take_take,Nat.min_self]
   exact HT1.out
  ·rw [List.size_toArray,hsz]
  ·rw [h3.size,h0.size];exact Nat.le_refl _
  ·rw [h3.drawn,h0.drawn];exact Nat.le_succ _
end Go.Proofs.YtbpnmbmdbblehaaGreat
namespace Go.Proofs.YtbpnmbmdbblehaaGreat
open Go Go.RowKit Go.GxYtbpnmbmdbblehaaGreat Go.Sort Go.Proofs Go.Shelf Go.Lib Go.AmYtbpnmbmdbblehaaGreat
def qkd (ef:Nat→Bool):Nat→Nat→Int
 | 0,_=>-1
 | n+1,i=>cond (ef i) i (qkd ef n (i+1))
theorem qve (w:World):qd2 w w:=⟨rfl,rfl,rfl,Nat.le_refl _,λ _ _=>rfl,Nat.le_refl _⟩
theorem qq1 {a b c:World} (h:qd2 a b) (g:qd2 b c):qd2 a c :=
 ⟨g.os.trans h.os,g.tape.trans h.tape,g.output.trans h.output,Nat.le_trans h.size g.size,λ i hi=>(g.block i (Nat.lt_of_lt_of_le hi h.size)).trans (h.block i hi),Nat.le_trans h.drawn g.drawn⟩
variable {P:Program}
set_option maxHeartbeats 4000000 in
set_option maxRecDepth 1000000 in
theorem qGN (hF:P.funcs[52]? = some Tryz.f52) (mixed:P.follows .mixedOrders=true)
  (t0:P.underlying 0=some (TypeDesc.tuple #[])) (a0:∀ w,(isAgg 0).run P w = .ok false w) (z0:∀ w,(Go.sizeOf 0).run P w = .ok 1 w) (v0:∀ w,(zeroValue 0).run P w = .ok (Value.tuple #[]) w)
  (t3:P.underlying 3=some (TypeDesc.int IntKind.i64)) (a3:∀ w,(isAgg 3).run P w = .ok false w) (z3:∀ w,(Go.sizeOf 3).run P w = .ok 1 w) (v3:∀ w,(zeroValue 3).run P w = .ok (Value.int IntKind.i64 0) w)
  (t4:P.underlying 4=some (TypeDesc.bool)) (a4:∀ w,(isAgg 4).run P w = .ok false w) (z4:∀ w,(Go.sizeOf 4).run P w = .ok 1 w) (v4:∀ w,(zeroValue 4).run P w = .ok (Value.bool false) w)
  (t22:P.underlying 27=some (TypeDesc.slice 77)) (a22:∀ w,(isAgg 27).run P w = .ok false w) (z22:∀ w,(Go.sizeOf 27).run P w = .ok 1 w) (v22:∀ w,(zeroValue 27).run P w = .ok (Value.slice none 0 0) w)
  (t36:P.underlying 81=some (TypeDesc.func #[77] #[4] false)) (a36:∀ w,(isAgg 81).run P w = .ok false w) (z36:∀ w,(Go.sizeOf 81).run P w = .ok 1 w) (v36:∀ w,(zeroValue 81).run P w = .ok (Value.nilFunc) w)
  (k:Nat) (aE:∀ w,(isAgg 77).run P w = .ok true w) (zE:∀ w,(Go.sizeOf 77).run P w = .ok k w)
  (w:World) (blk n cap:Nat) (q:Nat) (bp:Value) (hn:n≤100000) (hblk:blk<w.heap.size)
  (enc:Nat→List Value) (hk:∀ x,(enc x).length=k) (hH:HoldsK enc k w blk 0 (Array.range n))
  (eg:∀ args w,(callFunc q args).run P w = .ok (.enter q args) w) (ef:Nat→Bool)
  (heq:∀ W,qd2 w W→∀ i,i<n→Calls P q #[.agg (enc i).toArray,bp] W λ e w'=>e = .returned (.bool (ef i))∧qd2 W w') :
  Calls P 52 #[.slice (some ⟨blk,0,none⟩) n cap,.func (.func q) #[] #[bp]] w λ e w'=>e = .returned (.int .i64 (qkd ef n 0))∧qd2 w w':=by
 have u22:=run_underlying t22
 have hrs:(Array.range n).size=n:=Array.size_range
 have HC:Aside _:=heq
 have HH:Hid (HoldsK enc k w blk 0 (Array.range n)):=hH
 have HK:Hid (∀ x,(enc x).length=k):=hk
 clear heq hH hk
 have hnz:(n:Int)≤100000:=by omega
 generalize hr0:qkd ef n 0=r
 have HR:=Lib.hid hr0
 clear hr0
 go_enter hF,Tryz.ntmps52
 go_wp2
 go_loopg [8] n (λ g1 vi wr=>∃ (i:Nat),vi = .int .i64 i∧i≤n∧n-i≤g1∧Hid (qd2 w wr)∧Hid (qkd ef (n-i) i=r))
 case atStart=>exact ⟨0,rfl,Nat.zero_le _,by omega,qve w,by show _=_;rw [Nat.sub_zero];exact HR.out⟩
 case round =>
  obtain ⟨i,rfl,hin,hg1,HI,HE⟩:=hrel
  by_cases hlt:i<n
  ·have hltz:(i:Int)<(n:Int):=by omega
   have r1:(Array.range n)[i]! = i:=by rw [getElem!_pos _ _ (by rw [hrs];exact hlt)];simp
   have hHw:HoldsK enc k wr blk 0 (Array.range n):=by
    intro j hj
    obtain ⟨h1,h2⟩:=HH.out j hj
    have hb:=HI.out.block blk hblk
    exact ⟨by rw [show wr.cell? _=w.cell? _ from World.cell?_of_block hb];exact h1,by
     rw [← h2];unfold World.frozen?;rw [hb]⟩
   have lj:Sem.run P (loadCellsFrom ⟨blk,i*k,none⟩ 0 k #[]) wr = .ok (enc i).toArray wr:=by
    have:=HoldsK.cells hHw HK.out (i:=i) (by rw [hrs];exact hlt)
    rw [r1,Nat.zero_add] at this
    exact run_loadCellsFrom_list P _ _ _ k (HK.out _) this
   have hcg:=HC.out wr HI.out i hlt
   clear hHw r1
   have hE:=HE.out
   rw [show n-i=(n-(i+1))+1 by omega] at hE
   cases hev:ef i with
   | true =>
     have hE2:r=(i:Int):=by rw [← hE,qkd,hev];rfl
     have HE2:=Lib.hid hE2
     clear hE hE2
     rw [hev] at hcg
     go_wp2_with (go_at_fn q;refine hcg.mono ?_;rintro e w1 ⟨rfl,hid⟩)
     go_ret
     rw [HE2.out]
     exact ⟨rfl,qq1 HI.out hid⟩
   | false =>
     have hE2:qkd ef (n-(i+1)) (i+1)=r:=by rw [← hE,qkd,hev];rfl
     have HE2:=Lib.hid hE2
     clear hE hE2
     rw [hev] at hcg
     go_wp2_with (go_at_fn q;refine hcg.mono ?_;rintro e w1 ⟨rfl,hid⟩)
     go_roundg (n-(i+1))
     case measure=>omega
     case rel=>exact ⟨i+1,by go_num,by omega,by omega,qq1 HI.out hid,HE2.out⟩
  ·obtain rfl:i=n:=by omega
   have hE:=HE.out
   rw [Nat.sub_self] at hE
   have HE2:=Lib.hid hE
   clear hE
   go_wp2
   go_ret
   rw [← HE2.out]
   exact ⟨rfl,HI.out⟩
set_option maxHeartbeats 4000000 in
set_option maxRecDepth 1000000 in
theorem qHe (p:Option Addr) (cap:Nat) (fv:Value) (w:World) :
  Calls Tryz.prog 52 #[.slice p 0 cap,fv] w λ e w'=>e = .returned (.int .i64 (-1))∧qd2 w w':=by
 go_enter Tryz.func52,Tryz.ntmps52
 go_wp2
 refine wp_loop_rounds 1 ?_
 rw [rounds_succ]
 go_wp2
 go_ret
 exact ⟨rfl,qve w⟩
set_option maxHeartbeats 4000000 in
set_option maxRecDepth 1000000 in
theorem qIS (w:World) (x n:Int) (c1 c2 c3 c4:Value) (h1:c1.oneCell'=true) (h2:c2.oneCell'=true) (h3:c3.oneCell'=true) (h4:c4.oneCell'=true) (b:Nat) (hN:w.cell? ⟨b,0,none⟩=some (.int .i64 n)) :
  Calls Tryz.prog 53 #[.agg #[.int .i64 x,c1,c2,c3,c4],.pointer (some ⟨b,0,none⟩)] w λ e w'=>e = .returned (.bool (x==n))∧qd2 w w':=by
 have hb:b<w.heap.size:=qoC hN
 have hN2:∀ o,(w.alloc o).cell? ⟨b,0,none⟩=some (.int .i64 n) := λ o=>by
  rw [show (w.alloc o).cell? _=w.cell? _ from World.cell?_of_block (Below.heap_alloc _ _ _ hb)];exact hN
 go_enter Tryz.func53,Tryz.ntmps53
 go_wp2
 go_ret
 exact ⟨rfl,rfl,rfl,rfl,by simp,λ b hb=>Below.heap_alloc _ _ _ hb,Nat.le_refl _⟩
end Go.Proofs.YtbpnmbmdbblehaaGreat
namespace Go.AmYtbpnmbmdbblehaaGreat
open Go Go.RowKit Go.GxYtbpnmbmdbblehaaGreat Go.Sort Go.Proofs Go.Shelf Go.Proofs.YtbpnmbmdbblehaaGreat
abbrev zY:Ty := .pair (.int .i64) .term
def qjg (l:List (Val zY)) (n:Int) (i:Nat):Bool:=match l[i]? with
 | some x=>x.1==n
 | none=>false
noncomputable def yM (m:Nat) (l:List (Int × T)) (c:Int × T):Option Int:=cond (Nat.ble l.length 100000) (some (qkd (qjg l c.1) l.length 0)) none
theorem qG6 {σ : St} {g k:Nat} {r:List SA} {nb nr:Nat} {ys:List AV} {a:jv (.clo g k::r)} (h:dS σ (.clo g k::r) nb nr ys=some a):∃ cs ys',ys = .fn g cs::ys'∧cs.length=k∧dS σ r nb nr (cs++ys')=some a:=by
 cases ys with
 | nil=>simp [dS] at h
 | cons y ys =>
   simp only [dS] at h
   split at h
   ·rename_i cs hc
    obtain ⟨rfl,h1⟩:=qts hc
    exact ⟨cs,ys,rfl,h1,h⟩
   ·cases h
theorem qGo {σ : St} {τ : Ty} {r:List SA} {nb nr:Nat} {ys:List AV} {a:jv (.box [.val τ]::r)} (h:dS σ (.box [.val τ]::r) nb nr ys=some a):∃ ds ys',ys = .ptr nb 0::ys' ∧ σ.bx[nb]? = some ds∧yj τ (ds.take τ.size)=some a.1∧dS σ r (nb+1) nr ys'=some a.2:=by
 cases ys with
 | nil=>simp [dS] at h
 | cons y ys =>
   simp only [dS] at h
   cases hb:qkZ σ [.val τ] nb nr y with
   | none=>rw [hb] at h;cases h
   | some p =>
     obtain ⟨v,n⟩:=p
     rw [hb] at h
     simp only at h
     unfold qkZ at hb
     split at hb<;>try cases hb
     rename_i j
     split at hb<;>try cases hb
     rename_i ds hj hds
     have hj:=Nat.eq_of_beq_eq_true hj
     subst hj
     simp only [qeG] at hb
     split at hb<;>try cases hb
     rename_i x hx
     split at hb<;>cases hb
     rename_i hvs
     have hm:n=nr:=by
      cases hdd:ds.drop τ.size with
      | nil=>rw [hdd] at hvs;simp [qeG] at hvs;exact hvs.symm
      | cons z zs=>rw [hdd] at hvs;simp [qeG] at hvs
     subst hm
     split at h<;>cases h
     rename_i vs' hvs'
     exact ⟨ds,ys,rfl,hds,hx,hvs'⟩
set_option maxHeartbeats 1000000 in
theorem js {m:Nat}:qX Go.Proofs.Tryz.prog 52 (xgP ⟨[.row zY,.clo 53 1,.box [.val zY]],λ x=>yM m x.1 x.2.1⟩):=by
 refine ⟨QM Go.Proofs.Tryz.func52 (by kernel_rfl),λ Γ σ w args vals r hi hr hp=>?_⟩
 unfold xgP at hp
 split at hp<;>try cases hp
 rename_i x hx
 split at hp<;>cases hp
 rename_i v0 hv0
 obtain ⟨l,c,_⟩:=x
 obtain ⟨y0,ys0,nr,rfl,hy0,hx1⟩:=qna hx
 obtain ⟨cs,ys1,rfl,hcs,hx2⟩:=qG6 (r:=[.box [.val zY]]) hx1
 match cs,hcs with
 | [yp],_ =>
 obtain ⟨ds,ys2,he2,hds,hdv,hx3⟩:=qGo (τ := zY) (r:=[]) hx2
 obtain ⟨rfl,hbx,hrw⟩:=qjn hx3
 have he2:yp::ys1=[.ptr 0 0]:=he2
 cases he2
 clear hx hx1 hx2 hx3
 obtain ⟨u0,r0,rfl,hu0,hr⟩:=hr.uncons
 obtain ⟨u1,r1,rfl,hu1,hr⟩:=hr.uncons
 have:=hr.nil_inv
 subst this
 have hv0:cond (Nat.ble l.length 100000) (some (qkd (qjg l c.1) l.length 0)) none=some v0:=hv0
 obtain ⟨hll,rfl⟩:=qdJ hv0
 have hll:l.length≤100000:=Nat.le_of_ble_eq_true hll
 obtain ⟨bp,rfl⟩:∃ bp,u1 = .func (.func 53) #[] #[.pointer (some ⟨Γ.β 0,0,none⟩)]:=by
  cases hu1 with
  | fn _ _ us hn hrr =>
    match us,hn with
    | [u],_ =>
      have:=hrr 0 _ u rfl rfl
      cases this with
      | ptr b o h=>exact ⟨0,rfl⟩
 have hbl:0 < Γ.nb:=by rw [hi.nb];omega
 have fin:∀ {vs:Array Value} {v:Int},Calls Go.Proofs.Tryz.prog 52 vs w (λ e w'=>e = .returned (.int .i64 v)∧qd2 w w')→jy Go.Proofs.Tryz.prog Γ σ w 52 vs.toList (.v (.int .i64 v),none) := λ {vs v} h=>by
  refine Calls.mono (by simpa using h) ?_
  rintro e w' ⟨rfl,hid⟩
  have hb:Below w.heap.size w w':=⟨hid.os,hid.tape,hid.output,hid.size,hid.block⟩
  exact ⟨_,Γ,rfl,qcW hb hid.drawn,hi.later hb,.v _ rfl,.refl _⟩
 have nil0:∀ (p:Option Addr) (cap:Nat),l=[]→jy Go.Proofs.Tryz.prog Γ σ w 52 [.slice p 0 cap,.func (.func 53) #[] #[.pointer (some ⟨Γ.β 0,0,none⟩)]] (.v (.int .i64 (qkd (qjg l c.1) l.length 0)),none) := λ p cap h=>by
  subst h
  exact fin (qHe p cap _ w)
 rcases qc3 hy0 with ⟨hnr,R,rfl,hR,hRk,hRf,hRd⟩ | ⟨hnr,hl0,hy⟩
 ·have H:=hi.row 0 R hR
  have hcl:R.c.length=l.length:=qT hRd
  have hlk:∀ e∈R.c,e.length=Ty.size zY := λ e he=>(H.len e he).trans hRk
  obtain ⟨p,cap,rfl,hcap,hrm⟩:=qoR hi hR hRk hRf hu0
  by_cases hl0:l=[]
  ·have hrc:R.c.length=0:=by rw [hcl,hl0];rfl
   rw [hrc]
   exact nil0 p cap hl0
  ·have hlpos:0<l.length:=List.length_pos_iff.2 hl0
   rcases hrm with h0 | ⟨rfl,hz,vs,et,hvs,hvsz,hfit,hca,hxl,h1⟩
   ·omega
   obtain ⟨n,hn⟩:∃ n,n=l.length:=⟨_,rfl⟩
   have hnc:R.c.length=n:=hcl.trans hn.symm
   rw [hnc] at hca hxl h1 hcap ⊢
   have hns:n*Ty.size zY≤vs.size:=Nat.le_trans (Nat.mul_le_mul_right _ hcap) hfit
   have hER:∀ {q:Nat} {y:Val zY},l[q]? = some y→RepL Γ (qm zY y) (jY vs (Ty.size zY) q)∧∀ u∈jY vs (Ty.size zY) q,u.oneCell'=true := λ hq=>qpQ hnc hlk hRd hca hns hq
   have hlast:∀ i,i % n<n := λ i=>Nat.mod_lt _ (by omega)
   obtain ⟨enc,henc⟩:∃ enc:Nat→List Value,enc = λ i=>jY vs (Ty.size zY) (i % n):=⟨_,rfl⟩
   have hek:∀ i,(enc i).length=Ty.size zY := λ i=>by rw [henc];exact qln (hlast i) hns
   have hrange:(Array.range n).size=n:=Array.size_range
   have hvsb:w.heap[Γ.cur 0]? = some (.cells vs et (0,0)):=hvs
   have hH:HoldsK enc (Ty.size zY) w (Γ.cur 0) 0 (Array.range n):=by
    intro j hj
    rw [size_flatK,hrange] at hj
    obtain ⟨q1,q2,q3⟩:=qie j (Ty.size zY) n hj
    have hjs:j<vs.size:=Nat.lt_of_lt_of_le hj hns
    constructor
    ·rw [get_flatK _ _ _ _ (by rw [hrange];exact hj)]
     have e1:(Array.range n)[j / (Ty.size zY)]! = j / (Ty.size zY):=by rw [getElem!_pos _ _ (by rw [hrange];exact q1)];simp
     rw [e1,henc]
     show _=some ((jY vs (Ty.size zY) (j / (Ty.size zY) % n))[j % (Ty.size zY)]!)
     rw [Nat.mod_eq_of_lt q1]
     have e2:(jY vs (Ty.size zY) (j / (Ty.size zY)))[j % (Ty.size zY)]? = some vs[j]:=by rw [qjd q3,q2];exact Array.getElem?_eq_getElem hjs
     rw [Nat.zero_add,Blk.cell hvs,List.getElem!_eq_getElem?_getD,e2,Array.getElem?_eq_getElem hjs]
     rfl
    ·exact Blk.free hvs _
   have hN:w.cell? ⟨Γ.β 0,0,none⟩=some (.int .i64 c.1):=by
    obtain ⟨cs,e,hh,hrep,_⟩:=hi.box 0 ds hds
    have hsub:=qim hdv
    have hr5:RepL Γ (qm zY c) (cs.toList.take (Ty.size zY)):=hsub.rep (hrep.take _)
    obtain ⟨u,r,hu,hu1,_⟩:=(show RepL Γ (.v (.int .i64 c.1)::QZ c.2) _ from hr5).uncons
    have:=zq hu1
    subst this
    have h0:cs.toList[0]? = some (.int .i64 c.1):=by
     have:(cs.toList.take (Ty.size zY))[0]? = some (.int .i64 c.1):=by rw [hu];rfl
     rw [List.getElem?_take] at this
     split at this
     ·exact this
     ·cases this
    unfold World.cell?
    rw [hh]
    show cs[0]? = _
    rw [← Array.getElem?_toList];exact h0
   have heq:∀ W,qd2 w W→∀ i,i<n→Calls Go.Proofs.Tryz.prog 53 #[.agg (enc i).toArray,.pointer (some ⟨Γ.β 0,0,none⟩)] W λ e w'=>e = .returned (.bool (qjg l c.1 i))∧qd2 W w':=by
    intro W hid i hi'
    have hli:i<l.length:=by omega
    obtain ⟨q1,q2⟩:=hER (List.getElem?_eq_getElem hli)
    have he:enc i=jY vs (Ty.size zY) i:=by rw [henc];show jY _ _ (i % n)=_;rw [Nat.mod_eq_of_lt hi']
    rw [he]
    have hlen5:(jY vs (Ty.size zY) i).length=5:=by rw [← he];exact hek i
    match hE:jY vs (Ty.size zY) i,hlen5 with
    | [d0,d1,d2,d3,d4],_ =>
      rw [hE] at q1 q2
      obtain ⟨u,r,hu,hu1,_⟩:=(show RepL Γ (.v (.int .i64 l[i].1)::QZ l[i].2) _ from q1).uncons
      have:=zq hu1
      subst this
      cases hu
      have hb:(qjg l c.1 i)=(l[i].1==c.1):=by unfold qjg;rw [List.getElem?_eq_getElem hli]
      rw [hb]
      refine qIS W _ _ d1 d2 d3 d4 (q2 _ (by simp)) (q2 _ (by simp)) (q2 _ (by simp)) (q2 _ (by simp)) (Γ.β 0) ?_
      rw [show W.cell? _=w.cell? _ from World.cell?_of_block (hid.block _ (qoC hN))]
      exact hN
   have hcall:=qGN (P:=Go.Proofs.Tryz.prog) Go.Proofs.Tryz.func52 (by kernel_rfl) Go.Proofs.Tryz.underlying0 Go.Proofs.Tryz.isAgg0 Go.Proofs.Tryz.sizeOf0 Go.Proofs.Tryz.zeroValue0 Go.Proofs.Tryz.underlying3 Go.Proofs.Tryz.isAgg3 Go.Proofs.Tryz.sizeOf3 Go.Proofs.Tryz.zeroValue3 Go.Proofs.Tryz.underlying4 Go.Proofs.Tryz.isAgg4 Go.Proofs.Tryz.sizeOf4 Go.Proofs.Tryz.zeroValue4 Go.Proofs.Tryz.underlying27 Go.Proofs.Tryz.isAgg27 Go.Proofs.Tryz.sizeOf27 Go.Proofs.Tryz.zeroValue27 Go.Proofs.Tryz.underlying81 Go.Proofs.Tryz.isAgg81 Go.Proofs.Tryz.sizeOf81 Go.Proofs.Tryz.zeroValue81 (Ty.size zY) Go.Proofs.Tryz.isAgg77 Go.Proofs.Tryz.sizeOf77
    w (Γ.cur 0) n cap 53 (.pointer (some ⟨Γ.β 0,0,none⟩)) (by omega) (Array.getElem?_eq_some_iff.1 hvsb).1 enc hek hH (λ args w=>qdO (QM Go.Proofs.Tryz.func53 (by kernel_rfl)) args w) (qjg l c.1) heq
   have:=fin hcall
   rw [← hn]
   exact this
 ·have hl0:l=[]:=hl0
  rcases hy with rfl | ⟨f,rfl,hf2⟩
  ·have hu0:=zq hu0
   subst hu0
   exact nil0 none 0 hl0
  ·cases hu0 with
   | sl _ _ _ a n cap b o us hn _ hf _ _ _ _ _ _ =>
     have hn:n=0:=hn
     rw [hn]
     exact nil0 a cap hl0
end Go.AmYtbpnmbmdbblehaaGreat
namespace Go.AmYtbpnmbmdbblehaaGreat
open Go Go.RowKit Go.GxYtbpnmbmdbblehaaGreat
noncomputable def yV (m:Nat) (l:List (Int × T)) (i j:Int):Option (Unit × List (Int × T) × Unit):=cond (inb j l.length&&(inb i l.length&&(ieq j (qj i 1)&&Nat.ble l.length 100000))) (some ((),l.take i.toNat++l.drop (i.toNat+1),())) none
theorem qc4 {m:Nat}:qX Go.Proofs.Tryz.prog 55 (sgP ⟨[.row (.pair (.int .i64) .term),.val (.int .i64),.val (.int .i64)],[.one (.row (.pair (.int .i64) .term))],λ x=>yV m x.1 x.2.1 x.2.2.1⟩):=by
 refine qxf (a := .pair (.int .i64) .term) (QM Go.Proofs.Tryz.func55 (by kernel_rfl)) Go.Proofs.YtbpnmbmdbblehaaGreat.delete_oneSlt (fn:=yV m) λ l i j r h=>?_
 obtain ⟨h1,h2⟩:=qdJ h
 simp only [Bool.and_eq_true] at h1
 obtain ⟨h3,h4,h5,h6⟩:=h1
 have h3:=of_decide_eq_true h3
 have h4:=of_decide_eq_true h4
 have h5:j=i+1:=by simpa [ieq,qj] using h5
 refine ⟨h5,h4.1,?_,Nat.le_of_ble_eq_true h6,h2.symm⟩
 omega
end Go.AmYtbpnmbmdbblehaaGreat
namespace Go.AmYtbpnmbmdbblehaaGreat
open Go Go.GxYtbpnmbmdbblehaaGreat
set_option linter.unusedVariables false
set_option maxRecDepth 100000
noncomputable section
abbrev Z1:=Option (Bool)
abbrev Z2:=Int→Z1
abbrev Z3:=List UInt8
abbrev Z4:=Z3→Int→Int→Z1
abbrev Z5:=Y8→Z1
abbrev Z6:=Option (((Int) × (Int) × Unit) × ((Int) × Unit))
abbrev Z7:=T→Int→Int→Int→Z6
abbrev Z8:=List (T)
abbrev Z9:=Int→Z8→Int→Int→Int→Int→Z6
abbrev Z10:=Option (Int)
abbrev Z11:=T→Z10
abbrev Z12:=Option (Y8 × (Int × (Int × Int)))
abbrev Z13:=List (Y8 × (Int × (Int × Int)))
abbrev Z14:=Z3→Z13→Int→Int→Z3→Int→Int→Int→Z12
abbrev Z15:=Z8→Int→Int→Int→Z3→Int→Z8→Z10
abbrev Z16:=Z8→Int→Int→Z10
abbrev Z17:=Int→Z8→Int→Int→Z10
abbrev Z18:=T→T→Z10
abbrev Z19:=Int→Int→Int→Z3→Int→Z8→Int→Z3→Int→Z8→Z10
abbrev Z20:=T→T→Z1
abbrev Z21:=Option (T)
abbrev Z22:=T→Z21
abbrev Z23:=Option (TL)
abbrev Z24:=(List (TL))→Int→(List (TL))→Int→Int→Z23
abbrev Z25:=(List (TL))→Int→Int→Z8→Z23
abbrev Z26:=Z8→Z8→Z8→Z23
abbrev Z27:=T→Z23
abbrev Z28:=Z8→Z8→Int→Int→Z23
abbrev Z29:=Z8→Int→Int→Int→Z3→Int→Int→Z3→Int→Z8→Z8→Z21
abbrev Z30:=Option ((T) × (Int))
abbrev Z31:=(List (Int))→Int→Int→Int→Z3→Int→Z8→Int→Z3→Int→Int→Z3→Int→Z8→Z8→Z30
abbrev Z32:=TL→Z23
abbrev Z33:=Z8→Int→Int→Z8→Z23
abbrev Z34:=Z8→Z8→Int→Int→Int→Z3→Int→Z8→Z30
abbrev Z35:=T→Z1
abbrev Z36:=Int→Int→Int→Z3→Int→Int→Z3→Int→Z8→Z8→Z21
abbrev Z37:=Option ((Int) × (Bool))
abbrev Z38:=List (T × Int)
abbrev Z39:=Z38→Int→Int→Int→Int→Z3→Int→Z8→Z37
abbrev Z40:=Option ((Unit) × ((List (T × Int)) × Unit))
abbrev Z41:=Option ((Unit) × ((List (T × Int)) × (Bool) × Unit))
abbrev Z42:=Z38→T→Int→Z41
abbrev Z43:=Int→Z8→Int→Int→Z38→Z41
abbrev Z44:=Option ((List (T × Int)) × (Int))
abbrev Z45:=T→Z44
abbrev Z46:=Z38→Z38→Int→Int→Z10
abbrev Z47:=Z38→Z10
abbrev Z48:=Y8→TL→Z21
abbrev Z49:=Z38→Int→Int→Int→Z3→Int→Z8→Z8→Z8→Z30
abbrev Z50:=Z38→Int→Int→Int→Int→Int→Z3→Int→Int→Z3→Int→Z8→Int→Z8→Z8→Z8→Z30
abbrev Z51:=Z38→Z30
abbrev Z52:=Z38→Int→Int→Z38→Z40
abbrev Z53:=Z38→Int→Int→Z10
abbrev Z54:=Z38→Int→Int→Z38→Z44
abbrev Z55:=Z38→Z38→Z44
abbrev Z56:=T→T→Z30
abbrev Z57:=T→Z30
abbrev Z58:=Z8→Int→Int→Int→Z3→Int→Z8→Int→Z3→Int→Int→Z3→Int→Z8→Z8→Z30
abbrev Z59:=Z8→Int→Int→Z1
abbrev Z60:=Option (((Int) × (List (T)) × Unit) × (Unit))
abbrev Z61:=T→Int→Z8→Z60
abbrev Z62:=Z8→Int→Int→Int→Z8→Z60
abbrev Z63:=Option ((Unit) × ((List (T)) × Unit))
abbrev Z64:=Int→Int→Z8→Z63
abbrev Z65:=(List (Int))→Int→Int→Int→Z3→Int→Z8→Int→Z3→Int→Z8→Z30
abbrev Z66:=Option ((T × (Int × ((List (Int × T)) × Int))) × (Int))
abbrev Z67:=T→Z66
abbrev Z68:=Int→Int→Int→Z3→Int→Int→Z3→Int→Z8→Z8→Z30
abbrev Z69:=T→Int→Z30
abbrev Z70:=Int→Int→Int→Z3→Int→Z8→Z10
abbrev Z71:=Int→Int→Z3→Int→Z8→Int→Z3→Int→Z8→Z10
abbrev Z72:=List (Int × T)
abbrev Z73:=Int→Z72→Int→Int→Int→Z3→Int→Z8→Int→Z72→Int→Z10
abbrev Z74:=T × (Int × ((List (Int × T)) × Int))
abbrev Z75:=Z74→Z10
abbrev Z76:=Option ((Unit) × (((T) × (Int) × (List (Int × T)) × (Int) × Unit) × Unit))
abbrev Z77:=Z72→Int→Int→Int→Z3→Int→Z8→Int→Z72→Int→Int→Z3→Int→Int→Int→Z8→Z72→Z72→Z76
abbrev Z78:=Option ((T) × (Bool))
abbrev Z79:=Option ((T × (Int × ((List (Int × T)) × Int))) × ((T) × (Int)))
abbrev Z80:=Int→Int→Z3→Int→Z8→Int→Z3→Int→Int→Int→Int→Z3→Int→Int→Z3→Int→Z8→Int→Int→Z8→Z72→Z8→Z72→Z79
abbrev Z81:=Option (Y8)
abbrev Z82:=Z3→Int→Z81
abbrev Z83:=Z3→Int→Z1
abbrev Z84:=Option ((T) × ((Y8) × (Bool)))
abbrev Z85:=Z3→Z3→Int→Int→Z3→Int→Z8→Int→Z3→Int→Z8→Z84
abbrev Z86:=Y8→Int→Z84
abbrev Z87:=Z3→Int→Int→Z3→Int→Int→Z3→Int→Z8→Z8→Z84
abbrev Z88:=Int→Int→Z3→Int→Z8→Z10
abbrev Z89:=Option (List (Y8 × (Int × (Int × Int))))
abbrev Z90:=Z3→Z13→Int→Z10
abbrev Z91:=Z13→Int→Int→Z3→Int→Z8→Z1
abbrev Z92:=Int→Int→Z3→Int→Z8→Z1
abbrev Z93:=Z8→Int→Int→Z3→Int→Z8→Z1
abbrev Z94:=Z8→Bool→Int→Int→Z3→Int→Z8→Z8→Z23
abbrev Z95:=Z8→Int→Int→Z3→Int→Z8→Z8→Z23
abbrev Z96:=Z8→Z8→Int→Z23
abbrev Z97:=Z8→Int→Int→Z3→Int→Z8→Z23
abbrev Z98:=Z8→Int→Int→Z3→Int→Z8→Z10
abbrev Z99:=Z8→Z8→Int→Int→Z3→Int→Z8→Z30
abbrev qH4:=Int→Int→Int→Z3→Int→Z8→Z1
abbrev qHS:=Int→Bool→Int→Int→Z3→Int→Z8→Z38→Z38→Z40
abbrev qxr:=Z38→T→Int→Z40
abbrev qIj:=Int→Int→Int→Z3→Int→Z8→Z38→Z40
abbrev qB5:=Z38→Int→Z10
abbrev qka:=Z38→Int→Z8→Z23
abbrev qki:=Z38→Int→Int→Z8→Z23
abbrev qHD:=Z38→Int→Z38→Z44
abbrev qH2:=Int→Int→Z3→Int→Z8→Int→Z3→Int→Z8→Z8→Z30
abbrev qIt:=Int→Int→Z3→Int→Z8→Z8→Z23
abbrev qIG:=Z8→Int→Z1
abbrev qHK:=Int→Z8→Int→Z8→Z23
abbrev qIE:=Int→Int→Int→Z3→Int→Z8→Int→Z72→Int→Z10
abbrev qIw:=Option ((T × (Int × ((List (Int × T)) × Int))) × ((Int × T) × (Int)))
abbrev qCc:=Option (List (Int × T))
abbrev qIN:=Int→Int→Int→Z3→Int→Z8→Int→Z72→Int→Z72→qCc
abbrev qCj:=T→Int→Z10
abbrev qIF:=Int→Int→Z3→Int→Z8→Int→Z3→Int→Z8→Z30
abbrev qII:=Int→Int→Z3→Int→Z8→Int→Z72→Int→Int→Z3→Int→Z8→Int→Z72→Int→Z1
def qi4 (m:Nat) (a0:Int):Z1 :=
 let j1:Z1:=(let j2:Z1:=(let j3:Z1:=(cond (ieq a0 95) (some true) (some (ieq a0 35)));cond (ile 48 a0) (cond (ile a0 57) (some true) j3) j3);cond (ile 65 a0) (cond (ile a0 90) (some true) j2) j2);
 cond (ile 97 a0) (cond (ile a0 122) (some true) j1) j1
def qeT:Nat→Z2:=qf (λ _=>none) λ m _=>qi4 m
def qdD (m:Nat) (K1:Z4) (a0:Y8):Z1 :=
 cond (qB a0 []) (some false) (cond (ilt 24 (List.length a0)) (some false) (qa (qd a0 0) λ v1=>qa (qeT m ((UInt8.toNat v1:Nat):Int)) λ v2=>cond (qc v2) (some false)
 (qa (qd a0 0) λ v3=>let j1:Z1:=(qa (qd a0 0) λ v5=>cond (ieq ((UInt8.toNat v5:Nat):Int) 95) (some false) (qa (qd a0 0) λ v6=>cond (ieq ((UInt8.toNat v6:Nat):Int) 35) (some false)
 (K1 a0 (List.length a0) 0)));cond (ile 48 ((UInt8.toNat v3:Nat):Int)) (qa (qd a0 0) λ v4=>cond (ile ((UInt8.toNat v4:Nat):Int) 57) (some false) j1) j1)))
def qdG (m:Nat) (K1:Z4) (x0:List UInt8) (x1 x2:Int):Z1 :=
 cond (ilt x2 x1) (qa (qd x0 x2) λ v1=>qa (qeT m ((UInt8.toNat v1:Nat):Int)) λ v2=>cond (qc v2) (some false) (K1 x0 x1 (iw .i64 (qj x2 1)))) (some true)
def jF (m:Nat):=qN (λ _ _ _=>none) λ ih=>qdG m ih
def qaO:Nat→Z5:=qf (λ _=>none) λ m _=>qdD m (jF m m)
def qeB (m:Nat) (q_term_check:Z7) (K1:Z9) (a0:T) (a1 a2 a3:Int):Z6 :=
 let j1:Z6:=(qa (qaO m (T.name a0)) λ v1=>cond (qc v1) (some ((iw .i64 (qj a2 1),qkh a3 a1,()),(2,()))) (cond (ilt 8 (List.length (T.kids a0)))
 (some ((iw .i64 (qj a2 1),qkh a3 a1,()),(3,()))) (K1 a1 (T.kids a0) (List.length (T.kids a0)) 0 (iw .i64 (qj a2 1)) (qkh a3 a1))));let j2:Z6:=(some ((iw .i64 (qj a2 1),qkh a3 a1,()),(1,())));
 let j3:Z6:=(cond (ilt (T.sort a0) 0) j2 (cond (ilt 5 (T.sort a0)) j2 (cond (ilt 0 (List.length (T.kids a0))) j2 j1)));cond (ieq (T.kind a0) 1) j3 (cond (ieq (T.kind a0) 2) j3 (cond (ieq (T.kind a0) 3)
 (cond (qc (ieq (T.sort a0) 0)) j2 j1) j2))
def qem (m:Nat) (q_term_check:Z7) (K1:Z9) (x0:Int) (x1:List (T)) (x2 x3 x4 x5:Int):Z6 :=
 cond (ilt x3 x2) (qa (qd x1 x3) λ v1=>qa (q_term_check (re v1) (iw .i64 (qj x0 1)) x4 x5) λ v2=>cond (qc (ieq v2.2.1 0)) (some ((v2.1.1,v2.1.2.1,()),(v2.2.1,())))
 (K1 x0 x1 x2 (iw .i64 (qj x3 1)) v2.1.1 v2.1.2.1)) (some ((x4,x5,()),(0,())))
def yU (m:Nat) (q_term_check:Z7):=qN (λ _ _ _ _ _ _=>none) λ ih=>qem m q_term_check ih
def zF:Nat→Z7:=qf (λ _ _ _ _=>none) λ m q_term_check=>qeB m q_term_check (yU m q_term_check m)
def qhs (m:Nat) (a0:T):Z10 :=
 qa (zF m (re a0) 1 0 0) λ v1=>cond (qc (ieq v1.2.1 0)) (some v1.2.1) (cond (ilt 400 v1.1.1) (some 3) (cond (ilt 40 v1.1.2.1) (some 3) (some 0)))
def zu:Nat→Z11:=qf (λ _=>none) λ m _=>qhs m
def qbZ (m:Nat) (K1:Z14) (a0:Y8):Z12 :=
 qa (qgB 0) λ v1=>K1 a0 v1 (List.length v1) 0 [] 0 0 0
def qbY (m:Nat) (K1:Z14) (x0:List UInt8) (x1:List (Y8 × (Int × (Int × Int)))) (x2 x3:Int) (x4:List UInt8) (x5 x6 x7:Int):Z12 :=
 cond (ilt x3 x2) (qa (qd x1 x3) λ v1=>cond (qB v1.1 x0) (some (v1.1,(v1.2.1,(v1.2.2.1,v1.2.2.2)))) (K1 x0 x1 x2 (iw .i64 (qj x3 1)) x4 x5 x6 x7)) (some ([],(0,(0,0))))
def Qc (m:Nat):=qN (λ _ _ _ _ _ _ _ _=>none) λ ih=>qbY m ih
def qal:Nat→(Y8→Z12):=qf (λ _=>none) λ m _=>qbZ m (Qc m m)
def qcl (m:Nat) (q_theory_check:Z11) (K1:Z15) (K2:Z16) (a0:T):Z10 :=
 cond (qc (ieq (T.kind a0) 3)) (some 0) (qa (qal m (T.name a0)) λ v1=>cond (ieq v1.2.2.2 0) (some 10) (cond (ilt (List.length (T.kids a0)) v1.2.1) (some 6)
 (cond (ilt v1.2.2.1 (List.length (T.kids a0))) (some 6) (cond (qB (T.name a0) [115,107]) (K1 (T.kids a0) (List.length (T.kids a0)) 0 (T.kind a0) (T.name a0) (T.sort a0) (T.kids a0))
 (cond (qB (T.name a0) [115,104,107]) (K1 (T.kids a0) (List.length (T.kids a0)) 0 (T.kind a0) (T.name a0) (T.sort a0) (T.kids a0)) (cond (qB (T.name a0) [110,101,119]) (qa (qd (T.kids a0) 0) λ v2 =>
 cond (qc (ieq (T.kind v2) 2)) (some 10) (K2 (T.kids a0) (List.length (T.kids a0)) 0)) (K2 (T.kids a0) (List.length (T.kids a0)) 0)))))))
def qcq (m:Nat) (q_theory_check:Z11) (K1:Z15) (K2:Z16) (x0:List (T)) (x1 x2 x3:Int) (x4:List UInt8) (x5:Int) (x6:List (T)):Z10 :=
 cond (ilt x2 x1) (qa (qd x0 x2) λ v1=>cond (ieq (T.kind v1) 3) (some 10) (cond (qc (ieq (T.sort v1) 1)) (some 10) (K1 x0 x1 (iw .i64 (qj x2 1)) x3 x4 x5 x6))) (K2 x6 (List.length x6) 0)
def qcE (m:Nat) (q_theory_check:Z11) (K1:Z15) (K2:Z16) (x0:List (T)) (x1 x2:Int):Z10 :=
 cond (ilt x2 x1) (qa (qd x0 x2) λ v1=>qa (q_theory_check (re v1)) λ v2=>cond (qc (ieq v2 0)) (some v2) (K2 x0 x1 (iw .i64 (qj x2 1)))) (some 0)
def qM (m:Nat) (q_theory_check:Z11):=qN ((λ _ _ _ _ _ _ _=>none,λ _ _ _=>none)) λ ih=>(qcq m q_theory_check ih.1 ih.2,qcE m q_theory_check ih.1 ih.2)
def qz:Nat→Z11:=qf (λ _=>none) λ m q_theory_check=>qcl m q_theory_check (qM m q_theory_check m).1 (qM m q_theory_check m).2
def qfz (m:Nat) (a0:T):Z10 :=
 qa (zu m (re a0)) λ v1=>cond (qc (ieq v1 0)) (some v1) (qa (qz m (re a0)) λ v2=>some v2)
def qcJ:Nat→Z11:=qf (λ _=>none) λ m _=>qfz m
def qjj (m:Nat) (a0 a1:Int):Z10 :=
 cond (ilt a0 a1) (some (-1)) (cond (ilt a1 a0) (some 1) (some 0))
def qbz:Nat→(Int→Int→Z10):=qf (λ _ _=>none) λ m _=>qjj m
def qfv (m:Nat) (q_term_Size:Z11) (K1:Z17) (a0:T):Z10 :=
 K1 1 (T.kids a0) (List.length (T.kids a0)) 0
def qfb (m:Nat) (q_term_Size:Z11) (K1:Z17) (x0:Int) (x1:List (T)) (x2 x3:Int):Z10 :=
 cond (ilt x3 x2) (qa (qd x1 x3) λ v1=>qa (q_term_Size (re v1)) λ v2=>K1 (iw .i64 (qj x0 v2)) x1 x2 (iw .i64 (qj x3 1))) (some x0)
def qaT (m:Nat) (q_term_Size:Z11):=qN (λ _ _ _ _=>none) λ ih=>qfb m q_term_Size ih
def ji:Nat→Z11:=qf (λ _=>none) λ m q_term_Size=>qfv m q_term_Size (qaT m q_term_Size m)
def qco (m:Nat) (q_term_Compare:Z18) (K1:Z19) (a0 a1:T):Z10 :=
 qa (ji m (re a0)) λ v1=>qa (ji m (re a1)) λ v2=>qa (qbz m v1 v2) λ v3=>let j1:Z10:=(qa (qbz m (List.length (T.kids a0)) (List.length (T.kids a1))) λ v7 =>
 K1 v7 0 (T.kind a0) (T.name a0) (T.sort a0) (T.kids a0) (T.kind a1) (T.name a1) (T.sort a1) (T.kids a1));let j2:Z10:=(qa (qbz m (T.sort a0) (T.sort a1)) λ v6=>cond (ieq v6 0) j1 (K1 v6 0 (T.kind a0)
 (T.name a0) (T.sort a0) (T.kids a0) (T.kind a1) (T.name a1) (T.sort a1) (T.kids a1)));let j3:Z10:=(qa (strings_Compare 0 (T.name a0) (T.name a1)) λ v5 =>
 cond (ieq v5 0) j2 (cond (ieq v5 0) j1 (K1 v5 0 (T.kind a0) (T.name a0) (T.sort a0) (T.kids a0) (T.kind a1) (T.name a1) (T.sort a1) (T.kids a1))));cond (ieq v3 0) (qa (qbz m (T.kind a0) (T.kind a1)) λ v4 =>
 cond (ieq v4 0) j3 (cond (ieq v4 0) j2 (cond (ieq v4 0) j1 (K1 v4 0 (T.kind a0) (T.name a0) (T.sort a0) (T.kids a0) (T.kind a1) (T.name a1) (T.sort a1) (T.kids a1)))))
 (cond (ieq v3 0) j3 (cond (ieq v3 0) j2 (cond (ieq v3 0) j1 (K1 v3 0 (T.kind a0) (T.name a0) (T.sort a0) (T.kids a0) (T.kind a1) (T.name a1) (T.sort a1) (T.kids a1)))))
def qaF (m:Nat) (q_term_Compare:Z18) (K1:Z19) (x0 x1 x2:Int) (x3:List UInt8) (x4:Int) (x5:List (T)) (x6:Int) (x7:List UInt8) (x8:Int) (x9:List (T)):Z10 :=
 cond (ieq x0 0) (cond (ilt x1 (List.length x5)) (qa (qd x5 x1) λ v1=>qa (qd x9 x1) λ v2=>qa (q_term_Compare (re v1) (re v2)) λ v3=>K1 v3 (iw .i64 (qj x1 1)) x2 x3 x4 x5 x6 x7 x8 x9) (some x0))
 (some x0)
def jp (m:Nat) (q_term_Compare:Z18):=qN (λ _ _ _ _ _ _ _ _ _ _=>none) λ ih=>qaF m q_term_Compare ih
def qs:Nat→Z18:=qf (λ _ _=>none) λ m q_term_Compare=>qco m q_term_Compare (jp m q_term_Compare m)
def qgC (m:Nat) (a0 a1:T):Z1 :=
 qa (qs m (re a0) (re a1)) λ v1=>some (ieq v1 0)
def j9:Nat→Z20:=qf (λ _ _=>none) λ m _=>qgC m
def qiE (m:Nat) (a0:T) (a1:Y8):Z1 :=
 cond (ieq (T.kind a0) 3) (some (qB (T.name a0) a1)) (some false)
def yv:Nat→(T→Y8→Z1):=qf (λ _ _=>none) λ m _=>qiE m
def qdZ (m:Nat) (a0:T):Z21 :=
 qa (qd (T.kids a0) 0) λ v1=>let j1:Z21:=(some (re a0));let j2:Z21:=(qa (qd (T.kids v1) 0) λ v4=>some (re v4));let j3:Z21:=(cond (qB (T.name a0) [114,101,97,100])
 (qa (yv m (re v1) [115,105,103,110]) λ v24=>cond v24 j2 j1) j1);let j4:Z21:=(qa (yv m (re v1) [112,97,105,114]) λ v5=>cond v5 (qa (qd (T.kids v1) 1) λ v6 =>
 some (re v6)) j1);let j5:Z21:=(qa (yv m (re v1) [112,97,105,114]) λ v3=>cond v3 j2 j1);cond (ilt 1 (List.length (T.kids a0))) (qa (qd (T.kids a0) 1) λ v2 =>
 cond (qB (T.name a0) [102,115,116]) j5 (cond (qB (T.name a0) [115,110,100]) j4 (cond (qB (T.name a0) [100,101,99]) (qa (yv m (re v1) [101,110,99]) λ v7 =>
 cond v7 (qa (qd (T.kids v1) 1) λ v8=>qa (j9 m (re v8) (re v2)) λ v9=>cond v9 j2 j1) j1) (cond (qB (T.name a0) [97,100,101,99]) (qa (yv m (re v1) [97,101,110,99]) λ v11 =>
 cond v11 (qa (qd (T.kids v1) 1) λ v12=>qa (yv m (re v12) [112,107]) λ v13=>cond v13 (qa (qd (T.kids v1) 1) λ v14=>qa (qd (T.kids v14) 0) λ v15=>qa (j9 m (re v15)
 (re v2)) λ v16=>cond v16 j2 j1) j1) j1) (cond (qB (T.name a0) [111,112,101,110]) (qa (yv m (re v1) [115,105,103,110]) λ v18=>cond v18 (qa (yv m (re v2) [112,107]) λ v19 =>
 cond v19 (qa (qd (T.kids v1) 1) λ v20=>qa (qd (T.kids v2) 0) λ v21=>qa (j9 m (re v20) (re v21)) λ v22=>cond v22 j2 j1) j1) j1) j3)))))
 (cond (qB (T.name a0) [102,115,116]) j5 (cond (qB (T.name a0) [115,110,100]) j4 (cond (qB (T.name a0) [100,101,99]) (qa (yv m (re v1) [101,110,99]) λ v30 =>
 cond v30 (qa (qd (T.kids v1) 1) λ v31=>qa (j9 m (re v31) (T.mk 0 [] 0 [])) λ v32=>cond v32 j2 j1) j1) (cond (qB (T.name a0) [97,100,101,99])
 (qa (yv m (re v1) [97,101,110,99]) λ v34=>cond v34 (qa (qd (T.kids v1) 1) λ v35=>qa (yv m (re v35) [112,107]) λ v36=>cond v36 (qa (qd (T.kids v1) 1) λ v37 =>
 qa (qd (T.kids v37) 0) λ v38=>qa (j9 m (re v38) (T.mk 0 [] 0 [])) λ v39=>cond v39 j2 j1) j1) j1) (cond (qB (T.name a0) [111,112,101,110])
 (qa (yv m (re v1) [115,105,103,110]) λ v41=>cond v41 (qa (yv m (T.mk 0 [] 0 []) [112,107]) λ v42=>cond v42 (qa (qd (T.kids v1) 1) λ v43=>none) j1) j1) j3)))))
def JS:Nat→Z22:=qf (λ _=>none) λ m _=>qdZ m
def yz (m:Nat) (K1:Z24) (K2:Z25) (a0:List TL):Z23 :=
 K1 a0 0 a0 (List.length a0) 0
def yw (m:Nat) (K1:Z24) (K2:Z25) (x0:List (TL)) (x1:Int) (x2:List (TL)) (x3 x4:Int):Z23 :=
 cond (ilt x4 x3) (qa (qd x2 x4) λ v1=>cond (ilt (iw .i64 (qj x1 (List.length v1))) 0) none (K1 x0 (iw .i64 (qj x1 (List.length v1))) x2 x3 (iw .i64 (qj x4 1))))
 (qa (yt 0 x1) λ v2=>K2 x0 (List.length x0) 0 v2.2.1)
def yB (m:Nat) (K1:Z24) (K2:Z25) (x0:List (TL)) (x1 x2:Int) (x3:List (T)):Z23 :=
 cond (ilt x2 x1) (qa (qd x0 x2) λ v1=>cond (yd (List.length x3+List.length v1) 56) (K2 x0 x1 (iw .i64 (qj x2 1)) (x3++v1)) none) (some x3)
def ql (m:Nat):=qN ((λ _ _ _ _ _=>none,λ _ _ _ _=>none)) λ ih=>(yw m ih.1 ih.2,yB m ih.1 ih.2)
def zc:Nat→((List TL)→Z23):=qf (λ _=>none) λ m _=>yz m (ql m m).1 (ql m m).2
def qfx (m:Nat) (K1:Z16) (a0 a1:TL):Z10 :=
 cond (ilt 200 (List.length a0)) (some 3) (qa (zc m [a0,a1]) λ v1=>K1 v1 (List.length v1) 0)
def qfA (m:Nat) (K1:Z16) (x0:List (T)) (x1 x2:Int):Z10 :=
 cond (ilt x2 x1) (qa (qd x0 x2) λ v1=>qa (zu m (re v1)) λ v2=>cond (qc (ieq v2 0)) (some v2) (K1 x0 x1 (iw .i64 (qj x2 1)))) (some 0)
def qaR (m:Nat):=qN (λ _ _ _=>none) λ ih=>qfA m ih
def qgS:Nat→(TL→TL→Z10):=qf (λ _ _=>none) λ m _=>qfx m (qaR m m)
def qgN (m:Nat) (K1:Z26) (a0 a1:TL):Z23 :=
 K1 a0 a1 []
def qgL (m:Nat) (K1:Z26) (x0 x1 x2:List (T)):Z23 :=
 let j1:Z23:=(cond (yd (List.length x2+List.length x0) 56) (cond (yd (List.length (x2++x0)+List.length x1) 56) (some ((x2++x0)++x1)) none) none);cond (ilt 0 (List.length x0))
 (cond (ilt 0 (List.length x1)) (qa (qd x0 0) λ v1=>qa (qd x1 0) λ v2=>qa (qs m (re v1) (re v2)) λ v3=>cond (ilt v3 0) (qa (qd x0 0) λ v4=>cond (yd (List.length x2+1) 56)
 (cond (inb (List.length x0) (List.length x0)) (cond (inb 1 (Int.toNat (List.length x0))) (K1 (yX x0 1 (List.length x0)) x1 (x2++[re v4])) none) none) none) (cond (ilt 0 v3) (qa (qd x1 0) λ v5 =>
 cond (yd (List.length x2+1) 56) (cond (inb (List.length x1) (List.length x1)) (cond (inb 1 (Int.toNat (List.length x1))) (K1 x0 (yX x1 1 (List.length x1)) (x2++[re v5])) none) none) none)
 (cond (inb (List.length x0) (List.length x0)) (cond (inb 1 (Int.toNat (List.length x0))) (cond (inb (List.length x1) (List.length x1)) (cond (inb 1 (Int.toNat (List.length x1))) (K1 (yX x0 1 (List.length x0))
 (yX x1 1 (List.length x1)) x2) none) none) none) none))) j1) j1
def qbD (m:Nat):=qN (λ _ _ _=>none) λ ih=>qgL m ih
def qga:Nat→(TL→TL→Z23):=qf (λ _ _=>none) λ m _=>qgN m (qbD m m)
def qcn (m:Nat) (q_xor_summands:Z27) (K1:Z28) (a0:T):Z23 :=
 let j1:Z23:=(cond (ieq (T.kind a0) 3) (cond (qB (T.name a0) [120,111,114]) (K1 [] (T.kids a0) (List.length (T.kids a0)) 0) (some [re a0])) (some [re a0]));cond (ieq (T.kind a0) 3)
 (cond (qB (T.name a0) [122,101,114,111]) (cond (ieq (List.length (T.kids a0)) 0) (some []) j1) j1) j1
def qcD (m:Nat) (q_xor_summands:Z27) (K1:Z28) (x0 x1:List (T)) (x2 x3:Int):Z23 :=
 cond (ilt x3 x2) (qa (qd x1 x3) λ v1=>qa (q_xor_summands (re v1)) λ v2=>qa (qga m x0 v2) λ v3=>K1 v3 x1 x2 (iw .i64 (qj x3 1))) (some x0)
def jO (m:Nat) (q_xor_summands:Z27):=qN (λ _ _ _ _=>none) λ ih=>qcD m q_xor_summands ih
def zO:Nat→Z27:=qf (λ _=>none) λ m q_xor_summands=>qcn m q_xor_summands (jO m q_xor_summands m)
def qeC (m:Nat) (q_term_clone:Z22) (K1:Z29) (a0:T):Z21 :=
 K1 (T.kids a0) (List.length (T.kids a0)) 0 (T.kind a0) (T.name a0) (T.sort a0) 0 [] 0 [] []
def qeu (m:Nat) (q_term_clone:Z22) (K1:Z29) (x0:List (T)) (x1 x2 x3:Int) (x4:List UInt8) (x5 x6:Int) (x7:List UInt8) (x8:Int) (x9 x10:List (T)):Z21 :=
 cond (ilt x2 x1) (qa (qd x0 x2) λ v1=>qa (q_term_clone (re v1)) λ v2=>cond (yd (List.length x9+1) 56) (K1 x0 x1 (iw .i64 (qj x2 1)) x3 x4 x5 x6 x7 x8 (x9++[re v2]) x10) none)
 (some (T.mk x3 x4 x5 x9))
def JU (m:Nat) (q_term_clone:Z22):=qN (λ _ _ _ _ _ _ _ _ _ _ _=>none) λ ih=>qeu m q_term_clone ih
def yg:Nat→Z22:=qf (λ _=>none) λ m q_term_clone=>qeC m q_term_clone (JU m q_term_clone m)
def qcp (m:Nat) (K1:Z31) (a0:T) (a1:List Int) (a2:T):Z30 :=
 qa (yg m (re a0)) λ v1=>K1 a1 (List.length a1) 0 (T.kind a2) (T.name a2) (T.sort a2) (T.kids a2) 0 [] 0 (T.kind v1) (T.name v1) (T.sort v1) (T.kids v1) []
def qfP (m:Nat) (K1:Z31) (x0:List (Int)) (x1 x2 x3:Int) (x4:List UInt8) (x5:Int) (x6:List (T)) (x7:Int) (x8:List UInt8) (x9 x10:Int) (x11:List UInt8) (x12:Int) (x13 x14:List (T)):Z30 :=
 cond (ilt x2 x1) (qa (qd x0 x2) λ v1=>cond (ilt v1 0) (some (T.mk 0 [] 0 [],7)) (cond (ile (List.length x13) v1) (some (T.mk 0 [] 0 [],7)) (qa (qd x13 v1) λ v2=>none)))
 (qa (yg m (T.mk x3 x4 x5 x6)) λ v3=>some (re v3,0))
def JR (m:Nat):=qN (λ _ _ _ _ _ _ _ _ _ _ _ _ _ _ _=>none) λ ih=>qfP m ih
def qc8:Nat→(T→(List Int)→T→Z30):=qf (λ _ _ _=>none) λ m _=>qcp m (JR m m)
def qh6 (m:Nat) (q_xor_own:Z32) (K1:Z33) (a0:TL):Z23 :=
 cond (qBn (List.length a0) 56) (K1 a0 (List.length a0) 0 (List.replicate (Int.toNat (List.length a0)) (T.mk 0 [] 0 []):List (T))) none
def qhX (m:Nat) (q_xor_own:Z32) (K1:Z33) (x0:List (T)) (x1 x2:Int) (x3:List (T)):Z23 :=
 cond (ilt x2 x1) (qa (qd x0 x2) λ v1=>qa (qc8 m (re v1) [] (re v1)) λ v2=>qa (qd x3 x2) λ v3=>qa (q_xor_own (T.kids v1)) λ v4=>qa (qd (jH x3 x2 (re v2.1)) x2) λ v5 =>
 cond (ieq (List.length (T.kids v1)) 0) (qa (qd (jH (jH x3 x2 (re v2.1)) x2 (T.mk (T.kind v5) (T.name v5) (T.sort v5) v4)) x2) λ v6=>K1 x0 x1 (iw .i64 (qj x2 1))
 (jH (jH (jH x3 x2 (re v2.1)) x2 (T.mk (T.kind v5) (T.name v5) (T.sort v5) v4)) x2 (T.mk (T.kind v6) (T.name v6) (T.sort v6) []))) (K1 x0 x1 (iw .i64 (qj x2 1)) (jH (jH x3 x2 (re v2.1)) x2 (T.mk (T.kind v5)
 (T.name v5) (T.sort v5) v4)))) (some x3)
def qda (m:Nat) (q_xor_own:Z32):=qN (λ _ _ _ _=>none) λ ih=>qhX m q_xor_own ih
def QD:Nat→Z32:=qf (λ _=>none) λ m q_xor_own=>qh6 m q_xor_own (qda m q_xor_own m)
def qhS (m:Nat) (K1:Z34) (a0:TL):Z30 :=
 qa (qgS m a0 []) λ v1=>cond (qc (ieq v1 0)) (some (T.mk 0 [] 0 [],v1)) (K1 [] a0 (List.length a0) 0 0 [] 0 [])
def qia (m:Nat) (K1:Z34) (x0 x1:List (T)) (x2 x3 x4:Int) (x5:List UInt8) (x6:Int) (x7:List (T)):Z30 :=
 cond (ilt x3 x2) (qa (qd x1 x3) λ v1=>qa (zO m (re v1)) λ v2=>qa (qga m x0 v2) λ v3=>K1 v3 x1 x2 (iw .i64 (qj x3 1)) x4 x5 x6 x7) (qa (QD m x0) λ v4=>let j1:Z30 :=
 (some (T.mk 0 [] 0 [],3));cond (ieq (List.length v4) 0) (qa (zu m (T.mk 3 [122,101,114,111] 0 [])) λ v5=>cond (qc (ieq v5 0)) j1 (some (T.mk 3 [122,101,114,111] 0 [],0)))
 (cond (ieq (List.length v4) 1) (qa (qd v4 0) λ v6=>qa (zu m (re v6)) λ v7=>cond (qc (ieq v7 0)) j1 (some (re v6,0))) (qa (zu m (T.mk 3 [120,111,114] 0 v4)) λ v8 =>
 cond (qc (ieq v8 0)) j1 (some (T.mk 3 [120,111,114] 0 v4,0)))))
def qcV (m:Nat):=qN (λ _ _ _ _ _ _ _ _=>none) λ ih=>qia m ih
def qkx:Nat→(TL→Z30):=qf (λ _=>none) λ m _=>qhS m (qcV m m)
def qdj (m:Nat) (a0:T):Z1 :=
 cond (ieq (T.kind a0) 3) (cond (qB (T.name a0) [109,117,108]) (some true) (cond (qB (T.name a0) [105,110,118]) (some true) (some (qB (T.name a0) [111,110,101])))) (some false)
def Jm:Nat→Z35:=qf (λ _=>none) λ m _=>qdj m
def qa0 (m:Nat) (q_exponent_clone:Z22) (K1:Z36) (a0:T):Z21 :=
 qa (zC 0 (T.kids a0)) λ v1=>K1 (List.length v1.2.1) 0 (T.kind a0) (T.name a0) (T.sort a0) 0 [] 0 v1.2.1 []
def qa8 (m:Nat) (q_exponent_clone:Z22) (K1:Z36) (x0 x1 x2:Int) (x3:List UInt8) (x4 x5:Int) (x6:List UInt8) (x7:Int) (x8 x9:List (T)):Z21 :=
 cond (ilt x1 x0) (qa (qd x8 x1) λ v1=>qa (q_exponent_clone (re v1)) λ v2=>qa (qd x8 x1) λ v3=>K1 x0 (iw .i64 (qj x1 1)) x2 x3 x4 x5 x6 x7 (jH x8 x1 (re v2)) x9) (some (T.mk x2 x3 x4 x8))
def jM (m:Nat) (q_exponent_clone:Z22):=qN (λ _ _ _ _ _ _ _ _ _ _=>none) λ ih=>qa8 m q_exponent_clone ih
def q9:Nat→Z22:=qf (λ _=>none) λ m q_exponent_clone=>qa0 m q_exponent_clone (jM m q_exponent_clone m)
def qbI (m:Nat) (a0:T × Int) (a1:T):Z10 :=
 qa (qs m (re a0.1) (re a1)) λ v1=>some v1
def Qp:Nat→((T × Int)→T→Z10):=qf (λ _ _=>none) λ m _=>qbI m
def qE (m:Nat) (K1:Z39) (a0:List (T × Int)) (a1:T):Z37 :=
 K1 a0 (List.length a0) 0 (List.length a0) (T.kind a1) (T.name a1) (T.sort a1) (T.kids a1)
def qD (m:Nat) (K1:Z39) (x0:List (T × Int)) (x1 x2 x3 x4:Int) (x5:List UInt8) (x6:Int) (x7:List (T)):Z37 :=
 cond (ilt x2 x3) (qa (qd x0 (iw .i64 (qmh .u64 (iw .u64 (iw .i64 (qj x2 x3))) 1))) λ v1=>qa (Qp m (re v1.1,v1.2) (T.mk x4 x5 x6 x7)) λ v2=>cond (ilt v2 0)
 (K1 x0 x1 (iw .i64 (qj (iw .i64 (qmh .u64 (iw .u64 (iw .i64 (qj x2 x3))) 1)) 1)) x3 x4 x5 x6 x7) (K1 x0 x1 x2 (iw .i64 (qmh .u64 (iw .u64 (iw .i64 (qj x2 x3))) 1)) x4 x5 x6 x7)) (cond (ilt x2 x1)
 (qa (qd x0 x2) λ v3=>qa (Qp m (re v3.1,v3.2) (T.mk x4 x5 x6 x7)) λ v4=>some (x2,ieq v4 0)) (some (x2,false)))
def qn (m:Nat):=qN (λ _ _ _ _ _ _ _ _=>none) λ ih=>qD m ih
def qx:Nat→(Z38→T→Z37):=qf (λ _ _=>none) λ m _=>qE m (qn m m)
def qcK (m:Nat) (a0:List (T × Int)) (a1:T × Int):Z40 :=
 qa (qx m a0 (re a1.1)) λ v1=>cond (qc v1.2) (qa (q9 m (re a1.1)) λ v2 =>
 qa (zj 0 a0 v1.1 [(re v2,a1.2)]) λ v3=>some ((()),(v3.2.1,()))) (qa (qd a0 v1.1) λ v4=>qa (qd a0 v1.1) λ v5 =>
 qa (qd (jH a0 v1.1 (re v5.1,iw .i64 (qj v4.2 a1.2))) v1.1) λ v6=>cond (ieq v6.2 0)
 (qa (zl 0 (jH a0 v1.1 (re v5.1,iw .i64 (qj v4.2 a1.2))) v1.1 (iw .i64 (qj v1.1 1))) λ v7=>some ((()),(v7.2.1,())))
 (some ((()),(jH a0 v1.1 (re v5.1,iw .i64 (qj v4.2 a1.2)),()))))
def Jn:Nat→(Z38→(T × Int)→Z40):=qf (λ _ _=>none) λ m _=>qcK m
def qab (m:Nat) (q_exponent_collect:Z42) (K1:Z43) (a0:List (T × Int)) (a1:T) (a2:Int):Z41 :=
 qa (Jm m (re a1)) λ v1=>cond (qc v1) (qa (Jn m a0 (re a1,a2)) λ v2=>some ((()),(v2.2.1,true,()))) (let j1:Z41:=(some ((()),([],false,())));let j2:Z41 :=
 (let j3:Z41:=(let j4:Z41:=(cond (qB (T.name a1) [105,110,118]) (K1 (iw .i64 (jK 0 a2)) (T.kids a1) (List.length (T.kids a1)) 0 a0) (K1 a2 (T.kids a1) (List.length (T.kids a1)) 0 a0));
 cond (qB (T.name a1) [109,117,108]) (cond (ilt (List.length (T.kids a1)) 2) j1 j4) j4);cond (qB (T.name a1) [105,110,118]) (cond (qc (ieq (List.length (T.kids a1)) 1)) j1 j3) j3);
 cond (qB (T.name a1) [111,110,101]) (cond (qc (ieq (List.length (T.kids a1)) 0)) j1 j2) j2)
def qad (m:Nat) (q_exponent_collect:Z42) (K1:Z43) (x0:Int) (x1:List (T)) (x2 x3:Int) (x4:List (T × Int)):Z41 :=
 cond (ilt x3 x2) (qa (qd x1 x3) λ v1=>qa (q_exponent_collect x4 (re v1) x0) λ v2=>cond (qc v2.2.2.1) (some ((()),([],false,()))) (K1 x0 x1 x2 (iw .i64 (qj x3 1)) v2.2.1))
 (some ((()),(x4,true,())))
def yN (m:Nat) (q_exponent_collect:Z42):=qN (λ _ _ _ _ _=>none) λ ih=>qad m q_exponent_collect ih
def qY:Nat→Z42:=qf (λ _ _ _=>none) λ m q_exponent_collect=>qab m q_exponent_collect (yN m q_exponent_collect m)
def qgw (m:Nat) (a0:T):Z44 :=
 qa (zu m (re a0)) λ v1=>cond (qc (ieq v1 0)) (some ([],v1)) (qa (qY m [] (re a0) 1) λ v2=>cond (qc v2.2.2.1) (some ([],6)) (cond (ilt 200 (List.length v2.2.1)) (some ([],3))
 (some (v2.2.1,0))))
def JO:Nat→Z45:=qf (λ _=>none) λ m _=>qgw m
def qa5 (m:Nat) (K1:Z46) (a0:List (T × Int)):Z10 :=
 cond (ilt 200 (List.length a0)) (some 3) (K1 a0 a0 (List.length a0) 0)
def qba (m:Nat) (K1:Z46) (x0 x1:List (T × Int)) (x2 x3:Int):Z10 :=
 cond (ilt x3 x2) (qa (qd x1 x3) λ v1=>qa (zu m (re v1.1)) λ v2=>cond (qc (ieq v2 0)) (some v2) (qa (Jm m (re v1.1)) λ v3=>cond v3 (some 1) (cond (ieq v1.2 0) (some 7)
 (cond (ilt v1.2 (-1000)) (some 7) (cond (ilt 1000 v1.2) (some 7) (cond (ilt 0 x3) (qa (qd x0 (iw .i64 (jK x3 1))) λ v4=>qa (qs m (re v4.1) (re v1.1)) λ v5=>cond (ile 0 v5) (some 5)
 (K1 x0 x1 x2 (iw .i64 (qj x3 1)))) (K1 x0 x1 x2 (iw .i64 (qj x3 1))))))))) (some 0)
def jg (m:Nat):=qN (λ _ _ _ _=>none) λ ih=>qba m ih
def QQ:Nat→Z47:=qf (λ _=>none) λ m _=>qa5 m (jg m m)
def qrR (m:Nat) (a0:Y8) (a1:TL):Z21 :=
 some (T.mk 3 a0 0 a1)
def qbj:Nat→Z48:=qf (λ _ _=>none) λ m _=>qrR m
def qbR (m:Nat) (K1:Z49) (K2 K3:Z50) (a0:List (T × Int)):Z30 :=
 qa (QQ m a0) λ v1=>cond (qc (ieq v1 0)) (some (T.mk 0 [] 0 [],v1)) (K1 a0 (List.length a0) 0 0 [] 0 [] [] [])
def qbQ (m:Nat) (K1:Z49) (K2 K3:Z50) (x0:List (T × Int)) (x1 x2 x3:Int) (x4:List UInt8) (x5:Int) (x6 x7 x8:List (T)):Z30 :=
 let j1:Z30:=(some (T.mk 0 [] 0 [],3));cond (ilt x2 x1) (qa (qd x0 x2) λ v1=>cond (ilt 8 v1.2) j1 (cond (ilt v1.2 (-8)) j1 (K2 x0 x1 x2 v1.2 0 x3 x4 x5 (T.kind v1.1) (T.name v1.1) (T.sort v1.1)
 (T.kids v1.1) v1.2 x6 x7 x8))) (qa (zc m [x7,x8]) λ v2=>cond (ilt 8 (List.length v2)) j1 (qa (qbj m [109,117,108] v2) λ v3=>cond (ieq (List.length v2) 0)
 (qa (qbj m [111,110,101] []) λ v4=>qa (zu m (re v4)) λ v5=>cond (qc (ieq v5 0)) (some (T.mk 0 [] 0 [],v5)) (some (re v4,0))) (cond (ieq (List.length v2) 1)
 (qa (qd v2 0) λ v6=>qa (zu m (re v6)) λ v7=>cond (qc (ieq v7 0)) (some (T.mk 0 [] 0 [],v7)) (some (re v6,0))) (qa (zu m (re v3)) λ v8=>cond (qc (ieq v8 0))
 (some (T.mk 0 [] 0 [],v8)) (some (re v3,0))))))
def qbO (m:Nat) (K1:Z49) (K2 K3:Z50) (x0:List (T × Int)) (x1 x2 x3 x4 x5:Int) (x6:List UInt8) (x7 x8:Int) (x9:List UInt8) (x10:Int) (x11:List (T)) (x12:Int) (x13 x14 x15:List (T)):Z30 :=
 cond (ilt x4 x3) (qa (q9 m (T.mk x8 x9 x10 x11)) λ v1=>cond (yd (List.length x14+1) 56) (K2 x0 x1 x2 x3 (iw .i64 (qj x4 1)) x5 x6 x7 x8 x9 x10 x11 x12 x13 (x14++[re v1]) x15) none)
 (K3 x0 x1 x2 (iw .i64 (jK 0 x12)) 0 x5 x6 x7 x8 x9 x10 x11 x12 x13 x14 x15)
def qbJ (m:Nat) (K1:Z49) (K2 K3:Z50) (x0:List (T × Int)) (x1 x2 x3 x4 x5:Int) (x6:List UInt8) (x7 x8:Int) (x9:List UInt8) (x10:Int) (x11:List (T)) (x12:Int) (x13 x14 x15:List (T)):Z30 :=
 cond (ilt x4 x3) (qa (q9 m (T.mk x8 x9 x10 x11)) λ v1=>qa (qbj m [105,110,118] [re v1]) λ v2=>cond (yd (List.length x15+1) 56)
 (K3 x0 x1 x2 x3 (iw .i64 (qj x4 1)) x5 x6 x7 x8 x9 x10 x11 x12 x13 x14 (x15++[re v2])) none) (K1 x0 x1 (iw .i64 (qj x2 1)) x5 x6 x7 x13 x14 x15)
def qt (m:Nat):=qN ((λ _ _ _ _ _ _ _ _ _=>none,λ _ _ _ _ _ _ _ _ _ _ _ _ _ _ _ _=>none,λ _ _ _ _ _ _ _ _ _ _ _ _ _ _ _ _=>none)) λ ih=>(qbQ m ih.1 ih.2.1 ih.2.2,qbO m ih.1 ih.2.1 ih.2.2,qbJ m ih.1 ih.2.1 ih.2.2)
def jE:Nat→Z51:=qf (λ _=>none) λ m _=>qbR m (qt m m).1 (qt m m).2.1 (qt m m).2.2
def qav (m:Nat) (K1:Z52) (a0:List (T × Int)):Z40 :=
 K1 a0 (List.length a0) 0 []
def qaw (m:Nat) (K1:Z52) (x0:List (T × Int)) (x1 x2:Int) (x3:List (T × Int)):Z40 :=
 cond (ilt x2 x1) (qa (qd x0 x2) λ v1=>qa (q9 m (re v1.1)) λ v2=>cond (yd (List.length x3+1) 64) (K1 x0 x1 (iw .i64 (qj x2 1)) (x3++[(re v2,v1.2)])) none) (some ((()),(x3,())))
def ju (m:Nat):=qN (λ _ _ _ _=>none) λ ih=>qaw m ih
def qaA:Nat→(Z38→Z40):=qf (λ _=>none) λ m _=>qav m (ju m m)
def qbU (m:Nat) (a0:T × Int):Z1 :=
 cond (ilt a0.2 (-1000)) (some true) (some (ilt 1000 a0.2))
def Jx:Nat→((T × Int)→Z1):=qf (λ _=>none) λ m _=>qbU m
def zm (m:Nat) (K1:Z53) (a0:List (T × Int)):Z10 :=
 K1 a0 (List.length a0) 0
def qO (m:Nat) (K1:Z53) (x0:List (T × Int)) (x1 x2:Int):Z10 :=
 cond (ilt x2 x1) (qa (qd x0 x2) λ v1=>qa (Jx m (re v1.1,v1.2)) λ v2=>cond v2 (some x2) (K1 x0 x1 (iw .i64 (qj x2 1)))) (some (-1))
def qw (m:Nat):=qN (λ _ _ _=>none) λ ih=>qO m ih
def qW:Nat→Z47:=qf (λ _=>none) λ m _=>zm m (qw m m)
def zK (m:Nat) (a0:List (T × Int)):Z1 :=
 qa (qW m a0) λ v1=>some (ile 0 v1)
def qQ:Nat→(Z38→Z1):=qf (λ _=>none) λ m _=>zK m
def qcO (m:Nat) (a0:List (T × Int)):Z44 :=
 qa (qQ m a0) λ v1=>cond v1 (some ([],7)) (cond (ilt 200 (List.length a0)) (some ([],3)) (some (a0,0)))
def qaI:Nat→(Z38→Z44):=qf (λ _=>none) λ m _=>qcO m
def qcz (m:Nat) (K1:Z54) (a0 a1:List (T × Int)):Z44 :=
 qa (QQ m a0) λ v1=>cond (qc (ieq v1 0)) (some ([],v1)) (qa (QQ m a1) λ v2=>cond (qc (ieq v2 0)) (some ([],v2)) (qa (qaA m a0) λ v3 =>
 K1 a1 (List.length a1) 0 v3.2.1))
def qcs (m:Nat) (K1:Z54) (x0:List (T × Int)) (x1 x2:Int) (x3:List (T × Int)):Z44 :=
 cond (ilt x2 x1) (qa (qd x0 x2) λ v1=>qa (Jn m x3 (re v1.1,v1.2)) λ v2=>K1 x0 x1 (iw .i64 (qj x2 1)) v2.2.1) (qa (qaI m x3) λ v3=>some (v3.1,v3.2))
def QF (m:Nat):=qN (λ _ _ _ _=>none) λ ih=>qcs m ih
def qc9:Nat→Z55:=qf (λ _ _=>none) λ m _=>qcz m (QF m m)
def qwd (m:Nat) (a0:Y8) (a1:TL):Z21 :=
 some (T.mk 3 a0 0 a1)
def qdk:Nat→Z48:=qf (λ _ _=>none) λ m _=>qwd m
def qe8 (m:Nat) (a0 a1:T):Z30 :=
 qa (JO m (re a1)) λ v1=>cond (qc (ieq v1.2 0)) (some (T.mk 0 [] 0 [],v1.2)) (qa (yv m (re a0) [101,120,112]) λ v2=>cond v2 (qa (qd (T.kids a0) 1) λ v3 =>
 qa (JO m (re v3)) λ v4=>cond (qc (ieq v4.2 0)) (some (T.mk 0 [] 0 [],v4.2)) (qa (qc9 m v4.1 v1.1) λ v5=>cond (qc (ieq v5.2 0)) (some (T.mk 0 [] 0 [],v5.2))
 (qa (qd (T.kids a0) 0) λ v6=>cond (ieq (List.length v5.1) 0) (some (re v6,0)) (qa (jE m v5.1) λ v7=>cond (qc (ieq v7.2 0)) (some (T.mk 0 [] 0 [],v7.2))
 (qa (qdk m [101,120,112] [re v6,re v7.1]) λ v8=>some (re v8,0)))))) (cond (ieq (List.length v1.1) 0) (some (re a0,0)) (qa (jE m v1.1) λ v9=>cond (qc (ieq v9.2 0))
 (some (T.mk 0 [] 0 [],v9.2)) (qa (qdk m [101,120,112] [re a0,re v9.1]) λ v10=>some (re v10,0)))))
def qcP:Nat→Z56:=qf (λ _ _=>none) λ m _=>qe8 m
def qbB (m:Nat) (q_theory_normal:Z57) (K1:Z58) (a0:T):Z30 :=
 cond (qc (ieq (T.kind a0) 3)) (some (re a0,0)) (K1 (T.kids a0) (List.length (T.kids a0)) 0 (T.kind a0) (T.name a0) (T.sort a0) (T.kids a0) 0 [] 0 3 (T.name a0) 0 [] [])
def qbM (m:Nat) (q_theory_normal:Z57) (K1:Z58) (x0:List (T)) (x1 x2 x3:Int) (x4:List UInt8) (x5:Int) (x6:List (T)) (x7:Int) (x8:List UInt8) (x9 x10:Int) (x11:List UInt8) (x12:Int) (x13 x14:List (T)):Z30 :=
 cond (ilt x2 x1) (qa (qd x0 x2) λ v1=>qa (q_theory_normal (re v1)) λ v2=>cond (qc (ieq v2.2 0)) (some (T.mk 0 [] 0 [],v2.2)) (cond (yd (List.length x14+1) 56)
 (K1 x0 x1 (iw .i64 (qj x2 1)) x3 x4 x5 x6 x7 x8 x9 x10 x11 x12 x13 (x14++[re v2.1])) none)) (let j1:Z30:=(qa (JS m (T.mk x10 x11 x12 x14)) λ v3=>some (re v3,0));
 cond (qB x4 [102,115,116]) j1 (cond (qB x4 [115,110,100]) j1 (cond (qB x4 [100,101,99]) j1 (cond (qB x4 [97,100,101,99]) j1 (cond (qB x4 [111,112,101,110]) j1 (cond (qB x4 [114,101,97,100]) j1 (cond (qB x4 [120,111,114])
 (qa (qkx m x14) λ v9=>some (re v9.1,v9.2)) (let j2:Z30:=(qa (JO m (T.mk x10 x11 x12 x14)) λ v10=>cond (qc (ieq v10.2 0)) (some (T.mk 0 [] 0 [],v10.2))
 (qa (jE m v10.1) λ v11=>some (re v11.1,v11.2)));cond (qB x4 [109,117,108]) j2 (cond (qB x4 [105,110,118]) j2 (cond (qB x4 [111,110,101]) j2 (cond (qB x4 [101,120,112])
 (qa (qd x14 0) λ v16=>qa (qd x14 1) λ v17=>qa (qcP m (re v16) (re v17)) λ v18=>some (re v18.1,v18.2)) (some (T.mk x10 x11 x12 x14,0)))))))))))))
def Qe (m:Nat) (q_theory_normal:Z57):=qN (λ _ _ _ _ _ _ _ _ _ _ _ _ _ _ _=>none) λ ih=>qbM m q_theory_normal ih
def zM:Nat→Z57:=qf (λ _=>none) λ m q_theory_normal=>qbB m q_theory_normal (Qe m q_theory_normal m)
def qeD (m:Nat) (a0:T):Z30 :=
 qa (qcJ m (re a0)) λ v1=>cond (qc (ieq v1 0)) (some (T.mk 0 [] 0 [],v1)) (qa (zM m (re a0)) λ v2=>cond (ieq v2.2 0) (qa (zu m (re v2.1)) λ v3=>cond (qc (ieq v3 0))
 (some (T.mk 0 [] 0 [],v3)) (some (re v2.1,0))) (cond (qc (ieq v2.2 0)) (some (T.mk 0 [] 0 [],v2.2)) (some (re v2.1,0))))
def qb3:Nat→Z57:=qf (λ _=>none) λ m _=>qeD m
def qd5 (m:Nat) (a0:Y8):Z1 :=
 qa (qal m a0) λ v1=>some (qc (ieq v1.2.2.2 3))
def qbn:Nat→Z5:=qf (λ _=>none) λ m _=>qd5 m
def Jh (m:Nat) (q_theory_every_of_94:Z35) (K1:Z59) (a0:T):Z1 :=
 cond (ieq (T.kind a0) 3) (qa (qbn m (T.name a0)) λ v1=>cond (qc v1) (some false) (K1 (T.kids a0) (List.length (T.kids a0)) 0)) (K1 (T.kids a0) (List.length (T.kids a0)) 0)
def Ji (m:Nat) (q_theory_every_of_94:Z35) (K1:Z59) (x0:List (T)) (x1 x2:Int):Z1 :=
 cond (ilt x2 x1) (qa (qd x0 x2) λ v1=>qa (q_theory_every_of_94 (re v1)) λ v2=>cond (qc v2) (some false) (K1 x0 x1 (iw .i64 (qj x2 1)))) (some true)
def yk (m:Nat) (q_theory_every_of_94:Z35):=qN (λ _ _ _=>none) λ ih=>Ji m q_theory_every_of_94 ih
def qH:Nat→Z35:=qf (λ _=>none) λ m q_theory_every_of_94=>Jh m q_theory_every_of_94 (yk m q_theory_every_of_94 m)
def qfS (m:Nat) (a0:T):Z1 :=
 qa (qb3 m (re a0)) λ v1=>cond (ieq v1.2 0) (qa (j9 m (re v1.1) (re a0)) λ v2=>cond v2 (qa (qH m (re a0)) λ v3=>some v3) (some false)) (some false)
def qdb:Nat→Z35:=qf (λ _=>none) λ m _=>qfS m
def qaf (m:Nat) (a0:T) (a1:Int) (a2:List (T)):Z60 :=
 cond (ieq (T.kind a0) a1) (cond (yd (List.length a2+1) 56) (qa (qd (a2++[T.mk 0 [] 0 []]) (List.length a2)) λ v1=>some ((a1,jH (a2++[T.mk 0 [] 0 []]) (List.length a2) (re a0),()),(()))) none)
 (some ((a1,a2,()),(())))
def Qm:Nat→Z61:=qf (λ _ _ _=>none) λ m _=>qaf m
def JI (m:Nat) (q_term_walk_of_128c:Z61) (K1:Z62) (a0:T) (a1_0:Int) (a1_1:List (T)):Z60 :=
 qa (Qm m (re a0) a1_0 a1_1) λ v1=>K1 (T.kids a0) (List.length (T.kids a0)) 0 v1.1.1 v1.1.2.1
def JL (m:Nat) (q_term_walk_of_128c:Z61) (K1:Z62) (x0:List (T)) (x1 x2 x3:Int) (x4:List (T)):Z60 :=
 cond (ilt x2 x1) (qa (qd x0 x2) λ v1=>qa (q_term_walk_of_128c (re v1) x3 x4) λ v2=>K1 x0 x1 (iw .i64 (qj x2 1)) v2.1.1 v2.1.2.1) (some ((x3,x4,()),(())))
def yW (m:Nat) (q_term_walk_of_128c:Z61):=qN (λ _ _ _ _ _=>none) λ ih=>JL m q_term_walk_of_128c ih
def qZ:Nat→Z61:=qf (λ _ _ _=>none) λ m q_term_walk_of_128c=>JI m q_term_walk_of_128c (yW m q_term_walk_of_128c m)
def qS:Nat→List (T)→Option (List (T)):=qf (λ _=>none) λ m _=>qoG (qs m)
def qdW (m:Nat) (a0 a1:T):Z1 :=
 qa (qs m (re a0) (re a1)) λ v1=>some (ieq v1 0)
def ya:Nat→Z20:=qf (λ _ _=>none) λ m _=>qdW m
def qF:Nat→List (T)→Option (Unit × List (T) × Unit):=qf (λ _=>none) λ m _=>qr4 (ya m)
def qcy (m:Nat) (K1:Z64) (a0:List (T)):Z63 :=
 qa (qS m a0) λ v1=>cond (Nat.beq (List.length v1) (List.length a0)) (qa (qF m v1) λ v2=>K1 (List.length v2.2.1) 0 v2.2.1) none
def qcm (m:Nat) (K1:Z64) (x0 x1:Int) (x2:List (T)):Z63 :=
 cond (ilt x1 x0) (qa (qd x2 x1) λ v1=>qa (yg m (re v1)) λ v2=>qa (qd x2 x1) λ v3=>K1 x0 (iw .i64 (qj x1 1)) (jH x2 x1 (re v2))) (some ((()),(x2,())))
def QN (m:Nat):=qN (λ _ _ _=>none) λ ih=>qcm m ih
def qcR:Nat→(Z8→Z63):=qf (λ _=>none) λ m _=>qcy m (QN m m)
def qf8 (m:Nat) (a0:T) (a1:Int):Z23 :=
 qa (qZ m (re a0) a1 []) λ v1=>qa (qcR m v1.1.2.1) λ v2=>some v2.2.1
def qgH:Nat→(T→Int→Z23):=qf (λ _ _=>none) λ m _=>qf8 m
def qi9 (m:Nat) (a0:T):Z23 :=
 qa (qgH m (re a0) 1) λ v1=>some v1
def qg1:Nat→Z27:=qf (λ _=>none) λ m _=>qi9 m
def qeP (m:Nat) (a0:T):Z1 :=
 qa (qdb m (re a0)) λ v1=>cond v1 (qa (qg1 m (re a0)) λ v2=>some (ieq (List.length v2) 0)) (some false)
def jC:Nat→Z35:=qf (λ _=>none) λ m _=>qeP m
def qik (m:Nat) (K1:Z65) (a0:T) (a1:List Int):Z30 :=
 K1 a1 (List.length a1) 0 (T.kind a0) (T.name a0) (T.sort a0) (T.kids a0) 0 [] 0 []
def ql6 (m:Nat) (K1:Z65) (x0:List (Int)) (x1 x2 x3:Int) (x4:List UInt8) (x5:Int) (x6:List (T)) (x7:Int) (x8:List UInt8) (x9:Int) (x10:List (T)):Z30 :=
 cond (ilt x2 x1) (qa (qd x0 x2) λ v1=>cond (ilt v1 0) (some (T.mk 0 [] 0 [],7)) (cond (ile (List.length x6) v1) (some (T.mk 0 [] 0 [],7)) (qa (qd x6 v1) λ v2=>K1 x0 x1 (iw .i64 (qj x2 1))
 (T.kind v2) (T.name v2) (T.sort v2) (T.kids v2) x7 x8 x9 x10))) (qa (yg m (T.mk x3 x4 x5 x6)) λ v3=>some (re v3,0))
def qeQ (m:Nat):=qN (λ _ _ _ _ _ _ _ _ _ _ _=>none) λ ih=>ql6 m ih
def qkX:Nat→(T→(List Int)→Z30):=qf (λ _ _=>none) λ m _=>qik m (qeQ m m)
def qd0 (m:Nat) (a0:T):Z21 :=
 qa (qkX m (re a0) []) λ v1=>some (re v1.1)
def yE:Nat→Z22:=qf (λ _=>none) λ m _=>qd0 m
def qgg (m:Nat) (a0:T):Z66 :=
 qa (jC m (re a0)) λ v1=>cond (qc v1) (some ((T.mk 0 [] 0 [],(0,([],0))),10)) (qa (yE m (re a0)) λ v2=>some ((re v2,(0,([],4))),0))
def qcf:Nat→Z67:=qf (λ _=>none) λ m _=>qgg m
def qc6 (m:Nat) (a0 a1:T):Z21 :=
 qa (yE m (re a0)) λ v1=>qa (yE m (re a1)) λ v2=>some (T.mk 3 [104,97,115,104] 0 [T.mk 3 [112,97,105,114] 0 [re v1,re v2]])
def Jl:Nat→(T→T→Z21):=qf (λ _ _=>none) λ m _=>qc6 m
def qtL (m:Nat) (a0:Y8):Z21 :=
 some (T.mk 2 a0 5 [])
def qed:Nat→(Y8→Z21):=qf (λ _=>none) λ m _=>qtL m
def qfa (m:Nat) (a0:T):Z21 :=
 qa (qed m [99,104,97,105,110]) λ v1=>qa (Jl m (re a0) (re v1)) λ v2=>some (re v2)
def qbq:Nat→Z22:=qf (λ _=>none) λ m _=>qfa m
def qgu (m:Nat) (a0:T):Z21 :=
 qa (qed m [109,101,115,115,97,103,101]) λ v1=>qa (Jl m (re a0) (re v1)) λ v2=>some (re v2)
def qce:Nat→Z22:=qf (λ _=>none) λ m _=>qgu m
def qdx (m:Nat) (K1:Z68) (a0:T) (a1:Int):Z30 :=
 qa (jC m (re a0)) λ v1=>cond (qc v1) (some (T.mk 0 [] 0 [],10)) (cond (ilt a1 0) (some (T.mk 0 [] 0 [],7)) (cond (ile 1000 a1) (some (T.mk 0 [] 0 [],7)) (qa (yE m (re a0)) λ v2 =>
 K1 a1 0 0 [] 0 (T.kind v2) (T.name v2) (T.sort v2) (T.kids v2) [])))
def qdr (m:Nat) (K1:Z68) (x0 x1 x2:Int) (x3:List UInt8) (x4 x5:Int) (x6:List UInt8) (x7:Int) (x8 x9:List (T)):Z30 :=
 cond (ilt x1 x0) (qa (qbq m (T.mk x5 x6 x7 x8)) λ v1=>qa (zu m (re v1)) λ v2=>cond (qc (ieq v2 0)) (some (T.mk 0 [] 0 [],3)) (K1 x0 (iw .i64 (qj x1 1)) x2 x3 x4 (T.kind v1)
 (T.name v1) (T.sort v1) (T.kids v1) x9)) (qa (qce m (T.mk x5 x6 x7 x8)) λ v3=>qa (zu m (re v3)) λ v4=>cond (qc (ieq v4 0)) (some (T.mk 0 [] 0 [],3)) (some (re v3,0)))
def Js (m:Nat):=qN (λ _ _ _ _ _ _ _ _ _ _=>none) λ ih=>qdr m ih
def qaQ:Nat→Z69:=qf (λ _ _=>none) λ m _=>qdx m (Js m m)
def qf1 (m:Nat) (a0 a1:Int):Z10 :=
 cond (ilt a0 a1) (some (-1)) (cond (ilt a1 a0) (some 1) (some 0))
def Jf:Nat→(Int→Int→Z10):=qf (λ _ _=>none) λ m _=>qf1 m
def qel (m:Nat) (q_ref01_Size:Z11) (K1:Z70) (a0:T):Z10 :=
 K1 1 0 (T.kind a0) (T.name a0) (T.sort a0) (T.kids a0)
def qer (m:Nat) (q_ref01_Size:Z11) (K1:Z70) (x0 x1 x2:Int) (x3:List UInt8) (x4:Int) (x5:List (T)):Z10 :=
 cond (ilt x1 (List.length x5)) (qa (qd x5 x1) λ v1=>qa (q_ref01_Size (re v1)) λ v2=>K1 (iw .i64 (qj x0 v2)) (iw .i64 (qj x1 1)) x2 x3 x4 x5) (some x0)
def J5 (m:Nat) (q_ref01_Size:Z11):=qN (λ _ _ _ _ _ _=>none) λ ih=>qer m q_ref01_Size ih
def yA:Nat→Z11:=qf (λ _=>none) λ m q_ref01_Size=>qel m q_ref01_Size (J5 m q_ref01_Size m)
def qbN (m:Nat) (q_ref01_Compare:Z18) (K1:Z71) (a0 a1:T):Z10 :=
 qa (yA m (re a0)) λ v1=>qa (yA m (re a1)) λ v2=>qa (Jf m v1 v2) λ v3=>cond (qc (ieq v3 0)) (some v3) (qa (Jf m (T.kind a0) (T.kind a1)) λ v4 =>
 cond (qc (ieq v4 0)) (some v4) (cond (slt (T.name a0) (T.name a1)) (some (-1)) (cond (qc (qny (slt (T.name a0) (T.name a1)) (qB (T.name a0) (T.name a1)))) (some 1) (qa (Jf m (T.sort a0)
 (T.sort a1)) λ v5=>cond (qc (ieq v5 0)) (some v5) (qa (Jf m (List.length (T.kids a0)) (List.length (T.kids a1))) λ v6=>cond (qc (ieq v6 0)) (some v6) (K1 0 (T.kind a0) (T.name a0) (T.sort a0)
 (T.kids a0) (T.kind a1) (T.name a1) (T.sort a1) (T.kids a1)))))))
def qbV (m:Nat) (q_ref01_Compare:Z18) (K1:Z71) (x0 x1:Int) (x2:List UInt8) (x3:Int) (x4:List (T)) (x5:Int) (x6:List UInt8) (x7:Int) (x8:List (T)):Z10 :=
 cond (ilt x0 (List.length x4)) (qa (qd x4 x0) λ v1=>qa (qd x8 x0) λ v2=>qa (q_ref01_Compare (re v1) (re v2)) λ v3=>cond (qc (ieq v3 0)) (some v3)
 (K1 (iw .i64 (qj x0 1)) x1 x2 x3 x4 x5 x6 x7 x8)) (some 0)
def Qg (m:Nat) (q_ref01_Compare:Z18):=qN (λ _ _ _ _ _ _ _ _ _=>none) λ ih=>qbV m q_ref01_Compare ih
def zi:Nat→Z18:=qf (λ _ _=>none) λ m q_ref01_Compare=>qbN m q_ref01_Compare (Qg m q_ref01_Compare m)
def qhA (m:Nat) (a0 a1:T):Z1 :=
 qa (zi m (re a0) (re a1)) λ v1=>some (ieq v1 0)
def yS:Nat→Z20:=qf (λ _ _=>none) λ m _=>qhA m
def qi1 (m:Nat) (K1:Z73) (a0:T × (Int × ((List (Int × T)) × Int))):Z10 :=
 qa (jC m (re a0.1)) λ v1=>cond (qc v1) (some 1) (cond (ilt a0.2.1 0) (some 1) (cond (ilt 1000 a0.2.1) (some 1) (cond (ilt a0.2.2.2 0) (some 1) (cond (ilt 8 a0.2.2.2) (some 1)
 (cond (ilt a0.2.2.2 (List.length a0.2.2.1)) (some 1) (K1 (-1) a0.2.2.1 (List.length a0.2.2.1) 0 (T.kind a0.1) (T.name a0.1) (T.sort a0.1) (T.kids a0.1) a0.2.1 a0.2.2.1 a0.2.2.2))))))
def qpW (m:Nat) (K1:Z73) (x0:Int) (x1:List (Int × T)) (x2 x3 x4:Int) (x5:List UInt8) (x6:Int) (x7:List (T)) (x8:Int) (x9:List (Int × T)) (x10:Int):Z10 :=
 cond (ilt x3 x2) (qa (qd x1 x3) λ v1=>cond (ile v1.1 x0) (some 1) (cond (ile x8 v1.1) (some 1) (qa (jC m (re v1.2)) λ v2=>cond (qc v2) (some 1)
 (K1 v1.1 x1 x2 (iw .i64 (qj x3 1)) x4 x5 x6 x7 x8 x9 x10)))) (some 0)
def qjr (m:Nat):=qN (λ _ _ _ _ _ _ _ _ _ _ _=>none) λ ih=>qpW m ih
def qhp:Nat→Z75:=qf (λ _=>none) λ m _=>qi1 m (qjr m m)
def qkY (m:Nat) (K1:Z77) (a0:T × (Int × ((List (Int × T)) × Int))):Z76 :=
 qa (yE m (re a0.1)) λ v1=>K1 a0.2.2.1 (List.length a0.2.2.1) 0 (T.kind v1) (T.name v1) (T.sort v1) (T.kids v1) a0.2.1 a0.2.2.1 a0.2.2.2 0 [] 0 0 0 [] [] []
def qtW (m:Nat) (K1:Z77) (x0:List (Int × T)) (x1 x2 x3:Int) (x4:List UInt8) (x5:Int) (x6:List (T)) (x7:Int) (x8:List (Int × T)) (x9 x10:Int) (x11:List UInt8) (x12 x13 x14:Int) (x15:List (T)) (x16 x17:List (Int × T)):Z76 :=
 cond (ilt x2 x1) (qa (qd x0 x2) λ v1=>qa (yE m (re v1.2)) λ v2=>cond (yd (List.length x17+1) 64)
 (K1 x0 x1 (iw .i64 (qj x2 1)) x3 x4 x5 x6 x7 x8 x9 x10 x11 x12 x13 x14 x15 x16 (x17++[(v1.1,re v2)])) none) (some ((()),((T.mk x3 x4 x5 x6,x7,x17,x9,()),())))
def qml (m:Nat):=qN (λ _ _ _ _ _ _ _ _ _ _ _ _ _ _ _ _ _ _=>none) λ ih=>qtW m ih
def qkm:Nat→(Z74→Z76):=qf (λ _=>none) λ m _=>qkY m (qml m m)
def qpe (m:Nat) (a0 a1:T):Z78 :=
 let j1:Z78:=(some (T.mk 0 [] 0 [],false));cond (qc (ieq (T.kind a0) 3)) j1 (cond (qc (qB (T.name a0) [101,110,99])) j1 (qa (qd (T.kids a0) 1) λ v1=>qa (qs m (re v1)
 (re a1)) λ v2=>cond (qc (ieq v2 0)) j1 (qa (qd (T.kids a0) 0) λ v3=>qa (yE m (re v3)) λ v4=>some (re v4,true))))
def qdI:Nat→(T→T→Z78):=qf (λ _ _=>none) λ m _=>qpe m
def qgZ (m:Nat) (K1:Z80) (a0:T × (Int × ((List (Int × T)) × Int))) (a1:Int × T):Z79 :=
 qa (qhp m (re a0.1,(a0.2.1,(a0.2.2.1,a0.2.2.2)))) λ v1=>cond (qc (ieq v1 0)) (some ((T.mk 0 [] 0 [],(0,([],0))),T.mk 0 [] 0 [],1)) (qa (jC m (re a1.2)) λ v2=>cond (qc v2)
 (some ((T.mk 0 [] 0 [],(0,([],0))),T.mk 0 [] 0 [],10)) (qa (qkm m (re a0.1,(a0.2.1,(a0.2.2.1,a0.2.2.2)))) λ v3=>cond (ilt a1.1 a0.2.1)
 (qa (yM 0 v3.2.1.2.2.1 (a1.1,re a1.2)) λ v4=>cond (ilt v4 0) (some ((T.mk 0 [] 0 [],(0,([],0))),T.mk 0 [] 0 [],21)) (qa (qd v3.2.1.2.2.1 v4) λ v5 =>
 qa (qdI m (re a1.2) (re v5.2)) λ v6=>cond (qc v6.2) (some ((T.mk 0 [] 0 [],(0,([],0))),T.mk 0 [] 0 [],11))
 (qa (yV 0 v3.2.1.2.2.1 v4 (iw .i64 (qj v4 1))) λ v7=>some ((re v3.2.1.1,(v3.2.1.2.1,(v7.2.1,v3.2.1.2.2.2.1))),re v6.1,0)))) (cond (ilt (iw .i64 (qj a0.2.1 a0.2.2.2)) a1.1)
 (some ((T.mk 0 [] 0 [],(0,([],0))),T.mk 0 [] 0 [],7)) (cond (ile 1000 a1.1) (some ((T.mk 0 [] 0 [],(0,([],0))),T.mk 0 [] 0 [],7)) (K1 a1.1 (T.kind a1.2) (T.name a1.2) (T.sort a1.2)
 (T.kids a1.2) 0 [] 0 0 0 0 [] 0 (T.kind v3.2.1.1) (T.name v3.2.1.1) (T.sort v3.2.1.1) (T.kids v3.2.1.1) v3.2.1.2.1 v3.2.1.2.2.2.1 [] [] [] v3.2.1.2.2.1)))))
def qol (m:Nat) (K1:Z80) (x0 x1:Int) (x2:List UInt8) (x3:Int) (x4:List (T)) (x5:Int) (x6:List UInt8) (x7 x8 x9 x10:Int) (x11:List UInt8) (x12 x13:Int) (x14:List UInt8) (x15:Int) (x16:List (T)) (x17 x18:Int) (x19:List (T)) (x20:List (Int × T)) (x21:List (T)) (x22:List (Int × T)):Z79 :=
 qa (qce m (T.mk x13 x14 x15 x16)) λ v1=>qa (qbq m (T.mk x13 x14 x15 x16)) λ v2=>qa (zu m (re v1)) λ v3=>cond (qc (ieq v3 0))
 (some ((T.mk 0 [] 0 [],(0,([],0))),T.mk 0 [] 0 [],3)) (qa (zu m (re v2)) λ v4=>cond (qc (ieq v4 0)) (some ((T.mk 0 [] 0 [],(0,([],0))),T.mk 0 [] 0 [],3)) (cond (ieq x17 x0)
 (qa (qdI m (T.mk x1 x2 x3 x4) (re v1)) λ v5=>cond (qc v5.2) (some ((T.mk 0 [] 0 [],(0,([],0))),T.mk 0 [] 0 [],11)) (some ((re v2,(iw .i64 (qj x17 1),(x22,x18))),re v5.1,0)))
 (cond (yd (List.length x22+1) 64) (cond (ilt x18 (List.length (x22++[(x17,re v1)]))) none (K1 x0 x1 x2 x3 x4 x5 x6 x7 x8 x9 x10 x11 x12 (T.kind v2) (T.name v2) (T.sort v2) (T.kids v2)
 (iw .i64 (qj x17 1)) x18 x19 x20 x21 (x22++[(x17,re v1)]))) none)))
def qhF (m:Nat):=qN (λ _ _ _ _ _ _ _ _ _ _ _ _ _ _ _ _ _ _ _ _ _ _ _=>none) λ ih=>qol m ih
def qaB:Nat→(Z74→(Int × T)→Z79):=qf (λ _ _=>none) λ m _=>qgZ m (qhF m m)
def qvo (m:Nat) (a0:Y8) (a1:Int):Z21 :=
 some (T.mk 2 a0 a1 [])
def qfu:Nat→(Y8→Int→Z21):=qf (λ _ _=>none) λ m _=>qvo m
def qvU (m:Nat):Z21 :=
 qa (qfu m [114] 2) λ v1=>some (re v1)
def qdQ:Nat→(Z21):=qf (none) λ m _=>qvU m
def qfF (m:Nat) (a0:Int):Z1 :=
 let j1:Z1:=(cond (ile 65 a0) (some (ile a0 90)) (some false));cond (ile 97 a0) (cond (ile a0 122) (some true) j1) j1
def J7:Nat→Z2:=qf (λ _=>none) λ m _=>qfF m
def qgm (m:Nat) (a0:Int):Z1 :=
 cond (ile 48 a0) (some (ile a0 57)) (some false)
def qcd:Nat→Z2:=qf (λ _=>none) λ m _=>qgm m
def qmv (m:Nat) (K1:Z82) (a0:Y8):Z81 :=
 K1 a0 0
def qwg (m:Nat) (K1:Z82) (x0:List UInt8) (x1:Int):Z81 :=
 let j1:Z81:=(cond (inb x1 (List.length x0)) (cond (inb 0 (Int.toNat x1)) (some (yX x0 0 x1)) none) none);cond (ilt x1 (List.length x0)) (qa (qd x0 x1) λ v1 =>
 qa (J7 m ((UInt8.toNat v1:Nat):Int)) λ v2=>let j2:Z81:=(K1 x0 (iw .i64 (qj x1 1)));cond v2 j2 (qa (qd x0 x1) λ v3=>qa (qcd m ((UInt8.toNat v3:Nat):Int)) λ v4 =>
 cond v4 j2 (qa (qd x0 x1) λ v5=>cond (ieq ((UInt8.toNat v5:Nat):Int) 95) j2 (qa (qd x0 x1) λ v6=>cond (ieq ((UInt8.toNat v6:Nat):Int) 35) j2 j1)))) j1
def qod (m:Nat):=qN (λ _ _=>none) λ ih=>qwg m ih
def qfj:Nat→(Y8→Z81):=qf (λ _=>none) λ m _=>qmv m (qod m m)
def qcH (m:Nat) (K1:Z83) (a0:Y8):Z1 :=
 cond (ieq (List.length a0) 0) (some false) (cond (ilt 24 (List.length a0)) (some false) (qa (qd a0 0) λ v1=>qa (J7 m ((UInt8.toNat v1:Nat):Int)) λ v2=>cond (qc v2) (some false) (K1 a0 0)))
def qct (m:Nat) (K1:Z83) (x0:List UInt8) (x1:Int):Z1 :=
 cond (ilt x1 (List.length x0)) (qa (qd x0 x1) λ v1=>qa (J7 m ((UInt8.toNat v1:Nat):Int)) λ v2=>let j1:Z1:=(K1 x0 (iw .i64 (qj x1 1)));cond (qc v2) (qa (qd x0 x1) λ v3 =>
 qa (qcd m ((UInt8.toNat v3:Nat):Int)) λ v4=>cond (qc v4) (qa (qd x0 x1) λ v5=>cond (qc (ieq ((UInt8.toNat v5:Nat):Int) 95)) (qa (qd x0 x1) λ v6 =>
 cond (qc (ieq ((UInt8.toNat v6:Nat):Int) 35)) (some false) j1) j1) j1) j1) (some true)
def QJ (m:Nat):=qN (λ _ _=>none) λ ih=>qct m ih
def Qb:Nat→Z5:=qf (λ _=>none) λ m _=>qcH m (QJ m m)
def qwe (m:Nat) (a0:Int):Z81 :=
 qa (qd [[97,110,121],[97,103,101,110,116],[110,111,110,99,101],[107,101,121],[100,97,116,97],[116,97,103]] a0) λ v1=>some v1
def qlv:Nat→(Int→Z81):=qf (λ _=>none) λ m _=>qwe m
def qmL (m:Nat) (K1:Z85) (a0:T) (a1:Y8):Z84 :=
 cond (ieq (List.length a1) 0) (some (re a0,a1,ieq (T.kind a0) 1)) (qa (qd a1 0) λ v1=>cond (qc (ieq ((UInt8.toNat v1:Nat):Int) 58)) (some (re a0,a1,ieq (T.kind a0) 1)) (cond (inb (List.length a1)
 (List.length a1)) (cond (inb 1 (Int.toNat (List.length a1))) (qa (qfj m (yX a1 1 (List.length a1))) λ v2=>K1 a1 v2 0 (T.kind a0) (T.name a0) (T.sort a0) (T.kids a0) 0 [] 0 []) none) none))
def qvR (m:Nat) (K1:Z85) (x0 x1:List UInt8) (x2 x3:Int) (x4:List UInt8) (x5:Int) (x6:List (T)) (x7:Int) (x8:List UInt8) (x9:Int) (x10:List (T)):Z84 :=
 cond (ile x2 5) (qa (qlv m x2) λ v1=>cond (qB x1 v1) (let j1:Z84:=(cond (inb (List.length x0) (List.length x0)) (cond (inb (iw .i64 (qj 1 (List.length x1))) (Int.toNat (List.length x0)))
 (some (T.mk x3 x4 x2 x6,yX x0 (iw .i64 (qj 1 (List.length x1))) (List.length x0),true)) none) none);cond (qc (ieq x2 0)) j1 (cond (ieq x3 2) j1 (K1 x0 x1 (iw .i64 (qj x2 1)) x3 x4 x5 x6 x7 x8 x9 x10)))
 (K1 x0 x1 (iw .i64 (qj x2 1)) x3 x4 x5 x6 x7 x8 x9 x10)) (some (T.mk x3 x4 x5 x6,x0,false))
def qnI (m:Nat):=qN (λ _ _ _ _ _ _ _ _ _ _ _=>none) λ ih=>qvR m ih
def qib:Nat→(T→Y8→Z84):=qf (λ _ _=>none) λ m _=>qmL m (qnI m m)
def qmn (m:Nat) (q_ref01_read:Z86) (K1:Z87) (a0:Y8) (a1:Int):Z84 :=
 let j1:Z84:=(qa (qfj m a0) λ v5=>qa (Qb m v5) λ v6=>cond (qc v6) (some (T.mk 2 v5 0 [],a0,false)) (cond (ieq a1 0) (some (T.mk 2 v5 0 [],a0,false)) (cond (inb (List.length a0)
 (List.length a0)) (cond (inb (List.length v5) (Int.toNat (List.length a0))) (let j2:Z84:=(qa (qib m (T.mk 2 v5 0 []) (yX a0 (List.length v5) (List.length a0))) λ v7 =>
 some (re v7.1,v7.2.1,v7.2.2));cond (ieq (List.length (yX a0 (List.length v5) (List.length a0))) 0) j2 (qa (qd (yX a0 (List.length v5) (List.length a0)) 0) λ v8 =>
 cond (qc (ieq ((UInt8.toNat v8:Nat):Int) 40)) j2 (cond (inb (List.length (yX a0 (List.length v5) (List.length a0))) (List.length (yX a0 (List.length v5) (List.length a0))))
 (cond (inb 1 (Int.toNat (List.length (yX a0 (List.length v5) (List.length a0))))) (K1 (yX (yX a0 (List.length v5) (List.length a0)) 1 (List.length (yX a0 (List.length v5)
 (List.length a0)))) a1 0 [] 0 3 v5 0 [] []) none) none))) none) none)));cond (ilt 0 (List.length a0)) (qa (qd a0 0) λ v1=>cond (ieq ((UInt8.toNat v1:Nat):Int) 63) (cond (inb (List.length a0)
 (List.length a0)) (cond (inb 1 (Int.toNat (List.length a0))) (qa (qfj m (yX a0 1 (List.length a0))) λ v2=>qa (Qb m v2) λ v3=>cond (qc v3)
 (some (T.mk 1 v2 0 [],yX a0 1 (List.length a0),false)) (cond (ieq a1 0) (some (T.mk 1 v2 0 [],yX a0 1 (List.length a0),false)) (cond (inb (List.length (yX a0 1 (List.length a0)))
 (List.length (yX a0 1 (List.length a0)))) (cond (inb (List.length v2) (Int.toNat (List.length (yX a0 1 (List.length a0))))) (qa (qib m (T.mk 1 v2 0 []) (yX (yX a0 1 (List.length a0)) (List.length v2)
 (List.length (yX a0 1 (List.length a0))))) λ v4=>some (re v4.1,v4.2.1,v4.2.2)) none) none))) none) none) j1) j1
def qv3 (m:Nat) (q_ref01_read:Z86) (K1:Z87) (x0:List UInt8) (x1 x2:Int) (x3:List UInt8) (x4 x5:Int) (x6:List UInt8) (x7:Int) (x8 x9:List (T)):Z84 :=
 let j1:Z84:=(some (T.mk x5 x6 x7 x9,x0,false));let j2:Z84:=(cond (ieq (List.length x0) 0) j1 (cond (inb (List.length x0) (List.length x0)) (cond (inb 1 (Int.toNat (List.length x0)))
 (some (T.mk x5 x6 x7 x9,yX x0 1 (List.length x0),true)) none) none));cond (ilt 0 (List.length x0)) (qa (qd x0 0) λ v1=>cond (qc (ieq ((UInt8.toNat v1:Nat):Int) 41)) (cond (ilt 0 (List.length x9))
 (cond (ilt (List.length x0) 2) j1 (cond (inb 2 (List.length x0)) (cond (inb 0 (Int.toNat 2)) (cond (qc (qB (yX x0 0 2) [44,32])) j1 (cond (inb (List.length x0) (List.length x0))
 (cond (inb 2 (Int.toNat (List.length x0))) (qa (q_ref01_read (yX x0 2 (List.length x0)) (iw .i64 (jK x1 1))) λ v2=>cond (qc v2.2.2) (some (T.mk x5 x6 x7 x9,yX x0 2 (List.length x0),false))
 (cond (yd (List.length x9+1) 56) (K1 v2.2.1 x1 x2 x3 x4 x5 x6 x7 x8 (x9++[re v2.1])) none)) none) none)) none) none)) (qa (q_ref01_read x0 (iw .i64 (jK x1 1))) λ v3 =>
 cond (qc v3.2.2) j1 (cond (yd (List.length x9+1) 56) (K1 v3.2.1 x1 x2 x3 x4 x5 x6 x7 x8 (x9++[re v3.1])) none))) j2) j2
def qn6 (m:Nat) (q_ref01_read:Z86):=qN (λ _ _ _ _ _ _ _ _ _ _=>none) λ ih=>qv3 m q_ref01_read ih
def qfR:Nat→Z86:=qf (λ _ _=>none) λ m q_ref01_read=>qmn m q_ref01_read (qn6 m q_ref01_read m)
def qhr (m:Nat) (a0:T):Z10 :=
 let j1:Z10:=(qa (Qb m (T.name a0)) λ v1=>cond (qc v1) (some 2) (cond (ilt 8 (List.length (T.kids a0))) (some 3) (some 0)));let j2:Z10:=(cond (ilt 0 (List.length (T.kids a0))) (some 1) j1);
 cond (ieq (T.kind a0) 1) (cond (ilt (T.sort a0) 0) (some 1) (cond (ilt 5 (T.sort a0)) (some 1) j2)) (let j3:Z10:=(cond (ilt (T.sort a0) 0) (some 1) (cond (ilt 5 (T.sort a0)) (some 1) (let j4:Z10 :=
 (cond (ieq (T.kind a0) 2) j2 j1);cond (qc (ieq (T.kind a0) 2)) (cond (qc (ieq (T.sort a0) 0)) (some 1) j4) j4)));cond (qc (ieq (T.kind a0) 2)) (cond (qc (ieq (T.kind a0) 3)) (some 1) j3) j3)
def qfO:Nat→Z11:=qf (λ _=>none) λ m _=>qhr m
def qdE (m:Nat) (q_ref01_nodes:Z11) (K1:Z88) (a0:T):Z10 :=
 qa (qfO m (re a0)) λ v1=>cond (qc (ieq v1 0)) (some v1) (K1 0 (T.kind a0) (T.name a0) (T.sort a0) (T.kids a0))
def qdN (m:Nat) (q_ref01_nodes:Z11) (K1:Z88) (x0 x1:Int) (x2:List UInt8) (x3:Int) (x4:List (T)):Z10 :=
 cond (ilt x0 (List.length x4)) (qa (qd x4 x0) λ v1=>qa (q_ref01_nodes (re v1)) λ v2=>cond (qc (ieq v2 0)) (some v2) (K1 (iw .i64 (qj x0 1)) x1 x2 x3 x4)) (some 0)
def Jo (m:Nat) (q_ref01_nodes:Z11):=qN (λ _ _ _ _ _=>none) λ ih=>qdN m q_ref01_nodes ih
def yH:Nat→Z11:=qf (λ _=>none) λ m q_ref01_nodes=>qdE m q_ref01_nodes (Jo m q_ref01_nodes m)
def qdP (m:Nat) (q_ref01_Depth:Z11) (K1:Z70) (a0:T):Z10 :=
 K1 0 0 (T.kind a0) (T.name a0) (T.sort a0) (T.kids a0)
def qdq (m:Nat) (q_ref01_Depth:Z11) (K1:Z70) (x0 x1 x2:Int) (x3:List UInt8) (x4:Int) (x5:List (T)):Z10 :=
 cond (ilt x1 (List.length x5)) (qa (qd x5 x1) λ v1=>qa (q_ref01_Depth (re v1)) λ v2=>K1 (qkh x0 v2) (iw .i64 (qj x1 1)) x2 x3 x4 x5) (some (iw .i64 (qj x0 1)))
def Ju (m:Nat) (q_ref01_Depth:Z11):=qN (λ _ _ _ _ _ _=>none) λ ih=>qdq m q_ref01_Depth ih
def yK:Nat→Z11:=qf (λ _=>none) λ m q_ref01_Depth=>qdP m q_ref01_Depth (Ju m q_ref01_Depth m)
def qgh (m:Nat) (a0:T):Z10 :=
 qa (yH m (re a0)) λ v1=>cond (qc (ieq v1 0)) (some v1) (qa (yA m (re a0)) λ v2=>cond (ilt 400 v2) (some 3) (qa (yK m (re a0)) λ v3=>cond (ilt 40 v3) (some 3) (some 0)))
def zI:Nat→Z11:=qf (λ _=>none) λ m _=>qgh m
def qs7 (m:Nat) (a0:Y8):Z30 :=
 qa (qfR m a0 800) λ v1=>cond (qc v1.2.2) (some (T.mk 0 [] 0 [],2)) (cond (qc (qB v1.2.1 [])) (some (T.mk 0 [] 0 [],2)) (qa (zI m (re v1.1)) λ v2=>cond (qc (ieq v2 0))
 (some (T.mk 0 [] 0 [],v2)) (some (re v1.1,0))))
def qgP:Nat→(Y8→Z30):=qf (λ _=>none) λ m _=>qs7 m
def qp2 (m:Nat):Z89 :=
 some [([112,97,105,114],(2,(2,1))),([101,110,99],(2,(2,1))),([97,101,110,99],(2,(2,1))),([112,107],(1,(1,1))),([115,105,103,110],(2,(2,1))),([104,97,115,104],(1,(1,1))),([120,111,114],(2,(8,1))),([122,101,114,111],(0,(0,1))),([101,120,112],(2,(2,1))),([109,117,108],(2,(8,1))),([105,110,118],(1,(1,1))),([111,110,101],(0,(0,1))),([115,107],(1,(1,2))),([115,104,107],(2,(2,2))),([110,101,119],(1,(8,2))),([102,115,116],(1,(1,3))),([115,110,100],(1,(1,3))),([100,101,99],(2,(2,3))),([97,100,101,99],(2,(2,3))),([111,112,101,110],(2,(2,3))),([114,101,97,100],(1,(1,3)))]
def qeo:Nat→(Z89):=qf (none) λ m _=>qp2 m
def qex (m:Nat) (K1:Z90) (a0:Y8):Z10 :=
 qa (qeo m) λ v1=>K1 a0 v1 0
def qeq (m:Nat) (K1:Z90) (x0:List UInt8) (x1:List (Y8 × (Int × (Int × Int)))) (x2:Int):Z10 :=
 cond (ilt x2 (List.length x1)) (qa (qd x1 x2) λ v1=>cond (qB v1.1 x0) (qa (qd x1 x2) λ v2=>some v2.2.2.2) (K1 x0 x1 (iw .i64 (qj x2 1)))) (some 0)
def J2 (m:Nat):=qN (λ _ _ _=>none) λ ih=>qeq m ih
def qbW:Nat→(Y8→Z10):=qf (λ _=>none) λ m _=>qex m (J2 m m)
def qes (m:Nat) (K1:Z91) (a0:T):Z1 :=
 qa (qeo m) λ v1=>K1 v1 0 (T.kind a0) (T.name a0) (T.sort a0) (T.kids a0)
def qeA (m:Nat) (K1:Z91) (x0:List (Y8 × (Int × (Int × Int)))) (x1 x2:Int) (x3:List UInt8) (x4:Int) (x5:List (T)):Z1 :=
 cond (ilt x1 (List.length x0)) (qa (qd x0 x1) λ v1=>cond (qB v1.1 x3) (qa (qd x0 x1) λ v2=>cond (ile v2.2.1 (List.length x5)) (qa (qd x0 x1) λ v3=>some (ile (List.length x5) v3.2.2.1))
 (some false)) (K1 x0 (iw .i64 (qj x1 1)) x2 x3 x4 x5)) (some false)
def J3 (m:Nat):=qN (λ _ _ _ _ _ _=>none) λ ih=>qeA m ih
def qfZ:Nat→Z35:=qf (λ _=>none) λ m _=>qes m (J3 m m)
def qcA (m:Nat) (K1:Z92) (a0:T):Z1 :=
 cond (qB (T.name a0) [110,101,119]) (qa (qd (T.kids a0) 0) λ v1=>some (ieq (T.kind v1) 2)) (K1 0 (T.kind a0) (T.name a0) (T.sort a0) (T.kids a0))
def qcx (m:Nat) (K1:Z92) (x0 x1:Int) (x2:List UInt8) (x3:Int) (x4:List (T)):Z1 :=
 cond (ilt x0 (List.length x4)) (qa (qd x4 x0) λ v1=>cond (ieq (T.kind v1) 3) (some false) (qa (qd x4 x0) λ v2=>cond (qc (ieq (T.sort v2) 1)) (some false) (K1 (iw .i64 (qj x0 1)) x1 x2 x3 x4)))
 (some true)
def QO (m:Nat):=qN (λ _ _ _ _ _=>none) λ ih=>qcx m ih
def qde:Nat→Z35:=qf (λ _=>none) λ m _=>qcA m (QO m m)
def qdv (m:Nat) (q_ref09_nodes:Z11) (K1:Z88) (a0:T):Z10 :=
 cond (qc (ieq (T.kind a0) 3)) (some 0) (qa (qbW m (T.name a0)) λ v1=>cond (ieq v1 0) (some 10) (qa (qfZ m (re a0)) λ v2=>cond (qc v2) (some 6) (cond (ieq v1 2)
 (qa (qde m (re a0)) λ v3=>cond (qc v3) (some 10) (K1 0 (T.kind a0) (T.name a0) (T.sort a0) (T.kids a0))) (K1 0 (T.kind a0) (T.name a0) (T.sort a0) (T.kids a0)))))
def qdK (m:Nat) (q_ref09_nodes:Z11) (K1:Z88) (x0 x1:Int) (x2:List UInt8) (x3:Int) (x4:List (T)):Z10 :=
 cond (ilt x0 (List.length x4)) (qa (qd x4 x0) λ v1=>qa (q_ref09_nodes (re v1)) λ v2=>cond (qc (ieq v2 0)) (some v2) (K1 (iw .i64 (qj x0 1)) x1 x2 x3 x4)) (some 0)
def Qq (m:Nat) (q_ref09_nodes:Z11):=qN (λ _ _ _ _ _=>none) λ ih=>qdK m q_ref09_nodes ih
def yq:Nat→Z11:=qf (λ _=>none) λ m q_ref09_nodes=>qdv m q_ref09_nodes (Qq m q_ref09_nodes m)
def qgc (m:Nat) (a0:T):Z10 :=
 qa (zI m (re a0)) λ v1=>cond (qc (ieq v1 0)) (some v1) (qa (yq m (re a0)) λ v2=>some v2)
def qea:Nat→Z11:=qf (λ _=>none) λ m _=>qgc m
def qjm (m:Nat) (a0:Y8) (a1:TL):Z21 :=
 cond (yd (List.length ([]:List (T))+List.length a1) 56) (qh1 a1 (some (T.mk 3 a0 0 [])) λ v1 v2=>some (T.mk 3 a0 0 ([]++(v1::v2)))) none
def yu:Nat→Z48:=qf (λ _ _=>none) λ m _=>qjm m
def qj8 (m:Nat) (a0:T) (a1:Y8):Z1 :=
 cond (ieq (T.kind a0) 3) (some (qB (T.name a0) a1)) (some false)
def J6:Nat→(T→Y8→Z1):=qf (λ _ _=>none) λ m _=>qj8 m
def qeO (m:Nat) (a0:T):Z78 :=
 qa (qd (T.kids a0) 0) λ v1=>let j1:Z78:=(qa (qd (T.kids v1) 0) λ v3=>some (re v3,true));let j2:Z78:=(let j3:Z78:=(let j4:Z78:=(let j5:Z78:=(let j6:Z78 :=
 (cond (qB (T.name a0) [114,101,97,100]) (qa (J6 m (re v1) [115,105,103,110]) λ v23=>cond v23 j1 (some (re a0,false))) (some (re a0,false)));cond (qB (T.name a0) [111,112,101,110])
 (qa (J6 m (re v1) [115,105,103,110]) λ v17=>cond v17 (qa (qd (T.kids a0) 1) λ v18=>qa (qd (T.kids v1) 1) λ v19=>qa (yu m [112,107] [re v19]) λ v20 =>
 qa (yS m (re v18) (re v20)) λ v21=>cond v21 j1 j6) j6) j6);cond (qB (T.name a0) [97,100,101,99]) (qa (J6 m (re v1) [97,101,110,99]) λ v11 =>
 cond v11 (qa (qd (T.kids v1) 1) λ v12=>qa (qd (T.kids a0) 1) λ v13=>qa (yu m [112,107] [re v13]) λ v14=>qa (yS m (re v12) (re v14)) λ v15=>cond v15 j1 j5) j5) j5);
 cond (qB (T.name a0) [100,101,99]) (qa (J6 m (re v1) [101,110,99]) λ v6=>cond v6 (qa (qd (T.kids v1) 1) λ v7=>qa (qd (T.kids a0) 1) λ v8=>qa (yS m (re v7)
 (re v8)) λ v9=>cond v9 j1 j4) j4) j4);cond (qB (T.name a0) [115,110,100]) (qa (J6 m (re v1) [112,97,105,114]) λ v4=>cond v4 (qa (qd (T.kids v1) 1) λ v5=>some (re v5,true)) j3) j3);
 cond (qB (T.name a0) [102,115,116]) (qa (J6 m (re v1) [112,97,105,114]) λ v2=>cond v2 j1 j2) j2
def qb6:Nat→(T→Z78):=qf (λ _=>none) λ m _=>qeO m
def qfc (m:Nat) (K1:Z93) (a0:TL) (a1:T):Z1 :=
 K1 a0 0 (T.kind a1) (T.name a1) (T.sort a1) (T.kids a1)
def qfT (m:Nat) (K1:Z93) (x0:List (T)) (x1 x2:Int) (x3:List UInt8) (x4:Int) (x5:List (T)):Z1 :=
 cond (ilt x1 (List.length x0)) (qa (qd x0 x1) λ v1=>qa (yS m (re v1) (T.mk x2 x3 x4 x5)) λ v2=>cond v2 (some true) (K1 x0 (iw .i64 (qj x1 1)) x2 x3 x4 x5)) (some false)
def qaN (m:Nat):=qN (λ _ _ _ _ _ _=>none) λ ih=>qfT m ih
def qgY:Nat→(TL→T→Z1):=qf (λ _ _=>none) λ m _=>qfc m (qaN m m)
def qfX (m:Nat) (K1:Z94) (a0:TL) (a1:T):Z23 :=
 K1 a0 false 0 (T.kind a1) (T.name a1) (T.sort a1) (T.kids a1) []
def qe9 (m:Nat) (K1:Z94) (x0:List (T)) (x1:Bool) (x2 x3:Int) (x4:List UInt8) (x5:Int) (x6 x7:List (T)):Z23 :=
 cond (ilt x2 (List.length x0)) (qa (qd x0 x2) λ v1=>qa (zi m (T.mk x3 x4 x5 x6) (re v1)) λ v2=>let j1:Z23:=(qa (qd x0 x2) λ v5=>cond (yd (List.length x7+1) 56)
 (K1 x0 x1 (iw .i64 (qj x2 1)) x3 x4 x5 x6 (x7++[re v5])) none);cond (qc x1) (cond (ile v2 0) (cond (ilt v2 0) (cond (yd (List.length x7+1) 56) (qa (qd x0 x2) λ v3 =>
 cond (yd (List.length (x7++[T.mk x3 x4 x5 x6])+1) 56) (K1 x0 true (iw .i64 (qj x2 1)) x3 x4 x5 x6 ((x7++[T.mk x3 x4 x5 x6])++[re v3])) none) none) (qa (qd x0 x2) λ v4 =>
 cond (yd (List.length x7+1) 56) (K1 x0 true (iw .i64 (qj x2 1)) x3 x4 x5 x6 (x7++[re v4])) none)) j1) j1) (cond (qc x1) (cond (yd (List.length x7+1) 56) (some (x7++[T.mk x3 x4 x5 x6])) none) (some x7))
def qaV (m:Nat):=qN (λ _ _ _ _ _ _ _ _=>none) λ ih=>qe9 m ih
def qeX:Nat→(TL→T→Z23):=qf (λ _ _=>none) λ m _=>qfX m (qaV m m)
def qcB (m:Nat) (K1:Z95) (a0:TL) (a1:T):Z23 :=
 qa (qgY m a0 (re a1)) λ v1=>cond (qc v1) (qa (qeX m a0 (re a1)) λ v2=>some v2) (K1 a0 0 (T.kind a1) (T.name a1) (T.sort a1) (T.kids a1) [])
def qcv (m:Nat) (K1:Z95) (x0:List (T)) (x1 x2:Int) (x3:List UInt8) (x4:Int) (x5 x6:List (T)):Z23 :=
 cond (ilt x1 (List.length x0)) (qa (qd x0 x1) λ v1=>qa (yS m (re v1) (T.mk x2 x3 x4 x5)) λ v2=>cond (qc v2) (qa (qd x0 x1) λ v3=>cond (yd (List.length x6+1) 56)
 (K1 x0 (iw .i64 (qj x1 1)) x2 x3 x4 x5 (x6++[re v3])) none) (K1 x0 (iw .i64 (qj x1 1)) x2 x3 x4 x5 x6)) (some x6)
def QS (m:Nat):=qN (λ _ _ _ _ _ _ _=>none) λ ih=>qcv m ih
def qcZ:Nat→(TL→T→Z23):=qf (λ _ _=>none) λ m _=>qcB m (QS m m)
def qek (m:Nat) (K1:Z96) (a0 a1:TL):Z23 :=
 cond (yd (List.length ([]:List (T))+List.length a0) 56) (qh1 a0 (K1 a1 [] 0) λ v1 v2=>K1 a1 ([]++(v1::v2)) 0) none
def qep (m:Nat) (K1:Z96) (x0 x1:List (T)) (x2:Int):Z23 :=
 cond (ilt x2 (List.length x0)) (qa (qd x0 x2) λ v1=>qa (qcZ m x1 (re v1)) λ v2=>K1 x0 v2 (iw .i64 (qj x2 1))) (some x1)
def Jc (m:Nat):=qN (λ _ _ _=>none) λ ih=>qep m ih
def qdz:Nat→(TL→TL→Z23):=qf (λ _ _=>none) λ m _=>qek m (Jc m m)
def qa2 (m:Nat) (q_ref08_Summands:Z27) (K1:Z97) (a0:T):Z23 :=
 let j1:Z23:=(cond (qc (ieq (T.kind a0) 3)) (some [re a0]) (cond (qc (qB (T.name a0) [120,111,114])) (some [re a0]) (K1 [] 0 (T.kind a0) (T.name a0) (T.sort a0) (T.kids a0))));cond (ieq (T.kind a0) 3)
 (cond (qB (T.name a0) [122,101,114,111]) (cond (ieq (List.length (T.kids a0)) 0) (some []) j1) j1) j1
def qa7 (m:Nat) (q_ref08_Summands:Z27) (K1:Z97) (x0:List (T)) (x1 x2:Int) (x3:List UInt8) (x4:Int) (x5:List (T)):Z23 :=
 cond (ilt x1 (List.length x5)) (qa (qd x5 x1) λ v1=>qa (q_ref08_Summands (re v1)) λ v2=>qa (qdz m x0 v2) λ v3=>K1 v3 (iw .i64 (qj x1 1)) x2 x3 x4 x5) (some x0)
def jk (m:Nat) (q_ref08_Summands:Z27):=qN (λ _ _ _ _ _ _=>none) λ ih=>qa7 m q_ref08_Summands ih
def zr:Nat→Z27:=qf (λ _=>none) λ m q_ref08_Summands=>qa2 m q_ref08_Summands (jk m q_ref08_Summands m)
def qdt (m:Nat) (K1:Z98) (a0:TL) (a1:T):Z10 :=
 cond (ilt 200 (List.length a0)) (some 3) (K1 a0 0 (T.kind a1) (T.name a1) (T.sort a1) (T.kids a1))
def qdH (m:Nat) (K1:Z98) (x0:List (T)) (x1 x2:Int) (x3:List UInt8) (x4:Int) (x5:List (T)):Z10 :=
 cond (ilt x1 (List.length x0)) (qa (qd x0 x1) λ v1=>qa (zI m (re v1)) λ v2=>cond (qc (ieq v2 0)) (some v2) (K1 x0 (iw .i64 (qj x1 1)) x2 x3 x4 x5))
 (qa (zI m (T.mk x2 x3 x4 x5)) λ v3=>some v3)
def Jq (m:Nat):=qN (λ _ _ _ _ _ _=>none) λ ih=>qdH m ih
def qd8:Nat→(TL→T→Z10):=qf (λ _ _=>none) λ m _=>qdt m (Jq m m)
def qhu (m:Nat):Z21 :=
 qa (yu m [122,101,114,111] []) λ v1=>some (re v1)
def qfr:Nat→(Z21):=qf (none) λ m _=>qhu m
def qhx (m:Nat) (a0:TL):Z21 :=
 cond (ieq (List.length a0) 0) (qa (yu m [122,101,114,111] []) λ v1=>some (re v1)) (cond (ieq (List.length a0) 1) (qa (qd a0 0) λ v2=>some (re v2))
 (cond (yd (List.length ([]:List (T))+List.length a0) 56) (qh1 a0 (some (T.mk 3 [120,111,114] 0 [])) λ v3 v4=>some (T.mk 3 [120,111,114] 0 ([]++(v3::v4)))) none))
def qfn:Nat→(TL→Z21):=qf (λ _=>none) λ m _=>qhx m
def qfk (m:Nat) (K1:Z99) (a0:TL):Z30 :=
 qa (qfr m) λ v1=>qa (qd8 m a0 (re v1)) λ v2=>cond (qc (ieq v2 0)) (some (T.mk 0 [] 0 [],v2)) (K1 a0 [] 0 0 [] 0 [])
def qfq (m:Nat) (K1:Z99) (x0 x1:List (T)) (x2 x3:Int) (x4:List UInt8) (x5:Int) (x6:List (T)):Z30 :=
 cond (ilt x2 (List.length x0)) (qa (qd x0 x2) λ v1=>qa (zr m (re v1)) λ v2=>qa (qdz m x1 v2) λ v3=>K1 x0 v3 (iw .i64 (qj x2 1)) x3 x4 x5 x6) (qa (qfn m x1) λ v4 =>
 qa (zI m (re v4)) λ v5=>cond (qc (ieq v5 0)) (some (T.mk 0 [] 0 [],3)) (some (re v4,0)))
def qaS (m:Nat):=qN (λ _ _ _ _ _ _ _=>none) λ ih=>qfq m ih
def qg9:Nat→(TL→Z30):=qf (λ _=>none) λ m _=>qfk m (qaS m m)
def qeN (m:Nat) (a0:T):Z1 :=
 cond (ieq (T.kind a0) 3) (cond (qB (T.name a0) [109,117,108]) (some true) (cond (qB (T.name a0) [105,110,118]) (some true) (some (qB (T.name a0) [111,110,101])))) (some false)
def Jt:Nat→Z35:=qf (λ _=>none) λ m _=>qeN m
def qds (m:Nat) (q_ref06_arity:Z35) (K1:qH4) (a0:T):Z1 :=
 qa (Jt m (re a0)) λ v1=>cond (qc v1) (some true) (let j1:Z1:=(let j2:Z1:=(cond (qB (T.name a0) [111,110,101]) (cond (qc (ieq (List.length (T.kids a0)) 0)) (some false)
 (K1 (List.length (T.kids a0)) 0 (T.kind a0) (T.name a0) (T.sort a0) (T.kids a0))) (K1 (List.length (T.kids a0)) 0 (T.kind a0) (T.name a0) (T.sort a0) (T.kids a0)));cond (qB (T.name a0) [105,110,118])
 (cond (qc (ieq (List.length (T.kids a0)) 1)) (some false) j2) j2);cond (qB (T.name a0) [109,117,108]) (cond (ilt (List.length (T.kids a0)) 2) (some false) j1) j1)
def qdp (m:Nat) (q_ref06_arity:Z35) (K1:qH4) (x0 x1 x2:Int) (x3:List UInt8) (x4:Int) (x5:List (T)):Z1 :=
 cond (ilt x1 x0) (qa (qd x5 x1) λ v1=>qa (q_ref06_arity (re v1)) λ v2=>cond (qc v2) (some false) (K1 x0 (iw .i64 (qj x1 1)) x2 x3 x4 x5)) (some true)
def Qt (m:Nat) (q_ref06_arity:Z35):=qN (λ _ _ _ _ _ _=>none) λ ih=>qdp m q_ref06_arity ih
def yn:Nat→Z35:=qf (λ _=>none) λ m q_ref06_arity=>qds m q_ref06_arity (Qt m q_ref06_arity m)
def qfl (m:Nat) (K1:qHS) (a0:List (T × Int)) (a1:T) (a2:Int):Z40 :=
 K1 a2 false 0 (T.kind a1) (T.name a1) (T.sort a1) (T.kids a1) a0 []
def qfM (m:Nat) (K1:qHS) (x0:Int) (x1:Bool) (x2 x3:Int) (x4:List UInt8) (x5:Int) (x6:List (T)) (x7 x8:List (T × Int)):Z40 :=
 cond (ilt x2 (List.length x7)) (qa (qd x7 x2) λ v1=>qa (zi m (T.mk x3 x4 x5 x6) (re v1.1)) λ v2=>let j1:Z40:=(qa (qd x7 x2) λ v4=>cond (ieq v2 0)
 (cond (qc (ieq (iw .i64 (qj v4.2 x0)) 0)) (cond (yd (List.length x8+1) 64) (K1 x0 true (iw .i64 (qj x2 1)) x3 x4 x5 x6 x7 (x8++[(re v4.1,iw .i64 (qj v4.2 x0))])) none)
 (K1 x0 true (iw .i64 (qj x2 1)) x3 x4 x5 x6 x7 x8)) (cond (qc (ieq v4.2 0)) (cond (yd (List.length x8+1) 64) (K1 x0 x1 (iw .i64 (qj x2 1)) x3 x4 x5 x6 x7 (x8++[(re v4.1,v4.2)])) none)
 (K1 x0 x1 (iw .i64 (qj x2 1)) x3 x4 x5 x6 x7 x8)));cond (qc x1) (cond (ilt v2 0) (cond (yd (List.length x8+1) 64) (qa (qd x7 x2) λ v3=>cond (ieq v2 0) (cond (qc (ieq (iw .i64 (qj v3.2 x0)) 0))
 (cond (yd (List.length (x8++[(T.mk x3 x4 x5 x6,x0)])+1) 64) (K1 x0 true (iw .i64 (qj x2 1)) x3 x4 x5 x6 x7 ((x8++[(T.mk x3 x4 x5 x6,x0)])++[(re v3.1,iw .i64 (qj v3.2 x0))])) none)
 (K1 x0 true (iw .i64 (qj x2 1)) x3 x4 x5 x6 x7 (x8++[(T.mk x3 x4 x5 x6,x0)]))) (cond (qc (ieq v3.2 0)) (cond (yd (List.length (x8++[(T.mk x3 x4 x5 x6,x0)])+1) 64)
 (K1 x0 true (iw .i64 (qj x2 1)) x3 x4 x5 x6 x7 ((x8++[(T.mk x3 x4 x5 x6,x0)])++[(re v3.1,v3.2)])) none) (K1 x0 true (iw .i64 (qj x2 1)) x3 x4 x5 x6 x7 (x8++[(T.mk x3 x4 x5 x6,x0)])))) none) j1) j1)
 (cond (qc x1) (cond (yd (List.length x8+1) 64) (some ((()),(x8++[(T.mk x3 x4 x5 x6,x0)],()))) none) (some ((()),(x8,()))))
def Q3 (m:Nat):=qN (λ _ _ _ _ _ _ _ _ _=>none) λ ih=>qfM m ih
def qe6:Nat→qxr:=qf (λ _ _ _=>none) λ m _=>qfl m (Q3 m m)
def qbH (m:Nat) (q_ref06_collect:qxr) (K1:qIj) (a0:List (T × Int)) (a1:T) (a2:Int):Z40 :=
 qa (Jt m (re a1)) λ v1=>cond (qc v1) (qa (qe6 m a0 (re a1) a2) λ v2=>some ((()),(v2.2.1,()))) (cond (qB (T.name a1) [105,110,118]) (K1 (iw .i64 (jK 0 a2)) 0 (T.kind a1)
 (T.name a1) (T.sort a1) (T.kids a1) a0) (K1 a2 0 (T.kind a1) (T.name a1) (T.sort a1) (T.kids a1) a0))
def qbE (m:Nat) (q_ref06_collect:qxr) (K1:qIj) (x0 x1 x2:Int) (x3:List UInt8) (x4:Int) (x5:List (T)) (x6:List (T × Int)):Z40 :=
 cond (ilt x1 (List.length x5)) (qa (qd x5 x1) λ v1=>qa (q_ref06_collect x6 (re v1) x0) λ v2=>K1 x0 (iw .i64 (qj x1 1)) x2 x3 x4 x5 v2.2.1) (some ((()),(x6,())))
def jw (m:Nat) (q_ref06_collect:qxr):=qN (λ _ _ _ _ _ _ _=>none) λ ih=>qbE m q_ref06_collect ih
def zG:Nat→qxr:=qf (λ _ _ _=>none) λ m q_ref06_collect=>qbH m q_ref06_collect (jw m q_ref06_collect m)
def qkf (m:Nat) (a0:T):Z44 :=
 qa (zI m (re a0)) λ v1=>cond (qc (ieq v1 0)) (some ([],v1)) (qa (yn m (re a0)) λ v2=>cond (qc v2) (some ([],6)) (qa (zG m [] (re a0) 1) λ v3 =>
 cond (ilt 200 (List.length v3.2.1)) (some ([],3)) (some (v3.2.1,0))))
def qeM:Nat→Z45:=qf (λ _=>none) λ m _=>qkf m
def qdM (m:Nat) (K1:qB5) (a0:List (T × Int)):Z10 :=
 cond (ilt 200 (List.length a0)) (some 3) (K1 a0 0)
def qdC (m:Nat) (K1:qB5) (x0:List (T × Int)) (x1:Int):Z10 :=
 cond (ilt x1 (List.length x0)) (qa (qd x0 x1) λ v1=>qa (zI m (re v1.1)) λ v2=>cond (qc (ieq v2 0)) (some v2) (qa (qd x0 x1) λ v3=>qa (Jt m (re v3.1)) λ v4 =>
 cond v4 (some 1) (qa (qd x0 x1) λ v5=>cond (ieq v5.2 0) (some 7) (qa (qd x0 x1) λ v6=>cond (ilt v6.2 (-1000)) (some 7) (qa (qd x0 x1) λ v7=>cond (ilt 1000 v7.2) (some 7) (cond (ilt 0 x1)
 (qa (qd x0 (iw .i64 (jK x1 1))) λ v8=>qa (qd x0 x1) λ v9=>qa (zi m (re v8.1) (re v9.1)) λ v10=>cond (ile 0 v10) (some 5) (K1 x0 (iw .i64 (qj x1 1))))
 (K1 x0 (iw .i64 (qj x1 1))))))))) (some 0)
def Qu (m:Nat):=qN (λ _ _=>none) λ ih=>qdC m ih
def qaM:Nat→Z47:=qf (λ _=>none) λ m _=>qdM m (Qu m m)
def qa1 (m:Nat) (K1:qka) (K2:qki) (K3:qka) (K4:qki) (a0:List (T × Int)):Z23 :=
 K1 a0 0 []
def qbd (m:Nat) (K1:qka) (K2:qki) (K3:qka) (K4:qki) (x0:List (T × Int)) (x1:Int) (x2:List (T)):Z23 :=
 cond (ilt x1 (List.length x0)) (K2 x0 x1 0 x2) (K3 x0 0 x2)
def qa3 (m:Nat) (K1:qka) (K2:qki) (K3:qka) (K4:qki) (x0:List (T × Int)) (x1 x2:Int) (x3:List (T)):Z23 :=
 qa (qd x0 x1) λ v1=>cond (ilt x2 v1.2) (cond (ilt (List.length x3) 9) (qa (qd x0 x1) λ v2=>cond (yd (List.length x3+1) 56) (K2 x0 x1 (iw .i64 (qj x2 1)) (x3++[re v2.1])) none)
 (K1 x0 (iw .i64 (qj x1 1)) x3)) (K1 x0 (iw .i64 (qj x1 1)) x3)
def qbc (m:Nat) (K1:qka) (K2:qki) (K3:qka) (K4:qki) (x0:List (T × Int)) (x1:Int) (x2:List (T)):Z23 :=
 cond (ilt x1 (List.length x0)) (K4 x0 x1 0 x2) (some x2)
def qbb (m:Nat) (K1:qka) (K2:qki) (K3:qka) (K4:qki) (x0:List (T × Int)) (x1 x2:Int) (x3:List (T)):Z23 :=
 qa (qd x0 x1) λ v1=>cond (ilt x2 (iw .i64 (jK 0 v1.2))) (cond (ilt (List.length x3) 9) (qa (qd x0 x1) λ v2=>qa (yu m [105,110,118] [re v2.1]) λ v3=>cond (yd (List.length x3+1) 56)
 (K4 x0 x1 (iw .i64 (qj x2 1)) (x3++[re v3])) none) (K3 x0 (iw .i64 (qj x1 1)) x3)) (K3 x0 (iw .i64 (qj x1 1)) x3)
def qk (m:Nat):=qN ((λ _ _ _=>none,λ _ _ _ _=>none,λ _ _ _=>none,λ _ _ _ _=>none)) λ ih=>(qbd m ih.1 ih.2.1 ih.2.2.1 ih.2.2.2,qa3 m ih.1 ih.2.1 ih.2.2.1 ih.2.2.2,qbc m ih.1 ih.2.1 ih.2.2.1 ih.2.2.2,qbb m ih.1 ih.2.1 ih.2.2.1 ih.2.2.2)
def qbh:Nat→(Z38→Z23):=qf (λ _=>none) λ m _=>qa1 m (qk m m).1 (qk m m).2.1 (qk m m).2.2.1 (qk m m).2.2.2
def qhm (m:Nat) (a0:List (T × Int)):Z30 :=
 qa (qaM m a0) λ v1=>cond (qc (ieq v1 0)) (some (T.mk 0 [] 0 [],v1)) (qa (qbh m a0) λ v2=>cond (ilt 8 (List.length v2)) (some (T.mk 0 [] 0 [],3))
 (qa (yu m [109,117,108] v2) λ v3=>let j1:Z30:=(qa (qd v2 0) λ v5=>qa (zI m (re v5)) λ v6=>cond (qc (ieq v6 0)) (some (T.mk 0 [] 0 [],v6)) (some (re v5,0)));
 cond (ieq (List.length v2) 0) (qa (yu m [111,110,101] []) λ v4=>cond (ieq (List.length v2) 1) j1 (qa (zI m (re v4)) λ v7=>cond (qc (ieq v7 0)) (some (T.mk 0 [] 0 [],v7))
 (some (re v4,0)))) (cond (ieq (List.length v2) 1) j1 (qa (zI m (re v3)) λ v10=>cond (qc (ieq v10 0)) (some (T.mk 0 [] 0 [],v10)) (some (re v3,0))))))
def qaG:Nat→Z51:=qf (λ _=>none) λ m _=>qhm m
def qeE (m:Nat) (a0:T):Z30 :=
 qa (qeM m (re a0)) λ v1=>cond (qc (ieq v1.2 0)) (some (T.mk 0 [] 0 [],v1.2)) (qa (qaG m v1.1) λ v2=>some (re v2.1,v2.2))
def qan:Nat→Z57:=qf (λ _=>none) λ m _=>qeE m
def qb1 (m:Nat) (K1:qB5) (a0:List (T × Int)):Z10 :=
 K1 a0 0
def qbT (m:Nat) (K1:qB5) (x0:List (T × Int)) (x1:Int):Z10 :=
 cond (ilt x1 (List.length x0)) (qa (qd x0 x1) λ v1=>cond (ilt v1.2 (-1000)) (some 7) (qa (qd x0 x1) λ v2=>cond (ilt 1000 v2.2) (some 7) (K1 x0 (iw .i64 (qj x1 1))))) (cond (ilt 200 (List.length x0))
 (some 3) (some 0))
def Qa (m:Nat):=qN (λ _ _=>none) λ ih=>qbT m ih
def qb4:Nat→Z47:=qf (λ _=>none) λ m _=>qb1 m (Qa m m)
def qfE (m:Nat) (K1:qHD) (a0 a1:List (T × Int)):Z44 :=
 qa (qaM m a0) λ v1=>cond (qc (ieq v1 0)) (some ([],v1)) (qa (qaM m a1) λ v2=>cond (qc (ieq v2 0)) (some ([],v2)) (cond (yd (List.length ([]:List (T × Int))+List.length a0) 64)
 (qh1 a0 (K1 a1 0 []) λ v3 v4=>K1 a1 0 ([]++(v3::v4))) none))
def qfg (m:Nat) (K1:qHD) (x0:List (T × Int)) (x1:Int) (x2:List (T × Int)):Z44 :=
 cond (ilt x1 (List.length x0)) (qa (qd x0 x1) λ v1=>qa (qd x0 x1) λ v2=>qa (qe6 m x2 (re v1.1) v2.2) λ v3=>K1 x0 (iw .i64 (qj x1 1)) v3.2.1) (qa (qb4 m x2) λ v4 =>
 cond (qc (ieq v4 0)) (some ([],v4)) (some (x2,0)))
def JP (m:Nat):=qN (λ _ _ _=>none) λ ih=>qfg m ih
def qhb:Nat→Z55:=qf (λ _ _=>none) λ m _=>qfE m (JP m m)
def qf9 (m:Nat) (a0 a1:T):Z30 :=
 qa (qeM m (re a1)) λ v1=>cond (qc (ieq v1.2 0)) (some (T.mk 0 [] 0 [],v1.2)) (qa (J6 m (re a0) [101,120,112]) λ v2=>cond v2 (qa (qd (T.kids a0) 1) λ v3 =>
 qa (qeM m (re v3)) λ v4=>cond (qc (ieq v4.2 0)) (some (T.mk 0 [] 0 [],v4.2)) (qa (qhb m v4.1 v1.1) λ v5=>cond (qc (ieq v5.2 0)) (some (T.mk 0 [] 0 [],v5.2))
 (qa (qd (T.kids a0) 0) λ v6=>cond (ieq (List.length v5.1) 0) (some (re v6,0)) (qa (qaG m v5.1) λ v7=>cond (qc (ieq v7.2 0)) (some (T.mk 0 [] 0 [],v7.2))
 (qa (yu m [101,120,112] [re v6,re v7.1]) λ v8=>some (re v8,0)))))) (cond (ieq (List.length v1.1) 0) (some (re a0,0)) (qa (qaG m v1.1) λ v9=>cond (qc (ieq v9.2 0))
 (some (T.mk 0 [] 0 [],v9.2)) (qa (yu m [101,120,112] [re a0,re v9.1]) λ v10=>some (re v10,0)))))
def qeg:Nat→Z56:=qf (λ _ _=>none) λ m _=>qf9 m
def qcr (m:Nat) (q_ref09_normal:Z57) (K1:qH2) (a0:T):Z30 :=
 cond (qc (ieq (T.kind a0) 3)) (some (re a0,0)) (K1 0 (T.kind a0) (T.name a0) (T.sort a0) (T.kids a0) 0 [] 0 [] [])
def qcI (m:Nat) (q_ref09_normal:Z57) (K1:qH2) (x0 x1:Int) (x2:List UInt8) (x3:Int) (x4:List (T)) (x5:Int) (x6:List UInt8) (x7:Int) (x8 x9:List (T)):Z30 :=
 cond (ilt x0 (List.length x4)) (qa (qd x4 x0) λ v1=>qa (q_ref09_normal (re v1)) λ v2=>cond (qc (ieq v2.2 0)) (some (T.mk 0 [] 0 [],v2.2)) (cond (yd (List.length x9+1) 56)
 (K1 (iw .i64 (qj x0 1)) x1 x2 x3 x4 x5 x6 x7 x8 (x9++[re v2.1])) none)) (qa (yu m x2 x9) λ v3=>qa (qbW m x2) λ v4=>cond (ieq v4 3) (qa (qb6 m (re v3)) λ v5 =>
 some (re v5.1,0)) (cond (qB x2 [120,111,114]) (qa (qg9 m x9) λ v6=>some (re v6.1,v6.2)) (let j1:Z30:=(qa (qan m (re v3)) λ v7=>some (re v7.1,v7.2));
 cond (qB x2 [109,117,108]) j1 (cond (qB x2 [105,110,118]) j1 (cond (qB x2 [111,110,101]) j1 (cond (qB x2 [101,120,112]) (qa (qd x9 0) λ v10=>qa (qd x9 1) λ v11 =>
 qa (qeg m (re v10) (re v11)) λ v12=>some (re v12.1,v12.2)) (some (re v3,0))))))))
def QR (m:Nat) (q_ref09_normal:Z57):=qN (λ _ _ _ _ _ _ _ _ _ _=>none) λ ih=>qcI m q_ref09_normal ih
def yf:Nat→Z57:=qf (λ _=>none) λ m q_ref09_normal=>qcr m q_ref09_normal (QR m q_ref09_normal m)
def qft (m:Nat) (a0:T):Z30 :=
 qa (qea m (re a0)) λ v1=>cond (qc (ieq v1 0)) (some (T.mk 0 [] 0 [],v1)) (qa (yf m (re a0)) λ v2=>cond (qc (ieq v2.2 0)) (some (T.mk 0 [] 0 [],v2.2))
 (qa (zI m (re v2.1)) λ v3=>cond (qc (ieq v3 0)) (some (T.mk 0 [] 0 [],v3)) (some (re v2.1,0))))
def qcM:Nat→Z57:=qf (λ _=>none) λ m _=>qft m
def qfQ (m:Nat) (q_ref01_All:Z27) (K1:qIt) (a0:T):Z23 :=
 K1 0 (T.kind a0) (T.name a0) (T.sort a0) (T.kids a0) [re a0]
def qf5 (m:Nat) (q_ref01_All:Z27) (K1:qIt) (x0 x1:Int) (x2:List UInt8) (x3:Int) (x4 x5:List (T)):Z23 :=
 cond (ilt x0 (List.length x4)) (qa (qd x4 x0) λ v1=>qa (q_ref01_All (re v1)) λ v2=>cond (yd (List.length x5+List.length v2) 56) (K1 (iw .i64 (qj x0 1)) x1 x2 x3 x4 (x5++v2)) none) (some x5)
def qaU (m:Nat) (q_ref01_All:Z27):=qN (λ _ _ _ _ _ _=>none) λ ih=>qf5 m q_ref01_All ih
def jh:Nat→Z27:=qf (λ _=>none) λ m q_ref01_All=>qfQ m q_ref01_All (qaU m q_ref01_All m)
def qdF (m:Nat) (K1:qIG) (a0:T):Z1 :=
 qa (qcM m (re a0)) λ v1=>cond (qc (ieq v1.2 0)) (some false) (qa (yS m (re a0) (re v1.1)) λ v2=>cond (qc v2) (some false) (qa (jh m (re a0)) λ v3=>K1 v3 0))
def qdo (m:Nat) (K1:qIG) (x0:List (T)) (x1:Int):Z1 :=
 cond (ilt x1 (List.length x0)) (qa (qd x0 x1) λ v1=>cond (ieq (T.kind v1) 3) (qa (qd x0 x1) λ v2=>qa (qbW m (T.name v2)) λ v3=>cond (ieq v3 3) (some false) (K1 x0 (iw .i64 (qj x1 1))))
 (K1 x0 (iw .i64 (qj x1 1)))) (some true)
def Jp (m:Nat):=qN (λ _ _=>none) λ ih=>qdo m ih
def qef:Nat→Z35:=qf (λ _=>none) λ m _=>qdF m (Jp m m)
def qfI (m:Nat) (K1:Z96) (a0:TL):Z23 :=
 K1 a0 [] 0
def qfe (m:Nat) (K1:Z96) (x0 x1:List (T)) (x2:Int):Z23 :=
 cond (ilt x2 (List.length x0)) (qa (qd x0 x2) λ v1=>qa (qeX m x1 (re v1)) λ v2=>K1 x0 v2 (iw .i64 (qj x2 1))) (some x1)
def qaZ (m:Nat):=qN (λ _ _ _=>none) λ ih=>qfe m ih
def qg6:Nat→Z32:=qf (λ _=>none) λ m _=>qfI m (qaZ m m)
def qey (m:Nat) (K1:qHK) (a0:T) (a1:Int):Z23 :=
 qa (jh m (re a0)) λ v1=>K1 a1 v1 0 []
def qen (m:Nat) (K1:qHK) (x0:Int) (x1:List (T)) (x2:Int) (x3:List (T)):Z23 :=
 cond (ilt x2 (List.length x1)) (qa (qd x1 x2) λ v1=>cond (ieq (T.kind v1) x0) (qa (qd x1 x2) λ v2=>cond (yd (List.length x3+1) 56) (K1 x0 x1 (iw .i64 (qj x2 1)) (x3++[re v2])) none)
 (K1 x0 x1 (iw .i64 (qj x2 1)) x3)) (qa (qg6 m x3) λ v3=>some v3)
def JV (m:Nat):=qN (λ _ _ _ _=>none) λ ih=>qen m ih
def qfh:Nat→(T→Int→Z23):=qf (λ _ _=>none) λ m _=>qey m (JV m m)
def qhB (m:Nat) (a0:T):Z23 :=
 qa (qfh m (re a0) 1) λ v1=>some v1
def qf4:Nat→Z27:=qf (λ _=>none) λ m _=>qhB m
def qf3 (m:Nat) (a0:T):Z1 :=
 qa (qf4 m (re a0)) λ v1=>some (ieq (List.length v1) 0)
def qc5:Nat→Z35:=qf (λ _=>none) λ m _=>qf3 m
def qf0 (m:Nat) (a0:T):Z1 :=
 qa (qef m (re a0)) λ v1=>cond v1 (qa (qc5 m (re a0)) λ v2=>some v2) (some false)
def Qi:Nat→Z35:=qf (λ _=>none) λ m _=>qf0 m
def qi5 (m:Nat) (a0:T):Z66 :=
 qa (Qi m (re a0)) λ v1=>cond (qc v1) (some ((T.mk 0 [] 0 [],(0,([],0))),10)) (some ((re a0,(0,([],4))),0))
def qe3:Nat→Z67:=qf (λ _=>none) λ m _=>qi5 m
def qk3 (m:Nat) (K1:qIE) (a0:T × (Int × ((List (Int × T)) × Int))):Z10 :=
 qa (Qi m (re a0.1)) λ v1=>cond (qc v1) (some 1) (cond (ilt a0.2.1 0) (some 1) (cond (ilt 1000 a0.2.1) (some 1) (cond (ilt a0.2.2.2 0) (some 1) (cond (ilt 8 a0.2.2.2) (some 1)
 (cond (ilt a0.2.2.2 (List.length a0.2.2.1)) (some 1) (K1 (-1) 0 (T.kind a0.1) (T.name a0.1) (T.sort a0.1) (T.kids a0.1) a0.2.1 a0.2.2.1 a0.2.2.2))))))
def qtP (m:Nat) (K1:qIE) (x0 x1 x2:Int) (x3:List UInt8) (x4:Int) (x5:List (T)) (x6:Int) (x7:List (Int × T)) (x8:Int):Z10 :=
 cond (ilt x1 (List.length x7)) (qa (qd x7 x1) λ v1=>cond (ile v1.1 x0) (some 1) (qa (qd x7 x1) λ v2=>cond (ile x6 v2.1) (some 1) (qa (qd x7 x1) λ v3=>qa (Qi m (re v3.2)) λ v4 =>
 cond (qc v4) (some 1) (qa (qd x7 x1) λ v5=>K1 v5.1 (iw .i64 (qj x1 1)) x2 x3 x4 x5 x6 x7 x8)))) (some 0)
def qmt (m:Nat):=qN (λ _ _ _ _ _ _ _ _ _=>none) λ ih=>qtP m ih
def qkp:Nat→Z75:=qf (λ _=>none) λ m _=>qk3 m (qmt m m)
def qeI (m:Nat) (a0:T) (a1:Y8):Z21 :=
 qa (qfu m a1 5) λ v1=>qa (yu m [112,97,105,114] [re a0,re v1]) λ v2=>qa (yu m [104,97,115,104] [re v2]) λ v3=>some (re v3)
def qak:Nat→(T→Y8→Z21):=qf (λ _ _=>none) λ m _=>qeI m
def qhw (m:Nat) (a0:T):Z21 :=
 qa (qak m (re a0) [99,104,97,105,110]) λ v1=>some (re v1)
def qdm:Nat→Z22:=qf (λ _=>none) λ m _=>qhw m
def qhq (m:Nat) (a0:T):Z1 :=
 qa (zI m (re a0)) λ v1=>some (qc (ieq v1 0))
def qaE:Nat→Z35:=qf (λ _=>none) λ m _=>qhq m
def qiw (m:Nat) (a0:T):Z21 :=
 qa (qak m (re a0) [109,101,115,115,97,103,101]) λ v1=>some (re v1)
def qeY:Nat→Z22:=qf (λ _=>none) λ m _=>qiw m
def qvJ (m:Nat) (a0:T × (Int × ((List (Int × T)) × Int))) (a1:T):qIw :=
 qa (qkp m (re a0.1,(a0.2.1,(a0.2.2.1,a0.2.2.2)))) λ v1=>cond (qc (ieq v1 0)) (some ((T.mk 0 [] 0 [],(0,([],0))),(0,T.mk 0 [] 0 []),v1)) (qa (Qi m (re a1)) λ v2=>cond (qc v2)
 (some ((T.mk 0 [] 0 [],(0,([],0))),(0,T.mk 0 [] 0 []),10)) (cond (ieq a0.2.1 1000) (some ((T.mk 0 [] 0 [],(0,([],0))),(0,T.mk 0 [] 0 []),7)) (qa (qeY m (re a0.1)) λ v3 =>
 qa (yu m [101,110,99] [re a1,re v3]) λ v4=>qa (qdm m (re a0.1)) λ v5=>qa (qaE m (re v5)) λ v6=>cond v6 (some ((T.mk 0 [] 0 [],(0,([],0))),(0,T.mk 0 [] 0 []),3))
 (qa (qaE m (re v4)) λ v7=>cond v7 (some ((T.mk 0 [] 0 [],(0,([],0))),(0,T.mk 0 [] 0 []),3)) (some ((re v5,(iw .i64 (qj a0.2.1 1),(a0.2.2.1,a0.2.2.2))),(a0.2.1,re v4),0))))))
def ql4:Nat→(Z74→T→qIw):=qf (λ _ _=>none) λ m _=>qvJ m
def qmI (m:Nat) (K1:qIN) (a0:Int):qCc :=
 qa (qdQ m) λ v1=>qa (qe3 m (re v1)) λ v2=>K1 a0 0 (T.kind v2.1.1) (T.name v2.1.1) (T.sort v2.1.1) (T.kids v2.1.1) v2.1.2.1 v2.1.2.2.1 v2.1.2.2.2 []
def qwk (m:Nat) (K1:qIN) (x0 x1 x2:Int) (x3:List UInt8) (x4:Int) (x5:List (T)) (x6:Int) (x7:List (Int × T)) (x8:Int) (x9:List (Int × T)):qCc :=
 cond (ilt x1 x0) (qa (qd [[112],[113]] (qBf x1 2)) λ v1=>qa (qfu m v1 4) λ v2=>qa (ql4 m (T.mk x2 x3 x4 x5,(x6,(x7,x8))) (re v2)) λ v3=>cond (qc (ieq v3.2.2 0)) (some x9)
 (cond (yd (List.length x9+1) 64) (K1 x0 (iw .i64 (qj x1 1)) (T.kind v3.1.1) (T.name v3.1.1) (T.sort v3.1.1) (T.kids v3.1.1) v3.1.2.1 v3.1.2.2.1 v3.1.2.2.2 (x9++[(v3.2.1.1,re v3.2.1.2)])) none)) (some x9)
def qnk (m:Nat):=qN (λ _ _ _ _ _ _ _ _ _ _=>none) λ ih=>qwk m ih
def qlZ:Nat→(Int→qCc):=qf (λ _=>none) λ m _=>qmI m (qnk m m)
def qs8 (m:Nat):Z1 :=
 qa (qdQ m) λ v1=>qa (qaQ m (re v1) 0) λ v2=>qa (qdQ m) λ v3=>qa (qaQ m (re v3) 1) λ v4 =>
 qa (qgP m [104,97,115,104,40,112,97,105,114,40,114,58,110,111,110,99,101,44,32,109,101,115,115,97,103,101,58,116,97,103,41,41]) λ v5 =>
 qa (qgP m [104,97,115,104,40,112,97,105,114,40,104,97,115,104,40,112,97,105,114,40,114,58,110,111,110,99,101,44,32,99,104,97,105,110,58,116,97,103,41,41,44,32,109,101,115,115,97,103,101,58,116,97,103,41,41]) λ v6 =>
 qa (qdQ m) λ v7=>qa (qcf m (re v7)) λ v8=>qa (qlZ m 2) λ v9=>let j1:Z1:=(some false);
 cond (qc (ieq v2.2 0)) j1 (cond (qc (ieq v4.2 0)) j1 (cond (qc (ieq v8.2 0)) j1 (cond (qc (ieq (List.length v9) 2)) j1 (qa (yS m (re v2.1) (re v5.1)) λ v10 =>
 cond (qc v10) j1 (qa (yS m (re v4.1) (re v6.1)) λ v11=>cond (qc v11) j1 (qa (qd v9 1) λ v12=>qa (qaB m (re v8.1.1,(v8.1.2.1,(v8.1.2.2.1,v8.1.2.2.2)))
 (v12.1,re v12.2)) λ v13=>qa (qd v9 0) λ v14=>qa (qaB m (re v13.1.1,(v13.1.2.1,(v13.1.2.2.1,v13.1.2.2.2))) (v14.1,re v14.2)) λ v15=>qa (qd v9 0) λ v16 =>
 qa (qaB m (re v15.1.1,(v15.1.2.1,(v15.1.2.2.1,v15.1.2.2.2))) (v16.1,re v16.2)) λ v17=>cond (ieq v13.2.2 0) (cond (ieq v15.2.2 0) (some (ieq v17.2.2 21)) j1) j1))))))
def qaY:Nat→(Z1):=qf (none) λ m _=>qs8 m
def qcw (m:Nat) (q_ref01_budget:qCj) (K1:Z70) (a0:T) (a1:Int):Z10 :=
 cond (ile a1 0) (some (-1)) (cond (ilt 40 (List.length (T.name a0))) (some (-1)) (K1 (iw .i64 (jK a1 1)) 0 (T.kind a0) (T.name a0) (T.sort a0) (T.kids a0)))
def qcu (m:Nat) (q_ref01_budget:qCj) (K1:Z70) (x0 x1 x2:Int) (x3:List UInt8) (x4:Int) (x5:List (T)):Z10 :=
 cond (ilt x1 (List.length x5)) (qa (qd x5 x1) λ v1=>qa (q_ref01_budget (re v1) x0) λ v2=>cond (ilt v2 0) (some (-1)) (K1 v2 (iw .i64 (qj x1 1)) x2 x3 x4 x5)) (some x0)
def QP (m:Nat) (q_ref01_budget:qCj):=qN (λ _ _ _ _ _ _=>none) λ ih=>qcu m q_ref01_budget ih
def ye:Nat→qCj:=qf (λ _ _=>none) λ m q_ref01_budget=>qcw m q_ref01_budget (QP m q_ref01_budget m)
def qfN (m:Nat) (K1:Z59) (a0:TL) (a1 a2:Int):Z1 :=
 cond (ilt a1 (List.length a0)) (some false) (K1 a0 a2 0)
def qfU (m:Nat) (K1:Z59) (x0:List (T)) (x1 x2:Int):Z1 :=
 cond (ilt x2 (List.length x0)) (qa (qd x0 x2) λ v1=>qa (ye m (re v1) x1) λ v2=>cond (ilt v2 0) (some false) (K1 x0 v2 (iw .i64 (qj x2 1)))) (some true)
def qaK (m:Nat):=qN (λ _ _ _=>none) λ ih=>qfU m ih
def qg0:Nat→(TL→Int→Int→Z1):=qf (λ _ _ _=>none) λ m _=>qfN m (qaK m m)
def qfL (m:Nat) (K1:qIF) (a0:T) (a1:Int):Z30 :=
 qa (Qi m (re a0)) λ v1=>cond (qc v1) (some (T.mk 0 [] 0 [],10)) (cond (ilt a1 0) (some (T.mk 0 [] 0 [],7)) (cond (ile 1000 a1) (some (T.mk 0 [] 0 [],7)) (K1 a1 (T.kind a0) (T.name a0) (T.sort a0)
 (T.kids a0) 0 [] 0 [])))
def qff (m:Nat) (K1:qIF) (x0 x1:Int) (x2:List UInt8) (x3:Int) (x4:List (T)) (x5:Int) (x6:List UInt8) (x7:Int) (x8:List (T)):Z30 :=
 cond (ilt 0 x0) (qa (qdm m (T.mk x1 x2 x3 x4)) λ v1=>qa (qaE m (re v1)) λ v2=>cond v2 (some (T.mk 0 [] 0 [],3)) (K1 (iw .i64 (jK x0 1)) (T.kind v1) (T.name v1) (T.sort v1)
 (T.kids v1) x5 x6 x7 x8)) (qa (qeY m (T.mk x1 x2 x3 x4)) λ v3=>qa (qaE m (re v3)) λ v4=>cond v4 (some (T.mk 0 [] 0 [],3)) (some (re v3,0)))
def qaX (m:Nat):=qN (λ _ _ _ _ _ _ _ _ _=>none) λ ih=>qff m ih
def qg2:Nat→Z69:=qf (λ _ _=>none) λ m _=>qfL m (qaX m m)
def qew (m:Nat) (K1:qII) (a0 a1:T × (Int × ((List (Int × T)) × Int))):Z1 :=
 cond (qc (ieq a0.2.1 a1.2.1)) (some false) (cond (qc (ieq a0.2.2.2 a1.2.2.2)) (some false) (cond (qc (ieq (List.length a0.2.2.1) (List.length a1.2.2.1))) (some false) (qa (yS m (re a0.1)
 (re a1.1)) λ v1=>cond (qc v1) (some false) (K1 0 (T.kind a0.1) (T.name a0.1) (T.sort a0.1) (T.kids a0.1) a0.2.1 a0.2.2.1 a0.2.2.2 (T.kind a1.1) (T.name a1.1) (T.sort a1.1) (T.kids a1.1) a1.2.1 a1.2.2.1 a1.2.2.2))))
def qev (m:Nat) (K1:qII) (x0 x1:Int) (x2:List UInt8) (x3:Int) (x4:List (T)) (x5:Int) (x6:List (Int × T)) (x7 x8:Int) (x9:List UInt8) (x10:Int) (x11:List (T)) (x12:Int) (x13:List (Int × T)) (x14:Int):Z1 :=
 cond (ilt x0 (List.length x6)) (qa (qd x6 x0) λ v1=>qa (qd x13 x0) λ v2=>cond (qc (ieq v1.1 v2.1)) (some false) (qa (qd x6 x0) λ v3=>qa (qd x13 x0) λ v4 =>
 qa (yS m (re v3.2) (re v4.2)) λ v5=>cond (qc v5) (some false) (K1 (iw .i64 (qj x0 1)) x1 x2 x3 x4 x5 x6 x7 x8 x9 x10 x11 x12 x13 x14))) (some true)
def J1 (m:Nat):=qN (λ _ _ _ _ _ _ _ _ _ _ _ _ _ _ _=>none) λ ih=>qev m ih
def qfY:Nat→(Z74→Z74→Z1):=qf (λ _ _=>none) λ m _=>qew m (J1 m m)
def qci (m:Nat) (a0:T) (a1:Int):Z1 :=
 qa (qaY m) λ v1=>let j1:Z1:=(qa (qaY m) λ v2=>some v2);cond (qc v1) j1 (qa (qg0 m [re a0] 1 100) λ v3=>cond (qc v3) j1 (qa (qcf m (re a0)) λ v5 =>
 qa (qe3 m (re a0)) λ v6=>qa (qaQ m (re a0) a1) λ v7=>qa (qg2 m (re a0) a1) λ v8=>cond (ieq v5.2 v6.2) (qa (qfY m (re v5.1.1,(v5.1.2.1,(v5.1.2.2.1,v5.1.2.2.2)))
 (re v6.1.1,(v6.1.2.1,(v6.1.2.2.1,v6.1.2.2.2)))) λ v9=>cond v9 (cond (ieq v7.2 v8.2) (qa (yS m (re v7.1) (re v8.1)) λ v10=>some v10) (some false)) (some false)) (some false)))
def law53_RatchetNew:Nat→(T→Int→Z1):=qf (λ _ _=>none) λ m _=>qci m
end
end Go.AmYtbpnmbmdbblehaaGreat
namespace Go.AmYtbpnmbmdbblehaaGreat
open Go Go.GxYtbpnmbmdbblehaaGreat
def Ev {α : Type} (F:Nat→Nat→Option α) (r : α):Prop:=∃ B,∀ m k,B≤m→B≤k→F m k=some r
section
variable {α β : Type} {F G:Nat→Nat→Option α} {r : α}
theorem Ev.pure (r : α):Ev (λ _ _=>some r) r:=⟨0,λ _ _ _ _=>rfl⟩
theorem Ev.ret {r r' : α} (h:r=r'):Ev (λ _ _=>some r) r':=by subst h;exact .pure r
theorem Ev.bind {X:Nat→Nat→Option β} {K:Nat→Nat → β → Option α} {a : β} (h:Ev X a) (g:Ev (λ m k=>K m k a) r):Ev (λ m k=>qa (X m k) (K m k)) r:=by
 obtain ⟨B,h⟩:=h
 obtain ⟨C,g⟩:=g
 refine ⟨max B C,λ m k hm hk=>?_⟩
 simp only [h m k (by omega) (by omega),qa]
 exact g m k (by omega) (by omega)
theorem Ev.congr (h:Ev F r) (e:∀ m k,G m k=F m k):Ev G r:=by
 obtain ⟨B,h⟩:=h
 exact ⟨B,λ m k hm hk=>(e m k).trans (h m k hm hk)⟩
theorem Ev.res {r' : α} (h:Ev F r) (e:r=r'):Ev F r':=by subst e;exact h
theorem Ev.succ {f:Nat→Option α} (h:Ev (λ m _=>f (m+1)) r):Ev (λ m _=>f m) r:=by
 obtain ⟨B,h⟩:=h
 refine ⟨B+1,λ m k hm hk=>?_⟩
 obtain ⟨m,rfl⟩:∃ n,m=n+1:=⟨m-1,by omega⟩
 exact h m B (by omega) (Nat.le_refl _)
theorem Ev.loop {L:Nat→Nat→Option α} (h:Ev (λ m k=>L m (k+1)) r):Ev (λ m k=>L m k) r:=by
 obtain ⟨B,h⟩:=h
 refine ⟨B+1,λ m k hm hk=>?_⟩
 obtain ⟨k,rfl⟩:∃ n,k=n+1:=⟨k-1,by omega⟩
 exact h m k (by omega) (by omega)
theorem Ev.diag {L:Nat→Nat→Option α} (h:Ev L r):Ev (λ m _=>L m m) r:=by
 obtain ⟨B,h⟩:=h
 exact ⟨B,λ m k hm _=>h m m hm hm⟩
theorem Ev.ct {b:Bool} (hb:b=true) (h:Ev F r):Ev (λ m k=>cond b (F m k) (G m k)) r:=by subst hb;exact h
theorem Ev.cf {b:Bool} (hb:b=false) (h:Ev G r):Ev (λ m k=>cond b (F m k) (G m k)) r:=by subst hb;exact h
theorem Ev.ite {b:Bool} (h:b=true→Ev F r) (g:b=false→Ev G r):Ev (λ m k=>cond b (F m k) (G m k)) r:=by
 cases b with
 | true=>exact h rfl
 | false=>exact g rfl
theorem Ev.some {x:Option β} {K:Nat→Nat → β → Option α} {a : β} (hx:x=some a) (g:Ev (λ m k=>K m k a) r):Ev (λ m k=>qa x (K m k)) r:=by subst hx;exact g
theorem Ev.case {l:List β} {K:Nat→Nat → β → List β → Option α} (h:l=[]→Ev F r) (g:∀ x t,l=x::t→Ev (λ m k=>K m k x t) r):Ev (λ m k=>qh1 l (F m k) (K m k)) r:=by
 cases l with
 | nil=>exact h rfl
 | cons x t=>exact g x t rfl
theorem Ev.get {x:Option α} (h:Ev (λ _ _=>x) r):x=Option.some r:=by
 obtain ⟨B,h⟩:=h
 exact h B B (Nat.le_refl _) (Nat.le_refl _)
end
theorem qu {a b:Int}:ilt a b=true↔a<b:=by unfold ilt;exact decide_eq_true_iff
theorem qv {a b:Int}:ilt a b=false↔b≤a:=by unfold ilt;rw [decide_eq_false_iff_not];omega
theorem qgM {a b:Int}:ile a b=true↔a≤b:=by unfold ile;exact decide_eq_true_iff
theorem qic {a b:Int}:ile a b=false↔b<a:=by unfold ile;rw [decide_eq_false_iff_not];omega
theorem qi {a b:Int}:ieq a b=true↔a=b:=by unfold ieq;exact beq_iff_eq
theorem qg {a b:Int}:ieq a b=false↔a≠b:=by unfold ieq;exact beq_eq_false_iff_ne
theorem bnt {b:Bool}:qc b=true↔b=false:=by cases b<;>simp [qc]
theorem bnf {b:Bool}:qc b=false↔b=true:=by cases b<;>simp [qc]
theorem y8 {a b:List UInt8}:qB a b=true↔a=b:=by unfold qB;exact beq_iff_eq
theorem jq {a b:List UInt8}:qB a b=false↔a≠b:=by unfold qB;exact beq_eq_false_iff_ne
theorem Qo {n:Int} (h:-9223372036854775808≤n∧n≤9223372036854775807):iw .i64 n=n:=IntWalk.i64_in n h
theorem qla (a b:Nat):qj (a:Int) (b:Int)=((a+b:Nat):Int):=by unfold qj;omega
theorem zh {n b:Nat} (h:n*b≤2 ^ 47) (hb:0<b):yd n b=true:=by
 unfold yd
 rw [decide_eq_true_iff]
 refine ⟨h,?_⟩
 have:n*1≤n*b:=Nat.mul_le_mul_left _ hb
 omega
theorem jI {α : Type} (l:List α) (i:Nat):qd l (i:Int)=l[i]? := by
 unfold qd
 rw [if_pos (by omega),Int.toNat_natCast]
theorem Ja {α : Type} (l:List α):qd l 0=l[0]? := jI l 0
theorem qr {α : Type} {P:Nat→Prop} (l:List α) (hl:l.length<2 ^ 62) (hend:ilt (l.length:Int) (l.length:Int)=false→P l.length)
  (hstep:∀ (i:Nat) (x : α),l[i]? = some x→l.drop i=x::l.drop (i+1)→ilt (i:Int) (l.length:Int)=true→qd l (i:Int)=some x→iw .i64 (qj (i:Int) 1)=((i+1:Nat):Int)→P (i+1)→P i):∀ i,i≤l.length→P i:=by
 intro i hi
 obtain ⟨d,hd⟩:∃ d,l.length=i+d:=⟨l.length-i,by omega⟩
 induction d generalizing i with
 | zero =>
   have:i=l.length:=by omega
   subst this
   exact hend (qv.2 (Int.le_refl _))
 | succ d ih =>
   have hlt:i<l.length:=by omega
   have hget:=List.getElem?_eq_getElem hlt
   refine hstep i _ hget (List.drop_eq_getElem_cons hlt) (qu.2 (by omega)) (by rw [jI,hget]) ?_ (ih (i+1) (by omega) (by omega))
   rw [show qj (i:Int) 1=((i+1:Nat):Int) by unfold qj;omega,Qo (by omega)]
end Go.AmYtbpnmbmdbblehaaGreat
namespace Go.AmYtbpnmbmdbblehaaGreat
open Go Go.GxYtbpnmbmdbblehaaGreat
set_option linter.unusedVariables false
theorem qzp (m):qeT (m+1)=qi4 m:=rfl
theorem qvm (m):qaO (m+1)=qdD m (jF m m):=rfl
theorem qkC (m k):(jF m (k+1))=qdG m (jF m k):=rfl
theorem qxB (m):zF (m+1)=qeB m (zF m) (yU m (zF m) m):=rfl
theorem qmG (m k):(yU m (zF m) (k+1))=qem m (zF m) (yU m (zF m) k):=rfl
theorem qwC (m):zu (m+1)=qhs m:=rfl
theorem qrA (m):qal (m+1)=qbZ m (Qc m m):=rfl
theorem qiK (m k):(Qc m (k+1))=qbY m (Qc m k):=rfl
theorem qt8 (m):qz (m+1)=qcl m (qz m) (qM m (qz m) m).1 (qM m (qz m) m).2:=rfl
theorem qjW (m k):(qM m (qz m) (k+1)).1=qcq m (qz m) (qM m (qz m) k).1 (qM m (qz m) k).2:=rfl
theorem qjB (m k):(qM m (qz m) (k+1)).2=qcE m (qz m) (qM m (qz m) k).1 (qM m (qz m) k).2:=rfl
theorem quc (m):qcJ (m+1)=qfz m:=rfl
theorem qzf (m):qbz (m+1)=qjj m:=rfl
theorem qzr (m):ji (m+1)=qfv m (ji m) (qaT m (ji m) m):=rfl
theorem qnL (m k):(qaT m (ji m) (k+1))=qfb m (ji m) (qaT m (ji m) k):=rfl
theorem qtO (m):qs (m+1)=qco m (qs m) (jp m (qs m) m):=rfl
theorem qfy (m k):(jp m (qs m) (k+1))=qaF m (qs m) (jp m (qs m) k):=rfl
theorem qvu (m):j9 (m+1)=qgC m:=rfl
theorem qzs (m):yv (m+1)=qiE m:=rfl
theorem qqO (m):JS (m+1)=qdZ m:=rfl
theorem qeh (m):zc (m+1)=yz m (ql m m).1 (ql m m).2:=rfl
theorem Jz (m k):(ql m (k+1)).1=yw m (ql m k).1 (ql m k).2:=rfl
theorem JA (m k):(ql m (k+1)).2=yB m (ql m k).1 (ql m k).2:=rfl
theorem qy7 (m):qgS (m+1)=qfx m (qaR m m):=rfl
theorem qok (m k):(qaR m (k+1))=qfA m (qaR m k):=rfl
theorem qBc (m):qga (m+1)=qgN m (qbD m m):=rfl
theorem qpm (m k):(qbD m (k+1))=qgL m (qbD m k):=rfl
theorem qs2 (m):zO (m+1)=qcn m (zO m) (jO m (zO m) m):=rfl
theorem qj6 (m k):(jO m (zO m) (k+1))=qcD m (zO m) (jO m (zO m) k):=rfl
theorem qxg (m):yg (m+1)=qeC m (yg m) (JU m (yg m) m):=rfl
theorem qms (m k):(JU m (yg m) (k+1))=qeu m (yg m) (JU m (yg m) k):=rfl
theorem qsQ (m):qc8 (m+1)=qcp m (JR m m):=rfl
theorem qsc (m k):(JR m (k+1))=qfP m (JR m k):=rfl
theorem qCs (m):QD (m+1)=qh6 m (QD m) (qda m (QD m) m):=rfl
theorem qq2 (m k):(qda m (QD m) (k+1))=qhX m (QD m) (qda m (QD m) k):=rfl
theorem qDX (m):qkx (m+1)=qhS m (qcV m m):=rfl
theorem qsf (m k):(qcV m (k+1))=qia m (qcV m k):=rfl
theorem qo3 (m):Jm (m+1)=qdj m:=rfl
theorem qqb (m):q9 (m+1)=qa0 m (q9 m) (jM m (q9 m) m):=rfl
theorem qhM (m k):(jM m (q9 m) (k+1))=qa8 m (q9 m) (jM m (q9 m) k):=rfl
theorem qmQ (m):Qp (m+1)=qbI m:=rfl
theorem j8 (m):qx (m+1)=qE m (qn m m):=rfl
theorem zW (m k):(qn m (k+1))=qD m (qn m k):=rfl
theorem qo9 (m):Jn (m+1)=qcK m:=rfl
theorem qn1 (m):qY (m+1)=qab m (qY m) (yN m (qY m) m):=rfl
theorem qf7 (m k):(yN m (qY m) (k+1))=qad m (qY m) (yN m (qY m) k):=rfl
theorem qv1 (m):JO (m+1)=qgw m:=rfl
theorem qqp (m):QQ (m+1)=qa5 m (jg m m):=rfl
theorem qhP (m k):(jg m (k+1))=qba m (jg m k):=rfl
theorem qri (m):jE (m+1)=qbR m (qt m m).1 (qt m m).2.1 (qt m m).2.2:=rfl
theorem qjl (m k):(qt m (k+1)).1=qbQ m (qt m k).1 (qt m k).2.1 (qt m k).2.2:=rfl
theorem qiY (m k):(qt m (k+1)).2.1=qbO m (qt m k).1 (qt m k).2.1 (qt m k).2.2:=rfl
theorem qi2 (m k):(qt m (k+1)).2.2=qbJ m (qt m k).1 (qt m k).2.1 (qt m k).2.2:=rfl
theorem qpc (m):qaA (m+1)=qav m (ju m m):=rfl
theorem qg7 (m k):(ju m (k+1))=qaw m (ju m k):=rfl
theorem qmR (m):Jx (m+1)=qbU m:=rfl
theorem qaz (m):qW (m+1)=zm m (qw m m):=rfl
theorem zZ (m k):(qw m (k+1))=qO m (qw m k):=rfl
theorem JX (m):qQ (m+1)=zK m:=rfl
theorem qo1 (m):qaI (m+1)=qcO m:=rfl
theorem qtf (m):qc9 (m+1)=qcz m (QF m m):=rfl
theorem qjC (m k):(QF m (k+1))=qcs m (QF m k):=rfl
theorem qtr (m):qcP (m+1)=qe8 m:=rfl
theorem qrK (m):zM (m+1)=qbB m (zM m) (Qe m (zM m) m):=rfl
theorem qiM (m k):(Qe m (zM m) (k+1))=qbM m (zM m) (Qe m (zM m) k):=rfl
theorem qq6 (m):qb3 (m+1)=qeD m:=rfl
theorem qqG (m):qbn (m+1)=qd5 m:=rfl
theorem qlh (m):qH (m+1)=Jh m (qH m) (yk m (qH m) m):=rfl
theorem qeZ (m k):(yk m (qH m) (k+1))=Ji m (qH m) (yk m (qH m) k):=rfl
theorem qs1 (m):qdb (m+1)=qfS m:=rfl
theorem qkj (m):Qm (m+1)=qaf m:=rfl
theorem qmT (m):qZ (m+1)=JI m (qZ m) (yW m (qZ m) m):=rfl
theorem qfD (m k):(yW m (qZ m) (k+1))=JL m (qZ m) (yW m (qZ m) k):=rfl
theorem qbx (m):qS (m+1)=qoG (qs m):=rfl
theorem qpx (m):ya (m+1)=qdW m:=rfl
theorem qax (m):qF (m+1)=qr4 (ya m):=rfl
theorem qtp (m):qcR (m+1)=qcy m (QN m m):=rfl
theorem qjL (m k):(QN m (k+1))=qcm m (QN m k):=rfl
theorem qvw (m):qgH (m+1)=qf8 m:=rfl
theorem qzb (m):qg1 (m+1)=qi9 m:=rfl
theorem qrd (m):jC (m+1)=qeP m:=rfl
theorem qDZ (m):qkX (m+1)=qik m (qeQ m m):=rfl
theorem qAV (m k):(qeQ m (k+1))=ql6 m (qeQ m k):=rfl
theorem qqq (m):yE (m+1)=qd0 m:=rfl
theorem qvA (m):qcf (m+1)=qgg m:=rfl
theorem qo4 (m):Jl (m+1)=qc6 m:=rfl
theorem qtJ (m):qbq (m+1)=qfa m:=rfl
theorem qvx (m):qce (m+1)=qgu m:=rfl
theorem qvk (m):qaQ (m+1)=qdx m (Js m m):=rfl
theorem qkI (m k):(Js m (k+1))=qdr m (Js m k):=rfl
theorem qtw (m):Jf (m+1)=qf1 m:=rfl
theorem qwZ (m):yA (m+1)=qel m (yA m) (J5 m (yA m) m):=rfl
theorem qmE (m k):(J5 m (yA m) (k+1))=qer m (yA m) (J5 m (yA m) k):=rfl
theorem qrF (m):zi (m+1)=qbN m (zi m) (Qg m (zi m) m):=rfl
theorem qiO (m k):(Qg m (zi m) (k+1))=qbV m (zi m) (Qg m (zi m) k):=rfl
theorem qy1 (m):yS (m+1)=qhA m:=rfl
theorem qtu (m):J7 (m+1)=qfF m:=rfl
theorem qvX (m):qcd (m+1)=qgm m:=rfl
theorem qtl (m):Qb (m+1)=qcH m (QJ m m):=rfl
theorem qjT (m k):(QJ m (k+1))=qct m (QJ m k):=rfl
theorem qyS (m):qfO (m+1)=qhr m:=rfl
theorem qwc (m):yH (m+1)=qdE m (yH m) (Jo m (yH m) m):=rfl
theorem qkV (m k):(Jo m (yH m) (k+1))=qdN m (yH m) (Jo m (yH m) k):=rfl
theorem qwa (m):yK (m+1)=qdP m (yK m) (Ju m (yK m) m):=rfl
theorem qkN (m k):(Ju m (yK m) (k+1))=qdq m (yK m) (Ju m (yK m) k):=rfl
theorem qvQ (m):zI (m+1)=qgh m:=rfl
theorem qxD (m):qbW (m+1)=qex m (J2 m m):=rfl
theorem qmq (m k):(J2 m (k+1))=qeq m (J2 m k):=rfl
theorem qwN (m):qfZ (m+1)=qes m (J3 m m):=rfl
theorem qmH (m k):(J3 m (k+1))=qeA m (J3 m k):=rfl
theorem qtj (m):qde (m+1)=qcA m (QO m m):=rfl
theorem qjX (m k):(QO m (k+1))=qcx m (QO m k):=rfl
theorem qvF (m):yq (m+1)=qdv m (yq m) (Qq m (yq m) m):=rfl
theorem qk5 (m k):(Qq m (yq m) (k+1))=qdK m (yq m) (Qq m (yq m) k):=rfl
theorem qvK (m):qea (m+1)=qgc m:=rfl
theorem qzc (m):yu (m+1)=qjm m:=rfl
theorem qBQ (m):J6 (m+1)=qj8 m:=rfl
theorem qr1 (m):qb6 (m+1)=qeO m:=rfl
theorem qzh (m):qgY (m+1)=qfc m (qaN m m):=rfl
theorem qnc (m k):(qaN m (k+1))=qfT m (qaN m k):=rfl
theorem qzH (m):qeX (m+1)=qfX m (qaV m m):=rfl
theorem qnd (m k):(qaV m (k+1))=qe9 m (qaV m k):=rfl
theorem qt2 (m):qcZ (m+1)=qcB m (QS m m):=rfl
theorem qjS (m k):(QS m (k+1))=qcv m (QS m k):=rfl
theorem qyF (m):qdz (m+1)=qek m (Jc m m):=rfl
theorem qmr (m k):(Jc m (k+1))=qep m (Jc m k):=rfl
theorem qp1 (m):zr (m+1)=qa2 m (zr m) (jk m (zr m) m):=rfl
theorem qhE (m k):(jk m (zr m) (k+1))=qa7 m (zr m) (jk m (zr m) k):=rfl
theorem qv8 (m):qd8 (m+1)=qdt m (Jq m m):=rfl
theorem qkH (m k):(Jq m (k+1))=qdH m (Jq m k):=rfl
theorem qyJ (m):qfr (m+1)=qhu m:=rfl
theorem qxZ (m):qfn (m+1)=qhx m:=rfl
theorem qzm (m):qg9 (m+1)=qfk m (qaS m m):=rfl
theorem qnK (m k):(qaS m (k+1))=qfq m (qaS m k):=rfl
theorem qsq (m):Jt (m+1)=qeN m:=rfl
theorem qwj (m):yn (m+1)=qds m (yn m) (Qt m (yn m) m):=rfl
theorem qkU (m k):(Qt m (yn m) (k+1))=qdp m (yn m) (Qt m (yn m) k):=rfl
theorem qzn (m):qe6 (m+1)=qfl m (Q3 m m):=rfl
theorem qn0 (m k):(Q3 m (k+1))=qfM m (Q3 m k):=rfl
theorem qrm (m):zG (m+1)=qbH m (zG m) (jw m (zG m) m):=rfl
theorem qiP (m k):(jw m (zG m) (k+1))=qbE m (zG m) (jw m (zG m) k):=rfl
theorem qBU (m):qeM (m+1)=qkf m:=rfl
theorem qvn (m):qaM (m+1)=qdM m (Qu m m):=rfl
theorem qkJ (m k):(Qu m (k+1))=qdC m (Qu m k):=rfl
theorem qqE (m):qbh (m+1)=qa1 m (qk m m).1 (qk m m).2.1 (qk m m).2.2.1 (qk m m).2.2.2:=rfl
theorem qhK (m k):(qk m (k+1)).1=qbd m (qk m k).1 (qk m k).2.1 (qk m k).2.2.1 (qk m k).2.2.2:=rfl
theorem qhN (m k):(qk m (k+1)).2.1=qa3 m (qk m k).1 (qk m k).2.1 (qk m k).2.2.1 (qk m k).2.2.2:=rfl
theorem qhO (m k):(qk m (k+1)).2.2.1=qbc m (qk m k).1 (qk m k).2.1 (qk m k).2.2.1 (qk m k).2.2.2:=rfl
theorem qhL (m k):(qk m (k+1)).2.2.2=qbb m (qk m k).1 (qk m k).2.1 (qk m k).2.2.1 (qk m k).2.2.2:=rfl
theorem qyi (m):qaG (m+1)=qhm m:=rfl
theorem qru (m):qan (m+1)=qeE m:=rfl
theorem qr5 (m):qb4 (m+1)=qb1 m (Qa m m):=rfl
theorem qi0 (m k):(Qa m (k+1))=qbT m (Qa m k):=rfl
theorem qy3 (m):qhb (m+1)=qfE m (JP m m):=rfl
theorem qom (m k):(JP m (k+1))=qfg m (JP m k):=rfl
theorem qvZ (m):qeg (m+1)=qf9 m:=rfl
theorem qt5 (m):yf (m+1)=qcr m (yf m) (QR m (yf m) m):=rfl
theorem qjO (m k):(QR m (yf m) (k+1))=qcI m (yf m) (QR m (yf m) k):=rfl
theorem qtB (m):qcM (m+1)=qft m:=rfl
theorem qzB (m):jh (m+1)=qfQ m (jh m) (qaU m (jh m) m):=rfl
theorem qnS (m k):(qaU m (jh m) (k+1))=qf5 m (jh m) (qaU m (jh m) k):=rfl
theorem qwf (m):qef (m+1)=qdF m (Jp m m):=rfl
theorem qkD (m k):(Jp m (k+1))=qdo m (Jp m k):=rfl
theorem qzE (m):qg6 (m+1)=qfI m (qaZ m m):=rfl
theorem qm9 (m k):(qaZ m (k+1))=qfe m (qaZ m k):=rfl
theorem qxC (m):qfh (m+1)=qey m (JV m m):=rfl
theorem qmm (m k):(JV m (k+1))=qen m (JV m k):=rfl
theorem qx0 (m):qf4 (m+1)=qhB m:=rfl
theorem qtb (m):qc5 (m+1)=qf3 m:=rfl
theorem qtg (m):Qi (m+1)=qf0 m:=rfl
theorem qzy (m):qe3 (m+1)=qi5 m:=rfl
theorem qsF (m):qak (m+1)=qeI m:=rfl
theorem qwF (m):qdm (m+1)=qhw m:=rfl
theorem qw2 (m):qaE (m+1)=qhq m:=rfl
theorem qzd (m):qeY (m+1)=qiw m:=rfl
theorem qs5 (m):ye (m+1)=qcw m (ye m) (QP m (ye m) m):=rfl
theorem qj1 (m k):(QP m (ye m) (k+1))=qcu m (ye m) (QP m (ye m) k):=rfl
theorem qzj (m):qg0 (m+1)=qfN m (qaK m m):=rfl
theorem qnr (m k):(qaK m (k+1))=qfU m (qaK m k):=rfl
theorem qy8 (m):qg2 (m+1)=qfL m (qaX m m):=rfl
theorem qnY (m k):(qaX m (k+1))=qff m (qaX m k):=rfl
theorem qwH (m):qfY (m+1)=qew m (J1 m m):=rfl
theorem qmz (m k):(J1 m (k+1))=qev m (J1 m k):=rfl
theorem qob (m):law53_RatchetNew (m+1)=qci m:=rfl
end Go.AmYtbpnmbmdbblehaaGreat
namespace Go.GxYtbpnmbmdbblehaaGreat
noncomputable def size:T→Nat:=T.para λ _ rs=>1+rs.sum
theorem qC (t:T):size t=1+(t.kids.map size).sum:=T.para_eq _ _
theorem size_pos (t:T):1≤size t:=by rw [qC];omega
theorem qBP (l:List T):l.length≤(l.map size).sum:=by
 induction l with
 | nil=>simp
 | cons x l ih=>have:=size_pos x;simp only [List.length_cons,List.map_cons,List.sum_cons];omega
theorem qh7 (l:List T) (x:T) (h:x∈l):size x≤(l.map size).sum:=by
 induction l with
 | nil=>cases h
 | cons y l ih =>
   simp only [List.map_cons,List.sum_cons]
   rcases List.mem_cons.1 h with rfl | h
   ·omega
   ·have:=ih h;omega
theorem jf (t:T) (x:T) (h:x∈t.kids):size x<size t:=by
 have:=qh7 t.kids x h
 rw [qC t];omega
theorem yG (t:T):t.kids.length<size t:=by
 have:=qBP t.kids
 rw [qC t];omega
def sgn (a b:Int):Int:=if a<b then -1 else if b<a then 1 else 0
def thn (x y:Int):Int:=if x=0 then y else x
structure Cmp {α : Type} (f : α → α → Int):Prop where
 rng:∀ a b,f a b=-1∨f a b=0∨f a b=1
 anti:∀ a b,f b a=- f a b
 trans:∀ a b c,f a b=-1→f b c=-1→f a c=-1
 same:∀ a b c,f a b=0→f b c=f a c
theorem Cmp.thn {α : Type} {f g : α → α → Int} (hf:Cmp f) (hg:Cmp g):Cmp λ a b=>thn (f a b) (g a b):=by
 constructor
 ·intro a b
  have:=hf.rng a b;have:=hg.rng a b
  unfold GxYtbpnmbmdbblehaaGreat.thn;split<;>omega
 ·intro a b
  have:=hf.anti a b;have:=hg.anti a b
  unfold GxYtbpnmbmdbblehaaGreat.thn;split<;>split<;>omega
 ·intro a b c h1 h2
  have a1:=hf.anti a b;have a2:=hf.anti b c;have a3:=hf.anti a c
  have t1:=hf.trans a b c;have t2:=hg.trans a b c
  have s1:=hf.same a b c;have s2:=hf.same c b a
  have r1:=hf.rng a b;have r2:=hf.rng b c;have r3:=hf.rng a c
  unfold GxYtbpnmbmdbblehaaGreat.thn at h1 h2 ⊢
  by_cases x1:f a b=0
  ·by_cases x2:f b c=0
   ·rw [if_pos x1] at h1
    rw [if_pos x2] at h2
    rw [if_pos (by rw [← s1 x1];exact x2)]
    exact t2 h1 h2
   ·rw [if_neg x2] at h2
    rw [if_neg (by rw [← s1 x1];exact x2),← s1 x1]
    exact h2
  ·rw [if_neg x1] at h1
   by_cases x2:f b c=0
   ·have:=s2 (by omega)
    rw [if_neg (by omega)]
    omega
   ·rw [if_neg x2] at h2
    have:=t1 h1 h2
    rw [if_neg (by omega)]
    exact this
 ·intro a b c h
  have x1:f a b=0:=by
   unfold GxYtbpnmbmdbblehaaGreat.thn at h
   split at h
   ·assumption
   ·exact absurd h (by assumption)
  have x2:g a b=0:=by
   unfold GxYtbpnmbmdbblehaaGreat.thn at h
   rwa [if_pos x1] at h
  show GxYtbpnmbmdbblehaaGreat.thn _ _=GxYtbpnmbmdbblehaaGreat.thn _ _
  rw [hf.same a b c x1,hg.same a b c x2]
theorem Cmp.on {α β : Type} {f : β → β → Int} (hf:Cmp f) (p : α → β):Cmp λ a b=>f (p a) (p b) :=
 ⟨λ _ _=>hf.rng _ _,λ _ _=>hf.anti _ _,λ _ _ _=>hf.trans _ _ _,λ _ _ _=>hf.same _ _ _⟩
theorem qot:Cmp sgn:=by
 constructor
 ·intro a b;unfold sgn;split<;>(try split)<;>omega
 ·intro a b;unfold sgn;split<;>split<;>(try split)<;>omega
 ·intro a b c;unfold sgn;split<;>split<;>(try split)<;>(try split)<;>omega
 ·intro a b c;unfold sgn;split<;>split<;>(try split)<;>(try split)<;>omega
theorem qjc {a b:Int} (h:sgn a b=0):a=b:=by unfold sgn at h;split at h<;>(try split at h)<;>omega
theorem qEx (a:Int):sgn a a=0:=by unfold sgn;split<;>(try split)<;>omega
open Lib (compareBytes)
theorem qvc (a:List UInt8):compareBytes a a=0:=by
 induction a with
 | nil=>rfl
 | cons x a ih=>simp [compareBytes,ih]
theorem qld:∀ a b:List UInt8,compareBytes a b=-1∨compareBytes a b=0∨compareBytes a b=1
 | [],[]=>by simp [compareBytes]
 | [],_::_=>by simp [compareBytes]
 | _::_,[]=>by simp [compareBytes]
 | x::a,y::b=>by
   unfold compareBytes
   split
   ·simp
   ·split
    ·simp
    ·exact qld a b
theorem qup:∀ a b:List UInt8,compareBytes b a=- compareBytes a b
 | [],[]=>by simp [compareBytes]
 | [],_::_=>by simp [compareBytes]
 | _::_,[]=>by simp [compareBytes]
 | x::a,y::b=>by
   have:=qup a b
   unfold compareBytes
   simp only [UInt8.lt_iff_toNat_lt]
   split<;>split<;>(try split)<;>omega
theorem qj3:∀ a b:List UInt8,compareBytes a b=0→a=b
 | [],[],_=>rfl
 | [],_::_,h=>by simp [compareBytes] at h
 | _::_,[],h=>by simp [compareBytes] at h
 | x::a,y::b,h=>by
   unfold compareBytes at h
   simp only [UInt8.lt_iff_toNat_lt] at h
   split at h
   ·omega
   ·split at h
    ·omega
    ·rw [qj3 a b h,UInt8.toNat_inj.1 (show x.toNat=y.toNat by omega)]
theorem qrP:∀ a b c:List UInt8,compareBytes a b=-1→compareBytes b c=-1→compareBytes a c=-1
 | [],_,[],h1,h2=>by
   rename_i b
   cases b<;>simp [compareBytes] at h1 h2
 | [],_,_::_,_,_=>by simp [compareBytes]
 | _::_,[],_,h1,_=>by simp [compareBytes] at h1
 | _::_,_::_,[],_,h2=>by simp [compareBytes] at h2
 | x::a,y::b,z::c,h1,h2=>by
   have ih:=qrP a b c
   unfold compareBytes at h1 h2 ⊢
   simp only [UInt8.lt_iff_toNat_lt] at h1 h2 ⊢
   split at h1
   ·split at h2
    ·rw [if_pos (by omega)]
    ·split at h2
     ·omega
     ·rw [if_pos (by omega)]
   ·split at h1
    ·omega
    ·split at h2
     ·rw [if_pos (by omega)]
     ·split at h2
      ·omega
      ·rw [if_neg (by omega),if_neg (by omega)];exact ih h1 h2
theorem qF4:Cmp compareBytes :=
 ⟨qld,qup,qrP,λ a b c h=>by rw [qj3 a b h]⟩
def Qj:List (T→Int)→List T→Int
 | r::rs,b::bs=>thn (r b) (Qj rs bs)
 | _,_=>0
noncomputable def qhn (a b:T):Int :=
 thn (sgn (size a) (size b)) (thn (sgn a.kind b.kind) (thn (compareBytes a.name b.name) (thn (sgn a.sort b.sort) (sgn a.kids.length b.kids.length))))
noncomputable def qp:T→T→Int:=T.para λ a rs b=>thn (qhn a b) (Qj rs b.kids)
theorem qe5 (a b:T):qp a b=thn (qhn a b) (Qj (a.kids.map qp) b.kids):=congrFun (T.para_eq _ _) b
theorem qcN:Cmp qhn :=
 (qot.on λ t:T=>(size t:Int)).thn ((qot.on T.kind).thn ((qF4.on T.name).thn ((qot.on T.sort).thn (qot.on λ t:T=>(t.kids.length:Int)))))
theorem qeF {x y:Int} (h:thn x y=0):x=0∧y=0:=by unfold thn at h;split at h<;>omega
theorem qnO {a b:T} (h:qhn a b=0):a.kind=b.kind∧a.name=b.name∧a.sort=b.sort∧a.kids.length=b.kids.length:=by
 unfold qhn at h
 obtain ⟨_,h⟩:=qeF h
 obtain ⟨h2,h⟩:=qeF h
 obtain ⟨h3,h⟩:=qeF h
 obtain ⟨h4,h5⟩:=qeF h
 have:=qjc h5
 exact ⟨qjc h2,qj3 _ _ h3,qjc h4,by omega⟩
theorem qDV (a:T):qhn a a=0:=by
 unfold qhn thn
 simp [qEx,qvc]
theorem T.ext {a b:T} (h1:a.kind=b.kind) (h2:a.name=b.name) (h3:a.sort=b.sort) (h4:a.kids=b.kids):a=b:=by
 obtain ⟨k,n,s,l⟩:=a
 obtain ⟨k',n',s',l'⟩:=b
 simp only [T.kind,T.name,T.sort,T.kids] at h1 h2 h3 h4
 rw [h1,h2,h3,h4]
theorem qmX (a:T):qp a a=0:=by
 refine T.ind (P := λ a=>qp a a=0) ?_ a
 intro a ih
 rw [qe5,qDV,thn,if_pos rfl]
 generalize a.kids=l at *
 induction l with
 | nil=>rfl
 | cons x l ihl =>
   rw [List.map_cons,Qj,ih x (List.mem_cons_self ..),thn,if_pos rfl]
   exact ihl λ k hk=>ih k (List.mem_cons_of_mem _ hk)
theorem JQ (a:T):∀ b,qp a b=0→a=b:=by
 refine T.ind (P := λ a=>∀ b,qp a b=0→a=b) ?_ a
 intro a ih b h
 rw [qe5] at h
 obtain ⟨h1,h2⟩:=qeF h
 obtain ⟨k1,k2,k3,k4⟩:=qnO h1
 refine T.ext k1 k2 k3 ?_
 generalize a.kids=l at *
 generalize b.kids=m at *
 clear h h1
 induction l generalizing m with
 | nil=>exact (List.length_eq_zero_iff.1 k4.symm).symm
 | cons x l ihl =>
   cases m with
   | nil=>simp at k4
   | cons y m =>
     rw [List.map_cons,Qj] at h2
     obtain ⟨h3,h4⟩:=qeF h2
     rw [ih x (List.mem_cons_self ..) y h3,ihl (λ k hk=>ih k (List.mem_cons_of_mem _ hk)) m h4 (by simpa using k4)]
def qsg (a:T):Prop:=(∀ b,qp a b=-1∨qp a b=0∨qp a b=1)∧(∀ b,qp b a=- qp a b)∧(∀ b c,qp a b=-1→qp b c=-1→qp a c=-1)
theorem qwL:∀ l m:List T,(∀ k∈l,qsg k)→Qj (l.map qp) m=-1∨Qj (l.map qp) m=0∨Qj (l.map qp) m=1
 | [],_,_=>by simp [Qj]
 | _::_,[],_=>by simp [Qj]
 | x::l,y::m,h=>by
   rw [List.map_cons,Qj]
   have h1:=(h x (List.mem_cons_self ..)).1 y
   have h2:=qwL l m λ k hk=>h k (List.mem_cons_of_mem _ hk)
   unfold thn;split<;>omega
theorem qvd:∀ l m:List T,(∀ k∈l,qsg k)→Qj (m.map qp) l=- Qj (l.map qp) m
 | [],[],_=>by simp [Qj]
 | [],_::_,_=>by simp [Qj]
 | _::_,[],_=>by simp [Qj]
 | x::l,y::m,h=>by
   rw [List.map_cons,Qj,List.map_cons,Qj]
   have h1:=(h x (List.mem_cons_self ..)).2.1 y
   have h2:=qvd l m λ k hk=>h k (List.mem_cons_of_mem _ hk)
   unfold thn;split<;>split<;>omega
theorem qrt:∀ l m n:List T,(∀ k∈l,qsg k)→l.length=m.length→m.length=n.length→Qj (l.map qp) m=-1→Qj (m.map qp) n=-1→Qj (l.map qp) n=-1
 | [],_,_,_,_,_,h,_=>by simp [Qj] at h
 | _::_,[],_,_,h,_,_,_=>by simp at h
 | _::_,_::_,[],_,_,h,_,_=>by simp at h
 | x::l,y::m,z::n,h,e1,e2,h1,h2=>by
   rw [List.map_cons,Qj] at h1 h2 ⊢
   have hx:=h x (List.mem_cons_self ..)
   have ih:=qrt l m n (λ k hk=>h k (List.mem_cons_of_mem _ hk)) (by simpa using e1) (by simpa using e2)
   have t1:=hx.2.2 y z
   by_cases x1:qp x y=0
   ·have:=JQ x y x1
    subst this
    rw [thn,if_pos x1] at h1
    by_cases x2:qp x z=0
    ·rw [thn,if_pos x2] at h2 ⊢
     exact ih h1 h2
    ·rw [thn,if_neg x2] at h2 ⊢
     exact h2
   ·rw [thn,if_neg x1] at h1
    by_cases x2:qp y z=0
    ·have:=JQ y z x2
     subst this
     rw [thn,if_neg x1]
     exact h1
    ·rw [thn,if_neg x2] at h2
     have:=t1 h1 h2
     rw [thn,if_neg (by omega)]
     exact this
theorem qCd (a:T):qsg a:=by
 refine T.ind (P:=qsg) ?_ a
 intro a ih
 refine ⟨λ b=>?_,λ b=>?_,λ b c h1 h2=>?_⟩
 ·rw [qe5]
  have h1:=qcN.rng a b
  have h2:=qwL a.kids b.kids ih
  unfold thn;split<;>omega
 ·rw [qe5,qe5]
  have h1:=qcN.anti a b
  have h2:=qvd a.kids b.kids ih
  unfold thn;split<;>split<;>omega
 ·rw [qe5] at h1 h2 ⊢
  by_cases x1:qhn a b=0
  ·rw [thn,if_pos x1] at h1
   have e:=qcN.same a b c x1
   by_cases x2:qhn b c=0
   ·rw [thn,if_pos x2] at h2
    rw [thn,if_pos (by rw [← e];exact x2)]
    exact qrt _ _ _ ih (qnO x1).2.2.2 (qnO x2).2.2.2 h1 h2
   ·rw [thn,if_neg x2] at h2
    rw [thn,if_neg (by rw [← e];exact x2),← e]
    exact h2
  ·rw [thn,if_neg x1] at h1
   by_cases x2:qhn b c=0
   ·have e1:=qcN.anti b c
    have e2:=qcN.same c b a (by omega)
    have e3:=qcN.anti a b
    have e4:=qcN.anti a c
    rw [thn,if_neg (by omega)];omega
   ·rw [thn,if_neg x2] at h2
    have:=qcN.trans a b c h1 h2
    rw [thn,if_neg (by omega)];exact this
theorem zH:Cmp qp :=
 ⟨λ a=>(qCd a).1,λ a b=>(qCd a).2.1 b,λ a=>(qCd a).2.2,λ a b c h=>by rw [JQ a b h]⟩
theorem qFy (a b:T):qp a b=0↔a=b:=⟨JQ a b,λ h=>by rw [h];exact qmX b⟩
theorem qmk:∀ a b:List UInt8,Op.bytesLess a b=decide (compareBytes a b=-1)
 | [],[]=>by simp [Op.bytesLess,compareBytes]
 | [],_::_=>by simp [Op.bytesLess,compareBytes]
 | _::_,[]=>by simp [Op.bytesLess,compareBytes]
 | x::a,y::b=>by
   rw [Op.bytesLess,compareBytes,qmk a b]
   by_cases h1:x<y
   ·simp [h1]
   ·by_cases h2:y<x
    ·have:¬ x=y := λ e=>by rw [e] at h2;exact h1 (by rw [e];exact h2)
     simp [h1,h2,this]
    ·have:x=y:=UInt8.toNat_inj.1 (by rw [UInt8.lt_iff_toNat_lt] at h1 h2;omega)
     simp [this]
end Go.GxYtbpnmbmdbblehaaGreat
namespace Go.GxYtbpnmbmdbblehaaGreat
def qiN:List (Int→Int)→Int→Int
 | [],m=>m
 | f::fs,m=>if f m<0 then -1 else qiN fs (f m)
noncomputable def qai:T→Int→Int:=T.para λ t rs m=>if m≤0∨40<t.name.length then -1 else qiN rs (m-1)
theorem qzJ (t:T) (m:Int):qai t m=if m≤0∨40<t.name.length then -1 else qiN (t.kids.map qai) (m-1):=congrFun (T.para_eq _ _) m
theorem qne (t:T):∀ m,qai t m<0∧qai t m=-1∨0≤qai t m∧qai t m=m-size t:=by
 refine T.ind (P := λ t=>∀ m,qai t m<0∧qai t m=-1∨0≤qai t m∧qai t m=m-size t) ?_ t
 intro t ih m
 have hL:∀ l:List T,(∀ k∈l,k∈t.kids)→∀ m,0≤m→(qiN (l.map qai) m<0∧qiN (l.map qai) m=-1∨0≤qiN (l.map qai) m∧qiN (l.map qai) m=m-((l.map size).sum:Nat)):=by
  intro l
  induction l with
  | nil=>intro _ m hm;right;simp [qiN];exact hm
  | cons x l ihl =>
    intro hl m hm
    simp only [List.map_cons,qiN,List.sum_cons]
    have h1:=ih x (hl x (List.mem_cons_self ..)) m
    by_cases h2:qai x m<0
    ·rw [if_pos h2];left;exact ⟨by omega,rfl⟩
    ·rw [if_neg h2]
     have h3:=ihl (λ k hk=>hl k (List.mem_cons_of_mem _ hk)) (qai x m) (by omega)
     omega
 rw [qzJ,qC]
 split
 ·left;exact ⟨by omega,rfl⟩
 ·have:=hL t.kids (λ _ h=>h) (m-1) (by omega)
  omega
noncomputable def qdV:T→Nat:=T.para λ _ rs=>rs.foldl max 0+1
theorem qip (t:T):qdV t=(t.kids.map qdV).foldl max 0+1:=T.para_eq _ _
theorem qyY (l:List Nat):∀ (a b:Nat),a≤b→(∀ x∈l,x≤b)→l.foldl max a≤b:=by
 induction l with
 | nil=>intro a b h _;exact h
 | cons x l ih=>intro a b h hx;exact ih _ _ (Nat.max_le.2 ⟨h,hx x (List.mem_cons_self ..)⟩) λ y hy=>hx y (List.mem_cons_of_mem _ hy)
theorem qAg (t:T):qdV t≤size t:=by
 refine T.ind (P := λ t=>qdV t≤size t) ?_ t
 intro t ih
 rw [qip,qC]
 have:(t.kids.map qdV).foldl max 0≤(t.kids.map size).sum:=by
  refine qyY _ _ _ (Nat.zero_le _) λ x hx=>?_
  obtain ⟨k,hk,rfl⟩:=List.mem_map.1 hx
  exact Nat.le_trans (ih k hk) (qh7 _ _ hk)
 omega
def qgv (c:Int):Bool:=decide (97≤c∧c≤122)||decide (65≤c∧c≤90)
def qqB (c:Int):Bool:=decide (48≤c∧c≤57)
def JD (c:Int):Bool:=qgv c||qqB c||decide (c=95)||decide (c=35)
def Jv (l:List UInt8):Bool:=decide (0<l.length)&&decide (l.length≤24)&&qgv ((l.getD 0 0).toNat:Int)&&l.all λ c=>JD (c.toNat:Int)
def qlT (k so:Int) (n:Nat) (ok:Bool):Int :=
 if k=1∨k=2 then (if so<0∨5<so∨0<n then 1 else if ok then 0 else 2)
 else if k=3 then (if so≠0 then 1 else if ok then (if 8<n then 3 else 0) else 2)
 else 1
def Qk (t:T):Int:=qlT t.kind t.sort t.kids.length (Jv t.name)
noncomputable def Jw:T→Int:=T.para λ t rs=>rs.foldl thn (Qk t)
theorem qju (t:T):Jw t=(t.kids.map Jw).foldl thn (Qk t):=T.para_eq _ _
theorem jP {x:Int} (h:x≠0) (y:Int):thn x y=x:=if_neg h
theorem qI (l:List Int):∀ {x:Int},x≠0→l.foldl thn x=x:=by
 induction l with
 | nil=>intro x _;rfl
 | cons y l ih=>intro x h;rw [List.foldl_cons,jP h];exact ih h
theorem jT (l:List Int) (x:Int):(x::l).foldl thn 0=l.foldl thn x:=rfl
theorem qpt {t:T} (h:Jw t=0):Qk t=0∧(∀ k∈t.kids,Jw k=0):=by
 rw [qju] at h
 by_cases h0:Qk t=0
 ·refine ⟨h0,?_⟩
  rw [h0] at h
  generalize t.kids=l at *
  clear h0
  induction l with
  | nil=>intro k hk;cases hk
  | cons x l ih =>
    rw [List.map_cons,jT] at h
    by_cases hx:Jw x=0
    ·rw [hx] at h
     intro k hk
     rcases List.mem_cons.1 hk with rfl | hk
     ·exact hx
     ·exact ih h k hk
    ·rw [qI _ hx] at h;exact absurd h hx
 ·rw [qI _ h0] at h;exact absurd h h0
noncomputable def qA (t:T):Int:=if Jw t≠0 then Jw t else if 400<size t∨40<qdV t then 3 else 0
noncomputable instance:DecidableEq T := λ _ _=>Classical.propDecidable _
noncomputable def yI (a b:T):Bool:=decide (a=b)
noncomputable def qm2:List T→Int→Bool
 | [],_=>true
 | x::l,m=>if qai x m<0 then false else qm2 l (qai x m)
theorem quv:∀ (l:List T) (m:Int),0≤m→qm2 l m=true→((l.map size).sum:Nat)≤m
 | [],m,hm,_=>by simpa using hm
 | x::l,m,hm,h=>by
   rw [qm2] at h
   by_cases hx:qai x m<0
   ·rw [if_pos hx] at h;exact absurd h (by decide)
   ·rw [if_neg hx] at h
    have h1:=qne x m
    have h2:=quv l (qai x m) (by omega) h
    simp only [List.map_cons,List.sum_cons]
    omega
def jr:List (List UInt8 × Int × Int × Int):=[
 ([112,97,105,114],2,2,1),
 ([101,110,99],2,2,1),
 ([97,101,110,99],2,2,1),
 ([112,107],1,1,1),
 ([115,105,103,110],2,2,1),
 ([104,97,115,104],1,1,1),
 ([120,111,114],2,8,1),
 ([122,101,114,111],0,0,1),
 ([101,120,112],2,2,1),
 ([109,117,108],2,8,1),
 ([105,110,118],1,1,1),
 ([111,110,101],0,0,1),
 ([115,107],1,1,2),
 ([115,104,107],2,2,2),
 ([110,101,119],1,8,2),
 ([102,115,116],1,1,3),
 ([115,110,100],1,1,3),
 ([100,101,99],2,2,3),
 ([97,100,101,99],2,2,3),
 ([111,112,101,110],2,2,3),
 ([114,101,97,100],1,1,3)]
def qtQ (l:List (List UInt8 × Int × Int × Int)) (n:List UInt8):Int × Int × Int:=((l.find? λ r=>r.1==n).map (·.2)).getD (0,0,0)
theorem qCG (r:List UInt8 × Int × Int × Int) (l:List (List UInt8 × Int × Int × Int)) (n:List UInt8):qtQ (r::l) n=if (r.1==n)=true then r.2 else qtQ l n:=by
 unfold qtQ
 rw [List.find?_cons]
 cases h:r.1==n<;>simp
def qFr (l:List (List UInt8 × Int × Int × Int)) (n:List UInt8):Bool:=l.any λ r=>r.1==n
def qko (l:List (List UInt8 × Int × Int × Int)) (n:List UInt8) (k:Int):Bool:=qFr l n&&decide ((qtQ l n).1≤k)&&decide (k≤(qtQ l n).2.1)
theorem qDB (r:List UInt8 × Int × Int × Int) (l:List (List UInt8 × Int × Int × Int)) (n:List UInt8) (k:Int) :
  qko (r::l) n k=if (r.1==n)=true then decide (r.2.1≤k)&&decide (k≤r.2.2.1) else qko l n k:=by
 unfold qko
 rw [qCG]
 unfold qFr
 rw [List.any_cons]
 cases h:r.1==n<;>simp
def qlU:List UInt8:=[112,97,105,114]
def qmf:List UInt8:=[101,110,99]
def qgO:List UInt8:=[97,101,110,99]
def nPk:List UInt8:=[112,107]
def qdn:List UInt8:=[115,105,103,110]
def qd4:List UInt8:=[120,111,114]
def qbe:List UInt8:=[122,101,114,111]
def qd6:List UInt8:=[101,120,112]
def qfm:List UInt8:=[109,117,108]
def Qw:List UInt8:=[105,110,118]
def qho:List UInt8:=[111,110,101]
def nSk:List UInt8:=[115,107]
def qpw:List UInt8:=[115,104,107]
def qgD:List UInt8:=[110,101,119]
def qFF:List UInt8:=[102,115,116]
def qtq:List UInt8:=[115,110,100]
def qF6:List UInt8:=[100,101,99]
def qBV:List UInt8:=[97,100,101,99]
def qCg:List UInt8:=[111,112,101,110]
def qB2:List UInt8:=[114,101,97,100]
def zT:T := .mk 0 [] 0 []
def kid (t:T) (i:Nat):T:=t.kids.getD i zT
def apT (n:List UInt8) (l:List T):T := .mk 3 n 0 l
def isN (t:T) (n:List UInt8):Bool:=t.kind==3&&t.name==n
def qG (n:List UInt8):Int × Int × Int:=((jr.find? λ r=>r.1==n).map (·.2)).getD (0,0,0)
def JJ (t:T):Bool :=
 if t.name=qgD then decide ((kid t 0).kind≠2)
 else if t.name=nSk∨t.name=qpw then t.kids.any λ k=>decide (k.kind=3)||decide (k.sort≠1) else false
def qbg (t:T):Int :=
 if t.kind≠3 then 0 else if (qG t.name).2.2=0 then 10 else if (t.kids.length:Int)<(qG t.name).1∨(qG t.name).2.1<(t.kids.length:Int) then 6 else if JJ t then 10 else 0
noncomputable def zb:T→Int:=T.para λ t rs=>if t.kind≠3 then 0 else rs.foldl thn (qbg t)
theorem qkr (t:T):zb t=if t.kind≠3 then 0 else (t.kids.map zb).foldl thn (qbg t):=T.para_eq _ _
noncomputable def qke (t:T):Int:=thn (qA t) (zb t)
noncomputable def zN (t:T):Bool :=
 if t.name=qFF∨t.name=qtq then isN (kid t 0) qlU
 else if t.name=qF6 then isN (kid t 0) qmf&&yI (kid (kid t 0) 1) (kid t 1)
 else if t.name=qBV then isN (kid t 0) qgO&&isN (kid (kid t 0) 1) nPk&&yI (kid (kid (kid t 0) 1) 0) (kid t 1)
 else if t.name=qCg then isN (kid t 0) qdn&&isN (kid t 1) nPk&&yI (kid (kid t 0) 1) (kid (kid t 1) 0)
 else if t.name=qB2 then isN (kid t 0) qdn else false
noncomputable def qhl (t:T):T:=if zN t then kid (kid t 0) (if t.name=qtq then 1 else 0) else t
def qbF (t:T):Bool:=t.kind==3&&(t.name==qfm||t.name==Qw||t.name==qho)
abbrev Pw:=T × Int
noncomputable def yb:List Pw→T→Int→List Pw
 | [],t,n=>[(t,n)]
 | (x,m)::l,t,n=>if qp t x=-1 then (t,n)::(x,m)::l else if qp t x=0 then (if m+n=0 then l else (x,m+n)::l) else (x,m)::yb l t n
def arK (t:T):Bool := !(t.name==qho&&t.kids.length != 0||t.name==Qw&&t.kids.length != 1||t.name==qfm&&decide (t.kids.length<2))
noncomputable def arT:T→Bool:=T.para λ t rs => !qbF t||(arK t&&rs.all id)
theorem qrh (t:T):arT t=(!qbF t||(arK t&&(t.kids.map arT).all id)):=T.para_eq _ _
def J8 (t:T) (n:Int):Int:=if t.name=Qw then -n else n
noncomputable def yR:T→List Pw→Int→List Pw:=T.para λ t rs l n=>if qbF t then rs.foldl (λ l f=>f l (J8 t n)) l else yb l t n
theorem qeV (t:T) (l:List Pw) (n:Int):yR t l n=if qbF t then (t.kids.map yR).foldl (λ l f=>f l (J8 t n)) l else yb l t n:=by
 have h:yR t = λ l n=>if qbF t then (t.kids.map yR).foldl (λ l f=>f l (J8 t n)) l else yb l t n:=T.para_eq _ _
 rw [h]
noncomputable def ofP (t:T):List Pw × Int :=
 if qA t≠0 then ([],qA t) else if arT t=false then ([],6) else if 200<(yR t [] 1).length then ([],3) else (yR t [] 1,0)
noncomputable def pvK (q:Option T) (p:Pw):Int :=
 if qA p.1≠0 then qA p.1 else if qbF p.1 then 1 else if p.2=0∨p.2 < -1000∨1000<p.2 then 7 else match q with | some x=>if 0≤qp x p.1 then 5 else 0 | none=>0
noncomputable def pvL:Option T→List Pw→Int
 | _,[]=>0
 | q,p::l=>thn (pvK q p) (pvL (some p.1) l)
noncomputable def QC (l:List Pw):Int:=if 200<l.length then 3 else pvL none l
def zJ (l:List Pw):List T:=l.flatMap λ p=>List.replicate p.2.toNat p.1
def zQ (l:List Pw):List T:=l.flatMap λ p=>List.replicate (-p.2).toNat (apT Qw [p.1])
def Jg (o:List T):T:=if o.length=0 then apT qho [] else if o.length=1 then o.getD 0 zT else apT qfm o
noncomputable def qac (l:List Pw):T × Int :=
 if QC l≠0 then (zT,QC l) else if 8<(zJ l++zQ l).length then (zT,3)
 else if qA (Jg (zJ l++zQ l))≠0 then (zT,qA (Jg (zJ l++zQ l))) else (Jg (zJ l++zQ l),0)
def qkc (l:List Pw):Bool:=l.any λ p=>decide (p.2 < -1000)||decide (1000<p.2)
noncomputable def Qn (a b:List Pw):List Pw:=b.foldl (λ l p=>yb l p.1 p.2) a
noncomputable def qiG (a b:List Pw):List Pw × Int :=
 if QC a≠0 then ([],QC a) else if QC b≠0 then ([],QC b) else if qkc (Qn a b) then ([],7) else if 200<(Qn a b).length then ([],3) else (Qn a b,0)
noncomputable def zf:List T→List T→List T
 | [],b=>b
 | x::a,[]=>x::a
 | x::a,y::b=>if qp x y=-1 then x::zf a (y::b) else if qp x y=1 then y::zf (x::a) b else zf a b
termination_by a b=>a.length+b.length
noncomputable def jn:T→List T:=T.para λ t rs=>if isN t qbe&&t.kids.isEmpty then [] else if isN t qd4 then rs.foldl zf [] else [t]
theorem qi7 (t:T):jn t=if isN t qbe&&t.kids.isEmpty then [] else if isN t qd4 then (t.kids.map jn).foldl zf [] else [t]:=T.para_eq _ _
noncomputable def qkG (l:List T):Int:=if 200<l.length then 3 else (l.map qA).foldl thn 0
noncomputable def zD (l:List T):List T:=(l.map jn).foldl zf []
def Jr (o:List T):T:=if o.length=0 then apT qbe [] else if o.length=1 then o.getD 0 zT else apT qd4 o
noncomputable def qlQ (l:List T):T × Int :=
 if qkG l≠0 then (zT,qkG l) else if qA (Jr (zD l))≠0 then (zT,3) else (Jr (zD l),0)
noncomputable def qgk (b:T) (l:List Pw):T × Int :=
 if l.length=0 then (b,0) else if (qac l).2≠0 then (zT,(qac l).2) else (apT qd6 [b,(qac l).1],0)
noncomputable def qma (b e:T):T × Int :=
 if (ofP e).2≠0 then (zT,(ofP e).2)
 else if isN b qd6 then
  (if (ofP (kid b 1)).2≠0 then (zT,(ofP (kid b 1)).2)
   else if (qiG (ofP (kid b 1)).1 (ofP e).1).2≠0 then (zT,(qiG (ofP (kid b 1)).1 (ofP e).1).2)
   else qgk (kid b 0) (qiG (ofP (kid b 1)).1 (ofP e).1).1)
 else qgk b (ofP e).1
def isD (n:List UInt8):Bool:=n==qFF||n==qtq||n==qF6||n==qBV||n==qCg||n==qB2
noncomputable def qjU (t:T):T × Int:=if (ofP t).2≠0 then (zT,(ofP t).2) else qac (ofP t).1
noncomputable def Jb (t:T):T × Int :=
 if isD t.name then (qhl t,0) else if t.name=qd4 then qlQ t.kids
 else if t.name=qfm∨t.name=Qw∨t.name=qho then qjU t
 else if t.name=qd6 then qma (kid t 0) (kid t 1) else (t,0)
noncomputable def zw:T→T × Int:=T.para λ t rs =>
 if t.kind≠3 then (t,0) else if (rs.map (·.2)).foldl thn 0≠0 then (zT,(rs.map (·.2)).foldl thn 0) else Jb (apT t.name (rs.map (·.1)))
theorem qkW (t:T):zw t=if t.kind≠3 then (t,0) else if ((t.kids.map zw).map (·.2)).foldl thn 0≠0 then (zT,((t.kids.map zw).map (·.2)).foldl thn 0) else Jb (apT t.name ((t.kids.map zw).map (·.1))):=T.para_eq _ _
noncomputable def qio (t:T):T × Int :=
 if qke t≠0 then (zT,qke t) else if (zw t).2≠0 then (zT,(zw t).2) else if qA (zw t).1≠0 then (zT,qA (zw t).1) else zw t
def agB (l:List T):Bool:=l.all λ k => !(k.kind==3) && !(k.sort != 1)
def qit (t:T):Bool:=if t.name=qgD then (kid t 0).kind==2 else agB t.kids
theorem qEk (k:T) (l:List T):agB (k::l)=((!(k.kind==3) && !(k.sort != 1))&&agB l):=rfl
end Go.GxYtbpnmbmdbblehaaGreat
namespace Go.AmYtbpnmbmdbblehaaGreat
open Go Go.GxYtbpnmbmdbblehaaGreat Go.Lib
theorem qjz (a b:Int):Ev (λ m _=>Jf m a b) (sgn a b):=by
 refine Ev.succ ?_
 simp only [qtw,qf1]
 unfold sgn
 refine Ev.ite (λ h=>?_) λ h=>?_
 ·exact Ev.ret (by rw [if_pos (qu.1 h)])
 ·rw [qv] at h
  refine Ev.ite (λ h'=>?_) λ h'=>?_
  ·rw [qu] at h'
   exact Ev.ret (by rw [if_neg (by omega),if_pos h'])
  ·rw [qv] at h'
   exact Ev.ret (by rw [if_neg (by omega),if_neg (by omega)])
theorem qqa {l:List T} {i:Nat} {x:T} (h:l.drop i=x::l.drop (i+1)):((l.drop i).map size).sum=size x+((l.drop (i+1)).map size).sum:=by
 rw [h,List.map_cons,List.sum_cons]
theorem qqh (t:T):size t≤1000000000→Ev (λ m _=>yA m t) (size t:Int):=by
 induction t using T.ind with
 | h t ih =>
   intro hs
   refine Ev.succ ?_
   simp only [qwZ,qel]
   have hl:=yG t
   have he:=qC t
   have key:=qr (P := λ i=>∀ acc:Nat,acc+((t.kids.drop i).map size).sum≤1000000000→Ev (λ m k=>J5 m (yA m) k acc i t.kind t.name t.sort t.kids) ((acc+((t.kids.drop i).map size).sum:Nat):Int)) t.kids (by omega)
    (λ hc acc _=>by
     refine Ev.loop ?_
     simp only [qmE,qer]
     refine Ev.cf hc ?_
     exact Ev.ret (by simp))
    (λ i x hx hd hc hg hi hP acc ha=>by
     rw [qqa hd] at ha ⊢
     refine Ev.loop ?_
     simp only [qmE,qer]
     refine Ev.ct hc (Ev.some hg ?_)
     rw [qe]
     refine Ev.bind (ih x (List.mem_of_getElem? hx) (by omega)) ?_
     rw [hi,qla,Qo (by omega)]
     refine (hP (acc+size x) (by omega)).res (by congr 1;omega))
   refine Ev.diag (L := λ m k=>J5 m (yA m) k 1 0 t.kind t.name t.sort t.kids) ?_
   refine (key 0 (Nat.zero_le _) 1 (by simp;omega)).res (by rw [List.drop_zero,he])
theorem qyQ (a b:Nat):qkh (a:Int) (b:Int)=((max a b:Nat):Int):=by unfold qkh;split<;>omega
theorem qon (a b:Int):Ev (λ m _=>qbz m a b) (sgn a b):=by
 refine Ev.succ ?_
 simp only [qzf,qjj]
 unfold sgn
 refine Ev.ite (λ h=>?_) λ h=>?_
 ·exact Ev.ret (by rw [if_pos (qu.1 h)])
 ·rw [qv] at h
  refine Ev.ite (λ h'=>?_) λ h'=>?_
  ·rw [qu] at h'
   exact Ev.ret (by rw [if_neg (by omega),if_pos h'])
  ·rw [qv] at h'
   exact Ev.ret (by rw [if_neg (by omega),if_neg (by omega)])
theorem qya (t:T):size t≤1000000000→Ev (λ m _=>ji m t) (size t:Int):=by
 induction t using T.ind with
 | h t ih =>
   intro hs
   refine Ev.succ ?_
   simp only [qzr,qfv]
   have hl:=yG t
   have he:=qC t
   have key:=qr (P := λ i=>∀ acc:Nat,acc+((t.kids.drop i).map size).sum≤1000000000→Ev (λ m k=>qaT m (ji m) k acc t.kids t.kids.length i) ((acc+((t.kids.drop i).map size).sum:Nat):Int)) t.kids (by omega)
    (λ hc acc _=>by
     refine Ev.loop ?_
     simp only [qnL,qfb]
     refine Ev.cf hc ?_
     exact Ev.ret (by simp))
    (λ i x hx hd hc hg hi hP acc ha=>by
     rw [qqa hd] at ha ⊢
     refine Ev.loop ?_
     simp only [qnL,qfb]
     refine Ev.ct hc (Ev.some hg ?_)
     rw [qe]
     refine Ev.bind (ih x (List.mem_of_getElem? hx) (by omega)) ?_
     rw [hi,qla,Qo (by omega)]
     refine (hP (acc+size x) (by omega)).res (by congr 1;omega))
   refine Ev.diag (L := λ m k=>qaT m (ji m) k 1 t.kids t.kids.length 0) ?_
   refine (key 0 (Nat.zero_le _) 1 (by simp;omega)).res (by rw [List.drop_zero,he])
theorem qDH (t:T):size t≤1000000000→Ev (λ m _=>yK m t) (qdV t:Int):=by
 induction t using T.ind with
 | h t ih =>
   intro hs
   refine Ev.succ ?_
   simp only [qwa,qdP]
   have hl:=yG t
   have he:=qC t
   have key:=qr (P := λ i=>∀ acc:Nat,acc≤1000000000→Ev (λ m k=>Ju m (yK m) k acc i t.kind t.name t.sort t.kids) ((((t.kids.drop i).map qdV).foldl max acc+1:Nat):Int)) t.kids (by omega)
    (λ hc acc _=>by
     refine Ev.loop ?_
     simp only [qkN,qdq]
     refine Ev.cf hc ?_
     rw [show qj (acc:Int) 1=((acc+1:Nat):Int) by unfold qj;omega,Qo (by omega)]
     exact Ev.ret (by simp))
    (λ i x hx hd hc hg hi hP acc ha=>by
     refine Ev.loop ?_
     simp only [qkN,qdq]
     refine Ev.ct hc (Ev.some hg ?_)
     rw [qe]
     have hm:=List.mem_of_getElem? hx
     have h1:=jf t x hm
     have h2:=qAg x
     refine Ev.bind (ih x hm (by omega)) ?_
     rw [hi,qyQ]
     refine (hP (max acc (qdV x)) (by omega)).res ?_
     rw [hd,List.map_cons,List.foldl_cons])
   refine Ev.diag (L := λ m k=>Ju m (yK m) k 0 0 t.kind t.name t.sort t.kids) ?_
   refine (key 0 (Nat.zero_le _) 0 (by omega)).res (by rw [List.drop_zero,qip])
theorem qyh (fs:List (T→Int)):Qj fs []=0:=by cases fs<;>rfl
theorem qu3 {l m:List T} {i:Nat} {x y:T} (h1:l.drop i=x::l.drop (i+1)) (h2:m.drop i=y::m.drop (i+1)):Qj ((l.drop i).map qp) (m.drop i)=thn (qp x y) (Qj ((l.drop (i+1)).map qp) (m.drop (i+1))):=by
 rw [h1,h2,List.map_cons];rfl
theorem qw9 {l:List T} {i:Nat} {y:T} (h:l[i]? = some y):l.drop i=y::l.drop (i+1):=by
 obtain ⟨hlt,rfl⟩:=List.getElem?_eq_some_iff.1 h
 exact List.drop_eq_getElem_cons hlt
theorem qp6 (a b:List UInt8):slt a b=decide (compareBytes a b=-1):=qmk a b
theorem qxP (a b:List UInt8):qny (slt a b) (qB a b)=decide (compareBytes a b≠1):=by
 rw [qp6]
 unfold qny qB
 rcases qld a b with h | h | h
 ·rw [h];rfl
 ·have:=qj3 a b h
  subst this
  rw [h];simp
 ·have:(a==b)=false:=by
    rw [beq_eq_false_iff_ne];intro he;subst he;rw [qvc] at h;omega
  rw [h,this];rfl
theorem qgJ (a:T):size a≤1000000000→∀ b,size b≤1000000000→Ev (λ m _=>zi m a b) (qp a b):=by
 induction a using T.ind with
 | h a ih =>
   intro ha b hb
   refine Ev.succ ?_
   simp only [qrF,qbN,qe]
   have hla:=yG a
   have hlb:=yG b
   rw [qe5]
   unfold qhn
   refine Ev.bind (qqh a ha) (Ev.bind (qqh b hb) (Ev.bind (qjz _ _) ?_))
   refine Ev.ite (λ h=>?_) λ h=>?_
   ·rw [bnt,qg] at h
    exact Ev.ret (by rw [jP (by rw [jP h];exact h),jP h])
   rw [bnf,qi] at h
   rw [h,show ∀ y,thn 0 y=y from λ y=>rfl]
   refine Ev.bind (qjz _ _) ?_
   refine Ev.ite (λ h=>?_) λ h=>?_
   ·rw [bnt,qg] at h
    exact Ev.ret (by rw [jP (by rw [jP h];exact h),jP h])
   rw [bnf,qi] at h
   rw [h,show ∀ y,thn 0 y=y from λ y=>rfl]
   refine Ev.ite (λ h=>?_) λ h=>?_
   ·rw [qp6,decide_eq_true_iff] at h
    exact Ev.ret (by rw [h];rfl)
   rw [qp6,decide_eq_false_iff_not] at h
   refine Ev.ite (λ h'=>?_) λ h'=>?_
   ·rw [bnt,qxP,decide_eq_false_iff_not,Decidable.not_not] at h'
    exact Ev.ret (by rw [h'];rfl)
   rw [bnf,qxP,decide_eq_true_iff] at h'
   have h0:compareBytes a.name b.name=0:=by have:=qld a.name b.name;omega
   rw [h0,show ∀ y,thn 0 y=y from λ y=>rfl]
   refine Ev.bind (qjz _ _) ?_
   refine Ev.ite (λ h=>?_) λ h=>?_
   ·rw [bnt,qg] at h
    exact Ev.ret (by rw [jP (by rw [jP h];exact h),jP h])
   rw [bnf,qi] at h
   rw [h,show ∀ y,thn 0 y=y from λ y=>rfl]
   refine Ev.bind (qjz _ _) ?_
   refine Ev.ite (λ h=>?_) λ h=>?_
   ·rw [bnt,qg] at h
    exact Ev.ret (by rw [jP h])
   rw [bnf,qi] at h
   rw [h,show ∀ y,thn 0 y=y from λ y=>rfl]
   have hlen:a.kids.length=b.kids.length:=by have:=qjc h;omega
   have key:=qr (P := λ i=>Ev (λ m k=>Qg m (zi m) k i a.kind a.name a.sort a.kids b.kind b.name b.sort b.kids) (Qj ((a.kids.drop i).map qp) (b.kids.drop i))) a.kids (by omega)
    (λ hc=>by
     refine Ev.loop ?_
     simp only [qiO,qbV]
     refine Ev.cf hc ?_
     exact Ev.ret (by rw [hlen,List.drop_length,qyh]))
    (λ i x hx hd hc hg hi hP=>by
     refine Ev.loop ?_
     simp only [qiO,qbV,qe]
     have hib:i<b.kids.length:=by have:=(List.getElem?_eq_some_iff.1 hx).1;omega
     have hy:=List.getElem?_eq_getElem hib
     have hmx:=List.mem_of_getElem? hx
     have h1:=jf a x hmx
     have h2:=jf b _ (List.mem_of_getElem? hy)
     refine Ev.ct hc (Ev.some hg (Ev.some (by rw [jI];exact hy) ?_))
     rw [qu3 hd (qw9 hy)]
     refine Ev.bind (ih x hmx (by omega) _ (by omega)) ?_
     refine Ev.ite (λ h=>?_) λ h=>?_
     ·rw [bnt,qg] at h
      exact Ev.ret (by rw [jP h])
     ·rw [bnf,qi] at h
      rw [h,hi]
      exact hP)
   refine Ev.diag (L := λ m k=>Qg m (zi m) k 0 a.kind a.name a.sort a.kids b.kind b.name b.sort b.kids) ?_
   exact (key 0 (Nat.zero_le _)).res (by rw [List.drop_zero,List.drop_zero])
theorem qDO (a b:List UInt8):Ev (λ m _=>strings_Compare 0 a b) (compareBytes a b):=Ev.pure _
theorem qca (a:T):size a≤1000000000→∀ b,size b≤1000000000→Ev (λ m _=>qs m a b) (qp a b):=by
 induction a using T.ind with
 | h a ih =>
   intro ha b hb
   refine Ev.succ ?_
   simp only [qtO,qco,qe]
   have hla:=yG a
   have hlb:=yG b
   rw [qe5]
   unfold qhn
   have stop:∀ c:Int,c≠0→∀ i:Int,Ev (λ m k=>jp m (qs m) k c i a.kind a.name a.sort a.kids b.kind b.name b.sort b.kids) c:=by
    intro c hc i
    refine Ev.loop ?_
    simp only [qfy,qaF]
    exact Ev.cf (qg.2 hc) (Ev.pure c)
   have key:a.kids.length=b.kids.length→∀ i,i≤a.kids.length→Ev (λ m k=>jp m (qs m) k 0 i a.kind a.name a.sort a.kids b.kind b.name b.sort b.kids) (Qj ((a.kids.drop i).map qp) (b.kids.drop i)) := λ hlen=>qr a.kids (by omega)
    (λ hc=>by
     refine Ev.loop ?_
     simp only [qfy,qaF]
     refine Ev.ct rfl (Ev.cf hc ?_)
     exact Ev.ret (by rw [hlen,List.drop_length,qyh]))
    (λ i x hx hd hc hg hi hP=>by
     refine Ev.loop ?_
     simp only [qfy,qaF,qe]
     have hib:i<b.kids.length:=by have:=(List.getElem?_eq_some_iff.1 hx).1;omega
     have hy:=List.getElem?_eq_getElem hib
     have hmx:=List.mem_of_getElem? hx
     have h1:=jf a x hmx
     have h2:=jf b _ (List.mem_of_getElem? hy)
     refine Ev.ct rfl (Ev.ct hc (Ev.some hg (Ev.some (by rw [jI];exact hy) ?_)))
     rw [qu3 hd (qw9 hy)]
     refine Ev.bind (ih x hmx (by omega) _ (by omega)) ?_
     rw [hi]
     by_cases h:qp x b.kids[i]=0
     ·rw [h];exact hP
     ·rw [jP h];exact stop _ h _)
   have fin:∀ c:Int,(c=0→a.kids.length=b.kids.length)→Ev (λ m k=>jp m (qs m) m c 0 a.kind a.name a.sort a.kids b.kind b.name b.sort b.kids) (thn c (Qj (a.kids.map qp) b.kids)):=by
    intro c hc
    refine Ev.diag (L := λ m k=>jp m (qs m) k c 0 a.kind a.name a.sort a.kids b.kind b.name b.sort b.kids) ?_
    by_cases h:c=0
    ·subst h
     exact (key (hc rfl) 0 (Nat.zero_le _)).res (by rw [List.drop_zero,List.drop_zero];rfl)
    ·rw [jP h];exact stop c h 0
   refine Ev.bind (qya a ha) (Ev.bind (qya b hb) (Ev.bind (qon _ _) ?_))
   have z0:∀ y,thn 0 y=y := λ y=>rfl
   by_cases h1:sgn (size a:Int) (size b)=0
   ·rw [h1,z0]
    refine Ev.ct rfl (Ev.bind (qon _ _) ?_)
    by_cases h2:sgn a.kind b.kind=0
    ·rw [h2,z0]
     refine Ev.ct rfl (Ev.bind (qDO _ _) ?_)
     by_cases h3:compareBytes a.name b.name=0
     ·rw [h3,z0]
      refine Ev.ct rfl (Ev.bind (qon _ _) ?_)
      by_cases h4:sgn a.sort b.sort=0
      ·rw [h4,z0]
       refine Ev.ct rfl (Ev.bind (qon _ _) ?_)
       exact fin _ λ h=>by have:=qjc h;omega
      ·rw [jP h4]
       refine Ev.cf (qg.2 h4) ?_
       exact fin _ λ h=>absurd h h4
     ·rw [jP h3]
      refine Ev.cf (qg.2 h3) (Ev.cf (qg.2 h3) ?_)
      exact fin _ λ h=>absurd h h3
    ·rw [jP h2]
     refine Ev.cf (qg.2 h2) (Ev.cf (qg.2 h2) (Ev.cf (qg.2 h2) ?_))
     exact fin _ λ h=>absurd h h2
   ·rw [jP h1]
    refine Ev.cf (qg.2 h1) (Ev.cf (qg.2 h1) (Ev.cf (qg.2 h1) (Ev.cf (qg.2 h1) ?_)))
    exact fin _ λ h=>absurd h h1
theorem qAD (a b:T):ieq (qp a b) 0=yI a b:=by
 unfold yI
 rw [Bool.eq_iff_iff,qi,decide_eq_true_iff]
 exact qFy a b
theorem qb0 (a b:T) (ha:size a≤1000000000) (hb:size b≤1000000000):Ev (λ m _=>yS m a b) (yI a b):=by
 refine Ev.succ ?_
 simp only [qy1,qhA,qe]
 refine Ev.bind (qgJ a ha b hb) ?_
 exact Ev.ret (qAD a b)
theorem qli (a b:T) (ha:size a≤1000000000) (hb:size b≤1000000000):Ev (λ m _=>j9 m a b) (yI a b):=by
 refine Ev.succ ?_
 simp only [qvu,qgC,qe]
 refine Ev.bind (qca a ha b hb) ?_
 exact Ev.ret (qAD a b)
end Go.AmYtbpnmbmdbblehaaGreat
namespace Go.AmYtbpnmbmdbblehaaGreat
open Go Go.GxYtbpnmbmdbblehaaGreat Go.Lib
theorem qGe (a b:Int):ieq a b=decide (a=b):=by rw [Bool.eq_iff_iff,qi,decide_eq_true_iff]
theorem qva (c:Int):Ev (λ m _=>J7 m c) (qgv c):=by
 refine Ev.succ ?_
 simp only [qtu,qfF]
 refine (Ev.pure (qgv c)).congr λ m k=>?_
 unfold qgv ile
 by_cases h1:97≤c<;>by_cases h2:c≤122<;>by_cases h3:65≤c<;>by_cases h4:c≤90<;>simp [h1,h2,h3,h4]
theorem qFi (c:Int):Ev (λ m _=>qcd m c) (qqB c):=by
 refine Ev.succ ?_
 simp only [qvX,qgm]
 refine (Ev.pure (qqB c)).congr λ m k=>?_
 unfold qqB ile
 by_cases h1:48≤c<;>by_cases h2:c≤57<;>simp [h1,h2]
theorem qAk (c:Int):Ev (λ m _=>qeT m c) (JD c):=by
 refine Ev.succ ?_
 simp only [qzp,qi4]
 refine (Ev.pure (JD c)).congr λ m k=>?_
 simp only [qGe]
 unfold JD qgv qqB ile
 by_cases h1:97≤c<;>by_cases h2:c≤122<;>by_cases h3:65≤c<;>by_cases h4:c≤90<;>by_cases h5:48≤c<;>by_cases h6:c≤57<;>by_cases h7:c=95<;>by_cases h8:c=35<;>simp [h1,h2,h3,h4,h5,h6,h7,h8]
theorem qCz (l:List UInt8):Ev (λ m _=>Qb m l) (Jv l):=by
 refine Ev.succ ?_
 simp only [qtl,qcH]
 cases l with
 | nil=>exact Ev.ct rfl (Ev.pure _)
 | cons c r =>
   refine Ev.cf (qg.2 (by simp;omega)) ?_
   refine Ev.ite (λ h=>?_) λ h=>?_
   ·rw [qu] at h
    refine Ev.ret ?_
    unfold Jv
    rw [decide_eq_false (show ¬ (c::r).length≤24 by omega)]
    simp
   rw [qv] at h
   refine Ev.some (Ja _) (Ev.bind (qva _) ?_)
   have hn:Jv (c::r)=(qgv (c.toNat:Int)&&(c::r).all λ c=>JD (c.toNat:Int)):=by
    unfold Jv
    rw [decide_eq_true (show (c::r).length≤24 by omega)]
    simp
   rw [hn]
   cases hc:qgv (c.toNat:Int) with
   | false=>exact Ev.ct rfl (Ev.pure _)
   | true =>
     refine Ev.cf rfl ?_
     have key:=qr (P := λ i=>Ev (λ m k=>QJ m k (c::r) i) (((c::r).drop i).all λ c=>JD (c.toNat:Int))) (c::r) (by omega)
      (λ hc=>by
       refine Ev.loop ?_
       simp only [qjT,qct]
       refine Ev.cf hc (Ev.ret ?_)
       rw [List.drop_length];rfl)
      (λ i x hx hd hc hg hi hP=>by
       refine Ev.loop ?_
       simp only [qjT,qct]
       refine Ev.ct hc (Ev.some hg (Ev.bind (qva _) ?_))
       rw [hd,List.all_cons,hi]
       cases h1:qgv (x.toNat:Int) with
       | true=>exact Ev.cf rfl (hP.res (by simp [JD,h1]))
       | false =>
         refine Ev.ct rfl (Ev.some hg (Ev.bind (qFi _) ?_))
         cases h2:qqB (x.toNat:Int) with
         | true=>exact Ev.cf rfl (hP.res (by simp [JD,h2]))
         | false =>
           refine Ev.ct rfl (Ev.some hg ?_)
           by_cases h3:(x.toNat:Int)=95
           ·exact Ev.cf (bnf.2 (qi.2 h3)) (hP.res (by simp [JD,h3]))
           ·refine Ev.ct (bnt.2 (qg.2 h3)) (Ev.some hg ?_)
            by_cases h4:(x.toNat:Int)=35
            ·exact Ev.cf (bnf.2 (qi.2 h4)) (hP.res (by simp [JD,h4]))
            ·exact Ev.ct (bnt.2 (qg.2 h4)) (Ev.ret (by unfold JD;rw [h1,h2,decide_eq_false h3,decide_eq_false h4];rfl)))
     refine Ev.diag (L := λ m k=>QJ m k (c::r) 0) ?_
     exact (key 0 (Nat.zero_le _)).res (by rw [List.drop_zero];rfl)
theorem qFB (c:Int):(JD c&&(!(decide (48≤c)&&decide (c≤57))&&(!(decide (c=95)) && !(decide (c=35)))))=qgv c:=by
 unfold JD qqB
 cases h:qgv c with
 | true =>
   unfold qgv at h
   rw [Bool.or_eq_true,decide_eq_true_iff,decide_eq_true_iff] at h
   rw [decide_eq_false (show ¬ (c=95) by omega),decide_eq_false (show ¬ (c=35) by omega)]
   have:(decide (48≤c)&&decide (c≤57))=false:=by
    rw [Bool.and_eq_false_iff,decide_eq_false_iff_not,decide_eq_false_iff_not];omega
   rw [this];rfl
 | false =>
   by_cases h1:48≤c<;>by_cases h2:c≤57<;>by_cases h3:c=95<;>by_cases h4:c=35<;>simp [h1,h2,h3,h4]
theorem qBW (l:List UInt8):Ev (λ m _=>qaO m l) (Jv l):=by
 refine Ev.succ ?_
 simp only [qvm,qdD]
 cases l with
 | nil=>exact Ev.ct rfl (Ev.pure _)
 | cons c r =>
   refine Ev.cf rfl ?_
   refine Ev.ite (λ h=>?_) λ h=>?_
   ·rw [qu] at h
    refine Ev.ret ?_
    unfold Jv
    rw [decide_eq_false (show ¬ (c::r).length≤24 by omega)]
    simp
   rw [qv] at h
   refine Ev.some (Ja _) (Ev.bind (qAk _) ?_)
   have hn:Jv (c::r)=(qgv (c.toNat:Int)&&(c::r).all λ c=>JD (c.toNat:Int)):=by
    unfold Jv
    rw [decide_eq_true (show (c::r).length≤24 by omega)]
    simp
   rw [hn,← qFB]
   have key:=qr (P := λ i=>Ev (λ m k=>jF m k (c::r) (c::r).length i) (((c::r).drop i).all λ c=>JD (c.toNat:Int))) (c::r) (by omega)
    (λ hc=>by
     refine Ev.loop ?_
     simp only [qkC,qdG]
     refine Ev.cf hc (Ev.ret ?_)
     rw [List.drop_length];rfl)
    (λ i x hx hd hc hg hi hP=>by
     refine Ev.loop ?_
     simp only [qkC,qdG]
     refine Ev.ct hc (Ev.some hg (Ev.bind (qAk _) ?_))
     rw [hd,List.all_cons,hi]
     cases h1:JD (x.toNat:Int) with
     | true=>exact Ev.cf rfl (hP.res (by simp))
     | false=>exact Ev.ct rfl (Ev.pure _))
   have fin:Ev (λ m _=>jF m m (c::r) (c::r).length 0) ((c::r).all λ c=>JD (c.toNat:Int)):=by
    refine Ev.diag (L := λ m k=>jF m k (c::r) (c::r).length 0) ?_
    exact (key 0 (Nat.zero_le _)).res (by rw [List.drop_zero])
   have hz:qd (c::r) 0=some c:=Ja _
   have h95:Ev (λ m _=>cond (ieq (c.toNat:Int) 95) (some false) (qa (qd (c::r) 0) λ v=>cond (ieq (v.toNat:Int) 35) (some false) (jF m m (c::r) (c::r).length 0))) ((!(decide ((c.toNat:Int)=95)) && !(decide ((c.toNat:Int)=35)))&&(c::r).all λ c=>JD (c.toNat:Int)):=by
    by_cases h3:(c.toNat:Int)=95
    ·exact Ev.ct (qi.2 h3) (Ev.ret (by rw [decide_eq_true h3];rfl))
    ·refine Ev.cf (qg.2 h3) (Ev.some hz ?_)
     rw [decide_eq_false h3]
     by_cases h4:(c.toNat:Int)=35
     ·exact Ev.ct (qi.2 h4) (Ev.ret (by rw [decide_eq_true h4];rfl))
     ·refine Ev.cf (qg.2 h4) (fin.res ?_)
      rw [decide_eq_false h4];rfl
   cases h1:JD (c.toNat:Int) with
   | false=>exact Ev.ct rfl (Ev.pure _)
   | true =>
     refine Ev.cf rfl (Ev.some hz ?_)
     by_cases h5:48≤(c.toNat:Int)
     ·refine Ev.ct (qgM.2 h5) (Ev.some hz ?_)
      by_cases h6:(c.toNat:Int)≤57
      ·exact Ev.ct (qgM.2 h6) (Ev.ret (by rw [decide_eq_true h5,decide_eq_true h6];rfl))
      ·refine Ev.cf (qic.2 (by omega)) (Ev.some hz ?_)
       exact h95.res (by rw [decide_eq_true h5,decide_eq_false h6];rfl)
     ·refine Ev.cf (qic.2 (by omega)) (Ev.some hz ?_)
      exact h95.res (by rw [decide_eq_false h5];rfl)
theorem qHc (t:T):Ev (λ m _=>qfO m t) (Qk t):=by
 refine Ev.succ ?_
 simp only [qyS,qhr]
 unfold Qk qlT
 have nm:∀ {R:Int},(∀ b,Jv t.name=b→(if b then (if 8<t.kids.length then 3 else 0) else 2)=R)→Ev (λ m _=>qa (Qb m t.name) λ v=>cond (qc v) (some 2) (cond (ilt 8 (t.kids.length:Int)) (some 3) (some 0))) R:=by
  intro R h
  refine Ev.bind (qCz _) ?_
  refine Ev.res ?_ (h _ rfl)
  cases hn:Jv t.name with
  | false=>exact Ev.ct rfl (Ev.pure _)
  | true =>
    refine Ev.cf rfl ?_
    refine Ev.ite (λ h=>?_) λ h=>?_
    ·rw [qu] at h;exact Ev.ret (by rw [if_pos rfl,if_pos (by omega)])
    ·rw [qv] at h;exact Ev.ret (by rw [if_pos rfl,if_neg (by omega)])
 have leaf:t.kids.length=0→∀ {R:Int},(∀ b,Jv t.name=b→(if b then 0 else 2)=R)→Ev (λ m _=>qa (Qb m t.name) λ v=>cond (qc v) (some 2) (cond (ilt 8 (t.kids.length:Int)) (some 3) (some 0))) R:=by
  intro h0 R h
  refine nm λ b hb=>?_
  rw [if_neg (show ¬ 8<t.kids.length by omega)]
  exact h b hb
 by_cases h1:t.kind=1
 ·rw [if_pos (.inl h1)]
  refine Ev.ct (qi.2 h1) ?_
  refine Ev.ite (λ h=>?_) λ h=>?_
  ·rw [qu] at h;exact Ev.ret (by rw [if_pos (.inl h)])
  rw [qv] at h
  refine Ev.ite (λ h'=>?_) λ h'=>?_
  ·rw [qu] at h';exact Ev.ret (by rw [if_pos (.inr (.inl h'))])
  rw [qv] at h'
  refine Ev.ite (λ h''=>?_) λ h''=>?_
  ·rw [qu] at h'';exact Ev.ret (by rw [if_pos (.inr (.inr (by omega)))])
  rw [qv] at h''
  rw [if_neg (by omega)]
  exact leaf (by omega) λ b hb=>by rw [hb]
 refine Ev.cf (qg.2 h1) ?_
 by_cases h2:t.kind=2
 ·rw [if_pos (.inr h2)]
  refine Ev.cf (bnf.2 (qi.2 h2)) ?_
  refine Ev.ite (λ h=>?_) λ h=>?_
  ·rw [qu] at h;exact Ev.ret (by rw [if_pos (.inl h)])
  rw [qv] at h
  refine Ev.ite (λ h'=>?_) λ h'=>?_
  ·rw [qu] at h';exact Ev.ret (by rw [if_pos (.inr (.inl h'))])
  rw [qv] at h'
  refine Ev.cf (bnf.2 (qi.2 h2)) (Ev.ct (qi.2 h2) ?_)
  refine Ev.ite (λ h''=>?_) λ h''=>?_
  ·rw [qu] at h'';exact Ev.ret (by rw [if_pos (.inr (.inr (by omega)))])
  rw [qv] at h''
  rw [if_neg (by omega)]
  exact leaf (by omega) λ b hb=>by rw [hb]
 refine Ev.ct (bnt.2 (qg.2 h2)) ?_
 rw [if_neg (by omega)]
 by_cases h3:t.kind=3
 ·rw [if_pos h3]
  refine Ev.cf (bnf.2 (qi.2 h3)) ?_
  refine Ev.ite (λ h=>?_) λ h=>?_
  ·rw [qu] at h;exact Ev.ret (by rw [if_pos (by omega)])
  rw [qv] at h
  refine Ev.ite (λ h'=>?_) λ h'=>?_
  ·rw [qu] at h';exact Ev.ret (by rw [if_pos (by omega)])
  rw [qv] at h'
  refine Ev.ct (bnt.2 (qg.2 h2)) ?_
  refine Ev.ite (λ h''=>?_) λ h''=>?_
  ·rw [bnt,qg] at h'';exact Ev.ret (by rw [if_pos h''])
  rw [bnf,qi] at h''
  rw [if_neg (by omega)]
  refine Ev.cf (qg.2 h2) ?_
  exact nm λ b hb=>by rw [hb]
 ·rw [if_neg h3]
  exact Ev.ct (bnt.2 (qg.2 h3)) (Ev.pure _)
theorem qEj (t:T):size t≤1000000000→Ev (λ m _=>yH m t) (Jw t):=by
 induction t using T.ind with
 | h t ih =>
   intro hs
   refine Ev.succ ?_
   simp only [qwc,qdE,qe]
   have hl:=yG t
   have key:=qr (P := λ i=>Ev (λ m k=>Jo m (yH m) k i t.kind t.name t.sort t.kids) (((t.kids.drop i).map Jw).foldl thn 0)) t.kids (by omega)
    (λ hc=>by
     refine Ev.loop ?_
     simp only [qkV,qdN]
     refine Ev.cf hc ?_
     exact Ev.ret (by simp))
    (λ i x hx hd hc hg hi hP=>by
     refine Ev.loop ?_
     simp only [qkV,qdN,qe]
     refine Ev.ct hc (Ev.some hg ?_)
     have hm:=List.mem_of_getElem? hx
     have h1:=jf t x hm
     refine Ev.bind (ih x hm (by omega)) ?_
     rw [hd,List.map_cons,jT,hi]
     refine Ev.ite (λ h=>?_) λ h=>?_
     ·rw [bnt,qg] at h;exact Ev.ret (by rw [qI _ h])
     ·rw [bnf,qi] at h;rw [h];exact hP)
   rw [qju]
   refine Ev.bind (qHc t) ?_
   refine Ev.ite (λ h=>?_) λ h=>?_
   ·rw [bnt,qg] at h;exact Ev.ret (by rw [qI _ h])
   ·rw [bnf,qi] at h;rw [h]
    refine Ev.diag (L := λ m k=>Jo m (yH m) k 0 t.kind t.name t.sort t.kids) ?_
    exact (key 0 (Nat.zero_le _)).res (by rw [List.drop_zero])
theorem qay (t:T) (hs:size t≤1000000000):Ev (λ m _=>zI m t) (qA t):=by
 refine Ev.succ ?_
 simp only [qvQ,qgh,qe]
 unfold qA
 refine Ev.bind (qEj t hs) ?_
 refine Ev.ite (λ h=>?_) λ h=>?_
 ·rw [bnt,qg] at h;exact Ev.ret (by rw [if_pos h])
 rw [bnf,qi] at h
 rw [if_neg (by omega)]
 refine Ev.bind (qqh t hs) ?_
 refine Ev.ite (λ h=>?_) λ h=>?_
 ·rw [qu] at h;exact Ev.ret (by rw [if_pos (.inl (by omega))])
 rw [qv] at h
 refine Ev.bind (qDH t hs) ?_
 refine Ev.ite (λ h=>?_) λ h=>?_
 ·rw [qu] at h;exact Ev.ret (by rw [if_pos (.inr (by omega))])
 ·rw [qv] at h;exact Ev.ret (by rw [if_neg (by omega)])
end Go.AmYtbpnmbmdbblehaaGreat
namespace Go.AmYtbpnmbmdbblehaaGreat
open Go Go.GxYtbpnmbmdbblehaaGreat Go.Lib
theorem qyb (lev d:Nat):∀ (l:List Nat) (c:Nat),l.foldl (λ a x=>max a (lev+x)) (max d (lev+c))=max d (lev+l.foldl max c)
 | [],c=>rfl
 | x::l,c=>by
   rw [List.foldl_cons,List.foldl_cons,← qyb lev d l (max c x)]
   congr 1;omega
def qH6 (lev n d:Nat) (e:Int) (s:Nat) (x:Nat) (r:(Int × Int × Unit) × (Int × Unit)):Prop:=r.2.1=e∧(e=0→r.1.1=((n+s:Nat):Int)∧r.1.2.1=((max d (lev+x):Nat):Int))
theorem qEd (t:T):size t≤1000000000→∀ lev n d:Nat,lev+size t≤2000000000→n+size t≤2000000000→d≤2000000000→∃ r,Ev (λ m _=>zF m t lev n d) r∧qH6 lev n d (Jw t) (size t) (qdV t-1) r:=by
 induction t using T.ind with
 | h t ih =>
   intro hs lev n d hlev hn hd0
   have hl:=yG t
   have hsz:=qC t
   have key:=qr (P := λ i=>∀ n d:Nat,n+((t.kids.drop i).map size).sum≤2000000000→d≤2000000000→∃ r,Ev (λ m k=>yU m (zF m) k lev t.kids t.kids.length i n d) r∧r.2.1=((t.kids.drop i).map Jw).foldl thn 0∧(((t.kids.drop i).map Jw).foldl thn 0=0→r.1.1=((n+((t.kids.drop i).map size).sum:Nat):Int)∧r.1.2.1=((((t.kids.drop i).map qdV).foldl (λ a x=>max a (lev+x)) d:Nat):Int))) t.kids (by omega)
    (λ hc n d _ _=>by
     refine ⟨((n,d,()),(0,())),?_,?_,λ _=>⟨?_,?_⟩⟩
     ·refine Ev.loop ?_
      simp only [qmG,qem]
      exact Ev.cf hc (Ev.pure _)
     ·simp
     ·simp
     ·simp)
    (λ i x hx hd hc hg hi hP n d hn hd1=>by
     have hm:=List.mem_of_getElem? hx
     have h1:=jf t x hm
     rw [qqa hd] at hn
     obtain ⟨r,hr,he,hz⟩:=ih x hm (by omega) (lev+1) n d (by omega) (by omega) hd1
     have hstep:∀ r' ,(r.2.1≠0→r'=((r.1.1,r.1.2.1,()),(r.2.1,())))→(r.2.1=0→Ev (λ m k=>yU m (zF m) k lev t.kids t.kids.length ((i+1:Nat):Int) r.1.1 r.1.2.1) r')→Ev (λ m k=>yU m (zF m) k lev t.kids t.kids.length i n d) r':=by
      intro r' g1 g2
      refine Ev.loop ?_
      simp only [qmG,qem,qe]
      refine Ev.ct hc (Ev.some hg ?_)
      rw [show qj (lev:Int) 1=((lev+1:Nat):Int) by unfold qj;omega,Qo (by omega),hi]
      refine Ev.bind hr ?_
      refine Ev.ite (λ h=>?_) λ h=>?_
      ·rw [bnt,qg] at h;exact Ev.ret (g1 h).symm
      ·rw [bnf,qi] at h;exact g2 h
     rw [hd,List.map_cons,List.map_cons,List.map_cons,List.sum_cons,jT,List.foldl_cons]
     by_cases h0:Jw x=0
     ·obtain ⟨z1,z2⟩:=hz h0
      have hdep:=qAg x
      obtain ⟨r',g1,g2,g3⟩:=hP (n+size x) (max d (lev+1+(qdV x-1))) (by omega) (by omega)
      refine ⟨r',hstep r' (λ h=>absurd (he.trans h0) h) (λ _=>by rw [z1,z2];exact g1),by rw [h0];exact g2,λ hh=>?_⟩
      rw [h0] at hh
      obtain ⟨q1,q2⟩:=g3 hh
      refine ⟨by rw [q1];congr 1;omega,?_⟩
      rw [q2]
      have:qdV x ≥ 1:=by rw [qip];omega
      rw [show max d (lev+1+(qdV x-1))=max d (lev+qdV x) by omega]
     ·refine ⟨((r.1.1,r.1.2.1,()),(r.2.1,())),hstep _ (λ _=>rfl) (λ h=>absurd (he.symm.trans h) h0),?_,λ hh=>?_⟩
      ·rw [qI _ h0];exact he
      ·rw [qI _ h0] at hh;exact absurd hh h0)
   have start:∀ r,(Qk t≠0→r=((((n+1:Nat):Int),((max d lev:Nat):Int),()),(Qk t,())))→(Qk t=0→Ev (λ m _=>yU m (zF m) m lev t.kids t.kids.length 0 ((n+1:Nat):Int) ((max d lev:Nat):Int)) r)→Ev (λ m _=>zF m t lev n d) r:=by
    intro r g1 g2
    refine Ev.succ ?_
    simp only [qxB,qeB]
    rw [show qj (n:Int) 1=((n+1:Nat):Int) by unfold qj;omega,Qo (by omega),qyQ]
    have err:∀ e,Qk t=e→e≠0→Ev (λ _ _=>some ((((n+1:Nat):Int),((max d lev:Nat):Int),()),(e,()))) r:=by
     intro e he h
     refine Ev.ret ?_
     subst he
     exact (g1 h).symm
    have nm:(t.kind=3∨t.kids.length=0)→(∀ b,Jv t.name=b→(if b then (if 8<t.kids.length then 3 else 0) else 2)=Qk t)→Ev (λ m _=>qa (qaO m t.name) λ v=>cond (qc v) (some ((((n+1:Nat):Int),((max d lev:Nat):Int),()),(2,()))) (cond (ilt 8 (t.kids.length:Int)) (some ((((n+1:Nat):Int),((max d lev:Nat):Int),()),(3,()))) (yU m (zF m) m lev t.kids t.kids.length 0 ((n+1:Nat):Int) ((max d lev:Nat):Int)))) r:=by
     intro _ h
     have h:=h _ rfl
     refine Ev.bind (qBW _) ?_
     cases hn:Jv t.name with
     | false=>rw [hn] at h;exact Ev.ct rfl (err 2 h.symm (by decide))
     | true =>
       rw [hn,if_pos rfl] at h
       refine Ev.cf rfl ?_
       refine Ev.ite (λ h'=>?_) λ h'=>?_
       ·rw [qu] at h';rw [if_pos (by omega)] at h;exact err 3 h.symm (by decide)
       ·rw [qv] at h';rw [if_neg (by omega)] at h;exact g2 h.symm
    have leafE:∀ k,t.kind=k→(k=1∨k=2)→Qk t=if t.sort<0∨5<t.sort∨0<t.kids.length then 1 else if Jv t.name then 0 else 2:=by
     intro k hk h
     unfold Qk qlT
     rw [hk,if_pos h]
    have leaf:∀ k,t.kind=k→(k=1∨k=2)→Ev (λ m _=>cond (ilt t.sort 0) (some ((((n+1:Nat):Int),((max d lev:Nat):Int),()),(1,()))) (cond (ilt 5 t.sort) (some ((((n+1:Nat):Int),((max d lev:Nat):Int),()),(1,()))) (cond (ilt 0 (t.kids.length:Int)) (some ((((n+1:Nat):Int),((max d lev:Nat):Int),()),(1,()))) (qa (qaO m t.name) λ v=>cond (qc v) (some ((((n+1:Nat):Int),((max d lev:Nat):Int),()),(2,()))) (cond (ilt 8 (t.kids.length:Int)) (some ((((n+1:Nat):Int),((max d lev:Nat):Int),()),(3,()))) (yU m (zF m) m lev t.kids t.kids.length 0 ((n+1:Nat):Int) ((max d lev:Nat):Int))))))) r:=by
     intro k hk h
     have hE:=leafE k hk h
     refine Ev.ite (λ h'=>?_) λ h'=>?_
     ·rw [qu] at h';exact err 1 (by rw [hE,if_pos (.inl h')]) (by decide)
     rw [qv] at h'
     refine Ev.ite (λ h1=>?_) λ h1=>?_
     ·rw [qu] at h1;exact err 1 (by rw [hE,if_pos (.inr (.inl h1))]) (by decide)
     rw [qv] at h1
     refine Ev.ite (λ h2=>?_) λ h2=>?_
     ·rw [qu] at h2;exact err 1 (by rw [hE,if_pos (.inr (.inr (by omega)))]) (by decide)
     rw [qv] at h2
     rw [if_neg (by omega)] at hE
     refine nm (.inr (by omega)) λ b hb=>?_
     rw [hE,hb,if_neg (show ¬ 8<t.kids.length by omega)]
    by_cases h1:t.kind=1
    ·exact Ev.ct (qi.2 h1) (leaf 1 h1 (.inl rfl))
    refine Ev.cf (qg.2 h1) ?_
    by_cases h2:t.kind=2
    ·exact Ev.ct (qi.2 h2) (leaf 2 h2 (.inr rfl))
    refine Ev.cf (qg.2 h2) ?_
    by_cases h3:t.kind=3
    ·refine Ev.ct (qi.2 h3) ?_
     have hE:Qk t=if t.sort≠0 then 1 else if Jv t.name then (if 8<t.kids.length then 3 else 0) else 2:=by
      unfold Qk qlT
      rw [if_neg (by omega),if_pos h3]
     refine Ev.ite (λ h'=>?_) λ h'=>?_
     ·rw [bnt,qg] at h';exact err 1 (by rw [hE,if_pos h']) (by decide)
     rw [bnf,qi] at h'
     rw [if_neg (by omega)] at hE
     exact nm (.inl h3) λ b hb=>by rw [hE,hb]
    ·refine Ev.cf (qg.2 h3) ?_
     refine err 1 ?_ (by decide)
     unfold Qk qlT
     rw [if_neg (by omega),if_neg h3]
   rw [qju]
   by_cases h0:Qk t=0
   ·rw [h0]
    obtain ⟨r,g1,g2,g3⟩:=key 0 (Nat.zero_le _) (n+1) (max d lev) (by rw [List.drop_zero];omega) (by omega)
    rw [List.drop_zero] at g2 g3
    refine ⟨r,start r (λ h=>absurd h0 h) (λ _=>Ev.diag (L := λ m k=>yU m (zF m) k lev t.kids t.kids.length 0 ((n+1:Nat):Int) ((max d lev:Nat):Int)) g1),g2,λ hh=>?_⟩
    obtain ⟨q1,q2⟩:=g3 hh
    refine ⟨by rw [q1];congr 1;omega,?_⟩
    rw [q2,show max d lev=max d (lev+0) by omega,qyb,qip,Nat.add_sub_cancel]
   ·refine ⟨_,start _ (λ _=>rfl) (λ h=>absurd h h0),?_,λ hh=>?_⟩
    ·rw [qI _ h0]
    ·rw [qI _ h0] at hh;exact absurd hh h0
theorem qar (t:T) (hs:size t≤1000000000):Ev (λ m _=>zu m t) (qA t):=by
 refine Ev.succ ?_
 simp only [qwC,qhs,qe]
 unfold qA
 obtain ⟨r,h1,h2,h3⟩:=qEd t hs 1 0 0 (by omega) (by omega) (by omega)
 refine Ev.bind h1 ?_
 rw [h2]
 refine Ev.ite (λ h=>?_) λ h=>?_
 ·rw [bnt,qg] at h;exact Ev.ret (by rw [if_pos h])
 rw [bnf,qi] at h
 obtain ⟨q1,q2⟩:=h3 h
 have hd:qdV t ≥ 1:=by rw [qip];omega
 rw [if_neg (by omega),q1,q2]
 refine Ev.ite (λ h=>?_) λ h=>?_
 ·rw [qu] at h;exact Ev.ret (by rw [if_pos (.inl (by omega))])
 rw [qv] at h
 refine Ev.ite (λ h=>?_) λ h=>?_
 ·rw [qu] at h;exact Ev.ret (by rw [if_pos (.inr (by omega))])
 ·rw [qv] at h;exact Ev.ret (by rw [if_neg (by omega)])
theorem qlJ (t:T):size t≤1000000000→Ev (λ m _=>yg m t) t:=by
 induction t using T.ind with
 | h t ih =>
   intro hs
   refine Ev.succ ?_
   simp only [qxg,qeC]
   have hl:=yG t
   have key:=qr (P := λ i=>Ev (λ m k=>JU m (yg m) k t.kids t.kids.length i t.kind t.name t.sort 0 [] 0 (t.kids.take i) []) t) t.kids (by omega)
    (λ hc=>by
     refine Ev.loop ?_
     simp only [qms,qeu]
     refine Ev.cf hc ?_
     rw [List.take_length]
     exact Ev.ret (qe t))
    (λ i x hx hd hc hg hi hP=>by
     refine Ev.loop ?_
     simp only [qms,qeu,qe]
     have hm:=List.mem_of_getElem? hx
     have h1:=jf t x hm
     refine Ev.ct hc (Ev.some hg (Ev.bind (ih x hm (by omega)) (Ev.ct (zh ?_ (by omega)) ?_)))
     ·have:(t.kids.take i).length≤t.kids.length:=by rw [List.length_take];omega
      omega
     ·rw [hi]
      refine hP.congr λ m k=>?_
      rw [List.take_add_one,hx];rfl)
   refine Ev.diag (L := λ m k=>JU m (yg m) k t.kids t.kids.length 0 t.kind t.name t.sort 0 [] 0 [] []) ?_
   exact key 0 (Nat.zero_le _)
noncomputable def qp7:T→Prop:=T.para λ t rs=>t.kids.length<2 ^ 62∧t.name.length<2 ^ 62∧∀ p∈rs,p
theorem qAR (t:T):qp7 t↔t.kids.length<2 ^ 62∧t.name.length<2 ^ 62∧∀ k∈t.kids,qp7 k:=by
 unfold qp7
 rw [T.para_eq]
 exact ⟨λ ⟨a,b,c⟩=>⟨a,b,λ k hk=>c _ (List.mem_map_of_mem hk)⟩,λ ⟨a,b,c⟩=>⟨a,b,λ p hp=>by obtain ⟨k,hk,rfl⟩:=List.mem_map.1 hp;exact c k hk⟩⟩
theorem qDA (t:T):qp7 t→∀ mm:Int,-1000000000≤mm→mm≤1000000000→Ev (λ m _=>ye m t mm) (qai t mm):=by
 induction t using T.ind with
 | h t ih =>
   intro hf mm hm0 hm1
   obtain ⟨f1,f2,f3⟩:=(qAR t).1 hf
   refine Ev.succ ?_
   simp only [qs5,qcw]
   rw [qzJ]
   refine Ev.ite (λ h=>?_) λ h=>?_
   ·rw [qgM] at h;exact Ev.ret (by rw [if_pos (.inl h)])
   rw [qic] at h
   refine Ev.ite (λ h'=>?_) λ h'=>?_
   ·rw [qu] at h';exact Ev.ret (by rw [if_pos (.inr (by omega))])
   rw [qv] at h'
   rw [if_neg (by omega),show jK mm 1=mm-1 from rfl,Qo (by omega)]
   have key:=qr (P := λ i=>∀ mm:Int,0≤mm→mm≤1000000000→Ev (λ m k=>QP m (ye m) k mm i t.kind t.name t.sort t.kids) (qiN ((t.kids.drop i).map qai) mm)) t.kids f1
    (λ hc mm _ _=>by
     refine Ev.loop ?_
     simp only [qj1,qcu]
     refine Ev.cf hc ?_
     rw [List.drop_length]
     exact Ev.pure _)
    (λ i x hx hd hc hg hi hP mm hm0 hm1=>by
     refine Ev.loop ?_
     simp only [qj1,qcu,qe]
     have hm:=List.mem_of_getElem? hx
     refine Ev.ct hc (Ev.some hg (Ev.bind (ih x hm (f3 x hm) mm (by omega) (by omega)) ?_))
     rw [hd,List.map_cons,qiN,hi]
     have:=qne x mm
     refine Ev.ite (λ h=>?_) λ h=>?_
     ·rw [qu] at h;exact Ev.ret (by rw [if_pos h])
     ·rw [qv] at h
      rw [if_neg (by omega)]
      exact hP _ (by omega) (by omega))
   refine Ev.diag (L := λ m k=>QP m (ye m) k (mm-1) 0 t.kind t.name t.sort t.kids) ?_
   exact (key 0 (Nat.zero_le _) (mm-1) (by omega) (by omega)).res (by rw [List.drop_zero])
theorem qHB (l:List T) (hl:l.length<2 ^ 62) (hf:∀ t∈l,qp7 t) (n:Nat) (mm:Int) (hm0:0≤mm) (hm1:mm≤1000000000):Ev (λ m _=>qg0 m l n mm) (decide (l.length≤n)&&qm2 l mm):=by
 refine Ev.succ ?_
 simp only [qzj,qfN]
 refine Ev.ite (λ h=>?_) λ h=>?_
 ·rw [qu] at h;exact Ev.ret (by rw [decide_eq_false (by omega)];rfl)
 rw [qv] at h
 rw [decide_eq_true (by omega),Bool.true_and]
 have key:=qr (P := λ i=>∀ mm:Int,0≤mm→mm≤1000000000→Ev (λ m k=>qaK m k l mm i) (qm2 (l.drop i) mm)) l hl
  (λ hc mm _ _=>by
   refine Ev.loop ?_
   simp only [qnr,qfU]
   refine Ev.cf hc ?_
   rw [List.drop_length]
   exact Ev.pure _)
  (λ i x hx hd hc hg hi hP mm hm0 hm1=>by
   refine Ev.loop ?_
   simp only [qnr,qfU,qe]
   have hm:=List.mem_of_getElem? hx
   refine Ev.ct hc (Ev.some hg (Ev.bind (qDA x (hf x hm) mm (by omega) (by omega)) ?_))
   rw [hd,qm2,hi]
   have:=qne x mm
   refine Ev.ite (λ h=>?_) λ h=>?_
   ·rw [qu] at h;exact Ev.ret (by rw [if_pos h])
   ·rw [qv] at h
    rw [if_neg (by omega)]
    exact hP _ (by omega) (by omega))
 refine Ev.diag (L := λ m k=>qaK m k l mm 0) ?_
 exact (key 0 (Nat.zero_le _) mm hm0 hm1).res (by rw [List.drop_zero])
theorem qFS {l:List T} {mm:Int} (hm:0≤mm) (h:qm2 l mm=true):∀ t∈l,(size t:Int)≤mm := λ t ht=>by
 have h1:=quv l mm hm h
 have h2:=qh7 l t ht
 omega
end Go.AmYtbpnmbmdbblehaaGreat
namespace Go.GxYtbpnmbmdbblehaaGreat
def qsx (t:T):Int:=if (qG t.name).2.2=0 then 10 else if qko jr t.name t.kids.length=false then 6 else if (qG t.name).2.2=2∧qit t=false then 10 else 0
theorem qrb (n:List UInt8):(jr.find? λ r=>r.1==n)=none∨∃ r∈jr,r.1=n∧(jr.find? λ r=>r.1==n)=some r:=by
 cases h:jr.find? λ r=>r.1==n with
 | none=>exact .inl rfl
 | some r=>exact .inr ⟨r,List.mem_of_find?_eq_some h,by simpa using List.find?_some h,rfl⟩
theorem qsK {n:List UInt8} (h:(jr.find? λ r=>r.1==n)=none):qG n=(0,0,0):=by unfold qG;rw [h];rfl
theorem qmb {n:List UInt8} {r:List UInt8 × Int × Int × Int} (h:(jr.find? λ r=>r.1==n)=some r):qG n=r.2:=by unfold qG;rw [h];rfl
def qGb (r:List UInt8 × Int × Int × Int):Bool :=
 decide (r.2.2.2≠0)&&decide (0≤r.2.1)&&decide (r.2.2.1≤8)&&(decide (r.2.2.2=2)==(r.1==qgD||r.1==nSk||r.1==qpw))&&(decide (r.2.2.2=2)==decide (r.2.2.2=2∧1≤r.2.1))&&(decide (r.2.2.2=3)==(r.1==qFF||r.1==qtq||r.1==qF6||r.1==qBV||r.1==qCg||r.1==qB2))
theorem qGM:jr.all qGb=true:=by decide
theorem qrv {n:List UInt8} (h:(qG n).2.2≠0):qFr jr n=true∧qtQ jr n=qG n∧0≤(qG n).1∧(qG n).2.1≤8∧((qG n).2.2=2↔n=qgD∨n=nSk∨n=qpw)∧((qG n).2.2=2→1≤(qG n).1)∧((qG n).2.2=3↔isD n=true):=by
 rcases qrb n with h0 | ⟨r,hr,hn,h0⟩
 ·rw [qsK h0] at h;exact absurd rfl h
 ·have hk:=List.all_eq_true.1 qGM r hr
  subst hn
  rw [qmb h0]
  unfold qGb at hk
  simp only [Bool.and_eq_true,beq_iff_eq,decide_eq_true_eq] at hk
  obtain ⟨⟨⟨⟨⟨h1,h2⟩,h3⟩,h4⟩,h5⟩,h6⟩:=hk
  refine ⟨List.any_eq_true.2 ⟨r,hr,by simp⟩,qmb h0,h2,h3,?_,?_,?_⟩
  ·constructor
   ·intro h
    rw [decide_eq_true h] at h4
    have:=h4.symm
    simp only [Bool.or_eq_true,beq_iff_eq] at this
    exact or_assoc.1 this
   ·intro h
    by_cases hh:r.2.2.2=2
    ·exact hh
    ·rw [decide_eq_false hh] at h4
     have:=h4.symm
     simp only [Bool.or_eq_false_iff,beq_eq_false_iff_ne] at this
     rcases h with h | h | h
     ·exact absurd h this.1.1
     ·exact absurd h this.1.2
     ·exact absurd h this.2
  ·intro h
   rw [decide_eq_true h] at h5
   have:=of_decide_eq_true h5.symm
   exact this.2
  ·unfold isD
   rw [← h6]
   simp
theorem qFD (t:T) (h3:t.kind=3):qsx t=qbg t:=by
 unfold qsx qbg
 rw [if_neg (show ¬ (t.kind≠3) from λ h=>h h3)]
 by_cases h0:(qG t.name).2.2=0
 ·rw [if_pos h0,if_pos h0]
 ·rw [if_neg h0,if_neg h0]
  obtain ⟨k1,k2,k3,k4,k5,k6,k7⟩:=qrv h0
  have e1:qko jr t.name t.kids.length=(decide ((qG t.name).1≤(t.kids.length:Int))&&decide ((t.kids.length:Int)≤(qG t.name).2.1)):=by
   unfold qko;rw [k1,k2,Bool.true_and]
  rw [e1]
  by_cases h1:(t.kids.length:Int)<(qG t.name).1∨(qG t.name).2.1<(t.kids.length:Int)
  ·rw [if_pos h1,if_pos]
   rw [Bool.and_eq_false_iff,decide_eq_false_iff_not,decide_eq_false_iff_not]
   omega
  ·rw [if_neg h1,if_neg]
   ·have e2:(qG t.name).2.2=2∧qit t=false↔JJ t=true:=by
      rw [k5]
      unfold qit JJ
      by_cases hn:t.name=qgD
      ·rw [if_pos hn,if_pos hn]
       simp [hn]
      ·rw [if_neg hn,if_neg hn]
       by_cases hs:t.name=nSk∨t.name=qpw
       ·rw [if_pos hs]
        have:agB t.kids = !(t.kids.any λ k=>decide (k.kind=3)||decide (k.sort≠1)):=by
         unfold agB
         generalize t.kids=l
         induction l with
         | nil=>rfl
         | cons x l ih=>simp only [List.all_cons,List.any_cons,ih,Bool.not_or];congr 1;congr 1;by_cases h:x.sort=1<;>simp [bne,h]
        rw [this]
        simp [hs]
       ·rw [if_neg hs]
        constructor
        ·rintro ⟨h,_⟩
         rcases h with h | h
         ·exact absurd h hn
         ·exact absurd h hs
        ·intro h;cases h
    by_cases hp:JJ t=true
    ·rw [if_pos hp,if_pos (e2.2 hp)]
    ·rw [if_neg hp,if_neg (λ h=>hp (e2.1 h))]
   ·rw [Bool.and_eq_false_iff,decide_eq_false_iff_not,decide_eq_false_iff_not]
    omega
theorem qe0 {t:T} (h3:t.kind=3) (h:zb t=0):qbg t=0∧(∀ k∈t.kids,zb k=0):=by
 rw [qkr,if_neg (show ¬ (t.kind≠3) from λ h=>h h3)] at h
 by_cases h0:qbg t=0
 ·refine ⟨h0,?_⟩
  rw [h0] at h
  generalize t.kids=l at *
  induction l with
  | nil=>intro k hk;cases hk
  | cons x l ih =>
    rw [List.map_cons,jT] at h
    by_cases hx:zb x=0
    ·rw [hx] at h
     intro k hk
     rcases List.mem_cons.1 hk with rfl | hk
     ·exact hx
     ·exact ih h k hk
    ·rw [qI _ hx] at h;exact absurd h hx
 ·rw [qI _ h0] at h;exact absurd h h0
end Go.GxYtbpnmbmdbblehaaGreat
namespace Go.AmYtbpnmbmdbblehaaGreat
open Go Go.GxYtbpnmbmdbblehaaGreat Go.Lib
theorem qhZ (t:T) (n:List UInt8):Ev (λ m _=>yv m t n) (isN t n):=by
 refine Ev.succ ?_
 simp only [qzs,qiE]
 unfold isN
 refine Ev.ite (λ h=>?_) λ h=>?_
 ·rw [qi] at h;exact Ev.ret (by rw [h];rfl)
 ·rw [qg] at h;exact Ev.ret (by rw [show (t.kind==3)=false from beq_eq_false_iff_ne.2 h];rfl)
theorem qjf (t:T) (n:List UInt8):Ev (λ m _=>J6 m t n) (isN t n):=by
 refine Ev.succ ?_
 simp only [qBQ,qj8]
 unfold isN
 refine Ev.ite (λ h=>?_) λ h=>?_
 ·rw [qi] at h;exact Ev.ret (by rw [h];rfl)
 ·rw [qg] at h;exact Ev.ret (by rw [show (t.kind==3)=false from beq_eq_false_iff_ne.2 h];rfl)
theorem qHR (n:List UInt8) (l:List T):Ev (λ m _=>qdk m n l) (apT n l):=Ev.succ (Ev.pure _)
theorem qbl (n:List UInt8) (l:List T) (hl:l.length≤1000000000):Ev (λ m _=>yu m n l) (apT n l):=by
 refine Ev.succ ?_
 simp only [qzc,qjm]
 refine Ev.ct (zh (by simp;omega) (by omega)) ?_
 refine Ev.case (λ h=>?_) λ x t h=>?_
 ·subst h;exact Ev.pure _
 ·subst h;exact Ev.pure _
def qEH (n:List UInt8):List UInt8 × Int × Int × Int:=(jr.find? λ r=>r.1==n).getD ([],0,0,0)
theorem qqN (n:List UInt8):(qEH n).2=qG n:=by
 unfold qEH qG
 cases jr.find? λ r=>r.1==n<;>rfl
theorem quI (n:List UInt8):Ev (λ m _=>qal m n) (qEH n):=by
 refine Ev.succ ?_
 simp only [qrA,qbZ]
 refine Ev.bind (a:=jr) (Ev.pure _) ?_
 have key:=qr (P := λ i=>Ev (λ m k=>Qc m k n jr jr.length i [] 0 0 0) (((jr.drop i).find? λ r=>r.1==n).getD ([],0,0,0))) jr (by decide)
  (λ hc=>by
   refine Ev.loop ?_
   simp only [qiK,qbY]
   refine Ev.cf hc ?_
   exact Ev.pure _)
  (λ i x hx hd hc hg hi hP=>by
   refine Ev.loop ?_
   simp only [qiK,qbY]
   refine Ev.ct hc (Ev.some hg ?_)
   rw [hd,List.find?_cons,hi]
   refine Ev.ite (λ h=>?_) λ h=>?_
   ·exact Ev.ret (by rw [show (x.1==n)=true from h];rfl)
   ·rw [show (x.1==n)=false from h];exact hP)
 refine Ev.diag (L := λ m k=>Qc m k n jr jr.length 0 [] 0 0 0) ?_
 exact key 0 (Nat.zero_le _)
theorem qxO {t:T} (h3:t.kind=3) (h:qbg t=0):(qG t.name).2.2≠0∧(qG t.name).1≤(t.kids.length:Int)∧(t.kids.length:Int)≤(qG t.name).2.1∧JJ t=false:=by
 unfold qbg at h
 rw [if_neg (show ¬ t.kind≠3 from λ hh=>hh h3)] at h
 split at h
 ·omega
 rename_i h1
 split at h
 ·omega
 rename_i h2
 split at h
 ·omega
 rename_i h4
 exact ⟨h1,by omega,by omega,by simpa using h4⟩
theorem qt0 {t:T} {i:Nat} (h:i<t.kids.length):qd t.kids (i:Int)=some (kid t i):=by
 rw [jI]
 unfold kid
 rw [List.getD_eq_getElem?_getD,List.getElem?_eq_getElem h];rfl
theorem qcG {t:T} (h:0<t.kids.length):qd t.kids 0=some (kid t 0):=qt0 (i:=0) h
theorem qoF {t:T} (h:1<t.kids.length):qd t.kids 1=some (kid t 1):=qt0 (i:=1) h
theorem qAp {t:T} {i:Nat} (h:i<t.kids.length):kid t i∈t.kids:=by
 unfold kid
 rw [List.getD_eq_getElem?_getD,List.getElem?_eq_getElem h]
 exact List.getElem_mem h
theorem yr {t:T} {n:List UInt8}:isN t n=true↔t.kind=3∧t.name=n:=by
 unfold isN
 rw [Bool.and_eq_true,beq_iff_eq,beq_iff_eq]
theorem qCI (t:T):size t≤1000000000→Ev (λ m _=>qz m t) (zb t):=by
 induction t using T.ind with
 | h t ih =>
   intro hs
   refine Ev.succ ?_
   simp only [qt8,qcl]
   have hl:=yG t
   rw [qkr]
   refine Ev.ite (λ h=>?_) λ h3=>?_
   ·rw [bnt,qg] at h;exact Ev.ret (by rw [if_pos h])
   rw [bnf,qi] at h3
   rw [if_neg (show ¬ t.kind≠3 from λ hh=>hh h3)]
   have k2:=qr (P := λ i=>Ev (λ m k=>(qM m (qz m) k).2 t.kids t.kids.length i) (((t.kids.drop i).map zb).foldl thn 0)) t.kids (by omega)
    (λ hc=>by
     refine Ev.loop ?_
     simp only [qjB,qcE]
     refine Ev.cf hc ?_
     exact Ev.ret (by simp))
    (λ i x hx hd hc hg hi hP=>by
     refine Ev.loop ?_
     simp only [qjB,qcE,qe]
     have hm:=List.mem_of_getElem? hx
     have h1:=jf t x hm
     refine Ev.ct hc (Ev.some hg (Ev.bind (ih x hm (by omega)) ?_))
     rw [hd,List.map_cons,jT,hi]
     refine Ev.ite (λ h=>?_) λ h=>?_
     ·rw [bnt,qg] at h;exact Ev.ret (by rw [qI _ h])
     ·rw [bnf,qi] at h;rw [h];exact hP)
   have k2':Ev (λ m k=>(qM m (qz m) k).2 t.kids t.kids.length 0) ((t.kids.map zb).foldl thn 0):=(k2 0 (Nat.zero_le _)).res (by rw [List.drop_zero])
   have k1:=qr (P := λ i=>Ev (λ m k=>(qM m (qz m) k).1 t.kids t.kids.length i t.kind t.name t.sort t.kids) (if (t.kids.drop i).any (λ k=>decide (k.kind=3)||decide (k.sort≠1))=true then 10 else (t.kids.map zb).foldl thn 0)) t.kids (by omega)
    (λ hc=>by
     refine Ev.loop ?_
     simp only [qjW,qcq]
     refine Ev.cf hc ?_
     refine k2'.res ?_
     rw [List.drop_length];rfl)
    (λ i x hx hd hc hg hi hP=>by
     refine Ev.loop ?_
     simp only [qjW,qcq,qe]
     refine Ev.ct hc (Ev.some hg ?_)
     rw [hd,List.any_cons,hi]
     refine Ev.ite (λ h=>?_) λ h=>?_
     ·rw [qi] at h;exact Ev.ret (by rw [decide_eq_true h];rfl)
     rw [qg] at h
     rw [decide_eq_false h]
     refine Ev.ite (λ h'=>?_) λ h'=>?_
     ·rw [bnt,qg] at h';exact Ev.ret (by rw [decide_eq_true h'];rfl)
     ·rw [bnf,qi] at h';rw [decide_eq_false (λ hh=>hh h')];exact hP)
   have fin2:qbg t=0→Ev (λ m _=>(qM m (qz m) m).2 t.kids t.kids.length 0) ((t.kids.map zb).foldl thn (qbg t)) := λ h=>by
    rw [h]
    exact Ev.diag (L := λ m k=>(qM m (qz m) k).2 t.kids t.kids.length 0) k2'
   have fin1:JJ t=t.kids.any (λ k=>decide (k.kind=3)||decide (k.sort≠1))→qbg t=(if JJ t=true then 10 else 0)→Ev (λ m _=>(qM m (qz m) m).1 t.kids t.kids.length 0 t.kind t.name t.sort t.kids) ((t.kids.map zb).foldl thn (qbg t)) := λ hp h=>by
    refine (Ev.diag (L := λ m k=>(qM m (qz m) k).1 t.kids t.kids.length 0 t.kind t.name t.sort t.kids) (k1 0 (Nat.zero_le _))).res ?_
    rw [List.drop_zero,← hp,h]
    split
    ·rw [qI _ (by decide)]
    ·rfl
   refine Ev.bind (quI t.name) ?_
   rw [qqN]
   have hK:qbg t=if (qG t.name).2.2=0 then 10 else if (t.kids.length:Int)<(qG t.name).1∨(qG t.name).2.1<(t.kids.length:Int) then 6 else if JJ t=true then 10 else 0:=by
    unfold qbg
    rw [if_neg (show ¬ t.kind≠3 from λ hh=>hh h3)]
   refine Ev.ite (λ h=>?_) λ h=>?_
   ·rw [qi] at h;rw [if_pos h] at hK;exact Ev.ret (by rw [hK,qI _ (by decide)])
   rw [qg] at h
   rw [if_neg h] at hK
   refine Ev.ite (λ h1=>?_) λ h1=>?_
   ·rw [qu] at h1;rw [if_pos (.inl h1)] at hK;exact Ev.ret (by rw [hK,qI _ (by decide)])
   rw [qv] at h1
   refine Ev.ite (λ h2=>?_) λ h2=>?_
   ·rw [qu] at h2;rw [if_pos (.inr h2)] at hK;exact Ev.ret (by rw [hK,qI _ (by decide)])
   rw [qv] at h2
   rw [if_neg (by omega)] at hK
   refine Ev.ite (λ hn=>?_) λ hn=>?_
   ·rw [y8] at hn
    refine fin1 ?_ hK
    unfold JJ
    rw [hn,if_neg (by decide),if_pos (.inl rfl)]
   rw [jq] at hn
   refine Ev.ite (λ hn'=>?_) λ hn'=>?_
   ·rw [y8] at hn'
    refine fin1 ?_ hK
    unfold JJ
    rw [hn',if_neg (by decide),if_pos (.inr rfl)]
   rw [jq] at hn'
   refine Ev.ite (λ hw=>?_) λ hw=>?_
   ·rw [y8] at hw
    have hpos:0<t.kids.length:=by
     rw [hw,show (qG [110,101,119]).1=1 from by decide] at h1
     omega
    refine Ev.some (qcG hpos) ?_
    have hp:JJ t=decide ((kid t 0).kind≠2):=by
     unfold JJ
     rw [if_pos (show t.name=qgD from hw)]
    refine Ev.ite (λ hh=>?_) λ hh=>?_
    ·rw [bnt,qg] at hh
     rw [hp,decide_eq_true hh,if_pos rfl] at hK
     exact Ev.ret (by rw [hK,qI _ (by decide)])
    ·rw [bnf,qi] at hh
     rw [hp,decide_eq_false (λ g=>g hh)] at hK
     exact fin2 hK
   ·rw [jq] at hw
    refine fin2 ?_
    have:JJ t=false:=by
     unfold JJ
     rw [if_neg (show ¬ t.name=qgD from hw),if_neg (λ h=>h.elim hn hn')]
    rw [this] at hK
    exact hK
theorem qHo (t:T) (hs:size t≤1000000000):Ev (λ m _=>qcJ m t) (qke t):=by
 refine Ev.succ ?_
 simp only [quc,qfz,qe]
 unfold qke
 refine Ev.bind (qar t hs) ?_
 refine Ev.ite (λ h=>?_) λ h=>?_
 ·rw [bnt,qg] at h;exact Ev.ret (by rw [jP h])
 ·rw [bnf,qi] at h;rw [h];exact Ev.bind (qCI t hs) (Ev.pure _)
theorem qtA (n:List UInt8):Ev (λ m _=>qbW m n) (qG n).2.2:=by
 refine Ev.succ ?_
 simp only [qxD,qex]
 refine Ev.bind (a:=jr) (Ev.succ (Ev.pure _)) ?_
 have key:=qr (P := λ i=>Ev (λ m k=>J2 m k n jr i) (((jr.drop i).find? λ r=>r.1==n).getD ([],0,0,0)).2.2.2) jr (by decide)
  (λ hc=>by
   refine Ev.loop ?_
   simp only [qmq,qeq]
   refine Ev.cf hc ?_
   exact Ev.pure _)
  (λ i x hx hd hc hg hi hP=>by
   refine Ev.loop ?_
   simp only [qmq,qeq]
   refine Ev.ct hc (Ev.some hg ?_)
   rw [hd,List.find?_cons,hi]
   refine Ev.ite (λ h=>?_) λ h=>?_
   ·refine Ev.some hg (Ev.ret ?_)
    rw [show (x.1==n)=true from h];rfl
   ·rw [show (x.1==n)=false from h];exact hP)
 refine Ev.diag (L := λ m k=>J2 m k n jr 0) ?_
 exact (key 0 (Nat.zero_le _)).res (by rw [← qqN];rfl)
theorem qGp (t:T):Ev (λ m _=>qfZ m t) (qko jr t.name t.kids.length):=by
 refine Ev.succ ?_
 simp only [qwN,qes]
 refine Ev.bind (a:=jr) (Ev.succ (Ev.pure _)) ?_
 have key:=qr (P := λ i=>Ev (λ m k=>J3 m k jr i t.kind t.name t.sort t.kids) (qko (jr.drop i) t.name t.kids.length)) jr (by decide)
  (λ hc=>by
   refine Ev.loop ?_
   simp only [qmH,qeA]
   refine Ev.cf hc ?_
   exact Ev.pure _)
  (λ i x hx hd hc hg hi hP=>by
   refine Ev.loop ?_
   simp only [qmH,qeA]
   refine Ev.ct hc (Ev.some hg ?_)
   rw [hd,qDB,hi]
   refine Ev.ite (λ h=>?_) λ h=>?_
   ·rw [if_pos (show (x.1==t.name)=true from h)]
    refine Ev.some hg ?_
    refine Ev.ite (λ h'=>?_) λ h'=>?_
    ·rw [qgM] at h'
     refine Ev.some hg (Ev.ret ?_)
     rw [decide_eq_true h'];rfl
    ·rw [qic] at h'
     exact Ev.ret (by rw [decide_eq_false (by omega)];rfl)
   ·rw [if_neg (by rw [show (x.1==t.name)=false from h];decide)];exact hP)
 refine Ev.diag (L := λ m k=>J3 m k jr 0 t.kind t.name t.sort t.kids) ?_
 exact key 0 (Nat.zero_le _)
theorem qDS (t:T) (hl:t.kids.length<2 ^ 62) (hpos:t.name=qgD→0<t.kids.length):Ev (λ m _=>qde m t) (qit t):=by
 refine Ev.succ ?_
 simp only [qtj,qcA]
 unfold qit
 refine Ev.ite (λ h=>?_) λ h=>?_
 ·rw [y8] at h
  rw [if_pos (show t.name=qgD from h)]
  refine Ev.some (qcG (hpos h)) (Ev.pure _)
 rw [jq] at h
 rw [if_neg (show ¬ t.name=qgD from h)]
 have key:=qr (P := λ i=>Ev (λ m k=>QO m k i t.kind t.name t.sort t.kids) (agB (t.kids.drop i))) t.kids hl
  (λ hc=>by
   refine Ev.loop ?_
   simp only [qjX,qcx]
   refine Ev.cf hc ?_
   exact Ev.ret (by rw [List.drop_length];rfl))
  (λ i x hx hd hc hg hi hP=>by
   refine Ev.loop ?_
   simp only [qjX,qcx]
   refine Ev.ct hc (Ev.some hg ?_)
   rw [hd,qEk,hi]
   refine Ev.ite (λ h=>?_) λ h=>?_
   ·exact Ev.ret (by rw [show (x.kind==3)=true from h];rfl)
   rw [show (x.kind==3)=false from h]
   refine Ev.some hg ?_
   refine Ev.ite (λ h'=>?_) λ h'=>?_
   ·rw [bnt,qg] at h'
    exact Ev.ret (by rw [show (x.sort != 1)=true from bne_iff_ne.2 h'];rfl)
   ·rw [bnf,qi] at h'
    rw [show (x.sort != 1)=false by rw [h'];rfl]
    exact hP)
 refine Ev.diag (L := λ m k=>QO m k 0 t.kind t.name t.sort t.kids) ?_
 exact (key 0 (Nat.zero_le _)).res (by rw [List.drop_zero])
theorem qCk (t:T):size t≤1000000000→Ev (λ m _=>yq m t) (zb t):=by
 induction t using T.ind with
 | h t ih =>
   intro hs
   refine Ev.succ ?_
   simp only [qvF,qdv,qe]
   have hl:=yG t
   rw [qkr]
   refine Ev.ite (λ h=>?_) λ h3=>?_
   ·rw [bnt,qg] at h;exact Ev.ret (by rw [if_pos h])
   rw [bnf,qi] at h3
   rw [if_neg (show ¬ t.kind≠3 from λ hh=>hh h3),← qFD t h3]
   have key:=qr (P := λ i=>Ev (λ m k=>Qq m (yq m) k i t.kind t.name t.sort t.kids) (((t.kids.drop i).map zb).foldl thn 0)) t.kids (by omega)
    (λ hc=>by
     refine Ev.loop ?_
     simp only [qk5,qdK]
     refine Ev.cf hc ?_
     exact Ev.ret (by simp))
    (λ i x hx hd hc hg hi hP=>by
     refine Ev.loop ?_
     simp only [qk5,qdK,qe]
     have hm:=List.mem_of_getElem? hx
     have h1:=jf t x hm
     refine Ev.ct hc (Ev.some hg (Ev.bind (ih x hm (by omega)) ?_))
     rw [hd,List.map_cons,jT,hi]
     refine Ev.ite (λ h=>?_) λ h=>?_
     ·rw [bnt,qg] at h;exact Ev.ret (by rw [qI _ h])
     ·rw [bnf,qi] at h;rw [h];exact hP)
   have fin:qsx t=0→Ev (λ m _=>Qq m (yq m) m 0 t.kind t.name t.sort t.kids) ((t.kids.map zb).foldl thn (qsx t)) := λ h=>by
    rw [h]
    exact (Ev.diag (L := λ m k=>Qq m (yq m) k 0 t.kind t.name t.sort t.kids) (key 0 (Nat.zero_le _))).res (by rw [List.drop_zero])
   unfold qsx at fin ⊢
   refine Ev.bind (qtA t.name) ?_
   refine Ev.ite (λ h=>?_) λ h=>?_
   ·rw [qi] at h;rw [if_pos h];exact Ev.ret (by rw [qI _ (by decide)])
   rw [qg] at h
   rw [if_neg h] at fin ⊢
   refine Ev.bind (qGp t) ?_
   cases hf:qko jr t.name t.kids.length with
   | false =>
     refine Ev.ct rfl ?_
     rw [if_pos rfl];exact Ev.ret (by rw [qI _ (by decide)])
   | true =>
     rw [hf,if_neg (by decide)] at fin
     rw [if_neg (by decide)]
     refine Ev.cf rfl ?_
     refine Ev.ite (λ h2=>?_) λ h2=>?_
     ·rw [qi] at h2
      refine Ev.bind (qDS t (by omega) λ hn=>?_) ?_
      ·obtain ⟨k1,k2,k3,k4,k5,k6,k7⟩:=qrv h
       have h6:=k6 h2
       unfold qko at hf
       rw [k1,k2,Bool.true_and,Bool.and_eq_true,decide_eq_true_iff] at hf
       omega
      cases ha:qit t with
      | false =>
        refine Ev.ct rfl ?_
        rw [if_pos ⟨h2,rfl⟩]
        exact Ev.ret (by rw [qI _ (by decide)])
      | true =>
        rw [ha,if_neg (by rintro ⟨_,h⟩;cases h)] at fin
        rw [if_neg (by rintro ⟨_,h⟩;cases h)]
        exact Ev.cf rfl (fin rfl)
     ·rw [qg] at h2
      rw [if_neg (by rintro ⟨h,_⟩;exact h2 h)] at fin ⊢
      exact fin rfl
theorem qGL (t:T) (hs:size t≤1000000000):Ev (λ m _=>qea m t) (qke t):=by
 refine Ev.succ ?_
 simp only [qvK,qgc,qe]
 unfold qke
 refine Ev.bind (qay t hs) ?_
 refine Ev.ite (λ h=>?_) λ h=>?_
 ·rw [bnt,qg] at h;exact Ev.ret (by rw [jP h])
 ·rw [bnf,qi] at h;rw [h];exact Ev.bind (qCk t hs) (Ev.pure _)
end Go.AmYtbpnmbmdbblehaaGreat
namespace Go.GxYtbpnmbmdbblehaaGreat
def Asc (l:List T):Prop:=l.Pairwise λ a b=>qp a b=-1
theorem z8 {a:T}:qp a a≠-1:=by rw [qmX];decide
theorem qt1 {a b:T}:qp a b=1↔qp b a=-1:=by
 have:=zH.anti a b;omega
theorem qdR {a b c:T} (h1:qp a b=-1) (h2:qp b c=-1):qp a c=-1:=zH.trans a b c h1 h2
theorem JW {x:T} {l:List T}:Asc (x::l)↔(∀ y∈l,qp x y=-1)∧Asc l:=List.pairwise_cons
theorem qAl:∀ (l m:List T),Asc l→Asc m→(∀ x,x∈l↔x∈m)→l=m
 | [],[],_,_,_=>rfl
 | [],y::m,_,_,h=>absurd ((h y).2 (List.mem_cons_self ..)) (by simp)
 | x::l,[],_,_,h=>absurd ((h x).1 (List.mem_cons_self ..)) (by simp)
 | x::l,y::m,hl,hm,h=>by
   obtain ⟨hl1,hl2⟩:=JW.1 hl
   obtain ⟨hm1,hm2⟩:=JW.1 hm
   have hx:=(h x).1 (List.mem_cons_self ..)
   have hy:=(h y).2 (List.mem_cons_self ..)
   have e:x=y:=by
    rcases List.mem_cons.1 hx with e | hx
    ·exact e
    rcases List.mem_cons.1 hy with e | hy
    ·exact e.symm
    exact absurd (qdR (hl1 y hy) (hm1 x hx)) z8
   subst e
   rw [qAl l m hl2 hm2 λ z=>?_]
   constructor
   ·intro hz
    rcases List.mem_cons.1 ((h z).1 (List.mem_cons_of_mem _ hz)) with e | h'
    ·subst e;exact absurd (hl1 z hz) z8
    ·exact h'
   ·intro hz
    rcases List.mem_cons.1 ((h z).2 (List.mem_cons_of_mem _ hz)) with e | h'
    ·subst e;exact absurd (hm1 z hz) z8
    ·exact h'
theorem qsC (n:Nat):∀ (a b:List T),a.length+b.length≤n→Asc a→Asc b→Asc (zf a b)∧(∀ x,x∈zf a b↔¬(x∈a↔x∈b)):=by
 induction n with
 | zero =>
   intro a b h _ _
   obtain rfl:a=[]:=List.length_eq_zero_iff.1 (by omega)
   obtain rfl:b=[]:=List.length_eq_zero_iff.1 (by omega)
   rw [zf]
   exact ⟨List.Pairwise.nil,by simp⟩
 | succ n ih =>
   intro a b h ha hb
   match a,b with
   | [],b=>rw [zf];exact ⟨hb,by simp⟩
   | x::a,[]=>rw [zf];exact ⟨ha,by simp [Classical.or_iff_not_imp_left]⟩
   | x::a,y::b =>
     rw [zf]
     obtain ⟨ha1,ha2⟩:=JW.1 ha
     obtain ⟨hb1,hb2⟩:=JW.1 hb
     simp only [List.length_cons] at h
     by_cases h1:qp x y=-1
     ·rw [if_pos h1]
      obtain ⟨k1,k2⟩:=ih a (y::b) (by simp;omega) ha2 hb
      have hxn:x ∉ y::b:=by
       intro h
       rcases List.mem_cons.1 h with e | h
       ·subst e;exact z8 h1
       ·exact z8 (qdR h1 (hb1 x h))
      have hxa:x ∉ a := λ h=>z8 (ha1 x h)
      refine ⟨JW.2 ⟨λ z hz=>?_,k1⟩,λ z=>?_⟩
      ·have:=(k2 z).1 hz
       by_cases hza:z∈a
       ·exact ha1 z hza
       ·have hzb:z∈y::b:=by
          by_cases hzb:z∈y::b
          ·exact hzb
          ·exact absurd ⟨λ h=>absurd h hza,λ h=>absurd h hzb⟩ this
        rcases List.mem_cons.1 hzb with e | h'
        ·rw [e];exact h1
        ·exact qdR h1 (hb1 z h')
      ·rw [List.mem_cons,k2,List.mem_cons (a:=z) (b:=x)]
       by_cases e:z=x
       ·subst e
        simp [hxn]
       ·simp [e]
     ·rw [if_neg h1]
      by_cases h2:qp x y=1
      ·rw [if_pos h2]
       have h3:=qt1.1 h2
       obtain ⟨k1,k2⟩:=ih (x::a) b (by simp;omega) ha hb2
       have hyn:y ∉ x::a:=by
        intro h
        rcases List.mem_cons.1 h with e | h
        ·subst e;exact z8 h3
        ·exact z8 (qdR h3 (ha1 y h))
       have hyb:y ∉ b := λ h=>z8 (hb1 y h)
       refine ⟨JW.2 ⟨λ z hz=>?_,k1⟩,λ z=>?_⟩
       ·have:=(k2 z).1 hz
        by_cases hzb:z∈b
        ·exact hb1 z hzb
        ·have hza:z∈x::a:=by
           by_cases hza:z∈x::a
           ·exact hza
           ·exact absurd ⟨λ h=>absurd h hza,λ h=>absurd h hzb⟩ this
         rcases List.mem_cons.1 hza with e | h'
         ·rw [e];exact h3
         ·exact qdR h3 (ha1 z h')
       ·rw [List.mem_cons,k2,List.mem_cons (a:=z) (b:=y)]
        by_cases e:z=y
        ·subst e
         simp [hyn]
        ·simp [e]
      ·rw [if_neg h2]
       have h3:qp x y=0:=by have:=zH.rng x y;omega
       have e:=JQ x y h3
       subst e
       obtain ⟨k1,k2⟩:=ih a b (by omega) ha2 hb2
       refine ⟨k1,λ z=>?_⟩
       rw [k2,List.mem_cons,List.mem_cons]
       by_cases e:z=x
       ·subst e
        have:z ∉ a := λ h=>z8 (ha1 z h)
        have:z ∉ b := λ h=>z8 (hb1 z h)
        simp [*]
       ·simp [e]
theorem qur {a b:List T} (ha:Asc a) (hb:Asc b):Asc (zf a b):=(qsC _ a b (Nat.le_refl _) ha hb).1
theorem qCm {a b:List T} (ha:Asc a) (hb:Asc b) (x:T):x∈zf a b↔¬(x∈a↔x∈b):=(qsC _ a b (Nat.le_refl _) ha hb).2 x
theorem qfK:∀ (ls:List (List T)) (a:List T),Asc a→(∀ l∈ls,Asc l)→Asc (ls.foldl zf a)
 | [],_,h,_=>h
 | l::ls,a,h,k=>qfK ls _ (qur h (k l (List.mem_cons_self ..))) λ m hm=>k m (List.mem_cons_of_mem _ hm)
theorem qjY (t:T):Asc (jn t):=by
 refine T.ind (P := λ t=>Asc (jn t)) ?_ t
 intro t ih
 rw [qi7]
 split
 ·exact List.Pairwise.nil
 ·split
  ·exact qfK _ _ List.Pairwise.nil λ l hl=>by
    obtain ⟨k,hk,rfl⟩:=List.mem_map.1 hl
    exact ih k hk
  ·exact List.pairwise_singleton _ _
noncomputable def QV (t:T) (s:List T × Bool) (x:T):List T × Bool :=
 if s.2=false∧qp t x≤0 then (s.1++(if qp t x<0 then [t] else [])++[x],true) else (s.1++[x],s.2)
noncomputable def qtm (l:List T) (t:T):List T:=if (l.foldl (QV t) ([],false)).2 then (l.foldl (QV t) ([],false)).1 else (l.foldl (QV t) ([],false)).1++[t]
noncomputable def qgz (l:List T) (t:T):List T:=if l.any (λ x=>yI x t) then l.filter (λ x => !yI x t) else qtm l t
noncomputable def qid (a b:List T):List T:=b.foldl qgz a
theorem quD (t:T):∀ (l out:List T),l.foldl (QV t) (out,true)=(out++l,true)
 | [],out=>by simp
 | x::l,out=>by
   have e:QV t (out,true) x=(out++[x],true):=by simp [QV]
   rw [List.foldl_cons,e,quD t l]
   simp
noncomputable def Ql:List T→T→List T
 | [],t=>[t]
 | x::l,t=>if qp t x<0 then t::x::l else if qp t x=0 then x::l else x::Ql l t
theorem qro (t:T):∀ (l out:List T),(if (l.foldl (QV t) (out,false)).2 then (l.foldl (QV t) (out,false)).1 else (l.foldl (QV t) (out,false)).1++[t])=out++Ql l t
 | [],out=>by simp [Ql]
 | x::l,out=>by
   rw [List.foldl_cons]
   by_cases h:qp t x≤0
   ·have e:QV t (out,false) x=(out++(if qp t x<0 then [t] else [])++[x],true):=by simp [QV,h]
    rw [e,quD,Ql]
    by_cases h0:qp t x<0
    ·simp [h0]
    ·have:qp t x=0:=by omega
     simp [this]
   ·have e:QV t (out,false) x=(out++[x],false):=by simp [QV,h]
    rw [e,qro t l,Ql,if_neg (by omega),if_neg (by omega)]
    simp
theorem qqi (l:List T) (t:T):qtm l t=Ql l t:=by
 have:=qro t l []
 simpa [qtm] using this
theorem qqx (t:T):∀ (l:List T) (x:T),x∈Ql l t↔x∈l∨x=t
 | [],x=>by simp [Ql]
 | y::l,x=>by
   rw [Ql]
   split
   ·simp only [List.mem_cons]
    constructor
    ·rintro (h | h | h)<;>simp [h]
    ·rintro ((h | h) | h)<;>simp [h]
   ·split
    ·rename_i h
     have:=JQ t y h
     subst this
     simp only [List.mem_cons]
     constructor
     ·rintro (h | h)<;>simp [h]
     ·rintro ((h | h) | h)<;>simp [h]
    ·rw [List.mem_cons,qqx t l x,List.mem_cons]
     constructor
     ·rintro (h | h | h)<;>simp [h]
     ·rintro ((h | h) | h)<;>simp [h]
theorem qyG (t:T):∀ (l:List T),Asc l→Asc (Ql l t)
 | [],_=>List.pairwise_singleton _ _
 | y::l,h=>by
   obtain ⟨h1,h2⟩:=JW.1 h
   rw [Ql]
   have hr:=zH.rng t y
   split
   ·have hlt:qp t y=-1:=by omega
    refine JW.2 ⟨λ z hz=>?_,h⟩
    rcases List.mem_cons.1 hz with e | hz
    ·rw [e];exact hlt
    ·exact qdR hlt (h1 z hz)
   ·split
    ·exact h
    ·refine JW.2 ⟨λ z hz=>?_,qyG t l h2⟩
     rcases (qqx t l z).1 hz with hz | e
     ·exact h1 z hz
     ·rw [e];exact qt1.1 (by omega)
theorem Q9 {a b:T}:yI a b=true↔a=b:=by unfold yI;exact decide_eq_true_iff
theorem qCV {l:List T} (h:Asc l) (t:T):Asc (qgz l t)∧∀ x,x∈qgz l t↔¬(x∈l↔x=t):=by
 unfold qgz
 by_cases hm:t∈l
 ·have h1:(l.any λ x=>yI x t)=true:=List.any_eq_true.2 ⟨t,hm,Q9.2 rfl⟩
  rw [if_pos h1]
  refine ⟨List.Pairwise.filter _ h,λ x=>?_⟩
  rw [List.mem_filter]
  by_cases e:x=t
  ·subst e
   simp [hm,Q9.2 rfl]
  ·have:yI x t=false:=by
     cases hh:yI x t
     ·rfl
     ·exact absurd (Q9.1 hh) e
   simp [e,this]
 ·rw [if_neg (λ hh=>by
    obtain ⟨x,hx,he⟩:=List.any_eq_true.1 hh
    exact hm (by rw [← Q9.1 he];exact hx)),qqi]
  refine ⟨qyG t l h,λ x=>?_⟩
  rw [qqx]
  by_cases e:x=t
  ·subst e;simp [hm]
  ·simp [e]
theorem qlO:∀ (b a:List T),Asc a→Asc b→Asc (qid a b)∧∀ x,x∈qid a b↔¬(x∈a↔x∈b)
 | [],a,ha,_=>⟨ha,λ x=>by simp [qid]⟩
 | y::b,a,ha,hb=>by
   obtain ⟨hb1,hb2⟩:=JW.1 hb
   obtain ⟨k1,k2⟩:=qCV ha y
   obtain ⟨m1,m2⟩:=qlO b (qgz a y) k1 hb2
   refine ⟨m1,λ x=>?_⟩
   rw [show qid a (y::b)=qid (qgz a y) b from rfl,m2,k2,List.mem_cons]
   by_cases e:x=y
   ·subst e
    have:x ∉ b := λ h=>z8 (hb1 x h)
    by_cases hx:x∈a<;>simp [this,hx]
   ·by_cases hx:x∈a<;>by_cases hy:x∈b<;>simp [e,hx,hy]
theorem qyt {a b:List T} (ha:Asc a) (hb:Asc b):qid a b=zf a b :=
 qAl _ _ (qlO b a ha hb).1 (qur ha hb) λ x=>by rw [(qlO b a ha hb).2,qCm ha hb]
end Go.GxYtbpnmbmdbblehaaGreat
namespace Go.AmYtbpnmbmdbblehaaGreat
open Go Go.GxYtbpnmbmdbblehaaGreat Go.Lib
noncomputable def szL (l:List T):Nat:=(l.map size).sum
theorem qJ (x:T) (l:List T):szL (x::l)=size x+szL l:=by simp [szL]
theorem qgd (a b:List T):szL (a++b)=szL a+szL b:=by simp [szL]
theorem y9:∀ l:List T,l.length≤szL l
 | []=>Nat.zero_le _
 | x::l=>by
   have:=y9 l
   have:=size_pos x
   rw [qJ,List.length_cons];omega
theorem qbw {l:List T} {x:T} (h:x∈l):size x≤szL l:=qh7 l x h
theorem qlq:∀ (n:Nat) (a b:List T),a.length+b.length≤n→szL (zf a b)≤szL a+szL b
 | _,[],b,_=>by rw [zf];omega
 | _,x::a,[],_=>by rw [zf];omega
 | 0,x::a,y::b,h=>by simp at h
 | n+1,x::a,y::b,h=>by
   simp only [List.length_cons] at h
   rw [zf]
   split
   ·have:=qlq n a (y::b) (by simp;omega)
    rw [qJ,qJ];omega
   ·split
    ·have:=qlq n (x::a) b (by simp;omega)
     rw [qJ y,qJ y];omega
    ·have:=qlq n a b (by omega)
     rw [qJ,qJ];omega
theorem qpl:∀ (ls:List (List T)) (a:List T),szL (ls.foldl zf a)≤szL a+(ls.map szL).sum
 | [],_=>by simp
 | l::ls,a=>by
   have h1:=qpl ls (zf a l)
   have h2:=qlq _ a l (Nat.le_refl _)
   simp only [List.foldl_cons,List.map_cons,List.sum_cons]
   omega
theorem qsm (f g:T→Nat):∀ l:List T,(∀ k∈l,f k≤g k)→(l.map f).sum≤(l.map g).sum
 | [],_=>Nat.le_refl _
 | x::l,h=>by
   have h1:=h x (List.mem_cons_self ..)
   have h2:=qsm f g l λ k hk=>h k (List.mem_cons_of_mem _ hk)
   simp only [List.map_cons,List.sum_cons];omega
theorem qw4 (l:List T) (h:∀ k∈l,szL (jn k)≤size k):szL ((l.map jn).foldl zf [])≤szL l:=by
 refine Nat.le_trans (qpl _ _) ?_
 rw [List.map_map]
 have:=qsm (szL ∘ jn) size l h
 show 0+_≤(l.map size).sum
 omega
theorem qiS (t:T):szL (jn t)≤size t:=by
 refine T.ind (P := λ t=>szL (jn t)≤size t) ?_ t
 intro t ih
 rw [qi7]
 split
 ·exact Nat.zero_le _
 ·split
  ·have:=qw4 t.kids ih
   have:=qC t
   unfold szL at *;omega
  ·show szL [t]≤_
   rw [qJ];exact Nat.le_refl _
theorem qc7 (l:List T):szL (zD l)≤szL l:=qw4 l λ k _=>qiS k
theorem ql0 (x:T) (l:List T):yX (x::l) 1 (((x::l).length:Nat):Int)=l:=by
 unfold yX
 rw [Int.toNat_natCast,List.take_length];rfl
theorem qk9 (n:Nat):inb (n:Int) n=true:=by unfold inb;rw [decide_eq_true_iff];omega
theorem qoE (x:T) (l:List T):inb 1 (Int.toNat (((x::l).length:Nat):Int))=true:=by
 unfold inb;rw [decide_eq_true_iff,Int.toNat_natCast,List.length_cons];omega
theorem qyB (x:T) (l:List T):ilt 0 (((x::l).length:Nat):Int)=true:=by rw [qu,List.length_cons];omega
theorem qA5:∀ (n:Nat) (a b acc:List T),a.length+b.length≤n→szL acc+szL a+szL b≤1000000000→Ev (λ m k=>qbD m k a b acc) (acc++zf a b):=by
 intro n
 induction n with
 | zero =>
   intro a b acc hn hs
   have:a=[]:=List.eq_nil_of_length_eq_zero (by omega)
   subst this
   have:b=[]:=List.eq_nil_of_length_eq_zero (by omega)
   subst this
   refine Ev.loop ?_
   simp only [qpm,qgL]
   have:=y9 acc
   exact Ev.cf rfl (Ev.ct (zh (by simp only [List.length_nil];omega) (by omega)) (Ev.ct (zh (by simp only [List.length_nil,List.append_nil];omega) (by omega)) (Ev.ret (by rw [zf];simp))))
 | succ n ih =>
   intro a b acc hn hs
   refine Ev.loop ?_
   simp only [qpm,qgL,qe]
   have h1:=y9 acc
   have h2:=y9 a
   have h3:=y9 b
   cases a with
   | nil =>
     refine Ev.cf rfl (Ev.ct (zh (by simp only [List.length_nil];omega) (by omega)) (Ev.ct (zh (by simp only [List.append_nil];omega) (by omega)) (Ev.ret (by rw [zf];simp))))
   | cons x a =>
     refine Ev.ct (qyB x a) ?_
     cases b with
     | nil =>
       refine Ev.cf rfl (Ev.ct (zh (by omega) (by omega)) (Ev.ct (zh (by rw [List.length_append];simp only [List.length_nil];omega) (by omega)) (Ev.ret (by rw [zf];simp))))
     | cons y b =>
       rw [qJ,qJ] at hs
       refine Ev.ct (qyB y b) (Ev.some (Ja _) (Ev.some (Ja _) (Ev.bind (qca x (by omega) y (by omega)) ?_)))
       rw [zf]
       simp only [List.length_cons] at hn h2 h3
       rw [qJ] at h2 h3
       refine Ev.ite (λ hc=>?_) λ hc=>?_
       ·rw [qu] at hc
        have hc:qp x y=-1:=by rcases zH.rng x y with h | h | h<;>omega
        rw [if_pos hc]
        refine Ev.some (Ja _) (Ev.ct (zh (by omega) (by omega)) (Ev.ct (qk9 _) (Ev.ct (qoE x a) ?_)))
        rw [ql0]
        refine (ih a (y::b) (acc++[x]) (by simp only [List.length_cons];omega) (by rw [qgd,qJ,qJ];show szL acc+(size x+0)+_+_≤_;omega)).res (by simp)
       ·rw [qv] at hc
        rw [if_neg (by omega)]
        refine Ev.ite (λ hd=>?_) λ hd=>?_
        ·rw [qu] at hd
         have hd:qp x y=1:=by rcases zH.rng x y with h | h | h<;>omega
         rw [if_pos hd]
         refine Ev.some (Ja _) (Ev.ct (zh (by omega) (by omega)) (Ev.ct (qk9 _) (Ev.ct (qoE y b) ?_)))
         rw [ql0]
         refine (ih (x::a) b (acc++[y]) (by simp only [List.length_cons];omega) (by rw [qgd,qJ,qJ];show szL acc+(size y+0)+_+_≤_;omega)).res (by simp)
        ·rw [qv] at hd
         rw [if_neg (by omega)]
         refine Ev.ct (qk9 _) (Ev.ct (qoE x a) (Ev.ct (qk9 _) (Ev.ct (qoE y b) ?_)))
         rw [ql0,ql0]
         exact ih a b acc (by omega) (by omega)
theorem qw8 (a b:List T) (hs:szL a+szL b≤1000000000):Ev (λ m _=>qga m a b) (zf a b):=by
 refine Ev.succ ?_
 simp only [qBc,qgN]
 refine Ev.diag (L := λ m k=>qbD m k a b []) ?_
 exact qA5 _ a b [] (Nat.le_refl _) (by show 0+_+_≤_;omega)
theorem qzq (l:List T) (i:Nat):szL (l.take i)≤szL l:=by
 have:=congrArg szL (List.take_append_drop i l)
 rw [qgd] at this;omega
theorem jD {l:List T} {i:Nat} {x:T} (h:l[i]? = some x):szL (l.take i)+size x≤szL l:=by
 have h1:l.take (i+1)=l.take i++[x]:=by rw [List.take_add_one,h];rfl
 have h2:=qzq l (i+1)
 rw [h1,qgd,qJ] at h2
 have:szL ([]:List T)=0:=rfl
 omega
theorem qhT {l:List T} {i:Nat} {x:T} (h:l[i]? = some x):((l.take (i+1)).map jn).foldl zf []=zf (((l.take i).map jn).foldl zf []) (jn x):=by
 rw [List.take_add_one,h,List.map_append,List.foldl_append];rfl
theorem qFl (t:T):size t≤1000000000→Ev (λ m _=>zO m t) (jn t):=by
 induction t using T.ind with
 | h t ih =>
   intro hs
   have hl:=yG t
   have hz:=qC t
   refine Ev.succ ?_
   simp only [qs2,qcn,qe]
   have key:=qr (P := λ i=>Ev (λ m k=>jO m (zO m) k (((t.kids.take i).map jn).foldl zf []) t.kids t.kids.length i) ((t.kids.map jn).foldl zf [])) t.kids (by omega)
    (λ hc=>by
     refine Ev.loop ?_
     simp only [qj6,qcD]
     refine Ev.cf hc ?_
     rw [List.take_length]
     exact Ev.pure _)
    (λ i x hx hd hc hg hi hP=>by
     refine Ev.loop ?_
     simp only [qj6,qcD,qe]
     have hm:=List.mem_of_getElem? hx
     have h1:=jf t x hm
     have h2:=qc7 (t.kids.take i)
     have h3:=jD hx
     have h4:=qiS x
     refine Ev.ct hc (Ev.some hg (Ev.bind (ih x hm (by omega)) (Ev.bind (qw8 _ _ ?_) ?_)))
     ·unfold zD at h2;unfold szL at *;omega
     ·rw [hi]
      refine hP.congr λ m k=>?_
      rw [qhT hx])
   have main:Ev (λ m _=>jO m (zO m) m [] t.kids t.kids.length 0) ((t.kids.map jn).foldl zf []) :=
    Ev.diag (L := λ m k=>jO m (zO m) k [] t.kids t.kids.length 0) (key 0 (Nat.zero_le _))
   rw [qi7]
   by_cases h3:t.kind=3
   ·have hk:ieq t.kind 3=true:=qi.2 h3
    refine Ev.ct hk ?_
    refine Ev.ite (λ hn=>?_) λ hn=>?_
    ·rw [y8] at hn
     have hnz:isN t qbe=true:=yr.2 ⟨h3,hn⟩
     have hnx:isN t qd4=false:=by
      rw [← Bool.not_eq_true,yr];rintro ⟨_,h⟩;rw [hn] at h;exact absurd h (by decide)
     refine Ev.ite (λ he=>?_) λ he=>?_
     ·rw [qi] at he
      have he:t.kids=[]:=List.eq_nil_of_length_eq_zero (by omega)
      rw [hnz,he]
      exact Ev.pure _
     ·rw [qg] at he
      have he:t.kids.isEmpty=false:=by
       cases hh:t.kids with
       | nil=>rw [hh] at he;exact absurd rfl he
       | cons _ _=>rfl
      rw [hnz,he,hnx]
      exact Ev.ct hk (Ev.cf (by rw [hn];rfl) (Ev.pure _))
    ·have hn':=jq.1 hn
     have hnz:isN t qbe=false:=by
      rw [← Bool.not_eq_true,yr];rintro ⟨_,h⟩;exact hn' h
     rw [hnz]
     refine Ev.ct hk (Ev.ite (λ hx=>?_) λ hx=>?_)
     ·rw [show isN t qd4=true from yr.2 ⟨h3,y8.1 hx⟩]
      exact main
     ·have hnx:isN t qd4=false:=by
        rw [← Bool.not_eq_true,yr];rintro ⟨_,h⟩;exact jq.1 hx h
      rw [hnx]
      exact Ev.pure _
   ·have hk:ieq t.kind 3=false:=qg.2 h3
    have hnn:∀ n,isN t n=false := λ n=>by
     rw [← Bool.not_eq_true,yr];rintro ⟨h,_⟩;exact h3 h
    rw [hnn,hnn]
    exact Ev.cf hk (Ev.cf hk (Ev.pure _))
end Go.AmYtbpnmbmdbblehaaGreat
namespace Go.AmYtbpnmbmdbblehaaGreat
open Go Go.GxYtbpnmbmdbblehaaGreat
theorem qC6 (ls:List (List T)) (hn:ls.length<1000) (h:(ls.map List.length).sum≤100000000):Ev (λ m _=>zc m ls) ls.flatten:=by
 have hfl:∀ l:List (List T),l.flatten.length=(l.map List.length).sum := λ l=>List.length_flatten
 have k2:=qr (P := λ i=>Ev (λ m k=>(ql m k).2 ls ls.length i (ls.take i).flatten) ls.flatten) ls (by omega)
  (λ hc=>by
   refine Ev.loop ?_
   simp only [JA,yB]
   refine Ev.cf hc ?_
   rw [List.take_length]
   exact Ev.pure _)
  (λ i x hx hd hc hg hi hP=>by
   refine Ev.loop ?_
   simp only [JA,yB]
   have ht:ls.take (i+1)=ls.take i++[x]:=by rw [List.take_add_one,hx];rfl
   have hs:((ls.take (i+1)).map List.length).sum≤(ls.map List.length).sum:=by
    have:=congrArg (λ l=>(l.map List.length).sum) (List.take_append_drop (i+1) ls)
    simp only [List.map_append,List.sum_append] at this
    omega
   rw [ht] at hs
   simp only [List.map_append,List.sum_append,List.map_cons,List.map_nil,List.sum_cons,List.sum_nil] at hs
   refine Ev.ct hc (Ev.some hg (Ev.ct (zh ?_ (by omega)) ?_))
   ·rw [hfl];omega
   ·rw [hi]
    refine hP.congr λ m k=>?_
    rw [ht,List.flatten_append];simp)
 have k1:=qr (P := λ i=>∀ n:Nat,n+((ls.drop i).map List.length).sum≤100000000→Ev (λ m k=>(ql m k).1 ls n ls ls.length i) ls.flatten) ls (by omega)
  (λ hc n hn=>by
   refine Ev.loop ?_
   simp only [Jz,yw]
   refine Ev.cf hc (Ev.some (a:=((),[],())) ?_ (k2 0 (Nat.zero_le _)))
   unfold yt
   rw [show inb (n:Int) 100000000=true from by unfold inb;rw [decide_eq_true_iff];omega]
   rfl)
  (λ i x hx hd hc hg hi hP n hn=>by
   refine Ev.loop ?_
   simp only [Jz,yw]
   rw [hd,List.map_cons,List.sum_cons] at hn
   refine Ev.ct hc (Ev.some hg ?_)
   rw [qla,Qo (by omega)]
   refine Ev.cf (qv.2 (by omega)) ?_
   rw [hi]
   exact hP (n+x.length) (by omega))
 refine Ev.succ ?_
 simp only [qeh,yz]
 refine Ev.diag (L := λ m k=>(ql m k).1 ls 0 ls ls.length 0) ?_
 exact k1 0 (Nat.zero_le _) 0 (by rw [List.drop_zero];omega)
theorem qsa (a b:List T) (h:a.length+b.length≤100000000):Ev (λ m _=>zc m [a,b]) (a++b) :=
 (qC6 [a,b] (by simp) (by simpa using h)).res (by simp)
theorem qm5 {f:T→Int} {l:List T} {i:Nat} {x:T} (h:l.drop i=x::l.drop (i+1)):((l.drop i).map f).foldl thn 0=if f x≠0 then f x else ((l.drop (i+1)).map f).foldl thn 0:=by
 rw [h,List.map_cons]
 by_cases hx:f x=0
 ·rw [if_neg (by simpa using hx),hx];rfl
 ·rw [if_pos hx]
  exact qI _ hx
theorem qE2 (l:List T) (hs:szL l≤100000000):Ev (λ m _=>qgS m l []) (qkG l):=by
 have hl:=y9 l
 refine Ev.succ ?_
 simp only [qy7,qfx]
 unfold qkG
 refine Ev.ite (λ h=>?_) λ h=>?_
 ·rw [qu] at h
  rw [if_pos (by omega)]
  exact Ev.pure _
 ·rw [qv] at h
  rw [if_neg (by omega)]
  refine Ev.bind (qsa l [] (by simp only [List.length_nil];omega)) ?_
  rw [List.append_nil]
  have key:=qr (P := λ i=>Ev (λ m k=>qaR m k l l.length i) (((l.drop i).map qA).foldl thn 0)) l (by omega)
   (λ hc=>by
    refine Ev.loop ?_
    simp only [qok,qfA]
    refine Ev.cf hc ?_
    rw [List.drop_length]
    exact Ev.pure _)
   (λ i x hx hd hc hg hi hP=>by
    refine Ev.loop ?_
    simp only [qok,qfA,qe]
    have h1:=qbw (List.mem_of_getElem? hx)
    rw [qm5 hd]
    refine Ev.ct hc (Ev.some hg (Ev.bind (qar x (by omega)) (Ev.ite (λ hv=>?_) λ hv=>?_)))
    ·rw [bnt,qg] at hv
     rw [if_pos hv]
     exact Ev.pure _
    ·rw [bnf,qi] at hv
     rw [if_neg (by omega),hi]
     exact hP)
  refine Ev.diag (L := λ m k=>qaR m k l l.length 0) ?_
  exact (key 0 (Nat.zero_le _)).res (by rw [List.drop_zero])
theorem qA7 (t:T) (hs:size t≤1000000000):Ev (λ m _=>qc8 m t [] t) (t,0):=by
 refine Ev.succ ?_
 simp only [qsQ,qcp,qe]
 refine Ev.bind (qlJ t hs) ?_
 refine Ev.diag (L := λ m k=>JR m k [] ([]:List Int).length 0 t.kind t.name t.sort t.kids 0 [] 0 t.kind t.name t.sort t.kids []) (Ev.loop ?_)
 simp only [qsc,qfP,qe]
 refine Ev.cf rfl ?_
 rw [show T.mk t.kind t.name t.sort t.kids=t from qe t]
 exact Ev.bind (qlJ t hs) (Ev.pure _)
def qdh (l:List T) (i:Nat):List T:=l.take i++List.replicate (l.length-i) zT
theorem qFK {l:List T} {i:Nat} (h:i<l.length):(qdh l i)[i]? = some zT:=by
 unfold qdh
 rw [List.getElem?_append_right (by rw [List.length_take];omega),List.length_take,List.getElem?_replicate,if_pos (by omega)]
theorem qqU {l:List T} {i:Nat} {x:T} (h:l[i]? = some x):(qdh l i).set i x=qdh l (i+1):=by
 have hi:=(List.getElem?_eq_some_iff.1 h).1
 unfold qdh
 have h1:l.take (i+1)=l.take i++[x]:=by rw [List.take_add_one,h];rfl
 have h2:List.replicate (l.length-i) zT=zT::List.replicate (l.length-(i+1)) zT:=by
  rw [show l.length-i=(l.length-(i+1))+1 by omega,List.replicate_succ]
 rw [h1,h2,List.set_append_right _ _ (by rw [List.length_take];omega),List.length_take,show i-min i l.length=0 by omega,List.set_cons_zero,List.append_assoc];rfl
theorem qDK {l:List T} {i:Nat} {x:T} (h:l[i]? = some x):(qdh l (i+1)).set i x=qdh l (i+1):=by
 rw [← qqU h,List.set_set]
theorem qDG {l:List T} {i:Nat} {x:T} (h:l[i]? = some x):(qdh l (i+1))[i]? = some x:=by
 have hi:=(List.getElem?_eq_some_iff.1 h).1
 rw [← qqU h,List.getElem?_set_self (by unfold qdh;rw [List.length_append,List.length_take,List.length_replicate];omega)]
theorem qdi {α : Type} (l:List α) (i:Nat) (v : α):jH l (i:Int) v=l.set i v:=by
 unfold jH
 rw [if_pos (by omega),Int.toNat_natCast]
theorem qG3:∀ (n:Nat) (l:List T),szL l≤n→n≤1000000→Ev (λ m _=>QD m l) l:=by
 intro n
 induction n using Nat.strongRecOn with
 | _ n ih =>
 intro l hs hn
 have hl:=y9 l
 refine Ev.succ ?_
 simp only [qCs,qh6]
 have key:=qr (P := λ i=>Ev (λ m k=>qda m (QD m) k l l.length i (qdh l i)) l) l (by omega)
  (λ hc=>by
   refine Ev.loop ?_
   simp only [qq2,qhX]
   refine Ev.cf hc ?_
   exact Ev.ret (by unfold qdh;rw [List.take_length,Nat.sub_self];simp))
  (λ i x hx hd hc hg hi hP=>by
   refine Ev.loop ?_
   simp only [qq2,qhX,qe]
   have h1:=qbw (List.mem_of_getElem? hx)
   have h2:=qC x
   have hib:=(List.getElem?_eq_some_iff.1 hx).1
   have e:jH (qdh l i) i x=qdh l (i+1):=by rw [qdi,qqU hx]
   have e2:jH (qdh l (i+1)) i x=qdh l (i+1):=by rw [qdi,qDK hx]
   have g:qd (qdh l (i+1)) i=some x:=by rw [jI,qDG hx]
   refine Ev.ct hc (Ev.some hg (Ev.bind (qA7 x (by omega)) (Ev.some (a:=zT) (by rw [jI,qFK hib]) (Ev.bind (ih (szL x.kids) (by unfold szL at *;omega) x.kids (Nat.le_refl _) (by unfold szL at *;omega)) ?_))))
   rw [e]
   refine Ev.some g ?_
   rw [show T.mk x.kind x.name x.sort x.kids=x from qe x,e2,hi]
   refine Ev.ite (λ hk=>?_) λ hk=>hP
   rw [qi] at hk
   have hk:x.kids=[]:=List.eq_nil_of_length_eq_zero (by omega)
   refine Ev.some g ?_
   rw [show T.mk x.kind x.name x.sort []=x from by rw [← hk];exact qe x,e2]
   exact hP)
 refine Ev.ct (by unfold qBn;rw [decide_eq_true_iff,Int.toNat_natCast];omega) ?_
 refine Ev.diag (L := λ m k=>qda m (QD m) k l l.length 0 (List.replicate (Int.toNat (l.length:Int)) (T.mk 0 [] 0 []))) ?_
 refine (key 0 (Nat.zero_le _)).congr λ m k=>?_
 unfold qdh
 rw [List.take_zero,Int.toNat_natCast];rfl
theorem qGg (l:List T) (hs:szL l≤900000):Ev (λ m _=>qkx m l) (qlQ l):=by
 have hl:=y9 l
 refine Ev.succ ?_
 simp only [qDX,qhS]
 unfold qlQ
 refine Ev.bind (qE2 l (by omega)) (Ev.ite (λ h=>?_) λ h=>?_)
 ·rw [bnt,qg] at h
  rw [if_pos h]
  exact Ev.pure _
 ·rw [bnf,qi] at h
  rw [if_neg (by omega)]
  have key:=qr (P := λ i=>Ev (λ m k=>qcV m k (((l.take i).map jn).foldl zf []) l l.length i 0 [] 0 []) (if qA (Jr (zD l))≠0 then (zT,3) else (Jr (zD l),0))) l (by omega)
   (λ hc=>by
    refine Ev.loop ?_
    simp only [qsf,qia,qe]
    refine Ev.cf hc ?_
    rw [List.take_length]
    have h1:=qc7 l
    show Ev (λ m k=>qa (QD m (zD l)) _) _
    have h2:=y9 (zD l)
    have fin:∀ u:T,u=Jr (zD l)→Ev (λ m _=>qa (zu m u) λ v=>cond (qc (ieq v 0)) (some (T.mk 0 [] 0 [],(3:Int))) (some (u,0))) (if qA (Jr (zD l))≠0 then (zT,3) else (Jr (zD l),0)):=by
     intro u hu
     have hz:size (Jr (zD l))≤1+szL (zD l):=by
      unfold Jr
      split
      ·rw [qC];show 1+0≤_;omega
      ·split
       ·rename_i _ h1l
        have:(zD l).getD 0 zT∈zD l:=by
         cases hh:zD l with
         | nil=>rw [hh] at h1l;cases h1l
         | cons x r=>exact List.mem_cons_self ..
        have:=qbw this;omega
       ·rw [qC];exact Nat.le_refl _
     subst hu
     refine Ev.bind (qar _ (by omega)) (Ev.ite (λ h=>?_) λ h=>?_)
     ·rw [bnt,qg] at h
      rw [if_pos h];exact Ev.pure _
     ·rw [bnf,qi] at h
      rw [if_neg (by omega)];exact Ev.pure _
    refine Ev.bind (qG3 _ (zD l) (Nat.le_refl _) (by omega)) (Ev.ite (λ h0=>?_) λ h0=>?_)
    ·rw [qi] at h0
     exact fin _ (by unfold Jr;rw [if_pos (by omega)];rfl)
    ·rw [qg] at h0
     refine Ev.ite (λ h1=>?_) λ h1=>?_
     ·rw [qi] at h1
      refine Ev.some (a:=(zD l).getD 0 zT) ?_ (fin _ (by unfold Jr;rw [if_neg (by omega),if_pos (by omega)]))
      rw [Ja,List.getD_eq_getElem?_getD]
      cases hh:zD l with
      | nil=>rw [hh] at h1;simp at h1
      | cons x r=>rfl
     ·rw [qg] at h1
      exact fin _ (by unfold Jr;rw [if_neg (by omega),if_neg (by omega)];rfl))
   (λ i x hx hd hc hg hi hP=>by
    refine Ev.loop ?_
    simp only [qsf,qia,qe]
    have hm:=List.mem_of_getElem? hx
    have h1:=qbw hm
    have h2:=qc7 (l.take i)
    have h3:=jD hx
    have h4:=qiS x
    refine Ev.ct hc (Ev.some hg (Ev.bind (qFl x (by omega)) (Ev.bind (qw8 _ _ ?_) ?_)))
    ·unfold zD at h2;omega
    ·rw [hi]
     refine hP.congr λ m k=>?_
     rw [qhT hx])
  refine Ev.diag (L := λ m k=>qcV m k [] l l.length 0 0 [] 0 []) ?_
  exact key 0 (Nat.zero_le _)
end Go.AmYtbpnmbmdbblehaaGreat
