/- Part 4 of what the proofs stand on: plain functions of the program, and that they are its functions. -/
import Derived.Test.YtbpnmbmdbblehaaGreatM3
import Derived.KernelRfl
import Derived.Test.YtbpnmbmdbblehaaGreatProg
import Derived.Test.YtbpnmbmdbblehaaGreatM2
import Derived.IntWalk
import Derived.Lib.Bytealg
set_option linter.unusedVariables false
set_option linter.unusedSimpArgs false
noncomputable section
namespace Go.AmYtbpnmbmdbblehaaGreat
open Go Go.RowKit Go.GxYtbpnmbmdbblehaaGreat Go.Sort Go.Proofs Go.Shelf
structure qEF (w0:World) (blk:Nat) (et:TypeId) (vs:Array Value) (W:World):Prop where
 hb:W.heap[blk]? = some (.cells vs et (0,0))
 os:W.os=w0.os
 tape:W.tape=w0.tape
 output:W.output=w0.output
 size:w0.heap.size≤W.heap.size
 other:∀ b,b<w0.heap.size→b≠blk→W.heap[b]? = w0.heap[b]?
 drawn:w0.drawn≤W.drawn
theorem qEF.refl {w:World} {blk:Nat} {et:TypeId} {vs:Array Value} (h:w.heap[blk]? = some (.cells vs et (0,0))):qEF w blk et vs w:=⟨h,rfl,rfl,rfl,Nat.le_refl _,λ _ _ _=>rfl,Nat.le_refl _⟩
theorem sort_blks {w:World} {blk:Nat} {et:TypeId} {vs:Array Value} (hb:w.heap[blk]? = some (.cells vs et (0,0))) {α : Type} [Inhabited α] (enc : α → List Value) (k m:Nat) (dk:Array α) (os:Array Obj) :
  qEF w blk et (putCells id 0 (flatK enc k dk) vs) (sortWorldK enc k w blk 0 m dk os):=by
 have hlt:blk<w.heap.size:=(Array.getElem?_eq_some_iff.1 hb).1
 have hh:(sortWorldK enc k w blk 0 m dk os).heap=w.heap.modify blk (onCells (putCells id 0 (flatK enc k dk)))++os:=rfl
 refine ⟨?_,rfl,rfl,rfl,?_,λ b hb' hn=>?_,Nat.le_add_right _ _⟩
 ·rw [hh,Array.getElem?_append_left (by simpa using hlt),Array.getElem?_modify,if_pos rfl,hb]
  rfl
 ·rw [hh,Array.size_append,Array.size_modify];exact Nat.le_add_right _ _
 ·rw [hh,Array.getElem?_append_left (by simpa using hb'),Array.getElem?_modify,if_neg (Ne.symm hn)]
theorem qd2.grow {W w':World} (h:qd2 W w'):∃ q os',w'=Sort.grow (W.drewN q) os':=by
 refine ⟨w'.drawn-W.drawn,w'.heap.extract W.heap.size w'.heap.size,?_⟩
 have hh:w'.heap=W.heap++w'.heap.extract W.heap.size w'.heap.size:=by
  apply Array.ext_getElem?
  intro i
  by_cases hi:i<W.heap.size
  ·rw [Array.getElem?_append_left hi];exact h.block i hi
  ·rw [Array.getElem?_append_right (by omega),Array.getElem?_extract]
   split
   ·congr 1;omega
   ·rw [Array.getElem?_eq_none (by omega)]
 have hd:W.drawn+(w'.drawn-W.drawn)=w'.drawn:=Nat.add_sub_cancel' h.drawn
 obtain ⟨h1,h2,h3,_,_,_⟩:=h
 cases w'
 cases W
 simp only [Sort.grow,World.drewN] at *
 rw [← hh,hd,h1,h2,h3]
def jZ (vs:Array Value) (k p:Nat):List Value:=(vs.toList.drop (p*k)).take k
theorem qjn {vs:Array Value} {k p j:Nat} (hj:j<k):(jZ vs k p)[j]? = vs[p*k+j]? := by
 unfold jZ
 rw [List.getElem?_take,if_pos hj,List.getElem?_drop,Array.getElem?_toList]
theorem qlY {vs:Array Value} {k p n:Nat} (hp:p<n) (hn:n*k≤vs.size):(jZ vs k p).length=k:=by
 unfold jZ
 have:(p+1)*k≤n*k:=Nat.mul_le_mul_right _ hp
 rw [Nat.succ_mul] at this
 rw [List.length_take,List.length_drop,Array.length_toList]
 omega
theorem qpD {Γ : Gh} {τ : Ty} {c:List (List AV)} {l:List (Val τ)} {vs:Array Value} {n:Nat} (hn:c.length=n) (hk:∀ e∈c,e.length = τ.size) (hd:qV (yf τ) c=some l) (hc:yo Γ τ.size c (vs.toList.take (n * τ.size))) (hs:n * τ.size≤vs.size)
  {p:Nat} {x:Val τ} (hp:l[p]? = some x):RepL Γ (qm τ x) (jZ vs τ.size p)∧∀ u∈jZ vs τ.size p,u.oneCell'=true:=by
 have hln:l.length=n:=(qT hd).symm.trans hn
 have hpn:p<n:=by rw [← hln];exact getElem?_lt hp
 have hpc:p<c.length:=by rw [hn];exact hpn
 obtain ⟨x',hx',hdx⟩:=Q6 hd (List.getElem?_eq_getElem hpc)
 rw [hp] at hx'
 cases hx'
 have hel:=hk _ (List.getElem_mem hpc)
 have hlen:=qlY (k := τ.size) hpn hs
 have get:∀ j,j < τ.size→∃ u,(jZ vs τ.size p)[j]? = some u∧Rep Γ (c[p][j]?.getD .dead) u∧u.oneCell'=true:=by
  intro j hj
  have hj':j<c[p].length:=by rw [hel];exact hj
  obtain ⟨u,u1,u2,u3⟩:=hc p c[p] j _ (List.getElem?_eq_getElem hpc) (List.getElem?_eq_getElem hj')
  refine ⟨u,?_,?_,u3⟩
  ·rw [qjn hj,← Array.getElem?_toList]
   rw [List.getElem?_take] at u1
   split at u1
   ·exact u1
   ·cases u1
  ·rw [List.getElem?_eq_getElem hj'];exact u2
 constructor
 ·refine (qiu hdx).rep ⟨by rw [hlen,hel],λ j y u hy hu=>?_⟩
  have hj:j < τ.size:=by rw [← hel];exact getElem?_lt hy
  obtain ⟨u',u1,u2,_⟩:=get j hj
  rw [hu] at u1;cases u1
  rw [hy] at u2
  exact u2
 ·intro u hu
  obtain ⟨j,hj⟩:=List.getElem?_of_mem hu
  have hjk:j < τ.size:=by rw [← hlen];exact getElem?_lt hj
  obtain ⟨u',u1,_,u3⟩:=get j hjk
  rw [hj] at u1;cases u1
  exact u3
theorem qhU (j k n:Nat) (h:j<n*k):j / k<n∧j / k*k+j % k=j∧j % k<k:=by
 have hk:0<k:=by
  rcases Nat.eq_zero_or_pos k with h0 | h0
  ·rw [h0,Nat.mul_zero] at h;exact absurd h (Nat.not_lt_zero _)
  ·exact h0
 refine ⟨(Nat.div_lt_iff_lt_mul hk).2 h,?_,Nat.mod_lt _ hk⟩
 rw [Nat.mul_comm];exact Nat.div_add_mod j k
set_option maxHeartbeats 1000000 in
theorem qCz {P:Program} {ρ : Ren} (L:SlLaysF0.n6 P ρ) {τ : Ty} {g:FuncId} (hag:∀ v,yG τ v = .agg (qm τ v)) (aE:∀ w,(isAgg (ρ.t 24)).run P w = .ok true w) (zE:∀ w,(Go.sizeOf (ρ.t 24)).run P w = .ok τ.size w)
  {F:Val τ → Val τ → Option Int} (hF:Fn2 P g τ (λ c:Int => .int .i64 c) F) (hf:qeE P (ρ.f 6)) {fn:List (Val τ)→Option (List (Val τ))} (hfn:∀ l r,fn l=some r→qoF F l=some r) :
  qX P (ρ.f 6) (mgP ⟨τ,[.clo g 0],λ x=>fn x.1⟩):=by
 refine ⟨hf,λ Γ σ w args vals r hi hr hp=>?_⟩
 unfold mgP at hp
 split at hp
 case h_2=>cases hp
 rename_i x hx
 split at hp
 case h_2=>cases hp
 rename_i v hv
 split at hp
 case h_2=>cases hp
 rename_i hlen
 obtain ⟨l,_⟩:=x
 have hv:=hfn _ _ hv
 have hlen:v.length=l.length:=Nat.eq_of_beq_eq_true hlen
 obtain ⟨y0,ys0,nr,rfl,hy0,hx1⟩:=qnr hx
 obtain ⟨ys1,rfl,hx2⟩:=qAz (g:=g) (r:=[]) hx1
 obtain ⟨rfl,hbx,hrw⟩:=qiw hx2
 clear hx hx1 hx2
 obtain ⟨u0,r0,rfl,hu0,hr⟩:=hr.uncons
 obtain ⟨u1,r1,rfl,hu1,hr⟩:=hr.uncons
 have:=hr.nil_inv
 subst this
 have hu1:u1 = .func (.func g) #[] #[]:=by
  cases hu1 with
  | fn _ _ us hn _=>obtain rfl:=List.eq_nil_of_length_eq_zero hn;rfl
 subst hu1
 have hb0 : σ.bx=[]:=List.eq_nil_of_length_eq_zero hbx.symm
 have none0:∀ (p:Option Addr) (cap:Nat),Calls P (ρ.f 6) #[.slice p 0 cap,.func (.func g) #[] #[]] w λ e w'=>e = .returned (.tuple #[])∧w'=w := λ p cap=>AnyF.slices_SortFunc_none L p cap _ w
 have tup:∀ Γ,Rep Γ (.tup []) (.tuple #[]) := λ Γ => .tup [] [] rfl (λ i x u h=>by cases h)
 rcases qcZ hy0 with ⟨hnr,R,rfl,hR,hRk,hRf,hRd⟩ | ⟨hnr,hl0,hy⟩
 ·have hrw1 : σ.rw=[R]:=by
    rw [hnr] at hrw
    match hq : σ.rw,hrw with
    | [Q],_=>rw [hq] at hR;cases hR;rfl
  rw [hb0,hrw1] at hp
  cases hp
  have H:=hi.row 0 R hR
  have hcl:R.c.length=l.length:=qT hRd
  have hlk:∀ e∈R.c,e.length = τ.size := λ e he=>(H.len e he).trans hRk
  have qlV:qR { σ with wr:=[],wrr:=[] } ⟨[],[⟨R.k,v.map (qm τ),R.ver,R.fz⟩],[],[0]⟩ :=
   ⟨by show σ.bx.length≤0;rw [hb0];exact Nat.le_refl _,by show σ.rw.length≤1;rw [hrw1];exact Nat.le_refl _,λ i hi _=>(by have hi:i < σ.bx.length:=hi;rw [hb0] at hi;exact absurd hi (Nat.not_lt_zero _)),λ i hi hn=>(by
    have hi:i < σ.rw.length:=hi
    rw [hrw1] at hi
    have hi:i<1:=hi
    obtain rfl:i=0:=by omega
    exact absurd (List.mem_singleton.2 rfl) hn),λ i h=>(by cases h),λ i h=>(by cases h)⟩
  obtain ⟨p,cap,rfl,hcap,hrm⟩:=qoo hi hR hRk hRf hu0
  by_cases hl0:l=[]
  ·subst hl0
   have hc0:R.c=[]:=List.eq_nil_of_length_eq_zero hcl
   have hv0:v=[]:=List.eq_nil_of_length_eq_zero hlen
   subst hv0
   rw [hcl]
   refine (none0 p cap).mono ?_
   rintro e w' ⟨rfl,rfl⟩
   refine ⟨_,Γ,rfl,.refl _ _,?_,tup _,qlV⟩
   have:(⟨[],[⟨R.k,([]:List (Val τ)).map (qm τ),R.ver,R.fz⟩],[],[0]⟩:St)=⟨[],[R],[],[0]⟩:=by
    show (⟨[],[⟨R.k,[],R.ver,R.fz⟩],[],[0]⟩:St)=_
    rw [← hc0]
   show Inv Γ ⟨[],[⟨R.k,([]:List (Val τ)).map (qm τ),R.ver,R.fz⟩],[],[0]⟩ w'
   rw [this]
   exact hi.wr hb0.symm hrw1.symm
  ·have hlpos:0<l.length:=List.length_pos_iff.2 hl0
   rcases hrm with h0 | ⟨rfl,hz,vs,et,hvs,hvsz,hfit,hca,hxl,h1⟩
   ·omega
   obtain ⟨n,hn⟩:∃ n,n=l.length:=⟨_,rfl⟩
   have hnc:R.c.length=n:=hcl.trans hn.symm
   rw [hnc] at hca hxl h1 hcap ⊢
   have hns:n * τ.size≤vs.size:=Nat.le_trans (Nat.mul_le_mul_right _ hcap) hfit
   have hsz0:0 < τ.size:=Ty.size_pos τ
   have hv':Nat.ble l.length 100000=true∧qbo F l=true∧qqw l.length (ltOf (Qv F l))=true∧v=pick l (J6 F l):=by
    cases l with
    | nil=>exact absurd rfl hl0
    | cons y l =>
      have hv:cond _ _ _=some v:=hv
      cases hb:(Nat.ble (y::l).length 100000&&(qbo F (y::l)&&qqw (y::l).length (ltOf (Qv F (y::l))))) with
      | false=>unfold qoF at hv;rw [hb] at hv;cases hv
      | true =>
        have hb':=hb
        simp only [Bool.and_eq_true] at hb'
        unfold qoF at hv
        rw [hb] at hv
        cases hv
        exact ⟨hb'.1,hb'.2.1,hb'.2.2,rfl⟩
   obtain ⟨v1,v2,v3,v4⟩:=hv'
   have v1:l.length≤100000:=Nat.le_of_ble_eq_true v1
   have hO:SWO (ltOf (Qv F l)):=qHB hlpos (λ i j=>by unfold ltOf;rw [qF4]) v3
   obtain ⟨hperm,_⟩:=qpj F l hO
   have hixlt:∀ i∈J6 F l,i<l.length := λ i hi=>List.mem_range.1 (hperm.mem_iff.1 hi)
   have hixlen:(J6 F l).length=l.length:=by rw [hperm.length_eq,List.length_range]
   have hER:∀ {q:Nat} {y:Val τ},l[q]? = some y→RepL Γ (qm τ y) (jZ vs τ.size q)∧∀ u∈jZ vs τ.size q,u.oneCell'=true := λ hq=>qpD hnc hlk hRd hca hns hq
   have hlast:∀ i,i % n<n := λ i=>Nat.mod_lt _ (by omega)
   obtain ⟨enc,henc⟩:∃ enc:Nat→List Value,enc = λ i=>jZ vs τ.size (i % n):=⟨_,rfl⟩
   have hek:∀ i,(enc i).length = τ.size := λ i=>by rw [henc];exact qlY (hlast i) hns
   have hlget:∀ i,∃ y,l[i % n]? = some y := λ i=>⟨_,List.getElem?_eq_getElem (by rw [← hn];exact hlast i)⟩
   have he1:∀ i,∀ u∈enc i,u.oneCell'=true := λ i u hu=>by
    rw [henc] at hu
    obtain ⟨y,hy⟩:=hlget i
    exact (hER hy).2 u hu
   have hrange:(Array.range n).size=n:=Array.size_range
   have hvsb:w.heap[Γ.cur 0]? = some (.cells vs et (0,0)):=hvs
   have hblk : Γ.cur 0<w.heap.size:=(Array.getElem?_eq_some_iff.1 hvsb).1
   have hmem0:∀ off,Γ.mem (Γ.cur 0) off=none := λ off=>H.un hz off (by rw [hRf,Nat.zero_mul];exact Nat.zero_le _)
   have hH:HoldsK enc τ.size w (Γ.cur 0) 0 (Array.range n):=by
    intro j hj
    rw [size_flatK,hrange] at hj
    obtain ⟨q1,q2,q3⟩:=qhU j τ.size n hj
    have hjs:j<vs.size:=Nat.lt_of_lt_of_le hj hns
    constructor
    ·rw [get_flatK _ _ _ _ (by rw [hrange];exact hj)]
     have e1:(Array.range n)[j / τ.size]! = j / τ.size:=by rw [getElem!_pos _ _ (by rw [hrange];exact q1)];simp
     rw [e1,henc]
     show _=some ((jZ vs τ.size (j / τ.size % n))[j % τ.size]!)
     rw [Nat.mod_eq_of_lt q1]
     have e2:(jZ vs τ.size (j / τ.size))[j % τ.size]? = some vs[j]:=by rw [qjn q3,q2];exact Array.getElem?_eq_getElem hjs
     rw [Nat.zero_add,Blk.cell hvs,List.getElem!_eq_getElem?_getD,e2,Array.getElem?_eq_getElem hjs]
     rfl
    ·exact Blk.free hvs _
   have hcmp:CmpLays P g #[] enc τ.size (Qv F l) (Γ.cur 0) 0 (Array.range n).size w:=by
    intro m os dk hdk x y
    have B:=sort_blks hvsb enc τ.size m dk os
    obtain ⟨W,hW⟩:∃ W,W=sortWorldK enc τ.size w (Γ.cur 0) 0 m dk os:=⟨_,rfl⟩
    rw [← hW] at B ⊢
    have hiW:Inv (bare Γ) emp W:=hi.bare λ b o u e=>by
     have hne:b ≠ Γ.cur 0 := λ hb=>by rw [hb,hmem0] at e;cases e
     have hc:=(hi.mem b o u e).1
     have hblt:=hi.mem_lt e
     rw [show W.cell? _=w.cell? _ from World.cell?_of_block (B.other b hblt hne)]
     exact hc
    have rep:∀ (i:Nat) (y:Val τ),l[i % n]? = some y→Rep (bare Γ) (yG τ y) (.agg (enc i).toArray) := λ i y hy=>by
     obtain ⟨q1,q2⟩:=hER hy
     rw [hag]
     have:enc i=jZ vs τ.size (i % n):=by rw [henc]
     rw [this]
     refine .agg _ _ q1.len q2 λ j z u a b=>(q1.rep j z u a b).bare (zR τ y z (List.mem_of_getElem? a))
    obtain ⟨lx,hx⟩:=hlget x
    obtain ⟨ly,hy⟩:=hlget y
    have hsome:=List.all_eq_true.1 (List.all_eq_true.1 v2 lx (List.mem_of_getElem? hx)) ly (List.mem_of_getElem? hy)
    obtain ⟨c,hc⟩:=Option.isSome_iff_exists.1 hsome
    have hcf:Qv F l x y=c:=by
     unfold Qv
     rw [← hn,hx,hy]
     simp only
     rw [hc];rfl
    rw [hcf]
    have hcall:=hF.2 hiW (rep x lx hx) (rep y ly hy) hc
    refine Calls.mono (by simpa using hcall) ?_
    rintro e w' ⟨rfl,hid⟩
    exact ⟨rfl,hid.grow⟩
   have hcall:=AnyQ.slices_SortFunc_eq L τ.size aE zE enc hek he1 (Qv F l) hO g #[] (Γ.cur 0) 0 cap (Array.range n) w (λ args w=>qdI hF.1 args w) hcmp hH hblk (by rw [hrange];omega)
   rw [hrange] at hcall
   refine Calls.mono hcall ?_
   rintro e w' ⟨rfl,m,os,hw'⟩
   have B:=sort_blks hvsb enc τ.size m (pdq (ltOf (Qv F l)) (Array.range n) 0 n (Lib.bitLen n) true true) os
   rw [← hw'] at B
   have hix:J6 F l=(pdq (ltOf (Qv F l)) (Array.range n) 0 n (Lib.bitLen n) true true).toList:=by unfold J6;rw [hn]
   obtain ⟨dk,hdk⟩:∃ dk,dk=pdq (ltOf (Qv F l)) (Array.range n) 0 n (Lib.bitLen n) true true:=⟨_,rfl⟩
   rw [← hdk] at B hix
   have hdks:dk.size=n:=by rw [← Array.length_toList,← hix,hixlen,hn]
   have hvlen:(v.map (qm τ)).length=n:=by rw [List.length_map,hlen,hn]
   have hflat:(flatK enc τ.size dk).size=n * τ.size:=by rw [size_flatK,hdks]
   have hpsz:(putCells id 0 (flatK enc τ.size dk) vs).size=vs.size:=by unfold putCells;rw [Array.size_mapIdx]
   obtain ⟨Γ',x1,x2,_⟩:=qjk hi hR (R':=⟨R.k,v.map (qm τ),R.ver,R.fz⟩) (by rw [hRf];exact Nat.zero_le _) rfl (g := Γ.cur 0) (vs:=putCells id 0 (flatK enc τ.size dk) vs) (e:=et) (.inr ⟨rfl,rfl,hpsz.trans hvsz⟩)
    (λ e he=>by obtain ⟨y,_,rfl⟩:=List.mem_map.1 he;rw [jI,hRk]) (λ e he=>by obtain ⟨y,_,rfl⟩:=List.mem_map.1 he;exact zR τ y) (by show R.fz≤_;rw [hRf];exact Nat.zero_le _) B.hb
    (by show (v.map (qm τ)).length*R.k≤_;rw [hvlen,hRk,hpsz];exact hns)
    (λ off _=>hmem0 off)
    (λ i e j x he hx=>by
     have he:(v.map (qm τ))[i]? = some e:=he
     have hin:i<n:=by rw [← hvlen];exact getElem?_lt he
     rw [List.getElem?_map,v4,qpy hixlt] at he
     have hixi:(J6 F l)[i]? = some dk[i]:=by rw [hix,Array.getElem?_toList];exact Array.getElem?_eq_getElem (by omega)
     rw [hixi] at he
     obtain ⟨y,hy,rfl⟩:∃ y,l[dk[i]]? = some y∧qm τ y=e:=by
      cases hq:l[dk[i]]? with
      | none=>simp [hq] at he
      | some y=>simp [hq] at he;exact ⟨y,rfl,he⟩
     have hdl:dk[i]<n:=Nat.lt_of_lt_of_le (getElem?_lt hy) (Nat.le_of_eq hn.symm)
     obtain ⟨q1,q2⟩:=hER hy
     have hj:j < τ.size:=by rw [← jI τ y];exact getElem?_lt hx
     obtain ⟨u,hu,hrep⟩:=q1.get hx
     refine ⟨u,?_,hrep,q2 u (List.mem_of_getElem? hu)⟩
     rw [hRk]
     have hlt:i * τ.size+j<n * τ.size:=by
      have:(i+1) * τ.size≤n * τ.size:=Nat.mul_le_mul_right _ hin
      rw [Nat.succ_mul] at this
      omega
     unfold putCells
     rw [Array.getElem?_mapIdx,Array.getElem?_eq_getElem (Nat.lt_of_lt_of_le hlt hns),Option.map_some,if_pos ⟨Nat.zero_le _,by rw [hflat,Nat.zero_add];exact hlt⟩,Nat.sub_zero,id,get_flatK _ _ _ _ (by rw [hdks];exact hlt)]
     have e1:(i * τ.size+j) / τ.size=i:=by rw [Nat.mul_comm,Nat.mul_add_div hsz0,Nat.div_eq_of_lt hj,Nat.add_zero]
     have e2:(i * τ.size+j) % τ.size=j:=by rw [Nat.mul_comm,Nat.mul_add_mod,Nat.mod_eq_of_lt hj]
     rw [e1,e2,getElem!_pos dk i (by omega),henc]
     show some ((jZ vs τ.size (dk[i] % n))[j]!)=_
     rw [Nat.mod_eq_of_lt hdl,List.getElem!_eq_getElem?_getD,hu]
     rfl)
    (λ b o u hm=>by
     have hne:b ≠ Γ.cur 0 := λ hb=>by rw [hb,hmem0] at hm;cases hm
     rw [show w'.cell? _=w.cell? _ from World.cell?_of_block (B.other b (hi.mem_lt hm) hne)]
     exact (hi.mem b o u hm).1)
    (λ b hb hor=>B.other b hb (hor.elim id λ h0=>absurd h0 hz)) (.inl ⟨rfl,hz⟩) B.os B.tape B.output B.size B.drawn [0]
   refine ⟨_,Γ',rfl,x1,?_,tup _,qlV⟩
   refine x2.wr ?_ ?_
   ·exact hb0.symm
   ·show [(⟨R.k,v.map (qm τ),R.ver,R.fz⟩:Row)] = σ.rw.set 0 _
    rw [hrw1];rfl
 ·have hrw0 : σ.rw=[]:=by rw [hnr] at hrw;exact List.eq_nil_of_length_eq_zero hrw.symm
  rw [hb0,hrw0] at hp
  cases hp
  have hfin:∀ (p:Option Addr) (cap:Nat),jz P Γ σ w (ρ.f 6) [.slice p 0 cap,.func (.func g) #[] #[]] (.tup [],none) := λ p cap=>by
   refine (none0 p cap).mono ?_
   rintro e w' ⟨rfl,rfl⟩
   exact ⟨_,Γ,rfl,.refl _ _,hi,tup _,.refl _⟩
  rcases hy with rfl | ⟨f,rfl,hf2⟩
  ·have hu0:=zq hu0
   subst hu0
   exact hfin none 0
  ·cases hu0 with
   | sl _ _ _ a n cap b o us hn _ _ _ _ _ _ _ _ =>
     have hn:n=0:=hn
     subst hn
     exact hfin a cap
end Go.AmYtbpnmbmdbblehaaGreat
namespace Go.Proofs.YtbpnmbmdbblehaaGreat
open Go Go.RowKit Go.GxYtbpnmbmdbblehaaGreat Go.Sort Go.Proofs Go.Shelf Go.Lib
def zp (ef:Nat→Nat→Bool) (n:Nat):List Nat:=(List.range n).filter λ i=>decide (i=0) || !ef i (i-1)
theorem qzd {ef:Nat→Nat→Bool} {n:Nat} (h:ef n (n-1)=false):zp ef (n+1)=zp ef n++[n]:=by
 unfold zp
 rw [List.range_succ,List.filter_append]
 simp [h]
theorem qpo {ef:Nat→Nat→Bool} {n:Nat} (hn:0<n) (h:ef n (n-1)=true):zp ef (n+1)=zp ef n:=by
 unfold zp
 rw [List.range_succ,List.filter_append]
 have:¬ n=0:=by omega
 simp [h,this]
theorem qsL {ef:Nat→Nat→Bool} {n:Nat} (h:∀ i,1≤i→i<n→ef i (i-1)=false):zp ef n=List.range n:=by
 unfold zp
 rw [List.filter_eq_self]
 intro i hi
 have hi:=List.mem_range.1 hi
 by_cases h0:i=0
 ·simp [h0]
 ·rw [h i (by omega) hi];simp
theorem qzc {α : Type} [Inhabited α] (enc : α → List Value) (k:Nat) (hk:∀ x,(enc x).length=k) (d:Array α) (i:Nat) (x : α) (hi:i<d.size):setMany (flatK enc k d) (i*k) (enc x)=flatK enc k (d.setIfInBounds i x):=by
 refine ext_get! (by simp) λ t ht=>?_
 rw [size_setMany,size_flatK] at ht
 rw [get_setMany _ _ _ _ (by rw [size_flatK];exact ht),hk,get_flatK _ _ _ _ ht,get_flatK _ _ _ _ (by simpa using ht)]
 have hk0:0<k:=by
  rcases Nat.eq_zero_or_pos k with h0 | h0
  ·rw [h0,Nat.mul_zero] at ht;exact absurd ht (Nat.not_lt_zero _)
  ·exact h0
 by_cases hb:i*k≤t∧t<i*k+k
 ·rw [if_pos hb]
  have e:=(blk_iff k i t hk0).1 hb
  rw [e,getElem!_set_same d i x hi]
  congr 1
  have:=Nat.div_add_mod t k
  rw [e] at this
  have e2:k*i=i*k:=Nat.mul_comm _ _
  omega
 ·rw [if_neg hb,getElem!_set_other d i _ x λ he=>hb ((blk_iff k i t hk0).2 he)]
theorem qFy {α : Type} [Inhabited α] {w:World} {enc : α → List Value} {k blk:Nat} (hk:∀ x,(enc x).length=k) (m:Nat) (dk:Array α) (os:Array Obj) (hblk:blk<w.heap.size) (i:Nat) (x : α) (hi:i<dk.size) :
  (sortWorldK enc k w blk 0 m dk os).setCells blk (i*k) (enc x)=sortWorldK enc k w blk 0 m (dk.setIfInBounds i x) os:=by
 have hb:i*k+(enc x).length≤(flatK enc k dk).size:=by
  rw [hk,size_flatK]
  have:=Nat.mul_le_mul_right k (show i+1≤dk.size from hi)
  rwa [Nat.succ_mul] at this
 unfold sortWorldK
 rw [setCells_grow os blk _ _ _ (by rw [size_putRowK];exact hblk)]
 congr 1
 unfold putRowK
 have:=setCells_putRow (Sort.ahead w m) blk 0 (enc x) (i*k) (flatK enc k dk) hb
 rw [Nat.zero_add] at this
 rw [this,qzc enc k hk dk i x hi]
variable {P:Program}
set_option maxHeartbeats 4000000 in
set_option maxRecDepth 1000000 in
theorem qCO (hF:P.funcs[155]? = some Tryz.f155) (mixed:P.follows .mixedOrders=true)
  (t0:P.underlying 0=some (TypeDesc.tuple #[])) (a0:∀ w,(isAgg 0).run P w = .ok false w) (z0:∀ w,(Go.sizeOf 0).run P w = .ok 1 w) (v0:∀ w,(zeroValue 0).run P w = .ok (Value.tuple #[]) w)
  (t3:P.underlying 3=some (TypeDesc.int IntKind.i64)) (a3:∀ w,(isAgg 3).run P w = .ok false w) (z3:∀ w,(Go.sizeOf 3).run P w = .ok 1 w) (v3:∀ w,(zeroValue 3).run P w = .ok (Value.int IntKind.i64 0) w)
  (t4:P.underlying 4=some (TypeDesc.bool)) (a4:∀ w,(isAgg 4).run P w = .ok false w) (z4:∀ w,(Go.sizeOf 4).run P w = .ok 1 w) (v4:∀ w,(zeroValue 4).run P w = .ok (Value.bool false) w)
  (t22:P.underlying 22=some (TypeDesc.slice 24)) (a22:∀ w,(isAgg 22).run P w = .ok false w) (z22:∀ w,(Go.sizeOf 22).run P w = .ok 1 w) (v22:∀ w,(zeroValue 22).run P w = .ok (Value.slice none 0 0) w)
  (t36:P.underlying 36=some (TypeDesc.func #[24,24] #[4] false)) (a36:∀ w,(isAgg 36).run P w = .ok false w) (z36:∀ w,(Go.sizeOf 36).run P w = .ok 1 w) (v36:∀ w,(zeroValue 36).run P w = .ok (Value.nilFunc) w)
  (p:Option Addr) (cap:Nat) (fv:Value) (w:World) :
  Calls P 155 #[.slice p 0 cap,fv] w λ e w'=>e = .returned (.slice p 0 cap)∧w'=w:=by
 go_enter hF,Tryz.ntmps155
 go_wp2
 go_ret
 exact ⟨rfl,rfl⟩
set_option maxHeartbeats 4000000 in
set_option maxRecDepth 1000000 in
theorem qDo (hF:P.funcs[155]? = some Tryz.f155) (mixed:P.follows .mixedOrders=true)
  (t0:P.underlying 0=some (TypeDesc.tuple #[])) (a0:∀ w,(isAgg 0).run P w = .ok false w) (z0:∀ w,(Go.sizeOf 0).run P w = .ok 1 w) (v0:∀ w,(zeroValue 0).run P w = .ok (Value.tuple #[]) w)
  (t3:P.underlying 3=some (TypeDesc.int IntKind.i64)) (a3:∀ w,(isAgg 3).run P w = .ok false w) (z3:∀ w,(Go.sizeOf 3).run P w = .ok 1 w) (v3:∀ w,(zeroValue 3).run P w = .ok (Value.int IntKind.i64 0) w)
  (t4:P.underlying 4=some (TypeDesc.bool)) (a4:∀ w,(isAgg 4).run P w = .ok false w) (z4:∀ w,(Go.sizeOf 4).run P w = .ok 1 w) (v4:∀ w,(zeroValue 4).run P w = .ok (Value.bool false) w)
  (t22:P.underlying 22=some (TypeDesc.slice 24)) (a22:∀ w,(isAgg 22).run P w = .ok false w) (z22:∀ w,(Go.sizeOf 22).run P w = .ok 1 w) (v22:∀ w,(zeroValue 22).run P w = .ok (Value.slice none 0 0) w)
  (t36:P.underlying 36=some (TypeDesc.func #[24,24] #[4] false)) (a36:∀ w,(isAgg 36).run P w = .ok false w) (z36:∀ w,(Go.sizeOf 36).run P w = .ok 1 w) (v36:∀ w,(zeroValue 36).run P w = .ok (Value.nilFunc) w)
  (k:Nat) (hk0:0<k) (aE:∀ w,(isAgg 24).run P w = .ok true w) (zE:∀ w,(Go.sizeOf 24).run P w = .ok k w) (zv:Value) (vE:∀ w,(zeroValue 24).run P w = .ok zv w) (hzk:zv.cells.size=k) (hz1:∀ n,∀ v∈(Builtin.zeroCells zv.cells n).toList,v.oneCell'=true)
  (w:World) (blk n cap:Nat) (et:TypeId) (vs:Array Value) (q:Nat) (hbk:w.heap[blk]? = some (.cells vs et (0,0))) (hcs:cap*k≤vs.size) (hnc:n≤cap) (hn:n≤100000) (h0n:0<n)
  (enc:Nat→List Value) (hk:∀ x,(enc x).length=k) (h1:∀ x,∀ v∈enc x,v.oneCell'=true) (hH:HoldsK enc k w blk 0 (Array.range n))
  (eg:∀ args w,(callFunc q args).run P w = .ok (.enter q args) w) (ef:Nat→Nat→Bool)
  (heq:∀ (m:Nat) (os:Array Obj) (dk:Array Nat),dk.size=n→∀ x y,Calls P q #[.agg (enc x).toArray,.agg (enc y).toArray] (sortWorldK enc k w blk 0 m dk os) λ e w'=>e = .returned (.bool (ef x y))∧∃ q' os',w'=grow ((sortWorldK enc k w blk 0 m dk os).drewN q') os') :
  Calls P 155 #[.slice (some ⟨blk,0,none⟩) n cap,.func (.func q) #[] #[]] w λ e w'=>e = .returned (.slice (some ⟨blk,0,none⟩) (zp ef n).length cap) ∧
   ∃ (dk:Array Nat) (m:Nat) (os:Array Obj) (new:List Value),dk.size=n∧dk.toList.take (zp ef n).length=zp ef n∧(w'=sortWorldK enc k w blk 0 m dk os∨(new.take ((zp ef n).length*k)=(putCells id 0 (flatK enc k dk) vs).toList.take ((zp ef n).length*k)∧new.length=vs.size∧w'=(sortWorldK enc k w blk 0 m dk os).setRow blk new.toArray)):=by
 have u22:=run_underlying t22
 have hblk:blk<w.heap.size:=(Array.getElem?_eq_some_iff.1 hbk).1
 have hrs:(Array.range n).size=n:=Array.size_range
 have HC:Aside _:=heq
 have HST:Hid (w=sortWorldK enc k w blk 0 0 (Array.range n) #[]):=by show w=_;unfold sortWorldK;rw [grow_empty];exact (putRowK_self enc k w blk 0 _ hH).symm
 have HH:Hid (HoldsK enc k w blk 0 (Array.range n)):=hH
 have HK:Hid (∀ x,(enc x).length=k):=hk
 have H1:Hid (∀ x,∀ v∈enc x,v.oneCell'=true):=h1
 have HBK:Hid (w.heap[blk]? = some (.cells vs et (0,0))):=hbk
 have HVE:Aside _:=vE
 have HZ1:Aside _:=hz1
 have HZK:=Lib.hid hzk
 have HCS:=Lib.hid hcs
 clear heq hH hk h1 hbk vE hz1 hzk hcs
 have hnz:(n:Int)≤100000:=by omega
 by_cases hn2:n<2
 ·have hn1:n=1:=by omega
  subst hn1
  have hci:zp ef 1=[0]:=by unfold zp;simp
  have HCI:=Lib.hid hci
  clear hci
  go_enter hF,Tryz.ntmps155
  go_wp2
  go_ret
  rw [HCI.out]
  exact ⟨rfl,Array.range 1,0,#[],[],hrs,by simp,.inl HST.out⟩
 ·have hn2z:¬ ((n:Int)<2):=by omega
  go_enter hF,Tryz.ntmps155
  go_wp2
  go_loopg [5] n (λ g1 vi wr=>∃ (i m:Nat) (os:Array Obj),vi = .int .i64 i∧1≤i∧i≤n∧n-i≤g1∧wr=sortWorldK enc k w blk 0 m (Array.range n) os∧Hid (∀ j,1≤j→j<i→ef j (j-1)=false))
  case atStart=>exact ⟨1,0,#[],rfl,Nat.le_refl _,by omega,by omega,HST.out,λ j h1 h2=>by omega⟩
  case round =>
   obtain ⟨i,m,os,rfl,hi1,hin,hg1,rfl,HE⟩:=hrel
   by_cases hlt:i<n
   ·have hltz:(i:Int)<(n:Int):=by omega
    obtain ⟨ip,rfl⟩:∃ ip,i=ip+1:=⟨i-1,by omega⟩
    have hwp:IntKind.i64.wrap (ip:Int)=(ip:Int):=by rw [IntKind.wrap_i64];omega
    have jz1:(ip:Int)<(n:Int):=by omega
    have p0:(0:Int)≤(ip:Int)+1:=by omega
    have e0:((ip:Int)+1).toNat=ip+1:=by omega
    have r1:(Array.range n)[ip+1]! = ip+1:=by rw [getElem!_pos _ _ (by rw [hrs];exact hlt)];simp
    have r0:(Array.range n)[ip]! = ip:=by rw [getElem!_pos _ _ (by rw [hrs];omega)];simp
    have hcls:∀ n' os',grow ((sortWorldK enc k w blk 0 m (Array.range n) os).drewN n') os'=sortWorldK enc k w blk 0 (m+n') (Array.range n) (os++os') := λ n' os'=>sortWorldK_grown_c enc k w blk 0 m n' _ os os'
    have hHc:∀ n' os',HoldsK enc k (grow ((sortWorldK enc k w blk 0 m (Array.range n) os).drewN n') os') blk 0 (Array.range n) := λ n' os'=>by rw [hcls];exact holdsK_sortWorldK_c enc k w blk 0 _ _ _ _ HH.out hblk rfl
    have lj:∀ n' os',Sem.run P (loadCellsFrom ⟨blk,(ip+1)*k,none⟩ 0 k #[]) (grow ((sortWorldK enc k w blk 0 m (Array.range n) os).drewN n') os') = .ok (enc (ip+1)).toArray (grow ((sortWorldK enc k w blk 0 m (Array.range n) os).drewN n') os') := λ n' os'=>by
     have:=HoldsK.cells (hHc n' os') HK.out (i:=ip+1) (by rw [hrs];exact hlt)
     rw [r1,Nat.zero_add] at this
     exact run_loadCellsFrom_list P _ _ _ k (HK.out _) this
    have lp:∀ n' os',Sem.run P (loadCellsFrom ⟨blk,ip*k,none⟩ 0 k #[]) (grow ((sortWorldK enc k w blk 0 m (Array.range n) os).drewN n') os') = .ok (enc ip).toArray (grow ((sortWorldK enc k w blk 0 m (Array.range n) os).drewN n') os') := λ n' os'=>by
     have:=HoldsK.cells (hHc n' os') HK.out (i:=ip) (by rw [hrs];omega)
     rw [r0,Nat.zero_add] at this
     exact run_loadCellsFrom_list P _ _ _ k (HK.out _) this
    have hcg:∀ n' os',Calls P q #[.agg (enc (ip+1)).toArray,.agg (enc ip).toArray] (grow ((sortWorldK enc k w blk 0 m (Array.range n) os).drewN n') os') λ e w'=>e = .returned (.bool (ef (ip+1) ip))∧∃ q os'',w'=grow ((grow ((sortWorldK enc k w blk 0 m (Array.range n) os).drewN n') os').drewN q) os'' := λ n' os'=>by
     rw [hcls];exact HC.out _ _ _ hrs (ip+1) ip
    have CLS:Hid _:=hcls
    clear hcls hHc r0 r1
    generalize hwq:sortWorldK enc k w blk 0 m (Array.range n) os=wq at lj lp hcg CLS ⊢
    cases hev:ef (ip+1) ip with
    | false =>
      rw [hev] at hcg
      go_wp2_with fail
      go_quiet_grown (first | (go_at_fn q;refine Calls.grown_of (hcg _ _)))
      go_wp2
      go_roundg (n-(ip+2))
      case measure=>omega
      case rel =>
       refine ⟨ip+2,_,_,by go_num,by omega,by omega,by omega,CLS.out nq osq,(show Hid _ from λ j h1 h2=>?_)⟩
       by_cases hj:j=ip+1
       ·rw [hj];exact hev
       ·exact HE.out j h1 (by omega)
    | true =>
      rw [hev] at hcg
      go_wp2_with fail
      go_quiet_grown (first | (go_at_fn q;refine Calls.grown_of (hcg _ _)))
      have hcap1:¬ (cap=ip+1):=by omega
      have hcap2:(ip:Int)+1≤(cap:Int):=by omega
      go_wp2
      go_loopg [5,7] n (λ g2 v5 v7 wr2=>∃ (b kk m2:Nat) (dk:Array Nat) (os2:Array Obj),v5 = .int .i64 kk∧v7 = .int .i64 b∧1≤b∧ip+1+b≤n∧n-b≤g2∧kk≤ip+b∧dk.size=n∧wr2=sortWorldK enc k w blk 0 m2 dk os2∧Hid (dk.toList.take kk=zp ef (ip+1+b))∧Hid (kk=(zp ef (ip+1+b)).length)∧Hid (∀ j,ip+b≤j→j<n→dk[j]! = j))
      case atStart =>
       have e1:zp ef (ip+1)=List.range (ip+1):=qsL λ j h1 h2=>HE.out j h1 h2
       have e2:zp ef (ip+1+1)=List.range (ip+1):=by rw [qpo (by omega) (by simpa using hev),e1]
       refine ⟨1,ip+1,_,Array.range n,_,by go_num,rfl,Nat.le_refl _,by omega,by omega,by omega,hrs,CLS.out nq osq,?_,?_,?_⟩
       ·show _=_
        rw [e2,Array.toList_range,List.take_range,Nat.min_eq_left (by omega)]
       ·show _=_
        rw [e2,List.length_range]
       ·intro j _ h2
        rw [getElem!_pos _ _ (by rw [hrs];exact h2)];simp
      case round =>
       obtain ⟨b,kk,m2,dk,os2,rfl,rfl,hb1,hbn,hg2,hkk,hdk,rfl,HT,HL,HD⟩:=hrel
       by_cases hlt2:ip+1+b<n
       ·obtain ⟨bp,rfl⟩:∃ bp,b=bp+1:=⟨b-1,by omega⟩
        have hltz2:(bp:Int)+1<((n-(ip+1):Nat):Int):=by omega
        have hltz3:(bp:Int)<((n-(ip+1):Nat):Int):=by omega
        have hwp2:IntKind.i64.wrap (bp:Int)=(bp:Int):=by rw [IntKind.wrap_i64];omega
        have p2:(0:Int)≤(bp:Int)+1:=by omega
        have e2:((bp:Int)+1).toNat=bp+1:=by omega
        have hkn:(kk:Int)<(n:Int):=by omega
        obtain ⟨ax,hax⟩:∃ ax,ax=ip+1+(bp+1):=⟨_,rfl⟩
        have hac:(ip+1)*k+(bp+1)*k=ax*k:=by rw [hax,Nat.add_mul (ip+1)]
        have hap:(ip+1)*k+bp*k=(ax-1)*k:=by rw [← Nat.add_mul];congr 1;omega
        have r1:dk[ax]! = ax:=HD.out ax (by omega) (by omega)
        have r0:dk[ax-1]! = ax-1:=HD.out (ax-1) (by omega) (by omega)
        have hcls:∀ n' os',grow ((sortWorldK enc k w blk 0 m2 dk os2).drewN n') os'=sortWorldK enc k w blk 0 (m2+n') dk (os2++os') := λ n' os'=>sortWorldK_grown_c enc k w blk 0 m2 n' dk os2 os'
        have hHc:∀ n' os',HoldsK enc k (grow ((sortWorldK enc k w blk 0 m2 dk os2).drewN n') os') blk 0 dk := λ n' os'=>by rw [hcls];exact holdsK_sortWorldK_c enc k w blk 0 (Array.range n) dk _ _ HH.out hblk (by rw [hdk,hrs])
        have lj:∀ n' os',Sem.run P (loadCellsFrom ⟨blk,(ip+1)*k+(bp+1)*k,none⟩ 0 k #[]) (grow ((sortWorldK enc k w blk 0 m2 dk os2).drewN n') os') = .ok (enc ax).toArray (grow ((sortWorldK enc k w blk 0 m2 dk os2).drewN n') os') := λ n' os'=>by
         have:=HoldsK.cells (hHc n' os') HK.out (i:=ax) (by rw [hdk];omega)
         rw [r1,Nat.zero_add,← hac] at this
         exact run_loadCellsFrom_list P _ _ _ k (HK.out _) this
        have lp:∀ n' os',Sem.run P (loadCellsFrom ⟨blk,(ip+1)*k+bp*k,none⟩ 0 k #[]) (grow ((sortWorldK enc k w blk 0 m2 dk os2).drewN n') os') = .ok (enc (ax-1)).toArray (grow ((sortWorldK enc k w blk 0 m2 dk os2).drewN n') os') := λ n' os'=>by
         have:=HoldsK.cells (hHc n' os') HK.out (i:=ax-1) (by rw [hdk];omega)
         rw [r0,Nat.zero_add,← hap] at this
         exact run_loadCellsFrom_list P _ _ _ k (HK.out _) this
        have hcg:∀ n' os',Calls P q #[.agg (enc ax).toArray,.agg (enc (ax-1)).toArray] (grow ((sortWorldK enc k w blk 0 m2 dk os2).drewN n') os') λ e w'=>e = .returned (.bool (ef ax (ax-1)))∧∃ q os'',w'=grow ((grow ((sortWorldK enc k w blk 0 m2 dk os2).drewN n') os').drewN q) os'' := λ n' os'=>by
         rw [hcls];exact HC.out _ _ _ hdk ax (ax-1)
        have CLS2:Hid _:=hcls
        have HHC:Hid _:=hHc
        have HAC:=Lib.hid hac
        clear hcls hHc hap hac
        generalize hwq2:sortWorldK enc k w blk 0 m2 dk os2=wq2 at lj lp hcg CLS2 HHC ⊢
        have hlA:(enc ax).length=k:=HK.out _
        have hA1:∀ v∈enc ax,v.oneCell'=true:=H1.out _
        obtain ⟨cA,hcA⟩:∃ c,c=enc ax:=⟨_,rfl⟩
        obtain ⟨cP,hcP⟩:∃ c,c=enc (ax-1):=⟨_,rfl⟩
        rw [← hcA] at lj hcg hlA hA1
        rw [← hcP] at lp hcg
        have HCA:=Lib.hid hcA
        clear hcA hcP
        have hT:=HT.out
        have hL:=HL.out
        rw [show ip+1+(bp+1)=ax from hax.symm] at hT hL
        have HAX:=Lib.hid hax
        have hax1:0<ax:=by omega
        have hax3:ax<n:=by omega
        clear hax r0 r1
        cases hev2:ef ax (ax-1) with
        | true =>
          have hcd:zp ef (ax+1)=zp ef ax:=qpo hax1 hev2
          have HT2:Hid (dk.toList.take kk=zp ef (ax+1)):=by show _=_;rw [hcd];exact hT
          have HL2:Hid (kk=(zp ef (ax+1)).length):=by show _=_;rw [hcd];exact hL
          clear hT hL hcd
          rw [hev2] at hcg
          go_wp2_with fail
          go_quiet_grown (first | (go_at_fn q;refine Calls.grown_of (hcg _ _)))
          go_wp2
          go_roundg (n-(bp+2))
          case measure=>omega
          case rel =>
           have hax2:ip+1+(bp+2)=ax+1:=by have:=HAX.out;omega
           refine ⟨bp+2,kk,_,dk,_,rfl,by go_num,by omega,by omega,by omega,by omega,hdk,CLS2.out nq osq,?_,?_,(show Hid _ from λ j h1 h2=>HD.out j (by omega) h2)⟩
           ·show _=_
            rw [hax2];exact HT2.out
           ·show _=_
            rw [hax2];exact HL2.out
        | false =>
          have hcd:zp ef (ax+1)=zp ef ax++[ax]:=qzd hev2
          have hdl:kk<dk.toList.length:=by rw [Array.length_toList,hdk];omega
          have HT2:Hid ((dk.setIfInBounds kk ax).toList.take (kk+1)=zp ef (ax+1)):=by
           show _=_
           rw [hcd,← hT,Array.toList_setIfInBounds,List.take_add_one,List.take_set_of_le (Nat.le_refl _),List.getElem?_set_self hdl];rfl
          have HL2:Hid (kk+1=(zp ef (ax+1)).length):=by show _=_;rw [hcd,List.length_append,← hL];rfl
          clear hT hL hcd
          rw [hev2] at hcg
          go_wp2_with fail
          go_quiet_grown (first | (go_at_fn q;refine Calls.grown_of (hcg _ _)))
          have hw2:grow (wq2.drewN nq) osq=sortWorldK enc k w blk 0 (m2+nq) dk (os2++osq):=CLS2.out nq osq
          have lj2:=lj nq osq
          have hHd:=HHC.out nq osq
          clear lj lp hcg
          generalize grow (wq2.drewN nq) osq=wq3 at hw2 hHd lj2 ⊢
          have hbd:kk*k+cA.length≤(flatK enc k dk).size:=by
           rw [hlA,size_flatK]
           have:=Nat.mul_le_mul_right k (show kk+1≤dk.size by omega)
           rwa [Nat.succ_mul] at this
          have s1:Sem.run P (storeCells ⟨blk,kk*k,none⟩ cA 0) wq3 = .ok () (wq3.setCells blk (kk*k) cA):=by
           have:=stores_of_holds P hHd (kk*k) cA hbd hA1
           rwa [Nat.zero_add] at this
          have HW3:Hid (wq3.setCells blk (kk*k) cA=sortWorldK enc k w blk 0 (m2+nq) (dk.setIfInBounds kk ax) (os2++osq)):=by
           show _=_
           rw [hw2,HCA.out]
           exact qFy HK.out (m2+nq) dk (os2++osq) hblk kk ax (by omega)
          clear hw2 hHd hbd
          go_wp2
          go_roundg (n-(bp+2))
          case measure=>omega
          case rel =>
           have hax2:ip+1+(bp+2)=ax+1:=by have:=HAX.out;omega
           refine ⟨bp+2,kk+1,_,dk.setIfInBounds kk ax,_,by go_num,by go_num,by omega,by omega,by omega,by omega,by simpa using hdk,HW3.out,?_,?_,(show Hid _ from λ j h1 h2=>?_)⟩
           ·show _=_
            rw [hax2];exact HT2.out
           ·show _=_
            rw [hax2];exact HL2.out
           ·rw [getElem!_set_other _ _ _ _ (by omega)]
            exact HD.out j (by omega) h2
       ·obtain rfl:n=ip+1+b:=by omega
        have hW:=(Go.AmYtbpnmbmdbblehaaGreat.sort_blks HBK.out enc k m2 dk os2).hb
        have hpsz:(putCells id 0 (flatK enc k dk) vs).size=vs.size:=by unfold putCells;rw [Array.size_mapIdx]
        have hzl:(Builtin.zeroCells zv.cells (ip+1+b-kk)).toList.length=(ip+1+b-kk)*k:=by rw [Array.length_toList,size_zeroCells,HZK.out]
        have hsum:kk*k+(ip+1+b-kk)*k=(ip+1+b)*k:=by rw [← Nat.add_mul];congr 1;omega
        have hle:(ip+1+b)*k≤vs.size:=Nat.le_trans (Nat.mul_le_mul_right _ hnc) HCS.out
        obtain ⟨new,hnew⟩:∃ new,new=(putCells id 0 (flatK enc k dk) vs).toList.take (kk*k)++(Builtin.zeroCells zv.cells (ip+1+b-kk)).toList++(putCells id 0 (flatK enc k dk) vs).toList.drop (kk*k+(Builtin.zeroCells zv.cells (ip+1+b-kk)).toList.length):=⟨_,rfl⟩
        have hcl:∀ ty,(Builtin.clear_ #[22] ty #[.slice (some ⟨blk,kk*k,none⟩) (ip+1+b-kk) (cap-kk)]).run P (sortWorldK enc k w blk 0 m2 dk os2) = .ok (.tuple #[]) ((sortWorldK enc k w blk 0 m2 dk os2).setRow blk new.toArray) := λ ty=>by
         rw [hnew]
         exact ql5 _ 22 24 ty zv t22 HVE.out blk (kk*k) (ip+1+b-kk) (cap-kk) (by omega) _ et hW (by rw [hpsz,HZK.out];omega) (HZ1.out _)
        have HN1:Hid (new.take (kk*k)=(putCells id 0 (flatK enc k dk) vs).toList.take (kk*k)):=by
         show _=_
         rw [hnew,List.append_assoc,List.take_append_of_le_length (by rw [List.length_take,Array.length_toList,hpsz];omega),List.take_take,Nat.min_self]
        have HN2:Hid (new.length=vs.size):=by
         show _=_
         rw [hnew]
         rw [Array.length_toList] at hzl
         simp only [List.length_append,List.length_take,List.length_drop,Array.length_toList,hpsz,hzl]
         omega
        have hkc:¬ (cap=kk):=by omega
        have hkc2:(kk:Int)≤(cap:Int):=by omega
        have hkn:(kk:Int)≤((ip+1+b:Nat):Int):=by omega
        clear hW hpsz hzl hsum hle hnew
        have HW:Hid _:=(⟨dk,m2,os2,rfl⟩:∃ (d:Array Nat) (m:Nat) (os:Array Obj),sortWorldK enc k w blk 0 m2 dk os2=sortWorldK enc k w blk 0 m d os)
        generalize hwq2:sortWorldK enc k w blk 0 m2 dk os2=wq2 at hcl ⊢
        have HWQ:=Lib.hid hwq2
        clear hwq2 HW
        have HDK:=Lib.hid hdk
        go_wp2_with (simp only [hcl])
        go_ret
        have hL:=HL.out
        rw [← hL]
        exact ⟨rfl,dk,m2,os2,new,HDK.out,HT.out,.inr ⟨HN1.out,HN2.out,by rw [HWQ.out]⟩⟩
   ·obtain rfl:i=n:=by omega
    have hci:zp ef i=List.range i:=qsL λ j h1 h2=>HE.out j h1 h2
    have HCI:=Lib.hid hci
    clear hci
    go_wp2
    go_ret
    rw [HCI.out,List.length_range]
    exact ⟨rfl,Array.range i,_,_,[],hrs,by simp,.inl rfl⟩
end Go.Proofs.YtbpnmbmdbblehaaGreat
namespace Go.AmYtbpnmbmdbblehaaGreat
open Go Go.RowKit Go.GxYtbpnmbmdbblehaaGreat Go.Sort Go.Proofs Go.Shelf Go.Proofs.YtbpnmbmdbblehaaGreat
def qiT {α : Type} (F : α → α → Option Bool) (l:List α) (i j:Nat):Bool:=match l[i % l.length]?,l[j % l.length]? with
 | some x,some y=>(F x y).getD false
 | _,_=>false
def qwx {α : Type} (F : α → α → Option Bool):List α → Option (List α)
 | []=>some []
 | x::l=>cond (Nat.ble (x::l).length 100000&&qbo F (x::l)) (some (pick (x::l) (zp (qiT F (x::l)) (x::l).length))) none
def qrQ {α : Type} (F : α → α → Option Bool) (l:List α):Option (Unit × List α × Unit):=match qwx F l with
 | some l'=>some ((),l',())
 | none=>none
theorem qBH {α : Type} {F : α → α → Option Bool} {l:List α} {r:Unit × List α × Unit} (h:qrQ F l=some r):∃ l',qwx F l=some l'∧r=((),l',()):=by
 unfold qrQ at h
 split at h
 ·cases h;exact ⟨_,‹_›,rfl⟩
 ·cases h
theorem qDa {P:Program} {f:FuncId} {g:qnw} (hf:qeE P f) (h:∀ a,g.fn a=none):qX P f (mgP g):=by
 refine ⟨hf,λ Γ σ w args vals r hi hr hp=>?_⟩
 unfold mgP at hp
 split at hp
 ·rw [h] at hp;cases hp
 ·cases hp
theorem qus {ef:Nat→Nat→Bool} {n:Nat}:∀ i∈zp ef n,i<n := λ i hi=>List.mem_range.1 (List.mem_filter.1 hi).1
theorem qnN {enc:Nat→List Value} {k:Nat} (hk:∀ x,(enc x).length=k):∀ (l:List Nat) (i j:Nat),j<k→(l.flatMap enc)[i*k+j]? = (l[i]?).bind λ x=>(enc x)[j]?
 | [],i,j,_=>by simp
 | x::l,0,j,hj=>by
   rw [List.flatMap_cons,Nat.zero_mul,Nat.zero_add,List.getElem?_append_left (by rw [hk];exact hj)]
   rfl
 | x::l,i+1,j,hj=>by
   rw [List.flatMap_cons,List.getElem?_append_right (by rw [hk,Nat.succ_mul];omega),hk]
   have:(i+1)*k+j-k=i*k+j:=by rw [Nat.succ_mul];omega
   rw [this]
   exact qnN hk l i j hj
theorem quS {enc:Nat→List Value} {k:Nat} (hk:∀ x,(enc x).length=k):∀ l:List Nat,(l.flatMap enc).length=l.length*k
 | []=>by simp
 | x::l=>by rw [List.flatMap_cons,List.length_append,hk,quS hk l,List.length_cons,Nat.succ_mul,Nat.add_comm]
theorem qrJ {β : Type} {f:List AV→Option β} {es:List (List AV)} {l:List β} (h:qV f es=some l):∀ {ix:List Nat},(∀ i∈ix,i<l.length)→qV f (pick es ix)=some (pick l ix)
 | [],_=>rfl
 | i::ix,hi=>by
   have h1:=hi i (List.mem_cons_self ..)
   have hl:=qT h
   have e1:pick es (i::ix)=es[i]'(by omega)::pick es ix:=by
    unfold pick;rw [List.filterMap_cons,List.getElem?_eq_getElem (by omega)]
   have e2:pick l (i::ix)=l[i]::pick l ix:=by
    unfold pick;rw [List.filterMap_cons,List.getElem?_eq_getElem h1]
   obtain ⟨v,hv,hd⟩:=Q6 h (List.getElem?_eq_getElem (show i<es.length by omega))
   rw [List.getElem?_eq_getElem h1] at hv
   cases hv
   rw [e1,e2]
   exact yA.2 ⟨_,_,hd,qrJ h λ j hj=>hi j (List.mem_cons_of_mem _ hj),rfl⟩
theorem qFd (n:Nat):∀ v∈(Builtin.zeroCells (Value.cells (.agg #[.int .i64 0,.string ⟨#[]⟩,.int .i64 0,.slice none 0 0])) n).toList,v.oneCell'=true:=by
 intro v hv
 unfold Builtin.zeroCells at hv
 rw [Array.mem_toList_iff] at hv
 obtain ⟨i,_,rfl⟩:=Array.mem_map.1 hv
 have hs:(Value.cells (.agg #[.int .i64 0,.string ⟨#[]⟩,.int .i64 0,.slice none 0 0])).size=4:=rfl
 rw [hs]
 have h4:i % 4<4:=Nat.mod_lt _ (by decide)
 generalize i % 4=r at h4
 match r,h4 with
 | 0,_=>rfl
 | 1,_=>rfl
 | 2,_=>rfl
 | 3,_=>rfl
set_option maxHeartbeats 1000000 in
theorem qyL {g:FuncId} {F:T→T→Option Bool} (hF:Fn2 Go.Proofs.Tryz.prog g .term (λ b:Bool => .bool b) F) {fn:List T→Option (Unit × List T × Unit)} (hfn:∀ l r,fn l=some r→∃ l',qwx F l=some l'∧r=((),l',())) :
  qX Go.Proofs.Tryz.prog 155 (sgP ⟨[.row .term,.clo g 0],[.one (.row .term)],λ x=>fn x.1⟩):=by
 have c0 := λ p cap fv w=>qCO (P:=Go.Proofs.Tryz.prog) Go.Proofs.Tryz.func155 (by kernel_rfl) Go.Proofs.Tryz.underlying0 Go.Proofs.Tryz.isAgg0 Go.Proofs.Tryz.sizeOf0 Go.Proofs.Tryz.zeroValue0 Go.Proofs.Tryz.underlying3 Go.Proofs.Tryz.isAgg3 Go.Proofs.Tryz.sizeOf3 Go.Proofs.Tryz.zeroValue3 Go.Proofs.Tryz.underlying4 Go.Proofs.Tryz.isAgg4 Go.Proofs.Tryz.sizeOf4 Go.Proofs.Tryz.zeroValue4 Go.Proofs.Tryz.underlying22 Go.Proofs.Tryz.isAgg22 Go.Proofs.Tryz.sizeOf22 Go.Proofs.Tryz.zeroValue22 Go.Proofs.Tryz.underlying36 Go.Proofs.Tryz.isAgg36 Go.Proofs.Tryz.sizeOf36 Go.Proofs.Tryz.zeroValue36 p cap fv w
 have cP := λ w blk n cap et vs h1 h2 h3 h4 h5 enc h6 h7 h8 ef h9=>qDo (P:=Go.Proofs.Tryz.prog) Go.Proofs.Tryz.func155 (by kernel_rfl) Go.Proofs.Tryz.underlying0 Go.Proofs.Tryz.isAgg0 Go.Proofs.Tryz.sizeOf0 Go.Proofs.Tryz.zeroValue0 Go.Proofs.Tryz.underlying3 Go.Proofs.Tryz.isAgg3 Go.Proofs.Tryz.sizeOf3 Go.Proofs.Tryz.zeroValue3 Go.Proofs.Tryz.underlying4 Go.Proofs.Tryz.isAgg4 Go.Proofs.Tryz.sizeOf4 Go.Proofs.Tryz.zeroValue4 Go.Proofs.Tryz.underlying22 Go.Proofs.Tryz.isAgg22 Go.Proofs.Tryz.sizeOf22 Go.Proofs.Tryz.zeroValue22 Go.Proofs.Tryz.underlying36 Go.Proofs.Tryz.isAgg36 Go.Proofs.Tryz.sizeOf36 Go.Proofs.Tryz.zeroValue36
  4 (by decide) Go.Proofs.Tryz.isAgg24 Go.Proofs.Tryz.sizeOf24 _ Go.Proofs.Tryz.zeroValue24 rfl qFd w blk n cap et vs g h1 h2 h3 h4 h5 enc h6 h7 h8 (λ args w=>qdI hF.1 args w) ef h9
 have hag:∀ v:T,yG .term v = .agg (qm .term v) := λ _=>rfl
 refine ⟨QO Go.Proofs.Tryz.func155 (by kernel_rfl),λ Γ σ w args vals r hi hr hp=>?_⟩
 unfold sgP at hp
 split at hp<;>try cases hp
 rename_i x hx
 split at hp<;>cases hp
 rename_i v0 hv0
 obtain ⟨l,_⟩:=x
 obtain ⟨l',hl',rfl⟩:=hfn _ _ hv0
 obtain ⟨y0,ys0,nr,rfl,hy0,hx1⟩:=qnr hx
 obtain ⟨ys1,rfl,hx2⟩:=qAz (g:=g) (r:=[]) hx1
 obtain ⟨rfl,hbx,hrw⟩:=qiw hx2
 clear hx hx1 hx2 hv0 hfn
 obtain ⟨u0,r0,rfl,hu0,hr⟩:=hr.uncons
 obtain ⟨u1,r1,rfl,hu1,hr⟩:=hr.uncons
 have:=hr.nil_inv
 subst this
 have hu1:u1 = .func (.func g) #[] #[]:=by
  cases hu1 with
  | fn _ _ us hn _=>obtain rfl:=List.eq_nil_of_length_eq_zero hn;rfl
 subst hu1
 have hb0 : σ.bx=[]:=List.eq_nil_of_length_eq_zero hbx.symm
 have nil0:∀ (p:Option Addr),l'=[]→jz Go.Proofs.Tryz.prog Γ σ w 155 [.slice p 0 0,.func (.func g) #[] #[]] (zA (QQ [.one (.row .term)] σ.rw.length (l',())),some ⟨[],σ.rw.map jV++Qw [.one (.row .term)] (l',()),List.range σ.bx.length,List.range σ.rw.length⟩) := λ p hl=>by
  subst hl
  refine (c0 p 0 _ w).mono ?_
  rintro e w' ⟨rfl,rfl⟩
  obtain ⟨Γ2,z1,z2,z3,z4⟩:=qGe (a := .term) hi (.refl _ _) hi hb0 p
  exact ⟨_,Γ2,rfl,z1,z2,z3,z4⟩
 rcases qcZ hy0 with ⟨hnr,R,rfl,hR,hRk,hRf,hRd⟩ | ⟨hnr,hl0,hy⟩
 ·have H:=hi.row 0 R hR
  have hcl:R.c.length=l.length:=qT hRd
  have hlk:∀ e∈R.c,e.length=Ty.size .term := λ e he=>(H.len e he).trans hRk
  obtain ⟨p,cap,rfl,hcap,hrm⟩:=qoo hi hR hRk hRf hu0
  rcases hrm with h0 | ⟨rfl,hz,vs,et,hvs,hvsz,hfit,hca,hxl,h1⟩
  ·have hl0:l=[]:=List.eq_nil_of_length_eq_zero (by omega)
   have hl2:l'=[]:=by rw [hl0] at hl';cases hl';rfl
   have hrc:R.c.length=0:=by omega
   rw [hrc,h0]
   exact nil0 p hl2
  ·by_cases hl0:l=[]
   ·have hl2:l'=[]:=by rw [hl0] at hl';cases hl';rfl
    have hrc:R.c.length=0:=by rw [hcl,hl0];rfl
    rw [hrc]
    subst hl2
    refine qhY (a := .term) hi hb0 hR hRk hRf hz (l:=[]) (c:=[]) (xs:=[]) (n:=0) rfl rfl (by intro e he;cases he) (by intro e he;cases he) (λ i e j x h=>by cases h) ?_
    refine (c0 _ cap _ w).mono ?_
    rintro e w' ⟨rfl,rfl⟩
    exact ⟨Γ.cur 0,cap,vs,et,rfl,hvs,Nat.zero_le _,hfit,by rw [Nat.zero_mul];rfl,.inl ⟨rfl,hvsz⟩,rfl,rfl,rfl,Nat.le_refl _,Nat.le_refl _,λ _ _ _=>rfl⟩
   ·have hlpos:0<l.length:=List.length_pos_iff.2 hl0
    obtain ⟨n,hn⟩:∃ n,n=l.length:=⟨_,rfl⟩
    have hnc:R.c.length=n:=hcl.trans hn.symm
    rw [hnc] at hca hxl h1 hcap ⊢
    have hns:n*Ty.size .term≤vs.size:=Nat.le_trans (Nat.mul_le_mul_right _ hcap) hfit
    have hv':Nat.ble l.length 100000=true∧qbo F l=true∧l'=pick l (zp (qiT F l) l.length):=by
     cases l with
     | nil=>exact absurd rfl hl0
     | cons y l =>
       replace hl':cond _ _ _=some l':=hl'
       cases hb:(Nat.ble (y::l).length 100000&&qbo F (y::l)) with
       | false =>
         replace hl':cond (Nat.ble (y::l).length 100000&&qbo F (y::l)) _ _=some l':=hl'
         rw [hb] at hl';cases hl'
       | true =>
         replace hl':cond (Nat.ble (y::l).length 100000&&qbo F (y::l)) _ _=some l':=hl'
         have hb':=hb
         rw [Bool.and_eq_true] at hb'
         rw [hb] at hl'
         cases hl'
         exact ⟨hb'.1,hb'.2,rfl⟩
    obtain ⟨v1,v2,v4⟩:=hv'
    have v1:l.length≤100000:=Nat.le_of_ble_eq_true v1
    have hER:∀ {q:Nat} {y:T},l[q]? = some y→RepL Γ (qm .term y) (jZ vs (Ty.size .term) q)∧∀ u∈jZ vs (Ty.size .term) q,u.oneCell'=true := λ hq=>qpD hnc hlk hRd hca hns hq
    have hlast:∀ i,i % n<n := λ i=>Nat.mod_lt _ (by omega)
    obtain ⟨enc,henc⟩:∃ enc:Nat→List Value,enc = λ i=>jZ vs (Ty.size .term) (i % n):=⟨_,rfl⟩
    have hek:∀ i,(enc i).length=Ty.size .term := λ i=>by rw [henc];exact qlY (hlast i) hns
    have hlget:∀ i,∃ y,l[i % n]? = some y := λ i=>⟨_,List.getElem?_eq_getElem (by rw [← hn];exact hlast i)⟩
    have he1:∀ i,∀ u∈enc i,u.oneCell'=true := λ i u hu=>by
     rw [henc] at hu
     obtain ⟨y,hy⟩:=hlget i
     exact (hER hy).2 u hu
    have hrange:(Array.range n).size=n:=Array.size_range
    have hvsb:w.heap[Γ.cur 0]? = some (.cells vs et (0,0)):=hvs
    have hmem0:∀ off,Γ.mem (Γ.cur 0) off=none := λ off=>H.un hz off (by rw [hRf,Nat.zero_mul];exact Nat.zero_le _)
    have hH:HoldsK enc (Ty.size .term) w (Γ.cur 0) 0 (Array.range n):=by
     intro j hj
     rw [size_flatK,hrange] at hj
     obtain ⟨q1,q2,q3⟩:=qhU j (Ty.size .term) n hj
     have hjs:j<vs.size:=Nat.lt_of_lt_of_le hj hns
     constructor
     ·rw [get_flatK _ _ _ _ (by rw [hrange];exact hj)]
      have e1:(Array.range n)[j / (Ty.size .term)]! = j / (Ty.size .term):=by rw [getElem!_pos _ _ (by rw [hrange];exact q1)];simp
      rw [e1,henc]
      show _=some ((jZ vs (Ty.size .term) (j / (Ty.size .term) % n))[j % (Ty.size .term)]!)
      rw [Nat.mod_eq_of_lt q1]
      have e2:(jZ vs (Ty.size .term) (j / (Ty.size .term)))[j % (Ty.size .term)]? = some vs[j]:=by rw [qjn q3,q2];exact Array.getElem?_eq_getElem hjs
      rw [Nat.zero_add,Blk.cell hvs,List.getElem!_eq_getElem?_getD,e2,Array.getElem?_eq_getElem hjs]
      rfl
     ·exact Blk.free hvs _
    have heq:∀ (m:Nat) (os:Array Obj) (dk:Array Nat),dk.size=n→∀ x y,Calls Go.Proofs.Tryz.prog g #[.agg (enc x).toArray,.agg (enc y).toArray] (sortWorldK enc (Ty.size .term) w (Γ.cur 0) 0 m dk os) λ e w'=>e = .returned (.bool (qiT F l x y))∧∃ q' os',w'=grow ((sortWorldK enc (Ty.size .term) w (Γ.cur 0) 0 m dk os).drewN q') os':=by
     intro m os dk hdk x y
     have B:=sort_blks hvsb enc (Ty.size .term) m dk os
     obtain ⟨W,hW⟩:∃ W,W=sortWorldK enc (Ty.size .term) w (Γ.cur 0) 0 m dk os:=⟨_,rfl⟩
     rw [← hW] at B ⊢
     have hiW:Inv (bare Γ) emp W:=hi.bare λ b o u e=>by
      have hne:b ≠ Γ.cur 0 := λ hb=>by rw [hb,hmem0] at e;cases e
      have hc:=(hi.mem b o u e).1
      have hblt:=hi.mem_lt e
      rw [show W.cell? _=w.cell? _ from World.cell?_of_block (B.other b hblt hne)]
      exact hc
     have rep:∀ (i:Nat) (y:T),l[i % n]? = some y→Rep (bare Γ) (yG .term y) (.agg (enc i).toArray) := λ i y hy=>by
      obtain ⟨q1,q2⟩:=hER hy
      rw [hag]
      have:enc i=jZ vs (Ty.size .term) (i % n):=by rw [henc]
      rw [this]
      refine .agg _ _ q1.len q2 λ j z u a b=>(q1.rep j z u a b).bare (zR .term y z (List.mem_of_getElem? a))
     obtain ⟨lx,hx⟩:=hlget x
     obtain ⟨ly,hy⟩:=hlget y
     have hsome:=List.all_eq_true.1 (List.all_eq_true.1 v2 lx (List.mem_of_getElem? hx)) ly (List.mem_of_getElem? hy)
     obtain ⟨c,hc⟩:=Option.isSome_iff_exists.1 hsome
     have hcf:qiT F l x y=c:=by
      unfold qiT
      rw [← hn,hx,hy]
      simp only
      rw [hc];rfl
     rw [hcf]
     have hcall:=hF.2 hiW (rep x lx hx) (rep y ly hy) hc
     refine Calls.mono hcall ?_
     rintro e w' ⟨rfl,hid⟩
     exact ⟨rfl,hid.grow⟩
    have hcall:=cP w (Γ.cur 0) n cap et vs hvsb hfit hcap (by omega) (by omega) enc hek he1 hH (qiT F l) heq
    obtain ⟨ix,hix⟩:∃ ix,ix=zp (qiT F l) n:=⟨_,rfl⟩
    rw [← hix] at hcall
    have hixlt:∀ i∈ix,i<n := λ i hi=>by rw [hix] at hi;exact qus i hi
    have hixl:∀ i∈ix,i<l.length := λ i hi=>by rw [← hn];exact hixlt i hi
    have hixc:∀ i∈ix,i<R.c.length := λ i hi=>by rw [hnc];exact hixlt i hi
    have hl'e:l'=pick l ix:=by rw [v4,← hn,hix]
    have hl'n:l'.length=ix.length:=by rw [hl'e,qmi hixl]
    have pm:∀ e∈pick R.c ix,e∈R.c := λ e he=>by
     unfold pick at he
     obtain ⟨i,_,h⟩:=List.mem_filterMap.1 he
     exact List.mem_of_getElem? h
    refine qhY (a := .term) hi hb0 hR hRk hRf hz (l:=l') (c:=pick R.c ix) (xs:=ix.flatMap enc) (n:=ix.length) hl'n.symm (by rw [hl'e];exact qrJ hRd hixl) (λ e he=>hlk e (pm e he)) (λ e he=>H.plain e (pm e he)) (λ i e j x h1 h2=>?_) ?_
    ·rw [qpy hixc] at h1
     cases hp:ix[i]? with
     | none=>rw [hp] at h1;cases h1
     | some p =>
       rw [hp] at h1
       have h1:R.c[p]? = some e:=h1
       have hj:j<Ty.size .term:=by have:=getElem?_lt h2;rwa [hlk e (List.mem_of_getElem? h1)] at this
       obtain ⟨u,u1,u2⟩:=hca p e j x h1 h2
       refine ⟨u,?_,u2⟩
       have hpn:p<n:=hixlt p (List.mem_of_getElem? hp)
       rw [qnN hek _ _ _ hj,hp]
       show (enc p)[j]? = some u
       rw [henc]
       show (jZ vs (Ty.size .term) (p % n))[j]? = some u
       rw [Nat.mod_eq_of_lt hpn,qjn hj,← Array.getElem?_toList]
       rw [List.getElem?_take] at u1
       split at u1
       ·exact u1
       ·cases u1
    ·refine Calls.mono hcall ?_
     rintro e w' ⟨rfl,dk,m,os,new,hdk,htk,hw⟩
     have B:=sort_blks hvsb enc (Ty.size .term) m dk os
     have hpsz:(putCells id 0 (flatK enc (Ty.size .term) dk) vs).size=vs.size:=by unfold putCells;rw [Array.size_mapIdx]
     have hixn:ix.length≤n:=by
      have:=congrArg List.length htk
      rw [List.length_take] at this
      have h2:dk.toList.length=n:=by rw [Array.length_toList,hdk]
      omega
     have hlen:ix.length*Ty.size .term≤n*Ty.size .term:=Nat.mul_le_mul_right _ hixn
     have hxs:(putCells id 0 (flatK enc (Ty.size .term) dk) vs).toList.take (ix.length*Ty.size .term)=ix.flatMap enc:=by
      apply List.ext_getElem?
      intro t
      by_cases ht:t<ix.length*Ty.size .term
      ·obtain ⟨q1,q2,q3⟩:=qhU t (Ty.size .term) ix.length ht
       rw [List.getElem?_take,if_pos ht,Array.getElem?_toList]
       unfold putCells
       rw [Array.getElem?_mapIdx,Array.getElem?_eq_getElem (by omega),Option.map_some,if_pos ⟨Nat.zero_le _,by rw [size_flatK,hdk];omega⟩,Nat.sub_zero,id,get_flatK _ _ _ _ (by rw [hdk];omega)]
       conv=>rhs;rw [← q2]
       rw [qnN hek _ _ _ q3]
       have hd:dk[t / Ty.size .term]? = ix[t / Ty.size .term]? := by
        rw [← htk,List.getElem?_take,if_pos q1,Array.getElem?_toList]
       have hdl:t / Ty.size .term<dk.size:=by rw [hdk];omega
       rw [← hd,Array.getElem?_eq_getElem hdl,getElem!_pos dk _ hdl]
       show _=(enc dk[t / Ty.size .term])[t % Ty.size .term]?
       rw [List.getElem!_eq_getElem?_getD,List.getElem?_eq_getElem (by rw [hek];exact q3)]
       rfl
      ·rw [List.getElem?_eq_none (by rw [List.length_take];omega),List.getElem?_eq_none (by rw [quS hek];omega)]
     rcases hw with rfl | ⟨n1,n2,rfl⟩
     ·exact ⟨Γ.cur 0,cap,_,et,rfl,B.hb,by omega,by rw [hpsz];exact hfit,hxs,.inl ⟨rfl,hpsz.trans hvsz⟩,B.os,B.tape,B.output,B.size,B.drawn,B.other⟩
     ·have hs:=setRow_heap _ (Γ.cur 0) _ new.toArray et (0,0) B.hb
      refine ⟨Γ.cur 0,cap,new.toArray,et,rfl,hs,by omega,by rw [List.size_toArray,n2];exact hfit,?_,.inl ⟨rfl,by rw [List.size_toArray,n2];exact hvsz⟩,B.os,B.tape,B.output,?_,B.drawn,λ b hb hne=>(setRow_other _ (Γ.cur 0) b _ hne).trans (B.other b hb hne)⟩
      ·rw [← hxs];exact n1
      ·show w.heap.size≤_
       simp only [World.setRow,Array.size_modify]
       exact B.size
 ·have hl2:l'=[]:=by
    have hl0:l=[]:=hl0
    rw [hl0] at hl';cases hl';rfl
  rcases hy with rfl | ⟨f,rfl,hf2⟩
  ·have hu0:=zq hu0
   subst hu0
   exact nil0 none hl2
  ·cases hu0 with
   | sl _ _ _ a n cap b o us hn _ hf _ _ _ _ _ _ =>
     have hn:n=0:=hn
     have hcap:cap=n:=hf (by omega)
     rw [hcap,hn]
     exact nil0 a hl2
end Go.AmYtbpnmbmdbblehaaGreat
namespace Go.Proofs.YtbpnmbmdbblehaaGreat
open Go.RowKit Go.GxYtbpnmbmdbblehaaGreat Go.BigFrame
theorem qHj:(Tryz.prog.info? 77).map (λ i=>(i.zero,i.size,i.bytes))=some (some (.agg #[.int .i64 0,.int .i64 0,.string ⟨#[]⟩,.int .i64 0,.slice none 0 0]),5,64):=by kernel_rfl
theorem qGH (w:World):(zeroValue 77).run Tryz.prog w = .ok (.agg #[.int .i64 0,.int .i64 0,.string ⟨#[]⟩,.int .i64 0,.slice none 0 0]) w:=by kernel_rfl
theorem qxy:(Builtin.zeroCells (Value.cells (.agg #[.int .i64 0,.int .i64 0,.string ⟨#[]⟩,.int .i64 0,.slice none 0 0])) 1).toList=(Value.cells (.agg #[.int .i64 0,.int .i64 0,.string ⟨#[]⟩,.int .i64 0,.slice none 0 0])).toList:=by kernel_rfl
theorem qzm:∀ v∈(Builtin.zeroCells (Value.cells (.agg #[.int .i64 0,.int .i64 0,.string ⟨#[]⟩,.int .i64 0,.slice none 0 0])) 1).toList,v.oneCell'=true:=by
 rw [qxy]
 decide
set_option maxHeartbeats 4000000 in
set_option maxRecDepth 100000 in
theorem delete_oneSlt (w:World) (g m c i:Nat) (et:TypeId) (cur:Array Value) (xs:List Value) (hbk:Blk w g et cur) (hcs:c*5≤cur.size) (hx:cur.toList.take ((m+1)*5)=xs) (hone:∀ u∈xs,u.oneCell'=true)
  (hn:m≤100000) (hi:i≤m) (hroom:m+1≤c) :
  Calls Tryz.prog 55 #[.slice (some ⟨g,0,none⟩) (m+1) c,.int .i64 i,.int .i64 ((i:Int)+1)] w (qia 5 w g cur.size m (xs.take (i*5)++xs.drop ((i+1)*5))):=by
 have hlc:cur.toList.length=cur.size:=by simp
 have hmc:(m+1)*5≤c*5:=Nat.mul_le_mul_right _ hroom
 have him:i*5≤m*5:=Nat.mul_le_mul_right _ hi
 have hxl:xs.length=(m+1)*5:=by rw [← hx,List.length_take,hlc];omega
 have hadd:∀ (b o j:Nat),(⟨b,o,none⟩:Addr).add j=⟨b,o+j,none⟩ := λ b o j=>by unfold Addr.add;split<;>simp_all
 have hcell:∀ (o j:Nat) (v:Value),(xs.drop o)[j]? = some v→w.drew.cell? ⟨g,o+j,none⟩=some v := λ o j v hj=>by
  show w.cell? _=_
  rw [hbk.cell,← Array.getElem?_toList]
  rw [List.getElem?_drop,← hx,List.getElem?_take] at hj
  split at hj
  ·exact hj
  ·cases hj
 obtain ⟨i0,hi0,hz0,hz1,hz2⟩:=info_parts qHj
 have hdl:(xs.drop ((i+1)*5)).length=(m-i)*5:=by rw [List.length_drop,hxl,← Nat.sub_mul];congr 1;omega
 have hdl':(m-i)*5=m*5-i*5:=Nat.sub_mul ..
 obtain ⟨A,hA,HN⟩:∃ A:Addr,(if c=i+1 then some (⟨g,0,none⟩:Addr) else some ⟨g,(i+1)*5,none⟩)=some A∧Hid (∀ j u,(xs.drop ((i+1)*5))[j]? = some u→w.drew.cell? (A.add j)=some u):=by
  by_cases h:c=i+1
  ·refine ⟨_,if_pos h,λ j u hj=>?_⟩
   have:=(List.getElem?_eq_some_iff.1 hj).1
   rw [hdl] at this
   have:m-i=0:=by omega
   simp [this] at *
  ·exact ⟨_,if_neg h,λ j u hj=>by rw [hadd];exact hcell _ j u hj⟩
 have HDL:=Lib.hid hdl
 have HO1:Hid (∀ u∈xs.drop ((i+1)*5),u.oneCell'=true) := λ v hv=>hone v (List.mem_of_mem_drop hv)
 have HSP:Hid (∀ j,j<(xs.drop ((i+1)*5)).length→(w.drew.cell? ⟨g,0+i*5+j,none⟩).isSome=true∧w.drew.frozen? ⟨g,0+i*5+j,none⟩=false) := λ j hj=>by
  rw [hdl] at hj
  refine ⟨?_,hbk.free _⟩
  show (w.cell? _).isSome=true
  rw [hbk.cell,Array.getElem?_eq_getElem (by omega)];rfl
 have hBKd:Blk w.drew g et cur:=hbk
 have hw0:=qgs g et (xs.drop ((i+1)*5)) (0+i*5) w.drew cur hBKd (by rw [hdl];omega)
 obtain ⟨w2,hw2⟩:∃ w2,w2=w.drew.setCells g (0+i*5) (xs.drop ((i+1)*5)):=⟨_,rfl⟩
 rw [← hw2] at hw0
 obtain ⟨c1,hc1⟩:∃ c1,c1=cur.toList.take (0+i*5)++xs.drop ((i+1)*5)++cur.toList.drop (0+i*5+(xs.drop ((i+1)*5)).length):=⟨_,rfl⟩
 rw [← hc1] at hw0
 have hl1:c1.length=cur.size:=by rw [hc1];simp only [List.length_append,List.length_take,List.length_drop,hlc,hdl];simp only [List.length_drop] at hdl;omega
 have ht1:c1.take (m*5)=xs.take (i*5)++xs.drop ((i+1)*5):=by
  have e1:cur.toList.take (0+i*5)=xs.take (i*5):=by rw [← hx,List.take_take];congr 1;omega
  rw [hc1,e1,List.take_append_of_le_length (by simp only [List.length_append,List.length_take,hdl,hxl];omega),List.take_of_length_le (by simp only [List.length_append,List.length_take,hdl,hxl];omega)]
 have hzl:(Builtin.zeroCells (Value.cells (.agg #[.int .i64 0,.int .i64 0,.string ⟨#[]⟩,.int .i64 0,.slice none 0 0])) 1).toList.length=5:=by rw [Array.length_toList,size_zeroCells];rfl
 obtain ⟨w3,hcl,hw3⟩:∃ w3,(∀ ty,(Builtin.clear_ #[27] ty #[.slice (some ⟨g,m*5,none⟩) 1 (c-m)]).run Tryz.prog w2 = .ok (.tuple #[]) w3)∧qic w2 w3 g et (c1.toArray.toList.take (m*5)++(Builtin.zeroCells (Value.cells (.agg #[.int .i64 0,.int .i64 0,.string ⟨#[]⟩,.int .i64 0,.slice none 0 0])) 1).toList++c1.toArray.toList.drop (m*5+(Builtin.zeroCells (Value.cells (.agg #[.int .i64 0,.int .i64 0,.string ⟨#[]⟩,.int .i64 0,.slice none 0 0])) 1).toList.length)) :=
  ⟨_,λ ty=>ql5 w2 27 77 ty _ Tryz.underlying27 qGH g (m*5) 1 (c-m) (by omega) c1.toArray et hw0.blk (by
   show m*5+1*5≤c1.toArray.size
   rw [List.size_toArray,hl1];omega) qzm,qc3 hw0.blk _⟩
 have HW0:=Lib.hid hw0
 have HW2:=Lib.hid hw2
 have HW3:=Lib.hid hw3
 have HCL:=Lib.hid hcl
 have HT1:=Lib.hid ht1
 have HL1:=Lib.hid hl1
 have HZL:=Lib.hid hzl
 have HI:=Lib.hid hi0
 have HZ1:=Lib.hid hz1
 have HCS:=Lib.hid hcs
 have HMC:=Lib.hid hmc
 have hlt:=lt_of_block hbk
 have hc1:¬ (m+1=i):=by omega
 have hc2:¬ (c=m):=by omega
 have hf1:((i:Int)==(i:Int)+1)=false:=by simp;omega
 have hrm:i+(m-i)≤c:=by omega
 have hmi:i+(m-i)=m:=by omega
 have HRM:=Lib.hid hrm
 have HMI:=Lib.hid hmi
 clear hlc hxl hadd hcell hi0 hz0 hz1 hz2 hdl hBKd hw0 hw2 hl1 ht1 hzl hcl hw3 hcs hx hone hbk hrm hmi hmc him hdl'
 have hw1:((i:Int)+1).toNat=i+1:=by omega
 have hw4:(i:Int)+1≤(m:Int)+1:=by omega
 have hw5:(i:Int)≤(m:Int)+1:=by omega
 have hw6:(0:Int)≤(i:Int)+1:=by omega
 have hic:i≤c:=by omega
 go_enter Tryz.func55,Tryz.ntmps55
 go_upto_region 5 with (fail)
 go_region_law (refine step_append_room rfl (.tmp 22) (.tmp 25) 27 rfl 77 i0 5 Tryz.underlying27 HI.out HZ1.out g 0 i c (by simp [Act.eval,Act.put]) A (m-i) (c-(i+1)) (xs.drop ((i+1)*5)) (by simp [Act.eval,Act.put]) HDL.out HN.out HO1.out HRM.out HSP.out ?_;rw [← HW2.out,HMI.out])
 all_goals
  clear hw1 hw4 hw5 hw6 hA
  have hcl:=HCL.out
  go_wp2_with (simp only [hcl])
  go_ret
  have h3:=HW3.out
  have h0:=HW0.out
  have hblk:=h3.blk
  have hl1:=HL1.out
  have hzl:=HZL.out
  have hmc:=HMC.out
  have hcs:=HCS.out
  have hsz:(c1.toArray.toList.take (m*5)++(Builtin.zeroCells (Value.cells (.agg #[.int .i64 0,.int .i64 0,.string ⟨#[]⟩,.int .i64 0,.slice none 0 0])) 1).toList++c1.toArray.toList.drop (m*5+(Builtin.zeroCells (Value.cells (.agg #[.int .i64 0,.int .i64 0,.string ⟨#[]⟩,.int .i64 0,.slice none 0 0])) 1).toList.length)).length=cur.size:=by
   show (c1.take (m*5)++_++c1.drop (m*5+_)).length=_
   simp only [List.length_append,List.length_take,List.length_drop,hl1,hzl];omega
  refine ⟨g,c,_,et,rfl,hblk,by omega,?_,?_,.inl ⟨rfl,?_⟩,h3.os.trans h0.os,h3.tape.trans h0.tape,h3.output.trans h0.output,?_,?_,λ k _ hk=>(h3.other k hk).trans (h0.other k hk)⟩
  ·rw [List.size_toArray,hsz];exact hcs
  ·show (c1.take (m*5)++_++c1.drop (m*5+_)).take (m*5)=_
   rw [List.append_assoc,List.take_append_of_le_length (by rw [List.length_take,hl1];omega),List.take_take,Nat.min_self]
   exact HT1.out
  ·rw [List.size_toArray,hsz]
  ·rw [h3.size,h0.size];exact Nat.le_refl _
  ·rw [h3.drawn,h0.drawn];exact Nat.le_succ _
end Go.Proofs.YtbpnmbmdbblehaaGreat
namespace Go.Proofs.YtbpnmbmdbblehaaGreat
open Go Go.RowKit Go.GxYtbpnmbmdbblehaaGreat Go.Sort Go.Proofs Go.Shelf Go.Lib Go.AmYtbpnmbmdbblehaaGreat
def qkg (ef:Nat→Bool):Nat→Nat→Int
 | 0,_=>-1
 | n+1,i=>cond (ef i) i (qkg ef n (i+1))
theorem quw (w:World):qd2 w w:=⟨rfl,rfl,rfl,Nat.le_refl _,λ _ _=>rfl,Nat.le_refl _⟩
theorem qrl {a b c:World} (h:qd2 a b) (g:qd2 b c):qd2 a c :=
 ⟨g.os.trans h.os,g.tape.trans h.tape,g.output.trans h.output,Nat.le_trans h.size g.size,λ i hi=>(g.block i (Nat.lt_of_lt_of_le hi h.size)).trans (h.block i hi),Nat.le_trans h.drawn g.drawn⟩
variable {P:Program}
set_option maxHeartbeats 4000000 in
set_option maxRecDepth 1000000 in
theorem qHo (hF:P.funcs[52]? = some Tryz.f52) (mixed:P.follows .mixedOrders=true)
  (t0:P.underlying 0=some (TypeDesc.tuple #[])) (a0:∀ w,(isAgg 0).run P w = .ok false w) (z0:∀ w,(Go.sizeOf 0).run P w = .ok 1 w) (v0:∀ w,(zeroValue 0).run P w = .ok (Value.tuple #[]) w)
  (t3:P.underlying 3=some (TypeDesc.int IntKind.i64)) (a3:∀ w,(isAgg 3).run P w = .ok false w) (z3:∀ w,(Go.sizeOf 3).run P w = .ok 1 w) (v3:∀ w,(zeroValue 3).run P w = .ok (Value.int IntKind.i64 0) w)
  (t4:P.underlying 4=some (TypeDesc.bool)) (a4:∀ w,(isAgg 4).run P w = .ok false w) (z4:∀ w,(Go.sizeOf 4).run P w = .ok 1 w) (v4:∀ w,(zeroValue 4).run P w = .ok (Value.bool false) w)
  (t22:P.underlying 27=some (TypeDesc.slice 77)) (a22:∀ w,(isAgg 27).run P w = .ok false w) (z22:∀ w,(Go.sizeOf 27).run P w = .ok 1 w) (v22:∀ w,(zeroValue 27).run P w = .ok (Value.slice none 0 0) w)
  (t36:P.underlying 81=some (TypeDesc.func #[77] #[4] false)) (a36:∀ w,(isAgg 81).run P w = .ok false w) (z36:∀ w,(Go.sizeOf 81).run P w = .ok 1 w) (v36:∀ w,(zeroValue 81).run P w = .ok (Value.nilFunc) w)
  (k:Nat) (aE:∀ w,(isAgg 77).run P w = .ok true w) (zE:∀ w,(Go.sizeOf 77).run P w = .ok k w)
  (w:World) (blk n cap:Nat) (q:Nat) (bp:Value) (hn:n≤100000) (hblk:blk<w.heap.size)
  (enc:Nat→List Value) (hk:∀ x,(enc x).length=k) (hH:HoldsK enc k w blk 0 (Array.range n))
  (eg:∀ args w,(callFunc q args).run P w = .ok (.enter q args) w) (ef:Nat→Bool)
  (heq:∀ W,qd2 w W→∀ i,i<n→Calls P q #[.agg (enc i).toArray,bp] W λ e w'=>e = .returned (.bool (ef i))∧qd2 W w') :
  Calls P 52 #[.slice (some ⟨blk,0,none⟩) n cap,.func (.func q) #[] #[bp]] w λ e w'=>e = .returned (.int .i64 (qkg ef n 0))∧qd2 w w':=by
 have u22:=run_underlying t22
 have hrs:(Array.range n).size=n:=Array.size_range
 have HC:Aside _:=heq
 have HH:Hid (HoldsK enc k w blk 0 (Array.range n)):=hH
 have HK:Hid (∀ x,(enc x).length=k):=hk
 clear heq hH hk
 have hnz:(n:Int)≤100000:=by omega
 generalize hr0:qkg ef n 0=r
 have HR:=Lib.hid hr0
 clear hr0
 go_enter hF,Tryz.ntmps52
 go_wp2
 go_loopg [8] n (λ g1 vi wr=>∃ (i:Nat),vi = .int .i64 i∧i≤n∧n-i≤g1∧Hid (qd2 w wr)∧Hid (qkg ef (n-i) i=r))
 case atStart=>exact ⟨0,rfl,Nat.zero_le _,by omega,quw w,by show _=_;rw [Nat.sub_zero];exact HR.out⟩
 case round =>
  obtain ⟨i,rfl,hin,hg1,HI,HE⟩:=hrel
  by_cases hlt:i<n
  ·have hltz:(i:Int)<(n:Int):=by omega
   have r1:(Array.range n)[i]! = i:=by rw [getElem!_pos _ _ (by rw [hrs];exact hlt)];simp
   have hHw:HoldsK enc k wr blk 0 (Array.range n):=by
    intro j hj
    obtain ⟨h1,h2⟩:=HH.out j hj
    have hb:=HI.out.block blk hblk
    exact ⟨by rw [show wr.cell? _=w.cell? _ from World.cell?_of_block hb];exact h1,by
     rw [← h2];unfold World.frozen?;rw [hb]⟩
   have lj:Sem.run P (loadCellsFrom ⟨blk,i*k,none⟩ 0 k #[]) wr = .ok (enc i).toArray wr:=by
    have:=HoldsK.cells hHw HK.out (i:=i) (by rw [hrs];exact hlt)
    rw [r1,Nat.zero_add] at this
    exact run_loadCellsFrom_list P _ _ _ k (HK.out _) this
   have hcg:=HC.out wr HI.out i hlt
   clear hHw r1
   have hE:=HE.out
   rw [show n-i=(n-(i+1))+1 by omega] at hE
   cases hev:ef i with
   | true =>
     have hE2:r=(i:Int):=by rw [← hE,qkg,hev];rfl
     have HE2:=Lib.hid hE2
     clear hE hE2
     rw [hev] at hcg
     go_wp2_with (go_at_fn q;refine hcg.mono ?_;rintro e w1 ⟨rfl,hid⟩)
     go_ret
     rw [HE2.out]
     exact ⟨rfl,qrl HI.out hid⟩
   | false =>
     have hE2:qkg ef (n-(i+1)) (i+1)=r:=by rw [← hE,qkg,hev];rfl
     have HE2:=Lib.hid hE2
     clear hE hE2
     rw [hev] at hcg
     go_wp2_with (go_at_fn q;refine hcg.mono ?_;rintro e w1 ⟨rfl,hid⟩)
     go_roundg (n-(i+1))
     case measure=>omega
     case rel=>exact ⟨i+1,by go_num,by omega,by omega,qrl HI.out hid,HE2.out⟩
  ·obtain rfl:i=n:=by omega
   have hE:=HE.out
   rw [Nat.sub_self] at hE
   have HE2:=Lib.hid hE
   clear hE
   go_wp2
   go_ret
   rw [← HE2.out]
   exact ⟨rfl,HI.out⟩
set_option maxHeartbeats 4000000 in
set_option maxRecDepth 1000000 in
theorem qG5 (p:Option Addr) (cap:Nat) (fv:Value) (w:World) :
  Calls Tryz.prog 52 #[.slice p 0 cap,fv] w λ e w'=>e = .returned (.int .i64 (-1))∧qd2 w w':=by
 go_enter Tryz.func52,Tryz.ntmps52
 go_wp2
 refine wp_loop_rounds 1 ?_
 rw [rounds_succ]
 go_wp2
 go_ret
 exact ⟨rfl,quw w⟩
set_option maxHeartbeats 4000000 in
set_option maxRecDepth 1000000 in
theorem qIQ (w:World) (x n:Int) (c1 c2 c3 c4:Value) (h1:c1.oneCell'=true) (h2:c2.oneCell'=true) (h3:c3.oneCell'=true) (h4:c4.oneCell'=true) (b:Nat) (hN:w.cell? ⟨b,0,none⟩=some (.int .i64 n)) :
  Calls Tryz.prog 53 #[.agg #[.int .i64 x,c1,c2,c3,c4],.pointer (some ⟨b,0,none⟩)] w λ e w'=>e = .returned (.bool (x==n))∧qd2 w w':=by
 have hb:b<w.heap.size:=qoT hN
 have hN2:∀ o,(w.alloc o).cell? ⟨b,0,none⟩=some (.int .i64 n) := λ o=>by
  rw [show (w.alloc o).cell? _=w.cell? _ from World.cell?_of_block (Below.heap_alloc _ _ _ hb)];exact hN
 go_enter Tryz.func53,Tryz.ntmps53
 go_wp2
 go_ret
 exact ⟨rfl,rfl,rfl,rfl,by simp,λ b hb=>Below.heap_alloc _ _ _ hb,Nat.le_refl _⟩
end Go.Proofs.YtbpnmbmdbblehaaGreat
namespace Go.AmYtbpnmbmdbblehaaGreat
open Go Go.RowKit Go.GxYtbpnmbmdbblehaaGreat Go.Sort Go.Proofs Go.Shelf Go.Proofs.YtbpnmbmdbblehaaGreat
abbrev zW:Ty := .pair (.int .i64) .term
def qiN (l:List (Val zW)) (n:Int) (i:Nat):Bool:=match l[i]? with
 | some x=>x.1==n
 | none=>false
def yM (m:Nat) (l:List (Int × T)) (c:Int × T):Option Int:=cond (Nat.ble l.length 100000) (some (qkg (qiN l c.1) l.length 0)) none
theorem qHb {σ : St} {g k:Nat} {r:List SA} {nb nr:Nat} {ys:List AV} {a:jx (.clo g k::r)} (h:dS σ (.clo g k::r) nb nr ys=some a):∃ cs ys',ys = .fn g cs::ys'∧cs.length=k∧dS σ r nb nr (cs++ys')=some a:=by
 cases ys with
 | nil=>simp [dS] at h
 | cons y ys =>
   simp only [dS] at h
   split at h
   ·rename_i cs hc
    obtain ⟨rfl,h1⟩:=qtA hc
    exact ⟨cs,ys,rfl,h1,h⟩
   ·cases h
theorem qHa {σ : St} {τ : Ty} {r:List SA} {nb nr:Nat} {ys:List AV} {a:jx (.box [.val τ]::r)} (h:dS σ (.box [.val τ]::r) nb nr ys=some a):∃ ds ys',ys = .ptr nb 0::ys' ∧ σ.bx[nb]? = some ds∧yf τ (ds.take τ.size)=some a.1∧dS σ r (nb+1) nr ys'=some a.2:=by
 cases ys with
 | nil=>simp [dS] at h
 | cons y ys =>
   simp only [dS] at h
   cases hb:qkV σ [.val τ] nb nr y with
   | none=>rw [hb] at h;cases h
   | some p =>
     obtain ⟨v,n⟩:=p
     rw [hb] at h
     simp only at h
     unfold qkV at hb
     split at hb<;>try cases hb
     rename_i j
     split at hb<;>try cases hb
     rename_i ds hj hds
     have hj:=Nat.eq_of_beq_eq_true hj
     subst hj
     simp only [qeD] at hb
     split at hb<;>try cases hb
     rename_i x hx
     split at hb<;>cases hb
     rename_i hvs
     have hm:n=nr:=by
      cases hdd:ds.drop τ.size with
      | nil=>rw [hdd] at hvs;simp [qeD] at hvs;exact hvs.symm
      | cons z zs=>rw [hdd] at hvs;simp [qeD] at hvs
     subst hm
     split at h<;>cases h
     rename_i vs' hvs'
     exact ⟨ds,ys,rfl,hds,hx,hvs'⟩
set_option maxHeartbeats 1000000 in
theorem jt {m:Nat}:qX Go.Proofs.Tryz.prog 52 (xgP ⟨[.row zW,.clo 53 1,.box [.val zW]],λ x=>yM m x.1 x.2.1⟩):=by
 refine ⟨QO Go.Proofs.Tryz.func52 (by kernel_rfl),λ Γ σ w args vals r hi hr hp=>?_⟩
 unfold xgP at hp
 split at hp<;>try cases hp
 rename_i x hx
 split at hp<;>cases hp
 rename_i v0 hv0
 obtain ⟨l,c,_⟩:=x
 obtain ⟨y0,ys0,nr,rfl,hy0,hx1⟩:=qnr hx
 obtain ⟨cs,ys1,rfl,hcs,hx2⟩:=qHb (r:=[.box [.val zW]]) hx1
 match cs,hcs with
 | [yp],_ =>
 obtain ⟨ds,ys2,he2,hds,hdv,hx3⟩:=qHa (τ := zW) (r:=[]) hx2
 obtain ⟨rfl,hbx,hrw⟩:=qiw hx3
 have he2:yp::ys1=[.ptr 0 0]:=he2
 cases he2
 clear hx hx1 hx2 hx3
 obtain ⟨u0,r0,rfl,hu0,hr⟩:=hr.uncons
 obtain ⟨u1,r1,rfl,hu1,hr⟩:=hr.uncons
 have:=hr.nil_inv
 subst this
 have hv0:cond (Nat.ble l.length 100000) (some (qkg (qiN l c.1) l.length 0)) none=some v0:=hv0
 obtain ⟨hll,rfl⟩:=qdB hv0
 have hll:l.length≤100000:=Nat.le_of_ble_eq_true hll
 obtain ⟨bp,rfl⟩:∃ bp,u1 = .func (.func 53) #[] #[.pointer (some ⟨Γ.β 0,0,none⟩)]:=by
  cases hu1 with
  | fn _ _ us hn hrr =>
    match us,hn with
    | [u],_ =>
      have:=hrr 0 _ u rfl rfl
      cases this with
      | ptr b o h=>exact ⟨0,rfl⟩
 have hbl:0 < Γ.nb:=by rw [hi.nb];omega
 have fin:∀ {vs:Array Value} {v:Int},Calls Go.Proofs.Tryz.prog 52 vs w (λ e w'=>e = .returned (.int .i64 v)∧qd2 w w')→jz Go.Proofs.Tryz.prog Γ σ w 52 vs.toList (.v (.int .i64 v),none) := λ {vs v} h=>by
  refine Calls.mono (by simpa using h) ?_
  rintro e w' ⟨rfl,hid⟩
  have hb:Below w.heap.size w w':=⟨hid.os,hid.tape,hid.output,hid.size,hid.block⟩
  exact ⟨_,Γ,rfl,qc6 hb hid.drawn,hi.later hb,.v _ rfl,.refl _⟩
 have nil0:∀ (p:Option Addr) (cap:Nat),l=[]→jz Go.Proofs.Tryz.prog Γ σ w 52 [.slice p 0 cap,.func (.func 53) #[] #[.pointer (some ⟨Γ.β 0,0,none⟩)]] (.v (.int .i64 (qkg (qiN l c.1) l.length 0)),none) := λ p cap h=>by
  subst h
  exact fin (qG5 p cap _ w)
 rcases qcZ hy0 with ⟨hnr,R,rfl,hR,hRk,hRf,hRd⟩ | ⟨hnr,hl0,hy⟩
 ·have H:=hi.row 0 R hR
  have hcl:R.c.length=l.length:=qT hRd
  have hlk:∀ e∈R.c,e.length=Ty.size zW := λ e he=>(H.len e he).trans hRk
  obtain ⟨p,cap,rfl,hcap,hrm⟩:=qoo hi hR hRk hRf hu0
  by_cases hl0:l=[]
  ·have hrc:R.c.length=0:=by rw [hcl,hl0];rfl
   rw [hrc]
   exact nil0 p cap hl0
  ·have hlpos:0<l.length:=List.length_pos_iff.2 hl0
   rcases hrm with h0 | ⟨rfl,hz,vs,et,hvs,hvsz,hfit,hca,hxl,h1⟩
   ·omega
   obtain ⟨n,hn⟩:∃ n,n=l.length:=⟨_,rfl⟩
   have hnc:R.c.length=n:=hcl.trans hn.symm
   rw [hnc] at hca hxl h1 hcap ⊢
   have hns:n*Ty.size zW≤vs.size:=Nat.le_trans (Nat.mul_le_mul_right _ hcap) hfit
   have hER:∀ {q:Nat} {y:Val zW},l[q]? = some y→RepL Γ (qm zW y) (jZ vs (Ty.size zW) q)∧∀ u∈jZ vs (Ty.size zW) q,u.oneCell'=true := λ hq=>qpD hnc hlk hRd hca hns hq
   have hlast:∀ i,i % n<n := λ i=>Nat.mod_lt _ (by omega)
   obtain ⟨enc,henc⟩:∃ enc:Nat→List Value,enc = λ i=>jZ vs (Ty.size zW) (i % n):=⟨_,rfl⟩
   have hek:∀ i,(enc i).length=Ty.size zW := λ i=>by rw [henc];exact qlY (hlast i) hns
   have hrange:(Array.range n).size=n:=Array.size_range
   have hvsb:w.heap[Γ.cur 0]? = some (.cells vs et (0,0)):=hvs
   have hH:HoldsK enc (Ty.size zW) w (Γ.cur 0) 0 (Array.range n):=by
    intro j hj
    rw [size_flatK,hrange] at hj
    obtain ⟨q1,q2,q3⟩:=qhU j (Ty.size zW) n hj
    have hjs:j<vs.size:=Nat.lt_of_lt_of_le hj hns
    constructor
    ·rw [get_flatK _ _ _ _ (by rw [hrange];exact hj)]
     have e1:(Array.range n)[j / (Ty.size zW)]! = j / (Ty.size zW):=by rw [getElem!_pos _ _ (by rw [hrange];exact q1)];simp
     rw [e1,henc]
     show _=some ((jZ vs (Ty.size zW) (j / (Ty.size zW) % n))[j % (Ty.size zW)]!)
     rw [Nat.mod_eq_of_lt q1]
     have e2:(jZ vs (Ty.size zW) (j / (Ty.size zW)))[j % (Ty.size zW)]? = some vs[j]:=by rw [qjn q3,q2];exact Array.getElem?_eq_getElem hjs
     rw [Nat.zero_add,Blk.cell hvs,List.getElem!_eq_getElem?_getD,e2,Array.getElem?_eq_getElem hjs]
     rfl
    ·exact Blk.free hvs _
   have hN:w.cell? ⟨Γ.β 0,0,none⟩=some (.int .i64 c.1):=by
    obtain ⟨cs,e,hh,hrep,_⟩:=hi.box 0 ds hds
    have hsub:=qiu hdv
    have hr5:RepL Γ (qm zW c) (cs.toList.take (Ty.size zW)):=hsub.rep (hrep.take _)
    obtain ⟨u,r,hu,hu1,_⟩:=(show RepL Γ (.v (.int .i64 c.1)::Q0 c.2) _ from hr5).uncons
    have:=zq hu1
    subst this
    have h0:cs.toList[0]? = some (.int .i64 c.1):=by
     have:(cs.toList.take (Ty.size zW))[0]? = some (.int .i64 c.1):=by rw [hu];rfl
     rw [List.getElem?_take] at this
     split at this
     ·exact this
     ·cases this
    unfold World.cell?
    rw [hh]
    show cs[0]? = _
    rw [← Array.getElem?_toList];exact h0
   have heq:∀ W,qd2 w W→∀ i,i<n→Calls Go.Proofs.Tryz.prog 53 #[.agg (enc i).toArray,.pointer (some ⟨Γ.β 0,0,none⟩)] W λ e w'=>e = .returned (.bool (qiN l c.1 i))∧qd2 W w':=by
    intro W hid i hi'
    have hli:i<l.length:=by omega
    obtain ⟨q1,q2⟩:=hER (List.getElem?_eq_getElem hli)
    have he:enc i=jZ vs (Ty.size zW) i:=by rw [henc];show jZ _ _ (i % n)=_;rw [Nat.mod_eq_of_lt hi']
    rw [he]
    have hlen5:(jZ vs (Ty.size zW) i).length=5:=by rw [← he];exact hek i
    match hE:jZ vs (Ty.size zW) i,hlen5 with
    | [d0,d1,d2,d3,d4],_ =>
      rw [hE] at q1 q2
      obtain ⟨u,r,hu,hu1,_⟩:=(show RepL Γ (.v (.int .i64 l[i].1)::Q0 l[i].2) _ from q1).uncons
      have:=zq hu1
      subst this
      cases hu
      have hb:(qiN l c.1 i)=(l[i].1==c.1):=by unfold qiN;rw [List.getElem?_eq_getElem hli]
      rw [hb]
      refine qIQ W _ _ d1 d2 d3 d4 (q2 _ (by simp)) (q2 _ (by simp)) (q2 _ (by simp)) (q2 _ (by simp)) (Γ.β 0) ?_
      rw [show W.cell? _=w.cell? _ from World.cell?_of_block (hid.block _ (qoT hN))]
      exact hN
   have hcall:=qHo (P:=Go.Proofs.Tryz.prog) Go.Proofs.Tryz.func52 (by kernel_rfl) Go.Proofs.Tryz.underlying0 Go.Proofs.Tryz.isAgg0 Go.Proofs.Tryz.sizeOf0 Go.Proofs.Tryz.zeroValue0 Go.Proofs.Tryz.underlying3 Go.Proofs.Tryz.isAgg3 Go.Proofs.Tryz.sizeOf3 Go.Proofs.Tryz.zeroValue3 Go.Proofs.Tryz.underlying4 Go.Proofs.Tryz.isAgg4 Go.Proofs.Tryz.sizeOf4 Go.Proofs.Tryz.zeroValue4 Go.Proofs.Tryz.underlying27 Go.Proofs.Tryz.isAgg27 Go.Proofs.Tryz.sizeOf27 Go.Proofs.Tryz.zeroValue27 Go.Proofs.Tryz.underlying81 Go.Proofs.Tryz.isAgg81 Go.Proofs.Tryz.sizeOf81 Go.Proofs.Tryz.zeroValue81 (Ty.size zW) Go.Proofs.Tryz.isAgg77 Go.Proofs.Tryz.sizeOf77
    w (Γ.cur 0) n cap 53 (.pointer (some ⟨Γ.β 0,0,none⟩)) (by omega) (Array.getElem?_eq_some_iff.1 hvsb).1 enc hek hH (λ args w=>qdI (QO Go.Proofs.Tryz.func53 (by kernel_rfl)) args w) (qiN l c.1) heq
   have:=fin hcall
   rw [← hn]
   exact this
 ·have hl0:l=[]:=hl0
  rcases hy with rfl | ⟨f,rfl,hf2⟩
  ·have hu0:=zq hu0
   subst hu0
   exact nil0 none 0 hl0
  ·cases hu0 with
   | sl _ _ _ a n cap b o us hn _ hf _ _ _ _ _ _ =>
     have hn:n=0:=hn
     rw [hn]
     exact nil0 a cap hl0
end Go.AmYtbpnmbmdbblehaaGreat
namespace Go.AmYtbpnmbmdbblehaaGreat
open Go Go.RowKit Go.GxYtbpnmbmdbblehaaGreat
def yV (m:Nat) (l:List (Int × T)) (i j:Int):Option (Unit × List (Int × T) × Unit):=cond (inb j l.length&&(inb i l.length&&(ieq j (qj i 1)&&Nat.ble l.length 100000))) (some ((),l.take i.toNat++l.drop (i.toNat+1),())) none
theorem qc7 {m:Nat}:qX Go.Proofs.Tryz.prog 55 (sgP ⟨[.row (.pair (.int .i64) .term),.val (.int .i64),.val (.int .i64)],[.one (.row (.pair (.int .i64) .term))],λ x=>yV m x.1 x.2.1 x.2.2.1⟩):=by
 refine qyS (a := .pair (.int .i64) .term) (QO Go.Proofs.Tryz.func55 (by kernel_rfl)) Go.Proofs.YtbpnmbmdbblehaaGreat.delete_oneSlt (fn:=yV m) λ l i j r h=>?_
 obtain ⟨h1,h2⟩:=qdB h
 simp only [Bool.and_eq_true] at h1
 obtain ⟨h3,h4,h5,h6⟩:=h1
 have h3:=of_decide_eq_true h3
 have h4:=of_decide_eq_true h4
 have h5:j=i+1:=by simpa [ieq,qj] using h5
 refine ⟨h5,h4.1,?_,Nat.le_of_ble_eq_true h6,h2.symm⟩
 omega
end Go.AmYtbpnmbmdbblehaaGreat
namespace Go.AmYtbpnmbmdbblehaaGreat
open Go Go.GxYtbpnmbmdbblehaaGreat
set_option linter.unusedVariables false
set_option maxRecDepth 100000
noncomputable section
abbrev Z1:=Option (Bool)
abbrev Z2:=Int→Z1
abbrev Z3:=List UInt8
abbrev Z4:=Z3→Int→Int→Z1
abbrev Z5:=Y8→Z1
abbrev Z6:=Option (((Int) × (Int) × Unit) × ((Int) × Unit))
abbrev Z7:=T→Int→Int→Int→Z6
abbrev Z8:=List (T)
abbrev Z9:=Int→Z8→Int→Int→Int→Int→Z6
abbrev Z10:=Option (Int)
abbrev Z11:=T→Z10
abbrev Z12:=Option (Y8 × (Int × (Int × Int)))
abbrev Z13:=List (Y8 × (Int × (Int × Int)))
abbrev Z14:=Z3→Z13→Int→Int→Z3→Int→Int→Int→Z12
abbrev Z15:=Z8→Int→Int→Int→Z3→Int→Z8→Z10
abbrev Z16:=Z8→Int→Int→Z10
abbrev Z17:=Int→Z8→Int→Int→Z10
abbrev Z18:=T→T→Z10
abbrev Z19:=Int→Int→Int→Z3→Int→Z8→Int→Z3→Int→Z8→Z10
abbrev Z20:=T→T→Z1
abbrev Z21:=Option (T)
abbrev Z22:=T→Z21
abbrev Z23:=Option (TL)
abbrev Z24:=(List (TL))→Int→(List (TL))→Int→Int→Z23
abbrev Z25:=(List (TL))→Int→Int→Z8→Z23
abbrev Z26:=Z8→Z8→Z8→Z23
abbrev Z27:=T→Z23
abbrev Z28:=Z8→Z8→Int→Int→Z23
abbrev Z29:=Z8→Int→Int→Int→Z3→Int→Int→Z3→Int→Z8→Z8→Z21
abbrev Z30:=Option ((T) × (Int))
abbrev Z31:=(List (Int))→Int→Int→Int→Z3→Int→Z8→Int→Z3→Int→Int→Z3→Int→Z8→Z8→Z30
abbrev Z32:=TL→Z23
abbrev Z33:=Z8→Int→Int→Z8→Z23
abbrev Z34:=Z8→Z8→Int→Int→Int→Z3→Int→Z8→Z30
abbrev Z35:=T→Z1
abbrev Z36:=Int→Int→Int→Z3→Int→Int→Z3→Int→Z8→Z8→Z21
abbrev Z37:=Option ((Int) × (Bool))
abbrev Z38:=List (T × Int)
abbrev Z39:=Z38→Int→Int→Int→Int→Z3→Int→Z8→Z37
abbrev Z40:=Option ((Unit) × ((List (T × Int)) × Unit))
abbrev Z41:=Option ((Unit) × ((List (T × Int)) × (Bool) × Unit))
abbrev Z42:=Z38→T→Int→Z41
abbrev Z43:=Int→Z8→Int→Int→Z38→Z41
abbrev Z44:=Option ((List (T × Int)) × (Int))
abbrev Z45:=T→Z44
abbrev Z46:=Z38→Z38→Int→Int→Z10
abbrev Z47:=Z38→Z10
abbrev Z48:=Y8→TL→Z21
abbrev Z49:=Z38→Int→Int→Int→Z3→Int→Z8→Z8→Z8→Z30
abbrev Z50:=Z38→Int→Int→Int→Int→Int→Z3→Int→Int→Z3→Int→Z8→Int→Z8→Z8→Z8→Z30
abbrev Z51:=Z38→Z30
abbrev Z52:=Z38→Int→Int→Z38→Z40
abbrev Z53:=Z38→Int→Int→Z10
abbrev Z54:=Z38→Int→Int→Z38→Z44
abbrev Z55:=Z38→Z38→Z44
abbrev Z56:=T→T→Z30
abbrev Z57:=T→Z30
abbrev Z58:=Z8→Int→Int→Int→Z3→Int→Z8→Int→Z3→Int→Int→Z3→Int→Z8→Z8→Z30
abbrev Z59:=Z8→Int→Int→Z1
abbrev Z60:=Option (((Int) × (List (T)) × Unit) × (Unit))
abbrev Z61:=T→Int→Z8→Z60
abbrev Z62:=Z8→Int→Int→Int→Z8→Z60
abbrev Z63:=Option ((Unit) × ((List (T)) × Unit))
abbrev Z64:=Int→Int→Z8→Z63
abbrev Z65:=(List (Int))→Int→Int→Int→Z3→Int→Z8→Int→Z3→Int→Z8→Z30
abbrev Z66:=Option ((T × (Int × ((List (Int × T)) × Int))) × (Int))
abbrev Z67:=T→Z66
abbrev Z68:=Int→Int→Int→Z3→Int→Int→Z3→Int→Z8→Z8→Z30
abbrev Z69:=T→Int→Z30
abbrev Z70:=Int→Int→Int→Z3→Int→Z8→Z10
abbrev Z71:=Int→Int→Z3→Int→Z8→Int→Z3→Int→Z8→Z10
abbrev Z72:=List (Int × T)
abbrev Z73:=Int→Z72→Int→Int→Int→Z3→Int→Z8→Int→Z72→Int→Z10
abbrev Z74:=T × (Int × ((List (Int × T)) × Int))
abbrev Z75:=Z74→Z10
abbrev Z76:=Option ((Unit) × (((T) × (Int) × (List (Int × T)) × (Int) × Unit) × Unit))
abbrev Z77:=Z72→Int→Int→Int→Z3→Int→Z8→Int→Z72→Int→Int→Z3→Int→Int→Int→Z8→Z72→Z72→Z76
abbrev Z78:=Option ((T) × (Bool))
abbrev Z79:=Option ((T × (Int × ((List (Int × T)) × Int))) × ((T) × (Int)))
abbrev Z80:=Int→Int→Z3→Int→Z8→Int→Z3→Int→Int→Int→Int→Z3→Int→Int→Z3→Int→Z8→Int→Int→Z8→Z72→Z8→Z72→Z79
abbrev Z81:=Option (Y8)
abbrev Z82:=Z3→Int→Z81
abbrev Z83:=Z3→Int→Z1
abbrev Z84:=Option ((T) × ((Y8) × (Bool)))
abbrev Z85:=Z3→Z3→Int→Int→Z3→Int→Z8→Int→Z3→Int→Z8→Z84
abbrev Z86:=Y8→Int→Z84
abbrev Z87:=Z3→Int→Int→Z3→Int→Int→Z3→Int→Z8→Z8→Z84
abbrev Z88:=Int→Int→Z3→Int→Z8→Z10
abbrev Z89:=Option (List (Y8 × (Int × (Int × Int))))
abbrev Z90:=Z3→Z13→Int→Z10
abbrev Z91:=Z13→Int→Int→Z3→Int→Z8→Z1
abbrev Z92:=Int→Int→Z3→Int→Z8→Z1
abbrev Z93:=Z8→Int→Int→Z3→Int→Z8→Z1
abbrev Z94:=Z8→Bool→Int→Int→Z3→Int→Z8→Z8→Z23
abbrev Z95:=Z8→Int→Int→Z3→Int→Z8→Z8→Z23
abbrev Z96:=Z8→Z8→Int→Z23
abbrev Z97:=Z8→Int→Int→Z3→Int→Z8→Z23
abbrev Z98:=Z8→Int→Int→Z3→Int→Z8→Z10
abbrev Z99:=Z8→Z8→Int→Int→Z3→Int→Z8→Z30
abbrev qHz:=Int→Int→Int→Z3→Int→Z8→Z1
abbrev qH2:=Int→Bool→Int→Int→Z3→Int→Z8→Z38→Z38→Z40
abbrev qwP:=Z38→T→Int→Z40
abbrev qH3:=Int→Int→Int→Z3→Int→Z8→Z38→Z40
abbrev qBj:=Z38→Int→Z10
abbrev qkn:=Z38→Int→Z8→Z23
abbrev qkj:=Z38→Int→Int→Z8→Z23
abbrev qIm:=Z38→Int→Z38→Z44
abbrev qH0:=Int→Int→Z3→Int→Z8→Int→Z3→Int→Z8→Z8→Z30
abbrev qHW:=Int→Int→Z3→Int→Z8→Z8→Z23
abbrev qHX:=Z8→Int→Z1
abbrev qIB:=Int→Z8→Int→Z8→Z23
abbrev qIe:=Int→Int→Int→Z3→Int→Z8→Int→Z72→Int→Z10
abbrev qIw:=Option ((T × (Int × ((List (Int × T)) × Int))) × ((Int × T) × (Int)))
abbrev qBu:=Option (List (Int × T))
abbrev qHR:=Int→Int→Int→Z3→Int→Z8→Int→Z72→Int→Z72→qBu
abbrev qBY:=T→Int→Z10
abbrev qIi:=Int→Int→Z3→Int→Z8→Int→Z3→Int→Z8→Z30
abbrev qIE:=Int→Int→Z3→Int→Z8→Int→Z72→Int→Int→Z3→Int→Z8→Int→Z72→Int→Z1
def qi2 (m:Nat) (a0:Int):Z1 :=
 let j1:Z1:=(let j2:Z1:=(let j3:Z1:=(cond (ieq a0 95) (some true) (some (ieq a0 35)));cond (ile 48 a0) (cond (ile a0 57) (some true) j3) j3);cond (ile 65 a0) (cond (ile a0 90) (some true) j2) j2);
 cond (ile 97 a0) (cond (ile a0 122) (some true) j1) j1
def qeY:Nat→Z2:=qf (λ _=>none) λ m _=>qi2 m
def qdP (m:Nat) (K1:Z4) (a0:Y8):Z1 :=
 cond (qB a0 []) (some false) (cond (ilt 24 (List.length a0)) (some false) (qa (qd a0 0) λ v1=>qa (qeY m ((UInt8.toNat v1:Nat):Int)) λ v2=>cond (qc v2) (some false)
 (qa (qd a0 0) λ v3=>let j1:Z1:=(qa (qd a0 0) λ v5=>cond (ieq ((UInt8.toNat v5:Nat):Int) 95) (some false) (qa (qd a0 0) λ v6=>cond (ieq ((UInt8.toNat v6:Nat):Int) 35) (some false)
 (K1 a0 (List.length a0) 0)));cond (ile 48 ((UInt8.toNat v3:Nat):Int)) (qa (qd a0 0) λ v4=>cond (ile ((UInt8.toNat v4:Nat):Int) 57) (some false) j1) j1)))
def qdR (m:Nat) (K1:Z4) (x0:List UInt8) (x1 x2:Int):Z1 :=
 cond (ilt x2 x1) (qa (qd x0 x2) λ v1=>qa (qeY m ((UInt8.toNat v1:Nat):Int)) λ v2=>cond (qc v2) (some false) (K1 x0 x1 (iw .i64 (qj x2 1)))) (some true)
def jC (m:Nat):=qM (λ _ _ _=>none) λ ih=>qdR m ih
def qaW:Nat→Z5:=qf (λ _=>none) λ m _=>qdP m (jC m m)
def qer (m:Nat) (q_term_check:Z7) (K1:Z9) (a0:T) (a1 a2 a3:Int):Z6 :=
 let j1:Z6:=(qa (qaW m (T.name a0)) λ v1=>cond (qc v1) (some ((iw .i64 (qj a2 1),qkh a3 a1,()),(2,()))) (cond (ilt 8 (List.length (T.kids a0)))
 (some ((iw .i64 (qj a2 1),qkh a3 a1,()),(3,()))) (K1 a1 (T.kids a0) (List.length (T.kids a0)) 0 (iw .i64 (qj a2 1)) (qkh a3 a1))));let j2:Z6:=(some ((iw .i64 (qj a2 1),qkh a3 a1,()),(1,())));
 let j3:Z6:=(cond (ilt (T.sort a0) 0) j2 (cond (ilt 5 (T.sort a0)) j2 (cond (ilt 0 (List.length (T.kids a0))) j2 j1)));cond (ieq (T.kind a0) 1) j3 (cond (ieq (T.kind a0) 2) j3 (cond (ieq (T.kind a0) 3)
 (cond (qc (ieq (T.sort a0) 0)) j2 j1) j2))
def qel (m:Nat) (q_term_check:Z7) (K1:Z9) (x0:Int) (x1:List (T)) (x2 x3 x4 x5:Int):Z6 :=
 cond (ilt x3 x2) (qa (qd x1 x3) λ v1=>qa (q_term_check (re v1) (iw .i64 (qj x0 1)) x4 x5) λ v2=>cond (qc (ieq v2.2.1 0)) (some ((v2.1.1,v2.1.2.1,()),(v2.2.1,())))
 (K1 x0 x1 x2 (iw .i64 (qj x3 1)) v2.1.1 v2.1.2.1)) (some ((x4,x5,()),(0,())))
def yU (m:Nat) (q_term_check:Z7):=qM (λ _ _ _ _ _ _=>none) λ ih=>qel m q_term_check ih
def zD:Nat→Z7:=qf (λ _ _ _ _=>none) λ m q_term_check=>qer m q_term_check (yU m q_term_check m)
def qhq (m:Nat) (a0:T):Z10 :=
 qa (zD m (re a0) 1 0 0) λ v1=>cond (qc (ieq v1.2.1 0)) (some v1.2.1) (cond (ilt 400 v1.1.1) (some 3) (cond (ilt 40 v1.1.2.1) (some 3) (some 0)))
def zu:Nat→Z11:=qf (λ _=>none) λ m _=>qhq m
def qbU (m:Nat) (K1:Z14) (a0:Y8):Z12 :=
 qa (qgC 0) λ v1=>K1 a0 v1 (List.length v1) 0 [] 0 0 0
def qbF (m:Nat) (K1:Z14) (x0:List UInt8) (x1:List (Y8 × (Int × (Int × Int)))) (x2 x3:Int) (x4:List UInt8) (x5 x6 x7:Int):Z12 :=
 cond (ilt x3 x2) (qa (qd x1 x3) λ v1=>cond (qB v1.1 x0) (some (v1.1,(v1.2.1,(v1.2.2.1,v1.2.2.2)))) (K1 x0 x1 x2 (iw .i64 (qj x3 1)) x4 x5 x6 x7)) (some ([],(0,(0,0))))
def Ql (m:Nat):=qM (λ _ _ _ _ _ _ _ _=>none) λ ih=>qbF m ih
def qal:Nat→(Y8→Z12):=qf (λ _=>none) λ m _=>qbU m (Ql m m)
def qcF (m:Nat) (q_theory_check:Z11) (K1:Z15) (K2:Z16) (a0:T):Z10 :=
 cond (qc (ieq (T.kind a0) 3)) (some 0) (qa (qal m (T.name a0)) λ v1=>cond (ieq v1.2.2.2 0) (some 10) (cond (ilt (List.length (T.kids a0)) v1.2.1) (some 6)
 (cond (ilt v1.2.2.1 (List.length (T.kids a0))) (some 6) (cond (qB (T.name a0) [115,107]) (K1 (T.kids a0) (List.length (T.kids a0)) 0 (T.kind a0) (T.name a0) (T.sort a0) (T.kids a0))
 (cond (qB (T.name a0) [115,104,107]) (K1 (T.kids a0) (List.length (T.kids a0)) 0 (T.kind a0) (T.name a0) (T.sort a0) (T.kids a0)) (cond (qB (T.name a0) [110,101,119]) (qa (qd (T.kids a0) 0) λ v2 =>
 cond (qc (ieq (T.kind v2) 2)) (some 10) (K2 (T.kids a0) (List.length (T.kids a0)) 0)) (K2 (T.kids a0) (List.length (T.kids a0)) 0)))))))
def qcB (m:Nat) (q_theory_check:Z11) (K1:Z15) (K2:Z16) (x0:List (T)) (x1 x2 x3:Int) (x4:List UInt8) (x5:Int) (x6:List (T)):Z10 :=
 cond (ilt x2 x1) (qa (qd x0 x2) λ v1=>cond (ieq (T.kind v1) 3) (some 10) (cond (qc (ieq (T.sort v1) 1)) (some 10) (K1 x0 x1 (iw .i64 (qj x2 1)) x3 x4 x5 x6))) (K2 x6 (List.length x6) 0)
def qcv (m:Nat) (q_theory_check:Z11) (K1:Z15) (K2:Z16) (x0:List (T)) (x1 x2:Int):Z10 :=
 cond (ilt x2 x1) (qa (qd x0 x2) λ v1=>qa (q_theory_check (re v1)) λ v2=>cond (qc (ieq v2 0)) (some v2) (K2 x0 x1 (iw .i64 (qj x2 1)))) (some 0)
def qN (m:Nat) (q_theory_check:Z11):=qM ((λ _ _ _ _ _ _ _=>none,λ _ _ _=>none)) λ ih=>(qcB m q_theory_check ih.1 ih.2,qcv m q_theory_check ih.1 ih.2)
def qz:Nat→Z11:=qf (λ _=>none) λ m q_theory_check=>qcF m q_theory_check (qN m q_theory_check m).1 (qN m q_theory_check m).2
def qf3 (m:Nat) (a0:T):Z10 :=
 qa (zu m (re a0)) λ v1=>cond (qc (ieq v1 0)) (some v1) (qa (qz m (re a0)) λ v2=>some v2)
def qcQ:Nat→Z11:=qf (λ _=>none) λ m _=>qf3 m
def qjf (m:Nat) (a0 a1:Int):Z10 :=
 cond (ilt a0 a1) (some (-1)) (cond (ilt a1 a0) (some 1) (some 0))
def qby:Nat→(Int→Int→Z10):=qf (λ _ _=>none) λ m _=>qjf m
def qft (m:Nat) (q_term_Size:Z11) (K1:Z17) (a0:T):Z10 :=
 K1 1 (T.kids a0) (List.length (T.kids a0)) 0
def qfc (m:Nat) (q_term_Size:Z11) (K1:Z17) (x0:Int) (x1:List (T)) (x2 x3:Int):Z10 :=
 cond (ilt x3 x2) (qa (qd x1 x3) λ v1=>qa (q_term_Size (re v1)) λ v2=>K1 (iw .i64 (qj x0 v2)) x1 x2 (iw .i64 (qj x3 1))) (some x0)
def qaU (m:Nat) (q_term_Size:Z11):=qM (λ _ _ _ _=>none) λ ih=>qfc m q_term_Size ih
def je:Nat→Z11:=qf (λ _=>none) λ m q_term_Size=>qft m q_term_Size (qaU m q_term_Size m)
def qcq (m:Nat) (q_term_Compare:Z18) (K1:Z19) (a0 a1:T):Z10 :=
 qa (je m (re a0)) λ v1=>qa (je m (re a1)) λ v2=>qa (qby m v1 v2) λ v3=>let j1:Z10:=(qa (qby m (List.length (T.kids a0)) (List.length (T.kids a1))) λ v7 =>
 K1 v7 0 (T.kind a0) (T.name a0) (T.sort a0) (T.kids a0) (T.kind a1) (T.name a1) (T.sort a1) (T.kids a1));let j2:Z10:=(qa (qby m (T.sort a0) (T.sort a1)) λ v6=>cond (ieq v6 0) j1 (K1 v6 0 (T.kind a0)
 (T.name a0) (T.sort a0) (T.kids a0) (T.kind a1) (T.name a1) (T.sort a1) (T.kids a1)));let j3:Z10:=(qa (strings_Compare 0 (T.name a0) (T.name a1)) λ v5 =>
 cond (ieq v5 0) j2 (cond (ieq v5 0) j1 (K1 v5 0 (T.kind a0) (T.name a0) (T.sort a0) (T.kids a0) (T.kind a1) (T.name a1) (T.sort a1) (T.kids a1))));cond (ieq v3 0) (qa (qby m (T.kind a0) (T.kind a1)) λ v4 =>
 cond (ieq v4 0) j3 (cond (ieq v4 0) j2 (cond (ieq v4 0) j1 (K1 v4 0 (T.kind a0) (T.name a0) (T.sort a0) (T.kids a0) (T.kind a1) (T.name a1) (T.sort a1) (T.kids a1)))))
 (cond (ieq v3 0) j3 (cond (ieq v3 0) j2 (cond (ieq v3 0) j1 (K1 v3 0 (T.kind a0) (T.name a0) (T.sort a0) (T.kids a0) (T.kind a1) (T.name a1) (T.sort a1) (T.kids a1)))))
def qaF (m:Nat) (q_term_Compare:Z18) (K1:Z19) (x0 x1 x2:Int) (x3:List UInt8) (x4:Int) (x5:List (T)) (x6:Int) (x7:List UInt8) (x8:Int) (x9:List (T)):Z10 :=
 cond (ieq x0 0) (cond (ilt x1 (List.length x5)) (qa (qd x5 x1) λ v1=>qa (qd x9 x1) λ v2=>qa (q_term_Compare (re v1) (re v2)) λ v3=>K1 v3 (iw .i64 (qj x1 1)) x2 x3 x4 x5 x6 x7 x8 x9) (some x0))
 (some x0)
def jo (m:Nat) (q_term_Compare:Z18):=qM (λ _ _ _ _ _ _ _ _ _ _=>none) λ ih=>qaF m q_term_Compare ih
def qs:Nat→Z18:=qf (λ _ _=>none) λ m q_term_Compare=>qcq m q_term_Compare (jo m q_term_Compare m)
def qf8 (m:Nat) (a0 a1:T):Z1 :=
 qa (qs m (re a0) (re a1)) λ v1=>some (ieq v1 0)
def j9:Nat→Z20:=qf (λ _ _=>none) λ m _=>qf8 m
def qiM (m:Nat) (a0:T) (a1:Y8):Z1 :=
 cond (ieq (T.kind a0) 3) (some (qB (T.name a0) a1)) (some false)
def yv:Nat→(T→Y8→Z1):=qf (λ _ _=>none) λ m _=>qiM m
def qdZ (m:Nat) (a0:T):Z21 :=
 qa (qd (T.kids a0) 0) λ v1=>let j1:Z21:=(some (re a0));let j2:Z21:=(qa (qd (T.kids v1) 0) λ v4=>some (re v4));let j3:Z21:=(cond (qB (T.name a0) [114,101,97,100])
 (qa (yv m (re v1) [115,105,103,110]) λ v24=>cond v24 j2 j1) j1);let j4:Z21:=(qa (yv m (re v1) [112,97,105,114]) λ v5=>cond v5 (qa (qd (T.kids v1) 1) λ v6 =>
 some (re v6)) j1);let j5:Z21:=(qa (yv m (re v1) [112,97,105,114]) λ v3=>cond v3 j2 j1);cond (ilt 1 (List.length (T.kids a0))) (qa (qd (T.kids a0) 1) λ v2 =>
 cond (qB (T.name a0) [102,115,116]) j5 (cond (qB (T.name a0) [115,110,100]) j4 (cond (qB (T.name a0) [100,101,99]) (qa (yv m (re v1) [101,110,99]) λ v7 =>
 cond v7 (qa (qd (T.kids v1) 1) λ v8=>qa (j9 m (re v8) (re v2)) λ v9=>cond v9 j2 j1) j1) (cond (qB (T.name a0) [97,100,101,99]) (qa (yv m (re v1) [97,101,110,99]) λ v11 =>
 cond v11 (qa (qd (T.kids v1) 1) λ v12=>qa (yv m (re v12) [112,107]) λ v13=>cond v13 (qa (qd (T.kids v1) 1) λ v14=>qa (qd (T.kids v14) 0) λ v15=>qa (j9 m (re v15)
 (re v2)) λ v16=>cond v16 j2 j1) j1) j1) (cond (qB (T.name a0) [111,112,101,110]) (qa (yv m (re v1) [115,105,103,110]) λ v18=>cond v18 (qa (yv m (re v2) [112,107]) λ v19 =>
 cond v19 (qa (qd (T.kids v1) 1) λ v20=>qa (qd (T.kids v2) 0) λ v21=>qa (j9 m (re v20) (re v21)) λ v22=>cond v22 j2 j1) j1) j1) j3)))))
 (cond (qB (T.name a0) [102,115,116]) j5 (cond (qB (T.name a0) [115,110,100]) j4 (cond (qB (T.name a0) [100,101,99]) (qa (yv m (re v1) [101,110,99]) λ v30 =>
 cond v30 (qa (qd (T.kids v1) 1) λ v31=>qa (j9 m (re v31) (T.mk 0 [] 0 [])) λ v32=>cond v32 j2 j1) j1) (cond (qB (T.name a0) [97,100,101,99])
 (qa (yv m (re v1) [97,101,110,99]) λ v34=>cond v34 (qa (qd (T.kids v1) 1) λ v35=>qa (yv m (re v35) [112,107]) λ v36=>cond v36 (qa (qd (T.kids v1) 1) λ v37 =>
 qa (qd (T.kids v37) 0) λ v38=>qa (j9 m (re v38) (T.mk 0 [] 0 [])) λ v39=>cond v39 j2 j1) j1) j1) (cond (qB (T.name a0) [111,112,101,110])
 (qa (yv m (re v1) [115,105,103,110]) λ v41=>cond v41 (qa (yv m (T.mk 0 [] 0 []) [112,107]) λ v42=>cond v42 (qa (qd (T.kids v1) 1) λ v43=>none) j1) j1) j3)))))
def JR:Nat→Z22:=qf (λ _=>none) λ m _=>qdZ m
def yC (m:Nat) (K1:Z24) (K2:Z25) (a0:List TL):Z23 :=
 K1 a0 0 a0 (List.length a0) 0
def yx (m:Nat) (K1:Z24) (K2:Z25) (x0:List (TL)) (x1:Int) (x2:List (TL)) (x3 x4:Int):Z23 :=
 cond (ilt x4 x3) (qa (qd x2 x4) λ v1=>cond (ilt (iw .i64 (qj x1 (List.length v1))) 0) none (K1 x0 (iw .i64 (qj x1 (List.length v1))) x2 x3 (iw .i64 (qj x4 1))))
 (qa (yt 0 x1) λ v2=>K2 x0 (List.length x0) 0 v2.2.1)
def yy (m:Nat) (K1:Z24) (K2:Z25) (x0:List (TL)) (x1 x2:Int) (x3:List (T)):Z23 :=
 cond (ilt x2 x1) (qa (qd x0 x2) λ v1=>cond (yl (List.length x3+List.length v1) 56) (K2 x0 x1 (iw .i64 (qj x2 1)) (x3++v1)) none) (some x3)
def ql (m:Nat):=qM ((λ _ _ _ _ _=>none,λ _ _ _ _=>none)) λ ih=>(yx m ih.1 ih.2,yy m ih.1 ih.2)
def zc:Nat→((List TL)→Z23):=qf (λ _=>none) λ m _=>yC m (ql m m).1 (ql m m).2
def qfl (m:Nat) (K1:Z16) (a0 a1:TL):Z10 :=
 cond (ilt 200 (List.length a0)) (some 3) (qa (zc m [a0,a1]) λ v1=>K1 v1 (List.length v1) 0)
def qfK (m:Nat) (K1:Z16) (x0:List (T)) (x1 x2:Int):Z10 :=
 cond (ilt x2 x1) (qa (qd x0 x2) λ v1=>qa (zu m (re v1)) λ v2=>cond (qc (ieq v2 0)) (some v2) (K1 x0 x1 (iw .i64 (qj x2 1)))) (some 0)
def qaO (m:Nat):=qM (λ _ _ _=>none) λ ih=>qfK m ih
def qgX:Nat→(TL→TL→Z10):=qf (λ _ _=>none) λ m _=>qfl m (qaO m m)
def qgJ (m:Nat) (K1:Z26) (a0 a1:TL):Z23 :=
 K1 a0 a1 []
def qgM (m:Nat) (K1:Z26) (x0 x1 x2:List (T)):Z23 :=
 let j1:Z23:=(cond (yl (List.length x2+List.length x0) 56) (cond (yl (List.length (x2++x0)+List.length x1) 56) (some ((x2++x0)++x1)) none) none);cond (ilt 0 (List.length x0))
 (cond (ilt 0 (List.length x1)) (qa (qd x0 0) λ v1=>qa (qd x1 0) λ v2=>qa (qs m (re v1) (re v2)) λ v3=>cond (ilt v3 0) (qa (qd x0 0) λ v4=>cond (yl (List.length x2+1) 56)
 (cond (inb (List.length x0) (List.length x0)) (cond (inb 1 (Int.toNat (List.length x0))) (K1 (yW x0 1 (List.length x0)) x1 (x2++[re v4])) none) none) none) (cond (ilt 0 v3) (qa (qd x1 0) λ v5 =>
 cond (yl (List.length x2+1) 56) (cond (inb (List.length x1) (List.length x1)) (cond (inb 1 (Int.toNat (List.length x1))) (K1 x0 (yW x1 1 (List.length x1)) (x2++[re v5])) none) none) none)
 (cond (inb (List.length x0) (List.length x0)) (cond (inb 1 (Int.toNat (List.length x0))) (cond (inb (List.length x1) (List.length x1)) (cond (inb 1 (Int.toNat (List.length x1))) (K1 (yW x0 1 (List.length x0))
 (yW x1 1 (List.length x1)) x2) none) none) none) none))) j1) j1
def qbS (m:Nat):=qM (λ _ _ _=>none) λ ih=>qgM m ih
def qgh:Nat→(TL→TL→Z23):=qf (λ _ _=>none) λ m _=>qgJ m (qbS m m)
def qcA (m:Nat) (q_xor_summands:Z27) (K1:Z28) (a0:T):Z23 :=
 let j1:Z23:=(cond (ieq (T.kind a0) 3) (cond (qB (T.name a0) [120,111,114]) (K1 [] (T.kids a0) (List.length (T.kids a0)) 0) (some [re a0])) (some [re a0]));cond (ieq (T.kind a0) 3)
 (cond (qB (T.name a0) [122,101,114,111]) (cond (ieq (List.length (T.kids a0)) 0) (some []) j1) j1) j1
def qcw (m:Nat) (q_xor_summands:Z27) (K1:Z28) (x0 x1:List (T)) (x2 x3:Int):Z23 :=
 cond (ilt x3 x2) (qa (qd x1 x3) λ v1=>qa (q_xor_summands (re v1)) λ v2=>qa (qgh m x0 v2) λ v3=>K1 v3 x1 x2 (iw .i64 (qj x3 1))) (some x0)
def jR (m:Nat) (q_xor_summands:Z27):=qM (λ _ _ _ _=>none) λ ih=>qcw m q_xor_summands ih
def zO:Nat→Z27:=qf (λ _=>none) λ m q_xor_summands=>qcA m q_xor_summands (jR m q_xor_summands m)
def qej (m:Nat) (q_term_clone:Z22) (K1:Z29) (a0:T):Z21 :=
 K1 (T.kids a0) (List.length (T.kids a0)) 0 (T.kind a0) (T.name a0) (T.sort a0) 0 [] 0 [] []
def qeu (m:Nat) (q_term_clone:Z22) (K1:Z29) (x0:List (T)) (x1 x2 x3:Int) (x4:List UInt8) (x5 x6:Int) (x7:List UInt8) (x8:Int) (x9 x10:List (T)):Z21 :=
 cond (ilt x2 x1) (qa (qd x0 x2) λ v1=>qa (q_term_clone (re v1)) λ v2=>cond (yl (List.length x9+1) 56) (K1 x0 x1 (iw .i64 (qj x2 1)) x3 x4 x5 x6 x7 x8 (x9++[re v2]) x10) none)
 (some (T.mk x3 x4 x5 x9))
def JX (m:Nat) (q_term_clone:Z22):=qM (λ _ _ _ _ _ _ _ _ _ _ _=>none) λ ih=>qeu m q_term_clone ih
def yb:Nat→Z22:=qf (λ _=>none) λ m q_term_clone=>qej m q_term_clone (JX m q_term_clone m)
def qcD (m:Nat) (K1:Z31) (a0:T) (a1:List Int) (a2:T):Z30 :=
 qa (yb m (re a0)) λ v1=>K1 a1 (List.length a1) 0 (T.kind a2) (T.name a2) (T.sort a2) (T.kids a2) 0 [] 0 (T.kind v1) (T.name v1) (T.sort v1) (T.kids v1) []
def qf5 (m:Nat) (K1:Z31) (x0:List (Int)) (x1 x2 x3:Int) (x4:List UInt8) (x5:Int) (x6:List (T)) (x7:Int) (x8:List UInt8) (x9 x10:Int) (x11:List UInt8) (x12:Int) (x13 x14:List (T)):Z30 :=
 cond (ilt x2 x1) (qa (qd x0 x2) λ v1=>cond (ilt v1 0) (some (T.mk 0 [] 0 [],7)) (cond (ile (List.length x13) v1) (some (T.mk 0 [] 0 [],7)) (qa (qd x13 v1) λ v2=>none)))
 (qa (yb m (T.mk x3 x4 x5 x6)) λ v3=>some (re v3,0))
def JS (m:Nat):=qM (λ _ _ _ _ _ _ _ _ _ _ _ _ _ _ _=>none) λ ih=>qf5 m ih
def qcX:Nat→(T→(List Int)→T→Z30):=qf (λ _ _ _=>none) λ m _=>qcD m (JS m m)
def qh3 (m:Nat) (q_xor_own:Z32) (K1:Z33) (a0:TL):Z23 :=
 cond (qBE (List.length a0) 56) (K1 a0 (List.length a0) 0 (List.replicate (Int.toNat (List.length a0)) (T.mk 0 [] 0 []):List (T))) none
def qig (m:Nat) (q_xor_own:Z32) (K1:Z33) (x0:List (T)) (x1 x2:Int) (x3:List (T)):Z23 :=
 cond (ilt x2 x1) (qa (qd x0 x2) λ v1=>qa (qcX m (re v1) [] (re v1)) λ v2=>qa (qd x3 x2) λ v3=>qa (q_xor_own (T.kids v1)) λ v4=>qa (qd (jK x3 x2 (re v2.1)) x2) λ v5 =>
 cond (ieq (List.length (T.kids v1)) 0) (qa (qd (jK (jK x3 x2 (re v2.1)) x2 (T.mk (T.kind v5) (T.name v5) (T.sort v5) v4)) x2) λ v6=>K1 x0 x1 (iw .i64 (qj x2 1))
 (jK (jK (jK x3 x2 (re v2.1)) x2 (T.mk (T.kind v5) (T.name v5) (T.sort v5) v4)) x2 (T.mk (T.kind v6) (T.name v6) (T.sort v6) []))) (K1 x0 x1 (iw .i64 (qj x2 1)) (jK (jK x3 x2 (re v2.1)) x2 (T.mk (T.kind v5)
 (T.name v5) (T.sort v5) v4)))) (some x3)
def qc4 (m:Nat) (q_xor_own:Z32):=qM (λ _ _ _ _=>none) λ ih=>qig m q_xor_own ih
def QF:Nat→Z32:=qf (λ _=>none) λ m q_xor_own=>qh3 m q_xor_own (qc4 m q_xor_own m)
def qib (m:Nat) (K1:Z34) (a0:TL):Z30 :=
 qa (qgX m a0 []) λ v1=>cond (qc (ieq v1 0)) (some (T.mk 0 [] 0 [],v1)) (K1 [] a0 (List.length a0) 0 0 [] 0 [])
def qhR (m:Nat) (K1:Z34) (x0 x1:List (T)) (x2 x3 x4:Int) (x5:List UInt8) (x6:Int) (x7:List (T)):Z30 :=
 cond (ilt x3 x2) (qa (qd x1 x3) λ v1=>qa (zO m (re v1)) λ v2=>qa (qgh m x0 v2) λ v3=>K1 v3 x1 x2 (iw .i64 (qj x3 1)) x4 x5 x6 x7) (qa (QF m x0) λ v4=>let j1:Z30 :=
 (some (T.mk 0 [] 0 [],3));cond (ieq (List.length v4) 0) (qa (zu m (T.mk 3 [122,101,114,111] 0 [])) λ v5=>cond (qc (ieq v5 0)) j1 (some (T.mk 3 [122,101,114,111] 0 [],0)))
 (cond (ieq (List.length v4) 1) (qa (qd v4 0) λ v6=>qa (zu m (re v6)) λ v7=>cond (qc (ieq v7 0)) j1 (some (re v6,0))) (qa (zu m (T.mk 3 [120,111,114] 0 v4)) λ v8 =>
 cond (qc (ieq v8 0)) j1 (some (T.mk 3 [120,111,114] 0 v4,0)))))
def qc0 (m:Nat):=qM (λ _ _ _ _ _ _ _ _=>none) λ ih=>qhR m ih
def qkS:Nat→(TL→Z30):=qf (λ _=>none) λ m _=>qib m (qc0 m m)
def qcP (m:Nat) (a0:T):Z1 :=
 cond (ieq (T.kind a0) 3) (cond (qB (T.name a0) [109,117,108]) (some true) (cond (qB (T.name a0) [105,110,118]) (some true) (some (qB (T.name a0) [111,110,101])))) (some false)
def Jn:Nat→Z35:=qf (λ _=>none) λ m _=>qcP m
def qa2 (m:Nat) (q_exponent_clone:Z22) (K1:Z36) (a0:T):Z21 :=
 qa (zC 0 (T.kids a0)) λ v1=>K1 (List.length v1.2.1) 0 (T.kind a0) (T.name a0) (T.sort a0) 0 [] 0 v1.2.1 []
def qa0 (m:Nat) (q_exponent_clone:Z22) (K1:Z36) (x0 x1 x2:Int) (x3:List UInt8) (x4 x5:Int) (x6:List UInt8) (x7:Int) (x8 x9:List (T)):Z21 :=
 cond (ilt x1 x0) (qa (qd x8 x1) λ v1=>qa (q_exponent_clone (re v1)) λ v2=>qa (qd x8 x1) λ v3=>K1 x0 (iw .i64 (qj x1 1)) x2 x3 x4 x5 x6 x7 (jK x8 x1 (re v2)) x9) (some (T.mk x2 x3 x4 x8))
def jJ (m:Nat) (q_exponent_clone:Z22):=qM (λ _ _ _ _ _ _ _ _ _ _=>none) λ ih=>qa0 m q_exponent_clone ih
def za:Nat→Z22:=qf (λ _=>none) λ m q_exponent_clone=>qa2 m q_exponent_clone (jJ m q_exponent_clone m)
def qbG (m:Nat) (a0:T × Int) (a1:T):Z10 :=
 qa (qs m (re a0.1) (re a1)) λ v1=>some v1
def Qp:Nat→((T × Int)→T→Z10):=qf (λ _ _=>none) λ m _=>qbG m
def qD (m:Nat) (K1:Z39) (a0:List (T × Int)) (a1:T):Z37 :=
 K1 a0 (List.length a0) 0 (List.length a0) (T.kind a1) (T.name a1) (T.sort a1) (T.kids a1)
def qE (m:Nat) (K1:Z39) (x0:List (T × Int)) (x1 x2 x3 x4:Int) (x5:List UInt8) (x6:Int) (x7:List (T)):Z37 :=
 cond (ilt x2 x3) (qa (qd x0 (iw .i64 (qmg .u64 (iw .u64 (iw .i64 (qj x2 x3))) 1))) λ v1=>qa (Qp m (re v1.1,v1.2) (T.mk x4 x5 x6 x7)) λ v2=>cond (ilt v2 0)
 (K1 x0 x1 (iw .i64 (qj (iw .i64 (qmg .u64 (iw .u64 (iw .i64 (qj x2 x3))) 1)) 1)) x3 x4 x5 x6 x7) (K1 x0 x1 x2 (iw .i64 (qmg .u64 (iw .u64 (iw .i64 (qj x2 x3))) 1)) x4 x5 x6 x7)) (cond (ilt x2 x1)
 (qa (qd x0 x2) λ v3=>qa (Qp m (re v3.1,v3.2) (T.mk x4 x5 x6 x7)) λ v4=>some (x2,ieq v4 0)) (some (x2,false)))
def qn (m:Nat):=qM (λ _ _ _ _ _ _ _ _=>none) λ ih=>qE m ih
def qx:Nat→(Z38→T→Z37):=qf (λ _ _=>none) λ m _=>qD m (qn m m)
def qc2 (m:Nat) (a0:List (T × Int)) (a1:T × Int):Z40 :=
 qa (qx m a0 (re a1.1)) λ v1=>cond (qc v1.2) (qa (za m (re a1.1)) λ v2 =>
 qa (zl 0 a0 v1.1 [(re v2,a1.2)]) λ v3=>some ((()),(v3.2.1,()))) (qa (qd a0 v1.1) λ v4=>qa (qd a0 v1.1) λ v5 =>
 qa (qd (jK a0 v1.1 (re v5.1,iw .i64 (qj v4.2 a1.2))) v1.1) λ v6=>cond (ieq v6.2 0)
 (qa (zk 0 (jK a0 v1.1 (re v5.1,iw .i64 (qj v4.2 a1.2))) v1.1 (iw .i64 (qj v1.1 1))) λ v7=>some ((()),(v7.2.1,())))
 (some ((()),(jK a0 v1.1 (re v5.1,iw .i64 (qj v4.2 a1.2)),()))))
def Ji:Nat→(Z38→(T × Int)→Z40):=qf (λ _ _=>none) λ m _=>qc2 m
def qab (m:Nat) (q_exponent_collect:Z42) (K1:Z43) (a0:List (T × Int)) (a1:T) (a2:Int):Z41 :=
 qa (Jn m (re a1)) λ v1=>cond (qc v1) (qa (Ji m a0 (re a1,a2)) λ v2=>some ((()),(v2.2.1,true,()))) (let j1:Z41:=(some ((()),([],false,())));let j2:Z41 :=
 (let j3:Z41:=(let j4:Z41:=(cond (qB (T.name a1) [105,110,118]) (K1 (iw .i64 (jM 0 a2)) (T.kids a1) (List.length (T.kids a1)) 0 a0) (K1 a2 (T.kids a1) (List.length (T.kids a1)) 0 a0));
 cond (qB (T.name a1) [109,117,108]) (cond (ilt (List.length (T.kids a1)) 2) j1 j4) j4);cond (qB (T.name a1) [105,110,118]) (cond (qc (ieq (List.length (T.kids a1)) 1)) j1 j3) j3);
 cond (qB (T.name a1) [111,110,101]) (cond (qc (ieq (List.length (T.kids a1)) 0)) j1 j2) j2)
def qac (m:Nat) (q_exponent_collect:Z42) (K1:Z43) (x0:Int) (x1:List (T)) (x2 x3:Int) (x4:List (T × Int)):Z41 :=
 cond (ilt x3 x2) (qa (qd x1 x3) λ v1=>qa (q_exponent_collect x4 (re v1) x0) λ v2=>cond (qc v2.2.2.1) (some ((()),([],false,()))) (K1 x0 x1 x2 (iw .i64 (qj x3 1)) v2.2.1))
 (some ((()),(x4,true,())))
def yQ (m:Nat) (q_exponent_collect:Z42):=qM (λ _ _ _ _ _=>none) λ ih=>qac m q_exponent_collect ih
def qY:Nat→Z42:=qf (λ _ _ _=>none) λ m q_exponent_collect=>qab m q_exponent_collect (yQ m q_exponent_collect m)
def qgq (m:Nat) (a0:T):Z44 :=
 qa (zu m (re a0)) λ v1=>cond (qc (ieq v1 0)) (some ([],v1)) (qa (qY m [] (re a0) 1) λ v2=>cond (qc v2.2.2.1) (some ([],6)) (cond (ilt 200 (List.length v2.2.1)) (some ([],3))
 (some (v2.2.1,0))))
def JP:Nat→Z45:=qf (λ _=>none) λ m _=>qgq m
def qbe (m:Nat) (K1:Z46) (a0:List (T × Int)):Z10 :=
 cond (ilt 200 (List.length a0)) (some 3) (K1 a0 a0 (List.length a0) 0)
def qa1 (m:Nat) (K1:Z46) (x0 x1:List (T × Int)) (x2 x3:Int):Z10 :=
 cond (ilt x3 x2) (qa (qd x1 x3) λ v1=>qa (zu m (re v1.1)) λ v2=>cond (qc (ieq v2 0)) (some v2) (qa (Jn m (re v1.1)) λ v3=>cond v3 (some 1) (cond (ieq v1.2 0) (some 7)
 (cond (ilt v1.2 (-1000)) (some 7) (cond (ilt 1000 v1.2) (some 7) (cond (ilt 0 x3) (qa (qd x0 (iw .i64 (jM x3 1))) λ v4=>qa (qs m (re v4.1) (re v1.1)) λ v5=>cond (ile 0 v5) (some 5)
 (K1 x0 x1 x2 (iw .i64 (qj x3 1)))) (K1 x0 x1 x2 (iw .i64 (qj x3 1))))))))) (some 0)
def jm (m:Nat):=qM (λ _ _ _ _=>none) λ ih=>qa1 m ih
def QM:Nat→Z47:=qf (λ _=>none) λ m _=>qbe m (jm m m)
def qsf (m:Nat) (a0:Y8) (a1:TL):Z21 :=
 some (T.mk 3 a0 0 a1)
def qbi:Nat→Z48:=qf (λ _ _=>none) λ m _=>qsf m
def qbB (m:Nat) (K1:Z49) (K2 K3:Z50) (a0:List (T × Int)):Z30 :=
 qa (QM m a0) λ v1=>cond (qc (ieq v1 0)) (some (T.mk 0 [] 0 [],v1)) (K1 a0 (List.length a0) 0 0 [] 0 [] [] [])
def qbJ (m:Nat) (K1:Z49) (K2 K3:Z50) (x0:List (T × Int)) (x1 x2 x3:Int) (x4:List UInt8) (x5:Int) (x6 x7 x8:List (T)):Z30 :=
 let j1:Z30:=(some (T.mk 0 [] 0 [],3));cond (ilt x2 x1) (qa (qd x0 x2) λ v1=>cond (ilt 8 v1.2) j1 (cond (ilt v1.2 (-8)) j1 (K2 x0 x1 x2 v1.2 0 x3 x4 x5 (T.kind v1.1) (T.name v1.1) (T.sort v1.1)
 (T.kids v1.1) v1.2 x6 x7 x8))) (qa (zc m [x7,x8]) λ v2=>cond (ilt 8 (List.length v2)) j1 (qa (qbi m [109,117,108] v2) λ v3=>cond (ieq (List.length v2) 0)
 (qa (qbi m [111,110,101] []) λ v4=>qa (zu m (re v4)) λ v5=>cond (qc (ieq v5 0)) (some (T.mk 0 [] 0 [],v5)) (some (re v4,0))) (cond (ieq (List.length v2) 1)
 (qa (qd v2 0) λ v6=>qa (zu m (re v6)) λ v7=>cond (qc (ieq v7 0)) (some (T.mk 0 [] 0 [],v7)) (some (re v6,0))) (qa (zu m (re v3)) λ v8=>cond (qc (ieq v8 0))
 (some (T.mk 0 [] 0 [],v8)) (some (re v3,0))))))
def qbE (m:Nat) (K1:Z49) (K2 K3:Z50) (x0:List (T × Int)) (x1 x2 x3 x4 x5:Int) (x6:List UInt8) (x7 x8:Int) (x9:List UInt8) (x10:Int) (x11:List (T)) (x12:Int) (x13 x14 x15:List (T)):Z30 :=
 cond (ilt x4 x3) (qa (za m (T.mk x8 x9 x10 x11)) λ v1=>cond (yl (List.length x14+1) 56) (K2 x0 x1 x2 x3 (iw .i64 (qj x4 1)) x5 x6 x7 x8 x9 x10 x11 x12 x13 (x14++[re v1]) x15) none)
 (K3 x0 x1 x2 (iw .i64 (jM 0 x12)) 0 x5 x6 x7 x8 x9 x10 x11 x12 x13 x14 x15)
def qbR (m:Nat) (K1:Z49) (K2 K3:Z50) (x0:List (T × Int)) (x1 x2 x3 x4 x5:Int) (x6:List UInt8) (x7 x8:Int) (x9:List UInt8) (x10:Int) (x11:List (T)) (x12:Int) (x13 x14 x15:List (T)):Z30 :=
 cond (ilt x4 x3) (qa (za m (T.mk x8 x9 x10 x11)) λ v1=>qa (qbi m [105,110,118] [re v1]) λ v2=>cond (yl (List.length x15+1) 56)
 (K3 x0 x1 x2 x3 (iw .i64 (qj x4 1)) x5 x6 x7 x8 x9 x10 x11 x12 x13 x14 (x15++[re v2])) none) (K1 x0 x1 (iw .i64 (qj x2 1)) x5 x6 x7 x13 x14 x15)
def qt (m:Nat):=qM ((λ _ _ _ _ _ _ _ _ _=>none,λ _ _ _ _ _ _ _ _ _ _ _ _ _ _ _ _=>none,λ _ _ _ _ _ _ _ _ _ _ _ _ _ _ _ _=>none)) λ ih=>(qbJ m ih.1 ih.2.1 ih.2.2,qbE m ih.1 ih.2.1 ih.2.2,qbR m ih.1 ih.2.1 ih.2.2)
def jB:Nat→Z51:=qf (λ _=>none) λ m _=>qbB m (qt m m).1 (qt m m).2.1 (qt m m).2.2
def qaH (m:Nat) (K1:Z52) (a0:List (T × Int)):Z40 :=
 K1 a0 (List.length a0) 0 []
def qaB (m:Nat) (K1:Z52) (x0:List (T × Int)) (x1 x2:Int) (x3:List (T × Int)):Z40 :=
 cond (ilt x2 x1) (qa (qd x0 x2) λ v1=>qa (za m (re v1.1)) λ v2=>cond (yl (List.length x3+1) 64) (K1 x0 x1 (iw .i64 (qj x2 1)) (x3++[(re v2,v1.2)])) none) (some ((()),(x3,())))
def ju (m:Nat):=qM (λ _ _ _ _=>none) λ ih=>qaB m ih
def qar:Nat→(Z38→Z40):=qf (λ _=>none) λ m _=>qaH m (ju m m)
def qb0 (m:Nat) (a0:T × Int):Z1 :=
 cond (ilt a0.2 (-1000)) (some true) (some (ilt 1000 a0.2))
def Jx:Nat→((T × Int)→Z1):=qf (λ _=>none) λ m _=>qb0 m
def zm (m:Nat) (K1:Z53) (a0:List (T × Int)):Z10 :=
 K1 a0 (List.length a0) 0
def qP (m:Nat) (K1:Z53) (x0:List (T × Int)) (x1 x2:Int):Z10 :=
 cond (ilt x2 x1) (qa (qd x0 x2) λ v1=>qa (Jx m (re v1.1,v1.2)) λ v2=>cond v2 (some x2) (K1 x0 x1 (iw .i64 (qj x2 1)))) (some (-1))
def qw (m:Nat):=qM (λ _ _ _=>none) λ ih=>qP m ih
def qW:Nat→Z47:=qf (λ _=>none) λ m _=>zm m (qw m m)
def zL (m:Nat) (a0:List (T × Int)):Z1 :=
 qa (qW m a0) λ v1=>some (ile 0 v1)
def qO:Nat→(Z38→Z1):=qf (λ _=>none) λ m _=>zL m
def qcS (m:Nat) (a0:List (T × Int)):Z44 :=
 qa (qO m a0) λ v1=>cond v1 (some ([],7)) (cond (ilt 200 (List.length a0)) (some ([],3)) (some (a0,0)))
def qaG:Nat→(Z38→Z44):=qf (λ _=>none) λ m _=>qcS m
def qcu (m:Nat) (K1:Z54) (a0 a1:List (T × Int)):Z44 :=
 qa (QM m a0) λ v1=>cond (qc (ieq v1 0)) (some ([],v1)) (qa (QM m a1) λ v2=>cond (qc (ieq v2 0)) (some ([],v2)) (qa (qar m a0) λ v3 =>
 K1 a1 (List.length a1) 0 v3.2.1))
def qcH (m:Nat) (K1:Z54) (x0:List (T × Int)) (x1 x2:Int) (x3:List (T × Int)):Z44 :=
 cond (ilt x2 x1) (qa (qd x0 x2) λ v1=>qa (Ji m x3 (re v1.1,v1.2)) λ v2=>K1 x0 x1 (iw .i64 (qj x2 1)) v2.2.1) (qa (qaG m x3) λ v3=>some (v3.1,v3.2))
def QP (m:Nat):=qM (λ _ _ _ _=>none) λ ih=>qcH m ih
def qcT:Nat→Z55:=qf (λ _ _=>none) λ m _=>qcu m (QP m m)
def qwd (m:Nat) (a0:Y8) (a1:TL):Z21 :=
 some (T.mk 3 a0 0 a1)
def qdL:Nat→Z48:=qf (λ _ _=>none) λ m _=>qwd m
def qf2 (m:Nat) (a0 a1:T):Z30 :=
 qa (JP m (re a1)) λ v1=>cond (qc (ieq v1.2 0)) (some (T.mk 0 [] 0 [],v1.2)) (qa (yv m (re a0) [101,120,112]) λ v2=>cond v2 (qa (qd (T.kids a0) 1) λ v3 =>
 qa (JP m (re v3)) λ v4=>cond (qc (ieq v4.2 0)) (some (T.mk 0 [] 0 [],v4.2)) (qa (qcT m v4.1 v1.1) λ v5=>cond (qc (ieq v5.2 0)) (some (T.mk 0 [] 0 [],v5.2))
 (qa (qd (T.kids a0) 0) λ v6=>cond (ieq (List.length v5.1) 0) (some (re v6,0)) (qa (jB m v5.1) λ v7=>cond (qc (ieq v7.2 0)) (some (T.mk 0 [] 0 [],v7.2))
 (qa (qdL m [101,120,112] [re v6,re v7.1]) λ v8=>some (re v8,0)))))) (cond (ieq (List.length v1.1) 0) (some (re a0,0)) (qa (jB m v1.1) λ v9=>cond (qc (ieq v9.2 0))
 (some (T.mk 0 [] 0 [],v9.2)) (qa (qdL m [101,120,112] [re a0,re v9.1]) λ v10=>some (re v10,0)))))
def qcK:Nat→Z56:=qf (λ _ _=>none) λ m _=>qf2 m
def qbH (m:Nat) (q_theory_normal:Z57) (K1:Z58) (a0:T):Z30 :=
 cond (qc (ieq (T.kind a0) 3)) (some (re a0,0)) (K1 (T.kids a0) (List.length (T.kids a0)) 0 (T.kind a0) (T.name a0) (T.sort a0) (T.kids a0) 0 [] 0 3 (T.name a0) 0 [] [])
def qbC (m:Nat) (q_theory_normal:Z57) (K1:Z58) (x0:List (T)) (x1 x2 x3:Int) (x4:List UInt8) (x5:Int) (x6:List (T)) (x7:Int) (x8:List UInt8) (x9 x10:Int) (x11:List UInt8) (x12:Int) (x13 x14:List (T)):Z30 :=
 cond (ilt x2 x1) (qa (qd x0 x2) λ v1=>qa (q_theory_normal (re v1)) λ v2=>cond (qc (ieq v2.2 0)) (some (T.mk 0 [] 0 [],v2.2)) (cond (yl (List.length x14+1) 56)
 (K1 x0 x1 (iw .i64 (qj x2 1)) x3 x4 x5 x6 x7 x8 x9 x10 x11 x12 x13 (x14++[re v2.1])) none)) (let j1:Z30:=(qa (JR m (T.mk x10 x11 x12 x14)) λ v3=>some (re v3,0));
 cond (qB x4 [102,115,116]) j1 (cond (qB x4 [115,110,100]) j1 (cond (qB x4 [100,101,99]) j1 (cond (qB x4 [97,100,101,99]) j1 (cond (qB x4 [111,112,101,110]) j1 (cond (qB x4 [114,101,97,100]) j1 (cond (qB x4 [120,111,114])
 (qa (qkS m x14) λ v9=>some (re v9.1,v9.2)) (let j2:Z30:=(qa (JP m (T.mk x10 x11 x12 x14)) λ v10=>cond (qc (ieq v10.2 0)) (some (T.mk 0 [] 0 [],v10.2))
 (qa (jB m v10.1) λ v11=>some (re v11.1,v11.2)));cond (qB x4 [109,117,108]) j2 (cond (qB x4 [105,110,118]) j2 (cond (qB x4 [111,110,101]) j2 (cond (qB x4 [101,120,112])
 (qa (qd x14 0) λ v16=>qa (qd x14 1) λ v17=>qa (qcK m (re v16) (re v17)) λ v18=>some (re v18.1,v18.2)) (some (T.mk x10 x11 x12 x14,0)))))))))))))
def Qb (m:Nat) (q_theory_normal:Z57):=qM (λ _ _ _ _ _ _ _ _ _ _ _ _ _ _ _=>none) λ ih=>qbC m q_theory_normal ih
def zM:Nat→Z57:=qf (λ _=>none) λ m q_theory_normal=>qbH m q_theory_normal (Qb m q_theory_normal m)
def qeN (m:Nat) (a0:T):Z30 :=
 qa (qcQ m (re a0)) λ v1=>cond (qc (ieq v1 0)) (some (T.mk 0 [] 0 [],v1)) (qa (zM m (re a0)) λ v2=>cond (ieq v2.2 0) (qa (zu m (re v2.1)) λ v3=>cond (qc (ieq v3 0))
 (some (T.mk 0 [] 0 [],v3)) (some (re v2.1,0))) (cond (qc (ieq v2.2 0)) (some (T.mk 0 [] 0 [],v2.2)) (some (re v2.1,0))))
def qb6:Nat→Z57:=qf (λ _=>none) λ m _=>qeN m
def qdU (m:Nat) (a0:Y8):Z1 :=
 qa (qal m a0) λ v1=>some (qc (ieq v1.2.2.2 3))
def qbw:Nat→Z5:=qf (λ _=>none) λ m _=>qdU m
def Jl (m:Nat) (q_theory_every_of_94:Z35) (K1:Z59) (a0:T):Z1 :=
 cond (ieq (T.kind a0) 3) (qa (qbw m (T.name a0)) λ v1=>cond (qc v1) (some false) (K1 (T.kids a0) (List.length (T.kids a0)) 0)) (K1 (T.kids a0) (List.length (T.kids a0)) 0)
def Jm (m:Nat) (q_theory_every_of_94:Z35) (K1:Z59) (x0:List (T)) (x1 x2:Int):Z1 :=
 cond (ilt x2 x1) (qa (qd x0 x2) λ v1=>qa (q_theory_every_of_94 (re v1)) λ v2=>cond (qc v2) (some false) (K1 x0 x1 (iw .i64 (qj x2 1)))) (some true)
def yh (m:Nat) (q_theory_every_of_94:Z35):=qM (λ _ _ _=>none) λ ih=>Jm m q_theory_every_of_94 ih
def qI:Nat→Z35:=qf (λ _=>none) λ m q_theory_every_of_94=>Jl m q_theory_every_of_94 (yh m q_theory_every_of_94 m)
def qfG (m:Nat) (a0:T):Z1 :=
 qa (qb6 m (re a0)) λ v1=>cond (ieq v1.2 0) (qa (j9 m (re v1.1) (re a0)) λ v2=>cond v2 (qa (qI m (re a0)) λ v3=>some v3) (some false)) (some false)
def qcY:Nat→Z35:=qf (λ _=>none) λ m _=>qfG m
def qai (m:Nat) (a0:T) (a1:Int) (a2:List (T)):Z60 :=
 cond (ieq (T.kind a0) a1) (cond (yl (List.length a2+1) 56) (qa (qd (a2++[T.mk 0 [] 0 []]) (List.length a2)) λ v1=>some ((a1,jK (a2++[T.mk 0 [] 0 []]) (List.length a2) (re a0),()),(()))) none)
 (some ((a1,a2,()),(())))
def Qo:Nat→Z61:=qf (λ _ _ _=>none) λ m _=>qai m
def JM (m:Nat) (q_term_walk_of_128c:Z61) (K1:Z62) (a0:T) (a1_0:Int) (a1_1:List (T)):Z60 :=
 qa (Qo m (re a0) a1_0 a1_1) λ v1=>K1 (T.kids a0) (List.length (T.kids a0)) 0 v1.1.1 v1.1.2.1
def JH (m:Nat) (q_term_walk_of_128c:Z61) (K1:Z62) (x0:List (T)) (x1 x2 x3:Int) (x4:List (T)):Z60 :=
 cond (ilt x2 x1) (qa (qd x0 x2) λ v1=>qa (q_term_walk_of_128c (re v1) x3 x4) λ v2=>K1 x0 x1 (iw .i64 (qj x2 1)) v2.1.1 v2.1.2.1) (some ((x3,x4,()),(())))
def yX (m:Nat) (q_term_walk_of_128c:Z61):=qM (λ _ _ _ _ _=>none) λ ih=>JH m q_term_walk_of_128c ih
def qZ:Nat→Z61:=qf (λ _ _ _=>none) λ m q_term_walk_of_128c=>JM m q_term_walk_of_128c (yX m q_term_walk_of_128c m)
def qS:Nat→List (T)→Option (List (T)):=qf (λ _=>none) λ m _=>qoF (qs m)
def qdW (m:Nat) (a0 a1:T):Z1 :=
 qa (qs m (re a0) (re a1)) λ v1=>some (ieq v1 0)
def ya:Nat→Z20:=qf (λ _ _=>none) λ m _=>qdW m
def qF:Nat→List (T)→Option (Unit × List (T) × Unit):=qf (λ _=>none) λ m _=>qrQ (ya m)
def qcC (m:Nat) (K1:Z64) (a0:List (T)):Z63 :=
 qa (qS m a0) λ v1=>cond (Nat.beq (List.length v1) (List.length a0)) (qa (qF m v1) λ v2=>K1 (List.length v2.2.1) 0 v2.2.1) none
def qcx (m:Nat) (K1:Z64) (x0 x1:Int) (x2:List (T)):Z63 :=
 cond (ilt x1 x0) (qa (qd x2 x1) λ v1=>qa (yb m (re v1)) λ v2=>qa (qd x2 x1) λ v3=>K1 x0 (iw .i64 (qj x1 1)) (jK x2 x1 (re v2))) (some ((()),(x2,())))
def QT (m:Nat):=qM (λ _ _ _=>none) λ ih=>qcx m ih
def qdi:Nat→(Z8→Z63):=qf (λ _=>none) λ m _=>qcC m (QT m m)
def qgf (m:Nat) (a0:T) (a1:Int):Z23 :=
 qa (qZ m (re a0) a1 []) λ v1=>qa (qdi m v1.1.2.1) λ v2=>some v2.2.1
def qgI:Nat→(T→Int→Z23):=qf (λ _ _=>none) λ m _=>qgf m
def qiR (m:Nat) (a0:T):Z23 :=
 qa (qgI m (re a0) 1) λ v1=>some v1
def qhb:Nat→Z27:=qf (λ _=>none) λ m _=>qiR m
def qeG (m:Nat) (a0:T):Z1 :=
 qa (qcY m (re a0)) λ v1=>cond v1 (qa (qhb m (re a0)) λ v2=>some (ieq (List.length v2) 0)) (some false)
def jE:Nat→Z35:=qf (λ _=>none) λ m _=>qeG m
def qh4 (m:Nat) (K1:Z65) (a0:T) (a1:List Int):Z30 :=
 K1 a1 (List.length a1) 0 (T.kind a0) (T.name a0) (T.sort a0) (T.kids a0) 0 [] 0 []
def qlN (m:Nat) (K1:Z65) (x0:List (Int)) (x1 x2 x3:Int) (x4:List UInt8) (x5:Int) (x6:List (T)) (x7:Int) (x8:List UInt8) (x9:Int) (x10:List (T)):Z30 :=
 cond (ilt x2 x1) (qa (qd x0 x2) λ v1=>cond (ilt v1 0) (some (T.mk 0 [] 0 [],7)) (cond (ile (List.length x6) v1) (some (T.mk 0 [] 0 [],7)) (qa (qd x6 v1) λ v2=>K1 x0 x1 (iw .i64 (qj x2 1))
 (T.kind v2) (T.name v2) (T.sort v2) (T.kids v2) x7 x8 x9 x10))) (qa (yb m (T.mk x3 x4 x5 x6)) λ v3=>some (re v3,0))
def qe3 (m:Nat):=qM (λ _ _ _ _ _ _ _ _ _ _ _=>none) λ ih=>qlN m ih
def qkz:Nat→(T→(List Int)→Z30):=qf (λ _ _=>none) λ m _=>qh4 m (qe3 m m)
def qd3 (m:Nat) (a0:T):Z21 :=
 qa (qkz m (re a0) []) λ v1=>some (re v1.1)
def yE:Nat→Z22:=qf (λ _=>none) λ m _=>qd3 m
def qgD (m:Nat) (a0:T):Z66 :=
 qa (jE m (re a0)) λ v1=>cond (qc v1) (some ((T.mk 0 [] 0 [],(0,([],0))),10)) (qa (yE m (re a0)) λ v2=>some ((re v2,(0,([],4))),0))
def qcd:Nat→Z67:=qf (λ _=>none) λ m _=>qgD m
def qcM (m:Nat) (a0 a1:T):Z21 :=
 qa (yE m (re a0)) λ v1=>qa (yE m (re a1)) λ v2=>some (T.mk 3 [104,97,115,104] 0 [T.mk 3 [112,97,105,114] 0 [re v1,re v2]])
def Jj:Nat→(T→T→Z21):=qf (λ _ _=>none) λ m _=>qcM m
def qs4 (m:Nat) (a0:Y8):Z21 :=
 some (T.mk 2 a0 5 [])
def qeb:Nat→(Y8→Z21):=qf (λ _=>none) λ m _=>qs4 m
def qfX (m:Nat) (a0:T):Z21 :=
 qa (qeb m [99,104,97,105,110]) λ v1=>qa (Jj m (re a0) (re v1)) λ v2=>some (re v2)
def qbj:Nat→Z22:=qf (λ _=>none) λ m _=>qfX m
def qgw (m:Nat) (a0:T):Z21 :=
 qa (qeb m [109,101,115,115,97,103,101]) λ v1=>qa (Jj m (re a0) (re v1)) λ v2=>some (re v2)
def qca:Nat→Z22:=qf (λ _=>none) λ m _=>qgw m
def qdm (m:Nat) (K1:Z68) (a0:T) (a1:Int):Z30 :=
 qa (jE m (re a0)) λ v1=>cond (qc v1) (some (T.mk 0 [] 0 [],10)) (cond (ilt a1 0) (some (T.mk 0 [] 0 [],7)) (cond (ile 1000 a1) (some (T.mk 0 [] 0 [],7)) (qa (yE m (re a0)) λ v2 =>
 K1 a1 0 0 [] 0 (T.kind v2) (T.name v2) (T.sort v2) (T.kids v2) [])))
def qdr (m:Nat) (K1:Z68) (x0 x1 x2:Int) (x3:List UInt8) (x4 x5:Int) (x6:List UInt8) (x7:Int) (x8 x9:List (T)):Z30 :=
 cond (ilt x1 x0) (qa (qbj m (T.mk x5 x6 x7 x8)) λ v1=>qa (zu m (re v1)) λ v2=>cond (qc (ieq v2 0)) (some (T.mk 0 [] 0 [],3)) (K1 x0 (iw .i64 (qj x1 1)) x2 x3 x4 (T.kind v1)
 (T.name v1) (T.sort v1) (T.kids v1) x9)) (qa (qca m (T.mk x5 x6 x7 x8)) λ v3=>qa (zu m (re v3)) λ v4=>cond (qc (ieq v4 0)) (some (T.mk 0 [] 0 [],3)) (some (re v3,0)))
def Jo (m:Nat):=qM (λ _ _ _ _ _ _ _ _ _ _=>none) λ ih=>qdr m ih
def qaR:Nat→Z69:=qf (λ _ _=>none) λ m _=>qdm m (Jo m m)
def qfs (m:Nat) (a0 a1:Int):Z10 :=
 cond (ilt a0 a1) (some (-1)) (cond (ilt a1 a0) (some 1) (some 0))
def Ja:Nat→(Int→Int→Z10):=qf (λ _ _=>none) λ m _=>qfs m
def qeB (m:Nat) (q_ref01_Size:Z11) (K1:Z70) (a0:T):Z10 :=
 K1 1 0 (T.kind a0) (T.name a0) (T.sort a0) (T.kids a0)
def qep (m:Nat) (q_ref01_Size:Z11) (K1:Z70) (x0 x1 x2:Int) (x3:List UInt8) (x4:Int) (x5:List (T)):Z10 :=
 cond (ilt x1 (List.length x5)) (qa (qd x5 x1) λ v1=>qa (q_ref01_Size (re v1)) λ v2=>K1 (iw .i64 (qj x0 v2)) (iw .i64 (qj x1 1)) x2 x3 x4 x5) (some x0)
def J7 (m:Nat) (q_ref01_Size:Z11):=qM (λ _ _ _ _ _ _=>none) λ ih=>qep m q_ref01_Size ih
def yz:Nat→Z11:=qf (λ _=>none) λ m q_ref01_Size=>qeB m q_ref01_Size (J7 m q_ref01_Size m)
def qbK (m:Nat) (q_ref01_Compare:Z18) (K1:Z71) (a0 a1:T):Z10 :=
 qa (yz m (re a0)) λ v1=>qa (yz m (re a1)) λ v2=>qa (Ja m v1 v2) λ v3=>cond (qc (ieq v3 0)) (some v3) (qa (Ja m (T.kind a0) (T.kind a1)) λ v4 =>
 cond (qc (ieq v4 0)) (some v4) (cond (slt (T.name a0) (T.name a1)) (some (-1)) (cond (qc (qno (slt (T.name a0) (T.name a1)) (qB (T.name a0) (T.name a1)))) (some 1) (qa (Ja m (T.sort a0)
 (T.sort a1)) λ v5=>cond (qc (ieq v5 0)) (some v5) (qa (Ja m (List.length (T.kids a0)) (List.length (T.kids a1))) λ v6=>cond (qc (ieq v6 0)) (some v6) (K1 0 (T.kind a0) (T.name a0) (T.sort a0)
 (T.kids a0) (T.kind a1) (T.name a1) (T.sort a1) (T.kids a1)))))))
def qbT (m:Nat) (q_ref01_Compare:Z18) (K1:Z71) (x0 x1:Int) (x2:List UInt8) (x3:Int) (x4:List (T)) (x5:Int) (x6:List UInt8) (x7:Int) (x8:List (T)):Z10 :=
 cond (ilt x0 (List.length x4)) (qa (qd x4 x0) λ v1=>qa (qd x8 x0) λ v2=>qa (q_ref01_Compare (re v1) (re v2)) λ v3=>cond (qc (ieq v3 0)) (some v3)
 (K1 (iw .i64 (qj x0 1)) x1 x2 x3 x4 x5 x6 x7 x8)) (some 0)
def Qi (m:Nat) (q_ref01_Compare:Z18):=qM (λ _ _ _ _ _ _ _ _ _=>none) λ ih=>qbT m q_ref01_Compare ih
def zi:Nat→Z18:=qf (λ _ _=>none) λ m q_ref01_Compare=>qbK m q_ref01_Compare (Qi m q_ref01_Compare m)
def qhn (m:Nat) (a0 a1:T):Z1 :=
 qa (zi m (re a0) (re a1)) λ v1=>some (ieq v1 0)
def yR:Nat→Z20:=qf (λ _ _=>none) λ m _=>qhn m
def qiX (m:Nat) (K1:Z73) (a0:T × (Int × ((List (Int × T)) × Int))):Z10 :=
 qa (jE m (re a0.1)) λ v1=>cond (qc v1) (some 1) (cond (ilt a0.2.1 0) (some 1) (cond (ilt 1000 a0.2.1) (some 1) (cond (ilt a0.2.2.2 0) (some 1) (cond (ilt 8 a0.2.2.2) (some 1)
 (cond (ilt a0.2.2.2 (List.length a0.2.2.1)) (some 1) (K1 (-1) a0.2.2.1 (List.length a0.2.2.1) 0 (T.kind a0.1) (T.name a0.1) (T.sort a0.1) (T.kids a0.1) a0.2.1 a0.2.2.1 a0.2.2.2))))))
def qqn (m:Nat) (K1:Z73) (x0:Int) (x1:List (Int × T)) (x2 x3 x4:Int) (x5:List UInt8) (x6:Int) (x7:List (T)) (x8:Int) (x9:List (Int × T)) (x10:Int):Z10 :=
 cond (ilt x3 x2) (qa (qd x1 x3) λ v1=>cond (ile v1.1 x0) (some 1) (cond (ile x8 v1.1) (some 1) (qa (jE m (re v1.2)) λ v2=>cond (qc v2) (some 1)
 (K1 v1.1 x1 x2 (iw .i64 (qj x3 1)) x4 x5 x6 x7 x8 x9 x10)))) (some 0)
def qjJ (m:Nat):=qM (λ _ _ _ _ _ _ _ _ _ _ _=>none) λ ih=>qqn m ih
def qhr:Nat→Z75:=qf (λ _=>none) λ m _=>qiX m (qjJ m m)
def qkG (m:Nat) (K1:Z77) (a0:T × (Int × ((List (Int × T)) × Int))):Z76 :=
 qa (yE m (re a0.1)) λ v1=>K1 a0.2.2.1 (List.length a0.2.2.1) 0 (T.kind v1) (T.name v1) (T.sort v1) (T.kids v1) a0.2.1 a0.2.2.1 a0.2.2.2 0 [] 0 0 0 [] [] []
def qtw (m:Nat) (K1:Z77) (x0:List (Int × T)) (x1 x2 x3:Int) (x4:List UInt8) (x5:Int) (x6:List (T)) (x7:Int) (x8:List (Int × T)) (x9 x10:Int) (x11:List UInt8) (x12 x13 x14:Int) (x15:List (T)) (x16 x17:List (Int × T)):Z76 :=
 cond (ilt x2 x1) (qa (qd x0 x2) λ v1=>qa (yE m (re v1.2)) λ v2=>cond (yl (List.length x17+1) 64)
 (K1 x0 x1 (iw .i64 (qj x2 1)) x3 x4 x5 x6 x7 x8 x9 x10 x11 x12 x13 x14 x15 x16 (x17++[(v1.1,re v2)])) none) (some ((()),((T.mk x3 x4 x5 x6,x7,x17,x9,()),())))
def qmG (m:Nat):=qM (λ _ _ _ _ _ _ _ _ _ _ _ _ _ _ _ _ _ _=>none) λ ih=>qtw m ih
def qkk:Nat→(Z74→Z76):=qf (λ _=>none) λ m _=>qkG m (qmG m m)
def qo1 (m:Nat) (a0 a1:T):Z78 :=
 let j1:Z78:=(some (T.mk 0 [] 0 [],false));cond (qc (ieq (T.kind a0) 3)) j1 (cond (qc (qB (T.name a0) [101,110,99])) j1 (qa (qd (T.kids a0) 1) λ v1=>qa (qs m (re v1)
 (re a1)) λ v2=>cond (qc (ieq v2 0)) j1 (qa (qd (T.kids a0) 0) λ v3=>qa (yE m (re v3)) λ v4=>some (re v4,true))))
def qdt:Nat→(T→T→Z78):=qf (λ _ _=>none) λ m _=>qo1 m
def qg4 (m:Nat) (K1:Z80) (a0:T × (Int × ((List (Int × T)) × Int))) (a1:Int × T):Z79 :=
 qa (qhr m (re a0.1,(a0.2.1,(a0.2.2.1,a0.2.2.2)))) λ v1=>cond (qc (ieq v1 0)) (some ((T.mk 0 [] 0 [],(0,([],0))),T.mk 0 [] 0 [],1)) (qa (jE m (re a1.2)) λ v2=>cond (qc v2)
 (some ((T.mk 0 [] 0 [],(0,([],0))),T.mk 0 [] 0 [],10)) (qa (qkk m (re a0.1,(a0.2.1,(a0.2.2.1,a0.2.2.2)))) λ v3=>cond (ilt a1.1 a0.2.1)
 (qa (yM 0 v3.2.1.2.2.1 (a1.1,re a1.2)) λ v4=>cond (ilt v4 0) (some ((T.mk 0 [] 0 [],(0,([],0))),T.mk 0 [] 0 [],21)) (qa (qd v3.2.1.2.2.1 v4) λ v5 =>
 qa (qdt m (re a1.2) (re v5.2)) λ v6=>cond (qc v6.2) (some ((T.mk 0 [] 0 [],(0,([],0))),T.mk 0 [] 0 [],11))
 (qa (yV 0 v3.2.1.2.2.1 v4 (iw .i64 (qj v4 1))) λ v7=>some ((re v3.2.1.1,(v3.2.1.2.1,(v7.2.1,v3.2.1.2.2.2.1))),re v6.1,0)))) (cond (ilt (iw .i64 (qj a0.2.1 a0.2.2.2)) a1.1)
 (some ((T.mk 0 [] 0 [],(0,([],0))),T.mk 0 [] 0 [],7)) (cond (ile 1000 a1.1) (some ((T.mk 0 [] 0 [],(0,([],0))),T.mk 0 [] 0 [],7)) (K1 a1.1 (T.kind a1.2) (T.name a1.2) (T.sort a1.2)
 (T.kids a1.2) 0 [] 0 0 0 0 [] 0 (T.kind v3.2.1.1) (T.name v3.2.1.1) (T.sort v3.2.1.1) (T.kids v3.2.1.1) v3.2.1.2.1 v3.2.1.2.2.2.1 [] [] [] v3.2.1.2.2.1)))))
def qn5 (m:Nat) (K1:Z80) (x0 x1:Int) (x2:List UInt8) (x3:Int) (x4:List (T)) (x5:Int) (x6:List UInt8) (x7 x8 x9 x10:Int) (x11:List UInt8) (x12 x13:Int) (x14:List UInt8) (x15:Int) (x16:List (T)) (x17 x18:Int) (x19:List (T)) (x20:List (Int × T)) (x21:List (T)) (x22:List (Int × T)):Z79 :=
 qa (qca m (T.mk x13 x14 x15 x16)) λ v1=>qa (qbj m (T.mk x13 x14 x15 x16)) λ v2=>qa (zu m (re v1)) λ v3=>cond (qc (ieq v3 0))
 (some ((T.mk 0 [] 0 [],(0,([],0))),T.mk 0 [] 0 [],3)) (qa (zu m (re v2)) λ v4=>cond (qc (ieq v4 0)) (some ((T.mk 0 [] 0 [],(0,([],0))),T.mk 0 [] 0 [],3)) (cond (ieq x17 x0)
 (qa (qdt m (T.mk x1 x2 x3 x4) (re v1)) λ v5=>cond (qc v5.2) (some ((T.mk 0 [] 0 [],(0,([],0))),T.mk 0 [] 0 [],11)) (some ((re v2,(iw .i64 (qj x17 1),(x22,x18))),re v5.1,0)))
 (cond (yl (List.length x22+1) 64) (cond (ilt x18 (List.length (x22++[(x17,re v1)]))) none (K1 x0 x1 x2 x3 x4 x5 x6 x7 x8 x9 x10 x11 x12 (T.kind v2) (T.name v2) (T.sort v2) (T.kids v2)
 (iw .i64 (qj x17 1)) x18 x19 x20 x21 (x22++[(x17,re v1)]))) none)))
def qhE (m:Nat):=qM (λ _ _ _ _ _ _ _ _ _ _ _ _ _ _ _ _ _ _ _ _ _ _ _=>none) λ ih=>qn5 m ih
def qaE:Nat→(Z74→(Int × T)→Z79):=qf (λ _ _=>none) λ m _=>qg4 m (qhE m m)
def qvU (m:Nat) (a0:Y8) (a1:Int):Z21 :=
 some (T.mk 2 a0 a1 [])
def qfu:Nat→(Y8→Int→Z21):=qf (λ _ _=>none) λ m _=>qvU m
def qvl (m:Nat):Z21 :=
 qa (qfu m [114] 2) λ v1=>some (re v1)
def qdC:Nat→(Z21):=qf (none) λ m _=>qvl m
def qfm (m:Nat) (a0:Int):Z1 :=
 let j1:Z1:=(cond (ile 65 a0) (some (ile a0 90)) (some false));cond (ile 97 a0) (cond (ile a0 122) (some true) j1) j1
def JZ:Nat→Z2:=qf (λ _=>none) λ m _=>qfm m
def qgt (m:Nat) (a0:Int):Z1 :=
 cond (ile 48 a0) (some (ile a0 57)) (some false)
def qcf:Nat→Z2:=qf (λ _=>none) λ m _=>qgt m
def qmC (m:Nat) (K1:Z82) (a0:Y8):Z81 :=
 K1 a0 0
def qvI (m:Nat) (K1:Z82) (x0:List UInt8) (x1:Int):Z81 :=
 let j1:Z81:=(cond (inb x1 (List.length x0)) (cond (inb 0 (Int.toNat x1)) (some (yW x0 0 x1)) none) none);cond (ilt x1 (List.length x0)) (qa (qd x0 x1) λ v1 =>
 qa (JZ m ((UInt8.toNat v1:Nat):Int)) λ v2=>let j2:Z81:=(K1 x0 (iw .i64 (qj x1 1)));cond v2 j2 (qa (qd x0 x1) λ v3=>qa (qcf m ((UInt8.toNat v3:Nat):Int)) λ v4 =>
 cond v4 j2 (qa (qd x0 x1) λ v5=>cond (ieq ((UInt8.toNat v5:Nat):Int) 95) j2 (qa (qd x0 x1) λ v6=>cond (ieq ((UInt8.toNat v6:Nat):Int) 35) j2 j1)))) j1
def qn1 (m:Nat):=qM (λ _ _=>none) λ ih=>qvI m ih
def qfY:Nat→(Y8→Z81):=qf (λ _=>none) λ m _=>qmC m (qn1 m m)
def qco (m:Nat) (K1:Z83) (a0:Y8):Z1 :=
 cond (ieq (List.length a0) 0) (some false) (cond (ilt 24 (List.length a0)) (some false) (qa (qd a0 0) λ v1=>qa (JZ m ((UInt8.toNat v1:Nat):Int)) λ v2=>cond (qc v2) (some false) (K1 a0 0)))
def qcl (m:Nat) (K1:Z83) (x0:List UInt8) (x1:Int):Z1 :=
 cond (ilt x1 (List.length x0)) (qa (qd x0 x1) λ v1=>qa (JZ m ((UInt8.toNat v1:Nat):Int)) λ v2=>let j1:Z1:=(K1 x0 (iw .i64 (qj x1 1)));cond (qc v2) (qa (qd x0 x1) λ v3 =>
 qa (qcf m ((UInt8.toNat v3:Nat):Int)) λ v4=>cond (qc v4) (qa (qd x0 x1) λ v5=>cond (qc (ieq ((UInt8.toNat v5:Nat):Int) 95)) (qa (qd x0 x1) λ v6 =>
 cond (qc (ieq ((UInt8.toNat v6:Nat):Int) 35)) (some false) j1) j1) j1) j1) (some true)
def QE (m:Nat):=qM (λ _ _=>none) λ ih=>qcl m ih
def Qh:Nat→Z5:=qf (λ _=>none) λ m _=>qco m (QE m m)
def qwh (m:Nat) (a0:Int):Z81 :=
 qa (qd [[97,110,121],[97,103,101,110,116],[110,111,110,99,101],[107,101,121],[100,97,116,97],[116,97,103]] a0) λ v1=>some v1
def qlm:Nat→(Int→Z81):=qf (λ _=>none) λ m _=>qwh m
def qmE (m:Nat) (K1:Z85) (a0:T) (a1:Y8):Z84 :=
 cond (ieq (List.length a1) 0) (some (re a0,a1,ieq (T.kind a0) 1)) (qa (qd a1 0) λ v1=>cond (qc (ieq ((UInt8.toNat v1:Nat):Int) 58)) (some (re a0,a1,ieq (T.kind a0) 1)) (cond (inb (List.length a1)
 (List.length a1)) (cond (inb 1 (Int.toNat (List.length a1))) (qa (qfY m (yW a1 1 (List.length a1))) λ v2=>K1 a1 v2 0 (T.kind a0) (T.name a0) (T.sort a0) (T.kids a0) 0 [] 0 []) none) none))
def qvm (m:Nat) (K1:Z85) (x0 x1:List UInt8) (x2 x3:Int) (x4:List UInt8) (x5:Int) (x6:List (T)) (x7:Int) (x8:List UInt8) (x9:Int) (x10:List (T)):Z84 :=
 cond (ile x2 5) (qa (qlm m x2) λ v1=>cond (qB x1 v1) (let j1:Z84:=(cond (inb (List.length x0) (List.length x0)) (cond (inb (iw .i64 (qj 1 (List.length x1))) (Int.toNat (List.length x0)))
 (some (T.mk x3 x4 x2 x6,yW x0 (iw .i64 (qj 1 (List.length x1))) (List.length x0),true)) none) none);cond (qc (ieq x2 0)) j1 (cond (ieq x3 2) j1 (K1 x0 x1 (iw .i64 (qj x2 1)) x3 x4 x5 x6 x7 x8 x9 x10)))
 (K1 x0 x1 (iw .i64 (qj x2 1)) x3 x4 x5 x6 x7 x8 x9 x10)) (some (T.mk x3 x4 x5 x6,x0,false))
def qoa (m:Nat):=qM (λ _ _ _ _ _ _ _ _ _ _ _=>none) λ ih=>qvm m ih
def qh9:Nat→(T→Y8→Z84):=qf (λ _ _=>none) λ m _=>qmE m (qoa m m)
def qmK (m:Nat) (q_ref01_read:Z86) (K1:Z87) (a0:Y8) (a1:Int):Z84 :=
 let j1:Z84:=(qa (qfY m a0) λ v5=>qa (Qh m v5) λ v6=>cond (qc v6) (some (T.mk 2 v5 0 [],a0,false)) (cond (ieq a1 0) (some (T.mk 2 v5 0 [],a0,false)) (cond (inb (List.length a0)
 (List.length a0)) (cond (inb (List.length v5) (Int.toNat (List.length a0))) (let j2:Z84:=(qa (qh9 m (T.mk 2 v5 0 []) (yW a0 (List.length v5) (List.length a0))) λ v7 =>
 some (re v7.1,v7.2.1,v7.2.2));cond (ieq (List.length (yW a0 (List.length v5) (List.length a0))) 0) j2 (qa (qd (yW a0 (List.length v5) (List.length a0)) 0) λ v8 =>
 cond (qc (ieq ((UInt8.toNat v8:Nat):Int) 40)) j2 (cond (inb (List.length (yW a0 (List.length v5) (List.length a0))) (List.length (yW a0 (List.length v5) (List.length a0))))
 (cond (inb 1 (Int.toNat (List.length (yW a0 (List.length v5) (List.length a0))))) (K1 (yW (yW a0 (List.length v5) (List.length a0)) 1 (List.length (yW a0 (List.length v5)
 (List.length a0)))) a1 0 [] 0 3 v5 0 [] []) none) none))) none) none)));cond (ilt 0 (List.length a0)) (qa (qd a0 0) λ v1=>cond (ieq ((UInt8.toNat v1:Nat):Int) 63) (cond (inb (List.length a0)
 (List.length a0)) (cond (inb 1 (Int.toNat (List.length a0))) (qa (qfY m (yW a0 1 (List.length a0))) λ v2=>qa (Qh m v2) λ v3=>cond (qc v3)
 (some (T.mk 1 v2 0 [],yW a0 1 (List.length a0),false)) (cond (ieq a1 0) (some (T.mk 1 v2 0 [],yW a0 1 (List.length a0),false)) (cond (inb (List.length (yW a0 1 (List.length a0)))
 (List.length (yW a0 1 (List.length a0)))) (cond (inb (List.length v2) (Int.toNat (List.length (yW a0 1 (List.length a0))))) (qa (qh9 m (T.mk 1 v2 0 []) (yW (yW a0 1 (List.length a0)) (List.length v2)
 (List.length (yW a0 1 (List.length a0))))) λ v4=>some (re v4.1,v4.2.1,v4.2.2)) none) none))) none) none) j1) j1
def qvR (m:Nat) (q_ref01_read:Z86) (K1:Z87) (x0:List UInt8) (x1 x2:Int) (x3:List UInt8) (x4 x5:Int) (x6:List UInt8) (x7:Int) (x8 x9:List (T)):Z84 :=
 let j1:Z84:=(some (T.mk x5 x6 x7 x9,x0,false));let j2:Z84:=(cond (ieq (List.length x0) 0) j1 (cond (inb (List.length x0) (List.length x0)) (cond (inb 1 (Int.toNat (List.length x0)))
 (some (T.mk x5 x6 x7 x9,yW x0 1 (List.length x0),true)) none) none));cond (ilt 0 (List.length x0)) (qa (qd x0 0) λ v1=>cond (qc (ieq ((UInt8.toNat v1:Nat):Int) 41)) (cond (ilt 0 (List.length x9))
 (cond (ilt (List.length x0) 2) j1 (cond (inb 2 (List.length x0)) (cond (inb 0 (Int.toNat 2)) (cond (qc (qB (yW x0 0 2) [44,32])) j1 (cond (inb (List.length x0) (List.length x0))
 (cond (inb 2 (Int.toNat (List.length x0))) (qa (q_ref01_read (yW x0 2 (List.length x0)) (iw .i64 (jM x1 1))) λ v2=>cond (qc v2.2.2) (some (T.mk x5 x6 x7 x9,yW x0 2 (List.length x0),false))
 (cond (yl (List.length x9+1) 56) (K1 v2.2.1 x1 x2 x3 x4 x5 x6 x7 x8 (x9++[re v2.1])) none)) none) none)) none) none)) (qa (q_ref01_read x0 (iw .i64 (jM x1 1))) λ v3 =>
 cond (qc v3.2.2) j1 (cond (yl (List.length x9+1) 56) (K1 v3.2.1 x1 x2 x3 x4 x5 x6 x7 x8 (x9++[re v3.1])) none))) j2) j2
def qns (m:Nat) (q_ref01_read:Z86):=qM (λ _ _ _ _ _ _ _ _ _ _=>none) λ ih=>qvR m q_ref01_read ih
def qe9:Nat→Z86:=qf (λ _ _=>none) λ m q_ref01_read=>qmK m q_ref01_read (qns m q_ref01_read m)
def qhj (m:Nat) (a0:T):Z10 :=
 let j1:Z10:=(qa (Qh m (T.name a0)) λ v1=>cond (qc v1) (some 2) (cond (ilt 8 (List.length (T.kids a0))) (some 3) (some 0)));let j2:Z10:=(cond (ilt 0 (List.length (T.kids a0))) (some 1) j1);
 cond (ieq (T.kind a0) 1) (cond (ilt (T.sort a0) 0) (some 1) (cond (ilt 5 (T.sort a0)) (some 1) j2)) (let j3:Z10:=(cond (ilt (T.sort a0) 0) (some 1) (cond (ilt 5 (T.sort a0)) (some 1) (let j4:Z10 :=
 (cond (ieq (T.kind a0) 2) j2 j1);cond (qc (ieq (T.kind a0) 2)) (cond (qc (ieq (T.sort a0) 0)) (some 1) j4) j4)));cond (qc (ieq (T.kind a0) 2)) (cond (qc (ieq (T.kind a0) 3)) (some 1) j3) j3)
def qfC:Nat→Z11:=qf (λ _=>none) λ m _=>qhj m
def qds (m:Nat) (q_ref01_nodes:Z11) (K1:Z88) (a0:T):Z10 :=
 qa (qfC m (re a0)) λ v1=>cond (qc (ieq v1 0)) (some v1) (K1 0 (T.kind a0) (T.name a0) (T.sort a0) (T.kids a0))
def qdv (m:Nat) (q_ref01_nodes:Z11) (K1:Z88) (x0 x1:Int) (x2:List UInt8) (x3:Int) (x4:List (T)):Z10 :=
 cond (ilt x0 (List.length x4)) (qa (qd x4 x0) λ v1=>qa (q_ref01_nodes (re v1)) λ v2=>cond (qc (ieq v2 0)) (some v2) (K1 (iw .i64 (qj x0 1)) x1 x2 x3 x4)) (some 0)
def Jq (m:Nat) (q_ref01_nodes:Z11):=qM (λ _ _ _ _ _=>none) λ ih=>qdv m q_ref01_nodes ih
def yH:Nat→Z11:=qf (λ _=>none) λ m q_ref01_nodes=>qds m q_ref01_nodes (Jq m q_ref01_nodes m)
def qdF (m:Nat) (q_ref01_Depth:Z11) (K1:Z70) (a0:T):Z10 :=
 K1 0 0 (T.kind a0) (T.name a0) (T.sort a0) (T.kids a0)
def qdD (m:Nat) (q_ref01_Depth:Z11) (K1:Z70) (x0 x1 x2:Int) (x3:List UInt8) (x4:Int) (x5:List (T)):Z10 :=
 cond (ilt x1 (List.length x5)) (qa (qd x5 x1) λ v1=>qa (q_ref01_Depth (re v1)) λ v2=>K1 (qkh x0 v2) (iw .i64 (qj x1 1)) x2 x3 x4 x5) (some (iw .i64 (qj x0 1)))
def Js (m:Nat) (q_ref01_Depth:Z11):=qM (λ _ _ _ _ _ _=>none) λ ih=>qdD m q_ref01_Depth ih
def yK:Nat→Z11:=qf (λ _=>none) λ m q_ref01_Depth=>qdF m q_ref01_Depth (Js m q_ref01_Depth m)
def qgc (m:Nat) (a0:T):Z10 :=
 qa (yH m (re a0)) λ v1=>cond (qc (ieq v1 0)) (some v1) (qa (yz m (re a0)) λ v2=>cond (ilt 400 v2) (some 3) (qa (yK m (re a0)) λ v3=>cond (ilt 40 v3) (some 3) (some 0)))
def zI:Nat→Z11:=qf (λ _=>none) λ m _=>qgc m
def qui (m:Nat) (a0:Y8):Z30 :=
 qa (qe9 m a0 800) λ v1=>cond (qc v1.2.2) (some (T.mk 0 [] 0 [],2)) (cond (qc (qB v1.2.1 [])) (some (T.mk 0 [] 0 [],2)) (qa (zI m (re v1.1)) λ v2=>cond (qc (ieq v2 0))
 (some (T.mk 0 [] 0 [],v2)) (some (re v1.1,0))))
def qgK:Nat→(Y8→Z30):=qf (λ _=>none) λ m _=>qui m
def qqP (m:Nat):Z89 :=
 some [([112,97,105,114],(2,(2,1))),([101,110,99],(2,(2,1))),([97,101,110,99],(2,(2,1))),([112,107],(1,(1,1))),([115,105,103,110],(2,(2,1))),([104,97,115,104],(1,(1,1))),([120,111,114],(2,(8,1))),([122,101,114,111],(0,(0,1))),([101,120,112],(2,(2,1))),([109,117,108],(2,(8,1))),([105,110,118],(1,(1,1))),([111,110,101],(0,(0,1))),([115,107],(1,(1,2))),([115,104,107],(2,(2,2))),([110,101,119],(1,(8,2))),([102,115,116],(1,(1,3))),([115,110,100],(1,(1,3))),([100,101,99],(2,(2,3))),([97,100,101,99],(2,(2,3))),([111,112,101,110],(2,(2,3))),([114,101,97,100],(1,(1,3)))]
def qex:Nat→(Z89):=qf (none) λ m _=>qqP m
def qet (m:Nat) (K1:Z90) (a0:Y8):Z10 :=
 qa (qex m) λ v1=>K1 a0 v1 0
def qem (m:Nat) (K1:Z90) (x0:List UInt8) (x1:List (Y8 × (Int × (Int × Int)))) (x2:Int):Z10 :=
 cond (ilt x2 (List.length x1)) (qa (qd x1 x2) λ v1=>cond (qB v1.1 x0) (qa (qd x1 x2) λ v2=>some v2.2.2.2) (K1 x0 x1 (iw .i64 (qj x2 1)))) (some 0)
def JV (m:Nat):=qM (λ _ _ _=>none) λ ih=>qem m ih
def qb1:Nat→(Y8→Z10):=qf (λ _=>none) λ m _=>qet m (JV m m)
def qew (m:Nat) (K1:Z91) (a0:T):Z1 :=
 qa (qex m) λ v1=>K1 v1 0 (T.kind a0) (T.name a0) (T.sort a0) (T.kids a0)
def qeo (m:Nat) (K1:Z91) (x0:List (Y8 × (Int × (Int × Int)))) (x1 x2:Int) (x3:List UInt8) (x4:Int) (x5:List (T)):Z1 :=
 cond (ilt x1 (List.length x0)) (qa (qd x0 x1) λ v1=>cond (qB v1.1 x3) (qa (qd x0 x1) λ v2=>cond (ile v2.2.1 (List.length x5)) (qa (qd x0 x1) λ v3=>some (ile (List.length x5) v3.2.2.1))
 (some false)) (K1 x0 (iw .i64 (qj x1 1)) x2 x3 x4 x5)) (some false)
def JU (m:Nat):=qM (λ _ _ _ _ _ _=>none) λ ih=>qeo m ih
def qf4:Nat→Z35:=qf (λ _=>none) λ m _=>qew m (JU m m)
def qcz (m:Nat) (K1:Z92) (a0:T):Z1 :=
 cond (qB (T.name a0) [110,101,119]) (qa (qd (T.kids a0) 0) λ v1=>some (ieq (T.kind v1) 2)) (K1 0 (T.kind a0) (T.name a0) (T.sort a0) (T.kids a0))
def qct (m:Nat) (K1:Z92) (x0 x1:Int) (x2:List UInt8) (x3:Int) (x4:List (T)):Z1 :=
 cond (ilt x0 (List.length x4)) (qa (qd x4 x0) λ v1=>cond (ieq (T.kind v1) 3) (some false) (qa (qd x4 x0) λ v2=>cond (qc (ieq (T.sort v2) 1)) (some false) (K1 (iw .i64 (qj x0 1)) x1 x2 x3 x4)))
 (some true)
def QS (m:Nat):=qM (λ _ _ _ _ _=>none) λ ih=>qct m ih
def qcU:Nat→Z35:=qf (λ _=>none) λ m _=>qcz m (QS m m)
def qdA (m:Nat) (q_ref09_nodes:Z11) (K1:Z88) (a0:T):Z10 :=
 cond (qc (ieq (T.kind a0) 3)) (some 0) (qa (qb1 m (T.name a0)) λ v1=>cond (ieq v1 0) (some 10) (qa (qf4 m (re a0)) λ v2=>cond (qc v2) (some 6) (cond (ieq v1 2)
 (qa (qcU m (re a0)) λ v3=>cond (qc v3) (some 10) (K1 0 (T.kind a0) (T.name a0) (T.sort a0) (T.kids a0))) (K1 0 (T.kind a0) (T.name a0) (T.sort a0) (T.kids a0)))))
def qdz (m:Nat) (q_ref09_nodes:Z11) (K1:Z88) (x0 x1:Int) (x2:List UInt8) (x3:Int) (x4:List (T)):Z10 :=
 cond (ilt x0 (List.length x4)) (qa (qd x4 x0) λ v1=>qa (q_ref09_nodes (re v1)) λ v2=>cond (qc (ieq v2 0)) (some v2) (K1 (iw .i64 (qj x0 1)) x1 x2 x3 x4)) (some 0)
def Qs (m:Nat) (q_ref09_nodes:Z11):=qM (λ _ _ _ _ _=>none) λ ih=>qdz m q_ref09_nodes ih
def yq:Nat→Z11:=qf (λ _=>none) λ m q_ref09_nodes=>qdA m q_ref09_nodes (Qs m q_ref09_nodes m)
def qgb (m:Nat) (a0:T):Z10 :=
 qa (zI m (re a0)) λ v1=>cond (qc (ieq v1 0)) (some v1) (qa (yq m (re a0)) λ v2=>some v2)
def qee:Nat→Z11:=qf (λ _=>none) λ m _=>qgb m
def qiW (m:Nat) (a0:Y8) (a1:TL):Z21 :=
 cond (yl (List.length ([]:List (T))+List.length a1) 56) (qii a1 (some (T.mk 3 a0 0 [])) λ v1 v2=>some (T.mk 3 a0 0 ([]++(v1::v2)))) none
def yu:Nat→Z48:=qf (λ _ _=>none) λ m _=>qiW m
def qkm (m:Nat) (a0:T) (a1:Y8):Z1 :=
 cond (ieq (T.kind a0) 3) (some (qB (T.name a0) a1)) (some false)
def J1:Nat→(T→Y8→Z1):=qf (λ _ _=>none) λ m _=>qkm m
def qeF (m:Nat) (a0:T):Z78 :=
 qa (qd (T.kids a0) 0) λ v1=>let j1:Z78:=(qa (qd (T.kids v1) 0) λ v3=>some (re v3,true));let j2:Z78:=(let j3:Z78:=(let j4:Z78:=(let j5:Z78:=(let j6:Z78 :=
 (cond (qB (T.name a0) [114,101,97,100]) (qa (J1 m (re v1) [115,105,103,110]) λ v23=>cond v23 j1 (some (re a0,false))) (some (re a0,false)));cond (qB (T.name a0) [111,112,101,110])
 (qa (J1 m (re v1) [115,105,103,110]) λ v17=>cond v17 (qa (qd (T.kids a0) 1) λ v18=>qa (qd (T.kids v1) 1) λ v19=>qa (yu m [112,107] [re v19]) λ v20 =>
 qa (yR m (re v18) (re v20)) λ v21=>cond v21 j1 j6) j6) j6);cond (qB (T.name a0) [97,100,101,99]) (qa (J1 m (re v1) [97,101,110,99]) λ v11 =>
 cond v11 (qa (qd (T.kids v1) 1) λ v12=>qa (qd (T.kids a0) 1) λ v13=>qa (yu m [112,107] [re v13]) λ v14=>qa (yR m (re v12) (re v14)) λ v15=>cond v15 j1 j5) j5) j5);
 cond (qB (T.name a0) [100,101,99]) (qa (J1 m (re v1) [101,110,99]) λ v6=>cond v6 (qa (qd (T.kids v1) 1) λ v7=>qa (qd (T.kids a0) 1) λ v8=>qa (yR m (re v7)
 (re v8)) λ v9=>cond v9 j1 j4) j4) j4);cond (qB (T.name a0) [115,110,100]) (qa (J1 m (re v1) [112,97,105,114]) λ v4=>cond v4 (qa (qd (T.kids v1) 1) λ v5=>some (re v5,true)) j3) j3);
 cond (qB (T.name a0) [102,115,116]) (qa (J1 m (re v1) [112,97,105,114]) λ v2=>cond v2 j1 j2) j2
def qb5:Nat→(T→Z78):=qf (λ _=>none) λ m _=>qeF m
def qfj (m:Nat) (K1:Z93) (a0:TL) (a1:T):Z1 :=
 K1 a0 0 (T.kind a1) (T.name a1) (T.sort a1) (T.kids a1)
def qfF (m:Nat) (K1:Z93) (x0:List (T)) (x1 x2:Int) (x3:List UInt8) (x4:Int) (x5:List (T)):Z1 :=
 cond (ilt x1 (List.length x0)) (qa (qd x0 x1) λ v1=>qa (yR m (re v1) (T.mk x2 x3 x4 x5)) λ v2=>cond v2 (some true) (K1 x0 (iw .i64 (qj x1 1)) x2 x3 x4 x5)) (some false)
def qaN (m:Nat):=qM (λ _ _ _ _ _ _=>none) λ ih=>qfF m ih
def qg8:Nat→(TL→T→Z1):=qf (λ _ _=>none) λ m _=>qfj m (qaN m m)
def qfn (m:Nat) (K1:Z94) (a0:TL) (a1:T):Z23 :=
 K1 a0 false 0 (T.kind a1) (T.name a1) (T.sort a1) (T.kids a1) []
def qfb (m:Nat) (K1:Z94) (x0:List (T)) (x1:Bool) (x2 x3:Int) (x4:List UInt8) (x5:Int) (x6 x7:List (T)):Z23 :=
 cond (ilt x2 (List.length x0)) (qa (qd x0 x2) λ v1=>qa (zi m (T.mk x3 x4 x5 x6) (re v1)) λ v2=>let j1:Z23:=(qa (qd x0 x2) λ v5=>cond (yl (List.length x7+1) 56)
 (K1 x0 x1 (iw .i64 (qj x2 1)) x3 x4 x5 x6 (x7++[re v5])) none);cond (qc x1) (cond (ile v2 0) (cond (ilt v2 0) (cond (yl (List.length x7+1) 56) (qa (qd x0 x2) λ v3 =>
 cond (yl (List.length (x7++[T.mk x3 x4 x5 x6])+1) 56) (K1 x0 true (iw .i64 (qj x2 1)) x3 x4 x5 x6 ((x7++[T.mk x3 x4 x5 x6])++[re v3])) none) none) (qa (qd x0 x2) λ v4 =>
 cond (yl (List.length x7+1) 56) (K1 x0 true (iw .i64 (qj x2 1)) x3 x4 x5 x6 (x7++[re v4])) none)) j1) j1) (cond (qc x1) (cond (yl (List.length x7+1) 56) (some (x7++[T.mk x3 x4 x5 x6])) none) (some x7))
def qaZ (m:Nat):=qM (λ _ _ _ _ _ _ _ _=>none) λ ih=>qfb m ih
def qe4:Nat→(TL→T→Z23):=qf (λ _ _=>none) λ m _=>qfn m (qaZ m m)
def qcp (m:Nat) (K1:Z95) (a0:TL) (a1:T):Z23 :=
 qa (qg8 m a0 (re a1)) λ v1=>cond (qc v1) (qa (qe4 m a0 (re a1)) λ v2=>some v2) (K1 a0 0 (T.kind a1) (T.name a1) (T.sort a1) (T.kids a1) [])
def qcI (m:Nat) (K1:Z95) (x0:List (T)) (x1 x2:Int) (x3:List UInt8) (x4:Int) (x5 x6:List (T)):Z23 :=
 cond (ilt x1 (List.length x0)) (qa (qd x0 x1) λ v1=>qa (yR m (re v1) (T.mk x2 x3 x4 x5)) λ v2=>cond (qc v2) (qa (qd x0 x1) λ v3=>cond (yl (List.length x6+1) 56)
 (K1 x0 (iw .i64 (qj x1 1)) x2 x3 x4 x5 (x6++[re v3])) none) (K1 x0 (iw .i64 (qj x1 1)) x2 x3 x4 x5 x6)) (some x6)
def QR (m:Nat):=qM (λ _ _ _ _ _ _ _=>none) λ ih=>qcI m ih
def qdj:Nat→(TL→T→Z23):=qf (λ _ _=>none) λ m _=>qcp m (QR m m)
def qeC (m:Nat) (K1:Z96) (a0 a1:TL):Z23 :=
 cond (yl (List.length ([]:List (T))+List.length a0) 56) (qii a0 (K1 a1 [] 0) λ v1 v2=>K1 a1 ([]++(v1::v2)) 0) none
def qes (m:Nat) (K1:Z96) (x0 x1:List (T)) (x2:Int):Z23 :=
 cond (ilt x2 (List.length x0)) (qa (qd x0 x2) λ v1=>qa (qdj m x1 (re v1)) λ v2=>K1 x0 v2 (iw .i64 (qj x2 1))) (some x1)
def Je (m:Nat):=qM (λ _ _ _=>none) λ ih=>qes m ih
def qdy:Nat→(TL→TL→Z23):=qf (λ _ _=>none) λ m _=>qeC m (Je m m)
def qbc (m:Nat) (q_ref08_Summands:Z27) (K1:Z97) (a0:T):Z23 :=
 let j1:Z23:=(cond (qc (ieq (T.kind a0) 3)) (some [re a0]) (cond (qc (qB (T.name a0) [120,111,114])) (some [re a0]) (K1 [] 0 (T.kind a0) (T.name a0) (T.sort a0) (T.kids a0))));cond (ieq (T.kind a0) 3)
 (cond (qB (T.name a0) [122,101,114,111]) (cond (ieq (List.length (T.kids a0)) 0) (some []) j1) j1) j1
def qa6 (m:Nat) (q_ref08_Summands:Z27) (K1:Z97) (x0:List (T)) (x1 x2:Int) (x3:List UInt8) (x4:Int) (x5:List (T)):Z23 :=
 cond (ilt x1 (List.length x5)) (qa (qd x5 x1) λ v1=>qa (q_ref08_Summands (re v1)) λ v2=>qa (qdy m x0 v2) λ v3=>K1 v3 (iw .i64 (qj x1 1)) x2 x3 x4 x5) (some x0)
def ji (m:Nat) (q_ref08_Summands:Z27):=qM (λ _ _ _ _ _ _=>none) λ ih=>qa6 m q_ref08_Summands ih
def zr:Nat→Z27:=qf (λ _=>none) λ m q_ref08_Summands=>qbc m q_ref08_Summands (ji m q_ref08_Summands m)
def qdH (m:Nat) (K1:Z98) (a0:TL) (a1:T):Z10 :=
 cond (ilt 200 (List.length a0)) (some 3) (K1 a0 0 (T.kind a1) (T.name a1) (T.sort a1) (T.kids a1))
def qdp (m:Nat) (K1:Z98) (x0:List (T)) (x1 x2:Int) (x3:List UInt8) (x4:Int) (x5:List (T)):Z10 :=
 cond (ilt x1 (List.length x0)) (qa (qd x0 x1) λ v1=>qa (zI m (re v1)) λ v2=>cond (qc (ieq v2 0)) (some v2) (K1 x0 (iw .i64 (qj x1 1)) x2 x3 x4 x5))
 (qa (zI m (T.mk x2 x3 x4 x5)) λ v3=>some v3)
def Jt (m:Nat):=qM (λ _ _ _ _ _ _=>none) λ ih=>qdp m ih
def qd9:Nat→(TL→T→Z10):=qf (λ _ _=>none) λ m _=>qdH m (Jt m m)
def qhA (m:Nat):Z21 :=
 qa (yu m [122,101,114,111] []) λ v1=>some (re v1)
def qfo:Nat→(Z21):=qf (none) λ m _=>qhA m
def qhy (m:Nat) (a0:TL):Z21 :=
 cond (ieq (List.length a0) 0) (qa (yu m [122,101,114,111] []) λ v1=>some (re v1)) (cond (ieq (List.length a0) 1) (qa (qd a0 0) λ v2=>some (re v2))
 (cond (yl (List.length ([]:List (T))+List.length a0) 56) (qii a0 (some (T.mk 3 [120,111,114] 0 [])) λ v3 v4=>some (T.mk 3 [120,111,114] 0 ([]++(v3::v4)))) none))
def qfw:Nat→(TL→Z21):=qf (λ _=>none) λ m _=>qhy m
def qe8 (m:Nat) (K1:Z99) (a0:TL):Z30 :=
 qa (qfo m) λ v1=>qa (qd9 m a0 (re v1)) λ v2=>cond (qc (ieq v2 0)) (some (T.mk 0 [] 0 [],v2)) (K1 a0 [] 0 0 [] 0 [])
def qfi (m:Nat) (K1:Z99) (x0 x1:List (T)) (x2 x3:Int) (x4:List UInt8) (x5:Int) (x6:List (T)):Z30 :=
 cond (ilt x2 (List.length x0)) (qa (qd x0 x2) λ v1=>qa (zr m (re v1)) λ v2=>qa (qdy m x1 v2) λ v3=>K1 x0 v3 (iw .i64 (qj x2 1)) x3 x4 x5 x6) (qa (qfw m x1) λ v4 =>
 qa (zI m (re v4)) λ v5=>cond (qc (ieq v5 0)) (some (T.mk 0 [] 0 [],3)) (some (re v4,0)))
def qaL (m:Nat):=qM (λ _ _ _ _ _ _ _=>none) λ ih=>qfi m ih
def qgS:Nat→(TL→Z30):=qf (λ _=>none) λ m _=>qe8 m (qaL m m)
def qeI (m:Nat) (a0:T):Z1 :=
 cond (ieq (T.kind a0) 3) (cond (qB (T.name a0) [109,117,108]) (some true) (cond (qB (T.name a0) [105,110,118]) (some true) (some (qB (T.name a0) [111,110,101])))) (some false)
def Jp:Nat→Z35:=qf (λ _=>none) λ m _=>qeI m
def qdM (m:Nat) (q_ref06_arity:Z35) (K1:qHz) (a0:T):Z1 :=
 qa (Jp m (re a0)) λ v1=>cond (qc v1) (some true) (let j1:Z1:=(let j2:Z1:=(cond (qB (T.name a0) [111,110,101]) (cond (qc (ieq (List.length (T.kids a0)) 0)) (some false)
 (K1 (List.length (T.kids a0)) 0 (T.kind a0) (T.name a0) (T.sort a0) (T.kids a0))) (K1 (List.length (T.kids a0)) 0 (T.kind a0) (T.name a0) (T.sort a0) (T.kids a0)));cond (qB (T.name a0) [105,110,118])
 (cond (qc (ieq (List.length (T.kids a0)) 1)) (some false) j2) j2);cond (qB (T.name a0) [109,117,108]) (cond (ilt (List.length (T.kids a0)) 2) (some false) j1) j1)
def qdK (m:Nat) (q_ref06_arity:Z35) (K1:qHz) (x0 x1 x2:Int) (x3:List UInt8) (x4:Int) (x5:List (T)):Z1 :=
 cond (ilt x1 x0) (qa (qd x5 x1) λ v1=>qa (q_ref06_arity (re v1)) λ v2=>cond (qc v2) (some false) (K1 x0 (iw .i64 (qj x1 1)) x2 x3 x4 x5)) (some true)
def Qq (m:Nat) (q_ref06_arity:Z35):=qM (λ _ _ _ _ _ _=>none) λ ih=>qdK m q_ref06_arity ih
def yn:Nat→Z35:=qf (λ _=>none) λ m q_ref06_arity=>qdM m q_ref06_arity (Qq m q_ref06_arity m)
def qfH (m:Nat) (K1:qH2) (a0:List (T × Int)) (a1:T) (a2:Int):Z40 :=
 K1 a2 false 0 (T.kind a1) (T.name a1) (T.sort a1) (T.kids a1) a0 []
def qfB (m:Nat) (K1:qH2) (x0:Int) (x1:Bool) (x2 x3:Int) (x4:List UInt8) (x5:Int) (x6:List (T)) (x7 x8:List (T × Int)):Z40 :=
 cond (ilt x2 (List.length x7)) (qa (qd x7 x2) λ v1=>qa (zi m (T.mk x3 x4 x5 x6) (re v1.1)) λ v2=>let j1:Z40:=(qa (qd x7 x2) λ v4=>cond (ieq v2 0)
 (cond (qc (ieq (iw .i64 (qj v4.2 x0)) 0)) (cond (yl (List.length x8+1) 64) (K1 x0 true (iw .i64 (qj x2 1)) x3 x4 x5 x6 x7 (x8++[(re v4.1,iw .i64 (qj v4.2 x0))])) none)
 (K1 x0 true (iw .i64 (qj x2 1)) x3 x4 x5 x6 x7 x8)) (cond (qc (ieq v4.2 0)) (cond (yl (List.length x8+1) 64) (K1 x0 x1 (iw .i64 (qj x2 1)) x3 x4 x5 x6 x7 (x8++[(re v4.1,v4.2)])) none)
 (K1 x0 x1 (iw .i64 (qj x2 1)) x3 x4 x5 x6 x7 x8)));cond (qc x1) (cond (ilt v2 0) (cond (yl (List.length x8+1) 64) (qa (qd x7 x2) λ v3=>cond (ieq v2 0) (cond (qc (ieq (iw .i64 (qj v3.2 x0)) 0))
 (cond (yl (List.length (x8++[(T.mk x3 x4 x5 x6,x0)])+1) 64) (K1 x0 true (iw .i64 (qj x2 1)) x3 x4 x5 x6 x7 ((x8++[(T.mk x3 x4 x5 x6,x0)])++[(re v3.1,iw .i64 (qj v3.2 x0))])) none)
 (K1 x0 true (iw .i64 (qj x2 1)) x3 x4 x5 x6 x7 (x8++[(T.mk x3 x4 x5 x6,x0)]))) (cond (qc (ieq v3.2 0)) (cond (yl (List.length (x8++[(T.mk x3 x4 x5 x6,x0)])+1) 64)
 (K1 x0 true (iw .i64 (qj x2 1)) x3 x4 x5 x6 x7 ((x8++[(T.mk x3 x4 x5 x6,x0)])++[(re v3.1,v3.2)])) none) (K1 x0 true (iw .i64 (qj x2 1)) x3 x4 x5 x6 x7 (x8++[(T.mk x3 x4 x5 x6,x0)])))) none) j1) j1)
 (cond (qc x1) (cond (yl (List.length x8+1) 64) (some ((()),(x8++[(T.mk x3 x4 x5 x6,x0)],()))) none) (some ((()),(x8,()))))
def Q3 (m:Nat):=qM (λ _ _ _ _ _ _ _ _ _=>none) λ ih=>qfB m ih
def qe1:Nat→qwP:=qf (λ _ _ _=>none) λ m _=>qfH m (Q3 m m)
def qbW (m:Nat) (q_ref06_collect:qwP) (K1:qH3) (a0:List (T × Int)) (a1:T) (a2:Int):Z40 :=
 qa (Jp m (re a1)) λ v1=>cond (qc v1) (qa (qe1 m a0 (re a1) a2) λ v2=>some ((()),(v2.2.1,()))) (cond (qB (T.name a1) [105,110,118]) (K1 (iw .i64 (jM 0 a2)) 0 (T.kind a1)
 (T.name a1) (T.sort a1) (T.kids a1) a0) (K1 a2 0 (T.kind a1) (T.name a1) (T.sort a1) (T.kids a1) a0))
def qbM (m:Nat) (q_ref06_collect:qwP) (K1:qH3) (x0 x1 x2:Int) (x3:List UInt8) (x4:Int) (x5:List (T)) (x6:List (T × Int)):Z40 :=
 cond (ilt x1 (List.length x5)) (qa (qd x5 x1) λ v1=>qa (q_ref06_collect x6 (re v1) x0) λ v2=>K1 x0 (iw .i64 (qj x1 1)) x2 x3 x4 x5 v2.2.1) (some ((()),(x6,())))
def jv (m:Nat) (q_ref06_collect:qwP):=qM (λ _ _ _ _ _ _ _=>none) λ ih=>qbM m q_ref06_collect ih
def zG:Nat→qwP:=qf (λ _ _ _=>none) λ m q_ref06_collect=>qbW m q_ref06_collect (jv m q_ref06_collect m)
def qkb (m:Nat) (a0:T):Z44 :=
 qa (zI m (re a0)) λ v1=>cond (qc (ieq v1 0)) (some ([],v1)) (qa (yn m (re a0)) λ v2=>cond (qc v2) (some ([],6)) (qa (zG m [] (re a0) 1) λ v3 =>
 cond (ilt 200 (List.length v3.2.1)) (some ([],3)) (some (v3.2.1,0))))
def qeO:Nat→Z45:=qf (λ _=>none) λ m _=>qkb m
def qdG (m:Nat) (K1:qBj) (a0:List (T × Int)):Z10 :=
 cond (ilt 200 (List.length a0)) (some 3) (K1 a0 0)
def qdO (m:Nat) (K1:qBj) (x0:List (T × Int)) (x1:Int):Z10 :=
 cond (ilt x1 (List.length x0)) (qa (qd x0 x1) λ v1=>qa (zI m (re v1.1)) λ v2=>cond (qc (ieq v2 0)) (some v2) (qa (qd x0 x1) λ v3=>qa (Jp m (re v3.1)) λ v4 =>
 cond v4 (some 1) (qa (qd x0 x1) λ v5=>cond (ieq v5.2 0) (some 7) (qa (qd x0 x1) λ v6=>cond (ilt v6.2 (-1000)) (some 7) (qa (qd x0 x1) λ v7=>cond (ilt 1000 v7.2) (some 7) (cond (ilt 0 x1)
 (qa (qd x0 (iw .i64 (jM x1 1))) λ v8=>qa (qd x0 x1) λ v9=>qa (zi m (re v8.1) (re v9.1)) λ v10=>cond (ile 0 v10) (some 5) (K1 x0 (iw .i64 (qj x1 1))))
 (K1 x0 (iw .i64 (qj x1 1))))))))) (some 0)
def Qt (m:Nat):=qM (λ _ _=>none) λ ih=>qdO m ih
def qaX:Nat→Z47:=qf (λ _=>none) λ m _=>qdG m (Qt m m)
def qa5 (m:Nat) (K1:qkn) (K2:qkj) (K3:qkn) (K4:qkj) (a0:List (T × Int)):Z23 :=
 K1 a0 0 []
def qa4 (m:Nat) (K1:qkn) (K2:qkj) (K3:qkn) (K4:qkj) (x0:List (T × Int)) (x1:Int) (x2:List (T)):Z23 :=
 cond (ilt x1 (List.length x0)) (K2 x0 x1 0 x2) (K3 x0 0 x2)
def qa7 (m:Nat) (K1:qkn) (K2:qkj) (K3:qkn) (K4:qkj) (x0:List (T × Int)) (x1 x2:Int) (x3:List (T)):Z23 :=
 qa (qd x0 x1) λ v1=>cond (ilt x2 v1.2) (cond (ilt (List.length x3) 9) (qa (qd x0 x1) λ v2=>cond (yl (List.length x3+1) 56) (K2 x0 x1 (iw .i64 (qj x2 1)) (x3++[re v2.1])) none)
 (K1 x0 (iw .i64 (qj x1 1)) x3)) (K1 x0 (iw .i64 (qj x1 1)) x3)
def qba (m:Nat) (K1:qkn) (K2:qkj) (K3:qkn) (K4:qkj) (x0:List (T × Int)) (x1:Int) (x2:List (T)):Z23 :=
 cond (ilt x1 (List.length x0)) (K4 x0 x1 0 x2) (some x2)
def qa8 (m:Nat) (K1:qkn) (K2:qkj) (K3:qkn) (K4:qkj) (x0:List (T × Int)) (x1 x2:Int) (x3:List (T)):Z23 :=
 qa (qd x0 x1) λ v1=>cond (ilt x2 (iw .i64 (jM 0 v1.2))) (cond (ilt (List.length x3) 9) (qa (qd x0 x1) λ v2=>qa (yu m [105,110,118] [re v2.1]) λ v3=>cond (yl (List.length x3+1) 56)
 (K4 x0 x1 (iw .i64 (qj x2 1)) (x3++[re v3])) none) (K3 x0 (iw .i64 (qj x1 1)) x3)) (K3 x0 (iw .i64 (qj x1 1)) x3)
def qk (m:Nat):=qM ((λ _ _ _=>none,λ _ _ _ _=>none,λ _ _ _=>none,λ _ _ _ _=>none)) λ ih=>(qa4 m ih.1 ih.2.1 ih.2.2.1 ih.2.2.2,qa7 m ih.1 ih.2.1 ih.2.2.1 ih.2.2.2,qba m ih.1 ih.2.1 ih.2.2.1 ih.2.2.2,qa8 m ih.1 ih.2.1 ih.2.2.1 ih.2.2.2)
def qbt:Nat→(Z38→Z23):=qf (λ _=>none) λ m _=>qa5 m (qk m m).1 (qk m m).2.1 (qk m m).2.2.1 (qk m m).2.2.2
def qhk (m:Nat) (a0:List (T × Int)):Z30 :=
 qa (qaX m a0) λ v1=>cond (qc (ieq v1 0)) (some (T.mk 0 [] 0 [],v1)) (qa (qbt m a0) λ v2=>cond (ilt 8 (List.length v2)) (some (T.mk 0 [] 0 [],3))
 (qa (yu m [109,117,108] v2) λ v3=>let j1:Z30:=(qa (qd v2 0) λ v5=>qa (zI m (re v5)) λ v6=>cond (qc (ieq v6 0)) (some (T.mk 0 [] 0 [],v6)) (some (re v5,0)));
 cond (ieq (List.length v2) 0) (qa (yu m [111,110,101] []) λ v4=>cond (ieq (List.length v2) 1) j1 (qa (zI m (re v4)) λ v7=>cond (qc (ieq v7 0)) (some (T.mk 0 [] 0 [],v7))
 (some (re v4,0)))) (cond (ieq (List.length v2) 1) j1 (qa (zI m (re v3)) λ v10=>cond (qc (ieq v10 0)) (some (T.mk 0 [] 0 [],v10)) (some (re v3,0))))))
def qaA:Nat→Z51:=qf (λ _=>none) λ m _=>qhk m
def qeM (m:Nat) (a0:T):Z30 :=
 qa (qeO m (re a0)) λ v1=>cond (qc (ieq v1.2 0)) (some (T.mk 0 [] 0 [],v1.2)) (qa (qaA m v1.1) λ v2=>some (re v2.1,v2.2))
def qam:Nat→Z57:=qf (λ _=>none) λ m _=>qeM m
def qbQ (m:Nat) (K1:qBj) (a0:List (T × Int)):Z10 :=
 K1 a0 0
def qbX (m:Nat) (K1:qBj) (x0:List (T × Int)) (x1:Int):Z10 :=
 cond (ilt x1 (List.length x0)) (qa (qd x0 x1) λ v1=>cond (ilt v1.2 (-1000)) (some 7) (qa (qd x0 x1) λ v2=>cond (ilt 1000 v2.2) (some 7) (K1 x0 (iw .i64 (qj x1 1))))) (cond (ilt 200 (List.length x0))
 (some 3) (some 0))
def Qj (m:Nat):=qM (λ _ _=>none) λ ih=>qbX m ih
def qb8:Nat→Z47:=qf (λ _=>none) λ m _=>qbQ m (Qj m m)
def qfI (m:Nat) (K1:qIm) (a0 a1:List (T × Int)):Z44 :=
 qa (qaX m a0) λ v1=>cond (qc (ieq v1 0)) (some ([],v1)) (qa (qaX m a1) λ v2=>cond (qc (ieq v2 0)) (some ([],v2)) (cond (yl (List.length ([]:List (T × Int))+List.length a0) 64)
 (qii a0 (K1 a1 0 []) λ v3 v4=>K1 a1 0 ([]++(v3::v4))) none))
def qfr (m:Nat) (K1:qIm) (x0:List (T × Int)) (x1:Int) (x2:List (T × Int)):Z44 :=
 cond (ilt x1 (List.length x0)) (qa (qd x0 x1) λ v1=>qa (qd x0 x1) λ v2=>qa (qe1 m x2 (re v1.1) v2.2) λ v3=>K1 x0 (iw .i64 (qj x1 1)) v3.2.1) (qa (qb8 m x2) λ v4 =>
 cond (qc (ieq v4 0)) (some ([],v4)) (some (x2,0)))
def JO (m:Nat):=qM (λ _ _ _=>none) λ ih=>qfr m ih
def qg3:Nat→Z55:=qf (λ _ _=>none) λ m _=>qfI m (JO m m)
def qgE (m:Nat) (a0 a1:T):Z30 :=
 qa (qeO m (re a1)) λ v1=>cond (qc (ieq v1.2 0)) (some (T.mk 0 [] 0 [],v1.2)) (qa (J1 m (re a0) [101,120,112]) λ v2=>cond v2 (qa (qd (T.kids a0) 1) λ v3 =>
 qa (qeO m (re v3)) λ v4=>cond (qc (ieq v4.2 0)) (some (T.mk 0 [] 0 [],v4.2)) (qa (qg3 m v4.1 v1.1) λ v5=>cond (qc (ieq v5.2 0)) (some (T.mk 0 [] 0 [],v5.2))
 (qa (qd (T.kids a0) 0) λ v6=>cond (ieq (List.length v5.1) 0) (some (re v6,0)) (qa (qaA m v5.1) λ v7=>cond (qc (ieq v7.2 0)) (some (T.mk 0 [] 0 [],v7.2))
 (qa (yu m [101,120,112] [re v6,re v7.1]) λ v8=>some (re v8,0)))))) (cond (ieq (List.length v1.1) 0) (some (re a0,0)) (qa (qaA m v1.1) λ v9=>cond (qc (ieq v9.2 0))
 (some (T.mk 0 [] 0 [],v9.2)) (qa (yu m [101,120,112] [re a0,re v9.1]) λ v10=>some (re v10,0)))))
def qed:Nat→Z56:=qf (λ _ _=>none) λ m _=>qgE m
def qcs (m:Nat) (q_ref09_normal:Z57) (K1:qH0) (a0:T):Z30 :=
 cond (qc (ieq (T.kind a0) 3)) (some (re a0,0)) (K1 0 (T.kind a0) (T.name a0) (T.sort a0) (T.kids a0) 0 [] 0 [] [])
def qcn (m:Nat) (q_ref09_normal:Z57) (K1:qH0) (x0 x1:Int) (x2:List UInt8) (x3:Int) (x4:List (T)) (x5:Int) (x6:List UInt8) (x7:Int) (x8 x9:List (T)):Z30 :=
 cond (ilt x0 (List.length x4)) (qa (qd x4 x0) λ v1=>qa (q_ref09_normal (re v1)) λ v2=>cond (qc (ieq v2.2 0)) (some (T.mk 0 [] 0 [],v2.2)) (cond (yl (List.length x9+1) 56)
 (K1 (iw .i64 (qj x0 1)) x1 x2 x3 x4 x5 x6 x7 x8 (x9++[re v2.1])) none)) (qa (yu m x2 x9) λ v3=>qa (qb1 m x2) λ v4=>cond (ieq v4 3) (qa (qb5 m (re v3)) λ v5 =>
 some (re v5.1,0)) (cond (qB x2 [120,111,114]) (qa (qgS m x9) λ v6=>some (re v6.1,v6.2)) (let j1:Z30:=(qa (qam m (re v3)) λ v7=>some (re v7.1,v7.2));
 cond (qB x2 [109,117,108]) j1 (cond (qB x2 [105,110,118]) j1 (cond (qB x2 [111,110,101]) j1 (cond (qB x2 [101,120,112]) (qa (qd x9 0) λ v10=>qa (qd x9 1) λ v11 =>
 qa (qed m (re v10) (re v11)) λ v12=>some (re v12.1,v12.2)) (some (re v3,0))))))))
def QD (m:Nat) (q_ref09_normal:Z57):=qM (λ _ _ _ _ _ _ _ _ _ _=>none) λ ih=>qcn m q_ref09_normal ih
def ye:Nat→Z57:=qf (λ _=>none) λ m q_ref09_normal=>qcs m q_ref09_normal (QD m q_ref09_normal m)
def qfJ (m:Nat) (a0:T):Z30 :=
 qa (qee m (re a0)) λ v1=>cond (qc (ieq v1 0)) (some (T.mk 0 [] 0 [],v1)) (qa (ye m (re a0)) λ v2=>cond (qc (ieq v2.2 0)) (some (T.mk 0 [] 0 [],v2.2))
 (qa (zI m (re v2.1)) λ v3=>cond (qc (ieq v3 0)) (some (T.mk 0 [] 0 [],v3)) (some (re v2.1,0))))
def qdc:Nat→Z57:=qf (λ _=>none) λ m _=>qfJ m
def qfp (m:Nat) (q_ref01_All:Z27) (K1:qHW) (a0:T):Z23 :=
 K1 0 (T.kind a0) (T.name a0) (T.sort a0) (T.kids a0) [re a0]
def qfh (m:Nat) (q_ref01_All:Z27) (K1:qHW) (x0 x1:Int) (x2:List UInt8) (x3:Int) (x4 x5:List (T)):Z23 :=
 cond (ilt x0 (List.length x4)) (qa (qd x4 x0) λ v1=>qa (q_ref01_All (re v1)) λ v2=>cond (yl (List.length x5+List.length v2) 56) (K1 (iw .i64 (qj x0 1)) x1 x2 x3 x4 (x5++v2)) none) (some x5)
def qaS (m:Nat) (q_ref01_All:Z27):=qM (λ _ _ _ _ _ _=>none) λ ih=>qfh m q_ref01_All ih
def jk:Nat→Z27:=qf (λ _=>none) λ m q_ref01_All=>qfp m q_ref01_All (qaS m q_ref01_All m)
def qdE (m:Nat) (K1:qHX) (a0:T):Z1 :=
 qa (qdc m (re a0)) λ v1=>cond (qc (ieq v1.2 0)) (some false) (qa (yR m (re a0) (re v1.1)) λ v2=>cond (qc v2) (some false) (qa (jk m (re a0)) λ v3=>K1 v3 0))
def qdl (m:Nat) (K1:qHX) (x0:List (T)) (x1:Int):Z1 :=
 cond (ilt x1 (List.length x0)) (qa (qd x0 x1) λ v1=>cond (ieq (T.kind v1) 3) (qa (qd x0 x1) λ v2=>qa (qb1 m (T.name v2)) λ v3=>cond (ieq v3 3) (some false) (K1 x0 (iw .i64 (qj x1 1))))
 (K1 x0 (iw .i64 (qj x1 1)))) (some true)
def Jr (m:Nat):=qM (λ _ _=>none) λ ih=>qdl m ih
def qd8:Nat→Z35:=qf (λ _=>none) λ m _=>qdE m (Jr m m)
def qfQ (m:Nat) (K1:Z96) (a0:TL):Z23 :=
 K1 a0 [] 0
def qfq (m:Nat) (K1:Z96) (x0 x1:List (T)) (x2:Int):Z23 :=
 cond (ilt x2 (List.length x0)) (qa (qd x0 x2) λ v1=>qa (qe4 m x1 (re v1)) λ v2=>K1 x0 v2 (iw .i64 (qj x2 1))) (some x1)
def qaY (m:Nat):=qM (λ _ _ _=>none) λ ih=>qfq m ih
def qhd:Nat→Z32:=qf (λ _=>none) λ m _=>qfQ m (qaY m m)
def qeA (m:Nat) (K1:qIB) (a0:T) (a1:Int):Z23 :=
 qa (jk m (re a0)) λ v1=>K1 a1 v1 0 []
def qeq (m:Nat) (K1:qIB) (x0:Int) (x1:List (T)) (x2:Int) (x3:List (T)):Z23 :=
 cond (ilt x2 (List.length x1)) (qa (qd x1 x2) λ v1=>cond (ieq (T.kind v1) x0) (qa (qd x1 x2) λ v2=>cond (yl (List.length x3+1) 56) (K1 x0 x1 (iw .i64 (qj x2 1)) (x3++[re v2])) none)
 (K1 x0 x1 (iw .i64 (qj x2 1)) x3)) (qa (qhd m x3) λ v3=>some v3)
def J5 (m:Nat):=qM (λ _ _ _ _=>none) λ ih=>qeq m ih
def qfA:Nat→(T→Int→Z23):=qf (λ _ _=>none) λ m _=>qeA m (J5 m m)
def qhs (m:Nat) (a0:T):Z23 :=
 qa (qfA m (re a0) 1) λ v1=>some v1
def qfN:Nat→Z27:=qf (λ _=>none) λ m _=>qhs m
def qf0 (m:Nat) (a0:T):Z1 :=
 qa (qfN m (re a0)) λ v1=>some (ieq (List.length v1) 0)
def qcL:Nat→Z35:=qf (λ _=>none) λ m _=>qf0 m
def qfa (m:Nat) (a0:T):Z1 :=
 qa (qd8 m (re a0)) λ v1=>cond v1 (qa (qcL m (re a0)) λ v2=>some v2) (some false)
def Qf:Nat→Z35:=qf (λ _=>none) λ m _=>qfa m
def qji (m:Nat) (a0:T):Z66 :=
 qa (Qf m (re a0)) λ v1=>cond (qc v1) (some ((T.mk 0 [] 0 [],(0,([],0))),10)) (some ((re a0,(0,([],4))),0))
def qeZ:Nat→Z67:=qf (λ _=>none) λ m _=>qji m
def qk1 (m:Nat) (K1:qIe) (a0:T × (Int × ((List (Int × T)) × Int))):Z10 :=
 qa (Qf m (re a0.1)) λ v1=>cond (qc v1) (some 1) (cond (ilt a0.2.1 0) (some 1) (cond (ilt 1000 a0.2.1) (some 1) (cond (ilt a0.2.2.2 0) (some 1) (cond (ilt 8 a0.2.2.2) (some 1)
 (cond (ilt a0.2.2.2 (List.length a0.2.2.1)) (some 1) (K1 (-1) 0 (T.kind a0.1) (T.name a0.1) (T.sort a0.1) (T.kids a0.1) a0.2.1 a0.2.2.1 a0.2.2.2))))))
def que (m:Nat) (K1:qIe) (x0 x1 x2:Int) (x3:List UInt8) (x4:Int) (x5:List (T)) (x6:Int) (x7:List (Int × T)) (x8:Int):Z10 :=
 cond (ilt x1 (List.length x7)) (qa (qd x7 x1) λ v1=>cond (ile v1.1 x0) (some 1) (qa (qd x7 x1) λ v2=>cond (ile x6 v2.1) (some 1) (qa (qd x7 x1) λ v3=>qa (Qf m (re v3.2)) λ v4 =>
 cond (qc v4) (some 1) (qa (qd x7 x1) λ v5=>K1 v5.1 (iw .i64 (qj x1 1)) x2 x3 x4 x5 x6 x7 x8)))) (some 0)
def qmo (m:Nat):=qM (λ _ _ _ _ _ _ _ _ _=>none) λ ih=>que m ih
def qj8:Nat→Z75:=qf (λ _=>none) λ m _=>qk1 m (qmo m m)
def qeH (m:Nat) (a0:T) (a1:Y8):Z21 :=
 qa (qfu m a1 5) λ v1=>qa (yu m [112,97,105,114] [re a0,re v1]) λ v2=>qa (yu m [104,97,115,104] [re v2]) λ v3=>some (re v3)
def qao:Nat→(T→Y8→Z21):=qf (λ _ _=>none) λ m _=>qeH m
def qhB (m:Nat) (a0:T):Z21 :=
 qa (qao m (re a0) [99,104,97,105,110]) λ v1=>some (re v1)
def qdq:Nat→Z22:=qf (λ _=>none) λ m _=>qhB m
def qhv (m:Nat) (a0:T):Z1 :=
 qa (zI m (re a0)) λ v1=>some (qc (ieq v1 0))
def qav:Nat→Z35:=qf (λ _=>none) λ m _=>qhv m
def qiQ (m:Nat) (a0:T):Z21 :=
 qa (qao m (re a0) [109,101,115,115,97,103,101]) λ v1=>some (re v1)
def qe5:Nat→Z22:=qf (λ _=>none) λ m _=>qiQ m
def qvT (m:Nat) (a0:T × (Int × ((List (Int × T)) × Int))) (a1:T):qIw :=
 qa (qj8 m (re a0.1,(a0.2.1,(a0.2.2.1,a0.2.2.2)))) λ v1=>cond (qc (ieq v1 0)) (some ((T.mk 0 [] 0 [],(0,([],0))),(0,T.mk 0 [] 0 []),v1)) (qa (Qf m (re a1)) λ v2=>cond (qc v2)
 (some ((T.mk 0 [] 0 [],(0,([],0))),(0,T.mk 0 [] 0 []),10)) (cond (ieq a0.2.1 1000) (some ((T.mk 0 [] 0 [],(0,([],0))),(0,T.mk 0 [] 0 []),7)) (qa (qe5 m (re a0.1)) λ v3 =>
 qa (yu m [101,110,99] [re a1,re v3]) λ v4=>qa (qdq m (re a0.1)) λ v5=>qa (qav m (re v5)) λ v6=>cond v6 (some ((T.mk 0 [] 0 [],(0,([],0))),(0,T.mk 0 [] 0 []),3))
 (qa (qav m (re v4)) λ v7=>cond v7 (some ((T.mk 0 [] 0 [],(0,([],0))),(0,T.mk 0 [] 0 []),3)) (some ((re v5,(iw .i64 (qj a0.2.1 1),(a0.2.2.1,a0.2.2.2))),(a0.2.1,re v4),0))))))
def qlj:Nat→(Z74→T→qIw):=qf (λ _ _=>none) λ m _=>qvT m
def qmN (m:Nat) (K1:qHR) (a0:Int):qBu :=
 qa (qdC m) λ v1=>qa (qeZ m (re v1)) λ v2=>K1 a0 0 (T.kind v2.1.1) (T.name v2.1.1) (T.sort v2.1.1) (T.kids v2.1.1) v2.1.2.1 v2.1.2.2.1 v2.1.2.2.2 []
def qvO (m:Nat) (K1:qHR) (x0 x1 x2:Int) (x3:List UInt8) (x4:Int) (x5:List (T)) (x6:Int) (x7:List (Int × T)) (x8:Int) (x9:List (Int × T)):qBu :=
 cond (ilt x1 x0) (qa (qd [[112],[113]] (qBt x1 2)) λ v1=>qa (qfu m v1 4) λ v2=>qa (qlj m (T.mk x2 x3 x4 x5,(x6,(x7,x8))) (re v2)) λ v3=>cond (qc (ieq v3.2.2 0)) (some x9)
 (cond (yl (List.length x9+1) 64) (K1 x0 (iw .i64 (qj x1 1)) (T.kind v3.1.1) (T.name v3.1.1) (T.sort v3.1.1) (T.kids v3.1.1) v3.1.2.1 v3.1.2.2.1 v3.1.2.2.2 (x9++[(v3.2.1.1,re v3.2.1.2)])) none)) (some x9)
def qnk (m:Nat):=qM (λ _ _ _ _ _ _ _ _ _ _=>none) λ ih=>qvO m ih
def qlS:Nat→(Int→qBu):=qf (λ _=>none) λ m _=>qmN m (qnk m m)
def qt1 (m:Nat):Z1 :=
 qa (qdC m) λ v1=>qa (qaR m (re v1) 0) λ v2=>qa (qdC m) λ v3=>qa (qaR m (re v3) 1) λ v4 =>
 qa (qgK m [104,97,115,104,40,112,97,105,114,40,114,58,110,111,110,99,101,44,32,109,101,115,115,97,103,101,58,116,97,103,41,41]) λ v5 =>
 qa (qgK m [104,97,115,104,40,112,97,105,114,40,104,97,115,104,40,112,97,105,114,40,114,58,110,111,110,99,101,44,32,99,104,97,105,110,58,116,97,103,41,41,44,32,109,101,115,115,97,103,101,58,116,97,103,41,41]) λ v6 =>
 qa (qdC m) λ v7=>qa (qcd m (re v7)) λ v8=>qa (qlS m 2) λ v9=>let j1:Z1:=(some false);
 cond (qc (ieq v2.2 0)) j1 (cond (qc (ieq v4.2 0)) j1 (cond (qc (ieq v8.2 0)) j1 (cond (qc (ieq (List.length v9) 2)) j1 (qa (yR m (re v2.1) (re v5.1)) λ v10 =>
 cond (qc v10) j1 (qa (yR m (re v4.1) (re v6.1)) λ v11=>cond (qc v11) j1 (qa (qd v9 1) λ v12=>qa (qaE m (re v8.1.1,(v8.1.2.1,(v8.1.2.2.1,v8.1.2.2.2)))
 (v12.1,re v12.2)) λ v13=>qa (qd v9 0) λ v14=>qa (qaE m (re v13.1.1,(v13.1.2.1,(v13.1.2.2.1,v13.1.2.2.2))) (v14.1,re v14.2)) λ v15=>qa (qd v9 0) λ v16 =>
 qa (qaE m (re v15.1.1,(v15.1.2.1,(v15.1.2.2.1,v15.1.2.2.2))) (v16.1,re v16.2)) λ v17=>cond (ieq v13.2.2 0) (cond (ieq v15.2.2 0) (some (ieq v17.2.2 21)) j1) j1))))))
def qaK:Nat→(Z1):=qf (none) λ m _=>qt1 m
def qcE (m:Nat) (q_ref01_budget:qBY) (K1:Z70) (a0:T) (a1:Int):Z10 :=
 cond (ile a1 0) (some (-1)) (cond (ilt 40 (List.length (T.name a0))) (some (-1)) (K1 (iw .i64 (jM a1 1)) 0 (T.kind a0) (T.name a0) (T.sort a0) (T.kids a0)))
def qcr (m:Nat) (q_ref01_budget:qBY) (K1:Z70) (x0 x1 x2:Int) (x3:List UInt8) (x4:Int) (x5:List (T)):Z10 :=
 cond (ilt x1 (List.length x5)) (qa (qd x5 x1) λ v1=>qa (q_ref01_budget (re v1) x0) λ v2=>cond (ilt v2 0) (some (-1)) (K1 v2 (iw .i64 (qj x1 1)) x2 x3 x4 x5)) (some x0)
def QN (m:Nat) (q_ref01_budget:qBY):=qM (λ _ _ _ _ _ _=>none) λ ih=>qcr m q_ref01_budget ih
def yi:Nat→qBY:=qf (λ _ _=>none) λ m q_ref01_budget=>qcE m q_ref01_budget (QN m q_ref01_budget m)
def qfD (m:Nat) (K1:Z59) (a0:TL) (a1 a2:Int):Z1 :=
 cond (ilt a1 (List.length a0)) (some false) (K1 a0 a2 0)
def qfW (m:Nat) (K1:Z59) (x0:List (T)) (x1 x2:Int):Z1 :=
 cond (ilt x2 (List.length x0)) (qa (qd x0 x2) λ v1=>qa (yi m (re v1) x1) λ v2=>cond (ilt v2 0) (some false) (K1 x0 v2 (iw .i64 (qj x2 1)))) (some true)
def qaM (m:Nat):=qM (λ _ _ _=>none) λ ih=>qfW m ih
def qhg:Nat→(TL→Int→Int→Z1):=qf (λ _ _ _=>none) λ m _=>qfD m (qaM m m)
def qfM (m:Nat) (K1:qIi) (a0:T) (a1:Int):Z30 :=
 qa (Qf m (re a0)) λ v1=>cond (qc v1) (some (T.mk 0 [] 0 [],10)) (cond (ilt a1 0) (some (T.mk 0 [] 0 [],7)) (cond (ile 1000 a1) (some (T.mk 0 [] 0 [],7)) (K1 a1 (T.kind a0) (T.name a0) (T.sort a0)
 (T.kids a0) 0 [] 0 [])))
def qfP (m:Nat) (K1:qIi) (x0 x1:Int) (x2:List UInt8) (x3:Int) (x4:List (T)) (x5:Int) (x6:List UInt8) (x7:Int) (x8:List (T)):Z30 :=
 cond (ilt 0 x0) (qa (qdq m (T.mk x1 x2 x3 x4)) λ v1=>qa (qav m (re v1)) λ v2=>cond v2 (some (T.mk 0 [] 0 [],3)) (K1 (iw .i64 (jM x0 1)) (T.kind v1) (T.name v1) (T.sort v1)
 (T.kids v1) x5 x6 x7 x8)) (qa (qe5 m (T.mk x1 x2 x3 x4)) λ v3=>qa (qav m (re v3)) λ v4=>cond v4 (some (T.mk 0 [] 0 [],3)) (some (re v3,0)))
def qaQ (m:Nat):=qM (λ _ _ _ _ _ _ _ _ _=>none) λ ih=>qfP m ih
def qgY:Nat→Z69:=qf (λ _ _=>none) λ m _=>qfM m (qaQ m m)
def qey (m:Nat) (K1:qIE) (a0 a1:T × (Int × ((List (Int × T)) × Int))):Z1 :=
 cond (qc (ieq a0.2.1 a1.2.1)) (some false) (cond (qc (ieq a0.2.2.2 a1.2.2.2)) (some false) (cond (qc (ieq (List.length a0.2.2.1) (List.length a1.2.2.1))) (some false) (qa (yR m (re a0.1)
 (re a1.1)) λ v1=>cond (qc v1) (some false) (K1 0 (T.kind a0.1) (T.name a0.1) (T.sort a0.1) (T.kids a0.1) a0.2.1 a0.2.2.1 a0.2.2.2 (T.kind a1.1) (T.name a1.1) (T.sort a1.1) (T.kids a1.1) a1.2.1 a1.2.2.1 a1.2.2.2))))
def qen (m:Nat) (K1:qIE) (x0 x1:Int) (x2:List UInt8) (x3:Int) (x4:List (T)) (x5:Int) (x6:List (Int × T)) (x7 x8:Int) (x9:List UInt8) (x10:Int) (x11:List (T)) (x12:Int) (x13:List (Int × T)) (x14:Int):Z1 :=
 cond (ilt x0 (List.length x6)) (qa (qd x6 x0) λ v1=>qa (qd x13 x0) λ v2=>cond (qc (ieq v1.1 v2.1)) (some false) (qa (qd x6 x0) λ v3=>qa (qd x13 x0) λ v4 =>
 qa (yR m (re v3.2) (re v4.2)) λ v5=>cond (qc v5) (some false) (K1 (iw .i64 (qj x0 1)) x1 x2 x3 x4 x5 x6 x7 x8 x9 x10 x11 x12 x13 x14))) (some true)
def JY (m:Nat):=qM (λ _ _ _ _ _ _ _ _ _ _ _ _ _ _ _=>none) λ ih=>qen m ih
def qfL:Nat→(Z74→Z74→Z1):=qf (λ _ _=>none) λ m _=>qey m (JY m m)
def qcg (m:Nat) (a0:T) (a1:Int):Z1 :=
 qa (qaK m) λ v1=>let j1:Z1:=(qa (qaK m) λ v2=>some v2);cond (qc v1) j1 (qa (qhg m [re a0] 1 100) λ v3=>cond (qc v3) j1 (qa (qcd m (re a0)) λ v5 =>
 qa (qeZ m (re a0)) λ v6=>qa (qaR m (re a0) a1) λ v7=>qa (qgY m (re a0) a1) λ v8=>cond (ieq v5.2 v6.2) (qa (qfL m (re v5.1.1,(v5.1.2.1,(v5.1.2.2.1,v5.1.2.2.2)))
 (re v6.1.1,(v6.1.2.1,(v6.1.2.2.1,v6.1.2.2.2)))) λ v9=>cond v9 (cond (ieq v7.2 v8.2) (qa (yR m (re v7.1) (re v8.1)) λ v10=>some v10) (some false)) (some false)) (some false)))
def law53_RatchetNew:Nat→(T→Int→Z1):=qf (λ _ _=>none) λ m _=>qcg m
end
end Go.AmYtbpnmbmdbblehaaGreat
namespace Go.AmYtbpnmbmdbblehaaGreat
open Go Go.GxYtbpnmbmdbblehaaGreat
def Ev {α : Type} (F:Nat→Nat→Option α) (r : α):Prop:=∃ B,∀ m k,B≤m→B≤k→F m k=some r
section
variable {α β : Type} {F G:Nat→Nat→Option α} {r : α}
theorem Ev.pure (r : α):Ev (λ _ _=>some r) r:=⟨0,λ _ _ _ _=>rfl⟩
theorem Ev.ret {r r' : α} (h:r=r'):Ev (λ _ _=>some r) r':=by subst h;exact .pure r
theorem Ev.bind {X:Nat→Nat→Option β} {K:Nat→Nat → β → Option α} {a : β} (h:Ev X a) (g:Ev (λ m k=>K m k a) r):Ev (λ m k=>qa (X m k) (K m k)) r:=by
 obtain ⟨B,h⟩:=h
 obtain ⟨C,g⟩:=g
 refine ⟨max B C,λ m k hm hk=>?_⟩
 simp only [h m k (by omega) (by omega),qa]
 exact g m k (by omega) (by omega)
theorem Ev.congr (h:Ev F r) (e:∀ m k,G m k=F m k):Ev G r:=by
 obtain ⟨B,h⟩:=h
 exact ⟨B,λ m k hm hk=>(e m k).trans (h m k hm hk)⟩
theorem Ev.res {r' : α} (h:Ev F r) (e:r=r'):Ev F r':=by subst e;exact h
theorem Ev.succ {f:Nat→Option α} (h:Ev (λ m _=>f (m+1)) r):Ev (λ m _=>f m) r:=by
 obtain ⟨B,h⟩:=h
 refine ⟨B+1,λ m k hm hk=>?_⟩
 obtain ⟨m,rfl⟩:∃ n,m=n+1:=⟨m-1,by omega⟩
 exact h m B (by omega) (Nat.le_refl _)
theorem Ev.loop {L:Nat→Nat→Option α} (h:Ev (λ m k=>L m (k+1)) r):Ev (λ m k=>L m k) r:=by
 obtain ⟨B,h⟩:=h
 refine ⟨B+1,λ m k hm hk=>?_⟩
 obtain ⟨k,rfl⟩:∃ n,k=n+1:=⟨k-1,by omega⟩
 exact h m k (by omega) (by omega)
theorem Ev.diag {L:Nat→Nat→Option α} (h:Ev L r):Ev (λ m _=>L m m) r:=by
 obtain ⟨B,h⟩:=h
 exact ⟨B,λ m k hm _=>h m m hm hm⟩
theorem Ev.ct {b:Bool} (hb:b=true) (h:Ev F r):Ev (λ m k=>cond b (F m k) (G m k)) r:=by subst hb;exact h
theorem Ev.cf {b:Bool} (hb:b=false) (h:Ev G r):Ev (λ m k=>cond b (F m k) (G m k)) r:=by subst hb;exact h
theorem Ev.ite {b:Bool} (h:b=true→Ev F r) (g:b=false→Ev G r):Ev (λ m k=>cond b (F m k) (G m k)) r:=by
 cases b with
 | true=>exact h rfl
 | false=>exact g rfl
theorem Ev.some {x:Option β} {K:Nat→Nat → β → Option α} {a : β} (hx:x=some a) (g:Ev (λ m k=>K m k a) r):Ev (λ m k=>qa x (K m k)) r:=by subst hx;exact g
theorem Ev.case {l:List β} {K:Nat→Nat → β → List β → Option α} (h:l=[]→Ev F r) (g:∀ x t,l=x::t→Ev (λ m k=>K m k x t) r):Ev (λ m k=>qii l (F m k) (K m k)) r:=by
 cases l with
 | nil=>exact h rfl
 | cons x t=>exact g x t rfl
theorem Ev.get {x:Option α} (h:Ev (λ _ _=>x) r):x=Option.some r:=by
 obtain ⟨B,h⟩:=h
 exact h B B (Nat.le_refl _) (Nat.le_refl _)
end
theorem qv {a b:Int}:ilt a b=true↔a<b:=by unfold ilt;exact decide_eq_true_iff
theorem qu {a b:Int}:ilt a b=false↔b≤a:=by unfold ilt;rw [decide_eq_false_iff_not];omega
theorem qgP {a b:Int}:ile a b=true↔a≤b:=by unfold ile;exact decide_eq_true_iff
theorem qik {a b:Int}:ile a b=false↔b<a:=by unfold ile;rw [decide_eq_false_iff_not];omega
theorem qi {a b:Int}:ieq a b=true↔a=b:=by unfold ieq;exact beq_iff_eq
theorem qg {a b:Int}:ieq a b=false↔a≠b:=by unfold ieq;exact beq_eq_false_iff_ne
theorem bnt {b:Bool}:qc b=true↔b=false:=by cases b<;>simp [qc]
theorem bnf {b:Bool}:qc b=false↔b=true:=by cases b<;>simp [qc]
theorem yZ {a b:List UInt8}:qB a b=true↔a=b:=by unfold qB;exact beq_iff_eq
theorem jn {a b:List UInt8}:qB a b=false↔a≠b:=by unfold qB;exact beq_eq_false_iff_ne
theorem Qn {n:Int} (h:-9223372036854775808≤n∧n≤9223372036854775807):iw .i64 n=n:=IntWalk.i64_in n h
theorem ql0 (a b:Nat):qj (a:Int) (b:Int)=((a+b:Nat):Int):=by unfold qj;omega
theorem zh {n b:Nat} (h:n*b≤2 ^ 47) (hb:0<b):yl n b=true:=by
 unfold yl
 rw [decide_eq_true_iff]
 refine ⟨h,?_⟩
 have:n*1≤n*b:=Nat.mul_le_mul_left _ hb
 omega
theorem jG {α : Type} (l:List α) (i:Nat):qd l (i:Int)=l[i]? := by
 unfold qd
 rw [if_pos (by omega),Int.toNat_natCast]
theorem Jb {α : Type} (l:List α):qd l 0=l[0]? := jG l 0
theorem qr {α : Type} {P:Nat→Prop} (l:List α) (hl:l.length<2 ^ 62) (hend:ilt (l.length:Int) (l.length:Int)=false→P l.length)
  (hstep:∀ (i:Nat) (x : α),l[i]? = some x→l.drop i=x::l.drop (i+1)→ilt (i:Int) (l.length:Int)=true→qd l (i:Int)=some x→iw .i64 (qj (i:Int) 1)=((i+1:Nat):Int)→P (i+1)→P i):∀ i,i≤l.length→P i:=by
 intro i hi
 obtain ⟨d,hd⟩:∃ d,l.length=i+d:=⟨l.length-i,by omega⟩
 induction d generalizing i with
 | zero =>
   have:i=l.length:=by omega
   subst this
   exact hend (qu.2 (Int.le_refl _))
 | succ d ih =>
   have hlt:i<l.length:=by omega
   have hget:=List.getElem?_eq_getElem hlt
   refine hstep i _ hget (List.drop_eq_getElem_cons hlt) (qv.2 (by omega)) (by rw [jG,hget]) ?_ (ih (i+1) (by omega) (by omega))
   rw [show qj (i:Int) 1=((i+1:Nat):Int) by unfold qj;omega,Qn (by omega)]
end Go.AmYtbpnmbmdbblehaaGreat
namespace Go.AmYtbpnmbmdbblehaaGreat
open Go Go.GxYtbpnmbmdbblehaaGreat
set_option linter.unusedVariables false
theorem qy4 (m):qeY (m+1)=qi2 m:=rfl
theorem qv7 (m):qaW (m+1)=qdP m (jC m m):=rfl
theorem qkX (m k):(jC m (k+1))=qdR m (jC m k):=rfl
theorem qxS (m):zD (m+1)=qer m (zD m) (yU m (zD m) m):=rfl
theorem qmn (m k):(yU m (zD m) (k+1))=qel m (zD m) (yU m (zD m) k):=rfl
theorem qw0 (m):zu (m+1)=qhq m:=rfl
theorem qq1 (m):qal (m+1)=qbU m (Ql m m):=rfl
theorem qiU (m k):(Ql m (k+1))=qbF m (Ql m k):=rfl
theorem qtO (m):qz (m+1)=qcF m (qz m) (qN m (qz m) m).1 (qN m (qz m) m).2:=rfl
theorem qj5 (m k):(qN m (qz m) (k+1)).1=qcB m (qz m) (qN m (qz m) k).1 (qN m (qz m) k).2:=rfl
theorem qjH (m k):(qN m (qz m) (k+1)).2=qcv m (qz m) (qN m (qz m) k).1 (qN m (qz m) k).2:=rfl
theorem qte (m):qcQ (m+1)=qf3 m:=rfl
theorem qzu (m):qby (m+1)=qjf m:=rfl
theorem qzA (m):je (m+1)=qft m (je m) (qaU m (je m) m):=rfl
theorem qog (m k):(qaU m (je m) (k+1))=qfc m (je m) (qaU m (je m) k):=rfl
theorem qth (m):qs (m+1)=qcq m (qs m) (jo m (qs m) m):=rfl
theorem qfS (m k):(jo m (qs m) (k+1))=qaF m (qs m) (jo m (qs m) k):=rfl
theorem qvA (m):j9 (m+1)=qf8 m:=rfl
theorem qzz (m):yv (m+1)=qiM m:=rfl
theorem qqj (m):JR (m+1)=qdZ m:=rfl
theorem qea (m):zc (m+1)=yC m (ql m m).1 (ql m m).2:=rfl
theorem Jy (m k):(ql m (k+1)).1=yx m (ql m k).1 (ql m k).2:=rfl
theorem Jv (m k):(ql m (k+1)).2=yy m (ql m k).1 (ql m k).2:=rfl
theorem qzp (m):qgX (m+1)=qfl m (qaO m m):=rfl
theorem qm2 (m k):(qaO m (k+1))=qfK m (qaO m k):=rfl
theorem qA3 (m):qgh (m+1)=qgJ m (qbS m m):=rfl
theorem qps (m k):(qbS m (k+1))=qgM m (qbS m k):=rfl
theorem qt7 (m):zO (m+1)=qcA m (zO m) (jR m (zO m) m):=rfl
theorem qjP (m k):(jR m (zO m) (k+1))=qcw m (zO m) (jR m (zO m) k):=rfl
theorem qxX (m):yb (m+1)=qej m (yb m) (JX m (yb m) m):=rfl
theorem qmw (m k):(JX m (yb m) (k+1))=qeu m (yb m) (JX m (yb m) k):=rfl
theorem qt5 (m):qcX (m+1)=qcD m (JS m m):=rfl
theorem qq0 (m k):(JS m (k+1))=qf5 m (JS m k):=rfl
theorem qCr (m):QF (m+1)=qh3 m (QF m) (qc4 m (QF m) m):=rfl
theorem qru (m k):(qc4 m (QF m) (k+1))=qig m (QF m) (qc4 m (QF m) k):=rfl
theorem qDL (m):qkS (m+1)=qib m (qc0 m m):=rfl
theorem qsc (m k):(qc0 m (k+1))=qhR m (qc0 m k):=rfl
theorem qo2 (m):Jn (m+1)=qcP m:=rfl
theorem qql (m):za (m+1)=qa2 m (za m) (jJ m (za m) m):=rfl
theorem qhG (m k):(jJ m (za m) (k+1))=qa0 m (za m) (jJ m (za m) k):=rfl
theorem qmS (m):Qp (m+1)=qbG m:=rfl
theorem j8 (m):qx (m+1)=qD m (qn m m):=rfl
theorem zY (m k):(qn m (k+1))=qE m (qn m k):=rfl
theorem qpg (m):Ji (m+1)=qc2 m:=rfl
theorem qnD (m):qY (m+1)=qab m (qY m) (yQ m (qY m) m):=rfl
theorem qf7 (m k):(yQ m (qY m) (k+1))=qac m (qY m) (yQ m (qY m) k):=rfl
theorem qvM (m):JP (m+1)=qgq m:=rfl
theorem qqx (m):QM (m+1)=qbe m (jm m m):=rfl
theorem qhI (m k):(jm m (k+1))=qa1 m (jm m k):=rfl
theorem qr0 (m):jB (m+1)=qbB m (qt m m).1 (qt m m).2.1 (qt m m).2.2:=rfl
theorem qiK (m k):(qt m (k+1)).1=qbJ m (qt m k).1 (qt m k).2.1 (qt m k).2.2:=rfl
theorem qiI (m k):(qt m (k+1)).2.1=qbE m (qt m k).1 (qt m k).2.1 (qt m k).2.2:=rfl
theorem qi3 (m k):(qt m (k+1)).2.2=qbR m (qt m k).1 (qt m k).2.1 (qt m k).2.2:=rfl
theorem qpe (m):qar (m+1)=qaH m (ju m m):=rfl
theorem qgT (m k):(ju m (k+1))=qaB m (ju m k):=rfl
theorem qmU (m):Jx (m+1)=qb0 m:=rfl
theorem qas (m):qW (m+1)=zm m (qw m m):=rfl
theorem zZ (m k):(qw m (k+1))=qP m (qw m k):=rfl
theorem J3 (m):qO (m+1)=zL m:=rfl
theorem qpf (m):qaG (m+1)=qcS m:=rfl
theorem qs3 (m):qcT (m+1)=qcu m (QP m m):=rfl
theorem qjO (m k):(QP m (k+1))=qcH m (QP m k):=rfl
theorem qtL (m):qcK (m+1)=qf2 m:=rfl
theorem qrL (m):zM (m+1)=qbH m (zM m) (Qb m (zM m) m):=rfl
theorem qiC (m k):(Qb m (zM m) (k+1))=qbC m (zM m) (Qb m (zM m) k):=rfl
theorem qsq (m):qb6 (m+1)=qeN m:=rfl
theorem qqM (m):qbw (m+1)=qdU m:=rfl
theorem qlc (m):qI (m+1)=Jl m (qI m) (yh m (qI m) m):=rfl
theorem qeW (m k):(yh m (qI m) (k+1))=Jm m (qI m) (yh m (qI m) k):=rfl
theorem qto (m):qcY (m+1)=qfG m:=rfl
theorem qki (m):Qo (m+1)=qai m:=rfl
theorem qmV (m):qZ (m+1)=JM m (qZ m) (yX m (qZ m) m):=rfl
theorem qfT (m k):(yX m (qZ m) (k+1))=JH m (qZ m) (yX m (qZ m) k):=rfl
theorem qbx (m):qS (m+1)=qoF (qs m):=rfl
theorem qqc (m):ya (m+1)=qdW m:=rfl
theorem qaq (m):qF (m+1)=qrQ (ya m):=rfl
theorem qtE (m):qdi (m+1)=qcC m (QT m m):=rfl
theorem qjt (m k):(QT m (k+1))=qcx m (QT m k):=rfl
theorem qvF (m):qgI (m+1)=qgf m:=rfl
theorem qzb (m):qhb (m+1)=qiR m:=rfl
theorem qsa (m):jE (m+1)=qeG m:=rfl
theorem qDS (m):qkz (m+1)=qh4 m (qe3 m m):=rfl
theorem qBA (m k):(qe3 m (k+1))=qlN m (qe3 m k):=rfl
theorem qqH (m):yE (m+1)=qd3 m:=rfl
theorem qwe (m):qcd (m+1)=qgD m:=rfl
theorem qpa (m):Jj (m+1)=qcM m:=rfl
theorem qs2 (m):qbj (m+1)=qfX m:=rfl
theorem qwm (m):qca (m+1)=qgw m:=rfl
theorem qvP (m):qaR (m+1)=qdm m (Jo m m):=rfl
theorem qkL (m k):(Jo m (k+1))=qdr m (Jo m k):=rfl
theorem qsV (m):Ja (m+1)=qfs m:=rfl
theorem qyR (m):yz (m+1)=qeB m (yz m) (J7 m (yz m) m):=rfl
theorem qml (m k):(J7 m (yz m) (k+1))=qep m (yz m) (J7 m (yz m) k):=rfl
theorem qrT (m):zi (m+1)=qbK m (zi m) (Qi m (zi m) m):=rfl
theorem qiY (m k):(Qi m (zi m) (k+1))=qbT m (zi m) (Qi m (zi m) k):=rfl
theorem qyj (m):yR (m+1)=qhn m:=rfl
theorem qs1 (m):JZ (m+1)=qfm m:=rfl
theorem qv2 (m):qcf (m+1)=qgt m:=rfl
theorem qty (m):Qh (m+1)=qco m (QE m m):=rfl
theorem qjD (m k):(QE m (k+1))=qcl m (QE m k):=rfl
theorem qwL (m):qfC (m+1)=qhj m:=rfl
theorem qvw (m):yH (m+1)=qds m (yH m) (Jq m (yH m) m):=rfl
theorem qkt (m k):(Jq m (yH m) (k+1))=qdv m (yH m) (Jq m (yH m) k):=rfl
theorem qvQ (m):yK (m+1)=qdF m (yK m) (Js m (yK m) m):=rfl
theorem qkK (m k):(Js m (yK m) (k+1))=qdD m (yK m) (Js m (yK m) k):=rfl
theorem qwj (m):zI (m+1)=qgc m:=rfl
theorem qyN (m):qb1 (m+1)=qet m (JV m m):=rfl
theorem qmk (m k):(JV m (k+1))=qem m (JV m k):=rfl
theorem qyT (m):qf4 (m+1)=qew m (JU m m):=rfl
theorem qmm (m k):(JU m (k+1))=qeo m (JU m k):=rfl
theorem qtb (m):qcU (m+1)=qcz m (QS m m):=rfl
theorem qjF (m k):(QS m (k+1))=qct m (QS m k):=rfl
theorem qwa (m):yq (m+1)=qdA m (yq m) (Qs m (yq m) m):=rfl
theorem qkv (m k):(Qs m (yq m) (k+1))=qdz m (yq m) (Qs m (yq m) k):=rfl
theorem qvr (m):qee (m+1)=qgb m:=rfl
theorem qzC (m):yu (m+1)=qiW m:=rfl
theorem qBJ (m):J1 (m+1)=qkm m:=rfl
theorem qrf (m):qb5 (m+1)=qeF m:=rfl
theorem qzx (m):qg8 (m+1)=qfj m (qaN m m):=rfl
theorem qnM (m k):(qaN m (k+1))=qfF m (qaN m k):=rfl
theorem qy7 (m):qe4 (m+1)=qfn m (qaZ m m):=rfl
theorem qnC (m k):(qaZ m (k+1))=qfb m (qaZ m k):=rfl
theorem qtF (m):qdj (m+1)=qcp m (QR m m):=rfl
theorem qjS (m k):(QR m (k+1))=qcI m (QR m k):=rfl
theorem qwV (m):qdy (m+1)=qeC m (Je m m):=rfl
theorem qmt (m k):(Je m (k+1))=qes m (Je m k):=rfl
theorem qqe (m):zr (m+1)=qbc m (zr m) (ji m (zr m) m):=rfl
theorem qhN (m k):(ji m (zr m) (k+1))=qa6 m (zr m) (ji m (zr m) k):=rfl
theorem qvC (m):qd9 (m+1)=qdH m (Jt m m):=rfl
theorem qkW (m k):(Jt m (k+1))=qdp m (Jt m k):=rfl
theorem qwD (m):qfo (m+1)=qhA m:=rfl
theorem qwM (m):qfw (m+1)=qhy m:=rfl
theorem qza (m):qgS (m+1)=qe8 m (qaL m m):=rfl
theorem qmW (m k):(qaL m (k+1))=qfi m (qaL m k):=rfl
theorem qr3 (m):Jp (m+1)=qeI m:=rfl
theorem qvx (m):yn (m+1)=qdM m (yn m) (Qq m (yn m) m):=rfl
theorem qkE (m k):(Qq m (yn m) (k+1))=qdK m (yn m) (Qq m (yn m) k):=rfl
theorem qzE (m):qe1 (m+1)=qfH m (Q3 m m):=rfl
theorem qnY (m k):(Q3 m (k+1))=qfB m (Q3 m k):=rfl
theorem qrq (m):zG (m+1)=qbW m (zG m) (jv m (zG m) m):=rfl
theorem qi4 (m k):(jv m (zG m) (k+1))=qbM m (zG m) (jv m (zG m) k):=rfl
theorem qA7 (m):qeO (m+1)=qkb m:=rfl
theorem qv8 (m):qaX (m+1)=qdG m (Qt m m):=rfl
theorem qkB (m k):(Qt m (k+1))=qdO m (Qt m k):=rfl
theorem qqC (m):qbt (m+1)=qa5 m (qk m m).1 (qk m m).2.1 (qk m m).2.2.1 (qk m m).2.2.2:=rfl
theorem qhJ (m k):(qk m (k+1)).1=qa4 m (qk m k).1 (qk m k).2.1 (qk m k).2.2.1 (qk m k).2.2.2:=rfl
theorem qhD (m k):(qk m (k+1)).2.1=qa7 m (qk m k).1 (qk m k).2.1 (qk m k).2.2.1 (qk m k).2.2.2:=rfl
theorem qhQ (m k):(qk m (k+1)).2.2.1=qba m (qk m k).1 (qk m k).2.1 (qk m k).2.2.1 (qk m k).2.2.2:=rfl
theorem qhM (m k):(qk m (k+1)).2.2.2=qa8 m (qk m k).1 (qk m k).2.1 (qk m k).2.2.1 (qk m k).2.2.2:=rfl
theorem qxj (m):qaA (m+1)=qhk m:=rfl
theorem qsM (m):qam (m+1)=qeM m:=rfl
theorem qsK (m):qb8 (m+1)=qbQ m (Qj m m):=rfl
theorem qiE (m k):(Qj m (k+1))=qbX m (Qj m k):=rfl
theorem qzk (m):qg3 (m+1)=qfI m (JO m m):=rfl
theorem qng (m k):(JO m (k+1))=qfr m (JO m k):=rfl
theorem qvK (m):qed (m+1)=qgE m:=rfl
theorem qs7 (m):ye (m+1)=qcs m (ye m) (QD m (ye m) m):=rfl
theorem qj3 (m k):(QD m (ye m) (k+1))=qcn m (ye m) (QD m (ye m) k):=rfl
theorem qs0 (m):qdc (m+1)=qfJ m:=rfl
theorem qzF (m):jk (m+1)=qfp m (jk m) (qaS m (jk m) m):=rfl
theorem qn4 (m k):(qaS m (jk m) (k+1))=qfh m (jk m) (qaS m (jk m) k):=rfl
theorem qvk (m):qd8 (m+1)=qdE m (Jr m m):=rfl
theorem qk3 (m k):(Jr m (k+1))=qdl m (Jr m k):=rfl
theorem qzr (m):qhd (m+1)=qfQ m (qaY m m):=rfl
theorem qm5 (m k):(qaY m (k+1))=qfq m (qaY m k):=rfl
theorem qxO (m):qfA (m+1)=qeA m (J5 m m):=rfl
theorem qmq (m k):(J5 m (k+1))=qeq m (J5 m k):=rfl
theorem qw8 (m):qfN (m+1)=qhs m:=rfl
theorem qtf (m):qcL (m+1)=qf0 m:=rfl
theorem qtN (m):Qf (m+1)=qfa m:=rfl
theorem qzw (m):qeZ (m+1)=qji m:=rfl
theorem qsj (m):qao (m+1)=qeH m:=rfl
theorem qxc (m):qdq (m+1)=qhB m:=rfl
theorem qxw (m):qav (m+1)=qhv m:=rfl
theorem qy9 (m):qe5 (m+1)=qiQ m:=rfl
theorem qtJ (m):yi (m+1)=qcE m (yi m) (QN m (yi m) m):=rfl
theorem qj1 (m k):(QN m (yi m) (k+1))=qcr m (yi m) (QN m (yi m) k):=rfl
theorem qzf (m):qhg (m+1)=qfD m (qaM m m):=rfl
theorem qnq (m k):(qaM m (k+1))=qfW m (qaM m k):=rfl
theorem qzi (m):qgY (m+1)=qfM m (qaQ m m):=rfl
theorem qn8 (m k):(qaQ m (k+1))=qfP m (qaQ m k):=rfl
theorem qyZ (m):qfL (m+1)=qey m (JY m m):=rfl
theorem qmF (m k):(JY m (k+1))=qen m (JY m k):=rfl
theorem qoj (m):law53_RatchetNew (m+1)=qcg m:=rfl
end Go.AmYtbpnmbmdbblehaaGreat
namespace Go.GxYtbpnmbmdbblehaaGreat
def size:T→Nat:=T.para λ _ rs=>1+rs.sum
theorem qC (t:T):size t=1+(t.kids.map size).sum:=T.para_eq _ _
theorem size_pos (t:T):1≤size t:=by rw [qC];omega
theorem qB2 (l:List T):l.length≤(l.map size).sum:=by
 induction l with
 | nil=>simp
 | cons x l ih=>have:=size_pos x;simp only [List.length_cons,List.map_cons,List.sum_cons];omega
theorem qhX (l:List T) (x:T) (h:x∈l):size x≤(l.map size).sum:=by
 induction l with
 | nil=>cases h
 | cons y l ih =>
   simp only [List.map_cons,List.sum_cons]
   rcases List.mem_cons.1 h with rfl | h
   ·omega
   ·have:=ih h;omega
theorem jf (t:T) (x:T) (h:x∈t.kids):size x<size t:=by
 have:=qhX t.kids x h
 rw [qC t];omega
theorem yF (t:T):t.kids.length<size t:=by
 have:=qB2 t.kids
 rw [qC t];omega
def sgn (a b:Int):Int:=if a<b then -1 else if b<a then 1 else 0
def thn (x y:Int):Int:=if x=0 then y else x
structure Cmp {α : Type} (f : α → α → Int):Prop where
 rng:∀ a b,f a b=-1∨f a b=0∨f a b=1
 anti:∀ a b,f b a=- f a b
 trans:∀ a b c,f a b=-1→f b c=-1→f a c=-1
 same:∀ a b c,f a b=0→f b c=f a c
theorem Cmp.thn {α : Type} {f g : α → α → Int} (hf:Cmp f) (hg:Cmp g):Cmp λ a b=>thn (f a b) (g a b):=by
 constructor
 ·intro a b
  have:=hf.rng a b;have:=hg.rng a b
  unfold GxYtbpnmbmdbblehaaGreat.thn;split<;>omega
 ·intro a b
  have:=hf.anti a b;have:=hg.anti a b
  unfold GxYtbpnmbmdbblehaaGreat.thn;split<;>split<;>omega
 ·intro a b c h1 h2
  have a1:=hf.anti a b;have a2:=hf.anti b c;have a3:=hf.anti a c
  have t1:=hf.trans a b c;have t2:=hg.trans a b c
  have s1:=hf.same a b c;have s2:=hf.same c b a
  have r1:=hf.rng a b;have r2:=hf.rng b c;have r3:=hf.rng a c
  unfold GxYtbpnmbmdbblehaaGreat.thn at h1 h2 ⊢
  by_cases x1:f a b=0
  ·by_cases x2:f b c=0
   ·rw [if_pos x1] at h1
    rw [if_pos x2] at h2
    rw [if_pos (by rw [← s1 x1];exact x2)]
    exact t2 h1 h2
   ·rw [if_neg x2] at h2
    rw [if_neg (by rw [← s1 x1];exact x2),← s1 x1]
    exact h2
  ·rw [if_neg x1] at h1
   by_cases x2:f b c=0
   ·have:=s2 (by omega)
    rw [if_neg (by omega)]
    omega
   ·rw [if_neg x2] at h2
    have:=t1 h1 h2
    rw [if_neg (by omega)]
    exact this
 ·intro a b c h
  have x1:f a b=0:=by
   unfold GxYtbpnmbmdbblehaaGreat.thn at h
   split at h
   ·assumption
   ·exact absurd h (by assumption)
  have x2:g a b=0:=by
   unfold GxYtbpnmbmdbblehaaGreat.thn at h
   rwa [if_pos x1] at h
  show GxYtbpnmbmdbblehaaGreat.thn _ _=GxYtbpnmbmdbblehaaGreat.thn _ _
  rw [hf.same a b c x1,hg.same a b c x2]
theorem Cmp.on {α β : Type} {f : β → β → Int} (hf:Cmp f) (p : α → β):Cmp λ a b=>f (p a) (p b) :=
 ⟨λ _ _=>hf.rng _ _,λ _ _=>hf.anti _ _,λ _ _ _=>hf.trans _ _ _,λ _ _ _=>hf.same _ _ _⟩
theorem qon:Cmp sgn:=by
 constructor
 ·intro a b;unfold sgn;split<;>(try split)<;>omega
 ·intro a b;unfold sgn;split<;>split<;>(try split)<;>omega
 ·intro a b c;unfold sgn;split<;>split<;>(try split)<;>(try split)<;>omega
 ·intro a b c;unfold sgn;split<;>split<;>(try split)<;>(try split)<;>omega
theorem qi9 {a b:Int} (h:sgn a b=0):a=b:=by unfold sgn at h;split at h<;>(try split at h)<;>omega
theorem qEa (a:Int):sgn a a=0:=by unfold sgn;split<;>(try split)<;>omega
open Lib (compareBytes)
theorem quz (a:List UInt8):compareBytes a a=0:=by
 induction a with
 | nil=>rfl
 | cons x a ih=>simp [compareBytes,ih]
theorem qk7:∀ a b:List UInt8,compareBytes a b=-1∨compareBytes a b=0∨compareBytes a b=1
 | [],[]=>by simp [compareBytes]
 | [],_::_=>by simp [compareBytes]
 | _::_,[]=>by simp [compareBytes]
 | x::a,y::b=>by
   unfold compareBytes
   split
   ·simp
   ·split
    ·simp
    ·exact qk7 a b
theorem quN:∀ a b:List UInt8,compareBytes b a=- compareBytes a b
 | [],[]=>by simp [compareBytes]
 | [],_::_=>by simp [compareBytes]
 | _::_,[]=>by simp [compareBytes]
 | x::a,y::b=>by
   have:=quN a b
   unfold compareBytes
   simp only [UInt8.lt_iff_toNat_lt]
   split<;>split<;>(try split)<;>omega
theorem qjM:∀ a b:List UInt8,compareBytes a b=0→a=b
 | [],[],_=>rfl
 | [],_::_,h=>by simp [compareBytes] at h
 | _::_,[],h=>by simp [compareBytes] at h
 | x::a,y::b,h=>by
   unfold compareBytes at h
   simp only [UInt8.lt_iff_toNat_lt] at h
   split at h
   ·omega
   ·split at h
    ·omega
    ·rw [qjM a b h,UInt8.toNat_inj.1 (show x.toNat=y.toNat by omega)]
theorem qrm:∀ a b c:List UInt8,compareBytes a b=-1→compareBytes b c=-1→compareBytes a c=-1
 | [],_,[],h1,h2=>by
   rename_i b
   cases b<;>simp [compareBytes] at h1 h2
 | [],_,_::_,_,_=>by simp [compareBytes]
 | _::_,[],_,h1,_=>by simp [compareBytes] at h1
 | _::_,_::_,[],_,h2=>by simp [compareBytes] at h2
 | x::a,y::b,z::c,h1,h2=>by
   have ih:=qrm a b c
   unfold compareBytes at h1 h2 ⊢
   simp only [UInt8.lt_iff_toNat_lt] at h1 h2 ⊢
   split at h1
   ·split at h2
    ·rw [if_pos (by omega)]
    ·split at h2
     ·omega
     ·rw [if_pos (by omega)]
   ·split at h1
    ·omega
    ·split at h2
     ·rw [if_pos (by omega)]
     ·split at h2
      ·omega
      ·rw [if_neg (by omega),if_neg (by omega)];exact ih h1 h2
theorem qEM:Cmp compareBytes :=
 ⟨qk7,quN,qrm,λ a b c h=>by rw [qjM a b h]⟩
def Qc:List (T→Int)→List T→Int
 | r::rs,b::bs=>thn (r b) (Qc rs bs)
 | _,_=>0
def qho (a b:T):Int :=
 thn (sgn (size a) (size b)) (thn (sgn a.kind b.kind) (thn (compareBytes a.name b.name) (thn (sgn a.sort b.sort) (sgn a.kids.length b.kids.length))))
def qp:T→T→Int:=T.para λ a rs b=>thn (qho a b) (Qc rs b.kids)
theorem qeQ (a b:T):qp a b=thn (qho a b) (Qc (a.kids.map qp) b.kids):=congrFun (T.para_eq _ _) b
theorem qcO:Cmp qho :=
 (qon.on λ t:T=>(size t:Int)).thn ((qon.on T.kind).thn ((qEM.on T.name).thn ((qon.on T.sort).thn (qon.on λ t:T=>(t.kids.length:Int)))))
theorem qeJ {x y:Int} (h:thn x y=0):x=0∧y=0:=by unfold thn at h;split at h<;>omega
theorem qnd {a b:T} (h:qho a b=0):a.kind=b.kind∧a.name=b.name∧a.sort=b.sort∧a.kids.length=b.kids.length:=by
 unfold qho at h
 obtain ⟨_,h⟩:=qeJ h
 obtain ⟨h2,h⟩:=qeJ h
 obtain ⟨h3,h⟩:=qeJ h
 obtain ⟨h4,h5⟩:=qeJ h
 have:=qi9 h5
 exact ⟨qi9 h2,qjM _ _ h3,qi9 h4,by omega⟩
theorem qD2 (a:T):qho a a=0:=by
 unfold qho thn
 simp [qEa,quz]
theorem T.ext {a b:T} (h1:a.kind=b.kind) (h2:a.name=b.name) (h3:a.sort=b.sort) (h4:a.kids=b.kids):a=b:=by
 obtain ⟨k,n,s,l⟩:=a
 obtain ⟨k',n',s',l'⟩:=b
 simp only [T.kind,T.name,T.sort,T.kids] at h1 h2 h3 h4
 rw [h1,h2,h3,h4]
theorem qod (a:T):qp a a=0:=by
 refine T.ind (P := λ a=>qp a a=0) ?_ a
 intro a ih
 rw [qeQ,qD2,thn,if_pos rfl]
 generalize a.kids=l at *
 induction l with
 | nil=>rfl
 | cons x l ihl =>
   rw [List.map_cons,Qc,ih x (List.mem_cons_self ..),thn,if_pos rfl]
   exact ihl λ k hk=>ih k (List.mem_cons_of_mem _ hk)
theorem JQ (a:T):∀ b,qp a b=0→a=b:=by
 refine T.ind (P := λ a=>∀ b,qp a b=0→a=b) ?_ a
 intro a ih b h
 rw [qeQ] at h
 obtain ⟨h1,h2⟩:=qeJ h
 obtain ⟨k1,k2,k3,k4⟩:=qnd h1
 refine T.ext k1 k2 k3 ?_
 generalize a.kids=l at *
 generalize b.kids=m at *
 clear h h1
 induction l generalizing m with
 | nil=>exact (List.length_eq_zero_iff.1 k4.symm).symm
 | cons x l ihl =>
   cases m with
   | nil=>simp at k4
   | cons y m =>
     rw [List.map_cons,Qc] at h2
     obtain ⟨h3,h4⟩:=qeJ h2
     rw [ih x (List.mem_cons_self ..) y h3,ihl (λ k hk=>ih k (List.mem_cons_of_mem _ hk)) m h4 (by simpa using k4)]
def qsu (a:T):Prop:=(∀ b,qp a b=-1∨qp a b=0∨qp a b=1)∧(∀ b,qp b a=- qp a b)∧(∀ b c,qp a b=-1→qp b c=-1→qp a c=-1)
theorem qxp:∀ l m:List T,(∀ k∈l,qsu k)→Qc (l.map qp) m=-1∨Qc (l.map qp) m=0∨Qc (l.map qp) m=1
 | [],_,_=>by simp [Qc]
 | _::_,[],_=>by simp [Qc]
 | x::l,y::m,h=>by
   rw [List.map_cons,Qc]
   have h1:=(h x (List.mem_cons_self ..)).1 y
   have h2:=qxp l m λ k hk=>h k (List.mem_cons_of_mem _ hk)
   unfold thn;split<;>omega
theorem quV:∀ l m:List T,(∀ k∈l,qsu k)→Qc (m.map qp) l=- Qc (l.map qp) m
 | [],[],_=>by simp [Qc]
 | [],_::_,_=>by simp [Qc]
 | _::_,[],_=>by simp [Qc]
 | x::l,y::m,h=>by
   rw [List.map_cons,Qc,List.map_cons,Qc]
   have h1:=(h x (List.mem_cons_self ..)).2.1 y
   have h2:=quV l m λ k hk=>h k (List.mem_cons_of_mem _ hk)
   unfold thn;split<;>split<;>omega
theorem qsJ:∀ l m n:List T,(∀ k∈l,qsu k)→l.length=m.length→m.length=n.length→Qc (l.map qp) m=-1→Qc (m.map qp) n=-1→Qc (l.map qp) n=-1
 | [],_,_,_,_,_,h,_=>by simp [Qc] at h
 | _::_,[],_,_,h,_,_,_=>by simp at h
 | _::_,_::_,[],_,_,h,_,_=>by simp at h
 | x::l,y::m,z::n,h,e1,e2,h1,h2=>by
   rw [List.map_cons,Qc] at h1 h2 ⊢
   have hx:=h x (List.mem_cons_self ..)
   have ih:=qsJ l m n (λ k hk=>h k (List.mem_cons_of_mem _ hk)) (by simpa using e1) (by simpa using e2)
   have t1:=hx.2.2 y z
   by_cases x1:qp x y=0
   ·have:=JQ x y x1
    subst this
    rw [thn,if_pos x1] at h1
    by_cases x2:qp x z=0
    ·rw [thn,if_pos x2] at h2 ⊢
     exact ih h1 h2
    ·rw [thn,if_neg x2] at h2 ⊢
     exact h2
   ·rw [thn,if_neg x1] at h1
    by_cases x2:qp y z=0
    ·have:=JQ y z x2
     subst this
     rw [thn,if_neg x1]
     exact h1
    ·rw [thn,if_neg x2] at h2
     have:=t1 h1 h2
     rw [thn,if_neg (by omega)]
     exact this
theorem qBa (a:T):qsu a:=by
 refine T.ind (P:=qsu) ?_ a
 intro a ih
 refine ⟨λ b=>?_,λ b=>?_,λ b c h1 h2=>?_⟩
 ·rw [qeQ]
  have h1:=qcO.rng a b
  have h2:=qxp a.kids b.kids ih
  unfold thn;split<;>omega
 ·rw [qeQ,qeQ]
  have h1:=qcO.anti a b
  have h2:=quV a.kids b.kids ih
  unfold thn;split<;>split<;>omega
 ·rw [qeQ] at h1 h2 ⊢
  by_cases x1:qho a b=0
  ·rw [thn,if_pos x1] at h1
   have e:=qcO.same a b c x1
   by_cases x2:qho b c=0
   ·rw [thn,if_pos x2] at h2
    rw [thn,if_pos (by rw [← e];exact x2)]
    exact qsJ _ _ _ ih (qnd x1).2.2.2 (qnd x2).2.2.2 h1 h2
   ·rw [thn,if_neg x2] at h2
    rw [thn,if_neg (by rw [← e];exact x2),← e]
    exact h2
  ·rw [thn,if_neg x1] at h1
   by_cases x2:qho b c=0
   ·have e1:=qcO.anti b c
    have e2:=qcO.same c b a (by omega)
    have e3:=qcO.anti a b
    have e4:=qcO.anti a c
    rw [thn,if_neg (by omega)];omega
   ·rw [thn,if_neg x2] at h2
    have:=qcO.trans a b c h1 h2
    rw [thn,if_neg (by omega)];exact this
theorem zH:Cmp qp :=
 ⟨λ a=>(qBa a).1,λ a b=>(qBa a).2.1 b,λ a=>(qBa a).2.2,λ a b c h=>by rw [JQ a b h]⟩
theorem qES (a b:T):qp a b=0↔a=b:=⟨JQ a b,λ h=>by rw [h];exact qod b⟩
theorem qmz:∀ a b:List UInt8,Op.bytesLess a b=decide (compareBytes a b=-1)
 | [],[]=>by simp [Op.bytesLess,compareBytes]
 | [],_::_=>by simp [Op.bytesLess,compareBytes]
 | _::_,[]=>by simp [Op.bytesLess,compareBytes]
 | x::a,y::b=>by
   rw [Op.bytesLess,compareBytes,qmz a b]
   by_cases h1:x<y
   ·simp [h1]
   ·by_cases h2:y<x
    ·have:¬ x=y := λ e=>by rw [e] at h2;exact h1 (by rw [e];exact h2)
     simp [h1,h2,this]
    ·have:x=y:=UInt8.toNat_inj.1 (by rw [UInt8.lt_iff_toNat_lt] at h1 h2;omega)
     simp [this]
end Go.GxYtbpnmbmdbblehaaGreat
namespace Go.GxYtbpnmbmdbblehaaGreat
def qjp:List (Int→Int)→Int→Int
 | [],m=>m
 | f::fs,m=>if f m<0 then -1 else qjp fs (f m)
def qag:T→Int→Int:=T.para λ t rs m=>if m≤0∨40<t.name.length then -1 else qjp rs (m-1)
theorem qAK (t:T) (m:Int):qag t m=if m≤0∨40<t.name.length then -1 else qjp (t.kids.map qag) (m-1):=congrFun (T.para_eq _ _) m
theorem qoe (t:T):∀ m,qag t m<0∧qag t m=-1∨0≤qag t m∧qag t m=m-size t:=by
 refine T.ind (P := λ t=>∀ m,qag t m<0∧qag t m=-1∨0≤qag t m∧qag t m=m-size t) ?_ t
 intro t ih m
 have hL:∀ l:List T,(∀ k∈l,k∈t.kids)→∀ m,0≤m→(qjp (l.map qag) m<0∧qjp (l.map qag) m=-1∨0≤qjp (l.map qag) m∧qjp (l.map qag) m=m-((l.map size).sum:Nat)):=by
  intro l
  induction l with
  | nil=>intro _ m hm;right;simp [qjp];exact hm
  | cons x l ihl =>
    intro hl m hm
    simp only [List.map_cons,qjp,List.sum_cons]
    have h1:=ih x (hl x (List.mem_cons_self ..)) m
    by_cases h2:qag x m<0
    ·rw [if_pos h2];left;exact ⟨by omega,rfl⟩
    ·rw [if_neg h2]
     have h3:=ihl (λ k hk=>hl k (List.mem_cons_of_mem _ hk)) (qag x m) (by omega)
     omega
 rw [qAK,qC]
 split
 ·left;exact ⟨by omega,rfl⟩
 ·have:=hL t.kids (λ _ h=>h) (m-1) (by omega)
  omega
def qdV:T→Nat:=T.para λ _ rs=>rs.foldl max 0+1
theorem qim (t:T):qdV t=(t.kids.map qdV).foldl max 0+1:=T.para_eq _ _
theorem qyA (l:List Nat):∀ (a b:Nat),a≤b→(∀ x∈l,x≤b)→l.foldl max a≤b:=by
 induction l with
 | nil=>intro a b h _;exact h
 | cons x l ih=>intro a b h hx;exact ih _ _ (Nat.max_le.2 ⟨h,hx x (List.mem_cons_self ..)⟩) λ y hy=>hx y (List.mem_cons_of_mem _ hy)
theorem qAJ (t:T):qdV t≤size t:=by
 refine T.ind (P := λ t=>qdV t≤size t) ?_ t
 intro t ih
 rw [qim,qC]
 have:(t.kids.map qdV).foldl max 0≤(t.kids.map size).sum:=by
  refine qyA _ _ _ (Nat.zero_le _) λ x hx=>?_
  obtain ⟨k,hk,rfl⟩:=List.mem_map.1 hx
  exact Nat.le_trans (ih k hk) (qhX _ _ hk)
 omega
def qgp (c:Int):Bool:=decide (97≤c∧c≤122)||decide (65≤c∧c≤90)
def qpB (c:Int):Bool:=decide (48≤c∧c≤57)
def JI (c:Int):Bool:=qgp c||qpB c||decide (c=95)||decide (c=35)
def JB (l:List UInt8):Bool:=decide (0<l.length)&&decide (l.length≤24)&&qgp ((l.getD 0 0).toNat:Int)&&l.all λ c=>JI (c.toNat:Int)
def qlM (k so:Int) (n:Nat) (ok:Bool):Int :=
 if k=1∨k=2 then (if so<0∨5<so∨0<n then 1 else if ok then 0 else 2)
 else if k=3 then (if so≠0 then 1 else if ok then (if 8<n then 3 else 0) else 2)
 else 1
def Qm (t:T):Int:=qlM t.kind t.sort t.kids.length (JB t.name)
def Jz:T→Int:=T.para λ t rs=>rs.foldl thn (Qm t)
theorem qjx (t:T):Jz t=(t.kids.map Jz).foldl thn (Qm t):=T.para_eq _ _
theorem jU {x:Int} (h:x≠0) (y:Int):thn x y=x:=if_neg h
theorem qH (l:List Int):∀ {x:Int},x≠0→l.foldl thn x=x:=by
 induction l with
 | nil=>intro x _;rfl
 | cons y l ih=>intro x h;rw [List.foldl_cons,jU h];exact ih h
theorem jP (l:List Int) (x:Int):(x::l).foldl thn 0=l.foldl thn x:=rfl
theorem qpi {t:T} (h:Jz t=0):Qm t=0∧(∀ k∈t.kids,Jz k=0):=by
 rw [qjx] at h
 by_cases h0:Qm t=0
 ·refine ⟨h0,?_⟩
  rw [h0] at h
  generalize t.kids=l at *
  clear h0
  induction l with
  | nil=>intro k hk;cases hk
  | cons x l ih =>
    rw [List.map_cons,jP] at h
    by_cases hx:Jz x=0
    ·rw [hx] at h
     intro k hk
     rcases List.mem_cons.1 hk with rfl | hk
     ·exact hx
     ·exact ih h k hk
    ·rw [qH _ hx] at h;exact absurd h hx
 ·rw [qH _ h0] at h;exact absurd h h0
def qA (t:T):Int:=if Jz t≠0 then Jz t else if 400<size t∨40<qdV t then 3 else 0
instance:DecidableEq T := λ _ _=>Classical.propDecidable _
def yJ (a b:T):Bool:=decide (a=b)
def qnS:List T→Int→Bool
 | [],_=>true
 | x::l,m=>if qag x m<0 then false else qnS l (qag x m)
theorem quY:∀ (l:List T) (m:Int),0≤m→qnS l m=true→((l.map size).sum:Nat)≤m
 | [],m,hm,_=>by simpa using hm
 | x::l,m,hm,h=>by
   rw [qnS] at h
   by_cases hx:qag x m<0
   ·rw [if_pos hx] at h;exact absurd h (by decide)
   ·rw [if_neg hx] at h
    have h1:=qoe x m
    have h2:=quY l (qag x m) (by omega) h
    simp only [List.map_cons,List.sum_cons]
    omega
def jp:List (List UInt8 × Int × Int × Int):=[
 ([112,97,105,114],2,2,1),
 ([101,110,99],2,2,1),
 ([97,101,110,99],2,2,1),
 ([112,107],1,1,1),
 ([115,105,103,110],2,2,1),
 ([104,97,115,104],1,1,1),
 ([120,111,114],2,8,1),
 ([122,101,114,111],0,0,1),
 ([101,120,112],2,2,1),
 ([109,117,108],2,8,1),
 ([105,110,118],1,1,1),
 ([111,110,101],0,0,1),
 ([115,107],1,1,2),
 ([115,104,107],2,2,2),
 ([110,101,119],1,8,2),
 ([102,115,116],1,1,3),
 ([115,110,100],1,1,3),
 ([100,101,99],2,2,3),
 ([97,100,101,99],2,2,3),
 ([111,112,101,110],2,2,3),
 ([114,101,97,100],1,1,3)]
def qug (l:List (List UInt8 × Int × Int × Int)) (n:List UInt8):Int × Int × Int:=((l.find? λ r=>r.1==n).map (·.2)).getD (0,0,0)
theorem qCK (r:List UInt8 × Int × Int × Int) (l:List (List UInt8 × Int × Int × Int)) (n:List UInt8):qug (r::l) n=if (r.1==n)=true then r.2 else qug l n:=by
 unfold qug
 rw [List.find?_cons]
 cases h:r.1==n<;>simp
def qEH (l:List (List UInt8 × Int × Int × Int)) (n:List UInt8):Bool:=l.any λ r=>r.1==n
def qkd (l:List (List UInt8 × Int × Int × Int)) (n:List UInt8) (k:Int):Bool:=qEH l n&&decide ((qug l n).1≤k)&&decide (k≤(qug l n).2.1)
theorem qCR (r:List UInt8 × Int × Int × Int) (l:List (List UInt8 × Int × Int × Int)) (n:List UInt8) (k:Int) :
  qkd (r::l) n k=if (r.1==n)=true then decide (r.2.1≤k)&&decide (k≤r.2.2.1) else qkd l n k:=by
 unfold qkd
 rw [qCK]
 unfold qEH
 rw [List.any_cons]
 cases h:r.1==n<;>simp
def qlD:List UInt8:=[112,97,105,114]
def qln:List UInt8:=[101,110,99]
def qgL:List UInt8:=[97,101,110,99]
def nPk:List UInt8:=[112,107]
def qdJ:List UInt8:=[115,105,103,110]
def qd1:List UInt8:=[120,111,114]
def qbb:List UInt8:=[122,101,114,111]
def qdX:List UInt8:=[101,120,112]
def qfO:List UInt8:=[109,117,108]
def Qx:List UInt8:=[105,110,118]
def qhm:List UInt8:=[111,110,101]
def nSk:List UInt8:=[115,107]
def qqA:List UInt8:=[115,104,107]
def qgn:List UInt8:=[110,101,119]
def qEK:List UInt8:=[102,115,116]
def qta:List UInt8:=[115,110,100]
def qFZ:List UInt8:=[100,101,99]
def qB1:List UInt8:=[97,100,101,99]
def qBO:List UInt8:=[111,112,101,110]
def qCg:List UInt8:=[114,101,97,100]
def zT:T := .mk 0 [] 0 []
def kid (t:T) (i:Nat):T:=t.kids.getD i zT
def apT (n:List UInt8) (l:List T):T := .mk 3 n 0 l
def isN (t:T) (n:List UInt8):Bool:=t.kind==3&&t.name==n
def qG (n:List UInt8):Int × Int × Int:=((jp.find? λ r=>r.1==n).map (·.2)).getD (0,0,0)
def JL (t:T):Bool :=
 if t.name=qgn then decide ((kid t 0).kind≠2)
 else if t.name=nSk∨t.name=qqA then t.kids.any λ k=>decide (k.kind=3)||decide (k.sort≠1) else false
def qbv (t:T):Int :=
 if t.kind≠3 then 0 else if (qG t.name).2.2=0 then 10 else if (t.kids.length:Int)<(qG t.name).1∨(qG t.name).2.1<(t.kids.length:Int) then 6 else if JL t then 10 else 0
def zb:T→Int:=T.para λ t rs=>if t.kind≠3 then 0 else rs.foldl thn (qbv t)
theorem qk6 (t:T):zb t=if t.kind≠3 then 0 else (t.kids.map zb).foldl thn (qbv t):=T.para_eq _ _
def qkl (t:T):Int:=thn (qA t) (zb t)
def zN (t:T):Bool :=
 if t.name=qEK∨t.name=qta then isN (kid t 0) qlD
 else if t.name=qFZ then isN (kid t 0) qln&&yJ (kid (kid t 0) 1) (kid t 1)
 else if t.name=qB1 then isN (kid t 0) qgL&&isN (kid (kid t 0) 1) nPk&&yJ (kid (kid (kid t 0) 1) 0) (kid t 1)
 else if t.name=qBO then isN (kid t 0) qdJ&&isN (kid t 1) nPk&&yJ (kid (kid t 0) 1) (kid (kid t 1) 0)
 else if t.name=qCg then isN (kid t 0) qdJ else false
def qhz (t:T):T:=if zN t then kid (kid t 0) (if t.name=qta then 1 else 0) else t
def qbL (t:T):Bool:=t.kind==3&&(t.name==qfO||t.name==Qx||t.name==qhm)
abbrev Pw:=T × Int
def yg:List Pw→T→Int→List Pw
 | [],t,n=>[(t,n)]
 | (x,m)::l,t,n=>if qp t x=-1 then (t,n)::(x,m)::l else if qp t x=0 then (if m+n=0 then l else (x,m+n)::l) else (x,m)::yg l t n
def arK (t:T):Bool := !(t.name==qhm&&t.kids.length != 0||t.name==Qx&&t.kids.length != 1||t.name==qfO&&decide (t.kids.length<2))
def arT:T→Bool:=T.para λ t rs => !qbL t||(arK t&&rs.all id)
theorem qrU (t:T):arT t=(!qbL t||(arK t&&(t.kids.map arT).all id)):=T.para_eq _ _
def J4 (t:T) (n:Int):Int:=if t.name=Qx then -n else n
def yS:T→List Pw→Int→List Pw:=T.para λ t rs l n=>if qbL t then rs.foldl (λ l f=>f l (J4 t n)) l else yg l t n
theorem qeS (t:T) (l:List Pw) (n:Int):yS t l n=if qbL t then (t.kids.map yS).foldl (λ l f=>f l (J4 t n)) l else yg l t n:=by
 have h:yS t = λ l n=>if qbL t then (t.kids.map yS).foldl (λ l f=>f l (J4 t n)) l else yg l t n:=T.para_eq _ _
 rw [h]
def ofP (t:T):List Pw × Int :=
 if qA t≠0 then ([],qA t) else if arT t=false then ([],6) else if 200<(yS t [] 1).length then ([],3) else (yS t [] 1,0)
def pvK (q:Option T) (p:Pw):Int :=
 if qA p.1≠0 then qA p.1 else if qbL p.1 then 1 else if p.2=0∨p.2 < -1000∨1000<p.2 then 7 else match q with | some x=>if 0≤qp x p.1 then 5 else 0 | none=>0
def pvL:Option T→List Pw→Int
 | _,[]=>0
 | q,p::l=>thn (pvK q p) (pvL (some p.1) l)
def QA (l:List Pw):Int:=if 200<l.length then 3 else pvL none l
def zK (l:List Pw):List T:=l.flatMap λ p=>List.replicate p.2.toNat p.1
def zP (l:List Pw):List T:=l.flatMap λ p=>List.replicate (-p.2).toNat (apT Qx [p.1])
def Q8 (o:List T):T:=if o.length=0 then apT qhm [] else if o.length=1 then o.getD 0 zT else apT qfO o
def qad (l:List Pw):T × Int :=
 if QA l≠0 then (zT,QA l) else if 8<(zK l++zP l).length then (zT,3)
 else if qA (Q8 (zK l++zP l))≠0 then (zT,qA (Q8 (zK l++zP l))) else (Q8 (zK l++zP l),0)
def qkp (l:List Pw):Bool:=l.any λ p=>decide (p.2 < -1000)||decide (1000<p.2)
def Qk (a b:List Pw):List Pw:=b.foldl (λ l p=>yg l p.1 p.2) a
def qiG (a b:List Pw):List Pw × Int :=
 if QA a≠0 then ([],QA a) else if QA b≠0 then ([],QA b) else if qkp (Qk a b) then ([],7) else if 200<(Qk a b).length then ([],3) else (Qk a b,0)
def zd:List T→List T→List T
 | [],b=>b
 | x::a,[]=>x::a
 | x::a,y::b=>if qp x y=-1 then x::zd a (y::b) else if qp x y=1 then y::zd (x::a) b else zd a b
termination_by a b=>a.length+b.length
def jr:T→List T:=T.para λ t rs=>if isN t qbb&&t.kids.isEmpty then [] else if isN t qd1 then rs.foldl zd [] else [t]
theorem qiD (t:T):jr t=if isN t qbb&&t.kids.isEmpty then [] else if isN t qd1 then (t.kids.map jr).foldl zd [] else [t]:=T.para_eq _ _
def qkx (l:List T):Int:=if 200<l.length then 3 else (l.map qA).foldl thn 0
def zF (l:List T):List T:=(l.map jr).foldl zd []
def Ju (o:List T):T:=if o.length=0 then apT qbb [] else if o.length=1 then o.getD 0 zT else apT qd1 o
def qlh (l:List T):T × Int :=
 if qkx l≠0 then (zT,qkx l) else if qA (Ju (zF l))≠0 then (zT,3) else (Ju (zF l),0)
def qgg (b:T) (l:List Pw):T × Int :=
 if l.length=0 then (b,0) else if (qad l).2≠0 then (zT,(qad l).2) else (apT qdX [b,(qad l).1],0)
def ql9 (b e:T):T × Int :=
 if (ofP e).2≠0 then (zT,(ofP e).2)
 else if isN b qdX then
  (if (ofP (kid b 1)).2≠0 then (zT,(ofP (kid b 1)).2)
   else if (qiG (ofP (kid b 1)).1 (ofP e).1).2≠0 then (zT,(qiG (ofP (kid b 1)).1 (ofP e).1).2)
   else qgg (kid b 0) (qiG (ofP (kid b 1)).1 (ofP e).1).1)
 else qgg b (ofP e).1
def isD (n:List UInt8):Bool:=n==qEK||n==qta||n==qFZ||n==qB1||n==qBO||n==qCg
def qjz (t:T):T × Int:=if (ofP t).2≠0 then (zT,(ofP t).2) else qad (ofP t).1
def Jd (t:T):T × Int :=
 if isD t.name then (qhz t,0) else if t.name=qd1 then qlh t.kids
 else if t.name=qfO∨t.name=Qx∨t.name=qhm then qjz t
 else if t.name=qdX then ql9 (kid t 0) (kid t 1) else (t,0)
def zw:T→T × Int:=T.para λ t rs =>
 if t.kind≠3 then (t,0) else if (rs.map (·.2)).foldl thn 0≠0 then (zT,(rs.map (·.2)).foldl thn 0) else Jd (apT t.name (rs.map (·.1)))
theorem qkJ (t:T):zw t=if t.kind≠3 then (t,0) else if ((t.kids.map zw).map (·.2)).foldl thn 0≠0 then (zT,((t.kids.map zw).map (·.2)).foldl thn 0) else Jd (apT t.name ((t.kids.map zw).map (·.1))):=T.para_eq _ _
def qin (t:T):T × Int :=
 if qkl t≠0 then (zT,qkl t) else if (zw t).2≠0 then (zT,(zw t).2) else if qA (zw t).1≠0 then (zT,qA (zw t).1) else zw t
def agB (l:List T):Bool:=l.all λ k => !(k.kind==3) && !(k.sort != 1)
def qis (t:T):Bool:=if t.name=qgn then (kid t 0).kind==2 else agB t.kids
theorem qFw (k:T) (l:List T):agB (k::l)=((!(k.kind==3) && !(k.sort != 1))&&agB l):=rfl
end Go.GxYtbpnmbmdbblehaaGreat
namespace Go.AmYtbpnmbmdbblehaaGreat
open Go Go.GxYtbpnmbmdbblehaaGreat Go.Lib
theorem qjs (a b:Int):Ev (λ m _=>Ja m a b) (sgn a b):=by
 refine Ev.succ ?_
 simp only [qsV,qfs]
 unfold sgn
 refine Ev.ite (λ h=>?_) λ h=>?_
 ·exact Ev.ret (by rw [if_pos (qv.1 h)])
 ·rw [qu] at h
  refine Ev.ite (λ h'=>?_) λ h'=>?_
  ·rw [qv] at h'
   exact Ev.ret (by rw [if_neg (by omega),if_pos h'])
  ·rw [qu] at h'
   exact Ev.ret (by rw [if_neg (by omega),if_neg (by omega)])
theorem qpU {l:List T} {i:Nat} {x:T} (h:l.drop i=x::l.drop (i+1)):((l.drop i).map size).sum=size x+((l.drop (i+1)).map size).sum:=by
 rw [h,List.map_cons,List.sum_cons]
theorem qqk (t:T):size t≤1000000000→Ev (λ m _=>yz m t) (size t:Int):=by
 induction t using T.ind with
 | h t ih =>
   intro hs
   refine Ev.succ ?_
   simp only [qyR,qeB]
   have hl:=yF t
   have he:=qC t
   have key:=qr (P := λ i=>∀ acc:Nat,acc+((t.kids.drop i).map size).sum≤1000000000→Ev (λ m k=>J7 m (yz m) k acc i t.kind t.name t.sort t.kids) ((acc+((t.kids.drop i).map size).sum:Nat):Int)) t.kids (by omega)
    (λ hc acc _=>by
     refine Ev.loop ?_
     simp only [qml,qep]
     refine Ev.cf hc ?_
     exact Ev.ret (by simp))
    (λ i x hx hd hc hg hi hP acc ha=>by
     rw [qpU hd] at ha ⊢
     refine Ev.loop ?_
     simp only [qml,qep]
     refine Ev.ct hc (Ev.some hg ?_)
     rw [qe]
     refine Ev.bind (ih x (List.mem_of_getElem? hx) (by omega)) ?_
     rw [hi,ql0,Qn (by omega)]
     refine (hP (acc+size x) (by omega)).res (by congr 1;omega))
   refine Ev.diag (L := λ m k=>J7 m (yz m) k 1 0 t.kind t.name t.sort t.kids) ?_
   refine (key 0 (Nat.zero_le _) 1 (by simp;omega)).res (by rw [List.drop_zero,he])
theorem qxE (a b:Nat):qkh (a:Int) (b:Int)=((max a b:Nat):Int):=by unfold qkh;split<;>omega
theorem qox (a b:Int):Ev (λ m _=>qby m a b) (sgn a b):=by
 refine Ev.succ ?_
 simp only [qzu,qjf]
 unfold sgn
 refine Ev.ite (λ h=>?_) λ h=>?_
 ·exact Ev.ret (by rw [if_pos (qv.1 h)])
 ·rw [qu] at h
  refine Ev.ite (λ h'=>?_) λ h'=>?_
  ·rw [qv] at h'
   exact Ev.ret (by rw [if_neg (by omega),if_pos h'])
  ·rw [qu] at h'
   exact Ev.ret (by rw [if_neg (by omega),if_neg (by omega)])
theorem qyE (t:T):size t≤1000000000→Ev (λ m _=>je m t) (size t:Int):=by
 induction t using T.ind with
 | h t ih =>
   intro hs
   refine Ev.succ ?_
   simp only [qzA,qft]
   have hl:=yF t
   have he:=qC t
   have key:=qr (P := λ i=>∀ acc:Nat,acc+((t.kids.drop i).map size).sum≤1000000000→Ev (λ m k=>qaU m (je m) k acc t.kids t.kids.length i) ((acc+((t.kids.drop i).map size).sum:Nat):Int)) t.kids (by omega)
    (λ hc acc _=>by
     refine Ev.loop ?_
     simp only [qog,qfc]
     refine Ev.cf hc ?_
     exact Ev.ret (by simp))
    (λ i x hx hd hc hg hi hP acc ha=>by
     rw [qpU hd] at ha ⊢
     refine Ev.loop ?_
     simp only [qog,qfc]
     refine Ev.ct hc (Ev.some hg ?_)
     rw [qe]
     refine Ev.bind (ih x (List.mem_of_getElem? hx) (by omega)) ?_
     rw [hi,ql0,Qn (by omega)]
     refine (hP (acc+size x) (by omega)).res (by congr 1;omega))
   refine Ev.diag (L := λ m k=>qaU m (je m) k 1 t.kids t.kids.length 0) ?_
   refine (key 0 (Nat.zero_le _) 1 (by simp;omega)).res (by rw [List.drop_zero,he])
theorem qDv (t:T):size t≤1000000000→Ev (λ m _=>yK m t) (qdV t:Int):=by
 induction t using T.ind with
 | h t ih =>
   intro hs
   refine Ev.succ ?_
   simp only [qvQ,qdF]
   have hl:=yF t
   have he:=qC t
   have key:=qr (P := λ i=>∀ acc:Nat,acc≤1000000000→Ev (λ m k=>Js m (yK m) k acc i t.kind t.name t.sort t.kids) ((((t.kids.drop i).map qdV).foldl max acc+1:Nat):Int)) t.kids (by omega)
    (λ hc acc _=>by
     refine Ev.loop ?_
     simp only [qkK,qdD]
     refine Ev.cf hc ?_
     rw [show qj (acc:Int) 1=((acc+1:Nat):Int) by unfold qj;omega,Qn (by omega)]
     exact Ev.ret (by simp))
    (λ i x hx hd hc hg hi hP acc ha=>by
     refine Ev.loop ?_
     simp only [qkK,qdD]
     refine Ev.ct hc (Ev.some hg ?_)
     rw [qe]
     have hm:=List.mem_of_getElem? hx
     have h1:=jf t x hm
     have h2:=qAJ x
     refine Ev.bind (ih x hm (by omega)) ?_
     rw [hi,qxE]
     refine (hP (max acc (qdV x)) (by omega)).res ?_
     rw [hd,List.map_cons,List.foldl_cons])
   refine Ev.diag (L := λ m k=>Js m (yK m) k 0 0 t.kind t.name t.sort t.kids) ?_
   refine (key 0 (Nat.zero_le _) 0 (by omega)).res (by rw [List.drop_zero,qim])
theorem qyC (fs:List (T→Int)):Qc fs []=0:=by cases fs<;>rfl
theorem qvi {l m:List T} {i:Nat} {x y:T} (h1:l.drop i=x::l.drop (i+1)) (h2:m.drop i=y::m.drop (i+1)):Qc ((l.drop i).map qp) (m.drop i)=thn (qp x y) (Qc ((l.drop (i+1)).map qp) (m.drop (i+1))):=by
 rw [h1,h2,List.map_cons];rfl
theorem qxL {l:List T} {i:Nat} {y:T} (h:l[i]? = some y):l.drop i=y::l.drop (i+1):=by
 obtain ⟨hlt,rfl⟩:=List.getElem?_eq_some_iff.1 h
 exact List.drop_eq_getElem_cons hlt
theorem qqt (a b:List UInt8):slt a b=decide (compareBytes a b=-1):=qmz a b
theorem qxk (a b:List UInt8):qno (slt a b) (qB a b)=decide (compareBytes a b≠1):=by
 rw [qqt]
 unfold qno qB
 rcases qk7 a b with h | h | h
 ·rw [h];rfl
 ·have:=qjM a b h
  subst this
  rw [h];simp
 ·have:(a==b)=false:=by
    rw [beq_eq_false_iff_ne];intro he;subst he;rw [quz] at h;omega
  rw [h,this];rfl
theorem qgO (a:T):size a≤1000000000→∀ b,size b≤1000000000→Ev (λ m _=>zi m a b) (qp a b):=by
 induction a using T.ind with
 | h a ih =>
   intro ha b hb
   refine Ev.succ ?_
   simp only [qrT,qbK,qe]
   have hla:=yF a
   have hlb:=yF b
   rw [qeQ]
   unfold qho
   refine Ev.bind (qqk a ha) (Ev.bind (qqk b hb) (Ev.bind (qjs _ _) ?_))
   refine Ev.ite (λ h=>?_) λ h=>?_
   ·rw [bnt,qg] at h
    exact Ev.ret (by rw [jU (by rw [jU h];exact h),jU h])
   rw [bnf,qi] at h
   rw [h,show ∀ y,thn 0 y=y from λ y=>rfl]
   refine Ev.bind (qjs _ _) ?_
   refine Ev.ite (λ h=>?_) λ h=>?_
   ·rw [bnt,qg] at h
    exact Ev.ret (by rw [jU (by rw [jU h];exact h),jU h])
   rw [bnf,qi] at h
   rw [h,show ∀ y,thn 0 y=y from λ y=>rfl]
   refine Ev.ite (λ h=>?_) λ h=>?_
   ·rw [qqt,decide_eq_true_iff] at h
    exact Ev.ret (by rw [h];rfl)
   rw [qqt,decide_eq_false_iff_not] at h
   refine Ev.ite (λ h'=>?_) λ h'=>?_
   ·rw [bnt,qxk,decide_eq_false_iff_not,Decidable.not_not] at h'
    exact Ev.ret (by rw [h'];rfl)
   rw [bnf,qxk,decide_eq_true_iff] at h'
   have h0:compareBytes a.name b.name=0:=by have:=qk7 a.name b.name;omega
   rw [h0,show ∀ y,thn 0 y=y from λ y=>rfl]
   refine Ev.bind (qjs _ _) ?_
   refine Ev.ite (λ h=>?_) λ h=>?_
   ·rw [bnt,qg] at h
    exact Ev.ret (by rw [jU (by rw [jU h];exact h),jU h])
   rw [bnf,qi] at h
   rw [h,show ∀ y,thn 0 y=y from λ y=>rfl]
   refine Ev.bind (qjs _ _) ?_
   refine Ev.ite (λ h=>?_) λ h=>?_
   ·rw [bnt,qg] at h
    exact Ev.ret (by rw [jU h])
   rw [bnf,qi] at h
   rw [h,show ∀ y,thn 0 y=y from λ y=>rfl]
   have hlen:a.kids.length=b.kids.length:=by have:=qi9 h;omega
   have key:=qr (P := λ i=>Ev (λ m k=>Qi m (zi m) k i a.kind a.name a.sort a.kids b.kind b.name b.sort b.kids) (Qc ((a.kids.drop i).map qp) (b.kids.drop i))) a.kids (by omega)
    (λ hc=>by
     refine Ev.loop ?_
     simp only [qiY,qbT]
     refine Ev.cf hc ?_
     exact Ev.ret (by rw [hlen,List.drop_length,qyC]))
    (λ i x hx hd hc hg hi hP=>by
     refine Ev.loop ?_
     simp only [qiY,qbT,qe]
     have hib:i<b.kids.length:=by have:=(List.getElem?_eq_some_iff.1 hx).1;omega
     have hy:=List.getElem?_eq_getElem hib
     have hmx:=List.mem_of_getElem? hx
     have h1:=jf a x hmx
     have h2:=jf b _ (List.mem_of_getElem? hy)
     refine Ev.ct hc (Ev.some hg (Ev.some (by rw [jG];exact hy) ?_))
     rw [qvi hd (qxL hy)]
     refine Ev.bind (ih x hmx (by omega) _ (by omega)) ?_
     refine Ev.ite (λ h=>?_) λ h=>?_
     ·rw [bnt,qg] at h
      exact Ev.ret (by rw [jU h])
     ·rw [bnf,qi] at h
      rw [h,hi]
      exact hP)
   refine Ev.diag (L := λ m k=>Qi m (zi m) k 0 a.kind a.name a.sort a.kids b.kind b.name b.sort b.kids) ?_
   exact (key 0 (Nat.zero_le _)).res (by rw [List.drop_zero,List.drop_zero])
theorem qDr (a b:List UInt8):Ev (λ m _=>strings_Compare 0 a b) (compareBytes a b):=Ev.pure _
theorem qce (a:T):size a≤1000000000→∀ b,size b≤1000000000→Ev (λ m _=>qs m a b) (qp a b):=by
 induction a using T.ind with
 | h a ih =>
   intro ha b hb
   refine Ev.succ ?_
   simp only [qth,qcq,qe]
   have hla:=yF a
   have hlb:=yF b
   rw [qeQ]
   unfold qho
   have stop:∀ c:Int,c≠0→∀ i:Int,Ev (λ m k=>jo m (qs m) k c i a.kind a.name a.sort a.kids b.kind b.name b.sort b.kids) c:=by
    intro c hc i
    refine Ev.loop ?_
    simp only [qfS,qaF]
    exact Ev.cf (qg.2 hc) (Ev.pure c)
   have key:a.kids.length=b.kids.length→∀ i,i≤a.kids.length→Ev (λ m k=>jo m (qs m) k 0 i a.kind a.name a.sort a.kids b.kind b.name b.sort b.kids) (Qc ((a.kids.drop i).map qp) (b.kids.drop i)) := λ hlen=>qr a.kids (by omega)
    (λ hc=>by
     refine Ev.loop ?_
     simp only [qfS,qaF]
     refine Ev.ct rfl (Ev.cf hc ?_)
     exact Ev.ret (by rw [hlen,List.drop_length,qyC]))
    (λ i x hx hd hc hg hi hP=>by
     refine Ev.loop ?_
     simp only [qfS,qaF,qe]
     have hib:i<b.kids.length:=by have:=(List.getElem?_eq_some_iff.1 hx).1;omega
     have hy:=List.getElem?_eq_getElem hib
     have hmx:=List.mem_of_getElem? hx
     have h1:=jf a x hmx
     have h2:=jf b _ (List.mem_of_getElem? hy)
     refine Ev.ct rfl (Ev.ct hc (Ev.some hg (Ev.some (by rw [jG];exact hy) ?_)))
     rw [qvi hd (qxL hy)]
     refine Ev.bind (ih x hmx (by omega) _ (by omega)) ?_
     rw [hi]
     by_cases h:qp x b.kids[i]=0
     ·rw [h];exact hP
     ·rw [jU h];exact stop _ h _)
   have fin:∀ c:Int,(c=0→a.kids.length=b.kids.length)→Ev (λ m k=>jo m (qs m) m c 0 a.kind a.name a.sort a.kids b.kind b.name b.sort b.kids) (thn c (Qc (a.kids.map qp) b.kids)):=by
    intro c hc
    refine Ev.diag (L := λ m k=>jo m (qs m) k c 0 a.kind a.name a.sort a.kids b.kind b.name b.sort b.kids) ?_
    by_cases h:c=0
    ·subst h
     exact (key (hc rfl) 0 (Nat.zero_le _)).res (by rw [List.drop_zero,List.drop_zero];rfl)
    ·rw [jU h];exact stop c h 0
   refine Ev.bind (qyE a ha) (Ev.bind (qyE b hb) (Ev.bind (qox _ _) ?_))
   have z0:∀ y,thn 0 y=y := λ y=>rfl
   by_cases h1:sgn (size a:Int) (size b)=0
   ·rw [h1,z0]
    refine Ev.ct rfl (Ev.bind (qox _ _) ?_)
    by_cases h2:sgn a.kind b.kind=0
    ·rw [h2,z0]
     refine Ev.ct rfl (Ev.bind (qDr _ _) ?_)
     by_cases h3:compareBytes a.name b.name=0
     ·rw [h3,z0]
      refine Ev.ct rfl (Ev.bind (qox _ _) ?_)
      by_cases h4:sgn a.sort b.sort=0
      ·rw [h4,z0]
       refine Ev.ct rfl (Ev.bind (qox _ _) ?_)
       exact fin _ λ h=>by have:=qi9 h;omega
      ·rw [jU h4]
       refine Ev.cf (qg.2 h4) ?_
       exact fin _ λ h=>absurd h h4
     ·rw [jU h3]
      refine Ev.cf (qg.2 h3) (Ev.cf (qg.2 h3) ?_)
      exact fin _ λ h=>absurd h h3
    ·rw [jU h2]
     refine Ev.cf (qg.2 h2) (Ev.cf (qg.2 h2) (Ev.cf (qg.2 h2) ?_))
     exact fin _ λ h=>absurd h h2
   ·rw [jU h1]
    refine Ev.cf (qg.2 h1) (Ev.cf (qg.2 h1) (Ev.cf (qg.2 h1) (Ev.cf (qg.2 h1) ?_)))
    exact fin _ λ h=>absurd h h1
theorem qAv (a b:T):ieq (qp a b) 0=yJ a b:=by
 unfold yJ
 rw [Bool.eq_iff_iff,qi,decide_eq_true_iff]
 exact qES a b
theorem qbD (a b:T) (ha:size a≤1000000000) (hb:size b≤1000000000):Ev (λ m _=>yR m a b) (yJ a b):=by
 refine Ev.succ ?_
 simp only [qyj,qhn,qe]
 refine Ev.bind (qgO a ha b hb) ?_
 exact Ev.ret (qAv a b)
theorem qlK (a b:T) (ha:size a≤1000000000) (hb:size b≤1000000000):Ev (λ m _=>j9 m a b) (yJ a b):=by
 refine Ev.succ ?_
 simp only [qvA,qf8,qe]
 refine Ev.bind (qce a ha b hb) ?_
 exact Ev.ret (qAv a b)
end Go.AmYtbpnmbmdbblehaaGreat
namespace Go.AmYtbpnmbmdbblehaaGreat
open Go Go.GxYtbpnmbmdbblehaaGreat Go.Lib
theorem qGp (a b:Int):ieq a b=decide (a=b):=by rw [Bool.eq_iff_iff,qi,decide_eq_true_iff]
theorem quO (c:Int):Ev (λ m _=>JZ m c) (qgp c):=by
 refine Ev.succ ?_
 simp only [qs1,qfm]
 refine (Ev.pure (qgp c)).congr λ m k=>?_
 unfold qgp ile
 by_cases h1:97≤c<;>by_cases h2:c≤122<;>by_cases h3:65≤c<;>by_cases h4:c≤90<;>simp [h1,h2,h3,h4]
theorem qEI (c:Int):Ev (λ m _=>qcf m c) (qpB c):=by
 refine Ev.succ ?_
 simp only [qv2,qgt]
 refine (Ev.pure (qpB c)).congr λ m k=>?_
 unfold qpB ile
 by_cases h1:48≤c<;>by_cases h2:c≤57<;>simp [h1,h2]
theorem qAF (c:Int):Ev (λ m _=>qeY m c) (JI c):=by
 refine Ev.succ ?_
 simp only [qy4,qi2]
 refine (Ev.pure (JI c)).congr λ m k=>?_
 simp only [qGp]
 unfold JI qgp qpB ile
 by_cases h1:97≤c<;>by_cases h2:c≤122<;>by_cases h3:65≤c<;>by_cases h4:c≤90<;>by_cases h5:48≤c<;>by_cases h6:c≤57<;>by_cases h7:c=95<;>by_cases h8:c=35<;>simp [h1,h2,h3,h4,h5,h6,h7,h8]
theorem qDC (l:List UInt8):Ev (λ m _=>Qh m l) (JB l):=by
 refine Ev.succ ?_
 simp only [qty,qco]
 cases l with
 | nil=>exact Ev.ct rfl (Ev.pure _)
 | cons c r =>
   refine Ev.cf (qg.2 (by simp;omega)) ?_
   refine Ev.ite (λ h=>?_) λ h=>?_
   ·rw [qv] at h
    refine Ev.ret ?_
    unfold JB
    rw [decide_eq_false (show ¬ (c::r).length≤24 by omega)]
    simp
   rw [qu] at h
   refine Ev.some (Jb _) (Ev.bind (quO _) ?_)
   have hn:JB (c::r)=(qgp (c.toNat:Int)&&(c::r).all λ c=>JI (c.toNat:Int)):=by
    unfold JB
    rw [decide_eq_true (show (c::r).length≤24 by omega)]
    simp
   rw [hn]
   cases hc:qgp (c.toNat:Int) with
   | false=>exact Ev.ct rfl (Ev.pure _)
   | true =>
     refine Ev.cf rfl ?_
     have key:=qr (P := λ i=>Ev (λ m k=>QE m k (c::r) i) (((c::r).drop i).all λ c=>JI (c.toNat:Int))) (c::r) (by omega)
      (λ hc=>by
       refine Ev.loop ?_
       simp only [qjD,qcl]
       refine Ev.cf hc (Ev.ret ?_)
       rw [List.drop_length];rfl)
      (λ i x hx hd hc hg hi hP=>by
       refine Ev.loop ?_
       simp only [qjD,qcl]
       refine Ev.ct hc (Ev.some hg (Ev.bind (quO _) ?_))
       rw [hd,List.all_cons,hi]
       cases h1:qgp (x.toNat:Int) with
       | true=>exact Ev.cf rfl (hP.res (by simp [JI,h1]))
       | false =>
         refine Ev.ct rfl (Ev.some hg (Ev.bind (qEI _) ?_))
         cases h2:qpB (x.toNat:Int) with
         | true=>exact Ev.cf rfl (hP.res (by simp [JI,h2]))
         | false =>
           refine Ev.ct rfl (Ev.some hg ?_)
           by_cases h3:(x.toNat:Int)=95
           ·exact Ev.cf (bnf.2 (qi.2 h3)) (hP.res (by simp [JI,h3]))
           ·refine Ev.ct (bnt.2 (qg.2 h3)) (Ev.some hg ?_)
            by_cases h4:(x.toNat:Int)=35
            ·exact Ev.cf (bnf.2 (qi.2 h4)) (hP.res (by simp [JI,h4]))
            ·exact Ev.ct (bnt.2 (qg.2 h4)) (Ev.ret (by unfold JI;rw [h1,h2,decide_eq_false h3,decide_eq_false h4];rfl)))
     refine Ev.diag (L := λ m k=>QE m k (c::r) 0) ?_
     exact (key 0 (Nat.zero_le _)).res (by rw [List.drop_zero];rfl)
theorem qEB (c:Int):(JI c&&(!(decide (48≤c)&&decide (c≤57))&&(!(decide (c=95)) && !(decide (c=35)))))=qgp c:=by
 unfold JI qpB
 cases h:qgp c with
 | true =>
   unfold qgp at h
   rw [Bool.or_eq_true,decide_eq_true_iff,decide_eq_true_iff] at h
   rw [decide_eq_false (show ¬ (c=95) by omega),decide_eq_false (show ¬ (c=35) by omega)]
   have:(decide (48≤c)&&decide (c≤57))=false:=by
    rw [Bool.and_eq_false_iff,decide_eq_false_iff_not,decide_eq_false_iff_not];omega
   rw [this];rfl
 | false =>
   by_cases h1:48≤c<;>by_cases h2:c≤57<;>by_cases h3:c=95<;>by_cases h4:c=35<;>simp [h1,h2,h3,h4]
theorem qBo (l:List UInt8):Ev (λ m _=>qaW m l) (JB l):=by
 refine Ev.succ ?_
 simp only [qv7,qdP]
 cases l with
 | nil=>exact Ev.ct rfl (Ev.pure _)
 | cons c r =>
   refine Ev.cf rfl ?_
   refine Ev.ite (λ h=>?_) λ h=>?_
   ·rw [qv] at h
    refine Ev.ret ?_
    unfold JB
    rw [decide_eq_false (show ¬ (c::r).length≤24 by omega)]
    simp
   rw [qu] at h
   refine Ev.some (Jb _) (Ev.bind (qAF _) ?_)
   have hn:JB (c::r)=(qgp (c.toNat:Int)&&(c::r).all λ c=>JI (c.toNat:Int)):=by
    unfold JB
    rw [decide_eq_true (show (c::r).length≤24 by omega)]
    simp
   rw [hn,← qEB]
   have key:=qr (P := λ i=>Ev (λ m k=>jC m k (c::r) (c::r).length i) (((c::r).drop i).all λ c=>JI (c.toNat:Int))) (c::r) (by omega)
    (λ hc=>by
     refine Ev.loop ?_
     simp only [qkX,qdR]
     refine Ev.cf hc (Ev.ret ?_)
     rw [List.drop_length];rfl)
    (λ i x hx hd hc hg hi hP=>by
     refine Ev.loop ?_
     simp only [qkX,qdR]
     refine Ev.ct hc (Ev.some hg (Ev.bind (qAF _) ?_))
     rw [hd,List.all_cons,hi]
     cases h1:JI (x.toNat:Int) with
     | true=>exact Ev.cf rfl (hP.res (by simp))
     | false=>exact Ev.ct rfl (Ev.pure _))
   have fin:Ev (λ m _=>jC m m (c::r) (c::r).length 0) ((c::r).all λ c=>JI (c.toNat:Int)):=by
    refine Ev.diag (L := λ m k=>jC m k (c::r) (c::r).length 0) ?_
    exact (key 0 (Nat.zero_le _)).res (by rw [List.drop_zero])
   have hz:qd (c::r) 0=some c:=Jb _
   have h95:Ev (λ m _=>cond (ieq (c.toNat:Int) 95) (some false) (qa (qd (c::r) 0) λ v=>cond (ieq (v.toNat:Int) 35) (some false) (jC m m (c::r) (c::r).length 0))) ((!(decide ((c.toNat:Int)=95)) && !(decide ((c.toNat:Int)=35)))&&(c::r).all λ c=>JI (c.toNat:Int)):=by
    by_cases h3:(c.toNat:Int)=95
    ·exact Ev.ct (qi.2 h3) (Ev.ret (by rw [decide_eq_true h3];rfl))
    ·refine Ev.cf (qg.2 h3) (Ev.some hz ?_)
     rw [decide_eq_false h3]
     by_cases h4:(c.toNat:Int)=35
     ·exact Ev.ct (qi.2 h4) (Ev.ret (by rw [decide_eq_true h4];rfl))
     ·refine Ev.cf (qg.2 h4) (fin.res ?_)
      rw [decide_eq_false h4];rfl
   cases h1:JI (c.toNat:Int) with
   | false=>exact Ev.ct rfl (Ev.pure _)
   | true =>
     refine Ev.cf rfl (Ev.some hz ?_)
     by_cases h5:48≤(c.toNat:Int)
     ·refine Ev.ct (qgP.2 h5) (Ev.some hz ?_)
      by_cases h6:(c.toNat:Int)≤57
      ·exact Ev.ct (qgP.2 h6) (Ev.ret (by rw [decide_eq_true h5,decide_eq_true h6];rfl))
      ·refine Ev.cf (qik.2 (by omega)) (Ev.some hz ?_)
       exact h95.res (by rw [decide_eq_true h5,decide_eq_false h6];rfl)
     ·refine Ev.cf (qik.2 (by omega)) (Ev.some hz ?_)
      exact h95.res (by rw [decide_eq_false h5];rfl)
theorem qG7 (t:T):Ev (λ m _=>qfC m t) (Qm t):=by
 refine Ev.succ ?_
 simp only [qwL,qhj]
 unfold Qm qlM
 have nm:∀ {R:Int},(∀ b,JB t.name=b→(if b then (if 8<t.kids.length then 3 else 0) else 2)=R)→Ev (λ m _=>qa (Qh m t.name) λ v=>cond (qc v) (some 2) (cond (ilt 8 (t.kids.length:Int)) (some 3) (some 0))) R:=by
  intro R h
  refine Ev.bind (qDC _) ?_
  refine Ev.res ?_ (h _ rfl)
  cases hn:JB t.name with
  | false=>exact Ev.ct rfl (Ev.pure _)
  | true =>
    refine Ev.cf rfl ?_
    refine Ev.ite (λ h=>?_) λ h=>?_
    ·rw [qv] at h;exact Ev.ret (by rw [if_pos rfl,if_pos (by omega)])
    ·rw [qu] at h;exact Ev.ret (by rw [if_pos rfl,if_neg (by omega)])
 have leaf:t.kids.length=0→∀ {R:Int},(∀ b,JB t.name=b→(if b then 0 else 2)=R)→Ev (λ m _=>qa (Qh m t.name) λ v=>cond (qc v) (some 2) (cond (ilt 8 (t.kids.length:Int)) (some 3) (some 0))) R:=by
  intro h0 R h
  refine nm λ b hb=>?_
  rw [if_neg (show ¬ 8<t.kids.length by omega)]
  exact h b hb
 by_cases h1:t.kind=1
 ·rw [if_pos (.inl h1)]
  refine Ev.ct (qi.2 h1) ?_
  refine Ev.ite (λ h=>?_) λ h=>?_
  ·rw [qv] at h;exact Ev.ret (by rw [if_pos (.inl h)])
  rw [qu] at h
  refine Ev.ite (λ h'=>?_) λ h'=>?_
  ·rw [qv] at h';exact Ev.ret (by rw [if_pos (.inr (.inl h'))])
  rw [qu] at h'
  refine Ev.ite (λ h''=>?_) λ h''=>?_
  ·rw [qv] at h'';exact Ev.ret (by rw [if_pos (.inr (.inr (by omega)))])
  rw [qu] at h''
  rw [if_neg (by omega)]
  exact leaf (by omega) λ b hb=>by rw [hb]
 refine Ev.cf (qg.2 h1) ?_
 by_cases h2:t.kind=2
 ·rw [if_pos (.inr h2)]
  refine Ev.cf (bnf.2 (qi.2 h2)) ?_
  refine Ev.ite (λ h=>?_) λ h=>?_
  ·rw [qv] at h;exact Ev.ret (by rw [if_pos (.inl h)])
  rw [qu] at h
  refine Ev.ite (λ h'=>?_) λ h'=>?_
  ·rw [qv] at h';exact Ev.ret (by rw [if_pos (.inr (.inl h'))])
  rw [qu] at h'
  refine Ev.cf (bnf.2 (qi.2 h2)) (Ev.ct (qi.2 h2) ?_)
  refine Ev.ite (λ h''=>?_) λ h''=>?_
  ·rw [qv] at h'';exact Ev.ret (by rw [if_pos (.inr (.inr (by omega)))])
  rw [qu] at h''
  rw [if_neg (by omega)]
  exact leaf (by omega) λ b hb=>by rw [hb]
 refine Ev.ct (bnt.2 (qg.2 h2)) ?_
 rw [if_neg (by omega)]
 by_cases h3:t.kind=3
 ·rw [if_pos h3]
  refine Ev.cf (bnf.2 (qi.2 h3)) ?_
  refine Ev.ite (λ h=>?_) λ h=>?_
  ·rw [qv] at h;exact Ev.ret (by rw [if_pos (by omega)])
  rw [qu] at h
  refine Ev.ite (λ h'=>?_) λ h'=>?_
  ·rw [qv] at h';exact Ev.ret (by rw [if_pos (by omega)])
  rw [qu] at h'
  refine Ev.ct (bnt.2 (qg.2 h2)) ?_
  refine Ev.ite (λ h''=>?_) λ h''=>?_
  ·rw [bnt,qg] at h'';exact Ev.ret (by rw [if_pos h''])
  rw [bnf,qi] at h''
  rw [if_neg (by omega)]
  refine Ev.cf (qg.2 h2) ?_
  exact nm λ b hb=>by rw [hb]
 ·rw [if_neg h3]
  exact Ev.ct (bnt.2 (qg.2 h3)) (Ev.pure _)
theorem qD5 (t:T):size t≤1000000000→Ev (λ m _=>yH m t) (Jz t):=by
 induction t using T.ind with
 | h t ih =>
   intro hs
   refine Ev.succ ?_
   simp only [qvw,qds,qe]
   have hl:=yF t
   have key:=qr (P := λ i=>Ev (λ m k=>Jq m (yH m) k i t.kind t.name t.sort t.kids) (((t.kids.drop i).map Jz).foldl thn 0)) t.kids (by omega)
    (λ hc=>by
     refine Ev.loop ?_
     simp only [qkt,qdv]
     refine Ev.cf hc ?_
     exact Ev.ret (by simp))
    (λ i x hx hd hc hg hi hP=>by
     refine Ev.loop ?_
     simp only [qkt,qdv,qe]
     refine Ev.ct hc (Ev.some hg ?_)
     have hm:=List.mem_of_getElem? hx
     have h1:=jf t x hm
     refine Ev.bind (ih x hm (by omega)) ?_
     rw [hd,List.map_cons,jP,hi]
     refine Ev.ite (λ h=>?_) λ h=>?_
     ·rw [bnt,qg] at h;exact Ev.ret (by rw [qH _ h])
     ·rw [bnf,qi] at h;rw [h];exact hP)
   rw [qjx]
   refine Ev.bind (qG7 t) ?_
   refine Ev.ite (λ h=>?_) λ h=>?_
   ·rw [bnt,qg] at h;exact Ev.ret (by rw [qH _ h])
   ·rw [bnf,qi] at h;rw [h]
    refine Ev.diag (L := λ m k=>Jq m (yH m) k 0 t.kind t.name t.sort t.kids) ?_
    exact (key 0 (Nat.zero_le _)).res (by rw [List.drop_zero])
theorem qaC (t:T) (hs:size t≤1000000000):Ev (λ m _=>zI m t) (qA t):=by
 refine Ev.succ ?_
 simp only [qwj,qgc,qe]
 unfold qA
 refine Ev.bind (qD5 t hs) ?_
 refine Ev.ite (λ h=>?_) λ h=>?_
 ·rw [bnt,qg] at h;exact Ev.ret (by rw [if_pos h])
 rw [bnf,qi] at h
 rw [if_neg (by omega)]
 refine Ev.bind (qqk t hs) ?_
 refine Ev.ite (λ h=>?_) λ h=>?_
 ·rw [qv] at h;exact Ev.ret (by rw [if_pos (.inl (by omega))])
 rw [qu] at h
 refine Ev.bind (qDv t hs) ?_
 refine Ev.ite (λ h=>?_) λ h=>?_
 ·rw [qv] at h;exact Ev.ret (by rw [if_pos (.inr (by omega))])
 ·rw [qu] at h;exact Ev.ret (by rw [if_neg (by omega)])
end Go.AmYtbpnmbmdbblehaaGreat
namespace Go.AmYtbpnmbmdbblehaaGreat
open Go Go.GxYtbpnmbmdbblehaaGreat Go.Lib
theorem qy1 (lev d:Nat):∀ (l:List Nat) (c:Nat),l.foldl (λ a x=>max a (lev+x)) (max d (lev+c))=max d (lev+l.foldl max c)
 | [],c=>rfl
 | x::l,c=>by
   rw [List.foldl_cons,List.foldl_cons,← qy1 lev d l (max c x)]
   congr 1;omega
def qIq (lev n d:Nat) (e:Int) (s:Nat) (x:Nat) (r:(Int × Int × Unit) × (Int × Unit)):Prop:=r.2.1=e∧(e=0→r.1.1=((n+s:Nat):Int)∧r.1.2.1=((max d (lev+x):Nat):Int))
theorem qFM (t:T):size t≤1000000000→∀ lev n d:Nat,lev+size t≤2000000000→n+size t≤2000000000→d≤2000000000→∃ r,Ev (λ m _=>zD m t lev n d) r∧qIq lev n d (Jz t) (size t) (qdV t-1) r:=by
 induction t using T.ind with
 | h t ih =>
   intro hs lev n d hlev hn hd0
   have hl:=yF t
   have hsz:=qC t
   have key:=qr (P := λ i=>∀ n d:Nat,n+((t.kids.drop i).map size).sum≤2000000000→d≤2000000000→∃ r,Ev (λ m k=>yU m (zD m) k lev t.kids t.kids.length i n d) r∧r.2.1=((t.kids.drop i).map Jz).foldl thn 0∧(((t.kids.drop i).map Jz).foldl thn 0=0→r.1.1=((n+((t.kids.drop i).map size).sum:Nat):Int)∧r.1.2.1=((((t.kids.drop i).map qdV).foldl (λ a x=>max a (lev+x)) d:Nat):Int))) t.kids (by omega)
    (λ hc n d _ _=>by
     refine ⟨((n,d,()),(0,())),?_,?_,λ _=>⟨?_,?_⟩⟩
     ·refine Ev.loop ?_
      simp only [qmn,qel]
      exact Ev.cf hc (Ev.pure _)
     ·simp
     ·simp
     ·simp)
    (λ i x hx hd hc hg hi hP n d hn hd1=>by
     have hm:=List.mem_of_getElem? hx
     have h1:=jf t x hm
     rw [qpU hd] at hn
     obtain ⟨r,hr,he,hz⟩:=ih x hm (by omega) (lev+1) n d (by omega) (by omega) hd1
     have hstep:∀ r' ,(r.2.1≠0→r'=((r.1.1,r.1.2.1,()),(r.2.1,())))→(r.2.1=0→Ev (λ m k=>yU m (zD m) k lev t.kids t.kids.length ((i+1:Nat):Int) r.1.1 r.1.2.1) r')→Ev (λ m k=>yU m (zD m) k lev t.kids t.kids.length i n d) r':=by
      intro r' g1 g2
      refine Ev.loop ?_
      simp only [qmn,qel,qe]
      refine Ev.ct hc (Ev.some hg ?_)
      rw [show qj (lev:Int) 1=((lev+1:Nat):Int) by unfold qj;omega,Qn (by omega),hi]
      refine Ev.bind hr ?_
      refine Ev.ite (λ h=>?_) λ h=>?_
      ·rw [bnt,qg] at h;exact Ev.ret (g1 h).symm
      ·rw [bnf,qi] at h;exact g2 h
     rw [hd,List.map_cons,List.map_cons,List.map_cons,List.sum_cons,jP,List.foldl_cons]
     by_cases h0:Jz x=0
     ·obtain ⟨z1,z2⟩:=hz h0
      have hdep:=qAJ x
      obtain ⟨r',g1,g2,g3⟩:=hP (n+size x) (max d (lev+1+(qdV x-1))) (by omega) (by omega)
      refine ⟨r',hstep r' (λ h=>absurd (he.trans h0) h) (λ _=>by rw [z1,z2];exact g1),by rw [h0];exact g2,λ hh=>?_⟩
      rw [h0] at hh
      obtain ⟨q1,q2⟩:=g3 hh
      refine ⟨by rw [q1];congr 1;omega,?_⟩
      rw [q2]
      have:qdV x ≥ 1:=by rw [qim];omega
      rw [show max d (lev+1+(qdV x-1))=max d (lev+qdV x) by omega]
     ·refine ⟨((r.1.1,r.1.2.1,()),(r.2.1,())),hstep _ (λ _=>rfl) (λ h=>absurd (he.symm.trans h) h0),?_,λ hh=>?_⟩
      ·rw [qH _ h0];exact he
      ·rw [qH _ h0] at hh;exact absurd hh h0)
   have start:∀ r,(Qm t≠0→r=((((n+1:Nat):Int),((max d lev:Nat):Int),()),(Qm t,())))→(Qm t=0→Ev (λ m _=>yU m (zD m) m lev t.kids t.kids.length 0 ((n+1:Nat):Int) ((max d lev:Nat):Int)) r)→Ev (λ m _=>zD m t lev n d) r:=by
    intro r g1 g2
    refine Ev.succ ?_
    simp only [qxS,qer]
    rw [show qj (n:Int) 1=((n+1:Nat):Int) by unfold qj;omega,Qn (by omega),qxE]
    have err:∀ e,Qm t=e→e≠0→Ev (λ _ _=>some ((((n+1:Nat):Int),((max d lev:Nat):Int),()),(e,()))) r:=by
     intro e he h
     refine Ev.ret ?_
     subst he
     exact (g1 h).symm
    have nm:(t.kind=3∨t.kids.length=0)→(∀ b,JB t.name=b→(if b then (if 8<t.kids.length then 3 else 0) else 2)=Qm t)→Ev (λ m _=>qa (qaW m t.name) λ v=>cond (qc v) (some ((((n+1:Nat):Int),((max d lev:Nat):Int),()),(2,()))) (cond (ilt 8 (t.kids.length:Int)) (some ((((n+1:Nat):Int),((max d lev:Nat):Int),()),(3,()))) (yU m (zD m) m lev t.kids t.kids.length 0 ((n+1:Nat):Int) ((max d lev:Nat):Int)))) r:=by
     intro _ h
     have h:=h _ rfl
     refine Ev.bind (qBo _) ?_
     cases hn:JB t.name with
     | false=>rw [hn] at h;exact Ev.ct rfl (err 2 h.symm (by decide))
     | true =>
       rw [hn,if_pos rfl] at h
       refine Ev.cf rfl ?_
       refine Ev.ite (λ h'=>?_) λ h'=>?_
       ·rw [qv] at h';rw [if_pos (by omega)] at h;exact err 3 h.symm (by decide)
       ·rw [qu] at h';rw [if_neg (by omega)] at h;exact g2 h.symm
    have leafE:∀ k,t.kind=k→(k=1∨k=2)→Qm t=if t.sort<0∨5<t.sort∨0<t.kids.length then 1 else if JB t.name then 0 else 2:=by
     intro k hk h
     unfold Qm qlM
     rw [hk,if_pos h]
    have leaf:∀ k,t.kind=k→(k=1∨k=2)→Ev (λ m _=>cond (ilt t.sort 0) (some ((((n+1:Nat):Int),((max d lev:Nat):Int),()),(1,()))) (cond (ilt 5 t.sort) (some ((((n+1:Nat):Int),((max d lev:Nat):Int),()),(1,()))) (cond (ilt 0 (t.kids.length:Int)) (some ((((n+1:Nat):Int),((max d lev:Nat):Int),()),(1,()))) (qa (qaW m t.name) λ v=>cond (qc v) (some ((((n+1:Nat):Int),((max d lev:Nat):Int),()),(2,()))) (cond (ilt 8 (t.kids.length:Int)) (some ((((n+1:Nat):Int),((max d lev:Nat):Int),()),(3,()))) (yU m (zD m) m lev t.kids t.kids.length 0 ((n+1:Nat):Int) ((max d lev:Nat):Int))))))) r:=by
     intro k hk h
     have hE:=leafE k hk h
     refine Ev.ite (λ h'=>?_) λ h'=>?_
     ·rw [qv] at h';exact err 1 (by rw [hE,if_pos (.inl h')]) (by decide)
     rw [qu] at h'
     refine Ev.ite (λ h1=>?_) λ h1=>?_
     ·rw [qv] at h1;exact err 1 (by rw [hE,if_pos (.inr (.inl h1))]) (by decide)
     rw [qu] at h1
     refine Ev.ite (λ h2=>?_) λ h2=>?_
     ·rw [qv] at h2;exact err 1 (by rw [hE,if_pos (.inr (.inr (by omega)))]) (by decide)
     rw [qu] at h2
     rw [if_neg (by omega)] at hE
     refine nm (.inr (by omega)) λ b hb=>?_
     rw [hE,hb,if_neg (show ¬ 8<t.kids.length by omega)]
    by_cases h1:t.kind=1
    ·exact Ev.ct (qi.2 h1) (leaf 1 h1 (.inl rfl))
    refine Ev.cf (qg.2 h1) ?_
    by_cases h2:t.kind=2
    ·exact Ev.ct (qi.2 h2) (leaf 2 h2 (.inr rfl))
    refine Ev.cf (qg.2 h2) ?_
    by_cases h3:t.kind=3
    ·refine Ev.ct (qi.2 h3) ?_
     have hE:Qm t=if t.sort≠0 then 1 else if JB t.name then (if 8<t.kids.length then 3 else 0) else 2:=by
      unfold Qm qlM
      rw [if_neg (by omega),if_pos h3]
     refine Ev.ite (λ h'=>?_) λ h'=>?_
     ·rw [bnt,qg] at h';exact err 1 (by rw [hE,if_pos h']) (by decide)
     rw [bnf,qi] at h'
     rw [if_neg (by omega)] at hE
     exact nm (.inl h3) λ b hb=>by rw [hE,hb]
    ·refine Ev.cf (qg.2 h3) ?_
     refine err 1 ?_ (by decide)
     unfold Qm qlM
     rw [if_neg (by omega),if_neg h3]
   rw [qjx]
   by_cases h0:Qm t=0
   ·rw [h0]
    obtain ⟨r,g1,g2,g3⟩:=key 0 (Nat.zero_le _) (n+1) (max d lev) (by rw [List.drop_zero];omega) (by omega)
    rw [List.drop_zero] at g2 g3
    refine ⟨r,start r (λ h=>absurd h0 h) (λ _=>Ev.diag (L := λ m k=>yU m (zD m) k lev t.kids t.kids.length 0 ((n+1:Nat):Int) ((max d lev:Nat):Int)) g1),g2,λ hh=>?_⟩
    obtain ⟨q1,q2⟩:=g3 hh
    refine ⟨by rw [q1];congr 1;omega,?_⟩
    rw [q2,show max d lev=max d (lev+0) by omega,qy1,qim,Nat.add_sub_cancel]
   ·refine ⟨_,start _ (λ _=>rfl) (λ h=>absurd h h0),?_,λ hh=>?_⟩
    ·rw [qH _ h0]
    ·rw [qH _ h0] at hh;exact absurd hh h0
theorem qaD (t:T) (hs:size t≤1000000000):Ev (λ m _=>zu m t) (qA t):=by
 refine Ev.succ ?_
 simp only [qw0,qhq,qe]
 unfold qA
 obtain ⟨r,h1,h2,h3⟩:=qFM t hs 1 0 0 (by omega) (by omega) (by omega)
 refine Ev.bind h1 ?_
 rw [h2]
 refine Ev.ite (λ h=>?_) λ h=>?_
 ·rw [bnt,qg] at h;exact Ev.ret (by rw [if_pos h])
 rw [bnf,qi] at h
 obtain ⟨q1,q2⟩:=h3 h
 have hd:qdV t ≥ 1:=by rw [qim];omega
 rw [if_neg (by omega),q1,q2]
 refine Ev.ite (λ h=>?_) λ h=>?_
 ·rw [qv] at h;exact Ev.ret (by rw [if_pos (.inl (by omega))])
 rw [qu] at h
 refine Ev.ite (λ h=>?_) λ h=>?_
 ·rw [qv] at h;exact Ev.ret (by rw [if_pos (.inr (by omega))])
 ·rw [qu] at h;exact Ev.ret (by rw [if_neg (by omega)])
theorem qlC (t:T):size t≤1000000000→Ev (λ m _=>yb m t) t:=by
 induction t using T.ind with
 | h t ih =>
   intro hs
   refine Ev.succ ?_
   simp only [qxX,qej]
   have hl:=yF t
   have key:=qr (P := λ i=>Ev (λ m k=>JX m (yb m) k t.kids t.kids.length i t.kind t.name t.sort 0 [] 0 (t.kids.take i) []) t) t.kids (by omega)
    (λ hc=>by
     refine Ev.loop ?_
     simp only [qmw,qeu]
     refine Ev.cf hc ?_
     rw [List.take_length]
     exact Ev.ret (qe t))
    (λ i x hx hd hc hg hi hP=>by
     refine Ev.loop ?_
     simp only [qmw,qeu,qe]
     have hm:=List.mem_of_getElem? hx
     have h1:=jf t x hm
     refine Ev.ct hc (Ev.some hg (Ev.bind (ih x hm (by omega)) (Ev.ct (zh ?_ (by omega)) ?_)))
     ·have:(t.kids.take i).length≤t.kids.length:=by rw [List.length_take];omega
      omega
     ·rw [hi]
      refine hP.congr λ m k=>?_
      rw [List.take_add_one,hx];rfl)
   refine Ev.diag (L := λ m k=>JX m (yb m) k t.kids t.kids.length 0 t.kind t.name t.sort 0 [] 0 [] []) ?_
   exact key 0 (Nat.zero_le _)
def qpX:T→Prop:=T.para λ t rs=>t.kids.length<2 ^ 62∧t.name.length<2 ^ 62∧∀ p∈rs,p
theorem qAq (t:T):qpX t↔t.kids.length<2 ^ 62∧t.name.length<2 ^ 62∧∀ k∈t.kids,qpX k:=by
 unfold qpX
 rw [T.para_eq]
 exact ⟨λ ⟨a,b,c⟩=>⟨a,b,λ k hk=>c _ (List.mem_map_of_mem hk)⟩,λ ⟨a,b,c⟩=>⟨a,b,λ p hp=>by obtain ⟨k,hk,rfl⟩:=List.mem_map.1 hp;exact c k hk⟩⟩
theorem qDp (t:T):qpX t→∀ mm:Int,-1000000000≤mm→mm≤1000000000→Ev (λ m _=>yi m t mm) (qag t mm):=by
 induction t using T.ind with
 | h t ih =>
   intro hf mm hm0 hm1
   obtain ⟨f1,f2,f3⟩:=(qAq t).1 hf
   refine Ev.succ ?_
   simp only [qtJ,qcE]
   rw [qAK]
   refine Ev.ite (λ h=>?_) λ h=>?_
   ·rw [qgP] at h;exact Ev.ret (by rw [if_pos (.inl h)])
   rw [qik] at h
   refine Ev.ite (λ h'=>?_) λ h'=>?_
   ·rw [qv] at h';exact Ev.ret (by rw [if_pos (.inr (by omega))])
   rw [qu] at h'
   rw [if_neg (by omega),show jM mm 1=mm-1 from rfl,Qn (by omega)]
   have key:=qr (P := λ i=>∀ mm:Int,0≤mm→mm≤1000000000→Ev (λ m k=>QN m (yi m) k mm i t.kind t.name t.sort t.kids) (qjp ((t.kids.drop i).map qag) mm)) t.kids f1
    (λ hc mm _ _=>by
     refine Ev.loop ?_
     simp only [qj1,qcr]
     refine Ev.cf hc ?_
     rw [List.drop_length]
     exact Ev.pure _)
    (λ i x hx hd hc hg hi hP mm hm0 hm1=>by
     refine Ev.loop ?_
     simp only [qj1,qcr,qe]
     have hm:=List.mem_of_getElem? hx
     refine Ev.ct hc (Ev.some hg (Ev.bind (ih x hm (f3 x hm) mm (by omega) (by omega)) ?_))
     rw [hd,List.map_cons,qjp,hi]
     have:=qoe x mm
     refine Ev.ite (λ h=>?_) λ h=>?_
     ·rw [qv] at h;exact Ev.ret (by rw [if_pos h])
     ·rw [qu] at h
      rw [if_neg (by omega)]
      exact hP _ (by omega) (by omega))
   refine Ev.diag (L := λ m k=>QN m (yi m) k (mm-1) 0 t.kind t.name t.sort t.kids) ?_
   exact (key 0 (Nat.zero_le _) (mm-1) (by omega) (by omega)).res (by rw [List.drop_zero])
theorem qHG (l:List T) (hl:l.length<2 ^ 62) (hf:∀ t∈l,qpX t) (n:Nat) (mm:Int) (hm0:0≤mm) (hm1:mm≤1000000000):Ev (λ m _=>qhg m l n mm) (decide (l.length≤n)&&qnS l mm):=by
 refine Ev.succ ?_
 simp only [qzf,qfD]
 refine Ev.ite (λ h=>?_) λ h=>?_
 ·rw [qv] at h;exact Ev.ret (by rw [decide_eq_false (by omega)];rfl)
 rw [qu] at h
 rw [decide_eq_true (by omega),Bool.true_and]
 have key:=qr (P := λ i=>∀ mm:Int,0≤mm→mm≤1000000000→Ev (λ m k=>qaM m k l mm i) (qnS (l.drop i) mm)) l hl
  (λ hc mm _ _=>by
   refine Ev.loop ?_
   simp only [qnq,qfW]
   refine Ev.cf hc ?_
   rw [List.drop_length]
   exact Ev.pure _)
  (λ i x hx hd hc hg hi hP mm hm0 hm1=>by
   refine Ev.loop ?_
   simp only [qnq,qfW,qe]
   have hm:=List.mem_of_getElem? hx
   refine Ev.ct hc (Ev.some hg (Ev.bind (qDp x (hf x hm) mm (by omega) (by omega)) ?_))
   rw [hd,qnS,hi]
   have:=qoe x mm
   refine Ev.ite (λ h=>?_) λ h=>?_
   ·rw [qv] at h;exact Ev.ret (by rw [if_pos h])
   ·rw [qu] at h
    rw [if_neg (by omega)]
    exact hP _ (by omega) (by omega))
 refine Ev.diag (L := λ m k=>qaM m k l mm 0) ?_
 exact (key 0 (Nat.zero_le _) mm hm0 hm1).res (by rw [List.drop_zero])
theorem qFP {l:List T} {mm:Int} (hm:0≤mm) (h:qnS l mm=true):∀ t∈l,(size t:Int)≤mm := λ t ht=>by
 have h1:=quY l mm hm h
 have h2:=qhX l t ht
 omega
end Go.AmYtbpnmbmdbblehaaGreat
namespace Go.GxYtbpnmbmdbblehaaGreat
def qro (t:T):Int:=if (qG t.name).2.2=0 then 10 else if qkd jp t.name t.kids.length=false then 6 else if (qG t.name).2.2=2∧qis t=false then 10 else 0
theorem qrE (n:List UInt8):(jp.find? λ r=>r.1==n)=none∨∃ r∈jp,r.1=n∧(jp.find? λ r=>r.1==n)=some r:=by
 cases h:jp.find? λ r=>r.1==n with
 | none=>exact .inl rfl
 | some r=>exact .inr ⟨r,List.mem_of_find?_eq_some h,by simpa using List.find?_some h,rfl⟩
theorem qrS {n:List UInt8} (h:(jp.find? λ r=>r.1==n)=none):qG n=(0,0,0):=by unfold qG;rw [h];rfl
theorem qmc {n:List UInt8} {r:List UInt8 × Int × Int × Int} (h:(jp.find? λ r=>r.1==n)=some r):qG n=r.2:=by unfold qG;rw [h];rfl
def qF7 (r:List UInt8 × Int × Int × Int):Bool :=
 decide (r.2.2.2≠0)&&decide (0≤r.2.1)&&decide (r.2.2.1≤8)&&(decide (r.2.2.2=2)==(r.1==qgn||r.1==nSk||r.1==qqA))&&(decide (r.2.2.2=2)==decide (r.2.2.2=2∧1≤r.2.1))&&(decide (r.2.2.2=3)==(r.1==qEK||r.1==qta||r.1==qFZ||r.1==qB1||r.1==qBO||r.1==qCg))
theorem qGR:jp.all qF7=true:=by decide
theorem qri {n:List UInt8} (h:(qG n).2.2≠0):qEH jp n=true∧qug jp n=qG n∧0≤(qG n).1∧(qG n).2.1≤8∧((qG n).2.2=2↔n=qgn∨n=nSk∨n=qqA)∧((qG n).2.2=2→1≤(qG n).1)∧((qG n).2.2=3↔isD n=true):=by
 rcases qrE n with h0 | ⟨r,hr,hn,h0⟩
 ·rw [qrS h0] at h;exact absurd rfl h
 ·have hk:=List.all_eq_true.1 qGR r hr
  subst hn
  rw [qmc h0]
  unfold qF7 at hk
  simp only [Bool.and_eq_true,beq_iff_eq,decide_eq_true_eq] at hk
  obtain ⟨⟨⟨⟨⟨h1,h2⟩,h3⟩,h4⟩,h5⟩,h6⟩:=hk
  refine ⟨List.any_eq_true.2 ⟨r,hr,by simp⟩,qmc h0,h2,h3,?_,?_,?_⟩
  ·constructor
   ·intro h
    rw [decide_eq_true h] at h4
    have:=h4.symm
    simp only [Bool.or_eq_true,beq_iff_eq] at this
    exact or_assoc.1 this
   ·intro h
    by_cases hh:r.2.2.2=2
    ·exact hh
    ·rw [decide_eq_false hh] at h4
     have:=h4.symm
     simp only [Bool.or_eq_false_iff,beq_eq_false_iff_ne] at this
     rcases h with h | h | h
     ·exact absurd h this.1.1
     ·exact absurd h this.1.2
     ·exact absurd h this.2
  ·intro h
   rw [decide_eq_true h] at h5
   have:=of_decide_eq_true h5.symm
   exact this.2
  ·unfold isD
   rw [← h6]
   simp
theorem qF2 (t:T) (h3:t.kind=3):qro t=qbv t:=by
 unfold qro qbv
 rw [if_neg (show ¬ (t.kind≠3) from λ h=>h h3)]
 by_cases h0:(qG t.name).2.2=0
 ·rw [if_pos h0,if_pos h0]
 ·rw [if_neg h0,if_neg h0]
  obtain ⟨k1,k2,k3,k4,k5,k6,k7⟩:=qri h0
  have e1:qkd jp t.name t.kids.length=(decide ((qG t.name).1≤(t.kids.length:Int))&&decide ((t.kids.length:Int)≤(qG t.name).2.1)):=by
   unfold qkd;rw [k1,k2,Bool.true_and]
  rw [e1]
  by_cases h1:(t.kids.length:Int)<(qG t.name).1∨(qG t.name).2.1<(t.kids.length:Int)
  ·rw [if_pos h1,if_pos]
   rw [Bool.and_eq_false_iff,decide_eq_false_iff_not,decide_eq_false_iff_not]
   omega
  ·rw [if_neg h1,if_neg]
   ·have e2:(qG t.name).2.2=2∧qis t=false↔JL t=true:=by
      rw [k5]
      unfold qis JL
      by_cases hn:t.name=qgn
      ·rw [if_pos hn,if_pos hn]
       simp [hn]
      ·rw [if_neg hn,if_neg hn]
       by_cases hs:t.name=nSk∨t.name=qqA
       ·rw [if_pos hs]
        have:agB t.kids = !(t.kids.any λ k=>decide (k.kind=3)||decide (k.sort≠1)):=by
         unfold agB
         generalize t.kids=l
         induction l with
         | nil=>rfl
         | cons x l ih=>simp only [List.all_cons,List.any_cons,ih,Bool.not_or];congr 1;congr 1;by_cases h:x.sort=1<;>simp [bne,h]
        rw [this]
        simp [hs]
       ·rw [if_neg hs]
        constructor
        ·rintro ⟨h,_⟩
         rcases h with h | h
         ·exact absurd h hn
         ·exact absurd h hs
        ·intro h;cases h
    by_cases hp:JL t=true
    ·rw [if_pos hp,if_pos (e2.2 hp)]
    ·rw [if_neg hp,if_neg (λ h=>hp (e2.1 h))]
   ·rw [Bool.and_eq_false_iff,decide_eq_false_iff_not,decide_eq_false_iff_not]
    omega
theorem qe7 {t:T} (h3:t.kind=3) (h:zb t=0):qbv t=0∧(∀ k∈t.kids,zb k=0):=by
 rw [qk6,if_neg (show ¬ (t.kind≠3) from λ h=>h h3)] at h
 by_cases h0:qbv t=0
 ·refine ⟨h0,?_⟩
  rw [h0] at h
  generalize t.kids=l at *
  induction l with
  | nil=>intro k hk;cases hk
  | cons x l ih =>
    rw [List.map_cons,jP] at h
    by_cases hx:zb x=0
    ·rw [hx] at h
     intro k hk
     rcases List.mem_cons.1 hk with rfl | hk
     ·exact hx
     ·exact ih h k hk
    ·rw [qH _ hx] at h;exact absurd h hx
 ·rw [qH _ h0] at h;exact absurd h h0
end Go.GxYtbpnmbmdbblehaaGreat
namespace Go.AmYtbpnmbmdbblehaaGreat
open Go Go.GxYtbpnmbmdbblehaaGreat Go.Lib
theorem qh1 (t:T) (n:List UInt8):Ev (λ m _=>yv m t n) (isN t n):=by
 refine Ev.succ ?_
 simp only [qzz,qiM]
 unfold isN
 refine Ev.ite (λ h=>?_) λ h=>?_
 ·rw [qi] at h;exact Ev.ret (by rw [h];rfl)
 ·rw [qg] at h;exact Ev.ret (by rw [show (t.kind==3)=false from beq_eq_false_iff_ne.2 h];rfl)
theorem qjo (t:T) (n:List UInt8):Ev (λ m _=>J1 m t n) (isN t n):=by
 refine Ev.succ ?_
 simp only [qBJ,qkm]
 unfold isN
 refine Ev.ite (λ h=>?_) λ h=>?_
 ·rw [qi] at h;exact Ev.ret (by rw [h];rfl)
 ·rw [qg] at h;exact Ev.ret (by rw [show (t.kind==3)=false from beq_eq_false_iff_ne.2 h];rfl)
theorem qHK (n:List UInt8) (l:List T):Ev (λ m _=>qdL m n l) (apT n l):=Ev.succ (Ev.pure _)
theorem qbl (n:List UInt8) (l:List T) (hl:l.length≤1000000000):Ev (λ m _=>yu m n l) (apT n l):=by
 refine Ev.succ ?_
 simp only [qzC,qiW]
 refine Ev.ct (zh (by simp;omega) (by omega)) ?_
 refine Ev.case (λ h=>?_) λ x t h=>?_
 ·subst h;exact Ev.pure _
 ·subst h;exact Ev.pure _
def qFQ (n:List UInt8):List UInt8 × Int × Int × Int:=(jp.find? λ r=>r.1==n).getD ([],0,0,0)
theorem qqy (n:List UInt8):(qFQ n).2=qG n:=by
 unfold qFQ qG
 cases jp.find? λ r=>r.1==n<;>rfl
theorem qve (n:List UInt8):Ev (λ m _=>qal m n) (qFQ n):=by
 refine Ev.succ ?_
 simp only [qq1,qbU]
 refine Ev.bind (a:=jp) (Ev.pure _) ?_
 have key:=qr (P := λ i=>Ev (λ m k=>Ql m k n jp jp.length i [] 0 0 0) (((jp.drop i).find? λ r=>r.1==n).getD ([],0,0,0))) jp (by decide)
  (λ hc=>by
   refine Ev.loop ?_
   simp only [qiU,qbF]
   refine Ev.cf hc ?_
   exact Ev.pure _)
  (λ i x hx hd hc hg hi hP=>by
   refine Ev.loop ?_
   simp only [qiU,qbF]
   refine Ev.ct hc (Ev.some hg ?_)
   rw [hd,List.find?_cons,hi]
   refine Ev.ite (λ h=>?_) λ h=>?_
   ·exact Ev.ret (by rw [show (x.1==n)=true from h];rfl)
   ·rw [show (x.1==n)=false from h];exact hP)
 refine Ev.diag (L := λ m k=>Ql m k n jp jp.length 0 [] 0 0 0) ?_
 exact key 0 (Nat.zero_le _)
theorem qxC {t:T} (h3:t.kind=3) (h:qbv t=0):(qG t.name).2.2≠0∧(qG t.name).1≤(t.kids.length:Int)∧(t.kids.length:Int)≤(qG t.name).2.1∧JL t=false:=by
 unfold qbv at h
 rw [if_neg (show ¬ t.kind≠3 from λ hh=>hh h3)] at h
 split at h
 ·omega
 rename_i h1
 split at h
 ·omega
 rename_i h2
 split at h
 ·omega
 rename_i h4
 exact ⟨h1,by omega,by omega,by simpa using h4⟩
theorem qtx {t:T} {i:Nat} (h:i<t.kids.length):qd t.kids (i:Int)=some (kid t i):=by
 rw [jG]
 unfold kid
 rw [List.getD_eq_getElem?_getD,List.getElem?_eq_getElem h];rfl
theorem qcm {t:T} (h:0<t.kids.length):qd t.kids 0=some (kid t 0):=qtx (i:=0) h
theorem qoq {t:T} (h:1<t.kids.length):qd t.kids 1=some (kid t 1):=qtx (i:=1) h
theorem qAL {t:T} {i:Nat} (h:i<t.kids.length):kid t i∈t.kids:=by
 unfold kid
 rw [List.getD_eq_getElem?_getD,List.getElem?_eq_getElem h]
 exact List.getElem_mem h
theorem yr {t:T} {n:List UInt8}:isN t n=true↔t.kind=3∧t.name=n:=by
 unfold isN
 rw [Bool.and_eq_true,beq_iff_eq,beq_iff_eq]
theorem qCV (t:T):size t≤1000000000→Ev (λ m _=>qz m t) (zb t):=by
 induction t using T.ind with
 | h t ih =>
   intro hs
   refine Ev.succ ?_
   simp only [qtO,qcF]
   have hl:=yF t
   rw [qk6]
   refine Ev.ite (λ h=>?_) λ h3=>?_
   ·rw [bnt,qg] at h;exact Ev.ret (by rw [if_pos h])
   rw [bnf,qi] at h3
   rw [if_neg (show ¬ t.kind≠3 from λ hh=>hh h3)]
   have k2:=qr (P := λ i=>Ev (λ m k=>(qN m (qz m) k).2 t.kids t.kids.length i) (((t.kids.drop i).map zb).foldl thn 0)) t.kids (by omega)
    (λ hc=>by
     refine Ev.loop ?_
     simp only [qjH,qcv]
     refine Ev.cf hc ?_
     exact Ev.ret (by simp))
    (λ i x hx hd hc hg hi hP=>by
     refine Ev.loop ?_
     simp only [qjH,qcv,qe]
     have hm:=List.mem_of_getElem? hx
     have h1:=jf t x hm
     refine Ev.ct hc (Ev.some hg (Ev.bind (ih x hm (by omega)) ?_))
     rw [hd,List.map_cons,jP,hi]
     refine Ev.ite (λ h=>?_) λ h=>?_
     ·rw [bnt,qg] at h;exact Ev.ret (by rw [qH _ h])
     ·rw [bnf,qi] at h;rw [h];exact hP)
   have k2':Ev (λ m k=>(qN m (qz m) k).2 t.kids t.kids.length 0) ((t.kids.map zb).foldl thn 0):=(k2 0 (Nat.zero_le _)).res (by rw [List.drop_zero])
   have k1:=qr (P := λ i=>Ev (λ m k=>(qN m (qz m) k).1 t.kids t.kids.length i t.kind t.name t.sort t.kids) (if (t.kids.drop i).any (λ k=>decide (k.kind=3)||decide (k.sort≠1))=true then 10 else (t.kids.map zb).foldl thn 0)) t.kids (by omega)
    (λ hc=>by
     refine Ev.loop ?_
     simp only [qj5,qcB]
     refine Ev.cf hc ?_
     refine k2'.res ?_
     rw [List.drop_length];rfl)
    (λ i x hx hd hc hg hi hP=>by
     refine Ev.loop ?_
     simp only [qj5,qcB,qe]
     refine Ev.ct hc (Ev.some hg ?_)
     rw [hd,List.any_cons,hi]
     refine Ev.ite (λ h=>?_) λ h=>?_
     ·rw [qi] at h;exact Ev.ret (by rw [decide_eq_true h];rfl)
     rw [qg] at h
     rw [decide_eq_false h]
     refine Ev.ite (λ h'=>?_) λ h'=>?_
     ·rw [bnt,qg] at h';exact Ev.ret (by rw [decide_eq_true h'];rfl)
     ·rw [bnf,qi] at h';rw [decide_eq_false (λ hh=>hh h')];exact hP)
   have fin2:qbv t=0→Ev (λ m _=>(qN m (qz m) m).2 t.kids t.kids.length 0) ((t.kids.map zb).foldl thn (qbv t)) := λ h=>by
    rw [h]
    exact Ev.diag (L := λ m k=>(qN m (qz m) k).2 t.kids t.kids.length 0) k2'
   have fin1:JL t=t.kids.any (λ k=>decide (k.kind=3)||decide (k.sort≠1))→qbv t=(if JL t=true then 10 else 0)→Ev (λ m _=>(qN m (qz m) m).1 t.kids t.kids.length 0 t.kind t.name t.sort t.kids) ((t.kids.map zb).foldl thn (qbv t)) := λ hp h=>by
    refine (Ev.diag (L := λ m k=>(qN m (qz m) k).1 t.kids t.kids.length 0 t.kind t.name t.sort t.kids) (k1 0 (Nat.zero_le _))).res ?_
    rw [List.drop_zero,← hp,h]
    split
    ·rw [qH _ (by decide)]
    ·rfl
   refine Ev.bind (qve t.name) ?_
   rw [qqy]
   have hK:qbv t=if (qG t.name).2.2=0 then 10 else if (t.kids.length:Int)<(qG t.name).1∨(qG t.name).2.1<(t.kids.length:Int) then 6 else if JL t=true then 10 else 0:=by
    unfold qbv
    rw [if_neg (show ¬ t.kind≠3 from λ hh=>hh h3)]
   refine Ev.ite (λ h=>?_) λ h=>?_
   ·rw [qi] at h;rw [if_pos h] at hK;exact Ev.ret (by rw [hK,qH _ (by decide)])
   rw [qg] at h
   rw [if_neg h] at hK
   refine Ev.ite (λ h1=>?_) λ h1=>?_
   ·rw [qv] at h1;rw [if_pos (.inl h1)] at hK;exact Ev.ret (by rw [hK,qH _ (by decide)])
   rw [qu] at h1
   refine Ev.ite (λ h2=>?_) λ h2=>?_
   ·rw [qv] at h2;rw [if_pos (.inr h2)] at hK;exact Ev.ret (by rw [hK,qH _ (by decide)])
   rw [qu] at h2
   rw [if_neg (by omega)] at hK
   refine Ev.ite (λ hn=>?_) λ hn=>?_
   ·rw [yZ] at hn
    refine fin1 ?_ hK
    unfold JL
    rw [hn,if_neg (by decide),if_pos (.inl rfl)]
   rw [jn] at hn
   refine Ev.ite (λ hn'=>?_) λ hn'=>?_
   ·rw [yZ] at hn'
    refine fin1 ?_ hK
    unfold JL
    rw [hn',if_neg (by decide),if_pos (.inr rfl)]
   rw [jn] at hn'
   refine Ev.ite (λ hw=>?_) λ hw=>?_
   ·rw [yZ] at hw
    have hpos:0<t.kids.length:=by
     rw [hw,show (qG [110,101,119]).1=1 from by decide] at h1
     omega
    refine Ev.some (qcm hpos) ?_
    have hp:JL t=decide ((kid t 0).kind≠2):=by
     unfold JL
     rw [if_pos (show t.name=qgn from hw)]
    refine Ev.ite (λ hh=>?_) λ hh=>?_
    ·rw [bnt,qg] at hh
     rw [hp,decide_eq_true hh,if_pos rfl] at hK
     exact Ev.ret (by rw [hK,qH _ (by decide)])
    ·rw [bnf,qi] at hh
     rw [hp,decide_eq_false (λ g=>g hh)] at hK
     exact fin2 hK
   ·rw [jn] at hw
    refine fin2 ?_
    have:JL t=false:=by
     unfold JL
     rw [if_neg (show ¬ t.name=qgn from hw),if_neg (λ h=>h.elim hn hn')]
    rw [this] at hK
    exact hK
theorem qGv (t:T) (hs:size t≤1000000000):Ev (λ m _=>qcQ m t) (qkl t):=by
 refine Ev.succ ?_
 simp only [qte,qf3,qe]
 unfold qkl
 refine Ev.bind (qaD t hs) ?_
 refine Ev.ite (λ h=>?_) λ h=>?_
 ·rw [bnt,qg] at h;exact Ev.ret (by rw [jU h])
 ·rw [bnf,qi] at h;rw [h];exact Ev.bind (qCV t hs) (Ev.pure _)
theorem qtQ (n:List UInt8):Ev (λ m _=>qb1 m n) (qG n).2.2:=by
 refine Ev.succ ?_
 simp only [qyN,qet]
 refine Ev.bind (a:=jp) (Ev.succ (Ev.pure _)) ?_
 have key:=qr (P := λ i=>Ev (λ m k=>JV m k n jp i) (((jp.drop i).find? λ r=>r.1==n).getD ([],0,0,0)).2.2.2) jp (by decide)
  (λ hc=>by
   refine Ev.loop ?_
   simp only [qmk,qem]
   refine Ev.cf hc ?_
   exact Ev.pure _)
  (λ i x hx hd hc hg hi hP=>by
   refine Ev.loop ?_
   simp only [qmk,qem]
   refine Ev.ct hc (Ev.some hg ?_)
   rw [hd,List.find?_cons,hi]
   refine Ev.ite (λ h=>?_) λ h=>?_
   ·refine Ev.some hg (Ev.ret ?_)
    rw [show (x.1==n)=true from h];rfl
   ·rw [show (x.1==n)=false from h];exact hP)
 refine Ev.diag (L := λ m k=>JV m k n jp 0) ?_
 exact (key 0 (Nat.zero_le _)).res (by rw [← qqy];rfl)
theorem qGz (t:T):Ev (λ m _=>qf4 m t) (qkd jp t.name t.kids.length):=by
 refine Ev.succ ?_
 simp only [qyT,qew]
 refine Ev.bind (a:=jp) (Ev.succ (Ev.pure _)) ?_
 have key:=qr (P := λ i=>Ev (λ m k=>JU m k jp i t.kind t.name t.sort t.kids) (qkd (jp.drop i) t.name t.kids.length)) jp (by decide)
  (λ hc=>by
   refine Ev.loop ?_
   simp only [qmm,qeo]
   refine Ev.cf hc ?_
   exact Ev.pure _)
  (λ i x hx hd hc hg hi hP=>by
   refine Ev.loop ?_
   simp only [qmm,qeo]
   refine Ev.ct hc (Ev.some hg ?_)
   rw [hd,qCR,hi]
   refine Ev.ite (λ h=>?_) λ h=>?_
   ·rw [if_pos (show (x.1==t.name)=true from h)]
    refine Ev.some hg ?_
    refine Ev.ite (λ h'=>?_) λ h'=>?_
    ·rw [qgP] at h'
     refine Ev.some hg (Ev.ret ?_)
     rw [decide_eq_true h'];rfl
    ·rw [qik] at h'
     exact Ev.ret (by rw [decide_eq_false (by omega)];rfl)
   ·rw [if_neg (by rw [show (x.1==t.name)=false from h];decide)];exact hP)
 refine Ev.diag (L := λ m k=>JU m k jp 0 t.kind t.name t.sort t.kids) ?_
 exact key 0 (Nat.zero_le _)
theorem qCu (t:T) (hl:t.kids.length<2 ^ 62) (hpos:t.name=qgn→0<t.kids.length):Ev (λ m _=>qcU m t) (qis t):=by
 refine Ev.succ ?_
 simp only [qtb,qcz]
 unfold qis
 refine Ev.ite (λ h=>?_) λ h=>?_
 ·rw [yZ] at h
  rw [if_pos (show t.name=qgn from h)]
  refine Ev.some (qcm (hpos h)) (Ev.pure _)
 rw [jn] at h
 rw [if_neg (show ¬ t.name=qgn from h)]
 have key:=qr (P := λ i=>Ev (λ m k=>QS m k i t.kind t.name t.sort t.kids) (agB (t.kids.drop i))) t.kids hl
  (λ hc=>by
   refine Ev.loop ?_
   simp only [qjF,qct]
   refine Ev.cf hc ?_
   exact Ev.ret (by rw [List.drop_length];rfl))
  (λ i x hx hd hc hg hi hP=>by
   refine Ev.loop ?_
   simp only [qjF,qct]
   refine Ev.ct hc (Ev.some hg ?_)
   rw [hd,qFw,hi]
   refine Ev.ite (λ h=>?_) λ h=>?_
   ·exact Ev.ret (by rw [show (x.kind==3)=true from h];rfl)
   rw [show (x.kind==3)=false from h]
   refine Ev.some hg ?_
   refine Ev.ite (λ h'=>?_) λ h'=>?_
   ·rw [bnt,qg] at h'
    exact Ev.ret (by rw [show (x.sort != 1)=true from bne_iff_ne.2 h'];rfl)
   ·rw [bnf,qi] at h'
    rw [show (x.sort != 1)=false by rw [h'];rfl]
    exact hP)
 refine Ev.diag (L := λ m k=>QS m k 0 t.kind t.name t.sort t.kids) ?_
 exact (key 0 (Nat.zero_le _)).res (by rw [List.drop_zero])
theorem qC1 (t:T):size t≤1000000000→Ev (λ m _=>yq m t) (zb t):=by
 induction t using T.ind with
 | h t ih =>
   intro hs
   refine Ev.succ ?_
   simp only [qwa,qdA,qe]
   have hl:=yF t
   rw [qk6]
   refine Ev.ite (λ h=>?_) λ h3=>?_
   ·rw [bnt,qg] at h;exact Ev.ret (by rw [if_pos h])
   rw [bnf,qi] at h3
   rw [if_neg (show ¬ t.kind≠3 from λ hh=>hh h3),← qF2 t h3]
   have key:=qr (P := λ i=>Ev (λ m k=>Qs m (yq m) k i t.kind t.name t.sort t.kids) (((t.kids.drop i).map zb).foldl thn 0)) t.kids (by omega)
    (λ hc=>by
     refine Ev.loop ?_
     simp only [qkv,qdz]
     refine Ev.cf hc ?_
     exact Ev.ret (by simp))
    (λ i x hx hd hc hg hi hP=>by
     refine Ev.loop ?_
     simp only [qkv,qdz,qe]
     have hm:=List.mem_of_getElem? hx
     have h1:=jf t x hm
     refine Ev.ct hc (Ev.some hg (Ev.bind (ih x hm (by omega)) ?_))
     rw [hd,List.map_cons,jP,hi]
     refine Ev.ite (λ h=>?_) λ h=>?_
     ·rw [bnt,qg] at h;exact Ev.ret (by rw [qH _ h])
     ·rw [bnf,qi] at h;rw [h];exact hP)
   have fin:qro t=0→Ev (λ m _=>Qs m (yq m) m 0 t.kind t.name t.sort t.kids) ((t.kids.map zb).foldl thn (qro t)) := λ h=>by
    rw [h]
    exact (Ev.diag (L := λ m k=>Qs m (yq m) k 0 t.kind t.name t.sort t.kids) (key 0 (Nat.zero_le _))).res (by rw [List.drop_zero])
   unfold qro at fin ⊢
   refine Ev.bind (qtQ t.name) ?_
   refine Ev.ite (λ h=>?_) λ h=>?_
   ·rw [qi] at h;rw [if_pos h];exact Ev.ret (by rw [qH _ (by decide)])
   rw [qg] at h
   rw [if_neg h] at fin ⊢
   refine Ev.bind (qGz t) ?_
   cases hf:qkd jp t.name t.kids.length with
   | false =>
     refine Ev.ct rfl ?_
     rw [if_pos rfl];exact Ev.ret (by rw [qH _ (by decide)])
   | true =>
     rw [hf,if_neg (by decide)] at fin
     rw [if_neg (by decide)]
     refine Ev.cf rfl ?_
     refine Ev.ite (λ h2=>?_) λ h2=>?_
     ·rw [qi] at h2
      refine Ev.bind (qCu t (by omega) λ hn=>?_) ?_
      ·obtain ⟨k1,k2,k3,k4,k5,k6,k7⟩:=qri h
       have h6:=k6 h2
       unfold qkd at hf
       rw [k1,k2,Bool.true_and,Bool.and_eq_true,decide_eq_true_iff] at hf
       omega
      cases ha:qis t with
      | false =>
        refine Ev.ct rfl ?_
        rw [if_pos ⟨h2,rfl⟩]
        exact Ev.ret (by rw [qH _ (by decide)])
      | true =>
        rw [ha,if_neg (by rintro ⟨_,h⟩;cases h)] at fin
        rw [if_neg (by rintro ⟨_,h⟩;cases h)]
        exact Ev.cf rfl (fin rfl)
     ·rw [qg] at h2
      rw [if_neg (by rintro ⟨h,_⟩;exact h2 h)] at fin ⊢
      exact fin rfl
theorem qG2 (t:T) (hs:size t≤1000000000):Ev (λ m _=>qee m t) (qkl t):=by
 refine Ev.succ ?_
 simp only [qvr,qgb,qe]
 unfold qkl
 refine Ev.bind (qaC t hs) ?_
 refine Ev.ite (λ h=>?_) λ h=>?_
 ·rw [bnt,qg] at h;exact Ev.ret (by rw [jU h])
 ·rw [bnf,qi] at h;rw [h];exact Ev.bind (qC1 t hs) (Ev.pure _)
end Go.AmYtbpnmbmdbblehaaGreat
namespace Go.GxYtbpnmbmdbblehaaGreat
def Asc (l:List T):Prop:=l.Pairwise λ a b=>qp a b=-1
theorem z8 {a:T}:qp a a≠-1:=by rw [qod];decide
theorem qud {a b:T}:qp a b=1↔qp b a=-1:=by
 have:=zH.anti a b;omega
theorem qdQ {a b c:T} (h1:qp a b=-1) (h2:qp b c=-1):qp a c=-1:=zH.trans a b c h1 h2
theorem J0 {x:T} {l:List T}:Asc (x::l)↔(∀ y∈l,qp x y=-1)∧Asc l:=List.pairwise_cons
theorem qAi:∀ (l m:List T),Asc l→Asc m→(∀ x,x∈l↔x∈m)→l=m
 | [],[],_,_,_=>rfl
 | [],y::m,_,_,h=>absurd ((h y).2 (List.mem_cons_self ..)) (by simp)
 | x::l,[],_,_,h=>absurd ((h x).1 (List.mem_cons_self ..)) (by simp)
 | x::l,y::m,hl,hm,h=>by
   obtain ⟨hl1,hl2⟩:=J0.1 hl
   obtain ⟨hm1,hm2⟩:=J0.1 hm
   have hx:=(h x).1 (List.mem_cons_self ..)
   have hy:=(h y).2 (List.mem_cons_self ..)
   have e:x=y:=by
    rcases List.mem_cons.1 hx with e | hx
    ·exact e
    rcases List.mem_cons.1 hy with e | hy
    ·exact e.symm
    exact absurd (qdQ (hl1 y hy) (hm1 x hx)) z8
   subst e
   rw [qAi l m hl2 hm2 λ z=>?_]
   constructor
   ·intro hz
    rcases List.mem_cons.1 ((h z).1 (List.mem_cons_of_mem _ hz)) with e | h'
    ·subst e;exact absurd (hl1 z hz) z8
    ·exact h'
   ·intro hz
    rcases List.mem_cons.1 ((h z).2 (List.mem_cons_of_mem _ hz)) with e | h'
    ·subst e;exact absurd (hm1 z hz) z8
    ·exact h'
theorem qq9 (n:Nat):∀ (a b:List T),a.length+b.length≤n→Asc a→Asc b→Asc (zd a b)∧(∀ x,x∈zd a b↔¬(x∈a↔x∈b)):=by
 induction n with
 | zero =>
   intro a b h _ _
   obtain rfl:a=[]:=List.length_eq_zero_iff.1 (by omega)
   obtain rfl:b=[]:=List.length_eq_zero_iff.1 (by omega)
   rw [zd]
   exact ⟨List.Pairwise.nil,by simp⟩
 | succ n ih =>
   intro a b h ha hb
   match a,b with
   | [],b=>rw [zd];exact ⟨hb,by simp⟩
   | x::a,[]=>rw [zd];exact ⟨ha,by simp [Classical.or_iff_not_imp_left]⟩
   | x::a,y::b =>
     rw [zd]
     obtain ⟨ha1,ha2⟩:=J0.1 ha
     obtain ⟨hb1,hb2⟩:=J0.1 hb
     simp only [List.length_cons] at h
     by_cases h1:qp x y=-1
     ·rw [if_pos h1]
      obtain ⟨k1,k2⟩:=ih a (y::b) (by simp;omega) ha2 hb
      have hxn:x ∉ y::b:=by
       intro h
       rcases List.mem_cons.1 h with e | h
       ·subst e;exact z8 h1
       ·exact z8 (qdQ h1 (hb1 x h))
      have hxa:x ∉ a := λ h=>z8 (ha1 x h)
      refine ⟨J0.2 ⟨λ z hz=>?_,k1⟩,λ z=>?_⟩
      ·have:=(k2 z).1 hz
       by_cases hza:z∈a
       ·exact ha1 z hza
       ·have hzb:z∈y::b:=by
          by_cases hzb:z∈y::b
          ·exact hzb
          ·exact absurd ⟨λ h=>absurd h hza,λ h=>absurd h hzb⟩ this
        rcases List.mem_cons.1 hzb with e | h'
        ·rw [e];exact h1
        ·exact qdQ h1 (hb1 z h')
      ·rw [List.mem_cons,k2,List.mem_cons (a:=z) (b:=x)]
       by_cases e:z=x
       ·subst e
        simp [hxn]
       ·simp [e]
     ·rw [if_neg h1]
      by_cases h2:qp x y=1
      ·rw [if_pos h2]
       have h3:=qud.1 h2
       obtain ⟨k1,k2⟩:=ih (x::a) b (by simp;omega) ha hb2
       have hyn:y ∉ x::a:=by
        intro h
        rcases List.mem_cons.1 h with e | h
        ·subst e;exact z8 h3
        ·exact z8 (qdQ h3 (ha1 y h))
       have hyb:y ∉ b := λ h=>z8 (hb1 y h)
       refine ⟨J0.2 ⟨λ z hz=>?_,k1⟩,λ z=>?_⟩
       ·have:=(k2 z).1 hz
        by_cases hzb:z∈b
        ·exact hb1 z hzb
        ·have hza:z∈x::a:=by
           by_cases hza:z∈x::a
           ·exact hza
           ·exact absurd ⟨λ h=>absurd h hza,λ h=>absurd h hzb⟩ this
         rcases List.mem_cons.1 hza with e | h'
         ·rw [e];exact h3
         ·exact qdQ h3 (ha1 z h')
       ·rw [List.mem_cons,k2,List.mem_cons (a:=z) (b:=y)]
        by_cases e:z=y
        ·subst e
         simp [hyn]
        ·simp [e]
      ·rw [if_neg h2]
       have h3:qp x y=0:=by have:=zH.rng x y;omega
       have e:=JQ x y h3
       subst e
       obtain ⟨k1,k2⟩:=ih a b (by omega) ha2 hb2
       refine ⟨k1,λ z=>?_⟩
       rw [k2,List.mem_cons,List.mem_cons]
       by_cases e:z=x
       ·subst e
        have:z ∉ a := λ h=>z8 (ha1 z h)
        have:z ∉ b := λ h=>z8 (hb1 z h)
        simp [*]
       ·simp [e]
theorem qvg {a b:List T} (ha:Asc a) (hb:Asc b):Asc (zd a b):=(qq9 _ a b (Nat.le_refl _) ha hb).1
theorem qC9 {a b:List T} (ha:Asc a) (hb:Asc b) (x:T):x∈zd a b↔¬(x∈a↔x∈b):=(qq9 _ a b (Nat.le_refl _) ha hb).2 x
theorem qfV:∀ (ls:List (List T)) (a:List T),Asc a→(∀ l∈ls,Asc l)→Asc (ls.foldl zd a)
 | [],_,h,_=>h
 | l::ls,a,h,k=>qfV ls _ (qvg h (k l (List.mem_cons_self ..))) λ m hm=>k m (List.mem_cons_of_mem _ hm)
theorem qjL (t:T):Asc (jr t):=by
 refine T.ind (P := λ t=>Asc (jr t)) ?_ t
 intro t ih
 rw [qiD]
 split
 ·exact List.Pairwise.nil
 ·split
  ·exact qfV _ _ List.Pairwise.nil λ l hl=>by
    obtain ⟨k,hk,rfl⟩:=List.mem_map.1 hl
    exact ih k hk
  ·exact List.pairwise_singleton _ _
def QH (t:T) (s:List T × Bool) (x:T):List T × Bool :=
 if s.2=false∧qp t x≤0 then (s.1++(if qp t x<0 then [t] else [])++[x],true) else (s.1++[x],s.2)
def qtd (l:List T) (t:T):List T:=if (l.foldl (QH t) ([],false)).2 then (l.foldl (QH t) ([],false)).1 else (l.foldl (QH t) ([],false)).1++[t]
def qgo (l:List T) (t:T):List T:=if l.any (λ x=>yJ x t) then l.filter (λ x => !yJ x t) else qtd l t
def qhW (a b:List T):List T:=b.foldl qgo a
theorem quT (t:T):∀ (l out:List T),l.foldl (QH t) (out,true)=(out++l,true)
 | [],out=>by simp
 | x::l,out=>by
   have e:QH t (out,true) x=(out++[x],true):=by simp [QH]
   rw [List.foldl_cons,e,quT t l]
   simp
def Qa:List T→T→List T
 | [],t=>[t]
 | x::l,t=>if qp t x<0 then t::x::l else if qp t x=0 then x::l else x::Qa l t
theorem qrg (t:T):∀ (l out:List T),(if (l.foldl (QH t) (out,false)).2 then (l.foldl (QH t) (out,false)).1 else (l.foldl (QH t) (out,false)).1++[t])=out++Qa l t
 | [],out=>by simp [Qa]
 | x::l,out=>by
   rw [List.foldl_cons]
   by_cases h:qp t x≤0
   ·have e:QH t (out,false) x=(out++(if qp t x<0 then [t] else [])++[x],true):=by simp [QH,h]
    rw [e,quT,Qa]
    by_cases h0:qp t x<0
    ·simp [h0]
    ·have:qp t x=0:=by omega
     simp [this]
   ·have e:QH t (out,false) x=(out++[x],false):=by simp [QH,h]
    rw [e,qrg t l,Qa,if_neg (by omega),if_neg (by omega)]
    simp
theorem qpW (l:List T) (t:T):qtd l t=Qa l t:=by
 have:=qrg t l []
 simpa [qtd] using this
theorem qpL (t:T):∀ (l:List T) (x:T),x∈Qa l t↔x∈l∨x=t
 | [],x=>by simp [Qa]
 | y::l,x=>by
   rw [Qa]
   split
   ·simp only [List.mem_cons]
    constructor
    ·rintro (h | h | h)<;>simp [h]
    ·rintro ((h | h) | h)<;>simp [h]
   ·split
    ·rename_i h
     have:=JQ t y h
     subst this
     simp only [List.mem_cons]
     constructor
     ·rintro (h | h)<;>simp [h]
     ·rintro ((h | h) | h)<;>simp [h]
    ·rw [List.mem_cons,qpL t l x,List.mem_cons]
     constructor
     ·rintro (h | h | h)<;>simp [h]
     ·rintro ((h | h) | h)<;>simp [h]
theorem qxM (t:T):∀ (l:List T),Asc l→Asc (Qa l t)
 | [],_=>List.pairwise_singleton _ _
 | y::l,h=>by
   obtain ⟨h1,h2⟩:=J0.1 h
   rw [Qa]
   have hr:=zH.rng t y
   split
   ·have hlt:qp t y=-1:=by omega
    refine J0.2 ⟨λ z hz=>?_,h⟩
    rcases List.mem_cons.1 hz with e | hz
    ·rw [e];exact hlt
    ·exact qdQ hlt (h1 z hz)
   ·split
    ·exact h
    ·refine J0.2 ⟨λ z hz=>?_,qxM t l h2⟩
     rcases (qpL t l z).1 hz with hz | e
     ·exact h1 z hz
     ·rw [e];exact qud.1 (by omega)
theorem Jf {a b:T}:yJ a b=true↔a=b:=by unfold yJ;exact decide_eq_true_iff
theorem qDJ {l:List T} (h:Asc l) (t:T):Asc (qgo l t)∧∀ x,x∈qgo l t↔¬(x∈l↔x=t):=by
 unfold qgo
 by_cases hm:t∈l
 ·have h1:(l.any λ x=>yJ x t)=true:=List.any_eq_true.2 ⟨t,hm,Jf.2 rfl⟩
  rw [if_pos h1]
  refine ⟨List.Pairwise.filter _ h,λ x=>?_⟩
  rw [List.mem_filter]
  by_cases e:x=t
  ·subst e
   simp [hm,Jf.2 rfl]
  ·have:yJ x t=false:=by
     cases hh:yJ x t
     ·rfl
     ·exact absurd (Jf.1 hh) e
   simp [e,this]
 ·rw [if_neg (λ hh=>by
    obtain ⟨x,hx,he⟩:=List.any_eq_true.1 hh
    exact hm (by rw [← Jf.1 he];exact hx)),qpW]
  refine ⟨qxM t l h,λ x=>?_⟩
  rw [qpL]
  by_cases e:x=t
  ·subst e;simp [hm]
  ·simp [e]
theorem qlT:∀ (b a:List T),Asc a→Asc b→Asc (qhW a b)∧∀ x,x∈qhW a b↔¬(x∈a↔x∈b)
 | [],a,ha,_=>⟨ha,λ x=>by simp [qhW]⟩
 | y::b,a,ha,hb=>by
   obtain ⟨hb1,hb2⟩:=J0.1 hb
   obtain ⟨k1,k2⟩:=qDJ ha y
   obtain ⟨m1,m2⟩:=qlT b (qgo a y) k1 hb2
   refine ⟨m1,λ x=>?_⟩
   rw [show qhW a (y::b)=qhW (qgo a y) b from rfl,m2,k2,List.mem_cons]
   by_cases e:x=y
   ·subst e
    have:x ∉ b := λ h=>z8 (hb1 x h)
    by_cases hx:x∈a<;>simp [this,hx]
   ·by_cases hx:x∈a<;>by_cases hy:x∈b<;>simp [e,hx,hy]
theorem qw4 {a b:List T} (ha:Asc a) (hb:Asc b):qhW a b=zd a b :=
 qAi _ _ (qlT b a ha hb).1 (qvg ha hb) λ x=>by rw [(qlT b a ha hb).2,qC9 ha hb]
end Go.GxYtbpnmbmdbblehaaGreat
namespace Go.AmYtbpnmbmdbblehaaGreat
open Go Go.GxYtbpnmbmdbblehaaGreat Go.Lib
def szL (l:List T):Nat:=(l.map size).sum
theorem qJ (x:T) (l:List T):szL (x::l)=size x+szL l:=by simp [szL]
theorem qgy (a b:List T):szL (a++b)=szL a+szL b:=by simp [szL]
theorem ja:∀ l:List T,l.length≤szL l
 | []=>Nat.zero_le _
 | x::l=>by
   have:=ja l
   have:=size_pos x
   rw [qJ,List.length_cons];omega
theorem qbf {l:List T} {x:T} (h:x∈l):size x≤szL l:=qhX l x h
theorem qlX:∀ (n:Nat) (a b:List T),a.length+b.length≤n→szL (zd a b)≤szL a+szL b
 | _,[],b,_=>by rw [zd];omega
 | _,x::a,[],_=>by rw [zd];omega
 | 0,x::a,y::b,h=>by simp at h
 | n+1,x::a,y::b,h=>by
   simp only [List.length_cons] at h
   rw [zd]
   split
   ·have:=qlX n a (y::b) (by simp;omega)
    rw [qJ,qJ];omega
   ·split
    ·have:=qlX n (x::a) b (by simp;omega)
     rw [qJ y,qJ y];omega
    ·have:=qlX n a b (by omega)
     rw [qJ,qJ];omega
theorem qpl:∀ (ls:List (List T)) (a:List T),szL (ls.foldl zd a)≤szL a+(ls.map szL).sum
 | [],_=>by simp
 | l::ls,a=>by
   have h1:=qpl ls (zd a l)
   have h2:=qlX _ a l (Nat.le_refl _)
   simp only [List.foldl_cons,List.map_cons,List.sum_cons]
   omega
theorem qrA (f g:T→Nat):∀ l:List T,(∀ k∈l,f k≤g k)→(l.map f).sum≤(l.map g).sum
 | [],_=>Nat.le_refl _
 | x::l,h=>by
   have h1:=h x (List.mem_cons_self ..)
   have h2:=qrA f g l λ k hk=>h k (List.mem_cons_of_mem _ hk)
   simp only [List.map_cons,List.sum_cons];omega
theorem qxe (l:List T) (h:∀ k∈l,szL (jr k)≤size k):szL ((l.map jr).foldl zd [])≤szL l:=by
 refine Nat.le_trans (qpl _ _) ?_
 rw [List.map_map]
 have:=qrA (szL ∘ jr) size l h
 show 0+_≤(l.map size).sum
 omega
theorem qiV (t:T):szL (jr t)≤size t:=by
 refine T.ind (P := λ t=>szL (jr t)≤size t) ?_ t
 intro t ih
 rw [qiD]
 split
 ·exact Nat.zero_le _
 ·split
  ·have:=qxe t.kids ih
   have:=qC t
   unfold szL at *;omega
  ·show szL [t]≤_
   rw [qJ];exact Nat.le_refl _
theorem qcW (l:List T):szL (zF l)≤szL l:=qxe l λ k _=>qiV k
theorem qle (x:T) (l:List T):yW (x::l) 1 (((x::l).length:Nat):Int)=l:=by
 unfold yW
 rw [Int.toNat_natCast,List.take_length];rfl
theorem qlQ (n:Nat):inb (n:Int) n=true:=by unfold inb;rw [decide_eq_true_iff];omega
theorem qoJ (x:T) (l:List T):inb 1 (Int.toNat (((x::l).length:Nat):Int))=true:=by
 unfold inb;rw [decide_eq_true_iff,Int.toNat_natCast,List.length_cons];omega
theorem qyV (x:T) (l:List T):ilt 0 (((x::l).length:Nat):Int)=true:=by rw [qv,List.length_cons];omega
theorem qB8:∀ (n:Nat) (a b acc:List T),a.length+b.length≤n→szL acc+szL a+szL b≤1000000000→Ev (λ m k=>qbS m k a b acc) (acc++zd a b):=by
 intro n
 induction n with
 | zero =>
   intro a b acc hn hs
   have:a=[]:=List.eq_nil_of_length_eq_zero (by omega)
   subst this
   have:b=[]:=List.eq_nil_of_length_eq_zero (by omega)
   subst this
   refine Ev.loop ?_
   simp only [qps,qgM]
   have:=ja acc
   exact Ev.cf rfl (Ev.ct (zh (by simp only [List.length_nil];omega) (by omega)) (Ev.ct (zh (by simp only [List.length_nil,List.append_nil];omega) (by omega)) (Ev.ret (by rw [zd];simp))))
 | succ n ih =>
   intro a b acc hn hs
   refine Ev.loop ?_
   simp only [qps,qgM,qe]
   have h1:=ja acc
   have h2:=ja a
   have h3:=ja b
   cases a with
   | nil =>
     refine Ev.cf rfl (Ev.ct (zh (by simp only [List.length_nil];omega) (by omega)) (Ev.ct (zh (by simp only [List.append_nil];omega) (by omega)) (Ev.ret (by rw [zd];simp))))
   | cons x a =>
     refine Ev.ct (qyV x a) ?_
     cases b with
     | nil =>
       refine Ev.cf rfl (Ev.ct (zh (by omega) (by omega)) (Ev.ct (zh (by rw [List.length_append];simp only [List.length_nil];omega) (by omega)) (Ev.ret (by rw [zd];simp))))
     | cons y b =>
       rw [qJ,qJ] at hs
       refine Ev.ct (qyV y b) (Ev.some (Jb _) (Ev.some (Jb _) (Ev.bind (qce x (by omega) y (by omega)) ?_)))
       rw [zd]
       simp only [List.length_cons] at hn h2 h3
       rw [qJ] at h2 h3
       refine Ev.ite (λ hc=>?_) λ hc=>?_
       ·rw [qv] at hc
        have hc:qp x y=-1:=by rcases zH.rng x y with h | h | h<;>omega
        rw [if_pos hc]
        refine Ev.some (Jb _) (Ev.ct (zh (by omega) (by omega)) (Ev.ct (qlQ _) (Ev.ct (qoJ x a) ?_)))
        rw [qle]
        refine (ih a (y::b) (acc++[x]) (by simp only [List.length_cons];omega) (by rw [qgy,qJ,qJ];show szL acc+(size x+0)+_+_≤_;omega)).res (by simp)
       ·rw [qu] at hc
        rw [if_neg (by omega)]
        refine Ev.ite (λ hd=>?_) λ hd=>?_
        ·rw [qv] at hd
         have hd:qp x y=1:=by rcases zH.rng x y with h | h | h<;>omega
         rw [if_pos hd]
         refine Ev.some (Jb _) (Ev.ct (zh (by omega) (by omega)) (Ev.ct (qlQ _) (Ev.ct (qoJ y b) ?_)))
         rw [qle]
         refine (ih (x::a) b (acc++[y]) (by simp only [List.length_cons];omega) (by rw [qgy,qJ,qJ];show szL acc+(size y+0)+_+_≤_;omega)).res (by simp)
        ·rw [qu] at hd
         rw [if_neg (by omega)]
         refine Ev.ct (qlQ _) (Ev.ct (qoJ x a) (Ev.ct (qlQ _) (Ev.ct (qoJ y b) ?_)))
         rw [qle,qle]
         exact ih a b acc (by omega) (by omega)
theorem qxa (a b:List T) (hs:szL a+szL b≤1000000000):Ev (λ m _=>qgh m a b) (zd a b):=by
 refine Ev.succ ?_
 simp only [qA3,qgJ]
 refine Ev.diag (L := λ m k=>qbS m k a b []) ?_
 exact qB8 _ a b [] (Nat.le_refl _) (by show 0+_+_≤_;omega)
theorem qy8 (l:List T) (i:Nat):szL (l.take i)≤szL l:=by
 have:=congrArg szL (List.take_append_drop i l)
 rw [qgy] at this;omega
theorem jA {l:List T} {i:Nat} {x:T} (h:l[i]? = some x):szL (l.take i)+size x≤szL l:=by
 have h1:l.take (i+1)=l.take i++[x]:=by rw [List.take_add_one,h];rfl
 have h2:=qy8 l (i+1)
 rw [h1,qgy,qJ] at h2
 have:szL ([]:List T)=0:=rfl
 omega
theorem qhS {l:List T} {i:Nat} {x:T} (h:l[i]? = some x):((l.take (i+1)).map jr).foldl zd []=zd (((l.take i).map jr).foldl zd []) (jr x):=by
 rw [List.take_add_one,h,List.map_append,List.foldl_append];rfl
theorem qFi (t:T):size t≤1000000000→Ev (λ m _=>zO m t) (jr t):=by
 induction t using T.ind with
 | h t ih =>
   intro hs
   have hl:=yF t
   have hz:=qC t
   refine Ev.succ ?_
   simp only [qt7,qcA,qe]
   have key:=qr (P := λ i=>Ev (λ m k=>jR m (zO m) k (((t.kids.take i).map jr).foldl zd []) t.kids t.kids.length i) ((t.kids.map jr).foldl zd [])) t.kids (by omega)
    (λ hc=>by
     refine Ev.loop ?_
     simp only [qjP,qcw]
     refine Ev.cf hc ?_
     rw [List.take_length]
     exact Ev.pure _)
    (λ i x hx hd hc hg hi hP=>by
     refine Ev.loop ?_
     simp only [qjP,qcw,qe]
     have hm:=List.mem_of_getElem? hx
     have h1:=jf t x hm
     have h2:=qcW (t.kids.take i)
     have h3:=jA hx
     have h4:=qiV x
     refine Ev.ct hc (Ev.some hg (Ev.bind (ih x hm (by omega)) (Ev.bind (qxa _ _ ?_) ?_)))
     ·unfold zF at h2;unfold szL at *;omega
     ·rw [hi]
      refine hP.congr λ m k=>?_
      rw [qhS hx])
   have main:Ev (λ m _=>jR m (zO m) m [] t.kids t.kids.length 0) ((t.kids.map jr).foldl zd []) :=
    Ev.diag (L := λ m k=>jR m (zO m) k [] t.kids t.kids.length 0) (key 0 (Nat.zero_le _))
   rw [qiD]
   by_cases h3:t.kind=3
   ·have hk:ieq t.kind 3=true:=qi.2 h3
    refine Ev.ct hk ?_
    refine Ev.ite (λ hn=>?_) λ hn=>?_
    ·rw [yZ] at hn
     have hnz:isN t qbb=true:=yr.2 ⟨h3,hn⟩
     have hnx:isN t qd1=false:=by
      rw [← Bool.not_eq_true,yr];rintro ⟨_,h⟩;rw [hn] at h;exact absurd h (by decide)
     refine Ev.ite (λ he=>?_) λ he=>?_
     ·rw [qi] at he
      have he:t.kids=[]:=List.eq_nil_of_length_eq_zero (by omega)
      rw [hnz,he]
      exact Ev.pure _
     ·rw [qg] at he
      have he:t.kids.isEmpty=false:=by
       cases hh:t.kids with
       | nil=>rw [hh] at he;exact absurd rfl he
       | cons _ _=>rfl
      rw [hnz,he,hnx]
      exact Ev.ct hk (Ev.cf (by rw [hn];rfl) (Ev.pure _))
    ·have hn':=jn.1 hn
     have hnz:isN t qbb=false:=by
      rw [← Bool.not_eq_true,yr];rintro ⟨_,h⟩;exact hn' h
     rw [hnz]
     refine Ev.ct hk (Ev.ite (λ hx=>?_) λ hx=>?_)
     ·rw [show isN t qd1=true from yr.2 ⟨h3,yZ.1 hx⟩]
      exact main
     ·have hnx:isN t qd1=false:=by
        rw [← Bool.not_eq_true,yr];rintro ⟨_,h⟩;exact jn.1 hx h
      rw [hnx]
      exact Ev.pure _
   ·have hk:ieq t.kind 3=false:=qg.2 h3
    have hnn:∀ n,isN t n=false := λ n=>by
     rw [← Bool.not_eq_true,yr];rintro ⟨h,_⟩;exact h3 h
    rw [hnn,hnn]
    exact Ev.cf hk (Ev.cf hk (Ev.pure _))
end Go.AmYtbpnmbmdbblehaaGreat
namespace Go.AmYtbpnmbmdbblehaaGreat
open Go Go.GxYtbpnmbmdbblehaaGreat
theorem qCN (ls:List (List T)) (hn:ls.length<1000) (h:(ls.map List.length).sum≤100000000):Ev (λ m _=>zc m ls) ls.flatten:=by
 have hfl:∀ l:List (List T),l.flatten.length=(l.map List.length).sum := λ l=>List.length_flatten
 have k2:=qr (P := λ i=>Ev (λ m k=>(ql m k).2 ls ls.length i (ls.take i).flatten) ls.flatten) ls (by omega)
  (λ hc=>by
   refine Ev.loop ?_
   simp only [Jv,yy]
   refine Ev.cf hc ?_
   rw [List.take_length]
   exact Ev.pure _)
  (λ i x hx hd hc hg hi hP=>by
   refine Ev.loop ?_
   simp only [Jv,yy]
   have ht:ls.take (i+1)=ls.take i++[x]:=by rw [List.take_add_one,hx];rfl
   have hs:((ls.take (i+1)).map List.length).sum≤(ls.map List.length).sum:=by
    have:=congrArg (λ l=>(l.map List.length).sum) (List.take_append_drop (i+1) ls)
    simp only [List.map_append,List.sum_append] at this
    omega
   rw [ht] at hs
   simp only [List.map_append,List.sum_append,List.map_cons,List.map_nil,List.sum_cons,List.sum_nil] at hs
   refine Ev.ct hc (Ev.some hg (Ev.ct (zh ?_ (by omega)) ?_))
   ·rw [hfl];omega
   ·rw [hi]
    refine hP.congr λ m k=>?_
    rw [ht,List.flatten_append];simp)
 have k1:=qr (P := λ i=>∀ n:Nat,n+((ls.drop i).map List.length).sum≤100000000→Ev (λ m k=>(ql m k).1 ls n ls ls.length i) ls.flatten) ls (by omega)
  (λ hc n hn=>by
   refine Ev.loop ?_
   simp only [Jy,yx]
   refine Ev.cf hc (Ev.some (a:=((),[],())) ?_ (k2 0 (Nat.zero_le _)))
   unfold yt
   rw [show inb (n:Int) 100000000=true from by unfold inb;rw [decide_eq_true_iff];omega]
   rfl)
  (λ i x hx hd hc hg hi hP n hn=>by
   refine Ev.loop ?_
   simp only [Jy,yx]
   rw [hd,List.map_cons,List.sum_cons] at hn
   refine Ev.ct hc (Ev.some hg ?_)
   rw [ql0,Qn (by omega)]
   refine Ev.cf (qu.2 (by omega)) ?_
   rw [hi]
   exact hP (n+x.length) (by omega))
 refine Ev.succ ?_
 simp only [qea,yC]
 refine Ev.diag (L := λ m k=>(ql m k).1 ls 0 ls ls.length 0) ?_
 exact k1 0 (Nat.zero_le _) 0 (by rw [List.drop_zero];omega)
theorem qr5 (a b:List T) (h:a.length+b.length≤100000000):Ev (λ m _=>zc m [a,b]) (a++b) :=
 (qCN [a,b] (by simp) (by simpa using h)).res (by simp)
theorem qne {f:T→Int} {l:List T} {i:Nat} {x:T} (h:l.drop i=x::l.drop (i+1)):((l.drop i).map f).foldl thn 0=if f x≠0 then f x else ((l.drop (i+1)).map f).foldl thn 0:=by
 rw [h,List.map_cons]
 by_cases hx:f x=0
 ·rw [if_neg (by simpa using hx),hx];rfl
 ·rw [if_pos hx]
  exact qH _ hx
theorem qD9 (l:List T) (hs:szL l≤100000000):Ev (λ m _=>qgX m l []) (qkx l):=by
 have hl:=ja l
 refine Ev.succ ?_
 simp only [qzp,qfl]
 unfold qkx
 refine Ev.ite (λ h=>?_) λ h=>?_
 ·rw [qv] at h
  rw [if_pos (by omega)]
  exact Ev.pure _
 ·rw [qu] at h
  rw [if_neg (by omega)]
  refine Ev.bind (qr5 l [] (by simp only [List.length_nil];omega)) ?_
  rw [List.append_nil]
  have key:=qr (P := λ i=>Ev (λ m k=>qaO m k l l.length i) (((l.drop i).map qA).foldl thn 0)) l (by omega)
   (λ hc=>by
    refine Ev.loop ?_
    simp only [qm2,qfK]
    refine Ev.cf hc ?_
    rw [List.drop_length]
    exact Ev.pure _)
   (λ i x hx hd hc hg hi hP=>by
    refine Ev.loop ?_
    simp only [qm2,qfK,qe]
    have h1:=qbf (List.mem_of_getElem? hx)
    rw [qne hd]
    refine Ev.ct hc (Ev.some hg (Ev.bind (qaD x (by omega)) (Ev.ite (λ hv=>?_) λ hv=>?_)))
    ·rw [bnt,qg] at hv
     rw [if_pos hv]
     exact Ev.pure _
    ·rw [bnf,qi] at hv
     rw [if_neg (by omega),hi]
     exact hP)
  refine Ev.diag (L := λ m k=>qaO m k l l.length 0) ?_
  exact (key 0 (Nat.zero_le _)).res (by rw [List.drop_zero])
theorem qCb (t:T) (hs:size t≤1000000000):Ev (λ m _=>qcX m t [] t) (t,0):=by
 refine Ev.succ ?_
 simp only [qt5,qcD,qe]
 refine Ev.bind (qlC t hs) ?_
 refine Ev.diag (L := λ m k=>JS m k [] ([]:List Int).length 0 t.kind t.name t.sort t.kids 0 [] 0 t.kind t.name t.sort t.kids []) (Ev.loop ?_)
 simp only [qq0,qf5,qe]
 refine Ev.cf rfl ?_
 rw [show T.mk t.kind t.name t.sort t.kids=t from qe t]
 exact Ev.bind (qlC t hs) (Ev.pure _)
def qc9 (l:List T) (i:Nat):List T:=l.take i++List.replicate (l.length-i) zT
theorem qFD {l:List T} {i:Nat} (h:i<l.length):(qc9 l i)[i]? = some zT:=by
 unfold qc9
 rw [List.getElem?_append_right (by rw [List.length_take];omega),List.length_take,List.getElem?_replicate,if_pos (by omega)]
theorem qqJ {l:List T} {i:Nat} {x:T} (h:l[i]? = some x):(qc9 l i).set i x=qc9 l (i+1):=by
 have hi:=(List.getElem?_eq_some_iff.1 h).1
 unfold qc9
 have h1:l.take (i+1)=l.take i++[x]:=by rw [List.take_add_one,h];rfl
 have h2:List.replicate (l.length-i) zT=zT::List.replicate (l.length-(i+1)) zT:=by
  rw [show l.length-i=(l.length-(i+1))+1 by omega,List.replicate_succ]
 rw [h1,h2,List.set_append_right _ _ (by rw [List.length_take];omega),List.length_take,show i-min i l.length=0 by omega,List.set_cons_zero,List.append_assoc];rfl
theorem qCY {l:List T} {i:Nat} {x:T} (h:l[i]? = some x):(qc9 l (i+1)).set i x=qc9 l (i+1):=by
 rw [← qqJ h,List.set_set]
theorem qDx {l:List T} {i:Nat} {x:T} (h:l[i]? = some x):(qc9 l (i+1))[i]? = some x:=by
 have hi:=(List.getElem?_eq_some_iff.1 h).1
 rw [← qqJ h,List.getElem?_set_self (by unfold qc9;rw [List.length_append,List.length_take,List.length_replicate];omega)]
theorem qc5 {α : Type} (l:List α) (i:Nat) (v : α):jK l (i:Int) v=l.set i v:=by
 unfold jK
 rw [if_pos (by omega),Int.toNat_natCast]
theorem qGD:∀ (n:Nat) (l:List T),szL l≤n→n≤1000000→Ev (λ m _=>QF m l) l:=by
 intro n
 induction n using Nat.strongRecOn with
 | _ n ih =>
 intro l hs hn
 have hl:=ja l
 refine Ev.succ ?_
 simp only [qCr,qh3]
 have key:=qr (P := λ i=>Ev (λ m k=>qc4 m (QF m) k l l.length i (qc9 l i)) l) l (by omega)
  (λ hc=>by
   refine Ev.loop ?_
   simp only [qru,qig]
   refine Ev.cf hc ?_
   exact Ev.ret (by unfold qc9;rw [List.take_length,Nat.sub_self];simp))
  (λ i x hx hd hc hg hi hP=>by
   refine Ev.loop ?_
   simp only [qru,qig,qe]
   have h1:=qbf (List.mem_of_getElem? hx)
   have h2:=qC x
   have hib:=(List.getElem?_eq_some_iff.1 hx).1
   have e:jK (qc9 l i) i x=qc9 l (i+1):=by rw [qc5,qqJ hx]
   have e2:jK (qc9 l (i+1)) i x=qc9 l (i+1):=by rw [qc5,qCY hx]
   have g:qd (qc9 l (i+1)) i=some x:=by rw [jG,qDx hx]
   refine Ev.ct hc (Ev.some hg (Ev.bind (qCb x (by omega)) (Ev.some (a:=zT) (by rw [jG,qFD hib]) (Ev.bind (ih (szL x.kids) (by unfold szL at *;omega) x.kids (Nat.le_refl _) (by unfold szL at *;omega)) ?_))))
   rw [e]
   refine Ev.some g ?_
   rw [show T.mk x.kind x.name x.sort x.kids=x from qe x,e2,hi]
   refine Ev.ite (λ hk=>?_) λ hk=>hP
   rw [qi] at hk
   have hk:x.kids=[]:=List.eq_nil_of_length_eq_zero (by omega)
   refine Ev.some g ?_
   rw [show T.mk x.kind x.name x.sort []=x from by rw [← hk];exact qe x,e2]
   exact hP)
 refine Ev.ct (by unfold qBE;rw [decide_eq_true_iff,Int.toNat_natCast];omega) ?_
 refine Ev.diag (L := λ m k=>qc4 m (QF m) k l l.length 0 (List.replicate (Int.toNat (l.length:Int)) (T.mk 0 [] 0 []))) ?_
 refine (key 0 (Nat.zero_le _)).congr λ m k=>?_
 unfold qc9
 rw [List.take_zero,Int.toNat_natCast];rfl
theorem qGr (l:List T) (hs:szL l≤900000):Ev (λ m _=>qkS m l) (qlh l):=by
 have hl:=ja l
 refine Ev.succ ?_
 simp only [qDL,qib]
 unfold qlh
 refine Ev.bind (qD9 l (by omega)) (Ev.ite (λ h=>?_) λ h=>?_)
 ·rw [bnt,qg] at h
  rw [if_pos h]
  exact Ev.pure _
 ·rw [bnf,qi] at h
  rw [if_neg (by omega)]
  have key:=qr (P := λ i=>Ev (λ m k=>qc0 m k (((l.take i).map jr).foldl zd []) l l.length i 0 [] 0 []) (if qA (Ju (zF l))≠0 then (zT,3) else (Ju (zF l),0))) l (by omega)
   (λ hc=>by
    refine Ev.loop ?_
    simp only [qsc,qhR,qe]
    refine Ev.cf hc ?_
    rw [List.take_length]
    have h1:=qcW l
    show Ev (λ m k=>qa (QF m (zF l)) _) _
    have h2:=ja (zF l)
    have fin:∀ u:T,u=Ju (zF l)→Ev (λ m _=>qa (zu m u) λ v=>cond (qc (ieq v 0)) (some (T.mk 0 [] 0 [],(3:Int))) (some (u,0))) (if qA (Ju (zF l))≠0 then (zT,3) else (Ju (zF l),0)):=by
     intro u hu
     have hz:size (Ju (zF l))≤1+szL (zF l):=by
      unfold Ju
      split
      ·rw [qC];show 1+0≤_;omega
      ·split
       ·rename_i _ h1l
        have:(zF l).getD 0 zT∈zF l:=by
         cases hh:zF l with
         | nil=>rw [hh] at h1l;cases h1l
         | cons x r=>exact List.mem_cons_self ..
        have:=qbf this;omega
       ·rw [qC];exact Nat.le_refl _
     subst hu
     refine Ev.bind (qaD _ (by omega)) (Ev.ite (λ h=>?_) λ h=>?_)
     ·rw [bnt,qg] at h
      rw [if_pos h];exact Ev.pure _
     ·rw [bnf,qi] at h
      rw [if_neg (by omega)];exact Ev.pure _
    refine Ev.bind (qGD _ (zF l) (Nat.le_refl _) (by omega)) (Ev.ite (λ h0=>?_) λ h0=>?_)
    ·rw [qi] at h0
     exact fin _ (by unfold Ju;rw [if_pos (by omega)];rfl)
    ·rw [qg] at h0
     refine Ev.ite (λ h1=>?_) λ h1=>?_
     ·rw [qi] at h1
      refine Ev.some (a:=(zF l).getD 0 zT) ?_ (fin _ (by unfold Ju;rw [if_neg (by omega),if_pos (by omega)]))
      rw [Jb,List.getD_eq_getElem?_getD]
      cases hh:zF l with
      | nil=>rw [hh] at h1;simp at h1
      | cons x r=>rfl
     ·rw [qg] at h1
      exact fin _ (by unfold Ju;rw [if_neg (by omega),if_neg (by omega)];rfl))
   (λ i x hx hd hc hg hi hP=>by
    refine Ev.loop ?_
    simp only [qsc,qhR,qe]
    have hm:=List.mem_of_getElem? hx
    have h1:=qbf hm
    have h2:=qcW (l.take i)
    have h3:=jA hx
    have h4:=qiV x
    refine Ev.ct hc (Ev.some hg (Ev.bind (qFi x (by omega)) (Ev.bind (qxa _ _ ?_) ?_)))
    ·unfold zF at h2;omega
    ·rw [hi]
     refine hP.congr λ m k=>?_
     rw [qhS hx])
  refine Ev.diag (L := λ m k=>qc0 m k [] l l.length 0 0 [] 0 []) ?_
  exact key 0 (Nat.zero_le _)
end Go.AmYtbpnmbmdbblehaaGreat
end
