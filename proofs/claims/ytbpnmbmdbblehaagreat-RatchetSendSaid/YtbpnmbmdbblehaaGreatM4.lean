/- Part 4 of what the proofs stand on: plain functions of the program, and that they are its functions. -/
import Derived.Test.YtbpnmbmdbblehaaGreatM3
import Derived.KernelRfl
import Derived.Test.YtbpnmbmdbblehaaGreatProg
import Derived.Test.YtbpnmbmdbblehaaGreatM2
import Derived.IntWalk
import Derived.Lib.Bytealg
set_option linter.unusedVariables false
set_option linter.unusedSimpArgs false
namespace Go.AmYtbpnmbmdbblehaaGreat
open Go Go.RowKit Go.GxYtbpnmbmdbblehaaGreat Go.Sort Go.Proofs Go.Shelf
structure qGc (w0:World) (blk:Nat) (et:TypeId) (vs:Array Value) (W:World):Prop where
 hb:W.heap[blk]? = some (.cells vs et (0,0))
 os:W.os=w0.os
 tape:W.tape=w0.tape
 output:W.output=w0.output
 size:w0.heap.size≤W.heap.size
 other:∀ b,b<w0.heap.size→b≠blk→W.heap[b]? = w0.heap[b]?
 drawn:w0.drawn≤W.drawn
theorem qGc.refl {w:World} {blk:Nat} {et:TypeId} {vs:Array Value} (h:w.heap[blk]? = some (.cells vs et (0,0))):qGc w blk et vs w:=⟨h,rfl,rfl,rfl,Nat.le_refl _,λ _ _ _=>rfl,Nat.le_refl _⟩
theorem sort_blks {w:World} {blk:Nat} {et:TypeId} {vs:Array Value} (hb:w.heap[blk]? = some (.cells vs et (0,0))) {α : Type} [Inhabited α] (enc : α → List Value) (k m:Nat) (dk:Array α) (os:Array Obj) :
  qGc w blk et (putCells id 0 (flatK enc k dk) vs) (sortWorldK enc k w blk 0 m dk os):=by
 have hlt:blk<w.heap.size:=(Array.getElem?_eq_some_iff.1 hb).1
 have hh:(sortWorldK enc k w blk 0 m dk os).heap=w.heap.modify blk (onCells (putCells id 0 (flatK enc k dk)))++os:=rfl
 refine ⟨?_,rfl,rfl,rfl,?_,λ b hb' hn=>?_,Nat.le_add_right _ _⟩
 ·rw [hh,Array.getElem?_append_left (by simpa using hlt),Array.getElem?_modify,if_pos rfl,hb]
  rfl
 ·rw [hh,Array.size_append,Array.size_modify];exact Nat.le_add_right _ _
 ·rw [hh,Array.getElem?_append_left (by simpa using hb'),Array.getElem?_modify,if_neg (Ne.symm hn)]
theorem qeo.grow {W w':World} (h:qeo W w'):∃ q os',w'=Sort.grow (W.drewN q) os':=by
 refine ⟨w'.drawn-W.drawn,w'.heap.extract W.heap.size w'.heap.size,?_⟩
 have hh:w'.heap=W.heap++w'.heap.extract W.heap.size w'.heap.size:=by
  apply Array.ext_getElem?
  intro i
  by_cases hi:i<W.heap.size
  ·rw [Array.getElem?_append_left hi];exact h.block i hi
  ·rw [Array.getElem?_append_right (by omega),Array.getElem?_extract]
   split
   ·congr 1;omega
   ·rw [Array.getElem?_eq_none (by omega)]
 have hd:W.drawn+(w'.drawn-W.drawn)=w'.drawn:=Nat.add_sub_cancel' h.drawn
 obtain ⟨h1,h2,h3,_,_,_⟩:=h
 cases w'
 cases W
 simp only [Sort.grow,World.drewN] at *
 rw [← hh,hd,h1,h2,h3]
def Qa (vs:Array Value) (k p:Nat):List Value:=(vs.toList.drop (p*k)).take k
theorem qjE {vs:Array Value} {k p j:Nat} (hj:j<k):(Qa vs k p)[j]? = vs[p*k+j]? := by
 unfold Qa
 rw [List.getElem?_take,if_pos hj,List.getElem?_drop,Array.getElem?_toList]
theorem qmy {vs:Array Value} {k p n:Nat} (hp:p<n) (hn:n*k≤vs.size):(Qa vs k p).length=k:=by
 unfold Qa
 have:(p+1)*k≤n*k:=Nat.mul_le_mul_right _ hp
 rw [Nat.succ_mul] at this
 rw [List.length_take,List.length_drop,Array.length_toList]
 omega
theorem qqR {Γ : Gh} {τ : Ty} {c:List (List AV)} {l:List (Val τ)} {vs:Array Value} {n:Nat} (hn:c.length=n) (hk:∀ e∈c,e.length = τ.size) (hd:qV (yg τ) c=some l) (hc:yt Γ τ.size c (vs.toList.take (n * τ.size))) (hs:n * τ.size≤vs.size)
  {p:Nat} {x:Val τ} (hp:l[p]? = some x):RepL Γ (qm τ x) (Qa vs τ.size p)∧∀ u∈Qa vs τ.size p,u.oneCell'=true:=by
 have hln:l.length=n:=(qT hd).symm.trans hn
 have hpn:p<n:=by rw [← hln];exact getElem?_lt hp
 have hpc:p<c.length:=by rw [hn];exact hpn
 obtain ⟨x',hx',hdx⟩:=Jd hd (List.getElem?_eq_getElem hpc)
 rw [hp] at hx'
 cases hx'
 have hel:=hk _ (List.getElem_mem hpc)
 have hlen:=qmy (k := τ.size) hpn hs
 have get:∀ j,j < τ.size→∃ u,(Qa vs τ.size p)[j]? = some u∧Rep Γ (c[p][j]?.getD .dead) u∧u.oneCell'=true:=by
  intro j hj
  have hj':j<c[p].length:=by rw [hel];exact hj
  obtain ⟨u,u1,u2,u3⟩:=hc p c[p] j _ (List.getElem?_eq_getElem hpc) (List.getElem?_eq_getElem hj')
  refine ⟨u,?_,?_,u3⟩
  ·rw [qjE hj,← Array.getElem?_toList]
   rw [List.getElem?_take] at u1
   split at u1
   ·exact u1
   ·cases u1
  ·rw [List.getElem?_eq_getElem hj'];exact u2
 constructor
 ·refine (qjb hdx).rep ⟨by rw [hlen,hel],λ j y u hy hu=>?_⟩
  have hj:j < τ.size:=by rw [← hel];exact getElem?_lt hy
  obtain ⟨u',u1,u2,_⟩:=get j hj
  rw [hu] at u1;cases u1
  rw [hy] at u2
  exact u2
 ·intro u hu
  obtain ⟨j,hj⟩:=List.getElem?_of_mem hu
  have hjk:j < τ.size:=by rw [← hlen];exact getElem?_lt hj
  obtain ⟨u',u1,_,u3⟩:=get j hjk
  rw [hj] at u1;cases u1
  exact u3
theorem qiK (j k n:Nat) (h:j<n*k):j / k<n∧j / k*k+j % k=j∧j % k<k:=by
 have hk:0<k:=by
  rcases Nat.eq_zero_or_pos k with h0 | h0
  ·rw [h0,Nat.mul_zero] at h;exact absurd h (Nat.not_lt_zero _)
  ·exact h0
 refine ⟨(Nat.div_lt_iff_lt_mul hk).2 h,?_,Nat.mod_lt _ hk⟩
 rw [Nat.mul_comm];exact Nat.div_add_mod j k
set_option maxHeartbeats 1000000 in
theorem qEK {P:Program} {ρ : Ren} (L:SlLaysF0.n6 P ρ) {τ : Ty} {g:FuncId} (hag:∀ v,yF τ v = .agg (qm τ v)) (aE:∀ w,(isAgg (ρ.t 24)).run P w = .ok true w) (zE:∀ w,(Go.sizeOf (ρ.t 24)).run P w = .ok τ.size w)
  {F:Val τ → Val τ → Option Int} (hF:Fn2 P g τ (λ c:Int => .int .i64 c) F) (hf:qfg P (ρ.f 6)) {fn:List (Val τ)→Option (List (Val τ))} (hfn:∀ l r,fn l=some r→qpr F l=some r) :
  qW P (ρ.f 6) (mgP ⟨τ,[.clo g 0],λ x=>fn x.1⟩):=by
 refine ⟨hf,λ Γ σ w args vals r hi hr hp=>?_⟩
 unfold mgP at hp
 split at hp
 case h_2=>cases hp
 rename_i x hx
 split at hp
 case h_2=>cases hp
 rename_i v hv
 split at hp
 case h_2=>cases hp
 rename_i hlen
 obtain ⟨l,_⟩:=x
 have hv:=hfn _ _ hv
 have hlen:v.length=l.length:=Nat.eq_of_beq_eq_true hlen
 obtain ⟨y0,ys0,nr,rfl,hy0,hx1⟩:=qop hx
 obtain ⟨ys1,rfl,hx2⟩:=qBH (g:=g) (r:=[]) hx1
 obtain ⟨rfl,hbx,hrw⟩:=qjf hx2
 clear hx hx1 hx2
 obtain ⟨u0,r0,rfl,hu0,hr⟩:=hr.uncons
 obtain ⟨u1,r1,rfl,hu1,hr⟩:=hr.uncons
 have:=hr.nil_inv
 subst this
 have hu1:u1 = .func (.func g) #[] #[]:=by
  cases hu1 with
  | fn _ _ us hn _=>obtain rfl:=List.eq_nil_of_length_eq_zero hn;rfl
 subst hu1
 have hb0 : σ.bx=[]:=List.eq_nil_of_length_eq_zero hbx.symm
 have none0:∀ (p:Option Addr) (cap:Nat),Calls P (ρ.f 6) #[.slice p 0 cap,.func (.func g) #[] #[]] w λ e w'=>e = .returned (.tuple #[])∧w'=w := λ p cap=>AnyF.slices_SortFunc_none L p cap _ w
 have tup:∀ Γ,Rep Γ (.tup []) (.tuple #[]) := λ Γ => .tup [] [] rfl (λ i x u h=>by cases h)
 rcases qdk hy0 with ⟨hnr,R,rfl,hR,hRk,hRf,hRd⟩ | ⟨hnr,hl0,hy⟩
 ·have hrw1 : σ.rw=[R]:=by
    rw [hnr] at hrw
    match hq : σ.rw,hrw with
    | [Q],_=>rw [hq] at hR;cases hR;rfl
  rw [hb0,hrw1] at hp
  cases hp
  have H:=hi.row 0 R hR
  have hcl:R.c.length=l.length:=qT hRd
  have hlk:∀ e∈R.c,e.length = τ.size := λ e he=>(H.len e he).trans hRk
  have qm6:qR { σ with wr:=[],wrr:=[] } ⟨[],[⟨R.k,v.map (qm τ),R.ver,R.fz⟩],[],[0]⟩ :=
   ⟨by show σ.bx.length≤0;rw [hb0];exact Nat.le_refl _,by show σ.rw.length≤1;rw [hrw1];exact Nat.le_refl _,λ i hi _=>(by have hi:i < σ.bx.length:=hi;rw [hb0] at hi;exact absurd hi (Nat.not_lt_zero _)),λ i hi hn=>(by
    have hi:i < σ.rw.length:=hi
    rw [hrw1] at hi
    have hi:i<1:=hi
    obtain rfl:i=0:=by omega
    exact absurd (List.mem_singleton.2 rfl) hn),λ i h=>(by cases h),λ i h=>(by cases h)⟩
  obtain ⟨p,cap,rfl,hcap,hrm⟩:=qpP hi hR hRk hRf hu0
  by_cases hl0:l=[]
  ·subst hl0
   have hc0:R.c=[]:=List.eq_nil_of_length_eq_zero hcl
   have hv0:v=[]:=List.eq_nil_of_length_eq_zero hlen
   subst hv0
   rw [hcl]
   refine (none0 p cap).mono ?_
   rintro e w' ⟨rfl,rfl⟩
   refine ⟨_,Γ,rfl,.refl _ _,?_,tup _,qm6⟩
   have:(⟨[],[⟨R.k,([]:List (Val τ)).map (qm τ),R.ver,R.fz⟩],[],[0]⟩:St)=⟨[],[R],[],[0]⟩:=by
    show (⟨[],[⟨R.k,[],R.ver,R.fz⟩],[],[0]⟩:St)=_
    rw [← hc0]
   show Inv Γ ⟨[],[⟨R.k,([]:List (Val τ)).map (qm τ),R.ver,R.fz⟩],[],[0]⟩ w'
   rw [this]
   exact hi.wr hb0.symm hrw1.symm
  ·have hlpos:0<l.length:=List.length_pos_iff.2 hl0
   rcases hrm with h0 | ⟨rfl,hz,vs,et,hvs,hvsz,hfit,hca,hxl,h1⟩
   ·omega
   obtain ⟨n,hn⟩:∃ n,n=l.length:=⟨_,rfl⟩
   have hnc:R.c.length=n:=hcl.trans hn.symm
   rw [hnc] at hca hxl h1 hcap ⊢
   have hns:n * τ.size≤vs.size:=Nat.le_trans (Nat.mul_le_mul_right _ hcap) hfit
   have hsz0:0 < τ.size:=Ty.size_pos τ
   have hv':Nat.ble l.length 100000=true∧qbC F l=true∧qrf l.length (ltOf (QA F l))=true∧v=pick l (qaf F l):=by
    cases l with
    | nil=>exact absurd rfl hl0
    | cons y l =>
      have hv:cond _ _ _=some v:=hv
      cases hb:(Nat.ble (y::l).length 100000&&(qbC F (y::l)&&qrf (y::l).length (ltOf (QA F (y::l))))) with
      | false=>unfold qpr at hv;rw [hb] at hv;cases hv
      | true =>
        have hb':=hb
        simp only [Bool.and_eq_true] at hb'
        unfold qpr at hv
        rw [hb] at hv
        cases hv
        exact ⟨hb'.1,hb'.2.1,hb'.2.2,rfl⟩
   obtain ⟨v1,v2,v3,v4⟩:=hv'
   have v1:l.length≤100000:=Nat.le_of_ble_eq_true v1
   have hO:SWO (ltOf (QA F l)):=qJJ hlpos (λ i j=>by unfold ltOf;rw [qFI]) v3
   obtain ⟨hperm,_⟩:=qqv F l hO
   have hixlt:∀ i∈qaf F l,i<l.length := λ i hi=>List.mem_range.1 (hperm.mem_iff.1 hi)
   have hixlen:(qaf F l).length=l.length:=by rw [hperm.length_eq,List.length_range]
   have hER:∀ {q:Nat} {y:Val τ},l[q]? = some y→RepL Γ (qm τ y) (Qa vs τ.size q)∧∀ u∈Qa vs τ.size q,u.oneCell'=true := λ hq=>qqR hnc hlk hRd hca hns hq
   have hlast:∀ i,i % n<n := λ i=>Nat.mod_lt _ (by omega)
   obtain ⟨enc,henc⟩:∃ enc:Nat→List Value,enc = λ i=>Qa vs τ.size (i % n):=⟨_,rfl⟩
   have hek:∀ i,(enc i).length = τ.size := λ i=>by rw [henc];exact qmy (hlast i) hns
   have hlget:∀ i,∃ y,l[i % n]? = some y := λ i=>⟨_,List.getElem?_eq_getElem (by rw [← hn];exact hlast i)⟩
   have he1:∀ i,∀ u∈enc i,u.oneCell'=true := λ i u hu=>by
    rw [henc] at hu
    obtain ⟨y,hy⟩:=hlget i
    exact (hER hy).2 u hu
   have hrange:(Array.range n).size=n:=Array.size_range
   have hvsb:w.heap[Γ.cur 0]? = some (.cells vs et (0,0)):=hvs
   have hblk : Γ.cur 0<w.heap.size:=(Array.getElem?_eq_some_iff.1 hvsb).1
   have hmem0:∀ off,Γ.mem (Γ.cur 0) off=none := λ off=>H.un hz off (by rw [hRf,Nat.zero_mul];exact Nat.zero_le _)
   have hH:HoldsK enc τ.size w (Γ.cur 0) 0 (Array.range n):=by
    intro j hj
    rw [size_flatK,hrange] at hj
    obtain ⟨q1,q2,q3⟩:=qiK j τ.size n hj
    have hjs:j<vs.size:=Nat.lt_of_lt_of_le hj hns
    constructor
    ·rw [get_flatK _ _ _ _ (by rw [hrange];exact hj)]
     have e1:(Array.range n)[j / τ.size]! = j / τ.size:=by rw [getElem!_pos _ _ (by rw [hrange];exact q1)];simp
     rw [e1,henc]
     show _=some ((Qa vs τ.size (j / τ.size % n))[j % τ.size]!)
     rw [Nat.mod_eq_of_lt q1]
     have e2:(Qa vs τ.size (j / τ.size))[j % τ.size]? = some vs[j]:=by rw [qjE q3,q2];exact Array.getElem?_eq_getElem hjs
     rw [Nat.zero_add,Blk.cell hvs,List.getElem!_eq_getElem?_getD,e2,Array.getElem?_eq_getElem hjs]
     rfl
    ·exact Blk.free hvs _
   have hcmp:CmpLays P g #[] enc τ.size (QA F l) (Γ.cur 0) 0 (Array.range n).size w:=by
    intro m os dk hdk x y
    have B:=sort_blks hvsb enc τ.size m dk os
    obtain ⟨W,hW⟩:∃ W,W=sortWorldK enc τ.size w (Γ.cur 0) 0 m dk os:=⟨_,rfl⟩
    rw [← hW] at B ⊢
    have hiW:Inv (bare Γ) emp W:=hi.bare λ b o u e=>by
     have hne:b ≠ Γ.cur 0 := λ hb=>by rw [hb,hmem0] at e;cases e
     have hc:=(hi.mem b o u e).1
     have hblt:=hi.mem_lt e
     rw [show W.cell? _=w.cell? _ from World.cell?_of_block (B.other b hblt hne)]
     exact hc
    have rep:∀ (i:Nat) (y:Val τ),l[i % n]? = some y→Rep (bare Γ) (yF τ y) (.agg (enc i).toArray) := λ i y hy=>by
     obtain ⟨q1,q2⟩:=hER hy
     rw [hag]
     have:enc i=Qa vs τ.size (i % n):=by rw [henc]
     rw [this]
     refine .agg _ _ q1.len q2 λ j z u a b=>(q1.rep j z u a b).bare (zU τ y z (List.mem_of_getElem? a))
    obtain ⟨lx,hx⟩:=hlget x
    obtain ⟨ly,hy⟩:=hlget y
    have hsome:=List.all_eq_true.1 (List.all_eq_true.1 v2 lx (List.mem_of_getElem? hx)) ly (List.mem_of_getElem? hy)
    obtain ⟨c,hc⟩:=Option.isSome_iff_exists.1 hsome
    have hcf:QA F l x y=c:=by
     unfold QA
     rw [← hn,hx,hy]
     simp only
     rw [hc];rfl
    rw [hcf]
    have hcall:=hF.2 hiW (rep x lx hx) (rep y ly hy) hc
    refine Calls.mono (by simpa using hcall) ?_
    rintro e w' ⟨rfl,hid⟩
    exact ⟨rfl,hid.grow⟩
   have hcall:=AnyQ.slices_SortFunc_eq L τ.size aE zE enc hek he1 (QA F l) hO g #[] (Γ.cur 0) 0 cap (Array.range n) w (λ args w=>qdE hF.1 args w) hcmp hH hblk (by rw [hrange];omega)
   rw [hrange] at hcall
   refine Calls.mono hcall ?_
   rintro e w' ⟨rfl,m,os,hw'⟩
   have B:=sort_blks hvsb enc τ.size m (pdq (ltOf (QA F l)) (Array.range n) 0 n (Lib.bitLen n) true true) os
   rw [← hw'] at B
   have hix:qaf F l=(pdq (ltOf (QA F l)) (Array.range n) 0 n (Lib.bitLen n) true true).toList:=by unfold qaf;rw [hn]
   obtain ⟨dk,hdk⟩:∃ dk,dk=pdq (ltOf (QA F l)) (Array.range n) 0 n (Lib.bitLen n) true true:=⟨_,rfl⟩
   rw [← hdk] at B hix
   have hdks:dk.size=n:=by rw [← Array.length_toList,← hix,hixlen,hn]
   have hvlen:(v.map (qm τ)).length=n:=by rw [List.length_map,hlen,hn]
   have hflat:(flatK enc τ.size dk).size=n * τ.size:=by rw [size_flatK,hdks]
   have hpsz:(putCells id 0 (flatK enc τ.size dk) vs).size=vs.size:=by unfold putCells;rw [Array.size_mapIdx]
   obtain ⟨Γ',x1,x2,_⟩:=qjK hi hR (R':=⟨R.k,v.map (qm τ),R.ver,R.fz⟩) (by rw [hRf];exact Nat.zero_le _) rfl (g := Γ.cur 0) (vs:=putCells id 0 (flatK enc τ.size dk) vs) (e:=et) (.inr ⟨rfl,rfl,hpsz.trans hvsz⟩)
    (λ e he=>by obtain ⟨y,_,rfl⟩:=List.mem_map.1 he;rw [jL,hRk]) (λ e he=>by obtain ⟨y,_,rfl⟩:=List.mem_map.1 he;exact zU τ y) (by show R.fz≤_;rw [hRf];exact Nat.zero_le _) B.hb
    (by show (v.map (qm τ)).length*R.k≤_;rw [hvlen,hRk,hpsz];exact hns)
    (λ off _=>hmem0 off)
    (λ i e j x he hx=>by
     have he:(v.map (qm τ))[i]? = some e:=he
     have hin:i<n:=by rw [← hvlen];exact getElem?_lt he
     rw [List.getElem?_map,v4,qrB hixlt] at he
     have hixi:(qaf F l)[i]? = some dk[i]:=by rw [hix,Array.getElem?_toList];exact Array.getElem?_eq_getElem (by omega)
     rw [hixi] at he
     obtain ⟨y,hy,rfl⟩:∃ y,l[dk[i]]? = some y∧qm τ y=e:=by
      cases hq:l[dk[i]]? with
      | none=>simp [hq] at he
      | some y=>simp [hq] at he;exact ⟨y,rfl,he⟩
     have hdl:dk[i]<n:=Nat.lt_of_lt_of_le (getElem?_lt hy) (Nat.le_of_eq hn.symm)
     obtain ⟨q1,q2⟩:=hER hy
     have hj:j < τ.size:=by rw [← jL τ y];exact getElem?_lt hx
     obtain ⟨u,hu,hrep⟩:=q1.get hx
     refine ⟨u,?_,hrep,q2 u (List.mem_of_getElem? hu)⟩
     rw [hRk]
     have hlt:i * τ.size+j<n * τ.size:=by
      have:(i+1) * τ.size≤n * τ.size:=Nat.mul_le_mul_right _ hin
      rw [Nat.succ_mul] at this
      omega
     unfold putCells
     rw [Array.getElem?_mapIdx,Array.getElem?_eq_getElem (Nat.lt_of_lt_of_le hlt hns),Option.map_some,if_pos ⟨Nat.zero_le _,by rw [hflat,Nat.zero_add];exact hlt⟩,Nat.sub_zero,id,get_flatK _ _ _ _ (by rw [hdks];exact hlt)]
     have e1:(i * τ.size+j) / τ.size=i:=by rw [Nat.mul_comm,Nat.mul_add_div hsz0,Nat.div_eq_of_lt hj,Nat.add_zero]
     have e2:(i * τ.size+j) % τ.size=j:=by rw [Nat.mul_comm,Nat.mul_add_mod,Nat.mod_eq_of_lt hj]
     rw [e1,e2,getElem!_pos dk i (by omega),henc]
     show some ((Qa vs τ.size (dk[i] % n))[j]!)=_
     rw [Nat.mod_eq_of_lt hdl,List.getElem!_eq_getElem?_getD,hu]
     rfl)
    (λ b o u hm=>by
     have hne:b ≠ Γ.cur 0 := λ hb=>by rw [hb,hmem0] at hm;cases hm
     rw [show w'.cell? _=w.cell? _ from World.cell?_of_block (B.other b (hi.mem_lt hm) hne)]
     exact (hi.mem b o u hm).1)
    (λ b hb hor=>B.other b hb (hor.elim id λ h0=>absurd h0 hz)) (.inl ⟨rfl,hz⟩) B.os B.tape B.output B.size B.drawn [0]
   refine ⟨_,Γ',rfl,x1,?_,tup _,qm6⟩
   refine x2.wr ?_ ?_
   ·exact hb0.symm
   ·show [(⟨R.k,v.map (qm τ),R.ver,R.fz⟩:Row)] = σ.rw.set 0 _
    rw [hrw1];rfl
 ·have hrw0 : σ.rw=[]:=by rw [hnr] at hrw;exact List.eq_nil_of_length_eq_zero hrw.symm
  rw [hb0,hrw0] at hp
  cases hp
  have hfin:∀ (p:Option Addr) (cap:Nat),jB P Γ σ w (ρ.f 6) [.slice p 0 cap,.func (.func g) #[] #[]] (.tup [],none) := λ p cap=>by
   refine (none0 p cap).mono ?_
   rintro e w' ⟨rfl,rfl⟩
   exact ⟨_,Γ,rfl,.refl _ _,hi,tup _,.refl _⟩
  rcases hy with rfl | ⟨f,rfl,hf2⟩
  ·have hu0:=zu hu0
   subst hu0
   exact hfin none 0
  ·cases hu0 with
   | sl _ _ _ a n cap b o us hn _ _ _ _ _ _ _ _ =>
     have hn:n=0:=hn
     subst hn
     exact hfin a cap
end Go.AmYtbpnmbmdbblehaaGreat
namespace Go.Proofs.YtbpnmbmdbblehaaGreat
open Go Go.RowKit Go.GxYtbpnmbmdbblehaaGreat Go.Sort Go.Proofs Go.Shelf Go.Lib
def zt (ef:Nat→Nat→Bool) (n:Nat):List Nat:=(List.range n).filter λ i=>decide (i=0) || !ef i (i-1)
theorem qAD {ef:Nat→Nat→Bool} {n:Nat} (h:ef n (n-1)=false):zt ef (n+1)=zt ef n++[n]:=by
 unfold zt
 rw [List.range_succ,List.filter_append]
 simp [h]
theorem qqk {ef:Nat→Nat→Bool} {n:Nat} (hn:0<n) (h:ef n (n-1)=true):zt ef (n+1)=zt ef n:=by
 unfold zt
 rw [List.range_succ,List.filter_append]
 have:¬ n=0:=by omega
 simp [h,this]
theorem qts {ef:Nat→Nat→Bool} {n:Nat} (h:∀ i,1≤i→i<n→ef i (i-1)=false):zt ef n=List.range n:=by
 unfold zt
 rw [List.filter_eq_self]
 intro i hi
 have hi:=List.mem_range.1 hi
 by_cases h0:i=0
 ·simp [h0]
 ·rw [h i (by omega) hi];simp
theorem qAz {α : Type} [Inhabited α] (enc : α → List Value) (k:Nat) (hk:∀ x,(enc x).length=k) (d:Array α) (i:Nat) (x : α) (hi:i<d.size):setMany (flatK enc k d) (i*k) (enc x)=flatK enc k (d.setIfInBounds i x):=by
 refine ext_get! (by simp) λ t ht=>?_
 rw [size_setMany,size_flatK] at ht
 rw [get_setMany _ _ _ _ (by rw [size_flatK];exact ht),hk,get_flatK _ _ _ _ ht,get_flatK _ _ _ _ (by simpa using ht)]
 have hk0:0<k:=by
  rcases Nat.eq_zero_or_pos k with h0 | h0
  ·rw [h0,Nat.mul_zero] at ht;exact absurd ht (Nat.not_lt_zero _)
  ·exact h0
 by_cases hb:i*k≤t∧t<i*k+k
 ·rw [if_pos hb]
  have e:=(blk_iff k i t hk0).1 hb
  rw [e,getElem!_set_same d i x hi]
  congr 1
  have:=Nat.div_add_mod t k
  rw [e] at this
  have e2:k*i=i*k:=Nat.mul_comm _ _
  omega
 ·rw [if_neg hb,getElem!_set_other d i _ x λ he=>hb ((blk_iff k i t hk0).2 he)]
theorem qHF {α : Type} [Inhabited α] {w:World} {enc : α → List Value} {k blk:Nat} (hk:∀ x,(enc x).length=k) (m:Nat) (dk:Array α) (os:Array Obj) (hblk:blk<w.heap.size) (i:Nat) (x : α) (hi:i<dk.size) :
  (sortWorldK enc k w blk 0 m dk os).setCells blk (i*k) (enc x)=sortWorldK enc k w blk 0 m (dk.setIfInBounds i x) os:=by
 have hb:i*k+(enc x).length≤(flatK enc k dk).size:=by
  rw [hk,size_flatK]
  have:=Nat.mul_le_mul_right k (show i+1≤dk.size from hi)
  rwa [Nat.succ_mul] at this
 unfold sortWorldK
 rw [setCells_grow os blk _ _ _ (by rw [size_putRowK];exact hblk)]
 congr 1
 unfold putRowK
 have:=setCells_putRow (Sort.ahead w m) blk 0 (enc x) (i*k) (flatK enc k dk) hb
 rw [Nat.zero_add] at this
 rw [this,qAz enc k hk dk i x hi]
variable {P:Program}
set_option maxHeartbeats 4000000 in
set_option maxRecDepth 1000000 in
theorem qEH (hF:P.funcs[155]? = some Tryz.f155) (mixed:P.follows .mixedOrders=true)
  (t0:P.underlying 0=some (TypeDesc.tuple #[])) (a0:∀ w,(isAgg 0).run P w = .ok false w) (z0:∀ w,(Go.sizeOf 0).run P w = .ok 1 w) (v0:∀ w,(zeroValue 0).run P w = .ok (Value.tuple #[]) w)
  (t3:P.underlying 3=some (TypeDesc.int IntKind.i64)) (a3:∀ w,(isAgg 3).run P w = .ok false w) (z3:∀ w,(Go.sizeOf 3).run P w = .ok 1 w) (v3:∀ w,(zeroValue 3).run P w = .ok (Value.int IntKind.i64 0) w)
  (t4:P.underlying 4=some (TypeDesc.bool)) (a4:∀ w,(isAgg 4).run P w = .ok false w) (z4:∀ w,(Go.sizeOf 4).run P w = .ok 1 w) (v4:∀ w,(zeroValue 4).run P w = .ok (Value.bool false) w)
  (t22:P.underlying 22=some (TypeDesc.slice 24)) (a22:∀ w,(isAgg 22).run P w = .ok false w) (z22:∀ w,(Go.sizeOf 22).run P w = .ok 1 w) (v22:∀ w,(zeroValue 22).run P w = .ok (Value.slice none 0 0) w)
  (t36:P.underlying 36=some (TypeDesc.func #[24,24] #[4] false)) (a36:∀ w,(isAgg 36).run P w = .ok false w) (z36:∀ w,(Go.sizeOf 36).run P w = .ok 1 w) (v36:∀ w,(zeroValue 36).run P w = .ok (Value.nilFunc) w)
  (p:Option Addr) (cap:Nat) (fv:Value) (w:World) :
  Calls P 155 #[.slice p 0 cap,fv] w λ e w'=>e = .returned (.slice p 0 cap)∧w'=w:=by
 go_enter hF,Tryz.ntmps155
 go_wp2
 go_ret
 exact ⟨rfl,rfl⟩
set_option maxHeartbeats 4000000 in
set_option maxRecDepth 1000000 in
theorem qFi (hF:P.funcs[155]? = some Tryz.f155) (mixed:P.follows .mixedOrders=true)
  (t0:P.underlying 0=some (TypeDesc.tuple #[])) (a0:∀ w,(isAgg 0).run P w = .ok false w) (z0:∀ w,(Go.sizeOf 0).run P w = .ok 1 w) (v0:∀ w,(zeroValue 0).run P w = .ok (Value.tuple #[]) w)
  (t3:P.underlying 3=some (TypeDesc.int IntKind.i64)) (a3:∀ w,(isAgg 3).run P w = .ok false w) (z3:∀ w,(Go.sizeOf 3).run P w = .ok 1 w) (v3:∀ w,(zeroValue 3).run P w = .ok (Value.int IntKind.i64 0) w)
  (t4:P.underlying 4=some (TypeDesc.bool)) (a4:∀ w,(isAgg 4).run P w = .ok false w) (z4:∀ w,(Go.sizeOf 4).run P w = .ok 1 w) (v4:∀ w,(zeroValue 4).run P w = .ok (Value.bool false) w)
  (t22:P.underlying 22=some (TypeDesc.slice 24)) (a22:∀ w,(isAgg 22).run P w = .ok false w) (z22:∀ w,(Go.sizeOf 22).run P w = .ok 1 w) (v22:∀ w,(zeroValue 22).run P w = .ok (Value.slice none 0 0) w)
  (t36:P.underlying 36=some (TypeDesc.func #[24,24] #[4] false)) (a36:∀ w,(isAgg 36).run P w = .ok false w) (z36:∀ w,(Go.sizeOf 36).run P w = .ok 1 w) (v36:∀ w,(zeroValue 36).run P w = .ok (Value.nilFunc) w)
  (k:Nat) (hk0:0<k) (aE:∀ w,(isAgg 24).run P w = .ok true w) (zE:∀ w,(Go.sizeOf 24).run P w = .ok k w) (zv:Value) (vE:∀ w,(zeroValue 24).run P w = .ok zv w) (hzk:zv.cells.size=k) (hz1:∀ n,∀ v∈(Builtin.zeroCells zv.cells n).toList,v.oneCell'=true)
  (w:World) (blk n cap:Nat) (et:TypeId) (vs:Array Value) (q:Nat) (hbk:w.heap[blk]? = some (.cells vs et (0,0))) (hcs:cap*k≤vs.size) (hnc:n≤cap) (hn:n≤100000) (h0n:0<n)
  (enc:Nat→List Value) (hk:∀ x,(enc x).length=k) (h1:∀ x,∀ v∈enc x,v.oneCell'=true) (hH:HoldsK enc k w blk 0 (Array.range n))
  (eg:∀ args w,(callFunc q args).run P w = .ok (.enter q args) w) (ef:Nat→Nat→Bool)
  (heq:∀ (m:Nat) (os:Array Obj) (dk:Array Nat),dk.size=n→∀ x y,Calls P q #[.agg (enc x).toArray,.agg (enc y).toArray] (sortWorldK enc k w blk 0 m dk os) λ e w'=>e = .returned (.bool (ef x y))∧∃ q' os',w'=grow ((sortWorldK enc k w blk 0 m dk os).drewN q') os') :
  Calls P 155 #[.slice (some ⟨blk,0,none⟩) n cap,.func (.func q) #[] #[]] w λ e w'=>e = .returned (.slice (some ⟨blk,0,none⟩) (zt ef n).length cap) ∧
   ∃ (dk:Array Nat) (m:Nat) (os:Array Obj) (new:List Value),dk.size=n∧dk.toList.take (zt ef n).length=zt ef n∧(w'=sortWorldK enc k w blk 0 m dk os∨(new.take ((zt ef n).length*k)=(putCells id 0 (flatK enc k dk) vs).toList.take ((zt ef n).length*k)∧new.length=vs.size∧w'=(sortWorldK enc k w blk 0 m dk os).setRow blk new.toArray)):=by
 have u22:=run_underlying t22
 have hblk:blk<w.heap.size:=(Array.getElem?_eq_some_iff.1 hbk).1
 have hrs:(Array.range n).size=n:=Array.size_range
 have HC:Aside _:=heq
 have HST:Hid (w=sortWorldK enc k w blk 0 0 (Array.range n) #[]):=by show w=_;unfold sortWorldK;rw [grow_empty];exact (putRowK_self enc k w blk 0 _ hH).symm
 have HH:Hid (HoldsK enc k w blk 0 (Array.range n)):=hH
 have HK:Hid (∀ x,(enc x).length=k):=hk
 have H1:Hid (∀ x,∀ v∈enc x,v.oneCell'=true):=h1
 have HBK:Hid (w.heap[blk]? = some (.cells vs et (0,0))):=hbk
 have HVE:Aside _:=vE
 have HZ1:Aside _:=hz1
 have HZK:=Lib.hid hzk
 have HCS:=Lib.hid hcs
 clear heq hH hk h1 hbk vE hz1 hzk hcs
 have hnz:(n:Int)≤100000:=by omega
 by_cases hn2:n<2
 ·have hn1:n=1:=by omega
  subst hn1
  have hci:zt ef 1=[0]:=by unfold zt;simp
  have HCI:=Lib.hid hci
  clear hci
  go_enter hF,Tryz.ntmps155
  go_wp2
  go_ret
  rw [HCI.out]
  exact ⟨rfl,Array.range 1,0,#[],[],hrs,by simp,.inl HST.out⟩
 ·have hn2z:¬ ((n:Int)<2):=by omega
  go_enter hF,Tryz.ntmps155
  go_wp2
  go_loopg [5] n (λ g1 vi wr=>∃ (i m:Nat) (os:Array Obj),vi = .int .i64 i∧1≤i∧i≤n∧n-i≤g1∧wr=sortWorldK enc k w blk 0 m (Array.range n) os∧Hid (∀ j,1≤j→j<i→ef j (j-1)=false))
  case atStart=>exact ⟨1,0,#[],rfl,Nat.le_refl _,by omega,by omega,HST.out,λ j h1 h2=>by omega⟩
  case round =>
   obtain ⟨i,m,os,rfl,hi1,hin,hg1,rfl,HE⟩:=hrel
   by_cases hlt:i<n
   ·have hltz:(i:Int)<(n:Int):=by omega
    obtain ⟨ip,rfl⟩:∃ ip,i=ip+1:=⟨i-1,by omega⟩
    have hwp:IntKind.i64.wrap (ip:Int)=(ip:Int):=by rw [IntKind.wrap_i64];omega
    have jz1:(ip:Int)<(n:Int):=by omega
    have p0:(0:Int)≤(ip:Int)+1:=by omega
    have e0:((ip:Int)+1).toNat=ip+1:=by omega
    have r1:(Array.range n)[ip+1]! = ip+1:=by rw [getElem!_pos _ _ (by rw [hrs];exact hlt)];simp
    have r0:(Array.range n)[ip]! = ip:=by rw [getElem!_pos _ _ (by rw [hrs];omega)];simp
    have hcls:∀ n' os',grow ((sortWorldK enc k w blk 0 m (Array.range n) os).drewN n') os'=sortWorldK enc k w blk 0 (m+n') (Array.range n) (os++os') := λ n' os'=>sortWorldK_grown_c enc k w blk 0 m n' _ os os'
    have hHc:∀ n' os',HoldsK enc k (grow ((sortWorldK enc k w blk 0 m (Array.range n) os).drewN n') os') blk 0 (Array.range n) := λ n' os'=>by rw [hcls];exact holdsK_sortWorldK_c enc k w blk 0 _ _ _ _ HH.out hblk rfl
    have lj:∀ n' os',Sem.run P (loadCellsFrom ⟨blk,(ip+1)*k,none⟩ 0 k #[]) (grow ((sortWorldK enc k w blk 0 m (Array.range n) os).drewN n') os') = .ok (enc (ip+1)).toArray (grow ((sortWorldK enc k w blk 0 m (Array.range n) os).drewN n') os') := λ n' os'=>by
     have:=HoldsK.cells (hHc n' os') HK.out (i:=ip+1) (by rw [hrs];exact hlt)
     rw [r1,Nat.zero_add] at this
     exact run_loadCellsFrom_list P _ _ _ k (HK.out _) this
    have lp:∀ n' os',Sem.run P (loadCellsFrom ⟨blk,ip*k,none⟩ 0 k #[]) (grow ((sortWorldK enc k w blk 0 m (Array.range n) os).drewN n') os') = .ok (enc ip).toArray (grow ((sortWorldK enc k w blk 0 m (Array.range n) os).drewN n') os') := λ n' os'=>by
     have:=HoldsK.cells (hHc n' os') HK.out (i:=ip) (by rw [hrs];omega)
     rw [r0,Nat.zero_add] at this
     exact run_loadCellsFrom_list P _ _ _ k (HK.out _) this
    have hcg:∀ n' os',Calls P q #[.agg (enc (ip+1)).toArray,.agg (enc ip).toArray] (grow ((sortWorldK enc k w blk 0 m (Array.range n) os).drewN n') os') λ e w'=>e = .returned (.bool (ef (ip+1) ip))∧∃ q os'',w'=grow ((grow ((sortWorldK enc k w blk 0 m (Array.range n) os).drewN n') os').drewN q) os'' := λ n' os'=>by
     rw [hcls];exact HC.out _ _ _ hrs (ip+1) ip
    have CLS:Hid _:=hcls
    clear hcls hHc r0 r1
    generalize hwq:sortWorldK enc k w blk 0 m (Array.range n) os=wq at lj lp hcg CLS ⊢
    cases hev:ef (ip+1) ip with
    | false =>
      rw [hev] at hcg
      go_wp2_with fail
      go_quiet_grown (first | (go_at_fn q;refine Calls.grown_of (hcg _ _)))
      go_wp2
      go_roundg (n-(ip+2))
      case measure=>omega
      case rel =>
       refine ⟨ip+2,_,_,by go_num,by omega,by omega,by omega,CLS.out nq osq,(show Hid _ from λ j h1 h2=>?_)⟩
       by_cases hj:j=ip+1
       ·rw [hj];exact hev
       ·exact HE.out j h1 (by omega)
    | true =>
      rw [hev] at hcg
      go_wp2_with fail
      go_quiet_grown (first | (go_at_fn q;refine Calls.grown_of (hcg _ _)))
      have hcap1:¬ (cap=ip+1):=by omega
      have hcap2:(ip:Int)+1≤(cap:Int):=by omega
      go_wp2
      go_loopg [5,7] n (λ g2 v5 v7 wr2=>∃ (b kk m2:Nat) (dk:Array Nat) (os2:Array Obj),v5 = .int .i64 kk∧v7 = .int .i64 b∧1≤b∧ip+1+b≤n∧n-b≤g2∧kk≤ip+b∧dk.size=n∧wr2=sortWorldK enc k w blk 0 m2 dk os2∧Hid (dk.toList.take kk=zt ef (ip+1+b))∧Hid (kk=(zt ef (ip+1+b)).length)∧Hid (∀ j,ip+b≤j→j<n→dk[j]! = j))
      case atStart =>
       have e1:zt ef (ip+1)=List.range (ip+1):=qts λ j h1 h2=>HE.out j h1 h2
       have e2:zt ef (ip+1+1)=List.range (ip+1):=by rw [qqk (by omega) (by simpa using hev),e1]
       refine ⟨1,ip+1,_,Array.range n,_,by go_num,rfl,Nat.le_refl _,by omega,by omega,by omega,hrs,CLS.out nq osq,?_,?_,?_⟩
       ·show _=_
        rw [e2,Array.toList_range,List.take_range,Nat.min_eq_left (by omega)]
       ·show _=_
        rw [e2,List.length_range]
       ·intro j _ h2
        rw [getElem!_pos _ _ (by rw [hrs];exact h2)];simp
      case round =>
       obtain ⟨b,kk,m2,dk,os2,rfl,rfl,hb1,hbn,hg2,hkk,hdk,rfl,HT,HL,HD⟩:=hrel
       by_cases hlt2:ip+1+b<n
       ·obtain ⟨bp,rfl⟩:∃ bp,b=bp+1:=⟨b-1,by omega⟩
        have hltz2:(bp:Int)+1<((n-(ip+1):Nat):Int):=by omega
        have hltz3:(bp:Int)<((n-(ip+1):Nat):Int):=by omega
        have hwp2:IntKind.i64.wrap (bp:Int)=(bp:Int):=by rw [IntKind.wrap_i64];omega
        have p2:(0:Int)≤(bp:Int)+1:=by omega
        have e2:((bp:Int)+1).toNat=bp+1:=by omega
        have hkn:(kk:Int)<(n:Int):=by omega
        obtain ⟨ax,hax⟩:∃ ax,ax=ip+1+(bp+1):=⟨_,rfl⟩
        have hac:(ip+1)*k+(bp+1)*k=ax*k:=by rw [hax,Nat.add_mul (ip+1)]
        have hap:(ip+1)*k+bp*k=(ax-1)*k:=by rw [← Nat.add_mul];congr 1;omega
        have r1:dk[ax]! = ax:=HD.out ax (by omega) (by omega)
        have r0:dk[ax-1]! = ax-1:=HD.out (ax-1) (by omega) (by omega)
        have hcls:∀ n' os',grow ((sortWorldK enc k w blk 0 m2 dk os2).drewN n') os'=sortWorldK enc k w blk 0 (m2+n') dk (os2++os') := λ n' os'=>sortWorldK_grown_c enc k w blk 0 m2 n' dk os2 os'
        have hHc:∀ n' os',HoldsK enc k (grow ((sortWorldK enc k w blk 0 m2 dk os2).drewN n') os') blk 0 dk := λ n' os'=>by rw [hcls];exact holdsK_sortWorldK_c enc k w blk 0 (Array.range n) dk _ _ HH.out hblk (by rw [hdk,hrs])
        have lj:∀ n' os',Sem.run P (loadCellsFrom ⟨blk,(ip+1)*k+(bp+1)*k,none⟩ 0 k #[]) (grow ((sortWorldK enc k w blk 0 m2 dk os2).drewN n') os') = .ok (enc ax).toArray (grow ((sortWorldK enc k w blk 0 m2 dk os2).drewN n') os') := λ n' os'=>by
         have:=HoldsK.cells (hHc n' os') HK.out (i:=ax) (by rw [hdk];omega)
         rw [r1,Nat.zero_add,← hac] at this
         exact run_loadCellsFrom_list P _ _ _ k (HK.out _) this
        have lp:∀ n' os',Sem.run P (loadCellsFrom ⟨blk,(ip+1)*k+bp*k,none⟩ 0 k #[]) (grow ((sortWorldK enc k w blk 0 m2 dk os2).drewN n') os') = .ok (enc (ax-1)).toArray (grow ((sortWorldK enc k w blk 0 m2 dk os2).drewN n') os') := λ n' os'=>by
         have:=HoldsK.cells (hHc n' os') HK.out (i:=ax-1) (by rw [hdk];omega)
         rw [r0,Nat.zero_add,← hap] at this
         exact run_loadCellsFrom_list P _ _ _ k (HK.out _) this
        have hcg:∀ n' os',Calls P q #[.agg (enc ax).toArray,.agg (enc (ax-1)).toArray] (grow ((sortWorldK enc k w blk 0 m2 dk os2).drewN n') os') λ e w'=>e = .returned (.bool (ef ax (ax-1)))∧∃ q os'',w'=grow ((grow ((sortWorldK enc k w blk 0 m2 dk os2).drewN n') os').drewN q) os'' := λ n' os'=>by
         rw [hcls];exact HC.out _ _ _ hdk ax (ax-1)
        have CLS2:Hid _:=hcls
        have HHC:Hid _:=hHc
        have HAC:=Lib.hid hac
        clear hcls hHc hap hac
        generalize hwq2:sortWorldK enc k w blk 0 m2 dk os2=wq2 at lj lp hcg CLS2 HHC ⊢
        have hlA:(enc ax).length=k:=HK.out _
        have hA1:∀ v∈enc ax,v.oneCell'=true:=H1.out _
        obtain ⟨cA,hcA⟩:∃ c,c=enc ax:=⟨_,rfl⟩
        obtain ⟨cP,hcP⟩:∃ c,c=enc (ax-1):=⟨_,rfl⟩
        rw [← hcA] at lj hcg hlA hA1
        rw [← hcP] at lp hcg
        have HCA:=Lib.hid hcA
        clear hcA hcP
        have hT:=HT.out
        have hL:=HL.out
        rw [show ip+1+(bp+1)=ax from hax.symm] at hT hL
        have HAX:=Lib.hid hax
        have hax1:0<ax:=by omega
        have hax3:ax<n:=by omega
        clear hax r0 r1
        cases hev2:ef ax (ax-1) with
        | true =>
          have hcd:zt ef (ax+1)=zt ef ax:=qqk hax1 hev2
          have HT2:Hid (dk.toList.take kk=zt ef (ax+1)):=by show _=_;rw [hcd];exact hT
          have HL2:Hid (kk=(zt ef (ax+1)).length):=by show _=_;rw [hcd];exact hL
          clear hT hL hcd
          rw [hev2] at hcg
          go_wp2_with fail
          go_quiet_grown (first | (go_at_fn q;refine Calls.grown_of (hcg _ _)))
          go_wp2
          go_roundg (n-(bp+2))
          case measure=>omega
          case rel =>
           have hax2:ip+1+(bp+2)=ax+1:=by have:=HAX.out;omega
           refine ⟨bp+2,kk,_,dk,_,rfl,by go_num,by omega,by omega,by omega,by omega,hdk,CLS2.out nq osq,?_,?_,(show Hid _ from λ j h1 h2=>HD.out j (by omega) h2)⟩
           ·show _=_
            rw [hax2];exact HT2.out
           ·show _=_
            rw [hax2];exact HL2.out
        | false =>
          have hcd:zt ef (ax+1)=zt ef ax++[ax]:=qAD hev2
          have hdl:kk<dk.toList.length:=by rw [Array.length_toList,hdk];omega
          have HT2:Hid ((dk.setIfInBounds kk ax).toList.take (kk+1)=zt ef (ax+1)):=by
           show _=_
           rw [hcd,← hT,Array.toList_setIfInBounds,List.take_add_one,List.take_set_of_le (Nat.le_refl _),List.getElem?_set_self hdl];rfl
          have HL2:Hid (kk+1=(zt ef (ax+1)).length):=by show _=_;rw [hcd,List.length_append,← hL];rfl
          clear hT hL hcd
          rw [hev2] at hcg
          go_wp2_with fail
          go_quiet_grown (first | (go_at_fn q;refine Calls.grown_of (hcg _ _)))
          have hw2:grow (wq2.drewN nq) osq=sortWorldK enc k w blk 0 (m2+nq) dk (os2++osq):=CLS2.out nq osq
          have lj2:=lj nq osq
          have hHd:=HHC.out nq osq
          clear lj lp hcg
          generalize grow (wq2.drewN nq) osq=wq3 at hw2 hHd lj2 ⊢
          have hbd:kk*k+cA.length≤(flatK enc k dk).size:=by
           rw [hlA,size_flatK]
           have:=Nat.mul_le_mul_right k (show kk+1≤dk.size by omega)
           rwa [Nat.succ_mul] at this
          have s1:Sem.run P (storeCells ⟨blk,kk*k,none⟩ cA 0) wq3 = .ok () (wq3.setCells blk (kk*k) cA):=by
           have:=stores_of_holds P hHd (kk*k) cA hbd hA1
           rwa [Nat.zero_add] at this
          have HW3:Hid (wq3.setCells blk (kk*k) cA=sortWorldK enc k w blk 0 (m2+nq) (dk.setIfInBounds kk ax) (os2++osq)):=by
           show _=_
           rw [hw2,HCA.out]
           exact qHF HK.out (m2+nq) dk (os2++osq) hblk kk ax (by omega)
          clear hw2 hHd hbd
          go_wp2
          go_roundg (n-(bp+2))
          case measure=>omega
          case rel =>
           have hax2:ip+1+(bp+2)=ax+1:=by have:=HAX.out;omega
           refine ⟨bp+2,kk+1,_,dk.setIfInBounds kk ax,_,by go_num,by go_num,by omega,by omega,by omega,by omega,by simpa using hdk,HW3.out,?_,?_,(show Hid _ from λ j h1 h2=>?_)⟩
           ·show _=_
            rw [hax2];exact HT2.out
           ·show _=_
            rw [hax2];exact HL2.out
           ·rw [getElem!_set_other _ _ _ _ (by omega)]
            exact HD.out j (by omega) h2
       ·obtain rfl:n=ip+1+b:=by omega
        have hW:=(Go.AmYtbpnmbmdbblehaaGreat.sort_blks HBK.out enc k m2 dk os2).hb
        have hpsz:(putCells id 0 (flatK enc k dk) vs).size=vs.size:=by unfold putCells;rw [Array.size_mapIdx]
        have hzl:(Builtin.zeroCells zv.cells (ip+1+b-kk)).toList.length=(ip+1+b-kk)*k:=by rw [Array.length_toList,size_zeroCells,HZK.out]
        have hsum:kk*k+(ip+1+b-kk)*k=(ip+1+b)*k:=by rw [← Nat.add_mul];congr 1;omega
        have hle:(ip+1+b)*k≤vs.size:=Nat.le_trans (Nat.mul_le_mul_right _ hnc) HCS.out
        obtain ⟨new,hnew⟩:∃ new,new=(putCells id 0 (flatK enc k dk) vs).toList.take (kk*k)++(Builtin.zeroCells zv.cells (ip+1+b-kk)).toList++(putCells id 0 (flatK enc k dk) vs).toList.drop (kk*k+(Builtin.zeroCells zv.cells (ip+1+b-kk)).toList.length):=⟨_,rfl⟩
        have hcl:∀ ty,(Builtin.clear_ #[22] ty #[.slice (some ⟨blk,kk*k,none⟩) (ip+1+b-kk) (cap-kk)]).run P (sortWorldK enc k w blk 0 m2 dk os2) = .ok (.tuple #[]) ((sortWorldK enc k w blk 0 m2 dk os2).setRow blk new.toArray) := λ ty=>by
         rw [hnew]
         exact qm4 _ 22 24 ty zv t22 HVE.out blk (kk*k) (ip+1+b-kk) (cap-kk) (by omega) _ et hW (by rw [hpsz,HZK.out];omega) (HZ1.out _)
        have HN1:Hid (new.take (kk*k)=(putCells id 0 (flatK enc k dk) vs).toList.take (kk*k)):=by
         show _=_
         rw [hnew,List.append_assoc,List.take_append_of_le_length (by rw [List.length_take,Array.length_toList,hpsz];omega),List.take_take,Nat.min_self]
        have HN2:Hid (new.length=vs.size):=by
         show _=_
         rw [hnew]
         rw [Array.length_toList] at hzl
         simp only [List.length_append,List.length_take,List.length_drop,Array.length_toList,hpsz,hzl]
         omega
        have hkc:¬ (cap=kk):=by omega
        have hkc2:(kk:Int)≤(cap:Int):=by omega
        have hkn:(kk:Int)≤((ip+1+b:Nat):Int):=by omega
        clear hW hpsz hzl hsum hle hnew
        have HW:Hid _:=(⟨dk,m2,os2,rfl⟩:∃ (d:Array Nat) (m:Nat) (os:Array Obj),sortWorldK enc k w blk 0 m2 dk os2=sortWorldK enc k w blk 0 m d os)
        generalize hwq2:sortWorldK enc k w blk 0 m2 dk os2=wq2 at hcl ⊢
        have HWQ:=Lib.hid hwq2
        clear hwq2 HW
        have HDK:=Lib.hid hdk
        go_wp2_with (simp only [hcl])
        go_ret
        have hL:=HL.out
        rw [← hL]
        exact ⟨rfl,dk,m2,os2,new,HDK.out,HT.out,.inr ⟨HN1.out,HN2.out,by rw [HWQ.out]⟩⟩
   ·obtain rfl:i=n:=by omega
    have hci:zt ef i=List.range i:=qts λ j h1 h2=>HE.out j h1 h2
    have HCI:=Lib.hid hci
    clear hci
    go_wp2
    go_ret
    rw [HCI.out,List.length_range]
    exact ⟨rfl,Array.range i,_,_,[],hrs,by simp,.inl rfl⟩
end Go.Proofs.YtbpnmbmdbblehaaGreat
namespace Go.AmYtbpnmbmdbblehaaGreat
open Go Go.RowKit Go.GxYtbpnmbmdbblehaaGreat Go.Sort Go.Proofs Go.Shelf Go.Proofs.YtbpnmbmdbblehaaGreat
def qjz {α : Type} (F : α → α → Option Bool) (l:List α) (i j:Nat):Bool:=match l[i % l.length]?,l[j % l.length]? with
 | some x,some y=>(F x y).getD false
 | _,_=>false
def qxJ {α : Type} (F : α → α → Option Bool):List α → Option (List α)
 | []=>some []
 | x::l=>cond (Nat.ble (x::l).length 100000&&qbC F (x::l)) (some (pick (x::l) (zt (qjz F (x::l)) (x::l).length))) none
def qtD {α : Type} (F : α → α → Option Bool) (l:List α):Option (Unit × List α × Unit):=match qxJ F l with
 | some l'=>some ((),l',())
 | none=>none
theorem qCM {α : Type} {F : α → α → Option Bool} {l:List α} {r:Unit × List α × Unit} (h:qtD F l=some r):∃ l',qxJ F l=some l'∧r=((),l',()):=by
 unfold qtD at h
 split at h
 ·cases h;exact ⟨_,‹_›,rfl⟩
 ·cases h
theorem qEA {P:Program} {f:FuncId} {g:qoX} (hf:qfg P f) (h:∀ a,g.fn a=none):qW P f (mgP g):=by
 refine ⟨hf,λ Γ σ w args vals r hi hr hp=>?_⟩
 unfold mgP at hp
 split at hp
 ·rw [h] at hp;cases hp
 ·cases hp
theorem qwc {ef:Nat→Nat→Bool} {n:Nat}:∀ i∈zt ef n,i<n := λ i hi=>List.mem_range.1 (List.mem_filter.1 hi).1
theorem qoy {enc:Nat→List Value} {k:Nat} (hk:∀ x,(enc x).length=k):∀ (l:List Nat) (i j:Nat),j<k→(l.flatMap enc)[i*k+j]? = (l[i]?).bind λ x=>(enc x)[j]?
 | [],i,j,_=>by simp
 | x::l,0,j,hj=>by
   rw [List.flatMap_cons,Nat.zero_mul,Nat.zero_add,List.getElem?_append_left (by rw [hk];exact hj)]
   rfl
 | x::l,i+1,j,hj=>by
   rw [List.flatMap_cons,List.getElem?_append_right (by rw [hk,Nat.succ_mul];omega),hk]
   have:(i+1)*k+j-k=i*k+j:=by rw [Nat.succ_mul];omega
   rw [this]
   exact qoy hk l i j hj
theorem qwk {enc:Nat→List Value} {k:Nat} (hk:∀ x,(enc x).length=k):∀ l:List Nat,(l.flatMap enc).length=l.length*k
 | []=>by simp
 | x::l=>by rw [List.flatMap_cons,List.length_append,hk,qwk hk l,List.length_cons,Nat.succ_mul,Nat.add_comm]
theorem qso {β : Type} {f:List AV→Option β} {es:List (List AV)} {l:List β} (h:qV f es=some l):∀ {ix:List Nat},(∀ i∈ix,i<l.length)→qV f (pick es ix)=some (pick l ix)
 | [],_=>rfl
 | i::ix,hi=>by
   have h1:=hi i (List.mem_cons_self ..)
   have hl:=qT h
   have e1:pick es (i::ix)=es[i]'(by omega)::pick es ix:=by
    unfold pick;rw [List.filterMap_cons,List.getElem?_eq_getElem (by omega)]
   have e2:pick l (i::ix)=l[i]::pick l ix:=by
    unfold pick;rw [List.filterMap_cons,List.getElem?_eq_getElem h1]
   obtain ⟨v,hv,hd⟩:=Jd h (List.getElem?_eq_getElem (show i<es.length by omega))
   rw [List.getElem?_eq_getElem h1] at hv
   cases hv
   rw [e1,e2]
   exact yy.2 ⟨_,_,hd,qso h λ j hj=>hi j (List.mem_cons_of_mem _ hj),rfl⟩
theorem qGH (n:Nat):∀ v∈(Builtin.zeroCells (Value.cells (.agg #[.int .i64 0,.string ⟨#[]⟩,.int .i64 0,.slice none 0 0])) n).toList,v.oneCell'=true:=by
 intro v hv
 unfold Builtin.zeroCells at hv
 rw [Array.mem_toList_iff] at hv
 obtain ⟨i,_,rfl⟩:=Array.mem_map.1 hv
 have hs:(Value.cells (.agg #[.int .i64 0,.string ⟨#[]⟩,.int .i64 0,.slice none 0 0])).size=4:=rfl
 rw [hs]
 have h4:i % 4<4:=Nat.mod_lt _ (by decide)
 generalize i % 4=r at h4
 match r,h4 with
 | 0,_=>rfl
 | 1,_=>rfl
 | 2,_=>rfl
 | 3,_=>rfl
set_option maxHeartbeats 1000000 in
theorem qzw {g:FuncId} {F:T→T→Option Bool} (hF:Fn2 Go.Proofs.Tryz.prog g .term (λ b:Bool => .bool b) F) {fn:List T→Option (Unit × List T × Unit)} (hfn:∀ l r,fn l=some r→∃ l',qxJ F l=some l'∧r=((),l',())) :
  qW Go.Proofs.Tryz.prog 155 (sgP ⟨[.row .term,.clo g 0],[.one (.row .term)],λ x=>fn x.1⟩):=by
 have c0 := λ p cap fv w=>qEH (P:=Go.Proofs.Tryz.prog) Go.Proofs.Tryz.func155 (by kernel_rfl) Go.Proofs.Tryz.underlying0 Go.Proofs.Tryz.isAgg0 Go.Proofs.Tryz.sizeOf0 Go.Proofs.Tryz.zeroValue0 Go.Proofs.Tryz.underlying3 Go.Proofs.Tryz.isAgg3 Go.Proofs.Tryz.sizeOf3 Go.Proofs.Tryz.zeroValue3 Go.Proofs.Tryz.underlying4 Go.Proofs.Tryz.isAgg4 Go.Proofs.Tryz.sizeOf4 Go.Proofs.Tryz.zeroValue4 Go.Proofs.Tryz.underlying22 Go.Proofs.Tryz.isAgg22 Go.Proofs.Tryz.sizeOf22 Go.Proofs.Tryz.zeroValue22 Go.Proofs.Tryz.underlying36 Go.Proofs.Tryz.isAgg36 Go.Proofs.Tryz.sizeOf36 Go.Proofs.Tryz.zeroValue36 p cap fv w
 have cP := λ w blk n cap et vs h1 h2 h3 h4 h5 enc h6 h7 h8 ef h9=>qFi (P:=Go.Proofs.Tryz.prog) Go.Proofs.Tryz.func155 (by kernel_rfl) Go.Proofs.Tryz.underlying0 Go.Proofs.Tryz.isAgg0 Go.Proofs.Tryz.sizeOf0 Go.Proofs.Tryz.zeroValue0 Go.Proofs.Tryz.underlying3 Go.Proofs.Tryz.isAgg3 Go.Proofs.Tryz.sizeOf3 Go.Proofs.Tryz.zeroValue3 Go.Proofs.Tryz.underlying4 Go.Proofs.Tryz.isAgg4 Go.Proofs.Tryz.sizeOf4 Go.Proofs.Tryz.zeroValue4 Go.Proofs.Tryz.underlying22 Go.Proofs.Tryz.isAgg22 Go.Proofs.Tryz.sizeOf22 Go.Proofs.Tryz.zeroValue22 Go.Proofs.Tryz.underlying36 Go.Proofs.Tryz.isAgg36 Go.Proofs.Tryz.sizeOf36 Go.Proofs.Tryz.zeroValue36
  4 (by decide) Go.Proofs.Tryz.isAgg24 Go.Proofs.Tryz.sizeOf24 _ Go.Proofs.Tryz.zeroValue24 rfl qGH w blk n cap et vs g h1 h2 h3 h4 h5 enc h6 h7 h8 (λ args w=>qdE hF.1 args w) ef h9
 have hag:∀ v:T,yF .term v = .agg (qm .term v) := λ _=>rfl
 refine ⟨Q9 Go.Proofs.Tryz.func155 (by kernel_rfl),λ Γ σ w args vals r hi hr hp=>?_⟩
 unfold sgP at hp
 split at hp<;>try cases hp
 rename_i x hx
 split at hp<;>cases hp
 rename_i v0 hv0
 obtain ⟨l,_⟩:=x
 obtain ⟨l',hl',rfl⟩:=hfn _ _ hv0
 obtain ⟨y0,ys0,nr,rfl,hy0,hx1⟩:=qop hx
 obtain ⟨ys1,rfl,hx2⟩:=qBH (g:=g) (r:=[]) hx1
 obtain ⟨rfl,hbx,hrw⟩:=qjf hx2
 clear hx hx1 hx2 hv0 hfn
 obtain ⟨u0,r0,rfl,hu0,hr⟩:=hr.uncons
 obtain ⟨u1,r1,rfl,hu1,hr⟩:=hr.uncons
 have:=hr.nil_inv
 subst this
 have hu1:u1 = .func (.func g) #[] #[]:=by
  cases hu1 with
  | fn _ _ us hn _=>obtain rfl:=List.eq_nil_of_length_eq_zero hn;rfl
 subst hu1
 have hb0 : σ.bx=[]:=List.eq_nil_of_length_eq_zero hbx.symm
 have nil0:∀ (p:Option Addr),l'=[]→jB Go.Proofs.Tryz.prog Γ σ w 155 [.slice p 0 0,.func (.func g) #[] #[]] (zy (QW [.one (.row .term)] σ.rw.length (l',())),some ⟨[],σ.rw.map jY++QB [.one (.row .term)] (l',()),List.range σ.bx.length,List.range σ.rw.length⟩) := λ p hl=>by
  subst hl
  refine (c0 p 0 _ w).mono ?_
  rintro e w' ⟨rfl,rfl⟩
  obtain ⟨Γ2,z1,z2,z3,z4⟩:=qIg (a := .term) hi (.refl _ _) hi hb0 p
  exact ⟨_,Γ2,rfl,z1,z2,z3,z4⟩
 rcases qdk hy0 with ⟨hnr,R,rfl,hR,hRk,hRf,hRd⟩ | ⟨hnr,hl0,hy⟩
 ·have H:=hi.row 0 R hR
  have hcl:R.c.length=l.length:=qT hRd
  have hlk:∀ e∈R.c,e.length=Ty.size .term := λ e he=>(H.len e he).trans hRk
  obtain ⟨p,cap,rfl,hcap,hrm⟩:=qpP hi hR hRk hRf hu0
  rcases hrm with h0 | ⟨rfl,hz,vs,et,hvs,hvsz,hfit,hca,hxl,h1⟩
  ·have hl0:l=[]:=List.eq_nil_of_length_eq_zero (by omega)
   have hl2:l'=[]:=by rw [hl0] at hl';cases hl';rfl
   have hrc:R.c.length=0:=by omega
   rw [hrc,h0]
   exact nil0 p hl2
  ·by_cases hl0:l=[]
   ·have hl2:l'=[]:=by rw [hl0] at hl';cases hl';rfl
    have hrc:R.c.length=0:=by rw [hcl,hl0];rfl
    rw [hrc]
    subst hl2
    refine qi1 (a := .term) hi hb0 hR hRk hRf hz (l:=[]) (c:=[]) (xs:=[]) (n:=0) rfl rfl (by intro e he;cases he) (by intro e he;cases he) (λ i e j x h=>by cases h) ?_
    refine (c0 _ cap _ w).mono ?_
    rintro e w' ⟨rfl,rfl⟩
    exact ⟨Γ.cur 0,cap,vs,et,rfl,hvs,Nat.zero_le _,hfit,by rw [Nat.zero_mul];rfl,.inl ⟨rfl,hvsz⟩,rfl,rfl,rfl,Nat.le_refl _,Nat.le_refl _,λ _ _ _=>rfl⟩
   ·have hlpos:0<l.length:=List.length_pos_iff.2 hl0
    obtain ⟨n,hn⟩:∃ n,n=l.length:=⟨_,rfl⟩
    have hnc:R.c.length=n:=hcl.trans hn.symm
    rw [hnc] at hca hxl h1 hcap ⊢
    have hns:n*Ty.size .term≤vs.size:=Nat.le_trans (Nat.mul_le_mul_right _ hcap) hfit
    have hv':Nat.ble l.length 100000=true∧qbC F l=true∧l'=pick l (zt (qjz F l) l.length):=by
     cases l with
     | nil=>exact absurd rfl hl0
     | cons y l =>
       replace hl':cond _ _ _=some l':=hl'
       cases hb:(Nat.ble (y::l).length 100000&&qbC F (y::l)) with
       | false =>
         replace hl':cond (Nat.ble (y::l).length 100000&&qbC F (y::l)) _ _=some l':=hl'
         rw [hb] at hl';cases hl'
       | true =>
         replace hl':cond (Nat.ble (y::l).length 100000&&qbC F (y::l)) _ _=some l':=hl'
         have hb':=hb
         rw [Bool.and_eq_true] at hb'
         rw [hb] at hl'
         cases hl'
         exact ⟨hb'.1,hb'.2,rfl⟩
    obtain ⟨v1,v2,v4⟩:=hv'
    have v1:l.length≤100000:=Nat.le_of_ble_eq_true v1
    have hER:∀ {q:Nat} {y:T},l[q]? = some y→RepL Γ (qm .term y) (Qa vs (Ty.size .term) q)∧∀ u∈Qa vs (Ty.size .term) q,u.oneCell'=true := λ hq=>qqR hnc hlk hRd hca hns hq
    have hlast:∀ i,i % n<n := λ i=>Nat.mod_lt _ (by omega)
    obtain ⟨enc,henc⟩:∃ enc:Nat→List Value,enc = λ i=>Qa vs (Ty.size .term) (i % n):=⟨_,rfl⟩
    have hek:∀ i,(enc i).length=Ty.size .term := λ i=>by rw [henc];exact qmy (hlast i) hns
    have hlget:∀ i,∃ y,l[i % n]? = some y := λ i=>⟨_,List.getElem?_eq_getElem (by rw [← hn];exact hlast i)⟩
    have he1:∀ i,∀ u∈enc i,u.oneCell'=true := λ i u hu=>by
     rw [henc] at hu
     obtain ⟨y,hy⟩:=hlget i
     exact (hER hy).2 u hu
    have hrange:(Array.range n).size=n:=Array.size_range
    have hvsb:w.heap[Γ.cur 0]? = some (.cells vs et (0,0)):=hvs
    have hmem0:∀ off,Γ.mem (Γ.cur 0) off=none := λ off=>H.un hz off (by rw [hRf,Nat.zero_mul];exact Nat.zero_le _)
    have hH:HoldsK enc (Ty.size .term) w (Γ.cur 0) 0 (Array.range n):=by
     intro j hj
     rw [size_flatK,hrange] at hj
     obtain ⟨q1,q2,q3⟩:=qiK j (Ty.size .term) n hj
     have hjs:j<vs.size:=Nat.lt_of_lt_of_le hj hns
     constructor
     ·rw [get_flatK _ _ _ _ (by rw [hrange];exact hj)]
      have e1:(Array.range n)[j / (Ty.size .term)]! = j / (Ty.size .term):=by rw [getElem!_pos _ _ (by rw [hrange];exact q1)];simp
      rw [e1,henc]
      show _=some ((Qa vs (Ty.size .term) (j / (Ty.size .term) % n))[j % (Ty.size .term)]!)
      rw [Nat.mod_eq_of_lt q1]
      have e2:(Qa vs (Ty.size .term) (j / (Ty.size .term)))[j % (Ty.size .term)]? = some vs[j]:=by rw [qjE q3,q2];exact Array.getElem?_eq_getElem hjs
      rw [Nat.zero_add,Blk.cell hvs,List.getElem!_eq_getElem?_getD,e2,Array.getElem?_eq_getElem hjs]
      rfl
     ·exact Blk.free hvs _
    have heq:∀ (m:Nat) (os:Array Obj) (dk:Array Nat),dk.size=n→∀ x y,Calls Go.Proofs.Tryz.prog g #[.agg (enc x).toArray,.agg (enc y).toArray] (sortWorldK enc (Ty.size .term) w (Γ.cur 0) 0 m dk os) λ e w'=>e = .returned (.bool (qjz F l x y))∧∃ q' os',w'=grow ((sortWorldK enc (Ty.size .term) w (Γ.cur 0) 0 m dk os).drewN q') os':=by
     intro m os dk hdk x y
     have B:=sort_blks hvsb enc (Ty.size .term) m dk os
     obtain ⟨W,hW⟩:∃ W,W=sortWorldK enc (Ty.size .term) w (Γ.cur 0) 0 m dk os:=⟨_,rfl⟩
     rw [← hW] at B ⊢
     have hiW:Inv (bare Γ) emp W:=hi.bare λ b o u e=>by
      have hne:b ≠ Γ.cur 0 := λ hb=>by rw [hb,hmem0] at e;cases e
      have hc:=(hi.mem b o u e).1
      have hblt:=hi.mem_lt e
      rw [show W.cell? _=w.cell? _ from World.cell?_of_block (B.other b hblt hne)]
      exact hc
     have rep:∀ (i:Nat) (y:T),l[i % n]? = some y→Rep (bare Γ) (yF .term y) (.agg (enc i).toArray) := λ i y hy=>by
      obtain ⟨q1,q2⟩:=hER hy
      rw [hag]
      have:enc i=Qa vs (Ty.size .term) (i % n):=by rw [henc]
      rw [this]
      refine .agg _ _ q1.len q2 λ j z u a b=>(q1.rep j z u a b).bare (zU .term y z (List.mem_of_getElem? a))
     obtain ⟨lx,hx⟩:=hlget x
     obtain ⟨ly,hy⟩:=hlget y
     have hsome:=List.all_eq_true.1 (List.all_eq_true.1 v2 lx (List.mem_of_getElem? hx)) ly (List.mem_of_getElem? hy)
     obtain ⟨c,hc⟩:=Option.isSome_iff_exists.1 hsome
     have hcf:qjz F l x y=c:=by
      unfold qjz
      rw [← hn,hx,hy]
      simp only
      rw [hc];rfl
     rw [hcf]
     have hcall:=hF.2 hiW (rep x lx hx) (rep y ly hy) hc
     refine Calls.mono hcall ?_
     rintro e w' ⟨rfl,hid⟩
     exact ⟨rfl,hid.grow⟩
    have hcall:=cP w (Γ.cur 0) n cap et vs hvsb hfit hcap (by omega) (by omega) enc hek he1 hH (qjz F l) heq
    obtain ⟨ix,hix⟩:∃ ix,ix=zt (qjz F l) n:=⟨_,rfl⟩
    rw [← hix] at hcall
    have hixlt:∀ i∈ix,i<n := λ i hi=>by rw [hix] at hi;exact qwc i hi
    have hixl:∀ i∈ix,i<l.length := λ i hi=>by rw [← hn];exact hixlt i hi
    have hixc:∀ i∈ix,i<R.c.length := λ i hi=>by rw [hnc];exact hixlt i hi
    have hl'e:l'=pick l ix:=by rw [v4,← hn,hix]
    have hl'n:l'.length=ix.length:=by rw [hl'e,qnb hixl]
    have pm:∀ e∈pick R.c ix,e∈R.c := λ e he=>by
     unfold pick at he
     obtain ⟨i,_,h⟩:=List.mem_filterMap.1 he
     exact List.mem_of_getElem? h
    refine qi1 (a := .term) hi hb0 hR hRk hRf hz (l:=l') (c:=pick R.c ix) (xs:=ix.flatMap enc) (n:=ix.length) hl'n.symm (by rw [hl'e];exact qso hRd hixl) (λ e he=>hlk e (pm e he)) (λ e he=>H.plain e (pm e he)) (λ i e j x h1 h2=>?_) ?_
    ·rw [qrB hixc] at h1
     cases hp:ix[i]? with
     | none=>rw [hp] at h1;cases h1
     | some p =>
       rw [hp] at h1
       have h1:R.c[p]? = some e:=h1
       have hj:j<Ty.size .term:=by have:=getElem?_lt h2;rwa [hlk e (List.mem_of_getElem? h1)] at this
       obtain ⟨u,u1,u2⟩:=hca p e j x h1 h2
       refine ⟨u,?_,u2⟩
       have hpn:p<n:=hixlt p (List.mem_of_getElem? hp)
       rw [qoy hek _ _ _ hj,hp]
       show (enc p)[j]? = some u
       rw [henc]
       show (Qa vs (Ty.size .term) (p % n))[j]? = some u
       rw [Nat.mod_eq_of_lt hpn,qjE hj,← Array.getElem?_toList]
       rw [List.getElem?_take] at u1
       split at u1
       ·exact u1
       ·cases u1
    ·refine Calls.mono hcall ?_
     rintro e w' ⟨rfl,dk,m,os,new,hdk,htk,hw⟩
     have B:=sort_blks hvsb enc (Ty.size .term) m dk os
     have hpsz:(putCells id 0 (flatK enc (Ty.size .term) dk) vs).size=vs.size:=by unfold putCells;rw [Array.size_mapIdx]
     have hixn:ix.length≤n:=by
      have:=congrArg List.length htk
      rw [List.length_take] at this
      have h2:dk.toList.length=n:=by rw [Array.length_toList,hdk]
      omega
     have hlen:ix.length*Ty.size .term≤n*Ty.size .term:=Nat.mul_le_mul_right _ hixn
     have hxs:(putCells id 0 (flatK enc (Ty.size .term) dk) vs).toList.take (ix.length*Ty.size .term)=ix.flatMap enc:=by
      apply List.ext_getElem?
      intro t
      by_cases ht:t<ix.length*Ty.size .term
      ·obtain ⟨q1,q2,q3⟩:=qiK t (Ty.size .term) ix.length ht
       rw [List.getElem?_take,if_pos ht,Array.getElem?_toList]
       unfold putCells
       rw [Array.getElem?_mapIdx,Array.getElem?_eq_getElem (by omega),Option.map_some,if_pos ⟨Nat.zero_le _,by rw [size_flatK,hdk];omega⟩,Nat.sub_zero,id,get_flatK _ _ _ _ (by rw [hdk];omega)]
       conv=>rhs;rw [← q2]
       rw [qoy hek _ _ _ q3]
       have hd:dk[t / Ty.size .term]? = ix[t / Ty.size .term]? := by
        rw [← htk,List.getElem?_take,if_pos q1,Array.getElem?_toList]
       have hdl:t / Ty.size .term<dk.size:=by rw [hdk];omega
       rw [← hd,Array.getElem?_eq_getElem hdl,getElem!_pos dk _ hdl]
       show _=(enc dk[t / Ty.size .term])[t % Ty.size .term]?
       rw [List.getElem!_eq_getElem?_getD,List.getElem?_eq_getElem (by rw [hek];exact q3)]
       rfl
      ·rw [List.getElem?_eq_none (by rw [List.length_take];omega),List.getElem?_eq_none (by rw [qwk hek];omega)]
     rcases hw with rfl | ⟨n1,n2,rfl⟩
     ·exact ⟨Γ.cur 0,cap,_,et,rfl,B.hb,by omega,by rw [hpsz];exact hfit,hxs,.inl ⟨rfl,hpsz.trans hvsz⟩,B.os,B.tape,B.output,B.size,B.drawn,B.other⟩
     ·have hs:=setRow_heap _ (Γ.cur 0) _ new.toArray et (0,0) B.hb
      refine ⟨Γ.cur 0,cap,new.toArray,et,rfl,hs,by omega,by rw [List.size_toArray,n2];exact hfit,?_,.inl ⟨rfl,by rw [List.size_toArray,n2];exact hvsz⟩,B.os,B.tape,B.output,?_,B.drawn,λ b hb hne=>(setRow_other _ (Γ.cur 0) b _ hne).trans (B.other b hb hne)⟩
      ·rw [← hxs];exact n1
      ·show w.heap.size≤_
       simp only [World.setRow,Array.size_modify]
       exact B.size
 ·have hl2:l'=[]:=by
    have hl0:l=[]:=hl0
    rw [hl0] at hl';cases hl';rfl
  rcases hy with rfl | ⟨f,rfl,hf2⟩
  ·have hu0:=zu hu0
   subst hu0
   exact nil0 none hl2
  ·cases hu0 with
   | sl _ _ _ a n cap b o us hn _ hf _ _ _ _ _ _ =>
     have hn:n=0:=hn
     have hcap:cap=n:=hf (by omega)
     rw [hcap,hn]
     exact nil0 a hl2
end Go.AmYtbpnmbmdbblehaaGreat
namespace Go.Proofs.YtbpnmbmdbblehaaGreat
open Go.RowKit Go.GxYtbpnmbmdbblehaaGreat Go.BigFrame
theorem qH9:(Tryz.prog.info? 77).map (λ i=>(i.zero,i.size,i.bytes))=some (some (.agg #[.int .i64 0,.int .i64 0,.string ⟨#[]⟩,.int .i64 0,.slice none 0 0]),5,64):=by kernel_rfl
theorem qIq (w:World):(zeroValue 77).run Tryz.prog w = .ok (.agg #[.int .i64 0,.int .i64 0,.string ⟨#[]⟩,.int .i64 0,.slice none 0 0]) w:=by kernel_rfl
theorem qyR:(Builtin.zeroCells (Value.cells (.agg #[.int .i64 0,.int .i64 0,.string ⟨#[]⟩,.int .i64 0,.slice none 0 0])) 1).toList=(Value.cells (.agg #[.int .i64 0,.int .i64 0,.string ⟨#[]⟩,.int .i64 0,.slice none 0 0])).toList:=by kernel_rfl
theorem qAW:∀ v∈(Builtin.zeroCells (Value.cells (.agg #[.int .i64 0,.int .i64 0,.string ⟨#[]⟩,.int .i64 0,.slice none 0 0])) 1).toList,v.oneCell'=true:=by
 rw [qyR]
 decide
set_option maxHeartbeats 4000000 in
set_option maxRecDepth 100000 in
theorem delete_oneSlt (w:World) (g m c i:Nat) (et:TypeId) (cur:Array Value) (xs:List Value) (hbk:Blk w g et cur) (hcs:c*5≤cur.size) (hx:cur.toList.take ((m+1)*5)=xs) (hone:∀ u∈xs,u.oneCell'=true)
  (hn:m≤100000) (hi:i≤m) (hroom:m+1≤c) :
  Calls Tryz.prog 55 #[.slice (some ⟨g,0,none⟩) (m+1) c,.int .i64 i,.int .i64 ((i:Int)+1)] w (qi0 5 w g cur.size m (xs.take (i*5)++xs.drop ((i+1)*5))):=by
 have hlc:cur.toList.length=cur.size:=by simp
 have hmc:(m+1)*5≤c*5:=Nat.mul_le_mul_right _ hroom
 have him:i*5≤m*5:=Nat.mul_le_mul_right _ hi
 have hxl:xs.length=(m+1)*5:=by rw [← hx,List.length_take,hlc];omega
 have hadd:∀ (b o j:Nat),(⟨b,o,none⟩:Addr).add j=⟨b,o+j,none⟩ := λ b o j=>by unfold Addr.add;split<;>simp_all
 have hcell:∀ (o j:Nat) (v:Value),(xs.drop o)[j]? = some v→w.drew.cell? ⟨g,o+j,none⟩=some v := λ o j v hj=>by
  show w.cell? _=_
  rw [hbk.cell,← Array.getElem?_toList]
  rw [List.getElem?_drop,← hx,List.getElem?_take] at hj
  split at hj
  ·exact hj
  ·cases hj
 obtain ⟨i0,hi0,hz0,hz1,hz2⟩:=info_parts qH9
 have hdl:(xs.drop ((i+1)*5)).length=(m-i)*5:=by rw [List.length_drop,hxl,← Nat.sub_mul];congr 1;omega
 have hdl':(m-i)*5=m*5-i*5:=Nat.sub_mul ..
 obtain ⟨A,hA,HN⟩:∃ A:Addr,(if c=i+1 then some (⟨g,0,none⟩:Addr) else some ⟨g,(i+1)*5,none⟩)=some A∧Hid (∀ j u,(xs.drop ((i+1)*5))[j]? = some u→w.drew.cell? (A.add j)=some u):=by
  by_cases h:c=i+1
  ·refine ⟨_,if_pos h,λ j u hj=>?_⟩
   have:=(List.getElem?_eq_some_iff.1 hj).1
   rw [hdl] at this
   have:m-i=0:=by omega
   simp [this] at *
  ·exact ⟨_,if_neg h,λ j u hj=>by rw [hadd];exact hcell _ j u hj⟩
 have HDL:=Lib.hid hdl
 have HO1:Hid (∀ u∈xs.drop ((i+1)*5),u.oneCell'=true) := λ v hv=>hone v (List.mem_of_mem_drop hv)
 have HSP:Hid (∀ j,j<(xs.drop ((i+1)*5)).length→(w.drew.cell? ⟨g,0+i*5+j,none⟩).isSome=true∧w.drew.frozen? ⟨g,0+i*5+j,none⟩=false) := λ j hj=>by
  rw [hdl] at hj
  refine ⟨?_,hbk.free _⟩
  show (w.cell? _).isSome=true
  rw [hbk.cell,Array.getElem?_eq_getElem (by omega)];rfl
 have hBKd:Blk w.drew g et cur:=hbk
 have hw0:=qgS g et (xs.drop ((i+1)*5)) (0+i*5) w.drew cur hBKd (by rw [hdl];omega)
 obtain ⟨w2,hw2⟩:∃ w2,w2=w.drew.setCells g (0+i*5) (xs.drop ((i+1)*5)):=⟨_,rfl⟩
 rw [← hw2] at hw0
 obtain ⟨c1,hc1⟩:∃ c1,c1=cur.toList.take (0+i*5)++xs.drop ((i+1)*5)++cur.toList.drop (0+i*5+(xs.drop ((i+1)*5)).length):=⟨_,rfl⟩
 rw [← hc1] at hw0
 have hl1:c1.length=cur.size:=by rw [hc1];simp only [List.length_append,List.length_take,List.length_drop,hlc,hdl];simp only [List.length_drop] at hdl;omega
 have ht1:c1.take (m*5)=xs.take (i*5)++xs.drop ((i+1)*5):=by
  have e1:cur.toList.take (0+i*5)=xs.take (i*5):=by rw [← hx,List.take_take];congr 1;omega
  rw [hc1,e1,List.take_append_of_le_length (by simp only [List.length_append,List.length_take,hdl,hxl];omega),List.take_of_length_le (by simp only [List.length_append,List.length_take,hdl,hxl];omega)]
 have hzl:(Builtin.zeroCells (Value.cells (.agg #[.int .i64 0,.int .i64 0,.string ⟨#[]⟩,.int .i64 0,.slice none 0 0])) 1).toList.length=5:=by rw [Array.length_toList,size_zeroCells];rfl
 obtain ⟨w3,hcl,hw3⟩:∃ w3,(∀ ty,(Builtin.clear_ #[27] ty #[.slice (some ⟨g,m*5,none⟩) 1 (c-m)]).run Tryz.prog w2 = .ok (.tuple #[]) w3)∧qiZ w2 w3 g et (c1.toArray.toList.take (m*5)++(Builtin.zeroCells (Value.cells (.agg #[.int .i64 0,.int .i64 0,.string ⟨#[]⟩,.int .i64 0,.slice none 0 0])) 1).toList++c1.toArray.toList.drop (m*5+(Builtin.zeroCells (Value.cells (.agg #[.int .i64 0,.int .i64 0,.string ⟨#[]⟩,.int .i64 0,.slice none 0 0])) 1).toList.length)) :=
  ⟨_,λ ty=>qm4 w2 27 77 ty _ Tryz.underlying27 qIq g (m*5) 1 (c-m) (by omega) c1.toArray et hw0.blk (by
   show m*5+1*5≤c1.toArray.size
   rw [List.size_toArray,hl1];omega) qAW,qc3 hw0.blk _⟩
 have HW0:=Lib.hid hw0
 have HW2:=Lib.hid hw2
 have HW3:=Lib.hid hw3
 have HCL:=Lib.hid hcl
 have HT1:=Lib.hid ht1
 have HL1:=Lib.hid hl1
 have HZL:=Lib.hid hzl
 have HI:=Lib.hid hi0
 have HZ1:=Lib.hid hz1
 have HCS:=Lib.hid hcs
 have HMC:=Lib.hid hmc
 have hlt:=lt_of_block hbk
 have hc1:¬ (m+1=i):=by omega
 have hc2:¬ (c=m):=by omega
 have hf1:((i:Int)==(i:Int)+1)=false:=by simp;omega
 have hrm:i+(m-i)≤c:=by omega
 have hmi:i+(m-i)=m:=by omega
 have HRM:=Lib.hid hrm
 have HMI:=Lib.hid hmi
 clear hlc hxl hadd hcell hi0 hz0 hz1 hz2 hdl hBKd hw0 hw2 hl1 ht1 hzl hcl hw3 hcs hx hone hbk hrm hmi hmc him hdl'
 have hw1:((i:Int)+1).toNat=i+1:=by omega
 have hw4:(i:Int)+1≤(m:Int)+1:=by omega
 have hw5:(i:Int)≤(m:Int)+1:=by omega
 have hw6:(0:Int)≤(i:Int)+1:=by omega
 have hic:i≤c:=by omega
 go_enter Tryz.func55,Tryz.ntmps55
 go_upto_region 5 with (fail)
 go_region_law (refine step_append_room rfl (.tmp 22) (.tmp 25) 27 rfl 77 i0 5 Tryz.underlying27 HI.out HZ1.out g 0 i c (by simp [Act.eval,Act.put]) A (m-i) (c-(i+1)) (xs.drop ((i+1)*5)) (by simp [Act.eval,Act.put]) HDL.out HN.out HO1.out HRM.out HSP.out ?_;rw [← HW2.out,HMI.out])
 all_goals
  clear hw1 hw4 hw5 hw6 hA
  have hcl:=HCL.out
  go_wp2_with (simp only [hcl])
  go_ret
  have h3:=HW3.out
  have h0:=HW0.out
  have hblk:=h3.blk
  have hl1:=HL1.out
  have hzl:=HZL.out
  have hmc:=HMC.out
  have hcs:=HCS.out
  have hsz:(c1.toArray.toList.take (m*5)++(Builtin.zeroCells (Value.cells (.agg #[.int .i64 0,.int .i64 0,.string ⟨#[]⟩,.int .i64 0,.slice none 0 0])) 1).toList++c1.toArray.toList.drop (m*5+(Builtin.zeroCells (Value.cells (.agg #[.int .i64 0,.int .i64 0,.string ⟨#[]⟩,.int .i64 0,.slice none 0 0])) 1).toList.length)).length=cur.size:=by
   show (c1.take (m*5)++_++c1.drop (m*5+_)).length=_
   simp only [List.length_append,List.length_take,List.length_drop,hl1,hzl];omega
  refine ⟨g,c,_,et,rfl,hblk,by omega,?_,?_,.inl ⟨rfl,?_⟩,h3.os.trans h0.os,h3.tape.trans h0.tape,h3.output.trans h0.output,?_,?_,λ k _ hk=>(h3.other k hk).trans (h0.other k hk)⟩
  ·rw [List.size_toArray,hsz];exact hcs
  ·show (c1.take (m*5)++_++c1.drop (m*5+_)).take (m*5)=_
   rw [List.append_assoc,List.take_append_of_le_length (by rw [List.length_take,hl1];omega),List.take_take,Nat.min_self]
   exact HT1.out
  ·rw [List.size_toArray,hsz]
  ·rw [h3.size,h0.size];exact Nat.le_refl _
  ·rw [h3.drawn,h0.drawn];exact Nat.le_succ _
end Go.Proofs.YtbpnmbmdbblehaaGreat
namespace Go.Proofs.YtbpnmbmdbblehaaGreat
open Go Go.RowKit Go.GxYtbpnmbmdbblehaaGreat Go.Sort Go.Proofs Go.Shelf Go.Lib Go.AmYtbpnmbmdbblehaaGreat
def qk3 (ef:Nat→Bool):Nat→Nat→Int
 | 0,_=>-1
 | n+1,i=>cond (ef i) i (qk3 ef n (i+1))
theorem qwp (w:World):qeo w w:=⟨rfl,rfl,rfl,Nat.le_refl _,λ _ _=>rfl,Nat.le_refl _⟩
theorem qsJ {a b c:World} (h:qeo a b) (g:qeo b c):qeo a c :=
 ⟨g.os.trans h.os,g.tape.trans h.tape,g.output.trans h.output,Nat.le_trans h.size g.size,λ i hi=>(g.block i (Nat.lt_of_lt_of_le hi h.size)).trans (h.block i hi),Nat.le_trans h.drawn g.drawn⟩
variable {P:Program}
set_option maxHeartbeats 4000000 in
set_option maxRecDepth 1000000 in
theorem qI1 (hF:P.funcs[52]? = some Tryz.f52) (mixed:P.follows .mixedOrders=true)
  (t0:P.underlying 0=some (TypeDesc.tuple #[])) (a0:∀ w,(isAgg 0).run P w = .ok false w) (z0:∀ w,(Go.sizeOf 0).run P w = .ok 1 w) (v0:∀ w,(zeroValue 0).run P w = .ok (Value.tuple #[]) w)
  (t3:P.underlying 3=some (TypeDesc.int IntKind.i64)) (a3:∀ w,(isAgg 3).run P w = .ok false w) (z3:∀ w,(Go.sizeOf 3).run P w = .ok 1 w) (v3:∀ w,(zeroValue 3).run P w = .ok (Value.int IntKind.i64 0) w)
  (t4:P.underlying 4=some (TypeDesc.bool)) (a4:∀ w,(isAgg 4).run P w = .ok false w) (z4:∀ w,(Go.sizeOf 4).run P w = .ok 1 w) (v4:∀ w,(zeroValue 4).run P w = .ok (Value.bool false) w)
  (t22:P.underlying 27=some (TypeDesc.slice 77)) (a22:∀ w,(isAgg 27).run P w = .ok false w) (z22:∀ w,(Go.sizeOf 27).run P w = .ok 1 w) (v22:∀ w,(zeroValue 27).run P w = .ok (Value.slice none 0 0) w)
  (t36:P.underlying 81=some (TypeDesc.func #[77] #[4] false)) (a36:∀ w,(isAgg 81).run P w = .ok false w) (z36:∀ w,(Go.sizeOf 81).run P w = .ok 1 w) (v36:∀ w,(zeroValue 81).run P w = .ok (Value.nilFunc) w)
  (k:Nat) (aE:∀ w,(isAgg 77).run P w = .ok true w) (zE:∀ w,(Go.sizeOf 77).run P w = .ok k w)
  (w:World) (blk n cap:Nat) (q:Nat) (bp:Value) (hn:n≤100000) (hblk:blk<w.heap.size)
  (enc:Nat→List Value) (hk:∀ x,(enc x).length=k) (hH:HoldsK enc k w blk 0 (Array.range n))
  (eg:∀ args w,(callFunc q args).run P w = .ok (.enter q args) w) (ef:Nat→Bool)
  (heq:∀ W,qeo w W→∀ i,i<n→Calls P q #[.agg (enc i).toArray,bp] W λ e w'=>e = .returned (.bool (ef i))∧qeo W w') :
  Calls P 52 #[.slice (some ⟨blk,0,none⟩) n cap,.func (.func q) #[] #[bp]] w λ e w'=>e = .returned (.int .i64 (qk3 ef n 0))∧qeo w w':=by
 have u22:=run_underlying t22
 have hrs:(Array.range n).size=n:=Array.size_range
 have HC:Aside _:=heq
 have HH:Hid (HoldsK enc k w blk 0 (Array.range n)):=hH
 have HK:Hid (∀ x,(enc x).length=k):=hk
 clear heq hH hk
 have hnz:(n:Int)≤100000:=by omega
 generalize hr0:qk3 ef n 0=r
 have HR:=Lib.hid hr0
 clear hr0
 go_enter hF,Tryz.ntmps52
 go_wp2
 go_loopg [8] n (λ g1 vi wr=>∃ (i:Nat),vi = .int .i64 i∧i≤n∧n-i≤g1∧Hid (qeo w wr)∧Hid (qk3 ef (n-i) i=r))
 case atStart=>exact ⟨0,rfl,Nat.zero_le _,by omega,qwp w,by show _=_;rw [Nat.sub_zero];exact HR.out⟩
 case round =>
  obtain ⟨i,rfl,hin,hg1,HI,HE⟩:=hrel
  by_cases hlt:i<n
  ·have hltz:(i:Int)<(n:Int):=by omega
   have r1:(Array.range n)[i]! = i:=by rw [getElem!_pos _ _ (by rw [hrs];exact hlt)];simp
   have hHw:HoldsK enc k wr blk 0 (Array.range n):=by
    intro j hj
    obtain ⟨h1,h2⟩:=HH.out j hj
    have hb:=HI.out.block blk hblk
    exact ⟨by rw [show wr.cell? _=w.cell? _ from World.cell?_of_block hb];exact h1,by
     rw [← h2];unfold World.frozen?;rw [hb]⟩
   have lj:Sem.run P (loadCellsFrom ⟨blk,i*k,none⟩ 0 k #[]) wr = .ok (enc i).toArray wr:=by
    have:=HoldsK.cells hHw HK.out (i:=i) (by rw [hrs];exact hlt)
    rw [r1,Nat.zero_add] at this
    exact run_loadCellsFrom_list P _ _ _ k (HK.out _) this
   have hcg:=HC.out wr HI.out i hlt
   clear hHw r1
   have hE:=HE.out
   rw [show n-i=(n-(i+1))+1 by omega] at hE
   cases hev:ef i with
   | true =>
     have hE2:r=(i:Int):=by rw [← hE,qk3,hev];rfl
     have HE2:=Lib.hid hE2
     clear hE hE2
     rw [hev] at hcg
     go_wp2_with (go_at_fn q;refine hcg.mono ?_;rintro e w1 ⟨rfl,hid⟩)
     go_ret
     rw [HE2.out]
     exact ⟨rfl,qsJ HI.out hid⟩
   | false =>
     have hE2:qk3 ef (n-(i+1)) (i+1)=r:=by rw [← hE,qk3,hev];rfl
     have HE2:=Lib.hid hE2
     clear hE hE2
     rw [hev] at hcg
     go_wp2_with (go_at_fn q;refine hcg.mono ?_;rintro e w1 ⟨rfl,hid⟩)
     go_roundg (n-(i+1))
     case measure=>omega
     case rel=>exact ⟨i+1,by go_num,by omega,by omega,qsJ HI.out hid,HE2.out⟩
  ·obtain rfl:i=n:=by omega
   have hE:=HE.out
   rw [Nat.sub_self] at hE
   have HE2:=Lib.hid hE
   clear hE
   go_wp2
   go_ret
   rw [← HE2.out]
   exact ⟨rfl,HI.out⟩
set_option maxHeartbeats 4000000 in
set_option maxRecDepth 1000000 in
theorem qHU (p:Option Addr) (cap:Nat) (fv:Value) (w:World) :
  Calls Tryz.prog 52 #[.slice p 0 cap,fv] w λ e w'=>e = .returned (.int .i64 (-1))∧qeo w w':=by
 go_enter Tryz.func52,Tryz.ntmps52
 go_wp2
 refine wp_loop_rounds 1 ?_
 rw [rounds_succ]
 go_wp2
 go_ret
 exact ⟨rfl,qwp w⟩
set_option maxHeartbeats 4000000 in
set_option maxRecDepth 1000000 in
theorem qKx (w:World) (x n:Int) (c1 c2 c3 c4:Value) (h1:c1.oneCell'=true) (h2:c2.oneCell'=true) (h3:c3.oneCell'=true) (h4:c4.oneCell'=true) (b:Nat) (hN:w.cell? ⟨b,0,none⟩=some (.int .i64 n)) :
  Calls Tryz.prog 53 #[.agg #[.int .i64 x,c1,c2,c3,c4],.pointer (some ⟨b,0,none⟩)] w λ e w'=>e = .returned (.bool (x==n))∧qeo w w':=by
 have hb:b<w.heap.size:=qpD hN
 have hN2:∀ o,(w.alloc o).cell? ⟨b,0,none⟩=some (.int .i64 n) := λ o=>by
  rw [show (w.alloc o).cell? _=w.cell? _ from World.cell?_of_block (Below.heap_alloc _ _ _ hb)];exact hN
 go_enter Tryz.func53,Tryz.ntmps53
 go_wp2
 go_ret
 exact ⟨rfl,rfl,rfl,rfl,by simp,λ b hb=>Below.heap_alloc _ _ _ hb,Nat.le_refl _⟩
end Go.Proofs.YtbpnmbmdbblehaaGreat
namespace Go.AmYtbpnmbmdbblehaaGreat
open Go Go.RowKit Go.GxYtbpnmbmdbblehaaGreat Go.Sort Go.Proofs Go.Shelf Go.Proofs.YtbpnmbmdbblehaaGreat
abbrev ya:Ty := .pair (.int .i64) .term
def qjU (l:List (Val ya)) (n:Int) (i:Nat):Bool:=match l[i]? with
 | some x=>x.1==n
 | none=>false
noncomputable def yN (m:Nat) (l:List (Int × T)) (c:Int × T):Option Int:=cond (Nat.ble l.length 100000) (some (qk3 (qjU l c.1) l.length 0)) none
theorem qIw {σ : St} {g k:Nat} {r:List SA} {nb nr:Nat} {ys:List AV} {a:jz (.clo g k::r)} (h:dS σ (.clo g k::r) nb nr ys=some a):∃ cs ys',ys = .fn g cs::ys'∧cs.length=k∧dS σ r nb nr (cs++ys')=some a:=by
 cases ys with
 | nil=>simp [dS] at h
 | cons y ys =>
   simp only [dS] at h
   split at h
   ·rename_i cs hc
    obtain ⟨rfl,h1⟩:=quK hc
    exact ⟨cs,ys,rfl,h1,h⟩
   ·cases h
theorem qIB {σ : St} {τ : Ty} {r:List SA} {nb nr:Nat} {ys:List AV} {a:jz (.box [.val τ]::r)} (h:dS σ (.box [.val τ]::r) nb nr ys=some a):∃ ds ys',ys = .ptr nb 0::ys' ∧ σ.bx[nb]? = some ds∧yg τ (ds.take τ.size)=some a.1∧dS σ r (nb+1) nr ys'=some a.2:=by
 cases ys with
 | nil=>simp [dS] at h
 | cons y ys =>
   simp only [dS] at h
   cases hb:qlL σ [.val τ] nb nr y with
   | none=>rw [hb] at h;cases h
   | some p =>
     obtain ⟨v,n⟩:=p
     rw [hb] at h
     simp only at h
     unfold qlL at hb
     split at hb<;>try cases hb
     rename_i j
     split at hb<;>try cases hb
     rename_i ds hj hds
     have hj:=Nat.eq_of_beq_eq_true hj
     subst hj
     simp only [qe5] at hb
     split at hb<;>try cases hb
     rename_i x hx
     split at hb<;>cases hb
     rename_i hvs
     have hm:n=nr:=by
      cases hdd:ds.drop τ.size with
      | nil=>rw [hdd] at hvs;simp [qe5] at hvs;exact hvs.symm
      | cons z zs=>rw [hdd] at hvs;simp [qe5] at hvs
     subst hm
     split at h<;>cases h
     rename_i vs' hvs'
     exact ⟨ds,ys,rfl,hds,hx,hvs'⟩
set_option maxHeartbeats 1000000 in
theorem jw {m:Nat}:qW Go.Proofs.Tryz.prog 52 (xgP ⟨[.row ya,.clo 53 1,.box [.val ya]],λ x=>yN m x.1 x.2.1⟩):=by
 refine ⟨Q9 Go.Proofs.Tryz.func52 (by kernel_rfl),λ Γ σ w args vals r hi hr hp=>?_⟩
 unfold xgP at hp
 split at hp<;>try cases hp
 rename_i x hx
 split at hp<;>cases hp
 rename_i v0 hv0
 obtain ⟨l,c,_⟩:=x
 obtain ⟨y0,ys0,nr,rfl,hy0,hx1⟩:=qop hx
 obtain ⟨cs,ys1,rfl,hcs,hx2⟩:=qIw (r:=[.box [.val ya]]) hx1
 match cs,hcs with
 | [yp],_ =>
 obtain ⟨ds,ys2,he2,hds,hdv,hx3⟩:=qIB (τ := ya) (r:=[]) hx2
 obtain ⟨rfl,hbx,hrw⟩:=qjf hx3
 have he2:yp::ys1=[.ptr 0 0]:=he2
 cases he2
 clear hx hx1 hx2 hx3
 obtain ⟨u0,r0,rfl,hu0,hr⟩:=hr.uncons
 obtain ⟨u1,r1,rfl,hu1,hr⟩:=hr.uncons
 have:=hr.nil_inv
 subst this
 have hv0:cond (Nat.ble l.length 100000) (some (qk3 (qjU l c.1) l.length 0)) none=some v0:=hv0
 obtain ⟨hll,rfl⟩:=qdJ hv0
 have hll:l.length≤100000:=Nat.le_of_ble_eq_true hll
 obtain ⟨bp,rfl⟩:∃ bp,u1 = .func (.func 53) #[] #[.pointer (some ⟨Γ.β 0,0,none⟩)]:=by
  cases hu1 with
  | fn _ _ us hn hrr =>
    match us,hn with
    | [u],_ =>
      have:=hrr 0 _ u rfl rfl
      cases this with
      | ptr b o h=>exact ⟨0,rfl⟩
 have hbl:0 < Γ.nb:=by rw [hi.nb];omega
 have fin:∀ {vs:Array Value} {v:Int},Calls Go.Proofs.Tryz.prog 52 vs w (λ e w'=>e = .returned (.int .i64 v)∧qeo w w')→jB Go.Proofs.Tryz.prog Γ σ w 52 vs.toList (.v (.int .i64 v),none) := λ {vs v} h=>by
  refine Calls.mono (by simpa using h) ?_
  rintro e w' ⟨rfl,hid⟩
  have hb:Below w.heap.size w w':=⟨hid.os,hid.tape,hid.output,hid.size,hid.block⟩
  exact ⟨_,Γ,rfl,qc4 hb hid.drawn,hi.later hb,.v _ rfl,.refl _⟩
 have nil0:∀ (p:Option Addr) (cap:Nat),l=[]→jB Go.Proofs.Tryz.prog Γ σ w 52 [.slice p 0 cap,.func (.func 53) #[] #[.pointer (some ⟨Γ.β 0,0,none⟩)]] (.v (.int .i64 (qk3 (qjU l c.1) l.length 0)),none) := λ p cap h=>by
  subst h
  exact fin (qHU p cap _ w)
 rcases qdk hy0 with ⟨hnr,R,rfl,hR,hRk,hRf,hRd⟩ | ⟨hnr,hl0,hy⟩
 ·have H:=hi.row 0 R hR
  have hcl:R.c.length=l.length:=qT hRd
  have hlk:∀ e∈R.c,e.length=Ty.size ya := λ e he=>(H.len e he).trans hRk
  obtain ⟨p,cap,rfl,hcap,hrm⟩:=qpP hi hR hRk hRf hu0
  by_cases hl0:l=[]
  ·have hrc:R.c.length=0:=by rw [hcl,hl0];rfl
   rw [hrc]
   exact nil0 p cap hl0
  ·have hlpos:0<l.length:=List.length_pos_iff.2 hl0
   rcases hrm with h0 | ⟨rfl,hz,vs,et,hvs,hvsz,hfit,hca,hxl,h1⟩
   ·omega
   obtain ⟨n,hn⟩:∃ n,n=l.length:=⟨_,rfl⟩
   have hnc:R.c.length=n:=hcl.trans hn.symm
   rw [hnc] at hca hxl h1 hcap ⊢
   have hns:n*Ty.size ya≤vs.size:=Nat.le_trans (Nat.mul_le_mul_right _ hcap) hfit
   have hER:∀ {q:Nat} {y:Val ya},l[q]? = some y→RepL Γ (qm ya y) (Qa vs (Ty.size ya) q)∧∀ u∈Qa vs (Ty.size ya) q,u.oneCell'=true := λ hq=>qqR hnc hlk hRd hca hns hq
   have hlast:∀ i,i % n<n := λ i=>Nat.mod_lt _ (by omega)
   obtain ⟨enc,henc⟩:∃ enc:Nat→List Value,enc = λ i=>Qa vs (Ty.size ya) (i % n):=⟨_,rfl⟩
   have hek:∀ i,(enc i).length=Ty.size ya := λ i=>by rw [henc];exact qmy (hlast i) hns
   have hrange:(Array.range n).size=n:=Array.size_range
   have hvsb:w.heap[Γ.cur 0]? = some (.cells vs et (0,0)):=hvs
   have hH:HoldsK enc (Ty.size ya) w (Γ.cur 0) 0 (Array.range n):=by
    intro j hj
    rw [size_flatK,hrange] at hj
    obtain ⟨q1,q2,q3⟩:=qiK j (Ty.size ya) n hj
    have hjs:j<vs.size:=Nat.lt_of_lt_of_le hj hns
    constructor
    ·rw [get_flatK _ _ _ _ (by rw [hrange];exact hj)]
     have e1:(Array.range n)[j / (Ty.size ya)]! = j / (Ty.size ya):=by rw [getElem!_pos _ _ (by rw [hrange];exact q1)];simp
     rw [e1,henc]
     show _=some ((Qa vs (Ty.size ya) (j / (Ty.size ya) % n))[j % (Ty.size ya)]!)
     rw [Nat.mod_eq_of_lt q1]
     have e2:(Qa vs (Ty.size ya) (j / (Ty.size ya)))[j % (Ty.size ya)]? = some vs[j]:=by rw [qjE q3,q2];exact Array.getElem?_eq_getElem hjs
     rw [Nat.zero_add,Blk.cell hvs,List.getElem!_eq_getElem?_getD,e2,Array.getElem?_eq_getElem hjs]
     rfl
    ·exact Blk.free hvs _
   have hN:w.cell? ⟨Γ.β 0,0,none⟩=some (.int .i64 c.1):=by
    obtain ⟨cs,e,hh,hrep,_⟩:=hi.box 0 ds hds
    have hsub:=qjb hdv
    have hr5:RepL Γ (qm ya c) (cs.toList.take (Ty.size ya)):=hsub.rep (hrep.take _)
    obtain ⟨u,r,hu,hu1,_⟩:=(show RepL Γ (.v (.int .i64 c.1)::Jh c.2) _ from hr5).uncons
    have:=zu hu1
    subst this
    have h0:cs.toList[0]? = some (.int .i64 c.1):=by
     have:(cs.toList.take (Ty.size ya))[0]? = some (.int .i64 c.1):=by rw [hu];rfl
     rw [List.getElem?_take] at this
     split at this
     ·exact this
     ·cases this
    unfold World.cell?
    rw [hh]
    show cs[0]? = _
    rw [← Array.getElem?_toList];exact h0
   have heq:∀ W,qeo w W→∀ i,i<n→Calls Go.Proofs.Tryz.prog 53 #[.agg (enc i).toArray,.pointer (some ⟨Γ.β 0,0,none⟩)] W λ e w'=>e = .returned (.bool (qjU l c.1 i))∧qeo W w':=by
    intro W hid i hi'
    have hli:i<l.length:=by omega
    obtain ⟨q1,q2⟩:=hER (List.getElem?_eq_getElem hli)
    have he:enc i=Qa vs (Ty.size ya) i:=by rw [henc];show Qa _ _ (i % n)=_;rw [Nat.mod_eq_of_lt hi']
    rw [he]
    have hlen5:(Qa vs (Ty.size ya) i).length=5:=by rw [← he];exact hek i
    match hE:Qa vs (Ty.size ya) i,hlen5 with
    | [d0,d1,d2,d3,d4],_ =>
      rw [hE] at q1 q2
      obtain ⟨u,r,hu,hu1,_⟩:=(show RepL Γ (.v (.int .i64 l[i].1)::Jh l[i].2) _ from q1).uncons
      have:=zu hu1
      subst this
      cases hu
      have hb:(qjU l c.1 i)=(l[i].1==c.1):=by unfold qjU;rw [List.getElem?_eq_getElem hli]
      rw [hb]
      refine qKx W _ _ d1 d2 d3 d4 (q2 _ (by simp)) (q2 _ (by simp)) (q2 _ (by simp)) (q2 _ (by simp)) (Γ.β 0) ?_
      rw [show W.cell? _=w.cell? _ from World.cell?_of_block (hid.block _ (qpD hN))]
      exact hN
   have hcall:=qI1 (P:=Go.Proofs.Tryz.prog) Go.Proofs.Tryz.func52 (by kernel_rfl) Go.Proofs.Tryz.underlying0 Go.Proofs.Tryz.isAgg0 Go.Proofs.Tryz.sizeOf0 Go.Proofs.Tryz.zeroValue0 Go.Proofs.Tryz.underlying3 Go.Proofs.Tryz.isAgg3 Go.Proofs.Tryz.sizeOf3 Go.Proofs.Tryz.zeroValue3 Go.Proofs.Tryz.underlying4 Go.Proofs.Tryz.isAgg4 Go.Proofs.Tryz.sizeOf4 Go.Proofs.Tryz.zeroValue4 Go.Proofs.Tryz.underlying27 Go.Proofs.Tryz.isAgg27 Go.Proofs.Tryz.sizeOf27 Go.Proofs.Tryz.zeroValue27 Go.Proofs.Tryz.underlying81 Go.Proofs.Tryz.isAgg81 Go.Proofs.Tryz.sizeOf81 Go.Proofs.Tryz.zeroValue81 (Ty.size ya) Go.Proofs.Tryz.isAgg77 Go.Proofs.Tryz.sizeOf77
    w (Γ.cur 0) n cap 53 (.pointer (some ⟨Γ.β 0,0,none⟩)) (by omega) (Array.getElem?_eq_some_iff.1 hvsb).1 enc hek hH (λ args w=>qdE (Q9 Go.Proofs.Tryz.func53 (by kernel_rfl)) args w) (qjU l c.1) heq
   have:=fin hcall
   rw [← hn]
   exact this
 ·have hl0:l=[]:=hl0
  rcases hy with rfl | ⟨f,rfl,hf2⟩
  ·have hu0:=zu hu0
   subst hu0
   exact nil0 none 0 hl0
  ·cases hu0 with
   | sl _ _ _ a n cap b o us hn _ hf _ _ _ _ _ _ =>
     have hn:n=0:=hn
     rw [hn]
     exact nil0 a cap hl0
end Go.AmYtbpnmbmdbblehaaGreat
namespace Go.AmYtbpnmbmdbblehaaGreat
open Go Go.RowKit Go.GxYtbpnmbmdbblehaaGreat
noncomputable def yX (m:Nat) (l:List (Int × T)) (i j:Int):Option (Unit × List (Int × T) × Unit):=cond (inb j l.length&&(inb i l.length&&(ieq j (qi i 1)&&Nat.ble l.length 100000))) (some ((),l.take i.toNat++l.drop (i.toNat+1),())) none
theorem qdw {m:Nat}:qW Go.Proofs.Tryz.prog 55 (sgP ⟨[.row (.pair (.int .i64) .term),.val (.int .i64),.val (.int .i64)],[.one (.row (.pair (.int .i64) .term))],λ x=>yX m x.1 x.2.1 x.2.2.1⟩):=by
 refine qx4 (a := .pair (.int .i64) .term) (Q9 Go.Proofs.Tryz.func55 (by kernel_rfl)) Go.Proofs.YtbpnmbmdbblehaaGreat.delete_oneSlt (fn:=yX m) λ l i j r h=>?_
 obtain ⟨h1,h2⟩:=qdJ h
 simp only [Bool.and_eq_true] at h1
 obtain ⟨h3,h4,h5,h6⟩:=h1
 have h3:=of_decide_eq_true h3
 have h4:=of_decide_eq_true h4
 have h5:j=i+1:=by simpa [ieq,qi] using h5
 refine ⟨h5,h4.1,?_,Nat.le_of_ble_eq_true h6,h2.symm⟩
 omega
end Go.AmYtbpnmbmdbblehaaGreat
namespace Go.AmYtbpnmbmdbblehaaGreat
open Go Go.GxYtbpnmbmdbblehaaGreat
set_option linter.unusedVariables false
set_option maxRecDepth 100000
noncomputable section
abbrev Z1:=Option (Bool)
abbrev Z2:=Int→Z1
abbrev Z3:=List UInt8
abbrev Z4:=Z3→Int→Int→Z1
abbrev Z5:=Y8→Z1
abbrev Z6:=Option (((Int) × (Int) × Unit) × ((Int) × Unit))
abbrev Z7:=T→Int→Int→Int→Z6
abbrev Z8:=List (T)
abbrev Z9:=Int→Z8→Int→Int→Int→Int→Z6
abbrev Z10:=Option (Int)
abbrev Z11:=T→Z10
abbrev Z12:=Option (Y8 × (Int × (Int × Int)))
abbrev Z13:=List (Y8 × (Int × (Int × Int)))
abbrev Z14:=Z3→Z13→Int→Int→Z3→Int→Int→Int→Z12
abbrev Z15:=Z8→Int→Int→Int→Z3→Int→Z8→Z10
abbrev Z16:=Z8→Int→Int→Z10
abbrev Z17:=Int→Z8→Int→Int→Z10
abbrev Z18:=T→T→Z10
abbrev Z19:=Int→Int→Int→Z3→Int→Z8→Int→Z3→Int→Z8→Z10
abbrev Z20:=T→T→Z1
abbrev Z21:=Option (T)
abbrev Z22:=T→Z21
abbrev Z23:=Option (TL)
abbrev Z24:=(List (TL))→Int→(List (TL))→Int→Int→Z23
abbrev Z25:=(List (TL))→Int→Int→Z8→Z23
abbrev Z26:=Z8→Z8→Z8→Z23
abbrev Z27:=T→Z23
abbrev Z28:=Z8→Z8→Int→Int→Z23
abbrev Z29:=Z8→Int→Int→Int→Z3→Int→Int→Z3→Int→Z8→Z8→Z21
abbrev Z30:=Option ((T) × (Int))
abbrev Z31:=List (Int)
abbrev Z32:=Z31→Int→Int→Int→Z3→Int→Z8→Int→Z3→Int→Int→Z3→Int→Z8→Z8→Z30
abbrev Z33:=TL→Z23
abbrev Z34:=Z8→Int→Int→Z8→Z23
abbrev Z35:=Z8→Z8→Int→Int→Int→Z3→Int→Z8→Z30
abbrev Z36:=T→Z1
abbrev Z37:=Int→Int→Int→Z3→Int→Int→Z3→Int→Z8→Z8→Z21
abbrev Z38:=Option ((Int) × (Bool))
abbrev Z39:=List (T × Int)
abbrev Z40:=Z39→Int→Int→Int→Int→Z3→Int→Z8→Z38
abbrev Z41:=Option ((Unit) × ((List (T × Int)) × Unit))
abbrev Z42:=Option ((Unit) × ((List (T × Int)) × (Bool) × Unit))
abbrev Z43:=Z39→T→Int→Z42
abbrev Z44:=Int→Z8→Int→Int→Z39→Z42
abbrev Z45:=Option ((List (T × Int)) × (Int))
abbrev Z46:=T→Z45
abbrev Z47:=Z39→Z39→Int→Int→Z10
abbrev Z48:=Z39→Z10
abbrev Z49:=Y8→TL→Z21
abbrev Z50:=Z39→Int→Int→Int→Z3→Int→Z8→Z8→Z8→Z30
abbrev Z51:=Z39→Int→Int→Int→Int→Int→Z3→Int→Int→Z3→Int→Z8→Int→Z8→Z8→Z8→Z30
abbrev Z52:=Z39→Z30
abbrev Z53:=Z39→Int→Int→Z39→Z41
abbrev Z54:=Z39→Int→Int→Z10
abbrev Z55:=Z39→Int→Int→Z39→Z45
abbrev Z56:=Z39→Z39→Z45
abbrev Z57:=T→T→Z30
abbrev Z58:=T→Z30
abbrev Z59:=Z8→Int→Int→Int→Z3→Int→Z8→Int→Z3→Int→Int→Z3→Int→Z8→Z8→Z30
abbrev Z60:=Z8→Int→Int→Z1
abbrev Z61:=Option (((Int) × (List (T)) × Unit) × (Unit))
abbrev Z62:=T→Int→Z8→Z61
abbrev Z63:=Z8→Int→Int→Int→Z8→Z61
abbrev Z64:=Option ((Unit) × ((List (T)) × Unit))
abbrev Z65:=Int→Int→Z8→Z64
abbrev Z66:=Z31→Int→Int→Int→Z3→Int→Z8→Int→Z3→Int→Z8→Z30
abbrev Z67:=Option ((T × (Int × ((List (Int × T)) × Int))) × (Int))
abbrev Z68:=T→Z67
abbrev Z69:=Int→Int→Int→Z3→Int→Int→Z3→Int→Z8→Z8→Z30
abbrev Z70:=Int→Int→Int→Z3→Int→Z8→Z10
abbrev Z71:=Int→Int→Z3→Int→Z8→Int→Z3→Int→Z8→Z10
abbrev Z72:=List (Int × T)
abbrev Z73:=Int→Z72→Int→Int→Int→Z3→Int→Z8→Int→Z72→Int→Z10
abbrev Z74:=T × (Int × ((List (Int × T)) × Int))
abbrev Z75:=Z74→Z10
abbrev Z76:=Option ((Unit) × (((T) × (Int) × (List (Int × T)) × (Int) × Unit) × Unit))
abbrev Z77:=Z72→Int→Int→Int→Z3→Int→Z8→Int→Z72→Int→Int→Z3→Int→Int→Int→Z8→Z72→Z72→Z76
abbrev Z78:=Option ((T) × (Bool))
abbrev Z79:=Option ((T × (Int × ((List (Int × T)) × Int))) × ((T) × (Int)))
abbrev Z80:=Int→Int→Z3→Int→Z8→Int→Z3→Int→Int→Int→Int→Z3→Int→Int→Z3→Int→Z8→Int→Int→Z8→Z72→Z8→Z72→Z79
abbrev Z81:=Option (Y8)
abbrev Z82:=Z3→Int→Z81
abbrev Z83:=Z3→Int→Z1
abbrev Z84:=Option ((T) × ((Y8) × (Bool)))
abbrev Z85:=Z3→Z3→Int→Int→Z3→Int→Z8→Int→Z3→Int→Z8→Z84
abbrev Z86:=Y8→Int→Z84
abbrev Z87:=Z3→Int→Int→Z3→Int→Int→Z3→Int→Z8→Z8→Z84
abbrev Z88:=Int→Int→Z3→Int→Z8→Z10
abbrev Z89:=Option (List (Y8 × (Int × (Int × Int))))
abbrev Z90:=Z3→Z13→Int→Z10
abbrev Z91:=Z13→Int→Int→Z3→Int→Z8→Z1
abbrev Z92:=Int→Int→Z3→Int→Z8→Z1
abbrev Z93:=Z8→Int→Int→Z3→Int→Z8→Z1
abbrev Z94:=Z8→Bool→Int→Int→Z3→Int→Z8→Z8→Z23
abbrev Z95:=Z8→Int→Int→Z3→Int→Z8→Z8→Z23
abbrev Z96:=Z8→Z8→Int→Z23
abbrev Z97:=Z8→Int→Int→Z3→Int→Z8→Z23
abbrev Z98:=Z8→Int→Int→Z3→Int→Z8→Z10
abbrev Z99:=Z8→Z8→Int→Int→Z3→Int→Z8→Z30
abbrev qKd:=Int→Int→Int→Z3→Int→Z8→Z1
abbrev qJ6:=Int→Bool→Int→Int→Z3→Int→Z8→Z39→Z39→Z41
abbrev qyv:=Z39→T→Int→Z41
abbrev qJG:=Int→Int→Int→Z3→Int→Z8→Z39→Z41
abbrev qCV:=Z39→Int→Z10
abbrev qk2:=Z39→Int→Z8→Z23
abbrev qk7:=Z39→Int→Int→Z8→Z23
abbrev qKm:=Z39→Int→Z39→Z45
abbrev qKa:=Int→Int→Z3→Int→Z8→Int→Z3→Int→Z8→Z8→Z30
abbrev qJL:=Int→Int→Z3→Int→Z8→Z8→Z23
abbrev qI9:=Z8→Int→Z1
abbrev qJe:=Int→Z8→Int→Z8→Z23
abbrev qJp:=Int→Int→Int→Z3→Int→Z8→Int→Z72→Int→Z10
abbrev qGm:=Option ((T × (Int × ((List (Int × T)) × Int))) × ((Int × T) × (Int)))
abbrev qJI:=Z74→T→qGm
abbrev qDa:=Option (List (Int × T))
abbrev qJU:=Int→Int→Int→Z3→Int→Z8→Int→Z72→Int→Z72→qDa
abbrev qDq:=T→Int→Z10
abbrev qKq:=Int→Int→Z3→Int→Z8→Int→Z72→Int→Z8→Z23
abbrev qKl:=Z74→Z23
abbrev qJv:=Z74→Z1
abbrev qJK:=Z8→Z8→Int→Z1
abbrev qJr:=Z72→Int→Int→Z8→Z23
abbrev qJa:=Z31→Z31→Int→Int→Z1
abbrev qqX:=Option (List Int)
abbrev qJx:=Z72→Int→Int→Z31→qqX
abbrev qJw:=Z74→qqX
abbrev qKb:=Int→Int→Z3→Int→Z8→Int→Z72→Int→Z31→qqX
abbrev qKr:=Int→Int→Z3→Int→Z8→Int→Z72→Int→Int→Z3→Int→Z8→Int→Z72→Int→Z1
abbrev qJy:=Z74→T→Z67
def qjS (m:Nat) (a0:Int):Z1 :=
 let j1:Z1:=(let j2:Z1:=(let j3:Z1:=(cond (ieq a0 95) (some true) (some (ieq a0 35)));cond (ile 48 a0) (cond (ile a0 57) (some true) j3) j3);cond (ile 65 a0) (cond (ile a0 90) (some true) j2) j2);
 cond (ile 97 a0) (cond (ile a0 122) (some true) j1) j1
def qfz:Nat→Z2:=qf (λ _=>none) λ m _=>qjS m
def qdI (m:Nat) (K1:Z4) (a0:Y8):Z1 :=
 cond (qC a0 []) (some false) (cond (ilt 24 (List.length a0)) (some false) (qa (qd a0 0) λ v1=>qa (qfz m ((UInt8.toNat v1:Nat):Int)) λ v2=>cond (qb v2) (some false)
 (qa (qd a0 0) λ v3=>let j1:Z1:=(qa (qd a0 0) λ v5=>cond (ieq ((UInt8.toNat v5:Nat):Int) 95) (some false) (qa (qd a0 0) λ v6=>cond (ieq ((UInt8.toNat v6:Nat):Int) 35) (some false)
 (K1 a0 (List.length a0) 0)));cond (ile 48 ((UInt8.toNat v3:Nat):Int)) (qa (qd a0 0) λ v4=>cond (ile ((UInt8.toNat v4:Nat):Int) 57) (some false) j1) j1)))
def qee (m:Nat) (K1:Z4) (x0:List UInt8) (x1 x2:Int):Z1 :=
 cond (ilt x2 x1) (qa (qd x0 x2) λ v1=>qa (qfz m ((UInt8.toNat v1:Nat):Int)) λ v2=>cond (qb v2) (some false) (K1 x0 x1 (iw .i64 (qi x2 1)))) (some true)
def jH (m:Nat):=qH (λ _ _ _=>none) λ ih=>qee m ih
def qa5:Nat→Z5:=qf (λ _=>none) λ m _=>qdI m (jH m m)
def qe3 (m:Nat) (q_term_check:Z7) (K1:Z9) (a0:T) (a1 a2 a3:Int):Z6 :=
 let j1:Z6:=(qa (qa5 m (T.name a0)) λ v1=>cond (qb v1) (some ((iw .i64 (qi a2 1),qk8 a3 a1,()),(2,()))) (cond (ilt 8 (List.length (T.kids a0)))
 (some ((iw .i64 (qi a2 1),qk8 a3 a1,()),(3,()))) (K1 a1 (T.kids a0) (List.length (T.kids a0)) 0 (iw .i64 (qi a2 1)) (qk8 a3 a1))));let j2:Z6:=(some ((iw .i64 (qi a2 1),qk8 a3 a1,()),(1,())));
 let j3:Z6:=(cond (ilt (T.sort a0) 0) j2 (cond (ilt 5 (T.sort a0)) j2 (cond (ilt 0 (List.length (T.kids a0))) j2 j1)));cond (ieq (T.kind a0) 1) j3 (cond (ieq (T.kind a0) 2) j3 (cond (ieq (T.kind a0) 3)
 (cond (qb (ieq (T.sort a0) 0)) j2 j1) j2))
def qeN (m:Nat) (q_term_check:Z7) (K1:Z9) (x0:Int) (x1:List (T)) (x2 x3 x4 x5:Int):Z6 :=
 cond (ilt x3 x2) (qa (qd x1 x3) λ v1=>qa (q_term_check (re v1) (iw .i64 (qi x0 1)) x4 x5) λ v2=>cond (qb (ieq v2.2.1 0)) (some ((v2.1.1,v2.1.2.1,()),(v2.2.1,())))
 (K1 x0 x1 x2 (iw .i64 (qi x3 1)) v2.1.1 v2.1.2.1)) (some ((x4,x5,()),(0,())))
def yU (m:Nat) (q_term_check:Z7):=qH (λ _ _ _ _ _ _=>none) λ ih=>qeN m q_term_check ih
def zG:Nat→Z7:=qf (λ _ _ _ _=>none) λ m q_term_check=>qe3 m q_term_check (yU m q_term_check m)
def qhZ (m:Nat) (a0:T):Z10 :=
 qa (zG m (re a0) 1 0 0) λ v1=>cond (qb (ieq v1.2.1 0)) (some v1.2.1) (cond (ilt 400 v1.1.1) (some 3) (cond (ilt 40 v1.1.2.1) (some 3) (some 0)))
def zc:Nat→Z11:=qf (λ _=>none) λ m _=>qhZ m
def qb6 (m:Nat) (K1:Z14) (a0:Y8):Z12 :=
 qa (qg1 0) λ v1=>K1 a0 v1 (List.length v1) 0 [] 0 0 0
def qb4 (m:Nat) (K1:Z14) (x0:List UInt8) (x1:List (Y8 × (Int × (Int × Int)))) (x2 x3:Int) (x4:List UInt8) (x5 x6 x7:Int):Z12 :=
 cond (ilt x3 x2) (qa (qd x1 x3) λ v1=>cond (qC v1.1 x0) (some (v1.1,(v1.2.1,(v1.2.2.1,v1.2.2.2)))) (K1 x0 x1 x2 (iw .i64 (qi x3 1)) x4 x5 x6 x7)) (some ([],(0,(0,0))))
def Qn (m:Nat):=qH (λ _ _ _ _ _ _ _ _=>none) λ ih=>qb4 m ih
def qaw:Nat→(Y8→Z12):=qf (λ _=>none) λ m _=>qb6 m (Qn m m)
def qcH (m:Nat) (q_theory_check:Z11) (K1:Z15) (K2:Z16) (a0:T):Z10 :=
 cond (qb (ieq (T.kind a0) 3)) (some 0) (qa (qaw m (T.name a0)) λ v1=>cond (ieq v1.2.2.2 0) (some 10) (cond (ilt (List.length (T.kids a0)) v1.2.1) (some 6)
 (cond (ilt v1.2.2.1 (List.length (T.kids a0))) (some 6) (cond (qC (T.name a0) [115,107]) (K1 (T.kids a0) (List.length (T.kids a0)) 0 (T.kind a0) (T.name a0) (T.sort a0) (T.kids a0))
 (cond (qC (T.name a0) [115,104,107]) (K1 (T.kids a0) (List.length (T.kids a0)) 0 (T.kind a0) (T.name a0) (T.sort a0) (T.kids a0)) (cond (qC (T.name a0) [110,101,119]) (qa (qd (T.kids a0) 0) λ v2 =>
 cond (qb (ieq (T.kind v2) 2)) (some 10) (K2 (T.kids a0) (List.length (T.kids a0)) 0)) (K2 (T.kids a0) (List.length (T.kids a0)) 0)))))))
def qcG (m:Nat) (q_theory_check:Z11) (K1:Z15) (K2:Z16) (x0:List (T)) (x1 x2 x3:Int) (x4:List UInt8) (x5:Int) (x6:List (T)):Z10 :=
 cond (ilt x2 x1) (qa (qd x0 x2) λ v1=>cond (ieq (T.kind v1) 3) (some 10) (cond (qb (ieq (T.sort v1) 1)) (some 10) (K1 x0 x1 (iw .i64 (qi x2 1)) x3 x4 x5 x6))) (K2 x6 (List.length x6) 0)
def qcV (m:Nat) (q_theory_check:Z11) (K1:Z15) (K2:Z16) (x0:List (T)) (x1 x2:Int):Z10 :=
 cond (ilt x2 x1) (qa (qd x0 x2) λ v1=>qa (q_theory_check (re v1)) λ v2=>cond (qb (ieq v2 0)) (some v2) (K2 x0 x1 (iw .i64 (qi x2 1)))) (some 0)
def qO (m:Nat) (q_theory_check:Z11):=qH ((λ _ _ _ _ _ _ _=>none,λ _ _ _=>none)) λ ih=>(qcG m q_theory_check ih.1 ih.2,qcV m q_theory_check ih.1 ih.2)
def qA:Nat→Z11:=qf (λ _=>none) λ m q_theory_check=>qcH m q_theory_check (qO m q_theory_check m).1 (qO m q_theory_check m).2
def qfW (m:Nat) (a0:T):Z10 :=
 qa (zc m (re a0)) λ v1=>cond (qb (ieq v1 0)) (some v1) (qa (qA m (re a0)) λ v2=>some v2)
def qdn:Nat→Z11:=qf (λ _=>none) λ m _=>qfW m
def qjh (m:Nat) (a0 a1:Int):Z10 :=
 cond (ilt a0 a1) (some (-1)) (cond (ilt a1 a0) (some 1) (some 0))
def qbH:Nat→(Int→Int→Z10):=qf (λ _ _=>none) λ m _=>qjh m
def qgd (m:Nat) (q_term_Size:Z11) (K1:Z17) (a0:T):Z10 :=
 K1 1 (T.kids a0) (List.length (T.kids a0)) 0
def qfD (m:Nat) (q_term_Size:Z11) (K1:Z17) (x0:Int) (x1:List (T)) (x2 x3:Int):Z10 :=
 cond (ilt x3 x2) (qa (qd x1 x3) λ v1=>qa (q_term_Size (re v1)) λ v2=>K1 (iw .i64 (qi x0 v2)) x1 x2 (iw .i64 (qi x3 1))) (some x0)
def qaW (m:Nat) (q_term_Size:Z11):=qH (λ _ _ _ _=>none) λ ih=>qfD m q_term_Size ih
def jk:Nat→Z11:=qf (λ _=>none) λ m q_term_Size=>qgd m q_term_Size (qaW m q_term_Size m)
def qcO (m:Nat) (q_term_Compare:Z18) (K1:Z19) (a0 a1:T):Z10 :=
 qa (jk m (re a0)) λ v1=>qa (jk m (re a1)) λ v2=>qa (qbH m v1 v2) λ v3=>let j1:Z10:=(qa (qbH m (List.length (T.kids a0)) (List.length (T.kids a1))) λ v7 =>
 K1 v7 0 (T.kind a0) (T.name a0) (T.sort a0) (T.kids a0) (T.kind a1) (T.name a1) (T.sort a1) (T.kids a1));let j2:Z10:=(qa (qbH m (T.sort a0) (T.sort a1)) λ v6=>cond (ieq v6 0) j1 (K1 v6 0 (T.kind a0)
 (T.name a0) (T.sort a0) (T.kids a0) (T.kind a1) (T.name a1) (T.sort a1) (T.kids a1)));let j3:Z10:=(qa (strings_Compare 0 (T.name a0) (T.name a1)) λ v5 =>
 cond (ieq v5 0) j2 (cond (ieq v5 0) j1 (K1 v5 0 (T.kind a0) (T.name a0) (T.sort a0) (T.kids a0) (T.kind a1) (T.name a1) (T.sort a1) (T.kids a1))));cond (ieq v3 0) (qa (qbH m (T.kind a0) (T.kind a1)) λ v4 =>
 cond (ieq v4 0) j3 (cond (ieq v4 0) j2 (cond (ieq v4 0) j1 (K1 v4 0 (T.kind a0) (T.name a0) (T.sort a0) (T.kids a0) (T.kind a1) (T.name a1) (T.sort a1) (T.kids a1)))))
 (cond (ieq v3 0) j3 (cond (ieq v3 0) j2 (cond (ieq v3 0) j1 (K1 v3 0 (T.kind a0) (T.name a0) (T.sort a0) (T.kids a0) (T.kind a1) (T.name a1) (T.sort a1) (T.kids a1)))))
def qaB (m:Nat) (q_term_Compare:Z18) (K1:Z19) (x0 x1 x2:Int) (x3:List UInt8) (x4:Int) (x5:List (T)) (x6:Int) (x7:List UInt8) (x8:Int) (x9:List (T)):Z10 :=
 cond (ieq x0 0) (cond (ilt x1 (List.length x5)) (qa (qd x5 x1) λ v1=>qa (qd x9 x1) λ v2=>qa (q_term_Compare (re v1) (re v2)) λ v3=>K1 v3 (iw .i64 (qi x1 1)) x2 x3 x4 x5 x6 x7 x8 x9) (some x0))
 (some x0)
def js (m:Nat) (q_term_Compare:Z18):=qH (λ _ _ _ _ _ _ _ _ _ _=>none) λ ih=>qaB m q_term_Compare ih
def qt:Nat→Z18:=qf (λ _ _=>none) λ m q_term_Compare=>qcO m q_term_Compare (js m q_term_Compare m)
def qgO (m:Nat) (a0 a1:T):Z1 :=
 qa (qt m (re a0) (re a1)) λ v1=>some (ieq v1 0)
def Qc:Nat→Z20:=qf (λ _ _=>none) λ m _=>qgO m
def qj7 (m:Nat) (a0:T) (a1:Y8):Z1 :=
 cond (ieq (T.kind a0) 3) (some (qC (T.name a0) a1)) (some false)
def yw:Nat→(T→Y8→Z1):=qf (λ _ _=>none) λ m _=>qj7 m
def qen (m:Nat) (a0:T):Z21 :=
 qa (qd (T.kids a0) 0) λ v1=>let j1:Z21:=(some (re a0));let j2:Z21:=(qa (qd (T.kids v1) 0) λ v4=>some (re v4));let j3:Z21:=(cond (qC (T.name a0) [114,101,97,100])
 (qa (yw m (re v1) [115,105,103,110]) λ v24=>cond v24 j2 j1) j1);let j4:Z21:=(qa (yw m (re v1) [112,97,105,114]) λ v5=>cond v5 (qa (qd (T.kids v1) 1) λ v6 =>
 some (re v6)) j1);let j5:Z21:=(qa (yw m (re v1) [112,97,105,114]) λ v3=>cond v3 j2 j1);cond (ilt 1 (List.length (T.kids a0))) (qa (qd (T.kids a0) 1) λ v2 =>
 cond (qC (T.name a0) [102,115,116]) j5 (cond (qC (T.name a0) [115,110,100]) j4 (cond (qC (T.name a0) [100,101,99]) (qa (yw m (re v1) [101,110,99]) λ v7 =>
 cond v7 (qa (qd (T.kids v1) 1) λ v8=>qa (Qc m (re v8) (re v2)) λ v9=>cond v9 j2 j1) j1) (cond (qC (T.name a0) [97,100,101,99]) (qa (yw m (re v1) [97,101,110,99]) λ v11 =>
 cond v11 (qa (qd (T.kids v1) 1) λ v12=>qa (yw m (re v12) [112,107]) λ v13=>cond v13 (qa (qd (T.kids v1) 1) λ v14=>qa (qd (T.kids v14) 0) λ v15=>qa (Qc m (re v15)
 (re v2)) λ v16=>cond v16 j2 j1) j1) j1) (cond (qC (T.name a0) [111,112,101,110]) (qa (yw m (re v1) [115,105,103,110]) λ v18=>cond v18 (qa (yw m (re v2) [112,107]) λ v19 =>
 cond v19 (qa (qd (T.kids v1) 1) λ v20=>qa (qd (T.kids v2) 0) λ v21=>qa (Qc m (re v20) (re v21)) λ v22=>cond v22 j2 j1) j1) j1) j3)))))
 (cond (qC (T.name a0) [102,115,116]) j5 (cond (qC (T.name a0) [115,110,100]) j4 (cond (qC (T.name a0) [100,101,99]) (qa (yw m (re v1) [101,110,99]) λ v30 =>
 cond v30 (qa (qd (T.kids v1) 1) λ v31=>qa (Qc m (re v31) (T.mk 0 [] 0 [])) λ v32=>cond v32 j2 j1) j1) (cond (qC (T.name a0) [97,100,101,99])
 (qa (yw m (re v1) [97,101,110,99]) λ v34=>cond v34 (qa (qd (T.kids v1) 1) λ v35=>qa (yw m (re v35) [112,107]) λ v36=>cond v36 (qa (qd (T.kids v1) 1) λ v37 =>
 qa (qd (T.kids v37) 0) λ v38=>qa (Qc m (re v38) (T.mk 0 [] 0 [])) λ v39=>cond v39 j2 j1) j1) j1) (cond (qC (T.name a0) [111,112,101,110])
 (qa (yw m (re v1) [115,105,103,110]) λ v41=>cond v41 (qa (yw m (T.mk 0 [] 0 []) [112,107]) λ v42=>cond v42 (qa (qd (T.kids v1) 1) λ v43=>none) j1) j1) j3)))))
def J0:Nat→Z22:=qf (λ _=>none) λ m _=>qen m
def yz (m:Nat) (K1:Z24) (K2:Z25) (a0:List TL):Z23 :=
 K1 a0 0 a0 (List.length a0) 0
def yE (m:Nat) (K1:Z24) (K2:Z25) (x0:List (TL)) (x1:Int) (x2:List (TL)) (x3 x4:Int):Z23 :=
 cond (ilt x4 x3) (qa (qd x2 x4) λ v1=>cond (ilt (iw .i64 (qi x1 (List.length v1))) 0) none (K1 x0 (iw .i64 (qi x1 (List.length v1))) x2 x3 (iw .i64 (qi x4 1))))
 (qa (yv 0 x1) λ v2=>K2 x0 (List.length x0) 0 v2.2.1)
def yA (m:Nat) (K1:Z24) (K2:Z25) (x0:List (TL)) (x1 x2:Int) (x3:List (T)):Z23 :=
 cond (ilt x2 x1) (qa (qd x0 x2) λ v1=>cond (zN (List.length x3+List.length v1) 56) (K2 x0 x1 (iw .i64 (qi x2 1)) (x3++v1)) none) (some x3)
def ql (m:Nat):=qH ((λ _ _ _ _ _=>none,λ _ _ _ _=>none)) λ ih=>(yE m ih.1 ih.2,yA m ih.1 ih.2)
def zd:Nat→((List TL)→Z23):=qf (λ _=>none) λ m _=>yz m (ql m m).1 (ql m m).2
def qgs (m:Nat) (K1:Z16) (a0 a1:TL):Z10 :=
 cond (ilt 200 (List.length a0)) (some 3) (qa (zd m [a0,a1]) λ v1=>K1 v1 (List.length v1) 0)
def qfP (m:Nat) (K1:Z16) (x0:List (T)) (x1 x2:Int):Z10 :=
 cond (ilt x2 x1) (qa (qd x0 x2) λ v1=>qa (zc m (re v1)) λ v2=>cond (qb (ieq v2 0)) (some v2) (K1 x0 x1 (iw .i64 (qi x2 1)))) (some 0)
def qa7 (m:Nat):=qH (λ _ _ _=>none) λ ih=>qfP m ih
def qhI:Nat→(TL→TL→Z10):=qf (λ _ _=>none) λ m _=>qgs m (qa7 m m)
def qhq (m:Nat) (K1:Z26) (a0 a1:TL):Z23 :=
 K1 a0 a1 []
def qhp (m:Nat) (K1:Z26) (x0 x1 x2:List (T)):Z23 :=
 let j1:Z23:=(cond (zN (List.length x2+List.length x0) 56) (cond (zN (List.length (x2++x0)+List.length x1) 56) (some ((x2++x0)++x1)) none) none);cond (ilt 0 (List.length x0))
 (cond (ilt 0 (List.length x1)) (qa (qd x0 0) λ v1=>qa (qd x1 0) λ v2=>qa (qt m (re v1) (re v2)) λ v3=>cond (ilt v3 0) (qa (qd x0 0) λ v4=>cond (zN (List.length x2+1) 56)
 (cond (inb (List.length x0) (List.length x0)) (cond (inb 1 (Int.toNat (List.length x0))) (K1 (yY x0 1 (List.length x0)) x1 (x2++[re v4])) none) none) none) (cond (ilt 0 v3) (qa (qd x1 0) λ v5 =>
 cond (zN (List.length x2+1) 56) (cond (inb (List.length x1) (List.length x1)) (cond (inb 1 (Int.toNat (List.length x1))) (K1 x0 (yY x1 1 (List.length x1)) (x2++[re v5])) none) none) none)
 (cond (inb (List.length x0) (List.length x0)) (cond (inb 1 (Int.toNat (List.length x0))) (cond (inb (List.length x1) (List.length x1)) (cond (inb 1 (Int.toNat (List.length x1))) (K1 (yY x0 1 (List.length x0))
 (yY x1 1 (List.length x1)) x2) none) none) none) none))) j1) j1
def qbN (m:Nat):=qH (λ _ _ _=>none) λ ih=>qhp m ih
def qgV:Nat→(TL→TL→Z23):=qf (λ _ _=>none) λ m _=>qhq m (qbN m m)
def qcZ (m:Nat) (q_xor_summands:Z27) (K1:Z28) (a0:T):Z23 :=
 let j1:Z23:=(cond (ieq (T.kind a0) 3) (cond (qC (T.name a0) [120,111,114]) (K1 [] (T.kids a0) (List.length (T.kids a0)) 0) (some [re a0])) (some [re a0]));cond (ieq (T.kind a0) 3)
 (cond (qC (T.name a0) [122,101,114,111]) (cond (ieq (List.length (T.kids a0)) 0) (some []) j1) j1) j1
def qcK (m:Nat) (q_xor_summands:Z27) (K1:Z28) (x0 x1:List (T)) (x2 x3:Int):Z23 :=
 cond (ilt x3 x2) (qa (qd x1 x3) λ v1=>qa (q_xor_summands (re v1)) λ v2=>qa (qgV m x0 v2) λ v3=>K1 v3 x1 x2 (iw .i64 (qi x3 1))) (some x0)
def jR (m:Nat) (q_xor_summands:Z27):=qH (λ _ _ _ _=>none) λ ih=>qcK m q_xor_summands ih
def zR:Nat→Z27:=qf (λ _=>none) λ m q_xor_summands=>qcZ m q_xor_summands (jR m q_xor_summands m)
def qeW (m:Nat) (q_term_clone:Z22) (K1:Z29) (a0:T):Z21 :=
 K1 (T.kids a0) (List.length (T.kids a0)) 0 (T.kind a0) (T.name a0) (T.sort a0) 0 [] 0 [] []
def qeR (m:Nat) (q_term_clone:Z22) (K1:Z29) (x0:List (T)) (x1 x2 x3:Int) (x4:List UInt8) (x5 x6:Int) (x7:List UInt8) (x8:Int) (x9 x10:List (T)):Z21 :=
 cond (ilt x2 x1) (qa (qd x0 x2) λ v1=>qa (q_term_clone (re v1)) λ v2=>cond (zN (List.length x9+1) 56) (K1 x0 x1 (iw .i64 (qi x2 1)) x3 x4 x5 x6 x7 x8 (x9++[re v2]) x10) none)
 (some (T.mk x3 x4 x5 x9))
def J6 (m:Nat) (q_term_clone:Z22):=qH (λ _ _ _ _ _ _ _ _ _ _ _=>none) λ ih=>qeR m q_term_clone ih
def yk:Nat→Z22:=qf (λ _=>none) λ m q_term_clone=>qeW m q_term_clone (J6 m q_term_clone m)
def qcR (m:Nat) (K1:Z32) (a0:T) (a1:List Int) (a2:T):Z30 :=
 qa (yk m (re a0)) λ v1=>K1 a1 (List.length a1) 0 (T.kind a2) (T.name a2) (T.sort a2) (T.kids a2) 0 [] 0 (T.kind v1) (T.name v1) (T.sort v1) (T.kids v1) []
def qfH (m:Nat) (K1:Z32) (x0:List (Int)) (x1 x2 x3:Int) (x4:List UInt8) (x5:Int) (x6:List (T)) (x7:Int) (x8:List UInt8) (x9 x10:Int) (x11:List UInt8) (x12:Int) (x13 x14:List (T)):Z30 :=
 cond (ilt x2 x1) (qa (qd x0 x2) λ v1=>cond (ilt v1 0) (some (T.mk 0 [] 0 [],7)) (cond (ile (List.length x13) v1) (some (T.mk 0 [] 0 [],7)) (qa (qd x13 v1) λ v2=>none)))
 (qa (yk m (T.mk x3 x4 x5 x6)) λ v3=>some (re v3,0))
def J2 (m:Nat):=qH (λ _ _ _ _ _ _ _ _ _ _ _ _ _ _ _=>none) λ ih=>qfH m ih
def qdh:Nat→(T→(List Int)→T→Z30):=qf (λ _ _ _=>none) λ m _=>qcR m (J2 m m)
def qiM (m:Nat) (q_xor_own:Z33) (K1:Z34) (a0:TL):Z23 :=
 cond (qDb (List.length a0) 56) (K1 a0 (List.length a0) 0 (List.replicate (Int.toNat (List.length a0)) (T.mk 0 [] 0 []):List (T))) none
def qiT (m:Nat) (q_xor_own:Z33) (K1:Z34) (x0:List (T)) (x1 x2:Int) (x3:List (T)):Z23 :=
 cond (ilt x2 x1) (qa (qd x0 x2) λ v1=>qa (qdh m (re v1) [] (re v1)) λ v2=>qa (qd x3 x2) λ v3=>qa (q_xor_own (T.kids v1)) λ v4=>qa (qd (jJ x3 x2 (re v2.1)) x2) λ v5 =>
 cond (ieq (List.length (T.kids v1)) 0) (qa (qd (jJ (jJ x3 x2 (re v2.1)) x2 (T.mk (T.kind v5) (T.name v5) (T.sort v5) v4)) x2) λ v6=>K1 x0 x1 (iw .i64 (qi x2 1))
 (jJ (jJ (jJ x3 x2 (re v2.1)) x2 (T.mk (T.kind v5) (T.name v5) (T.sort v5) v4)) x2 (T.mk (T.kind v6) (T.name v6) (T.sort v6) []))) (K1 x0 x1 (iw .i64 (qi x2 1)) (jJ (jJ x3 x2 (re v2.1)) x2 (T.mk (T.kind v5)
 (T.name v5) (T.sort v5) v4)))) (some x3)
def qde (m:Nat) (q_xor_own:Z33):=qH (λ _ _ _ _=>none) λ ih=>qiT m q_xor_own ih
def QX:Nat→Z33:=qf (λ _=>none) λ m q_xor_own=>qiM m q_xor_own (qde m q_xor_own m)
def qiS (m:Nat) (K1:Z35) (a0:TL):Z30 :=
 qa (qhI m a0 []) λ v1=>cond (qb (ieq v1 0)) (some (T.mk 0 [] 0 [],v1)) (K1 [] a0 (List.length a0) 0 0 [] 0 [])
def qiQ (m:Nat) (K1:Z35) (x0 x1:List (T)) (x2 x3 x4:Int) (x5:List UInt8) (x6:Int) (x7:List (T)):Z30 :=
 cond (ilt x3 x2) (qa (qd x1 x3) λ v1=>qa (zR m (re v1)) λ v2=>qa (qgV m x0 v2) λ v3=>K1 v3 x1 x2 (iw .i64 (qi x3 1)) x4 x5 x6 x7) (qa (QX m x0) λ v4=>let j1:Z30 :=
 (some (T.mk 0 [] 0 [],3));cond (ieq (List.length v4) 0) (qa (zc m (T.mk 3 [122,101,114,111] 0 [])) λ v5=>cond (qb (ieq v5 0)) j1 (some (T.mk 3 [122,101,114,111] 0 [],0)))
 (cond (ieq (List.length v4) 1) (qa (qd v4 0) λ v6=>qa (zc m (re v6)) λ v7=>cond (qb (ieq v7 0)) j1 (some (re v6,0))) (qa (zc m (T.mk 3 [120,111,114] 0 v4)) λ v8 =>
 cond (qb (ieq v8 0)) j1 (some (T.mk 3 [120,111,114] 0 v4,0)))))
def qdl (m:Nat):=qH (λ _ _ _ _ _ _ _ _=>none) λ ih=>qiQ m ih
def ql0:Nat→(TL→Z30):=qf (λ _=>none) λ m _=>qiS m (qdl m m)
def qdm (m:Nat) (a0:T):Z1 :=
 cond (ieq (T.kind a0) 3) (cond (qC (T.name a0) [109,117,108]) (some true) (cond (qC (T.name a0) [105,110,118]) (some true) (some (qC (T.name a0) [111,110,101])))) (some false)
def Jr:Nat→Z36:=qf (λ _=>none) λ m _=>qdm m
def qbi (m:Nat) (q_exponent_clone:Z22) (K1:Z37) (a0:T):Z21 :=
 qa (zC 0 (T.kids a0)) λ v1=>K1 (List.length v1.2.1) 0 (T.kind a0) (T.name a0) (T.sort a0) 0 [] 0 v1.2.1 []
def qbg (m:Nat) (q_exponent_clone:Z22) (K1:Z37) (x0 x1 x2:Int) (x3:List UInt8) (x4 x5:Int) (x6:List UInt8) (x7:Int) (x8 x9:List (T)):Z21 :=
 cond (ilt x1 x0) (qa (qd x8 x1) λ v1=>qa (q_exponent_clone (re v1)) λ v2=>qa (qd x8 x1) λ v3=>K1 x0 (iw .i64 (qi x1 1)) x2 x3 x4 x5 x6 x7 (jJ x8 x1 (re v2)) x9) (some (T.mk x2 x3 x4 x8))
def jM (m:Nat) (q_exponent_clone:Z22):=qH (λ _ _ _ _ _ _ _ _ _ _=>none) λ ih=>qbg m q_exponent_clone ih
def za:Nat→Z22:=qf (λ _=>none) λ m q_exponent_clone=>qbi m q_exponent_clone (jM m q_exponent_clone m)
def qcc (m:Nat) (a0:T × Int) (a1:T):Z10 :=
 qa (qt m (re a0.1) (re a1)) λ v1=>some v1
def Qv:Nat→((T × Int)→T→Z10):=qf (λ _ _=>none) λ m _=>qcc m
def qD (m:Nat) (K1:Z40) (a0:List (T × Int)) (a1:T):Z38 :=
 K1 a0 (List.length a0) 0 (List.length a0) (T.kind a1) (T.name a1) (T.sort a1) (T.kids a1)
def qE (m:Nat) (K1:Z40) (x0:List (T × Int)) (x1 x2 x3 x4:Int) (x5:List UInt8) (x6:Int) (x7:List (T)):Z38 :=
 cond (ilt x2 x3) (qa (qd x0 (iw .i64 (ql9 .u64 (iw .u64 (iw .i64 (qi x2 x3))) 1))) λ v1=>qa (Qv m (re v1.1,v1.2) (T.mk x4 x5 x6 x7)) λ v2=>cond (ilt v2 0)
 (K1 x0 x1 (iw .i64 (qi (iw .i64 (ql9 .u64 (iw .u64 (iw .i64 (qi x2 x3))) 1)) 1)) x3 x4 x5 x6 x7) (K1 x0 x1 x2 (iw .i64 (ql9 .u64 (iw .u64 (iw .i64 (qi x2 x3))) 1)) x4 x5 x6 x7)) (cond (ilt x2 x1)
 (qa (qd x0 x2) λ v3=>qa (Qv m (re v3.1,v3.2) (T.mk x4 x5 x6 x7)) λ v4=>some (x2,ieq v4 0)) (some (x2,false)))
def qn (m:Nat):=qH (λ _ _ _ _ _ _ _ _=>none) λ ih=>qE m ih
def qy:Nat→(Z39→T→Z38):=qf (λ _ _=>none) λ m _=>qD m (qn m m)
def qdq (m:Nat) (a0:List (T × Int)) (a1:T × Int):Z41 :=
 qa (qy m a0 (re a1.1)) λ v1=>cond (qb v1.2) (qa (za m (re a1.1)) λ v2 =>
 qa (zl 0 a0 v1.1 [(re v2,a1.2)]) λ v3=>some ((()),(v3.2.1,()))) (qa (qd a0 v1.1) λ v4=>qa (qd a0 v1.1) λ v5 =>
 qa (qd (jJ a0 v1.1 (re v5.1,iw .i64 (qi v4.2 a1.2))) v1.1) λ v6=>cond (ieq v6.2 0)
 (qa (zo 0 (jJ a0 v1.1 (re v5.1,iw .i64 (qi v4.2 a1.2))) v1.1 (iw .i64 (qi v1.1 1))) λ v7=>some ((()),(v7.2.1,())))
 (some ((()),(jJ a0 v1.1 (re v5.1,iw .i64 (qi v4.2 a1.2)),()))))
def Jq:Nat→(Z39→(T × Int)→Z41):=qf (λ _ _=>none) λ m _=>qdq m
def qal (m:Nat) (q_exponent_collect:Z43) (K1:Z44) (a0:List (T × Int)) (a1:T) (a2:Int):Z42 :=
 qa (Jr m (re a1)) λ v1=>cond (qb v1) (qa (Jq m a0 (re a1,a2)) λ v2=>some ((()),(v2.2.1,true,()))) (let j1:Z42:=(some ((()),([],false,())));let j2:Z42 :=
 (let j3:Z42:=(let j4:Z42:=(cond (qC (T.name a1) [105,110,118]) (K1 (iw .i64 (QC 0 a2)) (T.kids a1) (List.length (T.kids a1)) 0 a0) (K1 a2 (T.kids a1) (List.length (T.kids a1)) 0 a0));
 cond (qC (T.name a1) [109,117,108]) (cond (ilt (List.length (T.kids a1)) 2) j1 j4) j4);cond (qC (T.name a1) [105,110,118]) (cond (qb (ieq (List.length (T.kids a1)) 1)) j1 j3) j3);
 cond (qC (T.name a1) [111,110,101]) (cond (qb (ieq (List.length (T.kids a1)) 0)) j1 j2) j2)
def qan (m:Nat) (q_exponent_collect:Z43) (K1:Z44) (x0:Int) (x1:List (T)) (x2 x3:Int) (x4:List (T × Int)):Z42 :=
 cond (ilt x3 x2) (qa (qd x1 x3) λ v1=>qa (q_exponent_collect x4 (re v1) x0) λ v2=>cond (qb v2.2.2.1) (some ((()),([],false,()))) (K1 x0 x1 x2 (iw .i64 (qi x3 1)) v2.2.1))
 (some ((()),(x4,true,())))
def yP (m:Nat) (q_exponent_collect:Z43):=qH (λ _ _ _ _ _=>none) λ ih=>qan m q_exponent_collect ih
def qY:Nat→Z43:=qf (λ _ _ _=>none) λ m q_exponent_collect=>qal m q_exponent_collect (yP m q_exponent_collect m)
def qg6 (m:Nat) (a0:T):Z45 :=
 qa (zc m (re a0)) λ v1=>cond (qb (ieq v1 0)) (some ([],v1)) (qa (qY m [] (re a0) 1) λ v2=>cond (qb v2.2.2.1) (some ([],6)) (cond (ilt 200 (List.length v2.2.1)) (some ([],3))
 (some (v2.2.1,0))))
def JY:Nat→Z46:=qf (λ _=>none) λ m _=>qg6 m
def qbb (m:Nat) (K1:Z47) (a0:List (T × Int)):Z10 :=
 cond (ilt 200 (List.length a0)) (some 3) (K1 a0 a0 (List.length a0) 0)
def qbh (m:Nat) (K1:Z47) (x0 x1:List (T × Int)) (x2 x3:Int):Z10 :=
 cond (ilt x3 x2) (qa (qd x1 x3) λ v1=>qa (zc m (re v1.1)) λ v2=>cond (qb (ieq v2 0)) (some v2) (qa (Jr m (re v1.1)) λ v3=>cond v3 (some 1) (cond (ieq v1.2 0) (some 7)
 (cond (ilt v1.2 (-1000)) (some 7) (cond (ilt 1000 v1.2) (some 7) (cond (ilt 0 x3) (qa (qd x0 (iw .i64 (QC x3 1))) λ v4=>qa (qt m (re v4.1) (re v1.1)) λ v5=>cond (ile 0 v5) (some 5)
 (K1 x0 x1 x2 (iw .i64 (qi x3 1)))) (K1 x0 x1 x2 (iw .i64 (qi x3 1))))))))) (some 0)
def jm (m:Nat):=qH (λ _ _ _ _=>none) λ ih=>qbh m ih
def QM:Nat→Z48:=qf (λ _=>none) λ m _=>qbb m (jm m m)
def qs9 (m:Nat) (a0:Y8) (a1:TL):Z21 :=
 some (T.mk 3 a0 0 a1)
def qbE:Nat→Z49:=qf (λ _ _=>none) λ m _=>qs9 m
def qbO (m:Nat) (K1:Z50) (K2 K3:Z51) (a0:List (T × Int)):Z30 :=
 qa (QM m a0) λ v1=>cond (qb (ieq v1 0)) (some (T.mk 0 [] 0 [],v1)) (K1 a0 (List.length a0) 0 0 [] 0 [] [] [])
def qcf (m:Nat) (K1:Z50) (K2 K3:Z51) (x0:List (T × Int)) (x1 x2 x3:Int) (x4:List UInt8) (x5:Int) (x6 x7 x8:List (T)):Z30 :=
 let j1:Z30:=(some (T.mk 0 [] 0 [],3));cond (ilt x2 x1) (qa (qd x0 x2) λ v1=>cond (ilt 8 v1.2) j1 (cond (ilt v1.2 (-8)) j1 (K2 x0 x1 x2 v1.2 0 x3 x4 x5 (T.kind v1.1) (T.name v1.1) (T.sort v1.1)
 (T.kids v1.1) v1.2 x6 x7 x8))) (qa (zd m [x7,x8]) λ v2=>cond (ilt 8 (List.length v2)) j1 (qa (qbE m [109,117,108] v2) λ v3=>cond (ieq (List.length v2) 0)
 (qa (qbE m [111,110,101] []) λ v4=>qa (zc m (re v4)) λ v5=>cond (qb (ieq v5 0)) (some (T.mk 0 [] 0 [],v5)) (some (re v4,0))) (cond (ieq (List.length v2) 1)
 (qa (qd v2 0) λ v6=>qa (zc m (re v6)) λ v7=>cond (qb (ieq v7 0)) (some (T.mk 0 [] 0 [],v7)) (some (re v6,0))) (qa (zc m (re v3)) λ v8=>cond (qb (ieq v8 0))
 (some (T.mk 0 [] 0 [],v8)) (some (re v3,0))))))
def qca (m:Nat) (K1:Z50) (K2 K3:Z51) (x0:List (T × Int)) (x1 x2 x3 x4 x5:Int) (x6:List UInt8) (x7 x8:Int) (x9:List UInt8) (x10:Int) (x11:List (T)) (x12:Int) (x13 x14 x15:List (T)):Z30 :=
 cond (ilt x4 x3) (qa (za m (T.mk x8 x9 x10 x11)) λ v1=>cond (zN (List.length x14+1) 56) (K2 x0 x1 x2 x3 (iw .i64 (qi x4 1)) x5 x6 x7 x8 x9 x10 x11 x12 x13 (x14++[re v1]) x15) none)
 (K3 x0 x1 x2 (iw .i64 (QC 0 x12)) 0 x5 x6 x7 x8 x9 x10 x11 x12 x13 x14 x15)
def qcd (m:Nat) (K1:Z50) (K2 K3:Z51) (x0:List (T × Int)) (x1 x2 x3 x4 x5:Int) (x6:List UInt8) (x7 x8:Int) (x9:List UInt8) (x10:Int) (x11:List (T)) (x12:Int) (x13 x14 x15:List (T)):Z30 :=
 cond (ilt x4 x3) (qa (za m (T.mk x8 x9 x10 x11)) λ v1=>qa (qbE m [105,110,118] [re v1]) λ v2=>cond (zN (List.length x15+1) 56)
 (K3 x0 x1 x2 x3 (iw .i64 (qi x4 1)) x5 x6 x7 x8 x9 x10 x11 x12 x13 x14 (x15++[re v2])) none) (K1 x0 x1 (iw .i64 (qi x2 1)) x5 x6 x7 x13 x14 x15)
def qv (m:Nat):=qH ((λ _ _ _ _ _ _ _ _ _=>none,λ _ _ _ _ _ _ _ _ _ _ _ _ _ _ _ _=>none,λ _ _ _ _ _ _ _ _ _ _ _ _ _ _ _ _=>none)) λ ih=>(qcf m ih.1 ih.2.1 ih.2.2,qca m ih.1 ih.2.1 ih.2.2,qcd m ih.1 ih.2.1 ih.2.2)
def jG:Nat→Z52:=qf (λ _=>none) λ m _=>qbO m (qv m m).1 (qv m m).2.1 (qv m m).2.2
def qaF (m:Nat) (K1:Z53) (a0:List (T × Int)):Z41 :=
 K1 a0 (List.length a0) 0 []
def qaL (m:Nat) (K1:Z53) (x0:List (T × Int)) (x1 x2:Int) (x3:List (T × Int)):Z41 :=
 cond (ilt x2 x1) (qa (qd x0 x2) λ v1=>qa (za m (re v1.1)) λ v2=>cond (zN (List.length x3+1) 64) (K1 x0 x1 (iw .i64 (qi x2 1)) (x3++[(re v2,v1.2)])) none) (some ((()),(x3,())))
def jx (m:Nat):=qH (λ _ _ _ _=>none) λ ih=>qaL m ih
def qaK:Nat→(Z39→Z41):=qf (λ _=>none) λ m _=>qaF m (jx m m)
def qb9 (m:Nat) (a0:T × Int):Z1 :=
 cond (ilt a0.2 (-1000)) (some true) (some (ilt 1000 a0.2))
def JI:Nat→((T × Int)→Z1):=qf (λ _=>none) λ m _=>qb9 m
def zp (m:Nat) (K1:Z54) (a0:List (T × Int)):Z10 :=
 K1 a0 (List.length a0) 0
def qQ (m:Nat) (K1:Z54) (x0:List (T × Int)) (x1 x2:Int):Z10 :=
 cond (ilt x2 x1) (qa (qd x0 x2) λ v1=>qa (JI m (re v1.1,v1.2)) λ v2=>cond v2 (some x2) (K1 x0 x1 (iw .i64 (qi x2 1)))) (some (-1))
def qw (m:Nat):=qH (λ _ _ _=>none) λ ih=>qQ m ih
def qX:Nat→Z48:=qf (λ _=>none) λ m _=>zp m (qw m m)
def zM (m:Nat) (a0:List (T × Int)):Z1 :=
 qa (qX m a0) λ v1=>some (ile 0 v1)
def qP:Nat→(Z39→Z1):=qf (λ _=>none) λ m _=>zM m
def qdj (m:Nat) (a0:List (T × Int)):Z45 :=
 qa (qP m a0) λ v1=>cond v1 (some ([],7)) (cond (ilt 200 (List.length a0)) (some ([],3)) (some (a0,0)))
def qaT:Nat→(Z39→Z45):=qf (λ _=>none) λ m _=>qdj m
def qcS (m:Nat) (K1:Z55) (a0 a1:List (T × Int)):Z45 :=
 qa (QM m a0) λ v1=>cond (qb (ieq v1 0)) (some ([],v1)) (qa (QM m a1) λ v2=>cond (qb (ieq v2 0)) (some ([],v2)) (qa (qaK m a0) λ v3 =>
 K1 a1 (List.length a1) 0 v3.2.1))
def qcM (m:Nat) (K1:Z55) (x0:List (T × Int)) (x1 x2:Int) (x3:List (T × Int)):Z45 :=
 cond (ilt x2 x1) (qa (qd x0 x2) λ v1=>qa (Jq m x3 (re v1.1,v1.2)) λ v2=>K1 x0 x1 (iw .i64 (qi x2 1)) v2.2.1) (qa (qaT m x3) λ v3=>some (v3.1,v3.2))
def Q7 (m:Nat):=qH (λ _ _ _ _=>none) λ ih=>qcM m ih
def qdu:Nat→Z56:=qf (λ _ _=>none) λ m _=>qcS m (Q7 m m)
def qxj (m:Nat) (a0:Y8) (a1:TL):Z21 :=
 some (T.mk 3 a0 0 a1)
def qdH:Nat→Z49:=qf (λ _ _=>none) λ m _=>qxj m
def qgA (m:Nat) (a0 a1:T):Z30 :=
 qa (JY m (re a1)) λ v1=>cond (qb (ieq v1.2 0)) (some (T.mk 0 [] 0 [],v1.2)) (qa (yw m (re a0) [101,120,112]) λ v2=>cond v2 (qa (qd (T.kids a0) 1) λ v3 =>
 qa (JY m (re v3)) λ v4=>cond (qb (ieq v4.2 0)) (some (T.mk 0 [] 0 [],v4.2)) (qa (qdu m v4.1 v1.1) λ v5=>cond (qb (ieq v5.2 0)) (some (T.mk 0 [] 0 [],v5.2))
 (qa (qd (T.kids a0) 0) λ v6=>cond (ieq (List.length v5.1) 0) (some (re v6,0)) (qa (jG m v5.1) λ v7=>cond (qb (ieq v7.2 0)) (some (T.mk 0 [] 0 [],v7.2))
 (qa (qdH m [101,120,112] [re v6,re v7.1]) λ v8=>some (re v8,0)))))) (cond (ieq (List.length v1.1) 0) (some (re a0,0)) (qa (jG m v1.1) λ v9=>cond (qb (ieq v9.2 0))
 (some (T.mk 0 [] 0 [],v9.2)) (qa (qdH m [101,120,112] [re a0,re v9.1]) λ v10=>some (re v10,0)))))
def qc9:Nat→Z57:=qf (λ _ _=>none) λ m _=>qgA m
def qbR (m:Nat) (q_theory_normal:Z58) (K1:Z59) (a0:T):Z30 :=
 cond (qb (ieq (T.kind a0) 3)) (some (re a0,0)) (K1 (T.kids a0) (List.length (T.kids a0)) 0 (T.kind a0) (T.name a0) (T.sort a0) (T.kids a0) 0 [] 0 3 (T.name a0) 0 [] [])
def qbL (m:Nat) (q_theory_normal:Z58) (K1:Z59) (x0:List (T)) (x1 x2 x3:Int) (x4:List UInt8) (x5:Int) (x6:List (T)) (x7:Int) (x8:List UInt8) (x9 x10:Int) (x11:List UInt8) (x12:Int) (x13 x14:List (T)):Z30 :=
 cond (ilt x2 x1) (qa (qd x0 x2) λ v1=>qa (q_theory_normal (re v1)) λ v2=>cond (qb (ieq v2.2 0)) (some (T.mk 0 [] 0 [],v2.2)) (cond (zN (List.length x14+1) 56)
 (K1 x0 x1 (iw .i64 (qi x2 1)) x3 x4 x5 x6 x7 x8 x9 x10 x11 x12 x13 (x14++[re v2.1])) none)) (let j1:Z30:=(qa (J0 m (T.mk x10 x11 x12 x14)) λ v3=>some (re v3,0));
 cond (qC x4 [102,115,116]) j1 (cond (qC x4 [115,110,100]) j1 (cond (qC x4 [100,101,99]) j1 (cond (qC x4 [97,100,101,99]) j1 (cond (qC x4 [111,112,101,110]) j1 (cond (qC x4 [114,101,97,100]) j1 (cond (qC x4 [120,111,114])
 (qa (ql0 m x14) λ v9=>some (re v9.1,v9.2)) (let j2:Z30:=(qa (JY m (T.mk x10 x11 x12 x14)) λ v10=>cond (qb (ieq v10.2 0)) (some (T.mk 0 [] 0 [],v10.2))
 (qa (jG m v10.1) λ v11=>some (re v11.1,v11.2)));cond (qC x4 [109,117,108]) j2 (cond (qC x4 [105,110,118]) j2 (cond (qC x4 [111,110,101]) j2 (cond (qC x4 [101,120,112])
 (qa (qd x14 0) λ v16=>qa (qd x14 1) λ v17=>qa (qc9 m (re v16) (re v17)) λ v18=>some (re v18.1,v18.2)) (some (T.mk x10 x11 x12 x14,0)))))))))))))
def Qg (m:Nat) (q_theory_normal:Z58):=qH (λ _ _ _ _ _ _ _ _ _ _ _ _ _ _ _=>none) λ ih=>qbL m q_theory_normal ih
def zP:Nat→Z58:=qf (λ _=>none) λ m q_theory_normal=>qbR m q_theory_normal (Qg m q_theory_normal m)
def qff (m:Nat) (a0:T):Z30 :=
 qa (qdn m (re a0)) λ v1=>cond (qb (ieq v1 0)) (some (T.mk 0 [] 0 [],v1)) (qa (zP m (re a0)) λ v2=>cond (ieq v2.2 0) (qa (zc m (re v2.1)) λ v3=>cond (qb (ieq v3 0))
 (some (T.mk 0 [] 0 [],v3)) (some (re v2.1,0))) (cond (qb (ieq v2.2 0)) (some (T.mk 0 [] 0 [],v2.2)) (some (re v2.1,0))))
def qcj:Nat→Z58:=qf (λ _=>none) λ m _=>qff m
def qeq (m:Nat) (a0:Y8):Z1 :=
 qa (qaw m a0) λ v1=>some (qb (ieq v1.2.2.2 3))
def qbs:Nat→Z5:=qf (λ _=>none) λ m _=>qeq m
def Jt (m:Nat) (q_theory_every_of_94:Z36) (K1:Z60) (a0:T):Z1 :=
 cond (ieq (T.kind a0) 3) (qa (qbs m (T.name a0)) λ v1=>cond (qb v1) (some false) (K1 (T.kids a0) (List.length (T.kids a0)) 0)) (K1 (T.kids a0) (List.length (T.kids a0)) 0)
def Jw (m:Nat) (q_theory_every_of_94:Z36) (K1:Z60) (x0:List (T)) (x1 x2:Int):Z1 :=
 cond (ilt x2 x1) (qa (qd x0 x2) λ v1=>qa (q_theory_every_of_94 (re v1)) λ v2=>cond (qb v2) (some false) (K1 x0 x1 (iw .i64 (qi x2 1)))) (some true)
def yj (m:Nat) (q_theory_every_of_94:Z36):=qH (λ _ _ _=>none) λ ih=>Jw m q_theory_every_of_94 ih
def qJ:Nat→Z36:=qf (λ _=>none) λ m q_theory_every_of_94=>Jt m q_theory_every_of_94 (yj m q_theory_every_of_94 m)
def qgp (m:Nat) (a0:T):Z1 :=
 qa (qcj m (re a0)) λ v1=>cond (ieq v1.2 0) (qa (Qc m (re v1.1) (re a0)) λ v2=>cond v2 (qa (qJ m (re a0)) λ v3=>some v3) (some false)) (some false)
def qc5:Nat→Z36:=qf (λ _=>none) λ m _=>qgp m
def qaq (m:Nat) (a0:T) (a1:Int) (a2:List (T)):Z61 :=
 cond (ieq (T.kind a0) a1) (cond (zN (List.length a2+1) 56) (qa (qd (a2++[T.mk 0 [] 0 []]) (List.length a2)) λ v1=>some ((a1,jJ (a2++[T.mk 0 [] 0 []]) (List.length a2) (re a0),()),(()))) none)
 (some ((a1,a2,()),(())))
def Qf:Nat→Z62:=qf (λ _ _ _=>none) λ m _=>qaq m
def JM (m:Nat) (q_term_walk_of_128c:Z62) (K1:Z63) (a0:T) (a1_0:Int) (a1_1:List (T)):Z61 :=
 qa (Qf m (re a0) a1_0 a1_1) λ v1=>K1 (T.kids a0) (List.length (T.kids a0)) 0 v1.1.1 v1.1.2.1
def JO (m:Nat) (q_term_walk_of_128c:Z62) (K1:Z63) (x0:List (T)) (x1 x2 x3:Int) (x4:List (T)):Z61 :=
 cond (ilt x2 x1) (qa (qd x0 x2) λ v1=>qa (q_term_walk_of_128c (re v1) x3 x4) λ v2=>K1 x0 x1 (iw .i64 (qi x2 1)) v2.1.1 v2.1.2.1) (some ((x3,x4,()),(())))
def y8 (m:Nat) (q_term_walk_of_128c:Z62):=qH (λ _ _ _ _ _=>none) λ ih=>JO m q_term_walk_of_128c ih
def q9:Nat→Z62:=qf (λ _ _ _=>none) λ m q_term_walk_of_128c=>JM m q_term_walk_of_128c (y8 m q_term_walk_of_128c m)
def qS:Nat→List (T)→Option (List (T)):=qf (λ _=>none) λ m _=>qpr (qt m)
def qet (m:Nat) (a0 a1:T):Z1 :=
 qa (qt m (re a0) (re a1)) λ v1=>some (ieq v1 0)
def yc:Nat→Z20:=qf (λ _ _=>none) λ m _=>qet m
def qG:Nat→List (T)→Option (Unit × List (T) × Unit):=qf (λ _=>none) λ m _=>qtD (yc m)
def qcQ (m:Nat) (K1:Z65) (a0:List (T)):Z64 :=
 qa (qS m a0) λ v1=>cond (Nat.beq (List.length v1) (List.length a0)) (qa (qG m v1) λ v2=>K1 (List.length v2.2.1) 0 v2.2.1) none
def qcY (m:Nat) (K1:Z65) (x0 x1:Int) (x2:List (T)):Z64 :=
 cond (ilt x1 x0) (qa (qd x2 x1) λ v1=>qa (yk m (re v1)) λ v2=>qa (qd x2 x1) λ v3=>K1 x0 (iw .i64 (qi x1 1)) (jJ x2 x1 (re v2))) (some ((()),(x2,())))
def QO (m:Nat):=qH (λ _ _ _=>none) λ ih=>qcY m ih
def qc2:Nat→(Z8→Z64):=qf (λ _=>none) λ m _=>qcQ m (QO m m)
def qg5 (m:Nat) (a0:T) (a1:Int):Z23 :=
 qa (q9 m (re a0) a1 []) λ v1=>qa (qc2 m v1.1.2.1) λ v2=>some v2.2.1
def qht:Nat→(T→Int→Z23):=qf (λ _ _=>none) λ m _=>qg5 m
def qj9 (m:Nat) (a0:T):Z23 :=
 qa (qht m (re a0) 1) λ v1=>some v1
def qhT:Nat→Z27:=qf (λ _=>none) λ m _=>qj9 m
def qe6 (m:Nat) (a0:T):Z1 :=
 qa (qc5 m (re a0)) λ v1=>cond v1 (qa (qhT m (re a0)) λ v2=>some (ieq (List.length v2) 0)) (some false)
def yW:Nat→Z36:=qf (λ _=>none) λ m _=>qe6 m
def qiV (m:Nat) (K1:Z66) (a0:T) (a1:List Int):Z30 :=
 K1 a1 (List.length a1) 0 (T.kind a0) (T.name a0) (T.sort a0) (T.kids a0) 0 [] 0 []
def qmX (m:Nat) (K1:Z66) (x0:List (Int)) (x1 x2 x3:Int) (x4:List UInt8) (x5:Int) (x6:List (T)) (x7:Int) (x8:List UInt8) (x9:Int) (x10:List (T)):Z30 :=
 cond (ilt x2 x1) (qa (qd x0 x2) λ v1=>cond (ilt v1 0) (some (T.mk 0 [] 0 [],7)) (cond (ile (List.length x6) v1) (some (T.mk 0 [] 0 [],7)) (qa (qd x6 v1) λ v2=>K1 x0 x1 (iw .i64 (qi x2 1))
 (T.kind v2) (T.name v2) (T.sort v2) (T.kids v2) x7 x8 x9 x10))) (qa (yk m (T.mk x3 x4 x5 x6)) λ v3=>some (re v3,0))
def qfm (m:Nat):=qH (λ _ _ _ _ _ _ _ _ _ _ _=>none) λ ih=>qmX m ih
def qlR:Nat→(T→(List Int)→Z30):=qf (λ _ _=>none) λ m _=>qiV m (qfm m m)
def qek (m:Nat) (a0:T):Z21 :=
 qa (qlR m (re a0) []) λ v1=>some (re v1.1)
def zF:Nat→Z22:=qf (λ _=>none) λ m _=>qek m
def qt1 (m:Nat) (a0:T):Z67 :=
 qa (yW m (re a0)) λ v1=>cond (qb v1) (some ((T.mk 0 [] 0 [],(0,([],0))),10)) (qa (zF m (re a0)) λ v2=>some ((re v2,(0,([],4))),0))
def qlh:Nat→Z68:=qf (λ _=>none) λ m _=>qt1 m
def qds (m:Nat) (a0 a1:T):Z21 :=
 qa (zF m (re a0)) λ v1=>qa (zF m (re a1)) λ v2=>some (T.mk 3 [104,97,115,104] 0 [T.mk 3 [112,97,105,114] 0 [re v1,re v2]])
def Qj:Nat→(T→T→Z21):=qf (λ _ _=>none) λ m _=>qds m
def quN (m:Nat) (a0:Y8):Z21 :=
 some (T.mk 2 a0 5 [])
def qev:Nat→(Y8→Z21):=qf (λ _=>none) λ m _=>quN m
def qfK (m:Nat) (a0:T):Z21 :=
 qa (qev m [99,104,97,105,110]) λ v1=>qa (Qj m (re a0) (re v1)) λ v2=>some (re v2)
def qak:Nat→Z22:=qf (λ _=>none) λ m _=>qfK m
def qgR (m:Nat) (a0:T):Z21 :=
 qa (qev m [109,101,115,115,97,103,101]) λ v1=>qa (Qj m (re a0) (re v1)) λ v2=>some (re v2)
def qa4:Nat→Z22:=qf (λ _=>none) λ m _=>qgR m
def qlP (m:Nat) (K1:Z69) (a0:T) (a1:Int):Z30 :=
 qa (yW m (re a0)) λ v1=>cond (qb v1) (some (T.mk 0 [] 0 [],10)) (cond (ilt a1 0) (some (T.mk 0 [] 0 [],7)) (cond (ile 1000 a1) (some (T.mk 0 [] 0 [],7)) (qa (zF m (re a0)) λ v2 =>
 K1 a1 0 0 [] 0 (T.kind v2) (T.name v2) (T.sort v2) (T.kids v2) [])))
def qvp (m:Nat) (K1:Z69) (x0 x1 x2:Int) (x3:List UInt8) (x4 x5:Int) (x6:List UInt8) (x7:Int) (x8 x9:List (T)):Z30 :=
 cond (ilt x1 x0) (qa (qak m (T.mk x5 x6 x7 x8)) λ v1=>qa (zc m (re v1)) λ v2=>cond (qb (ieq v2 0)) (some (T.mk 0 [] 0 [],3)) (K1 x0 (iw .i64 (qi x1 1)) x2 x3 x4 (T.kind v1)
 (T.name v1) (T.sort v1) (T.kids v1) x9)) (qa (qa4 m (T.mk x5 x6 x7 x8)) λ v3=>qa (zc m (re v3)) λ v4=>cond (qb (ieq v4 0)) (some (T.mk 0 [] 0 [],3)) (some (re v3,0)))
def qnn (m:Nat):=qH (λ _ _ _ _ _ _ _ _ _ _=>none) λ ih=>qvp m ih
def qhk:Nat→(T→Int→Z30):=qf (λ _ _=>none) λ m _=>qlP m (qnn m m)
def qgh (m:Nat) (a0 a1:Int):Z10 :=
 cond (ilt a0 a1) (some (-1)) (cond (ilt a1 a0) (some 1) (some 0))
def Jl:Nat→(Int→Int→Z10):=qf (λ _ _=>none) λ m _=>qgh m
def qeY (m:Nat) (q_ref01_Size:Z11) (K1:Z70) (a0:T):Z10 :=
 K1 1 0 (T.kind a0) (T.name a0) (T.sort a0) (T.kids a0)
def qeI (m:Nat) (q_ref01_Size:Z11) (K1:Z70) (x0 x1 x2:Int) (x3:List UInt8) (x4:Int) (x5:List (T)):Z10 :=
 cond (ilt x1 (List.length x5)) (qa (qd x5 x1) λ v1=>qa (q_ref01_Size (re v1)) λ v2=>K1 (iw .i64 (qi x0 v2)) (iw .i64 (qi x1 1)) x2 x3 x4 x5) (some x0)
def qag (m:Nat) (q_ref01_Size:Z11):=qH (λ _ _ _ _ _ _=>none) λ ih=>qeI m q_ref01_Size ih
def yC:Nat→Z11:=qf (λ _=>none) λ m q_ref01_Size=>qeY m q_ref01_Size (qag m q_ref01_Size m)
def qb1 (m:Nat) (q_ref01_Compare:Z18) (K1:Z71) (a0 a1:T):Z10 :=
 qa (yC m (re a0)) λ v1=>qa (yC m (re a1)) λ v2=>qa (Jl m v1 v2) λ v3=>cond (qb (ieq v3 0)) (some v3) (qa (Jl m (T.kind a0) (T.kind a1)) λ v4 =>
 cond (qb (ieq v4 0)) (some v4) (cond (slt (T.name a0) (T.name a1)) (some (-1)) (cond (qb (qpi (slt (T.name a0) (T.name a1)) (qC (T.name a0) (T.name a1)))) (some 1) (qa (Jl m (T.sort a0)
 (T.sort a1)) λ v5=>cond (qb (ieq v5 0)) (some v5) (qa (Jl m (List.length (T.kids a0)) (List.length (T.kids a1))) λ v6=>cond (qb (ieq v6 0)) (some v6) (K1 0 (T.kind a0) (T.name a0) (T.sort a0)
 (T.kids a0) (T.kind a1) (T.name a1) (T.sort a1) (T.kids a1)))))))
def qbS (m:Nat) (q_ref01_Compare:Z18) (K1:Z71) (x0 x1:Int) (x2:List UInt8) (x3:Int) (x4:List (T)) (x5:Int) (x6:List UInt8) (x7:Int) (x8:List (T)):Z10 :=
 cond (ilt x0 (List.length x4)) (qa (qd x4 x0) λ v1=>qa (qd x8 x0) λ v2=>qa (q_ref01_Compare (re v1) (re v2)) λ v3=>cond (qb (ieq v3 0)) (some v3)
 (K1 (iw .i64 (qi x0 1)) x1 x2 x3 x4 x5 x6 x7 x8)) (some 0)
def Qi (m:Nat) (q_ref01_Compare:Z18):=qH (λ _ _ _ _ _ _ _ _ _=>none) λ ih=>qbS m q_ref01_Compare ih
def zk:Nat→Z18:=qf (λ _ _=>none) λ m q_ref01_Compare=>qb1 m q_ref01_Compare (Qi m q_ref01_Compare m)
def qh6 (m:Nat) (a0 a1:T):Z1 :=
 qa (zk m (re a0) (re a1)) λ v1=>some (ieq v1 0)
def yD:Nat→Z20:=qf (λ _ _=>none) λ m _=>qh6 m
def qbP (m:Nat) (K1:Z73) (a0:T × (Int × ((List (Int × T)) × Int))):Z10 :=
 qa (yW m (re a0.1)) λ v1=>cond (qb v1) (some 1) (cond (ilt a0.2.1 0) (some 1) (cond (ilt 1000 a0.2.1) (some 1) (cond (ilt a0.2.2.2 0) (some 1) (cond (ilt 8 a0.2.2.2) (some 1)
 (cond (ilt a0.2.2.2 (List.length a0.2.2.1)) (some 1) (K1 (-1) a0.2.2.1 (List.length a0.2.2.1) 0 (T.kind a0.1) (T.name a0.1) (T.sort a0.1) (T.kids a0.1) a0.2.1 a0.2.2.1 a0.2.2.2))))))
def qb3 (m:Nat) (K1:Z73) (x0:Int) (x1:List (Int × T)) (x2 x3 x4:Int) (x5:List UInt8) (x6:Int) (x7:List (T)) (x8:Int) (x9:List (Int × T)) (x10:Int):Z10 :=
 cond (ilt x3 x2) (qa (qd x1 x3) λ v1=>cond (ile v1.1 x0) (some 1) (cond (ile x8 v1.1) (some 1) (qa (yW m (re v1.2)) λ v2=>cond (qb v2) (some 1)
 (K1 v1.1 x1 x2 (iw .i64 (qi x3 1)) x4 x5 x6 x7 x8 x9 x10)))) (some 0)
def Qu (m:Nat):=qH (λ _ _ _ _ _ _ _ _ _ _ _=>none) λ ih=>qb3 m ih
def yT:Nat→Z75:=qf (λ _=>none) λ m _=>qbP m (Qu m m)
def qdU (m:Nat) (K1:Z77) (a0:T × (Int × ((List (Int × T)) × Int))):Z76 :=
 qa (zF m (re a0.1)) λ v1=>K1 a0.2.2.1 (List.length a0.2.2.1) 0 (T.kind v1) (T.name v1) (T.sort v1) (T.kids v1) a0.2.1 a0.2.2.1 a0.2.2.2 0 [] 0 0 0 [] [] []
def qd1 (m:Nat) (K1:Z77) (x0:List (Int × T)) (x1 x2 x3:Int) (x4:List UInt8) (x5:Int) (x6:List (T)) (x7:Int) (x8:List (Int × T)) (x9 x10:Int) (x11:List UInt8) (x12 x13 x14:Int) (x15:List (T)) (x16 x17:List (Int × T)):Z76 :=
 cond (ilt x2 x1) (qa (qd x0 x2) λ v1=>qa (zF m (re v1.2)) λ v2=>cond (zN (List.length x17+1) 64)
 (K1 x0 x1 (iw .i64 (qi x2 1)) x3 x4 x5 x6 x7 x8 x9 x10 x11 x12 x13 x14 x15 x16 (x17++[(v1.1,re v2)])) none) (some ((()),((T.mk x3 x4 x5 x6,x7,x17,x9,()),())))
def JC (m:Nat):=qH (λ _ _ _ _ _ _ _ _ _ _ _ _ _ _ _ _ _ _=>none) λ ih=>qd1 m ih
def qaX:Nat→(Z74→Z76):=qf (λ _=>none) λ m _=>qdU m (JC m m)
def qqj (m:Nat) (a0 a1:T):Z78 :=
 let j1:Z78:=(some (T.mk 0 [] 0 [],false));cond (qb (ieq (T.kind a0) 3)) j1 (cond (qb (qC (T.name a0) [101,110,99])) j1 (qa (qd (T.kids a0) 1) λ v1=>qa (qt m (re v1)
 (re a1)) λ v2=>cond (qb (ieq v2 0)) j1 (qa (qd (T.kids a0) 0) λ v3=>qa (zF m (re v3)) λ v4=>some (re v4,true))))
def qdG:Nat→(T→T→Z78):=qf (λ _ _=>none) λ m _=>qqj m
def qhN (m:Nat) (K1:Z80) (a0:T × (Int × ((List (Int × T)) × Int))) (a1:Int × T):Z79 :=
 qa (yT m (re a0.1,(a0.2.1,(a0.2.2.1,a0.2.2.2)))) λ v1=>cond (qb (ieq v1 0)) (some ((T.mk 0 [] 0 [],(0,([],0))),T.mk 0 [] 0 [],1)) (qa (yW m (re a1.2)) λ v2=>cond (qb v2)
 (some ((T.mk 0 [] 0 [],(0,([],0))),T.mk 0 [] 0 [],10)) (qa (qaX m (re a0.1,(a0.2.1,(a0.2.2.1,a0.2.2.2)))) λ v3=>cond (ilt a1.1 a0.2.1)
 (qa (yN 0 v3.2.1.2.2.1 (a1.1,re a1.2)) λ v4=>cond (ilt v4 0) (some ((T.mk 0 [] 0 [],(0,([],0))),T.mk 0 [] 0 [],21)) (qa (qd v3.2.1.2.2.1 v4) λ v5 =>
 qa (qdG m (re a1.2) (re v5.2)) λ v6=>cond (qb v6.2) (some ((T.mk 0 [] 0 [],(0,([],0))),T.mk 0 [] 0 [],11))
 (qa (yX 0 v3.2.1.2.2.1 v4 (iw .i64 (qi v4 1))) λ v7=>some ((re v3.2.1.1,(v3.2.1.2.1,(v7.2.1,v3.2.1.2.2.2.1))),re v6.1,0)))) (cond (ilt (iw .i64 (qi a0.2.1 a0.2.2.2)) a1.1)
 (some ((T.mk 0 [] 0 [],(0,([],0))),T.mk 0 [] 0 [],7)) (cond (ile 1000 a1.1) (some ((T.mk 0 [] 0 [],(0,([],0))),T.mk 0 [] 0 [],7)) (K1 a1.1 (T.kind a1.2) (T.name a1.2) (T.sort a1.2)
 (T.kids a1.2) 0 [] 0 0 0 0 [] 0 (T.kind v3.2.1.1) (T.name v3.2.1.1) (T.sort v3.2.1.1) (T.kids v3.2.1.1) v3.2.1.2.1 v3.2.1.2.2.2.1 [] [] [] v3.2.1.2.2.1)))))
def qoU (m:Nat) (K1:Z80) (x0 x1:Int) (x2:List UInt8) (x3:Int) (x4:List (T)) (x5:Int) (x6:List UInt8) (x7 x8 x9 x10:Int) (x11:List UInt8) (x12 x13:Int) (x14:List UInt8) (x15:Int) (x16:List (T)) (x17 x18:Int) (x19:List (T)) (x20:List (Int × T)) (x21:List (T)) (x22:List (Int × T)):Z79 :=
 qa (qa4 m (T.mk x13 x14 x15 x16)) λ v1=>qa (qak m (T.mk x13 x14 x15 x16)) λ v2=>qa (zc m (re v1)) λ v3=>cond (qb (ieq v3 0))
 (some ((T.mk 0 [] 0 [],(0,([],0))),T.mk 0 [] 0 [],3)) (qa (zc m (re v2)) λ v4=>cond (qb (ieq v4 0)) (some ((T.mk 0 [] 0 [],(0,([],0))),T.mk 0 [] 0 [],3)) (cond (ieq x17 x0)
 (qa (qdG m (T.mk x1 x2 x3 x4) (re v1)) λ v5=>cond (qb v5.2) (some ((T.mk 0 [] 0 [],(0,([],0))),T.mk 0 [] 0 [],11)) (some ((re v2,(iw .i64 (qi x17 1),(x22,x18))),re v5.1,0)))
 (cond (zN (List.length x22+1) 64) (cond (ilt x18 (List.length (x22++[(x17,re v1)]))) none (K1 x0 x1 x2 x3 x4 x5 x6 x7 x8 x9 x10 x11 x12 (T.kind v2) (T.name v2) (T.sort v2) (T.kids v2)
 (iw .i64 (qi x17 1)) x18 x19 x20 x21 (x22++[(x17,re v1)]))) none)))
def qiu (m:Nat):=qH (λ _ _ _ _ _ _ _ _ _ _ _ _ _ _ _ _ _ _ _ _ _ _ _=>none) λ ih=>qoU m ih
def qaI:Nat→(Z74→(Int × T)→Z79):=qf (λ _ _=>none) λ m _=>qhN m (qiu m m)
def qw1 (m:Nat) (a0:Y8) (a1:Int):Z21 :=
 some (T.mk 2 a0 a1 [])
def qfO:Nat→(Y8→Int→Z21):=qf (λ _ _=>none) λ m _=>qw1 m
def qw3 (m:Nat):Z21 :=
 qa (qfO m [114] 2) λ v1=>some (re v1)
def qd6:Nat→(Z21):=qf (none) λ m _=>qw3 m
def qf5 (m:Nat) (a0:Int):Z1 :=
 let j1:Z1:=(cond (ile 65 a0) (some (ile a0 90)) (some false));cond (ile 97 a0) (cond (ile a0 122) (some true) j1) j1
def qab:Nat→Z2:=qf (λ _=>none) λ m _=>qf5 m
def qgZ (m:Nat) (a0:Int):Z1 :=
 cond (ile 48 a0) (some (ile a0 57)) (some false)
def qcs:Nat→Z2:=qf (λ _=>none) λ m _=>qgZ m
def qnE (m:Nat) (K1:Z82) (a0:Y8):Z81 :=
 K1 a0 0
def qwF (m:Nat) (K1:Z82) (x0:List UInt8) (x1:Int):Z81 :=
 let j1:Z81:=(cond (inb x1 (List.length x0)) (cond (inb 0 (Int.toNat x1)) (some (yY x0 0 x1)) none) none);cond (ilt x1 (List.length x0)) (qa (qd x0 x1) λ v1 =>
 qa (qab m ((UInt8.toNat v1:Nat):Int)) λ v2=>let j2:Z81:=(K1 x0 (iw .i64 (qi x1 1)));cond v2 j2 (qa (qd x0 x1) λ v3=>qa (qcs m ((UInt8.toNat v3:Nat):Int)) λ v4 =>
 cond v4 j2 (qa (qd x0 x1) λ v5=>cond (ieq ((UInt8.toNat v5:Nat):Int) 95) j2 (qa (qd x0 x1) λ v6=>cond (ieq ((UInt8.toNat v6:Nat):Int) 35) j2 j1)))) j1
def qoa (m:Nat):=qH (λ _ _=>none) λ ih=>qwF m ih
def qfL:Nat→(Y8→Z81):=qf (λ _=>none) λ m _=>qnE m (qoa m m)
def qcW (m:Nat) (K1:Z83) (a0:Y8):Z1 :=
 cond (ieq (List.length a0) 0) (some false) (cond (ilt 24 (List.length a0)) (some false) (qa (qd a0 0) λ v1=>qa (qab m ((UInt8.toNat v1:Nat):Int)) λ v2=>cond (qb v2) (some false) (K1 a0 0)))
def qcB (m:Nat) (K1:Z83) (x0:List UInt8) (x1:Int):Z1 :=
 cond (ilt x1 (List.length x0)) (qa (qd x0 x1) λ v1=>qa (qab m ((UInt8.toNat v1:Nat):Int)) λ v2=>let j1:Z1:=(K1 x0 (iw .i64 (qi x1 1)));cond (qb v2) (qa (qd x0 x1) λ v3 =>
 qa (qcs m ((UInt8.toNat v3:Nat):Int)) λ v4=>cond (qb v4) (qa (qd x0 x1) λ v5=>cond (qb (ieq ((UInt8.toNat v5:Nat):Int) 95)) (qa (qd x0 x1) λ v6 =>
 cond (qb (ieq ((UInt8.toNat v6:Nat):Int) 35)) (some false) j1) j1) j1) j1) (some true)
def QP (m:Nat):=qH (λ _ _=>none) λ ih=>qcB m ih
def Qh:Nat→Z5:=qf (λ _=>none) λ m _=>qcW m (QP m m)
def qwV (m:Nat) (a0:Int):Z81 :=
 qa (qd [[97,110,121],[97,103,101,110,116],[110,111,110,99,101],[107,101,121],[100,97,116,97],[116,97,103]] a0) λ v1=>some v1
def qmo:Nat→(Int→Z81):=qf (λ _=>none) λ m _=>qwV m
def qnL (m:Nat) (K1:Z85) (a0:T) (a1:Y8):Z84 :=
 cond (ieq (List.length a1) 0) (some (re a0,a1,ieq (T.kind a0) 1)) (qa (qd a1 0) λ v1=>cond (qb (ieq ((UInt8.toNat v1:Nat):Int) 58)) (some (re a0,a1,ieq (T.kind a0) 1)) (cond (inb (List.length a1)
 (List.length a1)) (cond (inb 1 (Int.toNat (List.length a1))) (qa (qfL m (yY a1 1 (List.length a1))) λ v2=>K1 a1 v2 0 (T.kind a0) (T.name a0) (T.sort a0) (T.kids a0) 0 [] 0 []) none) none))
def qwP (m:Nat) (K1:Z85) (x0 x1:List UInt8) (x2 x3:Int) (x4:List UInt8) (x5:Int) (x6:List (T)) (x7:Int) (x8:List UInt8) (x9:Int) (x10:List (T)):Z84 :=
 cond (ile x2 5) (qa (qmo m x2) λ v1=>cond (qC x1 v1) (let j1:Z84:=(cond (inb (List.length x0) (List.length x0)) (cond (inb (iw .i64 (qi 1 (List.length x1))) (Int.toNat (List.length x0)))
 (some (T.mk x3 x4 x2 x6,yY x0 (iw .i64 (qi 1 (List.length x1))) (List.length x0),true)) none) none);cond (qb (ieq x2 0)) j1 (cond (ieq x3 2) j1 (K1 x0 x1 (iw .i64 (qi x2 1)) x3 x4 x5 x6 x7 x8 x9 x10)))
 (K1 x0 x1 (iw .i64 (qi x2 1)) x3 x4 x5 x6 x7 x8 x9 x10)) (some (T.mk x3 x4 x5 x6,x0,false))
def qn3 (m:Nat):=qH (λ _ _ _ _ _ _ _ _ _ _ _=>none) λ ih=>qwP m ih
def qiH:Nat→(T→Y8→Z84):=qf (λ _ _=>none) λ m _=>qnL m (qn3 m m)
def qnx (m:Nat) (q_ref01_read:Z86) (K1:Z87) (a0:Y8) (a1:Int):Z84 :=
 let j1:Z84:=(qa (qfL m a0) λ v5=>qa (Qh m v5) λ v6=>cond (qb v6) (some (T.mk 2 v5 0 [],a0,false)) (cond (ieq a1 0) (some (T.mk 2 v5 0 [],a0,false)) (cond (inb (List.length a0)
 (List.length a0)) (cond (inb (List.length v5) (Int.toNat (List.length a0))) (let j2:Z84:=(qa (qiH m (T.mk 2 v5 0 []) (yY a0 (List.length v5) (List.length a0))) λ v7 =>
 some (re v7.1,v7.2.1,v7.2.2));cond (ieq (List.length (yY a0 (List.length v5) (List.length a0))) 0) j2 (qa (qd (yY a0 (List.length v5) (List.length a0)) 0) λ v8 =>
 cond (qb (ieq ((UInt8.toNat v8:Nat):Int) 40)) j2 (cond (inb (List.length (yY a0 (List.length v5) (List.length a0))) (List.length (yY a0 (List.length v5) (List.length a0))))
 (cond (inb 1 (Int.toNat (List.length (yY a0 (List.length v5) (List.length a0))))) (K1 (yY (yY a0 (List.length v5) (List.length a0)) 1 (List.length (yY a0 (List.length v5)
 (List.length a0)))) a1 0 [] 0 3 v5 0 [] []) none) none))) none) none)));cond (ilt 0 (List.length a0)) (qa (qd a0 0) λ v1=>cond (ieq ((UInt8.toNat v1:Nat):Int) 63) (cond (inb (List.length a0)
 (List.length a0)) (cond (inb 1 (Int.toNat (List.length a0))) (qa (qfL m (yY a0 1 (List.length a0))) λ v2=>qa (Qh m v2) λ v3=>cond (qb v3)
 (some (T.mk 1 v2 0 [],yY a0 1 (List.length a0),false)) (cond (ieq a1 0) (some (T.mk 1 v2 0 [],yY a0 1 (List.length a0),false)) (cond (inb (List.length (yY a0 1 (List.length a0)))
 (List.length (yY a0 1 (List.length a0)))) (cond (inb (List.length v2) (Int.toNat (List.length (yY a0 1 (List.length a0))))) (qa (qiH m (T.mk 1 v2 0 []) (yY (yY a0 1 (List.length a0)) (List.length v2)
 (List.length (yY a0 1 (List.length a0))))) λ v4=>some (re v4.1,v4.2.1,v4.2.2)) none) none))) none) none) j1) j1
def qwG (m:Nat) (q_ref01_read:Z86) (K1:Z87) (x0:List UInt8) (x1 x2:Int) (x3:List UInt8) (x4 x5:Int) (x6:List UInt8) (x7:Int) (x8 x9:List (T)):Z84 :=
 let j1:Z84:=(some (T.mk x5 x6 x7 x9,x0,false));let j2:Z84:=(cond (ieq (List.length x0) 0) j1 (cond (inb (List.length x0) (List.length x0)) (cond (inb 1 (Int.toNat (List.length x0)))
 (some (T.mk x5 x6 x7 x9,yY x0 1 (List.length x0),true)) none) none));cond (ilt 0 (List.length x0)) (qa (qd x0 0) λ v1=>cond (qb (ieq ((UInt8.toNat v1:Nat):Int) 41)) (cond (ilt 0 (List.length x9))
 (cond (ilt (List.length x0) 2) j1 (cond (inb 2 (List.length x0)) (cond (inb 0 (Int.toNat 2)) (cond (qb (qC (yY x0 0 2) [44,32])) j1 (cond (inb (List.length x0) (List.length x0))
 (cond (inb 2 (Int.toNat (List.length x0))) (qa (q_ref01_read (yY x0 2 (List.length x0)) (iw .i64 (QC x1 1))) λ v2=>cond (qb v2.2.2) (some (T.mk x5 x6 x7 x9,yY x0 2 (List.length x0),false))
 (cond (zN (List.length x9+1) 56) (K1 v2.2.1 x1 x2 x3 x4 x5 x6 x7 x8 (x9++[re v2.1])) none)) none) none)) none) none)) (qa (q_ref01_read x0 (iw .i64 (QC x1 1))) λ v3 =>
 cond (qb v3.2.2) j1 (cond (zN (List.length x9+1) 56) (K1 v3.2.1 x1 x2 x3 x4 x5 x6 x7 x8 (x9++[re v3.1])) none))) j2) j2
def qpj (m:Nat) (q_ref01_read:Z86):=qH (λ _ _ _ _ _ _ _ _ _ _=>none) λ ih=>qwG m q_ref01_read ih
def qgB:Nat→Z86:=qf (λ _ _=>none) λ m q_ref01_read=>qnx m q_ref01_read (qpj m q_ref01_read m)
def qh0 (m:Nat) (a0:T):Z10 :=
 let j1:Z10:=(qa (Qh m (T.name a0)) λ v1=>cond (qb v1) (some 2) (cond (ilt 8 (List.length (T.kids a0))) (some 3) (some 0)));let j2:Z10:=(cond (ilt 0 (List.length (T.kids a0))) (some 1) j1);
 cond (ieq (T.kind a0) 1) (cond (ilt (T.sort a0) 0) (some 1) (cond (ilt 5 (T.sort a0)) (some 1) j2)) (let j3:Z10:=(cond (ilt (T.sort a0) 0) (some 1) (cond (ilt 5 (T.sort a0)) (some 1) (let j4:Z10 :=
 (cond (ieq (T.kind a0) 2) j2 j1);cond (qb (ieq (T.kind a0) 2)) (cond (qb (ieq (T.sort a0) 0)) (some 1) j4) j4)));cond (qb (ieq (T.kind a0) 2)) (cond (qb (ieq (T.kind a0) 3)) (some 1) j3) j3)
def qgC:Nat→Z11:=qf (λ _=>none) λ m _=>qh0 m
def qdQ (m:Nat) (q_ref01_nodes:Z11) (K1:Z88) (a0:T):Z10 :=
 qa (qgC m (re a0)) λ v1=>cond (qb (ieq v1 0)) (some v1) (K1 0 (T.kind a0) (T.name a0) (T.sort a0) (T.kids a0))
def qdF (m:Nat) (q_ref01_nodes:Z11) (K1:Z88) (x0 x1:Int) (x2:List UInt8) (x3:Int) (x4:List (T)):Z10 :=
 cond (ilt x0 (List.length x4)) (qa (qd x4 x0) λ v1=>qa (q_ref01_nodes (re v1)) λ v2=>cond (qb (ieq v2 0)) (some v2) (K1 (iw .i64 (qi x0 1)) x1 x2 x3 x4)) (some 0)
def Jz (m:Nat) (q_ref01_nodes:Z11):=qH (λ _ _ _ _ _=>none) λ ih=>qdF m q_ref01_nodes ih
def yI:Nat→Z11:=qf (λ _=>none) λ m q_ref01_nodes=>qdQ m q_ref01_nodes (Jz m q_ref01_nodes m)
def qdW (m:Nat) (q_ref01_Depth:Z11) (K1:Z70) (a0:T):Z10 :=
 K1 0 0 (T.kind a0) (T.name a0) (T.sort a0) (T.kids a0)
def qd5 (m:Nat) (q_ref01_Depth:Z11) (K1:Z70) (x0 x1 x2:Int) (x3:List UInt8) (x4:Int) (x5:List (T)):Z10 :=
 cond (ilt x1 (List.length x5)) (qa (qd x5 x1) λ v1=>qa (q_ref01_Depth (re v1)) λ v2=>K1 (qk8 x0 v2) (iw .i64 (qi x1 1)) x2 x3 x4 x5) (some (iw .i64 (qi x0 1)))
def JA (m:Nat) (q_ref01_Depth:Z11):=qH (λ _ _ _ _ _ _=>none) λ ih=>qd5 m q_ref01_Depth ih
def yL:Nat→Z11:=qf (λ _=>none) λ m q_ref01_Depth=>qdW m q_ref01_Depth (JA m q_ref01_Depth m)
def qgP (m:Nat) (a0:T):Z10 :=
 qa (yI m (re a0)) λ v1=>cond (qb (ieq v1 0)) (some v1) (qa (yC m (re a0)) λ v2=>cond (ilt 400 v2) (some 3) (qa (yL m (re a0)) λ v3=>cond (ilt 40 v3) (some 3) (some 0)))
def zJ:Nat→Z11:=qf (λ _=>none) λ m _=>qgP m
def qup (m:Nat) (a0:Y8):Z30 :=
 qa (qgB m a0 800) λ v1=>cond (qb v1.2.2) (some (T.mk 0 [] 0 [],2)) (cond (qb (qC v1.2.1 [])) (some (T.mk 0 [] 0 [],2)) (qa (zJ m (re v1.1)) λ v2=>cond (qb (ieq v2 0))
 (some (T.mk 0 [] 0 [],v2)) (some (re v1.1,0))))
def qhr:Nat→(Y8→Z30):=qf (λ _=>none) λ m _=>qup m
def qrr (m:Nat):Z89 :=
 some [([112,97,105,114],(2,(2,1))),([101,110,99],(2,(2,1))),([97,101,110,99],(2,(2,1))),([112,107],(1,(1,1))),([115,105,103,110],(2,(2,1))),([104,97,115,104],(1,(1,1))),([120,111,114],(2,(8,1))),([122,101,114,111],(0,(0,1))),([101,120,112],(2,(2,1))),([109,117,108],(2,(8,1))),([105,110,118],(1,(1,1))),([111,110,101],(0,(0,1))),([115,107],(1,(1,2))),([115,104,107],(2,(2,2))),([110,101,119],(1,(8,2))),([102,115,116],(1,(1,3))),([115,110,100],(1,(1,3))),([100,101,99],(2,(2,3))),([97,100,101,99],(2,(2,3))),([111,112,101,110],(2,(2,3))),([114,101,97,100],(1,(1,3)))]
def qeJ:Nat→(Z89):=qf (none) λ m _=>qrr m
def qeS (m:Nat) (K1:Z90) (a0:Y8):Z10 :=
 qa (qeJ m) λ v1=>K1 a0 v1 0
def qeM (m:Nat) (K1:Z90) (x0:List UInt8) (x1:List (Y8 × (Int × (Int × Int)))) (x2:Int):Z10 :=
 cond (ilt x2 (List.length x1)) (qa (qd x1 x2) λ v1=>cond (qC v1.1 x0) (qa (qd x1 x2) λ v2=>some v2.2.2.2) (K1 x0 x1 (iw .i64 (qi x2 1)))) (some 0)
def qaj (m:Nat):=qH (λ _ _ _=>none) λ ih=>qeM m ih
def qb5:Nat→(Y8→Z10):=qf (λ _=>none) λ m _=>qeS m (qaj m m)
def qe0 (m:Nat) (K1:Z91) (a0:T):Z1 :=
 qa (qeJ m) λ v1=>K1 v1 0 (T.kind a0) (T.name a0) (T.sort a0) (T.kids a0)
def qeO (m:Nat) (K1:Z91) (x0:List (Y8 × (Int × (Int × Int)))) (x1 x2:Int) (x3:List UInt8) (x4:Int) (x5:List (T)):Z1 :=
 cond (ilt x1 (List.length x0)) (qa (qd x0 x1) λ v1=>cond (qC v1.1 x3) (qa (qd x0 x1) λ v2=>cond (ile v2.2.1 (List.length x5)) (qa (qd x0 x1) λ v3=>some (ile (List.length x5) v3.2.2.1))
 (some false)) (K1 x0 (iw .i64 (qi x1 1)) x2 x3 x4 x5)) (some false)
def J3 (m:Nat):=qH (λ _ _ _ _ _ _=>none) λ ih=>qeO m ih
def qf9:Nat→Z36:=qf (λ _=>none) λ m _=>qe0 m (J3 m m)
def qcT (m:Nat) (K1:Z92) (a0:T):Z1 :=
 cond (qC (T.name a0) [110,101,119]) (qa (qd (T.kids a0) 0) λ v1=>some (ieq (T.kind v1) 2)) (K1 0 (T.kind a0) (T.name a0) (T.sort a0) (T.kids a0))
def qcJ (m:Nat) (K1:Z92) (x0 x1:Int) (x2:List UInt8) (x3:Int) (x4:List (T)):Z1 :=
 cond (ilt x0 (List.length x4)) (qa (qd x4 x0) λ v1=>cond (ieq (T.kind v1) 3) (some false) (qa (qd x4 x0) λ v2=>cond (qb (ieq (T.sort v2) 1)) (some false) (K1 (iw .i64 (qi x0 1)) x1 x2 x3 x4)))
 (some true)
def Q8 (m:Nat):=qH (λ _ _ _ _ _=>none) λ ih=>qcJ m ih
def qdD:Nat→Z36:=qf (λ _=>none) λ m _=>qcT m (Q8 m m)
def qdT (m:Nat) (q_ref09_nodes:Z11) (K1:Z88) (a0:T):Z10 :=
 cond (qb (ieq (T.kind a0) 3)) (some 0) (qa (qb5 m (T.name a0)) λ v1=>cond (ieq v1 0) (some 10) (qa (qf9 m (re a0)) λ v2=>cond (qb v2) (some 6) (cond (ieq v1 2)
 (qa (qdD m (re a0)) λ v3=>cond (qb v3) (some 10) (K1 0 (T.kind a0) (T.name a0) (T.sort a0) (T.kids a0))) (K1 0 (T.kind a0) (T.name a0) (T.sort a0) (T.kids a0)))))
def qdP (m:Nat) (q_ref09_nodes:Z11) (K1:Z88) (x0 x1:Int) (x2:List UInt8) (x3:Int) (x4:List (T)):Z10 :=
 cond (ilt x0 (List.length x4)) (qa (qd x4 x0) λ v1=>qa (q_ref09_nodes (re v1)) λ v2=>cond (qb (ieq v2 0)) (some v2) (K1 (iw .i64 (qi x0 1)) x1 x2 x3 x4)) (some 0)
def Qw (m:Nat) (q_ref09_nodes:Z11):=qH (λ _ _ _ _ _=>none) λ ih=>qdP m q_ref09_nodes ih
def yq:Nat→Z11:=qf (λ _=>none) λ m q_ref09_nodes=>qdT m q_ref09_nodes (Qw m q_ref09_nodes m)
def qgK (m:Nat) (a0:T):Z10 :=
 qa (zJ m (re a0)) λ v1=>cond (qb (ieq v1 0)) (some v1) (qa (yq m (re a0)) λ v2=>some v2)
def qeB:Nat→Z11:=qf (λ _=>none) λ m _=>qgK m
def qjM (m:Nat) (a0:Y8) (a1:TL):Z21 :=
 cond (zN (List.length ([]:List (T))+List.length a1) 56) (qiN a1 (some (T.mk 3 a0 0 [])) λ v1 v2=>some (T.mk 3 a0 0 ([]++(v1::v2)))) none
def zW:Nat→Z49:=qf (λ _ _=>none) λ m _=>qjM m
def qli (m:Nat) (a0:T) (a1:Y8):Z1 :=
 cond (ieq (T.kind a0) 3) (some (qC (T.name a0) a1)) (some false)
def qad:Nat→(T→Y8→Z1):=qf (λ _ _=>none) λ m _=>qli m
def qfa (m:Nat) (a0:T):Z78 :=
 qa (qd (T.kids a0) 0) λ v1=>let j1:Z78:=(qa (qd (T.kids v1) 0) λ v3=>some (re v3,true));let j2:Z78:=(let j3:Z78:=(let j4:Z78:=(let j5:Z78:=(let j6:Z78 :=
 (cond (qC (T.name a0) [114,101,97,100]) (qa (qad m (re v1) [115,105,103,110]) λ v23=>cond v23 j1 (some (re a0,false))) (some (re a0,false)));cond (qC (T.name a0) [111,112,101,110])
 (qa (qad m (re v1) [115,105,103,110]) λ v17=>cond v17 (qa (qd (T.kids a0) 1) λ v18=>qa (qd (T.kids v1) 1) λ v19=>qa (zW m [112,107] [re v19]) λ v20 =>
 qa (yD m (re v18) (re v20)) λ v21=>cond v21 j1 j6) j6) j6);cond (qC (T.name a0) [97,100,101,99]) (qa (qad m (re v1) [97,101,110,99]) λ v11 =>
 cond v11 (qa (qd (T.kids v1) 1) λ v12=>qa (qd (T.kids a0) 1) λ v13=>qa (zW m [112,107] [re v13]) λ v14=>qa (yD m (re v12) (re v14)) λ v15=>cond v15 j1 j5) j5) j5);
 cond (qC (T.name a0) [100,101,99]) (qa (qad m (re v1) [101,110,99]) λ v6=>cond v6 (qa (qd (T.kids v1) 1) λ v7=>qa (qd (T.kids a0) 1) λ v8=>qa (yD m (re v7)
 (re v8)) λ v9=>cond v9 j1 j4) j4) j4);cond (qC (T.name a0) [115,110,100]) (qa (qad m (re v1) [112,97,105,114]) λ v4=>cond v4 (qa (qd (T.kids v1) 1) λ v5=>some (re v5,true)) j3) j3);
 cond (qC (T.name a0) [102,115,116]) (qa (qad m (re v1) [112,97,105,114]) λ v2=>cond v2 j1 j2) j2
def qci:Nat→(T→Z78):=qf (λ _=>none) λ m _=>qfa m
def qgq (m:Nat) (K1:Z93) (a0:TL) (a1:T):Z1 :=
 K1 a0 0 (T.kind a1) (T.name a1) (T.sort a1) (T.kids a1)
def qfQ (m:Nat) (K1:Z93) (x0:List (T)) (x1 x2:Int) (x3:List UInt8) (x4:Int) (x5:List (T)):Z1 :=
 cond (ilt x1 (List.length x0)) (qa (qd x0 x1) λ v1=>qa (yD m (re v1) (T.mk x2 x3 x4 x5)) λ v2=>cond v2 (some true) (K1 x0 (iw .i64 (qi x1 1)) x2 x3 x4 x5)) (some false)
def qa0 (m:Nat):=qH (λ _ _ _ _ _ _=>none) λ ih=>qfQ m ih
def qhQ:Nat→(TL→T→Z1):=qf (λ _ _=>none) λ m _=>qgq m (qa0 m m)
def qgD (m:Nat) (K1:Z94) (a0:TL) (a1:T):Z23 :=
 K1 a0 false 0 (T.kind a1) (T.name a1) (T.sort a1) (T.kids a1) []
def qgE (m:Nat) (K1:Z94) (x0:List (T)) (x1:Bool) (x2 x3:Int) (x4:List UInt8) (x5:Int) (x6 x7:List (T)):Z23 :=
 cond (ilt x2 (List.length x0)) (qa (qd x0 x2) λ v1=>qa (zk m (T.mk x3 x4 x5 x6) (re v1)) λ v2=>let j1:Z23:=(qa (qd x0 x2) λ v5=>cond (zN (List.length x7+1) 56)
 (K1 x0 x1 (iw .i64 (qi x2 1)) x3 x4 x5 x6 (x7++[re v5])) none);cond (qb x1) (cond (ile v2 0) (cond (ilt v2 0) (cond (zN (List.length x7+1) 56) (qa (qd x0 x2) λ v3 =>
 cond (zN (List.length (x7++[T.mk x3 x4 x5 x6])+1) 56) (K1 x0 true (iw .i64 (qi x2 1)) x3 x4 x5 x6 ((x7++[T.mk x3 x4 x5 x6])++[re v3])) none) none) (qa (qd x0 x2) λ v4 =>
 cond (zN (List.length x7+1) 56) (K1 x0 true (iw .i64 (qi x2 1)) x3 x4 x5 x6 (x7++[re v4])) none)) j1) j1) (cond (qb x1) (cond (zN (List.length x7+1) 56) (some (x7++[T.mk x3 x4 x5 x6])) none) (some x7))
def qa2 (m:Nat):=qH (λ _ _ _ _ _ _ _ _=>none) λ ih=>qgE m ih
def qft:Nat→(TL→T→Z23):=qf (λ _ _=>none) λ m _=>qgD m (qa2 m m)
def qcF (m:Nat) (K1:Z95) (a0:TL) (a1:T):Z23 :=
 qa (qhQ m a0 (re a1)) λ v1=>cond (qb v1) (qa (qft m a0 (re a1)) λ v2=>some v2) (K1 a0 0 (T.kind a1) (T.name a1) (T.sort a1) (T.kids a1) [])
def qcX (m:Nat) (K1:Z95) (x0:List (T)) (x1 x2:Int) (x3:List UInt8) (x4:Int) (x5 x6:List (T)):Z23 :=
 cond (ilt x1 (List.length x0)) (qa (qd x0 x1) λ v1=>qa (yD m (re v1) (T.mk x2 x3 x4 x5)) λ v2=>cond (qb v2) (qa (qd x0 x1) λ v3=>cond (zN (List.length x6+1) 56)
 (K1 x0 (iw .i64 (qi x1 1)) x2 x3 x4 x5 (x6++[re v3])) none) (K1 x0 (iw .i64 (qi x1 1)) x2 x3 x4 x5 x6)) (some x6)
def QR (m:Nat):=qH (λ _ _ _ _ _ _ _=>none) λ ih=>qcX m ih
def qdg:Nat→(TL→T→Z23):=qf (λ _ _=>none) λ m _=>qcF m (QR m m)
def qeT (m:Nat) (K1:Z96) (a0 a1:TL):Z23 :=
 cond (zN (List.length ([]:List (T))+List.length a0) 56) (qiN a0 (K1 a1 [] 0) λ v1 v2=>K1 a1 ([]++(v1::v2)) 0) none
def qeK (m:Nat) (K1:Z96) (x0 x1:List (T)) (x2:Int):Z23 :=
 cond (ilt x2 (List.length x0)) (qa (qd x0 x2) λ v1=>qa (qdg m x1 (re v1)) λ v2=>K1 x0 v2 (iw .i64 (qi x2 1))) (some x1)
def Jo (m:Nat):=qH (λ _ _ _=>none) λ ih=>qeK m ih
def qdM:Nat→(TL→TL→Z23):=qf (λ _ _=>none) λ m _=>qeT m (Jo m m)
def qbm (m:Nat) (q_ref08_Summands:Z27) (K1:Z97) (a0:T):Z23 :=
 let j1:Z23:=(cond (qb (ieq (T.kind a0) 3)) (some [re a0]) (cond (qb (qC (T.name a0) [120,111,114])) (some [re a0]) (K1 [] 0 (T.kind a0) (T.name a0) (T.sort a0) (T.kids a0))));cond (ieq (T.kind a0) 3)
 (cond (qC (T.name a0) [122,101,114,111]) (cond (ieq (List.length (T.kids a0)) 0) (some []) j1) j1) j1
def qbk (m:Nat) (q_ref08_Summands:Z27) (K1:Z97) (x0:List (T)) (x1 x2:Int) (x3:List UInt8) (x4:Int) (x5:List (T)):Z23 :=
 cond (ilt x1 (List.length x5)) (qa (qd x5 x1) λ v1=>qa (q_ref08_Summands (re v1)) λ v2=>qa (qdM m x0 v2) λ v3=>K1 v3 (iw .i64 (qi x1 1)) x2 x3 x4 x5) (some x0)
def jo (m:Nat) (q_ref08_Summands:Z27):=qH (λ _ _ _ _ _ _=>none) λ ih=>qbk m q_ref08_Summands ih
def zw:Nat→Z27:=qf (λ _=>none) λ m q_ref08_Summands=>qbm m q_ref08_Summands (jo m q_ref08_Summands m)
def qea (m:Nat) (K1:Z98) (a0:TL) (a1:T):Z10 :=
 cond (ilt 200 (List.length a0)) (some 3) (K1 a0 0 (T.kind a1) (T.name a1) (T.sort a1) (T.kids a1))
def qef (m:Nat) (K1:Z98) (x0:List (T)) (x1 x2:Int) (x3:List UInt8) (x4:Int) (x5:List (T)):Z10 :=
 cond (ilt x1 (List.length x0)) (qa (qd x0 x1) λ v1=>qa (zJ m (re v1)) λ v2=>cond (qb (ieq v2 0)) (some v2) (K1 x0 (iw .i64 (qi x1 1)) x2 x3 x4 x5))
 (qa (zJ m (T.mk x2 x3 x4 x5)) λ v3=>some v3)
def Jy (m:Nat):=qH (λ _ _ _ _ _ _=>none) λ ih=>qef m ih
def qeD:Nat→(TL→T→Z10):=qf (λ _ _=>none) λ m _=>qea m (Jy m m)
def qh9 (m:Nat):Z21 :=
 qa (zW m [122,101,114,111] []) λ v1=>some (re v1)
def qgr:Nat→(Z21):=qf (none) λ m _=>qh9 m
def qif (m:Nat) (a0:TL):Z21 :=
 cond (ieq (List.length a0) 0) (qa (zW m [122,101,114,111] []) λ v1=>some (re v1)) (cond (ieq (List.length a0) 1) (qa (qd a0 0) λ v2=>some (re v2))
 (cond (zN (List.length ([]:List (T))+List.length a0) 56) (qiN a0 (some (T.mk 3 [120,111,114] 0 [])) λ v3 v4=>some (T.mk 3 [120,111,114] 0 ([]++(v3::v4)))) none))
def qgg:Nat→(TL→Z21):=qf (λ _=>none) λ m _=>qif m
def qfU (m:Nat) (K1:Z99) (a0:TL):Z30 :=
 qa (qgr m) λ v1=>qa (qeD m a0 (re v1)) λ v2=>cond (qb (ieq v2 0)) (some (T.mk 0 [] 0 [],v2)) (K1 a0 [] 0 0 [] 0 [])
def qf2 (m:Nat) (K1:Z99) (x0 x1:List (T)) (x2 x3:Int) (x4:List UInt8) (x5:Int) (x6:List (T)):Z30 :=
 cond (ilt x2 (List.length x0)) (qa (qd x0 x2) λ v1=>qa (zw m (re v1)) λ v2=>qa (qdM m x1 v2) λ v3=>K1 x0 v3 (iw .i64 (qi x2 1)) x3 x4 x5 x6) (qa (qgg m x1) λ v4 =>
 qa (zJ m (re v4)) λ v5=>cond (qb (ieq v5 0)) (some (T.mk 0 [] 0 [],3)) (some (re v4,0)))
def qba (m:Nat):=qH (λ _ _ _ _ _ _ _=>none) λ ih=>qf2 m ih
def qhA:Nat→(TL→Z30):=qf (λ _=>none) λ m _=>qfU m (qba m m)
def qe7 (m:Nat) (a0:T):Z1 :=
 cond (ieq (T.kind a0) 3) (cond (qC (T.name a0) [109,117,108]) (some true) (cond (qC (T.name a0) [105,110,118]) (some true) (some (qC (T.name a0) [111,110,101])))) (some false)
def JB:Nat→Z36:=qf (λ _=>none) λ m _=>qe7 m
def qdL (m:Nat) (q_ref06_arity:Z36) (K1:qKd) (a0:T):Z1 :=
 qa (JB m (re a0)) λ v1=>cond (qb v1) (some true) (let j1:Z1:=(let j2:Z1:=(cond (qC (T.name a0) [111,110,101]) (cond (qb (ieq (List.length (T.kids a0)) 0)) (some false)
 (K1 (List.length (T.kids a0)) 0 (T.kind a0) (T.name a0) (T.sort a0) (T.kids a0))) (K1 (List.length (T.kids a0)) 0 (T.kind a0) (T.name a0) (T.sort a0) (T.kids a0)));cond (qC (T.name a0) [105,110,118])
 (cond (qb (ieq (List.length (T.kids a0)) 1)) (some false) j2) j2);cond (qC (T.name a0) [109,117,108]) (cond (ilt (List.length (T.kids a0)) 2) (some false) j1) j1)
def qdS (m:Nat) (q_ref06_arity:Z36) (K1:qKd) (x0 x1 x2:Int) (x3:List UInt8) (x4:Int) (x5:List (T)):Z1 :=
 cond (ilt x1 x0) (qa (qd x5 x1) λ v1=>qa (q_ref06_arity (re v1)) λ v2=>cond (qb v2) (some false) (K1 x0 (iw .i64 (qi x1 1)) x2 x3 x4 x5)) (some true)
def Qy (m:Nat) (q_ref06_arity:Z36):=qH (λ _ _ _ _ _ _=>none) λ ih=>qdS m q_ref06_arity ih
def yr:Nat→Z36:=qf (λ _=>none) λ m q_ref06_arity=>qdL m q_ref06_arity (Qy m q_ref06_arity m)
def qfF (m:Nat) (K1:qJ6) (a0:List (T × Int)) (a1:T) (a2:Int):Z41 :=
 K1 a2 false 0 (T.kind a1) (T.name a1) (T.sort a1) (T.kids a1) a0 []
def qfZ (m:Nat) (K1:qJ6) (x0:Int) (x1:Bool) (x2 x3:Int) (x4:List UInt8) (x5:Int) (x6:List (T)) (x7 x8:List (T × Int)):Z41 :=
 cond (ilt x2 (List.length x7)) (qa (qd x7 x2) λ v1=>qa (zk m (T.mk x3 x4 x5 x6) (re v1.1)) λ v2=>let j1:Z41:=(qa (qd x7 x2) λ v4=>cond (ieq v2 0)
 (cond (qb (ieq (iw .i64 (qi v4.2 x0)) 0)) (cond (zN (List.length x8+1) 64) (K1 x0 true (iw .i64 (qi x2 1)) x3 x4 x5 x6 x7 (x8++[(re v4.1,iw .i64 (qi v4.2 x0))])) none)
 (K1 x0 true (iw .i64 (qi x2 1)) x3 x4 x5 x6 x7 x8)) (cond (qb (ieq v4.2 0)) (cond (zN (List.length x8+1) 64) (K1 x0 x1 (iw .i64 (qi x2 1)) x3 x4 x5 x6 x7 (x8++[(re v4.1,v4.2)])) none)
 (K1 x0 x1 (iw .i64 (qi x2 1)) x3 x4 x5 x6 x7 x8)));cond (qb x1) (cond (ilt v2 0) (cond (zN (List.length x8+1) 64) (qa (qd x7 x2) λ v3=>cond (ieq v2 0) (cond (qb (ieq (iw .i64 (qi v3.2 x0)) 0))
 (cond (zN (List.length (x8++[(T.mk x3 x4 x5 x6,x0)])+1) 64) (K1 x0 true (iw .i64 (qi x2 1)) x3 x4 x5 x6 x7 ((x8++[(T.mk x3 x4 x5 x6,x0)])++[(re v3.1,iw .i64 (qi v3.2 x0))])) none)
 (K1 x0 true (iw .i64 (qi x2 1)) x3 x4 x5 x6 x7 (x8++[(T.mk x3 x4 x5 x6,x0)]))) (cond (qb (ieq v3.2 0)) (cond (zN (List.length (x8++[(T.mk x3 x4 x5 x6,x0)])+1) 64)
 (K1 x0 true (iw .i64 (qi x2 1)) x3 x4 x5 x6 x7 ((x8++[(T.mk x3 x4 x5 x6,x0)])++[(re v3.1,v3.2)])) none) (K1 x0 true (iw .i64 (qi x2 1)) x3 x4 x5 x6 x7 (x8++[(T.mk x3 x4 x5 x6,x0)])))) none) j1) j1)
 (cond (qb x1) (cond (zN (List.length x8+1) 64) (some ((()),(x8++[(T.mk x3 x4 x5 x6,x0)],()))) none) (some ((()),(x8,()))))
def Jb (m:Nat):=qH (λ _ _ _ _ _ _ _ _ _=>none) λ ih=>qfZ m ih
def qfA:Nat→qyv:=qf (λ _ _ _=>none) λ m _=>qfF m (Jb m m)
def qbQ (m:Nat) (q_ref06_collect:qyv) (K1:qJG) (a0:List (T × Int)) (a1:T) (a2:Int):Z41 :=
 qa (JB m (re a1)) λ v1=>cond (qb v1) (qa (qfA m a0 (re a1) a2) λ v2=>some ((()),(v2.2.1,()))) (cond (qC (T.name a1) [105,110,118]) (K1 (iw .i64 (QC 0 a2)) 0 (T.kind a1)
 (T.name a1) (T.sort a1) (T.kids a1) a0) (K1 a2 0 (T.kind a1) (T.name a1) (T.sort a1) (T.kids a1) a0))
def qbM (m:Nat) (q_ref06_collect:qyv) (K1:qJG) (x0 x1 x2:Int) (x3:List UInt8) (x4:Int) (x5:List (T)) (x6:List (T × Int)):Z41 :=
 cond (ilt x1 (List.length x5)) (qa (qd x5 x1) λ v1=>qa (q_ref06_collect x6 (re v1) x0) λ v2=>K1 x0 (iw .i64 (qi x1 1)) x2 x3 x4 x5 v2.2.1) (some ((()),(x6,())))
def jA (m:Nat) (q_ref06_collect:qyv):=qH (λ _ _ _ _ _ _ _=>none) λ ih=>qbM m q_ref06_collect ih
def zH:Nat→qyv:=qf (λ _ _ _=>none) λ m q_ref06_collect=>qbQ m q_ref06_collect (jA m q_ref06_collect m)
def qle (m:Nat) (a0:T):Z45 :=
 qa (zJ m (re a0)) λ v1=>cond (qb (ieq v1 0)) (some ([],v1)) (qa (yr m (re a0)) λ v2=>cond (qb v2) (some ([],6)) (qa (zH m [] (re a0) 1) λ v3 =>
 cond (ilt 200 (List.length v3.2.1)) (some ([],3)) (some (v3.2.1,0))))
def qe8:Nat→Z46:=qf (λ _=>none) λ m _=>qle m
def qeb (m:Nat) (K1:qCV) (a0:List (T × Int)):Z10 :=
 cond (ilt 200 (List.length a0)) (some 3) (K1 a0 0)
def qdX (m:Nat) (K1:qCV) (x0:List (T × Int)) (x1:Int):Z10 :=
 cond (ilt x1 (List.length x0)) (qa (qd x0 x1) λ v1=>qa (zJ m (re v1.1)) λ v2=>cond (qb (ieq v2 0)) (some v2) (qa (qd x0 x1) λ v3=>qa (JB m (re v3.1)) λ v4 =>
 cond v4 (some 1) (qa (qd x0 x1) λ v5=>cond (ieq v5.2 0) (some 7) (qa (qd x0 x1) λ v6=>cond (ilt v6.2 (-1000)) (some 7) (qa (qd x0 x1) λ v7=>cond (ilt 1000 v7.2) (some 7) (cond (ilt 0 x1)
 (qa (qd x0 (iw .i64 (QC x1 1))) λ v8=>qa (qd x0 x1) λ v9=>qa (zk m (re v8.1) (re v9.1)) λ v10=>cond (ile 0 v10) (some 5) (K1 x0 (iw .i64 (qi x1 1))))
 (K1 x0 (iw .i64 (qi x1 1))))))))) (some 0)
def Qz (m:Nat):=qH (λ _ _=>none) λ ih=>qdX m ih
def qaV:Nat→Z48:=qf (λ _=>none) λ m _=>qeb m (Qz m m)
def qbn (m:Nat) (K1:qk2) (K2:qk7) (K3:qk2) (K4:qk7) (a0:List (T × Int)):Z23 :=
 K1 a0 0 []
def qbe (m:Nat) (K1:qk2) (K2:qk7) (K3:qk2) (K4:qk7) (x0:List (T × Int)) (x1:Int) (x2:List (T)):Z23 :=
 cond (ilt x1 (List.length x0)) (K2 x0 x1 0 x2) (K3 x0 0 x2)
def qbd (m:Nat) (K1:qk2) (K2:qk7) (K3:qk2) (K4:qk7) (x0:List (T × Int)) (x1 x2:Int) (x3:List (T)):Z23 :=
 qa (qd x0 x1) λ v1=>cond (ilt x2 v1.2) (cond (ilt (List.length x3) 9) (qa (qd x0 x1) λ v2=>cond (zN (List.length x3+1) 56) (K2 x0 x1 (iw .i64 (qi x2 1)) (x3++[re v2.1])) none)
 (K1 x0 (iw .i64 (qi x1 1)) x3)) (K1 x0 (iw .i64 (qi x1 1)) x3)
def qbf (m:Nat) (K1:qk2) (K2:qk7) (K3:qk2) (K4:qk7) (x0:List (T × Int)) (x1:Int) (x2:List (T)):Z23 :=
 cond (ilt x1 (List.length x0)) (K4 x0 x1 0 x2) (some x2)
def qbl (m:Nat) (K1:qk2) (K2:qk7) (K3:qk2) (K4:qk7) (x0:List (T × Int)) (x1 x2:Int) (x3:List (T)):Z23 :=
 qa (qd x0 x1) λ v1=>cond (ilt x2 (iw .i64 (QC 0 v1.2))) (cond (ilt (List.length x3) 9) (qa (qd x0 x1) λ v2=>qa (zW m [105,110,118] [re v2.1]) λ v3=>cond (zN (List.length x3+1) 56)
 (K4 x0 x1 (iw .i64 (qi x2 1)) (x3++[re v3])) none) (K3 x0 (iw .i64 (qi x1 1)) x3)) (K3 x0 (iw .i64 (qi x1 1)) x3)
def qk (m:Nat):=qH ((λ _ _ _=>none,λ _ _ _ _=>none,λ _ _ _=>none,λ _ _ _ _=>none)) λ ih=>(qbe m ih.1 ih.2.1 ih.2.2.1 ih.2.2.2,qbd m ih.1 ih.2.1 ih.2.2.1 ih.2.2.2,qbf m ih.1 ih.2.1 ih.2.2.1 ih.2.2.2,qbl m ih.1 ih.2.1 ih.2.2.1 ih.2.2.2)
def qbF:Nat→(Z39→Z23):=qf (λ _=>none) λ m _=>qbn m (qk m m).1 (qk m m).2.1 (qk m m).2.2.1 (qk m m).2.2.2
def qhX (m:Nat) (a0:List (T × Int)):Z30 :=
 qa (qaV m a0) λ v1=>cond (qb (ieq v1 0)) (some (T.mk 0 [] 0 [],v1)) (qa (qbF m a0) λ v2=>cond (ilt 8 (List.length v2)) (some (T.mk 0 [] 0 [],3))
 (qa (zW m [109,117,108] v2) λ v3=>let j1:Z30:=(qa (qd v2 0) λ v5=>qa (zJ m (re v5)) λ v6=>cond (qb (ieq v6 0)) (some (T.mk 0 [] 0 [],v6)) (some (re v5,0)));
 cond (ieq (List.length v2) 0) (qa (zW m [111,110,101] []) λ v4=>cond (ieq (List.length v2) 1) j1 (qa (zJ m (re v4)) λ v7=>cond (qb (ieq v7 0)) (some (T.mk 0 [] 0 [],v7))
 (some (re v4,0)))) (cond (ieq (List.length v2) 1) j1 (qa (zJ m (re v3)) λ v10=>cond (qb (ieq v10 0)) (some (T.mk 0 [] 0 [],v10)) (some (re v3,0))))))
def qaD:Nat→Z52:=qf (λ _=>none) λ m _=>qhX m
def qe9 (m:Nat) (a0:T):Z30 :=
 qa (qe8 m (re a0)) λ v1=>cond (qb (ieq v1.2 0)) (some (T.mk 0 [] 0 [],v1.2)) (qa (qaD m v1.1) λ v2=>some (re v2.1,v2.2))
def qaz:Nat→Z58:=qf (λ _=>none) λ m _=>qe9 m
def qcg (m:Nat) (K1:qCV) (a0:List (T × Int)):Z10 :=
 K1 a0 0
def qb8 (m:Nat) (K1:qCV) (x0:List (T × Int)) (x1:Int):Z10 :=
 cond (ilt x1 (List.length x0)) (qa (qd x0 x1) λ v1=>cond (ilt v1.2 (-1000)) (some 7) (qa (qd x0 x1) λ v2=>cond (ilt 1000 v2.2) (some 7) (K1 x0 (iw .i64 (qi x1 1))))) (cond (ilt 200 (List.length x0))
 (some 3) (some 0))
def Qd (m:Nat):=qH (λ _ _=>none) λ ih=>qb8 m ih
def qco:Nat→Z48:=qf (λ _=>none) λ m _=>qcg m (Qd m m)
def qgn (m:Nat) (K1:qKm) (a0 a1:List (T × Int)):Z45 :=
 qa (qaV m a0) λ v1=>cond (qb (ieq v1 0)) (some ([],v1)) (qa (qaV m a1) λ v2=>cond (qb (ieq v2 0)) (some ([],v2)) (cond (zN (List.length ([]:List (T × Int))+List.length a0) 64)
 (qiN a0 (K1 a1 0 []) λ v3 v4=>K1 a1 0 ([]++(v3::v4))) none))
def qfT (m:Nat) (K1:qKm) (x0:List (T × Int)) (x1:Int) (x2:List (T × Int)):Z45 :=
 cond (ilt x1 (List.length x0)) (qa (qd x0 x1) λ v1=>qa (qd x0 x1) λ v2=>qa (qfA m x2 (re v1.1) v2.2) λ v3=>K1 x0 (iw .i64 (qi x1 1)) v3.2.1) (qa (qco m x2) λ v4 =>
 cond (qb (ieq v4 0)) (some ([],v4)) (some (x2,0)))
def JW (m:Nat):=qH (λ _ _ _=>none) λ ih=>qfT m ih
def qhB:Nat→Z56:=qf (λ _ _=>none) λ m _=>qgn m (JW m m)
def qgU (m:Nat) (a0 a1:T):Z30 :=
 qa (qe8 m (re a1)) λ v1=>cond (qb (ieq v1.2 0)) (some (T.mk 0 [] 0 [],v1.2)) (qa (qad m (re a0) [101,120,112]) λ v2=>cond v2 (qa (qd (T.kids a0) 1) λ v3 =>
 qa (qe8 m (re v3)) λ v4=>cond (qb (ieq v4.2 0)) (some (T.mk 0 [] 0 [],v4.2)) (qa (qhB m v4.1 v1.1) λ v5=>cond (qb (ieq v5.2 0)) (some (T.mk 0 [] 0 [],v5.2))
 (qa (qd (T.kids a0) 0) λ v6=>cond (ieq (List.length v5.1) 0) (some (re v6,0)) (qa (qaD m v5.1) λ v7=>cond (qb (ieq v7.2 0)) (some (T.mk 0 [] 0 [],v7.2))
 (qa (zW m [101,120,112] [re v6,re v7.1]) λ v8=>some (re v8,0)))))) (cond (ieq (List.length v1.1) 0) (some (re a0,0)) (qa (qaD m v1.1) λ v9=>cond (qb (ieq v9.2 0))
 (some (T.mk 0 [] 0 [],v9.2)) (qa (zW m [101,120,112] [re a0,re v9.1]) λ v10=>some (re v10,0)))))
def qew:Nat→Z57:=qf (λ _ _=>none) λ m _=>qgU m
def qcN (m:Nat) (q_ref09_normal:Z58) (K1:qKa) (a0:T):Z30 :=
 cond (qb (ieq (T.kind a0) 3)) (some (re a0,0)) (K1 0 (T.kind a0) (T.name a0) (T.sort a0) (T.kids a0) 0 [] 0 [] [])
def qcU (m:Nat) (q_ref09_normal:Z58) (K1:qKa) (x0 x1:Int) (x2:List UInt8) (x3:Int) (x4:List (T)) (x5:Int) (x6:List UInt8) (x7:Int) (x8 x9:List (T)):Z30 :=
 cond (ilt x0 (List.length x4)) (qa (qd x4 x0) λ v1=>qa (q_ref09_normal (re v1)) λ v2=>cond (qb (ieq v2.2 0)) (some (T.mk 0 [] 0 [],v2.2)) (cond (zN (List.length x9+1) 56)
 (K1 (iw .i64 (qi x0 1)) x1 x2 x3 x4 x5 x6 x7 x8 (x9++[re v2.1])) none)) (qa (zW m x2 x9) λ v3=>qa (qb5 m x2) λ v4=>cond (ieq v4 3) (qa (qci m (re v3)) λ v5 =>
 some (re v5.1,0)) (cond (qC x2 [120,111,114]) (qa (qhA m x9) λ v6=>some (re v6.1,v6.2)) (let j1:Z30:=(qa (qaz m (re v3)) λ v7=>some (re v7.1,v7.2));
 cond (qC x2 [109,117,108]) j1 (cond (qC x2 [105,110,118]) j1 (cond (qC x2 [111,110,101]) j1 (cond (qC x2 [101,120,112]) (qa (qd x9 0) λ v10=>qa (qd x9 1) λ v11 =>
 qa (qew m (re v10) (re v11)) λ v12=>some (re v12.1,v12.2)) (some (re v3,0))))))))
def Q6 (m:Nat) (q_ref09_normal:Z58):=qH (λ _ _ _ _ _ _ _ _ _ _=>none) λ ih=>qcU m q_ref09_normal ih
def yl:Nat→Z58:=qf (λ _=>none) λ m q_ref09_normal=>qcN m q_ref09_normal (Q6 m q_ref09_normal m)
def qfS (m:Nat) (a0:T):Z30 :=
 qa (qeB m (re a0)) λ v1=>cond (qb (ieq v1 0)) (some (T.mk 0 [] 0 [],v1)) (qa (yl m (re a0)) λ v2=>cond (qb (ieq v2.2 0)) (some (T.mk 0 [] 0 [],v2.2))
 (qa (zJ m (re v2.1)) λ v3=>cond (qb (ieq v3 0)) (some (T.mk 0 [] 0 [],v3)) (some (re v2.1,0))))
def qda:Nat→Z58:=qf (λ _=>none) λ m _=>qfS m
def qf8 (m:Nat) (q_ref01_All:Z27) (K1:qJL) (a0:T):Z23 :=
 K1 0 (T.kind a0) (T.name a0) (T.sort a0) (T.kids a0) [re a0]
def qgz (m:Nat) (q_ref01_All:Z27) (K1:qJL) (x0 x1:Int) (x2:List UInt8) (x3:Int) (x4 x5:List (T)):Z23 :=
 cond (ilt x0 (List.length x4)) (qa (qd x4 x0) λ v1=>qa (q_ref01_All (re v1)) λ v2=>cond (zN (List.length x5+List.length v2) 56) (K1 (iw .i64 (qi x0 1)) x1 x2 x3 x4 (x5++v2)) none) (some x5)
def qa3 (m:Nat) (q_ref01_All:Z27):=qH (λ _ _ _ _ _ _=>none) λ ih=>qgz m q_ref01_All ih
def jh:Nat→Z27:=qf (λ _=>none) λ m q_ref01_All=>qf8 m q_ref01_All (qa3 m q_ref01_All m)
def qd2 (m:Nat) (K1:qI9) (a0:T):Z1 :=
 qa (qda m (re a0)) λ v1=>cond (qb (ieq v1.2 0)) (some false) (qa (yD m (re a0) (re v1.1)) λ v2=>cond (qb v2) (some false) (qa (jh m (re a0)) λ v3=>K1 v3 0))
def qd9 (m:Nat) (K1:qI9) (x0:List (T)) (x1:Int):Z1 :=
 cond (ilt x1 (List.length x0)) (qa (qd x0 x1) λ v1=>cond (ieq (T.kind v1) 3) (qa (qd x0 x1) λ v2=>qa (qb5 m (T.name v2)) λ v3=>cond (ieq v3 3) (some false) (K1 x0 (iw .i64 (qi x1 1))))
 (K1 x0 (iw .i64 (qi x1 1)))) (some true)
def JE (m:Nat):=qH (λ _ _=>none) λ ih=>qd9 m ih
def qeC:Nat→Z36:=qf (λ _=>none) λ m _=>qd2 m (JE m m)
def qgi (m:Nat) (K1:Z96) (a0:TL):Z23 :=
 K1 a0 [] 0
def qf0 (m:Nat) (K1:Z96) (x0 x1:List (T)) (x2:Int):Z23 :=
 cond (ilt x2 (List.length x0)) (qa (qd x0 x2) λ v1=>qa (qft m x1 (re v1)) λ v2=>K1 x0 v2 (iw .i64 (qi x2 1))) (some x1)
def qa9 (m:Nat):=qH (λ _ _ _=>none) λ ih=>qf0 m ih
def qhD:Nat→Z33:=qf (λ _=>none) λ m _=>qgi m (qa9 m m)
def qe2 (m:Nat) (K1:qJe) (a0:T) (a1:Int):Z23 :=
 qa (jh m (re a0)) λ v1=>K1 a1 v1 0 []
def qe1 (m:Nat) (K1:qJe) (x0:Int) (x1:List (T)) (x2:Int) (x3:List (T)):Z23 :=
 cond (ilt x2 (List.length x1)) (qa (qd x1 x2) λ v1=>cond (ieq (T.kind v1) x0) (qa (qd x1 x2) λ v2=>cond (zN (List.length x3+1) 56) (K1 x0 x1 (iw .i64 (qi x2 1)) (x3++[re v2])) none)
 (K1 x0 x1 (iw .i64 (qi x2 1)) x3)) (qa (qhD m x3) λ v3=>some v3)
def J8 (m:Nat):=qH (λ _ _ _ _=>none) λ ih=>qe1 m ih
def qfR:Nat→(T→Int→Z23):=qf (λ _ _=>none) λ m _=>qe2 m (J8 m m)
def qh7 (m:Nat) (a0:T):Z23 :=
 qa (qfR m (re a0) 1) λ v1=>some v1
def qgc:Nat→Z27:=qf (λ _=>none) λ m _=>qh7 m
def qfE (m:Nat) (a0:T):Z1 :=
 qa (qgc m (re a0)) λ v1=>some (ieq (List.length v1) 0)
def qdd:Nat→Z36:=qf (λ _=>none) λ m _=>qfE m
def qgb (m:Nat) (a0:T):Z1 :=
 qa (qeC m (re a0)) λ v1=>cond v1 (qa (qdd m (re a0)) λ v2=>some v2) (some false)
def Qt:Nat→Z36:=qf (λ _=>none) λ m _=>qgb m
def qx0 (m:Nat) (a0:T):Z67 :=
 qa (Qt m (re a0)) λ v1=>cond (qb v1) (some ((T.mk 0 [] 0 [],(0,([],0))),10)) (some ((re a0,(0,([],4))),0))
def qoD:Nat→Z68:=qf (λ _=>none) λ m _=>qx0 m
def qd8 (m:Nat) (K1:qJp) (a0:T × (Int × ((List (Int × T)) × Int))):Z10 :=
 qa (Qt m (re a0.1)) λ v1=>cond (qb v1) (some 1) (cond (ilt a0.2.1 0) (some 1) (cond (ilt 1000 a0.2.1) (some 1) (cond (ilt a0.2.2.2 0) (some 1) (cond (ilt 8 a0.2.2.2) (some 1)
 (cond (ilt a0.2.2.2 (List.length a0.2.2.1)) (some 1) (K1 (-1) 0 (T.kind a0.1) (T.name a0.1) (T.sort a0.1) (T.kids a0.1) a0.2.1 a0.2.2.1 a0.2.2.2))))))
def qdZ (m:Nat) (K1:qJp) (x0 x1 x2:Int) (x3:List UInt8) (x4:Int) (x5:List (T)) (x6:Int) (x7:List (Int × T)) (x8:Int):Z10 :=
 cond (ilt x1 (List.length x7)) (qa (qd x7 x1) λ v1=>cond (ile v1.1 x0) (some 1) (qa (qd x7 x1) λ v2=>cond (ile x6 v2.1) (some 1) (qa (qd x7 x1) λ v3=>qa (Qt m (re v3.2)) λ v4 =>
 cond (qb v4) (some 1) (qa (qd x7 x1) λ v5=>K1 v5.1 (iw .i64 (qi x1 1)) x2 x3 x4 x5 x6 x7 x8)))) (some 0)
def JD (m:Nat):=qH (λ _ _ _ _ _ _ _ _ _=>none) λ ih=>qdZ m ih
def qaY:Nat→Z75:=qf (λ _=>none) λ m _=>qd8 m (JD m m)
def qfe (m:Nat) (a0:T) (a1:Y8):Z21 :=
 qa (qfO m a1 5) λ v1=>qa (zW m [112,97,105,114] [re a0,re v1]) λ v2=>qa (zW m [104,97,115,104] [re v2]) λ v3=>some (re v3)
def qau:Nat→(T→Y8→Z21):=qf (λ _ _=>none) λ m _=>qfe m
def qh3 (m:Nat) (a0:T):Z21 :=
 qa (qau m (re a0) [99,104,97,105,110]) λ v1=>some (re v1)
def qgf:Nat→Z22:=qf (λ _=>none) λ m _=>qh3 m
def qh4 (m:Nat) (a0:T):Z1 :=
 qa (zJ m (re a0)) λ v1=>some (qb (ieq v1 0))
def qbW:Nat→Z36:=qf (λ _=>none) λ m _=>qh4 m
def qje (m:Nat) (a0:T):Z21 :=
 qa (qau m (re a0) [109,101,115,115,97,103,101]) λ v1=>some (re v1)
def qhy:Nat→Z22:=qf (λ _=>none) λ m _=>qje m
def qid (m:Nat) (a0:T × (Int × ((List (Int × T)) × Int))) (a1:T):qGm :=
 qa (qaY m (re a0.1,(a0.2.1,(a0.2.2.1,a0.2.2.2)))) λ v1=>cond (qb (ieq v1 0)) (some ((T.mk 0 [] 0 [],(0,([],0))),(0,T.mk 0 [] 0 []),v1)) (qa (Qt m (re a1)) λ v2=>cond (qb v2)
 (some ((T.mk 0 [] 0 [],(0,([],0))),(0,T.mk 0 [] 0 []),10)) (cond (ieq a0.2.1 1000) (some ((T.mk 0 [] 0 [],(0,([],0))),(0,T.mk 0 [] 0 []),7)) (qa (qhy m (re a0.1)) λ v3 =>
 qa (zW m [101,110,99] [re a1,re v3]) λ v4=>qa (qgf m (re a0.1)) λ v5=>qa (qbW m (re v5)) λ v6=>cond v6 (some ((T.mk 0 [] 0 [],(0,([],0))),(0,T.mk 0 [] 0 []),3))
 (qa (qbW m (re v4)) λ v7=>cond v7 (some ((T.mk 0 [] 0 [],(0,([],0))),(0,T.mk 0 [] 0 []),3)) (some ((re v5,(iw .i64 (qi a0.2.1 1),(a0.2.2.1,a0.2.2.2))),(a0.2.1,re v4),0))))))
def qd4:Nat→qJI:=qf (λ _ _=>none) λ m _=>qid m
def qnC (m:Nat) (K1:qJU) (a0:Int):qDa :=
 qa (qd6 m) λ v1=>qa (qoD m (re v1)) λ v2=>K1 a0 0 (T.kind v2.1.1) (T.name v2.1.1) (T.sort v2.1.1) (T.kids v2.1.1) v2.1.2.1 v2.1.2.2.1 v2.1.2.2.2 []
def qwY (m:Nat) (K1:qJU) (x0 x1 x2:Int) (x3:List UInt8) (x4:Int) (x5:List (T)) (x6:Int) (x7:List (Int × T)) (x8:Int) (x9:List (Int × T)):qDa :=
 cond (ilt x1 x0) (qa (qd [[112],[113]] (qDr x1 2)) λ v1=>qa (qfO m v1 4) λ v2=>qa (qd4 m (T.mk x2 x3 x4 x5,(x6,(x7,x8))) (re v2)) λ v3=>cond (qb (ieq v3.2.2 0)) (some x9)
 (cond (zN (List.length x9+1) 64) (K1 x0 (iw .i64 (qi x1 1)) (T.kind v3.1.1) (T.name v3.1.1) (T.sort v3.1.1) (T.kids v3.1.1) v3.1.2.1 v3.1.2.2.1 v3.1.2.2.2 (x9++[(v3.2.1.1,re v3.2.1.2)])) none)) (some x9)
def qn0 (m:Nat):=qH (λ _ _ _ _ _ _ _ _ _ _=>none) λ ih=>qwY m ih
def qne:Nat→(Int→qDa):=qf (λ _=>none) λ m _=>qnC m (qn0 m m)
def quF (m:Nat):Z1 :=
 qa (qd6 m) λ v1=>qa (qhk m (re v1) 0) λ v2=>qa (qd6 m) λ v3=>qa (qhk m (re v3) 1) λ v4 =>
 qa (qhr m [104,97,115,104,40,112,97,105,114,40,114,58,110,111,110,99,101,44,32,109,101,115,115,97,103,101,58,116,97,103,41,41]) λ v5 =>
 qa (qhr m [104,97,115,104,40,112,97,105,114,40,104,97,115,104,40,112,97,105,114,40,114,58,110,111,110,99,101,44,32,99,104,97,105,110,58,116,97,103,41,41,44,32,109,101,115,115,97,103,101,58,116,97,103,41,41]) λ v6 =>
 qa (qd6 m) λ v7=>qa (qlh m (re v7)) λ v8=>qa (qne m 2) λ v9=>let j1:Z1:=(some false);
 cond (qb (ieq v2.2 0)) j1 (cond (qb (ieq v4.2 0)) j1 (cond (qb (ieq v8.2 0)) j1 (cond (qb (ieq (List.length v9) 2)) j1 (qa (yD m (re v2.1) (re v5.1)) λ v10 =>
 cond (qb v10) j1 (qa (yD m (re v4.1) (re v6.1)) λ v11=>cond (qb v11) j1 (qa (qd v9 1) λ v12=>qa (qaI m (re v8.1.1,(v8.1.2.1,(v8.1.2.2.1,v8.1.2.2.2)))
 (v12.1,re v12.2)) λ v13=>qa (qd v9 0) λ v14=>qa (qaI m (re v13.1.1,(v13.1.2.1,(v13.1.2.2.1,v13.1.2.2.2))) (v14.1,re v14.2)) λ v15=>qa (qd v9 0) λ v16 =>
 qa (qaI m (re v15.1.1,(v15.1.2.1,(v15.1.2.2.1,v15.1.2.2.2))) (v16.1,re v16.2)) λ v17=>cond (ieq v13.2.2 0) (cond (ieq v15.2.2 0) (some (ieq v17.2.2 21)) j1) j1))))))
def Jg:Nat→(Z1):=qf (none) λ m _=>quF m
def qcD (m:Nat) (q_ref01_budget:qDq) (K1:Z70) (a0:T) (a1:Int):Z10 :=
 cond (ile a1 0) (some (-1)) (cond (ilt 40 (List.length (T.name a0))) (some (-1)) (K1 (iw .i64 (QC a1 1)) 0 (T.kind a0) (T.name a0) (T.sort a0) (T.kids a0)))
def qcE (m:Nat) (q_ref01_budget:qDq) (K1:Z70) (x0 x1 x2:Int) (x3:List UInt8) (x4:Int) (x5:List (T)):Z10 :=
 cond (ilt x1 (List.length x5)) (qa (qd x5 x1) λ v1=>qa (q_ref01_budget (re v1) x0) λ v2=>cond (ilt v2 0) (some (-1)) (K1 v2 (iw .i64 (qi x1 1)) x2 x3 x4 x5)) (some x0)
def QK (m:Nat) (q_ref01_budget:qDq):=qH (λ _ _ _ _ _ _=>none) λ ih=>qcE m q_ref01_budget ih
def ym:Nat→qDq:=qf (λ _ _=>none) λ m q_ref01_budget=>qcD m q_ref01_budget (QK m q_ref01_budget m)
def qfJ (m:Nat) (K1:Z60) (a0:TL) (a1 a2:Int):Z1 :=
 cond (ilt a1 (List.length a0)) (some false) (K1 a0 a2 0)
def qgv (m:Nat) (K1:Z60) (x0:List (T)) (x1 x2:Int):Z1 :=
 cond (ilt x2 (List.length x0)) (qa (qd x0 x2) λ v1=>qa (ym m (re v1) x1) λ v2=>cond (ilt v2 0) (some false) (K1 x0 v2 (iw .i64 (qi x2 1)))) (some true)
def qaZ (m:Nat):=qH (λ _ _ _=>none) λ ih=>qgv m ih
def qfB:Nat→(TL→Int→Int→Z1):=qf (λ _ _ _=>none) λ m _=>qfJ m (qaZ m m)
def qcC (m:Nat) (K1:qKq) (a0:T × (Int × ((List (Int × T)) × Int))):Z23 :=
 K1 0 (T.kind a0.1) (T.name a0.1) (T.sort a0.1) (T.kids a0.1) a0.2.1 a0.2.2.1 a0.2.2.2 [re a0.1]
def qcI (m:Nat) (K1:qKq) (x0 x1:Int) (x2:List UInt8) (x3:Int) (x4:List (T)) (x5:Int) (x6:List (Int × T)) (x7:Int) (x8:List (T)):Z23 :=
 cond (ilt x0 (List.length x6)) (qa (qd x6 x0) λ v1=>cond (zN (List.length x8+1) 56) (K1 (iw .i64 (qi x0 1)) x1 x2 x3 x4 x5 x6 x7 (x8++[re v1.2])) none) (some x8)
def QY (m:Nat):=qH (λ _ _ _ _ _ _ _ _ _=>none) λ ih=>qcI m ih
def qbD:Nat→qKl:=qf (λ _=>none) λ m _=>qcC m (QY m m)
def qjx (m:Nat) (a0:T × (Int × ((List (Int × T)) × Int))):Z1 :=
 cond (ile (List.length a0.2.2.1) 12) (qa (qbD m (re a0.1,(a0.2.1,(a0.2.2.1,a0.2.2.2)))) λ v1=>qa (qfB m v1 13 600) λ v2=>some v2) (some false)
def qfs:Nat→qJv:=qf (λ _=>none) λ m _=>qjx m
def qlv (m:Nat) (K1:qJK) (a0 a1:TL):Z1 :=
 cond (qb (ieq (List.length a0) (List.length a1))) (some false) (K1 a0 a1 0)
def quf (m:Nat) (K1:qJK) (x0 x1:List (T)) (x2:Int):Z1 :=
 cond (ilt x2 (List.length x0)) (qa (qd x0 x2) λ v1=>qa (qd x1 x2) λ v2=>qa (yD m (re v1) (re v2)) λ v3=>cond (qb v3) (some false) (K1 x0 x1 (iw .i64 (qi x2 1)))) (some true)
def qnB (m:Nat):=qH (λ _ _ _=>none) λ ih=>quf m ih
def qlg:Nat→(TL→TL→Z1):=qf (λ _ _=>none) λ m _=>qlv m (qnB m m)
def qiw (m:Nat) (K1:qJr) (a0:T × (Int × ((List (Int × T)) × Int))):Z23 :=
 qa (zF m (re a0.1)) λ v1=>K1 a0.2.2.1 (List.length a0.2.2.1) 0 [re v1]
def qpZ (m:Nat) (K1:qJr) (x0:List (Int × T)) (x1 x2:Int) (x3:List (T)):Z23 :=
 cond (ilt x2 x1) (qa (qd x0 x2) λ v1=>qa (zF m (re v1.2)) λ v2=>cond (zN (List.length x3+1) 56) (K1 x0 x1 (iw .i64 (qi x2 1)) (x3++[re v2])) none) (some x3)
def qjL (m:Nat):=qH (λ _ _ _ _=>none) λ ih=>qpZ m ih
def qgY:Nat→qKl:=qf (λ _=>none) λ m _=>qiw m (qjL m m)
def qeh (m:Nat) (K1:qJa) (a0 a1:List Int):Z1 :=
 cond (qb (ieq (List.length a0) (List.length a1))) (some false) (K1 a0 a1 (List.length a0) 0)
def qke (m:Nat) (K1:qJa) (x0 x1:List (Int)) (x2 x3:Int):Z1 :=
 cond (ilt x3 x2) (qa (qd x0 x3) λ v1=>qa (qd x1 x3) λ v2=>cond (qb (ieq v1 v2)) (some false) (K1 x0 x1 x2 (iw .i64 (qi x3 1)))) (some true)
def qeH (m:Nat):=qH (λ _ _ _ _=>none) λ ih=>qke m ih
def qbK:Nat→((List Int)→(List Int)→Z1):=qf (λ _ _=>none) λ m _=>qeh m (qeH m m)
def qhz (m:Nat) (K1:qJx) (a0:T × (Int × ((List (Int × T)) × Int))):qqX :=
 K1 a0.2.2.1 (List.length a0.2.2.1) 0 []
def qo1 (m:Nat) (K1:qJx) (x0:List (Int × T)) (x1 x2:Int) (x3:List (Int)):qqX :=
 cond (ilt x2 x1) (qa (qd x0 x2) λ v1=>cond (zN (List.length x3+1) 8) (K1 x0 x1 (iw .i64 (qi x2 1)) (x3++[v1.1])) none) (some x3)
def qix (m:Nat):=qH (λ _ _ _ _=>none) λ ih=>qo1 m ih
def qgy:Nat→qJw:=qf (λ _=>none) λ m _=>qhz m (qix m m)
def qj1 (m:Nat) (K1:qKb) (a0:T × (Int × ((List (Int × T)) × Int))):qqX :=
 K1 0 (T.kind a0.1) (T.name a0.1) (T.sort a0.1) (T.kids a0.1) a0.2.1 a0.2.2.1 a0.2.2.2 []
def qrU (m:Nat) (K1:qKb) (x0 x1:Int) (x2:List UInt8) (x3:Int) (x4:List (T)) (x5:Int) (x6:List (Int × T)) (x7:Int) (x8:List (Int)):qqX :=
 cond (ilt x0 (List.length x6)) (qa (qd x6 x0) λ v1=>cond (zN (List.length x8+1) 8) (K1 (iw .i64 (qi x0 1)) x1 x2 x3 x4 x5 x6 x7 (x8++[v1.1])) none) (some x8)
def qkX (m:Nat):=qH (λ _ _ _ _ _ _ _ _ _=>none) λ ih=>qrU m ih
def qic:Nat→qJw:=qf (λ _=>none) λ m _=>qj1 m (qkX m m)
def ql2 (m:Nat) (a0:T × (Int × ((List (Int × T)) × Int))):Z1 :=
 qa (Jg m) λ v1=>let j1:Z1:=(qa (Jg m) λ v2=>some v2);cond (qb v1) j1 (qa (qfs m (re a0.1,(a0.2.1,(a0.2.2.1,a0.2.2.2)))) λ v3 =>
 cond (qb v3) j1 (qa (yT m (re a0.1,(a0.2.1,(a0.2.2.1,a0.2.2.2)))) λ v5=>qa (qaY m (re a0.1,(a0.2.1,(a0.2.2.1,a0.2.2.2)))) λ v6=>cond (ieq v5 v6)
 (qa (qgY m (re a0.1,(a0.2.1,(a0.2.2.1,a0.2.2.2)))) λ v7=>qa (qbD m (re a0.1,(a0.2.1,(a0.2.2.1,a0.2.2.2)))) λ v8=>qa (qlg m v7 v8) λ v9 =>
 cond v9 (qa (qgy m (re a0.1,(a0.2.1,(a0.2.2.1,a0.2.2.2)))) λ v10=>qa (qic m (re a0.1,(a0.2.1,(a0.2.2.1,a0.2.2.2)))) λ v11=>qa (qbK m v10 v11) λ v12 =>
 some v12) (some false)) (some false)))
def qhS:Nat→qJv:=qf (λ _=>none) λ m _=>ql2 m
def qeQ (m:Nat) (K1:qKr) (a0 a1:T × (Int × ((List (Int × T)) × Int))):Z1 :=
 cond (qb (ieq a0.2.1 a1.2.1)) (some false) (cond (qb (ieq a0.2.2.2 a1.2.2.2)) (some false) (cond (qb (ieq (List.length a0.2.2.1) (List.length a1.2.2.1))) (some false) (qa (yD m (re a0.1)
 (re a1.1)) λ v1=>cond (qb v1) (some false) (K1 0 (T.kind a0.1) (T.name a0.1) (T.sort a0.1) (T.kids a0.1) a0.2.1 a0.2.2.1 a0.2.2.2 (T.kind a1.1) (T.name a1.1) (T.sort a1.1) (T.kids a1.1) a1.2.1 a1.2.2.1 a1.2.2.2))))
def qeX (m:Nat) (K1:qKr) (x0 x1:Int) (x2:List UInt8) (x3:Int) (x4:List (T)) (x5:Int) (x6:List (Int × T)) (x7 x8:Int) (x9:List UInt8) (x10:Int) (x11:List (T)) (x12:Int) (x13:List (Int × T)) (x14:Int):Z1 :=
 cond (ilt x0 (List.length x6)) (qa (qd x6 x0) λ v1=>qa (qd x13 x0) λ v2=>cond (qb (ieq v1.1 v2.1)) (some false) (qa (qd x6 x0) λ v3=>qa (qd x13 x0) λ v4 =>
 qa (yD m (re v3.2) (re v4.2)) λ v5=>cond (qb v5) (some false) (K1 (iw .i64 (qi x0 1)) x1 x2 x3 x4 x5 x6 x7 x8 x9 x10 x11 x12 x13 x14))) (some true)
def qae (m:Nat):=qH (λ _ _ _ _ _ _ _ _ _ _ _ _ _ _ _=>none) λ ih=>qeX m ih
def qdK:Nat→(Z74→Z74→Z1):=qf (λ _ _=>none) λ m _=>qeQ m (qae m m)
def qfI (m:Nat) (a0:T × (Int × ((List (Int × T)) × Int))) (a1:T):qGm :=
 qa (yT m (re a0.1,(a0.2.1,(a0.2.2.1,a0.2.2.2)))) λ v1=>cond (qb (ieq v1 0)) (some ((T.mk 0 [] 0 [],(0,([],0))),(0,T.mk 0 [] 0 []),1)) (qa (yW m (re a1)) λ v2 =>
 cond (qb v2) (some ((T.mk 0 [] 0 [],(0,([],0))),(0,T.mk 0 [] 0 []),10)) (cond (ieq a0.2.1 1000) (some ((T.mk 0 [] 0 [],(0,([],0))),(0,T.mk 0 [] 0 []),7))
 (qa (qaX m (re a0.1,(a0.2.1,(a0.2.2.1,a0.2.2.2)))) λ v3=>qa (zF m (re a1)) λ v4=>qa (qa4 m (re a0.1)) λ v5=>qa (qak m (re a0.1)) λ v6 =>
 qa (zc m (re v6)) λ v7=>cond (qb (ieq v7 0)) (some ((T.mk 0 [] 0 [],(0,([],0))),(0,T.mk 0 [] 0 []),3)) (qa (zc m (T.mk 3 [101,110,99] 0 [re v4,re v5])) λ v8 =>
 cond (qb (ieq v8 0)) (some ((T.mk 0 [] 0 [],(0,([],0))),(0,T.mk 0 [] 0 []),3))
 (some ((re v6,(iw .i64 (qi v3.2.1.2.1 1),(v3.2.1.2.2.1,v3.2.1.2.2.2.1))),(a0.2.1,T.mk 3 [101,110,99] 0 [re v4,re v5]),0))))))
def qdC:Nat→qJI:=qf (λ _ _=>none) λ m _=>qfI m
def qgt (m:Nat) (a0:T × (Int × ((List (Int × T)) × Int))) (a1:T):Z67 :=
 qa (yT m (re a0.1,(a0.2.1,(a0.2.2.1,a0.2.2.2)))) λ v1=>cond (qb (ieq v1 0)) (some ((T.mk 0 [] 0 [],(0,([],0))),1)) (qa (yW m (re a1)) λ v2=>cond (qb v2)
 (some ((T.mk 0 [] 0 [],(0,([],0))),10)) (qa (qaX m (re a0.1,(a0.2.1,(a0.2.2.1,a0.2.2.2)))) λ v3=>qa (Qj m (re a0.1) (re a1)) λ v4=>qa (zc m (re v4)) λ v5 =>
 cond (qb (ieq v5 0)) (some ((T.mk 0 [] 0 [],(0,([],0))),3)) (some ((re v4,(v3.2.1.2.1,(v3.2.1.2.2.1,v3.2.1.2.2.2.1))),0))))
def qdo:Nat→qJy:=qf (λ _ _=>none) λ m _=>qgt m
def qh2 (m:Nat) (a0:T × (Int × ((List (Int × T)) × Int))) (a1:T):Z67 :=
 qa (qaY m (re a0.1,(a0.2.1,(a0.2.2.1,a0.2.2.2)))) λ v1=>cond (qb (ieq v1 0)) (some ((T.mk 0 [] 0 [],(0,([],0))),v1)) (qa (Qt m (re a1)) λ v2=>cond (qb v2)
 (some ((T.mk 0 [] 0 [],(0,([],0))),10)) (qa (zW m [112,97,105,114] [re a0.1,re a1]) λ v3=>qa (zW m [104,97,115,104] [re v3]) λ v4=>qa (qbW m (re v4)) λ v5 =>
 cond v5 (some ((T.mk 0 [] 0 [],(0,([],0))),3)) (some ((re v4,(a0.2.1,(a0.2.2.1,a0.2.2.2))),0))))
def qga:Nat→qJy:=qf (λ _ _=>none) λ m _=>qh2 m
def qb2 (m:Nat) (a0:T × (Int × ((List (Int × T)) × Int))) (a1:T):Z1 :=
 qa (Jg m) λ v1=>let j1:Z1:=(qa (Jg m) λ v2=>some v2);cond (qb v1) j1 (qa (qfs m (re a0.1,(a0.2.1,(a0.2.2.1,a0.2.2.2)))) λ v3 =>
 cond (qb v3) j1 (qa (qfB m [re a1] 1 100) λ v5=>cond (qb v5) j1 (qa (qdC m (re a0.1,(a0.2.1,(a0.2.2.1,a0.2.2.2))) (re a1)) λ v7 =>
 qa (qd4 m (re a0.1,(a0.2.1,(a0.2.2.1,a0.2.2.2))) (re a1)) λ v8=>qa (qdo m (re a0.1,(a0.2.1,(a0.2.2.1,a0.2.2.2))) (re a1)) λ v9 =>
 qa (qga m (re a0.1,(a0.2.1,(a0.2.2.1,a0.2.2.2))) (re a1)) λ v10=>let j2:Z1:=(some false);
 cond (qb (ieq v7.2.2 v8.2.2)) j2 (cond (qb (ieq v9.2 v10.2)) j2 (qa (qdK m (re v7.1.1,(v7.1.2.1,(v7.1.2.2.1,v7.1.2.2.2))) (re v8.1.1,(v8.1.2.1,(v8.1.2.2.1,v8.1.2.2.2)))) λ v11 =>
 cond (qb v11) j2 (qa (qdK m (re v9.1.1,(v9.1.2.1,(v9.1.2.2.1,v9.1.2.2.2))) (re v10.1.1,(v10.1.2.1,(v10.1.2.2.1,v10.1.2.2.2)))) λ v12 =>
 cond (qb v12) j2 (cond (qb (ieq v7.2.1.1 v8.2.1.1)) j2 (qa (yD m (re v7.2.1.2) (re v8.2.1.2)) λ v13=>cond (qb v13) j2 (let j3:Z1:=(cond (qb (ieq v9.2 0)) (some true)
 (qa (yT m (re v9.1.1,(v9.1.2.1,(v9.1.2.2.1,v9.1.2.2.2)))) λ v14=>some (ieq v14 0)));
 cond (qb (ieq v7.2.2 0)) j3 (qa (yT m (re v7.1.1,(v7.1.2.1,(v7.1.2.2.1,v7.1.2.2.2)))) λ v15=>cond (ieq v15 0) j3 j2))))))))))
def law53_RatchetSend:Nat→(Z74→T→Z1):=qf (λ _ _=>none) λ m _=>qb2 m
end
end Go.AmYtbpnmbmdbblehaaGreat
namespace Go.AmYtbpnmbmdbblehaaGreat
open Go Go.GxYtbpnmbmdbblehaaGreat
def Ev {α : Type} (F:Nat→Nat→Option α) (r : α):Prop:=∃ B,∀ m k,B≤m→B≤k→F m k=some r
section
variable {α β : Type} {F G:Nat→Nat→Option α} {r : α}
theorem Ev.pure (r : α):Ev (λ _ _=>some r) r:=⟨0,λ _ _ _ _=>rfl⟩
theorem Ev.ret {r r' : α} (h:r=r'):Ev (λ _ _=>some r) r':=by subst h;exact .pure r
theorem Ev.bind {X:Nat→Nat→Option β} {K:Nat→Nat → β → Option α} {a : β} (h:Ev X a) (g:Ev (λ m k=>K m k a) r):Ev (λ m k=>qa (X m k) (K m k)) r:=by
 obtain ⟨B,h⟩:=h
 obtain ⟨C,g⟩:=g
 refine ⟨max B C,λ m k hm hk=>?_⟩
 simp only [h m k (by omega) (by omega),qa]
 exact g m k (by omega) (by omega)
theorem Ev.congr (h:Ev F r) (e:∀ m k,G m k=F m k):Ev G r:=by
 obtain ⟨B,h⟩:=h
 exact ⟨B,λ m k hm hk=>(e m k).trans (h m k hm hk)⟩
theorem Ev.res {r' : α} (h:Ev F r) (e:r=r'):Ev F r':=by subst e;exact h
theorem Ev.succ {f:Nat→Option α} (h:Ev (λ m _=>f (m+1)) r):Ev (λ m _=>f m) r:=by
 obtain ⟨B,h⟩:=h
 refine ⟨B+1,λ m k hm hk=>?_⟩
 obtain ⟨m,rfl⟩:∃ n,m=n+1:=⟨m-1,by omega⟩
 exact h m B (by omega) (Nat.le_refl _)
theorem Ev.loop {L:Nat→Nat→Option α} (h:Ev (λ m k=>L m (k+1)) r):Ev (λ m k=>L m k) r:=by
 obtain ⟨B,h⟩:=h
 refine ⟨B+1,λ m k hm hk=>?_⟩
 obtain ⟨k,rfl⟩:∃ n,k=n+1:=⟨k-1,by omega⟩
 exact h m k (by omega) (by omega)
theorem Ev.diag {L:Nat→Nat→Option α} (h:Ev L r):Ev (λ m _=>L m m) r:=by
 obtain ⟨B,h⟩:=h
 exact ⟨B,λ m k hm _=>h m m hm hm⟩
theorem Ev.ct {b:Bool} (hb:b=true) (h:Ev F r):Ev (λ m k=>cond b (F m k) (G m k)) r:=by subst hb;exact h
theorem Ev.cf {b:Bool} (hb:b=false) (h:Ev G r):Ev (λ m k=>cond b (F m k) (G m k)) r:=by subst hb;exact h
theorem Ev.ite {b:Bool} (h:b=true→Ev F r) (g:b=false→Ev G r):Ev (λ m k=>cond b (F m k) (G m k)) r:=by
 cases b with
 | true=>exact h rfl
 | false=>exact g rfl
theorem Ev.some {x:Option β} {K:Nat→Nat → β → Option α} {a : β} (hx:x=some a) (g:Ev (λ m k=>K m k a) r):Ev (λ m k=>qa x (K m k)) r:=by subst hx;exact g
theorem Ev.case {l:List β} {K:Nat→Nat → β → List β → Option α} (h:l=[]→Ev F r) (g:∀ x t,l=x::t→Ev (λ m k=>K m k x t) r):Ev (λ m k=>qiN l (F m k) (K m k)) r:=by
 cases l with
 | nil=>exact h rfl
 | cons x t=>exact g x t rfl
theorem Ev.get {x:Option α} (h:Ev (λ _ _=>x) r):x=Option.some r:=by
 obtain ⟨B,h⟩:=h
 exact h B B (Nat.le_refl _) (Nat.le_refl _)
end
theorem qs {a b:Int}:ilt a b=true↔a<b:=by unfold ilt;exact decide_eq_true_iff
theorem qx {a b:Int}:ilt a b=false↔b≤a:=by unfold ilt;rw [decide_eq_false_iff_not];omega
theorem qeg {a b:Int}:ile a b=true↔a≤b:=by unfold ile;exact decide_eq_true_iff
theorem qkt {a b:Int}:ile a b=false↔b<a:=by unfold ile;rw [decide_eq_false_iff_not];omega
theorem qj {a b:Int}:ieq a b=true↔a=b:=by unfold ieq;exact beq_iff_eq
theorem qh {a b:Int}:ieq a b=false↔a≠b:=by unfold ieq;exact beq_eq_false_iff_ne
theorem bnt {b:Bool}:qb b=true↔b=false:=by cases b<;>simp [qb]
theorem bnf {b:Bool}:qb b=false↔b=true:=by cases b<;>simp [qb]
theorem jb {a b:List UInt8}:qC a b=true↔a=b:=by unfold qC;exact beq_iff_eq
theorem jr {a b:List UInt8}:qC a b=false↔a≠b:=by unfold qC;exact beq_eq_false_iff_ne
theorem Qq {n:Int} (h:-9223372036854775808≤n∧n≤9223372036854775807):iw .i64 n=n:=IntWalk.i64_in n h
theorem qnd (a b:Nat):qi (a:Int) (b:Int)=((a+b:Nat):Int):=by unfold qi;omega
theorem zf {n b:Nat} (h:n*b≤2 ^ 47) (hb:0<b):zN n b=true:=by
 unfold zN
 rw [decide_eq_true_iff]
 refine ⟨h,?_⟩
 have:n*1≤n*b:=Nat.mul_le_mul_left _ hb
 omega
theorem jN {α : Type} (l:List α) (i:Nat):qd l (i:Int)=l[i]? := by
 unfold qd
 rw [if_pos (by omega),Int.toNat_natCast]
theorem Jm {α : Type} (l:List α):qd l 0=l[0]? := jN l 0
theorem qr {α : Type} {P:Nat→Prop} (l:List α) (hl:l.length<2 ^ 62) (hend:ilt (l.length:Int) (l.length:Int)=false→P l.length)
  (hstep:∀ (i:Nat) (x : α),l[i]? = some x→l.drop i=x::l.drop (i+1)→ilt (i:Int) (l.length:Int)=true→qd l (i:Int)=some x→iw .i64 (qi (i:Int) 1)=((i+1:Nat):Int)→P (i+1)→P i):∀ i,i≤l.length→P i:=by
 intro i hi
 obtain ⟨d,hd⟩:∃ d,l.length=i+d:=⟨l.length-i,by omega⟩
 induction d generalizing i with
 | zero =>
   have:i=l.length:=by omega
   subst this
   exact hend (qx.2 (Int.le_refl _))
 | succ d ih =>
   have hlt:i<l.length:=by omega
   have hget:=List.getElem?_eq_getElem hlt
   refine hstep i _ hget (List.drop_eq_getElem_cons hlt) (qs.2 (by omega)) (by rw [jN,hget]) ?_ (ih (i+1) (by omega) (by omega))
   rw [show qi (i:Int) 1=((i+1:Nat):Int) by unfold qi;omega,Qq (by omega)]
end Go.AmYtbpnmbmdbblehaaGreat
namespace Go.AmYtbpnmbmdbblehaaGreat
open Go Go.GxYtbpnmbmdbblehaaGreat
set_option linter.unusedVariables false
theorem qAG (m):qfz (m+1)=qjS m:=rfl
theorem qwW (m):qa5 (m+1)=qdI m (jH m m):=rfl
theorem qlN (m k):(jH m (k+1))=qee m (jH m k):=rfl
theorem qyQ (m):zG (m+1)=qe3 m (zG m) (yU m (zG m) m):=rfl
theorem qnF (m k):(yU m (zG m) (k+1))=qeN m (zG m) (yU m (zG m) k):=rfl
theorem qyJ (m):zc (m+1)=qhZ m:=rfl
theorem qto (m):qaw (m+1)=qb6 m (Qn m m):=rfl
theorem qjF (m k):(Qn m (k+1))=qb4 m (Qn m k):=rfl
theorem quQ (m):qA (m+1)=qcH m (qA m) (qO m (qA m) m).1 (qO m (qA m) m).2:=rfl
theorem qkR (m k):(qO m (qA m) (k+1)).1=qcG m (qA m) (qO m (qA m) k).1 (qO m (qA m) k).2:=rfl
theorem qkr (m k):(qO m (qA m) (k+1)).2=qcV m (qA m) (qO m (qA m) k).1 (qO m (qA m) k).2:=rfl
theorem quk (m):qdn (m+1)=qfW m:=rfl
theorem qAF (m):qbH (m+1)=qjh m:=rfl
theorem qAM (m):jk (m+1)=qgd m (jk m) (qaW m (jk m) m):=rfl
theorem qoe (m k):(qaW m (jk m) (k+1))=qfD m (jk m) (qaW m (jk m) k):=rfl
theorem qug (m):qt (m+1)=qcO m (qt m) (js m (qt m) m):=rfl
theorem qf7 (m k):(js m (qt m) (k+1))=qaB m (qt m) (js m (qt m) k):=rfl
theorem qxk (m):Qc (m+1)=qgO m:=rfl
theorem qAY (m):yw (m+1)=qj7 m:=rfl
theorem qrl (m):J0 (m+1)=qen m:=rfl
theorem qey (m):zd (m+1)=yz m (ql m m).1 (ql m m).2:=rfl
theorem JH (m k):(ql m (k+1)).1=yE m (ql m k).1 (ql m k).2:=rfl
theorem JF (m k):(ql m (k+1)).2=yA m (ql m k).1 (ql m k).2:=rfl
theorem qAI (m):qhI (m+1)=qgs m (qa7 m m):=rfl
theorem qoJ (m k):(qa7 m (k+1))=qfP m (qa7 m k):=rfl
theorem qDu (m):qgV (m+1)=qhq m (qbN m m):=rfl
theorem qqs (m k):(qbN m (k+1))=qhp m (qbN m k):=rfl
theorem quy (m):zR (m+1)=qcZ m (zR m) (jR m (zR m) m):=rfl
theorem qkZ (m k):(jR m (zR m) (k+1))=qcK m (zR m) (jR m (zR m) k):=rfl
theorem qyD (m):yk (m+1)=qeW m (yk m) (J6 m (yk m) m):=rfl
theorem qnH (m k):(J6 m (yk m) (k+1))=qeR m (yk m) (J6 m (yk m) k):=rfl
theorem qvi (m):qdh (m+1)=qcR m (J2 m m):=rfl
theorem qs7 (m k):(J2 m (k+1))=qfH m (J2 m k):=rfl
theorem qEG (m):QX (m+1)=qiM m (QX m) (qde m (QX m) m):=rfl
theorem qr9 (m k):(qde m (QX m) (k+1))=qiT m (QX m) (qde m (QX m) k):=rfl
theorem qFh (m):ql0 (m+1)=qiS m (qdl m m):=rfl
theorem qsW (m k):(qdl m (k+1))=qiQ m (qdl m k):=rfl
theorem qqi (m):Jr (m+1)=qdm m:=rfl
theorem qqJ (m):za (m+1)=qbi m (za m) (jM m (za m) m):=rfl
theorem qin (m k):(jM m (za m) (k+1))=qbg m (za m) (jM m (za m) k):=rfl
theorem qnQ (m):Qv (m+1)=qcc m:=rfl
theorem Qb (m):qy (m+1)=qD m (qn m m):=rfl
theorem z8 (m k):(qn m (k+1))=qE m (qn m k):=rfl
theorem qp8 (m):Jq (m+1)=qdq m:=rfl
theorem qoA (m):qY (m+1)=qal m (qY m) (yP m (qY m) m):=rfl
theorem qgI (m k):(yP m (qY m) (k+1))=qan m (qY m) (yP m (qY m) k):=rfl
theorem qxz (m):JY (m+1)=qg6 m:=rfl
theorem qqA (m):QM (m+1)=qbb m (jm m m):=rfl
theorem qir (m k):(jm m (k+1))=qbh m (jm m k):=rfl
theorem qtt (m):jG (m+1)=qbO m (qv m m).1 (qv m m).2.1 (qv m m).2.2:=rfl
theorem qjq (m k):(qv m (k+1)).1=qcf m (qv m k).1 (qv m k).2.1 (qv m k).2.2:=rfl
theorem qjO (m k):(qv m (k+1)).2.1=qca m (qv m k).1 (qv m k).2.1 (qv m k).2.2:=rfl
theorem qjT (m k):(qv m (k+1)).2.2=qcd m (qv m k).1 (qv m k).2.1 (qv m k).2.2:=rfl
theorem qp9 (m):qaK (m+1)=qaF m (jx m m):=rfl
theorem qhE (m k):(jx m (k+1))=qaL m (jx m k):=rfl
theorem qnU (m):JI (m+1)=qb9 m:=rfl
theorem qaN (m):qX (m+1)=zp m (qw m m):=rfl
theorem yb (m k):(qw m (k+1))=qQ m (qw m k):=rfl
theorem qai (m):qP (m+1)=zM m:=rfl
theorem qpY (m):qaT (m+1)=qdj m:=rfl
theorem qvc (m):qdu (m+1)=qcS m (Q7 m m):=rfl
theorem qkK (m k):(Q7 m (k+1))=qcM m (Q7 m k):=rfl
theorem quz (m):qc9 (m+1)=qgA m:=rfl
theorem qtb (m):zP (m+1)=qbR m (zP m) (Qg m (zP m) m):=rfl
theorem qjB (m k):(Qg m (zP m) (k+1))=qbL m (zP m) (Qg m (zP m) k):=rfl
theorem qs4 (m):qcj (m+1)=qff m:=rfl
theorem qra (m):qbs (m+1)=qeq m:=rfl
theorem qmD (m):qJ (m+1)=Jt m (qJ m) (yj m (qJ m) m):=rfl
theorem qfC (m k):(yj m (qJ m) (k+1))=Jw m (qJ m) (yj m (qJ m) k):=rfl
theorem qt2 (m):qc5 (m+1)=qgp m:=rfl
theorem qlk (m):Qf (m+1)=qaq m:=rfl
theorem qnT (m):q9 (m+1)=JM m (q9 m) (y8 m (q9 m) m):=rfl
theorem qgk (m k):(y8 m (q9 m) (k+1))=JO m (q9 m) (y8 m (q9 m) k):=rfl
theorem qbG (m):qS (m+1)=qpr (qt m):=rfl
theorem qrJ (m):yc (m+1)=qet m:=rfl
theorem qaP (m):qG (m+1)=qtD (yc m):=rfl
theorem qvz (m):qc2 (m+1)=qcQ m (QO m m):=rfl
theorem qkC (m k):(QO m (k+1))=qcY m (QO m k):=rfl
theorem qxl (m):qht (m+1)=qg5 m:=rfl
theorem qAo (m):qhT (m+1)=qj9 m:=rfl
theorem qsL (m):yW (m+1)=qe6 m:=rfl
theorem qEY (m):qlR (m+1)=qiV m (qfm m m):=rfl
theorem qC1 (m k):(qfm m (k+1))=qmX m (qfm m k):=rfl
theorem qq2 (m):zF (m+1)=qek m:=rfl
theorem qp6 (m):Qj (m+1)=qds m:=rfl
theorem qub (m):qak (m+1)=qfK m:=rfl
theorem qwK (m):qa4 (m+1)=qgR m:=rfl
theorem qui (m):Jl (m+1)=qgh m:=rfl
theorem qym (m):yC (m+1)=qeY m (yC m) (qag m (yC m) m):=rfl
theorem qnv (m k):(qag m (yC m) (k+1))=qeI m (yC m) (qag m (yC m) k):=rfl
theorem qtG (m):zk (m+1)=qb1 m (zk m) (Qi m (zk m) m):=rfl
theorem qjY (m k):(Qi m (zk m) (k+1))=qbS m (zk m) (Qi m (zk m) k):=rfl
theorem qy7 (m):yD (m+1)=qh6 m:=rfl
theorem qtY (m):yT (m+1)=qbP m (Qu m m):=rfl
theorem qjG (m k):(Qu m (k+1))=qb3 m (Qu m k):=rfl
theorem qwU (m):qaX (m+1)=qdU m (JC m m):=rfl
theorem ql1 (m k):(JC m (k+1))=qd1 m (JC m k):=rfl
theorem qud (m):qab (m+1)=qf5 m:=rfl
theorem qxw (m):qcs (m+1)=qgZ m:=rfl
theorem quE (m):Qh (m+1)=qcW m (QP m m):=rfl
theorem qkI (m k):(QP m (k+1))=qcB m (QP m k):=rfl
theorem qz7 (m):qgC (m+1)=qh0 m:=rfl
theorem qw5 (m):yI (m+1)=qdQ m (yI m) (Jz m (yI m) m):=rfl
theorem qlT (m k):(Jz m (yI m) (k+1))=qdF m (yI m) (Jz m (yI m) k):=rfl
theorem qxs (m):yL (m+1)=qdW m (yL m) (JA m (yL m) m):=rfl
theorem qlG (m k):(JA m (yL m) (k+1))=qd5 m (yL m) (JA m (yL m) k):=rfl
theorem qxo (m):zJ (m+1)=qgP m:=rfl
theorem qyd (m):qb5 (m+1)=qeS m (qaj m m):=rfl
theorem qnt (m k):(qaj m (k+1))=qeM m (qaj m k):=rfl
theorem qyw (m):qf9 (m+1)=qe0 m (J3 m m):=rfl
theorem qnk (m k):(J3 m (k+1))=qeO m (J3 m k):=rfl
theorem quL (m):qdD (m+1)=qcT m (Q8 m m):=rfl
theorem qkA (m k):(Q8 m (k+1))=qcJ m (Q8 m k):=rfl
theorem qwB (m):yq (m+1)=qdT m (yq m) (Qw m (yq m) m):=rfl
theorem qlZ (m k):(Qw m (yq m) (k+1))=qdP m (yq m) (Qw m (yq m) k):=rfl
theorem qwX (m):qeB (m+1)=qgK m:=rfl
theorem qAL (m):zW (m+1)=qjM m:=rfl
theorem qCN (m):qad (m+1)=qli m:=rfl
theorem qst (m):qci (m+1)=qfa m:=rfl
theorem qA4 (m):qhQ (m+1)=qgq m (qa0 m m):=rfl
theorem qpk (m k):(qa0 m (k+1))=qfQ m (qa0 m k):=rfl
theorem qAS (m):qft (m+1)=qgD m (qa2 m m):=rfl
theorem qoC (m k):(qa2 m (k+1))=qgE m (qa2 m k):=rfl
theorem qvb (m):qdg (m+1)=qcF m (QR m m):=rfl
theorem qkJ (m k):(QR m (k+1))=qcX m (QR m k):=rfl
theorem qzi (m):qdM (m+1)=qeT m (Jo m m):=rfl
theorem qno (m k):(Jo m (k+1))=qeK m (Jo m k):=rfl
theorem qqT (m):zw (m+1)=qbm m (zw m) (jo m (zw m) m):=rfl
theorem qik (m k):(jo m (zw m) (k+1))=qbk m (zw m) (jo m (zw m) k):=rfl
theorem qxy (m):qeD (m+1)=qea m (Jy m m):=rfl
theorem qlO (m k):(Jy m (k+1))=qef m (Jy m k):=rfl
theorem qzg (m):qgr (m+1)=qh9 m:=rfl
theorem qAe (m):qgg (m+1)=qif m:=rfl
theorem qAH (m):qhA (m+1)=qfU m (qba m m):=rfl
theorem qo7 (m k):(qba m (k+1))=qf2 m (qba m k):=rfl
theorem qtv (m):JB (m+1)=qe7 m:=rfl
theorem qwN (m):yr (m+1)=qdL m (yr m) (Qy m (yr m) m):=rfl
theorem qlw (m k):(Qy m (yr m) (k+1))=qdS m (yr m) (Qy m (yr m) k):=rfl
theorem qAJ (m):qfA (m+1)=qfF m (Jb m m):=rfl
theorem qof (m k):(Jb m (k+1))=qfZ m (Jb m k):=rfl
theorem qte (m):zH (m+1)=qbQ m (zH m) (jA m (zH m) m):=rfl
theorem qjI (m k):(jA m (zH m) (k+1))=qbM m (zH m) (jA m (zH m) k):=rfl
theorem qDy (m):qe8 (m+1)=qle m:=rfl
theorem qxd (m):qaV (m+1)=qeb m (Qz m m):=rfl
theorem qlI (m k):(Qz m (k+1))=qdX m (Qz m k):=rfl
theorem qq7 (m):qbF (m+1)=qbn m (qk m m).1 (qk m m).2.1 (qk m m).2.2.1 (qk m m).2.2.2:=rfl
theorem qij (m k):(qk m (k+1)).1=qbe m (qk m k).1 (qk m k).2.1 (qk m k).2.2.1 (qk m k).2.2.2:=rfl
theorem qip (m k):(qk m (k+1)).2.1=qbd m (qk m k).1 (qk m k).2.1 (qk m k).2.2.1 (qk m k).2.2.2:=rfl
theorem qii (m k):(qk m (k+1)).2.2.1=qbf m (qk m k).1 (qk m k).2.1 (qk m k).2.2.1 (qk m k).2.2.2:=rfl
theorem qim (m k):(qk m (k+1)).2.2.2=qbl m (qk m k).1 (qk m k).2.1 (qk m k).2.2.1 (qk m k).2.2.2:=rfl
theorem qyN (m):qaD (m+1)=qhX m:=rfl
theorem qsm (m):qaz (m+1)=qe9 m:=rfl
theorem qsd (m):qco (m+1)=qcg m (Qd m m):=rfl
theorem qjs (m k):(Qd m (k+1))=qb8 m (Qd m k):=rfl
theorem qAA (m):qhB (m+1)=qgn m (JW m m):=rfl
theorem qn5 (m k):(JW m (k+1))=qfT m (JW m k):=rfl
theorem qwD (m):qew (m+1)=qgU m:=rfl
theorem qvo (m):yl (m+1)=qcN m (yl m) (Q6 m (yl m) m):=rfl
theorem qkL (m k):(Q6 m (yl m) (k+1))=qcU m (yl m) (Q6 m (yl m) k):=rfl
theorem qvu (m):qda (m+1)=qfS m:=rfl
theorem qAn (m):jh (m+1)=qf8 m (jh m) (qa3 m (jh m) m):=rfl
theorem qoR (m k):(qa3 m (jh m) (k+1))=qgz m (jh m) (qa3 m (jh m) k):=rfl
theorem qw4 (m):qeC (m+1)=qd2 m (JE m m):=rfl
theorem qls (m k):(JE m (k+1))=qd9 m (JE m k):=rfl
theorem qA1 (m):qhD (m+1)=qgi m (qa9 m m):=rfl
theorem qn1 (m k):(qa9 m (k+1))=qf0 m (qa9 m k):=rfl
theorem qyk (m):qfR (m+1)=qe2 m (J8 m m):=rfl
theorem qnj (m k):(J8 m (k+1))=qe1 m (J8 m k):=rfl
theorem qzW (m):qgc (m+1)=qh7 m:=rfl
theorem qvk (m):qdd (m+1)=qfE m:=rfl
theorem qvf (m):Qt (m+1)=qgb m:=rfl
theorem qxg (m):qaY (m+1)=qd8 m (JD m m):=rfl
theorem qlz (m k):(JD m (k+1))=qdZ m (JD m k):=rfl
theorem qtS (m):qau (m+1)=qfe m:=rfl
theorem qx7 (m):qgf (m+1)=qh3 m:=rfl
theorem qzk (m):qbW (m+1)=qh4 m:=rfl
theorem qAu (m):qhy (m+1)=qje m:=rfl
theorem qzY (m):qd4 (m+1)=qid m:=rfl
theorem quc (m):ym (m+1)=qcD m (ym m) (QK m (ym m) m):=rfl
theorem qkT (m k):(QK m (ym m) (k+1))=qcE m (ym m) (QK m (ym m) k):=rfl
theorem qAK (m):qfB (m+1)=qfJ m (qaZ m m):=rfl
theorem qoT (m k):(qaZ m (k+1))=qgv m (qaZ m k):=rfl
theorem qun (m):qbD (m+1)=qcC m (QY m m):=rfl
theorem qkx (m k):(QY m (k+1))=qcI m (QY m k):=rfl
theorem qA5 (m):qfs (m+1)=qjx m:=rfl
theorem qya (m):qdK (m+1)=qeQ m (qae m m):=rfl
theorem qnu (m k):(qae m (k+1))=qeX m (qae m k):=rfl
theorem qvh (m):qdC (m+1)=qfI m:=rfl
theorem quv (m):qdo (m+1)=qgt m:=rfl
theorem qxU (m):qga (m+1)=qh2 m:=rfl
theorem qnR (m):law53_RatchetSend (m+1)=qb2 m:=rfl
end Go.AmYtbpnmbmdbblehaaGreat
namespace Go.GxYtbpnmbmdbblehaaGreat
noncomputable def size:T→Nat:=T.para λ _ rs=>1+rs.sum
theorem qF (t:T):size t=1+(t.kids.map size).sum:=T.para_eq _ _
theorem size_pos (t:T):1≤size t:=by rw [qF];omega
theorem qCY (l:List T):l.length≤(l.map size).sum:=by
 induction l with
 | nil=>simp
 | cons x l ih=>have:=size_pos x;simp only [List.length_cons,List.map_cons,List.sum_cons];omega
theorem qiC (l:List T) (x:T) (h:x∈l):size x≤(l.map size).sum:=by
 induction l with
 | nil=>cases h
 | cons y l ih =>
   simp only [List.map_cons,List.sum_cons]
   rcases List.mem_cons.1 h with rfl | h
   ·omega
   ·have:=ih h;omega
theorem y9 (t:T) (x:T) (h:x∈t.kids):size x<size t:=by
 have:=qiC t.kids x h
 rw [qF t];omega
theorem yH (t:T):t.kids.length<size t:=by
 have:=qCY t.kids
 rw [qF t];omega
def sgn (a b:Int):Int:=if a<b then -1 else if b<a then 1 else 0
def thn (x y:Int):Int:=if x=0 then y else x
structure Cmp {α : Type} (f : α → α → Int):Prop where
 rng:∀ a b,f a b=-1∨f a b=0∨f a b=1
 anti:∀ a b,f b a=- f a b
 trans:∀ a b c,f a b=-1→f b c=-1→f a c=-1
 same:∀ a b c,f a b=0→f b c=f a c
theorem Cmp.thn {α : Type} {f g : α → α → Int} (hf:Cmp f) (hg:Cmp g):Cmp λ a b=>thn (f a b) (g a b):=by
 constructor
 ·intro a b
  have:=hf.rng a b;have:=hg.rng a b
  unfold GxYtbpnmbmdbblehaaGreat.thn;split<;>omega
 ·intro a b
  have:=hf.anti a b;have:=hg.anti a b
  unfold GxYtbpnmbmdbblehaaGreat.thn;split<;>split<;>omega
 ·intro a b c h1 h2
  have a1:=hf.anti a b;have a2:=hf.anti b c;have a3:=hf.anti a c
  have t1:=hf.trans a b c;have t2:=hg.trans a b c
  have s1:=hf.same a b c;have s2:=hf.same c b a
  have r1:=hf.rng a b;have r2:=hf.rng b c;have r3:=hf.rng a c
  unfold GxYtbpnmbmdbblehaaGreat.thn at h1 h2 ⊢
  by_cases x1:f a b=0
  ·by_cases x2:f b c=0
   ·rw [if_pos x1] at h1
    rw [if_pos x2] at h2
    rw [if_pos (by rw [← s1 x1];exact x2)]
    exact t2 h1 h2
   ·rw [if_neg x2] at h2
    rw [if_neg (by rw [← s1 x1];exact x2),← s1 x1]
    exact h2
  ·rw [if_neg x1] at h1
   by_cases x2:f b c=0
   ·have:=s2 (by omega)
    rw [if_neg (by omega)]
    omega
   ·rw [if_neg x2] at h2
    have:=t1 h1 h2
    rw [if_neg (by omega)]
    exact this
 ·intro a b c h
  have x1:f a b=0:=by
   unfold GxYtbpnmbmdbblehaaGreat.thn at h
   split at h
   ·assumption
   ·exact absurd h (by assumption)
  have x2:g a b=0:=by
   unfold GxYtbpnmbmdbblehaaGreat.thn at h
   rwa [if_pos x1] at h
  show GxYtbpnmbmdbblehaaGreat.thn _ _=GxYtbpnmbmdbblehaaGreat.thn _ _
  rw [hf.same a b c x1,hg.same a b c x2]
theorem Cmp.on {α β : Type} {f : β → β → Int} (hf:Cmp f) (p : α → β):Cmp λ a b=>f (p a) (p b) :=
 ⟨λ _ _=>hf.rng _ _,λ _ _=>hf.anti _ _,λ _ _ _=>hf.trans _ _ _,λ _ _ _=>hf.same _ _ _⟩
theorem qpO:Cmp sgn:=by
 constructor
 ·intro a b;unfold sgn;split<;>(try split)<;>omega
 ·intro a b;unfold sgn;split<;>split<;>(try split)<;>omega
 ·intro a b c;unfold sgn;split<;>split<;>(try split)<;>(try split)<;>omega
 ·intro a b c;unfold sgn;split<;>split<;>(try split)<;>(try split)<;>omega
theorem qj4 {a b:Int} (h:sgn a b=0):a=b:=by unfold sgn at h;split at h<;>(try split at h)<;>omega
theorem qGR (a:Int):sgn a a=0:=by unfold sgn;split<;>(try split)<;>omega
open Lib (compareBytes)
theorem qwo (a:List UInt8):compareBytes a a=0:=by
 induction a with
 | nil=>rfl
 | cons x a ih=>simp [compareBytes,ih]
theorem ql5:∀ a b:List UInt8,compareBytes a b=-1∨compareBytes a b=0∨compareBytes a b=1
 | [],[]=>by simp [compareBytes]
 | [],_::_=>by simp [compareBytes]
 | _::_,[]=>by simp [compareBytes]
 | x::a,y::b=>by
   unfold compareBytes
   split
   ·simp
   ·split
    ·simp
    ·exact ql5 a b
theorem qvF:∀ a b:List UInt8,compareBytes b a=- compareBytes a b
 | [],[]=>by simp [compareBytes]
 | [],_::_=>by simp [compareBytes]
 | _::_,[]=>by simp [compareBytes]
 | x::a,y::b=>by
   have:=qvF a b
   unfold compareBytes
   simp only [UInt8.lt_iff_toNat_lt]
   split<;>split<;>(try split)<;>omega
theorem qkk:∀ a b:List UInt8,compareBytes a b=0→a=b
 | [],[],_=>rfl
 | [],_::_,h=>by simp [compareBytes] at h
 | _::_,[],h=>by simp [compareBytes] at h
 | x::a,y::b,h=>by
   unfold compareBytes at h
   simp only [UInt8.lt_iff_toNat_lt] at h
   split at h
   ·omega
   ·split at h
    ·omega
    ·rw [qkk a b h,UInt8.toNat_inj.1 (show x.toNat=y.toNat by omega)]
theorem qsn:∀ a b c:List UInt8,compareBytes a b=-1→compareBytes b c=-1→compareBytes a c=-1
 | [],_,[],h1,h2=>by
   rename_i b
   cases b<;>simp [compareBytes] at h1 h2
 | [],_,_::_,_,_=>by simp [compareBytes]
 | _::_,[],_,h1,_=>by simp [compareBytes] at h1
 | _::_,_::_,[],_,h2=>by simp [compareBytes] at h2
 | x::a,y::b,z::c,h1,h2=>by
   have ih:=qsn a b c
   unfold compareBytes at h1 h2 ⊢
   simp only [UInt8.lt_iff_toNat_lt] at h1 h2 ⊢
   split at h1
   ·split at h2
    ·rw [if_pos (by omega)]
    ·split at h2
     ·omega
     ·rw [if_pos (by omega)]
   ·split at h1
    ·omega
    ·split at h2
     ·rw [if_pos (by omega)]
     ·split at h2
      ·omega
      ·rw [if_neg (by omega),if_neg (by omega)];exact ih h1 h2
theorem qFB:Cmp compareBytes :=
 ⟨ql5,qvF,qsn,λ a b c h=>by rw [qkk a b h]⟩
def Qe:List (T→Int)→List T→Int
 | r::rs,b::bs=>thn (r b) (Qe rs bs)
 | _,_=>0
noncomputable def qh8 (a b:T):Int :=
 thn (sgn (size a) (size b)) (thn (sgn a.kind b.kind) (thn (compareBytes a.name b.name) (thn (sgn a.sort b.sort) (sgn a.kids.length b.kids.length))))
noncomputable def qp:T→T→Int:=T.para λ a rs b=>thn (qh8 a b) (Qe rs b.kids)
theorem qfn (a b:T):qp a b=thn (qh8 a b) (Qe (a.kids.map qp) b.kids):=congrFun (T.para_eq _ _) b
theorem qdv:Cmp qh8 :=
 (qpO.on λ t:T=>(size t:Int)).thn ((qpO.on T.kind).thn ((qFB.on T.name).thn ((qpO.on T.sort).thn (qpO.on λ t:T=>(t.kids.length:Int)))))
theorem qfc {x y:Int} (h:thn x y=0):x=0∧y=0:=by unfold thn at h;split at h<;>omega
theorem qoi {a b:T} (h:qh8 a b=0):a.kind=b.kind∧a.name=b.name∧a.sort=b.sort∧a.kids.length=b.kids.length:=by
 unfold qh8 at h
 obtain ⟨_,h⟩:=qfc h
 obtain ⟨h2,h⟩:=qfc h
 obtain ⟨h3,h⟩:=qfc h
 obtain ⟨h4,h5⟩:=qfc h
 have:=qj4 h5
 exact ⟨qj4 h2,qkk _ _ h3,qj4 h4,by omega⟩
theorem qD0 (a:T):qh8 a a=0:=by
 unfold qh8 thn
 simp [qGR,qwo]
theorem T.ext {a b:T} (h1:a.kind=b.kind) (h2:a.name=b.name) (h3:a.sort=b.sort) (h4:a.kids=b.kids):a=b:=by
 obtain ⟨k,n,s,l⟩:=a
 obtain ⟨k',n',s',l'⟩:=b
 simp only [T.kind,T.name,T.sort,T.kids] at h1 h2 h3 h4
 rw [h1,h2,h3,h4]
theorem qoP (a:T):qp a a=0:=by
 refine T.ind (P := λ a=>qp a a=0) ?_ a
 intro a ih
 rw [qfn,qD0,thn,if_pos rfl]
 generalize a.kids=l at *
 induction l with
 | nil=>rfl
 | cons x l ihl =>
   rw [List.map_cons,Qe,ih x (List.mem_cons_self ..),thn,if_pos rfl]
   exact ihl λ k hk=>ih k (List.mem_cons_of_mem _ hk)
theorem JX (a:T):∀ b,qp a b=0→a=b:=by
 refine T.ind (P := λ a=>∀ b,qp a b=0→a=b) ?_ a
 intro a ih b h
 rw [qfn] at h
 obtain ⟨h1,h2⟩:=qfc h
 obtain ⟨k1,k2,k3,k4⟩:=qoi h1
 refine T.ext k1 k2 k3 ?_
 generalize a.kids=l at *
 generalize b.kids=m at *
 clear h h1
 induction l generalizing m with
 | nil=>exact (List.length_eq_zero_iff.1 k4.symm).symm
 | cons x l ihl =>
   cases m with
   | nil=>simp at k4
   | cons y m =>
     rw [List.map_cons,Qe] at h2
     obtain ⟨h3,h4⟩:=qfc h2
     rw [ih x (List.mem_cons_self ..) y h3,ihl (λ k hk=>ih k (List.mem_cons_of_mem _ hk)) m h4 (by simpa using k4)]
def qsj (a:T):Prop:=(∀ b,qp a b=-1∨qp a b=0∨qp a b=1)∧(∀ b,qp b a=- qp a b)∧(∀ b c,qp a b=-1→qp b c=-1→qp a c=-1)
theorem qyO:∀ l m:List T,(∀ k∈l,qsj k)→Qe (l.map qp) m=-1∨Qe (l.map qp) m=0∨Qe (l.map qp) m=1
 | [],_,_=>by simp [Qe]
 | _::_,[],_=>by simp [Qe]
 | x::l,y::m,h=>by
   rw [List.map_cons,Qe]
   have h1:=(h x (List.mem_cons_self ..)).1 y
   have h2:=qyO l m λ k hk=>h k (List.mem_cons_of_mem _ hk)
   unfold thn;split<;>omega
theorem qv4:∀ l m:List T,(∀ k∈l,qsj k)→Qe (m.map qp) l=- Qe (l.map qp) m
 | [],[],_=>by simp [Qe]
 | [],_::_,_=>by simp [Qe]
 | _::_,[],_=>by simp [Qe]
 | x::l,y::m,h=>by
   rw [List.map_cons,Qe,List.map_cons,Qe]
   have h1:=(h x (List.mem_cons_self ..)).2.1 y
   have h2:=qv4 l m λ k hk=>h k (List.mem_cons_of_mem _ hk)
   unfold thn;split<;>split<;>omega
theorem qtw:∀ l m n:List T,(∀ k∈l,qsj k)→l.length=m.length→m.length=n.length→Qe (l.map qp) m=-1→Qe (m.map qp) n=-1→Qe (l.map qp) n=-1
 | [],_,_,_,_,_,h,_=>by simp [Qe] at h
 | _::_,[],_,_,h,_,_,_=>by simp at h
 | _::_,_::_,[],_,_,h,_,_=>by simp at h
 | x::l,y::m,z::n,h,e1,e2,h1,h2=>by
   rw [List.map_cons,Qe] at h1 h2 ⊢
   have hx:=h x (List.mem_cons_self ..)
   have ih:=qtw l m n (λ k hk=>h k (List.mem_cons_of_mem _ hk)) (by simpa using e1) (by simpa using e2)
   have t1:=hx.2.2 y z
   by_cases x1:qp x y=0
   ·have:=JX x y x1
    subst this
    rw [thn,if_pos x1] at h1
    by_cases x2:qp x z=0
    ·rw [thn,if_pos x2] at h2 ⊢
     exact ih h1 h2
    ·rw [thn,if_neg x2] at h2 ⊢
     exact h2
   ·rw [thn,if_neg x1] at h1
    by_cases x2:qp y z=0
    ·have:=JX y z x2
     subst this
     rw [thn,if_neg x1]
     exact h1
    ·rw [thn,if_neg x2] at h2
     have:=t1 h1 h2
     rw [thn,if_neg (by omega)]
     exact this
theorem qCI (a:T):qsj a:=by
 refine T.ind (P:=qsj) ?_ a
 intro a ih
 refine ⟨λ b=>?_,λ b=>?_,λ b c h1 h2=>?_⟩
 ·rw [qfn]
  have h1:=qdv.rng a b
  have h2:=qyO a.kids b.kids ih
  unfold thn;split<;>omega
 ·rw [qfn,qfn]
  have h1:=qdv.anti a b
  have h2:=qv4 a.kids b.kids ih
  unfold thn;split<;>split<;>omega
 ·rw [qfn] at h1 h2 ⊢
  by_cases x1:qh8 a b=0
  ·rw [thn,if_pos x1] at h1
   have e:=qdv.same a b c x1
   by_cases x2:qh8 b c=0
   ·rw [thn,if_pos x2] at h2
    rw [thn,if_pos (by rw [← e];exact x2)]
    exact qtw _ _ _ ih (qoi x1).2.2.2 (qoi x2).2.2.2 h1 h2
   ·rw [thn,if_neg x2] at h2
    rw [thn,if_neg (by rw [← e];exact x2),← e]
    exact h2
  ·rw [thn,if_neg x1] at h1
   by_cases x2:qh8 b c=0
   ·have e1:=qdv.anti b c
    have e2:=qdv.same c b a (by omega)
    have e3:=qdv.anti a b
    have e4:=qdv.anti a c
    rw [thn,if_neg (by omega)];omega
   ·rw [thn,if_neg x2] at h2
    have:=qdv.trans a b c h1 h2
    rw [thn,if_neg (by omega)];exact this
theorem zI:Cmp qp :=
 ⟨λ a=>(qCI a).1,λ a b=>(qCI a).2.1 b,λ a=>(qCI a).2.2,λ a b c h=>by rw [JX a b h]⟩
theorem qGr (a b:T):qp a b=0↔a=b:=⟨JX a b,λ h=>by rw [h];exact qoP b⟩
theorem qns:∀ a b:List UInt8,Op.bytesLess a b=decide (compareBytes a b=-1)
 | [],[]=>by simp [Op.bytesLess,compareBytes]
 | [],_::_=>by simp [Op.bytesLess,compareBytes]
 | _::_,[]=>by simp [Op.bytesLess,compareBytes]
 | x::a,y::b=>by
   rw [Op.bytesLess,compareBytes,qns a b]
   by_cases h1:x<y
   ·simp [h1]
   ·by_cases h2:y<x
    ·have:¬ x=y := λ e=>by rw [e] at h2;exact h1 (by rw [e];exact h2)
     simp [h1,h2,this]
    ·have:x=y:=UInt8.toNat_inj.1 (by rw [UInt8.lt_iff_toNat_lt] at h1 h2;omega)
     simp [this]
end Go.GxYtbpnmbmdbblehaaGreat
namespace Go.GxYtbpnmbmdbblehaaGreat
def qjp:List (Int→Int)→Int→Int
 | [],m=>m
 | f::fs,m=>if f m<0 then -1 else qjp fs (f m)
noncomputable def qar:T→Int→Int:=T.para λ t rs m=>if m≤0∨40<t.name.length then -1 else qjp rs (m-1)
theorem qBu (t:T) (m:Int):qar t m=if m≤0∨40<t.name.length then -1 else qjp (t.kids.map qar) (m-1):=congrFun (T.para_eq _ _) m
theorem qpl (t:T):∀ m,qar t m<0∧qar t m=-1∨0≤qar t m∧qar t m=m-size t:=by
 refine T.ind (P := λ t=>∀ m,qar t m<0∧qar t m=-1∨0≤qar t m∧qar t m=m-size t) ?_ t
 intro t ih m
 have hL:∀ l:List T,(∀ k∈l,k∈t.kids)→∀ m,0≤m→(qjp (l.map qar) m<0∧qjp (l.map qar) m=-1∨0≤qjp (l.map qar) m∧qjp (l.map qar) m=m-((l.map size).sum:Nat)):=by
  intro l
  induction l with
  | nil=>intro _ m hm;right;simp [qjp];exact hm
  | cons x l ihl =>
    intro hl m hm
    simp only [List.map_cons,qjp,List.sum_cons]
    have h1:=ih x (hl x (List.mem_cons_self ..)) m
    by_cases h2:qar x m<0
    ·rw [if_pos h2];left;exact ⟨by omega,rfl⟩
    ·rw [if_neg h2]
     have h3:=ihl (λ k hk=>hl k (List.mem_cons_of_mem _ hk)) (qar x m) (by omega)
     omega
 rw [qBu,qF]
 split
 ·left;exact ⟨by omega,rfl⟩
 ·have:=hL t.kids (λ _ h=>h) (m-1) (by omega)
  omega
noncomputable def qa6:T→Nat:=T.para λ _ rs=>rs.foldl max 0+1
theorem qfo (t:T):qa6 t=(t.kids.map qa6).foldl max 0+1:=T.para_eq _ _
theorem qz3 (l:List Nat):∀ (a b:Nat),a≤b→(∀ x∈l,x≤b)→l.foldl max a≤b:=by
 induction l with
 | nil=>intro a b h _;exact h
 | cons x l ih=>intro a b h hx;exact ih _ _ (Nat.max_le.2 ⟨h,hx x (List.mem_cons_self ..)⟩) λ y hy=>hx y (List.mem_cons_of_mem _ hy)
theorem qBq (t:T):qa6 t≤size t:=by
 refine T.ind (P := λ t=>qa6 t≤size t) ?_ t
 intro t ih
 rw [qfo,qF]
 have:(t.kids.map qa6).foldl max 0≤(t.kids.map size).sum:=by
  refine qz3 _ _ _ (Nat.zero_le _) λ x hx=>?_
  obtain ⟨k,hk,rfl⟩:=List.mem_map.1 hx
  exact Nat.le_trans (ih k hk) (qiC _ _ hk)
 omega
def qhe (c:Int):Bool:=decide (97≤c∧c≤122)||decide (65≤c∧c≤90)
def qre (c:Int):Bool:=decide (48≤c∧c≤57)
def JR (c:Int):Bool:=qhe c||qre c||decide (c=95)||decide (c=35)
def QI (l:List UInt8):Bool:=decide (0<l.length)&&decide (l.length≤24)&&qhe ((l.getD 0 0).toNat:Int)&&l.all λ c=>JR (c.toNat:Int)
def qkY (k so:Int) (n:Nat) (ok:Bool):Int :=
 if k=1∨k=2 then (if so<0∨5<so∨0<n then 1 else if ok then 0 else 2)
 else if k=3 then (if so≠0 then 1 else if ok then (if 8<n then 3 else 0) else 2)
 else 1
def Qm (t:T):Int:=qkY t.kind t.sort t.kids.length (QI t.name)
noncomputable def Jk:T→Int:=T.para λ t rs=>rs.foldl thn (Qm t)
theorem qhw (t:T):Jk t=(t.kids.map Jk).foldl thn (Qm t):=T.para_eq _ _
theorem jQ {x:Int} (h:x≠0) (y:Int):thn x y=x:=if_neg h
theorem qL (l:List Int):∀ {x:Int},x≠0→l.foldl thn x=x:=by
 induction l with
 | nil=>intro x _;rfl
 | cons y l ih=>intro x h;rw [List.foldl_cons,jQ h];exact ih h
theorem jO (l:List Int) (x:Int):(x::l).foldl thn 0=l.foldl thn x:=rfl
theorem qk6 {t:T} (h:Jk t=0):Qm t=0∧(∀ k∈t.kids,Jk k=0):=by
 rw [qhw] at h
 by_cases h0:Qm t=0
 ·refine ⟨h0,?_⟩
  rw [h0] at h
  generalize t.kids=l at *
  clear h0
  induction l with
  | nil=>intro k hk;cases hk
  | cons x l ih =>
    rw [List.map_cons,jO] at h
    by_cases hx:Jk x=0
    ·rw [hx] at h
     intro k hk
     rcases List.mem_cons.1 hk with rfl | hk
     ·exact hx
     ·exact ih h k hk
    ·rw [qL _ hx] at h;exact absurd h hx
 ·rw [qL _ h0] at h;exact absurd h h0
noncomputable def qu (t:T):Int:=if Jk t≠0 then Jk t else if 400<size t∨40<qa6 t then 3 else 0
theorem qzA (l:List Nat):∀ a:Nat,a≤l.foldl max a:=by
 induction l with
 | nil=>intro a;exact Nat.le_refl _
 | cons x l ih=>intro a;exact Nat.le_trans (Nat.le_max_left a x) (ih _)
noncomputable instance:DecidableEq T := λ _ _=>Classical.propDecidable _
noncomputable def yK (a b:T):Bool:=decide (a=b)
noncomputable def qmc:List T→Int→Bool
 | [],_=>true
 | x::l,m=>if qar x m<0 then false else qmc l (qar x m)
theorem qwe:∀ (l:List T) (m:Int),0≤m→qmc l m=true→((l.map size).sum:Nat)≤m
 | [],m,hm,_=>by simpa using hm
 | x::l,m,hm,h=>by
   rw [qmc] at h
   by_cases hx:qar x m<0
   ·rw [if_pos hx] at h;exact absurd h (by decide)
   ·rw [if_neg hx] at h
    have h1:=qpl x m
    have h2:=qwe l (qar x m) (by omega) h
    simp only [List.map_cons,List.sum_cons]
    omega
def jq:List (List UInt8 × Int × Int × Int):=[
 ([112,97,105,114],2,2,1),
 ([101,110,99],2,2,1),
 ([97,101,110,99],2,2,1),
 ([112,107],1,1,1),
 ([115,105,103,110],2,2,1),
 ([104,97,115,104],1,1,1),
 ([120,111,114],2,8,1),
 ([122,101,114,111],0,0,1),
 ([101,120,112],2,2,1),
 ([109,117,108],2,8,1),
 ([105,110,118],1,1,1),
 ([111,110,101],0,0,1),
 ([115,107],1,1,2),
 ([115,104,107],2,2,2),
 ([110,101,119],1,8,2),
 ([102,115,116],1,1,3),
 ([115,110,100],1,1,3),
 ([100,101,99],2,2,3),
 ([97,100,101,99],2,2,3),
 ([111,112,101,110],2,2,3),
 ([114,101,97,100],1,1,3)]
def quW (l:List (List UInt8 × Int × Int × Int)) (n:List UInt8):Int × Int × Int:=((l.find? λ r=>r.1==n).map (·.2)).getD (0,0,0)
theorem qFo (r:List UInt8 × Int × Int × Int) (l:List (List UInt8 × Int × Int × Int)) (n:List UInt8):quW (r::l) n=if (r.1==n)=true then r.2 else quW l n:=by
 unfold quW
 rw [List.find?_cons]
 cases h:r.1==n<;>simp
def qGk (l:List (List UInt8 × Int × Int × Int)) (n:List UInt8):Bool:=l.any λ r=>r.1==n
def qk4 (l:List (List UInt8 × Int × Int × Int)) (n:List UInt8) (k:Int):Bool:=qGk l n&&decide ((quW l n).1≤k)&&decide (k≤(quW l n).2.1)
theorem qEF (r:List UInt8 × Int × Int × Int) (l:List (List UInt8 × Int × Int × Int)) (n:List UInt8) (k:Int) :
  qk4 (r::l) n k=if (r.1==n)=true then decide (r.2.1≤k)&&decide (k≤r.2.2.1) else qk4 l n k:=by
 unfold qk4
 rw [qFo]
 unfold qGk
 rw [List.any_cons]
 cases h:r.1==n<;>simp
def qmE:List UInt8:=[112,97,105,114]
def qk5:List UInt8:=[101,110,99]
def qhu:List UInt8:=[97,101,110,99]
def nPk:List UInt8:=[112,107]
def qd3:List UInt8:=[115,105,103,110]
def qcz:List UInt8:=[120,111,114]
def qbj:List UInt8:=[122,101,114,111]
def qcu:List UInt8:=[101,120,112]
def qeu:List UInt8:=[109,117,108]
def j9:List UInt8:=[105,110,118]
def qgG:List UInt8:=[111,110,101]
def nSk:List UInt8:=[115,107]
def qru:List UInt8:=[115,104,107]
def qg7:List UInt8:=[110,101,119]
def qHv:List UInt8:=[102,115,116]
def qux:List UInt8:=[115,110,100]
def qHu:List UInt8:=[100,101,99]
def qCP:List UInt8:=[97,100,101,99]
def qDx:List UInt8:=[111,112,101,110]
def qDI:List UInt8:=[114,101,97,100]
def zT:T := .mk 0 [] 0 []
def kid (t:T) (i:Nat):T:=t.kids.getD i zT
def apT (n:List UInt8) (l:List T):T := .mk 3 n 0 l
def isN (t:T) (n:List UInt8):Bool:=t.kind==3&&t.name==n
def qB (n:List UInt8):Int × Int × Int:=((jq.find? λ r=>r.1==n).map (·.2)).getD (0,0,0)
def JU (t:T):Bool :=
 if t.name=qg7 then decide ((kid t 0).kind≠2)
 else if t.name=nSk∨t.name=qru then t.kids.any λ k=>decide (k.kind=3)||decide (k.sort≠1) else false
def qas (t:T):Int :=
 if t.kind≠3 then 0 else if (qB t.name).2.2=0 then 10 else if (t.kids.length:Int)<(qB t.name).1∨(qB t.name).2.1<(t.kids.length:Int) then 6 else if JU t then 10 else 0
noncomputable def qZ:T→Int:=T.para λ t rs=>if t.kind≠3 then 0 else rs.foldl thn (qas t)
theorem qi8 (t:T):qZ t=if t.kind≠3 then 0 else (t.kids.map qZ).foldl thn (qas t):=T.para_eq _ _
noncomputable def qhg (t:T):Int:=thn (qu t) (qZ t)
noncomputable def zO (t:T):Bool :=
 if t.name=qHv∨t.name=qux then isN (kid t 0) qmE
 else if t.name=qHu then isN (kid t 0) qk5&&yK (kid (kid t 0) 1) (kid t 1)
 else if t.name=qCP then isN (kid t 0) qhu&&isN (kid (kid t 0) 1) nPk&&yK (kid (kid (kid t 0) 1) 0) (kid t 1)
 else if t.name=qDx then isN (kid t 0) qd3&&isN (kid t 1) nPk&&yK (kid (kid t 0) 1) (kid (kid t 1) 0)
 else if t.name=qDI then isN (kid t 0) qd3 else false
noncomputable def qhW (t:T):T:=if zO t then kid (kid t 0) (if t.name=qux then 1 else 0) else t
def qbT (t:T):Bool:=t.kind==3&&(t.name==qeu||t.name==j9||t.name==qgG)
abbrev Pw:=T × Int
noncomputable def yf:List Pw→T→Int→List Pw
 | [],t,n=>[(t,n)]
 | (x,m)::l,t,n=>if qp t x=-1 then (t,n)::(x,m)::l else if qp t x=0 then (if m+n=0 then l else (x,m+n)::l) else (x,m)::yf l t n
def arK (t:T):Bool := !(t.name==qgG&&t.kids.length != 0||t.name==j9&&t.kids.length != 1||t.name==qeu&&decide (t.kids.length<2))
noncomputable def arT:T→Bool:=T.para λ t rs => !qbT t||(arK t&&rs.all id)
theorem qtg (t:T):arT t=(!qbT t||(arK t&&(t.kids.map arT).all id)):=T.para_eq _ _
def J9 (t:T) (n:Int):Int:=if t.name=j9 then -n else n
noncomputable def yS:T→List Pw→Int→List Pw:=T.para λ t rs l n=>if qbT t then rs.foldl (λ l f=>f l (J9 t n)) l else yf l t n
theorem qfk (t:T) (l:List Pw) (n:Int):yS t l n=if qbT t then (t.kids.map yS).foldl (λ l f=>f l (J9 t n)) l else yf l t n:=by
 have h:yS t = λ l n=>if qbT t then (t.kids.map yS).foldl (λ l f=>f l (J9 t n)) l else yf l t n:=T.para_eq _ _
 rw [h]
noncomputable def ofP (t:T):List Pw × Int :=
 if qu t≠0 then ([],qu t) else if arT t=false then ([],6) else if 200<(yS t [] 1).length then ([],3) else (yS t [] 1,0)
noncomputable def pvK (q:Option T) (p:Pw):Int :=
 if qu p.1≠0 then qu p.1 else if qbT p.1 then 1 else if p.2=0∨p.2 < -1000∨1000<p.2 then 7 else match q with | some x=>if 0≤qp x p.1 then 5 else 0 | none=>0
noncomputable def pvL:Option T→List Pw→Int
 | _,[]=>0
 | q,p::l=>thn (pvK q p) (pvL (some p.1) l)
noncomputable def QD (l:List Pw):Int:=if 200<l.length then 3 else pvL none l
def zL (l:List Pw):List T:=l.flatMap λ p=>List.replicate p.2.toNat p.1
def zS (l:List Pw):List T:=l.flatMap λ p=>List.replicate (-p.2).toNat (apT j9 [p.1])
def Jj (o:List T):T:=if o.length=0 then apT qgG [] else if o.length=1 then o.getD 0 zT else apT qeu o
noncomputable def qam (l:List Pw):T × Int :=
 if QD l≠0 then (zT,QD l) else if 8<(zL l++zS l).length then (zT,3)
 else if qu (Jj (zL l++zS l))≠0 then (zT,qu (Jj (zL l++zS l))) else (Jj (zL l++zS l),0)
def qlf (l:List Pw):Bool:=l.any λ p=>decide (p.2 < -1000)||decide (1000<p.2)
noncomputable def Qp (a b:List Pw):List Pw:=b.foldl (λ l p=>yf l p.1 p.2) a
noncomputable def qkb (a b:List Pw):List Pw × Int :=
 if QD a≠0 then ([],QD a) else if QD b≠0 then ([],QD b) else if qlf (Qp a b) then ([],7) else if 200<(Qp a b).length then ([],3) else (Qp a b,0)
noncomputable def zh:List T→List T→List T
 | [],b=>b
 | x::a,[]=>x::a
 | x::a,y::b=>if qp x y=-1 then x::zh a (y::b) else if qp x y=1 then y::zh (x::a) b else zh a b
termination_by a b=>a.length+b.length
noncomputable def jt:T→List T:=T.para λ t rs=>if isN t qbj&&t.kids.isEmpty then [] else if isN t qcz then rs.foldl zh [] else [t]
theorem qj2 (t:T):jt t=if isN t qbj&&t.kids.isEmpty then [] else if isN t qcz then (t.kids.map jt).foldl zh [] else [t]:=T.para_eq _ _
noncomputable def qlW (l:List T):Int:=if 200<l.length then 3 else (l.map qu).foldl thn 0
noncomputable def zD (l:List T):List T:=(l.map jt).foldl zh []
def Jx (o:List T):T:=if o.length=0 then apT qbj [] else if o.length=1 then o.getD 0 zT else apT qcz o
noncomputable def qmL (l:List T):T × Int :=
 if qlW l≠0 then (zT,qlW l) else if qu (Jx (zD l))≠0 then (zT,3) else (Jx (zD l),0)
noncomputable def qgL (b:T) (l:List Pw):T × Int :=
 if l.length=0 then (b,0) else if (qam l).2≠0 then (zT,(qam l).2) else (apT qcu [b,(qam l).1],0)
noncomputable def qma (b e:T):T × Int :=
 if (ofP e).2≠0 then (zT,(ofP e).2)
 else if isN b qcu then
  (if (ofP (kid b 1)).2≠0 then (zT,(ofP (kid b 1)).2)
   else if (qkb (ofP (kid b 1)).1 (ofP e).1).2≠0 then (zT,(qkb (ofP (kid b 1)).1 (ofP e).1).2)
   else qgL (kid b 0) (qkb (ofP (kid b 1)).1 (ofP e).1).1)
 else qgL b (ofP e).1
def isD (n:List UInt8):Bool:=n==qHv||n==qux||n==qHu||n==qCP||n==qDx||n==qDI
noncomputable def qku (t:T):T × Int:=if (ofP t).2≠0 then (zT,(ofP t).2) else qam (ofP t).1
noncomputable def QV (t:T):T × Int :=
 if isD t.name then (qhW t,0) else if t.name=qcz then qmL t.kids
 else if t.name=qeu∨t.name=j9∨t.name=qgG then qku t
 else if t.name=qcu then qma (kid t 0) (kid t 1) else (t,0)
noncomputable def zi:T→T × Int:=T.para λ t rs =>
 if t.kind≠3 then (t,0) else if (rs.map (·.2)).foldl thn 0≠0 then (zT,(rs.map (·.2)).foldl thn 0) else QV (apT t.name (rs.map (·.1)))
theorem qlp (t:T):zi t=if t.kind≠3 then (t,0) else if ((t.kids.map zi).map (·.2)).foldl thn 0≠0 then (zT,((t.kids.map zi).map (·.2)).foldl thn 0) else QV (apT t.name ((t.kids.map zi).map (·.1))):=T.para_eq _ _
noncomputable def qhf (t:T):T × Int :=
 if qhg t≠0 then (zT,qhg t) else if (zi t).2≠0 then (zT,(zi t).2) else if qu (zi t).1≠0 then (zT,qu (zi t).1) else zi t
def agB (l:List T):Bool:=l.all λ k => !(k.kind==3) && !(k.sort != 1)
def qi9 (t:T):Bool:=if t.name=qg7 then (kid t 0).kind==2 else agB t.kids
theorem qHd (k:T) (l:List T):agB (k::l)=((!(k.kind==3) && !(k.sort != 1))&&agB l):=rfl
end Go.GxYtbpnmbmdbblehaaGreat
namespace Go.AmYtbpnmbmdbblehaaGreat
open Go Go.GxYtbpnmbmdbblehaaGreat Go.Lib
theorem qkP (a b:Int):Ev (λ m _=>Jl m a b) (sgn a b):=by
 refine Ev.succ ?_
 simp only [qui,qgh]
 unfold sgn
 refine Ev.ite (λ h=>?_) λ h=>?_
 ·exact Ev.ret (by rw [if_pos (qs.1 h)])
 ·rw [qx] at h
  refine Ev.ite (λ h'=>?_) λ h'=>?_
  ·rw [qs] at h'
   exact Ev.ret (by rw [if_neg (by omega),if_pos h'])
  ·rw [qx] at h'
   exact Ev.ret (by rw [if_neg (by omega),if_neg (by omega)])
theorem qrH {l:List T} {i:Nat} {x:T} (h:l.drop i=x::l.drop (i+1)):((l.drop i).map size).sum=size x+((l.drop (i+1)).map size).sum:=by
 rw [h,List.map_cons,List.sum_cons]
theorem qrT (t:T):size t≤1000000000→Ev (λ m _=>yC m t) (size t:Int):=by
 induction t using T.ind with
 | h t ih =>
   intro hs
   refine Ev.succ ?_
   simp only [qym,qeY]
   have hl:=yH t
   have he:=qF t
   have key:=qr (P := λ i=>∀ acc:Nat,acc+((t.kids.drop i).map size).sum≤1000000000→Ev (λ m k=>qag m (yC m) k acc i t.kind t.name t.sort t.kids) ((acc+((t.kids.drop i).map size).sum:Nat):Int)) t.kids (by omega)
    (λ hc acc _=>by
     refine Ev.loop ?_
     simp only [qnv,qeI]
     refine Ev.cf hc ?_
     exact Ev.ret (by simp))
    (λ i x hx hd hc hg hi hP acc ha=>by
     rw [qrH hd] at ha ⊢
     refine Ev.loop ?_
     simp only [qnv,qeI]
     refine Ev.ct hc (Ev.some hg ?_)
     rw [qe]
     refine Ev.bind (ih x (List.mem_of_getElem? hx) (by omega)) ?_
     rw [hi,qnd,Qq (by omega)]
     refine (hP (acc+size x) (by omega)).res (by congr 1;omega))
   refine Ev.diag (L := λ m k=>qag m (yC m) k 1 0 t.kind t.name t.sort t.kids) ?_
   refine (key 0 (Nat.zero_le _) 1 (by simp;omega)).res (by rw [List.drop_zero,he])
theorem qzz (a b:Nat):qk8 (a:Int) (b:Int)=((max a b:Nat):Int):=by unfold qk8;split<;>omega
theorem qpQ (a b:Int):Ev (λ m _=>qbH m a b) (sgn a b):=by
 refine Ev.succ ?_
 simp only [qAF,qjh]
 unfold sgn
 refine Ev.ite (λ h=>?_) λ h=>?_
 ·exact Ev.ret (by rw [if_pos (qs.1 h)])
 ·rw [qx] at h
  refine Ev.ite (λ h'=>?_) λ h'=>?_
  ·rw [qs] at h'
   exact Ev.ret (by rw [if_neg (by omega),if_pos h'])
  ·rw [qx] at h'
   exact Ev.ret (by rw [if_neg (by omega),if_neg (by omega)])
theorem qxS (t:T):size t≤1000000000→Ev (λ m _=>jk m t) (size t:Int):=by
 induction t using T.ind with
 | h t ih =>
   intro hs
   refine Ev.succ ?_
   simp only [qAM,qgd]
   have hl:=yH t
   have he:=qF t
   have key:=qr (P := λ i=>∀ acc:Nat,acc+((t.kids.drop i).map size).sum≤1000000000→Ev (λ m k=>qaW m (jk m) k acc t.kids t.kids.length i) ((acc+((t.kids.drop i).map size).sum:Nat):Int)) t.kids (by omega)
    (λ hc acc _=>by
     refine Ev.loop ?_
     simp only [qoe,qfD]
     refine Ev.cf hc ?_
     exact Ev.ret (by simp))
    (λ i x hx hd hc hg hi hP acc ha=>by
     rw [qrH hd] at ha ⊢
     refine Ev.loop ?_
     simp only [qoe,qfD]
     refine Ev.ct hc (Ev.some hg ?_)
     rw [qe]
     refine Ev.bind (ih x (List.mem_of_getElem? hx) (by omega)) ?_
     rw [hi,qnd,Qq (by omega)]
     refine (hP (acc+size x) (by omega)).res (by congr 1;omega))
   refine Ev.diag (L := λ m k=>qaW m (jk m) k 1 t.kids t.kids.length 0) ?_
   refine (key 0 (Nat.zero_le _) 1 (by simp;omega)).res (by rw [List.drop_zero,he])
theorem qEz (t:T):size t≤1000000000→Ev (λ m _=>yL m t) (qa6 t:Int):=by
 induction t using T.ind with
 | h t ih =>
   intro hs
   refine Ev.succ ?_
   simp only [qxs,qdW]
   have hl:=yH t
   have he:=qF t
   have key:=qr (P := λ i=>∀ acc:Nat,acc≤1000000000→Ev (λ m k=>JA m (yL m) k acc i t.kind t.name t.sort t.kids) ((((t.kids.drop i).map qa6).foldl max acc+1:Nat):Int)) t.kids (by omega)
    (λ hc acc _=>by
     refine Ev.loop ?_
     simp only [qlG,qd5]
     refine Ev.cf hc ?_
     rw [show qi (acc:Int) 1=((acc+1:Nat):Int) by unfold qi;omega,Qq (by omega)]
     exact Ev.ret (by simp))
    (λ i x hx hd hc hg hi hP acc ha=>by
     refine Ev.loop ?_
     simp only [qlG,qd5]
     refine Ev.ct hc (Ev.some hg ?_)
     rw [qe]
     have hm:=List.mem_of_getElem? hx
     have h1:=y9 t x hm
     have h2:=qBq x
     refine Ev.bind (ih x hm (by omega)) ?_
     rw [hi,qzz]
     refine (hP (max acc (qa6 x)) (by omega)).res ?_
     rw [hd,List.map_cons,List.foldl_cons])
   refine Ev.diag (L := λ m k=>JA m (yL m) k 0 0 t.kind t.name t.sort t.kids) ?_
   refine (key 0 (Nat.zero_le _) 0 (by omega)).res (by rw [List.drop_zero,qfo])
theorem qzy (fs:List (T→Int)):Qe fs []=0:=by cases fs<;>rfl
theorem qvV {l m:List T} {i:Nat} {x y:T} (h1:l.drop i=x::l.drop (i+1)) (h2:m.drop i=y::m.drop (i+1)):Qe ((l.drop i).map qp) (m.drop i)=thn (qp x y) (Qe ((l.drop (i+1)).map qp) (m.drop (i+1))):=by
 rw [h1,h2,List.map_cons];rfl
theorem qAk {l:List T} {i:Nat} {y:T} (h:l[i]? = some y):l.drop i=y::l.drop (i+1):=by
 obtain ⟨hlt,rfl⟩:=List.getElem?_eq_some_iff.1 h
 exact List.drop_eq_getElem_cons hlt
theorem qrc (a b:List UInt8):slt a b=decide (compareBytes a b=-1):=qns a b
theorem qza (a b:List UInt8):qpi (slt a b) (qC a b)=decide (compareBytes a b≠1):=by
 rw [qrc]
 unfold qpi qC
 rcases ql5 a b with h | h | h
 ·rw [h];rfl
 ·have:=qkk a b h
  subst this
  rw [h];simp
 ·have:(a==b)=false:=by
    rw [beq_eq_false_iff_ne];intro he;subst he;rw [qwo] at h;omega
  rw [h,this];rfl
theorem qhl (a:T):size a≤1000000000→∀ b,size b≤1000000000→Ev (λ m _=>zk m a b) (qp a b):=by
 induction a using T.ind with
 | h a ih =>
   intro ha b hb
   refine Ev.succ ?_
   simp only [qtG,qb1,qe]
   have hla:=yH a
   have hlb:=yH b
   rw [qfn]
   unfold qh8
   refine Ev.bind (qrT a ha) (Ev.bind (qrT b hb) (Ev.bind (qkP _ _) ?_))
   refine Ev.ite (λ h=>?_) λ h=>?_
   ·rw [bnt,qh] at h
    exact Ev.ret (by rw [jQ (by rw [jQ h];exact h),jQ h])
   rw [bnf,qj] at h
   rw [h,show ∀ y,thn 0 y=y from λ y=>rfl]
   refine Ev.bind (qkP _ _) ?_
   refine Ev.ite (λ h=>?_) λ h=>?_
   ·rw [bnt,qh] at h
    exact Ev.ret (by rw [jQ (by rw [jQ h];exact h),jQ h])
   rw [bnf,qj] at h
   rw [h,show ∀ y,thn 0 y=y from λ y=>rfl]
   refine Ev.ite (λ h=>?_) λ h=>?_
   ·rw [qrc,decide_eq_true_iff] at h
    exact Ev.ret (by rw [h];rfl)
   rw [qrc,decide_eq_false_iff_not] at h
   refine Ev.ite (λ h'=>?_) λ h'=>?_
   ·rw [bnt,qza,decide_eq_false_iff_not,Decidable.not_not] at h'
    exact Ev.ret (by rw [h'];rfl)
   rw [bnf,qza,decide_eq_true_iff] at h'
   have h0:compareBytes a.name b.name=0:=by have:=ql5 a.name b.name;omega
   rw [h0,show ∀ y,thn 0 y=y from λ y=>rfl]
   refine Ev.bind (qkP _ _) ?_
   refine Ev.ite (λ h=>?_) λ h=>?_
   ·rw [bnt,qh] at h
    exact Ev.ret (by rw [jQ (by rw [jQ h];exact h),jQ h])
   rw [bnf,qj] at h
   rw [h,show ∀ y,thn 0 y=y from λ y=>rfl]
   refine Ev.bind (qkP _ _) ?_
   refine Ev.ite (λ h=>?_) λ h=>?_
   ·rw [bnt,qh] at h
    exact Ev.ret (by rw [jQ h])
   rw [bnf,qj] at h
   rw [h,show ∀ y,thn 0 y=y from λ y=>rfl]
   have hlen:a.kids.length=b.kids.length:=by have:=qj4 h;omega
   have key:=qr (P := λ i=>Ev (λ m k=>Qi m (zk m) k i a.kind a.name a.sort a.kids b.kind b.name b.sort b.kids) (Qe ((a.kids.drop i).map qp) (b.kids.drop i))) a.kids (by omega)
    (λ hc=>by
     refine Ev.loop ?_
     simp only [qjY,qbS]
     refine Ev.cf hc ?_
     exact Ev.ret (by rw [hlen,List.drop_length,qzy]))
    (λ i x hx hd hc hg hi hP=>by
     refine Ev.loop ?_
     simp only [qjY,qbS,qe]
     have hib:i<b.kids.length:=by have:=(List.getElem?_eq_some_iff.1 hx).1;omega
     have hy:=List.getElem?_eq_getElem hib
     have hmx:=List.mem_of_getElem? hx
     have h1:=y9 a x hmx
     have h2:=y9 b _ (List.mem_of_getElem? hy)
     refine Ev.ct hc (Ev.some hg (Ev.some (by rw [jN];exact hy) ?_))
     rw [qvV hd (qAk hy)]
     refine Ev.bind (ih x hmx (by omega) _ (by omega)) ?_
     refine Ev.ite (λ h=>?_) λ h=>?_
     ·rw [bnt,qh] at h
      exact Ev.ret (by rw [jQ h])
     ·rw [bnf,qj] at h
      rw [h,hi]
      exact hP)
   refine Ev.diag (L := λ m k=>Qi m (zk m) k 0 a.kind a.name a.sort a.kids b.kind b.name b.sort b.kids) ?_
   exact (key 0 (Nat.zero_le _)).res (by rw [List.drop_zero,List.drop_zero])
theorem qFk (a b:List UInt8):Ev (λ m _=>strings_Compare 0 a b) (compareBytes a b):=Ev.pure _
theorem qcq (a:T):size a≤1000000000→∀ b,size b≤1000000000→Ev (λ m _=>qt m a b) (qp a b):=by
 induction a using T.ind with
 | h a ih =>
   intro ha b hb
   refine Ev.succ ?_
   simp only [qug,qcO,qe]
   have hla:=yH a
   have hlb:=yH b
   rw [qfn]
   unfold qh8
   have stop:∀ c:Int,c≠0→∀ i:Int,Ev (λ m k=>js m (qt m) k c i a.kind a.name a.sort a.kids b.kind b.name b.sort b.kids) c:=by
    intro c hc i
    refine Ev.loop ?_
    simp only [qf7,qaB]
    exact Ev.cf (qh.2 hc) (Ev.pure c)
   have key:a.kids.length=b.kids.length→∀ i,i≤a.kids.length→Ev (λ m k=>js m (qt m) k 0 i a.kind a.name a.sort a.kids b.kind b.name b.sort b.kids) (Qe ((a.kids.drop i).map qp) (b.kids.drop i)) := λ hlen=>qr a.kids (by omega)
    (λ hc=>by
     refine Ev.loop ?_
     simp only [qf7,qaB]
     refine Ev.ct rfl (Ev.cf hc ?_)
     exact Ev.ret (by rw [hlen,List.drop_length,qzy]))
    (λ i x hx hd hc hg hi hP=>by
     refine Ev.loop ?_
     simp only [qf7,qaB,qe]
     have hib:i<b.kids.length:=by have:=(List.getElem?_eq_some_iff.1 hx).1;omega
     have hy:=List.getElem?_eq_getElem hib
     have hmx:=List.mem_of_getElem? hx
     have h1:=y9 a x hmx
     have h2:=y9 b _ (List.mem_of_getElem? hy)
     refine Ev.ct rfl (Ev.ct hc (Ev.some hg (Ev.some (by rw [jN];exact hy) ?_)))
     rw [qvV hd (qAk hy)]
     refine Ev.bind (ih x hmx (by omega) _ (by omega)) ?_
     rw [hi]
     by_cases h:qp x b.kids[i]=0
     ·rw [h];exact hP
     ·rw [jQ h];exact stop _ h _)
   have fin:∀ c:Int,(c=0→a.kids.length=b.kids.length)→Ev (λ m k=>js m (qt m) m c 0 a.kind a.name a.sort a.kids b.kind b.name b.sort b.kids) (thn c (Qe (a.kids.map qp) b.kids)):=by
    intro c hc
    refine Ev.diag (L := λ m k=>js m (qt m) k c 0 a.kind a.name a.sort a.kids b.kind b.name b.sort b.kids) ?_
    by_cases h:c=0
    ·subst h
     exact (key (hc rfl) 0 (Nat.zero_le _)).res (by rw [List.drop_zero,List.drop_zero];rfl)
    ·rw [jQ h];exact stop c h 0
   refine Ev.bind (qxS a ha) (Ev.bind (qxS b hb) (Ev.bind (qpQ _ _) ?_))
   have z0:∀ y,thn 0 y=y := λ y=>rfl
   by_cases h1:sgn (size a:Int) (size b)=0
   ·rw [h1,z0]
    refine Ev.ct rfl (Ev.bind (qpQ _ _) ?_)
    by_cases h2:sgn a.kind b.kind=0
    ·rw [h2,z0]
     refine Ev.ct rfl (Ev.bind (qFk _ _) ?_)
     by_cases h3:compareBytes a.name b.name=0
     ·rw [h3,z0]
      refine Ev.ct rfl (Ev.bind (qpQ _ _) ?_)
      by_cases h4:sgn a.sort b.sort=0
      ·rw [h4,z0]
       refine Ev.ct rfl (Ev.bind (qpQ _ _) ?_)
       exact fin _ λ h=>by have:=qj4 h;omega
      ·rw [jQ h4]
       refine Ev.cf (qh.2 h4) ?_
       exact fin _ λ h=>absurd h h4
     ·rw [jQ h3]
      refine Ev.cf (qh.2 h3) (Ev.cf (qh.2 h3) ?_)
      exact fin _ λ h=>absurd h h3
    ·rw [jQ h2]
     refine Ev.cf (qh.2 h2) (Ev.cf (qh.2 h2) (Ev.cf (qh.2 h2) ?_))
     exact fin _ λ h=>absurd h h2
   ·rw [jQ h1]
    refine Ev.cf (qh.2 h1) (Ev.cf (qh.2 h1) (Ev.cf (qh.2 h1) (Ev.cf (qh.2 h1) ?_)))
    exact fin _ λ h=>absurd h h1
theorem qBa (a b:T):ieq (qp a b) 0=yK a b:=by
 unfold yK
 rw [Bool.eq_iff_iff,qj,decide_eq_true_iff]
 exact qGr a b
theorem qb0 (a b:T) (ha:size a≤1000000000) (hb:size b≤1000000000):Ev (λ m _=>yD m a b) (yK a b):=by
 refine Ev.succ ?_
 simp only [qy7,qh6,qe]
 refine Ev.bind (qhl a ha b hb) ?_
 exact Ev.ret (qBa a b)
theorem qmV (a b:T) (ha:size a≤1000000000) (hb:size b≤1000000000):Ev (λ m _=>Qc m a b) (yK a b):=by
 refine Ev.succ ?_
 simp only [qxk,qgO,qe]
 refine Ev.bind (qcq a ha b hb) ?_
 exact Ev.ret (qBa a b)
end Go.AmYtbpnmbmdbblehaaGreat
namespace Go.AmYtbpnmbmdbblehaaGreat
open Go Go.GxYtbpnmbmdbblehaaGreat Go.Lib
theorem qH8 (a b:Int):ieq a b=decide (a=b):=by rw [Bool.eq_iff_iff,qj,decide_eq_true_iff]
theorem qwh (c:Int):Ev (λ m _=>qab m c) (qhe c):=by
 refine Ev.succ ?_
 simp only [qud,qf5]
 refine (Ev.pure (qhe c)).congr λ m k=>?_
 unfold qhe ile
 by_cases h1:97≤c<;>by_cases h2:c≤122<;>by_cases h3:65≤c<;>by_cases h4:c≤90<;>simp [h1,h2,h3,h4]
theorem qF3 (c:Int):Ev (λ m _=>qcs m c) (qre c):=by
 refine Ev.succ ?_
 simp only [qxw,qgZ]
 refine (Ev.pure (qre c)).congr λ m k=>?_
 unfold qre ile
 by_cases h1:48≤c<;>by_cases h2:c≤57<;>simp [h1,h2]
theorem qBc (c:Int):Ev (λ m _=>qfz m c) (JR c):=by
 refine Ev.succ ?_
 simp only [qAG,qjS]
 refine (Ev.pure (JR c)).congr λ m k=>?_
 simp only [qH8]
 unfold JR qhe qre ile
 by_cases h1:97≤c<;>by_cases h2:c≤122<;>by_cases h3:65≤c<;>by_cases h4:c≤90<;>by_cases h5:48≤c<;>by_cases h6:c≤57<;>by_cases h7:c=95<;>by_cases h8:c=35<;>simp [h1,h2,h3,h4,h5,h6,h7,h8]
theorem qFd (l:List UInt8):Ev (λ m _=>Qh m l) (QI l):=by
 refine Ev.succ ?_
 simp only [quE,qcW]
 cases l with
 | nil=>exact Ev.ct rfl (Ev.pure _)
 | cons c r =>
   refine Ev.cf (qh.2 (by simp;omega)) ?_
   refine Ev.ite (λ h=>?_) λ h=>?_
   ·rw [qs] at h
    refine Ev.ret ?_
    unfold QI
    rw [decide_eq_false (show ¬ (c::r).length≤24 by omega)]
    simp
   rw [qx] at h
   refine Ev.some (Jm _) (Ev.bind (qwh _) ?_)
   have hn:QI (c::r)=(qhe (c.toNat:Int)&&(c::r).all λ c=>JR (c.toNat:Int)):=by
    unfold QI
    rw [decide_eq_true (show (c::r).length≤24 by omega)]
    simp
   rw [hn]
   cases hc:qhe (c.toNat:Int) with
   | false=>exact Ev.ct rfl (Ev.pure _)
   | true =>
     refine Ev.cf rfl ?_
     have key:=qr (P := λ i=>Ev (λ m k=>QP m k (c::r) i) (((c::r).drop i).all λ c=>JR (c.toNat:Int))) (c::r) (by omega)
      (λ hc=>by
       refine Ev.loop ?_
       simp only [qkI,qcB]
       refine Ev.cf hc (Ev.ret ?_)
       rw [List.drop_length];rfl)
      (λ i x hx hd hc hg hi hP=>by
       refine Ev.loop ?_
       simp only [qkI,qcB]
       refine Ev.ct hc (Ev.some hg (Ev.bind (qwh _) ?_))
       rw [hd,List.all_cons,hi]
       cases h1:qhe (x.toNat:Int) with
       | true=>exact Ev.cf rfl (hP.res (by simp [JR,h1]))
       | false =>
         refine Ev.ct rfl (Ev.some hg (Ev.bind (qF3 _) ?_))
         cases h2:qre (x.toNat:Int) with
         | true=>exact Ev.cf rfl (hP.res (by simp [JR,h2]))
         | false =>
           refine Ev.ct rfl (Ev.some hg ?_)
           by_cases h3:(x.toNat:Int)=95
           ·exact Ev.cf (bnf.2 (qj.2 h3)) (hP.res (by simp [JR,h3]))
           ·refine Ev.ct (bnt.2 (qh.2 h3)) (Ev.some hg ?_)
            by_cases h4:(x.toNat:Int)=35
            ·exact Ev.cf (bnf.2 (qj.2 h4)) (hP.res (by simp [JR,h4]))
            ·exact Ev.ct (bnt.2 (qh.2 h4)) (Ev.ret (by unfold JR;rw [h1,h2,decide_eq_false h3,decide_eq_false h4];rfl)))
     refine Ev.diag (L := λ m k=>QP m k (c::r) 0) ?_
     exact (key 0 (Nat.zero_le _)).res (by rw [List.drop_zero];rfl)
theorem qHj (c:Int):(JR c&&(!(decide (48≤c)&&decide (c≤57))&&(!(decide (c=95)) && !(decide (c=35)))))=qhe c:=by
 unfold JR qre
 cases h:qhe c with
 | true =>
   unfold qhe at h
   rw [Bool.or_eq_true,decide_eq_true_iff,decide_eq_true_iff] at h
   rw [decide_eq_false (show ¬ (c=95) by omega),decide_eq_false (show ¬ (c=35) by omega)]
   have:(decide (48≤c)&&decide (c≤57))=false:=by
    rw [Bool.and_eq_false_iff,decide_eq_false_iff_not,decide_eq_false_iff_not];omega
   rw [this];rfl
 | false =>
   by_cases h1:48≤c<;>by_cases h2:c≤57<;>by_cases h3:c=95<;>by_cases h4:c=35<;>simp [h1,h2,h3,h4]
theorem qC2 (l:List UInt8):Ev (λ m _=>qa5 m l) (QI l):=by
 refine Ev.succ ?_
 simp only [qwW,qdI]
 cases l with
 | nil=>exact Ev.ct rfl (Ev.pure _)
 | cons c r =>
   refine Ev.cf rfl ?_
   refine Ev.ite (λ h=>?_) λ h=>?_
   ·rw [qs] at h
    refine Ev.ret ?_
    unfold QI
    rw [decide_eq_false (show ¬ (c::r).length≤24 by omega)]
    simp
   rw [qx] at h
   refine Ev.some (Jm _) (Ev.bind (qBc _) ?_)
   have hn:QI (c::r)=(qhe (c.toNat:Int)&&(c::r).all λ c=>JR (c.toNat:Int)):=by
    unfold QI
    rw [decide_eq_true (show (c::r).length≤24 by omega)]
    simp
   rw [hn,← qHj]
   have key:=qr (P := λ i=>Ev (λ m k=>jH m k (c::r) (c::r).length i) (((c::r).drop i).all λ c=>JR (c.toNat:Int))) (c::r) (by omega)
    (λ hc=>by
     refine Ev.loop ?_
     simp only [qlN,qee]
     refine Ev.cf hc (Ev.ret ?_)
     rw [List.drop_length];rfl)
    (λ i x hx hd hc hg hi hP=>by
     refine Ev.loop ?_
     simp only [qlN,qee]
     refine Ev.ct hc (Ev.some hg (Ev.bind (qBc _) ?_))
     rw [hd,List.all_cons,hi]
     cases h1:JR (x.toNat:Int) with
     | true=>exact Ev.cf rfl (hP.res (by simp))
     | false=>exact Ev.ct rfl (Ev.pure _))
   have fin:Ev (λ m _=>jH m m (c::r) (c::r).length 0) ((c::r).all λ c=>JR (c.toNat:Int)):=by
    refine Ev.diag (L := λ m k=>jH m k (c::r) (c::r).length 0) ?_
    exact (key 0 (Nat.zero_le _)).res (by rw [List.drop_zero])
   have hz:qd (c::r) 0=some c:=Jm _
   have h95:Ev (λ m _=>cond (ieq (c.toNat:Int) 95) (some false) (qa (qd (c::r) 0) λ v=>cond (ieq (v.toNat:Int) 35) (some false) (jH m m (c::r) (c::r).length 0))) ((!(decide ((c.toNat:Int)=95)) && !(decide ((c.toNat:Int)=35)))&&(c::r).all λ c=>JR (c.toNat:Int)):=by
    by_cases h3:(c.toNat:Int)=95
    ·exact Ev.ct (qj.2 h3) (Ev.ret (by rw [decide_eq_true h3];rfl))
    ·refine Ev.cf (qh.2 h3) (Ev.some hz ?_)
     rw [decide_eq_false h3]
     by_cases h4:(c.toNat:Int)=35
     ·exact Ev.ct (qj.2 h4) (Ev.ret (by rw [decide_eq_true h4];rfl))
     ·refine Ev.cf (qh.2 h4) (fin.res ?_)
      rw [decide_eq_false h4];rfl
   cases h1:JR (c.toNat:Int) with
   | false=>exact Ev.ct rfl (Ev.pure _)
   | true =>
     refine Ev.cf rfl (Ev.some hz ?_)
     by_cases h5:48≤(c.toNat:Int)
     ·refine Ev.ct (qeg.2 h5) (Ev.some hz ?_)
      by_cases h6:(c.toNat:Int)≤57
      ·exact Ev.ct (qeg.2 h6) (Ev.ret (by rw [decide_eq_true h5,decide_eq_true h6];rfl))
      ·refine Ev.cf (qkt.2 (by omega)) (Ev.some hz ?_)
       exact h95.res (by rw [decide_eq_true h5,decide_eq_false h6];rfl)
     ·refine Ev.cf (qkt.2 (by omega)) (Ev.some hz ?_)
      exact h95.res (by rw [decide_eq_false h5];rfl)
theorem qHW (t:T):Ev (λ m _=>qgC m t) (Qm t):=by
 refine Ev.succ ?_
 simp only [qz7,qh0]
 unfold Qm qkY
 have nm:∀ {R:Int},(∀ b,QI t.name=b→(if b then (if 8<t.kids.length then 3 else 0) else 2)=R)→Ev (λ m _=>qa (Qh m t.name) λ v=>cond (qb v) (some 2) (cond (ilt 8 (t.kids.length:Int)) (some 3) (some 0))) R:=by
  intro R h
  refine Ev.bind (qFd _) ?_
  refine Ev.res ?_ (h _ rfl)
  cases hn:QI t.name with
  | false=>exact Ev.ct rfl (Ev.pure _)
  | true =>
    refine Ev.cf rfl ?_
    refine Ev.ite (λ h=>?_) λ h=>?_
    ·rw [qs] at h;exact Ev.ret (by rw [if_pos rfl,if_pos (by omega)])
    ·rw [qx] at h;exact Ev.ret (by rw [if_pos rfl,if_neg (by omega)])
 have leaf:t.kids.length=0→∀ {R:Int},(∀ b,QI t.name=b→(if b then 0 else 2)=R)→Ev (λ m _=>qa (Qh m t.name) λ v=>cond (qb v) (some 2) (cond (ilt 8 (t.kids.length:Int)) (some 3) (some 0))) R:=by
  intro h0 R h
  refine nm λ b hb=>?_
  rw [if_neg (show ¬ 8<t.kids.length by omega)]
  exact h b hb
 by_cases h1:t.kind=1
 ·rw [if_pos (.inl h1)]
  refine Ev.ct (qj.2 h1) ?_
  refine Ev.ite (λ h=>?_) λ h=>?_
  ·rw [qs] at h;exact Ev.ret (by rw [if_pos (.inl h)])
  rw [qx] at h
  refine Ev.ite (λ h'=>?_) λ h'=>?_
  ·rw [qs] at h';exact Ev.ret (by rw [if_pos (.inr (.inl h'))])
  rw [qx] at h'
  refine Ev.ite (λ h''=>?_) λ h''=>?_
  ·rw [qs] at h'';exact Ev.ret (by rw [if_pos (.inr (.inr (by omega)))])
  rw [qx] at h''
  rw [if_neg (by omega)]
  exact leaf (by omega) λ b hb=>by rw [hb]
 refine Ev.cf (qh.2 h1) ?_
 by_cases h2:t.kind=2
 ·rw [if_pos (.inr h2)]
  refine Ev.cf (bnf.2 (qj.2 h2)) ?_
  refine Ev.ite (λ h=>?_) λ h=>?_
  ·rw [qs] at h;exact Ev.ret (by rw [if_pos (.inl h)])
  rw [qx] at h
  refine Ev.ite (λ h'=>?_) λ h'=>?_
  ·rw [qs] at h';exact Ev.ret (by rw [if_pos (.inr (.inl h'))])
  rw [qx] at h'
  refine Ev.cf (bnf.2 (qj.2 h2)) (Ev.ct (qj.2 h2) ?_)
  refine Ev.ite (λ h''=>?_) λ h''=>?_
  ·rw [qs] at h'';exact Ev.ret (by rw [if_pos (.inr (.inr (by omega)))])
  rw [qx] at h''
  rw [if_neg (by omega)]
  exact leaf (by omega) λ b hb=>by rw [hb]
 refine Ev.ct (bnt.2 (qh.2 h2)) ?_
 rw [if_neg (by omega)]
 by_cases h3:t.kind=3
 ·rw [if_pos h3]
  refine Ev.cf (bnf.2 (qj.2 h3)) ?_
  refine Ev.ite (λ h=>?_) λ h=>?_
  ·rw [qs] at h;exact Ev.ret (by rw [if_pos (by omega)])
  rw [qx] at h
  refine Ev.ite (λ h'=>?_) λ h'=>?_
  ·rw [qs] at h';exact Ev.ret (by rw [if_pos (by omega)])
  rw [qx] at h'
  refine Ev.ct (bnt.2 (qh.2 h2)) ?_
  refine Ev.ite (λ h''=>?_) λ h''=>?_
  ·rw [bnt,qh] at h'';exact Ev.ret (by rw [if_pos h''])
  rw [bnf,qj] at h''
  rw [if_neg (by omega)]
  refine Ev.cf (qh.2 h2) ?_
  exact nm λ b hb=>by rw [hb]
 ·rw [if_neg h3]
  exact Ev.ct (bnt.2 (qh.2 h3)) (Ev.pure _)
theorem qHx (t:T):size t≤1000000000→Ev (λ m _=>yI m t) (Jk t):=by
 induction t using T.ind with
 | h t ih =>
   intro hs
   refine Ev.succ ?_
   simp only [qw5,qdQ,qe]
   have hl:=yH t
   have key:=qr (P := λ i=>Ev (λ m k=>Jz m (yI m) k i t.kind t.name t.sort t.kids) (((t.kids.drop i).map Jk).foldl thn 0)) t.kids (by omega)
    (λ hc=>by
     refine Ev.loop ?_
     simp only [qlT,qdF]
     refine Ev.cf hc ?_
     exact Ev.ret (by simp))
    (λ i x hx hd hc hg hi hP=>by
     refine Ev.loop ?_
     simp only [qlT,qdF,qe]
     refine Ev.ct hc (Ev.some hg ?_)
     have hm:=List.mem_of_getElem? hx
     have h1:=y9 t x hm
     refine Ev.bind (ih x hm (by omega)) ?_
     rw [hd,List.map_cons,jO,hi]
     refine Ev.ite (λ h=>?_) λ h=>?_
     ·rw [bnt,qh] at h;exact Ev.ret (by rw [qL _ h])
     ·rw [bnf,qj] at h;rw [h];exact hP)
   rw [qhw]
   refine Ev.bind (qHW t) ?_
   refine Ev.ite (λ h=>?_) λ h=>?_
   ·rw [bnt,qh] at h;exact Ev.ret (by rw [qL _ h])
   ·rw [bnf,qj] at h;rw [h]
    refine Ev.diag (L := λ m k=>Jz m (yI m) k 0 t.kind t.name t.sort t.kids) ?_
    exact (key 0 (Nat.zero_le _)).res (by rw [List.drop_zero])
theorem qaO (t:T) (hs:size t≤1000000000):Ev (λ m _=>zJ m t) (qu t):=by
 refine Ev.succ ?_
 simp only [qxo,qgP,qe]
 unfold qu
 refine Ev.bind (qHx t hs) ?_
 refine Ev.ite (λ h=>?_) λ h=>?_
 ·rw [bnt,qh] at h;exact Ev.ret (by rw [if_pos h])
 rw [bnf,qj] at h
 rw [if_neg (by omega)]
 refine Ev.bind (qrT t hs) ?_
 refine Ev.ite (λ h=>?_) λ h=>?_
 ·rw [qs] at h;exact Ev.ret (by rw [if_pos (.inl (by omega))])
 rw [qx] at h
 refine Ev.bind (qEz t hs) ?_
 refine Ev.ite (λ h=>?_) λ h=>?_
 ·rw [qs] at h;exact Ev.ret (by rw [if_pos (.inr (by omega))])
 ·rw [qx] at h;exact Ev.ret (by rw [if_neg (by omega)])
end Go.AmYtbpnmbmdbblehaaGreat
namespace Go.AmYtbpnmbmdbblehaaGreat
open Go Go.GxYtbpnmbmdbblehaaGreat Go.Lib
theorem qxZ (lev d:Nat):∀ (l:List Nat) (c:Nat),l.foldl (λ a x=>max a (lev+x)) (max d (lev+c))=max d (lev+l.foldl max c)
 | [],c=>rfl
 | x::l,c=>by
   rw [List.foldl_cons,List.foldl_cons,← qxZ lev d l (max c x)]
   congr 1;omega
def qJq (lev n d:Nat) (e:Int) (s:Nat) (x:Nat) (r:(Int × Int × Unit) × (Int × Unit)):Prop:=r.2.1=e∧(e=0→r.1.1=((n+s:Nat):Int)∧r.1.2.1=((max d (lev+x):Nat):Int))
theorem qGQ (t:T):size t≤1000000000→∀ lev n d:Nat,lev+size t≤2000000000→n+size t≤2000000000→d≤2000000000→∃ r,Ev (λ m _=>zG m t lev n d) r∧qJq lev n d (Jk t) (size t) (qa6 t-1) r:=by
 induction t using T.ind with
 | h t ih =>
   intro hs lev n d hlev hn hd0
   have hl:=yH t
   have hsz:=qF t
   have key:=qr (P := λ i=>∀ n d:Nat,n+((t.kids.drop i).map size).sum≤2000000000→d≤2000000000→∃ r,Ev (λ m k=>yU m (zG m) k lev t.kids t.kids.length i n d) r∧r.2.1=((t.kids.drop i).map Jk).foldl thn 0∧(((t.kids.drop i).map Jk).foldl thn 0=0→r.1.1=((n+((t.kids.drop i).map size).sum:Nat):Int)∧r.1.2.1=((((t.kids.drop i).map qa6).foldl (λ a x=>max a (lev+x)) d:Nat):Int))) t.kids (by omega)
    (λ hc n d _ _=>by
     refine ⟨((n,d,()),(0,())),?_,?_,λ _=>⟨?_,?_⟩⟩
     ·refine Ev.loop ?_
      simp only [qnF,qeN]
      exact Ev.cf hc (Ev.pure _)
     ·simp
     ·simp
     ·simp)
    (λ i x hx hd hc hg hi hP n d hn hd1=>by
     have hm:=List.mem_of_getElem? hx
     have h1:=y9 t x hm
     rw [qrH hd] at hn
     obtain ⟨r,hr,he,hz⟩:=ih x hm (by omega) (lev+1) n d (by omega) (by omega) hd1
     have hstep:∀ r' ,(r.2.1≠0→r'=((r.1.1,r.1.2.1,()),(r.2.1,())))→(r.2.1=0→Ev (λ m k=>yU m (zG m) k lev t.kids t.kids.length ((i+1:Nat):Int) r.1.1 r.1.2.1) r')→Ev (λ m k=>yU m (zG m) k lev t.kids t.kids.length i n d) r':=by
      intro r' g1 g2
      refine Ev.loop ?_
      simp only [qnF,qeN,qe]
      refine Ev.ct hc (Ev.some hg ?_)
      rw [show qi (lev:Int) 1=((lev+1:Nat):Int) by unfold qi;omega,Qq (by omega),hi]
      refine Ev.bind hr ?_
      refine Ev.ite (λ h=>?_) λ h=>?_
      ·rw [bnt,qh] at h;exact Ev.ret (g1 h).symm
      ·rw [bnf,qj] at h;exact g2 h
     rw [hd,List.map_cons,List.map_cons,List.map_cons,List.sum_cons,jO,List.foldl_cons]
     by_cases h0:Jk x=0
     ·obtain ⟨z1,z2⟩:=hz h0
      have hdep:=qBq x
      obtain ⟨r',g1,g2,g3⟩:=hP (n+size x) (max d (lev+1+(qa6 x-1))) (by omega) (by omega)
      refine ⟨r',hstep r' (λ h=>absurd (he.trans h0) h) (λ _=>by rw [z1,z2];exact g1),by rw [h0];exact g2,λ hh=>?_⟩
      rw [h0] at hh
      obtain ⟨q1,q2⟩:=g3 hh
      refine ⟨by rw [q1];congr 1;omega,?_⟩
      rw [q2]
      have:qa6 x ≥ 1:=by rw [qfo];omega
      rw [show max d (lev+1+(qa6 x-1))=max d (lev+qa6 x) by omega]
     ·refine ⟨((r.1.1,r.1.2.1,()),(r.2.1,())),hstep _ (λ _=>rfl) (λ h=>absurd (he.symm.trans h) h0),?_,λ hh=>?_⟩
      ·rw [qL _ h0];exact he
      ·rw [qL _ h0] at hh;exact absurd hh h0)
   have start:∀ r,(Qm t≠0→r=((((n+1:Nat):Int),((max d lev:Nat):Int),()),(Qm t,())))→(Qm t=0→Ev (λ m _=>yU m (zG m) m lev t.kids t.kids.length 0 ((n+1:Nat):Int) ((max d lev:Nat):Int)) r)→Ev (λ m _=>zG m t lev n d) r:=by
    intro r g1 g2
    refine Ev.succ ?_
    simp only [qyQ,qe3]
    rw [show qi (n:Int) 1=((n+1:Nat):Int) by unfold qi;omega,Qq (by omega),qzz]
    have err:∀ e,Qm t=e→e≠0→Ev (λ _ _=>some ((((n+1:Nat):Int),((max d lev:Nat):Int),()),(e,()))) r:=by
     intro e he h
     refine Ev.ret ?_
     subst he
     exact (g1 h).symm
    have nm:(t.kind=3∨t.kids.length=0)→(∀ b,QI t.name=b→(if b then (if 8<t.kids.length then 3 else 0) else 2)=Qm t)→Ev (λ m _=>qa (qa5 m t.name) λ v=>cond (qb v) (some ((((n+1:Nat):Int),((max d lev:Nat):Int),()),(2,()))) (cond (ilt 8 (t.kids.length:Int)) (some ((((n+1:Nat):Int),((max d lev:Nat):Int),()),(3,()))) (yU m (zG m) m lev t.kids t.kids.length 0 ((n+1:Nat):Int) ((max d lev:Nat):Int)))) r:=by
     intro _ h
     have h:=h _ rfl
     refine Ev.bind (qC2 _) ?_
     cases hn:QI t.name with
     | false=>rw [hn] at h;exact Ev.ct rfl (err 2 h.symm (by decide))
     | true =>
       rw [hn,if_pos rfl] at h
       refine Ev.cf rfl ?_
       refine Ev.ite (λ h'=>?_) λ h'=>?_
       ·rw [qs] at h';rw [if_pos (by omega)] at h;exact err 3 h.symm (by decide)
       ·rw [qx] at h';rw [if_neg (by omega)] at h;exact g2 h.symm
    have leafE:∀ k,t.kind=k→(k=1∨k=2)→Qm t=if t.sort<0∨5<t.sort∨0<t.kids.length then 1 else if QI t.name then 0 else 2:=by
     intro k hk h
     unfold Qm qkY
     rw [hk,if_pos h]
    have leaf:∀ k,t.kind=k→(k=1∨k=2)→Ev (λ m _=>cond (ilt t.sort 0) (some ((((n+1:Nat):Int),((max d lev:Nat):Int),()),(1,()))) (cond (ilt 5 t.sort) (some ((((n+1:Nat):Int),((max d lev:Nat):Int),()),(1,()))) (cond (ilt 0 (t.kids.length:Int)) (some ((((n+1:Nat):Int),((max d lev:Nat):Int),()),(1,()))) (qa (qa5 m t.name) λ v=>cond (qb v) (some ((((n+1:Nat):Int),((max d lev:Nat):Int),()),(2,()))) (cond (ilt 8 (t.kids.length:Int)) (some ((((n+1:Nat):Int),((max d lev:Nat):Int),()),(3,()))) (yU m (zG m) m lev t.kids t.kids.length 0 ((n+1:Nat):Int) ((max d lev:Nat):Int))))))) r:=by
     intro k hk h
     have hE:=leafE k hk h
     refine Ev.ite (λ h'=>?_) λ h'=>?_
     ·rw [qs] at h';exact err 1 (by rw [hE,if_pos (.inl h')]) (by decide)
     rw [qx] at h'
     refine Ev.ite (λ h1=>?_) λ h1=>?_
     ·rw [qs] at h1;exact err 1 (by rw [hE,if_pos (.inr (.inl h1))]) (by decide)
     rw [qx] at h1
     refine Ev.ite (λ h2=>?_) λ h2=>?_
     ·rw [qs] at h2;exact err 1 (by rw [hE,if_pos (.inr (.inr (by omega)))]) (by decide)
     rw [qx] at h2
     rw [if_neg (by omega)] at hE
     refine nm (.inr (by omega)) λ b hb=>?_
     rw [hE,hb,if_neg (show ¬ 8<t.kids.length by omega)]
    by_cases h1:t.kind=1
    ·exact Ev.ct (qj.2 h1) (leaf 1 h1 (.inl rfl))
    refine Ev.cf (qh.2 h1) ?_
    by_cases h2:t.kind=2
    ·exact Ev.ct (qj.2 h2) (leaf 2 h2 (.inr rfl))
    refine Ev.cf (qh.2 h2) ?_
    by_cases h3:t.kind=3
    ·refine Ev.ct (qj.2 h3) ?_
     have hE:Qm t=if t.sort≠0 then 1 else if QI t.name then (if 8<t.kids.length then 3 else 0) else 2:=by
      unfold Qm qkY
      rw [if_neg (by omega),if_pos h3]
     refine Ev.ite (λ h'=>?_) λ h'=>?_
     ·rw [bnt,qh] at h';exact err 1 (by rw [hE,if_pos h']) (by decide)
     rw [bnf,qj] at h'
     rw [if_neg (by omega)] at hE
     exact nm (.inl h3) λ b hb=>by rw [hE,hb]
    ·refine Ev.cf (qh.2 h3) ?_
     refine err 1 ?_ (by decide)
     unfold Qm qkY
     rw [if_neg (by omega),if_neg h3]
   rw [qhw]
   by_cases h0:Qm t=0
   ·rw [h0]
    obtain ⟨r,g1,g2,g3⟩:=key 0 (Nat.zero_le _) (n+1) (max d lev) (by rw [List.drop_zero];omega) (by omega)
    rw [List.drop_zero] at g2 g3
    refine ⟨r,start r (λ h=>absurd h0 h) (λ _=>Ev.diag (L := λ m k=>yU m (zG m) k lev t.kids t.kids.length 0 ((n+1:Nat):Int) ((max d lev:Nat):Int)) g1),g2,λ hh=>?_⟩
    obtain ⟨q1,q2⟩:=g3 hh
    refine ⟨by rw [q1];congr 1;omega,?_⟩
    rw [q2,show max d lev=max d (lev+0) by omega,qxZ,qfo,Nat.add_sub_cancel]
   ·refine ⟨_,start _ (λ _=>rfl) (λ h=>absurd h h0),?_,λ hh=>?_⟩
    ·rw [qL _ h0]
    ·rw [qL _ h0] at hh;exact absurd hh h0
theorem JZ (t:T) (hs:size t≤1000000000):Ev (λ m _=>zc m t) (qu t):=by
 refine Ev.succ ?_
 simp only [qyJ,qhZ,qe]
 unfold qu
 obtain ⟨r,h1,h2,h3⟩:=qGQ t hs 1 0 0 (by omega) (by omega) (by omega)
 refine Ev.bind h1 ?_
 rw [h2]
 refine Ev.ite (λ h=>?_) λ h=>?_
 ·rw [bnt,qh] at h;exact Ev.ret (by rw [if_pos h])
 rw [bnf,qj] at h
 obtain ⟨q1,q2⟩:=h3 h
 have hd:qa6 t ≥ 1:=by rw [qfo];omega
 rw [if_neg (by omega),q1,q2]
 refine Ev.ite (λ h=>?_) λ h=>?_
 ·rw [qs] at h;exact Ev.ret (by rw [if_pos (.inl (by omega))])
 rw [qx] at h
 refine Ev.ite (λ h=>?_) λ h=>?_
 ·rw [qs] at h;exact Ev.ret (by rw [if_pos (.inr (by omega))])
 ·rw [qx] at h;exact Ev.ret (by rw [if_neg (by omega)])
theorem qmT (t:T):size t≤1000000000→Ev (λ m _=>yk m t) t:=by
 induction t using T.ind with
 | h t ih =>
   intro hs
   refine Ev.succ ?_
   simp only [qyD,qeW]
   have hl:=yH t
   have key:=qr (P := λ i=>Ev (λ m k=>J6 m (yk m) k t.kids t.kids.length i t.kind t.name t.sort 0 [] 0 (t.kids.take i) []) t) t.kids (by omega)
    (λ hc=>by
     refine Ev.loop ?_
     simp only [qnH,qeR]
     refine Ev.cf hc ?_
     rw [List.take_length]
     exact Ev.ret (qe t))
    (λ i x hx hd hc hg hi hP=>by
     refine Ev.loop ?_
     simp only [qnH,qeR,qe]
     have hm:=List.mem_of_getElem? hx
     have h1:=y9 t x hm
     refine Ev.ct hc (Ev.some hg (Ev.bind (ih x hm (by omega)) (Ev.ct (zf ?_ (by omega)) ?_)))
     ·have:(t.kids.take i).length≤t.kids.length:=by rw [List.length_take];omega
      omega
     ·rw [hi]
      refine hP.congr λ m k=>?_
      rw [List.take_add_one,hx];rfl)
   refine Ev.diag (L := λ m k=>J6 m (yk m) k t.kids t.kids.length 0 t.kind t.name t.sort 0 [] 0 [] []) ?_
   exact key 0 (Nat.zero_le _)
noncomputable def qjD:T→Prop:=T.para λ t rs=>t.kids.length<2 ^ 62∧t.name.length<2 ^ 62∧∀ p∈rs,p
theorem qBz (t:T):qjD t↔t.kids.length<2 ^ 62∧t.name.length<2 ^ 62∧∀ k∈t.kids,qjD k:=by
 unfold qjD
 rw [T.para_eq]
 exact ⟨λ ⟨a,b,c⟩=>⟨a,b,λ k hk=>c _ (List.mem_map_of_mem hk)⟩,λ ⟨a,b,c⟩=>⟨a,b,λ p hp=>by obtain ⟨k,hk,rfl⟩:=List.mem_map.1 hp;exact c k hk⟩⟩
theorem qET (t:T):qjD t→∀ mm:Int,-1000000000≤mm→mm≤1000000000→Ev (λ m _=>ym m t mm) (qar t mm):=by
 induction t using T.ind with
 | h t ih =>
   intro hf mm hm0 hm1
   obtain ⟨f1,f2,f3⟩:=(qBz t).1 hf
   refine Ev.succ ?_
   simp only [quc,qcD]
   rw [qBu]
   refine Ev.ite (λ h=>?_) λ h=>?_
   ·rw [qeg] at h;exact Ev.ret (by rw [if_pos (.inl h)])
   rw [qkt] at h
   refine Ev.ite (λ h'=>?_) λ h'=>?_
   ·rw [qs] at h';exact Ev.ret (by rw [if_pos (.inr (by omega))])
   rw [qx] at h'
   rw [if_neg (by omega),show QC mm 1=mm-1 from rfl,Qq (by omega)]
   have key:=qr (P := λ i=>∀ mm:Int,0≤mm→mm≤1000000000→Ev (λ m k=>QK m (ym m) k mm i t.kind t.name t.sort t.kids) (qjp ((t.kids.drop i).map qar) mm)) t.kids f1
    (λ hc mm _ _=>by
     refine Ev.loop ?_
     simp only [qkT,qcE]
     refine Ev.cf hc ?_
     rw [List.drop_length]
     exact Ev.pure _)
    (λ i x hx hd hc hg hi hP mm hm0 hm1=>by
     refine Ev.loop ?_
     simp only [qkT,qcE,qe]
     have hm:=List.mem_of_getElem? hx
     refine Ev.ct hc (Ev.some hg (Ev.bind (ih x hm (f3 x hm) mm (by omega) (by omega)) ?_))
     rw [hd,List.map_cons,qjp,hi]
     have:=qpl x mm
     refine Ev.ite (λ h=>?_) λ h=>?_
     ·rw [qs] at h;exact Ev.ret (by rw [if_pos h])
     ·rw [qx] at h
      rw [if_neg (by omega)]
      exact hP _ (by omega) (by omega))
   refine Ev.diag (L := λ m k=>QK m (ym m) k (mm-1) 0 t.kind t.name t.sort t.kids) ?_
   exact (key 0 (Nat.zero_le _) (mm-1) (by omega) (by omega)).res (by rw [List.drop_zero])
theorem qDP (l:List T) (hl:l.length<2 ^ 62) (hf:∀ t∈l,qjD t) (n:Nat) (mm:Int) (hm0:0≤mm) (hm1:mm≤1000000000):Ev (λ m _=>qfB m l n mm) (decide (l.length≤n)&&qmc l mm):=by
 refine Ev.succ ?_
 simp only [qAK,qfJ]
 refine Ev.ite (λ h=>?_) λ h=>?_
 ·rw [qs] at h;exact Ev.ret (by rw [decide_eq_false (by omega)];rfl)
 rw [qx] at h
 rw [decide_eq_true (by omega),Bool.true_and]
 have key:=qr (P := λ i=>∀ mm:Int,0≤mm→mm≤1000000000→Ev (λ m k=>qaZ m k l mm i) (qmc (l.drop i) mm)) l hl
  (λ hc mm _ _=>by
   refine Ev.loop ?_
   simp only [qoT,qgv]
   refine Ev.cf hc ?_
   rw [List.drop_length]
   exact Ev.pure _)
  (λ i x hx hd hc hg hi hP mm hm0 hm1=>by
   refine Ev.loop ?_
   simp only [qoT,qgv,qe]
   have hm:=List.mem_of_getElem? hx
   refine Ev.ct hc (Ev.some hg (Ev.bind (qET x (hf x hm) mm (by omega) (by omega)) ?_))
   rw [hd,qmc,hi]
   have:=qpl x mm
   refine Ev.ite (λ h=>?_) λ h=>?_
   ·rw [qs] at h;exact Ev.ret (by rw [if_pos h])
   ·rw [qx] at h
    rw [if_neg (by omega)]
    exact hP _ (by omega) (by omega))
 refine Ev.diag (L := λ m k=>qaZ m k l mm 0) ?_
 exact (key 0 (Nat.zero_le _) mm hm0 hm1).res (by rw [List.drop_zero])
theorem qyI {l:List T} {mm:Int} (hm:0≤mm) (h:qmc l mm=true):∀ t∈l,(size t:Int)≤mm := λ t ht=>by
 have h1:=qwe l mm hm h
 have h2:=qiC l t ht
 omega
end Go.AmYtbpnmbmdbblehaaGreat
namespace Go.GxYtbpnmbmdbblehaaGreat
def qtB (t:T):Int:=if (qB t.name).2.2=0 then 10 else if qk4 jq t.name t.kids.length=false then 6 else if (qB t.name).2.2=2∧qi9 t=false then 10 else 0
theorem qtI (n:List UInt8):(jq.find? λ r=>r.1==n)=none∨∃ r∈jq,r.1=n∧(jq.find? λ r=>r.1==n)=some r:=by
 cases h:jq.find? λ r=>r.1==n with
 | none=>exact .inl rfl
 | some r=>exact .inr ⟨r,List.mem_of_find?_eq_some h,by simpa using List.find?_some h,rfl⟩
theorem qsh {n:List UInt8} (h:(jq.find? λ r=>r.1==n)=none):qB n=(0,0,0):=by unfold qB;rw [h];rfl
theorem qmg {n:List UInt8} {r:List UInt8 × Int × Int × Int} (h:(jq.find? λ r=>r.1==n)=some r):qB n=r.2:=by unfold qB;rw [h];rfl
def qHK (r:List UInt8 × Int × Int × Int):Bool :=
 decide (r.2.2.2≠0)&&decide (0≤r.2.1)&&decide (r.2.2.1≤8)&&(decide (r.2.2.2=2)==(r.1==qg7||r.1==nSk||r.1==qru))&&(decide (r.2.2.2=2)==decide (r.2.2.2=2∧1≤r.2.1))&&(decide (r.2.2.2=3)==(r.1==qHv||r.1==qux||r.1==qHu||r.1==qCP||r.1==qDx||r.1==qDI))
theorem qHQ:jq.all qHK=true:=by decide
theorem qtm {n:List UInt8} (h:(qB n).2.2≠0):qGk jq n=true∧quW jq n=qB n∧0≤(qB n).1∧(qB n).2.1≤8∧((qB n).2.2=2↔n=qg7∨n=nSk∨n=qru)∧((qB n).2.2=2→1≤(qB n).1)∧((qB n).2.2=3↔isD n=true):=by
 rcases qtI n with h0 | ⟨r,hr,hn,h0⟩
 ·rw [qsh h0] at h;exact absurd rfl h
 ·have hk:=List.all_eq_true.1 qHQ r hr
  subst hn
  rw [qmg h0]
  unfold qHK at hk
  simp only [Bool.and_eq_true,beq_iff_eq,decide_eq_true_eq] at hk
  obtain ⟨⟨⟨⟨⟨h1,h2⟩,h3⟩,h4⟩,h5⟩,h6⟩:=hk
  refine ⟨List.any_eq_true.2 ⟨r,hr,by simp⟩,qmg h0,h2,h3,?_,?_,?_⟩
  ·constructor
   ·intro h
    rw [decide_eq_true h] at h4
    have:=h4.symm
    simp only [Bool.or_eq_true,beq_iff_eq] at this
    exact or_assoc.1 this
   ·intro h
    by_cases hh:r.2.2.2=2
    ·exact hh
    ·rw [decide_eq_false hh] at h4
     have:=h4.symm
     simp only [Bool.or_eq_false_iff,beq_eq_false_iff_ne] at this
     rcases h with h | h | h
     ·exact absurd h this.1.1
     ·exact absurd h this.1.2
     ·exact absurd h this.2
  ·intro h
   rw [decide_eq_true h] at h5
   have:=of_decide_eq_true h5.symm
   exact this.2
  ·unfold isD
   rw [← h6]
   simp
theorem qGS (t:T) (h3:t.kind=3):qtB t=qas t:=by
 unfold qtB qas
 rw [if_neg (show ¬ (t.kind≠3) from λ h=>h h3)]
 by_cases h0:(qB t.name).2.2=0
 ·rw [if_pos h0,if_pos h0]
 ·rw [if_neg h0,if_neg h0]
  obtain ⟨k1,k2,k3,k4,k5,k6,k7⟩:=qtm h0
  have e1:qk4 jq t.name t.kids.length=(decide ((qB t.name).1≤(t.kids.length:Int))&&decide ((t.kids.length:Int)≤(qB t.name).2.1)):=by
   unfold qk4;rw [k1,k2,Bool.true_and]
  rw [e1]
  by_cases h1:(t.kids.length:Int)<(qB t.name).1∨(qB t.name).2.1<(t.kids.length:Int)
  ·rw [if_pos h1,if_pos]
   rw [Bool.and_eq_false_iff,decide_eq_false_iff_not,decide_eq_false_iff_not]
   omega
  ·rw [if_neg h1,if_neg]
   ·have e2:(qB t.name).2.2=2∧qi9 t=false↔JU t=true:=by
      rw [k5]
      unfold qi9 JU
      by_cases hn:t.name=qg7
      ·rw [if_pos hn,if_pos hn]
       simp [hn]
      ·rw [if_neg hn,if_neg hn]
       by_cases hs:t.name=nSk∨t.name=qru
       ·rw [if_pos hs]
        have:agB t.kids = !(t.kids.any λ k=>decide (k.kind=3)||decide (k.sort≠1)):=by
         unfold agB
         generalize t.kids=l
         induction l with
         | nil=>rfl
         | cons x l ih=>simp only [List.all_cons,List.any_cons,ih,Bool.not_or];congr 1;congr 1;by_cases h:x.sort=1<;>simp [bne,h]
        rw [this]
        simp [hs]
       ·rw [if_neg hs]
        constructor
        ·rintro ⟨h,_⟩
         rcases h with h | h
         ·exact absurd h hn
         ·exact absurd h hs
        ·intro h;cases h
    by_cases hp:JU t=true
    ·rw [if_pos hp,if_pos (e2.2 hp)]
    ·rw [if_neg hp,if_neg (λ h=>hp (e2.1 h))]
   ·rw [Bool.and_eq_false_iff,decide_eq_false_iff_not,decide_eq_false_iff_not]
    omega
theorem qfl {t:T} (h3:t.kind=3) (h:qZ t=0):qas t=0∧(∀ k∈t.kids,qZ k=0):=by
 rw [qi8,if_neg (show ¬ (t.kind≠3) from λ h=>h h3)] at h
 by_cases h0:qas t=0
 ·refine ⟨h0,?_⟩
  rw [h0] at h
  generalize t.kids=l at *
  induction l with
  | nil=>intro k hk;cases hk
  | cons x l ih =>
    rw [List.map_cons,jO] at h
    by_cases hx:qZ x=0
    ·rw [hx] at h
     intro k hk
     rcases List.mem_cons.1 hk with rfl | hk
     ·exact hx
     ·exact ih h k hk
    ·rw [qL _ hx] at h;exact absurd h hx
 ·rw [qL _ h0] at h;exact absurd h h0
end Go.GxYtbpnmbmdbblehaaGreat
namespace Go.AmYtbpnmbmdbblehaaGreat
open Go Go.GxYtbpnmbmdbblehaaGreat Go.Lib
theorem qiU (t:T) (n:List UInt8):Ev (λ m _=>yw m t n) (isN t n):=by
 refine Ev.succ ?_
 simp only [qAY,qj7]
 unfold isN
 refine Ev.ite (λ h=>?_) λ h=>?_
 ·rw [qj] at h;exact Ev.ret (by rw [h];rfl)
 ·rw [qh] at h;exact Ev.ret (by rw [show (t.kind==3)=false from beq_eq_false_iff_ne.2 h];rfl)
theorem qjN (t:T) (n:List UInt8):Ev (λ m _=>qad m t n) (isN t n):=by
 refine Ev.succ ?_
 simp only [qCN,qli]
 unfold isN
 refine Ev.ite (λ h=>?_) λ h=>?_
 ·rw [qj] at h;exact Ev.ret (by rw [h];rfl)
 ·rw [qh] at h;exact Ev.ret (by rw [show (t.kind==3)=false from beq_eq_false_iff_ne.2 h];rfl)
theorem qJH (n:List UInt8) (l:List T):Ev (λ m _=>qdH m n l) (apT n l):=Ev.succ (Ev.pure _)
theorem Ju (n:List UInt8) (l:List T) (hl:l.length≤1000000000):Ev (λ m _=>zW m n l) (apT n l):=by
 refine Ev.succ ?_
 simp only [qAL,qjM]
 refine Ev.ct (zf (by simp;omega) (by omega)) ?_
 refine Ev.case (λ h=>?_) λ x t h=>?_
 ·subst h;exact Ev.pure _
 ·subst h;exact Ev.pure _
def qFR (n:List UInt8):List UInt8 × Int × Int × Int:=(jq.find? λ r=>r.1==n).getD ([],0,0,0)
theorem qrD (n:List UInt8):(qFR n).2=qB n:=by
 unfold qFR qB
 cases jq.find? λ r=>r.1==n<;>rfl
theorem qvN (n:List UInt8):Ev (λ m _=>qaw m n) (qFR n):=by
 refine Ev.succ ?_
 simp only [qto,qb6]
 refine Ev.bind (a:=jq) (Ev.pure _) ?_
 have key:=qr (P := λ i=>Ev (λ m k=>Qn m k n jq jq.length i [] 0 0 0) (((jq.drop i).find? λ r=>r.1==n).getD ([],0,0,0))) jq (by decide)
  (λ hc=>by
   refine Ev.loop ?_
   simp only [qjF,qb4]
   refine Ev.cf hc ?_
   exact Ev.pure _)
  (λ i x hx hd hc hg hi hP=>by
   refine Ev.loop ?_
   simp only [qjF,qb4]
   refine Ev.ct hc (Ev.some hg ?_)
   rw [hd,List.find?_cons,hi]
   refine Ev.ite (λ h=>?_) λ h=>?_
   ·exact Ev.ret (by rw [show (x.1==n)=true from h];rfl)
   ·rw [show (x.1==n)=false from h];exact hP)
 refine Ev.diag (L := λ m k=>Qn m k n jq jq.length 0 [] 0 0 0) ?_
 exact key 0 (Nat.zero_le _)
theorem qz6 {t:T} (h3:t.kind=3) (h:qas t=0):(qB t.name).2.2≠0∧(qB t.name).1≤(t.kids.length:Int)∧(t.kids.length:Int)≤(qB t.name).2.1∧JU t=false:=by
 unfold qas at h
 rw [if_neg (show ¬ t.kind≠3 from λ hh=>hh h3)] at h
 split at h
 ·omega
 rename_i h1
 split at h
 ·omega
 rename_i h2
 split at h
 ·omega
 rename_i h4
 exact ⟨h1,by omega,by omega,by simpa using h4⟩
theorem quq {t:T} {i:Nat} (h:i<t.kids.length):qd t.kids (i:Int)=some (kid t i):=by
 rw [jN]
 unfold kid
 rw [List.getD_eq_getElem?_getD,List.getElem?_eq_getElem h];rfl
theorem qcP {t:T} (h:0<t.kids.length):qd t.kids 0=some (kid t 0):=quq (i:=0) h
theorem qpE {t:T} (h:1<t.kids.length):qd t.kids 1=some (kid t 1):=quq (i:=1) h
theorem qB7 {t:T} {i:Nat} (h:i<t.kids.length):kid t i∈t.kids:=by
 unfold kid
 rw [List.getD_eq_getElem?_getD,List.getElem?_eq_getElem h]
 exact List.getElem_mem h
theorem yu {t:T} {n:List UInt8}:isN t n=true↔t.kind=3∧t.name=n:=by
 unfold isN
 rw [Bool.and_eq_true,beq_iff_eq,beq_iff_eq]
theorem qFs (t:T):size t≤1000000000→Ev (λ m _=>qA m t) (qZ t):=by
 induction t using T.ind with
 | h t ih =>
   intro hs
   refine Ev.succ ?_
   simp only [quQ,qcH]
   have hl:=yH t
   rw [qi8]
   refine Ev.ite (λ h=>?_) λ h3=>?_
   ·rw [bnt,qh] at h;exact Ev.ret (by rw [if_pos h])
   rw [bnf,qj] at h3
   rw [if_neg (show ¬ t.kind≠3 from λ hh=>hh h3)]
   have k2:=qr (P := λ i=>Ev (λ m k=>(qO m (qA m) k).2 t.kids t.kids.length i) (((t.kids.drop i).map qZ).foldl thn 0)) t.kids (by omega)
    (λ hc=>by
     refine Ev.loop ?_
     simp only [qkr,qcV]
     refine Ev.cf hc ?_
     exact Ev.ret (by simp))
    (λ i x hx hd hc hg hi hP=>by
     refine Ev.loop ?_
     simp only [qkr,qcV,qe]
     have hm:=List.mem_of_getElem? hx
     have h1:=y9 t x hm
     refine Ev.ct hc (Ev.some hg (Ev.bind (ih x hm (by omega)) ?_))
     rw [hd,List.map_cons,jO,hi]
     refine Ev.ite (λ h=>?_) λ h=>?_
     ·rw [bnt,qh] at h;exact Ev.ret (by rw [qL _ h])
     ·rw [bnf,qj] at h;rw [h];exact hP)
   have k2':Ev (λ m k=>(qO m (qA m) k).2 t.kids t.kids.length 0) ((t.kids.map qZ).foldl thn 0):=(k2 0 (Nat.zero_le _)).res (by rw [List.drop_zero])
   have k1:=qr (P := λ i=>Ev (λ m k=>(qO m (qA m) k).1 t.kids t.kids.length i t.kind t.name t.sort t.kids) (if (t.kids.drop i).any (λ k=>decide (k.kind=3)||decide (k.sort≠1))=true then 10 else (t.kids.map qZ).foldl thn 0)) t.kids (by omega)
    (λ hc=>by
     refine Ev.loop ?_
     simp only [qkR,qcG]
     refine Ev.cf hc ?_
     refine k2'.res ?_
     rw [List.drop_length];rfl)
    (λ i x hx hd hc hg hi hP=>by
     refine Ev.loop ?_
     simp only [qkR,qcG,qe]
     refine Ev.ct hc (Ev.some hg ?_)
     rw [hd,List.any_cons,hi]
     refine Ev.ite (λ h=>?_) λ h=>?_
     ·rw [qj] at h;exact Ev.ret (by rw [decide_eq_true h];rfl)
     rw [qh] at h
     rw [decide_eq_false h]
     refine Ev.ite (λ h'=>?_) λ h'=>?_
     ·rw [bnt,qh] at h';exact Ev.ret (by rw [decide_eq_true h'];rfl)
     ·rw [bnf,qj] at h';rw [decide_eq_false (λ hh=>hh h')];exact hP)
   have fin2:qas t=0→Ev (λ m _=>(qO m (qA m) m).2 t.kids t.kids.length 0) ((t.kids.map qZ).foldl thn (qas t)) := λ h=>by
    rw [h]
    exact Ev.diag (L := λ m k=>(qO m (qA m) k).2 t.kids t.kids.length 0) k2'
   have fin1:JU t=t.kids.any (λ k=>decide (k.kind=3)||decide (k.sort≠1))→qas t=(if JU t=true then 10 else 0)→Ev (λ m _=>(qO m (qA m) m).1 t.kids t.kids.length 0 t.kind t.name t.sort t.kids) ((t.kids.map qZ).foldl thn (qas t)) := λ hp h=>by
    refine (Ev.diag (L := λ m k=>(qO m (qA m) k).1 t.kids t.kids.length 0 t.kind t.name t.sort t.kids) (k1 0 (Nat.zero_le _))).res ?_
    rw [List.drop_zero,← hp,h]
    split
    ·rw [qL _ (by decide)]
    ·rfl
   refine Ev.bind (qvN t.name) ?_
   rw [qrD]
   have hK:qas t=if (qB t.name).2.2=0 then 10 else if (t.kids.length:Int)<(qB t.name).1∨(qB t.name).2.1<(t.kids.length:Int) then 6 else if JU t=true then 10 else 0:=by
    unfold qas
    rw [if_neg (show ¬ t.kind≠3 from λ hh=>hh h3)]
   refine Ev.ite (λ h=>?_) λ h=>?_
   ·rw [qj] at h;rw [if_pos h] at hK;exact Ev.ret (by rw [hK,qL _ (by decide)])
   rw [qh] at h
   rw [if_neg h] at hK
   refine Ev.ite (λ h1=>?_) λ h1=>?_
   ·rw [qs] at h1;rw [if_pos (.inl h1)] at hK;exact Ev.ret (by rw [hK,qL _ (by decide)])
   rw [qx] at h1
   refine Ev.ite (λ h2=>?_) λ h2=>?_
   ·rw [qs] at h2;rw [if_pos (.inr h2)] at hK;exact Ev.ret (by rw [hK,qL _ (by decide)])
   rw [qx] at h2
   rw [if_neg (by omega)] at hK
   refine Ev.ite (λ hn=>?_) λ hn=>?_
   ·rw [jb] at hn
    refine fin1 ?_ hK
    unfold JU
    rw [hn,if_neg (by decide),if_pos (.inl rfl)]
   rw [jr] at hn
   refine Ev.ite (λ hn'=>?_) λ hn'=>?_
   ·rw [jb] at hn'
    refine fin1 ?_ hK
    unfold JU
    rw [hn',if_neg (by decide),if_pos (.inr rfl)]
   rw [jr] at hn'
   refine Ev.ite (λ hw=>?_) λ hw=>?_
   ·rw [jb] at hw
    have hpos:0<t.kids.length:=by
     rw [hw,show (qB [110,101,119]).1=1 from by decide] at h1
     omega
    refine Ev.some (qcP hpos) ?_
    have hp:JU t=decide ((kid t 0).kind≠2):=by
     unfold JU
     rw [if_pos (show t.name=qg7 from hw)]
    refine Ev.ite (λ hh=>?_) λ hh=>?_
    ·rw [bnt,qh] at hh
     rw [hp,decide_eq_true hh,if_pos rfl] at hK
     exact Ev.ret (by rw [hK,qL _ (by decide)])
    ·rw [bnf,qj] at hh
     rw [hp,decide_eq_false (λ g=>g hh)] at hK
     exact fin2 hK
   ·rw [jr] at hw
    refine fin2 ?_
    have:JU t=false:=by
     unfold JU
     rw [if_neg (show ¬ t.name=qg7 from hw),if_neg (λ h=>h.elim hn hn')]
    rw [this] at hK
    exact hK
theorem qI0 (t:T) (hs:size t≤1000000000):Ev (λ m _=>qdn m t) (qhg t):=by
 refine Ev.succ ?_
 simp only [quk,qfW,qe]
 unfold qhg
 refine Ev.bind (JZ t hs) ?_
 refine Ev.ite (λ h=>?_) λ h=>?_
 ·rw [bnt,qh] at h;exact Ev.ret (by rw [jQ h])
 ·rw [bnf,qj] at h;rw [h];exact Ev.bind (qFs t hs) (Ev.pure _)
theorem qvl (n:List UInt8):Ev (λ m _=>qb5 m n) (qB n).2.2:=by
 refine Ev.succ ?_
 simp only [qyd,qeS]
 refine Ev.bind (a:=jq) (Ev.succ (Ev.pure _)) ?_
 have key:=qr (P := λ i=>Ev (λ m k=>qaj m k n jq i) (((jq.drop i).find? λ r=>r.1==n).getD ([],0,0,0)).2.2.2) jq (by decide)
  (λ hc=>by
   refine Ev.loop ?_
   simp only [qnt,qeM]
   refine Ev.cf hc ?_
   exact Ev.pure _)
  (λ i x hx hd hc hg hi hP=>by
   refine Ev.loop ?_
   simp only [qnt,qeM]
   refine Ev.ct hc (Ev.some hg ?_)
   rw [hd,List.find?_cons,hi]
   refine Ev.ite (λ h=>?_) λ h=>?_
   ·refine Ev.some hg (Ev.ret ?_)
    rw [show (x.1==n)=true from h];rfl
   ·rw [show (x.1==n)=false from h];exact hP)
 refine Ev.diag (L := λ m k=>qaj m k n jq 0) ?_
 exact (key 0 (Nat.zero_le _)).res (by rw [← qrD];rfl)
theorem qIr (t:T):Ev (λ m _=>qf9 m t) (qk4 jq t.name t.kids.length):=by
 refine Ev.succ ?_
 simp only [qyw,qe0]
 refine Ev.bind (a:=jq) (Ev.succ (Ev.pure _)) ?_
 have key:=qr (P := λ i=>Ev (λ m k=>J3 m k jq i t.kind t.name t.sort t.kids) (qk4 (jq.drop i) t.name t.kids.length)) jq (by decide)
  (λ hc=>by
   refine Ev.loop ?_
   simp only [qnk,qeO]
   refine Ev.cf hc ?_
   exact Ev.pure _)
  (λ i x hx hd hc hg hi hP=>by
   refine Ev.loop ?_
   simp only [qnk,qeO]
   refine Ev.ct hc (Ev.some hg ?_)
   rw [hd,qEF,hi]
   refine Ev.ite (λ h=>?_) λ h=>?_
   ·rw [if_pos (show (x.1==t.name)=true from h)]
    refine Ev.some hg ?_
    refine Ev.ite (λ h'=>?_) λ h'=>?_
    ·rw [qeg] at h'
     refine Ev.some hg (Ev.ret ?_)
     rw [decide_eq_true h'];rfl
    ·rw [qkt] at h'
     exact Ev.ret (by rw [decide_eq_false (by omega)];rfl)
   ·rw [if_neg (by rw [show (x.1==t.name)=false from h];decide)];exact hP)
 refine Ev.diag (L := λ m k=>J3 m k jq 0 t.kind t.name t.sort t.kids) ?_
 exact key 0 (Nat.zero_le _)
theorem qD6 (t:T) (hl:t.kids.length<2 ^ 62) (hpos:t.name=qg7→0<t.kids.length):Ev (λ m _=>qdD m t) (qi9 t):=by
 refine Ev.succ ?_
 simp only [quL,qcT]
 unfold qi9
 refine Ev.ite (λ h=>?_) λ h=>?_
 ·rw [jb] at h
  rw [if_pos (show t.name=qg7 from h)]
  refine Ev.some (qcP (hpos h)) (Ev.pure _)
 rw [jr] at h
 rw [if_neg (show ¬ t.name=qg7 from h)]
 have key:=qr (P := λ i=>Ev (λ m k=>Q8 m k i t.kind t.name t.sort t.kids) (agB (t.kids.drop i))) t.kids hl
  (λ hc=>by
   refine Ev.loop ?_
   simp only [qkA,qcJ]
   refine Ev.cf hc ?_
   exact Ev.ret (by rw [List.drop_length];rfl))
  (λ i x hx hd hc hg hi hP=>by
   refine Ev.loop ?_
   simp only [qkA,qcJ]
   refine Ev.ct hc (Ev.some hg ?_)
   rw [hd,qHd,hi]
   refine Ev.ite (λ h=>?_) λ h=>?_
   ·exact Ev.ret (by rw [show (x.kind==3)=true from h];rfl)
   rw [show (x.kind==3)=false from h]
   refine Ev.some hg ?_
   refine Ev.ite (λ h'=>?_) λ h'=>?_
   ·rw [bnt,qh] at h'
    exact Ev.ret (by rw [show (x.sort != 1)=true from bne_iff_ne.2 h'];rfl)
   ·rw [bnf,qj] at h'
    rw [show (x.sort != 1)=false by rw [h'];rfl]
    exact hP)
 refine Ev.diag (L := λ m k=>Q8 m k 0 t.kind t.name t.sort t.kids) ?_
 exact (key 0 (Nat.zero_le _)).res (by rw [List.drop_zero])
theorem qDT (t:T):size t≤1000000000→Ev (λ m _=>yq m t) (qZ t):=by
 induction t using T.ind with
 | h t ih =>
   intro hs
   refine Ev.succ ?_
   simp only [qwB,qdT,qe]
   have hl:=yH t
   rw [qi8]
   refine Ev.ite (λ h=>?_) λ h3=>?_
   ·rw [bnt,qh] at h;exact Ev.ret (by rw [if_pos h])
   rw [bnf,qj] at h3
   rw [if_neg (show ¬ t.kind≠3 from λ hh=>hh h3),← qGS t h3]
   have key:=qr (P := λ i=>Ev (λ m k=>Qw m (yq m) k i t.kind t.name t.sort t.kids) (((t.kids.drop i).map qZ).foldl thn 0)) t.kids (by omega)
    (λ hc=>by
     refine Ev.loop ?_
     simp only [qlZ,qdP]
     refine Ev.cf hc ?_
     exact Ev.ret (by simp))
    (λ i x hx hd hc hg hi hP=>by
     refine Ev.loop ?_
     simp only [qlZ,qdP,qe]
     have hm:=List.mem_of_getElem? hx
     have h1:=y9 t x hm
     refine Ev.ct hc (Ev.some hg (Ev.bind (ih x hm (by omega)) ?_))
     rw [hd,List.map_cons,jO,hi]
     refine Ev.ite (λ h=>?_) λ h=>?_
     ·rw [bnt,qh] at h;exact Ev.ret (by rw [qL _ h])
     ·rw [bnf,qj] at h;rw [h];exact hP)
   have fin:qtB t=0→Ev (λ m _=>Qw m (yq m) m 0 t.kind t.name t.sort t.kids) ((t.kids.map qZ).foldl thn (qtB t)) := λ h=>by
    rw [h]
    exact (Ev.diag (L := λ m k=>Qw m (yq m) k 0 t.kind t.name t.sort t.kids) (key 0 (Nat.zero_le _))).res (by rw [List.drop_zero])
   unfold qtB at fin ⊢
   refine Ev.bind (qvl t.name) ?_
   refine Ev.ite (λ h=>?_) λ h=>?_
   ·rw [qj] at h;rw [if_pos h];exact Ev.ret (by rw [qL _ (by decide)])
   rw [qh] at h
   rw [if_neg h] at fin ⊢
   refine Ev.bind (qIr t) ?_
   cases hf:qk4 jq t.name t.kids.length with
   | false =>
     refine Ev.ct rfl ?_
     rw [if_pos rfl];exact Ev.ret (by rw [qL _ (by decide)])
   | true =>
     rw [hf,if_neg (by decide)] at fin
     rw [if_neg (by decide)]
     refine Ev.cf rfl ?_
     refine Ev.ite (λ h2=>?_) λ h2=>?_
     ·rw [qj] at h2
      refine Ev.bind (qD6 t (by omega) λ hn=>?_) ?_
      ·obtain ⟨k1,k2,k3,k4,k5,k6,k7⟩:=qtm h
       have h6:=k6 h2
       unfold qk4 at hf
       rw [k1,k2,Bool.true_and,Bool.and_eq_true,decide_eq_true_iff] at hf
       omega
      cases ha:qi9 t with
      | false =>
        refine Ev.ct rfl ?_
        rw [if_pos ⟨h2,rfl⟩]
        exact Ev.ret (by rw [qL _ (by decide)])
      | true =>
        rw [ha,if_neg (by rintro ⟨_,h⟩;cases h)] at fin
        rw [if_neg (by rintro ⟨_,h⟩;cases h)]
        exact Ev.cf rfl (fin rfl)
     ·rw [qh] at h2
      rw [if_neg (by rintro ⟨h,_⟩;exact h2 h)] at fin ⊢
      exact fin rfl
theorem qIl (t:T) (hs:size t≤1000000000):Ev (λ m _=>qeB m t) (qhg t):=by
 refine Ev.succ ?_
 simp only [qwX,qgK,qe]
 unfold qhg
 refine Ev.bind (qaO t hs) ?_
 refine Ev.ite (λ h=>?_) λ h=>?_
 ·rw [bnt,qh] at h;exact Ev.ret (by rw [jQ h])
 ·rw [bnf,qj] at h;rw [h];exact Ev.bind (qDT t hs) (Ev.pure _)
end Go.AmYtbpnmbmdbblehaaGreat
namespace Go.GxYtbpnmbmdbblehaaGreat
def Asc (l:List T):Prop:=l.Pairwise λ a b=>qp a b=-1
theorem yd {a:T}:qp a a≠-1:=by rw [qoP];decide
theorem qvt {a b:T}:qp a b=1↔qp b a=-1:=by
 have:=zI.anti a b;omega
theorem qdR {a b c:T} (h1:qp a b=-1) (h2:qp b c=-1):qp a c=-1:=zI.trans a b c h1 h2
theorem qah {x:T} {l:List T}:Asc (x::l)↔(∀ y∈l,qp x y=-1)∧Asc l:=List.pairwise_cons
theorem qBS:∀ (l m:List T),Asc l→Asc m→(∀ x,x∈l↔x∈m)→l=m
 | [],[],_,_,_=>rfl
 | [],y::m,_,_,h=>absurd ((h y).2 (List.mem_cons_self ..)) (by simp)
 | x::l,[],_,_,h=>absurd ((h x).1 (List.mem_cons_self ..)) (by simp)
 | x::l,y::m,hl,hm,h=>by
   obtain ⟨hl1,hl2⟩:=qah.1 hl
   obtain ⟨hm1,hm2⟩:=qah.1 hm
   have hx:=(h x).1 (List.mem_cons_self ..)
   have hy:=(h y).2 (List.mem_cons_self ..)
   have e:x=y:=by
    rcases List.mem_cons.1 hx with e | hx
    ·exact e
    rcases List.mem_cons.1 hy with e | hy
    ·exact e.symm
    exact absurd (qdR (hl1 y hy) (hm1 x hx)) yd
   subst e
   rw [qBS l m hl2 hm2 λ z=>?_]
   constructor
   ·intro hz
    rcases List.mem_cons.1 ((h z).1 (List.mem_cons_of_mem _ hz)) with e | h'
    ·subst e;exact absurd (hl1 z hz) yd
    ·exact h'
   ·intro hz
    rcases List.mem_cons.1 ((h z).2 (List.mem_cons_of_mem _ hz)) with e | h'
    ·subst e;exact absurd (hm1 z hz) yd
    ·exact h'
theorem qsQ (n:Nat):∀ (a b:List T),a.length+b.length≤n→Asc a→Asc b→Asc (zh a b)∧(∀ x,x∈zh a b↔¬(x∈a↔x∈b)):=by
 induction n with
 | zero =>
   intro a b h _ _
   obtain rfl:a=[]:=List.length_eq_zero_iff.1 (by omega)
   obtain rfl:b=[]:=List.length_eq_zero_iff.1 (by omega)
   rw [zh]
   exact ⟨List.Pairwise.nil,by simp⟩
 | succ n ih =>
   intro a b h ha hb
   match a,b with
   | [],b=>rw [zh];exact ⟨hb,by simp⟩
   | x::a,[]=>rw [zh];exact ⟨ha,by simp [Classical.or_iff_not_imp_left]⟩
   | x::a,y::b =>
     rw [zh]
     obtain ⟨ha1,ha2⟩:=qah.1 ha
     obtain ⟨hb1,hb2⟩:=qah.1 hb
     simp only [List.length_cons] at h
     by_cases h1:qp x y=-1
     ·rw [if_pos h1]
      obtain ⟨k1,k2⟩:=ih a (y::b) (by simp;omega) ha2 hb
      have hxn:x ∉ y::b:=by
       intro h
       rcases List.mem_cons.1 h with e | h
       ·subst e;exact yd h1
       ·exact yd (qdR h1 (hb1 x h))
      have hxa:x ∉ a := λ h=>yd (ha1 x h)
      refine ⟨qah.2 ⟨λ z hz=>?_,k1⟩,λ z=>?_⟩
      ·have:=(k2 z).1 hz
       by_cases hza:z∈a
       ·exact ha1 z hza
       ·have hzb:z∈y::b:=by
          by_cases hzb:z∈y::b
          ·exact hzb
          ·exact absurd ⟨λ h=>absurd h hza,λ h=>absurd h hzb⟩ this
        rcases List.mem_cons.1 hzb with e | h'
        ·rw [e];exact h1
        ·exact qdR h1 (hb1 z h')
      ·rw [List.mem_cons,k2,List.mem_cons (a:=z) (b:=x)]
       by_cases e:z=x
       ·subst e
        simp [hxn]
       ·simp [e]
     ·rw [if_neg h1]
      by_cases h2:qp x y=1
      ·rw [if_pos h2]
       have h3:=qvt.1 h2
       obtain ⟨k1,k2⟩:=ih (x::a) b (by simp;omega) ha hb2
       have hyn:y ∉ x::a:=by
        intro h
        rcases List.mem_cons.1 h with e | h
        ·subst e;exact yd h3
        ·exact yd (qdR h3 (ha1 y h))
       have hyb:y ∉ b := λ h=>yd (hb1 y h)
       refine ⟨qah.2 ⟨λ z hz=>?_,k1⟩,λ z=>?_⟩
       ·have:=(k2 z).1 hz
        by_cases hzb:z∈b
        ·exact hb1 z hzb
        ·have hza:z∈x::a:=by
           by_cases hza:z∈x::a
           ·exact hza
           ·exact absurd ⟨λ h=>absurd h hza,λ h=>absurd h hzb⟩ this
         rcases List.mem_cons.1 hza with e | h'
         ·rw [e];exact h3
         ·exact qdR h3 (ha1 z h')
       ·rw [List.mem_cons,k2,List.mem_cons (a:=z) (b:=y)]
        by_cases e:z=y
        ·subst e
         simp [hyn]
        ·simp [e]
      ·rw [if_neg h2]
       have h3:qp x y=0:=by have:=zI.rng x y;omega
       have e:=JX x y h3
       subst e
       obtain ⟨k1,k2⟩:=ih a b (by omega) ha2 hb2
       refine ⟨k1,λ z=>?_⟩
       rw [k2,List.mem_cons,List.mem_cons]
       by_cases e:z=x
       ·subst e
        have:z ∉ a := λ h=>yd (ha1 z h)
        have:z ∉ b := λ h=>yd (hb1 z h)
        simp [*]
       ·simp [e]
theorem qvP {a b:List T} (ha:Asc a) (hb:Asc b):Asc (zh a b):=(qsQ _ a b (Nat.le_refl _) ha hb).1
theorem qEq {a b:List T} (ha:Asc a) (hb:Asc b) (x:T):x∈zh a b↔¬(x∈a↔x∈b):=(qsQ _ a b (Nat.le_refl _) ha hb).2 x
theorem qf1:∀ (ls:List (List T)) (a:List T),Asc a→(∀ l∈ls,Asc l)→Asc (ls.foldl zh a)
 | [],_,h,_=>h
 | l::ls,a,h,k=>qf1 ls _ (qvP h (k l (List.mem_cons_self ..))) λ m hm=>k m (List.mem_cons_of_mem _ hm)
theorem qkq (t:T):Asc (jt t):=by
 refine T.ind (P := λ t=>Asc (jt t)) ?_ t
 intro t ih
 rw [qj2]
 split
 ·exact List.Pairwise.nil
 ·split
  ·exact qf1 _ _ List.Pairwise.nil λ l hl=>by
    obtain ⟨k,hk,rfl⟩:=List.mem_map.1 hl
    exact ih k hk
  ·exact List.pairwise_singleton _ _
noncomputable def Q5 (t:T) (s:List T × Bool) (x:T):List T × Bool :=
 if s.2=false∧qp t x≤0 then (s.1++(if qp t x<0 then [t] else [])++[x],true) else (s.1++[x],s.2)
noncomputable def qt4 (l:List T) (t:T):List T:=if (l.foldl (Q5 t) ([],false)).2 then (l.foldl (Q5 t) ([],false)).1 else (l.foldl (Q5 t) ([],false)).1++[t]
noncomputable def qgT (l:List T) (t:T):List T:=if l.any (λ x=>yK x t) then l.filter (λ x => !yK x t) else qt4 l t
noncomputable def qiW (a b:List T):List T:=b.foldl qgT a
theorem qvK (t:T):∀ (l out:List T),l.foldl (Q5 t) (out,true)=(out++l,true)
 | [],out=>by simp
 | x::l,out=>by
   have e:Q5 t (out,true) x=(out++[x],true):=by simp [Q5]
   rw [List.foldl_cons,e,qvK t l]
   simp
noncomputable def Qs:List T→T→List T
 | [],t=>[t]
 | x::l,t=>if qp t x<0 then t::x::l else if qp t x=0 then x::l else x::Qs l t
theorem qtn (t:T):∀ (l out:List T),(if (l.foldl (Q5 t) (out,false)).2 then (l.foldl (Q5 t) (out,false)).1 else (l.foldl (Q5 t) (out,false)).1++[t])=out++Qs l t
 | [],out=>by simp [Qs]
 | x::l,out=>by
   rw [List.foldl_cons]
   by_cases h:qp t x≤0
   ·have e:Q5 t (out,false) x=(out++(if qp t x<0 then [t] else [])++[x],true):=by simp [Q5,h]
    rw [e,qvK,Qs]
    by_cases h0:qp t x<0
    ·simp [h0]
    ·have:qp t x=0:=by omega
     simp [this]
   ·have e:Q5 t (out,false) x=(out++[x],false):=by simp [Q5,h]
    rw [e,qtn t l,Qs,if_neg (by omega),if_neg (by omega)]
    simp
theorem qrV (l:List T) (t:T):qt4 l t=Qs l t:=by
 have:=qtn t l []
 simpa [qt4] using this
theorem qq3 (t:T):∀ (l:List T) (x:T),x∈Qs l t↔x∈l∨x=t
 | [],x=>by simp [Qs]
 | y::l,x=>by
   rw [Qs]
   split
   ·simp only [List.mem_cons]
    constructor
    ·rintro (h | h | h)<;>simp [h]
    ·rintro ((h | h) | h)<;>simp [h]
   ·split
    ·rename_i h
     have:=JX t y h
     subst this
     simp only [List.mem_cons]
     constructor
     ·rintro (h | h)<;>simp [h]
     ·rintro ((h | h) | h)<;>simp [h]
    ·rw [List.mem_cons,qq3 t l x,List.mem_cons]
     constructor
     ·rintro (h | h | h)<;>simp [h]
     ·rintro ((h | h) | h)<;>simp [h]
theorem qyS (t:T):∀ (l:List T),Asc l→Asc (Qs l t)
 | [],_=>List.pairwise_singleton _ _
 | y::l,h=>by
   obtain ⟨h1,h2⟩:=qah.1 h
   rw [Qs]
   have hr:=zI.rng t y
   split
   ·have hlt:qp t y=-1:=by omega
    refine qah.2 ⟨λ z hz=>?_,h⟩
    rcases List.mem_cons.1 hz with e | hz
    ·rw [e];exact hlt
    ·exact qdR hlt (h1 z hz)
   ·split
    ·exact h
    ·refine qah.2 ⟨λ z hz=>?_,qyS t l h2⟩
     rcases (qq3 t l z).1 hz with hz | e
     ·exact h1 z hz
     ·rw [e];exact qvt.1 (by omega)
theorem jW {a b:T}:yK a b=true↔a=b:=by unfold yK;exact decide_eq_true_iff
theorem qFv {l:List T} (h:Asc l) (t:T):Asc (qgT l t)∧∀ x,x∈qgT l t↔¬(x∈l↔x=t):=by
 unfold qgT
 by_cases hm:t∈l
 ·have h1:(l.any λ x=>yK x t)=true:=List.any_eq_true.2 ⟨t,hm,jW.2 rfl⟩
  rw [if_pos h1]
  refine ⟨List.Pairwise.filter _ h,λ x=>?_⟩
  rw [List.mem_filter]
  by_cases e:x=t
  ·subst e
   simp [hm,jW.2 rfl]
  ·have:yK x t=false:=by
     cases hh:yK x t
     ·rfl
     ·exact absurd (jW.1 hh) e
   simp [e,this]
 ·rw [if_neg (λ hh=>by
    obtain ⟨x,hx,he⟩:=List.any_eq_true.1 hh
    exact hm (by rw [← jW.1 he];exact hx)),qrV]
  refine ⟨qyS t l h,λ x=>?_⟩
  rw [qq3]
  by_cases e:x=t
  ·subst e;simp [hm]
  ·simp [e]
theorem qmM:∀ (b a:List T),Asc a→Asc b→Asc (qiW a b)∧∀ x,x∈qiW a b↔¬(x∈a↔x∈b)
 | [],a,ha,_=>⟨ha,λ x=>by simp [qiW]⟩
 | y::b,a,ha,hb=>by
   obtain ⟨hb1,hb2⟩:=qah.1 hb
   obtain ⟨k1,k2⟩:=qFv ha y
   obtain ⟨m1,m2⟩:=qmM b (qgT a y) k1 hb2
   refine ⟨m1,λ x=>?_⟩
   rw [show qiW a (y::b)=qiW (qgT a y) b from rfl,m2,k2,List.mem_cons]
   by_cases e:x=y
   ·subst e
    have:x ∉ b := λ h=>yd (hb1 x h)
    by_cases hx:x∈a<;>simp [this,hx]
   ·by_cases hx:x∈a<;>by_cases hy:x∈b<;>simp [e,hx,hy]
theorem qy0 {a b:List T} (ha:Asc a) (hb:Asc b):qiW a b=zh a b :=
 qBS _ _ (qmM b a ha hb).1 (qvP ha hb) λ x=>by rw [(qmM b a ha hb).2,qEq ha hb]
end Go.GxYtbpnmbmdbblehaaGreat
namespace Go.AmYtbpnmbmdbblehaaGreat
open Go Go.GxYtbpnmbmdbblehaaGreat Go.Lib
noncomputable def szL (l:List T):Nat:=(l.map size).sum
theorem qK (x:T) (l:List T):szL (x::l)=size x+szL l:=by simp [szL]
theorem qg4 (a b:List T):szL (a++b)=szL a+szL b:=by simp [szL]
theorem jd:∀ l:List T,l.length≤szL l
 | []=>Nat.zero_le _
 | x::l=>by
   have:=jd l
   have:=size_pos x
   rw [qK,List.length_cons];omega
theorem qbt {l:List T} {x:T} (h:x∈l):size x≤szL l:=qiC l x h
theorem qmQ:∀ (n:Nat) (a b:List T),a.length+b.length≤n→szL (zh a b)≤szL a+szL b
 | _,[],b,_=>by rw [zh];omega
 | _,x::a,[],_=>by rw [zh];omega
 | 0,x::a,y::b,h=>by simp at h
 | n+1,x::a,y::b,h=>by
   simp only [List.length_cons] at h
   rw [zh]
   split
   ·have:=qmQ n a (y::b) (by simp;omega)
    rw [qK,qK];omega
   ·split
    ·have:=qmQ n (x::a) b (by simp;omega)
     rw [qK y,qK y];omega
    ·have:=qmQ n a b (by omega)
     rw [qK,qK];omega
theorem qqx:∀ (ls:List (List T)) (a:List T),szL (ls.foldl zh a)≤szL a+(ls.map szL).sum
 | [],_=>by simp
 | l::ls,a=>by
   have h1:=qqx ls (zh a l)
   have h2:=qmQ _ a l (Nat.le_refl _)
   simp only [List.foldl_cons,List.map_cons,List.sum_cons]
   omega
theorem qtW (f g:T→Nat):∀ l:List T,(∀ k∈l,f k≤g k)→(l.map f).sum≤(l.map g).sum
 | [],_=>Nat.le_refl _
 | x::l,h=>by
   have h1:=h x (List.mem_cons_self ..)
   have h2:=qtW f g l λ k hk=>h k (List.mem_cons_of_mem _ hk)
   simp only [List.map_cons,List.sum_cons];omega
theorem qz4 (l:List T) (h:∀ k∈l,szL (jt k)≤size k):szL ((l.map jt).foldl zh [])≤szL l:=by
 refine Nat.le_trans (qqx _ _) ?_
 rw [List.map_map]
 have:=qtW (szL ∘ jt) size l h
 show 0+_≤(l.map size).sum
 omega
theorem qj6 (t:T):szL (jt t)≤size t:=by
 refine T.ind (P := λ t=>szL (jt t)≤size t) ?_ t
 intro t ih
 rw [qj2]
 split
 ·exact Nat.zero_le _
 ·split
  ·have:=qz4 t.kids ih
   have:=qF t
   unfold szL at *;omega
  ·show szL [t]≤_
   rw [qK];exact Nat.le_refl _
theorem qdz (l:List T):szL (zD l)≤szL l:=qz4 l λ k _=>qj6 k
theorem qmv (x:T) (l:List T):yY (x::l) 1 (((x::l).length:Nat):Int)=l:=by
 unfold yY
 rw [Int.toNat_natCast,List.take_length];rfl
theorem qmH (n:Nat):inb (n:Int) n=true:=by unfold inb;rw [decide_eq_true_iff];omega
theorem qpo (x:T) (l:List T):inb 1 (Int.toNat (((x::l).length:Nat):Int))=true:=by
 unfold inb;rw [decide_eq_true_iff,Int.toNat_natCast,List.length_cons];omega
theorem qzD (x:T) (l:List T):ilt 0 (((x::l).length:Nat):Int)=true:=by rw [qs,List.length_cons];omega
theorem qCi:∀ (n:Nat) (a b acc:List T),a.length+b.length≤n→szL acc+szL a+szL b≤1000000000→Ev (λ m k=>qbN m k a b acc) (acc++zh a b):=by
 intro n
 induction n with
 | zero =>
   intro a b acc hn hs
   have:a=[]:=List.eq_nil_of_length_eq_zero (by omega)
   subst this
   have:b=[]:=List.eq_nil_of_length_eq_zero (by omega)
   subst this
   refine Ev.loop ?_
   simp only [qqs,qhp]
   have:=jd acc
   exact Ev.cf rfl (Ev.ct (zf (by simp only [List.length_nil];omega) (by omega)) (Ev.ct (zf (by simp only [List.length_nil,List.append_nil];omega) (by omega)) (Ev.ret (by rw [zh];simp))))
 | succ n ih =>
   intro a b acc hn hs
   refine Ev.loop ?_
   simp only [qqs,qhp,qe]
   have h1:=jd acc
   have h2:=jd a
   have h3:=jd b
   cases a with
   | nil =>
     refine Ev.cf rfl (Ev.ct (zf (by simp only [List.length_nil];omega) (by omega)) (Ev.ct (zf (by simp only [List.append_nil];omega) (by omega)) (Ev.ret (by rw [zh];simp))))
   | cons x a =>
     refine Ev.ct (qzD x a) ?_
     cases b with
     | nil =>
       refine Ev.cf rfl (Ev.ct (zf (by omega) (by omega)) (Ev.ct (zf (by rw [List.length_append];simp only [List.length_nil];omega) (by omega)) (Ev.ret (by rw [zh];simp))))
     | cons y b =>
       rw [qK,qK] at hs
       refine Ev.ct (qzD y b) (Ev.some (Jm _) (Ev.some (Jm _) (Ev.bind (qcq x (by omega) y (by omega)) ?_)))
       rw [zh]
       simp only [List.length_cons] at hn h2 h3
       rw [qK] at h2 h3
       refine Ev.ite (λ hc=>?_) λ hc=>?_
       ·rw [qs] at hc
        have hc:qp x y=-1:=by rcases zI.rng x y with h | h | h<;>omega
        rw [if_pos hc]
        refine Ev.some (Jm _) (Ev.ct (zf (by omega) (by omega)) (Ev.ct (qmH _) (Ev.ct (qpo x a) ?_)))
        rw [qmv]
        refine (ih a (y::b) (acc++[x]) (by simp only [List.length_cons];omega) (by rw [qg4,qK,qK];show szL acc+(size x+0)+_+_≤_;omega)).res (by simp)
       ·rw [qx] at hc
        rw [if_neg (by omega)]
        refine Ev.ite (λ hd=>?_) λ hd=>?_
        ·rw [qs] at hd
         have hd:qp x y=1:=by rcases zI.rng x y with h | h | h<;>omega
         rw [if_pos hd]
         refine Ev.some (Jm _) (Ev.ct (zf (by omega) (by omega)) (Ev.ct (qmH _) (Ev.ct (qpo y b) ?_)))
         rw [qmv]
         refine (ih (x::a) b (acc++[y]) (by simp only [List.length_cons];omega) (by rw [qg4,qK,qK];show szL acc+(size y+0)+_+_≤_;omega)).res (by simp)
        ·rw [qx] at hd
         rw [if_neg (by omega)]
         refine Ev.ct (qmH _) (Ev.ct (qpo x a) (Ev.ct (qmH _) (Ev.ct (qpo y b) ?_)))
         rw [qmv,qmv]
         exact ih a b acc (by omega) (by omega)
theorem qz9 (a b:List T) (hs:szL a+szL b≤1000000000):Ev (λ m _=>qgV m a b) (zh a b):=by
 refine Ev.succ ?_
 simp only [qDu,qhq]
 refine Ev.diag (L := λ m k=>qbN m k a b []) ?_
 exact qCi _ a b [] (Nat.le_refl _) (by show 0+_+_≤_;omega)
theorem qA0 (l:List T) (i:Nat):szL (l.take i)≤szL l:=by
 have:=congrArg szL (List.take_append_drop i l)
 rw [qg4] at this;omega
theorem jE {l:List T} {i:Nat} {x:T} (h:l[i]? = some x):szL (l.take i)+size x≤szL l:=by
 have h1:l.take (i+1)=l.take i++[x]:=by rw [List.take_add_one,h];rfl
 have h2:=qA0 l (i+1)
 rw [h1,qg4,qK] at h2
 have:szL ([]:List T)=0:=rfl
 omega
theorem qiO {l:List T} {i:Nat} {x:T} (h:l[i]? = some x):((l.take (i+1)).map jt).foldl zh []=zh (((l.take i).map jt).foldl zh []) (jt x):=by
 rw [List.take_add_one,h,List.map_append,List.foldl_append];rfl
theorem qFx (t:T):size t≤1000000000→Ev (λ m _=>zR m t) (jt t):=by
 induction t using T.ind with
 | h t ih =>
   intro hs
   have hl:=yH t
   have hz:=qF t
   refine Ev.succ ?_
   simp only [quy,qcZ,qe]
   have key:=qr (P := λ i=>Ev (λ m k=>jR m (zR m) k (((t.kids.take i).map jt).foldl zh []) t.kids t.kids.length i) ((t.kids.map jt).foldl zh [])) t.kids (by omega)
    (λ hc=>by
     refine Ev.loop ?_
     simp only [qkZ,qcK]
     refine Ev.cf hc ?_
     rw [List.take_length]
     exact Ev.pure _)
    (λ i x hx hd hc hg hi hP=>by
     refine Ev.loop ?_
     simp only [qkZ,qcK,qe]
     have hm:=List.mem_of_getElem? hx
     have h1:=y9 t x hm
     have h2:=qdz (t.kids.take i)
     have h3:=jE hx
     have h4:=qj6 x
     refine Ev.ct hc (Ev.some hg (Ev.bind (ih x hm (by omega)) (Ev.bind (qz9 _ _ ?_) ?_)))
     ·unfold zD at h2;unfold szL at *;omega
     ·rw [hi]
      refine hP.congr λ m k=>?_
      rw [qiO hx])
   have main:Ev (λ m _=>jR m (zR m) m [] t.kids t.kids.length 0) ((t.kids.map jt).foldl zh []) :=
    Ev.diag (L := λ m k=>jR m (zR m) k [] t.kids t.kids.length 0) (key 0 (Nat.zero_le _))
   rw [qj2]
   by_cases h3:t.kind=3
   ·have hk:ieq t.kind 3=true:=qj.2 h3
    refine Ev.ct hk ?_
    refine Ev.ite (λ hn=>?_) λ hn=>?_
    ·rw [jb] at hn
     have hnz:isN t qbj=true:=yu.2 ⟨h3,hn⟩
     have hnx:isN t qcz=false:=by
      rw [← Bool.not_eq_true,yu];rintro ⟨_,h⟩;rw [hn] at h;exact absurd h (by decide)
     refine Ev.ite (λ he=>?_) λ he=>?_
     ·rw [qj] at he
      have he:t.kids=[]:=List.eq_nil_of_length_eq_zero (by omega)
      rw [hnz,he]
      exact Ev.pure _
     ·rw [qh] at he
      have he:t.kids.isEmpty=false:=by
       cases hh:t.kids with
       | nil=>rw [hh] at he;exact absurd rfl he
       | cons _ _=>rfl
      rw [hnz,he,hnx]
      exact Ev.ct hk (Ev.cf (by rw [hn];rfl) (Ev.pure _))
    ·have hn':=jr.1 hn
     have hnz:isN t qbj=false:=by
      rw [← Bool.not_eq_true,yu];rintro ⟨_,h⟩;exact hn' h
     rw [hnz]
     refine Ev.ct hk (Ev.ite (λ hx=>?_) λ hx=>?_)
     ·rw [show isN t qcz=true from yu.2 ⟨h3,jb.1 hx⟩]
      exact main
     ·have hnx:isN t qcz=false:=by
        rw [← Bool.not_eq_true,yu];rintro ⟨_,h⟩;exact jr.1 hx h
      rw [hnx]
      exact Ev.pure _
   ·have hk:ieq t.kind 3=false:=qh.2 h3
    have hnn:∀ n,isN t n=false := λ n=>by
     rw [← Bool.not_eq_true,yu];rintro ⟨h,_⟩;exact h3 h
    rw [hnn,hnn]
    exact Ev.cf hk (Ev.cf hk (Ev.pure _))
end Go.AmYtbpnmbmdbblehaaGreat
