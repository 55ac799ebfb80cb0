/- Part 4 of what the proofs stand on: plain functions of the program, and that they are its functions. -/
import Derived.Test.YtinbdcelmgfniaaGreatDoorM3
import Derived.KernelRfl
import Derived.Test.YtinbdcelmgfniaaGreatDoorProg
import Derived.Laws.OwnMore
import Derived.Deep.DeepAppendRoom
import Derived.ArgAppend
import Derived.Test.YtinbdcelmgfniaaGreatDoorM2
import Derived.IntWalk
import Derived.Lib.Bytealg
set_option linter.unusedVariables false
set_option linter.unusedSimpArgs false
set_option linter.defProp false
noncomputable section
open Option renaming some->Z,none->U
open Bool renaming true->O,false->Y
open Decidable renaming decide->J
open List renaming length->I
open Array renaming toList->V
open Go renaming Value->ah,World->ao,TypeId->aO,Program->aX,Operand->bw,FuncId->dm
namespace Go.Proofs.YtinbdcelmgfniaaGreatDoor
open Go Go.RowKit Go.GxZ Go.Sort Go.Proofs Go.Shelf Go.Lib
def dg(a:Nat->Nat->Bool)(n:Nat):aa Nat:=(List.range n).filter λ i=>J (i=0) || !a i (i-1)
def qhP{a:Nat->Nat->Bool}{n:Nat}(h:a n (n-1)=Y):dg a (n+1)=dg a n++[n]:=by
 grind [dg,List.range_succ]
def RB{a:Nat->Nat->Bool}{n:Nat}(b:0<n)(h:a n (n-1)=O):dg a (n+1)=dg a n:=by
 grind [dg,List.range_succ]
def Sp{a:Nat->Nat->Bool}{n:Nat}(h:∀i,1<=i->i<n->a i (i-1)=Y):dg a n=List.range n:=by
 grind [dg,List.filter_eq_self]
theorem qhU{α:Type}[Inhabited α](enc:α->aa ah)(k:Nat)(f:∀x,I (enc x)=k)(d:aM α)(i:Nat)(x:α)(g:i<d.size):setMany (flatK enc k d) (i*k) (enc x)=flatK enc k (d.setIfInBounds i x):=by
 refine ext_get! (by simp) λ t b=>?_;rw[size_setMany,size_flatK]at b;rw[get_setMany _ _ _ _ (by rw[size_flatK];exact b),f,get_flatK _ _ _ _ b,get_flatK _ _ _ _ (by simpa using b)]
 have a:0<k:=by
  grind
 by_cases c:i*k<=t/\t<i*k+k
 .rw[ag c];have e:=(blk_iff k i t a).1 c;rw[e,getElem!_set_same d i x g];congr 1;grind [Nat.div_add_mod,Nat.mul_comm]
 .rw[af c,getElem!_set_other d i _ x λ h=>c ((blk_iff k i t a).2 h)]
def qlc{α : Type}[Inhabited α]{w:ao}{enc : α -> aa ah}{k blk:Nat}(hk:∀ x,I (enc x)=k)(m:Nat)(dk:aM α)(os:aM Obj)(hblk:blk<w.heap.size)(i:Nat)(x : α)(hi:i<dk.size:=by omega) :
  (sortWorldK enc k w blk 0 m dk os).setCells blk (i*k) (enc x)=sortWorldK enc k w blk 0 m (dk.setIfInBounds i x) os:=by
 have hb:i*k+I (enc x)<=(flatK enc k dk).size:=by
  rw[hk,size_flatK];have:=cj k (show i+1<=dk.size from hi)
  rwa [kL]at this
 unfold sortWorldK;rw[setCells_grow os blk _ _ _ (by rw[size_putRowK];exact hblk)];congr 1;unfold putRowK;have:=setCells_putRow (Sort.ahead w m) blk 0 (enc x) (i*k) (flatK enc k dk) hb;rw[cI]at this;grind [qhU]
variable {P:aX}
set_option maxHeartbeats 4000000 in
set_option maxRecDepth 1000000 in
def qj2(i:P.funcs[140]?=Z Tryz.f140)(a:P.follows .mixedOrders=O)
  (v:P.underlying 0=Z (TypeDesc.tuple #[])) (z:∀w,(isAgg 0).run P w=.ok Y w) (o:∀w,(Go.sizeOf 0).run P w=.ok 1 w) (s:∀w,(zeroValue 0).run P w=.ok (Value.tuple #[]) w)
  (u:P.underlying 3=Z (TypeDesc.int IntKind.i64)) (y:∀w,(isAgg 3).run P w=.ok Y w) (n:∀w,(Go.sizeOf 3).run P w=.ok 1 w) (r:∀w,(zeroValue 3).run P w=.ok (Value.int IntKind.i64 0) w)
  (t:P.underlying 4=Z (TypeDesc.bool)) (x:∀w,(isAgg 4).run P w=.ok Y w) (m:∀w,(Go.sizeOf 4).run P w=.ok 1 w) (q:∀w,(zeroValue 4).run P w=.ok (Value.bool Y) w)
  (h:P.underlying 23=Z (TypeDesc.slice 25)) (l:∀w,(isAgg 23).run P w=.ok Y w) (c:∀w,(Go.sizeOf 23).run P w=.ok 1 w) (f:∀w,(zeroValue 23).run P w=.ok (Value.slice U 0 0) w)
  (g:P.underlying 29=Z (TypeDesc.func #[25,25] #[4] Y)) (k:∀w,(isAgg 29).run P w=.ok Y w) (b:∀w,(Go.sizeOf 29).run P w=.ok 1 w) (d:∀w,(zeroValue 29).run P w=.ok (Value.nilFunc) w)
  (p:ac Addr) (cap:Nat) (j:ah) (w:ao):
  Calls P 140 #[.slice p 0 cap,j] w λ e w'=>e=.returned (.slice p 0 cap)/\w'=w:=by
 go_enter i,Tryz.ntmps140
 go_wp2
 go_ret
 exact⟨rfl,rfl⟩
set_option maxHeartbeats 4000000 in
set_option maxRecDepth 1000000 in
def qjU(hF:P.funcs[140]?=Z Tryz.f140)(mixed:P.follows .mixedOrders=O)
  (t0:P.underlying 0=Z (TypeDesc.tuple #[])) (a0:∀ w,(isAgg 0).run P w = .ok Y w) (z0:∀ w,(Go.sizeOf 0).run P w = .ok 1 w) (v0:∀ w,(zeroValue 0).run P w = .ok (Value.tuple #[]) w)
  (t3:P.underlying 3=Z (TypeDesc.int IntKind.i64)) (a3:∀ w,(isAgg 3).run P w = .ok Y w) (z3:∀ w,(Go.sizeOf 3).run P w = .ok 1 w) (v3:∀ w,(zeroValue 3).run P w = .ok (Value.int IntKind.i64 0) w)
  (t4:P.underlying 4=Z (TypeDesc.bool)) (a4:∀ w,(isAgg 4).run P w = .ok Y w) (z4:∀ w,(Go.sizeOf 4).run P w = .ok 1 w) (v4:∀ w,(zeroValue 4).run P w = .ok (Value.bool Y) w)
  (t22:P.underlying 23=Z (TypeDesc.slice 25)) (a22:∀ w,(isAgg 23).run P w = .ok Y w) (z22:∀ w,(Go.sizeOf 23).run P w = .ok 1 w) (v22:∀ w,(zeroValue 23).run P w = .ok (Value.slice U 0 0) w)
  (t36:P.underlying 29=Z (TypeDesc.func #[25,25] #[4] Y)) (a36:∀ w,(isAgg 29).run P w = .ok Y w) (z36:∀ w,(Go.sizeOf 29).run P w = .ok 1 w) (v36:∀ w,(zeroValue 29).run P w = .ok (Value.nilFunc) w)
  (k:Nat) (hk0:0<k) (aE:∀ w,(isAgg 25).run P w = .ok O w) (zE:∀ w,(Go.sizeOf 25).run P w = .ok k w) (zv:ah) (vE:∀ w,(zeroValue 25).run P w = .ok zv w) (hzk:zv.cells.size=k) (hz1:∀ n,∀ v∈V (Builtin.zeroCells zv.cells n),v.oneCell'=O)
  (w:ao) (blk n cap:Nat) (et:aO) (vs:aM ah) (q:Nat) (hbk:w.heap[blk]?=Z (.cells vs et (0,0))) (hcs:cap*k<=vs.size) (hnc:n<=cap) (hn:n<=100000) (h0n:0<n)
  (enc:Nat->aa ah) (hk:∀ x,I (enc x)=k) (h1:∀ x,∀ v∈enc x,v.oneCell'=O) (hH:HoldsK enc k w blk 0 (Array.range n))
  (eg:∀ args w,(callFunc q args).run P w = .ok (.enter q args) w) (ef:Nat->Nat->Bool)
  (heq:∀(m:Nat) (os:aM Obj) (dk:aM Nat),dk.size=n->∀ x y,Calls P q #[.agg (enc x).toArray,.agg (enc y).toArray] (sortWorldK enc k w blk 0 m dk os) λ e w'=>e = .returned (.bool (ef x y))/\∃ q' os',w'=grow ((sortWorldK enc k w blk 0 m dk os).drewN q') os') :
  Calls P 140 #[.slice (Z ⟨blk,0,U⟩) n cap,.func (.func q) #[] #[]] w λ e w'=>e = .returned (.slice (Z ⟨blk,0,U⟩) (I (dg ef n)) cap) /\
   ∃(dk:aM Nat) (m:Nat) (os:aM Obj) (new:aa ah),dk.size=n/\dk.toList.take (I (dg ef n))=dg ef n/\(w'=sortWorldK enc k w blk 0 m dk os\/(new.take (I (dg ef n)*k)=(putCells id 0 (flatK enc k dk) vs).toList.take (I (dg ef n)*k)/\I new=vs.size/\w'=(sortWorldK enc k w blk 0 m dk os).setRow blk new.toArray)):=by
 have u22:=run_underlying t22;have hblk:blk<w.heap.size:=(dW.1 hbk).1;have hrs:(Array.range n).size=n:=Ph;have HC:Aside _:=heq;have HST:Hid (w=sortWorldK enc k w blk 0 0 (Array.range n) #[]):=by show w=_;unfold sortWorldK;rw[grow_empty];exact(putRowK_self enc k w blk 0 _ hH).symm
 have HH:Hid (HoldsK enc k w blk 0 (Array.range n)):=hH;have HK:Hid (∀ x,I (enc x)=k):=hk;have H1:Hid (∀ x,∀ v∈enc x,v.oneCell'=O):=h1;have HBK:Hid (w.heap[blk]?=Z (.cells vs et (0,0))):=hbk;have HVE:Aside _:=vE;have HZ1:Aside _:=hz1;have HZK:=Lib.hid hzk;have HCS:=Lib.hid hcs;clear heq hH hk h1 hbk vE hz1 hzk hcs;have hnz:(n:Int)<=100000:=by omega
 by_cases hn2:n<2
 ·have hn1:n=1:=by omega
  subst hn1;have hci:dg ef 1=[0]:=by unfold dg;simp
  have HCI:=Lib.hid hci;clear hci
  go_enter hF,Tryz.ntmps140
  go_wp2
  go_ret
  rw[HCI.out];exact⟨rfl,Array.range 1,0,#[],[],hrs,by simp,.inl HST.out⟩
 ·have hn2z:¬ ((n:Int)<2):=by omega
  go_enter hF,Tryz.ntmps140
  go_wp2
  go_loopg [5] n (λ g1 vi wr=>∃(i m:Nat) (os:aM Obj),vi = .int .i64 i/\1<=i/\i<=n/\n-i<=g1/\wr=sortWorldK enc k w blk 0 m (Array.range n) os/\Hid (∀ j,1<=j->j<i->ef j (j-1)=Y))
  case atStart=>exact⟨1,0,#[],rfl,al _,by omega,by omega,HST.out,λ j h1 h2=>by omega⟩
  case round =>
   obtain⟨i,m,os,rfl,hi1,hin,hg1,rfl,HE⟩:=hrel;by_cases hlt:i<n
   ·have hltz:(i:Int)<(n:Int):=by omega
    obtain⟨ip,rfl⟩:∃ ip,i=ip+1:=⟨i-1,by omega⟩
    have hwp:IntKind.i64.wrap (ip:Int)=(ip:Int):=by rw[IntKind.wrap_i64];omega
    have jz1:(ip:Int)<(n:Int):=by omega
    have p0:(0:Int)<=(ip:Int)+1:=by omega
    have e0:((ip:Int)+1).toNat=ip+1:=by omega
    have r1:(Array.range n)[ip+1]! = ip+1:=by rw[tp _ _ (by rw[hrs];exact hlt)];simp
    have r0:(Array.range n)[ip]! = ip:=by rw[tp _ _ (by rw[hrs];omega)];simp
    have hcls:∀ n' os',grow ((sortWorldK enc k w blk 0 m (Array.range n) os).drewN n') os'=sortWorldK enc k w blk 0 (m+n') (Array.range n) (os++os') := λ n' os'=>sortWorldK_grown_c enc k w blk 0 m n' _ os os';have hHc:∀ n' os',HoldsK enc k (grow ((sortWorldK enc k w blk 0 m (Array.range n) os).drewN n') os') blk 0 (Array.range n) := λ n' os'=>by rw[hcls];exact holdsK_sortWorldK_c enc k w blk 0 _ _ _ _ HH.out hblk rfl
    have lj:∀ n' os',Sem.run P (loadCellsFrom ⟨blk,(ip+1)*k,U⟩ 0 k #[]) (grow ((sortWorldK enc k w blk 0 m (Array.range n) os).drewN n') os') = .ok (enc (ip+1)).toArray (grow ((sortWorldK enc k w blk 0 m (Array.range n) os).drewN n') os') := λ n' os'=>by
     have:=HoldsK.cells (hHc n' os') HK.out (i:=ip+1) (by rw[hrs];exact hlt);rw[r1,cI]at this;exact run_loadCellsFrom_list P _ _ _ k (HK.out _) this
    have lp:∀ n' os',Sem.run P (loadCellsFrom ⟨blk,ip*k,U⟩ 0 k #[]) (grow ((sortWorldK enc k w blk 0 m (Array.range n) os).drewN n') os') = .ok (enc ip).toArray (grow ((sortWorldK enc k w blk 0 m (Array.range n) os).drewN n') os') := λ n' os'=>by
     have:=HoldsK.cells (hHc n' os') HK.out (i:=ip) (by rw[hrs];omega);rw[r0,cI]at this;exact run_loadCellsFrom_list P _ _ _ k (HK.out _) this
    have hcg:∀ n' os',Calls P q #[.agg (enc (ip+1)).toArray,.agg (enc ip).toArray] (grow ((sortWorldK enc k w blk 0 m (Array.range n) os).drewN n') os') λ e w'=>e = .returned (.bool (ef (ip+1) ip))/\∃ q os'',w'=grow ((grow ((sortWorldK enc k w blk 0 m (Array.range n) os).drewN n') os').drewN q) os'' := λ n' os'=>by
     rw[hcls];exact HC.out _ _ _ hrs (ip+1) ip
    have CLS:Hid _:=hcls;clear hcls hHc r0 r1;generalize hwq:sortWorldK enc k w blk 0 m (Array.range n) os=wq at lj lp hcg CLS |-
    cases hev:ef (ip+1) ip with
    | false =>
      rw[hev]at hcg
      go_wp2_with fail
      go_quiet_grown (first | (go_at_fn q;refine Calls.grown_of (hcg _ _)))
      go_wp2
      go_roundg (n-(ip+2))
      case measure=>omega
      case rel =>
       refine⟨ip+2,_,_,by go_num,by omega,by omega,by omega,CLS.out nq osq,(show Hid _ from λ j h1 h2=>?_)⟩;by_cases hj:j=ip+1
       ·rw[hj];exact hev
       ·exact HE.out j h1 (by omega)
    | true =>
      rw[hev]at hcg
      go_wp2_with fail
      go_quiet_grown (first | (go_at_fn q;refine Calls.grown_of (hcg _ _)))
      have hcap1:¬ (cap=ip+1):=by omega
      have hcap2:(ip:Int)+1<=(cap:Int):=by omega
      go_wp2
      go_loopg [5,7] n (λ g2 v5 v7 wr2=>∃(b kk m2:Nat) (dk:aM Nat) (os2:aM Obj),v5 = .int .i64 kk/\v7 = .int .i64 b/\1<=b/\ip+1+b<=n/\n-b<=g2/\kk<=ip+b/\dk.size=n/\wr2=sortWorldK enc k w blk 0 m2 dk os2/\Hid (dk.toList.take kk=dg ef (ip+1+b))/\Hid (kk=I (dg ef (ip+1+b)))/\Hid (∀ j,ip+b<=j->j<n->dk[j]! = j))
      case atStart =>
       have e1:dg ef (ip+1)=List.range (ip+1):=Sp λ j h1 h2=>HE.out j h1 h2;have e2:dg ef (ip+1+1)=List.range (ip+1):=by rw[RB (by omega) (by simpa using hev),e1]
       refine⟨1,ip+1,_,Array.range n,_,by go_num,rfl,al _,by omega,by omega,by omega,hrs,CLS.out nq osq,?_,?_,?_⟩
       ·show _=_;rw[e2,Array.toList_range,List.take_range,kP (by omega)]
       ·show _=_;rw[e2,wm]
       ·intro j _ h2;rw[tp _ _ (by rw[hrs];exact h2)];simp
      case round =>
       obtain⟨b,kk,m2,dk,os2,rfl,rfl,hb1,hbn,hg2,hkk,hdk,rfl,HT,HL,HD⟩:=hrel;by_cases hlt2:ip+1+b<n
       ·obtain⟨bp,rfl⟩:∃ bp,b=bp+1:=⟨b-1,by omega⟩
        have hltz2:(bp:Int)+1<((n-(ip+1):Nat):Int):=by omega
        have hltz3:(bp:Int)<((n-(ip+1):Nat):Int):=by omega
        have hwp2:IntKind.i64.wrap (bp:Int)=(bp:Int):=by rw[IntKind.wrap_i64];omega
        have p2:(0:Int)<=(bp:Int)+1:=by omega
        have e2:((bp:Int)+1).toNat=bp+1:=by omega
        have hkn:(kk:Int)<(n:Int):=by omega
        obtain⟨ax,hax⟩:∃ ax,ax=ip+1+(bp+1):=⟨_,rfl⟩
        have hac:(ip+1)*k+(bp+1)*k=ax*k:=by rw[hax,dD (ip+1)]
        have hap:(ip+1)*k+bp*k=(ax-1)*k:=by rw[<- dD];congr 1;omega
        have r1:dk[ax]! = ax:=HD.out ax (by omega) (by omega);have r0:dk[ax-1]! = ax-1:=HD.out (ax-1) (by omega) (by omega);have hcls:∀ n' os',grow ((sortWorldK enc k w blk 0 m2 dk os2).drewN n') os'=sortWorldK enc k w blk 0 (m2+n') dk (os2++os') := λ n' os'=>sortWorldK_grown_c enc k w blk 0 m2 n' dk os2 os';have hHc:∀ n' os',HoldsK enc k (grow ((sortWorldK enc k w blk 0 m2 dk os2).drewN n') os') blk 0 dk := λ n' os'=>by rw[hcls];exact holdsK_sortWorldK_c enc k w blk 0 (Array.range n) dk _ _ HH.out hblk (by rw[hdk,hrs])
        have lj:∀ n' os',Sem.run P (loadCellsFrom ⟨blk,(ip+1)*k+(bp+1)*k,U⟩ 0 k #[]) (grow ((sortWorldK enc k w blk 0 m2 dk os2).drewN n') os') = .ok (enc ax).toArray (grow ((sortWorldK enc k w blk 0 m2 dk os2).drewN n') os') := λ n' os'=>by
         have:=HoldsK.cells (hHc n' os') HK.out (i:=ax) (by rw[hdk];omega);rw[r1,cI,<- hac]at this;exact run_loadCellsFrom_list P _ _ _ k (HK.out _) this
        have lp:∀ n' os',Sem.run P (loadCellsFrom ⟨blk,(ip+1)*k+bp*k,U⟩ 0 k #[]) (grow ((sortWorldK enc k w blk 0 m2 dk os2).drewN n') os') = .ok (enc (ax-1)).toArray (grow ((sortWorldK enc k w blk 0 m2 dk os2).drewN n') os') := λ n' os'=>by
         have:=HoldsK.cells (hHc n' os') HK.out (i:=ax-1) (by rw[hdk];omega);rw[r0,cI,<- hap]at this;exact run_loadCellsFrom_list P _ _ _ k (HK.out _) this
        have hcg:∀ n' os',Calls P q #[.agg (enc ax).toArray,.agg (enc (ax-1)).toArray] (grow ((sortWorldK enc k w blk 0 m2 dk os2).drewN n') os') λ e w'=>e = .returned (.bool (ef ax (ax-1)))/\∃ q os'',w'=grow ((grow ((sortWorldK enc k w blk 0 m2 dk os2).drewN n') os').drewN q) os'' := λ n' os'=>by
         rw[hcls];exact HC.out _ _ _ hdk ax (ax-1)
        have CLS2:Hid _:=hcls;have HHC:Hid _:=hHc;have HAC:=Lib.hid hac;clear hcls hHc hap hac;generalize hwq2:sortWorldK enc k w blk 0 m2 dk os2=wq2 at lj lp hcg CLS2 HHC |-
        have hlA:I (enc ax)=k:=HK.out _;have hA1:∀ v∈enc ax,v.oneCell'=O:=H1.out _;obtain⟨cA,hcA⟩:∃ c,c=enc ax:=⟨_,rfl⟩
        obtain⟨cP,hcP⟩:∃ c,c=enc (ax-1):=⟨_,rfl⟩
        rw[<- hcA]at lj hcg hlA hA1;rw[<- hcP]at lp hcg;have HCA:=Lib.hid hcA;clear hcA hcP;have hT:=HT.out;have hL:=HL.out;rw[show ip+1+(bp+1)=ax from hax.symm]at hT hL;have HAX:=Lib.hid hax;have hax1:0<ax:=by omega
        have hax3:ax<n:=by omega
        clear hax r0 r1;cases hev2:ef ax (ax-1)with
        | true =>
          have hcd:dg ef (ax+1)=dg ef ax:=RB hax1 hev2;have HT2:Hid (dk.toList.take kk=dg ef (ax+1)):=by show _=_;rw[hcd];exact hT
          have HL2:Hid (kk=I (dg ef (ax+1))):=by show _=_;rw[hcd];exact hL
          clear hT hL hcd;rw[hev2]at hcg
          go_wp2_with fail
          go_quiet_grown (first | (go_at_fn q;refine Calls.grown_of (hcg _ _)))
          go_wp2
          go_roundg (n-(bp+2))
          case measure=>omega
          case rel =>
           have hax2:ip+1+(bp+2)=ax+1:=by have:=HAX.out;omega
           refine⟨bp+2,kk,_,dk,_,rfl,by go_num,by omega,by omega,by omega,by omega,hdk,CLS2.out nq osq,?_,?_,(show Hid _ from λ j h1 h2=>HD.out j (by omega) h2)⟩
           ·show _=_;rw[hax2];exact HT2.out
           ·show _=_;rw[hax2];exact HL2.out
        | false =>
          have hcd:dg ef (ax+1)=dg ef ax++[ax]:=qhP hev2;have hdl:kk<I (V dk):=by rw[jg,hdk];omega
          have HT2:Hid ((dk.setIfInBounds kk ax).toList.take (kk+1)=dg ef (ax+1)):=by
           show _=_;rw[hcd,<- hT,H5,lJ,OZ (al _),gh hdl];rfl
          have HL2:Hid (kk+1=I (dg ef (ax+1))):=by show _=_;rw[hcd,aU,<- hL];rfl
          clear hT hL hcd;rw[hev2]at hcg
          go_wp2_with fail
          go_quiet_grown (first | (go_at_fn q;refine Calls.grown_of (hcg _ _)))
          have hw2:grow (wq2.drewN nq) osq=sortWorldK enc k w blk 0 (m2+nq) dk (os2++osq):=CLS2.out nq osq;have lj2:=lj nq osq;have hHd:=HHC.out nq osq;clear lj lp hcg;generalize grow (wq2.drewN nq) osq=wq3 at hw2 hHd lj2 |-
          have hbd:kk*k+I cA<=(flatK enc k dk).size:=by
           rw[hlA,size_flatK];have:=cj k (show kk+1<=dk.size by omega)
           rwa [kL]at this
          have s1:Sem.run P (storeCells ⟨blk,kk*k,U⟩ cA 0) wq3 = .ok () (wq3.setCells blk (kk*k) cA):=by
           have:=stores_of_holds P hHd (kk*k) cA hbd hA1
           rwa [cI]at this
          have HW3:Hid (wq3.setCells blk (kk*k) cA=sortWorldK enc k w blk 0 (m2+nq) (dk.setIfInBounds kk ax) (os2++osq)):=by
           show _=_;rw[hw2,HCA.out];exact qlc HK.out (m2+nq) dk (os2++osq) hblk kk ax
          clear hw2 hHd hbd
          go_wp2
          go_roundg (n-(bp+2))
          case measure=>omega
          case rel =>
           have hax2:ip+1+(bp+2)=ax+1:=by have:=HAX.out;omega
           refine⟨bp+2,kk+1,_,dk.setIfInBounds kk ax,_,by go_num,by go_num,by omega,by omega,by omega,by omega,by simpa using hdk,HW3.out,?_,?_,(show Hid _ from λ j h1 h2=>?_)⟩
           ·show _=_;rw[hax2];exact HT2.out
           ·show _=_;rw[hax2];exact HL2.out
           ·rw[getElem!_set_other _ _ _ _ (by omega)];exact HD.out j (by omega) h2
       ·obtain rfl:n=ip+1+b:=by omega
        have hW:=(Go.AmZ.sort_blks HBK.out enc k m2 dk os2).hb;have hpsz:(putCells id 0 (flatK enc k dk) vs).size=vs.size:=by unfold putCells;rw[ZP]
        have hzl:(Builtin.zeroCells zv.cells (ip+1+b-kk)).toList.length=(ip+1+b-kk)*k:=by rw[jg,size_zeroCells,HZK.out]
        have hsum:kk*k+(ip+1+b-kk)*k=(ip+1+b)*k:=by rw[<- dD];congr 1;omega
        have hle:(ip+1+b)*k<=vs.size:=bR (cj _ hnc) HCS.out;obtain⟨new,hnew⟩:∃ new,new=(putCells id 0 (flatK enc k dk) vs).toList.take (kk*k)++V (Builtin.zeroCells zv.cells (ip+1+b-kk))++(putCells id 0 (flatK enc k dk) vs).toList.drop (kk*k+(Builtin.zeroCells zv.cells (ip+1+b-kk)).toList.length):=⟨_,rfl⟩
        have hcl:∀ ty,(Builtin.clear_ #[23] ty #[.slice (Z ⟨blk,kk*k,U⟩) (ip+1+b-kk) (cap-kk)]).run P (sortWorldK enc k w blk 0 m2 dk os2) = .ok (.tuple #[]) ((sortWorldK enc k w blk 0 m2 dk os2).setRow blk new.toArray) := λ ty=>by
         rw[hnew];exact Sv _ 23 25 ty zv t22 HVE.out blk (kk*k) (ip+1+b-kk) (cap-kk) (by omega) _ et hW (by rw[hpsz,HZK.out];omega) (HZ1.out _)
        have HN1:Hid (new.take (kk*k)=(putCells id 0 (flatK enc k dk) vs).toList.take (kk*k)):=by
         show _=_;rw[hnew,bE,yx (by rw[bD,jg,hpsz];omega),Bq,Nat.min_self]
        have HN2:Hid (I new=vs.size):=by
         show _=_;rw[hnew];rw[jg]at hzl;simp only[aU,bD,je,jg,hpsz,hzl];omega
        have hkc:¬ (cap=kk):=by omega
        have hkc2:(kk:Int)<=(cap:Int):=by omega
        have hkn:(kk:Int)<=((ip+1+b:Nat):Int):=by omega
        clear hW hpsz hzl hsum hle hnew;have HW:Hid _:=(⟨dk,m2,os2,rfl⟩:∃(d:aM Nat) (m:Nat) (os:aM Obj),sortWorldK enc k w blk 0 m2 dk os2=sortWorldK enc k w blk 0 m d os)
        generalize hwq2:sortWorldK enc k w blk 0 m2 dk os2=wq2 at hcl |-
        have HWQ:=Lib.hid hwq2;clear hwq2 HW;have HDK:=Lib.hid hdk
        go_wp2_with (simp only[hcl])
        go_ret
        have hL:=HL.out;rw[<- hL];exact⟨rfl,dk,m2,os2,new,HDK.out,HT.out,.inr ⟨HN1.out,HN2.out,by rw[HWQ.out]⟩⟩
   ·obtain rfl:i=n:=by omega
    have hci:dg ef i=List.range i:=Sp λ j h1 h2=>HE.out j h1 h2;have HCI:=Lib.hid hci;clear hci
    go_wp2
    go_ret
    rw[HCI.out,wm];exact⟨rfl,Array.range i,_,_,[],hrs,by simp,.inl rfl⟩
end Go.Proofs.YtinbdcelmgfniaaGreatDoor
namespace Go.AmZ
open GxZ
section
open RowKit Go.Sort Proofs Shelf Proofs.YtinbdcelmgfniaaGreatDoor
def nI{α:Type}(F:α->α->ac Bool)(l:aa α)(i j:Nat):Bool:=match l[i%I l]?,l[j%I l]? with
 |Z x,Z y=>(F x y).getD Y
 |_,_=>Y
def Hf{α:Type}(F:α->α->ac Bool):aa α->ac (aa α)
 |[]=>Z []
 |x::l=>cond (Nat.ble (I (x::l)) 100000&&kr F (x::l)) (Z (pick (x::l) (dg (nI F (x::l)) (I (x::l))))) U
def AS{α:Type}(F:α->α->ac Bool)(l:aa α):ac (Unit×aa α×Unit):=match Hf F l with
 |Z a=>Z ((),a,())
 |U=>U
def qic{α:Type}{F:α->α->ac Bool}{l:aa α}{r:Unit×aa α×Unit}(h:AS F l=Z r):∃a,Hf F l=Z a/\r=((),a,()):=by
 grind [AS]
def S6{P:aX}{f:dm}{g:vS}(d:kI P f)(h:∀a,g.fn a=U):cp P f (mgP g):=by
 refine⟨d,λ Γ σ w c b r j e i=>?_⟩;grind [mgP]
def Tu{b:Nat->Nat->Bool}{n:Nat}:∀i∈dg b n,i<n:=λ i a=>nM.1 (jQ.1 a).1
def Ky{enc:Nat->aa ah}{k:Nat}(a:∀x,I (enc x)=k):∀(l:aa Nat) (i j:Nat),j<k->(l.flatMap enc)[i*k+j]?=(l[i]?).bind λ x=>(enc x)[j]?
 |[],i,j,_=>by simp
 |x::l,0,j,b=>by
   grind
 |x::l,i+1,j,b=>by
   rw[we,dy (by rw[a,kL];omega),a];have:(i+1)*k+j-k=i*k+j:=by rw[kL];omega
   rw[this];exact Ky a l i j b
def T1{enc:Nat->aa ah}{k:Nat}(a:∀x,I (enc x)=k):∀l:aa Nat,I (l.flatMap enc)=I l*k
 |[]=>by simp
 |x::l=>by rw[we,aU,a,T1 a l,bG,kL,ZG]
def SC{c:Type}{f:aa AV->ac c}{b:aa (aa AV)}{l:aa c}(h:ci f b=Z l):∀{a:aa Nat},(∀i∈a,i<I l)->ci f (pick b a)=Z (pick l a)
 |[],_=>rfl
 |i::a,e=>by
   have m:=e i (aW ..);have o:=en h
   have e1:pick b (i::a)=b[i]'(by omega)::pick b a:=by
    grind [pick]
   have n:pick l (i::a)=l[i]::pick l a:=by
    grind [pick]
   let⟨v,d,k⟩:=oS h (aV (show i<I b by omega));rw[aV m]at d;cases d;rw[e1,n];exact jF.2 ⟨_,_,k,SC h λ j g=>e j (aS _ g),rfl⟩
def ql9(n:Nat):∀v∈V (Builtin.zeroCells (Value.cells (.agg #[.int .i64 0,.string ⟨#[]⟩,.int .i64 0,.slice U 0 0])) n),v.oneCell'=O:=by
 intro v a;unfold Builtin.zeroCells at a;rw[Array.mem_toList_iff]at a;obtain⟨i,_,rfl⟩:=Array.mem_map.1 a;have c:(Value.cells (.agg #[.int .i64 0,.string ⟨#[]⟩,.int .i64 0,.slice U 0 0])).size=4:=rfl;rw[c];have b:i%4<4:=qR _ (by decide);generalize i%4=r at b
 match r,b with
 |0,_|1,_|2,_|3,_=>rfl
set_option maxHeartbeats 1000000 in
def qgp{g:dm}{F:T->T->ac Bool}(hF:Fn2 Go.Proofs.Tryz.prog g .term (λ b:Bool => .bool b) F){fn:aa T->ac (Unit × aa T × Unit)}(hfn:∀ l r,fn l=Z r->∃ l',Hf F l=Z l'/\r=((),l',())) :
  cp Go.Proofs.Tryz.prog 140 (sgP ⟨[.row .term,.clo g 0],[.one (.row .term)],λ x=>fn x.1⟩):=by
 have c0 := λ p cap fv w=>qj2 (P:=Go.Proofs.Tryz.prog) Go.Proofs.Tryz.func140 (by kernel_rfl) Go.Proofs.Tryz.underlying0 Go.Proofs.Tryz.isAgg0 Go.Proofs.Tryz.sizeOf0 Go.Proofs.Tryz.zeroValue0 Go.Proofs.Tryz.underlying3 Go.Proofs.Tryz.isAgg3 Go.Proofs.Tryz.sizeOf3 Go.Proofs.Tryz.zeroValue3 Go.Proofs.Tryz.underlying4 Go.Proofs.Tryz.isAgg4 Go.Proofs.Tryz.sizeOf4 Go.Proofs.Tryz.zeroValue4 Go.Proofs.Tryz.underlying23 Go.Proofs.Tryz.isAgg23 Go.Proofs.Tryz.sizeOf23 Go.Proofs.Tryz.zeroValue23 Go.Proofs.Tryz.underlying29 Go.Proofs.Tryz.isAgg29 Go.Proofs.Tryz.sizeOf29 Go.Proofs.Tryz.zeroValue29 p cap fv w
 have cP := λ w blk n cap et vs h1 h2 h3 h4 h5 enc h6 h7 h8 ef h9=>qjU (P:=Go.Proofs.Tryz.prog) Go.Proofs.Tryz.func140 (by kernel_rfl) Go.Proofs.Tryz.underlying0 Go.Proofs.Tryz.isAgg0 Go.Proofs.Tryz.sizeOf0 Go.Proofs.Tryz.zeroValue0 Go.Proofs.Tryz.underlying3 Go.Proofs.Tryz.isAgg3 Go.Proofs.Tryz.sizeOf3 Go.Proofs.Tryz.zeroValue3 Go.Proofs.Tryz.underlying4 Go.Proofs.Tryz.isAgg4 Go.Proofs.Tryz.sizeOf4 Go.Proofs.Tryz.zeroValue4 Go.Proofs.Tryz.underlying23 Go.Proofs.Tryz.isAgg23 Go.Proofs.Tryz.sizeOf23 Go.Proofs.Tryz.zeroValue23 Go.Proofs.Tryz.underlying29 Go.Proofs.Tryz.isAgg29 Go.Proofs.Tryz.sizeOf29 Go.Proofs.Tryz.zeroValue29
  4 (by decide) Go.Proofs.Tryz.isAgg25 Go.Proofs.Tryz.sizeOf25 _ Go.Proofs.Tryz.zeroValue25 rfl ql9 w blk n cap et vs g h1 h2 h3 h4 h5 enc h6 h7 h8 (λ args w=>Je hF.1 args w) ef h9
 have hag:∀ v:T,cG .term v = .agg (aq .term v) := λ _=>rfl;refine⟨iT Go.Proofs.Tryz.func140 (by kernel_rfl),λ Γ σ w args vals r hi hr hp=>?_⟩;unfold sgP at hp;split at hp<;>try cases hp
 rename_i x hx;split at hp<;>cases hp;rename_i v0 hv0;obtain⟨l,_⟩:=x;obtain⟨l',hl',rfl⟩:=hfn _ _ hv0;obtain⟨y0,ys0,nr,rfl,hy0,hx1⟩:=GO hx;obtain⟨ys1,rfl,hx2⟩:=Wm (g:=g) (r:=[]) hx1;obtain⟨rfl,hbx,hrw⟩:=vk hx2;clear hx hx1 hx2 hv0 hfn;obtain⟨u0,r0,rfl,hu0,hr⟩:=hr.uncons;obtain⟨u1,r1,rfl,hu1,hr⟩:=hr.uncons;have:=hr.nil_inv;subst this
 have hu1:u1 = .func (.func g) #[] #[]:=by
  cases hu1 with
  | fn _ _ us hn _=>obtain rfl:=cJ hn;rfl
 subst hu1;have hb0 : σ.bx=[]:=cJ hbx.symm
 have nil0:∀(p:ac Addr),l'=[]->jI Go.Proofs.Tryz.prog Γ σ w 140 [.slice p 0 0,.func (.func g) #[] #[]] (cN (fC [.one (.row .term)] (I σ.rw) (l',())),Z ⟨[],σ.rw.map fP++eN [.one (.row .term)] (l',()),List.range (I σ.bx),List.range (I σ.rw)⟩) := λ p hl=>by
  subst hl;apply (c0 p 0 _ w).mono;rintro e w' ⟨rfl,rfl⟩;obtain⟨Γ2,z1,z2,z3,z4⟩:=qmC (a := .term) hi (.refl _ _) hi hb0 p;exact⟨_,Γ2,rfl,z1,z2,z3,z4⟩
 rcases DW hy0 with⟨hnr,R,rfl,hR,hRk,hRf,hRd⟩ | ⟨hnr,hl0,hy⟩
 ·have H:=hi.row 0 R hR;have hcl:I R.c=I l:=en hRd;have hlk:∀ e∈R.c,I e=Ty.size .term := λ e he=>(H.len e he).trans hRk;obtain⟨p,cap,rfl,hcap,hrm⟩:=L9 hi hR hRk hRf hu0;rcases hrm with h0 | ⟨rfl,hz,vs,et,hvs,hvsz,hfit,hca,hxl,h1⟩
  ·have hl0:l=[]:=cJ (by omega);have hl2:l'=[]:=by rw[hl0]at hl';cases hl';rfl
   have hrc:I R.c=0:=by omega
   rw[hrc,h0];exact nil0 p hl2
  ·by_cases hl0:l=[]
   ·have hl2:l'=[]:=by rw[hl0]at hl';cases hl';rfl
    have hrc:I R.c=0:=by rw[hcl,hl0];rfl
    rw[hrc];subst hl2;refine EP (a := .term) hi hb0 hR hRk hRf.1 hRf.2 hz (l:=[]) (c:=[]) (xs:=[]) (n:=0) rfl rfl (by intro e he;cases he) (by intro e he;cases he) (λ i e j x h=>by cases h) ?_;apply (c0 _ cap _ w).mono;rintro e w' ⟨rfl,rfl⟩;exact⟨Γ.cur 0,cap,vs,et,rfl,hvs,aL _,hfit,by rw[kK];rfl,.inl ⟨rfl,hvsz⟩,rfl,rfl,rfl,al _,al _,λ _ _ _=>rfl⟩
   ·have hlpos:0<I l:=wd.2 hl0;obtain⟨n,hn⟩:∃ n,n=I l:=⟨_,rfl⟩
    have hnc:I R.c=n:=hcl.trans hn.symm;rw[hnc]at hca hxl h1 hcap |-
    have hns:n*Ty.size .term<=vs.size:=bR (cj _ hcap) hfit
    have hv':Nat.ble (I l) 100000=O/\kr F l=O/\l'=pick l (dg (nI F l) (I l)):=by
     cases l with
     | nil=>exact absurd rfl hl0
     | cons y l =>
       replace hl':cond _ _ _=Z l':=hl'
       cases hb:(Nat.ble (I (y::l)) 100000&&kr F (y::l))with
       | false =>
         replace hl':cond (Nat.ble (I (y::l)) 100000&&kr F (y::l)) _ _=Z l':=hl'
         rw[hb]at hl';cases hl'
       | true =>
         replace hl':cond (Nat.ble (I (y::l)) 100000&&kr F (y::l)) _ _=Z l':=hl'
         have hb':=hb;rw[aK]at hb';rw[hb]at hl';cases hl';exact⟨hb'.1,hb'.2,rfl⟩
    obtain⟨v1,v2,v4⟩:=hv';have v1:I l<=100000:=nT v1;have hER:∀{q:Nat} {y:T},l[q]?=Z y->RepL Γ (aq .term y) (gQ vs (Ty.size .term) q)/\∀ u∈gQ vs (Ty.size .term) q,u.oneCell'=O := λ hq=>Vg hnc hlk hRd hca hns hq;have hlast:∀ i,i % n<n := λ i=>qR _ (by omega);obtain⟨enc,henc⟩:∃ enc:Nat->aa ah,enc = λ i=>gQ vs (Ty.size .term) (i % n):=⟨_,rfl⟩
    have hek:∀ i,I (enc i)=Ty.size .term := λ i=>by rw[henc];exact Lq (hlast i) hns
    have hlget:∀ i,∃ y,l[i % n]?=Z y := λ i=>⟨_,aV (by rw[<- hn];exact hlast i)⟩
    have he1:∀ i,∀ u∈enc i,u.oneCell'=O := λ i u hu=>by
     rw[henc]at hu;obtain⟨y,hy⟩:=hlget i;exact(hER hy).2 u hu
    have hrange:(Array.range n).size=n:=Ph;have hvsb:w.heap[Γ.cur 0]?=Z (.cells vs et (0,0)):=hvs;have hmem0:∀ off,Γ.mem (Γ.cur 0) off=U := λ off=>H.un hz off (by rw[hRf.1,kK,H.off hRf.2];exact aL _)
    have hH:HoldsK enc (Ty.size .term) w (Γ.cur 0) 0 (Array.range n):=by
     intro j hj;rw[size_flatK,hrange]at hj;obtain⟨q1,q2,q3⟩:=JZ j (Ty.size .term) n hj;have hjs:j<vs.size:=cU hj hns;constructor
     ·rw[get_flatK _ _ _ _ (by rw[hrange];exact hj)];have e1:(Array.range n)[j / (Ty.size .term)]! = j / (Ty.size .term):=by rw[tp _ _ (by rw[hrange];exact q1)];simp
      rw[e1,henc];show _=Z ((gQ vs (Ty.size .term) (j / (Ty.size .term) % n))[j % (Ty.size .term)]!);rw[wc q1];have e2:(gQ vs (Ty.size .term) (j / (Ty.size .term)))[j % (Ty.size .term)]?=Z vs[j]:=by rw[FG q3,q2];exact gi hjs
      rw[cI,Blk.cell hvs,Pj,e2,gi hjs];rfl
     ·exact Blk.free hvs _
    have heq:∀(m:Nat) (os:aM Obj) (dk:aM Nat),dk.size=n->∀ x y,Calls Go.Proofs.Tryz.prog g #[.agg (enc x).toArray,.agg (enc y).toArray] (sortWorldK enc (Ty.size .term) w (Γ.cur 0) 0 m dk os) λ e w'=>e = .returned (.bool (nI F l x y))/\∃ q' os',w'=grow ((sortWorldK enc (Ty.size .term) w (Γ.cur 0) 0 m dk os).drewN q') os':=by
     intro m os dk hdk x y;have B:=sort_blks hvsb enc (Ty.size .term) m dk os;obtain⟨W,hW⟩:∃ W,W=sortWorldK enc (Ty.size .term) w (Γ.cur 0) 0 m dk os:=⟨_,rfl⟩
     rw[<- hW]at B |-
     have hiW:Inv (bare Γ) emp W:=hi.bare (B.other 0 hi.zero_lt λ hb=>hi.tab.2.2 (by have:=hmem0 0;rw[<- hb]at this;exact this)) λ b o u e=>by
      have hne:b ≠ Γ.cur 0 := λ hb=>by rw[hb,hmem0]at e;cases e
      have hc:=(hi.mem b o u e).1;have hblt:=hi.mem_lt e;rw[show W.cell? _=w.cell? _ from World.cell?_of_block (B.other b hblt hne)];exact hc
     have rep:∀(i:Nat) (y:T),l[i % n]?=Z y->Rep (bare Γ) (cG .term y) (.agg (enc i).toArray) := λ i y hy=>by
      obtain⟨q1,q2⟩:=hER hy;rw[hag];have:enc i=gQ vs (Ty.size .term) (i % n):=by rw[henc]
      rw[this];refine .agg _ _ q1.len q2 λ j z u a b=>(q1.rep j z u a b).bare (fI .term y z (aP a))
     obtain⟨lx,hx⟩:=hlget x;obtain⟨ly,hy⟩:=hlget y;have hsome:=bJ.1 (bJ.1 v2 lx (aP hx)) ly (aP hy);obtain⟨c,hc⟩:=qoS.1 hsome
     have hcf:nI F l x y=c:=by
      unfold nI;rw[<- hn,hx,hy];simp only;rw[hc];rfl
     rw[hcf];have hcall:=hF.2 hiW (rep x lx hx) (rep y ly hy) hc;apply Calls.mono hcall;rintro e w' ⟨rfl,hid⟩;exact⟨rfl,hid.grow⟩
    have hcall:=cP w (Γ.cur 0) n cap et vs hvsb hfit hcap (by omega) (by omega) enc hek he1 hH (nI F l) heq;obtain⟨ix,hix⟩:∃ ix,ix=dg (nI F l) n:=⟨_,rfl⟩
    rw[<- hix]at hcall;have hixlt:∀ i∈ix,i<n := λ i hi=>by rw[hix]at hi;exact Tu i hi
    have hixl:∀ i∈ix,i<I l := λ i hi=>by rw[<- hn];exact hixlt i hi
    have hixc:∀ i∈ix,i<I R.c := λ i hi=>by rw[hnc];exact hixlt i hi
    have hl'e:l'=pick l ix:=by rw[v4,<- hn,hix]
    have hl'n:I l'=I ix:=by rw[hl'e,K8 hixl]
    have pm:∀ e∈pick R.c ix,e∈R.c := λ e he=>by
     unfold pick at he;obtain⟨i,_,h⟩:=nL.1 he;exact aP h
    refine EP (a := .term) hi hb0 hR hRk hRf.1 hRf.2 hz (l:=l') (c:=pick R.c ix) (xs:=ix.flatMap enc) (n:=I ix) hl'n.symm (by rw[hl'e];exact SC hRd hixl) (λ e he=>hlk e (pm e he)) (λ e he=>H.plain e (pm e he)) (λ i e j x h1 h2=>?_) ?_
    ·rw[LC hixc]at h1;cases hp:ix[i]? with
     | none=>rw[hp]at h1;cases h1
     | some p =>
       rw[hp]at h1;have h1:R.c[p]?=Z e:=h1;have hj:j<Ty.size .term:=by have:=getElem?_lt h2;rwa [hlk e (aP h1)]at this
       obtain⟨u,u1,u2⟩:=hca p e j x h1 h2;refine⟨u,?_,u2⟩;have hpn:p<n:=hixlt p (aP hp);rw[Ky hek _ _ _ hj,hp];show(enc p)[j]?=Z u;rw[henc];show(gQ vs (Ty.size .term) (p % n))[j]?=Z u;rw[wc hpn,FG hj,<- jh];rw[eX]at u1;split at u1
       ·exact u1
       ·cases u1
    ·apply Calls.mono hcall;rintro e w' ⟨rfl,dk,m,os,new,hdk,htk,hw⟩;have B:=sort_blks hvsb enc (Ty.size .term) m dk os;have hpsz:(putCells id 0 (flatK enc (Ty.size .term) dk) vs).size=vs.size:=by unfold putCells;rw[ZP]
     have hixn:I ix<=n:=by
      have:=aY I htk;rw[bD]at this;have h2:I (V dk)=n:=by rw[jg,hdk]
      omega
     have hlen:I ix*Ty.size .term<=n*Ty.size .term:=cj _ hixn
     have hxs:(putCells id 0 (flatK enc (Ty.size .term) dk) vs).toList.take (I ix*Ty.size .term)=ix.flatMap enc:=by
      apply pJ;intro t;by_cases ht:t<I ix*Ty.size .term
      ·obtain⟨q1,q2,q3⟩:=JZ t (Ty.size .term) (I ix) ht;rw[eX,ag ht,jh];unfold putCells;rw[qoT,gi (by omega),lK,ag ⟨aL _,by rw[size_flatK,hdk];omega⟩,ZQ,id,get_flatK _ _ _ _ (by rw[hdk];omega)]
       conv=>rhs;rw[<- q2]
       rw[Ky hek _ _ _ q3]
       have hd:dk[t / Ty.size .term]?=ix[t / Ty.size .term]?:=by
        rw[<- htk,eX,ag q1,jh]
       have hdl:t / Ty.size .term<dk.size:=by rw[hdk];omega
       rw[<- hd,gi hdl,tp dk _ hdl];show _=(enc dk[t / Ty.size .term])[t % Ty.size .term]?;rw[Pj,aV (by rw[hek];exact q3)];rfl
      ·rw[pL (by rw[bD];omega),pL (by rw[T1 hek];omega)]
     rcases hw with rfl | ⟨n1,n2,rfl⟩
     ·exact⟨Γ.cur 0,cap,_,et,rfl,B.hb,by omega,by rw[hpsz];exact hfit,hxs,.inl ⟨rfl,hpsz.trans hvsz⟩,B.os,B.tape,B.output,B.size,B.drawn,B.other⟩
     ·have hs:=setRow_heap _ (Γ.cur 0) _ new.toArray et (0,0) B.hb;refine⟨Γ.cur 0,cap,new.toArray,et,rfl,hs,by omega,by rw[kN,n2];exact hfit,?_,.inl ⟨rfl,by rw[kN,n2];exact hvsz⟩,B.os,B.tape,B.output,?_,B.drawn,λ b hb hne=>(setRow_other _ (Γ.cur 0) b _ hne).trans (B.other b hb hne)⟩
      ·rw[<- hxs];exact n1
      ·show w.heap.size<=_;simp only[World.setRow,Array.size_modify];exact B.size
 ·have hl2:l'=[]:=by
    have hl0:l=[]:=hl0;rw[hl0]at hl';cases hl';rfl
  rcases hy with rfl | ⟨f,rfl,hf2⟩
  ·have hu0:=ch hu0;subst hu0;exact nil0 U hl2
  ·cases hu0 with
   | sl _ _ _ a n cap b o us hn _ hf _ _ _ _ _ _ =>
     have hn:n=0:=hn;have hcap:cap=n:=hf (by omega);rw[hcap,hn];exact nil0 a hl2
end
section
open RowKit
theorem Qg{P:aX}(w:ao)(bQ:Nat)(t ty e:aO)(i:TypeInfo)(z:ah)(size bytes:Nat)(F:P.underlying t=Z (.slice e))(H:P.info? e=Z i)(K:i.zero=Z z)
  (d:i.size=size) (A:i.bytes=bytes) (s:z.cells.size=size) (x:0<size)
  (v:ah) (n:Nat) (xs:aa ah) (b:w.ownsRow bQ e size v n xs)
  (a:Addr) (m c:Nat) (aB:aa ah) (G:I aB=m*size) (f:∀j u,aB[j]?=Z u->w.cell? (a.add j)=Z u) (L:∀u∈aB,u.oneCell'=O)
  (B:n+m<=maxLen) (h:(n+m)*bytes<=140737488355328) (l:bQ<=w.heap.size):
  ∃p w',(Builtin.append_ #[t,t] ty #[v,.slice (Z a) m c]).run P w=.ok p w'/\w'.ownsRow bQ e size p (n+m) (xs++aB)/\w.grownBy w' v.ownBlock/\
   (p.ownBlock=v.ownBlock\/∀k,p.ownBlock=Z k->w.heap.size<=k):=by
 obtain⟨rfl,rfl⟩|⟨g,cap,T,rfl,S,W,M,R,Q,E⟩:=id b.2
 .have D:xs=[]:=pH.1 (by simpa using b.1);subst D;let⟨p,w',C,r,o,_⟩:=run_append_own (P:=P) w w.heap.size t ty e i z size bytes F H K d A s x (.slice U 0 0) 0 [] (World.ownsRow_nil w _ e size) a m c aB G f L B h (al _);exact⟨p,w',C,r.mono l,o,.inr λ k y=>(r.lt k y).1⟩
 .by_cases q:n+m<=cap
  .let⟨w',C,r,o⟩:=run_append_own_spare (P:=P) w bQ t ty e i size F H d g n cap xs b a m c aB G f L q;exact⟨_,w',C,r,o,.inl rfl⟩
  .let⟨p,w',C,r,o⟩:=run_append_arg_grows (P:=P) w t ty e i z size bytes F H K d A s x ⟨g,0,U⟩ n cap xs b.1 (λ j u N=>b.cells rfl j u N) a m c aB G f (by omega) B h;exact⟨p,w',C,r.mono l,⟨o.os,o.tape,o.output,o.size,λ k y _=>o.block k y (by simp)⟩,.inr λ k y=>(r.lt k y).1⟩
structure jw (Γ:Gh) (b:Nat):Prop where
 own:¬ fN Γ b
 mem:∀o,Γ.mem b o=U
theorem jw.ext{Γ Γ':Gh}{w w':ao}{b:Nat}(h:jw Γ b)(c:Ext Γ w Γ' w')(f:b<w.heap.size):jw Γ' b/\w'.heap[b]?=w.heap[b]?:=by
 refine⟨⟨λ d=>(c.own b d).elim h.own λ h=>by omega,λ o=>?_⟩,c.block b f h.own⟩;cases e:Γ'.mem b o with
 |none=>rfl
 |some u=>
   obtain a|a|a:=c.memg b o u e
   .rw[h.mem]at a;cases a
   .exact absurd a h.own
   .omega
theorem jw.new{Γ:Gh}{σ:St}{w:ao}(a:Inv Γ σ w){b:Nat}(f:w.heap.size<=b):jw Γ b:=by
 refine⟨λ h=>?_,λ o=>?_⟩
 .obtain⟨i,c,rfl⟩|⟨r,c,e,rfl⟩:=h
  .have:=a.box_lt c;omega
  .have:=a.cur_lt c e;omega
 .cases d:Γ.mem b o with
  |none=>rfl
  |some u=>have:=a.mem_lt d;omega
theorem Inv.off{Γ:Gh}{σ:St}{w w':ao}(h:Inv Γ σ w)(j:∀k l,¬ jw Γ k->w.heap[k]?=Z l->w'.heap[k]?=Z l):Inv Γ σ w' where
 tab:=⟨let⟨e,fr,s⟩:=h.tab.1;⟨e,fr,j 0 _ (λ c=>h.tab.2.2 (c.mem 0)) s⟩,h.tab.2⟩
 nb:=h.nb
 nr:=h.nr
 mem:=λ b o u e=>by
  let⟨m,q⟩:=h.mem b o u e;have d:=gi (Gz m);refine⟨?_,q⟩;rw[World.cell?_of_block (w:=w) (a:=⟨b,o,U⟩) ((j b _ (λ c=>by rw[c.mem]at e;cases e) d).trans d.symm)];exact m
 box:=λ i cs e=>by
  have g:i<Γ.nb:=by rw[h.nb];exact getElem?_lt e
  exact(h.box i cs e).lift g (.refl _) λ o d=>j _ _ (λ c=>c.own (.inl ⟨i,g,rfl⟩)) d
 inj:=h.inj
 boxmem:=h.boxmem
 row:=λ r R e=>by
  have f:r<Γ.nr:=by rw[h.nr];exact getElem?_lt e
  exact(h.row r R e).lift f (.refl _) rfl (λ n l d=>j _ _ (λ c=>c.own (.inr ⟨r,f,n,rfl⟩)) d) (λ _ _ p=>p) λ _ i v t=>by omega
 apart:=h.apart
theorem qjq{d Γ:Gh}{σ:St}{w0 w w':ao}{e:ac Nat}(a:Ext d w0 Γ w)(m:Inv Γ σ w)(c:w.grownBy w' e)(f:∀b,e=Z b->jw Γ b/\w0.heap.size<=b)(n:w.drawn<=w'.drawn):Ext d w0 Γ w'/\Inv Γ σ w':=by
 refine⟨⟨a.le,c.os.trans a.os,c.tape.trans a.tape,c.output.trans a.output,bR a.size c.size,λ b i l=>(c.block b (cU i a.size) λ h=>?_).trans (a.block b i l),a.own,a.memg,bR a.drawn n⟩,m.off λ k o j g=>?_⟩
 .have:=(f b h.symm).2;omega
 .rw[c.block k (dW.1 g).1 λ h=>j (f k h.symm).1];exact g
theorem jw.grown{Γ:Gh}{w w':ao}{a:ac Nat}{b:Nat}(d:w.grownBy w' a)(e:b<w.heap.size)(c:Z b≠a):w'.heap[b]?=w.heap[b]?:=d.block b e c
theorem qkd(w:ao)(g k:Nat)(u:ah):w.grownBy (w.setCell ⟨g,k,U⟩ u) (Z g):=
 ⟨rfl,rfl,rfl,by simp,λ b _ a=>Below.heap_setCell _ _ _ _ λ h=>a (by rw[h])⟩
theorem zV{w w':ao}{B e s g n cap:Nat}{cs:aa ah}(h:w.ownsRow B e s (.slice (Z ⟨g,0,U⟩) n cap) n cs)(d:w'.heap[g]?=w.heap[g]?):w'.ownsRow B e s (.slice (Z ⟨g,0,U⟩) n cap) n cs:=by
 obtain⟨a,_⟩|⟨f,c,b,a,r⟩:=h.2
 .cases a
 .cases a;exact⟨h.1,.inr ⟨g,cap,b,rfl,r.1,by rw[d];exact r.2.1,r.2.2⟩⟩
theorem mg{w:ao}{B e s g n cap:Nat}{cs:aa ah}(h:w.ownsRow B e s (.slice (Z ⟨g,0,U⟩) n cap) n cs):B<=g/\g<w.heap.size:=h.lt g rfl
theorem SN{w:ao}{B e s g n p cap:Nat}{cs:aa ah}(h:w.ownsRow B e s (.slice (Z ⟨g,0,U⟩) n cap) n cs)(c:p<=n:=by omega):w.ownsRow B e s (.slice (Z ⟨g,0,U⟩) p cap) p (cs.take (p*s)):=by
 have m:p*s<=n*s:=cj _ c;obtain⟨a,_⟩|⟨q,d,b,a,l,k,j,i,f,o⟩:=h.2
 .cases a
 .cases a;refine⟨by rw[bD,h.1];omega,.inr ⟨g,cap,b,rfl,l,k,bR c j,i,f,?_⟩⟩;grind
theorem qnd{w:ao}{B e s g n cap:Nat}{cs:aa ah}(h:w.ownsRow B e s (.slice (Z ⟨g,0,U⟩) n cap) n cs):n<=cap/\cap<=maxLen:=by
 obtain⟨a,_⟩|⟨m,b,f,a,l,k,d,c,j,i⟩:=h.2
 .cases a
 .cases a;exact⟨d,c⟩
abbrev RD:Ty:=.pair .str (.pair (.int .i64) .bool)
def pn(Γ:Gh)(σ:St)(cs:aa ah)(i:Nat)(t:T)(n:Int)(r:Nat):Prop:=
 ∃R a,σ.rw[r]?=Z R/\R.k=4/\R.fz=0/\R.off=Y/\R.c=t.kids.map (aq .term)/\Rep Γ (.rs r 0 (I t.kids) R.ver Y) a/\
  cs[i*5]?=Z (.int .i64 t.kind)/\cs[i*5+1]?=Z (.string ⟨t.name.toArray⟩)/\cs[i*5+2]?=Z (.int .i64 t.sort)/\cs[i*5+3]?=Z a/\cs[i*5+4]?=Z (.int .i64 n)
structure Stk (B N:Nat) (Γ:Gh) (σ:St) (w:ao) (st:List (T×Int)) (ids:List Nat) (g cap:Nat) (cs:List ah):Prop where
 len:ids.length=st.length
 nd:ids.Nodup
 priv:jw Γ g
 own:w.ownsRow B N 5 (.slice (Z ⟨g,0,U⟩) st.length cap) st.length cs
 node:∀i t n r,st[i]?=Z (t,n)->ids[i]?=Z r->pn Γ σ cs i t n r
section
variable {B N:Nat}{Γ Γ':Gh}{σ σ':St}{w w':ao}{st:aa (T×Int)}{ids:aa Nat}{g cap:Nat}{cs:aa ah}
theorem pn.later{i:Nat}{t:T}{n:Int}{r:Nat}(h:pn Γ σ cs i t n r)(c:Le Γ Γ')(b:∀R,σ.rw[r]?=Z R->σ'.rw[r]?=Z R):pn Γ' σ' cs i t n r:=by
 let⟨R,a,l,k,j,g,f,e,d⟩:=h;exact⟨R,a,b R l,k,j,g,f,e.mono c,d⟩
theorem pn.cells{i:Nat}{t:T}{n:Int}{r:Nat}{cs':aa ah}(h:pn Γ σ cs i t n r)(a:∀j,j<5->cs'[i*5+j]?=cs[i*5+j]?):pn Γ σ cs' i t n r:=by
 let⟨R,b,k,g,f,e,d,c,q,p,o,m,l⟩:=h;exact⟨R,b,k,g,f,e,d,c,(a 0 (by decide)).trans q,(a 1 (by decide)).trans p,(a 2 (by decide)).trans o,(a 3 (by decide)).trans m,(a 4 (by decide)).trans l⟩
theorem Stk.later(h:Stk B N Γ σ w st ids g cap cs)(a:Ext Γ w Γ' w')(e:∀r,r∈ids->∀R,σ.rw[r]?=Z R->σ'.rw[r]?=Z R):Stk B N Γ' σ' w' st ids g cap cs:=by
 let⟨d,c⟩:=h.priv.ext a (mg h.own).2;exact⟨h.len,h.nd,d,zV h.own c,λ i t n r f b=>(h.node i t n r f b).later a.le (e r (aP b))⟩
theorem Stk.grown{a:ac Nat}(h:Stk B N Γ σ w st ids g cap cs)(c:w.grownBy w' a)(b:Z g≠a):Stk B N Γ σ w' st ids g cap cs:=
 ⟨h.len,h.nd,h.priv,zV h.own (c.block g (mg h.own).2 b),h.node⟩
theorem Stk.cell(h:Stk B N Γ σ w st ids g cap cs){k:Nat}{u:ah}(a:cs[k]?=Z u):w.cell? ⟨g,k,U⟩=Z u/\w.frozen? ⟨g,k,U⟩=Y:=by
 refine⟨?_,h.own.frozenAt k⟩;rw[h.own.cellAt k (by rw[<-h.own.1];exact getElem?_lt a)];exact a
theorem Stk.at(h:Stk B N Γ σ w st ids g cap cs){i:Nat}{t:T}{n:Int}(b:st[i]?=Z (t,n)):∃r,ids[i]?=Z r/\pn Γ σ cs i t n r:=by
 have a:i<I ids:=by rw[h.len];exact getElem?_lt b
 exact⟨_,aV a,h.node i t n _ b (aV a)⟩
theorem Stk.left(h:Stk B N Γ σ w st ids g cap cs){i:Nat}{t:T}{n:Int}(l:st[i]?=Z (t,n))(a:Int):Stk B N Γ σ (w.setCell ⟨g,i*5+4,U⟩ (.int .i64 a)) (st.set i (t,a)) ids g cap (cs.set (i*5+4) (.int .i64 a)):=by
 have s:=getElem?_lt l;have d:i*5+4<I cs:=by rw[h.own.1];omega
 refine⟨by rw[dX];exact h.len,h.nd,h.priv,by rw[dX];exact(h.own.stored _ _).1,λ j o m r c f=>?_⟩;rw[oN]at c;split at c
 .rename_i e;subst e;cases c;let⟨R,p,A,z,y,x,v,u,F,E,D,C,G⟩:=h.node i t n r l f;have b:∀q,q≠i*5+4->(cs.set (i*5+4) (.int .i64 a))[q]?=cs[q]?:=λ q k=>by rw[jA (λ e=>k e.symm)]
  refine⟨R,p,A,z,y,x,v,u,(b _ (by omega)).trans F,(b _ (by omega)).trans E,(b _ (by omega)).trans D,(b _ (by omega)).trans C,?_⟩;rw[gh d]
 .next e=>refine(h.node j o m r c f).cells λ q k=>?_;grind
theorem Stk.push(h:Stk B N Γ σ w st ids g cap cs){p:ah}{nk sk:Int}{nm:aa aA}{lf:Int}{o:ah}{r:Nat}{R:Row}(F:σ.rw[r]?=Z R)(M:R.k=4)(L:R.fz=0)(K:R.off=Y)(H:R.c=[])(G:Rep Γ (.rs r 0 0 R.ver Y) o)(A:r ∉ ids)
  (l:w'.ownsRow B N 5 p (I st+1) (cs++[.int .i64 nk,.string ⟨nm.toArray⟩,.int .i64 sk,o,.int .i64 lf])) (z:p.ownBlock=Z g\/∀k,p.ownBlock=Z k->jw Γ k):
  ∃j d,p=.slice (Z ⟨j,0,U⟩) ((I st+1:Nat)) d/\Stk B N Γ σ w' (st++[(.mk nk nm sk [],lf)]) (ids++[r]) j d (cs++[.int .i64 nk,.string ⟨nm.toArray⟩,.int .i64 sk,o,.int .i64 lf]):=by
 have D:=h.own.1
 obtain⟨j,d,v⟩:∃j d,p=.slice (Z ⟨j,0,U⟩) ((I st+1:Nat)) d:=by
  obtain⟨_,S⟩|⟨j,d,P,e,_⟩:=l.2
  .omega
  .exact⟨j,d,e⟩
 subst v;refine⟨j,d,rfl,⟨by simp[h.len],?_,?_,by simpa using l,λ i t n y s f=>?_⟩⟩
 .rw[List.nodup_append];exact⟨h.nd,by simp,λ a E b x=>by simp at x;subst x;exact λ e=>A (e▸E)⟩
 .obtain e|e:=z
  .cases e;exact h.priv
  .exact e j rfl
 .rw[yr]at s f;rw[h.len]at f;split at s
  .next m=>rw[ag m]at f;refine(h.node i t n y s f).cells λ q Q=>?_;grind
  .rename_i m;rw[af m]at f
   have C:i=I st:=by
    grind
   subst C;simp at s f;obtain⟨rfl,rfl⟩:=s;subst f
   have u:∀q,(cs++[.int .i64 nk,.string ⟨nm.toArray⟩,.int .i64 sk,o,.int .i64 lf])[I st*5+q]?=([.int .i64 nk,.string ⟨nm.toArray⟩,.int .i64 sk,o,.int .i64 lf]:aa ah)[q]?:=λ q=>by
    rw[dy (by omega)];congr 1;omega
   exact⟨R,o,F,M,L,K,H,G,u 0,u 1,u 2,u 3,u 4⟩
theorem Stk.shrink(h:Stk B N Γ σ w st ids g cap cs){p:Nat}(e:p<=I st):Stk B N Γ σ w (st.take p) (ids.take p) g cap (cs.take (p*5)):=by
 have a:I (st.take p)=p:=by rw[bD];omega
 refine⟨by rw[a,bD,h.len];omega,h.nd.sublist (List.take_sublist _ _),h.priv,by rw[a];exact SN h.own e,λ i t n r b c=>?_⟩;rw[eX]at b c;split at b<;>try cases b
 next d=>rw[ag d]at c;refine(h.node i t n r b c).cells λ j f=>?_;grind
theorem Stk.kid(h:Stk B N Γ σ w st ids g cap cs)(v:Ext Γ w Γ' w'){q:Nat}(hq:q<I st){t:T}{n:Int}(L:st[q]?=Z (t,n)){r:Nat}(y:ids[q]?=Z r)(x:T)
  (m:∀i s,i<q->ids[i]?=Z s->∀R,σ.rw[s]?=Z R->σ'.rw[s]?=Z R) {R:Row} (Q:σ'.rw[r]?=Z R) (h2:R.k=4) (h3:R.fz=0) (X:R.off=Y) (W:R.c=(t.kids++[x]).map (aq .term)) {f:ah} (S:Rep Γ' (.rs r 0 (I t.kids+1) R.ver Y) f):
  Stk B N Γ' σ' (w'.setCell ⟨g,q*5+3,U⟩ f) (st.take q++[(.mk t.kind t.name t.sort (t.kids++[x]),n)]) (ids.take (q+1)) g cap ((cs.set (q*5+3) f).take ((q+1)*5)):=by
 let⟨D,C⟩:=h.priv.ext v (mg h.own).2
 have l:I (st.take q++[(T.mk t.kind t.name t.sort (t.kids++[x]),n)])=q+1:=by
  grind
 have G:=SN ((zV h.own C).stored (q*5+3) f).1 (p:=q+1);have P:=h.own.1;refine⟨by rw[l,bD,h.len];omega,h.nd.sublist (List.take_sublist _ _),D,by rw[l];exact G,λ i A E s b a=>?_⟩;rw[eX]at a;split at a<;>try cases a
 rename_i H
 have u:∀j,j<5->((cs.set (q*5+3) f).take ((q+1)*5))[i*5+j]?=(cs.set (q*5+3) f)[i*5+j]?:=λ j z=>by
  grind
 have d:∀k,k≠q*5+3->(cs.set (q*5+3) f)[k]?=cs[k]?:=λ k K=>by rw[jA (λ e=>K e.symm)]
 rw[yr,bD,kP (by omega)]at b;split at b
 .next o=>rw[eX,ag o]at b;exact((h.node i A E s b a).later v.le (m i s o a)).cells λ j z=>(u j z).trans (d _ (by omega))
 .rename_i o;have M:i=q:=by omega
  subst M;simp at b;obtain⟨rfl,rfl⟩:=b;rw[y]at a;cases a;let⟨R0,F,b1,b2,b3,b4,b5,b6,a0,a1,a2,a3,a4⟩:=h.node i t n r L y;refine⟨R,f,Q,h2,h3,X,W,(by show Rep Γ' (.rs r 0 (I (t.kids++[x])) R.ver Y) f;rw[aU];exact S),(u 0 (by decide)).trans ((d _ (by omega)).trans a0),(u 1 (by decide)).trans ((d _ (by omega)).trans a1),(u 2 (by decide)).trans ((d _ (by omega)).trans a2),(u 3 (by decide)).trans ?_,(u 4 (by decide)).trans ((d _ (by omega)).trans a4)⟩;grind
end
end
section
open RowKit
structure RS (Γ0:Gh) (w0:ao) (rd:Val RD) (Γ:Gh) (σ:St) (w:ao):Prop where
 x:Ext Γ0 w0 Γ w
 i:Inv Γ σ w
 bx:σ.bx=[aq RD rd]
abbrev vu(F:Val RD->ac ((Val RD×Unit)×((Int×aa aA×Int×aa T×Int×Unit)×Unit))):sZ:=⟨[.box [.val RD]],[.agg [.val (.int .i64),.val .str,.val (.int .i64),.row .term,.val (.int .i64)]],λ x=>F x.1⟩
section
variable {P:aX}{Γ0 Γ:Gh}{σ:St}{w0 w:ao}{rd:Val RD}
def RS.drew(h:RS Γ0 w0 rd Γ σ w):RS Γ0 w0 rd Γ σ {w with drawn:=w.drawn+1}:=⟨h.x.trans (Ext.drew _ _),h.i.drew,h.bx⟩
def RS.box(h:RS Γ0 w0 rd Γ σ w):w.cell? ⟨Γ.β 0,0,U⟩=Z (.string ⟨rd.1.toArray⟩)/\w.cell? ⟨Γ.β 0,1,U⟩=Z (.int .i64 rd.2.1)/\w.cell? ⟨Γ.β 0,2,U⟩=Z (.bool rd.2.2):=by
 let⟨vs,e,f,a,j⟩:=h.i.box 0 (aq RD rd) (by rw[h.bx];rfl);have d:=jp f;have g:∀(x:ah) (u:ah),Rep Γ (.v x) u->u=x:=λ x u h=>by cases h;rfl
 refine⟨?_,?_,?_⟩<;>rw[d]
 .let⟨u,c,b⟩:=a.get (i:=0) (x:=.v (.string ⟨rd.1.toArray⟩)) rfl;grind
 .let⟨u,c,b⟩:=a.get (i:=1) (x:=.v (.int .i64 rd.2.1)) rfl;grind
 .let⟨u,c,b⟩:=a.get (i:=2) (x:=.v (.bool rd.2.2)) rfl;grind
def RS.grown{w':ao}{c:ac Nat}(h:RS Γ0 w0 rd Γ σ w)(e:w.grownBy w' c)(d:∀b,c=Z b->jw Γ b/\w0.heap.size<=b)(f:w.drawn<=w'.drawn):RS Γ0 w0 rd Γ σ w':=
 let⟨a,b⟩:=qjq h.x h.i e d f;⟨a,b,h.bx⟩
def RS.set(h:RS Γ0 w0 rd Γ σ w){g:Nat}(a:jw Γ g)(c:w0.heap.size<=g)(k:Nat)(u:ah):RS Γ0 w0 rd Γ σ (w.setCell ⟨g,k,U⟩ u):=
 h.grown (qkd w g k u) (λ b e=>by cases e;exact⟨a,c⟩) (al _)
def RS.put4(h:RS Γ0 w0 rd Γ σ w){b:Nat}(a:jw Γ b)(c:w0.heap.size<=b)(g f e d:ah):RS Γ0 w0 rd Γ σ ((((w.setCell ⟨b,0,U⟩ g).setCell ⟨b,1,U⟩ f).setCell ⟨b,2,U⟩ e).setCell ⟨b,3,U⟩ d):=
 (((h.set a c 0 g).set a c 1 f).set a c 2 e).set a c 3 d
def Vy:Rep Γ (.sl 4 [] 1) (.slice U 0 0):=.sl _ _ _ _ 0 0 0 0 (λ _ _=>undef) rfl (λ _=>al _) (λ _=>rfl) (λ e h=>by cases h) (λ e h=>by cases h) (by decide) (.inl rfl) (λ i e j x h=>by cases h) (λ i e j x h=>by cases h)
def RS.alloc(h:RS Γ0 w0 rd Γ σ w)(o:Obj):RS Γ0 w0 rd Γ σ (w.alloc o):=
 h.grown (World.grownBy_alloc w o U) (λ b e=>by cases e) (al _)
def SE{f:dm}{F:Val RD->ac ((Val RD×Unit)×((Int×aa aA×Int×aa T×Int×Unit)×Unit))}(C:cp P f (sgP (vu F))){b:Val RD}{nk sk lf:Int}{nm:aa aA}{ks:aa T}(A:F rd=Z ((b,()),((nk,nm,sk,ks,lf,()),())))
  (h:RS Γ0 w0 rd Γ σ w):Calls P f #[.pointer (Z ⟨Γ.β 0,0,U⟩)] w λ e w'=>∃Γ' σ' o,e=.returned (.agg #[.int .i64 nk,.string ⟨nm.toArray⟩,.int .i64 sk,o,.int .i64 lf])/\Ext Γ w Γ' w'/\RS Γ0 w0 b Γ' σ' w'/\σ'.rw=σ.rw++[⟨4,ks.map (aq .term),0,0,Y⟩]/\Rep Γ' (.rs (I σ.rw) 0 (I ks) 0 Y) o:=by
 have l:Γ.nb=1:=by rw[h.i.nb,h.bx];rfl
 have g:fd σ [.ptr 0 0] (sgP (vu F))=Z (.agg [.v (.int .i64 nk),.v (.string ⟨nm.toArray⟩),.v (.int .i64 sk),.rs (I σ.rw) 0 (I ks) 0 Y,.v (.int .i64 lf)],Z ⟨[aq RD b],σ.rw++[⟨4,ks.map (aq .term),0,0,Y⟩],0::σ.wr,σ.wrr⟩):=by
  let⟨K,rw,c,a⟩:= σ;have m:K=[aq RD rd]:=h.bx;subst m;have B:bq RD ((aq RD rd).take (Ty.size RD))=Z rd:=jo RD rd
  have m:sc ⟨[aq RD rd],[],[],[]⟩ [.val RD] 0 0 (.ptr 0 0)=Z ((rd,()),0):=by
   show(match bq RD ((aq RD rd).take (Ty.size RD))with
    |some v=>match kF ⟨[aq RD rd],[],[],[]⟩ [] 0 ((aq RD rd).drop (Ty.size RD))with
      |some (vs,n)=>Z ((v,vs),n)
      |none=>U
    |none=>U)=_
   rw[B];rfl
  have s:dS ⟨[aq RD rd],[],[],[]⟩ (vu F).args 0 0 [.ptr 0 0]=Z (rd,()):=by
   show(match sc ⟨[aq RD rd],[],[],[]⟩ [.val RD] 0 0 (.ptr 0 0)with
    |some (v,k)=>match dS ⟨[aq RD rd],[],[],[]⟩ [] 1 k []with
      |some vs=>Z (toB [.val RD] v,vs)
      |none=>U
    |none=>U)=_
   rw[m];rfl
  have z:sgP (vu F) ⟨[aq RD rd],[],[],[]⟩ [.ptr 0 0]=Z (.agg [.v (.int .i64 nk),.v (.string ⟨nm.toArray⟩),.v (.int .i64 sk),.rs 0 0 (I ks) 0 Y,.v (.int .i64 lf)],Z ⟨[aq RD b],[⟨4,ks.map (aq .term),0,0,Y⟩],[0],[]⟩):=by
   unfold sgP;rw[s];dsimp only;rw[A];rfl
  have q:ng ⟨[aq RD rd],rw,c,a⟩ [.ptr 0 0]=O:=rfl;have H:bO ⟨[aq RD rd],rw,c,a⟩ (dP ⟨[aq RD rd],rw,c,a⟩ [.ptr 0 0]) (gD ⟨[aq RD rd],rw,c,a⟩ [.ptr 0 0])=⟨[aq RD rd],[],[],[]⟩:=rfl;unfold fd;rw[q]
  show(match sgP (vu F) (bO ⟨[aq RD rd],rw,c,a⟩ (dP ⟨[aq RD rd],rw,c,a⟩ [.ptr 0 0]) (gD ⟨[aq RD rd],rw,c,a⟩ [.ptr 0 0])) [.ptr 0 0]with
   |some r=>Z (oA ⟨[aq RD rd],rw,c,a⟩ [0] [] r)
   |none=>U)=_
  rw[H,z];rfl
 refine(Gc (λ Γ σ j r y d t=>C.2 Γ σ w j _ r y d t) h.i (nU (Rep.ptr 0 0 (by rw[l];exact Nat.zero_lt_one)) .nil) g).mono ?_;rintro e w' ⟨v,Γ',rfl,p,E,D,S⟩;cases D with
 |agg _ us u G d=>
 match us,u with
 |[u0,u1,u2,u3,u4],_=>
 have R:=d 0 _ _ rfl rfl;have Q:=d 1 _ _ rfl rfl;have N:=d 2 _ _ rfl rfl;have M:=d 3 _ _ rfl rfl;have L:=d 4 _ _ rfl rfl;cases R;cases Q;cases N;cases L;exact⟨Γ',_,u3,rfl,p,⟨h.x.trans p,E,rfl⟩,rfl,M⟩
theorem Vo(g:Inv Γ σ w){cs:aa ah}{i:Nat}{t:T}{n:Int}{r:Nat}(h:pn Γ σ cs i t n r):
  ∃a σ1 c,σ1.bx=σ.bx/\(∀b,b≠r->σ1.rw[b]?=σ.rw[b]?)/\Ext Γ w a w/\Inv a σ1 w/\cs[i*5+3]?=Z c/\Rep a (.sl 4 (t.kids.map (aq .term)) 1) c/\c.oneCell'=O:=by
 let⟨R,c,k,x,v,u,s,j,C,B,A,p,z⟩:=h;let⟨m,f,o,l⟩:=Se g k σ.wrr;refine⟨_,{σ with rw:=σ.rw.modify r pA,wrr:=σ.wrr},c,rfl,λ b q=>?_,xx f w,o,p,?_,j.one rfl⟩
 .grind
 .have:=vf g f.le (y:=.rs r 0 (I t.kids) R.ver Y) (λ b d R' e=>by
    simp only[rsC,bW]at d;subst d;rw[k]at e;cases e;exact l) j
  grind [bC,sI]
def zi{t:T}{a:ah}(h:Rep Γ (.sl 4 (t.kids.map (aq .term)) 1) a):RepL Γ (aq .term t) [.int .i64 t.kind,.string ⟨t.name.toArray⟩,.int .i64 t.sort,a]:=by
 have b:aq .term t=[.v (.int .i64 t.kind),.v (.string ⟨t.name.toArray⟩),.v (.int .i64 t.sort),.sl 4 (t.kids.map (aq .term)) 1]:=by
  let⟨k,n,s,l⟩:=t;show gM _=_;rw[gM,zY];rfl
 rw[b];exact nU (.v _ rfl) (nU (.v _ rfl) (nU (.v _ rfl) (nU h .nil)))
def FF{k s:Int}{b:gS}{a:ah}(h:a.oneCell'=O):∀u∈([.int .i64 k,.string b,.int .i64 s,a]:aa ah),u.oneCell'=O:=by
 intro u c;simp only[bi,qS,or_false]at c;obtain rfl|rfl|rfl|rfl:=c<;>first|rfl|exact h
def qkQ(l:Inv Γ σ w){t:T}{b:ah}(h:Rep Γ (.sl 4 (t.kids.map (aq .term)) 1) b)(e:aO):
  ∃Γ',Ext Γ w Γ' (w.alloc (.cells #[.int .i64 t.kind,.string ⟨t.name.toArray⟩,.int .i64 t.sort,b] e))/\Inv Γ' σ (w.alloc (.cells #[.int .i64 t.kind,.string ⟨t.name.toArray⟩,.int .i64 t.sort,b] e))/\Rep Γ' (.sl (Ty.size .term) [aq .term t] 2) (.slice (Z ⟨w.heap.size,0,U⟩) 1 1):=by
 let⟨Γ',d,g,m⟩:=Tp l (vs:=[.int .i64 t.kind,.string ⟨t.name.toArray⟩,.int .i64 t.sort,b]) (FF (h.one rfl)) e;refine⟨Γ',d,g,.sl _ _ _ _ 1 1 w.heap.size 0 (λ _ j=>([.int .i64 t.kind,.string ⟨t.name.toArray⟩,.int .i64 t.sort,b]:aa ah).getD j undef) rfl (λ _=>al _) (λ _=>rfl) ?_ ?_ (by decide) (.inr rfl) ?_ ?_⟩
 .grind [List.mem_singleton,fK]
 .grind [List.mem_singleton,fI]
 .intro i e j x a c;cases i with
  |succ i=>cases a
  |zero=>
    cases a;let⟨u,f,_⟩:=(zi h).get c;grind
 .intro i e j x a c;cases i with
  |succ i=>cases a
  |zero=>
    cases a;let⟨u,f,k⟩:=(zi h).get c;rw[gE,f];exact k.mono d.le
def WO{B N:Nat}{f:aa (T×Int)}{a:aa Nat}{g cap:Nat}{cs:aa ah}(h:RS Γ0 w0 rd Γ σ w)(j:Stk B N Γ σ w f a g cap cs){q:Nat}{x:T}{n:Int}(m:f[q]?=Z (x,n)):
  ∃Γ' σ' c,cs[q*5+3]?=Z c/\RS Γ0 w0 rd Γ' σ' w/\Stk B N Γ' σ' w (f.take q) (a.take q) g cap (cs.take (q*5))/\Rep Γ' (.sl 4 (x.kids.map (aq .term)) 1) c/\Ext Γ w Γ' w:=by
 let⟨A,k,z⟩:=j.at m;let⟨d,σ1,c,y,v,l,u,t,s,C⟩:=Vo h.i z;refine⟨d,σ1,c,t,⟨h.x.trans l,u,y.trans h.bx⟩,(j.shrink (qU (getElem?_lt m))).later l λ r o R p=>?_,s,l⟩;rw[v r λ e=>?_];exact p;subst e;let⟨i,b⟩:=ZR.1 o;rw[eX]at b;split at b<;>try cases b
 have:=(ZS (getElem?_lt b) j.nd).1 (b.trans k.symm);omega
def Xj{B N:Nat}{A:aa (T×Int)}{f:aa Nat}{g cap:Nat}{cs:aa ah}{z tE:aO}(hT:Al P .term z tE 56)(h:RS Γ0 w0 rd Γ σ w)(o:Stk B N Γ σ w A f g cap cs)(hB:w0.heap.size<=B){q:Nat}{t x:T}{n:Int}{K:ah}(E:A[q]?=Z (t,n))(hx:Rep Γ (.sl 4 (x.kids.map (aq .term)) 1) K)(l:bM (I t.kids+1) 56=O)(e ty:aO):
  ∃p a,cs[q*5+3]?=Z p/\f[q]?=Z a/\(∃C D,p=.slice C (I t.kids) D)/\
  ∃d w',(Builtin.append_ #[z,z] ty #[p,.slice (Z ⟨w.heap.size,0,U⟩) 1 1]).run P (w.alloc (.cells #[.int .i64 x.kind,.string ⟨x.name.toArray⟩,.int .i64 x.sort,K] e))=.ok d w'/\(∃C D,d=.slice C (I t.kids+1) D)/\
  ∃Γ' σ',Ext Γ w Γ' w'/\RS Γ0 w0 rd Γ' σ' (w'.setCell ⟨g,q*5+3,U⟩ d)/\Stk B N Γ' σ' (w'.setCell ⟨g,q*5+3,U⟩ d) (A.take q++[(.mk t.kind t.name t.sort (t.kids++[x]),n)]) (f.take (q+1)) g cap ((cs.set (q*5+3) d).take ((q+1)*5)):=by
 let⟨ab,X,c2,c3⟩:=qkQ h.i hx e;let⟨a,j,Nq⟩:=o.at E;let⟨R,p,e1,W,S,e4,Q,M,f0,f1,f2,f3,f4⟩:=Nq;have v:I R.c=I t.kids:=by rw[Q,ce]
 have r:=bH l
 have y:eG (Ty.size .term) 56 σ (.rs a 0 (I t.kids) R.ver Y) [aq .term x]=Z (.rs a 0 (I t.kids+1) (R.ver+1) Y,Z {σ with rw:=σ.rw.set a {R with c:=R.c++[aq .term x],ver:=R.ver+1},wrr:=a::σ.wrr}):=by
  have m:R.k=Ty.size .term/\R.ver=R.ver/\I t.kids=I R.c/\(0:Nat)=0/\Y=Y/\R.fz<=I R.c/\(I t.kids+[aq .term x].length)*56<=2^47/\I t.kids+[aq .term x].length<2^62:=
   ⟨W,rfl,v.symm,rfl,rfl,by rw[S];exact aL _,r.1,r.2⟩
  have G:yc R (Ty.size .term) 0 (I t.kids) R.ver Y 56 [aq .term x]=Z ({R with c:=R.c++[aq .term x],ver:=R.ver+1},I t.kids+1):=ag m;have u:bN (fR [aq .term x]) 0=Y:=rfl;simp only[eG,u,e1,G]
 let⟨d,w',Γ',g1,g2,g3,L⟩:=J4 hT c2 (M.mono X.le) c3 (by intro q' hq';rw[bW.1 hq'];exact fK .term x) (by intro q' hq';rw[bW.1 hq'];exact fI .term x) y ty;have b:=X.trans g2;have F:=(o.priv.ext b (mg o.own).2).1;have ad:=(mg o.own).1;refine⟨p,a,f3,j,(by cases M;exact⟨_,_,rfl⟩),d,w',g1,(by cases L;exact⟨_,_,rfl⟩),Γ',_,b,RS.set ⟨h.x.trans b,g3,h.bx⟩ F (by omega) _ _,o.kid b (getElem?_lt E) E j x (λ i H hi s R' an=>?_) (R:={R with c:=R.c++[aq .term x],ver:=R.ver+1}) ?_ W S e4 (by show R.c++_=_;rw[Q,ft];rfl) L⟩
 .have hl:=getElem?_lt s
  have n1:H≠a:=λ e=>by
   have:=(ZS hl o.nd).1 (s.trans (e▸j.symm));omega
  show(σ.rw.set a _)[H]?=_;grind
 .show(σ.rw.set a _)[a]?=_;grind
def UF{vs:aM ah}{a:Nat}{f e c b:ah}(j:a+4<=vs.size)(off:Nat):((((vs.setIfInBounds a f).setIfInBounds (a+1) e).setIfInBounds (a+2) c).setIfInBounds (a+3) b)[off]?=if off<a then vs[off]? else if off<a+4 then([f,e,c,b]:aa ah)[off-a]? else vs[off]?:=by
 simp only[Bp,OY];by_cases h:off<a
 .rw[ag h,ifN,ifN,ifN,ifN]
 .rw[af h];by_cases g:off<a+4
  .rw[ag g];obtain⟨d,rfl⟩:∃d,off=a+d:=⟨off-a,by omega⟩
   rw[show a+d-a=d by omega];have i:d<4:=by omega
   match d,i with
   |0,_=>rw[ifN,ifN,ifN,ifP,ifP];rfl
   |1,_=>rw[ifN,ifN,ifP,ifP];rfl
   |2,_=>rw[ifN,ifP,ifP];rfl
   |3,_=>rw[ifP,ifP];rfl
  .rw[af g,ifN,ifN,ifN,ifN]
def qnx{B N:Nat}{S:aa (T×Int)}{s:aa Nat}{g cap:Nat}{cs:aa ah}(h:RS Γ0 w0 rd Γ σ w)(f:Stk B N Γ σ w S s g cap cs){q:Nat}{t x z:T}{ks:aa T}{n:Int}{o:ah}(hq:S[q]?=Z (t,n))(M:t.kids=ks++[z])(hx:Rep Γ (.sl 4 (x.kids.map (aq .term)) 1) o):
  ∃b m,cs[q*5+3]?=Z (.slice (Z ⟨b,0,U⟩) (I ks+1) m)/\b≠g/\fN Γ b/\(∀j,j<4->∃u,w.cell? ⟨b,I ks*4+j,U⟩=Z u)/\(∀j,w.frozen? ⟨b,j,U⟩=Y)/\
  ∃Γ' σ',Ext Γ w Γ' ((((w.setCell ⟨b,I ks*4,U⟩ (.int .i64 x.kind)).setCell ⟨b,I ks*4+1,U⟩ (.string ⟨x.name.toArray⟩)).setCell ⟨b,I ks*4+2,U⟩ (.int .i64 x.sort)).setCell ⟨b,I ks*4+3,U⟩ o)/\
   RS Γ0 w0 rd Γ' σ' ((((w.setCell ⟨b,I ks*4,U⟩ (.int .i64 x.kind)).setCell ⟨b,I ks*4+1,U⟩ (.string ⟨x.name.toArray⟩)).setCell ⟨b,I ks*4+2,U⟩ (.int .i64 x.sort)).setCell ⟨b,I ks*4+3,U⟩ o)/\
   Stk B N Γ' σ' ((((w.setCell ⟨b,I ks*4,U⟩ (.int .i64 x.kind)).setCell ⟨b,I ks*4+1,U⟩ (.string ⟨x.name.toArray⟩)).setCell ⟨b,I ks*4+2,U⟩ (.int .i64 x.sort)).setCell ⟨b,I ks*4+3,U⟩ o) (S.set q (.mk t.kind t.name t.sort (ks++[x]),n)) s g cap cs:=by
 let⟨r,hr,R,ku,e1,L,e3,e4,e5,e6,f0,f1,f2,f3,f4⟩:=f.at hq;have H:=h.i.row r R e1;have D:I R.c=I ks+1:=by rw[e5,M];simp
 have an:I t.kids=I ks+1:=by rw[M];simp
 rw[an]at e6;have G:R.c[I ks]?=Z (aq .term z):=by rw[e5,M];simp
 have hz:=H.real G;have C:=H.off e4
 obtain⟨b,m,rfl,hb⟩:∃b m,ku=.slice (Z ⟨b,0,U⟩) (I ks+1) m/\b=Γ.cur r:=by
  cases e6 with
  |rs _ _ _ _ _ a m v X hc hf hl=>
    let⟨K,h2⟩:=hl (H.ver (by rw[e3];exact aL _)).symm;obtain K|K:=K
    .omega
    .rw[C,kK,cI]at K;exact⟨_,m,by rw[K],rfl⟩
 subst hb;have v:r<Γ.nr:=by rw[h.i.nr];exact getElem?_lt e1
 have A:fN Γ (Γ.cur r):=.inr ⟨r,v,hz,rfl⟩;have ax:Γ.cur r≠g:=λ e=>f.priv.own (e▸A);let⟨vs,e,fr,Q,c2,c3,c4⟩:=H.blk hz;have ar:fr=(0,0):=c4 (by omega);subst ar;have F:=H.fit;rw[C,D,L,<-c2]at F;have s1:=heap_setCell_same w (Γ.cur r) (I ks*4) vs e (.int .i64 x.kind) Q;have s2:=heap_setCell_same _ (Γ.cur r) (I ks*4+1) _ e (.string ⟨x.name.toArray⟩) s1;have s3:=heap_setCell_same _ (Γ.cur r) (I ks*4+2) _ e (.int .i64 x.sort) s2;have s4:=heap_setCell_same _ (Γ.cur r) (I ks*4+3) _ e o s3
 have l:∀k,k≠Γ.cur r->((((w.setCell ⟨Γ.cur r,I ks*4,U⟩ (.int .i64 x.kind)).setCell ⟨Γ.cur r,I ks*4+1,U⟩ (.string ⟨x.name.toArray⟩)).setCell ⟨Γ.cur r,I ks*4+2,U⟩ (.int .i64 x.sort)).setCell ⟨Γ.cur r,I ks*4+3,U⟩ o).heap[k]?=w.heap[k]?:=λ k P=>by
  rw[Below.heap_setCell _ _ _ _ P,Below.heap_setCell _ _ _ _ P,Below.heap_setCell _ _ _ _ P,Below.heap_setCell _ _ _ _ P]
 let⟨Γ',p,z2⟩:=Kk h.i e1 G (by rw[e3];exact aL _) e4 (e1:=aq .term x) ((fK .term x).trans L.symm) (fI .term x) (λ vs' e' a0 X=>by
   rw[Q]at X;cases X;refine⟨s4,by simp,λ off ho=>?_⟩;rw[L]at ho;rw[UF (by omega)];split
   .rfl
   .rw[ifN])
  (λ j y hj=>by
   have aE:j<4:=by have:=getElem?_lt hj;rwa [fK .term x]at this
   let⟨u,hu,ab⟩:=(zi hx).get hj;refine⟨u,?_,ab,FF (hx.one rfl) u (aP hu)⟩;rw[L,UF (by omega),ifN,ifP,show I ks*4+j-I ks*4=j by omega];exact hu) l rfl rfl rfl (by simp) (al _) σ.wrr
 refine⟨Γ.cur r,m,f3,ax,A,λ j hj=>⟨vs[I ks*4+j]'(by omega),?_⟩,λ j=>frozen_of_row w _ j _ _ Q,Γ',_,p,⟨h.x.trans p,z2,h.bx⟩,?_⟩
 .rw[jp Q,gi]
 .let⟨p1,p2⟩:=f.priv.ext p (mg f.own).2;refine⟨by rw[dX];exact f.len,f.nd,p1,by rw[dX];exact zV f.own p2,λ i t' n' W E d=>?_⟩;rw[oN]at E;split at E
  .rename_i e;subst e;rw[ag (getElem?_lt hq)]at E;cases E;rw[hr]at d;cases d;refine⟨{R with c:=R.c.set (I ks) (aq .term x)},_,gh (getElem?_lt e1),L,e3,e4,?_,?_,f0,f1,f2,f3,f4⟩
   .show R.c.set (I ks) (aq .term x)=(ks++[x]).map (aq .term);rw[e5,M,ft,ft];simp
   .have:=e6.mono p.le;show Rep Γ' (.rs r 0 (I (ks++[x])) R.ver Y) _;rw[aU];exact this
  .rename_i e;refine(f.node i t' n' W E d).later p.le λ R' az=>?_
   have ad:W≠r:=λ e'=>by
    have:=(ZS (getElem?_lt d) f.nd).1 (d.trans (e'▸hr.symm));omega
   show(σ.rw.set r _)[W]?=_;rw[jA (λ e=>ad e.symm)];exact az
end
end
section
open RowKit
def QP{P:aX}{o:Oper}{a:Act}{w:ao}{K:Act->ao->Prop}{Q:Exit->Act->ao->Prop}(s x:bw)(t:aO)(c:o.op=Op.call {callee:=Callee.builtin Builtin.append,args := #[s,x],argTypes := #[t,t]}){v d e:ah}{w':ao}(g:a.eval s=v)(f:a.eval x=d)
  (b:(Builtin.append_ #[t,t] o.type #[v,d]).run P w=.ok e w') (h:K (a.put o.dst e) w'):Oper.wp P o a w K Q:=by
 unfold Oper.wp;simp[execOp,c,resolve,invoke,builtin,g,f,b,Result.andThen];exact h
def QO{P:aX}{ops:aM Oper}{o:Oper}{a:Act}{w:ao}{K:Act->ao->Prop}{Q:Exit->Act->ao->Prop}{E:Prop}(h:o.guard=U)(s x:bw)(t:aO)(c:o.op=Op.call {callee:=Callee.builtin Builtin.append,args := #[s,x],argTypes := #[t,t]}){v d e:ah}{w':ao}(g:a.eval s=v)(f:a.eval x=d)
  (b:(Builtin.append_ #[t,t] o.type #[v,d]).run P w=.ok e w') (i:K (a.put o.dst e) w'):if Region.wanted o (yielded ops a.tmps)=O then Oper.wp P o a w K Q else E:=by
 rw[ag (by simp[Region.wanted,h])];exact QP s x t c g f b i
def qer{P:aX}{ops:aM Oper}{b:aa Oper}{o:Oper}{a:Act}{w:ao}{Q:Exit->Act->ao->Prop}(s x:bw)(t:aO)(j:o.guard=U)(d:o.op=Op.call {callee:=Callee.builtin Builtin.append,args := #[s,x],argTypes := #[t,t]}){v e f:ah}{w':ao}(i:a.eval s=v)(g:a.eval x=e)
  (c:(Builtin.append_ #[t,t] o.type #[v,e]).run P w=.ok f w') (k:wpList P ops Q b (a.put o.dst f) w'):wpList P ops Q (o::b) a w:=by
 have h:Region.wanted o (yielded ops a.tmps)=O:=by simp[Region.wanted,j]
 unfold wpList;rw[ag h];exact .inl (QP s x t d i g c k)
abbrev qA:=(Val RD×Unit)×((Int×aa aA×Int×aa T×Int×Unit)×Unit)
def ov(F:Val RD->ac qA)(rd:Val RD):ac (Val RD×(Int×aa aA×Int×Int)):=match F rd with
 |Z (r,v)=>match v.1.2.2.2.1 with
   |[]=>Z (r.1,v.1.1,v.1.2.1,v.1.2.2.1,v.1.2.2.2.2.1)
   |_::_=>U
 |U=>U
def sB(F:Val RD->ac qA)(c:aa (T×Int)->Val RD->ac ((Val RD×Unit)×(T×Unit)))(b:aa (T×Int))(rd:Val RD):ac ((Val RD×Unit)×(T×Unit)):=
 cond rd.2.2 (Z ((rd,()),(T.mk 0 [] 0 [],()))) (ae b[I b-1]? λ a=>cond (ilt 0 a.2)
  (cond (bM (I b+1) 64) (ae (ov F rd) λ h=>c (b.set (I b-1) (a.1,iw .i64 (cr a.2 1))++[(T.mk h.2.1 h.2.2.1 h.2.2.2.1 [],h.2.2.2.2)]) h.1) U)
  (cond (Nat.beq (I b) 1) (Z ((rd,()),(a.1,()))) (ae b[I b-2]? λ p=>cond (bM (I p.1.kids+1) 56) (c (b.take (I b-2)++[(T.mk p.1.kind p.1.name p.1.sort (p.1.kids++[a.1]),p.2)]) rd) U)))
def qu(F:Val RD->ac qA):Nat->aa (T×Int)->Val RD->ac ((Val RD×Unit)×(T×Unit)):=Ob (λ _ _=>U) (sB F)
def vH(F:Val RD->ac qA)(k:Nat)(rd:Val RD):ac ((Val RD×Unit)×(T×Unit)):=ae (ov F rd) λ h=>qu F k [(T.mk h.2.1 h.2.2.1 h.2.2.2.1 [],h.2.2.2.2)] h.1
def RI{F:Val RD->ac qA}{rd f:Val RD}{nk sk lf:Int}{nm:aa aA}(h:ov F rd=Z (f,nk,nm,sk,lf)):F rd=Z ((f,()),((nk,nm,sk,[],lf,()),())):=by
 unfold ov at h;split at h<;>try cases h
 next r v i=>split at h<;>cases h;next g=>let⟨⟨a,b,c,d,e,_⟩,_⟩:=v;let⟨r,_⟩:=r;have g:d=[]:=g;subst g;exact i
def qil{F:Val RD->ac qA}{g:aa (T×Int)->Val RD->ac ((Val RD×Unit)×(T×Unit))}{c:aa (T×Int)}{rd:Val RD}{r:(Val RD×Unit)×(T×Unit)}(h:sB F g c rd=Z r):
  (rd.2.2=O/\r=((rd,()),(T.mk 0 [] 0 [],())))\/rd.2.2=Y/\∃p b lt,I c=p+1/\c[p]?=Z (b,lt)/\
   ((0<lt/\bM (p+2) 64=O/\∃d nk nm sk lf,F rd=Z ((d,()),((nk,nm,sk,[],lf,()),()))/\g (c.set p (b,iw .i64 (cr lt 1))++[(T.mk nk nm sk [],lf)]) d=Z r)\/
    ¬ 0<lt/\((p=0/\r=((rd,()),(b,())))\/∃q a n,p=q+1/\c[q]?=Z (a,n)/\bM (I a.kids+1) 56=O/\g (c.take q++[(T.mk a.kind a.name a.sort (a.kids++[b]),n)]) rd=Z r)):=by
 unfold sB at h;cases m:rd.2.2 with
 |true=>rw[m]at h;exact .inl ⟨rfl,(kO h).symm⟩
 |false=>
   rw[m]at h;refine .inr ⟨rfl,?_⟩;cases e:c[I c-1]? with
   |none=>rw[e]at h;cases h
   |some x=>
     let⟨b,lt⟩:=x;have o:=getElem?_lt e;obtain⟨p,s⟩:∃p,I c=p+1:=⟨I c-1,by omega⟩
     rw[s]at h e;simp only[Pk]at h e;rw[e]at h;refine⟨p,b,lt,s,e,?_⟩;have h:cond (ilt 0 lt) _ _=Z r:=h;cases i:ilt 0 lt with
     |true=>
       rw[i]at h;have h:cond (bM (p+1+1) 64) (ae (ov F rd) _) U=Z r:=h;cases f:bM (p+1+1) 64 with
       |false=>rw[f]at h;cases h
       |true=>
         rw[f]at h;refine .inl ⟨bH i,rfl,?_⟩;have h:ae (ov F rd) _=Z r:=h;cases l:ov F rd with
         |none=>rw[l]at h;cases h
         |some y=>
           let⟨d,nk,nm,sk,lf⟩:=y;rw[l]at h;exact⟨d,nk,nm,sk,lf,RI l,h⟩
     |false=>
       rw[i]at h;refine .inr ⟨ZT i,?_⟩;have h:cond (Nat.beq (p+1) 1) (Z ((rd,()),(b,()))) _=Z r:=h;cases j:Nat.beq (p+1) 1 with
       |true=>
         rw[j]at h;exact .inl ⟨by have:=cg j;omega,(kO h).symm⟩
       |false=>
         rw[j]at h;obtain⟨q,rfl⟩:∃q,p=q+1:=⟨p-1,by cases p with|zero=>cases j|succ q=>rfl⟩
         have h:ae c[q+1+1-2]? _=Z r:=h;rw[show q+1+1-2=q by omega]at h;cases k:c[q]? with
         |none=>rw[k]at h;cases h
         |some y=>
           let⟨a,n⟩:=y;rw[k]at h;have h:cond (bM (I a.kids+1) 56) (g (c.take (q+1+1-2)++_) rd) U=Z r:=h;rw[show q+1+1-2=q by omega]at h;cases f:bM (I a.kids+1) 56 with
           |false=>rw[f]at h;cases h
           |true=>rw[f]at h;exact .inr ⟨q,a,n,rfl,k,f,h⟩
def SQ{Γ Γ':Gh}(q:∀b o u,Γ.mem b o=Z u->Γ'.mem b o=Z u){x:AV}{u:ah}(h:Rep Γ x u):br x=O->Rep Γ' x u:=by
 induction h with
 |v x h=>exact λ _=>.v x h
 |sl k z f a n cap b o us p t s r l y w g A m=>
   exact λ _=>.sl k z f a n cap b o us p t s r l y w (λ i e j x d c=>q _ _ _ (g i e j x d c)) (λ i e j x d c=>m i e j x d c (l e (aP d) x (aP c)))
 |_=>intro h;cases h
section
variable {P:aX}{Γ0 Γ:Gh}{σ0 σ:St}{w0 w:ao}{rd:Val RD}
def qiY(G:Inv Γ0 σ0 w0)(p:I σ0.bx=1)(c:σ0.rw=[])(h:RS Γ0 w0 rd Γ σ w){t:T}{us:aa ah}(s:RepL Γ (aq .term t) us)(F:∀u∈us,u.oneCell'=O):
  ∃v Γ',(Ending.returned (.agg us.toArray):Ending)=.returned v/\Ext Γ0 w0 Γ' w/\Inv Γ' (turn σ0 (Z ⟨[aq RD rd],[],List.range (I σ0.bx),List.range (I σ0.rw)⟩)) w/\Rep Γ' (cG .term t) v/\bP {σ0 with wr:=[],wrr:=[]} (turn {σ0 with wr:=[],wrr:=[]} (Z ⟨[aq RD rd],[],List.range (I σ0.bx),List.range (I σ0.rw)⟩)):=by
 let⟨q,g,C,r⟩:= σ0;have c:g=[]:=c;subst c;obtain⟨y,rfl⟩:∃y,q=[y]:=O8.1 p
 let⟨m,B,H,A,z⟩:=Az G h.x h.i (by rw[h.bx];exact al _) [aq RD rd] [] rfl (by simp) nK [] [] (λ i cs d=>by
  cases i with
  |succ i=>cases d
  |zero=>
    cases d;refine⟨aq RD rd,by rw[h.bx];rfl,(λ h=>nomatch (show O=Y from h)),λ m n _ us f=>⟨f.len,λ j x u e k=>SQ (Γ:=Γ) (Γ':=eK Γ m 1 [] 0 []) (λ b o u l=>n.le.mem b o u l) (f.rep j x u e k) (fI RD rd x (aP e))⟩⟩) (λ a so R h=>by cases h) (λ a b j R R' h=>by cases h) [0] []
 refine⟨_,_,rfl,A,z,.agg _ us s.len F λ i x u e f=>SQ (Γ:=Γ) (Γ':=eK Γ m 1 [] 0 []) (λ b o u n=>B.le.mem b o u n) (s.rep i x u e f) (fI .term t x (aP e)),al _,al _,λ i d E=>?_,λ i d _=>absurd d (eh _),λ i h=>(by cases h),λ i h=>(by cases h)⟩;have:i=0:=by have:i<1:=d;omega
 exact absurd (by rw[this];exact bW.2 rfl) E
def qkw{B N:Nat}{m:aa (T×Int)}{c:aa Nat}{g cap:Nat}{cs:aa ah}{q:aO}{i:TypeInfo}{z:ah}(L:P.underlying q=Z (.slice N))(S:P.info? N=Z i)(K:i.zero=Z z)(x:i.size=5)(F:i.bytes=64)(v:z.cells.size=5)
  (h:RS Γ0 w0 rd Γ σ w) (s:Stk B N Γ σ w m c g cap cs) (hB:w0.heap.size<=B) {nk sk lf:Int}{nm:aa aA}{n:ah}{r:Nat} (hR:σ.rw[r]?=Z ⟨4,[],0,0,Y⟩) (o:Rep Γ (.rs r 0 0 0 Y) n) (M:r ∉ c) (d:bM (I m+1) 64=O) (ty:aO):
  ∃t w',(Builtin.append_ #[q,q] ty #[.slice (Z ⟨g,0,U⟩) (I m) cap,.slice (Z ⟨w.heap.size,0,U⟩) 1 1]).run P (w.alloc (.cells #[.int .i64 nk,.string ⟨nm.toArray⟩,.int .i64 sk,n,.int .i64 lf] N))=.ok t w'/\
  ∃l a,t=.slice (Z ⟨l,0,U⟩) ((I m+1:Nat)) a/\RS Γ0 w0 rd Γ σ w'/\Stk B N Γ σ w' (m++[(.mk nk nm sk [],lf)]) (c++[r]) l a (cs++[.int .i64 nk,.string ⟨nm.toArray⟩,.int .i64 sk,n,.int .i64 lf])/\
   w.heap.size<=w'.heap.size/\(∀b,b<w.heap.size->b≠g->w'.heap[b]?=w.heap[b]?)/\(l=g\/w.heap.size<=l):=by
 have ha:=s.own.alloc (.cells #[.int .i64 nk,.string ⟨nm.toArray⟩,.int .i64 sk,n,.int .i64 lf] N);have A:=bH d;have ab:=mg s.own
 let⟨t,w',e1,e2,p,H⟩:=Qg (P:=P) (w.alloc (.cells #[.int .i64 nk,.string ⟨nm.toArray⟩,.int .i64 sk,n,.int .i64 lf] N)) B q ty N i z 5 64 L S K x F v (by decide) _ (I m) cs ha ⟨w.heap.size,0,U⟩ 1 1 [.int .i64 nk,.string ⟨nm.toArray⟩,.int .i64 sk,n,.int .i64 lf] rfl
  (λ j u Q=>by rw[VQ,World.cell?_alloc_mark];simpa using Q) (λ u G=>by
   simp only[bi,qS,or_false]at G;obtain rfl|rfl|rfl|rfl|rfl:=G<;>first|rfl|exact o.one rfl) (by unfold maxLen;omega) (by have:=A.1;omega) (by simp;omega)
 have E:=GxZ.run_drawn _ e1;have f:w.grownBy w' (Z g):=⟨p.os,p.tape,p.output,by have:=p.size;simp at this;omega,λ k D C=>(p.block k (by simp;omega) C).trans (Below.heap_alloc _ _ _ D)⟩
 have h2:=RS.grown h f (λ b e=>by cases e;exact⟨s.priv,by omega⟩) E;obtain⟨l,a,rfl,y⟩:=Stk.push (Γ:=Γ) (σ:=σ) s (r:=r) (R:=⟨4,[],0,0,Y⟩) hR rfl rfl rfl rfl o M e2 (H.imp id λ W k D=>jw.new h.i (by have:=W k D;simp at this;omega));refine⟨_,w',e1,l,a,rfl,h2,y,f.size,λ b X C=>f.block b X (λ e=>C (by cases e;rfl)),?_⟩;obtain e|e:=H
 .cases e;exact .inl rfl
 .have:=e l rfl;simp at this;exact .inr (by omega)
def qmd{B N:Nat}(h:RS Γ0 w0 rd Γ σ w)(f:B<=w.heap.size){nk sk lf:Int}{nm:aa aA}{a:ah}{r:Nat}(e:σ.rw[r]?=Z ⟨4,[],0,0,Y⟩)(c:Rep Γ (.rs r 0 0 0 Y) a):
  RS Γ0 w0 rd Γ σ (w.alloc (.cells #[.int .i64 nk,.string ⟨nm.toArray⟩,.int .i64 sk,a,.int .i64 lf] N))/\Stk B N Γ σ (w.alloc (.cells #[.int .i64 nk,.string ⟨nm.toArray⟩,.int .i64 sk,a,.int .i64 lf] N)) [(.mk nk nm sk [],lf)] [r] w.heap.size 1 [.int .i64 nk,.string ⟨nm.toArray⟩,.int .i64 sk,a,.int .i64 lf]:=by
 refine⟨h.alloc _,rfl,by simp,jw.new h.i (al _),World.ownsRow_lit w #[.int .i64 nk,.string ⟨nm.toArray⟩,.int .i64 sk,a,.int .i64 lf] 1 f (by decide) rfl,λ i t n g d b=>?_⟩;cases i with
 |succ i=>cases d
 |zero=>
   cases d;cases b;exact⟨_,a,e,rfl,rfl,rfl,rfl,c,rfl,rfl,rfl,rfl,rfl⟩
def Stk.id_lt{B N:Nat}{b:aa (T×Int)}{a:aa Nat}{g cap:Nat}{cs:aa ah}(c:Stk B N Γ σ w b a g cap cs):I σ.rw ∉ a:=λ h=>by
 let⟨i,d⟩:=ZR.1 h;have e:i<I b:=by rw[<-c.len];exact getElem?_lt d
 let⟨R,_,f,_⟩:=c.node i _ _ _ (aV e) d;exact absurd (getElem?_lt f) (O2 _)
def ib(Γ:Gh)(w:ao)(b:Nat)(e:aO):Prop:=jw Γ b/\b<w.heap.size/\w.heap[b]?=Z (.cells #[.int .i64 0,.string ⟨#[]⟩,.int .i64 0,.slice U 0 0] e (0,0))
def ib.cells{b:Nat}{e:aO}(h:ib Γ w b e):w.cell? ⟨b,0,U⟩=Z (.int .i64 0)/\w.cell? ⟨b,1,U⟩=Z (.string ⟨#[]⟩)/\w.cell? ⟨b,2,U⟩=Z (.int .i64 0)/\w.cell? ⟨b,3,U⟩=Z (.slice U 0 0)/\∀i,w.frozen? ⟨b,i,U⟩=Y:=by
 let⟨_,_,h⟩:=h;have a:=jp h;exact⟨a 0,a 1,a 2,a 3,λ i=>frozen_of_row w b i _ _ h⟩
def ib.ext{Γ':Gh}{w':ao}{b:Nat}{e:aO}(h:ib Γ w b e)(d:Ext Γ w Γ' w'):ib Γ' w' b e:=
 let⟨a,c⟩:=h.1.ext d h.2.1;⟨a,cU h.2.1 d.size,c.trans h.2.2⟩
def ib.same{w':ao}{b:Nat}{e:aO}(h:ib Γ w b e)(a:w.heap.size<=w'.heap.size)(c:w'.heap[b]?=w.heap[b]?):ib Γ w' b e:=⟨h.1,cU h.2.1 a,c.trans h.2.2⟩
def Stk.drew{B N:Nat}{b:aa (T×Int)}{a:aa Nat}{g cap:Nat}{cs:aa ah}(h:Stk B N Γ σ w b a g cap cs):Stk B N Γ σ w.drew b a g cap cs:=⟨h.len,h.nd,h.priv,zV h.own rfl,h.node⟩
def ib.drew{b:Nat}{e:aO}(h:ib Γ w b e):ib Γ w.drew b e:=h
def RS.drew'(h:RS Γ0 w0 rd Γ σ w):RS Γ0 w0 rd Γ σ w.drew:=h.drew
end
end
section
set_option maxRecDepth 100000
noncomputable section
class NF (α:Type) where z:α
instance {α:Type}:NF (ac α):=⟨U⟩
instance {α a:Type}[NF a]:NF (α->a):=⟨λ _=>NF.z⟩
instance {α a:Type}[NF α][NF a]:NF (α×a):=⟨(NF.z,NF.z)⟩
def bh{α:Type}[NF α]:(Nat->α->α)->Nat->α:=Yf NF.z
def bm{α:Type}[NF α](s:Nat->α):Nat->α:=Yf NF.z λ m _=>s m
def bk{α:Type}[NF α]:(α->α)->Nat->α:=Ob NF.z
abbrev Z1:=ac (aa (Y8×(Int×Int)))
abbrev Z2:=ac Bool
abbrev Z3:=ac (((Y8×(Int×Bool))×Unit)×(Int×Unit))
abbrev Z4:=Y8×(Int×Bool)
abbrev Z5:=ac (((Y8×(Int×Bool))×Unit)×(Y8×Unit))
abbrev Z6:=aa aA
abbrev Z7:=Int->Int->Int->Z6->Int->Bool->Z5
abbrev Z8:=ac (((Y8×(Int×Bool))×Unit)×((Int×Y8×Int×(aa T)×Int×Unit)×Unit))
abbrev Z10:=Z6->Int->Int->Z2
abbrev Z11:=Y8->Z2
abbrev Z12:=ac ((Int×Int×Unit)×(Int×Unit))
abbrev Z13:=T->Int->Int->Int->Z12
abbrev Z14:=aa T
abbrev Z15:=Int->Z14->Int->Int->Int->Int->Z12
abbrev Z16:=ac Int
abbrev Z17:=T->Z16
abbrev Z18:=ac (Y8×(Int×(Int×Int)))
abbrev Z19:=aa (Y8×(Int×(Int×Int)))
abbrev Z20:=Z6->Z19->Int->Int->Z6->Int->Int->Int->Z18
abbrev Z21:=Z14->Int->Int->Int->Z6->Int->Z14->Z16
abbrev Z22:=Z14->Int->Int->Z16
abbrev Z23:=Int->Z14->Int->Int->Z16
abbrev Z24:=T->T->Z16
abbrev Z25:=Int->Int->Int->Z6->Int->Z14->Int->Z6->Int->Z14->Z16
abbrev Z26:=T->T->Z2
abbrev Z27:=ac T
abbrev Z28:=T->Z27
abbrev Z29:=ac (TL)
abbrev Z30:=(aa (TL))->Int->(aa (TL))->Int->Int->Z29
abbrev Z31:=(aa (TL))->Int->Int->Z14->Z29
abbrev Z32:=Z14->Z14->Z14->Z29
abbrev Z33:=T->Z29
abbrev Z34:=Z14->Z14->Int->Int->Z29
abbrev Z35:=Z14->Int->Int->Int->Z6->Int->Int->Z6->Int->Z14->Z14->Z27
abbrev Z36:=ac (T×Int)
abbrev Z37:=(aa Int)->Int->Int->Int->Z6->Int->Z14->Int->Z6->Int->Int->Z6->Int->Z14->Z14->Z36
abbrev Z38:=TL->Z29
abbrev Z39:=Z14->Int->Int->Z14->Z29
abbrev Z40:=Z14->Z14->Int->Int->Int->Z6->Int->Z14->Z36
abbrev Z41:=T->Z2
abbrev Z42:=Int->Int->Int->Z6->Int->Int->Z6->Int->Z14->Z14->Z27
abbrev Z43:=ac (Int×Bool)
abbrev Z44:=aa (T×Int)
abbrev Z45:=Z44->Int->Int->Int->Int->Z6->Int->Z14->Z43
abbrev Z46:=ac ((Unit)×((aa (T×Int))×Unit))
abbrev Z47:=ac ((Unit)×((aa (T×Int))×Bool×Unit))
abbrev Z48:=Z44->T->Int->Z47
abbrev Z49:=Int->Z14->Int->Int->Z44->Z47
abbrev Z50:=ac ((aa (T×Int))×Int)
abbrev Z52:=Z44->Z44->Int->Int->Z16
abbrev Z53:=Z44->Z16
abbrev Z55:=Z44->Int->Int->Int->Z6->Int->Z14->Z14->Z14->Z36
abbrev Z56:=Z44->Int->Int->Int->Int->Int->Z6->Int->Int->Z6->Int->Z14->Int->Z14->Z14->Z14->Z36
abbrev Z57:=Z44->Z36
abbrev Z58:=Z44->Int->Int->Z44->Z46
abbrev Z59:=Z44->Int->Int->Z16
abbrev Z60:=Z44->Int->Int->Z44->Z50
abbrev Z61:=Z44->Z44->Z50
abbrev Z63:=T->Z36
abbrev Z64:=Z14->Int->Int->Int->Z6->Int->Z14->Int->Z6->Int->Int->Z6->Int->Z14->Z14->Z36
abbrev Z65:=Z14->Int->Int->Z2
abbrev Z66:=ac (T×(Int×Int))
abbrev Z67:=ac ((Int×(aa T)×Unit)×(Unit))
abbrev Z68:=T->Int->Z14->Z67
abbrev Z69:=Z14->Int->Int->Int->Z14->Z67
abbrev Z70:=ac ((Unit)×((aa T)×Unit))
abbrev Z71:=Int->Int->Z14->Z70
abbrev Z72:=ac ((T×Unit)×(Bool×Unit))
abbrev Z73:=ac ((T×Unit)×(Int×Unit))
abbrev Z74:=(aa (Y8×(Int×Int)))->Int->Int->Int->Z6->Int->Z14->Z73
abbrev Z75:=ac ((Unit)×((aa Int)×Unit))
abbrev Z76:=(aa Int)->T->Z75
abbrev Z77:=Z14->Int->Int->(aa Int)->Z75
abbrev Z78:=aa (T×T)
abbrev Z79:=Z78->T->Z27
abbrev Z80:=Z78->Z78->Int->Int->Int->Z6->Int->Z14->Int->Z6->Int->Z14->Z27
abbrev Z81:=Z78->Z14->Int->Int->Int->Z6->Int->Int->Z6->Int->Z14->Z14->Z27
abbrev Z82:=ac (((aa (Y8×Y8))×Unit)×(T×Unit))
abbrev Z83:=T->Y8->(aa (Y8×Y8))->Z82
abbrev Z84:=Z6->Z14->Int->Int->(aa (Y8×Y8))->Int->Z6->Int->Int->Z6->Int->Z14->Z14->Z82
abbrev Z85:=aa ((Y8×Int)×T)
abbrev Z86:=ac (((aa ((Y8×Int)×T))×Unit)×(T×Unit))
abbrev Z87:=Z85->T->Z86
abbrev Z88:=Z14->Int->Int->Z85->Int->Z6->Int->Z14->Int->Z6->Int->Z14->Z14->Z86
abbrev Z89:=ac ((((aa (T×T))×(aa (T×T))×Unit)×Unit)×(Int×Unit))
abbrev Z90:=Int->Int->Z78->Int->Z6->Int->Z14->Int->Z6->Int->Z14->Bool->Z85->Z78->Z78->Z89
abbrev Z91:=(aa (T×T))×(aa (T×T))×Unit
abbrev Z92:=Z91->T->T->Z89
abbrev Z93:=TL->T->Z72
abbrev Z94:=T->T->Z72
abbrev Z95:=TL->T->Z73
abbrev Z96:=Z14->Int->Int->Int->Z6->Int->Z14->Z73
abbrev Z97:=Int->Int->Z78->Int->Z6->Int->Z14->Int->Z6->Int->Z14->Z78->Z78->Z89
abbrev Z98:=ac ((Unit)×((aa (T×T))×Unit))
abbrev Z99:=ac ((aa (T×T))×Int)
abbrev Yu:=Z78->Z78->Z99
abbrev qoG:=T->T->Z99
abbrev ym:=ac (Int×(Int×(T×Int)))
abbrev OE:=Z14->Int->Int->Int->Z6->Int->Z14->ym
abbrev N5:=Z14->Int->Int->Int->Int->Int->Z6->Int->Int->Z6->Int->Z14->Z14->ym
abbrev HO:=T->Int->Z16
abbrev yk:=Int->Int->Int->Z6->Int->Z14->Z16
abbrev Zl:=Z6->Int->Z2
abbrev Hx:=Int->Int->Z6->Int->Z14->Z16
abbrev qoJ:=ac (aa (Y8×(Int×(Int×Int))))
abbrev YA:=Z6->Z19->Int->Z16
abbrev YR:=Z19->Int->Int->Z6->Int->Z14->Z2
abbrev Zw:=Int->Int->Z6->Int->Z14->Z2
abbrev YF:=Int->Int->Z6->Int->Z14->Int->Z6->Int->Z14->Z16
abbrev YT:=Int->Int->Z6->Int->Z14->Z14->Z29
abbrev vJ:=ac (T×Bool)
abbrev Ys:=Z14->Int->Int->Z6->Int->Z14->Z16
abbrev Y9:=Z14->Bool->Int->Int->Z6->Int->Z14->Z14->Z29
abbrev YB:=Z14->Int->Int->Z6->Int->Z14->Z2
abbrev Y4:=Z14->Int->Int->Z6->Int->Z14->Z14->Z29
abbrev Hk:=Z14->Z14->Int->Z29
abbrev Zb:=Z14->Int->Int->Z6->Int->Z14->Z29
abbrev Zy:=Z14->Z14->Int->Int->Z6->Int->Z14->Z36
abbrev Zm:=Int->Int->Int->Z6->Int->Z14->Z2
abbrev YC:=Int->Bool->Int->Int->Z6->Int->Z14->Z44->Z44->Z46
abbrev A4:=Z44->T->Int->Z46
abbrev YW:=Int->Int->Int->Z6->Int->Z14->Z44->Z46
abbrev HM:=Z44->Int->Z16
abbrev pC:=Z44->Int->Z14->Z29
abbrev pB:=Z44->Int->Int->Z14->Z29
abbrev YX:=Z44->Int->Z44->Z50
abbrev YZ:=Int->Int->Z6->Int->Z14->Int->Z6->Int->Z14->Z14->Z36
abbrev HV:=Z14->Int->Z2
abbrev Ym:=Int->Z14->Int->Z14->Z29
abbrev Hl:=ac (((aa ((Y8×Int)×T))×Unit)×(Bool×Unit))
abbrev Hp:=T->T->Z85->Hl
abbrev YH:=Int->Int->Z85->Int->Z6->Int->Z14->Int->Z6->Int->Z14->Hl
abbrev Zj:=Z14->Int->Int->Z85->Z78->Z99
abbrev Zo:=Z6->(aa Y8)->Int->Z16
abbrev Hr:=T->(ac Y8)
abbrev Zq:=Z6->Int->Int->Z6->Int->Z14->(ac Y8)
def IA(m:Nat):Z1:=
 Z [([112,97,105,114],(2,2)),([101,110,99],(2,2)),([97,101,110,99],(2,2)),([112,107],(1,1)),([115,105,103,110],(2,2)),([104,97,115,104],(1,1)),([120,111,114],(2,8)),([122,101,114,111],(0,0)),([101,120,112],(2,2)),([109,117,108],(2,8)),([105,110,118],(1,1)),([111,110,101],(0,0)),([115,107],(1,1)),([115,104,107],(2,2)),([110,101,119],(1,8))]
def nV:=bm IA
def In(m:Nat)(a:Y8×(Int×Int)):Z2:=
 Z (au (ieq a.2.1 a.2.2))
def tC:=bm In
def Ip(m:Nat)(a:Y8×(Int×Bool))(c g:Int):Z3:=
 let b:Z3:=(Z (((a.1,(a.2.1,O)),()),(c,())));cond a.2.2 b (cond (ile (I a.1) a.2.1) b (ae (av a.1 a.2.1) λ f=>
 cond (ilt (iw .i64 ((UInt8.toNat f:Nat):Int)) c) b (ae (av a.1 a.2.1) λ e=>
 cond (ilt g (iw .i64 ((UInt8.toNat e:Nat):Int))) b (ae (av a.1 (iw .i64 (cr (iw .i64 (aD a.2.1 1)) 1))) λ d=>
 Z (((a.1,(iw .i64 (aD a.2.1 1),a.2.2)),()),(iw .i64 ((UInt8.toNat d:Nat):Int),()))))))
def mO:=bm Ip
def BD(m:Nat)(c:Z7)(b:Y8×(Int×Bool)):Z5:=
 ae (mO m b 1 24) λ a=>c a.1.1.2.1 a.2.1 0 a.1.1.1 a.1.1.2.1 a.1.1.2.2
def yD(m:Nat)(l:Z7)(g h f:Int)(c:Y8)(a:Int)(e:Bool):Z5:=
 cond (ilt f h) (let d:Z5:=(Z (((c,(a,O)),()),([],())));cond e d (cond (ile (I c) a) d (ae (av c a) λ b=>let j2:Z5:=
 (l g h (iw .i64 (aD f 1)) c (iw .i64 (aD a 1)) e);let k:Z5:=(let j:Z5:=(cond (ieq f 0) d (let i:Z5:=(cond (au (ieq ((UInt8.toNat b:Nat):Int) 95))
 (cond (au (ieq ((UInt8.toNat b:Nat):Int) 35)) d j2) j2);cond (ilt ((UInt8.toNat b:Nat):Int) 48) i (cond (ilt 57 ((UInt8.toNat b:Nat):Int)) i j2)));cond (ile 65 ((UInt8.toNat b:Nat):Int))
 (cond (au (ile ((UInt8.toNat b:Nat):Int) 90)) j j2) j);cond (ile 97 ((UInt8.toNat b:Nat):Int)) (cond (ile ((UInt8.toNat b:Nat):Int) 122) j2 k) k))) (cond (inb a (I c))
 (cond (inb g (Int.toNat a)) (Z (((c,(a,e)),()),(gA c g a,()))) U) U)
def qX(m:Nat):=bk (yD m)
def yG:Nat->(Z4->Z5):=bh λ m _=>BD m (qX m m)
def yE(m:Nat)(b:Y8×(Int×Bool)):Z8:=
 let g:Z8:=(ae (nV m) λ j=>ae (nV m) λ i=>ae (mO m b 16 (iw .i64 (cr (iw .i64 (aD 16 (I i))) 1))) λ c=>
 ae (av j (iw .i64 (cr c.2.1 16))) λ a=>ae (tC m a) λ h=>
 cond h (ae (mO m c.1.1 a.2.1 a.2.2) λ d=>Z ((d.1.1,()),((3,a.1,0,[],d.2.1,()),())))
 (Z ((c.1.1,()),((3,a.1,0,[],a.2.1,()),()))));cond (ilt b.2.1 (I b.1)) (ae (av b.1 b.2.1) λ k=>cond (ile ((UInt8.toNat k:Nat):Int) 5)
 (ae (mO m b 0 5) λ f=>ae (yG m f.1.1) λ e=>
 Z ((e.1.1,()),((2,e.2.1,f.2.1,[],0,()),()))) g) g
def gT:=bm yE
def tD:Nat->Val RD->ac ((Val RD×Unit)×(T×Unit)):=bh λ m _=>vH (gT m) m
def Jw(m:Nat)(a:Int):Z2:=
 let d:Z2:=(let c:Z2:=(let b:Z2:=(cond (ieq a 95) (Z O) (Z (ieq a 35)));cond (ile 48 a) (cond (ile a 57) (Z O) b) b);cond (ile 65 a) (cond (ile a 90) (Z O) c) c);
 cond (ile 97 a) (cond (ile a 122) (Z O) d) d
def zD:=bm Jw
def Da(m:Nat)(i:Z10)(a:Y8):Z2:=
 cond (aT a []) (Z Y) (cond (ilt 24 (I a)) (Z Y) (ae (av a 0) λ h=>ae (zD m ((UInt8.toNat h:Nat):Int)) λ g=>cond (au g) (Z Y) (ae (av a 0) λ f=>
 let b:Z2:=(ae (av a 0) λ d=>cond (ieq ((UInt8.toNat d:Nat):Int) 95) (Z Y) (ae (av a 0) λ c=>cond (ieq ((UInt8.toNat c:Nat):Int) 35) (Z Y) (i a (I a) 0)));
 cond (ile 48 ((UInt8.toNat f:Nat):Int)) (ae (av a 0) λ e=>cond (ile ((UInt8.toNat e:Nat):Int) 57) (Z Y) b) b)))
def CY(m:Nat)(f:Z10)(c:Y8)(b a:Int):Z2:=
 cond (ilt a b) (ae (av c a) λ e=>ae (zD m ((UInt8.toNat e:Nat):Int)) λ d=>cond (au d) (Z Y) (f c b (iw .i64 (aD a 1)))) (Z O)
def pQ(m:Nat):=bk (CY m)
def wO:Nat->Z11:=bh λ m _=>Da m (pQ m m)
def Dq(m:Nat)(b:Z13)(i:Z15)(a:T)(d f e:Int):Z12:=
 let g:Z12:=(ae (wO m a.name) λ h=>cond (au h) (Z ((iw .i64 (aD f 1),pw e d,()),(2,()))) (cond (ilt 8 (I a.kids)) (Z ((iw .i64 (aD f 1),pw e d,()),(3,())))
 (i d a.kids (I a.kids) 0 (iw .i64 (aD f 1)) (pw e d))));let c:Z12:=(Z ((iw .i64 (aD f 1),pw e d,()),(1,())));let j3:Z12:=
 (cond (ilt a.sort 0) c (cond (ilt 5 a.sort) c (cond (ilt 0 (I a.kids)) c g)));cond (ieq a.kind 1) j3 (cond (ieq a.kind 2) j3 (cond (ieq a.kind 3) (cond (au (ieq a.sort 0)) c g) c))
def DK(m:Nat)(a:Z13)(j:Z15)(h:Int)(g:TL)(f c e d:Int):Z12:=
 cond (ilt c f) (ae (av g c) λ i=>ae (a (re i) (iw .i64 (aD h 1)) e d) λ b=>cond (au (ieq b.2.1 0)) (Z ((b.1.1,b.1.2.1,()),(b.2.1,())))
 (j h g f (iw .i64 (aD c 1)) b.1.1 b.1.2.1)) (Z ((e,d,()),(0,())))
def mQ(m:Nat)(a:Z13):=bk (DK m a)
def iv:Nat->Z13:=bh λ m a=>Dq m a (mQ m a m)
def Js(m:Nat)(b:T):Z16:=
 ae (iv m (re b) 1 0 0) λ a=>cond (au (ieq a.2.1 0)) (Z a.2.1) (cond (ilt 400 a.1.1) (Z 3) (cond (ilt 40 a.1.2.1) (Z 3) (Z 0)))
def eQ:=bm Js
def Cr(m:Nat)(c:Z20)(b:Y8):Z18:=
 ae (Ja 0) λ a=>c b a (I a) 0 [] 0 0 0
def Cd(m:Nat)(j:Z20)(d:Y8)(c:aa (Y8×(Int×(Int×Int))))(b a:Int)(i:Y8)(h g f:Int):Z18:=
 cond (ilt a b) (ae (av c a) λ e=>cond (aT e.1 d) (Z e) (j d c b (iw .i64 (aD a 1)) i h g f)) (Z ([],(0,(0,0))))
def tQ(m:Nat):=bk (Cd m)
def wJ:Nat->(Y8->Z18):=bh λ m _=>Cr m (tQ m m)
def CN(m:Nat)(b:Z17)(e:Z21)(d:Z22)(a:T):Z16:=
 cond (au (ieq a.kind 3)) (Z 0) (ae (wJ m a.name) λ c=>cond (ieq c.2.2.2 0) (Z 10) (cond (ilt (I a.kids) c.2.1) (Z 6) (cond (ilt c.2.2.1 (I a.kids)) (Z 6)
 (cond (aT a.name [115,107]) (e a.kids (I a.kids) 0 a.kind a.name a.sort a.kids) (cond (aT a.name [115,104,107]) (e a.kids (I a.kids) 0 a.kind a.name a.sort a.kids)
 (cond (aT a.name [110,101,119]) (ae (av a.kids 0) λ f=>cond (au (ieq f.kind 2)) (Z 10) (d a.kids (I a.kids) 0)) (d a.kids (I a.kids) 0)))))))
def Cx(m:Nat)(a:Z17)(k:Z21)(j:Z22)(e:TL)(d c i:Int)(h:Y8)(g:Int)(b:TL):Z16:=
 cond (ilt c d) (ae (av e c) λ f=>cond (ieq f.kind 3) (Z 10) (cond (au (ieq f.sort 1)) (Z 10) (k e d (iw .i64 (aD c 1)) i h g b))) (j b (I b) 0)
def CA(m:Nat)(a:Z17)(h:Z21)(g:Z22)(d:TL)(c b:Int):Z16:=
 cond (ilt b c) (ae (av d b) λ f=>ae (a (re f)) λ e=>cond (au (ieq e 0)) (Z e) (g d c (iw .i64 (aD b 1)))) (Z 0)
def iQ(m:Nat)(a:Z17):=bk λ b=>(Cx m a b.1 b.2,CA m a b.1 b.2)
def fH:Nat->Z17:=bh λ m a=>CN m a (iQ m a m).1 (iQ m a m).2
def IW(m:Nat)(b:T):Z16:=
 ae (eQ m (re b)) λ a=>cond (au (ieq a 0)) (Z a) (ae (fH m (re b)) λ c=>Z c)
def ug:=bm IW
def Jv(m:Nat)(b a:Int):Z16:=
 cond (ilt b a) (Z (-1)) (cond (ilt a b) (Z 1) (Z 0))
def uL:=bm Jv
def Ef(m:Nat)(a:Z17)(c:Z23)(b:T):Z16:=
 c 1 b.kids (I b.kids) 0
def D3(m:Nat)(a:Z17)(h:Z23)(e:Int)(d:TL)(c b:Int):Z16:=
 cond (ilt b c) (ae (av d b) λ g=>ae (a (re g)) λ f=>h (iw .i64 (aD e f)) d c (iw .i64 (aD b 1))) (Z e)
def uz(m:Nat)(a:Z17):=bk (D3 m a)
def li:Nat->Z17:=bh λ m a=>Ef m a (uz m a m)
def CR(m:Nat)(c:Z24)(e:Z25)(b a:T):Z16:=
 ae (li m (re b)) λ n=>ae (li m (re a)) λ l=>ae (uL m n l) λ d=>let j1:Z16:=(ae (uL m (I b.kids) (I a.kids)) λ k=>
 e k 0 b.kind b.name b.sort b.kids a.kind a.name a.sort a.kids);let h:Z16:=(ae (uL m b.sort a.sort) λ i=>
 cond (ieq i 0) j1 (e i 0 b.kind b.name b.sort b.kids a.kind a.name a.sort a.kids));let j:Z16:=(ae (strings_Compare 0 b.name a.name) λ g=>
 cond (ieq g 0) h (cond (ieq g 0) j1 (e g 0 b.kind b.name b.sort b.kids a.kind a.name a.sort a.kids)));cond (ieq d 0) (ae (uL m b.kind a.kind) λ f=>
 cond (ieq f 0) j (cond (ieq f 0) h (cond (ieq f 0) j1 (e f 0 b.kind b.name b.sort b.kids a.kind a.name a.sort a.kids))))
 (cond (ieq d 0) j (cond (ieq d 0) h (cond (ieq d 0) j1 (e d 0 b.kind b.name b.sort b.kids a.kind a.name a.sort a.kids))))
def yK(m:Nat)(a:Z24)(p:Z25)(d b k:Int)(j:Y8)(i:Int)(c:TL)(h:Int)(g:Y8)(f:Int)(e:TL):Z16:=
 cond (ieq d 0) (cond (ilt b (I c)) (ae (av c b) λ o=>ae (av e b) λ n=>ae (a (re o) (re n)) λ l=>p l (iw .i64 (aD b 1)) k j i c h g f e) (Z d))
 (Z d)
def pO(m:Nat)(a:Z24):=bk (yK m a)
def dp:Nat->Z24:=bh λ m a=>CR m a (pO m a m)
def Jb(m:Nat)(c b:T):Z2:=
 ae (dp m (re c) (re b)) λ a=>Z (ieq a 0)
def pR:=bm Jb
def Jy(m:Nat)(a:T)(b:Y8):Z2:=
 cond (ieq a.kind 3) (Z (aT a.name b)) (Z Y)
def jn:=bm Jy
def IK(m:Nat)(b:T):Z27:=
 ae (av b.kids 0) λ a=>let j1:Z27:=(Z (re b));let j2:Z27:=(ae (av a.kids 0) λ K=>Z (re K));let j3:Z27:=(cond (aT b.name [114,101,97,100])
 (ae (jn m (re a) [115,105,103,110]) λ p=>cond p j2 j1) j1);let j4:Z27:=(ae (jn m (re a) [112,97,105,114]) λ G=>cond G (ae (av a.kids 1) λ F=>Z (re F)) j1);
 let B:Z27:=(ae (jn m (re a) [112,97,105,114]) λ L=>cond L j2 j1);cond (ilt 1 (I b.kids)) (ae (av b.kids 1) λ c=>
 cond (aT b.name [102,115,116]) B (cond (aT b.name [115,110,100]) j4 (cond (aT b.name [100,101,99]) (ae (jn m (re a) [101,110,99]) λ E=>cond E (ae (av a.kids 1) λ D=>
 ae (pR m (re D) (re c)) λ C=>cond C j2 j1) j1) (cond (aT b.name [97,100,101,99]) (ae (jn m (re a) [97,101,110,99]) λ A=>cond A (ae (av a.kids 1) λ z=>
 ae (jn m (re z) [112,107]) λ y=>cond y (ae (av a.kids 1) λ x=>ae (av x.kids 0) λ w=>ae (pR m (re w) (re c)) λ v=>cond v j2 j1) j1) j1)
 (cond (aT b.name [111,112,101,110]) (ae (jn m (re a) [115,105,103,110]) λ u=>cond u (ae (jn m (re c) [112,107]) λ t=>cond t (ae (av a.kids 1) λ s=>
 ae (av c.kids 0) λ r=>ae (pR m (re s) (re r)) λ q=>cond q j2 j1) j1) j1) j3)))))
 (cond (aT b.name [102,115,116]) B (cond (aT b.name [115,110,100]) j4 (cond (aT b.name [100,101,99]) (ae (jn m (re a) [101,110,99]) λ o=>cond o (ae (av a.kids 1) λ n=>
 ae (pR m (re n) (T.mk 0 [] 0 [])) λ l=>cond l j2 j1) j1) (cond (aT b.name [97,100,101,99]) (ae (jn m (re a) [97,101,110,99]) λ k=>
 cond k (ae (av a.kids 1) λ j=>ae (jn m (re j) [112,107]) λ i=>cond i (ae (av a.kids 1) λ h=>ae (av h.kids 0) λ g=>ae (pR m (re g)
 (T.mk 0 [] 0 [])) λ f=>cond f j2 j1) j1) j1) (cond (aT b.name [111,112,101,110]) (ae (jn m (re a) [115,105,103,110]) λ e=>
 cond e (ae (jn m (T.mk 0 [] 0 []) [112,107]) λ d=>cond d (ae (av a.kids 1) λ H=>U) j1) j1) j3)))))
def yN:=bm IK
def BC(m:Nat)(b:Z30)(c:Z31)(a:aa TL):Z29:=
 b a 0 a (I a) 0
def BB(m:Nat)(i:Z30)(h:Z31)(c:aa (TL))(b:Int)(e:aa (TL))(d a:Int):Z29:=
 cond (ilt a d) (ae (av e a) λ f=>cond (ilt (iw .i64 (aD b (I f))) 0) U (i c (iw .i64 (aD b (I f))) e d (iw .i64 (aD a 1)))) (ae (yC 0 b) λ g=>
 h c (I c) 0 g.2.1)
def BA(m:Nat)(g:Z30)(f:Z31)(d:aa (TL))(c b:Int)(a:TL):Z29:=
 cond (ilt b c) (ae (av d b) λ e=>cond (bM (I a+I e) 56) (f d c (iw .i64 (aD b 1)) (a++e)) U) (Z a)
def jS(m:Nat):=bk λ a=>(BB m a.1 a.2,BA m a.1 a.2)
def wA:Nat->((aa TL)->Z29):=bh λ m _=>BC m (jS m m).1 (jS m m).2
def D2(m:Nat)(d:Z22)(b c:TL):Z16:=
 cond (ilt 200 (I b)) (Z 3) (ae (wA m [b,c]) λ a=>d a (I a) 0)
def Eg(m:Nat)(f:Z22)(c:TL)(b a:Int):Z16:=
 cond (ilt a b) (ae (av c a) λ e=>ae (eQ m (re e)) λ d=>cond (au (ieq d 0)) (Z d) (f c b (iw .i64 (aD a 1)))) (Z 0)
def uA(m:Nat):=bk (Eg m)
def E0:Nat->(TL->TL->Z16):=bh λ m _=>D2 m (uA m m)
def Ez(m:Nat)(c:Z32)(b a:TL):Z29:=
 c b a []
def Ew(m:Nat)(d:Z32)(a b c:TL):Z29:=
 let f:Z29:=(cond (bM (I c+I a) 56) (cond (bM (I (c++a)+I b) 56) (Z ((c++a)++b)) U) U);cond (ilt 0 (I a)) (cond (ilt 0 (I b))
 (ae (av a 0) λ j=>ae (av b 0) λ i=>ae (dp m (re j) (re i)) λ e=>cond (ilt e 0) (ae (av a 0) λ h=>cond (bM (I c+1) 56) (cond (inb (I a) (I a))
 (cond (inb 1 (Int.toNat (I a))) (d (gA a 1 (I a)) b (c++[re h])) U) U) U) (cond (ilt 0 e) (ae (av b 0) λ g=>cond (bM (I c+1) 56) (cond (inb (I b) (I b))
 (cond (inb 1 (Int.toNat (I b))) (d a (gA b 1 (I b)) (c++[re g])) U) U) U) (cond (inb (I a) (I a)) (cond (inb 1 (Int.toNat (I a))) (cond (inb (I b) (I b))
 (cond (inb 1 (Int.toNat (I b))) (d (gA a 1 (I a)) (gA b 1 (I b)) c) U) U) U) U))) f) f
def uD(m:Nat):=bk (Ew m)
def Af:Nat->(TL->TL->Z29):=bh λ m _=>Ez m (uD m m)
def Cz(m:Nat)(a:Z33)(d:Z34)(b:T):Z29:=
 let c:Z29:=(cond (ieq b.kind 3) (cond (aT b.name [120,111,114]) (d [] b.kids (I b.kids) 0) (Z [re b])) (Z [re b]));cond (ieq b.kind 3) (cond (aT b.name [122,101,114,111])
 (cond (ieq (I b.kids) 0) (Z []) c) c) c
def CL(m:Nat)(a:Z33)(i:Z34)(e d:TL)(c b:Int):Z29:=
 cond (ilt b c) (ae (av d b) λ h=>ae (a (re h)) λ g=>ae (Af m e g) λ f=>i f d c (iw .i64 (aD b 1))) (Z e)
def rk(m:Nat)(a:Z33):=bk (CL m a)
def kY:Nat->Z33:=bh λ m a=>Cz m a (rk m a m)
def Dz(m:Nat)(a:Z28)(c:Z35)(b:T):Z27:=
 c b.kids (I b.kids) 0 b.kind b.name b.sort 0 [] 0 [] []
def DJ(m:Nat)(a:Z28)(p:Z35)(i:TL)(h c g:Int)(f:Y8)(e l:Int)(k:Y8)(j:Int)(b d:TL):Z27:=
 cond (ilt c h) (ae (av i c) λ o=>ae (a (re o)) λ n=>cond (bM (I b+1) 56) (p i h (iw .i64 (aD c 1)) g f e l k j (b++[re n]) d) U)
 (Z (T.mk g f e b))
def ul(m:Nat)(a:Z28):=bk (DJ m a)
def jY:Nat->Z28:=bh λ m a=>Dz m a (ul m a m)
def CP(m:Nat)(e:Z37)(d:T)(c:aa Int)(b:T):Z36:=
 ae (jY m (re d)) λ a=>e c (I c) 0 b.kind b.name b.sort b.kids 0 [] 0 a.kind a.name a.sort a.kids []
def IX(m:Nat)(t:Z37)(n:aa (Int))(l c g:Int)(f:Y8)(e:Int)(d:TL)(r:Int)(q:Y8)(p k:Int)(j:Y8)(i:Int)(a h:TL):Z36:=
 cond (ilt c l) (ae (av n c) λ b=>cond (ilt b 0) (Z (T.mk 0 [] 0 [],7)) (cond (ile (I a) b) (Z (T.mk 0 [] 0 [],7)) (ae (av a b) λ s=>U)))
 (ae (jY m (T.mk g f e d)) λ o=>Z (re o,0))
def wE(m:Nat):=bk (IX m)
def DN:Nat->(T->(aa Int)->T->Z36):=bh λ m _=>CP m (wE m m)
def ER(m:Nat)(a:Z38)(c:Z39)(b:TL):Z29:=
 cond (AM (I b) 56) (c b (I b) 0 (List.replicate (Int.toNat (I b)) (T.mk 0 [] 0 []):TL)) U
def EG(m:Nat)(b:Z38)(k:Z39)(h:TL)(g a:Int)(d:TL):Z29:=
 cond (ilt a g) (ae (av h a) λ f=>ae (DN m (re f) [] (re f)) λ e=>ae (av d a) λ l=>ae (b f.kids) λ j=>ae (av (cy d a (re e.1)) a) λ c=>
 cond (ieq (I f.kids) 0) (ae (av (cy (cy d a (re e.1)) a (T.mk c.kind c.name c.sort j)) a) λ i=>k h g (iw .i64 (aD a 1))
 (cy (cy (cy d a (re e.1)) a (T.mk c.kind c.name c.sort j)) a (T.mk i.kind i.name i.sort []))) (k h g (iw .i64 (aD a 1)) (cy (cy d a (re e.1)) a (T.mk c.kind c.name c.sort j))))
 (Z d)
def uO(m:Nat)(a:Z38):=bk (EG m a)
def lk:Nat->Z38:=bh λ m a=>ER m a (uO m a m)
def ED(m:Nat)(c:Z40)(a:TL):Z36:=
 ae (E0 m a []) λ b=>cond (au (ieq b 0)) (Z (T.mk 0 [] 0 [],b)) (c [] a (I a) 0 0 [] 0 [])
def EA(m:Nat)(r:Z40)(e d:TL)(c b j:Int)(i:Y8)(h:Int)(g:TL):Z36:=
 cond (ilt b c) (ae (av d b) λ q=>ae (kY m (re q)) λ p=>ae (Af m e p) λ o=>r o d c (iw .i64 (aD b 1)) j i h g) (ae (lk m e) λ a=>let j1:Z36:=
 (Z (T.mk 0 [] 0 [],3));cond (ieq (I a) 0) (ae (eQ m (T.mk 3 [122,101,114,111] 0 [])) λ n=>cond (au (ieq n 0)) j1 (Z (T.mk 3 [122,101,114,111] 0 [],0))) (cond (ieq (I a) 1)
 (ae (av a 0) λ f=>ae (eQ m (re f)) λ l=>cond (au (ieq l 0)) j1 (Z (re f,0))) (ae (eQ m (T.mk 3 [120,111,114] 0 a)) λ k=>
 cond (au (ieq k 0)) j1 (Z (T.mk 3 [120,111,114] 0 a,0)))))
def uJ(m:Nat):=bk (EA m)
def Gu:Nat->(TL->Z36):=bh λ m _=>ED m (uJ m m)
def IH(m:Nat)(a:T):Z2:=
 cond (ieq a.kind 3) (cond (aT a.name [109,117,108]) (Z O) (cond (aT a.name [105,110,118]) (Z O) (Z (aT a.name [111,110,101])))) (Z Y)
def yM:=bm IH
def B3(m:Nat)(a:Z28)(d:Z42)(b:T):Z27:=
 ae (wB 0 b.kids) λ c=>d (I c.2.1) 0 b.kind b.name b.sort 0 [] 0 c.2.1 []
def BY(m:Nat)(a:Z28)(o:Z42)(g b f:Int)(e:Y8)(d k:Int)(j:Y8)(i:Int)(c h:TL):Z27:=
 cond (ilt b g) (ae (av c b) λ n=>ae (a (re n)) λ l=>ae (av c b) λ p=>o g (iw .i64 (aD b 1)) f e d k j i (cy c b (re l)) h) (Z (T.mk f e d c))
def tM(m:Nat)(a:Z28):=bk (BY m a)
def jD:Nat->Z28:=bh λ m a=>B3 m a (tM m a m)
def Ix(m:Nat)(c:T×Int)(b:T):Z16:=
 ae (dp m (re c.1) (re b)) λ a=>Z a
def yI:=bm Ix
def Bu(m:Nat)(c:Z45)(b:aa (T×Int))(a:T):Z43:=
 c b (I b) 0 (I b) a.kind a.name a.sort a.kids
def Bt(m:Nat)(k:Z45)(g:aa (T×Int))(h a b f:Int)(e:Y8)(d:Int)(c:TL):Z43:=
 cond (ilt a b) (ae (av g (iw .i64 (qO .u64 (iw .u64 (iw .i64 (aD a b))) 1))) λ j=>ae (yI m (re j.1,j.2) (T.mk f e d c)) λ n=>cond (ilt n 0)
 (k g h (iw .i64 (aD (iw .i64 (qO .u64 (iw .u64 (iw .i64 (aD a b))) 1)) 1)) b f e d c) (k g h a (iw .i64 (qO .u64 (iw .u64 (iw .i64 (aD a b))) 1)) f e d c)) (cond (ilt a h)
 (ae (av g a) λ i=>ae (yI m (re i.1,i.2) (T.mk f e d c)) λ l=>Z (a,ieq l 0)) (Z (a,Y)))
def tx(m:Nat):=bk (Bt m)
def Bv:Nat->(Z44->T->Z43):=bh λ m _=>Bu m (tx m m)
def IC(m:Nat)(b:aa (T×Int))(c:T×Int):Z46:=
 ae (Bv m b (re c.1)) λ a=>cond (au a.2) (ae (jD m (re c.1)) λ i=>
 ae (wz 0 b a.1 [(re i,c.2)]) λ h=>Z ((()),(h.2.1,()))) (ae (av b a.1) λ e=>ae (av b a.1) λ d=>
 ae (av (cy b a.1 (re d.1,iw .i64 (aD e.2 c.2))) a.1) λ g=>cond (ieq g.2 0)
 (ae (wy 0 (cy b a.1 (re d.1,iw .i64 (aD e.2 c.2))) a.1 (iw .i64 (aD a.1 1))) λ f=>Z ((()),(f.2.1,())))
 (Z ((()),(cy b a.1 (re d.1,iw .i64 (aD e.2 c.2)),()))))
def yL:=bm IC
def BO(m:Nat)(a:Z48)(h:Z49)(e:aa (T×Int))(b:T)(d:Int):Z47:=
 ae (yM m (re b)) λ j=>cond (au j) (ae (yL m e (re b,d)) λ i=>Z ((()),(i.2.1,O,()))) (let c:Z47:=(Z ((()),([],Y,())));let j2:Z47:=
 (let g:Z47:=(let f:Z47:=(cond (aT b.name [105,110,118]) (h (iw .i64 (cr 0 d)) b.kids (I b.kids) 0 e) (h d b.kids (I b.kids) 0 e));cond (aT b.name [109,117,108])
 (cond (ilt (I b.kids) 2) c f) f);cond (aT b.name [105,110,118]) (cond (au (ieq (I b.kids) 1)) c g) g);cond (aT b.name [111,110,101]) (cond (au (ieq (I b.kids) 0)) c j2) j2)
def BR(m:Nat)(a:Z48)(i:Z49)(f:Int)(e:TL)(d b:Int)(c:aa (T×Int)):Z47:=
 cond (ilt b d) (ae (av e b) λ h=>ae (a c (re h) f) λ g=>cond (au g.2.2.1) (Z ((()),([],Y,()))) (i f e d (iw .i64 (aD b 1)) g.2.1))
 (Z ((()),(c,O,())))
def ra(m:Nat)(a:Z48):=bk (BR m a)
def kV:Nat->Z48:=bh λ m a=>BO m a (ra m a m)
def Jj(m:Nat)(c:T):Z50:=
 ae (eQ m (re c)) λ b=>cond (au (ieq b 0)) (Z ([],b)) (ae (kV m [] (re c) 1) λ a=>cond (au a.2.2.1) (Z ([],6)) (cond (ilt 200 (I a.2.1)) (Z ([],3))
 (Z (a.2.1,0))))
def uy:=bm Jj
def B1(m:Nat)(b:Z52)(a:aa (T×Int)):Z16:=
 cond (ilt 200 (I a)) (Z 3) (b a a (I a) 0)
def Cb(m:Nat)(g:Z52)(e d:aa (T×Int))(c a:Int):Z16:=
 cond (ilt a c) (ae (av d a) λ b=>ae (eQ m (re b.1)) λ f=>cond (au (ieq f 0)) (Z f) (ae (yM m (re b.1)) λ j=>cond j (Z 1) (cond (ieq b.2 0) (Z 7)
 (cond (ilt b.2 (-1000)) (Z 7) (cond (ilt 1000 b.2) (Z 7) (cond (ilt 0 a) (ae (av e (iw .i64 (cr a 1))) λ i=>ae (dp m (re i.1) (re b.1)) λ h=>cond (ile 0 h) (Z 5)
 (g e d c (iw .i64 (aD a 1)))) (g e d c (iw .i64 (aD a 1))))))))) (Z 0)
def rh(m:Nat):=bk (Cb m)
def wF:Nat->Z53:=bh λ m _=>B1 m (rh m m)
def qdv(m:Nat)(b:Y8)(a:TL):Z27:=
 Z (T.mk 3 b 0 a)
def yT:=bm qdv
def Cn(m:Nat)(c:Z55)(e d:Z56)(a:aa (T×Int)):Z36:=
 ae (wF m a) λ b=>cond (au (ieq b 0)) (Z (T.mk 0 [] 0 [],b)) (c a (I a) 0 0 [] 0 [] [] [])
def Cp(m:Nat)(v:Z55)(t u:Z56)(h:aa (T×Int))(g c s:Int)(r:Y8)(q:Int)(p f e:TL):Z36:=
 let d:Z36:=(Z (T.mk 0 [] 0 [],3));cond (ilt c g) (ae (av h c) λ a=>
 cond (ilt 8 a.2) d (cond (ilt a.2 (-8)) d (t h g c a.2 0 s r q a.1.kind a.1.name a.1.sort a.1.kids a.2 p f e))) (ae (wA m [f,e]) λ b=>
 cond (ilt 8 (I b)) d (ae (yT m [109,117,108] b) λ o=>cond (ieq (I b) 0) (ae (yT m [111,110,101] []) λ n=>ae (eQ m (re n)) λ l=>cond (au (ieq l 0))
 (Z (T.mk 0 [] 0 [],l)) (Z (re n,0))) (cond (ieq (I b) 1) (ae (av b 0) λ k=>ae (eQ m (re k)) λ j=>cond (au (ieq j 0)) (Z (T.mk 0 [] 0 [],j)) (Z (re k,0)))
 (ae (eQ m (re o)) λ i=>cond (au (ieq i 0)) (Z (T.mk 0 [] 0 [],i)) (Z (re o,0))))))
def Ch(m:Nat)(u:Z55)(t s:Z56)(q:aa (T×Int))(p o n l k:Int)(j:Y8)(i h:Int)(g:Y8)(d:Int)(c:TL)(b:Int)(f a e:TL):Z36:=
 cond (ilt l n) (ae (jD m (T.mk h g d c)) λ r=>cond (bM (I a+1) 56) (t q p o n (iw .i64 (aD l 1)) k j i h g d c b f (a++[re r]) e) U)
 (s q p o (iw .i64 (cr 0 b)) 0 k j i h g d c b f a e)
def Cf(m:Nat)(u:Z55)(v t:Z56)(q:aa (T×Int))(p o n l k:Int)(j:Y8)(i h:Int)(g:Y8)(e:Int)(d:TL)(f:Int)(c b a:TL):Z36:=
 cond (ilt l n) (ae (jD m (T.mk h g e d)) λ s=>ae (yT m [105,110,118] [re s]) λ r=>cond (bM (I a+1) 56)
 (t q p o n (iw .i64 (aD l 1)) k j i h g e d f c b (a++[re r])) U) (u q p (iw .i64 (aD o 1)) k j i c b a)
def fG(m:Nat):=bk λ a=>(Cp m a.1 a.2.1 a.2.2,Ch m a.1 a.2.1 a.2.2,Cf m a.1 a.2.1 a.2.2)
def rz:Nat->Z57:=bh λ m _=>Cn m (fG m m).1 (fG m m).2.1 (fG m m).2.2
def BX(m:Nat)(b:Z58)(a:aa (T×Int)):Z46:=
 b a (I a) 0 []
def BW(m:Nat)(g:Z58)(d:aa (T×Int))(c b:Int)(a:aa (T×Int)):Z46:=
 cond (ilt b c) (ae (av d b) λ e=>ae (jD m (re e.1)) λ f=>cond (bM (I a+1) 64) (g d c (iw .i64 (aD b 1)) (a++[(re f,e.2)])) U) (Z ((()),(a,())))
def tJ(m:Nat):=bk (BW m)
def Cy:Nat->(Z44->Z46):=bh λ m _=>BX m (tJ m m)
def Iv(m:Nat)(a:T×Int):Z2:=
 cond (ilt a.2 (-1000)) (Z O) (Z (ilt 1000 a.2))
def B9:=bm Iv
def Bw(m:Nat)(b:Z59)(a:aa (T×Int)):Z16:=
 b a (I a) 0
def yA(m:Nat)(f:Z59)(c:aa (T×Int))(b a:Int):Z16:=
 cond (ilt a b) (ae (av c a) λ d=>ae (B9 m (re d.1,d.2)) λ e=>cond e (Z a) (f c b (iw .i64 (aD a 1)))) (Z (-1))
def wu(m:Nat):=bk (yA m)
def Bz:Nat->Z53:=bh λ m _=>Bw m (wu m m)
def Ij(m:Nat)(b:aa (T×Int)):Z2:=
 ae (Bz m b) λ a=>Z (ile 0 a)
def Bx:=bm Ij
def IE(m:Nat)(a:aa (T×Int)):Z50:=
 ae (Bx m a) λ b=>cond b (Z ([],7)) (cond (ilt 200 (I a)) (Z ([],3)) (Z (a,0)))
def CI:=bm IE
def CO(m:Nat)(f:Z60)(d a:aa (T×Int)):Z50:=
 ae (wF m d) λ c=>cond (au (ieq c 0)) (Z ([],c)) (ae (wF m a) λ b=>cond (au (ieq b 0)) (Z ([],b)) (ae (Cy m d) λ e=>
 f a (I a) 0 e.2.1))
def CC(m:Nat)(h:Z60)(d:aa (T×Int))(c a:Int)(b:aa (T×Int)):Z50:=
 cond (ilt a c) (ae (av d a) λ e=>ae (yL m b (re e.1,e.2)) λ g=>h d c (iw .i64 (aD a 1)) g.2.1) (ae (CI m b) λ f=>Z f)
def tX(m:Nat):=bk (CC m)
def DU:Nat->Z61:=bh λ m _=>CO m (tX m m)
def qga(m:Nat)(b:Y8)(a:TL):Z27:=
 Z (T.mk 3 b 0 a)
def zf:=bm qga
def I2(m:Nat)(b l:T):Z36:=
 ae (uy m (re l)) λ a=>cond (au (ieq a.2 0)) (Z (T.mk 0 [] 0 [],a.2)) (ae (jn m (re b) [101,120,112]) λ k=>cond k (ae (av b.kids 1) λ j=>
 ae (uy m (re j)) λ f=>cond (au (ieq f.2 0)) (Z (T.mk 0 [] 0 [],f.2)) (ae (DU m f.1 a.1) λ c=>cond (au (ieq c.2 0)) (Z (T.mk 0 [] 0 [],c.2))
 (ae (av b.kids 0) λ h=>cond (ieq (I c.1) 0) (Z (re h,0)) (ae (rz m c.1) λ e=>cond (au (ieq e.2 0)) (Z (T.mk 0 [] 0 [],e.2))
 (ae (zf m [101,120,112] [re h,re e.1]) λ i=>Z (re i,0)))))) (cond (ieq (I a.1) 0) (Z (re b,0)) (ae (rz m a.1) λ d=>cond (au (ieq d.2 0))
 (Z (T.mk 0 [] 0 [],d.2)) (ae (zf m [101,120,112] [re b,re d.1]) λ g=>Z (re g,0)))))
def DY:=bm I2
def Cm(m:Nat)(a:Z63)(c:Z64)(b:T):Z36:=
 cond (au (ieq b.kind 3)) (Z (re b,0)) (c b.kids (I b.kids) 0 b.kind b.name b.sort b.kids 0 [] 0 3 b.name 0 [] [])
def Ck(m:Nat)(a:Z63)(C:Z64)(s:TL)(r k z:Int)(c:Y8)(y:Int)(x:TL)(w:Int)(v:Y8)(u f:Int)(e:Y8)(d:Int)(l b:TL):Z36:=
 cond (ilt k r) (ae (av s k) λ B=>ae (a (re B)) λ n=>cond (au (ieq n.2 0)) (Z (T.mk 0 [] 0 [],n.2)) (cond (bM (I b+1) 56)
 (C s r (iw .i64 (aD k 1)) z c y x w v u f e d l (b++[re n.1])) U)) (let h:Z36:=(ae (yN m (T.mk f e d b)) λ A=>Z (re A,0));
 cond (aT c [102,115,116]) h (cond (aT c [115,110,100]) h (cond (aT c [100,101,99]) h (cond (aT c [97,100,101,99]) h (cond (aT c [111,112,101,110]) h (cond (aT c [114,101,97,100]) h (cond (aT c [120,111,114])
 (ae (Gu m b) λ t=>Z (re t.1,t.2)) (let q:Z36:=(ae (uy m (T.mk f e d b)) λ g=>cond (au (ieq g.2 0)) (Z (T.mk 0 [] 0 [],g.2))
 (ae (rz m g.1) λ j=>Z (re j.1,j.2)));cond (aT c [109,117,108]) q (cond (aT c [105,110,118]) q (cond (aT c [111,110,101]) q (cond (aT c [101,120,112])
 (ae (av b 0) λ p=>ae (av b 1) λ o=>ae (DY m (re p) (re o)) λ i=>Z (re i.1,i.2)) (Z (T.mk f e d b,0)))))))))))))
def tO(m:Nat)(a:Z63):=bk (Ck m a)
def lP:Nat->Z63:=bh λ m a=>Cm m a (tO m a m)
def IT(m:Nat)(d:T):Z36:=
 ae (ug m (re d)) λ c=>cond (au (ieq c 0)) (Z (T.mk 0 [] 0 [],c)) (ae (lP m (re d)) λ a=>cond (ieq a.2 0) (ae (eQ m (re a.1)) λ b=>cond (au (ieq b 0))
 (Z (T.mk 0 [] 0 [],b)) (Z (re a.1,0))) (cond (au (ieq a.2 0)) (Z (T.mk 0 [] 0 [],a.2)) (Z (re a.1,0))))
def DB:=bm IT
def IJ(m:Nat)(b:Y8):Z2:=
 ae (wJ m b) λ a=>Z (au (ieq a.2.2.2 3))
def Df:=bm IJ
def BH(m:Nat)(a:Z41)(c:Z65)(b:T):Z2:=
 cond (ieq b.kind 3) (ae (Df m b.name) λ d=>cond (au d) (Z Y) (c b.kids (I b.kids) 0)) (c b.kids (I b.kids) 0)
def BG(m:Nat)(a:Z41)(g:Z65)(d:TL)(c b:Int):Z2:=
 cond (ilt b c) (ae (av d b) λ f=>ae (a (re f)) λ e=>cond (au e) (Z Y) (g d c (iw .i64 (aD b 1)))) (Z O)
def qZ(m:Nat)(a:Z41):=bk (BG m a)
def kU:Nat->Z41:=bh λ m a=>BH m a (qZ m a m)
def I5(m:Nat)(a:T):Z2:=
 ae (DB m (re a)) λ b=>cond (ieq b.2 0) (ae (pR m (re b.1) (re a)) λ d=>cond d (ae (kU m (re a)) λ c=>Z c) (Z Y)) (Z Y)
def yU:=bm I5
def II(m:Nat)(b:Y8):Z66:=
 ae (tD m (b,(0,Y))) λ a=>cond a.1.1.2.2 (Z (T.mk 0 [] 0 [],a.1.1.2.1,2)) (cond (au (ieq a.1.1.2.1 (I b))) (Z (T.mk 0 [] 0 [],a.1.1.2.1,2))
 (ae (eQ m (re a.2.1)) λ d=>cond (ieq d 3) (Z (T.mk 0 [] 0 [],0,3)) (ae (yU m (re a.2.1)) λ c=>cond (au c) (Z (T.mk 0 [] 0 [],0,10)) (Z (re a.2.1,0,0)))))
def wD:=bm II
def Ir(m:Nat)(c:T)(b:Int)(a:TL):Z67:=
 cond (ieq c.kind b) (cond (bM (I a+1) 56) (ae (av (a++[T.mk 0 [] 0 []]) (I a)) λ d=>Z ((b,cy (a++[T.mk 0 [] 0 []]) (I a) (re c),()),(()))) U)
 (Z ((b,a,()),(())))
def BL:=bm Ir
def BM(m:Nat)(a:Z68)(f:Z69)(d:T)(c:Int)(b:TL):Z67:=
 ae (BL m (re d) c b) λ e=>f d.kids (I d.kids) 0 e.1.1 e.1.2.1
def BK(m:Nat)(a:Z68)(i:Z69)(f:TL)(e b d:Int)(c:TL):Z67:=
 cond (ilt b e) (ae (av f b) λ h=>ae (a (re h) d c) λ g=>i f e (iw .i64 (aD b 1)) g.1.1 g.1.2.1) (Z ((d,c,()),(())))
def tF(m:Nat)(a:Z68):=bk (BK m a)
def lN:Nat->Z68:=bh λ m a=>BM m a (tF m a m)
def ww:Nat->TL->ac (TL):=bh λ m _=>qv (dp m)
def IL(m:Nat)(c b:T):Z2:=
 ae (dp m (re c) (re b)) λ a=>Z (ieq a 0)
def nW:=bm IL
def wv:Nat->TL->ac (Unit×TL×Unit):=bh λ m _=>AS (nW m)
def CT(m:Nat)(d:Z71)(c:TL):Z70:=
 ae (ww m c) λ b=>cond (Nat.beq (I b) (I c)) (ae (wv m b) λ a=>d (I a.2.1) 0 a.2.1) U
def CQ(m:Nat)(f:Z71)(c a:Int)(b:TL):Z70:=
 cond (ilt a c) (ae (av b a) λ e=>ae (jY m (re e)) λ d=>ae (av b a) λ g=>f c (iw .i64 (aD a 1)) (cy b a (re d))) (Z ((()),(b,())))
def tW(m:Nat):=bk (CQ m)
def Jx:Nat->(Z14->Z70):=bh λ m _=>CT m (tW m m)
def Jh(m:Nat)(d:T)(c:Int):Z29:=
 ae (lN m (re d) c []) λ b=>ae (Jx m b.1.2.1) λ a=>Z a.2.1
def JM:=bm Jh
def Jz(m:Nat)(b:T):Z29:=
 ae (JM m (re b) 1) λ a=>Z a
def zu:=bm Jz
def qaM(m:Nat)(b:Y8×(Int×Int))(a:T):Z72:=
 Z ((re a,()),(aT b.1 a.name,()))
def PE:=bm qaM
def Pu(m:Nat)(c:Z74)(b:aa (Y8×(Int×Int)))(a:T):Z73:=
 c b (I b) 0 a.kind a.name a.sort a.kids
def qaf(m:Nat)(j:Z74)(h:aa (Y8×(Int×Int)))(g b f:Int)(e:Y8)(d:Int)(c:TL):Z73:=
 cond (ilt b g) (ae (av h b) λ i=>ae (PE m i (T.mk f e d c)) λ a=>cond a.2.1 (Z ((re a.1.1,()),(b,())))
 (j h g (iw .i64 (aD b 1)) a.1.1.kind a.1.1.name a.1.1.sort a.1.1.kids)) (Z ((T.mk f e d c,()),((-1),())))
def Pv(m:Nat):=bk (qaf m)
def Px:Nat->((aa (Y8×(Int×Int)))->T->Z73):=bh λ m _=>Pu m (Pv m m)
def P6(m:Nat)(a:Z76)(e:Z77)(d:aa (Int))(c:T):Z75:=
 cond (au (ieq c.kind 3)) (cond (bM (I d+2) 1) (cond (bM (I (d++[iw .u8 c.sort,iw .u8 (I c.name)])+I (ln c.name)) 1)
 (Z ((()),((d++[iw .u8 c.sort,iw .u8 (I c.name)])++(ln c.name),()))) U) U) (ae (nV m) λ i=>
 ae (Px m i (re c)) λ b=>cond (bM (I d+1) 1) (ae (nV m) λ h=>ae (av h b.2.1) λ g=>
 ae (tC m g) λ f=>cond f (cond (bM (I (d++[iw .u8 (iw .i64 (aD 16 b.2.1))])+1) 1)
 (e b.1.1.kids (I b.1.1.kids) 0 ((d++[iw .u8 (iw .i64 (aD 16 b.2.1))])++[iw .u8 (I b.1.1.kids)])) U) (e b.1.1.kids (I b.1.1.kids) 0 (d++[iw .u8 (iw .i64 (aD 16 b.2.1))]))) U)
def qck(m:Nat)(a:Z76)(h:Z77)(e:TL)(d b:Int)(c:aa (Int)):Z75:=
 cond (ilt b d) (ae (av e b) λ g=>ae (a c (re g)) λ f=>h e d (iw .i64 (aD b 1)) f.2.1) (Z ((()),(c,())))
def Qi(m:Nat)(a:Z76):=bk (qck m a)
def Dk:Nat->Z76:=bh λ m a=>P6 m a (Qi m a m)
def qbV(m:Nat)(a:T):(ac ((Y8)×(Int))):=
 ae (ug m (re a)) λ b=>cond (au (ieq b 0)) (Z ([],b)) (ae (zu m (re a)) λ e=>cond (ilt 0 (I e)) (Z ([],13)) (ae (yU m (re a)) λ d=>cond (au d)
 (Z ([],10)) (ae (Dk m [] (re a)) λ c=>Z (gI c.2.1,0))))
def Qs:=bm qbV
def IN(m:Nat)(a:Y8):Z2:=
 cond (aT a [120,111,114]) (Z Y) (cond (aT a [122,101,114,111]) (Z Y) (cond (aT a [101,120,112]) (Z Y) (cond (aT a [109,117,108]) (Z Y) (cond (aT a [105,110,118])
 (Z Y) (cond (aT a [111,110,101]) (Z Y) (ae (wJ m a) λ b=>Z (au (ieq b.2.2.2 3))))))))
def DG:=bm IN
def BF(m:Nat)(a:Z41)(c:Z65)(b:T):Z2:=
 cond (ieq b.kind 3) (ae (DG m b.name) λ d=>cond (au d) (Z Y) (c b.kids (I b.kids) 0)) (c b.kids (I b.kids) 0)
def BE(m:Nat)(a:Z41)(g:Z65)(d:TL)(c b:Int):Z2:=
 cond (ilt b c) (ae (av d b) λ f=>ae (a (re f)) λ e=>cond (au e) (Z Y) (g d c (iw .i64 (aD b 1)))) (Z O)
def qY(m:Nat)(a:Z41):=bk (BE m a)
def kT:Nat->Z41:=bh λ m a=>BF m a (qY m a m)
def I9(m:Nat)(a:T):Z2:=
 ae (ug m (re a)) λ c=>cond (ieq c 0) (ae (kT m (re a)) λ b=>Z b) (Z Y)
def Et:=bm I9
def IB(m:Nat)(b:T):Z16:=
 ae (ug m (re b)) λ a=>cond (au (ieq a 0)) (Z a) (ae (Et m (re b)) λ c=>cond (au c) (Z 10) (Z 0))
def yJ:=bm IB
def BJ(m:Nat)(b:Z22)(a:TL):Z16:=
 cond (ilt 200 (I a)) (Z 3) (b a (I a) 0)
def BI(m:Nat)(f:Z22)(c:TL)(b a:Int):Z16:=
 cond (ilt a b) (ae (av c a) λ e=>ae (yJ m (re e)) λ d=>cond (au (ieq d 0)) (Z d) (f c b (iw .i64 (aD a 1)))) (Z 0)
def tG(m:Nat):=bk (BI m)
def Ca:Nat->(TL->Z16):=bh λ m _=>BJ m (tG m m)
def CH(m:Nat)(a:Z79)(d:Z80)(e:Z81)(c:aa (T×T))(b:T):Z27:=
 d c c (I c) 0 b.kind b.name b.sort b.kids 0 [] 0 []
def Cv(m:Nat)(a:Z79)(r:Z80)(q:Z81)(n l:aa (T×T))(k h g:Int)(f:Y8)(e:Int)(d:TL)(j:Int)(i:Y8)(c:Int)(b:TL):Z27:=
 cond (ilt h k) (ae (av l h) λ o=>ae (dp m (re o.1) (T.mk g f e d)) λ p=>cond (ieq p 0) (Z (re o.2)) (r n l k (iw .i64 (aD h 1)) g f e d j i c b))
 (q n d (I d) 0 j i c g f e b [])
def CS(m:Nat)(a:Z79)(r:Z80)(q:Z81)(j:aa (T×T))(i:TL)(h c n:Int)(l:Y8)(k g:Int)(f:Y8)(e:Int)(d b:TL):Z27:=
 cond (ilt c h) (ae (av i c) λ p=>ae (a j (re p)) λ o=>cond (bM (I b+1) 56) (q j i h (iw .i64 (aD c 1)) n l k g f e d (b++[re o])) U)
 (Z (T.mk g f e b))
def jU(m:Nat)(a:Z79):=bk λ b=>(Cv m a b.1 b.2,CS m a b.1 b.2)
def gm:Nat->Z79:=bh λ m a=>CH m a (jU m a m).1 (jU m a m).2
def wC(m:Nat)(b:Z83)(g:Z84)(a:T)(e:Y8)(c:aa (Y8×Y8)):Z82:=
 cond (ieq a.kind 1) (ae (strconv_Itoa 0 a.sort) λ d=>cond (nl d a.name) (cond (aT (cX (veq .str) [] c (d++a.name)) []) (ae (strconv_Itoa 0 (I c)) λ f=>cond (nl e f)
 (g e a.kids (I a.kids) 0 (fQ (veq .str) c (d++a.name) (e++f)) 0 [] 0 a.kind (cX (veq .str) [] (fQ (veq .str) c (d++a.name) (e++f)) (d++a.name)) a.sort [] []) U)
 (g e a.kids (I a.kids) 0 c 0 [] 0 a.kind (cX (veq .str) [] c (d++a.name)) a.sort [] [])) U) (g e a.kids (I a.kids) 0 c 0 [] 0 a.kind a.name a.sort [] [])
def B5(m:Nat)(a:Z83)(r:Z84)(k:Y8)(j:TL)(i d:Int)(h:aa (Y8×Y8))(p:Int)(o:Y8)(n g:Int)(f:Y8)(c:Int)(e b:TL):Z82:=
 cond (ilt d i) (ae (av j d) λ q=>ae (a (re q) k h) λ l=>cond (bM (I b+1) 56)
 (r k j i (iw .i64 (aD d 1)) l.1.1 p o n g f c e (b++[re l.2.1])) U) (Z ((h,()),(T.mk g f c b,())))
def rc(m:Nat)(a:Z83):=bk (B5 m a)
def jV:Nat->Z83:=bh λ m a=>wC m a (rc m a m)
def C0(m:Nat)(d c:T):Z16:=
 ae (eQ m (re d)) λ a=>cond (au (ieq a 0)) (Z a) (ae (eQ m (re c)) λ b=>Z b)
def Er:=bm C0
def Jr(m:Nat)(c b:T):Z2:=
 ae (dp m (re c) (re b)) λ a=>Z (ieq a 0)
def pV:=bm Jr
def qeG(m:Nat)(a:T):Z2:=
 Z (ieq a.kind 1)
def rD:=bm qeG
def Jm(m:Nat)(a b:T):Z2:=
 ae (eQ m (re a)) λ d=>cond (au (ieq d 0)) (Z Y) (ae (eQ m (re b)) λ c=>cond (au (ieq c 0)) (Z Y) (cond (au (ieq a.kind 1)) (Z Y) (cond (ieq a.sort 0)
 (Z O) (cond (au (ieq b.kind 3)) (Z (ieq b.sort a.sort)) (Z Y)))))
def uF:=bm Jm
def Jd(m:Nat)(b a:T):Z2:=
 cond (ieq b.kind 3) (cond (ieq a.kind 3) (cond (aT b.name a.name) (Z (ieq (I b.kids) (I a.kids))) (Z Y)) (Z Y)) (Z Y)
def yZ:=bm Jd
def qhd(m:Nat)(a:T):(ac (Y8×Int)):=
 Z (a.name,a.sort)
def rG:=bm qhd
def DZ(m:Nat)(b:Z87)(f:Z88)(c:aa ((Y8×Int)×T))(a:T):Z86:=
 ae (rD m (re a)) λ e=>cond e (ae (rG m (re a)) λ d=>cond (lE (veq (.pair .str (.int .i64))) c d) (Z ((c,()),(re (cX (veq (.pair .str (.int .i64)))
 (T.mk 0 [] 0 []) c d),()))) (Z ((c,()),(re a,())))) (cond (ieq (I a.kids) 0) (Z ((c,()),(re a,()))) (cond (AM (I a.kids) 56)
 (f a.kids (I a.kids) 0 c a.kind a.name a.sort a.kids 0 [] 0 [] (List.replicate (Int.toNat (I a.kids)) (T.mk 0 [] 0 []):TL)) U))
def DT(m:Nat)(a:Z87)(r:Z88)(k:TL)(j c:Int)(i:aa ((Y8×Int)×T))(h:Int)(g:Y8)(f:Int)(p:TL)(o:Int)(n:Y8)(e:Int)(d b:TL):Z86:=
 cond (ilt c j) (ae (av k c) λ q=>ae (a i (re q)) λ l=>ae (av b c) λ s=>r k j (iw .i64 (aD c 1)) l.1.1 h g f p o n e d (cy b c (re l.2.1)))
 (Z ((i,()),(T.mk h g f b,())))
def uw(m:Nat)(a:Z87):=bk (DT m a)
def jm:Nat->Z87:=bh λ m a=>DZ m a (uw m a m)
def BS(m:Nat)(f g:Z90)(c:(aa (T×T))×(aa (T×T))×Unit)(b a:T):Z89:=
 ae (rG m (re b)) λ e=>ae (wx 0 c.1) λ d=>
 f (I d.2.1) 0 c.1 b.kind b.name b.sort b.kids a.kind a.name a.sort a.kids O (fQ (veq (.pair .str (.int .i64))) ([]:aa ((Y8×Int)×T)) e (re a)) c.2.1 d.2.1
def BT(m:Nat)(v B:Z90)(t a:Int)(s:aa (T×T))(r:Int)(q:Y8)(p:Int)(o:TL)(n:Int)(l:Y8)(k:Int)(d:TL)(h:Bool)(g:aa ((Y8×Int)×T))(c b:aa (T×T)):Z89:=
 cond (ilt a t) (ae (av b a) λ f=>ae (jm m g (re f.1)) λ e=>cond h (ae (av (cy b a (re e.2.1,re f.2)) a) λ A=>ae (eQ m (re A.1)) λ z=>
 ae (av (cy b a (re e.2.1,re f.2)) a) λ u=>ae (jm m e.1.1 (re u.2)) λ i=>cond (ieq z 0) (ae (av (cy (cy b a (re e.2.1,re f.2)) a (re u.1,re i.2.1)) a) λ y=>
 ae (eQ m (re y.2)) λ x=>v t (iw .i64 (aD a 1)) s r q p o n l k d (ieq x 0) i.1.1 c (cy (cy b a (re e.2.1,re f.2)) a (re u.1,re i.2.1)))
 (v t (iw .i64 (aD a 1)) s r q p o n l k d Y i.1.1 c (cy (cy b a (re e.2.1,re f.2)) a (re u.1,re i.2.1)))) (ae (av (cy b a (re e.2.1,re f.2)) a) λ w=>
 ae (jm m e.1.1 (re w.2)) λ j=>v t (iw .i64 (aD a 1)) s r q p o n l k d Y j.1.1 c (cy (cy b a (re e.2.1,re f.2)) a (re w.1,re j.2.1))))
 (B (I c) 0 s r q p o n l k d h g c b)
def BP(m:Nat)(v s:Z90)(q d:Int)(r:aa (T×T))(n:Int)(l:Y8)(k:Int)(j:TL)(i:Int)(h:Y8)(g:Int)(c:TL)(e:Bool)(p:aa ((Y8×Int)×T))(a b:aa (T×T)):Z89:=
 cond (ilt d q) (ae (av a d) λ o=>ae (jm m p (re o.2)) λ f=>cond e (ae (av (cy a d (re o.1,re f.2.1)) d) λ u=>ae (eQ m (re u.2)) λ t=>
 s q (iw .i64 (aD d 1)) r n l k j i h g c (ieq t 0) f.1.1 (cy a d (re o.1,re f.2.1)) b)
 (s q (iw .i64 (aD d 1)) r n l k j i h g c Y f.1.1 (cy a d (re o.1,re f.2.1)) b)) (cond (bM (I a+1) 112) (cond (au e)
 (Z (((b,a++[(T.mk n l k j,T.mk i h g c)],()),()),(3,()))) (Z (((b,a++[(T.mk n l k j,T.mk i h g c)],()),()),(0,())))) U)
def jC(m:Nat):=bk λ a=>(BT m a.1 a.2,BP m a.1 a.2)
def pN:Nat->Z92:=bh λ m _=>BS m (jC m m).1 (jC m m).2
def IG(m:Nat)(a:(aa (T×T))×(aa (T×T))×Unit)(c b:T):Z89:=
 let f:Z89:=(ae (pN m (a.1,a.2.1,()) (re c) (re b)) λ d=>Z (((d.1.1.1,d.1.1.2.1,()),()),(d.2.1,())));let j2:Z89:=(ae (pN m (a.1,a.2.1,()) (re b)
 (re c)) λ e=>Z (((e.1.1.1,e.1.1.2.1,()),()),(e.2.1,())));cond (ieq c.sort b.sort) (ae (dp m (re c) (re b)) λ g=>cond (ilt g 0) j2 f)
 (cond (ieq b.sort 0) j2 (cond (au (ieq c.sort 0)) (Z (((a.1,a.2.1,()),()),(11,()))) f))
def IZ:=bm IG
def I1(m:Nat)(d:Z26)(a:Z93)(c:Z94)(b:Z95)(f e:T):Z2:=
 ae (pV m (re f) (re e)) λ h=>cond h (Z O) (ae (a e.kids (re f)) λ g=>Z g.2.1)
def Ik(m:Nat)(d:Z26)(b:Z93)(c:Z94)(a:Z95)(g:TL)(e:T):Z72:=
 ae (a g (re e)) λ f=>Z ((re f.1.1,()),(ile 0 f.2.1,()))
def Iu(m:Nat)(c:Z26)(a:Z93)(d:Z94)(b:Z95)(g e:T):Z72:=
 ae (c (re e) (re g)) λ f=>Z ((re e,()),(f,()))
def By(m:Nat)(e:Z26)(a:Z93)(c:Z94)(b:Z95)(g:Z96)(f:TL)(d:T):Z73:=
 g f (I f) 0 d.kind d.name d.sort d.kids
def yB(m:Nat)(d:Z26)(a:Z93)(c:Z94)(b:Z95)(o:Z96)(l:TL)(k f j:Int)(i:Y8)(h:Int)(g:TL):Z73:=
 cond (ilt f k) (ae (av l f) λ n=>ae (c (re n) (T.mk j i h g)) λ e=>cond e.2.1 (Z ((re e.1.1,()),(f,())))
 (o l k (iw .i64 (aD f 1)) e.1.1.kind e.1.1.name e.1.1.sort e.1.1.kids)) (Z ((T.mk j i h g,()),((-1),())))
def tz(m:Nat)(d:Z26)(a:Z93)(c:Z94)(b:Z95):=bk (yB m d a c b)
def Ci:Nat->(Z26)×(Z93)×(Z94)×(Z95):=bh λ m q=>(I1 m q.1 q.2.1 q.2.2.1 q.2.2.2,Ik m q.1 q.2.1 q.2.2.1 q.2.2.2,Iu m q.1 q.2.1 q.2.2.1 q.2.2.2,By m q.1 q.2.1 q.2.2.1 q.2.2.2 (tz m q.1 q.2.1 q.2.2.1 q.2.2.2 m))
def iR:Nat->Z26:=λ k=>(Ci k).1
def kR:Nat->Z93:=λ k=>(Ci k).2.1
def jT:Nat->Z94:=λ k=>(Ci k).2.2.1
def kS:Nat->Z95:=λ k=>(Ci k).2.2.2
def BU(m:Nat)(r:Z97)(a:(aa (T×T))×(aa (T×T))×Unit):Z89:=
 ae (av a.1 0) λ b=>ae (av a.1 0) λ c=>cond (inb (I a.1) (I a.1)) (cond (inb 1 (Int.toNat (I a.1))) (ae (pV m (re b.1) (re c.2)) λ q=>
 cond q (Z (((gA a.1 1 (I a.1),a.2.1,()),()),(0,()))) (ae (yZ m (re b.1) (re c.2)) λ p=>
 cond p (r (I b.1.kids) 0 (gA a.1 1 (I a.1)) b.1.kind b.1.name b.1.sort b.1.kids c.2.kind c.2.name c.2.sort c.2.kids a.2.1 []) (ae (rD m (re b.1)) λ o=>let j1:Z89:=
 (ae (rD m (re c.2)) λ l=>let j2:Z89:=(Z (((gA a.1 1 (I a.1),a.2.1,()),()),(11,())));cond l (ae (uF m (re c.2) (re b.1)) λ k=>
 cond (au k) j2 (ae (iR m (re c.2) (re b.1)) λ j=>cond j (Z (((gA a.1 1 (I a.1),a.2.1,()),()),(12,()))) (ae (pN m (gA a.1 1 (I a.1),a.2.1,()) (re c.2)
 (re b.1)) λ e=>Z (((e.1.1.1,e.1.1.2.1,()),()),(e.2.1,()))))) (ae (rD m (re b.1)) λ i=>cond (au i) j2 (ae (uF m (re b.1) (re c.2)) λ h=>
 cond (au h) j2 (ae (iR m (re b.1) (re c.2)) λ g=>cond g (Z (((gA a.1 1 (I a.1),a.2.1,()),()),(12,()))) (ae (pN m (gA a.1 1 (I a.1),a.2.1,())
 (re b.1) (re c.2)) λ d=>Z (((d.1.1.1,d.1.1.2.1,()),()),(d.2.1,())))))));cond o (ae (rD m (re c.2)) λ n=>cond n (ae (IZ m (gA a.1 1 (I a.1),a.2.1,())
 (re b.1) (re c.2)) λ f=>Z (((f.1.1.1,f.1.1.2.1,()),()),(f.2.1,()))) j1) j1))) U) U
def BQ(m:Nat)(q:Z97)(g d:Int)(e:aa (T×T))(n:Int)(l:Y8)(k:Int)(f:TL)(j:Int)(i:Y8)(h:Int)(c:TL)(b a:aa (T×T)):Z89:=
 cond (ilt d g) (ae (av f d) λ p=>ae (av c d) λ o=>cond (bM (I a+1) 112) (q g (iw .i64 (aD d 1)) e n l k f j i h c b (a++[(re p,re o)])) U)
 (cond (bM (I a+I e) 112) (Z (((a++e,b,()),()),(0,()))) U)
def tH(m:Nat):=bk (BQ m)
def Cj:Nat->(Z91->Z89):=bh λ m _=>BU m (tH m m)
def Iw(m:Nat)(c b:T×T):Z16:=
 ae (dp m (re c.1) (re b.1)) λ a=>Z a
def lM:=bm Iw
def wo:Nat->aa (T×T)->ac (aa (T×T)):=bh λ m _=>qv (lM m)
def ID(m:Nat)(b:aa (T×T)):Z98:=
 ae (wo m b) λ a=>cond (Nat.beq (I a) (I b)) (Z ((()),(a,()))) U
def CJ:=bm ID
def CX(m:Nat)(b:Yu)(a:aa (T×T)):Z99:=
 b a []
def yO(m:Nat)(e:Yu)(c b:aa (T×T)):Z99:=
 cond (ilt 0 (I c)) (ae (Cj m (c,b,())) λ a=>cond (au (ieq a.2.1 0)) (Z ([],a.2.1)) (e a.1.1.1 a.1.1.2.1)) (ae (CJ m b) λ d=>Z (d.2.1,0))
def mP(m:Nat):=bk (yO m)
def JG:Nat->(Z78->Z99):=bh λ m _=>CX m (mP m m)
def I6(m:Nat)(c b:T):Z99:=
 ae (Er m (re c) (re b)) λ a=>cond (au (ieq a 0)) (Z ([],a)) (ae (JG m [(re c,re b)]) λ d=>Z d)
def Eo:=bm I6
def BN(m:Nat)(c:OE)(d:N5)(a:TL):ym:=
 ae (Ca m a) λ b=>cond (au (ieq b 0)) (Z (0,0,T.mk 0 [] 0 [],b)) (c a (I a) 0 0 [] 0 [])
def yF(m:Nat)(k:OE)(j:N5)(d:TL)(c a h:Int)(g:Y8)(f:Int)(e:TL):ym:=
 cond (ilt a c) (ae (av d a) λ i=>ae (jV m (re i) [97] []) λ b=>j d a (iw .i64 (aD a 1)) c a h g f b.2.1.kind b.2.1.name b.2.1.sort b.2.1.kids e)
 (Z (0,0,T.mk 0 [] 0 [],15))
def yH(m:Nat)(u:OE)(q:N5)(e:TL)(n d l k j:Int)(i:Y8)(h g:Int)(f:Y8)(b:Int)(a c:TL):ym:=
 cond (ilt d (I e)) (ae (av e d) λ t=>ae (jV m (re t) [98] []) λ s=>ae (Eo m (T.mk g f b a) (re s.2.1)) λ p=>cond (au (ieq p.2 0))
 (q e n (iw .i64 (aD d 1)) l k j i h g f b a c) (ae (gm m p.1 (T.mk g f b a)) λ o=>ae (eQ m (re o)) λ r=>cond (ieq r 0) (Z (n,d,re o,0))
 (q e n (iw .i64 (aD d 1)) l k j i h g f b a c))) (u e l (iw .i64 (aD k 1)) j i h c)
def jl(m:Nat):=bk λ a=>(yF m a.1 a.2,yH m a.1 a.2)
def tI:Nat->(TL->ym):=bh λ m _=>BN m (jl m m).1 (jl m m).2
def JD(m:Nat)(b:Y8)(a:TL):Z27:=
 cond (bM (I ([]:TL)+I a) 56) (qB a (Z (T.mk 3 b 0 [])) λ d c=>Z (T.mk 3 b 0 ([]++(d::c)))) U
def iz:=bm JD
def qfZ(m:Nat)(b:Y8)(a:Int):Z27:=
 Z (T.mk 2 b a [])
def EM:=bm qfZ
def qgT(m:Nat)(b:Y8)(a:Int):Z27:=
 Z (T.mk 1 b a [])
def FD:=bm qgT
def qeP(m:Nat):Z2:=
 ae (EM m [97] 1) λ r=>ae (iz m [122,101,114,111] []) λ q=>ae (iz m [112,97,105,114] [re r,re q]) λ p=>ae (FD m [120] 0) λ n=>
 ae (FD m [121] 0) λ l=>ae (Qs m (re p)) λ k=>ae (wD m [16,1,1,97]) λ j=>ae (wD m [16,1,0]) λ i=>ae (EM m [110] 2) λ o=>
 ae (iz m [112,97,105,114] [re n,re o]) λ h=>ae (EM m [107] 3) λ g=>ae (iz m [112,97,105,114] [re g,re l]) λ f=>
 ae (tI m [re h,re f]) λ b=>ae (FD m [120] 2) λ e=>ae (iz m [112,97,105,114] [re n,re l]) λ d=>ae (tI m [re e,re d]) λ c=>
 let a:Z2:=(Z Y);cond (aT k.1 [16,1,1,97,23]) (cond (ieq k.2 0) (cond (ieq j.2.1 4) (cond (ieq j.2.2 2) (cond (ieq i.2.1 2) (cond (ieq i.2.2 2) (cond (ieq b.1 0) (cond (ieq b.2.1 1)
 (cond (ieq b.2.2.2 0) (Z (ieq c.2.2.2 15)) a) a) a) a) a) a) a) a) a
def wQ:=bm qeP
def CW(m:Nat)(a:HO)(d:yk)(b:T)(c:Int):Z16:=
 cond (ile c 0) (Z (-1)) (cond (ilt 40 (I b.name)) (Z (-1)) (d (iw .i64 (cr c 1)) 0 b.kind b.name b.sort b.kids))
def Cu(m:Nat)(a:HO)(j:yk)(d c h:Int)(g:Y8)(f:Int)(b:TL):Z16:=
 cond (ilt c (I b)) (ae (av b c) λ i=>ae (a (re i) d) λ e=>cond (ilt e 0) (Z (-1)) (j e (iw .i64 (aD c 1)) h g f b)) (Z d)
def tU(m:Nat)(a:HO):=bk (Cu m a)
def lR:Nat->HO:=bh λ m a=>CW m a (tU m a m)
def D7(m:Nat)(d:Z65)(a:TL)(c b:Int):Z2:=
 cond (ilt c (I a)) (Z Y) (d a b 0)
def D1(m:Nat)(f:Z65)(b:TL)(d a:Int):Z2:=
 cond (ilt a (I b)) (ae (av b a) λ e=>ae (lR m (re e) d) λ c=>cond (ilt c 0) (Z Y) (f b c (iw .i64 (aD a 1)))) (Z O)
def uB(m:Nat):=bk (D1 m)
def Fs:Nat->(TL->Int->Int->Z2):=bh λ m _=>D7 m (uB m m)
def JE(m:Nat)(b:TL):Z2:=
 ae (Fs m b 20 450) λ a=>Z a
def Ft:=bm JE
def DD(m:Nat)(a:Z17)(c:yk)(b:T):Z16:=
 c 1 0 b.kind b.name b.sort b.kids
def DC(m:Nat)(a:Z17)(j:yk)(d c g:Int)(f:Y8)(e:Int)(b:TL):Z16:=
 cond (ilt c (I b)) (ae (av b c) λ i=>ae (a (re i)) λ h=>j (iw .i64 (aD d h)) (iw .i64 (aD c 1)) g f e b) (Z d)
def ui(m:Nat)(a:Z17):=bk (DC m a)
def jX:Nat->Z17:=bh λ m a=>DD m a (ui m a m)
def C6(m:Nat)(a:Z17)(c:yk)(b:T):Z16:=
 c 0 0 b.kind b.name b.sort b.kids
def C9(m:Nat)(a:Z17)(j:yk)(d c g:Int)(f:Y8)(e:Int)(b:TL):Z16:=
 cond (ilt c (I b)) (ae (av b c) λ i=>ae (a (re i)) λ h=>j (pw d h) (iw .i64 (aD c 1)) g f e b) (Z (iw .i64 (aD d 1)))
def ue(m:Nat)(a:Z17):=bk (C9 m a)
def lU:Nat->Z17:=bh λ m a=>C6 m a (ue m a m)
def IV(m:Nat)(a:Int):Z2:=
 let b:Z2:=(cond (ile 65 a) (Z (ile a 90)) (Z Y));cond (ile 97 a) (cond (ile a 122) (Z O) b) b
def yS:=bm IV
def I7(m:Nat)(a:Int):Z2:=
 cond (ile 48 a) (Z (ile a 57)) (Z Y)
def Ey:=bm I7
def CG(m:Nat)(d:Zl)(a:Y8):Z2:=
 cond (ieq (I a) 0) (Z Y) (cond (ilt 24 (I a)) (Z Y) (ae (av a 0) λ c=>ae (yS m ((UInt8.toNat c:Nat):Int)) λ b=>cond (au b) (Z Y) (d a 0)))
def Cw(m:Nat)(i:Zl)(b:Y8)(a:Int):Z2:=
 cond (ilt a (I b)) (ae (av b a) λ h=>ae (yS m ((UInt8.toNat h:Nat):Int)) λ g=>let j1:Z2:=(i b (iw .i64 (aD a 1)));cond (au g) (ae (av b a) λ f=>
 ae (Ey m ((UInt8.toNat f:Nat):Int)) λ e=>cond (au e) (ae (av b a) λ d=>cond (au (ieq ((UInt8.toNat d:Nat):Int) 95)) (ae (av b a) λ c=>
 cond (au (ieq ((UInt8.toNat c:Nat):Int) 35)) (Z Y) j1) j1) j1) j1) (Z O)
def tT(m:Nat):=bk (Cw m)
def wL:Nat->Z11:=bh λ m _=>CG m (tT m m)
def Jp(m:Nat)(a:T):Z16:=
 let d:Z16:=(ae (wL m a.name) λ e=>cond (au e) (Z 2) (cond (ilt 8 (I a.kids)) (Z 3) (Z 0)));let j2:Z16:=(cond (ilt 0 (I a.kids)) (Z 1) d);cond (ieq a.kind 1)
 (cond (ilt a.sort 0) (Z 1) (cond (ilt 5 a.sort) (Z 1) j2)) (let c:Z16:=(cond (ilt a.sort 0) (Z 1) (cond (ilt 5 a.sort) (Z 1) (let b:Z16:=(cond (ieq a.kind 2) j2 d);
 cond (au (ieq a.kind 2)) (cond (au (ieq a.sort 0)) (Z 1) b) b)));cond (au (ieq a.kind 2)) (cond (au (ieq a.kind 3)) (Z 1) c) c)
def EY:=bm Jp
def C7(m:Nat)(a:Z17)(d:Hx)(b:T):Z16:=
 ae (EY m (re b)) λ c=>cond (au (ieq c 0)) (Z c) (d 0 b.kind b.name b.sort b.kids)
def C1(m:Nat)(a:Z17)(i:Hx)(c g:Int)(f:Y8)(e:Int)(b:TL):Z16:=
 cond (ilt c (I b)) (ae (av b c) λ h=>ae (a (re h)) λ d=>cond (au (ieq d 0)) (Z d) (i (iw .i64 (aD c 1)) g f e b)) (Z 0)
def ua(m:Nat)(a:Z17):=bk (C1 m a)
def lT:Nat->Z17:=bh λ m a=>C7 m a (ua m a m)
def Jk(m:Nat)(a:T):Z16:=
 ae (lT m (re a)) λ b=>cond (au (ieq b 0)) (Z b) (ae (jX m (re a)) λ d=>cond (ilt 400 d) (Z 3) (ae (lU m (re a)) λ c=>cond (ilt 40 c) (Z 3) (Z 0)))
def lh:=bm Jk
def qcN(m:Nat):qoJ:=
 Z [([112,97,105,114],(2,(2,1))),([101,110,99],(2,(2,1))),([97,101,110,99],(2,(2,1))),([112,107],(1,(1,1))),([115,105,103,110],(2,(2,1))),([104,97,115,104],(1,(1,1))),([120,111,114],(2,(8,1))),([122,101,114,111],(0,(0,1))),([101,120,112],(2,(2,1))),([109,117,108],(2,(8,1))),([105,110,118],(1,(1,1))),([111,110,101],(0,(0,1))),([115,107],(1,(1,2))),([115,104,107],(2,(2,2))),([110,101,119],(1,(8,2))),([102,115,116],(1,(1,3))),([115,110,100],(1,(1,3))),([100,101,99],(2,(2,3))),([97,100,101,99],(2,(2,3))),([111,112,101,110],(2,(2,3))),([114,101,97,100],(1,(1,3)))]
def Jl:=bm qcN
def Dy(m:Nat)(c:YA)(b:Y8):Z16:=
 ae (Jl m) λ a=>c b a 0
def Dt(m:Nat)(f:YA)(c:Y8)(b:aa (Y8×(Int×(Int×Int))))(a:Int):Z16:=
 cond (ilt a (I b)) (ae (av b a) λ e=>cond (aT e.1 c) (ae (av b a) λ d=>Z d.2.2.2) (f c b (iw .i64 (aD a 1)))) (Z 0)
def um(m:Nat):=bk (Dt m)
def uE:Nat->(Y8->Z16):=bh λ m _=>Dy m (um m m)
def DH(m:Nat)(c:YR)(a:T):Z2:=
 ae (Jl m) λ b=>c b 0 a.kind a.name a.sort a.kids
def Dr(m:Nat)(j:YR)(b:aa (Y8×(Int×(Int×Int))))(a f:Int)(d:Y8)(e:Int)(c:TL):Z2:=
 cond (ilt a (I b)) (ae (av b a) λ i=>cond (aT i.1 d) (ae (av b a) λ h=>cond (ile h.2.1 (I c)) (ae (av b a) λ g=>Z (ile (I c) g.2.2.1)) (Z Y))
 (j b (iw .i64 (aD a 1)) f d e c)) (Z Y)
def uj(m:Nat):=bk (Dr m)
def EB:Nat->Z41:=bh λ m _=>DH m (uj m m)
def CD(m:Nat)(c:Zw)(a:T):Z2:=
 cond (aT a.name [110,101,119]) (ae (av a.kids 0) λ b=>Z (ieq b.kind 2)) (c 0 a.kind a.name a.sort a.kids)
def CB(m:Nat)(h:Zw)(b e:Int)(d:Y8)(c:Int)(a:TL):Z2:=
 cond (ilt b (I a)) (ae (av a b) λ g=>cond (ieq g.kind 3) (Z Y) (ae (av a b) λ f=>cond (au (ieq f.sort 1)) (Z Y) (h (iw .i64 (aD b 1)) e d c a))) (Z O)
def tY(m:Nat):=bk (CB m)
def DL:Nat->Z41:=bh λ m _=>CD m (tY m m)
def Dj(m:Nat)(b:Z17)(d:Hx)(a:T):Z16:=
 cond (au (ieq a.kind 3)) (Z 0) (ae (uE m a.name) λ c=>cond (ieq c 0) (Z 10) (ae (EB m (re a)) λ f=>cond (au f) (Z 6) (cond (ieq c 2)
 (ae (DL m (re a)) λ e=>cond (au e) (Z 10) (d 0 a.kind a.name a.sort a.kids)) (d 0 a.kind a.name a.sort a.kids))))
def Db(m:Nat)(a:Z17)(i:Hx)(c g:Int)(f:Y8)(e:Int)(b:TL):Z16:=
 cond (ilt c (I b)) (ae (av b c) λ h=>ae (a (re h)) λ d=>cond (au (ieq d 0)) (Z d) (i (iw .i64 (aD c 1)) g f e b)) (Z 0)
def rp(m:Nat)(a:Z17):=bk (Db m a)
def lc:Nat->Z17:=bh λ m a=>Dj m a (rp m a m)
def Jg(m:Nat)(b:T):Z16:=
 ae (lh m (re b)) λ a=>cond (au (ieq a 0)) (Z a) (ae (lc m (re b)) λ c=>Z c)
def wN:=bm Jg
def I0(m:Nat)(b a:Int):Z16:=
 cond (ilt b a) (Z (-1)) (cond (ilt a b) (Z 1) (Z 0))
def uk:=bm I0
def Cg(m:Nat)(a:Z24)(j:YF)(c b:T):Z16:=
 ae (jX m (re c)) λ i=>ae (jX m (re b)) λ h=>ae (uk m i h) λ g=>cond (au (ieq g 0)) (Z g) (ae (uk m c.kind b.kind) λ f=>
 cond (au (ieq f 0)) (Z f) (cond (slt c.name b.name) (Z (-1)) (cond (au (tf (slt c.name b.name) (aT c.name b.name))) (Z 1) (ae (uk m c.sort b.sort) λ e=>cond (au (ieq e 0))
 (Z e) (ae (uk m (I c.kids) (I b.kids)) λ d=>cond (au (ieq d 0)) (Z d) (j 0 c.kind c.name c.sort c.kids b.kind b.name b.sort b.kids))))))
def Ce(m:Nat)(a:Z24)(o:YF)(b k:Int)(j:Y8)(i:Int)(c:TL)(h:Int)(g:Y8)(f:Int)(d:TL):Z16:=
 cond (ilt b (I c)) (ae (av c b) λ n=>ae (av d b) λ l=>ae (a (re n) (re l)) λ e=>cond (au (ieq e 0)) (Z e) (o (iw .i64 (aD b 1)) k j i c h g f d))
 (Z 0)
def tP(m:Nat)(a:Z24):=bk (Ce m a)
def jE:Nat->Z24:=bh λ m a=>Cg m a (tP m a m)
def Jo(m:Nat)(c b:T):Z2:=
 ae (jE m (re c) (re b)) λ a=>Z (ieq a 0)
def pW:=bm Jo
def D5(m:Nat)(a:Z33)(c:YT)(b:T):Z29:=
 c 0 b.kind b.name b.sort b.kids [re b]
def Ed(m:Nat)(a:Z33)(j:YT)(d h:Int)(g:Y8)(f:Int)(c b:TL):Z29:=
 cond (ilt d (I c)) (ae (av c d) λ i=>ae (a (re i)) λ e=>cond (bM (I b+I e) 56) (j (iw .i64 (aD d 1)) h g f c (b++e)) U) (Z b)
def uq(m:Nat)(a:Z33):=bk (Ed m a)
def ke:Nat->Z33:=bh λ m a=>D5 m a (uq m a m)
def JH(m:Nat)(a:T)(b:Y8):Z2:=
 cond (ieq a.kind 3) (Z (aT a.name b)) (Z Y)
def oU:=bm JH
def IM(m:Nat)(a:T):vJ:=
 ae (av a.kids 0) λ b=>let j1:vJ:=(ae (av b.kids 0) λ y=>Z (re y,O));let j2:vJ:=(let r:vJ:=(let q:vJ:=(let p:vJ:=(let o:vJ:=
 (cond (aT a.name [114,101,97,100]) (ae (oU m (re b) [115,105,103,110]) λ c=>cond c j1 (Z (re a,Y))) (Z (re a,Y)));cond (aT a.name [111,112,101,110])
 (ae (oU m (re b) [115,105,103,110]) λ h=>cond h (ae (av a.kids 1) λ g=>ae (av b.kids 1) λ f=>ae (iz m [112,107] [re f]) λ e=>ae (pW m (re g)
 (re e)) λ d=>cond d j1 o) o) o);cond (aT a.name [97,100,101,99]) (ae (oU m (re b) [97,101,110,99]) λ n=>cond n (ae (av b.kids 1) λ l=>
 ae (av a.kids 1) λ k=>ae (iz m [112,107] [re k]) λ j=>ae (pW m (re l) (re j)) λ i=>cond i j1 p) p) p);cond (aT a.name [100,101,99])
 (ae (oU m (re b) [101,110,99]) λ v=>cond v (ae (av b.kids 1) λ u=>ae (av a.kids 1) λ t=>ae (pW m (re u) (re t)) λ s=>cond s j1 q) q) q);
 cond (aT a.name [115,110,100]) (ae (oU m (re b) [112,97,105,114]) λ x=>cond x (ae (av b.kids 1) λ w=>Z (re w,O)) r) r);cond (aT a.name [102,115,116])
 (ae (oU m (re b) [112,97,105,114]) λ z=>cond z j1 j2) j2
def Ds:=bm IM
def Dm(m:Nat)(c:Ys)(b:TL)(a:T):Z16:=
 cond (ilt 200 (I b)) (Z 3) (c b 0 a.kind a.name a.sort a.kids)
def Dp(m:Nat)(j:Ys)(b:TL)(a f:Int)(e:Y8)(d:Int)(c:TL):Z16:=
 cond (ilt a (I b)) (ae (av b a) λ i=>ae (lh m (re i)) λ g=>cond (au (ieq g 0)) (Z g) (j b (iw .i64 (aD a 1)) f e d c))
 (ae (lh m (T.mk f e d c)) λ h=>Z h)
def uc(m:Nat):=bk (Dp m)
def Eu:Nat->(TL->T->Z16):=bh λ m _=>Dm m (uc m m)
def Jn(m:Nat):Z27:=
 ae (iz m [122,101,114,111] []) λ a=>Z (re a)
def ET:=bm Jn
def DR(m:Nat)(c:Y9)(b:TL)(a:T):Z29:=
 c b Y 0 a.kind a.name a.sort a.kids []
def DX(m:Nat)(i:Y9)(c:TL)(h:Bool)(b g:Int)(f:Y8)(e:Int)(d a:TL):Z29:=
 cond (ilt b (I c)) (ae (av c b) λ o=>ae (jE m (T.mk g f e d) (re o)) λ j=>let j1:Z29:=(ae (av c b) λ k=>cond (bM (I a+1) 56)
 (i c h (iw .i64 (aD b 1)) g f e d (a++[re k])) U);cond (au h) (cond (ile j 0) (cond (ilt j 0) (cond (bM (I a+1) 56) (ae (av c b) λ n=>
 cond (bM (I (a++[T.mk g f e d])+1) 56) (i c O (iw .i64 (aD b 1)) g f e d ((a++[T.mk g f e d])++[re n])) U) U) (ae (av c b) λ l=>
 cond (bM (I a+1) 56) (i c O (iw .i64 (aD b 1)) g f e d (a++[re l])) U)) j1) j1) (cond (au h) (cond (bM (I a+1) 56) (Z (a++[T.mk g f e d])) U) (Z a))
def ur(m:Nat):=bk (DX m)
def zA:Nat->(TL->T->Z29):=bh λ m _=>DR m (ur m m)
def D9(m:Nat)(c:YB)(b:TL)(a:T):Z2:=
 c b 0 a.kind a.name a.sort a.kids
def DV(m:Nat)(i:YB)(b:TL)(a f:Int)(e:Y8)(d:Int)(c:TL):Z2:=
 cond (ilt a (I b)) (ae (av b a) λ h=>ae (pW m (re h) (T.mk f e d c)) λ g=>cond g (Z O) (i b (iw .i64 (aD a 1)) f e d c)) (Z Y)
def ut(m:Nat):=bk (DV m)
def EZ:Nat->(TL->T->Z2):=bh λ m _=>D9 m (ut m m)
def CK(m:Nat)(e:Y4)(b:TL)(a:T):Z29:=
 ae (EZ m b (re a)) λ d=>cond (au d) (ae (zA m b (re a)) λ c=>Z c) (e b 0 a.kind a.name a.sort a.kids [])
def CU(m:Nat)(h:Y4)(b:TL)(a g:Int)(f:Y8)(e:Int)(d c:TL):Z29:=
 cond (ilt a (I b)) (ae (av b a) λ k=>ae (pW m (re k) (T.mk g f e d)) λ j=>cond (au j) (ae (av b a) λ i=>cond (bM (I c+1) 56)
 (h b (iw .i64 (aD a 1)) g f e d (c++[re i])) U) (h b (iw .i64 (aD a 1)) g f e d c)) (Z c)
def tV(m:Nat):=bk (CU m)
def Ea:Nat->(TL->T->Z29):=bh λ m _=>CK m (tV m m)
def Dw(m:Nat)(c:Hk)(b a:TL):Z29:=
 cond (bM (I ([]:TL)+I b) 56) (qB b (c a [] 0) λ e d=>c a ([]++(e::d)) 0) U
def Dv(m:Nat)(f:Hk)(b c:TL)(a:Int):Z29:=
 cond (ilt a (I b)) (ae (av b a) λ e=>ae (Ea m c (re e)) λ d=>f b d (iw .i64 (aD a 1))) (Z c)
def rA(m:Nat):=bk (Dv m)
def zc:Nat->(TL->TL->Z29):=bh λ m _=>Dw m (rA m m)
def BZ(m:Nat)(a:Z33)(d:Zb)(b:T):Z29:=
 let c:Z29:=(cond (au (ieq b.kind 3)) (Z [re b]) (cond (au (aT b.name [120,111,114])) (Z [re b]) (d [] 0 b.kind b.name b.sort b.kids)));cond (ieq b.kind 3)
 (cond (aT b.name [122,101,114,111]) (cond (ieq (I b.kids) 0) (Z []) c) c) c
def B6(m:Nat)(a:Z33)(k:Zb)(d:TL)(c g:Int)(f:Y8)(e:Int)(b:TL):Z29:=
 cond (ilt c (I b)) (ae (av b c) λ j=>ae (a (re j)) λ i=>ae (zc m d i) λ h=>k h (iw .i64 (aD c 1)) g f e b) (Z d)
def ri(m:Nat)(a:Z33):=bk (B6 m a)
def kW:Nat->Z33:=bh λ m a=>BZ m a (ri m a m)
def Jq(m:Nat)(a:TL):Z27:=
 cond (ieq (I a) 0) (ae (iz m [122,101,114,111] []) λ e=>Z (re e)) (cond (ieq (I a) 1) (ae (av a 0) λ d=>Z (re d))
 (cond (bM (I ([]:TL)+I a) 56) (qB a (Z (T.mk 3 [120,111,114] 0 [])) λ c b=>Z (T.mk 3 [120,111,114] 0 ([]++(c::b)))) U))
def ES:=bm Jq
def DQ(m:Nat)(d:Zy)(b:TL):Z36:=
 ae (ET m) λ c=>ae (Eu m b (re c)) λ a=>cond (au (ieq a 0)) (Z (T.mk 0 [] 0 [],a)) (d b [] 0 0 [] 0 [])
def DS(m:Nat)(n:Zy)(b c:TL)(a h:Int)(g:Y8)(f:Int)(e:TL):Z36:=
 cond (ilt a (I b)) (ae (av b a) λ l=>ae (kW m (re l)) λ k=>ae (zc m c k) λ j=>n b j (iw .i64 (aD a 1)) h g f e) (ae (ES m c) λ d=>
 ae (lh m (re d)) λ i=>cond (au (ieq i 0)) (Z (T.mk 0 [] 0 [],3)) (Z (re d,0)))
def ux(m:Nat):=bk (DS m)
def Fh:Nat->(TL->Z36):=bh λ m _=>DQ m (ux m m)
def IP(m:Nat)(a:T):Z2:=
 cond (ieq a.kind 3) (cond (aT a.name [109,117,108]) (Z O) (cond (aT a.name [105,110,118]) (Z O) (Z (aT a.name [111,110,101])))) (Z Y)
def wK:=bm IP
def Di(m:Nat)(b:Z41)(e:Zm)(a:T):Z2:=
 ae (wK m (re a)) λ f=>cond (au f) (Z O) (let d:Z2:=(let c:Z2:=(cond (aT a.name [111,110,101]) (cond (au (ieq (I a.kids) 0)) (Z Y)
 (e (I a.kids) 0 a.kind a.name a.sort a.kids)) (e (I a.kids) 0 a.kind a.name a.sort a.kids));cond (aT a.name [105,110,118]) (cond (au (ieq (I a.kids) 1)) (Z Y) c) c);
 cond (aT a.name [109,117,108]) (cond (ilt (I a.kids) 2) (Z Y) d) d)
def C8(m:Nat)(a:Z41)(j:Zm)(d b g:Int)(f:Y8)(e:Int)(c:TL):Z2:=
 cond (ilt b d) (ae (av c b) λ i=>ae (a (re i)) λ h=>cond (au h) (Z Y) (j d (iw .i64 (aD b 1)) g f e c)) (Z O)
def rt(m:Nat)(a:Z41):=bk (C8 m a)
def kZ:Nat->Z41:=bh λ m a=>Di m a (rt m a m)
def D4(m:Nat)(d:YC)(c:aa (T×Int))(a:T)(b:Int):Z46:=
 d b Y 0 a.kind a.name a.sort a.kids c []
def DM(m:Nat)(i:YC)(a:Int)(l:Bool)(h f:Int)(e:Y8)(d:Int)(c:TL)(g b:aa (T×Int)):Z46:=
 cond (ilt h (I g)) (ae (av g h) λ o=>ae (jE m (T.mk f e d c) (re o.1)) λ n=>let j1:Z46:=(ae (av g h) λ j=>cond (ieq n 0)
 (cond (au (ieq (iw .i64 (aD j.2 a)) 0)) (cond (bM (I b+1) 64) (i a O (iw .i64 (aD h 1)) f e d c g (b++[(re j.1,iw .i64 (aD j.2 a))])) U)
 (i a O (iw .i64 (aD h 1)) f e d c g b)) (cond (au (ieq j.2 0)) (cond (bM (I b+1) 64) (i a l (iw .i64 (aD h 1)) f e d c g (b++[(re j.1,j.2)])) U)
 (i a l (iw .i64 (aD h 1)) f e d c g b)));cond (au l) (cond (ilt n 0) (cond (bM (I b+1) 64) (ae (av g h) λ k=>cond (ieq n 0) (cond (au (ieq (iw .i64 (aD k.2 a)) 0))
 (cond (bM (I (b++[(T.mk f e d c,a)])+1) 64) (i a O (iw .i64 (aD h 1)) f e d c g ((b++[(T.mk f e d c,a)])++[(re k.1,iw .i64 (aD k.2 a))])) U)
 (i a O (iw .i64 (aD h 1)) f e d c g (b++[(T.mk f e d c,a)]))) (cond (au (ieq k.2 0)) (cond (bM (I (b++[(T.mk f e d c,a)])+1) 64)
 (i a O (iw .i64 (aD h 1)) f e d c g ((b++[(T.mk f e d c,a)])++[(re k.1,k.2)])) U) (i a O (iw .i64 (aD h 1)) f e d c g (b++[(T.mk f e d c,a)])))) U) j1) j1)
 (cond (au l) (cond (bM (I b+1) 64) (Z ((()),(b++[(T.mk f e d c,a)],()))) U) (Z ((()),(b,()))))
def pS(m:Nat):=bk (DM m)
def zC:Nat->A4:=bh λ m _=>D4 m (pS m m)
def Ct(m:Nat)(a:A4)(e:YW)(d:aa (T×Int))(b:T)(c:Int):Z46:=
 ae (wK m (re b)) λ g=>cond (au g) (ae (zC m d (re b) c) λ f=>Z ((()),(f.2.1,()))) (cond (aT b.name [105,110,118])
 (e (iw .i64 (cr 0 c)) 0 b.kind b.name b.sort b.kids d) (e c 0 b.kind b.name b.sort b.kids d))
def Cq(m:Nat)(a:A4)(k:YW)(e c h:Int)(g:Y8)(f:Int)(b:TL)(d:aa (T×Int)):Z46:=
 cond (ilt c (I b)) (ae (av b c) λ j=>ae (a d (re j) e) λ i=>k e (iw .i64 (aD c 1)) h g f b i.2.1) (Z ((()),(d,())))
def rj(m:Nat)(a:A4):=bk (Cq m a)
def kX:Nat->A4:=bh λ m a=>Ct m a (rj m a m)
def JN(m:Nat)(a:T):Z50:=
 ae (lh m (re a)) λ c=>cond (au (ieq c 0)) (Z ([],c)) (ae (kZ m (re a)) λ d=>cond (au d) (Z ([],6)) (ae (kX m [] (re a) 1) λ b=>
 cond (ilt 200 (I b.2.1)) (Z ([],3)) (Z (b.2.1,0))))
def xg:=bm JN
def C4(m:Nat)(b:HM)(a:aa (T×Int)):Z16:=
 cond (ilt 200 (I a)) (Z 3) (b a 0)
def Do(m:Nat)(e:HM)(b:aa (T×Int))(a:Int):Z16:=
 cond (ilt a (I b)) (ae (av b a) λ n=>ae (lh m (re n.1)) λ d=>cond (au (ieq d 0)) (Z d) (ae (av b a) λ l=>ae (wK m (re l.1)) λ k=>cond k (Z 1)
 (ae (av b a) λ j=>cond (ieq j.2 0) (Z 7) (ae (av b a) λ i=>cond (ilt i.2 (-1000)) (Z 7) (ae (av b a) λ h=>cond (ilt 1000 h.2) (Z 7) (cond (ilt 0 a)
 (ae (av b (iw .i64 (cr a 1))) λ g=>ae (av b a) λ f=>ae (jE m (re g.1) (re f.1)) λ c=>cond (ile 0 c) (Z 5) (e b (iw .i64 (aD a 1))))
 (e b (iw .i64 (aD a 1))))))))) (Z 0)
def ru(m:Nat):=bk (Do m)
def wP:Nat->Z53:=bh λ m _=>C4 m (ru m m)
def B8(m:Nat)(b:pC)(e:pB)(d:pC)(c:pB)(a:aa (T×Int)):Z29:=
 b a 0 []
def B0(m:Nat)(g:pC)(e:pB)(d:pC)(f:pB)(a:aa (T×Int))(c:Int)(b:TL):Z29:=
 cond (ilt c (I a)) (e a c 0 b) (d a 0 b)
def B7(m:Nat)(e:pC)(h:pB)(j:pC)(i:pB)(c:aa (T×Int))(b d:Int)(a:TL):Z29:=
 ae (av c b) λ g=>cond (ilt d g.2) (cond (ilt (I a) 9) (ae (av c b) λ f=>cond (bM (I a+1) 56) (h c b (iw .i64 (aD d 1)) (a++[re f.1])) U)
 (e c (iw .i64 (aD b 1)) a)) (e c (iw .i64 (aD b 1)) a)
def B4(m:Nat)(g:pC)(f:pB)(e:pC)(d:pB)(c:aa (T×Int))(b:Int)(a:TL):Z29:=
 cond (ilt b (I c)) (d c b 0 a) (Z a)
def B2(m:Nat)(k:pC)(j:pB)(e:pC)(i:pB)(c:aa (T×Int))(b d:Int)(a:TL):Z29:=
 ae (av c b) λ h=>cond (ilt d (iw .i64 (cr 0 h.2))) (cond (ilt (I a) 9) (ae (av c b) λ g=>ae (iz m [105,110,118] [re g.1]) λ f=>cond (bM (I a+1) 56)
 (i c b (iw .i64 (aD d 1)) (a++[re f])) U) (e c (iw .i64 (aD b 1)) a)) (e c (iw .i64 (aD b 1)) a)
def dn(m:Nat):=bk λ a=>(B0 m a.1 a.2.1 a.2.2.1 a.2.2.2,B7 m a.1 a.2.1 a.2.2.1 a.2.2.2,B4 m a.1 a.2.1 a.2.2.1 a.2.2.2,B2 m a.1 a.2.1 a.2.2.1 a.2.2.2)
def De:Nat->(Z44->Z29):=bh λ m _=>B8 m (dn m m).1 (dn m m).2.1 (dn m m).2.2.1 (dn m m).2.2.2
def Ju(m:Nat)(i:aa (T×Int)):Z36:=
 ae (wP m i) λ h=>cond (au (ieq h 0)) (Z (T.mk 0 [] 0 [],h)) (ae (De m i) λ a=>cond (ilt 8 (I a)) (Z (T.mk 0 [] 0 [],3))
 (ae (iz m [109,117,108] a) λ g=>let j1:Z36:=(ae (av a 0) λ e=>ae (lh m (re e)) λ d=>cond (au (ieq d 0)) (Z (T.mk 0 [] 0 [],d)) (Z (re e,0)));
 cond (ieq (I a) 0) (ae (iz m [111,110,101] []) λ f=>cond (ieq (I a) 1) j1 (ae (lh m (re f)) λ c=>cond (au (ieq c 0)) (Z (T.mk 0 [] 0 [],c)) (Z (re f,0))))
 (cond (ieq (I a) 1) j1 (ae (lh m (re g)) λ b=>cond (au (ieq b 0)) (Z (T.mk 0 [] 0 [],b)) (Z (re g,0))))))
def uC:=bm Ju
def IQ(m:Nat)(c:T):Z36:=
 ae (xg m (re c)) λ a=>cond (au (ieq a.2 0)) (Z (T.mk 0 [] 0 [],a.2)) (ae (uC m a.1) λ b=>Z (re b.1,b.2))
def yP:=bm IQ
def Cs(m:Nat)(b:HM)(a:aa (T×Int)):Z16:=
 b a 0
def Cc(m:Nat)(e:HM)(a:aa (T×Int))(b:Int):Z16:=
 cond (ilt b (I a)) (ae (av a b) λ d=>cond (ilt d.2 (-1000)) (Z 7) (ae (av a b) λ c=>cond (ilt 1000 c.2) (Z 7) (e a (iw .i64 (aD b 1))))) (cond (ilt 200 (I a)) (Z 3)
 (Z 0))
def tN(m:Nat):=bk (Cc m)
def DA:Nat->Z53:=bh λ m _=>Cs m (tN m m)
def D0(m:Nat)(e:YX)(b a:aa (T×Int)):Z50:=
 ae (wP m b) λ d=>cond (au (ieq d 0)) (Z ([],d)) (ae (wP m a) λ c=>cond (au (ieq c 0)) (Z ([],c)) (cond (bM (I ([]:aa (T×Int))+I b) 64)
 (qB b (e a 0 []) λ g f=>e a 0 ([]++(g::f))) U))
def DP(m:Nat)(h:YX)(b:aa (T×Int))(a:Int)(c:aa (T×Int)):Z50:=
 cond (ilt a (I b)) (ae (av b a) λ g=>ae (av b a) λ f=>ae (zC m c (re g.1) f.2) λ e=>h b (iw .i64 (aD a 1)) e.2.1) (ae (DA m c) λ d=>
 cond (au (ieq d 0)) (Z ([],d)) (Z (c,0)))
def rC(m:Nat):=bk (DP m)
def Fe:Nat->Z61:=bh λ m _=>D0 m (rC m m)
def Ji(m:Nat)(b l:T):Z36:=
 ae (xg m (re l)) λ a=>cond (au (ieq a.2 0)) (Z (T.mk 0 [] 0 [],a.2)) (ae (oU m (re b) [101,120,112]) λ k=>cond k (ae (av b.kids 1) λ j=>
 ae (xg m (re j)) λ f=>cond (au (ieq f.2 0)) (Z (T.mk 0 [] 0 [],f.2)) (ae (Fe m f.1 a.1) λ c=>cond (au (ieq c.2 0)) (Z (T.mk 0 [] 0 [],c.2))
 (ae (av b.kids 0) λ h=>cond (ieq (I c.1) 0) (Z (re h,0)) (ae (uC m c.1) λ e=>cond (au (ieq e.2 0)) (Z (T.mk 0 [] 0 [],e.2))
 (ae (iz m [101,120,112] [re h,re e.1]) λ i=>Z (re i,0)))))) (cond (ieq (I a.1) 0) (Z (re b,0)) (ae (uC m a.1) λ d=>cond (au (ieq d.2 0))
 (Z (T.mk 0 [] 0 [],d.2)) (ae (iz m [101,120,112] [re b,re d.1]) λ g=>Z (re g,0)))))
def Em:=bm Ji
def CE(m:Nat)(a:Z63)(c:YZ)(b:T):Z36:=
 cond (au (ieq b.kind 3)) (Z (re b,0)) (c 0 b.kind b.name b.sort b.kids 0 [] 0 [] [])
def CM(m:Nat)(a:Z63)(x:YZ)(f t:Int)(b:Y8)(s:Int)(e:TL)(r:Int)(q:Y8)(p:Int)(o c:TL):Z36:=
 cond (ilt f (I e)) (ae (av e f) λ w=>ae (a (re w)) λ h=>cond (au (ieq h.2 0)) (Z (T.mk 0 [] 0 [],h.2)) (cond (bM (I c+1) 56)
 (x (iw .i64 (aD f 1)) t b s e r q p o (c++[re h.1])) U)) (ae (iz m b c) λ g=>ae (uE m b) λ v=>cond (ieq v 3) (ae (Ds m (re g)) λ u=>
 Z (re u.1,0)) (cond (aT b [120,111,114]) (ae (Fh m c) λ n=>Z (re n.1,n.2)) (let k:Z36:=(ae (yP m (re g)) λ l=>Z (re l.1,l.2));
 cond (aT b [109,117,108]) k (cond (aT b [105,110,118]) k (cond (aT b [111,110,101]) k (cond (aT b [101,120,112]) (ae (av c 0) λ j=>ae (av c 1) λ i=>
 ae (Em m (re j) (re i)) λ d=>Z (re d.1,d.2)) (Z (re g,0))))))))
def tZ(m:Nat)(a:Z63):=bk (CM m a)
def lQ:Nat->Z63:=bh λ m a=>CE m a (tZ m a m)
def I4(m:Nat)(d:T):Z36:=
 ae (wN m (re d)) λ c=>cond (au (ieq c 0)) (Z (T.mk 0 [] 0 [],c)) (ae (lQ m (re d)) λ a=>cond (au (ieq a.2 0)) (Z (T.mk 0 [] 0 [],a.2))
 (ae (lh m (re a.1)) λ b=>cond (au (ieq b 0)) (Z (T.mk 0 [] 0 [],b)) (Z (re a.1,0))))
def Eb:=bm I4
def Dd(m:Nat)(e:HV)(a:T):Z2:=
 ae (Eb m (re a)) λ b=>cond (au (ieq b.2 0)) (Z Y) (ae (pW m (re a) (re b.1)) λ d=>cond (au d) (Z Y) (ae (ke m (re a)) λ c=>e c 0))
def CZ(m:Nat)(c:HV)(b:TL)(a:Int):Z2:=
 cond (ilt a (I b)) (ae (av b a) λ f=>cond (ieq f.kind 3) (ae (av b a) λ e=>ae (uE m e.name) λ d=>cond (ieq d 3) (Z Y) (c b (iw .i64 (aD a 1))))
 (c b (iw .i64 (aD a 1)))) (Z O)
def uf(m:Nat):=bk (CZ m)
def Eh:Nat->Z41:=bh λ m _=>Dd m (uf m m)
def D6(m:Nat)(b:Hk)(a:TL):Z29:=
 b a [] 0
def Ec(m:Nat)(f:Hk)(b c:TL)(a:Int):Z29:=
 cond (ilt a (I b)) (ae (av b a) λ e=>ae (zA m c (re e)) λ d=>f b d (iw .i64 (aD a 1))) (Z c)
def uv(m:Nat):=bk (Ec m)
def Fw:Nat->Z38:=bh λ m _=>D6 m (uv m m)
def DI(m:Nat)(d:Ym)(c:T)(b:Int):Z29:=
 ae (ke m (re c)) λ a=>d b a 0 []
def Dx(m:Nat)(e:Ym)(d:Int)(b:TL)(a:Int)(c:TL):Z29:=
 cond (ilt a (I b)) (ae (av b a) λ h=>cond (ieq h.kind d) (ae (av b a) λ g=>cond (bM (I c+1) 56) (e d b (iw .i64 (aD a 1)) (c++[re g])) U)
 (e d b (iw .i64 (aD a 1)) c)) (ae (Fw m c) λ f=>Z f)
def uh(m:Nat):=bk (Dx m)
def EX:Nat->(T->Int->Z29):=bh λ m _=>DI m (uh m m)
def Jt(m:Nat)(b:T):Z29:=
 ae (EX m (re b) 1) λ a=>Z a
def EW:=bm Jt
def I3(m:Nat)(b:T):Z2:=
 ae (EW m (re b)) λ a=>Z (ieq (I a) 0)
def DO:=bm I3
def Jf(m:Nat)(a:T):Z16:=
 ae (wN m (re a)) λ b=>cond (au (ieq b 0)) (Z b) (ae (DO m (re a)) λ d=>cond (au d) (Z 13) (ae (Eh m (re a)) λ c=>cond (au c) (Z 10) (Z 0)))
def Es:=bm Jf
def C2(m:Nat)(a:Hp)(l:YH)(b c:T)(d:aa ((Y8×Int)×T)):Hl:=
 ae (rD m (re b)) λ k=>cond k (ae (rG m (re b)) λ e=>cond (lE (veq (.pair .str (.int .i64))) d e) (ae (pV m (re (cX (veq (.pair .str (.int .i64)))
 (T.mk 0 [] 0 []) d e)) (re c)) λ j=>Z ((d,()),(j,()))) (ae (rG m (re b)) λ i=>ae (uF m (re b) (re c)) λ h=>
 Z ((fQ (veq (.pair .str (.int .i64))) d i (re c),()),(h,())))) (ae (yZ m (re b) (re c)) λ g=>cond (au g) (ae (pV m (re b) (re c)) λ f=>
 Z ((d,()),(f,()))) (l (I b.kids) 0 d b.kind b.name b.sort b.kids c.kind c.name c.sort c.kids))
def C5(m:Nat)(a:Hp)(q:YH)(g c:Int)(f:aa ((Y8×Int)×T))(n:Int)(l:Y8)(k:Int)(e:TL)(j:Int)(i:Y8)(h:Int)(b:TL):Hl:=
 cond (ilt c g) (ae (av e c) λ p=>ae (av b c) λ o=>ae (a (re p) (re o) f) λ d=>cond (au d.2.1) (Z ((d.1.1,()),(Y,())))
 (q g (iw .i64 (aD c 1)) d.1.1 n l k e j i h b)) (Z ((f,()),(O,())))
def wH(m:Nat)(a:Hp):=bk (C5 m a)
def mR:Nat->Hp:=bh λ m a=>C2 m a (wH m a m)
def Dn(m:Nat)(f:Zj)(a e:T):Z99:=
 ae (Er m (re a) (re e)) λ d=>cond (au (ieq d 0)) (Z ([],d)) (ae (mR m (re a) (re e) []) λ c=>cond (au c.2.1) (Z ([],11)) (ae (zu m (re a)) λ b=>
 f b (I b) 0 c.1.1 []))
def C3(m:Nat)(h:Zj)(e:TL)(d c:Int)(b:aa ((Y8×Int)×T))(a:aa (T×T)):Z99:=
 cond (ilt c d) (ae (av e c) λ f=>ae (rG m (re f)) λ g=>ae (pV m (re (cX (veq (.pair .str (.int .i64))) (T.mk 0 [] 0 []) b g)) (re f)) λ i=>cond (au i)
 (cond (bM (I a+1) 112) (h e d (iw .i64 (aD c 1)) b (a++[(re f,re (cX (veq (.pair .str (.int .i64))) (T.mk 0 [] 0 []) b g))])) U) (h e d (iw .i64 (aD c 1)) b a))
 (Z (a,0))
def wI(m:Nat):=bk (C3 m)
def yX:Nat->qoG:=bh λ m _=>Dn m (wI m m)
def IU(m:Nat)(d:T)(e:Y8):Z99:=
 ae (yJ m (re d)) λ c=>cond (au (ieq c 0)) (Z ([],c)) (ae (wD m e) λ a=>cond (au (ieq a.2.2 0)) (Z ([],a.2.2)) (ae (yX m (re d)
 (re a.1)) λ b=>cond (au (ieq b.2 0)) (Z ([],11)) (Z (b.1,0))))
def wG:=bm IU
def IF(m:Nat)(a:Y8):Z2:=
 cond (aT a [120,111,114]) (Z O) (cond (aT a [122,101,114,111]) (Z O) (cond (aT a [101,120,112]) (Z O) (cond (aT a [109,117,108]) (Z O) (cond (aT a [105,110,118])
 (Z O) (Z (aT a [111,110,101]))))))
def CF:=bm IF
def Du(m:Nat)(d:HV)(a:T):Z2:=
 ae (wN m (re a)) λ c=>cond (au (ieq c 0)) (Z Y) (ae (ke m (re a)) λ b=>d b 0)
def DE(m:Nat)(c:HV)(b:TL)(a:Int):Z2:=
 cond (ilt a (I b)) (ae (av b a) λ h=>cond (ieq h.kind 3) (ae (av b a) λ g=>ae (CF m g.name) λ f=>cond f (Z Y) (ae (av b a) λ e=>
 ae (uE m e.name) λ d=>cond (ieq d 3) (Z Y) (c b (iw .i64 (aD a 1))))) (c b (iw .i64 (aD a 1)))) (Z O)
def uo(m:Nat):=bk (DE m)
def zr:Nat->Z41:=bh λ m _=>Du m (uo m m)
def qeb(m:Nat):(ac (aa Y8)):=
 Z [[112,97,105,114],[101,110,99],[97,101,110,99],[112,107],[115,105,103,110],[104,97,115,104],[120,111,114],[122,101,114,111],[101,120,112],[109,117,108],[105,110,118],[111,110,101],[115,107],[115,104,107],[110,101,119]]
def Ry:=bm qeb
def Dl(m:Nat)(c:Zo)(b:Y8):Z16:=
 ae (Ry m) λ a=>c b a 0
def Dh(m:Nat)(e:Zo)(c:Y8)(b:aa (Y8))(a:Int):Z16:=
 cond (ilt a (I b)) (ae (av b a) λ d=>cond (aT d c) (Z a) (e c b (iw .i64 (aD a 1)))) (Z 0)
def ub(m:Nat):=bk (Dh m)
def Ek:Nat->(Y8->Z16):=bh λ m _=>Dl m (ub m m)
def IS(m:Nat)(a:Y8):Z2:=
 cond (aT a [120,111,114]) (Z O) (cond (aT a [109,117,108]) (Z O) (Z (aT a [110,101,119])))
def DF:=bm IS
def Dg(m:Nat)(b:Hr)(d:Zq)(a:T):(ac (Y8)):=
 cond (ieq a.kind 2) (cond (nl (gI [iw .u8 a.sort,iw .u8 (I a.name)]) a.name) (Z ((gI [iw .u8 a.sort,iw .u8 (I a.name)])++a.name)) U) (ae (Ek m a.name) λ c=>
 ae (DF m a.name) λ e=>cond e (cond (nl (gI [iw .u8 (iw .i64 (aD 16 c))]) (gI [iw .u8 (I a.kids)]))
 (d ((gI [iw .u8 (iw .i64 (aD 16 c))])++(gI [iw .u8 (I a.kids)])) 0 a.kind a.name a.sort a.kids) U) (d (gI [iw .u8 (iw .i64 (aD 16 c))]) 0 a.kind a.name a.sort a.kids))
def Dc(m:Nat)(a:Hr)(j:Zq)(d:Y8)(c h:Int)(g:Y8)(f:Int)(b:TL):(ac (Y8)):=
 cond (ilt c (I b)) (ae (av b c) λ i=>ae (a (re i)) λ e=>cond (nl d e) (j (d++e) (iw .i64 (aD c 1)) h g f b) U) (Z d)
def ry(m:Nat)(a:Hr):=bk (Dc m a)
def lg:Nat->Hr:=bh λ m a=>Dg m a (ry m a m)
def Io(m:Nat)(c b g:T):Z2:=
 ae (wQ m) λ n=>let j1:Z2:=(ae (wQ m) λ l=>Z l);cond (au n) j1 (ae (Ft m [re c,re b,re g]) λ k=>
 cond (au k) j1 (ae (Es m (re g)) λ j=>cond (au (ieq j 0)) j1 (ae (zr m (re c)) λ i=>cond (au i) j1 (ae (zr m (re b)) λ h=>
 cond (au h) j1 (ae (lg m (re g)) λ a=>ae (wG m (re c) a) λ f=>ae (wG m (re b) a) λ e=>ae (tI m [re c,re b]) λ d=>
 cond (au (ieq f.2 0)) (Z O) (cond (au (ieq e.2 0)) (Z O) (Z (ieq d.2.2.2 0))))))))
def law20_EnvelopeStrings:=bm Io
end
end
section
def Ev{α:Type}(F:Nat->Nat->ac α)(r:α):Prop:=∃B,∀m k,B<=m->B<=k->F m k=Z r
section
variable {α β:Type}{F G:Nat->Nat->ac α}{r:α}
def Ev.pure(r:α):Ev (λ _ _=>Z r) r:=⟨0,λ _ _ _ _=>rfl⟩
def Ev.ret{r a:α}(h:r=a):Ev (λ _ _=>Z r) a:=by subst h;exact .pure r
def Ev.bind{X:Nat->Nat->ac β}{K:Nat->Nat->β->ac α}{a:β}(h:Ev X a)(g:Ev (λ m k=>K m k a) r):Ev (λ m k=>ae (X m k) (K m k)) r:=by
 let⟨B,h⟩:=h;let⟨C,g⟩:=g;refine⟨max B C,λ m k b c=>?_⟩;simp only[h m k (by omega) (by omega),ae];exact g m k (by omega) (by omega)
def Ev.congr(h:Ev F r)(e:∀m k,G m k=F m k):Ev G r:=by
 let⟨B,h⟩:=h;exact⟨B,λ m k a b=>(e m k).trans (h m k a b)⟩
def Ev.res{a:α}(h:Ev F r)(e:r=a):Ev F a:=by subst e;exact h
def Ev.succ{f:Nat->ac α}(h:Ev (λ m _=>f (m+1)) r):Ev (λ m _=>f m) r:=by
 let⟨B,h⟩:=h;refine⟨B+1,λ m k a b=>?_⟩;obtain⟨m,rfl⟩:∃n,m=n+1:=⟨m-1,by omega⟩
 exact h m B (by omega) (al _)
def Ev.loop{L:Nat->Nat->ac α}(h:Ev (λ m k=>L m (k+1)) r):Ev (λ m k=>L m k) r:=by
 let⟨B,h⟩:=h;refine⟨B+1,λ m k a b=>?_⟩;obtain⟨k,rfl⟩:∃n,k=n+1:=⟨k-1,by omega⟩
 exact h m k (by omega) (by omega)
theorem Ev.diag{L:Nat->Nat->ac α}(h:Ev L r):Ev (λ m _=>L m m) r:=by
 let⟨B,h⟩:=h;exact⟨B,λ m k a _=>h m m a a⟩
def Ev.ct{b:Bool}(a:b=O)(h:Ev F r):Ev (λ m k=>cond b (F m k) (G m k)) r:=by subst a;exact h
def Ev.cf{b:Bool}(a:b=Y)(h:Ev G r):Ev (λ m k=>cond b (F m k) (G m k)) r:=by subst a;exact h
def Ev.ite{b:Bool}(h:b=O->Ev F r)(g:b=Y->Ev G r):Ev (λ m k=>cond b (F m k) (G m k)) r:=by
 cases b with
 |true=>exact h rfl
 |false=>exact g rfl
def Ev.some{x:ac β}{K:Nat->Nat->β->ac α}{a:β}(b:x=Z a)(g:Ev (λ m k=>K m k a) r):Ev (λ m k=>ae x (K m k)) r:=by subst b;exact g
def Ev.case{l:aa β}{K:Nat->Nat->β->aa β->ac α}(h:l=[]->Ev F r)(g:∀x t,l=x::t->Ev (λ m k=>K m k x t) r):Ev (λ m k=>qB l (F m k) (K m k)) r:=by
 cases l with
 |nil=>exact h rfl
 |cons x t=>exact g x t rfl
theorem Ev.get{x:ac α}(h:Ev (λ _ _=>x) r):x=Option.some r:=by
 let⟨B,h⟩:=h;exact h B B (al _) (al _)
end
theorem bf{a b:Int}:ilt a b=O↔a<b:=by unfold ilt;exact gH
def bg{a b:Int}:ilt a b=Y↔b<=a:=by unfold ilt;rw[tq];omega
def lq{a b:Int}:ile a b=O↔a<=b:=by unfold ile;exact gH
def pj{a b:Int}:ile a b=Y↔b<a:=by unfold ile;rw[tq];omega
theorem aI{a b:Int}:ieq a b=O↔a=b:=by unfold ieq;exact tu
theorem aG{a b:Int}:ieq a b=Y↔a≠b:=by unfold ieq;exact gG
def bnt{b:Bool}:au b=O↔b=Y:=by cases b<;>simp[au]
def bnf{b:Bool}:au b=Y↔b=O:=by cases b<;>simp[au]
def cF{a b:aa aA}:aT a b=O↔a=b:=by unfold aT;exact tu
def cW{a b:aa aA}:aT a b=Y↔a≠b:=by unfold aT;exact gG
theorem eR{n:Int}(h:-9223372036854775808<=n/\n<=9223372036854775807:=by omega):iw .i64 n=n:=IntWalk.i64_in n h
def xq(a b:Nat):aD (a:Int) (b:Int)=((a+b:Nat):Int):=by unfold aD;omega
def cx{n b:Nat}(h:n*b<=2^47:=by omega)(a:0<b:=by omega):bM n b=O:=by
 unfold bM;rw[gH];refine⟨h,?_⟩;have:n*1<=n*b:=ZU _ a;omega
theorem fJ{α:Type}(l:aa α)(i:Nat):av l (i:Int)=l[i]?:=by
 unfold av;rw[ifP,lL]
theorem nZ{α:Type}(l:aa α):av l 0=l[0]?:=fJ l 0
def bA{α:Type}{P:Nat->Prop}(l:aa α)(g:I l<2^62)(e:ilt (I l:Int) (I l:Int)=Y->P (I l))
  (b:∀(i:Nat) (x:α),l[i]?=Z x->l.drop i=x::l.drop (i+1)->ilt (i:Int) (I l:Int)=O->av l (i:Int)=Z x->iw .i64 (aD (i:Int) 1)=((i+1:Nat):Int)->P (i+1)->P i):∀i,i<=I l->P i:=by
 intro i h;obtain⟨d,j⟩:∃d,I l=i+d:=⟨I l-i,by omega⟩
 induction d generalizing i with
 |zero=>
   have:i=I l:=by omega
   subst this;exact e (bg.2 (H6 _))
 |succ d f=>
   have c:i<I l:=by omega
   have a:=aV c;refine b i _ a (Pl c) (bf.2 (by omega)) (by rw[fJ,a]) ?_ (f (i+1) (by omega) (by omega));rw[show aD (i:Int) 1=((i+1:Nat):Int) by unfold aD;omega,eR]
abbrev ai:=@Ev.bind
abbrev aj:=@Ev.ct
abbrev ak:=@Ev.cf
abbrev am:=@Ev.ite
abbrev ap:=@Ev.pure
abbrev aw:=@Ev.some
abbrev ay:=@Ev.ret
abbrev aF:=@Ev.loop
abbrev aJ:=@Ev.succ
abbrev bj:=@Ev.diag
abbrev Bs:=@Ev.congr
end
def qbK(m):nV (m+1)=IA m:=rfl
def qaI(m):tC (m+1)=In m:=rfl
def qaZ(m):mO (m+1)=Ip m:=rfl
def qa3(m):yG (m+1)=BD m (qX m m):=rfl
def Iq(m k):(qX m (k+1))=yD m (qX m k):=rfl
def Is(m):gT (m+1)=yE m:=rfl
def qa0(m):tD (m+1)=vH (gT m) m:=rfl
def qhk(m):zD (m+1)=Jw m:=rfl
def qgk(m):wO (m+1)=Da m (pQ m m):=rfl
def QQ(m k):(pQ m (k+1))=CY m (pQ m k):=rfl
def qgE(m):iv (m+1)=Dq m (iv m) (mQ m (iv m) m):=rfl
def QV(m k):(mQ m (iv m) (k+1))=DK m (iv m) (mQ m (iv m) k):=rfl
def qgS(m):eQ (m+1)=Js m:=rfl
def qdw(m):wJ (m+1)=Cr m (tQ m m):=rfl
def Qb(m k):(tQ m (k+1))=Cd m (tQ m k):=rfl
def qe5(m):fH (m+1)=CN m (fH m) (iQ m (fH m) m).1 (iQ m (fH m) m).2:=rfl
def Qt(m k):(iQ m (fH m) (k+1)).1=Cx m (fH m) (iQ m (fH m) k).1 (iQ m (fH m) k).2:=rfl
def Qp(m k):(iQ m (fH m) (k+1)).2=CA m (fH m) (iQ m (fH m) k).1 (iQ m (fH m) k).2:=rfl
def qep(m):ug (m+1)=IW m:=rfl
def qhW(m):uL (m+1)=Jv m:=rfl
def qhx(m):li (m+1)=Ef m (li m) (uz m (li m) m):=rfl
def Ra(m k):(uz m (li m) (k+1))=D3 m (li m) (uz m (li m) k):=rfl
def qeR(m):dp (m+1)=CR m (dp m) (pO m (dp m) m):=rfl
def IY(m k):(pO m (dp m) (k+1))=yK m (dp m) (pO m (dp m) k):=rfl
def qfz(m):pR (m+1)=Jb m:=rfl
def qhs(m):jn (m+1)=Jy m:=rfl
def qcI(m):yN (m+1)=IK m:=rfl
def qaG(m):wA (m+1)=BC m (jS m m).1 (jS m m).2:=rfl
def Pz(m k):(jS m (k+1)).1=BB m (jS m k).1 (jS m k).2:=rfl
def PB(m k):(jS m (k+1)).2=BA m (jS m k).1 (jS m k).2:=rfl
def qhO(m):E0 (m+1)=D2 m (uA m m):=rfl
def Rg(m k):(uA m (k+1))=Eg m (uA m k):=rfl
def qiJ(m):Af (m+1)=Ez m (uD m m):=rfl
def Rs(m k):(uD m (k+1))=Ew m (uD m k):=rfl
def qe0(m):kY (m+1)=Cz m (kY m) (rk m (kY m) m):=rfl
def Qw(m k):(rk m (kY m) (k+1))=CL m (kY m) (rk m (kY m) k):=rfl
def qhh(m):jY (m+1)=Dz m (jY m) (ul m (jY m) m):=rfl
def Q3(m k):(ul m (jY m) (k+1))=DJ m (jY m) (ul m (jY m) k):=rfl
def qe2(m):DN (m+1)=CP m (wE m m):=rfl
def qdx(m k):(wE m (k+1))=IX m (wE m k):=rfl
def qkg(m):lk (m+1)=ER m (lk m) (uO m (lk m) m):=rfl
def RU(m k):(uO m (lk m) (k+1))=EG m (lk m) (uO m (lk m) k):=rfl
def qiW(m):Gu (m+1)=ED m (uJ m m):=rfl
def Sc(m k):(uJ m (k+1))=EA m (uJ m k):=rfl
def qb5(m):yM (m+1)=IH m:=rfl
def qcX(m):jD (m+1)=B3 m (jD m) (tM m (jD m) m):=rfl
def P4(m k):(tM m (jD m) (k+1))=BY m (jD m) (tM m (jD m) k):=rfl
def qbu(m):yI (m+1)=Ix m:=rfl
def qac(m):Bv (m+1)=Bu m (tx m m):=rfl
def Pt(m k):(tx m (k+1))=Bt m (tx m k):=rfl
def qcg(m):yL (m+1)=IC m:=rfl
def qbQ(m):kV (m+1)=BO m (kV m) (ra m (kV m) m):=rfl
def PR(m k):(ra m (kV m) (k+1))=BR m (kV m) (ra m (kV m) k):=rfl
def qf4(m):uy (m+1)=Jj m:=rfl
def qcY(m):wF (m+1)=B1 m (rh m m):=rfl
def P5(m k):(rh m (k+1))=Cb m (rh m k):=rfl
def qds(m):rz (m+1)=Cn m (fG m m).1 (fG m m).2.1 (fG m m).2.2:=rfl
def Qe(m k):(fG m (k+1)).1=Cp m (fG m k).1 (fG m k).2.1 (fG m k).2.2:=rfl
def Qd(m k):(fG m (k+1)).2.1=Ch m (fG m k).1 (fG m k).2.1 (fG m k).2.2:=rfl
def Qc(m k):(fG m (k+1)).2.2=Cf m (fG m k).1 (fG m k).2.1 (fG m k).2.2:=rfl
def qb6(m):Cy (m+1)=BX m (tJ m m):=rfl
def PS(m k):(tJ m (k+1))=BW m (tJ m k):=rfl
def qbq(m):B9 (m+1)=Iv m:=rfl
def qau(m):Bz (m+1)=Bw m (wu m m):=rfl
def Il(m k):(wu m (k+1))=yA m (wu m k):=rfl
def qaj(m):Bx (m+1)=Ij m:=rfl
def qcl(m):CI (m+1)=IE m:=rfl
def qeS(m):DU (m+1)=CO m (tX m m):=rfl
def Qz(m k):(tX m (k+1))=CC m (tX m k):=rfl
def qff(m):DY (m+1)=I2 m:=rfl
def qdo(m):lP (m+1)=Cm m (lP m) (tO m (lP m) m):=rfl
def Qa(m k):(tO m (lP m) (k+1))=Ck m (lP m) (tO m (lP m) k):=rfl
def qdm(m):DB (m+1)=IT m:=rfl
def qcx(m):Df (m+1)=IJ m:=rfl
def qbn(m):kU (m+1)=BH m (kU m) (qZ m (kU m) m):=rfl
def PG(m k):(qZ m (kU m) (k+1))=BG m (kU m) (qZ m (kU m) k):=rfl
def qfe(m):yU (m+1)=I5 m:=rfl
def qcj(m):wD (m+1)=II m:=rfl
def qa2(m):BL (m+1)=Ir m:=rfl
def qbw(m):lN (m+1)=BM m (lN m) (tF m (lN m) m):=rfl
def PI(m k):(tF m (lN m) (k+1))=BK m (lN m) (tF m (lN m) k):=rfl
def qay(m):ww (m+1)=qv (dp m):=rfl
def qc5(m):nW (m+1)=IL m:=rfl
def qav(m):wv (m+1)=AS (nW m):=rfl
def qee(m):Jx (m+1)=CT m (tW m m):=rfl
def Qy(m k):(tW m (k+1))=CQ m (tW m k):=rfl
def qfU(m):JM (m+1)=Jh m:=rfl
def qhn(m):zu (m+1)=Jz m:=rfl
def qdH(m):DG (m+1)=IN m:=rfl
def qa9(m):kT (m+1)=BF m (kT m) (qY m (kT m) m):=rfl
def PD(m k):(qY m (kT m) (k+1))=BE m (kT m) (qY m (kT m) k):=rfl
def qfX(m):Et (m+1)=I9 m:=rfl
def qbI(m):yJ (m+1)=IB m:=rfl
def qbp(m):Ca (m+1)=BJ m (tG m m):=rfl
def PJ(m k):(tG m (k+1))=BI m (tG m k):=rfl
def qeI(m):gm (m+1)=CH m (gm m) (jU m (gm m) m).1 (jU m (gm m) m).2:=rfl
def Ql(m k):(jU m (gm m) (k+1)).1=Cv m (gm m) (jU m (gm m) k).1 (jU m (gm m) k).2:=rfl
def Qu(m k):(jU m (gm m) (k+1)).2=CS m (gm m) (jU m (gm m) k).1 (jU m (gm m) k).2:=rfl
def IR(m):jV (m+1)=wC m (jV m) (rc m (jV m) m):=rfl
def PT(m k):(rc m (jV m) (k+1))=B5 m (jV m) (rc m (jV m) k):=rfl
def Q0(m):Er (m+1)=C0 m:=rfl
def qhc(m):pV (m+1)=Jr m:=rfl
def qgV(m):uF (m+1)=Jm m:=rfl
def qgi(m):yZ (m+1)=Jd m:=rfl
def qht(m):jm (m+1)=DZ m (jm m) (uw m (jm m) m):=rfl
def Rn(m k):(uw m (jm m) (k+1))=DT m (jm m) (uw m (jm m) k):=rfl
def qbR(m):pN (m+1)=BS m (jC m m).1 (jC m m).2:=rfl
def PO(m k):(jC m (k+1)).1=BT m (jC m k).1 (jC m k).2:=rfl
def PQ(m k):(jC m (k+1)).2=BP m (jC m k).1 (jC m k).2:=rfl
def qcs(m):IZ (m+1)=IG m:=rfl
def qeU(m):iR (m+1)=I1 m (iR m) (kR m) (jT m) (kS m):=rfl
def qan(m):kR (m+1)=Ik m (iR m) (kR m) (jT m) (kS m):=rfl
def qba(m):jT (m+1)=Iu m (iR m) (kR m) (jT m) (kS m):=rfl
def qaw(m):kS (m+1)=By m (iR m) (kR m) (jT m) (kS m) (tz m (iR m) (kR m) (jT m) (kS m) m):=rfl
def Im(m k):(tz m (iR m) (kR m) (jT m) (kS m) (k+1))=yB m (iR m) (kR m) (jT m) (kS m) (tz m (iR m) (kR m) (jT m) (kS m) k):=rfl
def qbZ(m):Cj (m+1)=BU m (tH m m):=rfl
def PN(m k):(tH m (k+1))=BQ m (tH m k):=rfl
def qbt(m):lM (m+1)=Iw m:=rfl
def qam(m):wo (m+1)=qv (lM m):=rfl
def qca(m):CJ (m+1)=ID m:=rfl
def qfv(m):JG (m+1)=CX m (mP m m):=rfl
def I8(m k):(mP m (k+1))=yO m (mP m k):=rfl
def qft(m):Eo (m+1)=I6 m:=rfl
def qbx(m):tI (m+1)=BN m (jl m m).1 (jl m m).2:=rfl
def Iy(m k):(jl m (k+1)).1=yF m (jl m k).1 (jl m k).2:=rfl
def Iz(m k):(jl m (k+1)).2=yH m (jl m k).1 (jl m k).2:=rfl
def qhz(m):iz (m+1)=JD m:=rfl
def qd9(m):lR (m+1)=CW m (lR m) (tU m (lR m) m):=rfl
def Qx(m k):(tU m (lR m) (k+1))=Cu m (lR m) (tU m (lR m) k):=rfl
def qhD(m):Fs (m+1)=D7 m (uB m m):=rfl
def Rh(m k):(uB m (k+1))=D1 m (uB m k):=rfl
def qhH(m):Ft (m+1)=JE m:=rfl
def qgo(m):jX (m+1)=DD m (jX m) (ui m (jX m) m):=rfl
def QU(m k):(ui m (jX m) (k+1))=DC m (jX m) (ui m (jX m) k):=rfl
def qfO(m):lU (m+1)=C6 m (lU m) (ue m (lU m) m):=rfl
def QI(m k):(ue m (lU m) (k+1))=C9 m (lU m) (ue m (lU m) k):=rfl
def qfg(m):yS (m+1)=IV m:=rfl
def qfK(m):Ey (m+1)=I7 m:=rfl
def qd8(m):wL (m+1)=CG m (tT m m):=rfl
def Qq(m k):(tT m (k+1))=Cw m (tT m k):=rfl
def qgv(m):EY (m+1)=Jp m:=rfl
def qfp(m):lT (m+1)=C7 m (lT m) (ua m (lT m) m):=rfl
def QC(m k):(ua m (lT m) (k+1))=C1 m (lT m) (ua m (lT m) k):=rfl
def qf8(m):lh (m+1)=Jk m:=rfl
def qg5(m):uE (m+1)=Dy m (um m m):=rfl
def Q6(m k):(um m (k+1))=Dt m (um m k):=rfl
def qgw(m):EB (m+1)=DH m (uj m m):=rfl
def Q5(m k):(uj m (k+1))=Dr m (uj m k):=rfl
def qev(m):DL (m+1)=CD m (tY m m):=rfl
def Qn(m k):(tY m (k+1))=CB m (tY m k):=rfl
def qgh(m):lc (m+1)=Dj m (lc m) (rp m (lc m) m):=rfl
def QH(m k):(rp m (lc m) (k+1))=Db m (lc m) (rp m (lc m) k):=rfl
def qgg(m):wN (m+1)=Jg m:=rfl
def qec(m):uk (m+1)=I0 m:=rfl
def qdb(m):jE (m+1)=Cg m (jE m) (tP m (jE m) m):=rfl
def P7(m k):(tP m (jE m) (k+1))=Ce m (jE m) (tP m (jE m) k):=rfl
def qgD(m):pW (m+1)=Jo m:=rfl
def qhI(m):ke (m+1)=D5 m (ke m) (uq m (ke m) m):=rfl
def Rd(m k):(uq m (ke m) (k+1))=Ed m (ke m) (uq m (ke m) k):=rfl
def qin(m):oU (m+1)=JH m:=rfl
def qdp(m):Ds (m+1)=IM m:=rfl
def qfN(m):Eu (m+1)=Dm m (uc m m):=rfl
def QD(m k):(uc m (k+1))=Dp m (uc m k):=rfl
def qg6(m):ET (m+1)=Jn m:=rfl
def qhC(m):zA (m+1)=DR m (ur m m):=rfl
def Re(m k):(ur m (k+1))=DX m (ur m k):=rfl
def qhL(m):EZ (m+1)=D9 m (ut m m):=rfl
def Q7(m k):(ut m (k+1))=DV m (ut m k):=rfl
def qeH(m):Ea (m+1)=CK m (tV m m):=rfl
def Qm(m k):(tV m (k+1))=CU m (tV m k):=rfl
def qgN(m):zc (m+1)=Dw m (rA m m):=rfl
def QY(m k):(rA m (k+1))=Dv m (rA m k):=rfl
def qcS(m):kW (m+1)=BZ m (kW m) (ri m (kW m) m):=rfl
def PU(m k):(ri m (kW m) (k+1))=B6 m (kW m) (ri m (kW m) k):=rfl
def qg3(m):ES (m+1)=Jq m:=rfl
def qho(m):Fh (m+1)=DQ m (ux m m):=rfl
def Ro(m k):(ux m (k+1))=DS m (ux m k):=rfl
def qdN(m):wK (m+1)=IP m:=rfl
def qfn(m):kZ (m+1)=Di m (kZ m) (rt m (kZ m) m):=rfl
def QS(m k):(rt m (kZ m) (k+1))=C8 m (kZ m) (rt m (kZ m) k):=rfl
def qhZ(m):zC (m+1)=D4 m (pS m m):=rfl
def Rk(m k):(pS m (k+1))=DM m (pS m k):=rfl
def qc9(m):kX (m+1)=Ct m (kX m) (rj m (kX m) m):=rfl
def Qf(m k):(rj m (kX m) (k+1))=Cq m (kX m) (rj m (kX m) k):=rfl
def qiM(m):xg (m+1)=JN m:=rfl
def qfF(m):wP (m+1)=C4 m (ru m m):=rfl
def QR(m k):(ru m (k+1))=Do m (ru m k):=rfl
def qcv(m):De (m+1)=B8 m (dn m m).1 (dn m m).2.1 (dn m m).2.2.1 (dn m m).2.2.2:=rfl
def P1(m k):(dn m (k+1)).1=B0 m (dn m k).1 (dn m k).2.1 (dn m k).2.2.1 (dn m k).2.2.2:=rfl
def PZ(m k):(dn m (k+1)).2.1=B7 m (dn m k).1 (dn m k).2.1 (dn m k).2.2.1 (dn m k).2.2.2:=rfl
def PW(m k):(dn m (k+1)).2.2.1=B4 m (dn m k).1 (dn m k).2.1 (dn m k).2.2.1 (dn m k).2.2.2:=rfl
def P3(m k):(dn m (k+1)).2.2.2=B2 m (dn m k).1 (dn m k).2.1 (dn m k).2.2.1 (dn m k).2.2.2:=rfl
def qgM(m):uC (m+1)=Ju m:=rfl
def qdq(m):yP (m+1)=IQ m:=rfl
def qdY(m):DA (m+1)=Cs m (tN m m):=rfl
def P9(m k):(tN m (k+1))=Cc m (tN m k):=rfl
def qhY(m):Fe (m+1)=D0 m (rC m m):=rfl
def Rr(m k):(rC m (k+1))=DP m (rC m k):=rfl
def qfV(m):Em (m+1)=Ji m:=rfl
def qd7(m):lQ (m+1)=CE m (lQ m) (tZ m (lQ m) m):=rfl
def Qk(m k):(tZ m (lQ m) (k+1))=CM m (lQ m) (tZ m (lQ m) k):=rfl
def qfh(m):Eb (m+1)=I4 m:=rfl
def qfl(m):Eh (m+1)=Dd m (uf m m):=rfl
def QF(m k):(uf m (k+1))=CZ m (uf m k):=rfl
def qhF(m):Fw (m+1)=D6 m (uv m m):=rfl
def Rm(m k):(uv m (k+1))=Ec m (uv m k):=rfl
def qgB(m):EX (m+1)=DI m (uh m m):=rfl
def QX(m k):(uh m (k+1))=Dx m (uh m k):=rfl
def qgX(m):EW (m+1)=Jt m:=rfl
def qe7(m):DO (m+1)=I3 m:=rfl
def qfj(m):Es (m+1)=Jf m:=rfl
def qgf(m):mR (m+1)=C2 m (mR m) (wH m (mR m) m):=rfl
def QN(m k):(wH m (mR m) (k+1))=C5 m (mR m) (wH m (mR m) k):=rfl
def qf5(m):yX (m+1)=Dn m (wI m m):=rfl
def QM(m k):(wI m (k+1))=C3 m (wI m k):=rfl
def qde(m):wG (m+1)=IU m:=rfl
def qcf(m):CF (m+1)=IF m:=rfl
def qgq(m):zr (m+1)=Du m (uo m m):=rfl
def QT(m k):(uo m (k+1))=DE m (uo m k):=rfl
def qf6(m):Ek (m+1)=Dl m (ub m m):=rfl
def QE(m k):(ub m (k+1))=Dh m (ub m k):=rfl
def qd2(m):DF (m+1)=IS m:=rfl
def qf7(m):lg (m+1)=Dg m (lg m) (ry m (lg m) m):=rfl
def QG(m k):(ry m (lg m) (k+1))=Dc m (lg m) (ry m (lg m) k):=rfl
def qaU(m):law20_EnvelopeStrings (m+1)=Io m:=rfl
end Go.AmZ
namespace Go.GxZ
def size:T->Nat:=T.para λ _ a=>1+a.sum
theorem bX(t:T):size t=1+(t.kids.map size).sum:=T.para_eq _ _
def size_pos(t:T):1<=size t:=by rw[bX];omega
def qiF(l:aa T):I l<=(l.map size).sum:=by
 induction l with
 |nil=>simp
 |cons x l a=>have:=size_pos x;simp only[bG,aZ,ji];omega
def EH(l:aa T)(x:T)(h:x∈l):size x<=(l.map size).sum:=by
 induction l with
 |nil=>cases h
 |cons y l a=>
   simp only[aZ,ji];obtain rfl|h:=bi.1 h
   .omega
   .have:=a h;omega
def du(t:T)(x:T)(h:x∈t.kids):size x<size t:=by
 have:=EH t.kids x h;rw[bX t];omega
def dK(t:T):I t.kids<size t:=by
 have:=qiF t.kids;rw[bX t];omega
def sgn(a b:Int):Int:=if a<b then -1 else if b<a then 1 else 0
def thn(x y:Int):Int:=if x=0 then y else x
structure Cmp {α:Type} (f:α->α->Int):Prop where
 rng:∀a b,f a b=-1\/f a b=0\/f a b=1
 anti:∀a b,f b a=- f a b
 trans:∀a b c,f a b=-1->f b c=-1->f a c=-1
 same:∀a b c,f a b=0->f b c=f a c
theorem Cmp.thn{α : Type}{f g : α -> α -> Int}(hf:Cmp f)(hg:Cmp g):Cmp λ a b=>thn (f a b) (g a b):=by
 constructor
 ·intro a b;have:=hf.rng a b;have:=hg.rng a b;unfold GxZ.thn;split<;>omega
 ·intro a b;have:=hf.anti a b;have:=hg.anti a b;unfold GxZ.thn;split<;>split<;>omega
 ·intro a b c h1 h2;have a1:=hf.anti a b;have a2:=hf.anti b c;have a3:=hf.anti a c;have t1:=hf.trans a b c;have t2:=hg.trans a b c;have s1:=hf.same a b c;have s2:=hf.same c b a;have r1:=hf.rng a b;have r2:=hf.rng b c;have r3:=hf.rng a c;unfold GxZ.thn at h1 h2 |-
  by_cases x1:f a b=0
  ·by_cases x2:f b c=0
   ·rw[ag x1]at h1;rw[ag x2]at h2;rw[ag (by rw[<- s1 x1];exact x2)];exact t2 h1 h2
   ·rw[af x2]at h2;rw[af (by rw[<- s1 x1];exact x2),<- s1 x1];exact h2
  ·rw[af x1]at h1;by_cases x2:f b c=0
   ·have:=s2 (by omega);rw[af (by omega)];omega
   ·rw[af x2]at h2;have:=t1 h1 h2;rw[af (by omega)];exact this
 ·intro a b c h
  have x1:f a b=0:=by
   unfold GxZ.thn at h;split at h
   ·assumption
   ·exact absurd h (by assumption)
  have x2:g a b=0:=by
   unfold GxZ.thn at h
   rwa [ag x1]at h
  show GxZ.thn _ _=GxZ.thn _ _;rw[hf.same a b c x1,hg.same a b c x2]
def Cmp.on{α d:Type}{f:d->d->Int}(c:Cmp f)(p:α->d):Cmp λ a b=>f (p a) (p b):=
 ⟨λ _ _=>c.rng _ _,λ _ _=>c.anti _ _,λ _ _ _=>c.trans _ _ _,λ _ _ _=>c.same _ _ _⟩
def GC:Cmp sgn:=by
 constructor
 .intro a b;unfold sgn;split<;>(try split)<;>omega
 .intro a b;unfold sgn;split<;>split<;>(try split)<;>omega
 .intro a b c;unfold sgn;split<;>split<;>(try split)<;>(try split)<;>omega
 .intro a b c;unfold sgn;split<;>split<;>(try split)<;>(try split)<;>omega
theorem Ac{a b:Int}(h:sgn a b=0):a=b:=by unfold sgn at h;split at h<;>(try split at h)<;>omega
def qlY(a:Int):sgn a a=0:=by unfold sgn;split<;>(try split)<;>omega
open Lib (compareBytes)
theorem Tv(a:aa aA):compareBytes a a=0:=by
 induction a with
 |nil=>rfl
 |cons x a b=>simp[compareBytes,b]
theorem F2:∀a b:aa aA,compareBytes a b=-1\/compareBytes a b=0\/compareBytes a b=1
 |[],[]|[],_::_|_::_,[]=>by simp[compareBytes]
 |x::a,y::b=>by
   unfold compareBytes;split
   .simp
   .split
    .simp
    .exact F2 a b
def TA:∀a b:aa aA,compareBytes b a=- compareBytes a b
 |[],[]|[],_::_|_::_,[]=>by simp[compareBytes]
 |x::a,y::b=>by
   have:=TA a b;unfold compareBytes;simp only[Pm];split<;>split<;>(try split)<;>omega
theorem Ff:∀a b:aa aA,compareBytes a b=0->a=b
 |[],[],_=>rfl
 |[],_::_,h|_::_,[],h=>by simp[compareBytes]at h
 |x::a,y::b,h=>by
   unfold compareBytes at h;simp only[Pm]at h;split at h
   .omega
   .split at h
    .omega
    .rw[Ff a b h,UInt8.toNat_inj.1 (show x.toNat=y.toNat by omega)]
def RP:∀ a b c:aa aA,compareBytes a b=-1->compareBytes b c=-1->compareBytes a c=-1
 | [],_,[],h1,h2=>by
   next b=>cases b<;>simp[compareBytes]at h1 h2
 | [],_,_::_,_,_=>by simp[compareBytes]
 | _::_,[],_,h1,_=>by simp[compareBytes]at h1
 | _::_,_::_,[],_,h2=>by simp[compareBytes]at h2
 | x::a,y::b,z::c,h1,h2=>by
   have ih:=RP a b c;unfold compareBytes at h1 h2 |-
   simp only[Pm]at h1 h2 |-
   split at h1
   ·split at h2
    ·rw[ifP]
    ·split at h2
     ·omega
     ·rw[ifP]
   ·split at h1
    ·omega
    ·split at h2
     ·rw[ifP]
     ·split at h2
      ·omega
      ·rw[ifN,ifN];exact ih h1 h2
def qk4:Cmp compareBytes:=
 ⟨F2,TA,RP,λ a b c h=>by rw[Ff a b h]⟩
def eB:aa (T->Int)->aa T->Int
 |r::a,b::c=>thn (r b) (eB a c)
 |_,_=>0
def nu(a b:T):Int:=
 thn (sgn (size a) (size b)) (thn (sgn a.kind b.kind) (thn (compareBytes a.name b.name) (thn (sgn a.sort b.sort) (sgn (I a.kids) (I b.kids)))))
def aQ:T->T->Int:=T.para λ a c b=>thn (nu a b) (eB c b.kids)
def rS(a b:T):aQ a b=thn (nu a b) (eB (a.kids.map aQ) b.kids):=tj (T.para_eq _ _) b
def rL:Cmp nu:=
 (GC.on λ t:T=>(size t:Int)).thn ((GC.on T.kind).thn ((qk4.on T.name).thn ((GC.on T.sort).thn (GC.on λ t:T=>(I t.kids:Int)))))
def uT{x y:Int}(h:thn x y=0):x=0/\y=0:=by unfold thn at h;split at h<;>omega
def KD{a b:T}(h:nu a b=0):a.kind=b.kind/\a.name=b.name/\a.sort=b.sort/\I a.kids=I b.kids:=by
 unfold nu at h;let⟨_,h⟩:=uT h;let⟨f,h⟩:=uT h;let⟨e,h⟩:=uT h;let⟨d,c⟩:=uT h;have:=Ac c;exact⟨Ac f,Ff _ _ e,Ac d,by omega⟩
def qjX(a:T):nu a a=0:=by
 unfold nu thn;simp[qlY,Tv]
def T.ext{a b:T}(f:a.kind=b.kind)(e:a.name=b.name)(d:a.sort=b.sort)(c:a.kids=b.kids):a=b:=by
 let⟨k,n,s,l⟩:=a;let⟨j,h,g,i⟩:=b;simp only[T.kind,T.name,T.sort,T.kids]at f e d c;rw[f,e,d,c]
theorem Fv(a:T):aQ a a=0:=by
 refine T.ind (P:=λ a=>aQ a a=0) ?_ a;intro a c;rw[rS,qjX,thn,ag rfl];generalize a.kids=l at*
 induction l with
 |nil=>rfl
 |cons x l b=>
   rw[aZ,eB,c x (aW ..),thn,ag rfl];exact b λ k d=>c k (aS _ d)
theorem mU(a:T):∀b,aQ a b=0->a=b:=by
 refine T.ind (P:=λ a=>∀b,aQ a b=0->a=b) ?_ a;intro a e b h;rw[rS]at h;let⟨g,f⟩:=uT h;let⟨n,j,i,c⟩:=KD g;apply T.ext n j i;generalize a.kids=l at *;generalize b.kids=m at *;clear h g
 induction l generalizing m with
 |nil=>exact(pH.1 c.symm).symm
 |cons x l d=>
   cases m with
   |nil=>simp at c
   |cons y m=>
     rw[aZ,eB]at f;let⟨q,p⟩:=uT f;rw[e x (aW ..) y q,d (λ k o=>e k (aS _ o)) m p (by simpa using c)]
def AN(a:T):Prop:=(∀b,aQ a b=-1\/aQ a b=0\/aQ a b=1)/\(∀b,aQ b a=- aQ a b)/\(∀b c,aQ a b=-1->aQ b c=-1->aQ a c=-1)
def UQ:∀l m:aa T,(∀k∈l,AN k)->eB (l.map aQ) m=-1\/eB (l.map aQ) m=0\/eB (l.map aQ) m=1
 |[],_,_|_::_,[],_=>by simp[eB]
 |x::l,y::m,h=>by
   rw[aZ,eB];have c:=(h x (aW ..)).1 y;have b:=UQ l m λ k a=>h k (aS _ a);unfold thn;split<;>omega
def Tj:∀l m:aa T,(∀k∈l,AN k)->eB (m.map aQ) l=- eB (l.map aQ) m
 |[],[],_|[],_::_,_|_::_,[],_=>by simp[eB]
 |x::l,y::m,h=>by
   rw[aZ,eB,aZ,eB];have c:=(h x (aW ..)).2.1 y;have b:=Tj l m λ k a=>h k (aS _ a);unfold thn;split<;>split<;>omega
def R3:∀l m n:aa T,(∀k∈l,AN k)->I l=I m->I m=I n->eB (l.map aQ) m=-1->eB (m.map aQ) n=-1->eB (l.map aQ) n=-1
 |[],_,_,_,_,_,h,_=>by simp[eB]at h
 |_::_,[],_,_,h,_,_,_|_::_,_::_,[],_,_,h,_,_=>by simp at h
 |x::l,y::m,z::n,h,e1,j,b,a=>by
   rw[aZ,eB]at b a |-
   have g:=h x (aW ..);have f:=R3 l m n (λ k i=>h k (aS _ i)) (by simpa using e1) (by simpa using j);have e:=g.2.2 y z;by_cases d:aQ x y=0
   .have:=mU x y d;subst this;rw[thn,ag d]at b;by_cases c:aQ x z=0
    .rw[thn,ag c]at a |-
     exact f b a
    .rw[thn,af c]at a |-
     exact a
   .rw[thn,af d]at b;by_cases c:aQ y z=0
    .have:=mU y z c;subst this;rw[thn,af d];exact b
    .rw[thn,af c]at a;have:=e b a;rw[thn,ifN];exact this
def Nh(a:T):AN a:=by
 refine T.ind (P:=AN) ?_ a;intro a i;refine⟨λ b=>?_,λ b=>?_,λ b c g d=>?_⟩
 .rw[rS];have g:=rL.rng a b;have d:=UQ a.kids b.kids i;unfold thn;split<;>omega
 .rw[rS,rS];have g:=rL.anti a b;have d:=Tj a.kids b.kids i;unfold thn;split<;>split<;>omega
 .rw[rS]at g d |-
  by_cases h:nu a b=0
  .rw[thn,ag h]at g;have e:=rL.same a b c h;by_cases f:nu b c=0
   .rw[thn,ag f]at d;rw[thn,ag (by rw[<-e];exact f)];exact R3 _ _ _ i (KD h).2.2.2 (KD f).2.2.2 g d
   .rw[thn,af f]at d;rw[thn,af (by rw[<-e];exact f),<-e];exact d
  .rw[thn,af h]at g;by_cases f:nu b c=0
   .have e1:=rL.anti b c;have l:=rL.same c b a (by omega);have k:=rL.anti a b;have j:=rL.anti a c;rw[thn,ifN];omega
   .rw[thn,af f]at d;have:=rL.trans a b c g d;rw[thn,ifN];exact this
def eZ:Cmp aQ:=
 ⟨λ a=>(Nh a).1,λ a b=>(Nh a).2.1 b,λ a=>(Nh a).2.2,λ a b c h=>by rw[mU a b h]⟩
def qk3(a b:T):aQ a b=0↔a=b:=⟨mU a b,λ h=>by rw[h];exact Fv b⟩
def QZ:∀a b:aa aA,Op.bytesLess a b=J (compareBytes a b=-1)
 |[],[]|[],_::_|_::_,[]=>by simp[Op.bytesLess,compareBytes]
 |x::a,y::b=>by
   rw[Op.bytesLess,compareBytes,QZ a b];by_cases d:x<y
   .simp[d]
   .by_cases c:y<x
    .have:¬ x=y:=λ e=>by rw[e]at c;exact d (by rw[e];exact c)
     simp[d,c,this]
    .have:x=y:=UInt8.toNat_inj.1 (by rw[Pm]at d c;omega);simp[this]
end Go.GxZ
namespace Go.GxZ
def oI:aa (Int->Int)->Int->Int
 |[],m=>m
 |f::a,m=>if f m<0 then -1 else oI a (f m)
def gC:T->Int->Int:=T.para λ t a m=>if m<=0\/40<I t.name then -1 else oI a (m-1)
theorem Wc(t:T)(m:Int):gC t m=if m<=0\/40<I t.name then -1 else oI (t.kids.map gC) (m-1):=tj (T.para_eq _ _) m
def KA(t:T):∀m,gC t m<0/\gC t m=-1\/0<=gC t m/\gC t m=m-size t:=by
 refine T.ind (P:=λ t=>∀m,gC t m<0/\gC t m=-1\/0<=gC t m/\gC t m=m-size t) ?_ t;intro t e m
 have g:∀l:aa T,(∀k∈l,k∈t.kids)->∀m,0<=m->(oI (l.map gC) m<0/\oI (l.map gC) m=-1\/0<=oI (l.map gC) m/\oI (l.map gC) m=m-((l.map size).sum:Nat)):=by
  intro l
  induction l with
  |nil=>intro _ m b;right;simp[oI];exact b
  |cons x l a=>
    intro c m b;simp only[aZ,oI,ji];have i:=e x (c x (aW ..)) m;by_cases d:gC x m<0
    .rw[ag d];left;exact⟨by omega,rfl⟩
    .rw[af d];have h:=a (λ k f=>c k (aS _ f)) (gC x m) (by omega);omega
 grind [Wc,bX]
def bU:T->Nat:=T.para λ _ a=>a.foldl max 0+1
def jq(t:T):bU t=(t.kids.map bU).foldl max 0+1:=T.para_eq _ _
def qhj(l:aa Nat):∀(a b:Nat),a<=b->(∀x∈l,x<=b)->l.foldl max a<=b:=by
 induction l with
 |nil=>intro a b h _;exact h
 |cons x l d=>intro a b h c;exact d _ _ (Nat.max_le.2 ⟨h,c x (aW ..)⟩) λ y e=>c y (aS _ e)
def Wz(t:T):bU t<=size t:=by
 refine T.ind (P:=λ t=>bU t<=size t) ?_ t;intro t b;rw[jq,bX]
 have:(t.kids.map bU).foldl max 0<=(t.kids.map size).sum:=by
  refine qhj _ _ _ (aL _) λ x c=>?_;obtain⟨k,a,rfl⟩:=bu.1 c;exact bR (b k a) (EH _ _ a)
 omega
def iL(c:Int):Bool:=J (97<=c/\c<=122)||J (65<=c/\c<=90)
def sY(c:Int):Bool:=J (48<=c/\c<=57)
def ew(c:Int):Bool:=iL c||sY c||J (c=95)||J (c=35)
def dL(l:aa aA):Bool:=J (0<I l)&&J (I l<=24)&&iL ((l.getD 0 0).toNat:Int)&&l.all λ c=>ew (c.toNat:Int)
def iY(k so:Int)(n:Nat)(a:Bool):Int:=
 if k=1\/k=2 then(if so<0\/5<so\/0<n then 1 else if a then 0 else 2)
 else if k=3 then(if so≠0 then 1 else if a then(if 8<n then 3 else 0)else 2)
 else 1
def de(t:T):Int:=iY t.kind t.sort (I t.kids) (dL t.name)
def cn:T->Int:=T.para λ t a=>a.foldl thn (de t)
def nY(t:T):cn t=(t.kids.map cn).foldl thn (de t):=T.para_eq _ _
def gZ{x:Int}(h:x≠0)(y:Int):thn x y=x:=af h
theorem fT(l:aa Int):∀{x:Int},x≠0->l.foldl thn x=x:=by
 induction l with
 |nil=>intro x _;rfl
 |cons y l a=>intro x h;rw[jy,gZ h];exact a h
def rm(l:aa Int)(x:Int):(x::l).foldl thn 0=l.foldl thn x:=rfl
theorem JJ{t:T}(h:cn t=0:=by omega):de t=0/\(∀k∈t.kids,cn k=0):=by
 rw[nY]at h;by_cases a:de t=0
 .refine⟨a,?_⟩;rw[a]at h;generalize t.kids=l at *;clear a
  induction l with
  |nil=>intro k b;cases b
  |cons x l c=>
    rw[aZ,rm]at h;grind [fT]
 .grind [fT]
def aN(t:T):Int:=if cn t≠0 then cn t else if 400<size t\/40<bU t then 3 else 0
def Rc(l:aa Nat):∀a:Nat,a<=l.foldl max a:=by
 induction l with
 |nil=>intro a;exact al _
 |cons x l b=>intro a;exact bR (OV a x) (b _)
instance:DecidableEq T:=λ _ _=>Classical.propDecidable _
def bY(a b:T):Bool:=J (a=b)
def qG:aa T->Int->Bool
 |[],_=>O
 |x::l,m=>if gC x m<0 then Y else qG l (gC x m)
def SS:∀(l:aa T) (m:Int),0<=m->qG l m=O->((l.map size).sum:Nat)<=m
 |[],m,a,_=>by simpa using a
 |x::l,m,a,h=>by
   rw[qG]at h;by_cases b:gC x m<0
   .grind
   .rw[af b]at h;have d:=KA x m;have c:=SS l (gC x m) (by omega) h;grind
def dj:aa (aa aA×Int×Int×Int):=[
 ([112,97,105,114],2,2,1),
 ([101,110,99],2,2,1),
 ([97,101,110,99],2,2,1),
 ([112,107],1,1,1),
 ([115,105,103,110],2,2,1),
 ([104,97,115,104],1,1,1),
 ([120,111,114],2,8,1),
 ([122,101,114,111],0,0,1),
 ([101,120,112],2,2,1),
 ([109,117,108],2,8,1),
 ([105,110,118],1,1,1),
 ([111,110,101],0,0,1),
 ([115,107],1,1,2),
 ([115,104,107],2,2,2),
 ([110,101,119],1,8,2),
 ([102,115,116],1,1,3),
 ([115,110,100],1,1,3),
 ([100,101,99],2,2,3),
 ([97,100,101,99],2,2,3),
 ([111,112,101,110],2,2,3),
 ([114,101,97,100],1,1,3)]
def yn(l:aa (aa aA×Int×Int×Int))(n:aa aA):Int×Int×Int:=((l.find? λ r=>r.1==n).map (·.2)).getD (0,0,0)
theorem qjz(r:aa aA×Int×Int×Int)(l:aa (aa aA×Int×Int×Int))(n:aa aA):yn (r::l) n=if(r.1==n)=O then r.2 else yn l n:=by
 grind [yn]
def N7(l:aa (aa aA×Int×Int×Int))(n:aa aA):Bool:=l.any λ r=>r.1==n
def py(l:aa (aa aA×Int×Int×Int))(n:aa aA)(k:Int):Bool:=N7 l n&&J ((yn l n).1<=k)&&J (k<=(yn l n).2.1)
def qke(r:aa aA×Int×Int×Int)(l:aa (aa aA×Int×Int×Int))(n:aa aA)(k:Int):
  py (r::l) n k=if(r.1==n)=O then J (r.2.1<=k)&&J (k<=r.2.2.1)else py l n k:=by
 grind [py,N7,qjz]
def vw:aa aA:=[112,97,105,114]
def qD:aa aA:=[101,110,99]
def pi:aa aA:=[97,101,110,99]
def nPk:aa aA:=[112,107]
def mo:aa aA:=[115,105,103,110]
def gB:aa aA:=[120,111,114]
def jb:aa aA:=[122,101,114,111]
def jc:aa aA:=[101,120,112]
def iN:aa aA:=[109,117,108]
def dZ:aa aA:=[105,110,118]
def kJ:aa aA:=[111,110,101]
def nSk:aa aA:=[115,107]
def vU:aa aA:=[115,104,107]
def lD:aa aA:=[110,101,119]
def Ol:aa aA:=[102,115,116]
def A1:aa aA:=[115,110,100]
def Oj:aa aA:=[100,101,99]
def Ni:aa aA:=[97,100,101,99]
def MV:aa aA:=[111,112,101,110]
def Nl:aa aA:=[114,101,97,100]
def zT:T:=.mk 0 [] 0 []
def kid(t:T)(i:Nat):T:=t.kids.getD i zT
def apT(n:aa aA)(l:aa T):T:=.mk 3 n 0 l
def isN(t:T)(n:aa aA):Bool:=t.kind==3&&t.name==n
def bK(n:aa aA):Int×Int×Int:=((dj.find? λ r=>r.1==n).map (·.2)).getD (0,0,0)
def iH(t:T):Bool:=
 if t.name=lD then J ((kid t 0).kind≠2)
 else if t.name=nSk\/t.name=vU then t.kids.any λ k=>J (k.kind=3)||J (k.sort≠1)else Y
def im(t:T):Int:=
 if t.kind≠3 then 0 else if(bK t.name).2.2=0 then 10 else if(I t.kids:Int)<(bK t.name).1\/(bK t.name).2.1<(I t.kids:Int)then 6 else if iH t then 10 else 0
def bL:T->Int:=T.para λ t a=>if t.kind≠3 then 0 else a.foldl thn (im t)
theorem Ai(t:T):bL t=if t.kind≠3 then 0 else(t.kids.map bL).foldl thn (im t):=T.para_eq _ _
def fZ(t:T):Int:=thn (aN t) (bL t)
def cZ(t:T):Bool:=
 if t.name=Ol\/t.name=A1 then isN (kid t 0) vw
 else if t.name=Oj then isN (kid t 0) qD&&bY (kid (kid t 0) 1) (kid t 1)
 else if t.name=Ni then isN (kid t 0) pi&&isN (kid (kid t 0) 1) nPk&&bY (kid (kid (kid t 0) 1) 0) (kid t 1)
 else if t.name=MV then isN (kid t 0) mo&&isN (kid t 1) nPk&&bY (kid (kid t 0) 1) (kid (kid t 1) 0)
 else if t.name=Nl then isN (kid t 0) mo else Y
def oF(t:T):T:=if cZ t then kid (kid t 0) (if t.name=A1 then 1 else 0)else t
def kw(t:T):Bool:=t.kind==3&&(t.name==iN||t.name==dZ||t.name==kJ)
abbrev Pw:=T×Int
def cE:aa Pw->T->Int->aa Pw
 |[],t,n=>[(t,n)]
 |(x,m)::l,t,n=>if aQ t x=-1 then(t,n)::(x,m)::l else if aQ t x=0 then(if m+n=0 then l else(x,m+n)::l)else(x,m)::cE l t n
def arK(t:T):Bool := !(t.name==kJ&&I t.kids != 0||t.name==dZ&&I t.kids != 1||t.name==iN&&J (I t.kids<2))
def arT:T->Bool:=T.para λ t a => !kw t||(arK t&&a.all id)
theorem GR(t:T):arT t=(!kw t||(arK t&&(t.kids.map arT).all id)):=T.para_eq _ _
def gd(t:T)(n:Int):Int:=if t.name=dZ then -n else n
def df:T->aa Pw->Int->aa Pw:=T.para λ t a l n=>if kw t then a.foldl (λ l f=>f l (gd t n)) l else cE l t n
theorem rV(t:T)(l:aa Pw)(n:Int):df t l n=if kw t then(t.kids.map df).foldl (λ l f=>f l (gd t n)) l else cE l t n:=by
 have h:df t=λ l n=>if kw t then(t.kids.map df).foldl (λ l f=>f l (gd t n)) l else cE l t n:=T.para_eq _ _;rw[h]
def ofP(t:T):aa Pw×Int:=
 if aN t≠0 then([],aN t)else if arT t=Y then([],6)else if 200<I (df t [] 1) then([],3)else(df t [] 1,0)
def pvK(q:ac T)(p:Pw):Int:=
 if aN p.1≠0 then aN p.1 else if kw p.1 then 1 else if p.2=0\/p.2 < -1000\/1000<p.2 then 7 else match q with|Z x=>if 0<=aQ x p.1 then 5 else 0|U=>0
def pvL:ac T->aa Pw->Int
 |_,[]=>0
 |q,p::l=>thn (pvK q p) (pvL (Z p.1) l)
def gx(l:aa Pw):Int:=if 200<I l then 3 else pvL U l
def cw(l:aa Pw):aa T:=l.flatMap λ p=>List.replicate p.2.toNat p.1
def cz(l:aa Pw):aa T:=l.flatMap λ p=>List.replicate (-p.2).toNat (apT dZ [p.1])
def fD(o:aa T):T:=if I o=0 then apT kJ []else if I o=1 then o.getD 0 zT else apT iN o
def ja(l:aa Pw):T×Int:=
 if gx l≠0 then(zT,gx l)else if 8<I (cw l++cz l) then(zT,3)
 else if aN (fD (cw l++cz l))≠0 then(zT,aN (fD (cw l++cz l)))else(fD (cw l++cz l),0)
def pF(l:aa Pw):Bool:=l.any λ p=>J (p.2 < -1000)||J (1000<p.2)
def eC(a b:aa Pw):aa Pw:=b.foldl (λ l p=>cE l p.1 p.2) a
def pu(a b:aa Pw):aa Pw×Int:=
 if gx a≠0 then([],gx a)else if gx b≠0 then([],gx b)else if pF (eC a b)then([],7)else if 200<I (eC a b) then([],3)else(eC a b,0)
def cq:aa T->aa T->aa T
 |[],b=>b
 |x::a,[]=>x::a
 |x::a,y::b=>if aQ x y=-1 then x::cq a (y::b)else if aQ x y=1 then y::cq (x::a) b else cq a b
termination_by a b=>I a+I b
def eU:T->aa T:=T.para λ t a=>if isN t jb&&t.kids.isEmpty then[]else if isN t gB then a.foldl cq []else[t]
def zN(t:T):eU t=if isN t jb&&t.kids.isEmpty then[]else if isN t gB then(t.kids.map eU).foldl cq []else[t]:=T.para_eq _ _
def xI(l:aa T):Int:=if 200<I l then 3 else(l.map aN).foldl thn 0
def dA(l:aa T):aa T:=(l.map eU).foldl cq []
def fA(o:aa T):T:=if I o=0 then apT jb []else if I o=1 then o.getD 0 zT else apT gB o
def qC(l:aa T):T×Int:=
 if xI l≠0 then(zT,xI l)else if aN (fA (dA l))≠0 then(zT,3)else(fA (dA l),0)
def my(b:T)(l:aa Pw):T×Int:=
 if I l=0 then(b,0)else if(ja l).2≠0 then(zT,(ja l).2)else(apT jc [b,(ja l).1],0)
def qQ(b e:T):T×Int:=
 if(ofP e).2≠0 then(zT,(ofP e).2)
 else if isN b jc then
  (if(ofP (kid b 1)).2≠0 then(zT,(ofP (kid b 1)).2)
   else if(pu (ofP (kid b 1)).1 (ofP e).1).2≠0 then(zT,(pu (ofP (kid b 1)).1 (ofP e).1).2)
   else my (kid b 0) (pu (ofP (kid b 1)).1 (ofP e).1).1)
 else my b (ofP e).1
def isD(n:aa aA):Bool:=n==Ol||n==A1||n==Oj||n==Ni||n==MV||n==Nl
def sx(t:T):T×Int:=if(ofP t).2≠0 then(zT,(ofP t).2)else ja (ofP t).1
def fe(t:T):T×Int:=
 if isD t.name then(oF t,0)else if t.name=gB then qC t.kids
 else if t.name=iN\/t.name=dZ\/t.name=kJ then sx t
 else if t.name=jc then qQ (kid t 0) (kid t 1)else(t,0)
def bV:T->T×Int:=T.para λ t a=>
 if t.kind≠3 then(t,0)else if(a.map (·.2)).foldl thn 0≠0 then(zT,(a.map (·.2)).foldl thn 0)else fe (apT t.name (a.map (·.1)))
def As(t:T):bV t=if t.kind≠3 then(t,0)else if((t.kids.map bV).map (·.2)).foldl thn 0≠0 then(zT,((t.kids.map bV).map (·.2)).foldl thn 0)else fe (apT t.name ((t.kids.map bV).map (·.1))):=T.para_eq _ _
def uX(t:T):T×Int:=
 if fZ t≠0 then(zT,fZ t)else if(bV t).2≠0 then(zT,(bV t).2)else if aN (bV t).1≠0 then(zT,aN (bV t).1)else bV t
def agB(l:aa T):Bool:=l.all λ k => !(k.kind==3) && !(k.sort != 1)
def xB(t:T):Bool:=if t.name=lD then(kid t 0).kind==2 else agB t.kids
def qkv(k:T)(l:aa T):agB (k::l)=((!(k.kind==3) && !(k.sort != 1))&&agB l):=rfl
end Go.GxZ
namespace Go.AmZ
open GxZ
section
open Lib
def E7(a b:Int):Ev (λ m _=>uk m a b) (sgn a b):=by
 apply aJ;simp only[qec,I0];unfold sgn;refine am (λ h=>?_) λ h=>?_
 .exact ay (by rw[ag (bf.1 h)])
 .rw[bg]at h;refine am (λ c=>?_) λ c=>?_
  .rw[bf]at c;exact ay (by rw[ifN,ag c])
  .rw[bg]at c;exact ay (by rw[ifN,ifN])
def KY{l:aa T}{i:Nat}{x:T}(h:l.drop i=x::l.drop (i+1)):((l.drop i).map size).sum=size x+((l.drop (i+1)).map size).sum:=by
 grind
def Lw(t:T):size t<=1000000000->Ev (λ m _=>jX m t) (size t:Int):=by
 induction t using T.ind with
 |h t d=>
   intro p;apply aJ;simp only[qgo,DD];have q:=dK t;have j:=bX t
   have b:=bA (P:=λ i=>∀a:Nat,a+((t.kids.drop i).map size).sum<=1000000000->Ev (λ m k=>ui m (jX m) k a i t.kind t.name t.sort t.kids) ((a+((t.kids.drop i).map size).sum:Nat):Int)) t.kids (by omega)
    (λ c a _=>by
     apply aF;simp only[QU,DC];apply ak c;exact ay (by simp))
    (λ i x e l c g f o a n=>by
     rw[KY l]at n |-
     apply aF;simp only[QU,DC];refine aj c (aw g ?_);rw[aH];apply ai (d x (aP e) (by omega));rw[f,xq,eR];refine(o (a+size x) (by omega)).res (by congr 1;omega))
   apply bj (L:=λ m k=>ui m (jX m) k 1 0 t.kind t.name t.sort t.kids);refine(b 0 (aL _) 1 (by simp;omega)).res (by rw[dl,j])
def UM(a b:Nat):pw (a:Int) (b:Int)=((max a b:Nat):Int):=by unfold pw;split<;>omega
def GA(a b:Int):Ev (λ m _=>uL m a b) (sgn a b):=by
 apply aJ;simp only[qhW,Jv];unfold sgn;refine am (λ h=>?_) λ h=>?_
 .exact ay (by rw[ag (bf.1 h)])
 .rw[bg]at h;refine am (λ c=>?_) λ c=>?_
  .rw[bf]at c;exact ay (by rw[ifN,ag c])
  .rw[bg]at c;exact ay (by rw[ifN,ifN])
def UZ(t:T):size t<=1000000000->Ev (λ m _=>li m t) (size t:Int):=by
 induction t using T.ind with
 |h t d=>
   intro p;apply aJ;simp only[qhx,Ef];have q:=dK t;have j:=bX t
   have b:=bA (P:=λ i=>∀a:Nat,a+((t.kids.drop i).map size).sum<=1000000000->Ev (λ m k=>uz m (li m) k a t.kids (I t.kids) i) ((a+((t.kids.drop i).map size).sum:Nat):Int)) t.kids (by omega)
    (λ c a _=>by
     apply aF;simp only[Ra,D3];apply ak c;exact ay (by simp))
    (λ i x e l c g f o a n=>by
     rw[KY l]at n |-
     apply aF;simp only[Ra,D3];refine aj c (aw g ?_);rw[aH];apply ai (d x (aP e) (by omega));rw[f,xq,eR];refine(o (a+size x) (by omega)).res (by congr 1;omega))
   apply bj (L:=λ m k=>uz m (li m) k 1 t.kids (I t.kids) 0);refine(b 0 (aL _) 1 (by simp;omega)).res (by rw[dl,j])
def qjr(t:T):size t<=1000000000->Ev (λ m _=>lU m t) (bU t:Int):=by
 induction t using T.ind with
 |h t e=>
   intro o;apply aJ;simp only[qfO,C6];have p:=dK t;have q:=bX t
   have b:=bA (P:=λ i=>∀a:Nat,a<=1000000000->Ev (λ m k=>ue m (lU m) k a i t.kind t.name t.sort t.kids) ((((t.kids.drop i).map bU).foldl max a+1:Nat):Int)) t.kids (by omega)
    (λ c a _=>by
     apply aF;simp only[QI,C9];apply ak c;rw[show aD (a:Int) 1=((a+1:Nat):Int) by unfold aD;omega,eR];exact ay (by simp))
    (λ i x f l c j g n a r=>by
     apply aF;simp only[QI,C9];refine aj c (aw j ?_);rw[aH];have d:=aP f;have u:=du t x d;have s:=Wz x;apply ai (e x d (by omega));rw[g,UM];apply (n (max a (bU x)) (by omega)).res;rw[l,aZ,jy])
   apply bj (L:=λ m k=>ue m (lU m) k 0 0 t.kind t.name t.sort t.kids);refine(b 0 (aL _) 0 (by omega)).res (by rw[dl,jq])
def Ux(a:aa (T->Int)):eB a []=0:=by cases a<;>rfl
def T9{l m:aa T}{i:Nat}{x y:T}(b:l.drop i=x::l.drop (i+1))(a:m.drop i=y::m.drop (i+1)):eB ((l.drop i).map aQ) (m.drop i)=thn (aQ x y) (eB ((l.drop (i+1)).map aQ) (m.drop (i+1))):=by
 rw[b,a,aZ];rfl
def VD{l:aa T}{i:Nat}{y:T}(h:l[i]?=Z y):l.drop i=y::l.drop (i+1):=by
 grind [List.getElem?_eq_some_iff,List.drop_eq_getElem_cons]
theorem Lv(a b:aa aA):slt a b=J (compareBytes a b=-1):=QZ a b
def Ur(a b:aa aA):tf (slt a b) (aT a b)=J (compareBytes a b≠1):=by
 grind [tf,aT,Lv,F2,Ff,beq_eq_false_iff_ne,Tv]
def Ep(a:T):size a<=1000000000->∀ b,size b<=1000000000->Ev (λ m _=>jE m a b) (aQ a b):=by
 induction a using T.ind with
 | h a ih =>
   intro ha b hb;apply aJ;simp only[qdb,Cg,aH];have hla:=dK a;have hlb:=dK b;rw[rS];unfold nu;refine ai (Lw a ha) (ai (Lw b hb) (ai (E7 _ _) ?_));refine am (λ h=>?_) λ h=>?_
   ·rw[bnt,aG]at h;exact ay (by rw[gZ (by rw[gZ h];exact h),gZ h])
   rw[bnf,aI]at h;rw[h,show ∀ y,thn 0 y=y from λ y=>rfl];apply ai (E7 _ _);refine am (λ h=>?_) λ h=>?_
   ·rw[bnt,aG]at h;exact ay (by rw[gZ (by rw[gZ h];exact h),gZ h])
   rw[bnf,aI]at h;rw[h,show ∀ y,thn 0 y=y from λ y=>rfl];refine am (λ h=>?_) λ h=>?_
   ·rw[Lv,gH]at h;exact ay (by rw[h];rfl)
   rw[Lv,tq]at h;refine am (λ h'=>?_) λ h'=>?_
   ·rw[bnt,Ur,tq,Decidable.not_not]at h';exact ay (by rw[h'];rfl)
   rw[bnf,Ur,gH]at h';have h0:compareBytes a.name b.name=0:=by have:=F2 a.name b.name;omega
   rw[h0,show ∀ y,thn 0 y=y from λ y=>rfl];apply ai (E7 _ _);refine am (λ h=>?_) λ h=>?_
   ·rw[bnt,aG]at h;exact ay (by rw[gZ (by rw[gZ h];exact h),gZ h])
   rw[bnf,aI]at h;rw[h,show ∀ y,thn 0 y=y from λ y=>rfl];apply ai (E7 _ _);refine am (λ h=>?_) λ h=>?_
   ·rw[bnt,aG]at h;exact ay (by rw[gZ h])
   rw[bnf,aI]at h;rw[h,show ∀ y,thn 0 y=y from λ y=>rfl];have hlen:I a.kids=I b.kids:=by have:=Ac h;omega
   have key:=bA (P := λ i=>Ev (λ m k=>tP m (jE m) k i a.kind a.name a.sort a.kids b.kind b.name b.sort b.kids) (eB ((a.kids.drop i).map aQ) (b.kids.drop i))) a.kids (by omega)
    (λ hc=>by
     apply aF;simp only[P7,Ce];apply ak hc;exact ay (by rw[hlen,ej,Ux]))
    (λ i x hx hd hc hg hi hP=>by
     apply aF;simp only[P7,Ce,aH];have hib:i<I b.kids:=by have:=(dV.1 hx).1;omega
     have hy:=aV hib;have hmx:=aP hx;have h1:=du a x hmx;have h2:=du b _ (aP hy);refine aj hc (aw hg (aw (by rw[fJ];exact hy) ?_));rw[T9 hd (VD hy)];apply ai (ih x hmx (by omega) _ (by omega));refine am (λ h=>?_) λ h=>?_
     ·rw[bnt,aG]at h;exact ay (by rw[gZ h])
     ·rw[bnf,aI]at h;rw[h,hi];exact hP)
   apply bj (L := λ m k=>tP m (jE m) k 0 a.kind a.name a.sort a.kids b.kind b.name b.sort b.kids);exact(key 0 (aL _)).res (by rw[dl,dl])
def qj1(a b:aa aA):Ev (λ m _=>strings_Compare 0 a b) (compareBytes a b):=ap _
def oQ(a:T):size a<=1000000000->∀ b,size b<=1000000000->Ev (λ m _=>dp m a b) (aQ a b):=by
 induction a using T.ind with
 | h a ih =>
   intro ha b hb;apply aJ;simp only[qeR,CR,aH];have hla:=dK a;have hlb:=dK b;rw[rS];unfold nu
   have stop:∀ c:Int,c≠0->∀ i:Int,Ev (λ m k=>pO m (dp m) k c i a.kind a.name a.sort a.kids b.kind b.name b.sort b.kids) c:=by
    intro c hc i;apply aF;simp only[IY,yK];exact ak (aG.2 hc) (ap c)
   have key:I a.kids=I b.kids->∀ i,i<=I a.kids->Ev (λ m k=>pO m (dp m) k 0 i a.kind a.name a.sort a.kids b.kind b.name b.sort b.kids) (eB ((a.kids.drop i).map aQ) (b.kids.drop i)) := λ hlen=>bA a.kids (by omega)
    (λ hc=>by
     apply aF;simp only[IY,yK];refine aj rfl (ak hc ?_);exact ay (by rw[hlen,ej,Ux]))
    (λ i x hx hd hc hg hi hP=>by
     apply aF;simp only[IY,yK,aH];have hib:i<I b.kids:=by have:=(dV.1 hx).1;omega
     have hy:=aV hib;have hmx:=aP hx;have h1:=du a x hmx;have h2:=du b _ (aP hy);refine aj rfl (aj hc (aw hg (aw (by rw[fJ];exact hy) ?_)));rw[T9 hd (VD hy)];apply ai (ih x hmx (by omega) _ (by omega));rw[hi];by_cases h:aQ x b.kids[i]=0
     ·rw[h];exact hP
     ·rw[gZ h];exact stop _ h _)
   have fin:∀ c:Int,(c=0->I a.kids=I b.kids)->Ev (λ m k=>pO m (dp m) m c 0 a.kind a.name a.sort a.kids b.kind b.name b.sort b.kids) (thn c (eB (a.kids.map aQ) b.kids)):=by
    intro c hc;apply bj (L := λ m k=>pO m (dp m) k c 0 a.kind a.name a.sort a.kids b.kind b.name b.sort b.kids);by_cases h:c=0
    ·subst h;exact(key (hc rfl) 0 (aL _)).res (by rw[dl,dl];rfl)
    ·rw[gZ h];exact stop c h 0
   refine ai (UZ a ha) (ai (UZ b hb) (ai (GA _ _) ?_));have z0:∀ y,thn 0 y=y := λ y=>rfl;by_cases h1:sgn (size a:Int) (size b)=0
   ·rw[h1,z0];refine aj rfl (ai (GA _ _) ?_);by_cases h2:sgn a.kind b.kind=0
    ·rw[h2,z0];refine aj rfl (ai (qj1 _ _) ?_);by_cases h3:compareBytes a.name b.name=0
     ·rw[h3,z0];refine aj rfl (ai (GA _ _) ?_);by_cases h4:sgn a.sort b.sort=0
      ·rw[h4,z0];refine aj rfl (ai (GA _ _) ?_);grind [Ac]
      ·rw[gZ h4];apply ak (aG.2 h4);exact fin _ λ h=>absurd h h4
     ·rw[gZ h3];refine ak (aG.2 h3) (ak (aG.2 h3) ?_);exact fin _ λ h=>absurd h h3
    ·rw[gZ h2];refine ak (aG.2 h2) (ak (aG.2 h2) (ak (aG.2 h2) ?_));exact fin _ λ h=>absurd h h2
   ·rw[gZ h1];refine ak (aG.2 h1) (ak (aG.2 h1) (ak (aG.2 h1) (ak (aG.2 h1) ?_)));exact fin _ λ h=>absurd h h1
def GG(a b:T):ieq (aQ a b) 0=bY a b:=by
 unfold bY;rw[wj,aI,gH];exact qk3 a b
def xl(a b:T)(d:size a<=1000000000:=by omega)(c:size b<=1000000000:=by omega):Ev (λ m _=>pW m a b) (bY a b):=by
 apply aJ;simp only[qgD,Jo,aH];apply ai (Ep a d b c);exact ay (GG a b)
def FX(a b:T)(d:size a<=1000000000)(c:size b<=1000000000):Ev (λ m _=>pR m a b) (bY a b):=by
 apply aJ;simp only[qfz,Jb,aH];apply ai (oQ a d b c);exact ay (GG a b)
theorem L5(a b:Int):ieq a b=J (a=b):=by rw[wj,aI,gH]
def Tx(c:Int):Ev (λ m _=>yS m c) (iL c):=by
 apply aJ;simp only[qfg,IV];refine(ap (iL c)).congr λ m k=>?_;grind [iL,ile]
def qlu(c:Int):Ev (λ m _=>Ey m c) (sY c):=by
 apply aJ;simp only[qfK,I7];refine(ap (sY c)).congr λ m k=>?_;grind [sY,ile]
def WB(c:Int):Ev (λ m _=>zD m c) (ew c):=by
 apply aJ;simp only[qhk,Jw];refine(ap (ew c)).congr λ m k=>?_;grind [ew,iL,sY,ile,L5]
def qjm(l:aa aA):Ev (λ m _=>wL m l) (dL l):=by
 apply aJ;simp only[qd8,CG];cases l with
 |nil=>exact aj rfl (ap _)
 |cons c r=>
   refine ak (aG.2 (by simp;omega)) ?_;refine am (λ h=>?_) λ h=>?_
   .rw[bf]at h;apply ay;grind [dL]
   rw[bg]at h;refine aw (nZ _) (ai (Tx _) ?_)
   have o:dL (c::r)=(iL (c.toNat:Int)&&(c::r).all λ c=>ew (c.toNat:Int)):=by
    grind [dL]
   rw[o];cases b:iL (c.toNat:Int)with
   |false=>exact aj rfl (ap _)
   |true=>
     apply ak rfl
     have g:=bA (P:=λ i=>Ev (λ m k=>tT m k (c::r) i) (((c::r).drop i).all λ c=>ew (c.toNat:Int))) (c::r) (by omega)
      (λ b=>by
       apply aF;simp only[Qq,Cw];refine ak b (ay ?_);rw[ej];rfl)
      (λ i x s q b a p d=>by
       apply aF;simp only[Qq,Cw];refine aj b (aw a (ai (Tx _) ?_));rw[q,fm,p];cases n:iL (x.toNat:Int)with
       |true=>exact ak rfl (d.res (by simp[ew,n]))
       |false=>
         refine aj rfl (aw a (ai (qlu _) ?_));cases j:sY (x.toNat:Int)with
         |true=>exact ak rfl (d.res (by simp[ew,j]))
         |false=>
           refine aj rfl (aw a ?_);by_cases f:(x.toNat:Int)=95
           .exact ak (bnf.2 (aI.2 f)) (d.res (by simp[ew,f]))
           .refine aj (bnt.2 (aG.2 f)) (aw a ?_);by_cases e:(x.toNat:Int)=35
            .exact ak (bnf.2 (aI.2 e)) (d.res (by simp[ew,e]))
            .exact aj (bnt.2 (aG.2 e)) (ay (by unfold ew;rw[n,j,gj f,gj e];rfl)))
     apply bj (L:=λ m k=>tT m k (c::r) 0);exact(g 0 (aL _)).res (by rw[dl];rfl)
def qlW(c:Int):(ew c&&(!(J (48<=c)&&J (c<=57))&&(!(J (c=95)) && !(J (c=35)))))=iL c:=by
 grind [ew,sY,iL]
def qh7(l:aa aA):Ev (λ m _=>wO m l) (dL l):=by
 apply aJ;simp only[qgk,Da];cases l with
 |nil=>exact aj rfl (ap _)
 |cons c r=>
   apply ak rfl;refine am (λ h=>?_) λ h=>?_
   .rw[bf]at h;apply ay;grind [dL]
   rw[bg]at h;refine aw (nZ _) (ai (WB _) ?_)
   have o:dL (c::r)=(iL (c.toNat:Int)&&(c::r).all λ c=>ew (c.toNat:Int)):=by
    grind [dL]
   rw[o,<-qlW]
   have e:=bA (P:=λ i=>Ev (λ m k=>pQ m k (c::r) (I (c::r)) i) (((c::r).drop i).all λ c=>ew (c.toNat:Int))) (c::r) (by omega)
    (λ f=>by
     apply aF;simp only[QQ,CY];refine ak f (ay ?_);rw[ej];rfl)
    (λ i x y s f q p t=>by
     apply aF;simp only[QQ,CY];refine aj f (aw q (ai (WB _) ?_));rw[s,fm,p];cases w:ew (x.toNat:Int)with
     |true=>exact ak rfl (t.res (by simp))
     |false=>exact aj rfl (ap _))
   have g:Ev (λ m _=>pQ m m (c::r) (I (c::r)) 0) ((c::r).all λ c=>ew (c.toNat:Int)):=by
    apply bj (L:=λ m k=>pQ m k (c::r) (I (c::r)) 0);exact(e 0 (aL _)).res (by rw[dl])
   have a:av (c::r) 0=Z c:=nZ _
   have u:Ev (λ m _=>cond (ieq (c.toNat:Int) 95) (Z Y) (ae (av (c::r) 0) λ v=>cond (ieq (v.toNat:Int) 35) (Z Y) (pQ m m (c::r) (I (c::r)) 0))) ((!(J ((c.toNat:Int)=95)) && !(J ((c.toNat:Int)=35)))&&(c::r).all λ c=>ew (c.toNat:Int)):=by
    by_cases d:(c.toNat:Int)=95
    .exact aj (aI.2 d) (ay (by rw[cO d];rfl))
    .refine ak (aG.2 d) (aw a ?_);rw[gj d];by_cases b:(c.toNat:Int)=35
     .exact aj (aI.2 b) (ay (by rw[cO b];rfl))
     .refine ak (aG.2 b) (g.res ?_);rw[gj b];rfl
   cases w:ew (c.toNat:Int)with
   |false=>exact aj rfl (ap _)
   |true=>
     refine ak rfl (aw a ?_);by_cases n:48<=(c.toNat:Int)
     .refine aj (lq.2 n) (aw a ?_);by_cases j:(c.toNat:Int)<=57
      .exact aj (lq.2 j) (ay (by rw[cO n,cO j];rfl))
      .refine ak (pj.2 (by omega)) (aw a ?_);grind
     .refine ak (pj.2 (by omega)) (aw a ?_);grind
def qne(t:T):Ev (λ m _=>EY m t) (de t):=by
 apply aJ;simp only[qgv,Jp];unfold de iY
 have nm:∀{R:Int},(∀b,dL t.name=b->(if b then(if 8<I t.kids then 3 else 0)else 2)=R)->Ev (λ m _=>ae (wL m t.name) λ v=>cond (au v) (Z 2) (cond (ilt 8 (I t.kids:Int)) (Z 3) (Z 0))) R:=by
  intro R h;apply ai (qjm _);refine Ev.res ?_ (h _ rfl);cases j:dL t.name with
  |false=>exact aj rfl (ap _)
  |true=>
    apply ak rfl;refine am (λ h=>?_) λ h=>?_
    .rw[bf]at h;exact ay (by rw[ag rfl,ifP])
    .rw[bg]at h;exact ay (by rw[ag rfl,ifN])
 have g:I t.kids=0->∀{R:Int},(∀b,dL t.name=b->(if b then 0 else 2)=R)->Ev (λ m _=>ae (wL m t.name) λ v=>cond (au v) (Z 2) (cond (ilt 8 (I t.kids:Int)) (Z 3) (Z 0))) R:=by
  grind
 by_cases f:t.kind=1
 .rw[ag (.inl f)];apply aj (aI.2 f);refine am (λ h=>?_) λ h=>?_
  .rw[bf]at h;exact ay (by rw[ag (.inl h)])
  rw[bg]at h;refine am (λ c=>?_) λ c=>?_
  .rw[bf]at c;exact ay (by rw[ag (.inr (.inl c))])
  rw[bg]at c;refine am (λ a=>?_) λ a=>?_
  .rw[bf]at a;exact ay (by rw[ag (.inr (.inr (by omega)))])
  rw[bg]at a;grind
 apply ak (aG.2 f);by_cases d:t.kind=2
 .rw[ag (.inr d)];apply ak (bnf.2 (aI.2 d));refine am (λ h=>?_) λ h=>?_
  .rw[bf]at h;exact ay (by rw[ag (.inl h)])
  rw[bg]at h;refine am (λ c=>?_) λ c=>?_
  .rw[bf]at c;exact ay (by rw[ag (.inr (.inl c))])
  rw[bg]at c;refine ak (bnf.2 (aI.2 d)) (aj (aI.2 d) ?_);refine am (λ a=>?_) λ a=>?_
  .rw[bf]at a;exact ay (by rw[ag (.inr (.inr (by omega)))])
  rw[bg]at a;grind
 apply aj (bnt.2 (aG.2 d));rw[ifN];by_cases e:t.kind=3
 .rw[ag e];apply ak (bnf.2 (aI.2 e));refine am (λ h=>?_) λ h=>?_
  .rw[bf]at h;exact ay (by rw[ifP])
  rw[bg]at h;refine am (λ c=>?_) λ c=>?_
  .rw[bf]at c;exact ay (by rw[ifP])
  rw[bg]at c;apply aj (bnt.2 (aG.2 d));refine am (λ a=>?_) λ a=>?_
  .rw[bnt,aG]at a;exact ay (by rw[ag a])
  rw[bnf,aI]at a;rw[ifN];apply ak (aG.2 d);exact nm λ b i=>by rw[i]
 .rw[af e];exact aj (bnt.2 (aG.2 e)) (ap _)
def qlX(t:T):size t<=1000000000->Ev (λ m _=>lT m t) (cn t):=by
 induction t using T.ind with
 |h t d=>
   intro n;apply aJ;simp only[qfp,C7,aH];have o:=dK t
   have a:=bA (P:=λ i=>Ev (λ m k=>ua m (lT m) k i t.kind t.name t.sort t.kids) (((t.kids.drop i).map cn).foldl thn 0)) t.kids (by omega)
    (λ b=>by
     apply aF;simp only[QC,C1];apply ak b;exact ay (by simp))
    (λ i x e j b g f l=>by
     apply aF;simp only[QC,C1,aH];refine aj b (aw g ?_);have c:=aP e;have p:=du t x c;apply ai (d x c (by omega));rw[j,aZ,rm,f];refine am (λ h=>?_) λ h=>?_
     .rw[bnt,aG]at h;exact ay (by rw[fT _ h])
     .rw[bnf,aI]at h;rw[h];exact l)
   rw[nY];apply ai (qne t);refine am (λ h=>?_) λ h=>?_
   .rw[bnt,aG]at h;exact ay (by rw[fT _ h])
   .rw[bnf,aI]at h;rw[h];apply bj (L:=λ m k=>ua m (lT m) k 0 t.kind t.name t.sort t.kids);exact(a 0 (aL _)).res (by rw[dl])
def rI(t:T)(a:size t<=1000000000:=by omega):Ev (λ m _=>lh m t) (aN t):=by
 apply aJ;simp only[qf8,Jk,aH];unfold aN;apply ai (qlX t a);refine am (λ h=>?_) λ h=>?_
 .rw[bnt,aG]at h;exact ay (by rw[ag h])
 rw[bnf,aI]at h;rw[ifN];apply ai (Lw t a);refine am (λ h=>?_) λ h=>?_
 .rw[bf]at h;exact ay (by rw[ag (.inl (by omega))])
 rw[bg]at h;apply ai (qjr t a);refine am (λ h=>?_) λ h=>?_
 .rw[bf]at h;exact ay (by rw[ag (.inr (by omega))])
 .rw[bg]at h;exact ay (by rw[ifN])
def VI(b d:Nat):∀(l:aa Nat) (c:Nat),l.foldl (λ a x=>max a (b+x)) (max d (b+c))=max d (b+l.foldl max c)
 |[],c=>rfl
 |x::l,c=>by
   rw[jy,jy,<-VI b d l (max c x)];congr 1;omega
def qol(a n d:Nat)(e:Int)(s:Nat)(x:Nat)(r:(Int×Int×Unit)×(Int×Unit)):Prop:=r.2.1=e/\(e=0->r.1.1=((n+s:Nat):Int)/\r.1.2.1=((max d (a+x):Nat):Int))
def qkY(t:T):size t<=1000000000->∀c n d:Nat,c+size t<=2000000000->n+size t<=2000000000->d<=2000000000->∃r,Ev (λ m _=>iv m t c n d) r/\qol c n d (cn t) (size t) (bU t-1) r:=by
 induction t using T.ind with
 |h t ih=>
   intro hs c n d R B ad;have hl:=dK t;have ab:=bX t
   have G:=bA (P:=λ i=>∀n d:Nat,n+((t.kids.drop i).map size).sum<=2000000000->d<=2000000000->∃r,Ev (λ m k=>mQ m (iv m) k c t.kids (I t.kids) i n d) r/\r.2.1=((t.kids.drop i).map cn).foldl thn 0/\(((t.kids.drop i).map cn).foldl thn 0=0->r.1.1=((n+((t.kids.drop i).map size).sum:Nat):Int)/\r.1.2.1=((((t.kids.drop i).map bU).foldl (λ a x=>max a (c+x)) d:Nat):Int))) t.kids (by omega)
    (λ M n d _ _=>by
     refine⟨((n,d,()),(0,())),?_,?_,λ _=>⟨?_,?_⟩⟩
     .apply aF;simp only[QV,DK];exact ak M (ap _)
     .simp
     .simp
     .simp)
    (λ i x hx W M hg hi hP n d B K=>by
     have Q:=aP hx;have q:=du t x Q;rw[KY W]at B;let⟨r,hr,C,hz⟩:=ih x Q (by omega) (c+1) n d (by omega) (by omega) K
     have l:∀w ,(r.2.1≠0->w=((r.1.1,r.1.2.1,()),(r.2.1,())))->(r.2.1=0->Ev (λ m k=>mQ m (iv m) k c t.kids (I t.kids) ((i+1:Nat):Int) r.1.1 r.1.2.1) w)->Ev (λ m k=>mQ m (iv m) k c t.kids (I t.kids) i n d) w:=by
      intro w A u;apply aF;simp only[QV,DK,aH];refine aj M (aw hg ?_);rw[show aD (c:Int) 1=((c+1:Nat):Int) by unfold aD;omega,eR,hi];apply ai hr;refine am (λ h=>?_) λ h=>?_
      .rw[bnt,aG]at h;exact ay (A h).symm
      .rw[bnf,aI]at h;exact u h
     rw[W,aZ,aZ,aZ,ji,rm,jy];by_cases f:cn x=0
     .let⟨z1,X⟩:=hz f;have S:=Wz x;let⟨w,A,u,g3⟩:=hP (n+size x) (max d (c+1+(bU x-1))) (by omega) (by omega);refine⟨w,l w (λ h=>absurd (C.trans f) h) (λ _=>by rw[z1,X];exact A),by rw[f];exact u,λ o=>?_⟩;rw[f]at o;let⟨F,E⟩:=g3 o;refine⟨by rw[F];congr 1;omega,?_⟩;rw[E];have:bU x ≥ 1:=by rw[jq];omega
      rw[show max d (c+1+(bU x-1))=max d (c+bU x) by omega]
     .refine⟨((r.1.1,r.1.2.1,()),(r.2.1,())),l _ (λ _=>rfl) (λ h=>absurd (C.symm.trans h) f),?_,λ o=>?_⟩
      .rw[fT _ f];exact C
      .rw[fT _ f]at o;exact absurd o f)
   have start:∀r,(de t≠0->r=((((n+1:Nat):Int),((max d c:Nat):Int),()),(de t,())))->(de t=0->Ev (λ m _=>mQ m (iv m) m c t.kids (I t.kids) 0 ((n+1:Nat):Int) ((max d c:Nat):Int)) r)->Ev (λ m _=>iv m t c n d) r:=by
    intro r A u;apply aJ;simp only[qgE,Dq];rw[show aD (n:Int) 1=((n+1:Nat):Int) by unfold aD;omega,eR,UM]
    have g:∀e,de t=e->e≠0->Ev (λ _ _=>Z ((((n+1:Nat):Int),((max d c:Nat):Int),()),(e,()))) r:=by
     intro e C h;apply ay;subst C;exact(A h).symm
    have nm:(t.kind=3\/I t.kids=0)->(∀b,dL t.name=b->(if b then(if 8<I t.kids then 3 else 0)else 2)=de t)->Ev (λ m _=>ae (wO m t.name) λ v=>cond (au v) (Z ((((n+1:Nat):Int),((max d c:Nat):Int),()),(2,()))) (cond (ilt 8 (I t.kids:Int)) (Z ((((n+1:Nat):Int),((max d c:Nat):Int),()),(3,()))) (mQ m (iv m) m c t.kids (I t.kids) 0 ((n+1:Nat):Int) ((max d c:Nat):Int)))) r:=by
     intro _ h;have h:=h _ rfl;apply ai (qh7 _);cases B:dL t.name with
     |false=>rw[B]at h;exact aj rfl (g 2 h.symm (by decide))
     |true=>
       rw[B,ag rfl]at h;apply ak rfl;refine am (λ j=>?_) λ j=>?_
       .rw[bf]at j;rw[ifP]at h;exact g 3 h.symm (by decide)
       .rw[bg]at j;rw[ifN]at h;exact u h.symm
    have y:∀k,t.kind=k->(k=1\/k=2)->de t=if t.sort<0\/5<t.sort\/0<I t.kids then 1 else if dL t.name then 0 else 2:=by
     intro k H h;unfold de iY;rw[H,ag h]
    have s:∀k,t.kind=k->(k=1\/k=2)->Ev (λ m _=>cond (ilt t.sort 0) (Z ((((n+1:Nat):Int),((max d c:Nat):Int),()),(1,()))) (cond (ilt 5 t.sort) (Z ((((n+1:Nat):Int),((max d c:Nat):Int),()),(1,()))) (cond (ilt 0 (I t.kids:Int)) (Z ((((n+1:Nat):Int),((max d c:Nat):Int),()),(1,()))) (ae (wO m t.name) λ v=>cond (au v) (Z ((((n+1:Nat):Int),((max d c:Nat):Int),()),(2,()))) (cond (ilt 8 (I t.kids:Int)) (Z ((((n+1:Nat):Int),((max d c:Nat):Int),()),(3,()))) (mQ m (iv m) m c t.kids (I t.kids) 0 ((n+1:Nat):Int) ((max d c:Nat):Int))))))) r:=by
     intro k H h;have p:=y k H h;refine am (λ j=>?_) λ j=>?_
     .rw[bf]at j;exact g 1 (by rw[p,ag (.inl j)]) (by decide)
     rw[bg]at j;refine am (λ q=>?_) λ q=>?_
     .rw[bf]at q;exact g 1 (by rw[p,ag (.inr (.inl q))]) (by decide)
     rw[bg]at q;refine am (λ z=>?_) λ z=>?_
     .rw[bf]at z;exact g 1 (by rw[p,ag (.inr (.inr (by omega)))]) (by decide)
     rw[bg]at z;rw[ifN]at p;refine nm (.inr (by omega)) λ b N=>?_;rw[p,N,af (show ¬ 8<I t.kids by omega)]
    by_cases q:t.kind=1
    .exact aj (aI.2 q) (s 1 q (.inl rfl))
    apply ak (aG.2 q);by_cases z:t.kind=2
    .exact aj (aI.2 z) (s 2 z (.inr rfl))
    apply ak (aG.2 z);by_cases D:t.kind=3
    .apply aj (aI.2 D)
     have p:de t=if t.sort≠0 then 1 else if dL t.name then(if 8<I t.kids then 3 else 0)else 2:=by
      unfold de iY;rw[ifN,ag D]
     refine am (λ j=>?_) λ j=>?_
     .rw[bnt,aG]at j;exact g 1 (by rw[p,ag j]) (by decide)
     rw[bnf,aI]at j;rw[ifN]at p;exact nm (.inl D) λ b N=>by rw[p,N]
    .apply ak (aG.2 D);refine g 1 ?_ (by decide);unfold de iY;rw[ifN,af D]
   rw[nY];by_cases f:de t=0
   .rw[f];let⟨r,A,u,g3⟩:=G 0 (aL _) (n+1) (max d c) (by rw[dl];omega) (by omega);rw[dl]at u g3;refine⟨r,start r (λ h=>absurd f h) (λ _=>bj (L:=λ m k=>mQ m (iv m) k c t.kids (I t.kids) 0 ((n+1:Nat):Int) ((max d c:Nat):Int)) A),u,λ o=>?_⟩;let⟨F,E⟩:=g3 o;refine⟨by rw[F];congr 1;omega,?_⟩;rw[E,show max d c=max d (c+0) by omega,VI,jq,Pk]
   .refine⟨_,start _ (λ _=>rfl) (λ h=>absurd h f),?_,λ o=>?_⟩
    .rw[fT _ f]
    .rw[fT _ f]at o;exact absurd o f
def jG(t:T)(c:size t<=1000000000:=by omega):Ev (λ m _=>eQ m t) (aN t):=by
 apply aJ;simp only[qgS,Js,aH];unfold aN;let⟨r,f,e,d⟩:=qkY t c 1 0 0 (by omega) (by omega) (by omega);apply ai f;rw[e];refine am (λ h=>?_) λ h=>?_
 .rw[bnt,aG]at h;exact ay (by rw[ag h])
 rw[bnf,aI]at h;let⟨b,a⟩:=d h;have g:bU t ≥ 1:=by rw[jq];omega
 rw[ifN,b,a];refine am (λ h=>?_) λ h=>?_
 .rw[bf]at h;exact ay (by rw[ag (.inl (by omega))])
 rw[bg]at h;refine am (λ h=>?_) λ h=>?_
 .rw[bf]at h;exact ay (by rw[ag (.inr (by omega))])
 .rw[bg]at h;exact ay (by rw[ifN])
def K9(t:T):size t<=1000000000->Ev (λ m _=>jY m t) t:=by
 induction t using T.ind with
 |h t e=>
   intro l;apply aJ;simp only[qhh,Dz];have n:=dK t
   have a:=bA (P:=λ i=>Ev (λ m k=>ul m (jY m) k t.kids (I t.kids) i t.kind t.name t.sort 0 [] 0 (t.kids.take i) []) t) t.kids (by omega)
    (λ b=>by
     apply aF;simp only[Q3,DJ];apply ak b;rw[cV];exact ay (aH t))
    (λ i x c o b g f j=>by
     apply aF;simp only[Q3,DJ,aH];have d:=aP c;have p:=du t x d;refine aj b (aw g (ai (e x d (by omega)) (aj (cx ?_) ?_)))
     .have:I (t.kids.take i)<=I t.kids:=by rw[bD];omega
      omega
     .rw[f];refine j.congr λ m k=>?_;rw[lJ,c];rfl)
   apply bj (L:=λ m k=>ul m (jY m) k t.kids (I t.kids) 0 t.kind t.name t.sort 0 [] 0 [] []);exact a 0 (aL _)
def pv:T->Prop:=T.para λ t a=>I t.kids<2^62/\I t.name<2^62/\∀p∈a,p
def We(t:T):pv t↔I t.kids<2^62/\I t.name<2^62/\∀k∈t.kids,pv k:=by
 unfold pv;rw[T.para_eq];exact⟨λ⟨a,b,c⟩=>⟨a,b,λ k d=>c _ (eF d)⟩,λ⟨a,b,c⟩=>⟨a,b,λ p e=>by obtain⟨k,d,rfl⟩:=bu.1 e;exact c k d⟩⟩
def qkD{l:aa T}{a:Int}(c:0<=a)(h:qG l a=O):∀t∈l,(size t:Int)<=a:=λ t b=>by
 have e:=SS l a c h;have d:=EH l t b;omega
end
end Go.AmZ
namespace Go.GxZ
def AO(t:T):Int:=if(bK t.name).2.2=0 then 10 else if py dj t.name (I t.kids)=Y then 6 else if(bK t.name).2.2=2/\xB t=Y then 10 else 0
def RY(n:aa aA):(dj.find? λ r=>r.1==n)=U\/∃r∈dj,r.1=n/\(dj.find? λ r=>r.1==n)=Z r:=by
 cases h:dj.find? λ r=>r.1==n with
 |none=>exact .inl rfl
 |some r=>exact .inr ⟨r,qoU h,by simpa using List.find?_some h,rfl⟩
def Sn{n:aa aA}(h:(dj.find? λ r=>r.1==n)=U):bK n=(0,0,0):=by unfold bK;rw[h];rfl
def J0{n:aa aA}{r:aa aA×Int×Int×Int}(h:(dj.find? λ r=>r.1==n)=Z r):bK n=r.2:=by unfold bK;rw[h];rfl
def Yc(r:aa aA×Int×Int×Int):Bool:=
 decide (r.2.2.2≠0)&&J (0<=r.2.1)&&J (r.2.2.1<=8)&&(J (r.2.2.2=2)==(r.1==lD||r.1==nSk||r.1==vU))&&(J (r.2.2.2=2)==J (r.2.2.2=2/\1<=r.2.1))&&(J (r.2.2.2=3)==(r.1==Ol||r.1==A1||r.1==Oj||r.1==Ni||r.1==MV||r.1==Nl))
def qnF:dj.all Yc=O:=by decide
def RJ{n:aa aA}(h:(bK n).2.2≠0):N7 dj n=O/\yn dj n=bK n/\0<=(bK n).1/\(bK n).2.1<=8/\((bK n).2.2=2↔n=lD\/n=nSk\/n=vU)/\((bK n).2.2=2->1<=(bK n).1)/\((bK n).2.2=3↔isD n=O):=by
 obtain b|⟨r,d,g,b⟩:=RY n
 .rw[Sn b]at h;exact absurd rfl h
 .have c:=bJ.1 qnF r d;subst g;rw[J0 b];unfold Yc at c;simp only[aK,tu,cC]at c;let⟨⟨⟨⟨⟨l,k⟩,j⟩,a⟩,f⟩,i⟩:=c;refine⟨Ia.2 ⟨r,d,by simp⟩,J0 b,k,j,?_,?_,?_⟩
  .constructor
   .intro h;rw[cO h]at a;have:=a.symm;simp only[gR,tu]at this;exact or_assoc.1 this
   .intro h;by_cases e:r.2.2.2=2
    .exact e
    .rw[gj e]at a;have:=a.symm;simp only[Bk,gG]at this;obtain h|h|h:=h
     .exact absurd h this.1.1
     .exact absurd h this.1.2
     .exact absurd h this.2
  .intro h;rw[cO h]at f;have:=bH f.symm;exact this.2
  .unfold isD;rw[<-i];simp
def qkN(t:T)(n:t.kind=3):AO t=im t:=by
 unfold AO im;rw[af (show ¬ (t.kind≠3)from λ h=>h n)];by_cases b:(bK t.name).2.2=0
 .rw[ag b,ag b]
 .rw[af b,af b];let⟨j,i,r,q,g,p,o⟩:=RJ b
  have e1:py dj t.name (I t.kids)=(J ((bK t.name).1<=(I t.kids:Int))&&J ((I t.kids:Int)<=(bK t.name).2.1)):=by
   unfold py;rw[j,i,ei]
  rw[e1];by_cases e:(I t.kids:Int)<(bK t.name).1\/(bK t.name).2.1<(I t.kids:Int)
  .rw[ag e,ag];rw[ZM,tq,tq];omega
  .rw[af e,af]
   .have f:(bK t.name).2.2=2/\xB t=Y↔iH t=O:=by
      rw[g];unfold xB iH;by_cases a:t.name=lD
      .rw[ag a,ag a];simp[a]
      .rw[af a,af a];by_cases c:t.name=nSk\/t.name=vU
       .rw[ag c]
        have:agB t.kids = !(t.kids.any λ k=>J (k.kind=3)||J (k.sort≠1)):=by
         unfold agB;generalize t.kids=l
         induction l with
         |nil=>rfl
         |cons x l m=>simp only[fm,Pn,m,Bool.not_or];congr 1;congr 1;by_cases h:x.sort=1<;>simp[bne,h]
        rw[this];simp[c]
       .rw[af c];constructor
        .rintro⟨h,_⟩;obtain h|h:=h
         .exact absurd h a
         .exact absurd h c
        .intro h;cases h
    by_cases d:iH t=O
    .rw[ag d,ag (f.2 d)]
    .rw[af d,af (λ h=>d (f.1 h))]
   .rw[ZM,tq,tq];omega
theorem rH{t:T}(e:t.kind=3)(h:bL t=0):im t=0/\(∀k∈t.kids,bL k=0):=by
 rw[Ai,af (show ¬ (t.kind≠3)from λ h=>h e)]at h;by_cases c:im t=0
 .refine⟨c,?_⟩;rw[c]at h;generalize t.kids=l at*
  induction l with
  |nil=>intro k a;cases a
  |cons x l d=>
    rw[aZ,rm]at h;by_cases b:bL x=0
    .rw[b]at h;intro k a;obtain rfl|a:=bi.1 a
     .exact b
     .exact d h k a
    .rw[fT _ b]at h;exact absurd h b
 .rw[fT _ c]at h;exact absurd h c
end Go.GxZ
namespace Go.AmZ
open GxZ
section
open Lib
def qy(t:T)(n:aa aA):Ev (λ m _=>jn m t n) (isN t n):=by
 apply aJ;simp only[qhs,Jy];unfold isN;refine am (λ h=>?_) λ h=>?_
 .rw[aI]at h;exact ay (by rw[h];rfl)
 .rw[aG]at h;exact ay (by rw[show(t.kind==3)=Y from gG.2 h];rfl)
def vd(t:T)(n:aa aA):Ev (λ m _=>oU m t n) (isN t n):=by
 apply aJ;simp only[qin,JH];unfold isN;refine am (λ h=>?_) λ h=>?_
 .rw[aI]at h;exact ay (by rw[h];rfl)
 .rw[aG]at h;exact ay (by rw[show(t.kind==3)=Y from gG.2 h];rfl)
def qn4(n:aa aA)(l:aa T):Ev (λ m _=>zf m n l) (apT n l):=aJ (ap _)
def qk(n:aa aA)(l:aa T)(a:I l<=1000000000:=by omega):Ev (λ m _=>iz m n l) (apT n l):=by
 apply aJ;simp only[qhz,JD];refine aj (cx (by simp;omega)) ?_;refine Ev.case (λ h=>?_) λ x t h=>?_
 .subst h;exact ap _
 .subst h;exact ap _
def OI(n:aa aA):aa aA×Int×Int×Int:=(dj.find? λ r=>r.1==n).getD ([],0,0,0)
def FZ(n:aa aA):(OI n).2=bK n:=by
 unfold OI bK;cases dj.find? λ r=>r.1==n<;>rfl
def Ki(n:aa aA):Ev (λ m _=>wJ m n) (OI n):=by
 apply aJ;simp only[qdw,Cr];apply ai (a:=dj) (ap _)
 have b:=bA (P:=λ i=>Ev (λ m k=>tQ m k n dj (I dj) i [] 0 0 0) (((dj.drop i).find? λ r=>r.1==n).getD ([],0,0,0))) dj (by decide)
  (λ c=>by
   apply aF;simp only[Qb,Cd];apply ak c;exact ap _)
  (λ i x j f c e d g=>by
   apply aF;simp only[Qb,Cd];refine aj c (aw e ?_);rw[f,ZV,d];refine am (λ h=>?_) λ h=>?_
   .exact ay (by rw[show(x.1==n)=O from h];rfl)
   .rw[show(x.1==n)=Y from h];exact g)
 apply bj (L:=λ m k=>tQ m k n dj (I dj) 0 [] 0 0 0);exact b 0 (aL _)
def LH{t:T}(a:t.kind=3)(h:im t=0):(bK t.name).2.2≠0/\(bK t.name).1<=(I t.kids:Int)/\(I t.kids:Int)<=(bK t.name).2.1/\iH t=Y:=by
 grind [im]
def LX{t:T}{i:Nat}(h:i<I t.kids:=by omega):av t.kids (i:Int)=Z (kid t i):=by
 grind [kid,fJ,List.getElem?_eq_getElem]
def lz{t:T}(h:0<I t.kids:=by omega):av t.kids 0=Z (kid t 0):=LX (i:=0) h
def xS{t:T}(h:1<I t.kids:=by omega):av t.kids 1=Z (kid t 1):=LX (i:=1) h
def Wd{t:T}{i:Nat}(h:i<I t.kids):kid t i∈t.kids:=by
 grind [kid]
theorem dx{t:T}{n:aa aA}:isN t n=O↔t.kind=3/\t.name=n:=by
 grind [isN]
def qkn(t:T):size t<=1000000000->Ev (λ m _=>fH m t) (bL t):=by
 induction t using T.ind with
 |h t D=>
   intro E;apply aJ;simp only[qe5,CN];have F:=dK t;rw[Ai];refine am (λ h=>?_) λ A=>?_
   .rw[bnt,aG]at h;exact ay (by rw[ag h])
   rw[bnf,aI]at A;rw[af (show ¬ t.kind≠3 from λ c=>c A)]
   have B:=bA (P:=λ i=>Ev (λ m k=>(iQ m (fH m) k).2 t.kids (I t.kids) i) (((t.kids.drop i).map bL).foldl thn 0)) t.kids (by omega)
    (λ e=>by
     apply aF;simp only[Qp,CA];apply ak e;exact ay (by simp))
    (λ i x w u e s r v=>by
     apply aF;simp only[Qp,CA,aH];have z:=aP w;have f:=du t x z;refine aj e (aw s (ai (D x z (by omega)) ?_));rw[u,aZ,rm,r];refine am (λ h=>?_) λ h=>?_
     .rw[bnt,aG]at h;exact ay (by rw[fT _ h])
     .rw[bnf,aI]at h;rw[h];exact v)
   have q:Ev (λ m k=>(iQ m (fH m) k).2 t.kids (I t.kids) 0) ((t.kids.map bL).foldl thn 0):=(B 0 (aL _)).res (by rw[dl])
   have C:=bA (P:=λ i=>Ev (λ m k=>(iQ m (fH m) k).1 t.kids (I t.kids) i t.kind t.name t.sort t.kids) (if(t.kids.drop i).any (λ k=>J (k.kind=3)||J (k.sort≠1))=O then 10 else(t.kids.map bL).foldl thn 0)) t.kids (by omega)
    (λ e=>by
     apply aF;simp only[Qt,Cx];apply ak e;apply q.res;rw[ej];rfl)
    (λ i x w u e s r v=>by
     apply aF;simp only[Qt,Cx,aH];refine aj e (aw s ?_);rw[u,Pn,r];refine am (λ h=>?_) λ h=>?_
     .rw[aI]at h;exact ay (by rw[cO h];rfl)
     rw[aG]at h;rw[gj h];refine am (λ n=>?_) λ n=>?_
     .rw[bnt,aG]at n;exact ay (by rw[cO n];rfl)
     .rw[bnf,aI]at n;rw[gj (λ c=>c n)];exact v)
   have o:im t=0->Ev (λ m _=>(iQ m (fH m) m).2 t.kids (I t.kids) 0) ((t.kids.map bL).foldl thn (im t)):=λ h=>by
    grind [Ev.diag]
   have d:iH t=t.kids.any (λ k=>J (k.kind=3)||J (k.sort≠1))->im t=(if iH t=O then 10 else 0)->Ev (λ m _=>(iQ m (fH m) m).1 t.kids (I t.kids) 0 t.kind t.name t.sort t.kids) ((t.kids.map bL).foldl thn (im t)):=λ y h=>by
    apply (bj (L:=λ m k=>(iQ m (fH m) k).1 t.kids (I t.kids) 0 t.kind t.name t.sort t.kids) (C 0 (aL _))).res;grind [fT]
   apply ai (Ki t.name);rw[FZ]
   have a:im t=if(bK t.name).2.2=0 then 10 else if(I t.kids:Int)<(bK t.name).1\/(bK t.name).2.1<(I t.kids:Int)then 6 else if iH t=O then 10 else 0:=by
    grind [im]
   refine am (λ h=>?_) λ h=>?_
   .rw[aI]at h;rw[ag h]at a;exact ay (by rw[a,fT _ (by decide)])
   rw[aG]at h;rw[af h]at a;refine am (λ f=>?_) λ f=>?_
   .rw[bf]at f;rw[ag (.inl f)]at a;exact ay (by rw[a,fT _ (by decide)])
   rw[bg]at f;refine am (λ p=>?_) λ p=>?_
   .rw[bf]at p;rw[ag (.inr p)]at a;exact ay (by rw[a,fT _ (by decide)])
   rw[bg]at p;rw[ifN]at a;refine am (λ l=>?_) λ l=>?_
   .rw[cF]at l;refine d ?_ a;unfold iH;rw[l,af (by decide),ag (.inl rfl)]
   rw[cW]at l;refine am (λ b=>?_) λ b=>?_
   .rw[cF]at b;refine d ?_ a;unfold iH;rw[b,af (by decide),ag (.inr rfl)]
   rw[cW]at b;refine am (λ g=>?_) λ g=>?_
   .rw[cF]at g
    have j:0<I t.kids:=by
     rw[g,show(bK [110,101,119]).1=1 from by decide]at f;omega
    apply aw (lz j)
    have y:iH t=J ((kid t 0).kind≠2):=by
     grind [iH,lD]
    refine am (λ c=>?_) λ c=>?_
    .rw[bnt,aG]at c;rw[y,cO c,ag rfl]at a;exact ay (by rw[a,fT _ (by decide)])
    .rw[bnf,aI]at c;grind
   .rw[cW]at g;apply o
    have:iH t=Y:=by
     unfold iH;rw[af (show ¬ t.name=lD from g),af (λ h=>h.elim l b)]
    rw[this]at a;exact a
def Mb(t:T)(a:size t<=1000000000):Ev (λ m _=>ug m t) (fZ t):=by
 apply aJ;simp only[qep,IW,aH];unfold fZ;apply ai (jG t a);refine am (λ h=>?_) λ h=>?_
 .rw[bnt,aG]at h;exact ay (by rw[gZ h])
 .rw[bnf,aI]at h;rw[h];exact ai (qkn t a) (ap _)
def Gn(n:aa aA):Ev (λ m _=>uE m n) (bK n).2.2:=by
 apply aJ;simp only[qg5,Dy];apply ai (a:=dj) (aJ (ap _))
 have b:=bA (P:=λ i=>Ev (λ m k=>um m k n dj i) (((dj.drop i).find? λ r=>r.1==n).getD ([],0,0,0)).2.2.2) dj (by decide)
  (λ c=>by
   apply aF;simp only[Q6,Dt];apply ak c;exact ap _)
  (λ i x j f c d e g=>by
   apply aF;simp only[Q6,Dt];refine aj c (aw d ?_);rw[f,ZV,e];refine am (λ h=>?_) λ h=>?_
   .refine aw d (ay ?_);rw[show(x.1==n)=O from h];rfl
   .rw[show(x.1==n)=Y from h];exact g)
 apply bj (L:=λ m k=>um m k n dj 0);exact(b 0 (aL _)).res (by rw[<-FZ];rfl)
def qmi(t:T):Ev (λ m _=>EB m t) (py dj t.name (I t.kids)):=by
 apply aJ;simp only[qgw,DH];apply ai (a:=dj) (aJ (ap _))
 have c:=bA (P:=λ i=>Ev (λ m k=>uj m k dj i t.kind t.name t.sort t.kids) (py (dj.drop i) t.name (I t.kids))) dj (by decide)
  (λ e=>by
   apply aF;simp only[Q5,Dr];apply ak e;exact ap _)
  (λ i x l g e d f j=>by
   apply aF;simp only[Q5,Dr];refine aj e (aw d ?_);rw[g,qke,f];refine am (λ h=>?_) λ h=>?_
   .rw[ag (show(x.1==t.name)=O from h)];apply aw d;refine am (λ b=>?_) λ b=>?_
    .rw[lq]at b;refine aw d (ay ?_);rw[cO b];rfl
    .rw[pj]at b;exact ay (by rw[gj (by omega)];rfl)
   .rw[af (by rw[show(x.1==t.name)=Y from h];decide)];exact j)
 apply bj (L:=λ m k=>uj m k dj 0 t.kind t.name t.sort t.kids);exact c 0 (aL _)
def qjK(t:T)(f:I t.kids<2^62)(a:t.name=lD->0<I t.kids):Ev (λ m _=>DL m t) (xB t):=by
 apply aJ;simp only[qev,CD];unfold xB;refine am (λ h=>?_) λ h=>?_
 .rw[cF]at h;rw[ag (show t.name=lD from h)];refine aw (lz (a h)) (ap _)
 rw[cW]at h;rw[af (show ¬ t.name=lD from h)]
 have c:=bA (P:=λ i=>Ev (λ m k=>tY m k i t.kind t.name t.sort t.kids) (agB (t.kids.drop i))) t.kids f
  (λ d=>by
   apply aF;simp only[Qn,CB];apply ak d;exact ay (by rw[ej];rfl))
  (λ i x n j d e g l=>by
   apply aF;simp only[Qn,CB];refine aj d (aw e ?_);rw[j,qkv,g];refine am (λ h=>?_) λ h=>?_
   .exact ay (by rw[show(x.kind==3)=O from h];rfl)
   rw[show(x.kind==3)=Y from h];apply aw e;refine am (λ b=>?_) λ b=>?_
   .rw[bnt,aG]at b;exact ay (by rw[show(x.sort != 1)=O from bne_iff_ne.2 b];rfl)
   .rw[bnf,aI]at b;rw[show(x.sort != 1)=Y by rw[b];rfl];exact l)
 apply bj (L:=λ m k=>tY m k 0 t.kind t.name t.sort t.kids);exact(c 0 (aL _)).res (by rw[dl])
def qjW(t:T):size t<=1000000000->Ev (λ m _=>lc m t) (bL t):=by
 induction t using T.ind with
 |h t g=>
   intro C;apply aJ;simp only[qgh,Dj,aH];have E:=dK t;rw[Ai];refine am (λ h=>?_) λ e=>?_
   .rw[bnt,aG]at h;exact ay (by rw[ag h])
   rw[bnf,aI]at e;rw[af (show ¬ t.kind≠3 from λ n=>n e),<-qkN t e]
   have c:=bA (P:=λ i=>Ev (λ m k=>rp m (lc m) k i t.kind t.name t.sort t.kids) (((t.kids.drop i).map bL).foldl thn 0)) t.kids (by omega)
    (λ d=>by
     apply aF;simp only[QH,Db];apply ak d;exact ay (by simp))
    (λ i x j q d o l s=>by
     apply aF;simp only[QH,Db,aH];have f:=aP j;have F:=du t x f;refine aj d (aw o (ai (g x f (by omega)) ?_));rw[q,aZ,rm,l];refine am (λ h=>?_) λ h=>?_
     .rw[bnt,aG]at h;exact ay (by rw[fT _ h])
     .rw[bnf,aI]at h;rw[h];exact s)
   have a:AO t=0->Ev (λ m _=>rp m (lc m) m 0 t.kind t.name t.sort t.kids) ((t.kids.map bL).foldl thn (AO t)):=λ h=>by
    rw[h];exact(bj (L:=λ m k=>rp m (lc m) k 0 t.kind t.name t.sort t.kids) (c 0 (aL _))).res (by rw[dl])
   unfold AO at a |-
   apply ai (Gn t.name);refine am (λ h=>?_) λ h=>?_
   .rw[aI]at h;rw[ag h];exact ay (by rw[fT _ (by decide)])
   rw[aG]at h;rw[af h]at a |-
   apply ai (qmi t);cases p:py dj t.name (I t.kids) with
   |false=>
     apply aj rfl;rw[ag rfl];exact ay (by rw[fT _ (by decide)])
   |true=>
     rw[p,af (by decide)]at a;rw[af (by decide)];apply ak rfl;refine am (λ b=>?_) λ b=>?_
     .rw[aI]at b;refine ai (qjK t (by omega) λ D=>?_) ?_
      .let⟨B,A,z,y,w,v,u⟩:=RJ h;grind [py]
      cases r:xB t with
      |false=>
        apply aj rfl;rw[ag ⟨b,rfl⟩];exact ay (by rw[fT _ (by decide)])
      |true=>
        rw[r,af (by rintro⟨_,h⟩;cases h)]at a;rw[af (by rintro⟨_,h⟩;cases h)];exact ak rfl (a rfl)
     .rw[aG]at b;grind
def LY(t:T)(a:size t<=1000000000:=by omega):Ev (λ m _=>wN m t) (fZ t):=by
 apply aJ;simp only[qgg,Jg,aH];unfold fZ;apply ai (rI t a);refine am (λ h=>?_) λ h=>?_
 .rw[bnt,aG]at h;exact ay (by rw[gZ h])
 .rw[bnf,aI]at h;rw[h];exact ai (qjW t a) (ap _)
end
end Go.AmZ
namespace Go.GxZ
def Asc(l:aa T):Prop:=l.Pairwise λ a b=>aQ a b=-1
def lO{a:T}:aQ a a≠-1:=by rw[Fv];decide
def L7{a b:T}:aQ a b=1↔aQ b a=-1:=by
 have:=eZ.anti a b;omega
theorem qlt(a b:T):aQ a b=-1\/a=b\/aQ b a=-1:=by
 have h:=eZ.rng a b;have c:=eZ.anti a b;obtain h|h|h:=h
 .exact .inl h
 .exact .inr (.inl (mU a b h))
 .exact .inr (.inr (by omega))
theorem oX{a b c:T}(e:aQ a b=-1)(d:aQ b c=-1):aQ a c=-1:=eZ.trans a b c e d
def oe{x:T}{l:aa T}:Asc (x::l)↔(∀y∈l,aQ x y=-1)/\Asc l:=yy
def LN:∀(l m:aa T),Asc l->Asc m->(∀x,x∈l↔x∈m)->l=m
 |[],[],_,_,_=>rfl
 |[],y::m,_,_,h=>absurd ((h y).2 (aW ..)) (by simp)
 |x::l,[],_,_,h=>absurd ((h x).1 (aW ..)) (by simp)
 |x::l,y::m,n,k,h=>by
   let⟨c,i⟩:=oe.1 n;let⟨b,g⟩:=oe.1 k;have f:=(h x).1 (aW ..);have d:=(h y).2 (aW ..)
   have e:x=y:=by
    obtain e|f:=bi.1 f
    .exact e
    obtain e|d:=bi.1 d
    .exact e.symm
    exact absurd (oX (c y d) (b x f)) lO
   subst e;rw[LN l m i g λ z=>?_];constructor
   .intro a;obtain e|j:=bi.1 ((h z).1 (aS _ a))
    .subst e;exact absurd (c z a) lO
    .exact j
   .intro a;obtain e|j:=bi.1 ((h z).2 (aS _ a))
    .subst e;exact absurd (b z a) lO
    .exact j
def Sd(n:Nat):∀(a b:aa T),I a+I b<=n->Asc a->Asc b->Asc (cq a b)/\(∀x,x∈cq a b↔¬(x∈a↔x∈b)):=by
 induction n with
 |zero=>
   intro a b h _ _;obtain rfl:a=[]:=pH.1 (by omega);obtain rfl:b=[]:=pH.1 (by omega);rw[cq];exact⟨List.Pairwise.nil,by simp⟩
 |succ n p=>
   intro a b h u t
   match a,b with
   |[],b=>rw[cq];exact⟨t,by simp⟩
   |x::a,[]=>rw[cq];exact⟨u,by simp[Classical.or_iff_not_imp_left]⟩
   |x::a,y::b=>
     rw[cq];let⟨g,o⟩:=oe.1 u;let⟨f,m⟩:=oe.1 t;simp only[bG]at h;by_cases k:aQ x y=-1
     .rw[ag k];let⟨l,i⟩:=p a (y::b) (by simp;omega) o t
      have s:x ∉ y::b:=by
       intro h;obtain e|h:=bi.1 h
       .subst e;exact lO k
       .exact lO (oX k (f x h))
      have B:x ∉ a:=λ h=>lO (g x h);refine⟨oe.2 ⟨λ z q=>?_,l⟩,λ z=>?_⟩
      .have:=(i z).1 q;by_cases d:z∈a
       .exact g z d
       .have c:z∈y::b:=by
          by_cases c:z∈y::b
          .exact c
          .exact absurd ⟨λ h=>absurd h d,λ h=>absurd h c⟩ this
        obtain e|w:=bi.1 c
        .rw[e];exact k
        .exact oX k (f z w)
      .rw[bi,i,bi (a:=z) (b:=x)];by_cases e:z=x
       .subst e;simp[s]
       .simp[e]
     .rw[af k];by_cases v:aQ x y=1
      .rw[ag v];have j:=L7.1 v;let⟨l,i⟩:=p (x::a) b (by simp;omega) u m
       have r:y ∉ x::a:=by
        intro h;obtain e|h:=bi.1 h
        .subst e;exact lO j
        .exact lO (oX j (g y h))
       have A:y ∉ b:=λ h=>lO (f y h);refine⟨oe.2 ⟨λ z q=>?_,l⟩,λ z=>?_⟩
       .have:=(i z).1 q;by_cases c:z∈b
        .exact f z c
        .have d:z∈x::a:=by
           by_cases d:z∈x::a
           .exact d
           .exact absurd ⟨λ h=>absurd h d,λ h=>absurd h c⟩ this
         obtain e|w:=bi.1 d
         .rw[e];exact j
         .exact oX j (g z w)
       .rw[bi,i,bi (a:=z) (b:=y)];by_cases e:z=y
        .subst e;simp[r]
        .simp[e]
      .rw[af v];have j:aQ x y=0:=by have:=eZ.rng x y;omega
       have e:=mU x y j;subst e;let⟨l,i⟩:=p a b (by omega) o m;refine⟨l,λ z=>?_⟩;rw[i,bi,bi];by_cases e:z=x
       .subst e;have:z ∉ a:=λ h=>lO (g z h);have:z ∉ b:=λ h=>lO (f z h);simp[*]
       .simp[e]
def TP{a b:aa T}(d:Asc a)(c:Asc b):Asc (cq a b):=(Sd _ a b (al _) d c).1
def qj7{a b:aa T}(d:Asc a)(c:Asc b)(x:T):x∈cq a b↔¬(x∈a↔x∈b):=(Sd _ a b (al _) d c).2 x
def D8:∀(b:aa (aa T)) (a:aa T),Asc a->(∀l∈b,Asc l)->Asc (b.foldl cq a)
 |[],_,h,_=>h
 |l::b,a,h,k=>D8 b _ (TP h (k l (aW ..))) λ m c=>k m (aS _ c)
def E8(t:T):Asc (eU t):=by
 refine T.ind (P:=λ t=>Asc (eU t)) ?_ t;intro t a;rw[zN];split
 .exact List.Pairwise.nil
 .split
  .exact D8 _ _ List.Pairwise.nil λ l b=>by
    obtain⟨k,c,rfl⟩:=bu.1 b;exact a k c
  .exact ZW _ _
def fj(t:T)(s:aa T×Bool)(x:T):aa T×Bool:=
 if s.2=Y/\aQ t x<=0 then(s.1++(if aQ t x<0 then[t]else[])++[x],O)else(s.1++[x],s.2)
def yj(l:aa T)(t:T):aa T:=if(l.foldl (fj t) ([],Y)).2 then(l.foldl (fj t) ([],Y)).1 else(l.foldl (fj t) ([],Y)).1++[t]
def mB(l:aa T)(t:T):aa T:=if l.any (λ x=>bY x t)then l.filter (λ x => !bY x t)else yj l t
def qt(a b:aa T):aa T:=b.foldl mB a
def T0(t:T):∀(l a:aa T),l.foldl (fj t) (a,O)=(a++l,O)
 |[],a=>by simp
 |x::l,a=>by
   have e:fj t (a,O) x=(a++[x],O):=by simp[fj]
   rw[jy,e,T0 t l];simp
def dq:aa T->T->aa T
 |[],t=>[t]
 |x::l,t=>if aQ t x<0 then t::x::l else if aQ t x=0 then x::l else x::dq l t
def RR(t:T):∀(l a:aa T),(if(l.foldl (fj t) (a,Y)).2 then(l.foldl (fj t) (a,Y)).1 else(l.foldl (fj t) (a,Y)).1++[t])=a++dq l t
 |[],a=>by simp[dq]
 |x::l,a=>by
   rw[jy];by_cases h:aQ t x<=0
   .have e:fj t (a,Y) x=(a++(if aQ t x<0 then[t]else[])++[x],O):=by simp[fj,h]
    rw[e,T0,dq];by_cases b:aQ t x<0
    .simp[b]
    .have:aQ t x=0:=by omega
     simp[this]
   .have e:fj t (a,Y) x=(a++[x],Y):=by simp[fj,h]
    rw[e,RR t l,dq,ifN,ifN];simp
theorem KV(l:aa T)(t:T):yj l t=dq l t:=by
 have:=RR t l [];simpa[yj]using this
def FM(t:T):∀(l:aa T) (x:T),x∈dq l t↔x∈l\/x=t
 |[],x=>by simp[dq]
 |y::l,x=>by
   rw[dq];split
   .simp only[bi];constructor
    .rintro(h|h|h)<;>simp[h]
    .rintro((h|h)|h)<;>simp[h]
   .split
    .rename_i h;have:=mU t y h;subst this;simp only[bi];constructor
     .rintro(h|h)<;>simp[h]
     .rintro((h|h)|h)<;>simp[h]
    .rw[bi,FM t l x,bi];constructor
     .rintro(h|h|h)<;>simp[h]
     .rintro((h|h)|h)<;>simp[h]
def Ln(t:T):∀(l:aa T),Asc l->Asc (dq l t)
 |[],_=>ZW _ _
 |y::l,h=>by
   let⟨c,d⟩:=oe.1 h;rw[dq];have f:=eZ.rng t y;split
   .have b:aQ t y=-1:=by omega
    refine oe.2 ⟨λ z a=>?_,h⟩;obtain e|a:=bi.1 a
    .rw[e];exact b
    .exact oX b (c z a)
   .split
    .exact h
    .refine oe.2 ⟨λ z a=>?_,Ln t l d⟩;obtain a|e:=(FM t l z).1 a
     .exact c z a
     .rw[e];exact L7.1 (by omega)
theorem iy{a b:T}:bY a b=O↔a=b:=by unfold bY;exact gH
def qkc{l:aa T}(h:Asc l)(t:T):Asc (mB l t)/\∀x,x∈mB l t↔¬(x∈l↔x=t):=by
 unfold mB;by_cases a:t∈l
 .have f:(l.any λ x=>bY x t)=O:=Ia.2 ⟨t,a,iy.2 rfl⟩;rw[ag f];refine⟨List.Pairwise.filter _ h,λ x=>?_⟩;rw[jQ];by_cases e:x=t
  .subst e;simp[a,iy.2 rfl]
  .have:bY x t=Y:=by
     cases b:bY x t
     .rfl
     .exact absurd (iy.1 b) e
   simp[e,this]
 .rw[af (λ b=>by
    let⟨x,c,d⟩:=Ia.1 b;exact a (by rw[<-iy.1 d];exact c)),KV]
  refine⟨Ln t l h,λ x=>?_⟩;rw[FM];by_cases e:x=t
  .subst e;simp[a]
  .simp[e]
def J3:∀(b a:aa T),Asc a->Asc b->Asc (qt a b)/\∀x,x∈qt a b↔¬(x∈a↔x∈b)
 |[],a,g,_=>⟨g,λ x=>by simp[qt]⟩
 |y::b,a,g,n=>by
   let⟨f,d⟩:=oe.1 n;let⟨l,k⟩:=qkc g y;let⟨j,i⟩:=J3 b (mB a y) l d;refine⟨j,λ x=>?_⟩;rw[show qt a (y::b)=qt (mB a y) b from rfl,i,k,bi];by_cases e:x=y
   .subst e;have:x ∉ b:=λ h=>lO (f x h);by_cases c:x∈a<;>simp[this,c]
   .by_cases c:x∈a<;>by_cases m:x∈b<;>simp[e,c,m]
def UY{a b:aa T}(d:Asc a)(c:Asc b):qt a b=cq a b:=
 LN _ _ (J3 b a d c).1 (TP d c) λ x=>by rw[(J3 b a d c).2,qj7 d c]
end Go.GxZ
namespace Go.AmZ
open GxZ
section
open Lib
def szL(l:aa T):Nat:=(l.map size).sum
theorem dz(x:T)(l:aa T):szL (x::l)=size x+szL l:=by simp[szL]
def uY(a b:aa T):szL (a++b)=szL a+szL b:=by simp[szL]
def gX:∀l:aa T,I l<=szL l
 |[]=>aL _
 |x::l=>by
   have:=gX l;have:=size_pos x;rw[dz,bG];omega
def ol{l:aa T}{x:T}(h:x∈l):size x<=szL l:=EH l x h
def FL:∀(n:Nat) (a b:aa T),I a+I b<=n->szL (cq a b)<=szL a+szL b
 |_,[],b,_|_,x::a,[],_=>by rw[cq];omega
 |0,x::a,y::b,h=>by simp at h
 |n+1,x::a,y::b,h=>by
   simp only[bG]at h;rw[cq];split
   .have:=FL n a (y::b) (by simp;omega);rw[dz,dz];omega
   .split
    .have:=FL n (x::a) b (by simp;omega);rw[dz y,dz y];omega
    .have:=FL n a b (by omega);rw[dz,dz];omega
def RG:∀(b:aa (aa T)) (a:aa T),szL (b.foldl cq a)<=szL a+(b.map szL).sum
 |[],_=>by simp
 |l::b,a=>by
   have d:=RG b (cq a l);have c:=FL _ a l (al _);simp only[jy,aZ,ji];omega
def RL(f g:T->Nat):∀l:aa T,(∀k∈l,f k<=g k)->(l.map f).sum<=(l.map g).sum
 |[],_=>al _
 |x::l,h=>by
   have c:=h x (aW ..);have b:=RL f g l λ k a=>h k (aS _ a);simp only[aZ,ji];omega
def Ub(l:aa T)(h:∀k∈l,szL (eU k)<=size k):szL ((l.map eU).foldl cq [])<=szL l:=by
 apply bR (RG _ _);rw[iu];have:=RL (szL ∘ eU) size l h;show 0+_<=(l.map size).sum;omega
def zO(t:T):szL (eU t)<=size t:=by
 refine T.ind (P:=λ t=>szL (eU t)<=size t) ?_ t;intro t a;rw[zN];split
 .exact aL _
 .split
  .have:=Ub t.kids a;have:=bX t;unfold szL at *;omega
  .show szL [t]<=_;rw[dz];exact al _
def uK(l:aa T):szL (dA l)<=szL l:=Ub l λ k _=>zO k
def F0(x:T)(l:aa T):gA (x::l) 1 ((I (x::l):Nat):Int)=l:=by
 unfold gA;rw[lL,cV];rfl
def FV(n:Nat):inb (n:Int) n=O:=by unfold inb;rw[gH];omega
def Gi(x:T)(l:aa T):inb 1 (Int.toNat ((I (x::l):Nat):Int))=O:=by
 unfold inb;rw[gH,lL,bG];omega
def U8(x:T)(l:aa T):ilt 0 ((I (x::l):Nat):Int)=O:=by rw[bf,bG];omega
def qiQ:∀(n:Nat) (a b c:aa T),I a+I b<=n->szL c+szL a+szL b<=1000000000->Ev (λ m k=>uD m k a b c) (c++cq a b):=by
 intro n
 induction n with
 |zero=>
   intro a b c i g;have:a=[]:=cJ (by omega);subst this;have:b=[]:=cJ (by omega);subst this;apply aF;simp only[Rs,Ew];have:=gX c;exact ak rfl (aj (cx (by simp only[fE];omega)) (aj (cx (by simp only[fE,bZ];omega)) (ay (by rw[cq];simp))))
 |succ n f=>
   intro a b c i g;apply aF;simp only[Rs,Ew,aH];have o:=gX c;have l:=gX a;have j:=gX b;cases a with
   |nil=>
     refine ak rfl (aj (cx (by simp only[fE];omega)) (aj (cx (by simp only[bZ];omega)) (ay (by rw[cq];simp))))
   |cons x a=>
     apply aj (U8 x a);cases b with
     |nil=>
       refine ak rfl (aj (cx) (aj (cx (by rw[aU];simp only[fE];omega)) (ay (by rw[cq];simp))))
     |cons y b=>
       rw[dz,dz]at g;refine aj (U8 y b) (aw (nZ _) (aw (nZ _) (ai (oQ x (by omega) y (by omega)) ?_)));rw[cq];simp only[bG]at i l j;rw[dz]at l j;refine am (λ e=>?_) λ e=>?_
       .rw[bf]at e;have e:aQ x y=-1:=by obtain h|h|h:=eZ.rng x y<;>omega
        rw[ag e];refine aw (nZ _) (aj (cx) (aj (FV _) (aj (Gi x a) ?_)));rw[F0];refine(f a (y::b) (c++[x]) (by simp only[bG];omega) (by rw[uY,dz,dz];show szL c+(size x+0)+_+_<=_;omega)).res (by simp)
       .rw[bg]at e;rw[ifN];refine am (λ d=>?_) λ d=>?_
        .rw[bf]at d;have d:aQ x y=1:=by obtain h|h|h:=eZ.rng x y<;>omega
         rw[ag d];refine aw (nZ _) (aj (cx) (aj (FV _) (aj (Gi y b) ?_)));rw[F0];refine(f (x::a) b (c++[y]) (by simp only[bG];omega) (by rw[uY,dz,dz];show szL c+(size y+0)+_+_<=_;omega)).res (by simp)
        .rw[bg]at d;rw[ifN];refine aj (FV _) (aj (Gi x a) (aj (FV _) (aj (Gi y b) ?_)));rw[F0,F0];exact f a b c (by omega) (by omega)
def VG(a b:aa T)(c:szL a+szL b<=1000000000):Ev (λ m _=>Af m a b) (cq a b):=by
 apply aJ;simp only[qiJ,Ez];apply bj (L:=λ m k=>uD m k a b []);exact qiQ _ a b [] (al _) (by show 0+_+_<=_;omega)
def qhN(l:aa T)(i:Nat):szL (l.take i)<=szL l:=by
 have:=aY szL (oP i l);rw[uY]at this;omega
def pP{l:aa T}{i:Nat}{x:T}(h:l[i]?=Z x):szL (l.take i)+size x<=szL l:=by
 have b:l.take (i+1)=l.take i++[x]:=by rw[lJ,h];rfl
 have a:=qhN l (i+1);rw[b,uY,dz]at a;have:szL ([]:aa T)=0:=rfl;omega
def EC{l:aa T}{i:Nat}{x:T}(h:l[i]?=Z x):((l.take (i+1)).map eU).foldl cq []=cq (((l.take i).map eU).foldl cq []) (eU x):=by
 rw[lJ,h,ft,yz];rfl
def qlv(t:T):size t<=1000000000->Ev (λ m _=>kY m t) (eU t):=by
 induction t using T.ind with
 |h t s=>
   intro B;have C:=dK t;have A:=bX t;apply aJ;simp only[qe0,Cz,aH]
   have o:=bA (P:=λ i=>Ev (λ m k=>rk m (kY m) k (((t.kids.take i).map eU).foldl cq []) t.kids (I t.kids) i) ((t.kids.map eU).foldl cq [])) t.kids (by omega)
    (λ q=>by
     apply aF;simp only[Qw,CL];apply ak q;rw[cV];exact ap _)
    (λ i x c D q w u y=>by
     apply aF;simp only[Qw,CL,aH];have r:=aP c;have F:=du t x r;have z:=uK (t.kids.take i);have g:=pP c;have E:=zO x;refine aj q (aw w (ai (s x r (by omega)) (ai (VG _ _ ?_) ?_)))
     .unfold dA at z;unfold szL at *;omega
     .rw[u];refine y.congr λ m k=>?_;rw[EC c])
   have j:Ev (λ m _=>rk m (kY m) m [] t.kids (I t.kids) 0) ((t.kids.map eU).foldl cq []):=
    bj (L:=λ m k=>rk m (kY m) k [] t.kids (I t.kids) 0) (o 0 (aL _))
   rw[zN];by_cases g:t.kind=3
   .have f:ieq t.kind 3=O:=aI.2 g;apply aj f;refine am (λ e=>?_) λ e=>?_
    .rw[cF]at e;have a:isN t jb=O:=dx.2 ⟨g,e⟩
     have d:isN t gB=Y:=by
      rw[<-nQ,dx];rintro⟨_,h⟩;rw[e]at h;exact absurd h (by decide)
     refine am (λ b=>?_) λ b=>?_
     .rw[aI]at b;have b:t.kids=[]:=cJ (by omega);rw[a,b];exact ap _
     .rw[aG]at b
      have b:t.kids.isEmpty=Y:=by
       cases v:t.kids with
       |nil=>rw[v]at b;exact absurd rfl b
       |cons _ _=>rfl
      rw[a,b,d];exact aj f (ak (by rw[e];rfl) (ap _))
    .have p:=cW.1 e
     have a:isN t jb=Y:=by
      rw[<-nQ,dx];rintro⟨_,h⟩;exact p h
     rw[a];refine aj f (am (λ c=>?_) λ c=>?_)
     .rw[show isN t gB=O from dx.2 ⟨g,cF.1 c⟩];exact j
     .have d:isN t gB=Y:=by
        rw[<-nQ,dx];rintro⟨_,h⟩;exact cW.1 c h
      rw[d];exact ap _
   .have f:ieq t.kind 3=Y:=aG.2 g
    have l:∀n,isN t n=Y:=λ n=>by
     rw[<-nQ,dx];rintro⟨h,_⟩;exact g h
    rw[l,l];exact ak f (ak f (ap _))
end
def qjh(b:aa (aa T))(d:I b<1000)(h:(b.map I).sum<=100000000):Ev (λ m _=>wA m b) b.flatten:=by
 have g:∀l:aa (aa T),I l.flatten=(l.map I).sum:=λ l=>List.length_flatten
 have s:=bA (P:=λ i=>Ev (λ m k=>(jS m k).2 b (I b) i (b.take i).flatten) b.flatten) b (by omega)
  (λ c=>by
   apply aF;simp only[PB,BA];apply ak c;rw[cV];exact ap _)
  (λ i x o r c f e j=>by
   apply aF;simp only[PB,BA];have p:b.take (i+1)=b.take i++[x]:=by rw[lJ,o];rfl
   have q:((b.take (i+1)).map I).sum<=(b.map I).sum:=by
    have:=aY (λ l=>(l.map I).sum) (oP (i+1) b);simp only[ft,List.sum_append]at this;omega
   rw[p]at q;simp only[ft,List.sum_append,aZ,nJ,ji,List.sum_nil]at q;refine aj c (aw f (aj (cx ?_) ?_))
   .rw[g];omega
   .rw[e];refine j.congr λ m k=>?_;rw[p,Br];simp)
 have t:=bA (P:=λ i=>∀n:Nat,n+((b.drop i).map I).sum<=100000000->Ev (λ m k=>(jS m k).1 b n b (I b) i) b.flatten) b (by omega)
  (λ c n d=>by
   apply aF;simp only[Pz,BB];refine ak c (aw (a:=((),[],())) ?_ (s 0 (aL _)));unfold yC;rw[show inb (n:Int) 100000000=O from by unfold inb;rw[gH];omega];rfl)
  (λ i x o r c f e j n d=>by
   apply aF;simp only[Pz,BB];rw[r,aZ,ji]at d;refine aj c (aw f ?_);rw[xq,eR];apply ak (bg.2 (by omega));rw[e];exact j (n+I x) (by omega))
 apply aJ;simp only[qaG,BC];apply bj (L:=λ m k=>(jS m k).1 b 0 b (I b) 0);exact t 0 (aL _) 0 (by rw[dl];omega)
def Sm(a b:aa T)(h:I a+I b<=100000000:=by omega):Ev (λ m _=>wA m [a,b]) (a++b):=
 (qjh [a,b] (by simp) (by simpa using h)).res (by simp)
def Rf{f:T->Int}{l:aa T}{i:Nat}{x:T}(h:l.drop i=x::l.drop (i+1)):((l.drop i).map f).foldl thn 0=if f x≠0 then f x else((l.drop (i+1)).map f).foldl thn 0:=by
 rw[h,aZ];by_cases a:f x=0
 .rw[af (by simpa using a),a];rfl
 .rw[ag a];exact fT _ a
def qkH(l:aa T)(n:szL l<=100000000:=by omega):Ev (λ m _=>E0 m l []) (xI l):=by
 have o:=gX l;apply aJ;simp only[qhO,D2];unfold xI;refine am (λ h=>?_) λ h=>?_
 .rw[bf]at h;rw[ifP];exact ap _
 .rw[bg]at h;rw[ifN];refine ai (Sm l [] (by simp only[fE];omega)) ?_;rw[bZ]
  have b:=bA (P:=λ i=>Ev (λ m k=>uA m k l (I l) i) (((l.drop i).map aN).foldl thn 0)) l (by omega)
   (λ c=>by
    apply aF;simp only[Rg,Eg];apply ak c;rw[ej];exact ap _)
   (λ i x d g c f e j=>by
    apply aF;simp only[Rg,Eg,aH];have p:=ol (aP d);rw[Rf g];refine aj c (aw f (ai (jG x) (am (λ a=>?_) λ a=>?_)))
    .rw[bnt,aG]at a;rw[ag a];exact ap _
    .rw[bnf,aI]at a;rw[ifN,e];exact j)
  apply bj (L:=λ m k=>uA m k l (I l) 0);exact(b 0 (aL _)).res (by rw[dl])
def qiL(t:T)(a:size t<=1000000000:=by omega):Ev (λ m _=>DN m t [] t) (t,0):=by
 apply aJ;simp only[qe2,CP,aH];apply ai (K9 t a);refine bj (L:=λ m k=>wE m k [] (I ([]:aa Int)) 0 t.kind t.name t.sort t.kids 0 [] 0 t.kind t.name t.sort t.kids []) (aF ?_);simp only[qdx,IX,aH];apply ak rfl;rw[show T.mk t.kind t.name t.sort t.kids=t from aH t];exact ai (K9 t a) (ap _)
def jx(l:aa T)(i:Nat):aa T:=l.take i++List.replicate (I l-i) zT
def ql1{l:aa T}{i:Nat}(h:i<I l):(jx l i)[i]?=Z zT:=by
 unfold jx;rw[dy (by rw[bD];omega),bD,List.getElem?_replicate,ifP]
def Lx{l:aa T}{i:Nat}{x:T}(h:l[i]?=Z x):(jx l i).set i x=jx l (i+1):=by
 have c:=(dV.1 h).1;unfold jx;have b:l.take (i+1)=l.take i++[x]:=by rw[lJ,h];rfl
 have a:List.replicate (I l-i) zT=zT::List.replicate (I l-(i+1)) zT:=by
  rw[show I l-i=(I l-(i+1))+1 by omega,List.replicate_succ]
 rw[b,a,Ie _ _ (by rw[bD];omega),bD,show i-min i (I l)=0 by omega,List.set_cons_zero,bE];rfl
def qkh{l:aa T}{i:Nat}{x:T}(h:l[i]?=Z x):(jx l (i+1)).set i x=jx l (i+1):=by
 rw[<-Lx h,List.set_set]
def qi7{l:aa T}{i:Nat}{x:T}(h:l[i]?=Z x):(jx l (i+1))[i]?=Z x:=by
 have a:=(dV.1 h).1;rw[<-Lx h,gh (by unfold jx;rw[aU,bD,ti];omega)]
def oV{α:Type}(l:aa α)(i:Nat)(v:α):cy l (i:Int) v=l.set i v:=by
 unfold cy;rw[ifP,lL]
def qm2:∀(n:Nat) (l:aa T),szL l<=n->n<=1000000->Ev (λ m _=>lk m l) l:=by
 intro n
 induction n using Nat.strongRecOn with
 |_ n p=>
 intro l s t;have u:=gX l;apply aJ;simp only[qkg,ER]
 have d:=bA (P:=λ i=>Ev (λ m k=>uO m (lk m) k l (I l) i (jx l i)) l) l (by omega)
  (λ h=>by
   apply aF;simp only[RU,EG];apply ak h;exact ay (by unfold jx;rw[cV,gF];simp))
  (λ i x b v h r q j=>by
   apply aF;simp only[RU,EG,aH];have y:=ol (aP b);have w:=bX x;have f:=(dV.1 b).1;have e:cy (jx l i) i x=jx l (i+1):=by rw[oV,Lx b]
   have o:cy (jx l (i+1)) i x=jx l (i+1):=by rw[oV,qkh b]
   have g:av (jx l (i+1)) i=Z x:=by rw[fJ,qi7 b]
   refine aj h (aw r (ai (qiL x) (aw (a:=zT) (by rw[fJ,ql1 f]) (ai (p (szL x.kids) (by unfold szL at *;omega) x.kids (al _) (by unfold szL at *;omega)) ?_))));rw[e];apply aw g;rw[show T.mk x.kind x.name x.sort x.kids=x from aH x,o,q];refine am (λ c=>?_) λ c=>j;rw[aI]at c;have c:x.kids=[]:=cJ (by omega);apply aw g;rw[show T.mk x.kind x.name x.sort []=x from by rw[<-c];exact aH x,o];exact j)
 refine aj (by unfold AM;rw[gH,lL];omega) ?_;apply bj (L:=λ m k=>uO m (lk m) k l (I l) 0 (List.replicate (Int.toNat (I l:Int)) (T.mk 0 [] 0 [])));refine(d 0 (aL _)).congr λ m k=>?_;unfold jx;rw[qW,lL];rfl
def qmr(l:aa T)(z:szL l<=900000:=by omega):Ev (λ m _=>Gu m l) (qC l):=by
 have A:=gX l;apply aJ;simp only[qiW,ED];unfold qC;refine ai (qkH l) (am (λ h=>?_) λ h=>?_)
 .rw[bnt,aG]at h;rw[ag h];exact ap _
 .rw[bnf,aI]at h;rw[ifN]
  have e:=bA (P:=λ i=>Ev (λ m k=>uJ m k (((l.take i).map eU).foldl cq []) l (I l) i 0 [] 0 []) (if aN (fA (dA l))≠0 then(zT,3)else(fA (dA l),0))) l (by omega)
   (λ j=>by
    apply aF;simp only[Sc,EA,aH];apply ak j;rw[cV];have b:=uK l;show Ev (λ m k=>ae (lk m (dA l)) _) _;have o:=gX (dA l)
    have c:∀u:T,u=fA (dA l)->Ev (λ m _=>ae (eQ m u) λ v=>cond (au (ieq v 0)) (Z (T.mk 0 [] 0 [],(3:Int))) (Z (u,0))) (if aN (fA (dA l))≠0 then(zT,3)else(fA (dA l),0)):=by
     intro u p
     have y:size (fA (dA l))<=1+szL (dA l):=by
      unfold fA;split
      .rw[bX];show 1+0<=_;omega
      .split
       .rename_i _ d
        have:(dA l).getD 0 zT∈dA l:=by
         cases g:dA l with
         |nil=>rw[g]at d;cases d
         |cons x r=>exact aW ..
        have:=ol this;omega
       .rw[bX];exact al _
     subst p;refine ai (jG _) (am (λ h=>?_) λ h=>?_)
     .rw[bnt,aG]at h;rw[ag h];exact ap _
     .rw[bnf,aI]at h;rw[ifN];exact ap _
    refine ai (qm2 _ (dA l) (al _) (by omega)) (am (λ n=>?_) λ n=>?_)
    .rw[aI]at n;exact c _ (by unfold fA;rw[ifP];rfl)
    .rw[aG]at n;refine am (λ b=>?_) λ b=>?_
     .rw[aI]at b;refine aw (a:=(dA l).getD 0 zT) ?_ (c _ (by unfold fA;rw[ifN,ifP]));rw[nZ,gE];cases g:dA l with
      |nil=>rw[g]at b;simp at b
      |cons x r=>rfl
     .rw[aG]at b;exact c _ (by unfold fA;rw[ifN,ifN];rfl))
   (λ i x f B j t s w=>by
    apply aF;simp only[Sc,EA,aH];have q:=aP f;have b:=ol q;have o:=uK (l.take i);have D:=pP f;have C:=zO x;refine aj j (aw t (ai (qlv x (by omega)) (ai (VG _ _ ?_) ?_)))
    .unfold dA at o;omega
    .rw[s];refine w.congr λ m k=>?_;rw[EC f])
  apply bj (L:=λ m k=>uJ m k [] l (I l) 0 0 [] 0 []);exact e 0 (aL _)
def qod(l:aa T)(t:T)(j:szL l+size t<=1000000000):Ev (λ m _=>EZ m l t) (l.any λ x=>bY x t):=by
 have n:=gX l;apply aJ;simp only[qhL,D9]
 have a:=bA (P:=λ i=>Ev (λ m k=>ut m k l i t.kind t.name t.sort t.kids) ((l.drop i).any λ x=>bY x t)) l (by omega)
  (λ b=>by
   apply aF;simp only[Q7,DV];refine ak b (ay ?_);rw[ej];rfl)
  (λ i x c f b e d g=>by
   apply aF;simp only[Q7,DV,aH];have o:=ol (aP c);rw[f,Pn,show T.mk t.kind t.name t.sort t.kids=t from aH t];refine aj b (aw e (ai (xl x t) (am (λ h=>?_) λ h=>?_)))
   .rw[h];exact ap _
   .rw[h,d];exact g)
 apply bj (L:=λ m k=>ut m k l 0 t.kind t.name t.sort t.kids);exact(a 0 (aL _)).res (by rw[dl])
theorem UJ(t:T):∀(l:aa T) (s:aa T×Bool),(l.foldl (fj t) s).1.length<=I s.1+2*I l
 |[],s=>by simp
 |x::l,s=>by
   have h:=UJ t l (fj t s x);grind [fj]
def X9(l:aa T)(t:T)(q:szL l+size t<=1000000000:=by omega):Ev (λ m _=>zA m l t) (yj l t):=by
 have r:=gX l;apply aJ;simp only[qhC,DR]
 have d:∀i,((l.take i).foldl (fj t) ([],Y)).1.length<=2*I l:=λ i=>by
  grind [UJ,List.length_take,List.length_nil]
 have g:=bA (P:=λ i=>Ev (λ m k=>ur m k l ((l.take i).foldl (fj t) ([],Y)).2 i t.kind t.name t.sort t.kids ((l.take i).foldl (fj t) ([],Y)).1) (yj l t)) l (by omega)
  (λ j=>by
   apply aF;simp only[Re,DX];apply ak j;rw[cV];unfold yj;have:=d (I l);rw[cV]at this;refine am (λ h=>?_) λ h=>?_
   .rw[bnt]at h;rw[af (by rw[h];decide),show T.mk t.kind t.name t.sort t.kids=t from aH t];exact aj (cx) (ap _)
   .rw[bnf]at h;rw[ag h];exact ap _)
  (λ i x n u j f o a=>by
   apply aF;simp only[Re,DX,aH];have w:=ol (aP n);have v:=d i
   have e:(l.take (i+1)).foldl (fj t) ([],Y)=fj t ((l.take i).foldl (fj t) ([],Y)) x:=by
    rw[lJ,n,yz];rfl
   rw[e]at a;generalize (l.take i).foldl (fj t) ([],Y)=s at *;rw[show T.mk t.kind t.name t.sort t.kids=t from aH t,o];refine aj j (aw f (ai (Ep t (by omega) x (by omega)) (am (λ h=>?_) λ h=>?_)))
   .rw[bnt]at h;refine am (λ c=>?_) λ c=>?_
    .rw[lq]at c;unfold fj at a;rw[ag ⟨h,c⟩]at a;refine am (λ b=>?_) λ b=>?_
     .rw[bf]at b;rw[ag b]at a;exact aj (cx) (aw f (aj (cx (by rw[aU];simp only[bG,fE];omega)) a))
     .rw[bg]at b;rw[ifN,bZ]at a;exact aw f (aj (cx) a)
    .rw[pj]at c;unfold fj at a;rw[ifN]at a;exact aw f (aj (cx) a)
   .rw[bnf]at h;unfold fj at a;rw[af (by rw[h];intro p;cases p.1)]at a;exact aw f (aj (cx) a))
 apply bj (L:=λ m k=>ur m k l Y 0 t.kind t.name t.sort t.kids []);exact g 0 (aL _)
def qnR(l:aa T)(t:T)(f:szL l+size t<=1000000000:=by omega):Ev (λ m _=>Ea m l t) (mB l t):=by
 have n:=gX l;apply aJ;simp only[qeH,CK,aH];unfold mB;refine ai (qod l t f) (am (λ h=>?_) λ h=>?_)
 .rw[bnt]at h;rw[af (by rw[h];decide)];exact ai (X9 l t f) (ap _)
 .rw[bnf]at h;rw[ag h]
  have b:=bA (P:=λ i=>Ev (λ m k=>tV m k l i t.kind t.name t.sort t.kids ((l.take i).filter λ x => !bY x t)) (l.filter λ x => !bY x t)) l (by omega)
   (λ c=>by
    apply aF;simp only[Qm,CU];apply ak c;rw[cV];exact ap _)
   (λ i x d o c g j a=>by
    apply aF;simp only[Qm,CU,aH];have q:=ol (aP d);have p:I ((l.take i).filter λ x => !bY x t)<=I l:=bR (Po _ _) (by rw[bD];omega);rw[lJ,d,List.filter_append]at a;rw[show T.mk t.kind t.name t.sort t.kids=t from aH t,j];refine aj c (aw g (ai (xl x t) (am (λ h=>?_) λ h=>?_)))
    .rw[bnt]at h;have e:(Option.some x).toList.filter (λ x => !bY x t)=[x]:=by show[x].filter _=_;simp[h]
     rw[e]at a;exact aw g (aj (cx) a)
    .rw[bnf]at h;have e:(Option.some x).toList.filter (λ x => !bY x t)=[]:=by show[x].filter _=_;simp[h]
     rw[e,bZ]at a;exact a)
  apply bj (L:=λ m k=>tV m k l 0 t.kind t.name t.sort t.kids []);exact b 0 (aL _)
theorem Mg(t:T):∀l:aa T,szL (dq l t)<=szL l+size t
 |[]=>by rw[dq,dz];omega
 |x::l=>by
   have:=Mg t l;grind [dq,dz]
theorem TJ(p:T->Bool):∀l:aa T,szL (l.filter p)<=szL l
 |[]=>al _
 |x::l=>by
   have:=TJ p l;grind [dz]
theorem qm0(l:aa T)(t:T):szL (mB l t)<=szL l+size t:=by
 grind [mB,Nat.le_trans,TJ,KV,Mg]
def Sw:∀(b a:aa T),szL (b.foldl mB a)<=szL a+szL b
 |[],a=>by simp[szL]
 |x::b,a=>by
   have c:=Sw b (mB a x);grind [qm0,dz]
def UO(a b:aa T)(n:szL a+szL b<=1000000000):Ev (λ m _=>zc m a b) (qt a b):=by
 have t:=gX a;have s:=gX b;apply aJ;simp only[qgN,Dw]
 have d:=bA (P:=λ i=>Ev (λ m k=>rA m k b ((b.take i).foldl mB a) i) (qt a b)) b (by omega)
  (λ e=>by
   apply aF;simp only[QY,Dv];apply ak e;rw[cV];exact ap _)
  (λ i x f o e l j g=>by
   apply aF;simp only[QY,Dv,aH];have q:=pP f;have p:=Sw (b.take i) a;rw[lJ,f,yz]at g;refine aj e (aw l (ai (qnR _ x) ?_));rw[j];exact g)
 refine aj (cx (by simp only[fE];omega)) ?_;have c:Ev (λ m _=>rA m m b a 0) (qt a b):=bj (L:=λ m k=>rA m k b a 0) (d 0 (aL _));exact Ev.case (λ h=>by rw[h]at c |-;exact c) λ x r h=>by rw[h]at c |-;exact c
def qlx(t:T):size t<=1000000000->Ev (λ m _=>kW m t) (eU t):=by
 induction t using T.ind with
 |h t w=>
   intro F;have v:=dK t;have E:=bX t;apply aJ;simp only[qcS,BZ,aH]
   have q:=bA (P:=λ i=>Ev (λ m k=>ri m (kW m) k (((t.kids.take i).map eU).foldl cq []) i t.kind t.name t.sort t.kids) ((t.kids.map eU).foldl cq [])) t.kids (by omega)
    (λ s=>by
     apply aF;simp only[PU,B6];apply ak s;rw[cV];exact ap _)
    (λ i x c G s A y C=>by
     apply aF;simp only[PU,B6,aH];have u:=aP c;have K:=du t x u;have D:=uK (t.kids.take i);have f:=pP c;have H:=zO x
     have B:Asc (((t.kids.take i).map eU).foldl cq []):=D8 _ _ List.Pairwise.nil λ l v=>by
      obtain⟨k,_,rfl⟩:=bu.1 v;exact E8 k
     refine aj s (aw A (ai (w x u (by omega)) (ai (UO _ _ ?_) ?_)))
     .unfold dA at D;unfold szL at *;omega
     .rw[y,UY B (E8 x)];refine C.congr λ m k=>?_;rw[EC c])
   have g:Ev (λ m _=>ri m (kW m) m [] 0 t.kind t.name t.sort t.kids) ((t.kids.map eU).foldl cq []):=
    bj (L:=λ m k=>ri m (kW m) k [] 0 t.kind t.name t.sort t.kids) (q 0 (aL _))
   rw[zN];by_cases f:t.kind=3
   .have p:ieq t.kind 3=O:=aI.2 f;have o:au (ieq t.kind 3)=Y:=bnf.2 p;apply aj p;refine am (λ e=>?_) λ e=>?_
    .rw[cF]at e;have a:isN t jb=O:=dx.2 ⟨f,e⟩
     have d:isN t gB=Y:=by
      rw[<-nQ,dx];rintro⟨_,h⟩;rw[e]at h;exact absurd h (by decide)
     refine am (λ b=>?_) λ b=>?_
     .rw[aI]at b;have b:t.kids=[]:=cJ (by omega);rw[a,b];exact ap _
     .rw[aG]at b
      have b:t.kids.isEmpty=Y:=by
       cases z:t.kids with
       |nil=>rw[z]at b;exact absurd rfl b
       |cons _ _=>rfl
      rw[a,b,d];exact ak o (aj (by rw[e];rfl) (ap _))
    .have r:=cW.1 e
     have a:isN t jb=Y:=by
      rw[<-nQ,dx];rintro⟨_,h⟩;exact r h
     rw[a];refine ak o (am (λ c=>?_) λ c=>?_)
     .have d:isN t gB=Y:=by
        rw[<-nQ,dx];rintro⟨_,h⟩;exact cW.1 (bnt.1 c) h
      rw[d];exact ap _
     .rw[show isN t gB=O from dx.2 ⟨f,cF.1 (bnf.1 c)⟩];exact g
   .have p:ieq t.kind 3=Y:=aG.2 f
    have j:∀n,isN t n=Y:=λ n=>by
     rw[<-nQ,dx];rintro⟨h,_⟩;exact f h
    rw[j,j];exact ak p (aj (bnt.2 p) (ap _))
def qh9:aN (apT jb [])=0:=by
 unfold aN;rw[nY,bX,jq];have:de (apT jb [])=0:=by decide
 show(if de (apT jb [])≠0 then de (apT jb [])else _)=0;rw[this];rfl
def qix(l:aa T)(n:szL l<=100000000:=by omega):Ev (λ m _=>Eu m l (apT jb [])) (xI l):=by
 have o:=gX l;apply aJ;simp only[qfN,Dm];unfold xI;refine am (λ h=>?_) λ h=>?_
 .rw[bf]at h;rw[ifP];exact ap _
 .rw[bg]at h;rw[ifN]
  have b:=bA (P:=λ i=>Ev (λ m k=>uc m k l i 3 jb 0 []) (((l.drop i).map aN).foldl thn 0)) l (by omega)
   (λ c=>by
    apply aF;simp only[QD,Dp];apply ak c;rw[ej];refine ai (rI (T.mk 3 jb 0 []) (by rw[bX];show 1+0<=_;omega)) ?_;exact ay qh9)
   (λ i x d g c f e j=>by
    apply aF;simp only[QD,Dp,aH];have p:=ol (aP d);rw[Rf g];refine aj c (aw f (ai (rI x) (am (λ a=>?_) λ a=>?_)))
    .rw[bnt,aG]at a;rw[ag a];exact ap _
    .rw[bnf,aI]at a;rw[ifN,e];exact j)
  apply bj (L:=λ m k=>uc m k l 0 3 jb 0 []);exact(b 0 (aL _)).res (by rw[dl])
def WY(l:aa T):size (fA l)<=1+szL l:=by
 unfold fA;split
 .rw[bX];show 1+0<=_;omega
 .split
  .rename_i _ a
   have:l.getD 0 zT∈l:=by
    cases l with
    |nil=>cases a
    |cons x r=>exact aW ..
   have:=ol this;omega
  .rw[bX];exact al _
def qjp(l:aa T)(d:szL l<=1000000000:=by omega):Ev (λ m _=>ES m l) (fA l):=by
 have e:=gX l;apply aJ;simp only[qg3,Jq,aH];unfold fA;refine am (λ c=>?_) λ c=>?_
 .rw[aI]at c;rw[ifP];exact ai (qk _ [] (by simp)) (ap _)
 .rw[aG]at c;rw[ifN];refine am (λ b=>?_) λ b=>?_
  .rw[aI]at b;rw[ifP];refine aw (a:=l.getD 0 zT) ?_ (ap _);grind [nZ]
  .rw[aG]at b;rw[ifN];exact aj (cx (by simp only[fE];omega)) (Ev.case (λ h=>ay (by rw[h];rfl)) λ x r h=>ay (by rw[h];rfl))
def qny(l:aa T)(q:szL l<=900000:=by omega):Ev (λ m _=>Fh m l) (qC l):=by
 have d:=gX l;apply aJ;simp only[qho,DQ];unfold qC
 have z:Ev (λ m _=>ET m) (apT jb []):=by
  apply aJ;simp only[qg6,Jn,aH];exact ai (qk _ [] (by simp)) (ap _)
 apply ai z;rw[aH];refine ai (qix l) (am (λ h=>?_) λ h=>?_)
 .rw[bnt,aG]at h;rw[ag h];exact ap _
 .rw[bnf,aI]at h;rw[ifN]
  have a:=bA (P:=λ i=>Ev (λ m k=>ux m k l (((l.take i).map eU).foldl cq []) i 0 [] 0 []) (if aN (fA (dA l))≠0 then(zT,3)else(fA (dA l),0))) l (by omega)
   (λ c=>by
    apply aF;simp only[Ro,DS,aH];apply ak c;rw[cV];have p:=uK l;have e:=WY (dA l);refine ai (qjp (dA l)) (ai (rI _) (am (λ h=>?_) λ h=>?_))
    .rw[bnt,aG]at h;rw[ag h];exact ap _
    .rw[bnf,aI]at h;rw[ifN];exact ap _)
   (λ i x b r c j g o=>by
    apply aF;simp only[Ro,DS,aH];have f:=aP b;have p:=ol f;have e:=uK (l.take i);have t:=pP b;have s:=zO x
    have n:Asc (((l.take i).map eU).foldl cq []):=D8 _ _ List.Pairwise.nil λ l d=>by
     obtain⟨k,_,rfl⟩:=bu.1 d;exact E8 k
    refine aj c (aw j (ai (qlx x (by omega)) (ai (UO _ _ ?_) ?_)))
    .unfold dA at e;omega
    .rw[g,UY n (E8 x)];refine o.congr λ m k=>?_;rw[EC b])
  apply bj (L:=λ m k=>ux m k l [] 0 0 [] 0 []);exact a 0 (aL _)
end Go.AmZ
namespace Go.GxZ
def kG(l:aa Pw):Prop:=Asc (l.map (·.1))
def NzP(l:aa Pw):Prop:=∀p∈l,p.2≠0
def xe{p:Pw}{l:aa Pw}:kG (p::l)↔(∀q∈l,aQ p.1 q.1=-1)/\kG l:=by
 unfold kG;rw[aZ,oe];simp
def rM{p:Pw}{l:aa Pw}:NzP (p::l)↔p.2≠0/\NzP l:=by
 unfold NzP;simp
def ee(l:aa Pw):Nat:=(l.map λ p=>p.2.natAbs).sum
theorem F3:∀(l:aa Pw) (t:T) (n:Int) (p:Pw),p∈cE l t n->p.1=t\/p∈l
 |[],t,n,p,h=>by simp[cE]at h;exact .inl (by rw[h])
 |(x,m)::l,t,n,p,h=>by
   rw[cE]at h;split at h
   .obtain h|h:=bi.1 h
    .exact .inl (by rw[h])
    .exact .inr h
   .split at h
    .rename_i a;split at h
     .exact .inr (aS _ h)
     .obtain h|h:=bi.1 h
      .left;rw[h];exact(mU t x a).symm
      .exact .inr (aS _ h)
    .obtain h|h:=bi.1 h
     .exact .inr (h▸aW ..)
     .obtain h|h:=F3 l t n p h
      .exact .inl h
      .exact .inr (aS _ h)
def VL:∀(l:aa Pw) (t:T) (n:Int),kG l->kG (cE l t n)
 |[],_,_,_=>ZW _ _
 |(x,m)::l,t,n,h=>by
   let⟨d,c⟩:=xe.1 h;rw[cE];have f:=eZ.rng t x;split
   .rename_i b;refine xe.2 ⟨λ q a=>?_,h⟩;obtain e|a:=bi.1 a
    .rw[e];exact b
    .exact oX b (d q a)
   .split
    .split
     .exact c
     .exact xe.2 ⟨d,c⟩
    .refine xe.2 ⟨λ q a=>?_,VL l t n c⟩;obtain e|a:=F3 l t n q a
     .rw[e];exact L7.1 (show aQ t x=1 by omega)
     .exact d q a
def Xo:∀(l:aa Pw) (t:T) (n:Int),NzP l->n≠0->NzP (cE l t n)
 |[],_,_,_,a=>by intro p c;simp[cE]at c;rw[c];exact a
 |(x,m)::l,t,n,h,a=>by
   let⟨d,b⟩:=rM.1 h;rw[cE];split
   .exact rM.2 ⟨a,h⟩
   .split
    .split
     .exact b
     .exact rM.2 ⟨by assumption,b⟩
    .exact rM.2 ⟨d,Xo l t n b a⟩
def KZ:∀(l:aa Pw) (t:T) (n:Int),ee (cE l t n)<=ee l+n.natAbs
 |[],t,n=>by simp[cE,ee]
 |(x,m)::l,t,n=>by
   have a:=KZ l t n;unfold ee at a |-
   rw[cE];split
   .simp only[aZ,ji];omega
   .split
    .split
     .simp only[aZ,ji];omega
     .simp only[aZ,ji];omega
    .simp only[aZ,ji];omega
def Li:∀(l:aa Pw) (t:T) (n:Int),I (cE l t n)<=I l+1
 |[],t,n=>by simp[cE]
 |(x,m)::l,t,n=>by
   have a:=Li l t n;rw[cE];split
   .simp
   .split
    .split
     .simp;omega
     .simp
    .simp only[bG];omega
def MA(l:aa Pw)(p:Pw)(h:p∈l):p.2.natAbs<=ee l:=by
 unfold ee
 induction l with
 |nil=>cases h
 |cons q l a=>
   simp only[aZ,ji];obtain e|h:=bi.1 h
   .rw[e];omega
   .have:=a h;omega
def dH(t:T)(n:Int)(s:aa Pw×Bool)(p:Pw):aa Pw×Bool:=
 ((if s.2=Y/\aQ t p.1<0 then s.1++[(t,n)]else s.1)++(if(if aQ t p.1=0 then p.2+n else p.2)=0 then[]else[(p.1,if aQ t p.1=0 then p.2+n else p.2)]),
   s.2||J (aQ t p.1<=0))
def M5(l:aa Pw)(t:T)(n:Int):aa Pw:=if(l.foldl (dH t n) ([],Y)).2 then(l.foldl (dH t n) ([],Y)).1 else(l.foldl (dH t n) ([],Y)).1++[(t,n)]
def JT(t:T)(n:Int):∀(l a:aa Pw),NzP l->(∀q∈l,aQ t q.1=-1)->l.foldl (dH t n) (a,O)=(a++l,O)
 |[],a,_,_=>by simp
 |(x,m)::l,a,h,k=>by
   let⟨c,f⟩:=rM.1 h;have b:=k _ (aW ..);simp only at b c;have e:dH t n (a,O) (x,m)=(a++[(x,m)],O):=by simp[dH,b,c]
   rw[jy,e,JT t n l _ f λ q d=>k q (aS _ d)];simp
def RC(t:T)(n:Int):∀(l a:aa Pw),NzP l->kG l->(if(l.foldl (dH t n) (a,Y)).2 then(l.foldl (dH t n) (a,Y)).1 else(l.foldl (dH t n) (a,Y)).1++[(t,n)])=a++cE l t n
 |[],a,_,_=>by simp[cE]
 |(x,m)::l,a,h,k=>by
   let⟨i,g⟩:=rM.1 h;let⟨d,o⟩:=xe.1 k;simp only at i d;have s:=eZ.rng t x;rw[jy,cE];by_cases c:aQ t x=-1
   .have e:dH t n (a,Y) (x,m)=(a++[(t,n)]++[(x,m)],O):=by simp[dH,c,i]
    rw[e,JT t n l _ g λ q f=>oX c (d q f),ag c];simp
   .by_cases b:aQ t x=0
    .have e:dH t n (a,Y) (x,m)=(a++(if m+n=0 then[]else[(x,m+n)]),O):=by simp[dH,b]
     have ex:=mU t x b;rw[e,JT t n l _ g λ q f=>by rw[ex];exact d q f,af c,ag b];by_cases j:m+n=0
     .simp[j]
     .simp[j]
    .have e:dH t n (a,Y) (x,m)=(a++[(x,m)],Y):=by
       have r:¬ aQ t x<0:=by omega
       have p:¬ aQ t x<=0:=by omega
       simp[dH,r,p,b,i]
     rw[e,RC t n l _ g o,af c,af b];simp
def qk7{l:aa Pw}(h:NzP l)(k:kG l)(t:T)(n:Int):M5 l t n=cE l t n:=by
 have:=RC t n l [] h k;simpa[M5]using this
def gP(l:aa Pw):Prop:=kG l/\NzP l
def gP.nil:gP []:=⟨List.Pairwise.nil,λ _ h=>by cases h⟩
def gP.ins{l:aa Pw}(h:gP l)(t:T){n:Int}(a:n≠0):gP (cE l t n):=⟨VL l t n h.1,Xo l t n h.2 a⟩
def qmz{t:T}{n:Int}(h:n≠0):gd t n≠0:=by unfold gd;split<;>omega
def qkA(t:T)(n:Int):(gd t n).natAbs=n.natAbs:=by unfold gd;split<;>omega
def Xu(a:aa T)(n:Int)(P:aa Pw->Prop)(h:∀k∈a,∀l,P l->P (df k l n)):∀l,P l->P ((a.map df).foldl (λ l f=>f l n) l):=by
 induction a with
 |nil=>intro l b;exact b
 |cons k a c=>intro l b;exact c (λ k d=>h k (aS _ d)) _ (h k (aW ..) l b)
def qju(t:T):∀(l:aa Pw) (n:Int),n≠0->gP l->gP (df t l n):=by
 refine T.ind (P:=λ t=>∀(l:aa Pw) (n:Int),n≠0->gP l->gP (df t l n)) ?_ t;intro t b l n a h;rw[rV];split
 .exact Xu t.kids (gd t n) gP (λ k d l c=>b k d l _ (qmz a) c) l h
 .exact h.ins t a
theorem qk9(t:T):∀(l:aa Pw) (n:Int),ee (df t l n)<=ee l+size t*n.natAbs/\(df t l n).length<=l.length+size t:=by
 refine T.ind (P:=λ t=>∀(l:aa Pw) (n:Int),ee (df t l n)<=ee l+size t*n.natAbs/\(df t l n).length<=l.length+size t) ?_ t;intro t g l n;rw[rV,bX];split
 .have:∀(a:aa T),(∀k∈a,k∈t.kids)->∀l,ee ((a.map df).foldl (λ l f=>f l (gd t n)) l)<=ee l+(a.map size).sum*n.natAbs/\((a.map df).foldl (λ l f=>f l (gd t n)) l).length<=l.length+(a.map size).sum:=by
    intro a
    induction a with
    |nil=>intro _ l;simp
    |cons k a b=>
      intro c l;have e:=g k (c k (aW ..)) l (gd t n);rw[qkA]at e;have d:=b (λ k i=>c k (aS _ i)) (df k l (gd t n));simp only[aZ,jy,ji,dD]at d |-
      omega
  have:=this t.kids (λ _ h=>h) l;rw[dD];omega
 .have e:=KZ l t n;have d:=Li l t n;rw[dD];omega
def Ks:∀(b a:aa Pw),gP a->NzP b->gP (eC a b)
 |[],a,h,_=>h
 |p::b,a,h,k=>Ks b (cE a p.1 p.2) (h.ins p.1 (rM.1 k).1) (rM.1 k).2
def LJ:∀(b a:aa Pw),ee (eC a b)<=ee a+ee b/\I (eC a b)<=I a+I b
 |[],a=>by simp[eC,ee]
 |p::b,a=>by
   have f:=LJ b (cE a p.1 p.2);have d:=KZ a p.1 p.2;have c:=Li a p.1 p.2;have e:ee (p::b)=p.2.natAbs+ee b:=by simp[ee]
   rw[show eC a (p::b)=eC (cE a p.1 p.2) b from rfl,e,bG];omega
def ixP:aa Pw->T->Nat
 |[],_=>0
 |p::l,t=>if aQ p.1 t=-1 then ixP l t+1 else 0
def XC:∀(l:aa Pw) (t:T),ixP l t<=I l
 |[],_=>al _
 |p::l,t=>by
   have:=XC l t;rw[ixP];split
   .simp;omega
   .omega
def XV:∀(l:aa Pw) (t:T) (i:Nat),i<=I l->(∀k p,k<i->l[k]?=Z p->aQ p.1 t=-1)->(∀p,l[i]?=Z p->aQ p.1 t≠-1)->i=ixP l t
 |[],_,i,h,_,_=>by simp at h;rw[h];rfl
 |p::l,t,0,_,_,h=>by rw[ixP,af (h p rfl)]
 |p::l,t,i+1,h,k,m=>by
   rw[ixP,ag (k 0 p (by omega) rfl)];rw[<-XV l t i (by simpa using h) (λ j q b a=>k (j+1) q (by omega) (by simpa using a)) (λ q a=>m q (by simpa using a))]
def WK:∀(l:aa Pw) (t:T) (n:Int) (x:T) (m:Int),l[ixP l t]?=Z (x,m)->aQ x t=0->
  cE l t n=if m+n=0 then l.take (ixP l t)++l.drop (ixP l t+1)else l.take (ixP l t)++[(x,m+n)]++l.drop (ixP l t+1)
 |[],_,_,_,_,h,_=>by simp at h
 |(y,k)::l,t,n,x,m,h,a=>by
   have d:=eZ.anti y t;have b:=eZ.rng y t;rw[ixP]at h;rw[cE,ixP];simp only at h |-
   by_cases c:aQ y t=-1
   .rw[ag c]at h;rw[ifN,ifN,ag c,WK l t n x m (by simpa using h) a];split<;>simp
   .rw[af c]at h;simp at h;obtain⟨rfl,rfl⟩:=h;rw[ifN,ifP,af c];split<;>simp
def U6:∀(l:aa Pw) (t:T) (n:Int),(∀p,l[ixP l t]?=Z p->aQ p.1 t≠0)->cE l t n=l.take (ixP l t)++[(t,n)]++l.drop (ixP l t)
 |[],_,_,_=>by simp[cE,ixP]
 |(y,k)::l,t,n,h=>by
   have d:=eZ.anti y t;have b:=eZ.rng y t;rw[ixP]at h;rw[cE,ixP];simp only at h |-
   by_cases c:aQ y t=-1
   .rw[ag c]at h;rw[ifN,ifN,ag c,U6 l t n λ p a=>h p (by simpa using a)];simp
   .rw[af c]at h;have:=h (y,k) rfl;simp only at this;rw[ifP,af c];simp
def WJ{l:aa Pw}(h:kG l){i j:Nat}{p q:Pw}(g:l[i]?=Z p)(f:l[j]?=Z q)(c:i<j:=by omega):aQ p.1 q.1=-1:=by
 unfold kG Asc at h;rw[ZX]at h;let⟨e,d⟩:=dV.1 g;let⟨b,a⟩:=dV.1 f;have:=h i j (by simpa using e) (by simpa using b) c;simpa[d,a]using this
end Go.GxZ
namespace Go.AmZ
open GxZ
def Wn(t:T):Ev (λ m _=>yM m t) (kw t):=by
 apply aJ;simp only[qb5,IH];unfold kw;by_cases a:t.kind=3
 .refine aj (aI.2 a) (am (λ h=>?_) λ h=>(am (λ b=>?_) λ b=>?_))
  .rw[cF]at h;exact ay (by rw[a,h];rfl)
  .rw[cF]at b;exact ay (by rw[a,b];rfl)
  .rw[cW]at h b
   exact ay (by
    have d:(t.name==iN)=Y:=by rw[gG];exact h
    have c:(t.name==dZ)=Y:=by rw[gG];exact b
    rw[a,d,c];rfl)
 .exact ak (aG.2 a) (ay (by have:(t.kind==3)=Y:=by rw[gG];exact a
                            rw[this];rfl))
def Fx(t:T):size t<=100000000->Ev (λ m _=>jD m t) t:=by
 induction t using T.ind with
 |h t g=>
   intro o;have p:=dK t;apply aJ;simp only[qcX,B3]
   have a:wB 0 t.kids=Z ((),t.kids,()):=by
    unfold wB;rw[show Nat.ble (I t.kids) 100000000=O from tv (by omega)];rfl
   apply aw a
   have b:=bA (P:=λ i=>Ev (λ m k=>tM m (jD m) k (I t.kids) i t.kind t.name t.sort 0 [] 0 t.kids []) t) t.kids (by omega)
    (λ a=>by
     apply aF;simp only[P4,BY];exact ak a (ay (aH t)))
    (λ i x c q a f j l=>by
     apply aF;simp only[P4,BY,aH];have d:=aP c;have s:=du t x d
     have e:cy t.kids (i:Int) x=t.kids:=by
      rw[oV];let⟨r,n⟩:=dV.1 c;rw[<-n,List.set_getElem_self]
     refine aj a (aw f (ai (g x d (by omega)) (aw f ?_)));rw[e,j];exact l)
   apply bj (L:=λ m k=>tM m (jD m) k (I t.kids) 0 t.kind t.name t.sort 0 [] 0 t.kids []);exact b 0 (aL _)
def qnU(lo a:Nat)(h:lo+a<=1000000000:=by omega):iw .i64 (qO .u64 (iw .u64 (iw .i64 (aD (lo:Int) (a:Int)))) 1)=(((lo+a)/2:Nat):Int):=by
 rw[xq,show iw .i64 ((lo+a:Nat):Int)=((lo+a:Nat):Int)from eR,show iw .u64 ((lo+a:Nat):Int)=((lo+a:Nat):Int)from IntWalk.u64_in _ (by omega)]
 have:qO .u64 ((lo+a:Nat):Int) 1=(((lo+a)/2:Nat):Int):=by
  unfold qO;show Int.fdiv _ 2=_;rw[Int.fdiv_eq_ediv_of_nonneg _ (by decide)];omega
 rw[this,eR]
def szP(l:aa Pw):Nat:=(l.map λ p=>size p.1).sum
theorem oa(p:Pw)(l:aa Pw):szP (p::l)=size p.1+szP l:=by simp[szP]
def oq:∀l:aa Pw,I l<=szP l
 |[]=>aL _
 |p::l=>by
   have:=oq l;have:=size_pos p.1;rw[oa,bG];omega
def qi:∀{l:aa Pw}{p:Pw},p∈l->size p.1<=szP l
 |q::l,p,h=>by
   rw[oa];obtain rfl|h:=bi.1 h
   .omega
   .have:=qi h;omega
def Wr:∀(l:aa Pw) (t:T) (n:Int),szP (cE l t n)<=szP l+size t
 |[],t,n=>by rw[cE,oa];show size t+0<=0+size t;omega
 |(x,m)::l,t,n=>by
   have:=Wr l t n;rw[cE];split
   .rw[oa,oa];show size t+(size x+_)<=size x+_+size t;omega
   .split
    .split
     .rw[oa];show _<=size x+_+_;omega
     .rw[oa,oa];show size x+_<=size x+_+_;omega
    .rw[oa,oa];show size x+_<=size x+_+_;omega
def UP(p:Pw)(t:T)(b:size p.1<=1000000000)(a:size t<=1000000000:=by omega):Ev (λ m _=>yI m p t) (aQ p.1 t):=by
 apply aJ;simp only[qbu,Ix,aH];exact ai (oQ _ b _ a) (ap _)
def vZ(l:aa Pw)(t:T):Bool:=match l[Go.GxZ.ixP l t]? with
 |Z p=>ieq (aQ p.1 t) 0
 |U=>Y
def qmH{l:aa Pw}(y:kG l)(t:T)(D:szP l+size t<=100000000):∀(d lo c:Nat),c<=lo+d->lo<=c->c<=I l->(∀k p,k<lo->l[k]?=Z p->aQ p.1 t=-1)->(∀k p,c<=k->l[k]?=Z p->aQ p.1 t≠-1)->
  Ev (λ m k=>tx m k l (I l) lo c t.kind t.name t.sort t.kids) ((Go.GxZ.ixP l t:Int),vZ l t):=by
 have E:=oq l;intro d
 induction d with
 |zero=>
   intro lo c C z r o n;have:lo=c:=by omega
   subst this;have w:=XV l t lo r o (λ p g=>n lo p (al _) g);subst w;apply aF;simp only[Pt,Bt,aH];rw[show T.mk t.kind t.name t.sort t.kids=t from aH t];refine ak (bg.2 (H6 _)) (am (λ h=>?_) λ h=>?_)
   .rw[bf]at h;have i:Go.GxZ.ixP l t<I l:=by omega
    obtain⟨p,e⟩:∃p,l[Go.GxZ.ixP l t]?=Z p:=⟨_,aV i⟩
    have v:=qi (aP e);refine aw (a:=p) (by rw[fJ,e]) (ai (UP (p.1,p.2) _ (bR v (by omega))) (ay ?_));unfold vZ;rw[e]
   .rw[bg]at h;apply ay;unfold vZ;rw[pL (by omega)]
 |succ d s=>
   intro lo c C z r o n;by_cases F:lo=c
   .exact s lo c (by omega) z r o n
   apply aF;simp only[Pt,Bt,aH];rw[show T.mk t.kind t.name t.sort t.kids=t from aH t,qnU lo c];have A:(lo+c)/2<c:=by omega
   have u:lo<=(lo+c)/2:=by omega
   generalize (lo+c)/2=b at *;have i:b<I l:=by omega
   obtain⟨p,e⟩:∃p,l[b]?=Z p:=⟨_,aV i⟩
   have v:=qi (aP e);refine aj (bf.2 (by omega)) (aw (a:=p) (by rw[fJ,e]) (ai (UP (p.1,p.2) _ (bR v (by omega))) (am (λ f=>?_) λ f=>?_)))
   .rw[bf]at f;have f:aQ p.1 t<0:=f;have f:aQ p.1 t=-1:=by obtain h|h|h:=eZ.rng p.1 t<;>omega
    rw[show aD ((b:Nat):Int) 1=((b+1:Nat):Int)from by unfold aD;omega,eR];refine s (b+1) c (by omega) (by omega) r (λ k q B g=>?_) n;by_cases j:k=b
    .subst j;rw[e]at g;cases g;exact f
    .exact eZ.trans _ _ _ (WJ y g e) f
   .rw[bg]at f;have f:0<=aQ p.1 t:=f;refine s lo b (by omega) u (by omega) o (λ k q B g=>?_);by_cases j:k=b
    .subst j;rw[e]at g;cases g;omega
    .intro x;have:=eZ.trans _ _ _ (WJ y e g) x;omega
def qow{l:aa Pw}(d:kG l)(t:T)(c:szP l+size t<=100000000:=by omega):Ev (λ m _=>Bv m l t) ((Go.GxZ.ixP l t:Int),vZ l t):=by
 apply aJ;simp only[qac,Bu];apply bj (L:=λ m k=>tx m k l (I l) 0 (I l) t.kind t.name t.sort t.kids);exact qmH d t c (I l) 0 (I l) (by omega) (aL _) (al _) (λ k p b=>by omega) (λ k p b a=>by rw[pL b]at a;cases a)
def Sg{l:aa Pw}(r:kG l)(t:T)(n:Int)(u:szP l+size t<=90000000:=by omega)(g:I l<=90000:=by omega)(v:ee l+n.natAbs<=1000000000000:=by omega):Ev (λ m _=>yL m l (t,n)) ((),cE l t n,()):=by
 have w:=oq l;have q:=XC l t;apply aJ;simp only[qcg,IC,aH];refine ai (qow r t) (am (λ h=>?_) λ h=>?_)
 .rw[bnt]at h;apply ai (Fx t (by omega))
  have i:wz 0 l (Go.GxZ.ixP l t:Int) [(re t,n)]=Z ((),cE l t n,()):=by
   unfold wz;rw[show inb (Go.GxZ.ixP l t:Int) (I l)=O from by unfold inb;rw[gH];omega,show Nat.ble (I l) 100000=O from tv (by omega)]
   rw[U6 l t n λ p j f=>by
    unfold vZ at h;simp only[j]at h;rw[aG]at h;exact h f]
   rw[lL,aH,bE];rfl
  rw[aH]at i;refine aw i (ap _)
 .rw[bnf]at h;cases b:l[Go.GxZ.ixP l t]? with
  |none=>unfold vZ at h;simp only[b]at h;cases h
  |some p=>
    let⟨x,k⟩:=p
    have f:aQ x t=0:=by
     unfold vZ at h;simp only[b]at h;exact aI.1 h
    have o:=MA l _ (aP b);have d:Go.GxZ.ixP l t<I l:=(dV.1 b).1;simp only at o
    have e1:iw .i64 (aD k n)=k+n:=by
     unfold aD;exact eR
    have e:av (cy l (Go.GxZ.ixP l t:Int) (x,k+n)) (Go.GxZ.ixP l t:Int)=Z (x,k+n):=by
     rw[oV,fJ,gh d]
    have a:l.set (Go.GxZ.ixP l t) (x,k+n)=l.take (Go.GxZ.ixP l t)++[(x,k+n)]++l.drop (Go.GxZ.ixP l t+1):=by
     rw[qoO,ag d,bE];rfl
    refine aw (by rw[fJ,b]) (aw (by rw[fJ,b]) ?_);simp only[aH,e1];apply aw e;rw[WK l t n x k b f];refine am (λ c=>?_) λ c=>?_
    .rw[aI]at c;rw[ag c]
     have s:wy 0 (cy l (Go.GxZ.ixP l t:Int) (x,k+n)) (Go.GxZ.ixP l t:Int) (iw .i64 (aD (Go.GxZ.ixP l t:Int) 1))=Z ((),l.take (Go.GxZ.ixP l t)++l.drop (Go.GxZ.ixP l t+1),()):=by
      rw[show aD (Go.GxZ.ixP l t:Int) 1=((Go.GxZ.ixP l t+1:Nat):Int)from by unfold aD;omega,eR,oV];unfold wy
      rw[dX,show inb ((Go.GxZ.ixP l t+1:Nat):Int) (I l)=O from by unfold inb;rw[gH];omega,show inb (Go.GxZ.ixP l t:Int) (I l)=O from by unfold inb;rw[gH];omega,
       show ieq ((Go.GxZ.ixP l t+1:Nat):Int) (aD (Go.GxZ.ixP l t:Int) 1)=O from aI.2 (by unfold aD;omega),show Nat.ble (I l) 100000=O from tv (by omega)]
      rw[lL,OZ (al _),ZC (by omega)];rfl
     exact aw s (ap _)
    .rw[aG]at c;rw[af c];apply ay;rw[oV,a]
end Go.AmZ
namespace Go.GxZ
open Go.RowKit
def My(q:ac T)(p:Pw):pvK q p=if aN p.1≠0 then aN p.1 else if kw p.1 then 1 else if p.2=0\/p.2 < -1000\/1000<p.2 then 7 else match q with|Z x=>if 0<=aQ x p.1 then 5 else 0|U=>0:=rfl
def UE:∀(l:aa Pw) (q:ac T),pvL q l=0->kG l/\(∀p∈l,p.2≠0/\p.2.natAbs<=1000)/\(∀x,q=Z x->∀p∈l,aQ x p.1=-1)/\(∀p∈l,aN p.1=0/\kw p.1=Y)
 |[],q,_=>⟨List.Pairwise.nil,(λ _ h=>by cases h),(λ _ _ _ h=>by cases h),(λ _ h=>by cases h)⟩
 |p::l,q,h=>by
   rw[pvL]at h;unfold thn at h;split at h
   rotate_left
   .next b=>exact absurd h b
   .rename_i b;have k:=My q p;let⟨j,i,d,g⟩:=UE l (Z p.1) h;rw[k]at b;split at b
    .next f=>exact absurd b f
    rename_i f;split at b
    .cases b
    rename_i m;split at b
    .cases b
    rename_i o
    have e:∀x,q=Z x->aQ x p.1=-1:=λ x c=>by
     subst c;simp only at b;split at b
     .cases b
     .next n=>obtain h|h|h:=eZ.rng x p.1<;>omega
    refine⟨xe.2 ⟨λ r a=>d _ rfl r a,j⟩,λ r a=>?_,λ x c r a=>?_,λ r a=>?_⟩
    .obtain rfl|a:=bi.1 a
     .omega
     .exact i r a
    .obtain rfl|a:=bi.1 a
     .exact e x c
     .exact oX (e x c) (by have:=d _ rfl r a;omega)
    .obtain rfl|a:=bi.1 a
     .exact⟨by omega,by simpa using m⟩
     .exact g r a
def rE{l:aa Pw}(h:gx l=0):gP l/\I l<=200/\(∀p∈l,p.2.natAbs<=1000)/\(∀p∈l,aN p.1=0/\kw p.1=Y):=by
 unfold gx at h;split at h
 .cases h
 .obtain⟨d,b,-,c⟩:=UE l U h;exact⟨⟨d,λ p a=>(b p a).1⟩,by omega,λ p a=>(b p a).2,c⟩
def Ah(k:Nat):∀(l:aa Pw),(∀p∈l,p.2.natAbs<=k)->ee l<=I l*k
 |[],_=>by simp[ee]
 |p::l,h=>by
   have c:=Ah k l λ q a=>h q (aS _ a);have b:=h p (aW ..);have e:ee (p::l)=p.2.natAbs+ee l:=rfl;rw[e,bG,dD];omega
theorem K0:∀(b a:aa Pw) (p:Pw),p∈eC a b->(∃q∈a,q.1=p.1)\/∃q∈b,q.1=p.1
 |[],a,p,h=>.inl ⟨p,h,rfl⟩
 |r::b,a,p,h=>by
   obtain⟨q,c,e⟩|⟨q,c,e⟩:=K0 b (cE a r.1 r.2) p h
   .obtain d|d:=F3 a r.1 r.2 q c
    .exact .inr ⟨r,aW ..,by rw[<-d];exact e⟩
    .exact .inl ⟨q,d,e⟩
   .exact .inr ⟨q,aS _ c,e⟩
def TZ(a b:aa Pw)(p:Pw):eC a (b++[p])=cE (eC a b) p.1 p.2:=by unfold eC;rw[yz];rfl
def qio{a b:aa Pw}(n:gx a=0)(m:gx b=0)(S:Nat)(f:∀p∈a,size p.1<=S)(d:∀p∈b,size p.1<=S)(j:Nat):
  kG (eC a (b.take j))/\I (eC a (b.take j))<=400/\(∀p∈eC a (b.take j),p.2.natAbs<=1000000)/\(∀p∈eC a (b.take j),size p.1<=S):=by
 obtain⟨r,t,k,-⟩:=rE n;obtain⟨o,s,i,-⟩:=rE m;have h:∀p∈b.take j,p∈b:=λ p c=>jf c;have l:=Ks (b.take j) a r λ p c=>o.2 p (h p c);let⟨y,x⟩:=LJ (b.take j) a;have w:=Ah 1000 a k;have v:=Ah 1000 (b.take j) λ p c=>i p (h p c);have u:I (b.take j)<=200:=by rw[bD];omega
 refine⟨l.1,by omega,λ p c=>?_,λ p c=>?_⟩
 .have:=MA _ p c;omega
 .obtain⟨q,g,e⟩|⟨q,g,e⟩:=K0 _ _ p c
  .rw[<-e];exact f q g
  .rw[<-e];exact d q (h q g)
end Go.GxZ
namespace Go.AmZ
open GxZ
def lY{t:T}(h:aN t=0):size t<=400:=by
 grind [aN]
def Gr{t:T}:kw t=O↔t.kind=3/\(t.name=iN\/t.name=dZ\/t.name=kJ):=by
 grind [kw]
theorem Ws(t:T):∀(l:aa Pw) (n:Int),szP (df t l n)<=szP l+size t:=by
 refine T.ind (P:=λ t=>∀(l:aa Pw) (n:Int),szP (df t l n)<=szP l+size t) ?_ t;intro t d l n;rw[rV];have h:=bX t;split
 .have:∀(a:aa T),(∀k∈a,k∈t.kids)->∀l,szP ((a.map df).foldl (λ l f=>f l (gd t n)) l)<=szP l+(a.map size).sum:=by
    intro a
    induction a with
    |nil=>intro _ l;simp
    |cons k a b=>
      intro c l;have i:=d k (c k (aW ..)) l (gd t n);have g:=b (λ k e=>c k (aS _ e)) (df k l (gd t n));simp only[aZ,jy,ji]at g |-
      omega
  grind
 .exact Wr l t n
def jN(ks:aa T)(a:Int)(l:aa Pw)(i:Nat):aa Pw:=((ks.take i).map df).foldl (λ l f=>f l a) l
def Tt{ks:aa T}{i:Nat}{x:T}(h:ks[i]?=Z x)(a:Int)(l:aa Pw):jN ks a l (i+1)=df x (jN ks a l i) a:=by
 grind [jN,List.take_add_one]
def JY(a:Int)(b:a≠0):∀(ks:aa T) (l:aa Pw),gP l->gP ((ks.map df).foldl (λ l f=>f l a) l)/\szP ((ks.map df).foldl (λ l f=>f l a) l)<=szP l+szL ks/\
  ee ((ks.map df).foldl (λ l f=>f l a) l)<=ee l+szL ks*a.natAbs/\I ((ks.map df).foldl (λ l f=>f l a) l)<=I l+szL ks
 |[],l,h=>⟨h,by simp,by simp,by simp⟩
 |k::ks,l,h=>by
   let⟨g,e,d,c⟩:=JY a b ks (df k l a) (qju k l a b h);grind [Ws,qk9,dz,Nat.add_mul]
def oB(t:T)(l:aa Pw)(n:Int):Unit×aa Pw×Bool×Unit:=((),if arT t then df t l n else[],arT t,())
def qiq(t:T):∀(l:aa Pw) (n:Int),n≠0->gP l->szP l+size t<=80000->ee l+size t*n.natAbs<=100000000000->Ev (λ m _=>kV m l t n) (oB t l n):=by
 induction t using T.ind with
 |h t M=>
   intro l n G H X K;have hl:=dK t;have W:=bX t;have N:=oq l;apply aJ;simp only[qbQ,BO,aH];refine ai (Wn t) (am (λ h=>?_) λ h=>?_)
   .rw[bnt]at h;have r:n.natAbs<=size t*n.natAbs:=ZY _ (size_pos t);refine ai (Sg H.1 t n) (ay ?_);grind [oB,GR,rV]
   rw[bnf]at h;let⟨h3,j⟩:=Gr.1 h;have o:arT t=(arK t&&(t.kids.map arT).all id):=by rw[GR,h];rfl
   have g:∀e:Int,e≠0->e.natAbs=n.natAbs->gd t n=e->arK t=O->Ev (λ m _=>ra m (kV m) m e t.kids (I t.kids) 0 l) (oB t l n):=by
    intro e p E z d;have s:df t l n=jN t.kids e l (I t.kids):=by rw[rV,h,ag rfl,z];unfold jN;rw[cV]
    have y:=bA (P:=λ i=>(∀k∈t.kids.take i,arT k=O)->Ev (λ m k=>ra m (kV m) k e t.kids (I t.kids) i (jN t.kids e l i)) (oB t l n)) t.kids (by omega)
     (λ D w=>by
      apply aF;simp only[PR,BR];refine ak D (ay ?_);unfold oB
      have:arT t=O:=by
       rw[o,d,ei,bJ];intro b K;obtain⟨k,B,rfl⟩:=bu.1 K;rw[cV]at w;exact w k B
      rw[this,ag rfl,s])
     (λ i x v hd D C Q F w=>by
      apply aF;simp only[PR,BR,aH];have A:=aP v;have h1:=du t x A;let⟨R,f2,f3,f4⟩:=JY e p (t.kids.take i) l H;have h5:=pP v;have h6:szL t.kids+1=size t:=by unfold szL;omega
      have h7:szL (t.kids.take i)*e.natAbs+size x*e.natAbs<=size t*n.natAbs:=by
       rw[<-dD,E];exact cj _ (by omega)
      refine aj D (aw C (ai (M x A (jN t.kids e l i) e p R (by unfold jN;omega) (by unfold jN;omega)) (am (λ c=>?_) λ c=>?_)))
      .rw[bnt]at c;have c:arT x=Y:=c;apply ay;unfold oB
       have:arT t=Y:=by
        rw[o,d,ei,<-nQ,bJ];intro u;have:=u (arT x) (eF A);rw[c]at this;cases this
       rw[this];rfl
      .rw[bnf]at c;have c:arT x=O:=c
       have F:=F λ k f=>by
        rw[lJ,v]at f;obtain f|f:=bc.1 f
        .exact w k f
        .rw[show k=x from by simpa using f];exact c
       rw[Q];refine F.congr λ m k=>?_;unfold oB;rw[Tt v,c];rfl)
    apply bj (L:=λ m k=>ra m (kV m) k e t.kids (I t.kids) 0 l);exact(y 0 (aL _)) (λ k d=>by rw[qW]at d;cases d)
   have S:arK t=Y->Ev (λ _ _=>Z ((),[],Y,())) (oB t l n):=λ d=>by
    apply ay;unfold oB;rw[o,d];rfl
   have q:iw .i64 (cr 0 n)=-n:=by
    have r:n.natAbs<=size t*n.natAbs:=ZY _ (size_pos t);grind [cr,eR]
   obtain a|a|a:=j
   .refine ak (by rw[a];rfl) (ak (by rw[a];rfl) (aj (by rw[a];rfl) (am (λ d=>?_) λ d=>?_)))
    .grind [arK,bf,decide_eq_true]
    .rw[bg]at d;exact ak (by rw[a];rfl) (g n G rfl (by unfold gd;rw[a];rfl) (by unfold arK;rw[a,gj (show ¬ I t.kids<2 by omega)];rfl))
   .refine ak (by rw[a];rfl) (aj (by rw[a];rfl) (am (λ d=>?_) λ d=>?_))
    .rw[bnt,aG]at d;grind [arK]
    .rw[bnf,aI]at d;rw[q];exact ak (by rw[a];rfl) (aj (by rw[a];rfl) (g (-n) (by omega) (by omega) (by unfold gd;rw[ag a]) (by unfold arK;rw[a,show(I t.kids != 1)=Y from by rw[Pp];omega];rfl)))
   .refine aj (by rw[a];rfl) (am (λ d=>?_) λ d=>?_)
    .rw[bnt,aG]at d;grind [arK]
    .rw[bnf,aI]at d;exact ak (by rw[a];rfl) (ak (by rw[a];rfl) (ak (by rw[a];rfl) (g n G rfl (by unfold gd;rw[a];rfl) (by unfold arK;rw[a,show(I t.kids != 0)=Y from by rw[Pp];omega];rfl))))
def MK(t:T)(c:size t<=1000000000:=by omega):Ev (λ m _=>uy m t) (ofP t):=by
 apply aJ;simp only[qf4,Jj,aH];unfold ofP;refine ai (jG t c) (am (λ h=>?_) λ h=>?_)
 .rw[bnt,aG]at h;rw[ag h];exact ap _
 .rw[bnf,aI]at h;have d:=lY h;rw[ifN];refine ai (qiq t [] 1 (by decide) gP.nil (by show 0+_<=_;omega) (by show 0+size t*1<=_;omega)) (am (λ a=>?_) λ a=>?_)
  .rw[bnt]at a;have a:arT t=Y:=a;rw[ag a];exact ap _
  .rw[bnf]at a;have a:arT t=O:=a;rw[af (by rw[a];decide)];have e:(oB t [] 1).2.1=df t [] 1:=by unfold oB;rw[a];rfl
   rw[e];refine am (λ b=>?_) λ b=>?_
   .rw[bf]at b;rw[ifP];exact ap _
   .rw[bg]at b;rw[ifN];exact ap _
def lw(l:aa Pw)(i:Nat):ac T:=if i=0 then U else(l[i-1]?).map (·.1)
def EK{l:aa Pw}{i:Nat}{p:Pw}(h:l[i]?=Z p):lw l (i+1)=Z p.1:=by
 grind [lw]
def Kn(l:aa Pw)(E:szP l<=1000000000:=by omega):Ev (λ m _=>wF m l) (gx l):=by
 have F:=oq l;apply aJ;simp only[qcY,B1];unfold gx;refine am (λ h=>?_) λ h=>?_
 .rw[bf]at h;rw[ifP];exact ap _
 rw[bg]at h;rw[ifN]
 have s:=bA (P:=λ i=>Ev (λ m k=>rh m k l l (I l) i) (pvL (lw l i) (l.drop i))) l (by omega)
  (λ z=>by
   apply aF;simp only[P5,Cb];refine ak z (ay ?_);rw[ej];rfl)
  (λ i x u D z C B A=>by
   apply aF;simp only[P5,Cb,aH];have H:=qi (aP u);rw[EK u]at A;rw[D,pvL];have c:=My (lw l i) x
   have b:∀e:Int,pvK (lw l i) x=e->e≠0->Ev (λ _ _=>Z e) (thn (pvK (lw l i) x) (pvL (Z x.1) (l.drop (i+1)))):=λ e y r=>by
    rw[y];exact ay (by unfold thn;rw[af r])
   have d:pvK (lw l i) x=0->Ev (λ m k=>rh m k l l (I l) ((i+1:Nat):Int)) (thn (pvK (lw l i) x) (pvL (Z x.1) (l.drop (i+1)))):=λ y=>by
    rw[y];exact A.res (by unfold thn;rw[ag rfl])
   refine aj z (aw C (ai (jG x.1) (am (λ p=>?_) λ p=>?_)))
   .rw[bnt,aG]at p;exact b _ (by rw[c,ag p]) p
   rw[bnf,aI]at p;rw[ifN]at c;refine ai (Wn x.1) (am (λ o=>?_) λ o=>?_)
   .exact b 1 (by rw[c,ag o]) (by decide)
   rw[af (by rw[o];decide)]at c;refine am (λ t=>?_) λ t=>?_
   .rw[aI]at t;exact b 7 (by rw[c,ifP]) (by decide)
   rw[aG]at t;refine am (λ n=>?_) λ n=>?_
   .rw[bf]at n;exact b 7 (by rw[c,ifP]) (by decide)
   rw[bg]at n;refine am (λ g=>?_) λ g=>?_
   .rw[bf]at g;exact b 7 (by rw[c,ifP]) (by decide)
   rw[bg]at g;rw[ifN]at c;rw[B];refine am (λ r=>?_) λ r=>?_
   .rw[bf]at r;obtain⟨j,rfl⟩:∃j,i=j+1:=⟨i-1,by omega⟩
    have w:j<I l:=by have:=(dV.1 u).1;omega
    obtain⟨q,v⟩:∃q,l[j]?=Z q:=⟨_,aV w⟩
    have G:=qi (aP v);rw[EK v]at c b d |-
    simp only at c;refine aw (a:=q) (by rw[show cr ((j+1:Nat):Int) 1=((j:Nat):Int)from by unfold cr;omega,eR,fJ,v]) (ai (oQ q.1 (by omega) x.1 (by omega)) (am (λ f=>?_) λ f=>?_))
    .rw[lq]at f;exact b 5 (by rw[c,ag f]) (by decide)
    .rw[pj]at f;exact d (by rw[c,ifN])
   .rw[bg]at r;have:i=0:=by omega
    subst this;exact d (by rw[c];rfl))
 apply bj (L:=λ m k=>rh m k l l (I l) 0);exact s 0 (aL _)
def gn{α:Type}{l:aa α}{i:Nat}{x:α}(h:l[i]?=Z x):l.take (i+1)=l.take i++[x]:=by rw[lJ,h];rfl
def KR(a b:aa Pw):cw (a++b)=cw a++cw b:=by unfold cw;rw[List.flatMap_append]
def LF(a b:aa Pw):cz (a++b)=cz a++cz b:=by unfold cz;rw[List.flatMap_append]
def K5(p:Pw):cw [p]=List.replicate p.2.toNat p.1:=by unfold cw;simp
def Lb(p:Pw):cz [p]=List.replicate (-p.2).toNat (apT dZ [p.1]):=by unfold cz;simp
def Xa(n:Nat)(x:T):szL (List.replicate n x)=n*size x:=by
 simp_all [szL]
def UI(t:T):size (apT dZ [t])=1+size t:=by rw[bX];show 1+(size t+0)=_;omega
def FP{P:Nat->Prop}(N:Int)(g:N<=1000000)(b:P N.toNat)(a:∀j:Nat,(j:Int)<N->iw .i64 (aD (j:Int) 1)=((j+1:Nat):Int)->P (j+1)->P j):∀j:Nat,j<=N.toNat->P j:=by
 intro j e;obtain⟨d,f⟩:∃d,N.toNat=j+d:=⟨N.toNat-j,by omega⟩
 induction d generalizing j with
 |zero=>
   grind
 |succ d c=>
   grind [aD,eR]
def qmE{l:aa Pw}{p:Pw}(a:p∈l)(h:8<p.2):8<I (cw l++cz l):=by
 have:I (List.replicate p.2.toNat p.1)<=I (cw l):=bR (qoV (eF (f:=λ p:Pw=>List.replicate p.2.toNat p.1) a)).length_le (by unfold cw;rw[ZD];exact al _);grind
def qnb{l:aa Pw}{p:Pw}(a:p∈l)(h:p.2 < -8):8<I (cw l++cz l):=by
 have:I (List.replicate (-p.2).toNat (apT dZ [p.1]))<=I (cz l):=bR (qoV (eF (f:=λ p:Pw=>List.replicate (-p.2).toNat (apT dZ [p.1])) a)).length_le (by unfold cz;rw[ZD];exact al _);grind
def W4(o:aa T):size (fD o)<=1+szL o:=by
 unfold fD;split
 .rw[bX];show 1+0<=_;omega
 .split
  .rename_i _ a
   have:o.getD 0 zT∈o:=by
    cases o with
    |nil=>cases a
    |cons x r=>exact aW ..
   have:=ol this;omega
  .rw[bX];exact al _
def Kp{l:aa Pw}(a:∀p∈l,size p.1<=400):∀(ks:aa Pw),(∀p∈ks,p∈l/\-8<=p.2/\p.2<=8)->I (cw ks)<=8*I ks/\I (cz ks)<=8*I ks/\szL (cw ks)<=3200*I ks/\szL (cz ks)<=3208*I ks
 |[],_=>⟨al _,al _,al _,al _⟩
 |p::ks,h=>by
   let⟨m,k,j,i⟩:=Kp a ks λ q b=>h q (aS _ b);let⟨d,o,n⟩:=h p (aW ..);have c:=a p d;have e1:cw (p::ks)=List.replicate p.2.toNat p.1++cw ks:=by rw[show p::ks=[p]++ks from rfl,KR,K5]
   have e:cz (p::ks)=List.replicate (-p.2).toNat (apT dZ [p.1])++cz ks:=by rw[show p::ks=[p]++ks from rfl,LF,Lb]
   have g:p.2.toNat*size p.1<=8*400:=Pd (by omega) c;have f:(-p.2).toNat*(1+size p.1)<=8*401:=Pd (by omega) (by omega);rw[e1,e,uY,uY,Xa,Xa,UI];grind
def pE(o:aa T):T×Int:=if 8<I o then(zT,3)else if aN (fD o)≠0 then(zT,aN (fD o))else(fD o,0)
def Kt{l:aa Pw}(h:gx l=0):ja l=pE (cw l++cz l):=by
 grind [ja,pE]
def VT(l:aa Pw)(W:szP l<=1000000000:=by omega):Ev (λ m _=>rz m l) (ja l):=by
 apply aJ;simp only[qds,Cn];refine ai (Kn l W) (am (λ h=>?_) λ h=>?_)
 .rw[bnt,aG]at h;unfold ja;rw[ag h];exact ap _
 rw[bnf,aI]at h;let⟨_,H,hN,hV⟩:=rE h;have c:∀p∈l,size p.1<=400:=λ p A=>lY (hV p A).1;rw[Kt h]
 have D:=bA (P:=λ i=>(∀p∈l.take i,p∈l/\-8<=p.2/\p.2<=8)->Ev (λ m k=>(fG m k).1 l (I l) i 0 [] 0 [] (cw (l.take i)) (cz (l.take i))) (pE (cw l++cz l))) l (by omega)
  (λ F t=>by
   apply aF;simp only[Qe,Cp,aH];rw[cV]at t |-
   let⟨b1,b2,b3,b4⟩:=Kp c l t;refine ak F (ai (Sm (cw l) (cz l)) ?_);have ho:szL (cw l++cz l)<=10000000:=by rw[uY];omega
   generalize cw l++cz l=o at *;have ab:=gX o;have X:=W4 o;unfold pE;refine am (λ b=>?_) λ b=>?_
   .rw[bf]at b;rw[ifP];exact ap _
   rw[bg]at b;rw[ifN]
   have f:∀u:T,u=fD o->Ev (λ m _=>ae (eQ m u) λ v=>cond (au (ieq v 0)) (Z (T.mk 0 [] 0 [],v)) (Z (u,0))) (if aN (fD o)≠0 then(zT,aN (fD o))else(fD o,0)):=by
    intro u R;subst R;refine ai (jG _) (am (λ h=>?_) λ h=>?_)
    .rw[bnt,aG]at h;rw[ag h];exact ap _
    .rw[bnf,aI]at h;rw[ifN];exact ap _
   have y:∀(n:aa aA) (x:aa T),Ev (λ m _=>yT m n x) (apT n x):=λ n x=>aJ (ap _);refine ai (y [109,117,108] o) (am (λ G=>?_) λ G=>?_)
   .rw[aI]at G;exact ai (y [111,110,101] []) (f _ (by unfold fD;rw[ifP];rfl))
   .rw[aG]at G;refine am (λ C=>?_) λ C=>?_
    .rw[aI]at C;refine aw (a:=o.getD 0 zT) ?_ (f _ (by unfold fD;rw[ifN,ifP]));rw[nZ,gE];cases o with
     |nil=>simp at C
     |cons x r=>rfl
    .rw[aG]at C;exact f _ (by unfold fD;rw[ifN,ifN];rfl))
  (λ i p z hd F hg hi B t=>by
   apply aF;simp only[Qe,Cp];have s:=aP z;have hn:=hN p s;have hz:=c p s;have ad:=(dV.1 z).1;refine aj F (aw hg (am (λ b=>?_) λ b=>?_))
   .rw[bf]at b;unfold pE;rw[ag (qmE s b)];exact ap _
   rw[bg]at b;refine am (λ w=>?_) λ w=>?_
   .rw[bf]at w;unfold pE;rw[ag (qnb s w)];exact ap _
   rw[bg]at w;let⟨b1,b2,b3,b4⟩:=Kp c _ t;have S:I (l.take i)<=200:=by rw[bD];omega
   have B:=B λ q g=>by
    rw[gn z]at g;obtain g|g:=bc.1 g
    .exact t q g
    .rw[show q=p from by simpa using g];exact⟨s,w,b⟩
   rw[gn z,KR,LF,K5,Lb]at B;generalize cw (l.take i)=K at *;generalize cz (l.take i)=M at*
   have N:=FP (P:=λ j=>Ev (λ m k=>(fG m k).2.2 l (I l) i (-p.2) j 0 [] 0 p.1.kind p.1.name p.1.sort p.1.kids p.2 [] (K++List.replicate p.2.toNat p.1) (M++List.replicate j (apT dZ [p.1]))) (pE (cw l++cz l))) (-p.2) (by omega)
    (by
     apply aF;simp only[Qc,Cf];apply ak (bg.2 (by omega));rw[hi];exact B)
    (λ j E d e=>by
     apply aF;simp only[Qc,Cf,aH];rw[show T.mk p.1.kind p.1.name p.1.sort p.1.kids=p.1 from aH p.1,d];refine aj (bf.2 E) (ai (Fx p.1 (by omega)) (ai (a:=apT dZ [p.1]) (aJ (ap _)) (aj (cx (by rw[aU,ti];omega)) ?_)));refine e.congr λ m k=>?_;rw[Pq,bE])
   have Q:=FP (P:=λ j=>Ev (λ m k=>(fG m k).2.1 l (I l) i p.2 j 0 [] 0 p.1.kind p.1.name p.1.sort p.1.kids p.2 [] (K++List.replicate j p.1) M) (pE (cw l++cz l))) p.2 (by omega)
    (by
     apply aF;simp only[Qd,Ch];apply ak (bg.2 (by omega));rw[show iw .i64 (cr 0 p.2)=-p.2 from by unfold cr;rw[eR];omega];have:=N 0 (aL _);rw[If,bZ]at this;exact this)
    (λ j E d e=>by
     apply aF;simp only[Qd,Ch,aH];rw[show T.mk p.1.kind p.1.name p.1.sort p.1.kids=p.1 from aH p.1,d];refine aj (bf.2 E) (ai (Fx p.1 (by omega)) (aj (cx (by rw[aU,ti];omega)) ?_));refine e.congr λ m k=>?_;rw[Pq,bE])
   have:=Q 0 (aL _);rw[If,bZ]at this;exact this)
 apply bj (L:=λ m k=>(fG m k).1 l (I l) 0 0 [] 0 [] [] []);exact(D 0 (aL _)) (λ p A=>by rw[qW]at A;cases A)
def qnu(l:aa Pw)(g:szP l<=100000000):Ev (λ m _=>Cy m l) ((),l,()):=by
 have h:=oq l;apply aJ;simp only[qb6,BX]
 have a:=bA (P:=λ i=>Ev (λ m k=>tJ m k l (I l) i (l.take i)) ((),l,())) l (by omega)
  (λ b=>by
   apply aF;simp only[PS,BW];apply ak b;rw[cV];exact ap _)
  (λ i p c j b e d f=>by
   apply aF;simp only[PS,BW,aH];have o:=qi (aP c);have n:I (l.take i)<=I l:=by rw[bD];omega
   refine aj b (aw e (ai (Fx p.1 (by omega)) (aj (cx) ?_)));rw[d];refine f.congr λ m k=>?_;rw[gn c])
 apply bj (L:=λ m k=>tJ m k l (I l) 0 []);exact a 0 (aL _)
def T5(p:Pw)(l:aa Pw):pF (p::l)=((J (p.2 < -1000)||J (1000<p.2))||pF l):=rfl
def qmk(l:aa Pw)(r:I l<=1000000000):∃v,Ev (λ m _=>Bz m l) v/\ile 0 v=pF l:=by
 have b:=bA (P:=λ i=>∃v,Ev (λ m k=>wu m k l (I l) i) v/\ile 0 v=pF (l.drop i)) l (by omega)
  (λ a=>by
   refine⟨-1,aF ?_,by rw[ej];rfl⟩;simp only[Il,yA];exact ak a (ap _))
  (λ i p q n a f j o=>by
   let⟨v,d,c⟩:=o;rw[n,T5]
   have e:Ev (λ m _=>B9 m (p.1,p.2)) (J (p.2 < -1000)||J (1000<p.2)):=by
    apply aJ;simp only[qbq,Iv];refine am (λ h=>?_) λ h=>?_
    .rw[bf]at h;exact ay (by rw[cO h];rfl)
    .rw[bg]at h;exact ay (by rw[gj (show ¬ p.2 < -1000 by omega)];rfl)
   cases g:J (p.2 < -1000)||J (1000<p.2)with
   |true=>
     refine⟨i,aF ?_,by rw[nO,lq];omega⟩;simp only[Il,yA,aH];exact aj a (aw f (ai e (aj g (ap _))))
   |false=>
     refine⟨v,aF ?_,by rw[pM];exact c⟩;simp only[Il,yA,aH];refine aj a (aw f (ai e (ak g ?_)));rw[j];exact d)
 let⟨v,d,c⟩:=b 0 (aL _);refine⟨v,aJ ?_,by rw[c,dl]⟩;simp only[qau,Bw];grind [Ev.diag]
def vx(l:aa Pw):aa Pw×Int:=if pF l then([],7)else if 200<I l then([],3)else(l,0)
def qnn(l:aa Pw)(c:I l<=1000000000:=by omega):Ev (λ m _=>CI m l) (vx l):=by
 let⟨v,b,d⟩:=qmk l c;apply aJ;simp only[qcl,IE]
 have e:Ev (λ m _=>Bx m l) (pF l):=by
  apply aJ;simp only[qaj,Ij];exact ai b (ay d)
 unfold vx;refine ai e (am (λ h=>?_) λ h=>?_)
 .rw[ag h];exact ap _
 .rw[af (by rw[h];decide)];refine am (λ a=>?_) λ a=>?_
  .rw[bf]at a;rw[ifP];exact ap _
  .rw[bg]at a;rw[ifN];exact ap _
def XF(S:Nat):∀l:aa Pw,(∀p∈l,size p.1<=S)->szP l<=I l*S
 |[],_=>by simp[szP]
 |p::l,h=>by
   have b:=XF S l λ q a=>h q (aS _ a);grind [List.mem_cons_self,oa,List.length_cons,Nat.add_mul]
def SM(a b:aa Pw):pu a b=if gx a≠0 then([],gx a)else if gx b≠0 then([],gx b)else vx (eC a b):=rfl
def zm{a b:aa Pw}(f:gx a=0)(e:gx b=0)(j:Nat):
  gP (eC a (b.take j))/\I (eC a (b.take j))<=400/\szP (eC a (b.take j))<=160000/\ee (eC a (b.take j))<=400000:=by
 let⟨q,s,l,i⟩:=rE f;let⟨o,r,k,h⟩:=rE e;have d:∀p∈b.take j,p∈b:=λ p c=>jf c;let⟨y,g,x,n⟩:=qio f e 400 (λ p c=>lY (i p c).1) (λ p c=>lY (h p c).1) j;have m:=XF 400 _ n;let⟨w,_⟩:=LJ (b.take j) a;have v:=Ah 1000 a l;have u:=Ah 1000 (b.take j) λ p c=>k p (d p c);have t:I (b.take j)<=200:=by rw[bD];omega
 refine⟨Ks _ _ q λ p c=>o.2 p (d p c),g,bR m (cj 400 g),?_⟩;grind
def qnK(a b:aa Pw)(s:szP a<=100000000:=by omega)(y:szP b<=100000000:=by omega):Ev (λ m _=>DU m a b) (pu a b):=by
 have w:=oq b;apply aJ;simp only[qeS,CO];rw[SM];refine ai (Kn a) (am (λ h=>?_) λ h=>?_)
 .rw[bnt,aG]at h;rw[ag h];exact ap _
 rw[bnf,aI]at h;rw[ifN];refine ai (Kn b) (am (λ c=>?_) λ c=>?_)
 .rw[bnt,aG]at c;rw[ag c];exact ap _
 rw[bnf,aI]at c;rw[ifN];apply ai (qnu a s)
 have d:=bA (P:=λ i=>Ev (λ m k=>tX m k b (I b) i (eC a (b.take i))) (vx (eC a b))) b (by omega)
  (λ e=>by
   apply aF;simp only[Qz,CC];rw[cV];let⟨_,j,_,_⟩:=zm h c (I b);rw[cV]at j;exact ak e (ai (qnn _) (ap _)))
  (λ i p f x e r q t=>by
   apply aF;simp only[Qz,CC,aH];have g:=aP f;let⟨u,j,A,z⟩:=zm h c i;let⟨_,_,o,l⟩:=rE c;have v:=lY (l p g).1;have n:=o p g;refine aj e (aw r (ai (Sg u.1 p.1 p.2) ?_));rw[q];refine t.congr λ m k=>?_;rw[gn f,TZ])
 apply bj (L:=λ m k=>tX m k b (I b) 0 a);exact d 0 (aL _)
end Go.AmZ
