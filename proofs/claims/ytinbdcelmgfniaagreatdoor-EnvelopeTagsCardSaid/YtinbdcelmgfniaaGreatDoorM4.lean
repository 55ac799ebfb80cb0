/- Part 4 of what the proofs stand on: plain functions of the program, and that they are its functions. -/
import Derived.Test.YtinbdcelmgfniaaGreatDoorM3
import Derived.KernelRfl
import Derived.Test.YtinbdcelmgfniaaGreatDoorProg
import Derived.Shelf.LaysM
import Derived.Shelf.Strconv.Itoa3
import Derived.Lib.AppendIntMem
import Derived.Shelf.SlSortCmp.NoneTotal
import Derived.Laws.OwnMore
import Derived.Deep.DeepAppendRoom
import Derived.ArgAppend
import Derived.Test.YtinbdcelmgfniaaGreatDoorM2
import Derived.IntWalk
import Derived.Lib.Bytealg
set_option linter.unusedVariables false
set_option linter.unusedSimpArgs false
noncomputable section
namespace Go.Proofs.YtinbdcelmgfniaaGreatDoor
open Go.RowKit Go.GxZ Go.BigFrame
theorem qxW:(Tryz.prog.info? 157).map (λ i=>(i.zero,i.size,i.bytes))=some (some (.agg #[.int .i64 0,.string ⟨#[]⟩,.int .i64 0,.slice none 0 0,.int .i64 0]),5,64):=by kernel_rfl
theorem qEL(w:World):(sizeOf 157).run Tryz.prog w=.ok 5 w:=by kernel_rfl
theorem quc:(Tryz.prog.info? 157).map (·.size)=some 5:=by kernel_rfl
set_option maxHeartbeats 4000000 in
set_option maxRecDepth 100000 in
theorem insert_endPow(w:World)(p:Option Addr)(n c:Nat)(ad:Addr)(f:Nat)(b:Value)(w':World)(i:n<=100000)(d:(Builtin.append_ #[134,134] 134 #[.slice p n c,.slice (some ad) 1 f]).run Tryz.prog w = .ok b w') :
  Calls Tryz.prog 225 #[.slice p n c,.int .i64 n,.slice (some ad) 1 f] w λ e g=>e = .returned b/\g=w':=by
 have h:=Lib.hid d;clear d
 go_enter Tryz.func225,Tryz.ntmps225
 go_wp2_with (at_builtin;refine Lib.wpList_append_run _ rfl _ _ _ _ rfl _ _ rfl rfl _ _ h.out ?_)
 all_goals
  go_ret
  first
   | exact⟨rfl,rfl⟩
   | (have a:c=n:=by assumption
      subst a;exact⟨rfl,rfl⟩)
set_option maxHeartbeats 4000000 in
set_option maxRecDepth 100000 in
theorem insert_roomPow (w:World) (g n c i:Nat) (et:TypeId) (cur:Array Value) (xs:List Value) (hbk:Blk w g et cur) (hcs:c*5<=cur.size) (hx:cur.toList.take (n*5)=xs) (hone:∀u∈xs,u.oneCell'=true)
  (g2 o2 c2:Nat) (ys:List Value) (hy:ys.length=5) (hys:∀j u,ys[j]?=some u->w.cell? ⟨g2,o2+j,none⟩=some u) (h1:∀u∈ys,u.oneCell'=true) (hne:g2≠g) (hn:n<=100000) (hi:i<n) (hroom:n+1<=c):
  Calls Tryz.prog 225 #[.slice (some ⟨g,0,none⟩) n c,.int .i64 i,.slice (some ⟨g2,o2,none⟩) 1 c2] w (qip 5 w g cur.size (n+1) (xs.take (i*5)++ys++xs.drop (i*5))):=by
 have hlc:cur.toList.length=cur.size:=by simp
 have hnc:(n+1)*5<=c*5:=wm _ hroom;have hik:(i+1)*5<=n*5:=wm _ hi;have hxl:xs.length=n*5:=by rw [<-hx,wu];omega
 obtain ⟨tA,kA,hsA,hkA⟩:∃t k,w.shape? g2=some (t,k)/\k≠0:=by
  cases hy0:ys[0]? with
  |none=>rw [List.getElem?_eq_none_iff]at hy0;omega
  |some u=>exact qyX (a:=⟨g2,o2+0,none⟩) rfl (hys 0 u hy0)
 have hov:∀lb cb,(callFunc 239 #[.slice (some ⟨g2,o2,none⟩) 1 c2,.slice (some ⟨g,(i+1)*5,none⟩) lb cb]).run Tryz.prog w=.ok (.value (.bool false)) w:=λ lb cb=>by
  rw [run_callFunc_extern Tryz.func239 (by kernel_rfl) (by kernel_rfl) (by kernel_rfl) (e:=Extern.SlicesOverlaps.overlaps #[134,134] #[4]) (by kernel_rfl),
   qqp w 134 4 157 Tryz.underlying134 5 qEL ⟨g2,o2,none⟩ ⟨g,(i+1)*5,none⟩ 1 c2 lb cb hne tA et kA cur.size
    hsA hkA (by unfold Blk at hbk;simp [World.shape?,hbk]) (hbk.free _) (hbk.free _)]
  rfl
 have hin:((i:Int)==(n:Int))=false:=by simp;omega
 have hb1:¬ (c=i+1):=by omega
 have hb2:¬ (c=i):=by omega
 have hlen1:(xs.drop (i*5)).length=n*5-i*5:=by rw [wR,hxl]
 have HD1:Hid ((xs.drop (i*5)).length=Nat.min (n+1-i) (n-i)*5):=by
  have hm:Nat.min (n+1-i) (n-i)=n-i:=Nat.min_eq_right (by omega);show _=_;rw [hlen1,hm,vU]
 have HS1:Hid (∀(j:Nat) (v:Value),(xs.drop (i*5))[j]?=some v->w.drew.cell? ((⟨g,i*5,none⟩:Addr).add j)=some v):=λ j v hj=>by
  have e1:(⟨g,i*5,none⟩:Addr).add j=⟨g,i*5+j,none⟩:=by unfold Addr.add;split<;>simp_all
  rw [e1];show w.cell? _=_;rw [hbk.cell,<-Array.getElem?_toList];rw [List.getElem?_drop,<-hx,List.getElem?_take]at hj;split at hj
  .exact hj
  .cases hj
 have HF1:Hid ((i+1)*5+(xs.drop (i*5)).length<=cur.size):=by show _<=_;rw [hlen1];omega
 have HO1:Hid (∀v∈xs.drop (i*5),v.oneCell'=true):=λ v hv=>hone v (wO hv);have hBK1:Hid (Blk w.drew g et cur):=hbk;obtain ⟨c1,hc1⟩:∃c1,c1=cur.toList.take ((i+1)*5)++xs.drop (i*5)++cur.toList.drop ((i+1)*5+(xs.drop (i*5)).length):=⟨_,rfl⟩
 obtain ⟨k1,k2,k3⟩:=qBH 5 cur.toList xs ys i n hx (by rw [hlc];omega) (by omega) hy c1 (by rw [hc1,kL]);have HC1:=Lib.hid hc1;have K1:=Lib.hid k1;have K2:=Lib.hid k2;have K3:=Lib.hid k3;have HLC:=Lib.hid hlc;have HY:=Lib.hid hy
 have HY1:Hid (ys.length=Nat.min 1 (n+1-i)*5):=by
  have hm:Nat.min 1 (n+1-i)=1:=kh (by omega);show _=_;rw [hy,hm]
 have HF2:Hid (i*5+ys.length<=c1.toArray.size):=by show _<=_;rw [hy];simp only [wV];rw [k1,hlc];omega
 have HYS:=Lib.hid hys;have HCS:=Lib.hid hcs;have H1:=Lib.hid h1;have HNE:=Lib.hid hne;have HNC:=Lib.hid hnc;have hlt:=lt_of_block hbk;have hov':=hov;clear hxl hlc hov hx hone hcs hbk hys hy h1 hne hlen1 hc1 k1 k2 k3 hsA hkA hnc hik;have HOV:=Lib.hid hov'
 go_enter Tryz.func225,Tryz.ntmps225
 go_upto_region 15 with (simp only [hov'])
 clear hov';have hw1:IntKind.i64.wrap ((i:Int)+1)=(i:Int)+1:=IntWalk.i64_in _ (by omega);have hw2:(0:Int)<=(i:Int)+1:=by omega
 have hw3:((i:Int)+1).toNat=i+1:=by omega
 have hw4:(i:Int)+1<=(n:Int)+1:=by omega
 have hw5:(i:Int)<=(n:Int)+1:=by omega
 go_region_law (refine qrb rfl (.tmp 73) (.tmp 76) 134 134 rfl 157 5 Tryz.underlying134 quc g ((i+1)*5) (n-i) (c-(i+1)) ⟨g,i*5,none⟩ (n+1-i) (c-i) (by simp [Act.eval,Act.put]) (by simp [Act.eval,Act.put]) cur et hBK1.out (xs.drop (i*5)) HD1.out HS1.out HF1.out HO1.out ?_;intro w4 hw4;have HW4:=Lib.hid hw4;clear hw4)
 all_goals
  have HW5:Hid (qh6 w.drew w4 g et c1):=by show qh6 _ _ _ _ _;rw [HC1.out];exact HW4.out
  have HB4:Hid (Blk w4 g et c1.toArray):=HW5.out.blk
  have HSY:Hid (∀(j:Nat) (v:Value),ys[j]?=some v->w4.cell? ((⟨g2,o2,none⟩:Addr).add j)=some v):=λ j v hj=>by
   have e1:(⟨g2,o2,none⟩:Addr).add j=⟨g2,o2+j,none⟩:=by unfold Addr.add;split<;>simp_all
   rw [e1,show w4.cell? _=w.cell? _ from World.cell?_of_block (HW5.out.other g2 HNE.out)];exact HYS.out j v hj
  clear hw1 hw2 hw3 hw4 HW4
  obtain ⟨w6,hcp,hw6⟩:∃w6,(∀ty,(Builtin.copy_ #[134,134] ty #[.slice (some ⟨g,i*5,none⟩) (n+1-i) (c-i),.slice (some ⟨g2,o2,none⟩) 1 c2]).run Tryz.prog w4=.ok (goInt (Nat.min 1 (n+1-i))) w6)/\qh6 w4 w6 g et (c1.toArray.toList.take (i*5)++ys++c1.toArray.toList.drop (i*5+ys.length)):=
   ⟨_,λ ty=>qmz w4 134 134 ty 157 5 g (i*5) (n+1-i) (c-i) ⟨g2,o2,none⟩ 1 c2 c1.toArray et ys Tryz.underlying134 quc HB4.out HY1.out HSY.out HF2.out H1.out,qd7 HB4.out _⟩
  have HW6:=Lib.hid hw6;clear hw6
  go_wp2_with (simp only [hcp])
  go_ret
  have h6:=HW6.out;have h5:=HW5.out;have hblk:=h6.blk;have k2:=K2.out;have hlc:=HLC.out;refine ⟨g,c,_,et,rfl,hblk,hroom,?_,?_,.inl ⟨rfl,?_⟩,h6.os.trans h5.os,h6.tape.trans h5.tape,h6.output.trans h5.output,?_,?_,λ k _ hk=>(h6.other k hk).trans (h5.other k hk)⟩
  .rw [wV];exact wC HCS.out (vf (by rw [k2,hlc]))
  .rw [kL];exact K3.out.trans (wk _ _ _)
  .rw [wV,k2,hlc]
  .rw [h6.size,h5.size];exact wa _
  .rw [h6.drawn,h5.drawn];exact wU _
set_option maxHeartbeats 4000000 in
set_option maxRecDepth 100000 in
theorem insert_growPow (w:World) (g n i:Nat) (et:TypeId) (cur:Array Value) (xs:List Value) (hbk:Blk w g et cur) (hcs:n*5<=cur.size) (hx:cur.toList.take (n*5)=xs) (hone:∀u∈xs,u.oneCell'=true)
  (g2 o2 c2:Nat) (ys:List Value) (hy:ys.length=5) (hys:∀j u,ys[j]?=some u->w.cell? ⟨g2,o2+j,none⟩=some u) (h1:∀u∈ys,u.oneCell'=true) (hn:n<=100000) (hi:i<n):
  Calls Tryz.prog 225 #[.slice (some ⟨g,0,none⟩) n n,.int .i64 i,.slice (some ⟨g2,o2,none⟩) 1 c2] w (qip 5 w g cur.size (n+1) (xs.take (i*5)++ys++xs.drop (i*5))):=by
 have hlc:cur.toList.length=cur.size:=by simp
 have hik:(i+1)*5<=n*5:=wm _ hi;have hxl:xs.length=n*5:=by rw [<-hx,wu];omega
 have hg:=lt_of_block hbk
 have hg2:g2<w.heap.size:=by
  cases hy0:ys[0]? with
  |none=>rw [List.getElem?_eq_none_iff]at hy0;omega
  |some u=>
    have:=hys 0 u hy0;unfold World.cell? at this;split at this
    .rename_i hh;exact (Array.getElem?_eq_some_iff.1 hh).1
    .cases this
 obtain ⟨i0,hi0,hz0,hz1,hz2⟩:=info_parts qxW;have hadd:∀(b o j:Nat),(⟨b,o,none⟩:Addr).add j=⟨b,o+j,none⟩:=λ b o j=>by unfold Addr.add;split<;>simp_all
 have hcx:∀(W:World),Blk W g et cur->∀(o j:Nat) (v:Value),(xs.drop o)[j]?=some v->W.cell? ((⟨g,o,none⟩:Addr).add j)=some v:=λ W hW o j v hj=>by
  rw [hadd,hW.cell,<-Array.getElem?_toList];rw [List.getElem?_drop,<-hx,List.getElem?_take]at hj;split at hj
  .exact hj
  .cases hj
 have hold:(Builtin.firstCells i0.size i (.slice (some ⟨g,0,none⟩) i n)).run Tryz.prog w.drew=.ok (xs.take (i*5)).toArray w.drew:=by
  rw [hz1];refine run_firstCells_some w.drew 5 i ⟨g,0,none⟩ i n (xs.take (i*5)) (by rw [wu,hxl];omega) λ j v hj=>?_;refine hcx w.drew hbk 0 j v ?_;rw [List.getElem?_take]at hj;split at hj
  .simpa using hj
  .cases hj
 have hk:i+(n+1-i)=n+1:=by omega
 have hG1:n+1<=grownCap w (n+1) n 157:=grownCap_ge w _ _ _;have hG2:grownCap w (n+1) n 157<=maxLen:=grownCap_le_maxLen w _ _ _ (by unfold maxLen;omega)
 obtain ⟨w1,G,new,hr,hb1,hbk1,hnl,hnt,hG3,hG4,hw1s,hw1d⟩:∃(w1:World) (G:Nat) (new:List Value),(∀ty,(Builtin.append_ #[134,3] ty #[.slice (some ⟨g,0,none⟩) i n,.int .i64 ((n:Int)+1-(i:Int))]).run Tryz.prog w=.ok (.slice (some ⟨w.heap.size,0,none⟩) (n+1) G) w1)/\
   Below w.heap.size w w1/\Blk w1 w.heap.size 157 new.toArray/\new.length=G*5/\new.take (i*5)=xs.take (i*5)/\n+1<=G/\G<=maxLen/\w.heap.size<w1.heap.size/\w.drawn<=w1.drawn:=by
  have hr:∀ty,_:=λ ty=>Lib.run_append_grow_zeros w 134 3 ty 157 i0 _ .i64 .i64 Tryz.underlying134 Tryz.underlying3 hi0 hz0 (some ⟨g,0,none⟩) i n (xs.take (i*5)) hold (n+1-i) (by omega) (by rw [hz1];decide) (by omega) (by omega) (by rw [hz2];omega) (by rw [hk,hz2];exact growslice_fits (by omega) (by omega));rw [hk]at hr;obtain ⟨NEW,hNEW⟩:∃N:Array Value,N=(xs.take (i*5)).toArray++Builtin.zeroCells (Value.cells (.agg #[.int .i64 0,.string ⟨#[]⟩,.int .i64 0,.slice none 0 0,.int .i64 0])) (n+1-i)++Builtin.zeroCells (Value.cells (.agg #[.int .i64 0,.string ⟨#[]⟩,.int .i64 0,.slice none 0 0,.int .i64 0])) (grownCap w (n+1) n 157-(n+1)):=⟨_,rfl⟩
  rw [<-hNEW]at hr;refine ⟨w.drew.alloc (.cells NEW 157),grownCap w (n+1) n 157,NEW.toList,λ ty=>?_,?_,?_,?_,?_,hG1,hG2,?_,wU _⟩
  .rw [show (n:Int)+1-(i:Int)=((n+1-i:Nat):Int) by omega];exact hr ty
  .exact ((Below.refl _ _).drew).alloc (wa _) _
  .rw [xQ];exact heap_alloc_new w.drew _
  .rw [wK,hNEW,xp,xp,size_zeroCells,size_zeroCells,show (Value.cells (.agg #[.int .i64 0,.string ⟨#[]⟩,.int .i64 0,.slice none 0 0,.int .i64 0])).size=5 from rfl,wV,wu,hxl];have:i*5+(n+1-i)*5+(grownCap w (n+1) n 157-(n+1))*5=grownCap w (n+1) n 157*5:=by rw [<-wS,<-wS];congr 1;omega
   omega
  .rw [hNEW,xa,xa,wk,kH (by simp [hxl];omega),xy];congr 1;omega
  .simp
 have hgb:∀k,k<w.heap.size->w1.heap[k]?=w.heap[k]?:=hb1.block;have hbkg1:Blk w1 g et cur:=hbk.same (hgb g hg);have hGn:(n+1)*5<=G*5:=wm _ hG3;have hm1:Nat.min 1 (n+1-i)=1:=kh (by omega);obtain ⟨c1,hc1⟩:∃c1,c1=new.take (i*5)++ys++new.drop (i*5+ys.length):=⟨_,rfl⟩
 obtain ⟨k1,k2,k3⟩:=qEo 5 new xs ys i n hnt hxl (by omega) (by omega) hy c1 hc1
 obtain ⟨w3,hcp,hw3⟩:∃w3,(∀ty,(Builtin.copy_ #[134,134] ty #[.slice (some ⟨w.heap.size,i*5,none⟩) (n+1-i) (G-i),.slice (some ⟨g2,o2,none⟩) 1 c2]).run Tryz.prog w1=.ok (goInt (Nat.min 1 (n+1-i))) w3)/\qh6 w1 w3 w.heap.size 157 c1:=
  ⟨_,λ ty=>qmz w1 134 134 ty 157 5 w.heap.size (i*5) (n+1-i) (G-i) ⟨g2,o2,none⟩ 1 c2 new.toArray 157 ys Tryz.underlying134 quc hbk1 (by rw [hm1];omega) (λ j v hj=>by rw [hadd,show w1.cell? _=w.cell? _ from World.cell?_of_block (hgb g2 hg2)];exact hys j v hj) (by rw [wV];omega) h1,by rw [hc1];exact qd7 hbk1 _⟩
 have hbkg3:Blk w3 g et cur:=hbkg1.same (hw3.other g (by omega));have hmm:Nat.min (n-i) (n-i)=n-i:=kh (wa _);have HD1:Hid ((xs.drop (i*5)).length=Nat.min (n-i) (n-i)*5):=by show _=_;rw [wR,hxl,hmm,vU]
 have HS1:Hid (∀(j:Nat) (v:Value),(xs.drop (i*5))[j]?=some v->w3.drew.cell? ((⟨g,i*5,none⟩:Addr).add j)=some v):=hcx w3.drew hbkg3 (i*5);have HF1:Hid ((i+1)*5+(xs.drop (i*5)).length<=c1.toArray.size):=by show _<=_;rw [wR,hxl,wV,k1,hnl];omega
 have HO1:Hid (∀v∈xs.drop (i*5),v.oneCell'=true):=λ v hv=>hone v (wO hv);have hBK1:Hid (Blk w3.drew w.heap.size 157 c1.toArray):=hw3.blk;have HW3:=Lib.hid hw3;have HB1:=Lib.hid hb1;have K2:Hid ((c1.take ((i+1)*5)++xs.drop (i*5)++c1.drop ((i+1)*5+(xs.drop (i*5)).length)).length=G*5):=by show _=_;rw [kL];exact k2.trans hnl
 have K3:Hid ((c1.take ((i+1)*5)++xs.drop (i*5)++c1.drop ((i+1)*5+(xs.drop (i*5)).length)).take ((n+1)*5)=xs.take (i*5)++ys++xs.drop (i*5)):=by show _=_;rw [kL,kL];exact k3
 have HG4:=Lib.hid hG4;have HR:=Lib.hid hr;have HCP:=Lib.hid hcp;have hin:((i:Int)==(n:Int))=false:=by simp;omega
 have hb0:¬ (n=i):=by omega
 have hb2:¬ (G=i):=by omega
 have hb3:¬ (G=i+1):=by omega
 have hg63:(G:Int)<=9223372036854775807:=by unfold maxLen at hG4;omega
 clear hlc hxl hi0 hz0 hz1 hz2 hadd hcx hold hk hG1 hG2 hr hb1 hbk1 hnl hnt hG4 hgb hbkg1 hm1 hc1 k1 k2 k3 hcp hw3 hbkg3 hmm hbk hcs hx hone hy hys h1 hik hGn
 go_enter Tryz.func225,Tryz.ntmps225
 go_upto_region 10 with (at_builtin;refine Lib.wpList_append_run _ rfl _ _ _ _ rfl _ _ rfl rfl _ _ (HR.out _) ?_)
 have hcp:=HCP.out
 go_upto_region 11 with (simp only [hcp])
 clear hcp;have hw1:IntKind.i64.wrap ((i:Int)+1)=(i:Int)+1:=IntWalk.i64_in _ (by omega);have hw2:(0:Int)<=(i:Int)+1:=by omega
 have hw3:((i:Int)+1).toNat=i+1:=by omega
 have hw4:(i:Int)+1<=(n:Int)+1:=by omega
 have hw5:(i:Int)<=(n:Int):=by omega
 go_region_law (refine qrb rfl (.tmp 50) (.tmp 53) 134 134 rfl 157 5 Tryz.underlying134 quc w.heap.size ((i+1)*5) (n-i) (G-(i+1)) ⟨g,i*5,none⟩ (n-i) (n-i) (by simp [Act.eval,Act.put]) (by simp [Act.eval,Act.put]) c1.toArray 157 hBK1.out (xs.drop (i*5)) HD1.out HS1.out HF1.out HO1.out ?_;intro w6 hw6;have HW6:=Lib.hid hw6;clear hw6)
 all_goals
  clear hw1 hw2 hw3 hw4
  go_wp2_with fail
  go_ret
  have h6:=HW6.out;have h5:=HW3.out;have h0:=HB1.out;have hblk:=h6.blk;have k3:=K3.out;have k2:=K2.out;refine ⟨w.heap.size,G,_,_,rfl,hblk,hG3,?_,k3.trans (wk _ _ _),.inr (wa _),h6.os.trans (h5.os.trans h0.os),h6.tape.trans (h5.tape.trans h0.tape),h6.output.trans (h5.output.trans h0.output),?_,?_,λ k hkl _=>?_⟩
  .rw [wV];exact vf k2.symm
  .rw [h6.size];show w.heap.size<=w3.heap.size;rw [h5.size];exact h0.size
  .rw [h6.drawn];show w.drawn<=w3.drawn+1;rw [h5.drawn];exact Nat.le_succ_of_le hw1d
  .exact (h6.other k (by omega)).trans ((h5.other k (by omega)).trans (h0.block k hkl))
theorem qDX(w:World):(zeroValue 157).run Tryz.prog w=.ok (.agg #[.int .i64 0,.string ⟨#[]⟩,.int .i64 0,.slice none 0 0,.int .i64 0]) w:=by kernel_rfl
theorem qwd:(Builtin.zeroCells (Value.cells (.agg #[.int .i64 0,.string ⟨#[]⟩,.int .i64 0,.slice none 0 0,.int .i64 0])) 1).toList=(Value.cells (.agg #[.int .i64 0,.string ⟨#[]⟩,.int .i64 0,.slice none 0 0,.int .i64 0])).toList:=by kernel_rfl
theorem qwG:∀v∈(Builtin.zeroCells (Value.cells (.agg #[.int .i64 0,.string ⟨#[]⟩,.int .i64 0,.slice none 0 0,.int .i64 0])) 1).toList,v.oneCell'=true:=by
 rw[qwd];decide
set_option maxHeartbeats 4000000 in
set_option maxRecDepth 100000 in
theorem delete_onePow (w:World) (g m c i:Nat) (et:TypeId) (cur:Array Value) (xs:List Value) (hbk:Blk w g et cur) (hcs:c*5<=cur.size) (hx:cur.toList.take ((m+1)*5)=xs) (hone:∀u∈xs,u.oneCell'=true)
  (hn:m<=100000) (hi:i<=m) (hroom:m+1<=c):
  Calls Tryz.prog 226 #[.slice (some ⟨g,0,none⟩) (m+1) c,.int .i64 i,.int .i64 ((i:Int)+1)] w (qip 5 w g cur.size m (xs.take (i*5)++xs.drop ((i+1)*5))):=by
 have hlc:cur.toList.length=cur.size:=by simp
 have hmc:(m+1)*5<=c*5:=wm _ hroom;have him:i*5<=m*5:=wm _ hi;have hxl:xs.length=(m+1)*5:=by rw [<-hx,wu,hlc];omega
 have hadd:∀(b o j:Nat),(⟨b,o,none⟩:Addr).add j=⟨b,o+j,none⟩:=λ b o j=>by unfold Addr.add;split<;>simp_all
 have hcell:∀(o j:Nat) (v:Value),(xs.drop o)[j]?=some v->w.drew.cell? ⟨g,o+j,none⟩=some v:=λ o j v hj=>by
  show w.cell? _=_;rw [hbk.cell,<-Array.getElem?_toList];rw [List.getElem?_drop,<-hx,List.getElem?_take]at hj;split at hj
  .exact hj
  .cases hj
 obtain ⟨i0,hi0,hz0,hz1,hz2⟩:=info_parts qxW;have hdl:(xs.drop ((i+1)*5)).length=(m-i)*5:=by rw [wR,hxl,<-vU];congr 1;omega
 have hdl':(m-i)*5=m*5-i*5:=vU ..
 obtain ⟨A,hA,HN⟩:∃A:Addr,(if c=i+1 then some (⟨g,0,none⟩:Addr)else some ⟨g,(i+1)*5,none⟩)=some A/\Hid (∀j u,(xs.drop ((i+1)*5))[j]?=some u->w.drew.cell? (A.add j)=some u):=by
  by_cases h:c=i+1
  .refine ⟨_,if_pos h,λ j u hj=>?_⟩;have:=(List.getElem?_eq_some_iff.1 hj).1;rw [hdl]at this;have:m-i=0:=by omega
   simp [this]at*
  .exact ⟨_,if_neg h,λ j u hj=>by rw [hadd];exact hcell _ j u hj⟩
 have HDL:=Lib.hid hdl;have HO1:Hid (∀u∈xs.drop ((i+1)*5),u.oneCell'=true):=λ v hv=>hone v (wO hv)
 have HSP:Hid (∀j,j<(xs.drop ((i+1)*5)).length->(w.drew.cell? ⟨g,0+i*5+j,none⟩).isSome=true/\w.drew.frozen? ⟨g,0+i*5+j,none⟩=false):=λ j hj=>by
  rw [hdl]at hj;refine ⟨?_,hbk.free _⟩;show (w.cell? _).isSome=true;rw [hbk.cell,Array.getElem?_eq_getElem (by omega)];rfl
 have hBKd:Blk w.drew g et cur:=hbk;have hw0:=qjp g et (xs.drop ((i+1)*5)) (0+i*5) w.drew cur hBKd (by rw [hdl];omega);obtain ⟨w2,hw2⟩:∃w2,w2=w.drew.setCells g (0+i*5) (xs.drop ((i+1)*5)):=⟨_,rfl⟩
 rw [<-hw2]at hw0;obtain ⟨c1,hc1⟩:∃c1,c1=cur.toList.take (0+i*5)++xs.drop ((i+1)*5)++cur.toList.drop (0+i*5+(xs.drop ((i+1)*5)).length):=⟨_,rfl⟩
 rw [<-hc1]at hw0;have hl1:c1.length=cur.size:=by rw [hc1];simp only [wd,wu,wR,hlc,hdl];simp only [wR]at hdl;omega
 have ht1:c1.take (m*5)=xs.take (i*5)++xs.drop ((i+1)*5):=by
  have e1:cur.toList.take (0+i*5)=xs.take (i*5):=by rw [<-hx,xy];congr 1;omega
  rw [hc1,e1,kH (by simp only [wd,wu,hdl,hxl];omega),kR (by simp only [wd,wu,hdl,hxl];omega)]
 have hzl:(Builtin.zeroCells (Value.cells (.agg #[.int .i64 0,.string ⟨#[]⟩,.int .i64 0,.slice none 0 0,.int .i64 0])) 1).toList.length=5:=by rw [wK,size_zeroCells];rfl
 obtain ⟨w3,hcl,hw3⟩:∃w3,(∀ty,(Builtin.clear_ #[134] ty #[.slice (some ⟨g,m*5,none⟩) 1 (c-m)]).run Tryz.prog w2=.ok (.tuple #[]) w3)/\qh6 w2 w3 g et (c1.toArray.toList.take (m*5)++(Builtin.zeroCells (Value.cells (.agg #[.int .i64 0,.string ⟨#[]⟩,.int .i64 0,.slice none 0 0,.int .i64 0])) 1).toList++c1.toArray.toList.drop (m*5+(Builtin.zeroCells (Value.cells (.agg #[.int .i64 0,.string ⟨#[]⟩,.int .i64 0,.slice none 0 0,.int .i64 0])) 1).toList.length)):=
  ⟨_,λ ty=>qqo w2 134 157 ty _ Tryz.underlying134 qDX g (m*5) 1 (c-m) (by omega) c1.toArray et hw0.blk (by
   show m*5+1*5<=c1.toArray.size;rw [wV,hl1];omega) qwG,qd7 hw0.blk _⟩
 have HW0:=Lib.hid hw0;have HW2:=Lib.hid hw2;have HW3:=Lib.hid hw3;have HCL:=Lib.hid hcl;have HT1:=Lib.hid ht1;have HL1:=Lib.hid hl1;have HZL:=Lib.hid hzl;have HI:=Lib.hid hi0;have HZ1:=Lib.hid hz1;have HCS:=Lib.hid hcs;have HMC:=Lib.hid hmc;have hlt:=lt_of_block hbk;have hc1:¬ (m+1=i):=by omega
 have hc2:¬ (c=m):=by omega
 have hf1:((i:Int)==(i:Int)+1)=false:=by simp;omega
 have hrm:i+(m-i)<=c:=by omega
 have hmi:i+(m-i)=m:=by omega
 have HRM:=Lib.hid hrm;have HMI:=Lib.hid hmi;clear hlc hxl hadd hcell hi0 hz0 hz1 hz2 hdl hBKd hw0 hw2 hl1 ht1 hzl hcl hw3 hcs hx hone hbk hrm hmi hmc him hdl';have hw1:((i:Int)+1).toNat=i+1:=by omega
 have hw4:(i:Int)+1<=(m:Int)+1:=by omega
 have hw5:(i:Int)<=(m:Int)+1:=by omega
 have hw6:(0:Int)<=(i:Int)+1:=by omega
 have hic:i<=c:=by omega
 go_enter Tryz.func226,Tryz.ntmps226
 go_upto_region 5 with (fail)
 go_region_law (refine step_append_room rfl (.tmp 22) (.tmp 25) 134 rfl 157 i0 5 Tryz.underlying134 HI.out HZ1.out g 0 i c (by simp [Act.eval,Act.put]) A (m-i) (c-(i+1)) (xs.drop ((i+1)*5)) (by simp [Act.eval,Act.put]) HDL.out HN.out HO1.out HRM.out HSP.out ?_;rw [<-HW2.out,HMI.out])
 all_goals
  clear hw1 hw4 hw5 hw6 hA;have hcl:=HCL.out
  go_wp2_with (simp only [hcl])
  go_ret
  have h3:=HW3.out;have h0:=HW0.out;have hblk:=h3.blk;have hl1:=HL1.out;have hzl:=HZL.out;have hmc:=HMC.out;have hcs:=HCS.out
  have hsz:(c1.toArray.toList.take (m*5)++(Builtin.zeroCells (Value.cells (.agg #[.int .i64 0,.string ⟨#[]⟩,.int .i64 0,.slice none 0 0,.int .i64 0])) 1).toList++c1.toArray.toList.drop (m*5+(Builtin.zeroCells (Value.cells (.agg #[.int .i64 0,.string ⟨#[]⟩,.int .i64 0,.slice none 0 0,.int .i64 0])) 1).toList.length)).length=cur.size:=by
   show (c1.take (m*5)++_++c1.drop (m*5+_)).length=_;simp only [wd,wu,wR,hl1,hzl];omega
  refine ⟨g,c,_,et,rfl,hblk,by omega,?_,?_,.inl ⟨rfl,?_⟩,h3.os.trans h0.os,h3.tape.trans h0.tape,h3.output.trans h0.output,?_,?_,λ k _ hk=>(h3.other k hk).trans (h0.other k hk)⟩
  .rw [wV,hsz];exact hcs
  .show (c1.take (m*5)++_++c1.drop (m*5+_)).take (m*5)=_;rw [wk,kH (by rw [wu,hl1];omega),xy,Nat.min_self];exact HT1.out
  .rw [wV,hsz]
  .rw [h3.size,h0.size];exact wa _
  .rw [h3.drawn,h0.drawn];exact wU _
end Go.Proofs.YtinbdcelmgfniaaGreatDoor
namespace Go.Proofs.YtinbdcelmgfniaaGreatDoor
open Go.RowKit Go.GxZ Go.BigFrame
theorem qxE:(Tryz.prog.info? 25).map (λ i=>(i.zero,i.size,i.bytes))=some (some (.agg #[.int .i64 0,.string ⟨#[]⟩,.int .i64 0,.slice none 0 0]),4,56):=by kernel_rfl
set_option maxHeartbeats 4000000 in
set_option maxRecDepth 100000 in
theorem clone_anyTrm(w:World)(p:Option Addr)(n c:Nat)(xs:List Value)(f:xs.length=n*4)(x:n=0\/∃ad,p=some ad/\∀j u,xs[j]?=some u->w.cell? (ad.add j)=some u)(z:∀u∈xs,u.oneCell'=true)(S:n<=100000000):
  Calls Tryz.prog 23 #[.slice p n c] w λ e w'=>∃v,e=.returned v/\AmZ.Fresh w 4 n xs v w':=by
 cases p with
 |none=>
   have i:n=0:=by
    obtain h|⟨ad,h,_⟩:=x
    .exact h
    .cases h
   subst i;clear x z f;have G:∀w,(binOp .eql 23 (.slice none 0 c) (.slice none 0 0)).run Tryz.prog w=.ok (.bool true) w:=λ w=>by rw[Lib.run_eql_slice_nil w 23 25 none 0 c 0 0 Tryz.underlying23];rfl
   go_enter Tryz.func23,Tryz.ntmps23
   go_wp2_with fail
   go_ret
   exact⟨_,rfl,Below.refl _ _,wa _,.inl ⟨rfl,_,rfl⟩⟩
 |some ad=>
   let⟨R,k,o,m,l⟩:=info_parts qxE;have s:Below w.heap.size w (w.alloc (.cells #[] 25)):=(Below.refl _ _).alloc (wa _) _;by_cases i:n=0
   .subst i;have F:∀ty,(Builtin.append_ #[23,23] ty #[.slice (some ⟨w.heap.size,0,none⟩) 0 0,.slice (some ad) 0 c]).run Tryz.prog (w.alloc (.cells #[] 25))=.ok (.slice (some ⟨w.heap.size,0,none⟩) 0 0) (w.alloc (.cells #[] 25)):=λ ty=>run_append_nothing _ 23 23 ty 25 _ Tryz.underlying23 k (some ⟨w.heap.size,0,none⟩) 0 0 (wa _) _ (Src.ofSlice _ Tryz.underlying23 ad 0 c [] (by simp) (λ _ _ h=>by simp at h) (λ _ h=>by simp at h));have E:=Lib.hid F;have Q:=Lib.hid s;clear F x z f s k o m l;have G:∀w,(binOp .eql 23 (.slice (some ad) 0 c) (.slice none 0 0)).run Tryz.prog w=.ok (.bool false) w:=λ w=>by rw[Lib.run_eql_slice_nil w 23 25 (some ad) 0 c 0 0 Tryz.underlying23];rfl
    go_enter Tryz.func23,Tryz.ntmps23
    go_wp2_with (at_builtin;refine Lib.wpList_append_run _ rfl _ _ _ _ rfl _ _ rfl rfl _ _ (E.out _) ?_)
    go_ret
    exact⟨_,rfl,Q.out,wa _,.inl ⟨rfl,_,rfl⟩⟩
   .have b:∀j u,xs[j]?=some u->(w.alloc (.cells #[] 25)).cell? (ad.add j)=some u:=λ j u r=>by
      obtain h|⟨N,h,K⟩:=x
      .exact absurd h i
      .cases h;have y:=K j u r
       have B:(ad.add j).block<w.heap.size:=by
        unfold World.cell? at y;split at y
        .rename_i L;exact(Array.getElem?_eq_some_iff.1 L).1
        .cases y
       rw[show(w.alloc (.cells #[] 25)).cell? _=w.cell? _ from World.cell?_of_block (s.block _ B)];exact y
    have t:∀ty,∃g a d w',(Builtin.append_ #[23,23] ty #[.slice (some ⟨w.heap.size,0,none⟩) 0 0,.slice (some ad) n c]).run Tryz.prog (w.alloc (.cells #[] 25))=.ok (.slice (some ⟨g,0,none⟩) (0+n) a) w'/\Below (w.alloc (.cells #[] 25)).heap.size (w.alloc (.cells #[] 25)) w'/\(w.alloc (.cells #[] 25)).heap.size<=g/\w'.heap[g]?=some (.cells d 25 (0,0))/\0+n<=a/\d.size=a*4/\d.toList.take ((0+n)*4)=[]++xs/\(w.alloc (.cells #[] 25)).drawn<=w'.drawn:=
     λ ty=>AmZ.grow_any (P:=Tryz.prog) (w:=w.alloc (.cells #[] 25)) (ty:=ty) Tryz.underlying23 k o m l rfl (some ⟨w.heap.size,0,none⟩) 0 0 (λ h=>by cases h) [] (by simp) (λ _ _ j u h=>by simp at h) _ n xs (Src.ofSlice _ Tryz.underlying23 ad n c xs f b z) (by omega) (by unfold maxLen;omega) (by omega)
    let⟨g,a,d,w',D,J,g3,I,C,H,A,M⟩:=t 23;rw[wy]at D C A;rw[kD]at A;have E:=Lib.hid D;have q:w.heap.size<=(w.alloc (.cells #[] 25)).heap.size:=s.size
    have O:Hid (AmZ.Fresh w 4 n xs (.slice (some ⟨g,0,none⟩) n a) w'):=by
     refine⟨s.trans (J.mono q),M,.inr ⟨g,a,d,_,rfl,wC q g3,I,C,vf H.symm,λ j u r=>?_⟩⟩;rw[<-A,List.getElem?_take]at r;split at r
     .rw[<-Array.getElem?_toList];exact r
     .cases r
    clear s b t D J g3 I C H A q x z f k o m l;have G:∀w,(binOp .eql 23 (.slice (some ad) n c) (.slice none 0 0)).run Tryz.prog w=.ok (.bool false) w:=λ w=>by rw[Lib.run_eql_slice_nil w 23 25 (some ad) n c 0 0 Tryz.underlying23];rfl
    go_enter Tryz.func23,Tryz.ntmps23
    go_wp2_with (at_builtin;refine Lib.wpList_append_run _ rfl _ _ _ _ rfl _ _ rfl rfl _ _ E.out ?_)
    go_ret
    exact⟨_,rfl,O.out⟩
set_option maxHeartbeats 4000000 in
set_option maxRecDepth 100000 in
theorem grow_nilTrm(w:World)(n:Nat)(z:n<=100000000):
  Calls Tryz.prog 193 #[.slice none 0 0,.int .i64 n] w λ e w'=>∃v,e=.returned v/\AmZ.Fresh w 4 0 [] v w':=by
 by_cases r:n=0
 .subst r;have l:IntKind.i64.wrap ((0:Int)-0)=(0:Int):=IntWalk.i64_in _ (by omega)
  go_enter Tryz.func193,Tryz.ntmps193
  go_wp2_with fail
  go_ret
  exact⟨_,rfl,Below.refl _ _,wa _,.inl ⟨rfl,_,rfl⟩⟩
 let⟨o,h,f,d,c⟩:=info_parts qxE;have b:(Builtin.firstCells o.size 0 (.slice none 0 0)).run Tryz.prog w.drew=.ok (([]:List Value)).toArray w.drew:=run_firstCells_none ..;have k:∀ty,_:=λ ty=>Lib.run_append_grow_zeros w 23 3 ty 25 o _ .i64 .i64 Tryz.underlying23 Tryz.underlying3 h f none 0 0 [] b n (by omega) (by rw[d];decide) (by omega) (by omega) (by rw[c];omega) (by rw[wy,c];exact growslice_fits (by omega) (by omega));rw[wy]at k;obtain⟨i,a⟩:∃N:Array Value,N=([]:List Value).toArray++Builtin.zeroCells (Value.cells (.agg #[.int .i64 0,.string ⟨#[]⟩,.int .i64 0,.slice none 0 0])) n++Builtin.zeroCells (Value.cells (.agg #[.int .i64 0,.string ⟨#[]⟩,.int .i64 0,.slice none 0 0])) (grownCap w n 0 25-n):=⟨_,rfl⟩
 rw[<-a]at k;have m:n<=grownCap w n 0 25:=grownCap_ge w _ _ _
 have g:grownCap w n 0 25*4<=i.size:=by
  rw[a,xp,xp,size_zeroCells,size_zeroCells,show(Value.cells (.agg #[.int .i64 0,.string ⟨#[]⟩,.int .i64 0,.slice none 0 0])).size=4 from rfl,wV,kC];have:n*4+(grownCap w n 0 25-n)*4=grownCap w n 0 25*4:=by rw[<-wS];congr 1;omega
  omega
 have y:=Lib.hid k;have x:=Lib.hid g;have l:IntKind.i64.wrap ((0:Int)-0)=(0:Int):=IntWalk.i64_in _ (by omega);have q:IntKind.i64.wrap ((n:Int)-0)=(n:Int):=by rw[IntWalk.i64_in _ (by omega)];omega
 have p:(0:Int)<(n:Int):=by omega
 generalize t:grownCap w n 0 25=G at *;clear b k a g h f d c t m
 go_enter Tryz.func193,Tryz.ntmps193
 go_wp2_with (at_builtin;refine Lib.wpList_append_run _ rfl _ _ _ _ rfl _ _ rfl rfl _ _ (y.out _) ?_)
 all_goals
  go_ret
  exact⟨_,rfl,((Below.refl _ _).alloc (wa _) _).drew,wU _,.inr ⟨w.heap.size,G,i,_,rfl,wa _,heap_alloc_new w _,wh _,x.out,λ j u s=>by simp at s⟩⟩
end Go.Proofs.YtinbdcelmgfniaaGreatDoor
namespace Go.Proofs.YtinbdcelmgfniaaGreatDoor
open Go.RowKit Go.GxZ Go.BigFrame
theorem qF0:(Tryz.prog.info? 106).map (λ i=>(i.zero,i.size,i.bytes))=some (some (.agg #[.int .i64 0,.string ⟨#[]⟩,.int .i64 0,.slice none 0 0,.int .i64 0,.string ⟨#[]⟩,.int .i64 0,.slice none 0 0]),8,112):=by kernel_rfl
set_option maxHeartbeats 4000000 in
set_option maxRecDepth 100000 in
theorem clone_anyUp(w:World)(p:Option Addr)(n c:Nat)(xs:List Value)(f:xs.length=n*8)(x:n=0\/∃ad,p=some ad/\∀j u,xs[j]?=some u->w.cell? (ad.add j)=some u)(z:∀u∈xs,u.oneCell'=true)(S:n<=100000000):
  Calls Tryz.prog 188 #[.slice p n c] w λ e w'=>∃v,e=.returned v/\AmZ.Fresh w 8 n xs v w':=by
 cases p with
 |none=>
   have i:n=0:=by
    obtain h|⟨ad,h,_⟩:=x
    .exact h
    .cases h
   subst i;clear x z f;have G:∀w,(binOp .eql 107 (.slice none 0 c) (.slice none 0 0)).run Tryz.prog w=.ok (.bool true) w:=λ w=>by rw[Lib.run_eql_slice_nil w 107 106 none 0 c 0 0 Tryz.underlying107];rfl
   go_enter Tryz.func188,Tryz.ntmps188
   go_wp2_with fail
   go_ret
   exact⟨_,rfl,Below.refl _ _,wa _,.inl ⟨rfl,_,rfl⟩⟩
 |some ad=>
   let⟨R,k,o,m,l⟩:=info_parts qF0;have s:Below w.heap.size w (w.alloc (.cells #[] 106)):=(Below.refl _ _).alloc (wa _) _;by_cases i:n=0
   .subst i;have F:∀ty,(Builtin.append_ #[107,107] ty #[.slice (some ⟨w.heap.size,0,none⟩) 0 0,.slice (some ad) 0 c]).run Tryz.prog (w.alloc (.cells #[] 106))=.ok (.slice (some ⟨w.heap.size,0,none⟩) 0 0) (w.alloc (.cells #[] 106)):=λ ty=>run_append_nothing _ 107 107 ty 106 _ Tryz.underlying107 k (some ⟨w.heap.size,0,none⟩) 0 0 (wa _) _ (Src.ofSlice _ Tryz.underlying107 ad 0 c [] (by simp) (λ _ _ h=>by simp at h) (λ _ h=>by simp at h));have E:=Lib.hid F;have Q:=Lib.hid s;clear F x z f s k o m l;have G:∀w,(binOp .eql 107 (.slice (some ad) 0 c) (.slice none 0 0)).run Tryz.prog w=.ok (.bool false) w:=λ w=>by rw[Lib.run_eql_slice_nil w 107 106 (some ad) 0 c 0 0 Tryz.underlying107];rfl
    go_enter Tryz.func188,Tryz.ntmps188
    go_wp2_with (at_builtin;refine Lib.wpList_append_run _ rfl _ _ _ _ rfl _ _ rfl rfl _ _ (E.out _) ?_)
    go_ret
    exact⟨_,rfl,Q.out,wa _,.inl ⟨rfl,_,rfl⟩⟩
   .have b:∀j u,xs[j]?=some u->(w.alloc (.cells #[] 106)).cell? (ad.add j)=some u:=λ j u r=>by
      obtain h|⟨N,h,K⟩:=x
      .exact absurd h i
      .cases h;have y:=K j u r
       have B:(ad.add j).block<w.heap.size:=by
        unfold World.cell? at y;split at y
        .rename_i L;exact(Array.getElem?_eq_some_iff.1 L).1
        .cases y
       rw[show(w.alloc (.cells #[] 106)).cell? _=w.cell? _ from World.cell?_of_block (s.block _ B)];exact y
    have t:∀ty,∃g a d w',(Builtin.append_ #[107,107] ty #[.slice (some ⟨w.heap.size,0,none⟩) 0 0,.slice (some ad) n c]).run Tryz.prog (w.alloc (.cells #[] 106))=.ok (.slice (some ⟨g,0,none⟩) (0+n) a) w'/\Below (w.alloc (.cells #[] 106)).heap.size (w.alloc (.cells #[] 106)) w'/\(w.alloc (.cells #[] 106)).heap.size<=g/\w'.heap[g]?=some (.cells d 106 (0,0))/\0+n<=a/\d.size=a*8/\d.toList.take ((0+n)*8)=[]++xs/\(w.alloc (.cells #[] 106)).drawn<=w'.drawn:=
     λ ty=>AmZ.grow_any (P:=Tryz.prog) (w:=w.alloc (.cells #[] 106)) (ty:=ty) Tryz.underlying107 k o m l rfl (some ⟨w.heap.size,0,none⟩) 0 0 (λ h=>by cases h) [] (by simp) (λ _ _ j u h=>by simp at h) _ n xs (Src.ofSlice _ Tryz.underlying107 ad n c xs f b z) (by omega) (by unfold maxLen;omega) (by omega)
    let⟨g,a,d,w',D,J,g3,I,C,H,A,M⟩:=t 107;rw[wy]at D C A;rw[kD]at A;have E:=Lib.hid D;have q:w.heap.size<=(w.alloc (.cells #[] 106)).heap.size:=s.size
    have O:Hid (AmZ.Fresh w 8 n xs (.slice (some ⟨g,0,none⟩) n a) w'):=by
     refine⟨s.trans (J.mono q),M,.inr ⟨g,a,d,_,rfl,wC q g3,I,C,vf H.symm,λ j u r=>?_⟩⟩;rw[<-A,List.getElem?_take]at r;split at r
     .rw[<-Array.getElem?_toList];exact r
     .cases r
    clear s b t D J g3 I C H A q x z f k o m l;have G:∀w,(binOp .eql 107 (.slice (some ad) n c) (.slice none 0 0)).run Tryz.prog w=.ok (.bool false) w:=λ w=>by rw[Lib.run_eql_slice_nil w 107 106 (some ad) n c 0 0 Tryz.underlying107];rfl
    go_enter Tryz.func188,Tryz.ntmps188
    go_wp2_with (at_builtin;refine Lib.wpList_append_run _ rfl _ _ _ _ rfl _ _ rfl rfl _ _ E.out ?_)
    go_ret
    exact⟨_,rfl,O.out⟩
end Go.Proofs.YtinbdcelmgfniaaGreatDoor
namespace Go.AmZ
open Go Go.RowKit Go.GxZ
theorem ql0{P:Program}{c:TC}{f:FuncId}(o:qc6 P f)(h:∀i g,c.pf f i=some g->∀a v,g.fn a=some v->∀Γ w b,Inv Γ emp w->RepL Γ (je g.args a i) b->jW P Γ emp w f b (qX (Q0 g.res v),none)):qw P f (jL (ym c f)):=by
 refine⟨o,λ Γ σ w j b r m l e=>?_⟩;unfold jL at e;split at e<;>try cases e
 split at e<;>cases e;rename_i z d;unfold ym at d;split at d<;>try cases d
 rename_i g n;split at d<;>try cases d
 rename_i a p;split at d<;>cases d;rename_i v k;exact h _ g n a v k Γ w b m ((qic g.args p).rep l)
theorem qq6{P:Program}{f:FuncId}{Γ:Gh}{w:World}{a:List Value}{x:Value}(g:Inv Γ emp w)(d:qS x=true)(h:Calls P f a.toArray w λ e w'=>e=.returned x/\Below w.heap.size w w'/\w.drawn<=w'.drawn):jW P Γ emp w f a (.v x,none):=by
 refine Calls.mono h ?_;rintro e w' ⟨rfl,c,b⟩;exact⟨x,Γ,rfl,qds c b,g.later c,.v x d,.refl _⟩
def strings_Compare(m:Nat)(a b:List UInt8):Option Int:=some (Lib.compareBytes a b)
theorem qj7{m:Nat}{c:TC}(l:∀h,c.pf 116 h=qo9 h [] (some ⟨[.val .str,.val .str],[.int .i64],λ x=>strings_Compare m x.1 x.2.1⟩) none):qw Go.Proofs.Tryz.prog 116 (jL (ym c 116)):=by
 refine ql0 (ji Go.Proofs.Tryz.func116 (by kernel_rfl)) λ h g b a v j Γ w i k e=>?_;rw[l]at b;obtain⟨rfl,b⟩|b:=qmd b
 .cases b;cases j;obtain⟨u1,o,rfl,f,e⟩:=e.uncons;obtain⟨u2,n,rfl,d,e⟩:=e.uncons;have:=e.nil_inv;subst this;have f:=qK f;have d:=qK d;subst f;subst d;refine qq6 k rfl ?_;exact(Go.Proofs.Tryz.strings_Compare _ _ w).mono λ _ _ ⟨f,d⟩=>⟨f,by rw[d];exact Below.refl _ _,by rw[d];exact wa _⟩
 .cases b
abbrev qyB:Ty:=.pair .str (.pair (.int .i64) (.pair (.int .i64) (.int .i64)))
def qDy:List (Val qyB):=[([112,97,105,114],2,2,1),([101,110,99],2,2,1),([97,101,110,99],2,2,1),([112,107],1,1,1),([115,105,103,110],2,2,1),([104,97,115,104],1,1,1),([120,111,114],2,8,1),([122,101,114,111],0,0,1),([101,120,112],2,2,1),([109,117,108],2,8,1),([105,110,118],1,1,1),([111,110,101],0,0,1),([115,107],1,1,2),([115,104,107],2,2,2),([110,101,119],1,8,2),([102,115,116],1,1,3),([115,110,100],1,1,3),([100,101,99],2,2,3),([97,100,101,99],2,2,3),([111,112,101,110],2,2,3),([114,101,97,100],1,1,3)]
def qeQ(m:Nat):Option (List (List UInt8×Int×Int×Int)):=some qDy
def qBW:Cfg:=⟨tyT,λ f=>cond (Nat.beq f 104) (some Go.Proofs.Tryz.f104) (cond (Nat.beq f 132) (some Go.Proofs.Tryz.f132) none),λ _=>none,λ _=>false,λ _=>[],λ _=>true,λ _=>none⟩
theorem qwR(cd:Code):yN cd=true:=by
 induction cd<;>simp_all [yN]
theorem qxa:zp Go.Proofs.Tryz.prog qBW:=by
 refine⟨by kernel_rfl,qBb,λ f fn h=>?_,(λ f p h=>by cases h),λ f fn h=>by cases h⟩;have h:cond (Nat.beq f 104) (some Go.Proofs.Tryz.f104) (cond (Nat.beq f 132) (some Go.Proofs.Tryz.f132) none)=some fn:=h;have c:∀cd:Code,yN cd=true:=qwR;cases b:Nat.beq f 104 with
 |true=>
   rw[b]at h;cases h;rw[wg b];exact⟨Go.Proofs.Tryz.func104,by kernel_rfl,λ _ _=>c _⟩
 |false=>
   rw[b]at h;cases a:Nat.beq f 132 with
   |true=>
     rw[a]at h;cases h;rw[wg a];exact⟨Go.Proofs.Tryz.func132,by kernel_rfl,λ _ _=>c _⟩
   |false=>rw[a]at h;cases h
theorem qB7:JP qBW (jN qBW 300) emp 104 []=some (qX (Q0 [.list qyB] qDy),none):=by kernel_rfl
theorem qkY{m:Nat}{c:TC}(j:∀d,c.pf 104 d=qo9 d [] (some ⟨[],[.list qyB],λ x=>qeQ m⟩) none):qw Go.Proofs.Tryz.prog 104 (jL (ym c 104)):=by
 refine ql0 (ji Go.Proofs.Tryz.func104 (by kernel_rfl)) λ d g b a v f Γ w e i h=>?_;rw[j]at b;obtain⟨rfl,b⟩|b:=qmd b
 .cases b;cases f;exact qwx qxa (qrp qxa 300) i h qB7
 .cases b
def qP(m:Nat)(l:List T):Option (Unit×List T×Unit):=cond (Nat.ble l.length 100000000) (some ((),l,())) none
def yG(m:Nat)(n:Int):Option (Unit×List T×Unit):=cond (inb n 100000000) (some ((),[],())) none
def yh(m:Nat)(l:List (T×Int))(i:Int)(v:List (T×Int)):Option (Unit×List (T×Int)×Unit):=cond (inb i l.length&&(Nat.ble l.length 100000&&Nat.beq v.length 1)) (some ((),l.take i.toNat++(v++l.drop i.toNat),())) none
def yl(m:Nat)(l:List (T×Int))(i j:Int):Option (Unit×List (T×Int)×Unit):=cond (inb j l.length&&(inb i l.length&&(ieq j (qj i 1)&&Nat.ble l.length 100000))) (some ((),l.take i.toNat++l.drop (i.toNat+1),())) none
theorem qd4{α:Type}{b:Bool}{x:α}{r:α}(h:cond b (some x) none=some r):b=true/\x=r:=by
 cases b with
 |true=>exact⟨rfl,kz h⟩
 |false=>cases h
theorem qbT{m:Nat}:qw Go.Proofs.Tryz.prog 23 (sgP ⟨[.val (.list .term)],[.one (.row .term)],λ x=>qP m x.1⟩):=by
 refine qq8 (a:=.term) (ji Go.Proofs.Tryz.func23 (by kernel_rfl)) (most:=100000000) Go.Proofs.YtinbdcelmgfniaaGreatDoor.clone_anyTrm (fn:=qP m) λ l r h=>?_;let⟨c,b⟩:=qd4 h;exact⟨wY c,b.symm⟩
def zX(m:Nat)(l:List (T×T)):Option (Unit×List (T×T)×Unit):=cond (Nat.ble l.length 100000000) (some ((),l,())) none
theorem qaT{m:Nat}:qw Go.Proofs.Tryz.prog 188 (sgP ⟨[.val (.list (.pair .term .term))],[.one (.row (.pair .term .term))],λ x=>zX m x.1⟩):=by
 refine qq8 (a:=.pair .term .term) (ji Go.Proofs.Tryz.func188 (by kernel_rfl)) (most:=100000000) Go.Proofs.YtinbdcelmgfniaaGreatDoor.clone_anyUp (fn:=zX m) λ l r h=>?_;let⟨c,b⟩:=qd4 h;exact⟨wY c,b.symm⟩
theorem qco{m:Nat}:qw Go.Proofs.Tryz.prog 193 (sgP ⟨[.nil,.val (.int .i64)],[.one (.row .term)],λ x=>yG m x.1⟩):=by
 refine qAR (a:=.term) (ji Go.Proofs.Tryz.func193 (by kernel_rfl)) (most:=100000000) Go.Proofs.YtinbdcelmgfniaaGreatDoor.grow_nilTrm (fn:=yG m) λ n r h=>?_;let⟨b,c⟩:=qd4 h;have b:=of_decide_eq_true b;exact⟨b.1,b.2,c.symm⟩
theorem qGk:qiX Go.Proofs.Tryz.prog (.pair .term (.int .i64)) 134 157 64:=⟨by
 have h:(match zJ Go.Proofs.Tryz.prog 134 with|some ⟨_,_,_,_,.slice e k b z⟩=>Nat.beq e 157&&(Nat.beq k 5&&(Nat.beq b 64&&Nat.beq z.length 5))|_=>false)=true:=by kernel_rfl
 split at h
 .rename_i l j i g e k b z m;simp only[wb]at h;let⟨f,d,c,a⟩:=h;have f:=wg f;have d:=wg d;have c:=wg c;have a:=wg a;subst f;subst d;subst c;exact⟨l,j,i,g,z,m,a⟩
 .cases h⟩
theorem qa4{m:Nat}:qw Go.Proofs.Tryz.prog 225 (sgP ⟨[.row (.pair .term (.int .i64)),.val (.int .i64),.val (.list (.pair .term (.int .i64)))],[.one (.row (.pair .term (.int .i64)))],λ x=>yh m x.1 x.2.1 x.2.2.1⟩):=by
 refine qCz (a:=.pair .term (.int .i64)) (ji Go.Proofs.Tryz.func225 (by kernel_rfl)) qGk (by decide) Go.Proofs.YtinbdcelmgfniaaGreatDoor.insert_endPow Go.Proofs.YtinbdcelmgfniaaGreatDoor.insert_roomPow Go.Proofs.YtinbdcelmgfniaaGreatDoor.insert_growPow (fn:=yh m) λ l i v r h=>?_;let⟨c,g⟩:=qd4 h;simp only[wb,Nat.beq_eq_true_eq]at c;let⟨b,f,d⟩:=c;have b:=of_decide_eq_true b;refine⟨?_,b.1,b.2,wY f,g.symm⟩
 match v,d with
 |[e],_=>exact⟨e,rfl⟩
theorem qa6{m:Nat}:qw Go.Proofs.Tryz.prog 226 (sgP ⟨[.row (.pair .term (.int .i64)),.val (.int .i64),.val (.int .i64)],[.one (.row (.pair .term (.int .i64)))],λ x=>yl m x.1 x.2.1 x.2.2.1⟩):=by
 refine qDe (a:=.pair .term (.int .i64)) (ji Go.Proofs.Tryz.func226 (by kernel_rfl)) Go.Proofs.YtinbdcelmgfniaaGreatDoor.delete_onePow (fn:=yl m) λ l i j r h=>?_;let⟨e,g⟩:=qd4 h;simp only[wb]at e;let⟨d,c,b,f⟩:=e;have d:=of_decide_eq_true d;have c:=of_decide_eq_true c;have b:j=i+1:=by simpa[ieq,qj]using b
 refine⟨b,c.1,?_,wY f,g.symm⟩;omega
end Go.AmZ
namespace Go.Proofs
open Go.Shelf
def Tryz.laysM171_ren:Go.Shelf.Ren:=⟨λ|171=>51|243=>88|246=>113|283=>144|284=>145|285=>146|286=>147|129=>179|317=>178|318=>180|319=>181|320=>182|337=>212|338=>213|n=>n,λ|3=>3|9=>9|2=>2|4=>4|171=>143|0=>0|53=>144|37=>66|5=>5|173=>147|212=>168|51=>169|20=>20|213=>170|46=>164|232=>214|233=>215|n=>n,λ|17=>0|18=>2|19=>3|n=>n⟩
theorem Tryz.laysM171:Go.Proofs.LaysM.n171 Tryz.prog Tryz.laysM171_ren:={
 mixed:=by kernel_rfl
 f129:=Tryz.func179.trans (congrArg some (by kernel_rfl))
 f171:=Tryz.func51.trans (congrArg some (by kernel_rfl))
 f243:=Tryz.func88.trans (congrArg some (by kernel_rfl))
 f246:=Tryz.func113.trans (congrArg some (by kernel_rfl))
 f283:=Tryz.func144.trans (congrArg some (by kernel_rfl))
 f284:=Tryz.func145.trans (congrArg some (by kernel_rfl))
 f285:=Tryz.func146.trans (congrArg some (by kernel_rfl))
 f286:=Tryz.func147.trans (congrArg some (by kernel_rfl))
 f317:=Tryz.func178.trans (congrArg some (by kernel_rfl))
 f318:=Tryz.func180.trans (congrArg some (by kernel_rfl))
 f319:=Tryz.func181.trans (congrArg some (by kernel_rfl))
 f320:=Tryz.func182.trans (congrArg some (by kernel_rfl))
 f337:=Tryz.func212.trans (congrArg some (by kernel_rfl))
 f338:=Tryz.func213.trans (congrArg some (by kernel_rfl))
 t0:=Tryz.underlying0
 a0:=Tryz.isAgg0
 z0:=Tryz.sizeOf0
 v0:=Tryz.zeroValue0
 t2:=Tryz.underlying2
 a2:=Tryz.isAgg2
 z2:=Tryz.sizeOf2
 v2:=Tryz.zeroValue2
 t3:=Tryz.underlying3
 a3:=Tryz.isAgg3
 z3:=Tryz.sizeOf3
 v3:=Tryz.zeroValue3
 t4:=Tryz.underlying4
 a4:=Tryz.isAgg4
 z4:=Tryz.sizeOf4
 v4:=Tryz.zeroValue4
 t5:=Tryz.underlying5
 a5:=Tryz.isAgg5
 z5:=Tryz.sizeOf5
 v5:=Tryz.zeroValue5
 t9:=Tryz.underlying9
 a9:=Tryz.isAgg9
 z9:=Tryz.sizeOf9
 v9:=Tryz.zeroValue9
 t20:=Tryz.underlying20
 a20:=Tryz.isAgg20
 z20:=Tryz.sizeOf20
 v20:=Tryz.zeroValue20
 t37:=Tryz.underlying66
 a37:=Tryz.isAgg66
 z37:=Tryz.sizeOf66
 v37:=Tryz.zeroValue66
 t46:=Tryz.underlying164
 a46:=Tryz.isAgg164
 z46:=Tryz.sizeOf164
 v46:=Tryz.zeroValue164
 t51:=Tryz.underlying169
 a51:=Tryz.isAgg169
 z51:=Tryz.sizeOf169
 v51:=Tryz.zeroValue169
 t53:=Tryz.underlying144
 a53:=Tryz.isAgg144
 z53:=Tryz.sizeOf144
 v53:=Tryz.zeroValue144
 t171:=Tryz.underlying143
 a171:=Tryz.isAgg143
 z171:=Tryz.sizeOf143
 v171:=Tryz.zeroValue143
 t173:=Tryz.underlying147
 a173:=Tryz.isAgg147
 z173:=Tryz.sizeOf147
 v173:=Tryz.zeroValue147
 t212:=Tryz.underlying168
 a212:=Tryz.isAgg168
 z212:=Tryz.sizeOf168
 v212:=Tryz.zeroValue168
 t213:=Tryz.underlying170
 a213:=Tryz.isAgg170
 z213:=Tryz.sizeOf170
 t232:=Tryz.underlying214
 a232:=Tryz.isAgg214
 z232:=Tryz.sizeOf214
 v232:=Tryz.zeroValue214
 t233:=Tryz.underlying215
 a233:=Tryz.isAgg215
 z233:=Tryz.sizeOf215
 v233:=Tryz.zeroValue215
 g17:=by kernel_rfl
 g18:=by kernel_rfl
 g19:=by kernel_rfl
 i0:=by kernel_rfl
 i2:=by kernel_rfl
 i3:=by kernel_rfl
 i4:=by kernel_rfl
 i5:=by kernel_rfl
 i9:=by kernel_rfl
 i20:=by kernel_rfl
 i37:=by kernel_rfl
 i46:=by kernel_rfl
 i51:=by kernel_rfl
 i53:=by kernel_rfl
 i171:=by kernel_rfl
 i173:=by kernel_rfl
 i212:=by kernel_rfl
 i232:=by kernel_rfl
 i233:=by kernel_rfl
 m17:=by kernel_rfl
 m18:=by kernel_rfl
 m19:=by kernel_rfl}
open Go.RowKit Go.Sort Go.Lib in
theorem Tryz.strconv_Itoa(n:Int)(c:-9223372036854775808<=n)(b:n<=9223372036854775807)(w:World)(a:Lib.TabIs Tryz.prog w "internal/strconv.uint64pow10" .u64 Lib.pow10Tab):
 Calls Tryz.prog 51 #[.int .i64 n] w λ e w'=>e=.returned (.string ⟨(Lib.itoa n).toArray⟩)/\∃k os,w'=grow (w.drewN k) os:=Any.strconv_Itoa Tryz.laysM171 n c b w a
end Go.Proofs
namespace Go.AmZ
open Go Go.RowKit Go.GxZ
def qoE:Nat->Nat->List UInt8
 |0,_=>[]
 |f+1,u=>if u<10 then[UInt8.ofNat (48+u)]else qoE f (u/10)++[UInt8.ofNat (48+u%10)]
theorem qpi:∀f u,u<10^f->0<f->qoE f u=Lib.decDigits u
 |0,u,_,a=>absurd a (xU 0)
 |f+1,u,h,_=>by
   rw[qoE,Lib.decDigits];split
   .rfl
   .rename_i c;rw[Nat.pow_succ]at h;rw[qpi f (u/10) (by omega) (Nat.pos_of_ne_zero λ b=>by rw[b]at h;omega)]
def J7(n:Int):List UInt8:=if n<0 then 45::qoE 20 n.natAbs else qoE 20 n.toNat
theorem qDh{n:Int}(b:-9223372036854775808<=n)(a:n<=9223372036854775807):J7 n=Lib.itoa n:=by
 unfold J7 Lib.itoa;rw[qpi 20 _ (by omega) (by decide),qpi 20 _ (by omega) (by decide)]
def strconv_Itoa(m:Nat)(n:Int):Option (List UInt8):=cond (ile (-9223372036854775808) n) (cond (ile n 9223372036854775807) (some (J7 n)) none) none
theorem qFt {Γ : Gh} {σ : St} {w:World} (h:Inv Γ σ w):Lib.TabIs Go.Proofs.Tryz.prog w "internal/strconv.uint64pow10" .u64 Lib.pow10Tab:=by
 obtain ⟨e,fr,h0⟩:=h.tab.1;unfold Lib.TabIs World.var?;rw [show Go.Proofs.Tryz.prog.globalNamed "internal/strconv.uint64pow10" = some 0 by kernel_rfl];show (match w.heap[0]? with | some (.cells cs _ _)=>some cs | _=>none)=_;rw [h0];unfold qwa Lib.pow10Tab;rw [xc];rfl
theorem qnJ{m:Nat}{c:TC}(r:∀j,c.pf 51 j=qo9 j [] (some ⟨[.val (.int .i64)],[.str],λ x=>strconv_Itoa m x.1⟩) none):qw Go.Proofs.Tryz.prog 51 (jL (ym c 51)):=by
 refine ql0 (ji Go.Proofs.Tryz.func51 (by kernel_rfl)) λ j g f a v b Γ w n p i=>?_;rw[r]at f;obtain⟨rfl,f⟩|f:=qmd f
 .cases f;have b:strconv_Itoa m a.1=some v:=b;unfold strconv_Itoa at b;cases d:ile (-9223372036854775808) a.1 with
  |false=>rw[d]at b;cases b
  |true=>
    cases h:ile a.1 9223372036854775807 with
    |false=>rw[d,h]at b;cases b
    |true=>
      rw[d,h]at b;cases b;have d:=of_decide_eq_true d;have h:=of_decide_eq_true h;obtain⟨u1,s,rfl,l,i⟩:=i.uncons;have:=i.nil_inv;subst this;have l:=qK l;subst l;refine qq6 p rfl ?_;refine(Go.Proofs.Tryz.strconv_Itoa a.1 d h w (qFt p)).mono λ e w' ⟨q,k,os,o⟩=>⟨?_,?_,?_⟩
      .rw[q,qDh d h]
      .rw[o];exact Lib.below_grow _ _ (wa _) k os
      .rw[o];exact w7 _ _
 .cases f
end Go.AmZ
namespace Go.AmZ
open Go Go.RowKit Go.GxZ
structure FI where
 fn:Func
 args:List ATy
 res:List Ty
 loop:List (Nat×List (Tmp×Co))
 ld:List Nat
 F:Nat->JQ args->Option (qbD res)
structure SI where
 fn:Func
 args:List SA
 res:List RE
 loop:List (Nat×List (Tmp×Co))
 ld:List Nat
 F:Nat->jt args->Option (yD args×RV res)
inductive En where
 |pure (l:List (List Nat×FI))
 |st (i:SI)
 |hp (g:Sig)
 |hs (g:qiy)
 |hx (g:Nat->qiy)
 |hm (g:Nat->qmI)
 |hk (g:Nat->qn3)
 |il (fn:Func)
inductive Tr where
 |leaf
 |node (k:Nat) (l r:Tr) (x:En)
def Tr.get:Tr->Nat->Option En
 |.leaf,_=>none
 |.node k l r x,f=>match Nat.beq f k with
   |true=>some x
   |false=>match Nat.blt f k with
     |true=>Tr.get l f
     |false=>Tr.get r f
def qng(a:List Nat):List (List Nat×FI)->Option FI
 |[]=>none
 |p::r=>match ql9 p.1 a with
   |true=>some p.2
   |false=>qng a r
def qAt(r:Nat):List (Nat×List (Tmp×Co))->Option (List (Tmp×Co))
 |[]=>none
 |p::l=>match Nat.beq p.1 r with
   |true=>some p.2
   |false=>qAt r l
structure Tb where
 ty:Nat->Option TD
 el:Nat->Option Ty
 tr:Tr
def Tb.has(b:Tb)(f:Nat):Bool:=match b.tr.get f with
 |some (.pure _)|some (.hp _)=>true
 |_=>false
def Tb.pf(b:Tb)(m f:Nat)(a:List Nat):Option Sig:=match b.tr.get f with
 |some (.pure l)=>match qng a l with
   |some i=>some ⟨i.args,i.res,i.F m⟩
   |none=>none
 |some (.hp g)=>qo9 a [] (some g) none
 |_=>none
def Tb.sf(b:Tb)(m f:Nat):Option qiy:=match b.tr.get f with
 |some (.st i)=>some ⟨i.args,i.res,i.F m⟩
 |some (.hs g)=>some g
 |some (.hx g)=>some (g m)
 |_=>none
def Tb.mf(b:Tb)(m f:Nat):Option qmI:=match b.tr.get f with
 |some (.hm g)=>some (g m)
 |_=>none
def Tb.xf(b:Tb)(m f:Nat):Option qn3:=match b.tr.get f with
 |some (.hk g)=>some (g m)
 |_=>none
def Tb.inl(b:Tb)(f:Nat):Option Func:=match b.tr.get f with
 |some (.il fn)=>some fn
 |_=>none
def Tb.tc(b:Tb)(m:Nat)(d:List (Nat×List (Tmp×Co)))(a c:Nat)(e:List Nat):TC:=⟨b.ty,b.el,b.has,b.pf m,b.sf m,λ r=>qAt r d,λ _=>none,a,c,λ f=>qDB f e,b.mf m,b.xf m,b.inl⟩
def Tb.runP(b:Tb)(m:Nat)(i:FI)(k:Nat)(a:List It)(E:Env)(σ:TS):Option (qbD i.res):=
 qkg (b.tc m i.loop i.fn.ntmps 0 i.ld) (qfz (b.tc m i.loop i.fn.ntmps 0 i.ld) i.res i.fn.results.toList) qp9 k a E σ
def Tb.runS(b:Tb)(m:Nat)(i:SI)(k:Nat)(a:List It)(E:Env)(σ:TS):Option (yD i.args×RV i.res):=
 qkg (b.tc m i.loop i.fn.ntmps (qvq i.args) i.ld) (qrB (b.tc m i.loop i.fn.ntmps (qvq i.args) i.ld) i.args i.res i.fn.results.toList) qp9 k a E σ
def Tb.runP1(b:Tb)(m:Nat)(i:FI)(c:List Nat)(a:JQ i.args):Option (qbD i.res):=b.runP m i (m+1) [.code (qm1 i.fn)] (qbV 0 (qr3 i.args a c)) ⟨[],[]⟩
def Tb.runS1(b:Tb)(m:Nat)(i:SI)(a:jt i.args):Option (yD i.args×RV i.res):=b.runS m i (m+1) [.code (qm1 i.fn)] (qbV 0 (qgB i.args 0 0 a)) ⟨sBx i.args 0 a,sRw i.args a⟩
def Tb.PL(b:Tb)(i:FI)(r:Nat)(m k:Nat)(E:Env)(σ:TS):Option (qbD i.res):=b.runP m i k (stL i.fn r) E σ
def Tb.QL(b:Tb)(i:SI)(r:Nat)(m k:Nat)(E:Env)(σ:TS):Option (yD i.args×RV i.res):=b.runS m i k (stL i.fn r) E σ
def Tb.at(b:Tb)(m:Nat):TC:=b.tc m [] 0 0 []
theorem qV{α:Type}{M:Nat->α}{z:α}{s:α->α}(c:z=M 0)(b:∀k,M (k+1)=s (M k))(k:Nat):qR z s k=M k:=by
 induction k with
 |zero=>exact c
 |succ k a=>rw[b,<-a];rfl
def fnB(fn:Func)(n:Nat):Bool:=QB fn&&Nat.ble n fn.ntmps
def En.ok:En->Bool
 |.pure l=>l.all λ p=>fnB p.2.fn p.2.args.length
 |.st i=>fnB i.fn i.args.length
 |.il fn=>QB fn
 |_=>true
def Tr.ok:Tr->Bool
 |.leaf=>true
 |.node _ l r x=>x.ok&&(l.ok&&r.ok)
def qpP(P:Program)(b:Tb)(f:Nat)(l:List (List Nat×FI)):Prop:=match l with
 |[]=>True
 |p::r=>P.funcs[f]?=some p.2.fn/\(∀a,p.2.F 0 a=none)/\(∀m a,p.2.F (m+1) a=b.runP1 m p.2 p.1 a)/\qpP P b f r
def En.prog(P:Program)(b:Tb)(f:Nat):En->Prop
 |.pure l=>qpP P b f l/\l≠[]
 |.st i=>P.funcs[f]?=some i.fn/\(∀a,i.F 0 a=none)/\∀m a,i.F (m+1) a=b.runS1 m i a
 |.hp g=>∀c:TC,(∀d,c.pf f d=qo9 d [] (some g) none)->qw P f (jL (ym c f))
 |.hs g=>qw P f (sgP g)
 |.hx g=>qw P f (sgP (g 0))/\∀m,zp P (b.at m).pc.cfg->qw P f (sgP (g (m+1)))
 |.hm g=>qw P f (mgP (g 0))/\∀m,zp P (b.at m).pc.cfg->qw P f (mgP (g (m+1)))
 |.il fn=>P.funcs[f]?=some fn
 |.hk g=>qw P f (xgP (g 0))/\∀m,zp P (b.at m).pc.cfg->qw P f (xgP (g (m+1)))
def Tr.prog(P:Program)(b:Tb):Tr->Prop
 |.leaf=>True
 |.node k l r x=>x.prog P b k/\l.prog P b/\r.prog P b
theorem Tr.get_spec{P:Program}{b:Tb}:∀{t:Tr}{f:Nat}{x:En},t.get f=some x->t.ok=true->t.prog P b->x.ok=true/\x.prog P b f
 |.leaf,f,x,h,_,_=>by cases h
 |.node k l r y,f,x,h,a,⟨e,d,c⟩=>by
   simp only[Tr.ok,wb]at a;let⟨j,i,g⟩:=a;simp only[Tr.get]at h;split at h
   .rename_i m;cases h;rw[wg m];exact⟨j,e⟩
   .split at h
    .exact Tr.get_spec h i d
    .exact Tr.get_spec h g c
theorem qtc{a:List Nat}:∀{l:List (List Nat×FI)}{i:FI},qng a l=some i->(a,i)∈l
 |[],i,h=>by cases h
 |p::r,i,h=>by
   simp only[qng]at h;split at h
   .rename_i b;cases h;rw[<-qmP b];exact ww ..
   .exact wj _ (qtc h)
theorem qpP.mem{P:Program}{b:Tb}{f:Nat}:∀{l:List (List Nat×FI)}{p:List Nat×FI},qpP P b f l->p∈l->P.funcs[f]?=some p.2.fn/\(∀a,p.2.F 0 a=none)/\(∀m a,p.2.F (m+1) a=b.runP1 m p.2 p.1 a)
 |[],p,_,h=>by cases h
 |q::r,p,⟨g,e,d,c⟩,h=>by
   obtain rfl|h:=wM.1 h
   .exact⟨g,e,d⟩
   .exact qpP.mem c h
theorem qqK{fn:Func}(h:QB fn=true):fn.body=some (qm1 fn):=by
 unfold QB at h;unfold qm1;cases a:fn.body with
 |none=>rw[a]at h;cases h
 |some c=>rfl
theorem qjI{fn:Func}{n:Nat}(h:fnB fn n=true):QB fn=true/\n<=fn.ntmps:=by
 unfold fnB at h;rw[wb]at h;exact⟨h.1,wY h.2⟩
theorem qDa{P:Program}{d:PC}(w:zp P d.cfg){l:TC}{f:FuncId}{fn:Func}(t:P.funcs[f]?=some fn)(m:QB fn=true)
  (h:∀n g,l.pf f n=some g->∃c:TC,{c.pc with pur:=d.pur,ld:=d.ld}=d/\c.nt=fn.ntmps/\c.np=0/\g.args.length<=fn.ntmps/\∃N k,∀a,g.fn a=qkg c (qfz c g.res fn.results.toList) N k [.code (qm1 fn)] (qbV 0 (qr3 g.args a n)) ⟨[],[]⟩):qw P f (jL (ym l f)):=by
 refine qAb w t m (ym l f) λ ys r b=>?_;unfold ym at b;split at b<;>try cases b
 rename_i g s;split at b<;>try cases b
 rename_i a u;split at b<;>cases b;rename_i v q;let⟨c,e,i,j,y,N,k,x⟩:=h _ g s;refine⟨je g.args a (qct ys),_,c.pc.pur,c.pc.ld,qic g.args u,λ z p=>p,?_⟩;rw[<-e];exact qGp (qqK m) i j (by rw[qhA];exact y) (qjZ g.args a (qct ys)) (by rw[<-x a];exact q)
theorem Tb.has_pf{b:Tb}{m f:Nat}{a:List Nat}{g:Sig}(h:b.pf m f a=some g):(∃l i,b.tr.get f=some (.pure l)/\qng a l=some i/\g=⟨i.args,i.res,i.F m⟩)\/(∃d,b.tr.get f=some (.hp d)):=by
 unfold Tb.pf at h;split at h
 .rename_i l c;split at h<;>cases h;exact .inl ⟨l,_,c,‹_›,rfl⟩
 .exact .inr ⟨_,‹_›⟩
 .cases h
theorem Tb.all_ok{P:Program}{b:Tb}(G:P.follows .mixedOrders=true)(Q:∀t d,b.ty t=some d->zJ P t=some d)(n:b.tr.ok=true)(k:b.tr.prog P b):∀m,zp P (b.at m).pc.cfg:=by
 have x:∀{c:TC}{g:Sig}{f m:Nat},c.pf=b.pf m->b.tr.get f=some (.hp g)->qw P f (jL (ym c f)):=by
  intro c g f m T j;refine(Tr.get_spec j n k).2 c λ s=>?_;rw[T];unfold Tb.pf;rw[j]
 have w:∀{m:Nat}{f:Nat},(b.at m).has f=true->(∃l,b.tr.get f=some (.pure l))\/∃g,b.tr.get f=some (.hp g):=by
  intro m f h;have h:b.has f=true:=h;unfold Tb.has at h;split at h
  .exact .inl ⟨_,‹_›⟩
  .exact .inr ⟨_,‹_›⟩
  .cases h
 have B:∀{m:Nat}{f:Nat}{g:qiy},(b.at m).sf f=some g->(∃i,b.tr.get f=some (.st i)/\g=⟨i.args,i.res,i.F m⟩)\/b.tr.get f=some (.hs g)\/∃h,b.tr.get f=some (.hx h)/\g=h m:=by
  intro m f g h;have h:b.sf m f=some g:=h;unfold Tb.sf at h;split at h
  .cases h;exact .inl ⟨_,‹_›,rfl⟩
  .cases h;exact .inr (.inl ‹_›)
  .cases h;exact .inr (.inr ⟨_,‹_›,rfl⟩)
  .cases h
 have C:∀{m:Nat}{f:Nat}{g:qmI},(b.at m).mf f=some g->∃h,b.tr.get f=some (.hm h)/\g=h m:=by
  intro m f g h;have h:b.mf m f=some g:=h;unfold Tb.mf at h;split at h
  .cases h;exact⟨_,‹_›,rfl⟩
  .cases h
 have A:∀{m:Nat}{f:Nat}{g:qn3},(b.at m).xf f=some g->∃h,b.tr.get f=some (.hk h)/\g=h m:=by
  intro m f g h;have h:b.xf m f=some g:=h;unfold Tb.xf at h;split at h
  .cases h;exact⟨_,‹_›,rfl⟩
  .cases h
 have D:∀{m f:Nat}{fn:Func},(b.at m).inl f=some fn->P.funcs[f]?=some fn/\QB fn=true:=by
  intro m f fn h;have h:b.inl f=some fn:=h;unfold Tb.inl at h;split at h<;>cases h;have:=Tr.get_spec (by assumption) n k;exact⟨this.2,this.1⟩
 have q:∀{f:Nat}{l:List (List Nat×FI)},b.tr.get f=some (.pure l)->∃fn,P.funcs[f]?=some fn/\QB fn=true/\∀s i,qng s l=some i->i.fn=fn/\i.args.length<=fn.ntmps/\(∀a,i.F 0 a=none)/\∀m a,i.F (m+1) a=b.runP1 m i s a:=by
  intro f l u;let⟨y,v⟩:=Tr.get_spec u n k;let⟨v,z⟩:=v;have y:=wo.1 (show l.all _=true from y);cases l with
  |nil=>exact absurd rfl z
  |cons p r=>
    refine⟨p.2.fn,(v.mem (ww ..)).1,(qjI (y p (ww ..))).1,λ s i H=>?_⟩;have G:=qtc H;let⟨e1,W,V⟩:=v.mem G;have X:=(v.mem (ww ..)).1;rw[X]at e1;have R:p.2.fn=i.fn:=kz e1;refine⟨R.symm,?_,W,V⟩;rw[R];exact(qjI (y _ G)).2
 intro m
 induction m with
 |zero=>
   refine qAL G Q (λ f I=>?_) (λ f g j=>?_) (λ f g j=>?_) (λ f g j=>?_) λ f fn h=>D h
   .obtain⟨l,u⟩|⟨g,j⟩:=w I
    .let⟨fn,O,N,M⟩:=q u;refine qAv (ji O N) λ s g a h=>?_;have h:b.pf 0 f s=some g:=h;obtain⟨S,i,o,L,rfl⟩|⟨U,o⟩:=Tb.has_pf h
     .rw[u]at o;cases o;exact(M s i L).2.2.1 a
     .rw[u]at o;cases o
    .exact x rfl j
   .obtain⟨i,H,rfl⟩|e:=B j
    .let⟨y,v,z,_⟩:=Tr.get_spec H n k;exact qjx (ji v (qjI y).1) z
    .obtain e|⟨h,e,rfl⟩:=e
     .exact(Tr.get_spec e n k).2
     .exact(Tr.get_spec e n k).2.1
   .obtain⟨h,e,rfl⟩:=C j;exact(Tr.get_spec e n k).2.1
   .obtain⟨h,e,rfl⟩:=A j;exact(Tr.get_spec e n k).2.1
 |succ m E=>
   refine qAL G Q (λ f I=>?_) (λ f g j=>?_) (λ f g j=>?_) (λ f g j=>?_) λ f fn h=>D h
   .obtain⟨l,u⟩|⟨g,j⟩:=w I
    .let⟨fn,O,N,M⟩:=q u;refine qDa E O N λ s g h=>?_;have h:b.pf (m+1) f s=some g:=h;obtain⟨S,i,o,L,rfl⟩|⟨U,o⟩:=Tb.has_pf h
     .rw[u]at o;cases o;obtain⟨rfl,K,_,J⟩:=M s i L;exact⟨b.tc m i.loop i.fn.ntmps 0 i.ld,rfl,rfl,rfl,K,qp9,m+1,λ a=>J m a⟩
     .rw[u]at o;cases o
    .exact x rfl j
   .obtain⟨i,H,rfl⟩|e:=B j
    .let⟨y,v,_,J⟩:=Tr.get_spec H n k;let⟨z,K⟩:=qjI y;exact qBL (c:=b.tc m i.loop i.fn.ntmps (qvq i.args) i.ld) (E.pur _ _) v z (qqK z) rfl _ rfl K ⟨qp9,m+1,λ a=>J m a⟩
    .obtain e|⟨h,e,rfl⟩:=e
     .exact(Tr.get_spec e n k).2
     .exact(Tr.get_spec e n k).2.2 m E
   .obtain⟨h,e,rfl⟩:=C j;exact(Tr.get_spec e n k).2.2 m E
   .obtain⟨h,e,rfl⟩:=A j;exact(Tr.get_spec e n k).2.2 m E
def okP(b:Tb)(c:List Nat)(i:FI):Prop:=∀m a,i.F (m+1) a=b.runP1 m i c a
def okS(b:Tb)(i:SI):Prop:=∀m a,i.F (m+1) a=b.runS1 m i a
theorem nP{P:Program}{b:Tb}{k:Nat}{c:List Nat}{i:FI}{l r:Tr}(h:P.funcs[k]?=some i.fn)(g:okP b c i)(e:l.prog P b)(d:r.prog P b)(f:∀a,i.F 0 a=none:=by exact λ _=>rfl):(Tr.node k l r (.pure [(c,i)])).prog P b:=⟨⟨⟨h,f,g,trivial⟩,List.cons_ne_nil _ _⟩,e,d⟩
theorem nS{P:Program}{b:Tb}{k:Nat}{i:SI}{l r:Tr}(h:P.funcs[k]?=some i.fn)(g:okS b i)(d:l.prog P b)(c:r.prog P b)(e:∀a,i.F 0 a=none:=by exact λ _=>rfl):(Tr.node k l r (.st i)).prog P b:=⟨⟨h,e,g⟩,d,c⟩
abbrev eP(i:FI):En:=.pure [([],i)]
abbrev eS(i:SI):En:=.st i
abbrev tL(k:Nat)(x:En):Tr:=.node k .leaf .leaf x
abbrev vI:=TV.i .i64
abbrev vT(l:List T):=TV.sl .term l 1
section
variable {A B C D E F R:Type}
abbrev u0(f:Nat->R):Nat->Unit->R:=λ m _=>f m
abbrev u1(f:Nat->A->R):Nat->A×Unit->R:=λ m x=>f m x.1
abbrev u2(f:Nat->A->B->R):Nat->A×B×Unit->R:=λ m x=>f m x.1 x.2.1
abbrev u3(f:Nat->A->B->C->R):Nat->A×B×C×Unit->R:=λ m x=>f m x.1 x.2.1 x.2.2.1
abbrev u4(f:Nat->A->B->C->D->R):Nat->A×B×C×D×Unit->R:=λ m x=>f m x.1 x.2.1 x.2.2.1 x.2.2.2.1
abbrev u5(f:Nat->A->B->C->D->E->R):Nat->A×B×C×D×E×Unit->R:=λ m x=>f m x.1 x.2.1 x.2.2.1 x.2.2.2.1 x.2.2.2.2.1
end
theorem Tb.prim{P:Program}{b:Tb}(h:∀m,zp P (b.at m).pc.cfg)(m:Nat){f:Nat}(a:b.has f=true):qw P f (jL (ym (b.at m) f)):=by
 refine(h m).prim f _ ?_;show PC.prim _ f=_;unfold PC.prim
 have:(b.at m).pc.pf f=some (ym (b.at m) f):=by
  show(match(b.at m).has f with|true=>some (ym (b.at m) f)|false=>none)=_;rw[show(b.at m).has f=true from a]
 rw[this]
end Go.AmZ
namespace Go.AmZ
open Go Go.RowKit Go.GxZ Go.Sort Go.Proofs Go.Shelf
def bare(Γ:Gh):Gh:={Γ with nb:=0,nr:=0}
theorem Rep.bare{Γ:Gh}{x:AV}{u:Value}(h:Rep Γ x u)(m:qk x=true):Rep (bare Γ) x u:=by
 induction h with
 |v x h=>exact .v x h
 |sl k es f a n cap b o us p t s r c y w q z l=>exact .sl k es f a n cap b o us p t s r c y w q (λ i e j x g d=>l i e j x g d (c e (wc g) x (wc d)))
 |_=>simp[qk]at m
theorem Inv.zero_lt{Γ:Gh}{σ:St}{w:World}(h:Inv Γ σ w):0<w.heap.size:=let⟨_,_,a⟩:=h.tab.1;(Array.getElem?_eq_some_iff.1 a).1
theorem Inv.bare{Γ:Gh}{σ:St}{w w':World}(h:Inv Γ σ w)(d:w'.heap[0]?=w.heap[0]?)(k:∀b o u,Γ.mem b o=some u->w'.cell? ⟨b,o,none⟩=some u):Inv (bare Γ) emp w' where
 tab:=⟨let⟨e,fr,l⟩:=h.tab.1;⟨e,fr,d.trans l⟩,λ g=>g.elim (λ⟨i,a,_⟩=>absurd a (wD i)) λ⟨i,a,_⟩=>absurd a (wD i),h.tab.2.2⟩
 nb:=rfl
 nr:=rfl
 mem:=λ b o u e=>⟨k b o u e,(h.mem b o u e).2⟩
 box:=λ i cs e=>by cases e
 inj:=λ i j c=>absurd c (wD _)
 boxmem:=λ i c=>absurd c (wD _)
 row:=λ r R e=>by cases e
 apart:=λ r m f=>absurd f (wD _)
structure qCH (w w':World):Prop where
 os:w'.os=w.os
 tape:w'.tape=w.tape
 output:w'.output=w.output
 size:w.heap.size<=w'.heap.size
 block:∀b,b<w.heap.size->w'.heap[b]?=w.heap[b]?
 drawn:w.drawn<=w'.drawn
theorem qsM:∀(τ:Ty) (v:Val τ),yW τ (zK τ v)=some v:=by
 intro τ v;have h:=yK τ v;cases τ<;>exact h
theorem ql4:∀(ts:List Ty) (a:JQ (ts.map ATy.val)),qa0 (ts.map ATy.val) (je (ts.map ATy.val) a [])=some a/\qct (je (ts.map ATy.val) a [])=[]
 |[],_=>⟨rfl,rfl⟩
 |τ::r,a=>by
   let⟨d,c⟩:=ql4 r a.2;constructor
   .show qiL (yW τ) (qa0 (r.map ATy.val)) (zK τ a.1::je (r.map ATy.val) a.2 [])=_;simp only[qiL,qsM,d];rfl
   .show qct (zK τ a.1::je (r.map ATy.val) a.2 [])=[];have:=(qaq (qsM τ a.1)).2;cases b:zK τ a.1<;>first|exact c|exact absurd b (this _ _)
def Fn2(P:Program)(g:FuncId)(τ:Ty){a:Type}(enc:a->Value)(F:Val τ->Val τ->Option a):Prop:=
 qc6 P g/\∀{Γ:Gh}{w:World}{x y:Val τ}{u v:Value}{c:a},Inv Γ emp w->Rep Γ (zK τ x) u->Rep Γ (zK τ y) v->F x y=some c->Calls P g #[u,v] w λ e w'=>e=.returned (enc c)/\qCH w w'
theorem qvi{P:Program}{g:FuncId}{c:TC}{τ ρ:Ty}(o:qw P g (jL (ym c g))){F:Val τ->Val τ->Option (qbD [ρ])}(z:c.pf g []=some ⟨[.val τ,.val τ],[ρ],λ x=>F x.1 x.2.1⟩){enc:qbD [ρ]->Value}(A:∀v,qX (Q0 [ρ] v)=.v (enc v)):Fn2 P g τ enc F:=by
 refine⟨o.1,λ{Γ w x y u v p} m a q B=>?_⟩;let⟨E,D⟩:=ql4 [τ,τ] (x,y,())
 have t:ym c g [zK τ x,zK τ y]=some (.v (enc p)):=by
  show ym c g (je ([τ,τ].map ATy.val) (x,y,()) [])=_;unfold ym;rw[D,z];simp only;have n:qa0 [ATy.val τ,ATy.val τ] (je ([τ,τ].map ATy.val) (x,y,()) [])=some (x,y,()):=E;rw[n];simp only;rw[B];simp only;rw[A]
 have j:jL (ym c g) emp [zK τ x,zK τ y]=some (.v (enc p),none):=by
  show(match ym c g [zK τ x,zK τ y]with|some v=>some (v,none)|none=>none)=_;rw[t]
 have:=o.2 Γ emp w _ [u,v] _ m (waq a (waq q RepL.nil)) j;refine Calls.mono this ?_;rintro e w' ⟨G,Γ',rfl,a,_,h,_⟩;have s:=qK h;subst s;refine⟨rfl,a.os,a.tape,a.output,a.size,λ b C=>a.block b C ?_,a.drawn⟩;have l:Γ.nb=0:=m.nb;have k:Γ.nr=0:=m.nr;rintro(⟨i,f,_⟩|⟨r,d,_⟩)
 .rw[l]at f;exact absurd f (wD _)
 .rw[k]at d;exact absurd d (wD _)
theorem qsi{P:Program}{b:Tb}{m:Nat}(h:zp P (b.at m).pc.cfg){f:Nat}(a:b.has f=true):qw P f (jL (ym (b.at m) f)):=by
 refine h.prim f _ ?_;show PC.prim _ f=_;unfold PC.prim
 have:(b.at m).pc.pf f=some (ym (b.at m) f):=by
  show(match(b.at m).has f with|true=>some (ym (b.at m) f)|false=>none)=_;rw[show(b.at m).has f=true from a]
 rw[this]
def qaK{α:Type}(F:α->α->Option Int)(l:List α)(i j:Nat):Int:=match l[i%l.length]?,l[j%l.length]? with
 |some x,some y=>(F x y).getD 0
 |_,_=>0
def qe3{α a:Type}(F:α->α->Option a)(l:List α):Bool:=l.all λ x=>l.all λ y=>(F x y).isSome
def qy9(n:Nat)(lt:Nat->Nat->Bool):Bool:=(List.range n).all λ i => !lt i i&&(List.range n).all λ j=>(List.range n).all λ k=>(!(lt i j&&lt j k)||lt i k)&&(lt i j||(lt j k || !lt i k))
def qdQ{α:Type}(F:α->α->Option Int)(l:List α):List Nat:=(Sort.pdq (ltOf (qaK F l)) (Array.range l.length) 0 l.length (Lib.bitLen l.length) true true).toList
def pick{α:Type}(l:List α)(a:List Nat):List α:=a.filterMap λ i=>l[i]?
def qqH{α:Type}(F:α->α->Option Int):List α->Option (List α)
 |[]=>some []
 |x::l=>cond (Nat.ble (x::l).length 100000&&(qe3 F (x::l)&&qy9 (x::l).length (ltOf (qaK F (x::l))))) (some (pick (x::l) (qdQ F (x::l)))) none
theorem qBT{α:Type}(F:α->α->Option Int)(l:List α)(i j:Nat):qaK F l i j=qaK F l (i%l.length) (j%l.length):=by
 unfold qaK;rw[Nat.mod_mod,Nat.mod_mod]
theorem qE5{n:Nat}{lt:Nat->Nat->Bool}(l:0<n)(e:∀i j,lt i j=lt (i%n) (j%n))(h:qy9 n lt=true):SWO lt:=by
 have b:∀i j k,lt i i=false/\(lt i j=true->lt j k=true->lt i k=true)/\(lt i j=false->lt j k=false->lt i k=false):=by
  intro i j k;have a:∀i,i%n∈List.range n:=λ i=>kM.2 (xP _ l);have d:=wo.1 h _ (a i);rw[wb]at d;have c:=wo.1 (wo.1 d.2 _ (a j)) _ (a k);rw[wb]at c;rw[e i i,e i j,e j k,e i k];let⟨d,_⟩:=d;let⟨c,g⟩:=c;refine⟨by simpa using d,λ e1 f=>?_,λ e1 f=>?_⟩
  .rw[e1,f]at c;simpa using c
  .rw[e1,f]at g;simpa using g
 exact⟨λ i=>(b i i i).1,λ i j k=>(b i j k).2.1,λ i j k=>(b i j k).2.2⟩
theorem qob{α:Type}{l:List α}:∀{a:List Nat},(∀i∈a,i<l.length)->∀(q:Nat),(pick l a)[q]?=(a[q]?).bind λ i=>l[i]?
 |[],_,q=>by simp[pick]
 |i::a,h,q=>by
   have b:=h i (ww ..)
   have e:pick l (i::a)=l[i]::pick l a:=by
    unfold pick;rw[xW,List.getElem?_eq_getElem b]
   rw[e];cases q with
   |zero=>simp[List.getElem?_eq_getElem b]
   |succ q=>simpa using qob (λ j c=>h j (wj _ c)) q
theorem qCg{α:Type}{l:List α}{a:List Nat}(h:∀i∈a,i<l.length):(pick l a).length=a.length:=by
 induction a with
 |nil=>rfl
 |cons i a b=>
   have d:=h i (ww ..)
   have e:pick l (i::a)=l[i]::pick l a:=by
    unfold pick;rw[xW,List.getElem?_eq_getElem d]
   rw[e,wB,wB,b λ j c=>h j (wj _ c)]
theorem qw5{α : Type}(F : α -> α -> Option Int)(l:List α)(h:SWO (ltOf (qaK F l))):(qdQ F l).Perm (List.range l.length)/\SortedIn (ltOf (qaK F l)) 0 l.length (qdQ F l).toArray:=by
 have hp:=pdq_sorts (ltOf (qaK F l)) h (Array.range l.length) 0 l.length (Lib.bitLen l.length) true true (wh _) (by simp) (Or.inl rfl);obtain⟨⟨h1,_,h3⟩,h4⟩:=hp;have hsz:(Array.range l.length).size=l.length:=vj;have hs':(Sort.pdq (ltOf (qaK F l)) (Array.range l.length) 0 l.length (Lib.bitLen l.length) true true).size=l.length:=h1.trans hsz;have e2:∀ a:Array Nat,a.size=l.length->a.extract 0 l.length=a := λ a ha=>by rw[<- ha];exact Array.extract_size
 rw[e2 _ hs',e2 _ hsz]at h3;refine⟨?_,h4⟩;rw[Array.toList_range]at h3;exact h3
theorem qxI{σ:St}{g:Nat}{r:List SA}{nb c:Nat}{ys:List AV}{a:jt (.clo g 0::r)}(h:dS σ (.clo g 0::r) nb c ys=some a):∃b,ys=.fn g []::b/\dS σ r nb c b=some a:=by
 cases ys with
 |nil=>simp[dS]at h
 |cons y ys=>
   simp only[dS]at h;split at h
   .rename_i cs d;obtain⟨rfl,e⟩:=qx5 d;obtain rfl:=we e;exact⟨ys,rfl,h⟩
   .cases h
end Go.AmZ
namespace Go.AmZ
open Go Go.RowKit Go.GxZ Go.Sort Go.Proofs Go.Shelf
structure qCZ (w0:World) (blk:Nat) (et:TypeId) (vs:Array Value) (W:World):Prop where
 hb:W.heap[blk]?=some (.cells vs et (0,0))
 os:W.os=w0.os
 tape:W.tape=w0.tape
 output:W.output=w0.output
 size:w0.heap.size<=W.heap.size
 other:∀b,b<w0.heap.size->b≠blk->W.heap[b]?=w0.heap[b]?
 drawn:w0.drawn<=W.drawn
theorem qCZ.refl{w:World}{a:Nat}{b:TypeId}{vs:Array Value}(h:w.heap[a]?=some (.cells vs b (0,0))):qCZ w a b vs w:=⟨h,rfl,rfl,rfl,wa _,λ _ _ _=>rfl,wa _⟩
theorem sort_blks{w:World}{blk:Nat}{et:TypeId}{vs:Array Value}(hb:w.heap[blk]?=some (.cells vs et (0,0))){α : Type}[Inhabited α](enc : α -> List Value)(k m:Nat)(dk:Array α)(os:Array Obj) :
  qCZ w blk et (putCells id 0 (flatK enc k dk) vs) (sortWorldK enc k w blk 0 m dk os):=by
 have hlt:blk<w.heap.size:=(Array.getElem?_eq_some_iff.1 hb).1;have hh:(sortWorldK enc k w blk 0 m dk os).heap=w.heap.modify blk (onCells (putCells id 0 (flatK enc k dk)))++os:=rfl;refine⟨?_,rfl,rfl,rfl,?_,λ b hb' hn=>?_,w7 _ _⟩
 ·rw[hh,Array.getElem?_append_left (by simpa using hlt),Array.getElem?_modify,if_pos rfl,hb];rfl
 ·rw[hh,xp,Array.size_modify];exact w7 _ _
 ·rw[hh,Array.getElem?_append_left (by simpa using hb'),Array.getElem?_modify,if_neg (xw hn)]
theorem qCH.grow{W w':World}(h:qCH W w'):∃q a,w'=Sort.grow (W.drewN q) a:=by
 refine⟨w'.drawn-W.drawn,w'.heap.extract W.heap.size w'.heap.size,?_⟩
 have c:w'.heap=W.heap++w'.heap.extract W.heap.size w'.heap.size:=by
  apply Array.ext_getElem?;intro i;by_cases b:i<W.heap.size
  .rw[Array.getElem?_append_left b];exact h.block i b
  .rw[Array.getElem?_append_right (by omega),Array.getElem?_extract];split
   .congr 1;omega
   .rw[Array.getElem?_eq_none (by omega)]
 have d:W.drawn+(w'.drawn-W.drawn)=w'.drawn:=Nat.add_sub_cancel' h.drawn;let⟨g,f,e,_,_,_⟩:=h;cases w';cases W;simp only[Sort.grow,World.drewN]at *;rw[<-c,d,g,f,e]
def JW(vs:Array Value)(k p:Nat):List Value:=(vs.toList.drop (p*k)).take k
theorem qke{vs:Array Value}{k p j:Nat}(a:j<k):(JW vs k p)[j]?=vs[p*k+j]?:=by
 unfold JW;rw[List.getElem?_take,if_pos a,List.getElem?_drop,Array.getElem?_toList]
theorem qoG{vs:Array Value}{k p n:Nat}(a:p<n)(b:n*k<=vs.size):(JW vs k p).length=k:=by
 unfold JW;have:(p+1)*k<=n*k:=wm _ a;rw[kL]at this;rw[wu,wR,wK];omega
theorem quQ{Γ:Gh}{τ:Ty}{c:List (List AV)}{l:List (Val τ)}{vs:Array Value}{n:Nat}(v:c.length=n)(B:∀e∈c,e.length=τ.size)(w:qH (qm τ) c=some l)(C:zM Γ τ.size c (vs.toList.take (n*τ.size)))(A:n*τ.size<=vs.size)
  {p:Nat}{x:Val τ} (t:l[p]?=some x):RepL Γ (qd τ x) (JW vs τ.size p)/\∀u∈JW vs τ.size p,u.oneCell'=true:=by
 have o:l.length=n:=(qE w).symm.trans v;have h:p<n:=by rw[<-o];exact getElem?_lt t
 have b:p<c.length:=by rw[v];exact h
 let⟨x',g,r⟩:=Qw w (List.getElem?_eq_getElem b);rw[t]at g;cases g;have f:=B _ (wQ b);have a:=qoG (k:=τ.size) h A
 have get:∀j,j<τ.size->∃u,(JW vs τ.size p)[j]?=some u/\Rep Γ (c[p][j]?.getD .dead) u/\u.oneCell'=true:=by
  intro j d;have i:j<c[p].length:=by rw[f];exact d
  let⟨u,u1,u2,u3⟩:=C p c[p] j _ (List.getElem?_eq_getElem b) (List.getElem?_eq_getElem i);refine⟨u,?_,?_,u3⟩
  .rw[qke d,<-Array.getElem?_toList];rw[List.getElem?_take]at u1;split at u1
   .exact u1
   .cases u1
  .rw[List.getElem?_eq_getElem i];exact u2
 constructor
 .refine(qgi r).rep ⟨by rw[a,f],λ j y u s m=>?_⟩;have d:j<τ.size:=by rw[<-f];exact getElem?_lt s
  let⟨z,u1,u2,_⟩:=get j d;rw[m]at u1;cases u1;rw[s]at u2;exact u2
 .intro u m;let⟨j,d⟩:=List.getElem?_of_mem m;have q:j<τ.size:=by rw[<-a];exact getElem?_lt d
  let⟨z,u1,_,u3⟩:=get j q;rw[d]at u1;cases u1;exact u3
theorem qjy(j k n:Nat)(h:j<n*k):j/k<n/\j/k*k+j%k=j/\j%k<k:=by
 have b:0<k:=by
  obtain a|a:=xZ k
  .rw[a,Nat.mul_zero]at h;exact absurd h (wD _)
  .exact a
 refine⟨(xL b).2 h,?_,xP _ b⟩;rw[xz];exact xX j k
set_option maxHeartbeats 1000000 in
theorem qtk{P:Program}{ρ : Ren}(L:SlLaysF0.n6 P ρ){τ : Ty}{g:FuncId}(hag:∀ v,zK τ v = .agg (qd τ v))(aE:∀ w,(isAgg (ρ.t 24)).run P w = .ok true w)(zE:∀ w,(Go.sizeOf (ρ.t 24)).run P w = .ok τ.size w)
  {F:Val τ -> Val τ -> Option Int} (hF:Fn2 P g τ (λ c:Int => .int .i64 c) F) (hf:qc6 P (ρ.f 6)) {fn:List (Val τ)->Option (List (Val τ))} (hfn:∀ l r,fn l=some r->qqH F l=some r) (hk1' : τ.size≠1:=by first | assumption | decide) :
  qw P (ρ.f 6) (mgP ⟨τ,[.clo g 0],λ x=>fn x.1⟩):=by
 refine⟨hf,λ Γ σ w args vals r hi hr hp=>?_⟩;unfold mgP at hp;split at hp
 case h_2=>cases hp
 rename_i x hx;split at hp
 case h_2=>cases hp
 rename_i v hv;split at hp
 case h_2=>cases hp
 rename_i hlen;obtain⟨l,_⟩:=x;have hv:=hfn _ _ hv;have hlen:v.length=l.length:=wg hlen;obtain⟨y0,ys0,nr,rfl,hy0,hx1⟩:=qqD hx;obtain⟨ys1,rfl,hx2⟩:=qxI (g:=g) (r:=[]) hx1;obtain⟨rfl,hbx,hrw⟩:=qgV hx2;clear hx hx1 hx2;obtain⟨u0,r0,rfl,hu0,hr⟩:=hr.uncons;obtain⟨u1,r1,rfl,hu1,hr⟩:=hr.uncons;have:=hr.nil_inv;subst this
 have hu1:u1 = .func (.func g) #[] #[]:=by
  cases hu1 with
  | fn _ _ us hn _=>obtain rfl:=we hn;rfl
 subst hu1;have hb0 : σ.bx=[]:=we hbx.symm;have none0:∀(p:Option Addr) (cap:Nat),Calls P (ρ.f 6) #[.slice p 0 cap,.func (.func g) #[] #[]] w λ e w'=>e = .returned (.tuple #[])/\w'=w := λ p cap=>AnyF.slices_SortFunc_none L p cap _ w;have tup:∀ Γ,Rep Γ (.tup []) (.tuple #[]) := λ Γ => .tup [] [] rfl (λ i x u h=>by cases h);rcases qd8 hy0 with⟨hnr,R,rfl,hR,hRk,hRf,hRd⟩ | ⟨hnr,hl0,hy⟩
 ·have hrw1 : σ.rw=[R]:=by
    rw[hnr]at hrw
    match hq : σ.rw,hrw with
    | [Q],_=>rw[hq]at hR;cases hR;rfl
  rw[hb0,hrw1]at hp;cases hp;have H:=hi.row 0 R hR;have hcl:R.c.length=l.length:=qE hRd;have hlk:∀ e∈R.c,e.length = τ.size := λ e he=>(H.len e he).trans hRk
  have qkD:qv { σ with wr:=[],wrr:=[] } ⟨[],[⟨R.k,v.map (qd τ),R.ver,R.fz,R.off⟩],[],[0]⟩ :=
   ⟨by show σ.bx.length<=0;rw[hb0];exact wa _,by show σ.rw.length<=1;rw[hrw1];exact wa _,λ i hi _=>(by have hi:i < σ.bx.length:=hi;rw[hb0]at hi;exact absurd hi (wD _)),λ i hi hn=>(by
    have hi:i < σ.rw.length:=hi;rw[hrw1]at hi;have hi:i<1:=hi;obtain rfl:i=0:=by omega
    exact absurd (wF.2 rfl) hn),λ i h=>(by cases h),λ i h=>(by cases h)⟩
  obtain⟨p,cap,rfl,hcap,hrm⟩:=qrq hi hR hRk hRf hu0;by_cases hl0:l=[]
  ·subst hl0;have hc0:R.c=[]:=we hcl;have hv0:v=[]:=we hlen;subst hv0;rw[hcl];refine(none0 p cap).mono ?_;rintro e w' ⟨rfl,rfl⟩;refine⟨_,Γ,rfl,.refl _ _,?_,tup _,qkD⟩
   have:(⟨[],[⟨R.k,([]:List (Val τ)).map (qd τ),R.ver,R.fz,R.off⟩],[],[0]⟩:St)=⟨[],[R],[],[0]⟩:=by
    show(⟨[],[⟨R.k,[],R.ver,R.fz,R.off⟩],[],[0]⟩:St)=_;rw[<- hc0]
   show Inv Γ ⟨[],[⟨R.k,([]:List (Val τ)).map (qd τ),R.ver,R.fz,R.off⟩],[],[0]⟩ w';rw[this];exact hi.wr hb0.symm hrw1.symm
  ·have hlpos:0<l.length:=xE.2 hl0;rcases hrm with h0 | ⟨rfl,hz,vs,et,hvs,hvsz,hfit,hca,hxl,h1⟩
   ·omega
   obtain⟨n,hn⟩:∃ n,n=l.length:=⟨_,rfl⟩
   have hnc:R.c.length=n:=hcl.trans hn.symm;rw[hnc]at hca hxl h1 hcap |-
   have hns:n * τ.size<=vs.size:=wC (wm _ hcap) hfit;have hsz0:0 < τ.size:=wao τ
   have hv':Nat.ble l.length 100000=true/\qe3 F l=true/\qy9 l.length (ltOf (qaK F l))=true/\v=pick l (qdQ F l):=by
    cases l with
    | nil=>exact absurd rfl hl0
    | cons y l =>
      have hv:cond _ _ _=some v:=hv;cases hb:(Nat.ble (y::l).length 100000&&(qe3 F (y::l)&&qy9 (y::l).length (ltOf (qaK F (y::l)))))with
      | false=>unfold qqH at hv;rw[hb]at hv;cases hv
      | true =>
        have hb':=hb;simp only[wb]at hb';unfold qqH at hv;rw[hb]at hv;cases hv;exact⟨hb'.1,hb'.2.1,hb'.2.2,rfl⟩
   obtain⟨v1,v2,v3,v4⟩:=hv';have v1:l.length<=100000:=wY v1;have hO:SWO (ltOf (qaK F l)):=qE5 hlpos (λ i j=>by unfold ltOf;rw[qBT]) v3;obtain⟨hperm,_⟩:=qw5 F l hO;have hixlt:∀ i∈qdQ F l,i<l.length := λ i hi=>kM.1 (hperm.mem_iff.1 hi);have hixlen:(qdQ F l).length=l.length:=by rw[hperm.length_eq,xK]
   have hER:∀{q:Nat} {y:Val τ},l[q]?=some y->RepL Γ (qd τ y) (JW vs τ.size q)/\∀ u∈JW vs τ.size q,u.oneCell'=true := λ hq=>quQ hnc hlk hRd hca hns hq;have hlast:∀ i,i % n<n := λ i=>xP _ (by omega);obtain⟨enc,henc⟩:∃ enc:Nat->List Value,enc = λ i=>JW vs τ.size (i % n):=⟨_,rfl⟩
   have hek:∀ i,(enc i).length = τ.size := λ i=>by rw[henc];exact qoG (hlast i) hns
   have hlget:∀ i,∃ y,l[i % n]?=some y := λ i=>⟨_,List.getElem?_eq_getElem (by rw[<- hn];exact hlast i)⟩
   have he1:∀ i,∀ u∈enc i,u.oneCell'=true := λ i u hu=>by
    rw[henc]at hu;obtain⟨y,hy⟩:=hlget i;exact(hER hy).2 u hu
   have hrange:(Array.range n).size=n:=vj;have hvsb:w.heap[Γ.cur 0]?=some (.cells vs et (0,0)):=hvs;have hblk : Γ.cur 0<w.heap.size:=(Array.getElem?_eq_some_iff.1 hvsb).1;have hmem0:∀ off,Γ.mem (Γ.cur 0) off=none := λ off=>H.un hz off (by rw[hRf.1,ko,H.off hRf.2];exact wh _)
   have hH:HoldsK enc τ.size w (Γ.cur 0) 0 (Array.range n):=by
    intro j hj;rw[size_flatK,hrange]at hj;obtain⟨q1,q2,q3⟩:=qjy j τ.size n hj;have hjs:j<vs.size:=wv hj hns;constructor
    ·rw[get_flatK _ _ _ _ (by rw[hrange];exact hj)];have e1:(Array.range n)[j / τ.size]! = j / τ.size:=by rw[getElem!_pos _ _ (by rw[hrange];exact q1)];simp
     rw[e1,henc];show _=some ((JW vs τ.size (j / τ.size % n))[j % τ.size]!);rw[xB q1];have e2:(JW vs τ.size (j / τ.size))[j % τ.size]?=some vs[j]:=by rw[qke q3,q2];exact Array.getElem?_eq_getElem hjs
     rw[wy,Blk.cell hvs,List.getElem!_eq_getElem?_getD,e2,Array.getElem?_eq_getElem hjs];rfl
    ·exact Blk.free hvs _
   have hcmp:CmpLays P g #[] enc τ.size (qaK F l) (Γ.cur 0) 0 (Array.range n).size w:=by
    intro m os dk hdk x y;have B:=sort_blks hvsb enc τ.size m dk os;obtain⟨W,hW⟩:∃ W,W=sortWorldK enc τ.size w (Γ.cur 0) 0 m dk os:=⟨_,rfl⟩
    rw[<- hW]at B |-
    have hiW:Inv (bare Γ) emp W:=hi.bare (B.other 0 hi.zero_lt λ hb=>hi.tab.2.2 (by have:=hmem0 0;rw[<- hb]at this;exact this)) λ b o u e=>by
     have hne:b ≠ Γ.cur 0 := λ hb=>by rw[hb,hmem0]at e;cases e
     have hc:=(hi.mem b o u e).1;have hblt:=hi.mem_lt e;rw[show W.cell? _=w.cell? _ from World.cell?_of_block (B.other b hblt hne)];exact hc
    have rep:∀(i:Nat) (y:Val τ),l[i % n]?=some y->Rep (bare Γ) (zK τ y) (.agg (enc i).toArray) := λ i y hy=>by
     obtain⟨q1,q2⟩:=hER hy;rw[hag];have:enc i=JW vs τ.size (i % n):=by rw[henc]
     rw[this];refine .agg _ _ q1.len q2 λ j z u a b=>(q1.rep j z u a b).bare (qO τ y z (wc a))
    obtain⟨lx,hx⟩:=hlget x;obtain⟨ly,hy⟩:=hlget y;have hsome:=wo.1 (wo.1 v2 lx (wc hx)) ly (wc hy);obtain⟨c,hc⟩:=vN.1 hsome
    have hcf:qaK F l x y=c:=by
     unfold qaK;rw[<- hn,hx,hy];simp only;rw[hc];rfl
    rw[hcf];have hcall:=hF.2 hiW (rep x lx hx) (rep y ly hy) hc;refine Calls.mono (by simpa using hcall) ?_;rintro e w' ⟨rfl,hid⟩;exact⟨rfl,hid.grow⟩
   have hcall:=AnyQ.slices_SortFunc_eq L τ.size aE zE enc hek he1 (qaK F l) hO g #[] (Γ.cur 0) 0 cap (Array.range n) w (λ args w=>qeC hF.1 args w) hcmp hH hblk (by rw[hrange];omega);rw[hrange]at hcall;refine Calls.mono hcall ?_;rintro e w' ⟨rfl,m,os,hw'⟩;have B:=sort_blks hvsb enc τ.size m (pdq (ltOf (qaK F l)) (Array.range n) 0 n (Lib.bitLen n) true true) os;rw[<- hw']at B;have hix:qdQ F l=(pdq (ltOf (qaK F l)) (Array.range n) 0 n (Lib.bitLen n) true true).toList:=by unfold qdQ;rw[hn]
   obtain⟨dk,hdk⟩:∃ dk,dk=pdq (ltOf (qaK F l)) (Array.range n) 0 n (Lib.bitLen n) true true:=⟨_,rfl⟩
   rw[<- hdk]at B hix;have hdks:dk.size=n:=by rw[<- wK,<- hix,hixlen,hn]
   have hvlen:(v.map (qd τ)).length=n:=by rw[wx,hlen,hn]
   have hflat:(flatK enc τ.size dk).size=n * τ.size:=by rw[size_flatK,hdks]
   have hpsz:(putCells id 0 (flatK enc τ.size dk) vs).size=vs.size:=by unfold putCells;rw[vD]
   obtain⟨Γ',x1,x2,_⟩:=qpk hi hR (H.off hRf.2) (R':=⟨R.k,v.map (qd τ),R.ver,R.fz,R.off⟩) (by rw[hRf.1];exact wh _) rfl (g := Γ.cur 0) (vs:=putCells id 0 (flatK enc τ.size dk) vs) (e:=et) (.inr ⟨rfl,rfl,hpsz.trans hvsz⟩)
    (λ e he=>by obtain⟨y,_,rfl⟩:=wI.1 he;rw[zj,hRk]) (λ e he=>by obtain⟨y,_,rfl⟩:=wI.1 he;exact qO τ y) (by show R.fz<=_;rw[hRf.1];exact wh _) (qt9 _) (λ _=>rfl) B.hb
    (by show(v.map (qd τ)).length*R.k<=_;rw[hvlen,hRk,hpsz];exact hns)
    (λ off _=>hmem0 off)
    (λ i e j x he hx=>by
     have he:(v.map (qd τ))[i]?=some e:=he;have hin:i<n:=by rw[<- hvlen];exact getElem?_lt he
     rw[List.getElem?_map,v4,qob hixlt]at he;have hixi:(qdQ F l)[i]?=some dk[i]:=by rw[hix,Array.getElem?_toList];exact Array.getElem?_eq_getElem (by omega)
     rw[hixi]at he
     obtain⟨y,hy,rfl⟩:∃ y,l[dk[i]]?=some y/\qd τ y=e:=by
      cases hq:l[dk[i]]? with
      | none=>simp[hq]at he
      | some y=>simp[hq]at he;exact⟨y,rfl,he⟩
     have hdl:dk[i]<n:=wv (getElem?_lt hy) (vf hn.symm);obtain⟨q1,q2⟩:=hER hy;have hj:j < τ.size:=by rw[<- zj τ y];exact getElem?_lt hx
     obtain⟨u,hu,hrep⟩:=q1.get hx;refine⟨u,?_,hrep,q2 u (wc hu)⟩;rw[hRk]
     have hlt:i * τ.size+j<n * τ.size:=by
      have:(i+1) * τ.size<=n * τ.size:=wm _ hin;rw[kL]at this;omega
     unfold putCells;rw[Array.getElem?_mapIdx,Array.getElem?_eq_getElem (wv hlt hns),kr,if_pos ⟨wh _,by rw[hflat,wy];exact hlt⟩,Nat.sub_zero,id,get_flatK _ _ _ _ (by rw[hdks];exact hlt)];have e1:(i * τ.size+j) / τ.size=i:=by rw[xz,Nat.mul_add_div hsz0,Nat.div_eq_of_lt hj,wL]
     have e2:(i * τ.size+j) % τ.size=j:=by rw[xz,Nat.mul_add_mod,xB hj]
     rw[e1,e2,getElem!_pos dk i (by omega),henc];show some ((JW vs τ.size (dk[i] % n))[j]!)=_;rw[xB hdl,List.getElem!_eq_getElem?_getD,hu];rfl)
    (λ b o u hm=>by
     have hne:b ≠ Γ.cur 0 := λ hb=>by rw[hb,hmem0]at hm;cases hm
     rw[show w'.cell? _=w.cell? _ from World.cell?_of_block (B.other b (hi.mem_lt hm) hne)];exact(hi.mem b o u hm).1)
    (λ b hb hor=>B.other b hb (hor.elim id λ h0=>absurd h0 hz)) (.inl ⟨rfl,hz⟩) B.os B.tape B.output B.size B.drawn [0]
   refine⟨_,Γ',rfl,x1,?_,tup _,qkD⟩;refine x2.wr ?_ ?_
   ·exact hb0.symm
   ·show[(⟨R.k,v.map (qd τ),R.ver,R.fz,R.off⟩:Row)] = σ.rw.set 0 _;rw[hrw1];rfl
 ·have hrw0 : σ.rw=[]:=by rw[hnr]at hrw;exact we hrw.symm
  rw[hb0,hrw0]at hp;cases hp
  have hfin:∀(p:Option Addr) (cap:Nat),jW P Γ σ w (ρ.f 6) [.slice p 0 cap,.func (.func g) #[] #[]] (.tup [],none) := λ p cap=>by
   refine(none0 p cap).mono ?_;rintro e w' ⟨rfl,rfl⟩;exact⟨_,Γ,rfl,.refl _ _,hi,tup _,.refl _⟩
  rcases hy with rfl | ⟨f,rfl,hf2⟩
  ·have hu0:=qK hu0;subst hu0;exact hfin none 0
  ·cases hu0 with
   | sl _ _ _ a n cap b o us hn _ _ _ _ _ _ _ _ =>
     have hn:n=0:=hn;subst hn;exact hfin a cap
end Go.AmZ
namespace Go.Proofs.YtinbdcelmgfniaaGreatDoor
open Go Go.RowKit Go.GxZ Go.Sort Go.Proofs Go.Shelf Go.Lib
def zl(a:Nat->Nat->Bool)(n:Nat):List Nat:=(List.range n).filter λ i=>decide (i=0) || !a i (i-1)
theorem qwF{a:Nat->Nat->Bool}{n:Nat}(h:a n (n-1)=false):zl a (n+1)=zl a n++[n]:=by
 unfold zl;rw[List.range_succ,List.filter_append];simp[h]
theorem qnR{a:Nat->Nat->Bool}{n:Nat}(b:0<n)(h:a n (n-1)=true):zl a (n+1)=zl a n:=by
 unfold zl;rw[List.range_succ,List.filter_append];have:¬ n=0:=by omega
 simp[h,this]
theorem qqz{b:Nat->Nat->Bool}{n:Nat}(h:∀i,1<=i->i<n->b i (i-1)=false):zl b n=List.range n:=by
 unfold zl;rw[List.filter_eq_self];intro i a;have a:=kM.1 a;by_cases c:i=0
 .simp[c]
 .rw[h i (by omega) a];simp
theorem qwM{α:Type}[Inhabited α](enc:α->List Value)(k:Nat)(g:∀x,(enc x).length=k)(d:Array α)(i:Nat)(x:α)(h:i<d.size):setMany (flatK enc k d) (i*k) (enc x)=flatK enc k (d.setIfInBounds i x):=by
 refine ext_get! (by simp) λ t a=>?_;rw[size_setMany,size_flatK]at a;rw[get_setMany _ _ _ _ (by rw[size_flatK];exact a),g,get_flatK _ _ _ _ a,get_flatK _ _ _ _ (by simpa using a)]
 have b:0<k:=by
  obtain f|f:=xZ k
  .rw[f,Nat.mul_zero]at a;exact absurd a (wD _)
  .exact f
 by_cases c:i*k<=t/\t<i*k+k
 .rw[if_pos c];have e:=(blk_iff k i t b).1 c;rw[e,getElem!_set_same d i x h];congr 1;have:=xX t k;rw[e]at this;have l:k*i=i*k:=xz _ _;omega
 .rw[if_neg c,getElem!_set_other d i _ x λ j=>c ((blk_iff k i t b).2 j)]
theorem qBo{α : Type}[Inhabited α]{w:World}{enc : α -> List Value}{k blk:Nat}(hk:∀ x,(enc x).length=k)(m:Nat)(dk:Array α)(os:Array Obj)(hblk:blk<w.heap.size)(i:Nat)(x : α)(hi:i<dk.size) :
  (sortWorldK enc k w blk 0 m dk os).setCells blk (i*k) (enc x)=sortWorldK enc k w blk 0 m (dk.setIfInBounds i x) os:=by
 have hb:i*k+(enc x).length<=(flatK enc k dk).size:=by
  rw[hk,size_flatK];have:=wm k (show i+1<=dk.size from hi)
  rwa [kL]at this
 unfold sortWorldK;rw[setCells_grow os blk _ _ _ (by rw[size_putRowK];exact hblk)];congr 1;unfold putRowK;have:=setCells_putRow (Sort.ahead w m) blk 0 (enc x) (i*k) (flatK enc k dk) hb;rw[wy]at this;rw[this,qwM enc k hk dk i x hi]
variable {P:Program}
set_option maxHeartbeats 4000000 in
set_option maxRecDepth 1000000 in
theorem qBa(i:P.funcs[140]?=some Tryz.f140)(a:P.follows .mixedOrders=true)
  (t0:P.underlying 0=some (TypeDesc.tuple #[])) (y:∀w,(isAgg 0).run P w=.ok false w) (o:∀w,(Go.sizeOf 0).run P w=.ok 1 w) (s:∀w,(zeroValue 0).run P w=.ok (Value.tuple #[]) w)
  (u:P.underlying 3=some (TypeDesc.int IntKind.i64)) (x:∀w,(isAgg 3).run P w=.ok false w) (n:∀w,(Go.sizeOf 3).run P w=.ok 1 w) (r:∀w,(zeroValue 3).run P w=.ok (Value.int IntKind.i64 0) w)
  (t:P.underlying 4=some (TypeDesc.bool)) (v:∀w,(isAgg 4).run P w=.ok false w) (m:∀w,(Go.sizeOf 4).run P w=.ok 1 w) (q:∀w,(zeroValue 4).run P w=.ok (Value.bool false) w)
  (h:P.underlying 23=some (TypeDesc.slice 25)) (l:∀w,(isAgg 23).run P w=.ok false w) (c:∀w,(Go.sizeOf 23).run P w=.ok 1 w) (f:∀w,(zeroValue 23).run P w=.ok (Value.slice none 0 0) w)
  (g:P.underlying 29=some (TypeDesc.func #[25,25] #[4] false)) (k:∀w,(isAgg 29).run P w=.ok false w) (b:∀w,(Go.sizeOf 29).run P w=.ok 1 w) (d:∀w,(zeroValue 29).run P w=.ok (Value.nilFunc) w)
  (p:Option Addr) (cap:Nat) (j:Value) (w:World):
  Calls P 140 #[.slice p 0 cap,j] w λ e w'=>e=.returned (.slice p 0 cap)/\w'=w:=by
 go_enter i,Tryz.ntmps140
 go_wp2
 go_ret
 exact⟨rfl,rfl⟩
set_option maxHeartbeats 4000000 in
set_option maxRecDepth 1000000 in
theorem qAo(hF:P.funcs[140]?=some Tryz.f140)(mixed:P.follows .mixedOrders=true)
  (t0:P.underlying 0=some (TypeDesc.tuple #[])) (a0:∀ w,(isAgg 0).run P w = .ok false w) (z0:∀ w,(Go.sizeOf 0).run P w = .ok 1 w) (v0:∀ w,(zeroValue 0).run P w = .ok (Value.tuple #[]) w)
  (t3:P.underlying 3=some (TypeDesc.int IntKind.i64)) (a3:∀ w,(isAgg 3).run P w = .ok false w) (z3:∀ w,(Go.sizeOf 3).run P w = .ok 1 w) (v3:∀ w,(zeroValue 3).run P w = .ok (Value.int IntKind.i64 0) w)
  (t4:P.underlying 4=some (TypeDesc.bool)) (a4:∀ w,(isAgg 4).run P w = .ok false w) (z4:∀ w,(Go.sizeOf 4).run P w = .ok 1 w) (v4:∀ w,(zeroValue 4).run P w = .ok (Value.bool false) w)
  (t22:P.underlying 23=some (TypeDesc.slice 25)) (a22:∀ w,(isAgg 23).run P w = .ok false w) (z22:∀ w,(Go.sizeOf 23).run P w = .ok 1 w) (v22:∀ w,(zeroValue 23).run P w = .ok (Value.slice none 0 0) w)
  (t36:P.underlying 29=some (TypeDesc.func #[25,25] #[4] false)) (a36:∀ w,(isAgg 29).run P w = .ok false w) (z36:∀ w,(Go.sizeOf 29).run P w = .ok 1 w) (v36:∀ w,(zeroValue 29).run P w = .ok (Value.nilFunc) w)
  (k:Nat) (hk0:0<k) (aE:∀ w,(isAgg 25).run P w = .ok true w) (zE:∀ w,(Go.sizeOf 25).run P w = .ok k w) (zv:Value) (vE:∀ w,(zeroValue 25).run P w = .ok zv w) (hzk:zv.cells.size=k) (hz1:∀ n,∀ v∈(Builtin.zeroCells zv.cells n).toList,v.oneCell'=true)
  (w:World) (blk n cap:Nat) (et:TypeId) (vs:Array Value) (q:Nat) (hbk:w.heap[blk]?=some (.cells vs et (0,0))) (hcs:cap*k<=vs.size) (hnc:n<=cap) (hn:n<=100000) (h0n:0<n)
  (enc:Nat->List Value) (hk:∀ x,(enc x).length=k) (h1:∀ x,∀ v∈enc x,v.oneCell'=true) (hH:HoldsK enc k w blk 0 (Array.range n))
  (eg:∀ args w,(callFunc q args).run P w = .ok (.enter q args) w) (ef:Nat->Nat->Bool)
  (heq:∀(m:Nat) (os:Array Obj) (dk:Array Nat),dk.size=n->∀ x y,Calls P q #[.agg (enc x).toArray,.agg (enc y).toArray] (sortWorldK enc k w blk 0 m dk os) λ e w'=>e = .returned (.bool (ef x y))/\∃ q' os',w'=grow ((sortWorldK enc k w blk 0 m dk os).drewN q') os') :
  Calls P 140 #[.slice (some ⟨blk,0,none⟩) n cap,.func (.func q) #[] #[]] w λ e w'=>e = .returned (.slice (some ⟨blk,0,none⟩) (zl ef n).length cap) /\
   ∃(dk:Array Nat) (m:Nat) (os:Array Obj) (new:List Value),dk.size=n/\dk.toList.take (zl ef n).length=zl ef n/\(w'=sortWorldK enc k w blk 0 m dk os\/(new.take ((zl ef n).length*k)=(putCells id 0 (flatK enc k dk) vs).toList.take ((zl ef n).length*k)/\new.length=vs.size/\w'=(sortWorldK enc k w blk 0 m dk os).setRow blk new.toArray)):=by
 have u22:=run_underlying t22;have hblk:blk<w.heap.size:=(Array.getElem?_eq_some_iff.1 hbk).1;have hrs:(Array.range n).size=n:=vj;have HC:Aside _:=heq;have HST:Hid (w=sortWorldK enc k w blk 0 0 (Array.range n) #[]):=by show w=_;unfold sortWorldK;rw[grow_empty];exact(putRowK_self enc k w blk 0 _ hH).symm
 have HH:Hid (HoldsK enc k w blk 0 (Array.range n)):=hH;have HK:Hid (∀ x,(enc x).length=k):=hk;have H1:Hid (∀ x,∀ v∈enc x,v.oneCell'=true):=h1;have HBK:Hid (w.heap[blk]?=some (.cells vs et (0,0))):=hbk;have HVE:Aside _:=vE;have HZ1:Aside _:=hz1;have HZK:=Lib.hid hzk;have HCS:=Lib.hid hcs;clear heq hH hk h1 hbk vE hz1 hzk hcs;have hnz:(n:Int)<=100000:=by omega
 by_cases hn2:n<2
 ·have hn1:n=1:=by omega
  subst hn1;have hci:zl ef 1=[0]:=by unfold zl;simp
  have HCI:=Lib.hid hci;clear hci
  go_enter hF,Tryz.ntmps140
  go_wp2
  go_ret
  rw[HCI.out];exact⟨rfl,Array.range 1,0,#[],[],hrs,by simp,.inl HST.out⟩
 ·have hn2z:¬ ((n:Int)<2):=by omega
  go_enter hF,Tryz.ntmps140
  go_wp2
  go_loopg [5] n (λ g1 vi wr=>∃(i m:Nat) (os:Array Obj),vi = .int .i64 i/\1<=i/\i<=n/\n-i<=g1/\wr=sortWorldK enc k w blk 0 m (Array.range n) os/\Hid (∀ j,1<=j->j<i->ef j (j-1)=false))
  case atStart=>exact⟨1,0,#[],rfl,wa _,by omega,by omega,HST.out,λ j h1 h2=>by omega⟩
  case round =>
   obtain⟨i,m,os,rfl,hi1,hin,hg1,rfl,HE⟩:=hrel;by_cases hlt:i<n
   ·have hltz:(i:Int)<(n:Int):=by omega
    obtain⟨ip,rfl⟩:∃ ip,i=ip+1:=⟨i-1,by omega⟩
    have hwp:IntKind.i64.wrap (ip:Int)=(ip:Int):=by rw[IntKind.wrap_i64];omega
    have jz1:(ip:Int)<(n:Int):=by omega
    have p0:(0:Int)<=(ip:Int)+1:=by omega
    have e0:((ip:Int)+1).toNat=ip+1:=by omega
    have r1:(Array.range n)[ip+1]! = ip+1:=by rw[getElem!_pos _ _ (by rw[hrs];exact hlt)];simp
    have r0:(Array.range n)[ip]! = ip:=by rw[getElem!_pos _ _ (by rw[hrs];omega)];simp
    have hcls:∀ n' os',grow ((sortWorldK enc k w blk 0 m (Array.range n) os).drewN n') os'=sortWorldK enc k w blk 0 (m+n') (Array.range n) (os++os') := λ n' os'=>sortWorldK_grown_c enc k w blk 0 m n' _ os os';have hHc:∀ n' os',HoldsK enc k (grow ((sortWorldK enc k w blk 0 m (Array.range n) os).drewN n') os') blk 0 (Array.range n) := λ n' os'=>by rw[hcls];exact holdsK_sortWorldK_c enc k w blk 0 _ _ _ _ HH.out hblk rfl
    have lj:∀ n' os',Sem.run P (loadCellsFrom ⟨blk,(ip+1)*k,none⟩ 0 k #[]) (grow ((sortWorldK enc k w blk 0 m (Array.range n) os).drewN n') os') = .ok (enc (ip+1)).toArray (grow ((sortWorldK enc k w blk 0 m (Array.range n) os).drewN n') os') := λ n' os'=>by
     have:=HoldsK.cells (hHc n' os') HK.out (i:=ip+1) (by rw[hrs];exact hlt);rw[r1,wy]at this;exact run_loadCellsFrom_list P _ _ _ k (HK.out _) this
    have lp:∀ n' os',Sem.run P (loadCellsFrom ⟨blk,ip*k,none⟩ 0 k #[]) (grow ((sortWorldK enc k w blk 0 m (Array.range n) os).drewN n') os') = .ok (enc ip).toArray (grow ((sortWorldK enc k w blk 0 m (Array.range n) os).drewN n') os') := λ n' os'=>by
     have:=HoldsK.cells (hHc n' os') HK.out (i:=ip) (by rw[hrs];omega);rw[r0,wy]at this;exact run_loadCellsFrom_list P _ _ _ k (HK.out _) this
    have hcg:∀ n' os',Calls P q #[.agg (enc (ip+1)).toArray,.agg (enc ip).toArray] (grow ((sortWorldK enc k w blk 0 m (Array.range n) os).drewN n') os') λ e w'=>e = .returned (.bool (ef (ip+1) ip))/\∃ q os'',w'=grow ((grow ((sortWorldK enc k w blk 0 m (Array.range n) os).drewN n') os').drewN q) os'' := λ n' os'=>by
     rw[hcls];exact HC.out _ _ _ hrs (ip+1) ip
    have CLS:Hid _:=hcls;clear hcls hHc r0 r1;generalize hwq:sortWorldK enc k w blk 0 m (Array.range n) os=wq at lj lp hcg CLS |-
    cases hev:ef (ip+1) ip with
    | false =>
      rw[hev]at hcg
      go_wp2_with fail
      go_quiet_grown (first | (go_at_fn q;refine Calls.grown_of (hcg _ _)))
      go_wp2
      go_roundg (n-(ip+2))
      case measure=>omega
      case rel =>
       refine⟨ip+2,_,_,by go_num,by omega,by omega,by omega,CLS.out nq osq,(show Hid _ from λ j h1 h2=>?_)⟩;by_cases hj:j=ip+1
       ·rw[hj];exact hev
       ·exact HE.out j h1 (by omega)
    | true =>
      rw[hev]at hcg
      go_wp2_with fail
      go_quiet_grown (first | (go_at_fn q;refine Calls.grown_of (hcg _ _)))
      have hcap1:¬ (cap=ip+1):=by omega
      have hcap2:(ip:Int)+1<=(cap:Int):=by omega
      go_wp2
      go_loopg [5,7] n (λ g2 v5 v7 wr2=>∃(b kk m2:Nat) (dk:Array Nat) (os2:Array Obj),v5 = .int .i64 kk/\v7 = .int .i64 b/\1<=b/\ip+1+b<=n/\n-b<=g2/\kk<=ip+b/\dk.size=n/\wr2=sortWorldK enc k w blk 0 m2 dk os2/\Hid (dk.toList.take kk=zl ef (ip+1+b))/\Hid (kk=(zl ef (ip+1+b)).length)/\Hid (∀ j,ip+b<=j->j<n->dk[j]! = j))
      case atStart =>
       have e1:zl ef (ip+1)=List.range (ip+1):=qqz λ j h1 h2=>HE.out j h1 h2;have e2:zl ef (ip+1+1)=List.range (ip+1):=by rw[qnR (by omega) (by simpa using hev),e1]
       refine⟨1,ip+1,_,Array.range n,_,by go_num,rfl,wa _,by omega,by omega,by omega,hrs,CLS.out nq osq,?_,?_,?_⟩
       ·show _=_;rw[e2,Array.toList_range,List.take_range,kh (by omega)]
       ·show _=_;rw[e2,xK]
       ·intro j _ h2;rw[getElem!_pos _ _ (by rw[hrs];exact h2)];simp
      case round =>
       obtain⟨b,kk,m2,dk,os2,rfl,rfl,hb1,hbn,hg2,hkk,hdk,rfl,HT,HL,HD⟩:=hrel;by_cases hlt2:ip+1+b<n
       ·obtain⟨bp,rfl⟩:∃ bp,b=bp+1:=⟨b-1,by omega⟩
        have hltz2:(bp:Int)+1<((n-(ip+1):Nat):Int):=by omega
        have hltz3:(bp:Int)<((n-(ip+1):Nat):Int):=by omega
        have hwp2:IntKind.i64.wrap (bp:Int)=(bp:Int):=by rw[IntKind.wrap_i64];omega
        have p2:(0:Int)<=(bp:Int)+1:=by omega
        have e2:((bp:Int)+1).toNat=bp+1:=by omega
        have hkn:(kk:Int)<(n:Int):=by omega
        obtain⟨ax,hax⟩:∃ ax,ax=ip+1+(bp+1):=⟨_,rfl⟩
        have hac:(ip+1)*k+(bp+1)*k=ax*k:=by rw[hax,wS (ip+1)]
        have hap:(ip+1)*k+bp*k=(ax-1)*k:=by rw[<- wS];congr 1;omega
        have r1:dk[ax]! = ax:=HD.out ax (by omega) (by omega);have r0:dk[ax-1]! = ax-1:=HD.out (ax-1) (by omega) (by omega);have hcls:∀ n' os',grow ((sortWorldK enc k w blk 0 m2 dk os2).drewN n') os'=sortWorldK enc k w blk 0 (m2+n') dk (os2++os') := λ n' os'=>sortWorldK_grown_c enc k w blk 0 m2 n' dk os2 os';have hHc:∀ n' os',HoldsK enc k (grow ((sortWorldK enc k w blk 0 m2 dk os2).drewN n') os') blk 0 dk := λ n' os'=>by rw[hcls];exact holdsK_sortWorldK_c enc k w blk 0 (Array.range n) dk _ _ HH.out hblk (by rw[hdk,hrs])
        have lj:∀ n' os',Sem.run P (loadCellsFrom ⟨blk,(ip+1)*k+(bp+1)*k,none⟩ 0 k #[]) (grow ((sortWorldK enc k w blk 0 m2 dk os2).drewN n') os') = .ok (enc ax).toArray (grow ((sortWorldK enc k w blk 0 m2 dk os2).drewN n') os') := λ n' os'=>by
         have:=HoldsK.cells (hHc n' os') HK.out (i:=ax) (by rw[hdk];omega);rw[r1,wy,<- hac]at this;exact run_loadCellsFrom_list P _ _ _ k (HK.out _) this
        have lp:∀ n' os',Sem.run P (loadCellsFrom ⟨blk,(ip+1)*k+bp*k,none⟩ 0 k #[]) (grow ((sortWorldK enc k w blk 0 m2 dk os2).drewN n') os') = .ok (enc (ax-1)).toArray (grow ((sortWorldK enc k w blk 0 m2 dk os2).drewN n') os') := λ n' os'=>by
         have:=HoldsK.cells (hHc n' os') HK.out (i:=ax-1) (by rw[hdk];omega);rw[r0,wy,<- hap]at this;exact run_loadCellsFrom_list P _ _ _ k (HK.out _) this
        have hcg:∀ n' os',Calls P q #[.agg (enc ax).toArray,.agg (enc (ax-1)).toArray] (grow ((sortWorldK enc k w blk 0 m2 dk os2).drewN n') os') λ e w'=>e = .returned (.bool (ef ax (ax-1)))/\∃ q os'',w'=grow ((grow ((sortWorldK enc k w blk 0 m2 dk os2).drewN n') os').drewN q) os'' := λ n' os'=>by
         rw[hcls];exact HC.out _ _ _ hdk ax (ax-1)
        have CLS2:Hid _:=hcls;have HHC:Hid _:=hHc;have HAC:=Lib.hid hac;clear hcls hHc hap hac;generalize hwq2:sortWorldK enc k w blk 0 m2 dk os2=wq2 at lj lp hcg CLS2 HHC |-
        have hlA:(enc ax).length=k:=HK.out _;have hA1:∀ v∈enc ax,v.oneCell'=true:=H1.out _;obtain⟨cA,hcA⟩:∃ c,c=enc ax:=⟨_,rfl⟩
        obtain⟨cP,hcP⟩:∃ c,c=enc (ax-1):=⟨_,rfl⟩
        rw[<- hcA]at lj hcg hlA hA1;rw[<- hcP]at lp hcg;have HCA:=Lib.hid hcA;clear hcA hcP;have hT:=HT.out;have hL:=HL.out;rw[show ip+1+(bp+1)=ax from hax.symm]at hT hL;have HAX:=Lib.hid hax;have hax1:0<ax:=by omega
        have hax3:ax<n:=by omega
        clear hax r0 r1;cases hev2:ef ax (ax-1)with
        | true =>
          have hcd:zl ef (ax+1)=zl ef ax:=qnR hax1 hev2;have HT2:Hid (dk.toList.take kk=zl ef (ax+1)):=by show _=_;rw[hcd];exact hT
          have HL2:Hid (kk=(zl ef (ax+1)).length):=by show _=_;rw[hcd];exact hL
          clear hT hL hcd;rw[hev2]at hcg
          go_wp2_with fail
          go_quiet_grown (first | (go_at_fn q;refine Calls.grown_of (hcg _ _)))
          go_wp2
          go_roundg (n-(bp+2))
          case measure=>omega
          case rel =>
           have hax2:ip+1+(bp+2)=ax+1:=by have:=HAX.out;omega
           refine⟨bp+2,kk,_,dk,_,rfl,by go_num,by omega,by omega,by omega,by omega,hdk,CLS2.out nq osq,?_,?_,(show Hid _ from λ j h1 h2=>HD.out j (by omega) h2)⟩
           ·show _=_;rw[hax2];exact HT2.out
           ·show _=_;rw[hax2];exact HL2.out
        | false =>
          have hcd:zl ef (ax+1)=zl ef ax++[ax]:=qwF hev2;have hdl:kk<dk.toList.length:=by rw[wK,hdk];omega
          have HT2:Hid ((dk.setIfInBounds kk ax).toList.take (kk+1)=zl ef (ax+1)):=by
           show _=_;rw[hcd,<- hT,xi,xJ,vq (wa _),List.getElem?_set_self hdl];rfl
          have HL2:Hid (kk+1=(zl ef (ax+1)).length):=by show _=_;rw[hcd,wd,<- hL];rfl
          clear hT hL hcd;rw[hev2]at hcg
          go_wp2_with fail
          go_quiet_grown (first | (go_at_fn q;refine Calls.grown_of (hcg _ _)))
          have hw2:grow (wq2.drewN nq) osq=sortWorldK enc k w blk 0 (m2+nq) dk (os2++osq):=CLS2.out nq osq;have lj2:=lj nq osq;have hHd:=HHC.out nq osq;clear lj lp hcg;generalize grow (wq2.drewN nq) osq=wq3 at hw2 hHd lj2 |-
          have hbd:kk*k+cA.length<=(flatK enc k dk).size:=by
           rw[hlA,size_flatK];have:=wm k (show kk+1<=dk.size by omega)
           rwa [kL]at this
          have s1:Sem.run P (storeCells ⟨blk,kk*k,none⟩ cA 0) wq3 = .ok () (wq3.setCells blk (kk*k) cA):=by
           have:=stores_of_holds P hHd (kk*k) cA hbd hA1
           rwa [wy]at this
          have HW3:Hid (wq3.setCells blk (kk*k) cA=sortWorldK enc k w blk 0 (m2+nq) (dk.setIfInBounds kk ax) (os2++osq)):=by
           show _=_;rw[hw2,HCA.out];exact qBo HK.out (m2+nq) dk (os2++osq) hblk kk ax (by omega)
          clear hw2 hHd hbd
          go_wp2
          go_roundg (n-(bp+2))
          case measure=>omega
          case rel =>
           have hax2:ip+1+(bp+2)=ax+1:=by have:=HAX.out;omega
           refine⟨bp+2,kk+1,_,dk.setIfInBounds kk ax,_,by go_num,by go_num,by omega,by omega,by omega,by omega,by simpa using hdk,HW3.out,?_,?_,(show Hid _ from λ j h1 h2=>?_)⟩
           ·show _=_;rw[hax2];exact HT2.out
           ·show _=_;rw[hax2];exact HL2.out
           ·rw[getElem!_set_other _ _ _ _ (by omega)];exact HD.out j (by omega) h2
       ·obtain rfl:n=ip+1+b:=by omega
        have hW:=(Go.AmZ.sort_blks HBK.out enc k m2 dk os2).hb;have hpsz:(putCells id 0 (flatK enc k dk) vs).size=vs.size:=by unfold putCells;rw[vD]
        have hzl:(Builtin.zeroCells zv.cells (ip+1+b-kk)).toList.length=(ip+1+b-kk)*k:=by rw[wK,size_zeroCells,HZK.out]
        have hsum:kk*k+(ip+1+b-kk)*k=(ip+1+b)*k:=by rw[<- wS];congr 1;omega
        have hle:(ip+1+b)*k<=vs.size:=wC (wm _ hnc) HCS.out;obtain⟨new,hnew⟩:∃ new,new=(putCells id 0 (flatK enc k dk) vs).toList.take (kk*k)++(Builtin.zeroCells zv.cells (ip+1+b-kk)).toList++(putCells id 0 (flatK enc k dk) vs).toList.drop (kk*k+(Builtin.zeroCells zv.cells (ip+1+b-kk)).toList.length):=⟨_,rfl⟩
        have hcl:∀ ty,(Builtin.clear_ #[23] ty #[.slice (some ⟨blk,kk*k,none⟩) (ip+1+b-kk) (cap-kk)]).run P (sortWorldK enc k w blk 0 m2 dk os2) = .ok (.tuple #[]) ((sortWorldK enc k w blk 0 m2 dk os2).setRow blk new.toArray) := λ ty=>by
         rw[hnew];exact qqo _ 23 25 ty zv t22 HVE.out blk (kk*k) (ip+1+b-kk) (cap-kk) (by omega) _ et hW (by rw[hpsz,HZK.out];omega) (HZ1.out _)
        have HN1:Hid (new.take (kk*k)=(putCells id 0 (flatK enc k dk) vs).toList.take (kk*k)):=by
         show _=_;rw[hnew,wk,kH (by rw[wu,wK,hpsz];omega),xy,Nat.min_self]
        have HN2:Hid (new.length=vs.size):=by
         show _=_;rw[hnew];rw[wK]at hzl;simp only[wd,wu,wR,wK,hpsz,hzl];omega
        have hkc:¬ (cap=kk):=by omega
        have hkc2:(kk:Int)<=(cap:Int):=by omega
        have hkn:(kk:Int)<=((ip+1+b:Nat):Int):=by omega
        clear hW hpsz hzl hsum hle hnew;have HW:Hid _:=(⟨dk,m2,os2,rfl⟩:∃(d:Array Nat) (m:Nat) (os:Array Obj),sortWorldK enc k w blk 0 m2 dk os2=sortWorldK enc k w blk 0 m d os)
        generalize hwq2:sortWorldK enc k w blk 0 m2 dk os2=wq2 at hcl |-
        have HWQ:=Lib.hid hwq2;clear hwq2 HW;have HDK:=Lib.hid hdk
        go_wp2_with (simp only[hcl])
        go_ret
        have hL:=HL.out;rw[<- hL];exact⟨rfl,dk,m2,os2,new,HDK.out,HT.out,.inr ⟨HN1.out,HN2.out,by rw[HWQ.out]⟩⟩
   ·obtain rfl:i=n:=by omega
    have hci:zl ef i=List.range i:=qqz λ j h1 h2=>HE.out j h1 h2;have HCI:=Lib.hid hci;clear hci
    go_wp2
    go_ret
    rw[HCI.out,xK];exact⟨rfl,Array.range i,_,_,[],hrs,by simp,.inl rfl⟩
end Go.Proofs.YtinbdcelmgfniaaGreatDoor
namespace Go.AmZ
open Go Go.RowKit Go.GxZ Go.Sort Go.Proofs Go.Shelf Go.Proofs.YtinbdcelmgfniaaGreatDoor
def qpj{α:Type}(F:α->α->Option Bool)(l:List α)(i j:Nat):Bool:=match l[i%l.length]?,l[j%l.length]? with
 |some x,some y=>(F x y).getD false
 |_,_=>false
def qyU{α:Type}(F:α->α->Option Bool):List α->Option (List α)
 |[]=>some []
 |x::l=>cond (Nat.ble (x::l).length 100000&&qe3 F (x::l)) (some (pick (x::l) (zl (qpj F (x::l)) (x::l).length))) none
def qze{α:Type}(F:α->α->Option Bool)(l:List α):Option (Unit×List α×Unit):=match qyU F l with
 |some a=>some ((),a,())
 |none=>none
theorem qzi{α:Type}{F:α->α->Option Bool}{l:List α}{r:Unit×List α×Unit}(h:qze F l=some r):∃a,qyU F l=some a/\r=((),a,()):=by
 unfold qze at h;split at h
 .cases h;exact⟨_,‹_›,rfl⟩
 .cases h
theorem qs3{P:Program}{f:FuncId}{g:qmI}(e:qc6 P f)(h:∀a,g.fn a=none):qw P f (mgP g):=by
 refine⟨e,λ Γ σ w d c r j i b=>?_⟩;unfold mgP at b;split at b
 .rw[h]at b;cases b
 .cases b
theorem qAh{b:Nat->Nat->Bool}{n:Nat}:∀i∈zl b n,i<n:=λ i a=>kM.1 (kE.1 a).1
theorem qlv{enc:Nat->List Value}{k:Nat}(a:∀x,(enc x).length=k):∀(l:List Nat) (i j:Nat),j<k->(l.flatMap enc)[i*k+j]?=(l[i]?).bind λ x=>(enc x)[j]?
 |[],i,j,_=>by simp
 |x::l,0,j,b=>by
   rw[k8,ko,wy,List.getElem?_append_left (by rw[a];exact b)];rfl
 |x::l,i+1,j,b=>by
   rw[k8,List.getElem?_append_right (by rw[a,kL];omega),a];have:(i+1)*k+j-k=i*k+j:=by rw[kL];omega
   rw[this];exact qlv a l i j b
theorem qsE{enc:Nat->List Value}{k:Nat}(a:∀x,(enc x).length=k):∀l:List Nat,(l.flatMap enc).length=l.length*k
 |[]=>by simp
 |x::l=>by rw[k8,wd,a,qsE a l,wB,kL,wad]
theorem qqJ{b:Type}{f:List AV->Option b}{es:List (List AV)}{l:List b}(h:qH f es=some l):∀{a:List Nat},(∀i∈a,i<l.length)->qH f (pick es a)=some (pick l a)
 |[],_=>rfl
 |i::a,d=>by
   have e:=d i (ww ..);have n:=qE h
   have e1:pick es (i::a)=es[i]'(by omega)::pick es a:=by
    unfold pick;rw[xW,List.getElem?_eq_getElem (by omega)]
   have m:pick l (i::a)=l[i]::pick l a:=by
    unfold pick;rw[xW,List.getElem?_eq_getElem e]
   let⟨v,c,k⟩:=Qw h (List.getElem?_eq_getElem (show i<es.length by omega));rw[List.getElem?_eq_getElem e]at c;cases c;rw[e1,m];exact zY.2 ⟨_,_,k,qqJ h λ j g=>d j (wj _ g),rfl⟩
theorem qCd(n:Nat):∀v∈(Builtin.zeroCells (Value.cells (.agg #[.int .i64 0,.string ⟨#[]⟩,.int .i64 0,.slice none 0 0])) n).toList,v.oneCell'=true:=by
 intro v a;unfold Builtin.zeroCells at a;rw[Array.mem_toList_iff]at a;obtain⟨i,_,rfl⟩:=Array.mem_map.1 a;have c:(Value.cells (.agg #[.int .i64 0,.string ⟨#[]⟩,.int .i64 0,.slice none 0 0])).size=4:=rfl;rw[c];have b:i%4<4:=xP _ (by decide);generalize i%4=r at b
 match r,b with
 |0,_|1,_|2,_|3,_=>rfl
set_option maxHeartbeats 1000000 in
theorem qwk{g:FuncId}{F:T->T->Option Bool}(hF:Fn2 Go.Proofs.Tryz.prog g .term (λ b:Bool => .bool b) F){fn:List T->Option (Unit × List T × Unit)}(hfn:∀ l r,fn l=some r->∃ l',qyU F l=some l'/\r=((),l',())) :
  qw Go.Proofs.Tryz.prog 140 (sgP ⟨[.row .term,.clo g 0],[.one (.row .term)],λ x=>fn x.1⟩):=by
 have c0 := λ p cap fv w=>qBa (P:=Go.Proofs.Tryz.prog) Go.Proofs.Tryz.func140 (by kernel_rfl) Go.Proofs.Tryz.underlying0 Go.Proofs.Tryz.isAgg0 Go.Proofs.Tryz.sizeOf0 Go.Proofs.Tryz.zeroValue0 Go.Proofs.Tryz.underlying3 Go.Proofs.Tryz.isAgg3 Go.Proofs.Tryz.sizeOf3 Go.Proofs.Tryz.zeroValue3 Go.Proofs.Tryz.underlying4 Go.Proofs.Tryz.isAgg4 Go.Proofs.Tryz.sizeOf4 Go.Proofs.Tryz.zeroValue4 Go.Proofs.Tryz.underlying23 Go.Proofs.Tryz.isAgg23 Go.Proofs.Tryz.sizeOf23 Go.Proofs.Tryz.zeroValue23 Go.Proofs.Tryz.underlying29 Go.Proofs.Tryz.isAgg29 Go.Proofs.Tryz.sizeOf29 Go.Proofs.Tryz.zeroValue29 p cap fv w
 have cP := λ w blk n cap et vs h1 h2 h3 h4 h5 enc h6 h7 h8 ef h9=>qAo (P:=Go.Proofs.Tryz.prog) Go.Proofs.Tryz.func140 (by kernel_rfl) Go.Proofs.Tryz.underlying0 Go.Proofs.Tryz.isAgg0 Go.Proofs.Tryz.sizeOf0 Go.Proofs.Tryz.zeroValue0 Go.Proofs.Tryz.underlying3 Go.Proofs.Tryz.isAgg3 Go.Proofs.Tryz.sizeOf3 Go.Proofs.Tryz.zeroValue3 Go.Proofs.Tryz.underlying4 Go.Proofs.Tryz.isAgg4 Go.Proofs.Tryz.sizeOf4 Go.Proofs.Tryz.zeroValue4 Go.Proofs.Tryz.underlying23 Go.Proofs.Tryz.isAgg23 Go.Proofs.Tryz.sizeOf23 Go.Proofs.Tryz.zeroValue23 Go.Proofs.Tryz.underlying29 Go.Proofs.Tryz.isAgg29 Go.Proofs.Tryz.sizeOf29 Go.Proofs.Tryz.zeroValue29
  4 (by decide) Go.Proofs.Tryz.isAgg25 Go.Proofs.Tryz.sizeOf25 _ Go.Proofs.Tryz.zeroValue25 rfl qCd w blk n cap et vs g h1 h2 h3 h4 h5 enc h6 h7 h8 (λ args w=>qeC hF.1 args w) ef h9
 have hag:∀ v:T,zK .term v = .agg (qd .term v) := λ _=>rfl;refine⟨ji Go.Proofs.Tryz.func140 (by kernel_rfl),λ Γ σ w args vals r hi hr hp=>?_⟩;unfold sgP at hp;split at hp<;>try cases hp
 rename_i x hx;split at hp<;>cases hp;rename_i v0 hv0;obtain⟨l,_⟩:=x;obtain⟨l',hl',rfl⟩:=hfn _ _ hv0;obtain⟨y0,ys0,nr,rfl,hy0,hx1⟩:=qqD hx;obtain⟨ys1,rfl,hx2⟩:=qxI (g:=g) (r:=[]) hx1;obtain⟨rfl,hbx,hrw⟩:=qgV hx2;clear hx hx1 hx2 hv0 hfn;obtain⟨u0,r0,rfl,hu0,hr⟩:=hr.uncons;obtain⟨u1,r1,rfl,hu1,hr⟩:=hr.uncons;have:=hr.nil_inv;subst this
 have hu1:u1 = .func (.func g) #[] #[]:=by
  cases hu1 with
  | fn _ _ us hn _=>obtain rfl:=we hn;rfl
 subst hu1;have hb0 : σ.bx=[]:=we hbx.symm
 have nil0:∀(p:Option Addr),l'=[]->jW Go.Proofs.Tryz.prog Γ σ w 140 [.slice p 0 0,.func (.func g) #[] #[]] (qX (QC [.one (.row .term)] σ.rw.length (l',())),some ⟨[],σ.rw.map jG++jT [.one (.row .term)] (l',()),List.range σ.bx.length,List.range σ.rw.length⟩) := λ p hl=>by
  subst hl;refine(c0 p 0 _ w).mono ?_;rintro e w' ⟨rfl,rfl⟩;obtain⟨Γ2,z1,z2,z3,z4⟩:=qEn (a := .term) hi (.refl _ _) hi hb0 p;exact⟨_,Γ2,rfl,z1,z2,z3,z4⟩
 rcases qd8 hy0 with⟨hnr,R,rfl,hR,hRk,hRf,hRd⟩ | ⟨hnr,hl0,hy⟩
 ·have H:=hi.row 0 R hR;have hcl:R.c.length=l.length:=qE hRd;have hlk:∀ e∈R.c,e.length=Ty.size .term := λ e he=>(H.len e he).trans hRk;obtain⟨p,cap,rfl,hcap,hrm⟩:=qrq hi hR hRk hRf hu0;rcases hrm with h0 | ⟨rfl,hz,vs,et,hvs,hvsz,hfit,hca,hxl,h1⟩
  ·have hl0:l=[]:=we (by omega);have hl2:l'=[]:=by rw[hl0]at hl';cases hl';rfl
   have hrc:R.c.length=0:=by omega
   rw[hrc,h0];exact nil0 p hl2
  ·by_cases hl0:l=[]
   ·have hl2:l'=[]:=by rw[hl0]at hl';cases hl';rfl
    have hrc:R.c.length=0:=by rw[hcl,hl0];rfl
    rw[hrc];subst hl2;refine qfW (a := .term) hi hb0 hR hRk hRf.1 hRf.2 hz (l:=[]) (c:=[]) (xs:=[]) (n:=0) rfl rfl (by intro e he;cases he) (by intro e he;cases he) (λ i e j x h=>by cases h) ?_;refine(c0 _ cap _ w).mono ?_;rintro e w' ⟨rfl,rfl⟩;exact⟨Γ.cur 0,cap,vs,et,rfl,hvs,wh _,hfit,by rw[ko];rfl,.inl ⟨rfl,hvsz⟩,rfl,rfl,rfl,wa _,wa _,λ _ _ _=>rfl⟩
   ·have hlpos:0<l.length:=xE.2 hl0;obtain⟨n,hn⟩:∃ n,n=l.length:=⟨_,rfl⟩
    have hnc:R.c.length=n:=hcl.trans hn.symm;rw[hnc]at hca hxl h1 hcap |-
    have hns:n*Ty.size .term<=vs.size:=wC (wm _ hcap) hfit
    have hv':Nat.ble l.length 100000=true/\qe3 F l=true/\l'=pick l (zl (qpj F l) l.length):=by
     cases l with
     | nil=>exact absurd rfl hl0
     | cons y l =>
       replace hl':cond _ _ _=some l':=hl'
       cases hb:(Nat.ble (y::l).length 100000&&qe3 F (y::l))with
       | false =>
         replace hl':cond (Nat.ble (y::l).length 100000&&qe3 F (y::l)) _ _=some l':=hl'
         rw[hb]at hl';cases hl'
       | true =>
         replace hl':cond (Nat.ble (y::l).length 100000&&qe3 F (y::l)) _ _=some l':=hl'
         have hb':=hb;rw[wb]at hb';rw[hb]at hl';cases hl';exact⟨hb'.1,hb'.2,rfl⟩
    obtain⟨v1,v2,v4⟩:=hv';have v1:l.length<=100000:=wY v1;have hER:∀{q:Nat} {y:T},l[q]?=some y->RepL Γ (qd .term y) (JW vs (Ty.size .term) q)/\∀ u∈JW vs (Ty.size .term) q,u.oneCell'=true := λ hq=>quQ hnc hlk hRd hca hns hq;have hlast:∀ i,i % n<n := λ i=>xP _ (by omega);obtain⟨enc,henc⟩:∃ enc:Nat->List Value,enc = λ i=>JW vs (Ty.size .term) (i % n):=⟨_,rfl⟩
    have hek:∀ i,(enc i).length=Ty.size .term := λ i=>by rw[henc];exact qoG (hlast i) hns
    have hlget:∀ i,∃ y,l[i % n]?=some y := λ i=>⟨_,List.getElem?_eq_getElem (by rw[<- hn];exact hlast i)⟩
    have he1:∀ i,∀ u∈enc i,u.oneCell'=true := λ i u hu=>by
     rw[henc]at hu;obtain⟨y,hy⟩:=hlget i;exact(hER hy).2 u hu
    have hrange:(Array.range n).size=n:=vj;have hvsb:w.heap[Γ.cur 0]?=some (.cells vs et (0,0)):=hvs;have hmem0:∀ off,Γ.mem (Γ.cur 0) off=none := λ off=>H.un hz off (by rw[hRf.1,ko,H.off hRf.2];exact wh _)
    have hH:HoldsK enc (Ty.size .term) w (Γ.cur 0) 0 (Array.range n):=by
     intro j hj;rw[size_flatK,hrange]at hj;obtain⟨q1,q2,q3⟩:=qjy j (Ty.size .term) n hj;have hjs:j<vs.size:=wv hj hns;constructor
     ·rw[get_flatK _ _ _ _ (by rw[hrange];exact hj)];have e1:(Array.range n)[j / (Ty.size .term)]! = j / (Ty.size .term):=by rw[getElem!_pos _ _ (by rw[hrange];exact q1)];simp
      rw[e1,henc];show _=some ((JW vs (Ty.size .term) (j / (Ty.size .term) % n))[j % (Ty.size .term)]!);rw[xB q1];have e2:(JW vs (Ty.size .term) (j / (Ty.size .term)))[j % (Ty.size .term)]?=some vs[j]:=by rw[qke q3,q2];exact Array.getElem?_eq_getElem hjs
      rw[wy,Blk.cell hvs,List.getElem!_eq_getElem?_getD,e2,Array.getElem?_eq_getElem hjs];rfl
     ·exact Blk.free hvs _
    have heq:∀(m:Nat) (os:Array Obj) (dk:Array Nat),dk.size=n->∀ x y,Calls Go.Proofs.Tryz.prog g #[.agg (enc x).toArray,.agg (enc y).toArray] (sortWorldK enc (Ty.size .term) w (Γ.cur 0) 0 m dk os) λ e w'=>e = .returned (.bool (qpj F l x y))/\∃ q' os',w'=grow ((sortWorldK enc (Ty.size .term) w (Γ.cur 0) 0 m dk os).drewN q') os':=by
     intro m os dk hdk x y;have B:=sort_blks hvsb enc (Ty.size .term) m dk os;obtain⟨W,hW⟩:∃ W,W=sortWorldK enc (Ty.size .term) w (Γ.cur 0) 0 m dk os:=⟨_,rfl⟩
     rw[<- hW]at B |-
     have hiW:Inv (bare Γ) emp W:=hi.bare (B.other 0 hi.zero_lt λ hb=>hi.tab.2.2 (by have:=hmem0 0;rw[<- hb]at this;exact this)) λ b o u e=>by
      have hne:b ≠ Γ.cur 0 := λ hb=>by rw[hb,hmem0]at e;cases e
      have hc:=(hi.mem b o u e).1;have hblt:=hi.mem_lt e;rw[show W.cell? _=w.cell? _ from World.cell?_of_block (B.other b hblt hne)];exact hc
     have rep:∀(i:Nat) (y:T),l[i % n]?=some y->Rep (bare Γ) (zK .term y) (.agg (enc i).toArray) := λ i y hy=>by
      obtain⟨q1,q2⟩:=hER hy;rw[hag];have:enc i=JW vs (Ty.size .term) (i % n):=by rw[henc]
      rw[this];refine .agg _ _ q1.len q2 λ j z u a b=>(q1.rep j z u a b).bare (qO .term y z (wc a))
     obtain⟨lx,hx⟩:=hlget x;obtain⟨ly,hy⟩:=hlget y;have hsome:=wo.1 (wo.1 v2 lx (wc hx)) ly (wc hy);obtain⟨c,hc⟩:=vN.1 hsome
     have hcf:qpj F l x y=c:=by
      unfold qpj;rw[<- hn,hx,hy];simp only;rw[hc];rfl
     rw[hcf];have hcall:=hF.2 hiW (rep x lx hx) (rep y ly hy) hc;refine Calls.mono hcall ?_;rintro e w' ⟨rfl,hid⟩;exact⟨rfl,hid.grow⟩
    have hcall:=cP w (Γ.cur 0) n cap et vs hvsb hfit hcap (by omega) (by omega) enc hek he1 hH (qpj F l) heq;obtain⟨ix,hix⟩:∃ ix,ix=zl (qpj F l) n:=⟨_,rfl⟩
    rw[<- hix]at hcall;have hixlt:∀ i∈ix,i<n := λ i hi=>by rw[hix]at hi;exact qAh i hi
    have hixl:∀ i∈ix,i<l.length := λ i hi=>by rw[<- hn];exact hixlt i hi
    have hixc:∀ i∈ix,i<R.c.length := λ i hi=>by rw[hnc];exact hixlt i hi
    have hl'e:l'=pick l ix:=by rw[v4,<- hn,hix]
    have hl'n:l'.length=ix.length:=by rw[hl'e,qCg hixl]
    have pm:∀ e∈pick R.c ix,e∈R.c := λ e he=>by
     unfold pick at he;obtain⟨i,_,h⟩:=kQ.1 he;exact wc h
    refine qfW (a := .term) hi hb0 hR hRk hRf.1 hRf.2 hz (l:=l') (c:=pick R.c ix) (xs:=ix.flatMap enc) (n:=ix.length) hl'n.symm (by rw[hl'e];exact qqJ hRd hixl) (λ e he=>hlk e (pm e he)) (λ e he=>H.plain e (pm e he)) (λ i e j x h1 h2=>?_) ?_
    ·rw[qob hixc]at h1;cases hp:ix[i]? with
     | none=>rw[hp]at h1;cases h1
     | some p =>
       rw[hp]at h1;have h1:R.c[p]?=some e:=h1;have hj:j<Ty.size .term:=by have:=getElem?_lt h2;rwa [hlk e (wc h1)]at this
       obtain⟨u,u1,u2⟩:=hca p e j x h1 h2;refine⟨u,?_,u2⟩;have hpn:p<n:=hixlt p (wc hp);rw[qlv hek _ _ _ hj,hp];show(enc p)[j]?=some u;rw[henc];show(JW vs (Ty.size .term) (p % n))[j]?=some u;rw[xB hpn,qke hj,<- Array.getElem?_toList];rw[List.getElem?_take]at u1;split at u1
       ·exact u1
       ·cases u1
    ·refine Calls.mono hcall ?_;rintro e w' ⟨rfl,dk,m,os,new,hdk,htk,hw⟩;have B:=sort_blks hvsb enc (Ty.size .term) m dk os;have hpsz:(putCells id 0 (flatK enc (Ty.size .term) dk) vs).size=vs.size:=by unfold putCells;rw[vD]
     have hixn:ix.length<=n:=by
      have:=congrArg List.length htk;rw[wu]at this;have h2:dk.toList.length=n:=by rw[wK,hdk]
      omega
     have hlen:ix.length*Ty.size .term<=n*Ty.size .term:=wm _ hixn
     have hxs:(putCells id 0 (flatK enc (Ty.size .term) dk) vs).toList.take (ix.length*Ty.size .term)=ix.flatMap enc:=by
      apply k9;intro t;by_cases ht:t<ix.length*Ty.size .term
      ·obtain⟨q1,q2,q3⟩:=qjy t (Ty.size .term) ix.length ht;rw[List.getElem?_take,if_pos ht,Array.getElem?_toList];unfold putCells;rw[Array.getElem?_mapIdx,Array.getElem?_eq_getElem (by omega),kr,if_pos ⟨wh _,by rw[size_flatK,hdk];omega⟩,Nat.sub_zero,id,get_flatK _ _ _ _ (by rw[hdk];omega)]
       conv=>rhs;rw[<- q2]
       rw[qlv hek _ _ _ q3]
       have hd:dk[t / Ty.size .term]?=ix[t / Ty.size .term]?:=by
        rw[<- htk,List.getElem?_take,if_pos q1,Array.getElem?_toList]
       have hdl:t / Ty.size .term<dk.size:=by rw[hdk];omega
       rw[<- hd,Array.getElem?_eq_getElem hdl,getElem!_pos dk _ hdl];show _=(enc dk[t / Ty.size .term])[t % Ty.size .term]?;rw[List.getElem!_eq_getElem?_getD,List.getElem?_eq_getElem (by rw[hek];exact q3)];rfl
      ·rw[List.getElem?_eq_none (by rw[wu];omega),List.getElem?_eq_none (by rw[qsE hek];omega)]
     rcases hw with rfl | ⟨n1,n2,rfl⟩
     ·exact⟨Γ.cur 0,cap,_,et,rfl,B.hb,by omega,by rw[hpsz];exact hfit,hxs,.inl ⟨rfl,hpsz.trans hvsz⟩,B.os,B.tape,B.output,B.size,B.drawn,B.other⟩
     ·have hs:=setRow_heap _ (Γ.cur 0) _ new.toArray et (0,0) B.hb;refine⟨Γ.cur 0,cap,new.toArray,et,rfl,hs,by omega,by rw[wV,n2];exact hfit,?_,.inl ⟨rfl,by rw[wV,n2];exact hvsz⟩,B.os,B.tape,B.output,?_,B.drawn,λ b hb hne=>(setRow_other _ (Γ.cur 0) b _ hne).trans (B.other b hb hne)⟩
      ·rw[<- hxs];exact n1
      ·show w.heap.size<=_;simp only[World.setRow,Array.size_modify];exact B.size
 ·have hl2:l'=[]:=by
    have hl0:l=[]:=hl0;rw[hl0]at hl';cases hl';rfl
  rcases hy with rfl | ⟨f,rfl,hf2⟩
  ·have hu0:=qK hu0;subst hu0;exact nil0 none hl2
  ·cases hu0 with
   | sl _ _ _ a n cap b o us hn _ hf _ _ _ _ _ _ =>
     have hn:n=0:=hn;have hcap:cap=n:=hf (by omega);rw[hcap,hn];exact nil0 a hl2
end Go.AmZ
namespace Go.AmZ
open Go Go.RowKit Go.GxZ
theorem qgL{P:Program}(w:World)(qS:Nat)(t ty e:TypeId)(i:TypeInfo)(z:Value)(size bytes:Nat)(F:P.underlying t=some (.slice e))(H:P.info? e=some i)(I:i.zero=some z)
  (d:i.size=size) (A:i.bytes=bytes) (s:z.cells.size=size) (x:0<size)
  (v:Value) (n:Nat) (xs:List Value) (b:w.ownsRow qS e size v n xs)
  (a:Addr) (m c:Nat) (qe:List Value) (G:qe.length=m*size) (f:∀j u,qe[j]?=some u->w.cell? (a.add j)=some u) (J:∀u∈qe,u.oneCell'=true)
  (B:n+m<=maxLen) (h:(n+m)*bytes<=140737488355328) (l:qS<=w.heap.size):
  ∃p w',(Builtin.append_ #[t,t] ty #[v,.slice (some a) m c]).run P w=.ok p w'/\w'.ownsRow qS e size p (n+m) (xs++qe)/\w.grownBy w' v.ownBlock/\
   (p.ownBlock=v.ownBlock\/∀k,p.ownBlock=some k->w.heap.size<=k):=by
 obtain⟨rfl,rfl⟩|⟨g,cap,Q,rfl,O,R,K,N,M,E⟩:=id b.2
 .have D:xs=[]:=kw.1 (by simpa using b.1);subst D;let⟨p,w',C,r,o,_⟩:=run_append_own (P:=P) w w.heap.size t ty e i z size bytes F H I d A s x (.slice none 0 0) 0 [] (World.ownsRow_nil w _ e size) a m c qe G f J B h (wa _);exact⟨p,w',C,r.mono l,o,.inr λ k y=>(r.lt k y).1⟩
 .by_cases q:n+m<=cap
  .let⟨w',C,r,o⟩:=run_append_own_spare (P:=P) w qS t ty e i size F H d g n cap xs b a m c qe G f J q;exact⟨_,w',C,r,o,.inl rfl⟩
  .let⟨p,w',C,r,o⟩:=run_append_arg_grows (P:=P) w t ty e i z size bytes F H I d A s x ⟨g,0,none⟩ n cap xs b.1 (λ j u L=>b.cells rfl j u L) a m c qe G f (by omega) B h;exact⟨p,w',C,r.mono l,⟨o.os,o.tape,o.output,o.size,λ k y _=>o.block k y (by simp)⟩,.inr λ k y=>(r.lt k y).1⟩
structure qbC (Γ:Gh) (b:Nat):Prop where
 own:¬ jf Γ b
 mem:∀o,Γ.mem b o=none
theorem qbC.ext{Γ Γ':Gh}{w w':World}{b:Nat}(h:qbC Γ b)(c:Ext Γ w Γ' w')(f:b<w.heap.size):qbC Γ' b/\w'.heap[b]?=w.heap[b]?:=by
 refine⟨⟨λ d=>(c.own b d).elim h.own λ h=>by omega,λ o=>?_⟩,c.block b f h.own⟩;cases e:Γ'.mem b o with
 |none=>rfl
 |some u=>
   obtain a|a|a:=c.memg b o u e
   .rw[h.mem]at a;cases a
   .exact absurd a h.own
   .omega
theorem qbC.new{Γ:Gh}{σ:St}{w:World}(a:Inv Γ σ w){b:Nat}(f:w.heap.size<=b):qbC Γ b:=by
 refine⟨λ h=>?_,λ o=>?_⟩
 .obtain⟨i,c,rfl⟩|⟨r,c,e,rfl⟩:=h
  .have:=a.box_lt c;omega
  .have:=a.cur_lt c e;omega
 .cases d:Γ.mem b o with
  |none=>rfl
  |some u=>have:=a.mem_lt d;omega
theorem Inv.off{Γ:Gh}{σ:St}{w w':World}(h:Inv Γ σ w)(j:∀k ob,¬ qbC Γ k->w.heap[k]?=some ob->w'.heap[k]?=some ob):Inv Γ σ w' where
 tab:=⟨let⟨e,fr,q⟩:=h.tab.1;⟨e,fr,j 0 _ (λ c=>h.tab.2.2 (c.mem 0)) q⟩,h.tab.2⟩
 nb:=h.nb
 nr:=h.nr
 mem:=λ b o u e=>by
  let⟨l,p⟩:=h.mem b o u e;have d:=Array.getElem?_eq_getElem (qnm l);refine⟨?_,p⟩;rw[World.cell?_of_block (w:=w) (a:=⟨b,o,none⟩) ((j b _ (λ c=>by rw[c.mem]at e;cases e) d).trans d.symm)];exact l
 box:=λ i cs e=>by
  have g:i<Γ.nb:=by rw[h.nb];exact getElem?_lt e
  exact(h.box i cs e).lift g (.refl _) λ o d=>j _ _ (λ c=>c.own (.inl ⟨i,g,rfl⟩)) d
 inj:=h.inj
 boxmem:=h.boxmem
 row:=λ r R e=>by
  have f:r<Γ.nr:=by rw[h.nr];exact getElem?_lt e
  exact(h.row r R e).lift f (.refl _) rfl (λ m ob d=>j _ _ (λ c=>c.own (.inr ⟨r,f,m,rfl⟩)) d) (λ _ _ n=>n) λ _ i t s=>by omega
 apart:=h.apart
theorem qAB{d Γ:Gh}{σ:St}{w0 w w':World}{e:Option Nat}(a:Ext d w0 Γ w)(m:Inv Γ σ w)(c:w.grownBy w' e)(f:∀b,e=some b->qbC Γ b/\w0.heap.size<=b)(n:w.drawn<=w'.drawn):Ext d w0 Γ w'/\Inv Γ σ w':=by
 refine⟨⟨a.le,c.os.trans a.os,c.tape.trans a.tape,c.output.trans a.output,wC a.size c.size,λ b i l=>(c.block b (wv i a.size) λ h=>?_).trans (a.block b i l),a.own,a.memg,wC a.drawn n⟩,m.off λ k ob j g=>?_⟩
 .have:=(f b h.symm).2;omega
 .rw[c.block k (Array.getElem?_eq_some_iff.1 g).1 λ h=>j (f k h.symm).1];exact g
theorem qbC.grown{Γ:Gh}{w w':World}{a:Option Nat}{b:Nat}(d:w.grownBy w' a)(e:b<w.heap.size)(c:some b≠a):w'.heap[b]?=w.heap[b]?:=d.block b e c
theorem qAH(w:World)(g k:Nat)(u:Value):w.grownBy (w.setCell ⟨g,k,none⟩ u) (some g):=
 ⟨rfl,rfl,rfl,by simp,λ b _ a=>Below.heap_setCell _ _ _ _ λ h=>a (by rw[h])⟩
theorem qhb{w w':World}{B e s g n cap:Nat}{cs:List Value}(h:w.ownsRow B e s (.slice (some ⟨g,0,none⟩) n cap) n cs)(d:w'.heap[g]?=w.heap[g]?):w'.ownsRow B e s (.slice (some ⟨g,0,none⟩) n cap) n cs:=by
 obtain⟨a,_⟩|⟨f,c,b,a,r⟩:=h.2
 .cases a
 .cases a;exact⟨h.1,.inr ⟨g,cap,b,rfl,r.1,by rw[d];exact r.2.1,r.2.2⟩⟩
theorem qah{w:World}{B e s g n cap:Nat}{cs:List Value}(h:w.ownsRow B e s (.slice (some ⟨g,0,none⟩) n cap) n cs):B<=g/\g<w.heap.size:=h.lt g rfl
theorem qpo{w:World}{B e s g n p cap:Nat}{cs:List Value}(h:w.ownsRow B e s (.slice (some ⟨g,0,none⟩) n cap) n cs)(d:p<=n):w.ownsRow B e s (.slice (some ⟨g,0,none⟩) p cap) p (cs.take (p*s)):=by
 have a:p*s<=n*s:=wm _ d;obtain⟨b,_⟩|⟨q,f,c,b,o,m,l,k,j,i⟩:=h.2
 .cases b
 .cases b;refine⟨by rw[wu,h.1];omega,.inr ⟨g,cap,c,rfl,o,m,wC d l,k,j,?_⟩⟩;rw[<-i,xy,kh a]
theorem qEi{w:World}{B e s g n cap:Nat}{cs:List Value}(h:w.ownsRow B e s (.slice (some ⟨g,0,none⟩) n cap) n cs):n<=cap/\cap<=maxLen:=by
 obtain⟨a,_⟩|⟨m,b,f,a,l,k,d,c,j,i⟩:=h.2
 .cases a
 .cases a;exact⟨d,c⟩
abbrev RD:Ty:=.pair .str (.pair (.int .i64) .bool)
def qe1(Γ:Gh)(σ:St)(cs:List Value)(i:Nat)(t:T)(n:Int)(r:Nat):Prop:=
 ∃R a,σ.rw[r]?=some R/\R.k=4/\R.fz=0/\R.off=false/\R.c=t.kids.map (qd .term)/\Rep Γ (.rs r 0 t.kids.length R.ver false) a/\
  cs[i*5]?=some (.int .i64 t.kind)/\cs[i*5+1]?=some (.string ⟨t.name.toArray⟩)/\cs[i*5+2]?=some (.int .i64 t.sort)/\cs[i*5+3]?=some a/\cs[i*5+4]?=some (.int .i64 n)
structure Stk (B N:Nat) (Γ:Gh) (σ:St) (w:World) (st:List (T×Int)) (ids:List Nat) (g cap:Nat) (cs:List Value):Prop where
 len:ids.length=st.length
 nd:ids.Nodup
 priv:qbC Γ g
 own:w.ownsRow B N 5 (.slice (some ⟨g,0,none⟩) st.length cap) st.length cs
 node:∀i t n r,st[i]?=some (t,n)->ids[i]?=some r->qe1 Γ σ cs i t n r
section
variable {B N:Nat}{Γ Γ':Gh}{σ σ':St}{w w':World}{st:List (T×Int)}{ids:List Nat}{g cap:Nat}{cs:List Value}
theorem qe1.later{i:Nat}{t:T}{n:Int}{r:Nat}(h:qe1 Γ σ cs i t n r)(c:Le Γ Γ')(b:∀R,σ.rw[r]?=some R->σ'.rw[r]?=some R):qe1 Γ' σ' cs i t n r:=by
 let⟨R,a,l,k,j,g,f,e,d⟩:=h;exact⟨R,a,b R l,k,j,g,f,e.mono c,d⟩
theorem qe1.cells{i:Nat}{t:T}{n:Int}{r:Nat}{cs':List Value}(h:qe1 Γ σ cs i t n r)(a:∀j,j<5->cs'[i*5+j]?=cs[i*5+j]?):qe1 Γ σ cs' i t n r:=by
 let⟨R,b,k,g,f,e,d,c,q,p,o,m,l⟩:=h;exact⟨R,b,k,g,f,e,d,c,(a 0 (by decide)).trans q,(a 1 (by decide)).trans p,(a 2 (by decide)).trans o,(a 3 (by decide)).trans m,(a 4 (by decide)).trans l⟩
theorem Stk.later(h:Stk B N Γ σ w st ids g cap cs)(a:Ext Γ w Γ' w')(e:∀r,r∈ids->∀R,σ.rw[r]?=some R->σ'.rw[r]?=some R):Stk B N Γ' σ' w' st ids g cap cs:=by
 let⟨d,c⟩:=h.priv.ext a (qah h.own).2;exact⟨h.len,h.nd,d,qhb h.own c,λ i t n r f b=>(h.node i t n r f b).later a.le (e r (wc b))⟩
theorem Stk.grown{a:Option Nat}(h:Stk B N Γ σ w st ids g cap cs)(c:w.grownBy w' a)(b:some g≠a):Stk B N Γ σ w' st ids g cap cs:=
 ⟨h.len,h.nd,h.priv,qhb h.own (c.block g (qah h.own).2 b),h.node⟩
theorem Stk.cell(h:Stk B N Γ σ w st ids g cap cs){k:Nat}{u:Value}(a:cs[k]?=some u):w.cell? ⟨g,k,none⟩=some u/\w.frozen? ⟨g,k,none⟩=false:=by
 refine⟨?_,h.own.frozenAt k⟩;rw[h.own.cellAt k (by rw[<-h.own.1];exact getElem?_lt a)];exact a
theorem Stk.at(h:Stk B N Γ σ w st ids g cap cs){i:Nat}{t:T}{n:Int}(b:st[i]?=some (t,n)):∃r,ids[i]?=some r/\qe1 Γ σ cs i t n r:=by
 have a:i<ids.length:=by rw[h.len];exact getElem?_lt b
 exact⟨_,List.getElem?_eq_getElem a,h.node i t n _ b (List.getElem?_eq_getElem a)⟩
theorem Stk.left(h:Stk B N Γ σ w st ids g cap cs){i:Nat}{t:T}{n:Int}(l:st[i]?=some (t,n))(a:Int):Stk B N Γ σ (w.setCell ⟨g,i*5+4,none⟩ (.int .i64 a)) (st.set i (t,a)) ids g cap (cs.set (i*5+4) (.int .i64 a)):=by
 have s:=getElem?_lt l;have d:i*5+4<cs.length:=by rw[h.own.1];omega
 refine⟨by rw[wE];exact h.len,h.nd,h.priv,by rw[wE];exact(h.own.stored _ _).1,λ j o m r c f=>?_⟩;rw[List.getElem?_set]at c;split at c
 .rename_i e;subst e;cases c;let⟨R,p,A,z,y,x,v,u,F,E,D,C,G⟩:=h.node i t n r l f;have b:∀q,q≠i*5+4->(cs.set (i*5+4) (.int .i64 a))[q]?=cs[q]?:=λ q k=>by rw[List.getElem?_set_ne (λ e=>k e.symm)]
  refine⟨R,p,A,z,y,x,v,u,(b _ (by omega)).trans F,(b _ (by omega)).trans E,(b _ (by omega)).trans D,(b _ (by omega)).trans C,?_⟩;rw[List.getElem?_set_self d]
 .rename_i e;refine(h.node j o m r c f).cells λ q k=>?_;rw[List.getElem?_set_ne (by omega)]
theorem Stk.push(h:Stk B N Γ σ w st ids g cap cs){s:Value}{nk sk:Int}{nm:List UInt8}{lf:Int}{o:Value}{r:Nat}{R:Row}(F:σ.rw[r]?=some R)(K:R.k=4)(J:R.fz=0)(I:R.off=false)(H:R.c=[])(G:Rep Γ (.rs r 0 0 R.ver false) o)(A:r ∉ ids)
  (l:w'.ownsRow B N 5 s (st.length+1) (cs++[.int .i64 nk,.string ⟨nm.toArray⟩,.int .i64 sk,o,.int .i64 lf])) (z:s.ownBlock=some g\/∀k,s.ownBlock=some k->qbC Γ k):
  ∃j d,s=.slice (some ⟨j,0,none⟩) ((st.length+1:Nat)) d/\Stk B N Γ σ w' (st++[(.mk nk nm sk [],lf)]) (ids++[r]) j d (cs++[.int .i64 nk,.string ⟨nm.toArray⟩,.int .i64 sk,o,.int .i64 lf]):=by
 have D:=h.own.1
 obtain⟨j,d,v⟩:∃j d,s=.slice (some ⟨j,0,none⟩) ((st.length+1:Nat)) d:=by
  obtain⟨_,O⟩|⟨j,d,L,e,_⟩:=l.2
  .omega
  .exact⟨j,d,e⟩
 subst v;refine⟨j,d,rfl,⟨by simp[h.len],?_,?_,by simpa using l,λ i t n y p f=>?_⟩⟩
 .rw[List.nodup_append];exact⟨h.nd,by simp,λ a E b x=>by simp at x;subst x;exact λ e=>A (e▸E)⟩
 .obtain e|e:=z
  .cases e;exact h.priv
  .exact e j rfl
 .rw[List.getElem?_append]at p f;rw[h.len]at f;split at p
  .rename_i m;rw[if_pos m]at f;refine(h.node i t n y p f).cells λ q M=>?_;rw[List.getElem?_append_left (by omega)]
  .rename_i m;rw[if_neg m]at f
   have C:i=st.length:=by
    have:=getElem?_lt p;simp at this;omega
   subst C;simp at p f;obtain⟨rfl,rfl⟩:=p;subst f
   have u:∀q,(cs++[.int .i64 nk,.string ⟨nm.toArray⟩,.int .i64 sk,o,.int .i64 lf])[st.length*5+q]?=([.int .i64 nk,.string ⟨nm.toArray⟩,.int .i64 sk,o,.int .i64 lf]:List Value)[q]?:=λ q=>by
    rw[List.getElem?_append_right (by omega)];congr 1;omega
   exact⟨R,o,F,K,J,I,H,G,u 0,u 1,u 2,u 3,u 4⟩
theorem Stk.shrink(h:Stk B N Γ σ w st ids g cap cs){p:Nat}(e:p<=st.length):Stk B N Γ σ w (st.take p) (ids.take p) g cap (cs.take (p*5)):=by
 have a:(st.take p).length=p:=by rw[wu];omega
 refine⟨by rw[a,wu,h.len];omega,h.nd.sublist (List.take_sublist _ _),h.priv,by rw[a];exact qpo h.own e,λ i t n r b c=>?_⟩;rw[List.getElem?_take]at b c;split at b<;>try cases b
 rename_i d;rw[if_pos d]at c;refine(h.node i t n r b c).cells λ j f=>?_;rw[List.getElem?_take,if_pos (by omega)]
theorem Stk.kid(h:Stk B N Γ σ w st ids g cap cs)(v:Ext Γ w Γ' w'){q:Nat}(Z:q<st.length){t:T}{n:Int}(J:st[q]?=some (t,n)){r:Nat}(y:ids[q]?=some r)(x:T)
  (m:∀i s,i<q->ids[i]?=some s->∀R,σ.rw[s]?=some R->σ'.rw[s]?=some R) {R:Row} (M:σ'.rw[r]?=some R) (U:R.k=4) (S:R.fz=0) (Q:R.off=false) (P:R.c=(t.kids++[x]).map (qd .term)) {f:Value} (O:Rep Γ' (.rs r 0 (t.kids.length+1) R.ver false) f):
  Stk B N Γ' σ' (w'.setCell ⟨g,q*5+3,none⟩ f) (st.take q++[(.mk t.kind t.name t.sort (t.kids++[x]),n)]) (ids.take (q+1)) g cap ((cs.set (q*5+3) f).take ((q+1)*5)):=by
 let⟨D,C⟩:=h.priv.ext v (qah h.own).2
 have l:(st.take q++[(T.mk t.kind t.name t.sort (t.kids++[x]),n)]).length=q+1:=by
  rw[wd,wu];simp;omega
 have G:=qpo ((qhb h.own C).stored (q*5+3) f).1 (p:=q+1) (by omega);have L:=h.own.1;refine⟨by rw[l,wu,h.len];omega,h.nd.sublist (List.take_sublist _ _),D,by rw[l];exact G,λ i A E s b a=>?_⟩;rw[List.getElem?_take]at a;split at a<;>try cases a
 rename_i H
 have u:∀j,j<5->((cs.set (q*5+3) f).take ((q+1)*5))[i*5+j]?=(cs.set (q*5+3) f)[i*5+j]?:=λ j z=>by
  rw[List.getElem?_take,if_pos (by omega)]
 have d:∀k,k≠q*5+3->(cs.set (q*5+3) f)[k]?=cs[k]?:=λ k I=>by rw[List.getElem?_set_ne (λ e=>I e.symm)]
 rw[List.getElem?_append,wu,kh (by omega)]at b;split at b
 .rename_i o;rw[List.getElem?_take,if_pos o]at b;exact((h.node i A E s b a).later v.le (m i s o a)).cells λ j z=>(u j z).trans (d _ (by omega))
 .rename_i o;have K:i=q:=by omega
  subst K;simp at b;obtain⟨rfl,rfl⟩:=b;rw[y]at a;cases a;let⟨R0,F,b1,b2,b3,b4,b5,b6,Y,X,W,a3,V⟩:=h.node i t n r J y;refine⟨R,f,M,U,S,Q,P,(by show Rep Γ' (.rs r 0 (t.kids++[x]).length R.ver false) f;rw[wd];exact O),(u 0 (by decide)).trans ((d _ (by omega)).trans Y),(u 1 (by decide)).trans ((d _ (by omega)).trans X),(u 2 (by decide)).trans ((d _ (by omega)).trans W),(u 3 (by decide)).trans ?_,(u 4 (by decide)).trans ((d _ (by omega)).trans V)⟩;rw[List.getElem?_set_self (by omega)]
end
end Go.AmZ
namespace Go.AmZ
open Go Go.RowKit Go.GxZ
structure RS (Γ0:Gh) (w0:World) (rd:Val RD) (Γ:Gh) (σ:St) (w:World):Prop where
 x:Ext Γ0 w0 Γ w
 i:Inv Γ σ w
 bx:σ.bx=[qd RD rd]
abbrev qjD(F:Val RD->Option ((Val RD×Unit)×((Int×List UInt8×Int×List T×Int×Unit)×Unit))):qiy:=⟨[.box [.val RD]],[.agg [.val (.int .i64),.val .str,.val (.int .i64),.row .term,.val (.int .i64)]],λ x=>F x.1⟩
section
variable {P:Program}{Γ0 Γ:Gh}{σ:St}{w0 w:World}{rd:Val RD}
theorem RS.drew(h:RS Γ0 w0 rd Γ σ w):RS Γ0 w0 rd Γ σ {w with drawn:=w.drawn+1}:=⟨h.x.trans (Ext.drew _ _),h.i.drew,h.bx⟩
theorem RS.box(h:RS Γ0 w0 rd Γ σ w):w.cell? ⟨Γ.β 0,0,none⟩=some (.string ⟨rd.1.toArray⟩)/\w.cell? ⟨Γ.β 0,1,none⟩=some (.int .i64 rd.2.1)/\w.cell? ⟨Γ.β 0,2,none⟩=some (.bool rd.2.2):=by
 let⟨vs,e,g,d,j⟩:=h.i.box 0 (qd RD rd) (by rw[h.bx];rfl);have f:=jC g;have c:∀(x:Value) (u:Value),Rep Γ (.v x) u->u=x:=λ x u h=>by cases h;rfl
 refine⟨?_,?_,?_⟩<;>rw[f]
 .let⟨u,a,b⟩:=d.get (i:=0) (x:=.v (.string ⟨rd.1.toArray⟩)) rfl;rw[c _ _ b]at a;simpa using a
 .let⟨u,a,b⟩:=d.get (i:=1) (x:=.v (.int .i64 rd.2.1)) rfl;rw[c _ _ b]at a;simpa using a
 .let⟨u,a,b⟩:=d.get (i:=2) (x:=.v (.bool rd.2.2)) rfl;rw[c _ _ b]at a;simpa using a
theorem RS.grown{w':World}{c:Option Nat}(h:RS Γ0 w0 rd Γ σ w)(e:w.grownBy w' c)(d:∀b,c=some b->qbC Γ b/\w0.heap.size<=b)(f:w.drawn<=w'.drawn):RS Γ0 w0 rd Γ σ w':=
 let⟨a,b⟩:=qAB h.x h.i e d f;⟨a,b,h.bx⟩
theorem RS.set(h:RS Γ0 w0 rd Γ σ w){g:Nat}(a:qbC Γ g)(c:w0.heap.size<=g)(k:Nat)(u:Value):RS Γ0 w0 rd Γ σ (w.setCell ⟨g,k,none⟩ u):=
 h.grown (qAH w g k u) (λ b e=>by cases e;exact⟨a,c⟩) (wa _)
theorem RS.put4(h:RS Γ0 w0 rd Γ σ w){b:Nat}(a:qbC Γ b)(c:w0.heap.size<=b)(g f e d:Value):RS Γ0 w0 rd Γ σ ((((w.setCell ⟨b,0,none⟩ g).setCell ⟨b,1,none⟩ f).setCell ⟨b,2,none⟩ e).setCell ⟨b,3,none⟩ d):=
 (((h.set a c 0 g).set a c 1 f).set a c 2 e).set a c 3 d
theorem qwo:Rep Γ (.sl 4 [] 1) (.slice none 0 0):=.sl _ _ _ _ 0 0 0 0 (λ _ _=>undef) rfl (λ _=>wa _) (λ _=>rfl) (λ e h=>by cases h) (λ e h=>by cases h) (by decide) (.inl rfl) (λ i e j x h=>by cases h) (λ i e j x h=>by cases h)
theorem RS.alloc(h:RS Γ0 w0 rd Γ σ w)(o:Obj):RS Γ0 w0 rd Γ σ (w.alloc o):=
 h.grown (World.grownBy_alloc w o none) (λ b e=>by cases e) (wa _)
theorem qqk{f:FuncId}{F:Val RD->Option ((Val RD×Unit)×((Int×List UInt8×Int×List T×Int×Unit)×Unit))}(C:qw P f (sgP (qjD F))){b:Val RD}{nk sk lf:Int}{nm:List UInt8}{ks:List T}(A:F rd=some ((b,()),((nk,nm,sk,ks,lf,()),())))
  (h:RS Γ0 w0 rd Γ σ w):Calls P f #[.pointer (some ⟨Γ.β 0,0,none⟩)] w λ e w'=>∃Γ' σ' o,e=.returned (.agg #[.int .i64 nk,.string ⟨nm.toArray⟩,.int .i64 sk,o,.int .i64 lf])/\Ext Γ w Γ' w'/\RS Γ0 w0 b Γ' σ' w'/\σ'.rw=σ.rw++[⟨4,ks.map (qd .term),0,0,false⟩]/\Rep Γ' (.rs σ.rw.length 0 ks.length 0 false) o:=by
 have l:Γ.nb=1:=by rw[h.i.nb,h.bx];rfl
 have g:jh σ [.ptr 0 0] (sgP (qjD F))=some (.agg [.v (.int .i64 nk),.v (.string ⟨nm.toArray⟩),.v (.int .i64 sk),.rs σ.rw.length 0 ks.length 0 false,.v (.int .i64 lf)],some ⟨[qd RD b],σ.rw++[⟨4,ks.map (qd .term),0,0,false⟩],0::σ.wr,σ.wrr⟩):=by
  let⟨I,rw,c,a⟩:= σ;have m:I=[qd RD rd]:=h.bx;subst m;have B:qm RD ((qd RD rd).take (Ty.size RD))=some rd:=yK RD rd
  have m:qe9 ⟨[qd RD rd],[],[],[]⟩ [.val RD] 0 0 (.ptr 0 0)=some ((rd,()),0):=by
   show(match qm RD ((qd RD rd).take (Ty.size RD))with
    |some v=>match qcp ⟨[qd RD rd],[],[],[]⟩ [] 0 ((qd RD rd).drop (Ty.size RD))with
      |some (vs,n)=>some ((v,vs),n)
      |none=>none
    |none=>none)=_
   rw[B];rfl
  have s:dS ⟨[qd RD rd],[],[],[]⟩ (qjD F).args 0 0 [.ptr 0 0]=some (rd,()):=by
   show(match qe9 ⟨[qd RD rd],[],[],[]⟩ [.val RD] 0 0 (.ptr 0 0)with
    |some (v,k)=>match dS ⟨[qd RD rd],[],[],[]⟩ [] 1 k []with
      |some vs=>some (toB [.val RD] v,vs)
      |none=>none
    |none=>none)=_
   rw[m];rfl
  have z:sgP (qjD F) ⟨[qd RD rd],[],[],[]⟩ [.ptr 0 0]=some (.agg [.v (.int .i64 nk),.v (.string ⟨nm.toArray⟩),.v (.int .i64 sk),.rs 0 0 ks.length 0 false,.v (.int .i64 lf)],some ⟨[qd RD b],[⟨4,ks.map (qd .term),0,0,false⟩],[0],[]⟩):=by
   unfold sgP;rw[s];dsimp only;rw[A];rfl
  have q:qcY ⟨[qd RD rd],rw,c,a⟩ [.ptr 0 0]=true:=rfl;have H:qr ⟨[qd RD rd],rw,c,a⟩ (yR ⟨[qd RD rd],rw,c,a⟩ [.ptr 0 0]) (JB ⟨[qd RD rd],rw,c,a⟩ [.ptr 0 0])=⟨[qd RD rd],[],[],[]⟩:=rfl;unfold jh;rw[q]
  show(match sgP (qjD F) (qr ⟨[qd RD rd],rw,c,a⟩ (yR ⟨[qd RD rd],rw,c,a⟩ [.ptr 0 0]) (JB ⟨[qd RD rd],rw,c,a⟩ [.ptr 0 0])) [.ptr 0 0]with
   |some r=>some (qcU ⟨[qd RD rd],rw,c,a⟩ [0] [] r)
   |none=>none)=_
  rw[H,z];rfl
 refine(qjB (λ Γ σ j r y d t=>C.2 Γ σ w j _ r y d t) h.i (waq (Rep.ptr 0 0 (by rw[l];exact vO)) .nil) g).mono ?_;rintro e w' ⟨v,Γ',rfl,p,E,D,O⟩;cases D with
 |agg _ us u G d=>
 match us,u with
 |[u0,u1,u2,u3,u4],_=>
 have N:=d 0 _ _ rfl rfl;have M:=d 1 _ _ rfl rfl;have L:=d 2 _ _ rfl rfl;have K:=d 3 _ _ rfl rfl;have J:=d 4 _ _ rfl rfl;cases N;cases M;cases L;cases J;exact⟨Γ',_,u3,rfl,p,⟨h.x.trans p,E,rfl⟩,rfl,K⟩
theorem qwi(p:Inv Γ σ w){cs:List Value}{i:Nat}{t:T}{n:Int}{r:Nat}(h:qe1 Γ σ cs i t n r):
  ∃a σ1 d,σ1.bx=σ.bx/\(∀b,b≠r->σ1.rw[b]?=σ.rw[b]?)/\Ext Γ w a w/\Inv a σ1 w/\cs[i*5+3]?=some d/\Rep a (.sl 4 (t.kids.map (qd .term)) 1) d/\d.oneCell'=true:=by
 let⟨R,d,j,B,E,D,s,q,I,H,G,C,F⟩:=h;let⟨m,l,v,u⟩:=qpI p j σ.wrr;refine⟨_,{σ with rw:=σ.rw.modify r qel,wrr:=σ.wrr},d,rfl,λ b z=>?_,qgk l w,v,C,?_,q.one rfl⟩
 .show(σ.rw.modify r qel)[b]?=_;rw[List.getElem?_modify];cases σ.rw[b]? with
  |none=>rfl
  |some x=>exact congrArg some (if_neg (λ e=>z (Eq.symm e)))
 .have:=qgX p l.le (y:=.rs r 0 t.kids.length R.ver false) (λ b f R' g=>by
    simp only[rsC,wF]at f;subst f;rw[j]at g;cases g;exact u) q
  have o:R.c.length=t.kids.length:=by rw[s,wx]
  have A:qB σ.rw (.rs r 0 t.kids.length R.ver false)=.sl 4 (t.kids.map (qd .term)) 1:=by
   simp only[qB,j]
   have:qf9 R R.k 0 t.kids.length R.ver=some (t.kids.map (qd .term)):=by
    unfold qf9;rw[if_pos ⟨rfl,rfl,by omega⟩,wP,kR (by omega),s]
   rw[this,B]
  rw[A]at this;exact this
theorem qdS{t:T}{a:Value}(h:Rep Γ (.sl 4 (t.kids.map (qd .term)) 1) a):RepL Γ (qd .term t) [.int .i64 t.kind,.string ⟨t.name.toArray⟩,.int .i64 t.sort,a]:=by
 have b:qd .term t=[.v (.int .i64 t.kind),.v (.string ⟨t.name.toArray⟩),.v (.int .i64 t.sort),.sl 4 (t.kids.map (qd .term)) 1]:=by
  let⟨k,n,s,l⟩:=t;show Qv _=_;rw[Qv,qgJ];rfl
 rw[b];exact waq (.v _ rfl) (waq (.v _ rfl) (waq (.v _ rfl) (waq h .nil)))
theorem qjC{k s:Int}{b:ByteArray}{a:Value}(h:a.oneCell'=true):∀u∈([.int .i64 k,.string b,.int .i64 s,a]:List Value),u.oneCell'=true:=by
 intro u c;simp only[wM,kW,or_false]at c;obtain rfl|rfl|rfl|rfl:=c<;>first|rfl|exact h
theorem qDk(n:Inv Γ σ w){t:T}{b:Value}(h:Rep Γ (.sl 4 (t.kids.map (qd .term)) 1) b)(e:TypeId):
  ∃Γ',Ext Γ w Γ' (w.alloc (.cells #[.int .i64 t.kind,.string ⟨t.name.toArray⟩,.int .i64 t.sort,b] e))/\Inv Γ' σ (w.alloc (.cells #[.int .i64 t.kind,.string ⟨t.name.toArray⟩,.int .i64 t.sort,b] e))/\Rep Γ' (.sl (Ty.size .term) [qd .term t] 2) (.slice (some ⟨w.heap.size,0,none⟩) 1 1):=by
 let⟨Γ',g,l,k⟩:=qs1 n (vs:=[.int .i64 t.kind,.string ⟨t.name.toArray⟩,.int .i64 t.sort,b]) (qjC (h.one rfl)) e;refine⟨Γ',g,l,.sl _ _ _ _ 1 1 w.heap.size 0 (λ _ j=>([.int .i64 t.kind,.string ⟨t.name.toArray⟩,.int .i64 t.sort,b]:List Value).getD j undef) rfl (λ _=>wa _) (λ _=>rfl) ?_ ?_ (by decide) (.inr rfl) ?_ ?_⟩
 .intro e f;rw[wF.1 f];exact zj .term t
 .intro e f;rw[wF.1 f];exact qO .term t
 .intro i e j x a d;cases i with
  |succ i=>cases a
  |zero=>
    cases a;let⟨u,c,_⟩:=(qdS h).get d;rw[wy,ko,wy,k j u c,List.getD_eq_getElem?_getD,c];rfl
 .intro i e j x a d;cases i with
  |succ i=>cases a
  |zero=>
    cases a;let⟨u,c,m⟩:=(qdS h).get d;rw[List.getD_eq_getElem?_getD,c];exact m.mono g.le
theorem qx1{B N:Nat}{f:List (T×Int)}{a:List Nat}{g cap:Nat}{cs:List Value}(h:RS Γ0 w0 rd Γ σ w)(j:Stk B N Γ σ w f a g cap cs){q:Nat}{x:T}{n:Int}(m:f[q]?=some (x,n)):
  ∃Γ' σ' c,cs[q*5+3]?=some c/\RS Γ0 w0 rd Γ' σ' w/\Stk B N Γ' σ' w (f.take q) (a.take q) g cap (cs.take (q*5))/\Rep Γ' (.sl 4 (x.kids.map (qd .term)) 1) c/\Ext Γ w Γ' w:=by
 let⟨A,k,z⟩:=j.at m;let⟨d,σ1,c,y,v,l,u,t,s,C⟩:=qwi h.i z;refine⟨d,σ1,c,t,⟨h.x.trans l,u,y.trans h.bx⟩,(j.shrink (xr (getElem?_lt m))).later l λ r o R p=>?_,s,l⟩;rw[v r λ e=>?_];exact p;subst e;let⟨i,b⟩:=vY.1 o;rw[List.getElem?_take]at b;split at b<;>try cases b
 have:=(List.getElem?_inj (getElem?_lt b) j.nd).1 (b.trans k.symm);omega
theorem qxH{B N:Nat}{A:List (T×Int)}{f:List Nat}{g cap:Nat}{cs:List Value}{z V:TypeId}(hT:qiX P .term z V 56)(h:RS Γ0 w0 rd Γ σ w)(o:Stk B N Γ σ w A f g cap cs)(hB:w0.heap.size<=B){q:Nat}{t x:T}{n:Int}{J:Value}(E:A[q]?=some (t,n))(X:Rep Γ (.sl 4 (x.kids.map (qd .term)) 1) J)(l:ye (t.kids.length+1) 56=true)(e ty:TypeId):
  ∃p a,cs[q*5+3]?=some p/\f[q]?=some a/\(∃C D,p=.slice C t.kids.length D)/\
  ∃d w',(Builtin.append_ #[z,z] ty #[p,.slice (some ⟨w.heap.size,0,none⟩) 1 1]).run P (w.alloc (.cells #[.int .i64 x.kind,.string ⟨x.name.toArray⟩,.int .i64 x.sort,J] e))=.ok d w'/\(∃C D,d=.slice C (t.kids.length+1) D)/\
  ∃Γ' σ',Ext Γ w Γ' w'/\RS Γ0 w0 rd Γ' σ' (w'.setCell ⟨g,q*5+3,none⟩ d)/\Stk B N Γ' σ' (w'.setCell ⟨g,q*5+3,none⟩ d) (A.take q++[(.mk t.kind t.name t.sort (t.kids++[x]),n)]) (f.take (q+1)) g cap ((cs.set (q*5+3) d).take ((q+1)*5)):=by
 let⟨U,S,c2,c3⟩:=qDk h.i X e;let⟨a,j,Nq⟩:=o.at E;let⟨R,p,e1,Q,O,e4,M,L,f0,f1,f2,f3,f4⟩:=Nq;have v:R.c.length=t.kids.length:=by rw[M,wx]
 have r:=of_decide_eq_true l
 have y:zh (Ty.size .term) 56 σ (.rs a 0 t.kids.length R.ver false) [qd .term x]=some (.rs a 0 (t.kids.length+1) (R.ver+1) false,some {σ with rw:=σ.rw.set a {R with c:=R.c++[qd .term x],ver:=R.ver+1},wrr:=a::σ.wrr}):=by
  have m:R.k=Ty.size .term/\R.ver=R.ver/\t.kids.length=R.c.length/\(0:Nat)=0/\false=false/\R.fz<=R.c.length/\(t.kids.length+[qd .term x].length)*56<=2^47/\t.kids.length+[qd .term x].length<2^62:=
   ⟨Q,rfl,v.symm,rfl,rfl,by rw[O];exact wh _,r.1,r.2⟩
  have G:qm0 R (Ty.size .term) 0 t.kids.length R.ver false 56 [qd .term x]=some ({R with c:=R.c++[qd .term x],ver:=R.ver+1},t.kids.length+1):=if_pos m;have u:qJ (QU [qd .term x]) 0=false:=rfl;simp only[zh,u,e1,G]
 let⟨d,w',Γ',g1,g2,g3,K⟩:=qli hT c2 (L.mono S.le) c3 (by intro q' hq';rw[wF.1 hq'];exact zj .term x) (by intro q' hq';rw[wF.1 hq'];exact qO .term x) y ty;have b:=S.trans g2;have F:=(o.priv.ext b (qah o.own).2).1;have Z:=(qah o.own).1;refine⟨p,a,f3,j,(by cases L;exact⟨_,_,rfl⟩),d,w',g1,(by cases K;exact⟨_,_,rfl⟩),Γ',_,b,RS.set ⟨h.x.trans b,g3,h.bx⟩ F (by omega) _ _,o.kid b (getElem?_lt E) E j x (λ i I hi s R' H=>?_) (R:={R with c:=R.c++[qd .term x],ver:=R.ver+1}) ?_ Q O e4 (by show R.c++_=_;rw[M,kK];rfl) K⟩
 .have Y:=getElem?_lt s
  have W:I≠a:=λ e=>by
   have:=(List.getElem?_inj Y o.nd).1 (s.trans (e▸j.symm));omega
  show(σ.rw.set a _)[I]?=_;rw[List.getElem?_set_ne (λ e=>W e.symm)];exact H
 .show(σ.rw.set a _)[a]?=_;rw[List.getElem?_set_self (getElem?_lt e1)]
theorem qu5{vs:Array Value}{a:Nat}{f e c b:Value}(j:a+4<=vs.size)(off:Nat):((((vs.setIfInBounds a f).setIfInBounds (a+1) e).setIfInBounds (a+2) c).setIfInBounds (a+3) b)[off]?=if off<a then vs[off]? else if off<a+4 then([f,e,c,b]:List Value)[off-a]? else vs[off]?:=by
 simp only[Array.getElem?_setIfInBounds,xA];by_cases h:off<a
 .rw[if_pos h,if_neg (by omega),if_neg (by omega),if_neg (by omega),if_neg (by omega)]
 .rw[if_neg h];by_cases g:off<a+4
  .rw[if_pos g];obtain⟨d,rfl⟩:∃d,off=a+d:=⟨off-a,by omega⟩
   rw[show a+d-a=d by omega];have i:d<4:=by omega
   match d,i with
   |0,_=>rw[if_neg (by omega),if_neg (by omega),if_neg (by omega),if_pos (by omega),if_pos (by omega)];rfl
   |1,_=>rw[if_neg (by omega),if_neg (by omega),if_pos (by omega),if_pos (by omega)];rfl
   |2,_=>rw[if_neg (by omega),if_pos (by omega),if_pos (by omega)];rfl
   |3,_=>rw[if_pos (by omega),if_pos (by omega)];rfl
  .rw[if_neg g,if_neg (by omega),if_neg (by omega),if_neg (by omega),if_neg (by omega)]
theorem qEs{B N:Nat}{O:List (T×Int)}{s:List Nat}{g cap:Nat}{cs:List Value}(h:RS Γ0 w0 rd Γ σ w)(f:Stk B N Γ σ w O s g cap cs){q:Nat}{t x z:T}{ks:List T}{n:Int}{o:Value}(hq:O[q]?=some (t,n))(K:t.kids=ks++[z])(hx:Rep Γ (.sl 4 (x.kids.map (qd .term)) 1) o):
  ∃b m,cs[q*5+3]?=some (.slice (some ⟨b,0,none⟩) (ks.length+1) m)/\b≠g/\jf Γ b/\(∀j,j<4->∃u,w.cell? ⟨b,ks.length*4+j,none⟩=some u)/\(∀j,w.frozen? ⟨b,j,none⟩=false)/\
  ∃Γ' σ',Ext Γ w Γ' ((((w.setCell ⟨b,ks.length*4,none⟩ (.int .i64 x.kind)).setCell ⟨b,ks.length*4+1,none⟩ (.string ⟨x.name.toArray⟩)).setCell ⟨b,ks.length*4+2,none⟩ (.int .i64 x.sort)).setCell ⟨b,ks.length*4+3,none⟩ o)/\
   RS Γ0 w0 rd Γ' σ' ((((w.setCell ⟨b,ks.length*4,none⟩ (.int .i64 x.kind)).setCell ⟨b,ks.length*4+1,none⟩ (.string ⟨x.name.toArray⟩)).setCell ⟨b,ks.length*4+2,none⟩ (.int .i64 x.sort)).setCell ⟨b,ks.length*4+3,none⟩ o)/\
   Stk B N Γ' σ' ((((w.setCell ⟨b,ks.length*4,none⟩ (.int .i64 x.kind)).setCell ⟨b,ks.length*4+1,none⟩ (.string ⟨x.name.toArray⟩)).setCell ⟨b,ks.length*4+2,none⟩ (.int .i64 x.sort)).setCell ⟨b,ks.length*4+3,none⟩ o) (O.set q (.mk t.kind t.name t.sort (ks++[x]),n)) s g cap cs:=by
 let⟨r,hr,R,ku,e1,J,e3,e4,e5,e6,f0,f1,f2,f3,f4⟩:=f.at hq;have H:=h.i.row r R e1;have D:R.c.length=ks.length+1:=by rw[e5,K];simp
 have V:t.kids.length=ks.length+1:=by rw[K];simp
 rw[V]at e6;have G:R.c[ks.length]?=some (qd .term z):=by rw[e5,K];simp
 have hz:=H.real G;have C:=H.off e4
 obtain⟨b,m,rfl,hb⟩:∃b m,ku=.slice (some ⟨b,0,none⟩) (ks.length+1) m/\b=Γ.cur r:=by
  cases e6 with
  |rs _ _ _ _ _ a m v Q hc hf hl=>
    let⟨I,h2⟩:=hl (H.ver (by rw[e3];exact wh _)).symm;obtain I|I:=I
    .omega
    .rw[C,ko,wy]at I;exact⟨_,m,by rw[I],rfl⟩
 subst hb;have v:r<Γ.nr:=by rw[h.i.nr];exact getElem?_lt e1
 have A:jf Γ (Γ.cur r):=.inr ⟨r,v,hz,rfl⟩;have Y:Γ.cur r≠g:=λ e=>f.priv.own (e▸A);let⟨vs,e,fr,M,c2,c3,c4⟩:=H.blk hz;have X:fr=(0,0):=c4 (by omega);subst X;have F:=H.fit;rw[C,D,J,<-c2]at F;have s1:=heap_setCell_same w (Γ.cur r) (ks.length*4) vs e (.int .i64 x.kind) M;have s2:=heap_setCell_same _ (Γ.cur r) (ks.length*4+1) _ e (.string ⟨x.name.toArray⟩) s1;have s3:=heap_setCell_same _ (Γ.cur r) (ks.length*4+2) _ e (.int .i64 x.sort) s2;have s4:=heap_setCell_same _ (Γ.cur r) (ks.length*4+3) _ e o s3
 have l:∀k,k≠Γ.cur r->((((w.setCell ⟨Γ.cur r,ks.length*4,none⟩ (.int .i64 x.kind)).setCell ⟨Γ.cur r,ks.length*4+1,none⟩ (.string ⟨x.name.toArray⟩)).setCell ⟨Γ.cur r,ks.length*4+2,none⟩ (.int .i64 x.sort)).setCell ⟨Γ.cur r,ks.length*4+3,none⟩ o).heap[k]?=w.heap[k]?:=λ k L=>by
  rw[Below.heap_setCell _ _ _ _ L,Below.heap_setCell _ _ _ _ L,Below.heap_setCell _ _ _ _ L,Below.heap_setCell _ _ _ _ L]
 let⟨Γ',p,z2⟩:=qlw h.i e1 G (by rw[e3];exact wh _) e4 (e1:=qd .term x) ((zj .term x).trans J.symm) (qO .term x) (λ vs' e' ab Q=>by
   rw[M]at Q;cases Q;refine⟨s4,by simp,λ off ho=>?_⟩;rw[J]at ho;rw[qu5 (by omega)];split
   .rfl
   .rw[if_neg (by omega)])
  (λ j y W=>by
   have aa:j<4:=by have:=getElem?_lt W;rwa [zj .term x]at this
   let⟨u,hu,S⟩:=(qdS hx).get W;refine⟨u,?_,S,qjC (hx.one rfl) u (wc hu)⟩;rw[J,qu5 (by omega),if_neg (by omega),if_pos (by omega),show ks.length*4+j-ks.length*4=j by omega];exact hu) l rfl rfl rfl (by simp) (wa _) σ.wrr
 refine⟨Γ.cur r,m,f3,Y,A,λ j W=>⟨vs[ks.length*4+j]'(by omega),?_⟩,λ j=>frozen_of_row w _ j _ _ M,Γ',_,p,⟨h.x.trans p,z2,h.bx⟩,?_⟩
 .rw[jC M,Array.getElem?_eq_getElem]
 .let⟨p1,p2⟩:=f.priv.ext p (qah f.own).2;refine⟨by rw[wE];exact f.len,f.nd,p1,by rw[wE];exact qhb f.own p2,λ i t' n' P E d=>?_⟩;rw[List.getElem?_set]at E;split at E
  .rename_i e;subst e;rw[if_pos (getElem?_lt hq)]at E;cases E;rw[hr]at d;cases d;refine⟨{R with c:=R.c.set ks.length (qd .term x)},_,List.getElem?_set_self (getElem?_lt e1),J,e3,e4,?_,?_,f0,f1,f2,f3,f4⟩
   .show R.c.set ks.length (qd .term x)=(ks++[x]).map (qd .term);rw[e5,K,kK,kK];simp
   .have:=e6.mono p.le;show Rep Γ' (.rs r 0 (ks++[x]).length R.ver false) _;rw[wd];exact this
  .rename_i e;refine(f.node i t' n' P E d).later p.le λ R' Z=>?_
   have U:P≠r:=λ e'=>by
    have:=(List.getElem?_inj (getElem?_lt d) f.nd).1 (d.trans (e'▸hr.symm));omega
   show(σ.rw.set r _)[P]?=_;rw[List.getElem?_set_ne (λ e=>U e.symm)];exact Z
end
end Go.AmZ
namespace Go.AmZ
open Go Go.RowKit Go.GxZ
theorem qiN{P:Program}{o:Oper}{a:Act}{w:World}{K:Act->World->Prop}{Q:Exit->Act->World->Prop}(s x:Operand)(t:TypeId)(c:o.op=Op.call {callee:=Callee.builtin Builtin.append,args := #[s,x],argTypes := #[t,t]}){v d e:Value}{w':World}(g:a.eval s=v)(f:a.eval x=d)
  (b:(Builtin.append_ #[t,t] o.type #[v,d]).run P w=.ok e w') (h:K (a.put o.dst e) w'):Oper.wp P o a w K Q:=by
 unfold Oper.wp;simp[execOp,c,resolve,invoke,builtin,g,f,b,Result.andThen];exact h
theorem qiV{P:Program}{ops:Array Oper}{o:Oper}{a:Act}{w:World}{K:Act->World->Prop}{Q:Exit->Act->World->Prop}{E:Prop}(h:o.guard=none)(s x:Operand)(t:TypeId)(c:o.op=Op.call {callee:=Callee.builtin Builtin.append,args := #[s,x],argTypes := #[t,t]}){v d e:Value}{w':World}(g:a.eval s=v)(f:a.eval x=d)
  (b:(Builtin.append_ #[t,t] o.type #[v,d]).run P w=.ok e w') (i:K (a.put o.dst e) w'):if Region.wanted o (yielded ops a.tmps)=true then Oper.wp P o a w K Q else E:=by
 rw[if_pos (by simp[Region.wanted,h])];exact qiN s x t c g f b i
theorem qrs{P:Program}{ops:Array Oper}{b:List Oper}{o:Oper}{a:Act}{w:World}{Q:Exit->Act->World->Prop}(s x:Operand)(t:TypeId)(j:o.guard=none)(d:o.op=Op.call {callee:=Callee.builtin Builtin.append,args := #[s,x],argTypes := #[t,t]}){v e f:Value}{w':World}(i:a.eval s=v)(g:a.eval x=e)
  (c:(Builtin.append_ #[t,t] o.type #[v,e]).run P w=.ok f w') (k:wpList P ops Q b (a.put o.dst f) w'):wpList P ops Q (o::b) a w:=by
 have h:Region.wanted o (yielded ops a.tmps)=true:=by simp[Region.wanted,j]
 unfold wpList;rw[if_pos h];exact .inl (qiN s x t d i g c k)
abbrev qf5:=(Val RD×Unit)×((Int×List UInt8×Int×List T×Int×Unit)×Unit)
def qfn(F:Val RD->Option qf5)(rd:Val RD):Option (Val RD×(Int×List UInt8×Int×Int)):=match F rd with
 |some (r,v)=>match v.1.2.2.2.1 with
   |[]=>some (r.1,v.1.1,v.1.2.1,v.1.2.2.1,v.1.2.2.2.2.1)
   |_::_=>none
 |none=>none
def qui(F:Val RD->Option qf5)(c:List (T×Int)->Val RD->Option ((Val RD×Unit)×(T×Unit)))(b:List (T×Int))(rd:Val RD):Option ((Val RD×Unit)×(T×Unit)):=
 cond rd.2.2 (some ((rd,()),(T.mk 0 [] 0 [],()))) (qb b[b.length-1]? λ a=>cond (ilt 0 a.2)
  (cond (ye (b.length+1) 64) (qb (qfn F rd) λ h=>c (b.set (b.length-1) (a.1,iw .i64 (qbN a.2 1))++[(T.mk h.2.1 h.2.2.1 h.2.2.2.1 [],h.2.2.2.2)]) h.1) none)
  (cond (Nat.beq b.length 1) (some ((rd,()),(a.1,()))) (qb b[b.length-2]? λ p=>cond (ye (p.1.kids.length+1) 56) (c (b.take (b.length-2)++[(T.mk p.1.kind p.1.name p.1.sort (p.1.kids++[a.1]),p.2)]) rd) none)))
def qpv(F:Val RD->Option qf5):Nat->List (T×Int)->Val RD->Option ((Val RD×Unit)×(T×Unit)):=qR (λ _ _=>none) (qui F)
def qqY(F:Val RD->Option qf5)(k:Nat)(rd:Val RD):Option ((Val RD×Unit)×(T×Unit)):=qb (qfn F rd) λ h=>qpv F k [(T.mk h.2.1 h.2.2.1 h.2.2.2.1 [],h.2.2.2.2)] h.1
theorem qnP{F:Val RD->Option qf5}{rd f:Val RD}{nk sk lf:Int}{nm:List UInt8}(h:qfn F rd=some (f,nk,nm,sk,lf)):F rd=some ((f,()),((nk,nm,sk,[],lf,()),())):=by
 unfold qfn at h;split at h<;>try cases h
 rename_i r v i;split at h<;>cases h;rename_i g;let⟨⟨a,b,c,d,e,_⟩,_⟩:=v;let⟨r,_⟩:=r;have g:d=[]:=g;subst g;exact i
theorem qzt{F:Val RD->Option qf5}{g:List (T×Int)->Val RD->Option ((Val RD×Unit)×(T×Unit))}{c:List (T×Int)}{rd:Val RD}{r:(Val RD×Unit)×(T×Unit)}(h:qui F g c rd=some r):
  (rd.2.2=true/\r=((rd,()),(T.mk 0 [] 0 [],())))\/rd.2.2=false/\∃p b lt,c.length=p+1/\c[p]?=some (b,lt)/\
   ((0<lt/\ye (p+2) 64=true/\∃d nk nm sk lf,F rd=some ((d,()),((nk,nm,sk,[],lf,()),()))/\g (c.set p (b,iw .i64 (qbN lt 1))++[(T.mk nk nm sk [],lf)]) d=some r)\/
    ¬ 0<lt/\((p=0/\r=((rd,()),(b,())))\/∃q a n,p=q+1/\c[q]?=some (a,n)/\ye (a.kids.length+1) 56=true/\g (c.take q++[(T.mk a.kind a.name a.sort (a.kids++[b]),n)]) rd=some r)):=by
 unfold qui at h;cases m:rd.2.2 with
 |true=>rw[m]at h;exact .inl ⟨rfl,(kz h).symm⟩
 |false=>
   rw[m]at h;refine .inr ⟨rfl,?_⟩;cases e:c[c.length-1]? with
   |none=>rw[e]at h;cases h
   |some x=>
     let⟨b,lt⟩:=x;have o:=getElem?_lt e;obtain⟨p,s⟩:∃p,c.length=p+1:=⟨c.length-1,by omega⟩
     rw[s]at h e;simp only[Nat.add_sub_cancel]at h e;rw[e]at h;refine⟨p,b,lt,s,e,?_⟩;have h:cond (ilt 0 lt) _ _=some r:=h;cases i:ilt 0 lt with
     |true=>
       rw[i]at h;have h:cond (ye (p+1+1) 64) (qb (qfn F rd) _) none=some r:=h;cases f:ye (p+1+1) 64 with
       |false=>rw[f]at h;cases h
       |true=>
         rw[f]at h;refine .inl ⟨of_decide_eq_true i,rfl,?_⟩;have h:qb (qfn F rd) _=some r:=h;cases l:qfn F rd with
         |none=>rw[l]at h;cases h
         |some y=>
           let⟨d,nk,nm,sk,lf⟩:=y;rw[l]at h;exact⟨d,nk,nm,sk,lf,qnP l,h⟩
     |false=>
       rw[i]at h;refine .inr ⟨of_decide_eq_false i,?_⟩;have h:cond (Nat.beq (p+1) 1) (some ((rd,()),(b,()))) _=some r:=h;cases j:Nat.beq (p+1) 1 with
       |true=>
         rw[j]at h;exact .inl ⟨by have:=wg j;omega,(kz h).symm⟩
       |false=>
         rw[j]at h;obtain⟨q,rfl⟩:∃q,p=q+1:=⟨p-1,by cases p with|zero=>cases j|succ q=>rfl⟩
         have h:qb c[q+1+1-2]? _=some r:=h;rw[show q+1+1-2=q by omega]at h;cases k:c[q]? with
         |none=>rw[k]at h;cases h
         |some y=>
           let⟨a,n⟩:=y;rw[k]at h;have h:cond (ye (a.kids.length+1) 56) (g (c.take (q+1+1-2)++_) rd) none=some r:=h;rw[show q+1+1-2=q by omega]at h;cases f:ye (a.kids.length+1) 56 with
           |false=>rw[f]at h;cases h
           |true=>rw[f]at h;exact .inr ⟨q,a,n,rfl,k,f,h⟩
theorem qsx{Γ Γ':Gh}(q:∀b o u,Γ.mem b o=some u->Γ'.mem b o=some u){x:AV}{u:Value}(h:Rep Γ x u):qk x=true->Rep Γ' x u:=by
 induction h with
 |v x h=>exact λ _=>.v x h
 |sl k es f a n cap b o us p t s r l y w g z m=>
   exact λ _=>.sl k es f a n cap b o us p t s r l y w (λ i e j x d c=>q _ _ _ (g i e j x d c)) (λ i e j x d c=>m i e j x d c (l e (wc d) x (wc c)))
 |_=>intro h;cases h
section
variable {P:Program}{Γ0 Γ:Gh}{σ0 σ:St}{w0 w:World}{rd:Val RD}
theorem qzS(G:Inv Γ0 σ0 w0)(p:σ0.bx.length=1)(c:σ0.rw=[])(h:RS Γ0 w0 rd Γ σ w){t:T}{us:List Value}(s:RepL Γ (qd .term t) us)(F:∀u∈us,u.oneCell'=true):
  ∃v Γ',(Ending.returned (.agg us.toArray):Ending)=.returned v/\Ext Γ0 w0 Γ' w/\Inv Γ' (turn σ0 (some ⟨[qd RD rd],[],List.range σ0.bx.length,List.range σ0.rw.length⟩)) w/\Rep Γ' (zK .term t) v/\qv {σ0 with wr:=[],wrr:=[]} (turn {σ0 with wr:=[],wrr:=[]} (some ⟨[qd RD rd],[],List.range σ0.bx.length,List.range σ0.rw.length⟩)):=by
 let⟨q,g,C,r⟩:= σ0;have c:g=[]:=c;subst c;obtain⟨y,rfl⟩:∃y,q=[y]:=xI.1 p
 let⟨m,B,H,A,z⟩:=qmC G h.x h.i (by rw[h.bx];exact wa _) [qd RD rd] [] rfl (by simp) kN [] [] (λ i cs d=>by
  cases i with
  |succ i=>cases d
  |zero=>
    cases d;refine⟨qd RD rd,by rw[h.bx];rfl,(λ h=>nomatch (show true=false from h)),λ m n _ us f=>⟨f.len,λ j x u e k=>qsx (Γ:=Γ) (Γ':=yF Γ m 1 [] 0 []) (λ b o u l=>n.le.mem b o u l) (f.rep j x u e k) (qO RD rd x (wc e))⟩⟩) (λ a so R h=>by cases h) (λ a b j R R' h=>by cases h) [0] []
 refine⟨_,_,rfl,A,z,.agg _ us s.len F λ i x u e f=>qsx (Γ:=Γ) (Γ':=yF Γ m 1 [] 0 []) (λ b o u n=>B.le.mem b o u n) (s.rep i x u e f) (qO .term t x (wc e)),wa _,wa _,λ i d E=>?_,λ i d _=>absurd d (wD _),λ i h=>(by cases h),λ i h=>(by cases h)⟩;have:i=0:=by have:i<1:=d;omega
 exact absurd (by rw[this];exact wF.2 rfl) E
theorem qBD{B N:Nat}{m:List (T×Int)}{c:List Nat}{g cap:Nat}{cs:List Value}{q:TypeId}{i:TypeInfo}{z:Value}(J:P.underlying q=some (.slice N))(M:P.info? N=some i)(I:i.zero=some z)(x:i.size=5)(F:i.bytes=64)(v:z.cells.size=5)
  (h:RS Γ0 w0 rd Γ σ w) (s:Stk B N Γ σ w m c g cap cs) (Y:w0.heap.size<=B) {nk sk lf:Int}{nm:List UInt8}{n:Value}{r:Nat} (U:σ.rw[r]?=some ⟨4,[],0,0,false⟩) (o:Rep Γ (.rs r 0 0 0 false) n) (K:r ∉ c) (d:ye (m.length+1) 64=true) (ty:TypeId):
  ∃t w',(Builtin.append_ #[q,q] ty #[.slice (some ⟨g,0,none⟩) m.length cap,.slice (some ⟨w.heap.size,0,none⟩) 1 1]).run P (w.alloc (.cells #[.int .i64 nk,.string ⟨nm.toArray⟩,.int .i64 sk,n,.int .i64 lf] N))=.ok t w'/\
  ∃l a,t=.slice (some ⟨l,0,none⟩) ((m.length+1:Nat)) a/\RS Γ0 w0 rd Γ σ w'/\Stk B N Γ σ w' (m++[(.mk nk nm sk [],lf)]) (c++[r]) l a (cs++[.int .i64 nk,.string ⟨nm.toArray⟩,.int .i64 sk,n,.int .i64 lf])/\
   w.heap.size<=w'.heap.size/\(∀b,b<w.heap.size->b≠g->w'.heap[b]?=w.heap[b]?)/\(l=g\/w.heap.size<=l):=by
 have S:=s.own.alloc (.cells #[.int .i64 nk,.string ⟨nm.toArray⟩,.int .i64 sk,n,.int .i64 lf] N);have A:=of_decide_eq_true d;have V:=qah s.own
 let⟨t,w',e1,X,p,H⟩:=qgL (P:=P) (w.alloc (.cells #[.int .i64 nk,.string ⟨nm.toArray⟩,.int .i64 sk,n,.int .i64 lf] N)) B q ty N i z 5 64 J M I x F v (by decide) _ m.length cs S ⟨w.heap.size,0,none⟩ 1 1 [.int .i64 nk,.string ⟨nm.toArray⟩,.int .i64 sk,n,.int .i64 lf] rfl
  (λ j u L=>by rw[qvk,World.cell?_alloc_mark];simpa using L) (λ u G=>by
   simp only[wM,kW,or_false]at G;obtain rfl|rfl|rfl|rfl|rfl:=G<;>first|rfl|exact o.one rfl) (by unfold maxLen;omega) (by have:=A.1;omega) (by simp;omega)
 have E:=GxZ.run_drawn _ e1;have f:w.grownBy w' (some g):=⟨p.os,p.tape,p.output,by have:=p.size;simp at this;omega,λ k D C=>(p.block k (by simp;omega) C).trans (Below.heap_alloc _ _ _ D)⟩
 have W:=RS.grown h f (λ b e=>by cases e;exact⟨s.priv,by omega⟩) E;obtain⟨l,a,rfl,y⟩:=Stk.push (Γ:=Γ) (σ:=σ) s (r:=r) (R:=⟨4,[],0,0,false⟩) U rfl rfl rfl rfl o K X (H.imp id λ O k D=>qbC.new h.i (by have:=O k D;simp at this;omega));refine⟨_,w',e1,l,a,rfl,W,y,f.size,λ b Q C=>f.block b Q (λ e=>C (by cases e;rfl)),?_⟩;obtain e|e:=H
 .cases e;exact .inl rfl
 .have:=e l rfl;simp at this;exact .inr (by omega)
theorem qEy{B N:Nat}(h:RS Γ0 w0 rd Γ σ w)(f:B<=w.heap.size){nk sk lf:Int}{nm:List UInt8}{a:Value}{r:Nat}(e:σ.rw[r]?=some ⟨4,[],0,0,false⟩)(c:Rep Γ (.rs r 0 0 0 false) a):
  RS Γ0 w0 rd Γ σ (w.alloc (.cells #[.int .i64 nk,.string ⟨nm.toArray⟩,.int .i64 sk,a,.int .i64 lf] N))/\Stk B N Γ σ (w.alloc (.cells #[.int .i64 nk,.string ⟨nm.toArray⟩,.int .i64 sk,a,.int .i64 lf] N)) [(.mk nk nm sk [],lf)] [r] w.heap.size 1 [.int .i64 nk,.string ⟨nm.toArray⟩,.int .i64 sk,a,.int .i64 lf]:=by
 refine⟨h.alloc _,rfl,by simp,qbC.new h.i (wa _),World.ownsRow_lit w #[.int .i64 nk,.string ⟨nm.toArray⟩,.int .i64 sk,a,.int .i64 lf] 1 f (by decide) rfl,λ i t n g d b=>?_⟩;cases i with
 |succ i=>cases d
 |zero=>
   cases d;cases b;exact⟨_,a,e,rfl,rfl,rfl,rfl,c,rfl,rfl,rfl,rfl,rfl⟩
theorem Stk.id_lt{B N:Nat}{b:List (T×Int)}{a:List Nat}{g cap:Nat}{cs:List Value}(c:Stk B N Γ σ w b a g cap cs):σ.rw.length ∉ a:=λ h=>by
 let⟨i,d⟩:=vY.1 h;have e:i<b.length:=by rw[<-c.len];exact getElem?_lt d
 let⟨R,_,f,_⟩:=c.node i _ _ _ (List.getElem?_eq_getElem e) d;exact absurd (getElem?_lt f) (xU _)
def qas(Γ:Gh)(w:World)(b:Nat)(e:TypeId):Prop:=qbC Γ b/\b<w.heap.size/\w.heap[b]?=some (.cells #[.int .i64 0,.string ⟨#[]⟩,.int .i64 0,.slice none 0 0] e (0,0))
theorem qas.cells{b:Nat}{e:TypeId}(h:qas Γ w b e):w.cell? ⟨b,0,none⟩=some (.int .i64 0)/\w.cell? ⟨b,1,none⟩=some (.string ⟨#[]⟩)/\w.cell? ⟨b,2,none⟩=some (.int .i64 0)/\w.cell? ⟨b,3,none⟩=some (.slice none 0 0)/\∀i,w.frozen? ⟨b,i,none⟩=false:=by
 let⟨_,_,h⟩:=h;have a:=jC h;exact⟨a 0,a 1,a 2,a 3,λ i=>frozen_of_row w b i _ _ h⟩
theorem qas.ext{Γ':Gh}{w':World}{b:Nat}{e:TypeId}(h:qas Γ w b e)(d:Ext Γ w Γ' w'):qas Γ' w' b e:=
 let⟨a,c⟩:=h.1.ext d h.2.1;⟨a,wv h.2.1 d.size,c.trans h.2.2⟩
theorem qas.same{w':World}{b:Nat}{e:TypeId}(h:qas Γ w b e)(a:w.heap.size<=w'.heap.size)(c:w'.heap[b]?=w.heap[b]?):qas Γ w' b e:=⟨h.1,wv h.2.1 a,c.trans h.2.2⟩
theorem Stk.drew{B N:Nat}{b:List (T×Int)}{a:List Nat}{g cap:Nat}{cs:List Value}(h:Stk B N Γ σ w b a g cap cs):Stk B N Γ σ w.drew b a g cap cs:=⟨h.len,h.nd,h.priv,qhb h.own rfl,h.node⟩
theorem qas.drew{b:Nat}{e:TypeId}(h:qas Γ w b e):qas Γ w.drew b e:=h
theorem RS.drew'(h:RS Γ0 w0 rd Γ σ w):RS Γ0 w0 rd Γ σ w.drew:=h.drew
end
end Go.AmZ
namespace Go.AmZ
open Go Go.GxZ
set_option linter.unusedVariables false
set_option maxRecDepth 100000
noncomputable section
abbrev Z1:=Option (List (Y8×(Int×Int)))
abbrev Z2:=Option (Bool)
abbrev Z3:=Option (((Y8×(Int×Bool))×Unit)×((Int)×Unit))
abbrev Z4:=Y8×(Int×Bool)
abbrev Z5:=Option (((Y8×(Int×Bool))×Unit)×((Y8)×Unit))
abbrev Z6:=List UInt8
abbrev Z7:=Int->Int->Int->Z6->Int->Bool->Z5
abbrev Z8:=Option (((Y8×(Int×Bool))×Unit)×(((Int)×(Y8)×(Int)×(List (T))×(Int)×Unit)×Unit))
abbrev Z9:=Int->Z2
abbrev Z10:=Z6->Int->Int->Z2
abbrev Z11:=Y8->Z2
abbrev Z12:=Option (((Int)×(Int)×Unit)×((Int)×Unit))
abbrev Z13:=T->Int->Int->Int->Z12
abbrev Z14:=List (T)
abbrev Z15:=Int->Z14->Int->Int->Int->Int->Z12
abbrev Z16:=Option (Int)
abbrev Z17:=T->Z16
abbrev Z18:=Option (Y8×(Int×(Int×Int)))
abbrev Z19:=List (Y8×(Int×(Int×Int)))
abbrev Z20:=Z6->Z19->Int->Int->Z6->Int->Int->Int->Z18
abbrev Z21:=Z14->Int->Int->Int->Z6->Int->Z14->Z16
abbrev Z22:=Z14->Int->Int->Z16
abbrev Z23:=Int->Z14->Int->Int->Z16
abbrev Z24:=T->T->Z16
abbrev Z25:=Int->Int->Int->Z6->Int->Z14->Int->Z6->Int->Z14->Z16
abbrev Z26:=T->T->Z2
abbrev Z27:=Option (T)
abbrev Z28:=T->Z27
abbrev Z29:=Option (TL)
abbrev Z30:=(List (TL))->Int->(List (TL))->Int->Int->Z29
abbrev Z31:=(List (TL))->Int->Int->Z14->Z29
abbrev Z32:=Z14->Z14->Z14->Z29
abbrev Z33:=T->Z29
abbrev Z34:=Z14->Z14->Int->Int->Z29
abbrev Z35:=Z14->Int->Int->Int->Z6->Int->Int->Z6->Int->Z14->Z14->Z27
abbrev Z36:=Option ((T)×(Int))
abbrev Z37:=(List (Int))->Int->Int->Int->Z6->Int->Z14->Int->Z6->Int->Int->Z6->Int->Z14->Z14->Z36
abbrev Z38:=TL->Z29
abbrev Z39:=Z14->Int->Int->Z14->Z29
abbrev Z40:=Z14->Z14->Int->Int->Int->Z6->Int->Z14->Z36
abbrev Z41:=T->Z2
abbrev Z42:=Int->Int->Int->Z6->Int->Int->Z6->Int->Z14->Z14->Z27
abbrev Z43:=Option ((Int)×(Bool))
abbrev Z44:=List (T×Int)
abbrev Z45:=Z44->Int->Int->Int->Int->Z6->Int->Z14->Z43
abbrev Z46:=Option ((Unit)×((List (T×Int))×Unit))
abbrev Z47:=Option ((Unit)×((List (T×Int))×(Bool)×Unit))
abbrev Z48:=Z44->T->Int->Z47
abbrev Z49:=Int->Z14->Int->Int->Z44->Z47
abbrev Z50:=Option ((List (T×Int))×(Int))
abbrev Z51:=Z44->Z44->Int->Int->Z16
abbrev Z52:=Z44->Z16
abbrev Z53:=Y8->TL->Z27
abbrev Z54:=Z44->Int->Int->Int->Z6->Int->Z14->Z14->Z14->Z36
abbrev Z55:=Z44->Int->Int->Int->Int->Int->Z6->Int->Int->Z6->Int->Z14->Int->Z14->Z14->Z14->Z36
abbrev Z56:=Z44->Int->Int->Z44->Z46
abbrev Z57:=Z44->Int->Int->Z16
abbrev Z58:=Z44->Int->Int->Z44->Z50
abbrev Z59:=T->Z36
abbrev Z60:=Z14->Int->Int->Int->Z6->Int->Z14->Int->Z6->Int->Int->Z6->Int->Z14->Z14->Z36
abbrev Z61:=Z14->Int->Int->Z2
abbrev Z62:=Option ((T)×((Int)×(Int)))
abbrev Z63:=Option (((Int)×(List (T))×Unit)×(Unit))
abbrev Z64:=T->Int->Z14->Z63
abbrev Z65:=Z14->Int->Int->Int->Z14->Z63
abbrev Z66:=Option ((Unit)×((List (T))×Unit))
abbrev Z67:=Int->Int->Z14->Z66
abbrev Z68:=Option (((T)×Unit)×((Bool)×Unit))
abbrev Z69:=Option (((T)×Unit)×((Int)×Unit))
abbrev Z70:=(List (Y8×(Int×Int)))->Int->Int->Int->Z6->Int->Z14->Z69
abbrev Z71:=Option ((Unit)×((List (Int))×Unit))
abbrev Z72:=(List (Int))->T->Z71
abbrev Z73:=Z14->Int->Int->(List (Int))->Z71
abbrev Z74:=List (T×T)
abbrev Z75:=Z74->T->Z27
abbrev Z76:=Z74->Z74->Int->Int->Int->Z6->Int->Z14->Int->Z6->Int->Z14->Z27
abbrev Z77:=Z74->Z14->Int->Int->Int->Z6->Int->Int->Z6->Int->Z14->Z14->Z27
abbrev Z78:=Option (((List (Y8×Y8))×Unit)×((T)×Unit))
abbrev Z79:=T->Y8->(List (Y8×Y8))->Z78
abbrev Z80:=Z6->Z14->Int->Int->(List (Y8×Y8))->Int->Z6->Int->Int->Z6->Int->Z14->Z14->Z78
abbrev Z81:=List ((Y8×Int)×T)
abbrev Z82:=Option (((List ((Y8×Int)×T))×Unit)×((T)×Unit))
abbrev Z83:=Z81->T->Z82
abbrev Z84:=Z14->Int->Int->Z81->Int->Z6->Int->Z14->Int->Z6->Int->Z14->Z14->Z82
abbrev Z85:=Option ((((List (T×T))×(List (T×T))×Unit)×Unit)×((Int)×Unit))
abbrev Z86:=Int->Int->Z74->Int->Z6->Int->Z14->Int->Z6->Int->Z14->Bool->Z81->Z74->Z74->Z85
abbrev Z87:=(List (T×T))×(List (T×T))×Unit
abbrev Z88:=Z87->T->T->Z85
abbrev Z89:=TL->T->Z68
abbrev Z90:=T->T->Z68
abbrev Z91:=TL->T->Z69
abbrev Z92:=Z14->Int->Int->Int->Z6->Int->Z14->Z69
abbrev Z93:=Int->Int->Z74->Int->Z6->Int->Z14->Int->Z6->Int->Z14->Z74->Z74->Z85
abbrev Z94:=Option ((Unit)×((List (T×T))×Unit))
abbrev Z95:=Option ((List (T×T))×(Int))
abbrev Z96:=Z74->Z74->Z95
abbrev Z97:=Option ((Int)×((Int)×((T)×(Int))))
abbrev Z98:=Z14->Int->Int->Int->Z6->Int->Z14->Z97
abbrev Z99:=Z14->Int->Int->Int->Int->Int->Z6->Int->Int->Z6->Int->Z14->Z14->Z97
abbrev qyt:=T->Int->Z16
abbrev qrS:=Int->Int->Int->Z6->Int->Z14->Z16
abbrev qls:=Option ((TL)×(Int))
abbrev qFA:=Z14->Int->Int->Z14->qls
abbrev qFL:=Z6->Int->Z2
abbrev qyO:=Int->Int->Z6->Int->Z14->Z16
abbrev qFE:=Option (List (Y8×(Int×(Int×Int))))
abbrev qFr:=Z6->Z19->Int->Z16
abbrev qFb:=Z19->Int->Int->Z6->Int->Z14->Z2
abbrev qER:=Int->Int->Z6->Int->Z14->Z2
abbrev qF5:=Int->Int->Z6->Int->Z14->Z14->Z29
abbrev qFn:=Z14->Int->Z2
abbrev qF6:=Z14->Int->Z16
abbrev qFX:=Z14->Int->Z14->qls
abbrev qEV:=Int->Int->Z6->Int->Z14->Int->Z6->Int->Z14->Z16
abbrev qFm:=Z14->Z14->Int->Z2
def qk4(m:Nat):Z1:=
 some [([112,97,105,114],(2,2)),([101,110,99],(2,2)),([97,101,110,99],(2,2)),([112,107],(1,1)),([115,105,103,110],(2,2)),([104,97,115,104],(1,1)),([120,111,114],(2,8)),([122,101,114,111],(0,0)),([101,120,112],(2,2)),([109,117,108],(2,8)),([105,110,118],(1,1)),([111,110,101],(0,0)),([115,107],(1,1)),([115,104,107],(2,2)),([110,101,119],(1,8))]
def Jj:Nat->(Z1):=qf (none) λ m _=>qk4 m
def qfu(m:Nat)(a:Y8×(Int×Int)):Z2:=
 some (qh (ieq a.2.1 a.2.2))
def Ju:Nat->((Y8×(Int×Int))->Z2):=qf (λ _=>none) λ m _=>qfu m
def qhe(m:Nat)(a:Y8×(Int×Bool))(c g:Int):Z3:=
 let b:Z3:=(some (((a.1,(a.2.1,true)),()),(c,())));cond a.2.2 b (cond (ile a.1.length a.2.1) b (qb (qg a.1 a.2.1) λ f=>
 cond (ilt (iw .i64 ((UInt8.toNat f:Nat):Int)) c) b (qb (qg a.1 a.2.1) λ e=>
 cond (ilt g (iw .i64 ((UInt8.toNat e:Nat):Int))) b (qb (qg a.1 (iw .i64 (qbN (iw .i64 (qj a.2.1 1)) 1))) λ d=>
 some (((a.1,(iw .i64 (qj a.2.1 1),a.2.2)),()),(iw .i64 ((UInt8.toNat d:Nat):Int),()))))))
def jM:Nat->(Z4->Int->Int->Z3):=qf (λ _ _ _=>none) λ m _=>qhe m
def qck(m:Nat)(c:Z7)(b:Y8×(Int×Bool)):Z5:=
 qb (jM m (b.1,(b.2.1,b.2.2)) 1 24) λ a=>c a.1.1.2.1 a.2.1 0 a.1.1.1 a.1.1.2.1 a.1.1.2.2
def qhj(m:Nat)(l:Z7)(g h f:Int)(c:Y8)(a:Int)(e:Bool):Z5:=
 cond (ilt f h) (let d:Z5:=(some (((c,(a,true)),()),([],())));cond e d (cond (ile c.length a) d (qb (qg c a) λ b=>let j2:Z5:=
 (l g h (iw .i64 (qj f 1)) c (iw .i64 (qj a 1)) e);let k:Z5:=(let j:Z5:=(cond (ieq f 0) d (let i:Z5:=(cond (qh (ieq ((UInt8.toNat b:Nat):Int) 95))
 (cond (qh (ieq ((UInt8.toNat b:Nat):Int) 35)) d j2) j2);cond (ilt ((UInt8.toNat b:Nat):Int) 48) i (cond (ilt 57 ((UInt8.toNat b:Nat):Int)) i j2)));cond (ile 65 ((UInt8.toNat b:Nat):Int))
 (cond (qh (ile ((UInt8.toNat b:Nat):Int) 90)) j j2) j);cond (ile 97 ((UInt8.toNat b:Nat):Int)) (cond (ile ((UInt8.toNat b:Nat):Int) 122) j2 k) k))) (cond (inb a c.length)
 (cond (inb g (Int.toNat a)) (some (((c,(a,e)),()),(qaL c g a,()))) none) none)
def qcC(m:Nat):=qR (λ _ _ _ _ _ _=>none) λ a=>qhj m a
def qdP:Nat->(Z4->Z5):=qf (λ _=>none) λ m _=>qck m (qcC m m)
def qhk(m:Nat)(a:Y8×(Int×Bool)):Z8:=
 let g:Z8:=(qb (Jj m) λ j=>qb (Jj m) λ i=>qb (jM m (a.1,(a.2.1,a.2.2)) 16 (iw .i64 (qbN (iw .i64 (qj 16 i.length)) 1))) λ c=>
 qb (qg j (iw .i64 (qbN c.2.1 16))) λ b=>qb (Ju m (b.1,(b.2.1,b.2.2))) λ h=>
 cond h (qb (jM m (c.1.1.1,(c.1.1.2.1,c.1.1.2.2)) b.2.1 b.2.2) λ d=>some (((d.1.1.1,(d.1.1.2.1,d.1.1.2.2)),()),((3,b.1,0,[],d.2.1,()),())))
 (some (((c.1.1.1,(c.1.1.2.1,c.1.1.2.2)),()),((3,b.1,0,[],b.2.1,()),()))));cond (ilt a.2.1 a.1.length) (qb (qg a.1 a.2.1) λ k=>cond (ile ((UInt8.toNat k:Nat):Int) 5)
 (qb (jM m (a.1,(a.2.1,a.2.2)) 0 5) λ f=>qb (qdP m (f.1.1.1,(f.1.1.2.1,f.1.1.2.2))) λ e=>
 some (((e.1.1.1,(e.1.1.2.1,e.1.1.2.2)),()),((2,e.2.1,f.2.1,[],0,()),()))) g) g
def qaH:Nat->(Z4->Z8):=qf (λ _=>none) λ m _=>qhk m
def qaD:Nat->Val RD->Option ((Val RD×Unit)×(T×Unit)):=qf (λ _=>none) λ m _=>qqY (qaH m) m
def qgE(m:Nat)(a:Int):Z2:=
 let d:Z2:=(let c:Z2:=(let b:Z2:=(cond (ieq a 95) (some true) (some (ieq a 35)));cond (ile 48 a) (cond (ile a 57) (some true) b) b);cond (ile 65 a) (cond (ile a 90) (some true) c) c);
 cond (ile 97 a) (cond (ile a 122) (some true) d) d
def qfg:Nat->Z9:=qf (λ _=>none) λ m _=>qgE m
def qbS(m:Nat)(i:Z10)(a:Y8):Z2:=
 cond (qx a []) (some false) (cond (ilt 24 a.length) (some false) (qb (qg a 0) λ h=>qb (qfg m ((UInt8.toNat h:Nat):Int)) λ g=>cond (qh g) (some false) (qb (qg a 0) λ f=>
 let b:Z2:=(qb (qg a 0) λ d=>cond (ieq ((UInt8.toNat d:Nat):Int) 95) (some false) (qb (qg a 0) λ c=>cond (ieq ((UInt8.toNat c:Nat):Int) 35) (some false) (i a a.length 0)));
 cond (ile 48 ((UInt8.toNat f:Nat):Int)) (qb (qg a 0) λ e=>cond (ile ((UInt8.toNat e:Nat):Int) 57) (some false) b) b)))
def qca(m:Nat)(f:Z10)(c:Y8)(b a:Int):Z2:=
 cond (ilt a b) (qb (qg c a) λ e=>qb (qfg m ((UInt8.toNat e:Nat):Int)) λ d=>cond (qh d) (some false) (f c b (iw .i64 (qj a 1)))) (some true)
def jr(m:Nat):=qR (λ _ _ _=>none) λ a=>qca m a
def qaZ:Nat->Z11:=qf (λ _=>none) λ m _=>qbS m (jr m m)
def qcN(m:Nat)(b:Z13)(i:Z15)(a:T)(d f e:Int):Z12:=
 let g:Z12:=(qb (qaZ m a.name) λ h=>cond (qh h) (some ((iw .i64 (qj f 1),qiH e d,()),(2,()))) (cond (ilt 8 a.kids.length) (some ((iw .i64 (qj f 1),qiH e d,()),(3,())))
 (i d a.kids a.kids.length 0 (iw .i64 (qj f 1)) (qiH e d))));let c:Z12:=(some ((iw .i64 (qj f 1),qiH e d,()),(1,())));let j3:Z12:=
 (cond (ilt a.sort 0) c (cond (ilt 5 a.sort) c (cond (ilt 0 a.kids.length) c g)));cond (ieq a.kind 1) j3 (cond (ieq a.kind 2) j3 (cond (ieq a.kind 3) (cond (qh (ieq a.sort 0)) c g) c))
def qcK(m:Nat)(a:Z13)(j:Z15)(h:Int)(g:TL)(f c e d:Int):Z12:=
 cond (ilt c f) (qb (qg g c) λ i=>qb (a (re i) (iw .i64 (qj h 1)) e d) λ b=>cond (qh (ieq b.2.1 0)) (some ((b.1.1,b.1.2.1,()),(b.2.1,())))
 (j h g f (iw .i64 (qj c 1)) b.1.1 b.1.2.1)) (some ((e,d,()),(0,())))
def yx(m:Nat)(a:Z13):=qR (λ _ _ _ _ _ _=>none) λ b=>qcK m a b
def zk:Nat->Z13:=qf (λ _ _ _ _=>none) λ m a=>qcN m a (yx m a m)
def qfD(m:Nat)(b:T):Z16:=
 qb (zk m (re b) 1 0 0) λ a=>cond (qh (ieq a.2.1 0)) (some a.2.1) (cond (ilt 400 a.1.1) (some 3) (cond (ilt 40 a.1.2.1) (some 3) (some 0)))
def qN:Nat->Z17:=qf (λ _=>none) λ m _=>qfD m
def qaI(m:Nat)(c:Z20)(b:Y8):Z18:=
 qb (qeQ 0) λ a=>c b a a.length 0 [] 0 0 0
def qaz(m:Nat)(j:Z20)(e:Y8)(d:List (Y8×(Int×(Int×Int))))(c b:Int)(i:Y8)(h g f:Int):Z18:=
 cond (ilt b c) (qb (qg d b) λ a=>cond (qx a.1 e) (some (a.1,(a.2.1,(a.2.2.1,a.2.2.2)))) (j e d c (iw .i64 (qj b 1)) i h g f)) (some ([],(0,(0,0))))
def jS(m:Nat):=qR (λ _ _ _ _ _ _ _ _=>none) λ a=>qaz m a
def JD:Nat->(Y8->Z18):=qf (λ _=>none) λ m _=>qaI m (jS m m)
def qbm(m:Nat)(b:Z17)(e:Z21)(d:Z22)(a:T):Z16:=
 cond (qh (ieq a.kind 3)) (some 0) (qb (JD m a.name) λ c=>cond (ieq c.2.2.2 0) (some 10) (cond (ilt a.kids.length c.2.1) (some 6) (cond (ilt c.2.2.1 a.kids.length) (some 6)
 (cond (qx a.name [115,107]) (e a.kids a.kids.length 0 a.kind a.name a.sort a.kids) (cond (qx a.name [115,104,107]) (e a.kids a.kids.length 0 a.kind a.name a.sort a.kids)
 (cond (qx a.name [110,101,119]) (qb (qg a.kids 0) λ f=>cond (qh (ieq f.kind 2)) (some 10) (d a.kids a.kids.length 0)) (d a.kids a.kids.length 0)))))))
def qbd(m:Nat)(a:Z17)(k:Z21)(j:Z22)(e:TL)(d c i:Int)(h:Y8)(g:Int)(b:TL):Z16:=
 cond (ilt c d) (qb (qg e c) λ f=>cond (ieq f.kind 3) (some 10) (cond (qh (ieq f.sort 1)) (some 10) (k e d (iw .i64 (qj c 1)) i h g b))) (j b b.length 0)
def qbc(m:Nat)(a:Z17)(h:Z21)(g:Z22)(d:TL)(c b:Int):Z16:=
 cond (ilt b c) (qb (qg d b) λ f=>qb (a (re f)) λ e=>cond (qh (ieq e 0)) (some e) (g d c (iw .i64 (qj b 1)))) (some 0)
def qC(m:Nat)(a:Z17):=qR ((λ _ _ _ _ _ _ _=>none,λ _ _ _=>none)) λ b=>(qbd m a b.1 b.2,qbc m a b.1 b.2)
def qn:Nat->Z17:=qf (λ _=>none) λ m a=>qbm m a (qC m a m).1 (qC m a m).2
def qee(m:Nat)(b:T):Z16:=
 qb (qN m (re b)) λ a=>cond (qh (ieq a 0)) (some a) (qb (qn m (re b)) λ c=>some c)
def Je:Nat->Z17:=qf (λ _=>none) λ m _=>qee m
def qg2(m:Nat)(b a:Int):Z16:=
 cond (ilt b a) (some (-1)) (cond (ilt a b) (some 1) (some 0))
def qbJ:Nat->(Int->Int->Z16):=qf (λ _ _=>none) λ m _=>qg2 m
def qdx(m:Nat)(a:Z17)(c:Z23)(b:T):Z16:=
 c 1 b.kids b.kids.length 0
def qek(m:Nat)(a:Z17)(h:Z23)(e:Int)(d:TL)(c b:Int):Z16:=
 cond (ilt b c) (qb (qg d b) λ g=>qb (a (re g)) λ f=>h (iw .i64 (qj e f)) d c (iw .i64 (qj b 1))) (some e)
def J1(m:Nat)(a:Z17):=qR (λ _ _ _ _=>none) λ b=>qek m a b
def jb:Nat->Z17:=qf (λ _=>none) λ m a=>qdx m a (J1 m a m)
def qbl(m:Nat)(c:Z24)(e:Z25)(b a:T):Z16:=
 qb (jb m (re b)) λ n=>qb (jb m (re a)) λ l=>qb (qbJ m n l) λ d=>let j1:Z16:=(qb (qbJ m b.kids.length a.kids.length) λ k=>
 e k 0 b.kind b.name b.sort b.kids a.kind a.name a.sort a.kids);let h:Z16:=(qb (qbJ m b.sort a.sort) λ i=>
 cond (ieq i 0) j1 (e i 0 b.kind b.name b.sort b.kids a.kind a.name a.sort a.kids));let j:Z16:=(qb (strings_Compare 0 b.name a.name) λ g=>
 cond (ieq g 0) h (cond (ieq g 0) j1 (e g 0 b.kind b.name b.sort b.kids a.kind a.name a.sort a.kids)));cond (ieq d 0) (qb (qbJ m b.kind a.kind) λ f=>
 cond (ieq f 0) j (cond (ieq f 0) h (cond (ieq f 0) j1 (e f 0 b.kind b.name b.sort b.kids a.kind a.name a.sort a.kids))))
 (cond (ieq d 0) j (cond (ieq d 0) h (cond (ieq d 0) j1 (e d 0 b.kind b.name b.sort b.kids a.kind a.name a.sort a.kids))))
def JH(m:Nat)(a:Z24)(p:Z25)(d b k:Int)(j:Y8)(i:Int)(c:TL)(h:Int)(g:Y8)(f:Int)(e:TL):Z16:=
 cond (ieq d 0) (cond (ilt b c.length) (qb (qg c b) λ o=>qb (qg e b) λ n=>qb (a (re o) (re n)) λ l=>p l (iw .i64 (qj b 1)) k j i c h g f e) (some d))
 (some d)
def yP(m:Nat)(a:Z24):=qR (λ _ _ _ _ _ _ _ _ _ _=>none) λ b=>JH m a b
def qp:Nat->Z24:=qf (λ _ _=>none) λ m a=>qbl m a (yP m a m)
def qrX(m:Nat)(c b:T):Z2:=
 qb (qp m (re c) (re b)) λ a=>some (ieq a 0)
def J2:Nat->Z26:=qf (λ _ _=>none) λ m _=>qrX m
def qus(m:Nat)(a:T)(b:Y8):Z2:=
 cond (ieq a.kind 3) (some (qx a.name b)) (some false)
def yJ:Nat->(T->Y8->Z2):=qf (λ _ _=>none) λ m _=>qus m
def qnx(m:Nat)(b:T):Z27:=
 qb (qg b.kids 0) λ a=>let j1:Z27:=(some (re b));let j2:Z27:=(qb (qg a.kids 0) λ I=>some (re I));let j3:Z27:=(cond (qx b.name [114,101,97,100])
 (qb (yJ m (re a) [115,105,103,110]) λ p=>cond p j2 j1) j1);let j4:Z27:=(qb (yJ m (re a) [112,97,105,114]) λ G=>cond G (qb (qg a.kids 1) λ F=>some (re F)) j1);
 let B:Z27:=(qb (yJ m (re a) [112,97,105,114]) λ J=>cond J j2 j1);cond (ilt 1 b.kids.length) (qb (qg b.kids 1) λ c=>
 cond (qx b.name [102,115,116]) B (cond (qx b.name [115,110,100]) j4 (cond (qx b.name [100,101,99]) (qb (yJ m (re a) [101,110,99]) λ E=>cond E (qb (qg a.kids 1) λ D=>
 qb (J2 m (re D) (re c)) λ C=>cond C j2 j1) j1) (cond (qx b.name [97,100,101,99]) (qb (yJ m (re a) [97,101,110,99]) λ A=>cond A (qb (qg a.kids 1) λ z=>
 qb (yJ m (re z) [112,107]) λ y=>cond y (qb (qg a.kids 1) λ x=>qb (qg x.kids 0) λ w=>qb (J2 m (re w) (re c)) λ v=>cond v j2 j1) j1) j1)
 (cond (qx b.name [111,112,101,110]) (qb (yJ m (re a) [115,105,103,110]) λ u=>cond u (qb (yJ m (re c) [112,107]) λ t=>cond t (qb (qg a.kids 1) λ s=>
 qb (qg c.kids 0) λ r=>qb (J2 m (re s) (re r)) λ q=>cond q j2 j1) j1) j1) j3)))))
 (cond (qx b.name [102,115,116]) B (cond (qx b.name [115,110,100]) j4 (cond (qx b.name [100,101,99]) (qb (yJ m (re a) [101,110,99]) λ o=>cond o (qb (qg a.kids 1) λ n=>
 qb (J2 m (re n) (T.mk 0 [] 0 [])) λ l=>cond l j2 j1) j1) (cond (qx b.name [97,100,101,99]) (qb (yJ m (re a) [97,101,110,99]) λ k=>
 cond k (qb (qg a.kids 1) λ j=>qb (yJ m (re j) [112,107]) λ i=>cond i (qb (qg a.kids 1) λ h=>qb (qg h.kids 0) λ g=>qb (J2 m (re g)
 (T.mk 0 [] 0 [])) λ f=>cond f j2 j1) j1) j1) (cond (qx b.name [111,112,101,110]) (qb (yJ m (re a) [115,105,103,110]) λ e=>
 cond e (qb (yJ m (T.mk 0 [] 0 []) [112,107]) λ d=>cond d (qb (qg a.kids 1) λ H=>none) j1) j1) j3)))))
def qjf:Nat->Z28:=qf (λ _=>none) λ m _=>qnx m
def QH(m:Nat)(b:Z30)(c:Z31)(a:List TL):Z29:=
 b a 0 a a.length 0
def qcs(m:Nat)(i:Z30)(h:Z31)(c:List (TL))(b:Int)(e:List (TL))(d a:Int):Z29:=
 cond (ilt a d) (qb (qg e a) λ f=>cond (ilt (iw .i64 (qj b f.length)) 0) none (i c (iw .i64 (qj b f.length)) e d (iw .i64 (qj a 1)))) (qb (yG 0 b) λ g=>
 h c c.length 0 g.2.1)
def qcq(m:Nat)(g:Z30)(f:Z31)(d:List (TL))(c b:Int)(a:TL):Z29:=
 cond (ilt b c) (qb (qg d b) λ e=>cond (ye (List.length a+List.length e) 56) (f d c (iw .i64 (qj b 1)) (a++e)) none) (some a)
def yi(m:Nat):=qR ((λ _ _ _ _ _=>none,λ _ _ _ _=>none)) λ a=>(qcs m a.1 a.2,qcq m a.1 a.2)
def jI:Nat->((List TL)->Z29):=qf (λ _=>none) λ m _=>QH m (yi m m).1 (yi m m).2
def qmj(m:Nat)(d:Z22)(b c:TL):Z16:=
 cond (ilt 200 b.length) (some 3) (qb (jI m [b,c]) λ a=>d a a.length 0)
def qvI(m:Nat)(f:Z22)(c:TL)(b a:Int):Z16:=
 cond (ilt a b) (qb (qg c a) λ e=>qb (qN m (re e)) λ d=>cond (qh (ieq d 0)) (some d) (f c b (iw .i64 (qj a 1)))) (some 0)
def qnV(m:Nat):=qR (λ _ _ _=>none) λ a=>qvI m a
def qsU:Nat->(TL->TL->Z16):=qf (λ _ _=>none) λ m _=>qmj m (qnV m m)
def qnY(m:Nat)(c:Z32)(b a:TL):Z29:=
 c b a []
def qw2(m:Nat)(d:Z32)(a b c:TL):Z29:=
 let f:Z29:=(cond (ye (List.length c+List.length a) 56) (cond (ye (List.length (c++a)+List.length b) 56) (some ((c++a)++b)) none) none);cond (ilt 0 a.length) (cond (ilt 0 b.length)
 (qb (qg a 0) λ j=>qb (qg b 0) λ i=>qb (qp m (re j) (re i)) λ e=>cond (ilt e 0) (qb (qg a 0) λ h=>cond (ye (List.length c+1) 56) (cond (inb a.length a.length)
 (cond (inb 1 (Int.toNat a.length)) (d (qaL a 1 a.length) b (c++[re h])) none) none) none) (cond (ilt 0 e) (qb (qg b 0) λ g=>cond (ye (List.length c+1) 56) (cond (inb b.length b.length)
 (cond (inb 1 (Int.toNat b.length)) (d a (qaL b 1 b.length) (c++[re g])) none) none) none) (cond (inb a.length a.length) (cond (inb 1 (Int.toNat a.length)) (cond (inb b.length b.length)
 (cond (inb 1 (Int.toNat b.length)) (d (qaL a 1 a.length) (qaL b 1 b.length) c) none) none) none) none))) f) f
def qpE(m:Nat):=qR (λ _ _ _=>none) λ a=>qw2 m a
def qoM:Nat->(TL->TL->Z29):=qf (λ _ _=>none) λ m _=>qnY m (qpE m m)
def qhQ(m:Nat)(a:Z33)(d:Z34)(b:T):Z29:=
 let c:Z29:=(cond (ieq b.kind 3) (cond (qx b.name [120,111,114]) (d [] b.kids b.kids.length 0) (some [re b])) (some [re b]));cond (ieq b.kind 3) (cond (qx b.name [122,101,114,111])
 (cond (ieq b.kids.length 0) (some []) c) c) c
def qqj(m:Nat)(a:Z33)(i:Z34)(e d:TL)(c b:Int):Z29:=
 cond (ilt b c) (qb (qg d b) λ h=>qb (a (re h)) λ g=>qb (qoM m e g) λ f=>i f d c (iw .i64 (qj b 1))) (some e)
def qjh(m:Nat)(a:Z33):=qR (λ _ _ _ _=>none) λ b=>qqj m a b
def qdK:Nat->Z33:=qf (λ _=>none) λ m a=>qhQ m a (qjh m a m)
def qkW(m:Nat)(a:Z28)(c:Z35)(b:T):Z27:=
 c b.kids b.kids.length 0 b.kind b.name b.sort 0 [] 0 [] []
def qtB(m:Nat)(a:Z28)(p:Z35)(i:TL)(h c g:Int)(f:Y8)(e l:Int)(k:Y8)(j:Int)(b d:TL):Z27:=
 cond (ilt c h) (qb (qg i c) λ o=>qb (a (re o)) λ n=>cond (ye (List.length b+1) 56) (p i h (iw .i64 (qj c 1)) g f e l k j (b++[re n]) d) none)
 (some (T.mk g f e b))
def qmt(m:Nat)(a:Z28):=qR (λ _ _ _ _ _ _ _ _ _ _ _=>none) λ b=>qtB m a b
def qcd:Nat->Z28:=qf (λ _=>none) λ m a=>qkW m a (qmt m a m)
def qhD(m:Nat)(e:Z37)(d:T)(c:List Int)(b:T):Z36:=
 qb (qcd m (re d)) λ a=>e c c.length 0 b.kind b.name b.sort b.kids 0 [] 0 a.kind a.name a.sort a.kids []
def qqP(m:Nat)(t:Z37)(n:List (Int))(l c g:Int)(f:Y8)(e:Int)(d:TL)(r:Int)(q:Y8)(p k:Int)(j:Y8)(i:Int)(a h:TL):Z36:=
 cond (ilt c l) (qb (qg n c) λ b=>cond (ilt b 0) (some (T.mk 0 [] 0 [],7)) (cond (ile a.length b) (some (T.mk 0 [] 0 [],7)) (qb (qg a b) λ s=>none)))
 (qb (qcd m (T.mk g f e d)) λ o=>some (re o,0))
def qjd(m:Nat):=qR (λ _ _ _ _ _ _ _ _ _ _ _ _ _ _ _=>none) λ a=>qqP m a
def qly:Nat->(T->(List Int)->T->Z36):=qf (λ _ _ _=>none) λ m _=>qhD m (qjd m m)
def qq5(m:Nat)(a:Z38)(c:Z39)(b:TL):Z29:=
 cond (qyZ b.length 56) (c b b.length 0 (List.replicate (Int.toNat b.length) (T.mk 0 [] 0 []):TL)) none
def qyr(m:Nat)(b:Z38)(k:Z39)(h:TL)(g a:Int)(d:TL):Z29:=
 cond (ilt a g) (qb (qg h a) λ f=>qb (qly m (re f) [] (re f)) λ e=>qb (qg d a) λ l=>qb (b f.kids) λ j=>qb (qg (yB d a (re e.1)) a) λ c=>
 cond (ieq f.kids.length 0) (qb (qg (yB (yB d a (re e.1)) a (T.mk c.kind c.name c.sort j)) a) λ i=>k h g (iw .i64 (qj a 1))
 (yB (yB (yB d a (re e.1)) a (T.mk c.kind c.name c.sort j)) a (T.mk i.kind i.name i.sort []))) (k h g (iw .i64 (qj a 1)) (yB (yB d a (re e.1)) a (T.mk c.kind c.name c.sort j))))
 (some d)
def qsJ(m:Nat)(a:Z38):=qR (λ _ _ _ _=>none) λ b=>qyr m a b
def qnl:Nat->Z38:=qf (λ _=>none) λ m a=>qq5 m a (qsJ m a m)
def qpu(m:Nat)(c:Z40)(a:TL):Z36:=
 qb (qsU m a []) λ b=>cond (qh (ieq b 0)) (some (T.mk 0 [] 0 [],b)) (c [] a a.length 0 0 [] 0 [])
def qzk(m:Nat)(r:Z40)(e d:TL)(c b j:Int)(i:Y8)(h:Int)(g:TL):Z36:=
 cond (ilt b c) (qb (qg d b) λ q=>qb (qdK m (re q)) λ p=>qb (qoM m e p) λ o=>r o d c (iw .i64 (qj b 1)) j i h g) (qb (qnl m e) λ a=>let j1:Z36:=
 (some (T.mk 0 [] 0 [],3));cond (ieq a.length 0) (qb (qN m (T.mk 3 [122,101,114,111] 0 [])) λ n=>cond (qh (ieq n 0)) j1 (some (T.mk 3 [122,101,114,111] 0 [],0))) (cond (ieq a.length 1)
 (qb (qg a 0) λ f=>qb (qN m (re f)) λ l=>cond (qh (ieq l 0)) j1 (some (re f,0))) (qb (qN m (T.mk 3 [120,111,114] 0 a)) λ k=>
 cond (qh (ieq k 0)) j1 (some (T.mk 3 [120,111,114] 0 a,0)))))
def qtt(m:Nat):=qR (λ _ _ _ _ _ _ _ _=>none) λ a=>qzk m a
def qxo:Nat->(TL->Z36):=qf (λ _=>none) λ m _=>qpu m (qtt m m)
def qlf(m:Nat)(a:T):Z2:=
 cond (ieq a.kind 3) (cond (qx a.name [109,117,108]) (some true) (cond (qx a.name [105,110,118]) (some true) (some (qx a.name [111,110,101])))) (some false)
def qd5:Nat->Z41:=qf (λ _=>none) λ m _=>qlf m
def qfG(m:Nat)(a:Z28)(d:Z42)(b:T):Z27:=
 qb (qP 0 b.kids) λ c=>d c.2.1.length 0 b.kind b.name b.sort 0 [] 0 c.2.1 []
def qnM(m:Nat)(a:Z28)(o:Z42)(g b f:Int)(e:Y8)(d k:Int)(j:Y8)(i:Int)(c h:TL):Z27:=
 cond (ilt b g) (qb (qg c b) λ n=>qb (a (re n)) λ l=>qb (qg c b) λ p=>o g (iw .i64 (qj b 1)) f e d k j i (yB c b (re l)) h) (some (T.mk f e d c))
def qg1(m:Nat)(a:Z28):=qR (λ _ _ _ _ _ _ _ _ _ _=>none) λ b=>qnM m a b
def Qi:Nat->Z28:=qf (λ _=>none) λ m a=>qfG m a (qg1 m a m)
def qj3(m:Nat)(c:T×Int)(b:T):Z16:=
 qb (qp m (re c.1) (re b)) λ a=>some a
def qcm:Nat->((T×Int)->T->Z16):=qf (λ _ _=>none) λ m _=>qj3 m
def zr(m:Nat)(c:Z45)(b:List (T×Int))(a:T):Z43:=
 c b b.length 0 b.length a.kind a.name a.sort a.kids
def jJ(m:Nat)(k:Z45)(g:List (T×Int))(h a b f:Int)(e:Y8)(d:Int)(c:TL):Z43:=
 cond (ilt a b) (qb (qg g (iw .i64 (qsd .u64 (iw .u64 (iw .i64 (qj a b))) 1))) λ j=>qb (qcm m (re j.1,j.2) (T.mk f e d c)) λ n=>cond (ilt n 0)
 (k g h (iw .i64 (qj (iw .i64 (qsd .u64 (iw .u64 (iw .i64 (qj a b))) 1)) 1)) b f e d c) (k g h a (iw .i64 (qsd .u64 (iw .u64 (iw .i64 (qj a b))) 1)) f e d c)) (cond (ilt a h)
 (qb (qg g a) λ i=>qb (qcm m (re i.1,i.2) (T.mk f e d c)) λ l=>some (a,ieq l 0)) (some (a,false)))
def zy(m:Nat):=qR (λ _ _ _ _ _ _ _ _=>none) λ a=>jJ m a
def zH:Nat->(Z44->T->Z43):=qf (λ _ _=>none) λ m _=>zr m (zy m m)
def qlO(m:Nat)(b:List (T×Int))(c:T×Int):Z46:=
 qb (zH m b (re c.1)) λ a=>cond (qh a.2) (qb (Qi m (re c.1)) λ i=>
 qb (yh 0 b a.1 [(re i,c.2)]) λ h=>some ((()),(h.2.1,()))) (qb (qg b a.1) λ e=>qb (qg b a.1) λ d=>
 qb (qg (yB b a.1 (re d.1,iw .i64 (qj e.2 c.2))) a.1) λ g=>cond (ieq g.2 0)
 (qb (yl 0 (yB b a.1 (re d.1,iw .i64 (qj e.2 c.2))) a.1 (iw .i64 (qj a.1 1))) λ f=>some ((()),(f.2.1,())))
 (some ((()),(yB b a.1 (re d.1,iw .i64 (qj e.2 c.2)),()))))
def qei:Nat->(Z44->(T×Int)->Z46):=qf (λ _ _=>none) λ m _=>qlO m
def qem(m:Nat)(a:Z48)(h:Z49)(e:List (T×Int))(b:T)(d:Int):Z47:=
 qb (qd5 m (re b)) λ j=>cond (qh j) (qb (qei m e (re b,d)) λ i=>some ((()),(i.2.1,true,()))) (let c:Z47:=(some ((()),([],false,())));let j2:Z47:=
 (let g:Z47:=(let f:Z47:=(cond (qx b.name [105,110,118]) (h (iw .i64 (qbN 0 d)) b.kids b.kids.length 0 e) (h d b.kids b.kids.length 0 e));cond (qx b.name [109,117,108])
 (cond (ilt b.kids.length 2) c f) f);cond (qx b.name [105,110,118]) (cond (qh (ieq b.kids.length 1)) c g) g);cond (qx b.name [111,110,101]) (cond (qh (ieq b.kids.length 0)) c j2) j2)
def qla(m:Nat)(a:Z48)(i:Z49)(f:Int)(e:TL)(d b:Int)(c:List (T×Int)):Z47:=
 cond (ilt b d) (qb (qg e b) λ h=>qb (a c (re h) f) λ g=>cond (qh g.2.2.1) (some ((()),([],false,()))) (i f e d (iw .i64 (qj b 1)) g.2.1))
 (some ((()),(c,true,())))
def qfi(m:Nat)(a:Z48):=qR (λ _ _ _ _ _=>none) λ b=>qla m a b
def qaG:Nat->Z48:=qf (λ _ _ _=>none) λ m a=>qem m a (qfi m a m)
def qsp(m:Nat)(c:T):Z50:=
 qb (qN m (re c)) λ b=>cond (qh (ieq b 0)) (some ([],b)) (qb (qaG m [] (re c) 1) λ a=>cond (qh a.2.2.1) (some ([],6)) (cond (ilt 200 a.2.1.length) (some ([],3))
 (some (a.2.1,0))))
def qe2:Nat->(T->Z50):=qf (λ _=>none) λ m _=>qsp m
def qfQ(m:Nat)(b:Z51)(a:List (T×Int)):Z16:=
 cond (ilt 200 a.length) (some 3) (b a a a.length 0)
def qnv(m:Nat)(g:Z51)(e d:List (T×Int))(c a:Int):Z16:=
 cond (ilt a c) (qb (qg d a) λ b=>qb (qN m (re b.1)) λ f=>cond (qh (ieq f 0)) (some f) (qb (qd5 m (re b.1)) λ j=>cond j (some 1) (cond (ieq b.2 0) (some 7)
 (cond (ilt b.2 (-1000)) (some 7) (cond (ilt 1000 b.2) (some 7) (cond (ilt 0 a) (qb (qg e (iw .i64 (qbN a 1))) λ i=>qb (qp m (re i.1) (re b.1)) λ h=>cond (ile 0 h) (some 5)
 (g e d c (iw .i64 (qj a 1)))) (g e d c (iw .i64 (qj a 1))))))))) (some 0)
def qgK(m:Nat):=qR (λ _ _ _ _=>none) λ a=>qnv m a
def qbR:Nat->Z52:=qf (λ _=>none) λ m _=>qfQ m (qgK m m)
def qqx(m:Nat)(b:Y8)(a:TL):Z27:=
 some (T.mk 3 b 0 a)
def qdD:Nat->Z53:=qf (λ _ _=>none) λ m _=>qqx m
def qgv(m:Nat)(c:Z54)(e d:Z55)(a:List (T×Int)):Z36:=
 qb (qbR m a) λ b=>cond (qh (ieq b 0)) (some (T.mk 0 [] 0 [],b)) (c a a.length 0 0 [] 0 [] [] [])
def qoQ(m:Nat)(v:Z54)(t u:Z55)(h:List (T×Int))(g c s:Int)(r:Y8)(q:Int)(p f e:TL):Z36:=
 let d:Z36:=(some (T.mk 0 [] 0 [],3));cond (ilt c g) (qb (qg h c) λ a=>
 cond (ilt 8 a.2) d (cond (ilt a.2 (-8)) d (t h g c a.2 0 s r q a.1.kind a.1.name a.1.sort a.1.kids a.2 p f e))) (qb (jI m [f,e]) λ b=>
 cond (ilt 8 b.length) d (qb (qdD m [109,117,108] b) λ o=>cond (ieq b.length 0) (qb (qdD m [111,110,101] []) λ n=>qb (qN m (re n)) λ l=>cond (qh (ieq l 0))
 (some (T.mk 0 [] 0 [],l)) (some (re n,0))) (cond (ieq b.length 1) (qb (qg b 0) λ k=>qb (qN m (re k)) λ j=>cond (qh (ieq j 0)) (some (T.mk 0 [] 0 [],j)) (some (re k,0)))
 (qb (qN m (re o)) λ i=>cond (qh (ieq i 0)) (some (T.mk 0 [] 0 [],i)) (some (re o,0))))))
def qpf(m:Nat)(u:Z54)(t s:Z55)(q:List (T×Int))(p o n l k:Int)(j:Y8)(i h:Int)(g:Y8)(d:Int)(c:TL)(b:Int)(f a e:TL):Z36:=
 cond (ilt l n) (qb (Qi m (T.mk h g d c)) λ r=>cond (ye (List.length a+1) 56) (t q p o n (iw .i64 (qj l 1)) k j i h g d c b f (a++[re r]) e) none)
 (s q p o (iw .i64 (qbN 0 b)) 0 k j i h g d c b f a e)
def qo1(m:Nat)(u:Z54)(v t:Z55)(q:List (T×Int))(p o n l k:Int)(j:Y8)(i h:Int)(g:Y8)(e:Int)(d:TL)(f:Int)(c b a:TL):Z36:=
 cond (ilt l n) (qb (Qi m (T.mk h g e d)) λ s=>qb (qdD m [105,110,118] [re s]) λ r=>cond (ye (List.length a+1) 56)
 (t q p o n (iw .i64 (qj l 1)) k j i h g e d f c b (a++[re r])) none) (u q p (iw .i64 (qj o 1)) k j i c b a)
def JI(m:Nat):=qR ((λ _ _ _ _ _ _ _ _ _=>none,λ _ _ _ _ _ _ _ _ _ _ _ _ _ _ _ _=>none,λ _ _ _ _ _ _ _ _ _ _ _ _ _ _ _ _=>none)) λ a=>(qoQ m a.1 a.2.1 a.2.2,qpf m a.1 a.2.1 a.2.2,qo1 m a.1 a.2.1 a.2.2)
def qcR:Nat->(Z44->Z36):=qf (λ _=>none) λ m _=>qgv m (JI m m).1 (JI m m).2.1 (JI m m).2.2
def qfb(m:Nat)(b:Z56)(a:List (T×Int)):Z46:=
 b a a.length 0 []
def qmn(m:Nat)(g:Z56)(d:List (T×Int))(c b:Int)(a:List (T×Int)):Z46:=
 cond (ilt b c) (qb (qg d b) λ e=>qb (Qi m (re e.1)) λ f=>cond (ye (List.length a+1) 64) (g d c (iw .i64 (qj b 1)) (a++[(re f,e.2)])) none) (some ((()),(a,())))
def qfK(m:Nat):=qR (λ _ _ _ _=>none) λ a=>qmn m a
def qhs:Nat->(Z44->Z46):=qf (λ _=>none) λ m _=>qfb m (qfK m m)
def qks(m:Nat)(a:T×Int):Z2:=
 cond (ilt a.2 (-1000)) (some true) (some (ilt 1000 a.2))
def qfR:Nat->((T×Int)->Z2):=qf (λ _=>none) λ m _=>qks m
def yV(m:Nat)(b:Z57)(a:List (T×Int)):Z16:=
 b a a.length 0
def Jy(m:Nat)(f:Z57)(c:List (T×Int))(b a:Int):Z16:=
 cond (ilt a b) (qb (qg c a) λ d=>qb (qfR m (re d.1,d.2)) λ e=>cond e (some a) (f c b (iw .i64 (qj a 1)))) (some (-1))
def jd(m:Nat):=qR (λ _ _ _=>none) λ a=>Jy m a
def jv:Nat->Z52:=qf (λ _=>none) λ m _=>yV m (jd m m)
def Q5(m:Nat)(b:List (T×Int)):Z2:=
 qb (jv m b) λ a=>some (ile 0 a)
def yU:Nat->(Z44->Z2):=qf (λ _=>none) λ m _=>Q5 m
def ql8(m:Nat)(a:List (T×Int)):Z50:=
 qb (yU m a) λ b=>cond b (some ([],7)) (cond (ilt 200 a.length) (some ([],3)) (some (a,0)))
def qh7:Nat->(Z44->Z50):=qf (λ _=>none) λ m _=>ql8 m
def qhX(m:Nat)(f:Z58)(d a:List (T×Int)):Z50:=
 qb (qbR m d) λ c=>cond (qh (ieq c 0)) (some ([],c)) (qb (qbR m a) λ b=>cond (qh (ieq b 0)) (some ([],b)) (qb (qhs m d) λ e=>
 f a a.length 0 e.2.1))
def qpX(m:Nat)(h:Z58)(d:List (T×Int))(c a:Int)(b:List (T×Int)):Z50:=
 cond (ilt a c) (qb (qg d a) λ f=>qb (qei m b (re f.1,f.2)) λ g=>h d c (iw .i64 (qj a 1)) g.2.1) (qb (qh7 m b) λ e=>some (e.1,e.2))
def qjb(m:Nat):=qR (λ _ _ _ _=>none) λ a=>qpX m a
def qlt:Nat->(Z44->Z44->Z50):=qf (λ _ _=>none) λ m _=>qhX m (qjb m m)
def qtQ(m:Nat)(b:Y8)(a:TL):Z27:=
 some (T.mk 3 b 0 a)
def qjK:Nat->Z53:=qf (λ _ _=>none) λ m _=>qtQ m
def qra(m:Nat)(b l:T):Z36:=
 qb (qe2 m (re l)) λ a=>cond (qh (ieq a.2 0)) (some (T.mk 0 [] 0 [],a.2)) (qb (yJ m (re b) [101,120,112]) λ k=>cond k (qb (qg b.kids 1) λ j=>
 qb (qe2 m (re j)) λ f=>cond (qh (ieq f.2 0)) (some (T.mk 0 [] 0 [],f.2)) (qb (qlt m f.1 a.1) λ c=>cond (qh (ieq c.2 0)) (some (T.mk 0 [] 0 [],c.2))
 (qb (qg b.kids 0) λ h=>cond (ieq c.1.length 0) (some (re h,0)) (qb (qcR m c.1) λ e=>cond (qh (ieq e.2 0)) (some (T.mk 0 [] 0 [],e.2))
 (qb (qjK m [101,120,112] [re h,re e.1]) λ i=>some (re i,0)))))) (cond (ieq a.1.length 0) (some (re b,0)) (qb (qcR m a.1) λ d=>cond (qh (ieq d.2 0))
 (some (T.mk 0 [] 0 [],d.2)) (qb (qjK m [101,120,112] [re b,re d.1]) λ g=>some (re g,0)))))
def qlY:Nat->(T->T->Z36):=qf (λ _ _=>none) λ m _=>qra m
def qgH(m:Nat)(a:Z59)(c:Z60)(b:T):Z36:=
 cond (qh (ieq b.kind 3)) (some (re b,0)) (c b.kids b.kids.length 0 b.kind b.name b.sort b.kids 0 [] 0 3 b.name 0 [] [])
def qn6(m:Nat)(a:Z59)(C:Z60)(s:TL)(r k z:Int)(c:Y8)(y:Int)(x:TL)(w:Int)(v:Y8)(u f:Int)(e:Y8)(d:Int)(l b:TL):Z36:=
 cond (ilt k r) (qb (qg s k) λ B=>qb (a (re B)) λ n=>cond (qh (ieq n.2 0)) (some (T.mk 0 [] 0 [],n.2)) (cond (ye (List.length b+1) 56)
 (C s r (iw .i64 (qj k 1)) z c y x w v u f e d l (b++[re n.1])) none)) (let h:Z36:=(qb (qjf m (T.mk f e d b)) λ A=>some (re A,0));
 cond (qx c [102,115,116]) h (cond (qx c [115,110,100]) h (cond (qx c [100,101,99]) h (cond (qx c [97,100,101,99]) h (cond (qx c [111,112,101,110]) h (cond (qx c [114,101,97,100]) h (cond (qx c [120,111,114])
 (qb (qxo m b) λ t=>some (re t.1,t.2)) (let q:Z36:=(qb (qe2 m (T.mk f e d b)) λ g=>cond (qh (ieq g.2 0)) (some (T.mk 0 [] 0 [],g.2))
 (qb (qcR m g.1) λ j=>some (re j.1,j.2)));cond (qx c [109,117,108]) q (cond (qx c [105,110,118]) q (cond (qx c [111,110,101]) q (cond (qx c [101,120,112])
 (qb (qg b 0) λ p=>qb (qg b 1) λ o=>qb (qlY m (re p) (re o)) λ i=>some (re i.1,i.2)) (some (T.mk f e d b,0)))))))))))))
def qie(m:Nat)(a:Z59):=qR (λ _ _ _ _ _ _ _ _ _ _ _ _ _ _ _=>none) λ b=>qn6 m a b
def qcJ:Nat->Z59:=qf (λ _=>none) λ m a=>qgH m a (qie m a m)
def qoW(m:Nat)(d:T):Z36:=
 qb (Je m (re d)) λ c=>cond (qh (ieq c 0)) (some (T.mk 0 [] 0 [],c)) (qb (qcJ m (re d)) λ a=>cond (ieq a.2 0) (qb (qN m (re a.1)) λ b=>cond (qh (ieq b 0))
 (some (T.mk 0 [] 0 [],b)) (some (re a.1,0))) (cond (qh (ieq a.2 0)) (some (T.mk 0 [] 0 [],a.2)) (some (re a.1,0))))
def qkS:Nat->Z59:=qf (λ _=>none) λ m _=>qoW m
def qnD(m:Nat)(b:Y8):Z2:=
 qb (JD m b) λ a=>some (qh (ieq a.2.2.2 3))
def qiS:Nat->Z11:=qf (λ _=>none) λ m _=>qnD m
def qdj(m:Nat)(a:Z41)(c:Z61)(b:T):Z2:=
 cond (ieq b.kind 3) (qb (qiS m b.name) λ d=>cond (qh d) (some false) (c b.kids b.kids.length 0)) (c b.kids b.kids.length 0)
def qjm(m:Nat)(a:Z41)(g:Z61)(d:TL)(c b:Int):Z2:=
 cond (ilt b c) (qb (qg d b) λ f=>qb (a (re f)) λ e=>cond (qh e) (some false) (g d c (iw .i64 (qj b 1)))) (some true)
def qdN(m:Nat)(a:Z41):=qR (λ _ _ _=>none) λ b=>qjm m a b
def JR:Nat->Z41:=qf (λ _=>none) λ m a=>qdj m a (qdN m a m)
def qqI(m:Nat)(a:T):Z2:=
 qb (qkS m (re a)) λ b=>cond (ieq b.2 0) (qb (J2 m (re b.1) (re a)) λ d=>cond d (qb (JR m (re a)) λ c=>some c) (some false)) (some false)
def qhd:Nat->Z41:=qf (λ _=>none) λ m _=>qqI m
def ql5(m:Nat)(b:Y8):Z62:=
 qb (qaD m (b,(0,false))) λ a=>cond a.1.1.2.2 (some (T.mk 0 [] 0 [],a.1.1.2.1,2)) (cond (qh (ieq a.1.1.2.1 b.length)) (some (T.mk 0 [] 0 [],a.1.1.2.1,2))
 (qb (qN m (re a.2.1)) λ d=>cond (ieq d 3) (some (T.mk 0 [] 0 [],0,3)) (qb (qhd m (re a.2.1)) λ c=>cond (qh c) (some (T.mk 0 [] 0 [],0,10)) (some (re a.2.1,0,0)))))
def qd2:Nat->(Y8->Z62):=qf (λ _=>none) λ m _=>ql5 m
def qhl(m:Nat)(c:T)(b:Int)(a:TL):Z63:=
 cond (ieq c.kind b) (cond (ye (List.length a+1) 56) (qb (qg (a++[T.mk 0 [] 0 []]) a.length) λ d=>some ((b,yB (a++[T.mk 0 [] 0 []]) a.length (re c),()),(()))) none)
 (some ((b,a,()),(())))
def qdL:Nat->Z64:=qf (λ _ _ _=>none) λ m _=>qhl m
def qd6(m:Nat)(a:Z64)(f:Z65)(d:T)(c:Int)(b:TL):Z63:=
 qb (qdL m (re d) c b) λ e=>f d.kids d.kids.length 0 e.1.1 e.1.2.1
def qki(m:Nat)(a:Z64)(i:Z65)(f:TL)(e b d:Int)(c:TL):Z63:=
 cond (ilt b e) (qb (qg f b) λ h=>qb (a (re h) d c) λ g=>i f e (iw .i64 (qj b 1)) g.1.1 g.1.2.1) (some ((d,c,()),(())))
def qeq(m:Nat)(a:Z64):=qR (λ _ _ _ _ _=>none) λ b=>qki m a b
def qab:Nat->Z64:=qf (λ _ _ _=>none) λ m a=>qd6 m a (qeq m a m)
def yw:Nat->TL->Option (TL):=qf (λ _=>none) λ m _=>qqH (qp m)
def qnC(m:Nat)(c b:T):Z2:=
 qb (qp m (re c) (re b)) λ a=>some (ieq a 0)
def qeI:Nat->Z26:=qf (λ _ _=>none) λ m _=>qnC m
def zV:Nat->TL->Option (Unit×TL×Unit):=qf (λ _=>none) λ m _=>qze (qeI m)
def qig(m:Nat)(d:Z67)(c:TL):Z66:=
 qb (yw m c) λ b=>cond (Nat.beq b.length c.length) (qb (zV m b) λ a=>d a.2.1.length 0 a.2.1) none
def qpZ(m:Nat)(f:Z67)(c a:Int)(b:TL):Z66:=
 cond (ilt a c) (qb (qg b a) λ e=>qb (qcd m (re e)) λ d=>qb (qg b a) λ g=>f c (iw .i64 (qj a 1)) (yB b a (re d))) (some ((()),(b,())))
def qiM(m:Nat):=qR (λ _ _ _=>none) λ a=>qpZ m a
def qmH:Nat->(Z14->Z66):=qf (λ _=>none) λ m _=>qig m (qiM m m)
def qrQ(m:Nat)(d:T)(c:Int):Z29:=
 qb (qab m (re d) c []) λ b=>qb (qmH m b.1.2.1) λ a=>some a.2.1
def qnQ:Nat->(T->Int->Z29):=qf (λ _ _=>none) λ m _=>qrQ m
def quA(m:Nat)(b:T):Z29:=
 qb (qnQ m (re b) 1) λ a=>some a
def qth:Nat->Z33:=qf (λ _=>none) λ m _=>quA m
def qgA(m:Nat)(b:Y8×(Int×Int))(a:T):Z68:=
 some ((re a,()),(qx b.1 a.name,()))
def qdg:Nat->((Y8×(Int×Int))->T->Z68):=qf (λ _ _=>none) λ m _=>qgA m
def zQ(m:Nat)(c:Z70)(b:List (Y8×(Int×Int)))(a:T):Z69:=
 c b b.length 0 a.kind a.name a.sort a.kids
def j6(m:Nat)(j:Z70)(i:List (Y8×(Int×Int)))(h b g:Int)(f:Y8)(e:Int)(d:TL):Z69:=
 cond (ilt b h) (qb (qg i b) λ c=>qb (qdg m (c.1,(c.2.1,c.2.2)) (T.mk g f e d)) λ a=>cond a.2.1 (some ((re a.1.1,()),(b,())))
 (j i h (iw .i64 (qj b 1)) a.1.1.kind a.1.1.name a.1.1.sort a.1.1.kids)) (some ((T.mk g f e d,()),((-1),())))
def zW(m:Nat):=qR (λ _ _ _ _ _ _ _=>none) λ a=>j6 m a
def yj:Nat->((List (Y8×(Int×Int)))->T->Z69):=qf (λ _ _=>none) λ m _=>zQ m (zW m m)
def qfM(m:Nat)(a:Z72)(f:Z73)(d:List (Int))(c:T):Z71:=
 cond (qh (ieq c.kind 3)) (cond (ye (List.length d+2) 1) (cond (ye (List.length (d++[iw .u8 c.sort,iw .u8 c.name.length])+List.length (qbt c.name)) 1)
 (some ((()),((d++[iw .u8 c.sort,iw .u8 c.name.length])++(qbt c.name),()))) none) none) (qb (Jj m) λ i=>
 qb (yj m i (re c)) λ b=>cond (ye (List.length d+1) 1) (qb (Jj m) λ h=>qb (qg h b.2.1) λ e=>
 qb (Ju m (e.1,(e.2.1,e.2.2))) λ g=>cond g (cond (ye (List.length (d++[iw .u8 (iw .i64 (qj 16 b.2.1))])+1) 1)
 (f b.1.1.kids b.1.1.kids.length 0 ((d++[iw .u8 (iw .i64 (qj 16 b.2.1))])++[iw .u8 b.1.1.kids.length])) none) (f b.1.1.kids b.1.1.kids.length 0 (d++[iw .u8 (iw .i64 (qj 16 b.2.1))]))) none)
def qnO(m:Nat)(a:Z72)(h:Z73)(e:TL)(d b:Int)(c:List (Int)):Z71:=
 cond (ilt b d) (qb (qg e b) λ g=>qb (a c (re g)) λ f=>h e d (iw .i64 (qj b 1)) f.2.1) (some ((()),(c,())))
def qgM(m:Nat)(a:Z72):=qR (λ _ _ _ _=>none) λ b=>qnO m a b
def qci:Nat->Z72:=qf (λ _ _=>none) λ m a=>qfM m a (qgM m a m)
def qlU(m:Nat)(a:T):(Option ((Y8)×(Int))):=
 qb (Je m (re a)) λ b=>cond (qh (ieq b 0)) (some ([],b)) (qb (qth m (re a)) λ e=>cond (ilt 0 e.length) (some ([],13)) (qb (qhd m (re a)) λ d=>cond (qh d)
 (some ([],10)) (qb (qci m [] (re a)) λ c=>some (qgZ c.2.1,0))))
def qhu:Nat->(T->(Option ((Y8)×(Int)))):=qf (λ _=>none) λ m _=>qlU m
def qc8(m:Nat)(a:Y8):Z2:=
 cond (qx a [120,111,114]) (some false) (cond (qx a [122,101,114,111]) (some false) (cond (qx a [101,120,112]) (some false) (cond (qx a [109,117,108]) (some false) (cond (qx a [105,110,118])
 (some false) (cond (qx a [111,110,101]) (some false) (qb (JD m a) λ b=>some (qh (ieq b.2.2.2 3))))))))
def qcZ:Nat->Z11:=qf (λ _=>none) λ m _=>qc8 m
def Qy(m:Nat)(a:Z41)(c:Z61)(b:T):Z2:=
 cond (ieq b.kind 3) (qb (qcZ m b.name) λ d=>cond (qh d) (some false) (c b.kids b.kids.length 0)) (c b.kids b.kids.length 0)
def Qt(m:Nat)(a:Z41)(g:Z61)(d:TL)(c b:Int):Z2:=
 cond (ilt b c) (qb (qg d b) λ f=>qb (a (re f)) λ e=>cond (qh e) (some false) (g d c (iw .i64 (qj b 1)))) (some true)
def zq(m:Nat)(a:Z41):=qR (λ _ _ _=>none) λ b=>Qt m a b
def qA:Nat->Z41:=qf (λ _=>none) λ m a=>Qy m a (zq m a m)
def qeM(m:Nat)(a:T):Z2:=
 qb (Je m (re a)) λ c=>cond (ieq c 0) (qb (qA m (re a)) λ b=>some b) (some false)
def qe0:Nat->Z41:=qf (λ _=>none) λ m _=>qeM m
def qa7(m:Nat)(b:T):Z16:=
 qb (Je m (re b)) λ a=>cond (qh (ieq a 0)) (some a) (qb (qe0 m (re b)) λ c=>cond (qh c) (some 10) (some 0))
def qaF:Nat->Z17:=qf (λ _=>none) λ m _=>qa7 m
def QR(m:Nat)(b:Z22)(a:TL):Z16:=
 cond (ilt 200 a.length) (some 3) (b a a.length 0)
def QY(m:Nat)(f:Z22)(c:TL)(b a:Int):Z16:=
 cond (ilt a b) (qb (qg c a) λ e=>qb (qaF m (re e)) λ d=>cond (qh (ieq d 0)) (some d) (f c b (iw .i64 (qj a 1)))) (some 0)
def yA(m:Nat):=qR (λ _ _ _=>none) λ a=>QY m a
def QM:Nat->(TL->Z16):=qf (λ _=>none) λ m _=>QR m (yA m m)
def qbh(m:Nat)(a:Z75)(d:Z76)(e:Z77)(c:List (T×T))(b:T):Z27:=
 d c c c.length 0 b.kind b.name b.sort b.kids 0 [] 0 []
def qdA(m:Nat)(a:Z75)(r:Z76)(q:Z77)(n l:List (T×T))(k h g:Int)(f:Y8)(e:Int)(d:TL)(j:Int)(i:Y8)(c:Int)(b:TL):Z27:=
 cond (ilt h k) (qb (qg l h) λ o=>qb (qp m (re o.1) (T.mk g f e d)) λ p=>cond (ieq p 0) (some (re o.2)) (r n l k (iw .i64 (qj h 1)) g f e d j i c b))
 (q n d d.length 0 j i c g f e b [])
def qbj(m:Nat)(a:Z75)(r:Z76)(q:Z77)(j:List (T×T))(i:TL)(h c n:Int)(l:Y8)(k g:Int)(f:Y8)(e:Int)(d b:TL):Z27:=
 cond (ilt c h) (qb (qg i c) λ p=>qb (a j (re p)) λ o=>cond (ye (List.length b+1) 56) (q j i h (iw .i64 (qj c 1)) n l k g f e d (b++[re o])) none)
 (some (T.mk g f e b))
def q9(m:Nat)(a:Z75):=qR ((λ _ _ _ _ _ _ _ _ _ _ _ _=>none,λ _ _ _ _ _ _ _ _ _ _ _ _=>none)) λ b=>(qdA m a b.1 b.2,qbj m a b.1 b.2)
def qG:Nat->Z75:=qf (λ _ _=>none) λ m a=>qbh m a (q9 m a m).1 (q9 m a m).2
def jV(m:Nat)(b:Z79)(g:Z80)(a:T)(e:Y8)(c:List (Y8×Y8)):Z78:=
 cond (ieq a.kind 1) (qb (strconv_Itoa 0 a.sort) λ d=>cond (qeV d a.name) (cond (qx (qfA (veq .str) [] c (d++a.name)) []) (qb (strconv_Itoa 0 c.length) λ f=>cond (qeV e f)
 (g e a.kids a.kids.length 0 (qdX (veq .str) c (d++a.name) (e++f)) 0 [] 0 a.kind (qfA (veq .str) [] (qdX (veq .str) c (d++a.name) (e++f)) (d++a.name)) a.sort [] []) none)
 (g e a.kids a.kids.length 0 c 0 [] 0 a.kind (qfA (veq .str) [] c (d++a.name)) a.sort [] [])) none) (g e a.kids a.kids.length 0 c 0 [] 0 a.kind a.name a.sort [] [])
def J3(m:Nat)(a:Z79)(r:Z80)(k:Y8)(j:TL)(i d:Int)(h:List (Y8×Y8))(p:Int)(o:Y8)(n g:Int)(f:Y8)(c:Int)(e b:TL):Z78:=
 cond (ilt d i) (qb (qg j d) λ q=>qb (a (re q) k h) λ l=>cond (ye (List.length b+1) 56)
 (r k j i (iw .i64 (qj d 1)) l.1.1 p o n g f c e (b++[re l.2.1])) none) (some ((h,()),(T.mk g f c b,())))
def yL(m:Nat)(a:Z79):=qR (λ _ _ _ _ _ _ _ _ _ _ _ _ _=>none) λ b=>J3 m a b
def qF:Nat->Z79:=qf (λ _ _ _=>none) λ m a=>jV m a (yL m a m)
def qeJ(m:Nat)(d c:T):Z16:=
 qb (qN m (re d)) λ a=>cond (qh (ieq a 0)) (some a) (qb (qN m (re c)) λ b=>some b)
def qeU:Nat->Z24:=qf (λ _ _=>none) λ m _=>qeJ m
def qfB(m:Nat)(c b:T):Z2:=
 qb (qp m (re c) (re b)) λ a=>some (ieq a 0)
def qeg:Nat->Z26:=qf (λ _ _=>none) λ m _=>qfB m
def qr0(m:Nat)(a:T):Z2:=
 some (ieq a.kind 1)
def JX:Nat->Z41:=qf (λ _=>none) λ m _=>qr0 m
def qtV(m:Nat)(a b:T):Z2:=
 qb (qN m (re a)) λ d=>cond (qh (ieq d 0)) (some false) (qb (qN m (re b)) λ c=>cond (qh (ieq c 0)) (some false) (cond (qh (ieq a.kind 1)) (some false) (cond (ieq a.sort 0)
 (some true) (cond (qh (ieq b.kind 3)) (some (ieq b.sort a.sort)) (some false)))))
def qkE:Nat->Z26:=qf (λ _ _=>none) λ m _=>qtV m
def qrR(m:Nat)(b a:T):Z2:=
 cond (ieq b.kind 3) (cond (ieq a.kind 3) (cond (qx b.name a.name) (some (ieq b.kids.length a.kids.length)) (some false)) (some false)) (some false)
def qn2:Nat->Z26:=qf (λ _ _=>none) λ m _=>qrR m
def qvt(m:Nat)(a:T):(Option (Y8×Int)):=
 some (a.name,a.sort)
def qlI:Nat->(T->(Option (Y8×Int))):=qf (λ _=>none) λ m _=>qvt m
def qmq(m:Nat)(b:Z83)(f:Z84)(c:List ((Y8×Int)×T))(a:T):Z82:=
 qb (JX m (re a)) λ e=>cond e (qb (qlI m (re a)) λ d=>cond (qvQ (veq (.pair .str (.int .i64))) c (d.1,d.2)) (some ((c,()),(re (qfA (veq (.pair .str (.int .i64)))
 (T.mk 0 [] 0 []) c (d.1,d.2)),()))) (some ((c,()),(re a,())))) (cond (ieq a.kids.length 0) (some ((c,()),(re a,()))) (cond (qyZ a.kids.length 56)
 (f a.kids a.kids.length 0 c a.kind a.name a.sort a.kids 0 [] 0 [] (List.replicate (Int.toNat a.kids.length) (T.mk 0 [] 0 []):TL)) none))
def quS(m:Nat)(a:Z83)(r:Z84)(k:TL)(j c:Int)(i:List ((Y8×Int)×T))(h:Int)(g:Y8)(f:Int)(p:TL)(o:Int)(n:Y8)(e:Int)(d b:TL):Z82:=
 cond (ilt c j) (qb (qg k c) λ q=>qb (a i (re q)) λ l=>qb (qg b c) λ s=>r k j (iw .i64 (qj c 1)) l.1.1 h g f p o n e d (yB b c (re l.2.1)))
 (some ((i,()),(T.mk h g f b,())))
def qn1(m:Nat)(a:Z83):=qR (λ _ _ _ _ _ _ _ _ _ _ _ _ _=>none) λ b=>quS m a b
def qbI:Nat->Z83:=qf (λ _ _=>none) λ m a=>qmq m a (qn1 m a m)
def qer(m:Nat)(f g:Z86)(c:(List (T×T))×(List (T×T))×Unit)(b a:T):Z85:=
 qb (qlI m (re b)) λ e=>qb (zX 0 c.1) λ d=>
 f d.2.1.length 0 c.1 b.kind b.name b.sort b.kids a.kind a.name a.sort a.kids true (qdX (veq (.pair .str (.int .i64))) ([]:List ((Y8×Int)×T)) (e.1,e.2) (re a)) c.2.1 d.2.1
def qk7(m:Nat)(v B:Z86)(t a:Int)(s:List (T×T))(r:Int)(q:Y8)(p:Int)(o:TL)(n:Int)(l:Y8)(k:Int)(d:TL)(h:Bool)(g:List ((Y8×Int)×T))(c b:List (T×T)):Z85:=
 cond (ilt a t) (qb (qg b a) λ f=>qb (qbI m g (re f.1)) λ e=>cond h (qb (qg (yB b a (re e.2.1,re f.2)) a) λ A=>qb (qN m (re A.1)) λ z=>
 qb (qg (yB b a (re e.2.1,re f.2)) a) λ u=>qb (qbI m e.1.1 (re u.2)) λ i=>cond (ieq z 0) (qb (qg (yB (yB b a (re e.2.1,re f.2)) a (re u.1,re i.2.1)) a) λ y=>
 qb (qN m (re y.2)) λ x=>v t (iw .i64 (qj a 1)) s r q p o n l k d (ieq x 0) i.1.1 c (yB (yB b a (re e.2.1,re f.2)) a (re u.1,re i.2.1)))
 (v t (iw .i64 (qj a 1)) s r q p o n l k d false i.1.1 c (yB (yB b a (re e.2.1,re f.2)) a (re u.1,re i.2.1)))) (qb (qg (yB b a (re e.2.1,re f.2)) a) λ w=>
 qb (qbI m e.1.1 (re w.2)) λ j=>v t (iw .i64 (qj a 1)) s r q p o n l k d false j.1.1 c (yB (yB b a (re e.2.1,re f.2)) a (re w.1,re j.2.1))))
 (B c.length 0 s r q p o n l k d h g c b)
def qk6(m:Nat)(v s:Z86)(q d:Int)(r:List (T×T))(n:Int)(l:Y8)(k:Int)(j:TL)(i:Int)(h:Y8)(g:Int)(c:TL)(e:Bool)(p:List ((Y8×Int)×T))(a b:List (T×T)):Z85:=
 cond (ilt d q) (qb (qg a d) λ o=>qb (qbI m p (re o.2)) λ f=>cond e (qb (qg (yB a d (re o.1,re f.2.1)) d) λ u=>qb (qN m (re u.2)) λ t=>
 s q (iw .i64 (qj d 1)) r n l k j i h g c (ieq t 0) f.1.1 (yB a d (re o.1,re f.2.1)) b)
 (s q (iw .i64 (qj d 1)) r n l k j i h g c false f.1.1 (yB a d (re o.1,re f.2.1)) b)) (cond (ye (List.length a+1) 112) (cond (qh e)
 (some (((b,a++[(T.mk n l k j,T.mk i h g c)],()),()),(3,()))) (some (((b,a++[(T.mk n l k j,T.mk i h g c)],()),()),(0,())))) none)
def JL(m:Nat):=qR ((λ _ _ _ _ _ _ _ _ _ _ _ _ _ _ _=>none,λ _ _ _ _ _ _ _ _ _ _ _ _ _ _ _=>none)) λ a=>(qk7 m a.1 a.2,qk6 m a.1 a.2)
def Jk:Nat->Z88:=qf (λ _ _ _=>none) λ m _=>qer m (JL m m).1 (JL m m).2
def qld(m:Nat)(a:(List (T×T))×(List (T×T))×Unit)(c b:T):Z85:=
 let f:Z85:=(qb (Jk m (a.1,a.2.1,()) (re c) (re b)) λ d=>some (((d.1.1.1,d.1.1.2.1,()),()),(d.2.1,())));let j2:Z85:=(qb (Jk m (a.1,a.2.1,()) (re b)
 (re c)) λ e=>some (((e.1.1.1,e.1.1.2.1,()),()),(e.2.1,())));cond (ieq c.sort b.sort) (qb (qp m (re c) (re b)) λ g=>cond (ilt g 0) j2 f)
 (cond (ieq b.sort 0) j2 (cond (qh (ieq c.sort 0)) (some (((a.1,a.2.1,()),()),(11,()))) f))
def qhM:Nat->Z88:=qf (λ _ _ _=>none) λ m _=>qld m
def qqm(m:Nat)(d:Z26)(a:Z89)(c:Z90)(b:Z91)(f e:T):Z2:=
 qb (qeg m (re f) (re e)) λ h=>cond h (some true) (qb (a e.kids (re f)) λ g=>some g.2.1)
def Q8(m:Nat)(d:Z26)(b:Z89)(c:Z90)(a:Z91)(g:TL)(e:T):Z68:=
 qb (a g (re e)) λ f=>some ((re f.1.1,()),(ile 0 f.2.1,()))
def qiC(m:Nat)(c:Z26)(a:Z89)(d:Z90)(b:Z91)(g e:T):Z68:=
 qb (c (re e) (re g)) λ f=>some ((re e,()),(f,()))
def jc(m:Nat)(e:Z26)(a:Z89)(c:Z90)(b:Z91)(g:Z92)(f:TL)(d:T):Z69:=
 g f f.length 0 d.kind d.name d.sort d.kids
def JO(m:Nat)(d:Z26)(a:Z89)(c:Z90)(b:Z91)(o:Z92)(l:TL)(k f j:Int)(i:Y8)(h:Int)(g:TL):Z69:=
 cond (ilt f k) (qb (qg l f) λ n=>qb (c (re n) (T.mk j i h g)) λ e=>cond e.2.1 (some ((re e.1.1,()),(f,())))
 (o l k (iw .i64 (qj f 1)) e.1.1.kind e.1.1.name e.1.1.sort e.1.1.kids)) (some ((T.mk j i h g,()),((-1),())))
def jl(m:Nat)(d:Z26)(a:Z89)(c:Z90)(b:Z91):=qR (λ _ _ _ _ _ _ _=>none) λ e=>JO m d a c b e
def qaP:Nat->(Z26)×(Z89)×(Z90)×(Z91):=qf (λ _ _=>none,λ _ _=>none,λ _ _=>none,λ _ _=>none) λ m q=>(qqm m q.1 q.2.1 q.2.2.1 q.2.2.2,Q8 m q.1 q.2.1 q.2.2.1 q.2.2.2,qiC m q.1 q.2.1 q.2.2.1 q.2.2.2,jc m q.1 q.2.1 q.2.2.1 q.2.2.2 (jl m q.1 q.2.1 q.2.2.1 q.2.2.2 m))
def qbx:Nat->Z26:=λ k=>(qaP k).1
def zC:Nat->Z89:=λ k=>(qaP k).2.1
def qa5:Nat->Z90:=λ k=>(qaP k).2.2.1
def yf:Nat->Z91:=λ k=>(qaP k).2.2.2
def Qb(m:Nat)(r:Z93)(a:(List (T×T))×(List (T×T))×Unit):Z85:=
 qb (qg a.1 0) λ b=>qb (qg a.1 0) λ c=>cond (inb a.1.length a.1.length) (cond (inb 1 (Int.toNat a.1.length)) (qb (qeg m (re b.1) (re c.2)) λ q=>
 cond q (some (((qaL a.1 1 a.1.length,a.2.1,()),()),(0,()))) (qb (qn2 m (re b.1) (re c.2)) λ p=>
 cond p (r b.1.kids.length 0 (qaL a.1 1 a.1.length) b.1.kind b.1.name b.1.sort b.1.kids c.2.kind c.2.name c.2.sort c.2.kids a.2.1 []) (qb (JX m (re b.1)) λ o=>let j1:Z85:=
 (qb (JX m (re c.2)) λ l=>let j2:Z85:=(some (((qaL a.1 1 a.1.length,a.2.1,()),()),(11,())));cond l (qb (qkE m (re c.2) (re b.1)) λ k=>
 cond (qh k) j2 (qb (qbx m (re c.2) (re b.1)) λ j=>cond j (some (((qaL a.1 1 a.1.length,a.2.1,()),()),(12,()))) (qb (Jk m (qaL a.1 1 a.1.length,a.2.1,()) (re c.2)
 (re b.1)) λ e=>some (((e.1.1.1,e.1.1.2.1,()),()),(e.2.1,()))))) (qb (JX m (re b.1)) λ i=>cond (qh i) j2 (qb (qkE m (re b.1) (re c.2)) λ h=>
 cond (qh h) j2 (qb (qbx m (re b.1) (re c.2)) λ g=>cond g (some (((qaL a.1 1 a.1.length,a.2.1,()),()),(12,()))) (qb (Jk m (qaL a.1 1 a.1.length,a.2.1,())
 (re b.1) (re c.2)) λ d=>some (((d.1.1.1,d.1.1.2.1,()),()),(d.2.1,())))))));cond o (qb (JX m (re c.2)) λ n=>cond n (qb (qhM m (qaL a.1 1 a.1.length,a.2.1,())
 (re b.1) (re c.2)) λ f=>some (((f.1.1.1,f.1.1.2.1,()),()),(f.2.1,()))) j1) j1))) none) none
def Qa(m:Nat)(q:Z93)(g d:Int)(e:List (T×T))(n:Int)(l:Y8)(k:Int)(f:TL)(j:Int)(i:Y8)(h:Int)(c:TL)(b a:List (T×T)):Z85:=
 cond (ilt d g) (qb (qg f d) λ p=>qb (qg c d) λ o=>cond (ye (List.length a+1) 112) (q g (iw .i64 (qj d 1)) e n l k f j i h c b (a++[(re p,re o)])) none)
 (cond (ye (List.length a+List.length e) 112) (some (((a++e,b,()),()),(0,()))) none)
def jD(m:Nat):=qR (λ _ _ _ _ _ _ _ _ _ _ _ _ _=>none) λ a=>Qa m a
def Q9:Nat->(Z87->Z85):=qf (λ _=>none) λ m _=>Qb m (jD m m)
def qjO(m:Nat)(c b:T×T):Z16:=
 qb (qp m (re c.1) (re b.1)) λ a=>some a
def qcn:Nat->((T×T)->(T×T)->Z16):=qf (λ _ _=>none) λ m _=>qjO m
def zx:Nat->List (T×T)->Option (List (T×T)):=qf (λ _=>none) λ m _=>qqH (qcn m)
def qmr(m:Nat)(b:List (T×T)):Z94:=
 qb (zx m b) λ a=>cond (Nat.beq a.length b.length) (some ((()),(a,()))) none
def qil:Nat->(Z74->Z94):=qf (λ _=>none) λ m _=>qmr m
def qcf(m:Nat)(b:Z96)(a:List (T×T)):Z95:=
 b a []
def qb7(m:Nat)(e:Z96)(c b:List (T×T)):Z95:=
 cond (ilt 0 c.length) (qb (Q9 m (c,b,())) λ a=>cond (qh (ieq a.2.1 0)) (some ([],a.2.1)) (e a.1.1.1 a.1.1.2.1)) (qb (qil m b) λ d=>some (d.2.1,0))
def JF(m:Nat):=qR (λ _ _=>none) λ a=>qb7 m a
def qiF:Nat->(Z74->Z95):=qf (λ _=>none) λ m _=>qcf m (JF m m)
def qb0(m:Nat)(d c:T):Z95:=
 qb (qeU m (re d) (re c)) λ b=>cond (qh (ieq b 0)) (some ([],b)) (qb (qiF m [(re d,re c)]) λ a=>some (a.1,a.2))
def qeX:Nat->(T->T->Z95):=qf (λ _ _=>none) λ m _=>qb0 m
def QV(m:Nat)(c:Z98)(d:Z99)(a:TL):Z97:=
 qb (QM m a) λ b=>cond (qh (ieq b 0)) (some (0,0,T.mk 0 [] 0 [],b)) (c a a.length 0 0 [] 0 [])
def QN(m:Nat)(k:Z98)(j:Z99)(d:TL)(c a h:Int)(g:Y8)(f:Int)(e:TL):Z97:=
 cond (ilt a c) (qb (qg d a) λ i=>qb (qF m (re i) [97] []) λ b=>j d a (iw .i64 (qj a 1)) c a h g f b.2.1.kind b.2.1.name b.2.1.sort b.2.1.kids e)
 (some (0,0,T.mk 0 [] 0 [],15))
def QP(m:Nat)(u:Z98)(q:Z99)(e:TL)(n d l k j:Int)(i:Y8)(h g:Int)(f:Y8)(b:Int)(a c:TL):Z97:=
 cond (ilt d e.length) (qb (qg e d) λ t=>qb (qF m (re t) [98] []) λ s=>qb (qeX m (T.mk g f b a) (re s.2.1)) λ p=>cond (qh (ieq p.2 0))
 (q e n (iw .i64 (qj d 1)) l k j i h g f b a c) (qb (qG m p.1 (T.mk g f b a)) λ o=>qb (qN m (re o)) λ r=>cond (ieq r 0) (some (n,d,re o,0))
 (q e n (iw .i64 (qj d 1)) l k j i h g f b a c))) (u e l (iw .i64 (qj k 1)) j i h c)
def qt(m:Nat):=qR ((λ _ _ _ _ _ _ _=>none,λ _ _ _ _ _ _ _ _ _ _ _ _ _=>none)) λ a=>(QN m a.1 a.2,QP m a.1 a.2)
def jU:Nat->(TL->Z97):=qf (λ _=>none) λ m _=>QV m (qt m m).1 (qt m m).2
def qwp(m:Nat)(b:Y8)(a:TL):Z27:=
 cond (ye (List.length ([]:TL)+List.length a) 56) (qna a (some (T.mk 3 b 0 [])) λ d c=>some (T.mk 3 b 0 ([]++(d::c)))) none
def qbL:Nat->Z53:=qf (λ _ _=>none) λ m _=>qwp m
def qtU(m:Nat)(b:Y8)(a:Int):Z27:=
 some (T.mk 2 b a [])
def qdG:Nat->(Y8->Int->Z27):=qf (λ _ _=>none) λ m _=>qtU m
def qum(m:Nat)(b:Y8)(a:Int):Z27:=
 some (T.mk 1 b a [])
def qhP:Nat->(Y8->Int->Z27):=qf (λ _ _=>none) λ m _=>qum m
def qrC(m:Nat):Z2:=
 qb (qdG m [97] 1) λ r=>qb (qbL m [122,101,114,111] []) λ q=>qb (qbL m [112,97,105,114] [re r,re q]) λ p=>qb (qhP m [120] 0) λ n=>
 qb (qhP m [121] 0) λ l=>qb (qhu m (re p)) λ k=>qb (qd2 m [16,1,1,97]) λ j=>qb (qd2 m [16,1,0]) λ i=>qb (qdG m [110] 2) λ o=>
 qb (qbL m [112,97,105,114] [re n,re o]) λ h=>qb (qdG m [107] 3) λ g=>qb (qbL m [112,97,105,114] [re g,re l]) λ f=>
 qb (jU m [re h,re f]) λ b=>qb (qhP m [120] 2) λ e=>qb (qbL m [112,97,105,114] [re n,re l]) λ d=>qb (jU m [re e,re d]) λ c=>
 let a:Z2:=(some false);cond (qx k.1 [16,1,1,97,23]) (cond (ieq k.2 0) (cond (ieq j.2.1 4) (cond (ieq j.2.2 2) (cond (ieq i.2.1 2) (cond (ieq i.2.2 2) (cond (ieq b.1 0) (cond (ieq b.2.1 1)
 (cond (ieq b.2.2.2 0) (some (ieq c.2.2.2 15)) a) a) a) a) a) a) a) a) a
def qcy:Nat->(Z2):=qf (none) λ m _=>qrC m
def qbk(m:Nat)(a:qyt)(d:qrS)(b:T)(c:Int):Z16:=
 cond (ile c 0) (some (-1)) (cond (ilt 40 b.name.length) (some (-1)) (d (iw .i64 (qbN c 1)) 0 b.kind b.name b.sort b.kids))
def qbe(m:Nat)(a:qyt)(j:qrS)(d c h:Int)(g:Y8)(f:Int)(b:TL):Z16:=
 cond (ilt c b.length) (qb (qg b c) λ i=>qb (a (re i) d) λ e=>cond (ilt e 0) (some (-1)) (j e (iw .i64 (qj c 1)) h g f b)) (some d)
def Qf(m:Nat)(a:qyt):=qR (λ _ _ _ _ _ _=>none) λ b=>qbe m a b
def yc:Nat->qyt:=qf (λ _ _=>none) λ m a=>qbk m a (Qf m a m)
def qdB(m:Nat)(d:Z61)(a:TL)(c b:Int):Z2:=
 cond (ilt c a.length) (some false) (d a b 0)
def qdy(m:Nat)(f:Z61)(b:TL)(d a:Int):Z2:=
 cond (ilt a b.length) (qb (qg b a) λ e=>qb (yc m (re e) d) λ c=>cond (ilt c 0) (some false) (f b c (iw .i64 (qj a 1)))) (some true)
def JU(m:Nat):=qR (λ _ _ _=>none) λ a=>qdy m a
def qh9:Nat->(TL->Int->Int->Z2):=qf (λ _ _ _=>none) λ m _=>qdB m (JU m m)
def qgt(m:Nat)(b:TL):Z2:=
 qb (qh9 m b 20 450) λ a=>some a
def qiq:Nat->(TL->Z2):=qf (λ _=>none) λ m _=>qgt m
def qbb(m:Nat)(c:qFA)(a:TL):qls:=
 qb (QM m a) λ b=>cond (qh (ieq b 0)) (some ([],b)) (c a a.length 0 [])
def qbn(m:Nat)(i:qFA)(e:TL)(d a:Int)(b:TL):qls:=
 cond (ilt a d) (qb (qg e a) λ h=>qb (strconv_Itoa 0 a) λ c=>cond (qeV [109] c) (qb (qG m [] (re h)) λ g=>
 qb (qN m (T.mk 3 [112,97,105,114] 0 [T.mk 2 ([109]++c) 5 [],re g])) λ f=>cond (qh (ieq f 0)) (some ([],f)) (cond (ye (List.length b+1) 56) (i e d (iw .i64 (qj a 1))
 (b++[T.mk 3 [112,97,105,114] 0 [T.mk 2 ([109]++c) 5 [],re g]])) none)) none) (some (b,0))
def Qh(m:Nat):=qR (λ _ _ _ _=>none) λ a=>qbn m a
def qdI:Nat->(TL->qls):=qf (λ _=>none) λ m _=>qbb m (Qh m m)
def qcW(m:Nat)(a:Z17)(c:qrS)(b:T):Z16:=
 c 1 0 b.kind b.name b.sort b.kids
def qcO(m:Nat)(a:Z17)(j:qrS)(d c g:Int)(f:Y8)(e:Int)(b:TL):Z16:=
 cond (ilt c b.length) (qb (qg b c) λ i=>qb (a (re i)) λ h=>j (iw .i64 (qj d h)) (iw .i64 (qj c 1)) g f e b) (some d)
def Ji(m:Nat)(a:Z17):=qR (λ _ _ _ _ _ _=>none) λ b=>qcO m a b
def yr:Nat->Z17:=qf (λ _=>none) λ m a=>qcW m a (Ji m a m)
def qb8(m:Nat)(a:Z17)(c:qrS)(b:T):Z16:=
 c 0 0 b.kind b.name b.sort b.kids
def qce(m:Nat)(a:Z17)(j:qrS)(d c g:Int)(f:Y8)(e:Int)(b:TL):Z16:=
 cond (ilt c b.length) (qb (qg b c) λ i=>qb (a (re i)) λ h=>j (qiH d h) (iw .i64 (qj c 1)) g f e b) (some (iw .i64 (qj d 1)))
def QD(m:Nat)(a:Z17):=qR (λ _ _ _ _ _ _=>none) λ b=>qce m a b
def yz:Nat->Z17:=qf (λ _=>none) λ m a=>qb8 m a (QD m a m)
def qdC(m:Nat)(a:Int):Z2:=
 let b:Z2:=(cond (ile 65 a) (some (ile a 90)) (some false));cond (ile 97 a) (cond (ile a 122) (some true) b) b
def qbw:Nat->Z9:=qf (λ _=>none) λ m _=>qdC m
def qew(m:Nat)(a:Int):Z2:=
 cond (ile 48 a) (some (ile a 57)) (some false)
def qeZ:Nat->Z9:=qf (λ _=>none) λ m _=>qew m
def qbf(m:Nat)(d:qFL)(a:Y8):Z2:=
 cond (ieq a.length 0) (some false) (cond (ilt 24 a.length) (some false) (qb (qg a 0) λ c=>qb (qbw m ((UInt8.toNat c:Nat):Int)) λ b=>cond (qh b) (some false) (d a 0)))
def qba(m:Nat)(i:qFL)(b:Y8)(a:Int):Z2:=
 cond (ilt a b.length) (qb (qg b a) λ h=>qb (qbw m ((UInt8.toNat h:Nat):Int)) λ g=>let j1:Z2:=(i b (iw .i64 (qj a 1)));cond (qh g) (qb (qg b a) λ f=>
 qb (qeZ m ((UInt8.toNat f:Nat):Int)) λ e=>cond (qh e) (qb (qg b a) λ d=>cond (qh (ieq ((UInt8.toNat d:Nat):Int) 95)) (qb (qg b a) λ c=>
 cond (qh (ieq ((UInt8.toNat c:Nat):Int) 35)) (some false) j1) j1) j1) j1) (some true)
def Ql(m:Nat):=qR (λ _ _=>none) λ a=>qba m a
def qan:Nat->Z11:=qf (λ _=>none) λ m _=>qbf m (Ql m m)
def qfr(m:Nat)(a:T):Z16:=
 let d:Z16:=(qb (qan m a.name) λ e=>cond (qh e) (some 2) (cond (ilt 8 a.kids.length) (some 3) (some 0)));let j2:Z16:=(cond (ilt 0 a.kids.length) (some 1) d);cond (ieq a.kind 1)
 (cond (ilt a.sort 0) (some 1) (cond (ilt 5 a.sort) (some 1) j2)) (let c:Z16:=(cond (ilt a.sort 0) (some 1) (cond (ilt 5 a.sort) (some 1) (let b:Z16:=(cond (ieq a.kind 2) j2 d);
 cond (qh (ieq a.kind 2)) (cond (qh (ieq a.sort 0)) (some 1) b) b)));cond (qh (ieq a.kind 2)) (cond (qh (ieq a.kind 3)) (some 1) c) c)
def qfV:Nat->Z17:=qf (λ _=>none) λ m _=>qfr m
def qcg(m:Nat)(a:Z17)(d:qyO)(b:T):Z16:=
 qb (qfV m (re b)) λ c=>cond (qh (ieq c 0)) (some c) (d 0 b.kind b.name b.sort b.kids)
def qb6(m:Nat)(a:Z17)(i:qyO)(c g:Int)(f:Y8)(e:Int)(b:TL):Z16:=
 cond (ilt c b.length) (qb (qg b c) λ h=>qb (a (re h)) λ d=>cond (qh (ieq d 0)) (some d) (i (iw .i64 (qj c 1)) g f e b)) (some 0)
def QE(m:Nat)(a:Z17):=qR (λ _ _ _ _ _=>none) λ b=>qb6 m a b
def yy:Nat->Z17:=qf (λ _=>none) λ m a=>qcg m a (QE m a m)
def qeR(m:Nat)(a:T):Z16:=
 qb (yy m (re a)) λ b=>cond (qh (ieq b 0)) (some b) (qb (yr m (re a)) λ d=>cond (ilt 400 d) (some 3) (qb (yz m (re a)) λ c=>cond (ilt 40 c) (some 3) (some 0)))
def qcH:Nat->Z17:=qf (λ _=>none) λ m _=>qeR m
def qot(m:Nat):qFE:=
 some [([112,97,105,114],(2,(2,1))),([101,110,99],(2,(2,1))),([97,101,110,99],(2,(2,1))),([112,107],(1,(1,1))),([115,105,103,110],(2,(2,1))),([104,97,115,104],(1,(1,1))),([120,111,114],(2,(8,1))),([122,101,114,111],(0,(0,1))),([101,120,112],(2,(2,1))),([109,117,108],(2,(8,1))),([105,110,118],(1,(1,1))),([111,110,101],(0,(0,1))),([115,107],(1,(1,2))),([115,104,107],(2,(2,2))),([110,101,119],(1,(8,2))),([102,115,116],(1,(1,3))),([115,110,100],(1,(1,3))),([100,101,99],(2,(2,3))),([97,100,101,99],(2,(2,3))),([111,112,101,110],(2,(2,3))),([114,101,97,100],(1,(1,3)))]
def qfF:Nat->(qFE):=qf (none) λ m _=>qot m
def qcL(m:Nat)(c:qFr)(b:Y8):Z16:=
 qb (qfF m) λ a=>c b a 0
def qcS(m:Nat)(f:qFr)(c:Y8)(b:List (Y8×(Int×(Int×Int))))(a:Int):Z16:=
 cond (ilt a b.length) (qb (qg b a) λ e=>cond (qx e.1 c) (qb (qg b a) λ d=>some d.2.2.2) (f c b (iw .i64 (qj a 1)))) (some 0)
def Jb(m:Nat):=qR (λ _ _ _=>none) λ a=>qcS m a
def qdZ:Nat->(Y8->Z16):=qf (λ _=>none) λ m _=>qcL m (Jb m m)
def qcP(m:Nat)(c:qFb)(a:T):Z2:=
 qb (qfF m) λ b=>c b 0 a.kind a.name a.sort a.kids
def qcM(m:Nat)(j:qFb)(b:List (Y8×(Int×(Int×Int))))(a f:Int)(d:Y8)(e:Int)(c:TL):Z2:=
 cond (ilt a b.length) (qb (qg b a) λ i=>cond (qx i.1 d) (qb (qg b a) λ h=>cond (ile h.2.1 c.length) (qb (qg b a) λ g=>some (ile c.length g.2.2.1)) (some false))
 (j b (iw .i64 (qj a 1)) f d e c)) (some false)
def Jc(m:Nat):=qR (λ _ _ _ _ _ _=>none) λ a=>qcM m a
def qf7:Nat->Z41:=qf (λ _=>none) λ m _=>qcP m (Jc m m)
def qbg(m:Nat)(c:qER)(a:T):Z2:=
 cond (qx a.name [110,101,119]) (qb (qg a.kids 0) λ b=>some (ieq b.kind 2)) (c 0 a.kind a.name a.sort a.kids)
def qa9(m:Nat)(h:qER)(b e:Int)(d:Y8)(c:Int)(a:TL):Z2:=
 cond (ilt b a.length) (qb (qg a b) λ g=>cond (ieq g.kind 3) (some false) (qb (qg a b) λ f=>cond (qh (ieq f.sort 1)) (some false) (h (iw .i64 (qj b 1)) e d c a))) (some true)
def Qn(m:Nat):=qR (λ _ _ _ _ _=>none) λ a=>qa9 m a
def qdF:Nat->Z41:=qf (λ _=>none) λ m _=>qbg m (Qn m m)
def qbX(m:Nat)(b:Z17)(d:qyO)(a:T):Z16:=
 cond (qh (ieq a.kind 3)) (some 0) (qb (qdZ m a.name) λ c=>cond (ieq c 0) (some 10) (qb (qf7 m (re a)) λ f=>cond (qh f) (some 6) (cond (ieq c 2)
 (qb (qdF m (re a)) λ e=>cond (qh e) (some 10) (d 0 a.kind a.name a.sort a.kids)) (d 0 a.kind a.name a.sort a.kids))))
def qb1(m:Nat)(a:Z17)(i:qyO)(c g:Int)(f:Y8)(e:Int)(b:TL):Z16:=
 cond (ilt c b.length) (qb (qg b c) λ h=>qb (a (re h)) λ d=>cond (qh (ieq d 0)) (some d) (i (iw .i64 (qj c 1)) g f e b)) (some 0)
def jZ(m:Nat)(a:Z17):=qR (λ _ _ _ _ _=>none) λ b=>qb1 m a b
def yk:Nat->Z17:=qf (λ _=>none) λ m a=>qbX m a (jZ m a m)
def qeK(m:Nat)(b:T):Z16:=
 qb (qcH m (re b)) λ a=>cond (qh (ieq a 0)) (some a) (qb (yk m (re b)) λ c=>some c)
def qcI:Nat->Z17:=qf (λ _=>none) λ m _=>qeK m
def qef(m:Nat)(a:Z33)(c:qF5)(b:T):Z29:=
 c 0 b.kind b.name b.sort b.kids [re b]
def qdV(m:Nat)(a:Z33)(j:qF5)(d h:Int)(g:Y8)(f:Int)(c b:TL):Z29:=
 cond (ilt d c.length) (qb (qg c d) λ i=>qb (a (re i)) λ e=>cond (ye (List.length b+List.length e) 56) (j (iw .i64 (qj d 1)) h g f c (b++e)) none) (some b)
def JT(m:Nat)(a:Z33):=qR (λ _ _ _ _ _ _=>none) λ b=>qdV m a b
def jB:Nat->Z33:=qf (λ _=>none) λ m a=>qef m a (JT m a m)
def qbq(m:Nat)(a:Y8):Z2:=
 cond (qx a [120,111,114]) (some true) (cond (qx a [122,101,114,111]) (some true) (cond (qx a [101,120,112]) (some true) (cond (qx a [109,117,108]) (some true) (cond (qx a [105,110,118])
 (some true) (some (qx a [111,110,101]))))))
def qbi:Nat->Z11:=qf (λ _=>none) λ m _=>qbq m
def qcX(m:Nat)(d:qFn)(a:T):Z2:=
 qb (qcI m (re a)) λ c=>cond (qh (ieq c 0)) (some false) (qb (jB m (re a)) λ b=>d b 0)
def qcV(m:Nat)(c:qFn)(b:TL)(a:Int):Z2:=
 cond (ilt a b.length) (qb (qg b a) λ h=>cond (ieq h.kind 3) (qb (qg b a) λ g=>qb (qbi m g.name) λ f=>cond f (some false) (qb (qg b a) λ e=>
 qb (qdZ m e.name) λ d=>cond (ieq d 3) (some false) (c b (iw .i64 (qj a 1))))) (c b (iw .i64 (qj a 1)))) (some true)
def Jo(m:Nat):=qR (λ _ _=>none) λ a=>qcV m a
def qfY:Nat->Z41:=qf (λ _=>none) λ m _=>qcX m (Jo m m)
def qda(m:Nat)(b:T):Z16:=
 qb (qcI m (re b)) λ a=>cond (qh (ieq a 0)) (some a) (qb (qfY m (re b)) λ c=>cond (qh c) (some 10) (some 0))
def qcQ:Nat->Z17:=qf (λ _=>none) λ m _=>qda m
def J8(m:Nat)(b:qF6)(a:TL):Z16:=
 cond (ilt 200 a.length) (some 3) (b a 0)
def J4(m:Nat)(e:qF6)(b:TL)(a:Int):Z16:=
 cond (ilt a b.length) (qb (qg b a) λ d=>qb (qcQ m (re d)) λ c=>cond (qh (ieq c 0)) (some c) (e b (iw .i64 (qj a 1)))) (some 0)
def jw(m:Nat):=qR (λ _ _=>none) λ a=>J4 m a
def qb5:Nat->(TL->Z16):=qf (λ _=>none) λ m _=>J8 m (jw m m)
def qqy(m:Nat)(a:(Int->(Option (Y8))))(b:Int):(Option (Y8)):=
 cond (ilt b 10) (some (qgZ [iw .u8 (iw .i64 (qj 48 b))])) (qb (a (iw .i64 (qyn b 10))) λ c=>cond (qeV c (qgZ [iw .u8 (iw .i64 (qj 48 (qvU b 10)))]))
 (some (c++(qgZ [iw .u8 (iw .i64 (qj 48 (qvU b 10)))]))) none)
def qdw:Nat->(Int->(Option (Y8))):=qf (λ _=>none) λ m a=>qqy m a
def qdO(m:Nat)(c:qFX)(b:TL):qls:=
 qb (qb5 m b) λ a=>cond (qh (ieq a 0)) (some ([],a)) (c b 0 [])
def qdJ(m:Nat)(i:qFX)(c:TL)(a:Int)(b:TL):qls:=
 cond (ilt a c.length) (qb (qdw m a) λ f=>cond (qeV [109] f) (qb (qdG m ([109]++f) 5) λ h=>qb (qg c a) λ g=>
 qb (qbL m [112,97,105,114] [re h,re g]) λ e=>qb (qcH m (re e)) λ d=>cond (qh (ieq d 0)) (some ([],d)) (cond (ye (List.length b+1) 56) (i c (iw .i64 (qj a 1))
 (b++[re e])) none)) none) (some (b,0))
def JV(m:Nat):=qR (λ _ _ _=>none) λ a=>qdJ m a
def qh5:Nat->(TL->qls):=qf (λ _=>none) λ m _=>qdO m (JV m m)
def qej(m:Nat)(b a:Int):Z16:=
 cond (ilt b a) (some (-1)) (cond (ilt a b) (some 1) (some 0))
def Ja:Nat->(Int->Int->Z16):=qf (λ _ _=>none) λ m _=>qej m
def qaQ(m:Nat)(a:Z24)(j:qEV)(c b:T):Z16:=
 qb (yr m (re c)) λ i=>qb (yr m (re b)) λ h=>qb (Ja m i h) λ g=>cond (qh (ieq g 0)) (some g) (qb (Ja m c.kind b.kind) λ f=>
 cond (qh (ieq f 0)) (some f) (cond (slt c.name b.name) (some (-1)) (cond (qh (qlD (slt c.name b.name) (qx c.name b.name))) (some 1) (qb (Ja m c.sort b.sort) λ e=>cond (qh (ieq e 0))
 (some e) (qb (Ja m c.kids.length b.kids.length) λ d=>cond (qh (ieq d 0)) (some d) (j 0 c.kind c.name c.sort c.kids b.kind b.name b.sort b.kids))))))
def qaC(m:Nat)(a:Z24)(o:qEV)(b k:Int)(j:Y8)(i:Int)(c:TL)(h:Int)(g:Y8)(f:Int)(d:TL):Z16:=
 cond (ilt b c.length) (qb (qg c b) λ n=>qb (qg d b) λ l=>qb (a (re n) (re l)) λ e=>cond (qh (ieq e 0)) (some e) (o (iw .i64 (qj b 1)) k j i c h g f d))
 (some 0)
def jQ(m:Nat)(a:Z24):=qR (λ _ _ _ _ _ _ _ _ _=>none) λ b=>qaC m a b
def zA:Nat->Z24:=qf (λ _ _=>none) λ m a=>qaQ m a (jQ m a m)
def qfE(m:Nat)(c b:T):Z2:=
 qb (zA m (re c) (re b)) λ a=>some (ieq a 0)
def qf0:Nat->Z26:=qf (λ _ _=>none) λ m _=>qfE m
def qb2(m:Nat)(c:qFm)(b a:TL):Z2:=
 cond (qh (ieq b.length a.length)) (some false) (c b a 0)
def qbQ(m:Nat)(g:qFm)(b c:TL)(a:Int):Z2:=
 cond (ilt a b.length) (qb (qg b a) λ f=>qb (qg c a) λ e=>qb (qf0 m (re f) (re e)) λ d=>cond (qh d) (some false) (g b c (iw .i64 (qj a 1)))) (some true)
def QF(m:Nat):=qR (λ _ _ _=>none) λ a=>qbQ m a
def qa2:Nat->(TL->TL->Z2):=qf (λ _ _=>none) λ m _=>qb2 m (QF m m)
def qal(m:Nat)(d:TL):Z2:=
 qb (qcy m) λ j=>let j1:Z2:=(qb (qcy m) λ i=>some i);cond (qh j) j1 (qb (qiq m d) λ h=>cond (qh h) j1 (qb (qP 0 d) λ g=>
 qb (qdI m g.2.1) λ a=>qb (qh5 m d) λ b=>let j2:Z2:=(cond (ieq a.2 b.2) (qb (qa2 m a.1 b.1) λ f=>some f) (some false));
 cond (qh (ieq a.2 b.2)) j2 (qb (qa2 m a.1 b.1) λ e=>cond (qh e) j2 (cond (qh (ieq a.2 0)) j2 (qb (jU m a.1) λ c=>some (ieq c.2.2.2 15))))))
def law20_EnvelopeTags:Nat->(TL->Z2):=qf (λ _=>none) λ m _=>qal m
end
end Go.AmZ
namespace Go.AmZ
open Go Go.GxZ
def Ev{α:Type}(F:Nat->Nat->Option α)(r:α):Prop:=∃B,∀m k,B<=m->B<=k->F m k=some r
section
variable {α β:Type}{F G:Nat->Nat->Option α}{r:α}
theorem Ev.pure(r:α):Ev (λ _ _=>some r) r:=⟨0,λ _ _ _ _=>rfl⟩
theorem Ev.ret{r a:α}(h:r=a):Ev (λ _ _=>some r) a:=by subst h;exact .pure r
theorem Ev.bind{X:Nat->Nat->Option β}{K:Nat->Nat->β->Option α}{a:β}(h:Ev X a)(g:Ev (λ m k=>K m k a) r):Ev (λ m k=>qb (X m k) (K m k)) r:=by
 let⟨B,h⟩:=h;let⟨C,g⟩:=g;refine⟨max B C,λ m k b c=>?_⟩;simp only[h m k (by omega) (by omega),qb];exact g m k (by omega) (by omega)
theorem Ev.congr(h:Ev F r)(e:∀m k,G m k=F m k):Ev G r:=by
 let⟨B,h⟩:=h;exact⟨B,λ m k a b=>(e m k).trans (h m k a b)⟩
theorem Ev.res{a:α}(h:Ev F r)(e:r=a):Ev F a:=by subst e;exact h
theorem Ev.succ{f:Nat->Option α}(h:Ev (λ m _=>f (m+1)) r):Ev (λ m _=>f m) r:=by
 let⟨B,h⟩:=h;refine⟨B+1,λ m k a b=>?_⟩;obtain⟨m,rfl⟩:∃n,m=n+1:=⟨m-1,by omega⟩
 exact h m B (by omega) (wa _)
theorem Ev.loop{L:Nat->Nat->Option α}(h:Ev (λ m k=>L m (k+1)) r):Ev (λ m k=>L m k) r:=by
 let⟨B,h⟩:=h;refine⟨B+1,λ m k a b=>?_⟩;obtain⟨k,rfl⟩:∃n,k=n+1:=⟨k-1,by omega⟩
 exact h m k (by omega) (by omega)
theorem Ev.diag{L:Nat->Nat->Option α}(h:Ev L r):Ev (λ m _=>L m m) r:=by
 let⟨B,h⟩:=h;exact⟨B,λ m k a _=>h m m a a⟩
theorem Ev.ct{b:Bool}(a:b=true)(h:Ev F r):Ev (λ m k=>cond b (F m k) (G m k)) r:=by subst a;exact h
theorem Ev.cf{b:Bool}(a:b=false)(h:Ev G r):Ev (λ m k=>cond b (F m k) (G m k)) r:=by subst a;exact h
theorem Ev.ite{b:Bool}(h:b=true->Ev F r)(g:b=false->Ev G r):Ev (λ m k=>cond b (F m k) (G m k)) r:=by
 cases b with
 |true=>exact h rfl
 |false=>exact g rfl
theorem Ev.some{x:Option β}{K:Nat->Nat->β->Option α}{a:β}(b:x=some a)(g:Ev (λ m k=>K m k a) r):Ev (λ m k=>qb x (K m k)) r:=by subst b;exact g
theorem Ev.case{l:List β}{K:Nat->Nat->β->List β->Option α}(h:l=[]->Ev F r)(g:∀x t,l=x::t->Ev (λ m k=>K m k x t) r):Ev (λ m k=>qna l (F m k) (K m k)) r:=by
 cases l with
 |nil=>exact h rfl
 |cons x t=>exact g x t rfl
theorem Ev.get{x:Option α}(h:Ev (λ _ _=>x) r):x=Option.some r:=by
 let⟨B,h⟩:=h;exact h B B (wa _) (wa _)
end
theorem z8{a b:Int}:ilt a b=true↔a<b:=by unfold ilt;exact decide_eq_true_iff
theorem zZ{a b:Int}:ilt a b=false↔b<=a:=by unfold ilt;rw[decide_eq_false_iff_not];omega
theorem qno{a b:Int}:ile a b=true↔a<=b:=by unfold ile;exact decide_eq_true_iff
theorem que{a b:Int}:ile a b=false↔b<a:=by unfold ile;rw[decide_eq_false_iff_not];omega
theorem qz{a b:Int}:ieq a b=true↔a=b:=by unfold ieq;exact beq_iff_eq
theorem ql{a b:Int}:ieq a b=false↔a≠b:=by unfold ieq;exact beq_eq_false_iff_ne
theorem bnt{b:Bool}:qh b=true↔b=false:=by cases b<;>simp[qh]
theorem bnf{b:Bool}:qh b=false↔b=true:=by cases b<;>simp[qh]
theorem qaw{a b:List UInt8}:qx a b=true↔a=b:=by unfold qx;exact beq_iff_eq
theorem qaA{a b:List UInt8}:qx a b=false↔a≠b:=by unfold qx;exact beq_eq_false_iff_ne
theorem qhN{n:Int}(h:-9223372036854775808<=n/\n<=9223372036854775807):iw .i64 n=n:=IntWalk.i64_in n h
theorem qog(a b:Nat):qj (a:Int) (b:Int)=((a+b:Nat):Int):=by unfold qj;omega
theorem qlL{n b:Nat}(h:n*b<=2^47)(a:0<b):ye n b=true:=by
 unfold ye;rw[decide_eq_true_iff];refine⟨h,?_⟩;have:n*1<=n*b:=vt _ a;omega
theorem qdd{α:Type}(l:List α)(i:Nat):qg l (i:Int)=l[i]?:=by
 unfold qg;rw[if_pos (by omega),xu]
theorem qlo{α:Type}(l:List α):qg l 0=l[0]?:=qdd l 0
theorem qZ{α:Type}{P:Nat->Prop}(l:List α)(g:l.length<2^62)(e:ilt (l.length:Int) (l.length:Int)=false->P l.length)
  (b:∀(i:Nat) (x:α),l[i]?=some x->l.drop i=x::l.drop (i+1)->ilt (i:Int) (l.length:Int)=true->qg l (i:Int)=some x->iw .i64 (qj (i:Int) 1)=((i+1:Nat):Int)->P (i+1)->P i):∀i,i<=l.length->P i:=by
 intro i h;obtain⟨d,j⟩:∃d,l.length=i+d:=⟨l.length-i,by omega⟩
 induction d generalizing i with
 |zero=>
   have:i=l.length:=by omega
   subst this;exact e (zZ.2 (Int.le_refl _))
 |succ d f=>
   have c:i<l.length:=by omega
   have a:=List.getElem?_eq_getElem c;refine b i _ a (xY c) (z8.2 (by omega)) (by rw[qdd,a]) ?_ (f (i+1) (by omega) (by omega));rw[show qj (i:Int) 1=((i+1:Nat):Int) by unfold qj;omega,qhN (by omega)]
abbrev wae:=@Ev.bind
abbrev waf:=@Ev.ret
abbrev wag:=@Ev.ct
abbrev wah:=@Ev.ite
abbrev wai:=@Ev.cf
abbrev waj:=@Ev.loop
abbrev wak:=@Ev.pure
abbrev wal:=@Ev.succ
abbrev wam:=@Ev.some
abbrev wan:=@Ev.diag
abbrev wau:=@Ev.congr
end Go.AmZ
namespace Go.AmZ
open Go Go.GxZ
set_option linter.unusedVariables false
theorem qwL(m):qfg (m+1)=qgE m:=rfl
theorem qt2(m):qaZ (m+1)=qbS m (jr m m):=rfl
theorem qjc(m k):(jr m (k+1))=qca m (jr m k):=rfl
theorem qvV(m):zk (m+1)=qcN m (zk m) (yx m (zk m) m):=rfl
theorem qkG(m k):(yx m (zk m) (k+1))=qcK m (zk m) (yx m (zk m) k):=rfl
theorem qvW(m):qN (m+1)=qfD m:=rfl
theorem qrf(m):JD (m+1)=qaI m (jS m m):=rfl
theorem qg3(m k):(jS m (k+1))=qaz m (jS m k):=rfl
theorem qru(m):qn (m+1)=qbm m (qn m) (qC m (qn m) m).1 (qC m (qn m) m).2:=rfl
theorem qih(m k):(qC m (qn m) (k+1)).1=qbd m (qn m) (qC m (qn m) k).1 (qC m (qn m) k).2:=rfl
theorem qhV(m k):(qC m (qn m) (k+1)).2=qbc m (qn m) (qC m (qn m) k).1 (qC m (qn m) k).2:=rfl
theorem qrN(m):Je (m+1)=qee m:=rfl
theorem qwK(m):qbJ (m+1)=qg2 m:=rfl
theorem qwJ(m):jb (m+1)=qdx m (jb m) (J1 m (jb m) m):=rfl
theorem qmO(m k):(J1 m (jb m) (k+1))=qek m (jb m) (J1 m (jb m) k):=rfl
theorem qrH(m):qp (m+1)=qbl m (qp m) (yP m (qp m) m):=rfl
theorem qdU(m k):(yP m (qp m) (k+1))=JH m (qp m) (yP m (qp m) k):=rfl
theorem qqb(m):qcZ (m+1)=qc8 m:=rfl
theorem qiR(m):qA (m+1)=Qy m (qA m) (zq m (qA m) m):=rfl
theorem qcD(m k):(zq m (qA m) (k+1))=Qt m (qA m) (zq m (qA m) k):=rfl
theorem qtR(m):qe0 (m+1)=qeM m:=rfl
theorem qmE(m):qaF (m+1)=qa7 m:=rfl
theorem qk8(m):QM (m+1)=QR m (yA m m):=rfl
theorem qed(m k):(yA m (k+1))=QY m (yA m k):=rfl
theorem qrI(m):qG (m+1)=qbh m (qG m) (q9 m (qG m) m).1 (q9 m (qG m) m).2:=rfl
theorem qpr(m k):(q9 m (qG m) (k+1)).1=qdA m (qG m) (q9 m (qG m) k).1 (q9 m (qG m) k).2:=rfl
theorem qhE(m k):(q9 m (qG m) (k+1)).2=qbj m (qG m) (q9 m (qG m) k).1 (q9 m (qG m) k).2:=rfl
theorem qc1(m):qF (m+1)=jV m (qF m) (yL m (qF m) m):=rfl
theorem qfN(m k):(yL m (qF m) (k+1))=J3 m (qF m) (yL m (qF m) k):=rfl
theorem qtT(m):qeU (m+1)=qeJ m:=rfl
theorem qvD(m):qeg (m+1)=qfB m:=rfl
theorem qfo(m):Q9 (m+1)=Qb m (jD m m):=rfl
theorem qa8(m k):(jD m (k+1))=Qa m (jD m k):=rfl
theorem qt6(m):qiF (m+1)=qcf m (JF m m):=rfl
theorem qi3(m k):(JF m (k+1))=qb7 m (JF m k):=rfl
theorem qkU(m):qeX (m+1)=qb0 m:=rfl
theorem qkX(m):jU (m+1)=QV m (qt m m).1 (qt m m).2:=rfl
theorem qdT(m k):(qt m (k+1)).1=QN m (qt m k).1 (qt m k).2:=rfl
theorem qdu(m k):(qt m (k+1)).2=QP m (qt m k).1 (qt m k).2:=rfl
theorem qsa(m):yc (m+1)=qbk m (yc m) (Qf m (yc m) m):=rfl
theorem qir(m k):(Qf m (yc m) (k+1))=qbe m (yc m) (Qf m (yc m) k):=rfl
theorem qwQ(m):qh9 (m+1)=qdB m (JU m m):=rfl
theorem qlj(m k):(JU m (k+1))=qdy m (JU m k):=rfl
theorem qw3(m):qiq (m+1)=qgt m:=rfl
theorem qsm(m):qdI (m+1)=qbb m (Qh m m):=rfl
theorem qhz(m k):(Qh m (k+1))=qbn m (Qh m k):=rfl
theorem qvc(m):yr (m+1)=qcW m (yr m) (Ji m (yr m) m):=rfl
theorem qkO(m k):(Ji m (yr m) (k+1))=qcO m (yr m) (Ji m (yr m) k):=rfl
theorem qtw(m):yz (m+1)=qb8 m (yz m) (QD m (yz m) m):=rfl
theorem qjk(m k):(QD m (yz m) (k+1))=qce m (yz m) (QD m (yz m) k):=rfl
theorem qrt(m):qbw (m+1)=qdC m:=rfl
theorem qtC(m):qeZ (m+1)=qew m:=rfl
theorem qr7(m):qan (m+1)=qbf m (Ql m m):=rfl
theorem qif(m k):(Ql m (k+1))=qba m (Ql m k):=rfl
theorem qv4(m):qfV (m+1)=qfr m:=rfl
theorem qtG(m):yy (m+1)=qcg m (yy m) (QE m (yy m) m):=rfl
theorem qiU(m k):(QE m (yy m) (k+1))=qb6 m (yy m) (QE m (yy m) k):=rfl
theorem qtW(m):qcH (m+1)=qeR m:=rfl
theorem quw(m):qdZ (m+1)=qcL m (Jb m m):=rfl
theorem qkT(m k):(Jb m (k+1))=qcS m (Jb m k):=rfl
theorem quH(m):qf7 (m+1)=qcP m (Jc m m):=rfl
theorem qkQ(m k):(Jc m (k+1))=qcM m (Jc m k):=rfl
theorem qso(m):qdF (m+1)=qbg m (Qn m m):=rfl
theorem qhU(m k):(Qn m (k+1))=qa9 m (Qn m k):=rfl
theorem qt5(m):yk (m+1)=qbX m (yk m) (jZ m (yk m) m):=rfl
theorem qiQ(m k):(jZ m (yk m) (k+1))=qb1 m (yk m) (jZ m (yk m) k):=rfl
theorem qtx(m):qcI (m+1)=qeK m:=rfl
theorem qw6(m):jB (m+1)=qef m (jB m) (JT m (jB m) m):=rfl
theorem qlF(m k):(JT m (jB m) (k+1))=qdV m (jB m) (JT m (jB m) k):=rfl
theorem qnL(m):qbi (m+1)=qbq m:=rfl
theorem quU(m):qfY (m+1)=qcX m (Jo m m):=rfl
theorem qkL(m k):(Jo m (k+1))=qcV m (Jo m k):=rfl
theorem qpK(m):qcQ (m+1)=qda m:=rfl
theorem qoT(m):qb5 (m+1)=J8 m (jw m m):=rfl
theorem qfH(m k):(jw m (k+1))=J4 m (jw m k):=rfl
theorem qwV(m):qh5 (m+1)=qdO m (JV m m):=rfl
theorem qlc(m k):(JV m (k+1))=qdJ m (JV m k):=rfl
theorem qsj(m):Ja (m+1)=qej m:=rfl
theorem qpt(m):zA (m+1)=qaQ m (zA m) (jQ m (zA m) m):=rfl
theorem qgn(m k):(jQ m (zA m) (k+1))=qaC m (zA m) (jQ m (zA m) k):=rfl
theorem quv(m):qf0 (m+1)=qfE m:=rfl
theorem qtJ(m):qa2 (m+1)=qb2 m (QF m m):=rfl
theorem qi9(m k):(QF m (k+1))=qbQ m (QF m k):=rfl
theorem qkC(m):law20_EnvelopeTags (m+1)=qal m:=rfl
end Go.AmZ
namespace Go.GxZ
def size:T->Nat:=T.para λ _ a=>1+a.sum
theorem jk(t:T):size t=1+(t.kids.map size).sum:=T.para_eq _ _
theorem size_pos(t:T):1<=size t:=by rw[jk];omega
theorem qyI(l:List T):l.length<=(l.map size).sum:=by
 induction l with
 |nil=>simp
 |cons x l a=>have:=size_pos x;simp only[wB,wz,xV];omega
theorem qkw(l:List T)(x:T)(h:x∈l):size x<=(l.map size).sum:=by
 induction l with
 |nil=>cases h
 |cons y l a=>
   simp only[wz,xV];obtain rfl|h:=wM.1 h
   .omega
   .have:=a h;omega
theorem JN(t:T)(x:T)(h:x∈t.kids):size x<size t:=by
 have:=qkw t.kids x h;rw[jk t];omega
theorem Qe(t:T):t.kids.length<size t:=by
 have:=qyI t.kids;rw[jk t];omega
def sgn(a b:Int):Int:=if a<b then -1 else if b<a then 1 else 0
def thn(x y:Int):Int:=if x=0 then y else x
structure Cmp {α:Type} (f:α->α->Int):Prop where
 rng:∀a b,f a b=-1\/f a b=0\/f a b=1
 anti:∀a b,f b a=- f a b
 trans:∀a b c,f a b=-1->f b c=-1->f a c=-1
 same:∀a b c,f a b=0->f b c=f a c
theorem Cmp.thn{α:Type}{f g:α->α->Int}(d:Cmp f)(l:Cmp g):Cmp λ a b=>thn (f a b) (g a b):=by
 constructor
 .intro a b;have:=d.rng a b;have:=l.rng a b;unfold GxZ.thn;split<;>omega
 .intro a b;have:=d.anti a b;have:=l.anti a b;unfold GxZ.thn;split<;>split<;>omega
 .intro a b c k j;have p:=d.anti a b;have a2:=d.anti b c;have a3:=d.anti a c;have n:=d.trans a b c;have t2:=l.trans a b c;have m:=d.same a b c;have s2:=d.same c b a;have o:=d.rng a b;have r2:=d.rng b c;have r3:=d.rng a c;unfold GxZ.thn at k j |-
  by_cases i:f a b=0
  .by_cases e:f b c=0
   .rw[if_pos i]at k;rw[if_pos e]at j;rw[if_pos (by rw[<-m i];exact e)];exact t2 k j
   .rw[if_neg e]at j;rw[if_neg (by rw[<-m i];exact e),<-m i];exact j
  .rw[if_neg i]at k;by_cases e:f b c=0
   .have:=s2 (by omega);rw[if_neg (by omega)];omega
   .rw[if_neg e]at j;have:=n k j;rw[if_neg (by omega)];exact this
 .intro a b c h
  have i:f a b=0:=by
   unfold GxZ.thn at h;split at h
   .assumption
   .exact absurd h (by assumption)
  have e:g a b=0:=by
   unfold GxZ.thn at h
   rwa [if_pos i]at h
  show GxZ.thn _ _=GxZ.thn _ _;rw[d.same a b c i,l.same a b c e]
theorem Cmp.on{α d:Type}{f:d->d->Int}(c:Cmp f)(p:α->d):Cmp λ a b=>f (p a) (p b):=
 ⟨λ _ _=>c.rng _ _,λ _ _=>c.anti _ _,λ _ _ _=>c.trans _ _ _,λ _ _ _=>c.same _ _ _⟩
theorem qm5:Cmp sgn:=by
 constructor
 .intro a b;unfold sgn;split<;>(try split)<;>omega
 .intro a b;unfold sgn;split<;>split<;>(try split)<;>omega
 .intro a b c;unfold sgn;split<;>split<;>(try split)<;>(try split)<;>omega
 .intro a b c;unfold sgn;split<;>split<;>(try split)<;>(try split)<;>omega
theorem qgS{a b:Int}(h:sgn a b=0):a=b:=by unfold sgn at h;split at h<;>(try split at h)<;>omega
theorem qDm(a:Int):sgn a a=0:=by unfold sgn;split<;>(try split)<;>omega
open Lib (compareBytes)
theorem qtp(a:List UInt8):compareBytes a a=0:=by
 induction a with
 |nil=>rfl
 |cons x a b=>simp[compareBytes,b]
theorem qjE:∀a b:List UInt8,compareBytes a b=-1\/compareBytes a b=0\/compareBytes a b=1
 |[],[]|[],_::_|_::_,[]=>by simp[compareBytes]
 |x::a,y::b=>by
   unfold compareBytes;split
   .simp
   .split
    .simp
    .exact qjE a b
theorem qsK:∀a b:List UInt8,compareBytes b a=- compareBytes a b
 |[],[]|[],_::_|_::_,[]=>by simp[compareBytes]
 |x::a,y::b=>by
   have:=qsK a b;unfold compareBytes;simp only[xO];split<;>split<;>(try split)<;>omega
theorem qh8:∀a b:List UInt8,compareBytes a b=0->a=b
 |[],[],_=>rfl
 |[],_::_,h|_::_,[],h=>by simp[compareBytes]at h
 |x::a,y::b,h=>by
   unfold compareBytes at h;simp only[xO]at h;split at h
   .omega
   .split at h
    .omega
    .rw[qh8 a b h,UInt8.toNat_inj.1 (show x.toNat=y.toNat by omega)]
theorem qqd:∀ a b c:List UInt8,compareBytes a b=-1->compareBytes b c=-1->compareBytes a c=-1
 | [],_,[],h1,h2=>by
   rename_i b;cases b<;>simp[compareBytes]at h1 h2
 | [],_,_::_,_,_=>by simp[compareBytes]
 | _::_,[],_,h1,_=>by simp[compareBytes]at h1
 | _::_,_::_,[],_,h2=>by simp[compareBytes]at h2
 | x::a,y::b,z::c,h1,h2=>by
   have ih:=qqd a b c;unfold compareBytes at h1 h2 |-
   simp only[xO]at h1 h2 |-
   split at h1
   ·split at h2
    ·rw[if_pos (by omega)]
    ·split at h2
     ·omega
     ·rw[if_pos (by omega)]
   ·split at h1
    ·omega
    ·split at h2
     ·rw[if_pos (by omega)]
     ·split at h2
      ·omega
      ·rw[if_neg (by omega),if_neg (by omega)];exact ih h1 h2
theorem qBJ:Cmp compareBytes:=
 ⟨qjE,qsK,qqd,λ a b c h=>by rw[qh8 a b h]⟩
def jK:List (T->Int)->List T->Int
 |r::a,b::c=>thn (r b) (jK a c)
 |_,_=>0
def qfw(a b:T):Int:=
 thn (sgn (size a) (size b)) (thn (sgn a.kind b.kind) (thn (compareBytes a.name b.name) (thn (sgn a.sort b.sort) (sgn a.kids.length b.kids.length))))
def zi:T->T->Int:=T.para λ a c b=>thn (qfw a b) (jK c b.kids)
theorem qdn(a b:T):zi a b=thn (qfw a b) (jK (a.kids.map zi) b.kids):=congrFun (T.para_eq _ _) b
theorem qbz:Cmp qfw:=
 (qm5.on λ t:T=>(size t:Int)).thn ((qm5.on T.kind).thn ((qBJ.on T.name).thn ((qm5.on T.sort).thn (qm5.on λ t:T=>(t.kids.length:Int)))))
theorem qc2{x y:Int}(h:thn x y=0):x=0/\y=0:=by unfold thn at h;split at h<;>omega
theorem qlg{a b:T}(h:qfw a b=0):a.kind=b.kind/\a.name=b.name/\a.sort=b.sort/\a.kids.length=b.kids.length:=by
 unfold qfw at h;let⟨_,h⟩:=qc2 h;let⟨f,h⟩:=qc2 h;let⟨e,h⟩:=qc2 h;let⟨d,c⟩:=qc2 h;have:=qgS c;exact⟨qgS f,qh8 _ _ e,qgS d,by omega⟩
theorem qAN(a:T):qfw a a=0:=by
 unfold qfw thn;simp[qDm,qtp]
theorem T.ext{a b:T}(f:a.kind=b.kind)(e:a.name=b.name)(d:a.sort=b.sort)(c:a.kids=b.kids):a=b:=by
 let⟨k,n,s,l⟩:=a;let⟨j,h,g,i⟩:=b;simp only[T.kind,T.name,T.sort,T.kids]at f e d c;rw[f,e,d,c]
theorem qz1(a:T):zi a a=0:=by
 refine T.ind (P:=λ a=>zi a a=0) ?_ a;intro a c;rw[qdn,qAN,thn,if_pos rfl];generalize a.kids=l at*
 induction l with
 |nil=>rfl
 |cons x l b=>
   rw[wz,jK,c x (ww ..),thn,if_pos rfl];exact b λ k d=>c k (wj _ d)
theorem qfk(a:T):∀b,zi a b=0->a=b:=by
 refine T.ind (P:=λ a=>∀b,zi a b=0->a=b) ?_ a;intro a e b h;rw[qdn]at h;let⟨g,f⟩:=qc2 h;let⟨n,j,i,c⟩:=qlg g;refine T.ext n j i ?_;generalize a.kids=l at *;generalize b.kids=m at *;clear h g
 induction l generalizing m with
 |nil=>exact(kw.1 c.symm).symm
 |cons x l d=>
   cases m with
   |nil=>simp at c
   |cons y m=>
     rw[wz,jK]at f;let⟨q,p⟩:=qc2 f;rw[e x (ww ..) y q,d (λ k o=>e k (wj _ o)) m p (by simpa using c)]
def qrg(a:T):Prop:=(∀b,zi a b=-1\/zi a b=0\/zi a b=1)/\(∀b,zi b a=- zi a b)/\(∀b c,zi a b=-1->zi b c=-1->zi a c=-1)
theorem qvm:∀l m:List T,(∀k∈l,qrg k)->jK (l.map zi) m=-1\/jK (l.map zi) m=0\/jK (l.map zi) m=1
 |[],_,_|_::_,[],_=>by simp[jK]
 |x::l,y::m,h=>by
   rw[wz,jK];have c:=(h x (ww ..)).1 y;have b:=qvm l m λ k a=>h k (wj _ a);unfold thn;split<;>omega
theorem qtg:∀l m:List T,(∀k∈l,qrg k)->jK (m.map zi) l=- jK (l.map zi) m
 |[],[],_|[],_::_,_|_::_,[],_=>by simp[jK]
 |x::l,y::m,h=>by
   rw[wz,jK,wz,jK];have c:=(h x (ww ..)).2.1 y;have b:=qtg l m λ k a=>h k (wj _ a);unfold thn;split<;>split<;>omega
theorem qp8:∀l m n:List T,(∀k∈l,qrg k)->l.length=m.length->m.length=n.length->jK (l.map zi) m=-1->jK (m.map zi) n=-1->jK (l.map zi) n=-1
 |[],_,_,_,_,_,h,_=>by simp[jK]at h
 |_::_,[],_,_,h,_,_,_|_::_,_::_,[],_,_,h,_,_=>by simp at h
 |x::l,y::m,z::n,h,e1,j,b,a=>by
   rw[wz,jK]at b a |-
   have g:=h x (ww ..);have f:=qp8 l m n (λ k i=>h k (wj _ i)) (by simpa using e1) (by simpa using j);have e:=g.2.2 y z;by_cases d:zi x y=0
   .have:=qfk x y d;subst this;rw[thn,if_pos d]at b;by_cases c:zi x z=0
    .rw[thn,if_pos c]at a |-
     exact f b a
    .rw[thn,if_neg c]at a |-
     exact a
   .rw[thn,if_neg d]at b;by_cases c:zi y z=0
    .have:=qfk y z c;subst this;rw[thn,if_neg d];exact b
    .rw[thn,if_neg c]at a;have:=e b a;rw[thn,if_neg (by omega)];exact this
theorem qy1(a:T):qrg a:=by
 refine T.ind (P:=qrg) ?_ a;intro a i;refine⟨λ b=>?_,λ b=>?_,λ b c g d=>?_⟩
 .rw[qdn];have g:=qbz.rng a b;have d:=qvm a.kids b.kids i;unfold thn;split<;>omega
 .rw[qdn,qdn];have g:=qbz.anti a b;have d:=qtg a.kids b.kids i;unfold thn;split<;>split<;>omega
 .rw[qdn]at g d |-
  by_cases h:qfw a b=0
  .rw[thn,if_pos h]at g;have e:=qbz.same a b c h;by_cases f:qfw b c=0
   .rw[thn,if_pos f]at d;rw[thn,if_pos (by rw[<-e];exact f)];exact qp8 _ _ _ i (qlg h).2.2.2 (qlg f).2.2.2 g d
   .rw[thn,if_neg f]at d;rw[thn,if_neg (by rw[<-e];exact f),<-e];exact d
  .rw[thn,if_neg h]at g;by_cases f:qfw b c=0
   .have e1:=qbz.anti b c;have l:=qbz.same c b a (by omega);have k:=qbz.anti a b;have j:=qbz.anti a c;rw[thn,if_neg (by omega)];omega
   .rw[thn,if_neg f]at d;have:=qbz.trans a b c g d;rw[thn,if_neg (by omega)];exact this
theorem qoY:Cmp zi:=
 ⟨λ a=>(qy1 a).1,λ a b=>(qy1 a).2.1 b,λ a=>(qy1 a).2.2,λ a b c h=>by rw[qfk a b h]⟩
theorem qB6(a b:T):zi a b=0↔a=b:=⟨qfk a b,λ h=>by rw[h];exact qz1 b⟩
theorem qkM:∀a b:List UInt8,Op.bytesLess a b=decide (compareBytes a b=-1)
 |[],[]|[],_::_|_::_,[]=>by simp[Op.bytesLess,compareBytes]
 |x::a,y::b=>by
   rw[Op.bytesLess,compareBytes,qkM a b];by_cases d:x<y
   .simp[d]
   .by_cases c:y<x
    .have:¬ x=y:=λ e=>by rw[e]at c;exact d (by rw[e];exact c)
     simp[d,c,this]
    .have:x=y:=UInt8.toNat_inj.1 (by rw[xO]at d c;omega);simp[this]
end Go.GxZ
namespace Go.GxZ
def qgI:List (Int->Int)->Int->Int
 |[],m=>m
 |f::a,m=>if f m<0 then -1 else qgI a (f m)
def Jz:T->Int->Int:=T.para λ t a m=>if m<=0\/40<t.name.length then -1 else qgI a (m-1)
theorem qw9(t:T)(m:Int):Jz t m=if m<=0\/40<t.name.length then -1 else qgI (t.kids.map Jz) (m-1):=congrFun (T.para_eq _ _) m
theorem qlk(t:T):∀m,Jz t m<0/\Jz t m=-1\/0<=Jz t m/\Jz t m=m-size t:=by
 refine T.ind (P:=λ t=>∀m,Jz t m<0/\Jz t m=-1\/0<=Jz t m/\Jz t m=m-size t) ?_ t;intro t e m
 have g:∀l:List T,(∀k∈l,k∈t.kids)->∀m,0<=m->(qgI (l.map Jz) m<0/\qgI (l.map Jz) m=-1\/0<=qgI (l.map Jz) m/\qgI (l.map Jz) m=m-((l.map size).sum:Nat)):=by
  intro l
  induction l with
  |nil=>intro _ m b;right;simp[qgI];exact b
  |cons x l a=>
    intro c m b;simp only[wz,qgI,xV];have j:=e x (c x (ww ..)) m;by_cases d:Jz x m<0
    .rw[if_pos d];left;exact⟨by omega,rfl⟩
    .rw[if_neg d];have i:=a (λ k f=>c k (wj _ f)) (Jz x m) (by omega);omega
 rw[qw9,jk];split
 .left;exact⟨by omega,rfl⟩
 .have:=g t.kids (λ _ h=>h) (m-1) (by omega);omega
def JZ:T->Nat:=T.para λ _ a=>a.foldl max 0+1
theorem qgd(t:T):JZ t=(t.kids.map JZ).foldl max 0+1:=T.para_eq _ _
theorem qu2(l:List Nat):∀(a b:Nat),a<=b->(∀x∈l,x<=b)->l.foldl max a<=b:=by
 induction l with
 |nil=>intro a b h _;exact h
 |cons x l d=>intro a b h c;exact d _ _ (Nat.max_le.2 ⟨h,c x (ww ..)⟩) λ y e=>c y (wj _ e)
theorem qxD(t:T):JZ t<=size t:=by
 refine T.ind (P:=λ t=>JZ t<=size t) ?_ t;intro t b;rw[qgd,jk]
 have:(t.kids.map JZ).foldl max 0<=(t.kids.map size).sum:=by
  refine qu2 _ _ _ (wh _) λ x c=>?_;obtain⟨k,a,rfl⟩:=wI.1 c;exact wC (b k a) (qkw _ _ a)
 omega
def qeO(c:Int):Bool:=decide (97<=c/\c<=122)||decide (65<=c/\c<=90)
def qo6(c:Int):Bool:=decide (48<=c/\c<=57)
def QZ(c:Int):Bool:=qeO c||qo6 c||decide (c=95)||decide (c=35)
def Qc(l:List UInt8):Bool:=decide (0<l.length)&&decide (l.length<=24)&&qeO ((l.getD 0 0).toNat:Int)&&l.all λ c=>QZ (c.toNat:Int)
def qnp(k so:Int)(n:Nat)(a:Bool):Int:=
 if k=1\/k=2 then(if so<0\/5<so\/0<n then 1 else if a then 0 else 2)
 else if k=3 then(if so≠0 then 1 else if a then(if 8<n then 3 else 0)else 2)
 else 1
def qaa(t:T):Int:=qnp t.kind t.sort t.kids.length (Qc t.name)
def qaR:T->Int:=T.para λ t a=>a.foldl thn (qaa t)
theorem qho(t:T):qaR t=(t.kids.map qaR).foldl thn (qaa t):=T.para_eq _ _
theorem jE{x:Int}(h:x≠0)(y:Int):thn x y=x:=if_neg h
theorem zf(l:List Int):∀{x:Int},x≠0->l.foldl thn x=x:=by
 induction l with
 |nil=>intro x _;rfl
 |cons y l a=>intro x h;rw[xt,jE h];exact a h
theorem qbU(l:List Int)(x:Int):(x::l).foldl thn 0=l.foldl thn x:=rfl
def zm(t:T):Int:=if qaR t≠0 then qaR t else if 400<size t\/40<JZ t then 3 else 0
theorem qvS(l:List Nat):∀a:Nat,a<=l.foldl max a:=by
 induction l with
 |nil=>intro a;exact wa _
 |cons x l b=>intro a;exact wC (vl a x) (b _)
instance:DecidableEq T:=λ _ _=>Classical.propDecidable _
def qfZ(a b:T):Bool:=decide (a=b)
def qjR:List T->Int->Bool
 |[],_=>true
 |x::l,m=>if Jz x m<0 then false else qjR l (Jz x m)
theorem qtb:∀(l:List T) (m:Int),0<=m->qjR l m=true->((l.map size).sum:Nat)<=m
 |[],m,b,_=>by simpa using b
 |x::l,m,b,h=>by
   rw[qjR]at h;by_cases a:Jz x m<0
   .rw[if_pos a]at h;exact absurd h (by decide)
   .rw[if_neg a]at h;have d:=qlk x m;have c:=qtb l (Jz x m) (by omega) h;simp only[wz,xV];omega
def yY:List (List UInt8×Int×Int×Int):=[
 ([112,97,105,114],2,2,1),
 ([101,110,99],2,2,1),
 ([97,101,110,99],2,2,1),
 ([112,107],1,1,1),
 ([115,105,103,110],2,2,1),
 ([104,97,115,104],1,1,1),
 ([120,111,114],2,8,1),
 ([122,101,114,111],0,0,1),
 ([101,120,112],2,2,1),
 ([109,117,108],2,8,1),
 ([105,110,118],1,1,1),
 ([111,110,101],0,0,1),
 ([115,107],1,1,2),
 ([115,104,107],2,2,2),
 ([110,101,119],1,8,2),
 ([102,115,116],1,1,3),
 ([115,110,100],1,1,3),
 ([100,101,99],2,2,3),
 ([97,100,101,99],2,2,3),
 ([111,112,101,110],2,2,3),
 ([114,101,97,100],1,1,3)]
def qsn(l:List (List UInt8×Int×Int×Int))(n:List UInt8):Int×Int×Int:=((l.find? λ r=>r.1==n).map (·.2)).getD (0,0,0)
theorem qAM(r:List UInt8×Int×Int×Int)(l:List (List UInt8×Int×Int×Int))(n:List UInt8):qsn (r::l) n=if(r.1==n)=true then r.2 else qsn l n:=by
 unfold qsn;rw[List.find?_cons];cases h:r.1==n<;>simp
def qDr(l:List (List UInt8×Int×Int×Int))(n:List UInt8):Bool:=l.any λ r=>r.1==n
def qiA(l:List (List UInt8×Int×Int×Int))(n:List UInt8)(k:Int):Bool:=qDr l n&&decide ((qsn l n).1<=k)&&decide (k<=(qsn l n).2.1)
theorem qA5(r:List UInt8×Int×Int×Int)(l:List (List UInt8×Int×Int×Int))(n:List UInt8)(k:Int):
  qiA (r::l) n k=if(r.1==n)=true then decide (r.2.1<=k)&&decide (k<=r.2.2.1)else qiA l n k:=by
 unfold qiA;rw[qAM];unfold qDr;rw[wac];cases h:r.1==n<;>simp
def qFF:List UInt8:=[120,111,114]
def qDC:List UInt8:=[122,101,114,111]
def qE2:List UInt8:=[101,120,112]
def qF2:List UInt8:=[109,117,108]
def qFK:List UInt8:=[105,110,118]
def qCT:List UInt8:=[111,110,101]
def nSk:List UInt8:=[115,107]
def qvN:List UInt8:=[115,104,107]
def qg8:List UInt8:=[110,101,119]
def qFS:List UInt8:=[102,115,116]
def qEZ:List UInt8:=[115,110,100]
def qFy:List UInt8:=[100,101,99]
def qDF:List UInt8:=[97,100,101,99]
def qDE:List UInt8:=[111,112,101,110]
def qDv:List UInt8:=[114,101,97,100]
def zT:T:=.mk 0 [] 0 []
def kid(t:T)(i:Nat):T:=t.kids.getD i zT
def ya(n:List UInt8):Int×Int×Int:=((yY.find? λ r=>r.1==n).map (·.2)).getD (0,0,0)
def qaO(t:T):Bool:=
 if t.name=qg8 then decide ((kid t 0).kind≠2)
 else if t.name=nSk\/t.name=qvN then t.kids.any λ k=>decide (k.kind=3)||decide (k.sort≠1)else false
def qeE(t:T):Int:=
 if t.kind≠3 then 0 else if(ya t.name).2.2=0 then 10 else if(t.kids.length:Int)<(ya t.name).1\/(ya t.name).2.1<(t.kids.length:Int)then 6 else if qaO t then 10 else 0
def qa3:T->Int:=T.para λ t a=>if t.kind≠3 then 0 else a.foldl thn (qeE t)
theorem qnh(t:T):qa3 t=if t.kind≠3 then 0 else(t.kids.map qa3).foldl thn (qeE t):=T.para_eq _ _
def qdc(t:T):Int:=thn (zm t) (qa3 t)
abbrev Pw:=T×Int
def qiD:List Pw->T->Int->List Pw
 |[],t,n=>[(t,n)]
 |(x,m)::l,t,n=>if zi t x=-1 then(t,n)::(x,m)::l else if zi t x=0 then(if m+n=0 then l else(x,m+n)::l)else(x,m)::qiD l t n
def isD(n:List UInt8):Bool:=n==qFS||n==qEZ||n==qFy||n==qDF||n==qDE||n==qDv
def agB(l:List T):Bool:=l.all λ k => !(k.kind==3) && !(k.sort != 1)
def qgf(t:T):Bool:=if t.name=qg8 then(kid t 0).kind==2 else agB t.kids
theorem qCh(k:T)(l:List T):agB (k::l)=((!(k.kind==3) && !(k.sort != 1))&&agB l):=rfl
end Go.GxZ
namespace Go.AmZ
open Go Go.GxZ Go.Lib
theorem qh0(a b:Int):Ev (λ m _=>Ja m a b) (sgn a b):=by
 refine wal ?_;simp only[qsj,qej];unfold sgn;refine wah (λ h=>?_) λ h=>?_
 .exact waf (by rw[if_pos (z8.1 h)])
 .rw[zZ]at h;refine wah (λ c=>?_) λ c=>?_
  .rw[z8]at c;exact waf (by rw[if_neg (by omega),if_pos c])
  .rw[zZ]at c;exact waf (by rw[if_neg (by omega),if_neg (by omega)])
theorem qop{l:List T}{i:Nat}{x:T}(h:l.drop i=x::l.drop (i+1)):((l.drop i).map size).sum=size x+((l.drop (i+1)).map size).sum:=by
 rw[h,wz,xV]
theorem qph(t:T):size t<=1000000000->Ev (λ m _=>yr m t) (size t:Int):=by
 induction t using T.ind with
 |h t d=>
   intro p;refine wal ?_;simp only[qvc,qcW];have q:=Qe t;have j:=jk t
   have b:=qZ (P:=λ i=>∀a:Nat,a+((t.kids.drop i).map size).sum<=1000000000->Ev (λ m k=>Ji m (yr m) k a i t.kind t.name t.sort t.kids) ((a+((t.kids.drop i).map size).sum:Nat):Int)) t.kids (by omega)
    (λ c a _=>by
     refine waj ?_;simp only[qkO,qcO];refine wai c ?_;exact waf (by simp))
    (λ i x e l c g f o a n=>by
     rw[qop l]at n |-
     refine waj ?_;simp only[qkO,qcO];refine wag c (wam g ?_);rw[qL];refine wae (d x (wc e) (by omega)) ?_;rw[f,qog,qhN (by omega)];refine(o (a+size x) (by omega)).res (by congr 1;omega))
   refine wan (L:=λ m k=>Ji m (yr m) k 1 0 t.kind t.name t.sort t.kids) ?_;refine(b 0 (wh _) 1 (by simp;omega)).res (by rw[wP,j])
theorem qvP(a b:Nat):qiH (a:Int) (b:Int)=((max a b:Nat):Int):=by unfold qiH;split<;>omega
theorem qmT(a b:Int):Ev (λ m _=>qbJ m a b) (sgn a b):=by
 refine wal ?_;simp only[qwK,qg2];unfold sgn;refine wah (λ h=>?_) λ h=>?_
 .exact waf (by rw[if_pos (z8.1 h)])
 .rw[zZ]at h;refine wah (λ c=>?_) λ c=>?_
  .rw[z8]at c;exact waf (by rw[if_neg (by omega),if_pos c])
  .rw[zZ]at c;exact waf (by rw[if_neg (by omega),if_neg (by omega)])
theorem qu7(t:T):size t<=1000000000->Ev (λ m _=>jb m t) (size t:Int):=by
 induction t using T.ind with
 |h t d=>
   intro p;refine wal ?_;simp only[qwJ,qdx];have q:=Qe t;have j:=jk t
   have b:=qZ (P:=λ i=>∀a:Nat,a+((t.kids.drop i).map size).sum<=1000000000->Ev (λ m k=>J1 m (jb m) k a t.kids t.kids.length i) ((a+((t.kids.drop i).map size).sum:Nat):Int)) t.kids (by omega)
    (λ c a _=>by
     refine waj ?_;simp only[qmO,qek];refine wai c ?_;exact waf (by simp))
    (λ i x e l c g f o a n=>by
     rw[qop l]at n |-
     refine waj ?_;simp only[qmO,qek];refine wag c (wam g ?_);rw[qL];refine wae (d x (wc e) (by omega)) ?_;rw[f,qog,qhN (by omega)];refine(o (a+size x) (by omega)).res (by congr 1;omega))
   refine wan (L:=λ m k=>J1 m (jb m) k 1 t.kids t.kids.length 0) ?_;refine(b 0 (wh _) 1 (by simp;omega)).res (by rw[wP,j])
theorem qAP(t:T):size t<=1000000000->Ev (λ m _=>yz m t) (JZ t:Int):=by
 induction t using T.ind with
 |h t e=>
   intro o;refine wal ?_;simp only[qtw,qb8];have p:=Qe t;have q:=jk t
   have b:=qZ (P:=λ i=>∀a:Nat,a<=1000000000->Ev (λ m k=>QD m (yz m) k a i t.kind t.name t.sort t.kids) ((((t.kids.drop i).map JZ).foldl max a+1:Nat):Int)) t.kids (by omega)
    (λ c a _=>by
     refine waj ?_;simp only[qjk,qce];refine wai c ?_;rw[show qj (a:Int) 1=((a+1:Nat):Int) by unfold qj;omega,qhN (by omega)];exact waf (by simp))
    (λ i x f l c j g n a r=>by
     refine waj ?_;simp only[qjk,qce];refine wag c (wam j ?_);rw[qL];have d:=wc f;have u:=JN t x d;have s:=qxD x;refine wae (e x d (by omega)) ?_;rw[g,qvP];refine(n (max a (JZ x)) (by omega)).res ?_;rw[l,wz,xt])
   refine wan (L:=λ m k=>QD m (yz m) k 0 0 t.kind t.name t.sort t.kids) ?_;refine(b 0 (wh _) 0 (by omega)).res (by rw[wP,qgd])
theorem qve(a:List (T->Int)):jK a []=0:=by cases a<;>rfl
theorem qsW{l m:List T}{i:Nat}{x y:T}(b:l.drop i=x::l.drop (i+1))(a:m.drop i=y::m.drop (i+1)):jK ((l.drop i).map zi) (m.drop i)=thn (zi x y) (jK ((l.drop (i+1)).map zi) (m.drop (i+1))):=by
 rw[b,a,wz];rfl
theorem qoR{l:List T}{i:Nat}{y:T}(h:l[i]?=some y):l.drop i=y::l.drop (i+1):=by
 obtain⟨a,rfl⟩:=List.getElem?_eq_some_iff.1 h;exact xY a
theorem qn8(a b:List UInt8):slt a b=decide (compareBytes a b=-1):=qkM a b
theorem qvL(a b:List UInt8):qlD (slt a b) (qx a b)=decide (compareBytes a b≠1):=by
 rw[qn8];unfold qlD qx;obtain h|h|h:=qjE a b
 .rw[h];rfl
 .have:=qh8 a b h;subst this;rw[h];simp
 .have:(a==b)=false:=by
    rw[beq_eq_false_iff_ne];intro c;subst c;rw[qtp]at h;omega
  rw[h,this];rfl
theorem qwN(a:T):size a<=1000000000->∀ b,size b<=1000000000->Ev (λ m _=>zA m a b) (zi a b):=by
 induction a using T.ind with
 | h a ih =>
   intro ha b hb;refine wal ?_;simp only[qpt,qaQ,qL];have hla:=Qe a;have hlb:=Qe b;rw[qdn];unfold qfw;refine wae (qph a ha) (wae (qph b hb) (wae (qh0 _ _) ?_));refine wah (λ h=>?_) λ h=>?_
   ·rw[bnt,ql]at h;exact waf (by rw[jE (by rw[jE h];exact h),jE h])
   rw[bnf,qz]at h;rw[h,show ∀ y,thn 0 y=y from λ y=>rfl];refine wae (qh0 _ _) ?_;refine wah (λ h=>?_) λ h=>?_
   ·rw[bnt,ql]at h;exact waf (by rw[jE (by rw[jE h];exact h),jE h])
   rw[bnf,qz]at h;rw[h,show ∀ y,thn 0 y=y from λ y=>rfl];refine wah (λ h=>?_) λ h=>?_
   ·rw[qn8,decide_eq_true_iff]at h;exact waf (by rw[h];rfl)
   rw[qn8,decide_eq_false_iff_not]at h;refine wah (λ h'=>?_) λ h'=>?_
   ·rw[bnt,qvL,decide_eq_false_iff_not,Decidable.not_not]at h';exact waf (by rw[h'];rfl)
   rw[bnf,qvL,decide_eq_true_iff]at h';have h0:compareBytes a.name b.name=0:=by have:=qjE a.name b.name;omega
   rw[h0,show ∀ y,thn 0 y=y from λ y=>rfl];refine wae (qh0 _ _) ?_;refine wah (λ h=>?_) λ h=>?_
   ·rw[bnt,ql]at h;exact waf (by rw[jE (by rw[jE h];exact h),jE h])
   rw[bnf,qz]at h;rw[h,show ∀ y,thn 0 y=y from λ y=>rfl];refine wae (qh0 _ _) ?_;refine wah (λ h=>?_) λ h=>?_
   ·rw[bnt,ql]at h;exact waf (by rw[jE h])
   rw[bnf,qz]at h;rw[h,show ∀ y,thn 0 y=y from λ y=>rfl];have hlen:a.kids.length=b.kids.length:=by have:=qgS h;omega
   have key:=qZ (P := λ i=>Ev (λ m k=>jQ m (zA m) k i a.kind a.name a.sort a.kids b.kind b.name b.sort b.kids) (jK ((a.kids.drop i).map zi) (b.kids.drop i))) a.kids (by omega)
    (λ hc=>by
     refine waj ?_;simp only[qgn,qaC];refine wai hc ?_;exact waf (by rw[hlen,km,qve]))
    (λ i x hx hd hc hg hi hP=>by
     refine waj ?_;simp only[qgn,qaC,qL];have hib:i<b.kids.length:=by have:=(List.getElem?_eq_some_iff.1 hx).1;omega
     have hy:=List.getElem?_eq_getElem hib;have hmx:=wc hx;have h1:=JN a x hmx;have h2:=JN b _ (wc hy);refine wag hc (wam hg (wam (by rw[qdd];exact hy) ?_));rw[qsW hd (qoR hy)];refine wae (ih x hmx (by omega) _ (by omega)) ?_;refine wah (λ h=>?_) λ h=>?_
     ·rw[bnt,ql]at h;exact waf (by rw[jE h])
     ·rw[bnf,qz]at h;rw[h,hi];exact hP)
   refine wan (L := λ m k=>jQ m (zA m) k 0 a.kind a.name a.sort a.kids b.kind b.name b.sort b.kids) ?_;exact(key 0 (wh _)).res (by rw[wP,wP])
theorem qzY(a b:List UInt8):Ev (λ m _=>strings_Compare 0 a b) (compareBytes a b):=wak _
theorem qw0(a:T):size a<=1000000000->∀ b,size b<=1000000000->Ev (λ m _=>qp m a b) (zi a b):=by
 induction a using T.ind with
 | h a ih =>
   intro ha b hb;refine wal ?_;simp only[qrH,qbl,qL];have hla:=Qe a;have hlb:=Qe b;rw[qdn];unfold qfw
   have stop:∀ c:Int,c≠0->∀ i:Int,Ev (λ m k=>yP m (qp m) k c i a.kind a.name a.sort a.kids b.kind b.name b.sort b.kids) c:=by
    intro c hc i;refine waj ?_;simp only[qdU,JH];exact wai (ql.2 hc) (wak c)
   have key:a.kids.length=b.kids.length->∀ i,i<=a.kids.length->Ev (λ m k=>yP m (qp m) k 0 i a.kind a.name a.sort a.kids b.kind b.name b.sort b.kids) (jK ((a.kids.drop i).map zi) (b.kids.drop i)) := λ hlen=>qZ a.kids (by omega)
    (λ hc=>by
     refine waj ?_;simp only[qdU,JH];refine wag rfl (wai hc ?_);exact waf (by rw[hlen,km,qve]))
    (λ i x hx hd hc hg hi hP=>by
     refine waj ?_;simp only[qdU,JH,qL];have hib:i<b.kids.length:=by have:=(List.getElem?_eq_some_iff.1 hx).1;omega
     have hy:=List.getElem?_eq_getElem hib;have hmx:=wc hx;have h1:=JN a x hmx;have h2:=JN b _ (wc hy);refine wag rfl (wag hc (wam hg (wam (by rw[qdd];exact hy) ?_)));rw[qsW hd (qoR hy)];refine wae (ih x hmx (by omega) _ (by omega)) ?_;rw[hi];by_cases h:zi x b.kids[i]=0
     ·rw[h];exact hP
     ·rw[jE h];exact stop _ h _)
   have fin:∀ c:Int,(c=0->a.kids.length=b.kids.length)->Ev (λ m k=>yP m (qp m) m c 0 a.kind a.name a.sort a.kids b.kind b.name b.sort b.kids) (thn c (jK (a.kids.map zi) b.kids)):=by
    intro c hc;refine wan (L := λ m k=>yP m (qp m) k c 0 a.kind a.name a.sort a.kids b.kind b.name b.sort b.kids) ?_;by_cases h:c=0
    ·subst h;exact(key (hc rfl) 0 (wh _)).res (by rw[wP,wP];rfl)
    ·rw[jE h];exact stop c h 0
   refine wae (qu7 a ha) (wae (qu7 b hb) (wae (qmT _ _) ?_));have z0:∀ y,thn 0 y=y := λ y=>rfl;by_cases h1:sgn (size a:Int) (size b)=0
   ·rw[h1,z0];refine wag rfl (wae (qmT _ _) ?_);by_cases h2:sgn a.kind b.kind=0
    ·rw[h2,z0];refine wag rfl (wae (qzY _ _) ?_);by_cases h3:compareBytes a.name b.name=0
     ·rw[h3,z0];refine wag rfl (wae (qmT _ _) ?_);by_cases h4:sgn a.sort b.sort=0
      ·rw[h4,z0];refine wag rfl (wae (qmT _ _) ?_);exact fin _ λ h=>by have:=qgS h;omega
      ·rw[jE h4];refine wai (ql.2 h4) ?_;exact fin _ λ h=>absurd h h4
     ·rw[jE h3];refine wai (ql.2 h3) (wai (ql.2 h3) ?_);exact fin _ λ h=>absurd h h3
    ·rw[jE h2];refine wai (ql.2 h2) (wai (ql.2 h2) (wai (ql.2 h2) ?_));exact fin _ λ h=>absurd h h2
   ·rw[jE h1];refine wai (ql.2 h1) (wai (ql.2 h1) (wai (ql.2 h1) (wai (ql.2 h1) ?_)));exact fin _ λ h=>absurd h h1
theorem qxO(a b:T):ieq (zi a b) 0=qfZ a b:=by
 unfold qfZ;rw[xH,qz,decide_eq_true_iff];exact qB6 a b
theorem qBu(a b:T)(d:size a<=1000000000)(c:size b<=1000000000):Ev (λ m _=>qf0 m a b) (qfZ a b):=by
 refine wal ?_;simp only[quv,qfE,qL];refine wae (qwN a d b c) ?_;exact waf (qxO a b)
end Go.AmZ
namespace Go.AmZ
open Go Go.GxZ Go.Lib
theorem qD2(a b:Int):ieq a b=decide (a=b):=by rw[xH,qz,decide_eq_true_iff]
theorem qsD(c:Int):Ev (λ m _=>qbw m c) (qeO c):=by
 refine wal ?_;simp only[qrt,qdC];refine(wak (qeO c)).congr λ m k=>?_;unfold qeO ile;by_cases e:97<=c<;>by_cases d:c<=122<;>by_cases b:65<=c<;>by_cases a:c<=90<;>simp[e,d,b,a]
theorem qC0(c:Int):Ev (λ m _=>qeZ m c) (qo6 c):=by
 refine wal ?_;simp only[qtC,qew];refine(wak (qo6 c)).congr λ m k=>?_;unfold qo6 ile;by_cases b:48<=c<;>by_cases a:c<=57<;>simp[b,a]
theorem qxG(c:Int):Ev (λ m _=>qfg m c) (QZ c):=by
 refine wal ?_;simp only[qwL,qgE];refine(wak (QZ c)).congr λ m k=>?_;simp only[qD2];unfold QZ qeO qo6 ile;by_cases i:97<=c<;>by_cases h:c<=122<;>by_cases g:65<=c<;>by_cases f:c<=90<;>by_cases e:48<=c<;>by_cases d:c<=57<;>by_cases b:c=95<;>by_cases a:c=35<;>simp[i,h,g,f,e,d,b,a]
theorem qAd(l:List UInt8):Ev (λ m _=>qan m l) (Qc l):=by
 refine wal ?_;simp only[qr7,qbf];cases l with
 |nil=>exact wag rfl (wak _)
 |cons c r=>
   refine wai (ql.2 (by simp;omega)) ?_;refine wah (λ h=>?_) λ h=>?_
   .rw[z8]at h;refine waf ?_;unfold Qc;rw[decide_eq_false (show ¬ (c::r).length<=24 by omega)];simp
   rw[zZ]at h;refine wam (qlo _) (wae (qsD _) ?_)
   have o:Qc (c::r)=(qeO (c.toNat:Int)&&(c::r).all λ c=>QZ (c.toNat:Int)):=by
    unfold Qc;rw[decide_eq_true (show(c::r).length<=24 by omega)];simp
   rw[o];cases b:qeO (c.toNat:Int)with
   |false=>exact wag rfl (wak _)
   |true=>
     refine wai rfl ?_
     have g:=qZ (P:=λ i=>Ev (λ m k=>Ql m k (c::r) i) (((c::r).drop i).all λ c=>QZ (c.toNat:Int))) (c::r) (by omega)
      (λ b=>by
       refine waj ?_;simp only[qif,qba];refine wai b (waf ?_);rw[km];rfl)
      (λ i x s q b a p d=>by
       refine waj ?_;simp only[qif,qba];refine wag b (wam a (wae (qsD _) ?_));rw[q,ke,p];cases n:qeO (x.toNat:Int)with
       |true=>exact wai rfl (d.res (by simp[QZ,n]))
       |false=>
         refine wag rfl (wam a (wae (qC0 _) ?_));cases j:qo6 (x.toNat:Int)with
         |true=>exact wai rfl (d.res (by simp[QZ,j]))
         |false=>
           refine wag rfl (wam a ?_);by_cases f:(x.toNat:Int)=95
           .exact wai (bnf.2 (qz.2 f)) (d.res (by simp[QZ,f]))
           .refine wag (bnt.2 (ql.2 f)) (wam a ?_);by_cases e:(x.toNat:Int)=35
            .exact wai (bnf.2 (qz.2 e)) (d.res (by simp[QZ,e]))
            .exact wag (bnt.2 (ql.2 e)) (waf (by unfold QZ;rw[n,j,decide_eq_false f,decide_eq_false e];rfl)))
     refine wan (L:=λ m k=>Ql m k (c::r) 0) ?_;exact(g 0 (wh _)).res (by rw[wP];rfl)
theorem qBC(c:Int):(QZ c&&(!(decide (48<=c)&&decide (c<=57))&&(!(decide (c=95)) && !(decide (c=35)))))=qeO c:=by
 unfold QZ qo6;cases h:qeO c with
 |true=>
   unfold qeO at h;rw[wW,decide_eq_true_iff,decide_eq_true_iff]at h;rw[decide_eq_false (show ¬ (c=95) by omega),decide_eq_false (show ¬ (c=35) by omega)]
   have:(decide (48<=c)&&decide (c<=57))=false:=by
    rw[xN,decide_eq_false_iff_not,decide_eq_false_iff_not];omega
   rw[this];rfl
 |false=>
   by_cases e:48<=c<;>by_cases d:c<=57<;>by_cases b:c=95<;>by_cases a:c=35<;>simp[e,d,b,a]
theorem qyC(l:List UInt8):Ev (λ m _=>qaZ m l) (Qc l):=by
 refine wal ?_;simp only[qt2,qbS];cases l with
 |nil=>exact wag rfl (wak _)
 |cons c r=>
   refine wai rfl ?_;refine wah (λ h=>?_) λ h=>?_
   .rw[z8]at h;refine waf ?_;unfold Qc;rw[decide_eq_false (show ¬ (c::r).length<=24 by omega)];simp
   rw[zZ]at h;refine wam (qlo _) (wae (qxG _) ?_)
   have p:Qc (c::r)=(qeO (c.toNat:Int)&&(c::r).all λ c=>QZ (c.toNat:Int)):=by
    unfold Qc;rw[decide_eq_true (show(c::r).length<=24 by omega)];simp
   rw[p,<-qBC]
   have g:=qZ (P:=λ i=>Ev (λ m k=>jr m k (c::r) (c::r).length i) (((c::r).drop i).all λ c=>QZ (c.toNat:Int))) (c::r) (by omega)
    (λ j=>by
     refine waj ?_;simp only[qjc,qca];refine wai j (waf ?_);rw[km];rfl)
    (λ i x y t j s q u=>by
     refine waj ?_;simp only[qjc,qca];refine wag j (wam s (wae (qxG _) ?_));rw[t,ke,q];cases w:QZ (x.toNat:Int)with
     |true=>exact wai rfl (u.res (by simp))
     |false=>exact wag rfl (wak _))
   have o:Ev (λ m _=>jr m m (c::r) (c::r).length 0) ((c::r).all λ c=>QZ (c.toNat:Int)):=by
    refine wan (L:=λ m k=>jr m k (c::r) (c::r).length 0) ?_;exact(g 0 (wh _)).res (by rw[wP])
   have a:qg (c::r) 0=some c:=qlo _
   have b:Ev (λ m _=>cond (ieq (c.toNat:Int) 95) (some false) (qb (qg (c::r) 0) λ v=>cond (ieq (v.toNat:Int) 35) (some false) (jr m m (c::r) (c::r).length 0))) ((!(decide ((c.toNat:Int)=95)) && !(decide ((c.toNat:Int)=35)))&&(c::r).all λ c=>QZ (c.toNat:Int)):=by
    by_cases f:(c.toNat:Int)=95
    .exact wag (qz.2 f) (waf (by rw[decide_eq_true f];rfl))
    .refine wai (ql.2 f) (wam a ?_);rw[decide_eq_false f];by_cases e:(c.toNat:Int)=35
     .exact wag (qz.2 e) (waf (by rw[decide_eq_true e];rfl))
     .refine wai (ql.2 e) (o.res ?_);rw[decide_eq_false e];rfl
   cases w:QZ (c.toNat:Int)with
   |false=>exact wag rfl (wak _)
   |true=>
     refine wai rfl (wam a ?_);by_cases d:48<=(c.toNat:Int)
     .refine wag (qno.2 d) (wam a ?_);by_cases n:(c.toNat:Int)<=57
      .exact wag (qno.2 n) (waf (by rw[decide_eq_true d,decide_eq_true n];rfl))
      .refine wai (que.2 (by omega)) (wam a ?_);exact b.res (by rw[decide_eq_true d,decide_eq_false n];rfl)
     .refine wai (que.2 (by omega)) (wam a ?_);exact b.res (by rw[decide_eq_false d];rfl)
theorem qDV(t:T):Ev (λ m _=>qfV m t) (qaa t):=by
 refine wal ?_;simp only[qv4,qfr];unfold qaa qnp
 have nm:∀{R:Int},(∀b,Qc t.name=b->(if b then(if 8<t.kids.length then 3 else 0)else 2)=R)->Ev (λ m _=>qb (qan m t.name) λ v=>cond (qh v) (some 2) (cond (ilt 8 (t.kids.length:Int)) (some 3) (some 0))) R:=by
  intro R h;refine wae (qAd _) ?_;refine Ev.res ?_ (h _ rfl);cases j:Qc t.name with
  |false=>exact wag rfl (wak _)
  |true=>
    refine wai rfl ?_;refine wah (λ h=>?_) λ h=>?_
    .rw[z8]at h;exact waf (by rw[if_pos rfl,if_pos (by omega)])
    .rw[zZ]at h;exact waf (by rw[if_pos rfl,if_neg (by omega)])
 have d:t.kids.length=0->∀{R:Int},(∀b,Qc t.name=b->(if b then 0 else 2)=R)->Ev (λ m _=>qb (qan m t.name) λ v=>cond (qh v) (some 2) (cond (ilt 8 (t.kids.length:Int)) (some 3) (some 0))) R:=by
  intro k R h;refine nm λ b e=>?_;rw[if_neg (show ¬ 8<t.kids.length by omega)];exact h b e
 by_cases i:t.kind=1
 .rw[if_pos (.inl i)];refine wag (qz.2 i) ?_;refine wah (λ h=>?_) λ h=>?_
  .rw[z8]at h;exact waf (by rw[if_pos (.inl h)])
  rw[zZ]at h;refine wah (λ c=>?_) λ c=>?_
  .rw[z8]at c;exact waf (by rw[if_pos (.inr (.inl c))])
  rw[zZ]at c;refine wah (λ a=>?_) λ a=>?_
  .rw[z8]at a;exact waf (by rw[if_pos (.inr (.inr (by omega)))])
  rw[zZ]at a;rw[if_neg (by omega)];exact d (by omega) λ b e=>by rw[e]
 refine wai (ql.2 i) ?_;by_cases f:t.kind=2
 .rw[if_pos (.inr f)];refine wai (bnf.2 (qz.2 f)) ?_;refine wah (λ h=>?_) λ h=>?_
  .rw[z8]at h;exact waf (by rw[if_pos (.inl h)])
  rw[zZ]at h;refine wah (λ c=>?_) λ c=>?_
  .rw[z8]at c;exact waf (by rw[if_pos (.inr (.inl c))])
  rw[zZ]at c;refine wai (bnf.2 (qz.2 f)) (wag (qz.2 f) ?_);refine wah (λ a=>?_) λ a=>?_
  .rw[z8]at a;exact waf (by rw[if_pos (.inr (.inr (by omega)))])
  rw[zZ]at a;rw[if_neg (by omega)];exact d (by omega) λ b e=>by rw[e]
 refine wag (bnt.2 (ql.2 f)) ?_;rw[if_neg (by omega)];by_cases g:t.kind=3
 .rw[if_pos g];refine wai (bnf.2 (qz.2 g)) ?_;refine wah (λ h=>?_) λ h=>?_
  .rw[z8]at h;exact waf (by rw[if_pos (by omega)])
  rw[zZ]at h;refine wah (λ c=>?_) λ c=>?_
  .rw[z8]at c;exact waf (by rw[if_pos (by omega)])
  rw[zZ]at c;refine wag (bnt.2 (ql.2 f)) ?_;refine wah (λ a=>?_) λ a=>?_
  .rw[bnt,ql]at a;exact waf (by rw[if_pos a])
  rw[bnf,qz]at a;rw[if_neg (by omega)];refine wai (ql.2 f) ?_;exact nm λ b e=>by rw[e]
 .rw[if_neg g];exact wag (bnt.2 (ql.2 g)) (wak _)
theorem qBQ(t:T):size t<=1000000000->Ev (λ m _=>yy m t) (qaR t):=by
 induction t using T.ind with
 |h t d=>
   intro n;refine wal ?_;simp only[qtG,qcg,qL];have o:=Qe t
   have a:=qZ (P:=λ i=>Ev (λ m k=>QE m (yy m) k i t.kind t.name t.sort t.kids) (((t.kids.drop i).map qaR).foldl thn 0)) t.kids (by omega)
    (λ b=>by
     refine waj ?_;simp only[qiU,qb6];refine wai b ?_;exact waf (by simp))
    (λ i x e j b g f l=>by
     refine waj ?_;simp only[qiU,qb6,qL];refine wag b (wam g ?_);have c:=wc e;have p:=JN t x c;refine wae (d x c (by omega)) ?_;rw[j,wz,qbU,f];refine wah (λ h=>?_) λ h=>?_
     .rw[bnt,ql]at h;exact waf (by rw[zf _ h])
     .rw[bnf,qz]at h;rw[h];exact l)
   rw[qho];refine wae (qDV t) ?_;refine wah (λ h=>?_) λ h=>?_
   .rw[bnt,ql]at h;exact waf (by rw[zf _ h])
   .rw[bnf,qz]at h;rw[h];refine wan (L:=λ m k=>QE m (yy m) k 0 t.kind t.name t.sort t.kids) ?_;exact(a 0 (wh _)).res (by rw[wP])
theorem qsy(t:T)(a:size t<=1000000000):Ev (λ m _=>qcH m t) (zm t):=by
 refine wal ?_;simp only[qtW,qeR,qL];unfold zm;refine wae (qBQ t a) ?_;refine wah (λ h=>?_) λ h=>?_
 .rw[bnt,ql]at h;exact waf (by rw[if_pos h])
 rw[bnf,qz]at h;rw[if_neg (by omega)];refine wae (qph t a) ?_;refine wah (λ h=>?_) λ h=>?_
 .rw[z8]at h;exact waf (by rw[if_pos (.inl (by omega))])
 rw[zZ]at h;refine wae (qAP t a) ?_;refine wah (λ h=>?_) λ h=>?_
 .rw[z8]at h;exact waf (by rw[if_pos (.inr (by omega))])
 .rw[zZ]at h;exact waf (by rw[if_neg (by omega)])
end Go.AmZ
namespace Go.AmZ
open Go Go.GxZ Go.Lib
theorem qwt(b d:Nat):∀(l:List Nat) (c:Nat),l.foldl (λ a x=>max a (b+x)) (max d (b+c))=max d (b+l.foldl max c)
 |[],c=>rfl
 |x::l,c=>by
   rw[xt,xt,<-qwt b d l (max c x)];congr 1;omega
def qE7(a n d:Nat)(e:Int)(s:Nat)(x:Nat)(r:(Int×Int×Unit)×(Int×Unit)):Prop:=r.2.1=e/\(e=0->r.1.1=((n+s:Nat):Int)/\r.1.2.1=((max d (a+x):Nat):Int))
theorem qCa(t:T):size t<=1000000000->∀c n d:Nat,c+size t<=2000000000->n+size t<=2000000000->d<=2000000000->∃r,Ev (λ m _=>zk m t c n d) r/\qE7 c n d (qaR t) (size t) (JZ t-1) r:=by
 induction t using T.ind with
 |h t U=>
   intro hs c n d N B aa;have hl:=Qe t;have X:=jk t
   have G:=qZ (P:=λ i=>∀n d:Nat,n+((t.kids.drop i).map size).sum<=2000000000->d<=2000000000->∃r,Ev (λ m k=>yx m (zk m) k c t.kids t.kids.length i n d) r/\r.2.1=((t.kids.drop i).map qaR).foldl thn 0/\(((t.kids.drop i).map qaR).foldl thn 0=0->r.1.1=((n+((t.kids.drop i).map size).sum:Nat):Int)/\r.1.2.1=((((t.kids.drop i).map JZ).foldl (λ a x=>max a (c+x)) d:Nat):Int))) t.kids (by omega)
    (λ J n d _ _=>by
     refine⟨((n,d,()),(0,())),?_,?_,λ _=>⟨?_,?_⟩⟩
     .refine waj ?_;simp only[qkG,qcK];exact wai J (wak _)
     .simp
     .simp
     .simp)
    (λ i x W Q J hg Z hP n d B I=>by
     have M:=wc W;have q:=JN t x M;rw[qop Q]at B;let⟨r,Y,C,V⟩:=U x M (by omega) (c+1) n d (by omega) (by omega) I
     have l:∀w ,(r.2.1≠0->w=((r.1.1,r.1.2.1,()),(r.2.1,())))->(r.2.1=0->Ev (λ m k=>yx m (zk m) k c t.kids t.kids.length ((i+1:Nat):Int) r.1.1 r.1.2.1) w)->Ev (λ m k=>yx m (zk m) k c t.kids t.kids.length i n d) w:=by
      intro w A u;refine waj ?_;simp only[qkG,qcK,qL];refine wag J (wam hg ?_);rw[show qj (c:Int) 1=((c+1:Nat):Int) by unfold qj;omega,qhN (by omega),Z];refine wae Y ?_;refine wah (λ h=>?_) λ h=>?_
      .rw[bnt,ql]at h;exact waf (A h).symm
      .rw[bnf,qz]at h;exact u h
     rw[Q,wz,wz,wz,xV,qbU,xt];by_cases f:qaR x=0
     .let⟨S,R⟩:=V f;have O:=qxD x;let⟨w,A,u,g3⟩:=hP (n+size x) (max d (c+1+(JZ x-1))) (by omega) (by omega);refine⟨w,l w (λ h=>absurd (C.trans f) h) (λ _=>by rw[S,R];exact A),by rw[f];exact u,λ o=>?_⟩;rw[f]at o;let⟨F,E⟩:=g3 o;refine⟨by rw[F];congr 1;omega,?_⟩;rw[E];have:JZ x ≥ 1:=by rw[qgd];omega
      rw[show max d (c+1+(JZ x-1))=max d (c+JZ x) by omega]
     .refine⟨((r.1.1,r.1.2.1,()),(r.2.1,())),l _ (λ _=>rfl) (λ h=>absurd (C.symm.trans h) f),?_,λ o=>?_⟩
      .rw[zf _ f];exact C
      .rw[zf _ f]at o;exact absurd o f)
   have start:∀r,(qaa t≠0->r=((((n+1:Nat):Int),((max d c:Nat):Int),()),(qaa t,())))->(qaa t=0->Ev (λ m _=>yx m (zk m) m c t.kids t.kids.length 0 ((n+1:Nat):Int) ((max d c:Nat):Int)) r)->Ev (λ m _=>zk m t c n d) r:=by
    intro r A u;refine wal ?_;simp only[qvV,qcN];rw[show qj (n:Int) 1=((n+1:Nat):Int) by unfold qj;omega,qhN (by omega),qvP]
    have g:∀e,qaa t=e->e≠0->Ev (λ _ _=>some ((((n+1:Nat):Int),((max d c:Nat):Int),()),(e,()))) r:=by
     intro e C h;refine waf ?_;subst C;exact(A h).symm
    have nm:(t.kind=3\/t.kids.length=0)->(∀b,Qc t.name=b->(if b then(if 8<t.kids.length then 3 else 0)else 2)=qaa t)->Ev (λ m _=>qb (qaZ m t.name) λ v=>cond (qh v) (some ((((n+1:Nat):Int),((max d c:Nat):Int),()),(2,()))) (cond (ilt 8 (t.kids.length:Int)) (some ((((n+1:Nat):Int),((max d c:Nat):Int),()),(3,()))) (yx m (zk m) m c t.kids t.kids.length 0 ((n+1:Nat):Int) ((max d c:Nat):Int)))) r:=by
     intro _ h;have h:=h _ rfl;refine wae (qyC _) ?_;cases B:Qc t.name with
     |false=>rw[B]at h;exact wag rfl (g 2 h.symm (by decide))
     |true=>
       rw[B,if_pos rfl]at h;refine wai rfl ?_;refine wah (λ j=>?_) λ j=>?_
       .rw[z8]at j;rw[if_pos (by omega)]at h;exact g 3 h.symm (by decide)
       .rw[zZ]at j;rw[if_neg (by omega)]at h;exact u h.symm
    have y:∀k,t.kind=k->(k=1\/k=2)->qaa t=if t.sort<0\/5<t.sort\/0<t.kids.length then 1 else if Qc t.name then 0 else 2:=by
     intro k H h;unfold qaa qnp;rw[H,if_pos h]
    have s:∀k,t.kind=k->(k=1\/k=2)->Ev (λ m _=>cond (ilt t.sort 0) (some ((((n+1:Nat):Int),((max d c:Nat):Int),()),(1,()))) (cond (ilt 5 t.sort) (some ((((n+1:Nat):Int),((max d c:Nat):Int),()),(1,()))) (cond (ilt 0 (t.kids.length:Int)) (some ((((n+1:Nat):Int),((max d c:Nat):Int),()),(1,()))) (qb (qaZ m t.name) λ v=>cond (qh v) (some ((((n+1:Nat):Int),((max d c:Nat):Int),()),(2,()))) (cond (ilt 8 (t.kids.length:Int)) (some ((((n+1:Nat):Int),((max d c:Nat):Int),()),(3,()))) (yx m (zk m) m c t.kids t.kids.length 0 ((n+1:Nat):Int) ((max d c:Nat):Int))))))) r:=by
     intro k H h;have p:=y k H h;refine wah (λ j=>?_) λ j=>?_
     .rw[z8]at j;exact g 1 (by rw[p,if_pos (.inl j)]) (by decide)
     rw[zZ]at j;refine wah (λ q=>?_) λ q=>?_
     .rw[z8]at q;exact g 1 (by rw[p,if_pos (.inr (.inl q))]) (by decide)
     rw[zZ]at q;refine wah (λ z=>?_) λ z=>?_
     .rw[z8]at z;exact g 1 (by rw[p,if_pos (.inr (.inr (by omega)))]) (by decide)
     rw[zZ]at z;rw[if_neg (by omega)]at p;refine nm (.inr (by omega)) λ b K=>?_;rw[p,K,if_neg (show ¬ 8<t.kids.length by omega)]
    by_cases q:t.kind=1
    .exact wag (qz.2 q) (s 1 q (.inl rfl))
    refine wai (ql.2 q) ?_;by_cases z:t.kind=2
    .exact wag (qz.2 z) (s 2 z (.inr rfl))
    refine wai (ql.2 z) ?_;by_cases D:t.kind=3
    .refine wag (qz.2 D) ?_
     have p:qaa t=if t.sort≠0 then 1 else if Qc t.name then(if 8<t.kids.length then 3 else 0)else 2:=by
      unfold qaa qnp;rw[if_neg (by omega),if_pos D]
     refine wah (λ j=>?_) λ j=>?_
     .rw[bnt,ql]at j;exact g 1 (by rw[p,if_pos j]) (by decide)
     rw[bnf,qz]at j;rw[if_neg (by omega)]at p;exact nm (.inl D) λ b K=>by rw[p,K]
    .refine wai (ql.2 D) ?_;refine g 1 ?_ (by decide);unfold qaa qnp;rw[if_neg (by omega),if_neg D]
   rw[qho];by_cases f:qaa t=0
   .rw[f];let⟨r,A,u,g3⟩:=G 0 (wh _) (n+1) (max d c) (by rw[wP];omega) (by omega);rw[wP]at u g3;refine⟨r,start r (λ h=>absurd f h) (λ _=>wan (L:=λ m k=>yx m (zk m) k c t.kids t.kids.length 0 ((n+1:Nat):Int) ((max d c:Nat):Int)) A),u,λ o=>?_⟩;let⟨F,E⟩:=g3 o;refine⟨by rw[F];congr 1;omega,?_⟩;rw[E,show max d c=max d (c+0) by omega,qwt,qgd,Nat.add_sub_cancel]
   .refine⟨_,start _ (λ _=>rfl) (λ h=>absurd h f),?_,λ o=>?_⟩
    .rw[zf _ f]
    .rw[zf _ f]at o;exact absurd o f
theorem qhS(t:T)(c:size t<=1000000000):Ev (λ m _=>qN m t) (zm t):=by
 refine wal ?_;simp only[qvW,qfD,qL];unfold zm;let⟨r,f,e,d⟩:=qCa t c 1 0 0 (by omega) (by omega) (by omega);refine wae f ?_;rw[e];refine wah (λ h=>?_) λ h=>?_
 .rw[bnt,ql]at h;exact waf (by rw[if_pos h])
 rw[bnf,qz]at h;let⟨b,a⟩:=d h;have g:JZ t ≥ 1:=by rw[qgd];omega
 rw[if_neg (by omega),b,a];refine wah (λ h=>?_) λ h=>?_
 .rw[z8]at h;exact waf (by rw[if_pos (.inl (by omega))])
 rw[zZ]at h;refine wah (λ h=>?_) λ h=>?_
 .rw[z8]at h;exact waf (by rw[if_pos (.inr (by omega))])
 .rw[zZ]at h;exact waf (by rw[if_neg (by omega)])
def qlz:T->Prop:=T.para λ t a=>t.kids.length<2^62/\t.name.length<2^62/\∀p∈a,p
theorem qyd(t:T):qlz t↔t.kids.length<2^62/\t.name.length<2^62/\∀k∈t.kids,qlz k:=by
 unfold qlz;rw[T.para_eq];exact⟨λ⟨a,b,c⟩=>⟨a,b,λ k d=>c _ (xb d)⟩,λ⟨a,b,c⟩=>⟨a,b,λ p e=>by obtain⟨k,d,rfl⟩:=wI.1 e;exact c k d⟩⟩
theorem qB4{l:List T}{a:Int}(c:0<=a)(h:qjR l a=true):∀t∈l,(size t:Int)<=a:=λ t b=>by
 have e:=qtb l a c h;have d:=qkw l t b;omega
end Go.AmZ
namespace Go.GxZ
def qqW(t:T):Int:=if(ya t.name).2.2=0 then 10 else if qiA yY t.name t.kids.length=false then 6 else if(ya t.name).2.2=2/\qgf t=false then 10 else 0
theorem qyE(n:List UInt8):(yY.find? λ r=>r.1==n)=none\/∃r∈yY,r.1=n/\(yY.find? λ r=>r.1==n)=some r:=by
 cases h:yY.find? λ r=>r.1==n with
 |none=>exact .inl rfl
 |some r=>exact .inr ⟨r,List.mem_of_find?_eq_some h,by simpa using List.find?_some h,rfl⟩
theorem qyo{n:List UInt8}(h:(yY.find? λ r=>r.1==n)=none):ya n=(0,0,0):=by unfold ya;rw[h];rfl
theorem qrj{n:List UInt8}{r:List UInt8×Int×Int×Int}(h:(yY.find? λ r=>r.1==n)=some r):ya n=r.2:=by unfold ya;rw[h];rfl
def qDz(r:List UInt8×Int×Int×Int):Bool:=
 decide (r.2.2.2≠0)&&decide (0<=r.2.1)&&decide (r.2.2.1<=8)&&(decide (r.2.2.2=2)==(r.1==qg8||r.1==nSk||r.1==qvN))&&(decide (r.2.2.2=2)==decide (r.2.2.2=2/\1<=r.2.1))&&(decide (r.2.2.2=3)==(r.1==qFS||r.1==qEZ||r.1==qFy||r.1==qDF||r.1==qDE||r.1==qDv))
theorem qEh:yY.all qDz=true:=by decide
theorem qpG{n:List UInt8}(h:(ya n).2.2≠0):qDr yY n=true/\qsn yY n=ya n/\0<=(ya n).1/\(ya n).2.1<=8/\((ya n).2.2=2↔n=qg8\/n=nSk\/n=qvN)/\((ya n).2.2=2->1<=(ya n).1)/\((ya n).2.2=3↔isD n=true):=by
 obtain b|⟨r,d,g,b⟩:=qyE n
 .rw[qyo b]at h;exact absurd rfl h
 .have c:=wo.1 qEh r d;subst g;rw[qrj b];unfold qDz at c;simp only[wb,beq_iff_eq,decide_eq_true_eq]at c;let⟨⟨⟨⟨⟨l,k⟩,j⟩,a⟩,f⟩,i⟩:=c;refine⟨List.any_eq_true.2 ⟨r,d,by simp⟩,qrj b,k,j,?_,?_,?_⟩
  .constructor
   .intro h;rw[decide_eq_true h]at a;have:=a.symm;simp only[wW,beq_iff_eq]at this;exact or_assoc.1 this
   .intro h;by_cases e:r.2.2.2=2
    .exact e
    .rw[decide_eq_false e]at a;have:=a.symm;simp only[xg,beq_eq_false_iff_ne]at this;obtain h|h|h:=h
     .exact absurd h this.1.1
     .exact absurd h this.1.2
     .exact absurd h this.2
  .intro h;rw[decide_eq_true h]at f;have:=of_decide_eq_true f.symm;exact this.2
  .unfold isD;rw[<-i];simp
theorem qCL(t:T)(n:t.kind=3):qqW t=qeE t:=by
 unfold qqW qeE;rw[if_neg (show ¬ (t.kind≠3)from λ h=>h n)];by_cases b:(ya t.name).2.2=0
 .rw[if_pos b,if_pos b]
 .rw[if_neg b,if_neg b];let⟨j,i,r,q,g,p,o⟩:=qpG b
  have e1:qiA yY t.name t.kids.length=(decide ((ya t.name).1<=(t.kids.length:Int))&&decide ((t.kids.length:Int)<=(ya t.name).2.1)):=by
   unfold qiA;rw[j,i,kJ]
  rw[e1];by_cases e:(t.kids.length:Int)<(ya t.name).1\/(ya t.name).2.1<(t.kids.length:Int)
  .rw[if_pos e,if_pos];rw[xN,decide_eq_false_iff_not,decide_eq_false_iff_not];omega
  .rw[if_neg e,if_neg]
   .have f:(ya t.name).2.2=2/\qgf t=false↔qaO t=true:=by
      rw[g];unfold qgf qaO;by_cases a:t.name=qg8
      .rw[if_pos a,if_pos a];simp[a]
      .rw[if_neg a,if_neg a];by_cases c:t.name=nSk\/t.name=qvN
       .rw[if_pos c]
        have:agB t.kids = !(t.kids.any λ k=>decide (k.kind=3)||decide (k.sort≠1)):=by
         unfold agB;generalize t.kids=l
         induction l with
         |nil=>rfl
         |cons x l m=>simp only[ke,wac,m,Bool.not_or];congr 1;congr 1;by_cases h:x.sort=1<;>simp[bne,h]
        rw[this];simp[c]
       .rw[if_neg c];constructor
        .rintro⟨h,_⟩;obtain h|h:=h
         .exact absurd h a
         .exact absurd h c
        .intro h;cases h
    by_cases d:qaO t=true
    .rw[if_pos d,if_pos (f.2 d)]
    .rw[if_neg d,if_neg (λ h=>d (f.1 h))]
   .rw[xN,decide_eq_false_iff_not,decide_eq_false_iff_not];omega
end Go.GxZ
namespace Go.AmZ
open Go Go.GxZ Go.Lib
def qDg(n:List UInt8):List UInt8×Int×Int×Int:=(yY.find? λ r=>r.1==n).getD ([],0,0,0)
theorem qoV(n:List UInt8):(qDg n).2=ya n:=by
 unfold qDg ya;cases yY.find? λ r=>r.1==n<;>rfl
theorem qsF(n:List UInt8):Ev (λ m _=>JD m n) (qDg n):=by
 refine wal ?_;simp only[qrf,qaI];refine wae (a:=yY) (wak _) ?_
 have b:=qZ (P:=λ i=>Ev (λ m k=>jS m k n yY yY.length i [] 0 0 0) (((yY.drop i).find? λ r=>r.1==n).getD ([],0,0,0))) yY (by decide)
  (λ c=>by
   refine waj ?_;simp only[qg3,qaz];refine wai c ?_;exact wak _)
  (λ i x j f c e d g=>by
   refine waj ?_;simp only[qg3,qaz];refine wag c (wam e ?_);rw[f,List.find?_cons,d];refine wah (λ h=>?_) λ h=>?_
   .exact waf (by rw[show(x.1==n)=true from h];rfl)
   .rw[show(x.1==n)=false from h];exact g)
 refine wan (L:=λ m k=>jS m k n yY yY.length 0 [] 0 0 0) ?_;exact b 0 (wh _)
theorem qD0{t:T}{i:Nat}(h:i<t.kids.length):qg t.kids (i:Int)=some (kid t i):=by
 rw[qdd];unfold kid;rw[List.getD_eq_getElem?_getD,List.getElem?_eq_getElem h];rfl
theorem qDx{t:T}(h:0<t.kids.length):qg t.kids 0=some (kid t 0):=qD0 (i:=0) h
theorem qAQ(t:T):size t<=1000000000->Ev (λ m _=>qn m t) (qa3 t):=by
 induction t using T.ind with
 |h t E=>
   intro F;refine wal ?_;simp only[qru,qbm];have G:=Qe t;rw[qnh];refine wah (λ h=>?_) λ z=>?_
   .rw[bnt,ql]at h;exact waf (by rw[if_pos h])
   rw[bnf,qz]at z;rw[if_neg (show ¬ t.kind≠3 from λ c=>c z)]
   have C:=qZ (P:=λ i=>Ev (λ m k=>(qC m (qn m) k).2 t.kids t.kids.length i) (((t.kids.drop i).map qa3).foldl thn 0)) t.kids (by omega)
    (λ f=>by
     refine waj ?_;simp only[qhV,qbc];refine wai f ?_;exact waf (by simp))
    (λ i x A w f v u y=>by
     refine waj ?_;simp only[qhV,qbc,qL];have B:=wc A;have l:=JN t x B;refine wag f (wam v (wae (E x B (by omega)) ?_));rw[w,wz,qbU,u];refine wah (λ h=>?_) λ h=>?_
     .rw[bnt,ql]at h;exact waf (by rw[zf _ h])
     .rw[bnf,qz]at h;rw[h];exact y)
   have n:Ev (λ m k=>(qC m (qn m) k).2 t.kids t.kids.length 0) ((t.kids.map qa3).foldl thn 0):=(C 0 (wh _)).res (by rw[wP])
   have D:=qZ (P:=λ i=>Ev (λ m k=>(qC m (qn m) k).1 t.kids t.kids.length i t.kind t.name t.sort t.kids) (if(t.kids.drop i).any (λ k=>decide (k.kind=3)||decide (k.sort≠1))=true then 10 else(t.kids.map qa3).foldl thn 0)) t.kids (by omega)
    (λ f=>by
     refine waj ?_;simp only[qih,qbd];refine wai f ?_;refine n.res ?_;rw[km];rfl)
    (λ i x A w f v u y=>by
     refine waj ?_;simp only[qih,qbd,qL];refine wag f (wam v ?_);rw[w,wac,u];refine wah (λ h=>?_) λ h=>?_
     .rw[qz]at h;exact waf (by rw[decide_eq_true h];rfl)
     rw[ql]at h;rw[decide_eq_false h];refine wah (λ q=>?_) λ q=>?_
     .rw[bnt,ql]at q;exact waf (by rw[decide_eq_true q];rfl)
     .rw[bnf,qz]at q;rw[decide_eq_false (λ c=>c q)];exact y)
   have d:qeE t=0->Ev (λ m _=>(qC m (qn m) m).2 t.kids t.kids.length 0) ((t.kids.map qa3).foldl thn (qeE t)):=λ h=>by
    rw[h];exact wan (L:=λ m k=>(qC m (qn m) k).2 t.kids t.kids.length 0) n
   have e:qaO t=t.kids.any (λ k=>decide (k.kind=3)||decide (k.sort≠1))->qeE t=(if qaO t=true then 10 else 0)->Ev (λ m _=>(qC m (qn m) m).1 t.kids t.kids.length 0 t.kind t.name t.sort t.kids) ((t.kids.map qa3).foldl thn (qeE t)):=λ r h=>by
    refine(wan (L:=λ m k=>(qC m (qn m) k).1 t.kids t.kids.length 0 t.kind t.name t.sort t.kids) (D 0 (wh _))).res ?_;rw[wP,<-r,h];split
    .rw[zf _ (by decide)]
    .rfl
   refine wae (qsF t.name) ?_;rw[qoV]
   have a:qeE t=if(ya t.name).2.2=0 then 10 else if(t.kids.length:Int)<(ya t.name).1\/(ya t.name).2.1<(t.kids.length:Int)then 6 else if qaO t=true then 10 else 0:=by
    unfold qeE;rw[if_neg (show ¬ t.kind≠3 from λ c=>c z)]
   refine wah (λ h=>?_) λ h=>?_
   .rw[qz]at h;rw[if_pos h]at a;exact waf (by rw[a,zf _ (by decide)])
   rw[ql]at h;rw[if_neg h]at a;refine wah (λ l=>?_) λ l=>?_
   .rw[z8]at l;rw[if_pos (.inl l)]at a;exact waf (by rw[a,zf _ (by decide)])
   rw[zZ]at l;refine wah (λ s=>?_) λ s=>?_
   .rw[z8]at s;rw[if_pos (.inr s)]at a;exact waf (by rw[a,zf _ (by decide)])
   rw[zZ]at s;rw[if_neg (by omega)]at a;refine wah (λ p=>?_) λ p=>?_
   .rw[qaw]at p;refine e ?_ a;unfold qaO;rw[p,if_neg (by decide),if_pos (.inl rfl)]
   rw[qaA]at p;refine wah (λ b=>?_) λ b=>?_
   .rw[qaw]at b;refine e ?_ a;unfold qaO;rw[b,if_neg (by decide),if_pos (.inr rfl)]
   rw[qaA]at b;refine wah (λ j=>?_) λ j=>?_
   .rw[qaw]at j
    have o:0<t.kids.length:=by
     rw[j,show(ya [110,101,119]).1=1 from by decide]at l;omega
    refine wam (qDx o) ?_
    have r:qaO t=decide ((kid t 0).kind≠2):=by
     unfold qaO;rw[if_pos (show t.name=qg8 from j)]
    refine wah (λ c=>?_) λ c=>?_
    .rw[bnt,ql]at c;rw[r,decide_eq_true c,if_pos rfl]at a;exact waf (by rw[a,zf _ (by decide)])
    .rw[bnf,qz]at c;rw[r,decide_eq_false (λ g=>g c)]at a;exact d a
   .rw[qaA]at j;refine d ?_
    have:qaO t=false:=by
     unfold qaO;rw[if_neg (show ¬ t.name=qg8 from j),if_neg (λ h=>h.elim p b)]
    rw[this]at a;exact a
theorem qx0(t:T)(a:size t<=1000000000):Ev (λ m _=>Je m t) (qdc t):=by
 refine wal ?_;simp only[qrN,qee,qL];unfold qdc;refine wae (qhS t a) ?_;refine wah (λ h=>?_) λ h=>?_
 .rw[bnt,ql]at h;exact waf (by rw[jE h])
 .rw[bnf,qz]at h;rw[h];exact wae (qAQ t a) (wak _)
theorem qx9(n:List UInt8):Ev (λ m _=>qdZ m n) (ya n).2.2:=by
 refine wal ?_;simp only[quw,qcL];refine wae (a:=yY) (wal (wak _)) ?_
 have b:=qZ (P:=λ i=>Ev (λ m k=>Jb m k n yY i) (((yY.drop i).find? λ r=>r.1==n).getD ([],0,0,0)).2.2.2) yY (by decide)
  (λ c=>by
   refine waj ?_;simp only[qkT,qcS];refine wai c ?_;exact wak _)
  (λ i x j f c d e g=>by
   refine waj ?_;simp only[qkT,qcS];refine wag c (wam d ?_);rw[f,List.find?_cons,e];refine wah (λ h=>?_) λ h=>?_
   .refine wam d (waf ?_);rw[show(x.1==n)=true from h];rfl
   .rw[show(x.1==n)=false from h];exact g)
 refine wan (L:=λ m k=>Jb m k n yY 0) ?_;exact(b 0 (wh _)).res (by rw[<-qoV];rfl)
theorem qD7(t:T):Ev (λ m _=>qf7 m t) (qiA yY t.name t.kids.length):=by
 refine wal ?_;simp only[quH,qcP];refine wae (a:=yY) (wal (wak _)) ?_
 have c:=qZ (P:=λ i=>Ev (λ m k=>Jc m k yY i t.kind t.name t.sort t.kids) (qiA (yY.drop i) t.name t.kids.length)) yY (by decide)
  (λ e=>by
   refine waj ?_;simp only[qkQ,qcM];refine wai e ?_;exact wak _)
  (λ i x l g e d f j=>by
   refine waj ?_;simp only[qkQ,qcM];refine wag e (wam d ?_);rw[g,qA5,f];refine wah (λ h=>?_) λ h=>?_
   .rw[if_pos (show(x.1==t.name)=true from h)];refine wam d ?_;refine wah (λ b=>?_) λ b=>?_
    .rw[qno]at b;refine wam d (waf ?_);rw[decide_eq_true b];rfl
    .rw[que]at b;exact waf (by rw[decide_eq_false (by omega)];rfl)
   .rw[if_neg (by rw[show(x.1==t.name)=false from h];decide)];exact j)
 refine wan (L:=λ m k=>Jc m k yY 0 t.kind t.name t.sort t.kids) ?_;exact c 0 (wh _)
theorem qAA(t:T)(f:t.kids.length<2^62)(a:t.name=qg8->0<t.kids.length):Ev (λ m _=>qdF m t) (qgf t):=by
 refine wal ?_;simp only[qso,qbg];unfold qgf;refine wah (λ h=>?_) λ h=>?_
 .rw[qaw]at h;rw[if_pos (show t.name=qg8 from h)];refine wam (qDx (a h)) (wak _)
 rw[qaA]at h;rw[if_neg (show ¬ t.name=qg8 from h)]
 have c:=qZ (P:=λ i=>Ev (λ m k=>Qn m k i t.kind t.name t.sort t.kids) (agB (t.kids.drop i))) t.kids f
  (λ d=>by
   refine waj ?_;simp only[qhU,qa9];refine wai d ?_;exact waf (by rw[km];rfl))
  (λ i x n j d e g l=>by
   refine waj ?_;simp only[qhU,qa9];refine wag d (wam e ?_);rw[j,qCh,g];refine wah (λ h=>?_) λ h=>?_
   .exact waf (by rw[show(x.kind==3)=true from h];rfl)
   rw[show(x.kind==3)=false from h];refine wam e ?_;refine wah (λ b=>?_) λ b=>?_
   .rw[bnt,ql]at b;exact waf (by rw[show(x.sort != 1)=true from bne_iff_ne.2 b];rfl)
   .rw[bnf,qz]at b;rw[show(x.sort != 1)=false by rw[b];rfl];exact l)
 refine wan (L:=λ m k=>Qn m k 0 t.kind t.name t.sort t.kids) ?_;exact(c 0 (wh _)).res (by rw[wP])
theorem qzK(t:T):size t<=1000000000->Ev (λ m _=>yk m t) (qa3 t):=by
 induction t using T.ind with
 |h t o=>
   intro C;refine wal ?_;simp only[qt5,qbX,qL];have E:=Qe t;rw[qnh];refine wah (λ h=>?_) λ f=>?_
   .rw[bnt,ql]at h;exact waf (by rw[if_pos h])
   rw[bnf,qz]at f;rw[if_neg (show ¬ t.kind≠3 from λ r=>r f),<-qCL t f]
   have c:=qZ (P:=λ i=>Ev (λ m k=>jZ m (yk m) k i t.kind t.name t.sort t.kids) (((t.kids.drop i).map qa3).foldl thn 0)) t.kids (by omega)
    (λ e=>by
     refine waj ?_;simp only[qiQ,qb1];refine wai e ?_;exact waf (by simp))
    (λ i x p u e s q w=>by
     refine waj ?_;simp only[qiQ,qb1,qL];have g:=wc p;have G:=JN t x g;refine wag e (wam s (wae (o x g (by omega)) ?_));rw[u,wz,qbU,q];refine wah (λ h=>?_) λ h=>?_
     .rw[bnt,ql]at h;exact waf (by rw[zf _ h])
     .rw[bnf,qz]at h;rw[h];exact w)
   have a:qqW t=0->Ev (λ m _=>jZ m (yk m) m 0 t.kind t.name t.sort t.kids) ((t.kids.map qa3).foldl thn (qqW t)):=λ h=>by
    rw[h];exact(wan (L:=λ m k=>jZ m (yk m) k 0 t.kind t.name t.sort t.kids) (c 0 (wh _))).res (by rw[wP])
   unfold qqW at a |-
   refine wae (qx9 t.name) ?_;refine wah (λ h=>?_) λ h=>?_
   .rw[qz]at h;rw[if_pos h];exact waf (by rw[zf _ (by decide)])
   rw[ql]at h;rw[if_neg h]at a |-
   refine wae (qD7 t) ?_;cases d:qiA yY t.name t.kids.length with
   |false=>
     refine wag rfl ?_;rw[if_pos rfl];exact waf (by rw[zf _ (by decide)])
   |true=>
     rw[d,if_neg (by decide)]at a;rw[if_neg (by decide)];refine wai rfl ?_;refine wah (λ b=>?_) λ b=>?_
     .rw[qz]at b;refine wae (qAA t (by omega) λ D=>?_) ?_
      .let⟨n,l,B,A,z,j,y⟩:=qpG h;have F:=j b;unfold qiA at d;rw[n,l,kJ,wb,decide_eq_true_iff]at d;omega
      cases v:qgf t with
      |false=>
        refine wag rfl ?_;rw[if_pos ⟨b,rfl⟩];exact waf (by rw[zf _ (by decide)])
      |true=>
        rw[v,if_neg (by rintro⟨_,h⟩;cases h)]at a;rw[if_neg (by rintro⟨_,h⟩;cases h)];exact wai rfl (a rfl)
     .rw[ql]at b;rw[if_neg (by rintro⟨h,_⟩;exact b h)]at a |-
      exact a rfl
theorem qxg(t:T)(a:size t<=1000000000):Ev (λ m _=>qcI m t) (qdc t):=by
 refine wal ?_;simp only[qtx,qeK,qL];unfold qdc;refine wae (qsy t a) ?_;refine wah (λ h=>?_) λ h=>?_
 .rw[bnt,ql]at h;exact waf (by rw[jE h])
 .rw[bnf,qz]at h;rw[h];exact wae (qzK t a) (wak _)
end Go.AmZ
namespace Go.GxZ
def Asc(l:List T):Prop:=l.Pairwise λ a b=>zi a b=-1
theorem qEd{a b:T}:zi a b=1↔zi b a=-1:=by
 have:=qoY.anti a b;omega
theorem qDG{a b c:T}(e:zi a b=-1)(d:zi b c=-1):zi a c=-1:=qoY.trans a b c e d
theorem qC4{x:T}{l:List T}:Asc (x::l)↔(∀y∈l,zi x y=-1)/\Asc l:=List.pairwise_cons
theorem qsH{a b:T}:qfZ a b=true↔a=b:=by unfold qfZ;exact decide_eq_true_iff
end Go.GxZ
namespace Go.AmZ
open Go Go.GxZ Go.Lib
def szL(l:List T):Nat:=(l.map size).sum
theorem qkA(x:T)(l:List T):szL (x::l)=size x+szL l:=by simp[szL]
end Go.AmZ
namespace Go.AmZ
open Go Go.GxZ
end Go.AmZ
namespace Go.AmZ
open Go Go.GxZ
end Go.AmZ
namespace Go.GxZ
def qry(l:List Pw):Prop:=Asc (l.map (·.1))
def NzP(l:List Pw):Prop:=∀p∈l,p.2≠0
theorem qhw{p:Pw}{l:List Pw}:qry (p::l)↔(∀q∈l,zi p.1 q.1=-1)/\qry l:=by
 unfold qry;rw[wz,qC4];simp
theorem qkr{p:Pw}{l:List Pw}:NzP (p::l)↔p.2≠0/\NzP l:=by
 unfold NzP;simp
theorem qvG:∀(l:List Pw) (t:T) (n:Int) (p:Pw),p∈qiD l t n->p.1=t\/p∈l
 |[],t,n,p,h=>by simp[qiD]at h;exact .inl (by rw[h])
 |(x,m)::l,t,n,p,h=>by
   rw[qiD]at h;split at h
   .obtain h|h:=wM.1 h
    .exact .inl (by rw[h])
    .exact .inr h
   .split at h
    .rename_i a;split at h
     .exact .inr (wj _ h)
     .obtain h|h:=wM.1 h
      .left;rw[h];exact(qfk t x a).symm
      .exact .inr (wj _ h)
    .obtain h|h:=wM.1 h
     .exact .inr (h▸ww ..)
     .obtain h|h:=qvG l t n p h
      .exact .inl h
      .exact .inr (wj _ h)
theorem qwg:∀(l:List Pw) (t:T) (n:Int),qry l->qry (qiD l t n)
 |[],_,_,_=>List.pairwise_singleton _ _
 |(x,m)::l,t,n,h=>by
   let⟨d,c⟩:=qhw.1 h;rw[qiD];have f:=qoY.rng t x;split
   .rename_i b;refine qhw.2 ⟨λ q a=>?_,h⟩;obtain e|a:=wM.1 a
    .rw[e];exact b
    .exact qDG b (d q a)
   .split
    .split
     .exact c
     .exact qhw.2 ⟨d,c⟩
    .refine qhw.2 ⟨λ q a=>?_,qwg l t n c⟩;obtain e|a:=qvG l t n q a
     .rw[e];exact qEd.1 (show zi t x=1 by omega)
     .exact d q a
theorem qxZ:∀(l:List Pw) (t:T) (n:Int),NzP l->n≠0->NzP (qiD l t n)
 |[],_,_,_,a=>by intro p c;simp[qiD]at c;rw[c];exact a
 |(x,m)::l,t,n,h,a=>by
   let⟨d,b⟩:=qkr.1 h;rw[qiD];split
   .exact qkr.2 ⟨a,h⟩
   .split
    .split
     .exact b
     .exact qkr.2 ⟨by assumption,b⟩
    .exact qkr.2 ⟨d,qxZ l t n b a⟩
def qpT(l:List Pw):Prop:=qry l/\NzP l
theorem qpT.nil:qpT []:=⟨List.Pairwise.nil,λ _ h=>by cases h⟩
theorem qpT.ins{l:List Pw}(h:qpT l)(t:T){n:Int}(a:n≠0):qpT (qiD l t n):=⟨qwg l t n h.1,qxZ l t n h.2 a⟩
def ixP:List Pw->T->Nat
 |[],_=>0
 |p::l,t=>if zi p.1 t=-1 then ixP l t+1 else 0
end Go.GxZ
namespace Go.AmZ
open Go Go.GxZ
end Go.AmZ
