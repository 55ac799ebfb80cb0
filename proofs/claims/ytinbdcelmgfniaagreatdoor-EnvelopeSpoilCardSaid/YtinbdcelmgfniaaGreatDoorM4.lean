/- Part 4 of what the proofs stand on: plain functions of the program, and that they are its functions. -/
import Derived.Test.YtinbdcelmgfniaaGreatDoorM3
import Derived.KernelRfl
import Derived.Test.YtinbdcelmgfniaaGreatDoorProg
import Derived.Shelf.SlSortCmp.NoneTotal
import Derived.Laws.OwnMore
import Derived.Deep.DeepAppendRoom
import Derived.ArgAppend
import Derived.Test.YtinbdcelmgfniaaGreatDoorM2
import Derived.IntWalk
import Derived.Lib.Bytealg
set_option linter.unusedVariables false
set_option linter.unusedSimpArgs false
noncomputable section
namespace Go.Proofs.YtinbdcelmgfniaaGreatDoor
open Go.RowKit Go.GxZ Go.BigFrame
theorem qw6:(Tryz.prog.info? 157).map (λ i=>(i.zero,i.size,i.bytes))=some (some (.agg #[.int .i64 0,.string ⟨#[]⟩,.int .i64 0,.slice none 0 0,.int .i64 0]),5,64):=by kernel_rfl
theorem qE3(w:World):(sizeOf 157).run Tryz.prog w=.ok 5 w:=by kernel_rfl
theorem qtI:(Tryz.prog.info? 157).map (·.size)=some 5:=by kernel_rfl
set_option maxHeartbeats 4000000 in
set_option maxRecDepth 100000 in
theorem insert_endPow(w:World)(p:Option Addr)(n c:Nat)(ad:Addr)(f:Nat)(b:Value)(w':World)(i:n<=100000)(d:(Builtin.append_ #[134,134] 134 #[.slice p n c,.slice (some ad) 1 f]).run Tryz.prog w = .ok b w') :
  Calls Tryz.prog 225 #[.slice p n c,.int .i64 n,.slice (some ad) 1 f] w λ e g=>e = .returned b/\g=w':=by
 have h:=Lib.hid d;clear d
 go_enter Tryz.func225,Tryz.ntmps225
 go_wp2_with (at_builtin;refine Lib.wpList_append_run _ rfl _ _ _ _ rfl _ _ rfl rfl _ _ h.out ?_)
 all_goals
  go_ret
  first
   | exact⟨rfl,rfl⟩
   | (have a:c=n:=by assumption
      subst a;exact⟨rfl,rfl⟩)
set_option maxHeartbeats 4000000 in
set_option maxRecDepth 100000 in
theorem insert_roomPow (w:World) (g n c i:Nat) (et:TypeId) (cur:Array Value) (xs:List Value) (hbk:Blk w g et cur) (hcs:c*5<=cur.size) (hx:cur.toList.take (n*5)=xs) (hone:∀u∈xs,u.oneCell'=true)
  (g2 o2 c2:Nat) (ys:List Value) (hy:ys.length=5) (hys:∀j u,ys[j]?=some u->w.cell? ⟨g2,o2+j,none⟩=some u) (h1:∀u∈ys,u.oneCell'=true) (hne:g2≠g) (hn:n<=100000) (hi:i<n) (hroom:n+1<=c):
  Calls Tryz.prog 225 #[.slice (some ⟨g,0,none⟩) n c,.int .i64 i,.slice (some ⟨g2,o2,none⟩) 1 c2] w (qio 5 w g cur.size (n+1) (xs.take (i*5)++ys++xs.drop (i*5))):=by
 have hlc:cur.toList.length=cur.size:=by simp
 have hnc:(n+1)*5<=c*5:=wo _ hroom;have hik:(i+1)*5<=n*5:=wo _ hi;have hxl:xs.length=n*5:=by rw [<-hx,wk];omega
 obtain ⟨tA,kA,hsA,hkA⟩:∃t k,w.shape? g2=some (t,k)/\k≠0:=by
  cases hy0:ys[0]? with
  |none=>rw [List.getElem?_eq_none_iff]at hy0;omega
  |some u=>exact qzO (a:=⟨g2,o2+0,none⟩) rfl (hys 0 u hy0)
 have hov:∀lb cb,(callFunc 239 #[.slice (some ⟨g2,o2,none⟩) 1 c2,.slice (some ⟨g,(i+1)*5,none⟩) lb cb]).run Tryz.prog w=.ok (.value (.bool false)) w:=λ lb cb=>by
  rw [run_callFunc_extern Tryz.func239 (by kernel_rfl) (by kernel_rfl) (by kernel_rfl) (e:=Extern.SlicesOverlaps.overlaps #[134,134] #[4]) (by kernel_rfl),
   qqZ w 134 4 157 Tryz.underlying134 5 qE3 ⟨g2,o2,none⟩ ⟨g,(i+1)*5,none⟩ 1 c2 lb cb hne tA et kA cur.size
    hsA hkA (by unfold Blk at hbk;simp [World.shape?,hbk]) (hbk.free _) (hbk.free _)]
  rfl
 have hin:((i:Int)==(n:Int))=false:=by simp;omega
 have hb1:¬ (c=i+1):=by omega
 have hb2:¬ (c=i):=by omega
 have hlen1:(xs.drop (i*5)).length=n*5-i*5:=by rw [wO,hxl]
 have HD1:Hid ((xs.drop (i*5)).length=Nat.min (n+1-i) (n-i)*5):=by
  have hm:Nat.min (n+1-i) (n-i)=n-i:=Nat.min_eq_right (by omega);show _=_;rw [hlen1,hm,wad]
 have HS1:Hid (∀(j:Nat) (v:Value),(xs.drop (i*5))[j]?=some v->w.drew.cell? ((⟨g,i*5,none⟩:Addr).add j)=some v):=λ j v hj=>by
  have e1:(⟨g,i*5,none⟩:Addr).add j=⟨g,i*5+j,none⟩:=by unfold Addr.add;split<;>simp_all
  rw [e1];show w.cell? _=_;rw [hbk.cell,<-Array.getElem?_toList];rw [List.getElem?_drop,<-hx,List.getElem?_take]at hj;split at hj
  .exact hj
  .cases hj
 have HF1:Hid ((i+1)*5+(xs.drop (i*5)).length<=cur.size):=by show _<=_;rw [hlen1];omega
 have HO1:Hid (∀v∈xs.drop (i*5),v.oneCell'=true):=λ v hv=>hone v (wQ hv);have hBK1:Hid (Blk w.drew g et cur):=hbk;obtain ⟨c1,hc1⟩:∃c1,c1=cur.toList.take ((i+1)*5)++xs.drop (i*5)++cur.toList.drop ((i+1)*5+(xs.drop (i*5)).length):=⟨_,rfl⟩
 obtain ⟨k1,k2,k3⟩:=qDH 5 cur.toList xs ys i n hx (by rw [hlc];omega) (by omega) hy c1 (by rw [hc1,kO]);have HC1:=Lib.hid hc1;have K1:=Lib.hid k1;have K2:=Lib.hid k2;have K3:=Lib.hid k3;have HLC:=Lib.hid hlc;have HY:=Lib.hid hy
 have HY1:Hid (ys.length=Nat.min 1 (n+1-i)*5):=by
  have hm:Nat.min 1 (n+1-i)=1:=wW (by omega);show _=_;rw [hy,hm]
 have HF2:Hid (i*5+ys.length<=c1.toArray.size):=by show _<=_;rw [hy];simp only [wU];rw [k1,hlc];omega
 have HYS:=Lib.hid hys;have HCS:=Lib.hid hcs;have H1:=Lib.hid h1;have HNE:=Lib.hid hne;have HNC:=Lib.hid hnc;have hlt:=lt_of_block hbk;have hov':=hov;clear hxl hlc hov hx hone hcs hbk hys hy h1 hne hlen1 hc1 k1 k2 k3 hsA hkA hnc hik;have HOV:=Lib.hid hov'
 go_enter Tryz.func225,Tryz.ntmps225
 go_upto_region 15 with (simp only [hov'])
 clear hov';have hw1:IntKind.i64.wrap ((i:Int)+1)=(i:Int)+1:=IntWalk.i64_in _ (by omega);have hw2:(0:Int)<=(i:Int)+1:=by omega
 have hw3:((i:Int)+1).toNat=i+1:=by omega
 have hw4:(i:Int)+1<=(n:Int)+1:=by omega
 have hw5:(i:Int)<=(n:Int)+1:=by omega
 go_region_law (refine qp1 rfl (.tmp 73) (.tmp 76) 134 134 rfl 157 5 Tryz.underlying134 qtI g ((i+1)*5) (n-i) (c-(i+1)) ⟨g,i*5,none⟩ (n+1-i) (c-i) (by simp [Act.eval,Act.put]) (by simp [Act.eval,Act.put]) cur et hBK1.out (xs.drop (i*5)) HD1.out HS1.out HF1.out HO1.out ?_;intro w4 hw4;have HW4:=Lib.hid hw4;clear hw4)
 all_goals
  have HW5:Hid (qih w.drew w4 g et c1):=by show qih _ _ _ _ _;rw [HC1.out];exact HW4.out
  have HB4:Hid (Blk w4 g et c1.toArray):=HW5.out.blk
  have HSY:Hid (∀(j:Nat) (v:Value),ys[j]?=some v->w4.cell? ((⟨g2,o2,none⟩:Addr).add j)=some v):=λ j v hj=>by
   have e1:(⟨g2,o2,none⟩:Addr).add j=⟨g2,o2+j,none⟩:=by unfold Addr.add;split<;>simp_all
   rw [e1,show w4.cell? _=w.cell? _ from World.cell?_of_block (HW5.out.other g2 HNE.out)];exact HYS.out j v hj
  clear hw1 hw2 hw3 hw4 HW4
  obtain ⟨w6,hcp,hw6⟩:∃w6,(∀ty,(Builtin.copy_ #[134,134] ty #[.slice (some ⟨g,i*5,none⟩) (n+1-i) (c-i),.slice (some ⟨g2,o2,none⟩) 1 c2]).run Tryz.prog w4=.ok (goInt (Nat.min 1 (n+1-i))) w6)/\qih w4 w6 g et (c1.toArray.toList.take (i*5)++ys++c1.toArray.toList.drop (i*5+ys.length)):=
   ⟨_,λ ty=>qmm w4 134 134 ty 157 5 g (i*5) (n+1-i) (c-i) ⟨g2,o2,none⟩ 1 c2 c1.toArray et ys Tryz.underlying134 qtI HB4.out HY1.out HSY.out HF2.out H1.out,qep HB4.out _⟩
  have HW6:=Lib.hid hw6;clear hw6
  go_wp2_with (simp only [hcp])
  go_ret
  have h6:=HW6.out;have h5:=HW5.out;have hblk:=h6.blk;have k2:=K2.out;have hlc:=HLC.out;refine ⟨g,c,_,et,rfl,hblk,hroom,?_,?_,.inl ⟨rfl,?_⟩,h6.os.trans h5.os,h6.tape.trans h5.tape,h6.output.trans h5.output,?_,?_,λ k _ hk=>(h6.other k hk).trans (h5.other k hk)⟩
  .rw [wU];exact wD HCS.out (vg (by rw [k2,hlc]))
  .rw [kO];exact K3.out.trans (wn _ _ _)
  .rw [wU,k2,hlc]
  .rw [h6.size,h5.size];exact wa _
  .rw [h6.drawn,h5.drawn];exact wX _
set_option maxHeartbeats 4000000 in
set_option maxRecDepth 100000 in
theorem insert_growPow (w:World) (g n i:Nat) (et:TypeId) (cur:Array Value) (xs:List Value) (hbk:Blk w g et cur) (hcs:n*5<=cur.size) (hx:cur.toList.take (n*5)=xs) (hone:∀u∈xs,u.oneCell'=true)
  (g2 o2 c2:Nat) (ys:List Value) (hy:ys.length=5) (hys:∀j u,ys[j]?=some u->w.cell? ⟨g2,o2+j,none⟩=some u) (h1:∀u∈ys,u.oneCell'=true) (hn:n<=100000) (hi:i<n):
  Calls Tryz.prog 225 #[.slice (some ⟨g,0,none⟩) n n,.int .i64 i,.slice (some ⟨g2,o2,none⟩) 1 c2] w (qio 5 w g cur.size (n+1) (xs.take (i*5)++ys++xs.drop (i*5))):=by
 have hlc:cur.toList.length=cur.size:=by simp
 have hik:(i+1)*5<=n*5:=wo _ hi;have hxl:xs.length=n*5:=by rw [<-hx,wk];omega
 have hg:=lt_of_block hbk
 have hg2:g2<w.heap.size:=by
  cases hy0:ys[0]? with
  |none=>rw [List.getElem?_eq_none_iff]at hy0;omega
  |some u=>
    have:=hys 0 u hy0;unfold World.cell? at this;split at this
    .rename_i hh;exact (Array.getElem?_eq_some_iff.1 hh).1
    .cases this
 obtain ⟨i0,hi0,hz0,hz1,hz2⟩:=info_parts qw6;have hadd:∀(b o j:Nat),(⟨b,o,none⟩:Addr).add j=⟨b,o+j,none⟩:=λ b o j=>by unfold Addr.add;split<;>simp_all
 have hcx:∀(W:World),Blk W g et cur->∀(o j:Nat) (v:Value),(xs.drop o)[j]?=some v->W.cell? ((⟨g,o,none⟩:Addr).add j)=some v:=λ W hW o j v hj=>by
  rw [hadd,hW.cell,<-Array.getElem?_toList];rw [List.getElem?_drop,<-hx,List.getElem?_take]at hj;split at hj
  .exact hj
  .cases hj
 have hold:(Builtin.firstCells i0.size i (.slice (some ⟨g,0,none⟩) i n)).run Tryz.prog w.drew=.ok (xs.take (i*5)).toArray w.drew:=by
  rw [hz1];refine run_firstCells_some w.drew 5 i ⟨g,0,none⟩ i n (xs.take (i*5)) (by rw [wk,hxl];omega) λ j v hj=>?_;refine hcx w.drew hbk 0 j v ?_;rw [List.getElem?_take]at hj;split at hj
  .simpa using hj
  .cases hj
 have hk:i+(n+1-i)=n+1:=by omega
 have hG1:n+1<=grownCap w (n+1) n 157:=grownCap_ge w _ _ _;have hG2:grownCap w (n+1) n 157<=maxLen:=grownCap_le_maxLen w _ _ _ (by unfold maxLen;omega)
 obtain ⟨w1,G,new,hr,hb1,hbk1,hnl,hnt,hG3,hG4,hw1s,hw1d⟩:∃(w1:World) (G:Nat) (new:List Value),(∀ty,(Builtin.append_ #[134,3] ty #[.slice (some ⟨g,0,none⟩) i n,.int .i64 ((n:Int)+1-(i:Int))]).run Tryz.prog w=.ok (.slice (some ⟨w.heap.size,0,none⟩) (n+1) G) w1)/\
   Below w.heap.size w w1/\Blk w1 w.heap.size 157 new.toArray/\new.length=G*5/\new.take (i*5)=xs.take (i*5)/\n+1<=G/\G<=maxLen/\w.heap.size<w1.heap.size/\w.drawn<=w1.drawn:=by
  have hr:∀ty,_:=λ ty=>Lib.run_append_grow_zeros w 134 3 ty 157 i0 _ .i64 .i64 Tryz.underlying134 Tryz.underlying3 hi0 hz0 (some ⟨g,0,none⟩) i n (xs.take (i*5)) hold (n+1-i) (by omega) (by rw [hz1];decide) (by omega) (by omega) (by rw [hz2];omega) (by rw [hk,hz2];exact growslice_fits (by omega) (by omega));rw [hk]at hr;obtain ⟨NEW,hNEW⟩:∃N:Array Value,N=(xs.take (i*5)).toArray++Builtin.zeroCells (Value.cells (.agg #[.int .i64 0,.string ⟨#[]⟩,.int .i64 0,.slice none 0 0,.int .i64 0])) (n+1-i)++Builtin.zeroCells (Value.cells (.agg #[.int .i64 0,.string ⟨#[]⟩,.int .i64 0,.slice none 0 0,.int .i64 0])) (grownCap w (n+1) n 157-(n+1)):=⟨_,rfl⟩
  rw [<-hNEW]at hr;refine ⟨w.drew.alloc (.cells NEW 157),grownCap w (n+1) n 157,NEW.toList,λ ty=>?_,?_,?_,?_,?_,hG1,hG2,?_,wX _⟩
  .rw [show (n:Int)+1-(i:Int)=((n+1-i:Nat):Int) by omega];exact hr ty
  .exact ((Below.refl _ _).drew).alloc (wa _) _
  .rw [xT];exact heap_alloc_new w.drew _
  .rw [wL,hNEW,xy,xy,size_zeroCells,size_zeroCells,show (Value.cells (.agg #[.int .i64 0,.string ⟨#[]⟩,.int .i64 0,.slice none 0 0,.int .i64 0])).size=5 from rfl,wU,wk,hxl];have:i*5+(n+1-i)*5+(grownCap w (n+1) n 157-(n+1))*5=grownCap w (n+1) n 157*5:=by rw [<-wN,<-wN];congr 1;omega
   omega
  .rw [hNEW,xh,xh,wn,kN (by simp [hxl];omega),xz];congr 1;omega
  .simp
 have hgb:∀k,k<w.heap.size->w1.heap[k]?=w.heap[k]?:=hb1.block;have hbkg1:Blk w1 g et cur:=hbk.same (hgb g hg);have hGn:(n+1)*5<=G*5:=wo _ hG3;have hm1:Nat.min 1 (n+1-i)=1:=wW (by omega);obtain ⟨c1,hc1⟩:∃c1,c1=new.take (i*5)++ys++new.drop (i*5+ys.length):=⟨_,rfl⟩
 obtain ⟨k1,k2,k3⟩:=qEu 5 new xs ys i n hnt hxl (by omega) (by omega) hy c1 hc1
 obtain ⟨w3,hcp,hw3⟩:∃w3,(∀ty,(Builtin.copy_ #[134,134] ty #[.slice (some ⟨w.heap.size,i*5,none⟩) (n+1-i) (G-i),.slice (some ⟨g2,o2,none⟩) 1 c2]).run Tryz.prog w1=.ok (goInt (Nat.min 1 (n+1-i))) w3)/\qih w1 w3 w.heap.size 157 c1:=
  ⟨_,λ ty=>qmm w1 134 134 ty 157 5 w.heap.size (i*5) (n+1-i) (G-i) ⟨g2,o2,none⟩ 1 c2 new.toArray 157 ys Tryz.underlying134 qtI hbk1 (by rw [hm1];omega) (λ j v hj=>by rw [hadd,show w1.cell? _=w.cell? _ from World.cell?_of_block (hgb g2 hg2)];exact hys j v hj) (by rw [wU];omega) h1,by rw [hc1];exact qep hbk1 _⟩
 have hbkg3:Blk w3 g et cur:=hbkg1.same (hw3.other g (by omega));have hmm:Nat.min (n-i) (n-i)=n-i:=wW (wa _);have HD1:Hid ((xs.drop (i*5)).length=Nat.min (n-i) (n-i)*5):=by show _=_;rw [wO,hxl,hmm,wad]
 have HS1:Hid (∀(j:Nat) (v:Value),(xs.drop (i*5))[j]?=some v->w3.drew.cell? ((⟨g,i*5,none⟩:Addr).add j)=some v):=hcx w3.drew hbkg3 (i*5);have HF1:Hid ((i+1)*5+(xs.drop (i*5)).length<=c1.toArray.size):=by show _<=_;rw [wO,hxl,wU,k1,hnl];omega
 have HO1:Hid (∀v∈xs.drop (i*5),v.oneCell'=true):=λ v hv=>hone v (wQ hv);have hBK1:Hid (Blk w3.drew w.heap.size 157 c1.toArray):=hw3.blk;have HW3:=Lib.hid hw3;have HB1:=Lib.hid hb1;have K2:Hid ((c1.take ((i+1)*5)++xs.drop (i*5)++c1.drop ((i+1)*5+(xs.drop (i*5)).length)).length=G*5):=by show _=_;rw [kO];exact k2.trans hnl
 have K3:Hid ((c1.take ((i+1)*5)++xs.drop (i*5)++c1.drop ((i+1)*5+(xs.drop (i*5)).length)).take ((n+1)*5)=xs.take (i*5)++ys++xs.drop (i*5)):=by show _=_;rw [kO,kO];exact k3
 have HG4:=Lib.hid hG4;have HR:=Lib.hid hr;have HCP:=Lib.hid hcp;have hin:((i:Int)==(n:Int))=false:=by simp;omega
 have hb0:¬ (n=i):=by omega
 have hb2:¬ (G=i):=by omega
 have hb3:¬ (G=i+1):=by omega
 have hg63:(G:Int)<=9223372036854775807:=by unfold maxLen at hG4;omega
 clear hlc hxl hi0 hz0 hz1 hz2 hadd hcx hold hk hG1 hG2 hr hb1 hbk1 hnl hnt hG4 hgb hbkg1 hm1 hc1 k1 k2 k3 hcp hw3 hbkg3 hmm hbk hcs hx hone hy hys h1 hik hGn
 go_enter Tryz.func225,Tryz.ntmps225
 go_upto_region 10 with (at_builtin;refine Lib.wpList_append_run _ rfl _ _ _ _ rfl _ _ rfl rfl _ _ (HR.out _) ?_)
 have hcp:=HCP.out
 go_upto_region 11 with (simp only [hcp])
 clear hcp;have hw1:IntKind.i64.wrap ((i:Int)+1)=(i:Int)+1:=IntWalk.i64_in _ (by omega);have hw2:(0:Int)<=(i:Int)+1:=by omega
 have hw3:((i:Int)+1).toNat=i+1:=by omega
 have hw4:(i:Int)+1<=(n:Int)+1:=by omega
 have hw5:(i:Int)<=(n:Int):=by omega
 go_region_law (refine qp1 rfl (.tmp 50) (.tmp 53) 134 134 rfl 157 5 Tryz.underlying134 qtI w.heap.size ((i+1)*5) (n-i) (G-(i+1)) ⟨g,i*5,none⟩ (n-i) (n-i) (by simp [Act.eval,Act.put]) (by simp [Act.eval,Act.put]) c1.toArray 157 hBK1.out (xs.drop (i*5)) HD1.out HS1.out HF1.out HO1.out ?_;intro w6 hw6;have HW6:=Lib.hid hw6;clear hw6)
 all_goals
  clear hw1 hw2 hw3 hw4
  go_wp2_with fail
  go_ret
  have h6:=HW6.out;have h5:=HW3.out;have h0:=HB1.out;have hblk:=h6.blk;have k3:=K3.out;have k2:=K2.out;refine ⟨w.heap.size,G,_,_,rfl,hblk,hG3,?_,k3.trans (wn _ _ _),.inr (wa _),h6.os.trans (h5.os.trans h0.os),h6.tape.trans (h5.tape.trans h0.tape),h6.output.trans (h5.output.trans h0.output),?_,?_,λ k hkl _=>?_⟩
  .rw [wU];exact vg k2.symm
  .rw [h6.size];show w.heap.size<=w3.heap.size;rw [h5.size];exact h0.size
  .rw [h6.drawn];show w.drawn<=w3.drawn+1;rw [h5.drawn];exact Nat.le_succ_of_le hw1d
  .exact (h6.other k (by omega)).trans ((h5.other k (by omega)).trans (h0.block k hkl))
theorem qED(w:World):(zeroValue 157).run Tryz.prog w=.ok (.agg #[.int .i64 0,.string ⟨#[]⟩,.int .i64 0,.slice none 0 0,.int .i64 0]) w:=by kernel_rfl
theorem quZ:(Builtin.zeroCells (Value.cells (.agg #[.int .i64 0,.string ⟨#[]⟩,.int .i64 0,.slice none 0 0,.int .i64 0])) 1).toList=(Value.cells (.agg #[.int .i64 0,.string ⟨#[]⟩,.int .i64 0,.slice none 0 0,.int .i64 0])).toList:=by kernel_rfl
theorem qwD:∀v∈(Builtin.zeroCells (Value.cells (.agg #[.int .i64 0,.string ⟨#[]⟩,.int .i64 0,.slice none 0 0,.int .i64 0])) 1).toList,v.oneCell'=true:=by
 rw[quZ];decide
set_option maxHeartbeats 4000000 in
set_option maxRecDepth 100000 in
theorem delete_onePow (w:World) (g m c i:Nat) (et:TypeId) (cur:Array Value) (xs:List Value) (hbk:Blk w g et cur) (hcs:c*5<=cur.size) (hx:cur.toList.take ((m+1)*5)=xs) (hone:∀u∈xs,u.oneCell'=true)
  (hn:m<=100000) (hi:i<=m) (hroom:m+1<=c):
  Calls Tryz.prog 226 #[.slice (some ⟨g,0,none⟩) (m+1) c,.int .i64 i,.int .i64 ((i:Int)+1)] w (qio 5 w g cur.size m (xs.take (i*5)++xs.drop ((i+1)*5))):=by
 have hlc:cur.toList.length=cur.size:=by simp
 have hmc:(m+1)*5<=c*5:=wo _ hroom;have him:i*5<=m*5:=wo _ hi;have hxl:xs.length=(m+1)*5:=by rw [<-hx,wk,hlc];omega
 have hadd:∀(b o j:Nat),(⟨b,o,none⟩:Addr).add j=⟨b,o+j,none⟩:=λ b o j=>by unfold Addr.add;split<;>simp_all
 have hcell:∀(o j:Nat) (v:Value),(xs.drop o)[j]?=some v->w.drew.cell? ⟨g,o+j,none⟩=some v:=λ o j v hj=>by
  show w.cell? _=_;rw [hbk.cell,<-Array.getElem?_toList];rw [List.getElem?_drop,<-hx,List.getElem?_take]at hj;split at hj
  .exact hj
  .cases hj
 obtain ⟨i0,hi0,hz0,hz1,hz2⟩:=info_parts qw6;have hdl:(xs.drop ((i+1)*5)).length=(m-i)*5:=by rw [wO,hxl,<-wad];congr 1;omega
 have hdl':(m-i)*5=m*5-i*5:=wad ..
 obtain ⟨A,hA,HN⟩:∃A:Addr,(if c=i+1 then some (⟨g,0,none⟩:Addr)else some ⟨g,(i+1)*5,none⟩)=some A/\Hid (∀j u,(xs.drop ((i+1)*5))[j]?=some u->w.drew.cell? (A.add j)=some u):=by
  by_cases h:c=i+1
  .refine ⟨_,if_pos h,λ j u hj=>?_⟩;have:=(List.getElem?_eq_some_iff.1 hj).1;rw [hdl]at this;have:m-i=0:=by omega
   simp [this]at*
  .exact ⟨_,if_neg h,λ j u hj=>by rw [hadd];exact hcell _ j u hj⟩
 have HDL:=Lib.hid hdl;have HO1:Hid (∀u∈xs.drop ((i+1)*5),u.oneCell'=true):=λ v hv=>hone v (wQ hv)
 have HSP:Hid (∀j,j<(xs.drop ((i+1)*5)).length->(w.drew.cell? ⟨g,0+i*5+j,none⟩).isSome=true/\w.drew.frozen? ⟨g,0+i*5+j,none⟩=false):=λ j hj=>by
  rw [hdl]at hj;refine ⟨?_,hbk.free _⟩;show (w.cell? _).isSome=true;rw [hbk.cell,Array.getElem?_eq_getElem (by omega)];rfl
 have hBKd:Blk w.drew g et cur:=hbk;have hw0:=qjw g et (xs.drop ((i+1)*5)) (0+i*5) w.drew cur hBKd (by rw [hdl];omega);obtain ⟨w2,hw2⟩:∃w2,w2=w.drew.setCells g (0+i*5) (xs.drop ((i+1)*5)):=⟨_,rfl⟩
 rw [<-hw2]at hw0;obtain ⟨c1,hc1⟩:∃c1,c1=cur.toList.take (0+i*5)++xs.drop ((i+1)*5)++cur.toList.drop (0+i*5+(xs.drop ((i+1)*5)).length):=⟨_,rfl⟩
 rw [<-hc1]at hw0;have hl1:c1.length=cur.size:=by rw [hc1];simp only [wd,wk,wO,hlc,hdl];simp only [wO]at hdl;omega
 have ht1:c1.take (m*5)=xs.take (i*5)++xs.drop ((i+1)*5):=by
  have e1:cur.toList.take (0+i*5)=xs.take (i*5):=by rw [<-hx,xz];congr 1;omega
  rw [hc1,e1,kN (by simp only [wd,wk,hdl,hxl];omega),kW (by simp only [wd,wk,hdl,hxl];omega)]
 have hzl:(Builtin.zeroCells (Value.cells (.agg #[.int .i64 0,.string ⟨#[]⟩,.int .i64 0,.slice none 0 0,.int .i64 0])) 1).toList.length=5:=by rw [wL,size_zeroCells];rfl
 obtain ⟨w3,hcl,hw3⟩:∃w3,(∀ty,(Builtin.clear_ #[134] ty #[.slice (some ⟨g,m*5,none⟩) 1 (c-m)]).run Tryz.prog w2=.ok (.tuple #[]) w3)/\qih w2 w3 g et (c1.toArray.toList.take (m*5)++(Builtin.zeroCells (Value.cells (.agg #[.int .i64 0,.string ⟨#[]⟩,.int .i64 0,.slice none 0 0,.int .i64 0])) 1).toList++c1.toArray.toList.drop (m*5+(Builtin.zeroCells (Value.cells (.agg #[.int .i64 0,.string ⟨#[]⟩,.int .i64 0,.slice none 0 0,.int .i64 0])) 1).toList.length)):=
  ⟨_,λ ty=>qqL w2 134 157 ty _ Tryz.underlying134 qED g (m*5) 1 (c-m) (by omega) c1.toArray et hw0.blk (by
   show m*5+1*5<=c1.toArray.size;rw [wU,hl1];omega) qwD,qep hw0.blk _⟩
 have HW0:=Lib.hid hw0;have HW2:=Lib.hid hw2;have HW3:=Lib.hid hw3;have HCL:=Lib.hid hcl;have HT1:=Lib.hid ht1;have HL1:=Lib.hid hl1;have HZL:=Lib.hid hzl;have HI:=Lib.hid hi0;have HZ1:=Lib.hid hz1;have HCS:=Lib.hid hcs;have HMC:=Lib.hid hmc;have hlt:=lt_of_block hbk;have hc1:¬ (m+1=i):=by omega
 have hc2:¬ (c=m):=by omega
 have hf1:((i:Int)==(i:Int)+1)=false:=by simp;omega
 have hrm:i+(m-i)<=c:=by omega
 have hmi:i+(m-i)=m:=by omega
 have HRM:=Lib.hid hrm;have HMI:=Lib.hid hmi;clear hlc hxl hadd hcell hi0 hz0 hz1 hz2 hdl hBKd hw0 hw2 hl1 ht1 hzl hcl hw3 hcs hx hone hbk hrm hmi hmc him hdl';have hw1:((i:Int)+1).toNat=i+1:=by omega
 have hw4:(i:Int)+1<=(m:Int)+1:=by omega
 have hw5:(i:Int)<=(m:Int)+1:=by omega
 have hw6:(0:Int)<=(i:Int)+1:=by omega
 have hic:i<=c:=by omega
 go_enter Tryz.func226,Tryz.ntmps226
 go_upto_region 5 with (fail)
 go_region_law (refine step_append_room rfl (.tmp 22) (.tmp 25) 134 rfl 157 i0 5 Tryz.underlying134 HI.out HZ1.out g 0 i c (by simp [Act.eval,Act.put]) A (m-i) (c-(i+1)) (xs.drop ((i+1)*5)) (by simp [Act.eval,Act.put]) HDL.out HN.out HO1.out HRM.out HSP.out ?_;rw [<-HW2.out,HMI.out])
 all_goals
  clear hw1 hw4 hw5 hw6 hA;have hcl:=HCL.out
  go_wp2_with (simp only [hcl])
  go_ret
  have h3:=HW3.out;have h0:=HW0.out;have hblk:=h3.blk;have hl1:=HL1.out;have hzl:=HZL.out;have hmc:=HMC.out;have hcs:=HCS.out
  have hsz:(c1.toArray.toList.take (m*5)++(Builtin.zeroCells (Value.cells (.agg #[.int .i64 0,.string ⟨#[]⟩,.int .i64 0,.slice none 0 0,.int .i64 0])) 1).toList++c1.toArray.toList.drop (m*5+(Builtin.zeroCells (Value.cells (.agg #[.int .i64 0,.string ⟨#[]⟩,.int .i64 0,.slice none 0 0,.int .i64 0])) 1).toList.length)).length=cur.size:=by
   show (c1.take (m*5)++_++c1.drop (m*5+_)).length=_;simp only [wd,wk,wO,hl1,hzl];omega
  refine ⟨g,c,_,et,rfl,hblk,by omega,?_,?_,.inl ⟨rfl,?_⟩,h3.os.trans h0.os,h3.tape.trans h0.tape,h3.output.trans h0.output,?_,?_,λ k _ hk=>(h3.other k hk).trans (h0.other k hk)⟩
  .rw [wU,hsz];exact hcs
  .show (c1.take (m*5)++_++c1.drop (m*5+_)).take (m*5)=_;rw [wn,kN (by rw [wk,hl1];omega),xz,Nat.min_self];exact HT1.out
  .rw [wU,hsz]
  .rw [h3.size,h0.size];exact wa _
  .rw [h3.drawn,h0.drawn];exact wX _
end Go.Proofs.YtinbdcelmgfniaaGreatDoor
namespace Go.Proofs.YtinbdcelmgfniaaGreatDoor
open Go.RowKit Go.GxZ Go.BigFrame
theorem qxU:(Tryz.prog.info? 25).map (λ i=>(i.zero,i.size,i.bytes))=some (some (.agg #[.int .i64 0,.string ⟨#[]⟩,.int .i64 0,.slice none 0 0]),4,56):=by kernel_rfl
set_option maxHeartbeats 4000000 in
set_option maxRecDepth 100000 in
theorem clone_anyTrm(w:World)(p:Option Addr)(n c:Nat)(xs:List Value)(f:xs.length=n*4)(x:n=0\/∃ad,p=some ad/\∀j u,xs[j]?=some u->w.cell? (ad.add j)=some u)(z:∀u∈xs,u.oneCell'=true)(S:n<=100000000):
  Calls Tryz.prog 23 #[.slice p n c] w λ e w'=>∃v,e=.returned v/\AmZ.Fresh w 4 n xs v w':=by
 cases p with
 |none=>
   have i:n=0:=by
    obtain h|⟨ad,h,_⟩:=x
    .exact h
    .cases h
   subst i;clear x z f;have G:∀w,(binOp .eql 23 (.slice none 0 c) (.slice none 0 0)).run Tryz.prog w=.ok (.bool true) w:=λ w=>by rw[Lib.run_eql_slice_nil w 23 25 none 0 c 0 0 Tryz.underlying23];rfl
   go_enter Tryz.func23,Tryz.ntmps23
   go_wp2_with fail
   go_ret
   exact⟨_,rfl,Below.refl _ _,wa _,.inl ⟨rfl,_,rfl⟩⟩
 |some ad=>
   let⟨R,k,o,m,l⟩:=info_parts qxU;have s:Below w.heap.size w (w.alloc (.cells #[] 25)):=(Below.refl _ _).alloc (wa _) _;by_cases i:n=0
   .subst i;have F:∀ty,(Builtin.append_ #[23,23] ty #[.slice (some ⟨w.heap.size,0,none⟩) 0 0,.slice (some ad) 0 c]).run Tryz.prog (w.alloc (.cells #[] 25))=.ok (.slice (some ⟨w.heap.size,0,none⟩) 0 0) (w.alloc (.cells #[] 25)):=λ ty=>run_append_nothing _ 23 23 ty 25 _ Tryz.underlying23 k (some ⟨w.heap.size,0,none⟩) 0 0 (wa _) _ (Src.ofSlice _ Tryz.underlying23 ad 0 c [] (by simp) (λ _ _ h=>by simp at h) (λ _ h=>by simp at h));have E:=Lib.hid F;have Q:=Lib.hid s;clear F x z f s k o m l;have G:∀w,(binOp .eql 23 (.slice (some ad) 0 c) (.slice none 0 0)).run Tryz.prog w=.ok (.bool false) w:=λ w=>by rw[Lib.run_eql_slice_nil w 23 25 (some ad) 0 c 0 0 Tryz.underlying23];rfl
    go_enter Tryz.func23,Tryz.ntmps23
    go_wp2_with (at_builtin;refine Lib.wpList_append_run _ rfl _ _ _ _ rfl _ _ rfl rfl _ _ (E.out _) ?_)
    go_ret
    exact⟨_,rfl,Q.out,wa _,.inl ⟨rfl,_,rfl⟩⟩
   .have b:∀j u,xs[j]?=some u->(w.alloc (.cells #[] 25)).cell? (ad.add j)=some u:=λ j u r=>by
      obtain h|⟨N,h,K⟩:=x
      .exact absurd h i
      .cases h;have y:=K j u r
       have B:(ad.add j).block<w.heap.size:=by
        unfold World.cell? at y;split at y
        .rename_i L;exact(Array.getElem?_eq_some_iff.1 L).1
        .cases y
       rw[show(w.alloc (.cells #[] 25)).cell? _=w.cell? _ from World.cell?_of_block (s.block _ B)];exact y
    have t:∀ty,∃g a d w',(Builtin.append_ #[23,23] ty #[.slice (some ⟨w.heap.size,0,none⟩) 0 0,.slice (some ad) n c]).run Tryz.prog (w.alloc (.cells #[] 25))=.ok (.slice (some ⟨g,0,none⟩) (0+n) a) w'/\Below (w.alloc (.cells #[] 25)).heap.size (w.alloc (.cells #[] 25)) w'/\(w.alloc (.cells #[] 25)).heap.size<=g/\w'.heap[g]?=some (.cells d 25 (0,0))/\0+n<=a/\d.size=a*4/\d.toList.take ((0+n)*4)=[]++xs/\(w.alloc (.cells #[] 25)).drawn<=w'.drawn:=
     λ ty=>AmZ.grow_any (P:=Tryz.prog) (w:=w.alloc (.cells #[] 25)) (ty:=ty) Tryz.underlying23 k o m l rfl (some ⟨w.heap.size,0,none⟩) 0 0 (λ h=>by cases h) [] (by simp) (λ _ _ j u h=>by simp at h) _ n xs (Src.ofSlice _ Tryz.underlying23 ad n c xs f b z) (by omega) (by unfold maxLen;omega) (by omega)
    let⟨g,a,d,w',D,J,g3,I,C,H,A,M⟩:=t 23;rw[wB]at D C A;rw[kS]at A;have E:=Lib.hid D;have q:w.heap.size<=(w.alloc (.cells #[] 25)).heap.size:=s.size
    have O:Hid (AmZ.Fresh w 4 n xs (.slice (some ⟨g,0,none⟩) n a) w'):=by
     refine⟨s.trans (J.mono q),M,.inr ⟨g,a,d,_,rfl,wD q g3,I,C,vg H.symm,λ j u r=>?_⟩⟩;rw[<-A,List.getElem?_take]at r;split at r
     .rw[<-Array.getElem?_toList];exact r
     .cases r
    clear s b t D J g3 I C H A q x z f k o m l;have G:∀w,(binOp .eql 23 (.slice (some ad) n c) (.slice none 0 0)).run Tryz.prog w=.ok (.bool false) w:=λ w=>by rw[Lib.run_eql_slice_nil w 23 25 (some ad) n c 0 0 Tryz.underlying23];rfl
    go_enter Tryz.func23,Tryz.ntmps23
    go_wp2_with (at_builtin;refine Lib.wpList_append_run _ rfl _ _ _ _ rfl _ _ rfl rfl _ _ E.out ?_)
    go_ret
    exact⟨_,rfl,O.out⟩
set_option maxHeartbeats 4000000 in
set_option maxRecDepth 100000 in
theorem grow_nilTrm(w:World)(n:Nat)(z:n<=100000000):
  Calls Tryz.prog 193 #[.slice none 0 0,.int .i64 n] w λ e w'=>∃v,e=.returned v/\AmZ.Fresh w 4 0 [] v w':=by
 by_cases r:n=0
 .subst r;have l:IntKind.i64.wrap ((0:Int)-0)=(0:Int):=IntWalk.i64_in _ (by omega)
  go_enter Tryz.func193,Tryz.ntmps193
  go_wp2_with fail
  go_ret
  exact⟨_,rfl,Below.refl _ _,wa _,.inl ⟨rfl,_,rfl⟩⟩
 let⟨o,h,f,d,c⟩:=info_parts qxU;have b:(Builtin.firstCells o.size 0 (.slice none 0 0)).run Tryz.prog w.drew=.ok (([]:List Value)).toArray w.drew:=run_firstCells_none ..;have k:∀ty,_:=λ ty=>Lib.run_append_grow_zeros w 23 3 ty 25 o _ .i64 .i64 Tryz.underlying23 Tryz.underlying3 h f none 0 0 [] b n (by omega) (by rw[d];decide) (by omega) (by omega) (by rw[c];omega) (by rw[wB,c];exact growslice_fits (by omega) (by omega));rw[wB]at k;obtain⟨i,a⟩:∃N:Array Value,N=([]:List Value).toArray++Builtin.zeroCells (Value.cells (.agg #[.int .i64 0,.string ⟨#[]⟩,.int .i64 0,.slice none 0 0])) n++Builtin.zeroCells (Value.cells (.agg #[.int .i64 0,.string ⟨#[]⟩,.int .i64 0,.slice none 0 0])) (grownCap w n 0 25-n):=⟨_,rfl⟩
 rw[<-a]at k;have m:n<=grownCap w n 0 25:=grownCap_ge w _ _ _
 have g:grownCap w n 0 25*4<=i.size:=by
  rw[a,xy,xy,size_zeroCells,size_zeroCells,show(Value.cells (.agg #[.int .i64 0,.string ⟨#[]⟩,.int .i64 0,.slice none 0 0])).size=4 from rfl,wU,k9];have:n*4+(grownCap w n 0 25-n)*4=grownCap w n 0 25*4:=by rw[<-wN];congr 1;omega
  omega
 have y:=Lib.hid k;have x:=Lib.hid g;have l:IntKind.i64.wrap ((0:Int)-0)=(0:Int):=IntWalk.i64_in _ (by omega);have q:IntKind.i64.wrap ((n:Int)-0)=(n:Int):=by rw[IntWalk.i64_in _ (by omega)];omega
 have p:(0:Int)<(n:Int):=by omega
 generalize t:grownCap w n 0 25=G at *;clear b k a g h f d c t m
 go_enter Tryz.func193,Tryz.ntmps193
 go_wp2_with (at_builtin;refine Lib.wpList_append_run _ rfl _ _ _ _ rfl _ _ rfl rfl _ _ (y.out _) ?_)
 all_goals
  go_ret
  exact⟨_,rfl,((Below.refl _ _).alloc (wa _) _).drew,wX _,.inr ⟨w.heap.size,G,i,_,rfl,wa _,heap_alloc_new w _,wh _,x.out,λ j u s=>by simp at s⟩⟩
end Go.Proofs.YtinbdcelmgfniaaGreatDoor
namespace Go.Proofs.YtinbdcelmgfniaaGreatDoor
open Go.RowKit Go.GxZ Go.BigFrame
theorem qGQ:(Tryz.prog.info? 106).map (λ i=>(i.zero,i.size,i.bytes))=some (some (.agg #[.int .i64 0,.string ⟨#[]⟩,.int .i64 0,.slice none 0 0,.int .i64 0,.string ⟨#[]⟩,.int .i64 0,.slice none 0 0]),8,112):=by kernel_rfl
set_option maxHeartbeats 4000000 in
set_option maxRecDepth 100000 in
theorem clone_anyUp(w:World)(p:Option Addr)(n c:Nat)(xs:List Value)(f:xs.length=n*8)(x:n=0\/∃ad,p=some ad/\∀j u,xs[j]?=some u->w.cell? (ad.add j)=some u)(z:∀u∈xs,u.oneCell'=true)(S:n<=100000000):
  Calls Tryz.prog 188 #[.slice p n c] w λ e w'=>∃v,e=.returned v/\AmZ.Fresh w 8 n xs v w':=by
 cases p with
 |none=>
   have i:n=0:=by
    obtain h|⟨ad,h,_⟩:=x
    .exact h
    .cases h
   subst i;clear x z f;have G:∀w,(binOp .eql 107 (.slice none 0 c) (.slice none 0 0)).run Tryz.prog w=.ok (.bool true) w:=λ w=>by rw[Lib.run_eql_slice_nil w 107 106 none 0 c 0 0 Tryz.underlying107];rfl
   go_enter Tryz.func188,Tryz.ntmps188
   go_wp2_with fail
   go_ret
   exact⟨_,rfl,Below.refl _ _,wa _,.inl ⟨rfl,_,rfl⟩⟩
 |some ad=>
   let⟨R,k,o,m,l⟩:=info_parts qGQ;have s:Below w.heap.size w (w.alloc (.cells #[] 106)):=(Below.refl _ _).alloc (wa _) _;by_cases i:n=0
   .subst i;have F:∀ty,(Builtin.append_ #[107,107] ty #[.slice (some ⟨w.heap.size,0,none⟩) 0 0,.slice (some ad) 0 c]).run Tryz.prog (w.alloc (.cells #[] 106))=.ok (.slice (some ⟨w.heap.size,0,none⟩) 0 0) (w.alloc (.cells #[] 106)):=λ ty=>run_append_nothing _ 107 107 ty 106 _ Tryz.underlying107 k (some ⟨w.heap.size,0,none⟩) 0 0 (wa _) _ (Src.ofSlice _ Tryz.underlying107 ad 0 c [] (by simp) (λ _ _ h=>by simp at h) (λ _ h=>by simp at h));have E:=Lib.hid F;have Q:=Lib.hid s;clear F x z f s k o m l;have G:∀w,(binOp .eql 107 (.slice (some ad) 0 c) (.slice none 0 0)).run Tryz.prog w=.ok (.bool false) w:=λ w=>by rw[Lib.run_eql_slice_nil w 107 106 (some ad) 0 c 0 0 Tryz.underlying107];rfl
    go_enter Tryz.func188,Tryz.ntmps188
    go_wp2_with (at_builtin;refine Lib.wpList_append_run _ rfl _ _ _ _ rfl _ _ rfl rfl _ _ (E.out _) ?_)
    go_ret
    exact⟨_,rfl,Q.out,wa _,.inl ⟨rfl,_,rfl⟩⟩
   .have b:∀j u,xs[j]?=some u->(w.alloc (.cells #[] 106)).cell? (ad.add j)=some u:=λ j u r=>by
      obtain h|⟨N,h,K⟩:=x
      .exact absurd h i
      .cases h;have y:=K j u r
       have B:(ad.add j).block<w.heap.size:=by
        unfold World.cell? at y;split at y
        .rename_i L;exact(Array.getElem?_eq_some_iff.1 L).1
        .cases y
       rw[show(w.alloc (.cells #[] 106)).cell? _=w.cell? _ from World.cell?_of_block (s.block _ B)];exact y
    have t:∀ty,∃g a d w',(Builtin.append_ #[107,107] ty #[.slice (some ⟨w.heap.size,0,none⟩) 0 0,.slice (some ad) n c]).run Tryz.prog (w.alloc (.cells #[] 106))=.ok (.slice (some ⟨g,0,none⟩) (0+n) a) w'/\Below (w.alloc (.cells #[] 106)).heap.size (w.alloc (.cells #[] 106)) w'/\(w.alloc (.cells #[] 106)).heap.size<=g/\w'.heap[g]?=some (.cells d 106 (0,0))/\0+n<=a/\d.size=a*8/\d.toList.take ((0+n)*8)=[]++xs/\(w.alloc (.cells #[] 106)).drawn<=w'.drawn:=
     λ ty=>AmZ.grow_any (P:=Tryz.prog) (w:=w.alloc (.cells #[] 106)) (ty:=ty) Tryz.underlying107 k o m l rfl (some ⟨w.heap.size,0,none⟩) 0 0 (λ h=>by cases h) [] (by simp) (λ _ _ j u h=>by simp at h) _ n xs (Src.ofSlice _ Tryz.underlying107 ad n c xs f b z) (by omega) (by unfold maxLen;omega) (by omega)
    let⟨g,a,d,w',D,J,g3,I,C,H,A,M⟩:=t 107;rw[wB]at D C A;rw[kS]at A;have E:=Lib.hid D;have q:w.heap.size<=(w.alloc (.cells #[] 106)).heap.size:=s.size
    have O:Hid (AmZ.Fresh w 8 n xs (.slice (some ⟨g,0,none⟩) n a) w'):=by
     refine⟨s.trans (J.mono q),M,.inr ⟨g,a,d,_,rfl,wD q g3,I,C,vg H.symm,λ j u r=>?_⟩⟩;rw[<-A,List.getElem?_take]at r;split at r
     .rw[<-Array.getElem?_toList];exact r
     .cases r
    clear s b t D J g3 I C H A q x z f k o m l;have G:∀w,(binOp .eql 107 (.slice (some ad) n c) (.slice none 0 0)).run Tryz.prog w=.ok (.bool false) w:=λ w=>by rw[Lib.run_eql_slice_nil w 107 106 (some ad) n c 0 0 Tryz.underlying107];rfl
    go_enter Tryz.func188,Tryz.ntmps188
    go_wp2_with (at_builtin;refine Lib.wpList_append_run _ rfl _ _ _ _ rfl _ _ rfl rfl _ _ E.out ?_)
    go_ret
    exact⟨_,rfl,O.out⟩
end Go.Proofs.YtinbdcelmgfniaaGreatDoor
namespace Go.AmZ
open Go Go.RowKit Go.GxZ
theorem qsT{P:Program}{c:TC}{f:FuncId}(o:qdx P f)(h:∀i g,c.pf f i=some g->∀a v,g.fn a=some v->∀Γ w b,Inv Γ emp w->RepL Γ (jE g.args a i) b->Qq P Γ emp w f b (zm (Jo g.res v),none)):qI P f (Qz (yS c f)):=by
 refine⟨o,λ Γ σ w j b r m l e=>?_⟩;unfold Qz at e;split at e<;>try cases e
 split at e<;>cases e;rename_i z d;unfold yS at d;split at d<;>try cases d
 rename_i g n;split at d<;>try cases d
 rename_i a p;split at d<;>cases d;rename_i v k;exact h _ g n a v k Γ w b m ((qiO g.args p).rep l)
theorem qzh{P:Program}{f:FuncId}{Γ:Gh}{w:World}{a:List Value}{x:Value}(g:Inv Γ emp w)(d:zb x=true)(h:Calls P f a.toArray w λ e w'=>e=.returned x/\Below w.heap.size w w'/\w.drawn<=w'.drawn):Qq P Γ emp w f a (.v x,none):=by
 refine Calls.mono h ?_;rintro e w' ⟨rfl,c,b⟩;exact⟨x,Γ,rfl,qdN c b,g.later c,.v x d,.refl _⟩
def strings_Compare(m:Nat)(a b:List UInt8):Option Int:=some (Lib.compareBytes a b)
theorem qj5{m:Nat}{c:TC}(l:∀h,c.pf 116 h=qrS h [] (some ⟨[.val .str,.val .str],[.int .i64],λ x=>strings_Compare m x.1 x.2.1⟩) none):qI Go.Proofs.Tryz.prog 116 (Qz (yS c 116)):=by
 refine qsT (jZ Go.Proofs.Tryz.func116 (by kernel_rfl)) λ h g b a v j Γ w i k e=>?_;rw[l]at b;obtain⟨rfl,b⟩|b:=qsI b
 .cases b;cases j;obtain⟨u1,o,rfl,f,e⟩:=e.uncons;obtain⟨u2,n,rfl,d,e⟩:=e.uncons;have:=e.nil_inv;subst this;have f:=qV f;have d:=qV d;subst f;subst d;refine qzh k rfl ?_;exact(Go.Proofs.Tryz.strings_Compare _ _ w).mono λ _ _ ⟨f,d⟩=>⟨f,by rw[d];exact Below.refl _ _,by rw[d];exact wa _⟩
 .cases b
abbrev qy3:Ty:=.pair .str (.pair (.int .i64) (.pair (.int .i64) (.int .i64)))
def qEe:List (Val qy3):=[([112,97,105,114],2,2,1),([101,110,99],2,2,1),([97,101,110,99],2,2,1),([112,107],1,1,1),([115,105,103,110],2,2,1),([104,97,115,104],1,1,1),([120,111,114],2,8,1),([122,101,114,111],0,0,1),([101,120,112],2,2,1),([109,117,108],2,8,1),([105,110,118],1,1,1),([111,110,101],0,0,1),([115,107],1,1,2),([115,104,107],2,2,2),([110,101,119],1,8,2),([102,115,116],1,1,3),([115,110,100],1,1,3),([100,101,99],2,2,3),([97,100,101,99],2,2,3),([111,112,101,110],2,2,3),([114,101,97,100],1,1,3)]
def qeT(m:Nat):Option (List (List UInt8×Int×Int×Int)):=some qEe
def qCs:Cfg:=⟨tyT,λ f=>cond (Nat.beq f 104) (some Go.Proofs.Tryz.f104) (cond (Nat.beq f 132) (some Go.Proofs.Tryz.f132) none),λ _=>none,λ _=>false,λ _=>[],λ _=>true,λ _=>none⟩
theorem qwK(cd:Code):jp cd=true:=by
 induction cd<;>simp_all [jp]
theorem qxh:zM Go.Proofs.Tryz.prog qCs:=by
 refine⟨by kernel_rfl,qA5,λ f fn h=>?_,(λ f p h=>by cases h),λ f fn h=>by cases h⟩;have h:cond (Nat.beq f 104) (some Go.Proofs.Tryz.f104) (cond (Nat.beq f 132) (some Go.Proofs.Tryz.f132) none)=some fn:=h;have c:∀cd:Code,jp cd=true:=qwK;cases b:Nat.beq f 104 with
 |true=>
   rw[b]at h;cases h;rw[wj b];exact⟨Go.Proofs.Tryz.func104,by kernel_rfl,λ _ _=>c _⟩
 |false=>
   rw[b]at h;cases a:Nat.beq f 132 with
   |true=>
     rw[a]at h;cases h;rw[wj a];exact⟨Go.Proofs.Tryz.func132,by kernel_rfl,λ _ _=>c _⟩
   |false=>rw[a]at h;cases h
theorem qDK:qae qCs (Ql qCs 300) emp 104 []=some (zm (Jo [.list qy3] qEe),none):=by kernel_rfl
theorem qlq{m:Nat}{c:TC}(j:∀d,c.pf 104 d=qrS d [] (some ⟨[],[.list qy3],λ x=>qeT m⟩) none):qI Go.Proofs.Tryz.prog 104 (Qz (yS c 104)):=by
 refine qsT (jZ Go.Proofs.Tryz.func104 (by kernel_rfl)) λ d g b a v f Γ w e i h=>?_;rw[j]at b;obtain⟨rfl,b⟩|b:=qsI b
 .cases b;cases f;exact qvF qxh (qrQ qxh 300) i h qDK
 .cases b
def zt(m:Nat)(l:List T):Option (Unit×List T×Unit):=cond (Nat.ble l.length 100000000) (some ((),l,())) none
def yp(m:Nat)(n:Int):Option (Unit×List T×Unit):=cond (inb n 100000000) (some ((),[],())) none
def zf(m:Nat)(l:List (T×Int))(i:Int)(v:List (T×Int)):Option (Unit×List (T×Int)×Unit):=cond (inb i l.length&&(Nat.ble l.length 100000&&Nat.beq v.length 1)) (some ((),l.take i.toNat++(v++l.drop i.toNat),())) none
def zd(m:Nat)(l:List (T×Int))(i j:Int):Option (Unit×List (T×Int)×Unit):=cond (inb j l.length&&(inb i l.length&&(ieq j (qj i 1)&&Nat.ble l.length 100000))) (some ((),l.take i.toNat++l.drop (i.toNat+1),())) none
theorem qd4{α:Type}{b:Bool}{x:α}{r:α}(h:cond b (some x) none=some r):b=true/\x=r:=by
 cases b with
 |true=>exact⟨rfl,kE h⟩
 |false=>cases h
theorem qcK{m:Nat}:qI Go.Proofs.Tryz.prog 23 (sgP ⟨[.val (.list .term)],[.one (.row .term)],λ x=>zt m x.1⟩):=by
 refine qqi (a:=.term) (jZ Go.Proofs.Tryz.func23 (by kernel_rfl)) (most:=100000000) Go.Proofs.YtinbdcelmgfniaaGreatDoor.clone_anyTrm (fn:=zt m) λ l r h=>?_;let⟨c,b⟩:=qd4 h;exact⟨kg c,b.symm⟩
def yA(m:Nat)(l:List (T×T)):Option (Unit×List (T×T)×Unit):=cond (Nat.ble l.length 100000000) (some ((),l,())) none
theorem qbA{m:Nat}:qI Go.Proofs.Tryz.prog 188 (sgP ⟨[.val (.list (.pair .term .term))],[.one (.row (.pair .term .term))],λ x=>yA m x.1⟩):=by
 refine qqi (a:=.pair .term .term) (jZ Go.Proofs.Tryz.func188 (by kernel_rfl)) (most:=100000000) Go.Proofs.YtinbdcelmgfniaaGreatDoor.clone_anyUp (fn:=yA m) λ l r h=>?_;let⟨c,b⟩:=qd4 h;exact⟨kg c,b.symm⟩
theorem qc4{m:Nat}:qI Go.Proofs.Tryz.prog 193 (sgP ⟨[.nil,.val (.int .i64)],[.one (.row .term)],λ x=>yp m x.1⟩):=by
 refine qz8 (a:=.term) (jZ Go.Proofs.Tryz.func193 (by kernel_rfl)) (most:=100000000) Go.Proofs.YtinbdcelmgfniaaGreatDoor.grow_nilTrm (fn:=yp m) λ n r h=>?_;let⟨b,c⟩:=qd4 h;have b:=of_decide_eq_true b;exact⟨b.1,b.2,c.symm⟩
theorem qGY:qji Go.Proofs.Tryz.prog (.pair .term (.int .i64)) 134 157 64:=⟨by
 have h:(match ym Go.Proofs.Tryz.prog 134 with|some ⟨_,_,_,_,.slice e k b z⟩=>Nat.beq e 157&&(Nat.beq k 5&&(Nat.beq b 64&&Nat.beq z.length 5))|_=>false)=true:=by kernel_rfl
 split at h
 .rename_i l j i g e k b z m;simp only[wb]at h;let⟨f,d,c,a⟩:=h;have f:=wj f;have d:=wj d;have c:=wj c;have a:=wj a;subst f;subst d;subst c;exact⟨l,j,i,g,z,m,a⟩
 .cases h⟩
theorem qbR{m:Nat}:qI Go.Proofs.Tryz.prog 225 (sgP ⟨[.row (.pair .term (.int .i64)),.val (.int .i64),.val (.list (.pair .term (.int .i64)))],[.one (.row (.pair .term (.int .i64)))],λ x=>zf m x.1 x.2.1 x.2.2.1⟩):=by
 refine qCf (a:=.pair .term (.int .i64)) (jZ Go.Proofs.Tryz.func225 (by kernel_rfl)) qGY (by decide) Go.Proofs.YtinbdcelmgfniaaGreatDoor.insert_endPow Go.Proofs.YtinbdcelmgfniaaGreatDoor.insert_roomPow Go.Proofs.YtinbdcelmgfniaaGreatDoor.insert_growPow (fn:=zf m) λ l i v r h=>?_;let⟨c,g⟩:=qd4 h;simp only[wb,Nat.beq_eq_true_eq]at c;let⟨b,f,d⟩:=c;have b:=of_decide_eq_true b;refine⟨?_,b.1,b.2,kg f,g.symm⟩
 match v,d with
 |[e],_=>exact⟨e,rfl⟩
theorem qbP{m:Nat}:qI Go.Proofs.Tryz.prog 226 (sgP ⟨[.row (.pair .term (.int .i64)),.val (.int .i64),.val (.int .i64)],[.one (.row (.pair .term (.int .i64)))],λ x=>zd m x.1 x.2.1 x.2.2.1⟩):=by
 refine qCC (a:=.pair .term (.int .i64)) (jZ Go.Proofs.Tryz.func226 (by kernel_rfl)) Go.Proofs.YtinbdcelmgfniaaGreatDoor.delete_onePow (fn:=zd m) λ l i j r h=>?_;let⟨e,g⟩:=qd4 h;simp only[wb]at e;let⟨d,c,b,f⟩:=e;have d:=of_decide_eq_true d;have c:=of_decide_eq_true c;have b:j=i+1:=by simpa[ieq,qj]using b
 refine⟨b,c.1,?_,kg f,g.symm⟩;omega
end Go.AmZ
namespace Go.AmZ
open Go Go.RowKit Go.GxZ
structure FI where
 fn:Func
 args:List ATy
 res:List Ty
 loop:List (Nat×List (Tmp×Co))
 ld:List Nat
 F:Nat->qam args->Option (qci res)
structure SI where
 fn:Func
 args:List SA
 res:List RE
 loop:List (Nat×List (Tmp×Co))
 ld:List Nat
 F:Nat->jP args->Option (jd args×RV res)
inductive En where
 |pure (l:List (List Nat×FI))
 |st (i:SI)
 |hp (g:Sig)
 |hs (g:qiY)
 |hx (g:Nat->qiY)
 |hm (g:Nat->qmH)
 |hk (g:Nat->qou)
 |il (fn:Func)
inductive Tr where
 |leaf
 |node (k:Nat) (l r:Tr) (x:En)
def Tr.get:Tr->Nat->Option En
 |.leaf,_=>none
 |.node k l r x,f=>match Nat.beq f k with
   |true=>some x
   |false=>match Nat.blt f k with
     |true=>Tr.get l f
     |false=>Tr.get r f
def qnl(a:List Nat):List (List Nat×FI)->Option FI
 |[]=>none
 |p::r=>match qlP p.1 a with
   |true=>some p.2
   |false=>qnl a r
def qBk(r:Nat):List (Nat×List (Tmp×Co))->Option (List (Tmp×Co))
 |[]=>none
 |p::l=>match Nat.beq p.1 r with
   |true=>some p.2
   |false=>qBk r l
structure Tb where
 ty:Nat->Option TD
 el:Nat->Option Ty
 tr:Tr
def Tb.has(b:Tb)(f:Nat):Bool:=match b.tr.get f with
 |some (.pure _)|some (.hp _)=>true
 |_=>false
def Tb.pf(b:Tb)(m f:Nat)(a:List Nat):Option Sig:=match b.tr.get f with
 |some (.pure l)=>match qnl a l with
   |some i=>some ⟨i.args,i.res,i.F m⟩
   |none=>none
 |some (.hp g)=>qrS a [] (some g) none
 |_=>none
def Tb.sf(b:Tb)(m f:Nat):Option qiY:=match b.tr.get f with
 |some (.st i)=>some ⟨i.args,i.res,i.F m⟩
 |some (.hs g)=>some g
 |some (.hx g)=>some (g m)
 |_=>none
def Tb.mf(b:Tb)(m f:Nat):Option qmH:=match b.tr.get f with
 |some (.hm g)=>some (g m)
 |_=>none
def Tb.xf(b:Tb)(m f:Nat):Option qou:=match b.tr.get f with
 |some (.hk g)=>some (g m)
 |_=>none
def Tb.inl(b:Tb)(f:Nat):Option Func:=match b.tr.get f with
 |some (.il fn)=>some fn
 |_=>none
def Tb.tc(b:Tb)(m:Nat)(d:List (Nat×List (Tmp×Co)))(a c:Nat)(e:List Nat):TC:=⟨b.ty,b.el,b.has,b.pf m,b.sf m,λ r=>qBk r d,λ _=>none,a,c,λ f=>qEg f e,b.mf m,b.xf m,b.inl⟩
def Tb.runP(b:Tb)(m:Nat)(i:FI)(k:Nat)(a:List It)(E:Env)(σ:TS):Option (qci i.res):=
 qkj (b.tc m i.loop i.fn.ntmps 0 i.ld) (qfR (b.tc m i.loop i.fn.ntmps 0 i.ld) i.res i.fn.results.toList) qql k a E σ
def Tb.runS(b:Tb)(m:Nat)(i:SI)(k:Nat)(a:List It)(E:Env)(σ:TS):Option (jd i.args×RV i.res):=
 qkj (b.tc m i.loop i.fn.ntmps (quS i.args) i.ld) (qrO (b.tc m i.loop i.fn.ntmps (quS i.args) i.ld) i.args i.res i.fn.results.toList) qql k a E σ
def Tb.runP1(b:Tb)(m:Nat)(i:FI)(c:List Nat)(a:qam i.args):Option (qci i.res):=b.runP m i (m+1) [.code (qm1 i.fn)] (qcQ 0 (qrw i.args a c)) ⟨[],[]⟩
def Tb.runS1(b:Tb)(m:Nat)(i:SI)(a:jP i.args):Option (jd i.args×RV i.res):=b.runS m i (m+1) [.code (qm1 i.fn)] (qcQ 0 (qg6 i.args 0 0 a)) ⟨sBx i.args 0 a,sRw i.args a⟩
def Tb.PL(b:Tb)(i:FI)(r:Nat)(m k:Nat)(E:Env)(σ:TS):Option (qci i.res):=b.runP m i k (stL i.fn r) E σ
def Tb.QL(b:Tb)(i:SI)(r:Nat)(m k:Nat)(E:Env)(σ:TS):Option (jd i.args×RV i.res):=b.runS m i k (stL i.fn r) E σ
def Tb.at(b:Tb)(m:Nat):TC:=b.tc m [] 0 0 []
theorem yH{α:Type}{M:Nat->α}{z:α}{s:α->α}(c:z=M 0)(b:∀k,M (k+1)=s (M k))(k:Nat):yk z s k=M k:=by
 induction k with
 |zero=>exact c
 |succ k a=>rw[b,<-a];rfl
def fnB(fn:Func)(n:Nat):Bool:=QY fn&&Nat.ble n fn.ntmps
def En.ok:En->Bool
 |.pure l=>l.all λ p=>fnB p.2.fn p.2.args.length
 |.st i=>fnB i.fn i.args.length
 |.il fn=>QY fn
 |_=>true
def Tr.ok:Tr->Bool
 |.leaf=>true
 |.node _ l r x=>x.ok&&(l.ok&&r.ok)
def qpB(P:Program)(b:Tb)(f:Nat)(l:List (List Nat×FI)):Prop:=match l with
 |[]=>True
 |p::r=>P.funcs[f]?=some p.2.fn/\(∀a,p.2.F 0 a=none)/\(∀m a,p.2.F (m+1) a=b.runP1 m p.2 p.1 a)/\qpB P b f r
def En.prog(P:Program)(b:Tb)(f:Nat):En->Prop
 |.pure l=>qpB P b f l/\l≠[]
 |.st i=>P.funcs[f]?=some i.fn/\(∀a,i.F 0 a=none)/\∀m a,i.F (m+1) a=b.runS1 m i a
 |.hp g=>∀c:TC,(∀d,c.pf f d=qrS d [] (some g) none)->qI P f (Qz (yS c f))
 |.hs g=>qI P f (sgP g)
 |.hx g=>qI P f (sgP (g 0))/\∀m,zM P (b.at m).pc.cfg->qI P f (sgP (g (m+1)))
 |.hm g=>qI P f (mgP (g 0))/\∀m,zM P (b.at m).pc.cfg->qI P f (mgP (g (m+1)))
 |.il fn=>P.funcs[f]?=some fn
 |.hk g=>qI P f (xgP (g 0))/\∀m,zM P (b.at m).pc.cfg->qI P f (xgP (g (m+1)))
def Tr.prog(P:Program)(b:Tb):Tr->Prop
 |.leaf=>True
 |.node k l r x=>x.prog P b k/\l.prog P b/\r.prog P b
theorem Tr.get_spec{P:Program}{b:Tb}:∀{t:Tr}{f:Nat}{x:En},t.get f=some x->t.ok=true->t.prog P b->x.ok=true/\x.prog P b f
 |.leaf,f,x,h,_,_=>by cases h
 |.node k l r y,f,x,h,a,⟨e,d,c⟩=>by
   simp only[Tr.ok,wb]at a;let⟨j,i,g⟩:=a;simp only[Tr.get]at h;split at h
   .rename_i m;cases h;rw[wj m];exact⟨j,e⟩
   .split at h
    .exact Tr.get_spec h i d
    .exact Tr.get_spec h g c
theorem qsq{a:List Nat}:∀{l:List (List Nat×FI)}{i:FI},qnl a l=some i->(a,i)∈l
 |[],i,h=>by cases h
 |p::r,i,h=>by
   simp only[qnl]at h;split at h
   .rename_i b;cases h;rw[<-qmW b];exact wm ..
   .exact we _ (qsq h)
theorem qpB.mem{P:Program}{b:Tb}{f:Nat}:∀{l:List (List Nat×FI)}{p:List Nat×FI},qpB P b f l->p∈l->P.funcs[f]?=some p.2.fn/\(∀a,p.2.F 0 a=none)/\(∀m a,p.2.F (m+1) a=b.runP1 m p.2 p.1 a)
 |[],p,_,h=>by cases h
 |q::r,p,⟨g,e,d,c⟩,h=>by
   obtain rfl|h:=wG.1 h
   .exact⟨g,e,d⟩
   .exact qpB.mem c h
theorem qqP{fn:Func}(h:QY fn=true):fn.body=some (qm1 fn):=by
 unfold QY at h;unfold qm1;cases a:fn.body with
 |none=>rw[a]at h;cases h
 |some c=>rfl
theorem qkV{fn:Func}{n:Nat}(h:fnB fn n=true):QY fn=true/\n<=fn.ntmps:=by
 unfold fnB at h;rw[wb]at h;exact⟨h.1,kg h.2⟩
theorem qDN{P:Program}{d:PC}(w:zM P d.cfg){l:TC}{f:FuncId}{fn:Func}(t:P.funcs[f]?=some fn)(m:QY fn=true)
  (h:∀n g,l.pf f n=some g->∃c:TC,{c.pc with pur:=d.pur,ld:=d.ld}=d/\c.nt=fn.ntmps/\c.np=0/\g.args.length<=fn.ntmps/\∃N k,∀a,g.fn a=qkj c (qfR c g.res fn.results.toList) N k [.code (qm1 fn)] (qcQ 0 (qrw g.args a n)) ⟨[],[]⟩):qI P f (Qz (yS l f)):=by
 refine qBt w t m (yS l f) λ ys r b=>?_;unfold yS at b;split at b<;>try cases b
 rename_i g s;split at b<;>try cases b
 rename_i a u;split at b<;>cases b;rename_i v q;let⟨c,e,i,j,y,N,k,x⟩:=h _ g s;refine⟨jE g.args a (qc5 ys),_,c.pc.pur,c.pc.ld,qiO g.args u,λ z p=>p,?_⟩;rw[<-e];exact qG6 (qqP m) i j (by rw[qiH];exact y) (qjK g.args a (qc5 ys)) (by rw[<-x a];exact q)
theorem Tb.has_pf{b:Tb}{m f:Nat}{a:List Nat}{g:Sig}(h:b.pf m f a=some g):(∃l i,b.tr.get f=some (.pure l)/\qnl a l=some i/\g=⟨i.args,i.res,i.F m⟩)\/(∃d,b.tr.get f=some (.hp d)):=by
 unfold Tb.pf at h;split at h
 .rename_i l c;split at h<;>cases h;exact .inl ⟨l,_,c,‹_›,rfl⟩
 .exact .inr ⟨_,‹_›⟩
 .cases h
theorem Tb.all_ok{P:Program}{b:Tb}(G:P.follows .mixedOrders=true)(Q:∀t d,b.ty t=some d->ym P t=some d)(n:b.tr.ok=true)(k:b.tr.prog P b):∀m,zM P (b.at m).pc.cfg:=by
 have x:∀{c:TC}{g:Sig}{f m:Nat},c.pf=b.pf m->b.tr.get f=some (.hp g)->qI P f (Qz (yS c f)):=by
  intro c g f m T j;refine(Tr.get_spec j n k).2 c λ s=>?_;rw[T];unfold Tb.pf;rw[j]
 have w:∀{m:Nat}{f:Nat},(b.at m).has f=true->(∃l,b.tr.get f=some (.pure l))\/∃g,b.tr.get f=some (.hp g):=by
  intro m f h;have h:b.has f=true:=h;unfold Tb.has at h;split at h
  .exact .inl ⟨_,‹_›⟩
  .exact .inr ⟨_,‹_›⟩
  .cases h
 have B:∀{m:Nat}{f:Nat}{g:qiY},(b.at m).sf f=some g->(∃i,b.tr.get f=some (.st i)/\g=⟨i.args,i.res,i.F m⟩)\/b.tr.get f=some (.hs g)\/∃h,b.tr.get f=some (.hx h)/\g=h m:=by
  intro m f g h;have h:b.sf m f=some g:=h;unfold Tb.sf at h;split at h
  .cases h;exact .inl ⟨_,‹_›,rfl⟩
  .cases h;exact .inr (.inl ‹_›)
  .cases h;exact .inr (.inr ⟨_,‹_›,rfl⟩)
  .cases h
 have C:∀{m:Nat}{f:Nat}{g:qmH},(b.at m).mf f=some g->∃h,b.tr.get f=some (.hm h)/\g=h m:=by
  intro m f g h;have h:b.mf m f=some g:=h;unfold Tb.mf at h;split at h
  .cases h;exact⟨_,‹_›,rfl⟩
  .cases h
 have A:∀{m:Nat}{f:Nat}{g:qou},(b.at m).xf f=some g->∃h,b.tr.get f=some (.hk h)/\g=h m:=by
  intro m f g h;have h:b.xf m f=some g:=h;unfold Tb.xf at h;split at h
  .cases h;exact⟨_,‹_›,rfl⟩
  .cases h
 have D:∀{m f:Nat}{fn:Func},(b.at m).inl f=some fn->P.funcs[f]?=some fn/\QY fn=true:=by
  intro m f fn h;have h:b.inl f=some fn:=h;unfold Tb.inl at h;split at h<;>cases h;have:=Tr.get_spec (by assumption) n k;exact⟨this.2,this.1⟩
 have q:∀{f:Nat}{l:List (List Nat×FI)},b.tr.get f=some (.pure l)->∃fn,P.funcs[f]?=some fn/\QY fn=true/\∀s i,qnl s l=some i->i.fn=fn/\i.args.length<=fn.ntmps/\(∀a,i.F 0 a=none)/\∀m a,i.F (m+1) a=b.runP1 m i s a:=by
  intro f l u;let⟨y,v⟩:=Tr.get_spec u n k;let⟨v,z⟩:=v;have y:=ww.1 (show l.all _=true from y);cases l with
  |nil=>exact absurd rfl z
  |cons p r=>
    refine⟨p.2.fn,(v.mem (wm ..)).1,(qkV (y p (wm ..))).1,λ s i H=>?_⟩;have G:=qsq H;let⟨e1,W,V⟩:=v.mem G;have X:=(v.mem (wm ..)).1;rw[X]at e1;have R:p.2.fn=i.fn:=kE e1;refine⟨R.symm,?_,W,V⟩;rw[R];exact(qkV (y _ G)).2
 intro m
 induction m with
 |zero=>
   refine qBb G Q (λ f I=>?_) (λ f g j=>?_) (λ f g j=>?_) (λ f g j=>?_) λ f fn h=>D h
   .obtain⟨l,u⟩|⟨g,j⟩:=w I
    .let⟨fn,O,N,M⟩:=q u;refine qAy (jZ O N) λ s g a h=>?_;have h:b.pf 0 f s=some g:=h;obtain⟨S,i,o,L,rfl⟩|⟨U,o⟩:=Tb.has_pf h
     .rw[u]at o;cases o;exact(M s i L).2.2.1 a
     .rw[u]at o;cases o
    .exact x rfl j
   .obtain⟨i,H,rfl⟩|e:=B j
    .let⟨y,v,z,_⟩:=Tr.get_spec H n k;exact qk4 (jZ v (qkV y).1) z
    .obtain e|⟨h,e,rfl⟩:=e
     .exact(Tr.get_spec e n k).2
     .exact(Tr.get_spec e n k).2.1
   .obtain⟨h,e,rfl⟩:=C j;exact(Tr.get_spec e n k).2.1
   .obtain⟨h,e,rfl⟩:=A j;exact(Tr.get_spec e n k).2.1
 |succ m E=>
   refine qBb G Q (λ f I=>?_) (λ f g j=>?_) (λ f g j=>?_) (λ f g j=>?_) λ f fn h=>D h
   .obtain⟨l,u⟩|⟨g,j⟩:=w I
    .let⟨fn,O,N,M⟩:=q u;refine qDN E O N λ s g h=>?_;have h:b.pf (m+1) f s=some g:=h;obtain⟨S,i,o,L,rfl⟩|⟨U,o⟩:=Tb.has_pf h
     .rw[u]at o;cases o;obtain⟨rfl,K,_,J⟩:=M s i L;exact⟨b.tc m i.loop i.fn.ntmps 0 i.ld,rfl,rfl,rfl,K,qql,m+1,λ a=>J m a⟩
     .rw[u]at o;cases o
    .exact x rfl j
   .obtain⟨i,H,rfl⟩|e:=B j
    .let⟨y,v,_,J⟩:=Tr.get_spec H n k;let⟨z,K⟩:=qkV y;exact qC0 (c:=b.tc m i.loop i.fn.ntmps (quS i.args) i.ld) (E.pur _ _) v z (qqP z) rfl _ rfl K ⟨qql,m+1,λ a=>J m a⟩
    .obtain e|⟨h,e,rfl⟩:=e
     .exact(Tr.get_spec e n k).2
     .exact(Tr.get_spec e n k).2.2 m E
   .obtain⟨h,e,rfl⟩:=C j;exact(Tr.get_spec e n k).2.2 m E
   .obtain⟨h,e,rfl⟩:=A j;exact(Tr.get_spec e n k).2.2 m E
def okP(b:Tb)(c:List Nat)(i:FI):Prop:=∀m a,i.F (m+1) a=b.runP1 m i c a
def okS(b:Tb)(i:SI):Prop:=∀m a,i.F (m+1) a=b.runS1 m i a
theorem nP{P:Program}{b:Tb}{k:Nat}{c:List Nat}{i:FI}{l r:Tr}(h:P.funcs[k]?=some i.fn)(g:okP b c i)(e:l.prog P b)(d:r.prog P b)(f:∀a,i.F 0 a=none:=by exact λ _=>rfl):(Tr.node k l r (.pure [(c,i)])).prog P b:=⟨⟨⟨h,f,g,trivial⟩,List.cons_ne_nil _ _⟩,e,d⟩
theorem nS{P:Program}{b:Tb}{k:Nat}{i:SI}{l r:Tr}(h:P.funcs[k]?=some i.fn)(g:okS b i)(d:l.prog P b)(c:r.prog P b)(e:∀a,i.F 0 a=none:=by exact λ _=>rfl):(Tr.node k l r (.st i)).prog P b:=⟨⟨h,e,g⟩,d,c⟩
abbrev eP(i:FI):En:=.pure [([],i)]
abbrev eS(i:SI):En:=.st i
abbrev tL(k:Nat)(x:En):Tr:=.node k .leaf .leaf x
abbrev vI:=TV.i .i64
abbrev vT(l:List T):=TV.sl .term l 1
section
variable {A B C D E F R:Type}
abbrev u0(f:Nat->R):Nat->Unit->R:=λ m _=>f m
abbrev u1(f:Nat->A->R):Nat->A×Unit->R:=λ m x=>f m x.1
abbrev u2(f:Nat->A->B->R):Nat->A×B×Unit->R:=λ m x=>f m x.1 x.2.1
abbrev u3(f:Nat->A->B->C->R):Nat->A×B×C×Unit->R:=λ m x=>f m x.1 x.2.1 x.2.2.1
abbrev u4(f:Nat->A->B->C->D->R):Nat->A×B×C×D×Unit->R:=λ m x=>f m x.1 x.2.1 x.2.2.1 x.2.2.2.1
abbrev u5(f:Nat->A->B->C->D->E->R):Nat->A×B×C×D×E×Unit->R:=λ m x=>f m x.1 x.2.1 x.2.2.1 x.2.2.2.1 x.2.2.2.2.1
end
theorem Tb.prim{P:Program}{b:Tb}(h:∀m,zM P (b.at m).pc.cfg)(m:Nat){f:Nat}(a:b.has f=true):qI P f (Qz (yS (b.at m) f)):=by
 refine(h m).prim f _ ?_;show PC.prim _ f=_;unfold PC.prim
 have:(b.at m).pc.pf f=some (yS (b.at m) f):=by
  show(match(b.at m).has f with|true=>some (yS (b.at m) f)|false=>none)=_;rw[show(b.at m).has f=true from a]
 rw[this]
end Go.AmZ
namespace Go.AmZ
open Go Go.RowKit Go.GxZ Go.Sort Go.Proofs Go.Shelf
def bare(Γ:Gh):Gh:={Γ with nb:=0,nr:=0}
theorem Rep.bare{Γ:Gh}{x:AV}{u:Value}(h:Rep Γ x u)(m:qm x=true):Rep (bare Γ) x u:=by
 induction h with
 |v x h=>exact .v x h
 |sl k es f a n cap b o us p t s r c y w q z l=>exact .sl k es f a n cap b o us p t s r c y w q (λ i e j x g d=>l i e j x g d (c e (wc g) x (wc d)))
 |_=>simp[qm]at m
theorem Inv.bare{Γ:Gh}{σ:St}{w w':World}(h:Inv Γ σ w)(d:∀b o u,Γ.mem b o=some u->w'.cell? ⟨b,o,none⟩=some u):Inv (bare Γ) emp w' where
 nb:=rfl
 nr:=rfl
 mem:=λ b o u e=>⟨d b o u e,(h.mem b o u e).2⟩
 box:=λ i cs e=>by cases e
 inj:=λ i j a=>absurd a (wJ _)
 boxmem:=λ i a=>absurd a (wJ _)
 row:=λ r R e=>by cases e
 apart:=λ r f c=>absurd c (wJ _)
structure qC8 (w w':World):Prop where
 os:w'.os=w.os
 tape:w'.tape=w.tape
 output:w'.output=w.output
 size:w.heap.size<=w'.heap.size
 block:∀b,b<w.heap.size->w'.heap[b]?=w.heap[b]?
 drawn:w.drawn<=w'.drawn
theorem qsy:∀(τ:Ty) (v:Val τ),jy τ (yl τ v)=some v:=by
 intro τ v;have h:=ji τ v;cases τ<;>exact h
theorem qmP:∀(ts:List Ty) (a:qam (ts.map ATy.val)),qbL (ts.map ATy.val) (jE (ts.map ATy.val) a [])=some a/\qc5 (jE (ts.map ATy.val) a [])=[]
 |[],_=>⟨rfl,rfl⟩
 |τ::r,a=>by
   let⟨d,c⟩:=qmP r a.2;constructor
   .show qi8 (jy τ) (qbL (r.map ATy.val)) (yl τ a.1::jE (r.map ATy.val) a.2 [])=_;simp only[qi8,qsy,d];rfl
   .show qc5 (yl τ a.1::jE (r.map ATy.val) a.2 [])=[];have:=(qaO (qsy τ a.1)).2;cases b:yl τ a.1<;>first|exact c|exact absurd b (this _ _)
def Fn2(P:Program)(g:FuncId)(τ:Ty){a:Type}(enc:a->Value)(F:Val τ->Val τ->Option a):Prop:=
 qdx P g/\∀{Γ:Gh}{w:World}{x y:Val τ}{u v:Value}{c:a},Inv Γ emp w->Rep Γ (yl τ x) u->Rep Γ (yl τ y) v->F x y=some c->Calls P g #[u,v] w λ e w'=>e=.returned (enc c)/\qC8 w w'
theorem qws{P:Program}{g:FuncId}{c:TC}{τ ρ:Ty}(o:qI P g (Qz (yS c g))){F:Val τ->Val τ->Option (qci [ρ])}(z:c.pf g []=some ⟨[.val τ,.val τ],[ρ],λ x=>F x.1 x.2.1⟩){enc:qci [ρ]->Value}(A:∀v,zm (Jo [ρ] v)=.v (enc v)):Fn2 P g τ enc F:=by
 refine⟨o.1,λ{Γ w x y u v p} m a q B=>?_⟩;let⟨E,D⟩:=qmP [τ,τ] (x,y,())
 have t:yS c g [yl τ x,yl τ y]=some (.v (enc p)):=by
  show yS c g (jE ([τ,τ].map ATy.val) (x,y,()) [])=_;unfold yS;rw[D,z];simp only;have n:qbL [ATy.val τ,ATy.val τ] (jE ([τ,τ].map ATy.val) (x,y,()) [])=some (x,y,()):=E;rw[n];simp only;rw[B];simp only;rw[A]
 have j:Qz (yS c g) emp [yl τ x,yl τ y]=some (.v (enc p),none):=by
  show(match yS c g [yl τ x,yl τ y]with|some v=>some (v,none)|none=>none)=_;rw[t]
 have:=o.2 Γ emp w _ [u,v] _ m (waB a (waB q RepL.nil)) j;refine Calls.mono this ?_;rintro e w' ⟨G,Γ',rfl,a,_,h,_⟩;have s:=qV h;subst s;refine⟨rfl,a.os,a.tape,a.output,a.size,λ b C=>a.block b C ?_,a.drawn⟩;have l:Γ.nb=0:=m.nb;have k:Γ.nr=0:=m.nr;rintro(⟨i,f,_⟩|⟨r,d,_⟩)
 .rw[l]at f;exact absurd f (wJ _)
 .rw[k]at d;exact absurd d (wJ _)
theorem qrM{P:Program}{b:Tb}{m:Nat}(h:zM P (b.at m).pc.cfg){f:Nat}(a:b.has f=true):qI P f (Qz (yS (b.at m) f)):=by
 refine h.prim f _ ?_;show PC.prim _ f=_;unfold PC.prim
 have:(b.at m).pc.pf f=some (yS (b.at m) f):=by
  show(match(b.at m).has f with|true=>some (yS (b.at m) f)|false=>none)=_;rw[show(b.at m).has f=true from a]
 rw[this]
def qbx{α:Type}(F:α->α->Option Int)(l:List α)(i j:Nat):Int:=match l[i%l.length]?,l[j%l.length]? with
 |some x,some y=>(F x y).getD 0
 |_,_=>0
def qfL{α a:Type}(F:α->α->Option a)(l:List α):Bool:=l.all λ x=>l.all λ y=>(F x y).isSome
def qzb(n:Nat)(lt:Nat->Nat->Bool):Bool:=(List.range n).all λ i => !lt i i&&(List.range n).all λ j=>(List.range n).all λ k=>(!(lt i j&&lt j k)||lt i k)&&(lt i j||(lt j k || !lt i k))
def qd2{α:Type}(F:α->α->Option Int)(l:List α):List Nat:=(Sort.pdq (ltOf (qbx F l)) (Array.range l.length) 0 l.length (Lib.bitLen l.length) true true).toList
def pick{α:Type}(l:List α)(a:List Nat):List α:=a.filterMap λ i=>l[i]?
def qpt{α:Type}(F:α->α->Option Int):List α->Option (List α)
 |[]=>some []
 |x::l=>cond (Nat.ble (x::l).length 100000&&(qfL F (x::l)&&qzb (x::l).length (ltOf (qbx F (x::l))))) (some (pick (x::l) (qd2 F (x::l)))) none
theorem qD4{α:Type}(F:α->α->Option Int)(l:List α)(i j:Nat):qbx F l i j=qbx F l (i%l.length) (j%l.length):=by
 unfold qbx;rw[Nat.mod_mod,Nat.mod_mod]
theorem qGX{n:Nat}{lt:Nat->Nat->Bool}(l:0<n)(e:∀i j,lt i j=lt (i%n) (j%n))(h:qzb n lt=true):SWO lt:=by
 have b:∀i j k,lt i i=false/\(lt i j=true->lt j k=true->lt i k=true)/\(lt i j=false->lt j k=false->lt i k=false):=by
  intro i j k;have a:∀i,i%n∈List.range n:=λ i=>kP.2 (xS _ l);have d:=ww.1 h _ (a i);rw[wb]at d;have c:=ww.1 (ww.1 d.2 _ (a j)) _ (a k);rw[wb]at c;rw[e i i,e i j,e j k,e i k];let⟨d,_⟩:=d;let⟨c,g⟩:=c;refine⟨by simpa using d,λ e1 f=>?_,λ e1 f=>?_⟩
  .rw[e1,f]at c;simpa using c
  .rw[e1,f]at g;simpa using g
 exact⟨λ i=>(b i i i).1,λ i j k=>(b i j k).2.1,λ i j k=>(b i j k).2.2⟩
theorem qpf{α:Type}{l:List α}:∀{a:List Nat},(∀i∈a,i<l.length)->∀(q:Nat),(pick l a)[q]?=(a[q]?).bind λ i=>l[i]?
 |[],_,q=>by simp[pick]
 |i::a,h,q=>by
   have b:=h i (wm ..)
   have e:pick l (i::a)=l[i]::pick l a:=by
    unfold pick;rw[xY,List.getElem?_eq_getElem b]
   rw[e];cases q with
   |zero=>simp[List.getElem?_eq_getElem b]
   |succ q=>simpa using qpf (λ j c=>h j (we _ c)) q
theorem qCI{α:Type}{l:List α}{a:List Nat}(h:∀i∈a,i<l.length):(pick l a).length=a.length:=by
 induction a with
 |nil=>rfl
 |cons i a b=>
   have d:=h i (wm ..)
   have e:pick l (i::a)=l[i]::pick l a:=by
    unfold pick;rw[xY,List.getElem?_eq_getElem d]
   rw[e,wA,wA,b λ j c=>h j (we _ c)]
theorem qwB{α : Type}(F : α -> α -> Option Int)(l:List α)(h:SWO (ltOf (qbx F l))):(qd2 F l).Perm (List.range l.length)/\SortedIn (ltOf (qbx F l)) 0 l.length (qd2 F l).toArray:=by
 have hp:=pdq_sorts (ltOf (qbx F l)) h (Array.range l.length) 0 l.length (Lib.bitLen l.length) true true (wh _) (by simp) (Or.inl rfl);obtain⟨⟨h1,_,h3⟩,h4⟩:=hp;have hsz:(Array.range l.length).size=l.length:=vp;have hs':(Sort.pdq (ltOf (qbx F l)) (Array.range l.length) 0 l.length (Lib.bitLen l.length) true true).size=l.length:=h1.trans hsz;have e2:∀ a:Array Nat,a.size=l.length->a.extract 0 l.length=a := λ a ha=>by rw[<- ha];exact Array.extract_size
 rw[e2 _ hs',e2 _ hsz]at h3;refine⟨?_,h4⟩;rw[Array.toList_range]at h3;exact h3
theorem qxn{σ:St}{g:Nat}{r:List SA}{nb c:Nat}{ys:List AV}{a:jP (.clo g 0::r)}(h:dS σ (.clo g 0::r) nb c ys=some a):∃b,ys=.fn g []::b/\dS σ r nb c b=some a:=by
 cases ys with
 |nil=>simp[dS]at h
 |cons y ys=>
   simp only[dS]at h;split at h
   .rename_i cs d;obtain⟨rfl,e⟩:=qxB d;obtain rfl:=wg e;exact⟨ys,rfl,h⟩
   .cases h
end Go.AmZ
namespace Go.AmZ
open Go Go.RowKit Go.GxZ Go.Sort Go.Proofs Go.Shelf
structure qCk (w0:World) (blk:Nat) (et:TypeId) (vs:Array Value) (W:World):Prop where
 hb:W.heap[blk]?=some (.cells vs et (0,0))
 os:W.os=w0.os
 tape:W.tape=w0.tape
 output:W.output=w0.output
 size:w0.heap.size<=W.heap.size
 other:∀b,b<w0.heap.size->b≠blk->W.heap[b]?=w0.heap[b]?
 drawn:w0.drawn<=W.drawn
theorem qCk.refl{w:World}{a:Nat}{b:TypeId}{vs:Array Value}(h:w.heap[a]?=some (.cells vs b (0,0))):qCk w a b vs w:=⟨h,rfl,rfl,rfl,wa _,λ _ _ _=>rfl,wa _⟩
theorem sort_blks{w:World}{blk:Nat}{et:TypeId}{vs:Array Value}(hb:w.heap[blk]?=some (.cells vs et (0,0))){α : Type}[Inhabited α](enc : α -> List Value)(k m:Nat)(dk:Array α)(os:Array Obj) :
  qCk w blk et (putCells id 0 (flatK enc k dk) vs) (sortWorldK enc k w blk 0 m dk os):=by
 have hlt:blk<w.heap.size:=(Array.getElem?_eq_some_iff.1 hb).1;have hh:(sortWorldK enc k w blk 0 m dk os).heap=w.heap.modify blk (onCells (putCells id 0 (flatK enc k dk)))++os:=rfl;refine⟨?_,rfl,rfl,rfl,?_,λ b hb' hn=>?_,kw _ _⟩
 ·rw[hh,Array.getElem?_append_left (by simpa using hlt),Array.getElem?_modify,if_pos rfl,hb];rfl
 ·rw[hh,xy,Array.size_modify];exact kw _ _
 ·rw[hh,Array.getElem?_append_left (by simpa using hb'),Array.getElem?_modify,if_neg (xL hn)]
theorem qC8.grow{W w':World}(h:qC8 W w'):∃q a,w'=Sort.grow (W.drewN q) a:=by
 refine⟨w'.drawn-W.drawn,w'.heap.extract W.heap.size w'.heap.size,?_⟩
 have c:w'.heap=W.heap++w'.heap.extract W.heap.size w'.heap.size:=by
  apply Array.ext_getElem?;intro i;by_cases b:i<W.heap.size
  .rw[Array.getElem?_append_left b];exact h.block i b
  .rw[Array.getElem?_append_right (by omega),Array.getElem?_extract];split
   .congr 1;omega
   .rw[Array.getElem?_eq_none (by omega)]
 have d:W.drawn+(w'.drawn-W.drawn)=w'.drawn:=Nat.add_sub_cancel' h.drawn;let⟨g,f,e,_,_,_⟩:=h;cases w';cases W;simp only[Sort.grow,World.drewN]at *;rw[<-c,d,g,f,e]
def qav(vs:Array Value)(k p:Nat):List Value:=(vs.toList.drop (p*k)).take k
theorem qj9{vs:Array Value}{k p j:Nat}(a:j<k):(qav vs k p)[j]?=vs[p*k+j]?:=by
 unfold qav;rw[List.getElem?_take,if_pos a,List.getElem?_drop,Array.getElem?_toList]
theorem qop{vs:Array Value}{k p n:Nat}(a:p<n)(b:n*k<=vs.size):(qav vs k p).length=k:=by
 unfold qav;have:(p+1)*k<=n*k:=wo _ a;rw[kO]at this;rw[wk,wO,wL];omega
theorem qu1{Γ:Gh}{τ:Ty}{c:List (List AV)}{l:List (Val τ)}{vs:Array Value}{n:Nat}(v:c.length=n)(B:∀e∈c,e.length=τ.size)(w:qQ (qw τ) c=some l)(C:yj Γ τ.size c (vs.toList.take (n*τ.size)))(A:n*τ.size<=vs.size)
  {p:Nat}{x:Val τ} (t:l[p]?=some x):RepL Γ (qd τ x) (qav vs τ.size p)/\∀u∈qav vs τ.size p,u.oneCell'=true:=by
 have o:l.length=n:=(qN w).symm.trans v;have h:p<n:=by rw[<-o];exact getElem?_lt t
 have b:p<c.length:=by rw[v];exact h
 let⟨x',g,r⟩:=QR w (List.getElem?_eq_getElem b);rw[t]at g;cases g;have f:=B _ (wS b);have a:=qop (k:=τ.size) h A
 have get:∀j,j<τ.size->∃u,(qav vs τ.size p)[j]?=some u/\Rep Γ (c[p][j]?.getD .dead) u/\u.oneCell'=true:=by
  intro j d;have i:j<c[p].length:=by rw[f];exact d
  let⟨u,u1,u2,u3⟩:=C p c[p] j _ (List.getElem?_eq_getElem b) (List.getElem?_eq_getElem i);refine⟨u,?_,?_,u3⟩
  .rw[qj9 d,<-Array.getElem?_toList];rw[List.getElem?_take]at u1;split at u1
   .exact u1
   .cases u1
  .rw[List.getElem?_eq_getElem i];exact u2
 constructor
 .refine(qgG r).rep ⟨by rw[a,f],λ j y u s m=>?_⟩;have d:j<τ.size:=by rw[<-f];exact getElem?_lt s
  let⟨z,u1,u2,_⟩:=get j d;rw[m]at u1;cases u1;rw[s]at u2;exact u2
 .intro u m;let⟨j,d⟩:=List.getElem?_of_mem m;have q:j<τ.size:=by rw[<-a];exact getElem?_lt d
  let⟨z,u1,_,u3⟩:=get j q;rw[d]at u1;cases u1;exact u3
theorem qkZ(j k n:Nat)(h:j<n*k):j/k<n/\j/k*k+j%k=j/\j%k<k:=by
 have b:0<k:=by
  obtain a|a:=vb k
  .rw[a,Nat.mul_zero]at h;exact absurd h (wJ _)
  .exact a
 refine⟨(xP b).2 h,?_,xS _ b⟩;rw[xE];exact xZ j k
set_option maxHeartbeats 1000000 in
theorem qsn{P:Program}{ρ : Ren}(L:SlLaysF0.n6 P ρ){τ : Ty}{g:FuncId}(hag:∀ v,yl τ v = .agg (qd τ v))(aE:∀ w,(isAgg (ρ.t 24)).run P w = .ok true w)(zE:∀ w,(Go.sizeOf (ρ.t 24)).run P w = .ok τ.size w)
  {F:Val τ -> Val τ -> Option Int} (hF:Fn2 P g τ (λ c:Int => .int .i64 c) F) (hf:qdx P (ρ.f 6)) {fn:List (Val τ)->Option (List (Val τ))} (hfn:∀ l r,fn l=some r->qpt F l=some r) (hk1' : τ.size≠1:=by first | assumption | decide) :
  qI P (ρ.f 6) (mgP ⟨τ,[.clo g 0],λ x=>fn x.1⟩):=by
 refine⟨hf,λ Γ σ w args vals r hi hr hp=>?_⟩;unfold mgP at hp;split at hp
 case h_2=>cases hp
 rename_i x hx;split at hp
 case h_2=>cases hp
 rename_i v hv;split at hp
 case h_2=>cases hp
 rename_i hlen;obtain⟨l,_⟩:=x;have hv:=hfn _ _ hv;have hlen:v.length=l.length:=wj hlen;obtain⟨y0,ys0,nr,rfl,hy0,hx1⟩:=qpQ hx;obtain⟨ys1,rfl,hx2⟩:=qxn (g:=g) (r:=[]) hx1;obtain⟨rfl,hbx,hrw⟩:=qhf hx2;clear hx hx1 hx2;obtain⟨u0,r0,rfl,hu0,hr⟩:=hr.uncons;obtain⟨u1,r1,rfl,hu1,hr⟩:=hr.uncons;have:=hr.nil_inv;subst this
 have hu1:u1 = .func (.func g) #[] #[]:=by
  cases hu1 with
  | fn _ _ us hn _=>obtain rfl:=wg hn;rfl
 subst hu1;have hb0 : σ.bx=[]:=wg hbx.symm;have none0:∀(p:Option Addr) (cap:Nat),Calls P (ρ.f 6) #[.slice p 0 cap,.func (.func g) #[] #[]] w λ e w'=>e = .returned (.tuple #[])/\w'=w := λ p cap=>AnyF.slices_SortFunc_none L p cap _ w;have tup:∀ Γ,Rep Γ (.tup []) (.tuple #[]) := λ Γ => .tup [] [] rfl (λ i x u h=>by cases h);rcases qd0 hy0 with⟨hnr,R,rfl,hR,hRk,hRf,hRd⟩ | ⟨hnr,hl0,hy⟩
 ·have hrw1 : σ.rw=[R]:=by
    rw[hnr]at hrw
    match hq : σ.rw,hrw with
    | [Q],_=>rw[hq]at hR;cases hR;rfl
  rw[hb0,hrw1]at hp;cases hp;have H:=hi.row 0 R hR;have hcl:R.c.length=l.length:=qN hRd;have hlk:∀ e∈R.c,e.length = τ.size := λ e he=>(H.len e he).trans hRk
  have qkO:qE { σ with wr:=[],wrr:=[] } ⟨[],[⟨R.k,v.map (qd τ),R.ver,R.fz,R.off⟩],[],[0]⟩ :=
   ⟨by show σ.bx.length<=0;rw[hb0];exact wa _,by show σ.rw.length<=1;rw[hrw1];exact wa _,λ i hi _=>(by have hi:i < σ.bx.length:=hi;rw[hb0]at hi;exact absurd hi (wJ _)),λ i hi hn=>(by
    have hi:i < σ.rw.length:=hi;rw[hrw1]at hi;have hi:i<1:=hi;obtain rfl:i=0:=by omega
    exact absurd (wF.2 rfl) hn),λ i h=>(by cases h),λ i h=>(by cases h)⟩
  obtain⟨p,cap,rfl,hcap,hrm⟩:=qrH hi hR hRk hRf hu0;by_cases hl0:l=[]
  ·subst hl0;have hc0:R.c=[]:=wg hcl;have hv0:v=[]:=wg hlen;subst hv0;rw[hcl];refine(none0 p cap).mono ?_;rintro e w' ⟨rfl,rfl⟩;refine⟨_,Γ,rfl,.refl _ _,?_,tup _,qkO⟩
   have:(⟨[],[⟨R.k,([]:List (Val τ)).map (qd τ),R.ver,R.fz,R.off⟩],[],[0]⟩:St)=⟨[],[R],[],[0]⟩:=by
    show(⟨[],[⟨R.k,[],R.ver,R.fz,R.off⟩],[],[0]⟩:St)=_;rw[<- hc0]
   show Inv Γ ⟨[],[⟨R.k,([]:List (Val τ)).map (qd τ),R.ver,R.fz,R.off⟩],[],[0]⟩ w';rw[this];exact hi.wr hb0.symm hrw1.symm
  ·have hlpos:0<l.length:=xI.2 hl0;rcases hrm with h0 | ⟨rfl,hz,vs,et,hvs,hvsz,hfit,hca,hxl,h1⟩
   ·omega
   obtain⟨n,hn⟩:∃ n,n=l.length:=⟨_,rfl⟩
   have hnc:R.c.length=n:=hcl.trans hn.symm;rw[hnc]at hca hxl h1 hcap |-
   have hns:n * τ.size<=vs.size:=wD (wo _ hcap) hfit;have hsz0:0 < τ.size:=waz τ
   have hv':Nat.ble l.length 100000=true/\qfL F l=true/\qzb l.length (ltOf (qbx F l))=true/\v=pick l (qd2 F l):=by
    cases l with
    | nil=>exact absurd rfl hl0
    | cons y l =>
      have hv:cond _ _ _=some v:=hv;cases hb:(Nat.ble (y::l).length 100000&&(qfL F (y::l)&&qzb (y::l).length (ltOf (qbx F (y::l)))))with
      | false=>unfold qpt at hv;rw[hb]at hv;cases hv
      | true =>
        have hb':=hb;simp only[wb]at hb';unfold qpt at hv;rw[hb]at hv;cases hv;exact⟨hb'.1,hb'.2.1,hb'.2.2,rfl⟩
   obtain⟨v1,v2,v3,v4⟩:=hv';have v1:l.length<=100000:=kg v1;have hO:SWO (ltOf (qbx F l)):=qGX hlpos (λ i j=>by unfold ltOf;rw[qD4]) v3;obtain⟨hperm,_⟩:=qwB F l hO;have hixlt:∀ i∈qd2 F l,i<l.length := λ i hi=>kP.1 (hperm.mem_iff.1 hi);have hixlen:(qd2 F l).length=l.length:=by rw[hperm.length_eq,xO]
   have hER:∀{q:Nat} {y:Val τ},l[q]?=some y->RepL Γ (qd τ y) (qav vs τ.size q)/\∀ u∈qav vs τ.size q,u.oneCell'=true := λ hq=>qu1 hnc hlk hRd hca hns hq;have hlast:∀ i,i % n<n := λ i=>xS _ (by omega);obtain⟨enc,henc⟩:∃ enc:Nat->List Value,enc = λ i=>qav vs τ.size (i % n):=⟨_,rfl⟩
   have hek:∀ i,(enc i).length = τ.size := λ i=>by rw[henc];exact qop (hlast i) hns
   have hlget:∀ i,∃ y,l[i % n]?=some y := λ i=>⟨_,List.getElem?_eq_getElem (by rw[<- hn];exact hlast i)⟩
   have he1:∀ i,∀ u∈enc i,u.oneCell'=true := λ i u hu=>by
    rw[henc]at hu;obtain⟨y,hy⟩:=hlget i;exact(hER hy).2 u hu
   have hrange:(Array.range n).size=n:=vp;have hvsb:w.heap[Γ.cur 0]?=some (.cells vs et (0,0)):=hvs;have hblk : Γ.cur 0<w.heap.size:=(Array.getElem?_eq_some_iff.1 hvsb).1;have hmem0:∀ off,Γ.mem (Γ.cur 0) off=none := λ off=>H.un hz off (by rw[hRf.1,kr,H.off hRf.2];exact wh _)
   have hH:HoldsK enc τ.size w (Γ.cur 0) 0 (Array.range n):=by
    intro j hj;rw[size_flatK,hrange]at hj;obtain⟨q1,q2,q3⟩:=qkZ j τ.size n hj;have hjs:j<vs.size:=wy hj hns;constructor
    ·rw[get_flatK _ _ _ _ (by rw[hrange];exact hj)];have e1:(Array.range n)[j / τ.size]! = j / τ.size:=by rw[getElem!_pos _ _ (by rw[hrange];exact q1)];simp
     rw[e1,henc];show _=some ((qav vs τ.size (j / τ.size % n))[j % τ.size]!);rw[xH q1];have e2:(qav vs τ.size (j / τ.size))[j % τ.size]?=some vs[j]:=by rw[qj9 q3,q2];exact Array.getElem?_eq_getElem hjs
     rw[wB,Blk.cell hvs,List.getElem!_eq_getElem?_getD,e2,Array.getElem?_eq_getElem hjs];rfl
    ·exact Blk.free hvs _
   have hcmp:CmpLays P g #[] enc τ.size (qbx F l) (Γ.cur 0) 0 (Array.range n).size w:=by
    intro m os dk hdk x y;have B:=sort_blks hvsb enc τ.size m dk os;obtain⟨W,hW⟩:∃ W,W=sortWorldK enc τ.size w (Γ.cur 0) 0 m dk os:=⟨_,rfl⟩
    rw[<- hW]at B |-
    have hiW:Inv (bare Γ) emp W:=hi.bare λ b o u e=>by
     have hne:b ≠ Γ.cur 0 := λ hb=>by rw[hb,hmem0]at e;cases e
     have hc:=(hi.mem b o u e).1;have hblt:=hi.mem_lt e;rw[show W.cell? _=w.cell? _ from World.cell?_of_block (B.other b hblt hne)];exact hc
    have rep:∀(i:Nat) (y:Val τ),l[i % n]?=some y->Rep (bare Γ) (yl τ y) (.agg (enc i).toArray) := λ i y hy=>by
     obtain⟨q1,q2⟩:=hER hy;rw[hag];have:enc i=qav vs τ.size (i % n):=by rw[henc]
     rw[this];refine .agg _ _ q1.len q2 λ j z u a b=>(q1.rep j z u a b).bare (qW τ y z (wc a))
    obtain⟨lx,hx⟩:=hlget x;obtain⟨ly,hy⟩:=hlget y;have hsome:=ww.1 (ww.1 v2 lx (wc hx)) ly (wc hy);obtain⟨c,hc⟩:=vX.1 hsome
    have hcf:qbx F l x y=c:=by
     unfold qbx;rw[<- hn,hx,hy];simp only;rw[hc];rfl
    rw[hcf];have hcall:=hF.2 hiW (rep x lx hx) (rep y ly hy) hc;refine Calls.mono (by simpa using hcall) ?_;rintro e w' ⟨rfl,hid⟩;exact⟨rfl,hid.grow⟩
   have hcall:=AnyQ.slices_SortFunc_eq L τ.size aE zE enc hek he1 (qbx F l) hO g #[] (Γ.cur 0) 0 cap (Array.range n) w (λ args w=>qeQ hF.1 args w) hcmp hH hblk (by rw[hrange];omega);rw[hrange]at hcall;refine Calls.mono hcall ?_;rintro e w' ⟨rfl,m,os,hw'⟩;have B:=sort_blks hvsb enc τ.size m (pdq (ltOf (qbx F l)) (Array.range n) 0 n (Lib.bitLen n) true true) os;rw[<- hw']at B;have hix:qd2 F l=(pdq (ltOf (qbx F l)) (Array.range n) 0 n (Lib.bitLen n) true true).toList:=by unfold qd2;rw[hn]
   obtain⟨dk,hdk⟩:∃ dk,dk=pdq (ltOf (qbx F l)) (Array.range n) 0 n (Lib.bitLen n) true true:=⟨_,rfl⟩
   rw[<- hdk]at B hix;have hdks:dk.size=n:=by rw[<- wL,<- hix,hixlen,hn]
   have hvlen:(v.map (qd τ)).length=n:=by rw[wz,hlen,hn]
   have hflat:(flatK enc τ.size dk).size=n * τ.size:=by rw[size_flatK,hdks]
   have hpsz:(putCells id 0 (flatK enc τ.size dk) vs).size=vs.size:=by unfold putCells;rw[vO]
   obtain⟨Γ',x1,x2,_⟩:=qpe hi hR (H.off hRf.2) (R':=⟨R.k,v.map (qd τ),R.ver,R.fz,R.off⟩) (by rw[hRf.1];exact wh _) rfl (g := Γ.cur 0) (vs:=putCells id 0 (flatK enc τ.size dk) vs) (e:=et) (.inr ⟨rfl,rfl,hpsz.trans hvsz⟩)
    (λ e he=>by obtain⟨y,_,rfl⟩:=wC.1 he;rw[zC,hRk]) (λ e he=>by obtain⟨y,_,rfl⟩:=wC.1 he;exact qW τ y) (by show R.fz<=_;rw[hRf.1];exact wh _) (qtQ _) (λ _=>rfl) B.hb
    (by show(v.map (qd τ)).length*R.k<=_;rw[hvlen,hRk,hpsz];exact hns)
    (λ off _=>hmem0 off)
    (λ i e j x he hx=>by
     have he:(v.map (qd τ))[i]?=some e:=he;have hin:i<n:=by rw[<- hvlen];exact getElem?_lt he
     rw[List.getElem?_map,v4,qpf hixlt]at he;have hixi:(qd2 F l)[i]?=some dk[i]:=by rw[hix,Array.getElem?_toList];exact Array.getElem?_eq_getElem (by omega)
     rw[hixi]at he
     obtain⟨y,hy,rfl⟩:∃ y,l[dk[i]]?=some y/\qd τ y=e:=by
      cases hq:l[dk[i]]? with
      | none=>simp[hq]at he
      | some y=>simp[hq]at he;exact⟨y,rfl,he⟩
     have hdl:dk[i]<n:=wy (getElem?_lt hy) (vg hn.symm);obtain⟨q1,q2⟩:=hER hy;have hj:j < τ.size:=by rw[<- zC τ y];exact getElem?_lt hx
     obtain⟨u,hu,hrep⟩:=q1.get hx;refine⟨u,?_,hrep,q2 u (wc hu)⟩;rw[hRk]
     have hlt:i * τ.size+j<n * τ.size:=by
      have:(i+1) * τ.size<=n * τ.size:=wo _ hin;rw[kO]at this;omega
     unfold putCells;rw[Array.getElem?_mapIdx,Array.getElem?_eq_getElem (wy hlt hns),kJ,if_pos ⟨wh _,by rw[hflat,wB];exact hlt⟩,Nat.sub_zero,id,get_flatK _ _ _ _ (by rw[hdks];exact hlt)];have e1:(i * τ.size+j) / τ.size=i:=by rw[xE,Nat.mul_add_div hsz0,Nat.div_eq_of_lt hj,wK]
     have e2:(i * τ.size+j) % τ.size=j:=by rw[xE,Nat.mul_add_mod,xH hj]
     rw[e1,e2,getElem!_pos dk i (by omega),henc];show some ((qav vs τ.size (dk[i] % n))[j]!)=_;rw[xH hdl,List.getElem!_eq_getElem?_getD,hu];rfl)
    (λ b o u hm=>by
     have hne:b ≠ Γ.cur 0 := λ hb=>by rw[hb,hmem0]at hm;cases hm
     rw[show w'.cell? _=w.cell? _ from World.cell?_of_block (B.other b (hi.mem_lt hm) hne)];exact(hi.mem b o u hm).1)
    (λ b hb hor=>B.other b hb (hor.elim id λ h0=>absurd h0 hz)) (.inl ⟨rfl,hz⟩) B.os B.tape B.output B.size B.drawn [0]
   refine⟨_,Γ',rfl,x1,?_,tup _,qkO⟩;refine x2.wr ?_ ?_
   ·exact hb0.symm
   ·show[(⟨R.k,v.map (qd τ),R.ver,R.fz,R.off⟩:Row)] = σ.rw.set 0 _;rw[hrw1];rfl
 ·have hrw0 : σ.rw=[]:=by rw[hnr]at hrw;exact wg hrw.symm
  rw[hb0,hrw0]at hp;cases hp
  have hfin:∀(p:Option Addr) (cap:Nat),Qq P Γ σ w (ρ.f 6) [.slice p 0 cap,.func (.func g) #[] #[]] (.tup [],none) := λ p cap=>by
   refine(none0 p cap).mono ?_;rintro e w' ⟨rfl,rfl⟩;exact⟨_,Γ,rfl,.refl _ _,hi,tup _,.refl _⟩
  rcases hy with rfl | ⟨f,rfl,hf2⟩
  ·have hu0:=qV hu0;subst hu0;exact hfin none 0
  ·cases hu0 with
   | sl _ _ _ a n cap b o us hn _ _ _ _ _ _ _ _ =>
     have hn:n=0:=hn;subst hn;exact hfin a cap
end Go.AmZ
namespace Go.Proofs.YtinbdcelmgfniaaGreatDoor
open Go Go.RowKit Go.GxZ Go.Sort Go.Proofs Go.Shelf Go.Lib
def zF(a:Nat->Nat->Bool)(n:Nat):List Nat:=(List.range n).filter λ i=>decide (i=0) || !a i (i-1)
theorem qwy{a:Nat->Nat->Bool}{n:Nat}(h:a n (n-1)=false):zF a (n+1)=zF a n++[n]:=by
 unfold zF;rw[List.range_succ,List.filter_append];simp[h]
theorem qob{a:Nat->Nat->Bool}{n:Nat}(b:0<n)(h:a n (n-1)=true):zF a (n+1)=zF a n:=by
 unfold zF;rw[List.range_succ,List.filter_append];have:¬ n=0:=by omega
 simp[h,this]
theorem qqr{b:Nat->Nat->Bool}{n:Nat}(h:∀i,1<=i->i<n->b i (i-1)=false):zF b n=List.range n:=by
 unfold zF;rw[List.filter_eq_self];intro i a;have a:=kP.1 a;by_cases c:i=0
 .simp[c]
 .rw[h i (by omega) a];simp
theorem qwA{α:Type}[Inhabited α](enc:α->List Value)(k:Nat)(g:∀x,(enc x).length=k)(d:Array α)(i:Nat)(x:α)(h:i<d.size):setMany (flatK enc k d) (i*k) (enc x)=flatK enc k (d.setIfInBounds i x):=by
 refine ext_get! (by simp) λ t a=>?_;rw[size_setMany,size_flatK]at a;rw[get_setMany _ _ _ _ (by rw[size_flatK];exact a),g,get_flatK _ _ _ _ a,get_flatK _ _ _ _ (by simpa using a)]
 have b:0<k:=by
  obtain f|f:=vb k
  .rw[f,Nat.mul_zero]at a;exact absurd a (wJ _)
  .exact f
 by_cases c:i*k<=t/\t<i*k+k
 .rw[if_pos c];have e:=(blk_iff k i t b).1 c;rw[e,getElem!_set_same d i x h];congr 1;have:=xZ t k;rw[e]at this;have l:k*i=i*k:=xE _ _;omega
 .rw[if_neg c,getElem!_set_other d i _ x λ j=>c ((blk_iff k i t b).2 j)]
theorem qCL{α : Type}[Inhabited α]{w:World}{enc : α -> List Value}{k blk:Nat}(hk:∀ x,(enc x).length=k)(m:Nat)(dk:Array α)(os:Array Obj)(hblk:blk<w.heap.size)(i:Nat)(x : α)(hi:i<dk.size) :
  (sortWorldK enc k w blk 0 m dk os).setCells blk (i*k) (enc x)=sortWorldK enc k w blk 0 m (dk.setIfInBounds i x) os:=by
 have hb:i*k+(enc x).length<=(flatK enc k dk).size:=by
  rw[hk,size_flatK];have:=wo k (show i+1<=dk.size from hi)
  rwa [kO]at this
 unfold sortWorldK;rw[setCells_grow os blk _ _ _ (by rw[size_putRowK];exact hblk)];congr 1;unfold putRowK;have:=setCells_putRow (Sort.ahead w m) blk 0 (enc x) (i*k) (flatK enc k dk) hb;rw[wB]at this;rw[this,qwA enc k hk dk i x hi]
variable {P:Program}
set_option maxHeartbeats 4000000 in
set_option maxRecDepth 1000000 in
theorem qAX(i:P.funcs[140]?=some Tryz.f140)(a:P.follows .mixedOrders=true)
  (t0:P.underlying 0=some (TypeDesc.tuple #[])) (y:∀w,(isAgg 0).run P w=.ok false w) (o:∀w,(Go.sizeOf 0).run P w=.ok 1 w) (s:∀w,(zeroValue 0).run P w=.ok (Value.tuple #[]) w)
  (u:P.underlying 3=some (TypeDesc.int IntKind.i64)) (x:∀w,(isAgg 3).run P w=.ok false w) (n:∀w,(Go.sizeOf 3).run P w=.ok 1 w) (r:∀w,(zeroValue 3).run P w=.ok (Value.int IntKind.i64 0) w)
  (t:P.underlying 4=some (TypeDesc.bool)) (v:∀w,(isAgg 4).run P w=.ok false w) (m:∀w,(Go.sizeOf 4).run P w=.ok 1 w) (q:∀w,(zeroValue 4).run P w=.ok (Value.bool false) w)
  (h:P.underlying 23=some (TypeDesc.slice 25)) (l:∀w,(isAgg 23).run P w=.ok false w) (c:∀w,(Go.sizeOf 23).run P w=.ok 1 w) (f:∀w,(zeroValue 23).run P w=.ok (Value.slice none 0 0) w)
  (g:P.underlying 29=some (TypeDesc.func #[25,25] #[4] false)) (k:∀w,(isAgg 29).run P w=.ok false w) (b:∀w,(Go.sizeOf 29).run P w=.ok 1 w) (d:∀w,(zeroValue 29).run P w=.ok (Value.nilFunc) w)
  (p:Option Addr) (cap:Nat) (j:Value) (w:World):
  Calls P 140 #[.slice p 0 cap,j] w λ e w'=>e=.returned (.slice p 0 cap)/\w'=w:=by
 go_enter i,Tryz.ntmps140
 go_wp2
 go_ret
 exact⟨rfl,rfl⟩
set_option maxHeartbeats 4000000 in
set_option maxRecDepth 1000000 in
theorem qAG(hF:P.funcs[140]?=some Tryz.f140)(mixed:P.follows .mixedOrders=true)
  (t0:P.underlying 0=some (TypeDesc.tuple #[])) (a0:∀ w,(isAgg 0).run P w = .ok false w) (z0:∀ w,(Go.sizeOf 0).run P w = .ok 1 w) (v0:∀ w,(zeroValue 0).run P w = .ok (Value.tuple #[]) w)
  (t3:P.underlying 3=some (TypeDesc.int IntKind.i64)) (a3:∀ w,(isAgg 3).run P w = .ok false w) (z3:∀ w,(Go.sizeOf 3).run P w = .ok 1 w) (v3:∀ w,(zeroValue 3).run P w = .ok (Value.int IntKind.i64 0) w)
  (t4:P.underlying 4=some (TypeDesc.bool)) (a4:∀ w,(isAgg 4).run P w = .ok false w) (z4:∀ w,(Go.sizeOf 4).run P w = .ok 1 w) (v4:∀ w,(zeroValue 4).run P w = .ok (Value.bool false) w)
  (t22:P.underlying 23=some (TypeDesc.slice 25)) (a22:∀ w,(isAgg 23).run P w = .ok false w) (z22:∀ w,(Go.sizeOf 23).run P w = .ok 1 w) (v22:∀ w,(zeroValue 23).run P w = .ok (Value.slice none 0 0) w)
  (t36:P.underlying 29=some (TypeDesc.func #[25,25] #[4] false)) (a36:∀ w,(isAgg 29).run P w = .ok false w) (z36:∀ w,(Go.sizeOf 29).run P w = .ok 1 w) (v36:∀ w,(zeroValue 29).run P w = .ok (Value.nilFunc) w)
  (k:Nat) (hk0:0<k) (aE:∀ w,(isAgg 25).run P w = .ok true w) (zE:∀ w,(Go.sizeOf 25).run P w = .ok k w) (zv:Value) (vE:∀ w,(zeroValue 25).run P w = .ok zv w) (hzk:zv.cells.size=k) (hz1:∀ n,∀ v∈(Builtin.zeroCells zv.cells n).toList,v.oneCell'=true)
  (w:World) (blk n cap:Nat) (et:TypeId) (vs:Array Value) (q:Nat) (hbk:w.heap[blk]?=some (.cells vs et (0,0))) (hcs:cap*k<=vs.size) (hnc:n<=cap) (hn:n<=100000) (h0n:0<n)
  (enc:Nat->List Value) (hk:∀ x,(enc x).length=k) (h1:∀ x,∀ v∈enc x,v.oneCell'=true) (hH:HoldsK enc k w blk 0 (Array.range n))
  (eg:∀ args w,(callFunc q args).run P w = .ok (.enter q args) w) (ef:Nat->Nat->Bool)
  (heq:∀(m:Nat) (os:Array Obj) (dk:Array Nat),dk.size=n->∀ x y,Calls P q #[.agg (enc x).toArray,.agg (enc y).toArray] (sortWorldK enc k w blk 0 m dk os) λ e w'=>e = .returned (.bool (ef x y))/\∃ q' os',w'=grow ((sortWorldK enc k w blk 0 m dk os).drewN q') os') :
  Calls P 140 #[.slice (some ⟨blk,0,none⟩) n cap,.func (.func q) #[] #[]] w λ e w'=>e = .returned (.slice (some ⟨blk,0,none⟩) (zF ef n).length cap) /\
   ∃(dk:Array Nat) (m:Nat) (os:Array Obj) (new:List Value),dk.size=n/\dk.toList.take (zF ef n).length=zF ef n/\(w'=sortWorldK enc k w blk 0 m dk os\/(new.take ((zF ef n).length*k)=(putCells id 0 (flatK enc k dk) vs).toList.take ((zF ef n).length*k)/\new.length=vs.size/\w'=(sortWorldK enc k w blk 0 m dk os).setRow blk new.toArray)):=by
 have u22:=run_underlying t22;have hblk:blk<w.heap.size:=(Array.getElem?_eq_some_iff.1 hbk).1;have hrs:(Array.range n).size=n:=vp;have HC:Aside _:=heq;have HST:Hid (w=sortWorldK enc k w blk 0 0 (Array.range n) #[]):=by show w=_;unfold sortWorldK;rw[grow_empty];exact(putRowK_self enc k w blk 0 _ hH).symm
 have HH:Hid (HoldsK enc k w blk 0 (Array.range n)):=hH;have HK:Hid (∀ x,(enc x).length=k):=hk;have H1:Hid (∀ x,∀ v∈enc x,v.oneCell'=true):=h1;have HBK:Hid (w.heap[blk]?=some (.cells vs et (0,0))):=hbk;have HVE:Aside _:=vE;have HZ1:Aside _:=hz1;have HZK:=Lib.hid hzk;have HCS:=Lib.hid hcs;clear heq hH hk h1 hbk vE hz1 hzk hcs;have hnz:(n:Int)<=100000:=by omega
 by_cases hn2:n<2
 ·have hn1:n=1:=by omega
  subst hn1;have hci:zF ef 1=[0]:=by unfold zF;simp
  have HCI:=Lib.hid hci;clear hci
  go_enter hF,Tryz.ntmps140
  go_wp2
  go_ret
  rw[HCI.out];exact⟨rfl,Array.range 1,0,#[],[],hrs,by simp,.inl HST.out⟩
 ·have hn2z:¬ ((n:Int)<2):=by omega
  go_enter hF,Tryz.ntmps140
  go_wp2
  go_loopg [5] n (λ g1 vi wr=>∃(i m:Nat) (os:Array Obj),vi = .int .i64 i/\1<=i/\i<=n/\n-i<=g1/\wr=sortWorldK enc k w blk 0 m (Array.range n) os/\Hid (∀ j,1<=j->j<i->ef j (j-1)=false))
  case atStart=>exact⟨1,0,#[],rfl,wa _,by omega,by omega,HST.out,λ j h1 h2=>by omega⟩
  case round =>
   obtain⟨i,m,os,rfl,hi1,hin,hg1,rfl,HE⟩:=hrel;by_cases hlt:i<n
   ·have hltz:(i:Int)<(n:Int):=by omega
    obtain⟨ip,rfl⟩:∃ ip,i=ip+1:=⟨i-1,by omega⟩
    have hwp:IntKind.i64.wrap (ip:Int)=(ip:Int):=by rw[IntKind.wrap_i64];omega
    have jz1:(ip:Int)<(n:Int):=by omega
    have p0:(0:Int)<=(ip:Int)+1:=by omega
    have e0:((ip:Int)+1).toNat=ip+1:=by omega
    have r1:(Array.range n)[ip+1]! = ip+1:=by rw[getElem!_pos _ _ (by rw[hrs];exact hlt)];simp
    have r0:(Array.range n)[ip]! = ip:=by rw[getElem!_pos _ _ (by rw[hrs];omega)];simp
    have hcls:∀ n' os',grow ((sortWorldK enc k w blk 0 m (Array.range n) os).drewN n') os'=sortWorldK enc k w blk 0 (m+n') (Array.range n) (os++os') := λ n' os'=>sortWorldK_grown_c enc k w blk 0 m n' _ os os';have hHc:∀ n' os',HoldsK enc k (grow ((sortWorldK enc k w blk 0 m (Array.range n) os).drewN n') os') blk 0 (Array.range n) := λ n' os'=>by rw[hcls];exact holdsK_sortWorldK_c enc k w blk 0 _ _ _ _ HH.out hblk rfl
    have lj:∀ n' os',Sem.run P (loadCellsFrom ⟨blk,(ip+1)*k,none⟩ 0 k #[]) (grow ((sortWorldK enc k w blk 0 m (Array.range n) os).drewN n') os') = .ok (enc (ip+1)).toArray (grow ((sortWorldK enc k w blk 0 m (Array.range n) os).drewN n') os') := λ n' os'=>by
     have:=HoldsK.cells (hHc n' os') HK.out (i:=ip+1) (by rw[hrs];exact hlt);rw[r1,wB]at this;exact run_loadCellsFrom_list P _ _ _ k (HK.out _) this
    have lp:∀ n' os',Sem.run P (loadCellsFrom ⟨blk,ip*k,none⟩ 0 k #[]) (grow ((sortWorldK enc k w blk 0 m (Array.range n) os).drewN n') os') = .ok (enc ip).toArray (grow ((sortWorldK enc k w blk 0 m (Array.range n) os).drewN n') os') := λ n' os'=>by
     have:=HoldsK.cells (hHc n' os') HK.out (i:=ip) (by rw[hrs];omega);rw[r0,wB]at this;exact run_loadCellsFrom_list P _ _ _ k (HK.out _) this
    have hcg:∀ n' os',Calls P q #[.agg (enc (ip+1)).toArray,.agg (enc ip).toArray] (grow ((sortWorldK enc k w blk 0 m (Array.range n) os).drewN n') os') λ e w'=>e = .returned (.bool (ef (ip+1) ip))/\∃ q os'',w'=grow ((grow ((sortWorldK enc k w blk 0 m (Array.range n) os).drewN n') os').drewN q) os'' := λ n' os'=>by
     rw[hcls];exact HC.out _ _ _ hrs (ip+1) ip
    have CLS:Hid _:=hcls;clear hcls hHc r0 r1;generalize hwq:sortWorldK enc k w blk 0 m (Array.range n) os=wq at lj lp hcg CLS |-
    cases hev:ef (ip+1) ip with
    | false =>
      rw[hev]at hcg
      go_wp2_with fail
      go_quiet_grown (first | (go_at_fn q;refine Calls.grown_of (hcg _ _)))
      go_wp2
      go_roundg (n-(ip+2))
      case measure=>omega
      case rel =>
       refine⟨ip+2,_,_,by go_num,by omega,by omega,by omega,CLS.out nq osq,(show Hid _ from λ j h1 h2=>?_)⟩;by_cases hj:j=ip+1
       ·rw[hj];exact hev
       ·exact HE.out j h1 (by omega)
    | true =>
      rw[hev]at hcg
      go_wp2_with fail
      go_quiet_grown (first | (go_at_fn q;refine Calls.grown_of (hcg _ _)))
      have hcap1:¬ (cap=ip+1):=by omega
      have hcap2:(ip:Int)+1<=(cap:Int):=by omega
      go_wp2
      go_loopg [5,7] n (λ g2 v5 v7 wr2=>∃(b kk m2:Nat) (dk:Array Nat) (os2:Array Obj),v5 = .int .i64 kk/\v7 = .int .i64 b/\1<=b/\ip+1+b<=n/\n-b<=g2/\kk<=ip+b/\dk.size=n/\wr2=sortWorldK enc k w blk 0 m2 dk os2/\Hid (dk.toList.take kk=zF ef (ip+1+b))/\Hid (kk=(zF ef (ip+1+b)).length)/\Hid (∀ j,ip+b<=j->j<n->dk[j]! = j))
      case atStart =>
       have e1:zF ef (ip+1)=List.range (ip+1):=qqr λ j h1 h2=>HE.out j h1 h2;have e2:zF ef (ip+1+1)=List.range (ip+1):=by rw[qob (by omega) (by simpa using hev),e1]
       refine⟨1,ip+1,_,Array.range n,_,by go_num,rfl,wa _,by omega,by omega,by omega,hrs,CLS.out nq osq,?_,?_,?_⟩
       ·show _=_;rw[e2,Array.toList_range,List.take_range,wW (by omega)]
       ·show _=_;rw[e2,xO]
       ·intro j _ h2;rw[getElem!_pos _ _ (by rw[hrs];exact h2)];simp
      case round =>
       obtain⟨b,kk,m2,dk,os2,rfl,rfl,hb1,hbn,hg2,hkk,hdk,rfl,HT,HL,HD⟩:=hrel;by_cases hlt2:ip+1+b<n
       ·obtain⟨bp,rfl⟩:∃ bp,b=bp+1:=⟨b-1,by omega⟩
        have hltz2:(bp:Int)+1<((n-(ip+1):Nat):Int):=by omega
        have hltz3:(bp:Int)<((n-(ip+1):Nat):Int):=by omega
        have hwp2:IntKind.i64.wrap (bp:Int)=(bp:Int):=by rw[IntKind.wrap_i64];omega
        have p2:(0:Int)<=(bp:Int)+1:=by omega
        have e2:((bp:Int)+1).toNat=bp+1:=by omega
        have hkn:(kk:Int)<(n:Int):=by omega
        obtain⟨ax,hax⟩:∃ ax,ax=ip+1+(bp+1):=⟨_,rfl⟩
        have hac:(ip+1)*k+(bp+1)*k=ax*k:=by rw[hax,wN (ip+1)]
        have hap:(ip+1)*k+bp*k=(ax-1)*k:=by rw[<- wN];congr 1;omega
        have r1:dk[ax]! = ax:=HD.out ax (by omega) (by omega);have r0:dk[ax-1]! = ax-1:=HD.out (ax-1) (by omega) (by omega);have hcls:∀ n' os',grow ((sortWorldK enc k w blk 0 m2 dk os2).drewN n') os'=sortWorldK enc k w blk 0 (m2+n') dk (os2++os') := λ n' os'=>sortWorldK_grown_c enc k w blk 0 m2 n' dk os2 os';have hHc:∀ n' os',HoldsK enc k (grow ((sortWorldK enc k w blk 0 m2 dk os2).drewN n') os') blk 0 dk := λ n' os'=>by rw[hcls];exact holdsK_sortWorldK_c enc k w blk 0 (Array.range n) dk _ _ HH.out hblk (by rw[hdk,hrs])
        have lj:∀ n' os',Sem.run P (loadCellsFrom ⟨blk,(ip+1)*k+(bp+1)*k,none⟩ 0 k #[]) (grow ((sortWorldK enc k w blk 0 m2 dk os2).drewN n') os') = .ok (enc ax).toArray (grow ((sortWorldK enc k w blk 0 m2 dk os2).drewN n') os') := λ n' os'=>by
         have:=HoldsK.cells (hHc n' os') HK.out (i:=ax) (by rw[hdk];omega);rw[r1,wB,<- hac]at this;exact run_loadCellsFrom_list P _ _ _ k (HK.out _) this
        have lp:∀ n' os',Sem.run P (loadCellsFrom ⟨blk,(ip+1)*k+bp*k,none⟩ 0 k #[]) (grow ((sortWorldK enc k w blk 0 m2 dk os2).drewN n') os') = .ok (enc (ax-1)).toArray (grow ((sortWorldK enc k w blk 0 m2 dk os2).drewN n') os') := λ n' os'=>by
         have:=HoldsK.cells (hHc n' os') HK.out (i:=ax-1) (by rw[hdk];omega);rw[r0,wB,<- hap]at this;exact run_loadCellsFrom_list P _ _ _ k (HK.out _) this
        have hcg:∀ n' os',Calls P q #[.agg (enc ax).toArray,.agg (enc (ax-1)).toArray] (grow ((sortWorldK enc k w blk 0 m2 dk os2).drewN n') os') λ e w'=>e = .returned (.bool (ef ax (ax-1)))/\∃ q os'',w'=grow ((grow ((sortWorldK enc k w blk 0 m2 dk os2).drewN n') os').drewN q) os'' := λ n' os'=>by
         rw[hcls];exact HC.out _ _ _ hdk ax (ax-1)
        have CLS2:Hid _:=hcls;have HHC:Hid _:=hHc;have HAC:=Lib.hid hac;clear hcls hHc hap hac;generalize hwq2:sortWorldK enc k w blk 0 m2 dk os2=wq2 at lj lp hcg CLS2 HHC |-
        have hlA:(enc ax).length=k:=HK.out _;have hA1:∀ v∈enc ax,v.oneCell'=true:=H1.out _;obtain⟨cA,hcA⟩:∃ c,c=enc ax:=⟨_,rfl⟩
        obtain⟨cP,hcP⟩:∃ c,c=enc (ax-1):=⟨_,rfl⟩
        rw[<- hcA]at lj hcg hlA hA1;rw[<- hcP]at lp hcg;have HCA:=Lib.hid hcA;clear hcA hcP;have hT:=HT.out;have hL:=HL.out;rw[show ip+1+(bp+1)=ax from hax.symm]at hT hL;have HAX:=Lib.hid hax;have hax1:0<ax:=by omega
        have hax3:ax<n:=by omega
        clear hax r0 r1;cases hev2:ef ax (ax-1)with
        | true =>
          have hcd:zF ef (ax+1)=zF ef ax:=qob hax1 hev2;have HT2:Hid (dk.toList.take kk=zF ef (ax+1)):=by show _=_;rw[hcd];exact hT
          have HL2:Hid (kk=(zF ef (ax+1)).length):=by show _=_;rw[hcd];exact hL
          clear hT hL hcd;rw[hev2]at hcg
          go_wp2_with fail
          go_quiet_grown (first | (go_at_fn q;refine Calls.grown_of (hcg _ _)))
          go_wp2
          go_roundg (n-(bp+2))
          case measure=>omega
          case rel =>
           have hax2:ip+1+(bp+2)=ax+1:=by have:=HAX.out;omega
           refine⟨bp+2,kk,_,dk,_,rfl,by go_num,by omega,by omega,by omega,by omega,hdk,CLS2.out nq osq,?_,?_,(show Hid _ from λ j h1 h2=>HD.out j (by omega) h2)⟩
           ·show _=_;rw[hax2];exact HT2.out
           ·show _=_;rw[hax2];exact HL2.out
        | false =>
          have hcd:zF ef (ax+1)=zF ef ax++[ax]:=qwy hev2;have hdl:kk<dk.toList.length:=by rw[wL,hdk];omega
          have HT2:Hid ((dk.setIfInBounds kk ax).toList.take (kk+1)=zF ef (ax+1)):=by
           show _=_;rw[hcd,<- hT,xm,kH,xX (wa _),List.getElem?_set_self hdl];rfl
          have HL2:Hid (kk+1=(zF ef (ax+1)).length):=by show _=_;rw[hcd,wd,<- hL];rfl
          clear hT hL hcd;rw[hev2]at hcg
          go_wp2_with fail
          go_quiet_grown (first | (go_at_fn q;refine Calls.grown_of (hcg _ _)))
          have hw2:grow (wq2.drewN nq) osq=sortWorldK enc k w blk 0 (m2+nq) dk (os2++osq):=CLS2.out nq osq;have lj2:=lj nq osq;have hHd:=HHC.out nq osq;clear lj lp hcg;generalize grow (wq2.drewN nq) osq=wq3 at hw2 hHd lj2 |-
          have hbd:kk*k+cA.length<=(flatK enc k dk).size:=by
           rw[hlA,size_flatK];have:=wo k (show kk+1<=dk.size by omega)
           rwa [kO]at this
          have s1:Sem.run P (storeCells ⟨blk,kk*k,none⟩ cA 0) wq3 = .ok () (wq3.setCells blk (kk*k) cA):=by
           have:=stores_of_holds P hHd (kk*k) cA hbd hA1
           rwa [wB]at this
          have HW3:Hid (wq3.setCells blk (kk*k) cA=sortWorldK enc k w blk 0 (m2+nq) (dk.setIfInBounds kk ax) (os2++osq)):=by
           show _=_;rw[hw2,HCA.out];exact qCL HK.out (m2+nq) dk (os2++osq) hblk kk ax (by omega)
          clear hw2 hHd hbd
          go_wp2
          go_roundg (n-(bp+2))
          case measure=>omega
          case rel =>
           have hax2:ip+1+(bp+2)=ax+1:=by have:=HAX.out;omega
           refine⟨bp+2,kk+1,_,dk.setIfInBounds kk ax,_,by go_num,by go_num,by omega,by omega,by omega,by omega,by simpa using hdk,HW3.out,?_,?_,(show Hid _ from λ j h1 h2=>?_)⟩
           ·show _=_;rw[hax2];exact HT2.out
           ·show _=_;rw[hax2];exact HL2.out
           ·rw[getElem!_set_other _ _ _ _ (by omega)];exact HD.out j (by omega) h2
       ·obtain rfl:n=ip+1+b:=by omega
        have hW:=(Go.AmZ.sort_blks HBK.out enc k m2 dk os2).hb;have hpsz:(putCells id 0 (flatK enc k dk) vs).size=vs.size:=by unfold putCells;rw[vO]
        have hzl:(Builtin.zeroCells zv.cells (ip+1+b-kk)).toList.length=(ip+1+b-kk)*k:=by rw[wL,size_zeroCells,HZK.out]
        have hsum:kk*k+(ip+1+b-kk)*k=(ip+1+b)*k:=by rw[<- wN];congr 1;omega
        have hle:(ip+1+b)*k<=vs.size:=wD (wo _ hnc) HCS.out;obtain⟨new,hnew⟩:∃ new,new=(putCells id 0 (flatK enc k dk) vs).toList.take (kk*k)++(Builtin.zeroCells zv.cells (ip+1+b-kk)).toList++(putCells id 0 (flatK enc k dk) vs).toList.drop (kk*k+(Builtin.zeroCells zv.cells (ip+1+b-kk)).toList.length):=⟨_,rfl⟩
        have hcl:∀ ty,(Builtin.clear_ #[23] ty #[.slice (some ⟨blk,kk*k,none⟩) (ip+1+b-kk) (cap-kk)]).run P (sortWorldK enc k w blk 0 m2 dk os2) = .ok (.tuple #[]) ((sortWorldK enc k w blk 0 m2 dk os2).setRow blk new.toArray) := λ ty=>by
         rw[hnew];exact qqL _ 23 25 ty zv t22 HVE.out blk (kk*k) (ip+1+b-kk) (cap-kk) (by omega) _ et hW (by rw[hpsz,HZK.out];omega) (HZ1.out _)
        have HN1:Hid (new.take (kk*k)=(putCells id 0 (flatK enc k dk) vs).toList.take (kk*k)):=by
         show _=_;rw[hnew,wn,kN (by rw[wk,wL,hpsz];omega),xz,Nat.min_self]
        have HN2:Hid (new.length=vs.size):=by
         show _=_;rw[hnew];rw[wL]at hzl;simp only[wd,wk,wO,wL,hpsz,hzl];omega
        have hkc:¬ (cap=kk):=by omega
        have hkc2:(kk:Int)<=(cap:Int):=by omega
        have hkn:(kk:Int)<=((ip+1+b:Nat):Int):=by omega
        clear hW hpsz hzl hsum hle hnew;have HW:Hid _:=(⟨dk,m2,os2,rfl⟩:∃(d:Array Nat) (m:Nat) (os:Array Obj),sortWorldK enc k w blk 0 m2 dk os2=sortWorldK enc k w blk 0 m d os)
        generalize hwq2:sortWorldK enc k w blk 0 m2 dk os2=wq2 at hcl |-
        have HWQ:=Lib.hid hwq2;clear hwq2 HW;have HDK:=Lib.hid hdk
        go_wp2_with (simp only[hcl])
        go_ret
        have hL:=HL.out;rw[<- hL];exact⟨rfl,dk,m2,os2,new,HDK.out,HT.out,.inr ⟨HN1.out,HN2.out,by rw[HWQ.out]⟩⟩
   ·obtain rfl:i=n:=by omega
    have hci:zF ef i=List.range i:=qqr λ j h1 h2=>HE.out j h1 h2;have HCI:=Lib.hid hci;clear hci
    go_wp2
    go_ret
    rw[HCI.out,xO];exact⟨rfl,Array.range i,_,_,[],hrs,by simp,.inl rfl⟩
end Go.Proofs.YtinbdcelmgfniaaGreatDoor
namespace Go.AmZ
open Go Go.RowKit Go.GxZ Go.Sort Go.Proofs Go.Shelf Go.Proofs.YtinbdcelmgfniaaGreatDoor
def qow{α:Type}(F:α->α->Option Bool)(l:List α)(i j:Nat):Bool:=match l[i%l.length]?,l[j%l.length]? with
 |some x,some y=>(F x y).getD false
 |_,_=>false
def qzv{α:Type}(F:α->α->Option Bool):List α->Option (List α)
 |[]=>some []
 |x::l=>cond (Nat.ble (x::l).length 100000&&qfL F (x::l)) (some (pick (x::l) (zF (qow F (x::l)) (x::l).length))) none
def qyY{α:Type}(F:α->α->Option Bool)(l:List α):Option (Unit×List α×Unit):=match qzv F l with
 |some a=>some ((),a,())
 |none=>none
theorem qzH{α:Type}{F:α->α->Option Bool}{l:List α}{r:Unit×List α×Unit}(h:qyY F l=some r):∃a,qzv F l=some a/\r=((),a,()):=by
 unfold qyY at h;split at h
 .cases h;exact⟨_,‹_›,rfl⟩
 .cases h
theorem qte{P:Program}{f:FuncId}{g:qmH}(e:qdx P f)(h:∀a,g.fn a=none):qI P f (mgP g):=by
 refine⟨e,λ Γ σ w d c r j i b=>?_⟩;unfold mgP at b;split at b
 .rw[h]at b;cases b
 .cases b
theorem qAg{b:Nat->Nat->Bool}{n:Nat}:∀i∈zF b n,i<n:=λ i a=>kP.1 (kT.1 a).1
theorem qmQ{enc:Nat->List Value}{k:Nat}(a:∀x,(enc x).length=k):∀(l:List Nat) (i j:Nat),j<k->(l.flatMap enc)[i*k+j]?=(l[i]?).bind λ x=>(enc x)[j]?
 |[],i,j,_=>by simp
 |x::l,0,j,b=>by
   rw[xg,kr,wB,List.getElem?_append_left (by rw[a];exact b)];rfl
 |x::l,i+1,j,b=>by
   rw[xg,List.getElem?_append_right (by rw[a,kO];omega),a];have:(i+1)*k+j-k=i*k+j:=by rw[kO];omega
   rw[this];exact qmQ a l i j b
theorem qsP{enc:Nat->List Value}{k:Nat}(a:∀x,(enc x).length=k):∀l:List Nat,(l.flatMap enc).length=l.length*k
 |[]=>by simp
 |x::l=>by rw[xg,wd,a,qsP a l,wA,kO,wan]
theorem qpq{b:Type}{f:List AV->Option b}{es:List (List AV)}{l:List b}(h:qQ f es=some l):∀{a:List Nat},(∀i∈a,i<l.length)->qQ f (pick es a)=some (pick l a)
 |[],_=>rfl
 |i::a,d=>by
   have e:=d i (wm ..);have n:=qN h
   have e1:pick es (i::a)=es[i]'(by omega)::pick es a:=by
    unfold pick;rw[xY,List.getElem?_eq_getElem (by omega)]
   have m:pick l (i::a)=l[i]::pick l a:=by
    unfold pick;rw[xY,List.getElem?_eq_getElem e]
   let⟨v,c,k⟩:=QR h (List.getElem?_eq_getElem (show i<es.length by omega));rw[List.getElem?_eq_getElem e]at c;cases c;rw[e1,m];exact yB.2 ⟨_,_,k,qpq h λ j g=>d j (we _ g),rfl⟩
theorem qBP(n:Nat):∀v∈(Builtin.zeroCells (Value.cells (.agg #[.int .i64 0,.string ⟨#[]⟩,.int .i64 0,.slice none 0 0])) n).toList,v.oneCell'=true:=by
 intro v a;unfold Builtin.zeroCells at a;rw[Array.mem_toList_iff]at a;obtain⟨i,_,rfl⟩:=Array.mem_map.1 a;have c:(Value.cells (.agg #[.int .i64 0,.string ⟨#[]⟩,.int .i64 0,.slice none 0 0])).size=4:=rfl;rw[c];have b:i%4<4:=xS _ (by decide);generalize i%4=r at b
 match r,b with
 |0,_|1,_|2,_|3,_=>rfl
set_option maxHeartbeats 1000000 in
theorem qww{g:FuncId}{F:T->T->Option Bool}(hF:Fn2 Go.Proofs.Tryz.prog g .term (λ b:Bool => .bool b) F){fn:List T->Option (Unit × List T × Unit)}(hfn:∀ l r,fn l=some r->∃ l',qzv F l=some l'/\r=((),l',())) :
  qI Go.Proofs.Tryz.prog 140 (sgP ⟨[.row .term,.clo g 0],[.one (.row .term)],λ x=>fn x.1⟩):=by
 have c0 := λ p cap fv w=>qAX (P:=Go.Proofs.Tryz.prog) Go.Proofs.Tryz.func140 (by kernel_rfl) Go.Proofs.Tryz.underlying0 Go.Proofs.Tryz.isAgg0 Go.Proofs.Tryz.sizeOf0 Go.Proofs.Tryz.zeroValue0 Go.Proofs.Tryz.underlying3 Go.Proofs.Tryz.isAgg3 Go.Proofs.Tryz.sizeOf3 Go.Proofs.Tryz.zeroValue3 Go.Proofs.Tryz.underlying4 Go.Proofs.Tryz.isAgg4 Go.Proofs.Tryz.sizeOf4 Go.Proofs.Tryz.zeroValue4 Go.Proofs.Tryz.underlying23 Go.Proofs.Tryz.isAgg23 Go.Proofs.Tryz.sizeOf23 Go.Proofs.Tryz.zeroValue23 Go.Proofs.Tryz.underlying29 Go.Proofs.Tryz.isAgg29 Go.Proofs.Tryz.sizeOf29 Go.Proofs.Tryz.zeroValue29 p cap fv w
 have cP := λ w blk n cap et vs h1 h2 h3 h4 h5 enc h6 h7 h8 ef h9=>qAG (P:=Go.Proofs.Tryz.prog) Go.Proofs.Tryz.func140 (by kernel_rfl) Go.Proofs.Tryz.underlying0 Go.Proofs.Tryz.isAgg0 Go.Proofs.Tryz.sizeOf0 Go.Proofs.Tryz.zeroValue0 Go.Proofs.Tryz.underlying3 Go.Proofs.Tryz.isAgg3 Go.Proofs.Tryz.sizeOf3 Go.Proofs.Tryz.zeroValue3 Go.Proofs.Tryz.underlying4 Go.Proofs.Tryz.isAgg4 Go.Proofs.Tryz.sizeOf4 Go.Proofs.Tryz.zeroValue4 Go.Proofs.Tryz.underlying23 Go.Proofs.Tryz.isAgg23 Go.Proofs.Tryz.sizeOf23 Go.Proofs.Tryz.zeroValue23 Go.Proofs.Tryz.underlying29 Go.Proofs.Tryz.isAgg29 Go.Proofs.Tryz.sizeOf29 Go.Proofs.Tryz.zeroValue29
  4 (by decide) Go.Proofs.Tryz.isAgg25 Go.Proofs.Tryz.sizeOf25 _ Go.Proofs.Tryz.zeroValue25 rfl qBP w blk n cap et vs g h1 h2 h3 h4 h5 enc h6 h7 h8 (λ args w=>qeQ hF.1 args w) ef h9
 have hag:∀ v:T,yl .term v = .agg (qd .term v) := λ _=>rfl;refine⟨jZ Go.Proofs.Tryz.func140 (by kernel_rfl),λ Γ σ w args vals r hi hr hp=>?_⟩;unfold sgP at hp;split at hp<;>try cases hp
 rename_i x hx;split at hp<;>cases hp;rename_i v0 hv0;obtain⟨l,_⟩:=x;obtain⟨l',hl',rfl⟩:=hfn _ _ hv0;obtain⟨y0,ys0,nr,rfl,hy0,hx1⟩:=qpQ hx;obtain⟨ys1,rfl,hx2⟩:=qxn (g:=g) (r:=[]) hx1;obtain⟨rfl,hbx,hrw⟩:=qhf hx2;clear hx hx1 hx2 hv0 hfn;obtain⟨u0,r0,rfl,hu0,hr⟩:=hr.uncons;obtain⟨u1,r1,rfl,hu1,hr⟩:=hr.uncons;have:=hr.nil_inv;subst this
 have hu1:u1 = .func (.func g) #[] #[]:=by
  cases hu1 with
  | fn _ _ us hn _=>obtain rfl:=wg hn;rfl
 subst hu1;have hb0 : σ.bx=[]:=wg hbx.symm
 have nil0:∀(p:Option Addr),l'=[]->Qq Go.Proofs.Tryz.prog Γ σ w 140 [.slice p 0 0,.func (.func g) #[] #[]] (zm (Q8 [.one (.row .term)] σ.rw.length (l',())),some ⟨[],σ.rw.map Qa++Qi [.one (.row .term)] (l',()),List.range σ.bx.length,List.range σ.rw.length⟩) := λ p hl=>by
  subst hl;refine(c0 p 0 _ w).mono ?_;rintro e w' ⟨rfl,rfl⟩;obtain⟨Γ2,z1,z2,z3,z4⟩:=qEB (a := .term) hi (.refl _ _) hi hb0 p;exact⟨_,Γ2,rfl,z1,z2,z3,z4⟩
 rcases qd0 hy0 with⟨hnr,R,rfl,hR,hRk,hRf,hRd⟩ | ⟨hnr,hl0,hy⟩
 ·have H:=hi.row 0 R hR;have hcl:R.c.length=l.length:=qN hRd;have hlk:∀ e∈R.c,e.length=Ty.size .term := λ e he=>(H.len e he).trans hRk;obtain⟨p,cap,rfl,hcap,hrm⟩:=qrH hi hR hRk hRf hu0;rcases hrm with h0 | ⟨rfl,hz,vs,et,hvs,hvsz,hfit,hca,hxl,h1⟩
  ·have hl0:l=[]:=wg (by omega);have hl2:l'=[]:=by rw[hl0]at hl';cases hl';rfl
   have hrc:R.c.length=0:=by omega
   rw[hrc,h0];exact nil0 p hl2
  ·by_cases hl0:l=[]
   ·have hl2:l'=[]:=by rw[hl0]at hl';cases hl';rfl
    have hrc:R.c.length=0:=by rw[hcl,hl0];rfl
    rw[hrc];subst hl2;refine qgq (a := .term) hi hb0 hR hRk hRf.1 hRf.2 hz (l:=[]) (c:=[]) (xs:=[]) (n:=0) rfl rfl (by intro e he;cases he) (by intro e he;cases he) (λ i e j x h=>by cases h) ?_;refine(c0 _ cap _ w).mono ?_;rintro e w' ⟨rfl,rfl⟩;exact⟨Γ.cur 0,cap,vs,et,rfl,hvs,wh _,hfit,by rw[kr];rfl,.inl ⟨rfl,hvsz⟩,rfl,rfl,rfl,wa _,wa _,λ _ _ _=>rfl⟩
   ·have hlpos:0<l.length:=xI.2 hl0;obtain⟨n,hn⟩:∃ n,n=l.length:=⟨_,rfl⟩
    have hnc:R.c.length=n:=hcl.trans hn.symm;rw[hnc]at hca hxl h1 hcap |-
    have hns:n*Ty.size .term<=vs.size:=wD (wo _ hcap) hfit
    have hv':Nat.ble l.length 100000=true/\qfL F l=true/\l'=pick l (zF (qow F l) l.length):=by
     cases l with
     | nil=>exact absurd rfl hl0
     | cons y l =>
       replace hl':cond _ _ _=some l':=hl'
       cases hb:(Nat.ble (y::l).length 100000&&qfL F (y::l))with
       | false =>
         replace hl':cond (Nat.ble (y::l).length 100000&&qfL F (y::l)) _ _=some l':=hl'
         rw[hb]at hl';cases hl'
       | true =>
         replace hl':cond (Nat.ble (y::l).length 100000&&qfL F (y::l)) _ _=some l':=hl'
         have hb':=hb;rw[wb]at hb';rw[hb]at hl';cases hl';exact⟨hb'.1,hb'.2,rfl⟩
    obtain⟨v1,v2,v4⟩:=hv';have v1:l.length<=100000:=kg v1;have hER:∀{q:Nat} {y:T},l[q]?=some y->RepL Γ (qd .term y) (qav vs (Ty.size .term) q)/\∀ u∈qav vs (Ty.size .term) q,u.oneCell'=true := λ hq=>qu1 hnc hlk hRd hca hns hq;have hlast:∀ i,i % n<n := λ i=>xS _ (by omega);obtain⟨enc,henc⟩:∃ enc:Nat->List Value,enc = λ i=>qav vs (Ty.size .term) (i % n):=⟨_,rfl⟩
    have hek:∀ i,(enc i).length=Ty.size .term := λ i=>by rw[henc];exact qop (hlast i) hns
    have hlget:∀ i,∃ y,l[i % n]?=some y := λ i=>⟨_,List.getElem?_eq_getElem (by rw[<- hn];exact hlast i)⟩
    have he1:∀ i,∀ u∈enc i,u.oneCell'=true := λ i u hu=>by
     rw[henc]at hu;obtain⟨y,hy⟩:=hlget i;exact(hER hy).2 u hu
    have hrange:(Array.range n).size=n:=vp;have hvsb:w.heap[Γ.cur 0]?=some (.cells vs et (0,0)):=hvs;have hmem0:∀ off,Γ.mem (Γ.cur 0) off=none := λ off=>H.un hz off (by rw[hRf.1,kr,H.off hRf.2];exact wh _)
    have hH:HoldsK enc (Ty.size .term) w (Γ.cur 0) 0 (Array.range n):=by
     intro j hj;rw[size_flatK,hrange]at hj;obtain⟨q1,q2,q3⟩:=qkZ j (Ty.size .term) n hj;have hjs:j<vs.size:=wy hj hns;constructor
     ·rw[get_flatK _ _ _ _ (by rw[hrange];exact hj)];have e1:(Array.range n)[j / (Ty.size .term)]! = j / (Ty.size .term):=by rw[getElem!_pos _ _ (by rw[hrange];exact q1)];simp
      rw[e1,henc];show _=some ((qav vs (Ty.size .term) (j / (Ty.size .term) % n))[j % (Ty.size .term)]!);rw[xH q1];have e2:(qav vs (Ty.size .term) (j / (Ty.size .term)))[j % (Ty.size .term)]?=some vs[j]:=by rw[qj9 q3,q2];exact Array.getElem?_eq_getElem hjs
      rw[wB,Blk.cell hvs,List.getElem!_eq_getElem?_getD,e2,Array.getElem?_eq_getElem hjs];rfl
     ·exact Blk.free hvs _
    have heq:∀(m:Nat) (os:Array Obj) (dk:Array Nat),dk.size=n->∀ x y,Calls Go.Proofs.Tryz.prog g #[.agg (enc x).toArray,.agg (enc y).toArray] (sortWorldK enc (Ty.size .term) w (Γ.cur 0) 0 m dk os) λ e w'=>e = .returned (.bool (qow F l x y))/\∃ q' os',w'=grow ((sortWorldK enc (Ty.size .term) w (Γ.cur 0) 0 m dk os).drewN q') os':=by
     intro m os dk hdk x y;have B:=sort_blks hvsb enc (Ty.size .term) m dk os;obtain⟨W,hW⟩:∃ W,W=sortWorldK enc (Ty.size .term) w (Γ.cur 0) 0 m dk os:=⟨_,rfl⟩
     rw[<- hW]at B |-
     have hiW:Inv (bare Γ) emp W:=hi.bare λ b o u e=>by
      have hne:b ≠ Γ.cur 0 := λ hb=>by rw[hb,hmem0]at e;cases e
      have hc:=(hi.mem b o u e).1;have hblt:=hi.mem_lt e;rw[show W.cell? _=w.cell? _ from World.cell?_of_block (B.other b hblt hne)];exact hc
     have rep:∀(i:Nat) (y:T),l[i % n]?=some y->Rep (bare Γ) (yl .term y) (.agg (enc i).toArray) := λ i y hy=>by
      obtain⟨q1,q2⟩:=hER hy;rw[hag];have:enc i=qav vs (Ty.size .term) (i % n):=by rw[henc]
      rw[this];refine .agg _ _ q1.len q2 λ j z u a b=>(q1.rep j z u a b).bare (qW .term y z (wc a))
     obtain⟨lx,hx⟩:=hlget x;obtain⟨ly,hy⟩:=hlget y;have hsome:=ww.1 (ww.1 v2 lx (wc hx)) ly (wc hy);obtain⟨c,hc⟩:=vX.1 hsome
     have hcf:qow F l x y=c:=by
      unfold qow;rw[<- hn,hx,hy];simp only;rw[hc];rfl
     rw[hcf];have hcall:=hF.2 hiW (rep x lx hx) (rep y ly hy) hc;refine Calls.mono hcall ?_;rintro e w' ⟨rfl,hid⟩;exact⟨rfl,hid.grow⟩
    have hcall:=cP w (Γ.cur 0) n cap et vs hvsb hfit hcap (by omega) (by omega) enc hek he1 hH (qow F l) heq;obtain⟨ix,hix⟩:∃ ix,ix=zF (qow F l) n:=⟨_,rfl⟩
    rw[<- hix]at hcall;have hixlt:∀ i∈ix,i<n := λ i hi=>by rw[hix]at hi;exact qAg i hi
    have hixl:∀ i∈ix,i<l.length := λ i hi=>by rw[<- hn];exact hixlt i hi
    have hixc:∀ i∈ix,i<R.c.length := λ i hi=>by rw[hnc];exact hixlt i hi
    have hl'e:l'=pick l ix:=by rw[v4,<- hn,hix]
    have hl'n:l'.length=ix.length:=by rw[hl'e,qCI hixl]
    have pm:∀ e∈pick R.c ix,e∈R.c := λ e he=>by
     unfold pick at he;obtain⟨i,_,h⟩:=kV.1 he;exact wc h
    refine qgq (a := .term) hi hb0 hR hRk hRf.1 hRf.2 hz (l:=l') (c:=pick R.c ix) (xs:=ix.flatMap enc) (n:=ix.length) hl'n.symm (by rw[hl'e];exact qpq hRd hixl) (λ e he=>hlk e (pm e he)) (λ e he=>H.plain e (pm e he)) (λ i e j x h1 h2=>?_) ?_
    ·rw[qpf hixc]at h1;cases hp:ix[i]? with
     | none=>rw[hp]at h1;cases h1
     | some p =>
       rw[hp]at h1;have h1:R.c[p]?=some e:=h1;have hj:j<Ty.size .term:=by have:=getElem?_lt h2;rwa [hlk e (wc h1)]at this
       obtain⟨u,u1,u2⟩:=hca p e j x h1 h2;refine⟨u,?_,u2⟩;have hpn:p<n:=hixlt p (wc hp);rw[qmQ hek _ _ _ hj,hp];show(enc p)[j]?=some u;rw[henc];show(qav vs (Ty.size .term) (p % n))[j]?=some u;rw[xH hpn,qj9 hj,<- Array.getElem?_toList];rw[List.getElem?_take]at u1;split at u1
       ·exact u1
       ·cases u1
    ·refine Calls.mono hcall ?_;rintro e w' ⟨rfl,dk,m,os,new,hdk,htk,hw⟩;have B:=sort_blks hvsb enc (Ty.size .term) m dk os;have hpsz:(putCells id 0 (flatK enc (Ty.size .term) dk) vs).size=vs.size:=by unfold putCells;rw[vO]
     have hixn:ix.length<=n:=by
      have:=congrArg List.length htk;rw[wk]at this;have h2:dk.toList.length=n:=by rw[wL,hdk]
      omega
     have hlen:ix.length*Ty.size .term<=n*Ty.size .term:=wo _ hixn
     have hxs:(putCells id 0 (flatK enc (Ty.size .term) dk) vs).toList.take (ix.length*Ty.size .term)=ix.flatMap enc:=by
      apply kZ;intro t;by_cases ht:t<ix.length*Ty.size .term
      ·obtain⟨q1,q2,q3⟩:=qkZ t (Ty.size .term) ix.length ht;rw[List.getElem?_take,if_pos ht,Array.getElem?_toList];unfold putCells;rw[Array.getElem?_mapIdx,Array.getElem?_eq_getElem (by omega),kJ,if_pos ⟨wh _,by rw[size_flatK,hdk];omega⟩,Nat.sub_zero,id,get_flatK _ _ _ _ (by rw[hdk];omega)]
       conv=>rhs;rw[<- q2]
       rw[qmQ hek _ _ _ q3]
       have hd:dk[t / Ty.size .term]?=ix[t / Ty.size .term]?:=by
        rw[<- htk,List.getElem?_take,if_pos q1,Array.getElem?_toList]
       have hdl:t / Ty.size .term<dk.size:=by rw[hdk];omega
       rw[<- hd,Array.getElem?_eq_getElem hdl,getElem!_pos dk _ hdl];show _=(enc dk[t / Ty.size .term])[t % Ty.size .term]?;rw[List.getElem!_eq_getElem?_getD,List.getElem?_eq_getElem (by rw[hek];exact q3)];rfl
      ·rw[List.getElem?_eq_none (by rw[wk];omega),List.getElem?_eq_none (by rw[qsP hek];omega)]
     rcases hw with rfl | ⟨n1,n2,rfl⟩
     ·exact⟨Γ.cur 0,cap,_,et,rfl,B.hb,by omega,by rw[hpsz];exact hfit,hxs,.inl ⟨rfl,hpsz.trans hvsz⟩,B.os,B.tape,B.output,B.size,B.drawn,B.other⟩
     ·have hs:=setRow_heap _ (Γ.cur 0) _ new.toArray et (0,0) B.hb;refine⟨Γ.cur 0,cap,new.toArray,et,rfl,hs,by omega,by rw[wU,n2];exact hfit,?_,.inl ⟨rfl,by rw[wU,n2];exact hvsz⟩,B.os,B.tape,B.output,?_,B.drawn,λ b hb hne=>(setRow_other _ (Γ.cur 0) b _ hne).trans (B.other b hb hne)⟩
      ·rw[<- hxs];exact n1
      ·show w.heap.size<=_;simp only[World.setRow,Array.size_modify];exact B.size
 ·have hl2:l'=[]:=by
    have hl0:l=[]:=hl0;rw[hl0]at hl';cases hl';rfl
  rcases hy with rfl | ⟨f,rfl,hf2⟩
  ·have hu0:=qV hu0;subst hu0;exact nil0 none hl2
  ·cases hu0 with
   | sl _ _ _ a n cap b o us hn _ hf _ _ _ _ _ _ =>
     have hn:n=0:=hn;have hcap:cap=n:=hf (by omega);rw[hcap,hn];exact nil0 a hl2
end Go.AmZ
namespace Go.AmZ
open Go Go.RowKit Go.GxZ
theorem qha{P:Program}(w:World)(zb:Nat)(t ty e:TypeId)(i:TypeInfo)(z:Value)(size bytes:Nat)(F:P.underlying t=some (.slice e))(H:P.info? e=some i)(I:i.zero=some z)
  (d:i.size=size) (A:i.bytes=bytes) (s:z.cells.size=size) (x:0<size)
  (v:Value) (n:Nat) (xs:List Value) (b:w.ownsRow zb e size v n xs)
  (a:Addr) (m c:Nat) (qe:List Value) (G:qe.length=m*size) (f:∀j u,qe[j]?=some u->w.cell? (a.add j)=some u) (J:∀u∈qe,u.oneCell'=true)
  (B:n+m<=maxLen) (h:(n+m)*bytes<=140737488355328) (l:zb<=w.heap.size):
  ∃p w',(Builtin.append_ #[t,t] ty #[v,.slice (some a) m c]).run P w=.ok p w'/\w'.ownsRow zb e size p (n+m) (xs++qe)/\w.grownBy w' v.ownBlock/\
   (p.ownBlock=v.ownBlock\/∀k,p.ownBlock=some k->w.heap.size<=k):=by
 obtain⟨rfl,rfl⟩|⟨g,cap,Q,rfl,O,R,K,N,M,E⟩:=id b.2
 .have D:xs=[]:=kC.1 (by simpa using b.1);subst D;let⟨p,w',C,r,o,_⟩:=run_append_own (P:=P) w w.heap.size t ty e i z size bytes F H I d A s x (.slice none 0 0) 0 [] (World.ownsRow_nil w _ e size) a m c qe G f J B h (wa _);exact⟨p,w',C,r.mono l,o,.inr λ k y=>(r.lt k y).1⟩
 .by_cases q:n+m<=cap
  .let⟨w',C,r,o⟩:=run_append_own_spare (P:=P) w zb t ty e i size F H d g n cap xs b a m c qe G f J q;exact⟨_,w',C,r,o,.inl rfl⟩
  .let⟨p,w',C,r,o⟩:=run_append_arg_grows (P:=P) w t ty e i z size bytes F H I d A s x ⟨g,0,none⟩ n cap xs b.1 (λ j u L=>b.cells rfl j u L) a m c qe G f (by omega) B h;exact⟨p,w',C,r.mono l,⟨o.os,o.tape,o.output,o.size,λ k y _=>o.block k y (by simp)⟩,.inr λ k y=>(r.lt k y).1⟩
structure qb5 (Γ:Gh) (b:Nat):Prop where
 own:¬ jQ Γ b
 mem:∀o,Γ.mem b o=none
theorem qb5.ext{Γ Γ':Gh}{w w':World}{b:Nat}(h:qb5 Γ b)(c:Ext Γ w Γ' w')(f:b<w.heap.size):qb5 Γ' b/\w'.heap[b]?=w.heap[b]?:=by
 refine⟨⟨λ d=>(c.own b d).elim h.own λ h=>by omega,λ o=>?_⟩,c.block b f h.own⟩;cases e:Γ'.mem b o with
 |none=>rfl
 |some u=>
   obtain a|a|a:=c.memg b o u e
   .rw[h.mem]at a;cases a
   .exact absurd a h.own
   .omega
theorem qb5.new{Γ:Gh}{σ:St}{w:World}(a:Inv Γ σ w){b:Nat}(f:w.heap.size<=b):qb5 Γ b:=by
 refine⟨λ h=>?_,λ o=>?_⟩
 .obtain⟨i,c,rfl⟩|⟨r,c,e,rfl⟩:=h
  .have:=a.box_lt c;omega
  .have:=a.cur_lt c e;omega
 .cases d:Γ.mem b o with
  |none=>rfl
  |some u=>have:=a.mem_lt d;omega
theorem Inv.off{Γ:Gh}{σ:St}{w w':World}(h:Inv Γ σ w)(j:∀k ob,¬ qb5 Γ k->w.heap[k]?=some ob->w'.heap[k]?=some ob):Inv Γ σ w' where
 nb:=h.nb
 nr:=h.nr
 mem:=λ b o u e=>by
  let⟨l,p⟩:=h.mem b o u e;have c:=Array.getElem?_eq_getElem (qnq l);refine⟨?_,p⟩;rw[World.cell?_of_block (w:=w) (a:=⟨b,o,none⟩) ((j b _ (λ f=>by rw[f.mem]at e;cases e) c).trans c.symm)];exact l
 box:=λ i cs e=>by
  have g:i<Γ.nb:=by rw[h.nb];exact getElem?_lt e
  exact(h.box i cs e).lift g (.refl _) λ o c=>j _ _ (λ f=>f.own (.inl ⟨i,g,rfl⟩)) c
 inj:=h.inj
 boxmem:=h.boxmem
 row:=λ r R e=>by
  have d:r<Γ.nr:=by rw[h.nr];exact getElem?_lt e
  exact(h.row r R e).lift d (.refl _) rfl (λ m ob c=>j _ _ (λ f=>f.own (.inr ⟨r,d,m,rfl⟩)) c) (λ _ _ n=>n) λ _ i s q=>by omega
 apart:=h.apart
theorem qBB{d Γ:Gh}{σ:St}{w0 w w':World}{e:Option Nat}(a:Ext d w0 Γ w)(m:Inv Γ σ w)(c:w.grownBy w' e)(f:∀b,e=some b->qb5 Γ b/\w0.heap.size<=b)(n:w.drawn<=w'.drawn):Ext d w0 Γ w'/\Inv Γ σ w':=by
 refine⟨⟨a.le,c.os.trans a.os,c.tape.trans a.tape,c.output.trans a.output,wD a.size c.size,λ b i l=>(c.block b (wy i a.size) λ h=>?_).trans (a.block b i l),a.own,a.memg,wD a.drawn n⟩,m.off λ k ob j g=>?_⟩
 .have:=(f b h.symm).2;omega
 .rw[c.block k (Array.getElem?_eq_some_iff.1 g).1 λ h=>j (f k h.symm).1];exact g
theorem qb5.grown{Γ:Gh}{w w':World}{a:Option Nat}{b:Nat}(d:w.grownBy w' a)(e:b<w.heap.size)(c:some b≠a):w'.heap[b]?=w.heap[b]?:=d.block b e c
theorem qBI(w:World)(g k:Nat)(u:Value):w.grownBy (w.setCell ⟨g,k,none⟩ u) (some g):=
 ⟨rfl,rfl,rfl,by simp,λ b _ a=>Below.heap_setCell _ _ _ _ λ h=>a (by rw[h])⟩
theorem qgU{w w':World}{B e s g n cap:Nat}{cs:List Value}(h:w.ownsRow B e s (.slice (some ⟨g,0,none⟩) n cap) n cs)(d:w'.heap[g]?=w.heap[g]?):w'.ownsRow B e s (.slice (some ⟨g,0,none⟩) n cap) n cs:=by
 obtain⟨a,_⟩|⟨f,c,b,a,r⟩:=h.2
 .cases a
 .cases a;exact⟨h.1,.inr ⟨g,cap,b,rfl,r.1,by rw[d];exact r.2.1,r.2.2⟩⟩
theorem qaV{w:World}{B e s g n cap:Nat}{cs:List Value}(h:w.ownsRow B e s (.slice (some ⟨g,0,none⟩) n cap) n cs):B<=g/\g<w.heap.size:=h.lt g rfl
theorem qq7{w:World}{B e s g n p cap:Nat}{cs:List Value}(h:w.ownsRow B e s (.slice (some ⟨g,0,none⟩) n cap) n cs)(d:p<=n):w.ownsRow B e s (.slice (some ⟨g,0,none⟩) p cap) p (cs.take (p*s)):=by
 have a:p*s<=n*s:=wo _ d;obtain⟨b,_⟩|⟨q,f,c,b,o,m,l,k,j,i⟩:=h.2
 .cases b
 .cases b;refine⟨by rw[wk,h.1];omega,.inr ⟨g,cap,c,rfl,o,m,wD d l,k,j,?_⟩⟩;rw[<-i,xz,wW a]
theorem qEw{w:World}{B e s g n cap:Nat}{cs:List Value}(h:w.ownsRow B e s (.slice (some ⟨g,0,none⟩) n cap) n cs):n<=cap/\cap<=maxLen:=by
 obtain⟨a,_⟩|⟨m,b,f,a,l,k,d,c,j,i⟩:=h.2
 .cases a
 .cases a;exact⟨d,c⟩
abbrev RD:Ty:=.pair .str (.pair (.int .i64) .bool)
def qfi(Γ:Gh)(σ:St)(cs:List Value)(i:Nat)(t:T)(n:Int)(r:Nat):Prop:=
 ∃R a,σ.rw[r]?=some R/\R.k=4/\R.fz=0/\R.off=false/\R.c=t.kids.map (qd .term)/\Rep Γ (.rs r 0 t.kids.length R.ver false) a/\
  cs[i*5]?=some (.int .i64 t.kind)/\cs[i*5+1]?=some (.string ⟨t.name.toArray⟩)/\cs[i*5+2]?=some (.int .i64 t.sort)/\cs[i*5+3]?=some a/\cs[i*5+4]?=some (.int .i64 n)
structure Stk (B N:Nat) (Γ:Gh) (σ:St) (w:World) (st:List (T×Int)) (ids:List Nat) (g cap:Nat) (cs:List Value):Prop where
 len:ids.length=st.length
 nd:ids.Nodup
 priv:qb5 Γ g
 own:w.ownsRow B N 5 (.slice (some ⟨g,0,none⟩) st.length cap) st.length cs
 node:∀i t n r,st[i]?=some (t,n)->ids[i]?=some r->qfi Γ σ cs i t n r
section
variable {B N:Nat}{Γ Γ':Gh}{σ σ':St}{w w':World}{st:List (T×Int)}{ids:List Nat}{g cap:Nat}{cs:List Value}
theorem qfi.later{i:Nat}{t:T}{n:Int}{r:Nat}(h:qfi Γ σ cs i t n r)(c:Le Γ Γ')(b:∀R,σ.rw[r]?=some R->σ'.rw[r]?=some R):qfi Γ' σ' cs i t n r:=by
 let⟨R,a,l,k,j,g,f,e,d⟩:=h;exact⟨R,a,b R l,k,j,g,f,e.mono c,d⟩
theorem qfi.cells{i:Nat}{t:T}{n:Int}{r:Nat}{cs':List Value}(h:qfi Γ σ cs i t n r)(a:∀j,j<5->cs'[i*5+j]?=cs[i*5+j]?):qfi Γ σ cs' i t n r:=by
 let⟨R,b,k,g,f,e,d,c,q,p,o,m,l⟩:=h;exact⟨R,b,k,g,f,e,d,c,(a 0 (by decide)).trans q,(a 1 (by decide)).trans p,(a 2 (by decide)).trans o,(a 3 (by decide)).trans m,(a 4 (by decide)).trans l⟩
theorem Stk.later(h:Stk B N Γ σ w st ids g cap cs)(a:Ext Γ w Γ' w')(e:∀r,r∈ids->∀R,σ.rw[r]?=some R->σ'.rw[r]?=some R):Stk B N Γ' σ' w' st ids g cap cs:=by
 let⟨d,c⟩:=h.priv.ext a (qaV h.own).2;exact⟨h.len,h.nd,d,qgU h.own c,λ i t n r f b=>(h.node i t n r f b).later a.le (e r (wc b))⟩
theorem Stk.grown{a:Option Nat}(h:Stk B N Γ σ w st ids g cap cs)(c:w.grownBy w' a)(b:some g≠a):Stk B N Γ σ w' st ids g cap cs:=
 ⟨h.len,h.nd,h.priv,qgU h.own (c.block g (qaV h.own).2 b),h.node⟩
theorem Stk.cell(h:Stk B N Γ σ w st ids g cap cs){k:Nat}{u:Value}(a:cs[k]?=some u):w.cell? ⟨g,k,none⟩=some u/\w.frozen? ⟨g,k,none⟩=false:=by
 refine⟨?_,h.own.frozenAt k⟩;rw[h.own.cellAt k (by rw[<-h.own.1];exact getElem?_lt a)];exact a
theorem Stk.at(h:Stk B N Γ σ w st ids g cap cs){i:Nat}{t:T}{n:Int}(b:st[i]?=some (t,n)):∃r,ids[i]?=some r/\qfi Γ σ cs i t n r:=by
 have a:i<ids.length:=by rw[h.len];exact getElem?_lt b
 exact⟨_,List.getElem?_eq_getElem a,h.node i t n _ b (List.getElem?_eq_getElem a)⟩
theorem Stk.left(h:Stk B N Γ σ w st ids g cap cs){i:Nat}{t:T}{n:Int}(l:st[i]?=some (t,n))(a:Int):Stk B N Γ σ (w.setCell ⟨g,i*5+4,none⟩ (.int .i64 a)) (st.set i (t,a)) ids g cap (cs.set (i*5+4) (.int .i64 a)):=by
 have s:=getElem?_lt l;have d:i*5+4<cs.length:=by rw[h.own.1];omega
 refine⟨by rw[wH];exact h.len,h.nd,h.priv,by rw[wH];exact(h.own.stored _ _).1,λ j o m r c f=>?_⟩;rw[List.getElem?_set]at c;split at c
 .rename_i e;subst e;cases c;let⟨R,p,A,z,y,x,v,u,F,E,D,C,G⟩:=h.node i t n r l f;have b:∀q,q≠i*5+4->(cs.set (i*5+4) (.int .i64 a))[q]?=cs[q]?:=λ q k=>by rw[List.getElem?_set_ne (λ e=>k e.symm)]
  refine⟨R,p,A,z,y,x,v,u,(b _ (by omega)).trans F,(b _ (by omega)).trans E,(b _ (by omega)).trans D,(b _ (by omega)).trans C,?_⟩;rw[List.getElem?_set_self d]
 .rename_i e;refine(h.node j o m r c f).cells λ q k=>?_;rw[List.getElem?_set_ne (by omega)]
theorem Stk.push(h:Stk B N Γ σ w st ids g cap cs){s:Value}{nk sk:Int}{nm:List UInt8}{lf:Int}{o:Value}{r:Nat}{R:Row}(F:σ.rw[r]?=some R)(K:R.k=4)(J:R.fz=0)(I:R.off=false)(H:R.c=[])(G:Rep Γ (.rs r 0 0 R.ver false) o)(A:r ∉ ids)
  (l:w'.ownsRow B N 5 s (st.length+1) (cs++[.int .i64 nk,.string ⟨nm.toArray⟩,.int .i64 sk,o,.int .i64 lf])) (z:s.ownBlock=some g\/∀k,s.ownBlock=some k->qb5 Γ k):
  ∃j d,s=.slice (some ⟨j,0,none⟩) ((st.length+1:Nat)) d/\Stk B N Γ σ w' (st++[(.mk nk nm sk [],lf)]) (ids++[r]) j d (cs++[.int .i64 nk,.string ⟨nm.toArray⟩,.int .i64 sk,o,.int .i64 lf]):=by
 have D:=h.own.1
 obtain⟨j,d,v⟩:∃j d,s=.slice (some ⟨j,0,none⟩) ((st.length+1:Nat)) d:=by
  obtain⟨_,O⟩|⟨j,d,L,e,_⟩:=l.2
  .omega
  .exact⟨j,d,e⟩
 subst v;refine⟨j,d,rfl,⟨by simp[h.len],?_,?_,by simpa using l,λ i t n y p f=>?_⟩⟩
 .rw[List.nodup_append];exact⟨h.nd,by simp,λ a E b x=>by simp at x;subst x;exact λ e=>A (e▸E)⟩
 .obtain e|e:=z
  .cases e;exact h.priv
  .exact e j rfl
 .rw[List.getElem?_append]at p f;rw[h.len]at f;split at p
  .rename_i m;rw[if_pos m]at f;refine(h.node i t n y p f).cells λ q M=>?_;rw[List.getElem?_append_left (by omega)]
  .rename_i m;rw[if_neg m]at f
   have C:i=st.length:=by
    have:=getElem?_lt p;simp at this;omega
   subst C;simp at p f;obtain⟨rfl,rfl⟩:=p;subst f
   have u:∀q,(cs++[.int .i64 nk,.string ⟨nm.toArray⟩,.int .i64 sk,o,.int .i64 lf])[st.length*5+q]?=([.int .i64 nk,.string ⟨nm.toArray⟩,.int .i64 sk,o,.int .i64 lf]:List Value)[q]?:=λ q=>by
    rw[List.getElem?_append_right (by omega)];congr 1;omega
   exact⟨R,o,F,K,J,I,H,G,u 0,u 1,u 2,u 3,u 4⟩
theorem Stk.shrink(h:Stk B N Γ σ w st ids g cap cs){p:Nat}(e:p<=st.length):Stk B N Γ σ w (st.take p) (ids.take p) g cap (cs.take (p*5)):=by
 have a:(st.take p).length=p:=by rw[wk];omega
 refine⟨by rw[a,wk,h.len];omega,h.nd.sublist (List.take_sublist _ _),h.priv,by rw[a];exact qq7 h.own e,λ i t n r b c=>?_⟩;rw[List.getElem?_take]at b c;split at b<;>try cases b
 rename_i d;rw[if_pos d]at c;refine(h.node i t n r b c).cells λ j f=>?_;rw[List.getElem?_take,if_pos (by omega)]
theorem Stk.kid(h:Stk B N Γ σ w st ids g cap cs)(v:Ext Γ w Γ' w'){q:Nat}(Z:q<st.length){t:T}{n:Int}(J:st[q]?=some (t,n)){r:Nat}(y:ids[q]?=some r)(x:T)
  (m:∀i s,i<q->ids[i]?=some s->∀R,σ.rw[s]?=some R->σ'.rw[s]?=some R) {R:Row} (M:σ'.rw[r]?=some R) (U:R.k=4) (S:R.fz=0) (Q:R.off=false) (P:R.c=(t.kids++[x]).map (qd .term)) {f:Value} (O:Rep Γ' (.rs r 0 (t.kids.length+1) R.ver false) f):
  Stk B N Γ' σ' (w'.setCell ⟨g,q*5+3,none⟩ f) (st.take q++[(.mk t.kind t.name t.sort (t.kids++[x]),n)]) (ids.take (q+1)) g cap ((cs.set (q*5+3) f).take ((q+1)*5)):=by
 let⟨D,C⟩:=h.priv.ext v (qaV h.own).2
 have l:(st.take q++[(T.mk t.kind t.name t.sort (t.kids++[x]),n)]).length=q+1:=by
  rw[wd,wk];simp;omega
 have G:=qq7 ((qgU h.own C).stored (q*5+3) f).1 (p:=q+1) (by omega);have L:=h.own.1;refine⟨by rw[l,wk,h.len];omega,h.nd.sublist (List.take_sublist _ _),D,by rw[l];exact G,λ i A E s b a=>?_⟩;rw[List.getElem?_take]at a;split at a<;>try cases a
 rename_i H
 have u:∀j,j<5->((cs.set (q*5+3) f).take ((q+1)*5))[i*5+j]?=(cs.set (q*5+3) f)[i*5+j]?:=λ j z=>by
  rw[List.getElem?_take,if_pos (by omega)]
 have d:∀k,k≠q*5+3->(cs.set (q*5+3) f)[k]?=cs[k]?:=λ k I=>by rw[List.getElem?_set_ne (λ e=>I e.symm)]
 rw[List.getElem?_append,wk,wW (by omega)]at b;split at b
 .rename_i o;rw[List.getElem?_take,if_pos o]at b;exact((h.node i A E s b a).later v.le (m i s o a)).cells λ j z=>(u j z).trans (d _ (by omega))
 .rename_i o;have K:i=q:=by omega
  subst K;simp at b;obtain⟨rfl,rfl⟩:=b;rw[y]at a;cases a;let⟨R0,F,b1,b2,b3,b4,b5,b6,Y,X,W,a3,V⟩:=h.node i t n r J y;refine⟨R,f,M,U,S,Q,P,(by show Rep Γ' (.rs r 0 (t.kids++[x]).length R.ver false) f;rw[wd];exact O),(u 0 (by decide)).trans ((d _ (by omega)).trans Y),(u 1 (by decide)).trans ((d _ (by omega)).trans X),(u 2 (by decide)).trans ((d _ (by omega)).trans W),(u 3 (by decide)).trans ?_,(u 4 (by decide)).trans ((d _ (by omega)).trans V)⟩;rw[List.getElem?_set_self (by omega)]
end
end Go.AmZ
namespace Go.AmZ
open Go Go.RowKit Go.GxZ
structure RS (Γ0:Gh) (w0:World) (rd:Val RD) (Γ:Gh) (σ:St) (w:World):Prop where
 x:Ext Γ0 w0 Γ w
 i:Inv Γ σ w
 bx:σ.bx=[qd RD rd]
abbrev qkp(F:Val RD->Option ((Val RD×Unit)×((Int×List UInt8×Int×List T×Int×Unit)×Unit))):qiY:=⟨[.box [.val RD]],[.agg [.val (.int .i64),.val .str,.val (.int .i64),.row .term,.val (.int .i64)]],λ x=>F x.1⟩
section
variable {P:Program}{Γ0 Γ:Gh}{σ:St}{w0 w:World}{rd:Val RD}
theorem RS.drew(h:RS Γ0 w0 rd Γ σ w):RS Γ0 w0 rd Γ σ {w with drawn:=w.drawn+1}:=⟨h.x.trans (Ext.drew _ _),h.i.drew,h.bx⟩
theorem RS.box(h:RS Γ0 w0 rd Γ σ w):w.cell? ⟨Γ.β 0,0,none⟩=some (.string ⟨rd.1.toArray⟩)/\w.cell? ⟨Γ.β 0,1,none⟩=some (.int .i64 rd.2.1)/\w.cell? ⟨Γ.β 0,2,none⟩=some (.bool rd.2.2):=by
 let⟨vs,e,g,d,j⟩:=h.i.box 0 (qd RD rd) (by rw[h.bx];rfl);have f:=jY g;have c:∀(x:Value) (u:Value),Rep Γ (.v x) u->u=x:=λ x u h=>by cases h;rfl
 refine⟨?_,?_,?_⟩<;>rw[f]
 .let⟨u,a,b⟩:=d.get (i:=0) (x:=.v (.string ⟨rd.1.toArray⟩)) rfl;rw[c _ _ b]at a;simpa using a
 .let⟨u,a,b⟩:=d.get (i:=1) (x:=.v (.int .i64 rd.2.1)) rfl;rw[c _ _ b]at a;simpa using a
 .let⟨u,a,b⟩:=d.get (i:=2) (x:=.v (.bool rd.2.2)) rfl;rw[c _ _ b]at a;simpa using a
theorem RS.grown{w':World}{c:Option Nat}(h:RS Γ0 w0 rd Γ σ w)(e:w.grownBy w' c)(d:∀b,c=some b->qb5 Γ b/\w0.heap.size<=b)(f:w.drawn<=w'.drawn):RS Γ0 w0 rd Γ σ w':=
 let⟨a,b⟩:=qBB h.x h.i e d f;⟨a,b,h.bx⟩
theorem RS.set(h:RS Γ0 w0 rd Γ σ w){g:Nat}(a:qb5 Γ g)(c:w0.heap.size<=g)(k:Nat)(u:Value):RS Γ0 w0 rd Γ σ (w.setCell ⟨g,k,none⟩ u):=
 h.grown (qBI w g k u) (λ b e=>by cases e;exact⟨a,c⟩) (wa _)
theorem RS.put4(h:RS Γ0 w0 rd Γ σ w){b:Nat}(a:qb5 Γ b)(c:w0.heap.size<=b)(g f e d:Value):RS Γ0 w0 rd Γ σ ((((w.setCell ⟨b,0,none⟩ g).setCell ⟨b,1,none⟩ f).setCell ⟨b,2,none⟩ e).setCell ⟨b,3,none⟩ d):=
 (((h.set a c 0 g).set a c 1 f).set a c 2 e).set a c 3 d
theorem qut:Rep Γ (.sl 4 [] 1) (.slice none 0 0):=.sl _ _ _ _ 0 0 0 0 (λ _ _=>undef) rfl (λ _=>wa _) (λ _=>rfl) (λ e h=>by cases h) (λ e h=>by cases h) (by decide) (.inl rfl) (λ i e j x h=>by cases h) (λ i e j x h=>by cases h)
theorem RS.alloc(h:RS Γ0 w0 rd Γ σ w)(o:Obj):RS Γ0 w0 rd Γ σ (w.alloc o):=
 h.grown (World.grownBy_alloc w o none) (λ b e=>by cases e) (wa _)
theorem qqb{f:FuncId}{F:Val RD->Option ((Val RD×Unit)×((Int×List UInt8×Int×List T×Int×Unit)×Unit))}(C:qI P f (sgP (qkp F))){b:Val RD}{nk sk lf:Int}{nm:List UInt8}{ks:List T}(A:F rd=some ((b,()),((nk,nm,sk,ks,lf,()),())))
  (h:RS Γ0 w0 rd Γ σ w):Calls P f #[.pointer (some ⟨Γ.β 0,0,none⟩)] w λ e w'=>∃Γ' σ' o,e=.returned (.agg #[.int .i64 nk,.string ⟨nm.toArray⟩,.int .i64 sk,o,.int .i64 lf])/\Ext Γ w Γ' w'/\RS Γ0 w0 b Γ' σ' w'/\σ'.rw=σ.rw++[⟨4,ks.map (qd .term),0,0,false⟩]/\Rep Γ' (.rs σ.rw.length 0 ks.length 0 false) o:=by
 have l:Γ.nb=1:=by rw[h.i.nb,h.bx];rfl
 have g:jH σ [.ptr 0 0] (sgP (qkp F))=some (.agg [.v (.int .i64 nk),.v (.string ⟨nm.toArray⟩),.v (.int .i64 sk),.rs σ.rw.length 0 ks.length 0 false,.v (.int .i64 lf)],some ⟨[qd RD b],σ.rw++[⟨4,ks.map (qd .term),0,0,false⟩],0::σ.wr,σ.wrr⟩):=by
  let⟨I,rw,c,a⟩:= σ;have m:I=[qd RD rd]:=h.bx;subst m;have B:qw RD ((qd RD rd).take (Ty.size RD))=some rd:=ji RD rd
  have m:qfB ⟨[qd RD rd],[],[],[]⟩ [.val RD] 0 0 (.ptr 0 0)=some ((rd,()),0):=by
   show(match qw RD ((qd RD rd).take (Ty.size RD))with
    |some v=>match qcY ⟨[qd RD rd],[],[],[]⟩ [] 0 ((qd RD rd).drop (Ty.size RD))with
      |some (vs,n)=>some ((v,vs),n)
      |none=>none
    |none=>none)=_
   rw[B];rfl
  have s:dS ⟨[qd RD rd],[],[],[]⟩ (qkp F).args 0 0 [.ptr 0 0]=some (rd,()):=by
   show(match qfB ⟨[qd RD rd],[],[],[]⟩ [.val RD] 0 0 (.ptr 0 0)with
    |some (v,k)=>match dS ⟨[qd RD rd],[],[],[]⟩ [] 1 k []with
      |some vs=>some (toB [.val RD] v,vs)
      |none=>none
    |none=>none)=_
   rw[m];rfl
  have z:sgP (qkp F) ⟨[qd RD rd],[],[],[]⟩ [.ptr 0 0]=some (.agg [.v (.int .i64 nk),.v (.string ⟨nm.toArray⟩),.v (.int .i64 sk),.rs 0 0 ks.length 0 false,.v (.int .i64 lf)],some ⟨[qd RD b],[⟨4,ks.map (qd .term),0,0,false⟩],[0],[]⟩):=by
   unfold sgP;rw[s];dsimp only;rw[A];rfl
  have q:qdq ⟨[qd RD rd],rw,c,a⟩ [.ptr 0 0]=true:=rfl;have H:qB ⟨[qd RD rd],rw,c,a⟩ (ju ⟨[qd RD rd],rw,c,a⟩ [.ptr 0 0]) (JY ⟨[qd RD rd],rw,c,a⟩ [.ptr 0 0])=⟨[qd RD rd],[],[],[]⟩:=rfl;unfold jH;rw[q]
  show(match sgP (qkp F) (qB ⟨[qd RD rd],rw,c,a⟩ (ju ⟨[qd RD rd],rw,c,a⟩ [.ptr 0 0]) (JY ⟨[qd RD rd],rw,c,a⟩ [.ptr 0 0])) [.ptr 0 0]with
   |some r=>some (qdm ⟨[qd RD rd],rw,c,a⟩ [0] [] r)
   |none=>none)=_
  rw[H,z];rfl
 refine(qkT (λ Γ σ j r y d t=>C.2 Γ σ w j _ r y d t) h.i (waB (Rep.ptr 0 0 (by rw[l];exact vZ)) .nil) g).mono ?_;rintro e w' ⟨v,Γ',rfl,p,E,D,O⟩;cases D with
 |agg _ us u G d=>
 match us,u with
 |[u0,u1,u2,u3,u4],_=>
 have N:=d 0 _ _ rfl rfl;have M:=d 1 _ _ rfl rfl;have L:=d 2 _ _ rfl rfl;have K:=d 3 _ _ rfl rfl;have J:=d 4 _ _ rfl rfl;cases N;cases M;cases L;cases J;exact⟨Γ',_,u3,rfl,p,⟨h.x.trans p,E,rfl⟩,rfl,K⟩
theorem qum(p:Inv Γ σ w){cs:List Value}{i:Nat}{t:T}{n:Int}{r:Nat}(h:qfi Γ σ cs i t n r):
  ∃a σ1 d,σ1.bx=σ.bx/\(∀b,b≠r->σ1.rw[b]?=σ.rw[b]?)/\Ext Γ w a w/\Inv a σ1 w/\cs[i*5+3]?=some d/\Rep a (.sl 4 (t.kids.map (qd .term)) 1) d/\d.oneCell'=true:=by
 let⟨R,d,j,B,E,D,s,q,I,H,G,C,F⟩:=h;let⟨m,l,v,u⟩:=qpL p j σ.wrr;refine⟨_,{σ with rw:=σ.rw.modify r qgX,wrr:=σ.wrr},d,rfl,λ b z=>?_,qgE l w,v,C,?_,q.one rfl⟩
 .show(σ.rw.modify r qgX)[b]?=_;rw[List.getElem?_modify];cases σ.rw[b]? with
  |none=>rfl
  |some x=>exact congrArg some (if_neg (λ e=>z (Eq.symm e)))
 .have:=qhB p l.le (y:=.rs r 0 t.kids.length R.ver false) (λ b f R' g=>by
    simp only[rsC,wF]at f;subst f;rw[j]at g;cases g;exact u) q
  have o:R.c.length=t.kids.length:=by rw[s,wz]
  have A:qJ σ.rw (.rs r 0 t.kids.length R.ver false)=.sl 4 (t.kids.map (qd .term)) 1:=by
   simp only[qJ,j]
   have:qgu R R.k 0 t.kids.length R.ver=some (t.kids.map (qd .term)):=by
    unfold qgu;rw[if_pos ⟨rfl,rfl,by omega⟩,ke,kW (by omega),s]
   rw[this,B]
  rw[A]at this;exact this
theorem qed{t:T}{a:Value}(h:Rep Γ (.sl 4 (t.kids.map (qd .term)) 1) a):RepL Γ (qd .term t) [.int .i64 t.kind,.string ⟨t.name.toArray⟩,.int .i64 t.sort,a]:=by
 have b:qd .term t=[.v (.int .i64 t.kind),.v (.string ⟨t.name.toArray⟩),.v (.int .i64 t.sort),.sl 4 (t.kids.map (qd .term)) 1]:=by
  let⟨k,n,s,l⟩:=t;show QO _=_;rw[QO,qgW];rfl
 rw[b];exact waB (.v _ rfl) (waB (.v _ rfl) (waB (.v _ rfl) (waB h .nil)))
theorem qjZ{k s:Int}{b:ByteArray}{a:Value}(h:a.oneCell'=true):∀u∈([.int .i64 k,.string b,.int .i64 s,a]:List Value),u.oneCell'=true:=by
 intro u c;simp only[wG,xb,or_false]at c;obtain rfl|rfl|rfl|rfl:=c<;>first|rfl|exact h
theorem qCU(n:Inv Γ σ w){t:T}{b:Value}(h:Rep Γ (.sl 4 (t.kids.map (qd .term)) 1) b)(e:TypeId):
  ∃Γ',Ext Γ w Γ' (w.alloc (.cells #[.int .i64 t.kind,.string ⟨t.name.toArray⟩,.int .i64 t.sort,b] e))/\Inv Γ' σ (w.alloc (.cells #[.int .i64 t.kind,.string ⟨t.name.toArray⟩,.int .i64 t.sort,b] e))/\Rep Γ' (.sl (Ty.size .term) [qd .term t] 2) (.slice (some ⟨w.heap.size,0,none⟩) 1 1):=by
 let⟨Γ',g,l,k⟩:=qsR n (vs:=[.int .i64 t.kind,.string ⟨t.name.toArray⟩,.int .i64 t.sort,b]) (qjZ (h.one rfl)) e;refine⟨Γ',g,l,.sl _ _ _ _ 1 1 w.heap.size 0 (λ _ j=>([.int .i64 t.kind,.string ⟨t.name.toArray⟩,.int .i64 t.sort,b]:List Value).getD j undef) rfl (λ _=>wa _) (λ _=>rfl) ?_ ?_ (by decide) (.inr rfl) ?_ ?_⟩
 .intro e f;rw[wF.1 f];exact zC .term t
 .intro e f;rw[wF.1 f];exact qW .term t
 .intro i e j x a d;cases i with
  |succ i=>cases a
  |zero=>
    cases a;let⟨u,c,_⟩:=(qed h).get d;rw[wB,kr,wB,k j u c,List.getD_eq_getElem?_getD,c];rfl
 .intro i e j x a d;cases i with
  |succ i=>cases a
  |zero=>
    cases a;let⟨u,c,m⟩:=(qed h).get d;rw[List.getD_eq_getElem?_getD,c];exact m.mono g.le
theorem qxg{B N:Nat}{f:List (T×Int)}{a:List Nat}{g cap:Nat}{cs:List Value}(h:RS Γ0 w0 rd Γ σ w)(j:Stk B N Γ σ w f a g cap cs){q:Nat}{x:T}{n:Int}(m:f[q]?=some (x,n)):
  ∃Γ' σ' c,cs[q*5+3]?=some c/\RS Γ0 w0 rd Γ' σ' w/\Stk B N Γ' σ' w (f.take q) (a.take q) g cap (cs.take (q*5))/\Rep Γ' (.sl 4 (x.kids.map (qd .term)) 1) c/\Ext Γ w Γ' w:=by
 let⟨A,k,z⟩:=j.at m;let⟨d,σ1,c,y,v,l,u,t,s,C⟩:=qum h.i z;refine⟨d,σ1,c,t,⟨h.x.trans l,u,y.trans h.bx⟩,(j.shrink (xA (getElem?_lt m))).later l λ r o R p=>?_,s,l⟩;rw[v r λ e=>?_];exact p;subst e;let⟨i,b⟩:=vt.1 o;rw[List.getElem?_take]at b;split at b<;>try cases b
 have:=(List.getElem?_inj (getElem?_lt b) j.nd).1 (b.trans k.symm);omega
theorem qx3{B N:Nat}{A:List (T×Int)}{f:List Nat}{g cap:Nat}{cs:List Value}{z V:TypeId}(hT:qji P .term z V 56)(h:RS Γ0 w0 rd Γ σ w)(o:Stk B N Γ σ w A f g cap cs)(hB:w0.heap.size<=B){q:Nat}{t x:T}{n:Int}{J:Value}(E:A[q]?=some (t,n))(X:Rep Γ (.sl 4 (x.kids.map (qd .term)) 1) J)(l:yX (t.kids.length+1) 56=true)(e ty:TypeId):
  ∃p a,cs[q*5+3]?=some p/\f[q]?=some a/\(∃C D,p=.slice C t.kids.length D)/\
  ∃d w',(Builtin.append_ #[z,z] ty #[p,.slice (some ⟨w.heap.size,0,none⟩) 1 1]).run P (w.alloc (.cells #[.int .i64 x.kind,.string ⟨x.name.toArray⟩,.int .i64 x.sort,J] e))=.ok d w'/\(∃C D,d=.slice C (t.kids.length+1) D)/\
  ∃Γ' σ',Ext Γ w Γ' w'/\RS Γ0 w0 rd Γ' σ' (w'.setCell ⟨g,q*5+3,none⟩ d)/\Stk B N Γ' σ' (w'.setCell ⟨g,q*5+3,none⟩ d) (A.take q++[(.mk t.kind t.name t.sort (t.kids++[x]),n)]) (f.take (q+1)) g cap ((cs.set (q*5+3) d).take ((q+1)*5)):=by
 let⟨U,S,c2,c3⟩:=qCU h.i X e;let⟨a,j,Nq⟩:=o.at E;let⟨R,p,e1,Q,O,e4,M,L,f0,f1,f2,f3,f4⟩:=Nq;have v:R.c.length=t.kids.length:=by rw[M,wz]
 have r:=of_decide_eq_true l
 have y:zA (Ty.size .term) 56 σ (.rs a 0 t.kids.length R.ver false) [qd .term x]=some (.rs a 0 (t.kids.length+1) (R.ver+1) false,some {σ with rw:=σ.rw.set a {R with c:=R.c++[qd .term x],ver:=R.ver+1},wrr:=a::σ.wrr}):=by
  have m:R.k=Ty.size .term/\R.ver=R.ver/\t.kids.length=R.c.length/\(0:Nat)=0/\false=false/\R.fz<=R.c.length/\(t.kids.length+[qd .term x].length)*56<=2^47/\t.kids.length+[qd .term x].length<2^62:=
   ⟨Q,rfl,v.symm,rfl,rfl,by rw[O];exact wh _,r.1,r.2⟩
  have G:qm3 R (Ty.size .term) 0 t.kids.length R.ver false 56 [qd .term x]=some ({R with c:=R.c++[qd .term x],ver:=R.ver+1},t.kids.length+1):=if_pos m;have u:qT (Jp [qd .term x]) 0=false:=rfl;simp only[zA,u,e1,G]
 let⟨d,w',Γ',g1,g2,g3,K⟩:=qmF hT c2 (L.mono S.le) c3 (by intro q' hq';rw[wF.1 hq'];exact zC .term x) (by intro q' hq';rw[wF.1 hq'];exact qW .term x) y ty;have b:=S.trans g2;have F:=(o.priv.ext b (qaV o.own).2).1;have Z:=(qaV o.own).1;refine⟨p,a,f3,j,(by cases L;exact⟨_,_,rfl⟩),d,w',g1,(by cases K;exact⟨_,_,rfl⟩),Γ',_,b,RS.set ⟨h.x.trans b,g3,h.bx⟩ F (by omega) _ _,o.kid b (getElem?_lt E) E j x (λ i I hi s R' H=>?_) (R:={R with c:=R.c++[qd .term x],ver:=R.ver+1}) ?_ Q O e4 (by show R.c++_=_;rw[M,kh];rfl) K⟩
 .have Y:=getElem?_lt s
  have W:I≠a:=λ e=>by
   have:=(List.getElem?_inj Y o.nd).1 (s.trans (e▸j.symm));omega
  show(σ.rw.set a _)[I]?=_;rw[List.getElem?_set_ne (λ e=>W e.symm)];exact H
 .show(σ.rw.set a _)[a]?=_;rw[List.getElem?_set_self (getElem?_lt e1)]
theorem qwn{vs:Array Value}{a:Nat}{f e c b:Value}(j:a+4<=vs.size)(off:Nat):((((vs.setIfInBounds a f).setIfInBounds (a+1) e).setIfInBounds (a+2) c).setIfInBounds (a+3) b)[off]?=if off<a then vs[off]? else if off<a+4 then([f,e,c,b]:List Value)[off-a]? else vs[off]?:=by
 simp only[Array.getElem?_setIfInBounds,xF];by_cases h:off<a
 .rw[if_pos h,if_neg (by omega),if_neg (by omega),if_neg (by omega),if_neg (by omega)]
 .rw[if_neg h];by_cases g:off<a+4
  .rw[if_pos g];obtain⟨d,rfl⟩:∃d,off=a+d:=⟨off-a,by omega⟩
   rw[show a+d-a=d by omega];have i:d<4:=by omega
   match d,i with
   |0,_=>rw[if_neg (by omega),if_neg (by omega),if_neg (by omega),if_pos (by omega),if_pos (by omega)];rfl
   |1,_=>rw[if_neg (by omega),if_neg (by omega),if_pos (by omega),if_pos (by omega)];rfl
   |2,_=>rw[if_neg (by omega),if_pos (by omega),if_pos (by omega)];rfl
   |3,_=>rw[if_pos (by omega),if_pos (by omega)];rfl
  .rw[if_neg g,if_neg (by omega),if_neg (by omega),if_neg (by omega),if_neg (by omega)]
theorem qEZ{B N:Nat}{O:List (T×Int)}{s:List Nat}{g cap:Nat}{cs:List Value}(h:RS Γ0 w0 rd Γ σ w)(f:Stk B N Γ σ w O s g cap cs){q:Nat}{t x z:T}{ks:List T}{n:Int}{o:Value}(hq:O[q]?=some (t,n))(K:t.kids=ks++[z])(hx:Rep Γ (.sl 4 (x.kids.map (qd .term)) 1) o):
  ∃b m,cs[q*5+3]?=some (.slice (some ⟨b,0,none⟩) (ks.length+1) m)/\b≠g/\jQ Γ b/\(∀j,j<4->∃u,w.cell? ⟨b,ks.length*4+j,none⟩=some u)/\(∀j,w.frozen? ⟨b,j,none⟩=false)/\
  ∃Γ' σ',Ext Γ w Γ' ((((w.setCell ⟨b,ks.length*4,none⟩ (.int .i64 x.kind)).setCell ⟨b,ks.length*4+1,none⟩ (.string ⟨x.name.toArray⟩)).setCell ⟨b,ks.length*4+2,none⟩ (.int .i64 x.sort)).setCell ⟨b,ks.length*4+3,none⟩ o)/\
   RS Γ0 w0 rd Γ' σ' ((((w.setCell ⟨b,ks.length*4,none⟩ (.int .i64 x.kind)).setCell ⟨b,ks.length*4+1,none⟩ (.string ⟨x.name.toArray⟩)).setCell ⟨b,ks.length*4+2,none⟩ (.int .i64 x.sort)).setCell ⟨b,ks.length*4+3,none⟩ o)/\
   Stk B N Γ' σ' ((((w.setCell ⟨b,ks.length*4,none⟩ (.int .i64 x.kind)).setCell ⟨b,ks.length*4+1,none⟩ (.string ⟨x.name.toArray⟩)).setCell ⟨b,ks.length*4+2,none⟩ (.int .i64 x.sort)).setCell ⟨b,ks.length*4+3,none⟩ o) (O.set q (.mk t.kind t.name t.sort (ks++[x]),n)) s g cap cs:=by
 let⟨r,hr,R,ku,e1,J,e3,e4,e5,e6,f0,f1,f2,f3,f4⟩:=f.at hq;have H:=h.i.row r R e1;have D:R.c.length=ks.length+1:=by rw[e5,K];simp
 have V:t.kids.length=ks.length+1:=by rw[K];simp
 rw[V]at e6;have G:R.c[ks.length]?=some (qd .term z):=by rw[e5,K];simp
 have hz:=H.real G;have C:=H.off e4
 obtain⟨b,m,rfl,hb⟩:∃b m,ku=.slice (some ⟨b,0,none⟩) (ks.length+1) m/\b=Γ.cur r:=by
  cases e6 with
  |rs _ _ _ _ _ a m v Q hc hf hl=>
    let⟨I,h2⟩:=hl (H.ver (by rw[e3];exact wh _)).symm;obtain I|I:=I
    .omega
    .rw[C,kr,wB]at I;exact⟨_,m,by rw[I],rfl⟩
 subst hb;have v:r<Γ.nr:=by rw[h.i.nr];exact getElem?_lt e1
 have A:jQ Γ (Γ.cur r):=.inr ⟨r,v,hz,rfl⟩;have Y:Γ.cur r≠g:=λ e=>f.priv.own (e▸A);let⟨vs,e,fr,M,c2,c3,c4⟩:=H.blk hz;have X:fr=(0,0):=c4 (by omega);subst X;have F:=H.fit;rw[C,D,J,<-c2]at F;have s1:=heap_setCell_same w (Γ.cur r) (ks.length*4) vs e (.int .i64 x.kind) M;have s2:=heap_setCell_same _ (Γ.cur r) (ks.length*4+1) _ e (.string ⟨x.name.toArray⟩) s1;have s3:=heap_setCell_same _ (Γ.cur r) (ks.length*4+2) _ e (.int .i64 x.sort) s2;have s4:=heap_setCell_same _ (Γ.cur r) (ks.length*4+3) _ e o s3
 have l:∀k,k≠Γ.cur r->((((w.setCell ⟨Γ.cur r,ks.length*4,none⟩ (.int .i64 x.kind)).setCell ⟨Γ.cur r,ks.length*4+1,none⟩ (.string ⟨x.name.toArray⟩)).setCell ⟨Γ.cur r,ks.length*4+2,none⟩ (.int .i64 x.sort)).setCell ⟨Γ.cur r,ks.length*4+3,none⟩ o).heap[k]?=w.heap[k]?:=λ k L=>by
  rw[Below.heap_setCell _ _ _ _ L,Below.heap_setCell _ _ _ _ L,Below.heap_setCell _ _ _ _ L,Below.heap_setCell _ _ _ _ L]
 let⟨Γ',p,z2⟩:=qlD h.i e1 G (by rw[e3];exact wh _) e4 (e1:=qd .term x) ((zC .term x).trans J.symm) (qW .term x) (λ vs' e' ab Q=>by
   rw[M]at Q;cases Q;refine⟨s4,by simp,λ off ho=>?_⟩;rw[J]at ho;rw[qwn (by omega)];split
   .rfl
   .rw[if_neg (by omega)])
  (λ j y W=>by
   have aa:j<4:=by have:=getElem?_lt W;rwa [zC .term x]at this
   let⟨u,hu,S⟩:=(qed hx).get W;refine⟨u,?_,S,qjZ (hx.one rfl) u (wc hu)⟩;rw[J,qwn (by omega),if_neg (by omega),if_pos (by omega),show ks.length*4+j-ks.length*4=j by omega];exact hu) l rfl rfl rfl (by simp) (wa _) σ.wrr
 refine⟨Γ.cur r,m,f3,Y,A,λ j W=>⟨vs[ks.length*4+j]'(by omega),?_⟩,λ j=>frozen_of_row w _ j _ _ M,Γ',_,p,⟨h.x.trans p,z2,h.bx⟩,?_⟩
 .rw[jY M,Array.getElem?_eq_getElem]
 .let⟨p1,p2⟩:=f.priv.ext p (qaV f.own).2;refine⟨by rw[wH];exact f.len,f.nd,p1,by rw[wH];exact qgU f.own p2,λ i t' n' P E d=>?_⟩;rw[List.getElem?_set]at E;split at E
  .rename_i e;subst e;rw[if_pos (getElem?_lt hq)]at E;cases E;rw[hr]at d;cases d;refine⟨{R with c:=R.c.set ks.length (qd .term x)},_,List.getElem?_set_self (getElem?_lt e1),J,e3,e4,?_,?_,f0,f1,f2,f3,f4⟩
   .show R.c.set ks.length (qd .term x)=(ks++[x]).map (qd .term);rw[e5,K,kh,kh];simp
   .have:=e6.mono p.le;show Rep Γ' (.rs r 0 (ks++[x]).length R.ver false) _;rw[wd];exact this
  .rename_i e;refine(f.node i t' n' P E d).later p.le λ R' Z=>?_
   have U:P≠r:=λ e'=>by
    have:=(List.getElem?_inj (getElem?_lt d) f.nd).1 (d.trans (e'▸hr.symm));omega
   show(σ.rw.set r _)[P]?=_;rw[List.getElem?_set_ne (λ e=>U e.symm)];exact Z
end
end Go.AmZ
namespace Go.AmZ
open Go Go.RowKit Go.GxZ
theorem qjr{P:Program}{o:Oper}{a:Act}{w:World}{K:Act->World->Prop}{Q:Exit->Act->World->Prop}(s x:Operand)(t:TypeId)(c:o.op=Op.call {callee:=Callee.builtin Builtin.append,args := #[s,x],argTypes := #[t,t]}){v d e:Value}{w':World}(g:a.eval s=v)(f:a.eval x=d)
  (b:(Builtin.append_ #[t,t] o.type #[v,d]).run P w=.ok e w') (h:K (a.put o.dst e) w'):Oper.wp P o a w K Q:=by
 unfold Oper.wp;simp[execOp,c,resolve,invoke,builtin,g,f,b,Result.andThen];exact h
theorem qjm{P:Program}{ops:Array Oper}{o:Oper}{a:Act}{w:World}{K:Act->World->Prop}{Q:Exit->Act->World->Prop}{E:Prop}(h:o.guard=none)(s x:Operand)(t:TypeId)(c:o.op=Op.call {callee:=Callee.builtin Builtin.append,args := #[s,x],argTypes := #[t,t]}){v d e:Value}{w':World}(g:a.eval s=v)(f:a.eval x=d)
  (b:(Builtin.append_ #[t,t] o.type #[v,d]).run P w=.ok e w') (i:K (a.put o.dst e) w'):if Region.wanted o (yielded ops a.tmps)=true then Oper.wp P o a w K Q else E:=by
 rw[if_pos (by simp[Region.wanted,h])];exact qjr s x t c g f b i
theorem qse{P:Program}{ops:Array Oper}{b:List Oper}{o:Oper}{a:Act}{w:World}{Q:Exit->Act->World->Prop}(s x:Operand)(t:TypeId)(j:o.guard=none)(d:o.op=Op.call {callee:=Callee.builtin Builtin.append,args := #[s,x],argTypes := #[t,t]}){v e f:Value}{w':World}(i:a.eval s=v)(g:a.eval x=e)
  (c:(Builtin.append_ #[t,t] o.type #[v,e]).run P w=.ok f w') (k:wpList P ops Q b (a.put o.dst f) w'):wpList P ops Q (o::b) a w:=by
 have h:Region.wanted o (yielded ops a.tmps)=true:=by simp[Region.wanted,j]
 unfold wpList;rw[if_pos h];exact .inl (qjr s x t d i g c k)
abbrev qgg:=(Val RD×Unit)×((Int×List UInt8×Int×List T×Int×Unit)×Unit)
def qcw(F:Val RD->Option qgg)(rd:Val RD):Option (Val RD×(Int×List UInt8×Int×Int)):=match F rd with
 |some (r,v)=>match v.1.2.2.2.1 with
   |[]=>some (r.1,v.1.1,v.1.2.1,v.1.2.2.1,v.1.2.2.2.2.1)
   |_::_=>none
 |none=>none
def qik(F:Val RD->Option qgg)(c:List (T×Int)->Val RD->Option ((Val RD×Unit)×(T×Unit)))(b:List (T×Int))(rd:Val RD):Option ((Val RD×Unit)×(T×Unit)):=
 cond rd.2.2 (some ((rd,()),(T.mk 0 [] 0 [],()))) (qb b[b.length-1]? λ a=>cond (ilt 0 a.2)
  (cond (yX (b.length+1) 64) (qb (qcw F rd) λ h=>c (b.set (b.length-1) (a.1,iw .i64 (ja a.2 1))++[(T.mk h.2.1 h.2.2.1 h.2.2.2.1 [],h.2.2.2.2)]) h.1) none)
  (cond (Nat.beq b.length 1) (some ((rd,()),(a.1,()))) (qb b[b.length-2]? λ p=>cond (yX (p.1.kids.length+1) 56) (c (b.take (b.length-2)++[(T.mk p.1.kind p.1.name p.1.sort (p.1.kids++[a.1]),p.2)]) rd) none)))
def qgs(F:Val RD->Option qgg):Nat->List (T×Int)->Val RD->Option ((Val RD×Unit)×(T×Unit)):=yk (λ _ _=>none) (qik F)
def qjS(F:Val RD->Option qgg)(k:Nat)(rd:Val RD):Option ((Val RD×Unit)×(T×Unit)):=qb (qcw F rd) λ h=>qgs F k [(T.mk h.2.1 h.2.2.1 h.2.2.2.1 [],h.2.2.2.2)] h.1
theorem qoh{F:Val RD->Option qgg}{rd f:Val RD}{nk sk lf:Int}{nm:List UInt8}(h:qcw F rd=some (f,nk,nm,sk,lf)):F rd=some ((f,()),((nk,nm,sk,[],lf,()),())):=by
 unfold qcw at h;split at h<;>try cases h
 rename_i r v i;split at h<;>cases h;rename_i g;let⟨⟨a,b,c,d,e,_⟩,_⟩:=v;let⟨r,_⟩:=r;have g:d=[]:=g;subst g;exact i
theorem qyZ{F:Val RD->Option qgg}{g:List (T×Int)->Val RD->Option ((Val RD×Unit)×(T×Unit))}{c:List (T×Int)}{rd:Val RD}{r:(Val RD×Unit)×(T×Unit)}(h:qik F g c rd=some r):
  (rd.2.2=true/\r=((rd,()),(T.mk 0 [] 0 [],())))\/rd.2.2=false/\∃p b lt,c.length=p+1/\c[p]?=some (b,lt)/\
   ((0<lt/\yX (p+2) 64=true/\∃d nk nm sk lf,F rd=some ((d,()),((nk,nm,sk,[],lf,()),()))/\g (c.set p (b,iw .i64 (ja lt 1))++[(T.mk nk nm sk [],lf)]) d=some r)\/
    ¬ 0<lt/\((p=0/\r=((rd,()),(b,())))\/∃q a n,p=q+1/\c[q]?=some (a,n)/\yX (a.kids.length+1) 56=true/\g (c.take q++[(T.mk a.kind a.name a.sort (a.kids++[b]),n)]) rd=some r)):=by
 unfold qik at h;cases m:rd.2.2 with
 |true=>rw[m]at h;exact .inl ⟨rfl,(kE h).symm⟩
 |false=>
   rw[m]at h;refine .inr ⟨rfl,?_⟩;cases e:c[c.length-1]? with
   |none=>rw[e]at h;cases h
   |some x=>
     let⟨b,lt⟩:=x;have o:=getElem?_lt e;obtain⟨p,s⟩:∃p,c.length=p+1:=⟨c.length-1,by omega⟩
     rw[s]at h e;simp only[xM]at h e;rw[e]at h;refine⟨p,b,lt,s,e,?_⟩;have h:cond (ilt 0 lt) _ _=some r:=h;cases i:ilt 0 lt with
     |true=>
       rw[i]at h;have h:cond (yX (p+1+1) 64) (qb (qcw F rd) _) none=some r:=h;cases f:yX (p+1+1) 64 with
       |false=>rw[f]at h;cases h
       |true=>
         rw[f]at h;refine .inl ⟨of_decide_eq_true i,rfl,?_⟩;have h:qb (qcw F rd) _=some r:=h;cases l:qcw F rd with
         |none=>rw[l]at h;cases h
         |some y=>
           let⟨d,nk,nm,sk,lf⟩:=y;rw[l]at h;exact⟨d,nk,nm,sk,lf,qoh l,h⟩
     |false=>
       rw[i]at h;refine .inr ⟨of_decide_eq_false i,?_⟩;have h:cond (Nat.beq (p+1) 1) (some ((rd,()),(b,()))) _=some r:=h;cases j:Nat.beq (p+1) 1 with
       |true=>
         rw[j]at h;exact .inl ⟨by have:=wj j;omega,(kE h).symm⟩
       |false=>
         rw[j]at h;obtain⟨q,rfl⟩:∃q,p=q+1:=⟨p-1,by cases p with|zero=>cases j|succ q=>rfl⟩
         have h:qb c[q+1+1-2]? _=some r:=h;rw[show q+1+1-2=q by omega]at h;cases k:c[q]? with
         |none=>rw[k]at h;cases h
         |some y=>
           let⟨a,n⟩:=y;rw[k]at h;have h:cond (yX (a.kids.length+1) 56) (g (c.take (q+1+1-2)++_) rd) none=some r:=h;rw[show q+1+1-2=q by omega]at h;cases f:yX (a.kids.length+1) 56 with
           |false=>rw[f]at h;cases h
           |true=>rw[f]at h;exact .inr ⟨q,a,n,rfl,k,f,h⟩
theorem qsG{Γ Γ':Gh}(q:∀b o u,Γ.mem b o=some u->Γ'.mem b o=some u){x:AV}{u:Value}(h:Rep Γ x u):qm x=true->Rep Γ' x u:=by
 induction h with
 |v x h=>exact λ _=>.v x h
 |sl k es f a n cap b o us p t s r l y w g z m=>
   exact λ _=>.sl k es f a n cap b o us p t s r l y w (λ i e j x d c=>q _ _ _ (g i e j x d c)) (λ i e j x d c=>m i e j x d c (l e (wc d) x (wc c)))
 |_=>intro h;cases h
section
variable {P:Program}{Γ0 Γ:Gh}{σ0 σ:St}{w0 w:World}{rd:Val RD}
theorem qAY(G:Inv Γ0 σ0 w0)(p:σ0.bx.length=1)(c:σ0.rw=[])(h:RS Γ0 w0 rd Γ σ w){t:T}{us:List Value}(s:RepL Γ (qd .term t) us)(F:∀u∈us,u.oneCell'=true):
  ∃v Γ',(Ending.returned (.agg us.toArray):Ending)=.returned v/\Ext Γ0 w0 Γ' w/\Inv Γ' (turn σ0 (some ⟨[qd RD rd],[],List.range σ0.bx.length,List.range σ0.rw.length⟩)) w/\Rep Γ' (yl .term t) v/\qE {σ0 with wr:=[],wrr:=[]} (turn {σ0 with wr:=[],wrr:=[]} (some ⟨[qd RD rd],[],List.range σ0.bx.length,List.range σ0.rw.length⟩)):=by
 let⟨q,g,C,r⟩:= σ0;have c:g=[]:=c;subst c;obtain⟨y,rfl⟩:∃y,q=[y]:=xN.1 p
 let⟨m,B,H,A,z⟩:=qmz G h.x h.i (by rw[h.bx];exact wa _) [qd RD rd] [] rfl (by simp) kQ [] [] (λ i cs d=>by
  cases i with
  |succ i=>cases d
  |zero=>
    cases d;refine⟨qd RD rd,by rw[h.bx];rfl,(λ h=>nomatch (show true=false from h)),λ m n _ us f=>⟨f.len,λ j x u e k=>qsG (Γ:=Γ) (Γ':=jg Γ m 1 [] 0 []) (λ b o u l=>n.le.mem b o u l) (f.rep j x u e k) (qW RD rd x (wc e))⟩⟩) (λ a so R h=>by cases h) (λ a b j R R' h=>by cases h) [0] []
 refine⟨_,_,rfl,A,z,.agg _ us s.len F λ i x u e f=>qsG (Γ:=Γ) (Γ':=jg Γ m 1 [] 0 []) (λ b o u n=>B.le.mem b o u n) (s.rep i x u e f) (qW .term t x (wc e)),wa _,wa _,λ i d E=>?_,λ i d _=>absurd d (wJ _),λ i h=>(by cases h),λ i h=>(by cases h)⟩;have:i=0:=by have:i<1:=d;omega
 exact absurd (by rw[this];exact wF.2 rfl) E
theorem qCP{B N:Nat}{m:List (T×Int)}{c:List Nat}{g cap:Nat}{cs:List Value}{q:TypeId}{i:TypeInfo}{z:Value}(J:P.underlying q=some (.slice N))(M:P.info? N=some i)(I:i.zero=some z)(x:i.size=5)(F:i.bytes=64)(v:z.cells.size=5)
  (h:RS Γ0 w0 rd Γ σ w) (s:Stk B N Γ σ w m c g cap cs) (Y:w0.heap.size<=B) {nk sk lf:Int}{nm:List UInt8}{n:Value}{r:Nat} (U:σ.rw[r]?=some ⟨4,[],0,0,false⟩) (o:Rep Γ (.rs r 0 0 0 false) n) (K:r ∉ c) (d:yX (m.length+1) 64=true) (ty:TypeId):
  ∃t w',(Builtin.append_ #[q,q] ty #[.slice (some ⟨g,0,none⟩) m.length cap,.slice (some ⟨w.heap.size,0,none⟩) 1 1]).run P (w.alloc (.cells #[.int .i64 nk,.string ⟨nm.toArray⟩,.int .i64 sk,n,.int .i64 lf] N))=.ok t w'/\
  ∃l a,t=.slice (some ⟨l,0,none⟩) ((m.length+1:Nat)) a/\RS Γ0 w0 rd Γ σ w'/\Stk B N Γ σ w' (m++[(.mk nk nm sk [],lf)]) (c++[r]) l a (cs++[.int .i64 nk,.string ⟨nm.toArray⟩,.int .i64 sk,n,.int .i64 lf])/\
   w.heap.size<=w'.heap.size/\(∀b,b<w.heap.size->b≠g->w'.heap[b]?=w.heap[b]?)/\(l=g\/w.heap.size<=l):=by
 have S:=s.own.alloc (.cells #[.int .i64 nk,.string ⟨nm.toArray⟩,.int .i64 sk,n,.int .i64 lf] N);have A:=of_decide_eq_true d;have V:=qaV s.own
 let⟨t,w',e1,X,p,H⟩:=qha (P:=P) (w.alloc (.cells #[.int .i64 nk,.string ⟨nm.toArray⟩,.int .i64 sk,n,.int .i64 lf] N)) B q ty N i z 5 64 J M I x F v (by decide) _ m.length cs S ⟨w.heap.size,0,none⟩ 1 1 [.int .i64 nk,.string ⟨nm.toArray⟩,.int .i64 sk,n,.int .i64 lf] rfl
  (λ j u L=>by rw[qtX,World.cell?_alloc_mark];simpa using L) (λ u G=>by
   simp only[wG,xb,or_false]at G;obtain rfl|rfl|rfl|rfl|rfl:=G<;>first|rfl|exact o.one rfl) (by unfold maxLen;omega) (by have:=A.1;omega) (by simp;omega)
 have E:=GxZ.run_drawn _ e1;have f:w.grownBy w' (some g):=⟨p.os,p.tape,p.output,by have:=p.size;simp at this;omega,λ k D C=>(p.block k (by simp;omega) C).trans (Below.heap_alloc _ _ _ D)⟩
 have W:=RS.grown h f (λ b e=>by cases e;exact⟨s.priv,by omega⟩) E;obtain⟨l,a,rfl,y⟩:=Stk.push (Γ:=Γ) (σ:=σ) s (r:=r) (R:=⟨4,[],0,0,false⟩) U rfl rfl rfl rfl o K X (H.imp id λ O k D=>qb5.new h.i (by have:=O k D;simp at this;omega));refine⟨_,w',e1,l,a,rfl,W,y,f.size,λ b Q C=>f.block b Q (λ e=>C (by cases e;rfl)),?_⟩;obtain e|e:=H
 .cases e;exact .inl rfl
 .have:=e l rfl;simp at this;exact .inr (by omega)
theorem qFf{B N:Nat}(h:RS Γ0 w0 rd Γ σ w)(f:B<=w.heap.size){nk sk lf:Int}{nm:List UInt8}{a:Value}{r:Nat}(e:σ.rw[r]?=some ⟨4,[],0,0,false⟩)(c:Rep Γ (.rs r 0 0 0 false) a):
  RS Γ0 w0 rd Γ σ (w.alloc (.cells #[.int .i64 nk,.string ⟨nm.toArray⟩,.int .i64 sk,a,.int .i64 lf] N))/\Stk B N Γ σ (w.alloc (.cells #[.int .i64 nk,.string ⟨nm.toArray⟩,.int .i64 sk,a,.int .i64 lf] N)) [(.mk nk nm sk [],lf)] [r] w.heap.size 1 [.int .i64 nk,.string ⟨nm.toArray⟩,.int .i64 sk,a,.int .i64 lf]:=by
 refine⟨h.alloc _,rfl,by simp,qb5.new h.i (wa _),World.ownsRow_lit w #[.int .i64 nk,.string ⟨nm.toArray⟩,.int .i64 sk,a,.int .i64 lf] 1 f (by decide) rfl,λ i t n g d b=>?_⟩;cases i with
 |succ i=>cases d
 |zero=>
   cases d;cases b;exact⟨_,a,e,rfl,rfl,rfl,rfl,c,rfl,rfl,rfl,rfl,rfl⟩
theorem Stk.id_lt{B N:Nat}{b:List (T×Int)}{a:List Nat}{g cap:Nat}{cs:List Value}(c:Stk B N Γ σ w b a g cap cs):σ.rw.length ∉ a:=λ h=>by
 let⟨i,d⟩:=vt.1 h;have e:i<b.length:=by rw[<-c.len];exact getElem?_lt d
 let⟨R,_,f,_⟩:=c.node i _ _ _ (List.getElem?_eq_getElem e) d;exact absurd (getElem?_lt f) (vl _)
def qaY(Γ:Gh)(w:World)(b:Nat)(e:TypeId):Prop:=qb5 Γ b/\b<w.heap.size/\w.heap[b]?=some (.cells #[.int .i64 0,.string ⟨#[]⟩,.int .i64 0,.slice none 0 0] e (0,0))
theorem qaY.cells{b:Nat}{e:TypeId}(h:qaY Γ w b e):w.cell? ⟨b,0,none⟩=some (.int .i64 0)/\w.cell? ⟨b,1,none⟩=some (.string ⟨#[]⟩)/\w.cell? ⟨b,2,none⟩=some (.int .i64 0)/\w.cell? ⟨b,3,none⟩=some (.slice none 0 0)/\∀i,w.frozen? ⟨b,i,none⟩=false:=by
 let⟨_,_,h⟩:=h;have a:=jY h;exact⟨a 0,a 1,a 2,a 3,λ i=>frozen_of_row w b i _ _ h⟩
theorem qaY.ext{Γ':Gh}{w':World}{b:Nat}{e:TypeId}(h:qaY Γ w b e)(d:Ext Γ w Γ' w'):qaY Γ' w' b e:=
 let⟨a,c⟩:=h.1.ext d h.2.1;⟨a,wy h.2.1 d.size,c.trans h.2.2⟩
theorem qaY.same{w':World}{b:Nat}{e:TypeId}(h:qaY Γ w b e)(a:w.heap.size<=w'.heap.size)(c:w'.heap[b]?=w.heap[b]?):qaY Γ w' b e:=⟨h.1,wy h.2.1 a,c.trans h.2.2⟩
theorem Stk.drew{B N:Nat}{b:List (T×Int)}{a:List Nat}{g cap:Nat}{cs:List Value}(h:Stk B N Γ σ w b a g cap cs):Stk B N Γ σ w.drew b a g cap cs:=⟨h.len,h.nd,h.priv,qgU h.own rfl,h.node⟩
theorem qaY.drew{b:Nat}{e:TypeId}(h:qaY Γ w b e):qaY Γ w.drew b e:=h
theorem RS.drew'(h:RS Γ0 w0 rd Γ σ w):RS Γ0 w0 rd Γ σ w.drew:=h.drew
end
end Go.AmZ
namespace Go.AmZ
open Go Go.GxZ
set_option linter.unusedVariables false
set_option maxRecDepth 100000
noncomputable section
abbrev Z1:=Option (List (Y8×(Int×Int)))
abbrev Z2:=Option (Bool)
abbrev Z3:=Option (((Y8×(Int×Bool))×Unit)×((Int)×Unit))
abbrev Z4:=Y8×(Int×Bool)
abbrev Z5:=Option (((Y8×(Int×Bool))×Unit)×((Y8)×Unit))
abbrev Z6:=List UInt8
abbrev Z7:=Int->Int->Int->Z6->Int->Bool->Z5
abbrev Z8:=Option (((Y8×(Int×Bool))×Unit)×(((Int)×(Y8)×(Int)×(List (T))×(Int)×Unit)×Unit))
abbrev Z9:=Z6->Int->Int->Z2
abbrev Z10:=Y8->Z2
abbrev Z11:=Option (((Int)×(Int)×Unit)×((Int)×Unit))
abbrev Z12:=T->Int->Int->Int->Z11
abbrev Z13:=List (T)
abbrev Z14:=Int->Z13->Int->Int->Int->Int->Z11
abbrev Z15:=Option (Int)
abbrev Z16:=T->Z15
abbrev Z17:=Option (Y8×(Int×(Int×Int)))
abbrev Z18:=Z6->(List (Y8×(Int×(Int×Int))))->Int->Int->Z6->Int->Int->Int->Z17
abbrev Z19:=Z13->Int->Int->Int->Z6->Int->Z13->Z15
abbrev Z20:=Z13->Int->Int->Z15
abbrev Z21:=Int->Z13->Int->Int->Z15
abbrev Z22:=T->T->Z15
abbrev Z23:=Int->Int->Int->Z6->Int->Z13->Int->Z6->Int->Z13->Z15
abbrev Z24:=T->T->Z2
abbrev Z25:=Option (T)
abbrev Z26:=T->Z25
abbrev Z27:=Option (TL)
abbrev Z28:=(List (TL))->Int->(List (TL))->Int->Int->Z27
abbrev Z29:=(List (TL))->Int->Int->Z13->Z27
abbrev Z30:=Z13->Z13->Z13->Z27
abbrev Z31:=T->Z27
abbrev Z32:=Z13->Z13->Int->Int->Z27
abbrev Z33:=Z13->Int->Int->Int->Z6->Int->Int->Z6->Int->Z13->Z13->Z25
abbrev Z34:=Option ((T)×(Int))
abbrev Z35:=(List (Int))->Int->Int->Int->Z6->Int->Z13->Int->Z6->Int->Int->Z6->Int->Z13->Z13->Z34
abbrev Z36:=TL->Z27
abbrev Z37:=Z13->Int->Int->Z13->Z27
abbrev Z38:=Z13->Z13->Int->Int->Int->Z6->Int->Z13->Z34
abbrev Z39:=T->Z2
abbrev Z40:=Int->Int->Int->Z6->Int->Int->Z6->Int->Z13->Z13->Z25
abbrev Z41:=Option ((Int)×(Bool))
abbrev Z42:=List (T×Int)
abbrev Z43:=Z42->Int->Int->Int->Int->Z6->Int->Z13->Z41
abbrev Z44:=Option ((Unit)×((List (T×Int))×Unit))
abbrev Z45:=Option ((Unit)×((List (T×Int))×(Bool)×Unit))
abbrev Z46:=Z42->T->Int->Z45
abbrev Z47:=Int->Z13->Int->Int->Z42->Z45
abbrev Z48:=Option ((List (T×Int))×(Int))
abbrev Z49:=Z42->Z42->Int->Int->Z15
abbrev Z50:=Z42->Z15
abbrev Z51:=Y8->TL->Z25
abbrev Z52:=Z42->Int->Int->Int->Z6->Int->Z13->Z13->Z13->Z34
abbrev Z53:=Z42->Int->Int->Int->Int->Int->Z6->Int->Int->Z6->Int->Z13->Int->Z13->Z13->Z13->Z34
abbrev Z54:=Z42->Int->Int->Z42->Z44
abbrev Z55:=Z42->Int->Int->Z15
abbrev Z56:=Z42->Int->Int->Z42->Z48
abbrev Z57:=T->Z34
abbrev Z58:=Z13->Int->Int->Int->Z6->Int->Z13->Int->Z6->Int->Int->Z6->Int->Z13->Z13->Z34
abbrev Z59:=Z13->Int->Int->Z2
abbrev Z60:=Option ((T)×((Int)×(Int)))
abbrev Z61:=Option (((Int)×(List (T))×Unit)×(Unit))
abbrev Z62:=T->Int->Z13->Z61
abbrev Z63:=Z13->Int->Int->Int->Z13->Z61
abbrev Z64:=Option ((Unit)×((List (T))×Unit))
abbrev Z65:=Int->Int->Z13->Z64
abbrev Z66:=Option (((T)×Unit)×((Bool)×Unit))
abbrev Z67:=Option (((T)×Unit)×((Int)×Unit))
abbrev Z68:=(List (Y8×(Int×Int)))->Int->Int->Int->Z6->Int->Z13->Z67
abbrev Z69:=Option ((Unit)×((List (Int))×Unit))
abbrev Z70:=(List (Int))->T->Z69
abbrev Z71:=Z13->Int->Int->(List (Int))->Z69
abbrev Z72:=Option ((Y8)×(Int))
abbrev Z73:=List (T×T)
abbrev Z74:=Z73->T->Z25
abbrev Z75:=Z73->Z73->Int->Int->Int->Z6->Int->Z13->Int->Z6->Int->Z13->Z25
abbrev Z76:=Z73->Z13->Int->Int->Int->Z6->Int->Int->Z6->Int->Z13->Z13->Z25
abbrev Z77:=Option (Y8)
abbrev Z78:=Int->Z77
abbrev Z79:=Option (((List (Y8×Y8))×Unit)×((T)×Unit))
abbrev Z80:=T->Y8->(List (Y8×Y8))->Z79
abbrev Z81:=Z6->Z13->Int->Int->(List (Y8×Y8))->Int->Z6->Int->Int->Z6->Int->Z13->Z13->Z79
abbrev Z82:=List ((Y8×Int)×T)
abbrev Z83:=Option (((List ((Y8×Int)×T))×Unit)×((T)×Unit))
abbrev Z84:=Z82->T->Z83
abbrev Z85:=Z13->Int->Int->Z82->Int->Z6->Int->Z13->Int->Z6->Int->Z13->Z13->Z83
abbrev Z86:=Option ((((List (T×T))×(List (T×T))×Unit)×Unit)×((Int)×Unit))
abbrev Z87:=Int->Int->Z73->Int->Z6->Int->Z13->Int->Z6->Int->Z13->Bool->Z82->Z73->Z73->Z86
abbrev Z88:=(List (T×T))×(List (T×T))×Unit
abbrev Z89:=Z88->T->T->Z86
abbrev Z90:=TL->T->Z66
abbrev Z91:=T->T->Z66
abbrev Z92:=TL->T->Z67
abbrev Z93:=Z13->Int->Int->Int->Z6->Int->Z13->Z67
abbrev Z94:=Int->Int->Z73->Int->Z6->Int->Z13->Int->Z6->Int->Z13->Z73->Z73->Z86
abbrev Z95:=Option ((Unit)×((List (T×T))×Unit))
abbrev Z96:=Option ((List (T×T))×(Int))
abbrev Z97:=Z73->Z73->Z96
abbrev Z98:=Option ((Int)×((Int)×((T)×(Int))))
abbrev Z99:=Z13->Int->Int->Int->Z6->Int->Z13->Z98
abbrev qCq:=Z13->Int->Int->Int->Int->Int->Z6->Int->Int->Z6->Int->Z13->Z13->Z98
abbrev qGk:=Int->Int->Int->Z6->Int->Z13->Z15
abbrev qGK:=Int->Int->Z6->Int->Z13->Int->Z6->Int->Z13->Z15
abbrev qGT:=Y8->Int->Int->Z72
def qbQ(m:Nat):Z1:=
 some [([112,97,105,114],(2,2)),([101,110,99],(2,2)),([97,101,110,99],(2,2)),([112,107],(1,1)),([115,105,103,110],(2,2)),([104,97,115,104],(1,1)),([120,111,114],(2,8)),([122,101,114,111],(0,0)),([101,120,112],(2,2)),([109,117,108],(2,8)),([105,110,118],(1,1)),([111,110,101],(0,0)),([115,107],(1,1)),([115,104,107],(2,2)),([110,101,119],(1,8))]
def zN:Nat->(Z1):=qi (none) λ m _=>qbQ m
def Q7(m:Nat)(a:Y8×(Int×Int)):Z2:=
 some (qf (ieq a.2.1 a.2.2))
def zW:Nat->((Y8×(Int×Int))->Z2):=qi (λ _=>none) λ m _=>Q7 m
def J4(m:Nat)(a:Y8×(Int×Bool))(c g:Int):Z3:=
 let b:Z3:=(some (((a.1,(a.2.1,true)),()),(c,())));cond a.2.2 b (cond (ile a.1.length a.2.1) b (qb (qh a.1 a.2.1) λ f=>
 cond (ilt (iw .i64 ((UInt8.toNat f:Nat):Int)) c) b (qb (qh a.1 a.2.1) λ e=>
 cond (ilt g (iw .i64 ((UInt8.toNat e:Nat):Int))) b (qb (qh a.1 (iw .i64 (ja (iw .i64 (qj a.2.1 1)) 1))) λ d=>
 some (((a.1,(iw .i64 (qj a.2.1 1),a.2.2)),()),(iw .i64 ((UInt8.toNat d:Nat):Int),()))))))
def qS:Nat->(Z4->Int->Int->Z3):=qi (λ _ _ _=>none) λ m _=>J4 m
def QB(m:Nat)(c:Z7)(b:Y8×(Int×Bool)):Z5:=
 qb (qS m (b.1,(b.2.1,b.2.2)) 1 24) λ a=>c a.1.1.2.1 a.2.1 0 a.1.1.1 a.1.1.2.1 a.1.1.2.2
def jz(m:Nat)(l:Z7)(g h f:Int)(c:Y8)(a:Int)(e:Bool):Z5:=
 cond (ilt f h) (let d:Z5:=(some (((c,(a,true)),()),([],())));cond e d (cond (ile c.length a) d (qb (qh c a) λ b=>let j2:Z5:=
 (l g h (iw .i64 (qj f 1)) c (iw .i64 (qj a 1)) e);let k:Z5:=(let j:Z5:=(cond (ieq f 0) d (let i:Z5:=(cond (qf (ieq ((UInt8.toNat b:Nat):Int) 95))
 (cond (qf (ieq ((UInt8.toNat b:Nat):Int) 35)) d j2) j2);cond (ilt ((UInt8.toNat b:Nat):Int) 48) i (cond (ilt 57 ((UInt8.toNat b:Nat):Int)) i j2)));cond (ile 65 ((UInt8.toNat b:Nat):Int))
 (cond (qf (ile ((UInt8.toNat b:Nat):Int) 90)) j j2) j);cond (ile 97 ((UInt8.toNat b:Nat):Int)) (cond (ile ((UInt8.toNat b:Nat):Int) 122) j2 k) k))) (cond (inb a c.length)
 (cond (inb g (Int.toNat a)) (some (((c,(a,e)),()),(yv c g a,()))) none) none)
def zG(m:Nat):=yk (λ _ _ _ _ _ _=>none) λ a=>jz m a
def Qg:Nat->(Z4->Z5):=qi (λ _=>none) λ m _=>QB m (zG m m)
def jw(m:Nat)(a:Y8×(Int×Bool)):Z8:=
 let g:Z8:=(qb (zN m) λ j=>qb (zN m) λ i=>qb (qS m (a.1,(a.2.1,a.2.2)) 16 (iw .i64 (ja (iw .i64 (qj 16 i.length)) 1))) λ c=>
 qb (qh j (iw .i64 (ja c.2.1 16))) λ b=>qb (zW m (b.1,(b.2.1,b.2.2))) λ h=>
 cond h (qb (qS m (c.1.1.1,(c.1.1.2.1,c.1.1.2.2)) b.2.1 b.2.2) λ d=>some (((d.1.1.1,(d.1.1.2.1,d.1.1.2.2)),()),((3,b.1,0,[],d.2.1,()),())))
 (some (((c.1.1.1,(c.1.1.2.1,c.1.1.2.2)),()),((3,b.1,0,[],b.2.1,()),()))));cond (ilt a.2.1 a.1.length) (qb (qh a.1 a.2.1) λ k=>cond (ile ((UInt8.toNat k:Nat):Int) 5)
 (qb (qS m (a.1,(a.2.1,a.2.2)) 0 5) λ f=>qb (Qg m (f.1.1.1,(f.1.1.2.1,f.1.1.2.2))) λ e=>
 some (((e.1.1.1,(e.1.1.2.1,e.1.1.2.2)),()),((2,e.2.1,f.2.1,[],0,()),()))) g) g
def qn:Nat->(Z4->Z8):=qi (λ _=>none) λ m _=>jw m
def yO:Nat->Val RD->Option ((Val RD×Unit)×(T×Unit)):=qi (λ _=>none) λ m _=>qjS (qn m) m
def qhl(m:Nat)(a:Int):Z2:=
 let d:Z2:=(let c:Z2:=(let b:Z2:=(cond (ieq a 95) (some true) (some (ieq a 35)));cond (ile 48 a) (cond (ile a 57) (some true) b) b);cond (ile 65 a) (cond (ile a 90) (some true) c) c);
 cond (ile 97 a) (cond (ile a 122) (some true) d) d
def qfJ:Nat->(Int->Z2):=qi (λ _=>none) λ m _=>qhl m
def qcz(m:Nat)(i:Z9)(a:Y8):Z2:=
 cond (qD a []) (some false) (cond (ilt 24 a.length) (some false) (qb (qh a 0) λ h=>qb (qfJ m ((UInt8.toNat h:Nat):Int)) λ g=>cond (qf g) (some false) (qb (qh a 0) λ f=>
 let b:Z2:=(qb (qh a 0) λ d=>cond (ieq ((UInt8.toNat d:Nat):Int) 95) (some false) (qb (qh a 0) λ c=>cond (ieq ((UInt8.toNat c:Nat):Int) 35) (some false) (i a a.length 0)));
 cond (ile 48 ((UInt8.toNat f:Nat):Int)) (qb (qh a 0) λ e=>cond (ile ((UInt8.toNat e:Nat):Int) 57) (some false) b) b)))
def qcI(m:Nat)(f:Z9)(c:Y8)(b a:Int):Z2:=
 cond (ilt a b) (qb (qh c a) λ e=>qb (qfJ m ((UInt8.toNat e:Nat):Int)) λ d=>cond (qf d) (some false) (f c b (iw .i64 (qj a 1)))) (some true)
def jS(m:Nat):=yk (λ _ _ _=>none) λ a=>qcI m a
def qbK:Nat->Z10:=qi (λ _=>none) λ m _=>qcz m (jS m m)
def qdp(m:Nat)(b:Z12)(i:Z14)(a:T)(d f e:Int):Z11:=
 let g:Z11:=(qb (qbK m a.name) λ h=>cond (qf h) (some ((iw .i64 (qj f 1),qko e d,()),(2,()))) (cond (ilt 8 a.kids.length) (some ((iw .i64 (qj f 1),qko e d,()),(3,())))
 (i d a.kids a.kids.length 0 (iw .i64 (qj f 1)) (qko e d))));let c:Z11:=(some ((iw .i64 (qj f 1),qko e d,()),(1,())));let j3:Z11:=
 (cond (ilt a.sort 0) c (cond (ilt 5 a.sort) c (cond (ilt 0 a.kids.length) c g)));cond (ieq a.kind 1) j3 (cond (ieq a.kind 2) j3 (cond (ieq a.kind 3) (cond (qf (ieq a.sort 0)) c g) c))
def qdl(m:Nat)(a:Z12)(j:Z14)(h:Int)(g:TL)(f c e d:Int):Z11:=
 cond (ilt c f) (qb (qh g c) λ i=>qb (a (re i) (iw .i64 (qj h 1)) e d) λ b=>cond (qf (ieq b.2.1 0)) (some ((b.1.1,b.1.2.1,()),(b.2.1,())))
 (j h g f (iw .i64 (qj c 1)) b.1.1 b.1.2.1)) (some ((e,d,()),(0,())))
def yY(m:Nat)(a:Z12):=yk (λ _ _ _ _ _ _=>none) λ b=>qdl m a b
def zD:Nat->Z12:=qi (λ _ _ _ _=>none) λ m a=>qdp m a (yY m a m)
def qfY(m:Nat)(b:T):Z15:=
 qb (zD m (re b) 1 0 0) λ a=>cond (qf (ieq a.2.1 0)) (some a.2.1) (cond (ilt 400 a.1.1) (some 3) (cond (ilt 40 a.1.2.1) (some 3) (some 0)))
def qR:Nat->Z16:=qi (λ _=>none) λ m _=>qfY m
def qbc(m:Nat)(c:Z18)(b:Y8):Z17:=
 qb (qeT 0) λ a=>c b a a.length 0 [] 0 0 0
def qbz(m:Nat)(j:Z18)(e:Y8)(d:List (Y8×(Int×(Int×Int))))(c b:Int)(i:Y8)(h g f:Int):Z17:=
 cond (ilt b c) (qb (qh d b) λ a=>cond (qD a.1 e) (some (a.1,(a.2.1,(a.2.2.1,a.2.2.2)))) (j e d c (iw .i64 (qj b 1)) i h g f)) (some ([],(0,(0,0))))
def Qn(m:Nat):=yk (λ _ _ _ _ _ _ _ _=>none) λ a=>qbz m a
def J6:Nat->(Y8->Z17):=qi (λ _=>none) λ m _=>qbc m (Qn m m)
def qbT(m:Nat)(b:Z16)(e:Z19)(d:Z20)(a:T):Z15:=
 cond (qf (ieq a.kind 3)) (some 0) (qb (J6 m a.name) λ c=>cond (ieq c.2.2.2 0) (some 10) (cond (ilt a.kids.length c.2.1) (some 6) (cond (ilt c.2.2.1 a.kids.length) (some 6)
 (cond (qD a.name [115,107]) (e a.kids a.kids.length 0 a.kind a.name a.sort a.kids) (cond (qD a.name [115,104,107]) (e a.kids a.kids.length 0 a.kind a.name a.sort a.kids)
 (cond (qD a.name [110,101,119]) (qb (qh a.kids 0) λ f=>cond (qf (ieq f.kind 2)) (some 10) (d a.kids a.kids.length 0)) (d a.kids a.kids.length 0)))))))
def qb1(m:Nat)(a:Z16)(k:Z19)(j:Z20)(e:TL)(d c i:Int)(h:Y8)(g:Int)(b:TL):Z15:=
 cond (ilt c d) (qb (qh e c) λ f=>cond (ieq f.kind 3) (some 10) (cond (qf (ieq f.sort 1)) (some 10) (k e d (iw .i64 (qj c 1)) i h g b))) (j b b.length 0)
def qb2(m:Nat)(a:Z16)(h:Z19)(g:Z20)(d:TL)(c b:Int):Z15:=
 cond (ilt b c) (qb (qh d b) λ f=>qb (a (re f)) λ e=>cond (qf (ieq e 0)) (some e) (g d c (iw .i64 (qj b 1)))) (some 0)
def qK(m:Nat)(a:Z16):=yk ((λ _ _ _ _ _ _ _=>none,λ _ _ _=>none)) λ b=>(qb1 m a b.1 b.2,qb2 m a b.1 b.2)
def qx:Nat->Z16:=qi (λ _=>none) λ m a=>qbT m a (qK m a m).1 (qK m a m).2
def qet(m:Nat)(b:T):Z15:=
 qb (qR m (re b)) λ a=>cond (qf (ieq a 0)) (some a) (qb (qx m (re b)) λ c=>some c)
def Jy:Nat->Z16:=qi (λ _=>none) λ m _=>qet m
def qhE(m:Nat)(b a:Int):Z15:=
 cond (ilt b a) (some (-1)) (cond (ilt a b) (some 1) (some 0))
def qcv:Nat->(Int->Int->Z15):=qi (λ _ _=>none) λ m _=>qhE m
def qee(m:Nat)(a:Z16)(c:Z21)(b:T):Z15:=
 c 1 b.kids b.kids.length 0
def qd9(m:Nat)(a:Z16)(h:Z21)(e:Int)(d:TL)(c b:Int):Z15:=
 cond (ilt b c) (qb (qh d b) λ g=>qb (a (re g)) λ f=>h (iw .i64 (qj e f)) d c (iw .i64 (qj b 1))) (some e)
def qaz(m:Nat)(a:Z16):=yk (λ _ _ _ _=>none) λ b=>qd9 m a b
def jG:Nat->Z16:=qi (λ _=>none) λ m a=>qee m a (qaz m a m)
def qbU(m:Nat)(c:Z22)(e:Z23)(b a:T):Z15:=
 qb (jG m (re b)) λ n=>qb (jG m (re a)) λ l=>qb (qcv m n l) λ d=>let j1:Z15:=(qb (qcv m b.kids.length a.kids.length) λ k=>
 e k 0 b.kind b.name b.sort b.kids a.kind a.name a.sort a.kids);let h:Z15:=(qb (qcv m b.sort a.sort) λ i=>
 cond (ieq i 0) j1 (e i 0 b.kind b.name b.sort b.kids a.kind a.name a.sort a.kids));let j:Z15:=(qb (strings_Compare 0 b.name a.name) λ g=>
 cond (ieq g 0) h (cond (ieq g 0) j1 (e g 0 b.kind b.name b.sort b.kids a.kind a.name a.sort a.kids)));cond (ieq d 0) (qb (qcv m b.kind a.kind) λ f=>
 cond (ieq f 0) j (cond (ieq f 0) h (cond (ieq f 0) j1 (e f 0 b.kind b.name b.sort b.kids a.kind a.name a.sort a.kids))))
 (cond (ieq d 0) j (cond (ieq d 0) h (cond (ieq d 0) j1 (e d 0 b.kind b.name b.sort b.kids a.kind a.name a.sort a.kids))))
def qao(m:Nat)(a:Z22)(p:Z23)(d b k:Int)(j:Y8)(i:Int)(c:TL)(h:Int)(g:Y8)(f:Int)(e:TL):Z15:=
 cond (ieq d 0) (cond (ilt b c.length) (qb (qh c b) λ o=>qb (qh e b) λ n=>qb (a (re o) (re n)) λ l=>p l (iw .i64 (qj b 1)) k j i c h g f e) (some d))
 (some d)
def jq(m:Nat)(a:Z22):=yk (λ _ _ _ _ _ _ _ _ _ _=>none) λ b=>qao m a b
def qv:Nat->Z22:=qi (λ _ _=>none) λ m a=>qbU m a (jq m a m)
def qeR(m:Nat)(c b:T):Z2:=
 qb (qv m (re c) (re b)) λ a=>some (ieq a 0)
def QN:Nat->Z24:=qi (λ _ _=>none) λ m _=>qeR m
def qhx(m:Nat)(a:T)(b:Y8):Z2:=
 cond (ieq a.kind 3) (some (qD a.name b)) (some false)
def yL:Nat->(T->Y8->Z2):=qi (λ _ _=>none) λ m _=>qhx m
def qc2(m:Nat)(b:T):Z25:=
 qb (qh b.kids 0) λ a=>let j1:Z25:=(qb (qh a.kids 0) λ I=>some (re I));let j2:Z25:=(some (re b));let j3:Z25:=(cond (qD b.name [114,101,97,100])
 (qb (yL m (re a) [115,105,103,110]) λ p=>cond p j1 j2) j2);let j4:Z25:=(qb (yL m (re a) [112,97,105,114]) λ G=>cond G (qb (qh a.kids 1) λ F=>some (re F)) j2);
 let B:Z25:=(qb (yL m (re a) [112,97,105,114]) λ J=>cond J j1 j2);cond (ilt 1 b.kids.length) (qb (qh b.kids 1) λ c=>
 cond (qD b.name [102,115,116]) B (cond (qD b.name [115,110,100]) j4 (cond (qD b.name [100,101,99]) (qb (yL m (re a) [101,110,99]) λ E=>cond E (qb (qh a.kids 1) λ D=>
 qb (QN m (re D) (re c)) λ C=>cond C j1 j2) j2) (cond (qD b.name [97,100,101,99]) (qb (yL m (re a) [97,101,110,99]) λ A=>cond A (qb (qh a.kids 1) λ z=>
 qb (yL m (re z) [112,107]) λ y=>cond y (qb (qh a.kids 1) λ x=>qb (qh x.kids 0) λ w=>qb (QN m (re w) (re c)) λ v=>cond v j1 j2) j2) j2)
 (cond (qD b.name [111,112,101,110]) (qb (yL m (re a) [115,105,103,110]) λ u=>cond u (qb (yL m (re c) [112,107]) λ t=>cond t (qb (qh a.kids 1) λ s=>
 qb (qh c.kids 0) λ r=>qb (QN m (re s) (re r)) λ q=>cond q j1 j2) j2) j2) j3)))))
 (cond (qD b.name [102,115,116]) B (cond (qD b.name [115,110,100]) j4 (cond (qD b.name [100,101,99]) (qb (yL m (re a) [101,110,99]) λ o=>cond o (qb (qh a.kids 1) λ n=>
 qb (QN m (re n) (T.mk 0 [] 0 [])) λ l=>cond l j1 j2) j2) (cond (qD b.name [97,100,101,99]) (qb (yL m (re a) [97,101,110,99]) λ k=>
 cond k (qb (qh a.kids 1) λ j=>qb (yL m (re j) [112,107]) λ i=>cond i (qb (qh a.kids 1) λ h=>qb (qh h.kids 0) λ g=>qb (QN m (re g)
 (T.mk 0 [] 0 [])) λ f=>cond f j1 j2) j2) j2) (cond (qD b.name [111,112,101,110]) (qb (yL m (re a) [115,105,103,110]) λ e=>
 cond e (qb (yL m (T.mk 0 [] 0 []) [112,107]) λ d=>cond d (qb (qh a.kids 1) λ H=>none) j2) j2) j3)))))
def qaX:Nat->Z26:=qi (λ _=>none) λ m _=>qc2 m
def yz(m:Nat)(b:Z28)(c:Z29)(a:List TL):Z27:=
 b a 0 a a.length 0
def yy(m:Nat)(i:Z28)(h:Z29)(c:List (TL))(b:Int)(e:List (TL))(d a:Int):Z27:=
 cond (ilt a d) (qb (qh e a) λ f=>cond (ilt (iw .i64 (qj b f.length)) 0) none (i c (iw .i64 (qj b f.length)) e d (iw .i64 (qj a 1)))) (qb (yp 0 b) λ g=>
 h c c.length 0 g.2.1)
def yC(m:Nat)(g:Z28)(f:Z29)(d:List (TL))(c b:Int)(a:TL):Z27:=
 cond (ilt b c) (qb (qh d b) λ e=>cond (yX (List.length a+List.length e) 56) (f d c (iw .i64 (qj b 1)) (a++e)) none) (some a)
def qg(m:Nat):=yk ((λ _ _ _ _ _=>none,λ _ _ _ _=>none)) λ a=>(yy m a.1 a.2,yC m a.1 a.2)
def zo:Nat->((List TL)->Z27):=qi (λ _=>none) λ m _=>yz m (qg m m).1 (qg m m).2
def qej(m:Nat)(d:Z20)(b c:TL):Z15:=
 cond (ilt 200 b.length) (some 3) (qb (zo m [b,c]) λ a=>d a a.length 0)
def qen(m:Nat)(f:Z20)(c:TL)(b a:Int):Z15:=
 cond (ilt a b) (qb (qh c a) λ e=>qb (qR m (re e)) λ d=>cond (qf (ieq d 0)) (some d) (f c b (iw .i64 (qj a 1)))) (some 0)
def qaA(m:Nat):=yk (λ _ _ _=>none) λ a=>qen m a
def qiC:Nat->(TL->TL->Z15):=qi (λ _ _=>none) λ m _=>qej m (qaA m m)
def qfm(m:Nat)(c:Z30)(b a:TL):Z27:=
 c b a []
def qfn(m:Nat)(d:Z30)(a b c:TL):Z27:=
 let f:Z27:=(cond (yX (List.length c+List.length a) 56) (cond (yX (List.length (c++a)+List.length b) 56) (some ((c++a)++b)) none) none);cond (ilt 0 a.length) (cond (ilt 0 b.length)
 (qb (qh a 0) λ j=>qb (qh b 0) λ i=>qb (qv m (re j) (re i)) λ e=>cond (ilt e 0) (qb (qh a 0) λ h=>cond (yX (List.length c+1) 56) (cond (inb a.length a.length)
 (cond (inb 1 (Int.toNat a.length)) (d (yv a 1 a.length) b (c++[re h])) none) none) none) (cond (ilt 0 e) (qb (qh b 0) λ g=>cond (yX (List.length c+1) 56) (cond (inb b.length b.length)
 (cond (inb 1 (Int.toNat b.length)) (d a (yv b 1 b.length) (c++[re g])) none) none) none) (cond (inb a.length a.length) (cond (inb 1 (Int.toNat a.length)) (cond (inb b.length b.length)
 (cond (inb 1 (Int.toNat b.length)) (d (yv a 1 a.length) (yv b 1 b.length) c) none) none) none) none))) f) f
def qbk(m:Nat):=yk (λ _ _ _=>none) λ a=>qfn m a
def qhc:Nat->(TL->TL->Z27):=qi (λ _ _=>none) λ m _=>qfm m (qbk m m)
def qbW(m:Nat)(a:Z31)(d:Z32)(b:T):Z27:=
 let c:Z27:=(cond (ieq b.kind 3) (cond (qD b.name [120,111,114]) (d [] b.kids b.kids.length 0) (some [re b])) (some [re b]));cond (ieq b.kind 3) (cond (qD b.name [122,101,114,111])
 (cond (ieq b.kids.length 0) (some []) c) c) c
def qb3(m:Nat)(a:Z31)(i:Z32)(e d:TL)(c b:Int):Z27:=
 cond (ilt b c) (qb (qh d b) λ h=>qb (a (re h)) λ g=>qb (qhc m e g) λ f=>i f d c (iw .i64 (qj b 1))) (some e)
def jX(m:Nat)(a:Z31):=yk (λ _ _ _ _=>none) λ b=>qb3 m a b
def ye:Nat->Z31:=qi (λ _=>none) λ m a=>qbW m a (jX m a m)
def qdo(m:Nat)(a:Z26)(c:Z33)(b:T):Z25:=
 c b.kids b.kids.length 0 b.kind b.name b.sort 0 [] 0 [] []
def qdk(m:Nat)(a:Z26)(p:Z33)(i:TL)(h c g:Int)(f:Y8)(e l:Int)(k:Y8)(j:Int)(b d:TL):Z25:=
 cond (ilt c h) (qb (qh i c) λ o=>qb (a (re o)) λ n=>cond (yX (List.length b+1) 56) (p i h (iw .i64 (qj c 1)) g f e l k j (b++[re n]) d) none)
 (some (T.mk g f e b))
def Jx(m:Nat)(a:Z26):=yk (λ _ _ _ _ _ _ _ _ _ _ _=>none) λ b=>qdk m a b
def yR:Nat->Z26:=qi (λ _=>none) λ m a=>qdo m a (Jx m a m)
def qb4(m:Nat)(e:Z35)(d:T)(c:List Int)(b:T):Z34:=
 qb (yR m (re d)) λ a=>e c c.length 0 b.kind b.name b.sort b.kids 0 [] 0 a.kind a.name a.sort a.kids []
def qeu(m:Nat)(t:Z35)(n:List (Int))(l c g:Int)(f:Y8)(e:Int)(d:TL)(r:Int)(q:Y8)(p k:Int)(j:Y8)(i:Int)(a h:TL):Z34:=
 cond (ilt c l) (qb (qh n c) λ b=>cond (ilt b 0) (some (T.mk 0 [] 0 [],7)) (cond (ile a.length b) (some (T.mk 0 [] 0 [],7)) (qb (qh a b) λ s=>none)))
 (qb (yR m (T.mk g f e d)) λ o=>some (re o,0))
def Js(m:Nat):=yk (λ _ _ _ _ _ _ _ _ _ _ _ _ _ _ _=>none) λ a=>qeu m a
def qew:Nat->(T->(List Int)->T->Z34):=qi (λ _ _ _=>none) λ m _=>qb4 m (Js m m)
def qge(m:Nat)(a:Z36)(c:Z37)(b:TL):Z27:=
 cond (qtS b.length 56) (c b b.length 0 (List.replicate (Int.toNat b.length) (T.mk 0 [] 0 []):TL)) none
def qgA(m:Nat)(b:Z36)(k:Z37)(h:TL)(g a:Int)(d:TL):Z27:=
 cond (ilt a g) (qb (qh h a) λ f=>qb (qew m (re f) [] (re f)) λ e=>qb (qh d a) λ l=>qb (b f.kids) λ j=>qb (qh (yc d a (re e.1)) a) λ c=>
 cond (ieq f.kids.length 0) (qb (qh (yc (yc d a (re e.1)) a (T.mk c.kind c.name c.sort j)) a) λ i=>k h g (iw .i64 (qj a 1))
 (yc (yc (yc d a (re e.1)) a (T.mk c.kind c.name c.sort j)) a (T.mk i.kind i.name i.sort []))) (k h g (iw .i64 (qj a 1)) (yc (yc d a (re e.1)) a (T.mk c.kind c.name c.sort j))))
 (some d)
def qcl(m:Nat)(a:Z36):=yk (λ _ _ _ _=>none) λ b=>qgA m a b
def Q4:Nat->Z36:=qi (λ _=>none) λ m a=>qge m a (qcl m a m)
def qgk(m:Nat)(c:Z38)(a:TL):Z34:=
 qb (qiC m a []) λ b=>cond (qf (ieq b 0)) (some (T.mk 0 [] 0 [],b)) (c [] a a.length 0 0 [] 0 [])
def qgx(m:Nat)(r:Z38)(e d:TL)(c b j:Int)(i:Y8)(h:Int)(g:TL):Z34:=
 cond (ilt b c) (qb (qh d b) λ q=>qb (ye m (re q)) λ p=>qb (qhc m e p) λ o=>r o d c (iw .i64 (qj b 1)) j i h g) (qb (Q4 m e) λ a=>let j1:Z34:=
 (some (T.mk 0 [] 0 [],3));cond (ieq a.length 0) (qb (qR m (T.mk 3 [122,101,114,111] 0 [])) λ n=>cond (qf (ieq n 0)) j1 (some (T.mk 3 [122,101,114,111] 0 [],0))) (cond (ieq a.length 1)
 (qb (qh a 0) λ f=>qb (qR m (re f)) λ l=>cond (qf (ieq l 0)) j1 (some (re f,0))) (qb (qR m (T.mk 3 [120,111,114] 0 a)) λ k=>
 cond (qf (ieq k 0)) j1 (some (T.mk 3 [120,111,114] 0 a,0)))))
def qcd(m:Nat):=yk (λ _ _ _ _ _ _ _ _=>none) λ a=>qgx m a
def qnx:Nat->(TL->Z34):=qi (λ _=>none) λ m _=>qgk m (qcd m m)
def qcp(m:Nat)(a:T):Z2:=
 cond (ieq a.kind 3) (cond (qD a.name [109,117,108]) (some true) (cond (qD a.name [105,110,118]) (some true) (some (qD a.name [111,110,101])))) (some false)
def qan:Nat->Z39:=qi (λ _=>none) λ m _=>qcp m
def qaK(m:Nat)(a:Z26)(d:Z40)(b:T):Z25:=
 qb (zt 0 b.kids) λ c=>d c.2.1.length 0 b.kind b.name b.sort 0 [] 0 c.2.1 []
def qaD(m:Nat)(a:Z26)(o:Z40)(g b f:Int)(e:Y8)(d k:Int)(j:Y8)(i:Int)(c h:TL):Z25:=
 cond (ilt b g) (qb (qh c b) λ n=>qb (a (re n)) λ l=>qb (qh c b) λ p=>o g (iw .i64 (qj b 1)) f e d k j i (yc c b (re l)) h) (some (T.mk f e d c))
def jW(m:Nat)(a:Z26):=yk (λ _ _ _ _ _ _ _ _ _ _=>none) λ b=>qaD m a b
def q9:Nat->Z26:=qi (λ _=>none) λ m a=>qaK m a (jW m a m)
def qbe(m:Nat)(c:T×Int)(b:T):Z15:=
 qb (qv m (re c.1) (re b)) λ a=>some a
def Jg:Nat->((T×Int)->T->Z15):=qi (λ _ _=>none) λ m _=>qbe m
def qz(m:Nat)(c:Z43)(b:List (T×Int))(a:T):Z41:=
 c b b.length 0 b.length a.kind a.name a.sort a.kids
def qy(m:Nat)(k:Z43)(g:List (T×Int))(h a b f:Int)(e:Y8)(d:Int)(c:TL):Z41:=
 cond (ilt a b) (qb (qh g (iw .i64 (qk3 .u64 (iw .u64 (iw .i64 (qj a b))) 1))) λ j=>qb (Jg m (re j.1,j.2) (T.mk f e d c)) λ n=>cond (ilt n 0)
 (k g h (iw .i64 (qj (iw .i64 (qk3 .u64 (iw .u64 (iw .i64 (qj a b))) 1)) 1)) b f e d c) (k g h a (iw .i64 (qk3 .u64 (iw .u64 (iw .i64 (qj a b))) 1)) f e d c)) (cond (ilt a h)
 (qb (qh g a) λ i=>qb (Jg m (re i.1,i.2) (T.mk f e d c)) λ l=>some (a,ieq l 0)) (some (a,false)))
def ql(m:Nat):=yk (λ _ _ _ _ _ _ _ _=>none) λ a=>qy m a
def qF:Nat->(Z42->T->Z41):=qi (λ _ _=>none) λ m _=>qz m (ql m m)
def qcs(m:Nat)(b:List (T×Int))(c:T×Int):Z44:=
 qb (qF m b (re c.1)) λ a=>cond (qf a.2) (qb (q9 m (re c.1)) λ i=>
 qb (zf 0 b a.1 [(re i,c.2)]) λ h=>some ((()),(h.2.1,()))) (qb (qh b a.1) λ e=>qb (qh b a.1) λ d=>
 qb (qh (yc b a.1 (re d.1,iw .i64 (qj e.2 c.2))) a.1) λ g=>cond (ieq g.2 0)
 (qb (zd 0 (yc b a.1 (re d.1,iw .i64 (qj e.2 c.2))) a.1 (iw .i64 (qj a.1 1))) λ f=>some ((()),(f.2.1,())))
 (some ((()),(yc b a.1 (re d.1,iw .i64 (qj e.2 c.2)),()))))
def qap:Nat->(Z42->(T×Int)->Z44):=qi (λ _ _=>none) λ m _=>qcs m
def JQ(m:Nat)(a:Z46)(h:Z47)(e:List (T×Int))(b:T)(d:Int):Z45:=
 qb (qan m (re b)) λ j=>cond (qf j) (qb (qap m e (re b,d)) λ i=>some ((()),(i.2.1,true,()))) (let c:Z45:=(some ((()),([],false,())));let j2:Z45:=
 (let g:Z45:=(let f:Z45:=(cond (qD b.name [105,110,118]) (h (iw .i64 (ja 0 d)) b.kids b.kids.length 0 e) (h d b.kids b.kids.length 0 e));cond (qD b.name [109,117,108])
 (cond (ilt b.kids.length 2) c f) f);cond (qD b.name [105,110,118]) (cond (qf (ieq b.kids.length 1)) c g) g);cond (qD b.name [111,110,101]) (cond (qf (ieq b.kids.length 0)) c j2) j2)
def JR(m:Nat)(a:Z46)(i:Z47)(f:Int)(e:TL)(d b:Int)(c:List (T×Int)):Z45:=
 cond (ilt b d) (qb (qh e b) λ h=>qb (a c (re h) f) λ g=>cond (qf g.2.2.1) (some ((()),([],false,()))) (i f e d (iw .i64 (qj b 1)) g.2.1))
 (some ((()),(c,true,())))
def yM(m:Nat)(a:Z46):=yk (λ _ _ _ _ _=>none) λ b=>JR m a b
def qZ:Nat->Z46:=qi (λ _ _ _=>none) λ m a=>JQ m a (yM m a m)
def qfd(m:Nat)(c:T):Z48:=
 qb (qR m (re c)) λ b=>cond (qf (ieq b 0)) (some ([],b)) (qb (qZ m [] (re c) 1) λ a=>cond (qf a.2.2.1) (some ([],6)) (cond (ilt 200 a.2.1.length) (some ([],3))
 (some (a.2.1,0))))
def qay:Nat->(T->Z48):=qi (λ _=>none) λ m _=>qfd m
def qaE(m:Nat)(b:Z49)(a:List (T×Int)):Z15:=
 cond (ilt 200 a.length) (some 3) (b a a a.length 0)
def qaJ(m:Nat)(g:Z49)(e d:List (T×Int))(c a:Int):Z15:=
 cond (ilt a c) (qb (qh d a) λ b=>qb (qR m (re b.1)) λ f=>cond (qf (ieq f 0)) (some f) (qb (qan m (re b.1)) λ j=>cond j (some 1) (cond (ieq b.2 0) (some 7)
 (cond (ilt b.2 (-1000)) (some 7) (cond (ilt 1000 b.2) (some 7) (cond (ilt 0 a) (qb (qh e (iw .i64 (ja a 1))) λ i=>qb (qv m (re i.1) (re b.1)) λ h=>cond (ile 0 h) (some 5)
 (g e d c (iw .i64 (qj a 1)))) (g e d c (iw .i64 (qj a 1))))))))) (some 0)
def jm(m:Nat):=yk (λ _ _ _ _=>none) λ a=>qaJ m a
def Jv:Nat->Z50:=qi (λ _=>none) λ m _=>qaE m (jm m m)
def qqJ(m:Nat)(b:Y8)(a:TL):Z25:=
 some (T.mk 3 b 0 a)
def qcb:Nat->Z51:=qi (λ _ _=>none) λ m _=>qqJ m
def qbu(m:Nat)(c:Z52)(e d:Z53)(a:List (T×Int)):Z34:=
 qb (Jv m a) λ b=>cond (qf (ieq b 0)) (some (T.mk 0 [] 0 [],b)) (c a a.length 0 0 [] 0 [] [] [])
def qbf(m:Nat)(v:Z52)(t u:Z53)(h:List (T×Int))(g c s:Int)(r:Y8)(q:Int)(p f e:TL):Z34:=
 let d:Z34:=(some (T.mk 0 [] 0 [],3));cond (ilt c g) (qb (qh h c) λ a=>
 cond (ilt 8 a.2) d (cond (ilt a.2 (-8)) d (t h g c a.2 0 s r q a.1.kind a.1.name a.1.sort a.1.kids a.2 p f e))) (qb (zo m [f,e]) λ b=>
 cond (ilt 8 b.length) d (qb (qcb m [109,117,108] b) λ o=>cond (ieq b.length 0) (qb (qcb m [111,110,101] []) λ n=>qb (qR m (re n)) λ l=>cond (qf (ieq l 0))
 (some (T.mk 0 [] 0 [],l)) (some (re n,0))) (cond (ieq b.length 1) (qb (qh b 0) λ k=>qb (qR m (re k)) λ j=>cond (qf (ieq j 0)) (some (T.mk 0 [] 0 [],j)) (some (re k,0)))
 (qb (qR m (re o)) λ i=>cond (qf (ieq i 0)) (some (T.mk 0 [] 0 [],i)) (some (re o,0))))))
def qbr(m:Nat)(u:Z52)(t s:Z53)(q:List (T×Int))(p o n l k:Int)(j:Y8)(i h:Int)(g:Y8)(d:Int)(c:TL)(b:Int)(f a e:TL):Z34:=
 cond (ilt l n) (qb (q9 m (T.mk h g d c)) λ r=>cond (yX (List.length a+1) 56) (t q p o n (iw .i64 (qj l 1)) k j i h g d c b f (a++[re r]) e) none)
 (s q p o (iw .i64 (ja 0 b)) 0 k j i h g d c b f a e)
def qbs(m:Nat)(u:Z52)(v t:Z53)(q:List (T×Int))(p o n l k:Int)(j:Y8)(i h:Int)(g:Y8)(e:Int)(d:TL)(f:Int)(c b a:TL):Z34:=
 cond (ilt l n) (qb (q9 m (T.mk h g e d)) λ s=>qb (qcb m [105,110,118] [re s]) λ r=>cond (yX (List.length a+1) 56)
 (t q p o n (iw .i64 (qj l 1)) k j i h g e d f c b (a++[re r])) none) (u q p (iw .i64 (qj o 1)) k j i c b a)
def qp(m:Nat):=yk ((λ _ _ _ _ _ _ _ _ _=>none,λ _ _ _ _ _ _ _ _ _ _ _ _ _ _ _ _=>none,λ _ _ _ _ _ _ _ _ _ _ _ _ _ _ _ _=>none)) λ a=>(qbf m a.1 a.2.1 a.2.2,qbr m a.1 a.2.1 a.2.2,qbs m a.1 a.2.1 a.2.2)
def Qu:Nat->(Z42->Z34):=qi (λ _=>none) λ m _=>qbu m (qp m m).1 (qp m m).2.1 (qp m m).2.2
def qad(m:Nat)(b:Z54)(a:List (T×Int)):Z44:=
 b a a.length 0 []
def qag(m:Nat)(g:Z54)(d:List (T×Int))(c b:Int)(a:List (T×Int)):Z44:=
 cond (ilt b c) (qb (qh d b) λ e=>qb (q9 m (re e.1)) λ f=>cond (yX (List.length a+1) 64) (g d c (iw .i64 (qj b 1)) (a++[(re f,e.2)])) none) (some ((()),(a,())))
def jA(m:Nat):=yk (λ _ _ _ _=>none) λ a=>qag m a
def qbZ:Nat->(Z42->Z44):=qi (λ _=>none) λ m _=>qad m (jA m m)
def qbi(m:Nat)(a:T×Int):Z2:=
 cond (ilt a.2 (-1000)) (some true) (some (ilt 1000 a.2))
def qaI:Nat->((T×Int)->Z2):=qi (λ _=>none) λ m _=>qbi m
def zh(m:Nat)(b:Z55)(a:List (T×Int)):Z15:=
 b a a.length 0
def qM(m:Nat)(f:Z55)(c:List (T×Int))(b a:Int):Z15:=
 cond (ilt a b) (qb (qh c a) λ d=>qb (qaI m (re d.1,d.2)) λ e=>cond e (some a) (f c b (iw .i64 (qj a 1)))) (some (-1))
def qr(m:Nat):=yk (λ _ _ _=>none) λ a=>qM m a
def zr:Nat->Z50:=qi (λ _=>none) λ m _=>zh m (qr m m)
def zH(m:Nat)(b:List (T×Int)):Z2:=
 qb (zr m b) λ a=>some (ile 0 a)
def zi:Nat->(Z42->Z2):=qi (λ _=>none) λ m _=>zH m
def qcm(m:Nat)(a:List (T×Int)):Z48:=
 qb (zi m a) λ b=>cond b (some ([],7)) (cond (ilt 200 a.length) (some ([],3)) (some (a,0)))
def qb0:Nat->(Z42->Z48):=qi (λ _=>none) λ m _=>qcm m
def qbX(m:Nat)(f:Z56)(d a:List (T×Int)):Z48:=
 qb (Jv m d) λ c=>cond (qf (ieq c 0)) (some ([],c)) (qb (Jv m a) λ b=>cond (qf (ieq b 0)) (some ([],b)) (qb (qbZ m d) λ e=>
 f a a.length 0 e.2.1))
def qbY(m:Nat)(h:Z56)(d:List (T×Int))(c a:Int)(b:List (T×Int)):Z48:=
 cond (ilt a c) (qb (qh d a) λ f=>qb (qap m b (re f.1,f.2)) λ g=>h d c (iw .i64 (qj a 1)) g.2.1) (qb (qb0 m b) λ e=>some (e.1,e.2))
def QD(m:Nat):=yk (λ _ _ _ _=>none) λ a=>qbY m a
def qdZ:Nat->(Z42->Z42->Z48):=qi (λ _ _=>none) λ m _=>qbX m (QD m m)
def qtx(m:Nat)(b:Y8)(a:TL):Z25:=
 some (T.mk 3 b 0 a)
def qeA:Nat->Z51:=qi (λ _ _=>none) λ m _=>qtx m
def qeB(m:Nat)(b l:T):Z34:=
 qb (qay m (re l)) λ a=>cond (qf (ieq a.2 0)) (some (T.mk 0 [] 0 [],a.2)) (qb (yL m (re b) [101,120,112]) λ k=>cond k (qb (qh b.kids 1) λ j=>
 qb (qay m (re j)) λ f=>cond (qf (ieq f.2 0)) (some (T.mk 0 [] 0 [],f.2)) (qb (qdZ m f.1 a.1) λ c=>cond (qf (ieq c.2 0)) (some (T.mk 0 [] 0 [],c.2))
 (qb (qh b.kids 0) λ h=>cond (ieq c.1.length 0) (some (re h,0)) (qb (Qu m c.1) λ e=>cond (qf (ieq e.2 0)) (some (T.mk 0 [] 0 [],e.2))
 (qb (qeA m [101,120,112] [re h,re e.1]) λ i=>some (re i,0)))))) (cond (ieq a.1.length 0) (some (re b,0)) (qb (Qu m a.1) λ d=>cond (qf (ieq d.2 0))
 (some (T.mk 0 [] 0 [],d.2)) (qb (qeA m [101,120,112] [re b,re d.1]) λ g=>some (re g,0)))))
def qem:Nat->(T->T->Z34):=qi (λ _ _=>none) λ m _=>qeB m
def qbq(m:Nat)(a:Z57)(c:Z58)(b:T):Z34:=
 cond (qf (ieq b.kind 3)) (some (re b,0)) (c b.kids b.kids.length 0 b.kind b.name b.sort b.kids 0 [] 0 3 b.name 0 [] [])
def qbb(m:Nat)(a:Z57)(C:Z58)(s:TL)(r k z:Int)(c:Y8)(y:Int)(x:TL)(w:Int)(v:Y8)(u f:Int)(e:Y8)(d:Int)(l b:TL):Z34:=
 cond (ilt k r) (qb (qh s k) λ B=>qb (a (re B)) λ n=>cond (qf (ieq n.2 0)) (some (T.mk 0 [] 0 [],n.2)) (cond (yX (List.length b+1) 56)
 (C s r (iw .i64 (qj k 1)) z c y x w v u f e d l (b++[re n.1])) none)) (let h:Z34:=(qb (qaX m (T.mk f e d b)) λ A=>some (re A,0));
 cond (qD c [102,115,116]) h (cond (qD c [115,110,100]) h (cond (qD c [100,101,99]) h (cond (qD c [97,100,101,99]) h (cond (qD c [111,112,101,110]) h (cond (qD c [114,101,97,100]) h (cond (qD c [120,111,114])
 (qb (qnx m b) λ t=>some (re t.1,t.2)) (let q:Z34:=(qb (qay m (T.mk f e d b)) λ g=>cond (qf (ieq g.2 0)) (some (T.mk 0 [] 0 [],g.2))
 (qb (Qu m g.1) λ j=>some (re j.1,j.2)));cond (qD c [109,117,108]) q (cond (qD c [105,110,118]) q (cond (qD c [111,110,101]) q (cond (qD c [101,120,112])
 (qb (qh b 0) λ p=>qb (qh b 1) λ o=>qb (qem m (re p) (re o)) λ i=>some (re i.1,i.2)) (some (T.mk f e d b,0)))))))))))))
def Qo(m:Nat)(a:Z57):=yk (λ _ _ _ _ _ _ _ _ _ _ _ _ _ _ _=>none) λ b=>qbb m a b
def zZ:Nat->Z57:=qi (λ _=>none) λ m a=>qbq m a (Qo m a m)
def qdB(m:Nat)(d:T):Z34:=
 qb (Jy m (re d)) λ c=>cond (qf (ieq c 0)) (some (T.mk 0 [] 0 [],c)) (qb (zZ m (re d)) λ a=>cond (ieq a.2 0) (qb (qR m (re a.1)) λ b=>cond (qf (ieq b 0))
 (some (T.mk 0 [] 0 [],b)) (some (re a.1,0))) (cond (qf (ieq a.2 0)) (some (T.mk 0 [] 0 [],a.2)) (some (re a.1,0))))
def qdu:Nat->Z57:=qi (λ _=>none) λ m _=>qdB m
def qcW(m:Nat)(b:Y8):Z2:=
 qb (J6 m b) λ a=>some (qf (ieq a.2.2.2 3))
def qcT:Nat->Z10:=qi (λ _=>none) λ m _=>qcW m
def QZ(m:Nat)(a:Z39)(c:Z59)(b:T):Z2:=
 cond (ieq b.kind 3) (qb (qcT m b.name) λ d=>cond (qf d) (some false) (c b.kids b.kids.length 0)) (c b.kids b.kids.length 0)
def Q5(m:Nat)(a:Z39)(g:Z59)(d:TL)(c b:Int):Z2:=
 cond (ilt b c) (qb (qh d b) λ f=>qb (a (re f)) λ e=>cond (qf e) (some false) (g d c (iw .i64 (qj b 1)))) (some true)
def yd(m:Nat)(a:Z39):=yk (λ _ _ _=>none) λ b=>Q5 m a b
def qO:Nat->Z39:=qi (λ _=>none) λ m a=>QZ m a (yd m a m)
def qes(m:Nat)(a:T):Z2:=
 qb (qdu m (re a)) λ b=>cond (ieq b.2 0) (qb (QN m (re b.1) (re a)) λ d=>cond d (qb (qO m (re a)) λ c=>some c) (some false)) (some false)
def qcy:Nat->Z39:=qi (λ _=>none) λ m _=>qes m
def qcq(m:Nat)(b:Y8):Z60:=
 qb (yO m (b,(0,false))) λ a=>cond a.1.1.2.2 (some (T.mk 0 [] 0 [],a.1.1.2.1,2)) (cond (qf (ieq a.1.1.2.1 b.length)) (some (T.mk 0 [] 0 [],a.1.1.2.1,2))
 (qb (qR m (re a.2.1)) λ d=>cond (ieq d 3) (some (T.mk 0 [] 0 [],0,3)) (qb (qcy m (re a.2.1)) λ c=>cond (qf c) (some (T.mk 0 [] 0 [],0,10)) (some (re a.2.1,0,0)))))
def Qk:Nat->(Y8->Z60):=qi (λ _=>none) λ m _=>qcq m
def qhQ(m:Nat)(c:T)(b:Int)(a:TL):Z61:=
 cond (ieq c.kind b) (cond (yX (List.length a+1) 56) (qb (qh (a++[T.mk 0 [] 0 []]) a.length) λ d=>some ((b,yc (a++[T.mk 0 [] 0 []]) a.length (re c),()),(()))) none)
 (some ((b,a,()),(())))
def qdX:Nat->Z62:=qi (λ _ _ _=>none) λ m _=>qhQ m
def qd6(m:Nat)(a:Z62)(f:Z63)(d:T)(c:Int)(b:TL):Z61:=
 qb (qdX m (re d) c b) λ e=>f d.kids d.kids.length 0 e.1.1 e.1.2.1
def qk8(m:Nat)(a:Z62)(i:Z63)(f:TL)(e b d:Int)(c:TL):Z61:=
 cond (ilt b e) (qb (qh f b) λ h=>qb (a (re h) d c) λ g=>i f e (iw .i64 (qj b 1)) g.1.1 g.1.2.1) (some ((d,c,()),(())))
def qeL(m:Nat)(a:Z62):=yk (λ _ _ _ _ _=>none) λ b=>qk8 m a b
def qaH:Nat->Z62:=qi (λ _ _ _=>none) λ m a=>qd6 m a (qeL m a m)
def yW:Nat->TL->Option (TL):=qi (λ _=>none) λ m _=>qpt (qv m)
def qnI(m:Nat)(c b:T):Z2:=
 qb (qv m (re c) (re b)) λ a=>some (ieq a 0)
def qeZ:Nat->Z24:=qi (λ _ _=>none) λ m _=>qnI m
def yw:Nat->TL->Option (Unit×TL×Unit):=qi (λ _=>none) λ m _=>qyY (qeZ m)
def qiL(m:Nat)(d:Z65)(c:TL):Z64:=
 qb (yW m c) λ b=>cond (Nat.beq b.length c.length) (qb (yw m b) λ a=>d a.2.1.length 0 a.2.1) none
def qqf(m:Nat)(f:Z65)(c a:Int)(b:TL):Z64:=
 cond (ilt a c) (qb (qh b a) λ e=>qb (yR m (re e)) λ d=>qb (qh b a) λ g=>f c (iw .i64 (qj a 1)) (yc b a (re d))) (some ((()),(b,())))
def qjg(m:Nat):=yk (λ _ _ _=>none) λ a=>qqf m a
def ql8:Nat->(Z13->Z64):=qi (λ _=>none) λ m _=>qiL m (qjg m m)
def qr3(m:Nat)(d:T)(c:Int):Z27:=
 qb (qaH m (re d) c []) λ b=>qb (ql8 m b.1.2.1) λ a=>some a.2.1
def qn0:Nat->(T->Int->Z27):=qi (λ _ _=>none) λ m _=>qr3 m
def quR(m:Nat)(b:T):Z27:=
 qb (qn0 m (re b) 1) λ a=>some a
def qsX:Nat->Z31:=qi (λ _=>none) λ m _=>quR m
def qhw(m:Nat)(b:Y8×(Int×Int))(a:T):Z66:=
 some ((re a,()),(qD b.1 a.name,()))
def qdJ:Nat->((Y8×(Int×Int))->T->Z66):=qi (λ _ _=>none) λ m _=>qhw m
def yr(m:Nat)(c:Z68)(b:List (Y8×(Int×Int)))(a:T):Z67:=
 c b b.length 0 a.kind a.name a.sort a.kids
def Qv(m:Nat)(j:Z68)(i:List (Y8×(Int×Int)))(h b g:Int)(f:Y8)(e:Int)(d:TL):Z67:=
 cond (ilt b h) (qb (qh i b) λ c=>qb (qdJ m (c.1,(c.2.1,c.2.2)) (T.mk g f e d)) λ a=>cond a.2.1 (some ((re a.1.1,()),(b,())))
 (j i h (iw .i64 (qj b 1)) a.1.1.kind a.1.1.name a.1.1.sort a.1.1.kids)) (some ((T.mk g f e d,()),((-1),())))
def yx(m:Nat):=yk (λ _ _ _ _ _ _ _=>none) λ a=>Qv m a
def yJ:Nat->((List (Y8×(Int×Int)))->T->Z67):=qi (λ _ _=>none) λ m _=>yr m (yx m m)
def qf7(m:Nat)(a:Z70)(f:Z71)(d:List (Int))(c:T):Z69:=
 cond (qf (ieq c.kind 3)) (cond (yX (List.length d+2) 1) (cond (yX (List.length (d++[iw .u8 c.sort,iw .u8 c.name.length])+List.length (JM c.name)) 1)
 (some ((()),((d++[iw .u8 c.sort,iw .u8 c.name.length])++(JM c.name),()))) none) none) (qb (zN m) λ i=>
 qb (yJ m i (re c)) λ b=>cond (yX (List.length d+1) 1) (qb (zN m) λ h=>qb (qh h b.2.1) λ e=>
 qb (zW m (e.1,(e.2.1,e.2.2))) λ g=>cond g (cond (yX (List.length (d++[iw .u8 (iw .i64 (qj 16 b.2.1))])+1) 1)
 (f b.1.1.kids b.1.1.kids.length 0 ((d++[iw .u8 (iw .i64 (qj 16 b.2.1))])++[iw .u8 b.1.1.kids.length])) none) (f b.1.1.kids b.1.1.kids.length 0 (d++[iw .u8 (iw .i64 (qj 16 b.2.1))]))) none)
def qnH(m:Nat)(a:Z70)(h:Z71)(e:TL)(d b:Int)(c:List (Int)):Z69:=
 cond (ilt b d) (qb (qh e b) λ g=>qb (a c (re g)) λ f=>h e d (iw .i64 (qj b 1)) f.2.1) (some ((()),(c,())))
def qho(m:Nat)(a:Z70):=yk (λ _ _ _ _=>none) λ b=>qnH m a b
def qcF:Nat->Z70:=qi (λ _ _=>none) λ m a=>qf7 m a (qho m a m)
def qmN(m:Nat)(a:T):Z72:=
 qb (Jy m (re a)) λ b=>cond (qf (ieq b 0)) (some ([],b)) (qb (qsX m (re a)) λ e=>cond (ilt 0 e.length) (some ([],13)) (qb (qcy m (re a)) λ d=>cond (qf d)
 (some ([],10)) (qb (qcF m [] (re a)) λ c=>some (zQ c.2.1,0))))
def qir:Nat->(T->Z72):=qi (λ _=>none) λ m _=>qmN m
def qos(m:Nat)(a:Y8):Z2:=
 cond (qD a [120,111,114]) (some false) (cond (qD a [122,101,114,111]) (some false) (cond (qD a [101,120,112]) (some false) (cond (qD a [109,117,108]) (some false) (cond (qD a [105,110,118])
 (some false) (cond (qD a [111,110,101]) (some false) (qb (J6 m a) λ b=>some (qf (ieq b.2.2.2 3))))))))
def qlc:Nat->Z10:=qi (λ _=>none) λ m _=>qos m
def qdj(m:Nat)(a:Z39)(c:Z59)(b:T):Z2:=
 cond (ieq b.kind 3) (qb (qlc m b.name) λ d=>cond (qf d) (some false) (c b.kids b.kids.length 0)) (c b.kids b.kids.length 0)
def qi0(m:Nat)(a:Z39)(g:Z59)(d:TL)(c b:Int):Z2:=
 cond (ilt b c) (qb (qh d b) λ f=>qb (a (re f)) λ e=>cond (qf e) (some false) (g d c (iw .i64 (qj b 1)))) (some true)
def qdK(m:Nat)(a:Z39):=yk (λ _ _ _=>none) λ b=>qi0 m a b
def JU:Nat->Z39:=qi (λ _=>none) λ m a=>qdj m a (qdK m a m)
def qsk(m:Nat)(a:T):Z2:=
 qb (Jy m (re a)) λ c=>cond (ieq c 0) (qb (JU m (re a)) λ b=>some b) (some false)
def qof:Nat->Z39:=qi (λ _=>none) λ m _=>qsk m
def qlw(m:Nat)(b:T):Z15:=
 qb (Jy m (re b)) λ a=>cond (qf (ieq a 0)) (some a) (qb (qof m (re b)) λ c=>cond (qf c) (some 10) (some 0))
def qhu:Nat->Z16:=qi (λ _=>none) λ m _=>qlw m
def qek(m:Nat)(b:Z20)(a:TL):Z15:=
 cond (ilt 200 a.length) (some 3) (b a a.length 0)
def qkN(m:Nat)(f:Z20)(c:TL)(b a:Int):Z15:=
 cond (ilt a b) (qb (qh c a) λ e=>qb (qhu m (re e)) λ d=>cond (qf (ieq d 0)) (some d) (f c b (iw .i64 (qj a 1)))) (some 0)
def qeM(m:Nat):=yk (λ _ _ _=>none) λ a=>qkN m a
def qf8:Nat->(TL->Z15):=qi (λ _=>none) λ m _=>qek m (qeM m m)
def qh9(m:Nat)(a:Z74)(d:Z75)(e:Z76)(c:List (T×T))(b:T):Z25:=
 d c c c.length 0 b.kind b.name b.sort b.kids 0 [] 0 []
def qpG(m:Nat)(a:Z74)(r:Z75)(q:Z76)(n l:List (T×T))(k h g:Int)(f:Y8)(e:Int)(d:TL)(j:Int)(i:Y8)(c:Int)(b:TL):Z25:=
 cond (ilt h k) (qb (qh l h) λ o=>qb (qv m (re o.1) (T.mk g f e d)) λ p=>cond (ieq p 0) (some (re o.2)) (r n l k (iw .i64 (qj h 1)) g f e d j i c b))
 (q n d d.length 0 j i c g f e b [])
def qpP(m:Nat)(a:Z74)(r:Z75)(q:Z76)(j:List (T×T))(i:TL)(h c n:Int)(l:Y8)(k g:Int)(f:Y8)(e:Int)(d b:TL):Z25:=
 cond (ilt c h) (qb (qh i c) λ p=>qb (a j (re p)) λ o=>cond (yX (List.length b+1) 56) (q j i h (iw .i64 (qj c 1)) n l k g f e d (b++[re o])) none)
 (some (T.mk g f e b))
def qcR(m:Nat)(a:Z74):=yk ((λ _ _ _ _ _ _ _ _ _ _ _ _=>none,λ _ _ _ _ _ _ _ _ _ _ _ _=>none)) λ b=>(qpG m a b.1 b.2,qpP m a b.1 b.2)
def qcn:Nat->Z74:=qi (λ _ _=>none) λ m a=>qh9 m a (qcR m a m).1 (qcR m a m).2
def qgj(m:Nat)(a:Int):Z77:=
 cond (ilt a 10) (cond (inb (iw .i64 (qj a 1))
 (List.length [48,49,50,51,52,53,54,55,56,57,97,98,99,100,101,102,103,104,105,106,107,108,109,110,111,112,113,114,115,116,117,118,119,120,121,122]))
 (cond (inb a (Int.toNat (iw .i64 (qj a 1))))
 (some (yv [48,49,50,51,52,53,54,55,56,57,97,98,99,100,101,102,103,104,105,106,107,108,109,110,111,112,113,114,115,116,117,118,119,120,121,122] a (iw .i64 (qj a 1)))) none) none)
 (cond (inb (iw .i64 (qj (iw .i64 (qlI a 2)) 2))
 (List.length [48,48,48,49,48,50,48,51,48,52,48,53,48,54,48,55,48,56,48,57,49,48,49,49,49,50,49,51,49,52,49,53,49,54,49,55,49,56,49,57,50,48,50,49,50,50,50,51,50,52,50,53,50,54,50,55,50,56,50,57,51,48,51,49,51,50,51,51,51,52,51,53,51,54,51,55,51,56,51,57,52,48,52,49,52,50,52,51,52,52,52,53,52,54,52,55,52,56,52,57,53,48,53,49,53,50,53,51,53,52,53,53,53,54,53,55,53,56,53,57,54,48,54,49,54,50,54,51,54,52,54,53,54,54,54,55,54,56,54,57,55,48,55,49,55,50,55,51,55,52,55,53,55,54,55,55,55,56,55,57,56,48,56,49,56,50,56,51,56,52,56,53,56,54,56,55,56,56,56,57,57,48,57,49,57,50,57,51,57,52,57,53,57,54,57,55,57,56,57,57]))
 (cond (inb (iw .i64 (qlI a 2)) (Int.toNat (iw .i64 (qj (iw .i64 (qlI a 2)) 2))))
 (some (yv [48,48,48,49,48,50,48,51,48,52,48,53,48,54,48,55,48,56,48,57,49,48,49,49,49,50,49,51,49,52,49,53,49,54,49,55,49,56,49,57,50,48,50,49,50,50,50,51,50,52,50,53,50,54,50,55,50,56,50,57,51,48,51,49,51,50,51,51,51,52,51,53,51,54,51,55,51,56,51,57,52,48,52,49,52,50,52,51,52,52,52,53,52,54,52,55,52,56,52,57,53,48,53,49,53,50,53,51,53,52,53,53,53,54,53,55,53,56,53,57,54,48,54,49,54,50,54,51,54,52,54,53,54,54,54,55,54,56,54,57,55,48,55,49,55,50,55,51,55,52,55,53,55,54,55,55,55,56,55,57,56,48,56,49,56,50,56,51,56,52,56,53,56,54,56,55,56,56,56,57,57,48,57,49,57,50,57,51,57,52,57,53,57,54,57,55,57,56,57,57] (iw .i64 (qlI a 2))
 (iw .i64 (qj (iw .i64 (qlI a 2)) 2)))) none) none)
def qdh:Nat->Z78:=qi (λ _=>none) λ m _=>qgj m
def qeD(m:Nat)(a d:Int):Z77:=
 cond (ieq d 10) (let b:Z77:=(cond (ilt a 0) none none);cond (ile 0 a) (cond (ilt a 100) (qb (qdh m a) λ c=>some c) b) b) none
def qbF:Nat->(Int->Int->Z77):=qi (λ _ _=>none) λ m _=>qeD m
def qhd(m:Nat)(b:Int):Z77:=
 qb (qbF m b 10) λ a=>some a
def qdT:Nat->Z78:=qi (λ _=>none) λ m _=>qhd m
def qp3(m:Nat)(b:Int):Z77:=
 qb (qdT m b) λ a=>some a
def qhe:Nat->Z78:=qi (λ _=>none) λ m _=>qp3 m
def qf4(m:Nat)(b:Z80)(g:Z81)(a:T)(e:Y8)(c:List (Y8×Y8)):Z79:=
 cond (ieq a.kind 1) (qb (qhe m a.sort) λ d=>cond (qcH d a.name) (cond (qD (qj3 (veq .str) [] c (d++a.name)) []) (qb (qhe m c.length) λ f=>cond (qcH e f)
 (g e a.kids a.kids.length 0 (qiS (veq .str) c (d++a.name) (e++f)) 0 [] 0 a.kind (qj3 (veq .str) [] (qiS (veq .str) c (d++a.name) (e++f)) (d++a.name)) a.sort [] []) none)
 (g e a.kids a.kids.length 0 c 0 [] 0 a.kind (qj3 (veq .str) [] c (d++a.name)) a.sort [] [])) none) (g e a.kids a.kids.length 0 c 0 [] 0 a.kind a.name a.sort [] [])
def qnF(m:Nat)(a:Z80)(r:Z81)(k:Y8)(j:TL)(i d:Int)(h:List (Y8×Y8))(p:Int)(o:Y8)(n g:Int)(f:Y8)(c:Int)(e b:TL):Z79:=
 cond (ilt d i) (qb (qh j d) λ q=>qb (a (re q) k h) λ l=>cond (yX (List.length b+1) 56)
 (r k j i (iw .i64 (qj d 1)) l.1.1 p o n g f c e (b++[re l.2.1])) none) (some ((h,()),(T.mk g f c b,())))
def qg3(m:Nat)(a:Z80):=yk (λ _ _ _ _ _ _ _ _ _ _ _ _ _=>none) λ b=>qnF m a b
def qaP:Nat->Z80:=qi (λ _ _ _=>none) λ m a=>qf4 m a (qg3 m a m)
def qr1(m:Nat)(d c:T):Z15:=
 qb (qR m (re d)) λ a=>cond (qf (ieq a 0)) (some a) (qb (qR m (re c)) λ b=>some b)
def qn9:Nat->Z22:=qi (λ _ _=>none) λ m _=>qr1 m
def qtw(m:Nat)(c b:T):Z2:=
 qb (qv m (re c) (re b)) λ a=>some (ieq a 0)
def qka:Nat->Z24:=qi (λ _ _=>none) λ m _=>qtw m
def qrp(m:Nat)(a:T):Z2:=
 some (ieq a.kind 1)
def qbN:Nat->Z39:=qi (λ _=>none) λ m _=>qrp m
def qtC(m:Nat)(a b:T):Z2:=
 qb (qR m (re a)) λ d=>cond (qf (ieq d 0)) (some false) (qb (qR m (re b)) λ c=>cond (qf (ieq c 0)) (some false) (cond (qf (ieq a.kind 1)) (some false) (cond (ieq a.sort 0)
 (some true) (cond (qf (ieq b.kind 3)) (some (ieq b.sort a.sort)) (some false)))))
def qkJ:Nat->Z24:=qi (λ _ _=>none) λ m _=>qtC m
def qrC(m:Nat)(b a:T):Z2:=
 cond (ieq b.kind 3) (cond (ieq a.kind 3) (cond (qD b.name a.name) (some (ieq b.kids.length a.kids.length)) (some false)) (some false)) (some false)
def qn6:Nat->Z24:=qi (λ _ _=>none) λ m _=>qrC m
def qub(m:Nat)(a:T):(Option (Y8×Int)):=
 some (a.name,a.sort)
def qlM:Nat->(T->(Option (Y8×Int))):=qi (λ _=>none) λ m _=>qub m
def qlC(m:Nat)(b:Z84)(f:Z85)(c:List ((Y8×Int)×T))(a:T):Z83:=
 qb (qbN m (re a)) λ e=>cond e (qb (qlM m (re a)) λ d=>cond (qt7 (veq (.pair .str (.int .i64))) c (d.1,d.2)) (some ((c,()),(re (qj3 (veq (.pair .str (.int .i64)))
 (T.mk 0 [] 0 []) c (d.1,d.2)),()))) (some ((c,()),(re a,())))) (cond (ieq a.kids.length 0) (some ((c,()),(re a,()))) (cond (qtS a.kids.length 56)
 (f a.kids a.kids.length 0 c a.kind a.name a.sort a.kids 0 [] 0 [] (List.replicate (Int.toNat a.kids.length) (T.mk 0 [] 0 []):TL)) none))
def qvV(m:Nat)(a:Z84)(r:Z85)(k:TL)(j c:Int)(i:List ((Y8×Int)×T))(h:Int)(g:Y8)(f:Int)(p:TL)(o:Int)(n:Y8)(e:Int)(d b:TL):Z83:=
 cond (ilt c j) (qb (qh k c) λ q=>qb (a i (re q)) λ l=>qb (qh b c) λ s=>r k j (iw .i64 (qj c 1)) l.1.1 h g f p o n e d (yc b c (re l.2.1)))
 (some ((i,()),(T.mk h g f b,())))
def qn1(m:Nat)(a:Z84):=yk (λ _ _ _ _ _ _ _ _ _ _ _ _ _=>none) λ b=>qvV m a b
def qce:Nat->Z84:=qi (λ _ _=>none) λ m a=>qlC m a (qn1 m a m)
def qeJ(m:Nat)(f g:Z87)(c:(List (T×T))×(List (T×T))×Unit)(b a:T):Z86:=
 qb (qlM m (re b)) λ e=>qb (yA 0 c.1) λ d=>
 f d.2.1.length 0 c.1 b.kind b.name b.sort b.kids a.kind a.name a.sort a.kids true (qiS (veq (.pair .str (.int .i64))) ([]:List ((Y8×Int)×T)) (e.1,e.2) (re a)) c.2.1 d.2.1
def qlo(m:Nat)(v B:Z87)(t a:Int)(s:List (T×T))(r:Int)(q:Y8)(p:Int)(o:TL)(n:Int)(l:Y8)(k:Int)(d:TL)(h:Bool)(g:List ((Y8×Int)×T))(c b:List (T×T)):Z86:=
 cond (ilt a t) (qb (qh b a) λ f=>qb (qce m g (re f.1)) λ e=>cond h (qb (qh (yc b a (re e.2.1,re f.2)) a) λ A=>qb (qR m (re A.1)) λ z=>
 qb (qh (yc b a (re e.2.1,re f.2)) a) λ u=>qb (qce m e.1.1 (re u.2)) λ i=>cond (ieq z 0) (qb (qh (yc (yc b a (re e.2.1,re f.2)) a (re u.1,re i.2.1)) a) λ y=>
 qb (qR m (re y.2)) λ x=>v t (iw .i64 (qj a 1)) s r q p o n l k d (ieq x 0) i.1.1 c (yc (yc b a (re e.2.1,re f.2)) a (re u.1,re i.2.1)))
 (v t (iw .i64 (qj a 1)) s r q p o n l k d false i.1.1 c (yc (yc b a (re e.2.1,re f.2)) a (re u.1,re i.2.1)))) (qb (qh (yc b a (re e.2.1,re f.2)) a) λ w=>
 qb (qce m e.1.1 (re w.2)) λ j=>v t (iw .i64 (qj a 1)) s r q p o n l k d false j.1.1 c (yc (yc b a (re e.2.1,re f.2)) a (re w.1,re j.2.1))))
 (B c.length 0 s r q p o n l k d h g c b)
def qlt(m:Nat)(v s:Z87)(q d:Int)(r:List (T×T))(n:Int)(l:Y8)(k:Int)(j:TL)(i:Int)(h:Y8)(g:Int)(c:TL)(e:Bool)(p:List ((Y8×Int)×T))(a b:List (T×T)):Z86:=
 cond (ilt d q) (qb (qh a d) λ o=>qb (qce m p (re o.2)) λ f=>cond e (qb (qh (yc a d (re o.1,re f.2.1)) d) λ u=>qb (qR m (re u.2)) λ t=>
 s q (iw .i64 (qj d 1)) r n l k j i h g c (ieq t 0) f.1.1 (yc a d (re o.1,re f.2.1)) b)
 (s q (iw .i64 (qj d 1)) r n l k j i h g c false f.1.1 (yc a d (re o.1,re f.2.1)) b)) (cond (yX (List.length a+1) 112) (cond (qf e)
 (some (((b,a++[(T.mk n l k j,T.mk i h g c)],()),()),(3,()))) (some (((b,a++[(T.mk n l k j,T.mk i h g c)],()),()),(0,())))) none)
def qak(m:Nat):=yk ((λ _ _ _ _ _ _ _ _ _ _ _ _ _ _ _=>none,λ _ _ _ _ _ _ _ _ _ _ _ _ _ _ _=>none)) λ a=>(qlo m a.1 a.2,qlt m a.1 a.2)
def JI:Nat->Z89:=qi (λ _ _ _=>none) λ m _=>qeJ m (qak m m).1 (qak m m).2
def qmO(m:Nat)(a:(List (T×T))×(List (T×T))×Unit)(c b:T):Z86:=
 let f:Z86:=(qb (JI m (a.1,a.2.1,()) (re c) (re b)) λ d=>some (((d.1.1.1,d.1.1.2.1,()),()),(d.2.1,())));let j2:Z86:=(qb (JI m (a.1,a.2.1,()) (re b)
 (re c)) λ e=>some (((e.1.1.1,e.1.1.2.1,()),()),(e.2.1,())));cond (ieq c.sort b.sort) (qb (qv m (re c) (re b)) λ g=>cond (ilt g 0) j2 f)
 (cond (ieq b.sort 0) j2 (cond (qf (ieq c.sort 0)) (some (((a.1,a.2.1,()),()),(11,()))) f))
def qii:Nat->Z89:=qi (λ _ _ _=>none) λ m _=>qmO m
def qqm(m:Nat)(d:Z24)(a:Z90)(c:Z91)(b:Z92)(f e:T):Z2:=
 qb (qka m (re f) (re e)) λ h=>cond h (some true) (qb (a e.kids (re f)) λ g=>some g.2.1)
def JK(m:Nat)(d:Z24)(b:Z90)(c:Z91)(a:Z92)(g:TL)(e:T):Z66:=
 qb (a g (re e)) λ f=>some ((re f.1.1,()),(ile 0 f.2.1,()))
def qiR(m:Nat)(c:Z24)(a:Z90)(d:Z91)(b:Z92)(g e:T):Z66:=
 qb (c (re e) (re g)) λ f=>some ((re e,()),(f,()))
def jF(m:Nat)(e:Z24)(a:Z90)(c:Z91)(b:Z92)(g:Z93)(f:TL)(d:T):Z67:=
 g f f.length 0 d.kind d.name d.sort d.kids
def qaq(m:Nat)(d:Z24)(a:Z90)(c:Z91)(b:Z92)(o:Z93)(l:TL)(k f j:Int)(i:Y8)(h:Int)(g:TL):Z67:=
 cond (ilt f k) (qb (qh l f) λ n=>qb (c (re n) (T.mk j i h g)) λ e=>cond e.2.1 (some ((re e.1.1,()),(f,())))
 (o l k (iw .i64 (qj f 1)) e.1.1.kind e.1.1.name e.1.1.sort e.1.1.kids)) (some ((T.mk j i h g,()),((-1),())))
def jL(m:Nat)(d:Z24)(a:Z90)(c:Z91)(b:Z92):=yk (λ _ _ _ _ _ _ _=>none) λ e=>qaq m d a c b e
def qbh:Nat->(Z24)×(Z90)×(Z91)×(Z92):=qi (λ _ _=>none,λ _ _=>none,λ _ _=>none,λ _ _=>none) λ m q=>(qqm m q.1 q.2.1 q.2.2.1 q.2.2.2,JK m q.1 q.2.1 q.2.2.1 q.2.2.2,qiR m q.1 q.2.1 q.2.2.1 q.2.2.2,jF m q.1 q.2.1 q.2.2.1 q.2.2.2 (jL m q.1 q.2.1 q.2.2.1 q.2.2.2 m))
def qb7:Nat->Z24:=λ k=>(qbh k).1
def yi:Nat->Z90:=λ k=>(qbh k).2.1
def qbS:Nat->Z91:=λ k=>(qbh k).2.2.1
def yE:Nat->Z92:=λ k=>(qbh k).2.2.2
def qeG(m:Nat)(r:Z94)(a:(List (T×T))×(List (T×T))×Unit):Z86:=
 qb (qh a.1 0) λ b=>qb (qh a.1 0) λ c=>cond (inb a.1.length a.1.length) (cond (inb 1 (Int.toNat a.1.length)) (qb (qka m (re b.1) (re c.2)) λ q=>
 cond q (some (((yv a.1 1 a.1.length,a.2.1,()),()),(0,()))) (qb (qn6 m (re b.1) (re c.2)) λ p=>
 cond p (r b.1.kids.length 0 (yv a.1 1 a.1.length) b.1.kind b.1.name b.1.sort b.1.kids c.2.kind c.2.name c.2.sort c.2.kids a.2.1 []) (qb (qbN m (re b.1)) λ o=>let j1:Z86:=
 (qb (qbN m (re c.2)) λ l=>let j2:Z86:=(some (((yv a.1 1 a.1.length,a.2.1,()),()),(11,())));cond l (qb (qkJ m (re c.2) (re b.1)) λ k=>
 cond (qf k) j2 (qb (qb7 m (re c.2) (re b.1)) λ j=>cond j (some (((yv a.1 1 a.1.length,a.2.1,()),()),(12,()))) (qb (JI m (yv a.1 1 a.1.length,a.2.1,()) (re c.2)
 (re b.1)) λ e=>some (((e.1.1.1,e.1.1.2.1,()),()),(e.2.1,()))))) (qb (qbN m (re b.1)) λ i=>cond (qf i) j2 (qb (qkJ m (re b.1) (re c.2)) λ h=>
 cond (qf h) j2 (qb (qb7 m (re b.1) (re c.2)) λ g=>cond g (some (((yv a.1 1 a.1.length,a.2.1,()),()),(12,()))) (qb (JI m (yv a.1 1 a.1.length,a.2.1,())
 (re b.1) (re c.2)) λ d=>some (((d.1.1.1,d.1.1.2.1,()),()),(d.2.1,())))))));cond o (qb (qbN m (re c.2)) λ n=>cond n (qb (qii m (yv a.1 1 a.1.length,a.2.1,())
 (re b.1) (re c.2)) λ f=>some (((f.1.1.1,f.1.1.2.1,()),()),(f.2.1,()))) j1) j1))) none) none
def qly(m:Nat)(q:Z94)(g d:Int)(e:List (T×T))(n:Int)(l:Y8)(k:Int)(f:TL)(j:Int)(i:Y8)(h:Int)(c:TL)(b a:List (T×T)):Z86:=
 cond (ilt d g) (qb (qh f d) λ p=>qb (qh c d) λ o=>cond (yX (List.length a+1) 112) (q g (iw .i64 (qj d 1)) e n l k f j i h c b (a++[(re p,re o)])) none)
 (cond (yX (List.length a+List.length e) 112) (some (((a++e,b,()),()),(0,()))) none)
def qfz(m:Nat):=yk (λ _ _ _ _ _ _ _ _ _ _ _ _ _=>none) λ a=>qly m a
def qhv:Nat->(Z88->Z86):=qi (λ _=>none) λ m _=>qeG m (qfz m m)
def qkv(m:Nat)(c b:T×T):Z15:=
 qb (qv m (re c.1) (re b.1)) λ a=>some a
def qc1:Nat->((T×T)->(T×T)->Z15):=qi (λ _ _=>none) λ m _=>qkv m
def zV:Nat->List (T×T)->Option (List (T×T)):=qi (λ _=>none) λ m _=>qpt (qc1 m)
def ql0(m:Nat)(b:List (T×T)):Z95:=
 qb (zV m b) λ a=>cond (Nat.beq a.length b.length) (some ((()),(a,()))) none
def qip:Nat->(Z73->Z95):=qi (λ _=>none) λ m _=>ql0 m
def qjn(m:Nat)(b:Z97)(a:List (T×T)):Z96:=
 b a []
def qr4(m:Nat)(e:Z97)(c b:List (T×T)):Z96:=
 cond (ilt 0 c.length) (qb (qhv m (c,b,())) λ a=>cond (qf (ieq a.2.1 0)) (some ([],a.2.1)) (e a.1.1.1 a.1.1.2.1)) (qb (qip m b) λ d=>some (d.2.1,0))
def qle(m:Nat):=yk (λ _ _=>none) λ a=>qr4 m a
def qoc:Nat->(Z73->Z96):=qi (λ _=>none) λ m _=>qjn m (qle m m)
def qrk(m:Nat)(d c:T):Z96:=
 qb (qn9 m (re d) (re c)) λ b=>cond (qf (ieq b 0)) (some ([],b)) (qb (qoc m [(re d,re c)]) λ a=>some (a.1,a.2))
def qoe:Nat->(T->T->Z96):=qi (λ _ _=>none) λ m _=>qrk m
def qex(m:Nat)(c:Z99)(d:qCq)(a:TL):Z98:=
 qb (qf8 m a) λ b=>cond (qf (ieq b 0)) (some (0,0,T.mk 0 [] 0 [],b)) (c a a.length 0 0 [] 0 [])
def qj4(m:Nat)(k:Z99)(j:qCq)(d:TL)(c a h:Int)(g:Y8)(f:Int)(e:TL):Z98:=
 cond (ilt a c) (qb (qh d a) λ i=>qb (qaP m (re i) [97] []) λ b=>j d a (iw .i64 (qj a 1)) c a h g f b.2.1.kind b.2.1.name b.2.1.sort b.2.1.kids e)
 (some (0,0,T.mk 0 [] 0 [],15))
def qkP(m:Nat)(u:Z99)(q:qCq)(e:TL)(n d l k j:Int)(i:Y8)(h g:Int)(f:Y8)(b:Int)(a c:TL):Z98:=
 cond (ilt d e.length) (qb (qh e d) λ t=>qb (qaP m (re t) [98] []) λ s=>qb (qoe m (T.mk g f b a) (re s.2.1)) λ p=>cond (qf (ieq p.2 0))
 (q e n (iw .i64 (qj d 1)) l k j i h g f b a c) (qb (qcn m p.1 (T.mk g f b a)) λ o=>qb (qR m (re o)) λ r=>cond (ieq r 0) (some (n,d,re o,0))
 (q e n (iw .i64 (qj d 1)) l k j i h g f b a c))) (u e l (iw .i64 (qj k 1)) j i h c)
def JW(m:Nat):=yk ((λ _ _ _ _ _ _ _=>none,λ _ _ _ _ _ _ _ _ _ _ _ _ _=>none)) λ a=>(qj4 m a.1 a.2,qkP m a.1 a.2)
def qcZ:Nat->(TL->Z98):=qi (λ _=>none) λ m _=>qex m (JW m m).1 (JW m m).2
def qwb(m:Nat)(b:Y8)(a:TL):Z25:=
 cond (yX (List.length ([]:TL)+List.length a) 56) (qnv a (some (T.mk 3 b 0 [])) λ d c=>some (T.mk 3 b 0 ([]++(d::c)))) none
def qdL:Nat->Z51:=qi (λ _ _=>none) λ m _=>qwb m
def qtk(m:Nat)(b:Y8)(a:Int):Z25:=
 some (T.mk 2 b a [])
def qgt:Nat->(Y8->Int->Z25):=qi (λ _ _=>none) λ m _=>qtk m
def qv8(m:Nat)(b:Y8)(a:Int):Z25:=
 some (T.mk 1 b a [])
def qh6:Nat->(Y8->Int->Z25):=qi (λ _ _=>none) λ m _=>qv8 m
def qrq(m:Nat):Z2:=
 qb (qgt m [97] 1) λ r=>qb (qdL m [122,101,114,111] []) λ q=>qb (qdL m [112,97,105,114] [re r,re q]) λ p=>qb (qh6 m [120] 0) λ n=>
 qb (qh6 m [121] 0) λ l=>qb (qir m (re p)) λ k=>qb (Qk m [16,1,1,97]) λ j=>qb (Qk m [16,1,0]) λ i=>qb (qgt m [110] 2) λ o=>
 qb (qdL m [112,97,105,114] [re n,re o]) λ h=>qb (qgt m [107] 3) λ g=>qb (qdL m [112,97,105,114] [re g,re l]) λ f=>
 qb (qcZ m [re h,re f]) λ b=>qb (qh6 m [120] 2) λ e=>qb (qdL m [112,97,105,114] [re n,re l]) λ d=>qb (qcZ m [re e,re d]) λ c=>
 let a:Z2:=(some false);cond (qD k.1 [16,1,1,97,23]) (cond (ieq k.2 0) (cond (ieq j.2.1 4) (cond (ieq j.2.2 2) (cond (ieq i.2.1 2) (cond (ieq i.2.2 2) (cond (ieq b.1 0) (cond (ieq b.2.1 1)
 (cond (ieq b.2.2.2 0) (some (ieq c.2.2.2 15)) a) a) a) a) a) a) a) a) a
def qc9:Nat->(Z2):=qi (none) λ m _=>qrq m
def qds(m:Nat)(a:Z16)(c:qGk)(b:T):Z15:=
 c 1 0 b.kind b.name b.sort b.kids
def qdt(m:Nat)(a:Z16)(j:qGk)(d c g:Int)(f:Y8)(e:Int)(b:TL):Z15:=
 cond (ilt c b.length) (qb (qh b c) λ i=>qb (a (re i)) λ h=>j (iw .i64 (qj d h)) (iw .i64 (qj c 1)) g f e b) (some d)
def JB(m:Nat)(a:Z16):=yk (λ _ _ _ _ _ _=>none) λ b=>qdt m a b
def jc:Nat->Z16:=qi (λ _=>none) λ m a=>qds m a (JB m a m)
def qez(m:Nat)(b a:Int):Z15:=
 cond (ilt b a) (some (-1)) (cond (ilt a b) (some 1) (some 0))
def JL:Nat->(Int->Int->Z15):=qi (λ _ _=>none) λ m _=>qez m
def qbp(m:Nat)(a:Z22)(j:qGK)(c b:T):Z15:=
 qb (jc m (re c)) λ i=>qb (jc m (re b)) λ h=>qb (JL m i h) λ g=>cond (qf (ieq g 0)) (some g) (qb (JL m c.kind b.kind) λ f=>
 cond (qf (ieq f 0)) (some f) (cond (slt c.name b.name) (some (-1)) (cond (qf (qlA (slt c.name b.name) (qD c.name b.name))) (some 1) (qb (JL m c.sort b.sort) λ e=>cond (qf (ieq e 0))
 (some e) (qb (JL m c.kids.length b.kids.length) λ d=>cond (qf (ieq d 0)) (some d) (j 0 c.kind c.name c.sort c.kids b.kind b.name b.sort b.kids))))))
def qbl(m:Nat)(a:Z22)(o:qGK)(b k:Int)(j:Y8)(i:Int)(c:TL)(h:Int)(g:Y8)(f:Int)(d:TL):Z15:=
 cond (ilt b c.length) (qb (qh c b) λ n=>qb (qh d b) λ l=>qb (a (re n) (re l)) λ e=>cond (qf (ieq e 0)) (some e) (o (iw .i64 (qj b 1)) k j i c h g f d))
 (some 0)
def Qj(m:Nat)(a:Z22):=yk (λ _ _ _ _ _ _ _ _ _=>none) λ b=>qbl m a b
def ya:Nat->Z22:=qi (λ _ _=>none) λ m a=>qbp m a (Qj m a m)
def qfZ(m:Nat)(c b:T):Z2:=
 qb (ya m (re c) (re b)) λ a=>some (ieq a 0)
def qga:Nat->Z24:=qi (λ _ _=>none) λ m _=>qfZ m
def qc0(m:Nat)(a:Y8)(b c:Int):Z72:=
 cond (ilt b 0) (some ([],7)) (cond (ile a.length b) (some ([],7)) (cond (inb b a.length) (cond (inb 0 (Int.toNat b)) (cond (qcH (yv a 0 b) (zQ [c])) (cond (inb a.length a.length)
 (cond (inb (iw .i64 (qj b 1)) (Int.toNat a.length)) (cond (qcH ((yv a 0 b)++(zQ [c])) (yv a (iw .i64 (qj b 1)) a.length))
 (some (((yv a 0 b)++(zQ [c]))++(yv a (iw .i64 (qj b 1)) a.length),0)) none) none) none) none) none) none))
def qcC:Nat->qGT:=qi (λ _ _ _=>none) λ m _=>qc0 m
def qe9(m:Nat)(a:Y8)(b c:Int):Z72:=
 cond (ilt b 0) (some ([],7)) (cond (ile a.length b) (some ([],7)) (cond (inb b a.length) (cond (inb 0 (Int.toNat b)) (cond (qcH (yv a 0 b) (zQ [c])) (cond (inb a.length a.length)
 (cond (inb (iw .i64 (qj b 1)) (Int.toNat a.length)) (cond (qcH ((yv a 0 b)++(zQ [c])) (yv a (iw .i64 (qj b 1)) a.length))
 (some (((yv a 0 b)++(zQ [c]))++(yv a (iw .i64 (qj b 1)) a.length),0)) none) none) none) none) none) none))
def qfp:Nat->qGT:=qi (λ _ _ _=>none) λ m _=>qe9 m
def qax(m:Nat)(b:Y8)(g f:Int):Z2:=
 qb (qc9 m) λ j=>let j1:Z2:=(qb (qc9 m) λ i=>some i);cond (qf j) j1 (cond (ilt 2000 b.length) j1 (qb (qcC m b g f) λ a=>
 qb (qfp m b g f) λ c=>let j2:Z2:=(cond (qD a.1 c.1) (some (ieq a.2 c.2)) (some false));
 cond (qf (qD a.1 c.1)) j2 (cond (qf (ieq a.2 c.2)) j2 (cond (qf (ieq a.2 0)) j2 (qb (Qk m b) λ e=>qb (Qk m a.1) λ d=>cond (qf (ieq e.2.2 0)) (some true)
 (cond (qf (ieq d.2.2 0)) (some true) (qb (qga m (re e.1) (re d.1)) λ h=>some (Qd h (qD a.1 b)))))))))
def law20_EnvelopeSpoil:Nat->(Y8->Int->Int->Z2):=qi (λ _ _ _=>none) λ m _=>qax m
end
end Go.AmZ
namespace Go.AmZ
open Go Go.GxZ
def Ev{α:Type}(F:Nat->Nat->Option α)(r:α):Prop:=∃B,∀m k,B<=m->B<=k->F m k=some r
section
variable {α β:Type}{F G:Nat->Nat->Option α}{r:α}
theorem Ev.pure(r:α):Ev (λ _ _=>some r) r:=⟨0,λ _ _ _ _=>rfl⟩
theorem Ev.ret{r a:α}(h:r=a):Ev (λ _ _=>some r) a:=by subst h;exact .pure r
theorem Ev.bind{X:Nat->Nat->Option β}{K:Nat->Nat->β->Option α}{a:β}(h:Ev X a)(g:Ev (λ m k=>K m k a) r):Ev (λ m k=>qb (X m k) (K m k)) r:=by
 let⟨B,h⟩:=h;let⟨C,g⟩:=g;refine⟨max B C,λ m k b c=>?_⟩;simp only[h m k (by omega) (by omega),qb];exact g m k (by omega) (by omega)
theorem Ev.congr(h:Ev F r)(e:∀m k,G m k=F m k):Ev G r:=by
 let⟨B,h⟩:=h;exact⟨B,λ m k a b=>(e m k).trans (h m k a b)⟩
theorem Ev.res{a:α}(h:Ev F r)(e:r=a):Ev F a:=by subst e;exact h
theorem Ev.succ{f:Nat->Option α}(h:Ev (λ m _=>f (m+1)) r):Ev (λ m _=>f m) r:=by
 let⟨B,h⟩:=h;refine⟨B+1,λ m k a b=>?_⟩;obtain⟨m,rfl⟩:∃n,m=n+1:=⟨m-1,by omega⟩
 exact h m B (by omega) (wa _)
theorem Ev.loop{L:Nat->Nat->Option α}(h:Ev (λ m k=>L m (k+1)) r):Ev (λ m k=>L m k) r:=by
 let⟨B,h⟩:=h;refine⟨B+1,λ m k a b=>?_⟩;obtain⟨k,rfl⟩:∃n,k=n+1:=⟨k-1,by omega⟩
 exact h m k (by omega) (by omega)
theorem Ev.diag{L:Nat->Nat->Option α}(h:Ev L r):Ev (λ m _=>L m m) r:=by
 let⟨B,h⟩:=h;exact⟨B,λ m k a _=>h m m a a⟩
theorem Ev.ct{b:Bool}(a:b=true)(h:Ev F r):Ev (λ m k=>cond b (F m k) (G m k)) r:=by subst a;exact h
theorem Ev.cf{b:Bool}(a:b=false)(h:Ev G r):Ev (λ m k=>cond b (F m k) (G m k)) r:=by subst a;exact h
theorem Ev.ite{b:Bool}(h:b=true->Ev F r)(g:b=false->Ev G r):Ev (λ m k=>cond b (F m k) (G m k)) r:=by
 cases b with
 |true=>exact h rfl
 |false=>exact g rfl
theorem Ev.some{x:Option β}{K:Nat->Nat->β->Option α}{a:β}(b:x=some a)(g:Ev (λ m k=>K m k a) r):Ev (λ m k=>qb x (K m k)) r:=by subst b;exact g
theorem Ev.case{l:List β}{K:Nat->Nat->β->List β->Option α}(h:l=[]->Ev F r)(g:∀x t,l=x::t->Ev (λ m k=>K m k x t) r):Ev (λ m k=>qnv l (F m k) (K m k)) r:=by
 cases l with
 |nil=>exact h rfl
 |cons x t=>exact g x t rfl
theorem Ev.get{x:Option α}(h:Ev (λ _ _=>x) r):x=Option.some r:=by
 let⟨B,h⟩:=h;exact h B B (wa _) (wa _)
end
theorem zg{a b:Int}:ilt a b=true↔a<b:=by unfold ilt;exact decide_eq_true_iff
theorem qX{a b:Int}:ilt a b=false↔b<=a:=by unfold ilt;rw[decide_eq_false_iff_not];omega
theorem qgr{a b:Int}:ile a b=true↔a<=b:=by unfold ile;exact decide_eq_true_iff
theorem qh8{a b:Int}:ile a b=false↔b<a:=by unfold ile;rw[decide_eq_false_iff_not];omega
theorem qu{a b:Int}:ieq a b=true↔a=b:=by unfold ieq;exact beq_iff_eq
theorem qs{a b:Int}:ieq a b=false↔a≠b:=by unfold ieq;exact beq_eq_false_iff_ne
theorem bnt{b:Bool}:qf b=true↔b=false:=by cases b<;>simp[qf]
theorem bnf{b:Bool}:qf b=false↔b=true:=by cases b<;>simp[qf]
theorem Qb{a b:List UInt8}:qD a b=true↔a=b:=by unfold qD;exact beq_iff_eq
theorem qai{a b:List UInt8}:qD a b=false↔a≠b:=by unfold qD;exact beq_eq_false_iff_ne
theorem Qy{n:Int}(h:-9223372036854775808<=n/\n<=9223372036854775807):iw .i64 n=n:=IntWalk.i64_in n h
theorem qe8(a b:Nat):qj (a:Int) (b:Int)=((a+b:Nat):Int):=by unfold qj;omega
theorem Je{n b:Nat}(h:n*b<=2^47)(a:0<b):yX n b=true:=by
 unfold yX;rw[decide_eq_true_iff];refine⟨h,?_⟩;have:n*1<=n*b:=vC _ a;omega
theorem jk{α:Type}(l:List α)(i:Nat):qh l (i:Int)=l[i]?:=by
 unfold qh;rw[if_pos (by omega),km]
theorem qa9{α:Type}(l:List α):qh l 0=l[0]?:=jk l 0
theorem yb{α:Type}{P:Nat->Prop}(l:List α)(g:l.length<2^62)(e:ilt (l.length:Int) (l.length:Int)=false->P l.length)
  (b:∀(i:Nat) (x:α),l[i]?=some x->l.drop i=x::l.drop (i+1)->ilt (i:Int) (l.length:Int)=true->qh l (i:Int)=some x->iw .i64 (qj (i:Int) 1)=((i+1:Nat):Int)->P (i+1)->P i):∀i,i<=l.length->P i:=by
 intro i h;obtain⟨d,j⟩:∃d,l.length=i+d:=⟨l.length-i,by omega⟩
 induction d generalizing i with
 |zero=>
   have:i=l.length:=by omega
   subst this;exact e (qX.2 (vF _))
 |succ d f=>
   have c:i<l.length:=by omega
   have a:=List.getElem?_eq_getElem c;refine b i _ a (vR c) (zg.2 (by omega)) (by rw[jk,a]) ?_ (f (i+1) (by omega) (by omega));rw[show qj (i:Int) 1=((i+1:Nat):Int) by unfold qj;omega,Qy (by omega)]
abbrev wao:=@Ev.bind
abbrev wap:=@Ev.ite
abbrev waq:=@Ev.pure
abbrev war:=@Ev.ct
abbrev wat:=@Ev.some
abbrev wau:=@Ev.cf
abbrev wav:=@Ev.ret
abbrev waw:=@Ev.loop
abbrev wax:=@Ev.succ
abbrev way:=@Ev.diag
end Go.AmZ
namespace Go.AmZ
open Go Go.GxZ
set_option linter.unusedVariables false
theorem qms(m):zN (m+1)=qbQ m:=rfl
theorem qgd(m):zW (m+1)=Q7 m:=rfl
theorem qi2(m):qS (m+1)=J4 m:=rfl
theorem qiT(m):Qg (m+1)=QB m (zG m m):=rfl
theorem J2(m k):(zG m (k+1))=jz m (zG m k):=rfl
theorem qau(m):qn (m+1)=jw m:=rfl
theorem qi6(m):yO (m+1)=qjS (qn m) m:=rfl
theorem qwN(m):qfJ (m+1)=qhl m:=rfl
theorem qtA(m):qbK (m+1)=qcz m (jS m m):=rfl
theorem qju(m k):(jS m (k+1))=qcI m (jS m k):=rfl
theorem quN(m):zD (m+1)=qdp m (zD m) (yY m (zD m) m):=rfl
theorem qlb(m k):(yY m (zD m) (k+1))=qdl m (zD m) (yY m (zD m) k):=rfl
theorem qu4(m):qR (m+1)=qfY m:=rfl
theorem qpV(m):J6 (m+1)=qbc m (Qn m m):=rfl
theorem qhH(m k):(Qn m (k+1))=qbz m (Qn m k):=rfl
theorem qr9(m):qx (m+1)=qbT m (qx m) (qK m (qx m) m).1 (qK m (qx m) m).2:=rfl
theorem qib(m k):(qK m (qx m) (k+1)).1=qb1 m (qx m) (qK m (qx m) k).1 (qK m (qx m) k).2:=rfl
theorem qiN(m k):(qK m (qx m) (k+1)).2=qb2 m (qx m) (qK m (qx m) k).1 (qK m (qx m) k).2:=rfl
theorem qru(m):Jy (m+1)=qet m:=rfl
theorem qwz(m):qcv (m+1)=qhE m:=rfl
theorem qwZ(m):jG (m+1)=qee m (jG m) (qaz m (jG m) m):=rfl
theorem qmq(m k):(qaz m (jG m) (k+1))=qd9 m (jG m) (qaz m (jG m) k):=rfl
theorem qri(m):qv (m+1)=qbU m (qv m) (jq m (qv m) m):=rfl
theorem qeb(m k):(jq m (qv m) (k+1))=qao m (qv m) (jq m (qv m) k):=rfl
theorem qtv(m):QN (m+1)=qeR m:=rfl
theorem qwY(m):yL (m+1)=qhx m:=rfl
theorem qoO(m):qaX (m+1)=qc2 m:=rfl
theorem qdc(m):zo (m+1)=yz m (qg m m).1 (qg m m).2:=rfl
theorem Jb(m k):(qg m (k+1)).1=yy m (qg m k).1 (qg m k).2:=rfl
theorem Ja(m k):(qg m (k+1)).2=yC m (qg m k).1 (qg m k).2:=rfl
theorem qwL(m):qiC (m+1)=qej m (qaA m m):=rfl
theorem qmd(m k):(qaA m (k+1))=qen m (qaA m k):=rfl
theorem qyR(m):qhc (m+1)=qfm m (qbk m m):=rfl
theorem qn5(m k):(qbk m (k+1))=qfn m (qbk m k):=rfl
theorem qrK(m):ye (m+1)=qbW m (ye m) (jX m (ye m) m):=rfl
theorem qhY(m k):(jX m (ye m) (k+1))=qb3 m (ye m) (jX m (ye m) k):=rfl
theorem quc(m):yR (m+1)=qdo m (yR m) (Jx m (yR m) m):=rfl
theorem qld(m k):(Jx m (yR m) (k+1))=qdk m (yR m) (Jx m (yR m) k):=rfl
theorem qry(m):qew (m+1)=qb4 m (Js m m):=rfl
theorem qqV(m k):(Js m (k+1))=qeu m (Js m k):=rfl
theorem qAO(m):Q4 (m+1)=qge m (Q4 m) (qcl m (Q4 m) m):=rfl
theorem qqR(m k):(qcl m (Q4 m) (k+1))=qgA m (Q4 m) (qcl m (Q4 m) k):=rfl
theorem qA2(m):qnx (m+1)=qgk m (qcd m m):=rfl
theorem qrf(m k):(qcd m (k+1))=qgx m (qcd m k):=rfl
theorem qnY(m):qan (m+1)=qcp m:=rfl
theorem qox(m):q9 (m+1)=qaK m (q9 m) (jW m (q9 m) m):=rfl
theorem qf6(m k):(jW m (q9 m) (k+1))=qaD m (q9 m) (jW m (q9 m) k):=rfl
theorem qlx(m):Jg (m+1)=qbe m:=rfl
theorem Qe(m):qF (m+1)=qz m (ql m m):=rfl
theorem zR(m k):(ql m (k+1))=qy m (ql m k):=rfl
theorem qnR(m):qap (m+1)=qcs m:=rfl
theorem qlz(m):qZ (m+1)=JQ m (qZ m) (yM m (qZ m) m):=rfl
theorem qeH(m k):(yM m (qZ m) (k+1))=JR m (qZ m) (yM m (qZ m) k):=rfl
theorem qts(m):qay (m+1)=qfd m:=rfl
theorem qph(m):Jv (m+1)=qaE m (jm m m):=rfl
theorem qf9(m k):(jm m (k+1))=qaJ m (jm m k):=rfl
theorem qpr(m):Qu (m+1)=qbu m (qp m m).1 (qp m m).2.1 (qp m m).2.2:=rfl
theorem qg5(m k):(qp m (k+1)).1=qbf m (qp m k).1 (qp m k).2.1 (qp m k).2.2:=rfl
theorem qhs(m k):(qp m (k+1)).2.1=qbr m (qp m k).1 (qp m k).2.1 (qp m k).2.2:=rfl
theorem qht(m k):(qp m (k+1)).2.2=qbs m (qp m k).1 (qp m k).2.1 (qp m k).2.2:=rfl
theorem qnW(m):qbZ (m+1)=qad m (jA m m):=rfl
theorem qfM(m k):(jA m (k+1))=qag m (jA m k):=rfl
theorem qlu(m):qaI (m+1)=qbi m:=rfl
theorem qaj(m):zr (m+1)=zh m (qr m m):=rfl
theorem zY(m k):(qr m (k+1))=qM m (qr m k):=rfl
theorem JH(m):zi (m+1)=zH m:=rfl
theorem qnP(m):qb0 (m+1)=qcm m:=rfl
theorem qr7(m):qdZ (m+1)=qbX m (QD m m):=rfl
theorem qh5(m k):(QD m (k+1))=qbY m (QD m k):=rfl
theorem qrr(m):qem (m+1)=qeB m:=rfl
theorem qqM(m):zZ (m+1)=qbq m (zZ m) (Qo m (zZ m) m):=rfl
theorem qhj(m k):(Qo m (zZ m) (k+1))=qbb m (zZ m) (Qo m (zZ m) k):=rfl
theorem qpO(m):qdu (m+1)=qdB m:=rfl
theorem qoM(m):qcT (m+1)=qcW m:=rfl
theorem qjL(m):qO (m+1)=QZ m (qO m) (yd m (qO m) m):=rfl
theorem qdM(m k):(yd m (qO m) (k+1))=Q5 m (qO m) (yd m (qO m) k):=rfl
theorem qrs(m):qcy (m+1)=qes m:=rfl
theorem qnN(m):Qk (m+1)=qcq m:=rfl
theorem qvD(m):jc (m+1)=qds m (jc m) (JB m (jc m) m):=rfl
theorem qlf(m k):(JB m (jc m) (k+1))=qdt m (jc m) (JB m (jc m) k):=rfl
theorem qrn(m):JL (m+1)=qez m:=rfl
theorem qpS(m):ya (m+1)=qbp m (ya m) (Qj m (ya m) m):=rfl
theorem qhD(m k):(Qj m (ya m) (k+1))=qbl m (ya m) (Qj m (ya m) k):=rfl
theorem quW(m):qga (m+1)=qfZ m:=rfl
theorem qoK(m):qcC (m+1)=qc0 m:=rfl
theorem qtD(m):qfp (m+1)=qe9 m:=rfl
theorem qjt(m):law20_EnvelopeSpoil (m+1)=qax m:=rfl
end Go.AmZ
namespace Go.GxZ
def size:T->Nat:=T.para λ _ a=>1+a.sum
theorem zy(t:T):size t=1+(t.kids.map size).sum:=T.para_eq _ _
theorem size_pos(t:T):1<=size t:=by rw[zy];omega
theorem qzf(l:List T):l.length<=(l.map size).sum:=by
 induction l with
 |nil=>simp
 |cons x l a=>have:=size_pos x;simp only[wA,wv,kL];omega
theorem qjY(l:List T)(x:T)(h:x∈l):size x<=(l.map size).sum:=by
 induction l with
 |nil=>cases h
 |cons y l a=>
   simp only[wv,kL];obtain rfl|h:=wG.1 h
   .omega
   .have:=a h;omega
theorem qa5(t:T)(x:T)(h:x∈t.kids):size x<size t:=by
 have:=qjY t.kids x h;rw[zy t];omega
theorem Q3(t:T):t.kids.length<size t:=by
 have:=qzf t.kids;rw[zy t];omega
def sgn(a b:Int):Int:=if a<b then -1 else if b<a then 1 else 0
def thn(x y:Int):Int:=if x=0 then y else x
structure Cmp {α:Type} (f:α->α->Int):Prop where
 rng:∀a b,f a b=-1\/f a b=0\/f a b=1
 anti:∀a b,f b a=- f a b
 trans:∀a b c,f a b=-1->f b c=-1->f a c=-1
 same:∀a b c,f a b=0->f b c=f a c
theorem Cmp.thn{α:Type}{f g:α->α->Int}(d:Cmp f)(l:Cmp g):Cmp λ a b=>thn (f a b) (g a b):=by
 constructor
 .intro a b;have:=d.rng a b;have:=l.rng a b;unfold GxZ.thn;split<;>omega
 .intro a b;have:=d.anti a b;have:=l.anti a b;unfold GxZ.thn;split<;>split<;>omega
 .intro a b c k j;have p:=d.anti a b;have a2:=d.anti b c;have a3:=d.anti a c;have n:=d.trans a b c;have t2:=l.trans a b c;have m:=d.same a b c;have s2:=d.same c b a;have o:=d.rng a b;have r2:=d.rng b c;have r3:=d.rng a c;unfold GxZ.thn at k j |-
  by_cases i:f a b=0
  .by_cases e:f b c=0
   .rw[if_pos i]at k;rw[if_pos e]at j;rw[if_pos (by rw[<-m i];exact e)];exact t2 k j
   .rw[if_neg e]at j;rw[if_neg (by rw[<-m i];exact e),<-m i];exact j
  .rw[if_neg i]at k;by_cases e:f b c=0
   .have:=s2 (by omega);rw[if_neg (by omega)];omega
   .rw[if_neg e]at j;have:=n k j;rw[if_neg (by omega)];exact this
 .intro a b c h
  have i:f a b=0:=by
   unfold GxZ.thn at h;split at h
   .assumption
   .exact absurd h (by assumption)
  have e:g a b=0:=by
   unfold GxZ.thn at h
   rwa [if_pos i]at h
  show GxZ.thn _ _=GxZ.thn _ _;rw[d.same a b c i,l.same a b c e]
theorem Cmp.on{α d:Type}{f:d->d->Int}(c:Cmp f)(p:α->d):Cmp λ a b=>f (p a) (p b):=
 ⟨λ _ _=>c.rng _ _,λ _ _=>c.anti _ _,λ _ _ _=>c.trans _ _ _,λ _ _ _=>c.same _ _ _⟩
theorem qns:Cmp sgn:=by
 constructor
 .intro a b;unfold sgn;split<;>(try split)<;>omega
 .intro a b;unfold sgn;split<;>split<;>(try split)<;>omega
 .intro a b c;unfold sgn;split<;>split<;>(try split)<;>(try split)<;>omega
 .intro a b c;unfold sgn;split<;>split<;>(try split)<;>(try split)<;>omega
theorem qhM{a b:Int}(h:sgn a b=0):a=b:=by unfold sgn at h;split at h<;>(try split at h)<;>omega
theorem qDe(a:Int):sgn a a=0:=by unfold sgn;split<;>(try split)<;>omega
open Lib (compareBytes)
theorem qsW(a:List UInt8):compareBytes a a=0:=by
 induction a with
 |nil=>rfl
 |cons x a b=>simp[compareBytes,b]
theorem qj0:∀a b:List UInt8,compareBytes a b=-1\/compareBytes a b=0\/compareBytes a b=1
 |[],[]|[],_::_|_::_,[]=>by simp[compareBytes]
 |x::a,y::b=>by
   unfold compareBytes;split
   .simp
   .split
    .simp
    .exact qj0 a b
theorem qs6:∀a b:List UInt8,compareBytes b a=- compareBytes a b
 |[],[]|[],_::_|_::_,[]=>by simp[compareBytes]
 |x::a,y::b=>by
   have:=qs6 a b;unfold compareBytes;simp only[xR];split<;>split<;>(try split)<;>omega
theorem qhV:∀a b:List UInt8,compareBytes a b=0->a=b
 |[],[],_=>rfl
 |[],_::_,h|_::_,[],h=>by simp[compareBytes]at h
 |x::a,y::b,h=>by
   unfold compareBytes at h;simp only[xR]at h;split at h
   .omega
   .split at h
    .omega
    .rw[qhV a b h,UInt8.toNat_inj.1 (show x.toNat=y.toNat by omega)]
theorem qps:∀ a b c:List UInt8,compareBytes a b=-1->compareBytes b c=-1->compareBytes a c=-1
 | [],_,[],h1,h2=>by
   rename_i b;cases b<;>simp[compareBytes]at h1 h2
 | [],_,_::_,_,_=>by simp[compareBytes]
 | _::_,[],_,h1,_=>by simp[compareBytes]at h1
 | _::_,_::_,[],_,h2=>by simp[compareBytes]at h2
 | x::a,y::b,z::c,h1,h2=>by
   have ih:=qps a b c;unfold compareBytes at h1 h2 |-
   simp only[xR]at h1 h2 |-
   split at h1
   ·split at h2
    ·rw[if_pos (by omega)]
    ·split at h2
     ·omega
     ·rw[if_pos (by omega)]
   ·split at h1
    ·omega
    ·split at h2
     ·rw[if_pos (by omega)]
     ·split at h2
      ·omega
      ·rw[if_neg (by omega),if_neg (by omega)];exact ih h1 h2
theorem qD0:Cmp compareBytes:=
 ⟨qj0,qs6,qps,λ a b c h=>by rw[qhV a b h]⟩
def Qp:List (T->Int)->List T->Int
 |r::a,b::c=>thn (r b) (Qp a c)
 |_,_=>0
def qfP(a b:T):Int:=
 thn (sgn (size a) (size b)) (thn (sgn a.kind b.kind) (thn (compareBytes a.name b.name) (thn (sgn a.sort b.sort) (sgn a.kids.length b.kids.length))))
def qG:T->T->Int:=T.para λ a c b=>thn (qfP a b) (Qp c b.kids)
theorem qdU(a b:T):qG a b=thn (qfP a b) (Qp (a.kids.map qG) b.kids):=congrFun (T.para_eq _ _) b
theorem qco:Cmp qfP:=
 (qns.on λ t:T=>(size t:Int)).thn ((qns.on T.kind).thn ((qD0.on T.name).thn ((qns.on T.sort).thn (qns.on λ t:T=>(t.kids.length:Int)))))
theorem qdD{x y:Int}(h:thn x y=0):x=0/\y=0:=by unfold thn at h;split at h<;>omega
theorem qlR{a b:T}(h:qfP a b=0):a.kind=b.kind/\a.name=b.name/\a.sort=b.sort/\a.kids.length=b.kids.length:=by
 unfold qfP at h;let⟨_,h⟩:=qdD h;let⟨f,h⟩:=qdD h;let⟨e,h⟩:=qdD h;let⟨d,c⟩:=qdD h;have:=qhM c;exact⟨qhM f,qhV _ _ e,qhM d,by omega⟩
theorem qBm(a:T):qfP a a=0:=by
 unfold qfP thn;simp[qDe,qsW]
theorem T.ext{a b:T}(f:a.kind=b.kind)(e:a.name=b.name)(d:a.sort=b.sort)(c:a.kids=b.kids):a=b:=by
 let⟨k,n,s,l⟩:=a;let⟨j,h,g,i⟩:=b;simp only[T.kind,T.name,T.sort,T.kids]at f e d c;rw[f,e,d,c]
theorem qAn(a:T):qG a a=0:=by
 refine T.ind (P:=λ a=>qG a a=0) ?_ a;intro a c;rw[qdU,qBm,thn,if_pos rfl];generalize a.kids=l at*
 induction l with
 |nil=>rfl
 |cons x l b=>
   rw[wv,Qp,c x (wm ..),thn,if_pos rfl];exact b λ k d=>c k (we _ d)
theorem qfv(a:T):∀b,qG a b=0->a=b:=by
 refine T.ind (P:=λ a=>∀b,qG a b=0->a=b) ?_ a;intro a e b h;rw[qdU]at h;let⟨g,f⟩:=qdD h;let⟨n,j,i,c⟩:=qlR g;refine T.ext n j i ?_;generalize a.kids=l at *;generalize b.kids=m at *;clear h g
 induction l generalizing m with
 |nil=>exact(kC.1 c.symm).symm
 |cons x l d=>
   cases m with
   |nil=>simp at c
   |cons y m=>
     rw[wv,Qp]at f;let⟨q,p⟩:=qdD f;rw[e x (wm ..) y q,d (λ k o=>e k (we _ o)) m p (by simpa using c)]
def qqN(a:T):Prop:=(∀b,qG a b=-1\/qG a b=0\/qG a b=1)/\(∀b,qG b a=- qG a b)/\(∀b c,qG a b=-1->qG b c=-1->qG a c=-1)
theorem qvm:∀l m:List T,(∀k∈l,qqN k)->Qp (l.map qG) m=-1\/Qp (l.map qG) m=0\/Qp (l.map qG) m=1
 |[],_,_|_::_,[],_=>by simp[Qp]
 |x::l,y::m,h=>by
   rw[wv,Qp];have c:=(h x (wm ..)).1 y;have b:=qvm l m λ k a=>h k (we _ a);unfold thn;split<;>omega
theorem qsE:∀l m:List T,(∀k∈l,qqN k)->Qp (m.map qG) l=- Qp (l.map qG) m
 |[],[],_|[],_::_,_|_::_,[],_=>by simp[Qp]
 |x::l,y::m,h=>by
   rw[wv,Qp,wv,Qp];have c:=(h x (wm ..)).2.1 y;have b:=qsE l m λ k a=>h k (we _ a);unfold thn;split<;>split<;>omega
theorem qqj:∀l m n:List T,(∀k∈l,qqN k)->l.length=m.length->m.length=n.length->Qp (l.map qG) m=-1->Qp (m.map qG) n=-1->Qp (l.map qG) n=-1
 |[],_,_,_,_,_,h,_=>by simp[Qp]at h
 |_::_,[],_,_,h,_,_,_|_::_,_::_,[],_,_,h,_,_=>by simp at h
 |x::l,y::m,z::n,h,e1,j,b,a=>by
   rw[wv,Qp]at b a |-
   have g:=h x (wm ..);have f:=qqj l m n (λ k i=>h k (we _ i)) (by simpa using e1) (by simpa using j);have e:=g.2.2 y z;by_cases d:qG x y=0
   .have:=qfv x y d;subst this;rw[thn,if_pos d]at b;by_cases c:qG x z=0
    .rw[thn,if_pos c]at a |-
     exact f b a
    .rw[thn,if_neg c]at a |-
     exact a
   .rw[thn,if_neg d]at b;by_cases c:qG y z=0
    .have:=qfv y z c;subst this;rw[thn,if_neg d];exact b
    .rw[thn,if_neg c]at a;have:=e b a;rw[thn,if_neg (by omega)];exact this
theorem qzJ(a:T):qqN a:=by
 refine T.ind (P:=qqN) ?_ a;intro a i;refine⟨λ b=>?_,λ b=>?_,λ b c g d=>?_⟩
 .rw[qdU];have g:=qco.rng a b;have d:=qvm a.kids b.kids i;unfold thn;split<;>omega
 .rw[qdU,qdU];have g:=qco.anti a b;have d:=qsE a.kids b.kids i;unfold thn;split<;>split<;>omega
 .rw[qdU]at g d |-
  by_cases h:qfP a b=0
  .rw[thn,if_pos h]at g;have e:=qco.same a b c h;by_cases f:qfP b c=0
   .rw[thn,if_pos f]at d;rw[thn,if_pos (by rw[<-e];exact f)];exact qqj _ _ _ i (qlR h).2.2.2 (qlR f).2.2.2 g d
   .rw[thn,if_neg f]at d;rw[thn,if_neg (by rw[<-e];exact f),<-e];exact d
  .rw[thn,if_neg h]at g;by_cases f:qfP b c=0
   .have e1:=qco.anti b c;have l:=qco.same c b a (by omega);have k:=qco.anti a b;have j:=qco.anti a c;rw[thn,if_neg (by omega)];omega
   .rw[thn,if_neg f]at d;have:=qco.trans a b c g d;rw[thn,if_neg (by omega)];exact this
theorem QH:Cmp qG:=
 ⟨λ a=>(qzJ a).1,λ a b=>(qzJ a).2.1 b,λ a=>(qzJ a).2.2,λ a b c h=>by rw[qfv a b h]⟩
theorem qB7(a b:T):qG a b=0↔a=b:=⟨qfv a b,λ h=>by rw[h];exact qAn b⟩
theorem qla:∀a b:List UInt8,Op.bytesLess a b=decide (compareBytes a b=-1)
 |[],[]|[],_::_|_::_,[]=>by simp[Op.bytesLess,compareBytes]
 |x::a,y::b=>by
   rw[Op.bytesLess,compareBytes,qla a b];by_cases d:x<y
   .simp[d]
   .by_cases c:y<x
    .have:¬ x=y:=λ e=>by rw[e]at c;exact d (by rw[e];exact c)
     simp[d,c,this]
    .have:x=y:=UInt8.toNat_inj.1 (by rw[xR]at d c;omega);simp[this]
end Go.GxZ
namespace Go.GxZ
def qcX:T->Nat:=T.para λ _ a=>a.foldl max 0+1
theorem qnz(t:T):qcX t=(t.kids.map qcX).foldl max 0+1:=T.para_eq _ _
theorem qvi(l:List Nat):∀(a b:Nat),a<=b->(∀x∈l,x<=b)->l.foldl max a<=b:=by
 induction l with
 |nil=>intro a b h _;exact h
 |cons x l d=>intro a b h c;exact d _ _ (Nat.max_le.2 ⟨h,c x (wm ..)⟩) λ y e=>c y (we _ e)
theorem qEm(t:T):qcX t<=size t:=by
 refine T.ind (P:=λ t=>qcX t<=size t) ?_ t;intro t b;rw[qnz,zy]
 have:(t.kids.map qcX).foldl max 0<=(t.kids.map size).sum:=by
  refine qvi _ _ _ (wh _) λ x c=>?_;obtain⟨k,a,rfl⟩:=wC.1 c;exact wD (b k a) (qjY _ _ a)
 omega
def qiV(c:Int):Bool:=decide (97<=c/\c<=122)||decide (65<=c/\c<=90)
def qzu(c:Int):Bool:=decide (48<=c/\c<=57)
def Q0(c:Int):Bool:=qiV c||qzu c||decide (c=95)||decide (c=35)
def QW(l:List UInt8):Bool:=decide (0<l.length)&&decide (l.length<=24)&&qiV ((l.getD 0 0).toNat:Int)&&l.all λ c=>Q0 (c.toNat:Int)
def qkL(k so:Int)(n:Nat)(a:Bool):Int:=
 if k=1\/k=2 then(if so<0\/5<so\/0<n then 1 else if a then 0 else 2)
 else if k=3 then(if so≠0 then 1 else if a then(if 8<n then 3 else 0)else 2)
 else 1
def QQ(t:T):Int:=qkL t.kind t.sort t.kids.length (QW t.name)
def Jd:T->Int:=T.para λ t a=>a.foldl thn (QQ t)
theorem qmI(t:T):Jd t=(t.kids.map Jd).foldl thn (QQ t):=T.para_eq _ _
theorem Qm{x:Int}(h:x≠0)(y:Int):thn x y=x:=if_neg h
theorem zp(l:List Int):∀{x:Int},x≠0->l.foldl thn x=x:=by
 induction l with
 |nil=>intro x _;rfl
 |cons y l a=>intro x h;rw[xa,Qm h];exact a h
theorem Ju(l:List Int)(x:Int):(x::l).foldl thn 0=l.foldl thn x:=rfl
theorem qwC{t:T}(h:Jd t=0):QQ t=0/\(∀k∈t.kids,Jd k=0):=by
 rw[qmI]at h;by_cases b:QQ t=0
 .refine⟨b,?_⟩;rw[b]at h;generalize t.kids=l at *;clear b
  induction l with
  |nil=>intro k a;cases a
  |cons x l d=>
    rw[wv,Ju]at h;by_cases c:Jd x=0
    .rw[c]at h;intro k a;obtain rfl|a:=wG.1 a
     .exact c
     .exact d h k a
    .rw[zp _ c]at h;exact absurd h c
 .rw[zp _ b]at h;exact absurd h b
def zl(t:T):Int:=if Jd t≠0 then Jd t else if 400<size t\/40<qcX t then 3 else 0
instance:DecidableEq T:=λ _ _=>Classical.propDecidable _
def qbt(a b:T):Bool:=decide (a=b)
def qiQ:List (List UInt8×Int×Int×Int):=[
 ([112,97,105,114],2,2,1),
 ([101,110,99],2,2,1),
 ([97,101,110,99],2,2,1),
 ([112,107],1,1,1),
 ([115,105,103,110],2,2,1),
 ([104,97,115,104],1,1,1),
 ([120,111,114],2,8,1),
 ([122,101,114,111],0,0,1),
 ([101,120,112],2,2,1),
 ([109,117,108],2,8,1),
 ([105,110,118],1,1,1),
 ([111,110,101],0,0,1),
 ([115,107],1,1,2),
 ([115,104,107],2,2,2),
 ([110,101,119],1,8,2),
 ([102,115,116],1,1,3),
 ([115,110,100],1,1,3),
 ([100,101,99],2,2,3),
 ([97,100,101,99],2,2,3),
 ([111,112,101,110],2,2,3),
 ([114,101,97,100],1,1,3)]
def qtO:List UInt8:=[112,97,105,114]
def qvc:List UInt8:=[101,110,99]
def qqF:List UInt8:=[97,101,110,99]
def nPk:List UInt8:=[112,107]
def qjI:List UInt8:=[115,105,103,110]
def qfa:List UInt8:=[120,111,114]
def qqQ:List UInt8:=[122,101,114,111]
def qhn:List UInt8:=[101,120,112]
def qf0:List UInt8:=[109,117,108]
def qa4:List UInt8:=[105,110,118]
def qi9:List UInt8:=[111,110,101]
def nSk:List UInt8:=[115,107]
def qyw:List UInt8:=[115,104,107]
def qom:List UInt8:=[110,101,119]
def qGo:List UInt8:=[102,115,116]
def qug:List UInt8:=[115,110,100]
def qGO:List UInt8:=[100,101,99]
def qEi:List UInt8:=[97,100,101,99]
def qEh:List UInt8:=[111,112,101,110]
def qEk:List UInt8:=[114,101,97,100]
def zT:T:=.mk 0 [] 0 []
def kid(t:T)(i:Nat):T:=t.kids.getD i zT
def apT(n:List UInt8)(l:List T):T:=.mk 3 n 0 l
def isN(t:T)(n:List UInt8):Bool:=t.kind==3&&t.name==n
def zK(n:List UInt8):Int×Int×Int:=((qiQ.find? λ r=>r.1==n).map (·.2)).getD (0,0,0)
def qaG(t:T):Bool:=
 if t.name=qom then decide ((kid t 0).kind≠2)
 else if t.name=nSk\/t.name=qyw then t.kids.any λ k=>decide (k.kind=3)||decide (k.sort≠1)else false
def qbO(t:T):Int:=
 if t.kind≠3 then 0 else if(zK t.name).2.2=0 then 10 else if(t.kids.length:Int)<(zK t.name).1\/(zK t.name).2.1<(t.kids.length:Int)then 6 else if qaG t then 10 else 0
def zw:T->Int:=T.para λ t a=>if t.kind≠3 then 0 else a.foldl thn (qbO t)
theorem qnu(t:T):zw t=if t.kind≠3 then 0 else(t.kids.map zw).foldl thn (qbO t):=T.para_eq _ _
def qfS(t:T):Int:=thn (zl t) (zw t)
def qbw(t:T):Bool:=
 if t.name=qGo\/t.name=qug then isN (kid t 0) qtO
 else if t.name=qGO then isN (kid t 0) qvc&&qbt (kid (kid t 0) 1) (kid t 1)
 else if t.name=qEi then isN (kid t 0) qqF&&isN (kid (kid t 0) 1) nPk&&qbt (kid (kid (kid t 0) 1) 0) (kid t 1)
 else if t.name=qEh then isN (kid t 0) qjI&&isN (kid t 1) nPk&&qbt (kid (kid t 0) 1) (kid (kid t 1) 0)
 else if t.name=qEk then isN (kid t 0) qjI else false
def qkc(t:T):T:=if qbw t then kid (kid t 0) (if t.name=qug then 1 else 0)else t
def qcJ(t:T):Bool:=t.kind==3&&(t.name==qf0||t.name==qa4||t.name==qi9)
abbrev Pw:=T×Int
def je:List Pw->T->Int->List Pw
 |[],t,n=>[(t,n)]
 |(x,m)::l,t,n=>if qG t x=-1 then(t,n)::(x,m)::l else if qG t x=0 then(if m+n=0 then l else(x,m+n)::l)else(x,m)::je l t n
def arK(t:T):Bool := !(t.name==qi9&&t.kids.length != 0||t.name==qa4&&t.kids.length != 1||t.name==qf0&&decide (t.kids.length<2))
def arT:T->Bool:=T.para λ t a => !qcJ t||(arK t&&a.all id)
theorem qBq(t:T):arT t=(!qcJ t||(arK t&&(t.kids.map arT).all id)):=T.para_eq _ _
def qaU(t:T)(n:Int):Int:=if t.name=qa4 then -n else n
def jo:T->List Pw->Int->List Pw:=T.para λ t a l n=>if qcJ t then a.foldl (λ l f=>f l (qaU t n)) l else je l t n
theorem qgF(t:T)(l:List Pw)(n:Int):jo t l n=if qcJ t then(t.kids.map jo).foldl (λ l f=>f l (qaU t n)) l else je l t n:=by
 have h:jo t=λ l n=>if qcJ t then(t.kids.map jo).foldl (λ l f=>f l (qaU t n)) l else je l t n:=T.para_eq _ _;rw[h]
def ofP(t:T):List Pw×Int:=
 if zl t≠0 then([],zl t)else if arT t=false then([],6)else if 200<(jo t [] 1).length then([],3)else(jo t [] 1,0)
def pvK(q:Option T)(p:Pw):Int:=
 if zl p.1≠0 then zl p.1 else if qcJ p.1 then 1 else if p.2=0\/p.2 < -1000\/1000<p.2 then 7 else match q with|some x=>if 0<=qG x p.1 then 5 else 0|none=>0
def pvL:Option T->List Pw->Int
 |_,[]=>0
 |q,p::l=>thn (pvK q p) (pvL (some p.1) l)
def Q6(l:List Pw):Int:=if 200<l.length then 3 else pvL none l
def jD(l:List Pw):List T:=l.flatMap λ p=>List.replicate p.2.toNat p.1
def jC(l:List Pw):List T:=l.flatMap λ p=>List.replicate (-p.2).toNat (apT qa4 [p.1])
def qck(o:List T):T:=if o.length=0 then apT qi9 []else if o.length=1 then o.getD 0 zT else apT qf0 o
def qbV(l:List Pw):T×Int:=
 if Q6 l≠0 then(zT,Q6 l)else if 8<(jD l++jC l).length then(zT,3)
 else if zl (qck (jD l++jC l))≠0 then(zT,zl (qck (jD l++jC l)))else(qck (jD l++jC l),0)
def qo1(l:List Pw):Bool:=l.any λ p=>decide (p.2 < -1000)||decide (1000<p.2)
def Ji(a b:List Pw):List Pw:=b.foldl (λ l p=>je l p.1 p.2) a
def qi1(a b:List Pw):List Pw×Int:=
 if Q6 a≠0 then([],Q6 a)else if Q6 b≠0 then([],Q6 b)else if qo1 (Ji a b)then([],7)else if 200<(Ji a b).length then([],3)else(Ji a b,0)
def yI:List T->List T->List T
 |[],b=>b
 |x::a,[]=>x::a
 |x::a,y::b=>if qG x y=-1 then x::yI a (y::b)else if qG x y=1 then y::yI (x::a) b else yI a b
termination_by a b=>a.length+b.length
def JS:T->List T:=T.para λ t a=>if isN t qqQ&&t.kids.isEmpty then[]else if isN t qfa then a.foldl yI []else[t]
theorem qoY(t:T):JS t=if isN t qqQ&&t.kids.isEmpty then[]else if isN t qfa then(t.kids.map JS).foldl yI []else[t]:=T.para_eq _ _
def qpX(l:List T):Int:=if 200<l.length then 3 else(l.map zl).foldl thn 0
def yK(l:List T):List T:=(l.map JS).foldl yI []
def qby(o:List T):T:=if o.length=0 then apT qqQ []else if o.length=1 then o.getD 0 zT else apT qfa o
def qsj(l:List T):T×Int:=
 if qpX l≠0 then(zT,qpX l)else if zl (qby (yK l))≠0 then(zT,3)else(qby (yK l),0)
def qjW(b:T)(l:List Pw):T×Int:=
 if l.length=0 then(b,0)else if(qbV l).2≠0 then(zT,(qbV l).2)else(apT qhn [b,(qbV l).1],0)
def qrD(b e:T):T×Int:=
 if(ofP e).2≠0 then(zT,(ofP e).2)
 else if isN b qhn then
  (if(ofP (kid b 1)).2≠0 then(zT,(ofP (kid b 1)).2)
   else if(qi1 (ofP (kid b 1)).1 (ofP e).1).2≠0 then(zT,(qi1 (ofP (kid b 1)).1 (ofP e).1).2)
   else qjW (kid b 0) (qi1 (ofP (kid b 1)).1 (ofP e).1).1)
 else qjW b (ofP e).1
def isD(n:List UInt8):Bool:=n==qGo||n==qug||n==qGO||n==qEi||n==qEh||n==qEk
def qq0(t:T):T×Int:=if(ofP t).2≠0 then(zT,(ofP t).2)else qbV (ofP t).1
def J1(t:T):T×Int:=
 if isD t.name then(qkc t,0)else if t.name=qfa then qsj t.kids
 else if t.name=qf0\/t.name=qa4\/t.name=qi9 then qq0 t
 else if t.name=qhn then qrD (kid t 0) (kid t 1)else(t,0)
def zO:T->T×Int:=T.para λ t a=>
 if t.kind≠3 then(t,0)else if(a.map (·.2)).foldl thn 0≠0 then(zT,(a.map (·.2)).foldl thn 0)else J1 (apT t.name (a.map (·.1)))
theorem qm4(t:T):zO t=if t.kind≠3 then(t,0)else if((t.kids.map zO).map (·.2)).foldl thn 0≠0 then(zT,((t.kids.map zO).map (·.2)).foldl thn 0)else J1 (apT t.name ((t.kids.map zO).map (·.1))):=T.para_eq _ _
def qgB(t:T):T×Int:=
 if qfS t≠0 then(zT,qfS t)else if(zO t).2≠0 then(zT,(zO t).2)else if zl (zO t).1≠0 then(zT,zl (zO t).1)else zO t
end Go.GxZ
namespace Go.AmZ
open Go Go.GxZ Go.Lib
theorem qiz(a b:Int):Ev (λ m _=>JL m a b) (sgn a b):=by
 refine wax ?_;simp only[qrn,qez];unfold sgn;refine wap (λ h=>?_) λ h=>?_
 .exact wav (by rw[if_pos (zg.1 h)])
 .rw[qX]at h;refine wap (λ c=>?_) λ c=>?_
  .rw[zg]at c;exact wav (by rw[if_neg (by omega),if_pos c])
  .rw[qX]at c;exact wav (by rw[if_neg (by omega),if_neg (by omega)])
theorem qoJ{l:List T}{i:Nat}{x:T}(h:l.drop i=x::l.drop (i+1)):((l.drop i).map size).sum=size x+((l.drop (i+1)).map size).sum:=by
 rw[h,wv,kL]
theorem qvQ(t:T):size t<=1000000000->Ev (λ m _=>jc m t) (size t:Int):=by
 induction t using T.ind with
 |h t d=>
   intro p;refine wax ?_;simp only[qvD,qds];have q:=Q3 t;have j:=zy t
   have b:=yb (P:=λ i=>∀a:Nat,a+((t.kids.drop i).map size).sum<=1000000000->Ev (λ m k=>JB m (jc m) k a i t.kind t.name t.sort t.kids) ((a+((t.kids.drop i).map size).sum:Nat):Int)) t.kids (by omega)
    (λ c a _=>by
     refine waw ?_;simp only[qlf,qdt];refine wau c ?_;exact wav (by simp))
    (λ i x e l c g f o a n=>by
     rw[qoJ l]at n |-
     refine waw ?_;simp only[qlf,qdt];refine war c (wat g ?_);rw[qt];refine wao (d x (wc e) (by omega)) ?_;rw[f,qe8,Qy (by omega)];refine(o (a+size x) (by omega)).res (by congr 1;omega))
   refine way (L:=λ m k=>JB m (jc m) k 1 0 t.kind t.name t.sort t.kids) ?_;refine(b 0 (wh _) 1 (by simp;omega)).res (by rw[ke,j])
theorem qDR(a b:Nat):qko (a:Int) (b:Int)=((max a b:Nat):Int):=by unfold qko;split<;>omega
theorem qnk(a b:Int):Ev (λ m _=>qcv m a b) (sgn a b):=by
 refine wax ?_;simp only[qwz,qhE];unfold sgn;refine wap (λ h=>?_) λ h=>?_
 .exact wav (by rw[if_pos (zg.1 h)])
 .rw[qX]at h;refine wap (λ c=>?_) λ c=>?_
  .rw[zg]at c;exact wav (by rw[if_neg (by omega),if_pos c])
  .rw[qX]at c;exact wav (by rw[if_neg (by omega),if_neg (by omega)])
theorem qvS(t:T):size t<=1000000000->Ev (λ m _=>jG m t) (size t:Int):=by
 induction t using T.ind with
 |h t d=>
   intro p;refine wax ?_;simp only[qwZ,qee];have q:=Q3 t;have j:=zy t
   have b:=yb (P:=λ i=>∀a:Nat,a+((t.kids.drop i).map size).sum<=1000000000->Ev (λ m k=>qaz m (jG m) k a t.kids t.kids.length i) ((a+((t.kids.drop i).map size).sum:Nat):Int)) t.kids (by omega)
    (λ c a _=>by
     refine waw ?_;simp only[qmq,qd9];refine wau c ?_;exact wav (by simp))
    (λ i x e l c g f o a n=>by
     rw[qoJ l]at n |-
     refine waw ?_;simp only[qmq,qd9];refine war c (wat g ?_);rw[qt];refine wao (d x (wc e) (by omega)) ?_;rw[f,qe8,Qy (by omega)];refine(o (a+size x) (by omega)).res (by congr 1;omega))
   refine way (L:=λ m k=>qaz m (jG m) k 1 t.kids t.kids.length 0) ?_;refine(b 0 (wh _) 1 (by simp;omega)).res (by rw[ke,j])
theorem qvI(a:List (T->Int)):Qp a []=0:=by cases a<;>rfl
theorem qss{l m:List T}{i:Nat}{x y:T}(b:l.drop i=x::l.drop (i+1))(a:m.drop i=y::m.drop (i+1)):Qp ((l.drop i).map qG) (m.drop i)=thn (qG x y) (Qp ((l.drop (i+1)).map qG) (m.drop (i+1))):=by
 rw[b,a,wv];rfl
theorem quP{l:List T}{i:Nat}{y:T}(h:l[i]?=some y):l.drop i=y::l.drop (i+1):=by
 obtain⟨a,rfl⟩:=List.getElem?_eq_some_iff.1 h;exact vR a
theorem qoC(a b:List UInt8):slt a b=decide (compareBytes a b=-1):=qla a b
theorem qt6(a b:List UInt8):qlA (slt a b) (qD a b)=decide (compareBytes a b≠1):=by
 rw[qoC];unfold qlA qD;obtain h|h|h:=qj0 a b
 .rw[h];rfl
 .have:=qhV a b h;subst this;rw[h];simp
 .have:(a==b)=false:=by
    rw[beq_eq_false_iff_ne];intro c;subst c;rw[qsW]at h;omega
  rw[h,this];rfl
theorem qwX(a:T):size a<=1000000000->∀ b,size b<=1000000000->Ev (λ m _=>ya m a b) (qG a b):=by
 induction a using T.ind with
 | h a ih =>
   intro ha b hb;refine wax ?_;simp only[qpS,qbp,qt];have hla:=Q3 a;have hlb:=Q3 b;rw[qdU];unfold qfP;refine wao (qvQ a ha) (wao (qvQ b hb) (wao (qiz _ _) ?_));refine wap (λ h=>?_) λ h=>?_
   ·rw[bnt,qs]at h;exact wav (by rw[Qm (by rw[Qm h];exact h),Qm h])
   rw[bnf,qu]at h;rw[h,show ∀ y,thn 0 y=y from λ y=>rfl];refine wao (qiz _ _) ?_;refine wap (λ h=>?_) λ h=>?_
   ·rw[bnt,qs]at h;exact wav (by rw[Qm (by rw[Qm h];exact h),Qm h])
   rw[bnf,qu]at h;rw[h,show ∀ y,thn 0 y=y from λ y=>rfl];refine wap (λ h=>?_) λ h=>?_
   ·rw[qoC,decide_eq_true_iff]at h;exact wav (by rw[h];rfl)
   rw[qoC,decide_eq_false_iff_not]at h;refine wap (λ h'=>?_) λ h'=>?_
   ·rw[bnt,qt6,decide_eq_false_iff_not,Decidable.not_not]at h';exact wav (by rw[h'];rfl)
   rw[bnf,qt6,decide_eq_true_iff]at h';have h0:compareBytes a.name b.name=0:=by have:=qj0 a.name b.name;omega
   rw[h0,show ∀ y,thn 0 y=y from λ y=>rfl];refine wao (qiz _ _) ?_;refine wap (λ h=>?_) λ h=>?_
   ·rw[bnt,qs]at h;exact wav (by rw[Qm (by rw[Qm h];exact h),Qm h])
   rw[bnf,qu]at h;rw[h,show ∀ y,thn 0 y=y from λ y=>rfl];refine wao (qiz _ _) ?_;refine wap (λ h=>?_) λ h=>?_
   ·rw[bnt,qs]at h;exact wav (by rw[Qm h])
   rw[bnf,qu]at h;rw[h,show ∀ y,thn 0 y=y from λ y=>rfl];have hlen:a.kids.length=b.kids.length:=by have:=qhM h;omega
   have key:=yb (P := λ i=>Ev (λ m k=>Qj m (ya m) k i a.kind a.name a.sort a.kids b.kind b.name b.sort b.kids) (Qp ((a.kids.drop i).map qG) (b.kids.drop i))) a.kids (by omega)
    (λ hc=>by
     refine waw ?_;simp only[qhD,qbl];refine wau hc ?_;exact wav (by rw[hlen,xc,qvI]))
    (λ i x hx hd hc hg hi hP=>by
     refine waw ?_;simp only[qhD,qbl,qt];have hib:i<b.kids.length:=by have:=(List.getElem?_eq_some_iff.1 hx).1;omega
     have hy:=List.getElem?_eq_getElem hib;have hmx:=wc hx;have h1:=qa5 a x hmx;have h2:=qa5 b _ (wc hy);refine war hc (wat hg (wat (by rw[jk];exact hy) ?_));rw[qss hd (quP hy)];refine wao (ih x hmx (by omega) _ (by omega)) ?_;refine wap (λ h=>?_) λ h=>?_
     ·rw[bnt,qs]at h;exact wav (by rw[Qm h])
     ·rw[bnf,qu]at h;rw[h,hi];exact hP)
   refine way (L := λ m k=>Qj m (ya m) k 0 a.kind a.name a.sort a.kids b.kind b.name b.sort b.kids) ?_;exact(key 0 (wh _)).res (by rw[ke,ke])
theorem qAH(a b:List UInt8):Ev (λ m _=>strings_Compare 0 a b) (compareBytes a b):=waq _
theorem qfj(a:T):size a<=1000000000->∀ b,size b<=1000000000->Ev (λ m _=>qv m a b) (qG a b):=by
 induction a using T.ind with
 | h a ih =>
   intro ha b hb;refine wax ?_;simp only[qri,qbU,qt];have hla:=Q3 a;have hlb:=Q3 b;rw[qdU];unfold qfP
   have stop:∀ c:Int,c≠0->∀ i:Int,Ev (λ m k=>jq m (qv m) k c i a.kind a.name a.sort a.kids b.kind b.name b.sort b.kids) c:=by
    intro c hc i;refine waw ?_;simp only[qeb,qao];exact wau (qs.2 hc) (waq c)
   have key:a.kids.length=b.kids.length->∀ i,i<=a.kids.length->Ev (λ m k=>jq m (qv m) k 0 i a.kind a.name a.sort a.kids b.kind b.name b.sort b.kids) (Qp ((a.kids.drop i).map qG) (b.kids.drop i)) := λ hlen=>yb a.kids (by omega)
    (λ hc=>by
     refine waw ?_;simp only[qeb,qao];refine war rfl (wau hc ?_);exact wav (by rw[hlen,xc,qvI]))
    (λ i x hx hd hc hg hi hP=>by
     refine waw ?_;simp only[qeb,qao,qt];have hib:i<b.kids.length:=by have:=(List.getElem?_eq_some_iff.1 hx).1;omega
     have hy:=List.getElem?_eq_getElem hib;have hmx:=wc hx;have h1:=qa5 a x hmx;have h2:=qa5 b _ (wc hy);refine war rfl (war hc (wat hg (wat (by rw[jk];exact hy) ?_)));rw[qss hd (quP hy)];refine wao (ih x hmx (by omega) _ (by omega)) ?_;rw[hi];by_cases h:qG x b.kids[i]=0
     ·rw[h];exact hP
     ·rw[Qm h];exact stop _ h _)
   have fin:∀ c:Int,(c=0->a.kids.length=b.kids.length)->Ev (λ m k=>jq m (qv m) m c 0 a.kind a.name a.sort a.kids b.kind b.name b.sort b.kids) (thn c (Qp (a.kids.map qG) b.kids)):=by
    intro c hc;refine way (L := λ m k=>jq m (qv m) k c 0 a.kind a.name a.sort a.kids b.kind b.name b.sort b.kids) ?_;by_cases h:c=0
    ·subst h;exact(key (hc rfl) 0 (wh _)).res (by rw[ke,ke];rfl)
    ·rw[Qm h];exact stop c h 0
   refine wao (qvS a ha) (wao (qvS b hb) (wao (qnk _ _) ?_));have z0:∀ y,thn 0 y=y := λ y=>rfl;by_cases h1:sgn (size a:Int) (size b)=0
   ·rw[h1,z0];refine war rfl (wao (qnk _ _) ?_);by_cases h2:sgn a.kind b.kind=0
    ·rw[h2,z0];refine war rfl (wao (qAH _ _) ?_);by_cases h3:compareBytes a.name b.name=0
     ·rw[h3,z0];refine war rfl (wao (qnk _ _) ?_);by_cases h4:sgn a.sort b.sort=0
      ·rw[h4,z0];refine war rfl (wao (qnk _ _) ?_);exact fin _ λ h=>by have:=qhM h;omega
      ·rw[Qm h4];refine wau (qs.2 h4) ?_;exact fin _ λ h=>absurd h h4
     ·rw[Qm h3];refine wau (qs.2 h3) (wau (qs.2 h3) ?_);exact fin _ λ h=>absurd h h3
    ·rw[Qm h2];refine wau (qs.2 h2) (wau (qs.2 h2) (wau (qs.2 h2) ?_));exact fin _ λ h=>absurd h h2
   ·rw[Qm h1];refine wau (qs.2 h1) (wau (qs.2 h1) (wau (qs.2 h1) (wau (qs.2 h1) ?_)));exact fin _ λ h=>absurd h h1
theorem qxq(a b:T):ieq (qG a b) 0=qbt a b:=by
 unfold qbt;rw[xB,qu,decide_eq_true_iff];exact qB7 a b
theorem qCA(a b:T)(d:size a<=1000000000)(c:size b<=1000000000):Ev (λ m _=>qga m a b) (qbt a b):=by
 refine wax ?_;simp only[quW,qfZ,qt];refine wao (qwX a d b c) ?_;exact wav (qxq a b)
theorem qk2(a b:T)(d:size a<=1000000000)(c:size b<=1000000000):Ev (λ m _=>QN m a b) (qbt a b):=by
 refine wax ?_;simp only[qtv,qeR,qt];refine wao (qfj a d b c) ?_;exact wav (qxq a b)
end Go.AmZ
namespace Go.AmZ
open Go Go.GxZ Go.Lib
theorem qrj(a b:Int):ieq a b=decide (a=b):=by rw[xB,qu,decide_eq_true_iff]
theorem qxM(c:Int):Ev (λ m _=>qfJ m c) (Q0 c):=by
 refine wax ?_;simp only[qwN,qhl];refine(waq (Q0 c)).congr λ m k=>?_;simp only[qrj];unfold Q0 qiV qzu ile;by_cases i:97<=c<;>by_cases h:c<=122<;>by_cases g:65<=c<;>by_cases f:c<=90<;>by_cases e:48<=c<;>by_cases d:c<=57<;>by_cases b:c=95<;>by_cases a:c=35<;>simp[i,h,g,f,e,d,b,a]
theorem qD7(c:Int):(Q0 c&&(!(decide (48<=c)&&decide (c<=57))&&(!(decide (c=95)) && !(decide (c=35)))))=qiV c:=by
 unfold Q0 qzu;cases h:qiV c with
 |true=>
   unfold qiV at h;rw[wT,decide_eq_true_iff,decide_eq_true_iff]at h;rw[decide_eq_false (show ¬ (c=95) by omega),decide_eq_false (show ¬ (c=35) by omega)]
   have:(decide (48<=c)&&decide (c<=57))=false:=by
    rw[wai,decide_eq_false_iff_not,decide_eq_false_iff_not];omega
   rw[this];rfl
 |false=>
   by_cases e:48<=c<;>by_cases d:c<=57<;>by_cases b:c=95<;>by_cases a:c=35<;>simp[e,d,b,a]
theorem qyn(l:List UInt8):Ev (λ m _=>qbK m l) (QW l):=by
 refine wax ?_;simp only[qtA,qcz];cases l with
 |nil=>exact war rfl (waq _)
 |cons c r=>
   refine wau rfl ?_;refine wap (λ h=>?_) λ h=>?_
   .rw[zg]at h;refine wav ?_;unfold QW;rw[decide_eq_false (show ¬ (c::r).length<=24 by omega)];simp
   rw[qX]at h;refine wat (qa9 _) (wao (qxM _) ?_)
   have p:QW (c::r)=(qiV (c.toNat:Int)&&(c::r).all λ c=>Q0 (c.toNat:Int)):=by
    unfold QW;rw[decide_eq_true (show(c::r).length<=24 by omega)];simp
   rw[p,<-qD7]
   have g:=yb (P:=λ i=>Ev (λ m k=>jS m k (c::r) (c::r).length i) (((c::r).drop i).all λ c=>Q0 (c.toNat:Int))) (c::r) (by omega)
    (λ j=>by
     refine waw ?_;simp only[qju,qcI];refine wau j (wav ?_);rw[xc];rfl)
    (λ i x y t j s q u=>by
     refine waw ?_;simp only[qju,qcI];refine war j (wat s (wao (qxM _) ?_));rw[t,kz,q];cases w:Q0 (x.toNat:Int)with
     |true=>exact wau rfl (u.res (by simp))
     |false=>exact war rfl (waq _))
   have o:Ev (λ m _=>jS m m (c::r) (c::r).length 0) ((c::r).all λ c=>Q0 (c.toNat:Int)):=by
    refine way (L:=λ m k=>jS m k (c::r) (c::r).length 0) ?_;exact(g 0 (wh _)).res (by rw[ke])
   have a:qh (c::r) 0=some c:=qa9 _
   have b:Ev (λ m _=>cond (ieq (c.toNat:Int) 95) (some false) (qb (qh (c::r) 0) λ v=>cond (ieq (v.toNat:Int) 35) (some false) (jS m m (c::r) (c::r).length 0))) ((!(decide ((c.toNat:Int)=95)) && !(decide ((c.toNat:Int)=35)))&&(c::r).all λ c=>Q0 (c.toNat:Int)):=by
    by_cases f:(c.toNat:Int)=95
    .exact war (qu.2 f) (wav (by rw[decide_eq_true f];rfl))
    .refine wau (qs.2 f) (wat a ?_);rw[decide_eq_false f];by_cases e:(c.toNat:Int)=35
     .exact war (qu.2 e) (wav (by rw[decide_eq_true e];rfl))
     .refine wau (qs.2 e) (o.res ?_);rw[decide_eq_false e];rfl
   cases w:Q0 (c.toNat:Int)with
   |false=>exact war rfl (waq _)
   |true=>
     refine wau rfl (wat a ?_);by_cases d:48<=(c.toNat:Int)
     .refine war (qgr.2 d) (wat a ?_);by_cases n:(c.toNat:Int)<=57
      .exact war (qgr.2 n) (wav (by rw[decide_eq_true d,decide_eq_true n];rfl))
      .refine wau (qh8.2 (by omega)) (wat a ?_);exact b.res (by rw[decide_eq_true d,decide_eq_false n];rfl)
     .refine wau (qh8.2 (by omega)) (wat a ?_);exact b.res (by rw[decide_eq_false d];rfl)
end Go.AmZ
namespace Go.AmZ
open Go Go.GxZ Go.Lib
theorem quj(b d:Nat):∀(l:List Nat) (c:Nat),l.foldl (λ a x=>max a (b+x)) (max d (b+c))=max d (b+l.foldl max c)
 |[],c=>rfl
 |x::l,c=>by
   rw[xa,xa,<-quj b d l (max c x)];congr 1;omega
def qGS(a n d:Nat)(e:Int)(s:Nat)(x:Nat)(r:(Int×Int×Unit)×(Int×Unit)):Prop:=r.2.1=e/\(e=0->r.1.1=((n+s:Nat):Int)/\r.1.2.1=((max d (a+x):Nat):Int))
theorem qBN(t:T):size t<=1000000000->∀c n d:Nat,c+size t<=2000000000->n+size t<=2000000000->d<=2000000000->∃r,Ev (λ m _=>zD m t c n d) r/\qGS c n d (Jd t) (size t) (qcX t-1) r:=by
 induction t using T.ind with
 |h t U=>
   intro hs c n d N B aa;have hl:=Q3 t;have X:=zy t
   have G:=yb (P:=λ i=>∀n d:Nat,n+((t.kids.drop i).map size).sum<=2000000000->d<=2000000000->∃r,Ev (λ m k=>yY m (zD m) k c t.kids t.kids.length i n d) r/\r.2.1=((t.kids.drop i).map Jd).foldl thn 0/\(((t.kids.drop i).map Jd).foldl thn 0=0->r.1.1=((n+((t.kids.drop i).map size).sum:Nat):Int)/\r.1.2.1=((((t.kids.drop i).map qcX).foldl (λ a x=>max a (c+x)) d:Nat):Int))) t.kids (by omega)
    (λ J n d _ _=>by
     refine⟨((n,d,()),(0,())),?_,?_,λ _=>⟨?_,?_⟩⟩
     .refine waw ?_;simp only[qlb,qdl];exact wau J (waq _)
     .simp
     .simp
     .simp)
    (λ i x W Q J hg Z hP n d B I=>by
     have M:=wc W;have q:=qa5 t x M;rw[qoJ Q]at B;let⟨r,Y,C,V⟩:=U x M (by omega) (c+1) n d (by omega) (by omega) I
     have l:∀w ,(r.2.1≠0->w=((r.1.1,r.1.2.1,()),(r.2.1,())))->(r.2.1=0->Ev (λ m k=>yY m (zD m) k c t.kids t.kids.length ((i+1:Nat):Int) r.1.1 r.1.2.1) w)->Ev (λ m k=>yY m (zD m) k c t.kids t.kids.length i n d) w:=by
      intro w A u;refine waw ?_;simp only[qlb,qdl,qt];refine war J (wat hg ?_);rw[show qj (c:Int) 1=((c+1:Nat):Int) by unfold qj;omega,Qy (by omega),Z];refine wao Y ?_;refine wap (λ h=>?_) λ h=>?_
      .rw[bnt,qs]at h;exact wav (A h).symm
      .rw[bnf,qu]at h;exact u h
     rw[Q,wv,wv,wv,kL,Ju,xa];by_cases f:Jd x=0
     .let⟨S,R⟩:=V f;have O:=qEm x;let⟨w,A,u,g3⟩:=hP (n+size x) (max d (c+1+(qcX x-1))) (by omega) (by omega);refine⟨w,l w (λ h=>absurd (C.trans f) h) (λ _=>by rw[S,R];exact A),by rw[f];exact u,λ o=>?_⟩;rw[f]at o;let⟨F,E⟩:=g3 o;refine⟨by rw[F];congr 1;omega,?_⟩;rw[E];have:qcX x ≥ 1:=by rw[qnz];omega
      rw[show max d (c+1+(qcX x-1))=max d (c+qcX x) by omega]
     .refine⟨((r.1.1,r.1.2.1,()),(r.2.1,())),l _ (λ _=>rfl) (λ h=>absurd (C.symm.trans h) f),?_,λ o=>?_⟩
      .rw[zp _ f];exact C
      .rw[zp _ f]at o;exact absurd o f)
   have start:∀r,(QQ t≠0->r=((((n+1:Nat):Int),((max d c:Nat):Int),()),(QQ t,())))->(QQ t=0->Ev (λ m _=>yY m (zD m) m c t.kids t.kids.length 0 ((n+1:Nat):Int) ((max d c:Nat):Int)) r)->Ev (λ m _=>zD m t c n d) r:=by
    intro r A u;refine wax ?_;simp only[quN,qdp];rw[show qj (n:Int) 1=((n+1:Nat):Int) by unfold qj;omega,Qy (by omega),qDR]
    have g:∀e,QQ t=e->e≠0->Ev (λ _ _=>some ((((n+1:Nat):Int),((max d c:Nat):Int),()),(e,()))) r:=by
     intro e C h;refine wav ?_;subst C;exact(A h).symm
    have nm:(t.kind=3\/t.kids.length=0)->(∀b,QW t.name=b->(if b then(if 8<t.kids.length then 3 else 0)else 2)=QQ t)->Ev (λ m _=>qb (qbK m t.name) λ v=>cond (qf v) (some ((((n+1:Nat):Int),((max d c:Nat):Int),()),(2,()))) (cond (ilt 8 (t.kids.length:Int)) (some ((((n+1:Nat):Int),((max d c:Nat):Int),()),(3,()))) (yY m (zD m) m c t.kids t.kids.length 0 ((n+1:Nat):Int) ((max d c:Nat):Int)))) r:=by
     intro _ h;have h:=h _ rfl;refine wao (qyn _) ?_;cases B:QW t.name with
     |false=>rw[B]at h;exact war rfl (g 2 h.symm (by decide))
     |true=>
       rw[B,if_pos rfl]at h;refine wau rfl ?_;refine wap (λ j=>?_) λ j=>?_
       .rw[zg]at j;rw[if_pos (by omega)]at h;exact g 3 h.symm (by decide)
       .rw[qX]at j;rw[if_neg (by omega)]at h;exact u h.symm
    have y:∀k,t.kind=k->(k=1\/k=2)->QQ t=if t.sort<0\/5<t.sort\/0<t.kids.length then 1 else if QW t.name then 0 else 2:=by
     intro k H h;unfold QQ qkL;rw[H,if_pos h]
    have s:∀k,t.kind=k->(k=1\/k=2)->Ev (λ m _=>cond (ilt t.sort 0) (some ((((n+1:Nat):Int),((max d c:Nat):Int),()),(1,()))) (cond (ilt 5 t.sort) (some ((((n+1:Nat):Int),((max d c:Nat):Int),()),(1,()))) (cond (ilt 0 (t.kids.length:Int)) (some ((((n+1:Nat):Int),((max d c:Nat):Int),()),(1,()))) (qb (qbK m t.name) λ v=>cond (qf v) (some ((((n+1:Nat):Int),((max d c:Nat):Int),()),(2,()))) (cond (ilt 8 (t.kids.length:Int)) (some ((((n+1:Nat):Int),((max d c:Nat):Int),()),(3,()))) (yY m (zD m) m c t.kids t.kids.length 0 ((n+1:Nat):Int) ((max d c:Nat):Int))))))) r:=by
     intro k H h;have p:=y k H h;refine wap (λ j=>?_) λ j=>?_
     .rw[zg]at j;exact g 1 (by rw[p,if_pos (.inl j)]) (by decide)
     rw[qX]at j;refine wap (λ q=>?_) λ q=>?_
     .rw[zg]at q;exact g 1 (by rw[p,if_pos (.inr (.inl q))]) (by decide)
     rw[qX]at q;refine wap (λ z=>?_) λ z=>?_
     .rw[zg]at z;exact g 1 (by rw[p,if_pos (.inr (.inr (by omega)))]) (by decide)
     rw[qX]at z;rw[if_neg (by omega)]at p;refine nm (.inr (by omega)) λ b K=>?_;rw[p,K,if_neg (show ¬ 8<t.kids.length by omega)]
    by_cases q:t.kind=1
    .exact war (qu.2 q) (s 1 q (.inl rfl))
    refine wau (qs.2 q) ?_;by_cases z:t.kind=2
    .exact war (qu.2 z) (s 2 z (.inr rfl))
    refine wau (qs.2 z) ?_;by_cases D:t.kind=3
    .refine war (qu.2 D) ?_
     have p:QQ t=if t.sort≠0 then 1 else if QW t.name then(if 8<t.kids.length then 3 else 0)else 2:=by
      unfold QQ qkL;rw[if_neg (by omega),if_pos D]
     refine wap (λ j=>?_) λ j=>?_
     .rw[bnt,qs]at j;exact g 1 (by rw[p,if_pos j]) (by decide)
     rw[bnf,qu]at j;rw[if_neg (by omega)]at p;exact nm (.inl D) λ b K=>by rw[p,K]
    .refine wau (qs.2 D) ?_;refine g 1 ?_ (by decide);unfold QQ qkL;rw[if_neg (by omega),if_neg D]
   rw[qmI];by_cases f:QQ t=0
   .rw[f];let⟨r,A,u,g3⟩:=G 0 (wh _) (n+1) (max d c) (by rw[ke];omega) (by omega);rw[ke]at u g3;refine⟨r,start r (λ h=>absurd f h) (λ _=>way (L:=λ m k=>yY m (zD m) k c t.kids t.kids.length 0 ((n+1:Nat):Int) ((max d c:Nat):Int)) A),u,λ o=>?_⟩;let⟨F,E⟩:=g3 o;refine⟨by rw[F];congr 1;omega,?_⟩;rw[E,show max d c=max d (c+0) by omega,quj,qnz,xM]
   .refine⟨_,start _ (λ _=>rfl) (λ h=>absurd h f),?_,λ o=>?_⟩
    .rw[zp _ f]
    .rw[zp _ f]at o;exact absurd o f
theorem qa7(t:T)(c:size t<=1000000000):Ev (λ m _=>qR m t) (zl t):=by
 refine wax ?_;simp only[qu4,qfY,qt];unfold zl;let⟨r,f,e,d⟩:=qBN t c 1 0 0 (by omega) (by omega) (by omega);refine wao f ?_;rw[e];refine wap (λ h=>?_) λ h=>?_
 .rw[bnt,qs]at h;exact wav (by rw[if_pos h])
 rw[bnf,qu]at h;let⟨b,a⟩:=d h;have g:qcX t ≥ 1:=by rw[qnz];omega
 rw[if_neg (by omega),b,a];refine wap (λ h=>?_) λ h=>?_
 .rw[zg]at h;exact wav (by rw[if_pos (.inl (by omega))])
 rw[qX]at h;refine wap (λ h=>?_) λ h=>?_
 .rw[zg]at h;exact wav (by rw[if_pos (.inr (by omega))])
 .rw[qX]at h;exact wav (by rw[if_neg (by omega)])
theorem qu9(t:T):size t<=1000000000->Ev (λ m _=>yR m t) t:=by
 induction t using T.ind with
 |h t e=>
   intro l;refine wax ?_;simp only[quc,qdo];have n:=Q3 t
   have a:=yb (P:=λ i=>Ev (λ m k=>Jx m (yR m) k t.kids t.kids.length i t.kind t.name t.sort 0 [] 0 (t.kids.take i) []) t) t.kids (by omega)
    (λ b=>by
     refine waw ?_;simp only[qld,qdk];refine wau b ?_;rw[wV];exact wav (qt t))
    (λ i x c o b g f j=>by
     refine waw ?_;simp only[qld,qdk,qt];have d:=wc c;have p:=qa5 t x d;refine war b (wat g (wao (e x d (by omega)) (war (Je ?_ (by omega)) ?_)))
     .have:(t.kids.take i).length<=t.kids.length:=by rw[wk];omega
      omega
     .rw[f];refine j.congr λ m k=>?_;rw[kH,c];rfl)
   refine way (L:=λ m k=>Jx m (yR m) k t.kids t.kids.length 0 t.kind t.name t.sort 0 [] 0 [] []) ?_;exact a 0 (wh _)
def qzD:T->Prop:=T.para λ t a=>t.kids.length<2^62/\t.name.length<2^62/\∀p∈a,p
theorem qFa(t:T):qzD t↔t.kids.length<2^62/\t.name.length<2^62/\∀k∈t.kids,qzD k:=by
 unfold qzD;rw[T.para_eq];exact⟨λ⟨a,b,c⟩=>⟨a,b,λ k d=>c _ (kY d)⟩,λ⟨a,b,c⟩=>⟨a,b,λ p e=>by obtain⟨k,d,rfl⟩:=wC.1 e;exact c k d⟩⟩
end Go.AmZ
namespace Go.GxZ
theorem qft{t:T}(e:t.kind=3)(h:zw t=0):qbO t=0/\(∀k∈t.kids,zw k=0):=by
 rw[qnu,if_neg (show ¬ (t.kind≠3)from λ h=>h e)]at h;by_cases c:qbO t=0
 .refine⟨c,?_⟩;rw[c]at h;generalize t.kids=l at*
  induction l with
  |nil=>intro k a;cases a
  |cons x l d=>
    rw[wv,Ju]at h;by_cases b:zw x=0
    .rw[b]at h;intro k a;obtain rfl|a:=wG.1 a
     .exact b
     .exact d h k a
    .rw[zp _ b]at h;exact absurd h b
 .rw[zp _ c]at h;exact absurd h c
end Go.GxZ
namespace Go.AmZ
open Go Go.GxZ Go.Lib
theorem qgb(t:T)(n:List UInt8):Ev (λ m _=>yL m t n) (isN t n):=by
 refine wax ?_;simp only[qwY,qhx];unfold isN;refine wap (λ h=>?_) λ h=>?_
 .rw[qu]at h;exact wav (by rw[h];rfl)
 .rw[qs]at h;exact wav (by rw[show(t.kind==3)=false from beq_eq_false_iff_ne.2 h];rfl)
theorem qGc(n:List UInt8)(l:List T):Ev (λ m _=>qeA m n l) (apT n l):=wax (waq _)
def qDu(n:List UInt8):List UInt8×Int×Int×Int:=(qiQ.find? λ r=>r.1==n).getD ([],0,0,0)
theorem qvO(n:List UInt8):(qDu n).2=zK n:=by
 unfold qDu zK;cases qiQ.find? λ r=>r.1==n<;>rfl
theorem qsA(n:List UInt8):Ev (λ m _=>J6 m n) (qDu n):=by
 refine wax ?_;simp only[qpV,qbc];refine wao (a:=qiQ) (waq _) ?_
 have b:=yb (P:=λ i=>Ev (λ m k=>Qn m k n qiQ qiQ.length i [] 0 0 0) (((qiQ.drop i).find? λ r=>r.1==n).getD ([],0,0,0))) qiQ (by decide)
  (λ c=>by
   refine waw ?_;simp only[qhH,qbz];refine wau c ?_;exact waq _)
  (λ i x j f c e d g=>by
   refine waw ?_;simp only[qhH,qbz];refine war c (wat e ?_);rw[f,List.find?_cons,d];refine wap (λ h=>?_) λ h=>?_
   .exact wav (by rw[show(x.1==n)=true from h];rfl)
   .rw[show(x.1==n)=false from h];exact g)
 refine way (L:=λ m k=>Qn m k n qiQ qiQ.length 0 [] 0 0 0) ?_;exact b 0 (wh _)
theorem qwx{t:T}(c:t.kind=3)(h:qbO t=0):(zK t.name).2.2≠0/\(zK t.name).1<=(t.kids.length:Int)/\(t.kids.length:Int)<=(zK t.name).2.1/\qaG t=false:=by
 unfold qbO at h;rw[if_neg (show ¬ t.kind≠3 from λ a=>a c)]at h;split at h
 .omega
 rename_i d;split at h
 .omega
 rename_i e;split at h
 .omega
 rename_i b;exact⟨d,by omega,by omega,by simpa using b⟩
theorem qrZ{t:T}{i:Nat}(h:i<t.kids.length):qh t.kids (i:Int)=some (kid t i):=by
 rw[jk];unfold kid;rw[List.getD_eq_getElem?_getD,List.getElem?_eq_getElem h];rfl
theorem qkt{t:T}(h:0<t.kids.length):qh t.kids 0=some (kid t 0):=qrZ (i:=0) h
theorem qyF{t:T}(h:1<t.kids.length):qh t.kids 1=some (kid t 1):=qrZ (i:=1) h
theorem qxi{t:T}{i:Nat}(h:i<t.kids.length):kid t i∈t.kids:=by
 unfold kid;rw[List.getD_eq_getElem?_getD,List.getElem?_eq_getElem h];exact wS h
theorem qal{t:T}{n:List UInt8}:isN t n=true↔t.kind=3/\t.name=n:=by
 unfold isN;rw[wb,beq_iff_eq,beq_iff_eq]
theorem qAv(t:T):size t<=1000000000->Ev (λ m _=>qx m t) (zw t):=by
 induction t using T.ind with
 |h t E=>
   intro F;refine wax ?_;simp only[qr9,qbT];have G:=Q3 t;rw[qnu];refine wap (λ h=>?_) λ z=>?_
   .rw[bnt,qs]at h;exact wav (by rw[if_pos h])
   rw[bnf,qu]at z;rw[if_neg (show ¬ t.kind≠3 from λ c=>c z)]
   have C:=yb (P:=λ i=>Ev (λ m k=>(qK m (qx m) k).2 t.kids t.kids.length i) (((t.kids.drop i).map zw).foldl thn 0)) t.kids (by omega)
    (λ f=>by
     refine waw ?_;simp only[qiN,qb2];refine wau f ?_;exact wav (by simp))
    (λ i x A w f v u y=>by
     refine waw ?_;simp only[qiN,qb2,qt];have B:=wc A;have l:=qa5 t x B;refine war f (wat v (wao (E x B (by omega)) ?_));rw[w,wv,Ju,u];refine wap (λ h=>?_) λ h=>?_
     .rw[bnt,qs]at h;exact wav (by rw[zp _ h])
     .rw[bnf,qu]at h;rw[h];exact y)
   have n:Ev (λ m k=>(qK m (qx m) k).2 t.kids t.kids.length 0) ((t.kids.map zw).foldl thn 0):=(C 0 (wh _)).res (by rw[ke])
   have D:=yb (P:=λ i=>Ev (λ m k=>(qK m (qx m) k).1 t.kids t.kids.length i t.kind t.name t.sort t.kids) (if(t.kids.drop i).any (λ k=>decide (k.kind=3)||decide (k.sort≠1))=true then 10 else(t.kids.map zw).foldl thn 0)) t.kids (by omega)
    (λ f=>by
     refine waw ?_;simp only[qib,qb1];refine wau f ?_;refine n.res ?_;rw[xc];rfl)
    (λ i x A w f v u y=>by
     refine waw ?_;simp only[qib,qb1,qt];refine war f (wat v ?_);rw[w,List.any_cons,u];refine wap (λ h=>?_) λ h=>?_
     .rw[qu]at h;exact wav (by rw[decide_eq_true h];rfl)
     rw[qs]at h;rw[decide_eq_false h];refine wap (λ q=>?_) λ q=>?_
     .rw[bnt,qs]at q;exact wav (by rw[decide_eq_true q];rfl)
     .rw[bnf,qu]at q;rw[decide_eq_false (λ c=>c q)];exact y)
   have d:qbO t=0->Ev (λ m _=>(qK m (qx m) m).2 t.kids t.kids.length 0) ((t.kids.map zw).foldl thn (qbO t)):=λ h=>by
    rw[h];exact way (L:=λ m k=>(qK m (qx m) k).2 t.kids t.kids.length 0) n
   have e:qaG t=t.kids.any (λ k=>decide (k.kind=3)||decide (k.sort≠1))->qbO t=(if qaG t=true then 10 else 0)->Ev (λ m _=>(qK m (qx m) m).1 t.kids t.kids.length 0 t.kind t.name t.sort t.kids) ((t.kids.map zw).foldl thn (qbO t)):=λ r h=>by
    refine(way (L:=λ m k=>(qK m (qx m) k).1 t.kids t.kids.length 0 t.kind t.name t.sort t.kids) (D 0 (wh _))).res ?_;rw[ke,<-r,h];split
    .rw[zp _ (by decide)]
    .rfl
   refine wao (qsA t.name) ?_;rw[qvO]
   have a:qbO t=if(zK t.name).2.2=0 then 10 else if(t.kids.length:Int)<(zK t.name).1\/(zK t.name).2.1<(t.kids.length:Int)then 6 else if qaG t=true then 10 else 0:=by
    unfold qbO;rw[if_neg (show ¬ t.kind≠3 from λ c=>c z)]
   refine wap (λ h=>?_) λ h=>?_
   .rw[qu]at h;rw[if_pos h]at a;exact wav (by rw[a,zp _ (by decide)])
   rw[qs]at h;rw[if_neg h]at a;refine wap (λ l=>?_) λ l=>?_
   .rw[zg]at l;rw[if_pos (.inl l)]at a;exact wav (by rw[a,zp _ (by decide)])
   rw[qX]at l;refine wap (λ s=>?_) λ s=>?_
   .rw[zg]at s;rw[if_pos (.inr s)]at a;exact wav (by rw[a,zp _ (by decide)])
   rw[qX]at s;rw[if_neg (by omega)]at a;refine wap (λ p=>?_) λ p=>?_
   .rw[Qb]at p;refine e ?_ a;unfold qaG;rw[p,if_neg (by decide),if_pos (.inl rfl)]
   rw[qai]at p;refine wap (λ b=>?_) λ b=>?_
   .rw[Qb]at b;refine e ?_ a;unfold qaG;rw[b,if_neg (by decide),if_pos (.inr rfl)]
   rw[qai]at b;refine wap (λ j=>?_) λ j=>?_
   .rw[Qb]at j
    have o:0<t.kids.length:=by
     rw[j,show(zK [110,101,119]).1=1 from by decide]at l;omega
    refine wat (qkt o) ?_
    have r:qaG t=decide ((kid t 0).kind≠2):=by
     unfold qaG;rw[if_pos (show t.name=qom from j)]
    refine wap (λ c=>?_) λ c=>?_
    .rw[bnt,qs]at c;rw[r,decide_eq_true c,if_pos rfl]at a;exact wav (by rw[a,zp _ (by decide)])
    .rw[bnf,qu]at c;rw[r,decide_eq_false (λ g=>g c)]at a;exact d a
   .rw[qai]at j;refine d ?_
    have:qaG t=false:=by
     unfold qaG;rw[if_neg (show ¬ t.name=qom from j),if_neg (λ h=>h.elim p b)]
    rw[this]at a;exact a
theorem qES(t:T)(a:size t<=1000000000):Ev (λ m _=>Jy m t) (qfS t):=by
 refine wax ?_;simp only[qru,qet,qt];unfold qfS;refine wao (qa7 t a) ?_;refine wap (λ h=>?_) λ h=>?_
 .rw[bnt,qs]at h;exact wav (by rw[Qm h])
 .rw[bnf,qu]at h;rw[h];exact wao (qAv t a) (waq _)
end Go.AmZ
namespace Go.GxZ
def Asc(l:List T):Prop:=l.Pairwise λ a b=>qG a b=-1
theorem qFg{a b:T}:qG a b=1↔qG b a=-1:=by
 have:=QH.anti a b;omega
theorem qx4{a b c:T}(e:qG a b=-1)(d:qG b c=-1):qG a c=-1:=QH.trans a b c e d
theorem qC6{x:T}{l:List T}:Asc (x::l)↔(∀y∈l,qG x y=-1)/\Asc l:=List.pairwise_cons
theorem qsY{a b:T}:qbt a b=true↔a=b:=by unfold qbt;exact decide_eq_true_iff
end Go.GxZ
namespace Go.AmZ
open Go Go.GxZ Go.Lib
def szL(l:List T):Nat:=(l.map size).sum
theorem zX(x:T)(l:List T):szL (x::l)=size x+szL l:=by simp[szL]
theorem qeY(a b:List T):szL (a++b)=szL a+szL b:=by simp[szL]
theorem qbJ:∀l:List T,l.length<=szL l
 |[]=>wh _
 |x::l=>by
   have:=qbJ l;have:=size_pos x;rw[zX,wA];omega
theorem qgD{l:List T}{x:T}(h:x∈l):size x<=szL l:=qjY l x h
theorem qj8:∀(n:Nat) (a b:List T),a.length+b.length<=n->szL (yI a b)<=szL a+szL b
 |_,[],b,_|_,x::a,[],_=>by rw[yI];omega
 |0,x::a,y::b,h=>by simp at h
 |n+1,x::a,y::b,h=>by
   simp only[wA]at h;rw[yI];split
   .have:=qj8 n a (y::b) (by simp;omega);rw[zX,zX];omega
   .split
    .have:=qj8 n (x::a) b (by simp;omega);rw[zX y,zX y];omega
    .have:=qj8 n a b (by omega);rw[zX,zX];omega
theorem qn3:∀(b:List (List T)) (a:List T),szL (b.foldl yI a)<=szL a+(b.map szL).sum
 |[],_=>by simp
 |l::b,a=>by
   have d:=qn3 b (yI a l);have c:=qj8 _ a l (wa _);simp only[xa,wv,kL];omega
theorem qqk(f g:T->Nat):∀l:List T,(∀k∈l,f k<=g k)->(l.map f).sum<=(l.map g).sum
 |[],_=>wa _
 |x::l,h=>by
   have c:=h x (wm ..);have b:=qqk f g l λ k a=>h k (we _ a);simp only[wv,kL];omega
theorem qu6(l:List T)(h:∀k∈l,szL (JS k)<=size k):szL ((l.map JS).foldl yI [])<=szL l:=by
 refine wD (qn3 _ _) ?_;rw[xl];have:=qqk (szL ∘ JS) size l h;show 0+_<=(l.map size).sum;omega
theorem qoQ(t:T):szL (JS t)<=size t:=by
 refine T.ind (P:=λ t=>szL (JS t)<=size t) ?_ t;intro t a;rw[qoY];split
 .exact wh _
 .split
  .have:=qu6 t.kids a;have:=zy t;unfold szL at *;omega
  .show szL [t]<=_;rw[zX];exact wa _
theorem qiF(l:List T):szL (yK l)<=szL l:=qu6 l λ k _=>qoQ k
theorem qk0(x:T)(l:List T):yv (x::l) 1 (((x::l).length:Nat):Int)=l:=by
 unfold yv;rw[km,wV];rfl
theorem qkz(n:Nat):inb (n:Int) n=true:=by unfold inb;rw[decide_eq_true_iff];omega
theorem qnC(x:T)(l:List T):inb 1 (Int.toNat (((x::l).length:Nat):Int))=true:=by
 unfold inb;rw[decide_eq_true_iff,km,wA];omega
theorem qwi(x:T)(l:List T):ilt 0 (((x::l).length:Nat):Int)=true:=by rw[zg,wA];omega
theorem qzi:∀(n:Nat) (a b c:List T),a.length+b.length<=n->szL c+szL a+szL b<=1000000000->Ev (λ m k=>qbk m k a b c) (c++yI a b):=by
 intro n
 induction n with
 |zero=>
   intro a b c i g;have:a=[]:=wg (by omega);subst this;have:b=[]:=wg (by omega);subst this;refine waw ?_;simp only[qn5,qfn];have:=qbJ c;exact wau rfl (war (Je (by simp only[k9];omega) (by omega)) (war (Je (by simp only[k9,wx];omega) (by omega)) (wav (by rw[yI];simp))))
 |succ n f=>
   intro a b c i g;refine waw ?_;simp only[qn5,qfn,qt];have o:=qbJ c;have l:=qbJ a;have j:=qbJ b;cases a with
   |nil=>
     refine wau rfl (war (Je (by simp only[k9];omega) (by omega)) (war (Je (by simp only[wx];omega) (by omega)) (wav (by rw[yI];simp))))
   |cons x a=>
     refine war (qwi x a) ?_;cases b with
     |nil=>
       refine wau rfl (war (Je (by omega) (by omega)) (war (Je (by rw[wd];simp only[k9];omega) (by omega)) (wav (by rw[yI];simp))))
     |cons y b=>
       rw[zX,zX]at g;refine war (qwi y b) (wat (qa9 _) (wat (qa9 _) (wao (qfj x (by omega) y (by omega)) ?_)));rw[yI];simp only[wA]at i l j;rw[zX]at l j;refine wap (λ e=>?_) λ e=>?_
       .rw[zg]at e;have e:qG x y=-1:=by obtain h|h|h:=QH.rng x y<;>omega
        rw[if_pos e];refine wat (qa9 _) (war (Je (by omega) (by omega)) (war (qkz _) (war (qnC x a) ?_)));rw[qk0];refine(f a (y::b) (c++[x]) (by simp only[wA];omega) (by rw[qeY,zX,zX];show szL c+(size x+0)+_+_<=_;omega)).res (by simp)
       .rw[qX]at e;rw[if_neg (by omega)];refine wap (λ d=>?_) λ d=>?_
        .rw[zg]at d;have d:qG x y=1:=by obtain h|h|h:=QH.rng x y<;>omega
         rw[if_pos d];refine wat (qa9 _) (war (Je (by omega) (by omega)) (war (qkz _) (war (qnC y b) ?_)));rw[qk0];refine(f (x::a) b (c++[y]) (by simp only[wA];omega) (by rw[qeY,zX,zX];show szL c+(size y+0)+_+_<=_;omega)).res (by simp)
        .rw[qX]at d;rw[if_neg (by omega)];refine war (qkz _) (war (qnC x a) (war (qkz _) (war (qnC y b) ?_)));rw[qk0,qk0];exact f a b c (by omega) (by omega)
theorem qt5(a b:List T)(c:szL a+szL b<=1000000000):Ev (λ m _=>qhc m a b) (yI a b):=by
 refine wax ?_;simp only[qyR,qfm];refine way (L:=λ m k=>qbk m k a b []) ?_;exact qzi _ a b [] (wa _) (by show 0+_+_<=_;omega)
theorem qwR(l:List T)(i:Nat):szL (l.take i)<=szL l:=by
 have:=congrArg szL (kI i l);rw[qeY]at this;omega
theorem qfV{l:List T}{i:Nat}{x:T}(h:l[i]?=some x):szL (l.take i)+size x<=szL l:=by
 have b:l.take (i+1)=l.take i++[x]:=by rw[kH,h];rfl
 have a:=qwR l (i+1);rw[b,qeY,zX]at a;have:szL ([]:List T)=0:=rfl;omega
theorem qq9{l:List T}{i:Nat}{x:T}(h:l[i]?=some x):((l.take (i+1)).map JS).foldl yI []=yI (((l.take i).map JS).foldl yI []) (JS x):=by
 rw[kH,h,kh,vP];rfl
theorem qDD(t:T):size t<=1000000000->Ev (λ m _=>ye m t) (JS t):=by
 induction t using T.ind with
 |h t s=>
   intro B;have C:=Q3 t;have A:=zy t;refine wax ?_;simp only[qrK,qbW,qt]
   have o:=yb (P:=λ i=>Ev (λ m k=>jX m (ye m) k (((t.kids.take i).map JS).foldl yI []) t.kids t.kids.length i) ((t.kids.map JS).foldl yI [])) t.kids (by omega)
    (λ q=>by
     refine waw ?_;simp only[qhY,qb3];refine wau q ?_;rw[wV];exact waq _)
    (λ i x c D q w u y=>by
     refine waw ?_;simp only[qhY,qb3,qt];have r:=wc c;have F:=qa5 t x r;have z:=qiF (t.kids.take i);have g:=qfV c;have E:=qoQ x;refine war q (wat w (wao (s x r (by omega)) (wao (qt5 _ _ ?_) ?_)))
     .unfold yK at z;unfold szL at *;omega
     .rw[u];refine y.congr λ m k=>?_;rw[qq9 c])
   have j:Ev (λ m _=>jX m (ye m) m [] t.kids t.kids.length 0) ((t.kids.map JS).foldl yI []):=
    way (L:=λ m k=>jX m (ye m) k [] t.kids t.kids.length 0) (o 0 (wh _))
   rw[qoY];by_cases g:t.kind=3
   .have f:ieq t.kind 3=true:=qu.2 g;refine war f ?_;refine wap (λ e=>?_) λ e=>?_
    .rw[Qb]at e;have a:isN t qqQ=true:=qal.2 ⟨g,e⟩
     have d:isN t qfa=false:=by
      rw[<-kG,qal];rintro⟨_,h⟩;rw[e]at h;exact absurd h (by decide)
     refine wap (λ b=>?_) λ b=>?_
     .rw[qu]at b;have b:t.kids=[]:=wg (by omega);rw[a,b];exact waq _
     .rw[qs]at b
      have b:t.kids.isEmpty=false:=by
       cases v:t.kids with
       |nil=>rw[v]at b;exact absurd rfl b
       |cons _ _=>rfl
      rw[a,b,d];exact war f (wau (by rw[e];rfl) (waq _))
    .have p:=qai.1 e
     have a:isN t qqQ=false:=by
      rw[<-kG,qal];rintro⟨_,h⟩;exact p h
     rw[a];refine war f (wap (λ c=>?_) λ c=>?_)
     .rw[show isN t qfa=true from qal.2 ⟨g,Qb.1 c⟩];exact j
     .have d:isN t qfa=false:=by
        rw[<-kG,qal];rintro⟨_,h⟩;exact qai.1 c h
      rw[d];exact waq _
   .have f:ieq t.kind 3=false:=qs.2 g
    have l:∀n,isN t n=false:=λ n=>by
     rw[<-kG,qal];rintro⟨h,_⟩;exact g h
    rw[l,l];exact wau f (wau f (waq _))
end Go.AmZ
namespace Go.AmZ
open Go Go.GxZ
theorem qBG(b:List (List T))(d:b.length<1000)(h:(b.map List.length).sum<=100000000):Ev (λ m _=>zo m b) b.flatten:=by
 have g:∀l:List (List T),l.flatten.length=(l.map List.length).sum:=λ l=>List.length_flatten
 have s:=yb (P:=λ i=>Ev (λ m k=>(qg m k).2 b b.length i (b.take i).flatten) b.flatten) b (by omega)
  (λ c=>by
   refine waw ?_;simp only[Ja,yC];refine wau c ?_;rw[wV];exact waq _)
  (λ i x o r c f e j=>by
   refine waw ?_;simp only[Ja,yC];have p:b.take (i+1)=b.take i++[x]:=by rw[kH,o];rfl
   have q:((b.take (i+1)).map List.length).sum<=(b.map List.length).sum:=by
    have:=congrArg (λ l=>(l.map List.length).sum) (kI (i+1) b);simp only[kh,List.sum_append]at this;omega
   rw[p]at q;simp only[kh,List.sum_append,wv,vx,kL,List.sum_nil]at q;refine war c (wat f (war (Je ?_ (by omega)) ?_))
   .rw[g];omega
   .rw[e];refine j.congr λ m k=>?_;rw[p,List.flatten_append];simp)
 have t:=yb (P:=λ i=>∀n:Nat,n+((b.drop i).map List.length).sum<=100000000->Ev (λ m k=>(qg m k).1 b n b b.length i) b.flatten) b (by omega)
  (λ c n d=>by
   refine waw ?_;simp only[Jb,yy];refine wau c (wat (a:=((),[],())) ?_ (s 0 (wh _)));unfold yp;rw[show inb (n:Int) 100000000=true from by unfold inb;rw[decide_eq_true_iff];omega];rfl)
  (λ i x o r c f e j n d=>by
   refine waw ?_;simp only[Jb,yy];rw[r,wv,kL]at d;refine war c (wat f ?_);rw[qe8,Qy (by omega)];refine wau (qX.2 (by omega)) ?_;rw[e];exact j (n+x.length) (by omega))
 refine wax ?_;simp only[qdc,yz];refine way (L:=λ m k=>(qg m k).1 b 0 b b.length 0) ?_;exact t 0 (wh _) 0 (by rw[ke];omega)
theorem qqS(a b:List T)(h:a.length+b.length<=100000000):Ev (λ m _=>zo m [a,b]) (a++b):=
 (qBG [a,b] (by simp) (by simpa using h)).res (by simp)
theorem qvz{f:T->Int}{l:List T}{i:Nat}{x:T}(h:l.drop i=x::l.drop (i+1)):((l.drop i).map f).foldl thn 0=if f x≠0 then f x else((l.drop (i+1)).map f).foldl thn 0:=by
 rw[h,wv];by_cases a:f x=0
 .rw[if_neg (by simpa using a),a];rfl
 .rw[if_pos a];exact zp _ a
theorem qCm(l:List T)(n:szL l<=100000000):Ev (λ m _=>qiC m l []) (qpX l):=by
 have o:=qbJ l;refine wax ?_;simp only[qwL,qej];unfold qpX;refine wap (λ h=>?_) λ h=>?_
 .rw[zg]at h;rw[if_pos (by omega)];exact waq _
 .rw[qX]at h;rw[if_neg (by omega)];refine wao (qqS l [] (by simp only[k9];omega)) ?_;rw[wx]
  have b:=yb (P:=λ i=>Ev (λ m k=>qaA m k l l.length i) (((l.drop i).map zl).foldl thn 0)) l (by omega)
   (λ c=>by
    refine waw ?_;simp only[qmd,qen];refine wau c ?_;rw[xc];exact waq _)
   (λ i x d g c f e j=>by
    refine waw ?_;simp only[qmd,qen,qt];have p:=qgD (wc d);rw[qvz g];refine war c (wat f (wao (qa7 x (by omega)) (wap (λ a=>?_) λ a=>?_)))
    .rw[bnt,qs]at a;rw[if_pos a];exact waq _
    .rw[bnf,qu]at a;rw[if_neg (by omega),e];exact j)
  refine way (L:=λ m k=>qaA m k l l.length 0) ?_;exact(b 0 (wh _)).res (by rw[ke])
theorem qzk(t:T)(a:size t<=1000000000):Ev (λ m _=>qew m t [] t) (t,0):=by
 refine wax ?_;simp only[qry,qb4,qt];refine wao (qu9 t a) ?_;refine way (L:=λ m k=>Js m k [] ([]:List Int).length 0 t.kind t.name t.sort t.kids 0 [] 0 t.kind t.name t.sort t.kids []) (waw ?_);simp only[qqV,qeu,qt];refine wau rfl ?_;rw[show T.mk t.kind t.name t.sort t.kids=t from qt t];exact wao (qu9 t a) (waq _)
def qcg(l:List T)(i:Nat):List T:=l.take i++List.replicate (l.length-i) zT
theorem qD6{l:List T}{i:Nat}(h:i<l.length):(qcg l i)[i]?=some zT:=by
 unfold qcg;rw[List.getElem?_append_right (by rw[wk];omega),wk,List.getElem?_replicate,if_pos (by omega)]
theorem qov{l:List T}{i:Nat}{x:T}(h:l[i]?=some x):(qcg l i).set i x=qcg l (i+1):=by
 have c:=(List.getElem?_eq_some_iff.1 h).1;unfold qcg;have b:l.take (i+1)=l.take i++[x]:=by rw[kH,h];rfl
 have a:List.replicate (l.length-i) zT=zT::List.replicate (l.length-(i+1)) zT:=by
  rw[show l.length-i=(l.length-(i+1))+1 by omega,List.replicate_succ]
 rw[b,a,vu _ _ (by rw[wk];omega),wk,show i-min i l.length=0 by omega,List.set_cons_zero,wn];rfl
theorem qz7{l:List T}{i:Nat}{x:T}(h:l[i]?=some x):(qcg l (i+1)).set i x=qcg l (i+1):=by
 rw[<-qov h,List.set_set]
theorem qAK{l:List T}{i:Nat}{x:T}(h:l[i]?=some x):(qcg l (i+1))[i]?=some x:=by
 have a:=(List.getElem?_eq_some_iff.1 h).1;rw[<-qov h,List.getElem?_set_self (by unfold qcg;rw[wd,wk,ko];omega)]
theorem qfb{α:Type}(l:List α)(i:Nat)(v:α):yc l (i:Int) v=l.set i v:=by
 unfold yc;rw[if_pos (by omega),km]
theorem qFn:∀(n:Nat) (l:List T),szL l<=n->n<=1000000->Ev (λ m _=>Q4 m l) l:=by
 intro n
 induction n using Nat.strongRecOn with
 |_ n p=>
 intro l s t;have u:=qbJ l;refine wax ?_;simp only[qAO,qge]
 have d:=yb (P:=λ i=>Ev (λ m k=>qcl m (Q4 m) k l l.length i (qcg l i)) l) l (by omega)
  (λ h=>by
   refine waw ?_;simp only[qqR,qgA];refine wau h ?_;exact wav (by unfold qcg;rw[wV,ky];simp))
  (λ i x b v h r q j=>by
   refine waw ?_;simp only[qqR,qgA,qt];have y:=qgD (wc b);have w:=zy x;have f:=(List.getElem?_eq_some_iff.1 b).1;have e:yc (qcg l i) i x=qcg l (i+1):=by rw[qfb,qov b]
   have o:yc (qcg l (i+1)) i x=qcg l (i+1):=by rw[qfb,qz7 b]
   have g:qh (qcg l (i+1)) i=some x:=by rw[jk,qAK b]
   refine war h (wat r (wao (qzk x (by omega)) (wat (a:=zT) (by rw[jk,qD6 f]) (wao (p (szL x.kids) (by unfold szL at *;omega) x.kids (wa _) (by unfold szL at *;omega)) ?_))));rw[e];refine wat g ?_;rw[show T.mk x.kind x.name x.sort x.kids=x from qt x,o,q];refine wap (λ c=>?_) λ c=>j;rw[qu]at c;have c:x.kids=[]:=wg (by omega);refine wat g ?_;rw[show T.mk x.kind x.name x.sort []=x from by rw[<-c];exact qt x,o];exact j)
 refine war (by unfold qtS;rw[decide_eq_true_iff,km];omega) ?_;refine way (L:=λ m k=>qcl m (Q4 m) k l l.length 0 (List.replicate (Int.toNat (l.length:Int)) (T.mk 0 [] 0 []))) ?_;refine(d 0 (wh _)).congr λ m k=>?_;unfold qcg;rw[vD,km];rfl
theorem qEO(l:List T)(z:szL l<=900000):Ev (λ m _=>qnx m l) (qsj l):=by
 have A:=qbJ l;refine wax ?_;simp only[qA2,qgk];unfold qsj;refine wao (qCm l (by omega)) (wap (λ h=>?_) λ h=>?_)
 .rw[bnt,qs]at h;rw[if_pos h];exact waq _
 .rw[bnf,qu]at h;rw[if_neg (by omega)]
  have e:=yb (P:=λ i=>Ev (λ m k=>qcd m k (((l.take i).map JS).foldl yI []) l l.length i 0 [] 0 []) (if zl (qby (yK l))≠0 then(zT,3)else(qby (yK l),0))) l (by omega)
   (λ j=>by
    refine waw ?_;simp only[qrf,qgx,qt];refine wau j ?_;rw[wV];have b:=qiF l;show Ev (λ m k=>qb (Q4 m (yK l)) _) _;have o:=qbJ (yK l)
    have c:∀u:T,u=qby (yK l)->Ev (λ m _=>qb (qR m u) λ v=>cond (qf (ieq v 0)) (some (T.mk 0 [] 0 [],(3:Int))) (some (u,0))) (if zl (qby (yK l))≠0 then(zT,3)else(qby (yK l),0)):=by
     intro u p
     have y:size (qby (yK l))<=1+szL (yK l):=by
      unfold qby;split
      .rw[zy];show 1+0<=_;omega
      .split
       .rename_i _ d
        have:(yK l).getD 0 zT∈yK l:=by
         cases g:yK l with
         |nil=>rw[g]at d;cases d
         |cons x r=>exact wm ..
        have:=qgD this;omega
       .rw[zy];exact wa _
     subst p;refine wao (qa7 _ (by omega)) (wap (λ h=>?_) λ h=>?_)
     .rw[bnt,qs]at h;rw[if_pos h];exact waq _
     .rw[bnf,qu]at h;rw[if_neg (by omega)];exact waq _
    refine wao (qFn _ (yK l) (wa _) (by omega)) (wap (λ n=>?_) λ n=>?_)
    .rw[qu]at n;exact c _ (by unfold qby;rw[if_pos (by omega)];rfl)
    .rw[qs]at n;refine wap (λ b=>?_) λ b=>?_
     .rw[qu]at b;refine wat (a:=(yK l).getD 0 zT) ?_ (c _ (by unfold qby;rw[if_neg (by omega),if_pos (by omega)]));rw[qa9,List.getD_eq_getElem?_getD];cases g:yK l with
      |nil=>rw[g]at b;simp at b
      |cons x r=>rfl
     .rw[qs]at b;exact c _ (by unfold qby;rw[if_neg (by omega),if_neg (by omega)];rfl))
   (λ i x f B j t s w=>by
    refine waw ?_;simp only[qrf,qgx,qt];have q:=wc f;have b:=qgD q;have o:=qiF (l.take i);have D:=qfV f;have C:=qoQ x;refine war j (wat t (wao (qDD x (by omega)) (wao (qt5 _ _ ?_) ?_)))
    .unfold yK at o;omega
    .rw[s];refine w.congr λ m k=>?_;rw[qq9 f])
  refine way (L:=λ m k=>qcd m k [] l l.length 0 0 [] 0 []) ?_;exact e 0 (wh _)
end Go.AmZ
namespace Go.AmZ
open Go Go.GxZ
theorem qFq(l:List T):size (qby l)<=1+szL l:=by
 unfold qby;split
 .rw[zy];show 1+0<=_;omega
 .split
  .rename_i _ a
   have:l.getD 0 zT∈l:=by
    cases l with
    |nil=>cases a
    |cons x r=>exact wm ..
   have:=qgD this;omega
  .rw[zy];exact wa _
end Go.AmZ
namespace Go.GxZ
def qeO(l:List Pw):Prop:=Asc (l.map (·.1))
def NzP(l:List Pw):Prop:=∀p∈l,p.2≠0
theorem qfs{p:Pw}{l:List Pw}:qeO (p::l)↔(∀q∈l,qG p.1 q.1=-1)/\qeO l:=by
 unfold qeO;rw[wv,qC6];simp
theorem qfe{p:Pw}{l:List Pw}:NzP (p::l)↔p.2≠0/\NzP l:=by
 unfold NzP;simp
def Qx(l:List Pw):Nat:=(l.map λ p=>p.2.natAbs).sum
theorem qjM:∀(l:List Pw) (t:T) (n:Int) (p:Pw),p∈je l t n->p.1=t\/p∈l
 |[],t,n,p,h=>by simp[je]at h;exact .inl (by rw[h])
 |(x,m)::l,t,n,p,h=>by
   rw[je]at h;split at h
   .obtain h|h:=wG.1 h
    .exact .inl (by rw[h])
    .exact .inr h
   .split at h
    .rename_i a;split at h
     .exact .inr (we _ h)
     .obtain h|h:=wG.1 h
      .left;rw[h];exact(qfv t x a).symm
      .exact .inr (we _ h)
    .obtain h|h:=wG.1 h
     .exact .inr (h▸wm ..)
     .obtain h|h:=qjM l t n p h
      .exact .inl h
      .exact .inr (we _ h)
theorem qwt:∀(l:List Pw) (t:T) (n:Int),qeO l->qeO (je l t n)
 |[],_,_,_=>List.pairwise_singleton _ _
 |(x,m)::l,t,n,h=>by
   let⟨d,c⟩:=qfs.1 h;rw[je];have f:=QH.rng t x;split
   .rename_i b;refine qfs.2 ⟨λ q a=>?_,h⟩;obtain e|a:=wG.1 a
    .rw[e];exact b
    .exact qx4 b (d q a)
   .split
    .split
     .exact c
     .exact qfs.2 ⟨d,c⟩
    .refine qfs.2 ⟨λ q a=>?_,qwt l t n c⟩;obtain e|a:=qjM l t n q a
     .rw[e];exact qFg.1 (show qG t x=1 by omega)
     .exact d q a
theorem qxT:∀(l:List Pw) (t:T) (n:Int),NzP l->n≠0->NzP (je l t n)
 |[],_,_,_,a=>by intro p c;simp[je]at c;rw[c];exact a
 |(x,m)::l,t,n,h,a=>by
   let⟨d,b⟩:=qfe.1 h;rw[je];split
   .exact qfe.2 ⟨a,h⟩
   .split
    .split
     .exact b
     .exact qfe.2 ⟨by assumption,b⟩
    .exact qfe.2 ⟨d,qxT l t n b a⟩
theorem qpd:∀(l:List Pw) (t:T) (n:Int),Qx (je l t n)<=Qx l+n.natAbs
 |[],t,n=>by simp[je,Qx]
 |(x,m)::l,t,n=>by
   have a:=qpd l t n;unfold Qx at a |-
   rw[je];split
   .simp only[wv,kL];omega
   .split
    .split
     .simp only[wv,kL];omega
     .simp only[wv,kL];omega
    .simp only[wv,kL];omega
theorem qo3:∀(l:List Pw) (t:T) (n:Int),(je l t n).length<=l.length+1
 |[],t,n=>by simp[je]
 |(x,m)::l,t,n=>by
   have a:=qo3 l t n;rw[je];split
   .simp
   .split
    .split
     .simp;omega
     .simp
    .simp only[wA];omega
theorem qAR(l:List Pw)(p:Pw)(h:p∈l):p.2.natAbs<=Qx l:=by
 unfold Qx
 induction l with
 |nil=>cases h
 |cons q l a=>
   simp only[wv,kL];obtain e|h:=wG.1 h
   .rw[e];omega
   .have:=a h;omega
def JN(l:List Pw):Prop:=qeO l/\NzP l
theorem JN.nil:JN []:=⟨List.Pairwise.nil,λ _ h=>by cases h⟩
theorem JN.ins{l:List Pw}(h:JN l)(t:T){n:Int}(a:n≠0):JN (je l t n):=⟨qwt l t n h.1,qxT l t n h.2 a⟩
theorem qFE{t:T}{n:Int}(h:n≠0):qaU t n≠0:=by unfold qaU;split<;>omega
theorem qDg(t:T)(n:Int):(qaU t n).natAbs=n.natAbs:=by unfold qaU;split<;>omega
theorem qxf(a:List T)(n:Int)(P:List Pw->Prop)(h:∀k∈a,∀l,P l->P (jo k l n)):∀l,P l->P ((a.map jo).foldl (λ l f=>f l n) l):=by
 induction a with
 |nil=>intro l b;exact b
 |cons k a c=>intro l b;exact c (λ k d=>h k (we _ d)) _ (h k (wm ..) l b)
theorem qBC(t:T):∀(l:List Pw) (n:Int),n≠0->JN l->JN (jo t l n):=by
 refine T.ind (P:=λ t=>∀(l:List Pw) (n:Int),n≠0->JN l->JN (jo t l n)) ?_ t;intro t b l n a h;rw[qgF];split
 .exact qxf t.kids (qaU t n) JN (λ k d l c=>b k d l _ (qFE a) c) l h
 .exact h.ins t a
theorem qC3(t:T):∀(l:List Pw) (n:Int),Qx (jo t l n)<=Qx l+size t*n.natAbs/\(jo t l n).length<=l.length+size t:=by
 refine T.ind (P:=λ t=>∀(l:List Pw) (n:Int),Qx (jo t l n)<=Qx l+size t*n.natAbs/\(jo t l n).length<=l.length+size t) ?_ t;intro t g l n;rw[qgF,zy];split
 .have:∀(a:List T),(∀k∈a,k∈t.kids)->∀l,Qx ((a.map jo).foldl (λ l f=>f l (qaU t n)) l)<=Qx l+(a.map size).sum*n.natAbs/\((a.map jo).foldl (λ l f=>f l (qaU t n)) l).length<=l.length+(a.map size).sum:=by
    intro a
    induction a with
    |nil=>intro _ l;simp
    |cons k a b=>
      intro c l;have e:=g k (c k (wm ..)) l (qaU t n);rw[qDg]at e;have d:=b (λ k i=>c k (we _ i)) (jo k l (qaU t n));simp only[wv,xa,kL,wN]at d |-
      omega
  have:=this t.kids (λ _ h=>h) l;rw[wN];omega
 .have e:=qpd l t n;have d:=qo3 l t n;rw[wN];omega
theorem qme:∀(b a:List Pw),JN a->NzP b->JN (Ji a b)
 |[],a,h,_=>h
 |p::b,a,h,k=>qme b (je a p.1 p.2) (h.ins p.1 (qfe.1 k).1) (qfe.1 k).2
theorem qoG:∀(b a:List Pw),Qx (Ji a b)<=Qx a+Qx b/\(Ji a b).length<=a.length+b.length
 |[],a=>by simp[Ji,Qx]
 |p::b,a=>by
   have f:=qoG b (je a p.1 p.2);have d:=qpd a p.1 p.2;have c:=qo3 a p.1 p.2;have e:Qx (p::b)=p.2.natAbs+Qx b:=by simp[Qx]
   rw[show Ji a (p::b)=Ji (je a p.1 p.2) b from rfl,e,wA];omega
def ixP:List Pw->T->Nat
 |[],_=>0
 |p::l,t=>if qG p.1 t=-1 then ixP l t+1 else 0
theorem qBl:∀(l:List Pw) (t:T),ixP l t<=l.length
 |[],_=>wa _
 |p::l,t=>by
   have:=qBl l t;rw[ixP];split
   .simp;omega
   .omega
theorem qBK:∀(l:List Pw) (t:T) (i:Nat),i<=l.length->(∀k p,k<i->l[k]?=some p->qG p.1 t=-1)->(∀p,l[i]?=some p->qG p.1 t≠-1)->i=ixP l t
 |[],_,i,h,_,_=>by simp at h;rw[h];rfl
 |p::l,t,0,_,_,h=>by rw[ixP,if_neg (h p rfl)]
 |p::l,t,i+1,h,k,m=>by
   rw[ixP,if_pos (k 0 p (by omega) rfl)];rw[<-qBK l t i (by simpa using h) (λ j q b a=>k (j+1) q (by omega) (by simpa using a)) (λ q a=>m q (by simpa using a))]
theorem qyb:∀(l:List Pw) (t:T) (n:Int) (x:T) (m:Int),l[ixP l t]?=some (x,m)->qG x t=0->
  je l t n=if m+n=0 then l.take (ixP l t)++l.drop (ixP l t+1)else l.take (ixP l t)++[(x,m+n)]++l.drop (ixP l t+1)
 |[],_,_,_,_,h,_=>by simp at h
 |(y,k)::l,t,n,x,m,h,a=>by
   have d:=QH.anti y t;have b:=QH.rng y t;rw[ixP]at h;rw[je,ixP];simp only at h |-
   by_cases c:qG y t=-1
   .rw[if_pos c]at h;rw[if_neg (by omega),if_neg (by omega),if_pos c,qyb l t n x m (by simpa using h) a];split<;>simp
   .rw[if_neg c]at h;simp at h;obtain⟨rfl,rfl⟩:=h;rw[if_neg (by omega),if_pos (by omega),if_neg c];split<;>simp
theorem qvN:∀(l:List Pw) (t:T) (n:Int),(∀p,l[ixP l t]?=some p->qG p.1 t≠0)->je l t n=l.take (ixP l t)++[(t,n)]++l.drop (ixP l t)
 |[],_,_,_=>by simp[je,ixP]
 |(y,k)::l,t,n,h=>by
   have d:=QH.anti y t;have b:=QH.rng y t;rw[ixP]at h;rw[je,ixP];simp only at h |-
   by_cases c:qG y t=-1
   .rw[if_pos c]at h;rw[if_neg (by omega),if_neg (by omega),if_pos c,qvN l t n λ p a=>h p (by simpa using a)];simp
   .rw[if_neg c]at h;have:=h (y,k) rfl;simp only at this;rw[if_pos (by omega),if_neg c];simp
theorem qxL{l:List Pw}(h:qeO l){i j:Nat}{p q:Pw}(g:l[i]?=some p)(f:l[j]?=some q)(c:i<j):qG p.1 q.1=-1:=by
 unfold qeO Asc at h;rw[List.pairwise_iff_getElem]at h;let⟨e,d⟩:=List.getElem?_eq_some_iff.1 g;let⟨b,a⟩:=List.getElem?_eq_some_iff.1 f;have:=h i j (by simpa using e) (by simpa using b) c;simpa[d,a]using this
end Go.GxZ
