/- Part 4 of what the proofs stand on: plain functions of the program, and that they are its functions. -/
import Derived.Test.YtinbdcelmgfniaaGreatDoorM3
import Derived.KernelRfl
import Derived.Test.YtinbdcelmgfniaaGreatDoorProg
import Derived.Shelf.SlSortCmp.NoneTotal
import Derived.Laws.OwnMore
import Derived.Deep.DeepAppendRoom
import Derived.ArgAppend
import Derived.Test.YtinbdcelmgfniaaGreatDoorM2
import Derived.IntWalk
import Derived.Lib.Bytealg
set_option linter.unusedVariables false
set_option linter.unusedSimpArgs false
noncomputable section
namespace Go.Proofs.YtinbdcelmgfniaaGreatDoor
open Go.RowKit Go.GxZ Go.BigFrame
theorem qEU:(Tryz.prog.info? 157).map (λ i=>(i.zero,i.size,i.bytes))=some (some (.agg #[.int .i64 0,.string ⟨#[]⟩,.int .i64 0,.slice none 0 0,.int .i64 0]),5,64):=by kernel_rfl
theorem qNx(w:World):(sizeOf 157).run Tryz.prog w=.ok 5 w:=by kernel_rfl
theorem qAJ:(Tryz.prog.info? 157).map (·.size)=some 5:=by kernel_rfl
set_option maxHeartbeats 4000000 in
set_option maxRecDepth 100000 in
theorem insert_endPow(w:World)(p:Option Addr)(n c:Nat)(ad:Addr)(f:Nat)(b:Value)(w':World)(i:n<=100000)(d:(Builtin.append_ #[134,134] 134 #[.slice p n c,.slice (some ad) 1 f]).run Tryz.prog w = .ok b w') :
  Calls Tryz.prog 225 #[.slice p n c,.int .i64 n,.slice (some ad) 1 f] w λ e g=>e = .returned b/\g=w':=by
 have h:=Lib.hid d;clear d
 go_enter Tryz.func225,Tryz.ntmps225
 go_wp2_with (at_builtin;refine Lib.wpList_append_run _ rfl _ _ _ _ rfl _ _ rfl rfl _ _ h.out ?_)
 all_goals
  go_ret
  first
   | exact⟨rfl,rfl⟩
   | (have a:c=n:=by assumption
      subst a;exact⟨rfl,rfl⟩)
set_option maxHeartbeats 4000000 in
set_option maxRecDepth 100000 in
theorem insert_roomPow (w:World) (g n c i:Nat) (et:TypeId) (cur:Array Value) (xs:List Value) (hbk:Blk w g et cur) (hcs:c*5<=cur.size) (hx:cur.toList.take (n*5)=xs) (hone:∀u∈xs,u.oneCell'=true)
  (g2 o2 c2:Nat) (ys:List Value) (hy:ys.length=5) (hys:∀j u,ys[j]?=some u->w.cell? ⟨g2,o2+j,none⟩=some u) (h1:∀u∈ys,u.oneCell'=true) (hne:g2≠g) (hn:n<=100000) (hi:i<n) (hroom:n+1<=c):
  Calls Tryz.prog 225 #[.slice (some ⟨g,0,none⟩) n c,.int .i64 i,.slice (some ⟨g2,o2,none⟩) 1 c2] w (ql2 5 w g cur.size (n+1) (xs.take (i*5)++ys++xs.drop (i*5))):=by
 have hlc:cur.toList.length=cur.size:=by simp
 have hnc:(n+1)*5<=c*5:=wu _ hroom;have hik:(i+1)*5<=n*5:=wu _ hi;have hxl:xs.length=n*5:=by rw [<-hx,wm];omega
 obtain ⟨tA,kA,hsA,hkA⟩:∃t k,w.shape? g2=some (t,k)/\k≠0:=by
  cases hy0:ys[0]? with
  |none=>rw [List.getElem?_eq_none_iff]at hy0;omega
  |some u=>exact qGB (a:=⟨g2,o2+0,none⟩) rfl (hys 0 u hy0)
 have hov:∀lb cb,(callFunc 239 #[.slice (some ⟨g2,o2,none⟩) 1 c2,.slice (some ⟨g,(i+1)*5,none⟩) lb cb]).run Tryz.prog w=.ok (.value (.bool false)) w:=λ lb cb=>by
  rw [run_callFunc_extern Tryz.func239 (by kernel_rfl) (by kernel_rfl) (by kernel_rfl) (e:=Extern.SlicesOverlaps.overlaps #[134,134] #[4]) (by kernel_rfl),
   quS w 134 4 157 Tryz.underlying134 5 qNx ⟨g2,o2,none⟩ ⟨g,(i+1)*5,none⟩ 1 c2 lb cb hne tA et kA cur.size
    hsA hkA (by unfold Blk at hbk;simp [World.shape?,hbk]) (hbk.free _) (hbk.free _)]
  rfl
 have hin:((i:Int)==(n:Int))=false:=by simp;omega
 have hb1:¬ (c=i+1):=by omega
 have hb2:¬ (c=i):=by omega
 have hlen1:(xs.drop (i*5)).length=n*5-i*5:=by rw [wW,hxl]
 have HD1:Hid ((xs.drop (i*5)).length=Nat.min (n+1-i) (n-i)*5):=by
  have hm:Nat.min (n+1-i) (n-i)=n-i:=Nat.min_eq_right (by omega);show _=_;rw [hlen1,hm,war]
 have HS1:Hid (∀(j:Nat) (v:Value),(xs.drop (i*5))[j]?=some v->w.drew.cell? ((⟨g,i*5,none⟩:Addr).add j)=some v):=λ j v hj=>by
  have e1:(⟨g,i*5,none⟩:Addr).add j=⟨g,i*5+j,none⟩:=by unfold Addr.add;split<;>simp_all
  rw [e1];show w.cell? _=_;rw [hbk.cell,<-Array.getElem?_toList];rw [List.getElem?_drop,<-hx,List.getElem?_take]at hj;split at hj
  .exact hj
  .cases hj
 have HF1:Hid ((i+1)*5+(xs.drop (i*5)).length<=cur.size):=by show _<=_;rw [hlen1];omega
 have HO1:Hid (∀v∈xs.drop (i*5),v.oneCell'=true):=λ v hv=>hone v (wR hv);have hBK1:Hid (Blk w.drew g et cur):=hbk;obtain ⟨c1,hc1⟩:∃c1,c1=cur.toList.take ((i+1)*5)++xs.drop (i*5)++cur.toList.drop ((i+1)*5+(xs.drop (i*5)).length):=⟨_,rfl⟩
 obtain ⟨k1,k2,k3⟩:=qJx 5 cur.toList xs ys i n hx (by rw [hlc];omega) (by omega) hy c1 (by rw [hc1,kU]);have HC1:=Lib.hid hc1;have K1:=Lib.hid k1;have K2:=Lib.hid k2;have K3:=Lib.hid k3;have HLC:=Lib.hid hlc;have HY:=Lib.hid hy
 have HY1:Hid (ys.length=Nat.min 1 (n+1-i)*5):=by
  have hm:Nat.min 1 (n+1-i)=1:=kw (by omega);show _=_;rw [hy,hm]
 have HF2:Hid (i*5+ys.length<=c1.toArray.size):=by show _<=_;rw [hy];simp only [kg];rw [k1,hlc];omega
 have HYS:=Lib.hid hys;have HCS:=Lib.hid hcs;have H1:=Lib.hid h1;have HNE:=Lib.hid hne;have HNC:=Lib.hid hnc;have hlt:=lt_of_block hbk;have hov':=hov;clear hxl hlc hov hx hone hcs hbk hys hy h1 hne hlen1 hc1 k1 k2 k3 hsA hkA hnc hik;have HOV:=Lib.hid hov'
 go_enter Tryz.func225,Tryz.ntmps225
 go_upto_region 15 with (simp only [hov'])
 clear hov';have hw1:IntKind.i64.wrap ((i:Int)+1)=(i:Int)+1:=IntWalk.i64_in _ (by omega);have hw2:(0:Int)<=(i:Int)+1:=by omega
 have hw3:((i:Int)+1).toNat=i+1:=by omega
 have hw4:(i:Int)+1<=(n:Int)+1:=by omega
 have hw5:(i:Int)<=(n:Int)+1:=by omega
 go_region_law (refine qwE rfl (.tmp 73) (.tmp 76) 134 134 rfl 157 5 Tryz.underlying134 qAJ g ((i+1)*5) (n-i) (c-(i+1)) ⟨g,i*5,none⟩ (n+1-i) (c-i) (by simp [Act.eval,Act.put]) (by simp [Act.eval,Act.put]) cur et hBK1.out (xs.drop (i*5)) HD1.out HS1.out HF1.out HO1.out ?_;intro w4 hw4;have HW4:=Lib.hid hw4;clear hw4)
 all_goals
  have HW5:Hid (qms w.drew w4 g et c1):=by show qms _ _ _ _ _;rw [HC1.out];exact HW4.out
  have HB4:Hid (Blk w4 g et c1.toArray):=HW5.out.blk
  have HSY:Hid (∀(j:Nat) (v:Value),ys[j]?=some v->w4.cell? ((⟨g2,o2,none⟩:Addr).add j)=some v):=λ j v hj=>by
   have e1:(⟨g2,o2,none⟩:Addr).add j=⟨g2,o2+j,none⟩:=by unfold Addr.add;split<;>simp_all
   rw [e1,show w4.cell? _=w.cell? _ from World.cell?_of_block (HW5.out.other g2 HNE.out)];exact HYS.out j v hj
  clear hw1 hw2 hw3 hw4 HW4
  obtain ⟨w6,hcp,hw6⟩:∃w6,(∀ty,(Builtin.copy_ #[134,134] ty #[.slice (some ⟨g,i*5,none⟩) (n+1-i) (c-i),.slice (some ⟨g2,o2,none⟩) 1 c2]).run Tryz.prog w4=.ok (goInt (Nat.min 1 (n+1-i))) w6)/\qms w4 w6 g et (c1.toArray.toList.take (i*5)++ys++c1.toArray.toList.drop (i*5+ys.length)):=
   ⟨_,λ ty=>qrL w4 134 134 ty 157 5 g (i*5) (n+1-i) (c-i) ⟨g2,o2,none⟩ 1 c2 c1.toArray et ys Tryz.underlying134 qAJ HB4.out HY1.out HSY.out HF2.out H1.out,qhu HB4.out _⟩
  have HW6:=Lib.hid hw6;clear hw6
  go_wp2_with (simp only [hcp])
  go_ret
  have h6:=HW6.out;have h5:=HW5.out;have hblk:=h6.blk;have k2:=K2.out;have hlc:=HLC.out;refine ⟨g,c,_,et,rfl,hblk,hroom,?_,?_,.inl ⟨rfl,?_⟩,h6.os.trans h5.os,h6.tape.trans h5.tape,h6.output.trans h5.output,?_,?_,λ k _ hk=>(h6.other k hk).trans (h5.other k hk)⟩
  .rw [kg];exact wD HCS.out (vC (by rw [k2,hlc]))
  .rw [kU];exact K3.out.trans (wj _ _ _)
  .rw [kg,k2,hlc]
  .rw [h6.size,h5.size];exact wa _
  .rw [h6.drawn,h5.drawn];exact ko _
set_option maxHeartbeats 4000000 in
set_option maxRecDepth 100000 in
theorem insert_growPow (w:World) (g n i:Nat) (et:TypeId) (cur:Array Value) (xs:List Value) (hbk:Blk w g et cur) (hcs:n*5<=cur.size) (hx:cur.toList.take (n*5)=xs) (hone:∀u∈xs,u.oneCell'=true)
  (g2 o2 c2:Nat) (ys:List Value) (hy:ys.length=5) (hys:∀j u,ys[j]?=some u->w.cell? ⟨g2,o2+j,none⟩=some u) (h1:∀u∈ys,u.oneCell'=true) (hn:n<=100000) (hi:i<n):
  Calls Tryz.prog 225 #[.slice (some ⟨g,0,none⟩) n n,.int .i64 i,.slice (some ⟨g2,o2,none⟩) 1 c2] w (ql2 5 w g cur.size (n+1) (xs.take (i*5)++ys++xs.drop (i*5))):=by
 have hlc:cur.toList.length=cur.size:=by simp
 have hik:(i+1)*5<=n*5:=wu _ hi;have hxl:xs.length=n*5:=by rw [<-hx,wm];omega
 have hg:=lt_of_block hbk
 have hg2:g2<w.heap.size:=by
  cases hy0:ys[0]? with
  |none=>rw [List.getElem?_eq_none_iff]at hy0;omega
  |some u=>
    have:=hys 0 u hy0;unfold World.cell? at this;split at this
    .rename_i hh;exact (Array.getElem?_eq_some_iff.1 hh).1
    .cases this
 obtain ⟨i0,hi0,hz0,hz1,hz2⟩:=info_parts qEU;have hadd:∀(b o j:Nat),(⟨b,o,none⟩:Addr).add j=⟨b,o+j,none⟩:=λ b o j=>by unfold Addr.add;split<;>simp_all
 have hcx:∀(W:World),Blk W g et cur->∀(o j:Nat) (v:Value),(xs.drop o)[j]?=some v->W.cell? ((⟨g,o,none⟩:Addr).add j)=some v:=λ W hW o j v hj=>by
  rw [hadd,hW.cell,<-Array.getElem?_toList];rw [List.getElem?_drop,<-hx,List.getElem?_take]at hj;split at hj
  .exact hj
  .cases hj
 have hold:(Builtin.firstCells i0.size i (.slice (some ⟨g,0,none⟩) i n)).run Tryz.prog w.drew=.ok (xs.take (i*5)).toArray w.drew:=by
  rw [hz1];refine run_firstCells_some w.drew 5 i ⟨g,0,none⟩ i n (xs.take (i*5)) (by rw [wm,hxl];omega) λ j v hj=>?_;refine hcx w.drew hbk 0 j v ?_;rw [List.getElem?_take]at hj;split at hj
  .simpa using hj
  .cases hj
 have hk:i+(n+1-i)=n+1:=by omega
 have hG1:n+1<=grownCap w (n+1) n 157:=grownCap_ge w _ _ _;have hG2:grownCap w (n+1) n 157<=maxLen:=grownCap_le_maxLen w _ _ _ (by unfold maxLen;omega)
 obtain ⟨w1,G,new,hr,hb1,hbk1,hnl,hnt,hG3,hG4,hw1s,hw1d⟩:∃(w1:World) (G:Nat) (new:List Value),(∀ty,(Builtin.append_ #[134,3] ty #[.slice (some ⟨g,0,none⟩) i n,.int .i64 ((n:Int)+1-(i:Int))]).run Tryz.prog w=.ok (.slice (some ⟨w.heap.size,0,none⟩) (n+1) G) w1)/\
   Below w.heap.size w w1/\Blk w1 w.heap.size 157 new.toArray/\new.length=G*5/\new.take (i*5)=xs.take (i*5)/\n+1<=G/\G<=maxLen/\w.heap.size<w1.heap.size/\w.drawn<=w1.drawn:=by
  have hr:∀ty,_:=λ ty=>Lib.run_append_grow_zeros w 134 3 ty 157 i0 _ .i64 .i64 Tryz.underlying134 Tryz.underlying3 hi0 hz0 (some ⟨g,0,none⟩) i n (xs.take (i*5)) hold (n+1-i) (by omega) (by rw [hz1];decide) (by omega) (by omega) (by rw [hz2];omega) (by rw [hk,hz2];exact growslice_fits (by omega) (by omega));rw [hk]at hr;obtain ⟨NEW,hNEW⟩:∃N:Array Value,N=(xs.take (i*5)).toArray++Builtin.zeroCells (Value.cells (.agg #[.int .i64 0,.string ⟨#[]⟩,.int .i64 0,.slice none 0 0,.int .i64 0])) (n+1-i)++Builtin.zeroCells (Value.cells (.agg #[.int .i64 0,.string ⟨#[]⟩,.int .i64 0,.slice none 0 0,.int .i64 0])) (grownCap w (n+1) n 157-(n+1)):=⟨_,rfl⟩
  rw [<-hNEW]at hr;refine ⟨w.drew.alloc (.cells NEW 157),grownCap w (n+1) n 157,NEW.toList,λ ty=>?_,?_,?_,?_,?_,hG1,hG2,?_,ko _⟩
  .rw [show (n:Int)+1-(i:Int)=((n+1-i:Nat):Int) by omega];exact hr ty
  .exact ((Below.refl _ _).drew).alloc (wa _) _
  .rw [vg];exact heap_alloc_new w.drew _
  .rw [wM,hNEW,xE,xE,size_zeroCells,size_zeroCells,show (Value.cells (.agg #[.int .i64 0,.string ⟨#[]⟩,.int .i64 0,.slice none 0 0,.int .i64 0])).size=5 from rfl,kg,wm,hxl];have:i*5+(n+1-i)*5+(grownCap w (n+1) n 157-(n+1))*5=grownCap w (n+1) n 157*5:=by rw [<-wO,<-wO];congr 1;omega
   omega
  .rw [hNEW,xl,xl,wj,kL (by simp [hxl];omega),xM];congr 1;omega
  .simp
 have hgb:∀k,k<w.heap.size->w1.heap[k]?=w.heap[k]?:=hb1.block;have hbkg1:Blk w1 g et cur:=hbk.same (hgb g hg);have hGn:(n+1)*5<=G*5:=wu _ hG3;have hm1:Nat.min 1 (n+1-i)=1:=kw (by omega);obtain ⟨c1,hc1⟩:∃c1,c1=new.take (i*5)++ys++new.drop (i*5+ys.length):=⟨_,rfl⟩
 obtain ⟨k1,k2,k3⟩:=qNs 5 new xs ys i n hnt hxl (by omega) (by omega) hy c1 hc1
 obtain ⟨w3,hcp,hw3⟩:∃w3,(∀ty,(Builtin.copy_ #[134,134] ty #[.slice (some ⟨w.heap.size,i*5,none⟩) (n+1-i) (G-i),.slice (some ⟨g2,o2,none⟩) 1 c2]).run Tryz.prog w1=.ok (goInt (Nat.min 1 (n+1-i))) w3)/\qms w1 w3 w.heap.size 157 c1:=
  ⟨_,λ ty=>qrL w1 134 134 ty 157 5 w.heap.size (i*5) (n+1-i) (G-i) ⟨g2,o2,none⟩ 1 c2 new.toArray 157 ys Tryz.underlying134 qAJ hbk1 (by rw [hm1];omega) (λ j v hj=>by rw [hadd,show w1.cell? _=w.cell? _ from World.cell?_of_block (hgb g2 hg2)];exact hys j v hj) (by rw [kg];omega) h1,by rw [hc1];exact qhu hbk1 _⟩
 have hbkg3:Blk w3 g et cur:=hbkg1.same (hw3.other g (by omega));have hmm:Nat.min (n-i) (n-i)=n-i:=kw (wa _);have HD1:Hid ((xs.drop (i*5)).length=Nat.min (n-i) (n-i)*5):=by show _=_;rw [wW,hxl,hmm,war]
 have HS1:Hid (∀(j:Nat) (v:Value),(xs.drop (i*5))[j]?=some v->w3.drew.cell? ((⟨g,i*5,none⟩:Addr).add j)=some v):=hcx w3.drew hbkg3 (i*5);have HF1:Hid ((i+1)*5+(xs.drop (i*5)).length<=c1.toArray.size):=by show _<=_;rw [wW,hxl,kg,k1,hnl];omega
 have HO1:Hid (∀v∈xs.drop (i*5),v.oneCell'=true):=λ v hv=>hone v (wR hv);have hBK1:Hid (Blk w3.drew w.heap.size 157 c1.toArray):=hw3.blk;have HW3:=Lib.hid hw3;have HB1:=Lib.hid hb1;have K2:Hid ((c1.take ((i+1)*5)++xs.drop (i*5)++c1.drop ((i+1)*5+(xs.drop (i*5)).length)).length=G*5):=by show _=_;rw [kU];exact k2.trans hnl
 have K3:Hid ((c1.take ((i+1)*5)++xs.drop (i*5)++c1.drop ((i+1)*5+(xs.drop (i*5)).length)).take ((n+1)*5)=xs.take (i*5)++ys++xs.drop (i*5)):=by show _=_;rw [kU,kU];exact k3
 have HG4:=Lib.hid hG4;have HR:=Lib.hid hr;have HCP:=Lib.hid hcp;have hin:((i:Int)==(n:Int))=false:=by simp;omega
 have hb0:¬ (n=i):=by omega
 have hb2:¬ (G=i):=by omega
 have hb3:¬ (G=i+1):=by omega
 have hg63:(G:Int)<=9223372036854775807:=by unfold maxLen at hG4;omega
 clear hlc hxl hi0 hz0 hz1 hz2 hadd hcx hold hk hG1 hG2 hr hb1 hbk1 hnl hnt hG4 hgb hbkg1 hm1 hc1 k1 k2 k3 hcp hw3 hbkg3 hmm hbk hcs hx hone hy hys h1 hik hGn
 go_enter Tryz.func225,Tryz.ntmps225
 go_upto_region 10 with (at_builtin;refine Lib.wpList_append_run _ rfl _ _ _ _ rfl _ _ rfl rfl _ _ (HR.out _) ?_)
 have hcp:=HCP.out
 go_upto_region 11 with (simp only [hcp])
 clear hcp;have hw1:IntKind.i64.wrap ((i:Int)+1)=(i:Int)+1:=IntWalk.i64_in _ (by omega);have hw2:(0:Int)<=(i:Int)+1:=by omega
 have hw3:((i:Int)+1).toNat=i+1:=by omega
 have hw4:(i:Int)+1<=(n:Int)+1:=by omega
 have hw5:(i:Int)<=(n:Int):=by omega
 go_region_law (refine qwE rfl (.tmp 50) (.tmp 53) 134 134 rfl 157 5 Tryz.underlying134 qAJ w.heap.size ((i+1)*5) (n-i) (G-(i+1)) ⟨g,i*5,none⟩ (n-i) (n-i) (by simp [Act.eval,Act.put]) (by simp [Act.eval,Act.put]) c1.toArray 157 hBK1.out (xs.drop (i*5)) HD1.out HS1.out HF1.out HO1.out ?_;intro w6 hw6;have HW6:=Lib.hid hw6;clear hw6)
 all_goals
  clear hw1 hw2 hw3 hw4
  go_wp2_with fail
  go_ret
  have h6:=HW6.out;have h5:=HW3.out;have h0:=HB1.out;have hblk:=h6.blk;have k3:=K3.out;have k2:=K2.out;refine ⟨w.heap.size,G,_,_,rfl,hblk,hG3,?_,k3.trans (wj _ _ _),.inr (wa _),h6.os.trans (h5.os.trans h0.os),h6.tape.trans (h5.tape.trans h0.tape),h6.output.trans (h5.output.trans h0.output),?_,?_,λ k hkl _=>?_⟩
  .rw [kg];exact vC k2.symm
  .rw [h6.size];show w.heap.size<=w3.heap.size;rw [h5.size];exact h0.size
  .rw [h6.drawn];show w.drawn<=w3.drawn+1;rw [h5.drawn];exact Nat.le_succ_of_le hw1d
  .exact (h6.other k (by omega)).trans ((h5.other k (by omega)).trans (h0.block k hkl))
theorem qNC(w:World):(zeroValue 157).run Tryz.prog w=.ok (.agg #[.int .i64 0,.string ⟨#[]⟩,.int .i64 0,.slice none 0 0,.int .i64 0]) w:=by kernel_rfl
theorem qBY:(Builtin.zeroCells (Value.cells (.agg #[.int .i64 0,.string ⟨#[]⟩,.int .i64 0,.slice none 0 0,.int .i64 0])) 1).toList=(Value.cells (.agg #[.int .i64 0,.string ⟨#[]⟩,.int .i64 0,.slice none 0 0,.int .i64 0])).toList:=by kernel_rfl
theorem qEd:∀v∈(Builtin.zeroCells (Value.cells (.agg #[.int .i64 0,.string ⟨#[]⟩,.int .i64 0,.slice none 0 0,.int .i64 0])) 1).toList,v.oneCell'=true:=by
 rw[qBY];decide
set_option maxHeartbeats 4000000 in
set_option maxRecDepth 100000 in
theorem delete_onePow (w:World) (g m c i:Nat) (et:TypeId) (cur:Array Value) (xs:List Value) (hbk:Blk w g et cur) (hcs:c*5<=cur.size) (hx:cur.toList.take ((m+1)*5)=xs) (hone:∀u∈xs,u.oneCell'=true)
  (hn:m<=100000) (hi:i<=m) (hroom:m+1<=c):
  Calls Tryz.prog 226 #[.slice (some ⟨g,0,none⟩) (m+1) c,.int .i64 i,.int .i64 ((i:Int)+1)] w (ql2 5 w g cur.size m (xs.take (i*5)++xs.drop ((i+1)*5))):=by
 have hlc:cur.toList.length=cur.size:=by simp
 have hmc:(m+1)*5<=c*5:=wu _ hroom;have him:i*5<=m*5:=wu _ hi;have hxl:xs.length=(m+1)*5:=by rw [<-hx,wm,hlc];omega
 have hadd:∀(b o j:Nat),(⟨b,o,none⟩:Addr).add j=⟨b,o+j,none⟩:=λ b o j=>by unfold Addr.add;split<;>simp_all
 have hcell:∀(o j:Nat) (v:Value),(xs.drop o)[j]?=some v->w.drew.cell? ⟨g,o+j,none⟩=some v:=λ o j v hj=>by
  show w.cell? _=_;rw [hbk.cell,<-Array.getElem?_toList];rw [List.getElem?_drop,<-hx,List.getElem?_take]at hj;split at hj
  .exact hj
  .cases hj
 obtain ⟨i0,hi0,hz0,hz1,hz2⟩:=info_parts qEU;have hdl:(xs.drop ((i+1)*5)).length=(m-i)*5:=by rw [wW,hxl,<-war];congr 1;omega
 have hdl':(m-i)*5=m*5-i*5:=war ..
 obtain ⟨A,hA,HN⟩:∃A:Addr,(if c=i+1 then some (⟨g,0,none⟩:Addr)else some ⟨g,(i+1)*5,none⟩)=some A/\Hid (∀j u,(xs.drop ((i+1)*5))[j]?=some u->w.drew.cell? (A.add j)=some u):=by
  by_cases h:c=i+1
  .refine ⟨_,if_pos h,λ j u hj=>?_⟩;have:=(List.getElem?_eq_some_iff.1 hj).1;rw [hdl]at this;have:m-i=0:=by omega
   simp [this]at*
  .exact ⟨_,if_neg h,λ j u hj=>by rw [hadd];exact hcell _ j u hj⟩
 have HDL:=Lib.hid hdl;have HO1:Hid (∀u∈xs.drop ((i+1)*5),u.oneCell'=true):=λ v hv=>hone v (wR hv)
 have HSP:Hid (∀j,j<(xs.drop ((i+1)*5)).length->(w.drew.cell? ⟨g,0+i*5+j,none⟩).isSome=true/\w.drew.frozen? ⟨g,0+i*5+j,none⟩=false):=λ j hj=>by
  rw [hdl]at hj;refine ⟨?_,hbk.free _⟩;show (w.cell? _).isSome=true;rw [hbk.cell,Array.getElem?_eq_getElem (by omega)];rfl
 have hBKd:Blk w.drew g et cur:=hbk;have hw0:=qnB g et (xs.drop ((i+1)*5)) (0+i*5) w.drew cur hBKd (by rw [hdl];omega);obtain ⟨w2,hw2⟩:∃w2,w2=w.drew.setCells g (0+i*5) (xs.drop ((i+1)*5)):=⟨_,rfl⟩
 rw [<-hw2]at hw0;obtain ⟨c1,hc1⟩:∃c1,c1=cur.toList.take (0+i*5)++xs.drop ((i+1)*5)++cur.toList.drop (0+i*5+(xs.drop ((i+1)*5)).length):=⟨_,rfl⟩
 rw [<-hc1]at hw0;have hl1:c1.length=cur.size:=by rw [hc1];simp only [wd,wm,wW,hlc,hdl];simp only [wW]at hdl;omega
 have ht1:c1.take (m*5)=xs.take (i*5)++xs.drop ((i+1)*5):=by
  have e1:cur.toList.take (0+i*5)=xs.take (i*5):=by rw [<-hx,xM];congr 1;omega
  rw [hc1,e1,kL (by simp only [wd,wm,hdl,hxl];omega),kH (by simp only [wd,wm,hdl,hxl];omega)]
 have hzl:(Builtin.zeroCells (Value.cells (.agg #[.int .i64 0,.string ⟨#[]⟩,.int .i64 0,.slice none 0 0,.int .i64 0])) 1).toList.length=5:=by rw [wM,size_zeroCells];rfl
 obtain ⟨w3,hcl,hw3⟩:∃w3,(∀ty,(Builtin.clear_ #[134] ty #[.slice (some ⟨g,m*5,none⟩) 1 (c-m)]).run Tryz.prog w2=.ok (.tuple #[]) w3)/\qms w2 w3 g et (c1.toArray.toList.take (m*5)++(Builtin.zeroCells (Value.cells (.agg #[.int .i64 0,.string ⟨#[]⟩,.int .i64 0,.slice none 0 0,.int .i64 0])) 1).toList++c1.toArray.toList.drop (m*5+(Builtin.zeroCells (Value.cells (.agg #[.int .i64 0,.string ⟨#[]⟩,.int .i64 0,.slice none 0 0,.int .i64 0])) 1).toList.length)):=
  ⟨_,λ ty=>qvt w2 134 157 ty _ Tryz.underlying134 qNC g (m*5) 1 (c-m) (by omega) c1.toArray et hw0.blk (by
   show m*5+1*5<=c1.toArray.size;rw [kg,hl1];omega) qEd,qhu hw0.blk _⟩
 have HW0:=Lib.hid hw0;have HW2:=Lib.hid hw2;have HW3:=Lib.hid hw3;have HCL:=Lib.hid hcl;have HT1:=Lib.hid ht1;have HL1:=Lib.hid hl1;have HZL:=Lib.hid hzl;have HI:=Lib.hid hi0;have HZ1:=Lib.hid hz1;have HCS:=Lib.hid hcs;have HMC:=Lib.hid hmc;have hlt:=lt_of_block hbk;have hc1:¬ (m+1=i):=by omega
 have hc2:¬ (c=m):=by omega
 have hf1:((i:Int)==(i:Int)+1)=false:=by simp;omega
 have hrm:i+(m-i)<=c:=by omega
 have hmi:i+(m-i)=m:=by omega
 have HRM:=Lib.hid hrm;have HMI:=Lib.hid hmi;clear hlc hxl hadd hcell hi0 hz0 hz1 hz2 hdl hBKd hw0 hw2 hl1 ht1 hzl hcl hw3 hcs hx hone hbk hrm hmi hmc him hdl';have hw1:((i:Int)+1).toNat=i+1:=by omega
 have hw4:(i:Int)+1<=(m:Int)+1:=by omega
 have hw5:(i:Int)<=(m:Int)+1:=by omega
 have hw6:(0:Int)<=(i:Int)+1:=by omega
 have hic:i<=c:=by omega
 go_enter Tryz.func226,Tryz.ntmps226
 go_upto_region 5 with (fail)
 go_region_law (refine step_append_room rfl (.tmp 22) (.tmp 25) 134 rfl 157 i0 5 Tryz.underlying134 HI.out HZ1.out g 0 i c (by simp [Act.eval,Act.put]) A (m-i) (c-(i+1)) (xs.drop ((i+1)*5)) (by simp [Act.eval,Act.put]) HDL.out HN.out HO1.out HRM.out HSP.out ?_;rw [<-HW2.out,HMI.out])
 all_goals
  clear hw1 hw4 hw5 hw6 hA;have hcl:=HCL.out
  go_wp2_with (simp only [hcl])
  go_ret
  have h3:=HW3.out;have h0:=HW0.out;have hblk:=h3.blk;have hl1:=HL1.out;have hzl:=HZL.out;have hmc:=HMC.out;have hcs:=HCS.out
  have hsz:(c1.toArray.toList.take (m*5)++(Builtin.zeroCells (Value.cells (.agg #[.int .i64 0,.string ⟨#[]⟩,.int .i64 0,.slice none 0 0,.int .i64 0])) 1).toList++c1.toArray.toList.drop (m*5+(Builtin.zeroCells (Value.cells (.agg #[.int .i64 0,.string ⟨#[]⟩,.int .i64 0,.slice none 0 0,.int .i64 0])) 1).toList.length)).length=cur.size:=by
   show (c1.take (m*5)++_++c1.drop (m*5+_)).length=_;simp only [wd,wm,wW,hl1,hzl];omega
  refine ⟨g,c,_,et,rfl,hblk,by omega,?_,?_,.inl ⟨rfl,?_⟩,h3.os.trans h0.os,h3.tape.trans h0.tape,h3.output.trans h0.output,?_,?_,λ k _ hk=>(h3.other k hk).trans (h0.other k hk)⟩
  .rw [kg,hsz];exact hcs
  .show (c1.take (m*5)++_++c1.drop (m*5+_)).take (m*5)=_;rw [wj,kL (by rw [wm,hl1];omega),xM,Nat.min_self];exact HT1.out
  .rw [kg,hsz]
  .rw [h3.size,h0.size];exact wa _
  .rw [h3.drawn,h0.drawn];exact ko _
end Go.Proofs.YtinbdcelmgfniaaGreatDoor
namespace Go.Proofs.YtinbdcelmgfniaaGreatDoor
open Go.RowKit Go.GxZ Go.BigFrame
theorem qFy:(Tryz.prog.info? 25).map (λ i=>(i.zero,i.size,i.bytes))=some (some (.agg #[.int .i64 0,.string ⟨#[]⟩,.int .i64 0,.slice none 0 0]),4,56):=by kernel_rfl
set_option maxHeartbeats 4000000 in
set_option maxRecDepth 100000 in
theorem clone_anyTrm(w:World)(p:Option Addr)(n c:Nat)(xs:List Value)(f:xs.length=n*4)(x:n=0\/∃ad,p=some ad/\∀j u,xs[j]?=some u->w.cell? (ad.add j)=some u)(z:∀u∈xs,u.oneCell'=true)(S:n<=100000000):
  Calls Tryz.prog 23 #[.slice p n c] w λ e w'=>∃v,e=.returned v/\AmZ.Fresh w 4 n xs v w':=by
 cases p with
 |none=>
   have i:n=0:=by
    obtain h|⟨ad,h,_⟩:=x
    .exact h
    .cases h
   subst i;clear x z f;have G:∀w,(binOp .eql 23 (.slice none 0 c) (.slice none 0 0)).run Tryz.prog w=.ok (.bool true) w:=λ w=>by rw[Lib.run_eql_slice_nil w 23 25 none 0 c 0 0 Tryz.underlying23];rfl
   go_enter Tryz.func23,Tryz.ntmps23
   go_wp2_with fail
   go_ret
   exact⟨_,rfl,Below.refl _ _,wa _,.inl ⟨rfl,_,rfl⟩⟩
 |some ad=>
   let⟨R,k,o,m,l⟩:=info_parts qFy;have s:Below w.heap.size w (w.alloc (.cells #[] 25)):=(Below.refl _ _).alloc (wa _) _;by_cases i:n=0
   .subst i;have F:∀ty,(Builtin.append_ #[23,23] ty #[.slice (some ⟨w.heap.size,0,none⟩) 0 0,.slice (some ad) 0 c]).run Tryz.prog (w.alloc (.cells #[] 25))=.ok (.slice (some ⟨w.heap.size,0,none⟩) 0 0) (w.alloc (.cells #[] 25)):=λ ty=>run_append_nothing _ 23 23 ty 25 _ Tryz.underlying23 k (some ⟨w.heap.size,0,none⟩) 0 0 (wa _) _ (Src.ofSlice _ Tryz.underlying23 ad 0 c [] (by simp) (λ _ _ h=>by simp at h) (λ _ h=>by simp at h));have E:=Lib.hid F;have Q:=Lib.hid s;clear F x z f s k o m l;have G:∀w,(binOp .eql 23 (.slice (some ad) 0 c) (.slice none 0 0)).run Tryz.prog w=.ok (.bool false) w:=λ w=>by rw[Lib.run_eql_slice_nil w 23 25 (some ad) 0 c 0 0 Tryz.underlying23];rfl
    go_enter Tryz.func23,Tryz.ntmps23
    go_wp2_with (at_builtin;refine Lib.wpList_append_run _ rfl _ _ _ _ rfl _ _ rfl rfl _ _ (E.out _) ?_)
    go_ret
    exact⟨_,rfl,Q.out,wa _,.inl ⟨rfl,_,rfl⟩⟩
   .have b:∀j u,xs[j]?=some u->(w.alloc (.cells #[] 25)).cell? (ad.add j)=some u:=λ j u r=>by
      obtain h|⟨N,h,K⟩:=x
      .exact absurd h i
      .cases h;have y:=K j u r
       have B:(ad.add j).block<w.heap.size:=by
        unfold World.cell? at y;split at y
        .rename_i L;exact(Array.getElem?_eq_some_iff.1 L).1
        .cases y
       rw[show(w.alloc (.cells #[] 25)).cell? _=w.cell? _ from World.cell?_of_block (s.block _ B)];exact y
    have t:∀ty,∃g a d w',(Builtin.append_ #[23,23] ty #[.slice (some ⟨w.heap.size,0,none⟩) 0 0,.slice (some ad) n c]).run Tryz.prog (w.alloc (.cells #[] 25))=.ok (.slice (some ⟨g,0,none⟩) (0+n) a) w'/\Below (w.alloc (.cells #[] 25)).heap.size (w.alloc (.cells #[] 25)) w'/\(w.alloc (.cells #[] 25)).heap.size<=g/\w'.heap[g]?=some (.cells d 25 (0,0))/\0+n<=a/\d.size=a*4/\d.toList.take ((0+n)*4)=[]++xs/\(w.alloc (.cells #[] 25)).drawn<=w'.drawn:=
     λ ty=>AmZ.grow_any (P:=Tryz.prog) (w:=w.alloc (.cells #[] 25)) (ty:=ty) Tryz.underlying23 k o m l rfl (some ⟨w.heap.size,0,none⟩) 0 0 (λ h=>by cases h) [] (by simp) (λ _ _ j u h=>by simp at h) _ n xs (Src.ofSlice _ Tryz.underlying23 ad n c xs f b z) (by omega) (by unfold maxLen;omega) (by omega)
    let⟨g,a,d,w',D,J,g3,I,C,H,A,M⟩:=t 23;rw[wE]at D C A;rw[kX]at A;have E:=Lib.hid D;have q:w.heap.size<=(w.alloc (.cells #[] 25)).heap.size:=s.size
    have O:Hid (AmZ.Fresh w 4 n xs (.slice (some ⟨g,0,none⟩) n a) w'):=by
     refine⟨s.trans (J.mono q),M,.inr ⟨g,a,d,_,rfl,wD q g3,I,C,vC H.symm,λ j u r=>?_⟩⟩;rw[<-A,List.getElem?_take]at r;split at r
     .rw[<-Array.getElem?_toList];exact r
     .cases r
    clear s b t D J g3 I C H A q x z f k o m l;have G:∀w,(binOp .eql 23 (.slice (some ad) n c) (.slice none 0 0)).run Tryz.prog w=.ok (.bool false) w:=λ w=>by rw[Lib.run_eql_slice_nil w 23 25 (some ad) n c 0 0 Tryz.underlying23];rfl
    go_enter Tryz.func23,Tryz.ntmps23
    go_wp2_with (at_builtin;refine Lib.wpList_append_run _ rfl _ _ _ _ rfl _ _ rfl rfl _ _ E.out ?_)
    go_ret
    exact⟨_,rfl,O.out⟩
set_option maxHeartbeats 4000000 in
set_option maxRecDepth 100000 in
theorem grow_nilTrm(w:World)(n:Nat)(z:n<=100000000):
  Calls Tryz.prog 193 #[.slice none 0 0,.int .i64 n] w λ e w'=>∃v,e=.returned v/\AmZ.Fresh w 4 0 [] v w':=by
 by_cases r:n=0
 .subst r;have l:IntKind.i64.wrap ((0:Int)-0)=(0:Int):=IntWalk.i64_in _ (by omega)
  go_enter Tryz.func193,Tryz.ntmps193
  go_wp2_with fail
  go_ret
  exact⟨_,rfl,Below.refl _ _,wa _,.inl ⟨rfl,_,rfl⟩⟩
 let⟨o,h,f,d,c⟩:=info_parts qFy;have b:(Builtin.firstCells o.size 0 (.slice none 0 0)).run Tryz.prog w.drew=.ok (([]:List Value)).toArray w.drew:=run_firstCells_none ..;have k:∀ty,_:=λ ty=>Lib.run_append_grow_zeros w 23 3 ty 25 o _ .i64 .i64 Tryz.underlying23 Tryz.underlying3 h f none 0 0 [] b n (by omega) (by rw[d];decide) (by omega) (by omega) (by rw[c];omega) (by rw[wE,c];exact growslice_fits (by omega) (by omega));rw[wE]at k;obtain⟨i,a⟩:∃N:Array Value,N=([]:List Value).toArray++Builtin.zeroCells (Value.cells (.agg #[.int .i64 0,.string ⟨#[]⟩,.int .i64 0,.slice none 0 0])) n++Builtin.zeroCells (Value.cells (.agg #[.int .i64 0,.string ⟨#[]⟩,.int .i64 0,.slice none 0 0])) (grownCap w n 0 25-n):=⟨_,rfl⟩
 rw[<-a]at k;have m:n<=grownCap w n 0 25:=grownCap_ge w _ _ _
 have g:grownCap w n 0 25*4<=i.size:=by
  rw[a,xE,xE,size_zeroCells,size_zeroCells,show(Value.cells (.agg #[.int .i64 0,.string ⟨#[]⟩,.int .i64 0,.slice none 0 0])).size=4 from rfl,kg,w7];have:n*4+(grownCap w n 0 25-n)*4=grownCap w n 0 25*4:=by rw[<-wO];congr 1;omega
  omega
 have y:=Lib.hid k;have x:=Lib.hid g;have l:IntKind.i64.wrap ((0:Int)-0)=(0:Int):=IntWalk.i64_in _ (by omega);have q:IntKind.i64.wrap ((n:Int)-0)=(n:Int):=by rw[IntWalk.i64_in _ (by omega)];omega
 have p:(0:Int)<(n:Int):=by omega
 generalize t:grownCap w n 0 25=G at *;clear b k a g h f d c t m
 go_enter Tryz.func193,Tryz.ntmps193
 go_wp2_with (at_builtin;refine Lib.wpList_append_run _ rfl _ _ _ _ rfl _ _ rfl rfl _ _ (y.out _) ?_)
 all_goals
  go_ret
  exact⟨_,rfl,((Below.refl _ _).alloc (wa _) _).drew,ko _,.inr ⟨w.heap.size,G,i,_,rfl,wa _,heap_alloc_new w _,we _,x.out,λ j u s=>by simp at s⟩⟩
end Go.Proofs.YtinbdcelmgfniaaGreatDoor
namespace Go.Proofs.YtinbdcelmgfniaaGreatDoor
open Go.RowKit Go.GxZ Go.BigFrame
theorem qOF:(Tryz.prog.info? 106).map (λ i=>(i.zero,i.size,i.bytes))=some (some (.agg #[.int .i64 0,.string ⟨#[]⟩,.int .i64 0,.slice none 0 0,.int .i64 0,.string ⟨#[]⟩,.int .i64 0,.slice none 0 0]),8,112):=by kernel_rfl
set_option maxHeartbeats 4000000 in
set_option maxRecDepth 100000 in
theorem clone_anyUp(w:World)(p:Option Addr)(n c:Nat)(xs:List Value)(f:xs.length=n*8)(x:n=0\/∃ad,p=some ad/\∀j u,xs[j]?=some u->w.cell? (ad.add j)=some u)(z:∀u∈xs,u.oneCell'=true)(S:n<=100000000):
  Calls Tryz.prog 188 #[.slice p n c] w λ e w'=>∃v,e=.returned v/\AmZ.Fresh w 8 n xs v w':=by
 cases p with
 |none=>
   have i:n=0:=by
    obtain h|⟨ad,h,_⟩:=x
    .exact h
    .cases h
   subst i;clear x z f;have G:∀w,(binOp .eql 107 (.slice none 0 c) (.slice none 0 0)).run Tryz.prog w=.ok (.bool true) w:=λ w=>by rw[Lib.run_eql_slice_nil w 107 106 none 0 c 0 0 Tryz.underlying107];rfl
   go_enter Tryz.func188,Tryz.ntmps188
   go_wp2_with fail
   go_ret
   exact⟨_,rfl,Below.refl _ _,wa _,.inl ⟨rfl,_,rfl⟩⟩
 |some ad=>
   let⟨R,k,o,m,l⟩:=info_parts qOF;have s:Below w.heap.size w (w.alloc (.cells #[] 106)):=(Below.refl _ _).alloc (wa _) _;by_cases i:n=0
   .subst i;have F:∀ty,(Builtin.append_ #[107,107] ty #[.slice (some ⟨w.heap.size,0,none⟩) 0 0,.slice (some ad) 0 c]).run Tryz.prog (w.alloc (.cells #[] 106))=.ok (.slice (some ⟨w.heap.size,0,none⟩) 0 0) (w.alloc (.cells #[] 106)):=λ ty=>run_append_nothing _ 107 107 ty 106 _ Tryz.underlying107 k (some ⟨w.heap.size,0,none⟩) 0 0 (wa _) _ (Src.ofSlice _ Tryz.underlying107 ad 0 c [] (by simp) (λ _ _ h=>by simp at h) (λ _ h=>by simp at h));have E:=Lib.hid F;have Q:=Lib.hid s;clear F x z f s k o m l;have G:∀w,(binOp .eql 107 (.slice (some ad) 0 c) (.slice none 0 0)).run Tryz.prog w=.ok (.bool false) w:=λ w=>by rw[Lib.run_eql_slice_nil w 107 106 (some ad) 0 c 0 0 Tryz.underlying107];rfl
    go_enter Tryz.func188,Tryz.ntmps188
    go_wp2_with (at_builtin;refine Lib.wpList_append_run _ rfl _ _ _ _ rfl _ _ rfl rfl _ _ (E.out _) ?_)
    go_ret
    exact⟨_,rfl,Q.out,wa _,.inl ⟨rfl,_,rfl⟩⟩
   .have b:∀j u,xs[j]?=some u->(w.alloc (.cells #[] 106)).cell? (ad.add j)=some u:=λ j u r=>by
      obtain h|⟨N,h,K⟩:=x
      .exact absurd h i
      .cases h;have y:=K j u r
       have B:(ad.add j).block<w.heap.size:=by
        unfold World.cell? at y;split at y
        .rename_i L;exact(Array.getElem?_eq_some_iff.1 L).1
        .cases y
       rw[show(w.alloc (.cells #[] 106)).cell? _=w.cell? _ from World.cell?_of_block (s.block _ B)];exact y
    have t:∀ty,∃g a d w',(Builtin.append_ #[107,107] ty #[.slice (some ⟨w.heap.size,0,none⟩) 0 0,.slice (some ad) n c]).run Tryz.prog (w.alloc (.cells #[] 106))=.ok (.slice (some ⟨g,0,none⟩) (0+n) a) w'/\Below (w.alloc (.cells #[] 106)).heap.size (w.alloc (.cells #[] 106)) w'/\(w.alloc (.cells #[] 106)).heap.size<=g/\w'.heap[g]?=some (.cells d 106 (0,0))/\0+n<=a/\d.size=a*8/\d.toList.take ((0+n)*8)=[]++xs/\(w.alloc (.cells #[] 106)).drawn<=w'.drawn:=
     λ ty=>AmZ.grow_any (P:=Tryz.prog) (w:=w.alloc (.cells #[] 106)) (ty:=ty) Tryz.underlying107 k o m l rfl (some ⟨w.heap.size,0,none⟩) 0 0 (λ h=>by cases h) [] (by simp) (λ _ _ j u h=>by simp at h) _ n xs (Src.ofSlice _ Tryz.underlying107 ad n c xs f b z) (by omega) (by unfold maxLen;omega) (by omega)
    let⟨g,a,d,w',D,J,g3,I,C,H,A,M⟩:=t 107;rw[wE]at D C A;rw[kX]at A;have E:=Lib.hid D;have q:w.heap.size<=(w.alloc (.cells #[] 106)).heap.size:=s.size
    have O:Hid (AmZ.Fresh w 8 n xs (.slice (some ⟨g,0,none⟩) n a) w'):=by
     refine⟨s.trans (J.mono q),M,.inr ⟨g,a,d,_,rfl,wD q g3,I,C,vC H.symm,λ j u r=>?_⟩⟩;rw[<-A,List.getElem?_take]at r;split at r
     .rw[<-Array.getElem?_toList];exact r
     .cases r
    clear s b t D J g3 I C H A q x z f k o m l;have G:∀w,(binOp .eql 107 (.slice (some ad) n c) (.slice none 0 0)).run Tryz.prog w=.ok (.bool false) w:=λ w=>by rw[Lib.run_eql_slice_nil w 107 106 (some ad) n c 0 0 Tryz.underlying107];rfl
    go_enter Tryz.func188,Tryz.ntmps188
    go_wp2_with (at_builtin;refine Lib.wpList_append_run _ rfl _ _ _ _ rfl _ _ rfl rfl _ _ E.out ?_)
    go_ret
    exact⟨_,rfl,O.out⟩
end Go.Proofs.YtinbdcelmgfniaaGreatDoor
namespace Go.AmZ
open Go Go.RowKit Go.GxZ
theorem qyC{P:Program}{c:TC}{f:FuncId}(o:qf2 P f)(h:∀i g,c.pf f i=some g->∀a v,g.fn a=some v->∀Γ w b,Inv Γ emp w->RepL Γ (Qm g.args a i) b->Ja P Γ emp w f b (zP (qar g.res v),none)):qS P f (Jm (jq c f)):=by
 refine⟨o,λ Γ σ w j b r m l e=>?_⟩;unfold Jm at e;split at e<;>try cases e
 split at e<;>cases e;rename_i z d;unfold jq at d;split at d<;>try cases d
 rename_i g n;split at d<;>try cases d
 rename_i a p;split at d<;>cases d;rename_i v k;exact h _ g n a v k Γ w b m ((qmd g.args p).rep l)
theorem qGc{P:Program}{f:FuncId}{Γ:Gh}{w:World}{a:List Value}{x:Value}(g:Inv Γ emp w)(d:zx x=true)(h:Calls P f a.toArray w λ e w'=>e=.returned x/\Below w.heap.size w w'/\w.drawn<=w'.drawn):Ja P Γ emp w f a (.v x,none):=by
 refine Calls.mono h ?_;rintro e w' ⟨rfl,c,b⟩;exact⟨x,Γ,rfl,qgu c b,g.later c,.v x d,.refl _⟩
def strings_Compare(m:Nat)(a b:List UInt8):Option Int:=some (Lib.compareBytes a b)
theorem qpv{m:Nat}{c:TC}(l:∀h,c.pf 116 h=qxL h [] (some ⟨[.val .str,.val .str],[.int .i64],λ x=>strings_Compare m x.1 x.2.1⟩) none):qS Go.Proofs.Tryz.prog 116 (Jm (jq c 116)):=by
 refine qyC (QG Go.Proofs.Tryz.func116 (by kernel_rfl)) λ h g b a v j Γ w i k e=>?_;rw[l]at b;obtain⟨rfl,b⟩|b:=qyy b
 .cases b;cases j;obtain⟨u1,o,rfl,f,e⟩:=e.uncons;obtain⟨u2,n,rfl,d,e⟩:=e.uncons;have:=e.nil_inv;subst this;have f:=zp f;have d:=zp d;subst f;subst d;refine qGc k rfl ?_;exact(Go.Proofs.Tryz.strings_Compare _ _ w).mono λ _ _ ⟨f,d⟩=>⟨f,by rw[d];exact Below.refl _ _,by rw[d];exact wa _⟩
 .cases b
abbrev qHm:Ty:=.pair .str (.pair (.int .i64) (.pair (.int .i64) (.int .i64)))
def qMi:List (Val qHm):=[([112,97,105,114],2,2,1),([101,110,99],2,2,1),([97,101,110,99],2,2,1),([112,107],1,1,1),([115,105,103,110],2,2,1),([104,97,115,104],1,1,1),([120,111,114],2,8,1),([122,101,114,111],0,0,1),([101,120,112],2,2,1),([109,117,108],2,8,1),([105,110,118],1,1,1),([111,110,101],0,0,1),([115,107],1,1,2),([115,104,107],2,2,2),([110,101,119],1,8,2),([102,115,116],1,1,3),([115,110,100],1,1,3),([100,101,99],2,2,3),([97,100,101,99],2,2,3),([111,112,101,110],2,2,3),([114,101,97,100],1,1,3)]
def qig(m:Nat):Option (List (List UInt8×Int×Int×Int)):=some qMi
def qLL:Cfg:=⟨tyT,λ f=>cond (Nat.beq f 104) (some Go.Proofs.Tryz.f104) (cond (Nat.beq f 132) (some Go.Proofs.Tryz.f132) none),λ _=>none,λ _=>false,λ _=>[],λ _=>true,λ _=>none⟩
theorem qDZ(cd:Code):jW cd=true:=by
 induction cd<;>simp_all [jW]
theorem qE1:ym Go.Proofs.Tryz.prog qLL:=by
 refine⟨by kernel_rfl,qIk,λ f fn h=>?_,(λ f p h=>by cases h),λ f fn h=>by cases h⟩;have h:cond (Nat.beq f 104) (some Go.Proofs.Tryz.f104) (cond (Nat.beq f 132) (some Go.Proofs.Tryz.f132) none)=some fn:=h;have c:∀cd:Code,jW cd=true:=qDZ;cases b:Nat.beq f 104 with
 |true=>
   rw[b]at h;cases h;rw[wn b];exact⟨Go.Proofs.Tryz.func104,by kernel_rfl,λ _ _=>c _⟩
 |false=>
   rw[b]at h;cases a:Nat.beq f 132 with
   |true=>
     rw[a]at h;cases h;rw[wn a];exact⟨Go.Proofs.Tryz.func132,by kernel_rfl,λ _ _=>c _⟩
   |false=>rw[a]at h;cases h
theorem qL7:qby qLL (Q5 qLL 300) emp 104 []=some (zP (qar [.list qHm] qMi),none):=by kernel_rfl
theorem qpX{m:Nat}{c:TC}(j:∀d,c.pf 104 d=qxL d [] (some ⟨[],[.list qHm],λ x=>qig m⟩) none):qS Go.Proofs.Tryz.prog 104 (Jm (jq c 104)):=by
 refine qyC (QG Go.Proofs.Tryz.func104 (by kernel_rfl)) λ d g b a v f Γ w e i h=>?_;rw[j]at b;obtain⟨rfl,b⟩|b:=qyy b
 .cases b;cases f;exact qBE qE1 (qxy qE1 300) i h qL7
 .cases b
def zW(m:Nat)(l:List T):Option (Unit×List T×Unit):=cond (Nat.ble l.length 100000000) (some ((),l,())) none
def yO(m:Nat)(n:Int):Option (Unit×List T×Unit):=cond (inb n 100000000) (some ((),[],())) none
def zC(m:Nat)(l:List (T×Int))(i:Int)(v:List (T×Int)):Option (Unit×List (T×Int)×Unit):=cond (inb i l.length&&(Nat.ble l.length 100000&&Nat.beq v.length 1)) (some ((),l.take i.toNat++(v++l.drop i.toNat),())) none
def zD(m:Nat)(l:List (T×Int))(i j:Int):Option (Unit×List (T×Int)×Unit):=cond (inb j l.length&&(inb i l.length&&(ieq j (qj i 1)&&Nat.ble l.length 100000))) (some ((),l.take i.toNat++l.drop (i.toNat+1),())) none
theorem qhx{α:Type}{b:Bool}{x:α}{r:α}(h:cond b (some x) none=some r):b=true/\x=r:=by
 cases b with
 |true=>exact⟨rfl,kR h⟩
 |false=>cases h
theorem qeA{m:Nat}:qS Go.Proofs.Tryz.prog 23 (sgP ⟨[.val (.list .term)],[.one (.row .term)],λ x=>zW m x.1⟩):=by
 refine qwR (a:=.term) (QG Go.Proofs.Tryz.func23 (by kernel_rfl)) (most:=100000000) Go.Proofs.YtinbdcelmgfniaaGreatDoor.clone_anyTrm (fn:=zW m) λ l r h=>?_;let⟨c,b⟩:=qhx h;exact⟨kC c,b.symm⟩
def yZ(m:Nat)(l:List (T×T)):Option (Unit×List (T×T)×Unit):=cond (Nat.ble l.length 100000000) (some ((),l,())) none
theorem qdi{m:Nat}:qS Go.Proofs.Tryz.prog 188 (sgP ⟨[.val (.list (.pair .term .term))],[.one (.row (.pair .term .term))],λ x=>yZ m x.1⟩):=by
 refine qwR (a:=.pair .term .term) (QG Go.Proofs.Tryz.func188 (by kernel_rfl)) (most:=100000000) Go.Proofs.YtinbdcelmgfniaaGreatDoor.clone_anyUp (fn:=yZ m) λ l r h=>?_;let⟨c,b⟩:=qhx h;exact⟨kC c,b.symm⟩
theorem qfj{m:Nat}:qS Go.Proofs.Tryz.prog 193 (sgP ⟨[.nil,.val (.int .i64)],[.one (.row .term)],λ x=>yO m x.1⟩):=by
 refine qIV (a:=.term) (QG Go.Proofs.Tryz.func193 (by kernel_rfl)) (most:=100000000) Go.Proofs.YtinbdcelmgfniaaGreatDoor.grow_nilTrm (fn:=yO m) λ n r h=>?_;let⟨b,c⟩:=qhx h;have b:=of_decide_eq_true b;exact⟨b.1,b.2,c.symm⟩
theorem qPF:qnR Go.Proofs.Tryz.prog (.pair .term (.int .i64)) 134 157 64:=⟨by
 have h:(match yG Go.Proofs.Tryz.prog 134 with|some ⟨_,_,_,_,.slice e k b z⟩=>Nat.beq e 157&&(Nat.beq k 5&&(Nat.beq b 64&&Nat.beq z.length 5))|_=>false)=true:=by kernel_rfl
 split at h
 .rename_i l j i g e k b z m;simp only[wb]at h;let⟨f,d,c,a⟩:=h;have f:=wn f;have d:=wn d;have c:=wn c;have a:=wn a;subst f;subst d;subst c;exact⟨l,j,i,g,z,m,a⟩
 .cases h⟩
theorem qdv{m:Nat}:qS Go.Proofs.Tryz.prog 225 (sgP ⟨[.row (.pair .term (.int .i64)),.val (.int .i64),.val (.list (.pair .term (.int .i64)))],[.one (.row (.pair .term (.int .i64)))],λ x=>zC m x.1 x.2.1 x.2.2.1⟩):=by
 refine qL3 (a:=.pair .term (.int .i64)) (QG Go.Proofs.Tryz.func225 (by kernel_rfl)) qPF (by decide) Go.Proofs.YtinbdcelmgfniaaGreatDoor.insert_endPow Go.Proofs.YtinbdcelmgfniaaGreatDoor.insert_roomPow Go.Proofs.YtinbdcelmgfniaaGreatDoor.insert_growPow (fn:=zC m) λ l i v r h=>?_;let⟨c,g⟩:=qhx h;simp only[wb,Nat.beq_eq_true_eq]at c;let⟨b,f,d⟩:=c;have b:=of_decide_eq_true b;refine⟨?_,b.1,b.2,kC f,g.symm⟩
 match v,d with
 |[e],_=>exact⟨e,rfl⟩
theorem qds{m:Nat}:qS Go.Proofs.Tryz.prog 226 (sgP ⟨[.row (.pair .term (.int .i64)),.val (.int .i64),.val (.int .i64)],[.one (.row (.pair .term (.int .i64)))],λ x=>zD m x.1 x.2.1 x.2.2.1⟩):=by
 refine qLH (a:=.pair .term (.int .i64)) (QG Go.Proofs.Tryz.func226 (by kernel_rfl)) Go.Proofs.YtinbdcelmgfniaaGreatDoor.delete_onePow (fn:=zD m) λ l i j r h=>?_;let⟨e,g⟩:=qhx h;simp only[wb]at e;let⟨d,c,b,f⟩:=e;have d:=of_decide_eq_true d;have c:=of_decide_eq_true c;have b:j=i+1:=by simpa[ieq,qj]using b
 refine⟨b,c.1,?_,kC f,g.symm⟩;omega
end Go.AmZ
namespace Go.AmZ
open Go Go.RowKit Go.GxZ
structure FI where
 fn:Func
 args:List ATy
 res:List Ty
 loop:List (Nat×List (Tmp×Co))
 ld:List Nat
 F:Nat->qbr args->Option (qd7 res)
structure SI where
 fn:Func
 args:List SA
 res:List RE
 loop:List (Nat×List (Tmp×Co))
 ld:List Nat
 F:Nat->QC args->Option (jI args×RV res)
inductive En where
 |pure (l:List (List Nat×FI))
 |st (i:SI)
 |hp (g:Sig)
 |hs (g:qnc)
 |hx (g:Nat->qnc)
 |hm (g:Nat->qrD)
 |hk (g:Nat->quh)
 |il (fn:Func)
inductive Tr where
 |leaf
 |node (k:Nat) (l r:Tr) (x:En)
def Tr.get:Tr->Nat->Option En
 |.leaf,_=>none
 |.node k l r x,f=>match Nat.beq f k with
   |true=>some x
   |false=>match Nat.blt f k with
     |true=>Tr.get l f
     |false=>Tr.get r f
def qr2(a:List Nat):List (List Nat×FI)->Option FI
 |[]=>none
 |p::r=>match qqJ p.1 a with
   |true=>some p.2
   |false=>qr2 a r
def qIN(r:Nat):List (Nat×List (Tmp×Co))->Option (List (Tmp×Co))
 |[]=>none
 |p::l=>match Nat.beq p.1 r with
   |true=>some p.2
   |false=>qIN r l
structure Tb where
 ty:Nat->Option TD
 el:Nat->Option Ty
 tr:Tr
def Tb.has(b:Tb)(f:Nat):Bool:=match b.tr.get f with
 |some (.pure _)|some (.hp _)=>true
 |_=>false
def Tb.pf(b:Tb)(m f:Nat)(a:List Nat):Option Sig:=match b.tr.get f with
 |some (.pure l)=>match qr2 a l with
   |some i=>some ⟨i.args,i.res,i.F m⟩
   |none=>none
 |some (.hp g)=>qxL a [] (some g) none
 |_=>none
def Tb.sf(b:Tb)(m f:Nat):Option qnc:=match b.tr.get f with
 |some (.st i)=>some ⟨i.args,i.res,i.F m⟩
 |some (.hs g)=>some g
 |some (.hx g)=>some (g m)
 |_=>none
def Tb.mf(b:Tb)(m f:Nat):Option qrD:=match b.tr.get f with
 |some (.hm g)=>some (g m)
 |_=>none
def Tb.xf(b:Tb)(m f:Nat):Option quh:=match b.tr.get f with
 |some (.hk g)=>some (g m)
 |_=>none
def Tb.inl(b:Tb)(f:Nat):Option Func:=match b.tr.get f with
 |some (.il fn)=>some fn
 |_=>none
def Tb.tc(b:Tb)(m:Nat)(d:List (Nat×List (Tmp×Co)))(a c:Nat)(e:List Nat):TC:=⟨b.ty,b.el,b.has,b.pf m,b.sf m,λ r=>qIN r d,λ _=>none,a,c,λ f=>qMl f e,b.mf m,b.xf m,b.inl⟩
def Tb.runP(b:Tb)(m:Nat)(i:FI)(k:Nat)(a:List It)(E:Env)(σ:TS):Option (qd7 i.res):=
 qpg (b.tc m i.loop i.fn.ntmps 0 i.ld) (qi2 (b.tc m i.loop i.fn.ntmps 0 i.ld) i.res i.fn.results.toList) qwU k a E σ
def Tb.runS(b:Tb)(m:Nat)(i:SI)(k:Nat)(a:List It)(E:Env)(σ:TS):Option (jI i.args×RV i.res):=
 qpg (b.tc m i.loop i.fn.ntmps (qDz i.args) i.ld) (qxS (b.tc m i.loop i.fn.ntmps (qDz i.args) i.ld) i.args i.res i.fn.results.toList) qwU k a E σ
def Tb.runP1(b:Tb)(m:Nat)(i:FI)(c:List Nat)(a:qbr i.args):Option (qd7 i.res):=b.runP m i (m+1) [.code (qrY i.fn)] (qeN 0 (qxt i.args a c)) ⟨[],[]⟩
def Tb.runS1(b:Tb)(m:Nat)(i:SI)(a:QC i.args):Option (jI i.args×RV i.res):=b.runS m i (m+1) [.code (qrY i.fn)] (qeN 0 (qkI i.args 0 0 a)) ⟨sBx i.args 0 a,sRw i.args a⟩
def Tb.PL(b:Tb)(i:FI)(r:Nat)(m k:Nat)(E:Env)(σ:TS):Option (qd7 i.res):=b.runP m i k (stL i.fn r) E σ
def Tb.QL(b:Tb)(i:SI)(r:Nat)(m k:Nat)(E:Env)(σ:TS):Option (jI i.args×RV i.res):=b.runS m i k (stL i.fn r) E σ
def Tb.at(b:Tb)(m:Nat):TC:=b.tc m [] 0 0 []
theorem qY{α:Type}{M:Nat->α}{z:α}{s:α->α}(c:z=M 0)(b:∀k,M (k+1)=s (M k))(k:Nat):qQ z s k=M k:=by
 induction k with
 |zero=>exact c
 |succ k a=>rw[b,<-a];rfl
def fnB(fn:Func)(n:Nat):Bool:=JW fn&&Nat.ble n fn.ntmps
def En.ok:En->Bool
 |.pure l=>l.all λ p=>fnB p.2.fn p.2.args.length
 |.st i=>fnB i.fn i.args.length
 |.il fn=>JW fn
 |_=>true
def Tr.ok:Tr->Bool
 |.leaf=>true
 |.node _ l r x=>x.ok&&(l.ok&&r.ok)
def qvY(P:Program)(b:Tb)(f:Nat)(l:List (List Nat×FI)):Prop:=match l with
 |[]=>True
 |p::r=>P.funcs[f]?=some p.2.fn/\(∀a,p.2.F 0 a=none)/\(∀m a,p.2.F (m+1) a=b.runP1 m p.2 p.1 a)/\qvY P b f r
def En.prog(P:Program)(b:Tb)(f:Nat):En->Prop
 |.pure l=>qvY P b f l/\l≠[]
 |.st i=>P.funcs[f]?=some i.fn/\(∀a,i.F 0 a=none)/\∀m a,i.F (m+1) a=b.runS1 m i a
 |.hp g=>∀c:TC,(∀d,c.pf f d=qxL d [] (some g) none)->qS P f (Jm (jq c f))
 |.hs g=>qS P f (sgP g)
 |.hx g=>qS P f (sgP (g 0))/\∀m,ym P (b.at m).pc.cfg->qS P f (sgP (g (m+1)))
 |.hm g=>qS P f (mgP (g 0))/\∀m,ym P (b.at m).pc.cfg->qS P f (mgP (g (m+1)))
 |.il fn=>P.funcs[f]?=some fn
 |.hk g=>qS P f (xgP (g 0))/\∀m,ym P (b.at m).pc.cfg->qS P f (xgP (g (m+1)))
def Tr.prog(P:Program)(b:Tb):Tr->Prop
 |.leaf=>True
 |.node k l r x=>x.prog P b k/\l.prog P b/\r.prog P b
theorem Tr.get_spec{P:Program}{b:Tb}:∀{t:Tr}{f:Nat}{x:En},t.get f=some x->t.ok=true->t.prog P b->x.ok=true/\x.prog P b f
 |.leaf,f,x,h,_,_=>by cases h
 |.node k l r y,f,x,h,a,⟨e,d,c⟩=>by
   simp only[Tr.ok,wb]at a;let⟨j,i,g⟩:=a;simp only[Tr.get]at h;split at h
   .rename_i m;cases h;rw[wn m];exact⟨j,e⟩
   .split at h
    .exact Tr.get_spec h i d
    .exact Tr.get_spec h g c
theorem qyM{a:List Nat}:∀{l:List (List Nat×FI)}{i:FI},qr2 a l=some i->(a,i)∈l
 |[],i,h=>by cases h
 |p::r,i,h=>by
   simp only[qr2]at h;split at h
   .rename_i b;cases h;rw[<-qqj b];exact wi ..
   .exact wg _ (qyM h)
theorem qvY.mem{P:Program}{b:Tb}{f:Nat}:∀{l:List (List Nat×FI)}{p:List Nat×FI},qvY P b f l->p∈l->P.funcs[f]?=some p.2.fn/\(∀a,p.2.F 0 a=none)/\(∀m a,p.2.F (m+1) a=b.runP1 m p.2 p.1 a)
 |[],p,_,h=>by cases h
 |q::r,p,⟨g,e,d,c⟩,h=>by
   obtain rfl|h:=ww.1 h
   .exact⟨g,e,d⟩
   .exact qvY.mem c h
theorem qwC{fn:Func}(h:JW fn=true):fn.body=some (qrY fn):=by
 unfold JW at h;unfold qrY;cases a:fn.body with
 |none=>rw[a]at h;cases h
 |some c=>rfl
theorem qo5{fn:Func}{n:Nat}(h:fnB fn n=true):JW fn=true/\n<=fn.ntmps:=by
 unfold fnB at h;rw[wb]at h;exact⟨h.1,kC h.2⟩
theorem qLG{P:Program}{d:PC}(w:ym P d.cfg){l:TC}{f:FuncId}{fn:Func}(t:P.funcs[f]?=some fn)(m:JW fn=true)
  (h:∀n g,l.pf f n=some g->∃c:TC,{c.pc with pur:=d.pur,ld:=d.ld}=d/\c.nt=fn.ntmps/\c.np=0/\g.args.length<=fn.ntmps/\∃N k,∀a,g.fn a=qpg c (qi2 c g.res fn.results.toList) N k [.code (qrY fn)] (qeN 0 (qxt g.args a n)) ⟨[],[]⟩):qS P f (Jm (jq l f)):=by
 refine qId w t m (jq l f) λ ys r b=>?_;unfold jq at b;split at b<;>try cases b
 rename_i g s;split at b<;>try cases b
 rename_i a u;split at b<;>cases b;rename_i v q;let⟨c,e,i,j,y,N,k,x⟩:=h _ g s;refine⟨Qm g.args a (qfb ys),_,c.pc.pur,c.pc.ld,qmd g.args u,λ z p=>p,?_⟩;rw[<-e];exact qPD (qwC m) i j (by rw[qlX];exact y) (qoH g.args a (qfb ys)) (by rw[<-x a];exact q)
theorem Tb.has_pf{b:Tb}{m f:Nat}{a:List Nat}{g:Sig}(h:b.pf m f a=some g):(∃l i,b.tr.get f=some (.pure l)/\qr2 a l=some i/\g=⟨i.args,i.res,i.F m⟩)\/(∃d,b.tr.get f=some (.hp d)):=by
 unfold Tb.pf at h;split at h
 .rename_i l c;split at h<;>cases h;exact .inl ⟨l,_,c,‹_›,rfl⟩
 .exact .inr ⟨_,‹_›⟩
 .cases h
theorem Tb.all_ok{P:Program}{b:Tb}(G:P.follows .mixedOrders=true)(Q:∀t d,b.ty t=some d->yG P t=some d)(n:b.tr.ok=true)(k:b.tr.prog P b):∀m,ym P (b.at m).pc.cfg:=by
 have x:∀{c:TC}{g:Sig}{f m:Nat},c.pf=b.pf m->b.tr.get f=some (.hp g)->qS P f (Jm (jq c f)):=by
  intro c g f m T j;refine(Tr.get_spec j n k).2 c λ s=>?_;rw[T];unfold Tb.pf;rw[j]
 have w:∀{m:Nat}{f:Nat},(b.at m).has f=true->(∃l,b.tr.get f=some (.pure l))\/∃g,b.tr.get f=some (.hp g):=by
  intro m f h;have h:b.has f=true:=h;unfold Tb.has at h;split at h
  .exact .inl ⟨_,‹_›⟩
  .exact .inr ⟨_,‹_›⟩
  .cases h
 have B:∀{m:Nat}{f:Nat}{g:qnc},(b.at m).sf f=some g->(∃i,b.tr.get f=some (.st i)/\g=⟨i.args,i.res,i.F m⟩)\/b.tr.get f=some (.hs g)\/∃h,b.tr.get f=some (.hx h)/\g=h m:=by
  intro m f g h;have h:b.sf m f=some g:=h;unfold Tb.sf at h;split at h
  .cases h;exact .inl ⟨_,‹_›,rfl⟩
  .cases h;exact .inr (.inl ‹_›)
  .cases h;exact .inr (.inr ⟨_,‹_›,rfl⟩)
  .cases h
 have C:∀{m:Nat}{f:Nat}{g:qrD},(b.at m).mf f=some g->∃h,b.tr.get f=some (.hm h)/\g=h m:=by
  intro m f g h;have h:b.mf m f=some g:=h;unfold Tb.mf at h;split at h
  .cases h;exact⟨_,‹_›,rfl⟩
  .cases h
 have A:∀{m:Nat}{f:Nat}{g:quh},(b.at m).xf f=some g->∃h,b.tr.get f=some (.hk h)/\g=h m:=by
  intro m f g h;have h:b.xf m f=some g:=h;unfold Tb.xf at h;split at h
  .cases h;exact⟨_,‹_›,rfl⟩
  .cases h
 have D:∀{m f:Nat}{fn:Func},(b.at m).inl f=some fn->P.funcs[f]?=some fn/\JW fn=true:=by
  intro m f fn h;have h:b.inl f=some fn:=h;unfold Tb.inl at h;split at h<;>cases h;have:=Tr.get_spec (by assumption) n k;exact⟨this.2,this.1⟩
 have q:∀{f:Nat}{l:List (List Nat×FI)},b.tr.get f=some (.pure l)->∃fn,P.funcs[f]?=some fn/\JW fn=true/\∀s i,qr2 s l=some i->i.fn=fn/\i.args.length<=fn.ntmps/\(∀a,i.F 0 a=none)/\∀m a,i.F (m+1) a=b.runP1 m i s a:=by
  intro f l u;let⟨y,v⟩:=Tr.get_spec u n k;let⟨v,z⟩:=v;have y:=wo.1 (show l.all _=true from y);cases l with
  |nil=>exact absurd rfl z
  |cons p r=>
    refine⟨p.2.fn,(v.mem (wi ..)).1,(qo5 (y p (wi ..))).1,λ s i H=>?_⟩;have G:=qyM H;let⟨e1,W,V⟩:=v.mem G;have X:=(v.mem (wi ..)).1;rw[X]at e1;have R:p.2.fn=i.fn:=kR e1;refine⟨R.symm,?_,W,V⟩;rw[R];exact(qo5 (y _ G)).2
 intro m
 induction m with
 |zero=>
   refine qHI G Q (λ f I=>?_) (λ f g j=>?_) (λ f g j=>?_) (λ f g j=>?_) λ f fn h=>D h
   .obtain⟨l,u⟩|⟨g,j⟩:=w I
    .let⟨fn,O,N,M⟩:=q u;refine qI5 (QG O N) λ s g a h=>?_;have h:b.pf 0 f s=some g:=h;obtain⟨S,i,o,L,rfl⟩|⟨U,o⟩:=Tb.has_pf h
     .rw[u]at o;cases o;exact(M s i L).2.2.1 a
     .rw[u]at o;cases o
    .exact x rfl j
   .obtain⟨i,H,rfl⟩|e:=B j
    .let⟨y,v,z,_⟩:=Tr.get_spec H n k;exact qoY (QG v (qo5 y).1) z
    .obtain e|⟨h,e,rfl⟩:=e
     .exact(Tr.get_spec e n k).2
     .exact(Tr.get_spec e n k).2.1
   .obtain⟨h,e,rfl⟩:=C j;exact(Tr.get_spec e n k).2.1
   .obtain⟨h,e,rfl⟩:=A j;exact(Tr.get_spec e n k).2.1
 |succ m E=>
   refine qHI G Q (λ f I=>?_) (λ f g j=>?_) (λ f g j=>?_) (λ f g j=>?_) λ f fn h=>D h
   .obtain⟨l,u⟩|⟨g,j⟩:=w I
    .let⟨fn,O,N,M⟩:=q u;refine qLG E O N λ s g h=>?_;have h:b.pf (m+1) f s=some g:=h;obtain⟨S,i,o,L,rfl⟩|⟨U,o⟩:=Tb.has_pf h
     .rw[u]at o;cases o;obtain⟨rfl,K,_,J⟩:=M s i L;exact⟨b.tc m i.loop i.fn.ntmps 0 i.ld,rfl,rfl,rfl,K,qwU,m+1,λ a=>J m a⟩
     .rw[u]at o;cases o
    .exact x rfl j
   .obtain⟨i,H,rfl⟩|e:=B j
    .let⟨y,v,_,J⟩:=Tr.get_spec H n k;let⟨z,K⟩:=qo5 y;exact qKq (c:=b.tc m i.loop i.fn.ntmps (qDz i.args) i.ld) (E.pur _ _) v z (qwC z) rfl _ rfl K ⟨qwU,m+1,λ a=>J m a⟩
    .obtain e|⟨h,e,rfl⟩:=e
     .exact(Tr.get_spec e n k).2
     .exact(Tr.get_spec e n k).2.2 m E
   .obtain⟨h,e,rfl⟩:=C j;exact(Tr.get_spec e n k).2.2 m E
   .obtain⟨h,e,rfl⟩:=A j;exact(Tr.get_spec e n k).2.2 m E
def okP(b:Tb)(c:List Nat)(i:FI):Prop:=∀m a,i.F (m+1) a=b.runP1 m i c a
def okS(b:Tb)(i:SI):Prop:=∀m a,i.F (m+1) a=b.runS1 m i a
theorem nP{P:Program}{b:Tb}{k:Nat}{c:List Nat}{i:FI}{l r:Tr}(h:P.funcs[k]?=some i.fn)(g:okP b c i)(e:l.prog P b)(d:r.prog P b)(f:∀a,i.F 0 a=none:=by exact λ _=>rfl):(Tr.node k l r (.pure [(c,i)])).prog P b:=⟨⟨⟨h,f,g,trivial⟩,vl _ _⟩,e,d⟩
theorem nS{P:Program}{b:Tb}{k:Nat}{i:SI}{l r:Tr}(h:P.funcs[k]?=some i.fn)(g:okS b i)(d:l.prog P b)(c:r.prog P b)(e:∀a,i.F 0 a=none:=by exact λ _=>rfl):(Tr.node k l r (.st i)).prog P b:=⟨⟨h,e,g⟩,d,c⟩
abbrev eP(i:FI):En:=.pure [([],i)]
abbrev eS(i:SI):En:=.st i
abbrev tL(k:Nat)(x:En):Tr:=.node k .leaf .leaf x
abbrev vI:=TV.i .i64
abbrev vT(l:List T):=TV.sl .term l 1
section
variable {A B C D E F R:Type}
abbrev u0(f:Nat->R):Nat->Unit->R:=λ m _=>f m
abbrev u1(f:Nat->A->R):Nat->A×Unit->R:=λ m x=>f m x.1
abbrev u2(f:Nat->A->B->R):Nat->A×B×Unit->R:=λ m x=>f m x.1 x.2.1
abbrev u3(f:Nat->A->B->C->R):Nat->A×B×C×Unit->R:=λ m x=>f m x.1 x.2.1 x.2.2.1
abbrev u4(f:Nat->A->B->C->D->R):Nat->A×B×C×D×Unit->R:=λ m x=>f m x.1 x.2.1 x.2.2.1 x.2.2.2.1
abbrev u5(f:Nat->A->B->C->D->E->R):Nat->A×B×C×D×E×Unit->R:=λ m x=>f m x.1 x.2.1 x.2.2.1 x.2.2.2.1 x.2.2.2.2.1
end
theorem Tb.prim{P:Program}{b:Tb}(h:∀m,ym P (b.at m).pc.cfg)(m:Nat){f:Nat}(a:b.has f=true):qS P f (Jm (jq (b.at m) f)):=by
 refine(h m).prim f _ ?_;show PC.prim _ f=_;unfold PC.prim
 have:(b.at m).pc.pf f=some (jq (b.at m) f):=by
  show(match(b.at m).has f with|true=>some (jq (b.at m) f)|false=>none)=_;rw[show(b.at m).has f=true from a]
 rw[this]
end Go.AmZ
namespace Go.AmZ
open Go Go.RowKit Go.GxZ Go.Sort Go.Proofs Go.Shelf
def bare(Γ:Gh):Gh:={Γ with nb:=0,nr:=0}
theorem Rep.bare{Γ:Gh}{x:AV}{u:Value}(h:Rep Γ x u)(m:qu x=true):Rep (bare Γ) x u:=by
 induction h with
 |v x h=>exact .v x h
 |sl k es f a n cap b o us p t s r c y w q z l=>exact .sl k es f a n cap b o us p t s r c y w q (λ i e j x g d=>l i e j x g d (c e (wc g) x (wc d)))
 |_=>simp[qu]at m
theorem Inv.bare{Γ:Gh}{σ:St}{w w':World}(h:Inv Γ σ w)(d:∀b o u,Γ.mem b o=some u->w'.cell? ⟨b,o,none⟩=some u):Inv (bare Γ) emp w' where
 nb:=rfl
 nr:=rfl
 mem:=λ b o u e=>⟨d b o u e,(h.mem b o u e).2⟩
 box:=λ i cs e=>by cases e
 inj:=λ i j a=>absurd a (wK _)
 boxmem:=λ i a=>absurd a (wK _)
 row:=λ r R e=>by cases e
 apart:=λ r f c=>absurd c (wK _)
structure qKH (w w':World):Prop where
 os:w'.os=w.os
 tape:w'.tape=w.tape
 output:w'.output=w.output
 size:w.heap.size<=w'.heap.size
 block:∀b,b<w.heap.size->w'.heap[b]?=w.heap[b]?
 drawn:w.drawn<=w'.drawn
theorem qyv:∀(τ:Ty) (v:Val τ),j9 τ (yH τ v)=some v:=by
 intro τ v;have h:=jR τ v;cases τ<;>exact h
theorem qre:∀(ts:List Ty) (a:qbr (ts.map ATy.val)),qdn (ts.map ATy.val) (Qm (ts.map ATy.val) a [])=some a/\qfb (Qm (ts.map ATy.val) a [])=[]
 |[],_=>⟨rfl,rfl⟩
 |τ::r,a=>by
   let⟨d,c⟩:=qre r a.2;constructor
   .show qm2 (j9 τ) (qdn (r.map ATy.val)) (yH τ a.1::Qm (r.map ATy.val) a.2 [])=_;simp only[qm2,qyv,d];rfl
   .show qfb (yH τ a.1::Qm (r.map ATy.val) a.2 [])=[];have:=(qcx (qyv τ a.1)).2;cases b:yH τ a.1<;>first|exact c|exact absurd b (this _ _)
def Fn2(P:Program)(g:FuncId)(τ:Ty){a:Type}(enc:a->Value)(F:Val τ->Val τ->Option a):Prop:=
 qf2 P g/\∀{Γ:Gh}{w:World}{x y:Val τ}{u v:Value}{c:a},Inv Γ emp w->Rep Γ (yH τ x) u->Rep Γ (yH τ y) v->F x y=some c->Calls P g #[u,v] w λ e w'=>e=.returned (enc c)/\qKH w w'
theorem qDe{P:Program}{g:FuncId}{c:TC}{τ ρ:Ty}(o:qS P g (Jm (jq c g))){F:Val τ->Val τ->Option (qd7 [ρ])}(z:c.pf g []=some ⟨[.val τ,.val τ],[ρ],λ x=>F x.1 x.2.1⟩){enc:qd7 [ρ]->Value}(A:∀v,zP (qar [ρ] v)=.v (enc v)):Fn2 P g τ enc F:=by
 refine⟨o.1,λ{Γ w x y u v p} m a q B=>?_⟩;let⟨E,D⟩:=qre [τ,τ] (x,y,())
 have t:jq c g [yH τ x,yH τ y]=some (.v (enc p)):=by
  show jq c g (Qm ([τ,τ].map ATy.val) (x,y,()) [])=_;unfold jq;rw[D,z];simp only;have n:qdn [ATy.val τ,ATy.val τ] (Qm ([τ,τ].map ATy.val) (x,y,()) [])=some (x,y,()):=E;rw[n];simp only;rw[B];simp only;rw[A]
 have j:Jm (jq c g) emp [yH τ x,yH τ y]=some (.v (enc p),none):=by
  show(match jq c g [yH τ x,yH τ y]with|some v=>some (v,none)|none=>none)=_;rw[t]
 have:=o.2 Γ emp w _ [u,v] _ m (waM a (waM q RepL.nil)) j;refine Calls.mono this ?_;rintro e w' ⟨G,Γ',rfl,a,_,h,_⟩;have s:=zp h;subst s;refine⟨rfl,a.os,a.tape,a.output,a.size,λ b C=>a.block b C ?_,a.drawn⟩;have l:Γ.nb=0:=m.nb;have k:Γ.nr=0:=m.nr;rintro(⟨i,f,_⟩|⟨r,d,_⟩)
 .rw[l]at f;exact absurd f (wK _)
 .rw[k]at d;exact absurd d (wK _)
theorem qyd{P:Program}{b:Tb}{m:Nat}(h:ym P (b.at m).pc.cfg){f:Nat}(a:b.has f=true):qS P f (Jm (jq (b.at m) f)):=by
 refine h.prim f _ ?_;show PC.prim _ f=_;unfold PC.prim
 have:(b.at m).pc.pf f=some (jq (b.at m) f):=by
  show(match(b.at m).has f with|true=>some (jq (b.at m) f)|false=>none)=_;rw[show(b.at m).has f=true from a]
 rw[this]
def Jj{α:Type}(F:α->α->Option Int)(l:List α)(i j:Nat):Int:=match l[i%l.length]?,l[j%l.length]? with
 |some x,some y=>(F x y).getD 0
 |_,_=>0
def qcq{α a:Type}(F:α->α->Option a)(l:List α):Bool:=l.all λ x=>l.all λ y=>(F x y).isSome
def quw(n:Nat)(lt:Nat->Nat->Bool):Bool:=(List.range n).all λ i => !lt i i&&(List.range n).all λ j=>(List.range n).all λ k=>(!(lt i j&&lt j k)||lt i k)&&(lt i j||(lt j k || !lt i k))
def qaK{α:Type}(F:α->α->Option Int)(l:List α):List Nat:=(Sort.pdq (ltOf (Jj F l)) (Array.range l.length) 0 l.length (Lib.bitLen l.length) true true).toList
def pick{α:Type}(l:List α)(a:List Nat):List α:=a.filterMap λ i=>l[i]?
def qo4{α:Type}(F:α->α->Option Int):List α->Option (List α)
 |[]=>some []
 |x::l=>cond (Nat.ble (x::l).length 100000&&(qcq F (x::l)&&quw (x::l).length (ltOf (Jj F (x::l))))) (some (pick (x::l) (qaK F (x::l)))) none
theorem qKm{α:Type}(F:α->α->Option Int)(l:List α)(i j:Nat):Jj F l i j=Jj F l (i%l.length) (j%l.length):=by
 unfold Jj;rw[Nat.mod_mod,Nat.mod_mod]
theorem qOz{n:Nat}{lt:Nat->Nat->Bool}(l:0<n)(e:∀i j,lt i j=lt (i%n) (j%n))(h:quw n lt=true):SWO lt:=by
 have b:∀i j k,lt i i=false/\(lt i j=true->lt j k=true->lt i k=true)/\(lt i j=false->lt j k=false->lt i k=false):=by
  intro i j k;have a:∀i,i%n∈List.range n:=λ i=>kP.2 (xW _ l);have d:=wo.1 h _ (a i);rw[wb]at d;have c:=wo.1 (wo.1 d.2 _ (a j)) _ (a k);rw[wb]at c;rw[e i i,e i j,e j k,e i k];let⟨d,_⟩:=d;let⟨c,g⟩:=c;refine⟨by simpa using d,λ e1 f=>?_,λ e1 f=>?_⟩
  .rw[e1,f]at c;simpa using c
  .rw[e1,f]at g;simpa using g
 exact⟨λ i=>(b i i i).1,λ i j k=>(b i j k).2.1,λ i j k=>(b i j k).2.2⟩
theorem qte{α:Type}{l:List α}:∀{a:List Nat},(∀i∈a,i<l.length)->∀(q:Nat),(pick l a)[q]?=(a[q]?).bind λ i=>l[i]?
 |[],_,q=>by simp[pick]
 |i::a,h,q=>by
   have b:=h i (wi ..)
   have e:pick l (i::a)=l[i]::pick l a:=by
    unfold pick;rw[vt,List.getElem?_eq_getElem b]
   rw[e];cases q with
   |zero=>simp[List.getElem?_eq_getElem b]
   |succ q=>simpa using qte (λ j c=>h j (wg _ c)) q
theorem qo3{α:Type}{l:List α}{a:List Nat}(h:∀i∈a,i<l.length):(pick l a).length=a.length:=by
 induction a with
 |nil=>rfl
 |cons i a b=>
   have d:=h i (wi ..)
   have e:pick l (i::a)=l[i]::pick l a:=by
    unfold pick;rw[vt,List.getElem?_eq_getElem d]
   rw[e,wx,wx,b λ j c=>h j (wg _ c)]
theorem qsX{α : Type}(F : α -> α -> Option Int)(l:List α)(h:SWO (ltOf (Jj F l))):(qaK F l).Perm (List.range l.length)/\SortedIn (ltOf (Jj F l)) 0 l.length (qaK F l).toArray:=by
 have hp:=pdq_sorts (ltOf (Jj F l)) h (Array.range l.length) 0 l.length (Lib.bitLen l.length) true true (we _) (by simp) (Or.inl rfl);obtain⟨⟨h1,_,h3⟩,h4⟩:=hp;have hsz:(Array.range l.length).size=l.length:=vN;have hs':(Sort.pdq (ltOf (Jj F l)) (Array.range l.length) 0 l.length (Lib.bitLen l.length) true true).size=l.length:=h1.trans hsz;have e2:∀ a:Array Nat,a.size=l.length->a.extract 0 l.length=a := λ a ha=>by rw[<- ha];exact Array.extract_size
 rw[e2 _ hs',e2 _ hsz]at h3;refine⟨?_,h4⟩;rw[Array.toList_range]at h3;exact h3
theorem qEp{σ:St}{g:Nat}{r:List SA}{nb c:Nat}{ys:List AV}{a:QC (.clo g 0::r)}(h:dS σ (.clo g 0::r) nb c ys=some a):∃b,ys=.fn g []::b/\dS σ r nb c b=some a:=by
 cases ys with
 |nil=>simp[dS]at h
 |cons y ys=>
   simp only[dS]at h;split at h
   .rename_i cs d;obtain⟨rfl,e⟩:=qFz d;obtain rfl:=wh e;exact⟨ys,rfl,h⟩
   .cases h
end Go.AmZ
namespace Go.AmZ
open Go Go.RowKit Go.GxZ Go.Sort Go.Proofs Go.Shelf
structure qLg (w0:World) (blk:Nat) (et:TypeId) (vs:Array Value) (W:World):Prop where
 hb:W.heap[blk]?=some (.cells vs et (0,0))
 os:W.os=w0.os
 tape:W.tape=w0.tape
 output:W.output=w0.output
 size:w0.heap.size<=W.heap.size
 other:∀b,b<w0.heap.size->b≠blk->W.heap[b]?=w0.heap[b]?
 drawn:w0.drawn<=W.drawn
theorem qLg.refl{w:World}{a:Nat}{b:TypeId}{vs:Array Value}(h:w.heap[a]?=some (.cells vs b (0,0))):qLg w a b vs w:=⟨h,rfl,rfl,rfl,wa _,λ _ _ _=>rfl,wa _⟩
theorem sort_blks{w:World}{blk:Nat}{et:TypeId}{vs:Array Value}(hb:w.heap[blk]?=some (.cells vs et (0,0))){α : Type}[Inhabited α](enc : α -> List Value)(k m:Nat)(dk:Array α)(os:Array Obj) :
  qLg w blk et (putCells id 0 (flatK enc k dk) vs) (sortWorldK enc k w blk 0 m dk os):=by
 have hlt:blk<w.heap.size:=(Array.getElem?_eq_some_iff.1 hb).1;have hh:(sortWorldK enc k w blk 0 m dk os).heap=w.heap.modify blk (onCells (putCells id 0 (flatK enc k dk)))++os:=rfl;refine⟨?_,rfl,rfl,rfl,?_,λ b hb' hn=>?_,kJ _ _⟩
 ·rw[hh,Array.getElem?_append_left (by simpa using hlt),Array.getElem?_modify,if_pos rfl,hb];rfl
 ·rw[hh,xE,Array.size_modify];exact kJ _ _
 ·rw[hh,Array.getElem?_append_left (by simpa using hb'),Array.getElem?_modify,if_neg (xU hn)]
theorem qKH.grow{W w':World}(h:qKH W w'):∃q a,w'=Sort.grow (W.drewN q) a:=by
 refine⟨w'.drawn-W.drawn,w'.heap.extract W.heap.size w'.heap.size,?_⟩
 have c:w'.heap=W.heap++w'.heap.extract W.heap.size w'.heap.size:=by
  apply Array.ext_getElem?;intro i;by_cases b:i<W.heap.size
  .rw[Array.getElem?_append_left b];exact h.block i b
  .rw[Array.getElem?_append_right (by omega),Array.getElem?_extract];split
   .congr 1;omega
   .rw[Array.getElem?_eq_none (by omega)]
 have d:W.drawn+(w'.drawn-W.drawn)=w'.drawn:=Nat.add_sub_cancel' h.drawn;let⟨g,f,e,_,_,_⟩:=h;cases w';cases W;simp only[Sort.grow,World.drewN]at *;rw[<-c,d,g,f,e]
def qbU(vs:Array Value)(k p:Nat):List Value:=(vs.toList.drop (p*k)).take k
theorem qpw{vs:Array Value}{k p j:Nat}(a:j<k):(qbU vs k p)[j]?=vs[p*k+j]?:=by
 unfold qbU;rw[List.getElem?_take,if_pos a,List.getElem?_drop,Array.getElem?_toList]
theorem qtb{vs:Array Value}{k p n:Nat}(a:p<n)(b:n*k<=vs.size):(qbU vs k p).length=k:=by
 unfold qbU;have:(p+1)*k<=n*k:=wu _ a;rw[kU]at this;rw[wm,wW,wM];omega
theorem qCE{Γ:Gh}{τ:Ty}{c:List (List AV)}{l:List (Val τ)}{vs:Array Value}{n:Nat}(v:c.length=n)(B:∀e∈c,e.length=τ.size)(w:zg (qD τ) c=some l)(C:yI Γ τ.size c (vs.toList.take (n*τ.size)))(A:n*τ.size<=vs.size)
  {p:Nat}{x:Val τ} (t:l[p]?=some x):RepL Γ (qd τ x) (qbU vs τ.size p)/\∀u∈qbU vs τ.size p,u.oneCell'=true:=by
 have o:l.length=n:=(zd w).symm.trans v;have h:p<n:=by rw[<-o];exact getElem?_lt t
 have b:p<c.length:=by rw[v];exact h
 let⟨x',g,r⟩:=JN w (List.getElem?_eq_getElem b);rw[t]at g;cases g;have f:=B _ (wV b);have a:=qtb (k:=τ.size) h A
 have get:∀j,j<τ.size->∃u,(qbU vs τ.size p)[j]?=some u/\Rep Γ (c[p][j]?.getD .dead) u/\u.oneCell'=true:=by
  intro j d;have i:j<c[p].length:=by rw[f];exact d
  let⟨u,u1,u2,u3⟩:=C p c[p] j _ (List.getElem?_eq_getElem b) (List.getElem?_eq_getElem i);refine⟨u,?_,?_,u3⟩
  .rw[qpw d,<-Array.getElem?_toList];rw[List.getElem?_take]at u1;split at u1
   .exact u1
   .cases u1
  .rw[List.getElem?_eq_getElem i];exact u2
 constructor
 .refine(qkk r).rep ⟨by rw[a,f],λ j y u s m=>?_⟩;have d:j<τ.size:=by rw[<-f];exact getElem?_lt s
  let⟨z,u1,u2,_⟩:=get j d;rw[m]at u1;cases u1;rw[s]at u2;exact u2
 .intro u m;let⟨j,d⟩:=List.getElem?_of_mem m;have q:j<τ.size:=by rw[<-a];exact getElem?_lt d
  let⟨z,u1,_,u3⟩:=get j q;rw[d]at u1;cases u1;exact u3
theorem qps(j k n:Nat)(h:j<n*k):j/k<n/\j/k*k+j%k=j/\j%k<k:=by
 have b:0<k:=by
  obtain a|a:=vy k
  .rw[a,Nat.mul_zero]at h;exact absurd h (wK _)
  .exact a
 refine⟨(xZ b).2 h,?_,xW _ b⟩;rw[xO];exact vw j k
set_option maxHeartbeats 1000000 in
theorem qzs{P:Program}{ρ : Ren}(L:SlLaysF0.n6 P ρ){τ : Ty}{g:FuncId}(hag:∀ v,yH τ v = .agg (qd τ v))(aE:∀ w,(isAgg (ρ.t 24)).run P w = .ok true w)(zE:∀ w,(Go.sizeOf (ρ.t 24)).run P w = .ok τ.size w)
  {F:Val τ -> Val τ -> Option Int} (hF:Fn2 P g τ (λ c:Int => .int .i64 c) F) (hf:qf2 P (ρ.f 6)) {fn:List (Val τ)->Option (List (Val τ))} (hfn:∀ l r,fn l=some r->qo4 F l=some r) (hk1' : τ.size≠1:=by first | assumption | decide) :
  qS P (ρ.f 6) (mgP ⟨τ,[.clo g 0],λ x=>fn x.1⟩):=by
 refine⟨hf,λ Γ σ w args vals r hi hr hp=>?_⟩;unfold mgP at hp;split at hp
 case h_2=>cases hp
 rename_i x hx;split at hp
 case h_2=>cases hp
 rename_i v hv;split at hp
 case h_2=>cases hp
 rename_i hlen;obtain⟨l,_⟩:=x;have hv:=hfn _ _ hv;have hlen:v.length=l.length:=wn hlen;obtain⟨y0,ys0,nr,rfl,hy0,hx1⟩:=qvQ hx;obtain⟨ys1,rfl,hx2⟩:=qEp (g:=g) (r:=[]) hx1;obtain⟨rfl,hbx,hrw⟩:=qk6 hx2;clear hx hx1 hx2;obtain⟨u0,r0,rfl,hu0,hr⟩:=hr.uncons;obtain⟨u1,r1,rfl,hu1,hr⟩:=hr.uncons;have:=hr.nil_inv;subst this
 have hu1:u1 = .func (.func g) #[] #[]:=by
  cases hu1 with
  | fn _ _ us hn _=>obtain rfl:=wh hn;rfl
 subst hu1;have hb0 : σ.bx=[]:=wh hbx.symm;have none0:∀(p:Option Addr) (cap:Nat),Calls P (ρ.f 6) #[.slice p 0 cap,.func (.func g) #[] #[]] w λ e w'=>e = .returned (.tuple #[])/\w'=w := λ p cap=>AnyF.slices_SortFunc_none L p cap _ w;have tup:∀ Γ,Rep Γ (.tup []) (.tuple #[]) := λ Γ => .tup [] [] rfl (λ i x u h=>by cases h);rcases qgR hy0 with⟨hnr,R,rfl,hR,hRk,hRf,hRd⟩ | ⟨hnr,hl0,hy⟩
 ·have hrw1 : σ.rw=[R]:=by
    rw[hnr]at hrw
    match hq : σ.rw,hrw with
    | [Q],_=>rw[hq]at hR;cases hR;rfl
  rw[hb0,hrw1]at hp;cases hp;have H:=hi.row 0 R hR;have hcl:R.c.length=l.length:=zd hRd;have hlk:∀ e∈R.c,e.length = τ.size := λ e he=>(H.len e he).trans hRk
  have qn0:qL { σ with wr:=[],wrr:=[] } ⟨[],[⟨R.k,v.map (qd τ),R.ver,R.fz,R.off⟩],[],[0]⟩ :=
   ⟨by show σ.bx.length<=0;rw[hb0];exact wa _,by show σ.rw.length<=1;rw[hrw1];exact wa _,λ i hi _=>(by have hi:i < σ.bx.length:=hi;rw[hb0]at hi;exact absurd hi (wK _)),λ i hi hn=>(by
    have hi:i < σ.rw.length:=hi;rw[hrw1]at hi;have hi:i<1:=hi;obtain rfl:i=0:=by omega
    exact absurd (wF.2 rfl) hn),λ i h=>(by cases h),λ i h=>(by cases h)⟩
  obtain⟨p,cap,rfl,hcap,hrm⟩:=qxH hi hR hRk hRf hu0;by_cases hl0:l=[]
  ·subst hl0;have hc0:R.c=[]:=wh hcl;have hv0:v=[]:=wh hlen;subst hv0;rw[hcl];refine(none0 p cap).mono ?_;rintro e w' ⟨rfl,rfl⟩;refine⟨_,Γ,rfl,.refl _ _,?_,tup _,qn0⟩
   have:(⟨[],[⟨R.k,([]:List (Val τ)).map (qd τ),R.ver,R.fz,R.off⟩],[],[0]⟩:St)=⟨[],[R],[],[0]⟩:=by
    show(⟨[],[⟨R.k,[],R.ver,R.fz,R.off⟩],[],[0]⟩:St)=_;rw[<- hc0]
   show Inv Γ ⟨[],[⟨R.k,([]:List (Val τ)).map (qd τ),R.ver,R.fz,R.off⟩],[],[0]⟩ w';rw[this];exact hi.wr hb0.symm hrw1.symm
  ·have hlpos:0<l.length:=xm.2 hl0;rcases hrm with h0 | ⟨rfl,hz,vs,et,hvs,hvsz,hfit,hca,hxl,h1⟩
   ·omega
   obtain⟨n,hn⟩:∃ n,n=l.length:=⟨_,rfl⟩
   have hnc:R.c.length=n:=hcl.trans hn.symm;rw[hnc]at hca hxl h1 hcap |-
   have hns:n * τ.size<=vs.size:=wD (wu _ hcap) hfit;have hsz0:0 < τ.size:=waK τ
   have hv':Nat.ble l.length 100000=true/\qcq F l=true/\quw l.length (ltOf (Jj F l))=true/\v=pick l (qaK F l):=by
    cases l with
    | nil=>exact absurd rfl hl0
    | cons y l =>
      have hv:cond _ _ _=some v:=hv;cases hb:(Nat.ble (y::l).length 100000&&(qcq F (y::l)&&quw (y::l).length (ltOf (Jj F (y::l)))))with
      | false=>unfold qo4 at hv;rw[hb]at hv;cases hv
      | true =>
        have hb':=hb;simp only[wb]at hb';unfold qo4 at hv;rw[hb]at hv;cases hv;exact⟨hb'.1,hb'.2.1,hb'.2.2,rfl⟩
   obtain⟨v1,v2,v3,v4⟩:=hv';have v1:l.length<=100000:=kC v1;have hO:SWO (ltOf (Jj F l)):=qOz hlpos (λ i j=>by unfold ltOf;rw[qKm]) v3;obtain⟨hperm,_⟩:=qsX F l hO;have hixlt:∀ i∈qaK F l,i<l.length := λ i hi=>kP.1 (hperm.mem_iff.1 hi);have hixlen:(qaK F l).length=l.length:=by rw[hperm.length_eq,xF]
   have hER:∀{q:Nat} {y:Val τ},l[q]?=some y->RepL Γ (qd τ y) (qbU vs τ.size q)/\∀ u∈qbU vs τ.size q,u.oneCell'=true := λ hq=>qCE hnc hlk hRd hca hns hq;have hlast:∀ i,i % n<n := λ i=>xW _ (by omega);obtain⟨enc,henc⟩:∃ enc:Nat->List Value,enc = λ i=>qbU vs τ.size (i % n):=⟨_,rfl⟩
   have hek:∀ i,(enc i).length = τ.size := λ i=>by rw[henc];exact qtb (hlast i) hns
   have hlget:∀ i,∃ y,l[i % n]?=some y := λ i=>⟨_,List.getElem?_eq_getElem (by rw[<- hn];exact hlast i)⟩
   have he1:∀ i,∀ u∈enc i,u.oneCell'=true := λ i u hu=>by
    rw[henc]at hu;obtain⟨y,hy⟩:=hlget i;exact(hER hy).2 u hu
   have hrange:(Array.range n).size=n:=vN;have hvsb:w.heap[Γ.cur 0]?=some (.cells vs et (0,0)):=hvs;have hblk : Γ.cur 0<w.heap.size:=(Array.getElem?_eq_some_iff.1 hvsb).1;have hmem0:∀ off,Γ.mem (Γ.cur 0) off=none := λ off=>H.un hz off (by rw[hRf.1,kI,H.off hRf.2];exact we _)
   have hH:HoldsK enc τ.size w (Γ.cur 0) 0 (Array.range n):=by
    intro j hj;rw[size_flatK,hrange]at hj;obtain⟨q1,q2,q3⟩:=qps j τ.size n hj;have hjs:j<vs.size:=wC hj hns;constructor
    ·rw[get_flatK _ _ _ _ (by rw[hrange];exact hj)];have e1:(Array.range n)[j / τ.size]! = j / τ.size:=by rw[getElem!_pos _ _ (by rw[hrange];exact q1)];simp
     rw[e1,henc];show _=some ((qbU vs τ.size (j / τ.size % n))[j % τ.size]!);rw[xQ q1];have e2:(qbU vs τ.size (j / τ.size))[j % τ.size]?=some vs[j]:=by rw[qpw q3,q2];exact Array.getElem?_eq_getElem hjs
     rw[wE,Blk.cell hvs,List.getElem!_eq_getElem?_getD,e2,Array.getElem?_eq_getElem hjs];rfl
    ·exact Blk.free hvs _
   have hcmp:CmpLays P g #[] enc τ.size (Jj F l) (Γ.cur 0) 0 (Array.range n).size w:=by
    intro m os dk hdk x y;have B:=sort_blks hvsb enc τ.size m dk os;obtain⟨W,hW⟩:∃ W,W=sortWorldK enc τ.size w (Γ.cur 0) 0 m dk os:=⟨_,rfl⟩
    rw[<- hW]at B |-
    have hiW:Inv (bare Γ) emp W:=hi.bare λ b o u e=>by
     have hne:b ≠ Γ.cur 0 := λ hb=>by rw[hb,hmem0]at e;cases e
     have hc:=(hi.mem b o u e).1;have hblt:=hi.mem_lt e;rw[show W.cell? _=w.cell? _ from World.cell?_of_block (B.other b hblt hne)];exact hc
    have rep:∀(i:Nat) (y:Val τ),l[i % n]?=some y->Rep (bare Γ) (yH τ y) (.agg (enc i).toArray) := λ i y hy=>by
     obtain⟨q1,q2⟩:=hER hy;rw[hag];have:enc i=qbU vs τ.size (i % n):=by rw[henc]
     rw[this];refine .agg _ _ q1.len q2 λ j z u a b=>(q1.rep j z u a b).bare (zo τ y z (wc a))
    obtain⟨lx,hx⟩:=hlget x;obtain⟨ly,hy⟩:=hlget y;have hsome:=wo.1 (wo.1 v2 lx (wc hx)) ly (wc hy);obtain⟨c,hc⟩:=wai.1 hsome
    have hcf:Jj F l x y=c:=by
     unfold Jj;rw[<- hn,hx,hy];simp only;rw[hc];rfl
    rw[hcf];have hcall:=hF.2 hiW (rep x lx hx) (rep y ly hy) hc;refine Calls.mono (by simpa using hcall) ?_;rintro e w' ⟨rfl,hid⟩;exact⟨rfl,hid.grow⟩
   have hcall:=AnyQ.slices_SortFunc_eq L τ.size aE zE enc hek he1 (Jj F l) hO g #[] (Γ.cur 0) 0 cap (Array.range n) w (λ args w=>qic hF.1 args w) hcmp hH hblk (by rw[hrange];omega);rw[hrange]at hcall;refine Calls.mono hcall ?_;rintro e w' ⟨rfl,m,os,hw'⟩;have B:=sort_blks hvsb enc τ.size m (pdq (ltOf (Jj F l)) (Array.range n) 0 n (Lib.bitLen n) true true) os;rw[<- hw']at B;have hix:qaK F l=(pdq (ltOf (Jj F l)) (Array.range n) 0 n (Lib.bitLen n) true true).toList:=by unfold qaK;rw[hn]
   obtain⟨dk,hdk⟩:∃ dk,dk=pdq (ltOf (Jj F l)) (Array.range n) 0 n (Lib.bitLen n) true true:=⟨_,rfl⟩
   rw[<- hdk]at B hix;have hdks:dk.size=n:=by rw[<- wM,<- hix,hixlen,hn]
   have hvlen:(v.map (qd τ)).length=n:=by rw[wB,hlen,hn]
   have hflat:(flatK enc τ.size dk).size=n * τ.size:=by rw[size_flatK,hdks]
   have hpsz:(putCells id 0 (flatK enc τ.size dk) vs).size=vs.size:=by unfold putCells;rw[wab]
   obtain⟨Γ',x1,x2,_⟩:=qtv hi hR (H.off hRf.2) (R':=⟨R.k,v.map (qd τ),R.ver,R.fz,R.off⟩) (by rw[hRf.1];exact we _) rfl (g := Γ.cur 0) (vs:=putCells id 0 (flatK enc τ.size dk) vs) (e:=et) (.inr ⟨rfl,rfl,hpsz.trans hvsz⟩)
    (λ e he=>by obtain⟨y,_,rfl⟩:=wA.1 he;rw[ye,hRk]) (λ e he=>by obtain⟨y,_,rfl⟩:=wA.1 he;exact zo τ y) (by show R.fz<=_;rw[hRf.1];exact we _) (qAC _) (λ _=>rfl) B.hb
    (by show(v.map (qd τ)).length*R.k<=_;rw[hvlen,hRk,hpsz];exact hns)
    (λ off _=>hmem0 off)
    (λ i e j x he hx=>by
     have he:(v.map (qd τ))[i]?=some e:=he;have hin:i<n:=by rw[<- hvlen];exact getElem?_lt he
     rw[List.getElem?_map,v4,qte hixlt]at he;have hixi:(qaK F l)[i]?=some dk[i]:=by rw[hix,Array.getElem?_toList];exact Array.getElem?_eq_getElem (by omega)
     rw[hixi]at he
     obtain⟨y,hy,rfl⟩:∃ y,l[dk[i]]?=some y/\qd τ y=e:=by
      cases hq:l[dk[i]]? with
      | none=>simp[hq]at he
      | some y=>simp[hq]at he;exact⟨y,rfl,he⟩
     have hdl:dk[i]<n:=wC (getElem?_lt hy) (vC hn.symm);obtain⟨q1,q2⟩:=hER hy;have hj:j < τ.size:=by rw[<- ye τ y];exact getElem?_lt hx
     obtain⟨u,hu,hrep⟩:=q1.get hx;refine⟨u,?_,hrep,q2 u (wc hu)⟩;rw[hRk]
     have hlt:i * τ.size+j<n * τ.size:=by
      have:(i+1) * τ.size<=n * τ.size:=wu _ hin;rw[kU]at this;omega
     unfold putCells;rw[Array.getElem?_mapIdx,Array.getElem?_eq_getElem (wC hlt hns),kO,if_pos ⟨we _,by rw[hflat,wE];exact hlt⟩,Nat.sub_zero,id,get_flatK _ _ _ _ (by rw[hdks];exact hlt)];have e1:(i * τ.size+j) / τ.size=i:=by rw[xO,Nat.mul_add_div hsz0,Nat.div_eq_of_lt hj,wQ]
     have e2:(i * τ.size+j) % τ.size=j:=by rw[xO,Nat.mul_add_mod,xQ hj]
     rw[e1,e2,getElem!_pos dk i (by omega),henc];show some ((qbU vs τ.size (dk[i] % n))[j]!)=_;rw[xQ hdl,List.getElem!_eq_getElem?_getD,hu];rfl)
    (λ b o u hm=>by
     have hne:b ≠ Γ.cur 0 := λ hb=>by rw[hb,hmem0]at hm;cases hm
     rw[show w'.cell? _=w.cell? _ from World.cell?_of_block (B.other b (hi.mem_lt hm) hne)];exact(hi.mem b o u hm).1)
    (λ b hb hor=>B.other b hb (hor.elim id λ h0=>absurd h0 hz)) (.inl ⟨rfl,hz⟩) B.os B.tape B.output B.size B.drawn [0]
   refine⟨_,Γ',rfl,x1,?_,tup _,qn0⟩;refine x2.wr ?_ ?_
   ·exact hb0.symm
   ·show[(⟨R.k,v.map (qd τ),R.ver,R.fz,R.off⟩:Row)] = σ.rw.set 0 _;rw[hrw1];rfl
 ·have hrw0 : σ.rw=[]:=by rw[hnr]at hrw;exact wh hrw.symm
  rw[hb0,hrw0]at hp;cases hp
  have hfin:∀(p:Option Addr) (cap:Nat),Ja P Γ σ w (ρ.f 6) [.slice p 0 cap,.func (.func g) #[] #[]] (.tup [],none) := λ p cap=>by
   refine(none0 p cap).mono ?_;rintro e w' ⟨rfl,rfl⟩;exact⟨_,Γ,rfl,.refl _ _,hi,tup _,.refl _⟩
  rcases hy with rfl | ⟨f,rfl,hf2⟩
  ·have hu0:=zp hu0;subst hu0;exact hfin none 0
  ·cases hu0 with
   | sl _ _ _ a n cap b o us hn _ _ _ _ _ _ _ _ =>
     have hn:n=0:=hn;subst hn;exact hfin a cap
end Go.AmZ
namespace Go.Proofs.YtinbdcelmgfniaaGreatDoor
open Go Go.RowKit Go.GxZ Go.Sort Go.Proofs Go.Shelf Go.Lib
def zJ(a:Nat->Nat->Bool)(n:Nat):List Nat:=(List.range n).filter λ i=>decide (i=0) || !a i (i-1)
theorem qD5{a:Nat->Nat->Bool}{n:Nat}(h:a n (n-1)=false):zJ a (n+1)=zJ a n++[n]:=by
 unfold zJ;rw[List.range_succ,vD];simp[h]
theorem qs7{a:Nat->Nat->Bool}{n:Nat}(b:0<n)(h:a n (n-1)=true):zJ a (n+1)=zJ a n:=by
 unfold zJ;rw[List.range_succ,vD];have:¬ n=0:=by omega
 simp[h,this]
theorem qvk{b:Nat->Nat->Bool}{n:Nat}(h:∀i,1<=i->i<n->b i (i-1)=false):zJ b n=List.range n:=by
 unfold zJ;rw[List.filter_eq_self];intro i a;have a:=kP.1 a;by_cases c:i=0
 .simp[c]
 .rw[h i (by omega) a];simp
theorem qDR{α:Type}[Inhabited α](enc:α->List Value)(k:Nat)(g:∀x,(enc x).length=k)(d:Array α)(i:Nat)(x:α)(h:i<d.size):setMany (flatK enc k d) (i*k) (enc x)=flatK enc k (d.setIfInBounds i x):=by
 refine ext_get! (by simp) λ t a=>?_;rw[size_setMany,size_flatK]at a;rw[get_setMany _ _ _ _ (by rw[size_flatK];exact a),g,get_flatK _ _ _ _ a,get_flatK _ _ _ _ (by simpa using a)]
 have b:0<k:=by
  obtain f|f:=vy k
  .rw[f,Nat.mul_zero]at a;exact absurd a (wK _)
  .exact f
 by_cases c:i*k<=t/\t<i*k+k
 .rw[if_pos c];have e:=(blk_iff k i t b).1 c;rw[e,getElem!_set_same d i x h];congr 1;have:=vw t k;rw[e]at this;have l:k*i=i*k:=xO _ _;omega
 .rw[if_neg c,getElem!_set_other d i _ x λ j=>c ((blk_iff k i t b).2 j)]
theorem qL0{α : Type}[Inhabited α]{w:World}{enc : α -> List Value}{k blk:Nat}(hk:∀ x,(enc x).length=k)(m:Nat)(dk:Array α)(os:Array Obj)(hblk:blk<w.heap.size)(i:Nat)(x : α)(hi:i<dk.size) :
  (sortWorldK enc k w blk 0 m dk os).setCells blk (i*k) (enc x)=sortWorldK enc k w blk 0 m (dk.setIfInBounds i x) os:=by
 have hb:i*k+(enc x).length<=(flatK enc k dk).size:=by
  rw[hk,size_flatK];have:=wu k (show i+1<=dk.size from hi)
  rwa [kU]at this
 unfold sortWorldK;rw[setCells_grow os blk _ _ _ (by rw[size_putRowK];exact hblk)];congr 1;unfold putRowK;have:=setCells_putRow (Sort.ahead w m) blk 0 (enc x) (i*k) (flatK enc k dk) hb;rw[wE]at this;rw[this,qDR enc k hk dk i x hi]
variable {P:Program}
set_option maxHeartbeats 4000000 in
set_option maxRecDepth 1000000 in
theorem qIw(i:P.funcs[140]?=some Tryz.f140)(a:P.follows .mixedOrders=true)
  (t0:P.underlying 0=some (TypeDesc.tuple #[])) (y:∀w,(isAgg 0).run P w=.ok false w) (o:∀w,(Go.sizeOf 0).run P w=.ok 1 w) (s:∀w,(zeroValue 0).run P w=.ok (Value.tuple #[]) w)
  (u:P.underlying 3=some (TypeDesc.int IntKind.i64)) (x:∀w,(isAgg 3).run P w=.ok false w) (n:∀w,(Go.sizeOf 3).run P w=.ok 1 w) (r:∀w,(zeroValue 3).run P w=.ok (Value.int IntKind.i64 0) w)
  (t:P.underlying 4=some (TypeDesc.bool)) (v:∀w,(isAgg 4).run P w=.ok false w) (m:∀w,(Go.sizeOf 4).run P w=.ok 1 w) (q:∀w,(zeroValue 4).run P w=.ok (Value.bool false) w)
  (h:P.underlying 23=some (TypeDesc.slice 25)) (l:∀w,(isAgg 23).run P w=.ok false w) (c:∀w,(Go.sizeOf 23).run P w=.ok 1 w) (f:∀w,(zeroValue 23).run P w=.ok (Value.slice none 0 0) w)
  (g:P.underlying 29=some (TypeDesc.func #[25,25] #[4] false)) (k:∀w,(isAgg 29).run P w=.ok false w) (b:∀w,(Go.sizeOf 29).run P w=.ok 1 w) (d:∀w,(zeroValue 29).run P w=.ok (Value.nilFunc) w)
  (p:Option Addr) (cap:Nat) (j:Value) (w:World):
  Calls P 140 #[.slice p 0 cap,j] w λ e w'=>e=.returned (.slice p 0 cap)/\w'=w:=by
 go_enter i,Tryz.ntmps140
 go_wp2
 go_ret
 exact⟨rfl,rfl⟩
set_option maxHeartbeats 4000000 in
set_option maxRecDepth 1000000 in
theorem qJb(hF:P.funcs[140]?=some Tryz.f140)(mixed:P.follows .mixedOrders=true)
  (t0:P.underlying 0=some (TypeDesc.tuple #[])) (a0:∀ w,(isAgg 0).run P w = .ok false w) (z0:∀ w,(Go.sizeOf 0).run P w = .ok 1 w) (v0:∀ w,(zeroValue 0).run P w = .ok (Value.tuple #[]) w)
  (t3:P.underlying 3=some (TypeDesc.int IntKind.i64)) (a3:∀ w,(isAgg 3).run P w = .ok false w) (z3:∀ w,(Go.sizeOf 3).run P w = .ok 1 w) (v3:∀ w,(zeroValue 3).run P w = .ok (Value.int IntKind.i64 0) w)
  (t4:P.underlying 4=some (TypeDesc.bool)) (a4:∀ w,(isAgg 4).run P w = .ok false w) (z4:∀ w,(Go.sizeOf 4).run P w = .ok 1 w) (v4:∀ w,(zeroValue 4).run P w = .ok (Value.bool false) w)
  (t22:P.underlying 23=some (TypeDesc.slice 25)) (a22:∀ w,(isAgg 23).run P w = .ok false w) (z22:∀ w,(Go.sizeOf 23).run P w = .ok 1 w) (v22:∀ w,(zeroValue 23).run P w = .ok (Value.slice none 0 0) w)
  (t36:P.underlying 29=some (TypeDesc.func #[25,25] #[4] false)) (a36:∀ w,(isAgg 29).run P w = .ok false w) (z36:∀ w,(Go.sizeOf 29).run P w = .ok 1 w) (v36:∀ w,(zeroValue 29).run P w = .ok (Value.nilFunc) w)
  (k:Nat) (hk0:0<k) (aE:∀ w,(isAgg 25).run P w = .ok true w) (zE:∀ w,(Go.sizeOf 25).run P w = .ok k w) (zv:Value) (vE:∀ w,(zeroValue 25).run P w = .ok zv w) (hzk:zv.cells.size=k) (hz1:∀ n,∀ v∈(Builtin.zeroCells zv.cells n).toList,v.oneCell'=true)
  (w:World) (blk n cap:Nat) (et:TypeId) (vs:Array Value) (q:Nat) (hbk:w.heap[blk]?=some (.cells vs et (0,0))) (hcs:cap*k<=vs.size) (hnc:n<=cap) (hn:n<=100000) (h0n:0<n)
  (enc:Nat->List Value) (hk:∀ x,(enc x).length=k) (h1:∀ x,∀ v∈enc x,v.oneCell'=true) (hH:HoldsK enc k w blk 0 (Array.range n))
  (eg:∀ args w,(callFunc q args).run P w = .ok (.enter q args) w) (ef:Nat->Nat->Bool)
  (heq:∀(m:Nat) (os:Array Obj) (dk:Array Nat),dk.size=n->∀ x y,Calls P q #[.agg (enc x).toArray,.agg (enc y).toArray] (sortWorldK enc k w blk 0 m dk os) λ e w'=>e = .returned (.bool (ef x y))/\∃ q' os',w'=grow ((sortWorldK enc k w blk 0 m dk os).drewN q') os') :
  Calls P 140 #[.slice (some ⟨blk,0,none⟩) n cap,.func (.func q) #[] #[]] w λ e w'=>e = .returned (.slice (some ⟨blk,0,none⟩) (zJ ef n).length cap) /\
   ∃(dk:Array Nat) (m:Nat) (os:Array Obj) (new:List Value),dk.size=n/\dk.toList.take (zJ ef n).length=zJ ef n/\(w'=sortWorldK enc k w blk 0 m dk os\/(new.take ((zJ ef n).length*k)=(putCells id 0 (flatK enc k dk) vs).toList.take ((zJ ef n).length*k)/\new.length=vs.size/\w'=(sortWorldK enc k w blk 0 m dk os).setRow blk new.toArray)):=by
 have u22:=run_underlying t22;have hblk:blk<w.heap.size:=(Array.getElem?_eq_some_iff.1 hbk).1;have hrs:(Array.range n).size=n:=vN;have HC:Aside _:=heq;have HST:Hid (w=sortWorldK enc k w blk 0 0 (Array.range n) #[]):=by show w=_;unfold sortWorldK;rw[grow_empty];exact(putRowK_self enc k w blk 0 _ hH).symm
 have HH:Hid (HoldsK enc k w blk 0 (Array.range n)):=hH;have HK:Hid (∀ x,(enc x).length=k):=hk;have H1:Hid (∀ x,∀ v∈enc x,v.oneCell'=true):=h1;have HBK:Hid (w.heap[blk]?=some (.cells vs et (0,0))):=hbk;have HVE:Aside _:=vE;have HZ1:Aside _:=hz1;have HZK:=Lib.hid hzk;have HCS:=Lib.hid hcs;clear heq hH hk h1 hbk vE hz1 hzk hcs;have hnz:(n:Int)<=100000:=by omega
 by_cases hn2:n<2
 ·have hn1:n=1:=by omega
  subst hn1;have hci:zJ ef 1=[0]:=by unfold zJ;simp
  have HCI:=Lib.hid hci;clear hci
  go_enter hF,Tryz.ntmps140
  go_wp2
  go_ret
  rw[HCI.out];exact⟨rfl,Array.range 1,0,#[],[],hrs,by simp,.inl HST.out⟩
 ·have hn2z:¬ ((n:Int)<2):=by omega
  go_enter hF,Tryz.ntmps140
  go_wp2
  go_loopg [5] n (λ g1 vi wr=>∃(i m:Nat) (os:Array Obj),vi = .int .i64 i/\1<=i/\i<=n/\n-i<=g1/\wr=sortWorldK enc k w blk 0 m (Array.range n) os/\Hid (∀ j,1<=j->j<i->ef j (j-1)=false))
  case atStart=>exact⟨1,0,#[],rfl,wa _,by omega,by omega,HST.out,λ j h1 h2=>by omega⟩
  case round =>
   obtain⟨i,m,os,rfl,hi1,hin,hg1,rfl,HE⟩:=hrel;by_cases hlt:i<n
   ·have hltz:(i:Int)<(n:Int):=by omega
    obtain⟨ip,rfl⟩:∃ ip,i=ip+1:=⟨i-1,by omega⟩
    have hwp:IntKind.i64.wrap (ip:Int)=(ip:Int):=by rw[IntKind.wrap_i64];omega
    have jz1:(ip:Int)<(n:Int):=by omega
    have p0:(0:Int)<=(ip:Int)+1:=by omega
    have e0:((ip:Int)+1).toNat=ip+1:=by omega
    have r1:(Array.range n)[ip+1]! = ip+1:=by rw[getElem!_pos _ _ (by rw[hrs];exact hlt)];simp
    have r0:(Array.range n)[ip]! = ip:=by rw[getElem!_pos _ _ (by rw[hrs];omega)];simp
    have hcls:∀ n' os',grow ((sortWorldK enc k w blk 0 m (Array.range n) os).drewN n') os'=sortWorldK enc k w blk 0 (m+n') (Array.range n) (os++os') := λ n' os'=>sortWorldK_grown_c enc k w blk 0 m n' _ os os';have hHc:∀ n' os',HoldsK enc k (grow ((sortWorldK enc k w blk 0 m (Array.range n) os).drewN n') os') blk 0 (Array.range n) := λ n' os'=>by rw[hcls];exact holdsK_sortWorldK_c enc k w blk 0 _ _ _ _ HH.out hblk rfl
    have lj:∀ n' os',Sem.run P (loadCellsFrom ⟨blk,(ip+1)*k,none⟩ 0 k #[]) (grow ((sortWorldK enc k w blk 0 m (Array.range n) os).drewN n') os') = .ok (enc (ip+1)).toArray (grow ((sortWorldK enc k w blk 0 m (Array.range n) os).drewN n') os') := λ n' os'=>by
     have:=HoldsK.cells (hHc n' os') HK.out (i:=ip+1) (by rw[hrs];exact hlt);rw[r1,wE]at this;exact run_loadCellsFrom_list P _ _ _ k (HK.out _) this
    have lp:∀ n' os',Sem.run P (loadCellsFrom ⟨blk,ip*k,none⟩ 0 k #[]) (grow ((sortWorldK enc k w blk 0 m (Array.range n) os).drewN n') os') = .ok (enc ip).toArray (grow ((sortWorldK enc k w blk 0 m (Array.range n) os).drewN n') os') := λ n' os'=>by
     have:=HoldsK.cells (hHc n' os') HK.out (i:=ip) (by rw[hrs];omega);rw[r0,wE]at this;exact run_loadCellsFrom_list P _ _ _ k (HK.out _) this
    have hcg:∀ n' os',Calls P q #[.agg (enc (ip+1)).toArray,.agg (enc ip).toArray] (grow ((sortWorldK enc k w blk 0 m (Array.range n) os).drewN n') os') λ e w'=>e = .returned (.bool (ef (ip+1) ip))/\∃ q os'',w'=grow ((grow ((sortWorldK enc k w blk 0 m (Array.range n) os).drewN n') os').drewN q) os'' := λ n' os'=>by
     rw[hcls];exact HC.out _ _ _ hrs (ip+1) ip
    have CLS:Hid _:=hcls;clear hcls hHc r0 r1;generalize hwq:sortWorldK enc k w blk 0 m (Array.range n) os=wq at lj lp hcg CLS |-
    cases hev:ef (ip+1) ip with
    | false =>
      rw[hev]at hcg
      go_wp2_with fail
      go_quiet_grown (first | (go_at_fn q;refine Calls.grown_of (hcg _ _)))
      go_wp2
      go_roundg (n-(ip+2))
      case measure=>omega
      case rel =>
       refine⟨ip+2,_,_,by go_num,by omega,by omega,by omega,CLS.out nq osq,(show Hid _ from λ j h1 h2=>?_)⟩;by_cases hj:j=ip+1
       ·rw[hj];exact hev
       ·exact HE.out j h1 (by omega)
    | true =>
      rw[hev]at hcg
      go_wp2_with fail
      go_quiet_grown (first | (go_at_fn q;refine Calls.grown_of (hcg _ _)))
      have hcap1:¬ (cap=ip+1):=by omega
      have hcap2:(ip:Int)+1<=(cap:Int):=by omega
      go_wp2
      go_loopg [5,7] n (λ g2 v5 v7 wr2=>∃(b kk m2:Nat) (dk:Array Nat) (os2:Array Obj),v5 = .int .i64 kk/\v7 = .int .i64 b/\1<=b/\ip+1+b<=n/\n-b<=g2/\kk<=ip+b/\dk.size=n/\wr2=sortWorldK enc k w blk 0 m2 dk os2/\Hid (dk.toList.take kk=zJ ef (ip+1+b))/\Hid (kk=(zJ ef (ip+1+b)).length)/\Hid (∀ j,ip+b<=j->j<n->dk[j]! = j))
      case atStart =>
       have e1:zJ ef (ip+1)=List.range (ip+1):=qvk λ j h1 h2=>HE.out j h1 h2;have e2:zJ ef (ip+1+1)=List.range (ip+1):=by rw[qs7 (by omega) (by simpa using hev),e1]
       refine⟨1,ip+1,_,Array.range n,_,by go_num,rfl,wa _,by omega,by omega,by omega,hrs,CLS.out nq osq,?_,?_,?_⟩
       ·show _=_;rw[e2,Array.toList_range,List.take_range,kw (by omega)]
       ·show _=_;rw[e2,xF]
       ·intro j _ h2;rw[getElem!_pos _ _ (by rw[hrs];exact h2)];simp
      case round =>
       obtain⟨b,kk,m2,dk,os2,rfl,rfl,hb1,hbn,hg2,hkk,hdk,rfl,HT,HL,HD⟩:=hrel;by_cases hlt2:ip+1+b<n
       ·obtain⟨bp,rfl⟩:∃ bp,b=bp+1:=⟨b-1,by omega⟩
        have hltz2:(bp:Int)+1<((n-(ip+1):Nat):Int):=by omega
        have hltz3:(bp:Int)<((n-(ip+1):Nat):Int):=by omega
        have hwp2:IntKind.i64.wrap (bp:Int)=(bp:Int):=by rw[IntKind.wrap_i64];omega
        have p2:(0:Int)<=(bp:Int)+1:=by omega
        have e2:((bp:Int)+1).toNat=bp+1:=by omega
        have hkn:(kk:Int)<(n:Int):=by omega
        obtain⟨ax,hax⟩:∃ ax,ax=ip+1+(bp+1):=⟨_,rfl⟩
        have hac:(ip+1)*k+(bp+1)*k=ax*k:=by rw[hax,wO (ip+1)]
        have hap:(ip+1)*k+bp*k=(ax-1)*k:=by rw[<- wO];congr 1;omega
        have r1:dk[ax]! = ax:=HD.out ax (by omega) (by omega);have r0:dk[ax-1]! = ax-1:=HD.out (ax-1) (by omega) (by omega);have hcls:∀ n' os',grow ((sortWorldK enc k w blk 0 m2 dk os2).drewN n') os'=sortWorldK enc k w blk 0 (m2+n') dk (os2++os') := λ n' os'=>sortWorldK_grown_c enc k w blk 0 m2 n' dk os2 os';have hHc:∀ n' os',HoldsK enc k (grow ((sortWorldK enc k w blk 0 m2 dk os2).drewN n') os') blk 0 dk := λ n' os'=>by rw[hcls];exact holdsK_sortWorldK_c enc k w blk 0 (Array.range n) dk _ _ HH.out hblk (by rw[hdk,hrs])
        have lj:∀ n' os',Sem.run P (loadCellsFrom ⟨blk,(ip+1)*k+(bp+1)*k,none⟩ 0 k #[]) (grow ((sortWorldK enc k w blk 0 m2 dk os2).drewN n') os') = .ok (enc ax).toArray (grow ((sortWorldK enc k w blk 0 m2 dk os2).drewN n') os') := λ n' os'=>by
         have:=HoldsK.cells (hHc n' os') HK.out (i:=ax) (by rw[hdk];omega);rw[r1,wE,<- hac]at this;exact run_loadCellsFrom_list P _ _ _ k (HK.out _) this
        have lp:∀ n' os',Sem.run P (loadCellsFrom ⟨blk,(ip+1)*k+bp*k,none⟩ 0 k #[]) (grow ((sortWorldK enc k w blk 0 m2 dk os2).drewN n') os') = .ok (enc (ax-1)).toArray (grow ((sortWorldK enc k w blk 0 m2 dk os2).drewN n') os') := λ n' os'=>by
         have:=HoldsK.cells (hHc n' os') HK.out (i:=ax-1) (by rw[hdk];omega);rw[r0,wE,<- hap]at this;exact run_loadCellsFrom_list P _ _ _ k (HK.out _) this
        have hcg:∀ n' os',Calls P q #[.agg (enc ax).toArray,.agg (enc (ax-1)).toArray] (grow ((sortWorldK enc k w blk 0 m2 dk os2).drewN n') os') λ e w'=>e = .returned (.bool (ef ax (ax-1)))/\∃ q os'',w'=grow ((grow ((sortWorldK enc k w blk 0 m2 dk os2).drewN n') os').drewN q) os'' := λ n' os'=>by
         rw[hcls];exact HC.out _ _ _ hdk ax (ax-1)
        have CLS2:Hid _:=hcls;have HHC:Hid _:=hHc;have HAC:=Lib.hid hac;clear hcls hHc hap hac;generalize hwq2:sortWorldK enc k w blk 0 m2 dk os2=wq2 at lj lp hcg CLS2 HHC |-
        have hlA:(enc ax).length=k:=HK.out _;have hA1:∀ v∈enc ax,v.oneCell'=true:=H1.out _;obtain⟨cA,hcA⟩:∃ c,c=enc ax:=⟨_,rfl⟩
        obtain⟨cP,hcP⟩:∃ c,c=enc (ax-1):=⟨_,rfl⟩
        rw[<- hcA]at lj hcg hlA hA1;rw[<- hcP]at lp hcg;have HCA:=Lib.hid hcA;clear hcA hcP;have hT:=HT.out;have hL:=HL.out;rw[show ip+1+(bp+1)=ax from hax.symm]at hT hL;have HAX:=Lib.hid hax;have hax1:0<ax:=by omega
        have hax3:ax<n:=by omega
        clear hax r0 r1;cases hev2:ef ax (ax-1)with
        | true =>
          have hcd:zJ ef (ax+1)=zJ ef ax:=qs7 hax1 hev2;have HT2:Hid (dk.toList.take kk=zJ ef (ax+1)):=by show _=_;rw[hcd];exact hT
          have HL2:Hid (kk=(zJ ef (ax+1)).length):=by show _=_;rw[hcd];exact hL
          clear hT hL hcd;rw[hev2]at hcg
          go_wp2_with fail
          go_quiet_grown (first | (go_at_fn q;refine Calls.grown_of (hcg _ _)))
          go_wp2
          go_roundg (n-(bp+2))
          case measure=>omega
          case rel =>
           have hax2:ip+1+(bp+2)=ax+1:=by have:=HAX.out;omega
           refine⟨bp+2,kk,_,dk,_,rfl,by go_num,by omega,by omega,by omega,by omega,hdk,CLS2.out nq osq,?_,?_,(show Hid _ from λ j h1 h2=>HD.out j (by omega) h2)⟩
           ·show _=_;rw[hax2];exact HT2.out
           ·show _=_;rw[hax2];exact HL2.out
        | false =>
          have hcd:zJ ef (ax+1)=zJ ef ax++[ax]:=qD5 hev2;have hdl:kk<dk.toList.length:=by rw[wM,hdk];omega
          have HT2:Hid ((dk.setIfInBounds kk ax).toList.take (kk+1)=zJ ef (ax+1)):=by
           show _=_;rw[hcd,<- hT,xx,kE,vq (wa _),List.getElem?_set_self hdl];rfl
          have HL2:Hid (kk+1=(zJ ef (ax+1)).length):=by show _=_;rw[hcd,wd,<- hL];rfl
          clear hT hL hcd;rw[hev2]at hcg
          go_wp2_with fail
          go_quiet_grown (first | (go_at_fn q;refine Calls.grown_of (hcg _ _)))
          have hw2:grow (wq2.drewN nq) osq=sortWorldK enc k w blk 0 (m2+nq) dk (os2++osq):=CLS2.out nq osq;have lj2:=lj nq osq;have hHd:=HHC.out nq osq;clear lj lp hcg;generalize grow (wq2.drewN nq) osq=wq3 at hw2 hHd lj2 |-
          have hbd:kk*k+cA.length<=(flatK enc k dk).size:=by
           rw[hlA,size_flatK];have:=wu k (show kk+1<=dk.size by omega)
           rwa [kU]at this
          have s1:Sem.run P (storeCells ⟨blk,kk*k,none⟩ cA 0) wq3 = .ok () (wq3.setCells blk (kk*k) cA):=by
           have:=stores_of_holds P hHd (kk*k) cA hbd hA1
           rwa [wE]at this
          have HW3:Hid (wq3.setCells blk (kk*k) cA=sortWorldK enc k w blk 0 (m2+nq) (dk.setIfInBounds kk ax) (os2++osq)):=by
           show _=_;rw[hw2,HCA.out];exact qL0 HK.out (m2+nq) dk (os2++osq) hblk kk ax (by omega)
          clear hw2 hHd hbd
          go_wp2
          go_roundg (n-(bp+2))
          case measure=>omega
          case rel =>
           have hax2:ip+1+(bp+2)=ax+1:=by have:=HAX.out;omega
           refine⟨bp+2,kk+1,_,dk.setIfInBounds kk ax,_,by go_num,by go_num,by omega,by omega,by omega,by omega,by simpa using hdk,HW3.out,?_,?_,(show Hid _ from λ j h1 h2=>?_)⟩
           ·show _=_;rw[hax2];exact HT2.out
           ·show _=_;rw[hax2];exact HL2.out
           ·rw[getElem!_set_other _ _ _ _ (by omega)];exact HD.out j (by omega) h2
       ·obtain rfl:n=ip+1+b:=by omega
        have hW:=(Go.AmZ.sort_blks HBK.out enc k m2 dk os2).hb;have hpsz:(putCells id 0 (flatK enc k dk) vs).size=vs.size:=by unfold putCells;rw[wab]
        have hzl:(Builtin.zeroCells zv.cells (ip+1+b-kk)).toList.length=(ip+1+b-kk)*k:=by rw[wM,size_zeroCells,HZK.out]
        have hsum:kk*k+(ip+1+b-kk)*k=(ip+1+b)*k:=by rw[<- wO];congr 1;omega
        have hle:(ip+1+b)*k<=vs.size:=wD (wu _ hnc) HCS.out;obtain⟨new,hnew⟩:∃ new,new=(putCells id 0 (flatK enc k dk) vs).toList.take (kk*k)++(Builtin.zeroCells zv.cells (ip+1+b-kk)).toList++(putCells id 0 (flatK enc k dk) vs).toList.drop (kk*k+(Builtin.zeroCells zv.cells (ip+1+b-kk)).toList.length):=⟨_,rfl⟩
        have hcl:∀ ty,(Builtin.clear_ #[23] ty #[.slice (some ⟨blk,kk*k,none⟩) (ip+1+b-kk) (cap-kk)]).run P (sortWorldK enc k w blk 0 m2 dk os2) = .ok (.tuple #[]) ((sortWorldK enc k w blk 0 m2 dk os2).setRow blk new.toArray) := λ ty=>by
         rw[hnew];exact qvt _ 23 25 ty zv t22 HVE.out blk (kk*k) (ip+1+b-kk) (cap-kk) (by omega) _ et hW (by rw[hpsz,HZK.out];omega) (HZ1.out _)
        have HN1:Hid (new.take (kk*k)=(putCells id 0 (flatK enc k dk) vs).toList.take (kk*k)):=by
         show _=_;rw[hnew,wj,kL (by rw[wm,wM,hpsz];omega),xM,Nat.min_self]
        have HN2:Hid (new.length=vs.size):=by
         show _=_;rw[hnew];rw[wM]at hzl;simp only[wd,wm,wW,wM,hpsz,hzl];omega
        have hkc:¬ (cap=kk):=by omega
        have hkc2:(kk:Int)<=(cap:Int):=by omega
        have hkn:(kk:Int)<=((ip+1+b:Nat):Int):=by omega
        clear hW hpsz hzl hsum hle hnew;have HW:Hid _:=(⟨dk,m2,os2,rfl⟩:∃(d:Array Nat) (m:Nat) (os:Array Obj),sortWorldK enc k w blk 0 m2 dk os2=sortWorldK enc k w blk 0 m d os)
        generalize hwq2:sortWorldK enc k w blk 0 m2 dk os2=wq2 at hcl |-
        have HWQ:=Lib.hid hwq2;clear hwq2 HW;have HDK:=Lib.hid hdk
        go_wp2_with (simp only[hcl])
        go_ret
        have hL:=HL.out;rw[<- hL];exact⟨rfl,dk,m2,os2,new,HDK.out,HT.out,.inr ⟨HN1.out,HN2.out,by rw[HWQ.out]⟩⟩
   ·obtain rfl:i=n:=by omega
    have hci:zJ ef i=List.range i:=qvk λ j h1 h2=>HE.out j h1 h2;have HCI:=Lib.hid hci;clear hci
    go_wp2
    go_ret
    rw[HCI.out,xF];exact⟨rfl,Array.range i,_,_,[],hrs,by simp,.inl rfl⟩
end Go.Proofs.YtinbdcelmgfniaaGreatDoor
namespace Go.AmZ
open Go Go.RowKit Go.GxZ Go.Sort Go.Proofs Go.Shelf Go.Proofs.YtinbdcelmgfniaaGreatDoor
def qkW{α:Type}(F:α->α->Option Bool)(l:List α)(i j:Nat):Bool:=match l[i%l.length]?,l[j%l.length]? with
 |some x,some y=>(F x y).getD false
 |_,_=>false
def qAx{α:Type}(F:α->α->Option Bool):List α->Option (List α)
 |[]=>some []
 |x::l=>cond (Nat.ble (x::l).length 100000&&qcq F (x::l)) (some (pick (x::l) (zJ (qkW F (x::l)) (x::l).length))) none
def qvD{α:Type}(F:α->α->Option Bool)(l:List α):Option (Unit×List α×Unit):=match qAx F l with
 |some a=>some ((),a,())
 |none=>none
theorem qHr{α:Type}{F:α->α->Option Bool}{l:List α}{r:Unit×List α×Unit}(h:qvD F l=some r):∃a,qAx F l=some a/\r=((),a,()):=by
 unfold qvD at h;split at h
 .cases h;exact⟨_,‹_›,rfl⟩
 .cases h
theorem qzC{P:Program}{f:FuncId}{g:qrD}(e:qf2 P f)(h:∀a,g.fn a=none):qS P f (mgP g):=by
 refine⟨e,λ Γ σ w d c r j i b=>?_⟩;unfold mgP at b;split at b
 .rw[h]at b;cases b
 .cases b
theorem qzD{b:Nat->Nat->Bool}{n:Nat}:∀i∈zJ b n,i<n:=λ i a=>kP.1 (kN.1 a).1
theorem qrx{enc:Nat->List Value}{k:Nat}(a:∀x,(enc x).length=k):∀(l:List Nat) (i j:Nat),j<k->(l.flatMap enc)[i*k+j]?=(l[i]?).bind λ x=>(enc x)[j]?
 |[],i,j,_=>by simp
 |x::l,0,j,b=>by
   rw[xk,kI,wE,List.getElem?_append_left (by rw[a];exact b)];rfl
 |x::l,i+1,j,b=>by
   rw[xk,List.getElem?_append_right (by rw[a,kU];omega),a];have:(i+1)*k+j-k=i*k+j:=by rw[kU];omega
   rw[this];exact qrx a l i j b
theorem qyH{enc:Nat->List Value}{k:Nat}(a:∀x,(enc x).length=k):∀l:List Nat,(l.flatMap enc).length=l.length*k
 |[]=>by simp
 |x::l=>by rw[xk,wd,a,qyH a l,wx,kU,waz]
theorem qvn{b:Type}{f:List AV->Option b}{es:List (List AV)}{l:List b}(h:zg f es=some l):∀{a:List Nat},(∀i∈a,i<l.length)->zg f (pick es a)=some (pick l a)
 |[],_=>rfl
 |i::a,d=>by
   have e:=d i (wi ..);have n:=zd h
   have e1:pick es (i::a)=es[i]'(by omega)::pick es a:=by
    unfold pick;rw[vt,List.getElem?_eq_getElem (by omega)]
   have m:pick l (i::a)=l[i]::pick l a:=by
    unfold pick;rw[vt,List.getElem?_eq_getElem e]
   let⟨v,c,k⟩:=JN h (List.getElem?_eq_getElem (show i<es.length by omega));rw[List.getElem?_eq_getElem e]at c;cases c;rw[e1,m];exact yW.2 ⟨_,_,k,qvn h λ j g=>d j (wg _ g),rfl⟩
theorem qKM(n:Nat):∀v∈(Builtin.zeroCells (Value.cells (.agg #[.int .i64 0,.string ⟨#[]⟩,.int .i64 0,.slice none 0 0])) n).toList,v.oneCell'=true:=by
 intro v a;unfold Builtin.zeroCells at a;rw[Array.mem_toList_iff]at a;obtain⟨i,_,rfl⟩:=Array.mem_map.1 a;have c:(Value.cells (.agg #[.int .i64 0,.string ⟨#[]⟩,.int .i64 0,.slice none 0 0])).size=4:=rfl;rw[c];have b:i%4<4:=xW _ (by decide);generalize i%4=r at b
 match r,b with
 |0,_|1,_|2,_|3,_=>rfl
set_option maxHeartbeats 1000000 in
theorem qBV{g:FuncId}{F:T->T->Option Bool}(hF:Fn2 Go.Proofs.Tryz.prog g .term (λ b:Bool => .bool b) F){fn:List T->Option (Unit × List T × Unit)}(hfn:∀ l r,fn l=some r->∃ l',qAx F l=some l'/\r=((),l',())) :
  qS Go.Proofs.Tryz.prog 140 (sgP ⟨[.row .term,.clo g 0],[.one (.row .term)],λ x=>fn x.1⟩):=by
 have c0 := λ p cap fv w=>qIw (P:=Go.Proofs.Tryz.prog) Go.Proofs.Tryz.func140 (by kernel_rfl) Go.Proofs.Tryz.underlying0 Go.Proofs.Tryz.isAgg0 Go.Proofs.Tryz.sizeOf0 Go.Proofs.Tryz.zeroValue0 Go.Proofs.Tryz.underlying3 Go.Proofs.Tryz.isAgg3 Go.Proofs.Tryz.sizeOf3 Go.Proofs.Tryz.zeroValue3 Go.Proofs.Tryz.underlying4 Go.Proofs.Tryz.isAgg4 Go.Proofs.Tryz.sizeOf4 Go.Proofs.Tryz.zeroValue4 Go.Proofs.Tryz.underlying23 Go.Proofs.Tryz.isAgg23 Go.Proofs.Tryz.sizeOf23 Go.Proofs.Tryz.zeroValue23 Go.Proofs.Tryz.underlying29 Go.Proofs.Tryz.isAgg29 Go.Proofs.Tryz.sizeOf29 Go.Proofs.Tryz.zeroValue29 p cap fv w
 have cP := λ w blk n cap et vs h1 h2 h3 h4 h5 enc h6 h7 h8 ef h9=>qJb (P:=Go.Proofs.Tryz.prog) Go.Proofs.Tryz.func140 (by kernel_rfl) Go.Proofs.Tryz.underlying0 Go.Proofs.Tryz.isAgg0 Go.Proofs.Tryz.sizeOf0 Go.Proofs.Tryz.zeroValue0 Go.Proofs.Tryz.underlying3 Go.Proofs.Tryz.isAgg3 Go.Proofs.Tryz.sizeOf3 Go.Proofs.Tryz.zeroValue3 Go.Proofs.Tryz.underlying4 Go.Proofs.Tryz.isAgg4 Go.Proofs.Tryz.sizeOf4 Go.Proofs.Tryz.zeroValue4 Go.Proofs.Tryz.underlying23 Go.Proofs.Tryz.isAgg23 Go.Proofs.Tryz.sizeOf23 Go.Proofs.Tryz.zeroValue23 Go.Proofs.Tryz.underlying29 Go.Proofs.Tryz.isAgg29 Go.Proofs.Tryz.sizeOf29 Go.Proofs.Tryz.zeroValue29
  4 (by decide) Go.Proofs.Tryz.isAgg25 Go.Proofs.Tryz.sizeOf25 _ Go.Proofs.Tryz.zeroValue25 rfl qKM w blk n cap et vs g h1 h2 h3 h4 h5 enc h6 h7 h8 (λ args w=>qic hF.1 args w) ef h9
 have hag:∀ v:T,yH .term v = .agg (qd .term v) := λ _=>rfl;refine⟨QG Go.Proofs.Tryz.func140 (by kernel_rfl),λ Γ σ w args vals r hi hr hp=>?_⟩;unfold sgP at hp;split at hp<;>try cases hp
 rename_i x hx;split at hp<;>cases hp;rename_i v0 hv0;obtain⟨l,_⟩:=x;obtain⟨l',hl',rfl⟩:=hfn _ _ hv0;obtain⟨y0,ys0,nr,rfl,hy0,hx1⟩:=qvQ hx;obtain⟨ys1,rfl,hx2⟩:=qEp (g:=g) (r:=[]) hx1;obtain⟨rfl,hbx,hrw⟩:=qk6 hx2;clear hx hx1 hx2 hv0 hfn;obtain⟨u0,r0,rfl,hu0,hr⟩:=hr.uncons;obtain⟨u1,r1,rfl,hu1,hr⟩:=hr.uncons;have:=hr.nil_inv;subst this
 have hu1:u1 = .func (.func g) #[] #[]:=by
  cases hu1 with
  | fn _ _ us hn _=>obtain rfl:=wh hn;rfl
 subst hu1;have hb0 : σ.bx=[]:=wh hbx.symm
 have nil0:∀(p:Option Addr),l'=[]->Ja Go.Proofs.Tryz.prog Γ σ w 140 [.slice p 0 0,.func (.func g) #[] #[]] (zP (J7 [.one (.row .term)] σ.rw.length (l',())),some ⟨[],σ.rw.map QQ++QZ [.one (.row .term)] (l',()),List.range σ.bx.length,List.range σ.rw.length⟩) := λ p hl=>by
  subst hl;refine(c0 p 0 _ w).mono ?_;rintro e w' ⟨rfl,rfl⟩;obtain⟨Γ2,z1,z2,z3,z4⟩:=qML (a := .term) hi (.refl _ _) hi hb0 p;exact⟨_,Γ2,rfl,z1,z2,z3,z4⟩
 rcases qgR hy0 with⟨hnr,R,rfl,hR,hRk,hRf,hRd⟩ | ⟨hnr,hl0,hy⟩
 ·have H:=hi.row 0 R hR;have hcl:R.c.length=l.length:=zd hRd;have hlk:∀ e∈R.c,e.length=Ty.size .term := λ e he=>(H.len e he).trans hRk;obtain⟨p,cap,rfl,hcap,hrm⟩:=qxH hi hR hRk hRf hu0;rcases hrm with h0 | ⟨rfl,hz,vs,et,hvs,hvsz,hfit,hca,hxl,h1⟩
  ·have hl0:l=[]:=wh (by omega);have hl2:l'=[]:=by rw[hl0]at hl';cases hl';rfl
   have hrc:R.c.length=0:=by omega
   rw[hrc,h0];exact nil0 p hl2
  ·by_cases hl0:l=[]
   ·have hl2:l'=[]:=by rw[hl0]at hl';cases hl';rfl
    have hrc:R.c.length=0:=by rw[hcl,hl0];rfl
    rw[hrc];subst hl2;refine qj4 (a := .term) hi hb0 hR hRk hRf.1 hRf.2 hz (l:=[]) (c:=[]) (xs:=[]) (n:=0) rfl rfl (by intro e he;cases he) (by intro e he;cases he) (λ i e j x h=>by cases h) ?_;refine(c0 _ cap _ w).mono ?_;rintro e w' ⟨rfl,rfl⟩;exact⟨Γ.cur 0,cap,vs,et,rfl,hvs,we _,hfit,by rw[kI];rfl,.inl ⟨rfl,hvsz⟩,rfl,rfl,rfl,wa _,wa _,λ _ _ _=>rfl⟩
   ·have hlpos:0<l.length:=xm.2 hl0;obtain⟨n,hn⟩:∃ n,n=l.length:=⟨_,rfl⟩
    have hnc:R.c.length=n:=hcl.trans hn.symm;rw[hnc]at hca hxl h1 hcap |-
    have hns:n*Ty.size .term<=vs.size:=wD (wu _ hcap) hfit
    have hv':Nat.ble l.length 100000=true/\qcq F l=true/\l'=pick l (zJ (qkW F l) l.length):=by
     cases l with
     | nil=>exact absurd rfl hl0
     | cons y l =>
       replace hl':cond _ _ _=some l':=hl'
       cases hb:(Nat.ble (y::l).length 100000&&qcq F (y::l))with
       | false =>
         replace hl':cond (Nat.ble (y::l).length 100000&&qcq F (y::l)) _ _=some l':=hl'
         rw[hb]at hl';cases hl'
       | true =>
         replace hl':cond (Nat.ble (y::l).length 100000&&qcq F (y::l)) _ _=some l':=hl'
         have hb':=hb;rw[wb]at hb';rw[hb]at hl';cases hl';exact⟨hb'.1,hb'.2,rfl⟩
    obtain⟨v1,v2,v4⟩:=hv';have v1:l.length<=100000:=kC v1;have hER:∀{q:Nat} {y:T},l[q]?=some y->RepL Γ (qd .term y) (qbU vs (Ty.size .term) q)/\∀ u∈qbU vs (Ty.size .term) q,u.oneCell'=true := λ hq=>qCE hnc hlk hRd hca hns hq;have hlast:∀ i,i % n<n := λ i=>xW _ (by omega);obtain⟨enc,henc⟩:∃ enc:Nat->List Value,enc = λ i=>qbU vs (Ty.size .term) (i % n):=⟨_,rfl⟩
    have hek:∀ i,(enc i).length=Ty.size .term := λ i=>by rw[henc];exact qtb (hlast i) hns
    have hlget:∀ i,∃ y,l[i % n]?=some y := λ i=>⟨_,List.getElem?_eq_getElem (by rw[<- hn];exact hlast i)⟩
    have he1:∀ i,∀ u∈enc i,u.oneCell'=true := λ i u hu=>by
     rw[henc]at hu;obtain⟨y,hy⟩:=hlget i;exact(hER hy).2 u hu
    have hrange:(Array.range n).size=n:=vN;have hvsb:w.heap[Γ.cur 0]?=some (.cells vs et (0,0)):=hvs;have hmem0:∀ off,Γ.mem (Γ.cur 0) off=none := λ off=>H.un hz off (by rw[hRf.1,kI,H.off hRf.2];exact we _)
    have hH:HoldsK enc (Ty.size .term) w (Γ.cur 0) 0 (Array.range n):=by
     intro j hj;rw[size_flatK,hrange]at hj;obtain⟨q1,q2,q3⟩:=qps j (Ty.size .term) n hj;have hjs:j<vs.size:=wC hj hns;constructor
     ·rw[get_flatK _ _ _ _ (by rw[hrange];exact hj)];have e1:(Array.range n)[j / (Ty.size .term)]! = j / (Ty.size .term):=by rw[getElem!_pos _ _ (by rw[hrange];exact q1)];simp
      rw[e1,henc];show _=some ((qbU vs (Ty.size .term) (j / (Ty.size .term) % n))[j % (Ty.size .term)]!);rw[xQ q1];have e2:(qbU vs (Ty.size .term) (j / (Ty.size .term)))[j % (Ty.size .term)]?=some vs[j]:=by rw[qpw q3,q2];exact Array.getElem?_eq_getElem hjs
      rw[wE,Blk.cell hvs,List.getElem!_eq_getElem?_getD,e2,Array.getElem?_eq_getElem hjs];rfl
     ·exact Blk.free hvs _
    have heq:∀(m:Nat) (os:Array Obj) (dk:Array Nat),dk.size=n->∀ x y,Calls Go.Proofs.Tryz.prog g #[.agg (enc x).toArray,.agg (enc y).toArray] (sortWorldK enc (Ty.size .term) w (Γ.cur 0) 0 m dk os) λ e w'=>e = .returned (.bool (qkW F l x y))/\∃ q' os',w'=grow ((sortWorldK enc (Ty.size .term) w (Γ.cur 0) 0 m dk os).drewN q') os':=by
     intro m os dk hdk x y;have B:=sort_blks hvsb enc (Ty.size .term) m dk os;obtain⟨W,hW⟩:∃ W,W=sortWorldK enc (Ty.size .term) w (Γ.cur 0) 0 m dk os:=⟨_,rfl⟩
     rw[<- hW]at B |-
     have hiW:Inv (bare Γ) emp W:=hi.bare λ b o u e=>by
      have hne:b ≠ Γ.cur 0 := λ hb=>by rw[hb,hmem0]at e;cases e
      have hc:=(hi.mem b o u e).1;have hblt:=hi.mem_lt e;rw[show W.cell? _=w.cell? _ from World.cell?_of_block (B.other b hblt hne)];exact hc
     have rep:∀(i:Nat) (y:T),l[i % n]?=some y->Rep (bare Γ) (yH .term y) (.agg (enc i).toArray) := λ i y hy=>by
      obtain⟨q1,q2⟩:=hER hy;rw[hag];have:enc i=qbU vs (Ty.size .term) (i % n):=by rw[henc]
      rw[this];refine .agg _ _ q1.len q2 λ j z u a b=>(q1.rep j z u a b).bare (zo .term y z (wc a))
     obtain⟨lx,hx⟩:=hlget x;obtain⟨ly,hy⟩:=hlget y;have hsome:=wo.1 (wo.1 v2 lx (wc hx)) ly (wc hy);obtain⟨c,hc⟩:=wai.1 hsome
     have hcf:qkW F l x y=c:=by
      unfold qkW;rw[<- hn,hx,hy];simp only;rw[hc];rfl
     rw[hcf];have hcall:=hF.2 hiW (rep x lx hx) (rep y ly hy) hc;refine Calls.mono hcall ?_;rintro e w' ⟨rfl,hid⟩;exact⟨rfl,hid.grow⟩
    have hcall:=cP w (Γ.cur 0) n cap et vs hvsb hfit hcap (by omega) (by omega) enc hek he1 hH (qkW F l) heq;obtain⟨ix,hix⟩:∃ ix,ix=zJ (qkW F l) n:=⟨_,rfl⟩
    rw[<- hix]at hcall;have hixlt:∀ i∈ix,i<n := λ i hi=>by rw[hix]at hi;exact qzD i hi
    have hixl:∀ i∈ix,i<l.length := λ i hi=>by rw[<- hn];exact hixlt i hi
    have hixc:∀ i∈ix,i<R.c.length := λ i hi=>by rw[hnc];exact hixlt i hi
    have hl'e:l'=pick l ix:=by rw[v4,<- hn,hix]
    have hl'n:l'.length=ix.length:=by rw[hl'e,qo3 hixl]
    have pm:∀ e∈pick R.c ix,e∈R.c := λ e he=>by
     unfold pick at he;obtain⟨i,_,h⟩:=kW.1 he;exact wc h
    refine qj4 (a := .term) hi hb0 hR hRk hRf.1 hRf.2 hz (l:=l') (c:=pick R.c ix) (xs:=ix.flatMap enc) (n:=ix.length) hl'n.symm (by rw[hl'e];exact qvn hRd hixl) (λ e he=>hlk e (pm e he)) (λ e he=>H.plain e (pm e he)) (λ i e j x h1 h2=>?_) ?_
    ·rw[qte hixc]at h1;cases hp:ix[i]? with
     | none=>rw[hp]at h1;cases h1
     | some p =>
       rw[hp]at h1;have h1:R.c[p]?=some e:=h1;have hj:j<Ty.size .term:=by have:=getElem?_lt h2;rwa [hlk e (wc h1)]at this
       obtain⟨u,u1,u2⟩:=hca p e j x h1 h2;refine⟨u,?_,u2⟩;have hpn:p<n:=hixlt p (wc hp);rw[qrx hek _ _ _ hj,hp];show(enc p)[j]?=some u;rw[henc];show(qbU vs (Ty.size .term) (p % n))[j]?=some u;rw[xQ hpn,qpw hj,<- Array.getElem?_toList];rw[List.getElem?_take]at u1;split at u1
       ·exact u1
       ·cases u1
    ·refine Calls.mono hcall ?_;rintro e w' ⟨rfl,dk,m,os,new,hdk,htk,hw⟩;have B:=sort_blks hvsb enc (Ty.size .term) m dk os;have hpsz:(putCells id 0 (flatK enc (Ty.size .term) dk) vs).size=vs.size:=by unfold putCells;rw[wab]
     have hixn:ix.length<=n:=by
      have:=congrArg List.length htk;rw[wm]at this;have h2:dk.toList.length=n:=by rw[wM,hdk]
      omega
     have hlen:ix.length*Ty.size .term<=n*Ty.size .term:=wu _ hixn
     have hxs:(putCells id 0 (flatK enc (Ty.size .term) dk) vs).toList.take (ix.length*Ty.size .term)=ix.flatMap enc:=by
      apply xc;intro t;by_cases ht:t<ix.length*Ty.size .term
      ·obtain⟨q1,q2,q3⟩:=qps t (Ty.size .term) ix.length ht;rw[List.getElem?_take,if_pos ht,Array.getElem?_toList];unfold putCells;rw[Array.getElem?_mapIdx,Array.getElem?_eq_getElem (by omega),kO,if_pos ⟨we _,by rw[size_flatK,hdk];omega⟩,Nat.sub_zero,id,get_flatK _ _ _ _ (by rw[hdk];omega)]
       conv=>rhs;rw[<- q2]
       rw[qrx hek _ _ _ q3]
       have hd:dk[t / Ty.size .term]?=ix[t / Ty.size .term]?:=by
        rw[<- htk,List.getElem?_take,if_pos q1,Array.getElem?_toList]
       have hdl:t / Ty.size .term<dk.size:=by rw[hdk];omega
       rw[<- hd,Array.getElem?_eq_getElem hdl,getElem!_pos dk _ hdl];show _=(enc dk[t / Ty.size .term])[t % Ty.size .term]?;rw[List.getElem!_eq_getElem?_getD,List.getElem?_eq_getElem (by rw[hek];exact q3)];rfl
      ·rw[List.getElem?_eq_none (by rw[wm];omega),List.getElem?_eq_none (by rw[qyH hek];omega)]
     rcases hw with rfl | ⟨n1,n2,rfl⟩
     ·exact⟨Γ.cur 0,cap,_,et,rfl,B.hb,by omega,by rw[hpsz];exact hfit,hxs,.inl ⟨rfl,hpsz.trans hvsz⟩,B.os,B.tape,B.output,B.size,B.drawn,B.other⟩
     ·have hs:=setRow_heap _ (Γ.cur 0) _ new.toArray et (0,0) B.hb;refine⟨Γ.cur 0,cap,new.toArray,et,rfl,hs,by omega,by rw[kg,n2];exact hfit,?_,.inl ⟨rfl,by rw[kg,n2];exact hvsz⟩,B.os,B.tape,B.output,?_,B.drawn,λ b hb hne=>(setRow_other _ (Γ.cur 0) b _ hne).trans (B.other b hb hne)⟩
      ·rw[<- hxs];exact n1
      ·show w.heap.size<=_;simp only[World.setRow,Array.size_modify];exact B.size
 ·have hl2:l'=[]:=by
    have hl0:l=[]:=hl0;rw[hl0]at hl';cases hl';rfl
  rcases hy with rfl | ⟨f,rfl,hf2⟩
  ·have hu0:=zp hu0;subst hu0;exact nil0 none hl2
  ·cases hu0 with
   | sl _ _ _ a n cap b o us hn _ hf _ _ _ _ _ _ =>
     have hn:n=0:=hn;have hcap:cap=n:=hf (by omega);rw[hcap,hn];exact nil0 a hl2
end Go.AmZ
namespace Go.AmZ
open Go Go.RowKit Go.GxZ
theorem qkV{P:Program}(w:World)(zx:Nat)(t ty e:TypeId)(i:TypeInfo)(z:Value)(size bytes:Nat)(F:P.underlying t=some (.slice e))(H:P.info? e=some i)(I:i.zero=some z)
  (d:i.size=size) (A:i.bytes=bytes) (s:z.cells.size=size) (x:0<size)
  (v:Value) (n:Nat) (xs:List Value) (b:w.ownsRow zx e size v n xs)
  (a:Addr) (m c:Nat) (qe:List Value) (G:qe.length=m*size) (f:∀j u,qe[j]?=some u->w.cell? (a.add j)=some u) (J:∀u∈qe,u.oneCell'=true)
  (B:n+m<=maxLen) (h:(n+m)*bytes<=140737488355328) (l:zx<=w.heap.size):
  ∃p w',(Builtin.append_ #[t,t] ty #[v,.slice (some a) m c]).run P w=.ok p w'/\w'.ownsRow zx e size p (n+m) (xs++qe)/\w.grownBy w' v.ownBlock/\
   (p.ownBlock=v.ownBlock\/∀k,p.ownBlock=some k->w.heap.size<=k):=by
 obtain⟨rfl,rfl⟩|⟨g,cap,Q,rfl,O,R,K,N,M,E⟩:=id b.2
 .have D:xs=[]:=ky.1 (by simpa using b.1);subst D;let⟨p,w',C,r,o,_⟩:=run_append_own (P:=P) w w.heap.size t ty e i z size bytes F H I d A s x (.slice none 0 0) 0 [] (World.ownsRow_nil w _ e size) a m c qe G f J B h (wa _);exact⟨p,w',C,r.mono l,o,.inr λ k y=>(r.lt k y).1⟩
 .by_cases q:n+m<=cap
  .let⟨w',C,r,o⟩:=run_append_own_spare (P:=P) w zx t ty e i size F H d g n cap xs b a m c qe G f J q;exact⟨_,w',C,r,o,.inl rfl⟩
  .let⟨p,w',C,r,o⟩:=run_append_arg_grows (P:=P) w t ty e i z size bytes F H I d A s x ⟨g,0,none⟩ n cap xs b.1 (λ j u L=>b.cells rfl j u L) a m c qe G f (by omega) B h;exact⟨p,w',C,r.mono l,⟨o.os,o.tape,o.output,o.size,λ k y _=>o.block k y (by simp)⟩,.inr λ k y=>(r.lt k y).1⟩
structure qd0 (Γ:Gh) (b:Nat):Prop where
 own:¬ QB Γ b
 mem:∀o,Γ.mem b o=none
theorem qd0.ext{Γ Γ':Gh}{w w':World}{b:Nat}(h:qd0 Γ b)(c:Ext Γ w Γ' w')(f:b<w.heap.size):qd0 Γ' b/\w'.heap[b]?=w.heap[b]?:=by
 refine⟨⟨λ d=>(c.own b d).elim h.own λ h=>by omega,λ o=>?_⟩,c.block b f h.own⟩;cases e:Γ'.mem b o with
 |none=>rfl
 |some u=>
   obtain a|a|a:=c.memg b o u e
   .rw[h.mem]at a;cases a
   .exact absurd a h.own
   .omega
theorem qd0.new{Γ:Gh}{σ:St}{w:World}(a:Inv Γ σ w){b:Nat}(f:w.heap.size<=b):qd0 Γ b:=by
 refine⟨λ h=>?_,λ o=>?_⟩
 .obtain⟨i,c,rfl⟩|⟨r,c,e,rfl⟩:=h
  .have:=a.box_lt c;omega
  .have:=a.cur_lt c e;omega
 .cases d:Γ.mem b o with
  |none=>rfl
  |some u=>have:=a.mem_lt d;omega
theorem Inv.off{Γ:Gh}{σ:St}{w w':World}(h:Inv Γ σ w)(j:∀k ob,¬ qd0 Γ k->w.heap[k]?=some ob->w'.heap[k]?=some ob):Inv Γ σ w' where
 nb:=h.nb
 nr:=h.nr
 mem:=λ b o u e=>by
  let⟨l,p⟩:=h.mem b o u e;have c:=Array.getElem?_eq_getElem (qsm l);refine⟨?_,p⟩;rw[World.cell?_of_block (w:=w) (a:=⟨b,o,none⟩) ((j b _ (λ f=>by rw[f.mem]at e;cases e) c).trans c.symm)];exact l
 box:=λ i cs e=>by
  have g:i<Γ.nb:=by rw[h.nb];exact getElem?_lt e
  exact(h.box i cs e).lift g (.refl _) λ o c=>j _ _ (λ f=>f.own (.inl ⟨i,g,rfl⟩)) c
 inj:=h.inj
 boxmem:=h.boxmem
 row:=λ r R e=>by
  have d:r<Γ.nr:=by rw[h.nr];exact getElem?_lt e
  exact(h.row r R e).lift d (.refl _) rfl (λ m ob c=>j _ _ (λ f=>f.own (.inr ⟨r,d,m,rfl⟩)) c) (λ _ _ n=>n) λ _ i s q=>by omega
 apart:=h.apart
theorem qIB{d Γ:Gh}{σ:St}{w0 w w':World}{e:Option Nat}(a:Ext d w0 Γ w)(m:Inv Γ σ w)(c:w.grownBy w' e)(f:∀b,e=some b->qd0 Γ b/\w0.heap.size<=b)(n:w.drawn<=w'.drawn):Ext d w0 Γ w'/\Inv Γ σ w':=by
 refine⟨⟨a.le,c.os.trans a.os,c.tape.trans a.tape,c.output.trans a.output,wD a.size c.size,λ b i l=>(c.block b (wC i a.size) λ h=>?_).trans (a.block b i l),a.own,a.memg,wD a.drawn n⟩,m.off λ k ob j g=>?_⟩
 .have:=(f b h.symm).2;omega
 .rw[c.block k (Array.getElem?_eq_some_iff.1 g).1 λ h=>j (f k h.symm).1];exact g
theorem qd0.grown{Γ:Gh}{w w':World}{a:Option Nat}{b:Nat}(d:w.grownBy w' a)(e:b<w.heap.size)(c:some b≠a):w'.heap[b]?=w.heap[b]?:=d.block b e c
theorem qI0(w:World)(g k:Nat)(u:Value):w.grownBy (w.setCell ⟨g,k,none⟩ u) (some g):=
 ⟨rfl,rfl,rfl,by simp,λ b _ a=>Below.heap_setCell _ _ _ _ λ h=>a (by rw[h])⟩
theorem qkM{w w':World}{B e s g n cap:Nat}{cs:List Value}(h:w.ownsRow B e s (.slice (some ⟨g,0,none⟩) n cap) n cs)(d:w'.heap[g]?=w.heap[g]?):w'.ownsRow B e s (.slice (some ⟨g,0,none⟩) n cap) n cs:=by
 obtain⟨a,_⟩|⟨f,c,b,a,r⟩:=h.2
 .cases a
 .cases a;exact⟨h.1,.inr ⟨g,cap,b,rfl,r.1,by rw[d];exact r.2.1,r.2.2⟩⟩
theorem qci{w:World}{B e s g n cap:Nat}{cs:List Value}(h:w.ownsRow B e s (.slice (some ⟨g,0,none⟩) n cap) n cs):B<=g/\g<w.heap.size:=h.lt g rfl
theorem quL{w:World}{B e s g n p cap:Nat}{cs:List Value}(h:w.ownsRow B e s (.slice (some ⟨g,0,none⟩) n cap) n cs)(d:p<=n):w.ownsRow B e s (.slice (some ⟨g,0,none⟩) p cap) p (cs.take (p*s)):=by
 have a:p*s<=n*s:=wu _ d;obtain⟨b,_⟩|⟨q,f,c,b,o,m,l,k,j,i⟩:=h.2
 .cases b
 .cases b;refine⟨by rw[wm,h.1];omega,.inr ⟨g,cap,c,rfl,o,m,wD d l,k,j,?_⟩⟩;rw[<-i,xM,kw a]
theorem qNq{w:World}{B e s g n cap:Nat}{cs:List Value}(h:w.ownsRow B e s (.slice (some ⟨g,0,none⟩) n cap) n cs):n<=cap/\cap<=maxLen:=by
 obtain⟨a,_⟩|⟨m,b,f,a,l,k,d,c,j,i⟩:=h.2
 .cases a
 .cases a;exact⟨d,c⟩
abbrev RD:Ty:=.pair .str (.pair (.int .i64) .bool)
def qis(Γ:Gh)(σ:St)(cs:List Value)(i:Nat)(t:T)(n:Int)(r:Nat):Prop:=
 ∃R a,σ.rw[r]?=some R/\R.k=4/\R.fz=0/\R.off=false/\R.c=t.kids.map (qd .term)/\Rep Γ (.rs r 0 t.kids.length R.ver false) a/\
  cs[i*5]?=some (.int .i64 t.kind)/\cs[i*5+1]?=some (.string ⟨t.name.toArray⟩)/\cs[i*5+2]?=some (.int .i64 t.sort)/\cs[i*5+3]?=some a/\cs[i*5+4]?=some (.int .i64 n)
structure Stk (B N:Nat) (Γ:Gh) (σ:St) (w:World) (st:List (T×Int)) (ids:List Nat) (g cap:Nat) (cs:List Value):Prop where
 len:ids.length=st.length
 nd:ids.Nodup
 priv:qd0 Γ g
 own:w.ownsRow B N 5 (.slice (some ⟨g,0,none⟩) st.length cap) st.length cs
 node:∀i t n r,st[i]?=some (t,n)->ids[i]?=some r->qis Γ σ cs i t n r
section
variable {B N:Nat}{Γ Γ':Gh}{σ σ':St}{w w':World}{st:List (T×Int)}{ids:List Nat}{g cap:Nat}{cs:List Value}
theorem qis.later{i:Nat}{t:T}{n:Int}{r:Nat}(h:qis Γ σ cs i t n r)(c:Le Γ Γ')(b:∀R,σ.rw[r]?=some R->σ'.rw[r]?=some R):qis Γ' σ' cs i t n r:=by
 let⟨R,a,l,k,j,g,f,e,d⟩:=h;exact⟨R,a,b R l,k,j,g,f,e.mono c,d⟩
theorem qis.cells{i:Nat}{t:T}{n:Int}{r:Nat}{cs':List Value}(h:qis Γ σ cs i t n r)(a:∀j,j<5->cs'[i*5+j]?=cs[i*5+j]?):qis Γ σ cs' i t n r:=by
 let⟨R,b,k,g,f,e,d,c,q,p,o,m,l⟩:=h;exact⟨R,b,k,g,f,e,d,c,(a 0 (by decide)).trans q,(a 1 (by decide)).trans p,(a 2 (by decide)).trans o,(a 3 (by decide)).trans m,(a 4 (by decide)).trans l⟩
theorem Stk.later(h:Stk B N Γ σ w st ids g cap cs)(a:Ext Γ w Γ' w')(e:∀r,r∈ids->∀R,σ.rw[r]?=some R->σ'.rw[r]?=some R):Stk B N Γ' σ' w' st ids g cap cs:=by
 let⟨d,c⟩:=h.priv.ext a (qci h.own).2;exact⟨h.len,h.nd,d,qkM h.own c,λ i t n r f b=>(h.node i t n r f b).later a.le (e r (wc b))⟩
theorem Stk.grown{a:Option Nat}(h:Stk B N Γ σ w st ids g cap cs)(c:w.grownBy w' a)(b:some g≠a):Stk B N Γ σ w' st ids g cap cs:=
 ⟨h.len,h.nd,h.priv,qkM h.own (c.block g (qci h.own).2 b),h.node⟩
theorem Stk.cell(h:Stk B N Γ σ w st ids g cap cs){k:Nat}{u:Value}(a:cs[k]?=some u):w.cell? ⟨g,k,none⟩=some u/\w.frozen? ⟨g,k,none⟩=false:=by
 refine⟨?_,h.own.frozenAt k⟩;rw[h.own.cellAt k (by rw[<-h.own.1];exact getElem?_lt a)];exact a
theorem Stk.at(h:Stk B N Γ σ w st ids g cap cs){i:Nat}{t:T}{n:Int}(b:st[i]?=some (t,n)):∃r,ids[i]?=some r/\qis Γ σ cs i t n r:=by
 have a:i<ids.length:=by rw[h.len];exact getElem?_lt b
 exact⟨_,List.getElem?_eq_getElem a,h.node i t n _ b (List.getElem?_eq_getElem a)⟩
theorem Stk.left(h:Stk B N Γ σ w st ids g cap cs){i:Nat}{t:T}{n:Int}(l:st[i]?=some (t,n))(a:Int):Stk B N Γ σ (w.setCell ⟨g,i*5+4,none⟩ (.int .i64 a)) (st.set i (t,a)) ids g cap (cs.set (i*5+4) (.int .i64 a)):=by
 have s:=getElem?_lt l;have d:i*5+4<cs.length:=by rw[h.own.1];omega
 refine⟨by rw[wH];exact h.len,h.nd,h.priv,by rw[wH];exact(h.own.stored _ _).1,λ j o m r c f=>?_⟩;rw[List.getElem?_set]at c;split at c
 .rename_i e;subst e;cases c;let⟨R,p,A,z,y,x,v,u,F,E,D,C,G⟩:=h.node i t n r l f;have b:∀q,q≠i*5+4->(cs.set (i*5+4) (.int .i64 a))[q]?=cs[q]?:=λ q k=>by rw[List.getElem?_set_ne (λ e=>k e.symm)]
  refine⟨R,p,A,z,y,x,v,u,(b _ (by omega)).trans F,(b _ (by omega)).trans E,(b _ (by omega)).trans D,(b _ (by omega)).trans C,?_⟩;rw[List.getElem?_set_self d]
 .rename_i e;refine(h.node j o m r c f).cells λ q k=>?_;rw[List.getElem?_set_ne (by omega)]
theorem Stk.push(h:Stk B N Γ σ w st ids g cap cs){s:Value}{nk sk:Int}{nm:List UInt8}{lf:Int}{o:Value}{r:Nat}{R:Row}(F:σ.rw[r]?=some R)(K:R.k=4)(J:R.fz=0)(I:R.off=false)(H:R.c=[])(G:Rep Γ (.rs r 0 0 R.ver false) o)(A:r ∉ ids)
  (l:w'.ownsRow B N 5 s (st.length+1) (cs++[.int .i64 nk,.string ⟨nm.toArray⟩,.int .i64 sk,o,.int .i64 lf])) (z:s.ownBlock=some g\/∀k,s.ownBlock=some k->qd0 Γ k):
  ∃j d,s=.slice (some ⟨j,0,none⟩) ((st.length+1:Nat)) d/\Stk B N Γ σ w' (st++[(.mk nk nm sk [],lf)]) (ids++[r]) j d (cs++[.int .i64 nk,.string ⟨nm.toArray⟩,.int .i64 sk,o,.int .i64 lf]):=by
 have D:=h.own.1
 obtain⟨j,d,v⟩:∃j d,s=.slice (some ⟨j,0,none⟩) ((st.length+1:Nat)) d:=by
  obtain⟨_,O⟩|⟨j,d,L,e,_⟩:=l.2
  .omega
  .exact⟨j,d,e⟩
 subst v;refine⟨j,d,rfl,⟨by simp[h.len],?_,?_,by simpa using l,λ i t n y p f=>?_⟩⟩
 .rw[List.nodup_append];exact⟨h.nd,by simp,λ a E b x=>by simp at x;subst x;exact λ e=>A (e▸E)⟩
 .obtain e|e:=z
  .cases e;exact h.priv
  .exact e j rfl
 .rw[List.getElem?_append]at p f;rw[h.len]at f;split at p
  .rename_i m;rw[if_pos m]at f;refine(h.node i t n y p f).cells λ q M=>?_;rw[List.getElem?_append_left (by omega)]
  .rename_i m;rw[if_neg m]at f
   have C:i=st.length:=by
    have:=getElem?_lt p;simp at this;omega
   subst C;simp at p f;obtain⟨rfl,rfl⟩:=p;subst f
   have u:∀q,(cs++[.int .i64 nk,.string ⟨nm.toArray⟩,.int .i64 sk,o,.int .i64 lf])[st.length*5+q]?=([.int .i64 nk,.string ⟨nm.toArray⟩,.int .i64 sk,o,.int .i64 lf]:List Value)[q]?:=λ q=>by
    rw[List.getElem?_append_right (by omega)];congr 1;omega
   exact⟨R,o,F,K,J,I,H,G,u 0,u 1,u 2,u 3,u 4⟩
theorem Stk.shrink(h:Stk B N Γ σ w st ids g cap cs){p:Nat}(e:p<=st.length):Stk B N Γ σ w (st.take p) (ids.take p) g cap (cs.take (p*5)):=by
 have a:(st.take p).length=p:=by rw[wm];omega
 refine⟨by rw[a,wm,h.len];omega,h.nd.sublist (List.take_sublist _ _),h.priv,by rw[a];exact quL h.own e,λ i t n r b c=>?_⟩;rw[List.getElem?_take]at b c;split at b<;>try cases b
 rename_i d;rw[if_pos d]at c;refine(h.node i t n r b c).cells λ j f=>?_;rw[List.getElem?_take,if_pos (by omega)]
theorem Stk.kid(h:Stk B N Γ σ w st ids g cap cs)(v:Ext Γ w Γ' w'){q:Nat}(Z:q<st.length){t:T}{n:Int}(J:st[q]?=some (t,n)){r:Nat}(y:ids[q]?=some r)(x:T)
  (m:∀i s,i<q->ids[i]?=some s->∀R,σ.rw[s]?=some R->σ'.rw[s]?=some R) {R:Row} (M:σ'.rw[r]?=some R) (U:R.k=4) (S:R.fz=0) (Q:R.off=false) (P:R.c=(t.kids++[x]).map (qd .term)) {f:Value} (O:Rep Γ' (.rs r 0 (t.kids.length+1) R.ver false) f):
  Stk B N Γ' σ' (w'.setCell ⟨g,q*5+3,none⟩ f) (st.take q++[(.mk t.kind t.name t.sort (t.kids++[x]),n)]) (ids.take (q+1)) g cap ((cs.set (q*5+3) f).take ((q+1)*5)):=by
 let⟨D,C⟩:=h.priv.ext v (qci h.own).2
 have l:(st.take q++[(T.mk t.kind t.name t.sort (t.kids++[x]),n)]).length=q+1:=by
  rw[wd,wm];simp;omega
 have G:=quL ((qkM h.own C).stored (q*5+3) f).1 (p:=q+1) (by omega);have L:=h.own.1;refine⟨by rw[l,wm,h.len];omega,h.nd.sublist (List.take_sublist _ _),D,by rw[l];exact G,λ i A E s b a=>?_⟩;rw[List.getElem?_take]at a;split at a<;>try cases a
 rename_i H
 have u:∀j,j<5->((cs.set (q*5+3) f).take ((q+1)*5))[i*5+j]?=(cs.set (q*5+3) f)[i*5+j]?:=λ j z=>by
  rw[List.getElem?_take,if_pos (by omega)]
 have d:∀k,k≠q*5+3->(cs.set (q*5+3) f)[k]?=cs[k]?:=λ k I=>by rw[List.getElem?_set_ne (λ e=>I e.symm)]
 rw[List.getElem?_append,wm,kw (by omega)]at b;split at b
 .rename_i o;rw[List.getElem?_take,if_pos o]at b;exact((h.node i A E s b a).later v.le (m i s o a)).cells λ j z=>(u j z).trans (d _ (by omega))
 .rename_i o;have K:i=q:=by omega
  subst K;simp at b;obtain⟨rfl,rfl⟩:=b;rw[y]at a;cases a;let⟨R0,F,b1,b2,b3,b4,b5,b6,Y,X,W,a3,V⟩:=h.node i t n r J y;refine⟨R,f,M,U,S,Q,P,(by show Rep Γ' (.rs r 0 (t.kids++[x]).length R.ver false) f;rw[wd];exact O),(u 0 (by decide)).trans ((d _ (by omega)).trans Y),(u 1 (by decide)).trans ((d _ (by omega)).trans X),(u 2 (by decide)).trans ((d _ (by omega)).trans W),(u 3 (by decide)).trans ?_,(u 4 (by decide)).trans ((d _ (by omega)).trans V)⟩;rw[List.getElem?_set_self (by omega)]
end
end Go.AmZ
namespace Go.AmZ
open Go Go.RowKit Go.GxZ
structure RS (Γ0:Gh) (w0:World) (rd:Val RD) (Γ:Gh) (σ:St) (w:World):Prop where
 x:Ext Γ0 w0 Γ w
 i:Inv Γ σ w
 bx:σ.bx=[qd RD rd]
abbrev qoI(F:Val RD->Option ((Val RD×Unit)×((Int×List UInt8×Int×List T×Int×Unit)×Unit))):qnc:=⟨[.box [.val RD]],[.agg [.val (.int .i64),.val .str,.val (.int .i64),.row .term,.val (.int .i64)]],λ x=>F x.1⟩
section
variable {P:Program}{Γ0 Γ:Gh}{σ:St}{w0 w:World}{rd:Val RD}
theorem RS.drew(h:RS Γ0 w0 rd Γ σ w):RS Γ0 w0 rd Γ σ {w with drawn:=w.drawn+1}:=⟨h.x.trans (Ext.drew _ _),h.i.drew,h.bx⟩
theorem RS.box(h:RS Γ0 w0 rd Γ σ w):w.cell? ⟨Γ.β 0,0,none⟩=some (.string ⟨rd.1.toArray⟩)/\w.cell? ⟨Γ.β 0,1,none⟩=some (.int .i64 rd.2.1)/\w.cell? ⟨Γ.β 0,2,none⟩=some (.bool rd.2.2):=by
 let⟨vs,e,g,d,j⟩:=h.i.box 0 (qd RD rd) (by rw[h.bx];rfl);have f:=QJ g;have c:∀(x:Value) (u:Value),Rep Γ (.v x) u->u=x:=λ x u h=>by cases h;rfl
 refine⟨?_,?_,?_⟩<;>rw[f]
 .let⟨u,a,b⟩:=d.get (i:=0) (x:=.v (.string ⟨rd.1.toArray⟩)) rfl;rw[c _ _ b]at a;simpa using a
 .let⟨u,a,b⟩:=d.get (i:=1) (x:=.v (.int .i64 rd.2.1)) rfl;rw[c _ _ b]at a;simpa using a
 .let⟨u,a,b⟩:=d.get (i:=2) (x:=.v (.bool rd.2.2)) rfl;rw[c _ _ b]at a;simpa using a
theorem RS.grown{w':World}{c:Option Nat}(h:RS Γ0 w0 rd Γ σ w)(e:w.grownBy w' c)(d:∀b,c=some b->qd0 Γ b/\w0.heap.size<=b)(f:w.drawn<=w'.drawn):RS Γ0 w0 rd Γ σ w':=
 let⟨a,b⟩:=qIB h.x h.i e d f;⟨a,b,h.bx⟩
theorem RS.set(h:RS Γ0 w0 rd Γ σ w){g:Nat}(a:qd0 Γ g)(c:w0.heap.size<=g)(k:Nat)(u:Value):RS Γ0 w0 rd Γ σ (w.setCell ⟨g,k,none⟩ u):=
 h.grown (qI0 w g k u) (λ b e=>by cases e;exact⟨a,c⟩) (wa _)
theorem RS.put4(h:RS Γ0 w0 rd Γ σ w){b:Nat}(a:qd0 Γ b)(c:w0.heap.size<=b)(g f e d:Value):RS Γ0 w0 rd Γ σ ((((w.setCell ⟨b,0,none⟩ g).setCell ⟨b,1,none⟩ f).setCell ⟨b,2,none⟩ e).setCell ⟨b,3,none⟩ d):=
 (((h.set a c 0 g).set a c 1 f).set a c 2 e).set a c 3 d
theorem qBi:Rep Γ (.sl 4 [] 1) (.slice none 0 0):=.sl _ _ _ _ 0 0 0 0 (λ _ _=>undef) rfl (λ _=>wa _) (λ _=>rfl) (λ e h=>by cases h) (λ e h=>by cases h) (by decide) (.inl rfl) (λ i e j x h=>by cases h) (λ i e j x h=>by cases h)
theorem RS.alloc(h:RS Γ0 w0 rd Γ σ w)(o:Obj):RS Γ0 w0 rd Γ σ (w.alloc o):=
 h.grown (World.grownBy_alloc w o none) (λ b e=>by cases e) (wa _)
theorem qvv{f:FuncId}{F:Val RD->Option ((Val RD×Unit)×((Int×List UInt8×Int×List T×Int×Unit)×Unit))}(C:qS P f (sgP (qoI F))){b:Val RD}{nk sk lf:Int}{nm:List UInt8}{ks:List T}(A:F rd=some ((b,()),((nk,nm,sk,ks,lf,()),())))
  (h:RS Γ0 w0 rd Γ σ w):Calls P f #[.pointer (some ⟨Γ.β 0,0,none⟩)] w λ e w'=>∃Γ' σ' o,e=.returned (.agg #[.int .i64 nk,.string ⟨nm.toArray⟩,.int .i64 sk,o,.int .i64 lf])/\Ext Γ w Γ' w'/\RS Γ0 w0 b Γ' σ' w'/\σ'.rw=σ.rw++[⟨4,ks.map (qd .term),0,0,false⟩]/\Rep Γ' (.rs σ.rw.length 0 ks.length 0 false) o:=by
 have l:Γ.nb=1:=by rw[h.i.nb,h.bx];rfl
 have g:Qk σ [.ptr 0 0] (sgP (qoI F))=some (.agg [.v (.int .i64 nk),.v (.string ⟨nm.toArray⟩),.v (.int .i64 sk),.rs σ.rw.length 0 ks.length 0 false,.v (.int .i64 lf)],some ⟨[qd RD b],σ.rw++[⟨4,ks.map (qd .term),0,0,false⟩],0::σ.wr,σ.wrr⟩):=by
  let⟨I,rw,c,a⟩:= σ;have m:I=[qd RD rd]:=h.bx;subst m;have B:qD RD ((qd RD rd).take (Ty.size RD))=some rd:=jR RD rd
  have m:qiN ⟨[qd RD rd],[],[],[]⟩ [.val RD] 0 0 (.ptr 0 0)=some ((rd,()),0):=by
   show(match qD RD ((qd RD rd).take (Ty.size RD))with
    |some v=>match qfe ⟨[qd RD rd],[],[],[]⟩ [] 0 ((qd RD rd).drop (Ty.size RD))with
      |some (vs,n)=>some ((v,vs),n)
      |none=>none
    |none=>none)=_
   rw[B];rfl
  have s:dS ⟨[qd RD rd],[],[],[]⟩ (qoI F).args 0 0 [.ptr 0 0]=some (rd,()):=by
   show(match qiN ⟨[qd RD rd],[],[],[]⟩ [.val RD] 0 0 (.ptr 0 0)with
    |some (v,k)=>match dS ⟨[qd RD rd],[],[],[]⟩ [] 1 k []with
      |some vs=>some (toB [.val RD] v,vs)
      |none=>none
    |none=>none)=_
   rw[m];rfl
  have z:sgP (qoI F) ⟨[qd RD rd],[],[],[]⟩ [.ptr 0 0]=some (.agg [.v (.int .i64 nk),.v (.string ⟨nm.toArray⟩),.v (.int .i64 sk),.rs 0 0 ks.length 0 false,.v (.int .i64 lf)],some ⟨[qd RD b],[⟨4,ks.map (qd .term),0,0,false⟩],[0],[]⟩):=by
   unfold sgP;rw[s];dsimp only;rw[A];rfl
  have q:qfA ⟨[qd RD rd],rw,c,a⟩ [.ptr 0 0]=true:=rfl;have H:qI ⟨[qd RD rd],rw,c,a⟩ (jZ ⟨[qd RD rd],rw,c,a⟩ [.ptr 0 0]) (qbf ⟨[qd RD rd],rw,c,a⟩ [.ptr 0 0])=⟨[qd RD rd],[],[],[]⟩:=rfl;unfold Qk;rw[q]
  show(match sgP (qoI F) (qI ⟨[qd RD rd],rw,c,a⟩ (jZ ⟨[qd RD rd],rw,c,a⟩ [.ptr 0 0]) (qbf ⟨[qd RD rd],rw,c,a⟩ [.ptr 0 0])) [.ptr 0 0]with
   |some r=>some (qfR ⟨[qd RD rd],rw,c,a⟩ [0] [] r)
   |none=>none)=_
  rw[H,z];rfl
 refine(qn8 (λ Γ σ j r y d t=>C.2 Γ σ w j _ r y d t) h.i (waM (Rep.ptr 0 0 (by rw[l];exact wal)) .nil) g).mono ?_;rintro e w' ⟨v,Γ',rfl,p,E,D,O⟩;cases D with
 |agg _ us u G d=>
 match us,u with
 |[u0,u1,u2,u3,u4],_=>
 have N:=d 0 _ _ rfl rfl;have M:=d 1 _ _ rfl rfl;have L:=d 2 _ _ rfl rfl;have K:=d 3 _ _ rfl rfl;have J:=d 4 _ _ rfl rfl;cases N;cases M;cases L;cases J;exact⟨Γ',_,u3,rfl,p,⟨h.x.trans p,E,rfl⟩,rfl,K⟩
theorem qCL(p:Inv Γ σ w){cs:List Value}{i:Nat}{t:T}{n:Int}{r:Nat}(h:qis Γ σ cs i t n r):
  ∃a σ1 d,σ1.bx=σ.bx/\(∀b,b≠r->σ1.rw[b]?=σ.rw[b]?)/\Ext Γ w a w/\Inv a σ1 w/\cs[i*5+3]?=some d/\Rep a (.sl 4 (t.kids.map (qd .term)) 1) d/\d.oneCell'=true:=by
 let⟨R,d,j,B,E,D,s,q,I,H,G,C,F⟩:=h;let⟨m,l,v,u⟩:=qwJ p j σ.wrr;refine⟨_,{σ with rw:=σ.rw.modify r qk8,wrr:=σ.wrr},d,rfl,λ b z=>?_,qkb l w,v,C,?_,q.one rfl⟩
 .show(σ.rw.modify r qk8)[b]?=_;rw[List.getElem?_modify];cases σ.rw[b]? with
  |none=>rfl
  |some x=>exact congrArg some (if_neg (λ e=>z (Eq.symm e)))
 .have:=qlg p l.le (y:=.rs r 0 t.kids.length R.ver false) (λ b f R' g=>by
    simp only[rsC,wF]at f;subst f;rw[j]at g;cases g;exact u) q
  have o:R.c.length=t.kids.length:=by rw[s,wB]
  have A:qU σ.rw (.rs r 0 t.kids.length R.ver false)=.sl 4 (t.kids.map (qd .term)) 1:=by
   simp only[qU,j]
   have:qjO R R.k 0 t.kids.length R.ver=some (t.kids.map (qd .term)):=by
    unfold qjO;rw[if_pos ⟨rfl,rfl,by omega⟩,wP,kH (by omega),s]
   rw[this,B]
  rw[A]at this;exact this
theorem qgO{t:T}{a:Value}(h:Rep Γ (.sl 4 (t.kids.map (qd .term)) 1) a):RepL Γ (qd .term t) [.int .i64 t.kind,.string ⟨t.name.toArray⟩,.int .i64 t.sort,a]:=by
 have b:qd .term t=[.v (.int .i64 t.kind),.v (.string ⟨t.name.toArray⟩),.v (.int .i64 t.sort),.sl 4 (t.kids.map (qd .term)) 1]:=by
  let⟨k,n,s,l⟩:=t;show JQ _=_;rw[JQ,qks];rfl
 rw[b];exact waM (.v _ rfl) (waM (.v _ rfl) (waM (.v _ rfl) (waM h .nil)))
theorem qoy{k s:Int}{b:ByteArray}{a:Value}(h:a.oneCell'=true):∀u∈([.int .i64 k,.string b,.int .i64 s,a]:List Value),u.oneCell'=true:=by
 intro u c;simp only[ww,xe,or_false]at c;obtain rfl|rfl|rfl|rfl:=c<;>first|rfl|exact h
theorem qKB(n:Inv Γ σ w){t:T}{b:Value}(h:Rep Γ (.sl 4 (t.kids.map (qd .term)) 1) b)(e:TypeId):
  ∃Γ',Ext Γ w Γ' (w.alloc (.cells #[.int .i64 t.kind,.string ⟨t.name.toArray⟩,.int .i64 t.sort,b] e))/\Inv Γ' σ (w.alloc (.cells #[.int .i64 t.kind,.string ⟨t.name.toArray⟩,.int .i64 t.sort,b] e))/\Rep Γ' (.sl (Ty.size .term) [qd .term t] 2) (.slice (some ⟨w.heap.size,0,none⟩) 1 1):=by
 let⟨Γ',g,l,k⟩:=qyZ n (vs:=[.int .i64 t.kind,.string ⟨t.name.toArray⟩,.int .i64 t.sort,b]) (qoy (h.one rfl)) e;refine⟨Γ',g,l,.sl _ _ _ _ 1 1 w.heap.size 0 (λ _ j=>([.int .i64 t.kind,.string ⟨t.name.toArray⟩,.int .i64 t.sort,b]:List Value).getD j undef) rfl (λ _=>wa _) (λ _=>rfl) ?_ ?_ (by decide) (.inr rfl) ?_ ?_⟩
 .intro e f;rw[wF.1 f];exact ye .term t
 .intro e f;rw[wF.1 f];exact zo .term t
 .intro i e j x a d;cases i with
  |succ i=>cases a
  |zero=>
    cases a;let⟨u,c,_⟩:=(qgO h).get d;rw[wE,kI,wE,k j u c,List.getD_eq_getElem?_getD,c];rfl
 .intro i e j x a d;cases i with
  |succ i=>cases a
  |zero=>
    cases a;let⟨u,c,m⟩:=(qgO h).get d;rw[List.getD_eq_getElem?_getD,c];exact m.mono g.le
theorem qE3{B N:Nat}{f:List (T×Int)}{a:List Nat}{g cap:Nat}{cs:List Value}(h:RS Γ0 w0 rd Γ σ w)(j:Stk B N Γ σ w f a g cap cs){q:Nat}{x:T}{n:Int}(m:f[q]?=some (x,n)):
  ∃Γ' σ' c,cs[q*5+3]?=some c/\RS Γ0 w0 rd Γ' σ' w/\Stk B N Γ' σ' w (f.take q) (a.take q) g cap (cs.take (q*5))/\Rep Γ' (.sl 4 (x.kids.map (qd .term)) 1) c/\Ext Γ w Γ' w:=by
 let⟨A,k,z⟩:=j.at m;let⟨d,σ1,c,y,v,l,u,t,s,C⟩:=qCL h.i z;refine⟨d,σ1,c,t,⟨h.x.trans l,u,y.trans h.bx⟩,(j.shrink (xI (getElem?_lt m))).later l λ r o R p=>?_,s,l⟩;rw[v r λ e=>?_];exact p;subst e;let⟨i,b⟩:=wav.1 o;rw[List.getElem?_take]at b;split at b<;>try cases b
 have:=(List.getElem?_inj (getElem?_lt b) j.nd).1 (b.trans k.symm);omega
theorem qEG{B N:Nat}{A:List (T×Int)}{f:List Nat}{g cap:Nat}{cs:List Value}{z V:TypeId}(hT:qnR P .term z V 56)(h:RS Γ0 w0 rd Γ σ w)(o:Stk B N Γ σ w A f g cap cs)(hB:w0.heap.size<=B){q:Nat}{t x:T}{n:Int}{J:Value}(E:A[q]?=some (t,n))(X:Rep Γ (.sl 4 (x.kids.map (qd .term)) 1) J)(l:zy (t.kids.length+1) 56=true)(e ty:TypeId):
  ∃p a,cs[q*5+3]?=some p/\f[q]?=some a/\(∃C D,p=.slice C t.kids.length D)/\
  ∃d w',(Builtin.append_ #[z,z] ty #[p,.slice (some ⟨w.heap.size,0,none⟩) 1 1]).run P (w.alloc (.cells #[.int .i64 x.kind,.string ⟨x.name.toArray⟩,.int .i64 x.sort,J] e))=.ok d w'/\(∃C D,d=.slice C (t.kids.length+1) D)/\
  ∃Γ' σ',Ext Γ w Γ' w'/\RS Γ0 w0 rd Γ' σ' (w'.setCell ⟨g,q*5+3,none⟩ d)/\Stk B N Γ' σ' (w'.setCell ⟨g,q*5+3,none⟩ d) (A.take q++[(.mk t.kind t.name t.sort (t.kids++[x]),n)]) (f.take (q+1)) g cap ((cs.set (q*5+3) d).take ((q+1)*5)):=by
 let⟨U,S,c2,c3⟩:=qKB h.i X e;let⟨a,j,Nq⟩:=o.at E;let⟨R,p,e1,Q,O,e4,M,L,f0,f1,f2,f3,f4⟩:=Nq;have v:R.c.length=t.kids.length:=by rw[M,wB]
 have r:=of_decide_eq_true l
 have y:yc (Ty.size .term) 56 σ (.rs a 0 t.kids.length R.ver false) [qd .term x]=some (.rs a 0 (t.kids.length+1) (R.ver+1) false,some {σ with rw:=σ.rw.set a {R with c:=R.c++[qd .term x],ver:=R.ver+1},wrr:=a::σ.wrr}):=by
  have m:R.k=Ty.size .term/\R.ver=R.ver/\t.kids.length=R.c.length/\(0:Nat)=0/\false=false/\R.fz<=R.c.length/\(t.kids.length+[qd .term x].length)*56<=2^47/\t.kids.length+[qd .term x].length<2^62:=
   ⟨Q,rfl,v.symm,rfl,rfl,by rw[O];exact we _,r.1,r.2⟩
  have G:qsg R (Ty.size .term) 0 t.kids.length R.ver false 56 [qd .term x]=some ({R with c:=R.c++[qd .term x],ver:=R.ver+1},t.kids.length+1):=if_pos m;have u:zk (qam [qd .term x]) 0=false:=rfl;simp only[yc,u,e1,G]
 let⟨d,w',Γ',g1,g2,g3,K⟩:=qqM hT c2 (L.mono S.le) c3 (by intro q' hq';rw[wF.1 hq'];exact ye .term x) (by intro q' hq';rw[wF.1 hq'];exact zo .term x) y ty;have b:=S.trans g2;have F:=(o.priv.ext b (qci o.own).2).1;have Z:=(qci o.own).1;refine⟨p,a,f3,j,(by cases L;exact⟨_,_,rfl⟩),d,w',g1,(by cases K;exact⟨_,_,rfl⟩),Γ',_,b,RS.set ⟨h.x.trans b,g3,h.bx⟩ F (by omega) _ _,o.kid b (getElem?_lt E) E j x (λ i I hi s R' H=>?_) (R:={R with c:=R.c++[qd .term x],ver:=R.ver+1}) ?_ Q O e4 (by show R.c++_=_;rw[M,wU];rfl) K⟩
 .have Y:=getElem?_lt s
  have W:I≠a:=λ e=>by
   have:=(List.getElem?_inj Y o.nd).1 (s.trans (e▸j.symm));omega
  show(σ.rw.set a _)[I]?=_;rw[List.getElem?_set_ne (λ e=>W e.symm)];exact H
 .show(σ.rw.set a _)[a]?=_;rw[List.getElem?_set_self (getElem?_lt e1)]
theorem qBG{vs:Array Value}{a:Nat}{f e c b:Value}(j:a+4<=vs.size)(off:Nat):((((vs.setIfInBounds a f).setIfInBounds (a+1) e).setIfInBounds (a+2) c).setIfInBounds (a+3) b)[off]?=if off<a then vs[off]? else if off<a+4 then([f,e,c,b]:List Value)[off-a]? else vs[off]?:=by
 simp only[Array.getElem?_setIfInBounds,xP];by_cases h:off<a
 .rw[if_pos h,if_neg (by omega),if_neg (by omega),if_neg (by omega),if_neg (by omega)]
 .rw[if_neg h];by_cases g:off<a+4
  .rw[if_pos g];obtain⟨d,rfl⟩:∃d,off=a+d:=⟨off-a,by omega⟩
   rw[show a+d-a=d by omega];have i:d<4:=by omega
   match d,i with
   |0,_=>rw[if_neg (by omega),if_neg (by omega),if_neg (by omega),if_pos (by omega),if_pos (by omega)];rfl
   |1,_=>rw[if_neg (by omega),if_neg (by omega),if_pos (by omega),if_pos (by omega)];rfl
   |2,_=>rw[if_neg (by omega),if_pos (by omega),if_pos (by omega)];rfl
   |3,_=>rw[if_pos (by omega),if_pos (by omega)];rfl
  .rw[if_neg g,if_neg (by omega),if_neg (by omega),if_neg (by omega),if_neg (by omega)]
theorem qNp{B N:Nat}{O:List (T×Int)}{s:List Nat}{g cap:Nat}{cs:List Value}(h:RS Γ0 w0 rd Γ σ w)(f:Stk B N Γ σ w O s g cap cs){q:Nat}{t x z:T}{ks:List T}{n:Int}{o:Value}(hq:O[q]?=some (t,n))(K:t.kids=ks++[z])(hx:Rep Γ (.sl 4 (x.kids.map (qd .term)) 1) o):
  ∃b m,cs[q*5+3]?=some (.slice (some ⟨b,0,none⟩) (ks.length+1) m)/\b≠g/\QB Γ b/\(∀j,j<4->∃u,w.cell? ⟨b,ks.length*4+j,none⟩=some u)/\(∀j,w.frozen? ⟨b,j,none⟩=false)/\
  ∃Γ' σ',Ext Γ w Γ' ((((w.setCell ⟨b,ks.length*4,none⟩ (.int .i64 x.kind)).setCell ⟨b,ks.length*4+1,none⟩ (.string ⟨x.name.toArray⟩)).setCell ⟨b,ks.length*4+2,none⟩ (.int .i64 x.sort)).setCell ⟨b,ks.length*4+3,none⟩ o)/\
   RS Γ0 w0 rd Γ' σ' ((((w.setCell ⟨b,ks.length*4,none⟩ (.int .i64 x.kind)).setCell ⟨b,ks.length*4+1,none⟩ (.string ⟨x.name.toArray⟩)).setCell ⟨b,ks.length*4+2,none⟩ (.int .i64 x.sort)).setCell ⟨b,ks.length*4+3,none⟩ o)/\
   Stk B N Γ' σ' ((((w.setCell ⟨b,ks.length*4,none⟩ (.int .i64 x.kind)).setCell ⟨b,ks.length*4+1,none⟩ (.string ⟨x.name.toArray⟩)).setCell ⟨b,ks.length*4+2,none⟩ (.int .i64 x.sort)).setCell ⟨b,ks.length*4+3,none⟩ o) (O.set q (.mk t.kind t.name t.sort (ks++[x]),n)) s g cap cs:=by
 let⟨r,hr,R,ku,e1,J,e3,e4,e5,e6,f0,f1,f2,f3,f4⟩:=f.at hq;have H:=h.i.row r R e1;have D:R.c.length=ks.length+1:=by rw[e5,K];simp
 have V:t.kids.length=ks.length+1:=by rw[K];simp
 rw[V]at e6;have G:R.c[ks.length]?=some (qd .term z):=by rw[e5,K];simp
 have hz:=H.real G;have C:=H.off e4
 obtain⟨b,m,rfl,hb⟩:∃b m,ku=.slice (some ⟨b,0,none⟩) (ks.length+1) m/\b=Γ.cur r:=by
  cases e6 with
  |rs _ _ _ _ _ a m v Q hc hf hl=>
    let⟨I,h2⟩:=hl (H.ver (by rw[e3];exact we _)).symm;obtain I|I:=I
    .omega
    .rw[C,kI,wE]at I;exact⟨_,m,by rw[I],rfl⟩
 subst hb;have v:r<Γ.nr:=by rw[h.i.nr];exact getElem?_lt e1
 have A:QB Γ (Γ.cur r):=.inr ⟨r,v,hz,rfl⟩;have Y:Γ.cur r≠g:=λ e=>f.priv.own (e▸A);let⟨vs,e,fr,M,c2,c3,c4⟩:=H.blk hz;have X:fr=(0,0):=c4 (by omega);subst X;have F:=H.fit;rw[C,D,J,<-c2]at F;have s1:=heap_setCell_same w (Γ.cur r) (ks.length*4) vs e (.int .i64 x.kind) M;have s2:=heap_setCell_same _ (Γ.cur r) (ks.length*4+1) _ e (.string ⟨x.name.toArray⟩) s1;have s3:=heap_setCell_same _ (Γ.cur r) (ks.length*4+2) _ e (.int .i64 x.sort) s2;have s4:=heap_setCell_same _ (Γ.cur r) (ks.length*4+3) _ e o s3
 have l:∀k,k≠Γ.cur r->((((w.setCell ⟨Γ.cur r,ks.length*4,none⟩ (.int .i64 x.kind)).setCell ⟨Γ.cur r,ks.length*4+1,none⟩ (.string ⟨x.name.toArray⟩)).setCell ⟨Γ.cur r,ks.length*4+2,none⟩ (.int .i64 x.sort)).setCell ⟨Γ.cur r,ks.length*4+3,none⟩ o).heap[k]?=w.heap[k]?:=λ k L=>by
  rw[Below.heap_setCell _ _ _ _ L,Below.heap_setCell _ _ _ _ L,Below.heap_setCell _ _ _ _ L,Below.heap_setCell _ _ _ _ L]
 let⟨Γ',p,z2⟩:=qrQ h.i e1 G (by rw[e3];exact we _) e4 (e1:=qd .term x) ((ye .term x).trans J.symm) (zo .term x) (λ vs' e' ab Q=>by
   rw[M]at Q;cases Q;refine⟨s4,by simp,λ off ho=>?_⟩;rw[J]at ho;rw[qBG (by omega)];split
   .rfl
   .rw[if_neg (by omega)])
  (λ j y W=>by
   have aa:j<4:=by have:=getElem?_lt W;rwa [ye .term x]at this
   let⟨u,hu,S⟩:=(qgO hx).get W;refine⟨u,?_,S,qoy (hx.one rfl) u (wc hu)⟩;rw[J,qBG (by omega),if_neg (by omega),if_pos (by omega),show ks.length*4+j-ks.length*4=j by omega];exact hu) l rfl rfl rfl (by simp) (wa _) σ.wrr
 refine⟨Γ.cur r,m,f3,Y,A,λ j W=>⟨vs[ks.length*4+j]'(by omega),?_⟩,λ j=>frozen_of_row w _ j _ _ M,Γ',_,p,⟨h.x.trans p,z2,h.bx⟩,?_⟩
 .rw[QJ M,Array.getElem?_eq_getElem]
 .let⟨p1,p2⟩:=f.priv.ext p (qci f.own).2;refine⟨by rw[wH];exact f.len,f.nd,p1,by rw[wH];exact qkM f.own p2,λ i t' n' P E d=>?_⟩;rw[List.getElem?_set]at E;split at E
  .rename_i e;subst e;rw[if_pos (getElem?_lt hq)]at E;cases E;rw[hr]at d;cases d;refine⟨{R with c:=R.c.set ks.length (qd .term x)},_,List.getElem?_set_self (getElem?_lt e1),J,e3,e4,?_,?_,f0,f1,f2,f3,f4⟩
   .show R.c.set ks.length (qd .term x)=(ks++[x]).map (qd .term);rw[e5,K,wU,wU];simp
   .have:=e6.mono p.le;show Rep Γ' (.rs r 0 (ks++[x]).length R.ver false) _;rw[wd];exact this
  .rename_i e;refine(f.node i t' n' P E d).later p.le λ R' Z=>?_
   have U:P≠r:=λ e'=>by
    have:=(List.getElem?_inj (getElem?_lt d) f.nd).1 (d.trans (e'▸hr.symm));omega
   show(σ.rw.set r _)[P]?=_;rw[List.getElem?_set_ne (λ e=>U e.symm)];exact Z
end
end Go.AmZ
namespace Go.AmZ
open Go Go.RowKit Go.GxZ
theorem qnv{P:Program}{o:Oper}{a:Act}{w:World}{K:Act->World->Prop}{Q:Exit->Act->World->Prop}(s x:Operand)(t:TypeId)(c:o.op=Op.call {callee:=Callee.builtin Builtin.append,args := #[s,x],argTypes := #[t,t]}){v d e:Value}{w':World}(g:a.eval s=v)(f:a.eval x=d)
  (b:(Builtin.append_ #[t,t] o.type #[v,d]).run P w=.ok e w') (h:K (a.put o.dst e) w'):Oper.wp P o a w K Q:=by
 unfold Oper.wp;simp[execOp,c,resolve,invoke,builtin,g,f,b,Result.andThen];exact h
theorem qnx{P:Program}{ops:Array Oper}{o:Oper}{a:Act}{w:World}{K:Act->World->Prop}{Q:Exit->Act->World->Prop}{E:Prop}(h:o.guard=none)(s x:Operand)(t:TypeId)(c:o.op=Op.call {callee:=Callee.builtin Builtin.append,args := #[s,x],argTypes := #[t,t]}){v d e:Value}{w':World}(g:a.eval s=v)(f:a.eval x=d)
  (b:(Builtin.append_ #[t,t] o.type #[v,d]).run P w=.ok e w') (i:K (a.put o.dst e) w'):if Region.wanted o (yielded ops a.tmps)=true then Oper.wp P o a w K Q else E:=by
 rw[if_pos (by simp[Region.wanted,h])];exact qnv s x t c g f b i
theorem qxp{P:Program}{ops:Array Oper}{b:List Oper}{o:Oper}{a:Act}{w:World}{Q:Exit->Act->World->Prop}(s x:Operand)(t:TypeId)(j:o.guard=none)(d:o.op=Op.call {callee:=Callee.builtin Builtin.append,args := #[s,x],argTypes := #[t,t]}){v e f:Value}{w':World}(i:a.eval s=v)(g:a.eval x=e)
  (c:(Builtin.append_ #[t,t] o.type #[v,e]).run P w=.ok f w') (k:wpList P ops Q b (a.put o.dst f) w'):wpList P ops Q (o::b) a w:=by
 have h:Region.wanted o (yielded ops a.tmps)=true:=by simp[Region.wanted,j]
 unfold wpList;rw[if_pos h];exact .inl (qnv s x t d i g c k)
abbrev qjJ:=(Val RD×Unit)×((Int×List UInt8×Int×List T×Int×Unit)×Unit)
def qiL(F:Val RD->Option qjJ)(rd:Val RD):Option (Val RD×(Int×List UInt8×Int×Int)):=match F rd with
 |some (r,v)=>match v.1.2.2.2.1 with
   |[]=>some (r.1,v.1.1,v.1.2.1,v.1.2.2.1,v.1.2.2.2.2.1)
   |_::_=>none
 |none=>none
def qAI(F:Val RD->Option qjJ)(c:List (T×Int)->Val RD->Option ((Val RD×Unit)×(T×Unit)))(b:List (T×Int))(rd:Val RD):Option ((Val RD×Unit)×(T×Unit)):=
 cond rd.2.2 (some ((rd,()),(T.mk 0 [] 0 [],()))) (qb b[b.length-1]? λ a=>cond (ilt 0 a.2)
  (cond (zy (b.length+1) 64) (qb (qiL F rd) λ h=>c (b.set (b.length-1) (a.1,iw .i64 (Qo a.2 1))++[(T.mk h.2.1 h.2.2.1 h.2.2.2.1 [],h.2.2.2.2)]) h.1) none)
  (cond (Nat.beq b.length 1) (some ((rd,()),(a.1,()))) (qb b[b.length-2]? λ p=>cond (zy (p.1.kids.length+1) 56) (c (b.take (b.length-2)++[(T.mk p.1.kind p.1.name p.1.sort (p.1.kids++[a.1]),p.2)]) rd) none)))
def qvq(F:Val RD->Option qjJ):Nat->List (T×Int)->Val RD->Option ((Val RD×Unit)×(T×Unit)):=qQ (λ _ _=>none) (qAI F)
def qwP(F:Val RD->Option qjJ)(k:Nat)(rd:Val RD):Option ((Val RD×Unit)×(T×Unit)):=qb (qiL F rd) λ h=>qvq F k [(T.mk h.2.1 h.2.2.1 h.2.2.2.1 [],h.2.2.2.2)] h.1
theorem qsV{F:Val RD->Option qjJ}{rd f:Val RD}{nk sk lf:Int}{nm:List UInt8}(h:qiL F rd=some (f,nk,nm,sk,lf)):F rd=some ((f,()),((nk,nm,sk,[],lf,()),())):=by
 unfold qiL at h;split at h<;>try cases h
 rename_i r v i;split at h<;>cases h;rename_i g;let⟨⟨a,b,c,d,e,_⟩,_⟩:=v;let⟨r,_⟩:=r;have g:d=[]:=g;subst g;exact i
theorem qGx{F:Val RD->Option qjJ}{g:List (T×Int)->Val RD->Option ((Val RD×Unit)×(T×Unit))}{c:List (T×Int)}{rd:Val RD}{r:(Val RD×Unit)×(T×Unit)}(h:qAI F g c rd=some r):
  (rd.2.2=true/\r=((rd,()),(T.mk 0 [] 0 [],())))\/rd.2.2=false/\∃p b lt,c.length=p+1/\c[p]?=some (b,lt)/\
   ((0<lt/\zy (p+2) 64=true/\∃d nk nm sk lf,F rd=some ((d,()),((nk,nm,sk,[],lf,()),()))/\g (c.set p (b,iw .i64 (Qo lt 1))++[(T.mk nk nm sk [],lf)]) d=some r)\/
    ¬ 0<lt/\((p=0/\r=((rd,()),(b,())))\/∃q a n,p=q+1/\c[q]?=some (a,n)/\zy (a.kids.length+1) 56=true/\g (c.take q++[(T.mk a.kind a.name a.sort (a.kids++[b]),n)]) rd=some r)):=by
 unfold qAI at h;cases m:rd.2.2 with
 |true=>rw[m]at h;exact .inl ⟨rfl,(kR h).symm⟩
 |false=>
   rw[m]at h;refine .inr ⟨rfl,?_⟩;cases e:c[c.length-1]? with
   |none=>rw[e]at h;cases h
   |some x=>
     let⟨b,lt⟩:=x;have o:=getElem?_lt e;obtain⟨p,s⟩:∃p,c.length=p+1:=⟨c.length-1,by omega⟩
     rw[s]at h e;simp only[vZ]at h e;rw[e]at h;refine⟨p,b,lt,s,e,?_⟩;have h:cond (ilt 0 lt) _ _=some r:=h;cases i:ilt 0 lt with
     |true=>
       rw[i]at h;have h:cond (zy (p+1+1) 64) (qb (qiL F rd) _) none=some r:=h;cases f:zy (p+1+1) 64 with
       |false=>rw[f]at h;cases h
       |true=>
         rw[f]at h;refine .inl ⟨of_decide_eq_true i,rfl,?_⟩;have h:qb (qiL F rd) _=some r:=h;cases l:qiL F rd with
         |none=>rw[l]at h;cases h
         |some y=>
           let⟨d,nk,nm,sk,lf⟩:=y;rw[l]at h;exact⟨d,nk,nm,sk,lf,qsV l,h⟩
     |false=>
       rw[i]at h;refine .inr ⟨of_decide_eq_false i,?_⟩;have h:cond (Nat.beq (p+1) 1) (some ((rd,()),(b,()))) _=some r:=h;cases j:Nat.beq (p+1) 1 with
       |true=>
         rw[j]at h;exact .inl ⟨by have:=wn j;omega,(kR h).symm⟩
       |false=>
         rw[j]at h;obtain⟨q,rfl⟩:∃q,p=q+1:=⟨p-1,by cases p with|zero=>cases j|succ q=>rfl⟩
         have h:qb c[q+1+1-2]? _=some r:=h;rw[show q+1+1-2=q by omega]at h;cases k:c[q]? with
         |none=>rw[k]at h;cases h
         |some y=>
           let⟨a,n⟩:=y;rw[k]at h;have h:cond (zy (a.kids.length+1) 56) (g (c.take (q+1+1-2)++_) rd) none=some r:=h;rw[show q+1+1-2=q by omega]at h;cases f:zy (a.kids.length+1) 56 with
           |false=>rw[f]at h;cases h
           |true=>rw[f]at h;exact .inr ⟨q,a,n,rfl,k,f,h⟩
theorem qzx{Γ Γ':Gh}(q:∀b o u,Γ.mem b o=some u->Γ'.mem b o=some u){x:AV}{u:Value}(h:Rep Γ x u):qu x=true->Rep Γ' x u:=by
 induction h with
 |v x h=>exact λ _=>.v x h
 |sl k es f a n cap b o us p t s r l y w g z m=>
   exact λ _=>.sl k es f a n cap b o us p t s r l y w (λ i e j x d c=>q _ _ _ (g i e j x d c)) (λ i e j x d c=>m i e j x d c (l e (wc d) x (wc c)))
 |_=>intro h;cases h
section
variable {P:Program}{Γ0 Γ:Gh}{σ0 σ:St}{w0 w:World}{rd:Val RD}
theorem qIq(G:Inv Γ0 σ0 w0)(p:σ0.bx.length=1)(c:σ0.rw=[])(h:RS Γ0 w0 rd Γ σ w){t:T}{us:List Value}(s:RepL Γ (qd .term t) us)(F:∀u∈us,u.oneCell'=true):
  ∃v Γ',(Ending.returned (.agg us.toArray):Ending)=.returned v/\Ext Γ0 w0 Γ' w/\Inv Γ' (turn σ0 (some ⟨[qd RD rd],[],List.range σ0.bx.length,List.range σ0.rw.length⟩)) w/\Rep Γ' (yH .term t) v/\qL {σ0 with wr:=[],wrr:=[]} (turn {σ0 with wr:=[],wrr:=[]} (some ⟨[qd RD rd],[],List.range σ0.bx.length,List.range σ0.rw.length⟩)):=by
 let⟨q,g,C,r⟩:= σ0;have c:g=[]:=c;subst c;obtain⟨y,rfl⟩:∃y,q=[y]:=xX.1 p
 let⟨m,B,H,A,z⟩:=qrh G h.x h.i (by rw[h.bx];exact wa _) [qd RD rd] [] rfl (by simp) k9 [] [] (λ i cs d=>by
  cases i with
  |succ i=>cases d
  |zero=>
    cases d;refine⟨qd RD rd,by rw[h.bx];rfl,(λ h=>nomatch (show true=false from h)),λ m n _ us f=>⟨f.len,λ j x u e k=>qzx (Γ:=Γ) (Γ':=jM Γ m 1 [] 0 []) (λ b o u l=>n.le.mem b o u l) (f.rep j x u e k) (zo RD rd x (wc e))⟩⟩) (λ a so R h=>by cases h) (λ a b j R R' h=>by cases h) [0] []
 refine⟨_,_,rfl,A,z,.agg _ us s.len F λ i x u e f=>qzx (Γ:=Γ) (Γ':=jM Γ m 1 [] 0 []) (λ b o u n=>B.le.mem b o u n) (s.rep i x u e f) (zo .term t x (wc e)),wa _,wa _,λ i d E=>?_,λ i d _=>absurd d (wK _),λ i h=>(by cases h),λ i h=>(by cases h)⟩;have:i=0:=by have:i<1:=d;omega
 exact absurd (by rw[this];exact wF.2 rfl) E
theorem qJF{B N:Nat}{m:List (T×Int)}{c:List Nat}{g cap:Nat}{cs:List Value}{q:TypeId}{i:TypeInfo}{z:Value}(J:P.underlying q=some (.slice N))(M:P.info? N=some i)(I:i.zero=some z)(x:i.size=5)(F:i.bytes=64)(v:z.cells.size=5)
  (h:RS Γ0 w0 rd Γ σ w) (s:Stk B N Γ σ w m c g cap cs) (Y:w0.heap.size<=B) {nk sk lf:Int}{nm:List UInt8}{n:Value}{r:Nat} (U:σ.rw[r]?=some ⟨4,[],0,0,false⟩) (o:Rep Γ (.rs r 0 0 0 false) n) (K:r ∉ c) (d:zy (m.length+1) 64=true) (ty:TypeId):
  ∃t w',(Builtin.append_ #[q,q] ty #[.slice (some ⟨g,0,none⟩) m.length cap,.slice (some ⟨w.heap.size,0,none⟩) 1 1]).run P (w.alloc (.cells #[.int .i64 nk,.string ⟨nm.toArray⟩,.int .i64 sk,n,.int .i64 lf] N))=.ok t w'/\
  ∃l a,t=.slice (some ⟨l,0,none⟩) ((m.length+1:Nat)) a/\RS Γ0 w0 rd Γ σ w'/\Stk B N Γ σ w' (m++[(.mk nk nm sk [],lf)]) (c++[r]) l a (cs++[.int .i64 nk,.string ⟨nm.toArray⟩,.int .i64 sk,n,.int .i64 lf])/\
   w.heap.size<=w'.heap.size/\(∀b,b<w.heap.size->b≠g->w'.heap[b]?=w.heap[b]?)/\(l=g\/w.heap.size<=l):=by
 have S:=s.own.alloc (.cells #[.int .i64 nk,.string ⟨nm.toArray⟩,.int .i64 sk,n,.int .i64 lf] N);have A:=of_decide_eq_true d;have V:=qci s.own
 let⟨t,w',e1,X,p,H⟩:=qkV (P:=P) (w.alloc (.cells #[.int .i64 nk,.string ⟨nm.toArray⟩,.int .i64 sk,n,.int .i64 lf] N)) B q ty N i z 5 64 J M I x F v (by decide) _ m.length cs S ⟨w.heap.size,0,none⟩ 1 1 [.int .i64 nk,.string ⟨nm.toArray⟩,.int .i64 sk,n,.int .i64 lf] rfl
  (λ j u L=>by rw[qBA,World.cell?_alloc_mark];simpa using L) (λ u G=>by
   simp only[ww,xe,or_false]at G;obtain rfl|rfl|rfl|rfl|rfl:=G<;>first|rfl|exact o.one rfl) (by unfold maxLen;omega) (by have:=A.1;omega) (by simp;omega)
 have E:=GxZ.run_drawn _ e1;have f:w.grownBy w' (some g):=⟨p.os,p.tape,p.output,by have:=p.size;simp at this;omega,λ k D C=>(p.block k (by simp;omega) C).trans (Below.heap_alloc _ _ _ D)⟩
 have W:=RS.grown h f (λ b e=>by cases e;exact⟨s.priv,by omega⟩) E;obtain⟨l,a,rfl,y⟩:=Stk.push (Γ:=Γ) (σ:=σ) s (r:=r) (R:=⟨4,[],0,0,false⟩) U rfl rfl rfl rfl o K X (H.imp id λ O k D=>qd0.new h.i (by have:=O k D;simp at this;omega));refine⟨_,w',e1,l,a,rfl,W,y,f.size,λ b Q C=>f.block b Q (λ e=>C (by cases e;rfl)),?_⟩;obtain e|e:=H
 .cases e;exact .inl rfl
 .have:=e l rfl;simp at this;exact .inr (by omega)
theorem qMS{B N:Nat}(h:RS Γ0 w0 rd Γ σ w)(f:B<=w.heap.size){nk sk lf:Int}{nm:List UInt8}{a:Value}{r:Nat}(e:σ.rw[r]?=some ⟨4,[],0,0,false⟩)(c:Rep Γ (.rs r 0 0 0 false) a):
  RS Γ0 w0 rd Γ σ (w.alloc (.cells #[.int .i64 nk,.string ⟨nm.toArray⟩,.int .i64 sk,a,.int .i64 lf] N))/\Stk B N Γ σ (w.alloc (.cells #[.int .i64 nk,.string ⟨nm.toArray⟩,.int .i64 sk,a,.int .i64 lf] N)) [(.mk nk nm sk [],lf)] [r] w.heap.size 1 [.int .i64 nk,.string ⟨nm.toArray⟩,.int .i64 sk,a,.int .i64 lf]:=by
 refine⟨h.alloc _,rfl,by simp,qd0.new h.i (wa _),World.ownsRow_lit w #[.int .i64 nk,.string ⟨nm.toArray⟩,.int .i64 sk,a,.int .i64 lf] 1 f (by decide) rfl,λ i t n g d b=>?_⟩;cases i with
 |succ i=>cases d
 |zero=>
   cases d;cases b;exact⟨_,a,e,rfl,rfl,rfl,rfl,c,rfl,rfl,rfl,rfl,rfl⟩
theorem Stk.id_lt{B N:Nat}{b:List (T×Int)}{a:List Nat}{g cap:Nat}{cs:List Value}(c:Stk B N Γ σ w b a g cap cs):σ.rw.length ∉ a:=λ h=>by
 let⟨i,d⟩:=wav.1 h;have e:i<b.length:=by rw[<-c.len];exact getElem?_lt d
 let⟨R,_,f,_⟩:=c.node i _ _ _ (List.getElem?_eq_getElem e) d;exact absurd (getElem?_lt f) (vK _)
def qcf(Γ:Gh)(w:World)(b:Nat)(e:TypeId):Prop:=qd0 Γ b/\b<w.heap.size/\w.heap[b]?=some (.cells #[.int .i64 0,.string ⟨#[]⟩,.int .i64 0,.slice none 0 0] e (0,0))
theorem qcf.cells{b:Nat}{e:TypeId}(h:qcf Γ w b e):w.cell? ⟨b,0,none⟩=some (.int .i64 0)/\w.cell? ⟨b,1,none⟩=some (.string ⟨#[]⟩)/\w.cell? ⟨b,2,none⟩=some (.int .i64 0)/\w.cell? ⟨b,3,none⟩=some (.slice none 0 0)/\∀i,w.frozen? ⟨b,i,none⟩=false:=by
 let⟨_,_,h⟩:=h;have a:=QJ h;exact⟨a 0,a 1,a 2,a 3,λ i=>frozen_of_row w b i _ _ h⟩
theorem qcf.ext{Γ':Gh}{w':World}{b:Nat}{e:TypeId}(h:qcf Γ w b e)(d:Ext Γ w Γ' w'):qcf Γ' w' b e:=
 let⟨a,c⟩:=h.1.ext d h.2.1;⟨a,wC h.2.1 d.size,c.trans h.2.2⟩
theorem qcf.same{w':World}{b:Nat}{e:TypeId}(h:qcf Γ w b e)(a:w.heap.size<=w'.heap.size)(c:w'.heap[b]?=w.heap[b]?):qcf Γ w' b e:=⟨h.1,wC h.2.1 a,c.trans h.2.2⟩
theorem Stk.drew{B N:Nat}{b:List (T×Int)}{a:List Nat}{g cap:Nat}{cs:List Value}(h:Stk B N Γ σ w b a g cap cs):Stk B N Γ σ w.drew b a g cap cs:=⟨h.len,h.nd,h.priv,qkM h.own rfl,h.node⟩
theorem qcf.drew{b:Nat}{e:TypeId}(h:qcf Γ w b e):qcf Γ w.drew b e:=h
theorem RS.drew'(h:RS Γ0 w0 rd Γ σ w):RS Γ0 w0 rd Γ σ w.drew:=h.drew
end
end Go.AmZ
namespace Go.AmZ
open Go Go.GxZ
set_option linter.unusedVariables false
set_option maxRecDepth 100000
noncomputable section
abbrev Z1:=Option (List (Y8×(Int×Int)))
abbrev Z2:=Option (Bool)
abbrev Z3:=Option (((Y8×(Int×Bool))×Unit)×((Int)×Unit))
abbrev Z4:=Y8×(Int×Bool)
abbrev Z5:=Option (((Y8×(Int×Bool))×Unit)×((Y8)×Unit))
abbrev Z6:=List UInt8
abbrev Z7:=Int->Int->Int->Z6->Int->Bool->Z5
abbrev Z8:=Option (((Y8×(Int×Bool))×Unit)×(((Int)×(Y8)×(Int)×(List (T))×(Int)×Unit)×Unit))
abbrev Z9:=Int->Z2
abbrev Z10:=Z6->Int->Int->Z2
abbrev Z11:=Y8->Z2
abbrev Z12:=Option (((Int)×(Int)×Unit)×((Int)×Unit))
abbrev Z13:=T->Int->Int->Int->Z12
abbrev Z14:=List (T)
abbrev Z15:=Int->Z14->Int->Int->Int->Int->Z12
abbrev Z16:=Option (Int)
abbrev Z17:=T->Z16
abbrev Z18:=Option (Y8×(Int×(Int×Int)))
abbrev Z19:=List (Y8×(Int×(Int×Int)))
abbrev Z20:=Z6->Z19->Int->Int->Z6->Int->Int->Int->Z18
abbrev Z21:=Z14->Int->Int->Int->Z6->Int->Z14->Z16
abbrev Z22:=Z14->Int->Int->Z16
abbrev Z23:=Int->Z14->Int->Int->Z16
abbrev Z24:=T->T->Z16
abbrev Z25:=Int->Int->Int->Z6->Int->Z14->Int->Z6->Int->Z14->Z16
abbrev Z26:=T->T->Z2
abbrev Z27:=Option (T)
abbrev Z28:=T->Z27
abbrev Z29:=Option (TL)
abbrev Z30:=(List (TL))->Int->(List (TL))->Int->Int->Z29
abbrev Z31:=(List (TL))->Int->Int->Z14->Z29
abbrev Z32:=Z14->Z14->Z14->Z29
abbrev Z33:=T->Z29
abbrev Z34:=Z14->Z14->Int->Int->Z29
abbrev Z35:=Z14->Int->Int->Int->Z6->Int->Int->Z6->Int->Z14->Z14->Z27
abbrev Z36:=Option ((T)×(Int))
abbrev Z37:=(List (Int))->Int->Int->Int->Z6->Int->Z14->Int->Z6->Int->Int->Z6->Int->Z14->Z14->Z36
abbrev Z38:=TL->Z29
abbrev Z39:=Z14->Int->Int->Z14->Z29
abbrev Z40:=Z14->Z14->Int->Int->Int->Z6->Int->Z14->Z36
abbrev Z41:=T->Z2
abbrev Z42:=Int->Int->Int->Z6->Int->Int->Z6->Int->Z14->Z14->Z27
abbrev Z43:=Option ((Int)×(Bool))
abbrev Z44:=List (T×Int)
abbrev Z45:=Z44->Int->Int->Int->Int->Z6->Int->Z14->Z43
abbrev Z46:=Option ((Unit)×((List (T×Int))×Unit))
abbrev Z47:=Option ((Unit)×((List (T×Int))×(Bool)×Unit))
abbrev Z48:=Z44->T->Int->Z47
abbrev Z49:=Int->Z14->Int->Int->Z44->Z47
abbrev Z50:=Option ((List (T×Int))×(Int))
abbrev Z51:=T->Z50
abbrev Z52:=Z44->Z44->Int->Int->Z16
abbrev Z53:=Z44->Z16
abbrev Z54:=Y8->TL->Z27
abbrev Z55:=Z44->Int->Int->Int->Z6->Int->Z14->Z14->Z14->Z36
abbrev Z56:=Z44->Int->Int->Int->Int->Int->Z6->Int->Int->Z6->Int->Z14->Int->Z14->Z14->Z14->Z36
abbrev Z57:=Z44->Z36
abbrev Z58:=Z44->Int->Int->Z44->Z46
abbrev Z59:=Z44->Int->Int->Z16
abbrev Z60:=Z44->Int->Int->Z44->Z50
abbrev Z61:=Z44->Z44->Z50
abbrev Z62:=T->T->Z36
abbrev Z63:=T->Z36
abbrev Z64:=Z14->Int->Int->Int->Z6->Int->Z14->Int->Z6->Int->Int->Z6->Int->Z14->Z14->Z36
abbrev Z65:=Z14->Int->Int->Z2
abbrev Z66:=Option ((T)×((Int)×(Int)))
abbrev Z67:=Option (((Int)×(List (T))×Unit)×(Unit))
abbrev Z68:=T->Int->Z14->Z67
abbrev Z69:=Z14->Int->Int->Int->Z14->Z67
abbrev Z70:=Option ((Unit)×((List (T))×Unit))
abbrev Z71:=Int->Int->Z14->Z70
abbrev Z72:=Option (((T)×Unit)×((Bool)×Unit))
abbrev Z73:=Option (((T)×Unit)×((Int)×Unit))
abbrev Z74:=(List (Y8×(Int×Int)))->Int->Int->Int->Z6->Int->Z14->Z73
abbrev Z75:=Option ((Unit)×((List (Int))×Unit))
abbrev Z76:=(List (Int))->T->Z75
abbrev Z77:=Z14->Int->Int->(List (Int))->Z75
abbrev Z78:=List (T×T)
abbrev Z79:=Z78->T->Z27
abbrev Z80:=Z78->Z78->Int->Int->Int->Z6->Int->Z14->Int->Z6->Int->Z14->Z27
abbrev Z81:=Z78->Z14->Int->Int->Int->Z6->Int->Int->Z6->Int->Z14->Z14->Z27
abbrev Z82:=Option (Y8)
abbrev Z83:=Int->Z82
abbrev Z84:=Option (((List (Y8×Y8))×Unit)×((T)×Unit))
abbrev Z85:=T->Y8->(List (Y8×Y8))->Z84
abbrev Z86:=Z6->Z14->Int->Int->(List (Y8×Y8))->Int->Z6->Int->Int->Z6->Int->Z14->Z14->Z84
abbrev Z87:=List ((Y8×Int)×T)
abbrev Z88:=Option (((List ((Y8×Int)×T))×Unit)×((T)×Unit))
abbrev Z89:=Z87->T->Z88
abbrev Z90:=Z14->Int->Int->Z87->Int->Z6->Int->Z14->Int->Z6->Int->Z14->Z14->Z88
abbrev Z91:=Option ((((List (T×T))×(List (T×T))×Unit)×Unit)×((Int)×Unit))
abbrev Z92:=Int->Int->Z78->Int->Z6->Int->Z14->Int->Z6->Int->Z14->Bool->Z87->Z78->Z78->Z91
abbrev Z93:=(List (T×T))×(List (T×T))×Unit
abbrev Z94:=Z93->T->T->Z91
abbrev Z95:=TL->T->Z72
abbrev Z96:=T->T->Z72
abbrev Z97:=TL->T->Z73
abbrev Z98:=Z14->Int->Int->Int->Z6->Int->Z14->Z73
abbrev Z99:=Int->Int->Z78->Int->Z6->Int->Z14->Int->Z6->Int->Z14->Z78->Z78->Z91
abbrev qOG:=Option ((Unit)×((List (T×T))×Unit))
abbrev qxw:=Option ((List (T×T))×(Int))
abbrev qN5:=Z78->Z78->qxw
abbrev qx2:=Option ((Int)×((Int)×((T)×(Int))))
abbrev qMe:=Z14->Int->Int->Int->Z6->Int->Z14->qx2
abbrev qLU:=Z14->Int->Int->Int->Int->Int->Z6->Int->Int->Z6->Int->Z14->Z14->qx2
abbrev qye:=Int->Int->Int->Z6->Int->Z14->Z16
abbrev qOh:=Int->Int->Z6->Int->Z14->Int->Z6->Int->Z14->Z16
abbrev qHa:=T->Int->Z16
abbrev qOR:=Z6->Int->Z2
abbrev qGE:=Int->Int->Z6->Int->Z14->Z16
abbrev qO4:=Option (List (Y8×(Int×(Int×Int))))
abbrev qOw:=Z6->Z19->Int->Z16
abbrev qO5:=Z19->Int->Int->Z6->Int->Z14->Z2
abbrev qNX:=Int->Int->Z6->Int->Z14->Z2
abbrev qOc:=Int->Int->Z6->Int->Z14->Z14->Z29
abbrev qqD:=Option ((T)×(Bool))
abbrev qOL:=Z14->Int->Int->Z6->Int->Z14->Z16
abbrev qPi:=Z14->Bool->Int->Int->Z6->Int->Z14->Z14->Z29
abbrev qO0:=Z14->Int->Int->Z6->Int->Z14->Z2
abbrev qPt:=Z14->Int->Int->Z6->Int->Z14->Z14->Z29
abbrev qGm:=Z14->Z14->Int->Z29
abbrev qOe:=Z14->Int->Int->Z6->Int->Z14->Z29
abbrev qOn:=Z14->Z14->Int->Int->Z6->Int->Z14->Z36
abbrev qOU:=Int->Int->Int->Z6->Int->Z14->Z2
abbrev qOx:=Int->Bool->Int->Int->Z6->Int->Z14->Z44->Z44->Z46
abbrev qA6:=Z44->T->Int->Z46
abbrev qOr:=Int->Int->Int->Z6->Int->Z14->Z44->Z46
abbrev qHd:=Z44->Int->Z16
abbrev qm9:=Z44->Int->Z14->Z29
abbrev qmS:=Z44->Int->Int->Z14->Z29
abbrev qN7:=Z44->Int->Z44->Z50
abbrev qPq:=Int->Int->Z6->Int->Z14->Int->Z6->Int->Z14->Z14->Z36
abbrev qPd:=Z14->Int->Z2
abbrev qN4:=Int->Z14->Int->Z14->Z29
def qpT(m:Nat):Z1:=
 some [([112,97,105,114],(2,2)),([101,110,99],(2,2)),([97,101,110,99],(2,2)),([112,107],(1,1)),([115,105,103,110],(2,2)),([104,97,115,104],(1,1)),([120,111,114],(2,8)),([122,101,114,111],(0,0)),([101,120,112],(2,2)),([109,117,108],(2,8)),([105,110,118],(1,1)),([111,110,101],(0,0)),([115,107],(1,1)),([115,104,107],(2,2)),([110,101,119],(1,8))]
def qaH:Nat->(Z1):=qg (none) λ m _=>qpT m
def J5(m:Nat)(a:Y8×(Int×Int)):Z2:=
 some (qh (ieq a.2.1 a.2.2))
def Jl:Nat->((Y8×(Int×Int))->Z2):=qg (λ _=>none) λ m _=>J5 m
def qlA(m:Nat)(a:Y8×(Int×Bool))(c g:Int):Z3:=
 let b:Z3:=(some (((a.1,(a.2.1,true)),()),(c,())));cond a.2.2 b (cond (ile a.1.length a.2.1) b (qb (qf a.1 a.2.1) λ f=>
 cond (ilt (iw .i64 ((UInt8.toNat f:Nat):Int)) c) b (qb (qf a.1 a.2.1) λ e=>
 cond (ilt g (iw .i64 ((UInt8.toNat e:Nat):Int))) b (qb (qf a.1 (iw .i64 (Qo (iw .i64 (qj a.2.1 1)) 1))) λ d=>
 some (((a.1,(iw .i64 (qj a.2.1 1),a.2.2)),()),(iw .i64 ((UInt8.toNat d:Nat):Int),()))))))
def Q6:Nat->(Z4->Int->Int->Z3):=qg (λ _ _ _=>none) λ m _=>qlA m
def qe6(m:Nat)(c:Z7)(b:Y8×(Int×Bool)):Z5:=
 qb (Q6 m (b.1,(b.2.1,b.2.2)) 1 24) λ a=>c a.1.1.2.1 a.2.1 0 a.1.1.1 a.1.1.2.1 a.1.1.2.2
def qly(m:Nat)(l:Z7)(g h f:Int)(c:Y8)(a:Int)(e:Bool):Z5:=
 cond (ilt f h) (let d:Z5:=(some (((c,(a,true)),()),([],())));cond e d (cond (ile c.length a) d (qb (qf c a) λ b=>let j2:Z5:=
 (l g h (iw .i64 (qj f 1)) c (iw .i64 (qj a 1)) e);let k:Z5:=(let j:Z5:=(cond (ieq f 0) d (let i:Z5:=(cond (qh (ieq ((UInt8.toNat b:Nat):Int) 95))
 (cond (qh (ieq ((UInt8.toNat b:Nat):Int) 35)) d j2) j2);cond (ilt ((UInt8.toNat b:Nat):Int) 48) i (cond (ilt 57 ((UInt8.toNat b:Nat):Int)) i j2)));cond (ile 65 ((UInt8.toNat b:Nat):Int))
 (cond (qh (ile ((UInt8.toNat b:Nat):Int) 90)) j j2) j);cond (ile 97 ((UInt8.toNat b:Nat):Int)) (cond (ile ((UInt8.toNat b:Nat):Int) 122) j2 k) k))) (cond (inb a c.length)
 (cond (inb g (Int.toNat a)) (some (((c,(a,e)),()),(JZ c g a,()))) none) none)
def qfr(m:Nat):=qQ (λ _ _ _ _ _ _=>none) λ a=>qly m a
def qhj:Nat->(Z4->Z5):=qg (λ _=>none) λ m _=>qe6 m (qfr m m)
def qlC(m:Nat)(a:Y8×(Int×Bool)):Z8:=
 let g:Z8:=(qb (qaH m) λ j=>qb (qaH m) λ i=>qb (Q6 m (a.1,(a.2.1,a.2.2)) 16 (iw .i64 (Qo (iw .i64 (qj 16 i.length)) 1))) λ c=>
 qb (qf j (iw .i64 (Qo c.2.1 16))) λ b=>qb (Jl m (b.1,(b.2.1,b.2.2))) λ h=>
 cond h (qb (Q6 m (c.1.1.1,(c.1.1.2.1,c.1.1.2.2)) b.2.1 b.2.2) λ d=>some (((d.1.1.1,(d.1.1.2.1,d.1.1.2.2)),()),((3,b.1,0,[],d.2.1,()),())))
 (some (((c.1.1.1,(c.1.1.2.1,c.1.1.2.2)),()),((3,b.1,0,[],b.2.1,()),()))));cond (ilt a.2.1 a.1.length) (qb (qf a.1 a.2.1) λ k=>cond (ile ((UInt8.toNat k:Nat):Int) 5)
 (qb (Q6 m (a.1,(a.2.1,a.2.2)) 0 5) λ f=>qb (qhj m (f.1.1.1,(f.1.1.2.1,f.1.1.2.2))) λ e=>
 some (((e.1.1.1,(e.1.1.2.1,e.1.1.2.2)),()),((2,e.2.1,f.2.1,[],0,()),()))) g) g
def qc1:Nat->(Z4->Z8):=qg (λ _=>none) λ m _=>qlC m
def qcN:Nat->Val RD->Option ((Val RD×Unit)×(T×Unit)):=qg (λ _=>none) λ m _=>qwP (qc1 m) m
def qkq(m:Nat)(a:Int):Z2:=
 let d:Z2:=(let c:Z2:=(let b:Z2:=(cond (ieq a 95) (some true) (some (ieq a 35)));cond (ile 48 a) (cond (ile a 57) (some true) b) b);cond (ile 65 a) (cond (ile a 90) (some true) c) c);
 cond (ile 97 a) (cond (ile a 122) (some true) d) d
def qiJ:Nat->Z9:=qg (λ _=>none) λ m _=>qkq m
def qeR(m:Nat)(i:Z10)(a:Y8):Z2:=
 cond (qx a []) (some false) (cond (ilt 24 a.length) (some false) (qb (qf a 0) λ h=>qb (qiJ m ((UInt8.toNat h:Nat):Int)) λ g=>cond (qh g) (some false) (qb (qf a 0) λ f=>
 let b:Z2:=(qb (qf a 0) λ d=>cond (ieq ((UInt8.toNat d:Nat):Int) 95) (some false) (qb (qf a 0) λ c=>cond (ieq ((UInt8.toNat c:Nat):Int) 35) (some false) (i a a.length 0)));
 cond (ile 48 ((UInt8.toNat f:Nat):Int)) (qb (qf a 0) λ e=>cond (ile ((UInt8.toNat e:Nat):Int) 57) (some false) b) b)))
def qe3(m:Nat)(f:Z10)(c:Y8)(b a:Int):Z2:=
 cond (ilt a b) (qb (qf c a) λ e=>qb (qiJ m ((UInt8.toNat e:Nat):Int)) λ d=>cond (qh d) (some false) (f c b (iw .i64 (qj a 1)))) (some true)
def Qv(m:Nat):=qQ (λ _ _ _=>none) λ a=>qe3 m a
def qdm:Nat->Z11:=qg (λ _=>none) λ m _=>qeR m (Qv m m)
def qfJ(m:Nat)(b:Z13)(i:Z15)(a:T)(d f e:Int):Z12:=
 let g:Z12:=(qb (qdm m a.name) λ h=>cond (qh h) (some ((iw .i64 (qj f 1),qm4 e d,()),(2,()))) (cond (ilt 8 a.kids.length) (some ((iw .i64 (qj f 1),qm4 e d,()),(3,())))
 (i d a.kids a.kids.length 0 (iw .i64 (qj f 1)) (qm4 e d))));let c:Z12:=(some ((iw .i64 (qj f 1),qm4 e d,()),(1,())));let j3:Z12:=
 (cond (ilt a.sort 0) c (cond (ilt 5 a.sort) c (cond (ilt 0 a.kids.length) c g)));cond (ieq a.kind 1) j3 (cond (ieq a.kind 2) j3 (cond (ieq a.kind 3) (cond (qh (ieq a.sort 0)) c g) c))
def qfQ(m:Nat)(a:Z13)(j:Z15)(h:Int)(g:TL)(f c e d:Int):Z12:=
 cond (ilt c f) (qb (qf g c) λ i=>qb (a (re i) (iw .i64 (qj h 1)) e d) λ b=>cond (qh (ieq b.2.1 0)) (some ((b.1.1,b.1.2.1,()),(b.2.1,())))
 (j h g f (iw .i64 (qj c 1)) b.1.1 b.1.2.1)) (some ((e,d,()),(0,())))
def jy(m:Nat)(a:Z13):=qQ (λ _ _ _ _ _ _=>none) λ b=>qfQ m a b
def yf:Nat->Z13:=qg (λ _ _ _ _=>none) λ m a=>qfJ m a (jy m a m)
def qiY(m:Nat)(b:T):Z16:=
 qb (yf m (re b) 1 0 0) λ a=>cond (qh (ieq a.2.1 0)) (some a.2.1) (cond (ilt 400 a.1.1) (some 3) (cond (ilt 40 a.1.2.1) (some 3) (some 0)))
def zh:Nat->Z17:=qg (λ _=>none) λ m _=>qiY m
def qcZ(m:Nat)(c:Z20)(b:Y8):Z18:=
 qb (qig 0) λ a=>c b a a.length 0 [] 0 0 0
def qcP(m:Nat)(j:Z20)(e:Y8)(d:List (Y8×(Int×(Int×Int))))(c b:Int)(i:Y8)(h g f:Int):Z18:=
 cond (ilt b c) (qb (qf d b) λ a=>cond (qx a.1 e) (some (a.1,(a.2.1,(a.2.2.1,a.2.2.2)))) (j e d c (iw .i64 (qj b 1)) i h g f)) (some ([],(0,(0,0))))
def QV(m:Nat):=qQ (λ _ _ _ _ _ _ _ _=>none) λ a=>qcP m a
def qbn:Nat->(Y8->Z18):=qg (λ _=>none) λ m _=>qcZ m (QV m m)
def qdM(m:Nat)(b:Z17)(e:Z21)(d:Z22)(a:T):Z16:=
 cond (qh (ieq a.kind 3)) (some 0) (qb (qbn m a.name) λ c=>cond (ieq c.2.2.2 0) (some 10) (cond (ilt a.kids.length c.2.1) (some 6) (cond (ilt c.2.2.1 a.kids.length) (some 6)
 (cond (qx a.name [115,107]) (e a.kids a.kids.length 0 a.kind a.name a.sort a.kids) (cond (qx a.name [115,104,107]) (e a.kids a.kids.length 0 a.kind a.name a.sort a.kids)
 (cond (qx a.name [110,101,119]) (qb (qf a.kids 0) λ f=>cond (qh (ieq f.kind 2)) (some 10) (d a.kids a.kids.length 0)) (d a.kids a.kids.length 0)))))))
def qdO(m:Nat)(a:Z17)(k:Z21)(j:Z22)(e:TL)(d c i:Int)(h:Y8)(g:Int)(b:TL):Z16:=
 cond (ilt c d) (qb (qf e c) λ f=>cond (ieq f.kind 3) (some 10) (cond (qh (ieq f.sort 1)) (some 10) (k e d (iw .i64 (qj c 1)) i h g b))) (j b b.length 0)
def qdH(m:Nat)(a:Z17)(h:Z21)(g:Z22)(d:TL)(c b:Int):Z16:=
 cond (ilt b c) (qb (qf d b) λ f=>qb (a (re f)) λ e=>cond (qh (ieq e 0)) (some e) (g d c (iw .i64 (qj b 1)))) (some 0)
def qW(m:Nat)(a:Z17):=qQ ((λ _ _ _ _ _ _ _=>none,λ _ _ _=>none)) λ b=>(qdO m a b.1 b.2,qdH m a b.1 b.2)
def qE:Nat->Z17:=qg (λ _=>none) λ m a=>qdM m a (qW m a m).1 (qW m a m).2
def qgv(m:Nat)(b:T):Z16:=
 qb (zh m (re b)) λ a=>cond (qh (ieq a 0)) (some a) (qb (qE m (re b)) λ c=>some c)
def qaT:Nat->Z17:=qg (λ _=>none) λ m _=>qgv m
def qkp(m:Nat)(b a:Int):Z16:=
 cond (ilt b a) (some (-1)) (cond (ilt a b) (some 1) (some 0))
def qd8:Nat->(Int->Int->Z16):=qg (λ _ _=>none) λ m _=>qkp m
def qgS(m:Nat)(a:Z17)(c:Z23)(b:T):Z16:=
 c 1 b.kids b.kids.length 0
def qgw(m:Nat)(a:Z17)(h:Z23)(e:Int)(d:TL)(c b:Int):Z16:=
 cond (ilt b c) (qb (qf d b) λ g=>qb (a (re g)) λ f=>h (iw .i64 (qj e f)) d c (iw .i64 (qj b 1))) (some e)
def qbS(m:Nat)(a:Z17):=qQ (λ _ _ _ _=>none) λ b=>qgw m a b
def Qg:Nat->Z17:=qg (λ _=>none) λ m a=>qgS m a (qbS m a m)
def qdU(m:Nat)(c:Z24)(e:Z25)(b a:T):Z16:=
 qb (Qg m (re b)) λ n=>qb (Qg m (re a)) λ l=>qb (qd8 m n l) λ d=>let j1:Z16:=(qb (qd8 m b.kids.length a.kids.length) λ k=>
 e k 0 b.kind b.name b.sort b.kids a.kind a.name a.sort a.kids);let h:Z16:=(qb (qd8 m b.sort a.sort) λ i=>
 cond (ieq i 0) j1 (e i 0 b.kind b.name b.sort b.kids a.kind a.name a.sort a.kids));let j:Z16:=(qb (strings_Compare 0 b.name a.name) λ g=>
 cond (ieq g 0) h (cond (ieq g 0) j1 (e g 0 b.kind b.name b.sort b.kids a.kind a.name a.sort a.kids)));cond (ieq d 0) (qb (qd8 m b.kind a.kind) λ f=>
 cond (ieq f 0) j (cond (ieq f 0) h (cond (ieq f 0) j1 (e f 0 b.kind b.name b.sort b.kids a.kind a.name a.sort a.kids))))
 (cond (ieq d 0) j (cond (ieq d 0) h (cond (ieq d 0) j1 (e d 0 b.kind b.name b.sort b.kids a.kind a.name a.sort a.kids))))
def qbu(m:Nat)(a:Z24)(p:Z25)(d b k:Int)(j:Y8)(i:Int)(c:TL)(h:Int)(g:Y8)(f:Int)(e:TL):Z16:=
 cond (ieq d 0) (cond (ilt b c.length) (qb (qf c b) λ o=>qb (qf e b) λ n=>qb (a (re o) (re n)) λ l=>p l (iw .i64 (qj b 1)) k j i c h g f e) (some d))
 (some d)
def jX(m:Nat)(a:Z24):=qQ (λ _ _ _ _ _ _ _ _ _ _=>none) λ b=>qbu m a b
def qv:Nat->Z24:=qg (λ _ _=>none) λ m a=>qdU m a (jX m a m)
def qh0(m:Nat)(c b:T):Z2:=
 qb (qv m (re c) (re b)) λ a=>some (ieq a 0)
def JL:Nat->Z26:=qg (λ _ _=>none) λ m _=>qh0 m
def qlf(m:Nat)(a:T)(b:Y8):Z2:=
 cond (ieq a.kind 3) (some (qx a.name b)) (some false)
def jl:Nat->(T->Y8->Z2):=qg (λ _ _=>none) λ m _=>qlf m
def qfh(m:Nat)(b:T):Z27:=
 qb (qf b.kids 0) λ a=>let j1:Z27:=(qb (qf a.kids 0) λ I=>some (re I));let j2:Z27:=(some (re b));let j3:Z27:=(cond (qx b.name [114,101,97,100])
 (qb (jl m (re a) [115,105,103,110]) λ p=>cond p j1 j2) j2);let j4:Z27:=(qb (jl m (re a) [112,97,105,114]) λ G=>cond G (qb (qf a.kids 1) λ F=>some (re F)) j2);
 let B:Z27:=(qb (jl m (re a) [112,97,105,114]) λ J=>cond J j1 j2);cond (ilt 1 b.kids.length) (qb (qf b.kids 1) λ c=>
 cond (qx b.name [102,115,116]) B (cond (qx b.name [115,110,100]) j4 (cond (qx b.name [100,101,99]) (qb (jl m (re a) [101,110,99]) λ E=>cond E (qb (qf a.kids 1) λ D=>
 qb (JL m (re D) (re c)) λ C=>cond C j1 j2) j2) (cond (qx b.name [97,100,101,99]) (qb (jl m (re a) [97,101,110,99]) λ A=>cond A (qb (qf a.kids 1) λ z=>
 qb (jl m (re z) [112,107]) λ y=>cond y (qb (qf a.kids 1) λ x=>qb (qf x.kids 0) λ w=>qb (JL m (re w) (re c)) λ v=>cond v j1 j2) j2) j2)
 (cond (qx b.name [111,112,101,110]) (qb (jl m (re a) [115,105,103,110]) λ u=>cond u (qb (jl m (re c) [112,107]) λ t=>cond t (qb (qf a.kids 1) λ s=>
 qb (qf c.kids 0) λ r=>qb (JL m (re s) (re r)) λ q=>cond q j1 j2) j2) j2) j3)))))
 (cond (qx b.name [102,115,116]) B (cond (qx b.name [115,110,100]) j4 (cond (qx b.name [100,101,99]) (qb (jl m (re a) [101,110,99]) λ o=>cond o (qb (qf a.kids 1) λ n=>
 qb (JL m (re n) (T.mk 0 [] 0 [])) λ l=>cond l j1 j2) j2) (cond (qx b.name [97,100,101,99]) (qb (jl m (re a) [97,101,110,99]) λ k=>
 cond k (qb (qf a.kids 1) λ j=>qb (jl m (re j) [112,107]) λ i=>cond i (qb (qf a.kids 1) λ h=>qb (qf h.kids 0) λ g=>qb (JL m (re g)
 (T.mk 0 [] 0 [])) λ f=>cond f j1 j2) j2) j2) (cond (qx b.name [111,112,101,110]) (qb (jl m (re a) [115,105,103,110]) λ e=>
 cond e (qb (jl m (T.mk 0 [] 0 []) [112,107]) λ d=>cond d (qb (qf a.kids 1) λ H=>none) j2) j2) j3)))))
def qcr:Nat->Z28:=qg (λ _=>none) λ m _=>qfh m
def yX(m:Nat)(b:Z30)(c:Z31)(a:List TL):Z29:=
 b a 0 a a.length 0
def yV(m:Nat)(i:Z30)(h:Z31)(c:List (TL))(b:Int)(e:List (TL))(d a:Int):Z29:=
 cond (ilt a d) (qb (qf e a) λ f=>cond (ilt (iw .i64 (qj b f.length)) 0) none (i c (iw .i64 (qj b f.length)) e d (iw .i64 (qj a 1)))) (qb (yO 0 b) λ g=>
 h c c.length 0 g.2.1)
def yY(m:Nat)(g:Z30)(f:Z31)(d:List (TL))(c b:Int)(a:TL):Z29:=
 cond (ilt b c) (qb (qf d b) λ e=>cond (zy (List.length a+List.length e) 56) (f d c (iw .i64 (qj b 1)) (a++e)) none) (some a)
def qn(m:Nat):=qQ ((λ _ _ _ _ _=>none,λ _ _ _ _=>none)) λ a=>(yV m a.1 a.2,yY m a.1 a.2)
def zR:Nat->((List TL)->Z29):=qg (λ _=>none) λ m _=>yX m (qn m m).1 (qn m m).2
def qhl(m:Nat)(d:Z22)(b c:TL):Z16:=
 cond (ilt 200 b.length) (some 3) (qb (zR m [b,c]) λ a=>d a a.length 0)
def qgN(m:Nat)(f:Z22)(c:TL)(b a:Int):Z16:=
 cond (ilt a b) (qb (qf c a) λ e=>qb (zh m (re e)) λ d=>cond (qh (ieq d 0)) (some d) (f c b (iw .i64 (qj a 1)))) (some 0)
def qbT(m:Nat):=qQ (λ _ _ _=>none) λ a=>qgN m a
def qmF:Nat->(TL->TL->Z16):=qg (λ _ _=>none) λ m _=>qhl m (qbT m m)
def qik(m:Nat)(c:Z32)(b a:TL):Z29:=
 c b a []
def qin(m:Nat)(d:Z32)(a b c:TL):Z29:=
 let f:Z29:=(cond (zy (List.length c+List.length a) 56) (cond (zy (List.length (c++a)+List.length b) 56) (some ((c++a)++b)) none) none);cond (ilt 0 a.length) (cond (ilt 0 b.length)
 (qb (qf a 0) λ j=>qb (qf b 0) λ i=>qb (qv m (re j) (re i)) λ e=>cond (ilt e 0) (qb (qf a 0) λ h=>cond (zy (List.length c+1) 56) (cond (inb a.length a.length)
 (cond (inb 1 (Int.toNat a.length)) (d (JZ a 1 a.length) b (c++[re h])) none) none) none) (cond (ilt 0 e) (qb (qf b 0) λ g=>cond (zy (List.length c+1) 56) (cond (inb b.length b.length)
 (cond (inb 1 (Int.toNat b.length)) (d a (JZ b 1 b.length) (c++[re g])) none) none) none) (cond (inb a.length a.length) (cond (inb 1 (Int.toNat a.length)) (cond (inb b.length b.length)
 (cond (inb 1 (Int.toNat b.length)) (d (JZ a 1 a.length) (JZ b 1 b.length) c) none) none) none) none))) f) f
def qcS(m:Nat):=qQ (λ _ _ _=>none) λ a=>qin m a
def qlp:Nat->(TL->TL->Z29):=qg (λ _ _=>none) λ m _=>qik m (qcS m m)
def qdN(m:Nat)(a:Z33)(d:Z34)(b:T):Z29:=
 let c:Z29:=(cond (ieq b.kind 3) (cond (qx b.name [120,111,114]) (d [] b.kids b.kids.length 0) (some [re b])) (some [re b]));cond (ieq b.kind 3) (cond (qx b.name [122,101,114,111])
 (cond (ieq b.kids.length 0) (some []) c) c) c
def qdB(m:Nat)(a:Z33)(i:Z34)(e d:TL)(c b:Int):Z29:=
 cond (ilt b c) (qb (qf d b) λ h=>qb (a (re h)) λ g=>qb (qlp m e g) λ f=>i f d c (iw .i64 (qj b 1))) (some e)
def QM(m:Nat)(a:Z33):=qQ (λ _ _ _ _=>none) λ b=>qdB m a b
def yB:Nat->Z33:=qg (λ _=>none) λ m a=>qdN m a (QM m a m)
def qfC(m:Nat)(a:Z28)(c:Z35)(b:T):Z27:=
 c b.kids b.kids.length 0 b.kind b.name b.sort 0 [] 0 [] []
def qfT(m:Nat)(a:Z28)(p:Z35)(i:TL)(h c g:Int)(f:Y8)(e l:Int)(k:Y8)(j:Int)(b d:TL):Z27:=
 cond (ilt c h) (qb (qf i c) λ o=>qb (a (re o)) λ n=>cond (zy (List.length b+1) 56) (p i h (iw .i64 (qj c 1)) g f e l k j (b++[re n]) d) none)
 (some (T.mk g f e b))
def qaV(m:Nat)(a:Z28):=qQ (λ _ _ _ _ _ _ _ _ _ _ _=>none) λ b=>qfT m a b
def jp:Nat->Z28:=qg (λ _=>none) λ m a=>qfC m a (qaV m a m)
def qdL(m:Nat)(e:Z37)(d:T)(c:List Int)(b:T):Z36:=
 qb (jp m (re d)) λ a=>e c c.length 0 b.kind b.name b.sort b.kids 0 [] 0 a.kind a.name a.sort a.kids []
def qhr(m:Nat)(t:Z37)(n:List (Int))(l c g:Int)(f:Y8)(e:Int)(d:TL)(r:Int)(q:Y8)(p k:Int)(j:Y8)(i:Int)(a h:TL):Z36:=
 cond (ilt c l) (qb (qf n c) λ b=>cond (ilt b 0) (some (T.mk 0 [] 0 [],7)) (cond (ile a.length b) (some (T.mk 0 [] 0 [],7)) (qb (qf a b) λ s=>none)))
 (qb (jp m (T.mk g f e d)) λ o=>some (re o,0))
def qaC(m:Nat):=qQ (λ _ _ _ _ _ _ _ _ _ _ _ _ _ _ _=>none) λ a=>qhr m a
def qhi:Nat->(T->(List Int)->T->Z36):=qg (λ _ _ _=>none) λ m _=>qdL m (qaC m m)
def qj9(m:Nat)(a:Z38)(c:Z39)(b:TL):Z29:=
 cond (qAG b.length 56) (c b b.length 0 (List.replicate (Int.toNat b.length) (T.mk 0 [] 0 []):TL)) none
def qj3(m:Nat)(b:Z38)(k:Z39)(h:TL)(g a:Int)(d:TL):Z29:=
 cond (ilt a g) (qb (qf h a) λ f=>qb (qhi m (re f) [] (re f)) λ e=>qb (qf d a) λ l=>qb (b f.kids) λ j=>qb (qf (yr d a (re e.1)) a) λ c=>
 cond (ieq f.kids.length 0) (qb (qf (yr (yr d a (re e.1)) a (T.mk c.kind c.name c.sort j)) a) λ i=>k h g (iw .i64 (qj a 1))
 (yr (yr (yr d a (re e.1)) a (T.mk c.kind c.name c.sort j)) a (T.mk i.kind i.name i.sort []))) (k h g (iw .i64 (qj a 1)) (yr (yr d a (re e.1)) a (T.mk c.kind c.name c.sort j))))
 (some d)
def qee(m:Nat)(a:Z38):=qQ (λ _ _ _ _=>none) λ b=>qj3 m a b
def J0:Nat->Z38:=qg (λ _=>none) λ m a=>qj9 m a (qee m a m)
def qjN(m:Nat)(c:Z40)(a:TL):Z36:=
 qb (qmF m a []) λ b=>cond (qh (ieq b 0)) (some (T.mk 0 [] 0 [],b)) (c [] a a.length 0 0 [] 0 [])
def qjC(m:Nat)(r:Z40)(e d:TL)(c b j:Int)(i:Y8)(h:Int)(g:TL):Z36:=
 cond (ilt b c) (qb (qf d b) λ q=>qb (yB m (re q)) λ p=>qb (qlp m e p) λ o=>r o d c (iw .i64 (qj b 1)) j i h g) (qb (J0 m e) λ a=>let j1:Z36:=
 (some (T.mk 0 [] 0 [],3));cond (ieq a.length 0) (qb (zh m (T.mk 3 [122,101,114,111] 0 [])) λ n=>cond (qh (ieq n 0)) j1 (some (T.mk 3 [122,101,114,111] 0 [],0))) (cond (ieq a.length 1)
 (qb (qf a 0) λ f=>qb (zh m (re f)) λ l=>cond (qh (ieq l 0)) j1 (some (re f,0))) (qb (zh m (T.mk 3 [120,111,114] 0 a)) λ k=>
 cond (qh (ieq k 0)) j1 (some (T.mk 3 [120,111,114] 0 a,0)))))
def qeb(m:Nat):=qQ (λ _ _ _ _ _ _ _ _=>none) λ a=>qjC m a
def qr4:Nat->(TL->Z36):=qg (λ _=>none) λ m _=>qjN m (qeb m m)
def qeo(m:Nat)(a:T):Z2:=
 cond (ieq a.kind 3) (cond (qx a.name [109,117,108]) (some true) (cond (qx a.name [105,110,118]) (some true) (some (qx a.name [111,110,101])))) (some false)
def qbG:Nat->Z41:=qg (λ _=>none) λ m _=>qeo m
def qb7(m:Nat)(a:Z28)(d:Z42)(b:T):Z27:=
 qb (zW 0 b.kids) λ c=>d c.2.1.length 0 b.kind b.name b.sort 0 [] 0 c.2.1 []
def qb3(m:Nat)(a:Z28)(o:Z42)(g b f:Int)(e:Y8)(d k:Int)(j:Y8)(i:Int)(c h:TL):Z27:=
 cond (ilt b g) (qb (qf c b) λ n=>qb (a (re n)) λ l=>qb (qf c b) λ p=>o g (iw .i64 (qj b 1)) f e d k j i (yr c b (re l)) h) (some (T.mk f e d c))
def QE(m:Nat)(a:Z28):=qQ (λ _ _ _ _ _ _ _ _ _ _=>none) λ b=>qb3 m a b
def zw:Nat->Z28:=qg (λ _=>none) λ m a=>qb7 m a (QE m a m)
def qcR(m:Nat)(c:T×Int)(b:T):Z16:=
 qb (qv m (re c.1) (re b)) λ a=>some a
def qah:Nat->((T×Int)->T->Z16):=qg (λ _ _=>none) λ m _=>qcR m
def qG(m:Nat)(c:Z45)(b:List (T×Int))(a:T):Z43:=
 c b b.length 0 b.length a.kind a.name a.sort a.kids
def qF(m:Nat)(k:Z45)(g:List (T×Int))(h a b f:Int)(e:Y8)(d:Int)(c:TL):Z43:=
 cond (ilt a b) (qb (qf g (iw .i64 (qo6 .u64 (iw .u64 (iw .i64 (qj a b))) 1))) λ j=>qb (qah m (re j.1,j.2) (T.mk f e d c)) λ n=>cond (ilt n 0)
 (k g h (iw .i64 (qj (iw .i64 (qo6 .u64 (iw .u64 (iw .i64 (qj a b))) 1)) 1)) b f e d c) (k g h a (iw .i64 (qo6 .u64 (iw .u64 (iw .i64 (qj a b))) 1)) f e d c)) (cond (ilt a h)
 (qb (qf g a) λ i=>qb (qah m (re i.1,i.2) (T.mk f e d c)) λ l=>some (a,ieq l 0)) (some (a,false)))
def qr(m:Nat):=qQ (λ _ _ _ _ _ _ _ _=>none) λ a=>qF m a
def qM:Nat->(Z44->T->Z43):=qg (λ _ _=>none) λ m _=>qG m (qr m m)
def qd2(m:Nat)(b:List (T×Int))(c:T×Int):Z46:=
 qb (qM m b (re c.1)) λ a=>cond (qh a.2) (qb (zw m (re c.1)) λ i=>
 qb (zC 0 b a.1 [(re i,c.2)]) λ h=>some ((()),(h.2.1,()))) (qb (qf b a.1) λ e=>qb (qf b a.1) λ d=>
 qb (qf (yr b a.1 (re d.1,iw .i64 (qj e.2 c.2))) a.1) λ g=>cond (ieq g.2 0)
 (qb (zD 0 (yr b a.1 (re d.1,iw .i64 (qj e.2 c.2))) a.1 (iw .i64 (qj a.1 1))) λ f=>some ((()),(f.2.1,())))
 (some ((()),(yr b a.1 (re d.1,iw .i64 (qj e.2 c.2)),()))))
def qbv:Nat->(Z44->(T×Int)->Z46):=qg (λ _ _=>none) λ m _=>qd2 m
def qa4(m:Nat)(a:Z48)(h:Z49)(e:List (T×Int))(b:T)(d:Int):Z47:=
 qb (qbG m (re b)) λ j=>cond (qh j) (qb (qbv m e (re b,d)) λ i=>some ((()),(i.2.1,true,()))) (let c:Z47:=(some ((()),([],false,())));let j2:Z47:=
 (let g:Z47:=(let f:Z47:=(cond (qx b.name [105,110,118]) (h (iw .i64 (Qo 0 d)) b.kids b.kids.length 0 e) (h d b.kids b.kids.length 0 e));cond (qx b.name [109,117,108])
 (cond (ilt b.kids.length 2) c f) f);cond (qx b.name [105,110,118]) (cond (qh (ieq b.kids.length 1)) c g) g);cond (qx b.name [111,110,101]) (cond (qh (ieq b.kids.length 0)) c j2) j2)
def qba(m:Nat)(a:Z48)(i:Z49)(f:Int)(e:TL)(d b:Int)(c:List (T×Int)):Z47:=
 cond (ilt b d) (qb (qf e b) λ h=>qb (a c (re h) f) λ g=>cond (qh g.2.2.1) (some ((()),([],false,()))) (i f e d (iw .i64 (qj b 1)) g.2.1))
 (some ((()),(c,true,())))
def jm(m:Nat)(a:Z48):=qQ (λ _ _ _ _ _=>none) λ b=>qba m a b
def zr:Nat->Z48:=qg (λ _ _ _=>none) λ m a=>qa4 m a (jm m a m)
def qhP(m:Nat)(c:T):Z50:=
 qb (zh m (re c)) λ b=>cond (qh (ieq b 0)) (some ([],b)) (qb (zr m [] (re c) 1) λ a=>cond (qh a.2.2.1) (some ([],6)) (cond (ilt 200 a.2.1.length) (some ([],3))
 (some (a.2.1,0))))
def qbK:Nat->Z51:=qg (λ _=>none) λ m _=>qhP m
def qbW(m:Nat)(b:Z52)(a:List (T×Int)):Z16:=
 cond (ilt 200 a.length) (some 3) (b a a a.length 0)
def qbZ(m:Nat)(g:Z52)(e d:List (T×Int))(c a:Int):Z16:=
 cond (ilt a c) (qb (qf d a) λ b=>qb (zh m (re b.1)) λ f=>cond (qh (ieq f 0)) (some f) (qb (qbG m (re b.1)) λ j=>cond j (some 1) (cond (ieq b.2 0) (some 7)
 (cond (ilt b.2 (-1000)) (some 7) (cond (ilt 1000 b.2) (some 7) (cond (ilt 0 a) (qb (qf e (iw .i64 (Qo a 1))) λ i=>qb (qv m (re i.1) (re b.1)) λ h=>cond (ile 0 h) (some 5)
 (g e d c (iw .i64 (qj a 1)))) (g e d c (iw .i64 (qj a 1))))))))) (some 0)
def jO(m:Nat):=qQ (λ _ _ _ _=>none) λ a=>qbZ m a
def qaB:Nat->Z53:=qg (λ _=>none) λ m _=>qbW m (jO m m)
def qvS(m:Nat)(b:Y8)(a:TL):Z27:=
 some (T.mk 3 b 0 a)
def qdW:Nat->Z54:=qg (λ _ _=>none) λ m _=>qvS m
def qc7(m:Nat)(c:Z55)(e d:Z56)(a:List (T×Int)):Z36:=
 qb (qaB m a) λ b=>cond (qh (ieq b 0)) (some (T.mk 0 [] 0 [],b)) (c a a.length 0 0 [] 0 [] [] [])
def qcM(m:Nat)(v:Z55)(t u:Z56)(h:List (T×Int))(g c s:Int)(r:Y8)(q:Int)(p f e:TL):Z36:=
 let d:Z36:=(some (T.mk 0 [] 0 [],3));cond (ilt c g) (qb (qf h c) λ a=>
 cond (ilt 8 a.2) d (cond (ilt a.2 (-8)) d (t h g c a.2 0 s r q a.1.kind a.1.name a.1.sort a.1.kids a.2 p f e))) (qb (zR m [f,e]) λ b=>
 cond (ilt 8 b.length) d (qb (qdW m [109,117,108] b) λ o=>cond (ieq b.length 0) (qb (qdW m [111,110,101] []) λ n=>qb (zh m (re n)) λ l=>cond (qh (ieq l 0))
 (some (T.mk 0 [] 0 [],l)) (some (re n,0))) (cond (ieq b.length 1) (qb (qf b 0) λ k=>qb (zh m (re k)) λ j=>cond (qh (ieq j 0)) (some (T.mk 0 [] 0 [],j)) (some (re k,0)))
 (qb (zh m (re o)) λ i=>cond (qh (ieq i 0)) (some (T.mk 0 [] 0 [],i)) (some (re o,0))))))
def qcJ(m:Nat)(u:Z55)(t s:Z56)(q:List (T×Int))(p o n l k:Int)(j:Y8)(i h:Int)(g:Y8)(d:Int)(c:TL)(b:Int)(f a e:TL):Z36:=
 cond (ilt l n) (qb (zw m (T.mk h g d c)) λ r=>cond (zy (List.length a+1) 56) (t q p o n (iw .i64 (qj l 1)) k j i h g d c b f (a++[re r]) e) none)
 (s q p o (iw .i64 (Qo 0 b)) 0 k j i h g d c b f a e)
def qcT(m:Nat)(u:Z55)(v t:Z56)(q:List (T×Int))(p o n l k:Int)(j:Y8)(i h:Int)(g:Y8)(e:Int)(d:TL)(f:Int)(c b a:TL):Z36:=
 cond (ilt l n) (qb (zw m (T.mk h g e d)) λ s=>qb (qdW m [105,110,118] [re s]) λ r=>cond (zy (List.length a+1) 56)
 (t q p o n (iw .i64 (qj l 1)) k j i h g e d f c b (a++[re r])) none) (u q p (iw .i64 (qj o 1)) k j i c b a)
def qy(m:Nat):=qQ ((λ _ _ _ _ _ _ _ _ _=>none,λ _ _ _ _ _ _ _ _ _ _ _ _ _ _ _ _=>none,λ _ _ _ _ _ _ _ _ _ _ _ _ _ _ _ _=>none)) λ a=>(qcM m a.1 a.2.1 a.2.2,qcJ m a.1 a.2.1 a.2.2,qcT m a.1 a.2.1 a.2.2)
def Je:Nat->Z57:=qg (λ _=>none) λ m _=>qc7 m (qy m m).1 (qy m m).2.1 (qy m m).2.2
def qbt(m:Nat)(b:Z58)(a:List (T×Int)):Z46:=
 b a a.length 0 []
def qbz(m:Nat)(g:Z58)(d:List (T×Int))(c b:Int)(a:List (T×Int)):Z46:=
 cond (ilt b c) (qb (qf d b) λ e=>qb (zw m (re e.1)) λ f=>cond (zy (List.length a+1) 64) (g d c (iw .i64 (qj b 1)) (a++[(re f,e.2)])) none) (some ((()),(a,())))
def Qd(m:Nat):=qQ (λ _ _ _ _=>none) λ a=>qbz m a
def qdI:Nat->(Z44->Z46):=qg (λ _=>none) λ m _=>qbt m (Qd m m)
def qcQ(m:Nat)(a:T×Int):Z2:=
 cond (ilt a.2 (-1000)) (some true) (some (ilt 1000 a.2))
def qb9:Nat->((T×Int)->Z2):=qg (λ _=>none) λ m _=>qcQ m
def zG(m:Nat)(b:Z59)(a:List (T×Int)):Z16:=
 b a a.length 0
def qZ(m:Nat)(f:Z59)(c:List (T×Int))(b a:Int):Z16:=
 cond (ilt a b) (qb (qf c a) λ d=>qb (qb9 m (re d.1,d.2)) λ e=>cond e (some a) (f c b (iw .i64 (qj a 1)))) (some (-1))
def qA(m:Nat):=qQ (λ _ _ _=>none) λ a=>qZ m a
def zV:Nat->Z53:=qg (λ _=>none) λ m _=>zG m (qA m m)
def yg(m:Nat)(b:List (T×Int)):Z2:=
 qb (zV m b) λ a=>some (ile 0 a)
def zH:Nat->(Z44->Z2):=qg (λ _=>none) λ m _=>yg m
def qeg(m:Nat)(a:List (T×Int)):Z50:=
 qb (zH m a) λ b=>cond b (some ([],7)) (cond (ilt 200 a.length) (some ([],3)) (some (a,0)))
def qdC:Nat->(Z44->Z50):=qg (λ _=>none) λ m _=>qeg m
def qdG(m:Nat)(f:Z60)(d a:List (T×Int)):Z50:=
 qb (qaB m d) λ c=>cond (qh (ieq c 0)) (some ([],c)) (qb (qaB m a) λ b=>cond (qh (ieq b 0)) (some ([],b)) (qb (qdI m d) λ e=>
 f a a.length 0 e.2.1))
def qdK(m:Nat)(h:Z60)(d:List (T×Int))(c a:Int)(b:List (T×Int)):Z50:=
 cond (ilt a c) (qb (qf d a) λ f=>qb (qbv m b (re f.1,f.2)) λ g=>h d c (iw .i64 (qj a 1)) g.2.1) (qb (qdC m b) λ e=>some (e.1,e.2))
def Jr(m:Nat):=qQ (λ _ _ _ _=>none) λ a=>qdK m a
def qhk:Nat->Z61:=qg (λ _ _=>none) λ m _=>qdG m (Jr m m)
def qAa(m:Nat)(b:Y8)(a:TL):Z27:=
 some (T.mk 3 b 0 a)
def qgC:Nat->Z54:=qg (λ _ _=>none) λ m _=>qAa m
def qhf(m:Nat)(b l:T):Z36:=
 qb (qbK m (re l)) λ a=>cond (qh (ieq a.2 0)) (some (T.mk 0 [] 0 [],a.2)) (qb (jl m (re b) [101,120,112]) λ k=>cond k (qb (qf b.kids 1) λ j=>
 qb (qbK m (re j)) λ f=>cond (qh (ieq f.2 0)) (some (T.mk 0 [] 0 [],f.2)) (qb (qhk m f.1 a.1) λ c=>cond (qh (ieq c.2 0)) (some (T.mk 0 [] 0 [],c.2))
 (qb (qf b.kids 0) λ h=>cond (ieq c.1.length 0) (some (re h,0)) (qb (Je m c.1) λ e=>cond (qh (ieq e.2 0)) (some (T.mk 0 [] 0 [],e.2))
 (qb (qgC m [101,120,112] [re h,re e.1]) λ i=>some (re i,0)))))) (cond (ieq a.1.length 0) (some (re b,0)) (qb (Je m a.1) λ d=>cond (qh (ieq d.2 0))
 (some (T.mk 0 [] 0 [],d.2)) (qb (qgC m [101,120,112] [re b,re d.1]) λ g=>some (re g,0)))))
def qgx:Nat->Z62:=qg (λ _ _=>none) λ m _=>qhf m
def qc9(m:Nat)(a:Z63)(c:Z64)(b:T):Z36:=
 cond (qh (ieq b.kind 3)) (some (re b,0)) (c b.kids b.kids.length 0 b.kind b.name b.sort b.kids 0 [] 0 3 b.name 0 [] [])
def qcI(m:Nat)(a:Z63)(C:Z64)(s:TL)(r k z:Int)(c:Y8)(y:Int)(x:TL)(w:Int)(v:Y8)(u f:Int)(e:Y8)(d:Int)(l b:TL):Z36:=
 cond (ilt k r) (qb (qf s k) λ B=>qb (a (re B)) λ n=>cond (qh (ieq n.2 0)) (some (T.mk 0 [] 0 [],n.2)) (cond (zy (List.length b+1) 56)
 (C s r (iw .i64 (qj k 1)) z c y x w v u f e d l (b++[re n.1])) none)) (let h:Z36:=(qb (qcr m (T.mk f e d b)) λ A=>some (re A,0));
 cond (qx c [102,115,116]) h (cond (qx c [115,110,100]) h (cond (qx c [100,101,99]) h (cond (qx c [97,100,101,99]) h (cond (qx c [111,112,101,110]) h (cond (qx c [114,101,97,100]) h (cond (qx c [120,111,114])
 (qb (qr4 m b) λ t=>some (re t.1,t.2)) (let q:Z36:=(qb (qbK m (T.mk f e d b)) λ g=>cond (qh (ieq g.2 0)) (some (T.mk 0 [] 0 [],g.2))
 (qb (Je m g.1) λ j=>some (re j.1,j.2)));cond (qx c [109,117,108]) q (cond (qx c [105,110,118]) q (cond (qx c [111,110,101]) q (cond (qx c [101,120,112])
 (qb (qf b 0) λ p=>qb (qf b 1) λ o=>qb (qgx m (re p) (re o)) λ i=>some (re i.1,i.2)) (some (T.mk f e d b,0)))))))))))))
def Q9(m:Nat)(a:Z63):=qQ (λ _ _ _ _ _ _ _ _ _ _ _ _ _ _ _=>none) λ b=>qcI m a b
def yx:Nat->Z63:=qg (λ _=>none) λ m a=>qc9 m a (Q9 m a m)
def qf5(m:Nat)(d:T):Z36:=
 qb (qaT m (re d)) λ c=>cond (qh (ieq c 0)) (some (T.mk 0 [] 0 [],c)) (qb (yx m (re d)) λ a=>cond (ieq a.2 0) (qb (zh m (re a.1)) λ b=>cond (qh (ieq b 0))
 (some (T.mk 0 [] 0 [],b)) (some (re a.1,0))) (cond (qh (ieq a.2 0)) (some (T.mk 0 [] 0 [],a.2)) (some (re a.1,0))))
def qfH:Nat->Z63:=qg (λ _=>none) λ m _=>qf5 m
def qfi(m:Nat)(b:Y8):Z2:=
 qb (qbn m b) λ a=>some (qh (ieq a.2.2.2 3))
def qeC:Nat->Z11:=qg (λ _=>none) λ m _=>qfi m
def J1(m:Nat)(a:Z41)(c:Z65)(b:T):Z2:=
 cond (ieq b.kind 3) (qb (qeC m b.name) λ d=>cond (qh d) (some false) (c b.kids b.kids.length 0)) (c b.kids b.kids.length 0)
def J4(m:Nat)(a:Z41)(g:Z65)(d:TL)(c b:Int):Z2:=
 cond (ilt b c) (qb (qf d b) λ f=>qb (a (re f)) λ e=>cond (qh e) (some false) (g d c (iw .i64 (qj b 1)))) (some true)
def yz(m:Nat)(a:Z41):=qQ (λ _ _ _=>none) λ b=>J4 m a b
def zf:Nat->Z41:=qg (λ _=>none) λ m a=>J1 m a (yz m a m)
def qg9(m:Nat)(a:T):Z2:=
 qb (qfH m (re a)) λ b=>cond (ieq b.2 0) (qb (JL m (re b.1) (re a)) λ d=>cond d (qb (zf m (re a)) λ c=>some c) (some false)) (some false)
def qeq:Nat->Z41:=qg (λ _=>none) λ m _=>qg9 m
def qrK(m:Nat)(b:Y8):Z66:=
 qb (qcN m (b,(0,false))) λ a=>cond a.1.1.2.2 (some (T.mk 0 [] 0 [],a.1.1.2.1,2)) (cond (qh (ieq a.1.1.2.1 b.length)) (some (T.mk 0 [] 0 [],a.1.1.2.1,2))
 (qb (zh m (re a.2.1)) λ d=>cond (ieq d 3) (some (T.mk 0 [] 0 [],0,3)) (qb (qeq m (re a.2.1)) λ c=>cond (qh c) (some (T.mk 0 [] 0 [],0,10)) (some (re a.2.1,0,0)))))
def qhg:Nat->(Y8->Z66):=qg (λ _=>none) λ m _=>qrK m
def qbi(m:Nat)(c:T)(b:Int)(a:TL):Z67:=
 cond (ieq c.kind b) (cond (zy (List.length a+1) 56) (qb (qf (a++[T.mk 0 [] 0 []]) a.length) λ d=>some ((b,yr (a++[T.mk 0 [] 0 []]) a.length (re c),()),(()))) none)
 (some ((b,a,()),(())))
def qal:Nat->Z68:=qg (λ _ _ _=>none) λ m _=>qbi m
def qan(m:Nat)(a:Z68)(f:Z69)(d:T)(c:Int)(b:TL):Z67:=
 qb (qal m (re d) c b) λ e=>f d.kids d.kids.length 0 e.1.1 e.1.2.1
def qaq(m:Nat)(a:Z68)(i:Z69)(f:TL)(e b d:Int)(c:TL):Z67:=
 cond (ilt b e) (qb (qf f b) λ h=>qb (a (re h) d c) λ g=>i f e (iw .i64 (qj b 1)) g.1.1 g.1.2.1) (some ((d,c,()),(())))
def jC(m:Nat)(a:Z68):=qQ (λ _ _ _ _ _=>none) λ b=>qaq m a b
def zu:Nat->Z68:=qg (λ _ _ _=>none) λ m a=>qan m a (jC m a m)
def zc:Nat->TL->Option (TL):=qg (λ _=>none) λ m _=>qo4 (qv m)
def qe7(m:Nat)(c b:T):Z2:=
 qb (qv m (re c) (re b)) λ a=>some (ieq a 0)
def jc:Nat->Z26:=qg (λ _ _=>none) λ m _=>qe7 m
def qJ:Nat->TL->Option (Unit×TL×Unit):=qg (λ _=>none) λ m _=>qvD (jc m)
def qdS(m:Nat)(d:Z71)(c:TL):Z70:=
 qb (zc m c) λ b=>cond (Nat.beq b.length c.length) (qb (qJ m b) λ a=>d a.2.1.length 0 a.2.1) none
def qdF(m:Nat)(f:Z71)(c a:Int)(b:TL):Z70:=
 cond (ilt a c) (qb (qf b a) λ e=>qb (jp m (re e)) λ d=>qb (qf b a) λ g=>f c (iw .i64 (qj a 1)) (yr b a (re d))) (some ((()),(b,())))
def JA(m:Nat):=qQ (λ _ _ _=>none) λ a=>qdF m a
def qha:Nat->(Z14->Z70):=qg (λ _=>none) λ m _=>qdS m (JA m m)
def qhO(m:Nat)(d:T)(c:Int):Z29:=
 qb (zu m (re d) c []) λ b=>qb (qha m b.1.2.1) λ a=>some a.2.1
def qmX:Nat->(T->Int->Z29):=qg (λ _ _=>none) λ m _=>qhO m
def qkF(m:Nat)(b:T):Z29:=
 qb (qmX m (re b) 1) λ a=>some a
def qlV:Nat->Z33:=qg (λ _=>none) λ m _=>qkF m
def qaF(m:Nat)(b:Y8×(Int×Int))(a:T):Z72:=
 some ((re a,()),(qx b.1 a.name,()))
def qcA:Nat->((Y8×(Int×Int))->T->Z72):=qg (λ _ _=>none) λ m _=>qaF m
def qN(m:Nat)(c:Z74)(b:List (Y8×(Int×Int)))(a:T):Z73:=
 c b b.length 0 a.kind a.name a.sort a.kids
def qO(m:Nat)(j:Z74)(i:List (Y8×(Int×Int)))(h b g:Int)(f:Y8)(e:Int)(d:TL):Z73:=
 cond (ilt b h) (qb (qf i b) λ c=>qb (qcA m (c.1,(c.2.1,c.2.2)) (T.mk g f e d)) λ a=>cond a.2.1 (some ((re a.1.1,()),(b,())))
 (j i h (iw .i64 (qj b 1)) a.1.1.kind a.1.1.name a.1.1.sort a.1.1.kids)) (some ((T.mk g f e d,()),((-1),())))
def qt(m:Nat):=qQ (λ _ _ _ _ _ _ _=>none) λ a=>qO m a
def q9:Nat->((List (Y8×(Int×Int)))->T->Z73):=qg (λ _ _=>none) λ m _=>qN m (qt m m)
def qcb(m:Nat)(a:Z76)(f:Z77)(d:List (Int))(c:T):Z75:=
 cond (qh (ieq c.kind 3)) (cond (zy (List.length d+2) 1) (cond (zy (List.length (d++[iw .u8 c.sort,iw .u8 c.name.length])+List.length (qad c.name)) 1)
 (some ((()),((d++[iw .u8 c.sort,iw .u8 c.name.length])++(qad c.name),()))) none) none) (qb (qaH m) λ i=>
 qb (q9 m i (re c)) λ b=>cond (zy (List.length d+1) 1) (qb (qaH m) λ h=>qb (qf h b.2.1) λ e=>
 qb (Jl m (e.1,(e.2.1,e.2.2))) λ g=>cond g (cond (zy (List.length (d++[iw .u8 (iw .i64 (qj 16 b.2.1))])+1) 1)
 (f b.1.1.kids b.1.1.kids.length 0 ((d++[iw .u8 (iw .i64 (qj 16 b.2.1))])++[iw .u8 b.1.1.kids.length])) none) (f b.1.1.kids b.1.1.kids.length 0 (d++[iw .u8 (iw .i64 (qj 16 b.2.1))]))) none)
def qb8(m:Nat)(a:Z76)(h:Z77)(e:TL)(d b:Int)(c:List (Int)):Z75:=
 cond (ilt b d) (qb (qf e b) λ g=>qb (a c (re g)) λ f=>h e d (iw .i64 (qj b 1)) f.2.1) (some ((()),(c,())))
def jN(m:Nat)(a:Z76):=qQ (λ _ _ _ _=>none) λ b=>qb8 m a b
def zX:Nat->Z76:=qg (λ _ _=>none) λ m a=>qcb m a (jN m a m)
def qd4(m:Nat)(a:T):(Option ((Y8)×(Int))):=
 qb (qaT m (re a)) λ b=>cond (qh (ieq b 0)) (some ([],b)) (qb (qlV m (re a)) λ e=>cond (ilt 0 e.length) (some ([],13)) (qb (qeq m (re a)) λ d=>cond (qh d)
 (some ([],10)) (qb (zX m [] (re a)) λ c=>some (yN c.2.1,0))))
def J3:Nat->(T->(Option ((Y8)×(Int)))):=qg (λ _=>none) λ m _=>qd4 m
def qum(m:Nat)(a:Y8):Z2:=
 cond (qx a [120,111,114]) (some false) (cond (qx a [122,101,114,111]) (some false) (cond (qx a [101,120,112]) (some false) (cond (qx a [109,117,108]) (some false) (cond (qx a [105,110,118])
 (some false) (cond (qx a [111,110,101]) (some false) (qb (qbn m a) λ b=>some (qh (ieq b.2.2.2 3))))))))
def qpz:Nat->Z11:=qg (λ _=>none) λ m _=>qum m
def qfq(m:Nat)(a:Z41)(c:Z65)(b:T):Z2:=
 cond (ieq b.kind 3) (qb (qpz m b.name) λ d=>cond (qh d) (some false) (c b.kids b.kids.length 0)) (c b.kids b.kids.length 0)
def qmV(m:Nat)(a:Z41)(g:Z65)(d:TL)(c b:Int):Z2:=
 cond (ilt b c) (qb (qf d b) λ f=>qb (a (re f)) λ e=>cond (qh e) (some false) (g d c (iw .i64 (qj b 1)))) (some true)
def qgm(m:Nat)(a:Z41):=qQ (λ _ _ _=>none) λ b=>qmV m a b
def qa6:Nat->Z41:=qg (λ _=>none) λ m a=>qfq m a (qgm m a m)
def qys(m:Nat)(a:T):Z2:=
 qb (qaT m (re a)) λ c=>cond (ieq c 0) (qb (qa6 m (re a)) λ b=>some b) (some false)
def qs0:Nat->Z41:=qg (λ _=>none) λ m _=>qys m
def qp1(m:Nat)(b:T):Z16:=
 qb (qaT m (re b)) λ a=>cond (qh (ieq a 0)) (some a) (qb (qs0 m (re b)) λ c=>cond (qh c) (some 10) (some 0))
def qkK:Nat->Z17:=qg (λ _=>none) λ m _=>qp1 m
def qg4(m:Nat)(b:Z22)(a:TL):Z16:=
 cond (ilt 200 a.length) (some 3) (b a a.length 0)
def qpj(m:Nat)(f:Z22)(c:TL)(b a:Int):Z16:=
 cond (ilt a b) (qb (qf c a) λ e=>qb (qkK m (re e)) λ d=>cond (qh (ieq d 0)) (some d) (f c b (iw .i64 (qj a 1)))) (some 0)
def qhH(m:Nat):=qQ (λ _ _ _=>none) λ a=>qpj m a
def qjk:Nat->(TL->Z16):=qg (λ _=>none) λ m _=>qg4 m (qhH m m)
def qma(m:Nat)(a:Z79)(d:Z80)(e:Z81)(c:List (T×T))(b:T):Z27:=
 d c c c.length 0 b.kind b.name b.sort b.kids 0 [] 0 []
def qww(m:Nat)(a:Z79)(r:Z80)(q:Z81)(n l:List (T×T))(k h g:Int)(f:Y8)(e:Int)(d:TL)(j:Int)(i:Y8)(c:Int)(b:TL):Z27:=
 cond (ilt h k) (qb (qf l h) λ o=>qb (qv m (re o.1) (T.mk g f e d)) λ p=>cond (ieq p 0) (some (re o.2)) (r n l k (iw .i64 (qj h 1)) g f e d j i c b))
 (q n d d.length 0 j i c g f e b [])
def quF(m:Nat)(a:Z79)(r:Z80)(q:Z81)(j:List (T×T))(i:TL)(h c n:Int)(l:Y8)(k g:Int)(f:Y8)(e:Int)(d b:TL):Z27:=
 cond (ilt c h) (qb (qf i c) λ p=>qb (a j (re p)) λ o=>cond (zy (List.length b+1) 56) (q j i h (iw .i64 (qj c 1)) n l k g f e d (b++[re o])) none)
 (some (T.mk g f e b))
def qeT(m:Nat)(a:Z79):=qQ ((λ _ _ _ _ _ _ _ _ _ _ _ _=>none,λ _ _ _ _ _ _ _ _ _ _ _ _=>none)) λ b=>(qww m a b.1 b.2,quF m a b.1 b.2)
def qd6:Nat->Z79:=qg (λ _ _=>none) λ m a=>qma m a (qeT m a m).1 (qeT m a m).2
def qj8(m:Nat)(a:Int):Z82:=
 cond (ilt a 10) (cond (inb (iw .i64 (qj a 1))
 (List.length [48,49,50,51,52,53,54,55,56,57,97,98,99,100,101,102,103,104,105,106,107,108,109,110,111,112,113,114,115,116,117,118,119,120,121,122]))
 (cond (inb a (Int.toNat (iw .i64 (qj a 1))))
 (some (JZ [48,49,50,51,52,53,54,55,56,57,97,98,99,100,101,102,103,104,105,106,107,108,109,110,111,112,113,114,115,116,117,118,119,120,121,122] a (iw .i64 (qj a 1)))) none) none)
 (cond (inb (iw .i64 (qj (iw .i64 (qp9 a 2)) 2))
 (List.length [48,48,48,49,48,50,48,51,48,52,48,53,48,54,48,55,48,56,48,57,49,48,49,49,49,50,49,51,49,52,49,53,49,54,49,55,49,56,49,57,50,48,50,49,50,50,50,51,50,52,50,53,50,54,50,55,50,56,50,57,51,48,51,49,51,50,51,51,51,52,51,53,51,54,51,55,51,56,51,57,52,48,52,49,52,50,52,51,52,52,52,53,52,54,52,55,52,56,52,57,53,48,53,49,53,50,53,51,53,52,53,53,53,54,53,55,53,56,53,57,54,48,54,49,54,50,54,51,54,52,54,53,54,54,54,55,54,56,54,57,55,48,55,49,55,50,55,51,55,52,55,53,55,54,55,55,55,56,55,57,56,48,56,49,56,50,56,51,56,52,56,53,56,54,56,55,56,56,56,57,57,48,57,49,57,50,57,51,57,52,57,53,57,54,57,55,57,56,57,57]))
 (cond (inb (iw .i64 (qp9 a 2)) (Int.toNat (iw .i64 (qj (iw .i64 (qp9 a 2)) 2))))
 (some (JZ [48,48,48,49,48,50,48,51,48,52,48,53,48,54,48,55,48,56,48,57,49,48,49,49,49,50,49,51,49,52,49,53,49,54,49,55,49,56,49,57,50,48,50,49,50,50,50,51,50,52,50,53,50,54,50,55,50,56,50,57,51,48,51,49,51,50,51,51,51,52,51,53,51,54,51,55,51,56,51,57,52,48,52,49,52,50,52,51,52,52,52,53,52,54,52,55,52,56,52,57,53,48,53,49,53,50,53,51,53,52,53,53,53,54,53,55,53,56,53,57,54,48,54,49,54,50,54,51,54,52,54,53,54,54,54,55,54,56,54,57,55,48,55,49,55,50,55,51,55,52,55,53,55,54,55,55,55,56,55,57,56,48,56,49,56,50,56,51,56,52,56,53,56,54,56,55,56,56,56,57,57,48,57,49,57,50,57,51,57,52,57,53,57,54,57,55,57,56,57,57] (iw .i64 (qp9 a 2))
 (iw .i64 (qj (iw .i64 (qp9 a 2)) 2)))) none) none)
def qfw:Nat->Z83:=qg (λ _=>none) λ m _=>qj8 m
def qhE(m:Nat)(a d:Int):Z82:=
 cond (ieq d 10) (let b:Z82:=(cond (ilt a 0) none none);cond (ile 0 a) (cond (ilt a 100) (qb (qfw m a) λ c=>some c) b) b) none
def qdg:Nat->(Int->Int->Z82):=qg (λ _ _=>none) λ m _=>qhE m
def qld(m:Nat)(b:Int):Z82:=
 qb (qdg m b 10) λ a=>some a
def qgp:Nat->Z83:=qg (λ _=>none) λ m _=>qld m
def qvL(m:Nat)(b:Int):Z82:=
 qb (qgp m b) λ a=>some a
def qkw:Nat->Z83:=qg (λ _=>none) λ m _=>qvL m
def qjt(m:Nat)(b:Z85)(g:Z86)(a:T)(e:Y8)(c:List (Y8×Y8)):Z84:=
 cond (ieq a.kind 1) (qb (qkw m a.sort) λ d=>cond (qwk d a.name) (cond (qx (qpt (veq .str) [] c (d++a.name)) []) (qb (qkw m c.length) λ f=>cond (qwk e f)
 (g e a.kids a.kids.length 0 (qm1 (veq .str) c (d++a.name) (e++f)) 0 [] 0 a.kind (qpt (veq .str) [] (qm1 (veq .str) c (d++a.name) (e++f)) (d++a.name)) a.sort [] []) none)
 (g e a.kids a.kids.length 0 c 0 [] 0 a.kind (qpt (veq .str) [] c (d++a.name)) a.sort [] [])) none) (g e a.kids a.kids.length 0 c 0 [] 0 a.kind a.name a.sort [] [])
def qsv(m:Nat)(a:Z85)(r:Z86)(k:Y8)(j:TL)(i d:Int)(h:List (Y8×Y8))(p:Int)(o:Y8)(n g:Int)(f:Y8)(c:Int)(e b:TL):Z84:=
 cond (ilt d i) (qb (qf j d) λ q=>qb (a (re q) k h) λ l=>cond (zy (List.length b+1) 56)
 (r k j i (iw .i64 (qj d 1)) l.1.1 p o n g f c e (b++[re l.2.1])) none) (some ((h,()),(T.mk g f c b,())))
def qlq(m:Nat)(a:Z85):=qQ (λ _ _ _ _ _ _ _ _ _ _ _ _ _=>none) λ b=>qsv m a b
def qcl:Nat->Z85:=qg (λ _ _ _=>none) λ m a=>qjt m a (qlq m a m)
def qx9(m:Nat)(d c:T):Z16:=
 qb (zh m (re d)) λ a=>cond (qh (ieq a 0)) (some a) (qb (zh m (re c)) λ b=>some b)
def qs6:Nat->Z24:=qg (λ _ _=>none) λ m _=>qx9 m
def qAm(m:Nat)(c b:T):Z2:=
 qb (qv m (re c) (re b)) λ a=>some (ieq a 0)
def qo2:Nat->Z26:=qg (λ _ _=>none) λ m _=>qAm m
def qyk(m:Nat)(a:T):Z2:=
 some (ieq a.kind 1)
def qdq:Nat->Z41:=qg (λ _=>none) λ m _=>qyk m
def qAp(m:Nat)(a b:T):Z2:=
 qb (zh m (re a)) λ d=>cond (qh (ieq d 0)) (some false) (qb (zh m (re b)) λ c=>cond (qh (ieq c 0)) (some false) (cond (qh (ieq a.kind 1)) (some false) (cond (ieq a.sort 0)
 (some true) (cond (qh (ieq b.kind 3)) (some (ieq b.sort a.sort)) (some false)))))
def qoB:Nat->Z26:=qg (λ _ _=>none) λ m _=>qAp m
def qyc(m:Nat)(b a:T):Z2:=
 cond (ieq b.kind 3) (cond (ieq a.kind 3) (cond (qx b.name a.name) (some (ieq b.kids.length a.kids.length)) (some false)) (some false)) (some false)
def qs1:Nat->Z26:=qg (λ _ _=>none) λ m _=>qyc m
def qDy(m:Nat)(a:T):(Option (Y8×Int)):=
 some (a.name,a.sort)
def qq8:Nat->(T->(Option (Y8×Int))):=qg (λ _=>none) λ m _=>qDy m
def qrd(m:Nat)(b:Z89)(f:Z90)(c:List ((Y8×Int)×T))(a:T):Z88:=
 qb (qdq m (re a)) λ e=>cond e (qb (qq8 m (re a)) λ d=>cond (qBd (veq (.pair .str (.int .i64))) c (d.1,d.2)) (some ((c,()),(re (qpt (veq (.pair .str (.int .i64)))
 (T.mk 0 [] 0 []) c (d.1,d.2)),()))) (some ((c,()),(re a,())))) (cond (ieq a.kids.length 0) (some ((c,()),(re a,()))) (cond (qAG a.kids.length 56)
 (f a.kids a.kids.length 0 c a.kind a.name a.sort a.kids 0 [] 0 [] (List.replicate (Int.toNat a.kids.length) (T.mk 0 [] 0 []):TL)) none))
def qCz(m:Nat)(a:Z89)(r:Z90)(k:TL)(j c:Int)(i:List ((Y8×Int)×T))(h:Int)(g:Y8)(f:Int)(p:TL)(o:Int)(n:Y8)(e:Int)(d b:TL):Z88:=
 cond (ilt c j) (qb (qf k c) λ q=>qb (a i (re q)) λ l=>qb (qf b c) λ s=>r k j (iw .i64 (qj c 1)) l.1.1 h g f p o n e d (yr b c (re l.2.1)))
 (some ((i,()),(T.mk h g f b,())))
def qsW(m:Nat)(a:Z89):=qQ (λ _ _ _ _ _ _ _ _ _ _ _ _ _=>none) λ b=>qCz m a b
def qed:Nat->Z89:=qg (λ _ _=>none) λ m a=>qrd m a (qsW m a m)
def qhM(m:Nat)(f g:Z92)(c:(List (T×T))×(List (T×T))×Unit)(b a:T):Z91:=
 qb (qq8 m (re b)) λ e=>qb (yZ 0 c.1) λ d=>
 f d.2.1.length 0 c.1 b.kind b.name b.sort b.kids a.kind a.name a.sort a.kids true (qm1 (veq (.pair .str (.int .i64))) ([]:List ((Y8×Int)×T)) (e.1,e.2) (re a)) c.2.1 d.2.1
def qp7(m:Nat)(v B:Z92)(t a:Int)(s:List (T×T))(r:Int)(q:Y8)(p:Int)(o:TL)(n:Int)(l:Y8)(k:Int)(d:TL)(h:Bool)(g:List ((Y8×Int)×T))(c b:List (T×T)):Z91:=
 cond (ilt a t) (qb (qf b a) λ f=>qb (qed m g (re f.1)) λ e=>cond h (qb (qf (yr b a (re e.2.1,re f.2)) a) λ A=>qb (zh m (re A.1)) λ z=>
 qb (qf (yr b a (re e.2.1,re f.2)) a) λ u=>qb (qed m e.1.1 (re u.2)) λ i=>cond (ieq z 0) (qb (qf (yr (yr b a (re e.2.1,re f.2)) a (re u.1,re i.2.1)) a) λ y=>
 qb (zh m (re y.2)) λ x=>v t (iw .i64 (qj a 1)) s r q p o n l k d (ieq x 0) i.1.1 c (yr (yr b a (re e.2.1,re f.2)) a (re u.1,re i.2.1)))
 (v t (iw .i64 (qj a 1)) s r q p o n l k d false i.1.1 c (yr (yr b a (re e.2.1,re f.2)) a (re u.1,re i.2.1)))) (qb (qf (yr b a (re e.2.1,re f.2)) a) λ w=>
 qb (qed m e.1.1 (re w.2)) λ j=>v t (iw .i64 (qj a 1)) s r q p o n l k d false j.1.1 c (yr (yr b a (re e.2.1,re f.2)) a (re w.1,re j.2.1))))
 (B c.length 0 s r q p o n l k d h g c b)
def qpR(m:Nat)(v s:Z92)(q d:Int)(r:List (T×T))(n:Int)(l:Y8)(k:Int)(j:TL)(i:Int)(h:Y8)(g:Int)(c:TL)(e:Bool)(p:List ((Y8×Int)×T))(a b:List (T×T)):Z91:=
 cond (ilt d q) (qb (qf a d) λ o=>qb (qed m p (re o.2)) λ f=>cond e (qb (qf (yr a d (re o.1,re f.2.1)) d) λ u=>qb (zh m (re u.2)) λ t=>
 s q (iw .i64 (qj d 1)) r n l k j i h g c (ieq t 0) f.1.1 (yr a d (re o.1,re f.2.1)) b)
 (s q (iw .i64 (qj d 1)) r n l k j i h g c false f.1.1 (yr a d (re o.1,re f.2.1)) b)) (cond (zy (List.length a+1) 112) (cond (qh e)
 (some (((b,a++[(T.mk n l k j,T.mk i h g c)],()),()),(3,()))) (some (((b,a++[(T.mk n l k j,T.mk i h g c)],()),()),(0,())))) none)
def qbF(m:Nat):=qQ ((λ _ _ _ _ _ _ _ _ _ _ _ _ _ _ _=>none,λ _ _ _ _ _ _ _ _ _ _ _ _ _ _ _=>none)) λ a=>(qp7 m a.1 a.2,qpR m a.1 a.2)
def qaN:Nat->Z94:=qg (λ _ _ _=>none) λ m _=>qhM m (qbF m m).1 (qbF m m).2
def qrI(m:Nat)(a:(List (T×T))×(List (T×T))×Unit)(c b:T):Z91:=
 let f:Z91:=(qb (qaN m (a.1,a.2.1,()) (re c) (re b)) λ d=>some (((d.1.1.1,d.1.1.2.1,()),()),(d.2.1,())));let j2:Z91:=(qb (qaN m (a.1,a.2.1,()) (re b)
 (re c)) λ e=>some (((e.1.1.1,e.1.1.2.1,()),()),(e.2.1,())));cond (ieq c.sort b.sort) (qb (qv m (re c) (re b)) λ g=>cond (ilt g 0) j2 f)
 (cond (ieq b.sort 0) j2 (cond (qh (ieq c.sort 0)) (some (((a.1,a.2.1,()),()),(11,()))) f))
def qml:Nat->Z94:=qg (λ _ _ _=>none) λ m _=>qrI m
def qwa(m:Nat)(d:Z26)(a:Z95)(c:Z96)(b:Z97)(f e:T):Z2:=
 qb (qo2 m (re f) (re e)) λ h=>cond h (some true) (qb (a e.kids (re f)) λ g=>some g.2.1)
def qaW(m:Nat)(d:Z26)(b:Z95)(c:Z96)(a:Z97)(g:TL)(e:T):Z72:=
 qb (a g (re e)) λ f=>some ((re f.1.1,()),(ile 0 f.2.1,()))
def qm7(m:Nat)(c:Z26)(a:Z95)(d:Z96)(b:Z97)(g e:T):Z72:=
 qb (c (re e) (re g)) λ f=>some ((re e,()),(f,()))
def Qh(m:Nat)(e:Z26)(a:Z95)(c:Z96)(b:Z97)(g:Z98)(f:TL)(d:T):Z73:=
 g f f.length 0 d.kind d.name d.sort d.kids
def qbI(m:Nat)(d:Z26)(a:Z95)(c:Z96)(b:Z97)(o:Z98)(l:TL)(k f j:Int)(i:Y8)(h:Int)(g:TL):Z73:=
 cond (ilt f k) (qb (qf l f) λ n=>qb (c (re n) (T.mk j i h g)) λ e=>cond e.2.1 (some ((re e.1.1,()),(f,())))
 (o l k (iw .i64 (qj f 1)) e.1.1.kind e.1.1.name e.1.1.sort e.1.1.kids)) (some ((T.mk j i h g,()),((-1),())))
def Qq(m:Nat)(d:Z26)(a:Z95)(c:Z96)(b:Z97):=qQ (λ _ _ _ _ _ _ _=>none) λ e=>qbI m d a c b e
def qcU:Nat->(Z26)×(Z95)×(Z96)×(Z97):=qg (λ _ _=>none,λ _ _=>none,λ _ _=>none,λ _ _=>none) λ m q=>(qwa m q.1 q.2.1 q.2.2.1 q.2.2.2,qaW m q.1 q.2.1 q.2.2.1 q.2.2.2,qm7 m q.1 q.2.1 q.2.2.1 q.2.2.2,Qh m q.1 q.2.1 q.2.2.1 q.2.2.2 (Qq m q.1 q.2.1 q.2.2.1 q.2.2.2 m))
def qeh:Nat->Z26:=λ k=>(qcU k).1
def yF:Nat->Z95:=λ k=>(qcU k).2.1
def qdt:Nat->Z96:=λ k=>(qcU k).2.2.1
def ja:Nat->Z97:=λ k=>(qcU k).2.2.2
def qhL(m:Nat)(r:Z99)(a:(List (T×T))×(List (T×T))×Unit):Z91:=
 qb (qf a.1 0) λ b=>qb (qf a.1 0) λ c=>cond (inb a.1.length a.1.length) (cond (inb 1 (Int.toNat a.1.length)) (qb (qo2 m (re b.1) (re c.2)) λ q=>
 cond q (some (((JZ a.1 1 a.1.length,a.2.1,()),()),(0,()))) (qb (qs1 m (re b.1) (re c.2)) λ p=>
 cond p (r b.1.kids.length 0 (JZ a.1 1 a.1.length) b.1.kind b.1.name b.1.sort b.1.kids c.2.kind c.2.name c.2.sort c.2.kids a.2.1 []) (qb (qdq m (re b.1)) λ o=>let j1:Z91:=
 (qb (qdq m (re c.2)) λ l=>let j2:Z91:=(some (((JZ a.1 1 a.1.length,a.2.1,()),()),(11,())));cond l (qb (qoB m (re c.2) (re b.1)) λ k=>
 cond (qh k) j2 (qb (qeh m (re c.2) (re b.1)) λ j=>cond j (some (((JZ a.1 1 a.1.length,a.2.1,()),()),(12,()))) (qb (qaN m (JZ a.1 1 a.1.length,a.2.1,()) (re c.2)
 (re b.1)) λ e=>some (((e.1.1.1,e.1.1.2.1,()),()),(e.2.1,()))))) (qb (qdq m (re b.1)) λ i=>cond (qh i) j2 (qb (qoB m (re b.1) (re c.2)) λ h=>
 cond (qh h) j2 (qb (qeh m (re b.1) (re c.2)) λ g=>cond g (some (((JZ a.1 1 a.1.length,a.2.1,()),()),(12,()))) (qb (qaN m (JZ a.1 1 a.1.length,a.2.1,())
 (re b.1) (re c.2)) λ d=>some (((d.1.1.1,d.1.1.2.1,()),()),(d.2.1,())))))));cond o (qb (qdq m (re c.2)) λ n=>cond n (qb (qml m (JZ a.1 1 a.1.length,a.2.1,())
 (re b.1) (re c.2)) λ f=>some (((f.1.1.1,f.1.1.2.1,()),()),(f.2.1,()))) j1) j1))) none) none
def qp2(m:Nat)(q:Z99)(g d:Int)(e:List (T×T))(n:Int)(l:Y8)(k:Int)(f:TL)(j:Int)(i:Y8)(h:Int)(c:TL)(b a:List (T×T)):Z91:=
 cond (ilt d g) (qb (qf f d) λ p=>qb (qf c d) λ o=>cond (zy (List.length a+1) 112) (q g (iw .i64 (qj d 1)) e n l k f j i h c b (a++[(re p,re o)])) none)
 (cond (zy (List.length a+List.length e) 112) (some (((a++e,b,()),()),(0,()))) none)
def qiM(m:Nat):=qQ (λ _ _ _ _ _ _ _ _ _ _ _ _ _=>none) λ a=>qp2 m a
def qkE:Nat->(Z93->Z91):=qg (λ _=>none) λ m _=>qhL m (qiM m m)
def qnX(m:Nat)(c b:T×T):Z16:=
 qb (qv m (re c.1) (re b.1)) λ a=>some a
def qe8:Nat->((T×T)->(T×T)->Z16):=qg (λ _ _=>none) λ m _=>qnX m
def yu:Nat->List (T×T)->Option (List (T×T)):=qg (λ _=>none) λ m _=>qo4 (qe8 m)
def qqh(m:Nat)(b:List (T×T)):qOG:=
 qb (yu m b) λ a=>cond (Nat.beq a.length b.length) (some ((()),(a,()))) none
def qmp:Nat->(Z78->qOG):=qg (λ _=>none) λ m _=>qqh m
def qny(m:Nat)(b:qN5)(a:List (T×T)):qxw:=
 b a []
def qx5(m:Nat)(e:qN5)(c b:List (T×T)):qxw:=
 cond (ilt 0 c.length) (qb (qkE m (c,b,())) λ a=>cond (qh (ieq a.2.1 0)) (some ([],a.2.1)) (e a.1.1.1 a.1.1.2.1)) (qb (qmp m b) λ d=>some (d.2.1,0))
def qpP(m:Nat):=qQ (λ _ _=>none) λ a=>qx5 m a
def qsS:Nat->(Z78->qxw):=qg (λ _=>none) λ m _=>qny m (qpP m m)
def qxZ(m:Nat)(d c:T):qxw:=
 qb (qs6 m (re d) (re c)) λ b=>cond (qh (ieq b 0)) (some ([],b)) (qb (qsS m [(re d,re c)]) λ a=>some (a.1,a.2))
def qsR:Nat->(T->T->qxw):=qg (λ _ _=>none) λ m _=>qxZ m
def qgB(m:Nat)(c:qMe)(d:qLU)(a:TL):qx2:=
 qb (qjk m a) λ b=>cond (qh (ieq b 0)) (some (0,0,T.mk 0 [] 0 [],b)) (c a a.length 0 0 [] 0 [])
def qof(m:Nat)(k:qMe)(j:qLU)(d:TL)(c a h:Int)(g:Y8)(f:Int)(e:TL):qx2:=
 cond (ilt a c) (qb (qf d a) λ i=>qb (qcl m (re i) [97] []) λ b=>j d a (iw .i64 (qj a 1)) c a h g f b.2.1.kind b.2.1.name b.2.1.sort b.2.1.kids e)
 (some (0,0,T.mk 0 [] 0 [],15))
def qpr(m:Nat)(u:qMe)(q:qLU)(e:TL)(n d l k j:Int)(i:Y8)(h g:Int)(f:Y8)(b:Int)(a c:TL):qx2:=
 cond (ilt d e.length) (qb (qf e d) λ t=>qb (qcl m (re t) [98] []) λ s=>qb (qsR m (T.mk g f b a) (re s.2.1)) λ p=>cond (qh (ieq p.2 0))
 (q e n (iw .i64 (qj d 1)) l k j i h g f b a c) (qb (qd6 m p.1 (T.mk g f b a)) λ o=>qb (zh m (re o)) λ r=>cond (ieq r 0) (some (n,d,re o,0))
 (q e n (iw .i64 (qj d 1)) l k j i h g f b a c))) (u e l (iw .i64 (qj k 1)) j i h c)
def qbc(m:Nat):=qQ ((λ _ _ _ _ _ _ _=>none,λ _ _ _ _ _ _ _ _ _ _ _ _ _=>none)) λ a=>(qof m a.1 a.2,qpr m a.1 a.2)
def qfc:Nat->(TL->qx2):=qg (λ _=>none) λ m _=>qgB m (qbc m m).1 (qbc m m).2
def qlb(m:Nat)(b:Y8)(a:TL):Z27:=
 cond (zy (List.length ([]:TL)+List.length a) 56) (qjz a (some (T.mk 3 b 0 [])) λ d c=>some (T.mk 3 b 0 ([]++(d::c)))) none
def yE:Nat->Z54:=qg (λ _ _=>none) λ m _=>qlb m
def qzS(m:Nat)(b:Y8)(a:Int):Z27:=
 some (T.mk 2 b a [])
def qjQ:Nat->(Y8->Int->Z27):=qg (λ _ _=>none) λ m _=>qzS m
def qCq(m:Nat)(b:Y8)(a:Int):Z27:=
 some (T.mk 1 b a [])
def qlQ:Nat->(Y8->Int->Z27):=qg (λ _ _=>none) λ m _=>qCq m
def qxi(m:Nat):Z2:=
 qb (qjQ m [97] 1) λ r=>qb (yE m [122,101,114,111] []) λ q=>qb (yE m [112,97,105,114] [re r,re q]) λ p=>qb (qlQ m [120] 0) λ n=>
 qb (qlQ m [121] 0) λ l=>qb (J3 m (re p)) λ k=>qb (qhg m [16,1,1,97]) λ j=>qb (qhg m [16,1,0]) λ i=>qb (qjQ m [110] 2) λ o=>
 qb (yE m [112,97,105,114] [re n,re o]) λ h=>qb (qjQ m [107] 3) λ g=>qb (yE m [112,97,105,114] [re g,re l]) λ f=>
 qb (qfc m [re h,re f]) λ b=>qb (qlQ m [120] 2) λ e=>qb (yE m [112,97,105,114] [re n,re l]) λ d=>qb (qfc m [re e,re d]) λ c=>
 let a:Z2:=(some false);cond (qx k.1 [16,1,1,97,23]) (cond (ieq k.2 0) (cond (ieq j.2.1 4) (cond (ieq j.2.2 2) (cond (ieq i.2.1 2) (cond (ieq i.2.2 2) (cond (ieq b.1 0) (cond (ieq b.2.1 1)
 (cond (ieq b.2.2.2 0) (some (ieq c.2.2.2 15)) a) a) a) a) a) a) a) a) a
def qfu:Nat->(Z2):=qg (none) λ m _=>qxi m
def qfO(m:Nat)(a:Z17)(c:qye)(b:T):Z16:=
 c 1 0 b.kind b.name b.sort b.kids
def qfI(m:Nat)(a:Z17)(j:qye)(d c g:Int)(f:Y8)(e:Int)(b:TL):Z16:=
 cond (ilt c b.length) (qb (qf b c) λ i=>qb (a (re i)) λ h=>j (iw .i64 (qj d h)) (iw .i64 (qj c 1)) g f e b) (some d)
def qaX(m:Nat)(a:Z17):=qQ (λ _ _ _ _ _ _=>none) λ b=>qfI m a b
def jv:Nat->Z17:=qg (λ _=>none) λ m a=>qfO m a (qaX m a m)
def qgH(m:Nat)(b a:Int):Z16:=
 cond (ilt b a) (some (-1)) (cond (ilt a b) (some 1) (some 0))
def qaU:Nat->(Int->Int->Z16):=qg (λ _ _=>none) λ m _=>qgH m
def qc5(m:Nat)(a:Z24)(j:qOh)(c b:T):Z16:=
 qb (jv m (re c)) λ i=>qb (jv m (re b)) λ h=>qb (qaU m i h) λ g=>cond (qh (ieq g 0)) (some g) (qb (qaU m c.kind b.kind) λ f=>
 cond (qh (ieq f 0)) (some f) (cond (slt c.name b.name) (some (-1)) (cond (qh (qra (slt c.name b.name) (qx c.name b.name))) (some 1) (qb (qaU m c.sort b.sort) λ e=>cond (qh (ieq e 0))
 (some e) (qb (qaU m c.kids.length b.kids.length) λ d=>cond (qh (ieq d 0)) (some d) (j 0 c.kind c.name c.sort c.kids b.kind b.name b.sort b.kids))))))
def qc6(m:Nat)(a:Z24)(o:qOh)(b k:Int)(j:Y8)(i:Int)(c:TL)(h:Int)(g:Y8)(f:Int)(d:TL):Z16:=
 cond (ilt b c.length) (qb (qf c b) λ n=>qb (qf d b) λ l=>qb (a (re n) (re l)) λ e=>cond (qh (ieq e 0)) (some e) (o (iw .i64 (qj b 1)) k j i c h g f d))
 (some 0)
def Q4(m:Nat)(a:Z24):=qQ (λ _ _ _ _ _ _ _ _ _=>none) λ b=>qc6 m a b
def zO:Nat->Z24:=qg (λ _ _=>none) λ m a=>qc5 m a (Q4 m a m)
def qiV(m:Nat)(c b:T):Z2:=
 qb (zO m (re c) (re b)) λ a=>some (ieq a 0)
def JJ:Nat->Z26:=qg (λ _ _=>none) λ m _=>qiV m
def qdR(m:Nat)(a:qHa)(d:qye)(b:T)(c:Int):Z16:=
 cond (ile c 0) (some (-1)) (cond (ilt 40 b.name.length) (some (-1)) (d (iw .i64 (Qo c 1)) 0 b.kind b.name b.sort b.kids))
def qdA(m:Nat)(a:qHa)(j:qye)(d c h:Int)(g:Y8)(f:Int)(b:TL):Z16:=
 cond (ilt c b.length) (qb (qf b c) λ i=>qb (a (re i) d) λ e=>cond (ilt e 0) (some (-1)) (j e (iw .i64 (qj c 1)) h g f b)) (some d)
def Js(m:Nat)(a:qHa):=qQ (λ _ _ _ _ _ _=>none) λ b=>qdA m a b
def jb:Nat->qHa:=qg (λ _ _=>none) λ m a=>qdR m a (Js m a m)
def qhh(m:Nat)(d:Z65)(a:TL)(c b:Int):Z2:=
 cond (ilt c a.length) (some false) (d a b 0)
def qgI(m:Nat)(f:Z65)(b:TL)(d a:Int):Z2:=
 cond (ilt a b.length) (qb (qf b a) λ e=>qb (jb m (re e) d) λ c=>cond (ilt c 0) (some false) (f b c (iw .i64 (qj a 1)))) (some true)
def qbR(m:Nat):=qQ (λ _ _ _=>none) λ a=>qgI m a
def qlZ:Nat->(TL->Int->Int->Z2):=qg (λ _ _ _=>none) λ m _=>qhh m (qbR m m)
def qkR(m:Nat)(b:TL):Z2:=
 qb (qlZ m b 20 450) λ a=>some a
def ql6:Nat->(TL->Z2):=qg (λ _=>none) λ m _=>qkR m
def qeY(m:Nat)(a:Z17)(c:qye)(b:T):Z16:=
 c 0 0 b.kind b.name b.sort b.kids
def qey(m:Nat)(a:Z17)(j:qye)(d c g:Int)(f:Y8)(e:Int)(b:TL):Z16:=
 cond (ilt c b.length) (qb (qf b c) λ i=>qb (a (re i)) λ h=>j (qm4 d h) (iw .i64 (qj c 1)) g f e b) (some (iw .i64 (qj d 1)))
def J9(m:Nat)(a:Z17):=qQ (λ _ _ _ _ _ _=>none) λ b=>qey m a b
def jB:Nat->Z17:=qg (λ _=>none) λ m a=>qeY m a (J9 m a m)
def qgA(m:Nat)(a:Int):Z2:=
 let b:Z2:=(cond (ile 65 a) (some (ile a 90)) (some false));cond (ile 97 a) (cond (ile a 122) (some true) b) b
def qdY:Nat->Z9:=qg (λ _=>none) λ m _=>qgA m
def qhZ(m:Nat)(a:Int):Z2:=
 cond (ile 48 a) (some (ile a 57)) (some false)
def qir:Nat->Z9:=qg (λ _=>none) λ m _=>qhZ m
def qdJ(m:Nat)(d:qOR)(a:Y8):Z2:=
 cond (ieq a.length 0) (some false) (cond (ilt 24 a.length) (some false) (qb (qf a 0) λ c=>qb (qdY m ((UInt8.toNat c:Nat):Int)) λ b=>cond (qh b) (some false) (d a 0)))
def qdT(m:Nat)(i:qOR)(b:Y8)(a:Int):Z2:=
 cond (ilt a b.length) (qb (qf b a) λ h=>qb (qdY m ((UInt8.toNat h:Nat):Int)) λ g=>let j1:Z2:=(i b (iw .i64 (qj a 1)));cond (qh g) (qb (qf b a) λ f=>
 qb (qir m ((UInt8.toNat f:Nat):Int)) λ e=>cond (qh e) (qb (qf b a) λ d=>cond (qh (ieq ((UInt8.toNat d:Nat):Int) 95)) (qb (qf b a) λ c=>
 cond (qh (ieq ((UInt8.toNat c:Nat):Int) 35)) (some false) j1) j1) j1) j1) (some true)
def Jv(m:Nat):=qQ (λ _ _=>none) λ a=>qdT m a
def qcn:Nat->Z11:=qg (λ _=>none) λ m _=>qdJ m (Jv m m)
def qi4(m:Nat)(a:T):Z16:=
 let d:Z16:=(qb (qcn m a.name) λ e=>cond (qh e) (some 2) (cond (ilt 8 a.kids.length) (some 3) (some 0)));let j2:Z16:=(cond (ilt 0 a.kids.length) (some 1) d);cond (ieq a.kind 1)
 (cond (ilt a.sort 0) (some 1) (cond (ilt 5 a.sort) (some 1) j2)) (let c:Z16:=(cond (ilt a.sort 0) (some 1) (cond (ilt 5 a.sort) (some 1) (let b:Z16:=(cond (ieq a.kind 2) j2 d);
 cond (qh (ieq a.kind 2)) (cond (qh (ieq a.sort 0)) (some 1) b) b)));cond (qh (ieq a.kind 2)) (cond (qh (ieq a.kind 3)) (some 1) c) c)
def qjI:Nat->Z17:=qg (λ _=>none) λ m _=>qi4 m
def qeJ(m:Nat)(a:Z17)(d:qGE)(b:T):Z16:=
 qb (qjI m (re b)) λ c=>cond (qh (ieq c 0)) (some c) (d 0 b.kind b.name b.sort b.kids)
def qez(m:Nat)(a:Z17)(i:qGE)(c g:Int)(f:Y8)(e:Int)(b:TL):Z16:=
 cond (ilt c b.length) (qb (qf b c) λ h=>qb (a (re h)) λ d=>cond (qh (ieq d 0)) (some d) (i (iw .i64 (qj c 1)) g f e b)) (some 0)
def J6(m:Nat)(a:Z17):=qQ (λ _ _ _ _ _=>none) λ b=>qez m a b
def jA:Nat->Z17:=qg (λ _=>none) λ m a=>qeJ m a (J6 m a m)
def qhV(m:Nat)(a:T):Z16:=
 qb (jA m (re a)) λ b=>cond (qh (ieq b 0)) (some b) (qb (jv m (re a)) λ d=>cond (ilt 400 d) (some 3) (qb (jB m (re a)) λ c=>cond (ilt 40 c) (some 3) (some 0)))
def ji:Nat->Z17:=qg (λ _=>none) λ m _=>qhV m
def que(m:Nat):qO4:=
 some [([112,97,105,114],(2,(2,1))),([101,110,99],(2,(2,1))),([97,101,110,99],(2,(2,1))),([112,107],(1,(1,1))),([115,105,103,110],(2,(2,1))),([104,97,115,104],(1,(1,1))),([120,111,114],(2,(8,1))),([122,101,114,111],(0,(0,1))),([101,120,112],(2,(2,1))),([109,117,108],(2,(8,1))),([105,110,118],(1,(1,1))),([111,110,101],(0,(0,1))),([115,107],(1,(1,2))),([115,104,107],(2,(2,2))),([110,101,119],(1,(8,2))),([102,115,116],(1,(1,3))),([115,110,100],(1,(1,3))),([100,101,99],(2,(2,3))),([97,100,101,99],(2,(2,3))),([111,112,101,110],(2,(2,3))),([114,101,97,100],(1,(1,3)))]
def qjb:Nat->(qO4):=qg (none) λ m _=>que m
def qfL(m:Nat)(c:qOw)(b:Y8):Z16:=
 qb (qjb m) λ a=>c b a 0
def qfM(m:Nat)(f:qOw)(c:Y8)(b:List (Y8×(Int×(Int×Int))))(a:Int):Z16:=
 cond (ilt a b.length) (qb (qf b a) λ e=>cond (qx e.1 c) (qb (qf b a) λ d=>some d.2.2.2) (f c b (iw .i64 (qj a 1)))) (some 0)
def qaP(m:Nat):=qQ (λ _ _ _=>none) λ a=>qfM m a
def qeW:Nat->(Y8->Z16):=qg (λ _=>none) λ m _=>qfL m (qaP m m)
def qfK(m:Nat)(c:qO5)(a:T):Z2:=
 qb (qjb m) λ b=>c b 0 a.kind a.name a.sort a.kids
def qfP(m:Nat)(j:qO5)(b:List (Y8×(Int×(Int×Int))))(a f:Int)(d:Y8)(e:Int)(c:TL):Z2:=
 cond (ilt a b.length) (qb (qf b a) λ i=>cond (qx i.1 d) (qb (qf b a) λ h=>cond (ile h.2.1 c.length) (qb (qf b a) λ g=>some (ile c.length g.2.2.1)) (some false))
 (j b (iw .i64 (qj a 1)) f d e c)) (some false)
def qaS(m:Nat):=qQ (λ _ _ _ _ _ _=>none) λ a=>qfP m a
def qj6:Nat->Z41:=qg (λ _=>none) λ m _=>qfK m (qaS m m)
def qdD(m:Nat)(c:qNX)(a:T):Z2:=
 cond (qx a.name [110,101,119]) (qb (qf a.kids 0) λ b=>some (ieq b.kind 2)) (c 0 a.kind a.name a.sort a.kids)
def qdz(m:Nat)(h:qNX)(b e:Int)(d:Y8)(c:Int)(a:TL):Z2:=
 cond (ilt b a.length) (qb (qf a b) λ g=>cond (ieq g.kind 3) (some false) (qb (qf a b) λ f=>cond (qh (ieq f.sort 1)) (some false) (h (iw .i64 (qj b 1)) e d c a))) (some true)
def Jy(m:Nat):=qQ (λ _ _ _ _ _=>none) λ a=>qdz m a
def qgE:Nat->Z41:=qg (λ _=>none) λ m _=>qdD m (Jy m m)
def qeI(m:Nat)(b:Z17)(d:qGE)(a:T):Z16:=
 cond (qh (ieq a.kind 3)) (some 0) (qb (qeW m a.name) λ c=>cond (ieq c 0) (some 10) (qb (qj6 m (re a)) λ f=>cond (qh f) (some 6) (cond (ieq c 2)
 (qb (qgE m (re a)) λ e=>cond (qh e) (some 10) (d 0 a.kind a.name a.sort a.kids)) (d 0 a.kind a.name a.sort a.kids))))
def qex(m:Nat)(a:Z17)(i:qGE)(c g:Int)(f:Y8)(e:Int)(b:TL):Z16:=
 cond (ilt c b.length) (qb (qf b c) λ h=>qb (a (re h)) λ d=>cond (qh (ieq d 0)) (some d) (i (iw .i64 (qj c 1)) g f e b)) (some 0)
def Jg(m:Nat)(a:Z17):=qQ (λ _ _ _ _ _=>none) λ b=>qex m a b
def jh:Nat->Z17:=qg (λ _=>none) λ m a=>qeI m a (Jg m a m)
def qh9(m:Nat)(b:T):Z16:=
 qb (ji m (re b)) λ a=>cond (qh (ieq a 0)) (some a) (qb (jh m (re b)) λ c=>some c)
def qfv:Nat->Z17:=qg (λ _=>none) λ m _=>qh9 m
def qhC(m:Nat)(a:Z33)(c:qOc)(b:T):Z29:=
 c 0 b.kind b.name b.sort b.kids [re b]
def qg8(m:Nat)(a:Z33)(j:qOc)(d h:Int)(g:Y8)(f:Int)(c b:TL):Z29:=
 cond (ilt d c.length) (qb (qf c d) λ i=>qb (a (re i)) λ e=>cond (zy (List.length b+List.length e) 56) (j (iw .i64 (qj d 1)) h g f c (b++e)) none) (some b)
def qbV(m:Nat)(a:Z33):=qQ (λ _ _ _ _ _ _=>none) λ b=>qg8 m a b
def Qj:Nat->Z33:=qg (λ _=>none) λ m a=>qhC m a (qbV m a m)
def qm5(m:Nat)(a:T)(b:Y8):Z2:=
 cond (ieq a.kind 3) (some (qx a.name b)) (some false)
def qbN:Nat->(T->Y8->Z2):=qg (λ _ _=>none) λ m _=>qm5 m
def qfZ(m:Nat)(a:T):qqD:=
 qb (qf a.kids 0) λ b=>let j1:qqD:=(qb (qf b.kids 0) λ y=>some (re y,true));let j2:qqD:=(let r:qqD:=(let q:qqD:=(let p:qqD:=(let o:qqD:=
 (cond (qx a.name [114,101,97,100]) (qb (qbN m (re b) [115,105,103,110]) λ c=>cond c j1 (some (re a,false))) (some (re a,false)));cond (qx a.name [111,112,101,110])
 (qb (qbN m (re b) [115,105,103,110]) λ h=>cond h (qb (qf a.kids 1) λ g=>qb (qf b.kids 1) λ f=>qb (yE m [112,107] [re f]) λ e=>qb (JJ m (re g)
 (re e)) λ d=>cond d j1 o) o) o);cond (qx a.name [97,100,101,99]) (qb (qbN m (re b) [97,101,110,99]) λ n=>cond n (qb (qf b.kids 1) λ l=>
 qb (qf a.kids 1) λ k=>qb (yE m [112,107] [re k]) λ j=>qb (JJ m (re l) (re j)) λ i=>cond i j1 p) p) p);cond (qx a.name [100,101,99])
 (qb (qbN m (re b) [101,110,99]) λ v=>cond v (qb (qf b.kids 1) λ u=>qb (qf a.kids 1) λ t=>qb (JJ m (re u) (re t)) λ s=>cond s j1 q) q) q);
 cond (qx a.name [115,110,100]) (qb (qbN m (re b) [112,97,105,114]) λ x=>cond x (qb (qf b.kids 1) λ w=>some (re w,true)) r) r);cond (qx a.name [102,115,116])
 (qb (qbN m (re b) [112,97,105,114]) λ z=>cond z j1 j2) j2
def qfG:Nat->(T->qqD):=qg (λ _=>none) λ m _=>qfZ m
def qeF(m:Nat)(c:qOL)(b:TL)(a:T):Z16:=
 cond (ilt 200 b.length) (some 3) (c b 0 a.kind a.name a.sort a.kids)
def qe1(m:Nat)(j:qOL)(b:TL)(a f:Int)(e:Y8)(d:Int)(c:TL):Z16:=
 cond (ilt a b.length) (qb (qf b a) λ i=>qb (ji m (re i)) λ g=>cond (qh (ieq g 0)) (some g) (j b (iw .i64 (qj a 1)) f e d c))
 (qb (ji m (T.mk f e d c)) λ h=>some h)
def qab(m:Nat):=qQ (λ _ _ _ _ _ _=>none) λ a=>qe1 m a
def qio:Nat->(TL->T->Z16):=qg (λ _ _=>none) λ m _=>qeF m (qab m m)
def qiX(m:Nat):Z27:=
 qb (yE m [122,101,114,111] []) λ a=>some (re a)
def qjH:Nat->(Z27):=qg (none) λ m _=>qiX m
def qhc(m:Nat)(c:qPi)(b:TL)(a:T):Z29:=
 c b false 0 a.kind a.name a.sort a.kids []
def qgF(m:Nat)(i:qPi)(c:TL)(h:Bool)(b g:Int)(f:Y8)(e:Int)(d a:TL):Z29:=
 cond (ilt b c.length) (qb (qf c b) λ o=>qb (zO m (T.mk g f e d) (re o)) λ j=>let j1:Z29:=(qb (qf c b) λ k=>cond (zy (List.length a+1) 56)
 (i c h (iw .i64 (qj b 1)) g f e d (a++[re k])) none);cond (qh h) (cond (ile j 0) (cond (ilt j 0) (cond (zy (List.length a+1) 56) (qb (qf c b) λ n=>
 cond (zy (List.length (a++[T.mk g f e d])+1) 56) (i c true (iw .i64 (qj b 1)) g f e d ((a++[T.mk g f e d])++[re n])) none) none) (qb (qf c b) λ l=>
 cond (zy (List.length a+1) 56) (i c true (iw .i64 (qj b 1)) g f e d (a++[re l])) none)) j1) j1) (cond (qh h) (cond (zy (List.length a+1) 56) (some (a++[T.mk g f e d])) none) (some a))
def qbP(m:Nat):=qQ (λ _ _ _ _ _ _ _ _=>none) λ a=>qgF m a
def qiA:Nat->(TL->T->Z29):=qg (λ _ _=>none) λ m _=>qhc m (qbP m m)
def qgV(m:Nat)(c:qO0)(b:TL)(a:T):Z2:=
 c b 0 a.kind a.name a.sort a.kids
def qhe(m:Nat)(i:qO0)(b:TL)(a f:Int)(e:Y8)(d:Int)(c:TL):Z2:=
 cond (ilt a b.length) (qb (qf b a) λ h=>qb (JJ m (re h) (T.mk f e d c)) λ g=>cond g (some true) (i b (iw .i64 (qj a 1)) f e d c)) (some false)
def qbO(m:Nat):=qQ (λ _ _ _ _ _ _=>none) λ a=>qhe m a
def qlU:Nat->(TL->T->Z2):=qg (λ _ _=>none) λ m _=>qgV m (qbO m m)
def qdP(m:Nat)(e:qPt)(b:TL)(a:T):Z29:=
 qb (qlU m b (re a)) λ d=>cond (qh d) (qb (qiA m b (re a)) λ c=>some c) (e b 0 a.kind a.name a.sort a.kids [])
def qdQ(m:Nat)(h:qPt)(b:TL)(a g:Int)(f:Y8)(e:Int)(d c:TL):Z29:=
 cond (ilt a b.length) (qb (qf b a) λ k=>qb (JJ m (re k) (T.mk g f e d)) λ j=>cond (qh j) (qb (qf b a) λ i=>cond (zy (List.length c+1) 56)
 (h b (iw .i64 (qj a 1)) g f e d (c++[re i])) none) (h b (iw .i64 (qj a 1)) g f e d c)) (some c)
def JE(m:Nat):=qQ (λ _ _ _ _ _ _ _=>none) λ a=>qdQ m a
def qg2:Nat->(TL->T->Z29):=qg (λ _ _=>none) λ m _=>qdP m (JE m m)
def qfF(m:Nat)(c:qGm)(b a:TL):Z29:=
 cond (zy (List.length ([]:TL)+List.length b) 56) (qjz b (c a [] 0) λ e d=>c a ([]++(e::d)) 0) none
def qfB(m:Nat)(f:qGm)(b c:TL)(a:Int):Z29:=
 cond (ilt a b.length) (qb (qf b a) λ e=>qb (qg2 m c (re e)) λ d=>f b d (iw .i64 (qj a 1))) (some c)
def JS(m:Nat):=qQ (λ _ _ _=>none) λ a=>qfB m a
def qgz:Nat->(TL->TL->Z29):=qg (λ _ _=>none) λ m _=>qfF m (JS m m)
def qbX(m:Nat)(a:Z33)(d:qOe)(b:T):Z29:=
 let c:Z29:=(cond (qh (ieq b.kind 3)) (some [re b]) (cond (qh (qx b.name [120,111,114])) (some [re b]) (d [] 0 b.kind b.name b.sort b.kids)));cond (ieq b.kind 3)
 (cond (qx b.name [122,101,114,111]) (cond (ieq b.kids.length 0) (some []) c) c) c
def qcc(m:Nat)(a:Z33)(k:qOe)(d:TL)(c g:Int)(f:Y8)(e:Int)(b:TL):Z29:=
 cond (ilt c b.length) (qb (qf b c) λ j=>qb (a (re j)) λ i=>qb (qgz m d i) λ h=>k h (iw .i64 (qj c 1)) g f e b) (some d)
def jQ(m:Nat)(a:Z33):=qQ (λ _ _ _ _ _ _=>none) λ b=>qcc m a b
def zZ:Nat->Z33:=qg (λ _=>none) λ m a=>qbX m a (jQ m a m)
def qi0(m:Nat)(a:TL):Z27:=
 cond (ieq a.length 0) (qb (yE m [122,101,114,111] []) λ e=>some (re e)) (cond (ieq a.length 1) (qb (qf a 0) λ d=>some (re d))
 (cond (zy (List.length ([]:TL)+List.length a) 56) (qjz a (some (T.mk 3 [120,111,114] 0 [])) λ c b=>some (T.mk 3 [120,111,114] 0 ([]++(c::b)))) none))
def qjU:Nat->(TL->Z27):=qg (λ _=>none) λ m _=>qi0 m
def qhm(m:Nat)(d:qOn)(b:TL):Z36:=
 qb (qjH m) λ c=>qb (qio m b (re c)) λ a=>cond (qh (ieq a 0)) (some (T.mk 0 [] 0 [],a)) (d b [] 0 0 [] 0 [])
def qgT(m:Nat)(n:qOn)(b c:TL)(a h:Int)(g:Y8)(f:Int)(e:TL):Z36:=
 cond (ilt a b.length) (qb (qf b a) λ l=>qb (zZ m (re l)) λ k=>qb (qgz m c k) λ j=>n b j (iw .i64 (qj a 1)) h g f e) (qb (qjU m c) λ d=>
 qb (ji m (re d)) λ i=>cond (qh (ieq i 0)) (some (T.mk 0 [] 0 [],3)) (some (re d,0)))
def qbL(m:Nat):=qQ (λ _ _ _ _ _ _ _=>none) λ a=>qgT m a
def qmJ:Nat->(TL->Z36):=qg (λ _=>none) λ m _=>qhm m (qbL m m)
def qgb(m:Nat)(a:T):Z2:=
 cond (ieq a.kind 3) (cond (qx a.name [109,117,108]) (some true) (cond (qx a.name [105,110,118]) (some true) (some (qx a.name [111,110,101])))) (some false)
def qbo:Nat->Z41:=qg (λ _=>none) λ m _=>qgb m
def qeV(m:Nat)(b:Z41)(e:qOU)(a:T):Z2:=
 qb (qbo m (re a)) λ f=>cond (qh f) (some true) (let d:Z2:=(let c:Z2:=(cond (qx a.name [111,110,101]) (cond (qh (ieq a.kids.length 0)) (some false)
 (e a.kids.length 0 a.kind a.name a.sort a.kids)) (e a.kids.length 0 a.kind a.name a.sort a.kids));cond (qx a.name [105,110,118]) (cond (qh (ieq a.kids.length 1)) (some false) c) c);
 cond (qx a.name [109,117,108]) (cond (ilt a.kids.length 2) (some false) d) d)
def qeX(m:Nat)(a:Z41)(j:qOU)(d b g:Int)(f:Y8)(e:Int)(c:TL):Z2:=
 cond (ilt b d) (qb (qf c b) λ i=>qb (a (re i)) λ h=>cond (qh h) (some false) (j d (iw .i64 (qj b 1)) g f e c)) (some true)
def Jc(m:Nat)(a:Z41):=qQ (λ _ _ _ _ _ _=>none) λ b=>qeX m a b
def jk:Nat->Z41:=qg (λ _=>none) λ m a=>qeV m a (Jc m a m)
def qg7(m:Nat)(d:qOx)(c:List (T×Int))(a:T)(b:Int):Z46:=
 d b false 0 a.kind a.name a.sort a.kids c []
def qgQ(m:Nat)(i:qOx)(a:Int)(l:Bool)(h f:Int)(e:Y8)(d:Int)(c:TL)(g b:List (T×Int)):Z46:=
 cond (ilt h g.length) (qb (qf g h) λ o=>qb (zO m (T.mk f e d c) (re o.1)) λ n=>let j1:Z46:=(qb (qf g h) λ j=>cond (ieq n 0)
 (cond (qh (ieq (iw .i64 (qj j.2 a)) 0)) (cond (zy (List.length b+1) 64) (i a true (iw .i64 (qj h 1)) f e d c g (b++[(re j.1,iw .i64 (qj j.2 a))])) none)
 (i a true (iw .i64 (qj h 1)) f e d c g b)) (cond (qh (ieq j.2 0)) (cond (zy (List.length b+1) 64) (i a l (iw .i64 (qj h 1)) f e d c g (b++[(re j.1,j.2)])) none)
 (i a l (iw .i64 (qj h 1)) f e d c g b)));cond (qh l) (cond (ilt n 0) (cond (zy (List.length b+1) 64) (qb (qf g h) λ k=>cond (ieq n 0) (cond (qh (ieq (iw .i64 (qj k.2 a)) 0))
 (cond (zy (List.length (b++[(T.mk f e d c,a)])+1) 64) (i a true (iw .i64 (qj h 1)) f e d c g ((b++[(T.mk f e d c,a)])++[(re k.1,iw .i64 (qj k.2 a))])) none)
 (i a true (iw .i64 (qj h 1)) f e d c g (b++[(T.mk f e d c,a)]))) (cond (qh (ieq k.2 0)) (cond (zy (List.length (b++[(T.mk f e d c,a)])+1) 64)
 (i a true (iw .i64 (qj h 1)) f e d c g ((b++[(T.mk f e d c,a)])++[(re k.1,k.2)])) none) (i a true (iw .i64 (qj h 1)) f e d c g (b++[(T.mk f e d c,a)])))) none) j1) j1)
 (cond (qh l) (cond (zy (List.length b+1) 64) (some ((()),(b++[(T.mk f e d c,a)],()))) none) (some ((()),(b,()))))
def JK(m:Nat):=qQ (λ _ _ _ _ _ _ _ _ _=>none) λ a=>qgQ m a
def qiP:Nat->qA6:=qg (λ _ _ _=>none) λ m _=>qg7 m (JK m m)
def qc0(m:Nat)(a:qA6)(e:qOr)(d:List (T×Int))(b:T)(c:Int):Z46:=
 qb (qbo m (re b)) λ g=>cond (qh g) (qb (qiP m d (re b) c) λ f=>some ((()),(f.2.1,()))) (cond (qx b.name [105,110,118])
 (e (iw .i64 (Qo 0 c)) 0 b.kind b.name b.sort b.kids d) (e c 0 b.kind b.name b.sort b.kids d))
def qcW(m:Nat)(a:qA6)(k:qOr)(e c h:Int)(g:Y8)(f:Int)(b:TL)(d:List (T×Int)):Z46:=
 cond (ilt c b.length) (qb (qf b c) λ j=>qb (a d (re j) e) λ i=>k e (iw .i64 (qj c 1)) h g f b i.2.1) (some ((()),(d,())))
def Qi(m:Nat)(a:qA6):=qQ (λ _ _ _ _ _ _ _=>none) λ b=>qcW m a b
def yl:Nat->qA6:=qg (λ _ _ _=>none) λ m a=>qc0 m a (Qi m a m)
def qmR(m:Nat)(a:T):Z50:=
 qb (ji m (re a)) λ c=>cond (qh (ieq c 0)) (some ([],c)) (qb (jk m (re a)) λ d=>cond (qh d) (some ([],6)) (qb (yl m [] (re a) 1) λ b=>
 cond (ilt 200 b.2.1.length) (some ([],3)) (some (b.2.1,0))))
def qie:Nat->Z51:=qg (λ _=>none) λ m _=>qmR m
def qeP(m:Nat)(b:qHd)(a:List (T×Int)):Z16:=
 cond (ilt 200 a.length) (some 3) (b a 0)
def qe2(m:Nat)(e:qHd)(b:List (T×Int))(a:Int):Z16:=
 cond (ilt a b.length) (qb (qf b a) λ n=>qb (ji m (re n.1)) λ d=>cond (qh (ieq d 0)) (some d) (qb (qf b a) λ l=>qb (qbo m (re l.1)) λ k=>cond k (some 1)
 (qb (qf b a) λ j=>cond (ieq j.2 0) (some 7) (qb (qf b a) λ i=>cond (ilt i.2 (-1000)) (some 7) (qb (qf b a) λ h=>cond (ilt 1000 h.2) (some 7) (cond (ilt 0 a)
 (qb (qf b (iw .i64 (Qo a 1))) λ g=>qb (qf b a) λ f=>qb (zO m (re g.1) (re f.1)) λ c=>cond (ile 0 c) (some 5) (e b (iw .i64 (qj a 1))))
 (e b (iw .i64 (qj a 1))))))))) (some 0)
def Jd(m:Nat):=qQ (λ _ _=>none) λ a=>qe2 m a
def qdl:Nat->Z53:=qg (λ _=>none) λ m _=>qeP m (Jd m m)
def qbY(m:Nat)(b:qm9)(e:qmS)(d:qm9)(c:qmS)(a:List (T×Int)):Z29:=
 b a 0 []
def qcd(m:Nat)(g:qm9)(e:qmS)(d:qm9)(f:qmS)(a:List (T×Int))(c:Int)(b:TL):Z29:=
 cond (ilt c a.length) (e a c 0 b) (d a 0 b)
def qb2(m:Nat)(e:qm9)(h:qmS)(j:qm9)(i:qmS)(c:List (T×Int))(b d:Int)(a:TL):Z29:=
 qb (qf c b) λ g=>cond (ilt d g.2) (cond (ilt a.length 9) (qb (qf c b) λ f=>cond (zy (List.length a+1) 56) (h c b (iw .i64 (qj d 1)) (a++[re f.1])) none)
 (e c (iw .i64 (qj b 1)) a)) (e c (iw .i64 (qj b 1)) a)
def qb5(m:Nat)(g:qm9)(f:qmS)(e:qm9)(d:qmS)(c:List (T×Int))(b:Int)(a:TL):Z29:=
 cond (ilt b c.length) (d c b 0 a) (some a)
def qb1(m:Nat)(k:qm9)(j:qmS)(e:qm9)(i:qmS)(c:List (T×Int))(b d:Int)(a:TL):Z29:=
 qb (qf c b) λ h=>cond (ilt d (iw .i64 (Qo 0 h.2))) (cond (ilt a.length 9) (qb (qf c b) λ g=>qb (yE m [105,110,118] [re g.1]) λ f=>cond (zy (List.length a+1) 56)
 (i c b (iw .i64 (qj d 1)) (a++[re f])) none) (e c (iw .i64 (qj b 1)) a)) (e c (iw .i64 (qj b 1)) a)
def qm(m:Nat):=qQ ((λ _ _ _=>none,λ _ _ _ _=>none,λ _ _ _=>none,λ _ _ _ _=>none)) λ a=>(qcd m a.1 a.2.1 a.2.2.1 a.2.2.2,qb2 m a.1 a.2.1 a.2.2.1 a.2.2.2,qb5 m a.1 a.2.1 a.2.2.1 a.2.2.2,qb1 m a.1 a.2.1 a.2.2.1 a.2.2.2)
def qew:Nat->(Z44->Z29):=qg (λ _=>none) λ m _=>qbY m (qm m m).1 (qm m m).2.1 (qm m m).2.2.1 (qm m m).2.2.2
def qi8(m:Nat)(i:List (T×Int)):Z36:=
 qb (qdl m i) λ h=>cond (qh (ieq h 0)) (some (T.mk 0 [] 0 [],h)) (qb (qew m i) λ a=>cond (ilt 8 a.length) (some (T.mk 0 [] 0 [],3))
 (qb (yE m [109,117,108] a) λ g=>let j1:Z36:=(qb (qf a 0) λ e=>qb (ji m (re e)) λ d=>cond (qh (ieq d 0)) (some (T.mk 0 [] 0 [],d)) (some (re e,0)));
 cond (ieq a.length 0) (qb (yE m [111,110,101] []) λ f=>cond (ieq a.length 1) j1 (qb (ji m (re f)) λ c=>cond (qh (ieq c 0)) (some (T.mk 0 [] 0 [],c)) (some (re f,0))))
 (cond (ieq a.length 1) j1 (qb (ji m (re g)) λ b=>cond (qh (ieq b 0)) (some (T.mk 0 [] 0 [],b)) (some (re g,0))))))
def qcV:Nat->Z57:=qg (λ _=>none) λ m _=>qi8 m
def qgc(m:Nat)(c:T):Z36:=
 qb (qie m (re c)) λ a=>cond (qh (ieq a.2 0)) (some (T.mk 0 [] 0 [],a.2)) (qb (qcV m a.1) λ b=>some (re b.1,b.2))
def qdk:Nat->Z63:=qg (λ _=>none) λ m _=>qgc m
def qda(m:Nat)(b:qHd)(a:List (T×Int)):Z16:=
 b a 0
def qcX(m:Nat)(e:qHd)(a:List (T×Int))(b:Int):Z16:=
 cond (ilt b a.length) (qb (qf a b) λ d=>cond (ilt d.2 (-1000)) (some 7) (qb (qf a b) λ c=>cond (ilt 1000 c.2) (some 7) (e a (iw .i64 (qj b 1))))) (cond (ilt 200 a.length) (some 3)
 (some 0))
def QU(m:Nat):=qQ (λ _ _=>none) λ a=>qcX m a
def qfN:Nat->Z53:=qg (λ _=>none) λ m _=>qda m (QU m m)
def qgJ(m:Nat)(e:qN7)(b a:List (T×Int)):Z50:=
 qb (qdl m b) λ d=>cond (qh (ieq d 0)) (some ([],d)) (qb (qdl m a) λ c=>cond (qh (ieq c 0)) (some ([],c)) (cond (zy (List.length ([]:List (T×Int))+List.length b) 64)
 (qjz b (e a 0 []) λ g f=>e a 0 ([]++(g::f))) none))
def qhw(m:Nat)(h:qN7)(b:List (T×Int))(a:Int)(c:List (T×Int)):Z50:=
 cond (ilt a b.length) (qb (qf b a) λ g=>qb (qf b a) λ f=>qb (qiP m c (re g.1) f.2) λ e=>h b (iw .i64 (qj a 1)) e.2.1) (qb (qfN m c) λ d=>
 cond (qh (ieq d 0)) (some ([],d)) (some (c,0)))
def qaA(m:Nat):=qQ (λ _ _ _=>none) λ a=>qhw m a
def qmA:Nat->Z61:=qg (λ _ _=>none) λ m _=>qgJ m (qaA m m)
def qh8(m:Nat)(b l:T):Z36:=
 qb (qie m (re l)) λ a=>cond (qh (ieq a.2 0)) (some (T.mk 0 [] 0 [],a.2)) (qb (qbN m (re b) [101,120,112]) λ k=>cond k (qb (qf b.kids 1) λ j=>
 qb (qie m (re j)) λ f=>cond (qh (ieq f.2 0)) (some (T.mk 0 [] 0 [],f.2)) (qb (qmA m f.1 a.1) λ c=>cond (qh (ieq c.2 0)) (some (T.mk 0 [] 0 [],c.2))
 (qb (qf b.kids 0) λ h=>cond (ieq c.1.length 0) (some (re h,0)) (qb (qcV m c.1) λ e=>cond (qh (ieq e.2 0)) (some (T.mk 0 [] 0 [],e.2))
 (qb (yE m [101,120,112] [re h,re e.1]) λ i=>some (re i,0)))))) (cond (ieq a.1.length 0) (some (re b,0)) (qb (qcV m a.1) λ d=>cond (qh (ieq d.2 0))
 (some (T.mk 0 [] 0 [],d.2)) (qb (yE m [101,120,112] [re b,re d.1]) λ g=>some (re g,0)))))
def qim:Nat->Z62:=qg (λ _ _=>none) λ m _=>qh8 m
def qdE(m:Nat)(a:Z63)(c:qPq)(b:T):Z36:=
 cond (qh (ieq b.kind 3)) (some (re b,0)) (c 0 b.kind b.name b.sort b.kids 0 [] 0 [] [])
def qdy(m:Nat)(a:Z63)(x:qPq)(f t:Int)(b:Y8)(s:Int)(e:TL)(r:Int)(q:Y8)(p:Int)(o c:TL):Z36:=
 cond (ilt f e.length) (qb (qf e f) λ w=>qb (a (re w)) λ h=>cond (qh (ieq h.2 0)) (some (T.mk 0 [] 0 [],h.2)) (cond (zy (List.length c+1) 56)
 (x (iw .i64 (qj f 1)) t b s e r q p o (c++[re h.1])) none)) (qb (yE m b c) λ g=>qb (qeW m b) λ v=>cond (ieq v 3) (qb (qfG m (re g)) λ u=>
 some (re u.1,0)) (cond (qx b [120,111,114]) (qb (qmJ m c) λ n=>some (re n.1,n.2)) (let k:Z36:=(qb (qdk m (re g)) λ l=>some (re l.1,l.2));
 cond (qx b [109,117,108]) k (cond (qx b [105,110,118]) k (cond (qx b [111,110,101]) k (cond (qx b [101,120,112]) (qb (qf c 0) λ j=>qb (qf c 1) λ i=>
 qb (qim m (re j) (re i)) λ d=>some (re d.1,d.2)) (some (re g,0))))))))
def Jx(m:Nat)(a:Z63):=qQ (λ _ _ _ _ _ _ _ _ _ _=>none) λ b=>qdy m a b
def jd:Nat->Z63:=qg (λ _=>none) λ m a=>qdE m a (Jx m a m)
def qgK(m:Nat)(d:T):Z36:=
 qb (qfv m (re d)) λ c=>cond (qh (ieq c 0)) (some (T.mk 0 [] 0 [],c)) (qb (jd m (re d)) λ a=>cond (qh (ieq a.2 0)) (some (T.mk 0 [] 0 [],a.2))
 (qb (ji m (re a.1)) λ b=>cond (qh (ieq b 0)) (some (T.mk 0 [] 0 [],b)) (some (re a.1,0))))
def qgY:Nat->Z63:=qg (λ _=>none) λ m _=>qgK m
def qeu(m:Nat)(e:qPd)(a:T):Z2:=
 qb (qgY m (re a)) λ b=>cond (qh (ieq b.2 0)) (some false) (qb (JJ m (re a) (re b.1)) λ d=>cond (qh d) (some false) (qb (Qj m (re a)) λ c=>e c 0))
def qeD(m:Nat)(c:qPd)(b:TL)(a:Int):Z2:=
 cond (ilt a b.length) (qb (qf b a) λ f=>cond (ieq f.kind 3) (qb (qf b a) λ e=>qb (qeW m e.name) λ d=>cond (ieq d 3) (some false) (c b (iw .i64 (qj a 1))))
 (c b (iw .i64 (qj a 1)))) (some true)
def qaa(m:Nat):=qQ (λ _ _=>none) λ a=>qeD m a
def qiu:Nat->Z41:=qg (λ _=>none) λ m _=>qeu m (qaa m m)
def qhd(m:Nat)(b:qGm)(a:TL):Z29:=
 b a [] 0
def qhz(m:Nat)(f:qGm)(b c:TL)(a:Int):Z29:=
 cond (ilt a b.length) (qb (qf b a) λ e=>qb (qiA m c (re e)) λ d=>f b d (iw .i64 (qj a 1))) (some c)
def qbM(m:Nat):=qQ (λ _ _ _=>none) λ a=>qhz m a
def qmj:Nat->Z38:=qg (λ _=>none) λ m _=>qhd m (qbM m m)
def qfD(m:Nat)(d:qN4)(c:T)(b:Int):Z29:=
 qb (Qj m (re c)) λ a=>d b a 0 []
def qfS(m:Nat)(e:qN4)(d:Int)(b:TL)(a:Int)(c:TL):Z29:=
 cond (ilt a b.length) (qb (qf b a) λ h=>cond (ieq h.kind d) (qb (qf b a) λ g=>cond (zy (List.length c+1) 56) (e d b (iw .i64 (qj a 1)) (c++[re g])) none)
 (e d b (iw .i64 (qj a 1)) c)) (qb (qmj m c) λ f=>some f)
def qaE(m:Nat):=qQ (λ _ _ _ _=>none) λ a=>qfS m a
def qjR:Nat->(T->Int->Z29):=qg (λ _ _=>none) λ m _=>qfD m (qaE m m)
def qi1(m:Nat)(b:T):Z29:=
 qb (qjR m (re b) 1) λ a=>some a
def qjT:Nat->Z33:=qg (λ _=>none) λ m _=>qi1 m
def qg1(m:Nat)(b:T):Z2:=
 qb (qjT m (re b)) λ a=>some (ieq a.length 0)
def qhs:Nat->Z41:=qg (λ _=>none) λ m _=>qg1 m
def qid(m:Nat)(a:T):Z16:=
 qb (qfv m (re a)) λ b=>cond (qh (ieq b 0)) (some b) (qb (qhs m (re a)) λ d=>cond (qh d) (some 13) (qb (qiu m (re a)) λ c=>cond (qh c) (some 10) (some 0)))
def qfp:Nat->Z17:=qg (λ _=>none) λ m _=>qid m
def Qu(m:Nat)(b a:Y8):Z2:=
 cond (ile a.length b.length) (cond (inb a.length b.length) (cond (inb 0 (Int.toNat a.length)) (some (qx (JZ b 0 a.length) a)) none) none) (some false)
def QW:Nat->(Y8->Y8->Z2):=qg (λ _ _=>none) λ m _=>Qu m
def qc4(m:Nat)(c b:Y8):Z2:=
 qb (QW m c b) λ a=>some a
def qac:Nat->(Y8->Y8->Z2):=qg (λ _ _=>none) λ m _=>qc4 m
def qbj(m:Nat)(d c:T):Z2:=
 qb (qfu m) λ l=>let j1:Z2:=(qb (qfu m) λ k=>some k);cond (qh l) j1 (qb (ql6 m [re d,re c]) λ j=>cond (qh j) j1 (qb (qfp m (re d)) λ i=>
 cond (qh (ieq i 0)) j1 (qb (qfp m (re c)) λ h=>cond (qh (ieq h 0)) j1 (qb (J3 m (re d)) λ e=>qb (J3 m (re c)) λ a=>qb (JJ m (re d)
 (re c)) λ b=>cond (ieq e.2 0) (cond (ieq a.2 0) (qb (qac m e.1 a.1) λ g=>cond (Qn g b) (qb (qac m a.1 e.1) λ f=>some (Qn f b)) (some false))
 (some false)) (some false)))))
def law20_EnvelopePrefix:Nat->Z26:=qg (λ _ _=>none) λ m _=>qbj m
end
end Go.AmZ
namespace Go.AmZ
open Go Go.GxZ
def Ev{α:Type}(F:Nat->Nat->Option α)(r:α):Prop:=∃B,∀m k,B<=m->B<=k->F m k=some r
section
variable {α β:Type}{F G:Nat->Nat->Option α}{r:α}
theorem Ev.pure(r:α):Ev (λ _ _=>some r) r:=⟨0,λ _ _ _ _=>rfl⟩
theorem Ev.ret{r a:α}(h:r=a):Ev (λ _ _=>some r) a:=by subst h;exact .pure r
theorem Ev.bind{X:Nat->Nat->Option β}{K:Nat->Nat->β->Option α}{a:β}(h:Ev X a)(g:Ev (λ m k=>K m k a) r):Ev (λ m k=>qb (X m k) (K m k)) r:=by
 let⟨B,h⟩:=h;let⟨C,g⟩:=g;refine⟨max B C,λ m k b c=>?_⟩;simp only[h m k (by omega) (by omega),qb];exact g m k (by omega) (by omega)
theorem Ev.congr(h:Ev F r)(e:∀m k,G m k=F m k):Ev G r:=by
 let⟨B,h⟩:=h;exact⟨B,λ m k a b=>(e m k).trans (h m k a b)⟩
theorem Ev.res{a:α}(h:Ev F r)(e:r=a):Ev F a:=by subst e;exact h
theorem Ev.succ{f:Nat->Option α}(h:Ev (λ m _=>f (m+1)) r):Ev (λ m _=>f m) r:=by
 let⟨B,h⟩:=h;refine⟨B+1,λ m k a b=>?_⟩;obtain⟨m,rfl⟩:∃n,m=n+1:=⟨m-1,by omega⟩
 exact h m B (by omega) (wa _)
theorem Ev.loop{L:Nat->Nat->Option α}(h:Ev (λ m k=>L m (k+1)) r):Ev (λ m k=>L m k) r:=by
 let⟨B,h⟩:=h;refine⟨B+1,λ m k a b=>?_⟩;obtain⟨k,rfl⟩:∃n,k=n+1:=⟨k-1,by omega⟩
 exact h m k (by omega) (by omega)
theorem Ev.diag{L:Nat->Nat->Option α}(h:Ev L r):Ev (λ m _=>L m m) r:=by
 let⟨B,h⟩:=h;exact⟨B,λ m k a _=>h m m a a⟩
theorem Ev.ct{b:Bool}(a:b=true)(h:Ev F r):Ev (λ m k=>cond b (F m k) (G m k)) r:=by subst a;exact h
theorem Ev.cf{b:Bool}(a:b=false)(h:Ev G r):Ev (λ m k=>cond b (F m k) (G m k)) r:=by subst a;exact h
theorem Ev.ite{b:Bool}(h:b=true->Ev F r)(g:b=false->Ev G r):Ev (λ m k=>cond b (F m k) (G m k)) r:=by
 cases b with
 |true=>exact h rfl
 |false=>exact g rfl
theorem Ev.some{x:Option β}{K:Nat->Nat->β->Option α}{a:β}(b:x=some a)(g:Ev (λ m k=>K m k a) r):Ev (λ m k=>qb x (K m k)) r:=by subst b;exact g
theorem Ev.case{l:List β}{K:Nat->Nat->β->List β->Option α}(h:l=[]->Ev F r)(g:∀x t,l=x::t->Ev (λ m k=>K m k x t) r):Ev (λ m k=>qjz l (F m k) (K m k)) r:=by
 cases l with
 |nil=>exact h rfl
 |cons x t=>exact g x t rfl
theorem Ev.get{x:Option α}(h:Ev (λ _ _=>x) r):x=Option.some r:=by
 let⟨B,h⟩:=h;exact h B B (wa _) (wa _)
end
theorem qz{a b:Int}:ilt a b=true↔a<b:=by unfold ilt;exact decide_eq_true_iff
theorem qB{a b:Int}:ilt a b=false↔b<=a:=by unfold ilt;rw[decide_eq_false_iff_not];omega
theorem qjM{a b:Int}:ile a b=true↔a<=b:=by unfold ile;exact decide_eq_true_iff
theorem qlM{a b:Int}:ile a b=false↔b<a:=by unfold ile;rw[decide_eq_false_iff_not];omega
theorem ql{a b:Int}:ieq a b=true↔a=b:=by unfold ieq;exact beq_iff_eq
theorem qi{a b:Int}:ieq a b=false↔a≠b:=by unfold ieq;exact beq_eq_false_iff_ne
theorem bnt{b:Bool}:qh b=true↔b=false:=by cases b<;>simp[qh]
theorem bnf{b:Bool}:qh b=false↔b=true:=by cases b<;>simp[qh]
theorem yT{a b:List UInt8}:qx a b=true↔a=b:=by unfold qx;exact beq_iff_eq
theorem j8{a b:List UInt8}:qx a b=false↔a≠b:=by unfold qx;exact beq_eq_false_iff_ne
theorem Jo{n:Int}(h:-9223372036854775808<=n/\n<=9223372036854775807):iw .i64 n=n:=IntWalk.i64_in n h
theorem qkO(a b:Nat):qj (a:Int) (b:Int)=((a+b:Nat):Int):=by unfold qj;omega
theorem zj{n b:Nat}(h:n*b<=2^47)(a:0<b):zy n b=true:=by
 unfold zy;rw[decide_eq_true_iff];refine⟨h,?_⟩;have:n*1<=n*b:=vU _ a;omega
theorem Qe{α:Type}(l:List α)(i:Nat):qf l (i:Int)=l[i]?:=by
 unfold qf;rw[if_pos (by omega),kF]
theorem JT{α:Type}(l:List α):qf l 0=l[0]?:=Qe l 0
theorem qw{α:Type}{P:Nat->Prop}(l:List α)(g:l.length<2^62)(e:ilt (l.length:Int) (l.length:Int)=false->P l.length)
  (b:∀(i:Nat) (x:α),l[i]?=some x->l.drop i=x::l.drop (i+1)->ilt (i:Int) (l.length:Int)=true->qf l (i:Int)=some x->iw .i64 (qj (i:Int) 1)=((i+1:Nat):Int)->P (i+1)->P i):∀i,i<=l.length->P i:=by
 intro i h;obtain⟨d,j⟩:∃d,l.length=i+d:=⟨l.length-i,by omega⟩
 induction d generalizing i with
 |zero=>
   have:i=l.length:=by omega
   subst this;exact e (qB.2 (wao _))
 |succ d f=>
   have c:i<l.length:=by omega
   have a:=List.getElem?_eq_getElem c;refine b i _ a (wad c) (qz.2 (by omega)) (by rw[Qe,a]) ?_ (f (i+1) (by omega) (by omega));rw[show qj (i:Int) 1=((i+1:Nat):Int) by unfold qj;omega,Jo (by omega)]
abbrev waA:=@Ev.bind
abbrev waB:=@Ev.ite
abbrev waC:=@Ev.some
abbrev waD:=@Ev.pure
abbrev waE:=@Ev.ret
abbrev waF:=@Ev.ct
abbrev waG:=@Ev.cf
abbrev waH:=@Ev.loop
abbrev waI:=@Ev.succ
abbrev waJ:=@Ev.diag
end Go.AmZ
namespace Go.AmZ
open Go Go.GxZ
set_option linter.unusedVariables false
theorem qj2(m):Jl (m+1)=J5 m:=rfl
theorem qEb(m):qiJ (m+1)=qkq m:=rfl
theorem qAb(m):qdm (m+1)=qeR m (Qv m m):=rfl
theorem qnS(m k):(Qv m (k+1))=qe3 m (Qv m k):=rfl
theorem qBB(m):yf (m+1)=qfJ m (yf m) (jy m (yf m) m):=rfl
theorem qpO(m k):(jy m (yf m) (k+1))=qfQ m (yf m) (jy m (yf m) k):=rfl
theorem qCK(m):zh (m+1)=qiY m:=rfl
theorem qvP(m):qbn (m+1)=qcZ m (QV m m):=rfl
theorem qk2(m k):(QV m (k+1))=qcP m (QV m k):=rfl
theorem qyq(m):qE (m+1)=qdM m (qE m) (qW m (qE m) m).1 (qW m (qE m) m).2:=rfl
theorem qmw(m k):(qW m (qE m) (k+1)).1=qdO m (qE m) (qW m (qE m) k).1 (qW m (qE m) k).2:=rfl
theorem qmI(m k):(qW m (qE m) (k+1)).2=qdH m (qE m) (qW m (qE m) k).1 (qW m (qE m) k).2:=rfl
theorem qyj(m):qaT (m+1)=qgv m:=rfl
theorem qDS(m):qd8 (m+1)=qkp m:=rfl
theorem qDY(m):Qg (m+1)=qgS m (Qg m) (qbS m (Qg m) m):=rfl
theorem qrt(m k):(qbS m (Qg m) (k+1))=qgw m (Qg m) (qbS m (Qg m) k):=rfl
theorem qxz(m):qv (m+1)=qdU m (qv m) (jX m (qv m) m):=rfl
theorem qg5(m k):(jX m (qv m) (k+1))=qbu m (qv m) (jX m (qv m) k):=rfl
theorem qz1(m):JL (m+1)=qh0 m:=rfl
theorem qD7(m):jl (m+1)=qlf m:=rfl
theorem qtl(m):qcr (m+1)=qfh m:=rfl
theorem qfx(m):zR (m+1)=yX m (qn m m).1 (qn m m).2:=rfl
theorem qae(m k):(qn m (k+1)).1=yV m (qn m k).1 (qn m k).2:=rfl
theorem qai(m k):(qn m (k+1)).2=yY m (qn m k).1 (qn m k).2:=rfl
theorem qEe(m):qmF (m+1)=qhl m (qbT m m):=rfl
theorem qrp(m k):(qbT m (k+1))=qgN m (qbT m k):=rfl
theorem qGf(m):qlp (m+1)=qik m (qcS m m):=rfl
theorem qsU(m k):(qcS m (k+1))=qin m (qcS m k):=rfl
theorem qwY(m):yB (m+1)=qdN m (yB m) (QM m (yB m) m):=rfl
theorem qmE(m k):(QM m (yB m) (k+1))=qdB m (yB m) (QM m (yB m) k):=rfl
theorem qDv(m):jp (m+1)=qfC m (jp m) (qaV m (jp m) m):=rfl
theorem qpG(m k):(qaV m (jp m) (k+1))=qfT m (jp m) (qaV m (jp m) k):=rfl
theorem qxT(m):qhi (m+1)=qdL m (qaC m m):=rfl
theorem quR(m k):(qaC m (k+1))=qhr m (qaC m k):=rfl
theorem qIz(m):J0 (m+1)=qj9 m (J0 m) (qee m (J0 m) m):=rfl
theorem qwA(m k):(qee m (J0 m) (k+1))=qj3 m (J0 m) (qee m (J0 m) k):=rfl
theorem qIK(m):qr4 (m+1)=qjN m (qeb m m):=rfl
theorem qvx(m k):(qeb m (k+1))=qjC m (qeb m k):=rfl
theorem qsG(m):qbG (m+1)=qeo m:=rfl
theorem qun(m):zw (m+1)=qb7 m (zw m) (QE m (zw m) m):=rfl
theorem qjf(m k):(QE m (zw m) (k+1))=qb3 m (zw m) (QE m (zw m) k):=rfl
theorem qp0(m):qah (m+1)=qcR m:=rfl
theorem QT(m):qM (m+1)=qG m (qr m m):=rfl
theorem yp(m k):(qr m (k+1))=qF m (qr m k):=rfl
theorem qsy(m):qbv (m+1)=qd2 m:=rfl
theorem qqO(m):zr (m+1)=qa4 m (zr m) (jm m (zr m) m):=rfl
theorem qhI(m k):(jm m (zr m) (k+1))=qba m (zr m) (jm m (zr m) k):=rfl
theorem qzR(m):qbK (m+1)=qhP m:=rfl
theorem qtR(m):qaB (m+1)=qbW m (jO m m):=rfl
theorem qjr(m k):(jO m (k+1))=qbZ m (jO m k):=rfl
theorem quO(m):Je (m+1)=qc7 m (qy m m).1 (qy m m).2.1 (qy m m).2.2:=rfl
theorem qkB(m k):(qy m (k+1)).1=qcM m (qy m k).1 (qy m k).2.1 (qy m k).2.2:=rfl
theorem qkN(m k):(qy m (k+1)).2.1=qcJ m (qy m k).1 (qy m k).2.1 (qy m k).2.2:=rfl
theorem qkU(m k):(qy m (k+1)).2.2=qcT m (qy m k).1 (qy m k).2.1 (qy m k).2.2:=rfl
theorem qsF(m):qdI (m+1)=qbt m (Qd m m):=rfl
theorem qiT(m k):(Qd m (k+1))=qbz m (Qd m k):=rfl
theorem qp6(m):qb9 (m+1)=qcQ m:=rfl
theorem qbH(m):zV (m+1)=zG m (qA m m):=rfl
theorem yt(m k):(qA m (k+1))=qZ m (qA m k):=rfl
theorem qaY(m):zH (m+1)=yg m:=rfl
theorem qsE(m):qdC (m+1)=qeg m:=rfl
theorem qx3(m):qhk (m+1)=qdG m (Jr m m):=rfl
theorem qmG(m k):(Jr m (k+1))=qdK m (Jr m k):=rfl
theorem qx8(m):qgx (m+1)=qhf m:=rfl
theorem qwo(m):yx (m+1)=qc9 m (yx m) (Q9 m (yx m) m):=rfl
theorem qk4(m k):(Q9 m (yx m) (k+1))=qcI m (yx m) (Q9 m (yx m) k):=rfl
theorem qwV(m):qfH (m+1)=qf5 m:=rfl
theorem qua(m):qeC (m+1)=qfi m:=rfl
theorem qoC(m):zf (m+1)=J1 m (zf m) (yz m (zf m) m):=rfl
theorem qgl(m k):(yz m (zf m) (k+1))=J4 m (zf m) (yz m (zf m) k):=rfl
theorem qxD(m):qeq (m+1)=qg9 m:=rfl
theorem qm3(m):qal (m+1)=qbi m:=rfl
theorem qpV(m):zu (m+1)=qan m (zu m) (jC m (zu m) m):=rfl
theorem qhA(m k):(jC m (zu m) (k+1))=qaq m (zu m) (jC m (zu m) k):=rfl
theorem qcD(m):zc (m+1)=qo4 (qv m):=rfl
theorem qtm(m):jc (m+1)=qe7 m:=rfl
theorem qbB(m):qJ (m+1)=qvD (jc m):=rfl
theorem qw9(m):qha (m+1)=qdS m (JA m m):=rfl
theorem qlN(m k):(JA m (k+1))=qdF m (JA m k):=rfl
theorem qAo(m):qmX (m+1)=qhO m:=rfl
theorem qDV(m):qlV (m+1)=qkF m:=rfl
theorem qlw(m):qcA (m+1)=qaF m:=rfl
theorem Jp(m):q9 (m+1)=qN m (qt m m):=rfl
theorem yP(m k):(qt m (k+1))=qO m (qt m k):=rfl
theorem qtk(m):zX (m+1)=qcb m (zX m) (jN m (zX m) m):=rfl
theorem qjw(m k):(jN m (zX m) (k+1))=qb8 m (zX m) (jN m (zX m) k):=rfl
theorem qsN(m):J3 (m+1)=qd4 m:=rfl
theorem qDP(m):yE (m+1)=qlb m:=rfl
theorem qC4(m):jv (m+1)=qfO m (jv m) (qaX m (jv m) m):=rfl
theorem qpF(m k):(qaX m (jv m) (k+1))=qfI m (jv m) (qaX m (jv m) k):=rfl
theorem qxN(m):qaU (m+1)=qgH m:=rfl
theorem qv3(m):zO (m+1)=qc5 m (zO m) (Q4 m (zO m) m):=rfl
theorem qkJ(m k):(Q4 m (zO m) (k+1))=qc6 m (zO m) (Q4 m (zO m) k):=rfl
theorem qCI(m):JJ (m+1)=qiV m:=rfl
theorem qxu(m):jb (m+1)=qdR m (jb m) (Js m (jb m) m):=rfl
theorem qmD(m k):(Js m (jb m) (k+1))=qdA m (jb m) (Js m (jb m) k):=rfl
theorem qDN(m):qlZ (m+1)=qhh m (qbR m m):=rfl
theorem qqZ(m k):(qbR m (k+1))=qgI m (qbR m k):=rfl
theorem qEf(m):ql6 (m+1)=qkR m:=rfl
theorem qAi(m):jB (m+1)=qeY m (jB m) (J9 m (jB m) m):=rfl
theorem qnC(m k):(J9 m (jB m) (k+1))=qey m (jB m) (J9 m (jB m) k):=rfl
theorem qxf(m):qdY (m+1)=qgA m:=rfl
theorem qzI(m):qir (m+1)=qhZ m:=rfl
theorem qxC(m):qcn (m+1)=qdJ m (Jv m m):=rfl
theorem ql5(m k):(Jv m (k+1))=qdT m (Jv m k):=rfl
theorem qBz(m):qjI (m+1)=qi4 m:=rfl
theorem qzJ(m):jA (m+1)=qeJ m (jA m) (J6 m (jA m) m):=rfl
theorem qnn(m k):(J6 m (jA m) (k+1))=qez m (jA m) (J6 m (jA m) k):=rfl
theorem qAn(m):ji (m+1)=qhV m:=rfl
theorem qDu(m):qeW (m+1)=qfL m (qaP m m):=rfl
theorem qpN(m k):(qaP m (k+1))=qfM m (qaP m k):=rfl
theorem qCr(m):qj6 (m+1)=qfK m (qaS m m):=rfl
theorem qpL(m k):(qaS m (k+1))=qfP m (qaS m k):=rfl
theorem qw3(m):qgE (m+1)=qdD m (Jy m m):=rfl
theorem qmz(m k):(Jy m (k+1))=qdz m (Jy m k):=rfl
theorem qz2(m):jh (m+1)=qeI m (jh m) (Jg m (jh m) m):=rfl
theorem qnW(m k):(Jg m (jh m) (k+1))=qex m (jh m) (Jg m (jh m) k):=rfl
theorem qz8(m):qfv (m+1)=qh9 m:=rfl
theorem qEk(m):Qj (m+1)=qhC m (Qj m) (qbV m (Qj m) m):=rfl
theorem qrE(m k):(qbV m (Qj m) (k+1))=qg8 m (Qj m) (qbV m (Qj m) k):=rfl
theorem qGH(m):qbN (m+1)=qm5 m:=rfl
theorem qv1(m):qfG (m+1)=qfZ m:=rfl
theorem qz0(m):qio (m+1)=qeF m (qab m m):=rfl
theorem qnQ(m k):(qab m (k+1))=qe1 m (qab m k):=rfl
theorem qC9(m):qjH (m+1)=qiX m:=rfl
theorem qEl(m):qiA (m+1)=qhc m (qbP m m):=rfl
theorem qqE(m k):(qbP m (k+1))=qgF m (qbP m k):=rfl
theorem qD9(m):qlU (m+1)=qgV m (qbO m m):=rfl
theorem qri(m k):(qbO m (k+1))=qhe m (qbO m k):=rfl
theorem qxb(m):qg2 (m+1)=qdP m (JE m m):=rfl
theorem ql7(m k):(JE m (k+1))=qdQ m (JE m k):=rfl
theorem qCR(m):qgz (m+1)=qfF m (JS m m):=rfl
theorem qpI(m k):(JS m (k+1))=qfB m (JS m k):=rfl
theorem qt4(m):zZ (m+1)=qbX m (zZ m) (jQ m (zZ m) m):=rfl
theorem qjp(m k):(jQ m (zZ m) (k+1))=qcc m (zZ m) (jQ m (zZ m) k):=rfl
theorem qCf(m):qjU (m+1)=qi0 m:=rfl
theorem qDO(m):qmJ (m+1)=qhm m (qbL m m):=rfl
theorem qqb(m k):(qbL m (k+1))=qgT m (qbL m k):=rfl
theorem qu5(m):qbo (m+1)=qgb m:=rfl
theorem qAj(m):jk (m+1)=qeV m (jk m) (Jc m (jk m) m):=rfl
theorem qnN(m k):(Jc m (jk m) (k+1))=qeX m (jk m) (Jc m (jk m) k):=rfl
theorem qD0(m):qiP (m+1)=qg7 m (JK m m):=rfl
theorem qqQ(m k):(JK m (k+1))=qgQ m (JK m k):=rfl
theorem qvH(m):yl (m+1)=qc0 m (yl m) (Qi m (yl m) m):=rfl
theorem qky(m k):(Qi m (yl m) (k+1))=qcW m (yl m) (Qi m (yl m) k):=rfl
theorem qGr(m):qie (m+1)=qmR m:=rfl
theorem qzH(m):qdl (m+1)=qeP m (Jd m m):=rfl
theorem qnz(m k):(Jd m (k+1))=qe2 m (Jd m k):=rfl
theorem qto(m):qew (m+1)=qbY m (qm m m).1 (qm m m).2.1 (qm m m).2.2.1 (qm m m).2.2.2:=rfl
theorem qjv(m k):(qm m (k+1)).1=qcd m (qm m k).1 (qm m k).2.1 (qm m k).2.2.1 (qm m k).2.2.2:=rfl
theorem qjn(m k):(qm m (k+1)).2.1=qb2 m (qm m k).1 (qm m k).2.1 (qm m k).2.2.1 (qm m k).2.2.2:=rfl
theorem qji(m k):(qm m (k+1)).2.2.1=qb5 m (qm m k).1 (qm m k).2.1 (qm m k).2.2.1 (qm m k).2.2.2:=rfl
theorem qjh(m k):(qm m (k+1)).2.2.2=qb1 m (qm m k).1 (qm m k).2.1 (qm m k).2.2.1 (qm m k).2.2.2:=rfl
theorem qCG(m):qcV (m+1)=qi8 m:=rfl
theorem quU(m):qdk (m+1)=qgc m:=rfl
theorem qwc(m):qfN (m+1)=qda m (QU m m):=rfl
theorem qlm(m k):(QU m (k+1))=qcX m (QU m k):=rfl
theorem qEm(m):qmA (m+1)=qgJ m (qaA m m):=rfl
theorem qrg(m k):(qaA m (k+1))=qhw m (qaA m k):=rfl
theorem qz7(m):qim (m+1)=qh8 m:=rfl
theorem qxs(m):jd (m+1)=qdE m (jd m) (Jx m (jd m) m):=rfl
theorem qlS(m k):(Jx m (jd m) (k+1))=qdy m (jd m) (Jx m (jd m) k):=rfl
theorem qxe(m):qgY (m+1)=qgK m:=rfl
theorem qAu(m):qiu (m+1)=qeu m (qaa m m):=rfl
theorem qnt(m k):(qaa m (k+1))=qeD m (qaa m k):=rfl
theorem qDL(m):qmj (m+1)=qhd m (qbM m m):=rfl
theorem qq2(m k):(qbM m (k+1))=qhz m (qbM m k):=rfl
theorem qCy(m):qjR (m+1)=qfD m (qaE m m):=rfl
theorem qpy(m k):(qaE m (k+1))=qfS m (qaE m k):=rfl
theorem qDs(m):qjT (m+1)=qi1 m:=rfl
theorem qxk(m):qhs (m+1)=qg1 m:=rfl
theorem qAk(m):qfp (m+1)=qid m:=rfl
theorem qf3(m):QW (m+1)=Qu m:=rfl
theorem qpU(m):qac (m+1)=qc4 m:=rfl
theorem qmW(m):law20_EnvelopePrefix (m+1)=qbj m:=rfl
end Go.AmZ
namespace Go.GxZ
def size:T->Nat:=T.para λ _ a=>1+a.sum
theorem zb(t:T):size t=1+(t.kids.map size).sum:=T.para_eq _ _
theorem size_pos(t:T):1<=size t:=by rw[zb];omega
theorem qG8(l:List T):l.length<=(l.map size).sum:=by
 induction l with
 |nil=>simp
 |cons x l a=>have:=size_pos x;simp only[wx,wv,kK];omega
theorem qjB(l:List T)(x:T)(h:x∈l):size x<=(l.map size).sum:=by
 induction l with
 |nil=>cases h
 |cons y l a=>
   simp only[wv,kK];obtain rfl|h:=ww.1 h
   .omega
   .have:=a h;omega
theorem jD(t:T)(x:T)(h:x∈t.kids):size x<size t:=by
 have:=qjB t.kids x h;rw[zb t];omega
theorem yJ(t:T):t.kids.length<size t:=by
 have:=qG8 t.kids;rw[zb t];omega
def sgn(a b:Int):Int:=if a<b then -1 else if b<a then 1 else 0
def thn(x y:Int):Int:=if x=0 then y else x
structure Cmp {α:Type} (f:α->α->Int):Prop where
 rng:∀a b,f a b=-1\/f a b=0\/f a b=1
 anti:∀a b,f b a=- f a b
 trans:∀a b c,f a b=-1->f b c=-1->f a c=-1
 same:∀a b c,f a b=0->f b c=f a c
theorem Cmp.thn{α:Type}{f g:α->α->Int}(d:Cmp f)(l:Cmp g):Cmp λ a b=>thn (f a b) (g a b):=by
 constructor
 .intro a b;have:=d.rng a b;have:=l.rng a b;unfold GxZ.thn;split<;>omega
 .intro a b;have:=d.anti a b;have:=l.anti a b;unfold GxZ.thn;split<;>split<;>omega
 .intro a b c k j;have p:=d.anti a b;have a2:=d.anti b c;have a3:=d.anti a c;have n:=d.trans a b c;have t2:=l.trans a b c;have m:=d.same a b c;have s2:=d.same c b a;have o:=d.rng a b;have r2:=d.rng b c;have r3:=d.rng a c;unfold GxZ.thn at k j |-
  by_cases i:f a b=0
  .by_cases e:f b c=0
   .rw[if_pos i]at k;rw[if_pos e]at j;rw[if_pos (by rw[<-m i];exact e)];exact t2 k j
   .rw[if_neg e]at j;rw[if_neg (by rw[<-m i];exact e),<-m i];exact j
  .rw[if_neg i]at k;by_cases e:f b c=0
   .have:=s2 (by omega);rw[if_neg (by omega)];omega
   .rw[if_neg e]at j;have:=n k j;rw[if_neg (by omega)];exact this
 .intro a b c h
  have i:f a b=0:=by
   unfold GxZ.thn at h;split at h
   .assumption
   .exact absurd h (by assumption)
  have e:g a b=0:=by
   unfold GxZ.thn at h
   rwa [if_pos i]at h
  show GxZ.thn _ _=GxZ.thn _ _;rw[d.same a b c i,l.same a b c e]
theorem Cmp.on{α d:Type}{f:d->d->Int}(c:Cmp f)(p:α->d):Cmp λ a b=>f (p a) (p b):=
 ⟨λ _ _=>c.rng _ _,λ _ _=>c.anti _ _,λ _ _ _=>c.trans _ _ _,λ _ _ _=>c.same _ _ _⟩
theorem qr8:Cmp sgn:=by
 constructor
 .intro a b;unfold sgn;split<;>(try split)<;>omega
 .intro a b;unfold sgn;split<;>split<;>(try split)<;>omega
 .intro a b c;unfold sgn;split<;>split<;>(try split)<;>(try split)<;>omega
 .intro a b c;unfold sgn;split<;>split<;>(try split)<;>(try split)<;>omega
theorem qkt{a b:Int}(h:sgn a b=0):a=b:=by unfold sgn at h;split at h<;>(try split at h)<;>omega
theorem qKV(a:Int):sgn a a=0:=by unfold sgn;split<;>(try split)<;>omega
open Lib (compareBytes)
theorem qyR(a:List UInt8):compareBytes a a=0:=by
 induction a with
 |nil=>rfl
 |cons x a b=>simp[compareBytes,b]
theorem qoM:∀a b:List UInt8,compareBytes a b=-1\/compareBytes a b=0\/compareBytes a b=1
 |[],[]|[],_::_|_::_,[]=>by simp[compareBytes]
 |x::a,y::b=>by
   unfold compareBytes;split
   .simp
   .split
    .simp
    .exact qoM a b
theorem qyP:∀a b:List UInt8,compareBytes b a=- compareBytes a b
 |[],[]|[],_::_|_::_,[]=>by simp[compareBytes]
 |x::a,y::b=>by
   have:=qyP a b;unfold compareBytes;simp only[vd];split<;>split<;>(try split)<;>omega
theorem qmm:∀a b:List UInt8,compareBytes a b=0->a=b
 |[],[],_=>rfl
 |[],_::_,h|_::_,[],h=>by simp[compareBytes]at h
 |x::a,y::b,h=>by
   unfold compareBytes at h;simp only[vd]at h;split at h
   .omega
   .split at h
    .omega
    .rw[qmm a b h,UInt8.toNat_inj.1 (show x.toNat=y.toNat by omega)]
theorem quZ:∀ a b c:List UInt8,compareBytes a b=-1->compareBytes b c=-1->compareBytes a c=-1
 | [],_,[],h1,h2=>by
   rename_i b;cases b<;>simp[compareBytes]at h1 h2
 | [],_,_::_,_,_=>by simp[compareBytes]
 | _::_,[],_,h1,_=>by simp[compareBytes]at h1
 | _::_,_::_,[],_,h2=>by simp[compareBytes]at h2
 | x::a,y::b,z::c,h1,h2=>by
   have ih:=quZ a b c;unfold compareBytes at h1 h2 |-
   simp only[vd]at h1 h2 |-
   split at h1
   ·split at h2
    ·rw[if_pos (by omega)]
    ·split at h2
     ·omega
     ·rw[if_pos (by omega)]
   ·split at h1
    ·omega
    ·split at h2
     ·rw[if_pos (by omega)]
     ·split at h2
      ·omega
      ·rw[if_neg (by omega),if_neg (by omega)];exact ih h1 h2
theorem qKz:Cmp compareBytes:=
 ⟨qoM,qyP,quZ,λ a b c h=>by rw[qmm a b h]⟩
def Q7:List (T->Int)->List T->Int
 |r::a,b::c=>thn (r b) (Q7 a c)
 |_,_=>0
def qi7(a b:T):Int:=
 thn (sgn (size a) (size b)) (thn (sgn a.kind b.kind) (thn (compareBytes a.name b.name) (thn (sgn a.sort b.sort) (sgn a.kids.length b.kids.length))))
def qs:T->T->Int:=T.para λ a c b=>thn (qi7 a b) (Q7 c b.kids)
theorem qgt(a b:T):qs a b=thn (qi7 a b) (Q7 (a.kids.map qs) b.kids):=congrFun (T.para_eq _ _) b
theorem qem:Cmp qi7:=
 (qr8.on λ t:T=>(size t:Int)).thn ((qr8.on T.kind).thn ((qKz.on T.name).thn ((qr8.on T.sort).thn (qr8.on λ t:T=>(t.kids.length:Int)))))
theorem qga{x y:Int}(h:thn x y=0):x=0/\y=0:=by unfold thn at h;split at h<;>omega
theorem qqR{a b:T}(h:qi7 a b=0):a.kind=b.kind/\a.name=b.name/\a.sort=b.sort/\a.kids.length=b.kids.length:=by
 unfold qi7 at h;let⟨_,h⟩:=qga h;let⟨f,h⟩:=qga h;let⟨e,h⟩:=qga h;let⟨d,c⟩:=qga h;have:=qkt c;exact⟨qkt f,qmm _ _ e,qkt d,by omega⟩
theorem qHx(a:T):qi7 a a=0:=by
 unfold qi7 thn;simp[qKV,qyR]
theorem T.ext{a b:T}(f:a.kind=b.kind)(e:a.name=b.name)(d:a.sort=b.sort)(c:a.kids=b.kids):a=b:=by
 let⟨k,n,s,l⟩:=a;let⟨j,h,g,i⟩:=b;simp only[T.kind,T.name,T.sort,T.kids]at f e d c;rw[f,e,d,c]
theorem qqf(a:T):qs a a=0:=by
 refine T.ind (P:=λ a=>qs a a=0) ?_ a;intro a c;rw[qgt,qHx,thn,if_pos rfl];generalize a.kids=l at*
 induction l with
 |nil=>rfl
 |cons x l b=>
   rw[wv,Q7,c x (wi ..),thn,if_pos rfl];exact b λ k d=>c k (wg _ d)
theorem qaz(a:T):∀b,qs a b=0->a=b:=by
 refine T.ind (P:=λ a=>∀b,qs a b=0->a=b) ?_ a;intro a e b h;rw[qgt]at h;let⟨g,f⟩:=qga h;let⟨n,j,i,c⟩:=qqR g;refine T.ext n j i ?_;generalize a.kids=l at *;generalize b.kids=m at *;clear h g
 induction l generalizing m with
 |nil=>exact(ky.1 c.symm).symm
 |cons x l d=>
   cases m with
   |nil=>simp at c
   |cons y m=>
     rw[wv,Q7]at f;let⟨q,p⟩:=qga f;rw[e x (wi ..) y q,d (λ k o=>e k (wg _ o)) m p (by simpa using c)]
def qwL(a:T):Prop:=(∀b,qs a b=-1\/qs a b=0\/qs a b=1)/\(∀b,qs b a=- qs a b)/\(∀b c,qs a b=-1->qs b c=-1->qs a c=-1)
theorem qBW:∀l m:List T,(∀k∈l,qwL k)->Q7 (l.map qs) m=-1\/Q7 (l.map qs) m=0\/Q7 (l.map qs) m=1
 |[],_,_|_::_,[],_=>by simp[Q7]
 |x::l,y::m,h=>by
   rw[wv,Q7];have c:=(h x (wi ..)).1 y;have b:=qBW l m λ k a=>h k (wg _ a);unfold thn;split<;>omega
theorem qzy:∀l m:List T,(∀k∈l,qwL k)->Q7 (m.map qs) l=- Q7 (l.map qs) m
 |[],[],_|[],_::_,_|_::_,[],_=>by simp[Q7]
 |x::l,y::m,h=>by
   rw[wv,Q7,wv,Q7];have c:=(h x (wi ..)).2.1 y;have b:=qzy l m λ k a=>h k (wg _ a);unfold thn;split<;>split<;>omega
theorem quT:∀l m n:List T,(∀k∈l,qwL k)->l.length=m.length->m.length=n.length->Q7 (l.map qs) m=-1->Q7 (m.map qs) n=-1->Q7 (l.map qs) n=-1
 |[],_,_,_,_,_,h,_=>by simp[Q7]at h
 |_::_,[],_,_,h,_,_,_|_::_,_::_,[],_,_,h,_,_=>by simp at h
 |x::l,y::m,z::n,h,e1,j,b,a=>by
   rw[wv,Q7]at b a |-
   have g:=h x (wi ..);have f:=quT l m n (λ k i=>h k (wg _ i)) (by simpa using e1) (by simpa using j);have e:=g.2.2 y z;by_cases d:qs x y=0
   .have:=qaz x y d;subst this;rw[thn,if_pos d]at b;by_cases c:qs x z=0
    .rw[thn,if_pos c]at a |-
     exact f b a
    .rw[thn,if_neg c]at a |-
     exact a
   .rw[thn,if_neg d]at b;by_cases c:qs y z=0
    .have:=qaz y z c;subst this;rw[thn,if_neg d];exact b
    .rw[thn,if_neg c]at a;have:=e b a;rw[thn,if_neg (by omega)];exact this
theorem qGY(a:T):qwL a:=by
 refine T.ind (P:=qwL) ?_ a;intro a i;refine⟨λ b=>?_,λ b=>?_,λ b c g d=>?_⟩
 .rw[qgt];have g:=qem.rng a b;have d:=qBW a.kids b.kids i;unfold thn;split<;>omega
 .rw[qgt,qgt];have g:=qem.anti a b;have d:=qzy a.kids b.kids i;unfold thn;split<;>split<;>omega
 .rw[qgt]at g d |-
  by_cases h:qi7 a b=0
  .rw[thn,if_pos h]at g;have e:=qem.same a b c h;by_cases f:qi7 b c=0
   .rw[thn,if_pos f]at d;rw[thn,if_pos (by rw[<-e];exact f)];exact quT _ _ _ i (qqR h).2.2.2 (qqR f).2.2.2 g d
   .rw[thn,if_neg f]at d;rw[thn,if_neg (by rw[<-e];exact f),<-e];exact d
  .rw[thn,if_neg h]at g;by_cases f:qi7 b c=0
   .have e1:=qem.anti b c;have l:=qem.same c b a (by omega);have k:=qem.anti a b;have j:=qem.anti a c;rw[thn,if_neg (by omega)];omega
   .rw[thn,if_neg f]at d;have:=qem.trans a b c g d;rw[thn,if_neg (by omega)];exact this
theorem yd:Cmp qs:=
 ⟨λ a=>(qGY a).1,λ a b=>(qGY a).2.1 b,λ a=>(qGY a).2.2,λ a b c h=>by rw[qaz a b h]⟩
theorem qJP(a b:T):qs a b=0↔a=b:=⟨qaz a b,λ h=>by rw[h];exact qqf b⟩
theorem qpJ:∀a b:List UInt8,Op.bytesLess a b=decide (compareBytes a b=-1)
 |[],[]|[],_::_|_::_,[]=>by simp[Op.bytesLess,compareBytes]
 |x::a,y::b=>by
   rw[Op.bytesLess,compareBytes,qpJ a b];by_cases d:x<y
   .simp[d]
   .by_cases c:y<x
    .have:¬ x=y:=λ e=>by rw[e]at c;exact d (by rw[e];exact c)
     simp[d,c,this]
    .have:x=y:=UInt8.toNat_inj.1 (by rw[vd]at d c;omega);simp[this]
end Go.GxZ
namespace Go.GxZ
def qlt:List (Int->Int)->Int->Int
 |[],m=>m
 |f::a,m=>if f m<0 then -1 else qlt a (f m)
def qbl:T->Int->Int:=T.para λ t a m=>if m<=0\/40<t.name.length then -1 else qlt a (m-1)
theorem qEL(t:T)(m:Int):qbl t m=if m<=0\/40<t.name.length then -1 else qlt (t.kids.map qbl) (m-1):=congrFun (T.para_eq _ _) m
theorem qqv(t:T):∀m,qbl t m<0/\qbl t m=-1\/0<=qbl t m/\qbl t m=m-size t:=by
 refine T.ind (P:=λ t=>∀m,qbl t m<0/\qbl t m=-1\/0<=qbl t m/\qbl t m=m-size t) ?_ t;intro t e m
 have g:∀l:List T,(∀k∈l,k∈t.kids)->∀m,0<=m->(qlt (l.map qbl) m<0/\qlt (l.map qbl) m=-1\/0<=qlt (l.map qbl) m/\qlt (l.map qbl) m=m-((l.map size).sum:Nat)):=by
  intro l
  induction l with
  |nil=>intro _ m b;right;simp[qlt];exact b
  |cons x l a=>
    intro c m b;simp only[wv,qlt,kK];have j:=e x (c x (wi ..)) m;by_cases d:qbl x m<0
    .rw[if_pos d];left;exact⟨by omega,rfl⟩
    .rw[if_neg d];have i:=a (λ k f=>c k (wg _ f)) (qbl x m) (by omega);omega
 rw[qEL,zb];split
 .left;exact⟨by omega,rfl⟩
 .have:=g t.kids (λ _ h=>h) (m-1) (by omega);omega
def qd3:T->Nat:=T.para λ _ a=>a.foldl max 0+1
theorem qkj(t:T):qd3 t=(t.kids.map qd3).foldl max 0+1:=T.para_eq _ _
theorem qBw(l:List Nat):∀(a b:Nat),a<=b->(∀x∈l,x<=b)->l.foldl max a<=b:=by
 induction l with
 |nil=>intro a b h _;exact h
 |cons x l d=>intro a b h c;exact d _ _ (Nat.max_le.2 ⟨h,c x (wi ..)⟩) λ y e=>c y (wg _ e)
theorem qEY(t:T):qd3 t<=size t:=by
 refine T.ind (P:=λ t=>qd3 t<=size t) ?_ t;intro t b;rw[qkj,zb]
 have:(t.kids.map qd3).foldl max 0<=(t.kids.map size).sum:=by
  refine qBw _ _ _ (we _) λ x c=>?_;obtain⟨k,a,rfl⟩:=wA.1 c;exact wD (b k a) (qjB _ _ a)
 omega
def qgZ(c:Int):Bool:=decide (97<=c/\c<=122)||decide (65<=c/\c<=90)
def qux(c:Int):Bool:=decide (48<=c/\c<=57)
def J2(c:Int):Bool:=qgZ c||qux c||decide (c=95)||decide (c=35)
def jF(l:List UInt8):Bool:=decide (0<l.length)&&decide (l.length<=24)&&qgZ ((l.getD 0 0).toNat:Int)&&l.all λ c=>J2 (c.toNat:Int)
def qip(k so:Int)(n:Nat)(a:Bool):Int:=
 if k=1\/k=2 then(if so<0\/5<so\/0<n then 1 else if a then 0 else 2)
 else if k=3 then(if so≠0 then 1 else if a then(if 8<n then 3 else 0)else 2)
 else 1
def jG(t:T):Int:=qip t.kind t.sort t.kids.length (jF t.name)
def Qb:T->Int:=T.para λ t a=>a.foldl thn (jG t)
theorem qmP(t:T):Qb t=(t.kids.map Qb).foldl thn (jG t):=T.para_eq _ _
theorem QH{x:Int}(h:x≠0)(y:Int):thn x y=x:=if_neg h
theorem qT(l:List Int):∀{x:Int},x≠0->l.foldl thn x=x:=by
 induction l with
 |nil=>intro x _;rfl
 |cons y l a=>intro x h;rw[kh,QH h];exact a h
theorem QK(l:List Int)(x:Int):(x::l).foldl thn 0=l.foldl thn x:=rfl
theorem qil{t:T}(h:Qb t=0):jG t=0/\(∀k∈t.kids,Qb k=0):=by
 rw[qmP]at h;by_cases b:jG t=0
 .refine⟨b,?_⟩;rw[b]at h;generalize t.kids=l at *;clear b
  induction l with
  |nil=>intro k a;cases a
  |cons x l d=>
    rw[wv,QK]at h;by_cases c:Qb x=0
    .rw[c]at h;intro k a;obtain rfl|a:=ww.1 a
     .exact c
     .exact d h k a
    .rw[qT _ c]at h;exact absurd h c
 .rw[qT _ b]at h;exact absurd h b
def qV(t:T):Int:=if Qb t≠0 then Qb t else if 400<size t\/40<qd3 t then 3 else 0
instance:DecidableEq T:=λ _ _=>Classical.propDecidable _
def yj(a b:T):Bool:=decide (a=b)
def qpq:List T->Int->Bool
 |[],_=>true
 |x::l,m=>if qbl x m<0 then false else qpq l (qbl x m)
theorem qyN:∀(l:List T) (m:Int),0<=m->qpq l m=true->((l.map size).sum:Nat)<=m
 |[],m,b,_=>by simpa using b
 |x::l,m,b,h=>by
   rw[qpq]at h;by_cases a:qbl x m<0
   .rw[if_pos a]at h;exact absurd h (by decide)
   .rw[if_neg a]at h;have d:=qqv x m;have c:=qyN l (qbl x m) (by omega) h;simp only[wv,kK];omega
def jH:List (List UInt8×Int×Int×Int):=[
 ([112,97,105,114],2,2,1),
 ([101,110,99],2,2,1),
 ([97,101,110,99],2,2,1),
 ([112,107],1,1,1),
 ([115,105,103,110],2,2,1),
 ([104,97,115,104],1,1,1),
 ([120,111,114],2,8,1),
 ([122,101,114,111],0,0,1),
 ([101,120,112],2,2,1),
 ([109,117,108],2,8,1),
 ([105,110,118],1,1,1),
 ([111,110,101],0,0,1),
 ([115,107],1,1,2),
 ([115,104,107],2,2,2),
 ([110,101,119],1,8,2),
 ([102,115,116],1,1,3),
 ([115,110,100],1,1,3),
 ([100,101,99],2,2,3),
 ([97,100,101,99],2,2,3),
 ([111,112,101,110],2,2,3),
 ([114,101,97,100],1,1,3)]
def qyh(l:List (List UInt8×Int×Int×Int))(n:List UInt8):Int×Int×Int:=((l.find? λ r=>r.1==n).map (·.2)).getD (0,0,0)
theorem qIj(r:List UInt8×Int×Int×Int)(l:List (List UInt8×Int×Int×Int))(n:List UInt8):qyh (r::l) n=if(r.1==n)=true then r.2 else qyh l n:=by
 unfold qyh;rw[List.find?_cons];cases h:r.1==n<;>simp
def qJI(l:List (List UInt8×Int×Int×Int))(n:List UInt8):Bool:=l.any λ r=>r.1==n
def qmT(l:List (List UInt8×Int×Int×Int))(n:List UInt8)(k:Int):Bool:=qJI l n&&decide ((qyh l n).1<=k)&&decide (k<=(qyh l n).2.1)
theorem qI1(r:List UInt8×Int×Int×Int)(l:List (List UInt8×Int×Int×Int))(n:List UInt8)(k:Int):
  qmT (r::l) n k=if(r.1==n)=true then decide (r.2.1<=k)&&decide (k<=r.2.2.1)else qmT l n k:=by
 unfold qmT;rw[qIj];unfold qJI;rw[waa];cases h:r.1==n<;>simp
def qor:List UInt8:=[112,97,105,114]
def qoZ:List UInt8:=[101,110,99]
def qiq:List UInt8:=[97,101,110,99]
def nPk:List UInt8:=[112,107]
def qe0:List UInt8:=[115,105,103,110]
def qep:List UInt8:=[120,111,114]
def qca:List UInt8:=[122,101,114,111]
def qfg:List UInt8:=[101,120,112]
def qf8:List UInt8:=[109,117,108]
def Jh:List UInt8:=[105,110,118]
def qje:List UInt8:=[111,110,101]
def nSk:List UInt8:=[115,107]
def qub:List UInt8:=[115,104,107]
def qgG:List UInt8:=[110,101,119]
def qLX:List UInt8:=[102,115,116]
def qx4:List UInt8:=[115,110,100]
def qKr:List UInt8:=[100,101,99]
def qG4:List UInt8:=[97,100,101,99]
def qGN:List UInt8:=[111,112,101,110]
def qGW:List UInt8:=[114,101,97,100]
def zT:T:=.mk 0 [] 0 []
def kid(t:T)(i:Nat):T:=t.kids.getD i zT
def apT(n:List UInt8)(l:List T):T:=.mk 3 n 0 l
def isN(t:T)(n:List UInt8):Bool:=t.kind==3&&t.name==n
def qC(n:List UInt8):Int×Int×Int:=((jH.find? λ r=>r.1==n).map (·.2)).getD (0,0,0)
def qav(t:T):Bool:=
 if t.name=qgG then decide ((kid t 0).kind≠2)
 else if t.name=nSk\/t.name=qub then t.kids.any λ k=>decide (k.kind=3)||decide (k.sort≠1)else false
def qco(t:T):Int:=
 if t.kind≠3 then 0 else if(qC t.name).2.2=0 then 10 else if(t.kids.length:Int)<(qC t.name).1\/(qC t.name).2.1<(t.kids.length:Int)then 6 else if qav t then 10 else 0
def zl:T->Int:=T.para λ t a=>if t.kind≠3 then 0 else a.foldl thn (qco t)
theorem qnL(t:T):zl t=if t.kind≠3 then 0 else(t.kids.map zl).foldl thn (qco t):=T.para_eq _ _
def qdu(t:T):Int:=thn (qV t) (zl t)
def yk(t:T):Bool:=
 if t.name=qLX\/t.name=qx4 then isN (kid t 0) qor
 else if t.name=qKr then isN (kid t 0) qoZ&&yj (kid (kid t 0) 1) (kid t 1)
 else if t.name=qG4 then isN (kid t 0) qiq&&isN (kid (kid t 0) 1) nPk&&yj (kid (kid (kid t 0) 1) 0) (kid t 1)
 else if t.name=qGN then isN (kid t 0) qe0&&isN (kid t 1) nPk&&yj (kid (kid t 0) 1) (kid (kid t 1) 0)
 else if t.name=qGW then isN (kid t 0) qe0 else false
def qi6(t:T):T:=if yk t then kid (kid t 0) (if t.name=qx4 then 1 else 0)else t
def qcG(t:T):Bool:=t.kind==3&&(t.name==qf8||t.name==Jh||t.name==qje)
abbrev Pw:=T×Int
def yC:List Pw->T->Int->List Pw
 |[],t,n=>[(t,n)]
 |(x,m)::l,t,n=>if qs t x=-1 then(t,n)::(x,m)::l else if qs t x=0 then(if m+n=0 then l else(x,m+n)::l)else(x,m)::yC l t n
def arK(t:T):Bool := !(t.name==qje&&t.kids.length != 0||t.name==Jh&&t.kids.length != 1||t.name==qf8&&decide (t.kids.length<2))
def arT:T->Bool:=T.para λ t a => !qcG t||(arK t&&a.all id)
theorem qwd(t:T):arT t=(!qcG t||(arK t&&(t.kids.map arT).all id)):=T.para_eq _ _
def qaZ(t:T)(n:Int):Int:=if t.name=Jh then -n else n
def jt:T->List Pw->Int->List Pw:=T.para λ t a l n=>if qcG t then a.foldl (λ l f=>f l (qaZ t n)) l else yC l t n
theorem qgf(t:T)(l:List Pw)(n:Int):jt t l n=if qcG t then(t.kids.map jt).foldl (λ l f=>f l (qaZ t n)) l else yC l t n:=by
 have h:jt t=λ l n=>if qcG t then(t.kids.map jt).foldl (λ l f=>f l (qaZ t n)) l else yC l t n:=T.para_eq _ _;rw[h]
def ofP(t:T):List Pw×Int:=
 if qV t≠0 then([],qV t)else if arT t=false then([],6)else if 200<(jt t [] 1).length then([],3)else(jt t [] 1,0)
def pvK(q:Option T)(p:Pw):Int:=
 if qV p.1≠0 then qV p.1 else if qcG p.1 then 1 else if p.2=0\/p.2 < -1000\/1000<p.2 then 7 else match q with|some x=>if 0<=qs x p.1 then 5 else 0|none=>0
def pvL:Option T->List Pw->Int
 |_,[]=>0
 |q,p::l=>thn (pvK q p) (pvL (some p.1) l)
def Jn(l:List Pw):Int:=if 200<l.length then 3 else pvL none l
def yi(l:List Pw):List T:=l.flatMap λ p=>List.replicate p.2.toNat p.1
def yn(l:List Pw):List T:=l.flatMap λ p=>List.replicate (-p.2).toNat (apT Jh [p.1])
def JY(o:List T):T:=if o.length=0 then apT qje []else if o.length=1 then o.getD 0 zT else apT qf8 o
def qa8(l:List Pw):T×Int:=
 if Jn l≠0 then(zT,Jn l)else if 8<(yi l++yn l).length then(zT,3)
 else if qV (JY (yi l++yn l))≠0 then(zT,qV (JY (yi l++yn l)))else(JY (yi l++yn l),0)
def qm6(l:List Pw):Bool:=l.any λ p=>decide (p.2 < -1000)||decide (1000<p.2)
def Q0(a b:List Pw):List Pw:=b.foldl (λ l p=>yC l p.1 p.2) a
def qls(a b:List Pw):List Pw×Int:=
 if Jn a≠0 then([],Jn a)else if Jn b≠0 then([],Jn b)else if qm6 (Q0 a b)then([],7)else if 200<(Q0 a b).length then([],3)else(Q0 a b,0)
def zq:List T->List T->List T
 |[],b=>b
 |x::a,[]=>x::a
 |x::a,y::b=>if qs x y=-1 then x::zq a (y::b)else if qs x y=1 then y::zq (x::a) b else zq a b
termination_by a b=>a.length+b.length
def jU:T->List T:=T.para λ t a=>if isN t qca&&t.kids.isEmpty then[]else if isN t qep then a.foldl zq []else[t]
theorem qkC(t:T):jU t=if isN t qca&&t.kids.isEmpty then[]else if isN t qep then(t.kids.map jU).foldl zq []else[t]:=T.para_eq _ _
def qnp(l:List T):Int:=if 200<l.length then 3 else(l.map qV).foldl thn 0
def zY(l:List T):List T:=(l.map jU).foldl zq []
def J8(o:List T):T:=if o.length=0 then apT qca []else if o.length=1 then o.getD 0 zT else apT qep o
def qoS(l:List T):T×Int:=
 if qnp l≠0 then(zT,qnp l)else if qV (J8 (zY l))≠0 then(zT,3)else(J8 (zY l),0)
def qhR(b:T)(l:List Pw):T×Int:=
 if l.length=0 then(b,0)else if(qa8 l).2≠0 then(zT,(qa8 l).2)else(apT qfg [b,(qa8 l).1],0)
def qo0(b e:T):T×Int:=
 if(ofP e).2≠0 then(zT,(ofP e).2)
 else if isN b qfg then
  (if(ofP (kid b 1)).2≠0 then(zT,(ofP (kid b 1)).2)
   else if(qls (ofP (kid b 1)).1 (ofP e).1).2≠0 then(zT,(qls (ofP (kid b 1)).1 (ofP e).1).2)
   else qhR (kid b 0) (qls (ofP (kid b 1)).1 (ofP e).1).1)
 else qhR b (ofP e).1
def isD(n:List UInt8):Bool:=n==qLX||n==qx4||n==qKr||n==qG4||n==qGN||n==qGW
def qlY(t:T):T×Int:=if(ofP t).2≠0 then(zT,(ofP t).2)else qa8 (ofP t).1
def JX(t:T):T×Int:=
 if isD t.name then(qi6 t,0)else if t.name=qep then qoS t.kids
 else if t.name=qf8\/t.name=Jh\/t.name=qje then qlY t
 else if t.name=qfg then qo0 (kid t 0) (kid t 1)else(t,0)
def zQ:T->T×Int:=T.para λ t a=>
 if t.kind≠3 then(t,0)else if(a.map (·.2)).foldl thn 0≠0 then(zT,(a.map (·.2)).foldl thn 0)else JX (apT t.name (a.map (·.1)))
theorem qnJ(t:T):zQ t=if t.kind≠3 then(t,0)else if((t.kids.map zQ).map (·.2)).foldl thn 0≠0 then(zT,((t.kids.map zQ).map (·.2)).foldl thn 0)else JX (apT t.name ((t.kids.map zQ).map (·.1))):=T.para_eq _ _
def qka(t:T):T×Int:=
 if qdu t≠0 then(zT,qdu t)else if(zQ t).2≠0 then(zT,(zQ t).2)else if qV (zQ t).1≠0 then(zT,qV (zQ t).1)else zQ t
def agB(l:List T):Bool:=l.all λ k => !(k.kind==3) && !(k.sort != 1)
def qkf(t:T):Bool:=if t.name=qgG then(kid t 0).kind==2 else agB t.kids
theorem qKR(k:T)(l:List T):agB (k::l)=((!(k.kind==3) && !(k.sort != 1))&&agB l):=rfl
end Go.GxZ
namespace Go.AmZ
open Go Go.GxZ Go.Lib
theorem qmN(a b:Int):Ev (λ m _=>qaU m a b) (sgn a b):=by
 refine waI ?_;simp only[qxN,qgH];unfold sgn;refine waB (λ h=>?_) λ h=>?_
 .exact waE (by rw[if_pos (qz.1 h)])
 .rw[qB]at h;refine waB (λ c=>?_) λ c=>?_
  .rw[qz]at c;exact waE (by rw[if_neg (by omega),if_pos c])
  .rw[qB]at c;exact waE (by rw[if_neg (by omega),if_neg (by omega)])
theorem qs9{l:List T}{i:Nat}{x:T}(h:l.drop i=x::l.drop (i+1)):((l.drop i).map size).sum=size x+((l.drop (i+1)).map size).sum:=by
 rw[h,wv,kK]
theorem qtw(t:T):size t<=1000000000->Ev (λ m _=>jv m t) (size t:Int):=by
 induction t using T.ind with
 |h t d=>
   intro p;refine waI ?_;simp only[qC4,qfO];have q:=yJ t;have j:=zb t
   have b:=qw (P:=λ i=>∀a:Nat,a+((t.kids.drop i).map size).sum<=1000000000->Ev (λ m k=>qaX m (jv m) k a i t.kind t.name t.sort t.kids) ((a+((t.kids.drop i).map size).sum:Nat):Int)) t.kids (by omega)
    (λ c a _=>by
     refine waH ?_;simp only[qpF,qfI];refine waG c ?_;exact waE (by simp))
    (λ i x e l c g f o a n=>by
     rw[qs9 l]at n |-
     refine waH ?_;simp only[qpF,qfI];refine waF c (waC g ?_);rw[qk];refine waA (d x (wc e) (by omega)) ?_;rw[f,qkO,Jo (by omega)];refine(o (a+size x) (by omega)).res (by congr 1;omega))
   refine waJ (L:=λ m k=>qaX m (jv m) k 1 0 t.kind t.name t.sort t.kids) ?_;refine(b 0 (we _) 1 (by simp;omega)).res (by rw[wP,j])
theorem qCC(a b:Nat):qm4 (a:Int) (b:Int)=((max a b:Nat):Int):=by unfold qm4;split<;>omega
theorem qse(a b:Int):Ev (λ m _=>qd8 m a b) (sgn a b):=by
 refine waI ?_;simp only[qDS,qkp];unfold sgn;refine waB (λ h=>?_) λ h=>?_
 .exact waE (by rw[if_pos (qz.1 h)])
 .rw[qB]at h;refine waB (λ c=>?_) λ c=>?_
  .rw[qz]at c;exact waE (by rw[if_neg (by omega),if_pos c])
  .rw[qB]at c;exact waE (by rw[if_neg (by omega),if_neg (by omega)])
theorem qB4(t:T):size t<=1000000000->Ev (λ m _=>Qg m t) (size t:Int):=by
 induction t using T.ind with
 |h t d=>
   intro p;refine waI ?_;simp only[qDY,qgS];have q:=yJ t;have j:=zb t
   have b:=qw (P:=λ i=>∀a:Nat,a+((t.kids.drop i).map size).sum<=1000000000->Ev (λ m k=>qbS m (Qg m) k a t.kids t.kids.length i) ((a+((t.kids.drop i).map size).sum:Nat):Int)) t.kids (by omega)
    (λ c a _=>by
     refine waH ?_;simp only[qrt,qgw];refine waG c ?_;exact waE (by simp))
    (λ i x e l c g f o a n=>by
     rw[qs9 l]at n |-
     refine waH ?_;simp only[qrt,qgw];refine waF c (waC g ?_);rw[qk];refine waA (d x (wc e) (by omega)) ?_;rw[f,qkO,Jo (by omega)];refine(o (a+size x) (by omega)).res (by congr 1;omega))
   refine waJ (L:=λ m k=>qbS m (Qg m) k 1 t.kids t.kids.length 0) ?_;refine(b 0 (we _) 1 (by simp;omega)).res (by rw[wP,j])
theorem qIm(t:T):size t<=1000000000->Ev (λ m _=>jB m t) (qd3 t:Int):=by
 induction t using T.ind with
 |h t e=>
   intro o;refine waI ?_;simp only[qAi,qeY];have p:=yJ t;have q:=zb t
   have b:=qw (P:=λ i=>∀a:Nat,a<=1000000000->Ev (λ m k=>J9 m (jB m) k a i t.kind t.name t.sort t.kids) ((((t.kids.drop i).map qd3).foldl max a+1:Nat):Int)) t.kids (by omega)
    (λ c a _=>by
     refine waH ?_;simp only[qnC,qey];refine waG c ?_;rw[show qj (a:Int) 1=((a+1:Nat):Int) by unfold qj;omega,Jo (by omega)];exact waE (by simp))
    (λ i x f l c j g n a r=>by
     refine waH ?_;simp only[qnC,qey];refine waF c (waC j ?_);rw[qk];have d:=wc f;have u:=jD t x d;have s:=qEY x;refine waA (e x d (by omega)) ?_;rw[g,qCC];refine(n (max a (qd3 x)) (by omega)).res ?_;rw[l,wv,kh])
   refine waJ (L:=λ m k=>J9 m (jB m) k 0 0 t.kind t.name t.sort t.kids) ?_;refine(b 0 (we _) 0 (by omega)).res (by rw[wP,qkj])
theorem qCo(a:List (T->Int)):Q7 a []=0:=by cases a<;>rfl
theorem qy0{l m:List T}{i:Nat}{x y:T}(b:l.drop i=x::l.drop (i+1))(a:m.drop i=y::m.drop (i+1)):Q7 ((l.drop i).map qs) (m.drop i)=thn (qs x y) (Q7 ((l.drop (i+1)).map qs) (m.drop (i+1))):=by
 rw[b,a,wv];rfl
theorem qBo{l:List T}{i:Nat}{y:T}(h:l[i]?=some y):l.drop i=y::l.drop (i+1):=by
 obtain⟨a,rfl⟩:=List.getElem?_eq_some_iff.1 h;exact wad a
theorem qtG(a b:List UInt8):slt a b=decide (compareBytes a b=-1):=qpJ a b
theorem qDq(a b:List UInt8):qra (slt a b) (qx a b)=decide (compareBytes a b≠1):=by
 rw[qtG];unfold qra qx;obtain h|h|h:=qoM a b
 .rw[h];rfl
 .have:=qmm a b h;subst this;rw[h];simp
 .have:(a==b)=false:=by
    rw[beq_eq_false_iff_ne];intro c;subst c;rw[qyR]at h;omega
  rw[h,this];rfl
theorem qii(a:T):size a<=1000000000->∀ b,size b<=1000000000->Ev (λ m _=>zO m a b) (qs a b):=by
 induction a using T.ind with
 | h a ih =>
   intro ha b hb;refine waI ?_;simp only[qv3,qc5,qk];have hla:=yJ a;have hlb:=yJ b;rw[qgt];unfold qi7;refine waA (qtw a ha) (waA (qtw b hb) (waA (qmN _ _) ?_));refine waB (λ h=>?_) λ h=>?_
   ·rw[bnt,qi]at h;exact waE (by rw[QH (by rw[QH h];exact h),QH h])
   rw[bnf,ql]at h;rw[h,show ∀ y,thn 0 y=y from λ y=>rfl];refine waA (qmN _ _) ?_;refine waB (λ h=>?_) λ h=>?_
   ·rw[bnt,qi]at h;exact waE (by rw[QH (by rw[QH h];exact h),QH h])
   rw[bnf,ql]at h;rw[h,show ∀ y,thn 0 y=y from λ y=>rfl];refine waB (λ h=>?_) λ h=>?_
   ·rw[qtG,decide_eq_true_iff]at h;exact waE (by rw[h];rfl)
   rw[qtG,decide_eq_false_iff_not]at h;refine waB (λ h'=>?_) λ h'=>?_
   ·rw[bnt,qDq,decide_eq_false_iff_not,Decidable.not_not]at h';exact waE (by rw[h'];rfl)
   rw[bnf,qDq,decide_eq_true_iff]at h';have h0:compareBytes a.name b.name=0:=by have:=qoM a.name b.name;omega
   rw[h0,show ∀ y,thn 0 y=y from λ y=>rfl];refine waA (qmN _ _) ?_;refine waB (λ h=>?_) λ h=>?_
   ·rw[bnt,qi]at h;exact waE (by rw[QH (by rw[QH h];exact h),QH h])
   rw[bnf,ql]at h;rw[h,show ∀ y,thn 0 y=y from λ y=>rfl];refine waA (qmN _ _) ?_;refine waB (λ h=>?_) λ h=>?_
   ·rw[bnt,qi]at h;exact waE (by rw[QH h])
   rw[bnf,ql]at h;rw[h,show ∀ y,thn 0 y=y from λ y=>rfl];have hlen:a.kids.length=b.kids.length:=by have:=qkt h;omega
   have key:=qw (P := λ i=>Ev (λ m k=>Q4 m (zO m) k i a.kind a.name a.sort a.kids b.kind b.name b.sort b.kids) (Q7 ((a.kids.drop i).map qs) (b.kids.drop i))) a.kids (by omega)
    (λ hc=>by
     refine waH ?_;simp only[qkJ,qc6];refine waG hc ?_;exact waE (by rw[hlen,wX,qCo]))
    (λ i x hx hd hc hg hi hP=>by
     refine waH ?_;simp only[qkJ,qc6,qk];have hib:i<b.kids.length:=by have:=(List.getElem?_eq_some_iff.1 hx).1;omega
     have hy:=List.getElem?_eq_getElem hib;have hmx:=wc hx;have h1:=jD a x hmx;have h2:=jD b _ (wc hy);refine waF hc (waC hg (waC (by rw[Qe];exact hy) ?_));rw[qy0 hd (qBo hy)];refine waA (ih x hmx (by omega) _ (by omega)) ?_;refine waB (λ h=>?_) λ h=>?_
     ·rw[bnt,qi]at h;exact waE (by rw[QH h])
     ·rw[bnf,ql]at h;rw[h,hi];exact hP)
   refine waJ (L := λ m k=>Q4 m (zO m) k 0 a.kind a.name a.sort a.kids b.kind b.name b.sort b.kids) ?_;exact(key 0 (we _)).res (by rw[wP,wP])
theorem qHE(a b:List UInt8):Ev (λ m _=>strings_Compare 0 a b) (compareBytes a b):=waD _
theorem qdp(a:T):size a<=1000000000->∀ b,size b<=1000000000->Ev (λ m _=>qv m a b) (qs a b):=by
 induction a using T.ind with
 | h a ih =>
   intro ha b hb;refine waI ?_;simp only[qxz,qdU,qk];have hla:=yJ a;have hlb:=yJ b;rw[qgt];unfold qi7
   have stop:∀ c:Int,c≠0->∀ i:Int,Ev (λ m k=>jX m (qv m) k c i a.kind a.name a.sort a.kids b.kind b.name b.sort b.kids) c:=by
    intro c hc i;refine waH ?_;simp only[qg5,qbu];exact waG (qi.2 hc) (waD c)
   have key:a.kids.length=b.kids.length->∀ i,i<=a.kids.length->Ev (λ m k=>jX m (qv m) k 0 i a.kind a.name a.sort a.kids b.kind b.name b.sort b.kids) (Q7 ((a.kids.drop i).map qs) (b.kids.drop i)) := λ hlen=>qw a.kids (by omega)
    (λ hc=>by
     refine waH ?_;simp only[qg5,qbu];refine waF rfl (waG hc ?_);exact waE (by rw[hlen,wX,qCo]))
    (λ i x hx hd hc hg hi hP=>by
     refine waH ?_;simp only[qg5,qbu,qk];have hib:i<b.kids.length:=by have:=(List.getElem?_eq_some_iff.1 hx).1;omega
     have hy:=List.getElem?_eq_getElem hib;have hmx:=wc hx;have h1:=jD a x hmx;have h2:=jD b _ (wc hy);refine waF rfl (waF hc (waC hg (waC (by rw[Qe];exact hy) ?_)));rw[qy0 hd (qBo hy)];refine waA (ih x hmx (by omega) _ (by omega)) ?_;rw[hi];by_cases h:qs x b.kids[i]=0
     ·rw[h];exact hP
     ·rw[QH h];exact stop _ h _)
   have fin:∀ c:Int,(c=0->a.kids.length=b.kids.length)->Ev (λ m k=>jX m (qv m) m c 0 a.kind a.name a.sort a.kids b.kind b.name b.sort b.kids) (thn c (Q7 (a.kids.map qs) b.kids)):=by
    intro c hc;refine waJ (L := λ m k=>jX m (qv m) k c 0 a.kind a.name a.sort a.kids b.kind b.name b.sort b.kids) ?_;by_cases h:c=0
    ·subst h;exact(key (hc rfl) 0 (we _)).res (by rw[wP,wP];rfl)
    ·rw[QH h];exact stop c h 0
   refine waA (qB4 a ha) (waA (qB4 b hb) (waA (qse _ _) ?_));have z0:∀ y,thn 0 y=y := λ y=>rfl;by_cases h1:sgn (size a:Int) (size b)=0
   ·rw[h1,z0];refine waF rfl (waA (qse _ _) ?_);by_cases h2:sgn a.kind b.kind=0
    ·rw[h2,z0];refine waF rfl (waA (qHE _ _) ?_);by_cases h3:compareBytes a.name b.name=0
     ·rw[h3,z0];refine waF rfl (waA (qse _ _) ?_);by_cases h4:sgn a.sort b.sort=0
      ·rw[h4,z0];refine waF rfl (waA (qse _ _) ?_);exact fin _ λ h=>by have:=qkt h;omega
      ·rw[QH h4];refine waG (qi.2 h4) ?_;exact fin _ λ h=>absurd h h4
     ·rw[QH h3];refine waG (qi.2 h3) (waG (qi.2 h3) ?_);exact fin _ λ h=>absurd h h3
    ·rw[QH h2];refine waG (qi.2 h2) (waG (qi.2 h2) (waG (qi.2 h2) ?_));exact fin _ λ h=>absurd h h2
   ·rw[QH h1];refine waG (qi.2 h1) (waG (qi.2 h1) (waG (qi.2 h1) (waG (qi.2 h1) ?_)));exact fin _ λ h=>absurd h h1
theorem qEo(a b:T):ieq (qs a b) 0=yj a b:=by
 unfold yj;rw[xJ,ql,decide_eq_true_iff];exact qJP a b
theorem qfX(a b:T)(d:size a<=1000000000)(c:size b<=1000000000):Ev (λ m _=>JJ m a b) (yj a b):=by
 refine waI ?_;simp only[qCI,qiV,qk];refine waA (qii a d b c) ?_;exact waE (qEo a b)
theorem qol(a b:T)(d:size a<=1000000000)(c:size b<=1000000000):Ev (λ m _=>JL m a b) (yj a b):=by
 refine waI ?_;simp only[qz1,qh0,qk];refine waA (qdp a d b c) ?_;exact waE (qEo a b)
end Go.AmZ
namespace Go.AmZ
open Go Go.GxZ Go.Lib
theorem qMz(a b:Int):ieq a b=decide (a=b):=by rw[xJ,ql,decide_eq_true_iff]
theorem qyT(c:Int):Ev (λ m _=>qdY m c) (qgZ c):=by
 refine waI ?_;simp only[qxf,qgA];refine(waD (qgZ c)).congr λ m k=>?_;unfold qgZ ile;by_cases e:97<=c<;>by_cases d:c<=122<;>by_cases b:65<=c<;>by_cases a:c<=90<;>simp[e,d,b,a]
theorem qMb(c:Int):Ev (λ m _=>qir m c) (qux c):=by
 refine waI ?_;simp only[qzI,qhZ];refine(waD (qux c)).congr λ m k=>?_;unfold qux ile;by_cases b:48<=c<;>by_cases a:c<=57<;>simp[b,a]
theorem qEN(c:Int):Ev (λ m _=>qiJ m c) (J2 c):=by
 refine waI ?_;simp only[qEb,qkq];refine(waD (J2 c)).congr λ m k=>?_;simp only[qMz];unfold J2 qgZ qux ile;by_cases i:97<=c<;>by_cases h:c<=122<;>by_cases g:65<=c<;>by_cases f:c<=90<;>by_cases e:48<=c<;>by_cases d:c<=57<;>by_cases b:c=95<;>by_cases a:c=35<;>simp[i,h,g,f,e,d,b,a]
theorem qJf(l:List UInt8):Ev (λ m _=>qcn m l) (jF l):=by
 refine waI ?_;simp only[qxC,qdJ];cases l with
 |nil=>exact waF rfl (waD _)
 |cons c r=>
   refine waG (qi.2 (by simp;omega)) ?_;refine waB (λ h=>?_) λ h=>?_
   .rw[qz]at h;refine waE ?_;unfold jF;rw[decide_eq_false (show ¬ (c::r).length<=24 by omega)];simp
   rw[qB]at h;refine waC (JT _) (waA (qyT _) ?_)
   have o:jF (c::r)=(qgZ (c.toNat:Int)&&(c::r).all λ c=>J2 (c.toNat:Int)):=by
    unfold jF;rw[decide_eq_true (show(c::r).length<=24 by omega)];simp
   rw[o];cases b:qgZ (c.toNat:Int)with
   |false=>exact waF rfl (waD _)
   |true=>
     refine waG rfl ?_
     have g:=qw (P:=λ i=>Ev (λ m k=>Jv m k (c::r) i) (((c::r).drop i).all λ c=>J2 (c.toNat:Int))) (c::r) (by omega)
      (λ b=>by
       refine waH ?_;simp only[ql5,qdT];refine waG b (waE ?_);rw[wX];rfl)
      (λ i x s q b a p d=>by
       refine waH ?_;simp only[ql5,qdT];refine waF b (waC a (waA (qyT _) ?_));rw[q,km,p];cases n:qgZ (x.toNat:Int)with
       |true=>exact waG rfl (d.res (by simp[J2,n]))
       |false=>
         refine waF rfl (waC a (waA (qMb _) ?_));cases j:qux (x.toNat:Int)with
         |true=>exact waG rfl (d.res (by simp[J2,j]))
         |false=>
           refine waF rfl (waC a ?_);by_cases f:(x.toNat:Int)=95
           .exact waG (bnf.2 (ql.2 f)) (d.res (by simp[J2,f]))
           .refine waF (bnt.2 (qi.2 f)) (waC a ?_);by_cases e:(x.toNat:Int)=35
            .exact waG (bnf.2 (ql.2 e)) (d.res (by simp[J2,e]))
            .exact waF (bnt.2 (qi.2 e)) (waE (by unfold J2;rw[n,j,decide_eq_false f,decide_eq_false e];rfl)))
     refine waJ (L:=λ m k=>Jv m k (c::r) 0) ?_;exact(g 0 (we _)).res (by rw[wP];rfl)
theorem qJz(c:Int):(J2 c&&(!(decide (48<=c)&&decide (c<=57))&&(!(decide (c=95)) && !(decide (c=35)))))=qgZ c:=by
 unfold J2 qux;cases h:qgZ c with
 |true=>
   unfold qgZ at h;rw[wS,decide_eq_true_iff,decide_eq_true_iff]at h;rw[decide_eq_false (show ¬ (c=95) by omega),decide_eq_false (show ¬ (c=35) by omega)]
   have:(decide (48<=c)&&decide (c<=57))=false:=by
    rw[vc,decide_eq_false_iff_not,decide_eq_false_iff_not];omega
   rw[this];rfl
 |false=>
   by_cases e:48<=c<;>by_cases d:c<=57<;>by_cases b:c=95<;>by_cases a:c=35<;>simp[e,d,b,a]
theorem qFY(l:List UInt8):Ev (λ m _=>qdm m l) (jF l):=by
 refine waI ?_;simp only[qAb,qeR];cases l with
 |nil=>exact waF rfl (waD _)
 |cons c r=>
   refine waG rfl ?_;refine waB (λ h=>?_) λ h=>?_
   .rw[qz]at h;refine waE ?_;unfold jF;rw[decide_eq_false (show ¬ (c::r).length<=24 by omega)];simp
   rw[qB]at h;refine waC (JT _) (waA (qEN _) ?_)
   have p:jF (c::r)=(qgZ (c.toNat:Int)&&(c::r).all λ c=>J2 (c.toNat:Int)):=by
    unfold jF;rw[decide_eq_true (show(c::r).length<=24 by omega)];simp
   rw[p,<-qJz]
   have g:=qw (P:=λ i=>Ev (λ m k=>Qv m k (c::r) (c::r).length i) (((c::r).drop i).all λ c=>J2 (c.toNat:Int))) (c::r) (by omega)
    (λ j=>by
     refine waH ?_;simp only[qnS,qe3];refine waG j (waE ?_);rw[wX];rfl)
    (λ i x y t j s q u=>by
     refine waH ?_;simp only[qnS,qe3];refine waF j (waC s (waA (qEN _) ?_));rw[t,km,q];cases w:J2 (x.toNat:Int)with
     |true=>exact waG rfl (u.res (by simp))
     |false=>exact waF rfl (waD _))
   have o:Ev (λ m _=>Qv m m (c::r) (c::r).length 0) ((c::r).all λ c=>J2 (c.toNat:Int)):=by
    refine waJ (L:=λ m k=>Qv m k (c::r) (c::r).length 0) ?_;exact(g 0 (we _)).res (by rw[wP])
   have a:qf (c::r) 0=some c:=JT _
   have b:Ev (λ m _=>cond (ieq (c.toNat:Int) 95) (some false) (qb (qf (c::r) 0) λ v=>cond (ieq (v.toNat:Int) 35) (some false) (Qv m m (c::r) (c::r).length 0))) ((!(decide ((c.toNat:Int)=95)) && !(decide ((c.toNat:Int)=35)))&&(c::r).all λ c=>J2 (c.toNat:Int)):=by
    by_cases f:(c.toNat:Int)=95
    .exact waF (ql.2 f) (waE (by rw[decide_eq_true f];rfl))
    .refine waG (qi.2 f) (waC a ?_);rw[decide_eq_false f];by_cases e:(c.toNat:Int)=35
     .exact waF (ql.2 e) (waE (by rw[decide_eq_true e];rfl))
     .refine waG (qi.2 e) (o.res ?_);rw[decide_eq_false e];rfl
   cases w:J2 (c.toNat:Int)with
   |false=>exact waF rfl (waD _)
   |true=>
     refine waG rfl (waC a ?_);by_cases d:48<=(c.toNat:Int)
     .refine waF (qjM.2 d) (waC a ?_);by_cases n:(c.toNat:Int)<=57
      .exact waF (qjM.2 n) (waE (by rw[decide_eq_true d,decide_eq_true n];rfl))
      .refine waG (qlM.2 (by omega)) (waC a ?_);exact b.res (by rw[decide_eq_true d,decide_eq_false n];rfl)
     .refine waG (qlM.2 (by omega)) (waC a ?_);exact b.res (by rw[decide_eq_false d];rfl)
theorem qMH(t:T):Ev (λ m _=>qjI m t) (jG t):=by
 refine waI ?_;simp only[qBz,qi4];unfold jG qip
 have nm:∀{R:Int},(∀b,jF t.name=b->(if b then(if 8<t.kids.length then 3 else 0)else 2)=R)->Ev (λ m _=>qb (qcn m t.name) λ v=>cond (qh v) (some 2) (cond (ilt 8 (t.kids.length:Int)) (some 3) (some 0))) R:=by
  intro R h;refine waA (qJf _) ?_;refine Ev.res ?_ (h _ rfl);cases j:jF t.name with
  |false=>exact waF rfl (waD _)
  |true=>
    refine waG rfl ?_;refine waB (λ h=>?_) λ h=>?_
    .rw[qz]at h;exact waE (by rw[if_pos rfl,if_pos (by omega)])
    .rw[qB]at h;exact waE (by rw[if_pos rfl,if_neg (by omega)])
 have d:t.kids.length=0->∀{R:Int},(∀b,jF t.name=b->(if b then 0 else 2)=R)->Ev (λ m _=>qb (qcn m t.name) λ v=>cond (qh v) (some 2) (cond (ilt 8 (t.kids.length:Int)) (some 3) (some 0))) R:=by
  intro k R h;refine nm λ b e=>?_;rw[if_neg (show ¬ 8<t.kids.length by omega)];exact h b e
 by_cases i:t.kind=1
 .rw[if_pos (.inl i)];refine waF (ql.2 i) ?_;refine waB (λ h=>?_) λ h=>?_
  .rw[qz]at h;exact waE (by rw[if_pos (.inl h)])
  rw[qB]at h;refine waB (λ c=>?_) λ c=>?_
  .rw[qz]at c;exact waE (by rw[if_pos (.inr (.inl c))])
  rw[qB]at c;refine waB (λ a=>?_) λ a=>?_
  .rw[qz]at a;exact waE (by rw[if_pos (.inr (.inr (by omega)))])
  rw[qB]at a;rw[if_neg (by omega)];exact d (by omega) λ b e=>by rw[e]
 refine waG (qi.2 i) ?_;by_cases f:t.kind=2
 .rw[if_pos (.inr f)];refine waG (bnf.2 (ql.2 f)) ?_;refine waB (λ h=>?_) λ h=>?_
  .rw[qz]at h;exact waE (by rw[if_pos (.inl h)])
  rw[qB]at h;refine waB (λ c=>?_) λ c=>?_
  .rw[qz]at c;exact waE (by rw[if_pos (.inr (.inl c))])
  rw[qB]at c;refine waG (bnf.2 (ql.2 f)) (waF (ql.2 f) ?_);refine waB (λ a=>?_) λ a=>?_
  .rw[qz]at a;exact waE (by rw[if_pos (.inr (.inr (by omega)))])
  rw[qB]at a;rw[if_neg (by omega)];exact d (by omega) λ b e=>by rw[e]
 refine waF (bnt.2 (qi.2 f)) ?_;rw[if_neg (by omega)];by_cases g:t.kind=3
 .rw[if_pos g];refine waG (bnf.2 (ql.2 g)) ?_;refine waB (λ h=>?_) λ h=>?_
  .rw[qz]at h;exact waE (by rw[if_pos (by omega)])
  rw[qB]at h;refine waB (λ c=>?_) λ c=>?_
  .rw[qz]at c;exact waE (by rw[if_pos (by omega)])
  rw[qB]at c;refine waF (bnt.2 (qi.2 f)) ?_;refine waB (λ a=>?_) λ a=>?_
  .rw[bnt,qi]at a;exact waE (by rw[if_pos a])
  rw[bnf,ql]at a;rw[if_neg (by omega)];refine waG (qi.2 f) ?_;exact nm λ b e=>by rw[e]
 .rw[if_neg g];exact waF (bnt.2 (qi.2 g)) (waD _)
theorem qLs(t:T):size t<=1000000000->Ev (λ m _=>jA m t) (Qb t):=by
 induction t using T.ind with
 |h t d=>
   intro n;refine waI ?_;simp only[qzJ,qeJ,qk];have o:=yJ t
   have a:=qw (P:=λ i=>Ev (λ m k=>J6 m (jA m) k i t.kind t.name t.sort t.kids) (((t.kids.drop i).map Qb).foldl thn 0)) t.kids (by omega)
    (λ b=>by
     refine waH ?_;simp only[qnn,qez];refine waG b ?_;exact waE (by simp))
    (λ i x e j b g f l=>by
     refine waH ?_;simp only[qnn,qez,qk];refine waF b (waC g ?_);have c:=wc e;have p:=jD t x c;refine waA (d x c (by omega)) ?_;rw[j,wv,QK,f];refine waB (λ h=>?_) λ h=>?_
     .rw[bnt,qi]at h;exact waE (by rw[qT _ h])
     .rw[bnf,ql]at h;rw[h];exact l)
   rw[qmP];refine waA (qMH t) ?_;refine waB (λ h=>?_) λ h=>?_
   .rw[bnt,qi]at h;exact waE (by rw[qT _ h])
   .rw[bnf,ql]at h;rw[h];refine waJ (L:=λ m k=>J6 m (jA m) k 0 t.kind t.name t.sort t.kids) ?_;exact(a 0 (we _)).res (by rw[wP])
theorem qcF(t:T)(a:size t<=1000000000):Ev (λ m _=>ji m t) (qV t):=by
 refine waI ?_;simp only[qAn,qhV,qk];unfold qV;refine waA (qLs t a) ?_;refine waB (λ h=>?_) λ h=>?_
 .rw[bnt,qi]at h;exact waE (by rw[if_pos h])
 rw[bnf,ql]at h;rw[if_neg (by omega)];refine waA (qtw t a) ?_;refine waB (λ h=>?_) λ h=>?_
 .rw[qz]at h;exact waE (by rw[if_pos (.inl (by omega))])
 rw[qB]at h;refine waA (qIm t a) ?_;refine waB (λ h=>?_) λ h=>?_
 .rw[qz]at h;exact waE (by rw[if_pos (.inr (by omega))])
 .rw[qB]at h;exact waE (by rw[if_neg (by omega)])
end Go.AmZ
