/- Part 4 of what the proofs stand on: plain functions of the program, and that they are its functions. -/
import Derived.Test.YtinbdcelmgfniaaGreatDoorM3
import Derived.KernelRfl
import Derived.Test.YtinbdcelmgfniaaGreatDoorProg
import Derived.Shelf.SlSortCmp.NoneTotal
import Derived.Laws.OwnMore
import Derived.Deep.DeepAppendRoom
import Derived.ArgAppend
import Derived.Test.YtinbdcelmgfniaaGreatDoorM2
import Derived.IntWalk
import Derived.Lib.Bytealg
set_option linter.unusedVariables false
set_option linter.unusedSimpArgs false
noncomputable section
namespace Go.Proofs.YtinbdcelmgfniaaGreatDoor
open Go.RowKit Go.GxZ Go.BigFrame
theorem qGC:(Tryz.prog.info? 157).map (λ i=>(i.zero,i.size,i.bytes))=some (some (.agg #[.int .i64 0,.string ⟨#[]⟩,.int .i64 0,.slice none 0 0,.int .i64 0]),5,64):=by kernel_rfl
theorem qNI(w:World):(sizeOf 157).run Tryz.prog w=.ok 5 w:=by kernel_rfl
theorem qBn:(Tryz.prog.info? 157).map (·.size)=some 5:=by kernel_rfl
set_option maxHeartbeats 4000000 in
set_option maxRecDepth 100000 in
theorem insert_endPow(w:World)(p:Option Addr)(n c:Nat)(ad:Addr)(f:Nat)(b:Value)(w':World)(i:n<=100000)(d:(Builtin.append_ #[134,134] 134 #[.slice p n c,.slice (some ad) 1 f]).run Tryz.prog w = .ok b w') :
  Calls Tryz.prog 225 #[.slice p n c,.int .i64 n,.slice (some ad) 1 f] w λ e g=>e = .returned b/\g=w':=by
 have h:=Lib.hid d;clear d
 go_enter Tryz.func225,Tryz.ntmps225
 go_wp2_with (at_builtin;refine Lib.wpList_append_run _ rfl _ _ _ _ rfl _ _ rfl rfl _ _ h.out ?_)
 all_goals
  go_ret
  first
   | exact⟨rfl,rfl⟩
   | (have a:c=n:=by assumption
      subst a;exact⟨rfl,rfl⟩)
set_option maxHeartbeats 4000000 in
set_option maxRecDepth 100000 in
theorem insert_roomPow (w:World) (g n c i:Nat) (et:TypeId) (cur:Array Value) (xs:List Value) (hbk:Blk w g et cur) (hcs:c*5<=cur.size) (hx:cur.toList.take (n*5)=xs) (hone:∀u∈xs,u.oneCell'=true)
  (g2 o2 c2:Nat) (ys:List Value) (hy:ys.length=5) (hys:∀j u,ys[j]?=some u->w.cell? ⟨g2,o2+j,none⟩=some u) (h1:∀u∈ys,u.oneCell'=true) (hne:g2≠g) (hn:n<=100000) (hi:i<n) (hroom:n+1<=c):
  Calls Tryz.prog 225 #[.slice (some ⟨g,0,none⟩) n c,.int .i64 i,.slice (some ⟨g2,o2,none⟩) 1 c2] w (qmw 5 w g cur.size (n+1) (xs.take (i*5)++ys++xs.drop (i*5))):=by
 have hlc:cur.toList.length=cur.size:=by simp
 have hnc:(n+1)*5<=c*5:=wu _ hroom;have hik:(i+1)*5<=n*5:=wu _ hi;have hxl:xs.length=n*5:=by rw [<-hx,wm];omega
 obtain ⟨tA,kA,hsA,hkA⟩:∃t k,w.shape? g2=some (t,k)/\k≠0:=by
  cases hy0:ys[0]? with
  |none=>rw [List.getElem?_eq_none_iff]at hy0;omega
  |some u=>exact qIb (a:=⟨g2,o2+0,none⟩) rfl (hys 0 u hy0)
 have hov:∀lb cb,(callFunc 239 #[.slice (some ⟨g2,o2,none⟩) 1 c2,.slice (some ⟨g,(i+1)*5,none⟩) lb cb]).run Tryz.prog w=.ok (.value (.bool false)) w:=λ lb cb=>by
  rw [run_callFunc_extern Tryz.func239 (by kernel_rfl) (by kernel_rfl) (by kernel_rfl) (e:=Extern.SlicesOverlaps.overlaps #[134,134] #[4]) (by kernel_rfl),
   qvl w 134 4 157 Tryz.underlying134 5 qNI ⟨g2,o2,none⟩ ⟨g,(i+1)*5,none⟩ 1 c2 lb cb hne tA et kA cur.size
    hsA hkA (by unfold Blk at hbk;simp [World.shape?,hbk]) (hbk.free _) (hbk.free _)]
  rfl
 have hin:((i:Int)==(n:Int))=false:=by simp;omega
 have hb1:¬ (c=i+1):=by omega
 have hb2:¬ (c=i):=by omega
 have hlen1:(xs.drop (i*5)).length=n*5-i*5:=by rw [wS,hxl]
 have HD1:Hid ((xs.drop (i*5)).length=Nat.min (n+1-i) (n-i)*5):=by
  have hm:Nat.min (n+1-i) (n-i)=n-i:=Nat.min_eq_right (by omega);show _=_;rw [hlen1,hm,war]
 have HS1:Hid (∀(j:Nat) (v:Value),(xs.drop (i*5))[j]?=some v->w.drew.cell? ((⟨g,i*5,none⟩:Addr).add j)=some v):=λ j v hj=>by
  have e1:(⟨g,i*5,none⟩:Addr).add j=⟨g,i*5+j,none⟩:=by unfold Addr.add;split<;>simp_all
  rw [e1];show w.cell? _=_;rw [hbk.cell,<-Array.getElem?_toList];rw [List.getElem?_drop,<-hx,List.getElem?_take]at hj;split at hj
  .exact hj
  .cases hj
 have HF1:Hid ((i+1)*5+(xs.drop (i*5)).length<=cur.size):=by show _<=_;rw [hlen1];omega
 have HO1:Hid (∀v∈xs.drop (i*5),v.oneCell'=true):=λ v hv=>hone v (wR hv);have hBK1:Hid (Blk w.drew g et cur):=hbk;obtain ⟨c1,hc1⟩:∃c1,c1=cur.toList.take ((i+1)*5)++xs.drop (i*5)++cur.toList.drop ((i+1)*5+(xs.drop (i*5)).length):=⟨_,rfl⟩
 obtain ⟨k1,k2,k3⟩:=qMc 5 cur.toList xs ys i n hx (by rw [hlc];omega) (by omega) hy c1 (by rw [hc1,kT]);have HC1:=Lib.hid hc1;have K1:=Lib.hid k1;have K2:=Lib.hid k2;have K3:=Lib.hid k3;have HLC:=Lib.hid hlc;have HY:=Lib.hid hy
 have HY1:Hid (ys.length=Nat.min 1 (n+1-i)*5):=by
  have hm:Nat.min 1 (n+1-i)=1:=kw (by omega);show _=_;rw [hy,hm]
 have HF2:Hid (i*5+ys.length<=c1.toArray.size):=by show _<=_;rw [hy];simp only [kh];rw [k1,hlc];omega
 have HYS:=Lib.hid hys;have HCS:=Lib.hid hcs;have H1:=Lib.hid h1;have HNE:=Lib.hid hne;have HNC:=Lib.hid hnc;have hlt:=lt_of_block hbk;have hov':=hov;clear hxl hlc hov hx hone hcs hbk hys hy h1 hne hlen1 hc1 k1 k2 k3 hsA hkA hnc hik;have HOV:=Lib.hid hov'
 go_enter Tryz.func225,Tryz.ntmps225
 go_upto_region 15 with (simp only [hov'])
 clear hov';have hw1:IntKind.i64.wrap ((i:Int)+1)=(i:Int)+1:=IntWalk.i64_in _ (by omega);have hw2:(0:Int)<=(i:Int)+1:=by omega
 have hw3:((i:Int)+1).toNat=i+1:=by omega
 have hw4:(i:Int)+1<=(n:Int)+1:=by omega
 have hw5:(i:Int)<=(n:Int)+1:=by omega
 go_region_law (refine qwO rfl (.tmp 73) (.tmp 76) 134 134 rfl 157 5 Tryz.underlying134 qBn g ((i+1)*5) (n-i) (c-(i+1)) ⟨g,i*5,none⟩ (n+1-i) (c-i) (by simp [Act.eval,Act.put]) (by simp [Act.eval,Act.put]) cur et hBK1.out (xs.drop (i*5)) HD1.out HS1.out HF1.out HO1.out ?_;intro w4 hw4;have HW4:=Lib.hid hw4;clear hw4)
 all_goals
  have HW5:Hid (qm3 w.drew w4 g et c1):=by show qm3 _ _ _ _ _;rw [HC1.out];exact HW4.out
  have HB4:Hid (Blk w4 g et c1.toArray):=HW5.out.blk
  have HSY:Hid (∀(j:Nat) (v:Value),ys[j]?=some v->w4.cell? ((⟨g2,o2,none⟩:Addr).add j)=some v):=λ j v hj=>by
   have e1:(⟨g2,o2,none⟩:Addr).add j=⟨g2,o2+j,none⟩:=by unfold Addr.add;split<;>simp_all
   rw [e1,show w4.cell? _=w.cell? _ from World.cell?_of_block (HW5.out.other g2 HNE.out)];exact HYS.out j v hj
  clear hw1 hw2 hw3 hw4 HW4
  obtain ⟨w6,hcp,hw6⟩:∃w6,(∀ty,(Builtin.copy_ #[134,134] ty #[.slice (some ⟨g,i*5,none⟩) (n+1-i) (c-i),.slice (some ⟨g2,o2,none⟩) 1 c2]).run Tryz.prog w4=.ok (goInt (Nat.min 1 (n+1-i))) w6)/\qm3 w4 w6 g et (c1.toArray.toList.take (i*5)++ys++c1.toArray.toList.drop (i*5+ys.length)):=
   ⟨_,λ ty=>qq6 w4 134 134 ty 157 5 g (i*5) (n+1-i) (c-i) ⟨g2,o2,none⟩ 1 c2 c1.toArray et ys Tryz.underlying134 qBn HB4.out HY1.out HSY.out HF2.out H1.out,qhx HB4.out _⟩
  have HW6:=Lib.hid hw6;clear hw6
  go_wp2_with (simp only [hcp])
  go_ret
  have h6:=HW6.out;have h5:=HW5.out;have hblk:=h6.blk;have k2:=K2.out;have hlc:=HLC.out;refine ⟨g,c,_,et,rfl,hblk,hroom,?_,?_,.inl ⟨rfl,?_⟩,h6.os.trans h5.os,h6.tape.trans h5.tape,h6.output.trans h5.output,?_,?_,λ k _ hk=>(h6.other k hk).trans (h5.other k hk)⟩
  .rw [kh];exact wE HCS.out (vD (by rw [k2,hlc]))
  .rw [kT];exact K3.out.trans (wj _ _ _)
  .rw [kh,k2,hlc]
  .rw [h6.size,h5.size];exact wa _
  .rw [h6.drawn,h5.drawn];exact ko _
set_option maxHeartbeats 4000000 in
set_option maxRecDepth 100000 in
theorem insert_growPow (w:World) (g n i:Nat) (et:TypeId) (cur:Array Value) (xs:List Value) (hbk:Blk w g et cur) (hcs:n*5<=cur.size) (hx:cur.toList.take (n*5)=xs) (hone:∀u∈xs,u.oneCell'=true)
  (g2 o2 c2:Nat) (ys:List Value) (hy:ys.length=5) (hys:∀j u,ys[j]?=some u->w.cell? ⟨g2,o2+j,none⟩=some u) (h1:∀u∈ys,u.oneCell'=true) (hn:n<=100000) (hi:i<n):
  Calls Tryz.prog 225 #[.slice (some ⟨g,0,none⟩) n n,.int .i64 i,.slice (some ⟨g2,o2,none⟩) 1 c2] w (qmw 5 w g cur.size (n+1) (xs.take (i*5)++ys++xs.drop (i*5))):=by
 have hlc:cur.toList.length=cur.size:=by simp
 have hik:(i+1)*5<=n*5:=wu _ hi;have hxl:xs.length=n*5:=by rw [<-hx,wm];omega
 have hg:=lt_of_block hbk
 have hg2:g2<w.heap.size:=by
  cases hy0:ys[0]? with
  |none=>rw [List.getElem?_eq_none_iff]at hy0;omega
  |some u=>
    have:=hys 0 u hy0;unfold World.cell? at this;split at this
    .rename_i hh;exact (Array.getElem?_eq_some_iff.1 hh).1
    .cases this
 obtain ⟨i0,hi0,hz0,hz1,hz2⟩:=info_parts qGC;have hadd:∀(b o j:Nat),(⟨b,o,none⟩:Addr).add j=⟨b,o+j,none⟩:=λ b o j=>by unfold Addr.add;split<;>simp_all
 have hcx:∀(W:World),Blk W g et cur->∀(o j:Nat) (v:Value),(xs.drop o)[j]?=some v->W.cell? ((⟨g,o,none⟩:Addr).add j)=some v:=λ W hW o j v hj=>by
  rw [hadd,hW.cell,<-Array.getElem?_toList];rw [List.getElem?_drop,<-hx,List.getElem?_take]at hj;split at hj
  .exact hj
  .cases hj
 have hold:(Builtin.firstCells i0.size i (.slice (some ⟨g,0,none⟩) i n)).run Tryz.prog w.drew=.ok (xs.take (i*5)).toArray w.drew:=by
  rw [hz1];refine run_firstCells_some w.drew 5 i ⟨g,0,none⟩ i n (xs.take (i*5)) (by rw [wm,hxl];omega) λ j v hj=>?_;refine hcx w.drew hbk 0 j v ?_;rw [List.getElem?_take]at hj;split at hj
  .simpa using hj
  .cases hj
 have hk:i+(n+1-i)=n+1:=by omega
 have hG1:n+1<=grownCap w (n+1) n 157:=grownCap_ge w _ _ _;have hG2:grownCap w (n+1) n 157<=maxLen:=grownCap_le_maxLen w _ _ _ (by unfold maxLen;omega)
 obtain ⟨w1,G,new,hr,hb1,hbk1,hnl,hnt,hG3,hG4,hw1s,hw1d⟩:∃(w1:World) (G:Nat) (new:List Value),(∀ty,(Builtin.append_ #[134,3] ty #[.slice (some ⟨g,0,none⟩) i n,.int .i64 ((n:Int)+1-(i:Int))]).run Tryz.prog w=.ok (.slice (some ⟨w.heap.size,0,none⟩) (n+1) G) w1)/\
   Below w.heap.size w w1/\Blk w1 w.heap.size 157 new.toArray/\new.length=G*5/\new.take (i*5)=xs.take (i*5)/\n+1<=G/\G<=maxLen/\w.heap.size<w1.heap.size/\w.drawn<=w1.drawn:=by
  have hr:∀ty,_:=λ ty=>Lib.run_append_grow_zeros w 134 3 ty 157 i0 _ .i64 .i64 Tryz.underlying134 Tryz.underlying3 hi0 hz0 (some ⟨g,0,none⟩) i n (xs.take (i*5)) hold (n+1-i) (by omega) (by rw [hz1];decide) (by omega) (by omega) (by rw [hz2];omega) (by rw [hk,hz2];exact growslice_fits (by omega) (by omega));rw [hk]at hr;obtain ⟨NEW,hNEW⟩:∃N:Array Value,N=(xs.take (i*5)).toArray++Builtin.zeroCells (Value.cells (.agg #[.int .i64 0,.string ⟨#[]⟩,.int .i64 0,.slice none 0 0,.int .i64 0])) (n+1-i)++Builtin.zeroCells (Value.cells (.agg #[.int .i64 0,.string ⟨#[]⟩,.int .i64 0,.slice none 0 0,.int .i64 0])) (grownCap w (n+1) n 157-(n+1)):=⟨_,rfl⟩
  rw [<-hNEW]at hr;refine ⟨w.drew.alloc (.cells NEW 157),grownCap w (n+1) n 157,NEW.toList,λ ty=>?_,?_,?_,?_,?_,hG1,hG2,?_,ko _⟩
  .rw [show (n:Int)+1-(i:Int)=((n+1-i:Nat):Int) by omega];exact hr ty
  .exact ((Below.refl _ _).drew).alloc (wa _) _
  .rw [vj];exact heap_alloc_new w.drew _
  .rw [wM,hNEW,xK,xK,size_zeroCells,size_zeroCells,show (Value.cells (.agg #[.int .i64 0,.string ⟨#[]⟩,.int .i64 0,.slice none 0 0,.int .i64 0])).size=5 from rfl,kh,wm,hxl];have:i*5+(n+1-i)*5+(grownCap w (n+1) n 157-(n+1))*5=grownCap w (n+1) n 157*5:=by rw [<-wO,<-wO];congr 1;omega
   omega
  .rw [hNEW,xk,xk,wj,kM (by simp [hxl];omega),xM];congr 1;omega
  .simp
 have hgb:∀k,k<w.heap.size->w1.heap[k]?=w.heap[k]?:=hb1.block;have hbkg1:Blk w1 g et cur:=hbk.same (hgb g hg);have hGn:(n+1)*5<=G*5:=wu _ hG3;have hm1:Nat.min 1 (n+1-i)=1:=kw (by omega);obtain ⟨c1,hc1⟩:∃c1,c1=new.take (i*5)++ys++new.drop (i*5+ys.length):=⟨_,rfl⟩
 obtain ⟨k1,k2,k3⟩:=qOs 5 new xs ys i n hnt hxl (by omega) (by omega) hy c1 hc1
 obtain ⟨w3,hcp,hw3⟩:∃w3,(∀ty,(Builtin.copy_ #[134,134] ty #[.slice (some ⟨w.heap.size,i*5,none⟩) (n+1-i) (G-i),.slice (some ⟨g2,o2,none⟩) 1 c2]).run Tryz.prog w1=.ok (goInt (Nat.min 1 (n+1-i))) w3)/\qm3 w1 w3 w.heap.size 157 c1:=
  ⟨_,λ ty=>qq6 w1 134 134 ty 157 5 w.heap.size (i*5) (n+1-i) (G-i) ⟨g2,o2,none⟩ 1 c2 new.toArray 157 ys Tryz.underlying134 qBn hbk1 (by rw [hm1];omega) (λ j v hj=>by rw [hadd,show w1.cell? _=w.cell? _ from World.cell?_of_block (hgb g2 hg2)];exact hys j v hj) (by rw [kh];omega) h1,by rw [hc1];exact qhx hbk1 _⟩
 have hbkg3:Blk w3 g et cur:=hbkg1.same (hw3.other g (by omega));have hmm:Nat.min (n-i) (n-i)=n-i:=kw (wa _);have HD1:Hid ((xs.drop (i*5)).length=Nat.min (n-i) (n-i)*5):=by show _=_;rw [wS,hxl,hmm,war]
 have HS1:Hid (∀(j:Nat) (v:Value),(xs.drop (i*5))[j]?=some v->w3.drew.cell? ((⟨g,i*5,none⟩:Addr).add j)=some v):=hcx w3.drew hbkg3 (i*5);have HF1:Hid ((i+1)*5+(xs.drop (i*5)).length<=c1.toArray.size):=by show _<=_;rw [wS,hxl,kh,k1,hnl];omega
 have HO1:Hid (∀v∈xs.drop (i*5),v.oneCell'=true):=λ v hv=>hone v (wR hv);have hBK1:Hid (Blk w3.drew w.heap.size 157 c1.toArray):=hw3.blk;have HW3:=Lib.hid hw3;have HB1:=Lib.hid hb1;have K2:Hid ((c1.take ((i+1)*5)++xs.drop (i*5)++c1.drop ((i+1)*5+(xs.drop (i*5)).length)).length=G*5):=by show _=_;rw [kT];exact k2.trans hnl
 have K3:Hid ((c1.take ((i+1)*5)++xs.drop (i*5)++c1.drop ((i+1)*5+(xs.drop (i*5)).length)).take ((n+1)*5)=xs.take (i*5)++ys++xs.drop (i*5)):=by show _=_;rw [kT,kT];exact k3
 have HG4:=Lib.hid hG4;have HR:=Lib.hid hr;have HCP:=Lib.hid hcp;have hin:((i:Int)==(n:Int))=false:=by simp;omega
 have hb0:¬ (n=i):=by omega
 have hb2:¬ (G=i):=by omega
 have hb3:¬ (G=i+1):=by omega
 have hg63:(G:Int)<=9223372036854775807:=by unfold maxLen at hG4;omega
 clear hlc hxl hi0 hz0 hz1 hz2 hadd hcx hold hk hG1 hG2 hr hb1 hbk1 hnl hnt hG4 hgb hbkg1 hm1 hc1 k1 k2 k3 hcp hw3 hbkg3 hmm hbk hcs hx hone hy hys h1 hik hGn
 go_enter Tryz.func225,Tryz.ntmps225
 go_upto_region 10 with (at_builtin;refine Lib.wpList_append_run _ rfl _ _ _ _ rfl _ _ rfl rfl _ _ (HR.out _) ?_)
 have hcp:=HCP.out
 go_upto_region 11 with (simp only [hcp])
 clear hcp;have hw1:IntKind.i64.wrap ((i:Int)+1)=(i:Int)+1:=IntWalk.i64_in _ (by omega);have hw2:(0:Int)<=(i:Int)+1:=by omega
 have hw3:((i:Int)+1).toNat=i+1:=by omega
 have hw4:(i:Int)+1<=(n:Int)+1:=by omega
 have hw5:(i:Int)<=(n:Int):=by omega
 go_region_law (refine qwO rfl (.tmp 50) (.tmp 53) 134 134 rfl 157 5 Tryz.underlying134 qBn w.heap.size ((i+1)*5) (n-i) (G-(i+1)) ⟨g,i*5,none⟩ (n-i) (n-i) (by simp [Act.eval,Act.put]) (by simp [Act.eval,Act.put]) c1.toArray 157 hBK1.out (xs.drop (i*5)) HD1.out HS1.out HF1.out HO1.out ?_;intro w6 hw6;have HW6:=Lib.hid hw6;clear hw6)
 all_goals
  clear hw1 hw2 hw3 hw4
  go_wp2_with fail
  go_ret
  have h6:=HW6.out;have h5:=HW3.out;have h0:=HB1.out;have hblk:=h6.blk;have k3:=K3.out;have k2:=K2.out;refine ⟨w.heap.size,G,_,_,rfl,hblk,hG3,?_,k3.trans (wj _ _ _),.inr (wa _),h6.os.trans (h5.os.trans h0.os),h6.tape.trans (h5.tape.trans h0.tape),h6.output.trans (h5.output.trans h0.output),?_,?_,λ k hkl _=>?_⟩
  .rw [kh];exact vD k2.symm
  .rw [h6.size];show w.heap.size<=w3.heap.size;rw [h5.size];exact h0.size
  .rw [h6.drawn];show w.drawn<=w3.drawn+1;rw [h5.drawn];exact Nat.le_succ_of_le hw1d
  .exact (h6.other k (by omega)).trans ((h5.other k (by omega)).trans (h0.block k hkl))
theorem qN4(w:World):(zeroValue 157).run Tryz.prog w=.ok (.agg #[.int .i64 0,.string ⟨#[]⟩,.int .i64 0,.slice none 0 0,.int .i64 0]) w:=by kernel_rfl
theorem qCG:(Builtin.zeroCells (Value.cells (.agg #[.int .i64 0,.string ⟨#[]⟩,.int .i64 0,.slice none 0 0,.int .i64 0])) 1).toList=(Value.cells (.agg #[.int .i64 0,.string ⟨#[]⟩,.int .i64 0,.slice none 0 0,.int .i64 0])).toList:=by kernel_rfl
theorem qEX:∀v∈(Builtin.zeroCells (Value.cells (.agg #[.int .i64 0,.string ⟨#[]⟩,.int .i64 0,.slice none 0 0,.int .i64 0])) 1).toList,v.oneCell'=true:=by
 rw[qCG];decide
set_option maxHeartbeats 4000000 in
set_option maxRecDepth 100000 in
theorem delete_onePow (w:World) (g m c i:Nat) (et:TypeId) (cur:Array Value) (xs:List Value) (hbk:Blk w g et cur) (hcs:c*5<=cur.size) (hx:cur.toList.take ((m+1)*5)=xs) (hone:∀u∈xs,u.oneCell'=true)
  (hn:m<=100000) (hi:i<=m) (hroom:m+1<=c):
  Calls Tryz.prog 226 #[.slice (some ⟨g,0,none⟩) (m+1) c,.int .i64 i,.int .i64 ((i:Int)+1)] w (qmw 5 w g cur.size m (xs.take (i*5)++xs.drop ((i+1)*5))):=by
 have hlc:cur.toList.length=cur.size:=by simp
 have hmc:(m+1)*5<=c*5:=wu _ hroom;have him:i*5<=m*5:=wu _ hi;have hxl:xs.length=(m+1)*5:=by rw [<-hx,wm,hlc];omega
 have hadd:∀(b o j:Nat),(⟨b,o,none⟩:Addr).add j=⟨b,o+j,none⟩:=λ b o j=>by unfold Addr.add;split<;>simp_all
 have hcell:∀(o j:Nat) (v:Value),(xs.drop o)[j]?=some v->w.drew.cell? ⟨g,o+j,none⟩=some v:=λ o j v hj=>by
  show w.cell? _=_;rw [hbk.cell,<-Array.getElem?_toList];rw [List.getElem?_drop,<-hx,List.getElem?_take]at hj;split at hj
  .exact hj
  .cases hj
 obtain ⟨i0,hi0,hz0,hz1,hz2⟩:=info_parts qGC;have hdl:(xs.drop ((i+1)*5)).length=(m-i)*5:=by rw [wS,hxl,<-war];congr 1;omega
 have hdl':(m-i)*5=m*5-i*5:=war ..
 obtain ⟨A,hA,HN⟩:∃A:Addr,(if c=i+1 then some (⟨g,0,none⟩:Addr)else some ⟨g,(i+1)*5,none⟩)=some A/\Hid (∀j u,(xs.drop ((i+1)*5))[j]?=some u->w.drew.cell? (A.add j)=some u):=by
  by_cases h:c=i+1
  .refine ⟨_,if_pos h,λ j u hj=>?_⟩;have:=(List.getElem?_eq_some_iff.1 hj).1;rw [hdl]at this;have:m-i=0:=by omega
   simp [this]at*
  .exact ⟨_,if_neg h,λ j u hj=>by rw [hadd];exact hcell _ j u hj⟩
 have HDL:=Lib.hid hdl;have HO1:Hid (∀u∈xs.drop ((i+1)*5),u.oneCell'=true):=λ v hv=>hone v (wR hv)
 have HSP:Hid (∀j,j<(xs.drop ((i+1)*5)).length->(w.drew.cell? ⟨g,0+i*5+j,none⟩).isSome=true/\w.drew.frozen? ⟨g,0+i*5+j,none⟩=false):=λ j hj=>by
  rw [hdl]at hj;refine ⟨?_,hbk.free _⟩;show (w.cell? _).isSome=true;rw [hbk.cell,Array.getElem?_eq_getElem (by omega)];rfl
 have hBKd:Blk w.drew g et cur:=hbk;have hw0:=qok g et (xs.drop ((i+1)*5)) (0+i*5) w.drew cur hBKd (by rw [hdl];omega);obtain ⟨w2,hw2⟩:∃w2,w2=w.drew.setCells g (0+i*5) (xs.drop ((i+1)*5)):=⟨_,rfl⟩
 rw [<-hw2]at hw0;obtain ⟨c1,hc1⟩:∃c1,c1=cur.toList.take (0+i*5)++xs.drop ((i+1)*5)++cur.toList.drop (0+i*5+(xs.drop ((i+1)*5)).length):=⟨_,rfl⟩
 rw [<-hc1]at hw0;have hl1:c1.length=cur.size:=by rw [hc1];simp only [wd,wm,wS,hlc,hdl];simp only [wS]at hdl;omega
 have ht1:c1.take (m*5)=xs.take (i*5)++xs.drop ((i+1)*5):=by
  have e1:cur.toList.take (0+i*5)=xs.take (i*5):=by rw [<-hx,xM];congr 1;omega
  rw [hc1,e1,kM (by simp only [wd,wm,hdl,hxl];omega),kI (by simp only [wd,wm,hdl,hxl];omega)]
 have hzl:(Builtin.zeroCells (Value.cells (.agg #[.int .i64 0,.string ⟨#[]⟩,.int .i64 0,.slice none 0 0,.int .i64 0])) 1).toList.length=5:=by rw [wM,size_zeroCells];rfl
 obtain ⟨w3,hcl,hw3⟩:∃w3,(∀ty,(Builtin.clear_ #[134] ty #[.slice (some ⟨g,m*5,none⟩) 1 (c-m)]).run Tryz.prog w2=.ok (.tuple #[]) w3)/\qm3 w2 w3 g et (c1.toArray.toList.take (m*5)++(Builtin.zeroCells (Value.cells (.agg #[.int .i64 0,.string ⟨#[]⟩,.int .i64 0,.slice none 0 0,.int .i64 0])) 1).toList++c1.toArray.toList.drop (m*5+(Builtin.zeroCells (Value.cells (.agg #[.int .i64 0,.string ⟨#[]⟩,.int .i64 0,.slice none 0 0,.int .i64 0])) 1).toList.length)):=
  ⟨_,λ ty=>qwr w2 134 157 ty _ Tryz.underlying134 qN4 g (m*5) 1 (c-m) (by omega) c1.toArray et hw0.blk (by
   show m*5+1*5<=c1.toArray.size;rw [kh,hl1];omega) qEX,qhx hw0.blk _⟩
 have HW0:=Lib.hid hw0;have HW2:=Lib.hid hw2;have HW3:=Lib.hid hw3;have HCL:=Lib.hid hcl;have HT1:=Lib.hid ht1;have HL1:=Lib.hid hl1;have HZL:=Lib.hid hzl;have HI:=Lib.hid hi0;have HZ1:=Lib.hid hz1;have HCS:=Lib.hid hcs;have HMC:=Lib.hid hmc;have hlt:=lt_of_block hbk;have hc1:¬ (m+1=i):=by omega
 have hc2:¬ (c=m):=by omega
 have hf1:((i:Int)==(i:Int)+1)=false:=by simp;omega
 have hrm:i+(m-i)<=c:=by omega
 have hmi:i+(m-i)=m:=by omega
 have HRM:=Lib.hid hrm;have HMI:=Lib.hid hmi;clear hlc hxl hadd hcell hi0 hz0 hz1 hz2 hdl hBKd hw0 hw2 hl1 ht1 hzl hcl hw3 hcs hx hone hbk hrm hmi hmc him hdl';have hw1:((i:Int)+1).toNat=i+1:=by omega
 have hw4:(i:Int)+1<=(m:Int)+1:=by omega
 have hw5:(i:Int)<=(m:Int)+1:=by omega
 have hw6:(0:Int)<=(i:Int)+1:=by omega
 have hic:i<=c:=by omega
 go_enter Tryz.func226,Tryz.ntmps226
 go_upto_region 5 with (fail)
 go_region_law (refine step_append_room rfl (.tmp 22) (.tmp 25) 134 rfl 157 i0 5 Tryz.underlying134 HI.out HZ1.out g 0 i c (by simp [Act.eval,Act.put]) A (m-i) (c-(i+1)) (xs.drop ((i+1)*5)) (by simp [Act.eval,Act.put]) HDL.out HN.out HO1.out HRM.out HSP.out ?_;rw [<-HW2.out,HMI.out])
 all_goals
  clear hw1 hw4 hw5 hw6 hA;have hcl:=HCL.out
  go_wp2_with (simp only [hcl])
  go_ret
  have h3:=HW3.out;have h0:=HW0.out;have hblk:=h3.blk;have hl1:=HL1.out;have hzl:=HZL.out;have hmc:=HMC.out;have hcs:=HCS.out
  have hsz:(c1.toArray.toList.take (m*5)++(Builtin.zeroCells (Value.cells (.agg #[.int .i64 0,.string ⟨#[]⟩,.int .i64 0,.slice none 0 0,.int .i64 0])) 1).toList++c1.toArray.toList.drop (m*5+(Builtin.zeroCells (Value.cells (.agg #[.int .i64 0,.string ⟨#[]⟩,.int .i64 0,.slice none 0 0,.int .i64 0])) 1).toList.length)).length=cur.size:=by
   show (c1.take (m*5)++_++c1.drop (m*5+_)).length=_;simp only [wd,wm,wS,hl1,hzl];omega
  refine ⟨g,c,_,et,rfl,hblk,by omega,?_,?_,.inl ⟨rfl,?_⟩,h3.os.trans h0.os,h3.tape.trans h0.tape,h3.output.trans h0.output,?_,?_,λ k _ hk=>(h3.other k hk).trans (h0.other k hk)⟩
  .rw [kh,hsz];exact hcs
  .show (c1.take (m*5)++_++c1.drop (m*5+_)).take (m*5)=_;rw [wj,kM (by rw [wm,hl1];omega),xM,Nat.min_self];exact HT1.out
  .rw [kh,hsz]
  .rw [h3.size,h0.size];exact wa _
  .rw [h3.drawn,h0.drawn];exact ko _
end Go.Proofs.YtinbdcelmgfniaaGreatDoor
namespace Go.Proofs.YtinbdcelmgfniaaGreatDoor
open Go.RowKit Go.GxZ Go.BigFrame
theorem qFk:(Tryz.prog.info? 25).map (λ i=>(i.zero,i.size,i.bytes))=some (some (.agg #[.int .i64 0,.string ⟨#[]⟩,.int .i64 0,.slice none 0 0]),4,56):=by kernel_rfl
set_option maxHeartbeats 4000000 in
set_option maxRecDepth 100000 in
theorem clone_anyTrm(w:World)(p:Option Addr)(n c:Nat)(xs:List Value)(f:xs.length=n*4)(x:n=0\/∃ad,p=some ad/\∀j u,xs[j]?=some u->w.cell? (ad.add j)=some u)(z:∀u∈xs,u.oneCell'=true)(S:n<=100000000):
  Calls Tryz.prog 23 #[.slice p n c] w λ e w'=>∃v,e=.returned v/\AmZ.Fresh w 4 n xs v w':=by
 cases p with
 |none=>
   have i:n=0:=by
    obtain h|⟨ad,h,_⟩:=x
    .exact h
    .cases h
   subst i;clear x z f;have G:∀w,(binOp .eql 23 (.slice none 0 c) (.slice none 0 0)).run Tryz.prog w=.ok (.bool true) w:=λ w=>by rw[Lib.run_eql_slice_nil w 23 25 none 0 c 0 0 Tryz.underlying23];rfl
   go_enter Tryz.func23,Tryz.ntmps23
   go_wp2_with fail
   go_ret
   exact⟨_,rfl,Below.refl _ _,wa _,.inl ⟨rfl,_,rfl⟩⟩
 |some ad=>
   let⟨R,k,o,m,l⟩:=info_parts qFk;have s:Below w.heap.size w (w.alloc (.cells #[] 25)):=(Below.refl _ _).alloc (wa _) _;by_cases i:n=0
   .subst i;have F:∀ty,(Builtin.append_ #[23,23] ty #[.slice (some ⟨w.heap.size,0,none⟩) 0 0,.slice (some ad) 0 c]).run Tryz.prog (w.alloc (.cells #[] 25))=.ok (.slice (some ⟨w.heap.size,0,none⟩) 0 0) (w.alloc (.cells #[] 25)):=λ ty=>run_append_nothing _ 23 23 ty 25 _ Tryz.underlying23 k (some ⟨w.heap.size,0,none⟩) 0 0 (wa _) _ (Src.ofSlice _ Tryz.underlying23 ad 0 c [] (by simp) (λ _ _ h=>by simp at h) (λ _ h=>by simp at h));have E:=Lib.hid F;have Q:=Lib.hid s;clear F x z f s k o m l;have G:∀w,(binOp .eql 23 (.slice (some ad) 0 c) (.slice none 0 0)).run Tryz.prog w=.ok (.bool false) w:=λ w=>by rw[Lib.run_eql_slice_nil w 23 25 (some ad) 0 c 0 0 Tryz.underlying23];rfl
    go_enter Tryz.func23,Tryz.ntmps23
    go_wp2_with (at_builtin;refine Lib.wpList_append_run _ rfl _ _ _ _ rfl _ _ rfl rfl _ _ (E.out _) ?_)
    go_ret
    exact⟨_,rfl,Q.out,wa _,.inl ⟨rfl,_,rfl⟩⟩
   .have b:∀j u,xs[j]?=some u->(w.alloc (.cells #[] 25)).cell? (ad.add j)=some u:=λ j u r=>by
      obtain h|⟨N,h,K⟩:=x
      .exact absurd h i
      .cases h;have y:=K j u r
       have B:(ad.add j).block<w.heap.size:=by
        unfold World.cell? at y;split at y
        .rename_i L;exact(Array.getElem?_eq_some_iff.1 L).1
        .cases y
       rw[show(w.alloc (.cells #[] 25)).cell? _=w.cell? _ from World.cell?_of_block (s.block _ B)];exact y
    have t:∀ty,∃g a d w',(Builtin.append_ #[23,23] ty #[.slice (some ⟨w.heap.size,0,none⟩) 0 0,.slice (some ad) n c]).run Tryz.prog (w.alloc (.cells #[] 25))=.ok (.slice (some ⟨g,0,none⟩) (0+n) a) w'/\Below (w.alloc (.cells #[] 25)).heap.size (w.alloc (.cells #[] 25)) w'/\(w.alloc (.cells #[] 25)).heap.size<=g/\w'.heap[g]?=some (.cells d 25 (0,0))/\0+n<=a/\d.size=a*4/\d.toList.take ((0+n)*4)=[]++xs/\(w.alloc (.cells #[] 25)).drawn<=w'.drawn:=
     λ ty=>AmZ.grow_any (P:=Tryz.prog) (w:=w.alloc (.cells #[] 25)) (ty:=ty) Tryz.underlying23 k o m l rfl (some ⟨w.heap.size,0,none⟩) 0 0 (λ h=>by cases h) [] (by simp) (λ _ _ j u h=>by simp at h) _ n xs (Src.ofSlice _ Tryz.underlying23 ad n c xs f b z) (by omega) (by unfold maxLen;omega) (by omega)
    let⟨g,a,d,w',D,J,g3,I,C,H,A,M⟩:=t 23;rw[wD]at D C A;rw[kW]at A;have E:=Lib.hid D;have q:w.heap.size<=(w.alloc (.cells #[] 25)).heap.size:=s.size
    have O:Hid (AmZ.Fresh w 4 n xs (.slice (some ⟨g,0,none⟩) n a) w'):=by
     refine⟨s.trans (J.mono q),M,.inr ⟨g,a,d,_,rfl,wE q g3,I,C,vD H.symm,λ j u r=>?_⟩⟩;rw[<-A,List.getElem?_take]at r;split at r
     .rw[<-Array.getElem?_toList];exact r
     .cases r
    clear s b t D J g3 I C H A q x z f k o m l;have G:∀w,(binOp .eql 23 (.slice (some ad) n c) (.slice none 0 0)).run Tryz.prog w=.ok (.bool false) w:=λ w=>by rw[Lib.run_eql_slice_nil w 23 25 (some ad) n c 0 0 Tryz.underlying23];rfl
    go_enter Tryz.func23,Tryz.ntmps23
    go_wp2_with (at_builtin;refine Lib.wpList_append_run _ rfl _ _ _ _ rfl _ _ rfl rfl _ _ E.out ?_)
    go_ret
    exact⟨_,rfl,O.out⟩
set_option maxHeartbeats 4000000 in
set_option maxRecDepth 100000 in
theorem grow_nilTrm(w:World)(n:Nat)(z:n<=100000000):
  Calls Tryz.prog 193 #[.slice none 0 0,.int .i64 n] w λ e w'=>∃v,e=.returned v/\AmZ.Fresh w 4 0 [] v w':=by
 by_cases r:n=0
 .subst r;have l:IntKind.i64.wrap ((0:Int)-0)=(0:Int):=IntWalk.i64_in _ (by omega)
  go_enter Tryz.func193,Tryz.ntmps193
  go_wp2_with fail
  go_ret
  exact⟨_,rfl,Below.refl _ _,wa _,.inl ⟨rfl,_,rfl⟩⟩
 let⟨o,h,f,d,c⟩:=info_parts qFk;have b:(Builtin.firstCells o.size 0 (.slice none 0 0)).run Tryz.prog w.drew=.ok (([]:List Value)).toArray w.drew:=run_firstCells_none ..;have k:∀ty,_:=λ ty=>Lib.run_append_grow_zeros w 23 3 ty 25 o _ .i64 .i64 Tryz.underlying23 Tryz.underlying3 h f none 0 0 [] b n (by omega) (by rw[d];decide) (by omega) (by omega) (by rw[c];omega) (by rw[wD,c];exact growslice_fits (by omega) (by omega));rw[wD]at k;obtain⟨i,a⟩:∃N:Array Value,N=([]:List Value).toArray++Builtin.zeroCells (Value.cells (.agg #[.int .i64 0,.string ⟨#[]⟩,.int .i64 0,.slice none 0 0])) n++Builtin.zeroCells (Value.cells (.agg #[.int .i64 0,.string ⟨#[]⟩,.int .i64 0,.slice none 0 0])) (grownCap w n 0 25-n):=⟨_,rfl⟩
 rw[<-a]at k;have m:n<=grownCap w n 0 25:=grownCap_ge w _ _ _
 have g:grownCap w n 0 25*4<=i.size:=by
  rw[a,xK,xK,size_zeroCells,size_zeroCells,show(Value.cells (.agg #[.int .i64 0,.string ⟨#[]⟩,.int .i64 0,.slice none 0 0])).size=4 from rfl,kh,wY];have:n*4+(grownCap w n 0 25-n)*4=grownCap w n 0 25*4:=by rw[<-wO];congr 1;omega
  omega
 have y:=Lib.hid k;have x:=Lib.hid g;have l:IntKind.i64.wrap ((0:Int)-0)=(0:Int):=IntWalk.i64_in _ (by omega);have q:IntKind.i64.wrap ((n:Int)-0)=(n:Int):=by rw[IntWalk.i64_in _ (by omega)];omega
 have p:(0:Int)<(n:Int):=by omega
 generalize t:grownCap w n 0 25=G at *;clear b k a g h f d c t m
 go_enter Tryz.func193,Tryz.ntmps193
 go_wp2_with (at_builtin;refine Lib.wpList_append_run _ rfl _ _ _ _ rfl _ _ rfl rfl _ _ (y.out _) ?_)
 all_goals
  go_ret
  exact⟨_,rfl,((Below.refl _ _).alloc (wa _) _).drew,ko _,.inr ⟨w.heap.size,G,i,_,rfl,wa _,heap_alloc_new w _,we _,x.out,λ j u s=>by simp at s⟩⟩
end Go.Proofs.YtinbdcelmgfniaaGreatDoor
namespace Go.Proofs.YtinbdcelmgfniaaGreatDoor
open Go.RowKit Go.GxZ Go.BigFrame
theorem qP7:(Tryz.prog.info? 106).map (λ i=>(i.zero,i.size,i.bytes))=some (some (.agg #[.int .i64 0,.string ⟨#[]⟩,.int .i64 0,.slice none 0 0,.int .i64 0,.string ⟨#[]⟩,.int .i64 0,.slice none 0 0]),8,112):=by kernel_rfl
set_option maxHeartbeats 4000000 in
set_option maxRecDepth 100000 in
theorem clone_anyUp(w:World)(p:Option Addr)(n c:Nat)(xs:List Value)(f:xs.length=n*8)(x:n=0\/∃ad,p=some ad/\∀j u,xs[j]?=some u->w.cell? (ad.add j)=some u)(z:∀u∈xs,u.oneCell'=true)(S:n<=100000000):
  Calls Tryz.prog 188 #[.slice p n c] w λ e w'=>∃v,e=.returned v/\AmZ.Fresh w 8 n xs v w':=by
 cases p with
 |none=>
   have i:n=0:=by
    obtain h|⟨ad,h,_⟩:=x
    .exact h
    .cases h
   subst i;clear x z f;have G:∀w,(binOp .eql 107 (.slice none 0 c) (.slice none 0 0)).run Tryz.prog w=.ok (.bool true) w:=λ w=>by rw[Lib.run_eql_slice_nil w 107 106 none 0 c 0 0 Tryz.underlying107];rfl
   go_enter Tryz.func188,Tryz.ntmps188
   go_wp2_with fail
   go_ret
   exact⟨_,rfl,Below.refl _ _,wa _,.inl ⟨rfl,_,rfl⟩⟩
 |some ad=>
   let⟨R,k,o,m,l⟩:=info_parts qP7;have s:Below w.heap.size w (w.alloc (.cells #[] 106)):=(Below.refl _ _).alloc (wa _) _;by_cases i:n=0
   .subst i;have F:∀ty,(Builtin.append_ #[107,107] ty #[.slice (some ⟨w.heap.size,0,none⟩) 0 0,.slice (some ad) 0 c]).run Tryz.prog (w.alloc (.cells #[] 106))=.ok (.slice (some ⟨w.heap.size,0,none⟩) 0 0) (w.alloc (.cells #[] 106)):=λ ty=>run_append_nothing _ 107 107 ty 106 _ Tryz.underlying107 k (some ⟨w.heap.size,0,none⟩) 0 0 (wa _) _ (Src.ofSlice _ Tryz.underlying107 ad 0 c [] (by simp) (λ _ _ h=>by simp at h) (λ _ h=>by simp at h));have E:=Lib.hid F;have Q:=Lib.hid s;clear F x z f s k o m l;have G:∀w,(binOp .eql 107 (.slice (some ad) 0 c) (.slice none 0 0)).run Tryz.prog w=.ok (.bool false) w:=λ w=>by rw[Lib.run_eql_slice_nil w 107 106 (some ad) 0 c 0 0 Tryz.underlying107];rfl
    go_enter Tryz.func188,Tryz.ntmps188
    go_wp2_with (at_builtin;refine Lib.wpList_append_run _ rfl _ _ _ _ rfl _ _ rfl rfl _ _ (E.out _) ?_)
    go_ret
    exact⟨_,rfl,Q.out,wa _,.inl ⟨rfl,_,rfl⟩⟩
   .have b:∀j u,xs[j]?=some u->(w.alloc (.cells #[] 106)).cell? (ad.add j)=some u:=λ j u r=>by
      obtain h|⟨N,h,K⟩:=x
      .exact absurd h i
      .cases h;have y:=K j u r
       have B:(ad.add j).block<w.heap.size:=by
        unfold World.cell? at y;split at y
        .rename_i L;exact(Array.getElem?_eq_some_iff.1 L).1
        .cases y
       rw[show(w.alloc (.cells #[] 106)).cell? _=w.cell? _ from World.cell?_of_block (s.block _ B)];exact y
    have t:∀ty,∃g a d w',(Builtin.append_ #[107,107] ty #[.slice (some ⟨w.heap.size,0,none⟩) 0 0,.slice (some ad) n c]).run Tryz.prog (w.alloc (.cells #[] 106))=.ok (.slice (some ⟨g,0,none⟩) (0+n) a) w'/\Below (w.alloc (.cells #[] 106)).heap.size (w.alloc (.cells #[] 106)) w'/\(w.alloc (.cells #[] 106)).heap.size<=g/\w'.heap[g]?=some (.cells d 106 (0,0))/\0+n<=a/\d.size=a*8/\d.toList.take ((0+n)*8)=[]++xs/\(w.alloc (.cells #[] 106)).drawn<=w'.drawn:=
     λ ty=>AmZ.grow_any (P:=Tryz.prog) (w:=w.alloc (.cells #[] 106)) (ty:=ty) Tryz.underlying107 k o m l rfl (some ⟨w.heap.size,0,none⟩) 0 0 (λ h=>by cases h) [] (by simp) (λ _ _ j u h=>by simp at h) _ n xs (Src.ofSlice _ Tryz.underlying107 ad n c xs f b z) (by omega) (by unfold maxLen;omega) (by omega)
    let⟨g,a,d,w',D,J,g3,I,C,H,A,M⟩:=t 107;rw[wD]at D C A;rw[kW]at A;have E:=Lib.hid D;have q:w.heap.size<=(w.alloc (.cells #[] 106)).heap.size:=s.size
    have O:Hid (AmZ.Fresh w 8 n xs (.slice (some ⟨g,0,none⟩) n a) w'):=by
     refine⟨s.trans (J.mono q),M,.inr ⟨g,a,d,_,rfl,wE q g3,I,C,vD H.symm,λ j u r=>?_⟩⟩;rw[<-A,List.getElem?_take]at r;split at r
     .rw[<-Array.getElem?_toList];exact r
     .cases r
    clear s b t D J g3 I C H A q x z f k o m l;have G:∀w,(binOp .eql 107 (.slice (some ad) n c) (.slice none 0 0)).run Tryz.prog w=.ok (.bool false) w:=λ w=>by rw[Lib.run_eql_slice_nil w 107 106 (some ad) n c 0 0 Tryz.underlying107];rfl
    go_enter Tryz.func188,Tryz.ntmps188
    go_wp2_with (at_builtin;refine Lib.wpList_append_run _ rfl _ _ _ _ rfl _ _ rfl rfl _ _ E.out ?_)
    go_ret
    exact⟨_,rfl,O.out⟩
end Go.Proofs.YtinbdcelmgfniaaGreatDoor
namespace Go.AmZ
open Go Go.RowKit Go.GxZ
theorem qzE{P:Program}{c:TC}{f:FuncId}(o:qgs P f)(h:∀i g,c.pf f i=some g->∀a v,g.fn a=some v->∀Γ w b,Inv Γ emp w->RepL Γ (Qu g.args a i) b->Ji P Γ emp w f b (zV (qav g.res v),none)):qU P f (Jw (jE c f)):=by
 refine⟨o,λ Γ σ w j b r m l e=>?_⟩;unfold Jw at e;split at e<;>try cases e
 split at e<;>cases e;rename_i z d;unfold jE at d;split at d<;>try cases d
 rename_i g n;split at d<;>try cases d
 rename_i a p;split at d<;>cases d;rename_i v k;exact h _ g n a v k Γ w b m ((qmv g.args p).rep l)
theorem qHw{P:Program}{f:FuncId}{Γ:Gh}{w:World}{a:List Value}{x:Value}(g:Inv Γ emp w)(d:zF x=true)(h:Calls P f a.toArray w λ e w'=>e=.returned x/\Below w.heap.size w w'/\w.drawn<=w'.drawn):Ji P Γ emp w f a (.v x,none):=by
 refine Calls.mono h ?_;rintro e w' ⟨rfl,c,b⟩;exact⟨x,Γ,rfl,qgN c b,g.later c,.v x d,.refl _⟩
def strings_Compare(m:Nat)(a b:List UInt8):Option Int:=some (Lib.compareBytes a b)
theorem qpB{m:Nat}{c:TC}(l:∀h,c.pf 116 h=qx3 h [] (some ⟨[.val .str,.val .str],[.int .i64],λ x=>strings_Compare m x.1 x.2.1⟩) none):qU Go.Proofs.Tryz.prog 116 (Jw (jE c 116)):=by
 refine qzE (QP Go.Proofs.Tryz.func116 (by kernel_rfl)) λ h g b a v j Γ w i k e=>?_;rw[l]at b;obtain⟨rfl,b⟩|b:=qzh b
 .cases b;cases j;obtain⟨u1,o,rfl,f,e⟩:=e.uncons;obtain⟨u2,n,rfl,d,e⟩:=e.uncons;have:=e.nil_inv;subst this;have f:=zq f;have d:=zq d;subst f;subst d;refine qHw k rfl ?_;exact(Go.Proofs.Tryz.strings_Compare _ _ w).mono λ _ _ ⟨f,d⟩=>⟨f,by rw[d];exact Below.refl _ _,by rw[d];exact wa _⟩
 .cases b
abbrev qIa:Ty:=.pair .str (.pair (.int .i64) (.pair (.int .i64) (.int .i64)))
def qNg:List (Val qIa):=[([112,97,105,114],2,2,1),([101,110,99],2,2,1),([97,101,110,99],2,2,1),([112,107],1,1,1),([115,105,103,110],2,2,1),([104,97,115,104],1,1,1),([120,111,114],2,8,1),([122,101,114,111],0,0,1),([101,120,112],2,2,1),([109,117,108],2,8,1),([105,110,118],1,1,1),([111,110,101],0,0,1),([115,107],1,1,2),([115,104,107],2,2,2),([110,101,119],1,8,2),([102,115,116],1,1,3),([115,110,100],1,1,3),([100,101,99],2,2,3),([97,100,101,99],2,2,3),([111,112,101,110],2,2,3),([114,101,97,100],1,1,3)]
def qh8(m:Nat):Option (List (List UInt8×Int×Int×Int)):=some qNg
def qL0:Cfg:=⟨tyT,λ f=>cond (Nat.beq f 104) (some Go.Proofs.Tryz.f104) (cond (Nat.beq f 132) (some Go.Proofs.Tryz.f132) none),λ _=>none,λ _=>false,λ _=>[],λ _=>true,λ _=>none⟩
theorem qE7(cd:Code):Qc cd=true:=by
 induction cd<;>simp_all [Qc]
theorem qFx:yq Go.Proofs.Tryz.prog qL0:=by
 refine⟨by kernel_rfl,qJf,λ f fn h=>?_,(λ f p h=>by cases h),λ f fn h=>by cases h⟩;have h:cond (Nat.beq f 104) (some Go.Proofs.Tryz.f104) (cond (Nat.beq f 132) (some Go.Proofs.Tryz.f132) none)=some fn:=h;have c:∀cd:Code,Qc cd=true:=qE7;cases b:Nat.beq f 104 with
 |true=>
   rw[b]at h;cases h;rw[wn b];exact⟨Go.Proofs.Tryz.func104,by kernel_rfl,λ _ _=>c _⟩
 |false=>
   rw[b]at h;cases a:Nat.beq f 132 with
   |true=>
     rw[a]at h;cases h;rw[wn a];exact⟨Go.Proofs.Tryz.func132,by kernel_rfl,λ _ _=>c _⟩
   |false=>rw[a]at h;cases h
theorem qLx:qbS qL0 (Q8 qL0 300) emp 104 []=some (zV (qav [.list qIa] qNg),none):=by kernel_rfl
theorem qqn{m:Nat}{c:TC}(j:∀d,c.pf 104 d=qx3 d [] (some ⟨[],[.list qIa],λ x=>qh8 m⟩) none):qU Go.Proofs.Tryz.prog 104 (Jw (jE c 104)):=by
 refine qzE (QP Go.Proofs.Tryz.func104 (by kernel_rfl)) λ d g b a v f Γ w e i h=>?_;rw[j]at b;obtain⟨rfl,b⟩|b:=qzh b
 .cases b;cases f;exact qEx qFx (qxB qFx 300) i h qLx
 .cases b
def ya(m:Nat)(l:List T):Option (Unit×List T×Unit):=cond (Nat.ble l.length 100000000) (some ((),l,())) none
def yV(m:Nat)(n:Int):Option (Unit×List T×Unit):=cond (inb n 100000000) (some ((),[],())) none
def zH(m:Nat)(l:List (T×Int))(i:Int)(v:List (T×Int)):Option (Unit×List (T×Int)×Unit):=cond (inb i l.length&&(Nat.ble l.length 100000&&Nat.beq v.length 1)) (some ((),l.take i.toNat++(v++l.drop i.toNat),())) none
def zJ(m:Nat)(l:List (T×Int))(i j:Int):Option (Unit×List (T×Int)×Unit):=cond (inb j l.length&&(inb i l.length&&(ieq j (qi i 1)&&Nat.ble l.length 100000))) (some ((),l.take i.toNat++l.drop (i.toNat+1),())) none
theorem qha{α:Type}{b:Bool}{x:α}{r:α}(h:cond b (some x) none=some r):b=true/\x=r:=by
 cases b with
 |true=>exact⟨rfl,kQ h⟩
 |false=>cases h
theorem qff{m:Nat}:qU Go.Proofs.Tryz.prog 23 (sgP ⟨[.val (.list .term)],[.one (.row .term)],λ x=>ya m x.1⟩):=by
 refine qvK (a:=.term) (QP Go.Proofs.Tryz.func23 (by kernel_rfl)) (most:=100000000) Go.Proofs.YtinbdcelmgfniaaGreatDoor.clone_anyTrm (fn:=ya m) λ l r h=>?_;let⟨c,b⟩:=qha h;exact⟨ky c,b.symm⟩
def ja(m:Nat)(l:List (T×T)):Option (Unit×List (T×T)×Unit):=cond (Nat.ble l.length 100000000) (some ((),l,())) none
theorem qdu{m:Nat}:qU Go.Proofs.Tryz.prog 188 (sgP ⟨[.val (.list (.pair .term .term))],[.one (.row (.pair .term .term))],λ x=>ja m x.1⟩):=by
 refine qvK (a:=.pair .term .term) (QP Go.Proofs.Tryz.func188 (by kernel_rfl)) (most:=100000000) Go.Proofs.YtinbdcelmgfniaaGreatDoor.clone_anyUp (fn:=ja m) λ l r h=>?_;let⟨c,b⟩:=qha h;exact⟨ky c,b.symm⟩
theorem qfC{m:Nat}:qU Go.Proofs.Tryz.prog 193 (sgP ⟨[.nil,.val (.int .i64)],[.one (.row .term)],λ x=>yV m x.1⟩):=by
 refine qJP (a:=.term) (QP Go.Proofs.Tryz.func193 (by kernel_rfl)) (most:=100000000) Go.Proofs.YtinbdcelmgfniaaGreatDoor.grow_nilTrm (fn:=yV m) λ n r h=>?_;let⟨b,c⟩:=qha h;have b:=of_decide_eq_true b;exact⟨b.1,b.2,c.symm⟩
theorem qQM:qnM Go.Proofs.Tryz.prog (.pair .term (.int .i64)) 134 157 64:=⟨by
 have h:(match yO Go.Proofs.Tryz.prog 134 with|some ⟨_,_,_,_,.slice e k b z⟩=>Nat.beq e 157&&(Nat.beq k 5&&(Nat.beq b 64&&Nat.beq z.length 5))|_=>false)=true:=by kernel_rfl
 split at h
 .rename_i l j i g e k b z m;simp only[wc]at h;let⟨f,d,c,a⟩:=h;have f:=wn f;have d:=wn d;have c:=wn c;have a:=wn a;subst f;subst d;subst c;exact⟨l,j,i,g,z,m,a⟩
 .cases h⟩
theorem qdK{m:Nat}:qU Go.Proofs.Tryz.prog 225 (sgP ⟨[.row (.pair .term (.int .i64)),.val (.int .i64),.val (.list (.pair .term (.int .i64)))],[.one (.row (.pair .term (.int .i64)))],λ x=>zH m x.1 x.2.1 x.2.2.1⟩):=by
 refine qLw (a:=.pair .term (.int .i64)) (QP Go.Proofs.Tryz.func225 (by kernel_rfl)) qQM (by decide) Go.Proofs.YtinbdcelmgfniaaGreatDoor.insert_endPow Go.Proofs.YtinbdcelmgfniaaGreatDoor.insert_roomPow Go.Proofs.YtinbdcelmgfniaaGreatDoor.insert_growPow (fn:=zH m) λ l i v r h=>?_;let⟨c,g⟩:=qha h;simp only[wc,Nat.beq_eq_true_eq]at c;let⟨b,f,d⟩:=c;have b:=of_decide_eq_true b;refine⟨?_,b.1,b.2,ky f,g.symm⟩
 match v,d with
 |[e],_=>exact⟨e,rfl⟩
theorem qdJ{m:Nat}:qU Go.Proofs.Tryz.prog 226 (sgP ⟨[.row (.pair .term (.int .i64)),.val (.int .i64),.val (.int .i64)],[.one (.row (.pair .term (.int .i64)))],λ x=>zJ m x.1 x.2.1 x.2.2.1⟩):=by
 refine qL9 (a:=.pair .term (.int .i64)) (QP Go.Proofs.Tryz.func226 (by kernel_rfl)) Go.Proofs.YtinbdcelmgfniaaGreatDoor.delete_onePow (fn:=zJ m) λ l i j r h=>?_;let⟨e,g⟩:=qha h;simp only[wc]at e;let⟨d,c,b,f⟩:=e;have d:=of_decide_eq_true d;have c:=of_decide_eq_true c;have b:j=i+1:=by simpa[ieq,qi]using b
 refine⟨b,c.1,?_,ky f,g.symm⟩;omega
end Go.AmZ
namespace Go.AmZ
open Go Go.RowKit Go.GxZ
structure FI where
 fn:Func
 args:List ATy
 res:List Ty
 loop:List (Nat×List (Tmp×Co))
 ld:List Nat
 F:Nat->qbC args->Option (qeu res)
structure SI where
 fn:Func
 args:List SA
 res:List RE
 loop:List (Nat×List (Tmp×Co))
 ld:List Nat
 F:Nat->QG args->Option (jR args×RV res)
inductive En where
 |pure (l:List (List Nat×FI))
 |st (i:SI)
 |hp (g:Sig)
 |hs (g:qm9)
 |hx (g:Nat->qm9)
 |hm (g:Nat->qrG)
 |hk (g:Nat->qtV)
 |il (fn:Func)
inductive Tr where
 |leaf
 |node (k:Nat) (l r:Tr) (x:En)
def Tr.get:Tr->Nat->Option En
 |.leaf,_=>none
 |.node k l r x,f=>match Nat.beq f k with
   |true=>some x
   |false=>match Nat.blt f k with
     |true=>Tr.get l f
     |false=>Tr.get r f
def qsN(a:List Nat):List (List Nat×FI)->Option FI
 |[]=>none
 |p::r=>match qrb p.1 a with
   |true=>some p.2
   |false=>qsN a r
def qJo(r:Nat):List (Nat×List (Tmp×Co))->Option (List (Tmp×Co))
 |[]=>none
 |p::l=>match Nat.beq p.1 r with
   |true=>some p.2
   |false=>qJo r l
structure Tb where
 ty:Nat->Option TD
 el:Nat->Option Ty
 tr:Tr
def Tb.has(b:Tb)(f:Nat):Bool:=match b.tr.get f with
 |some (.pure _)|some (.hp _)=>true
 |_=>false
def Tb.pf(b:Tb)(m f:Nat)(a:List Nat):Option Sig:=match b.tr.get f with
 |some (.pure l)=>match qsN a l with
   |some i=>some ⟨i.args,i.res,i.F m⟩
   |none=>none
 |some (.hp g)=>qx3 a [] (some g) none
 |_=>none
def Tb.sf(b:Tb)(m f:Nat):Option qm9:=match b.tr.get f with
 |some (.st i)=>some ⟨i.args,i.res,i.F m⟩
 |some (.hs g)=>some g
 |some (.hx g)=>some (g m)
 |_=>none
def Tb.mf(b:Tb)(m f:Nat):Option qrG:=match b.tr.get f with
 |some (.hm g)=>some (g m)
 |_=>none
def Tb.xf(b:Tb)(m f:Nat):Option qtV:=match b.tr.get f with
 |some (.hk g)=>some (g m)
 |_=>none
def Tb.inl(b:Tb)(f:Nat):Option Func:=match b.tr.get f with
 |some (.il fn)=>some fn
 |_=>none
def Tb.tc(b:Tb)(m:Nat)(d:List (Nat×List (Tmp×Co)))(a c:Nat)(e:List Nat):TC:=⟨b.ty,b.el,b.has,b.pf m,b.sf m,λ r=>qJo r d,λ _=>none,a,c,λ f=>qNj f e,b.mf m,b.xf m,b.inl⟩
def Tb.runP(b:Tb)(m:Nat)(i:FI)(k:Nat)(a:List It)(E:Env)(σ:TS):Option (qeu i.res):=
 qoy (b.tc m i.loop i.fn.ntmps 0 i.ld) (qjs (b.tc m i.loop i.fn.ntmps 0 i.ld) i.res i.fn.results.toList) qwf k a E σ
def Tb.runS(b:Tb)(m:Nat)(i:SI)(k:Nat)(a:List It)(E:Env)(σ:TS):Option (jR i.args×RV i.res):=
 qoy (b.tc m i.loop i.fn.ntmps (qCe i.args) i.ld) (qyT (b.tc m i.loop i.fn.ntmps (qCe i.args) i.ld) i.args i.res i.fn.results.toList) qwf k a E σ
def Tb.runP1(b:Tb)(m:Nat)(i:FI)(c:List Nat)(a:qbC i.args):Option (qeu i.res):=b.runP m i (m+1) [.code (qsC i.fn)] (qfr 0 (qyO i.args a c)) ⟨[],[]⟩
def Tb.runS1(b:Tb)(m:Nat)(i:SI)(a:QG i.args):Option (jR i.args×RV i.res):=b.runS m i (m+1) [.code (qsC i.fn)] (qfr 0 (qk4 i.args 0 0 a)) ⟨sBx i.args 0 a,sRw i.args a⟩
def Tb.PL(b:Tb)(i:FI)(r:Nat)(m k:Nat)(E:Env)(σ:TS):Option (qeu i.res):=b.runP m i k (stL i.fn r) E σ
def Tb.QL(b:Tb)(i:SI)(r:Nat)(m k:Nat)(E:Env)(σ:TS):Option (jR i.args×RV i.res):=b.runS m i k (stL i.fn r) E σ
def Tb.at(b:Tb)(m:Nat):TC:=b.tc m [] 0 0 []
theorem qW{α:Type}{M:Nat->α}{z:α}{s:α->α}(c:z=M 0)(b:∀k,M (k+1)=s (M k))(k:Nat):qM z s k=M k:=by
 induction k with
 |zero=>exact c
 |succ k a=>rw[b,<-a];rfl
def fnB(fn:Func)(n:Nat):Bool:=J5 fn&&Nat.ble n fn.ntmps
def En.ok:En->Bool
 |.pure l=>l.all λ p=>fnB p.2.fn p.2.args.length
 |.st i=>fnB i.fn i.args.length
 |.il fn=>J5 fn
 |_=>true
def Tr.ok:Tr->Bool
 |.leaf=>true
 |.node _ l r x=>x.ok&&(l.ok&&r.ok)
def qwN(P:Program)(b:Tb)(f:Nat)(l:List (List Nat×FI)):Prop:=match l with
 |[]=>True
 |p::r=>P.funcs[f]?=some p.2.fn/\(∀a,p.2.F 0 a=none)/\(∀m a,p.2.F (m+1) a=b.runP1 m p.2 p.1 a)/\qwN P b f r
def En.prog(P:Program)(b:Tb)(f:Nat):En->Prop
 |.pure l=>qwN P b f l/\l≠[]
 |.st i=>P.funcs[f]?=some i.fn/\(∀a,i.F 0 a=none)/\∀m a,i.F (m+1) a=b.runS1 m i a
 |.hp g=>∀c:TC,(∀d,c.pf f d=qx3 d [] (some g) none)->qU P f (Jw (jE c f))
 |.hs g=>qU P f (sgP g)
 |.hx g=>qU P f (sgP (g 0))/\∀m,yq P (b.at m).pc.cfg->qU P f (sgP (g (m+1)))
 |.hm g=>qU P f (mgP (g 0))/\∀m,yq P (b.at m).pc.cfg->qU P f (mgP (g (m+1)))
 |.il fn=>P.funcs[f]?=some fn
 |.hk g=>qU P f (xgP (g 0))/\∀m,yq P (b.at m).pc.cfg->qU P f (xgP (g (m+1)))
def Tr.prog(P:Program)(b:Tb):Tr->Prop
 |.leaf=>True
 |.node k l r x=>x.prog P b k/\l.prog P b/\r.prog P b
theorem Tr.get_spec{P:Program}{b:Tb}:∀{t:Tr}{f:Nat}{x:En},t.get f=some x->t.ok=true->t.prog P b->x.ok=true/\x.prog P b f
 |.leaf,f,x,h,_,_=>by cases h
 |.node k l r y,f,x,h,a,⟨e,d,c⟩=>by
   simp only[Tr.ok,wc]at a;let⟨j,i,g⟩:=a;simp only[Tr.get]at h;split at h
   .rename_i m;cases h;rw[wn m];exact⟨j,e⟩
   .split at h
    .exact Tr.get_spec h i d
    .exact Tr.get_spec h g c
theorem qAf{a:List Nat}:∀{l:List (List Nat×FI)}{i:FI},qsN a l=some i->(a,i)∈l
 |[],i,h=>by cases h
 |p::r,i,h=>by
   simp only[qsN]at h;split at h
   .rename_i b;cases h;rw[<-qrq b];exact wh ..
   .exact wg _ (qAf h)
theorem qwN.mem{P:Program}{b:Tb}{f:Nat}:∀{l:List (List Nat×FI)}{p:List Nat×FI},qwN P b f l->p∈l->P.funcs[f]?=some p.2.fn/\(∀a,p.2.F 0 a=none)/\(∀m a,p.2.F (m+1) a=b.runP1 m p.2 p.1 a)
 |[],p,_,h=>by cases h
 |q::r,p,⟨g,e,d,c⟩,h=>by
   obtain rfl|h:=wx.1 h
   .exact⟨g,e,d⟩
   .exact qwN.mem c h
theorem qvf{fn:Func}(h:J5 fn=true):fn.body=some (qsC fn):=by
 unfold J5 at h;unfold qsC;cases a:fn.body with
 |none=>rw[a]at h;cases h
 |some c=>rfl
theorem qot{fn:Func}{n:Nat}(h:fnB fn n=true):J5 fn=true/\n<=fn.ntmps:=by
 unfold fnB at h;rw[wc]at h;exact⟨h.1,ky h.2⟩
theorem qLq{P:Program}{d:PC}(w:yq P d.cfg){l:TC}{f:FuncId}{fn:Func}(t:P.funcs[f]?=some fn)(m:J5 fn=true)
  (h:∀n g,l.pf f n=some g->∃c:TC,{c.pc with pur:=d.pur,ld:=d.ld}=d/\c.nt=fn.ntmps/\c.np=0/\g.args.length<=fn.ntmps/\∃N k,∀a,g.fn a=qoy c (qjs c g.res fn.results.toList) N k [.code (qsC fn)] (qfr 0 (qyO g.args a n)) ⟨[],[]⟩):qU P f (Jw (jE l f)):=by
 refine qJu w t m (jE l f) λ ys r b=>?_;unfold jE at b;split at b<;>try cases b
 rename_i g s;split at b<;>try cases b
 rename_i a u;split at b<;>cases b;rename_i v q;let⟨c,e,i,j,y,N,k,x⟩:=h _ g s;refine⟨Qu g.args a (qfu ys),_,c.pc.pur,c.pc.ld,qmv g.args u,λ z p=>p,?_⟩;rw[<-e];exact qQN (qvf m) i j (by rw[qmG];exact y) (qoV g.args a (qfu ys)) (by rw[<-x a];exact q)
theorem Tb.has_pf{b:Tb}{m f:Nat}{a:List Nat}{g:Sig}(h:b.pf m f a=some g):(∃l i,b.tr.get f=some (.pure l)/\qsN a l=some i/\g=⟨i.args,i.res,i.F m⟩)\/(∃d,b.tr.get f=some (.hp d)):=by
 unfold Tb.pf at h;split at h
 .rename_i l c;split at h<;>cases h;exact .inl ⟨l,_,c,‹_›,rfl⟩
 .exact .inr ⟨_,‹_›⟩
 .cases h
theorem Tb.all_ok{P:Program}{b:Tb}(G:P.follows .mixedOrders=true)(Q:∀t d,b.ty t=some d->yO P t=some d)(n:b.tr.ok=true)(k:b.tr.prog P b):∀m,yq P (b.at m).pc.cfg:=by
 have x:∀{c:TC}{g:Sig}{f m:Nat},c.pf=b.pf m->b.tr.get f=some (.hp g)->qU P f (Jw (jE c f)):=by
  intro c g f m T j;refine(Tr.get_spec j n k).2 c λ s=>?_;rw[T];unfold Tb.pf;rw[j]
 have w:∀{m:Nat}{f:Nat},(b.at m).has f=true->(∃l,b.tr.get f=some (.pure l))\/∃g,b.tr.get f=some (.hp g):=by
  intro m f h;have h:b.has f=true:=h;unfold Tb.has at h;split at h
  .exact .inl ⟨_,‹_›⟩
  .exact .inr ⟨_,‹_›⟩
  .cases h
 have B:∀{m:Nat}{f:Nat}{g:qm9},(b.at m).sf f=some g->(∃i,b.tr.get f=some (.st i)/\g=⟨i.args,i.res,i.F m⟩)\/b.tr.get f=some (.hs g)\/∃h,b.tr.get f=some (.hx h)/\g=h m:=by
  intro m f g h;have h:b.sf m f=some g:=h;unfold Tb.sf at h;split at h
  .cases h;exact .inl ⟨_,‹_›,rfl⟩
  .cases h;exact .inr (.inl ‹_›)
  .cases h;exact .inr (.inr ⟨_,‹_›,rfl⟩)
  .cases h
 have C:∀{m:Nat}{f:Nat}{g:qrG},(b.at m).mf f=some g->∃h,b.tr.get f=some (.hm h)/\g=h m:=by
  intro m f g h;have h:b.mf m f=some g:=h;unfold Tb.mf at h;split at h
  .cases h;exact⟨_,‹_›,rfl⟩
  .cases h
 have A:∀{m:Nat}{f:Nat}{g:qtV},(b.at m).xf f=some g->∃h,b.tr.get f=some (.hk h)/\g=h m:=by
  intro m f g h;have h:b.xf m f=some g:=h;unfold Tb.xf at h;split at h
  .cases h;exact⟨_,‹_›,rfl⟩
  .cases h
 have D:∀{m f:Nat}{fn:Func},(b.at m).inl f=some fn->P.funcs[f]?=some fn/\J5 fn=true:=by
  intro m f fn h;have h:b.inl f=some fn:=h;unfold Tb.inl at h;split at h<;>cases h;have:=Tr.get_spec (by assumption) n k;exact⟨this.2,this.1⟩
 have q:∀{f:Nat}{l:List (List Nat×FI)},b.tr.get f=some (.pure l)->∃fn,P.funcs[f]?=some fn/\J5 fn=true/\∀s i,qsN s l=some i->i.fn=fn/\i.args.length<=fn.ntmps/\(∀a,i.F 0 a=none)/\∀m a,i.F (m+1) a=b.runP1 m i s a:=by
  intro f l u;let⟨y,v⟩:=Tr.get_spec u n k;let⟨v,z⟩:=v;have y:=wv.1 (show l.all _=true from y);cases l with
  |nil=>exact absurd rfl z
  |cons p r=>
    refine⟨p.2.fn,(v.mem (wh ..)).1,(qot (y p (wh ..))).1,λ s i H=>?_⟩;have G:=qAf H;let⟨e1,W,V⟩:=v.mem G;have X:=(v.mem (wh ..)).1;rw[X]at e1;have R:p.2.fn=i.fn:=kQ e1;refine⟨R.symm,?_,W,V⟩;rw[R];exact(qot (y _ G)).2
 intro m
 induction m with
 |zero=>
   refine qIO G Q (λ f I=>?_) (λ f g j=>?_) (λ f g j=>?_) (λ f g j=>?_) λ f fn h=>D h
   .obtain⟨l,u⟩|⟨g,j⟩:=w I
    .let⟨fn,O,N,M⟩:=q u;refine qJB (QP O N) λ s g a h=>?_;have h:b.pf 0 f s=some g:=h;obtain⟨S,i,o,L,rfl⟩|⟨U,o⟩:=Tb.has_pf h
     .rw[u]at o;cases o;exact(M s i L).2.2.1 a
     .rw[u]at o;cases o
    .exact x rfl j
   .obtain⟨i,H,rfl⟩|e:=B j
    .let⟨y,v,z,_⟩:=Tr.get_spec H n k;exact qo0 (QP v (qot y).1) z
    .obtain e|⟨h,e,rfl⟩:=e
     .exact(Tr.get_spec e n k).2
     .exact(Tr.get_spec e n k).2.1
   .obtain⟨h,e,rfl⟩:=C j;exact(Tr.get_spec e n k).2.1
   .obtain⟨h,e,rfl⟩:=A j;exact(Tr.get_spec e n k).2.1
 |succ m E=>
   refine qIO G Q (λ f I=>?_) (λ f g j=>?_) (λ f g j=>?_) (λ f g j=>?_) λ f fn h=>D h
   .obtain⟨l,u⟩|⟨g,j⟩:=w I
    .let⟨fn,O,N,M⟩:=q u;refine qLq E O N λ s g h=>?_;have h:b.pf (m+1) f s=some g:=h;obtain⟨S,i,o,L,rfl⟩|⟨U,o⟩:=Tb.has_pf h
     .rw[u]at o;cases o;obtain⟨rfl,K,_,J⟩:=M s i L;exact⟨b.tc m i.loop i.fn.ntmps 0 i.ld,rfl,rfl,rfl,K,qwf,m+1,λ a=>J m a⟩
     .rw[u]at o;cases o
    .exact x rfl j
   .obtain⟨i,H,rfl⟩|e:=B j
    .let⟨y,v,_,J⟩:=Tr.get_spec H n k;let⟨z,K⟩:=qot y;exact qKX (c:=b.tc m i.loop i.fn.ntmps (qCe i.args) i.ld) (E.pur _ _) v z (qvf z) rfl _ rfl K ⟨qwf,m+1,λ a=>J m a⟩
    .obtain e|⟨h,e,rfl⟩:=e
     .exact(Tr.get_spec e n k).2
     .exact(Tr.get_spec e n k).2.2 m E
   .obtain⟨h,e,rfl⟩:=C j;exact(Tr.get_spec e n k).2.2 m E
   .obtain⟨h,e,rfl⟩:=A j;exact(Tr.get_spec e n k).2.2 m E
def okP(b:Tb)(c:List Nat)(i:FI):Prop:=∀m a,i.F (m+1) a=b.runP1 m i c a
def okS(b:Tb)(i:SI):Prop:=∀m a,i.F (m+1) a=b.runS1 m i a
theorem nP{P:Program}{b:Tb}{k:Nat}{c:List Nat}{i:FI}{l r:Tr}(h:P.funcs[k]?=some i.fn)(g:okP b c i)(e:l.prog P b)(d:r.prog P b)(f:∀a,i.F 0 a=none:=by exact λ _=>rfl):(Tr.node k l r (.pure [(c,i)])).prog P b:=⟨⟨⟨h,f,g,trivial⟩,vp _ _⟩,e,d⟩
theorem nS{P:Program}{b:Tb}{k:Nat}{i:SI}{l r:Tr}(h:P.funcs[k]?=some i.fn)(g:okS b i)(d:l.prog P b)(c:r.prog P b)(e:∀a,i.F 0 a=none:=by exact λ _=>rfl):(Tr.node k l r (.st i)).prog P b:=⟨⟨h,e,g⟩,d,c⟩
abbrev eP(i:FI):En:=.pure [([],i)]
abbrev eS(i:SI):En:=.st i
abbrev tL(k:Nat)(x:En):Tr:=.node k .leaf .leaf x
abbrev vI:=TV.i .i64
abbrev vT(l:List T):=TV.sl .term l 1
section
variable {A B C D E F R:Type}
abbrev u0(f:Nat->R):Nat->Unit->R:=λ m _=>f m
abbrev u1(f:Nat->A->R):Nat->A×Unit->R:=λ m x=>f m x.1
abbrev u2(f:Nat->A->B->R):Nat->A×B×Unit->R:=λ m x=>f m x.1 x.2.1
abbrev u3(f:Nat->A->B->C->R):Nat->A×B×C×Unit->R:=λ m x=>f m x.1 x.2.1 x.2.2.1
abbrev u4(f:Nat->A->B->C->D->R):Nat->A×B×C×D×Unit->R:=λ m x=>f m x.1 x.2.1 x.2.2.1 x.2.2.2.1
abbrev u5(f:Nat->A->B->C->D->E->R):Nat->A×B×C×D×E×Unit->R:=λ m x=>f m x.1 x.2.1 x.2.2.1 x.2.2.2.1 x.2.2.2.2.1
end
theorem Tb.prim{P:Program}{b:Tb}(h:∀m,yq P (b.at m).pc.cfg)(m:Nat){f:Nat}(a:b.has f=true):qU P f (Jw (jE (b.at m) f)):=by
 refine(h m).prim f _ ?_;show PC.prim _ f=_;unfold PC.prim
 have:(b.at m).pc.pf f=some (jE (b.at m) f):=by
  show(match(b.at m).has f with|true=>some (jE (b.at m) f)|false=>none)=_;rw[show(b.at m).has f=true from a]
 rw[this]
end Go.AmZ
namespace Go.AmZ
open Go Go.RowKit Go.GxZ Go.Sort Go.Proofs Go.Shelf
def bare(Γ:Gh):Gh:={Γ with nb:=0,nr:=0}
theorem Rep.bare{Γ:Gh}{x:AV}{u:Value}(h:Rep Γ x u)(m:qu x=true):Rep (bare Γ) x u:=by
 induction h with
 |v x h=>exact .v x h
 |sl k es f a n cap b o us p t s r c y w q z l=>exact .sl k es f a n cap b o us p t s r c y w q (λ i e j x g d=>l i e j x g d (c e (wb g) x (wb d)))
 |_=>simp[qu]at m
theorem Inv.bare{Γ:Gh}{σ:St}{w w':World}(h:Inv Γ σ w)(d:∀b o u,Γ.mem b o=some u->w'.cell? ⟨b,o,none⟩=some u):Inv (bare Γ) emp w' where
 nb:=rfl
 nr:=rfl
 mem:=λ b o u e=>⟨d b o u e,(h.mem b o u e).2⟩
 box:=λ i cs e=>by cases e
 inj:=λ i j a=>absurd a (wK _)
 boxmem:=λ i a=>absurd a (wK _)
 row:=λ r R e=>by cases e
 apart:=λ r f c=>absurd c (wK _)
structure qLK (w w':World):Prop where
 os:w'.os=w.os
 tape:w'.tape=w.tape
 output:w'.output=w.output
 size:w.heap.size<=w'.heap.size
 block:∀b,b<w.heap.size->w'.heap[b]?=w.heap[b]?
 drawn:w.drawn<=w'.drawn
theorem qzL:∀(τ:Ty) (v:Val τ),Qm τ (yQ τ v)=some v:=by
 intro τ v;have h:=jY τ v;cases τ<;>exact h
theorem qrm:∀(ts:List Ty) (a:qbC (ts.map ATy.val)),qdD (ts.map ATy.val) (Qu (ts.map ATy.val) a [])=some a/\qfu (Qu (ts.map ATy.val) a [])=[]
 |[],_=>⟨rfl,rfl⟩
 |τ::r,a=>by
   let⟨d,c⟩:=qrm r a.2;constructor
   .show qnv (Qm τ) (qdD (r.map ATy.val)) (yQ τ a.1::Qu (r.map ATy.val) a.2 [])=_;simp only[qnv,qzL,d];rfl
   .show qfu (yQ τ a.1::Qu (r.map ATy.val) a.2 [])=[];have:=(qcC (qzL τ a.1)).2;cases b:yQ τ a.1<;>first|exact c|exact absurd b (this _ _)
def Fn2(P:Program)(g:FuncId)(τ:Ty){a:Type}(enc:a->Value)(F:Val τ->Val τ->Option a):Prop:=
 qgs P g/\∀{Γ:Gh}{w:World}{x y:Val τ}{u v:Value}{c:a},Inv Γ emp w->Rep Γ (yQ τ x) u->Rep Γ (yQ τ y) v->F x y=some c->Calls P g #[u,v] w λ e w'=>e=.returned (enc c)/\qLK w w'
theorem qDk{P:Program}{g:FuncId}{c:TC}{τ ρ:Ty}(o:qU P g (Jw (jE c g))){F:Val τ->Val τ->Option (qeu [ρ])}(z:c.pf g []=some ⟨[.val τ,.val τ],[ρ],λ x=>F x.1 x.2.1⟩){enc:qeu [ρ]->Value}(A:∀v,zV (qav [ρ] v)=.v (enc v)):Fn2 P g τ enc F:=by
 refine⟨o.1,λ{Γ w x y u v p} m a q B=>?_⟩;let⟨E,D⟩:=qrm [τ,τ] (x,y,())
 have t:jE c g [yQ τ x,yQ τ y]=some (.v (enc p)):=by
  show jE c g (Qu ([τ,τ].map ATy.val) (x,y,()) [])=_;unfold jE;rw[D,z];simp only;have n:qdD [ATy.val τ,ATy.val τ] (Qu ([τ,τ].map ATy.val) (x,y,()) [])=some (x,y,()):=E;rw[n];simp only;rw[B];simp only;rw[A]
 have j:Jw (jE c g) emp [yQ τ x,yQ τ y]=some (.v (enc p),none):=by
  show(match jE c g [yQ τ x,yQ τ y]with|some v=>some (v,none)|none=>none)=_;rw[t]
 have:=o.2 Γ emp w _ [u,v] _ m (waK a (waK q RepL.nil)) j;refine Calls.mono this ?_;rintro e w' ⟨G,Γ',rfl,a,_,h,_⟩;have s:=zq h;subst s;refine⟨rfl,a.os,a.tape,a.output,a.size,λ b C=>a.block b C ?_,a.drawn⟩;have l:Γ.nb=0:=m.nb;have k:Γ.nr=0:=m.nr;rintro(⟨i,f,_⟩|⟨r,d,_⟩)
 .rw[l]at f;exact absurd f (wK _)
 .rw[k]at d;exact absurd d (wK _)
theorem qyR{P:Program}{b:Tb}{m:Nat}(h:yq P (b.at m).pc.cfg){f:Nat}(a:b.has f=true):qU P f (Jw (jE (b.at m) f)):=by
 refine h.prim f _ ?_;show PC.prim _ f=_;unfold PC.prim
 have:(b.at m).pc.pf f=some (jE (b.at m) f):=by
  show(match(b.at m).has f with|true=>some (jE (b.at m) f)|false=>none)=_;rw[show(b.at m).has f=true from a]
 rw[this]
def Js{α:Type}(F:α->α->Option Int)(l:List α)(i j:Nat):Int:=match l[i%l.length]?,l[j%l.length]? with
 |some x,some y=>(F x y).getD 0
 |_,_=>0
def qct{α a:Type}(F:α->α->Option a)(l:List α):Bool:=l.all λ x=>l.all λ y=>(F x y).isSome
def qtR(n:Nat)(lt:Nat->Nat->Bool):Bool:=(List.range n).all λ i => !lt i i&&(List.range n).all λ j=>(List.range n).all λ k=>(!(lt i j&&lt j k)||lt i k)&&(lt i j||(lt j k || !lt i k))
def qa6{α:Type}(F:α->α->Option Int)(l:List α):List Nat:=(Sort.pdq (ltOf (Js F l)) (Array.range l.length) 0 l.length (Lib.bitLen l.length) true true).toList
def pick{α:Type}(l:List α)(a:List Nat):List α:=a.filterMap λ i=>l[i]?
def qo8{α:Type}(F:α->α->Option Int):List α->Option (List α)
 |[]=>some []
 |x::l=>cond (Nat.ble (x::l).length 100000&&(qct F (x::l)&&qtR (x::l).length (ltOf (Js F (x::l))))) (some (pick (x::l) (qa6 F (x::l)))) none
theorem qLp{α:Type}(F:α->α->Option Int)(l:List α)(i j:Nat):Js F l i j=Js F l (i%l.length) (j%l.length):=by
 unfold Js;rw[Nat.mod_mod,Nat.mod_mod]
theorem qQf{n:Nat}{lt:Nat->Nat->Bool}(l:0<n)(e:∀i j,lt i j=lt (i%n) (j%n))(h:qtR n lt=true):SWO lt:=by
 have b:∀i j k,lt i i=false/\(lt i j=true->lt j k=true->lt i k=true)/\(lt i j=false->lt j k=false->lt i k=false):=by
  intro i j k;have a:∀i,i%n∈List.range n:=λ i=>k9.2 (xV _ l);have d:=wv.1 h _ (a i);rw[wc]at d;have c:=wv.1 (wv.1 d.2 _ (a j)) _ (a k);rw[wc]at c;rw[e i i,e i j,e j k,e i k];let⟨d,_⟩:=d;let⟨c,g⟩:=c;refine⟨by simpa using d,λ e1 f=>?_,λ e1 f=>?_⟩
  .rw[e1,f]at c;simpa using c
  .rw[e1,f]at g;simpa using g
 exact⟨λ i=>(b i i i).1,λ i j k=>(b i j k).2.1,λ i j k=>(b i j k).2.2⟩
theorem quf{α:Type}{l:List α}:∀{a:List Nat},(∀i∈a,i<l.length)->∀(q:Nat),(pick l a)[q]?=(a[q]?).bind λ i=>l[i]?
 |[],_,q=>by simp[pick]
 |i::a,h,q=>by
   have b:=h i (wh ..)
   have e:pick l (i::a)=l[i]::pick l a:=by
    unfold pick;rw[vw,List.getElem?_eq_getElem b]
   rw[e];cases q with
   |zero=>simp[List.getElem?_eq_getElem b]
   |succ q=>simpa using quf (λ j c=>h j (wg _ c)) q
theorem qpq{α:Type}{l:List α}{a:List Nat}(h:∀i∈a,i<l.length):(pick l a).length=a.length:=by
 induction a with
 |nil=>rfl
 |cons i a b=>
   have d:=h i (wh ..)
   have e:pick l (i::a)=l[i]::pick l a:=by
    unfold pick;rw[vw,List.getElem?_eq_getElem d]
   rw[e,wy,wy,b λ j c=>h j (wg _ c)]
theorem qtw{α : Type}(F : α -> α -> Option Int)(l:List α)(h:SWO (ltOf (Js F l))):(qa6 F l).Perm (List.range l.length)/\SortedIn (ltOf (Js F l)) 0 l.length (qa6 F l).toArray:=by
 have hp:=pdq_sorts (ltOf (Js F l)) h (Array.range l.length) 0 l.length (Lib.bitLen l.length) true true (we _) (by simp) (Or.inl rfl);obtain⟨⟨h1,_,h3⟩,h4⟩:=hp;have hsz:(Array.range l.length).size=l.length:=vP;have hs':(Sort.pdq (ltOf (Js F l)) (Array.range l.length) 0 l.length (Lib.bitLen l.length) true true).size=l.length:=h1.trans hsz;have e2:∀ a:Array Nat,a.size=l.length->a.extract 0 l.length=a := λ a ha=>by rw[<- ha];exact Array.extract_size
 rw[e2 _ hs',e2 _ hsz]at h3;refine⟨?_,h4⟩;rw[Array.toList_range]at h3;exact h3
theorem qGB{σ:St}{g:Nat}{r:List SA}{nb c:Nat}{ys:List AV}{a:QG (.clo g 0::r)}(h:dS σ (.clo g 0::r) nb c ys=some a):∃b,ys=.fn g []::b/\dS σ r nb c b=some a:=by
 cases ys with
 |nil=>simp[dS]at h
 |cons y ys=>
   simp only[dS]at h;split at h
   .rename_i cs d;obtain⟨rfl,e⟩:=qGj d;obtain rfl:=wi e;exact⟨ys,rfl,h⟩
   .cases h
end Go.AmZ
namespace Go.AmZ
open Go Go.RowKit Go.GxZ Go.Sort Go.Proofs Go.Shelf
structure qLd (w0:World) (blk:Nat) (et:TypeId) (vs:Array Value) (W:World):Prop where
 hb:W.heap[blk]?=some (.cells vs et (0,0))
 os:W.os=w0.os
 tape:W.tape=w0.tape
 output:W.output=w0.output
 size:w0.heap.size<=W.heap.size
 other:∀b,b<w0.heap.size->b≠blk->W.heap[b]?=w0.heap[b]?
 drawn:w0.drawn<=W.drawn
theorem qLd.refl{w:World}{a:Nat}{b:TypeId}{vs:Array Value}(h:w.heap[a]?=some (.cells vs b (0,0))):qLd w a b vs w:=⟨h,rfl,rfl,rfl,wa _,λ _ _ _=>rfl,wa _⟩
theorem sort_blks{w:World}{blk:Nat}{et:TypeId}{vs:Array Value}(hb:w.heap[blk]?=some (.cells vs et (0,0))){α : Type}[Inhabited α](enc : α -> List Value)(k m:Nat)(dk:Array α)(os:Array Obj) :
  qLd w blk et (putCells id 0 (flatK enc k dk) vs) (sortWorldK enc k w blk 0 m dk os):=by
 have hlt:blk<w.heap.size:=(Array.getElem?_eq_some_iff.1 hb).1;have hh:(sortWorldK enc k w blk 0 m dk os).heap=w.heap.modify blk (onCells (putCells id 0 (flatK enc k dk)))++os:=rfl;refine⟨?_,rfl,rfl,rfl,?_,λ b hb' hn=>?_,kK _ _⟩
 ·rw[hh,Array.getElem?_append_left (by simpa using hlt),Array.getElem?_modify,if_pos rfl,hb];rfl
 ·rw[hh,xK,Array.size_modify];exact kK _ _
 ·rw[hh,Array.getElem?_append_left (by simpa using hb'),Array.getElem?_modify,if_neg (xT hn)]
theorem qLK.grow{W w':World}(h:qLK W w'):∃q a,w'=Sort.grow (W.drewN q) a:=by
 refine⟨w'.drawn-W.drawn,w'.heap.extract W.heap.size w'.heap.size,?_⟩
 have c:w'.heap=W.heap++w'.heap.extract W.heap.size w'.heap.size:=by
  apply Array.ext_getElem?;intro i;by_cases b:i<W.heap.size
  .rw[Array.getElem?_append_left b];exact h.block i b
  .rw[Array.getElem?_append_right (by omega),Array.getElem?_extract];split
   .congr 1;omega
   .rw[Array.getElem?_eq_none (by omega)]
 have d:W.drawn+(w'.drawn-W.drawn)=w'.drawn:=Nat.add_sub_cancel' h.drawn;let⟨g,f,e,_,_,_⟩:=h;cases w';cases W;simp only[Sort.grow,World.drewN]at *;rw[<-c,d,g,f,e]
def qb4(vs:Array Value)(k p:Nat):List Value:=(vs.toList.drop (p*k)).take k
theorem qoD{vs:Array Value}{k p j:Nat}(a:j<k):(qb4 vs k p)[j]?=vs[p*k+j]?:=by
 unfold qb4;rw[List.getElem?_take,if_pos a,List.getElem?_drop,Array.getElem?_toList]
theorem qt3{vs:Array Value}{k p n:Nat}(a:p<n)(b:n*k<=vs.size):(qb4 vs k p).length=k:=by
 unfold qb4;have:(p+1)*k<=n*k:=wu _ a;rw[kT]at this;rw[wm,wS,wM];omega
theorem qEn{Γ:Gh}{τ:Ty}{c:List (List AV)}{l:List (Val τ)}{vs:Array Value}{n:Nat}(v:c.length=n)(B:∀e∈c,e.length=τ.size)(w:zj (qE τ) c=some l)(C:yP Γ τ.size c (vs.toList.take (n*τ.size)))(A:n*τ.size<=vs.size)
  {p:Nat}{x:Val τ} (t:l[p]?=some x):RepL Γ (qd τ x) (qb4 vs τ.size p)/\∀u∈qb4 vs τ.size p,u.oneCell'=true:=by
 have o:l.length=n:=(zf w).symm.trans v;have h:p<n:=by rw[<-o];exact getElem?_lt t
 have b:p<c.length:=by rw[v];exact h
 let⟨x',g,r⟩:=JO w (List.getElem?_eq_getElem b);rw[t]at g;cases g;have f:=B _ (wX b);have a:=qt3 (k:=τ.size) h A
 have get:∀j,j<τ.size->∃u,(qb4 vs τ.size p)[j]?=some u/\Rep Γ (c[p][j]?.getD .dead) u/\u.oneCell'=true:=by
  intro j d;have i:j<c[p].length:=by rw[f];exact d
  let⟨u,u1,u2,u3⟩:=C p c[p] j _ (List.getElem?_eq_getElem b) (List.getElem?_eq_getElem i);refine⟨u,?_,?_,u3⟩
  .rw[qoD d,<-Array.getElem?_toList];rw[List.getElem?_take]at u1;split at u1
   .exact u1
   .cases u1
  .rw[List.getElem?_eq_getElem i];exact u2
 constructor
 .refine(qkz r).rep ⟨by rw[a,f],λ j y u s m=>?_⟩;have d:j<τ.size:=by rw[<-f];exact getElem?_lt s
  let⟨z,u1,u2,_⟩:=get j d;rw[m]at u1;cases u1;rw[s]at u2;exact u2
 .intro u m;let⟨j,d⟩:=List.getElem?_of_mem m;have q:j<τ.size:=by rw[<-a];exact getElem?_lt d
  let⟨z,u1,_,u3⟩:=get j q;rw[d]at u1;cases u1;exact u3
theorem qo2(j k n:Nat)(h:j<n*k):j/k<n/\j/k*k+j%k=j/\j%k<k:=by
 have b:0<k:=by
  obtain a|a:=vA k
  .rw[a,Nat.mul_zero]at h;exact absurd h (wK _)
  .exact a
 refine⟨(vb b).2 h,?_,xV _ b⟩;rw[xN];exact vy j k
set_option maxHeartbeats 1000000 in
theorem qzf{P:Program}{ρ : Ren}(L:SlLaysF0.n6 P ρ){τ : Ty}{g:FuncId}(hag:∀ v,yQ τ v = .agg (qd τ v))(aE:∀ w,(isAgg (ρ.t 24)).run P w = .ok true w)(zE:∀ w,(Go.sizeOf (ρ.t 24)).run P w = .ok τ.size w)
  {F:Val τ -> Val τ -> Option Int} (hF:Fn2 P g τ (λ c:Int => .int .i64 c) F) (hf:qgs P (ρ.f 6)) {fn:List (Val τ)->Option (List (Val τ))} (hfn:∀ l r,fn l=some r->qo8 F l=some r) (hk1' : τ.size≠1:=by first | assumption | decide) :
  qU P (ρ.f 6) (mgP ⟨τ,[.clo g 0],λ x=>fn x.1⟩):=by
 refine⟨hf,λ Γ σ w args vals r hi hr hp=>?_⟩;unfold mgP at hp;split at hp
 case h_2=>cases hp
 rename_i x hx;split at hp
 case h_2=>cases hp
 rename_i v hv;split at hp
 case h_2=>cases hp
 rename_i hlen;obtain⟨l,_⟩:=x;have hv:=hfn _ _ hv;have hlen:v.length=l.length:=wn hlen;obtain⟨y0,ys0,nr,rfl,hy0,hx1⟩:=qvo hx;obtain⟨ys1,rfl,hx2⟩:=qGB (g:=g) (r:=[]) hx1;obtain⟨rfl,hbx,hrw⟩:=qkR hx2;clear hx hx1 hx2;obtain⟨u0,r0,rfl,hu0,hr⟩:=hr.uncons;obtain⟨u1,r1,rfl,hu1,hr⟩:=hr.uncons;have:=hr.nil_inv;subst this
 have hu1:u1 = .func (.func g) #[] #[]:=by
  cases hu1 with
  | fn _ _ us hn _=>obtain rfl:=wi hn;rfl
 subst hu1;have hb0 : σ.bx=[]:=wi hbx.symm;have none0:∀(p:Option Addr) (cap:Nat),Calls P (ρ.f 6) #[.slice p 0 cap,.func (.func g) #[] #[]] w λ e w'=>e = .returned (.tuple #[])/\w'=w := λ p cap=>AnyF.slices_SortFunc_none L p cap _ w;have tup:∀ Γ,Rep Γ (.tup []) (.tuple #[]) := λ Γ => .tup [] [] rfl (λ i x u h=>by cases h);rcases qgW hy0 with⟨hnr,R,rfl,hR,hRk,hRf,hRd⟩ | ⟨hnr,hl0,hy⟩
 ·have hrw1 : σ.rw=[R]:=by
    rw[hnr]at hrw
    match hq : σ.rw,hrw with
    | [Q],_=>rw[hq]at hR;cases hR;rfl
  rw[hb0,hrw1]at hp;cases hp;have H:=hi.row 0 R hR;have hcl:R.c.length=l.length:=zf hRd;have hlk:∀ e∈R.c,e.length = τ.size := λ e he=>(H.len e he).trans hRk
  have qpx:qO { σ with wr:=[],wrr:=[] } ⟨[],[⟨R.k,v.map (qd τ),R.ver,R.fz,R.off⟩],[],[0]⟩ :=
   ⟨by show σ.bx.length<=0;rw[hb0];exact wa _,by show σ.rw.length<=1;rw[hrw1];exact wa _,λ i hi _=>(by have hi:i < σ.bx.length:=hi;rw[hb0]at hi;exact absurd hi (wK _)),λ i hi hn=>(by
    have hi:i < σ.rw.length:=hi;rw[hrw1]at hi;have hi:i<1:=hi;obtain rfl:i=0:=by omega
    exact absurd (wF.2 rfl) hn),λ i h=>(by cases h),λ i h=>(by cases h)⟩
  obtain⟨p,cap,rfl,hcap,hrm⟩:=qyN hi hR hRk hRf hu0;by_cases hl0:l=[]
  ·subst hl0;have hc0:R.c=[]:=wi hcl;have hv0:v=[]:=wi hlen;subst hv0;rw[hcl];refine(none0 p cap).mono ?_;rintro e w' ⟨rfl,rfl⟩;refine⟨_,Γ,rfl,.refl _ _,?_,tup _,qpx⟩
   have:(⟨[],[⟨R.k,([]:List (Val τ)).map (qd τ),R.ver,R.fz,R.off⟩],[],[0]⟩:St)=⟨[],[R],[],[0]⟩:=by
    show(⟨[],[⟨R.k,[],R.ver,R.fz,R.off⟩],[],[0]⟩:St)=_;rw[<- hc0]
   show Inv Γ ⟨[],[⟨R.k,([]:List (Val τ)).map (qd τ),R.ver,R.fz,R.off⟩],[],[0]⟩ w';rw[this];exact hi.wr hb0.symm hrw1.symm
  ·have hlpos:0<l.length:=xl.2 hl0;rcases hrm with h0 | ⟨rfl,hz,vs,et,hvs,hvsz,hfit,hca,hxl,h1⟩
   ·omega
   obtain⟨n,hn⟩:∃ n,n=l.length:=⟨_,rfl⟩
   have hnc:R.c.length=n:=hcl.trans hn.symm;rw[hnc]at hca hxl h1 hcap |-
   have hns:n * τ.size<=vs.size:=wE (wu _ hcap) hfit;have hsz0:0 < τ.size:=waI τ
   have hv':Nat.ble l.length 100000=true/\qct F l=true/\qtR l.length (ltOf (Js F l))=true/\v=pick l (qa6 F l):=by
    cases l with
    | nil=>exact absurd rfl hl0
    | cons y l =>
      have hv:cond _ _ _=some v:=hv;cases hb:(Nat.ble (y::l).length 100000&&(qct F (y::l)&&qtR (y::l).length (ltOf (Js F (y::l)))))with
      | false=>unfold qo8 at hv;rw[hb]at hv;cases hv
      | true =>
        have hb':=hb;simp only[wc]at hb';unfold qo8 at hv;rw[hb]at hv;cases hv;exact⟨hb'.1,hb'.2.1,hb'.2.2,rfl⟩
   obtain⟨v1,v2,v3,v4⟩:=hv';have v1:l.length<=100000:=ky v1;have hO:SWO (ltOf (Js F l)):=qQf hlpos (λ i j=>by unfold ltOf;rw[qLp]) v3;obtain⟨hperm,_⟩:=qtw F l hO;have hixlt:∀ i∈qa6 F l,i<l.length := λ i hi=>k9.1 (hperm.mem_iff.1 hi);have hixlen:(qa6 F l).length=l.length:=by rw[hperm.length_eq,xE]
   have hER:∀{q:Nat} {y:Val τ},l[q]?=some y->RepL Γ (qd τ y) (qb4 vs τ.size q)/\∀ u∈qb4 vs τ.size q,u.oneCell'=true := λ hq=>qEn hnc hlk hRd hca hns hq;have hlast:∀ i,i % n<n := λ i=>xV _ (by omega);obtain⟨enc,henc⟩:∃ enc:Nat->List Value,enc = λ i=>qb4 vs τ.size (i % n):=⟨_,rfl⟩
   have hek:∀ i,(enc i).length = τ.size := λ i=>by rw[henc];exact qt3 (hlast i) hns
   have hlget:∀ i,∃ y,l[i % n]?=some y := λ i=>⟨_,List.getElem?_eq_getElem (by rw[<- hn];exact hlast i)⟩
   have he1:∀ i,∀ u∈enc i,u.oneCell'=true := λ i u hu=>by
    rw[henc]at hu;obtain⟨y,hy⟩:=hlget i;exact(hER hy).2 u hu
   have hrange:(Array.range n).size=n:=vP;have hvsb:w.heap[Γ.cur 0]?=some (.cells vs et (0,0)):=hvs;have hblk : Γ.cur 0<w.heap.size:=(Array.getElem?_eq_some_iff.1 hvsb).1;have hmem0:∀ off,Γ.mem (Γ.cur 0) off=none := λ off=>H.un hz off (by rw[hRf.1,kJ,H.off hRf.2];exact we _)
   have hH:HoldsK enc τ.size w (Γ.cur 0) 0 (Array.range n):=by
    intro j hj;rw[size_flatK,hrange]at hj;obtain⟨q1,q2,q3⟩:=qo2 j τ.size n hj;have hjs:j<vs.size:=wC hj hns;constructor
    ·rw[get_flatK _ _ _ _ (by rw[hrange];exact hj)];have e1:(Array.range n)[j / τ.size]! = j / τ.size:=by rw[getElem!_pos _ _ (by rw[hrange];exact q1)];simp
     rw[e1,henc];show _=some ((qb4 vs τ.size (j / τ.size % n))[j % τ.size]!);rw[xP q1];have e2:(qb4 vs τ.size (j / τ.size))[j % τ.size]?=some vs[j]:=by rw[qoD q3,q2];exact Array.getElem?_eq_getElem hjs
     rw[wD,Blk.cell hvs,List.getElem!_eq_getElem?_getD,e2,Array.getElem?_eq_getElem hjs];rfl
    ·exact Blk.free hvs _
   have hcmp:CmpLays P g #[] enc τ.size (Js F l) (Γ.cur 0) 0 (Array.range n).size w:=by
    intro m os dk hdk x y;have B:=sort_blks hvsb enc τ.size m dk os;obtain⟨W,hW⟩:∃ W,W=sortWorldK enc τ.size w (Γ.cur 0) 0 m dk os:=⟨_,rfl⟩
    rw[<- hW]at B |-
    have hiW:Inv (bare Γ) emp W:=hi.bare λ b o u e=>by
     have hne:b ≠ Γ.cur 0 := λ hb=>by rw[hb,hmem0]at e;cases e
     have hc:=(hi.mem b o u e).1;have hblt:=hi.mem_lt e;rw[show W.cell? _=w.cell? _ from World.cell?_of_block (B.other b hblt hne)];exact hc
    have rep:∀(i:Nat) (y:Val τ),l[i % n]?=some y->Rep (bare Γ) (yQ τ y) (.agg (enc i).toArray) := λ i y hy=>by
     obtain⟨q1,q2⟩:=hER hy;rw[hag];have:enc i=qb4 vs τ.size (i % n):=by rw[henc]
     rw[this];refine .agg _ _ q1.len q2 λ j z u a b=>(q1.rep j z u a b).bare (zr τ y z (wb a))
    obtain⟨lx,hx⟩:=hlget x;obtain⟨ly,hy⟩:=hlget y;have hsome:=wv.1 (wv.1 v2 lx (wb hx)) ly (wb hy);obtain⟨c,hc⟩:=wak.1 hsome
    have hcf:Js F l x y=c:=by
     unfold Js;rw[<- hn,hx,hy];simp only;rw[hc];rfl
    rw[hcf];have hcall:=hF.2 hiW (rep x lx hx) (rep y ly hy) hc;refine Calls.mono (by simpa using hcall) ?_;rintro e w' ⟨rfl,hid⟩;exact⟨rfl,hid.grow⟩
   have hcall:=AnyQ.slices_SortFunc_eq L τ.size aE zE enc hek he1 (Js F l) hO g #[] (Γ.cur 0) 0 cap (Array.range n) w (λ args w=>qir hF.1 args w) hcmp hH hblk (by rw[hrange];omega);rw[hrange]at hcall;refine Calls.mono hcall ?_;rintro e w' ⟨rfl,m,os,hw'⟩;have B:=sort_blks hvsb enc τ.size m (pdq (ltOf (Js F l)) (Array.range n) 0 n (Lib.bitLen n) true true) os;rw[<- hw']at B;have hix:qa6 F l=(pdq (ltOf (Js F l)) (Array.range n) 0 n (Lib.bitLen n) true true).toList:=by unfold qa6;rw[hn]
   obtain⟨dk,hdk⟩:∃ dk,dk=pdq (ltOf (Js F l)) (Array.range n) 0 n (Lib.bitLen n) true true:=⟨_,rfl⟩
   rw[<- hdk]at B hix;have hdks:dk.size=n:=by rw[<- wM,<- hix,hixlen,hn]
   have hvlen:(v.map (qd τ)).length=n:=by rw[wB,hlen,hn]
   have hflat:(flatK enc τ.size dk).size=n * τ.size:=by rw[size_flatK,hdks]
   have hpsz:(putCells id 0 (flatK enc τ.size dk) vs).size=vs.size:=by unfold putCells;rw[wad]
   obtain⟨Γ',x1,x2,_⟩:=quS hi hR (H.off hRf.2) (R':=⟨R.k,v.map (qd τ),R.ver,R.fz,R.off⟩) (by rw[hRf.1];exact we _) rfl (g := Γ.cur 0) (vs:=putCells id 0 (flatK enc τ.size dk) vs) (e:=et) (.inr ⟨rfl,rfl,hpsz.trans hvsz⟩)
    (λ e he=>by obtain⟨y,_,rfl⟩:=wA.1 he;rw[yi,hRk]) (λ e he=>by obtain⟨y,_,rfl⟩:=wA.1 he;exact zr τ y) (by show R.fz<=_;rw[hRf.1];exact we _) (qBl _) (λ _=>rfl) B.hb
    (by show(v.map (qd τ)).length*R.k<=_;rw[hvlen,hRk,hpsz];exact hns)
    (λ off _=>hmem0 off)
    (λ i e j x he hx=>by
     have he:(v.map (qd τ))[i]?=some e:=he;have hin:i<n:=by rw[<- hvlen];exact getElem?_lt he
     rw[List.getElem?_map,v4,quf hixlt]at he;have hixi:(qa6 F l)[i]?=some dk[i]:=by rw[hix,Array.getElem?_toList];exact Array.getElem?_eq_getElem (by omega)
     rw[hixi]at he
     obtain⟨y,hy,rfl⟩:∃ y,l[dk[i]]?=some y/\qd τ y=e:=by
      cases hq:l[dk[i]]? with
      | none=>simp[hq]at he
      | some y=>simp[hq]at he;exact⟨y,rfl,he⟩
     have hdl:dk[i]<n:=wC (getElem?_lt hy) (vD hn.symm);obtain⟨q1,q2⟩:=hER hy;have hj:j < τ.size:=by rw[<- yi τ y];exact getElem?_lt hx
     obtain⟨u,hu,hrep⟩:=q1.get hx;refine⟨u,?_,hrep,q2 u (wb hu)⟩;rw[hRk]
     have hlt:i * τ.size+j<n * τ.size:=by
      have:(i+1) * τ.size<=n * τ.size:=wu _ hin;rw[kT]at this;omega
     unfold putCells;rw[Array.getElem?_mapIdx,Array.getElem?_eq_getElem (wC hlt hns),kP,if_pos ⟨we _,by rw[hflat,wD];exact hlt⟩,Nat.sub_zero,id,get_flatK _ _ _ _ (by rw[hdks];exact hlt)];have e1:(i * τ.size+j) / τ.size=i:=by rw[xN,Nat.mul_add_div hsz0,Nat.div_eq_of_lt hj,wL]
     have e2:(i * τ.size+j) % τ.size=j:=by rw[xN,Nat.mul_add_mod,xP hj]
     rw[e1,e2,getElem!_pos dk i (by omega),henc];show some ((qb4 vs τ.size (dk[i] % n))[j]!)=_;rw[xP hdl,List.getElem!_eq_getElem?_getD,hu];rfl)
    (λ b o u hm=>by
     have hne:b ≠ Γ.cur 0 := λ hb=>by rw[hb,hmem0]at hm;cases hm
     rw[show w'.cell? _=w.cell? _ from World.cell?_of_block (B.other b (hi.mem_lt hm) hne)];exact(hi.mem b o u hm).1)
    (λ b hb hor=>B.other b hb (hor.elim id λ h0=>absurd h0 hz)) (.inl ⟨rfl,hz⟩) B.os B.tape B.output B.size B.drawn [0]
   refine⟨_,Γ',rfl,x1,?_,tup _,qpx⟩;refine x2.wr ?_ ?_
   ·exact hb0.symm
   ·show[(⟨R.k,v.map (qd τ),R.ver,R.fz,R.off⟩:Row)] = σ.rw.set 0 _;rw[hrw1];rfl
 ·have hrw0 : σ.rw=[]:=by rw[hnr]at hrw;exact wi hrw.symm
  rw[hb0,hrw0]at hp;cases hp
  have hfin:∀(p:Option Addr) (cap:Nat),Ji P Γ σ w (ρ.f 6) [.slice p 0 cap,.func (.func g) #[] #[]] (.tup [],none) := λ p cap=>by
   refine(none0 p cap).mono ?_;rintro e w' ⟨rfl,rfl⟩;exact⟨_,Γ,rfl,.refl _ _,hi,tup _,.refl _⟩
  rcases hy with rfl | ⟨f,rfl,hf2⟩
  ·have hu0:=zq hu0;subst hu0;exact hfin none 0
  ·cases hu0 with
   | sl _ _ _ a n cap b o us hn _ _ _ _ _ _ _ _ =>
     have hn:n=0:=hn;subst hn;exact hfin a cap
end Go.AmZ
namespace Go.Proofs.YtinbdcelmgfniaaGreatDoor
open Go Go.RowKit Go.GxZ Go.Sort Go.Proofs Go.Shelf Go.Lib
def zN(a:Nat->Nat->Bool)(n:Nat):List Nat:=(List.range n).filter λ i=>decide (i=0) || !a i (i-1)
theorem qE9{a:Nat->Nat->Bool}{n:Nat}(h:a n (n-1)=false):zN a (n+1)=zN a n++[n]:=by
 unfold zN;rw[List.range_succ,vF];simp[h]
theorem qtl{a:Nat->Nat->Bool}{n:Nat}(b:0<n)(h:a n (n-1)=true):zN a (n+1)=zN a n:=by
 unfold zN;rw[List.range_succ,vF];have:¬ n=0:=by omega
 simp[h,this]
theorem qv7{b:Nat->Nat->Bool}{n:Nat}(h:∀i,1<=i->i<n->b i (i-1)=false):zN b n=List.range n:=by
 unfold zN;rw[List.filter_eq_self];intro i a;have a:=k9.1 a;by_cases c:i=0
 .simp[c]
 .rw[h i (by omega) a];simp
theorem qEZ{α:Type}[Inhabited α](enc:α->List Value)(k:Nat)(g:∀x,(enc x).length=k)(d:Array α)(i:Nat)(x:α)(h:i<d.size):setMany (flatK enc k d) (i*k) (enc x)=flatK enc k (d.setIfInBounds i x):=by
 refine ext_get! (by simp) λ t a=>?_;rw[size_setMany,size_flatK]at a;rw[get_setMany _ _ _ _ (by rw[size_flatK];exact a),g,get_flatK _ _ _ _ a,get_flatK _ _ _ _ (by simpa using a)]
 have b:0<k:=by
  obtain f|f:=vA k
  .rw[f,Nat.mul_zero]at a;exact absurd a (wK _)
  .exact f
 by_cases c:i*k<=t/\t<i*k+k
 .rw[if_pos c];have e:=(blk_iff k i t b).1 c;rw[e,getElem!_set_same d i x h];congr 1;have:=vy t k;rw[e]at this;have l:k*i=i*k:=xN _ _;omega
 .rw[if_neg c,getElem!_set_other d i _ x λ j=>c ((blk_iff k i t b).2 j)]
theorem qKK{α : Type}[Inhabited α]{w:World}{enc : α -> List Value}{k blk:Nat}(hk:∀ x,(enc x).length=k)(m:Nat)(dk:Array α)(os:Array Obj)(hblk:blk<w.heap.size)(i:Nat)(x : α)(hi:i<dk.size) :
  (sortWorldK enc k w blk 0 m dk os).setCells blk (i*k) (enc x)=sortWorldK enc k w blk 0 m (dk.setIfInBounds i x) os:=by
 have hb:i*k+(enc x).length<=(flatK enc k dk).size:=by
  rw[hk,size_flatK];have:=wu k (show i+1<=dk.size from hi)
  rwa [kT]at this
 unfold sortWorldK;rw[setCells_grow os blk _ _ _ (by rw[size_putRowK];exact hblk)];congr 1;unfold putRowK;have:=setCells_putRow (Sort.ahead w m) blk 0 (enc x) (i*k) (flatK enc k dk) hb;rw[wD]at this;rw[this,qEZ enc k hk dk i x hi]
variable {P:Program}
set_option maxHeartbeats 4000000 in
set_option maxRecDepth 1000000 in
theorem qKo(i:P.funcs[140]?=some Tryz.f140)(a:P.follows .mixedOrders=true)
  (t0:P.underlying 0=some (TypeDesc.tuple #[])) (y:∀w,(isAgg 0).run P w=.ok false w) (o:∀w,(Go.sizeOf 0).run P w=.ok 1 w) (s:∀w,(zeroValue 0).run P w=.ok (Value.tuple #[]) w)
  (u:P.underlying 3=some (TypeDesc.int IntKind.i64)) (x:∀w,(isAgg 3).run P w=.ok false w) (n:∀w,(Go.sizeOf 3).run P w=.ok 1 w) (r:∀w,(zeroValue 3).run P w=.ok (Value.int IntKind.i64 0) w)
  (t:P.underlying 4=some (TypeDesc.bool)) (v:∀w,(isAgg 4).run P w=.ok false w) (m:∀w,(Go.sizeOf 4).run P w=.ok 1 w) (q:∀w,(zeroValue 4).run P w=.ok (Value.bool false) w)
  (h:P.underlying 23=some (TypeDesc.slice 25)) (l:∀w,(isAgg 23).run P w=.ok false w) (c:∀w,(Go.sizeOf 23).run P w=.ok 1 w) (f:∀w,(zeroValue 23).run P w=.ok (Value.slice none 0 0) w)
  (g:P.underlying 29=some (TypeDesc.func #[25,25] #[4] false)) (k:∀w,(isAgg 29).run P w=.ok false w) (b:∀w,(Go.sizeOf 29).run P w=.ok 1 w) (d:∀w,(zeroValue 29).run P w=.ok (Value.nilFunc) w)
  (p:Option Addr) (cap:Nat) (j:Value) (w:World):
  Calls P 140 #[.slice p 0 cap,j] w λ e w'=>e=.returned (.slice p 0 cap)/\w'=w:=by
 go_enter i,Tryz.ntmps140
 go_wp2
 go_ret
 exact⟨rfl,rfl⟩
set_option maxHeartbeats 4000000 in
set_option maxRecDepth 1000000 in
theorem qJx(hF:P.funcs[140]?=some Tryz.f140)(mixed:P.follows .mixedOrders=true)
  (t0:P.underlying 0=some (TypeDesc.tuple #[])) (a0:∀ w,(isAgg 0).run P w = .ok false w) (z0:∀ w,(Go.sizeOf 0).run P w = .ok 1 w) (v0:∀ w,(zeroValue 0).run P w = .ok (Value.tuple #[]) w)
  (t3:P.underlying 3=some (TypeDesc.int IntKind.i64)) (a3:∀ w,(isAgg 3).run P w = .ok false w) (z3:∀ w,(Go.sizeOf 3).run P w = .ok 1 w) (v3:∀ w,(zeroValue 3).run P w = .ok (Value.int IntKind.i64 0) w)
  (t4:P.underlying 4=some (TypeDesc.bool)) (a4:∀ w,(isAgg 4).run P w = .ok false w) (z4:∀ w,(Go.sizeOf 4).run P w = .ok 1 w) (v4:∀ w,(zeroValue 4).run P w = .ok (Value.bool false) w)
  (t22:P.underlying 23=some (TypeDesc.slice 25)) (a22:∀ w,(isAgg 23).run P w = .ok false w) (z22:∀ w,(Go.sizeOf 23).run P w = .ok 1 w) (v22:∀ w,(zeroValue 23).run P w = .ok (Value.slice none 0 0) w)
  (t36:P.underlying 29=some (TypeDesc.func #[25,25] #[4] false)) (a36:∀ w,(isAgg 29).run P w = .ok false w) (z36:∀ w,(Go.sizeOf 29).run P w = .ok 1 w) (v36:∀ w,(zeroValue 29).run P w = .ok (Value.nilFunc) w)
  (k:Nat) (hk0:0<k) (aE:∀ w,(isAgg 25).run P w = .ok true w) (zE:∀ w,(Go.sizeOf 25).run P w = .ok k w) (zv:Value) (vE:∀ w,(zeroValue 25).run P w = .ok zv w) (hzk:zv.cells.size=k) (hz1:∀ n,∀ v∈(Builtin.zeroCells zv.cells n).toList,v.oneCell'=true)
  (w:World) (blk n cap:Nat) (et:TypeId) (vs:Array Value) (q:Nat) (hbk:w.heap[blk]?=some (.cells vs et (0,0))) (hcs:cap*k<=vs.size) (hnc:n<=cap) (hn:n<=100000) (h0n:0<n)
  (enc:Nat->List Value) (hk:∀ x,(enc x).length=k) (h1:∀ x,∀ v∈enc x,v.oneCell'=true) (hH:HoldsK enc k w blk 0 (Array.range n))
  (eg:∀ args w,(callFunc q args).run P w = .ok (.enter q args) w) (ef:Nat->Nat->Bool)
  (heq:∀(m:Nat) (os:Array Obj) (dk:Array Nat),dk.size=n->∀ x y,Calls P q #[.agg (enc x).toArray,.agg (enc y).toArray] (sortWorldK enc k w blk 0 m dk os) λ e w'=>e = .returned (.bool (ef x y))/\∃ q' os',w'=grow ((sortWorldK enc k w blk 0 m dk os).drewN q') os') :
  Calls P 140 #[.slice (some ⟨blk,0,none⟩) n cap,.func (.func q) #[] #[]] w λ e w'=>e = .returned (.slice (some ⟨blk,0,none⟩) (zN ef n).length cap) /\
   ∃(dk:Array Nat) (m:Nat) (os:Array Obj) (new:List Value),dk.size=n/\dk.toList.take (zN ef n).length=zN ef n/\(w'=sortWorldK enc k w blk 0 m dk os\/(new.take ((zN ef n).length*k)=(putCells id 0 (flatK enc k dk) vs).toList.take ((zN ef n).length*k)/\new.length=vs.size/\w'=(sortWorldK enc k w blk 0 m dk os).setRow blk new.toArray)):=by
 have u22:=run_underlying t22;have hblk:blk<w.heap.size:=(Array.getElem?_eq_some_iff.1 hbk).1;have hrs:(Array.range n).size=n:=vP;have HC:Aside _:=heq;have HST:Hid (w=sortWorldK enc k w blk 0 0 (Array.range n) #[]):=by show w=_;unfold sortWorldK;rw[grow_empty];exact(putRowK_self enc k w blk 0 _ hH).symm
 have HH:Hid (HoldsK enc k w blk 0 (Array.range n)):=hH;have HK:Hid (∀ x,(enc x).length=k):=hk;have H1:Hid (∀ x,∀ v∈enc x,v.oneCell'=true):=h1;have HBK:Hid (w.heap[blk]?=some (.cells vs et (0,0))):=hbk;have HVE:Aside _:=vE;have HZ1:Aside _:=hz1;have HZK:=Lib.hid hzk;have HCS:=Lib.hid hcs;clear heq hH hk h1 hbk vE hz1 hzk hcs;have hnz:(n:Int)<=100000:=by omega
 by_cases hn2:n<2
 ·have hn1:n=1:=by omega
  subst hn1;have hci:zN ef 1=[0]:=by unfold zN;simp
  have HCI:=Lib.hid hci;clear hci
  go_enter hF,Tryz.ntmps140
  go_wp2
  go_ret
  rw[HCI.out];exact⟨rfl,Array.range 1,0,#[],[],hrs,by simp,.inl HST.out⟩
 ·have hn2z:¬ ((n:Int)<2):=by omega
  go_enter hF,Tryz.ntmps140
  go_wp2
  go_loopg [5] n (λ g1 vi wr=>∃(i m:Nat) (os:Array Obj),vi = .int .i64 i/\1<=i/\i<=n/\n-i<=g1/\wr=sortWorldK enc k w blk 0 m (Array.range n) os/\Hid (∀ j,1<=j->j<i->ef j (j-1)=false))
  case atStart=>exact⟨1,0,#[],rfl,wa _,by omega,by omega,HST.out,λ j h1 h2=>by omega⟩
  case round =>
   obtain⟨i,m,os,rfl,hi1,hin,hg1,rfl,HE⟩:=hrel;by_cases hlt:i<n
   ·have hltz:(i:Int)<(n:Int):=by omega
    obtain⟨ip,rfl⟩:∃ ip,i=ip+1:=⟨i-1,by omega⟩
    have hwp:IntKind.i64.wrap (ip:Int)=(ip:Int):=by rw[IntKind.wrap_i64];omega
    have jz1:(ip:Int)<(n:Int):=by omega
    have p0:(0:Int)<=(ip:Int)+1:=by omega
    have e0:((ip:Int)+1).toNat=ip+1:=by omega
    have r1:(Array.range n)[ip+1]! = ip+1:=by rw[getElem!_pos _ _ (by rw[hrs];exact hlt)];simp
    have r0:(Array.range n)[ip]! = ip:=by rw[getElem!_pos _ _ (by rw[hrs];omega)];simp
    have hcls:∀ n' os',grow ((sortWorldK enc k w blk 0 m (Array.range n) os).drewN n') os'=sortWorldK enc k w blk 0 (m+n') (Array.range n) (os++os') := λ n' os'=>sortWorldK_grown_c enc k w blk 0 m n' _ os os';have hHc:∀ n' os',HoldsK enc k (grow ((sortWorldK enc k w blk 0 m (Array.range n) os).drewN n') os') blk 0 (Array.range n) := λ n' os'=>by rw[hcls];exact holdsK_sortWorldK_c enc k w blk 0 _ _ _ _ HH.out hblk rfl
    have lj:∀ n' os',Sem.run P (loadCellsFrom ⟨blk,(ip+1)*k,none⟩ 0 k #[]) (grow ((sortWorldK enc k w blk 0 m (Array.range n) os).drewN n') os') = .ok (enc (ip+1)).toArray (grow ((sortWorldK enc k w blk 0 m (Array.range n) os).drewN n') os') := λ n' os'=>by
     have:=HoldsK.cells (hHc n' os') HK.out (i:=ip+1) (by rw[hrs];exact hlt);rw[r1,wD]at this;exact run_loadCellsFrom_list P _ _ _ k (HK.out _) this
    have lp:∀ n' os',Sem.run P (loadCellsFrom ⟨blk,ip*k,none⟩ 0 k #[]) (grow ((sortWorldK enc k w blk 0 m (Array.range n) os).drewN n') os') = .ok (enc ip).toArray (grow ((sortWorldK enc k w blk 0 m (Array.range n) os).drewN n') os') := λ n' os'=>by
     have:=HoldsK.cells (hHc n' os') HK.out (i:=ip) (by rw[hrs];omega);rw[r0,wD]at this;exact run_loadCellsFrom_list P _ _ _ k (HK.out _) this
    have hcg:∀ n' os',Calls P q #[.agg (enc (ip+1)).toArray,.agg (enc ip).toArray] (grow ((sortWorldK enc k w blk 0 m (Array.range n) os).drewN n') os') λ e w'=>e = .returned (.bool (ef (ip+1) ip))/\∃ q os'',w'=grow ((grow ((sortWorldK enc k w blk 0 m (Array.range n) os).drewN n') os').drewN q) os'' := λ n' os'=>by
     rw[hcls];exact HC.out _ _ _ hrs (ip+1) ip
    have CLS:Hid _:=hcls;clear hcls hHc r0 r1;generalize hwq:sortWorldK enc k w blk 0 m (Array.range n) os=wq at lj lp hcg CLS |-
    cases hev:ef (ip+1) ip with
    | false =>
      rw[hev]at hcg
      go_wp2_with fail
      go_quiet_grown (first | (go_at_fn q;refine Calls.grown_of (hcg _ _)))
      go_wp2
      go_roundg (n-(ip+2))
      case measure=>omega
      case rel =>
       refine⟨ip+2,_,_,by go_num,by omega,by omega,by omega,CLS.out nq osq,(show Hid _ from λ j h1 h2=>?_)⟩;by_cases hj:j=ip+1
       ·rw[hj];exact hev
       ·exact HE.out j h1 (by omega)
    | true =>
      rw[hev]at hcg
      go_wp2_with fail
      go_quiet_grown (first | (go_at_fn q;refine Calls.grown_of (hcg _ _)))
      have hcap1:¬ (cap=ip+1):=by omega
      have hcap2:(ip:Int)+1<=(cap:Int):=by omega
      go_wp2
      go_loopg [5,7] n (λ g2 v5 v7 wr2=>∃(b kk m2:Nat) (dk:Array Nat) (os2:Array Obj),v5 = .int .i64 kk/\v7 = .int .i64 b/\1<=b/\ip+1+b<=n/\n-b<=g2/\kk<=ip+b/\dk.size=n/\wr2=sortWorldK enc k w blk 0 m2 dk os2/\Hid (dk.toList.take kk=zN ef (ip+1+b))/\Hid (kk=(zN ef (ip+1+b)).length)/\Hid (∀ j,ip+b<=j->j<n->dk[j]! = j))
      case atStart =>
       have e1:zN ef (ip+1)=List.range (ip+1):=qv7 λ j h1 h2=>HE.out j h1 h2;have e2:zN ef (ip+1+1)=List.range (ip+1):=by rw[qtl (by omega) (by simpa using hev),e1]
       refine⟨1,ip+1,_,Array.range n,_,by go_num,rfl,wa _,by omega,by omega,by omega,hrs,CLS.out nq osq,?_,?_,?_⟩
       ·show _=_;rw[e2,Array.toList_range,List.take_range,kw (by omega)]
       ·show _=_;rw[e2,xE]
       ·intro j _ h2;rw[getElem!_pos _ _ (by rw[hrs];exact h2)];simp
      case round =>
       obtain⟨b,kk,m2,dk,os2,rfl,rfl,hb1,hbn,hg2,hkk,hdk,rfl,HT,HL,HD⟩:=hrel;by_cases hlt2:ip+1+b<n
       ·obtain⟨bp,rfl⟩:∃ bp,b=bp+1:=⟨b-1,by omega⟩
        have hltz2:(bp:Int)+1<((n-(ip+1):Nat):Int):=by omega
        have hltz3:(bp:Int)<((n-(ip+1):Nat):Int):=by omega
        have hwp2:IntKind.i64.wrap (bp:Int)=(bp:Int):=by rw[IntKind.wrap_i64];omega
        have p2:(0:Int)<=(bp:Int)+1:=by omega
        have e2:((bp:Int)+1).toNat=bp+1:=by omega
        have hkn:(kk:Int)<(n:Int):=by omega
        obtain⟨ax,hax⟩:∃ ax,ax=ip+1+(bp+1):=⟨_,rfl⟩
        have hac:(ip+1)*k+(bp+1)*k=ax*k:=by rw[hax,wO (ip+1)]
        have hap:(ip+1)*k+bp*k=(ax-1)*k:=by rw[<- wO];congr 1;omega
        have r1:dk[ax]! = ax:=HD.out ax (by omega) (by omega);have r0:dk[ax-1]! = ax-1:=HD.out (ax-1) (by omega) (by omega);have hcls:∀ n' os',grow ((sortWorldK enc k w blk 0 m2 dk os2).drewN n') os'=sortWorldK enc k w blk 0 (m2+n') dk (os2++os') := λ n' os'=>sortWorldK_grown_c enc k w blk 0 m2 n' dk os2 os';have hHc:∀ n' os',HoldsK enc k (grow ((sortWorldK enc k w blk 0 m2 dk os2).drewN n') os') blk 0 dk := λ n' os'=>by rw[hcls];exact holdsK_sortWorldK_c enc k w blk 0 (Array.range n) dk _ _ HH.out hblk (by rw[hdk,hrs])
        have lj:∀ n' os',Sem.run P (loadCellsFrom ⟨blk,(ip+1)*k+(bp+1)*k,none⟩ 0 k #[]) (grow ((sortWorldK enc k w blk 0 m2 dk os2).drewN n') os') = .ok (enc ax).toArray (grow ((sortWorldK enc k w blk 0 m2 dk os2).drewN n') os') := λ n' os'=>by
         have:=HoldsK.cells (hHc n' os') HK.out (i:=ax) (by rw[hdk];omega);rw[r1,wD,<- hac]at this;exact run_loadCellsFrom_list P _ _ _ k (HK.out _) this
        have lp:∀ n' os',Sem.run P (loadCellsFrom ⟨blk,(ip+1)*k+bp*k,none⟩ 0 k #[]) (grow ((sortWorldK enc k w blk 0 m2 dk os2).drewN n') os') = .ok (enc (ax-1)).toArray (grow ((sortWorldK enc k w blk 0 m2 dk os2).drewN n') os') := λ n' os'=>by
         have:=HoldsK.cells (hHc n' os') HK.out (i:=ax-1) (by rw[hdk];omega);rw[r0,wD,<- hap]at this;exact run_loadCellsFrom_list P _ _ _ k (HK.out _) this
        have hcg:∀ n' os',Calls P q #[.agg (enc ax).toArray,.agg (enc (ax-1)).toArray] (grow ((sortWorldK enc k w blk 0 m2 dk os2).drewN n') os') λ e w'=>e = .returned (.bool (ef ax (ax-1)))/\∃ q os'',w'=grow ((grow ((sortWorldK enc k w blk 0 m2 dk os2).drewN n') os').drewN q) os'' := λ n' os'=>by
         rw[hcls];exact HC.out _ _ _ hdk ax (ax-1)
        have CLS2:Hid _:=hcls;have HHC:Hid _:=hHc;have HAC:=Lib.hid hac;clear hcls hHc hap hac;generalize hwq2:sortWorldK enc k w blk 0 m2 dk os2=wq2 at lj lp hcg CLS2 HHC |-
        have hlA:(enc ax).length=k:=HK.out _;have hA1:∀ v∈enc ax,v.oneCell'=true:=H1.out _;obtain⟨cA,hcA⟩:∃ c,c=enc ax:=⟨_,rfl⟩
        obtain⟨cP,hcP⟩:∃ c,c=enc (ax-1):=⟨_,rfl⟩
        rw[<- hcA]at lj hcg hlA hA1;rw[<- hcP]at lp hcg;have HCA:=Lib.hid hcA;clear hcA hcP;have hT:=HT.out;have hL:=HL.out;rw[show ip+1+(bp+1)=ax from hax.symm]at hT hL;have HAX:=Lib.hid hax;have hax1:0<ax:=by omega
        have hax3:ax<n:=by omega
        clear hax r0 r1;cases hev2:ef ax (ax-1)with
        | true =>
          have hcd:zN ef (ax+1)=zN ef ax:=qtl hax1 hev2;have HT2:Hid (dk.toList.take kk=zN ef (ax+1)):=by show _=_;rw[hcd];exact hT
          have HL2:Hid (kk=(zN ef (ax+1)).length):=by show _=_;rw[hcd];exact hL
          clear hT hL hcd;rw[hev2]at hcg
          go_wp2_with fail
          go_quiet_grown (first | (go_at_fn q;refine Calls.grown_of (hcg _ _)))
          go_wp2
          go_roundg (n-(bp+2))
          case measure=>omega
          case rel =>
           have hax2:ip+1+(bp+2)=ax+1:=by have:=HAX.out;omega
           refine⟨bp+2,kk,_,dk,_,rfl,by go_num,by omega,by omega,by omega,by omega,hdk,CLS2.out nq osq,?_,?_,(show Hid _ from λ j h1 h2=>HD.out j (by omega) h2)⟩
           ·show _=_;rw[hax2];exact HT2.out
           ·show _=_;rw[hax2];exact HL2.out
        | false =>
          have hcd:zN ef (ax+1)=zN ef ax++[ax]:=qE9 hev2;have hdl:kk<dk.toList.length:=by rw[wM,hdk];omega
          have HT2:Hid ((dk.setIfInBounds kk ax).toList.take (kk+1)=zN ef (ax+1)):=by
           show _=_;rw[hcd,<- hT,xw,kC,vu (wa _),List.getElem?_set_self hdl];rfl
          have HL2:Hid (kk+1=(zN ef (ax+1)).length):=by show _=_;rw[hcd,wd,<- hL];rfl
          clear hT hL hcd;rw[hev2]at hcg
          go_wp2_with fail
          go_quiet_grown (first | (go_at_fn q;refine Calls.grown_of (hcg _ _)))
          have hw2:grow (wq2.drewN nq) osq=sortWorldK enc k w blk 0 (m2+nq) dk (os2++osq):=CLS2.out nq osq;have lj2:=lj nq osq;have hHd:=HHC.out nq osq;clear lj lp hcg;generalize grow (wq2.drewN nq) osq=wq3 at hw2 hHd lj2 |-
          have hbd:kk*k+cA.length<=(flatK enc k dk).size:=by
           rw[hlA,size_flatK];have:=wu k (show kk+1<=dk.size by omega)
           rwa [kT]at this
          have s1:Sem.run P (storeCells ⟨blk,kk*k,none⟩ cA 0) wq3 = .ok () (wq3.setCells blk (kk*k) cA):=by
           have:=stores_of_holds P hHd (kk*k) cA hbd hA1
           rwa [wD]at this
          have HW3:Hid (wq3.setCells blk (kk*k) cA=sortWorldK enc k w blk 0 (m2+nq) (dk.setIfInBounds kk ax) (os2++osq)):=by
           show _=_;rw[hw2,HCA.out];exact qKK HK.out (m2+nq) dk (os2++osq) hblk kk ax (by omega)
          clear hw2 hHd hbd
          go_wp2
          go_roundg (n-(bp+2))
          case measure=>omega
          case rel =>
           have hax2:ip+1+(bp+2)=ax+1:=by have:=HAX.out;omega
           refine⟨bp+2,kk+1,_,dk.setIfInBounds kk ax,_,by go_num,by go_num,by omega,by omega,by omega,by omega,by simpa using hdk,HW3.out,?_,?_,(show Hid _ from λ j h1 h2=>?_)⟩
           ·show _=_;rw[hax2];exact HT2.out
           ·show _=_;rw[hax2];exact HL2.out
           ·rw[getElem!_set_other _ _ _ _ (by omega)];exact HD.out j (by omega) h2
       ·obtain rfl:n=ip+1+b:=by omega
        have hW:=(Go.AmZ.sort_blks HBK.out enc k m2 dk os2).hb;have hpsz:(putCells id 0 (flatK enc k dk) vs).size=vs.size:=by unfold putCells;rw[wad]
        have hzl:(Builtin.zeroCells zv.cells (ip+1+b-kk)).toList.length=(ip+1+b-kk)*k:=by rw[wM,size_zeroCells,HZK.out]
        have hsum:kk*k+(ip+1+b-kk)*k=(ip+1+b)*k:=by rw[<- wO];congr 1;omega
        have hle:(ip+1+b)*k<=vs.size:=wE (wu _ hnc) HCS.out;obtain⟨new,hnew⟩:∃ new,new=(putCells id 0 (flatK enc k dk) vs).toList.take (kk*k)++(Builtin.zeroCells zv.cells (ip+1+b-kk)).toList++(putCells id 0 (flatK enc k dk) vs).toList.drop (kk*k+(Builtin.zeroCells zv.cells (ip+1+b-kk)).toList.length):=⟨_,rfl⟩
        have hcl:∀ ty,(Builtin.clear_ #[23] ty #[.slice (some ⟨blk,kk*k,none⟩) (ip+1+b-kk) (cap-kk)]).run P (sortWorldK enc k w blk 0 m2 dk os2) = .ok (.tuple #[]) ((sortWorldK enc k w blk 0 m2 dk os2).setRow blk new.toArray) := λ ty=>by
         rw[hnew];exact qwr _ 23 25 ty zv t22 HVE.out blk (kk*k) (ip+1+b-kk) (cap-kk) (by omega) _ et hW (by rw[hpsz,HZK.out];omega) (HZ1.out _)
        have HN1:Hid (new.take (kk*k)=(putCells id 0 (flatK enc k dk) vs).toList.take (kk*k)):=by
         show _=_;rw[hnew,wj,kM (by rw[wm,wM,hpsz];omega),xM,Nat.min_self]
        have HN2:Hid (new.length=vs.size):=by
         show _=_;rw[hnew];rw[wM]at hzl;simp only[wd,wm,wS,wM,hpsz,hzl];omega
        have hkc:¬ (cap=kk):=by omega
        have hkc2:(kk:Int)<=(cap:Int):=by omega
        have hkn:(kk:Int)<=((ip+1+b:Nat):Int):=by omega
        clear hW hpsz hzl hsum hle hnew;have HW:Hid _:=(⟨dk,m2,os2,rfl⟩:∃(d:Array Nat) (m:Nat) (os:Array Obj),sortWorldK enc k w blk 0 m2 dk os2=sortWorldK enc k w blk 0 m d os)
        generalize hwq2:sortWorldK enc k w blk 0 m2 dk os2=wq2 at hcl |-
        have HWQ:=Lib.hid hwq2;clear hwq2 HW;have HDK:=Lib.hid hdk
        go_wp2_with (simp only[hcl])
        go_ret
        have hL:=HL.out;rw[<- hL];exact⟨rfl,dk,m2,os2,new,HDK.out,HT.out,.inr ⟨HN1.out,HN2.out,by rw[HWQ.out]⟩⟩
   ·obtain rfl:i=n:=by omega
    have hci:zN ef i=List.range i:=qv7 λ j h1 h2=>HE.out j h1 h2;have HCI:=Lib.hid hci;clear hci
    go_wp2
    go_ret
    rw[HCI.out,xE];exact⟨rfl,Array.range i,_,_,[],hrs,by simp,.inl rfl⟩
end Go.Proofs.YtinbdcelmgfniaaGreatDoor
namespace Go.AmZ
open Go Go.RowKit Go.GxZ Go.Sort Go.Proofs Go.Shelf Go.Proofs.YtinbdcelmgfniaaGreatDoor
def qk9{α:Type}(F:α->α->Option Bool)(l:List α)(i j:Nat):Bool:=match l[i%l.length]?,l[j%l.length]? with
 |some x,some y=>(F x y).getD false
 |_,_=>false
def qBt{α:Type}(F:α->α->Option Bool):List α->Option (List α)
 |[]=>some []
 |x::l=>cond (Nat.ble (x::l).length 100000&&qct F (x::l)) (some (pick (x::l) (zN (qk9 F (x::l)) (x::l).length))) none
def qwj{α:Type}(F:α->α->Option Bool)(l:List α):Option (Unit×List α×Unit):=match qBt F l with
 |some a=>some ((),a,())
 |none=>none
theorem qH5{α:Type}{F:α->α->Option Bool}{l:List α}{r:Unit×List α×Unit}(h:qwj F l=some r):∃a,qBt F l=some a/\r=((),a,()):=by
 unfold qwj at h;split at h
 .cases h;exact⟨_,‹_›,rfl⟩
 .cases h
theorem qzS{P:Program}{f:FuncId}{g:qrG}(e:qgs P f)(h:∀a,g.fn a=none):qU P f (mgP g):=by
 refine⟨e,λ Γ σ w d c r j i b=>?_⟩;unfold mgP at b;split at b
 .rw[h]at b;cases b
 .cases b
theorem qz9{b:Nat->Nat->Bool}{n:Nat}:∀i∈zN b n,i<n:=λ i a=>k9.1 (kO.1 a).1
theorem qqP{enc:Nat->List Value}{k:Nat}(a:∀x,(enc x).length=k):∀(l:List Nat) (i j:Nat),j<k->(l.flatMap enc)[i*k+j]?=(l[i]?).bind λ x=>(enc x)[j]?
 |[],i,j,_=>by simp
 |x::l,0,j,b=>by
   rw[xj,kJ,wD,List.getElem?_append_left (by rw[a];exact b)];rfl
 |x::l,i+1,j,b=>by
   rw[xj,List.getElem?_append_right (by rw[a,kT];omega),a];have:(i+1)*k+j-k=i*k+j:=by rw[kT];omega
   rw[this];exact qqP a l i j b
theorem qzK{enc:Nat->List Value}{k:Nat}(a:∀x,(enc x).length=k):∀l:List Nat,(l.flatMap enc).length=l.length*k
 |[]=>by simp
 |x::l=>by rw[xj,wd,a,qzK a l,wy,kT,wax]
theorem qwT{b:Type}{f:List AV->Option b}{es:List (List AV)}{l:List b}(h:zj f es=some l):∀{a:List Nat},(∀i∈a,i<l.length)->zj f (pick es a)=some (pick l a)
 |[],_=>rfl
 |i::a,d=>by
   have e:=d i (wh ..);have n:=zf h
   have e1:pick es (i::a)=es[i]'(by omega)::pick es a:=by
    unfold pick;rw[vw,List.getElem?_eq_getElem (by omega)]
   have m:pick l (i::a)=l[i]::pick l a:=by
    unfold pick;rw[vw,List.getElem?_eq_getElem e]
   let⟨v,c,k⟩:=JO h (List.getElem?_eq_getElem (show i<es.length by omega));rw[List.getElem?_eq_getElem e]at c;cases c;rw[e1,m];exact jg.2 ⟨_,_,k,qwT h λ j g=>d j (wg _ g),rfl⟩
theorem qLr(n:Nat):∀v∈(Builtin.zeroCells (Value.cells (.agg #[.int .i64 0,.string ⟨#[]⟩,.int .i64 0,.slice none 0 0])) n).toList,v.oneCell'=true:=by
 intro v a;unfold Builtin.zeroCells at a;rw[Array.mem_toList_iff]at a;obtain⟨i,_,rfl⟩:=Array.mem_map.1 a;have c:(Value.cells (.agg #[.int .i64 0,.string ⟨#[]⟩,.int .i64 0,.slice none 0 0])).size=4:=rfl;rw[c];have b:i%4<4:=xV _ (by decide);generalize i%4=r at b
 match r,b with
 |0,_|1,_|2,_|3,_=>rfl
set_option maxHeartbeats 1000000 in
theorem qCg{g:FuncId}{F:T->T->Option Bool}(hF:Fn2 Go.Proofs.Tryz.prog g .term (λ b:Bool => .bool b) F){fn:List T->Option (Unit × List T × Unit)}(hfn:∀ l r,fn l=some r->∃ l',qBt F l=some l'/\r=((),l',())) :
  qU Go.Proofs.Tryz.prog 140 (sgP ⟨[.row .term,.clo g 0],[.one (.row .term)],λ x=>fn x.1⟩):=by
 have c0 := λ p cap fv w=>qKo (P:=Go.Proofs.Tryz.prog) Go.Proofs.Tryz.func140 (by kernel_rfl) Go.Proofs.Tryz.underlying0 Go.Proofs.Tryz.isAgg0 Go.Proofs.Tryz.sizeOf0 Go.Proofs.Tryz.zeroValue0 Go.Proofs.Tryz.underlying3 Go.Proofs.Tryz.isAgg3 Go.Proofs.Tryz.sizeOf3 Go.Proofs.Tryz.zeroValue3 Go.Proofs.Tryz.underlying4 Go.Proofs.Tryz.isAgg4 Go.Proofs.Tryz.sizeOf4 Go.Proofs.Tryz.zeroValue4 Go.Proofs.Tryz.underlying23 Go.Proofs.Tryz.isAgg23 Go.Proofs.Tryz.sizeOf23 Go.Proofs.Tryz.zeroValue23 Go.Proofs.Tryz.underlying29 Go.Proofs.Tryz.isAgg29 Go.Proofs.Tryz.sizeOf29 Go.Proofs.Tryz.zeroValue29 p cap fv w
 have cP := λ w blk n cap et vs h1 h2 h3 h4 h5 enc h6 h7 h8 ef h9=>qJx (P:=Go.Proofs.Tryz.prog) Go.Proofs.Tryz.func140 (by kernel_rfl) Go.Proofs.Tryz.underlying0 Go.Proofs.Tryz.isAgg0 Go.Proofs.Tryz.sizeOf0 Go.Proofs.Tryz.zeroValue0 Go.Proofs.Tryz.underlying3 Go.Proofs.Tryz.isAgg3 Go.Proofs.Tryz.sizeOf3 Go.Proofs.Tryz.zeroValue3 Go.Proofs.Tryz.underlying4 Go.Proofs.Tryz.isAgg4 Go.Proofs.Tryz.sizeOf4 Go.Proofs.Tryz.zeroValue4 Go.Proofs.Tryz.underlying23 Go.Proofs.Tryz.isAgg23 Go.Proofs.Tryz.sizeOf23 Go.Proofs.Tryz.zeroValue23 Go.Proofs.Tryz.underlying29 Go.Proofs.Tryz.isAgg29 Go.Proofs.Tryz.sizeOf29 Go.Proofs.Tryz.zeroValue29
  4 (by decide) Go.Proofs.Tryz.isAgg25 Go.Proofs.Tryz.sizeOf25 _ Go.Proofs.Tryz.zeroValue25 rfl qLr w blk n cap et vs g h1 h2 h3 h4 h5 enc h6 h7 h8 (λ args w=>qir hF.1 args w) ef h9
 have hag:∀ v:T,yQ .term v = .agg (qd .term v) := λ _=>rfl;refine⟨QP Go.Proofs.Tryz.func140 (by kernel_rfl),λ Γ σ w args vals r hi hr hp=>?_⟩;unfold sgP at hp;split at hp<;>try cases hp
 rename_i x hx;split at hp<;>cases hp;rename_i v0 hv0;obtain⟨l,_⟩:=x;obtain⟨l',hl',rfl⟩:=hfn _ _ hv0;obtain⟨y0,ys0,nr,rfl,hy0,hx1⟩:=qvo hx;obtain⟨ys1,rfl,hx2⟩:=qGB (g:=g) (r:=[]) hx1;obtain⟨rfl,hbx,hrw⟩:=qkR hx2;clear hx hx1 hx2 hv0 hfn;obtain⟨u0,r0,rfl,hu0,hr⟩:=hr.uncons;obtain⟨u1,r1,rfl,hu1,hr⟩:=hr.uncons;have:=hr.nil_inv;subst this
 have hu1:u1 = .func (.func g) #[] #[]:=by
  cases hu1 with
  | fn _ _ us hn _=>obtain rfl:=wi hn;rfl
 subst hu1;have hb0 : σ.bx=[]:=wi hbx.symm
 have nil0:∀(p:Option Addr),l'=[]->Ji Go.Proofs.Tryz.prog Γ σ w 140 [.slice p 0 0,.func (.func g) #[] #[]] (zV (qag [.one (.row .term)] σ.rw.length (l',())),some ⟨[],σ.rw.map QY++Q6 [.one (.row .term)] (l',()),List.range σ.bx.length,List.range σ.rw.length⟩) := λ p hl=>by
  subst hl;refine(c0 p 0 _ w).mono ?_;rintro e w' ⟨rfl,rfl⟩;obtain⟨Γ2,z1,z2,z3,z4⟩:=qOx (a := .term) hi (.refl _ _) hi hb0 p;exact⟨_,Γ2,rfl,z1,z2,z3,z4⟩
 rcases qgW hy0 with⟨hnr,R,rfl,hR,hRk,hRf,hRd⟩ | ⟨hnr,hl0,hy⟩
 ·have H:=hi.row 0 R hR;have hcl:R.c.length=l.length:=zf hRd;have hlk:∀ e∈R.c,e.length=Ty.size .term := λ e he=>(H.len e he).trans hRk;obtain⟨p,cap,rfl,hcap,hrm⟩:=qyN hi hR hRk hRf hu0;rcases hrm with h0 | ⟨rfl,hz,vs,et,hvs,hvsz,hfit,hca,hxl,h1⟩
  ·have hl0:l=[]:=wi (by omega);have hl2:l'=[]:=by rw[hl0]at hl';cases hl';rfl
   have hrc:R.c.length=0:=by omega
   rw[hrc,h0];exact nil0 p hl2
  ·by_cases hl0:l=[]
   ·have hl2:l'=[]:=by rw[hl0]at hl';cases hl';rfl
    have hrc:R.c.length=0:=by rw[hcl,hl0];rfl
    rw[hrc];subst hl2;refine qkd (a := .term) hi hb0 hR hRk hRf.1 hRf.2 hz (l:=[]) (c:=[]) (xs:=[]) (n:=0) rfl rfl (by intro e he;cases he) (by intro e he;cases he) (λ i e j x h=>by cases h) ?_;refine(c0 _ cap _ w).mono ?_;rintro e w' ⟨rfl,rfl⟩;exact⟨Γ.cur 0,cap,vs,et,rfl,hvs,we _,hfit,by rw[kJ];rfl,.inl ⟨rfl,hvsz⟩,rfl,rfl,rfl,wa _,wa _,λ _ _ _=>rfl⟩
   ·have hlpos:0<l.length:=xl.2 hl0;obtain⟨n,hn⟩:∃ n,n=l.length:=⟨_,rfl⟩
    have hnc:R.c.length=n:=hcl.trans hn.symm;rw[hnc]at hca hxl h1 hcap |-
    have hns:n*Ty.size .term<=vs.size:=wE (wu _ hcap) hfit
    have hv':Nat.ble l.length 100000=true/\qct F l=true/\l'=pick l (zN (qk9 F l) l.length):=by
     cases l with
     | nil=>exact absurd rfl hl0
     | cons y l =>
       replace hl':cond _ _ _=some l':=hl'
       cases hb:(Nat.ble (y::l).length 100000&&qct F (y::l))with
       | false =>
         replace hl':cond (Nat.ble (y::l).length 100000&&qct F (y::l)) _ _=some l':=hl'
         rw[hb]at hl';cases hl'
       | true =>
         replace hl':cond (Nat.ble (y::l).length 100000&&qct F (y::l)) _ _=some l':=hl'
         have hb':=hb;rw[wc]at hb';rw[hb]at hl';cases hl';exact⟨hb'.1,hb'.2,rfl⟩
    obtain⟨v1,v2,v4⟩:=hv';have v1:l.length<=100000:=ky v1;have hER:∀{q:Nat} {y:T},l[q]?=some y->RepL Γ (qd .term y) (qb4 vs (Ty.size .term) q)/\∀ u∈qb4 vs (Ty.size .term) q,u.oneCell'=true := λ hq=>qEn hnc hlk hRd hca hns hq;have hlast:∀ i,i % n<n := λ i=>xV _ (by omega);obtain⟨enc,henc⟩:∃ enc:Nat->List Value,enc = λ i=>qb4 vs (Ty.size .term) (i % n):=⟨_,rfl⟩
    have hek:∀ i,(enc i).length=Ty.size .term := λ i=>by rw[henc];exact qt3 (hlast i) hns
    have hlget:∀ i,∃ y,l[i % n]?=some y := λ i=>⟨_,List.getElem?_eq_getElem (by rw[<- hn];exact hlast i)⟩
    have he1:∀ i,∀ u∈enc i,u.oneCell'=true := λ i u hu=>by
     rw[henc]at hu;obtain⟨y,hy⟩:=hlget i;exact(hER hy).2 u hu
    have hrange:(Array.range n).size=n:=vP;have hvsb:w.heap[Γ.cur 0]?=some (.cells vs et (0,0)):=hvs;have hmem0:∀ off,Γ.mem (Γ.cur 0) off=none := λ off=>H.un hz off (by rw[hRf.1,kJ,H.off hRf.2];exact we _)
    have hH:HoldsK enc (Ty.size .term) w (Γ.cur 0) 0 (Array.range n):=by
     intro j hj;rw[size_flatK,hrange]at hj;obtain⟨q1,q2,q3⟩:=qo2 j (Ty.size .term) n hj;have hjs:j<vs.size:=wC hj hns;constructor
     ·rw[get_flatK _ _ _ _ (by rw[hrange];exact hj)];have e1:(Array.range n)[j / (Ty.size .term)]! = j / (Ty.size .term):=by rw[getElem!_pos _ _ (by rw[hrange];exact q1)];simp
      rw[e1,henc];show _=some ((qb4 vs (Ty.size .term) (j / (Ty.size .term) % n))[j % (Ty.size .term)]!);rw[xP q1];have e2:(qb4 vs (Ty.size .term) (j / (Ty.size .term)))[j % (Ty.size .term)]?=some vs[j]:=by rw[qoD q3,q2];exact Array.getElem?_eq_getElem hjs
      rw[wD,Blk.cell hvs,List.getElem!_eq_getElem?_getD,e2,Array.getElem?_eq_getElem hjs];rfl
     ·exact Blk.free hvs _
    have heq:∀(m:Nat) (os:Array Obj) (dk:Array Nat),dk.size=n->∀ x y,Calls Go.Proofs.Tryz.prog g #[.agg (enc x).toArray,.agg (enc y).toArray] (sortWorldK enc (Ty.size .term) w (Γ.cur 0) 0 m dk os) λ e w'=>e = .returned (.bool (qk9 F l x y))/\∃ q' os',w'=grow ((sortWorldK enc (Ty.size .term) w (Γ.cur 0) 0 m dk os).drewN q') os':=by
     intro m os dk hdk x y;have B:=sort_blks hvsb enc (Ty.size .term) m dk os;obtain⟨W,hW⟩:∃ W,W=sortWorldK enc (Ty.size .term) w (Γ.cur 0) 0 m dk os:=⟨_,rfl⟩
     rw[<- hW]at B |-
     have hiW:Inv (bare Γ) emp W:=hi.bare λ b o u e=>by
      have hne:b ≠ Γ.cur 0 := λ hb=>by rw[hb,hmem0]at e;cases e
      have hc:=(hi.mem b o u e).1;have hblt:=hi.mem_lt e;rw[show W.cell? _=w.cell? _ from World.cell?_of_block (B.other b hblt hne)];exact hc
     have rep:∀(i:Nat) (y:T),l[i % n]?=some y->Rep (bare Γ) (yQ .term y) (.agg (enc i).toArray) := λ i y hy=>by
      obtain⟨q1,q2⟩:=hER hy;rw[hag];have:enc i=qb4 vs (Ty.size .term) (i % n):=by rw[henc]
      rw[this];refine .agg _ _ q1.len q2 λ j z u a b=>(q1.rep j z u a b).bare (zr .term y z (wb a))
     obtain⟨lx,hx⟩:=hlget x;obtain⟨ly,hy⟩:=hlget y;have hsome:=wv.1 (wv.1 v2 lx (wb hx)) ly (wb hy);obtain⟨c,hc⟩:=wak.1 hsome
     have hcf:qk9 F l x y=c:=by
      unfold qk9;rw[<- hn,hx,hy];simp only;rw[hc];rfl
     rw[hcf];have hcall:=hF.2 hiW (rep x lx hx) (rep y ly hy) hc;refine Calls.mono hcall ?_;rintro e w' ⟨rfl,hid⟩;exact⟨rfl,hid.grow⟩
    have hcall:=cP w (Γ.cur 0) n cap et vs hvsb hfit hcap (by omega) (by omega) enc hek he1 hH (qk9 F l) heq;obtain⟨ix,hix⟩:∃ ix,ix=zN (qk9 F l) n:=⟨_,rfl⟩
    rw[<- hix]at hcall;have hixlt:∀ i∈ix,i<n := λ i hi=>by rw[hix]at hi;exact qz9 i hi
    have hixl:∀ i∈ix,i<l.length := λ i hi=>by rw[<- hn];exact hixlt i hi
    have hixc:∀ i∈ix,i<R.c.length := λ i hi=>by rw[hnc];exact hixlt i hi
    have hl'e:l'=pick l ix:=by rw[v4,<- hn,hix]
    have hl'n:l'.length=ix.length:=by rw[hl'e,qpq hixl]
    have pm:∀ e∈pick R.c ix,e∈R.c := λ e he=>by
     unfold pick at he;obtain⟨i,_,h⟩:=kU.1 he;exact wb h
    refine qkd (a := .term) hi hb0 hR hRk hRf.1 hRf.2 hz (l:=l') (c:=pick R.c ix) (xs:=ix.flatMap enc) (n:=ix.length) hl'n.symm (by rw[hl'e];exact qwT hRd hixl) (λ e he=>hlk e (pm e he)) (λ e he=>H.plain e (pm e he)) (λ i e j x h1 h2=>?_) ?_
    ·rw[quf hixc]at h1;cases hp:ix[i]? with
     | none=>rw[hp]at h1;cases h1
     | some p =>
       rw[hp]at h1;have h1:R.c[p]?=some e:=h1;have hj:j<Ty.size .term:=by have:=getElem?_lt h2;rwa [hlk e (wb h1)]at this
       obtain⟨u,u1,u2⟩:=hca p e j x h1 h2;refine⟨u,?_,u2⟩;have hpn:p<n:=hixlt p (wb hp);rw[qqP hek _ _ _ hj,hp];show(enc p)[j]?=some u;rw[henc];show(qb4 vs (Ty.size .term) (p % n))[j]?=some u;rw[xP hpn,qoD hj,<- Array.getElem?_toList];rw[List.getElem?_take]at u1;split at u1
       ·exact u1
       ·cases u1
    ·refine Calls.mono hcall ?_;rintro e w' ⟨rfl,dk,m,os,new,hdk,htk,hw⟩;have B:=sort_blks hvsb enc (Ty.size .term) m dk os;have hpsz:(putCells id 0 (flatK enc (Ty.size .term) dk) vs).size=vs.size:=by unfold putCells;rw[wad]
     have hixn:ix.length<=n:=by
      have:=congrArg List.length htk;rw[wm]at this;have h2:dk.toList.length=n:=by rw[wM,hdk]
      omega
     have hlen:ix.length*Ty.size .term<=n*Ty.size .term:=wu _ hixn
     have hxs:(putCells id 0 (flatK enc (Ty.size .term) dk) vs).toList.take (ix.length*Ty.size .term)=ix.flatMap enc:=by
      apply kZ;intro t;by_cases ht:t<ix.length*Ty.size .term
      ·obtain⟨q1,q2,q3⟩:=qo2 t (Ty.size .term) ix.length ht;rw[List.getElem?_take,if_pos ht,Array.getElem?_toList];unfold putCells;rw[Array.getElem?_mapIdx,Array.getElem?_eq_getElem (by omega),kP,if_pos ⟨we _,by rw[size_flatK,hdk];omega⟩,Nat.sub_zero,id,get_flatK _ _ _ _ (by rw[hdk];omega)]
       conv=>rhs;rw[<- q2]
       rw[qqP hek _ _ _ q3]
       have hd:dk[t / Ty.size .term]?=ix[t / Ty.size .term]?:=by
        rw[<- htk,List.getElem?_take,if_pos q1,Array.getElem?_toList]
       have hdl:t / Ty.size .term<dk.size:=by rw[hdk];omega
       rw[<- hd,Array.getElem?_eq_getElem hdl,getElem!_pos dk _ hdl];show _=(enc dk[t / Ty.size .term])[t % Ty.size .term]?;rw[List.getElem!_eq_getElem?_getD,List.getElem?_eq_getElem (by rw[hek];exact q3)];rfl
      ·rw[List.getElem?_eq_none (by rw[wm];omega),List.getElem?_eq_none (by rw[qzK hek];omega)]
     rcases hw with rfl | ⟨n1,n2,rfl⟩
     ·exact⟨Γ.cur 0,cap,_,et,rfl,B.hb,by omega,by rw[hpsz];exact hfit,hxs,.inl ⟨rfl,hpsz.trans hvsz⟩,B.os,B.tape,B.output,B.size,B.drawn,B.other⟩
     ·have hs:=setRow_heap _ (Γ.cur 0) _ new.toArray et (0,0) B.hb;refine⟨Γ.cur 0,cap,new.toArray,et,rfl,hs,by omega,by rw[kh,n2];exact hfit,?_,.inl ⟨rfl,by rw[kh,n2];exact hvsz⟩,B.os,B.tape,B.output,?_,B.drawn,λ b hb hne=>(setRow_other _ (Γ.cur 0) b _ hne).trans (B.other b hb hne)⟩
      ·rw[<- hxs];exact n1
      ·show w.heap.size<=_;simp only[World.setRow,Array.size_modify];exact B.size
 ·have hl2:l'=[]:=by
    have hl0:l=[]:=hl0;rw[hl0]at hl';cases hl';rfl
  rcases hy with rfl | ⟨f,rfl,hf2⟩
  ·have hu0:=zq hu0;subst hu0;exact nil0 none hl2
  ·cases hu0 with
   | sl _ _ _ a n cap b o us hn _ hf _ _ _ _ _ _ =>
     have hn:n=0:=hn;have hcap:cap=n:=hf (by omega);rw[hcap,hn];exact nil0 a hl2
end Go.AmZ
namespace Go.AmZ
open Go Go.RowKit Go.GxZ
theorem qls{P:Program}(w:World)(zF:Nat)(t ty e:TypeId)(i:TypeInfo)(z:Value)(size bytes:Nat)(F:P.underlying t=some (.slice e))(H:P.info? e=some i)(I:i.zero=some z)
  (d:i.size=size) (A:i.bytes=bytes) (s:z.cells.size=size) (x:0<size)
  (v:Value) (n:Nat) (xs:List Value) (b:w.ownsRow zF e size v n xs)
  (a:Addr) (m c:Nat) (qg:List Value) (G:qg.length=m*size) (f:∀j u,qg[j]?=some u->w.cell? (a.add j)=some u) (J:∀u∈qg,u.oneCell'=true)
  (B:n+m<=maxLen) (h:(n+m)*bytes<=140737488355328) (l:zF<=w.heap.size):
  ∃p w',(Builtin.append_ #[t,t] ty #[v,.slice (some a) m c]).run P w=.ok p w'/\w'.ownsRow zF e size p (n+m) (xs++qg)/\w.grownBy w' v.ownBlock/\
   (p.ownBlock=v.ownBlock\/∀k,p.ownBlock=some k->w.heap.size<=k):=by
 obtain⟨rfl,rfl⟩|⟨g,cap,Q,rfl,O,R,K,N,M,E⟩:=id b.2
 .have D:xs=[]:=kE.1 (by simpa using b.1);subst D;let⟨p,w',C,r,o,_⟩:=run_append_own (P:=P) w w.heap.size t ty e i z size bytes F H I d A s x (.slice none 0 0) 0 [] (World.ownsRow_nil w _ e size) a m c qg G f J B h (wa _);exact⟨p,w',C,r.mono l,o,.inr λ k y=>(r.lt k y).1⟩
 .by_cases q:n+m<=cap
  .let⟨w',C,r,o⟩:=run_append_own_spare (P:=P) w zF t ty e i size F H d g n cap xs b a m c qg G f J q;exact⟨_,w',C,r,o,.inl rfl⟩
  .let⟨p,w',C,r,o⟩:=run_append_arg_grows (P:=P) w t ty e i z size bytes F H I d A s x ⟨g,0,none⟩ n cap xs b.1 (λ j u L=>b.cells rfl j u L) a m c qg G f (by omega) B h;exact⟨p,w',C,r.mono l,⟨o.os,o.tape,o.output,o.size,λ k y _=>o.block k y (by simp)⟩,.inr λ k y=>(r.lt k y).1⟩
structure qeG (Γ:Gh) (b:Nat):Prop where
 own:¬ QC Γ b
 mem:∀o,Γ.mem b o=none
theorem qeG.ext{Γ Γ':Gh}{w w':World}{b:Nat}(h:qeG Γ b)(c:Ext Γ w Γ' w')(f:b<w.heap.size):qeG Γ' b/\w'.heap[b]?=w.heap[b]?:=by
 refine⟨⟨λ d=>(c.own b d).elim h.own λ h=>by omega,λ o=>?_⟩,c.block b f h.own⟩;cases e:Γ'.mem b o with
 |none=>rfl
 |some u=>
   obtain a|a|a:=c.memg b o u e
   .rw[h.mem]at a;cases a
   .exact absurd a h.own
   .omega
theorem qeG.new{Γ:Gh}{σ:St}{w:World}(a:Inv Γ σ w){b:Nat}(f:w.heap.size<=b):qeG Γ b:=by
 refine⟨λ h=>?_,λ o=>?_⟩
 .obtain⟨i,c,rfl⟩|⟨r,c,e,rfl⟩:=h
  .have:=a.box_lt c;omega
  .have:=a.cur_lt c e;omega
 .cases d:Γ.mem b o with
  |none=>rfl
  |some u=>have:=a.mem_lt d;omega
theorem Inv.off{Γ:Gh}{σ:St}{w w':World}(h:Inv Γ σ w)(j:∀k ob,¬ qeG Γ k->w.heap[k]?=some ob->w'.heap[k]?=some ob):Inv Γ σ w' where
 nb:=h.nb
 nr:=h.nr
 mem:=λ b o u e=>by
  let⟨l,p⟩:=h.mem b o u e;have c:=Array.getElem?_eq_getElem (qso l);refine⟨?_,p⟩;rw[World.cell?_of_block (w:=w) (a:=⟨b,o,none⟩) ((j b _ (λ f=>by rw[f.mem]at e;cases e) c).trans c.symm)];exact l
 box:=λ i cs e=>by
  have g:i<Γ.nb:=by rw[h.nb];exact getElem?_lt e
  exact(h.box i cs e).lift g (.refl _) λ o c=>j _ _ (λ f=>f.own (.inl ⟨i,g,rfl⟩)) c
 inj:=h.inj
 boxmem:=h.boxmem
 row:=λ r R e=>by
  have d:r<Γ.nr:=by rw[h.nr];exact getElem?_lt e
  exact(h.row r R e).lift d (.refl _) rfl (λ m ob c=>j _ _ (λ f=>f.own (.inr ⟨r,d,m,rfl⟩)) c) (λ _ _ n=>n) λ _ i s q=>by omega
 apart:=h.apart
theorem qJM{d Γ:Gh}{σ:St}{w0 w w':World}{e:Option Nat}(a:Ext d w0 Γ w)(m:Inv Γ σ w)(c:w.grownBy w' e)(f:∀b,e=some b->qeG Γ b/\w0.heap.size<=b)(n:w.drawn<=w'.drawn):Ext d w0 Γ w'/\Inv Γ σ w':=by
 refine⟨⟨a.le,c.os.trans a.os,c.tape.trans a.tape,c.output.trans a.output,wE a.size c.size,λ b i l=>(c.block b (wC i a.size) λ h=>?_).trans (a.block b i l),a.own,a.memg,wE a.drawn n⟩,m.off λ k ob j g=>?_⟩
 .have:=(f b h.symm).2;omega
 .rw[c.block k (Array.getElem?_eq_some_iff.1 g).1 λ h=>j (f k h.symm).1];exact g
theorem qeG.grown{Γ:Gh}{w w':World}{a:Option Nat}{b:Nat}(d:w.grownBy w' a)(e:b<w.heap.size)(c:some b≠a):w'.heap[b]?=w.heap[b]?:=d.block b e c
theorem qIr(w:World)(g k:Nat)(u:Value):w.grownBy (w.setCell ⟨g,k,none⟩ u) (some g):=
 ⟨rfl,rfl,rfl,by simp,λ b _ a=>Below.heap_setCell _ _ _ _ λ h=>a (by rw[h])⟩
theorem qlu{w w':World}{B e s g n cap:Nat}{cs:List Value}(h:w.ownsRow B e s (.slice (some ⟨g,0,none⟩) n cap) n cs)(d:w'.heap[g]?=w.heap[g]?):w'.ownsRow B e s (.slice (some ⟨g,0,none⟩) n cap) n cs:=by
 obtain⟨a,_⟩|⟨f,c,b,a,r⟩:=h.2
 .cases a
 .cases a;exact⟨h.1,.inr ⟨g,cap,b,rfl,r.1,by rw[d];exact r.2.1,r.2.2⟩⟩
theorem qcB{w:World}{B e s g n cap:Nat}{cs:List Value}(h:w.ownsRow B e s (.slice (some ⟨g,0,none⟩) n cap) n cs):B<=g/\g<w.heap.size:=h.lt g rfl
theorem qwI{w:World}{B e s g n p cap:Nat}{cs:List Value}(h:w.ownsRow B e s (.slice (some ⟨g,0,none⟩) n cap) n cs)(d:p<=n):w.ownsRow B e s (.slice (some ⟨g,0,none⟩) p cap) p (cs.take (p*s)):=by
 have a:p*s<=n*s:=wu _ d;obtain⟨b,_⟩|⟨q,f,c,b,o,m,l,k,j,i⟩:=h.2
 .cases b
 .cases b;refine⟨by rw[wm,h.1];omega,.inr ⟨g,cap,c,rfl,o,m,wE d l,k,j,?_⟩⟩;rw[<-i,xM,kw a]
theorem qNV{w:World}{B e s g n cap:Nat}{cs:List Value}(h:w.ownsRow B e s (.slice (some ⟨g,0,none⟩) n cap) n cs):n<=cap/\cap<=maxLen:=by
 obtain⟨a,_⟩|⟨m,b,f,a,l,k,d,c,j,i⟩:=h.2
 .cases a
 .cases a;exact⟨d,c⟩
abbrev RD:Ty:=.pair .str (.pair (.int .i64) .bool)
def qiM(Γ:Gh)(σ:St)(cs:List Value)(i:Nat)(t:T)(n:Int)(r:Nat):Prop:=
 ∃R a,σ.rw[r]?=some R/\R.k=4/\R.fz=0/\R.off=false/\R.c=t.kids.map (qd .term)/\Rep Γ (.rs r 0 t.kids.length R.ver false) a/\
  cs[i*5]?=some (.int .i64 t.kind)/\cs[i*5+1]?=some (.string ⟨t.name.toArray⟩)/\cs[i*5+2]?=some (.int .i64 t.sort)/\cs[i*5+3]?=some a/\cs[i*5+4]?=some (.int .i64 n)
structure Stk (B N:Nat) (Γ:Gh) (σ:St) (w:World) (st:List (T×Int)) (ids:List Nat) (g cap:Nat) (cs:List Value):Prop where
 len:ids.length=st.length
 nd:ids.Nodup
 priv:qeG Γ g
 own:w.ownsRow B N 5 (.slice (some ⟨g,0,none⟩) st.length cap) st.length cs
 node:∀i t n r,st[i]?=some (t,n)->ids[i]?=some r->qiM Γ σ cs i t n r
section
variable {B N:Nat}{Γ Γ':Gh}{σ σ':St}{w w':World}{st:List (T×Int)}{ids:List Nat}{g cap:Nat}{cs:List Value}
theorem qiM.later{i:Nat}{t:T}{n:Int}{r:Nat}(h:qiM Γ σ cs i t n r)(c:Le Γ Γ')(b:∀R,σ.rw[r]?=some R->σ'.rw[r]?=some R):qiM Γ' σ' cs i t n r:=by
 let⟨R,a,l,k,j,g,f,e,d⟩:=h;exact⟨R,a,b R l,k,j,g,f,e.mono c,d⟩
theorem qiM.cells{i:Nat}{t:T}{n:Int}{r:Nat}{cs':List Value}(h:qiM Γ σ cs i t n r)(a:∀j,j<5->cs'[i*5+j]?=cs[i*5+j]?):qiM Γ σ cs' i t n r:=by
 let⟨R,b,k,g,f,e,d,c,q,p,o,m,l⟩:=h;exact⟨R,b,k,g,f,e,d,c,(a 0 (by decide)).trans q,(a 1 (by decide)).trans p,(a 2 (by decide)).trans o,(a 3 (by decide)).trans m,(a 4 (by decide)).trans l⟩
theorem Stk.later(h:Stk B N Γ σ w st ids g cap cs)(a:Ext Γ w Γ' w')(e:∀r,r∈ids->∀R,σ.rw[r]?=some R->σ'.rw[r]?=some R):Stk B N Γ' σ' w' st ids g cap cs:=by
 let⟨d,c⟩:=h.priv.ext a (qcB h.own).2;exact⟨h.len,h.nd,d,qlu h.own c,λ i t n r f b=>(h.node i t n r f b).later a.le (e r (wb b))⟩
theorem Stk.grown{a:Option Nat}(h:Stk B N Γ σ w st ids g cap cs)(c:w.grownBy w' a)(b:some g≠a):Stk B N Γ σ w' st ids g cap cs:=
 ⟨h.len,h.nd,h.priv,qlu h.own (c.block g (qcB h.own).2 b),h.node⟩
theorem Stk.cell(h:Stk B N Γ σ w st ids g cap cs){k:Nat}{u:Value}(a:cs[k]?=some u):w.cell? ⟨g,k,none⟩=some u/\w.frozen? ⟨g,k,none⟩=false:=by
 refine⟨?_,h.own.frozenAt k⟩;rw[h.own.cellAt k (by rw[<-h.own.1];exact getElem?_lt a)];exact a
theorem Stk.at(h:Stk B N Γ σ w st ids g cap cs){i:Nat}{t:T}{n:Int}(b:st[i]?=some (t,n)):∃r,ids[i]?=some r/\qiM Γ σ cs i t n r:=by
 have a:i<ids.length:=by rw[h.len];exact getElem?_lt b
 exact⟨_,List.getElem?_eq_getElem a,h.node i t n _ b (List.getElem?_eq_getElem a)⟩
theorem Stk.left(h:Stk B N Γ σ w st ids g cap cs){i:Nat}{t:T}{n:Int}(l:st[i]?=some (t,n))(a:Int):Stk B N Γ σ (w.setCell ⟨g,i*5+4,none⟩ (.int .i64 a)) (st.set i (t,a)) ids g cap (cs.set (i*5+4) (.int .i64 a)):=by
 have s:=getElem?_lt l;have d:i*5+4<cs.length:=by rw[h.own.1];omega
 refine⟨by rw[wH];exact h.len,h.nd,h.priv,by rw[wH];exact(h.own.stored _ _).1,λ j o m r c f=>?_⟩;rw[List.getElem?_set]at c;split at c
 .rename_i e;subst e;cases c;let⟨R,p,A,z,y,x,v,u,F,E,D,C,G⟩:=h.node i t n r l f;have b:∀q,q≠i*5+4->(cs.set (i*5+4) (.int .i64 a))[q]?=cs[q]?:=λ q k=>by rw[List.getElem?_set_ne (λ e=>k e.symm)]
  refine⟨R,p,A,z,y,x,v,u,(b _ (by omega)).trans F,(b _ (by omega)).trans E,(b _ (by omega)).trans D,(b _ (by omega)).trans C,?_⟩;rw[List.getElem?_set_self d]
 .rename_i e;refine(h.node j o m r c f).cells λ q k=>?_;rw[List.getElem?_set_ne (by omega)]
theorem Stk.push(h:Stk B N Γ σ w st ids g cap cs){s:Value}{nk sk:Int}{nm:List UInt8}{lf:Int}{o:Value}{r:Nat}{R:Row}(F:σ.rw[r]?=some R)(K:R.k=4)(J:R.fz=0)(I:R.off=false)(H:R.c=[])(G:Rep Γ (.rs r 0 0 R.ver false) o)(A:r ∉ ids)
  (l:w'.ownsRow B N 5 s (st.length+1) (cs++[.int .i64 nk,.string ⟨nm.toArray⟩,.int .i64 sk,o,.int .i64 lf])) (z:s.ownBlock=some g\/∀k,s.ownBlock=some k->qeG Γ k):
  ∃j d,s=.slice (some ⟨j,0,none⟩) ((st.length+1:Nat)) d/\Stk B N Γ σ w' (st++[(.mk nk nm sk [],lf)]) (ids++[r]) j d (cs++[.int .i64 nk,.string ⟨nm.toArray⟩,.int .i64 sk,o,.int .i64 lf]):=by
 have D:=h.own.1
 obtain⟨j,d,v⟩:∃j d,s=.slice (some ⟨j,0,none⟩) ((st.length+1:Nat)) d:=by
  obtain⟨_,O⟩|⟨j,d,L,e,_⟩:=l.2
  .omega
  .exact⟨j,d,e⟩
 subst v;refine⟨j,d,rfl,⟨by simp[h.len],?_,?_,by simpa using l,λ i t n y p f=>?_⟩⟩
 .rw[List.nodup_append];exact⟨h.nd,by simp,λ a E b x=>by simp at x;subst x;exact λ e=>A (e▸E)⟩
 .obtain e|e:=z
  .cases e;exact h.priv
  .exact e j rfl
 .rw[List.getElem?_append]at p f;rw[h.len]at f;split at p
  .rename_i m;rw[if_pos m]at f;refine(h.node i t n y p f).cells λ q M=>?_;rw[List.getElem?_append_left (by omega)]
  .rename_i m;rw[if_neg m]at f
   have C:i=st.length:=by
    have:=getElem?_lt p;simp at this;omega
   subst C;simp at p f;obtain⟨rfl,rfl⟩:=p;subst f
   have u:∀q,(cs++[.int .i64 nk,.string ⟨nm.toArray⟩,.int .i64 sk,o,.int .i64 lf])[st.length*5+q]?=([.int .i64 nk,.string ⟨nm.toArray⟩,.int .i64 sk,o,.int .i64 lf]:List Value)[q]?:=λ q=>by
    rw[List.getElem?_append_right (by omega)];congr 1;omega
   exact⟨R,o,F,K,J,I,H,G,u 0,u 1,u 2,u 3,u 4⟩
theorem Stk.shrink(h:Stk B N Γ σ w st ids g cap cs){p:Nat}(e:p<=st.length):Stk B N Γ σ w (st.take p) (ids.take p) g cap (cs.take (p*5)):=by
 have a:(st.take p).length=p:=by rw[wm];omega
 refine⟨by rw[a,wm,h.len];omega,h.nd.sublist (List.take_sublist _ _),h.priv,by rw[a];exact qwI h.own e,λ i t n r b c=>?_⟩;rw[List.getElem?_take]at b c;split at b<;>try cases b
 rename_i d;rw[if_pos d]at c;refine(h.node i t n r b c).cells λ j f=>?_;rw[List.getElem?_take,if_pos (by omega)]
theorem Stk.kid(h:Stk B N Γ σ w st ids g cap cs)(v:Ext Γ w Γ' w'){q:Nat}(Z:q<st.length){t:T}{n:Int}(J:st[q]?=some (t,n)){r:Nat}(y:ids[q]?=some r)(x:T)
  (m:∀i s,i<q->ids[i]?=some s->∀R,σ.rw[s]?=some R->σ'.rw[s]?=some R) {R:Row} (M:σ'.rw[r]?=some R) (U:R.k=4) (S:R.fz=0) (Q:R.off=false) (P:R.c=(t.kids++[x]).map (qd .term)) {f:Value} (O:Rep Γ' (.rs r 0 (t.kids.length+1) R.ver false) f):
  Stk B N Γ' σ' (w'.setCell ⟨g,q*5+3,none⟩ f) (st.take q++[(.mk t.kind t.name t.sort (t.kids++[x]),n)]) (ids.take (q+1)) g cap ((cs.set (q*5+3) f).take ((q+1)*5)):=by
 let⟨D,C⟩:=h.priv.ext v (qcB h.own).2
 have l:(st.take q++[(T.mk t.kind t.name t.sort (t.kids++[x]),n)]).length=q+1:=by
  rw[wd,wm];simp;omega
 have G:=qwI ((qlu h.own C).stored (q*5+3) f).1 (p:=q+1) (by omega);have L:=h.own.1;refine⟨by rw[l,wm,h.len];omega,h.nd.sublist (List.take_sublist _ _),D,by rw[l];exact G,λ i A E s b a=>?_⟩;rw[List.getElem?_take]at a;split at a<;>try cases a
 rename_i H
 have u:∀j,j<5->((cs.set (q*5+3) f).take ((q+1)*5))[i*5+j]?=(cs.set (q*5+3) f)[i*5+j]?:=λ j z=>by
  rw[List.getElem?_take,if_pos (by omega)]
 have d:∀k,k≠q*5+3->(cs.set (q*5+3) f)[k]?=cs[k]?:=λ k I=>by rw[List.getElem?_set_ne (λ e=>I e.symm)]
 rw[List.getElem?_append,wm,kw (by omega)]at b;split at b
 .rename_i o;rw[List.getElem?_take,if_pos o]at b;exact((h.node i A E s b a).later v.le (m i s o a)).cells λ j z=>(u j z).trans (d _ (by omega))
 .rename_i o;have K:i=q:=by omega
  subst K;simp at b;obtain⟨rfl,rfl⟩:=b;rw[y]at a;cases a;let⟨R0,F,b1,b2,b3,b4,b5,b6,Y,X,W,a3,V⟩:=h.node i t n r J y;refine⟨R,f,M,U,S,Q,P,(by show Rep Γ' (.rs r 0 (t.kids++[x]).length R.ver false) f;rw[wd];exact O),(u 0 (by decide)).trans ((d _ (by omega)).trans Y),(u 1 (by decide)).trans ((d _ (by omega)).trans X),(u 2 (by decide)).trans ((d _ (by omega)).trans W),(u 3 (by decide)).trans ?_,(u 4 (by decide)).trans ((d _ (by omega)).trans V)⟩;rw[List.getElem?_set_self (by omega)]
end
end Go.AmZ
namespace Go.AmZ
open Go Go.RowKit Go.GxZ
structure RS (Γ0:Gh) (w0:World) (rd:Val RD) (Γ:Gh) (σ:St) (w:World):Prop where
 x:Ext Γ0 w0 Γ w
 i:Inv Γ σ w
 bx:σ.bx=[qd RD rd]
abbrev qov(F:Val RD->Option ((Val RD×Unit)×((Int×List UInt8×Int×List T×Int×Unit)×Unit))):qm9:=⟨[.box [.val RD]],[.agg [.val (.int .i64),.val .str,.val (.int .i64),.row .term,.val (.int .i64)]],λ x=>F x.1⟩
section
variable {P:Program}{Γ0 Γ:Gh}{σ:St}{w0 w:World}{rd:Val RD}
theorem RS.drew(h:RS Γ0 w0 rd Γ σ w):RS Γ0 w0 rd Γ σ {w with drawn:=w.drawn+1}:=⟨h.x.trans (Ext.drew _ _),h.i.drew,h.bx⟩
theorem RS.box(h:RS Γ0 w0 rd Γ σ w):w.cell? ⟨Γ.β 0,0,none⟩=some (.string ⟨rd.1.toArray⟩)/\w.cell? ⟨Γ.β 0,1,none⟩=some (.int .i64 rd.2.1)/\w.cell? ⟨Γ.β 0,2,none⟩=some (.bool rd.2.2):=by
 let⟨vs,e,g,d,j⟩:=h.i.box 0 (qd RD rd) (by rw[h.bx];rfl);have f:=QU g;have c:∀(x:Value) (u:Value),Rep Γ (.v x) u->u=x:=λ x u h=>by cases h;rfl
 refine⟨?_,?_,?_⟩<;>rw[f]
 .let⟨u,a,b⟩:=d.get (i:=0) (x:=.v (.string ⟨rd.1.toArray⟩)) rfl;rw[c _ _ b]at a;simpa using a
 .let⟨u,a,b⟩:=d.get (i:=1) (x:=.v (.int .i64 rd.2.1)) rfl;rw[c _ _ b]at a;simpa using a
 .let⟨u,a,b⟩:=d.get (i:=2) (x:=.v (.bool rd.2.2)) rfl;rw[c _ _ b]at a;simpa using a
theorem RS.grown{w':World}{c:Option Nat}(h:RS Γ0 w0 rd Γ σ w)(e:w.grownBy w' c)(d:∀b,c=some b->qeG Γ b/\w0.heap.size<=b)(f:w.drawn<=w'.drawn):RS Γ0 w0 rd Γ σ w':=
 let⟨a,b⟩:=qJM h.x h.i e d f;⟨a,b,h.bx⟩
theorem RS.set(h:RS Γ0 w0 rd Γ σ w){g:Nat}(a:qeG Γ g)(c:w0.heap.size<=g)(k:Nat)(u:Value):RS Γ0 w0 rd Γ σ (w.setCell ⟨g,k,none⟩ u):=
 h.grown (qIr w g k u) (λ b e=>by cases e;exact⟨a,c⟩) (wa _)
theorem RS.put4(h:RS Γ0 w0 rd Γ σ w){b:Nat}(a:qeG Γ b)(c:w0.heap.size<=b)(g f e d:Value):RS Γ0 w0 rd Γ σ ((((w.setCell ⟨b,0,none⟩ g).setCell ⟨b,1,none⟩ f).setCell ⟨b,2,none⟩ e).setCell ⟨b,3,none⟩ d):=
 (((h.set a c 0 g).set a c 1 f).set a c 2 e).set a c 3 d
theorem qCT:Rep Γ (.sl 4 [] 1) (.slice none 0 0):=.sl _ _ _ _ 0 0 0 0 (λ _ _=>undef) rfl (λ _=>wa _) (λ _=>rfl) (λ e h=>by cases h) (λ e h=>by cases h) (by decide) (.inl rfl) (λ i e j x h=>by cases h) (λ i e j x h=>by cases h)
theorem RS.alloc(h:RS Γ0 w0 rd Γ σ w)(o:Obj):RS Γ0 w0 rd Γ σ (w.alloc o):=
 h.grown (World.grownBy_alloc w o none) (λ b e=>by cases e) (wa _)
theorem qxn{f:FuncId}{F:Val RD->Option ((Val RD×Unit)×((Int×List UInt8×Int×List T×Int×Unit)×Unit))}(C:qU P f (sgP (qov F))){b:Val RD}{nk sk lf:Int}{nm:List UInt8}{ks:List T}(A:F rd=some ((b,()),((nk,nm,sk,ks,lf,()),())))
  (h:RS Γ0 w0 rd Γ σ w):Calls P f #[.pointer (some ⟨Γ.β 0,0,none⟩)] w λ e w'=>∃Γ' σ' o,e=.returned (.agg #[.int .i64 nk,.string ⟨nm.toArray⟩,.int .i64 sk,o,.int .i64 lf])/\Ext Γ w Γ' w'/\RS Γ0 w0 b Γ' σ' w'/\σ'.rw=σ.rw++[⟨4,ks.map (qd .term),0,0,false⟩]/\Rep Γ' (.rs σ.rw.length 0 ks.length 0 false) o:=by
 have l:Γ.nb=1:=by rw[h.i.nb,h.bx];rfl
 have g:Qt σ [.ptr 0 0] (sgP (qov F))=some (.agg [.v (.int .i64 nk),.v (.string ⟨nm.toArray⟩),.v (.int .i64 sk),.rs σ.rw.length 0 ks.length 0 false,.v (.int .i64 lf)],some ⟨[qd RD b],σ.rw++[⟨4,ks.map (qd .term),0,0,false⟩],0::σ.wr,σ.wrr⟩):=by
  let⟨I,rw,c,a⟩:= σ;have m:I=[qd RD rd]:=h.bx;subst m;have B:qE RD ((qd RD rd).take (Ty.size RD))=some rd:=jY RD rd
  have m:qiV ⟨[qd RD rd],[],[],[]⟩ [.val RD] 0 0 (.ptr 0 0)=some ((rd,()),0):=by
   show(match qE RD ((qd RD rd).take (Ty.size RD))with
    |some v=>match qft ⟨[qd RD rd],[],[],[]⟩ [] 0 ((qd RD rd).drop (Ty.size RD))with
      |some (vs,n)=>some ((v,vs),n)
      |none=>none
    |none=>none)=_
   rw[B];rfl
  have s:dS ⟨[qd RD rd],[],[],[]⟩ (qov F).args 0 0 [.ptr 0 0]=some (rd,()):=by
   show(match qiV ⟨[qd RD rd],[],[],[]⟩ [.val RD] 0 0 (.ptr 0 0)with
    |some (v,k)=>match dS ⟨[qd RD rd],[],[],[]⟩ [] 1 k []with
      |some vs=>some (toB [.val RD] v,vs)
      |none=>none
    |none=>none)=_
   rw[m];rfl
  have z:sgP (qov F) ⟨[qd RD rd],[],[],[]⟩ [.ptr 0 0]=some (.agg [.v (.int .i64 nk),.v (.string ⟨nm.toArray⟩),.v (.int .i64 sk),.rs 0 0 ks.length 0 false,.v (.int .i64 lf)],some ⟨[qd RD b],[⟨4,ks.map (qd .term),0,0,false⟩],[0],[]⟩):=by
   unfold sgP;rw[s];dsimp only;rw[A];rfl
  have q:qfZ ⟨[qd RD rd],rw,c,a⟩ [.ptr 0 0]=true:=rfl;have H:qI ⟨[qd RD rd],rw,c,a⟩ (Qi ⟨[qd RD rd],rw,c,a⟩ [.ptr 0 0]) (qbl ⟨[qd RD rd],rw,c,a⟩ [.ptr 0 0])=⟨[qd RD rd],[],[],[]⟩:=rfl;unfold Qt;rw[q]
  show(match sgP (qov F) (qI ⟨[qd RD rd],rw,c,a⟩ (Qi ⟨[qd RD rd],rw,c,a⟩ [.ptr 0 0]) (qbl ⟨[qd RD rd],rw,c,a⟩ [.ptr 0 0])) [.ptr 0 0]with
   |some r=>some (qf6 ⟨[qd RD rd],rw,c,a⟩ [0] [] r)
   |none=>none)=_
  rw[H,z];rfl
 refine(qpc (λ Γ σ j r y d t=>C.2 Γ σ w j _ r y d t) h.i (waK (Rep.ptr 0 0 (by rw[l];exact wan)) .nil) g).mono ?_;rintro e w' ⟨v,Γ',rfl,p,E,D,O⟩;cases D with
 |agg _ us u G d=>
 match us,u with
 |[u0,u1,u2,u3,u4],_=>
 have N:=d 0 _ _ rfl rfl;have M:=d 1 _ _ rfl rfl;have L:=d 2 _ _ rfl rfl;have K:=d 3 _ _ rfl rfl;have J:=d 4 _ _ rfl rfl;cases N;cases M;cases L;cases J;exact⟨Γ',_,u3,rfl,p,⟨h.x.trans p,E,rfl⟩,rfl,K⟩
theorem qDN(p:Inv Γ σ w){cs:List Value}{i:Nat}{t:T}{n:Int}{r:Nat}(h:qiM Γ σ cs i t n r):
  ∃a σ1 d,σ1.bx=σ.bx/\(∀b,b≠r->σ1.rw[b]?=σ.rw[b]?)/\Ext Γ w a w/\Inv a σ1 w/\cs[i*5+3]?=some d/\Rep a (.sl 4 (t.kids.map (qd .term)) 1) d/\d.oneCell'=true:=by
 let⟨R,d,j,B,E,D,s,q,I,H,G,C,F⟩:=h;let⟨m,l,v,u⟩:=qwQ p j σ.wrr;refine⟨_,{σ with rw:=σ.rw.modify r qlz,wrr:=σ.wrr},d,rfl,λ b z=>?_,qkD l w,v,C,?_,q.one rfl⟩
 .show(σ.rw.modify r qlz)[b]?=_;rw[List.getElem?_modify];cases σ.rw[b]? with
  |none=>rfl
  |some x=>exact congrArg some (if_neg (λ e=>z (Eq.symm e)))
 .have:=qk6 p l.le (y:=.rs r 0 t.kids.length R.ver false) (λ b f R' g=>by
    simp only[rsC,wF]at f;subst f;rw[j]at g;cases g;exact u) q
  have o:R.c.length=t.kids.length:=by rw[s,wB]
  have A:qX σ.rw (.rs r 0 t.kids.length R.ver false)=.sl 4 (t.kids.map (qd .term)) 1:=by
   simp only[qX,j]
   have:qjX R R.k 0 t.kids.length R.ver=some (t.kids.map (qd .term)):=by
    unfold qjX;rw[if_pos ⟨rfl,rfl,by omega⟩,wP,kI (by omega),s]
   rw[this,B]
  rw[A]at this;exact this
theorem qhn{t:T}{a:Value}(h:Rep Γ (.sl 4 (t.kids.map (qd .term)) 1) a):RepL Γ (qd .term t) [.int .i64 t.kind,.string ⟨t.name.toArray⟩,.int .i64 t.sort,a]:=by
 have b:qd .term t=[.v (.int .i64 t.kind),.v (.string ⟨t.name.toArray⟩),.v (.int .i64 t.sort),.sl 4 (t.kids.map (qd .term)) 1]:=by
  let⟨k,n,s,l⟩:=t;show JX _=_;rw[JX,qlO];rfl
 rw[b];exact waK (.v _ rfl) (waK (.v _ rfl) (waK (.v _ rfl) (waK h .nil)))
theorem qoU{k s:Int}{b:ByteArray}{a:Value}(h:a.oneCell'=true):∀u∈([.int .i64 k,.string b,.int .i64 s,a]:List Value),u.oneCell'=true:=by
 intro u c;simp only[wx,xd,or_false]at c;obtain rfl|rfl|rfl|rfl:=c<;>first|rfl|exact h
theorem qM4(n:Inv Γ σ w){t:T}{b:Value}(h:Rep Γ (.sl 4 (t.kids.map (qd .term)) 1) b)(e:TypeId):
  ∃Γ',Ext Γ w Γ' (w.alloc (.cells #[.int .i64 t.kind,.string ⟨t.name.toArray⟩,.int .i64 t.sort,b] e))/\Inv Γ' σ (w.alloc (.cells #[.int .i64 t.kind,.string ⟨t.name.toArray⟩,.int .i64 t.sort,b] e))/\Rep Γ' (.sl (Ty.size .term) [qd .term t] 2) (.slice (some ⟨w.heap.size,0,none⟩) 1 1):=by
 let⟨Γ',g,l,k⟩:=qzt n (vs:=[.int .i64 t.kind,.string ⟨t.name.toArray⟩,.int .i64 t.sort,b]) (qoU (h.one rfl)) e;refine⟨Γ',g,l,.sl _ _ _ _ 1 1 w.heap.size 0 (λ _ j=>([.int .i64 t.kind,.string ⟨t.name.toArray⟩,.int .i64 t.sort,b]:List Value).getD j undef) rfl (λ _=>wa _) (λ _=>rfl) ?_ ?_ (by decide) (.inr rfl) ?_ ?_⟩
 .intro e f;rw[wF.1 f];exact yi .term t
 .intro e f;rw[wF.1 f];exact zr .term t
 .intro i e j x a d;cases i with
  |succ i=>cases a
  |zero=>
    cases a;let⟨u,c,_⟩:=(qhn h).get d;rw[wD,kJ,wD,k j u c,List.getD_eq_getElem?_getD,c];rfl
 .intro i e j x a d;cases i with
  |succ i=>cases a
  |zero=>
    cases a;let⟨u,c,m⟩:=(qhn h).get d;rw[List.getD_eq_getElem?_getD,c];exact m.mono g.le
theorem qGG{B N:Nat}{f:List (T×Int)}{a:List Nat}{g cap:Nat}{cs:List Value}(h:RS Γ0 w0 rd Γ σ w)(j:Stk B N Γ σ w f a g cap cs){q:Nat}{x:T}{n:Int}(m:f[q]?=some (x,n)):
  ∃Γ' σ' c,cs[q*5+3]?=some c/\RS Γ0 w0 rd Γ' σ' w/\Stk B N Γ' σ' w (f.take q) (a.take q) g cap (cs.take (q*5))/\Rep Γ' (.sl 4 (x.kids.map (qd .term)) 1) c/\Ext Γ w Γ' w:=by
 let⟨A,k,z⟩:=j.at m;let⟨d,σ1,c,y,v,l,u,t,s,C⟩:=qDN h.i z;refine⟨d,σ1,c,t,⟨h.x.trans l,u,y.trans h.bx⟩,(j.shrink (xI (getElem?_lt m))).later l λ r o R p=>?_,s,l⟩;rw[v r λ e=>?_];exact p;subst e;let⟨i,b⟩:=vR.1 o;rw[List.getElem?_take]at b;split at b<;>try cases b
 have:=(List.getElem?_inj (getElem?_lt b) j.nd).1 (b.trans k.symm);omega
theorem qGu{B N:Nat}{A:List (T×Int)}{f:List Nat}{g cap:Nat}{cs:List Value}{z V:TypeId}(hT:qnM P .term z V 56)(h:RS Γ0 w0 rd Γ σ w)(o:Stk B N Γ σ w A f g cap cs)(hB:w0.heap.size<=B){q:Nat}{t x:T}{n:Int}{J:Value}(E:A[q]?=some (t,n))(X:Rep Γ (.sl 4 (x.kids.map (qd .term)) 1) J)(l:zC (t.kids.length+1) 56=true)(e ty:TypeId):
  ∃p a,cs[q*5+3]?=some p/\f[q]?=some a/\(∃C D,p=.slice C t.kids.length D)/\
  ∃d w',(Builtin.append_ #[z,z] ty #[p,.slice (some ⟨w.heap.size,0,none⟩) 1 1]).run P (w.alloc (.cells #[.int .i64 x.kind,.string ⟨x.name.toArray⟩,.int .i64 x.sort,J] e))=.ok d w'/\(∃C D,d=.slice C (t.kids.length+1) D)/\
  ∃Γ' σ',Ext Γ w Γ' w'/\RS Γ0 w0 rd Γ' σ' (w'.setCell ⟨g,q*5+3,none⟩ d)/\Stk B N Γ' σ' (w'.setCell ⟨g,q*5+3,none⟩ d) (A.take q++[(.mk t.kind t.name t.sort (t.kids++[x]),n)]) (f.take (q+1)) g cap ((cs.set (q*5+3) d).take ((q+1)*5)):=by
 let⟨U,S,c2,c3⟩:=qM4 h.i X e;let⟨a,j,Nq⟩:=o.at E;let⟨R,p,e1,Q,O,e4,M,L,f0,f1,f2,f3,f4⟩:=Nq;have v:R.c.length=t.kids.length:=by rw[M,wB]
 have r:=of_decide_eq_true l
 have y:yf (Ty.size .term) 56 σ (.rs a 0 t.kids.length R.ver false) [qd .term x]=some (.rs a 0 (t.kids.length+1) (R.ver+1) false,some {σ with rw:=σ.rw.set a {R with c:=R.c++[qd .term x],ver:=R.ver+1},wrr:=a::σ.wrr}):=by
  have m:R.k=Ty.size .term/\R.ver=R.ver/\t.kids.length=R.c.length/\(0:Nat)=0/\false=false/\R.fz<=R.c.length/\(t.kids.length+[qd .term x].length)*56<=2^47/\t.kids.length+[qd .term x].length<2^62:=
   ⟨Q,rfl,v.symm,rfl,rfl,by rw[O];exact we _,r.1,r.2⟩
  have G:qsK R (Ty.size .term) 0 t.kids.length R.ver false 56 [qd .term x]=some ({R with c:=R.c++[qd .term x],ver:=R.ver+1},t.kids.length+1):=if_pos m;have u:zm (qat [qd .term x]) 0=false:=rfl;simp only[yf,u,e1,G]
 let⟨d,w',Γ',g1,g2,g3,K⟩:=qr1 hT c2 (L.mono S.le) c3 (by intro q' hq';rw[wF.1 hq'];exact yi .term x) (by intro q' hq';rw[wF.1 hq'];exact zr .term x) y ty;have b:=S.trans g2;have F:=(o.priv.ext b (qcB o.own).2).1;have Z:=(qcB o.own).1;refine⟨p,a,f3,j,(by cases L;exact⟨_,_,rfl⟩),d,w',g1,(by cases K;exact⟨_,_,rfl⟩),Γ',_,b,RS.set ⟨h.x.trans b,g3,h.bx⟩ F (by omega) _ _,o.kid b (getElem?_lt E) E j x (λ i I hi s R' H=>?_) (R:={R with c:=R.c++[qd .term x],ver:=R.ver+1}) ?_ Q O e4 (by show R.c++_=_;rw[M,wW];rfl) K⟩
 .have Y:=getElem?_lt s
  have W:I≠a:=λ e=>by
   have:=(List.getElem?_inj Y o.nd).1 (s.trans (e▸j.symm));omega
  show(σ.rw.set a _)[I]?=_;rw[List.getElem?_set_ne (λ e=>W e.symm)];exact H
 .show(σ.rw.set a _)[a]?=_;rw[List.getElem?_set_self (getElem?_lt e1)]
theorem qB8{vs:Array Value}{a:Nat}{f e c b:Value}(j:a+4<=vs.size)(off:Nat):((((vs.setIfInBounds a f).setIfInBounds (a+1) e).setIfInBounds (a+2) c).setIfInBounds (a+3) b)[off]?=if off<a then vs[off]? else if off<a+4 then([f,e,c,b]:List Value)[off-a]? else vs[off]?:=by
 simp only[Array.getElem?_setIfInBounds,xO];by_cases h:off<a
 .rw[if_pos h,if_neg (by omega),if_neg (by omega),if_neg (by omega),if_neg (by omega)]
 .rw[if_neg h];by_cases g:off<a+4
  .rw[if_pos g];obtain⟨d,rfl⟩:∃d,off=a+d:=⟨off-a,by omega⟩
   rw[show a+d-a=d by omega];have i:d<4:=by omega
   match d,i with
   |0,_=>rw[if_neg (by omega),if_neg (by omega),if_neg (by omega),if_pos (by omega),if_pos (by omega)];rfl
   |1,_=>rw[if_neg (by omega),if_neg (by omega),if_pos (by omega),if_pos (by omega)];rfl
   |2,_=>rw[if_neg (by omega),if_pos (by omega),if_pos (by omega)];rfl
   |3,_=>rw[if_pos (by omega),if_pos (by omega)];rfl
  .rw[if_neg g,if_neg (by omega),if_neg (by omega),if_neg (by omega),if_neg (by omega)]
theorem qOG{B N:Nat}{O:List (T×Int)}{s:List Nat}{g cap:Nat}{cs:List Value}(h:RS Γ0 w0 rd Γ σ w)(f:Stk B N Γ σ w O s g cap cs){q:Nat}{t x z:T}{ks:List T}{n:Int}{o:Value}(hq:O[q]?=some (t,n))(K:t.kids=ks++[z])(hx:Rep Γ (.sl 4 (x.kids.map (qd .term)) 1) o):
  ∃b m,cs[q*5+3]?=some (.slice (some ⟨b,0,none⟩) (ks.length+1) m)/\b≠g/\QC Γ b/\(∀j,j<4->∃u,w.cell? ⟨b,ks.length*4+j,none⟩=some u)/\(∀j,w.frozen? ⟨b,j,none⟩=false)/\
  ∃Γ' σ',Ext Γ w Γ' ((((w.setCell ⟨b,ks.length*4,none⟩ (.int .i64 x.kind)).setCell ⟨b,ks.length*4+1,none⟩ (.string ⟨x.name.toArray⟩)).setCell ⟨b,ks.length*4+2,none⟩ (.int .i64 x.sort)).setCell ⟨b,ks.length*4+3,none⟩ o)/\
   RS Γ0 w0 rd Γ' σ' ((((w.setCell ⟨b,ks.length*4,none⟩ (.int .i64 x.kind)).setCell ⟨b,ks.length*4+1,none⟩ (.string ⟨x.name.toArray⟩)).setCell ⟨b,ks.length*4+2,none⟩ (.int .i64 x.sort)).setCell ⟨b,ks.length*4+3,none⟩ o)/\
   Stk B N Γ' σ' ((((w.setCell ⟨b,ks.length*4,none⟩ (.int .i64 x.kind)).setCell ⟨b,ks.length*4+1,none⟩ (.string ⟨x.name.toArray⟩)).setCell ⟨b,ks.length*4+2,none⟩ (.int .i64 x.sort)).setCell ⟨b,ks.length*4+3,none⟩ o) (O.set q (.mk t.kind t.name t.sort (ks++[x]),n)) s g cap cs:=by
 let⟨r,hr,R,ku,e1,J,e3,e4,e5,e6,f0,f1,f2,f3,f4⟩:=f.at hq;have H:=h.i.row r R e1;have D:R.c.length=ks.length+1:=by rw[e5,K];simp
 have V:t.kids.length=ks.length+1:=by rw[K];simp
 rw[V]at e6;have G:R.c[ks.length]?=some (qd .term z):=by rw[e5,K];simp
 have hz:=H.real G;have C:=H.off e4
 obtain⟨b,m,rfl,hb⟩:∃b m,ku=.slice (some ⟨b,0,none⟩) (ks.length+1) m/\b=Γ.cur r:=by
  cases e6 with
  |rs _ _ _ _ _ a m v Q hc hf hl=>
    let⟨I,h2⟩:=hl (H.ver (by rw[e3];exact we _)).symm;obtain I|I:=I
    .omega
    .rw[C,kJ,wD]at I;exact⟨_,m,by rw[I],rfl⟩
 subst hb;have v:r<Γ.nr:=by rw[h.i.nr];exact getElem?_lt e1
 have A:QC Γ (Γ.cur r):=.inr ⟨r,v,hz,rfl⟩;have Y:Γ.cur r≠g:=λ e=>f.priv.own (e▸A);let⟨vs,e,fr,M,c2,c3,c4⟩:=H.blk hz;have X:fr=(0,0):=c4 (by omega);subst X;have F:=H.fit;rw[C,D,J,<-c2]at F;have s1:=heap_setCell_same w (Γ.cur r) (ks.length*4) vs e (.int .i64 x.kind) M;have s2:=heap_setCell_same _ (Γ.cur r) (ks.length*4+1) _ e (.string ⟨x.name.toArray⟩) s1;have s3:=heap_setCell_same _ (Γ.cur r) (ks.length*4+2) _ e (.int .i64 x.sort) s2;have s4:=heap_setCell_same _ (Γ.cur r) (ks.length*4+3) _ e o s3
 have l:∀k,k≠Γ.cur r->((((w.setCell ⟨Γ.cur r,ks.length*4,none⟩ (.int .i64 x.kind)).setCell ⟨Γ.cur r,ks.length*4+1,none⟩ (.string ⟨x.name.toArray⟩)).setCell ⟨Γ.cur r,ks.length*4+2,none⟩ (.int .i64 x.sort)).setCell ⟨Γ.cur r,ks.length*4+3,none⟩ o).heap[k]?=w.heap[k]?:=λ k L=>by
  rw[Below.heap_setCell _ _ _ _ L,Below.heap_setCell _ _ _ _ L,Below.heap_setCell _ _ _ _ L,Below.heap_setCell _ _ _ _ L]
 let⟨Γ',p,z2⟩:=qq4 h.i e1 G (by rw[e3];exact we _) e4 (e1:=qd .term x) ((yi .term x).trans J.symm) (zr .term x) (λ vs' e' ab Q=>by
   rw[M]at Q;cases Q;refine⟨s4,by simp,λ off ho=>?_⟩;rw[J]at ho;rw[qB8 (by omega)];split
   .rfl
   .rw[if_neg (by omega)])
  (λ j y W=>by
   have aa:j<4:=by have:=getElem?_lt W;rwa [yi .term x]at this
   let⟨u,hu,S⟩:=(qhn hx).get W;refine⟨u,?_,S,qoU (hx.one rfl) u (wb hu)⟩;rw[J,qB8 (by omega),if_neg (by omega),if_pos (by omega),show ks.length*4+j-ks.length*4=j by omega];exact hu) l rfl rfl rfl (by simp) (wa _) σ.wrr
 refine⟨Γ.cur r,m,f3,Y,A,λ j W=>⟨vs[ks.length*4+j]'(by omega),?_⟩,λ j=>frozen_of_row w _ j _ _ M,Γ',_,p,⟨h.x.trans p,z2,h.bx⟩,?_⟩
 .rw[QU M,Array.getElem?_eq_getElem]
 .let⟨p1,p2⟩:=f.priv.ext p (qcB f.own).2;refine⟨by rw[wH];exact f.len,f.nd,p1,by rw[wH];exact qlu f.own p2,λ i t' n' P E d=>?_⟩;rw[List.getElem?_set]at E;split at E
  .rename_i e;subst e;rw[if_pos (getElem?_lt hq)]at E;cases E;rw[hr]at d;cases d;refine⟨{R with c:=R.c.set ks.length (qd .term x)},_,List.getElem?_set_self (getElem?_lt e1),J,e3,e4,?_,?_,f0,f1,f2,f3,f4⟩
   .show R.c.set ks.length (qd .term x)=(ks++[x]).map (qd .term);rw[e5,K,wW,wW];simp
   .have:=e6.mono p.le;show Rep Γ' (.rs r 0 (ks++[x]).length R.ver false) _;rw[wd];exact this
  .rename_i e;refine(f.node i t' n' P E d).later p.le λ R' Z=>?_
   have U:P≠r:=λ e'=>by
    have:=(List.getElem?_inj (getElem?_lt d) f.nd).1 (d.trans (e'▸hr.symm));omega
   show(σ.rw.set r _)[P]?=_;rw[List.getElem?_set_ne (λ e=>U e.symm)];exact Z
end
end Go.AmZ
namespace Go.AmZ
open Go Go.RowKit Go.GxZ
theorem qnB{P:Program}{o:Oper}{a:Act}{w:World}{K:Act->World->Prop}{Q:Exit->Act->World->Prop}(s x:Operand)(t:TypeId)(c:o.op=Op.call {callee:=Callee.builtin Builtin.append,args := #[s,x],argTypes := #[t,t]}){v d e:Value}{w':World}(g:a.eval s=v)(f:a.eval x=d)
  (b:(Builtin.append_ #[t,t] o.type #[v,d]).run P w=.ok e w') (h:K (a.put o.dst e) w'):Oper.wp P o a w K Q:=by
 unfold Oper.wp;simp[execOp,c,resolve,invoke,builtin,g,f,b,Result.andThen];exact h
theorem qn1{P:Program}{ops:Array Oper}{o:Oper}{a:Act}{w:World}{K:Act->World->Prop}{Q:Exit->Act->World->Prop}{E:Prop}(h:o.guard=none)(s x:Operand)(t:TypeId)(c:o.op=Op.call {callee:=Callee.builtin Builtin.append,args := #[s,x],argTypes := #[t,t]}){v d e:Value}{w':World}(g:a.eval s=v)(f:a.eval x=d)
  (b:(Builtin.append_ #[t,t] o.type #[v,d]).run P w=.ok e w') (i:K (a.put o.dst e) w'):if Region.wanted o (yielded ops a.tmps)=true then Oper.wp P o a w K Q else E:=by
 rw[if_pos (by simp[Region.wanted,h])];exact qnB s x t c g f b i
theorem qy3{P:Program}{ops:Array Oper}{b:List Oper}{o:Oper}{a:Act}{w:World}{Q:Exit->Act->World->Prop}(s x:Operand)(t:TypeId)(j:o.guard=none)(d:o.op=Op.call {callee:=Callee.builtin Builtin.append,args := #[s,x],argTypes := #[t,t]}){v e f:Value}{w':World}(i:a.eval s=v)(g:a.eval x=e)
  (c:(Builtin.append_ #[t,t] o.type #[v,e]).run P w=.ok f w') (k:wpList P ops Q b (a.put o.dst f) w'):wpList P ops Q (o::b) a w:=by
 have h:Region.wanted o (yielded ops a.tmps)=true:=by simp[Region.wanted,j]
 unfold wpList;rw[if_pos h];exact .inl (qnB s x t d i g c k)
abbrev qj4:=(Val RD×Unit)×((Int×List UInt8×Int×List T×Int×Unit)×Unit)
def qer(F:Val RD->Option qj4)(rd:Val RD):Option (Val RD×(Int×List UInt8×Int×Int)):=match F rd with
 |some (r,v)=>match v.1.2.2.2.1 with
   |[]=>some (r.1,v.1.1,v.1.2.1,v.1.2.2.1,v.1.2.2.2.2.1)
   |_::_=>none
 |none=>none
def qmR(F:Val RD->Option qj4)(c:List (T×Int)->Val RD->Option ((Val RD×Unit)×(T×Unit)))(b:List (T×Int))(rd:Val RD):Option ((Val RD×Unit)×(T×Unit)):=
 cond rd.2.2 (some ((rd,()),(T.mk 0 [] 0 [],()))) (qb b[b.length-1]? λ a=>cond (ilt 0 a.2)
  (cond (zC (b.length+1) 64) (qb (qer F rd) λ h=>c (b.set (b.length-1) (a.1,iw .i64 (yk a.2 1))++[(T.mk h.2.1 h.2.2.1 h.2.2.2.1 [],h.2.2.2.2)]) h.1) none)
  (cond (Nat.beq b.length 1) (some ((rd,()),(a.1,()))) (qb b[b.length-2]? λ p=>cond (zC (p.1.kids.length+1) 56) (c (b.take (b.length-2)++[(T.mk p.1.kind p.1.name p.1.sort (p.1.kids++[a.1]),p.2)]) rd) none)))
def qkm(F:Val RD->Option qj4):Nat->List (T×Int)->Val RD->Option ((Val RD×Unit)×(T×Unit)):=qM (λ _ _=>none) (qmR F)
def qou(F:Val RD->Option qj4)(k:Nat)(rd:Val RD):Option ((Val RD×Unit)×(T×Unit)):=qb (qer F rd) λ h=>qkm F k [(T.mk h.2.1 h.2.2.1 h.2.2.2.1 [],h.2.2.2.2)] h.1
theorem qtz{F:Val RD->Option qj4}{rd f:Val RD}{nk sk lf:Int}{nm:List UInt8}(h:qer F rd=some (f,nk,nm,sk,lf)):F rd=some ((f,()),((nk,nm,sk,[],lf,()),())):=by
 unfold qer at h;split at h<;>try cases h
 rename_i r v i;split at h<;>cases h;rename_i g;let⟨⟨a,b,c,d,e,_⟩,_⟩:=v;let⟨r,_⟩:=r;have g:d=[]:=g;subst g;exact i
theorem qGU{F:Val RD->Option qj4}{g:List (T×Int)->Val RD->Option ((Val RD×Unit)×(T×Unit))}{c:List (T×Int)}{rd:Val RD}{r:(Val RD×Unit)×(T×Unit)}(h:qmR F g c rd=some r):
  (rd.2.2=true/\r=((rd,()),(T.mk 0 [] 0 [],())))\/rd.2.2=false/\∃p b lt,c.length=p+1/\c[p]?=some (b,lt)/\
   ((0<lt/\zC (p+2) 64=true/\∃d nk nm sk lf,F rd=some ((d,()),((nk,nm,sk,[],lf,()),()))/\g (c.set p (b,iw .i64 (yk lt 1))++[(T.mk nk nm sk [],lf)]) d=some r)\/
    ¬ 0<lt/\((p=0/\r=((rd,()),(b,())))\/∃q a n,p=q+1/\c[q]?=some (a,n)/\zC (a.kids.length+1) 56=true/\g (c.take q++[(T.mk a.kind a.name a.sort (a.kids++[b]),n)]) rd=some r)):=by
 unfold qmR at h;cases m:rd.2.2 with
 |true=>rw[m]at h;exact .inl ⟨rfl,(kQ h).symm⟩
 |false=>
   rw[m]at h;refine .inr ⟨rfl,?_⟩;cases e:c[c.length-1]? with
   |none=>rw[e]at h;cases h
   |some x=>
     let⟨b,lt⟩:=x;have o:=getElem?_lt e;obtain⟨p,s⟩:∃p,c.length=p+1:=⟨c.length-1,by omega⟩
     rw[s]at h e;simp only[xW]at h e;rw[e]at h;refine⟨p,b,lt,s,e,?_⟩;have h:cond (ilt 0 lt) _ _=some r:=h;cases i:ilt 0 lt with
     |true=>
       rw[i]at h;have h:cond (zC (p+1+1) 64) (qb (qer F rd) _) none=some r:=h;cases f:zC (p+1+1) 64 with
       |false=>rw[f]at h;cases h
       |true=>
         rw[f]at h;refine .inl ⟨of_decide_eq_true i,rfl,?_⟩;have h:qb (qer F rd) _=some r:=h;cases l:qer F rd with
         |none=>rw[l]at h;cases h
         |some y=>
           let⟨d,nk,nm,sk,lf⟩:=y;rw[l]at h;exact⟨d,nk,nm,sk,lf,qtz l,h⟩
     |false=>
       rw[i]at h;refine .inr ⟨of_decide_eq_false i,?_⟩;have h:cond (Nat.beq (p+1) 1) (some ((rd,()),(b,()))) _=some r:=h;cases j:Nat.beq (p+1) 1 with
       |true=>
         rw[j]at h;exact .inl ⟨by have:=wn j;omega,(kQ h).symm⟩
       |false=>
         rw[j]at h;obtain⟨q,rfl⟩:∃q,p=q+1:=⟨p-1,by cases p with|zero=>cases j|succ q=>rfl⟩
         have h:qb c[q+1+1-2]? _=some r:=h;rw[show q+1+1-2=q by omega]at h;cases k:c[q]? with
         |none=>rw[k]at h;cases h
         |some y=>
           let⟨a,n⟩:=y;rw[k]at h;have h:cond (zC (a.kids.length+1) 56) (g (c.take (q+1+1-2)++_) rd) none=some r:=h;rw[show q+1+1-2=q by omega]at h;cases f:zC (a.kids.length+1) 56 with
           |false=>rw[f]at h;cases h
           |true=>rw[f]at h;exact .inr ⟨q,a,n,rfl,k,f,h⟩
theorem qzM{Γ Γ':Gh}(q:∀b o u,Γ.mem b o=some u->Γ'.mem b o=some u){x:AV}{u:Value}(h:Rep Γ x u):qu x=true->Rep Γ' x u:=by
 induction h with
 |v x h=>exact λ _=>.v x h
 |sl k es f a n cap b o us p t s r l y w g z m=>
   exact λ _=>.sl k es f a n cap b o us p t s r l y w (λ i e j x d c=>q _ _ _ (g i e j x d c)) (λ i e j x d c=>m i e j x d c (l e (wb d) x (wb c)))
 |_=>intro h;cases h
section
variable {P:Program}{Γ0 Γ:Gh}{σ0 σ:St}{w0 w:World}{rd:Val RD}
theorem qJQ(G:Inv Γ0 σ0 w0)(p:σ0.bx.length=1)(c:σ0.rw=[])(h:RS Γ0 w0 rd Γ σ w){t:T}{us:List Value}(s:RepL Γ (qd .term t) us)(F:∀u∈us,u.oneCell'=true):
  ∃v Γ',(Ending.returned (.agg us.toArray):Ending)=.returned v/\Ext Γ0 w0 Γ' w/\Inv Γ' (turn σ0 (some ⟨[qd RD rd],[],List.range σ0.bx.length,List.range σ0.rw.length⟩)) w/\Rep Γ' (yQ .term t) v/\qO {σ0 with wr:=[],wrr:=[]} (turn {σ0 with wr:=[],wrr:=[]} (some ⟨[qd RD rd],[],List.range σ0.bx.length,List.range σ0.rw.length⟩)):=by
 let⟨q,g,C,r⟩:= σ0;have c:g=[]:=c;subst c;obtain⟨y,rfl⟩:∃y,q=[y]:=xX.1 p
 let⟨m,B,H,A,z⟩:=qri G h.x h.i (by rw[h.bx];exact wa _) [qd RD rd] [] rfl (by simp) k8 [] [] (λ i cs d=>by
  cases i with
  |succ i=>cases d
  |zero=>
    cases d;refine⟨qd RD rd,by rw[h.bx];rfl,(λ h=>nomatch (show true=false from h)),λ m n _ us f=>⟨f.len,λ j x u e k=>qzM (Γ:=Γ) (Γ':=jT Γ m 1 [] 0 []) (λ b o u l=>n.le.mem b o u l) (f.rep j x u e k) (zr RD rd x (wb e))⟩⟩) (λ a so R h=>by cases h) (λ a b j R R' h=>by cases h) [0] []
 refine⟨_,_,rfl,A,z,.agg _ us s.len F λ i x u e f=>qzM (Γ:=Γ) (Γ':=jT Γ m 1 [] 0 []) (λ b o u n=>B.le.mem b o u n) (s.rep i x u e f) (zr .term t x (wb e)),wa _,wa _,λ i d E=>?_,λ i d _=>absurd d (wK _),λ i h=>(by cases h),λ i h=>(by cases h)⟩;have:i=0:=by have:i<1:=d;omega
 exact absurd (by rw[this];exact wF.2 rfl) E
theorem qME{B N:Nat}{m:List (T×Int)}{c:List Nat}{g cap:Nat}{cs:List Value}{q:TypeId}{i:TypeInfo}{z:Value}(J:P.underlying q=some (.slice N))(M:P.info? N=some i)(I:i.zero=some z)(x:i.size=5)(F:i.bytes=64)(v:z.cells.size=5)
  (h:RS Γ0 w0 rd Γ σ w) (s:Stk B N Γ σ w m c g cap cs) (Y:w0.heap.size<=B) {nk sk lf:Int}{nm:List UInt8}{n:Value}{r:Nat} (U:σ.rw[r]?=some ⟨4,[],0,0,false⟩) (o:Rep Γ (.rs r 0 0 0 false) n) (K:r ∉ c) (d:zC (m.length+1) 64=true) (ty:TypeId):
  ∃t w',(Builtin.append_ #[q,q] ty #[.slice (some ⟨g,0,none⟩) m.length cap,.slice (some ⟨w.heap.size,0,none⟩) 1 1]).run P (w.alloc (.cells #[.int .i64 nk,.string ⟨nm.toArray⟩,.int .i64 sk,n,.int .i64 lf] N))=.ok t w'/\
  ∃l a,t=.slice (some ⟨l,0,none⟩) ((m.length+1:Nat)) a/\RS Γ0 w0 rd Γ σ w'/\Stk B N Γ σ w' (m++[(.mk nk nm sk [],lf)]) (c++[r]) l a (cs++[.int .i64 nk,.string ⟨nm.toArray⟩,.int .i64 sk,n,.int .i64 lf])/\
   w.heap.size<=w'.heap.size/\(∀b,b<w.heap.size->b≠g->w'.heap[b]?=w.heap[b]?)/\(l=g\/w.heap.size<=l):=by
 have S:=s.own.alloc (.cells #[.int .i64 nk,.string ⟨nm.toArray⟩,.int .i64 sk,n,.int .i64 lf] N);have A:=of_decide_eq_true d;have V:=qcB s.own
 let⟨t,w',e1,X,p,H⟩:=qls (P:=P) (w.alloc (.cells #[.int .i64 nk,.string ⟨nm.toArray⟩,.int .i64 sk,n,.int .i64 lf] N)) B q ty N i z 5 64 J M I x F v (by decide) _ m.length cs S ⟨w.heap.size,0,none⟩ 1 1 [.int .i64 nk,.string ⟨nm.toArray⟩,.int .i64 sk,n,.int .i64 lf] rfl
  (λ j u L=>by rw[qCz,World.cell?_alloc_mark];simpa using L) (λ u G=>by
   simp only[wx,xd,or_false]at G;obtain rfl|rfl|rfl|rfl|rfl:=G<;>first|rfl|exact o.one rfl) (by unfold maxLen;omega) (by have:=A.1;omega) (by simp;omega)
 have E:=GxZ.run_drawn _ e1;have f:w.grownBy w' (some g):=⟨p.os,p.tape,p.output,by have:=p.size;simp at this;omega,λ k D C=>(p.block k (by simp;omega) C).trans (Below.heap_alloc _ _ _ D)⟩
 have W:=RS.grown h f (λ b e=>by cases e;exact⟨s.priv,by omega⟩) E;obtain⟨l,a,rfl,y⟩:=Stk.push (Γ:=Γ) (σ:=σ) s (r:=r) (R:=⟨4,[],0,0,false⟩) U rfl rfl rfl rfl o K X (H.imp id λ O k D=>qeG.new h.i (by have:=O k D;simp at this;omega));refine⟨_,w',e1,l,a,rfl,W,y,f.size,λ b Q C=>f.block b Q (λ e=>C (by cases e;rfl)),?_⟩;obtain e|e:=H
 .cases e;exact .inl rfl
 .have:=e l rfl;simp at this;exact .inr (by omega)
theorem qOB{B N:Nat}(h:RS Γ0 w0 rd Γ σ w)(f:B<=w.heap.size){nk sk lf:Int}{nm:List UInt8}{a:Value}{r:Nat}(e:σ.rw[r]?=some ⟨4,[],0,0,false⟩)(c:Rep Γ (.rs r 0 0 0 false) a):
  RS Γ0 w0 rd Γ σ (w.alloc (.cells #[.int .i64 nk,.string ⟨nm.toArray⟩,.int .i64 sk,a,.int .i64 lf] N))/\Stk B N Γ σ (w.alloc (.cells #[.int .i64 nk,.string ⟨nm.toArray⟩,.int .i64 sk,a,.int .i64 lf] N)) [(.mk nk nm sk [],lf)] [r] w.heap.size 1 [.int .i64 nk,.string ⟨nm.toArray⟩,.int .i64 sk,a,.int .i64 lf]:=by
 refine⟨h.alloc _,rfl,by simp,qeG.new h.i (wa _),World.ownsRow_lit w #[.int .i64 nk,.string ⟨nm.toArray⟩,.int .i64 sk,a,.int .i64 lf] 1 f (by decide) rfl,λ i t n g d b=>?_⟩;cases i with
 |succ i=>cases d
 |zero=>
   cases d;cases b;exact⟨_,a,e,rfl,rfl,rfl,rfl,c,rfl,rfl,rfl,rfl,rfl⟩
theorem Stk.id_lt{B N:Nat}{b:List (T×Int)}{a:List Nat}{g cap:Nat}{cs:List Value}(c:Stk B N Γ σ w b a g cap cs):σ.rw.length ∉ a:=λ h=>by
 let⟨i,d⟩:=vR.1 h;have e:i<b.length:=by rw[<-c.len];exact getElem?_lt d
 let⟨R,_,f,_⟩:=c.node i _ _ _ (List.getElem?_eq_getElem e) d;exact absurd (getElem?_lt f) (vM _)
def qcs(Γ:Gh)(w:World)(b:Nat)(e:TypeId):Prop:=qeG Γ b/\b<w.heap.size/\w.heap[b]?=some (.cells #[.int .i64 0,.string ⟨#[]⟩,.int .i64 0,.slice none 0 0] e (0,0))
theorem qcs.cells{b:Nat}{e:TypeId}(h:qcs Γ w b e):w.cell? ⟨b,0,none⟩=some (.int .i64 0)/\w.cell? ⟨b,1,none⟩=some (.string ⟨#[]⟩)/\w.cell? ⟨b,2,none⟩=some (.int .i64 0)/\w.cell? ⟨b,3,none⟩=some (.slice none 0 0)/\∀i,w.frozen? ⟨b,i,none⟩=false:=by
 let⟨_,_,h⟩:=h;have a:=QU h;exact⟨a 0,a 1,a 2,a 3,λ i=>frozen_of_row w b i _ _ h⟩
theorem qcs.ext{Γ':Gh}{w':World}{b:Nat}{e:TypeId}(h:qcs Γ w b e)(d:Ext Γ w Γ' w'):qcs Γ' w' b e:=
 let⟨a,c⟩:=h.1.ext d h.2.1;⟨a,wC h.2.1 d.size,c.trans h.2.2⟩
theorem qcs.same{w':World}{b:Nat}{e:TypeId}(h:qcs Γ w b e)(a:w.heap.size<=w'.heap.size)(c:w'.heap[b]?=w.heap[b]?):qcs Γ w' b e:=⟨h.1,wC h.2.1 a,c.trans h.2.2⟩
theorem Stk.drew{B N:Nat}{b:List (T×Int)}{a:List Nat}{g cap:Nat}{cs:List Value}(h:Stk B N Γ σ w b a g cap cs):Stk B N Γ σ w.drew b a g cap cs:=⟨h.len,h.nd,h.priv,qlu h.own rfl,h.node⟩
theorem qcs.drew{b:Nat}{e:TypeId}(h:qcs Γ w b e):qcs Γ w.drew b e:=h
theorem RS.drew'(h:RS Γ0 w0 rd Γ σ w):RS Γ0 w0 rd Γ σ w.drew:=h.drew
end
end Go.AmZ
namespace Go.AmZ
open Go Go.GxZ
set_option linter.unusedVariables false
set_option maxRecDepth 100000
noncomputable section
abbrev Z1:=Option (List (Y8×(Int×Int)))
abbrev Z2:=Option (Bool)
abbrev Z3:=Option (((Y8×(Int×Bool))×Unit)×((Int)×Unit))
abbrev Z4:=Y8×(Int×Bool)
abbrev Z5:=Option (((Y8×(Int×Bool))×Unit)×((Y8)×Unit))
abbrev Z6:=List UInt8
abbrev Z7:=Int->Int->Int->Z6->Int->Bool->Z5
abbrev Z8:=Option (((Y8×(Int×Bool))×Unit)×(((Int)×(Y8)×(Int)×(List (T))×(Int)×Unit)×Unit))
abbrev Z9:=Int->Z2
abbrev Z10:=Z6->Int->Int->Z2
abbrev Z11:=Y8->Z2
abbrev Z12:=Option (((Int)×(Int)×Unit)×((Int)×Unit))
abbrev Z13:=T->Int->Int->Int->Z12
abbrev Z14:=List (T)
abbrev Z15:=Int->Z14->Int->Int->Int->Int->Z12
abbrev Z16:=Option (Int)
abbrev Z17:=T->Z16
abbrev Z18:=Option (Y8×(Int×(Int×Int)))
abbrev Z19:=List (Y8×(Int×(Int×Int)))
abbrev Z20:=Z6->Z19->Int->Int->Z6->Int->Int->Int->Z18
abbrev Z21:=Z14->Int->Int->Int->Z6->Int->Z14->Z16
abbrev Z22:=Z14->Int->Int->Z16
abbrev Z23:=Int->Z14->Int->Int->Z16
abbrev Z24:=T->T->Z16
abbrev Z25:=Int->Int->Int->Z6->Int->Z14->Int->Z6->Int->Z14->Z16
abbrev Z26:=T->T->Z2
abbrev Z27:=Option (T)
abbrev Z28:=T->Z27
abbrev Z29:=Option (TL)
abbrev Z30:=(List (TL))->Int->(List (TL))->Int->Int->Z29
abbrev Z31:=(List (TL))->Int->Int->Z14->Z29
abbrev Z32:=Z14->Z14->Z14->Z29
abbrev Z33:=T->Z29
abbrev Z34:=Z14->Z14->Int->Int->Z29
abbrev Z35:=Z14->Int->Int->Int->Z6->Int->Int->Z6->Int->Z14->Z14->Z27
abbrev Z36:=Option ((T)×(Int))
abbrev Z37:=(List (Int))->Int->Int->Int->Z6->Int->Z14->Int->Z6->Int->Int->Z6->Int->Z14->Z14->Z36
abbrev Z38:=TL->Z29
abbrev Z39:=Z14->Int->Int->Z14->Z29
abbrev Z40:=Z14->Z14->Int->Int->Int->Z6->Int->Z14->Z36
abbrev Z41:=T->Z2
abbrev Z42:=Int->Int->Int->Z6->Int->Int->Z6->Int->Z14->Z14->Z27
abbrev Z43:=Option ((Int)×(Bool))
abbrev Z44:=List (T×Int)
abbrev Z45:=Z44->Int->Int->Int->Int->Z6->Int->Z14->Z43
abbrev Z46:=Option ((Unit)×((List (T×Int))×Unit))
abbrev Z47:=Option ((Unit)×((List (T×Int))×(Bool)×Unit))
abbrev Z48:=Z44->T->Int->Z47
abbrev Z49:=Int->Z14->Int->Int->Z44->Z47
abbrev Z50:=Option ((List (T×Int))×(Int))
abbrev Z51:=T->Z50
abbrev Z52:=Z44->Z44->Int->Int->Z16
abbrev Z53:=Z44->Z16
abbrev Z54:=Y8->TL->Z27
abbrev Z55:=Z44->Int->Int->Int->Z6->Int->Z14->Z14->Z14->Z36
abbrev Z56:=Z44->Int->Int->Int->Int->Int->Z6->Int->Int->Z6->Int->Z14->Int->Z14->Z14->Z14->Z36
abbrev Z57:=Z44->Z36
abbrev Z58:=Z44->Int->Int->Z44->Z46
abbrev Z59:=Z44->Int->Int->Z16
abbrev Z60:=Z44->Int->Int->Z44->Z50
abbrev Z61:=Z44->Z44->Z50
abbrev Z62:=T->T->Z36
abbrev Z63:=T->Z36
abbrev Z64:=Z14->Int->Int->Int->Z6->Int->Z14->Int->Z6->Int->Int->Z6->Int->Z14->Z14->Z36
abbrev Z65:=Z14->Int->Int->Z2
abbrev Z66:=Option ((T)×((Int)×(Int)))
abbrev Z67:=Option (((Int)×(List (T))×Unit)×(Unit))
abbrev Z68:=T->Int->Z14->Z67
abbrev Z69:=Z14->Int->Int->Int->Z14->Z67
abbrev Z70:=Option ((Unit)×((List (T))×Unit))
abbrev Z71:=Int->Int->Z14->Z70
abbrev Z72:=Option (((T)×Unit)×((Bool)×Unit))
abbrev Z73:=Option (((T)×Unit)×((Int)×Unit))
abbrev Z74:=(List (Y8×(Int×Int)))->Int->Int->Int->Z6->Int->Z14->Z73
abbrev Z75:=Option ((Unit)×((List (Int))×Unit))
abbrev Z76:=(List (Int))->T->Z75
abbrev Z77:=Z14->Int->Int->(List (Int))->Z75
abbrev Z78:=Option ((Y8)×(Int))
abbrev Z79:=List (T×T)
abbrev Z80:=Z79->T->Z27
abbrev Z81:=Z79->Z79->Int->Int->Int->Z6->Int->Z14->Int->Z6->Int->Z14->Z27
abbrev Z82:=Z79->Z14->Int->Int->Int->Z6->Int->Int->Z6->Int->Z14->Z14->Z27
abbrev Z83:=Option (Y8)
abbrev Z84:=Int->Z83
abbrev Z85:=Option (((List (Y8×Y8))×Unit)×((T)×Unit))
abbrev Z86:=T->Y8->(List (Y8×Y8))->Z85
abbrev Z87:=Z6->Z14->Int->Int->(List (Y8×Y8))->Int->Z6->Int->Int->Z6->Int->Z14->Z14->Z85
abbrev Z88:=List ((Y8×Int)×T)
abbrev Z89:=Option (((List ((Y8×Int)×T))×Unit)×((T)×Unit))
abbrev Z90:=Z88->T->Z89
abbrev Z91:=Z14->Int->Int->Z88->Int->Z6->Int->Z14->Int->Z6->Int->Z14->Z14->Z89
abbrev Z92:=Option ((((List (T×T))×(List (T×T))×Unit)×Unit)×((Int)×Unit))
abbrev Z93:=Int->Int->Z79->Int->Z6->Int->Z14->Int->Z6->Int->Z14->Bool->Z88->Z79->Z79->Z92
abbrev Z94:=(List (T×T))×(List (T×T))×Unit
abbrev Z95:=Z94->T->T->Z92
abbrev Z96:=TL->T->Z72
abbrev Z97:=T->T->Z72
abbrev Z98:=TL->T->Z73
abbrev Z99:=Z14->Int->Int->Int->Z6->Int->Z14->Z73
abbrev qQg:=Int->Int->Z79->Int->Z6->Int->Z14->Int->Z6->Int->Z14->Z79->Z79->Z92
abbrev qQl:=Option ((Unit)×((List (T×T))×Unit))
abbrev qy9:=Option ((List (T×T))×(Int))
abbrev qP2:=Z79->Z79->qy9
abbrev qx8:=Option ((Int)×((Int)×((T)×(Int))))
abbrev qLa:=Z14->Int->Int->Int->Z6->Int->Z14->qx8
abbrev qLY:=Z14->Int->Int->Int->Int->Int->Z6->Int->Int->Z6->Int->Z14->Z14->qx8
abbrev qze:=Int->Int->Int->Z6->Int->Z14->Z16
abbrev qPI:=Int->Int->Z6->Int->Z14->Int->Z6->Int->Z14->Z16
abbrev qG5:=T->Int->Z16
abbrev qQz:=Z6->Int->Z2
abbrev qH3:=Int->Int->Z6->Int->Z14->Z16
abbrev qQu:=Option (List (Y8×(Int×(Int×Int))))
abbrev qPU:=Z6->Z19->Int->Z16
abbrev qPw:=Z19->Int->Int->Z6->Int->Z14->Z2
abbrev qQe:=Int->Int->Z6->Int->Z14->Z2
abbrev qPj:=Int->Int->Z6->Int->Z14->Z14->Z29
abbrev qq3:=Option ((T)×(Bool))
abbrev qOQ:=Z14->Int->Int->Z6->Int->Z14->Z16
abbrev qPu:=Z14->Bool->Int->Int->Z6->Int->Z14->Z14->Z29
abbrev qPc:=Z14->Int->Int->Z6->Int->Z14->Z2
abbrev qQp:=Z14->Int->Int->Z6->Int->Z14->Z14->Z29
abbrev qH0:=Z14->Z14->Int->Z29
abbrev qQm:=Z14->Int->Int->Z6->Int->Z14->Z29
abbrev qQa:=Z14->Z14->Int->Int->Z6->Int->Z14->Z36
abbrev qPm:=Int->Int->Int->Z6->Int->Z14->Z2
abbrev qO1:=Int->Bool->Int->Int->Z6->Int->Z14->Z44->Z44->Z46
abbrev qDU:=Z44->T->Int->Z46
abbrev qO5:=Int->Int->Int->Z6->Int->Z14->Z44->Z46
abbrev qHP:=Z44->Int->Z16
abbrev qnd:=Z44->Int->Z14->Z29
abbrev qnn:=Z44->Int->Int->Z14->Z29
abbrev qQb:=Z44->Int->Z44->Z50
abbrev qPv:=Int->Int->Z6->Int->Z14->Int->Z6->Int->Z14->Z14->Z36
abbrev qPt:=Z14->Int->Z2
abbrev qPl:=Int->Z14->Int->Z14->Z29
abbrev qPT:=Z6->(List (Y8))->Int->Z16
abbrev qH1:=T->Z83
abbrev qP4:=Z6->Int->Int->Z6->Int->Z14->Z83
def qdI(m:Nat):Z1:=
 some [([112,97,105,114],(2,2)),([101,110,99],(2,2)),([97,101,110,99],(2,2)),([112,107],(1,1)),([115,105,103,110],(2,2)),([104,97,115,104],(1,1)),([120,111,114],(2,8)),([122,101,114,111],(0,0)),([101,120,112],(2,2)),([109,117,108],(2,8)),([105,110,118],(1,1)),([111,110,101],(0,0)),([115,107],(1,1)),([115,104,107],(2,2)),([110,101,119],(1,8))]
def yt:Nat->(Z1):=qh (none) λ m _=>qdI m
def QE(m:Nat)(a:Y8×(Int×Int)):Z2:=
 some (qe (ieq a.2.1 a.2.2))
def yz:Nat->((Y8×(Int×Int))->Z2):=qh (λ _=>none) λ m _=>QE m
def qbt(m:Nat)(a:Y8×(Int×Bool))(c g:Int):Z3:=
 let b:Z3:=(some (((a.1,(a.2.1,true)),()),(c,())));cond a.2.2 b (cond (ile a.1.length a.2.1) b (qb (qf a.1 a.2.1) λ f=>
 cond (ilt (iw .i64 ((UInt8.toNat f:Nat):Int)) c) b (qb (qf a.1 a.2.1) λ e=>
 cond (ilt g (iw .i64 ((UInt8.toNat e:Nat):Int))) b (qb (qf a.1 (iw .i64 (yk (iw .i64 (qi a.2.1 1)) 1))) λ d=>
 some (((a.1,(iw .i64 (qi a.2.1 1),a.2.2)),()),(iw .i64 ((UInt8.toNat d:Nat):Int),()))))))
def zk:Nat->(Z4->Int->Int->Z3):=qh (λ _ _ _=>none) λ m _=>qbt m
def Jt(m:Nat)(c:Z7)(b:Y8×(Int×Bool)):Z5:=
 qb (zk m (b.1,(b.2.1,b.2.2)) 1 24) λ a=>c a.1.1.2.1 a.2.1 0 a.1.1.1 a.1.1.2.1 a.1.1.2.2
def Qj(m:Nat)(l:Z7)(g h f:Int)(c:Y8)(a:Int)(e:Bool):Z5:=
 cond (ilt f h) (let d:Z5:=(some (((c,(a,true)),()),([],())));cond e d (cond (ile c.length a) d (qb (qf c a) λ b=>let j2:Z5:=
 (l g h (iw .i64 (qi f 1)) c (iw .i64 (qi a 1)) e);let k:Z5:=(let j:Z5:=(cond (ieq f 0) d (let i:Z5:=(cond (qe (ieq ((UInt8.toNat b:Nat):Int) 95))
 (cond (qe (ieq ((UInt8.toNat b:Nat):Int) 35)) d j2) j2);cond (ilt ((UInt8.toNat b:Nat):Int) 48) i (cond (ilt 57 ((UInt8.toNat b:Nat):Int)) i j2)));cond (ile 65 ((UInt8.toNat b:Nat):Int))
 (cond (qe (ile ((UInt8.toNat b:Nat):Int) 90)) j j2) j);cond (ile 97 ((UInt8.toNat b:Nat):Int)) (cond (ile ((UInt8.toNat b:Nat):Int) 122) j2 k) k))) (cond (inb a c.length)
 (cond (inb g (Int.toNat a)) (some (((c,(a,e)),()),(qa9 c g a,()))) none) none)
def yj(m:Nat):=qM (λ _ _ _ _ _ _=>none) λ a=>Qj m a
def Q5:Nat->(Z4->Z5):=qh (λ _=>none) λ m _=>Jt m (yj m m)
def Qk(m:Nat)(a:Y8×(Int×Bool)):Z8:=
 let g:Z8:=(qb (yt m) λ j=>qb (yt m) λ i=>qb (zk m (a.1,(a.2.1,a.2.2)) 16 (iw .i64 (yk (iw .i64 (qi 16 i.length)) 1))) λ c=>
 qb (qf j (iw .i64 (yk c.2.1 16))) λ b=>qb (yz m (b.1,(b.2.1,b.2.2))) λ h=>
 cond h (qb (zk m (c.1.1.1,(c.1.1.2.1,c.1.1.2.2)) b.2.1 b.2.2) λ d=>some (((d.1.1.1,(d.1.1.2.1,d.1.1.2.2)),()),((3,b.1,0,[],d.2.1,()),())))
 (some (((c.1.1.1,(c.1.1.2.1,c.1.1.2.2)),()),((3,b.1,0,[],b.2.1,()),()))));cond (ilt a.2.1 a.1.length) (qb (qf a.1 a.2.1) λ k=>cond (ile ((UInt8.toNat k:Nat):Int) 5)
 (qb (zk m (a.1,(a.2.1,a.2.2)) 0 5) λ f=>qb (Q5 m (f.1.1.1,(f.1.1.2.1,f.1.1.2.2))) λ e=>
 some (((e.1.1.1,(e.1.1.2.1,e.1.1.2.2)),()),((2,e.2.1,f.2.1,[],0,()),()))) g) g
def qw:Nat->(Z4->Z8):=qh (λ _=>none) λ m _=>Qk m
def jC:Nat->Val RD->Option ((Val RD×Unit)×(T×Unit)):=qh (λ _=>none) λ m _=>qou (qw m) m
def qlv(m:Nat)(a:Int):Z2:=
 let d:Z2:=(let c:Z2:=(let b:Z2:=(cond (ieq a 95) (some true) (some (ieq a 35)));cond (ile 48 a) (cond (ile a 57) (some true) b) b);cond (ile 65 a) (cond (ile a 90) (some true) c) c);
 cond (ile 97 a) (cond (ile a 122) (some true) d) d
def qjh:Nat->Z9:=qh (λ _=>none) λ m _=>qlv m
def qe9(m:Nat)(i:Z10)(a:Y8):Z2:=
 cond (qx a []) (some false) (cond (ilt 24 a.length) (some false) (qb (qf a 0) λ h=>qb (qjh m ((UInt8.toNat h:Nat):Int)) λ g=>cond (qe g) (some false) (qb (qf a 0) λ f=>
 let b:Z2:=(qb (qf a 0) λ d=>cond (ieq ((UInt8.toNat d:Nat):Int) 95) (some false) (qb (qf a 0) λ c=>cond (ieq ((UInt8.toNat c:Nat):Int) 35) (some false) (i a a.length 0)));
 cond (ile 48 ((UInt8.toNat f:Nat):Int)) (qb (qf a 0) λ e=>cond (ile ((UInt8.toNat e:Nat):Int) 57) (some false) b) b)))
def qfl(m:Nat)(f:Z10)(c:Y8)(b a:Int):Z2:=
 cond (ilt a b) (qb (qf c a) λ e=>qb (qjh m ((UInt8.toNat e:Nat):Int)) λ d=>cond (qe d) (some false) (f c b (iw .i64 (qi a 1)))) (some true)
def QI(m:Nat):=qM (λ _ _ _=>none) λ a=>qfl m a
def qdB:Nat->Z11:=qh (λ _=>none) λ m _=>qe9 m (QI m m)
def qfU(m:Nat)(b:Z13)(i:Z15)(a:T)(d f e:Int):Z12:=
 let g:Z12:=(qb (qdB m a.name) λ h=>cond (qe h) (some ((iw .i64 (qi f 1),qnw e d,()),(2,()))) (cond (ilt 8 a.kids.length) (some ((iw .i64 (qi f 1),qnw e d,()),(3,())))
 (i d a.kids a.kids.length 0 (iw .i64 (qi f 1)) (qnw e d))));let c:Z12:=(some ((iw .i64 (qi f 1),qnw e d,()),(1,())));let j3:Z12:=
 (cond (ilt a.sort 0) c (cond (ilt 5 a.sort) c (cond (ilt 0 a.kids.length) c g)));cond (ieq a.kind 1) j3 (cond (ieq a.kind 2) j3 (cond (ieq a.kind 3) (cond (qe (ieq a.sort 0)) c g) c))
def qf3(m:Nat)(a:Z13)(j:Z15)(h:Int)(g:TL)(f c e d:Int):Z12:=
 cond (ilt c f) (qb (qf g c) λ i=>qb (a (re i) (iw .i64 (qi h 1)) e d) λ b=>cond (qe (ieq b.2.1 0)) (some ((b.1.1,b.1.2.1,()),(b.2.1,())))
 (j h g f (iw .i64 (qi c 1)) b.1.1 b.1.2.1)) (some ((e,d,()),(0,())))
def jK(m:Nat)(a:Z13):=qM (λ _ _ _ _ _ _=>none) λ b=>qf3 m a b
def yh:Nat->Z13:=qh (λ _ _ _ _=>none) λ m a=>qfU m a (jK m a m)
def qjz(m:Nat)(b:T):Z16:=
 qb (yh m (re b) 1 0 0) λ a=>cond (qe (ieq a.2.1 0)) (some a.2.1) (cond (ilt 400 a.1.1) (some 3) (cond (ilt 40 a.1.2.1) (some 3) (some 0)))
def zi:Nat->Z17:=qh (λ _=>none) λ m _=>qjz m
def qc3(m:Nat)(c:Z20)(b:Y8):Z18:=
 qb (qh8 0) λ a=>c b a a.length 0 [] 0 0 0
def qcY(m:Nat)(j:Z20)(e:Y8)(d:List (Y8×(Int×(Int×Int))))(c b:Int)(i:Y8)(h g f:Int):Z18:=
 cond (ilt b c) (qb (qf d b) λ a=>cond (qx a.1 e) (some (a.1,(a.2.1,(a.2.2.1,a.2.2.2)))) (j e d c (iw .i64 (qi b 1)) i h g f)) (some ([],(0,(0,0))))
def Q7(m:Nat):=qM (λ _ _ _ _ _ _ _ _=>none) λ a=>qcY m a
def qbu:Nat->(Y8->Z18):=qh (λ _=>none) λ m _=>qc3 m (Q7 m m)
def qdW(m:Nat)(b:Z17)(e:Z21)(d:Z22)(a:T):Z16:=
 cond (qe (ieq a.kind 3)) (some 0) (qb (qbu m a.name) λ c=>cond (ieq c.2.2.2 0) (some 10) (cond (ilt a.kids.length c.2.1) (some 6) (cond (ilt c.2.2.1 a.kids.length) (some 6)
 (cond (qx a.name [115,107]) (e a.kids a.kids.length 0 a.kind a.name a.sort a.kids) (cond (qx a.name [115,104,107]) (e a.kids a.kids.length 0 a.kind a.name a.sort a.kids)
 (cond (qx a.name [110,101,119]) (qb (qf a.kids 0) λ f=>cond (qe (ieq f.kind 2)) (some 10) (d a.kids a.kids.length 0)) (d a.kids a.kids.length 0)))))))
def qd1(m:Nat)(a:Z17)(k:Z21)(j:Z22)(e:TL)(d c i:Int)(h:Y8)(g:Int)(b:TL):Z16:=
 cond (ilt c d) (qb (qf e c) λ f=>cond (ieq f.kind 3) (some 10) (cond (qe (ieq f.sort 1)) (some 10) (k e d (iw .i64 (qi c 1)) i h g b))) (j b b.length 0)
def qdP(m:Nat)(a:Z17)(h:Z21)(g:Z22)(d:TL)(c b:Int):Z16:=
 cond (ilt b c) (qb (qf d b) λ f=>qb (a (re f)) λ e=>cond (qe (ieq e 0)) (some e) (g d c (iw .i64 (qi b 1)))) (some 0)
def qZ(m:Nat)(a:Z17):=qM ((λ _ _ _ _ _ _ _=>none,λ _ _ _=>none)) λ b=>(qd1 m a b.1 b.2,qdP m a b.1 b.2)
def qF:Nat->Z17:=qh (λ _=>none) λ m a=>qdW m a (qZ m a m).1 (qZ m a m).2
def qhe(m:Nat)(b:T):Z16:=
 qb (zi m (re b)) λ a=>cond (qe (ieq a 0)) (some a) (qb (qF m (re b)) λ c=>some c)
def qaZ:Nat->Z17:=qh (λ _=>none) λ m _=>qhe m
def qkP(m:Nat)(b a:Int):Z16:=
 cond (ilt b a) (some (-1)) (cond (ilt a b) (some 1) (some 0))
def qeC:Nat->(Int->Int->Z16):=qh (λ _ _=>none) λ m _=>qkP m
def qgQ(m:Nat)(a:Z17)(c:Z23)(b:T):Z16:=
 c 1 b.kids b.kids.length 0
def qhJ(m:Nat)(a:Z17)(h:Z23)(e:Int)(d:TL)(c b:Int):Z16:=
 cond (ilt b c) (qb (qf d b) λ g=>qb (a (re g)) λ f=>h (iw .i64 (qi e f)) d c (iw .i64 (qi b 1))) (some e)
def qbV(m:Nat)(a:Z17):=qM (λ _ _ _ _=>none) λ b=>qhJ m a b
def Qs:Nat->Z17:=qh (λ _=>none) λ m a=>qgQ m a (qbV m a m)
def qdY(m:Nat)(c:Z24)(e:Z25)(b a:T):Z16:=
 qb (Qs m (re b)) λ n=>qb (Qs m (re a)) λ l=>qb (qeC m n l) λ d=>let j1:Z16:=(qb (qeC m b.kids.length a.kids.length) λ k=>
 e k 0 b.kind b.name b.sort b.kids a.kind a.name a.sort a.kids);let h:Z16:=(qb (qeC m b.sort a.sort) λ i=>
 cond (ieq i 0) j1 (e i 0 b.kind b.name b.sort b.kids a.kind a.name a.sort a.kids));let j:Z16:=(qb (strings_Compare 0 b.name a.name) λ g=>
 cond (ieq g 0) h (cond (ieq g 0) j1 (e g 0 b.kind b.name b.sort b.kids a.kind a.name a.sort a.kids)));cond (ieq d 0) (qb (qeC m b.kind a.kind) λ f=>
 cond (ieq f 0) j (cond (ieq f 0) h (cond (ieq f 0) j1 (e f 0 b.kind b.name b.sort b.kids a.kind a.name a.sort a.kids))))
 (cond (ieq d 0) j (cond (ieq d 0) h (cond (ieq d 0) j1 (e d 0 b.kind b.name b.sort b.kids a.kind a.name a.sort a.kids))))
def qbN(m:Nat)(a:Z24)(p:Z25)(d b k:Int)(j:Y8)(i:Int)(c:TL)(h:Int)(g:Y8)(f:Int)(e:TL):Z16:=
 cond (ieq d 0) (cond (ilt b c.length) (qb (qf c b) λ o=>qb (qf e b) λ n=>qb (a (re o) (re n)) λ l=>p l (iw .i64 (qi b 1)) k j i c h g f e) (some d))
 (some d)
def Qf(m:Nat)(a:Z24):=qM (λ _ _ _ _ _ _ _ _ _ _=>none) λ b=>qbN m a b
def qy:Nat->Z24:=qh (λ _ _=>none) λ m a=>qdY m a (Qf m a m)
def qiA(m:Nat)(c b:T):Z2:=
 qb (qy m (re c) (re b)) λ a=>some (ieq a 0)
def JM:Nat->Z26:=qh (λ _ _=>none) λ m _=>qiA m
def qlI(m:Nat)(a:T)(b:Y8):Z2:=
 cond (ieq a.kind 3) (some (qx a.name b)) (some false)
def jw:Nat->(T->Y8->Z2):=qh (λ _ _=>none) λ m _=>qlI m
def qfG(m:Nat)(b:T):Z27:=
 qb (qf b.kids 0) λ a=>let j1:Z27:=(some (re b));let j2:Z27:=(qb (qf a.kids 0) λ I=>some (re I));let j3:Z27:=(cond (qx b.name [114,101,97,100])
 (qb (jw m (re a) [115,105,103,110]) λ p=>cond p j2 j1) j1);let j4:Z27:=(qb (jw m (re a) [112,97,105,114]) λ G=>cond G (qb (qf a.kids 1) λ F=>some (re F)) j1);
 let B:Z27:=(qb (jw m (re a) [112,97,105,114]) λ J=>cond J j2 j1);cond (ilt 1 b.kids.length) (qb (qf b.kids 1) λ c=>
 cond (qx b.name [102,115,116]) B (cond (qx b.name [115,110,100]) j4 (cond (qx b.name [100,101,99]) (qb (jw m (re a) [101,110,99]) λ E=>cond E (qb (qf a.kids 1) λ D=>
 qb (JM m (re D) (re c)) λ C=>cond C j2 j1) j1) (cond (qx b.name [97,100,101,99]) (qb (jw m (re a) [97,101,110,99]) λ A=>cond A (qb (qf a.kids 1) λ z=>
 qb (jw m (re z) [112,107]) λ y=>cond y (qb (qf a.kids 1) λ x=>qb (qf x.kids 0) λ w=>qb (JM m (re w) (re c)) λ v=>cond v j2 j1) j1) j1)
 (cond (qx b.name [111,112,101,110]) (qb (jw m (re a) [115,105,103,110]) λ u=>cond u (qb (jw m (re c) [112,107]) λ t=>cond t (qb (qf a.kids 1) λ s=>
 qb (qf c.kids 0) λ r=>qb (JM m (re s) (re r)) λ q=>cond q j2 j1) j1) j1) j3)))))
 (cond (qx b.name [102,115,116]) B (cond (qx b.name [115,110,100]) j4 (cond (qx b.name [100,101,99]) (qb (jw m (re a) [101,110,99]) λ o=>cond o (qb (qf a.kids 1) λ n=>
 qb (JM m (re n) (T.mk 0 [] 0 [])) λ l=>cond l j2 j1) j1) (cond (qx b.name [97,100,101,99]) (qb (jw m (re a) [97,101,110,99]) λ k=>
 cond k (qb (qf a.kids 1) λ j=>qb (jw m (re j) [112,107]) λ i=>cond i (qb (qf a.kids 1) λ h=>qb (qf h.kids 0) λ g=>qb (JM m (re g)
 (T.mk 0 [] 0 [])) λ f=>cond f j2 j1) j1) j1) (cond (qx b.name [111,112,101,110]) (qb (jw m (re a) [115,105,103,110]) λ e=>
 cond e (qb (jw m (T.mk 0 [] 0 []) [112,107]) λ d=>cond d (qb (qf a.kids 1) λ H=>none) j1) j1) j3)))))
def qcH:Nat->Z28:=qh (λ _=>none) λ m _=>qfG m
def jb(m:Nat)(b:Z30)(c:Z31)(a:List TL):Z29:=
 b a 0 a a.length 0
def jf(m:Nat)(i:Z30)(h:Z31)(c:List (TL))(b:Int)(e:List (TL))(d a:Int):Z29:=
 cond (ilt a d) (qb (qf e a) λ f=>cond (ilt (iw .i64 (qi b f.length)) 0) none (i c (iw .i64 (qi b f.length)) e d (iw .i64 (qi a 1)))) (qb (yV 0 b) λ g=>
 h c c.length 0 g.2.1)
def jc(m:Nat)(g:Z30)(f:Z31)(d:List (TL))(c b:Int)(a:TL):Z29:=
 cond (ilt b c) (qb (qf d b) λ e=>cond (zC (List.length a+List.length e) 56) (f d c (iw .i64 (qi b 1)) (a++e)) none) (some a)
def qn(m:Nat):=qM ((λ _ _ _ _ _=>none,λ _ _ _ _=>none)) λ a=>(jf m a.1 a.2,jc m a.1 a.2)
def zW:Nat->((List TL)->Z29):=qh (λ _=>none) λ m _=>jb m (qn m m).1 (qn m m).2
def qhz(m:Nat)(d:Z22)(b c:TL):Z16:=
 cond (ilt 200 b.length) (some 3) (qb (zW m [b,c]) λ a=>d a a.length 0)
def qhu(m:Nat)(f:Z22)(c:TL)(b a:Int):Z16:=
 cond (ilt a b) (qb (qf c a) λ e=>qb (zi m (re e)) λ d=>cond (qe (ieq d 0)) (some d) (f c b (iw .i64 (qi a 1)))) (some 0)
def qb2(m:Nat):=qM (λ _ _ _=>none) λ a=>qhu m a
def qmU:Nat->(TL->TL->Z16):=qh (λ _ _=>none) λ m _=>qhz m (qb2 m m)
def qiR(m:Nat)(c:Z32)(b a:TL):Z29:=
 c b a []
def qiE(m:Nat)(d:Z32)(a b c:TL):Z29:=
 let f:Z29:=(cond (zC (List.length c+List.length a) 56) (cond (zC (List.length (c++a)+List.length b) 56) (some ((c++a)++b)) none) none);cond (ilt 0 a.length) (cond (ilt 0 b.length)
 (qb (qf a 0) λ j=>qb (qf b 0) λ i=>qb (qy m (re j) (re i)) λ e=>cond (ilt e 0) (qb (qf a 0) λ h=>cond (zC (List.length c+1) 56) (cond (inb a.length a.length)
 (cond (inb 1 (Int.toNat a.length)) (d (qa9 a 1 a.length) b (c++[re h])) none) none) none) (cond (ilt 0 e) (qb (qf b 0) λ g=>cond (zC (List.length c+1) 56) (cond (inb b.length b.length)
 (cond (inb 1 (Int.toNat b.length)) (d a (qa9 b 1 b.length) (c++[re g])) none) none) none) (cond (inb a.length a.length) (cond (inb 1 (Int.toNat a.length)) (cond (inb b.length b.length)
 (cond (inb 1 (Int.toNat b.length)) (d (qa9 a 1 a.length) (qa9 b 1 b.length) c) none) none) none) none))) f) f
def qdo(m:Nat):=qM (λ _ _ _=>none) λ a=>qiE m a
def qlG:Nat->(TL->TL->Z29):=qh (λ _ _=>none) λ m _=>qiR m (qdo m m)
def qd9(m:Nat)(a:Z33)(d:Z34)(b:T):Z29:=
 let c:Z29:=(cond (ieq b.kind 3) (cond (qx b.name [120,111,114]) (d [] b.kids b.kids.length 0) (some [re b])) (some [re b]));cond (ieq b.kind 3) (cond (qx b.name [122,101,114,111])
 (cond (ieq b.kids.length 0) (some []) c) c) c
def qdU(m:Nat)(a:Z33)(i:Z34)(e d:TL)(c b:Int):Z29:=
 cond (ilt b c) (qb (qf d b) λ h=>qb (a (re h)) λ g=>qb (qlG m e g) λ f=>i f d c (iw .i64 (qi b 1))) (some e)
def QT(m:Nat)(a:Z33):=qM (λ _ _ _ _=>none) λ b=>qdU m a b
def yK:Nat->Z33:=qh (λ _=>none) λ m a=>qd9 m a (QT m a m)
def qgf(m:Nat)(a:Z28)(c:Z35)(b:T):Z27:=
 c b.kids b.kids.length 0 b.kind b.name b.sort 0 [] 0 [] []
def qf0(m:Nat)(a:Z28)(p:Z35)(i:TL)(h c g:Int)(f:Y8)(e l:Int)(k:Y8)(j:Int)(b d:TL):Z27:=
 cond (ilt c h) (qb (qf i c) λ o=>qb (a (re o)) λ n=>cond (zC (List.length b+1) 56) (p i h (iw .i64 (qi c 1)) g f e l k j (b++[re n]) d) none)
 (some (T.mk g f e b))
def qaM(m:Nat)(a:Z28):=qM (λ _ _ _ _ _ _ _ _ _ _ _=>none) λ b=>qf0 m a b
def jF:Nat->Z28:=qh (λ _=>none) λ m a=>qgf m a (qaM m a m)
def qd8(m:Nat)(e:Z37)(d:T)(c:List Int)(b:T):Z36:=
 qb (jF m (re d)) λ a=>e c c.length 0 b.kind b.name b.sort b.kids 0 [] 0 a.kind a.name a.sort a.kids []
def qg3(m:Nat)(t:Z37)(n:List (Int))(l c g:Int)(f:Y8)(e:Int)(d:TL)(r:Int)(q:Y8)(p k:Int)(j:Y8)(i:Int)(a h:TL):Z36:=
 cond (ilt c l) (qb (qf n c) λ b=>cond (ilt b 0) (some (T.mk 0 [] 0 [],7)) (cond (ile a.length b) (some (T.mk 0 [] 0 [],7)) (qb (qf a b) λ s=>none)))
 (qb (jF m (T.mk g f e d)) λ o=>some (re o,0))
def qaI(m:Nat):=qM (λ _ _ _ _ _ _ _ _ _ _ _ _ _ _ _=>none) λ a=>qg3 m a
def qhE:Nat->(T->(List Int)->T->Z36):=qh (λ _ _ _=>none) λ m _=>qd8 m (qaI m m)
def qka(m:Nat)(a:Z38)(c:Z39)(b:TL):Z29:=
 cond (qBm b.length 56) (c b b.length 0 (List.replicate (Int.toNat b.length) (T.mk 0 [] 0 []):TL)) none
def qkk(m:Nat)(b:Z38)(k:Z39)(h:TL)(g a:Int)(d:TL):Z29:=
 cond (ilt a g) (qb (qf h a) λ f=>qb (qhE m (re f) [] (re f)) λ e=>qb (qf d a) λ l=>qb (b f.kids) λ j=>qb (qf (yy d a (re e.1)) a) λ c=>
 cond (ieq f.kids.length 0) (qb (qf (yy (yy d a (re e.1)) a (T.mk c.kind c.name c.sort j)) a) λ i=>k h g (iw .i64 (qi a 1))
 (yy (yy (yy d a (re e.1)) a (T.mk c.kind c.name c.sort j)) a (T.mk i.kind i.name i.sort []))) (k h g (iw .i64 (qi a 1)) (yy (yy d a (re e.1)) a (T.mk c.kind c.name c.sort j))))
 (some d)
def qet(m:Nat)(a:Z38):=qM (λ _ _ _ _=>none) λ b=>qkk m a b
def J8:Nat->Z38:=qh (λ _=>none) λ m a=>qka m a (qet m a m)
def qku(m:Nat)(c:Z40)(a:TL):Z36:=
 qb (qmU m a []) λ b=>cond (qe (ieq b 0)) (some (T.mk 0 [] 0 [],b)) (c [] a a.length 0 0 [] 0 [])
def qj6(m:Nat)(r:Z40)(e d:TL)(c b j:Int)(i:Y8)(h:Int)(g:TL):Z36:=
 cond (ilt b c) (qb (qf d b) λ q=>qb (yK m (re q)) λ p=>qb (qlG m e p) λ o=>r o d c (iw .i64 (qi b 1)) j i h g) (qb (J8 m e) λ a=>let j1:Z36:=
 (some (T.mk 0 [] 0 [],3));cond (ieq a.length 0) (qb (zi m (T.mk 3 [122,101,114,111] 0 [])) λ n=>cond (qe (ieq n 0)) j1 (some (T.mk 3 [122,101,114,111] 0 [],0))) (cond (ieq a.length 1)
 (qb (qf a 0) λ f=>qb (zi m (re f)) λ l=>cond (qe (ieq l 0)) j1 (some (re f,0))) (qb (zi m (T.mk 3 [120,111,114] 0 a)) λ k=>
 cond (qe (ieq k 0)) j1 (some (T.mk 3 [120,111,114] 0 a,0)))))
def qeL(m:Nat):=qM (λ _ _ _ _ _ _ _ _=>none) λ a=>qj6 m a
def qsD:Nat->(TL->Z36):=qh (λ _=>none) λ m _=>qku m (qeL m m)
def qeI(m:Nat)(a:T):Z2:=
 cond (ieq a.kind 3) (cond (qx a.name [109,117,108]) (some true) (cond (qx a.name [105,110,118]) (some true) (some (qx a.name [111,110,101])))) (some false)
def qbB:Nat->Z41:=qh (λ _=>none) λ m _=>qeI m
def qch(m:Nat)(a:Z28)(d:Z42)(b:T):Z27:=
 qb (ya 0 b.kids) λ c=>d c.2.1.length 0 b.kind b.name b.sort 0 [] 0 c.2.1 []
def qcp(m:Nat)(a:Z28)(o:Z42)(g b f:Int)(e:Y8)(d k:Int)(j:Y8)(i:Int)(c h:TL):Z27:=
 cond (ilt b g) (qb (qf c b) λ n=>qb (a (re n)) λ l=>qb (qf c b) λ p=>o g (iw .i64 (qi b 1)) f e d k j i (yy c b (re l)) h) (some (T.mk f e d c))
def QM(m:Nat)(a:Z28):=qM (λ _ _ _ _ _ _ _ _ _ _=>none) λ b=>qcp m a b
def zy:Nat->Z28:=qh (λ _=>none) λ m a=>qch m a (QM m a m)
def qdd(m:Nat)(c:T×Int)(b:T):Z16:=
 qb (qy m (re c.1) (re b)) λ a=>some a
def qak:Nat->((T×Int)->T->Z16):=qh (λ _ _=>none) λ m _=>qdd m
def qH(m:Nat)(c:Z45)(b:List (T×Int))(a:T):Z43:=
 c b b.length 0 b.length a.kind a.name a.sort a.kids
def qG(m:Nat)(k:Z45)(g:List (T×Int))(h a b f:Int)(e:Y8)(d:Int)(c:TL):Z43:=
 cond (ilt a b) (qb (qf g (iw .i64 (qox .u64 (iw .u64 (iw .i64 (qi a b))) 1))) λ j=>qb (qak m (re j.1,j.2) (T.mk f e d c)) λ n=>cond (ilt n 0)
 (k g h (iw .i64 (qi (iw .i64 (qox .u64 (iw .u64 (iw .i64 (qi a b))) 1)) 1)) b f e d c) (k g h a (iw .i64 (qox .u64 (iw .u64 (iw .i64 (qi a b))) 1)) f e d c)) (cond (ilt a h)
 (qb (qf g a) λ i=>qb (qak m (re i.1,i.2) (T.mk f e d c)) λ l=>some (a,ieq l 0)) (some (a,false)))
def qr(m:Nat):=qM (λ _ _ _ _ _ _ _ _=>none) λ a=>qG m a
def qN:Nat->(Z44->T->Z43):=qh (λ _ _=>none) λ m _=>qH m (qr m m)
def qex(m:Nat)(b:List (T×Int))(c:T×Int):Z46:=
 qb (qN m b (re c.1)) λ a=>cond (qe a.2) (qb (zy m (re c.1)) λ i=>
 qb (zH 0 b a.1 [(re i,c.2)]) λ h=>some ((()),(h.2.1,()))) (qb (qf b a.1) λ e=>qb (qf b a.1) λ d=>
 qb (qf (yy b a.1 (re d.1,iw .i64 (qi e.2 c.2))) a.1) λ g=>cond (ieq g.2 0)
 (qb (zJ 0 (yy b a.1 (re d.1,iw .i64 (qi e.2 c.2))) a.1 (iw .i64 (qi a.1 1))) λ f=>some ((()),(f.2.1,())))
 (some ((()),(yy b a.1 (re d.1,iw .i64 (qi e.2 c.2)),()))))
def qbD:Nat->(Z44->(T×Int)->Z46):=qh (λ _ _=>none) λ m _=>qex m
def qba(m:Nat)(a:Z48)(h:Z49)(e:List (T×Int))(b:T)(d:Int):Z47:=
 qb (qbB m (re b)) λ j=>cond (qe j) (qb (qbD m e (re b,d)) λ i=>some ((()),(i.2.1,true,()))) (let c:Z47:=(some ((()),([],false,())));let j2:Z47:=
 (let g:Z47:=(let f:Z47:=(cond (qx b.name [105,110,118]) (h (iw .i64 (yk 0 d)) b.kids b.kids.length 0 e) (h d b.kids b.kids.length 0 e));cond (qx b.name [109,117,108])
 (cond (ilt b.kids.length 2) c f) f);cond (qx b.name [105,110,118]) (cond (qe (ieq b.kids.length 1)) c g) g);cond (qx b.name [111,110,101]) (cond (qe (ieq b.kids.length 0)) c j2) j2)
def qbg(m:Nat)(a:Z48)(i:Z49)(f:Int)(e:TL)(d b:Int)(c:List (T×Int)):Z47:=
 cond (ilt b d) (qb (qf e b) λ h=>qb (a c (re h) f) λ g=>cond (qe g.2.2.1) (some ((()),([],false,()))) (i f e d (iw .i64 (qi b 1)) g.2.1))
 (some ((()),(c,true,())))
def jx(m:Nat)(a:Z48):=qM (λ _ _ _ _ _=>none) λ b=>qbg m a b
def zx:Nat->Z48:=qh (λ _ _ _=>none) λ m a=>qba m a (jx m a m)
def qis(m:Nat)(c:T):Z50:=
 qb (zi m (re c)) λ b=>cond (qe (ieq b 0)) (some ([],b)) (qb (zx m [] (re c) 1) λ a=>cond (qe a.2.2.1) (some ([],6)) (cond (ilt 200 a.2.1.length) (some ([],3))
 (some (a.2.1,0))))
def qb6:Nat->Z51:=qh (λ _=>none) λ m _=>qis m
def qce(m:Nat)(b:Z52)(a:List (T×Int)):Z16:=
 cond (ilt 200 a.length) (some 3) (b a a a.length 0)
def qck(m:Nat)(g:Z52)(e d:List (T×Int))(c a:Int):Z16:=
 cond (ilt a c) (qb (qf d a) λ b=>qb (zi m (re b.1)) λ f=>cond (qe (ieq f 0)) (some f) (qb (qbB m (re b.1)) λ j=>cond j (some 1) (cond (ieq b.2 0) (some 7)
 (cond (ilt b.2 (-1000)) (some 7) (cond (ilt 1000 b.2) (some 7) (cond (ilt 0 a) (qb (qf e (iw .i64 (yk a 1))) λ i=>qb (qy m (re i.1) (re b.1)) λ h=>cond (ile 0 h) (some 5)
 (g e d c (iw .i64 (qi a 1)))) (g e d c (iw .i64 (qi a 1))))))))) (some 0)
def j7(m:Nat):=qM (λ _ _ _ _=>none) λ a=>qck m a
def qaH:Nat->Z53:=qh (λ _=>none) λ m _=>qce m (j7 m m)
def qwZ(m:Nat)(b:Y8)(a:TL):Z27:=
 some (T.mk 3 b 0 a)
def qeh:Nat->Z54:=qh (λ _ _=>none) λ m _=>qwZ m
def qc6(m:Nat)(c:Z55)(e d:Z56)(a:List (T×Int)):Z36:=
 qb (qaH m a) λ b=>cond (qe (ieq b 0)) (some (T.mk 0 [] 0 [],b)) (c a a.length 0 0 [] 0 [] [] [])
def qdf(m:Nat)(v:Z55)(t u:Z56)(h:List (T×Int))(g c s:Int)(r:Y8)(q:Int)(p f e:TL):Z36:=
 let d:Z36:=(some (T.mk 0 [] 0 [],3));cond (ilt c g) (qb (qf h c) λ a=>
 cond (ilt 8 a.2) d (cond (ilt a.2 (-8)) d (t h g c a.2 0 s r q a.1.kind a.1.name a.1.sort a.1.kids a.2 p f e))) (qb (zW m [f,e]) λ b=>
 cond (ilt 8 b.length) d (qb (qeh m [109,117,108] b) λ o=>cond (ieq b.length 0) (qb (qeh m [111,110,101] []) λ n=>qb (zi m (re n)) λ l=>cond (qe (ieq l 0))
 (some (T.mk 0 [] 0 [],l)) (some (re n,0))) (cond (ieq b.length 1) (qb (qf b 0) λ k=>qb (zi m (re k)) λ j=>cond (qe (ieq j 0)) (some (T.mk 0 [] 0 [],j)) (some (re k,0)))
 (qb (zi m (re o)) λ i=>cond (qe (ieq i 0)) (some (T.mk 0 [] 0 [],i)) (some (re o,0))))))
def qdj(m:Nat)(u:Z55)(t s:Z56)(q:List (T×Int))(p o n l k:Int)(j:Y8)(i h:Int)(g:Y8)(d:Int)(c:TL)(b:Int)(f a e:TL):Z36:=
 cond (ilt l n) (qb (zy m (T.mk h g d c)) λ r=>cond (zC (List.length a+1) 56) (t q p o n (iw .i64 (qi l 1)) k j i h g d c b f (a++[re r]) e) none)
 (s q p o (iw .i64 (yk 0 b)) 0 k j i h g d c b f a e)
def qdh(m:Nat)(u:Z55)(v t:Z56)(q:List (T×Int))(p o n l k:Int)(j:Y8)(i h:Int)(g:Y8)(e:Int)(d:TL)(f:Int)(c b a:TL):Z36:=
 cond (ilt l n) (qb (zy m (T.mk h g e d)) λ s=>qb (qeh m [105,110,118] [re s]) λ r=>cond (zC (List.length a+1) 56)
 (t q p o n (iw .i64 (qi l 1)) k j i h g e d f c b (a++[re r])) none) (u q p (iw .i64 (qi o 1)) k j i c b a)
def qB(m:Nat):=qM ((λ _ _ _ _ _ _ _ _ _=>none,λ _ _ _ _ _ _ _ _ _ _ _ _ _ _ _ _=>none,λ _ _ _ _ _ _ _ _ _ _ _ _ _ _ _ _=>none)) λ a=>(qdf m a.1 a.2.1 a.2.2,qdj m a.1 a.2.1 a.2.2,qdh m a.1 a.2.1 a.2.2)
def Jp:Nat->Z57:=qh (λ _=>none) λ m _=>qc6 m (qB m m).1 (qB m m).2.1 (qB m m).2.2
def qbH(m:Nat)(b:Z58)(a:List (T×Int)):Z46:=
 b a a.length 0 []
def qbI(m:Nat)(g:Z58)(d:List (T×Int))(c b:Int)(a:List (T×Int)):Z46:=
 cond (ilt b c) (qb (qf d b) λ e=>qb (zy m (re e.1)) λ f=>cond (zC (List.length a+1) 64) (g d c (iw .i64 (qi b 1)) (a++[(re f,e.2)])) none) (some ((()),(a,())))
def Qo(m:Nat):=qM (λ _ _ _ _=>none) λ a=>qbI m a
def qdX:Nat->(Z44->Z46):=qh (λ _=>none) λ m _=>qbH m (Qo m m)
def qc0(m:Nat)(a:T×Int):Z2:=
 cond (ilt a.2 (-1000)) (some true) (some (ilt 1000 a.2))
def qcg:Nat->((T×Int)->Z2):=qh (λ _=>none) λ m _=>qc0 m
def zM(m:Nat)(b:Z59)(a:List (T×Int)):Z16:=
 b a a.length 0
def zb(m:Nat)(f:Z59)(c:List (T×Int))(b a:Int):Z16:=
 cond (ilt a b) (qb (qf c a) λ d=>qb (qcg m (re d.1,d.2)) λ e=>cond e (some a) (f c b (iw .i64 (qi a 1)))) (some (-1))
def qC(m:Nat):=qM (λ _ _ _=>none) λ a=>zb m a
def zY:Nat->Z53:=qh (λ _=>none) λ m _=>zM m (qC m m)
def yl(m:Nat)(b:List (T×Int)):Z2:=
 qb (zY m b) λ a=>some (ile 0 a)
def zK:Nat->(Z44->Z2):=qh (λ _=>none) λ m _=>yl m
def qev(m:Nat)(a:List (T×Int)):Z50:=
 qb (zK m a) λ b=>cond b (some ([],7)) (cond (ilt 200 a.length) (some ([],3)) (some (a,0)))
def qd4:Nat->(Z44->Z50):=qh (λ _=>none) λ m _=>qev m
def qd0(m:Nat)(f:Z60)(d a:List (T×Int)):Z50:=
 qb (qaH m d) λ c=>cond (qe (ieq c 0)) (some ([],c)) (qb (qaH m a) λ b=>cond (qe (ieq b 0)) (some ([],b)) (qb (qdX m d) λ e=>
 f a a.length 0 e.2.1))
def qd7(m:Nat)(h:Z60)(d:List (T×Int))(c a:Int)(b:List (T×Int)):Z50:=
 cond (ilt a c) (qb (qf d a) λ f=>qb (qbD m b (re f.1,f.2)) λ g=>h d c (iw .i64 (qi a 1)) g.2.1) (qb (qd4 m b) λ e=>some (e.1,e.2))
def Jz(m:Nat):=qM (λ _ _ _ _=>none) λ a=>qd7 m a
def qhO:Nat->Z61:=qh (λ _ _=>none) λ m _=>qd0 m (Jz m m)
def qAy(m:Nat)(b:Y8)(a:TL):Z27:=
 some (T.mk 3 b 0 a)
def qhN:Nat->Z54:=qh (λ _ _=>none) λ m _=>qAy m
def qhT(m:Nat)(b l:T):Z36:=
 qb (qb6 m (re l)) λ a=>cond (qe (ieq a.2 0)) (some (T.mk 0 [] 0 [],a.2)) (qb (jw m (re b) [101,120,112]) λ k=>cond k (qb (qf b.kids 1) λ j=>
 qb (qb6 m (re j)) λ f=>cond (qe (ieq f.2 0)) (some (T.mk 0 [] 0 [],f.2)) (qb (qhO m f.1 a.1) λ c=>cond (qe (ieq c.2 0)) (some (T.mk 0 [] 0 [],c.2))
 (qb (qf b.kids 0) λ h=>cond (ieq c.1.length 0) (some (re h,0)) (qb (Jp m c.1) λ e=>cond (qe (ieq e.2 0)) (some (T.mk 0 [] 0 [],e.2))
 (qb (qhN m [101,120,112] [re h,re e.1]) λ i=>some (re i,0)))))) (cond (ieq a.1.length 0) (some (re b,0)) (qb (Jp m a.1) λ d=>cond (qe (ieq d.2 0))
 (some (T.mk 0 [] 0 [],d.2)) (qb (qhN m [101,120,112] [re b,re d.1]) λ g=>some (re g,0)))))
def qhW:Nat->Z62:=qh (λ _ _=>none) λ m _=>qhT m
def qc2(m:Nat)(a:Z63)(c:Z64)(b:T):Z36:=
 cond (qe (ieq b.kind 3)) (some (re b,0)) (c b.kids b.kids.length 0 b.kind b.name b.sort b.kids 0 [] 0 3 b.name 0 [] [])
def qdl(m:Nat)(a:Z63)(C:Z64)(s:TL)(r k z:Int)(c:Y8)(y:Int)(x:TL)(w:Int)(v:Y8)(u f:Int)(e:Y8)(d:Int)(l b:TL):Z36:=
 cond (ilt k r) (qb (qf s k) λ B=>qb (a (re B)) λ n=>cond (qe (ieq n.2 0)) (some (T.mk 0 [] 0 [],n.2)) (cond (zC (List.length b+1) 56)
 (C s r (iw .i64 (qi k 1)) z c y x w v u f e d l (b++[re n.1])) none)) (let h:Z36:=(qb (qcH m (T.mk f e d b)) λ A=>some (re A,0));
 cond (qx c [102,115,116]) h (cond (qx c [115,110,100]) h (cond (qx c [100,101,99]) h (cond (qx c [97,100,101,99]) h (cond (qx c [111,112,101,110]) h (cond (qx c [114,101,97,100]) h (cond (qx c [120,111,114])
 (qb (qsD m b) λ t=>some (re t.1,t.2)) (let q:Z36:=(qb (qb6 m (T.mk f e d b)) λ g=>cond (qe (ieq g.2 0)) (some (T.mk 0 [] 0 [],g.2))
 (qb (Jp m g.1) λ j=>some (re j.1,j.2)));cond (qx c [109,117,108]) q (cond (qx c [105,110,118]) q (cond (qx c [111,110,101]) q (cond (qx c [101,120,112])
 (qb (qf b 0) λ p=>qb (qf b 1) λ o=>qb (qhW m (re p) (re o)) λ i=>some (re i.1,i.2)) (some (T.mk f e d b,0)))))))))))))
def Q4(m:Nat)(a:Z63):=qM (λ _ _ _ _ _ _ _ _ _ _ _ _ _ _ _=>none) λ b=>qdl m a b
def yD:Nat->Z63:=qh (λ _=>none) λ m a=>qc2 m a (Q4 m a m)
def qgl(m:Nat)(d:T):Z36:=
 qb (qaZ m (re d)) λ c=>cond (qe (ieq c 0)) (some (T.mk 0 [] 0 [],c)) (qb (yD m (re d)) λ a=>cond (ieq a.2 0) (qb (zi m (re a.1)) λ b=>cond (qe (ieq b 0))
 (some (T.mk 0 [] 0 [],b)) (some (re a.1,0))) (cond (qe (ieq a.2 0)) (some (T.mk 0 [] 0 [],a.2)) (some (re a.1,0))))
def qgg:Nat->Z63:=qh (λ _=>none) λ m _=>qgl m
def qfE(m:Nat)(b:Y8):Z2:=
 qb (qbu m b) λ a=>some (qe (ieq a.2.2.2 3))
def qfj:Nat->Z11:=qh (λ _=>none) λ m _=>qfE m
def qaa(m:Nat)(a:Z41)(c:Z65)(b:T):Z2:=
 cond (ieq b.kind 3) (qb (qfj m b.name) λ d=>cond (qe d) (some false) (c b.kids b.kids.length 0)) (c b.kids b.kids.length 0)
def J7(m:Nat)(a:Z41)(g:Z65)(d:TL)(c b:Int):Z2:=
 cond (ilt b c) (qb (qf d b) λ f=>qb (a (re f)) λ e=>cond (qe e) (some false) (g d c (iw .i64 (qi b 1)))) (some true)
def yH(m:Nat)(a:Z41):=qM (λ _ _ _=>none) λ b=>J7 m a b
def zh:Nat->Z41:=qh (λ _=>none) λ m a=>qaa m a (yH m a m)
def qgX(m:Nat)(a:T):Z2:=
 qb (qgg m (re a)) λ b=>cond (ieq b.2 0) (qb (JM m (re b.1) (re a)) λ d=>cond d (qb (zh m (re a)) λ c=>some c) (some false)) (some false)
def qey:Nat->Z41:=qh (λ _=>none) λ m _=>qgX m
def qem(m:Nat)(b:Y8):Z66:=
 qb (jC m (b,(0,false))) λ a=>cond a.1.1.2.2 (some (T.mk 0 [] 0 [],a.1.1.2.1,2)) (cond (qe (ieq a.1.1.2.1 b.length)) (some (T.mk 0 [] 0 [],a.1.1.2.1,2))
 (qb (zi m (re a.2.1)) λ d=>cond (ieq d 3) (some (T.mk 0 [] 0 [],0,3)) (qb (qey m (re a.2.1)) λ c=>cond (qe c) (some (T.mk 0 [] 0 [],0,10)) (some (re a.2.1,0,0)))))
def J9:Nat->(Y8->Z66):=qh (λ _=>none) λ m _=>qem m
def qbs(m:Nat)(c:T)(b:Int)(a:TL):Z67:=
 cond (ieq c.kind b) (cond (zC (List.length a+1) 56) (qb (qf (a++[T.mk 0 [] 0 []]) a.length) λ d=>some ((b,yy (a++[T.mk 0 [] 0 []]) a.length (re c),()),(()))) none)
 (some ((b,a,()),(())))
def qau:Nat->Z68:=qh (λ _ _ _=>none) λ m _=>qbs m
def qaC(m:Nat)(a:Z68)(f:Z69)(d:T)(c:Int)(b:TL):Z67:=
 qb (qau m (re d) c b) λ e=>f d.kids d.kids.length 0 e.1.1 e.1.2.1
def qax(m:Nat)(a:Z68)(i:Z69)(f:TL)(e b d:Int)(c:TL):Z67:=
 cond (ilt b e) (qb (qf f b) λ h=>qb (a (re h) d c) λ g=>i f e (iw .i64 (qi b 1)) g.1.1 g.1.2.1) (some ((d,c,()),(())))
def jO(m:Nat)(a:Z68):=qM (λ _ _ _ _ _=>none) λ b=>qax m a b
def zA:Nat->Z68:=qh (λ _ _ _=>none) λ m a=>qaC m a (jO m a m)
def zd:Nat->TL->Option (TL):=qh (λ _=>none) λ m _=>qo8 (qy m)
def qfD(m:Nat)(c b:T):Z2:=
 qb (qy m (re c) (re b)) λ a=>some (ieq a 0)
def jl:Nat->Z26:=qh (λ _ _=>none) λ m _=>qfD m
def qK:Nat->TL->Option (Unit×TL×Unit):=qh (λ _=>none) λ m _=>qwj (jl m)
def qdM(m:Nat)(d:Z71)(c:TL):Z70:=
 qb (zd m c) λ b=>cond (Nat.beq b.length c.length) (qb (qK m b) λ a=>d a.2.1.length 0 a.2.1) none
def qd2(m:Nat)(f:Z71)(c a:Int)(b:TL):Z70:=
 cond (ilt a c) (qb (qf b a) λ e=>qb (jF m (re e)) λ d=>qb (qf b a) λ g=>f c (iw .i64 (qi a 1)) (yy b a (re d))) (some ((()),(b,())))
def JI(m:Nat):=qM (λ _ _ _=>none) λ a=>qd2 m a
def qhf:Nat->(Z14->Z70):=qh (λ _=>none) λ m _=>qdM m (JI m m)
def qim(m:Nat)(d:T)(c:Int):Z29:=
 qb (zA m (re d) c []) λ b=>qb (qhf m b.1.2.1) λ a=>some a.2.1
def qnk:Nat->(T->Int->Z29):=qh (λ _ _=>none) λ m _=>qim m
def qk2(m:Nat)(b:T):Z29:=
 qb (qnk m (re b) 1) λ a=>some a
def qmT:Nat->Z33:=qh (λ _=>none) λ m _=>qk2 m
def qaL(m:Nat)(b:Y8×(Int×Int))(a:T):Z72:=
 some ((re a,()),(qx b.1 a.name,()))
def qcy:Nat->((Y8×(Int×Int))->T->Z72):=qh (λ _ _=>none) λ m _=>qaL m
def qQ(m:Nat)(c:Z74)(b:List (Y8×(Int×Int)))(a:T):Z73:=
 c b b.length 0 a.kind a.name a.sort a.kids
def qR(m:Nat)(j:Z74)(i:List (Y8×(Int×Int)))(h b g:Int)(f:Y8)(e:Int)(d:TL):Z73:=
 cond (ilt b h) (qb (qf i b) λ c=>qb (qcy m (c.1,(c.2.1,c.2.2)) (T.mk g f e d)) λ a=>cond a.2.1 (some ((re a.1.1,()),(b,())))
 (j i h (iw .i64 (qi b 1)) a.1.1.kind a.1.1.name a.1.1.sort a.1.1.kids)) (some ((T.mk g f e d,()),((-1),())))
def qt(m:Nat):=qM (λ _ _ _ _ _ _ _=>none) λ a=>qR m a
def zc:Nat->((List (Y8×(Int×Int)))->T->Z73):=qh (λ _ _=>none) λ m _=>qQ m (qt m m)
def qcf(m:Nat)(a:Z76)(f:Z77)(d:List (Int))(c:T):Z75:=
 cond (qe (ieq c.kind 3)) (cond (zC (List.length d+2) 1) (cond (zC (List.length (d++[iw .u8 c.sort,iw .u8 c.name.length])+List.length (qaj c.name)) 1)
 (some ((()),((d++[iw .u8 c.sort,iw .u8 c.name.length])++(qaj c.name),()))) none) none) (qb (yt m) λ i=>
 qb (zc m i (re c)) λ b=>cond (zC (List.length d+1) 1) (qb (yt m) λ h=>qb (qf h b.2.1) λ e=>
 qb (yz m (e.1,(e.2.1,e.2.2))) λ g=>cond g (cond (zC (List.length (d++[iw .u8 (iw .i64 (qi 16 b.2.1))])+1) 1)
 (f b.1.1.kids b.1.1.kids.length 0 ((d++[iw .u8 (iw .i64 (qi 16 b.2.1))])++[iw .u8 b.1.1.kids.length])) none) (f b.1.1.kids b.1.1.kids.length 0 (d++[iw .u8 (iw .i64 (qi 16 b.2.1))]))) none)
def qcd(m:Nat)(a:Z76)(h:Z77)(e:TL)(d b:Int)(c:List (Int)):Z75:=
 cond (ilt b d) (qb (qf e b) λ g=>qb (a c (re g)) λ f=>h e d (iw .i64 (qi b 1)) f.2.1) (some ((()),(c,())))
def jW(m:Nat)(a:Z76):=qM (λ _ _ _ _=>none) λ b=>qcd m a b
def z8:Nat->Z76:=qh (λ _ _=>none) λ m a=>qcf m a (jW m a m)
def qeg(m:Nat)(a:T):Z78:=
 qb (qaZ m (re a)) λ b=>cond (qe (ieq b 0)) (some ([],b)) (qb (qmT m (re a)) λ e=>cond (ilt 0 e.length) (some ([],13)) (qb (qey m (re a)) λ d=>cond (qe d)
 (some ([],10)) (qb (z8 m [] (re a)) λ c=>some (zt c.2.1,0))))
def J6:Nat->(T->Z78):=qh (λ _=>none) λ m _=>qeg m
def quB(m:Nat)(a:Y8):Z2:=
 cond (qx a [120,111,114]) (some false) (cond (qx a [122,101,114,111]) (some false) (cond (qx a [101,120,112]) (some false) (cond (qx a [109,117,108]) (some false) (cond (qx a [105,110,118])
 (some false) (cond (qx a [111,110,101]) (some false) (qb (qbu m a) λ b=>some (qe (ieq b.2.2.2 3))))))))
def qpX:Nat->Z11:=qh (λ _=>none) λ m _=>quB m
def qfP(m:Nat)(a:Z41)(c:Z65)(b:T):Z2:=
 cond (ieq b.kind 3) (qb (qpX m b.name) λ d=>cond (qe d) (some false) (c b.kids b.kids.length 0)) (c b.kids b.kids.length 0)
def qnl(m:Nat)(a:Z41)(g:Z65)(d:TL)(c b:Int):Z2:=
 cond (ilt b c) (qb (qf d b) λ f=>qb (a (re f)) λ e=>cond (qe e) (some false) (g d c (iw .i64 (qi b 1)))) (some true)
def qgB(m:Nat)(a:Z41):=qM (λ _ _ _=>none) λ b=>qnl m a b
def qbe:Nat->Z41:=qh (λ _=>none) λ m a=>qfP m a (qgB m a m)
def qy4(m:Nat)(a:T):Z2:=
 qb (qaZ m (re a)) λ c=>cond (ieq c 0) (qb (qbe m (re a)) λ b=>some b) (some false)
def qtn:Nat->Z41:=qh (λ _=>none) λ m _=>qy4 m
def qqm(m:Nat)(b:T):Z16:=
 qb (qaZ m (re b)) λ a=>cond (qe (ieq a 0)) (some a) (qb (qtn m (re b)) λ c=>cond (qe c) (some 10) (some 0))
def qk5:Nat->Z17:=qh (λ _=>none) λ m _=>qqm m
def qg0(m:Nat)(b:Z22)(a:TL):Z16:=
 cond (ilt 200 a.length) (some 3) (b a a.length 0)
def qpT(m:Nat)(f:Z22)(c:TL)(b a:Int):Z16:=
 cond (ilt a b) (qb (qf c a) λ e=>qb (qk5 m (re e)) λ d=>cond (qe (ieq d 0)) (some d) (f c b (iw .i64 (qi a 1)))) (some 0)
def qh3(m:Nat):=qM (λ _ _ _=>none) λ a=>qpT m a
def qjR:Nat->(TL->Z16):=qh (λ _=>none) λ m _=>qg0 m (qh3 m m)
def qm4(m:Nat)(a:Z80)(d:Z81)(e:Z82)(c:List (T×T))(b:T):Z27:=
 d c c c.length 0 b.kind b.name b.sort b.kids 0 [] 0 []
def qv3(m:Nat)(a:Z80)(r:Z81)(q:Z82)(n l:List (T×T))(k h g:Int)(f:Y8)(e:Int)(d:TL)(j:Int)(i:Y8)(c:Int)(b:TL):Z27:=
 cond (ilt h k) (qb (qf l h) λ o=>qb (qy m (re o.1) (T.mk g f e d)) λ p=>cond (ieq p 0) (some (re o.2)) (r n l k (iw .i64 (qi h 1)) g f e d j i c b))
 (q n d d.length 0 j i c g f e b [])
def qxd(m:Nat)(a:Z80)(r:Z81)(q:Z82)(j:List (T×T))(i:TL)(h c n:Int)(l:Y8)(k g:Int)(f:Y8)(e:Int)(d b:TL):Z27:=
 cond (ilt c h) (qb (qf i c) λ p=>qb (a j (re p)) λ o=>cond (zC (List.length b+1) 56) (q j i h (iw .i64 (qi c 1)) n l k g f e d (b++[re o])) none)
 (some (T.mk g f e b))
def qfp(m:Nat)(a:Z80):=qM ((λ _ _ _ _ _ _ _ _ _ _ _ _=>none,λ _ _ _ _ _ _ _ _ _ _ _ _=>none)) λ b=>(qv3 m a b.1 b.2,qxd m a b.1 b.2)
def qeq:Nat->Z80:=qh (λ _ _=>none) λ m a=>qm4 m a (qfp m a m).1 (qfp m a m).2
def qjZ(m:Nat)(a:Int):Z83:=
 cond (ilt a 10) (cond (inb (iw .i64 (qi a 1))
 (List.length [48,49,50,51,52,53,54,55,56,57,97,98,99,100,101,102,103,104,105,106,107,108,109,110,111,112,113,114,115,116,117,118,119,120,121,122]))
 (cond (inb a (Int.toNat (iw .i64 (qi a 1))))
 (some (qa9 [48,49,50,51,52,53,54,55,56,57,97,98,99,100,101,102,103,104,105,106,107,108,109,110,111,112,113,114,115,116,117,118,119,120,121,122] a (iw .i64 (qi a 1)))) none) none)
 (cond (inb (iw .i64 (qi (iw .i64 (qqO a 2)) 2))
 (List.length [48,48,48,49,48,50,48,51,48,52,48,53,48,54,48,55,48,56,48,57,49,48,49,49,49,50,49,51,49,52,49,53,49,54,49,55,49,56,49,57,50,48,50,49,50,50,50,51,50,52,50,53,50,54,50,55,50,56,50,57,51,48,51,49,51,50,51,51,51,52,51,53,51,54,51,55,51,56,51,57,52,48,52,49,52,50,52,51,52,52,52,53,52,54,52,55,52,56,52,57,53,48,53,49,53,50,53,51,53,52,53,53,53,54,53,55,53,56,53,57,54,48,54,49,54,50,54,51,54,52,54,53,54,54,54,55,54,56,54,57,55,48,55,49,55,50,55,51,55,52,55,53,55,54,55,55,55,56,55,57,56,48,56,49,56,50,56,51,56,52,56,53,56,54,56,55,56,56,56,57,57,48,57,49,57,50,57,51,57,52,57,53,57,54,57,55,57,56,57,57]))
 (cond (inb (iw .i64 (qqO a 2)) (Int.toNat (iw .i64 (qi (iw .i64 (qqO a 2)) 2))))
 (some (qa9 [48,48,48,49,48,50,48,51,48,52,48,53,48,54,48,55,48,56,48,57,49,48,49,49,49,50,49,51,49,52,49,53,49,54,49,55,49,56,49,57,50,48,50,49,50,50,50,51,50,52,50,53,50,54,50,55,50,56,50,57,51,48,51,49,51,50,51,51,51,52,51,53,51,54,51,55,51,56,51,57,52,48,52,49,52,50,52,51,52,52,52,53,52,54,52,55,52,56,52,57,53,48,53,49,53,50,53,51,53,52,53,53,53,54,53,55,53,56,53,57,54,48,54,49,54,50,54,51,54,52,54,53,54,54,54,55,54,56,54,57,55,48,55,49,55,50,55,51,55,52,55,53,55,54,55,55,55,56,55,57,56,48,56,49,56,50,56,51,56,52,56,53,56,54,56,55,56,56,56,57,57,48,57,49,57,50,57,51,57,52,57,53,57,54,57,55,57,56,57,57] (iw .i64 (qqO a 2))
 (iw .i64 (qi (iw .i64 (qqO a 2)) 2)))) none) none)
def qfS:Nat->Z84:=qh (λ _=>none) λ m _=>qjZ m
def qhZ(m:Nat)(a d:Int):Z83:=
 cond (ieq d 10) (let b:Z83:=(cond (ilt a 0) none none);cond (ile 0 a) (cond (ilt a 100) (qb (qfS m a) λ c=>some c) b) b) none
def qdt:Nat->(Int->Int->Z83):=qh (λ _ _=>none) λ m _=>qhZ m
def qlf(m:Nat)(b:Int):Z83:=
 qb (qdt m b 10) λ a=>some a
def qgy:Nat->Z84:=qh (λ _=>none) λ m _=>qlf m
def qve(m:Nat)(b:Int):Z83:=
 qb (qgy m b) λ a=>some a
def qlN:Nat->Z84:=qh (λ _=>none) λ m _=>qve m
def qjH(m:Nat)(b:Z86)(g:Z87)(a:T)(e:Y8)(c:List (Y8×Y8)):Z85:=
 cond (ieq a.kind 1) (qb (qlN m a.sort) λ d=>cond (qiG d a.name) (cond (qx (qoA (veq .str) [] c (d++a.name)) []) (qb (qlN m c.length) λ f=>cond (qiG e f)
 (g e a.kids a.kids.length 0 (qnz (veq .str) c (d++a.name) (e++f)) 0 [] 0 a.kind (qoA (veq .str) [] (qnz (veq .str) c (d++a.name) (e++f)) (d++a.name)) a.sort [] []) none)
 (g e a.kids a.kids.length 0 c 0 [] 0 a.kind (qoA (veq .str) [] c (d++a.name)) a.sort [] [])) none) (g e a.kids a.kids.length 0 c 0 [] 0 a.kind a.name a.sort [] [])
def qs9(m:Nat)(a:Z86)(r:Z87)(k:Y8)(j:TL)(i d:Int)(h:List (Y8×Y8))(p:Int)(o:Y8)(n g:Int)(f:Y8)(c:Int)(e b:TL):Z85:=
 cond (ilt d i) (qb (qf j d) λ q=>qb (a (re q) k h) λ l=>cond (zC (List.length b+1) 56)
 (r k j i (iw .i64 (qi d 1)) l.1.1 p o n g f c e (b++[re l.2.1])) none) (some ((h,()),(T.mk g f c b,())))
def qlA(m:Nat)(a:Z86):=qM (λ _ _ _ _ _ _ _ _ _ _ _ _ _=>none) λ b=>qs9 m a b
def qcP:Nat->Z86:=qh (λ _ _ _=>none) λ m a=>qjH m a (qlA m a m)
def qxv(m:Nat)(d c:T):Z16:=
 qb (zi m (re d)) λ a=>cond (qe (ieq a 0)) (some a) (qb (zi m (re c)) λ b=>some b)
def qtr:Nat->Z24:=qh (λ _ _=>none) λ m _=>qxv m
def qAL(m:Nat)(c b:T):Z2:=
 qb (qy m (re c) (re b)) λ a=>some (ieq a 0)
def qpt:Nat->Z26:=qh (λ _ _=>none) λ m _=>qAL m
def qx9(m:Nat)(a:T):Z2:=
 some (ieq a.kind 1)
def qdF:Nat->Z41:=qh (λ _=>none) λ m _=>qx9 m
def qAz(m:Nat)(a b:T):Z2:=
 qb (zi m (re a)) λ d=>cond (qe (ieq d 0)) (some false) (qb (zi m (re b)) λ c=>cond (qe (ieq c 0)) (some false) (cond (qe (ieq a.kind 1)) (some false) (cond (ieq a.sort 0)
 (some true) (cond (qe (ieq b.kind 3)) (some (ieq b.sort a.sort)) (some false)))))
def qoQ:Nat->Z26:=qh (λ _ _=>none) λ m _=>qAz m
def qxP(m:Nat)(b a:T):Z2:=
 cond (ieq b.kind 3) (cond (ieq a.kind 3) (cond (qx b.name a.name) (some (ieq b.kids.length a.kids.length)) (some false)) (some false)) (some false)
def qtx:Nat->Z26:=qh (λ _ _=>none) λ m _=>qxP m
def qDe(m:Nat)(a:T):(Option (Y8×Int)):=
 some (a.name,a.sort)
def qqW:Nat->(T->(Option (Y8×Int))):=qh (λ _=>none) λ m _=>qDe m
def qrO(m:Nat)(b:Z90)(f:Z91)(c:List ((Y8×Int)×T))(a:T):Z89:=
 qb (qdF m (re a)) λ e=>cond e (qb (qqW m (re a)) λ d=>cond (qBM (veq (.pair .str (.int .i64))) c (d.1,d.2)) (some ((c,()),(re (qoA (veq (.pair .str (.int .i64)))
 (T.mk 0 [] 0 []) c (d.1,d.2)),()))) (some ((c,()),(re a,())))) (cond (ieq a.kids.length 0) (some ((c,()),(re a,()))) (cond (qBm a.kids.length 56)
 (f a.kids a.kids.length 0 c a.kind a.name a.sort a.kids 0 [] 0 [] (List.replicate (Int.toNat a.kids.length) (T.mk 0 [] 0 []):TL)) none))
def qCm(m:Nat)(a:Z90)(r:Z91)(k:TL)(j c:Int)(i:List ((Y8×Int)×T))(h:Int)(g:Y8)(f:Int)(p:TL)(o:Int)(n:Y8)(e:Int)(d b:TL):Z89:=
 cond (ilt c j) (qb (qf k c) λ q=>qb (a i (re q)) λ l=>qb (qf b c) λ s=>r k j (iw .i64 (qi c 1)) l.1.1 h g f p o n e d (yy b c (re l.2.1)))
 (some ((i,()),(T.mk h g f b,())))
def qtt(m:Nat)(a:Z90):=qM (λ _ _ _ _ _ _ _ _ _ _ _ _ _=>none) λ b=>qCm m a b
def qel:Nat->Z90:=qh (λ _ _=>none) λ m a=>qrO m a (qtt m a m)
def qh1(m:Nat)(f g:Z93)(c:(List (T×T))×(List (T×T))×Unit)(b a:T):Z92:=
 qb (qqW m (re b)) λ e=>qb (ja 0 c.1) λ d=>
 f d.2.1.length 0 c.1 b.kind b.name b.sort b.kids a.kind a.name a.sort a.kids true (qnz (veq (.pair .str (.int .i64))) ([]:List ((Y8×Int)×T)) (e.1,e.2) (re a)) c.2.1 d.2.1
def qqo(m:Nat)(v B:Z93)(t a:Int)(s:List (T×T))(r:Int)(q:Y8)(p:Int)(o:TL)(n:Int)(l:Y8)(k:Int)(d:TL)(h:Bool)(g:List ((Y8×Int)×T))(c b:List (T×T)):Z92:=
 cond (ilt a t) (qb (qf b a) λ f=>qb (qel m g (re f.1)) λ e=>cond h (qb (qf (yy b a (re e.2.1,re f.2)) a) λ A=>qb (zi m (re A.1)) λ z=>
 qb (qf (yy b a (re e.2.1,re f.2)) a) λ u=>qb (qel m e.1.1 (re u.2)) λ i=>cond (ieq z 0) (qb (qf (yy (yy b a (re e.2.1,re f.2)) a (re u.1,re i.2.1)) a) λ y=>
 qb (zi m (re y.2)) λ x=>v t (iw .i64 (qi a 1)) s r q p o n l k d (ieq x 0) i.1.1 c (yy (yy b a (re e.2.1,re f.2)) a (re u.1,re i.2.1)))
 (v t (iw .i64 (qi a 1)) s r q p o n l k d false i.1.1 c (yy (yy b a (re e.2.1,re f.2)) a (re u.1,re i.2.1)))) (qb (qf (yy b a (re e.2.1,re f.2)) a) λ w=>
 qb (qel m e.1.1 (re w.2)) λ j=>v t (iw .i64 (qi a 1)) s r q p o n l k d false j.1.1 c (yy (yy b a (re e.2.1,re f.2)) a (re w.1,re j.2.1))))
 (B c.length 0 s r q p o n l k d h g c b)
def qqi(m:Nat)(v s:Z93)(q d:Int)(r:List (T×T))(n:Int)(l:Y8)(k:Int)(j:TL)(i:Int)(h:Y8)(g:Int)(c:TL)(e:Bool)(p:List ((Y8×Int)×T))(a b:List (T×T)):Z92:=
 cond (ilt d q) (qb (qf a d) λ o=>qb (qel m p (re o.2)) λ f=>cond e (qb (qf (yy a d (re o.1,re f.2.1)) d) λ u=>qb (zi m (re u.2)) λ t=>
 s q (iw .i64 (qi d 1)) r n l k j i h g c (ieq t 0) f.1.1 (yy a d (re o.1,re f.2.1)) b)
 (s q (iw .i64 (qi d 1)) r n l k j i h g c false f.1.1 (yy a d (re o.1,re f.2.1)) b)) (cond (zC (List.length a+1) 112) (cond (qe e)
 (some (((b,a++[(T.mk n l k j,T.mk i h g c)],()),()),(3,()))) (some (((b,a++[(T.mk n l k j,T.mk i h g c)],()),()),(0,())))) none)
def qbA(m:Nat):=qM ((λ _ _ _ _ _ _ _ _ _ _ _ _ _ _ _=>none,λ _ _ _ _ _ _ _ _ _ _ _ _ _ _ _=>none)) λ a=>(qqo m a.1 a.2,qqi m a.1 a.2)
def qa2:Nat->Z95:=qh (λ _ _ _=>none) λ m _=>qh1 m (qbA m m).1 (qbA m m).2
def qrB(m:Nat)(a:(List (T×T))×(List (T×T))×Unit)(c b:T):Z92:=
 let f:Z92:=(qb (qa2 m (a.1,a.2.1,()) (re c) (re b)) λ d=>some (((d.1.1.1,d.1.1.2.1,()),()),(d.2.1,())));let j2:Z92:=(qb (qa2 m (a.1,a.2.1,()) (re b)
 (re c)) λ e=>some (((e.1.1.1,e.1.1.2.1,()),()),(e.2.1,())));cond (ieq c.sort b.sort) (qb (qy m (re c) (re b)) λ g=>cond (ilt g 0) j2 f)
 (cond (ieq b.sort 0) j2 (cond (qe (ieq c.sort 0)) (some (((a.1,a.2.1,()),()),(11,()))) f))
def qmi:Nat->Z95:=qh (λ _ _ _=>none) λ m _=>qrB m
def qww(m:Nat)(d:Z26)(a:Z96)(c:Z97)(b:Z98)(f e:T):Z2:=
 qb (qpt m (re f) (re e)) λ h=>cond h (some true) (qb (a e.kids (re f)) λ g=>some g.2.1)
def qaN(m:Nat)(d:Z26)(b:Z96)(c:Z97)(a:Z98)(g:TL)(e:T):Z72:=
 qb (a g (re e)) λ f=>some ((re f.1.1,()),(ile 0 f.2.1,()))
def qnu(m:Nat)(c:Z26)(a:Z96)(d:Z97)(b:Z98)(g e:T):Z72:=
 qb (c (re e) (re g)) λ f=>some ((re e,()),(f,()))
def Qp(m:Nat)(e:Z26)(a:Z96)(c:Z97)(b:Z98)(g:Z99)(f:TL)(d:T):Z73:=
 g f f.length 0 d.kind d.name d.sort d.kids
def qbO(m:Nat)(d:Z26)(a:Z96)(c:Z97)(b:Z98)(o:Z99)(l:TL)(k f j:Int)(i:Y8)(h:Int)(g:TL):Z73:=
 cond (ilt f k) (qb (qf l f) λ n=>qb (c (re n) (T.mk j i h g)) λ e=>cond e.2.1 (some ((re e.1.1,()),(f,())))
 (o l k (iw .i64 (qi f 1)) e.1.1.kind e.1.1.name e.1.1.sort e.1.1.kids)) (some ((T.mk j i h g,()),((-1),())))
def QB(m:Nat)(d:Z26)(a:Z96)(c:Z97)(b:Z98):=qM (λ _ _ _ _ _ _ _=>none) λ e=>qbO m d a c b e
def qc8:Nat->(Z26)×(Z96)×(Z97)×(Z98):=qh (λ _ _=>none,λ _ _=>none,λ _ _=>none,λ _ _=>none) λ m q=>(qww m q.1 q.2.1 q.2.2.1 q.2.2.2,qaN m q.1 q.2.1 q.2.2.1 q.2.2.2,qnu m q.1 q.2.1 q.2.2.1 q.2.2.2,Qp m q.1 q.2.1 q.2.2.1 q.2.2.2 (QB m q.1 q.2.1 q.2.2.1 q.2.2.2 m))
def qeB:Nat->Z26:=λ k=>(qc8 k).1
def yJ:Nat->Z96:=λ k=>(qc8 k).2.1
def qdL:Nat->Z97:=λ k=>(qc8 k).2.2.1
def jn:Nat->Z98:=λ k=>(qc8 k).2.2.2
def qh5(m:Nat)(r:qQg)(a:(List (T×T))×(List (T×T))×Unit):Z92:=
 qb (qf a.1 0) λ b=>qb (qf a.1 0) λ c=>cond (inb a.1.length a.1.length) (cond (inb 1 (Int.toNat a.1.length)) (qb (qpt m (re b.1) (re c.2)) λ q=>
 cond q (some (((qa9 a.1 1 a.1.length,a.2.1,()),()),(0,()))) (qb (qtx m (re b.1) (re c.2)) λ p=>
 cond p (r b.1.kids.length 0 (qa9 a.1 1 a.1.length) b.1.kind b.1.name b.1.sort b.1.kids c.2.kind c.2.name c.2.sort c.2.kids a.2.1 []) (qb (qdF m (re b.1)) λ o=>let j1:Z92:=
 (qb (qdF m (re c.2)) λ l=>let j2:Z92:=(some (((qa9 a.1 1 a.1.length,a.2.1,()),()),(11,())));cond l (qb (qoQ m (re c.2) (re b.1)) λ k=>
 cond (qe k) j2 (qb (qeB m (re c.2) (re b.1)) λ j=>cond j (some (((qa9 a.1 1 a.1.length,a.2.1,()),()),(12,()))) (qb (qa2 m (qa9 a.1 1 a.1.length,a.2.1,()) (re c.2)
 (re b.1)) λ e=>some (((e.1.1.1,e.1.1.2.1,()),()),(e.2.1,()))))) (qb (qdF m (re b.1)) λ i=>cond (qe i) j2 (qb (qoQ m (re b.1) (re c.2)) λ h=>
 cond (qe h) j2 (qb (qeB m (re b.1) (re c.2)) λ g=>cond g (some (((qa9 a.1 1 a.1.length,a.2.1,()),()),(12,()))) (qb (qa2 m (qa9 a.1 1 a.1.length,a.2.1,())
 (re b.1) (re c.2)) λ d=>some (((d.1.1.1,d.1.1.2.1,()),()),(d.2.1,())))))));cond o (qb (qdF m (re c.2)) λ n=>cond n (qb (qmi m (qa9 a.1 1 a.1.length,a.2.1,())
 (re b.1) (re c.2)) λ f=>some (((f.1.1.1,f.1.1.2.1,()),()),(f.2.1,()))) j1) j1))) none) none
def qqg(m:Nat)(q:qQg)(g d:Int)(e:List (T×T))(n:Int)(l:Y8)(k:Int)(f:TL)(j:Int)(i:Y8)(h:Int)(c:TL)(b a:List (T×T)):Z92:=
 cond (ilt d g) (qb (qf f d) λ p=>qb (qf c d) λ o=>cond (zC (List.length a+1) 112) (q g (iw .i64 (qi d 1)) e n l k f j i h c b (a++[(re p,re o)])) none)
 (cond (zC (List.length a+List.length e) 112) (some (((a++e,b,()),()),(0,()))) none)
def qiZ(m:Nat):=qM (λ _ _ _ _ _ _ _ _ _ _ _ _ _=>none) λ a=>qqg m a
def qkV:Nat->(Z94->Z92):=qh (λ _=>none) λ m _=>qh5 m (qiZ m m)
def qoG(m:Nat)(c b:T×T):Z16:=
 qb (qy m (re c.1) (re b.1)) λ a=>some a
def qfx:Nat->((T×T)->(T×T)->Z16):=qh (λ _ _=>none) λ m _=>qoG m
def yx:Nat->List (T×T)->Option (List (T×T)):=qh (λ _=>none) λ m _=>qo8 (qfx m)
def qrH(m:Nat)(b:List (T×T)):qQl:=
 qb (yx m b) λ a=>cond (Nat.beq a.length b.length) (some ((()),(a,()))) none
def ql3:Nat->(Z79->qQl):=qh (λ _=>none) λ m _=>qrH m
def qnS(m:Nat)(b:qP2)(a:List (T×T)):qy9:=
 b a []
def qxV(m:Nat)(e:qP2)(c b:List (T×T)):qy9:=
 cond (ilt 0 c.length) (qb (qkV m (c,b,())) λ a=>cond (qe (ieq a.2.1 0)) (some ([],a.2.1)) (e a.1.1.1 a.1.1.2.1)) (qb (ql3 m b) λ d=>some (d.2.1,0))
def qp4(m:Nat):=qM (λ _ _=>none) λ a=>qxV m a
def qtE:Nat->(Z79->qy9):=qh (λ _=>none) λ m _=>qnS m (qp4 m m)
def qyQ(m:Nat)(d c:T):qy9:=
 qb (qtr m (re d) (re c)) λ b=>cond (qe (ieq b 0)) (some ([],b)) (qb (qtE m [(re d,re c)]) λ a=>some (a.1,a.2))
def qtq:Nat->(T->T->qy9):=qh (λ _ _=>none) λ m _=>qyQ m
def qhH(m:Nat)(c:qLa)(d:qLY)(a:TL):qx8:=
 qb (qjR m a) λ b=>cond (qe (ieq b 0)) (some (0,0,T.mk 0 [] 0 [],b)) (c a a.length 0 0 [] 0 [])
def qpp(m:Nat)(k:qLa)(j:qLY)(d:TL)(c a h:Int)(g:Y8)(f:Int)(e:TL):qx8:=
 cond (ilt a c) (qb (qf d a) λ i=>qb (qcP m (re i) [97] []) λ b=>j d a (iw .i64 (qi a 1)) c a h g f b.2.1.kind b.2.1.name b.2.1.sort b.2.1.kids e)
 (some (0,0,T.mk 0 [] 0 [],15))
def qpw(m:Nat)(u:qLa)(q:qLY)(e:TL)(n d l k j:Int)(i:Y8)(h g:Int)(f:Y8)(b:Int)(a c:TL):qx8:=
 cond (ilt d e.length) (qb (qf e d) λ t=>qb (qcP m (re t) [98] []) λ s=>qb (qtq m (T.mk g f b a) (re s.2.1)) λ p=>cond (qe (ieq p.2 0))
 (q e n (iw .i64 (qi d 1)) l k j i h g f b a c) (qb (qeq m p.1 (T.mk g f b a)) λ o=>qb (zi m (re o)) λ r=>cond (ieq r 0) (some (n,d,re o,0))
 (q e n (iw .i64 (qi d 1)) l k j i h g f b a c))) (u e l (iw .i64 (qi k 1)) j i h c)
def qbi(m:Nat):=qM ((λ _ _ _ _ _ _ _=>none,λ _ _ _ _ _ _ _ _ _ _ _ _ _=>none)) λ a=>(qpp m a.1 a.2,qpw m a.1 a.2)
def qfA:Nat->(TL->qx8):=qh (λ _=>none) λ m _=>qhH m (qbi m m).1 (qbi m m).2
def qkY(m:Nat)(b:Y8)(a:TL):Z27:=
 cond (zC (List.length ([]:TL)+List.length a) 56) (qj7 a (some (T.mk 3 b 0 [])) λ d c=>some (T.mk 3 b 0 ([]++(d::c)))) none
def yF:Nat->Z54:=qh (λ _ _=>none) λ m _=>qkY m
def qAs(m:Nat)(b:Y8)(a:Int):Z27:=
 some (T.mk 2 b a [])
def qj2:Nat->(Y8->Int->Z27):=qh (λ _ _=>none) λ m _=>qAs m
def qDc(m:Nat)(b:Y8)(a:Int):Z27:=
 some (T.mk 1 b a [])
def qmt:Nat->(Y8->Int->Z27):=qh (λ _ _=>none) λ m _=>qDc m
def qyZ(m:Nat):Z2:=
 qb (qj2 m [97] 1) λ r=>qb (yF m [122,101,114,111] []) λ q=>qb (yF m [112,97,105,114] [re r,re q]) λ p=>qb (qmt m [120] 0) λ n=>
 qb (qmt m [121] 0) λ l=>qb (J6 m (re p)) λ k=>qb (J9 m [16,1,1,97]) λ j=>qb (J9 m [16,1,0]) λ i=>qb (qj2 m [110] 2) λ o=>
 qb (yF m [112,97,105,114] [re n,re o]) λ h=>qb (qj2 m [107] 3) λ g=>qb (yF m [112,97,105,114] [re g,re l]) λ f=>
 qb (qfA m [re h,re f]) λ b=>qb (qmt m [120] 2) λ e=>qb (yF m [112,97,105,114] [re n,re l]) λ d=>qb (qfA m [re e,re d]) λ c=>
 let a:Z2:=(some false);cond (qx k.1 [16,1,1,97,23]) (cond (ieq k.2 0) (cond (ieq j.2.1 4) (cond (ieq j.2.2 2) (cond (ieq i.2.1 2) (cond (ieq i.2.2 2) (cond (ieq b.1 0) (cond (ieq b.2.1 1)
 (cond (ieq b.2.2.2 0) (some (ieq c.2.2.2 15)) a) a) a) a) a) a) a) a) a
def qfR:Nat->(Z2):=qh (none) λ m _=>qyZ m
def qf4(m:Nat)(a:Z17)(c:qze)(b:T):Z16:=
 c 1 0 b.kind b.name b.sort b.kids
def qge(m:Nat)(a:Z17)(j:qze)(d c g:Int)(f:Y8)(e:Int)(b:TL):Z16:=
 cond (ilt c b.length) (qb (qf b c) λ i=>qb (a (re i)) λ h=>j (iw .i64 (qi d h)) (iw .i64 (qi c 1)) g f e b) (some d)
def qaT(m:Nat)(a:Z17):=qM (λ _ _ _ _ _ _=>none) λ b=>qge m a b
def jD:Nat->Z17:=qh (λ _=>none) λ m a=>qf4 m a (qaT m a m)
def qgP(m:Nat)(b a:Int):Z16:=
 cond (ilt b a) (some (-1)) (cond (ilt a b) (some 1) (some 0))
def qa3:Nat->(Int->Int->Z16):=qh (λ _ _=>none) λ m _=>qgP m
def qdi(m:Nat)(a:Z24)(j:qPI)(c b:T):Z16:=
 qb (jD m (re c)) λ i=>qb (jD m (re b)) λ h=>qb (qa3 m i h) λ g=>cond (qe (ieq g 0)) (some g) (qb (qa3 m c.kind b.kind) λ f=>
 cond (qe (ieq f 0)) (some f) (cond (slt c.name b.name) (some (-1)) (cond (qe (qqU (slt c.name b.name) (qx c.name b.name))) (some 1) (qb (qa3 m c.sort b.sort) λ e=>cond (qe (ieq e 0))
 (some e) (qb (qa3 m c.kids.length b.kids.length) λ d=>cond (qe (ieq d 0)) (some d) (j 0 c.kind c.name c.sort c.kids b.kind b.name b.sort b.kids))))))
def qc5(m:Nat)(a:Z24)(o:qPI)(b k:Int)(j:Y8)(i:Int)(c:TL)(h:Int)(g:Y8)(f:Int)(d:TL):Z16:=
 cond (ilt b c.length) (qb (qf c b) λ n=>qb (qf d b) λ l=>qb (a (re n) (re l)) λ e=>cond (qe (ieq e 0)) (some e) (o (iw .i64 (qi b 1)) k j i c h g f d))
 (some 0)
def Ja(m:Nat)(a:Z24):=qM (λ _ _ _ _ _ _ _ _ _=>none) λ b=>qc5 m a b
def zR:Nat->Z24:=qh (λ _ _=>none) λ m a=>qdi m a (Ja m a m)
def qjy(m:Nat)(c b:T):Z2:=
 qb (zR m (re c) (re b)) λ a=>some (ieq a 0)
def JP:Nat->Z26:=qh (λ _ _=>none) λ m _=>qjy m
def qd5(m:Nat)(a:qG5)(d:qze)(b:T)(c:Int):Z16:=
 cond (ile c 0) (some (-1)) (cond (ilt 40 b.name.length) (some (-1)) (d (iw .i64 (yk c 1)) 0 b.kind b.name b.sort b.kids))
def qeb(m:Nat)(a:qG5)(j:qze)(d c h:Int)(g:Y8)(f:Int)(b:TL):Z16:=
 cond (ilt c b.length) (qb (qf b c) λ i=>qb (a (re i) d) λ e=>cond (ilt e 0) (some (-1)) (j e (iw .i64 (qi c 1)) h g f b)) (some d)
def JE(m:Nat)(a:qG5):=qM (λ _ _ _ _ _ _=>none) λ b=>qeb m a b
def jk:Nat->qG5:=qh (λ _ _=>none) λ m a=>qd5 m a (JE m a m)
def qhy(m:Nat)(d:Z65)(a:TL)(c b:Int):Z2:=
 cond (ilt c a.length) (some false) (d a b 0)
def qhd(m:Nat)(f:Z65)(b:TL)(d a:Int):Z2:=
 cond (ilt a b.length) (qb (qf b a) λ e=>qb (jk m (re e) d) λ c=>cond (ilt c 0) (some false) (f b c (iw .i64 (qi a 1)))) (some true)
def qbY(m:Nat):=qM (λ _ _ _=>none) λ a=>qhd m a
def ql9:Nat->(TL->Int->Int->Z2):=qh (λ _ _ _=>none) λ m _=>qhy m (qbY m m)
def qk7(m:Nat)(b:TL):Z2:=
 qb (ql9 m b 20 450) λ a=>some a
def qmY:Nat->(TL->Z2):=qh (λ _=>none) λ m _=>qk7 m
def qeK(m:Nat)(b:T):(Option ((Int)×(Int))):=
 qb (J6 m (re b)) λ a=>some (List.length a.1,a.2)
def qdS:Nat->(T->(Option ((Int)×(Int)))):=qh (λ _=>none) λ m _=>qeK m
def qe4(m:Nat)(a:Z17)(c:qze)(b:T):Z16:=
 c 0 0 b.kind b.name b.sort b.kids
def qfk(m:Nat)(a:Z17)(j:qze)(d c g:Int)(f:Y8)(e:Int)(b:TL):Z16:=
 cond (ilt c b.length) (qb (qf b c) λ i=>qb (a (re i)) λ h=>j (qnw d h) (iw .i64 (qi c 1)) g f e b) (some (iw .i64 (qi d 1)))
def qad(m:Nat)(a:Z17):=qM (λ _ _ _ _ _ _=>none) λ b=>qfk m a b
def jM:Nat->Z17:=qh (λ _=>none) λ m a=>qe4 m a (qad m a m)
def qhD(m:Nat)(a:Int):Z2:=
 let b:Z2:=(cond (ile 65 a) (some (ile a 90)) (some false));cond (ile 97 a) (cond (ile a 122) (some true) b) b
def qeE:Nat->Z9:=qh (λ _=>none) λ m _=>qhD m
def qie(m:Nat)(a:Int):Z2:=
 cond (ile 48 a) (some (ile a 57)) (some false)
def qiL:Nat->Z9:=qh (λ _=>none) λ m _=>qie m
def qdV(m:Nat)(d:qQz)(a:Y8):Z2:=
 cond (ieq a.length 0) (some false) (cond (ilt 24 a.length) (some false) (qb (qf a 0) λ c=>qb (qeE m ((UInt8.toNat c:Nat):Int)) λ b=>cond (qe b) (some false) (d a 0)))
def qdO(m:Nat)(i:qQz)(b:Y8)(a:Int):Z2:=
 cond (ilt a b.length) (qb (qf b a) λ h=>qb (qeE m ((UInt8.toNat h:Nat):Int)) λ g=>let j1:Z2:=(i b (iw .i64 (qi a 1)));cond (qe g) (qb (qf b a) λ f=>
 qb (qiL m ((UInt8.toNat f:Nat):Int)) λ e=>cond (qe e) (qb (qf b a) λ d=>cond (qe (ieq ((UInt8.toNat d:Nat):Int) 95)) (qb (qf b a) λ c=>
 cond (qe (ieq ((UInt8.toNat c:Nat):Int) 35)) (some false) j1) j1) j1) j1) (some true)
def JC(m:Nat):=qM (λ _ _=>none) λ a=>qdO m a
def qcN:Nat->Z11:=qh (λ _=>none) λ m _=>qdV m (JC m m)
def qjm(m:Nat)(a:T):Z16:=
 let d:Z16:=(qb (qcN m a.name) λ e=>cond (qe e) (some 2) (cond (ilt 8 a.kids.length) (some 3) (some 0)));let j2:Z16:=(cond (ilt 0 a.kids.length) (some 1) d);cond (ieq a.kind 1)
 (cond (ilt a.sort 0) (some 1) (cond (ilt 5 a.sort) (some 1) j2)) (let c:Z16:=(cond (ilt a.sort 0) (some 1) (cond (ilt 5 a.sort) (some 1) (let b:Z16:=(cond (ieq a.kind 2) j2 d);
 cond (qe (ieq a.kind 2)) (cond (qe (ieq a.sort 0)) (some 1) b) b)));cond (qe (ieq a.kind 2)) (cond (qe (ieq a.kind 3)) (some 1) c) c)
def qkl:Nat->Z17:=qh (λ _=>none) λ m _=>qjm m
def qeU(m:Nat)(a:Z17)(d:qH3)(b:T):Z16:=
 qb (qkl m (re b)) λ c=>cond (qe (ieq c 0)) (some c) (d 0 b.kind b.name b.sort b.kids)
def qeV(m:Nat)(a:Z17)(i:qH3)(c g:Int)(f:Y8)(e:Int)(b:TL):Z16:=
 cond (ilt c b.length) (qb (qf b c) λ h=>qb (a (re h)) λ d=>cond (qe (ieq d 0)) (some d) (i (iw .i64 (qi c 1)) g f e b)) (some 0)
def qab(m:Nat)(a:Z17):=qM (λ _ _ _ _ _=>none) λ b=>qeV m a b
def jN:Nat->Z17:=qh (λ _=>none) λ m a=>qeU m a (qab m a m)
def qin(m:Nat)(a:T):Z16:=
 qb (jN m (re a)) λ b=>cond (qe (ieq b 0)) (some b) (qb (jD m (re a)) λ d=>cond (ilt 400 d) (some 3) (qb (jM m (re a)) λ c=>cond (ilt 40 c) (some 3) (some 0)))
def js:Nat->Z17:=qh (λ _=>none) λ m _=>qin m
def quY(m:Nat):qQu:=
 some [([112,97,105,114],(2,(2,1))),([101,110,99],(2,(2,1))),([97,101,110,99],(2,(2,1))),([112,107],(1,(1,1))),([115,105,103,110],(2,(2,1))),([104,97,115,104],(1,(1,1))),([120,111,114],(2,(8,1))),([122,101,114,111],(0,(0,1))),([101,120,112],(2,(2,1))),([109,117,108],(2,(8,1))),([105,110,118],(1,(1,1))),([111,110,101],(0,(0,1))),([115,107],(1,(1,2))),([115,104,107],(2,(2,2))),([110,101,119],(1,(8,2))),([102,115,116],(1,(1,3))),([115,110,100],(1,(1,3))),([100,101,99],(2,(2,3))),([97,100,101,99],(2,(2,3))),([111,112,101,110],(2,(2,3))),([114,101,97,100],(1,(1,3)))]
def qjp:Nat->(qQu):=qh (none) λ m _=>quY m
def qfV(m:Nat)(c:qPU)(b:Y8):Z16:=
 qb (qjp m) λ a=>c b a 0
def qfY(m:Nat)(f:qPU)(c:Y8)(b:List (Y8×(Int×(Int×Int))))(a:Int):Z16:=
 cond (ilt a b.length) (qb (qf b a) λ e=>cond (qx e.1 c) (qb (qf b a) λ d=>some d.2.2.2) (f c b (iw .i64 (qi a 1)))) (some 0)
def qaX(m:Nat):=qM (λ _ _ _=>none) λ a=>qfY m a
def qe8:Nat->(Y8->Z16):=qh (λ _=>none) λ m _=>qfV m (qaX m m)
def qgd(m:Nat)(c:qPw)(a:T):Z2:=
 qb (qjp m) λ b=>c b 0 a.kind a.name a.sort a.kids
def qga(m:Nat)(j:qPw)(b:List (Y8×(Int×(Int×Int))))(a f:Int)(d:Y8)(e:Int)(c:TL):Z2:=
 cond (ilt a b.length) (qb (qf b a) λ i=>cond (qx i.1 d) (qb (qf b a) λ h=>cond (ile h.2.1 c.length) (qb (qf b a) λ g=>some (ile c.length g.2.2.1)) (some false))
 (j b (iw .i64 (qi a 1)) f d e c)) (some false)
def qa0(m:Nat):=qM (λ _ _ _ _ _ _=>none) λ a=>qga m a
def qkq:Nat->Z41:=qh (λ _=>none) λ m _=>qgd m (qa0 m m)
def qdN(m:Nat)(c:qQe)(a:T):Z2:=
 cond (qx a.name [110,101,119]) (qb (qf a.kids 0) λ b=>some (ieq b.kind 2)) (c 0 a.kind a.name a.sort a.kids)
def qd6(m:Nat)(h:qQe)(b e:Int)(d:Y8)(c:Int)(a:TL):Z2:=
 cond (ilt b a.length) (qb (qf a b) λ g=>cond (ieq g.kind 3) (some false) (qb (qf a b) λ f=>cond (qe (ieq f.sort 1)) (some false) (h (iw .i64 (qi b 1)) e d c a))) (some true)
def JB(m:Nat):=qM (λ _ _ _ _ _=>none) λ a=>qd6 m a
def qg9:Nat->Z41:=qh (λ _=>none) λ m _=>qdN m (JB m m)
def qe6(m:Nat)(b:Z17)(d:qH3)(a:T):Z16:=
 cond (qe (ieq a.kind 3)) (some 0) (qb (qe8 m a.name) λ c=>cond (ieq c 0) (some 10) (qb (qkq m (re a)) λ f=>cond (qe f) (some 6) (cond (ieq c 2)
 (qb (qg9 m (re a)) λ e=>cond (qe e) (some 10) (d 0 a.kind a.name a.sort a.kids)) (d 0 a.kind a.name a.sort a.kids))))
def qeS(m:Nat)(a:Z17)(i:qH3)(c g:Int)(f:Y8)(e:Int)(b:TL):Z16:=
 cond (ilt c b.length) (qb (qf b c) λ h=>qb (a (re h)) λ d=>cond (qe (ieq d 0)) (some d) (i (iw .i64 (qi c 1)) g f e b)) (some 0)
def Jl(m:Nat)(a:Z17):=qM (λ _ _ _ _ _=>none) λ b=>qeS m a b
def jv:Nat->Z17:=qh (λ _=>none) λ m a=>qe6 m a (Jl m a m)
def qit(m:Nat)(b:T):Z16:=
 qb (js m (re b)) λ a=>cond (qe (ieq a 0)) (some a) (qb (jv m (re b)) λ c=>some c)
def qfK:Nat->Z17:=qh (λ _=>none) λ m _=>qit m
def qhC(m:Nat)(a:Z33)(c:qPj)(b:T):Z29:=
 c 0 b.kind b.name b.sort b.kids [re b]
def qhg(m:Nat)(a:Z33)(j:qPj)(d h:Int)(g:Y8)(f:Int)(c b:TL):Z29:=
 cond (ilt d c.length) (qb (qf c d) λ i=>qb (a (re i)) λ e=>cond (zC (List.length b+List.length e) 56) (j (iw .i64 (qi d 1)) h g f c (b++e)) none) (some b)
def qb0(m:Nat)(a:Z33):=qM (λ _ _ _ _ _ _=>none) λ b=>qhg m a b
def Qv:Nat->Z33:=qh (λ _=>none) λ m a=>qhC m a (qb0 m a m)
def qnb(m:Nat)(a:T)(b:Y8):Z2:=
 cond (ieq a.kind 3) (some (qx a.name b)) (some false)
def qbW:Nat->(T->Y8->Z2):=qh (λ _ _=>none) λ m _=>qnb m
def qgp(m:Nat)(a:T):qq3:=
 qb (qf a.kids 0) λ b=>let j1:qq3:=(qb (qf b.kids 0) λ y=>some (re y,true));let j2:qq3:=(let r:qq3:=(let q:qq3:=(let p:qq3:=(let o:qq3:=
 (cond (qx a.name [114,101,97,100]) (qb (qbW m (re b) [115,105,103,110]) λ c=>cond c j1 (some (re a,false))) (some (re a,false)));cond (qx a.name [111,112,101,110])
 (qb (qbW m (re b) [115,105,103,110]) λ h=>cond h (qb (qf a.kids 1) λ g=>qb (qf b.kids 1) λ f=>qb (yF m [112,107] [re f]) λ e=>qb (JP m (re g)
 (re e)) λ d=>cond d j1 o) o) o);cond (qx a.name [97,100,101,99]) (qb (qbW m (re b) [97,101,110,99]) λ n=>cond n (qb (qf b.kids 1) λ l=>
 qb (qf a.kids 1) λ k=>qb (yF m [112,107] [re k]) λ j=>qb (JP m (re l) (re j)) λ i=>cond i j1 p) p) p);cond (qx a.name [100,101,99])
 (qb (qbW m (re b) [101,110,99]) λ v=>cond v (qb (qf b.kids 1) λ u=>qb (qf a.kids 1) λ t=>qb (JP m (re u) (re t)) λ s=>cond s j1 q) q) q);
 cond (qx a.name [115,110,100]) (qb (qbW m (re b) [112,97,105,114]) λ x=>cond x (qb (qf b.kids 1) λ w=>some (re w,true)) r) r);cond (qx a.name [102,115,116])
 (qb (qbW m (re b) [112,97,105,114]) λ z=>cond z j1 j2) j2
def qgb:Nat->(T->qq3):=qh (λ _=>none) λ m _=>qgp m
def qfn(m:Nat)(c:qOQ)(b:TL)(a:T):Z16:=
 cond (ilt 200 b.length) (some 3) (c b 0 a.kind a.name a.sort a.kids)
def qeX(m:Nat)(j:qOQ)(b:TL)(a f:Int)(e:Y8)(d:Int)(c:TL):Z16:=
 cond (ilt a b.length) (qb (qf b a) λ i=>qb (js m (re i)) λ g=>cond (qe (ieq g 0)) (some g) (j b (iw .i64 (qi a 1)) f e d c))
 (qb (js m (T.mk f e d c)) λ h=>some h)
def qaf(m:Nat):=qM (λ _ _ _ _ _ _=>none) λ a=>qeX m a
def qiS:Nat->(TL->T->Z16):=qh (λ _ _=>none) λ m _=>qfn m (qaf m m)
def qjo(m:Nat):Z27:=
 qb (yF m [122,101,114,111] []) λ a=>some (re a)
def qkg:Nat->(Z27):=qh (none) λ m _=>qjo m
def qhh(m:Nat)(c:qPu)(b:TL)(a:T):Z29:=
 c b false 0 a.kind a.name a.sort a.kids []
def qgY(m:Nat)(i:qPu)(c:TL)(h:Bool)(b g:Int)(f:Y8)(e:Int)(d a:TL):Z29:=
 cond (ilt b c.length) (qb (qf c b) λ o=>qb (zR m (T.mk g f e d) (re o)) λ j=>let j1:Z29:=(qb (qf c b) λ k=>cond (zC (List.length a+1) 56)
 (i c h (iw .i64 (qi b 1)) g f e d (a++[re k])) none);cond (qe h) (cond (ile j 0) (cond (ilt j 0) (cond (zC (List.length a+1) 56) (qb (qf c b) λ n=>
 cond (zC (List.length (a++[T.mk g f e d])+1) 56) (i c true (iw .i64 (qi b 1)) g f e d ((a++[T.mk g f e d])++[re n])) none) none) (qb (qf c b) λ l=>
 cond (zC (List.length a+1) 56) (i c true (iw .i64 (qi b 1)) g f e d (a++[re l])) none)) j1) j1) (cond (qe h) (cond (zC (List.length a+1) 56) (some (a++[T.mk g f e d])) none) (some a))
def qb5(m:Nat):=qM (λ _ _ _ _ _ _ _ _=>none) λ a=>qgY m a
def qi4:Nat->(TL->T->Z29):=qh (λ _ _=>none) λ m _=>qhh m (qb5 m m)
def qhb(m:Nat)(c:qPc)(b:TL)(a:T):Z2:=
 c b 0 a.kind a.name a.sort a.kids
def qhF(m:Nat)(i:qPc)(b:TL)(a f:Int)(e:Y8)(d:Int)(c:TL):Z2:=
 cond (ilt a b.length) (qb (qf b a) λ h=>qb (JP m (re h) (T.mk f e d c)) λ g=>cond g (some true) (i b (iw .i64 (qi a 1)) f e d c)) (some false)
def qb1(m:Nat):=qM (λ _ _ _ _ _ _=>none) λ a=>qhF m a
def qmX:Nat->(TL->T->Z2):=qh (λ _ _=>none) λ m _=>qhb m (qb1 m m)
def qdZ(m:Nat)(e:qQp)(b:TL)(a:T):Z29:=
 qb (qmX m b (re a)) λ d=>cond (qe d) (qb (qi4 m b (re a)) λ c=>some c) (e b 0 a.kind a.name a.sort a.kids [])
def qd3(m:Nat)(h:qQp)(b:TL)(a g:Int)(f:Y8)(e:Int)(d c:TL):Z29:=
 cond (ilt a b.length) (qb (qf b a) λ k=>qb (JP m (re k) (T.mk g f e d)) λ j=>cond (qe j) (qb (qf b a) λ i=>cond (zC (List.length c+1) 56)
 (h b (iw .i64 (qi a 1)) g f e d (c++[re i])) none) (h b (iw .i64 (qi a 1)) g f e d c)) (some c)
def JL(m:Nat):=qM (λ _ _ _ _ _ _ _=>none) λ a=>qd3 m a
def qhl:Nat->(TL->T->Z29):=qh (λ _ _=>none) λ m _=>qdZ m (JL m m)
def qgc(m:Nat)(c:qH0)(b a:TL):Z29:=
 cond (zC (List.length ([]:TL)+List.length b) 56) (qj7 b (c a [] 0) λ e d=>c a ([]++(e::d)) 0) none
def qfX(m:Nat)(f:qH0)(b c:TL)(a:Int):Z29:=
 cond (ilt a b.length) (qb (qf b a) λ e=>qb (qhl m c (re e)) λ d=>f b d (iw .i64 (qi a 1))) (some c)
def J3(m:Nat):=qM (λ _ _ _=>none) λ a=>qfX m a
def qhS:Nat->(TL->TL->Z29):=qh (λ _ _=>none) λ m _=>qgc m (J3 m m)
def qca(m:Nat)(a:Z33)(d:qQm)(b:T):Z29:=
 let c:Z29:=(cond (qe (ieq b.kind 3)) (some [re b]) (cond (qe (qx b.name [120,111,114])) (some [re b]) (d [] 0 b.kind b.name b.sort b.kids)));cond (ieq b.kind 3)
 (cond (qx b.name [122,101,114,111]) (cond (ieq b.kids.length 0) (some []) c) c) c
def qcc(m:Nat)(a:Z33)(k:qQm)(d:TL)(c g:Int)(f:Y8)(e:Int)(b:TL):Z29:=
 cond (ilt c b.length) (qb (qf b c) λ j=>qb (a (re j)) λ i=>qb (qhS m d i) λ h=>k h (iw .i64 (qi c 1)) g f e b) (some d)
def jX(m:Nat)(a:Z33):=qM (λ _ _ _ _ _ _=>none) λ b=>qcc m a b
def zZ:Nat->Z33:=qh (λ _=>none) λ m a=>qca m a (jX m a m)
def qjq(m:Nat)(a:TL):Z27:=
 cond (ieq a.length 0) (qb (yF m [122,101,114,111] []) λ e=>some (re e)) (cond (ieq a.length 1) (qb (qf a 0) λ d=>some (re d))
 (cond (zC (List.length ([]:TL)+List.length a) 56) (qj7 a (some (T.mk 3 [120,111,114] 0 [])) λ c b=>some (T.mk 3 [120,111,114] 0 ([]++(c::b)))) none))
def qkh:Nat->(TL->Z27):=qh (λ _=>none) λ m _=>qjq m
def qgU(m:Nat)(d:qQa)(b:TL):Z36:=
 qb (qkg m) λ c=>qb (qiS m b (re c)) λ a=>cond (qe (ieq a 0)) (some (T.mk 0 [] 0 [],a)) (d b [] 0 0 [] 0 [])
def qhX(m:Nat)(n:qQa)(b c:TL)(a h:Int)(g:Y8)(f:Int)(e:TL):Z36:=
 cond (ilt a b.length) (qb (qf b a) λ l=>qb (zZ m (re l)) λ k=>qb (qhS m c k) λ j=>n b j (iw .i64 (qi a 1)) h g f e) (qb (qkh m c) λ d=>
 qb (js m (re d)) λ i=>cond (qe (ieq i 0)) (some (T.mk 0 [] 0 [],3)) (some (re d,0)))
def qbX(m:Nat):=qM (λ _ _ _ _ _ _ _=>none) λ a=>qhX m a
def qmL:Nat->(TL->Z36):=qh (λ _=>none) λ m _=>qgU m (qbX m m)
def qgk(m:Nat)(a:T):Z2:=
 cond (ieq a.kind 3) (cond (qx a.name [109,117,108]) (some true) (cond (qx a.name [105,110,118]) (some true) (some (qx a.name [111,110,101])))) (some false)
def qbw:Nat->Z41:=qh (λ _=>none) λ m _=>qgk m
def qe3(m:Nat)(b:Z41)(e:qPm)(a:T):Z2:=
 qb (qbw m (re a)) λ f=>cond (qe f) (some true) (let d:Z2:=(let c:Z2:=(cond (qx a.name [111,110,101]) (cond (qe (ieq a.kids.length 0)) (some false)
 (e a.kids.length 0 a.kind a.name a.sort a.kids)) (e a.kids.length 0 a.kind a.name a.sort a.kids));cond (qx a.name [105,110,118]) (cond (qe (ieq a.kids.length 1)) (some false) c) c);
 cond (qx a.name [109,117,108]) (cond (ilt a.kids.length 2) (some false) d) d)
def qeO(m:Nat)(a:Z41)(j:qPm)(d b g:Int)(f:Y8)(e:Int)(c:TL):Z2:=
 cond (ilt b d) (qb (qf c b) λ i=>qb (a (re i)) λ h=>cond (qe h) (some false) (j d (iw .i64 (qi b 1)) g f e c)) (some true)
def Jn(m:Nat)(a:Z41):=qM (λ _ _ _ _ _ _=>none) λ b=>qeO m a b
def jr:Nat->Z41:=qh (λ _=>none) λ m a=>qe3 m a (Jn m a m)
def qg2(m:Nat)(d:qO1)(c:List (T×Int))(a:T)(b:Int):Z46:=
 d b false 0 a.kind a.name a.sort a.kids c []
def qhA(m:Nat)(i:qO1)(a:Int)(l:Bool)(h f:Int)(e:Y8)(d:Int)(c:TL)(g b:List (T×Int)):Z46:=
 cond (ilt h g.length) (qb (qf g h) λ o=>qb (zR m (T.mk f e d c) (re o.1)) λ n=>let j1:Z46:=(qb (qf g h) λ j=>cond (ieq n 0)
 (cond (qe (ieq (iw .i64 (qi j.2 a)) 0)) (cond (zC (List.length b+1) 64) (i a true (iw .i64 (qi h 1)) f e d c g (b++[(re j.1,iw .i64 (qi j.2 a))])) none)
 (i a true (iw .i64 (qi h 1)) f e d c g b)) (cond (qe (ieq j.2 0)) (cond (zC (List.length b+1) 64) (i a l (iw .i64 (qi h 1)) f e d c g (b++[(re j.1,j.2)])) none)
 (i a l (iw .i64 (qi h 1)) f e d c g b)));cond (qe l) (cond (ilt n 0) (cond (zC (List.length b+1) 64) (qb (qf g h) λ k=>cond (ieq n 0) (cond (qe (ieq (iw .i64 (qi k.2 a)) 0))
 (cond (zC (List.length (b++[(T.mk f e d c,a)])+1) 64) (i a true (iw .i64 (qi h 1)) f e d c g ((b++[(T.mk f e d c,a)])++[(re k.1,iw .i64 (qi k.2 a))])) none)
 (i a true (iw .i64 (qi h 1)) f e d c g (b++[(T.mk f e d c,a)]))) (cond (qe (ieq k.2 0)) (cond (zC (List.length (b++[(T.mk f e d c,a)])+1) 64)
 (i a true (iw .i64 (qi h 1)) f e d c g ((b++[(T.mk f e d c,a)])++[(re k.1,k.2)])) none) (i a true (iw .i64 (qi h 1)) f e d c g (b++[(T.mk f e d c,a)])))) none) j1) j1)
 (cond (qe l) (cond (zC (List.length b+1) 64) (some ((()),(b++[(T.mk f e d c,a)],()))) none) (some ((()),(b,()))))
def JN(m:Nat):=qM (λ _ _ _ _ _ _ _ _ _=>none) λ a=>qhA m a
def qjg:Nat->qDU:=qh (λ _ _ _=>none) λ m _=>qg2 m (JN m m)
def qdp(m:Nat)(a:qDU)(e:qO5)(d:List (T×Int))(b:T)(c:Int):Z46:=
 qb (qbw m (re b)) λ g=>cond (qe g) (qb (qjg m d (re b) c) λ f=>some ((()),(f.2.1,()))) (cond (qx b.name [105,110,118])
 (e (iw .i64 (yk 0 c)) 0 b.kind b.name b.sort b.kids d) (e c 0 b.kind b.name b.sort b.kids d))
def qc4(m:Nat)(a:qDU)(k:qO5)(e c h:Int)(g:Y8)(f:Int)(b:TL)(d:List (T×Int)):Z46:=
 cond (ilt c b.length) (qb (qf b c) λ j=>qb (a d (re j) e) λ i=>k e (iw .i64 (qi c 1)) h g f b i.2.1) (some ((()),(d,())))
def Qx(m:Nat)(a:qDU):=qM (λ _ _ _ _ _ _ _=>none) λ b=>qc4 m a b
def yp:Nat->qDU:=qh (λ _ _ _=>none) λ m a=>qdp m a (Qx m a m)
def qnh(m:Nat)(a:T):Z50:=
 qb (js m (re a)) λ c=>cond (qe (ieq c 0)) (some ([],c)) (qb (jr m (re a)) λ d=>cond (qe d) (some ([],6)) (qb (yp m [] (re a) 1) λ b=>
 cond (ilt 200 b.2.1.length) (some ([],3)) (some (b.2.1,0))))
def qii:Nat->Z51:=qh (λ _=>none) λ m _=>qnh m
def qeT(m:Nat)(b:qHP)(a:List (T×Int)):Z16:=
 cond (ilt 200 a.length) (some 3) (b a 0)
def qfo(m:Nat)(e:qHP)(b:List (T×Int))(a:Int):Z16:=
 cond (ilt a b.length) (qb (qf b a) λ n=>qb (js m (re n.1)) λ d=>cond (qe (ieq d 0)) (some d) (qb (qf b a) λ l=>qb (qbw m (re l.1)) λ k=>cond k (some 1)
 (qb (qf b a) λ j=>cond (ieq j.2 0) (some 7) (qb (qf b a) λ i=>cond (ilt i.2 (-1000)) (some 7) (qb (qf b a) λ h=>cond (ilt 1000 h.2) (some 7) (cond (ilt 0 a)
 (qb (qf b (iw .i64 (yk a 1))) λ g=>qb (qf b a) λ f=>qb (zR m (re g.1) (re f.1)) λ c=>cond (ile 0 c) (some 5) (e b (iw .i64 (qi a 1))))
 (e b (iw .i64 (qi a 1))))))))) (some 0)
def Jm(m:Nat):=qM (λ _ _=>none) λ a=>qfo m a
def qdC:Nat->Z53:=qh (λ _=>none) λ m _=>qeT m (Jm m m)
def qcn(m:Nat)(b:qnd)(e:qnn)(d:qnd)(c:qnn)(a:List (T×Int)):Z29:=
 b a 0 []
def qcl(m:Nat)(g:qnd)(e:qnn)(d:qnd)(f:qnn)(a:List (T×Int))(c:Int)(b:TL):Z29:=
 cond (ilt c a.length) (e a c 0 b) (d a 0 b)
def qb8(m:Nat)(e:qnd)(h:qnn)(j:qnd)(i:qnn)(c:List (T×Int))(b d:Int)(a:TL):Z29:=
 qb (qf c b) λ g=>cond (ilt d g.2) (cond (ilt a.length 9) (qb (qf c b) λ f=>cond (zC (List.length a+1) 56) (h c b (iw .i64 (qi d 1)) (a++[re f.1])) none)
 (e c (iw .i64 (qi b 1)) a)) (e c (iw .i64 (qi b 1)) a)
def qcb(m:Nat)(g:qnd)(f:qnn)(e:qnd)(d:qnn)(c:List (T×Int))(b:Int)(a:TL):Z29:=
 cond (ilt b c.length) (d c b 0 a) (some a)
def qci(m:Nat)(k:qnd)(j:qnn)(e:qnd)(i:qnn)(c:List (T×Int))(b d:Int)(a:TL):Z29:=
 qb (qf c b) λ h=>cond (ilt d (iw .i64 (yk 0 h.2))) (cond (ilt a.length 9) (qb (qf c b) λ g=>qb (yF m [105,110,118] [re g.1]) λ f=>cond (zC (List.length a+1) 56)
 (i c b (iw .i64 (qi d 1)) (a++[re f])) none) (e c (iw .i64 (qi b 1)) a)) (e c (iw .i64 (qi b 1)) a)
def qm(m:Nat):=qM ((λ _ _ _=>none,λ _ _ _ _=>none,λ _ _ _=>none,λ _ _ _ _=>none)) λ a=>(qcl m a.1 a.2.1 a.2.2.1 a.2.2.2,qb8 m a.1 a.2.1 a.2.2.1 a.2.2.2,qcb m a.1 a.2.1 a.2.2.1 a.2.2.2,qci m a.1 a.2.1 a.2.2.1 a.2.2.2)
def qeW:Nat->(Z44->Z29):=qh (λ _=>none) λ m _=>qcn m (qm m m).1 (qm m m).2.1 (qm m m).2.2.1 (qm m m).2.2.2
def qjw(m:Nat)(i:List (T×Int)):Z36:=
 qb (qdC m i) λ h=>cond (qe (ieq h 0)) (some (T.mk 0 [] 0 [],h)) (qb (qeW m i) λ a=>cond (ilt 8 a.length) (some (T.mk 0 [] 0 [],3))
 (qb (yF m [109,117,108] a) λ g=>let j1:Z36:=(qb (qf a 0) λ e=>qb (js m (re e)) λ d=>cond (qe (ieq d 0)) (some (T.mk 0 [] 0 [],d)) (some (re e,0)));
 cond (ieq a.length 0) (qb (yF m [111,110,101] []) λ f=>cond (ieq a.length 1) j1 (qb (js m (re f)) λ c=>cond (qe (ieq c 0)) (some (T.mk 0 [] 0 [],c)) (some (re f,0))))
 (cond (ieq a.length 1) j1 (qb (js m (re g)) λ b=>cond (qe (ieq b 0)) (some (T.mk 0 [] 0 [],b)) (some (re g,0))))))
def qda:Nat->Z57:=qh (λ _=>none) λ m _=>qjw m
def qgn(m:Nat)(c:T):Z36:=
 qb (qii m (re c)) λ a=>cond (qe (ieq a.2 0)) (some (T.mk 0 [] 0 [],a.2)) (qb (qda m a.1) λ b=>some (re b.1,b.2))
def qdv:Nat->Z63:=qh (λ _=>none) λ m _=>qgn m
def qde(m:Nat)(b:qHP)(a:List (T×Int)):Z16:=
 b a 0
def qc7(m:Nat)(e:qHP)(a:List (T×Int))(b:Int):Z16:=
 cond (ilt b a.length) (qb (qf a b) λ d=>cond (ilt d.2 (-1000)) (some 7) (qb (qf a b) λ c=>cond (ilt 1000 c.2) (some 7) (e a (iw .i64 (qi b 1))))) (cond (ilt 200 a.length) (some 3)
 (some 0))
def Jg(m:Nat):=qM (λ _ _=>none) λ a=>qc7 m a
def qf5:Nat->Z53:=qh (λ _=>none) λ m _=>qde m (Jg m m)
def qgS(m:Nat)(e:qQb)(b a:List (T×Int)):Z50:=
 qb (qdC m b) λ d=>cond (qe (ieq d 0)) (some ([],d)) (qb (qdC m a) λ c=>cond (qe (ieq c 0)) (some ([],c)) (cond (zC (List.length ([]:List (T×Int))+List.length b) 64)
 (qj7 b (e a 0 []) λ g f=>e a 0 ([]++(g::f))) none))
def qhc(m:Nat)(h:qQb)(b:List (T×Int))(a:Int)(c:List (T×Int)):Z50:=
 cond (ilt a b.length) (qb (qf b a) λ g=>qb (qf b a) λ f=>qb (qjg m c (re g.1) f.2) λ e=>h b (iw .i64 (qi a 1)) e.2.1) (qb (qf5 m c) λ d=>
 cond (qe (ieq d 0)) (some ([],d)) (some (c,0)))
def qaF(m:Nat):=qM (λ _ _ _=>none) λ a=>qhc m a
def qmC:Nat->Z61:=qh (λ _ _=>none) λ m _=>qgS m (qaF m m)
def qiw(m:Nat)(b l:T):Z36:=
 qb (qii m (re l)) λ a=>cond (qe (ieq a.2 0)) (some (T.mk 0 [] 0 [],a.2)) (qb (qbW m (re b) [101,120,112]) λ k=>cond k (qb (qf b.kids 1) λ j=>
 qb (qii m (re j)) λ f=>cond (qe (ieq f.2 0)) (some (T.mk 0 [] 0 [],f.2)) (qb (qmC m f.1 a.1) λ c=>cond (qe (ieq c.2 0)) (some (T.mk 0 [] 0 [],c.2))
 (qb (qf b.kids 0) λ h=>cond (ieq c.1.length 0) (some (re h,0)) (qb (qda m c.1) λ e=>cond (qe (ieq e.2 0)) (some (T.mk 0 [] 0 [],e.2))
 (qb (yF m [101,120,112] [re h,re e.1]) λ i=>some (re i,0)))))) (cond (ieq a.1.length 0) (some (re b,0)) (qb (qda m a.1) λ d=>cond (qe (ieq d.2 0))
 (some (T.mk 0 [] 0 [],d.2)) (qb (yF m [101,120,112] [re b,re d.1]) λ g=>some (re g,0)))))
def qiK:Nat->Z62:=qh (λ _ _=>none) λ m _=>qiw m
def qea(m:Nat)(a:Z63)(c:qPv)(b:T):Z36:=
 cond (qe (ieq b.kind 3)) (some (re b,0)) (c 0 b.kind b.name b.sort b.kids 0 [] 0 [] [])
def qdR(m:Nat)(a:Z63)(x:qPv)(f t:Int)(b:Y8)(s:Int)(e:TL)(r:Int)(q:Y8)(p:Int)(o c:TL):Z36:=
 cond (ilt f e.length) (qb (qf e f) λ w=>qb (a (re w)) λ h=>cond (qe (ieq h.2 0)) (some (T.mk 0 [] 0 [],h.2)) (cond (zC (List.length c+1) 56)
 (x (iw .i64 (qi f 1)) t b s e r q p o (c++[re h.1])) none)) (qb (yF m b c) λ g=>qb (qe8 m b) λ v=>cond (ieq v 3) (qb (qgb m (re g)) λ u=>
 some (re u.1,0)) (cond (qx b [120,111,114]) (qb (qmL m c) λ n=>some (re n.1,n.2)) (let k:Z36:=(qb (qdv m (re g)) λ l=>some (re l.1,l.2));
 cond (qx b [109,117,108]) k (cond (qx b [105,110,118]) k (cond (qx b [111,110,101]) k (cond (qx b [101,120,112]) (qb (qf c 0) λ j=>qb (qf c 1) λ i=>
 qb (qiK m (re j) (re i)) λ d=>some (re d.1,d.2)) (some (re g,0))))))))
def JG(m:Nat)(a:Z63):=qM (λ _ _ _ _ _ _ _ _ _ _=>none) λ b=>qdR m a b
def ji:Nat->Z63:=qh (λ _=>none) λ m a=>qea m a (JG m a m)
def qhR(m:Nat)(d:T):Z36:=
 qb (qfK m (re d)) λ c=>cond (qe (ieq c 0)) (some (T.mk 0 [] 0 [],c)) (qb (ji m (re d)) λ a=>cond (qe (ieq a.2 0)) (some (T.mk 0 [] 0 [],a.2))
 (qb (js m (re a.1)) λ b=>cond (qe (ieq b 0)) (some (T.mk 0 [] 0 [],b)) (some (re a.1,0))))
def qho:Nat->Z63:=qh (λ _=>none) λ m _=>qhR m
def qfe(m:Nat)(e:qPt)(a:T):Z2:=
 qb (qho m (re a)) λ b=>cond (qe (ieq b.2 0)) (some false) (qb (JP m (re a) (re b.1)) λ d=>cond (qe d) (some false) (qb (Qv m (re a)) λ c=>e c 0))
def qeN(m:Nat)(c:qPt)(b:TL)(a:Int):Z2:=
 cond (ilt a b.length) (qb (qf b a) λ f=>cond (ieq f.kind 3) (qb (qf b a) λ e=>qb (qe8 m e.name) λ d=>cond (ieq d 3) (some false) (c b (iw .i64 (qi a 1))))
 (c b (iw .i64 (qi a 1)))) (some true)
def qac(m:Nat):=qM (λ _ _=>none) λ a=>qeN m a
def qiI:Nat->Z41:=qh (λ _=>none) λ m _=>qfe m (qac m m)
def qhm(m:Nat)(b:qH0)(a:TL):Z29:=
 b a [] 0
def qhv(m:Nat)(f:qH0)(b c:TL)(a:Int):Z29:=
 cond (ilt a b.length) (qb (qf b a) λ e=>qb (qi4 m c (re e)) λ d=>f b d (iw .i64 (qi a 1))) (some c)
def qbZ(m:Nat):=qM (λ _ _ _=>none) λ a=>qhv m a
def qlY:Nat->Z38:=qh (λ _=>none) λ m _=>qhm m (qbZ m m)
def qf9(m:Nat)(d:qPl)(c:T)(b:Int):Z29:=
 qb (Qv m (re c)) λ a=>d b a 0 []
def qf2(m:Nat)(e:qPl)(d:Int)(b:TL)(a:Int)(c:TL):Z29:=
 cond (ilt a b.length) (qb (qf b a) λ h=>cond (ieq h.kind d) (qb (qf b a) λ g=>cond (zC (List.length c+1) 56) (e d b (iw .i64 (qi a 1)) (c++[re g])) none)
 (e d b (iw .i64 (qi a 1)) c)) (qb (qlY m c) λ f=>some f)
def qaS(m:Nat):=qM (λ _ _ _ _=>none) λ a=>qf2 m a
def qkf:Nat->(T->Int->Z29):=qh (λ _ _=>none) λ m _=>qf9 m (qaS m m)
def qjt(m:Nat)(b:T):Z29:=
 qb (qkf m (re b) 1) λ a=>some a
def qkc:Nat->Z33:=qh (λ _=>none) λ m _=>qjt m
def qgR(m:Nat)(b:T):Z2:=
 qb (qkc m (re b)) λ a=>some (ieq a.length 0)
def qhV:Nat->Z41:=qh (λ _=>none) λ m _=>qgR m
def qib(m:Nat)(a:T):Z16:=
 qb (qfK m (re a)) λ b=>cond (qe (ieq b 0)) (some b) (qb (qhV m (re a)) λ d=>cond (qe d) (some 13) (qb (qiI m (re a)) λ c=>cond (qe c) (some 10) (some 0)))
def qiF:Nat->Z17:=qh (λ _=>none) λ m _=>qib m
def qxM(m:Nat):(Option (List Y8)):=
 some [[112,97,105,114],[101,110,99],[97,101,110,99],[112,107],[115,105,103,110],[104,97,115,104],[120,111,114],[122,101,114,111],[101,120,112],[109,117,108],[105,110,118],[111,110,101],[115,107],[115,104,107],[110,101,119]]
def qtB:Nat->((Option (List Y8))):=qh (none) λ m _=>qxM m
def qe2(m:Nat)(c:qPT)(b:Y8):Z16:=
 qb (qtB m) λ a=>c b a 0
def qeM(m:Nat)(e:qPT)(c:Y8)(b:List (Y8))(a:Int):Z16:=
 cond (ilt a b.length) (qb (qf b a) λ d=>cond (qx d c) (some a) (e c b (iw .i64 (qi a 1)))) (some 0)
def qae(m:Nat):=qM (λ _ _ _=>none) λ a=>qeM m a
def qiD:Nat->(Y8->Z16):=qh (λ _=>none) λ m _=>qe2 m (qae m m)
def qgh(m:Nat)(a:Y8):Z2:=
 cond (qx a [120,111,114]) (some true) (cond (qx a [109,117,108]) (some true) (some (qx a [110,101,119])))
def qf7:Nat->Z11:=qh (λ _=>none) λ m _=>qgh m
def qfm(m:Nat)(b:qH1)(d:qP4)(a:T):Z83:=
 cond (ieq a.kind 2) (cond (qiG (zt [iw .u8 a.sort,iw .u8 a.name.length]) a.name) (some ((zt [iw .u8 a.sort,iw .u8 a.name.length])++a.name)) none) (qb (qiD m a.name) λ c=>
 qb (qf7 m a.name) λ e=>cond e (cond (qiG (zt [iw .u8 (iw .i64 (qi 16 c))]) (zt [iw .u8 a.kids.length]))
 (d ((zt [iw .u8 (iw .i64 (qi 16 c))])++(zt [iw .u8 a.kids.length])) 0 a.kind a.name a.sort a.kids) none) (d (zt [iw .u8 (iw .i64 (qi 16 c))]) 0 a.kind a.name a.sort a.kids))
def qfc(m:Nat)(a:qH1)(j:qP4)(d:Y8)(c h:Int)(g:Y8)(f:Int)(b:TL):Z83:=
 cond (ilt c b.length) (qb (qf b c) λ i=>qb (a (re i)) λ e=>cond (qiG d e) (j (d++e) (iw .i64 (qi c 1)) h g f b) none) (some d)
def Jo(m:Nat)(a:qH1):=qM (λ _ _ _ _ _ _=>none) λ b=>qfc m a b
def ju:Nat->qH1:=qh (λ _=>none) λ m a=>qfm m a (Jo m a m)
def qg6(m:Nat)(b:T):Z78:=
 qb (qiF m (re b)) λ a=>cond (qe (ieq a 0)) (some ([],a)) (qb (ju m (re b)) λ c=>some (c,0))
def qgT:Nat->(T->Z78):=qh (λ _=>none) λ m _=>qg6 m
def qbk(m:Nat)(c:T):Z2:=
 qb (qfR m) λ i=>let j1:Z2:=(qb (qfR m) λ h=>some h);cond (qe i) j1 (qb (qmY m [re c]) λ g=>cond (qe g) j1 (qb (J6 m (re c)) λ b=>
 qb (qdS m (re c)) λ d=>qb (qgT m (re c)) λ a=>let j2:Z2:=(cond (qx b.1 a.1) (cond (ieq b.2 a.2) (cond (ieq d.1 a.1.length) (some (ieq d.2 a.2)) (some false))
 (some false)) (some false));
 cond (qe (qx b.1 a.1)) j2 (cond (qe (ieq b.2 a.2)) j2 (cond (qe (ieq d.1 a.1.length)) j2 (cond (qe (ieq d.2 a.2)) j2 (cond (qe (ieq b.2 0)) j2 (qb (J9 m b.1) λ e=>
 cond (ieq e.2.2 0) (cond (ieq e.2.1 0) (qb (JP m (re e.1) (re c)) λ f=>some f) (some false)) (some false))))))))
def law20_EnvelopeEncode:Nat->Z41:=qh (λ _=>none) λ m _=>qbk m
end
end Go.AmZ
namespace Go.AmZ
open Go Go.GxZ
def Ev{α:Type}(F:Nat->Nat->Option α)(r:α):Prop:=∃B,∀m k,B<=m->B<=k->F m k=some r
section
variable {α β:Type}{F G:Nat->Nat->Option α}{r:α}
theorem Ev.pure(r:α):Ev (λ _ _=>some r) r:=⟨0,λ _ _ _ _=>rfl⟩
theorem Ev.ret{r a:α}(h:r=a):Ev (λ _ _=>some r) a:=by subst h;exact .pure r
theorem Ev.bind{X:Nat->Nat->Option β}{K:Nat->Nat->β->Option α}{a:β}(h:Ev X a)(g:Ev (λ m k=>K m k a) r):Ev (λ m k=>qb (X m k) (K m k)) r:=by
 let⟨B,h⟩:=h;let⟨C,g⟩:=g;refine⟨max B C,λ m k b c=>?_⟩;simp only[h m k (by omega) (by omega),qb];exact g m k (by omega) (by omega)
theorem Ev.congr(h:Ev F r)(e:∀m k,G m k=F m k):Ev G r:=by
 let⟨B,h⟩:=h;exact⟨B,λ m k a b=>(e m k).trans (h m k a b)⟩
theorem Ev.res{a:α}(h:Ev F r)(e:r=a):Ev F a:=by subst e;exact h
theorem Ev.succ{f:Nat->Option α}(h:Ev (λ m _=>f (m+1)) r):Ev (λ m _=>f m) r:=by
 let⟨B,h⟩:=h;refine⟨B+1,λ m k a b=>?_⟩;obtain⟨m,rfl⟩:∃n,m=n+1:=⟨m-1,by omega⟩
 exact h m B (by omega) (wa _)
theorem Ev.loop{L:Nat->Nat->Option α}(h:Ev (λ m k=>L m (k+1)) r):Ev (λ m k=>L m k) r:=by
 let⟨B,h⟩:=h;refine⟨B+1,λ m k a b=>?_⟩;obtain⟨k,rfl⟩:∃n,k=n+1:=⟨k-1,by omega⟩
 exact h m k (by omega) (by omega)
theorem Ev.diag{L:Nat->Nat->Option α}(h:Ev L r):Ev (λ m _=>L m m) r:=by
 let⟨B,h⟩:=h;exact⟨B,λ m k a _=>h m m a a⟩
theorem Ev.ct{b:Bool}(a:b=true)(h:Ev F r):Ev (λ m k=>cond b (F m k) (G m k)) r:=by subst a;exact h
theorem Ev.cf{b:Bool}(a:b=false)(h:Ev G r):Ev (λ m k=>cond b (F m k) (G m k)) r:=by subst a;exact h
theorem Ev.ite{b:Bool}(h:b=true->Ev F r)(g:b=false->Ev G r):Ev (λ m k=>cond b (F m k) (G m k)) r:=by
 cases b with
 |true=>exact h rfl
 |false=>exact g rfl
theorem Ev.some{x:Option β}{K:Nat->Nat->β->Option α}{a:β}(b:x=some a)(g:Ev (λ m k=>K m k a) r):Ev (λ m k=>qb x (K m k)) r:=by subst b;exact g
theorem Ev.case{l:List β}{K:Nat->Nat->β->List β->Option α}(h:l=[]->Ev F r)(g:∀x t,l=x::t->Ev (λ m k=>K m k x t) r):Ev (λ m k=>qj7 l (F m k) (K m k)) r:=by
 cases l with
 |nil=>exact h rfl
 |cons x t=>exact g x t rfl
theorem Ev.get{x:Option α}(h:Ev (λ _ _=>x) r):x=Option.some r:=by
 let⟨B,h⟩:=h;exact h B B (wa _) (wa _)
end
theorem qz{a b:Int}:ilt a b=true↔a<b:=by unfold ilt;exact decide_eq_true_iff
theorem qA{a b:Int}:ilt a b=false↔b<=a:=by unfold ilt;rw[decide_eq_false_iff_not];omega
theorem qhG{a b:Int}:ile a b=true↔a<=b:=by unfold ile;exact decide_eq_true_iff
theorem qiT{a b:Int}:ile a b=false↔b<a:=by unfold ile;rw[decide_eq_false_iff_not];omega
theorem ql{a b:Int}:ieq a b=true↔a=b:=by unfold ieq;exact beq_iff_eq
theorem qj{a b:Int}:ieq a b=false↔a≠b:=by unfold ieq;exact beq_eq_false_iff_ne
theorem bnt{b:Bool}:qe b=true↔b=false:=by cases b<;>simp[qe]
theorem bnf{b:Bool}:qe b=false↔b=true:=by cases b<;>simp[qe]
theorem jd{a b:List UInt8}:qx a b=true↔a=b:=by unfold qx;exact beq_iff_eq
theorem Qg{a b:List UInt8}:qx a b=false↔a≠b:=by unfold qx;exact beq_eq_false_iff_ne
theorem Qa{n:Int}(h:-9223372036854775808<=n/\n<=9223372036854775807):iw .i64 n=n:=IntWalk.i64_in n h
theorem qip(a b:Nat):qi (a:Int) (b:Int)=((a+b:Nat):Int):=by unfold qi;omega
theorem zg{n b:Nat}(h:n*b<=2^47)(a:0<b):zC n b=true:=by
 unfold zC;rw[decide_eq_true_iff];refine⟨h,?_⟩;have:n*1<=n*b:=vX _ a;omega
theorem jo{α:Type}(l:List α)(i:Nat):qf l (i:Int)=l[i]?:=by
 unfold qf;rw[if_pos (by omega),kD]
theorem J2{α:Type}(l:List α):qf l 0=l[0]?:=jo l 0
theorem qv{α:Type}{P:Nat->Prop}(l:List α)(g:l.length<2^62)(e:ilt (l.length:Int) (l.length:Int)=false->P l.length)
  (b:∀(i:Nat) (x:α),l[i]?=some x->l.drop i=x::l.drop (i+1)->ilt (i:Int) (l.length:Int)=true->qf l (i:Int)=some x->iw .i64 (qi (i:Int) 1)=((i+1:Nat):Int)->P (i+1)->P i):∀i,i<=l.length->P i:=by
 intro i h;obtain⟨d,j⟩:∃d,l.length=i+d:=⟨l.length-i,by omega⟩
 induction d generalizing i with
 |zero=>
   have:i=l.length:=by omega
   subst this;exact e (qA.2 (vJ _))
 |succ d f=>
   have c:i<l.length:=by omega
   have a:=List.getElem?_eq_getElem c;refine b i _ a (waf c) (qz.2 (by omega)) (by rw[jo,a]) ?_ (f (i+1) (by omega) (by omega));rw[show qi (i:Int) 1=((i+1:Nat):Int) by unfold qi;omega,Qa (by omega)]
abbrev way:=@Ev.bind
abbrev waz:=@Ev.ite
abbrev waA:=@Ev.pure
abbrev waB:=@Ev.some
abbrev waC:=@Ev.ct
abbrev waD:=@Ev.ret
abbrev waE:=@Ev.cf
abbrev waF:=@Ev.loop
abbrev waG:=@Ev.succ
abbrev waH:=@Ev.diag
end Go.AmZ
namespace Go.AmZ
open Go Go.GxZ
set_option linter.unusedVariables false
theorem qqw(m):yt (m+1)=qdI m:=rfl
theorem qdQ(m):yz (m+1)=QE m:=rfl
theorem qnc(m):zk (m+1)=qbt m:=rfl
theorem qng(m):Q5 (m+1)=Jt m (yj m m):=rfl
theorem qbm(m k):(yj m (k+1))=Qj m (yj m k):=rfl
theorem qbT(m):qw (m+1)=Qk m:=rfl
theorem qno(m):jC (m+1)=qou (qw m) m:=rfl
theorem qEC(m):qjh (m+1)=qlv m:=rfl
theorem qAA(m):qdB (m+1)=qe9 m (QI m m):=rfl
theorem qn3(m k):(QI m (k+1))=qfl m (QI m k):=rfl
theorem qBI(m):yh (m+1)=qfU m (yh m) (jK m (yh m) m):=rfl
theorem qpZ(m k):(jK m (yh m) (k+1))=qf3 m (yh m) (jK m (yh m) k):=rfl
theorem qCH(m):zi (m+1)=qjz m:=rfl
theorem qwL(m):qbu (m+1)=qc3 m (Q7 m m):=rfl
theorem qlx(m k):(Q7 m (k+1))=qcY m (Q7 m k):=rfl
theorem qxZ(m):qF (m+1)=qdW m (qF m) (qZ m (qF m) m).1 (qZ m (qF m) m).2:=rfl
theorem qm2(m k):(qZ m (qF m) (k+1)).1=qd1 m (qF m) (qZ m (qF m) k).1 (qZ m (qF m) k).2:=rfl
theorem qmz(m k):(qZ m (qF m) (k+1)).2=qdP m (qF m) (qZ m (qF m) k).1 (qZ m (qF m) k).2:=rfl
theorem qys(m):qaZ (m+1)=qhe m:=rfl
theorem qE1(m):qeC (m+1)=qkP m:=rfl
theorem qEQ(m):Qs (m+1)=qgQ m (Qs m) (qbV m (Qs m) m):=rfl
theorem qqC(m k):(qbV m (Qs m) (k+1))=qhJ m (Qs m) (qbV m (Qs m) k):=rfl
theorem qyd(m):qy (m+1)=qdY m (qy m) (Qf m (qy m) m):=rfl
theorem qhw(m k):(Qf m (qy m) (k+1))=qbN m (qy m) (Qf m (qy m) k):=rfl
theorem qAT(m):JM (m+1)=qiA m:=rfl
theorem qEH(m):jw (m+1)=qlI m:=rfl
theorem quT(m):qcH (m+1)=qfG m:=rfl
theorem qfQ(m):zW (m+1)=jb m (qn m m).1 (qn m m).2:=rfl
theorem qaq(m k):(qn m (k+1)).1=jf m (qn m k).1 (qn m k).2:=rfl
theorem qam(m k):(qn m (k+1)).2=jc m (qn m k).1 (qn m k).2:=rfl
theorem qEI(m):qmU (m+1)=qhz m (qb2 m m):=rfl
theorem qrY(m k):(qb2 m (k+1))=qhu m (qb2 m k):=rfl
theorem qGY(m):qlG (m+1)=qiR m (qdo m m):=rfl
theorem qtp(m k):(qdo m (k+1))=qiE m (qdo m k):=rfl
theorem qxT(m):yK (m+1)=qd9 m (yK m) (QT m (yK m) m):=rfl
theorem qmM(m k):(QT m (yK m) (k+1))=qdU m (yK m) (QT m (yK m) k):=rfl
theorem qDX(m):jF (m+1)=qgf m (jF m) (qaM m (jF m) m):=rfl
theorem qpY(m k):(qaM m (jF m) (k+1))=qf0 m (jF m) (qaM m (jF m) k):=rfl
theorem qxU(m):qhE (m+1)=qd8 m (qaI m m):=rfl
theorem qvj(m k):(qaI m (k+1))=qg3 m (qaI m k):=rfl
theorem qJl(m):J8 (m+1)=qka m (J8 m) (qet m (J8 m) m):=rfl
theorem qvr(m k):(qet m (J8 m) (k+1))=qkk m (J8 m) (qet m (J8 m) k):=rfl
theorem qJy(m):qsD (m+1)=qku m (qeL m m):=rfl
theorem qwB(m k):(qeL m (k+1))=qj6 m (qeL m k):=rfl
theorem qte(m):qbB (m+1)=qeI m:=rfl
theorem qu4(m):zy (m+1)=qch m (zy m) (QM m (zy m) m):=rfl
theorem qjU(m k):(QM m (zy m) (k+1))=qcp m (zy m) (QM m (zy m) k):=rfl
theorem qqp(m):qak (m+1)=qdd m:=rfl
theorem Q3(m):qN (m+1)=qH m (qr m m):=rfl
theorem yv(m k):(qr m (k+1))=qG m (qr m k):=rfl
theorem qsY(m):qbD (m+1)=qex m:=rfl
theorem qrI(m):zx (m+1)=qba m (zx m) (jx m (zx m) m):=rfl
theorem qh7(m k):(jx m (zx m) (k+1))=qbg m (zx m) (jx m (zx m) k):=rfl
theorem qAU(m):qb6 (m+1)=qis m:=rfl
theorem qtP(m):qaH (m+1)=qce m (j7 m m):=rfl
theorem qjG(m k):(j7 m (k+1))=qck m (j7 m k):=rfl
theorem qwC(m):Jp (m+1)=qc6 m (qB m m).1 (qB m m).2.1 (qB m m).2.2:=rfl
theorem qlB(m k):(qB m (k+1)).1=qdf m (qB m k).1 (qB m k).2.1 (qB m k).2.2:=rfl
theorem qli(m k):(qB m (k+1)).2.1=qdj m (qB m k).1 (qB m k).2.1 (qB m k).2.2:=rfl
theorem qlp(m k):(qB m (k+1)).2.2=qdh m (qB m k).1 (qB m k).2.1 (qB m k).2.2:=rfl
theorem qsX(m):qdX (m+1)=qbH m (Qo m m):=rfl
theorem qjf(m k):(Qo m (k+1))=qbI m (Qo m k):=rfl
theorem qqh(m):qcg (m+1)=qc0 m:=rfl
theorem qbE(m):zY (m+1)=zM m (qC m m):=rfl
theorem yA(m k):(qC m (k+1))=zb m (qC m k):=rfl
theorem qaU(m):zK (m+1)=yl m:=rfl
theorem qtd(m):qd4 (m+1)=qev m:=rfl
theorem qya(m):qhO (m+1)=qd0 m (Jz m m):=rfl
theorem qm6(m k):(Jz m (k+1))=qd7 m (Jz m k):=rfl
theorem qyC(m):qhW (m+1)=qhT m:=rfl
theorem qwx(m):yD (m+1)=qc2 m (yD m) (Q4 m (yD m) m):=rfl
theorem qkO(m k):(Q4 m (yD m) (k+1))=qdl m (yD m) (Q4 m (yD m) k):=rfl
theorem qwD(m):qgg (m+1)=qgl m:=rfl
theorem quv(m):qfj (m+1)=qfE m:=rfl
theorem qoJ(m):zh (m+1)=qaa m (zh m) (yH m (zh m) m):=rfl
theorem qgz(m k):(yH m (zh m) (k+1))=J7 m (zh m) (yH m (zh m) k):=rfl
theorem qyW(m):qey (m+1)=qgX m:=rfl
theorem qs2(m):J9 (m+1)=qem m:=rfl
theorem qnr(m):qau (m+1)=qbs m:=rfl
theorem qqs(m):zA (m+1)=qaC m (zA m) (jO m (zA m) m):=rfl
theorem qhq(m k):(jO m (zA m) (k+1))=qax m (zA m) (jO m (zA m) k):=rfl
theorem qcT(m):zd (m+1)=qo8 (qy m):=rfl
theorem qt2(m):jl (m+1)=qfD m:=rfl
theorem qby(m):qK (m+1)=qwj (jl m):=rfl
theorem qyi(m):qhf (m+1)=qdM m (JI m m):=rfl
theorem qmj(m k):(JI m (k+1))=qd2 m (JI m k):=rfl
theorem qA3(m):qnk (m+1)=qim m:=rfl
theorem qEz(m):qmT (m+1)=qk2 m:=rfl
theorem qlR(m):qcy (m+1)=qaL m:=rfl
theorem Jx(m):zc (m+1)=qQ m (qt m m):=rfl
theorem yY(m k):(qt m (k+1))=qR m (qt m k):=rfl
theorem quL(m):z8 (m+1)=qcf m (z8 m) (jW m (z8 m) m):=rfl
theorem qjK(m k):(jW m (z8 m) (k+1))=qcd m (z8 m) (jW m (z8 m) k):=rfl
theorem qtg(m):J6 (m+1)=qeg m:=rfl
theorem qED(m):yF (m+1)=qkY m:=rfl
theorem qC8(m):jD (m+1)=qf4 m (jD m) (qaT m (jD m) m):=rfl
theorem qqc(m k):(qaT m (jD m) (k+1))=qge m (jD m) (qaT m (jD m) k):=rfl
theorem qxF(m):qa3 (m+1)=qgP m:=rfl
theorem qvZ(m):zR (m+1)=qdi m (zR m) (Ja m (zR m) m):=rfl
theorem qkS(m k):(Ja m (zR m) (k+1))=qc5 m (zR m) (Ja m (zR m) k):=rfl
theorem qDH(m):JP (m+1)=qjy m:=rfl
theorem qyV(m):jk (m+1)=qd5 m (jk m) (JE m (jk m) m):=rfl
theorem qmr(m k):(JE m (jk m) (k+1))=qeb m (jk m) (JE m (jk m) k):=rfl
theorem qEM(m):ql9 (m+1)=qhy m (qbY m m):=rfl
theorem qrf(m k):(qbY m (k+1))=qhd m (qbY m k):=rfl
theorem qFc(m):qmY (m+1)=qk7 m:=rfl
theorem qs6(m):qdS (m+1)=qeK m:=rfl
theorem qBb(m):jM (m+1)=qe4 m (jM m) (qad m (jM m) m):=rfl
theorem qn9(m k):(qad m (jM m) (k+1))=qfk m (jM m) (qad m (jM m) k):=rfl
theorem qyJ(m):qeE (m+1)=qhD m:=rfl
theorem qA7(m):qiL (m+1)=qie m:=rfl
theorem qxR(m):qcN (m+1)=qdV m (JC m m):=rfl
theorem qmV(m k):(JC m (k+1))=qdO m (JC m k):=rfl
theorem qC6(m):qkl (m+1)=qjm m:=rfl
theorem qAR(m):jN (m+1)=qeU m (jN m) (qab m (jN m) m):=rfl
theorem qoe(m k):(qab m (jN m) (k+1))=qeV m (jN m) (qab m (jN m) k):=rfl
theorem qAS(m):js (m+1)=qin m:=rfl
theorem qBG(m):qe8 (m+1)=qfV m (qaX m m):=rfl
theorem qqd(m k):(qaX m (k+1))=qfY m (qaX m k):=rfl
theorem qCf(m):qkq (m+1)=qgd m (qa0 m m):=rfl
theorem qp2(m k):(qa0 m (k+1))=qga m (qa0 m k):=rfl
theorem qxQ(m):qg9 (m+1)=qdN m (JB m m):=rfl
theorem qms(m k):(JB m (k+1))=qd6 m (JB m k):=rfl
theorem qAX(m):jv (m+1)=qe6 m (jv m) (Jl m (jv m) m):=rfl
theorem qnI(m k):(Jl m (jv m) (k+1))=qeS m (jv m) (Jl m (jv m) k):=rfl
theorem qAu(m):qfK (m+1)=qit m:=rfl
theorem qEK(m):Qv (m+1)=qhC m (Qv m) (qb0 m (Qv m) m):=rfl
theorem qqy(m k):(qb0 m (Qv m) (k+1))=qhg m (Qv m) (qb0 m (Qv m) k):=rfl
theorem qHm(m):qbW (m+1)=qnb m:=rfl
theorem qvy(m):qgb (m+1)=qgp m:=rfl
theorem qAC(m):qiS (m+1)=qfn m (qaf m m):=rfl
theorem qnL(m k):(qaf m (k+1))=qeX m (qaf m k):=rfl
theorem qCA(m):qkg (m+1)=qjo m:=rfl
theorem qEO(m):qi4 (m+1)=qhh m (qb5 m m):=rfl
theorem qrJ(m k):(qb5 m (k+1))=qgY m (qb5 m k):=rfl
theorem qEJ(m):qmX (m+1)=qhb m (qb1 m m):=rfl
theorem qrg(m k):(qb1 m (k+1))=qhF m (qb1 m k):=rfl
theorem qxw(m):qhl (m+1)=qdZ m (JL m m):=rfl
theorem qmS(m k):(JL m (k+1))=qd3 m (JL m k):=rfl
theorem qDL(m):qhS (m+1)=qgc m (J3 m m):=rfl
theorem qp8(m k):(J3 m (k+1))=qfX m (J3 m k):=rfl
theorem qux(m):zZ (m+1)=qca m (zZ m) (jX m (zZ m) m):=rfl
theorem qjS(m k):(jX m (zZ m) (k+1))=qcc m (zZ m) (jX m (zZ m) k):=rfl
theorem qCh(m):qkh (m+1)=qjq m:=rfl
theorem qEG(m):qmL (m+1)=qgU m (qbX m m):=rfl
theorem qr7(m k):(qbX m (k+1))=qhX m (qbX m k):=rfl
theorem qv6(m):qbw (m+1)=qgk m:=rfl
theorem qAY(m):jr (m+1)=qe3 m (jr m) (Jn m (jr m) m):=rfl
theorem qnV(m k):(Jn m (jr m) (k+1))=qeO m (jr m) (Jn m (jr m) k):=rfl
theorem qE6(m):qjg (m+1)=qg2 m (JN m m):=rfl
theorem qsg(m k):(JN m (k+1))=qhA m (JN m k):=rfl
theorem qvG(m):yp (m+1)=qdp m (yp m) (Qx m (yp m) m):=rfl
theorem qk8(m k):(Qx m (yp m) (k+1))=qc4 m (yp m) (Qx m (yp m) k):=rfl
theorem qGP(m):qii (m+1)=qnh m:=rfl
theorem qBa(m):qdC (m+1)=qeT m (Jm m m):=rfl
theorem qoc(m k):(Jm m (k+1))=qfo m (Jm m k):=rfl
theorem quU(m):qeW (m+1)=qcn m (qm m m).1 (qm m m).2.1 (qm m m).2.2.1 (qm m m).2.2.2:=rfl
theorem qjL(m k):(qm m (k+1)).1=qcl m (qm m k).1 (qm m k).2.1 (qm m k).2.2.1 (qm m k).2.2.2:=rfl
theorem qjM(m k):(qm m (k+1)).2.1=qb8 m (qm m k).1 (qm m k).2.1 (qm m k).2.2.1 (qm m k).2.2.2:=rfl
theorem qjD(m k):(qm m (k+1)).2.2.1=qcb m (qm m k).1 (qm m k).2.1 (qm m k).2.2.1 (qm m k).2.2.2:=rfl
theorem qjE(m k):(qm m (k+1)).2.2.2=qci m (qm m k).1 (qm m k).2.1 (qm m k).2.2.1 (qm m k).2.2.2:=rfl
theorem qCn(m):qda (m+1)=qjw m:=rfl
theorem qw9(m):qdv (m+1)=qgn m:=rfl
theorem qvX(m):qf5 (m+1)=qde m (Jg m m):=rfl
theorem qk3(m k):(Jg m (k+1))=qc7 m (Jg m k):=rfl
theorem qEP(m):qmC (m+1)=qgS m (qaF m m):=rfl
theorem qq7(m k):(qaF m (k+1))=qhc m (qaF m k):=rfl
theorem qAM(m):qiK (m+1)=qiw m:=rfl
theorem qy5(m):ji (m+1)=qea m (ji m) (JG m (ji m) m):=rfl
theorem qmn(m k):(JG m (ji m) (k+1))=qdR m (ji m) (JG m (ji m) k):=rfl
theorem qzd(m):qho (m+1)=qhR m:=rfl
theorem qBd(m):qiI (m+1)=qfe m (qac m m):=rfl
theorem qnW(m k):(qac m (k+1))=qeN m (qac m k):=rfl
theorem qE5(m):qlY (m+1)=qhm m (qbZ m m):=rfl
theorem qro(m k):(qbZ m (k+1))=qhv m (qbZ m k):=rfl
theorem qDD(m):qkf (m+1)=qf9 m (qaS m m):=rfl
theorem qp1(m k):(qaS m (k+1))=qf2 m (qaS m k):=rfl
theorem qDs(m):qkc (m+1)=qjt m:=rfl
theorem qy2(m):qhV (m+1)=qgR m:=rfl
theorem qAE(m):qiF (m+1)=qib m:=rfl
theorem qA1(m):qiD (m+1)=qe2 m (qae m m):=rfl
theorem qnZ(m k):(qae m (k+1))=qeM m (qae m k):=rfl
theorem qwm(m):qf7 (m+1)=qgh m:=rfl
theorem qAx(m):ju (m+1)=qfm m (ju m) (Jo m (ju m) m):=rfl
theorem qnE(m k):(Jo m (ju m) (k+1))=qfc m (ju m) (Jo m (ju m) k):=rfl
theorem qy1(m):qgT (m+1)=qg6 m:=rfl
theorem qny(m):law20_EnvelopeEncode (m+1)=qbk m:=rfl
end Go.AmZ
namespace Go.GxZ
def size:T->Nat:=T.para λ _ a=>1+a.sum
theorem q9(t:T):size t=1+(t.kids.map size).sum:=T.para_eq _ _
theorem size_pos(t:T):1<=size t:=by rw[q9];omega
theorem qGR(l:List T):l.length<=(l.map size).sum:=by
 induction l with
 |nil=>simp
 |cons x l a=>have:=size_pos x;simp only[wy,wo,kH];omega
theorem qj8(l:List T)(x:T)(h:x∈l):size x<=(l.map size).sum:=by
 induction l with
 |nil=>cases h
 |cons y l a=>
   simp only[wo,kH];obtain rfl|h:=wx.1 h
   .omega
   .have:=a h;omega
theorem jJ(t:T)(x:T)(h:x∈t.kids):size x<size t:=by
 have:=qj8 t.kids x h;rw[q9 t];omega
theorem yC(t:T):t.kids.length<size t:=by
 have:=qGR t.kids;rw[q9 t];omega
def sgn(a b:Int):Int:=if a<b then -1 else if b<a then 1 else 0
def thn(x y:Int):Int:=if x=0 then y else x
structure Cmp {α:Type} (f:α->α->Int):Prop where
 rng:∀a b,f a b=-1\/f a b=0\/f a b=1
 anti:∀a b,f b a=- f a b
 trans:∀a b c,f a b=-1->f b c=-1->f a c=-1
 same:∀a b c,f a b=0->f b c=f a c
theorem Cmp.thn{α:Type}{f g:α->α->Int}(d:Cmp f)(l:Cmp g):Cmp λ a b=>thn (f a b) (g a b):=by
 constructor
 .intro a b;have:=d.rng a b;have:=l.rng a b;unfold GxZ.thn;split<;>omega
 .intro a b;have:=d.anti a b;have:=l.anti a b;unfold GxZ.thn;split<;>split<;>omega
 .intro a b c k j;have p:=d.anti a b;have a2:=d.anti b c;have a3:=d.anti a c;have n:=d.trans a b c;have t2:=l.trans a b c;have m:=d.same a b c;have s2:=d.same c b a;have o:=d.rng a b;have r2:=d.rng b c;have r3:=d.rng a c;unfold GxZ.thn at k j |-
  by_cases i:f a b=0
  .by_cases e:f b c=0
   .rw[if_pos i]at k;rw[if_pos e]at j;rw[if_pos (by rw[<-m i];exact e)];exact t2 k j
   .rw[if_neg e]at j;rw[if_neg (by rw[<-m i];exact e),<-m i];exact j
  .rw[if_neg i]at k;by_cases e:f b c=0
   .have:=s2 (by omega);rw[if_neg (by omega)];omega
   .rw[if_neg e]at j;have:=n k j;rw[if_neg (by omega)];exact this
 .intro a b c h
  have i:f a b=0:=by
   unfold GxZ.thn at h;split at h
   .assumption
   .exact absurd h (by assumption)
  have e:g a b=0:=by
   unfold GxZ.thn at h
   rwa [if_pos i]at h
  show GxZ.thn _ _=GxZ.thn _ _;rw[d.same a b c i,l.same a b c e]
theorem Cmp.on{α d:Type}{f:d->d->Int}(c:Cmp f)(p:α->d):Cmp λ a b=>f (p a) (p b):=
 ⟨λ _ _=>c.rng _ _,λ _ _=>c.anti _ _,λ _ _ _=>c.trans _ _ _,λ _ _ _=>c.same _ _ _⟩
theorem qsk:Cmp sgn:=by
 constructor
 .intro a b;unfold sgn;split<;>(try split)<;>omega
 .intro a b;unfold sgn;split<;>split<;>(try split)<;>omega
 .intro a b c;unfold sgn;split<;>split<;>(try split)<;>(try split)<;>omega
 .intro a b c;unfold sgn;split<;>split<;>(try split)<;>(try split)<;>omega
theorem qkX{a b:Int}(h:sgn a b=0):a=b:=by unfold sgn at h;split at h<;>(try split at h)<;>omega
theorem qMp(a:Int):sgn a a=0:=by unfold sgn;split<;>(try split)<;>omega
open Lib (compareBytes)
theorem qzp(a:List UInt8):compareBytes a a=0:=by
 induction a with
 |nil=>rfl
 |cons x a b=>simp[compareBytes,b]
theorem qpL:∀a b:List UInt8,compareBytes a b=-1\/compareBytes a b=0\/compareBytes a b=1
 |[],[]|[],_::_|_::_,[]=>by simp[compareBytes]
 |x::a,y::b=>by
   unfold compareBytes;split
   .simp
   .split
    .simp
    .exact qpL a b
theorem qzT:∀a b:List UInt8,compareBytes b a=- compareBytes a b
 |[],[]|[],_::_|_::_,[]=>by simp[compareBytes]
 |x::a,y::b=>by
   have:=qzT a b;unfold compareBytes;simp only[vf];split<;>split<;>(try split)<;>omega
theorem qmA:∀a b:List UInt8,compareBytes a b=0->a=b
 |[],[],_=>rfl
 |[],_::_,h|_::_,[],h=>by simp[compareBytes]at h
 |x::a,y::b,h=>by
   unfold compareBytes at h;simp only[vf]at h;split at h
   .omega
   .split at h
    .omega
    .rw[qmA a b h,UInt8.toNat_inj.1 (show x.toNat=y.toNat by omega)]
theorem qvE:∀ a b c:List UInt8,compareBytes a b=-1->compareBytes b c=-1->compareBytes a c=-1
 | [],_,[],h1,h2=>by
   rename_i b;cases b<;>simp[compareBytes]at h1 h2
 | [],_,_::_,_,_=>by simp[compareBytes]
 | _::_,[],_,h1,_=>by simp[compareBytes]at h1
 | _::_,_::_,[],_,h2=>by simp[compareBytes]at h2
 | x::a,y::b,z::c,h1,h2=>by
   have ih:=qvE a b c;unfold compareBytes at h1 h2 |-
   simp only[vf]at h1 h2 |-
   split at h1
   ·split at h2
    ·rw[if_pos (by omega)]
    ·split at h2
     ·omega
     ·rw[if_pos (by omega)]
   ·split at h1
    ·omega
    ·split at h2
     ·rw[if_pos (by omega)]
     ·split at h2
      ·omega
      ·rw[if_neg (by omega),if_neg (by omega)];exact ih h1 h2
theorem qMJ:Cmp compareBytes:=
 ⟨qpL,qzT,qvE,λ a b c h=>by rw[qmA a b h]⟩
def Jb:List (T->Int)->List T->Int
 |r::a,b::c=>thn (r b) (Jb a c)
 |_,_=>0
def qjx(a b:T):Int:=
 thn (sgn (size a) (size b)) (thn (sgn a.kind b.kind) (thn (compareBytes a.name b.name) (thn (sgn a.sort b.sort) (sgn a.kids.length b.kids.length))))
def qs:T->T->Int:=T.para λ a c b=>thn (qjx a b) (Jb c b.kids)
theorem qgA(a b:T):qs a b=thn (qjx a b) (Jb (a.kids.map qs) b.kids):=congrFun (T.para_eq _ _) b
theorem qeD:Cmp qjx:=
 (qsk.on λ t:T=>(size t:Int)).thn ((qsk.on T.kind).thn ((qMJ.on T.name).thn ((qsk.on T.sort).thn (qsk.on λ t:T=>(t.kids.length:Int)))))
theorem qgt{x y:Int}(h:thn x y=0):x=0/\y=0:=by unfold thn at h;split at h<;>omega
theorem qr5{a b:T}(h:qjx a b=0):a.kind=b.kind/\a.name=b.name/\a.sort=b.sort/\a.kids.length=b.kids.length:=by
 unfold qjx at h;let⟨_,h⟩:=qgt h;let⟨f,h⟩:=qgt h;let⟨e,h⟩:=qgt h;let⟨d,c⟩:=qgt h;have:=qkX c;exact⟨qkX f,qmA _ _ e,qkX d,by omega⟩
theorem qIU(a:T):qjx a a=0:=by
 unfold qjx thn;simp[qMp,qzp]
theorem T.ext{a b:T}(f:a.kind=b.kind)(e:a.name=b.name)(d:a.sort=b.sort)(c:a.kids=b.kids):a=b:=by
 let⟨k,n,s,l⟩:=a;let⟨j,h,g,i⟩:=b;simp only[T.kind,T.name,T.sort,T.kids]at f e d c;rw[f,e,d,c]
theorem qrc(a:T):qs a a=0:=by
 refine T.ind (P:=λ a=>qs a a=0) ?_ a;intro a c;rw[qgA,qIU,thn,if_pos rfl];generalize a.kids=l at*
 induction l with
 |nil=>rfl
 |cons x l b=>
   rw[wo,Jb,c x (wh ..),thn,if_pos rfl];exact b λ k d=>c k (wg _ d)
theorem qaE(a:T):∀b,qs a b=0->a=b:=by
 refine T.ind (P:=λ a=>∀b,qs a b=0->a=b) ?_ a;intro a e b h;rw[qgA]at h;let⟨g,f⟩:=qgt h;let⟨n,j,i,c⟩:=qr5 g;refine T.ext n j i ?_;generalize a.kids=l at *;generalize b.kids=m at *;clear h g
 induction l generalizing m with
 |nil=>exact(kE.1 c.symm).symm
 |cons x l d=>
   cases m with
   |nil=>simp at c
   |cons y m=>
     rw[wo,Jb]at f;let⟨q,p⟩:=qgt f;rw[e x (wh ..) y q,d (λ k o=>e k (wg _ o)) m p (by simpa using c)]
def qwY(a:T):Prop:=(∀b,qs a b=-1\/qs a b=0\/qs a b=1)/\(∀b,qs b a=- qs a b)/\(∀b c,qs a b=-1->qs b c=-1->qs a c=-1)
theorem qCI:∀l m:List T,(∀k∈l,qwY k)->Jb (l.map qs) m=-1\/Jb (l.map qs) m=0\/Jb (l.map qs) m=1
 |[],_,_|_::_,[],_=>by simp[Jb]
 |x::l,y::m,h=>by
   rw[wo,Jb];have c:=(h x (wh ..)).1 y;have b:=qCI l m λ k a=>h k (wg _ a);unfold thn;split<;>omega
theorem qzV:∀l m:List T,(∀k∈l,qwY k)->Jb (m.map qs) l=- Jb (l.map qs) m
 |[],[],_|[],_::_,_|_::_,[],_=>by simp[Jb]
 |x::l,y::m,h=>by
   rw[wo,Jb,wo,Jb];have c:=(h x (wh ..)).2.1 y;have b:=qzV l m λ k a=>h k (wg _ a);unfold thn;split<;>split<;>omega
theorem qvV:∀l m n:List T,(∀k∈l,qwY k)->l.length=m.length->m.length=n.length->Jb (l.map qs) m=-1->Jb (m.map qs) n=-1->Jb (l.map qs) n=-1
 |[],_,_,_,_,_,h,_=>by simp[Jb]at h
 |_::_,[],_,_,h,_,_,_|_::_,_::_,[],_,_,h,_,_=>by simp at h
 |x::l,y::m,z::n,h,e1,j,b,a=>by
   rw[wo,Jb]at b a |-
   have g:=h x (wh ..);have f:=qvV l m n (λ k i=>h k (wg _ i)) (by simpa using e1) (by simpa using j);have e:=g.2.2 y z;by_cases d:qs x y=0
   .have:=qaE x y d;subst this;rw[thn,if_pos d]at b;by_cases c:qs x z=0
    .rw[thn,if_pos c]at a |-
     exact f b a
    .rw[thn,if_neg c]at a |-
     exact a
   .rw[thn,if_neg d]at b;by_cases c:qs y z=0
    .have:=qaE y z c;subst this;rw[thn,if_neg d];exact b
    .rw[thn,if_neg c]at a;have:=e b a;rw[thn,if_neg (by omega)];exact this
theorem qHh(a:T):qwY a:=by
 refine T.ind (P:=qwY) ?_ a;intro a i;refine⟨λ b=>?_,λ b=>?_,λ b c g d=>?_⟩
 .rw[qgA];have g:=qeD.rng a b;have d:=qCI a.kids b.kids i;unfold thn;split<;>omega
 .rw[qgA,qgA];have g:=qeD.anti a b;have d:=qzV a.kids b.kids i;unfold thn;split<;>split<;>omega
 .rw[qgA]at g d |-
  by_cases h:qjx a b=0
  .rw[thn,if_pos h]at g;have e:=qeD.same a b c h;by_cases f:qjx b c=0
   .rw[thn,if_pos f]at d;rw[thn,if_pos (by rw[<-e];exact f)];exact qvV _ _ _ i (qr5 h).2.2.2 (qr5 f).2.2.2 g d
   .rw[thn,if_neg f]at d;rw[thn,if_neg (by rw[<-e];exact f),<-e];exact d
  .rw[thn,if_neg h]at g;by_cases f:qjx b c=0
   .have e1:=qeD.anti b c;have l:=qeD.same c b a (by omega);have k:=qeD.anti a b;have j:=qeD.anti a c;rw[thn,if_neg (by omega)];omega
   .rw[thn,if_neg f]at d;have:=qeD.trans a b c g d;rw[thn,if_neg (by omega)];exact this
theorem yg:Cmp qs:=
 ⟨λ a=>(qHh a).1,λ a b=>(qHh a).2.1 b,λ a=>(qHh a).2.2,λ a b c h=>by rw[qaE a b h]⟩
theorem qLf(a b:T):qs a b=0↔a=b:=⟨qaE a b,λ h=>by rw[h];exact qrc b⟩
theorem qqe:∀a b:List UInt8,Op.bytesLess a b=decide (compareBytes a b=-1)
 |[],[]|[],_::_|_::_,[]=>by simp[Op.bytesLess,compareBytes]
 |x::a,y::b=>by
   rw[Op.bytesLess,compareBytes,qqe a b];by_cases d:x<y
   .simp[d]
   .by_cases c:y<x
    .have:¬ x=y:=λ e=>by rw[e]at c;exact d (by rw[e];exact c)
     simp[d,c,this]
    .have:x=y:=UInt8.toNat_inj.1 (by rw[vf]at d c;omega);simp[this]
end Go.GxZ
namespace Go.GxZ
def qkL:List (Int->Int)->Int->Int
 |[],m=>m
 |f::a,m=>if f m<0 then -1 else qkL a (f m)
def qbn:T->Int->Int:=T.para λ t a m=>if m<=0\/40<t.name.length then -1 else qkL a (m-1)
theorem qFt(t:T)(m:Int):qbn t m=if m<=0\/40<t.name.length then -1 else qkL (t.kids.map qbn) (m-1):=congrFun (T.para_eq _ _) m
theorem qsf(t:T):∀m,qbn t m<0/\qbn t m=-1\/0<=qbn t m/\qbn t m=m-size t:=by
 refine T.ind (P:=λ t=>∀m,qbn t m<0/\qbn t m=-1\/0<=qbn t m/\qbn t m=m-size t) ?_ t;intro t e m
 have g:∀l:List T,(∀k∈l,k∈t.kids)->∀m,0<=m->(qkL (l.map qbn) m<0/\qkL (l.map qbn) m=-1\/0<=qkL (l.map qbn) m/\qkL (l.map qbn) m=m-((l.map size).sum:Nat)):=by
  intro l
  induction l with
  |nil=>intro _ m b;right;simp[qkL];exact b
  |cons x l a=>
    intro c m b;simp only[wo,qkL,kH];have j:=e x (c x (wh ..)) m;by_cases d:qbn x m<0
    .rw[if_pos d];left;exact⟨by omega,rfl⟩
    .rw[if_neg d];have i:=a (λ k f=>c k (wg _ f)) (qbn x m) (by omega);omega
 rw[qFt,q9];split
 .left;exact⟨by omega,rfl⟩
 .have:=g t.kids (λ _ h=>h) (m-1) (by omega);omega
def qcz:T->Nat:=T.para λ _ a=>a.foldl max 0+1
theorem qkw(t:T):qcz t=(t.kids.map qcz).foldl max 0+1:=T.para_eq _ _
theorem qDu(l:List Nat):∀(a b:Nat),a<=b->(∀x∈l,x<=b)->l.foldl max a<=b:=by
 induction l with
 |nil=>intro a b h _;exact h
 |cons x l d=>intro a b h c;exact d _ _ (Nat.max_le.2 ⟨h,c x (wh ..)⟩) λ y e=>c y (wg _ e)
theorem qFj(t:T):qcz t<=size t:=by
 refine T.ind (P:=λ t=>qcz t<=size t) ?_ t;intro t b;rw[qkw,q9]
 have:(t.kids.map qcz).foldl max 0<=(t.kids.map size).sum:=by
  refine qDu _ _ _ (we _) λ x c=>?_;obtain⟨k,a,rfl⟩:=wA.1 c;exact wE (b k a) (qj8 _ _ a)
 omega
def qfF(c:Int):Bool:=decide (97<=c/\c<=122)||decide (65<=c/\c<=90)
def qqB(c:Int):Bool:=decide (48<=c/\c<=57)
def Qw(c:Int):Bool:=qfF c||qqB c||decide (c=95)||decide (c=35)
def yN(l:List UInt8):Bool:=decide (0<l.length)&&decide (l.length<=24)&&qfF ((l.getD 0 0).toNat:Int)&&l.all λ c=>Qw (c.toNat:Int)
def qf1(k so:Int)(n:Nat)(a:Bool):Int:=
 if k=1\/k=2 then(if so<0\/5<so\/0<n then 1 else if a then 0 else 2)
 else if k=3 then(if so≠0 then 1 else if a then(if 8<n then 3 else 0)else 2)
 else 1
def yU(t:T):Int:=qf1 t.kind t.sort t.kids.length (yN t.name)
def jq:T->Int:=T.para λ t a=>a.foldl thn (yU t)
theorem qi2(t:T):jq t=(t.kids.map jq).foldl thn (yU t):=T.para_eq _ _
theorem QR{x:Int}(h:x≠0)(y:Int):thn x y=x:=if_neg h
theorem qT(l:List Int):∀{x:Int},x≠0->l.foldl thn x=x:=by
 induction l with
 |nil=>intro x _;rfl
 |cons y l a=>intro x h;rw[ke,QR h];exact a h
theorem QV(l:List Int)(x:Int):(x::l).foldl thn 0=l.foldl thn x:=rfl
theorem qiO{t:T}(h:jq t=0):yU t=0/\(∀k∈t.kids,jq k=0):=by
 rw[qi2]at h;by_cases b:yU t=0
 .refine⟨b,?_⟩;rw[b]at h;generalize t.kids=l at *;clear b
  induction l with
  |nil=>intro k a;cases a
  |cons x l d=>
    rw[wo,QV]at h;by_cases c:jq x=0
    .rw[c]at h;intro k a;obtain rfl|a:=wx.1 a
     .exact c
     .exact d h k a
    .rw[qT _ c]at h;exact absurd h c
 .rw[qT _ b]at h;exact absurd h b
def qP(t:T):Int:=if jq t≠0 then jq t else if 400<size t\/40<qcz t then 3 else 0
instance:DecidableEq T:=λ _ _=>Classical.propDecidable _
def jt(a b:T):Bool:=decide (a=b)
def qoS:List T->Int->Bool
 |[],_=>true
 |x::l,m=>if qbn x m<0 then false else qoS l (qbn x m)
theorem qzG:∀(l:List T) (m:Int),0<=m->qoS l m=true->((l.map size).sum:Nat)<=m
 |[],m,b,_=>by simpa using b
 |x::l,m,b,h=>by
   rw[qoS]at h;by_cases a:qbn x m<0
   .rw[if_pos a]at h;exact absurd h (by decide)
   .rw[if_neg a]at h;have d:=qsf x m;have c:=qzG l (qbn x m) (by omega) h;simp only[wo,kH];omega
def jQ:List (List UInt8×Int×Int×Int):=[
 ([112,97,105,114],2,2,1),
 ([101,110,99],2,2,1),
 ([97,101,110,99],2,2,1),
 ([112,107],1,1,1),
 ([115,105,103,110],2,2,1),
 ([104,97,115,104],1,1,1),
 ([120,111,114],2,8,1),
 ([122,101,114,111],0,0,1),
 ([101,120,112],2,2,1),
 ([109,117,108],2,8,1),
 ([105,110,118],1,1,1),
 ([111,110,101],0,0,1),
 ([115,107],1,1,2),
 ([115,104,107],2,2,2),
 ([110,101,119],1,8,2),
 ([102,115,116],1,1,3),
 ([115,110,100],1,1,3),
 ([100,101,99],2,2,3),
 ([97,100,101,99],2,2,3),
 ([111,112,101,110],2,2,3),
 ([114,101,97,100],1,1,3)]
def qyf(l:List (List UInt8×Int×Int×Int))(n:List UInt8):Int×Int×Int:=((l.find? λ r=>r.1==n).map (·.2)).getD (0,0,0)
theorem qKh(r:List UInt8×Int×Int×Int)(l:List (List UInt8×Int×Int×Int))(n:List UInt8):qyf (r::l) n=if(r.1==n)=true then r.2 else qyf l n:=by
 unfold qyf;rw[List.find?_cons];cases h:r.1==n<;>simp
def qMv(l:List (List UInt8×Int×Int×Int))(n:List UInt8):Bool:=l.any λ r=>r.1==n
def qnf(l:List (List UInt8×Int×Int×Int))(n:List UInt8)(k:Int):Bool:=qMv l n&&decide ((qyf l n).1<=k)&&decide (k<=(qyf l n).2.1)
theorem qJH(r:List UInt8×Int×Int×Int)(l:List (List UInt8×Int×Int×Int))(n:List UInt8)(k:Int):
  qnf (r::l) n k=if(r.1==n)=true then decide (r.2.1<=k)&&decide (k<=r.2.2.1)else qnf l n k:=by
 unfold qnf;rw[qKh];unfold qMv;rw[wac];cases h:r.1==n<;>simp
def qoO:List UInt8:=[112,97,105,114]
def qpg:List UInt8:=[101,110,99]
def qiJ:List UInt8:=[97,101,110,99]
def nPk:List UInt8:=[112,107]
def qfb:List UInt8:=[115,105,103,110]
def qcS:List UInt8:=[120,111,114]
def qcm:List UInt8:=[122,101,114,111]
def qfw:List UInt8:=[101,120,112]
def qei:List UInt8:=[109,117,108]
def Jr:List UInt8:=[105,110,118]
def qjv:List UInt8:=[111,110,101]
def nSk:List UInt8:=[115,107]
def qt5:List UInt8:=[115,104,107]
def qhK:List UInt8:=[110,101,119]
def qL4:List UInt8:=[102,115,116]
def qyn:List UInt8:=[115,110,100]
def qNa:List UInt8:=[100,101,99]
def qHF:List UInt8:=[97,100,101,99]
def qGZ:List UInt8:=[111,112,101,110]
def qHq:List UInt8:=[114,101,97,100]
def zT:T:=.mk 0 [] 0 []
def kid(t:T)(i:Nat):T:=t.kids.getD i zT
def apT(n:List UInt8)(l:List T):T:=.mk 3 n 0 l
def isN(t:T)(n:List UInt8):Bool:=t.kind==3&&t.name==n
def qD(n:List UInt8):Int×Int×Int:=((jQ.find? λ r=>r.1==n).map (·.2)).getD (0,0,0)
def qaz(t:T):Bool:=
 if t.name=qhK then decide ((kid t 0).kind≠2)
 else if t.name=nSk\/t.name=qt5 then t.kids.any λ k=>decide (k.kind=3)||decide (k.sort≠1)else false
def qcw(t:T):Int:=
 if t.kind≠3 then 0 else if(qD t.name).2.2=0 then 10 else if(t.kids.length:Int)<(qD t.name).1\/(qD t.name).2.1<(t.kids.length:Int)then 6 else if qaz t then 10 else 0
def zo:T->Int:=T.para λ t a=>if t.kind≠3 then 0 else a.foldl thn (qcw t)
theorem qn2(t:T):zo t=if t.kind≠3 then 0 else(t.kids.map zo).foldl thn (qcw t):=T.para_eq _ _
def qcF(t:T):Int:=thn (qP t) (zo t)
def yo(t:T):Bool:=
 if t.name=qL4\/t.name=qyn then isN (kid t 0) qoO
 else if t.name=qNa then isN (kid t 0) qpg&&jt (kid (kid t 0) 1) (kid t 1)
 else if t.name=qHF then isN (kid t 0) qiJ&&isN (kid (kid t 0) 1) nPk&&jt (kid (kid (kid t 0) 1) 0) (kid t 1)
 else if t.name=qGZ then isN (kid t 0) qfb&&isN (kid t 1) nPk&&jt (kid (kid t 0) 1) (kid (kid t 1) 0)
 else if t.name=qHq then isN (kid t 0) qfb else false
def qjk(t:T):T:=if yo t then kid (kid t 0) (if t.name=qyn then 1 else 0)else t
def qcX(t:T):Bool:=t.kind==3&&(t.name==qei||t.name==Jr||t.name==qjv)
abbrev Pw:=T×Int
def yL:List Pw->T->Int->List Pw
 |[],t,n=>[(t,n)]
 |(x,m)::l,t,n=>if qs t x=-1 then(t,n)::(x,m)::l else if qs t x=0 then(if m+n=0 then l else(x,m+n)::l)else(x,m)::yL l t n
def arK(t:T):Bool := !(t.name==qjv&&t.kids.length != 0||t.name==Jr&&t.kids.length != 1||t.name==qei&&decide (t.kids.length<2))
def arT:T->Bool:=T.para λ t a => !qcX t||(arK t&&a.all id)
theorem qxs(t:T):arT t=(!qcX t||(arK t&&(t.kids.map arT).all id)):=T.para_eq _ _
def qaW(t:T)(n:Int):Int:=if t.name=Jr then -n else n
def jA:T->List Pw->Int->List Pw:=T.para λ t a l n=>if qcX t then a.foldl (λ l f=>f l (qaW t n)) l else yL l t n
theorem qgL(t:T)(l:List Pw)(n:Int):jA t l n=if qcX t then(t.kids.map jA).foldl (λ l f=>f l (qaW t n)) l else yL l t n:=by
 have h:jA t=λ l n=>if qcX t then(t.kids.map jA).foldl (λ l f=>f l (qaW t n)) l else yL l t n:=T.para_eq _ _;rw[h]
def ofP(t:T):List Pw×Int:=
 if qP t≠0 then([],qP t)else if arT t=false then([],6)else if 200<(jA t [] 1).length then([],3)else(jA t [] 1,0)
def pvK(q:Option T)(p:Pw):Int:=
 if qP p.1≠0 then qP p.1 else if qcX p.1 then 1 else if p.2=0\/p.2 < -1000\/1000<p.2 then 7 else match q with|some x=>if 0<=qs x p.1 then 5 else 0|none=>0
def pvL:Option T->List Pw->Int
 |_,[]=>0
 |q,p::l=>thn (pvK q p) (pvL (some p.1) l)
def Ju(l:List Pw):Int:=if 200<l.length then 3 else pvL none l
def yn(l:List Pw):List T:=l.flatMap λ p=>List.replicate p.2.toNat p.1
def yr(l:List Pw):List T:=l.flatMap λ p=>List.replicate (-p.2).toNat (apT Jr [p.1])
def J4(o:List T):T:=if o.length=0 then apT qjv []else if o.length=1 then o.getD 0 zT else apT qei o
def qbd(l:List Pw):T×Int:=
 if Ju l≠0 then(zT,Ju l)else if 8<(yn l++yr l).length then(zT,3)
 else if qP (J4 (yn l++yr l))≠0 then(zT,qP (J4 (yn l++yr l)))else(J4 (yn l++yr l),0)
def qnx(l:List Pw):Bool:=l.any λ p=>decide (p.2 < -1000)||decide (1000<p.2)
def Jf(a b:List Pw):List Pw:=b.foldl (λ l p=>yL l p.1 p.2) a
def qln(a b:List Pw):List Pw×Int:=
 if Ju a≠0 then([],Ju a)else if Ju b≠0 then([],Ju b)else if qnx (Jf a b)then([],7)else if 200<(Jf a b).length then([],3)else(Jf a b,0)
def zu:List T->List T->List T
 |[],b=>b
 |x::a,[]=>x::a
 |x::a,y::b=>if qs x y=-1 then x::zu a (y::b)else if qs x y=1 then y::zu (x::a) b else zu a b
termination_by a b=>a.length+b.length
def Qh:T->List T:=T.para λ t a=>if isN t qcm&&t.kids.isEmpty then[]else if isN t qcS then a.foldl zu []else[t]
theorem qlj(t:T):Qh t=if isN t qcm&&t.kids.isEmpty then[]else if isN t qcS then(t.kids.map Qh).foldl zu []else[t]:=T.para_eq _ _
def qoi(l:List T):Int:=if 200<l.length then 3 else(l.map qP).foldl thn 0
def yb(l:List T):List T:=(l.map Qh).foldl zu []
def qah(o:List T):T:=if o.length=0 then apT qcm []else if o.length=1 then o.getD 0 zT else apT qcS o
def qpM(l:List T):T×Int:=
 if qoi l≠0 then(zT,qoi l)else if qP (qah (yb l))≠0 then(zT,3)else(qah (yb l),0)
def qix(b:T)(l:List Pw):T×Int:=
 if l.length=0 then(b,0)else if(qbd l).2≠0 then(zT,(qbd l).2)else(apT qfw [b,(qbd l).1],0)
def qo3(b e:T):T×Int:=
 if(ofP e).2≠0 then(zT,(ofP e).2)
 else if isN b qfw then
  (if(ofP (kid b 1)).2≠0 then(zT,(ofP (kid b 1)).2)
   else if(qln (ofP (kid b 1)).1 (ofP e).1).2≠0 then(zT,(qln (ofP (kid b 1)).1 (ofP e).1).2)
   else qix (kid b 0) (qln (ofP (kid b 1)).1 (ofP e).1).1)
 else qix b (ofP e).1
def isD(n:List UInt8):Bool:=n==qL4||n==qyn||n==qNa||n==qHF||n==qGZ||n==qHq
def qmH(t:T):T×Int:=if(ofP t).2≠0 then(zT,(ofP t).2)else qbd (ofP t).1
def JZ(t:T):T×Int:=
 if isD t.name then(qjk t,0)else if t.name=qcS then qpM t.kids
 else if t.name=qei\/t.name=Jr\/t.name=qjv then qmH t
 else if t.name=qfw then qo3 (kid t 0) (kid t 1)else(t,0)
def zU:T->T×Int:=T.para λ t a=>
 if t.kind≠3 then(t,0)else if(a.map (·.2)).foldl thn 0≠0 then(zT,(a.map (·.2)).foldl thn 0)else JZ (apT t.name (a.map (·.1)))
theorem qof(t:T):zU t=if t.kind≠3 then(t,0)else if((t.kids.map zU).map (·.2)).foldl thn 0≠0 then(zT,((t.kids.map zU).map (·.2)).foldl thn 0)else JZ (apT t.name ((t.kids.map zU).map (·.1))):=T.para_eq _ _
def qkx(t:T):T×Int:=
 if qcF t≠0 then(zT,qcF t)else if(zU t).2≠0 then(zT,(zU t).2)else if qP (zU t).1≠0 then(zT,qP (zU t).1)else zU t
def agB(l:List T):Bool:=l.all λ k => !(k.kind==3) && !(k.sort != 1)
def qkv(t:T):Bool:=if t.name=qhK then(kid t 0).kind==2 else agB t.kids
theorem qMa(k:T)(l:List T):agB (k::l)=((!(k.kind==3) && !(k.sort != 1))&&agB l):=rfl
end Go.GxZ
namespace Go.AmZ
open Go Go.GxZ Go.Lib
theorem ql7(a b:Int):Ev (λ m _=>qa3 m a b) (sgn a b):=by
 refine waG ?_;simp only[qxF,qgP];unfold sgn;refine waz (λ h=>?_) λ h=>?_
 .exact waD (by rw[if_pos (qz.1 h)])
 .rw[qA]at h;refine waz (λ c=>?_) λ c=>?_
  .rw[qz]at c;exact waD (by rw[if_neg (by omega),if_pos c])
  .rw[qA]at c;exact waD (by rw[if_neg (by omega),if_neg (by omega)])
theorem qt1{l:List T}{i:Nat}{x:T}(h:l.drop i=x::l.drop (i+1)):((l.drop i).map size).sum=size x+((l.drop (i+1)).map size).sum:=by
 rw[h,wo,kH]
theorem qut(t:T):size t<=1000000000->Ev (λ m _=>jD m t) (size t:Int):=by
 induction t using T.ind with
 |h t d=>
   intro p;refine waG ?_;simp only[qC8,qf4];have q:=yC t;have j:=q9 t
   have b:=qv (P:=λ i=>∀a:Nat,a+((t.kids.drop i).map size).sum<=1000000000->Ev (λ m k=>qaT m (jD m) k a i t.kind t.name t.sort t.kids) ((a+((t.kids.drop i).map size).sum:Nat):Int)) t.kids (by omega)
    (λ c a _=>by
     refine waF ?_;simp only[qqc,qge];refine waE c ?_;exact waD (by simp))
    (λ i x e l c g f o a n=>by
     rw[qt1 l]at n |-
     refine waF ?_;simp only[qqc,qge];refine waC c (waB g ?_);rw[qk];refine way (d x (wb e) (by omega)) ?_;rw[f,qip,Qa (by omega)];refine(o (a+size x) (by omega)).res (by congr 1;omega))
   refine waH (L:=λ m k=>qaT m (jD m) k 1 0 t.kind t.name t.sort t.kids) ?_;refine(b 0 (we _) 1 (by simp;omega)).res (by rw[wP,j])
theorem qBS(a b:Nat):qnw (a:Int) (b:Int)=((max a b:Nat):Int):=by unfold qnw;split<;>omega
theorem qsu(a b:Int):Ev (λ m _=>qeC m a b) (sgn a b):=by
 refine waG ?_;simp only[qE1,qkP];unfold sgn;refine waz (λ h=>?_) λ h=>?_
 .exact waD (by rw[if_pos (qz.1 h)])
 .rw[qA]at h;refine waz (λ c=>?_) λ c=>?_
  .rw[qz]at c;exact waD (by rw[if_neg (by omega),if_pos c])
  .rw[qA]at c;exact waD (by rw[if_neg (by omega),if_neg (by omega)])
theorem qCY(t:T):size t<=1000000000->Ev (λ m _=>Qs m t) (size t:Int):=by
 induction t using T.ind with
 |h t d=>
   intro p;refine waG ?_;simp only[qEQ,qgQ];have q:=yC t;have j:=q9 t
   have b:=qv (P:=λ i=>∀a:Nat,a+((t.kids.drop i).map size).sum<=1000000000->Ev (λ m k=>qbV m (Qs m) k a t.kids t.kids.length i) ((a+((t.kids.drop i).map size).sum:Nat):Int)) t.kids (by omega)
    (λ c a _=>by
     refine waF ?_;simp only[qqC,qhJ];refine waE c ?_;exact waD (by simp))
    (λ i x e l c g f o a n=>by
     rw[qt1 l]at n |-
     refine waF ?_;simp only[qqC,qhJ];refine waC c (waB g ?_);rw[qk];refine way (d x (wb e) (by omega)) ?_;rw[f,qip,Qa (by omega)];refine(o (a+size x) (by omega)).res (by congr 1;omega))
   refine waH (L:=λ m k=>qbV m (Qs m) k 1 t.kids t.kids.length 0) ?_;refine(b 0 (we _) 1 (by simp;omega)).res (by rw[wP,j])
theorem qJJ(t:T):size t<=1000000000->Ev (λ m _=>jM m t) (qcz t:Int):=by
 induction t using T.ind with
 |h t e=>
   intro o;refine waG ?_;simp only[qBb,qe4];have p:=yC t;have q:=q9 t
   have b:=qv (P:=λ i=>∀a:Nat,a<=1000000000->Ev (λ m k=>qad m (jM m) k a i t.kind t.name t.sort t.kids) ((((t.kids.drop i).map qcz).foldl max a+1:Nat):Int)) t.kids (by omega)
    (λ c a _=>by
     refine waF ?_;simp only[qn9,qfk];refine waE c ?_;rw[show qi (a:Int) 1=((a+1:Nat):Int) by unfold qi;omega,Qa (by omega)];exact waD (by simp))
    (λ i x f l c j g n a r=>by
     refine waF ?_;simp only[qn9,qfk];refine waC c (waB j ?_);rw[qk];have d:=wb f;have u:=jJ t x d;have s:=qFj x;refine way (e x d (by omega)) ?_;rw[g,qBS];refine(n (max a (qcz x)) (by omega)).res ?_;rw[l,wo,ke])
   refine waH (L:=λ m k=>qad m (jM m) k 0 0 t.kind t.name t.sort t.kids) ?_;refine(b 0 (we _) 0 (by omega)).res (by rw[wP,qkw])
theorem qCq(a:List (T->Int)):Jb a []=0:=by cases a<;>rfl
theorem qzo{l m:List T}{i:Nat}{x y:T}(b:l.drop i=x::l.drop (i+1))(a:m.drop i=y::m.drop (i+1)):Jb ((l.drop i).map qs) (m.drop i)=thn (qs x y) (Jb ((l.drop (i+1)).map qs) (m.drop (i+1))):=by
 rw[b,a,wo];rfl
theorem qCZ{l:List T}{i:Nat}{y:T}(h:l[i]?=some y):l.drop i=y::l.drop (i+1):=by
 obtain⟨a,rfl⟩:=List.getElem?_eq_some_iff.1 h;exact waf a
theorem quZ(a b:List UInt8):slt a b=decide (compareBytes a b=-1):=qqe a b
theorem qBP(a b:List UInt8):qqU (slt a b) (qx a b)=decide (compareBytes a b≠1):=by
 rw[quZ];unfold qqU qx;obtain h|h|h:=qpL a b
 .rw[h];rfl
 .have:=qmA a b h;subst this;rw[h];simp
 .have:(a==b)=false:=by
    rw[beq_eq_false_iff_ne];intro c;subst c;rw[qzp]at h;omega
  rw[h,this];rfl
theorem qiH(a:T):size a<=1000000000->∀ b,size b<=1000000000->Ev (λ m _=>zR m a b) (qs a b):=by
 induction a using T.ind with
 | h a ih =>
   intro ha b hb;refine waG ?_;simp only[qvZ,qdi,qk];have hla:=yC a;have hlb:=yC b;rw[qgA];unfold qjx;refine way (qut a ha) (way (qut b hb) (way (ql7 _ _) ?_));refine waz (λ h=>?_) λ h=>?_
   ·rw[bnt,qj]at h;exact waD (by rw[QR (by rw[QR h];exact h),QR h])
   rw[bnf,ql]at h;rw[h,show ∀ y,thn 0 y=y from λ y=>rfl];refine way (ql7 _ _) ?_;refine waz (λ h=>?_) λ h=>?_
   ·rw[bnt,qj]at h;exact waD (by rw[QR (by rw[QR h];exact h),QR h])
   rw[bnf,ql]at h;rw[h,show ∀ y,thn 0 y=y from λ y=>rfl];refine waz (λ h=>?_) λ h=>?_
   ·rw[quZ,decide_eq_true_iff]at h;exact waD (by rw[h];rfl)
   rw[quZ,decide_eq_false_iff_not]at h;refine waz (λ h'=>?_) λ h'=>?_
   ·rw[bnt,qBP,decide_eq_false_iff_not,Decidable.not_not]at h';exact waD (by rw[h'];rfl)
   rw[bnf,qBP,decide_eq_true_iff]at h';have h0:compareBytes a.name b.name=0:=by have:=qpL a.name b.name;omega
   rw[h0,show ∀ y,thn 0 y=y from λ y=>rfl];refine way (ql7 _ _) ?_;refine waz (λ h=>?_) λ h=>?_
   ·rw[bnt,qj]at h;exact waD (by rw[QR (by rw[QR h];exact h),QR h])
   rw[bnf,ql]at h;rw[h,show ∀ y,thn 0 y=y from λ y=>rfl];refine way (ql7 _ _) ?_;refine waz (λ h=>?_) λ h=>?_
   ·rw[bnt,qj]at h;exact waD (by rw[QR h])
   rw[bnf,ql]at h;rw[h,show ∀ y,thn 0 y=y from λ y=>rfl];have hlen:a.kids.length=b.kids.length:=by have:=qkX h;omega
   have key:=qv (P := λ i=>Ev (λ m k=>Ja m (zR m) k i a.kind a.name a.sort a.kids b.kind b.name b.sort b.kids) (Jb ((a.kids.drop i).map qs) (b.kids.drop i))) a.kids (by omega)
    (λ hc=>by
     refine waF ?_;simp only[qkS,qc5];refine waE hc ?_;exact waD (by rw[hlen,wV,qCq]))
    (λ i x hx hd hc hg hi hP=>by
     refine waF ?_;simp only[qkS,qc5,qk];have hib:i<b.kids.length:=by have:=(List.getElem?_eq_some_iff.1 hx).1;omega
     have hy:=List.getElem?_eq_getElem hib;have hmx:=wb hx;have h1:=jJ a x hmx;have h2:=jJ b _ (wb hy);refine waC hc (waB hg (waB (by rw[jo];exact hy) ?_));rw[qzo hd (qCZ hy)];refine way (ih x hmx (by omega) _ (by omega)) ?_;refine waz (λ h=>?_) λ h=>?_
     ·rw[bnt,qj]at h;exact waD (by rw[QR h])
     ·rw[bnf,ql]at h;rw[h,hi];exact hP)
   refine waH (L := λ m k=>Ja m (zR m) k 0 a.kind a.name a.sort a.kids b.kind b.name b.sort b.kids) ?_;exact(key 0 (we _)).res (by rw[wP,wP])
theorem qJN(a b:List UInt8):Ev (λ m _=>strings_Compare 0 a b) (compareBytes a b):=waA _
theorem qdG(a:T):size a<=1000000000->∀ b,size b<=1000000000->Ev (λ m _=>qy m a b) (qs a b):=by
 induction a using T.ind with
 | h a ih =>
   intro ha b hb;refine waG ?_;simp only[qyd,qdY,qk];have hla:=yC a;have hlb:=yC b;rw[qgA];unfold qjx
   have stop:∀ c:Int,c≠0->∀ i:Int,Ev (λ m k=>Qf m (qy m) k c i a.kind a.name a.sort a.kids b.kind b.name b.sort b.kids) c:=by
    intro c hc i;refine waF ?_;simp only[qhw,qbN];exact waE (qj.2 hc) (waA c)
   have key:a.kids.length=b.kids.length->∀ i,i<=a.kids.length->Ev (λ m k=>Qf m (qy m) k 0 i a.kind a.name a.sort a.kids b.kind b.name b.sort b.kids) (Jb ((a.kids.drop i).map qs) (b.kids.drop i)) := λ hlen=>qv a.kids (by omega)
    (λ hc=>by
     refine waF ?_;simp only[qhw,qbN];refine waC rfl (waE hc ?_);exact waD (by rw[hlen,wV,qCq]))
    (λ i x hx hd hc hg hi hP=>by
     refine waF ?_;simp only[qhw,qbN,qk];have hib:i<b.kids.length:=by have:=(List.getElem?_eq_some_iff.1 hx).1;omega
     have hy:=List.getElem?_eq_getElem hib;have hmx:=wb hx;have h1:=jJ a x hmx;have h2:=jJ b _ (wb hy);refine waC rfl (waC hc (waB hg (waB (by rw[jo];exact hy) ?_)));rw[qzo hd (qCZ hy)];refine way (ih x hmx (by omega) _ (by omega)) ?_;rw[hi];by_cases h:qs x b.kids[i]=0
     ·rw[h];exact hP
     ·rw[QR h];exact stop _ h _)
   have fin:∀ c:Int,(c=0->a.kids.length=b.kids.length)->Ev (λ m k=>Qf m (qy m) m c 0 a.kind a.name a.sort a.kids b.kind b.name b.sort b.kids) (thn c (Jb (a.kids.map qs) b.kids)):=by
    intro c hc;refine waH (L := λ m k=>Qf m (qy m) k c 0 a.kind a.name a.sort a.kids b.kind b.name b.sort b.kids) ?_;by_cases h:c=0
    ·subst h;exact(key (hc rfl) 0 (we _)).res (by rw[wP,wP];rfl)
    ·rw[QR h];exact stop c h 0
   refine way (qCY a ha) (way (qCY b hb) (way (qsu _ _) ?_));have z0:∀ y,thn 0 y=y := λ y=>rfl;by_cases h1:sgn (size a:Int) (size b)=0
   ·rw[h1,z0];refine waC rfl (way (qsu _ _) ?_);by_cases h2:sgn a.kind b.kind=0
    ·rw[h2,z0];refine waC rfl (way (qJN _ _) ?_);by_cases h3:compareBytes a.name b.name=0
     ·rw[h3,z0];refine waC rfl (way (qsu _ _) ?_);by_cases h4:sgn a.sort b.sort=0
      ·rw[h4,z0];refine waC rfl (way (qsu _ _) ?_);exact fin _ λ h=>by have:=qkX h;omega
      ·rw[QR h4];refine waE (qj.2 h4) ?_;exact fin _ λ h=>absurd h h4
     ·rw[QR h3];refine waE (qj.2 h3) (waE (qj.2 h3) ?_);exact fin _ λ h=>absurd h h3
    ·rw[QR h2];refine waE (qj.2 h2) (waE (qj.2 h2) (waE (qj.2 h2) ?_));exact fin _ λ h=>absurd h h2
   ·rw[QR h1];refine waE (qj.2 h1) (waE (qj.2 h1) (waE (qj.2 h1) (waE (qj.2 h1) ?_)));exact fin _ λ h=>absurd h h1
theorem qFF(a b:T):ieq (qs a b) 0=jt a b:=by
 unfold jt;rw[xm,ql,decide_eq_true_iff];exact qLf a b
theorem qgm(a b:T)(d:size a<=1000000000)(c:size b<=1000000000):Ev (λ m _=>JP m a b) (jt a b):=by
 refine waG ?_;simp only[qDH,qjy,qk];refine way (qiH a d b c) ?_;exact waD (qFF a b)
theorem qpb(a b:T)(d:size a<=1000000000)(c:size b<=1000000000):Ev (λ m _=>JM m a b) (jt a b):=by
 refine waG ?_;simp only[qAT,qiA,qk];refine way (qdG a d b c) ?_;exact waD (qFF a b)
end Go.AmZ
namespace Go.AmZ
open Go Go.GxZ Go.Lib
theorem qxy(a b:Int):ieq a b=decide (a=b):=by rw[xm,ql,decide_eq_true_iff]
theorem qzj(c:Int):Ev (λ m _=>qeE m c) (qfF c):=by
 refine waG ?_;simp only[qyJ,qhD];refine(waA (qfF c)).congr λ m k=>?_;unfold qfF ile;by_cases e:97<=c<;>by_cases d:c<=122<;>by_cases b:65<=c<;>by_cases a:c<=90<;>simp[e,d,b,a]
theorem qKR(c:Int):Ev (λ m _=>qiL m c) (qqB c):=by
 refine waG ?_;simp only[qA7,qie];refine(waA (qqB c)).congr λ m k=>?_;unfold qqB ile;by_cases b:48<=c<;>by_cases a:c<=57<;>simp[b,a]
theorem qGf(c:Int):Ev (λ m _=>qjh m c) (Qw c):=by
 refine waG ?_;simp only[qEC,qlv];refine(waA (Qw c)).congr λ m k=>?_;simp only[qxy];unfold Qw qfF qqB ile;by_cases i:97<=c<;>by_cases h:c<=122<;>by_cases g:65<=c<;>by_cases f:c<=90<;>by_cases e:48<=c<;>by_cases d:c<=57<;>by_cases b:c=95<;>by_cases a:c=35<;>simp[i,h,g,f,e,d,b,a]
theorem qIL(l:List UInt8):Ev (λ m _=>qcN m l) (yN l):=by
 refine waG ?_;simp only[qxR,qdV];cases l with
 |nil=>exact waC rfl (waA _)
 |cons c r=>
   refine waE (qj.2 (by simp;omega)) ?_;refine waz (λ h=>?_) λ h=>?_
   .rw[qz]at h;refine waD ?_;unfold yN;rw[decide_eq_false (show ¬ (c::r).length<=24 by omega)];simp
   rw[qA]at h;refine waB (J2 _) (way (qzj _) ?_)
   have o:yN (c::r)=(qfF (c.toNat:Int)&&(c::r).all λ c=>Qw (c.toNat:Int)):=by
    unfold yN;rw[decide_eq_true (show(c::r).length<=24 by omega)];simp
   rw[o];cases b:qfF (c.toNat:Int)with
   |false=>exact waC rfl (waA _)
   |true=>
     refine waE rfl ?_
     have g:=qv (P:=λ i=>Ev (λ m k=>JC m k (c::r) i) (((c::r).drop i).all λ c=>Qw (c.toNat:Int))) (c::r) (by omega)
      (λ b=>by
       refine waF ?_;simp only[qmV,qdO];refine waE b (waD ?_);rw[wV];rfl)
      (λ i x s q b a p d=>by
       refine waF ?_;simp only[qmV,qdO];refine waC b (waB a (way (qzj _) ?_));rw[q,km,p];cases n:qfF (x.toNat:Int)with
       |true=>exact waE rfl (d.res (by simp[Qw,n]))
       |false=>
         refine waC rfl (waB a (way (qKR _) ?_));cases j:qqB (x.toNat:Int)with
         |true=>exact waE rfl (d.res (by simp[Qw,j]))
         |false=>
           refine waC rfl (waB a ?_);by_cases f:(x.toNat:Int)=95
           .exact waE (bnf.2 (ql.2 f)) (d.res (by simp[Qw,f]))
           .refine waC (bnt.2 (qj.2 f)) (waB a ?_);by_cases e:(x.toNat:Int)=35
            .exact waE (bnf.2 (ql.2 e)) (d.res (by simp[Qw,e]))
            .exact waC (bnt.2 (qj.2 e)) (waD (by unfold Qw;rw[n,j,decide_eq_false f,decide_eq_false e];rfl)))
     refine waH (L:=λ m k=>JC m k (c::r) 0) ?_;exact(g 0 (we _)).res (by rw[wP];rfl)
theorem qLv(c:Int):(Qw c&&(!(decide (48<=c)&&decide (c<=57))&&(!(decide (c=95)) && !(decide (c=35)))))=qfF c:=by
 unfold Qw qqB;cases h:qfF c with
 |true=>
   unfold qfF at h;rw[wU,decide_eq_true_iff,decide_eq_true_iff]at h;rw[decide_eq_false (show ¬ (c=95) by omega),decide_eq_false (show ¬ (c=35) by omega)]
   have:(decide (48<=c)&&decide (c<=57))=false:=by
    rw[ve,decide_eq_false_iff_not,decide_eq_false_iff_not];omega
   rw[this];rfl
 |false=>
   by_cases e:48<=c<;>by_cases d:c<=57<;>by_cases b:c=95<;>by_cases a:c=35<;>simp[e,d,b,a]
theorem qG6(l:List UInt8):Ev (λ m _=>qdB m l) (yN l):=by
 refine waG ?_;simp only[qAA,qe9];cases l with
 |nil=>exact waC rfl (waA _)
 |cons c r=>
   refine waE rfl ?_;refine waz (λ h=>?_) λ h=>?_
   .rw[qz]at h;refine waD ?_;unfold yN;rw[decide_eq_false (show ¬ (c::r).length<=24 by omega)];simp
   rw[qA]at h;refine waB (J2 _) (way (qGf _) ?_)
   have p:yN (c::r)=(qfF (c.toNat:Int)&&(c::r).all λ c=>Qw (c.toNat:Int)):=by
    unfold yN;rw[decide_eq_true (show(c::r).length<=24 by omega)];simp
   rw[p,<-qLv]
   have g:=qv (P:=λ i=>Ev (λ m k=>QI m k (c::r) (c::r).length i) (((c::r).drop i).all λ c=>Qw (c.toNat:Int))) (c::r) (by omega)
    (λ j=>by
     refine waF ?_;simp only[qn3,qfl];refine waE j (waD ?_);rw[wV];rfl)
    (λ i x y t j s q u=>by
     refine waF ?_;simp only[qn3,qfl];refine waC j (waB s (way (qGf _) ?_));rw[t,km,q];cases w:Qw (x.toNat:Int)with
     |true=>exact waE rfl (u.res (by simp))
     |false=>exact waC rfl (waA _))
   have o:Ev (λ m _=>QI m m (c::r) (c::r).length 0) ((c::r).all λ c=>Qw (c.toNat:Int)):=by
    refine waH (L:=λ m k=>QI m k (c::r) (c::r).length 0) ?_;exact(g 0 (we _)).res (by rw[wP])
   have a:qf (c::r) 0=some c:=J2 _
   have b:Ev (λ m _=>cond (ieq (c.toNat:Int) 95) (some false) (qb (qf (c::r) 0) λ v=>cond (ieq (v.toNat:Int) 35) (some false) (QI m m (c::r) (c::r).length 0))) ((!(decide ((c.toNat:Int)=95)) && !(decide ((c.toNat:Int)=35)))&&(c::r).all λ c=>Qw (c.toNat:Int)):=by
    by_cases f:(c.toNat:Int)=95
    .exact waC (ql.2 f) (waD (by rw[decide_eq_true f];rfl))
    .refine waE (qj.2 f) (waB a ?_);rw[decide_eq_false f];by_cases e:(c.toNat:Int)=35
     .exact waC (ql.2 e) (waD (by rw[decide_eq_true e];rfl))
     .refine waE (qj.2 e) (o.res ?_);rw[decide_eq_false e];rfl
   cases w:Qw (c.toNat:Int)with
   |false=>exact waC rfl (waA _)
   |true=>
     refine waE rfl (waB a ?_);by_cases d:48<=(c.toNat:Int)
     .refine waC (qhG.2 d) (waB a ?_);by_cases n:(c.toNat:Int)<=57
      .exact waC (qhG.2 n) (waD (by rw[decide_eq_true d,decide_eq_true n];rfl))
      .refine waE (qiT.2 (by omega)) (waB a ?_);exact b.res (by rw[decide_eq_true d,decide_eq_false n];rfl)
     .refine waE (qiT.2 (by omega)) (waB a ?_);exact b.res (by rw[decide_eq_false d];rfl)
theorem qN6(t:T):Ev (λ m _=>qkl m t) (yU t):=by
 refine waG ?_;simp only[qC6,qjm];unfold yU qf1
 have nm:∀{R:Int},(∀b,yN t.name=b->(if b then(if 8<t.kids.length then 3 else 0)else 2)=R)->Ev (λ m _=>qb (qcN m t.name) λ v=>cond (qe v) (some 2) (cond (ilt 8 (t.kids.length:Int)) (some 3) (some 0))) R:=by
  intro R h;refine way (qIL _) ?_;refine Ev.res ?_ (h _ rfl);cases j:yN t.name with
  |false=>exact waC rfl (waA _)
  |true=>
    refine waE rfl ?_;refine waz (λ h=>?_) λ h=>?_
    .rw[qz]at h;exact waD (by rw[if_pos rfl,if_pos (by omega)])
    .rw[qA]at h;exact waD (by rw[if_pos rfl,if_neg (by omega)])
 have d:t.kids.length=0->∀{R:Int},(∀b,yN t.name=b->(if b then 0 else 2)=R)->Ev (λ m _=>qb (qcN m t.name) λ v=>cond (qe v) (some 2) (cond (ilt 8 (t.kids.length:Int)) (some 3) (some 0))) R:=by
  intro k R h;refine nm λ b e=>?_;rw[if_neg (show ¬ 8<t.kids.length by omega)];exact h b e
 by_cases i:t.kind=1
 .rw[if_pos (.inl i)];refine waC (ql.2 i) ?_;refine waz (λ h=>?_) λ h=>?_
  .rw[qz]at h;exact waD (by rw[if_pos (.inl h)])
  rw[qA]at h;refine waz (λ c=>?_) λ c=>?_
  .rw[qz]at c;exact waD (by rw[if_pos (.inr (.inl c))])
  rw[qA]at c;refine waz (λ a=>?_) λ a=>?_
  .rw[qz]at a;exact waD (by rw[if_pos (.inr (.inr (by omega)))])
  rw[qA]at a;rw[if_neg (by omega)];exact d (by omega) λ b e=>by rw[e]
 refine waE (qj.2 i) ?_;by_cases f:t.kind=2
 .rw[if_pos (.inr f)];refine waE (bnf.2 (ql.2 f)) ?_;refine waz (λ h=>?_) λ h=>?_
  .rw[qz]at h;exact waD (by rw[if_pos (.inl h)])
  rw[qA]at h;refine waz (λ c=>?_) λ c=>?_
  .rw[qz]at c;exact waD (by rw[if_pos (.inr (.inl c))])
  rw[qA]at c;refine waE (bnf.2 (ql.2 f)) (waC (ql.2 f) ?_);refine waz (λ a=>?_) λ a=>?_
  .rw[qz]at a;exact waD (by rw[if_pos (.inr (.inr (by omega)))])
  rw[qA]at a;rw[if_neg (by omega)];exact d (by omega) λ b e=>by rw[e]
 refine waC (bnt.2 (qj.2 f)) ?_;rw[if_neg (by omega)];by_cases g:t.kind=3
 .rw[if_pos g];refine waE (bnf.2 (ql.2 g)) ?_;refine waz (λ h=>?_) λ h=>?_
  .rw[qz]at h;exact waD (by rw[if_pos (by omega)])
  rw[qA]at h;refine waz (λ c=>?_) λ c=>?_
  .rw[qz]at c;exact waD (by rw[if_pos (by omega)])
  rw[qA]at c;refine waC (bnt.2 (qj.2 f)) ?_;refine waz (λ a=>?_) λ a=>?_
  .rw[bnt,qj]at a;exact waD (by rw[if_pos a])
  rw[bnf,ql]at a;rw[if_neg (by omega)];refine waE (qj.2 f) ?_;exact nm λ b e=>by rw[e]
 .rw[if_neg g];exact waC (bnt.2 (qj.2 g)) (waA _)
theorem qMk(t:T):size t<=1000000000->Ev (λ m _=>jN m t) (jq t):=by
 induction t using T.ind with
 |h t d=>
   intro n;refine waG ?_;simp only[qAR,qeU,qk];have o:=yC t
   have a:=qv (P:=λ i=>Ev (λ m k=>qab m (jN m) k i t.kind t.name t.sort t.kids) (((t.kids.drop i).map jq).foldl thn 0)) t.kids (by omega)
    (λ b=>by
     refine waF ?_;simp only[qoe,qeV];refine waE b ?_;exact waD (by simp))
    (λ i x e j b g f l=>by
     refine waF ?_;simp only[qoe,qeV,qk];refine waC b (waB g ?_);have c:=wb e;have p:=jJ t x c;refine way (d x c (by omega)) ?_;rw[j,wo,QV,f];refine waz (λ h=>?_) λ h=>?_
     .rw[bnt,qj]at h;exact waD (by rw[qT _ h])
     .rw[bnf,ql]at h;rw[h];exact l)
   rw[qi2];refine way (qN6 t) ?_;refine waz (λ h=>?_) λ h=>?_
   .rw[bnt,qj]at h;exact waD (by rw[qT _ h])
   .rw[bnf,ql]at h;rw[h];refine waH (L:=λ m k=>qab m (jN m) k 0 t.kind t.name t.sort t.kids) ?_;exact(a 0 (we _)).res (by rw[wP])
theorem qcV(t:T)(a:size t<=1000000000):Ev (λ m _=>js m t) (qP t):=by
 refine waG ?_;simp only[qAS,qin,qk];unfold qP;refine way (qMk t a) ?_;refine waz (λ h=>?_) λ h=>?_
 .rw[bnt,qj]at h;exact waD (by rw[if_pos h])
 rw[bnf,ql]at h;rw[if_neg (by omega)];refine way (qut t a) ?_;refine waz (λ h=>?_) λ h=>?_
 .rw[qz]at h;exact waD (by rw[if_pos (.inl (by omega))])
 rw[qA]at h;refine way (qJJ t a) ?_;refine waz (λ h=>?_) λ h=>?_
 .rw[qz]at h;exact waD (by rw[if_pos (.inr (by omega))])
 .rw[qA]at h;exact waD (by rw[if_neg (by omega)])
end Go.AmZ
