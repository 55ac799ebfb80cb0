/- Part 6 of what the proofs stand on: plain functions of the program, and that they are its functions. -/
import Derived.Test.YtinbdcelmgfniaaGreatDoorM4
import Derived.Test.YtinbdcelmgfniaaGreatDoorM3
import Derived.Test.YtinbdcelmgfniaaGreatDoorM5
import Derived.KernelRfl
import Derived.Test.YtinbdcelmgfniaaGreatDoorProg
import Derived.Deep.RegionLaw
import Derived.Handy
import Derived.Test.YtinbdcelmgfniaaGreatDoorM1
import Derived.ProofKit
import Derived.Test.YtinbdcelmgfniaaGreatDoorRows
import Derived.Lib.LaidTab
import Derived.Stop.LaidErr
import Derived.MakeChecks
set_option linter.unusedVariables false
set_option linter.unusedSimpArgs false
set_option linter.defProp false
noncomputable section
open Option renaming some->Z,none->U
open Bool renaming true->O,false->Y
open Decidable renaming decide->J
open List renaming length->I
open Array renaming toList->V
open Go renaming Value->ah,World->ao,TypeId->aO,Program->aX,FuncId->dm
namespace Go.Proofs.YtinbdcelmgfniaaGreatDoor
open Go Go.RowKit Go.GxZ Go.AmZ Go.Lib
def Wg:Al Tryz.prog .term 23 25 56:=⟨by
 have h:(match cH Tryz.prog 23 with|some ⟨_,_,_,_,.slice e k b z⟩=>Nat.beq e 25&&(Nat.beq k 4&&(Nat.beq b 56&&Nat.beq (I z) 4))|_=>Y)=O:=by kernel_rfl
 split at h
 .next l j i g e k b z m=>simp only[aK]at h;let⟨f,d,c,a⟩:=h;have f:=cg f;have d:=cg d;have c:=cg c;have a:=cg a;subst f;subst d;subst c;exact⟨l,j,i,g,z,m,a⟩
 .cases h⟩
def qie{F:Val RD->ac qA}{k:Nat}{b:Val RD}{r:(Val RD×Unit)×(T×Unit)}(h:vH F k b=Z r):∃a nk nm sk lf,F b=Z ((a,()),((nk,nm,sk,[],lf,()),()))/\qu F k [(T.mk nk nm sk [],lf)] a=Z r:=by
 unfold vH at h;cases c:ov F b with
 |none=>rw[c]at h;cases h
 |some x=>
   let⟨a,nk,nm,sk,lf⟩:=x;rw[c]at h;exact⟨a,nk,nm,sk,lf,RI c,h⟩
def qll(a:Gh)(w0:ao)(b:Val RD)(t:T)(e:Ending)(w':ao):Prop:=∃(us:aa ah) (Γ:Gh) (σ:St),e=.returned (.agg us.toArray)/\RS a w0 b Γ σ w'/\RepL Γ (aq .term t) us/\∀u∈us,u.oneCell'=O
def qlz:(Tryz.prog.info? 79).map (λ i=>(i.zero,i.size,i.bytes))=Z (Z (.agg #[.int .i64 0,.string ⟨#[]⟩,.int .i64 0,.slice U 0 0,.int .i64 0]),5,64):=by kernel_rfl
set_option maxHeartbeats 4000000 in
set_option maxRecDepth 1000000 in
def qi4{F:Val RD->ac qA}(hF:cp Tryz.prog 67 (sgP (vu F))){k:Nat}{Γ0:Gh}{σ0:St}{w0:ao}{rd rd':Val RD}{t:T}(h0:Inv Γ0 σ0 w0)(hb : σ0.bx=[aq RD rd])(hr : σ0.rw=[])(hf:vH F k rd=Z ((rd',()),(t,()))) :
  Calls Tryz.prog 35 #[.pointer (Z ⟨Γ0.β 0,0,U⟩)] w0 (qll Γ0 w0 rd' t):=by
 have HF:=Lib.hid hF;have hS:RS Γ0 w0 rd Γ0 σ0 w0:=⟨.refl _ _,h0,hb⟩
 have HS:=Lib.hid hS;have HR:=Lib.hid hr;have HQ:=Lib.hid hf;clear hF hS hr hf h0 hb;generalize hβ : Γ0.β 0 = β;have Hβ := Lib.hid hβ;clear hβ
 go_enter Tryz.func35,Tryz.ntmps35
 obtain⟨rd1,nk,nm,sk,lf,hf1,hl1⟩:=qie HQ.out
 have hc1:∀ o:Obj,Calls Tryz.prog 67 #[.pointer (Z ⟨β,0,U⟩)] (w0.alloc o) λ e w'=>∃ Γ' σ' ku,e = .returned (.agg #[.int .i64 nk,.string ⟨nm.toArray⟩,.int .i64 sk,ku,.int .i64 lf])/\Ext Γ0 (w0.alloc o) Γ' w'/\RS Γ0 w0 rd1 Γ' σ' w' /\ σ'.rw = σ0.rw++[⟨4,[],0,0,Y⟩]/\Rep Γ' (.rs (I σ0.rw) 0 0 0 Y) ku := λ o=>by
  rw[<- Hβ.out];exact SE HF.out hf1 (HS.out.alloc o)
 have HC1:=Lib.hid hc1;have HL1:=Lib.hid hl1;clear hc1 hl1 hf1
 go_wp2_with (go_at_call 67;apply (HC1.out _).mono;rintro e w1 ⟨Γ1,σ1,ku,rfl,hx1,hS1,hrw1,hku1⟩)
 have hR1 : σ1.rw[I σ0.rw]?=Z ⟨4,[],0,0,Y⟩:=by rw[hrw1];simp
 have hsz1:w0.heap.size+1<=w1.heap.size:=by have:=hx1.size;simpa using this
 have hres0:ib Γ0 (w0.alloc (Obj.cells #[.int .i64 0,.string ⟨#[]⟩,.int .i64 0,.slice U 0 0] 25)) w0.heap.size 25 :=
  ⟨jw.new HS.out.i (al _),by simp,heap_alloc_new w0 _⟩
 have hres1:=hres0.ext hx1;obtain⟨hS2,hK2⟩:=qmd (N:=79) (B:=w0.heap.size) hS1 (by omega) (nk:=nk) (sk:=sk) (nm:=nm) (lf:=lf) hR1 hku1;have hres2:ib Γ1 (w1.alloc (Obj.cells #[.int .i64 nk,.string ⟨nm.toArray⟩,.int .i64 sk,ku,.int .i64 lf] 79)) w0.heap.size 25:=hres1.same (by simp) (Below.heap_alloc _ _ _ hres1.2.1);have hbet:∀{Γ : Gh},Le Γ0 Γ -> Γ.β 0 = β := λ h=>(h.β 0 (by rw[HS.out.i.nb,HS.out.bx];exact Nat.zero_lt_one)).trans Hβ.out;have HBET:Hid (∀{Γ : Gh},Le Γ0 Γ -> Γ.β 0 = β):=@hbet;have HS2:=Lib.hid hS2;have HK2:=Lib.hid hK2;have HRES2:=Lib.hid hres2;have HSZ1:=Lib.hid hsz1;clear hR1 hres0 hres1 hS2 hK2 hres2 hx1 hS1 hrw1 hku1 hbet hsz1 HC1
 go_loopg [3] k (λ g1 v3 wr=>∃(st:aa (T × Int)) (ids:aa Nat) (g cap:Nat) (cs:aa ah) (Γ : Gh) (σ : St) (rdx:Val RD),v3 = .slice (Z ⟨g,0,U⟩) (I st:Nat) cap/\Hid (RS Γ0 w0 rdx Γ σ wr)/\Hid (Stk w0.heap.size 79 Γ σ wr st ids g cap cs)/\Hid (ib Γ wr w0.heap.size 25/\w0.heap.size≠g)/\Hid (qu F g1 st rdx=Z ((rd',()),(t,()))))
 case atStart=>exact⟨_,_,_,_,_,_,_,_,rfl,HS2.out,HK2.out,⟨HRES2.out,by have:=HSZ1.out;omega⟩,HL1.out⟩
 case round =>
  obtain⟨st,ids,g,cap,cs,Γ,σ,rdx,rfl,HSr,HKr,HRr,HLr⟩:=hrel;clear HS2 HK2 HRES2 HL1 HSZ1
  obtain⟨m,hm⟩:∃ m,gk=m+1:=by
   cases gk with
   | zero=>exact absurd HLr.out (by intro h;cases h)
   | succ m=>exact⟨m,rfl⟩
  have HLm:Hid (qu F (m+1) st rdx=Z ((rd',()),(t,()))):=by rw[<- hm];exact HLr
  clear HLr;obtain⟨hw0,hw1,hw2⟩:=HSr.out.box;rw[HBET.out HSr.out.x.le]at hw0 hw1 hw2;clear hw0 hw1;rcases qil (show sB F (qu F m) st rdx=Z ((rd',()),(t,()))from HLm.out)with⟨hw,he⟩ | ⟨hw,p,top,lt,hlen,hp,hcase⟩
  ·rw[hw]at hw2;cases he;obtain⟨r0,r1,r2,r3,rf⟩:=HRr.out.1.cells;have RF:=Lib.hid rf;have f0:=rf 0;have f1:=rf 1;have f2:=rf 2;have f3:=rf 3;clear rf
   go_wp2_with fail
   obtain⟨w9,hw9,⟨b0,b1,b2,b3⟩,_⟩:=Ta wr w0.heap.size _ _ _ _ (.int .i64 0) (.string ⟨#[]⟩) (.int .i64 0) (.slice U 0 0) ⟨r0,r1,r2,r3⟩;have hS9:=HSr.out.put4 HRr.out.1.1 (al _) (.int .i64 0) (.string ⟨#[]⟩) (.int .i64 0) (.slice U 0 0);rw[hw9]at hS9 |-
   apply bodyPost_ret (v := .agg #[.int .i64 0,.string ⟨#[]⟩,.int .i64 0,.slice U 0 0]) (by simp[results,Tryz.results35,go_sem,b0,b1,b2,b3]) rfl;exact⟨_,Γ,σ,rfl,hS9,zi (t := .mk 0 [] 0 []) Vy,FF rfl⟩
  ·rw[hw]at hw2;obtain⟨r,hr,NC⟩:=HKr.out.at hp;have hcap:=qnd HKr.out.own;have hpm:p+1<=maxLen:=by omega
   unfold maxLen at hpm;have hwp:IntKind.i64.wrap (((p+1:Nat):Int)-1)=(p:Int):=by rw[IntKind.wrap_i64];omega
   obtain⟨Rp,kp,z1,z2,z3,z4,z5,z6,a0,a1,a2,a3,a4⟩:=NC;obtain⟨c4,f4⟩:=HKr.out.cell a4;have hz:(p:Int)<((p+1:Nat):Int):=by omega
   rcases hcase with⟨hlt,hroom,rd1,nk1,nm1,sk1,lf1,hf1,hih⟩ | ⟨hlt,hend⟩
   ·clear z1 z2 z3 z4 z5 z6 a0 a1 a2 a3;rw[hlen]
    go_upto_region 6 with(fail)
    have hwr:iw .i64 (cr lt 1)=wrap64 (lt-1):=by show IntKind.i64.wrap (lt-1)=_;rw[IntKind.wrap_i64];unfold wrap64;rfl
    rw[hwr]at hih;have hS2:=HSr.out.set HKr.out.priv (mg HKr.out.own).1 (p*5+4) (.int .i64 (wrap64 (lt-1)));have hK2:=HKr.out.left hp (wrap64 (lt-1));have hR2:ib Γ (wr.setCell ⟨g,p*5+4,U⟩ (.int .i64 (wrap64 (lt-1)))) w0.heap.size 25:=HRr.out.1.same (by simp) (Below.heap_setCell _ _ _ _ HRr.out.2);have hc:=SE HF.out hf1 hS2;rw[HBET.out HSr.out.x.le]at hc;generalize wr.setCell ⟨g,p*5+4,U⟩ (.int .i64 (wrap64 (lt-1)))=w2 at *;have HC:=Lib.hid hc;have HK2:=Lib.hid hK2;have HR2:=Lib.hid hR2;have HIH:=Lib.hid hih;have HRM:=Lib.hid hroom;have HLEN:=Lib.hid hlen;have HNG:=Lib.hid HRr.out.2;clear hc hK2 hR2 hih hroom hS2 HSr HKr HRr hlen hcap hwp hz c4 f4 a4 hr hp hf1 hw2 hwr;obtain⟨i0,hi,hz0,hz1,hz2⟩:=info_parts qlz
    go_wp2_with (first
     | (go_at_call 67;apply HC.out.mono;rintro e w3 ⟨Γ3,σ3,ku3,rfl,hx3,hS3,hrw3,hku3⟩
        have hK3:=HK2.out.later hx3 (σ' := σ3) (λ r _ R h=>by rw[hrw3,dY (getElem?_lt h)];exact h);have hR3:=HR2.out.ext hx3;have hnid : I σ.rw ∉ ids:=HK2.out.id_lt;have hlen2:I (st.set p (top,wrap64 (lt-1)))=p+1:=by rw[dX];exact HLEN.out
        obtain⟨v4,w4,hrun4,g4,cap4,hv4,hS4,hK4,hsz4,hbl4,hg4⟩:=qkw Tryz.underlying81 hi hz0 hz1 hz2 rfl hS3 hK3 (al _) (nk:=nk1) (nm:=nm1) (sk:=sk1) (lf:=lf1) (r := I σ.rw) (by rw[hrw3];simp) hku3 hnid (by rw[hlen2];exact HRM.out) 81;have hR4:ib Γ3 w4 w0.heap.size 25:=hR3.same hsz4 (hbl4 _ hR3.2.1 HNG.out);have hng4:w0.heap.size≠g4:=by rcases hg4 with rfl | h;exact HNG.out;have:=hR3.2.1;omega
        rw[hlen2]at hrun4 hv4;subst hv4;have HS4:=Lib.hid hS4;have HK4:=Lib.hid hK4;have HR4:=Lib.hid hR4;have HNG4:=Lib.hid hng4;have HRUN:=Lib.hid hrun4;clear hx3 hS3 hrw3 hku3 hK3 hR3 hnid hlen2 hrun4 hS4 hK4 hsz4 hbl4 hg4 hR4 hng4)
     | (at_builtin;refine qer _ _ _ rfl rfl rfl rfl HRUN.out ?_))
    go_roundg m
    case measure=>omega
    case rel=>exact⟨_,_,g4,cap4,_,Γ3,σ3,rd1,by rw[aU,dX,HLEN.out];rfl,HS4.out,HK4.out,⟨HR4.out,HNG4.out⟩,HIH.out⟩
   ·obtain⟨c0,f0⟩:=HKr.out.cell a0;obtain⟨c1,f1⟩:=HKr.out.cell a1;obtain⟨c2,f2⟩:=HKr.out.cell a2;obtain⟨c3,f3⟩:=HKr.out.cell a3;have hgl:=(mg HKr.out.own).2;have hbl:w0.heap.size<wr.heap.size:=HRr.out.1.2.1;have NC:pn Γ σ cs p top lt r:=⟨Rp,kp,z1,z2,z3,z4,z5,z6,a0,a1,a2,a3,a4⟩
    have hk1:=z6.one rfl;obtain⟨pa,kn,kc,rfl⟩:∃ pa kn kc,kp = .slice pa kn kc:=by cases z6;exact⟨_,_,_,rfl⟩
    clear z1 z2 z3 z4 z5 z6 a0 a1 a2 f0 f1 f2 f3 f4;rcases hend with⟨rfl,he⟩ | ⟨q,par,n,rfl,hq,hroom,hih⟩
    ·cases he;rw[hlen];have hR5:∀ o:Obj,ib Γ (wr.alloc o) w0.heap.size 25 := λ o=>HRr.out.1.same (by simp) (Below.heap_alloc _ _ _ hbl);obtain⟨r0,r1,r2,r3,rf⟩:=HRr.out.1.cells;have f0:=rf 0;have f1:=rf 1;have f2:=rf 2;have f3:=rf 3;clear rf;have HNC:=Lib.hid NC;have HR5:=Lib.hid hR5;have HLT:=Lib.hid hlt;have HK1:=Lib.hid hk1;clear NC hR5 hk1
     go_wp2_with fail
     obtain⟨w9,hw9,⟨b0,b1,b2,b3⟩,_,hsz9,_⟩:=Ta wr w0.heap.size _ _ _ _ (.int .i64 t.kind) (.string ⟨t.name.toArray⟩) (.int .i64 t.sort) (.slice pa kn kc) ⟨r0,r1,r2,r3⟩;have hS9:=HSr.out.put4 HRr.out.1.1 (al _) (.int .i64 t.kind) (.string ⟨t.name.toArray⟩) (.int .i64 t.sort) (.slice pa kn kc);rw[hw9]at hS9 |-
     have hl9:w0.heap.size<w9.heap.size:=by rw[hsz9];exact hbl
     apply bodyPost_ret (v := .agg #[.int .i64 t.kind,.string ⟨t.name.toArray⟩,.int .i64 t.sort,.slice pa kn kc]) (by simp[results,Tryz.results35,go_sem,b0,b1,b2,b3,hl9]) rfl;have hS10:=hS9.alloc (.cells #[.int .i64 t.kind,.string ⟨t.name.toArray⟩,.int .i64 t.sort,.slice pa kn kc] 25);obtain⟨Γ1,σ9,kx,y1,y2,y3,y4,y5,y6,y7⟩:=Vo hS10.i HNC.out;obtain⟨_,kx',_,_,_,_,_,_,_,_,_,y8,_⟩:=HNC.out;have hcs:cs[0*5+3]?=Z (.slice pa kn kc):=a3;rw[hcs]at y5;cases y5;exact⟨[.int .i64 t.kind,.string ⟨t.name.toArray⟩,.int .i64 t.sort,.slice pa kn kc],Γ1,σ9,rfl,⟨hS10.x.trans y3,y4,y1.trans hS10.bx⟩,zi y6,FF rfl⟩
    ·rw[hlen];have HNC:=Lib.hid NC;have HK1:=Lib.hid hk1;have HIH:=Lib.hid hih;have HRM:=Lib.hid hroom;have HQ2:=Lib.hid hq;have HP:=Lib.hid hp;have hqm:q+1+1<=2 ^ 63-1:=hpm;have hz2:¬ ((q:Int)+1=0):=by omega
     clear NC hk1 hih hroom hq HQ
     go_upto_region 11 with(fail)
     obtain⟨w5,hw5,hb5,hs5,hbx5⟩:=qoF wr (.int .i64 top.kind) (.string ⟨top.name.toArray⟩) (.int .i64 top.sort) (.slice pa kn kc) 25;have hS5:=HSr.out.alloc (.cells #[.int .i64 top.kind,.string ⟨top.name.toArray⟩,.int .i64 top.sort,.slice pa kn kc] 25);have hK5:=HKr.out.grown (World.grownBy_alloc wr (.cells #[.int .i64 top.kind,.string ⟨top.name.toArray⟩,.int .i64 top.sort,.slice pa kn kc] 25) U) (λ e=>by cases e);have hR5:ib Γ (wr.alloc (.cells #[.int .i64 top.kind,.string ⟨top.name.toArray⟩,.int .i64 top.sort,.slice pa kn kc] 25)) w0.heap.size 25:=HRr.out.1.same (by simp) (Below.heap_alloc _ _ _ hbl);rw[hw5]at hS5 hK5 hR5 |-
     have g5:=hbx5 _ (Below.refl _ _);have HS5:=Lib.hid hS5;have HK5:=Lib.hid hK5;have HR5:=Lib.hid hR5;have G5:=Lib.hid g5;have HNG:=Lib.hid HRr.out.2;have HA3:=Lib.hid a3;have HSZ5:=Lib.hid hs5;clear hbx5 hw5 hb5 hS5 hK5 hR5 g5 HSr HKr HRr c0 c1 c2 c3 c4 a4 a3 hw2 hgl hbl hs5 hlen hp hcap hwp hr
     have key:∀ bv:ah,RS Γ0 w0 rdx Γ σ (w5.alloc (.cells #[bv] 4)).drew/\Stk w0.heap.size 79 Γ σ (w5.alloc (.cells #[bv] 4)).drew st ids g cap cs/\ib Γ (w5.alloc (.cells #[bv] 4)).drew w0.heap.size 25/\Box (w5.alloc (.cells #[bv] 4)).drew wr.heap.size (.int .i64 top.kind) (.string ⟨top.name.toArray⟩) (.int .i64 top.sort) (.slice pa kn kc) := λ bv =>
      ⟨(HS5.out.alloc _).drew',(HK5.out.grown (World.grownBy_alloc w5 (.cells #[bv] 4) U) (λ e=>by cases e)).drew,(HR5.out.same (by simp) (Below.heap_alloc _ _ _ HR5.out.2.1)).drew,G5.out.same (Below.heap_alloc _ _ _ (by have:=HSZ5.out;omega))⟩
     have KEY:=Lib.hid key;clear key
     go_region
     ·obtain⟨w6,hw6⟩:∃ w6,(w5.alloc (.cells #[.bool Y] 4)).drew=w6:=⟨_,rfl⟩
      obtain⟨k1,k2,k3,k4⟩:=KEY.out (.bool Y);rw[hw6]at k1 k2 k3 k4 |-
      have HS6:=Lib.hid k1;have HK6:=Lib.hid k2;have HR6:=Lib.hid k3;have G6:=Lib.hid k4;clear KEY hw6 k1 k2 k3 k4 HS5 HK5 HR5 G5 HSZ5
      go_upto_region 14 with(fail)
      obtain⟨Γ7,σ7,kx,b4,hS7,hK7,hx7,hx6⟩:=WO HS6.out.drew' HK6.out.drew HP.out;rw[HA3.out]at b4;cases b4;have hql:q<I st:=getElem?_lt HQ2.out;obtain⟨kq,rq,b0,_,_,v8,w8,hrun,⟨pa8,kc8,hv8⟩,Γ8,σ8,hx8,hS8,hK8⟩:=Xj Wg hS7 hK7 (al _) (q:=q) (t:=par) (n:=n) (by rw[eX,ifP];exact HQ2.out) hx7 HRM.out 25 23;rw[Bq,kP (by omega)]at hK8;subst hv8;obtain⟨c6,f6⟩:=hK7.cell b0;obtain⟨c0,c1,c2,c3⟩:=G6.out;have c7:∀ o:Obj,(w6.alloc o).cell? ⟨g,q*5+3,U⟩=Z kq := λ o=>(World.cell?_alloc_lt _ _ _ (by show g<_;exact(mg HK6.out.own).2)).trans c6;have hbk:=(hK7.priv.ext hx8 (by exact(mg HK6.out.own).2)).2;have c8:w8.cell? ⟨g,q*5+3,U⟩=Z kq:=(World.cell?_of_block (w:=w6) (a:=⟨g,q*5+3,U⟩) hbk).trans c6;have f8:w8.frozen? ⟨g,q*5+3,U⟩=Y:=(World.frozen?_of_block (w:=w6) (a:=⟨g,q*5+3,U⟩) hbk).trans f6;have HR8:=Lib.hid ((HR6.out.drew.ext hx6).ext hx8);have HS8:=Lib.hid hS8;have HK8:=Lib.hid hK8;have hrun:(Builtin.append_ #[23,23] 23 #[kq,.slice (Z ⟨w6.heap.size,0,U⟩) 1 1]).run Tryz.prog (w6.alloc (.cells #[.int .i64 top.kind,.string ⟨top.name.toArray⟩,.int .i64 top.sort,.slice pa kn kc] 25)).drew = .ok (.slice pa8 (I par.kids+1) kc8) w8:=hrun;have HRUN:=Lib.hid hrun;have hl9:I (st.take q++[(T.mk par.kind par.name par.sort (par.kids++[top]),n)])=q+1:=by rw[aU,bD];simp;omega
      have HL9:=Lib.hid hl9;clear hx8 hS8 hK8 hrun b0 hbk HS6 HK6 HR6 G6 hS7 hK7 hx7 hx6 hl9 hql;have hwq:IntKind.i64.wrap (q:Int)=(q:Int):=by rw[IntKind.wrap_i64];omega
      have hqz:(q:Int)<(q:Int)+1:=by omega
      go_region_law (first | (refine QO rfl _ _ _ rfl rfl rfl HRUN.out ?_))
      all_goals
       go_wp2_with fail
       go_roundg m
       case measure=>omega
       case rel=>exact⟨_,_,g,cap,_,Γ8,σ8,rdx,by rw[HL9.out],HS8.out,HK8.out,⟨HR8.out.same (by simp) (Below.heap_setCell _ _ _ _ HNG.out),HNG.out⟩,HIH.out⟩
     ·obtain⟨w6,hw6⟩:∃ w6,(w5.alloc (.cells #[.bool O] 4)).drew=w6:=⟨_,rfl⟩
      obtain⟨k1,k2,k3,k4⟩:=KEY.out (.bool O);rw[hw6]at k1 k2 k3 k4 |-
      have HS6:=Lib.hid k1;have HK6:=Lib.hid k2;have HR6:=Lib.hid k3;have G6:=Lib.hid k4;clear KEY hw6 k1 k2 k3 k4 HS5 HK5 HR5 G5 HSZ5
      go_upto_region 12 with(fail)
      obtain⟨Γ7,σ7,kx,b4,hS7,hK7,hx7,hx6⟩:=WO HS6.out.drew' HK6.out.drew HP.out;rw[HA3.out]at b4;cases b4;have hql:q<I st:=getElem?_lt HQ2.out;obtain⟨kq,rq,b0,_,⟨pa7,kc7,rfl⟩,v8,w8,hrun,⟨pa8,kc8,hv8⟩,Γ8,σ8,hx8,hS8,hK8⟩:=Xj Wg hS7 hK7 (al _) (q:=q) (t:=par) (n:=n) (x := .mk 0 [] 0 []) (by rw[eX,ifP];exact HQ2.out) Vy HRM.out 25 23;rw[Bq,kP (by omega)]at hK8;subst hv8;obtain⟨c6,f6⟩:=hK7.cell b0;obtain⟨c0,c1,c2,c3⟩:=G6.out;have c7:∀ o:Obj,(w6.alloc o).cell? ⟨g,q*5+3,U⟩=Z (.slice pa7 (I par.kids) kc7) := λ o=>(World.cell?_alloc_lt _ _ _ (by show g<_;exact(mg HK6.out.own).2)).trans c6;have hwl:wr.heap.size<w6.heap.size:=Gz c0;have hbk:=(hK7.priv.ext hx8 (by exact(mg HK6.out.own).2)).2;have c8:w8.cell? ⟨g,q*5+3,U⟩=Z (.slice pa7 (I par.kids) kc7):=(World.cell?_of_block (w:=w6) (a:=⟨g,q*5+3,U⟩) hbk).trans c6;have f8:w8.frozen? ⟨g,q*5+3,U⟩=Y:=(World.frozen?_of_block (w:=w6) (a:=⟨g,q*5+3,U⟩) hbk).trans f6;have hR8:ib Γ8 (w8.setCell ⟨g,q*5+3,U⟩ (.slice pa8 (I par.kids+1) kc8)) w0.heap.size 25:=((HR6.out.drew.ext hx6).ext hx8).same (by simp) (Below.heap_setCell _ _ _ _ HNG.out);have hl9:I (st.take q)=q:=by rw[bD];omega
      obtain⟨b,kc9,y1,y2,y3,y4,y5,Γ9,σ9,hx9,hS9,hK9⟩:=qnx hS8 hK8 (q:=q) (ks:=par.kids) (z := .mk 0 [] 0 []) (x:=top) (n:=n) (by rw[dy (by omega),hl9,gF];rfl) rfl (hx7.mono hx8.le)
      have y6:pa8=Z ⟨b,0,U⟩/\kc8=kc9:=by
       rw[eX,ifP,gh (by rw[hK7.own.1,bD];omega)]at y1;cases y1;exact⟨rfl,rfl⟩
      obtain⟨rfl,rfl⟩:=y6;obtain⟨u0,d0⟩:=y4 0 (by decide);obtain⟨u1,d1⟩:=y4 1 (by decide);obtain⟨u2,d2⟩:=y4 2 (by decide);obtain⟨u3,d3⟩:=y4 3 (by decide);have g0:=y5 (I par.kids*4);have g1:=y5 (I par.kids*4+1);have g2:=y5 (I par.kids*4+2);have g3:=y5 (I par.kids*4+3);have hres:b≠w0.heap.size := λ e=>hR8.1.own (e▸y3);have hR9:=(hR8.ext hx9)
      have hrun:(Builtin.append_ #[23,23] 23 #[.slice pa7 (I par.kids) kc7,.slice (Z ⟨w6.heap.size,0,U⟩) 1 1]).run Tryz.prog (w6.alloc (.cells #[.int .i64 0,.string ⟨#[]⟩,.int .i64 0,.slice U 0 0] 25)).drew = .ok (.slice (Z ⟨b,0,U⟩) (I par.kids+1) kc8) w8:=hrun;obtain⟨w9,hw9⟩:∃ w9,w8.setCell ⟨g,q*5+3,U⟩ (.slice (Z ⟨b,0,U⟩) (I par.kids+1) kc8)=w9:=⟨_,rfl⟩
      rw[hw9]at hS9 hK9 hR9 d0 d1 d2 d3 g0 g1 g2 g3;rw[dE]at d0
      have hl10:((st.take q++[(T.mk par.kind par.name par.sort (par.kids++[T.mk 0 [] 0 []]),n)]).set q (T.mk par.kind par.name par.sort (par.kids++[top]),n))=st.take q++[(T.mk par.kind par.name par.sort (par.kids++[top]),n)]:=by
       rw[Ie _ _ (by omega),hl9,gF];rfl
      have hK9:Stk w0.heap.size 79 Γ9 σ9 _ ((st.take q++[(T.mk par.kind par.name par.sort (par.kids++[T.mk 0 [] 0 []]),n)]).set q (T.mk par.kind par.name par.sort (par.kids++[top]),n)) _ g cap _:=hK9;rw[hl10]at hK9;have hl11:I (st.take q++[(T.mk par.kind par.name par.sort (par.kids++[top]),n)])=q+1:=by rw[aU,hl9];rfl
      have HL11:=Lib.hid hl11;have HS9:=Lib.hid hS9;have HK9:=Lib.hid hK9;have HR9:=Lib.hid hR9;have HRUN:=Lib.hid hrun;have HW9:=Lib.hid hw9;have hwq:IntKind.i64.wrap (q:Int)=(q:Int):=by rw[IntKind.wrap_i64];omega
      have hqz:(q:Int)<(q:Int)+1:=by omega
      have hnz:(I par.kids:Int)<(I par.kids:Int)+1:=by omega
      clear hx8 hS8 hK8 hrun b0 hbk HS6 HK6 HR6 G6 hS7 hK7 hx7 hx6 hl9 hql hR8 hx9 hS9 hK9 hR9 hw9 hl10 hl11 y1 y2 y3 y4 y5 hres
      go_region_law (first | (refine QO rfl _ _ _ rfl rfl rfl HRUN.out ?_))
      all_goals
       rw[HW9.out]
       go_wp2_with fail
       go_roundg m
       case measure=>omega
       case rel=>exact⟨_,_,g,cap,_,Γ9,σ9,rdx,by rw[HL11.out],HS9.out,HK9.out,⟨HR9.out,HNG.out⟩,HIH.out⟩
end Go.Proofs.YtinbdcelmgfniaaGreatDoor
namespace Go.AmZ
open Go Go.RowKit Go.GxZ
def qlK{ds:aa AV}{e:Val RD}(h:bq RD (ds.take (Ty.size RD))=Z e)(j:ds.drop (Ty.size RD)=[]):ds=aq RD e:=by
 have k:ds.take (Ty.size RD)=ds:=tn (List.drop_eq_nil_iff.1 j);rw[k]at h;have h:=dJ.1 h;let⟨s,f,w⟩:=e;change vA (er .str) (vA (er (.int .i64)) (er .bool)) ds=_ at h;unfold vA at h;split at h<;>try cases h
 rename_i x r c;split at h<;>cases h;rename_i y d;split at d<;>try cases d
 rename_i l g a;split at d<;>cases d;rename_i b;have c:iO ds=Z (s,r):=c;have a:eW .i64 r=Z (f,g):=a;have b:kz g=Z (w,[]):=b;unfold iO at c;split at c<;>cases c;unfold eW at a;split at a<;>try cases a
 next i=>split at a<;>cases a;have i:=bH (by assumption);subst i;unfold kz at b;split at b<;>cases b;rfl
def qmV{σ:St}{ys:aa AV}{a:iI [.box [.val RD]]}(h:dS σ [.box [.val RD]] 0 0 ys=Z a):ys=[.ptr 0 0]/\σ.bx=[aq RD a.1]/\σ.rw=[]:=by
 cases ys with
 |nil=>simp[dS]at h
 |cons y ys=>
   simp only[dS]at h;cases c:sc σ [.val RD] 0 0 y with
   |none=>rw[c]at h;cases h
   |some p=>
     let⟨v,n⟩:=p;rw[c]at h;simp only at h;unfold sc at c;split at c<;>try cases c
     rename_i j f;have f:=Uf f;subst f;split at c<;>try cases c
     rename_i ds k g;have k:=cg k;subst k;simp only[kF]at c;split at c<;>try cases c
     rename_i x o;split at c<;>cases c;rename_i d
     have m:ds.drop (Ty.size RD)=[]/\n=0:=by
      cases i:ds.drop (Ty.size RD)with
      |nil=>rw[i]at d;simp[kF]at d;exact⟨rfl,d.symm⟩
      |cons z s=>rw[i]at d;simp[kF]at d
     obtain⟨m,rfl⟩:=m;split at h<;>cases h;rename_i l;obtain⟨rfl,r,q⟩:=vk l;have e:=qlK o m;let⟨b,c⟩:=O8.1 r.symm;refine⟨rfl,?_,cJ q.symm⟩;rw[c]at g |-
     cases g;rw[e];rfl
end Go.AmZ
namespace Go.Proofs.YtinbdcelmgfniaaGreatDoor
open Go Go.RowKit Go.GxZ Go.AmZ Go.Lib
def hand_read{F:Val RD->ac qA}(q:cp Tryz.prog 67 (sgP (vu F)))(k:Nat):cp Tryz.prog 35 (sgP ⟨[.box [.val RD]],[.one (.val .term)],λ x=>vH F k x.1⟩):=by
 refine⟨iT Tryz.func35 (by kernel_rfl),λ Γ σ w l h r i g a=>?_⟩;let⟨B,b,y,m⟩:= σ;unfold sgP at a;split at a<;>try cases a
 next x p=>let⟨z,_⟩:=x;obtain⟨rfl,j,c⟩:=qmV p;have c:b=[]:=c;subst c;split at a<;>cases a;next n d=>let⟨⟨o,_⟩,t,_⟩:=n;obtain⟨u0,A,rfl,f,g⟩:=g.uncons;have:=g.nil_inv;subst this;cases f;apply (qi4 q i j rfl d).mono;rintro e w' ⟨us,Γ',σ',rfl,v,u,s⟩;exact qiY i (by rw[j];rfl) rfl v u s
end Go.Proofs.YtinbdcelmgfniaaGreatDoor
namespace Go.AmZ
open GxZ
section
set_option maxRecDepth 100000
open Go.Proofs.Tryz (func9 func10 func11 func13 func14 func15 func18 func26 func27 func30 func31 func32 func33 func34 func36 func37 func39 func40 func41 func42 func43 func44 func45 func46 func47 func48 func50 func52 func55 func56 func57 func58 func59 func62 func63 func64 func65 func66 func67 func68 func69 func70 func71 func72 func73 func75 func77 func78 func79 func80 func81 func82 func83 func84 func85 func86 func87 func89 func90 func91 func92 func93 func94 func95 func96 func99 func100 func101 func102 func103 func105 func106 func107 func108 func109 func110 func111 func112 func114 func115 func117 func118 func119 func120 func121 func122 func123 func126 func127 func128 func129 func130 func131 func133 func134 func135 func136 func137 func138 func141 func142 func143 func149 func150 func151 func153 func154 func155 func156 func157 func158 func159 func160 func161 func162 func163 func164 func165 func166 func167 func168 func169 func170 func171 func172 func173 func174 func177 func184 func185 func186 func187 func190 func191 func192 func194 func195 func196 func197 func198 func199 func200 func201 func202 func214 func223 func224 func227 func228 func229 func230 func241)
def qaJ(m:Nat)(h:dd Go.Proofs.Tryz.prog (tb.at m).pc.cfg):cp Go.Proofs.Tryz.prog 35 (sgP ⟨[.box [.val RD]],[.one (.val .term)],λ x=>tD (m+1) x.1⟩):=Go.Proofs.YtinbdcelmgfniaaGreatDoor.hand_read (F:=gT m) (h.prim 67 _ (by kernel_rfl)) m
def qax(m:Nat)(h:dd Go.Proofs.Tryz.prog (tb.at m).pc.cfg):cp Go.Proofs.Tryz.prog 139 (mgP ⟨.term,[.clo 89 0],λ x=>ww (m+1) x.1⟩):=Tg (τ:=.term) Go.Proofs.Tryz.sortTrm (λ _=>rfl) Go.Proofs.Tryz.isAgg25 Go.Proofs.Tryz.sizeOf25 (Mz (τ:=.term) (ρ:=y2) (LM h (by kernel_rfl)) (F:=λ x y=>dp m x y) (by kernel_rfl) (λ _=>rfl)) (iT Go.Proofs.Tryz.func139 (by kernel_rfl)) (λ _ _ h=>h)
def qal(m:Nat)(h:dd Go.Proofs.Tryz.prog (tb.at m).pc.cfg):cp Go.Proofs.Tryz.prog 140 (sgP ⟨[.row .term,.clo 141 0],[.one (.row .term)],λ x=>wv (m+1) x.1⟩):=qgp (Mz (τ:=.term) (ρ:=.bool) (LM h (by kernel_rfl)) (F:=λ x y=>nW m x y) (by kernel_rfl) (λ _=>rfl)) (λ _ _ h=>qic h)
def qah(m:Nat)(h:dd Go.Proofs.Tryz.prog (tb.at m).pc.cfg):cp Go.Proofs.Tryz.prog 152 (mgP ⟨y3,[.clo 153 0],λ x=>wo (m+1) x.1⟩):=Tg (τ:=y3) Go.Proofs.Tryz.sortBnd (λ _=>rfl) Go.Proofs.Tryz.isAgg76 Go.Proofs.Tryz.sizeOf76 (Mz (τ:=y3) (ρ:=y2) (LM h (by kernel_rfl)) (F:=λ x y=>lM m x y) (by kernel_rfl) (λ _=>rfl)) (iT Go.Proofs.Tryz.func152 (by kernel_rfl)) (λ _ _ h=>h)
theorem tb_ok:∀ m,dd Go.Proofs.Tryz.prog (tb.at m).pc.cfg:=Tb.all_ok (by kernel_rfl) X5 (by kernel_rfl) (nP func114 qgY (nS func67 qaR (nP func41 qeh (nP func30 qfq (nP func15 qgJ (nP func11 qbU (nP func10 qeM (nP func9 qaN trivial trivial) trivial) (nP func14 qbJ (nP func13 qfs trivial trivial) trivial)) (nP func26 qbc ⟨qaC (m:=0),(nP func18 qeo trivial trivial),trivial⟩ (nP func27 qcy trivial trivial))) ⟨⟨JX (iT Go.Proofs.Tryz.func35 (by kernel_rfl)) λ _=>rfl,λ m h=>qaJ m h⟩,(nP func33 qfD (nP func32 qgt (nP func31 qeK trivial trivial) trivial) (nP func34 qha trivial trivial)),(nP func39 qfx (nP func37 qdZ (nP func36 qf2 trivial trivial) trivial) (nP func40 qe8 trivial trivial))⟩) (nP func55 qe9 (nP func47 qgZ (nP func44 qdD (nP func43 qc2 (nP func42 qeW trivial trivial) trivial) (nS func46 qb1 (nP func45 qgx trivial trivial) trivial)) ⟨λ c hc=>qct (m:=0) hc,(nP func50 qbd (nP func48 qd5 trivial trivial) trivial),(nP func52 qd3 trivial trivial)⟩) (nP func62 qgu (nP func58 qby (nP func57 qeX (nS func56 qb2 trivial trivial) trivial) (nP func59 qeJ trivial trivial)) (nP func65 qeD (nP func64 qfL (nP func63 qb0 trivial trivial) trivial) (nP func66 qcH trivial trivial))))) (nP func91 qet (nP func80 qdO (nP func73 qcP (nP func70 qel (nP func69 qcA (nS func68 qfH trivial trivial) trivial) (nP func72 qb3 ⟨⟨⟨func71,λ _=>rfl,qa4,⟨func71,λ _=>rfl,qaV,trivial⟩⟩,Pf _ _⟩,trivial,trivial⟩ trivial)) (nP func78 qdn (nP func77 qek (nP func75 qen trivial trivial) trivial) (nP func79 qdL trivial trivial))) (nP func85 qaH (nP func83 qbE (nS func82 qag (nP func81 qef trivial trivial) trivial) (nS func84 qaK trivial trivial)) (nP func89 qdM (nP func87 qfk (nP func86 qdT trivial trivial) trivial) (nP func90 qej trivial trivial)))) (nP func103 qcB (nP func96 qgc (nS func94 qed (nP func93 qeV (nP func92 qeC trivial trivial) trivial) (nP func95 qg7 trivial trivial)) (nS func101 qaO (nS func100 qaS (nP func99 qcR trivial trivial) trivial) (nP func102 qeQ trivial trivial))) (nP func108 qdK (nP func106 qfi (nP func105 qdu ⟨λ c hc=>qbr (m:=0) hc,trivial,trivial⟩ trivial) (nP func107 qdg trivial trivial)) (nS func111 qdW (nS func110 qaP (nS func109 qbf trivial trivial) trivial) (nP func112 qfM trivial trivial)))))) (nP func163 qaE (nP func138 qeY (nP func127 qcp (nP func120 qcE (nP func117 qfT ⟨λ c hc=>qbl (m:=0) hc,(nP func115 qgP trivial trivial),trivial⟩ (nS func119 qbM (nS func118 qbA trivial trivial) trivial)) (nP func123 qeB (nP func122 qfB (nP func121 qeO trivial trivial) trivial) (nP func126 qhf trivial trivial))) (nP func133 qdU (nP func130 qcG (nP func129 qeT (nP func128 qip trivial trivial) trivial) (nP func131 qdj trivial trivial)) (nP func136 qg4 (nP func135 qc3 (nP func134 qfd trivial trivial) trivial) (nP func137 qcz trivial trivial)))) (nP func153 qbm (nP func143 qgz (nP func141 qb4 ⟨⟨JX (iT Go.Proofs.Tryz.func140 (by kernel_rfl)) λ _=>rfl,λ m h=>qal m h⟩,⟨⟨S6 (iT Go.Proofs.Tryz.func139 (by kernel_rfl)) λ _=>rfl,λ m h=>qax m h⟩,trivial,trivial⟩,trivial⟩ (nP func142 qfA trivial trivial)) (nS func151 qbD (nP func150 qd1 (nS func149 qbO trivial trivial) trivial) ⟨⟨S6 (iT Go.Proofs.Tryz.func152 (by kernel_rfl)) λ _=>rfl,λ m h=>qah m h⟩,trivial,trivial⟩)) (nP func158 qiP (nP func156 qhS (nP func155 qgK (nP func154 qgW trivial trivial) trivial) (nP func157 qdS trivial trivial)) (nP func161 qch (nP func160 qb7 (nS func159 qbB trivial trivial) trivial) (nP func162 qdQ trivial trivial))))) ⟨qaF (m:=0),(nP func174 qgO (nP func169 qgm (nP func166 qhl (nP func165 qfP (nP func164 qdX trivial trivial) trivial) (nP func168 qf9 (nP func167 qem trivial trivial) trivial)) (nP func172 qhT (nP func171 qfr (nP func170 qcb trivial trivial) trivial) (nP func173 qfR trivial trivial))) (nS func187 qgG (nS func185 qaW (nS func184 qak (nP func177 qhi trivial trivial) trivial) ⟨func186,trivial,trivial⟩) (nP func191 qbY (nP func190 qd6 ⟨qaz (m:=0),trivial,trivial⟩ trivial) (nS func192 qbT trivial trivial)))),(nS func214 qas (nS func198 qcD (nP func196 qdJ (nP func195 qbW (nS func194 qbP trivial trivial) trivial) (nP func197 qeF trivial trivial)) (nS func201 qgL (nP func200 qcr (nP func199 qeL trivial trivial) trivial) (nP func202 qcW trivial trivial))) (nP func227 qai ⟨qaB (m:=0),(nP func224 qbo (nP func223 qab trivial trivial) trivial),⟨qaA (m:=0),trivial,trivial⟩⟩ (nP func230 qcV (nP func229 qgs (nP func228 qbe trivial trivial) trivial) (nP func241 qap trivial trivial))))⟩))
end
end Go.AmZ
namespace Go.GxZ
open Go.RowKit Go.ChangeShapes Go.WideShapes Go.ChangeAt
open Go.WideMaps Go.WideElems
section
variable {H:Type}{enc:aO×ah->H}{P:aX}
def Q4(f:laidOutB P=O){W i:ao}(g:Below W.heap.size W i):∀{ts:aa aO}{vs:aa ah}{ds:aa (DataW H)}{ps:aa MemPlace},
  (∀t∈ts,P.readableRec t=O/\t<P.types.size)->DataW.TrodAll enc P W 0 (λ _=>O) O ts vs ds ps->(∀x∈ps,x.block<W.heap.size)->
  DataW.TrodAll enc P i 0 (λ b=>J (b<W.heap.size)) O ts vs ds ps
 |[],[],[],_,_,h,_=>h
 |t::ts,v::vs,d::ds,_,e,⟨p,q,m,l,k⟩,a=>by
   subst k;refine⟨p,q,?_,?_,rfl⟩
   .exact Below.trod f (e t (aW ..)).1 (e t (aW ..)).2 m g λ x c=>a x (H8 _ c)
   .exact Q4 f g (λ t j=>e t (aS _ j)) l λ x c=>a x (yt _ c)
 |[],[],_::_,_,_,h,_|[],_::_,_,_,_,h,_|_::_,[],_,_,_,h,_|_::_,_::_,[],_,_,h,_=>h.elim
def qlR{f:Func}{s:ChangeSpec}{b g a:Bool}{W A:ao}{d:aM ah}{ds k:aa (DataW H)}{c:aa MemPlace}{ts:aa aO}{T:aO}
  (E:laidOutB P=O) (m:V f.params=ts) (C:ts.all (λ t=>P.readableRec t&&J (t<P.types.size))=O) (u:s.vars=[])
  (n:f.resultTypes = #[T]) (G:P.underlying T=Z .bool)
  (y:DataW.Whole enc P (V f.params) s.vars b W (V d) ds k c)
  (i:(s.fn H (ds++k)).results=[.lit (.bool O)]) (e:(s.fn H (ds++k)).args=ds) (l:(s.fn H (ds++k)).vars=[])
  (w:Below W.heap.size W A):s.post enc P f b g a Y W d (.bool O) A:=by
 have j:=y;have o:=λ x B=>j.lt x B;obtain⟨p,q,K,z,rfl,F,D⟩:=y;rw[u]at z;have r:k=[]/\q=[]:=trodVars_none z;obtain⟨rfl,rfl⟩:=r;rw[bZ]at *;refine⟨ds,[],p,[],p,[],?_,?_,?_,?_,?_,λ h=>by cases h⟩
 .exact j
 .rw[n,bZ,i];exact trodAll_mk1 (shut_bool G _)
 .rw[bZ,e];refine Q4 E w (ts:=V f.params) ?_ K o;intro t v;rw[m]at v;have:=bJ.1 C t v;simpa using this
 .rw[bZ,l,u];rfl
 .exact w.frame _
end
end Go.GxZ
namespace Go.Proofs.YtinbdcelmgfniaaGreatDoor
def Tryz.own:ownKnob Tryz.prog.godebug=U:=by kernel_rfl
def Tryz.laidOut:laidOutB Tryz.prog=O:=by kernel_rfl
end Go.Proofs.YtinbdcelmgfniaaGreatDoor
namespace Go.AmZ
open GxZ
section
open RowKit
def Te:∀(τ:Ty) (v:Val τ),gu τ (cG τ v)=Z v:=by
 intro τ v;have h:=jo τ v;cases τ<;>exact h
def Mm:aa ATy->Bool
 |[]=>O
 |.val _::r=>Mm r
 |.fn::_=>Y
def Q9:∀(ts:aa ATy) (a:lu ts),Mm ts=O->pb ts (fc ts a [])=Z a/\jM (fc ts a [])=[]
 |[],_,_=>⟨rfl,rfl⟩
 |.val τ::r,a,h=>by
   let⟨d,c⟩:=Q9 r a.2 h;constructor
   .show pD (gu τ) (pb r) (cG τ a.1::fc r a.2 [])=_;simp only[pD,Te,d]
   .show jM (cG τ a.1::fc r a.2 [])=[];have:=(yV (Te τ a.1)).2;cases b:cG τ a.1<;>first|exact c|exact absurd b (this _ _)
 |.fn::_,_,h=>by cases h
def law_calls{P:aX}{f:dm}{c:TC}(p:cp P f (fX (cT c f))){ts:aa ATy}{fn:lu ts->ac (kE [.bool])}(s:c.pf f []=Z ⟨ts,[.bool],fn⟩)(n:Mm ts=O){a:lu ts}(h:fn a=Z O)
  {W:ao} (j:Tab (ghW W) W) {d:aa ah} (l:RepL (ghW W) (fc ts a []) d):Calls P f d.toArray W λ e w'=>e=.returned (.bool O)/\Below W.heap.size W w':=by
 let⟨w,u⟩:=Q9 ts a n
 have o:cT c f (fc ts a [])=Z (.v (.bool O)):=by
  unfold cT;rw[u,s];simp only;rw[w];simp only;rw[h];rfl
 have m:fX (cT c f) emp (fc ts a [])=Z (.v (.bool O),U):=by
  show(match cT c f (fc ts a [])with|Z v=>Z (v,U)|U=>U)=_;rw[o]
 have:=p.2 (ghW W) emp W (fc ts a []) d _ (qmS j) l m;apply Calls.mono this;rintro e w' ⟨v,Γ',rfl,g,_,k,_⟩;have h:=ch k;subst h;refine⟨rfl,g.os,g.tape,g.output,g.size,λ b t=>g.block b t ?_⟩;rintro(⟨i,q,_⟩|⟨r,l,_⟩)
 .exact absurd q (eh _)
 .exact absurd l (eh _)
def qgC{Γ:Gh}{τ:Ty}{x:Val τ}{v:ah}(h:RepL Γ (aq τ x) (V v.cells))(l:∀u∈V v.cells,u.oneCell'=O)(j:τ.agg=O->τ.size≠1)(e:τ.agg=Y->∀cs,v≠.agg cs):Rep Γ (cG τ x) v:=by
 have c:=h.len;rw[fK]at c
 have agg:cG τ x=.agg (aq τ x)->τ.agg=O->Rep Γ (cG τ x) v:=by
  intro f g;rw[f];have d:=j g;cases v with
  |agg cs=>exact .agg _ _ h.len l h.rep
  |_=>exact absurd (show τ.size=1 by rw[<-c];rfl) d
 have one:∀{y:AV},aq τ x=[y]->cG τ x=y->τ.agg=Y->Rep Γ (cG τ x) v:=by
  intro y f i g
  have k:v.cells = #[v]:=by
   cases v with
   |agg cs=>exact absurd rfl (e g cs)
   |_=>rfl
  rw[f,k]at h;rw[i];exact h.rep 0 y v rfl rfl
 cases τ with
 |term|pair a b|one a=>exact agg rfl rfl
 |_=>exact one rfl rfl rfl
open Go.ChangeShapes Go.WideShapes Go.ChangeAt Go.WideMaps Go.WideElems
def qnA{P:aX}{n:Nat}{τ:Ty}{t:aO}{W:ao}{bQ:Nat}{v:ah}(c:tyM P n τ t=O)(f:Value.okWide P W .any bQ t v):τ.agg=Y->∀cs,v≠.agg cs:=by
 intro g cs;cases n with
 |zero=>cases τ<;>simp[tyM]at c
 |succ n=>
 cases τ with
 |map a b=>simp[tyM]at c
 |int k=>
   simp only[tyM]at c;split at c
   .next d=>obtain⟨_,rfl⟩:=okWide_int d f;intro h;cases h
   .cases c
 |bool=>
   simp only[tyM]at c;split at c
   .next d=>obtain⟨_,rfl⟩:=okWide_bool d f;intro h;cases h
   .cases c
 |str=>
   simp only[tyM]at c;split at c
   .next d=>obtain⟨_,rfl⟩:=okWide_string d f;intro h;cases h
   .cases c
 |list a=>
   simp only[tyM]at c;split at c
   .next e d=>obtain⟨_,_,_,rfl⟩:=okWide_slice d f;intro h;cases h
   .cases c
 |_=>cases g
def arg_val{H:Type}{enc:aO×ah->H}{P:aX}{W:ao}{n:Nat}{τ:Ty}{t:aO}{v:ah}{d:DataW H}{ps:aa MemPlace}{bQ:Nat}(b:tyM P n τ t=O)(f:τ.agg=O->τ.size≠1)(e:Value.okWide P W .any bQ t v)
  (h:DataW.Trod enc P W 0 (λ _=>O) O t v d ps) (c:∀k∈d.weights P t,k<=reachBytes):∃x:Val τ,Rep (ghW W) (cG τ x) v/\mA τ x:=by
 let⟨a,g⟩:=h;let⟨x,l,j,i⟩:=qkV a n τ t (V v.cells) (d,ps) b g c;exact⟨x,qgC l j f (qnA b e),i⟩
end
section
open RowKit
def tab_laid {W:ao} {L:aa (String × DataW Unit)} {x y:String × DataW Unit} (e:L=[x,y,("internal/strconv.uint64pow10",Lib.tabData .u64 Lib.pow10Tab)]) (hp:(L.all λ x=>x.2.handleName?.isNone)=O) (h:laidMetH Go.Proofs.Tryz.prog L W):Tab (ghW W) W:=by
 rw [MakeChecks.laidMetH_plain _ _ _ hp,e] at h;have h2:=Lib.tabIs_of_head (g:=0) (t:=168) (e:=144) (n:=20) (by kernel_rfl) (by kernel_rfl) (by kernel_rfl) (by kernel_rfl) (by kernel_rfl) (by kernel_rfl) h.tail.tail;unfold Lib.TabIs World.var? at h2;rw [show Go.Proofs.Tryz.prog.globalNamed "internal/strconv.uint64pow10" = Z 0 by kernel_rfl] at h2;have h2:(match (W.heap[0]? : ac Obj) with | some (Obj.cells cs _ _)=>Z cs | _=>U)=Z (Lib.pow10Tab.map λ z=>Value.int .u64 z).toArray:=h2;have et:(Lib.pow10Tab.map λ z=>Value.int .u64 z).toArray=Be:=by unfold Be Lib.pow10Tab;rw [iu];rfl
 rw [et] at h2;cases hh:W.heap[0]? with
 | none=>rw [hh] at h2;cases h2
 | some o =>
   rw [hh] at h2;cases o with
   | cells cs e fr=>cases h2;exact qna hh
   | _=>cases h2
end
end Go.AmZ
