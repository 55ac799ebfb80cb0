/- Part 6 of what the proofs stand on: plain functions of the program, and that they are its functions. -/
import Derived.Test.YtckmkimhkhilgaaGreatM4
import Derived.Test.YtckmkimhkhilgaaGreatM3
import Derived.Test.YtckmkimhkhilgaaGreatM5
import Derived.KernelRfl
import Derived.Test.YtckmkimhkhilgaaGreatProg
import Derived.Deep.RegionLaw
import Derived.Handy
import Derived.Test.YtckmkimhkhilgaaGreatM1
import Derived.ProofKit
import Derived.Test.YtckmkimhkhilgaaGreatRows
set_option linter.unusedVariables false
set_option linter.unusedSimpArgs false
noncomputable section
namespace Go.Proofs.YtckmkimhkhilgaaGreat
open Go Go.RowKit Go.GxZ Go.AmZ Go.Lib
theorem qCm:qmC Tryz.prog .term 22 24 56:=⟨by
 have h:(match ju Tryz.prog 22 with | some ⟨_,_,_,_,.slice e k b z⟩=>Nat.beq e 24&&(Nat.beq k 4&&(Nat.beq b 56&&Nat.beq z.length 4)) | _=>false)=true:=by kernel_rfl
 split at h
 ·rename_i l j i g e k b z m;simp only[wd]at h;obtain⟨f,d,c,a⟩:=h;have f:=wk f;have d:=wk d;have c:=wk c;have a:=wk a;subst f;subst d;subst c;exact⟨l,j,i,g,z,m,a⟩
 ·cases h⟩
theorem qEz{F:Val RD->Option qje}{k:Nat}{b:Val RD}{r:(Val RD × Unit) × (T × Unit)}(h:qn0 F k b=some r):∃ a nk nm sk lf,F b=some ((a,()),((nk,nm,sk,[],lf,()),()))/\qjb F k [(T.mk nk nm sk [],lf)] a=some r:=by
 unfold qn0 at h;cases c:qd4 F b with
 | none=>rw[c]at h;cases h
 | some x =>
   obtain⟨a,nk,nm,sk,lf⟩:=x;rw[c]at h;exact⟨a,nk,nm,sk,lf,qrq c,h⟩
def qH0(a:Gh)(w0:World)(b:Val RD)(t:T)(e:Ending)(w':World):Prop:=∃(us:List Value) (Γ : Gh) (σ : St),e = .returned (.agg us.toArray)/\RS a w0 b Γ σ w'/\RepL Γ (qf .term t) us/\∀ u∈us,u.oneCell'=true
theorem qIY:(Tryz.prog.info? 122).map (λ i=>(i.zero,i.size,i.bytes))=some (some (.agg #[.int .i64 0,.string ⟨#[]⟩,.int .i64 0,.slice none 0 0,.int .i64 0]),5,64):=by kernel_rfl
set_option maxHeartbeats 4000000 in
set_option maxRecDepth 1000000 in
theorem qFy{F:Val RD->Option qje}(hF:qV Tryz.prog 87 (sgP (qnE F))){k:Nat}{Γ0:Gh}{σ0:St}{w0:World}{rd rd':Val RD}{t:T}(h0:Inv Γ0 σ0 w0)(hb : σ0.bx=[qf RD rd])(hr : σ0.rw=[])(hf:qn0 F k rd=some ((rd',()),(t,()))) :
  Calls Tryz.prog 63 #[.pointer (some ⟨Γ0.β 0,0,none⟩)] w0 (qH0 Γ0 w0 rd' t):=by
 have HF:=Lib.hid hF;have hS:RS Γ0 w0 rd Γ0 σ0 w0:=⟨.refl _ _,h0,hb⟩
 have HS:=Lib.hid hS;have HR:=Lib.hid hr;have HQ:=Lib.hid hf;clear hF hS hr hf h0 hb;generalize hβ : Γ0.β 0 = β;have Hβ := Lib.hid hβ;clear hβ
 go_enter Tryz.func63,Tryz.ntmps63
 obtain⟨rd1,nk,nm,sk,lf,hf1,hl1⟩:=qEz HQ.out
 have hc1:∀ o:Obj,Calls Tryz.prog 87 #[.pointer (some ⟨β,0,none⟩)] (w0.alloc o) λ e w'=>∃ Γ' σ' ku,e = .returned (.agg #[.int .i64 nk,.string ⟨nm.toArray⟩,.int .i64 sk,ku,.int .i64 lf])/\Ext Γ0 (w0.alloc o) Γ' w'/\RS Γ0 w0 rd1 Γ' σ' w' /\ σ'.rw = σ0.rw++[⟨4,[],0,0,false⟩]/\Rep Γ' (.rs σ0.rw.length 0 0 0 false) ku := λ o=>by
  rw[<- Hβ.out];exact quw HF.out hf1 (HS.out.alloc o)
 have HC1:=Lib.hid hc1;have HL1:=Lib.hid hl1;clear hc1 hl1 hf1
 go_wp2_with (go_at_call 87;refine(HC1.out _).mono ?_;rintro e w1 ⟨Γ1,σ1,ku,rfl,hx1,hS1,hrw1,hku1⟩)
 have hR1 : σ1.rw[σ0.rw.length]?=some ⟨4,[],0,0,false⟩:=by rw[hrw1];simp
 have hsz1:w0.heap.size+1<=w1.heap.size:=by have:=hx1.size;simpa using this
 have hres0:qcr Γ0 (w0.alloc (Obj.cells #[.int .i64 0,.string ⟨#[]⟩,.int .i64 0,.slice none 0 0] 24)) w0.heap.size 24 :=
  ⟨qdO.new HS.out.i (wa _),by simp,heap_alloc_new w0 _⟩
 have hres1:=hres0.ext hx1;obtain⟨hS2,hK2⟩:=qKp (N:=122) (B:=w0.heap.size) hS1 (by omega) (nk:=nk) (sk:=sk) (nm:=nm) (lf:=lf) hR1 hku1;have hres2:qcr Γ1 (w1.alloc (Obj.cells #[.int .i64 nk,.string ⟨nm.toArray⟩,.int .i64 sk,ku,.int .i64 lf] 122)) w0.heap.size 24:=hres1.same (by simp) (Below.heap_alloc _ _ _ hres1.2.1);have hbet:∀{Γ : Gh},Le Γ0 Γ -> Γ.β 0 = β := λ h=>(h.β 0 (by rw[HS.out.i.nb,HS.out.bx];exact wak)).trans Hβ.out;have HBET:Hid (∀{Γ : Gh},Le Γ0 Γ -> Γ.β 0 = β):=@hbet;have HS2:=Lib.hid hS2;have HK2:=Lib.hid hK2;have HRES2:=Lib.hid hres2;have HSZ1:=Lib.hid hsz1;clear hR1 hres0 hres1 hS2 hK2 hres2 hx1 hS1 hrw1 hku1 hbet hsz1 HC1
 go_loopg [3] k (λ g1 v3 wr=>∃(st:List (T × Int)) (ids:List Nat) (g cap:Nat) (cs:List Value) (Γ : Gh) (σ : St) (rdx:Val RD),v3 = .slice (some ⟨g,0,none⟩) (st.length:Nat) cap/\Hid (RS Γ0 w0 rdx Γ σ wr)/\Hid (Stk w0.heap.size 122 Γ σ wr st ids g cap cs)/\Hid (qcr Γ wr w0.heap.size 24/\w0.heap.size≠g)/\Hid (qjb F g1 st rdx=some ((rd',()),(t,()))))
 case atStart=>exact⟨_,_,_,_,_,_,_,_,rfl,HS2.out,HK2.out,⟨HRES2.out,by have:=HSZ1.out;omega⟩,HL1.out⟩
 case round =>
  obtain⟨st,ids,g,cap,cs,Γ,σ,rdx,rfl,HSr,HKr,HRr,HLr⟩:=hrel;clear HS2 HK2 HRES2 HL1 HSZ1
  obtain⟨m,hm⟩:∃ m,gk=m+1:=by
   cases gk with
   | zero=>exact absurd HLr.out (by intro h;cases h)
   | succ m=>exact⟨m,rfl⟩
  have HLm:Hid (qjb F (m+1) st rdx=some ((rd',()),(t,()))):=by rw[<- hm];exact HLr
  clear HLr;obtain⟨hw0,hw1,hw2⟩:=HSr.out.box;rw[HBET.out HSr.out.x.le]at hw0 hw1 hw2;clear hw0 hw1;rcases qEg (show qlT F (qjb F m) st rdx=some ((rd',()),(t,()))from HLm.out)with⟨hw,he⟩ | ⟨hw,p,top,lt,hlen,hp,hcase⟩
  ·rw[hw]at hw2;cases he;obtain⟨r0,r1,r2,r3,rf⟩:=HRr.out.1.cells;have RF:=Lib.hid rf;have f0:=rf 0;have f1:=rf 1;have f2:=rf 2;have f3:=rf 3;clear rf
   go_wp2_with fail
   obtain⟨w9,hw9,⟨b0,b1,b2,b3⟩,_⟩:=qwt wr w0.heap.size _ _ _ _ (.int .i64 0) (.string ⟨#[]⟩) (.int .i64 0) (.slice none 0 0) ⟨r0,r1,r2,r3⟩;have hS9:=HSr.out.put4 HRr.out.1.1 (wa _) (.int .i64 0) (.string ⟨#[]⟩) (.int .i64 0) (.slice none 0 0);rw[hw9]at hS9 |-
   refine bodyPost_ret (v := .agg #[.int .i64 0,.string ⟨#[]⟩,.int .i64 0,.slice none 0 0]) (by simp[results,Tryz.results63,go_sem,b0,b1,b2,b3]) rfl ?_;exact⟨_,Γ,σ,rfl,hS9,qgv (t := .mk 0 [] 0 []) qAP,qnZ rfl⟩
  ·rw[hw]at hw2;obtain⟨r,hr,NC⟩:=HKr.out.at hp;have hcap:=qKh HKr.out.own;have hpm:p+1<=maxLen:=by omega
   unfold maxLen at hpm;have hwp:IntKind.i64.wrap (((p+1:Nat):Int)-1)=(p:Int):=by rw[IntKind.wrap_i64];omega
   obtain⟨Rp,kp,z1,z2,z3,z4,z5,z6,a0,a1,a2,a3,a4⟩:=NC;obtain⟨c4,f4⟩:=HKr.out.cell a4;have hz:(p:Int)<((p+1:Nat):Int):=by omega
   rcases hcase with⟨hlt,hroom,rd1,nk1,nm1,sk1,lf1,hf1,hih⟩ | ⟨hlt,hend⟩
   ·clear z1 z2 z3 z4 z5 z6 a0 a1 a2 a3;rw[hlen]
    go_upto_region 6 with(fail)
    have hwr:iw .i64 (zO lt 1)=wrap64 (lt-1):=by show IntKind.i64.wrap (lt-1)=_;rw[IntKind.wrap_i64];unfold wrap64;rfl
    rw[hwr]at hih;have hS2:=HSr.out.set HKr.out.priv (qb9 HKr.out.own).1 (p*5+4) (.int .i64 (wrap64 (lt-1)));have hK2:=HKr.out.left hp (wrap64 (lt-1));have hR2:qcr Γ (wr.setCell ⟨g,p*5+4,none⟩ (.int .i64 (wrap64 (lt-1)))) w0.heap.size 24:=HRr.out.1.same (by simp) (Below.heap_setCell _ _ _ _ HRr.out.2);have hc:=quw HF.out hf1 hS2;rw[HBET.out HSr.out.x.le]at hc;generalize wr.setCell ⟨g,p*5+4,none⟩ (.int .i64 (wrap64 (lt-1)))=w2 at *;have HC:=Lib.hid hc;have HK2:=Lib.hid hK2;have HR2:=Lib.hid hR2;have HIH:=Lib.hid hih;have HRM:=Lib.hid hroom;have HLEN:=Lib.hid hlen;have HNG:=Lib.hid HRr.out.2;clear hc hK2 hR2 hih hroom hS2 HSr HKr HRr hlen hcap hwp hz c4 f4 a4 hr hp hf1 hw2 hwr;obtain⟨i0,hi,hz0,hz1,hz2⟩:=info_parts qIY
    go_wp2_with (first
     | (go_at_call 87;refine HC.out.mono ?_;rintro e w3 ⟨Γ3,σ3,ku3,rfl,hx3,hS3,hrw3,hku3⟩
        have hK3:=HK2.out.later hx3 (σ' := σ3) (λ r _ R h=>by rw[hrw3,List.getElem?_append_left (getElem?_lt h)];exact h);have hR3:=HR2.out.ext hx3;have hnid : σ.rw.length ∉ ids:=HK2.out.id_lt;have hlen2:(st.set p (top,wrap64 (lt-1))).length=p+1:=by rw[wI];exact HLEN.out
        obtain⟨v4,w4,hrun4,g4,cap4,hv4,hS4,hK4,hsz4,hbl4,hg4⟩:=qGY Tryz.underlying124 hi hz0 hz1 hz2 rfl hS3 hK3 (wa _) (nk:=nk1) (nm:=nm1) (sk:=sk1) (lf:=lf1) (r := σ.rw.length) (by rw[hrw3];simp) hku3 hnid (by rw[hlen2];exact HRM.out) 124;have hR4:qcr Γ3 w4 w0.heap.size 24:=hR3.same hsz4 (hbl4 _ hR3.2.1 HNG.out);have hng4:w0.heap.size≠g4:=by rcases hg4 with rfl | h;exact HNG.out;have:=hR3.2.1;omega
        rw[hlen2]at hrun4 hv4;subst hv4;have HS4:=Lib.hid hS4;have HK4:=Lib.hid hK4;have HR4:=Lib.hid hR4;have HNG4:=Lib.hid hng4;have HRUN:=Lib.hid hrun4;clear hx3 hS3 hrw3 hku3 hK3 hR3 hnid hlen2 hrun4 hS4 hK4 hsz4 hbl4 hg4 hR4 hng4)
     | (at_builtin;refine qv9 _ _ _ rfl rfl rfl rfl HRUN.out ?_))
    go_roundg m
    case measure=>omega
    case rel=>exact⟨_,_,g4,cap4,_,Γ3,σ3,rd1,by rw[wc,wI,HLEN.out];rfl,HS4.out,HK4.out,⟨HR4.out,HNG4.out⟩,HIH.out⟩
   ·obtain⟨c0,f0⟩:=HKr.out.cell a0;obtain⟨c1,f1⟩:=HKr.out.cell a1;obtain⟨c2,f2⟩:=HKr.out.cell a2;obtain⟨c3,f3⟩:=HKr.out.cell a3;have hgl:=(qb9 HKr.out.own).2;have hbl:w0.heap.size<wr.heap.size:=HRr.out.1.2.1;have NC:qhU Γ σ cs p top lt r:=⟨Rp,kp,z1,z2,z3,z4,z5,z6,a0,a1,a2,a3,a4⟩
    have hk1:=z6.one rfl;obtain⟨pa,kn,kc,rfl⟩:∃ pa kn kc,kp = .slice pa kn kc:=by cases z6;exact⟨_,_,_,rfl⟩
    clear z1 z2 z3 z4 z5 z6 a0 a1 a2 f0 f1 f2 f3 f4;rcases hend with⟨rfl,he⟩ | ⟨q,par,n,rfl,hq,hroom,hih⟩
    ·cases he;rw[hlen];have hR5:∀ o:Obj,qcr Γ (wr.alloc o) w0.heap.size 24 := λ o=>HRr.out.1.same (by simp) (Below.heap_alloc _ _ _ hbl);obtain⟨r0,r1,r2,r3,rf⟩:=HRr.out.1.cells;have f0:=rf 0;have f1:=rf 1;have f2:=rf 2;have f3:=rf 3;clear rf;have HNC:=Lib.hid NC;have HR5:=Lib.hid hR5;have HLT:=Lib.hid hlt;have HK1:=Lib.hid hk1;clear NC hR5 hk1
     go_wp2_with fail
     obtain⟨w9,hw9,⟨b0,b1,b2,b3⟩,_,hsz9,_⟩:=qwt wr w0.heap.size _ _ _ _ (.int .i64 t.kind) (.string ⟨t.name.toArray⟩) (.int .i64 t.sort) (.slice pa kn kc) ⟨r0,r1,r2,r3⟩;have hS9:=HSr.out.put4 HRr.out.1.1 (wa _) (.int .i64 t.kind) (.string ⟨t.name.toArray⟩) (.int .i64 t.sort) (.slice pa kn kc);rw[hw9]at hS9 |-
     have hl9:w0.heap.size<w9.heap.size:=by rw[hsz9];exact hbl
     refine bodyPost_ret (v := .agg #[.int .i64 t.kind,.string ⟨t.name.toArray⟩,.int .i64 t.sort,.slice pa kn kc]) (by simp[results,Tryz.results63,go_sem,b0,b1,b2,b3,hl9]) rfl ?_;have hS10:=hS9.alloc (.cells #[.int .i64 t.kind,.string ⟨t.name.toArray⟩,.int .i64 t.sort,.slice pa kn kc] 24);obtain⟨Γ1,σ9,kx,y1,y2,y3,y4,y5,y6,y7⟩:=qAn hS10.i HNC.out;obtain⟨_,kx',_,_,_,_,_,_,_,_,_,y8,_⟩:=HNC.out;have hcs:cs[0*5+3]?=some (.slice pa kn kc):=a3;rw[hcs]at y5;cases y5;exact⟨[.int .i64 t.kind,.string ⟨t.name.toArray⟩,.int .i64 t.sort,.slice pa kn kc],Γ1,σ9,rfl,⟨hS10.x.trans y3,y4,y1.trans hS10.bx⟩,qgv y6,qnZ rfl⟩
    ·rw[hlen];have HNC:=Lib.hid NC;have HK1:=Lib.hid hk1;have HIH:=Lib.hid hih;have HRM:=Lib.hid hroom;have HQ2:=Lib.hid hq;have HP:=Lib.hid hp;have hqm:q+1+1<=2 ^ 63-1:=hpm;have hz2:¬ ((q:Int)+1=0):=by omega
     clear NC hk1 hih hroom hq HQ
     go_upto_region 11 with(fail)
     obtain⟨w5,hw5,hb5,hs5,hbx5⟩:=qMG wr (.int .i64 top.kind) (.string ⟨top.name.toArray⟩) (.int .i64 top.sort) (.slice pa kn kc) 24;have hS5:=HSr.out.alloc (.cells #[.int .i64 top.kind,.string ⟨top.name.toArray⟩,.int .i64 top.sort,.slice pa kn kc] 24);have hK5:=HKr.out.grown (World.grownBy_alloc wr (.cells #[.int .i64 top.kind,.string ⟨top.name.toArray⟩,.int .i64 top.sort,.slice pa kn kc] 24) none) (λ e=>by cases e);have hR5:qcr Γ (wr.alloc (.cells #[.int .i64 top.kind,.string ⟨top.name.toArray⟩,.int .i64 top.sort,.slice pa kn kc] 24)) w0.heap.size 24:=HRr.out.1.same (by simp) (Below.heap_alloc _ _ _ hbl);rw[hw5]at hS5 hK5 hR5 |-
     have g5:=hbx5 _ (Below.refl _ _);have HS5:=Lib.hid hS5;have HK5:=Lib.hid hK5;have HR5:=Lib.hid hR5;have G5:=Lib.hid g5;have HNG:=Lib.hid HRr.out.2;have HA3:=Lib.hid a3;have HSZ5:=Lib.hid hs5;clear hbx5 hw5 hb5 hS5 hK5 hR5 g5 HSr HKr HRr c0 c1 c2 c3 c4 a4 a3 hw2 hgl hbl hs5 hlen hp hcap hwp hr
     have key:∀ bv:Value,RS Γ0 w0 rdx Γ σ (w5.alloc (.cells #[bv] 4)).drew/\Stk w0.heap.size 122 Γ σ (w5.alloc (.cells #[bv] 4)).drew st ids g cap cs/\qcr Γ (w5.alloc (.cells #[bv] 4)).drew w0.heap.size 24/\Box (w5.alloc (.cells #[bv] 4)).drew wr.heap.size (.int .i64 top.kind) (.string ⟨top.name.toArray⟩) (.int .i64 top.sort) (.slice pa kn kc) := λ bv =>
      ⟨(HS5.out.alloc _).drew',(HK5.out.grown (World.grownBy_alloc w5 (.cells #[bv] 4) none) (λ e=>by cases e)).drew,(HR5.out.same (by simp) (Below.heap_alloc _ _ _ HR5.out.2.1)).drew,G5.out.same (Below.heap_alloc _ _ _ (by have:=HSZ5.out;omega))⟩
     have KEY:=Lib.hid key;clear key
     go_region
     ·obtain⟨w6,hw6⟩:∃ w6,(w5.alloc (.cells #[.bool false] 4)).drew=w6:=⟨_,rfl⟩
      obtain⟨k1,k2,k3,k4⟩:=KEY.out (.bool false);rw[hw6]at k1 k2 k3 k4 |-
      have HS6:=Lib.hid k1;have HK6:=Lib.hid k2;have HR6:=Lib.hid k3;have G6:=Lib.hid k4;clear KEY hw6 k1 k2 k3 k4 HS5 HK5 HR5 G5 HSZ5
      go_upto_region 14 with(fail)
      obtain⟨Γ7,σ7,kx,b4,hS7,hK7,hx7,hx6⟩:=qCL HS6.out.drew' HK6.out.drew HP.out;rw[HA3.out]at b4;cases b4;have hql:q<st.length:=getElem?_lt HQ2.out;obtain⟨kq,rq,b0,_,_,v8,w8,hrun,⟨pa8,kc8,hv8⟩,Γ8,σ8,hx8,hS8,hK8⟩:=qDo qCm hS7 hK7 (wa _) (q:=q) (t:=par) (n:=n) (by rw[List.getElem?_take,if_pos (by omega)];exact HQ2.out) hx7 HRM.out 24 22;rw[xJ,kN (by omega)]at hK8;subst hv8;obtain⟨c6,f6⟩:=hK7.cell b0;obtain⟨c0,c1,c2,c3⟩:=G6.out;have c7:∀ o:Obj,(w6.alloc o).cell? ⟨g,q*5+3,none⟩=some kq := λ o=>(World.cell?_alloc_lt _ _ _ (by show g<_;exact(qb9 HK6.out.own).2)).trans c6;have hbk:=(hK7.priv.ext hx8 (by exact(qb9 HK6.out.own).2)).2;have c8:w8.cell? ⟨g,q*5+3,none⟩=some kq:=(World.cell?_of_block (w:=w6) (a:=⟨g,q*5+3,none⟩) hbk).trans c6;have f8:w8.frozen? ⟨g,q*5+3,none⟩=false:=(World.frozen?_of_block (w:=w6) (a:=⟨g,q*5+3,none⟩) hbk).trans f6;have HR8:=Lib.hid ((HR6.out.drew.ext hx6).ext hx8);have HS8:=Lib.hid hS8;have HK8:=Lib.hid hK8;have hrun:(Builtin.append_ #[22,22] 22 #[kq,.slice (some ⟨w6.heap.size,0,none⟩) 1 1]).run Tryz.prog (w6.alloc (.cells #[.int .i64 top.kind,.string ⟨top.name.toArray⟩,.int .i64 top.sort,.slice pa kn kc] 24)).drew = .ok (.slice pa8 (par.kids.length+1) kc8) w8:=hrun;have HRUN:=Lib.hid hrun;have hl9:(st.take q++[(T.mk par.kind par.name par.sort (par.kids++[top]),n)]).length=q+1:=by rw[wc,wo];simp;omega
      have HL9:=Lib.hid hl9;clear hx8 hS8 hK8 hrun b0 hbk HS6 HK6 HR6 G6 hS7 hK7 hx7 hx6 hl9 hql;have hwq:IntKind.i64.wrap (q:Int)=(q:Int):=by rw[IntKind.wrap_i64];omega
      have hqz:(q:Int)<(q:Int)+1:=by omega
      go_region_law (first | (refine qm4 rfl _ _ _ rfl rfl rfl HRUN.out ?_))
      all_goals
       go_wp2_with fail
       go_roundg m
       case measure=>omega
       case rel=>exact⟨_,_,g,cap,_,Γ8,σ8,rdx,by rw[HL9.out],HS8.out,HK8.out,⟨HR8.out.same (by simp) (Below.heap_setCell _ _ _ _ HNG.out),HNG.out⟩,HIH.out⟩
     ·obtain⟨w6,hw6⟩:∃ w6,(w5.alloc (.cells #[.bool true] 4)).drew=w6:=⟨_,rfl⟩
      obtain⟨k1,k2,k3,k4⟩:=KEY.out (.bool true);rw[hw6]at k1 k2 k3 k4 |-
      have HS6:=Lib.hid k1;have HK6:=Lib.hid k2;have HR6:=Lib.hid k3;have G6:=Lib.hid k4;clear KEY hw6 k1 k2 k3 k4 HS5 HK5 HR5 G5 HSZ5
      go_upto_region 12 with(fail)
      obtain⟨Γ7,σ7,kx,b4,hS7,hK7,hx7,hx6⟩:=qCL HS6.out.drew' HK6.out.drew HP.out;rw[HA3.out]at b4;cases b4;have hql:q<st.length:=getElem?_lt HQ2.out;obtain⟨kq,rq,b0,_,⟨pa7,kc7,rfl⟩,v8,w8,hrun,⟨pa8,kc8,hv8⟩,Γ8,σ8,hx8,hS8,hK8⟩:=qDo qCm hS7 hK7 (wa _) (q:=q) (t:=par) (n:=n) (x := .mk 0 [] 0 []) (by rw[List.getElem?_take,if_pos (by omega)];exact HQ2.out) qAP HRM.out 24 22;rw[xJ,kN (by omega)]at hK8;subst hv8;obtain⟨c6,f6⟩:=hK7.cell b0;obtain⟨c0,c1,c2,c3⟩:=G6.out;have c7:∀ o:Obj,(w6.alloc o).cell? ⟨g,q*5+3,none⟩=some (.slice pa7 par.kids.length kc7) := λ o=>(World.cell?_alloc_lt _ _ _ (by show g<_;exact(qb9 HK6.out.own).2)).trans c6;have hwl:wr.heap.size<w6.heap.size:=qqX c0;have hbk:=(hK7.priv.ext hx8 (by exact(qb9 HK6.out.own).2)).2;have c8:w8.cell? ⟨g,q*5+3,none⟩=some (.slice pa7 par.kids.length kc7):=(World.cell?_of_block (w:=w6) (a:=⟨g,q*5+3,none⟩) hbk).trans c6;have f8:w8.frozen? ⟨g,q*5+3,none⟩=false:=(World.frozen?_of_block (w:=w6) (a:=⟨g,q*5+3,none⟩) hbk).trans f6;have hR8:qcr Γ8 (w8.setCell ⟨g,q*5+3,none⟩ (.slice pa8 (par.kids.length+1) kc8)) w0.heap.size 24:=((HR6.out.drew.ext hx6).ext hx8).same (by simp) (Below.heap_setCell _ _ _ _ HNG.out);have hl9:(st.take q).length=q:=by rw[wo];omega
      obtain⟨b,kc9,y1,y2,y3,y4,y5,Γ9,σ9,hx9,hS9,hK9⟩:=qKe hS8 hK8 (q:=q) (ks:=par.kids) (z := .mk 0 [] 0 []) (x:=top) (n:=n) (by rw[List.getElem?_append_right (by omega),hl9,kK];rfl) rfl (hx7.mono hx8.le)
      have y6:pa8=some ⟨b,0,none⟩/\kc8=kc9:=by
       rw[List.getElem?_take,if_pos (by omega),List.getElem?_set_self (by rw[hK7.own.1,wo];omega)]at y1;cases y1;exact⟨rfl,rfl⟩
      obtain⟨rfl,rfl⟩:=y6;obtain⟨u0,d0⟩:=y4 0 (by decide);obtain⟨u1,d1⟩:=y4 1 (by decide);obtain⟨u2,d2⟩:=y4 2 (by decide);obtain⟨u3,d3⟩:=y4 3 (by decide);have g0:=y5 (par.kids.length*4);have g1:=y5 (par.kids.length*4+1);have g2:=y5 (par.kids.length*4+2);have g3:=y5 (par.kids.length*4+3);have hres:b≠w0.heap.size := λ e=>hR8.1.own (e▸y3);have hR9:=(hR8.ext hx9)
      have hrun:(Builtin.append_ #[22,22] 22 #[.slice pa7 par.kids.length kc7,.slice (some ⟨w6.heap.size,0,none⟩) 1 1]).run Tryz.prog (w6.alloc (.cells #[.int .i64 0,.string ⟨#[]⟩,.int .i64 0,.slice none 0 0] 24)).drew = .ok (.slice (some ⟨b,0,none⟩) (par.kids.length+1) kc8) w8:=hrun;obtain⟨w9,hw9⟩:∃ w9,w8.setCell ⟨g,q*5+3,none⟩ (.slice (some ⟨b,0,none⟩) (par.kids.length+1) kc8)=w9:=⟨_,rfl⟩
      rw[hw9]at hS9 hK9 hR9 d0 d1 d2 d3 g0 g1 g2 g3;rw[wP]at d0
      have hl10:((st.take q++[(T.mk par.kind par.name par.sort (par.kids++[T.mk 0 [] 0 []]),n)]).set q (T.mk par.kind par.name par.sort (par.kids++[top]),n))=st.take q++[(T.mk par.kind par.name par.sort (par.kids++[top]),n)]:=by
       rw[xZ _ _ (by omega),hl9,kK];rfl
      have hK9:Stk w0.heap.size 122 Γ9 σ9 _ ((st.take q++[(T.mk par.kind par.name par.sort (par.kids++[T.mk 0 [] 0 []]),n)]).set q (T.mk par.kind par.name par.sort (par.kids++[top]),n)) _ g cap _:=hK9;rw[hl10]at hK9;have hl11:(st.take q++[(T.mk par.kind par.name par.sort (par.kids++[top]),n)]).length=q+1:=by rw[wc,hl9];rfl
      have HL11:=Lib.hid hl11;have HS9:=Lib.hid hS9;have HK9:=Lib.hid hK9;have HR9:=Lib.hid hR9;have HRUN:=Lib.hid hrun;have HW9:=Lib.hid hw9;have hwq:IntKind.i64.wrap (q:Int)=(q:Int):=by rw[IntKind.wrap_i64];omega
      have hqz:(q:Int)<(q:Int)+1:=by omega
      have hnz:(par.kids.length:Int)<(par.kids.length:Int)+1:=by omega
      clear hx8 hS8 hK8 hrun b0 hbk HS6 HK6 HR6 G6 hS7 hK7 hx7 hx6 hl9 hql hR8 hx9 hS9 hK9 hR9 hw9 hl10 hl11 y1 y2 y3 y4 y5 hres
      go_region_law (first | (refine qm4 rfl _ _ _ rfl rfl rfl HRUN.out ?_))
      all_goals
       rw[HW9.out]
       go_wp2_with fail
       go_roundg m
       case measure=>omega
       case rel=>exact⟨_,_,g,cap,_,Γ9,σ9,rdx,by rw[HL11.out],HS9.out,HK9.out,⟨HR9.out,HNG.out⟩,HIH.out⟩
end Go.Proofs.YtckmkimhkhilgaaGreat
namespace Go.AmZ
open Go Go.RowKit Go.GxZ
theorem qG7{ds:List AV}{e:Val RD}(h:yd RD (ds.take (Ty.size RD))=some e)(j:ds.drop (Ty.size RD)=[]):ds=qf RD e:=by
 have k:ds.take (Ty.size RD)=ds:=kE (List.drop_eq_nil_iff.1 j);rw[k]at h;have h:=zY.1 h;obtain⟨s,f,w⟩:=e;change qop (QH .str) (qop (QH (.int .i64)) (QH .bool)) ds=_ at h;unfold qop at h;split at h<;>try cases h
 rename_i x r c;split at h<;>cases h;rename_i y d;split at d<;>try cases d
 rename_i l g a;split at d<;>cases d;rename_i b;have c:qfO ds=some (s,r):=c;have a:qaA .i64 r=some (f,g):=a;have b:qg0 g=some (w,[]):=b;unfold qfO at c;split at c<;>cases c;unfold qaA at a;split at a<;>try cases a
 rename_i i;split at a<;>cases a;have i:=of_decide_eq_true (by assumption);subst i;unfold qg0 at b;split at b<;>cases b;rfl
theorem qJC{σ : St}{ys:List AV}{a:Qs [.box [.val RD]]}(h:dS σ [.box [.val RD]] 0 0 ys=some a):ys=[.ptr 0 0] /\ σ.bx=[qf RD a.1] /\ σ.rw=[]:=by
 cases ys with
 | nil=>simp[dS]at h
 | cons y ys =>
   simp only[dS]at h;cases c:qih σ [.val RD] 0 0 y with
   | none=>rw[c]at h;cases h
   | some p =>
     obtain⟨v,n⟩:=p;rw[c]at h;simp only at h;unfold qih at c;split at c<;>try cases c
     split at c<;>try cases c
     rename_i j _ ds i f;have i:=wk i;subst i;simp only[qe5]at c;split at c<;>try cases c
     rename_i x l;split at c<;>cases c;rename_i d
     have k:ds.drop (Ty.size RD)=[]/\n=0:=by
      cases g:ds.drop (Ty.size RD)with
      | nil=>rw[g]at d;simp[qe5]at d;exact⟨rfl,d.symm⟩
      | cons z q=>rw[g]at d;simp[qe5]at d
     obtain⟨k,rfl⟩:=k;split at h<;>cases h;rename_i hdS;obtain⟨rfl,o,m⟩:=qkI hdS;have e:=qG7 l k;obtain⟨b,c⟩:=xR.1 o.symm;refine⟨rfl,?_,wj m.symm⟩;rw[c]at f |-
     cases f;rw[e];rfl
end Go.AmZ
namespace Go.Proofs.YtckmkimhkhilgaaGreat
open Go Go.RowKit Go.GxZ Go.AmZ Go.Lib
theorem hand_read{F:Val RD->Option qje}(q:qV Tryz.prog 87 (sgP (qnE F)))(k:Nat):qV Tryz.prog 63 (sgP ⟨[.box [.val RD]],[.one (.val .term)],λ x=>qn0 F k x.1⟩):=by
 refine⟨J0 Tryz.func63 (by kernel_rfl),λ Γ σ w l h r i g a=>?_⟩;obtain⟨B,b,y,m⟩ := σ;unfold sgP at a;split at a<;>try cases a
 rename_i x p;obtain⟨z,_⟩:=x;obtain⟨rfl,j,c⟩:=qJC p;have c:b=[]:=c;subst c;split at a<;>cases a;rename_i n d;obtain⟨⟨o,_⟩,t,_⟩:=n;obtain⟨u0,A,rfl,f,g⟩:=g.uncons;have:=g.nil_inv;subst this;cases f;refine(qFy q i j rfl d).mono ?_;rintro e w' ⟨us,Γ',σ',rfl,v,u,s⟩;exact qF6 i (by rw[j];rfl) rfl v u s
end Go.Proofs.YtckmkimhkhilgaaGreat
namespace Go.AmZ
open Go Go.GxZ
set_option linter.unusedVariables false
set_option maxRecDepth 100000
open Go.Proofs.Tryz (func3 func10 func11 func12 func13 func14 func15 func16 func17 func18 func19 func28 func31 func32 func33 func34 func35 func36 func37 func38 func39 func40 func41 func42 func52 func53 func54 func55 func56 func57 func58 func59 func60 func61 func62 func64 func65 func66 func68 func69 func70 func71 func72 func73 func74 func75 func76 func77 func78 func79 func80 func81 func82 func83 func84 func85 func86 func87 func88 func91 func92 func93 func94 func95 func97 func98 func99 func100 func101 func102 func103 func104 func105 func106 func109 func110 func111 func112 func113 func114 func115 func116 func117 func120 func121 func122 func123 func124 func125 func126 func127 func128 func129 func132 func133 func134 func135 func136 func137 func138 func139 func140 func141 func142 func143 func145 func146 func147 func148 func149 func150 func151 func152 func153 func154 func165 func166 func167 func170 func171 func173 func174 func175 func176 func177 func178 func179 func185 func186 func189 func190 func191 func192 func196)
theorem qjl(m:Nat)(h:yo Go.Proofs.Tryz.prog (tb.at m).pc.cfg):qV Go.Proofs.Tryz.prog 63 (sgP ⟨[.box [.val RD]],[.one (.val .term)],λ x=>jo (m+1) x.1⟩):=Go.Proofs.YtckmkimhkhilgaaGreat.hand_read (F:=qv m) (h.prim 87 _ (by kernel_rfl)) m
theorem qbQ(m:Nat)(h:yo Go.Proofs.Tryz.prog (tb.at m).pc.cfg):qV Go.Proofs.Tryz.prog 107 (mgP ⟨.term,[.clo 95 0],λ x=>qY (m+1) x.1⟩):=qGq (τ := .term) Go.Proofs.Tryz.sortTrm (λ _=>rfl) Go.Proofs.Tryz.isAgg24 Go.Proofs.Tryz.sizeOf24 (qE8 (τ := .term) (ρ := y2) (qDf h (by kernel_rfl)) (F := λ x y=>qA m x y) (by kernel_rfl) (λ _=>rfl)) (J0 Go.Proofs.Tryz.func107 (by kernel_rfl)) (λ _ _ h=>h)
theorem qaU(m:Nat)(h:yo Go.Proofs.Tryz.prog (tb.at m).pc.cfg):qV Go.Proofs.Tryz.prog 108 (sgP ⟨[.row .term,.clo 109 0],[.one (.row .term)],λ x=>qG (m+1) x.1⟩):=qz2 (qE8 (τ := .term) (ρ := .bool) (qDf h (by kernel_rfl)) (F := λ x y=>yX m x y) (by kernel_rfl) (λ _=>rfl)) (λ _ _ h=>qD4 h)
theorem tb_ok:∀ m,yo Go.Proofs.Tryz.prog (tb.at m).pc.cfg:=Tb.all_ok (by kernel_rfl) qF2 (by kernel_rfl) (nP func102 qsN ⟨⟨qoo (J0 Go.Proofs.Tryz.func63 (by kernel_rfl)) λ _=>rfl,λ m h=>qjl m h⟩,(nP func36 qvC (nS func17 qiK (nS func13 qk1 (nP func11 qAL (nP func10 qvh (nP func3 qma trivial trivial) trivial) (nS func12 qu8 trivial trivial)) (nS func15 qkC (nP func14 qtp trivial trivial) (nS func16 qkY trivial trivial))) (nS func32 qkS (nS func28 qjC (nP func19 qy0 (nP func18 qx3 trivial trivial) trivial) (nP func31 qv3 trivial trivial)) (nS func34 qmc (nP func33 qpr trivial trivial) (nP func35 qAV trivial trivial)))) (nP func54 qzV (nP func41 qrI (nP func39 qAf (nS func38 qiP (nP func37 qvQ trivial trivial) trivial) (nP func40 qo4 trivial trivial)) (nP func52 qyc (nP func42 qs4 trivial trivial) (nP func53 qug trivial trivial))) (nP func59 quR (nP func57 qxW (nS func56 qrf (nP func55 qtN trivial trivial) trivial) (nP func58 qv7 trivial trivial)) (nP func61 qvt (nP func60 qu2 trivial trivial) (nP func62 qr5 trivial trivial))))),(nP func82 qx5 (nP func73 qmQ (nP func69 qtz (nP func66 qxw (nP func65 qtn (nP func64 qxO trivial trivial) trivial) (nP func68 qwk trivial trivial)) (nP func71 qsz (nP func70 qvT trivial trivial) (nP func72 qvp trivial trivial))) (nS func78 qjR (nS func76 Jg (nP func75 qr9 (nP func74 qq7 trivial trivial) trivial) (nP func77 qoT trivial trivial)) (nP func80 qvo (nP func79 qiL trivial trivial) (nP func81 qwb trivial trivial)))) (nS func93 qtZ (nS func87 qk5 (nP func85 qxv (nP func84 qzE (nP func83 qsZ trivial trivial) trivial) (nP func86 qvm trivial trivial)) (nS func91 qoN (nS func88 qxH trivial trivial) (nS func92 qk7 trivial trivial))) (nP func98 qxE ⟨λ c hc=>qoP (m:=0) hc,(nP func95 qs9 (nP func94 qr8 trivial trivial) trivial),(nP func97 qvH trivial trivial)⟩ (nP func100 qxz (nP func99 qux trivial trivial) (nP func101 quN trivial trivial)))))⟩ (nP func141 qe6 (nP func121 qA2 (nP func111 qrd ⟨⟨qFk (J0 Go.Proofs.Tryz.func107 (by kernel_rfl)) λ _=>rfl,λ m h=>qbQ m h⟩,(nP func105 qvg (nS func104 qk3 (nS func103 qk2 trivial trivial) trivial) (nP func106 quO trivial trivial)),(nP func109 qq6 ⟨⟨qoo (J0 Go.Proofs.Tryz.func108 (by kernel_rfl)) λ _=>rfl,λ m h=>qaU m h⟩,trivial,trivial⟩ (nP func110 qxJ trivial trivial))⟩ (nP func116 qzk (nP func114 qsj (nP func113 qvb (nP func112 qEb trivial trivial) trivial) (nP func115 qtQ trivial trivial)) ⟨λ c hc=>qnp (m:=0) hc,(nP func117 qze trivial trivial),(nP func120 qyh trivial trivial)⟩)) (nP func132 qAN (nP func126 qvz (nP func124 qy3 (nP func123 qrY (nP func122 qyH trivial trivial) trivial) (nP func125 qsd trivial trivial)) (nP func128 qtr (nP func127 qyK trivial trivial) (nP func129 qwa trivial trivial))) (nS func137 qoR (nP func135 qti (nP func134 qBT (nP func133 qzj trivial trivial) trivial) (nP func136 qDu trivial trivial)) (nP func139 qq9 (nP func138 qq4 trivial trivial) (nP func140 qs0 trivial trivial))))) (nS func170 qoZ (nP func151 qxV (nP func147 qvI (nP func145 qyW (nP func143 qxI (nP func142 quW trivial trivial) trivial) (nP func146 qBH trivial trivial)) (nP func149 qxZ (nP func148 qxN trivial trivial) (nP func150 qq2 trivial trivial))) (nP func166 qqi (nP func154 qzz (nP func153 qxM (nP func152 qBJ trivial trivial) trivial) (nP func165 qtX trivial trivial)) ⟨qeu (m:=0),(nS func167 qp0 trivial trivial),⟨qe4 (m:=0),trivial,trivial⟩⟩)) (nP func185 QP (nP func176 qvF (nP func174 qwg (nP func173 quk (nP func171 qpA trivial trivial) trivial) (nS func175 qr3 trivial trivial)) (nS func178 qA8 (nP func177 qrg trivial trivial) (nP func179 qsp trivial trivial))) (nP func190 qnY ⟨qdk (m:=0),⟨qdj (m:=0),(nP func186 qor trivial trivial),trivial⟩,(nP func189 qav trivial trivial)⟩ (nP func192 qsC (nP func191 qyJ trivial trivial) (nP func196 qa6 trivial trivial)))))))
end Go.AmZ
namespace Go.GxZ
open Go.RowKit Go.ChangeShapes Go.WideShapes Go.ChangeAt
open Go.WideMaps Go.WideElems
section
variable {H:Type} {enc:TypeId × Value->H} {P:Program}
theorem qoM(f:laidOutB P=true){W i:World}(g:Below W.heap.size W i):∀{ts:List TypeId} {vs:List Value} {ds:List (DataW H)} {ps:List MemPlace},
  (∀ t∈ts,P.readableRec t=true/\t<P.types.size)->DataW.TrodAll enc P W 0 (λ _=>true) true ts vs ds ps->(∀ x∈ps,x.block<W.heap.size) ->
  DataW.TrodAll enc P i 0 (λ b=>decide (b<W.heap.size)) true ts vs ds ps
 | [],[],[],_,_,h,_=>h
 | t::ts,v::vs,d::ds,_,e,⟨p,q,m,l,k⟩,a=>by
   subst k;refine⟨p,q,?_,?_,rfl⟩
   ·exact Below.trod f (e t (wh ..)).1 (e t (wh ..)).2 m g λ x c=>a x (ve _ c)
   ·exact qoM f g (λ t j=>e t (wg _ j)) l λ x c=>a x (xU _ c)
 | [],[],_::_,_,_,h,_=>h.elim
 | [],_::_,_,_,_,h,_=>h.elim
 | _::_,[],_,_,_,h,_=>h.elim
 | _::_,_::_,[],_,_,h,_=>h.elim
theorem qIC{f:Func}{s:ChangeSpec}{b g a:Bool}{W A:World}{d:Array Value}{ds k:List (DataW H)}{c:List MemPlace}{ts:List TypeId}{T:TypeId}
  (E:laidOutB P=true) (m:f.params.toList=ts) (C:ts.all (λ t=>P.readableRec t&&decide (t<P.types.size))=true) (u:s.vars=[])
  (n:f.resultTypes = #[T]) (G:P.underlying T=some .bool)
  (y:DataW.Whole enc P f.params.toList s.vars b W d.toList ds k c)
  (i:(s.fn H (ds++k)).results=[.lit (.bool true)]) (e:(s.fn H (ds++k)).args=ds) (l:(s.fn H (ds++k)).vars=[])
  (w:Below W.heap.size W A):s.post enc P f b g a false W d (.bool true) A:=by
 have j:=y;have o := λ x B=>j.lt x B;obtain⟨p,q,I,z,rfl,F,D⟩:=y;rw[u]at z;have r:k=[]/\q=[]:=trodVars_none z;obtain⟨rfl,rfl⟩:=r;rw[wA]at *;refine⟨ds,[],p,[],p,[],?_,?_,?_,?_,?_,λ h=>by cases h⟩
 ·exact j
 ·rw[n,wA,i];exact trodAll_mk1 (shut_bool G _)
 ·rw[wA,e];refine qoM E w (ts:=f.params.toList) ?_ I o;intro t v;rw[m]at v;have:=wv.1 C t v;simpa using this
 ·rw[wA,l,u];rfl
 ·exact w.frame _
end
end Go.GxZ
namespace Go.Proofs.YtckmkimhkhilgaaGreat
theorem Tryz.own:ownKnob Tryz.prog.godebug=none:=by kernel_rfl
theorem Tryz.laidOut:laidOutB Tryz.prog=true:=by kernel_rfl
end Go.Proofs.YtckmkimhkhilgaaGreat
namespace Go.AmZ
open Go Go.GxZ Go.RowKit
theorem qwD:∀(τ : Ty) (v:Val τ),QG τ (yG τ v)=some v:=by
 intro τ v;have h:=j9 τ v;cases τ <;> exact h
def qAF:List ATy->Bool
 | []=>true
 | .val _::r=>qAF r
 | .fn::_=>false
theorem qpb:∀(ts:List ATy) (a:qbd ts),qAF ts=true->qdc ts (Qg ts a [])=some a/\qeY (Qg ts a [])=[]
 | [],_,_=>⟨rfl,rfl⟩
 | .val τ :: r,a,h=>by
   obtain⟨d,c⟩:=qpb r a.2 h;constructor
   ·show qmu (QG τ) (qdc r) (yG τ a.1::Qg r a.2 [])=_;simp only[qmu,qwD,d]
   ·show qeY (yG τ a.1::Qg r a.2 [])=[];have:=(qck (qwD τ a.1)).2;cases b:yG τ a.1<;>first | exact c | exact absurd b (this _ _)
 | .fn::_,_,h=>by cases h
theorem law_calls{P:Program}{f:FuncId}{c:TC}(o:qV P f (Jj (jr c f))){ts:List ATy}{fn:qbd ts->Option (qeb [.bool])}(q:c.pf f []=some ⟨ts,[.bool],fn⟩)(m:qAF ts=true){a:qbd ts}(h:fn a=some true)
  {W:World} {d:List Value} (k:RepL (ghW W) (Qg ts a []) d):Calls P f d.toArray W λ e w'=>e = .returned (.bool true)/\Below W.heap.size W w':=by
 obtain⟨u,t⟩:=qpb ts a m
 have n:jr c f (Qg ts a [])=some (.v (.bool true)):=by
  unfold jr;rw[t,q];simp only;rw[u];simp only;rw[h];rfl
 have l:Jj (jr c f) emp (Qg ts a [])=some (.v (.bool true),none):=by
  show(match jr c f (Qg ts a [])with | some v=>some (v,none) | none=>none)=_;rw[n]
 have:=o.2 (ghW W) emp W (Qg ts a []) d _ (qJK W) k l;refine Calls.mono this ?_;rintro e w' ⟨v,Γ',rfl,g,_,j,_⟩;have h:=zk j;subst h;refine⟨rfl,g.os,g.tape,g.output,g.size,λ b s=>g.block b s ?_⟩;rintro(⟨i,p,_⟩ | ⟨r,k,_⟩)
 ·exact absurd p (wL _)
 ·exact absurd k (wL _)
theorem qzr{Γ : Gh}{τ : Ty}{x:Val τ}{v:Value}(h:RepL Γ (qf τ x) v.cells.toList)(l:∀ u∈v.cells.toList,u.oneCell'=true)(j : τ.agg=true -> τ.size≠1)(e : τ.agg=false->∀ cs,v ≠ .agg cs):Rep Γ (yG τ x) v:=by
 have c:=h.len;rw[jq]at c
 have agg:yG τ x = .agg (qf τ x) -> τ.agg=true->Rep Γ (yG τ x) v:=by
  intro f g;rw[f];have d:=j g;cases v with
  | agg cs=>exact .agg _ _ h.len l h.rep
  | _=>exact absurd (show τ.size=1 by rw[<- c];rfl) d
 have one:∀{y:AV},qf τ x=[y]->yG τ x=y -> τ.agg=false->Rep Γ (yG τ x) v:=by
  intro y f i g
  have k:v.cells = #[v]:=by
   cases v with
   | agg cs=>exact absurd rfl (e g cs)
   | _=>rfl
  rw[f,k]at h;rw[i];exact h.rep 0 y v rfl rfl
 cases τ with
 | term=>exact agg rfl rfl
 | pair a b=>exact agg rfl rfl
 | one a=>exact agg rfl rfl
 | _=>exact one rfl rfl rfl
open Go.ChangeShapes Go.WideShapes Go.ChangeAt Go.WideMaps Go.WideElems
theorem qJA{P:Program}{n:Nat}{τ : Ty}{t:TypeId}{W:World}{zP:Nat}{v:Value}(b:tyM P n τ t=true)(d:Value.okWide P W .any zP t v) : τ.agg=false->∀ cs,v ≠ .agg cs:=by
 intro f cs;cases n with
 | zero=>cases τ <;> simp[tyM]at b
 | succ n =>
 cases τ with
 | int k =>
   simp only[tyM]at b;split at b
   ·rename_i c;obtain⟨_,rfl⟩:=okWide_int c d;intro h;cases h
   ·cases b
 | bool =>
   simp only[tyM]at b;split at b
   ·rename_i c;obtain⟨_,rfl⟩:=okWide_bool c d;intro h;cases h
   ·cases b
 | str =>
   simp only[tyM]at b;split at b
   ·rename_i c;obtain⟨_,rfl⟩:=okWide_string c d;intro h;cases h
   ·cases b
 | list a =>
   simp only[tyM]at b;split at b
   ·rename_i e c;obtain⟨_,_,_,rfl⟩:=okWide_slice c d;intro h;cases h
   ·cases b
 | _=>cases f
theorem arg_val{H:Type}{enc:TypeId × Value->H}{P:Program}{W:World}{n:Nat}{τ : Ty}{t:TypeId}{v:Value}{d:DataW H}{ps:List MemPlace}{zP:Nat}(b:tyM P n τ t=true)(f : τ.agg=true -> τ.size≠1)(e:Value.okWide P W .any zP t v)
  (h:DataW.Trod enc P W 0 (λ _=>true) true t v d ps) (c:∀ k∈d.weights P t,k<=reachBytes):∃ x:Val τ,Rep (ghW W) (yG τ x) v/\qkk τ x:=by
 obtain⟨a,g⟩:=h;obtain⟨x,l,j,i⟩:=qJo a n τ t v.cells.toList (d,ps) b g c;exact⟨x,qzr l j f (qJA b e),i⟩
end Go.AmZ
