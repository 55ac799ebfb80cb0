/- Part 6 of what the proofs stand on: plain functions of the program, and that they are its functions. -/
import Derived.Test.YtinbdcelmgfniaaGreatDoorM2
import Derived.Test.YtinbdcelmgfniaaGreatDoorM4
import Derived.KernelRfl
import Derived.Test.YtinbdcelmgfniaaGreatDoorProg
import Derived.Deep.RegionLaw
import Derived.Handy
import Derived.Test.YtinbdcelmgfniaaGreatDoorM5
import Derived.Test.YtinbdcelmgfniaaGreatDoorM1
import Derived.ProofKit
import Derived.Test.YtinbdcelmgfniaaGreatDoorRows
set_option linter.unusedVariables false
set_option linter.unusedSimpArgs false
noncomputable section
namespace Go.GxZ
open Go.RowKit
def Box(w:World)(b:Nat)(e d c a:Value):Prop:=
 w.cell? ⟨b,0,none⟩=some e/\w.cell? ⟨b,1,none⟩=some d/\w.cell? ⟨b,2,none⟩=some c/\w.cell? ⟨b,3,none⟩=some a
theorem Box.keep{w u:World}{b:Nat}{g f e d:Value}{B:Nat}(h:Box w b g f e d)(c:b<B)(a:Below B w u):Box u b g f e d:=
 ⟨(a.cell c).trans h.1,(a.cell c).trans h.2.1,(a.cell c).trans h.2.2.1,(a.cell c).trans h.2.2.2⟩
theorem qxU(w:World)(d c b a:Value)(t:TypeId):Box (w.alloc (Obj.cells #[d,c,b,a] t)) w.heap.size d c b a:=
 ⟨by rw[World.cell?_alloc_mark];rfl,by rw[World.cell?_alloc_mark];rfl,by rw[World.cell?_alloc_mark];rfl,by rw[World.cell?_alloc_mark];rfl⟩
theorem qPO(w:World)(e d c b:Value)(t:TypeId):
  ∃a,w.alloc (Obj.cells #[e,d,c,b] t)=a/\Below w.heap.size w a/\a.heap.size=w.heap.size+1/\∀u,Below a.heap.size a u->Box u w.heap.size e d c b:=
 ⟨_,rfl,(Below.refl _ _).alloc (wa _) _,by simp,λ _ f=>(qxU w e d c b t).keep (by simp) f⟩
theorem qKl(w:World)(d c b a f y1 y2 y3:Value)(t g:TypeId):
  ∃e,(w.alloc (Obj.cells #[d,c,b,a] t)).alloc (Obj.cells #[f,y1,y2,y3] g)=e/\Below w.heap.size w e/\e.heap.size=w.heap.size+2/\
   ∀u,Below e.heap.size e u->Box u w.heap.size d c b a/\Box u (w.heap.size+1) f y1 y2 y3:=by
 refine⟨_,rfl,((Below.refl _ _).alloc (wa _) _).alloc (by simp) _,by simp,λ u h=>⟨?_,?_⟩⟩
 .exact((qxU w d c b a t).keep (B:=w.heap.size+1) (by omega) (((Below.refl _ _).alloc (by simp) _))).keep (by simp;omega) h
 .have:=qxU (w.alloc (Obj.cells #[d,c,b,a] t)) f y1 y2 y3 g;rw[show(w.alloc (Obj.cells #[d,c,b,a] t)).heap.size=w.heap.size+1 by simp]at this;exact this.keep (by simp) h
theorem qzu(w:World)(b:Nat)(n y1 y2 y3 m l g f:Value)(h:Box w b n y1 y2 y3):
  ∃w',(((w.setCell ⟨b,0,none⟩ m).setCell ⟨b,1,none⟩ l).setCell ⟨b,2,none⟩ g).setCell ⟨b,3,none⟩ f=w'/\Box w' b m l g f/\(∀B,B<=b->∀w0,Below B w0 w->Below B w0 w')/\
   w'.heap.size=w.heap.size/\(∀k,k≠b->w'.heap[k]?=w.heap[k]?)/\(∀a,w'.frozen? a=w.frozen? a):=by
 let⟨r,q,p,o⟩:=h;have c:∀i j:Nat,i≠j->(⟨b,i,none⟩:Addr)≠⟨b,j,none⟩:=λ i j h k=>h (by cases k;rfl);refine⟨_,rfl,⟨?_,?_,?_,?_⟩,λ B e w0 h=>(((h.setCell e _).setCell e _).setCell e _).setCell e _,by simp,λ k d=>?_,λ a=>by simp⟩
 .rw[World.cell?_setCell_other _ _ _ _ (c 3 0 (by decide)),World.cell?_setCell_other _ _ _ _ (c 2 0 (by decide)),World.cell?_setCell_other _ _ _ _ (c 1 0 (by decide))];exact World.cell?_setCell_same _ _ _ r
 .rw[World.cell?_setCell_other _ _ _ _ (c 3 1 (by decide)),World.cell?_setCell_other _ _ _ _ (c 2 1 (by decide))];refine World.cell?_setCell_same _ _ _ (u:=y1) ?_;rw[World.cell?_setCell_other _ _ _ _ (c 0 1 (by decide))];exact q
 .rw[World.cell?_setCell_other _ _ _ _ (c 3 2 (by decide))];refine World.cell?_setCell_same _ _ _ (u:=y2) ?_;rw[World.cell?_setCell_other _ _ _ _ (c 1 2 (by decide)),World.cell?_setCell_other _ _ _ _ (c 0 2 (by decide))];exact p
 .refine World.cell?_setCell_same _ _ _ (u:=y3) ?_;rw[World.cell?_setCell_other _ _ _ _ (c 2 3 (by decide)),World.cell?_setCell_other _ _ _ _ (c 1 3 (by decide)),World.cell?_setCell_other _ _ _ _ (c 0 3 (by decide))];exact o
 .rw[Below.heap_setCell _ _ _ _ d,Below.heap_setCell _ _ _ _ d,Below.heap_setCell _ _ _ _ d,Below.heap_setCell _ _ _ _ d]
theorem Box.same{w u:World}{b:Nat}{g f e d:Value}(h:Box w b g f e d)(c:u.heap[b]?=w.heap[b]?):Box u b g f e d:=
 ⟨(World.cell?_of_block (w:=w) (a:=⟨b,0,none⟩) c).trans h.1,(World.cell?_of_block (w:=w) (a:=⟨b,1,none⟩) c).trans h.2.1,(World.cell?_of_block (w:=w) (a:=⟨b,2,none⟩) c).trans h.2.2.1,(World.cell?_of_block (w:=w) (a:=⟨b,3,none⟩) c).trans h.2.2.2⟩
end Go.GxZ
namespace Go.Proofs.YtinbdcelmgfniaaGreatDoor
open Go Go.RowKit Go.GxZ Go.AmZ Go.Lib
theorem qE9:qnR Tryz.prog .term 23 25 56:=⟨by
 have h:(match yG Tryz.prog 23 with|some ⟨_,_,_,_,.slice e k b z⟩=>Nat.beq e 25&&(Nat.beq k 4&&(Nat.beq b 56&&Nat.beq z.length 4))|_=>false)=true:=by kernel_rfl
 split at h
 .rename_i l j i g e k b z m;simp only[wb]at h;let⟨f,d,c,a⟩:=h;have f:=wn f;have d:=wn d;have c:=wn c;have a:=wn a;subst f;subst d;subst c;exact⟨l,j,i,g,z,m,a⟩
 .cases h⟩
theorem qGt{F:Val RD->Option qjJ}{k:Nat}{b:Val RD}{r:(Val RD×Unit)×(T×Unit)}(h:qwP F k b=some r):∃a nk nm sk lf,F b=some ((a,()),((nk,nm,sk,[],lf,()),()))/\qvq F k [(T.mk nk nm sk [],lf)] a=some r:=by
 unfold qwP at h;cases c:qiL F b with
 |none=>rw[c]at h;cases h
 |some x=>
   let⟨a,nk,nm,sk,lf⟩:=x;rw[c]at h;exact⟨a,nk,nm,sk,lf,qsV c,h⟩
def qLR(a:Gh)(w0:World)(b:Val RD)(t:T)(e:Ending)(w':World):Prop:=∃(us:List Value) (Γ:Gh) (σ:St),e=.returned (.agg us.toArray)/\RS a w0 b Γ σ w'/\RepL Γ (qd .term t) us/\∀u∈us,u.oneCell'=true
theorem qLi:(Tryz.prog.info? 79).map (λ i=>(i.zero,i.size,i.bytes))=some (some (.agg #[.int .i64 0,.string ⟨#[]⟩,.int .i64 0,.slice none 0 0,.int .i64 0]),5,64):=by kernel_rfl
set_option maxHeartbeats 4000000 in
set_option maxRecDepth 1000000 in
theorem qIZ{F:Val RD->Option qjJ}(hF:qS Tryz.prog 67 (sgP (qoI F))){k:Nat}{Γ0:Gh}{σ0:St}{w0:World}{rd rd':Val RD}{t:T}(h0:Inv Γ0 σ0 w0)(hb : σ0.bx=[qd RD rd])(hr : σ0.rw=[])(hf:qwP F k rd=some ((rd',()),(t,()))) :
  Calls Tryz.prog 35 #[.pointer (some ⟨Γ0.β 0,0,none⟩)] w0 (qLR Γ0 w0 rd' t):=by
 have HF:=Lib.hid hF;have hS:RS Γ0 w0 rd Γ0 σ0 w0:=⟨.refl _ _,h0,hb⟩
 have HS:=Lib.hid hS;have HR:=Lib.hid hr;have HQ:=Lib.hid hf;clear hF hS hr hf h0 hb;generalize hβ : Γ0.β 0 = β;have Hβ := Lib.hid hβ;clear hβ
 go_enter Tryz.func35,Tryz.ntmps35
 obtain⟨rd1,nk,nm,sk,lf,hf1,hl1⟩:=qGt HQ.out
 have hc1:∀ o:Obj,Calls Tryz.prog 67 #[.pointer (some ⟨β,0,none⟩)] (w0.alloc o) λ e w'=>∃ Γ' σ' ku,e = .returned (.agg #[.int .i64 nk,.string ⟨nm.toArray⟩,.int .i64 sk,ku,.int .i64 lf])/\Ext Γ0 (w0.alloc o) Γ' w'/\RS Γ0 w0 rd1 Γ' σ' w' /\ σ'.rw = σ0.rw++[⟨4,[],0,0,false⟩]/\Rep Γ' (.rs σ0.rw.length 0 0 0 false) ku := λ o=>by
  rw[<- Hβ.out];exact qvv HF.out hf1 (HS.out.alloc o)
 have HC1:=Lib.hid hc1;have HL1:=Lib.hid hl1;clear hc1 hl1 hf1
 go_wp2_with (go_at_call 67;refine(HC1.out _).mono ?_;rintro e w1 ⟨Γ1,σ1,ku,rfl,hx1,hS1,hrw1,hku1⟩)
 have hR1 : σ1.rw[σ0.rw.length]?=some ⟨4,[],0,0,false⟩:=by rw[hrw1];simp
 have hsz1:w0.heap.size+1<=w1.heap.size:=by have:=hx1.size;simpa using this
 have hres0:qcf Γ0 (w0.alloc (Obj.cells #[.int .i64 0,.string ⟨#[]⟩,.int .i64 0,.slice none 0 0] 25)) w0.heap.size 25 :=
  ⟨qd0.new HS.out.i (wa _),by simp,heap_alloc_new w0 _⟩
 have hres1:=hres0.ext hx1;obtain⟨hS2,hK2⟩:=qMS (N:=79) (B:=w0.heap.size) hS1 (by omega) (nk:=nk) (sk:=sk) (nm:=nm) (lf:=lf) hR1 hku1;have hres2:qcf Γ1 (w1.alloc (Obj.cells #[.int .i64 nk,.string ⟨nm.toArray⟩,.int .i64 sk,ku,.int .i64 lf] 79)) w0.heap.size 25:=hres1.same (by simp) (Below.heap_alloc _ _ _ hres1.2.1);have hbet:∀{Γ : Gh},Le Γ0 Γ -> Γ.β 0 = β := λ h=>(h.β 0 (by rw[HS.out.i.nb,HS.out.bx];exact wal)).trans Hβ.out;have HBET:Hid (∀{Γ : Gh},Le Γ0 Γ -> Γ.β 0 = β):=@hbet;have HS2:=Lib.hid hS2;have HK2:=Lib.hid hK2;have HRES2:=Lib.hid hres2;have HSZ1:=Lib.hid hsz1;clear hR1 hres0 hres1 hS2 hK2 hres2 hx1 hS1 hrw1 hku1 hbet hsz1 HC1
 go_loopg [3] k (λ g1 v3 wr=>∃(st:List (T × Int)) (ids:List Nat) (g cap:Nat) (cs:List Value) (Γ : Gh) (σ : St) (rdx:Val RD),v3 = .slice (some ⟨g,0,none⟩) (st.length:Nat) cap/\Hid (RS Γ0 w0 rdx Γ σ wr)/\Hid (Stk w0.heap.size 79 Γ σ wr st ids g cap cs)/\Hid (qcf Γ wr w0.heap.size 25/\w0.heap.size≠g)/\Hid (qvq F g1 st rdx=some ((rd',()),(t,()))))
 case atStart=>exact⟨_,_,_,_,_,_,_,_,rfl,HS2.out,HK2.out,⟨HRES2.out,by have:=HSZ1.out;omega⟩,HL1.out⟩
 case round =>
  obtain⟨st,ids,g,cap,cs,Γ,σ,rdx,rfl,HSr,HKr,HRr,HLr⟩:=hrel;clear HS2 HK2 HRES2 HL1 HSZ1
  obtain⟨m,hm⟩:∃ m,gk=m+1:=by
   cases gk with
   | zero=>exact absurd HLr.out (by intro h;cases h)
   | succ m=>exact⟨m,rfl⟩
  have HLm:Hid (qvq F (m+1) st rdx=some ((rd',()),(t,()))):=by rw[<- hm];exact HLr
  clear HLr;obtain⟨hw0,hw1,hw2⟩:=HSr.out.box;rw[HBET.out HSr.out.x.le]at hw0 hw1 hw2;clear hw0 hw1;rcases qGx (show qAI F (qvq F m) st rdx=some ((rd',()),(t,()))from HLm.out)with⟨hw,he⟩ | ⟨hw,p,top,lt,hlen,hp,hcase⟩
  ·rw[hw]at hw2;cases he;obtain⟨r0,r1,r2,r3,rf⟩:=HRr.out.1.cells;have RF:=Lib.hid rf;have f0:=rf 0;have f1:=rf 1;have f2:=rf 2;have f3:=rf 3;clear rf
   go_wp2_with fail
   obtain⟨w9,hw9,⟨b0,b1,b2,b3⟩,_⟩:=qzu wr w0.heap.size _ _ _ _ (.int .i64 0) (.string ⟨#[]⟩) (.int .i64 0) (.slice none 0 0) ⟨r0,r1,r2,r3⟩;have hS9:=HSr.out.put4 HRr.out.1.1 (wa _) (.int .i64 0) (.string ⟨#[]⟩) (.int .i64 0) (.slice none 0 0);rw[hw9]at hS9 |-
   refine bodyPost_ret (v := .agg #[.int .i64 0,.string ⟨#[]⟩,.int .i64 0,.slice none 0 0]) (by simp[results,Tryz.results35,go_sem,b0,b1,b2,b3]) rfl ?_;exact⟨_,Γ,σ,rfl,hS9,qgO (t := .mk 0 [] 0 []) qBi,qoy rfl⟩
  ·rw[hw]at hw2;obtain⟨r,hr,NC⟩:=HKr.out.at hp;have hcap:=qNq HKr.out.own;have hpm:p+1<=maxLen:=by omega
   unfold maxLen at hpm;have hwp:IntKind.i64.wrap (((p+1:Nat):Int)-1)=(p:Int):=by rw[IntKind.wrap_i64];omega
   obtain⟨Rp,kp,z1,z2,z3,z4,z5,z6,a0,a1,a2,a3,a4⟩:=NC;obtain⟨c4,f4⟩:=HKr.out.cell a4;have hz:(p:Int)<((p+1:Nat):Int):=by omega
   rcases hcase with⟨hlt,hroom,rd1,nk1,nm1,sk1,lf1,hf1,hih⟩ | ⟨hlt,hend⟩
   ·clear z1 z2 z3 z4 z5 z6 a0 a1 a2 a3;rw[hlen]
    go_upto_region 6 with(fail)
    have hwr:iw .i64 (Qo lt 1)=wrap64 (lt-1):=by show IntKind.i64.wrap (lt-1)=_;rw[IntKind.wrap_i64];unfold wrap64;rfl
    rw[hwr]at hih;have hS2:=HSr.out.set HKr.out.priv (qci HKr.out.own).1 (p*5+4) (.int .i64 (wrap64 (lt-1)));have hK2:=HKr.out.left hp (wrap64 (lt-1));have hR2:qcf Γ (wr.setCell ⟨g,p*5+4,none⟩ (.int .i64 (wrap64 (lt-1)))) w0.heap.size 25:=HRr.out.1.same (by simp) (Below.heap_setCell _ _ _ _ HRr.out.2);have hc:=qvv HF.out hf1 hS2;rw[HBET.out HSr.out.x.le]at hc;generalize wr.setCell ⟨g,p*5+4,none⟩ (.int .i64 (wrap64 (lt-1)))=w2 at *;have HC:=Lib.hid hc;have HK2:=Lib.hid hK2;have HR2:=Lib.hid hR2;have HIH:=Lib.hid hih;have HRM:=Lib.hid hroom;have HLEN:=Lib.hid hlen;have HNG:=Lib.hid HRr.out.2;clear hc hK2 hR2 hih hroom hS2 HSr HKr HRr hlen hcap hwp hz c4 f4 a4 hr hp hf1 hw2 hwr;obtain⟨i0,hi,hz0,hz1,hz2⟩:=info_parts qLi
    go_wp2_with (first
     | (go_at_call 67;refine HC.out.mono ?_;rintro e w3 ⟨Γ3,σ3,ku3,rfl,hx3,hS3,hrw3,hku3⟩
        have hK3:=HK2.out.later hx3 (σ' := σ3) (λ r _ R h=>by rw[hrw3,List.getElem?_append_left (getElem?_lt h)];exact h);have hR3:=HR2.out.ext hx3;have hnid : σ.rw.length ∉ ids:=HK2.out.id_lt;have hlen2:(st.set p (top,wrap64 (lt-1))).length=p+1:=by rw[wH];exact HLEN.out
        obtain⟨v4,w4,hrun4,g4,cap4,hv4,hS4,hK4,hsz4,hbl4,hg4⟩:=qJF Tryz.underlying81 hi hz0 hz1 hz2 rfl hS3 hK3 (wa _) (nk:=nk1) (nm:=nm1) (sk:=sk1) (lf:=lf1) (r := σ.rw.length) (by rw[hrw3];simp) hku3 hnid (by rw[hlen2];exact HRM.out) 81;have hR4:qcf Γ3 w4 w0.heap.size 25:=hR3.same hsz4 (hbl4 _ hR3.2.1 HNG.out);have hng4:w0.heap.size≠g4:=by rcases hg4 with rfl | h;exact HNG.out;have:=hR3.2.1;omega
        rw[hlen2]at hrun4 hv4;subst hv4;have HS4:=Lib.hid hS4;have HK4:=Lib.hid hK4;have HR4:=Lib.hid hR4;have HNG4:=Lib.hid hng4;have HRUN:=Lib.hid hrun4;clear hx3 hS3 hrw3 hku3 hK3 hR3 hnid hlen2 hrun4 hS4 hK4 hsz4 hbl4 hg4 hR4 hng4)
     | (at_builtin;refine qxp _ _ _ rfl rfl rfl rfl HRUN.out ?_))
    go_roundg m
    case measure=>omega
    case rel=>exact⟨_,_,g4,cap4,_,Γ3,σ3,rd1,by rw[wd,wH,HLEN.out];rfl,HS4.out,HK4.out,⟨HR4.out,HNG4.out⟩,HIH.out⟩
   ·obtain⟨c0,f0⟩:=HKr.out.cell a0;obtain⟨c1,f1⟩:=HKr.out.cell a1;obtain⟨c2,f2⟩:=HKr.out.cell a2;obtain⟨c3,f3⟩:=HKr.out.cell a3;have hgl:=(qci HKr.out.own).2;have hbl:w0.heap.size<wr.heap.size:=HRr.out.1.2.1;have NC:qis Γ σ cs p top lt r:=⟨Rp,kp,z1,z2,z3,z4,z5,z6,a0,a1,a2,a3,a4⟩
    have hk1:=z6.one rfl;obtain⟨pa,kn,kc,rfl⟩:∃ pa kn kc,kp = .slice pa kn kc:=by cases z6;exact⟨_,_,_,rfl⟩
    clear z1 z2 z3 z4 z5 z6 a0 a1 a2 f0 f1 f2 f3 f4;rcases hend with⟨rfl,he⟩ | ⟨q,par,n,rfl,hq,hroom,hih⟩
    ·cases he;rw[hlen];have hR5:∀ o:Obj,qcf Γ (wr.alloc o) w0.heap.size 25 := λ o=>HRr.out.1.same (by simp) (Below.heap_alloc _ _ _ hbl);obtain⟨r0,r1,r2,r3,rf⟩:=HRr.out.1.cells;have f0:=rf 0;have f1:=rf 1;have f2:=rf 2;have f3:=rf 3;clear rf;have HNC:=Lib.hid NC;have HR5:=Lib.hid hR5;have HLT:=Lib.hid hlt;have HK1:=Lib.hid hk1;clear NC hR5 hk1
     go_wp2_with fail
     obtain⟨w9,hw9,⟨b0,b1,b2,b3⟩,_,hsz9,_⟩:=qzu wr w0.heap.size _ _ _ _ (.int .i64 t.kind) (.string ⟨t.name.toArray⟩) (.int .i64 t.sort) (.slice pa kn kc) ⟨r0,r1,r2,r3⟩;have hS9:=HSr.out.put4 HRr.out.1.1 (wa _) (.int .i64 t.kind) (.string ⟨t.name.toArray⟩) (.int .i64 t.sort) (.slice pa kn kc);rw[hw9]at hS9 |-
     have hl9:w0.heap.size<w9.heap.size:=by rw[hsz9];exact hbl
     refine bodyPost_ret (v := .agg #[.int .i64 t.kind,.string ⟨t.name.toArray⟩,.int .i64 t.sort,.slice pa kn kc]) (by simp[results,Tryz.results35,go_sem,b0,b1,b2,b3,hl9]) rfl ?_;have hS10:=hS9.alloc (.cells #[.int .i64 t.kind,.string ⟨t.name.toArray⟩,.int .i64 t.sort,.slice pa kn kc] 25);obtain⟨Γ1,σ9,kx,y1,y2,y3,y4,y5,y6,y7⟩:=qCL hS10.i HNC.out;obtain⟨_,kx',_,_,_,_,_,_,_,_,_,y8,_⟩:=HNC.out;have hcs:cs[0*5+3]?=some (.slice pa kn kc):=a3;rw[hcs]at y5;cases y5;exact⟨[.int .i64 t.kind,.string ⟨t.name.toArray⟩,.int .i64 t.sort,.slice pa kn kc],Γ1,σ9,rfl,⟨hS10.x.trans y3,y4,y1.trans hS10.bx⟩,qgO y6,qoy rfl⟩
    ·rw[hlen];have HNC:=Lib.hid NC;have HK1:=Lib.hid hk1;have HIH:=Lib.hid hih;have HRM:=Lib.hid hroom;have HQ2:=Lib.hid hq;have HP:=Lib.hid hp;have hqm:q+1+1<=2 ^ 63-1:=hpm;have hz2:¬ ((q:Int)+1=0):=by omega
     clear NC hk1 hih hroom hq HQ
     go_upto_region 11 with(fail)
     obtain⟨w5,hw5,hb5,hs5,hbx5⟩:=qPO wr (.int .i64 top.kind) (.string ⟨top.name.toArray⟩) (.int .i64 top.sort) (.slice pa kn kc) 25;have hS5:=HSr.out.alloc (.cells #[.int .i64 top.kind,.string ⟨top.name.toArray⟩,.int .i64 top.sort,.slice pa kn kc] 25);have hK5:=HKr.out.grown (World.grownBy_alloc wr (.cells #[.int .i64 top.kind,.string ⟨top.name.toArray⟩,.int .i64 top.sort,.slice pa kn kc] 25) none) (λ e=>by cases e);have hR5:qcf Γ (wr.alloc (.cells #[.int .i64 top.kind,.string ⟨top.name.toArray⟩,.int .i64 top.sort,.slice pa kn kc] 25)) w0.heap.size 25:=HRr.out.1.same (by simp) (Below.heap_alloc _ _ _ hbl);rw[hw5]at hS5 hK5 hR5 |-
     have g5:=hbx5 _ (Below.refl _ _);have HS5:=Lib.hid hS5;have HK5:=Lib.hid hK5;have HR5:=Lib.hid hR5;have G5:=Lib.hid g5;have HNG:=Lib.hid HRr.out.2;have HA3:=Lib.hid a3;have HSZ5:=Lib.hid hs5;clear hbx5 hw5 hb5 hS5 hK5 hR5 g5 HSr HKr HRr c0 c1 c2 c3 c4 a4 a3 hw2 hgl hbl hs5 hlen hp hcap hwp hr
     have key:∀ bv:Value,RS Γ0 w0 rdx Γ σ (w5.alloc (.cells #[bv] 4)).drew/\Stk w0.heap.size 79 Γ σ (w5.alloc (.cells #[bv] 4)).drew st ids g cap cs/\qcf Γ (w5.alloc (.cells #[bv] 4)).drew w0.heap.size 25/\Box (w5.alloc (.cells #[bv] 4)).drew wr.heap.size (.int .i64 top.kind) (.string ⟨top.name.toArray⟩) (.int .i64 top.sort) (.slice pa kn kc) := λ bv =>
      ⟨(HS5.out.alloc _).drew',(HK5.out.grown (World.grownBy_alloc w5 (.cells #[bv] 4) none) (λ e=>by cases e)).drew,(HR5.out.same (by simp) (Below.heap_alloc _ _ _ HR5.out.2.1)).drew,G5.out.same (Below.heap_alloc _ _ _ (by have:=HSZ5.out;omega))⟩
     have KEY:=Lib.hid key;clear key
     go_region
     ·obtain⟨w6,hw6⟩:∃ w6,(w5.alloc (.cells #[.bool false] 4)).drew=w6:=⟨_,rfl⟩
      obtain⟨k1,k2,k3,k4⟩:=KEY.out (.bool false);rw[hw6]at k1 k2 k3 k4 |-
      have HS6:=Lib.hid k1;have HK6:=Lib.hid k2;have HR6:=Lib.hid k3;have G6:=Lib.hid k4;clear KEY hw6 k1 k2 k3 k4 HS5 HK5 HR5 G5 HSZ5
      go_upto_region 14 with(fail)
      obtain⟨Γ7,σ7,kx,b4,hS7,hK7,hx7,hx6⟩:=qE3 HS6.out.drew' HK6.out.drew HP.out;rw[HA3.out]at b4;cases b4;have hql:q<st.length:=getElem?_lt HQ2.out;obtain⟨kq,rq,b0,_,_,v8,w8,hrun,⟨pa8,kc8,hv8⟩,Γ8,σ8,hx8,hS8,hK8⟩:=qEG qE9 hS7 hK7 (wa _) (q:=q) (t:=par) (n:=n) (by rw[List.getElem?_take,if_pos (by omega)];exact HQ2.out) hx7 HRM.out 25 23;rw[xM,kw (by omega)]at hK8;subst hv8;obtain⟨c6,f6⟩:=hK7.cell b0;obtain⟨c0,c1,c2,c3⟩:=G6.out;have c7:∀ o:Obj,(w6.alloc o).cell? ⟨g,q*5+3,none⟩=some kq := λ o=>(World.cell?_alloc_lt _ _ _ (by show g<_;exact(qci HK6.out.own).2)).trans c6;have hbk:=(hK7.priv.ext hx8 (by exact(qci HK6.out.own).2)).2;have c8:w8.cell? ⟨g,q*5+3,none⟩=some kq:=(World.cell?_of_block (w:=w6) (a:=⟨g,q*5+3,none⟩) hbk).trans c6;have f8:w8.frozen? ⟨g,q*5+3,none⟩=false:=(World.frozen?_of_block (w:=w6) (a:=⟨g,q*5+3,none⟩) hbk).trans f6;have HR8:=Lib.hid ((HR6.out.drew.ext hx6).ext hx8);have HS8:=Lib.hid hS8;have HK8:=Lib.hid hK8;have hrun:(Builtin.append_ #[23,23] 23 #[kq,.slice (some ⟨w6.heap.size,0,none⟩) 1 1]).run Tryz.prog (w6.alloc (.cells #[.int .i64 top.kind,.string ⟨top.name.toArray⟩,.int .i64 top.sort,.slice pa kn kc] 25)).drew = .ok (.slice pa8 (par.kids.length+1) kc8) w8:=hrun;have HRUN:=Lib.hid hrun;have hl9:(st.take q++[(T.mk par.kind par.name par.sort (par.kids++[top]),n)]).length=q+1:=by rw[wd,wm];simp;omega
      have HL9:=Lib.hid hl9;clear hx8 hS8 hK8 hrun b0 hbk HS6 HK6 HR6 G6 hS7 hK7 hx7 hx6 hl9 hql;have hwq:IntKind.i64.wrap (q:Int)=(q:Int):=by rw[IntKind.wrap_i64];omega
      have hqz:(q:Int)<(q:Int)+1:=by omega
      go_region_law (first | (refine qnx rfl _ _ _ rfl rfl rfl HRUN.out ?_))
      all_goals
       go_wp2_with fail
       go_roundg m
       case measure=>omega
       case rel=>exact⟨_,_,g,cap,_,Γ8,σ8,rdx,by rw[HL9.out],HS8.out,HK8.out,⟨HR8.out.same (by simp) (Below.heap_setCell _ _ _ _ HNG.out),HNG.out⟩,HIH.out⟩
     ·obtain⟨w6,hw6⟩:∃ w6,(w5.alloc (.cells #[.bool true] 4)).drew=w6:=⟨_,rfl⟩
      obtain⟨k1,k2,k3,k4⟩:=KEY.out (.bool true);rw[hw6]at k1 k2 k3 k4 |-
      have HS6:=Lib.hid k1;have HK6:=Lib.hid k2;have HR6:=Lib.hid k3;have G6:=Lib.hid k4;clear KEY hw6 k1 k2 k3 k4 HS5 HK5 HR5 G5 HSZ5
      go_upto_region 12 with(fail)
      obtain⟨Γ7,σ7,kx,b4,hS7,hK7,hx7,hx6⟩:=qE3 HS6.out.drew' HK6.out.drew HP.out;rw[HA3.out]at b4;cases b4;have hql:q<st.length:=getElem?_lt HQ2.out;obtain⟨kq,rq,b0,_,⟨pa7,kc7,rfl⟩,v8,w8,hrun,⟨pa8,kc8,hv8⟩,Γ8,σ8,hx8,hS8,hK8⟩:=qEG qE9 hS7 hK7 (wa _) (q:=q) (t:=par) (n:=n) (x := .mk 0 [] 0 []) (by rw[List.getElem?_take,if_pos (by omega)];exact HQ2.out) qBi HRM.out 25 23;rw[xM,kw (by omega)]at hK8;subst hv8;obtain⟨c6,f6⟩:=hK7.cell b0;obtain⟨c0,c1,c2,c3⟩:=G6.out;have c7:∀ o:Obj,(w6.alloc o).cell? ⟨g,q*5+3,none⟩=some (.slice pa7 par.kids.length kc7) := λ o=>(World.cell?_alloc_lt _ _ _ (by show g<_;exact(qci HK6.out.own).2)).trans c6;have hwl:wr.heap.size<w6.heap.size:=qsm c0;have hbk:=(hK7.priv.ext hx8 (by exact(qci HK6.out.own).2)).2;have c8:w8.cell? ⟨g,q*5+3,none⟩=some (.slice pa7 par.kids.length kc7):=(World.cell?_of_block (w:=w6) (a:=⟨g,q*5+3,none⟩) hbk).trans c6;have f8:w8.frozen? ⟨g,q*5+3,none⟩=false:=(World.frozen?_of_block (w:=w6) (a:=⟨g,q*5+3,none⟩) hbk).trans f6;have hR8:qcf Γ8 (w8.setCell ⟨g,q*5+3,none⟩ (.slice pa8 (par.kids.length+1) kc8)) w0.heap.size 25:=((HR6.out.drew.ext hx6).ext hx8).same (by simp) (Below.heap_setCell _ _ _ _ HNG.out);have hl9:(st.take q).length=q:=by rw[wm];omega
      obtain⟨b,kc9,y1,y2,y3,y4,y5,Γ9,σ9,hx9,hS9,hK9⟩:=qNp hS8 hK8 (q:=q) (ks:=par.kids) (z := .mk 0 [] 0 []) (x:=top) (n:=n) (by rw[List.getElem?_append_right (by omega),hl9,kY];rfl) rfl (hx7.mono hx8.le)
      have y6:pa8=some ⟨b,0,none⟩/\kc8=kc9:=by
       rw[List.getElem?_take,if_pos (by omega),List.getElem?_set_self (by rw[hK7.own.1,wm];omega)]at y1;cases y1;exact⟨rfl,rfl⟩
      obtain⟨rfl,rfl⟩:=y6;obtain⟨u0,d0⟩:=y4 0 (by decide);obtain⟨u1,d1⟩:=y4 1 (by decide);obtain⟨u2,d2⟩:=y4 2 (by decide);obtain⟨u3,d3⟩:=y4 3 (by decide);have g0:=y5 (par.kids.length*4);have g1:=y5 (par.kids.length*4+1);have g2:=y5 (par.kids.length*4+2);have g3:=y5 (par.kids.length*4+3);have hres:b≠w0.heap.size := λ e=>hR8.1.own (e▸y3);have hR9:=(hR8.ext hx9)
      have hrun:(Builtin.append_ #[23,23] 23 #[.slice pa7 par.kids.length kc7,.slice (some ⟨w6.heap.size,0,none⟩) 1 1]).run Tryz.prog (w6.alloc (.cells #[.int .i64 0,.string ⟨#[]⟩,.int .i64 0,.slice none 0 0] 25)).drew = .ok (.slice (some ⟨b,0,none⟩) (par.kids.length+1) kc8) w8:=hrun;obtain⟨w9,hw9⟩:∃ w9,w8.setCell ⟨g,q*5+3,none⟩ (.slice (some ⟨b,0,none⟩) (par.kids.length+1) kc8)=w9:=⟨_,rfl⟩
      rw[hw9]at hS9 hK9 hR9 d0 d1 d2 d3 g0 g1 g2 g3;rw[wQ]at d0
      have hl10:((st.take q++[(T.mk par.kind par.name par.sort (par.kids++[T.mk 0 [] 0 []]),n)]).set q (T.mk par.kind par.name par.sort (par.kids++[top]),n))=st.take q++[(T.mk par.kind par.name par.sort (par.kids++[top]),n)]:=by
       rw[waw _ _ (by omega),hl9,kY];rfl
      have hK9:Stk w0.heap.size 79 Γ9 σ9 _ ((st.take q++[(T.mk par.kind par.name par.sort (par.kids++[T.mk 0 [] 0 []]),n)]).set q (T.mk par.kind par.name par.sort (par.kids++[top]),n)) _ g cap _:=hK9;rw[hl10]at hK9;have hl11:(st.take q++[(T.mk par.kind par.name par.sort (par.kids++[top]),n)]).length=q+1:=by rw[wd,hl9];rfl
      have HL11:=Lib.hid hl11;have HS9:=Lib.hid hS9;have HK9:=Lib.hid hK9;have HR9:=Lib.hid hR9;have HRUN:=Lib.hid hrun;have HW9:=Lib.hid hw9;have hwq:IntKind.i64.wrap (q:Int)=(q:Int):=by rw[IntKind.wrap_i64];omega
      have hqz:(q:Int)<(q:Int)+1:=by omega
      have hnz:(par.kids.length:Int)<(par.kids.length:Int)+1:=by omega
      clear hx8 hS8 hK8 hrun b0 hbk HS6 HK6 HR6 G6 hS7 hK7 hx7 hx6 hl9 hql hR8 hx9 hS9 hK9 hR9 hw9 hl10 hl11 y1 y2 y3 y4 y5 hres
      go_region_law (first | (refine qnx rfl _ _ _ rfl rfl rfl HRUN.out ?_))
      all_goals
       rw[HW9.out]
       go_wp2_with fail
       go_roundg m
       case measure=>omega
       case rel=>exact⟨_,_,g,cap,_,Γ9,σ9,rdx,by rw[HL11.out],HS9.out,HK9.out,⟨HR9.out,HNG.out⟩,HIH.out⟩
end Go.Proofs.YtinbdcelmgfniaaGreatDoor
namespace Go.AmZ
open Go Go.RowKit Go.GxZ
theorem qLE{ds:List AV}{e:Val RD}(h:qD RD (ds.take (Ty.size RD))=some e)(j:ds.drop (Ty.size RD)=[]):ds=qd RD e:=by
 have k:ds.take (Ty.size RD)=ds:=kH (List.drop_eq_nil_iff.1 j);rw[k]at h;have h:=qP.1 h;let⟨s,f,w⟩:=e;change qoL (yy .str) (qoL (yy (.int .i64)) (yy .bool)) ds=_ at h;unfold qoL at h;split at h<;>try cases h
 rename_i x r c;split at h<;>cases h;rename_i y d;split at d<;>try cases d
 rename_i l g a;split at d<;>cases d;rename_i b;have c:qcY ds=some (s,r):=c;have a:JD .i64 r=some (f,g):=a;have b:qcH g=some (w,[]):=b;unfold qcY at c;split at c<;>cases c;unfold JD at a;split at a<;>try cases a
 rename_i i;split at a<;>cases a;have i:=of_decide_eq_true (by assumption);subst i;unfold qcH at b;split at b<;>cases b;rfl
theorem qNE{σ:St}{ys:List AV}{a:QC [.box [.val RD]]}(h:dS σ [.box [.val RD]] 0 0 ys=some a):ys=[.ptr 0 0]/\σ.bx=[qd RD a.1]/\σ.rw=[]:=by
 cases ys with
 |nil=>simp[dS]at h
 |cons y ys=>
   simp only[dS]at h;cases c:qiN σ [.val RD] 0 0 y with
   |none=>rw[c]at h;cases h
   |some p=>
     let⟨v,n⟩:=p;rw[c]at h;simp only at h;unfold qiN at c;split at c<;>try cases c
     rename_i j f;have f:=qBb f;subst f;split at c<;>try cases c
     rename_i ds k g;have k:=wn k;subst k;simp only[qfe]at c;split at c<;>try cases c
     rename_i x m;split at c<;>cases c;rename_i d
     have l:ds.drop (Ty.size RD)=[]/\n=0:=by
      cases i:ds.drop (Ty.size RD)with
      |nil=>rw[i]at d;simp[qfe]at d;exact⟨rfl,d.symm⟩
      |cons z r=>rw[i]at d;simp[qfe]at d
     obtain⟨l,rfl⟩:=l;split at h<;>cases h;rename_i hdS;obtain⟨rfl,q,o⟩:=qk6 hdS;have e:=qLE m l;let⟨b,c⟩:=xX.1 q.symm;refine⟨rfl,?_,wh o.symm⟩;rw[c]at g |-
     cases g;rw[e];rfl
end Go.AmZ
namespace Go.Proofs.YtinbdcelmgfniaaGreatDoor
open Go Go.RowKit Go.GxZ Go.AmZ Go.Lib
theorem hand_read{F:Val RD->Option qjJ}(q:qS Tryz.prog 67 (sgP (qoI F)))(k:Nat):qS Tryz.prog 35 (sgP ⟨[.box [.val RD]],[.one (.val .term)],λ x=>qwP F k x.1⟩):=by
 refine⟨QG Tryz.func35 (by kernel_rfl),λ Γ σ w l h r i g a=>?_⟩;let⟨B,b,y,m⟩:= σ;unfold sgP at a;split at a<;>try cases a
 rename_i x p;let⟨z,_⟩:=x;obtain⟨rfl,j,c⟩:=qNE p;have c:b=[]:=c;subst c;split at a<;>cases a;rename_i n d;let⟨⟨o,_⟩,t,_⟩:=n;obtain⟨u0,A,rfl,f,g⟩:=g.uncons;have:=g.nil_inv;subst this;cases f;refine(qIZ q i j rfl d).mono ?_;rintro e w' ⟨us,Γ',σ',rfl,v,u,s⟩;exact qIq i (by rw[j];rfl) rfl v u s
end Go.Proofs.YtinbdcelmgfniaaGreatDoor
namespace Go.AmZ
open Go Go.GxZ
set_option linter.unusedVariables false
set_option maxRecDepth 100000
open Go.Proofs.Tryz (func5 func10 func11 func13 func14 func15 func18 func19 func26 func32 func33 func34 func36 func37 func39 func40 func41 func42 func43 func44 func45 func46 func47 func48 func49 func50 func51 func52 func55 func56 func57 func58 func62 func64 func67 func68 func69 func70 func71 func72 func73 func77 func78 func79 func80 func81 func82 func83 func84 func85 func86 func87 func88 func89 func90 func91 func92 func93 func95 func96 func99 func100 func101 func102 func103 func105 func106 func107 func108 func109 func110 func111 func112 func113 func114 func115 func117 func118 func119 func120 func121 func122 func123 func126 func127 func128 func129 func130 func131 func133 func134 func135 func136 func137 func138 func141 func142 func143 func144 func149 func150 func151 func153 func154 func155 func156 func157 func158 func159 func160 func161 func162 func163 func164 func165 func166 func167 func168 func169 func170 func171 func172 func173 func174 func177 func184 func185 func186 func187 func190 func191 func192 func194 func195 func196 func197 func198 func199 func200 func201 func202 func214 func223 func224 func227 func228 func229 func230 func241)
theorem qjF(m:Nat)(h:ym Go.Proofs.Tryz.prog (tb.at m).pc.cfg):qS Go.Proofs.Tryz.prog 35 (sgP ⟨[.box [.val RD]],[.one (.val .term)],λ x=>qcN (m+1) x.1⟩):=Go.Proofs.YtinbdcelmgfniaaGreatDoor.hand_read (F:=qc1 m) (h.prim 67 _ (by kernel_rfl)) m
theorem qbQ(m:Nat)(h:ym Go.Proofs.Tryz.prog (tb.at m).pc.cfg):qS Go.Proofs.Tryz.prog 139 (mgP ⟨.term,[.clo 89 0],λ x=>zc (m+1) x.1⟩):=qzs (τ:=.term) Go.Proofs.Tryz.sortTrm (λ _=>rfl) Go.Proofs.Tryz.isAgg25 Go.Proofs.Tryz.sizeOf25 (qDe (τ:=.term) (ρ:=y2) (qyd h (by kernel_rfl)) (F:=λ x y=>qv m x y) (by kernel_rfl) (λ _=>rfl)) (QG Go.Proofs.Tryz.func139 (by kernel_rfl)) (λ _ _ h=>h)
theorem qaM(m:Nat)(h:ym Go.Proofs.Tryz.prog (tb.at m).pc.cfg):qS Go.Proofs.Tryz.prog 140 (sgP ⟨[.row .term,.clo 141 0],[.one (.row .term)],λ x=>qJ (m+1) x.1⟩):=qBV (qDe (τ:=.term) (ρ:=.bool) (qyd h (by kernel_rfl)) (F:=λ x y=>jc m x y) (by kernel_rfl) (λ _=>rfl)) (λ _ _ h=>qHr h)
theorem qak(m:Nat)(h:ym Go.Proofs.Tryz.prog (tb.at m).pc.cfg):qS Go.Proofs.Tryz.prog 152 (mgP ⟨y3,[.clo 153 0],λ x=>yu (m+1) x.1⟩):=qzs (τ:=y3) Go.Proofs.Tryz.sortBnd (λ _=>rfl) Go.Proofs.Tryz.isAgg76 Go.Proofs.Tryz.sizeOf76 (qDe (τ:=y3) (ρ:=y2) (qyd h (by kernel_rfl)) (F:=λ x y=>qe8 m x y) (by kernel_rfl) (λ _=>rfl)) (QG Go.Proofs.Tryz.func152 (by kernel_rfl)) (λ _ _ h=>h)
theorem tb_ok:∀ m,ym Go.Proofs.Tryz.prog (tb.at m).pc.cfg:=Tb.all_ok (by kernel_rfl) qIk (by kernel_rfl) (nP func117 qzO ⟨⟨⟨func71,λ _=>rfl,qni,⟨func71,λ _=>rfl,qna,trivial⟩⟩,vl _ _⟩,(nP func43 qtV (nP func32 qBJ (nP func15 qBt (nP func11 qrH (nP func10 qw0 (nP func5 qlv trivial trivial) trivial) (nP func14 qrP (nP func13 qAt trivial trivial) trivial)) ⟨qeA (m:=0),(nP func19 qoe (nP func18 qxv trivial trivial) trivial),(nP func26 qoU trivial trivial)⟩) (nP func37 qwt ⟨⟨qoY (QG Go.Proofs.Tryz.func35 (by kernel_rfl)) λ _=>rfl,λ m h=>qjF m h⟩,(nP func34 qDb (nP func33 qAg trivial trivial) trivial),(nP func36 qzG trivial trivial)⟩ (nP func41 qyn (nP func40 qxB (nP func39 qzF trivial trivial) trivial) (nP func42 qxm trivial trivial)))) (nP func55 qyg (nP func48 qvr (nS func46 qsD (nP func45 qAP (nP func44 qvz trivial trivial) trivial) (nP func47 qB2 trivial trivial)) (nP func51 qwf (nP func50 qow (nP func49 qfo trivial trivial) trivial) (nP func52 qvo trivial trivial))) (nP func64 qAe (nP func58 qp5 (nP func57 qxY (nS func56 qsx trivial trivial) trivial) (nP func62 qCs trivial trivial)) (nP func69 quD (nS func68 qAd (nS func67 qlD trivial trivial) trivial) (nP func70 qw8 trivial trivial))))),(nP func95 qC6 (nS func84 qll (nP func79 qu0 (nP func77 qym (nP func73 quB (nP func72 qsI trivial trivial) trivial) (nP func78 qvs trivial trivial)) (nS func82 Ji (nP func81 qw7 (nP func80 quG trivial trivial) trivial) (nP func83 qpY trivial trivial))) (nP func89 qvl (nP func87 qzN (nP func86 qu3 (nP func85 qja trivial trivial) trivial) (nP func88 qkQ trivial trivial)) (nP func92 qxV (nP func91 qxO (nP func90 qxd trivial trivial) trivial) (nP func93 qxa trivial trivial)))) (nP func107 qvp (nP func102 qxG (nS func100 qlu (nP func99 qtB (nP func96 qAr trivial trivial) trivial) (nS func101 qlz trivial trivial)) (nP func105 qvB ⟨λ c hc=>qpX (m:=0) hc,(nP func103 qt3 trivial trivial),trivial⟩ (nP func106 qAl trivial trivial))) (nP func112 qAq (nS func110 qlB (nS func109 qn7 (nP func108 qvO trivial trivial) trivial) (nS func111 qwq trivial trivial)) (nP func115 qCg (nP func114 qBN (nP func113 qhD trivial trivial) trivial) ⟨λ c hc=>qpv (m:=0) hc,trivial,trivial⟩))))⟩ (nP func164 qu7 ⟨⟨qoY (QG Go.Proofs.Tryz.func140 (by kernel_rfl)) λ _=>rfl,λ m h=>qaM m h⟩,(nP func129 qx0 (nP func122 qAs (nP func120 quA (nS func119 qq0 (nS func118 qpZ trivial trivial) trivial) (nP func121 qxj trivial trivial)) (nP func127 qsA (nP func126 qA7 (nP func123 qyl trivial trivial) trivial) (nP func128 qGU trivial trivial))) (nP func135 qth (nP func133 qwH (nP func131 qwv (nP func130 qtd trivial trivial) trivial) (nP func134 qwW trivial trivial)) (nP func138 qw4 (nP func137 qt8 (nP func136 qCw trivial trivial) trivial) ⟨⟨qzC (QG Go.Proofs.Tryz.func139 (by kernel_rfl)) λ _=>rfl,λ m h=>qbQ m h⟩,trivial,trivial⟩))),(nP func154 qB3 (nS func149 qq7 (nP func143 qBj (nP func142 qz4 (nP func141 qsz trivial trivial) trivial) (nP func144 qjK trivial trivial)) ⟨⟨qzC (QG Go.Proofs.Tryz.func152 (by kernel_rfl)) λ _=>rfl,λ m h=>qak m h⟩,(nS func151 qpQ (nP func150 qvJ trivial trivial) trivial),(nP func153 qpi trivial trivial)⟩) (nS func159 qp4 (nP func157 qvN (nP func156 qEh (nP func155 qBy trivial trivial) trivial) (nP func158 qGy trivial trivial)) (nP func162 qvf (nP func161 qst (nP func160 qsu trivial trivial) trivial) (nP func163 qfk trivial trivial))))⟩ ⟨qfj (m:=0),(nP func174 qDh (nP func169 qz9 (nP func167 qxM (nP func166 qDT (nP func165 qzZ trivial trivial) trivial) (nP func168 qz3 trivial trivial)) (nP func172 qEg (nP func171 qzT (nP func170 qsK trivial trivial) trivial) (nP func173 qAc trivial trivial))) (nS func187 qC5 (nS func185 qmZ (nS func184 qaL (nP func177 qBK trivial trivial) trivial) ⟨func186,trivial,trivial⟩) (nP func191 qrB (nP func190 qvu ⟨qdi (m:=0),trivial,trivial⟩ trivial) (nS func192 qqu trivial trivial)))),(nS func214 qbC (nS func198 qtn (nP func196 qv0 (nP func195 qqN (nS func194 qqV trivial trivial) trivial) (nP func197 qxx trivial trivial)) (nS func201 qDH (nP func200 qsJ (nP func199 qyb trivial trivial) trivial) (nP func202 qtH trivial trivial))) (nP func227 qaD ⟨qdv (m:=0),(nP func224 qpb (nP func223 QR trivial trivial) trivial),⟨qds (m:=0),trivial,trivial⟩⟩ (nP func230 qtE (nP func229 qCa (nP func228 qoR trivial trivial) trivial) (nP func241 qbe trivial trivial))))⟩))
end Go.AmZ
namespace Go.GxZ
open Go.RowKit Go.ChangeShapes Go.WideShapes Go.ChangeAt
open Go.WideMaps Go.WideElems
section
variable {H:Type}{enc:TypeId×Value->H}{P:Program}
theorem qpA(f:laidOutB P=true){W i:World}(g:Below W.heap.size W i):∀{ts:List TypeId}{vs:List Value}{ds:List (DataW H)}{ps:List MemPlace},
  (∀t∈ts,P.readableRec t=true/\t<P.types.size)->DataW.TrodAll enc P W 0 (λ _=>true) true ts vs ds ps->(∀x∈ps,x.block<W.heap.size)->
  DataW.TrodAll enc P i 0 (λ b=>decide (b<W.heap.size)) true ts vs ds ps
 |[],[],[],_,_,h,_=>h
 |t::ts,v::vs,d::ds,_,e,⟨p,q,m,l,k⟩,a=>by
   subst k;refine⟨p,q,?_,?_,rfl⟩
   .exact Below.trod f (e t (wi ..)).1 (e t (wi ..)).2 m g λ x c=>a x (vj _ c)
   .exact qpA f g (λ t j=>e t (wg _ j)) l λ x c=>a x (vb _ c)
 |[],[],_::_,_,_,h,_|[],_::_,_,_,_,h,_|_::_,[],_,_,_,h,_|_::_,_::_,[],_,_,h,_=>h.elim
theorem qJ3{f:Func}{s:ChangeSpec}{b g a:Bool}{W A:World}{d:Array Value}{ds k:List (DataW H)}{c:List MemPlace}{ts:List TypeId}{T:TypeId}
  (E:laidOutB P=true) (m:f.params.toList=ts) (C:ts.all (λ t=>P.readableRec t&&decide (t<P.types.size))=true) (u:s.vars=[])
  (n:f.resultTypes = #[T]) (G:P.underlying T=some .bool)
  (y:DataW.Whole enc P f.params.toList s.vars b W d.toList ds k c)
  (i:(s.fn H (ds++k)).results=[.lit (.bool true)]) (e:(s.fn H (ds++k)).args=ds) (l:(s.fn H (ds++k)).vars=[])
  (w:Below W.heap.size W A):s.post enc P f b g a false W d (.bool true) A:=by
 have j:=y;have o:=λ x B=>j.lt x B;obtain⟨p,q,I,z,rfl,F,D⟩:=y;rw[u]at z;have r:k=[]/\q=[]:=trodVars_none z;obtain⟨rfl,rfl⟩:=r;rw[wy]at *;refine⟨ds,[],p,[],p,[],?_,?_,?_,?_,?_,λ h=>by cases h⟩
 .exact j
 .rw[n,wy,i];exact trodAll_mk1 (shut_bool G _)
 .rw[wy,e];refine qpA E w (ts:=f.params.toList) ?_ I o;intro t v;rw[m]at v;have:=wo.1 C t v;simpa using this
 .rw[wy,l,u];rfl
 .exact w.frame _
end
end Go.GxZ
namespace Go.Proofs.YtinbdcelmgfniaaGreatDoor
theorem Tryz.own:ownKnob Tryz.prog.godebug=none:=by kernel_rfl
theorem Tryz.laidOut:laidOutB Tryz.prog=true:=by kernel_rfl
end Go.Proofs.YtinbdcelmgfniaaGreatDoor
namespace Go.AmZ
open Go Go.GxZ Go.RowKit
theorem qzh:∀(τ:Ty) (v:Val τ),j9 τ (yH τ v)=some v:=by
 intro τ v;have h:=jR τ v;cases τ<;>exact h
def qCH:List ATy->Bool
 |[]=>true
 |.val _::r=>qCH r
 |.fn::_=>false
theorem qrs:∀(ts:List ATy) (a:qbr ts),qCH ts=true->qdn ts (Qm ts a [])=some a/\qfb (Qm ts a [])=[]
 |[],_,_=>⟨rfl,rfl⟩
 |.val τ::r,a,h=>by
   let⟨d,c⟩:=qrs r a.2 h;constructor
   .show qm2 (j9 τ) (qdn r) (yH τ a.1::Qm r a.2 [])=_;simp only[qm2,qzh,d]
   .show qfb (yH τ a.1::Qm r a.2 [])=[];have:=(qcx (qzh τ a.1)).2;cases b:yH τ a.1<;>first|exact c|exact absurd b (this _ _)
 |.fn::_,_,h=>by cases h
theorem law_calls{P:Program}{f:FuncId}{c:TC}(o:qS P f (Jm (jq c f))){ts:List ATy}{fn:qbr ts->Option (qd7 [.bool])}(q:c.pf f []=some ⟨ts,[.bool],fn⟩)(m:qCH ts=true){a:qbr ts}(h:fn a=some true)
  {W:World}{d:List Value} (k:RepL (ghW W) (Qm ts a []) d):Calls P f d.toArray W λ e w'=>e=.returned (.bool true)/\Below W.heap.size W w':=by
 let⟨u,t⟩:=qrs ts a m
 have n:jq c f (Qm ts a [])=some (.v (.bool true)):=by
  unfold jq;rw[t,q];simp only;rw[u];simp only;rw[h];rfl
 have l:Jm (jq c f) emp (Qm ts a [])=some (.v (.bool true),none):=by
  show(match jq c f (Qm ts a [])with|some v=>some (v,none)|none=>none)=_;rw[n]
 have:=o.2 (ghW W) emp W (Qm ts a []) d _ (qMK W) k l;refine Calls.mono this ?_;rintro e w' ⟨v,Γ',rfl,g,_,j,_⟩;have h:=zp j;subst h;refine⟨rfl,g.os,g.tape,g.output,g.size,λ b s=>g.block b s ?_⟩;rintro(⟨i,p,_⟩|⟨r,k,_⟩)
 .exact absurd p (wK _)
 .exact absurd k (wK _)
theorem qCi{Γ:Gh}{τ:Ty}{x:Val τ}{v:Value}(h:RepL Γ (qd τ x) v.cells.toList)(l:∀u∈v.cells.toList,u.oneCell'=true)(j:τ.agg=true->τ.size≠1)(e:τ.agg=false->∀cs,v≠.agg cs):Rep Γ (yH τ x) v:=by
 have c:=h.len;rw[ye]at c
 have agg:yH τ x=.agg (qd τ x)->τ.agg=true->Rep Γ (yH τ x) v:=by
  intro f g;rw[f];have d:=j g;cases v with
  |agg cs=>exact .agg _ _ h.len l h.rep
  |_=>exact absurd (show τ.size=1 by rw[<-c];rfl) d
 have one:∀{y:AV},qd τ x=[y]->yH τ x=y->τ.agg=false->Rep Γ (yH τ x) v:=by
  intro y f i g
  have k:v.cells = #[v]:=by
   cases v with
   |agg cs=>exact absurd rfl (e g cs)
   |_=>rfl
  rw[f,k]at h;rw[i];exact h.rep 0 y v rfl rfl
 cases τ with
 |term|pair a b|one a=>exact agg rfl rfl
 |_=>exact one rfl rfl rfl
open Go.ChangeShapes Go.WideShapes Go.ChangeAt Go.WideMaps Go.WideElems
theorem qMR{P:Program}{n:Nat}{τ:Ty}{t:TypeId}{W:World}{zx:Nat}{v:Value}(c:tyM P n τ t=true)(f:Value.okWide P W .any zx t v):τ.agg=false->∀cs,v≠.agg cs:=by
 intro g cs;cases n with
 |zero=>cases τ<;>simp[tyM]at c
 |succ n=>
 cases τ with
 |map a b=>simp[tyM]at c
 |int k=>
   simp only[tyM]at c;split at c
   .rename_i d;obtain⟨_,rfl⟩:=okWide_int d f;intro h;cases h
   .cases c
 |bool=>
   simp only[tyM]at c;split at c
   .rename_i d;obtain⟨_,rfl⟩:=okWide_bool d f;intro h;cases h
   .cases c
 |str=>
   simp only[tyM]at c;split at c
   .rename_i d;obtain⟨_,rfl⟩:=okWide_string d f;intro h;cases h
   .cases c
 |list a=>
   simp only[tyM]at c;split at c
   .rename_i e d;obtain⟨_,_,_,rfl⟩:=okWide_slice d f;intro h;cases h
   .cases c
 |_=>cases g
theorem arg_val{H:Type}{enc:TypeId×Value->H}{P:Program}{W:World}{n:Nat}{τ:Ty}{t:TypeId}{v:Value}{d:DataW H}{ps:List MemPlace}{zx:Nat}(b:tyM P n τ t=true)(f:τ.agg=true->τ.size≠1)(e:Value.okWide P W .any zx t v)
  (h:DataW.Trod enc P W 0 (λ _=>true) true t v d ps) (c:∀k∈d.weights P t,k<=reachBytes):∃x:Val τ,Rep (ghW W) (yH τ x) v/\qjc τ x:=by
 let⟨a,g⟩:=h;let⟨x,l,j,i⟩:=qJD a n τ t v.cells.toList (d,ps) b g c;exact⟨x,qCi l j f (qMR b e),i⟩
end Go.AmZ
