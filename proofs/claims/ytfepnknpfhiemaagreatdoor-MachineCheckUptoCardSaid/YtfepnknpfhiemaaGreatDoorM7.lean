/- Part 7 of what the proofs stand on: plain functions of the program, and that they are its functions. -/
import Derived.Test.YtfepnknpfhiemaaGreatDoorM5
import Derived.Test.YtfepnknpfhiemaaGreatDoorM6
import Derived.LaidLaws
import Derived.LaidMore
import Derived.Lay
import Derived.MakeChecks
import Derived.Deep.DeepHandedRow
import Derived.Test.YtfepnknpfhiemaaGreatDoorCards
import Derived.LaidByTextLater
import Derived.LaidOnce
import Derived.SevenTiedAt
set_option linter.unusedVariables false
set_option linter.unusedSimpArgs false
set_option linter.defProp false
noncomputable section
open Option renaming some->Z,none->U
open Bool renaming true->O,false->Y
open Array renaming toList->V
open Go renaming Value->aj,TypeId->aQ
namespace Go.Proofs.YtfepnknpfhiemaaGreatDoor
open Go.ChangeShapes Go.WideShapes Go.ChangeAt Go.RowKit Go.GxZ
open Go.WideMaps Go.WideElems
open Go.ChangeMaps (setBlock shut_map_nil open_string shut_string keptBut_setBlock frozen?_setBlock heap_setBlock_same)
set_option maxRecDepth 100000 in
def qfh(b:Os){H:Type}(a:aQ×aj->H):DataW.whole a Tryz.prog ((World.laidAll Tryz.prog b Rows.machineCheckUptoRow.laid).forCall (λ _ _=>0) ⟨#[],#[.agg #[.int .i64 0,.slice U 0 0,.slice U 0 0,.slice U 0 0],.agg #[.int .i64 0,.slice U 0 0,.int .i64 0,.int .i64 0,.int .i64 0,.int .i64 0,.slice U 0 0]],[]⟩).memory (V Tryz.f9.params) Rows.machineCheckSpec.vars Y (V (#[.agg #[.int .i64 0,.slice U 0 0,.slice U 0 0,.slice U 0 0],.agg #[.int .i64 0,.slice U 0 0,.int .i64 0,.int .i64 0,.int .i64 0,.int .i64 0,.slice U 0 0]]:aL aj)) 8=Z ([.agg [.lit (.int .i64 0),.nil,.nil,.nil],.agg [.agg [.lit (.int .i64 0),.nil],.lit (.int .i64 0),.lit (.int .i64 0),.lit (.int .i64 0),.lit (.int .i64 0),.nil]],[],[]):=by kernel_rfl
set_option maxRecDepth 100000 in
def Sh(a:Os):Input.okWideB Tryz.prog ((World.laidAll Tryz.prog a Rows.machineCheckUptoRow.laid).forCall (λ _ _=>0) ⟨#[],#[.agg #[.int .i64 0,.slice U 0 0,.slice U 0 0,.slice U 0 0],.agg #[.int .i64 0,.slice U 0 0,.int .i64 0,.int .i64 0,.int .i64 0,.int .i64 0,.slice U 0 0]],[]⟩) 9 ⟨#[],#[.agg #[.int .i64 0,.slice U 0 0,.slice U 0 0,.slice U 0 0],.agg #[.int .i64 0,.slice U 0 0,.int .i64 0,.int .i64 0,.int .i64 0,.int .i64 0,.slice U 0 0]],[]⟩=O:=by kernel_rfl
set_option maxRecDepth 100000 in
def qfc(l:Os)(d:l.Started)(H:Type)(h:aQ×aj->H)(F:Stop.Interp):
  ReturnsInHanded {} Tryz.checked l 9 .any ((Rows.OpenSpec.upto Rows.machineCheckSpec).preRow h Tryz.prog Tryz.f9 Rows.machineCheckUptoRow.domain Y Rows.machineCheckUptoRow.laid) (((Rows.OpenSpec.upto Rows.machineCheckSpec).at F).post h Tryz.prog Tryz.f9 Y O Y Y):=by
 refine returnsInHanded_of_row (C:=Tryz.checked) (s:=Rows.OpenSpec.upto Rows.machineCheckSpec) Tryz.own d (by kernel_rfl) Tryz.func9
  ⟨World.laidAll Tryz.prog l Rows.machineCheckUptoRow.laid,λ _ _=>0,⟨#[],#[.agg #[.int .i64 0,.slice U 0 0,.slice U 0 0,.slice U 0 0],.agg #[.int .i64 0,.slice U 0 0,.int .i64 0,.int .i64 0,.int .i64 0,.int .i64 0,.slice U 0 0]],[]⟩,World.laidAll_os _ _ _,World.shaped_of_ZipB (by kernel_rfl) (by kernel_rfl),(Input.okWide_of_okWideB (base:=0) (Sh l)).1,(Input.okWide_of_okWideB (Sh l)).2,
   OpenSpec.preRow_of_cond 8 (qfh l h) (by kernel_rfl) (λ k r=>by cases r;kernel_rfl) (by kernel_rfl) (by rw[MakeChecks.laidMetH_plain _ _ _ (by kernel_rfl)];exact laidMet_laidAll _ (by kernel_rfl) (by kernel_rfl)),by
    simp only[Assume.holds];exact⟨by simp,by simp,λ _=>Modest.zero,by simp,by simp⟩⟩ ?_
 intro W ci b ds gs w f L K i m _ _ _;have g:∀(j:Nat) t v,Tryz.f9.params[j]?=Z t->b[j]?=Z v->Value.okWide Tryz.prog W .any ci t v:=f;have A:=L;obtain⟨p,q,u,hV,rfl,an,ad⟩:=L;have M:DataW.TrodAll h Tryz.prog W 0 (λ _=>O) O (V Tryz.f9.params) (V b) ds p:=u;rw[Tryz.params9]at M g;obtain⟨I,R,P,ax,p0,q0,z,rfl,rfl,h0,T⟩:=trodAll_cons M;obtain⟨G,Q,N,ar,p1,q1,rfl,rfl,rfl,h1,S⟩:=trodAll_cons T;obtain⟨rfl,rfl,rfl⟩:=trodAll_nil S;obtain rfl:b = #[I,G]:=by cases b;simp_all
 obtain⟨rfl,rfl⟩:=trodVars_none hV;have o:(DataW.weightsEach Tryz.prog [25,34] [P,N]).all (· <= reachBytes)=O:=m;have y:Rows.uptoBulkAll [P,N]<=1048576:=bI (i _ rfl);simp only[Rows.uptoBulkAll]at y;let⟨E,e0,f0,b0⟩:=AmZ.arg_val (τ:=AmZ.tMac) (n:=30) (by kernel_rfl) (by decide) (g 0 25 I rfl rfl) h0 (λ k r=>bI (bB.1 o k (DataW.weights_mem_each (j:=0) rfl rfl k r)));let⟨D,e1,f1,b1⟩:=AmZ.arg_val (τ:=AmZ.tSta) (n:=30) (by kernel_rfl) (by decide) (g 1 34 G rfl rfl) h1 (λ k r=>bI (bB.1 o k (DataW.weights_mem_each (j:=1) rfl rfl k r)));clear u f;let⟨B,hB⟩:=AmZ.machineCheck_fit E D f0 f1 (by omega);refine(AmZ.law_calls (c:=AmZ.tb.at (B+1)) (ts:=[.val (AmZ.tMac),.val (AmZ.tSta)]) (fn:=λ x=>AmZ.law25_MachineCheck (B+1) x.1 x.2.1) (a:=(E,D,())) (AmZ.Tb.prim AmZ.tb_ok (B+1) (by kernel_rfl)) (by kernel_rfl) rfl (hB (B+1) (B+1) (eG _) (eG _)) (AmZ.RepL.cons e0 (AmZ.RepL.cons e1 AmZ.RepL.nil))).mono λ e W' ⟨he,hb⟩=>?_;exact⟨_,he,qqs Tryz.laidOut rfl (by kernel_rfl) rfl rfl Tryz.underlying4 A rfl rfl rfl hb⟩
end Go.Proofs.YtfepnknpfhiemaaGreatDoor
