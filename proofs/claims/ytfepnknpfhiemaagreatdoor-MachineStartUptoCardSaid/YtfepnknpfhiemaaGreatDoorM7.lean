/- Part 7 of what the proofs stand on: plain functions of the program, and that they are its functions. -/
import Derived.Test.YtfepnknpfhiemaaGreatDoorM5
import Derived.Test.YtfepnknpfhiemaaGreatDoorM6
import Derived.LaidLaws
import Derived.LaidMore
import Derived.Lay
import Derived.MakeChecks
import Derived.Deep.DeepHandedRow
import Derived.Test.YtfepnknpfhiemaaGreatDoorCards
import Derived.LaidByTextLater
import Derived.LaidOnce
import Derived.SevenTiedAt
set_option linter.unusedVariables false
set_option linter.unusedSimpArgs false
set_option linter.defProp false
noncomputable section
open Option renaming some->Z,none->U
open Bool renaming true->O,false->Y
open Array renaming toList->V
open Go renaming Value->aj,TypeId->aQ
namespace Go.Proofs.YtfepnknpfhiemaaGreatDoor
open Go.ChangeShapes Go.WideShapes Go.ChangeAt Go.RowKit Go.GxZ
open Go.WideMaps Go.WideElems
open Go.ChangeMaps (setBlock shut_map_nil open_string shut_string keptBut_setBlock frozen?_setBlock heap_setBlock_same)
set_option maxRecDepth 100000 in
def qeA(b:Os){H:Type}(a:aQ×aj->H):DataW.whole a Tryz.prog ((World.laidAll Tryz.prog b Rows.machineStartUptoRow.laid).forCall (λ _ _=>0) ⟨#[],#[.agg #[.int .i64 0,.slice U 0 0,.slice U 0 0,.slice U 0 0],.agg #[.int .i64 0,.slice U 0 0],.int .i64 0],[]⟩).memory (V Tryz.f3.params) Rows.machineStartSpec.vars Y (V (#[.agg #[.int .i64 0,.slice U 0 0,.slice U 0 0,.slice U 0 0],.agg #[.int .i64 0,.slice U 0 0],.int .i64 0]:aL aj)) 8=Z ([.agg [.lit (.int .i64 0),.nil,.nil,.nil],.agg [.lit (.int .i64 0),.nil],.lit (.int .i64 0)],[],[]):=by kernel_rfl
set_option maxRecDepth 100000 in
def R5(a:Os):Input.okWideB Tryz.prog ((World.laidAll Tryz.prog a Rows.machineStartUptoRow.laid).forCall (λ _ _=>0) ⟨#[],#[.agg #[.int .i64 0,.slice U 0 0,.slice U 0 0,.slice U 0 0],.agg #[.int .i64 0,.slice U 0 0],.int .i64 0],[]⟩) 3 ⟨#[],#[.agg #[.int .i64 0,.slice U 0 0,.slice U 0 0,.slice U 0 0],.agg #[.int .i64 0,.slice U 0 0],.int .i64 0],[]⟩=O:=by kernel_rfl
set_option maxRecDepth 100000 in
def qef(o:Os)(f:o.Started)(H:Type)(h:aQ×aj->H)(F:Stop.Interp):
  ReturnsInHanded {} Tryz.checked o 3 .any ((Rows.OpenSpec.upto Rows.machineStartSpec).preRow h Tryz.prog Tryz.f3 Rows.machineStartUptoRow.domain Y Rows.machineStartUptoRow.laid) (((Rows.OpenSpec.upto Rows.machineStartSpec).at F).post h Tryz.prog Tryz.f3 Y O Y Y):=by
 refine returnsInHanded_of_row (C:=Tryz.checked) (s:=Rows.OpenSpec.upto Rows.machineStartSpec) Tryz.own f (by kernel_rfl) Tryz.func3
  ⟨World.laidAll Tryz.prog o Rows.machineStartUptoRow.laid,λ _ _=>0,⟨#[],#[.agg #[.int .i64 0,.slice U 0 0,.slice U 0 0,.slice U 0 0],.agg #[.int .i64 0,.slice U 0 0],.int .i64 0],[]⟩,World.laidAll_os _ _ _,World.shaped_of_ZipB (by kernel_rfl) (by kernel_rfl),(Input.okWide_of_okWideB (base:=0) (R5 o)).1,(Input.okWide_of_okWideB (R5 o)).2,
   OpenSpec.preRow_of_cond 8 (qeA o h) (by kernel_rfl) (λ k l=>by cases l;kernel_rfl) (by kernel_rfl) (by rw[MakeChecks.laidMetH_plain _ _ _ (by kernel_rfl)];exact laidMet_laidAll _ (by kernel_rfl) (by kernel_rfl)),by
    simp only[Assume.holds];exact⟨by simp,by simp,λ _=>Modest.zero,by simp,by simp⟩⟩ ?_
 intro W cj d ds gs w g N M m r _ _ _;have b:∀(j:Nat) t v,Tryz.f3.params[j]?=Z t->d[j]?=Z v->Value.okWide Tryz.prog W .any cj t v:=g;have A:=N;obtain⟨p,q,u,hV,rfl,ax,ar⟩:=N;have P:DataW.TrodAll h Tryz.prog W 0 (λ _=>O) O (V Tryz.f3.params) (V d) ds p:=u;rw[Tryz.params3]at P b;obtain⟨L,an,S,a0,p0,q0,z,rfl,rfl,h0,r0⟩:=trodAll_cons P;obtain⟨K,ad,R,aE,p1,q1,rfl,rfl,rfl,h1,r1⟩:=trodAll_cons r0;obtain⟨I,T,Q,az,p2,q2,rfl,rfl,rfl,h2,r2⟩:=trodAll_cons r1;obtain⟨rfl,rfl,rfl⟩:=trodAll_nil r2;obtain rfl:d = #[L,K,I]:=by cases d;simp_all
 obtain⟨rfl,rfl⟩:=trodVars_none hV;have i:(DataW.weightsEach Tryz.prog [25,28,3] [S,R,Q]).all (· <= reachBytes)=O:=r;have y:Rows.uptoBulkAll [S,R,Q]<=1048576:=bG (m _ rfl);simp only[Rows.uptoBulkAll]at y;let⟨G,e0,f0,b0⟩:=AmZ.arg_val (τ:=AmZ.tMac) (n:=30) (by kernel_rfl) (by decide) (b 0 25 L rfl rfl) h0 (λ k l=>bG (bz.1 i k (DataW.weights_mem_each (j:=0) rfl rfl k l)));let⟨E,e1,f1,b1⟩:=AmZ.arg_val (τ:=AmZ.tSes) (n:=30) (by kernel_rfl) (by decide) (b 1 28 K rfl rfl) h1 (λ k l=>bG (bz.1 i k (DataW.weights_mem_each (j:=1) rfl rfl k l)));let⟨D,e2,f2,b2⟩:=AmZ.arg_val (τ:=.int .i64) (n:=30) (by kernel_rfl) (by decide) (b 2 3 I rfl rfl) h2 (λ k l=>bG (bz.1 i k (DataW.weights_mem_each (j:=2) rfl rfl k l)));clear u g;let⟨B,hB⟩:=AmZ.machineStart_fit G E D f0 f1 f2 (by omega);refine(AmZ.law_calls (c:=AmZ.tb.at (B+1)) (ts:=[.val (AmZ.tMac),.val (AmZ.tSes),.val (.int .i64)]) (fn:=λ x=>AmZ.law25_MachineStart (B+1) x.1 x.2.1 x.2.2.1) (a:=(G,E,D,())) (AmZ.Tb.prim AmZ.tb_ok (B+1) (by kernel_rfl)) (by kernel_rfl) rfl (hB (B+1) (B+1) (eB _) (eB _)) (AmZ.RepL.cons e0 (AmZ.RepL.cons e1 (AmZ.RepL.cons e2 AmZ.RepL.nil)))).mono λ e W' ⟨he,hb⟩=>?_;exact⟨_,he,qpd Tryz.laidOut rfl (by kernel_rfl) rfl rfl Tryz.underlying4 A rfl rfl rfl hb⟩
end Go.Proofs.YtfepnknpfhiemaaGreatDoor
