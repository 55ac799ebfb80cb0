/- NetworkWaits answers true for every list of operations. No condition. -/

import Derived.Test.YtckmkimhkhilgaaGreatM5
import Derived.Test.YtckmkimhkhilgaaGreatM6
set_option linter.unusedVariables false
set_option linter.unusedSimpArgs false
namespace Go.Proofs.YtckmkimhkhilgaaGreat
open Go.ChangeShapes Go.WideShapes Go.ChangeAt Go.RowKit Go.GxZ
open Go.WideMaps Go.WideElems
open Go.ChangeMaps (setBlock shut_map_nil open_string shut_string keptBut_setBlock frozen?_setBlock heap_setBlock_same)
set_option maxRecDepth 100000 in
theorem qq6 (os:Os) (started:os.Started) (H:Type) (enc:TypeId × Value->H) :
  ReturnsInHanded {} Tryz.checked os 8 .any (Rows.networkWaitsSpec.pre6 enc Tryz.prog Tryz.f8 Rows.networkWaitsRow.domain false) (Rows.networkWaitsSpec.post enc Tryz.prog Tryz.f8 false true false false):=by
 refine returnsInHanded_of_change_sized (C:=Tryz.checked) Tryz.own started (by kernel_rfl) Tryz.func8
  (ChangeSpec.witness6 (enc:=enc) (C:=Tryz.checked) false ⟨#[],#[.slice none 0 0],[]⟩ 8 (by kernel_rfl) (by kernel_rfl) (by kernel_rfl) (by kernel_rfl)) ?_
 intro W zu args ds gs before hval0 hW hcnd hsz0 _
 have hval:∀ (j:Nat) t v,Tryz.f8.params[j]? = some t->args[j]? = some v->Value.okWide Tryz.prog W .any zu t v:=hval0
 have hW':=hW
 obtain ⟨p,q,hA0,hV,rfl,hfz,hnd⟩:=hW
 have hA:DataW.TrodAll enc Tryz.prog W 0 (λ _=>true) true Tryz.f8.params.toList args.toList ds p:=hA0
 rw [Tryz.params8] at hA hval
 obtain ⟨v0,vs0,d0,ds0,p0,q0,hargs,rfl,rfl,h0,r0⟩:=trodAll_cons hA
 obtain ⟨rfl,rfl,rfl⟩:=trodAll_nil r0
 obtain rfl:args = #[v0]:=by cases args;simp_all
 obtain ⟨rfl,rfl⟩:=trodVars_none hV
 have hsz:(DataW.weightsEach Tryz.prog [46] [d0]).all (· <= reachBytes)=true:=hsz0
 obtain ⟨x0,e0,f0⟩:=AmZ.arg_val (τ := .list (.pair (.int .u8) (.pair (.int .i64) (.pair (.int .i64) (.pair (.int .u8) (.pair .term (.int .u8))))))) (n:=30) (by kernel_rfl) (by decide) (hval 0 46 v0 rfl rfl) h0 (λ k hk=>of_decide_eq_true (List.all_eq_true.1 hsz k (DataW.weights_mem_each (j:=0) rfl rfl k hk)))
 clear hA0 hval0
 obtain ⟨B,hB⟩:=AmZ.networkWaits_ev x0 f0
 refine (AmZ.law_calls (c:=AmZ.tb.at (B+1)) (ts:=[.val (.list (.pair (.int .u8) (.pair (.int .i64) (.pair (.int .i64) (.pair (.int .u8) (.pair .term (.int .u8)))))))]) (fn := λ x=>AmZ.law31_NetworkWaits (B+1) x.1) (a:=(x0,())) (AmZ.Tb.prim AmZ.tb_ok (B+1) (by kernel_rfl)) (by kernel_rfl) rfl (hB (B+1) (B+1) (Nat.le_succ _) (Nat.le_succ _)) (AmZ.RepL.cons e0 (AmZ.RepL.nil))).mono λ e W' ⟨he,hb⟩=>?_
 exact ⟨_,he,qLs Tryz.laidOut rfl (by kernel_rfl) rfl rfl Tryz.underlying4 hW' rfl rfl rfl hb⟩
theorem networkWaits_holds:Rows.NetworkWaitsSaid :=
 OpenClaim.holds_of_wide 8 Tryz.f8 rfl rfl rfl rfl rfl rfl rfl ⟨rfl,rfl,rfl,rfl,rfl⟩ rfl rfl rfl rfl rfl (by kernel_rfl) Tryz.func8 (by kernel_rfl)
  (of_decide_eq_true (by kernel_rfl)) (by unfold Func.isWrapper;first | (rw [if_pos (by decide +kernel)];kernel_rfl) | (rw [if_neg (by decide +kernel)];exact ⟨rfl,rfl⟩))
  (λ os started H enc _=>qq6 os started H enc)
#print axioms networkWaits_holds
end Go.Proofs.YtckmkimhkhilgaaGreat
