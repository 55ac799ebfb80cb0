/- NetworkOnce answers true for every list of operations, number and order. No condition. -/

import Derived.Test.YtckmkimhkhilgaaGreatM5
import Derived.Test.YtckmkimhkhilgaaGreatM6
set_option linter.unusedVariables false
set_option linter.unusedSimpArgs false
namespace Go.Proofs.YtckmkimhkhilgaaGreat
open Go.ChangeShapes Go.WideShapes Go.ChangeAt Go.RowKit Go.GxZ
open Go.WideMaps Go.WideElems
open Go.ChangeMaps (setBlock shut_map_nil open_string shut_string keptBut_setBlock frozen?_setBlock heap_setBlock_same)
set_option maxRecDepth 100000 in
theorem qsn (os:Os) (started:os.Started) (H:Type) (enc:TypeId × Value->H) :
  ReturnsInHanded {} Tryz.checked os 7 .any (Rows.networkOnceSpec.pre6 enc Tryz.prog Tryz.f7 Rows.networkOnceRow.domain false) (Rows.networkOnceSpec.post enc Tryz.prog Tryz.f7 false true false false):=by
 refine returnsInHanded_of_change_sized (C:=Tryz.checked) Tryz.own started (by kernel_rfl) Tryz.func7
  (ChangeSpec.witness6 (enc:=enc) (C:=Tryz.checked) false ⟨#[],#[.slice none 0 0,.int .i64 0,.slice none 0 0],[]⟩ 8 (by kernel_rfl) (by kernel_rfl) (by kernel_rfl) (by kernel_rfl)) ?_
 intro W zu args ds gs before hval0 hW hcnd hsz0 _
 have hval:∀ (j:Nat) t v,Tryz.f7.params[j]? = some t->args[j]? = some v->Value.okWide Tryz.prog W .any zu t v:=hval0
 have hW':=hW
 obtain ⟨p,q,hA0,hV,rfl,hfz,hnd⟩:=hW
 have hA:DataW.TrodAll enc Tryz.prog W 0 (λ _=>true) true Tryz.f7.params.toList args.toList ds p:=hA0
 rw [Tryz.params7] at hA hval
 obtain ⟨v0,vs0,d0,ds0,p0,q0,hargs,rfl,rfl,h0,r0⟩:=trodAll_cons hA
 obtain ⟨v1,vs1,d1,ds1,p1,q1,rfl,rfl,rfl,h1,r1⟩:=trodAll_cons r0
 obtain ⟨v2,vs2,d2,ds2,p2,q2,rfl,rfl,rfl,h2,r2⟩:=trodAll_cons r1
 obtain ⟨rfl,rfl,rfl⟩:=trodAll_nil r2
 obtain rfl:args = #[v0,v1,v2]:=by cases args;simp_all
 obtain ⟨rfl,rfl⟩:=trodVars_none hV
 have hsz:(DataW.weightsEach Tryz.prog [46,3,61] [d0,d1,d2]).all (· <= reachBytes)=true:=hsz0
 obtain ⟨x0,e0,f0⟩:=AmZ.arg_val (τ := .list (.pair (.int .u8) (.pair (.int .i64) (.pair (.int .i64) (.pair (.int .u8) (.pair .term (.int .u8))))))) (n:=30) (by kernel_rfl) (by decide) (hval 0 46 v0 rfl rfl) h0 (λ k hk=>of_decide_eq_true (List.all_eq_true.1 hsz k (DataW.weights_mem_each (j:=0) rfl rfl k hk)))
 obtain ⟨x1,e1,f1⟩:=AmZ.arg_val (τ := .int .i64) (n:=30) (by kernel_rfl) (by decide) (hval 1 3 v1 rfl rfl) h1 (λ k hk=>of_decide_eq_true (List.all_eq_true.1 hsz k (DataW.weights_mem_each (j:=1) rfl rfl k hk)))
 obtain ⟨x2,e2,f2⟩:=AmZ.arg_val (τ := .list .bool) (n:=30) (by kernel_rfl) (by decide) (hval 2 61 v2 rfl rfl) h2 (λ k hk=>of_decide_eq_true (List.all_eq_true.1 hsz k (DataW.weights_mem_each (j:=2) rfl rfl k hk)))
 clear hA0 hval0
 obtain ⟨B,hB⟩:=AmZ.networkOnce_ev x0 x1 x2 f0 f1 f2
 refine (AmZ.law_calls (c:=AmZ.tb.at (B+1)) (ts:=[.val (.list (.pair (.int .u8) (.pair (.int .i64) (.pair (.int .i64) (.pair (.int .u8) (.pair .term (.int .u8))))))),.val (.int .i64),.val (.list .bool)]) (fn := λ x=>AmZ.law31_NetworkOnce (B+1) x.1 x.2.1 x.2.2.1) (a:=(x0,x1,x2,())) (AmZ.Tb.prim AmZ.tb_ok (B+1) (by kernel_rfl)) (by kernel_rfl) rfl (hB (B+1) (B+1) (Nat.le_succ _) (Nat.le_succ _)) (AmZ.RepL.cons e0 (AmZ.RepL.cons e1 (AmZ.RepL.cons e2 (AmZ.RepL.nil))))).mono λ e W' ⟨he,hb⟩=>?_
 exact ⟨_,he,qK9 Tryz.laidOut rfl (by kernel_rfl) rfl rfl Tryz.underlying4 hW' rfl rfl rfl hb⟩
theorem networkOnce_holds:Rows.NetworkOnceSaid :=
 OpenClaim.holds_of_wide 7 Tryz.f7 rfl rfl rfl rfl rfl rfl rfl ⟨rfl,rfl,rfl,rfl,rfl⟩ rfl rfl rfl rfl rfl (by kernel_rfl) Tryz.func7 (by kernel_rfl)
  (of_decide_eq_true (by kernel_rfl)) (by unfold Func.isWrapper;first | (rw [if_pos (by decide +kernel)];kernel_rfl) | (rw [if_neg (by decide +kernel)];exact ⟨rfl,rfl⟩))
  (λ os started H enc _=>qsn os started H enc)
#print axioms networkOnce_holds
end Go.Proofs.YtckmkimhkhilgaaGreat
