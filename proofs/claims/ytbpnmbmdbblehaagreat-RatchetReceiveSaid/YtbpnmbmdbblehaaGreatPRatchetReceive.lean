/- RatchetReceive answers true for every state and message. No condition. -/
import Derived.Test.YtbpnmbmdbblehaaGreatM5
import Derived.Test.YtbpnmbmdbblehaaGreatM6
set_option linter.unusedVariables false
set_option linter.unusedSimpArgs false
namespace Go.Proofs.YtbpnmbmdbblehaaGreat
open Go.ChangeShapes Go.WideShapes Go.ChangeAt Go.RowKit Go.GxYtbpnmbmdbblehaaGreat
open Go.WideMaps Go.WideElems
open Go.ChangeMaps (setBlock shut_map_nil open_string shut_string keptBut_setBlock frozen?_setBlock heap_setBlock_same)
set_option maxRecDepth 100000 in
theorem qlx (os:Os) (started:os.Started) (H:Type) (enc:TypeId × Value→H) :
  ReturnsInHanded {} Tryz.checked os 4 .any (Rows.ratchetReceiveSpec.pre6 enc Tryz.prog Tryz.f4 Rows.ratchetReceiveRow.domain false) (Rows.ratchetReceiveSpec.post enc Tryz.prog Tryz.f4 false true false false):=by
 refine returnsInHanded_of_change_sized (C:=Tryz.checked) Tryz.own started (by kernel_rfl) Tryz.func4
  (ChangeSpec.witness6 (enc:=enc) (C:=Tryz.checked) false ⟨#[],#[.agg #[.int .i64 0,.string ⟨#[]⟩,.int .i64 0,.slice none 0 0,.int .i64 0,.slice none 0 0,.int .i64 0],.agg #[.int .i64 0,.int .i64 0,.string ⟨#[]⟩,.int .i64 0,.slice none 0 0]],[]⟩ 8 (by kernel_rfl) (by kernel_rfl) (by kernel_rfl) (by kernel_rfl)) ?_
 intro W z8 args ds gs before hval0 hW hcnd hsz0 _
 have hval:∀ (j:Nat) t v,Tryz.f4.params[j]? = some t→args[j]? = some v→Value.okWide Tryz.prog W .any z8 t v:=hval0
 have hW':=hW
 obtain ⟨p,q,hA0,hV,rfl,hfz,hnd⟩:=hW
 have hA:DataW.TrodAll enc Tryz.prog W 0 (λ _=>true) true Tryz.f4.params.toList args.toList ds p:=hA0
 rw [Tryz.params4] at hA hval
 obtain ⟨v0,vs0,d0,ds0,p0,q0,hargs,rfl,rfl,h0,r0⟩:=trodAll_cons hA
 obtain ⟨v1,vs1,d1,ds1,p1,q1,rfl,rfl,rfl,h1,r1⟩:=trodAll_cons r0
 obtain ⟨rfl,rfl,rfl⟩:=trodAll_nil r1
 obtain rfl:args = #[v0,v1]:=by cases args;simp_all
 obtain ⟨rfl,rfl⟩:=trodVars_none hV
 have hsz:(DataW.weightsEach Tryz.prog [29,39] [d0,d1]).all (· ≤ reachBytes)=true:=hsz0
 obtain ⟨x0,e0,f0⟩:=AmYtbpnmbmdbblehaaGreat.arg_val (τ := .pair .term (.pair (.int .i64) (.pair (.list (.pair (.int .i64) .term)) (.int .i64)))) (n:=30) (by kernel_rfl) (by decide) (hval 0 29 v0 rfl rfl) h0 (λ k hk=>of_decide_eq_true (List.all_eq_true.1 hsz k (DataW.weights_mem_each (j:=0) rfl rfl k hk)))
 obtain ⟨x1,e1,f1⟩:=AmYtbpnmbmdbblehaaGreat.arg_val (τ := .pair (.int .i64) .term) (n:=30) (by kernel_rfl) (by decide) (hval 1 39 v1 rfl rfl) h1 (λ k hk=>of_decide_eq_true (List.all_eq_true.1 hsz k (DataW.weights_mem_each (j:=1) rfl rfl k hk)))
 clear hA0 hval0
 obtain ⟨B,hB⟩:=AmYtbpnmbmdbblehaaGreat.ratchetReceive_ev x0 x1 f0 f1
 refine (AmYtbpnmbmdbblehaaGreat.law_calls (c:=AmYtbpnmbmdbblehaaGreat.tb.at (B+1)) (ts:=[.val (.pair .term (.pair (.int .i64) (.pair (.list (.pair (.int .i64) .term)) (.int .i64)))),.val (.pair (.int .i64) .term)]) (fn := λ x=>AmYtbpnmbmdbblehaaGreat.law53_RatchetReceive (B+1) x.1 x.2.1) (a:=(x0,x1,())) (AmYtbpnmbmdbblehaaGreat.Tb.prim AmYtbpnmbmdbblehaaGreat.tb_ok (B+1) (by kernel_rfl)) (by kernel_rfl) rfl (hB (B+1) (B+1) (Nat.le_succ _) (Nat.le_succ _)) (AmYtbpnmbmdbblehaaGreat.RepL.cons e0 (AmYtbpnmbmdbblehaaGreat.RepL.cons e1 (AmYtbpnmbmdbblehaaGreat.RepL.nil)))).mono λ e W' ⟨he,hb⟩=>?_
 exact ⟨_,he,qHU Tryz.laidOut rfl (by kernel_rfl) rfl rfl Tryz.underlying4 hW' rfl rfl rfl hb⟩
theorem ratchetReceive_holds:Rows.RatchetReceiveSaid :=
 OpenClaim.holds_of_wide 4 Tryz.f4 rfl rfl rfl rfl rfl rfl rfl ⟨rfl,rfl,rfl,rfl,rfl⟩ rfl rfl rfl rfl rfl (by kernel_rfl) Tryz.func4 (by kernel_rfl)
  (of_decide_eq_true (by kernel_rfl)) (by unfold Func.isWrapper;first | (rw [if_pos (by decide +kernel)];kernel_rfl) | (rw [if_neg (by decide +kernel)];exact ⟨rfl,rfl⟩))
  (λ os started H enc _=>qlx os started H enc)
#print axioms ratchetReceive_holds
end Go.Proofs.YtbpnmbmdbblehaaGreat
