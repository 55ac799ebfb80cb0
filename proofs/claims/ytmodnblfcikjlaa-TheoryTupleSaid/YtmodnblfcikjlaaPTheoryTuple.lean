/- TheoryTuple answers true for every list of terms. No condition. -/
import Derived.Test.YtmodnblfcikjlaaM5
set_option linter.unusedVariables false
set_option linter.unusedSimpArgs false
namespace Go.Proofs.Ytmodnblfcikjlaa
open Go.ChangeShapes Go.WideShapes Go.ChangeAt Go.RowKit Go.GxYtmodnblfcikjlaa
open Go.WideMaps Go.WideElems
open Go.ChangeMaps (setBlock shut_map_nil open_string shut_string keptBut_setBlock frozen?_setBlock heap_setBlock_same)
set_option maxRecDepth 100000 in
theorem theoryTuple_lifted (os : Os) (started : os.Started) (H : Type) (enc : TypeId × Value → H) :
    ReturnsInHanded {} Try.checked os 4 .any (Rows.theoryTupleSpec.pre6 enc Try.prog Try.f4 Rows.theoryTupleRow.domain false) (Rows.theoryTupleSpec.post enc Try.prog Try.f4 false true false false) := by
  refine returnsInHanded_of_change_sized (C := Try.checked) Try.own started (by kernel_rfl) Try.func4
    (ChangeSpec.witness6 (enc := enc) (C := Try.checked) false ⟨#[], #[.slice none 0 0], []⟩ 8 (by kernel_rfl) (by kernel_rfl) (by kernel_rfl) (by kernel_rfl)) ?_
  intro W base args ds gs before hval0 hW hcnd hsz0 _
  have hval : ∀ (j : Nat) t v, Try.f4.params[j]? = some t → args[j]? = some v → Value.okWide Try.prog W .any base t v := hval0
  have hW' := hW
  obtain ⟨p, q, hA0, hV, rfl, hfz, hnd⟩ := hW
  have hA : DataW.TrodAll enc Try.prog W 0 (fun _ => true) true Try.f4.params.toList args.toList ds p := hA0
  rw [Try.params4] at hA hval
  obtain ⟨v0, vs0, d0, ds0, p0, q0, hargs, rfl, rfl, h0, r0⟩ := trodAll_cons hA
  obtain ⟨rfl, rfl, rfl⟩ := trodAll_nil r0
  obtain rfl : args = #[v0] := by cases args; simp_all
  obtain ⟨rfl, rfl⟩ := trodVars_none hV
  have hsz : (DataW.weightsEach Try.prog [22] [d0]).all (· ≤ reachBytes) = true := hsz0
  obtain ⟨x0, e0, f0⟩ := AmYtmodnblfcikjlaa.arg_val (τ := .list .term) (n := 30) (by kernel_rfl) (by decide) (hval 0 22 v0 rfl rfl) h0 (fun k hk => of_decide_eq_true (List.all_eq_true.1 hsz k (DataW.weights_mem_each (j := 0) rfl rfl k hk)))
  clear hA0 hval0
  obtain ⟨B, hB⟩ := AmYtmodnblfcikjlaa.theoryTuple_ev x0 f0
  refine (AmYtmodnblfcikjlaa.law_calls (c := AmYtmodnblfcikjlaa.tb.at (B + 1)) (ts := [.val (.list .term)]) (fn := fun x => AmYtmodnblfcikjlaa.law09_TheoryTuple (B + 1) x.1) (a := (x0, ())) (AmYtmodnblfcikjlaa.Tb.prim AmYtmodnblfcikjlaa.tb_ok (B + 1) (by kernel_rfl)) (by kernel_rfl) rfl (hB (B + 1) (B + 1) (Nat.le_succ _) (Nat.le_succ _)) (AmYtmodnblfcikjlaa.RepL.cons e0 (AmYtmodnblfcikjlaa.RepL.nil))).mono fun e W' ⟨he, hb⟩ => ?_
  exact ⟨_, he, law_post Try.laidOut rfl (by kernel_rfl) rfl rfl Try.underlying4 hW' rfl rfl rfl hb⟩

theorem theoryTuple_holds : Rows.TheoryTupleSaid :=
  OpenClaim.holds_of_wide 4 Try.f4 rfl rfl rfl rfl rfl rfl rfl ⟨rfl, rfl, rfl, rfl, rfl⟩ rfl rfl rfl rfl rfl (by kernel_rfl) Try.func4 (by kernel_rfl)
    (of_decide_eq_true (by kernel_rfl)) (by unfold Func.isWrapper; first | (rw [if_pos (by decide +kernel)]; kernel_rfl) | (rw [if_neg (by decide +kernel)]; exact ⟨rfl, rfl⟩))
    (fun os started H enc _ => theoryTuple_lifted os started H enc)
#print axioms theoryTuple_holds
end Go.Proofs.Ytmodnblfcikjlaa
