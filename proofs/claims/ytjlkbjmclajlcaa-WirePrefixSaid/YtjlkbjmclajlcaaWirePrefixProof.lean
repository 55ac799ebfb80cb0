/- WirePrefix answers true for every two lists of strings. No condition. -/
import Derived.Test.YtjlkbjmclajlcaaWireLaw4
import Derived.Test.YtjlkbjmclajlcaaStrArg
import Derived.Test.YtjlkbjmclajlcaaGxOwn
namespace Go.Proofs.Ytjlkbjmclajlcaa
open Go.ChangeShapes Go.WideShapes Go.ChangeAt Go.RowKit Go.GxYtjlkbjmclajlcaa
open Go.WideMaps Go.WideElems
open Go.ChangeMaps (setBlock shut_map_nil open_string shut_string keptBut_setBlock frozen?_setBlock heap_setBlock_same)

theorem wirePrefix_any (w : World) (v v' : Value) (h : ∃ a n c ls, v = .slice a n c ∧ StrArg w a n c ls) (h' : ∃ a n c ls, v' = .slice a n c ∧ StrArg w a n c ls) :
    Calls Try.prog 8 #[v, v'] w fun e w' => e = .returned (.bool true) ∧ Below w.heap.size w w' := by
  obtain ⟨a, n, c, ls, rfl, h⟩ := h
  obtain ⟨a', n', c', ms, rfl, h'⟩ := h'
  cases hf : fewB ls with
  | false => exact wirePrefix_few1 w a a' n n' c c' ls h hf
  | true => cases hf' : fewB ms with
    | false => exact wirePrefix_few2 w a a' n n' c c' ls ms h h' hf hf'
    | true => exact wirePrefix_main w a a' n n' c c' ls ms h h' hf hf'

set_option maxRecDepth 100000 in
theorem wirePrefix_lifted (os : Os) (started : os.Started) (H : Type) (enc : TypeId × Value → H) :
    ReturnsInHanded {} Try.checked os 8 .any (Rows.wirePrefixSpec.pre6 enc Try.prog Try.f8 Rows.wirePrefixRow.domain false) (Rows.wirePrefixSpec.post enc Try.prog Try.f8 false true false false) := by
  refine returnsInHanded_of_change_sized (C := Try.checked) Try.own started (by kernel_rfl) Try.func8
    (ChangeSpec.witness6 (enc := enc) (C := Try.checked) false ⟨#[], #[.slice none 0 0, .slice none 0 0], []⟩ 8 (by kernel_rfl) (by kernel_rfl) (by kernel_rfl) (by kernel_rfl)) ?_
  intro W base args ds gs before hval0 hW hcnd hsz0 _
  have hval : ∀ (j : Nat) t v, Try.f8.params[j]? = some t → args[j]? = some v → Value.okWide Try.prog W .any base t v := hval0
  have hW' := hW
  obtain ⟨p, q, hA0, hV, rfl, hfz, hnd⟩ := hW
  have hA : DataW.TrodAll enc Try.prog W 0 (fun _ => true) true Try.f8.params.toList args.toList ds p := hA0
  rw [Try.params8] at hA hval
  obtain ⟨v0, vs0, d0, ds0, p0, q0, hargs, rfl, rfl, h0, r0⟩ := trodAll_cons hA
  obtain ⟨v1, vs1, d1, ds1, p1, q1, rfl, rfl, rfl, h1, r1⟩ := trodAll_cons r0
  obtain ⟨rfl, rfl, rfl⟩ := trodAll_nil r1
  obtain rfl : args = #[v0, v1] := by cases args; simp_all
  obtain ⟨rfl, rfl⟩ := trodVars_none hV
  have hv0 := hval 0 41 v0 rfl rfl
  have hv1 := hval 1 41 v1 rfl rfl
  have hsz : (DataW.weightsEach Try.prog [41, 41] [d0, d1]).all (· ≤ reachBytes) = true := hsz0
  clear hA0 hval0
  refine (wirePrefix_any W v0 v1 (strArg_of Try.underlying41 Try.underlying9 cells_string hv0 h0 fun n hn => of_decide_eq_true (List.all_eq_true.1 hsz n (DataW.weights_mem_each (j := 0) rfl rfl n hn))) (strArg_of Try.underlying41 Try.underlying9 cells_string hv1 h1 fun n hn => of_decide_eq_true (List.all_eq_true.1 hsz n (DataW.weights_mem_each (j := 1) rfl rfl n hn)))).mono fun e W' ⟨he, hb⟩ => ?_
  exact ⟨_, he, law_post Try.laidOut rfl (by kernel_rfl) rfl rfl Try.underlying4 hW' rfl rfl rfl hb⟩

theorem wirePrefix_holds : Rows.WirePrefixSaid :=
  OpenClaim.holds_of_wide 8 Try.f8 rfl rfl rfl rfl rfl rfl rfl ⟨rfl, rfl, rfl, rfl, rfl⟩ rfl rfl rfl rfl rfl (by kernel_rfl) Try.func8 (by kernel_rfl)
    (of_decide_eq_true (by kernel_rfl)) (by unfold Func.isWrapper; first | (rw [if_pos (by decide +kernel)]; kernel_rfl) | (rw [if_neg (by decide +kernel)]; exact ⟨rfl, rfl⟩))
    (fun os started H enc _ => wirePrefix_lifted os started H enc)
#print axioms wirePrefix_holds
end Go.Proofs.Ytjlkbjmclajlcaa
