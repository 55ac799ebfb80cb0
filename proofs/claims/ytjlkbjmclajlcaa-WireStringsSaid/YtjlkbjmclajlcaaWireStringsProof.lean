/- WireStrings answers true for every list of strings and every string. No condition. -/
import Derived.Test.YtjlkbjmclajlcaaWireLaw4
import Derived.Test.YtjlkbjmclajlcaaStrArg
import Derived.Test.YtjlkbjmclajlcaaGxOwn
namespace Go.Proofs.Ytjlkbjmclajlcaa
open Go.ChangeShapes Go.WideShapes Go.ChangeAt Go.RowKit Go.GxYtjlkbjmclajlcaa
open Go.WideMaps Go.WideElems
open Go.ChangeMaps (setBlock shut_map_nil open_string shut_string keptBut_setBlock frozen?_setBlock heap_setBlock_same)

theorem wireStrings_any (w : World) (v : Value) (rest : ByteArray) (h : ∃ a n c ls, v = .slice a n c ∧ StrArg w a n c ls) (hs : rest.size ≤ maxLen) :
    Calls Try.prog 10 #[v, .string rest] w fun e w' => e = .returned (.bool true) ∧ Below w.heap.size w w' := by
  obtain ⟨a, n, c, ls, rfl, h⟩ := h
  unfold maxLen at hs
  cases hf : fewB ls with
  | false => exact wireStrings_few w a n c ls rest h hf
  | true =>
    by_cases hr : 100 < rest.size
    · exact wireStrings_long w a n c ls rest h hf hr (by omega)
    · exact wireStrings_main w a n c ls rest h hf (by omega)

set_option maxRecDepth 100000 in
theorem wireStrings_lifted (os : Os) (started : os.Started) (H : Type) (enc : TypeId × Value → H) :
    ReturnsInHanded {} Try.checked os 10 .any (Rows.wireStringsSpec.pre6 enc Try.prog Try.f10 Rows.wireStringsRow.domain false) (Rows.wireStringsSpec.post enc Try.prog Try.f10 false true false false) := by
  refine returnsInHanded_of_change_sized (C := Try.checked) Try.own started (by kernel_rfl) Try.func10
    (ChangeSpec.witness6 (enc := enc) (C := Try.checked) false ⟨#[], #[.slice none 0 0, .string ByteArray.empty], []⟩ 8 (by kernel_rfl) (by kernel_rfl) (by kernel_rfl) (by kernel_rfl)) ?_
  intro W base args ds gs before hval0 hW hcnd hsz0 _
  have hval : ∀ (j : Nat) t v, Try.f10.params[j]? = some t → args[j]? = some v → Value.okWide Try.prog W .any base t v := hval0
  have hW' := hW
  obtain ⟨p, q, hA0, hV, rfl, hfz, hnd⟩ := hW
  have hA : DataW.TrodAll enc Try.prog W 0 (fun _ => true) true Try.f10.params.toList args.toList ds p := hA0
  rw [Try.params10] at hA hval
  obtain ⟨v0, vs0, d0, ds0, p0, q0, hargs, rfl, rfl, h0, r0⟩ := trodAll_cons hA
  obtain ⟨v1, vs1, d1, ds1, p1, q1, rfl, rfl, rfl, h1, r1⟩ := trodAll_cons r0
  obtain ⟨rfl, rfl, rfl⟩ := trodAll_nil r1
  obtain rfl : args = #[v0, v1] := by cases args; simp_all
  obtain ⟨rfl, rfl⟩ := trodVars_none hV
  have hv0 := hval 0 41 v0 rfl rfl
  obtain ⟨a1, rfl, rfl, rfl, w1⟩ := open_string Try.underlying9 (hval 1 9 v1 rfl rfl) h1
  have hsz : (DataW.weightsEach Try.prog [41, 9] [d0, _]).all (· ≤ reachBytes) = true := hsz0
  clear hA0 hval0
  refine (wireStrings_any W v0 a1 (strArg_of Try.underlying41 Try.underlying9 cells_string hv0 h0 fun n hn => of_decide_eq_true (List.all_eq_true.1 hsz n (DataW.weights_mem_each (j := 0) rfl rfl n hn))) w1).mono fun e W' ⟨he, hb⟩ => ?_
  exact ⟨_, he, law_post Try.laidOut rfl (by kernel_rfl) rfl rfl Try.underlying4 hW' rfl rfl rfl hb⟩

theorem wireStrings_holds : Rows.WireStringsSaid :=
  OpenClaim.holds_of_wide 10 Try.f10 rfl rfl rfl rfl rfl rfl rfl ⟨rfl, rfl, rfl, rfl, rfl⟩ rfl rfl rfl rfl rfl (by kernel_rfl) Try.func10 (by kernel_rfl)
    (of_decide_eq_true (by kernel_rfl)) (by unfold Func.isWrapper; first | (rw [if_pos (by decide +kernel)]; kernel_rfl) | (rw [if_neg (by decide +kernel)]; exact ⟨rfl, rfl⟩))
    (fun os started H enc _ => wireStrings_lifted os started H enc)
#print axioms wireStrings_holds
end Go.Proofs.Ytjlkbjmclajlcaa
