/- WireGetList answers true for every string. No condition. -/
import Derived.Test.YtjlkbjmclajlcaaWireLaw3
import Derived.Test.YtjlkbjmclajlcaaGxOwn
namespace Go.Proofs.Ytjlkbjmclajlcaa
open Go.ChangeShapes Go.WideShapes Go.ChangeAt Go.RowKit Go.GxYtjlkbjmclajlcaa
open Go.WideMaps Go.WideElems
open Go.ChangeMaps (setBlock shut_map_nil open_string shut_string keptBut_setBlock frozen?_setBlock heap_setBlock_same)

theorem wireGetList_any (s : ByteArray) (hs : s.size ≤ maxLen) (w : World) :
    Calls Try.prog 9 #[.string s] w fun e w' => e = .returned (.bool true) ∧ Below w.heap.size w w' := by
  unfold maxLen at hs
  by_cases h : 1000 < s.size
  · exact wireGetList_long s h (by omega) w
  · cases hg : glL s.data.toList with
    | none => exact wireGetList_none s (by omega) hg w
    | some p => exact wireGetList_some s (by omega) p.1 p.2 hg w

set_option maxRecDepth 100000 in
theorem wireGetList_lifted (os : Os) (started : os.Started) (H : Type) (enc : TypeId × Value → H) :
    ReturnsInHanded {} Try.checked os 9 .any (Rows.wireGetListSpec.pre6 enc Try.prog Try.f9 Rows.wireGetListRow.domain false) (Rows.wireGetListSpec.post enc Try.prog Try.f9 false true false false) := by
  refine returnsInHanded_of_change (C := Try.checked) Try.own started (by kernel_rfl) Try.func9
    (ChangeSpec.witness6 (enc := enc) (C := Try.checked) false ⟨#[], #[.string ByteArray.empty], []⟩ 8 (by kernel_rfl) (by kernel_rfl) (by kernel_rfl) (by kernel_rfl)) ?_
  intro W base args ds gs before hval0 hW hcnd _
  have hval : ∀ (j : Nat) t v, Try.f9.params[j]? = some t → args[j]? = some v → Value.okWide Try.prog W .any base t v := hval0
  have hW' := hW
  obtain ⟨p, q, hA0, hV, rfl, hfz, hnd⟩ := hW
  have hA : DataW.TrodAll enc Try.prog W 0 (fun _ => true) true Try.f9.params.toList args.toList ds p := hA0
  rw [Try.params9] at hA hval
  obtain ⟨v0, vs0, d0, ds0, p0, q0, hargs, rfl, rfl, h0, r0⟩ := trodAll_cons hA
  obtain ⟨rfl, rfl, rfl⟩ := trodAll_nil r0
  obtain rfl : args = #[v0] := by cases args; simp_all
  obtain ⟨rfl, rfl⟩ := trodVars_none hV
  obtain ⟨a0, rfl, rfl, rfl, w0⟩ := open_string Try.underlying9 (hval 0 9 v0 rfl rfl) h0
  clear hA0 hval0
  refine (wireGetList_any a0 w0 W).mono fun e W' ⟨he, hb⟩ => ?_
  exact ⟨_, he, law_post Try.laidOut rfl (by kernel_rfl) rfl rfl Try.underlying4 hW' rfl rfl rfl hb⟩

theorem wireGetList_holds : Rows.WireGetListSaid :=
  OpenClaim.holds_of_wide 9 Try.f9 rfl rfl rfl rfl rfl rfl rfl ⟨rfl, rfl, rfl, rfl, rfl⟩ rfl rfl rfl rfl rfl (by kernel_rfl) Try.func9 (by kernel_rfl)
    (of_decide_eq_true (by kernel_rfl)) (by unfold Func.isWrapper; first | (rw [if_pos (by decide +kernel)]; kernel_rfl) | (rw [if_neg (by decide +kernel)]; exact ⟨rfl, rfl⟩))
    (fun os started H enc _ => wireGetList_lifted os started H enc)
#print axioms wireGetList_holds
end Go.Proofs.Ytjlkbjmclajlcaa
