/- The walks of Open. -/
import Derived.Test.YtjlkbjmclajlcaaWireSeal
namespace Go.Proofs.Ytjlkbjmclajlcaa
open Go.RowKit Go.GxYtjlkbjmclajlcaa Go.BigFrame

theorem sealL_len (l : List UInt8) : (sealL l).length = l.length + 4 := by simp [sealL]
theorem extract_from (s : ByteArray) (_h : 4 ≤ s.size) : (s.extract 4 s.size) = ⟨(s.data.toList.drop 4).toArray⟩ := by
  have := extract_toList s 4 s.size
  rw [List.take_of_length_le (by simp)] at this
  rw [← this]
theorem toList_eq_iff (s : ByteArray) (r : List UInt8) (q : ByteArray) (hq : q = ⟨r.toArray⟩) : (q.toList == s.toList) = (r == s.data.toList) := by
  rw [hq, ByteArray.toList_mk, ByteArray.toList_eq]

set_option maxHeartbeats 400000 in
theorem open_short (s : ByteArray) (h : s.size < 4) (w : World) :
    Calls Try.prog 20 #[.string s] w fun e w' => e = .returned (.tuple #[.string ⟨#[]⟩, .int .i64 2]) ∧ Below w.heap.size w w' := by
  go_enter Try.func20, Try.ntmps20
  go_wp2_with fail
  go_ret2
  exact ⟨rfl, Below.refl _ _⟩
set_option maxHeartbeats 400000 in
theorem open_core (s t q : ByteArray) (b : Bool) (w : World) (h4 : 4 ≤ s.size) (hs : s.size ≤ 140737488355328)
    (ht : ∀ w, (Instr.slice 9 (.string s) (some (.int .i64 4)) none none).run Try.prog w = .ok (.string t) w)
    (hc : ∀ w, Calls Try.prog 21 #[.string t] w fun e w' => e = .returned (.string q) ∧ Below w.heap.size w w')
    (hq : (q.toList == s.toList) = b) :
    Calls Try.prog 20 #[.string s] w fun e w' => e = .returned (if b then .tuple #[.string t, .int .i64 0] else .tuple #[.string ⟨#[]⟩, .int .i64 19]) ∧ Below w.heap.size w w' := by
  have HC := Lib.hid hc
  clear hc
  cases b
  all_goals
    go_enter Try.func20, Try.ntmps20
    go_wp2_with (go_at_call 21; refine (HC.out _).mono ?_; rintro e w1 ⟨rfl, hb⟩)
    go_ret2
    exact ⟨rfl, hb⟩
theorem open_any (s : ByteArray) (w : World) (h4 : 4 ≤ s.size) (hs : s.size ≤ 140737488355328) (b : Bool) (hb : (sealL (s.data.toList.drop 4) == s.data.toList) = b) :
    Calls Try.prog 20 #[.string s] w fun e w' => e = .returned (if b then .tuple #[.string ⟨(s.data.toList.drop 4).toArray⟩, .int .i64 0] else .tuple #[.string ⟨#[]⟩, .int .i64 19]) ∧ Below w.heap.size w w' := by
  refine open_core s _ ⟨(sealL (s.data.toList.drop 4)).toArray⟩ b w h4 hs ?_ ?_ ?_
  · intro w
    have := run_slice_from (P := Try.prog) 9 Try.underlying9 s 4 h4 w
    rw [extract_from s h4] at this
    exact this
  · intro w
    have hl := list_of_string ⟨(s.data.toList.drop 4).toArray⟩
    refine (seal_any ⟨(s.data.toList.drop 4).toArray⟩ w ?_).mono fun e w' h => h
    rw [← hl]; simp; omega
  · rw [toList_eq_iff s _ _ rfl, hb]

set_option maxHeartbeats 400000 in
theorem ropen_short (s : ByteArray) (h : s.size < 4) (w : World) :
    Calls Try.prog 22 #[.string s] w fun e w' => e = .returned (.tuple #[.string ⟨#[]⟩, .int .i64 2]) ∧ Below w.heap.size w w' := by
  go_enter Try.func22, Try.ntmps22
  go_wp2_with fail
  go_ret2
  exact ⟨rfl, Below.refl _ _⟩
set_option maxHeartbeats 400000 in
theorem ropen_core (s t q : ByteArray) (b : Bool) (w : World) (h4 : 4 ≤ s.size) (hs : s.size ≤ 140737488355328)
    (ht : ∀ w, (Instr.slice 9 (.string s) (some (.int .i64 4)) none none).run Try.prog w = .ok (.string t) w)
    (hc : ∀ w, Calls Try.prog 25 #[.string t] w fun e w' => e = .returned (.string q) ∧ Below w.heap.size w w')
    (hq : (q.toList == s.toList) = b) :
    Calls Try.prog 22 #[.string s] w fun e w' => e = .returned (if b then .tuple #[.string t, .int .i64 0] else .tuple #[.string ⟨#[]⟩, .int .i64 19]) ∧ Below w.heap.size w w' := by
  have HC := Lib.hid hc
  clear hc
  cases b
  all_goals
    go_enter Try.func22, Try.ntmps22
    go_wp2_with (go_at_call 25; refine (HC.out _).mono ?_; rintro e w1 ⟨rfl, hb⟩)
    go_ret2
    exact ⟨rfl, hb⟩
theorem ropen_any (s : ByteArray) (w : World) (h4 : 4 ≤ s.size) (hs : s.size ≤ 140737488355328) (b : Bool) (hb : (sealL (s.data.toList.drop 4) == s.data.toList) = b) :
    Calls Try.prog 22 #[.string s] w fun e w' => e = .returned (if b then .tuple #[.string ⟨(s.data.toList.drop 4).toArray⟩, .int .i64 0] else .tuple #[.string ⟨#[]⟩, .int .i64 19]) ∧ Below w.heap.size w w' := by
  refine ropen_core s _ ⟨(sealL (s.data.toList.drop 4)).toArray⟩ b w h4 hs ?_ ?_ ?_
  · intro w
    have := run_slice_from (P := Try.prog) 9 Try.underlying9 s 4 h4 w
    rw [extract_from s h4] at this
    exact this
  · intro w
    have hl := list_of_string ⟨(s.data.toList.drop 4).toArray⟩
    refine (rseal_any ⟨(s.data.toList.drop 4).toArray⟩ w ?_).mono fun e w' h => h
    rw [← hl]; simp; omega
  · rw [toList_eq_iff s _ _ rfl, hb]
end Go.Proofs.Ytjlkbjmclajlcaa
