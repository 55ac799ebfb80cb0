/- The walks of WireGetString and WireSeal. -/
import Derived.Test.YtjlkbjmclajlcaaWireLaw1
namespace Go.Proofs.Ytjlkbjmclajlcaa
open Go.RowKit Go.GxYtjlkbjmclajlcaa Go.BigFrame

set_option maxHeartbeats 400000 in
theorem wireGetString_long (s : ByteArray) (h : 1000 < s.size) (_hs : s.size ≤ 9223372036854775807) (w : World) :
    Calls Try.prog 5 #[.string s] w fun e w' => e = .returned (.bool true) ∧ Below w.heap.size w w' := by
  go_enter Try.func5, Try.ntmps5
  go_wp2_with fail
  refine (awake_any _).mono ?_; rintro e w1 ⟨rfl, hb1⟩
  go_wp2_with fail
  refine (awake_any _).mono ?_; rintro e w2 ⟨rfl, hb2⟩
  go_wp2_with fail
  go_ret
  exact ⟨rfl, below2 hb1 hb2⟩
set_option maxHeartbeats 400000 in
theorem wireGetString_none (s : ByteArray) (h : s.size ≤ 1000) (hg : gsL s.data.toList = none) (w : World) :
    Calls Try.prog 5 #[.string s] w fun e w' => e = .returned (.bool true) ∧ Below w.heap.size w w' := by
  have H := Lib.hid hg
  clear hg
  go_enter Try.func5, Try.ntmps5
  go_wp2_with fail
  refine (awake_any _).mono ?_; rintro e w1 ⟨rfl, hb1⟩
  go_wp2_with fail
  refine (getString_none s _ (by omega) H.out).mono ?_; rintro e w2 ⟨rfl, hb2⟩
  go_wp2_with fail
  refine (rgetString_none s _ (by omega) H.out).mono ?_; rintro e w3 ⟨rfl, hb3⟩
  go_wp2_with fail
  refine wp_region_later w3.heap.size (by kernel_rfl) (by kernel_rfl) ?_
  repeat (any_goals (go_big_quiet_step (fail)))
  refine wpQuiet_nil ?_
  intro _ hw'
  obtain ⟨⟨w4, hb4⟩, rfl⟩ := hw'
  go_wp2_with fail
  go_ret
  exact ⟨rfl, below2 (below2 (below2 hb1 hb2) hb3) hb4⟩
set_option maxHeartbeats 400000 in
theorem wireGetString_some (s : ByteArray) (h : s.size ≤ 1000) (l : List UInt8) (m : Nat) (hg : gsL s.data.toList = some (l, m)) (w : World) :
    Calls Try.prog 5 #[.string s] w fun e w' => e = .returned (.bool true) ∧ Below w.heap.size w w' := by
  obtain ⟨hpre, hm⟩ := ps_prefix hg
  rw [list_of_string] at hm
  have hlen : l.length ≤ 1000 := by
    have h1 := congrArg List.length hpre
    have h2 := list_of_string s
    simp [psL] at h1 h2
    omega
  have hl := list_of_string ⟨l.toArray⟩
  have hp : ∀ w, Calls Try.prog 19 #[.string ⟨l.toArray⟩] w fun e w' => e = .returned (.string ⟨(psL l).toArray⟩) ∧ Below w.heap.size w w' := fun w =>
    putString_any ⟨l.toArray⟩ w (by rw [← hl]; simp; omega)
  have hsl := run_slice_to (P := Try.prog) 9 Try.underlying9 s m hm
  have he0 : s.extract 0 m = ⟨(psL l).toArray⟩ := by
    have e := extract_toList s 0 m
    rw [List.drop_zero, Nat.sub_zero, ← hpre] at e
    rw [← e]
  rw [he0] at hsl
  have hg1 := fun w => getString_some s w (by omega) l m hg
  have hg2 := fun w => rgetString_some s w (by omega) l m hg
  clear hg hl hpre he0
  generalize psL l = q at *
  generalize (⟨l.toArray⟩ : ByteArray) = lb at *
  generalize (⟨q.toArray⟩ : ByteArray) = qb at *
  have HG1 := Lib.hid hg1
  have HG2 := Lib.hid hg2
  have HP := Lib.hid hp
  clear hg1 hg2 hp
  go_enter Try.func5, Try.ntmps5
  go_wp2_with fail
  refine (awake_any _).mono ?_; rintro e w1 ⟨rfl, hb1⟩
  go_wp2_with fail
  refine (HG1.out _).mono ?_; rintro e w2 ⟨rfl, hb2⟩
  go_wp2_with fail
  refine (HG2.out _).mono ?_; rintro e w3 ⟨rfl, hb3⟩
  go_wp2_with fail
  refine wp_region_later w3.heap.size (by kernel_rfl) (by kernel_rfl) ?_
  repeat (any_goals (go_big_quiet_step ((go_at_call 19; exact later_call (Nat.le_refl _) (HP.out _)))))
  refine wpQuiet_nil ?_
  intro _ hw'
  obtain ⟨⟨w4, hb4⟩, rfl⟩ := hw'
  go_wp2_with fail
  go_ret
  exact ⟨rfl, below2 (below2 (below2 hb1 hb2) hb3) hb4⟩
set_option maxHeartbeats 400000 in
theorem wireSeal_long (s : ByteArray) (h : 5000 < s.size) (_hs : s.size ≤ 9223372036854775807) (w : World) :
    Calls Try.prog 6 #[.string s] w fun e w' => e = .returned (.bool true) ∧ Below w.heap.size w w' := by
  go_enter Try.func6, Try.ntmps6
  go_wp2_with fail
  refine (awake_any _).mono ?_; rintro e w1 ⟨rfl, hb1⟩
  go_wp2_with fail
  refine (awake_any _).mono ?_; rintro e w2 ⟨rfl, hb2⟩
  go_wp2_with fail
  go_ret
  exact ⟨rfl, below2 hb1 hb2⟩
/-- Both Open return the same. -/
theorem open_both (s : ByteArray) (hs : s.size ≤ 140737488355328) : ∃ (y : ByteArray) (f : Int),
    (∀ w, Calls Try.prog 20 #[.string s] w fun e w' => e = .returned (.tuple #[.string y, .int .i64 f]) ∧ Below w.heap.size w w') ∧
    (∀ w, Calls Try.prog 22 #[.string s] w fun e w' => e = .returned (.tuple #[.string y, .int .i64 f]) ∧ Below w.heap.size w w') := by
  by_cases h4 : s.size < 4
  · exact ⟨_, _, fun w => open_short s h4 w, fun w => ropen_short s h4 w⟩
  · cases hb : (sealL (s.data.toList.drop 4) == s.data.toList) with
    | true => exact ⟨_, _, fun w => open_any s w (by omega) hs true hb, fun w => ropen_any s w (by omega) hs true hb⟩
    | false => exact ⟨_, _, fun w => open_any s w (by omega) hs false hb, fun w => ropen_any s w (by omega) hs false hb⟩
theorem open_seal (s q : ByteArray) (hs : s.size ≤ 140737488355320) (hq : q = ⟨(sealL s.data.toList).toArray⟩) (w : World) :
    Calls Try.prog 20 #[.string q] w fun e w' => e = .returned (.tuple #[.string s, .int .i64 0]) ∧ Below w.heap.size w w' := by
  have hl := list_of_string q
  have hl2 := list_of_string s
  have hql : q.data.toList = sealL s.data.toList := by rw [hq]
  have hd : q.data.toList.drop 4 = s.data.toList := by rw [hql]; rfl
  rw [hql, sealL_len] at hl
  have := open_any q w (by omega) (by omega) true (by rw [hd, hql]; simp)
  rw [hd] at this
  exact this
set_option maxHeartbeats 400000 in
theorem wireSeal_main (s : ByteArray) (h : s.size ≤ 5000) (w : World) :
    Calls Try.prog 6 #[.string s] w fun e w' => e = .returned (.bool true) ∧ Below w.heap.size w w' := by
  obtain ⟨y, f, ho, hro⟩ := open_both s (by omega)
  have hs1 : ∀ w, Calls Try.prog 21 #[.string s] w fun e w' => e = .returned (.string ⟨(sealL s.data.toList).toArray⟩) ∧ Below w.heap.size w w' := fun w => seal_any s w (by omega)
  have hs2 : ∀ w, Calls Try.prog 25 #[.string s] w fun e w' => e = .returned (.string ⟨(sealL s.data.toList).toArray⟩) ∧ Below w.heap.size w w' := fun w => rseal_any s w (by omega)
  have hc1 := fun w => check_any s w (by omega)
  have hc2 := fun w => rcheck_any s w (by omega)
  have hos := fun w => open_seal s _ (by omega) rfl w
  generalize (⟨(sealL s.data.toList).toArray⟩ : ByteArray) = q at *
  generalize chkL s.data.toList = c at *
  have HO := Lib.hid ho
  have HRO := Lib.hid hro
  have HS1 := Lib.hid hs1
  have HS2 := Lib.hid hs2
  have HC1 := Lib.hid hc1
  have HC2 := Lib.hid hc2
  have HOS := Lib.hid hos
  clear ho hro hs1 hs2 hc1 hc2 hos
  go_enter Try.func6, Try.ntmps6
  go_wp2_with fail
  refine (awake_any _).mono ?_; rintro e w1 ⟨rfl, hb1⟩
  go_wp2_with fail
  refine (HS1.out _).mono ?_; rintro e w2 ⟨rfl, hb2⟩
  go_wp2_with fail
  refine (HOS.out _).mono ?_; rintro e w3 ⟨rfl, hb3⟩
  go_wp2_with fail
  refine (HO.out _).mono ?_; rintro e w4 ⟨rfl, hb4⟩
  go_wp2_with fail
  refine (HRO.out _).mono ?_; rintro e w5 ⟨rfl, hb5⟩
  go_wp2_with fail
  refine (HC1.out _).mono ?_; rintro e w6 ⟨rfl, rfl⟩
  go_wp2_with fail
  refine (HC2.out _).mono ?_; rintro e w6 ⟨rfl, rfl⟩
  go_wp2_with fail
  refine (HS1.out _).mono ?_; rintro e w6 ⟨rfl, hb6⟩
  go_wp2_with fail
  refine (HS2.out _).mono ?_; rintro e w7 ⟨rfl, hb7⟩
  go_wp2_with fail
  go_ret
  exact ⟨rfl, below2 (below2 (below2 (below2 (below2 (below2 hb1 hb2) hb3) hb4) hb5) hb6) hb7⟩
end Go.Proofs.Ytjlkbjmclajlcaa
