/- The walk of the reference's Get. -/
import Derived.Test.YtjlkbjmclajlcaaWireGet
import Derived.Test.YtjlkbjmclajlcaaWireRefPut
namespace Go.Proofs.Ytjlkbjmclajlcaa
open Go.RowKit Go.GxYtjlkbjmclajlcaa Go.BigFrame

set_option maxHeartbeats 400000 in
theorem rget_empty (s : ByteArray) (h : s.size = 0) (w : World) :
    Calls Try.prog 15 #[.string s] w fun e w' => e = .returned (.tuple #[.int .u64 0, .int .i64 0, .int .i64 2]) ∧ Below w.heap.size w w' := by
  go_enter Try.func15, Try.ntmps15
  go_wp2_with fail
  go_ret3
  exact ⟨rfl, Below.refl _ _⟩
set_option maxHeartbeats 400000 in
theorem rget_small (s : ByteArray) (c : Int) (h2 : ((s.size : Int) == 0) = false) (h0 : ∀ w, (Instr.index 9 (.string s) (.int .i64 0)).run Try.prog w = .ok (.int .u8 c) w) (hc0 : 0 ≤ c) (h1 : c < 240) (w : World) :
    Calls Try.prog 15 #[.string s] w fun e w' => e = .returned (.tuple #[.int .u64 c, .int .i64 1, .int .i64 0]) ∧ Below w.heap.size w w' := by
  go_enter Try.func15, Try.ntmps15
  go_wp2_with fail
  go_ret3
  exact ⟨rfl, Below.refl _ _⟩
set_option maxHeartbeats 400000 in
theorem rget_short (s : ByteArray) (_hs : s.size ≤ 9223372036854775807) (c : Int) (h2 : ((s.size : Int) == 0) = false) (h0 : ∀ w, (Instr.index 9 (.string s) (.int .i64 0)).run Try.prog w = .ok (.int .u8 c) w) (hc0 : 240 ≤ c) (h1 : c ≤ 255) (hk : 247 < c ∨ c ≤ 247 ∧ s.size ≤ c - 239) (w : World) :
    Calls Try.prog 15 #[.string s] w fun e w' => e = .returned (.tuple #[.int .u64 0, .int .i64 0, .int .i64 2]) ∧ Below w.heap.size w w' := by
  rcases hk with hk | ⟨hk1, hk2⟩
  all_goals
    go_enter Try.func15, Try.ntmps15
    go_wp2_with fail
    go_ret3
    exact ⟨rfl, Below.refl _ _⟩
set_option maxHeartbeats 400000 in
theorem rget_main (s t : ByteArray) (r : List UInt8) (c8 : UInt8) (hsl0 : s.data.toList = c8 :: r) (_hs : s.size ≤ 9223372036854775807) (h2 : ((s.size : Int) == 0) = false) (k : Nat) (c : Int) (hck0 : c = k + 239 ∧ c = c8.toNat) (hk8 : k ≤ 8)
    (h0 : ∀ w, (Instr.index 9 (.string s) (.int .i64 0)).run Try.prog w = .ok (.int .u8 c) w)
    (ht : ∀ w, (Instr.slice 9 (.string s) none (some (.int .i64 (1 + (c - 239)))) none).run Try.prog w = .ok (.string t) w) (htk0 : t.data.toList = c8 :: r.take k)
    (h1 : 240 ≤ c) (h1' : c ≤ 247) (hks : c - 239 < s.size) (w : World) :
    Calls Try.prog 15 #[.string s] w fun e w' => e = .returned (getV (getT (r.take k))) ∧ Below w.heap.size w w' := by
  have hrk : k ≤ r.length := by
    have := list_of_string s
    rw [hsl0, List.length_cons] at this
    have := hck0.1
    omega
  have htk := Lib.hid htk0
  have hck := Lib.hid hck0
  have hsl := Lib.hid hsl0
  clear htk0 hck0 hsl0
  go_enter Try.func15, Try.ntmps15
  go_wp2_with fail
  go_loop [6, 7] (fun n i => ∃ (j : Nat) (x : Int), j ≤ k ∧ i = .int .i64 (j + 1) ∧ n = .int .u64 x ∧ 0 ≤ x ∧ x < 18446744073709551616 ∧ Hid (x = valB (r.take j))) (fun _ i => (k + 1) - (intOf i).toNat)
  case atStart => exact ⟨0, 0, Nat.zero_le _, rfl, rfl, by omega, by omega, rfl⟩
  case round =>
    obtain ⟨j, x, hj, rfl, rfl, hx0, hx1, hx⟩ := hrel
    by_cases hjk : (j : Int) + 1 ≤ c - 239
    · have hjk2 : j < k := by have := hck.out; omega
      have hx2 : x < 72057594037927936 := by
        have h1 := hx.out
        have h2 := valB_lt (r.take j)
        have h3 : 256 ^ (r.take j).length ≤ 256 ^ 7 := pow_mono (by simp; omega)
        have h4 : (256 : Nat) ^ 7 = 72057594037927936 := by decide
        omega
      obtain ⟨b, hb0⟩ : ∃ b, r[j]? = some b := ⟨_, List.getElem?_eq_getElem (by omega)⟩
      have hix := run_index_at (P := Try.prog) 9 Try.underlying9 s (j + 1) b (by rw [hsl.out]; exact hb0)
      rw [show ((j + 1 : Nat) : Int) = (j : Int) + 1 by omega] at hix
      have hxs : Hid (x * 256 + (b.toNat : Int) = valB (r.take (j + 1))) := by
        show _ = _
        rw [List.take_add_one, hb0, Option.toList_some, valB_snoc, hx.out]
        omega
      have hb1 : (b.toNat : Int) < 256 := by have := b.toNat_lt; omega
      have hb2 : 0 ≤ (b.toNat : Int) := by omega
      clear hb0
      generalize (b.toNat : Int) = d at *
      go_wp2_with fail
      go_round
      case rel => exact ⟨j + 1, _, by omega, by go_num, rfl, by omega, by omega, hxs⟩
      case measure => simp [intOf]; omega
    · obtain rfl : j = k := by have := hck.out; omega
      have hw1 : IntKind.i64.wrap (1 + (c - 239)) = 1 + (c - 239) := IntWalk.i64_in _ (by omega)
      go_wp2_with fail
      refine wp_region_later w.heap.size (by kernel_rfl) (by kernel_rfl) ?_
      repeat (any_goals (first | go_big_quiet_step ((go_at_call 14; exact later_call (Nat.le_refl _) (rput_any _ _ (by omega) (by omega))))))
      refine wpQuiet_nil ?_
      intro _ hw'
      obtain ⟨⟨w1, hw1⟩, rfl⟩ := hw'
      go_wp2_with fail
      all_goals
        have hrl : (r.take j).length = j := by simp; omega
        have hput := put_eq_iff (r.take j) (by rw [hrl]; have := hck.out; omega) (by rw [hrl]; exact hk8)
        have ht2 : t.toList = UInt8.ofNat (239 + (r.take j).length) :: r.take j := by
          rw [ByteArray.toList_eq, htk.out, hrl]
          congr 1
          rw [← UInt8.toNat_inj]
          have := hck.out
          simp; omega
        rw [← ht2] at hput
        have hx3 := hx.out
      · have hne : (!putL x.toNat == t.toList) = true := by assumption
        rw [hx3, Int.toNat_natCast] at hne
        go_ret3
        refine ⟨(getV_none ?_).symm, hw1⟩
        unfold getT
        rw [if_pos]
        refine Classical.not_not.1 fun hn => ?_
        rw [hput.2 hn] at hne
        simp at hne
      · have hne : (!putL x.toNat == t.toList) = false := by assumption
        rw [hx3, Int.toNat_natCast] at hne
        go_ret3
        refine ⟨(getV_some (n := valB (r.take j)) (k := j + 1) ?_ hx3 ?_).symm, hw1⟩
        · have h1 := hput.1 (by simpa using hne)
          unfold getT
          rw [if_neg h1, hrl]
        · have h3 := hck.out
          show 1 + (c - 239) = _
          omega
theorem rget_any (s : ByteArray) (hs : s.size ≤ 9223372036854775807) (w : World) :
    Calls Try.prog 15 #[.string s] w fun e w' => e = .returned (getV (getL s.data.toList)) ∧ Below w.heap.size w w' := by
  have hlen := list_of_string s
  cases hl : s.data.toList with
  | nil => exact rget_empty s (by rw [hl] at hlen; exact hlen.symm) w
  | cons c r =>
    have h0 := run_index_at (P := Try.prog) 9 Try.underlying9 s 0 c (by rw [hl]; rfl)
    have hc := c.toNat_lt
    rw [hl, List.length_cons] at hlen
    have h2 : ((s.size : Int) == 0) = false := by rw [beq_eq_false_iff_ne]; omega
    rw [getL_cons]
    by_cases h3 : c.toNat < 240
    · rw [if_pos h3]
      exact rget_small s c.toNat h2 h0 (by omega) (by omega) w
    · rw [if_neg h3]
      by_cases h4 : 247 < c.toNat ∨ (c :: r).length ≤ c.toNat - 239
      · rw [if_pos h4]
        rw [List.length_cons] at h4
        exact rget_short s hs c.toNat h2 h0 (by omega) (by omega) (by omega) w
      · rw [if_neg h4]
        rw [List.length_cons] at h4
        have ht := run_slice_to (P := Try.prog) 9 Try.underlying9 s (c.toNat - 239 + 1) (by omega)
        have e1 : (s.extract 0 (c.toNat - 239 + 1)).data.toList = c :: r.take (c.toNat - 239) := by rw [extract_toList, hl]; simp
        refine rget_main s _ r c hl hs h2 (c.toNat - 239) c.toNat ⟨by omega, rfl⟩ (by omega) h0 ?_ e1 (by omega) (by omega) (by omega) w
        rw [show (1 + ((c.toNat : Int) - 239)) = ((c.toNat - 239 + 1 : Nat) : Int) by omega]
        exact ht
end Go.Proofs.Ytjlkbjmclajlcaa
