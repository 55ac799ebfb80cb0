/- The walks of PutString and GetString. -/
import Derived.Test.YtjlkbjmclajlcaaWireRefGet
namespace Go.Proofs.Ytjlkbjmclajlcaa
open Go.RowKit Go.GxYtjlkbjmclajlcaa Go.BigFrame

theorem getT_lt {r : List UInt8} {n k : Nat} (h : getT r = some (n, k)) : k = r.length + 1 ∧ n = valB r := by
  unfold getT at h
  split at h
  · cases h
  · simp at h; omega
theorem getL_lt {s : List UInt8} {n k : Nat} (h : getL s = some (n, k)) : 1 ≤ k ∧ k ≤ s.length ∧ n < 18446744073709551616 := by
  cases s with
  | nil => cases h
  | cons c r =>
    rw [getL_cons] at h
    have hc := c.toNat_lt
    split at h
    · simp at h; obtain ⟨rfl, rfl⟩ := h; simp; omega
    · split at h
      · cases h
      · rename_i h1 h2
        simp only [List.length_cons] at h2
        obtain ⟨h3, h4⟩ := getT_lt h
        have hl : (r.take (c.toNat - 239)).length = c.toNat - 239 := by simp; omega
        have h5 := valB_lt (r.take (c.toNat - 239))
        have h6 := pow_mono (show (r.take (c.toNat - 239)).length ≤ 8 by omega)
        have h7 : (256 : Nat) ^ 8 = 18446744073709551616 := by decide
        simp only [List.length_cons]
        omega
/-- The code of a string. -/
def psL (l : List UInt8) : List UInt8 := putL l.length ++ l
/-- The string at the beginning of a string, and the length of its code. -/
def gsL (s : List UInt8) : Option (List UInt8 × Nat) :=
  match getL s with
  | none => none
  | some (n, k) => if s.length - k < n then none else some ((s.drop k).take n, k + n)
def gsV : Option (List UInt8 × Nat) → Value
  | some (l, k) => .tuple #[.string ⟨l.toArray⟩, .int .i64 k, .int .i64 0]
  | none => .tuple #[.string ⟨#[]⟩, .int .i64 0, .int .i64 2]

theorem putL_len (n : Nat) (h : n < 18446744073709551616) : (putL n).length ≤ 9 := by
  unfold putL
  split
  · simp
  · have := blen_le8 n h
    simp [beB_len]; omega

theorem concat_ps (s : ByteArray) : (⟨(putL s.size).toArray⟩ : ByteArray) ++ s = ⟨(psL s.data.toList).toArray⟩ := by
  rw [psL, list_of_string]
  ext1
  simp
theorem gs_len (s : List UInt8) {n k : Nat} (h : getL s = some (n, k)) : gsL s = if s.length - k < n then none else some ((s.drop k).take n, k + n) := by
  unfold gsL; rw [h]

theorem get_none (s : ByteArray) (w : World) (hs : s.size ≤ 9223372036854775807) (h : getL s.data.toList = none) :
    Calls Try.prog 13 #[.string s] w fun e w' => e = .returned (.tuple #[.int .u64 0, .int .i64 0, .int .i64 2]) ∧ Below w.heap.size w w' := by
  have := get_any s hs w
  rw [h] at this
  exact this
theorem get_some (s : ByteArray) (w : World) (hs : s.size ≤ 9223372036854775807) (n k : Nat) (h : getL s.data.toList = some (n, k)) :
    Calls Try.prog 13 #[.string s] w fun e w' => e = .returned (.tuple #[.int .u64 n, .int .i64 k, .int .i64 0]) ∧ Below w.heap.size w w' := by
  have := get_any s hs w
  rw [h] at this
  exact this

set_option maxHeartbeats 400000 in
theorem putString_any (s : ByteArray) (w : World) (hs : s.size ≤ 140737488355328) :
    Calls Try.prog 19 #[.string s] w fun e w' => e = .returned (.string ⟨(psL s.data.toList).toArray⟩) ∧ Below w.heap.size w w' := by
  have hl := putL_len s.size (by omega)
  have he0 := concat_ps s
  generalize (psL s.data.toList) = r at *
  generalize hq0 : putL s.size = q at *
  have hq := Lib.hid hq0
  have he := Lib.hid he0
  clear hq0 he0
  go_enter Try.func19, Try.ntmps19
  go_wp2_with (go_at_call 12; refine (put_any _ _ (by omega) (by omega)).mono ?_; rintro e w1 ⟨rfl, hb⟩; rw [Int.toNat_natCast, hq.out]; have hsz : (⟨q.toArray⟩ : ByteArray).size = q.length := (list_of_string ⟨q.toArray⟩).symm)
  go_ret
  exact ⟨congrArg (fun x => Ending.returned (Value.string x)) he.out, hb⟩
set_option maxHeartbeats 400000 in
theorem getString_none1 (s : ByteArray) (w : World) (hs : s.size ≤ 9223372036854775807) (h : getL s.data.toList = none) :
    Calls Try.prog 17 #[.string s] w fun e w' => e = .returned (.tuple #[.string ⟨#[]⟩, .int .i64 0, .int .i64 2]) ∧ Below w.heap.size w w' := by
  have H := Lib.hid h
  clear h
  go_enter Try.func17, Try.ntmps17
  go_wp2_with (go_at_call 13; refine (get_none _ _ hs H.out).mono ?_; rintro e w1 ⟨rfl, hb⟩)
  go_ret3
  exact ⟨rfl, hb⟩
set_option maxHeartbeats 400000 in
theorem getString_none2 (s : ByteArray) (w : World) (hs : s.size ≤ 9223372036854775807) (n k : Nat) (h : getL s.data.toList = some (n, k)) (hk : k ≤ s.size) (hn : n < 18446744073709551616) (h2 : (s.size : Int) - k < n) :
    Calls Try.prog 17 #[.string s] w fun e w' => e = .returned (.tuple #[.string ⟨#[]⟩, .int .i64 0, .int .i64 2]) ∧ Below w.heap.size w w' := by
  have H := Lib.hid h
  clear h
  go_enter Try.func17, Try.ntmps17
  go_wp2_with (go_at_call 13; refine (get_some _ _ hs n k H.out).mono ?_; rintro e w1 ⟨rfl, hb⟩)
  go_ret3
  exact ⟨rfl, hb⟩
set_option maxHeartbeats 400000 in
theorem getString_some1 (s : ByteArray) (w : World) (hs : s.size ≤ 9223372036854775807) (n k : Nat) (h : getL s.data.toList = some (n, k)) (hk : k ≤ s.size) (hn : n < 18446744073709551616) (h2 : (n : Int) ≤ (s.size : Int) - k) (t : ByteArray) (ht : s.extract k (k + n) = t) :
    Calls Try.prog 17 #[.string s] w fun e w' => e = .returned (.tuple #[.string t, .int .i64 ((k : Int) + n), .int .i64 0]) ∧ Below w.heap.size w w' := by
  have hsl : ∀ w, (Instr.slice 9 (.string s) (some (.int .i64 k)) (some (.int .i64 ((k : Int) + n))) none).run Try.prog w = .ok (.string (s.extract k (k + n))) w := fun w => by
    have := run_slice_at (P := Try.prog) 9 Try.underlying9 s k (k + n) (by omega) (by omega) w
    simpa using this
  rw [ht] at hsl
  have H := Lib.hid h
  clear h ht
  go_enter Try.func17, Try.ntmps17
  go_wp2_with (go_at_call 13; refine (get_some _ _ hs n k H.out).mono ?_; rintro e w1 ⟨rfl, hb⟩)
  go_ret3
  exact ⟨rfl, hb⟩
theorem getString_none (s : ByteArray) (w : World) (hs : s.size ≤ 9223372036854775807) (h : gsL s.data.toList = none) :
    Calls Try.prog 17 #[.string s] w fun e w' => e = .returned (.tuple #[.string ⟨#[]⟩, .int .i64 0, .int .i64 2]) ∧ Below w.heap.size w w' := by
  cases hg : getL s.data.toList with
  | none => exact getString_none1 s w hs hg
  | some p =>
    obtain ⟨n, k⟩ := p
    rw [gs_len _ hg] at h
    obtain ⟨h1, h2, h3⟩ := getL_lt hg
    rw [list_of_string] at h2 h
    split at h
    · exact getString_none2 s w hs n k hg h2 h3 (by omega)
    · cases h
theorem getString_some (s : ByteArray) (w : World) (hs : s.size ≤ 9223372036854775807) (l : List UInt8) (m : Nat) (h : gsL s.data.toList = some (l, m)) :
    Calls Try.prog 17 #[.string s] w fun e w' => e = .returned (.tuple #[.string ⟨l.toArray⟩, .int .i64 m, .int .i64 0]) ∧ Below w.heap.size w w' := by
  cases hg : getL s.data.toList with
  | none => unfold gsL at h; rw [hg] at h; cases h
  | some p =>
    obtain ⟨n, k⟩ := p
    rw [gs_len _ hg] at h
    obtain ⟨h1, h2, h3⟩ := getL_lt hg
    rw [list_of_string] at h2 h
    split at h
    · cases h
    · simp only [Option.some.injEq, Prod.mk.injEq] at h
      obtain ⟨rfl, rfl⟩ := h
      have e : s.extract k (k + n) = ⟨((s.data.toList.drop k).take n).toArray⟩ := by
        have := extract_toList s k (k + n)
        rw [Nat.add_sub_cancel_left] at this
        rw [← this]
      have := getString_some1 s w hs n k hg h2 h3 (by omega) _ e
      rw [show ((k + n : Nat) : Int) = (k : Int) + n by omega]
      exact this

theorem rget_none (s : ByteArray) (w : World) (hs : s.size ≤ 9223372036854775807) (h : getL s.data.toList = none) :
    Calls Try.prog 15 #[.string s] w fun e w' => e = .returned (.tuple #[.int .u64 0, .int .i64 0, .int .i64 2]) ∧ Below w.heap.size w w' := by
  have := rget_any s hs w
  rw [h] at this
  exact this
theorem rget_some (s : ByteArray) (w : World) (hs : s.size ≤ 9223372036854775807) (n k : Nat) (h : getL s.data.toList = some (n, k)) :
    Calls Try.prog 15 #[.string s] w fun e w' => e = .returned (.tuple #[.int .u64 n, .int .i64 k, .int .i64 0]) ∧ Below w.heap.size w w' := by
  have := rget_any s hs w
  rw [h] at this
  exact this

set_option maxHeartbeats 400000 in
theorem rputString_any (s : ByteArray) (w : World) (hs : s.size ≤ 140737488355328) :
    Calls Try.prog 33 #[.string s] w fun e w' => e = .returned (.string ⟨(psL s.data.toList).toArray⟩) ∧ Below w.heap.size w w' := by
  have hl := putL_len s.size (by omega)
  have he0 := concat_ps s
  generalize (psL s.data.toList) = r at *
  generalize hq0 : putL s.size = q at *
  have hq := Lib.hid hq0
  have he := Lib.hid he0
  clear hq0 he0
  go_enter Try.func33, Try.ntmps33
  go_wp2_with (go_at_call 14; refine (rput_any _ _ (by omega) (by omega)).mono ?_; rintro e w1 ⟨rfl, hb⟩; rw [Int.toNat_natCast, hq.out]; have hsz : (⟨q.toArray⟩ : ByteArray).size = q.length := (list_of_string ⟨q.toArray⟩).symm)
  go_ret
  exact ⟨congrArg (fun x => Ending.returned (Value.string x)) he.out, hb⟩
set_option maxHeartbeats 400000 in
theorem rgetString_none1 (s : ByteArray) (w : World) (hs : s.size ≤ 9223372036854775807) (h : getL s.data.toList = none) :
    Calls Try.prog 18 #[.string s] w fun e w' => e = .returned (.tuple #[.string ⟨#[]⟩, .int .i64 0, .int .i64 2]) ∧ Below w.heap.size w w' := by
  have H := Lib.hid h
  clear h
  go_enter Try.func18, Try.ntmps18
  go_wp2_with (go_at_call 15; refine (rget_none _ _ hs H.out).mono ?_; rintro e w1 ⟨rfl, hb⟩)
  go_ret3
  exact ⟨rfl, hb⟩
set_option maxHeartbeats 400000 in
theorem rgetString_none2 (s : ByteArray) (w : World) (hs : s.size ≤ 9223372036854775807) (n k : Nat) (h : getL s.data.toList = some (n, k)) (hk : k ≤ s.size) (hn : n < 18446744073709551616) (h2 : (s.size : Int) - k < n) :
    Calls Try.prog 18 #[.string s] w fun e w' => e = .returned (.tuple #[.string ⟨#[]⟩, .int .i64 0, .int .i64 2]) ∧ Below w.heap.size w w' := by
  have H := Lib.hid h
  clear h
  go_enter Try.func18, Try.ntmps18
  go_wp2_with (go_at_call 15; refine (rget_some _ _ hs n k H.out).mono ?_; rintro e w1 ⟨rfl, hb⟩)
  go_ret3
  exact ⟨rfl, hb⟩
set_option maxHeartbeats 400000 in
theorem rgetString_some1 (s : ByteArray) (w : World) (hs : s.size ≤ 9223372036854775807) (n k : Nat) (h : getL s.data.toList = some (n, k)) (hk : k ≤ s.size) (hn : n < 18446744073709551616) (h2 : (n : Int) ≤ (s.size : Int) - k) (t : ByteArray) (ht : s.extract k (k + n) = t) :
    Calls Try.prog 18 #[.string s] w fun e w' => e = .returned (.tuple #[.string t, .int .i64 ((k : Int) + n), .int .i64 0]) ∧ Below w.heap.size w w' := by
  have hsl : ∀ w, (Instr.slice 9 (.string s) (some (.int .i64 k)) (some (.int .i64 ((k : Int) + n))) none).run Try.prog w = .ok (.string (s.extract k (k + n))) w := fun w => by
    have := run_slice_at (P := Try.prog) 9 Try.underlying9 s k (k + n) (by omega) (by omega) w
    simpa using this
  rw [ht] at hsl
  have H := Lib.hid h
  clear h ht
  go_enter Try.func18, Try.ntmps18
  go_wp2_with (go_at_call 15; refine (rget_some _ _ hs n k H.out).mono ?_; rintro e w1 ⟨rfl, hb⟩)
  go_ret3
  exact ⟨rfl, hb⟩
theorem rgetString_none (s : ByteArray) (w : World) (hs : s.size ≤ 9223372036854775807) (h : gsL s.data.toList = none) :
    Calls Try.prog 18 #[.string s] w fun e w' => e = .returned (.tuple #[.string ⟨#[]⟩, .int .i64 0, .int .i64 2]) ∧ Below w.heap.size w w' := by
  cases hg : getL s.data.toList with
  | none => exact rgetString_none1 s w hs hg
  | some p =>
    obtain ⟨n, k⟩ := p
    rw [gs_len _ hg] at h
    obtain ⟨h1, h2, h3⟩ := getL_lt hg
    rw [list_of_string] at h2 h
    split at h
    · exact rgetString_none2 s w hs n k hg h2 h3 (by omega)
    · cases h
theorem rgetString_some (s : ByteArray) (w : World) (hs : s.size ≤ 9223372036854775807) (l : List UInt8) (m : Nat) (h : gsL s.data.toList = some (l, m)) :
    Calls Try.prog 18 #[.string s] w fun e w' => e = .returned (.tuple #[.string ⟨l.toArray⟩, .int .i64 m, .int .i64 0]) ∧ Below w.heap.size w w' := by
  cases hg : getL s.data.toList with
  | none => unfold gsL at h; rw [hg] at h; cases h
  | some p =>
    obtain ⟨n, k⟩ := p
    rw [gs_len _ hg] at h
    obtain ⟨h1, h2, h3⟩ := getL_lt hg
    rw [list_of_string] at h2 h
    split at h
    · cases h
    · simp only [Option.some.injEq, Prod.mk.injEq] at h
      obtain ⟨rfl, rfl⟩ := h
      have e : s.extract k (k + n) = ⟨((s.data.toList.drop k).take n).toArray⟩ := by
        have := extract_toList s k (k + n)
        rw [Nat.add_sub_cancel_left] at this
        rw [← this]
      have := rgetString_some1 s w hs n k hg h2 h3 (by omega) _ e
      rw [show ((k + n : Nat) : Int) = (k : Int) + n by omega]
      exact this
end Go.Proofs.Ytjlkbjmclajlcaa
