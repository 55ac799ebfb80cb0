/- The walks of the two Get. -/
import Derived.Test.YtjlkbjmclajlcaaWirePut
import Derived.BigQuiet
namespace Go.Proofs.Ytjlkbjmclajlcaa
open Go.RowKit Go.GxYtjlkbjmclajlcaa

/-- What a code of several bytes says. -/
def getT (r : List UInt8) : Option (Nat × Nat) := if valB r < 240 ∨ blen (valB r) ≠ r.length then none else some (valB r, r.length + 1)
/-- The number at the beginning of a string, and its length. -/
def getL (s : List UInt8) : Option (Nat × Nat) :=
  match s with
  | [] => none
  | c :: r => if c.toNat < 240 then some (c.toNat, 1) else if 247 < c.toNat ∨ s.length ≤ c.toNat - 239 then none else getT (r.take (c.toNat - 239))
theorem getL_cons (c : UInt8) (r : List UInt8) : getL (c :: r) = if c.toNat < 240 then some (c.toNat, 1) else if 247 < c.toNat ∨ (c :: r).length ≤ c.toNat - 239 then none else getT (r.take (c.toNat - 239)) := rfl
/-- The results of Get. -/
def getV : Option (Nat × Nat) → Value
  | some (n, k) => .tuple #[.int .u64 n, .int .i64 k, .int .i64 0]
  | none => .tuple #[.int .u64 0, .int .i64 0, .int .i64 2]
theorem getV_none {o : Option (Nat × Nat)} (h : o = none) : Ending.returned (getV o) = .returned (.tuple #[.int .u64 0, .int .i64 0, .int .i64 2]) := by rw [h]; rfl
theorem getV_some {o : Option (Nat × Nat)} {n k : Nat} {a b : Int} (h : o = some (n, k)) (h1 : a = n) (h2 : b = k) : Ending.returned (getV o) = .returned (.tuple #[.int .u64 a, .int .i64 b, .int .i64 0]) := by rw [h, h1, h2]; rfl

theorem wrap_u64_in (d : Int) (h0 : 0 ≤ d) (h : d < 18446744073709551616) : IntKind.u64.wrap d = d := by rw [IntKind.wrap_u64]; omega
theorem or_byte (x d : Int) (hx0 : 0 ≤ x) (hx : x < 72057594037927936) (hd0 : 0 ≤ d) (hd : d < 256) : bits .or .u64 (x * 256) d = x * 256 + d := by
  obtain ⟨x, rfl⟩ := Int.eq_ofNat_of_zero_le hx0
  obtain ⟨d, rfl⟩ := Int.eq_ofNat_of_zero_le hd0
  have e : (x * 256) ||| d = x * 256 + d := by
    have := Nat.two_pow_add_eq_or_of_lt (i := 8) (b := d) (by omega) x
    rw [Nat.mul_comm (2 ^ 8) x] at this
    exact this.symm
  have := u64_or_nat (x * 256) d (by omega) (by omega)
  rw [e] at this
  simpa using this

set_option maxHeartbeats 400000 in
theorem get_empty (s : ByteArray) (h2 : s.toList.isEmpty = true) (w : World) :
    Calls Try.prog 13 #[.string s] w fun e w' => e = .returned (.tuple #[.int .u64 0, .int .i64 0, .int .i64 2]) ∧ Below w.heap.size w w' := by
  go_enter Try.func13, Try.ntmps13
  go_wp2_with fail
  go_ret3
  exact ⟨rfl, Below.refl _ _⟩
set_option maxHeartbeats 400000 in
theorem get_small (s : ByteArray) (c : Int) (h2 : s.toList.isEmpty = false) (h0 : ∀ w, (Instr.index 9 (.string s) (.int .i64 0)).run Try.prog w = .ok (.int .u8 c) w) (hc0 : 0 ≤ c) (h1 : c < 240) (w : World) :
    Calls Try.prog 13 #[.string s] w fun e w' => e = .returned (.tuple #[.int .u64 c, .int .i64 1, .int .i64 0]) ∧ Below w.heap.size w w' := by
  go_enter Try.func13, Try.ntmps13
  go_wp2_with fail
  go_ret3
  exact ⟨rfl, Below.refl _ _⟩
set_option maxHeartbeats 400000 in
theorem get_short (s : ByteArray) (_hs : s.size ≤ 9223372036854775807) (c : Int) (h2 : s.toList.isEmpty = false) (h0 : ∀ w, (Instr.index 9 (.string s) (.int .i64 0)).run Try.prog w = .ok (.int .u8 c) w) (hc0 : 240 ≤ c) (h1 : c ≤ 255) (hk : 247 < c ∨ c ≤ 247 ∧ s.size ≤ c - 239) (w : World) :
    Calls Try.prog 13 #[.string s] w fun e w' => e = .returned (.tuple #[.int .u64 0, .int .i64 0, .int .i64 2]) ∧ Below w.heap.size w w' := by
  rcases hk with hk | ⟨hk1, hk2⟩
  all_goals
    go_enter Try.func13, Try.ntmps13
    go_wp2_with fail
    go_ret3
    exact ⟨rfl, Below.refl _ _⟩
set_option maxHeartbeats 400000 in
set_option maxRecDepth 100000 in
theorem get_main (s t : ByteArray) (_hs : s.size ≤ 9223372036854775807) (h2 : s.toList.isEmpty = false) (k : Nat) (c : Int) (hck0 : c = k + 239)
    (h0 : ∀ w, (Instr.index 9 (.string s) (.int .i64 0)).run Try.prog w = .ok (.int .u8 c) w)
    (ht : ∀ w, (Instr.slice 9 (.string s) (some (.int .i64 1)) (some (.int .i64 (c - 240 + 1 + 1))) none).run Try.prog w = .ok (.string t) w) (htk0 : t.size = k)
    (h1 : 240 ≤ c) (h1' : c ≤ 247) (hks : c - 239 < s.size) (w : World) :
    Calls Try.prog 13 #[.string s] w fun e w' => e = .returned (getV (getT t.data.toList)) ∧ Below w.heap.size w w' := by
  obtain ⟨cap, w1, hcv, hB, hw1, hcell0, _⟩ := bytes_of_string (P := Try.prog) w 9 39 5 t Try.underlying9 Try.underlying39 Try.underlying5
  rw [htk0] at hcv
  have hcell := Lib.hid hcell0
  have htk := Lib.hid htk0
  have hck := Lib.hid hck0
  clear hcell0 htk0 hck0
  go_enter Try.func13, Try.ntmps13
  go_wp2_with fail
  go_loop [6, 8, 36] (fun n _ i => ∃ (j : Nat) (x : Int), j ≤ k ∧ i = .int .i64 j ∧ n = .int .u64 x ∧ 0 ≤ x ∧ x < 18446744073709551616 ∧ Hid (x = valB (t.data.toList.take j))) (fun _ _ i => k - (intOf i).toNat)
  case atStart => exact ⟨0, 0, Nat.zero_le _, rfl, rfl, by omega, by omega, rfl⟩
  case round =>
    obtain ⟨j, x, hj, rfl, rfl, hx0, hx1, hx⟩ := hrel
    by_cases hjk : j < k
    · have htl : t.data.toList.length = k := by simpa using htk.out
      have hx2 : x < 72057594037927936 := by
        have h1 := hx.out
        have h2 := valB_lt (t.data.toList.take j)
        have h3 : 256 ^ (t.data.toList.take j).length ≤ 256 ^ 7 := pow_mono (by have := hck.out; simp; omega)
        have h4 : (256 : Nat) ^ 7 = 72057594037927936 := by decide
        omega
      obtain ⟨b, hb0⟩ : ∃ b, t.data.toList[j]? = some b := ⟨_, List.getElem?_eq_getElem (by omega)⟩
      have hcl := hcell.out j b hb0
      have hxs : Hid (x * 256 + (b.toNat : Int) = valB (t.data.toList.take (j + 1))) := by
        show _ = _
        rw [List.take_add_one, hb0, Option.toList_some, valB_snoc, hx.out]
        omega
      have hb1 : (b.toNat : Int) < 256 := by have := b.toNat_lt; omega
      have hb2 : 0 ≤ (b.toNat : Int) := by omega
      clear hb0 htl
      generalize (b.toNat : Int) = d at *
      have hor2 := or_byte x d hx0 hx2 hb2 hb1
      have hor : bits .or .u64 (x * 256) (IntKind.u64.wrap d) = x * 256 + d := by rw [wrap_u64_in d (by omega) (by omega)]; exact or_byte x d hx0 hx2 hb2 hb1
      have hk9 : k ≤ 8 := by have := hck.out; omega
      go_wp2_with fail
      go_round
      case rel => exact ⟨j + 1, _, by omega, by go_num, rfl, by omega, by omega, hxs⟩
      case measure => simp [intOf]; omega
    · obtain rfl : j = k := by omega
      have hxk : x = valB t.data.toList := by
        have h1 := hx.out
        rw [List.take_of_length_le (by have := htk.out; simp; exact Nat.le_of_eq this)] at h1
        exact h1
      have hx := Lib.hid hxk
      clear hxk
      by_cases hx3 : x < 240
      · go_wp2_with fail
        go_ret3
        exact ⟨(getV_none (by have := hx.out; unfold getT; rw [if_pos (by omega)])).symm, hB⟩
      · have hlen : t.data.toList.length = j := by simpa using htk.out
        go_wp2_with (go_at_call 34; refine (len64 _ _ (by omega) (by omega)).mono ?_; rintro e w' ⟨L, rfl, rfl, hL0, hL1, hL2⟩)
        · have hne : ((L + 7) / 8 != c - 240 + 1) = true := by assumption
          go_ret3
          refine ⟨(getV_none ?_).symm, hB⟩
          have := hx.out
          have h2 := hL2.out
          have h3 := hck.out
          rw [bne_iff_ne] at hne
          rw [this, Int.toNat_natCast] at h2
          unfold getT
          rw [if_pos (by omega)]
        · have hne : ((L + 7) / 8 != c - 240 + 1) = false := by assumption
          go_ret3
          refine ⟨(getV_some (n := valB t.data.toList) (k := j + 1) ?_ ?_ ?_).symm, hB⟩
          · have := hx.out
            have h2 := hL2.out
            have h3 := hck.out
            rw [bne_eq_false_iff_eq] at hne
            rw [this, Int.toNat_natCast] at h2
            unfold getT
            rw [if_neg (by omega), hlen]
          · exact hx.out
          · have h3 := hck.out
            show c - 240 + 1 + 1 = _
            omega
theorem get_any (s : ByteArray) (hs : s.size ≤ 9223372036854775807) (w : World) :
    Calls Try.prog 13 #[.string s] w fun e w' => e = .returned (getV (getL s.data.toList)) ∧ Below w.heap.size w w' := by
  have hlen := list_of_string s
  cases hl : s.data.toList with
  | nil => exact get_empty s (by rw [isEmpty_of_string, hl]; rfl) w
  | cons c r =>
    have h2 : s.toList.isEmpty = false := by rw [isEmpty_of_string, hl]; rfl
    have h0 := run_index_at (P := Try.prog) 9 Try.underlying9 s 0 c (by rw [hl]; rfl)
    have hc := c.toNat_lt
    rw [hl, List.length_cons] at hlen
    rw [getL_cons]
    by_cases h3 : c.toNat < 240
    · rw [if_pos h3]
      exact get_small s c.toNat h2 h0 (by omega) (by omega) w
    · rw [if_neg h3]
      by_cases h4 : 247 < c.toNat ∨ (c :: r).length ≤ c.toNat - 239
      · rw [if_pos h4]
        rw [List.length_cons] at h4
        exact get_short s hs c.toNat h2 h0 (by omega) (by omega) (by omega) w
      · rw [if_neg h4]
        rw [List.length_cons] at h4
        have ht := run_slice_at (P := Try.prog) 9 Try.underlying9 s 1 (c.toNat - 239 + 1) (by omega) (by omega)
        have e1 : (s.extract 1 (c.toNat - 239 + 1)).data.toList = r.take (c.toNat - 239) := by rw [extract_toList, hl]; simp
        rw [← e1]
        refine get_main s _ hs h2 (c.toNat - 239) c.toNat (by omega) h0 ?_ ?_ (by omega) (by omega) (by omega) w
        · rw [show ((c.toNat : Int) - 240 + 1 + 1) = ((c.toNat - 239 + 1 : Nat) : Int) by omega]
          exact ht
        · rw [← list_of_string, e1, List.length_take]; omega
end Go.Proofs.Ytjlkbjmclajlcaa
