/- The walks of the two Put. -/
import Derived.Test.YtjlkbjmclajlcaaRows
import Derived.Test.YtjlkbjmclajlcaaWirePlain
import Derived.Test.YtjlkbjmclajlcaaGx
import Derived.Test.YtjlkbjmclajlcaaShelf
import Derived.WalkKit
import Derived.WalkSpells
import Derived.WalkLawsBesides
import Derived.Lib.Hide
namespace Go.Proofs.Ytjlkbjmclajlcaa
open Go.RowKit Go.GxYtjlkbjmclajlcaa

theorem info5 : (Try.prog.info? 5).map (fun i => (i.zero, i.size, i.bytes)) = some (some (.int .u8 0), 1, 1) := by kernel_rfl

theorem len64 (x : Int) (w : World) (h0 : 0 ≤ x) (h : x < 18446744073709551616) :
    Calls Try.prog 34 #[.int .u64 x] w fun e w' => ∃ L : Int, e = .returned (.int .i64 L) ∧ w = w' ∧ 0 ≤ L ∧ L ≤ 64 ∧ Hid ((L + 7) / 8 = blen x.toNat) :=
  (Try.bits_Len64 x w h0 (by omega)).mono fun _ _ ⟨he, hw⟩ =>
    ⟨_, he, hw.symm, by omega, by have := Lib.bitLen_le x.toNat 64 (by omega) (by omega); omega, by show _ = _; unfold blen; omega⟩

theorem cell_one_new' (w : World) (n : Int) (t : TypeId) (i : Nat) (hi : i < 1) : (w.alloc (Obj.cells #[Value.int IntKind.u8 n] t)).cell? ⟨w.heap.size, 0 + i, none⟩ = some (Value.int IntKind.u8 ([n].getD i 0)) := by
  obtain rfl : i = 0 := by omega
  simp [go_sem]

set_option maxHeartbeats 400000 in
theorem put_small (n : Int) (h0 : 0 ≤ n) (h : n < 240) (w : World) :
    Calls Try.prog 12 #[.int .u64 n] w fun e w' => e = .returned (.string ⟨#[UInt8.ofNat n.toNat]⟩) ∧ Below w.heap.size w w' := by
  have hcv := run_convert_bytes_arg (P := Try.prog) (w.alloc (Obj.cells #[Value.int IntKind.u8 n] 5)) 39 5 Try.underlying39 Try.underlying5 w.heap.size 0 1 1 [n] rfl (cell_one_new' _ _ _) 9 Try.underlying9
  go_enter Try.func12, Try.ntmps12
  go_wp2_with fail
  go_ret
  refine ⟨?_, (Below.refl _ _).alloc (Nat.le_refl _) _⟩
  simp [strOfNums]
theorem shr_byte (n : Int) (j : Nat) (h0 : 0 ≤ n) : ((n.toNat / 256 ^ j : Nat) : Int) % 256 = n / 2 ^ (8 * j) % 256 := by
  obtain ⟨m, rfl⟩ := Int.eq_ofNat_of_zero_le h0
  have : (2 : Int) ^ (8 * j) = ((256 ^ j : Nat) : Int) := by rw [Int.pow_mul]; simp
  rw [this]; simp

theorem shr_cell (n : Int) (j : Nat) (h0 : 0 ≤ n) : Lib.byteCells [UInt8.ofNat (n.toNat / 256 ^ j)] = [Value.int IntKind.u8 (n / 2 ^ (8 * (j + 1 - 1)) % 256)] := by
  rw [Nat.add_sub_cancel, ← shr_byte n j h0]
  simp [Lib.byteCells]

set_option maxHeartbeats 400000 in
theorem put_big (n : Int) (h0 : 0 ≤ n) (h : 240 ≤ n) (h64 : n < 18446744073709551616) (w : World) :
    Calls Try.prog 12 #[.int .u64 n] w fun e w' => e = .returned (.string ⟨(putL n.toNat).toArray⟩) ∧ Below w.heap.size w w' := by
  obtain ⟨i0, hi, hz0, hz1, hz2⟩ := info_parts info5
  have hk8 := blen_le8 n.toNat (by omega)
  go_enter Try.func12, Try.ntmps12
  go_wp2_with (go_at_call 34; refine (len64 _ _ (by omega) (by omega)).mono ?_; rintro e w' ⟨L, rfl, rfl, hL0, hL1, hL2⟩)
  rw [hL2.out]
  generalize hk0 : blen n.toNat = k at *
  have hk : Hid (blen n.toNat = k) := hk0
  clear hk0
  go_loopw [4, 5] (fun v i wr => ∃ (j : Nat) (l : List UInt8), i = .int .i64 ((j : Int) - 1) ∧ j ≤ k ∧ l.length ≤ 9 ∧ Hid (l ++ beB n.toNat j = UInt8.ofNat (239 + k) :: beB n.toNat k) ∧ wr.ownsRow w.heap.size 5 1 v l.length (Lib.byteCells l) ∧ Below w.heap.size w wr)
    (fun _ i _ => (intOf i + 1).toNat)
  case atStart =>
    refine ⟨k, [UInt8.ofNat (239 + k)], rfl, Nat.le_refl _, by simp, rfl, ?_, (Below.refl _ _).alloc (Nat.le_refl _) _⟩
    have := owns_new w w.heap.size 5 1 1 [Value.int .u8 (239 + ↑k)] (Nat.le_refl _) rfl (by unfold maxLen; omega)
    have e : Lib.byteCells [UInt8.ofNat (239 + k)] = [Value.int .u8 (239 + ↑k)] := by simp [Lib.byteCells]; omega
    rw [e]; exact this
  case round =>
    obtain ⟨j, l, rfl, hj, hlen, hl, hown, hb⟩ := hrel
    have hBs := hb.size
    by_cases hj0 : 1 ≤ j
    · go_wp2_with (at_builtin; go_loud (refine append_new _ [_] 39 5 i0 (.int .u8 0) 1 1 (.tmp 26) (.tmp 32) w.heap.size 1 1 rfl rfl rfl Try.underlying39 hi hz0 hz1 hz2 rfl (by decide) _ _ _ rfl hown rfl ?c2 ?c3 ?c4 hBs ?_))
      case c2 => intro u hu; simp at hu; subst hu; rfl
      case c3 => unfold maxLen; omega
      case c4 => omega
      intro v' w1 hown1 hg _
      obtain ⟨j, rfl⟩ : ∃ j', j = j' + 1 := ⟨j - 1, by omega⟩
      have hl2 : Hid ((l ++ [UInt8.ofNat (n.toNat / 256 ^ j)]) ++ beB n.toNat j = UInt8.ofNat (239 + k) :: beB n.toNat k) := by
        have := hl.out
        rw [beB] at this
        show _ = _
        rw [List.append_assoc]; exact this
      have hlen2 : l.length ≤ 8 := by
        have := congrArg List.length hl.out
        simp [beB_len] at this
        omega
      have hown2 : w1.ownsRow w.heap.size 5 1 v' (l ++ [UInt8.ofNat (n.toNat / 256 ^ j)]).length (Lib.byteCells (l ++ [UInt8.ofNat (n.toNat / 256 ^ j)])) := by
        rw [Lib.byteCells_append, shr_cell n j h0, List.length_append]
        exact hown1
      have hb2 : Below w.heap.size w w1 := hb.grown hg hBs (fun k hk => (hown.lt k hk).1)
      clear hl hown hown1 hg hb
      go_wp2
      go_roundw
      case rel => exact ⟨j, _, by go_num, by omega, by simp; exact hlen2, hl2, hown2, hb2⟩
      case measure => simp [intOf]
    · have hcv := run_string_own (P := Try.prog) 39 9 5 Try.underlying39 Try.underlying5 Try.underlying9 hown
      go_wp2
      go_ret
      obtain rfl : j = 0 := by omega
      have hl2 := hl.out
      rw [beB, List.append_nil] at hl2
      refine ⟨?_, hb⟩
      have e : putL n.toNat = UInt8.ofNat (239 + k) :: beB n.toNat k := by rw [putL, if_neg (by omega), hk.out]
      rw [e, hl2]
      rfl
theorem put_any (n : Int) (w : World) (h0 : 0 ≤ n) (h64 : n < 18446744073709551616) :
    Calls Try.prog 12 #[.int .u64 n] w fun e w' => e = .returned (.string ⟨(putL n.toNat).toArray⟩) ∧ Below w.heap.size w w' := by
  by_cases h : n < 240
  · have e : putL n.toNat = [UInt8.ofNat n.toNat] := by rw [putL, if_pos (by omega)]
    rw [e]
    exact put_small n h0 h w
  · exact put_big n h0 (by omega) h64 w
end Go.Proofs.Ytjlkbjmclajlcaa
