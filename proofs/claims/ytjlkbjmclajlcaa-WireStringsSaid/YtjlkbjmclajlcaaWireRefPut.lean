/- The walk of the reference's Put. -/
import Derived.Test.YtjlkbjmclajlcaaWirePut
namespace Go.Proofs.Ytjlkbjmclajlcaa
open Go.RowKit Go.GxYtjlkbjmclajlcaa

set_option maxHeartbeats 400000 in
theorem rput_small (n : Int) (h0 : 0 ≤ n) (h : n < 240) (w : World) :
    Calls Try.prog 14 #[.int .u64 n] w fun e w' => e = .returned (.string ⟨#[UInt8.ofNat n.toNat]⟩) ∧ Below w.heap.size w w' := by
  have hcv := run_convert_bytes_arg (P := Try.prog) (w.alloc (Obj.cells #[Value.int IntKind.u8 n] 5)) 39 5 Try.underlying39 Try.underlying5 w.heap.size 0 1 1 [n] rfl (cell_one_new' _ _ _) 9 Try.underlying9
  go_enter Try.func14, Try.ntmps14
  go_wp2_with fail
  go_ret
  refine ⟨?_, (Below.refl _ _).alloc (Nat.le_refl _) _⟩
  simp [strOfNums]

set_option maxHeartbeats 400000 in
theorem rput_big (n : Int) (h0 : 0 ≤ n) (h : 240 ≤ n) (h64 : n < 18446744073709551616) (w : World) :
    Calls Try.prog 14 #[.int .u64 n] w fun e w' => e = .returned (.string ⟨(putL n.toNat).toArray⟩) ∧ Below w.heap.size w w' := by
  obtain ⟨i0, hi, hz0, hz1, hz2⟩ := info_parts info5
  have hk8 := blen_le8 n.toNat (by omega)
  have hnot : decide (n < 240) = false := by simpa using h
  go_enter Try.func14, Try.ntmps14
  go_wp2_with fail
  go_loopw [0, 3] (fun q v wr => ∃ (m : Int) (l : List UInt8), q = .int .u64 m ∧ 0 ≤ m ∧ m < 18446744073709551616 ∧ l.length ≤ 8 ∧ Hid (beB m.toNat (blen m.toNat) ++ l = beB n.toNat (blen n.toNat)) ∧ wr.ownsRow w.heap.size 5 1 v l.length (Lib.byteCells l) ∧ Below w.heap.size w wr)
    (fun q _ _ => (intOf q).toNat)
  case atStart => exact ⟨n, [], rfl, h0, h64, by simp, by simp [Hid], World.ownsRow_nil _ _ _ _, Below.refl _ _⟩
  case round =>
    obtain ⟨m, l, rfl, hm0, hm1, hlen, hl, hown, hb⟩ := hrel
    have hBs := hb.size
    by_cases hm : 0 < m
    · have hown3 := hown.alloc (Obj.cells #[Value.int IntKind.u8 (m % 256)] 5)
      go_wp2_with (at_builtin; go_loud (refine append_own2 _ 39 5 i0 (.int .u8 0) 1 1 (.tmp 15) (.tmp 16) w.heap.size w.heap.size rfl rfl _ _ _ rfl hown3 Try.underlying39 hi hz0 hz1 hz2 rfl (by decide) _ _ _ rfl (owns_new wr w.heap.size 5 1 1 [_] hBs rfl (by unfold maxLen; omega)) ?c2 ?c3 ?c4 ?c5 ?_))
      case c2 => intro u hu; exact bytes_one l u hu
      case c3 => unfold maxLen; omega
      case c4 => omega
      case c5 => first | omega | (simp; omega)
      intro v' w1 hown1 hg
      have hb2 := grown_new hb hg hBs
      have hdv := blen_div m.toNat (by omega) (by omega)
      have hl2 : Hid (beB (m / 256).toNat (blen (m / 256).toNat) ++ (UInt8.ofNat m.toNat :: l) = beB n.toNat (blen n.toNat)) := by
        show _ = _
        rw [← hl.out, hdv, beB_snoc, show (m / 256).toNat = m.toNat / 256 by omega]
        simp
      have hlen2 : l.length ≤ 7 := by
        have := congrArg List.length hl2.out
        simp [beB_len] at this
        omega
      have hown2 : w1.ownsRow w.heap.size 5 1 v' (UInt8.ofNat m.toNat :: l).length (Lib.byteCells (UInt8.ofNat m.toNat :: l)) := by
        have e : Lib.byteCells (UInt8.ofNat m.toNat :: l) = Value.int IntKind.u8 (m % 256) :: Lib.byteCells l := by simp [Lib.byteCells]; omega
        rw [e, List.length_cons, Nat.add_comm]; exact hown1
      clear hl hown hown1 hg hb hown3 hdv
      go_wp2
      go_roundw
      case rel => exact ⟨m / 256, _, rfl, by omega, by omega, by simp; omega, hl2, hown2, hb2⟩
      case measure => simp [intOf]; omega
    · obtain ⟨av, cv, rfl⟩ := own_shape hown
      have hbb : blen n.toNat = l.length ∧ l = beB n.toNat (blen n.toNat) := by
        have h1 := hl.out
        obtain rfl : m = 0 := by omega
        rw [show (0 : Int).toNat = 0 from rfl, blen_zero, beB, List.nil_append] at h1
        exact ⟨by rw [h1, beB_len], h1⟩
      have hbl := Lib.hid hbb
      clear hbb hl
      have hown3 := hown.alloc (Obj.cells #[Value.int IntKind.u8 (239 + l.length)] 5)
      go_wp2_with (at_builtin; refine append_own2 _ 39 5 i0 (.int .u8 0) 1 1 (.tmp 24) (.tmp 25) w.heap.size w.heap.size rfl rfl _ _ _ rfl hown3 Try.underlying39 hi hz0 hz1 hz2 rfl (by decide) _ _ _ rfl (owns_new wr w.heap.size 5 1 1 [_] hBs rfl (by unfold maxLen; omega)) ?d2 ?d3 ?d4 ?d5 ?_)
      case d2 => intro u hu; exact bytes_one l u hu
      case d3 => unfold maxLen; omega
      case d4 => omega
      case d5 => first | omega | (simp; omega)
      intro v' w1 hown1 hg
      have hb2 := grown_new hb hg hBs
      have e : Lib.byteCells (UInt8.ofNat (239 + l.length) :: l) = Value.int IntKind.u8 (239 + ↑l.length) :: Lib.byteCells l := by simp [Lib.byteCells]; omega
      rw [← e] at hown1
      have hcv := run_string_own (P := Try.prog) 39 9 5 Try.underlying39 Try.underlying5 Try.underlying9 hown1
      have hfin : putL n.toNat = UInt8.ofNat (239 + l.length) :: l := by
        obtain ⟨q1, q2⟩ := hbl.out
        rw [putL, if_neg (by omega), ← q2, q1]
      clear hown hown1 hg hb hown3 e
      generalize UInt8.ofNat (239 + l.length) :: l = q at hcv hfin
      have hfin := Lib.hid hfin
      go_wp2
      go_ret
      rw [hfin.out]
      exact ⟨rfl, hb2⟩
theorem rput_any (n : Int) (w : World) (h0 : 0 ≤ n) (h64 : n < 18446744073709551616) :
    Calls Try.prog 14 #[.int .u64 n] w fun e w' => e = .returned (.string ⟨(putL n.toNat).toArray⟩) ∧ Below w.heap.size w w' := by
  by_cases h : n < 240
  · have e : putL n.toNat = [UInt8.ofNat n.toNat] := by rw [putL, if_pos (by omega)]
    rw [e]
    exact rput_small n h0 h w
  · exact rput_big n h0 (by omega) h64 w
end Go.Proofs.Ytjlkbjmclajlcaa
