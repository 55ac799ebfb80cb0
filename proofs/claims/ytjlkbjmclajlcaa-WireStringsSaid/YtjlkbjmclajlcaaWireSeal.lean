/- The walks of Check, Seal and Open. -/
import Derived.Test.YtjlkbjmclajlcaaWireStr
namespace Go.Proofs.Ytjlkbjmclajlcaa
open Go.RowKit Go.GxYtjlkbjmclajlcaa Go.BigFrame

/-- One step of the check sum. -/
def chkS (p : Nat × Nat) (c : UInt8) : Nat × Nat := ((p.1 + c.toNat) % 65521, (p.2 + (p.1 + c.toNat) % 65521) % 65521)
def chkP (l : List UInt8) : Nat × Nat := l.foldl chkS (1, 0)
/-- The check sum. -/
def chkL (l : List UInt8) : Nat := 65536 * (chkP l).2 + (chkP l).1
theorem chkP_snoc (l : List UInt8) (c : UInt8) : chkP (l ++ [c]) = chkS (chkP l) c := by simp [chkP]
theorem chkP_lt (l : List UInt8) : (chkP l).1 < 65521 ∧ (chkP l).2 < 65521 := by
  refine snoc_ind (P := fun l => (chkP l).1 < 65521 ∧ (chkP l).2 < 65521) (by decide) ?_ l
  intro l c _
  rw [chkP_snoc]
  simp only [chkS]
  omega
theorem chkL_lt (l : List UInt8) : chkL l < 4294967296 := by have := chkP_lt l; unfold chkL; omega
/-- The sealed string. -/
def sealL (l : List UInt8) : List UInt8 := UInt8.ofNat (chkL l / 16777216) :: UInt8.ofNat (chkL l / 65536) :: UInt8.ofNat (chkL l / 256) :: UInt8.ofNat (chkL l) :: l
theorem or_half (x d : Int) (hx0 : 0 ≤ x) (hx : x < 65536) (hd0 : 0 ≤ d) (hd : d < 65536) : bits .or .u32 (x * 65536) d = x * 65536 + d := by
  obtain ⟨x, rfl⟩ := Int.eq_ofNat_of_zero_le hx0
  obtain ⟨d, rfl⟩ := Int.eq_ofNat_of_zero_le hd0
  have e : (x * 65536) ||| d = x * 65536 + d := by
    have := Nat.two_pow_add_eq_or_of_lt (i := 16) (b := d) (by omega) x
    rw [Nat.mul_comm (2 ^ 16) x] at this
    exact this.symm
  have := u32_or_nat (x * 65536) d (by omega) (by omega)
  rw [e] at this
  simpa using this
theorem concat_seal (s : ByteArray) (n : Nat) (hn : n = chkL s.data.toList) : strOfNums [(n : Int) / 16777216, (n : Int) / 65536 % 256, (n : Int) / 256 % 256, (n : Int) % 256] ++ s = ⟨(sealL s.data.toList).toArray⟩ := by
  have hlt := chkL_lt s.data.toList
  have e1 : UInt8.ofNat ((n : Int) / 16777216).toNat = UInt8.ofNat (n / 16777216) := by congr 1
  have e2 : UInt8.ofNat ((n : Int) / 65536 % 256).toNat = UInt8.ofNat (n / 65536) := by rw [← UInt8.toNat_inj]; simp; omega
  have e3 : UInt8.ofNat ((n : Int) / 256 % 256).toNat = UInt8.ofNat (n / 256) := by rw [← UInt8.toNat_inj]; simp; omega
  have e4 : UInt8.ofNat ((n : Int) % 256).toNat = UInt8.ofNat n := by rw [← UInt8.toNat_inj]; simp; omega
  ext1
  simp only [strOfNums, List.map_cons, List.map_nil, e1, e2, e3, e4]
  rw [sealL, ← hn]
  simp
theorem four_cells (w : World) (t : TypeId) (a b c d : Int) : ∀ i, i < 4 → (w.alloc (Obj.cells #[Value.int .u8 a, Value.int .u8 b, Value.int .u8 c, Value.int .u8 d] t)).cell? ⟨w.heap.size, 0 + i, none⟩ = some (Value.int .u8 ([a, b, c, d].getD i 0)) := by
  intro i hi
  match i, hi with
  | 0, _ => simp [go_sem]
  | 1, _ => simp [go_sem]
  | 2, _ => simp [go_sem]
  | 3, _ => simp [go_sem]

set_option maxHeartbeats 400000 in
theorem check_any (s : ByteArray) (w : World) (hs : s.size ≤ 9223372036854775807) :
    Calls Try.prog 23 #[.string s] w fun e w' => e = .returned (.int .u32 (chkL s.data.toList)) ∧ w = w' := by
  have hl := list_of_string s
  have hfin : Hid (∀ a b : Int, a = (chkP s.data.toList).1 → b = (chkP s.data.toList).2 → b * 65536 + a = chkL s.data.toList) := by
    intro a b ha hb; rw [ha, hb]; unfold chkL; omega
  generalize hsl0 : s.data.toList = l at *
  have hsl := Lib.hid hsl0
  clear hsl0
  go_enter Try.func23, Try.ntmps23
  go_wp2_with fail
  go_loop [3, 4, 5, 8] (fun a b _ i => ∃ (j : Nat) (x y : Int), j ≤ l.length ∧ i = .int .i64 j ∧ a = .int .u32 x ∧ b = .int .u32 y ∧ 0 ≤ x ∧ x < 65521 ∧ 0 ≤ y ∧ y < 65521 ∧ Hid (x = (chkP (l.take j)).1 ∧ y = (chkP (l.take j)).2)) (fun _ _ _ i => s.size - (intOf i).toNat)
  case atStart => exact ⟨0, 1, 0, Nat.zero_le _, rfl, rfl, rfl, by omega, by omega, by omega, by omega, rfl, rfl⟩
  case round =>
    obtain ⟨j, x, y, hj, rfl, rfl, rfl, hx0, hx1, hy0, hy1, hxy⟩ := hrel
    by_cases hjl : j < l.length
    · have hix := run_index_at (P := Try.prog) 9 Try.underlying9 s j l[j] (by rw [hsl.out, List.getElem?_eq_getElem hjl])
      have hxs : Hid ((x + (l[j].toNat : Int)) % 65521 = (chkP (l.take (j + 1))).1 ∧ (y + (x + (l[j].toNat : Int)) % 65521) % 65521 = (chkP (l.take (j + 1))).2) := by
        have h1 := hxy.out
        rw [List.take_add_one, List.getElem?_eq_getElem hjl, Option.toList_some, chkP_snoc]
        show _ ∧ _
        simp only [chkS]
        omega
      have hb1 : (l[j].toNat : Int) < 256 := by have := l[j].toNat_lt; omega
      have hb2 : 0 ≤ (l[j].toNat : Int) := by omega
      generalize (l[j].toNat : Int) = d at *
      go_wp2_with fail
      go_round
      case rel => exact ⟨j + 1, _, _, by omega, by go_num, rfl, rfl, by omega, by omega, by omega, by omega, hxs⟩
      case measure => simp [intOf]; omega
    · obtain rfl : j = l.length := by omega
      have hor := or_half y x hy0 (by omega) hx0 (by omega)
      go_wp2_with fail
      go_ret
      refine ⟨?_, rfl⟩
      have h1 := hxy.out
      rw [List.take_of_length_le (Nat.le_refl _)] at h1
      rw [← hfin.out x y h1.1 h1.2]
      first | rfl | (rw [Int.mul_comm]; rfl)

set_option maxHeartbeats 400000 in
theorem rcheck_any (s : ByteArray) (w : World) (hs : s.size ≤ 9223372036854775807) :
    Calls Try.prog 24 #[.string s] w fun e w' => e = .returned (.int .u32 (chkL s.data.toList)) ∧ w = w' := by
  have hl := list_of_string s
  have hfin : Hid (∀ a b : Int, a = (chkP s.data.toList).1 → b = (chkP s.data.toList).2 → b * 65536 + a = chkL s.data.toList) := by
    intro a b ha hb; rw [ha, hb]; unfold chkL; omega
  generalize hsl0 : s.data.toList = l at *
  have hsl := Lib.hid hsl0
  clear hsl0
  go_enter Try.func24, Try.ntmps24
  go_wp2_with fail
  go_loop [3, 4, 5] (fun a b i => ∃ (j : Nat) (x y : Int), j ≤ l.length ∧ i = .int .i64 j ∧ a = .int .u32 x ∧ b = .int .u32 y ∧ 0 ≤ x ∧ x < 65521 ∧ 0 ≤ y ∧ y < 65521 ∧ Hid (x = (chkP (l.take j)).1 ∧ y = (chkP (l.take j)).2)) (fun _ _ i => s.size - (intOf i).toNat)
  case atStart => exact ⟨0, 1, 0, Nat.zero_le _, rfl, rfl, rfl, by omega, by omega, by omega, by omega, rfl, rfl⟩
  case round =>
    obtain ⟨j, x, y, hj, rfl, rfl, rfl, hx0, hx1, hy0, hy1, hxy⟩ := hrel
    by_cases hjl : j < l.length
    · have hix := run_index_at (P := Try.prog) 9 Try.underlying9 s j l[j] (by rw [hsl.out, List.getElem?_eq_getElem hjl])
      have hxs : Hid ((x + (l[j].toNat : Int)) % 65521 = (chkP (l.take (j + 1))).1 ∧ (y + (x + (l[j].toNat : Int)) % 65521) % 65521 = (chkP (l.take (j + 1))).2) := by
        have h1 := hxy.out
        rw [List.take_add_one, List.getElem?_eq_getElem hjl, Option.toList_some, chkP_snoc]
        show _ ∧ _
        simp only [chkS]
        omega
      have hb1 : (l[j].toNat : Int) < 256 := by have := l[j].toNat_lt; omega
      have hb2 : 0 ≤ (l[j].toNat : Int) := by omega
      generalize (l[j].toNat : Int) = d at *
      go_wp2_with fail
      go_round
      case rel => exact ⟨j + 1, _, _, by omega, by go_num, rfl, rfl, by omega, by omega, by omega, by omega, hxs⟩
      case measure => simp [intOf]; omega
    · obtain rfl : j = l.length := by omega
      go_wp2_with fail
      go_ret
      refine ⟨?_, rfl⟩
      have h1 := hxy.out
      rw [List.take_of_length_le (Nat.le_refl _)] at h1
      rw [← hfin.out x y h1.1 h1.2]
      first | rfl | (rw [Int.mul_comm]; rfl)

set_option maxHeartbeats 400000 in
theorem seal_any (s : ByteArray) (w : World) (hs : s.size ≤ 140737488355328) :
    Calls Try.prog 21 #[.string s] w fun e w' => e = .returned (.string ⟨(sealL s.data.toList).toArray⟩) ∧ Below w.heap.size w w' := by
  have hc1 := chkL_lt s.data.toList
  have he0 := concat_seal s _ rfl
  have hcv := run_convert_bytes_arg (P := Try.prog) (w.alloc (Obj.cells #[Value.int IntKind.u8 ((chkL s.data.toList : Int) / 16777216), Value.int IntKind.u8 ((chkL s.data.toList : Int) / 65536 % 256), Value.int IntKind.u8 ((chkL s.data.toList : Int) / 256 % 256), Value.int IntKind.u8 ((chkL s.data.toList : Int) % 256)] 5)) 39 5 Try.underlying39 Try.underlying5 w.heap.size 0 4 4 [_, _, _, _] rfl (four_cells w 5 _ _ _ _) 9 Try.underlying9
  generalize (sealL s.data.toList) = r at *
  generalize hn0 : chkL s.data.toList = n at *
  have hn := Lib.hid hn0
  have he := Lib.hid he0
  clear hn0 he0
  have hsz : (strOfNums [(n : Int) / 16777216, (n : Int) / 65536 % 256, (n : Int) / 256 % 256, (n : Int) % 256]).size = 4 := rfl
  generalize (strOfNums [(n : Int) / 16777216, (n : Int) / 65536 % 256, (n : Int) / 256 % 256, (n : Int) % 256]) = q at *
  go_enter Try.func21, Try.ntmps21
  go_wp2_with (go_at_call 23; refine (check_any _ _ (by omega)).mono ?_; rintro e w1 ⟨rfl, rfl⟩; rw [hn.out])
  go_ret
  exact ⟨congrArg (fun x => Ending.returned (Value.string x)) he.out, (Below.refl _ _).alloc (Nat.le_refl _) _⟩

set_option maxHeartbeats 400000 in
theorem rseal_any (s : ByteArray) (w : World) (hs : s.size ≤ 140737488355328) :
    Calls Try.prog 25 #[.string s] w fun e w' => e = .returned (.string ⟨(sealL s.data.toList).toArray⟩) ∧ Below w.heap.size w w' := by
  have hc1 := chkL_lt s.data.toList
  have he0 := concat_seal s _ rfl
  have hcv := run_convert_bytes_arg (P := Try.prog) (w.alloc (Obj.cells #[Value.int IntKind.u8 ((chkL s.data.toList : Int) / 16777216), Value.int IntKind.u8 ((chkL s.data.toList : Int) / 65536 % 256), Value.int IntKind.u8 ((chkL s.data.toList : Int) / 256 % 256), Value.int IntKind.u8 ((chkL s.data.toList : Int) % 256)] 5)) 39 5 Try.underlying39 Try.underlying5 w.heap.size 0 4 4 [_, _, _, _] rfl (four_cells w 5 _ _ _ _) 9 Try.underlying9
  generalize (sealL s.data.toList) = r at *
  generalize hn0 : chkL s.data.toList = n at *
  have hn := Lib.hid hn0
  have he := Lib.hid he0
  clear hn0 he0
  have hsz : (strOfNums [(n : Int) / 16777216, (n : Int) / 65536 % 256, (n : Int) / 256 % 256, (n : Int) % 256]).size = 4 := rfl
  generalize (strOfNums [(n : Int) / 16777216, (n : Int) / 65536 % 256, (n : Int) / 256 % 256, (n : Int) % 256]) = q at *
  go_enter Try.func25, Try.ntmps25
  go_wp2_with (go_at_call 24; refine (rcheck_any _ _ (by omega)).mono ?_; rintro e w1 ⟨rfl, rfl⟩; rw [hn.out])
  go_ret
  exact ⟨congrArg (fun x => Ending.returned (Value.string x)) he.out, (Below.refl _ _).alloc (Nat.le_refl _) _⟩
end Go.Proofs.Ytjlkbjmclajlcaa
