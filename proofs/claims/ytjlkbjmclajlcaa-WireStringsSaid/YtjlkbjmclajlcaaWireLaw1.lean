/- The walks of the laws on numbers and strings. -/
import Derived.Test.YtjlkbjmclajlcaaWireAlg
namespace Go.Proofs.Ytjlkbjmclajlcaa
open Go.RowKit Go.GxYtjlkbjmclajlcaa Go.BigFrame

theorem put239 (w : World) : Calls Try.prog 12 #[.int .u64 239] w fun e w' => e = .returned (.string ⟨#[239]⟩) ∧ Below w.heap.size w w' := put_any 239 w (by omega) (by omega)
theorem put240 (w : World) : Calls Try.prog 12 #[.int .u64 240] w fun e w' => e = .returned (.string ⟨#[240, 240]⟩) ∧ Below w.heap.size w w' := by
  have := put_any 240 w (by omega) (by omega)
  rw [show putL (240 : Int).toNat = [240, 240] by decide +kernel] at this
  exact this
theorem put256 (w : World) : Calls Try.prog 12 #[.int .u64 256] w fun e w' => e = .returned (.string ⟨#[241, 1, 0]⟩) ∧ Below w.heap.size w w' := by
  have := put_any 256 w (by omega) (by omega)
  rw [show putL (256 : Int).toNat = [241, 1, 0] by decide +kernel] at this
  exact this
theorem getEx (w : World) : Calls Try.prog 13 #[.string ⟨#[240, 5]⟩] w fun e w' => e = .returned (.tuple #[.int .u64 0, .int .i64 0, .int .i64 2]) ∧ Below w.heap.size w w' :=
  get_none _ w (by decide) (by decide +kernel)
theorem chkEx0 (w : World) : Calls Try.prog 23 #[.string ⟨#[]⟩] w fun e w' => e = .returned (.int .u32 1) ∧ w = w' :=
  check_any ⟨#[]⟩ w (by decide)
theorem chkEx1 (w : World) : Calls Try.prog 23 #[.string ⟨#[97]⟩] w fun e w' => e = .returned (.int .u32 6422626) ∧ w = w' :=
  check_any ⟨#[97]⟩ w (by decide)

set_option maxHeartbeats 400000 in
theorem awake_any (w : World) :
    Calls Try.prog 11 #[] w fun e w' => e = .returned (.bool true) ∧ Below w.heap.size w w' := by
  go_enter Try.func11, Try.ntmps11
  go_wp2_with fail
  refine (getEx _).mono ?_; rintro e w1 ⟨rfl, hb1⟩
  go_wp2_with fail
  refine (put239 _).mono ?_; rintro e w2 ⟨rfl, hb2⟩
  go_wp2_with fail
  refine (put240 _).mono ?_; rintro e w3 ⟨rfl, hb3⟩
  go_wp2_with fail
  refine (put256 _).mono ?_; rintro e w4 ⟨rfl, hb4⟩
  go_wp2_with fail
  refine (chkEx0 _).mono ?_; rintro e w5 ⟨rfl, rfl⟩
  go_wp2_with fail
  refine (chkEx1 _).mono ?_; rintro e w6 ⟨rfl, rfl⟩
  go_wp2_with fail
  go_ret
  refine ⟨rfl, ((hb1.trans (hb2.mono hb1.size)).trans (hb3.mono ?_)).trans (hb4.mono ?_)⟩
  · have := hb1.size; have := hb2.size; omega
  · have := hb1.size; have := hb2.size; have := hb3.size; omega
theorem below2 {w w1 w2 : World} (h1 : Below w.heap.size w w1) (h2 : Below w1.heap.size w1 w2) : Below w.heap.size w w2 := h1.trans (h2.mono h1.size)

set_option maxHeartbeats 400000 in
theorem wirePut_long (n : Int) (rest : ByteArray) (h : 100 < rest.size) (_hs : rest.size ≤ 9223372036854775807) (w : World) :
    Calls Try.prog 3 #[.int .u64 n, .string rest] w fun e w' => e = .returned (.bool true) ∧ Below w.heap.size w w' := by
  go_enter Try.func3, Try.ntmps3
  go_wp2_with fail
  refine (awake_any _).mono ?_; rintro e w1 ⟨rfl, hb1⟩
  go_wp2_with fail
  refine (awake_any _).mono ?_; rintro e w2 ⟨rfl, hb2⟩
  go_wp2_with fail
  go_ret
  exact ⟨rfl, below2 hb1 hb2⟩
set_option maxHeartbeats 400000 in
theorem wirePut_main (n : Int) (rest : ByteArray) (h0 : 0 ≤ n) (h64 : n < 18446744073709551616) (h : rest.size ≤ 100) (w : World) :
    Calls Try.prog 3 #[.int .u64 n, .string rest] w fun e w' => e = .returned (.bool true) ∧ Below w.heap.size w w' := by
  have hg0 := get_put n.toNat (by omega) rest.data.toList
  have hl := putL_len n.toNat (by omega)
  have hcat : (⟨(putL n.toNat).toArray⟩ : ByteArray) ++ rest = ⟨(putL n.toNat ++ rest.data.toList).toArray⟩ := by ext1; simp
  have hp := put_any n
  have hrp := rput_any n
  generalize putL n.toNat = q at *
  have hsz : (⟨q.toArray⟩ : ByteArray).size = q.length := (list_of_string ⟨q.toArray⟩).symm
  have hg : ∀ w, Calls Try.prog 13 #[.string ((⟨q.toArray⟩ : ByteArray) ++ rest)] w fun e w' => e = .returned (.tuple #[.int .u64 n, .int .i64 q.length, .int .i64 0]) ∧ Below w.heap.size w w' := fun w => by
    rw [hcat]
    have hl2 := list_of_string ⟨(q ++ rest.data.toList).toArray⟩
    have hl3 := list_of_string rest
    have := get_some ⟨(q ++ rest.data.toList).toArray⟩ w (by rw [← hl2]; simp; omega) n.toNat q.length hg0
    rw [Int.toNat_of_nonneg h0] at this
    exact this
  have HG := Lib.hid hg
  have HP := Lib.hid hp
  have HR := Lib.hid hrp
  clear hg0 hcat hg hp hrp
  go_enter Try.func3, Try.ntmps3
  go_wp2_with fail
  refine (awake_any _).mono ?_; rintro e w1 ⟨rfl, hb1⟩
  go_wp2_with fail
  refine (HP.out _ h0 h64).mono ?_; rintro e w2 ⟨rfl, hb2⟩
  go_wp2_with fail
  refine (HG.out _).mono ?_; rintro e w3 ⟨rfl, hb3⟩
  go_wp2_with fail
  refine (HR.out _ h0 h64).mono ?_; rintro e w4 ⟨rfl, hb4⟩
  go_wp2_with fail
  go_ret
  exact ⟨rfl, below2 (below2 (below2 hb1 hb2) hb3) hb4⟩

set_option maxHeartbeats 400000 in
theorem wireGet_long (s : ByteArray) (h : 100 < s.size) (_hs : s.size ≤ 9223372036854775807) (w : World) :
    Calls Try.prog 4 #[.string s] w fun e w' => e = .returned (.bool true) ∧ Below w.heap.size w w' := by
  go_enter Try.func4, Try.ntmps4
  go_wp2_with fail
  refine (awake_any _).mono ?_; rintro e w1 ⟨rfl, hb1⟩
  go_wp2_with fail
  refine (awake_any _).mono ?_; rintro e w2 ⟨rfl, hb2⟩
  go_wp2_with fail
  go_ret
  exact ⟨rfl, below2 hb1 hb2⟩
set_option maxHeartbeats 400000 in
theorem wireGet_none (s : ByteArray) (h : s.size ≤ 100) (hg : getL s.data.toList = none) (w : World) :
    Calls Try.prog 4 #[.string s] w fun e w' => e = .returned (.bool true) ∧ Below w.heap.size w w' := by
  have H := Lib.hid hg
  clear hg
  go_enter Try.func4, Try.ntmps4
  go_wp2_with fail
  refine (awake_any _).mono ?_; rintro e w1 ⟨rfl, hb1⟩
  go_wp2_with fail
  refine (get_none s _ (by omega) H.out).mono ?_; rintro e w2 ⟨rfl, hb2⟩
  go_wp2_with fail
  refine (rget_none s _ (by omega) H.out).mono ?_; rintro e w3 ⟨rfl, hb3⟩
  go_wp2_with fail
  go_ret
  exact ⟨rfl, below2 (below2 hb1 hb2) hb3⟩
set_option maxHeartbeats 400000 in
theorem wireGet_some (s : ByteArray) (h : s.size ≤ 100) (n k : Nat) (hg : getL s.data.toList = some (n, k)) (w : World) :
    Calls Try.prog 4 #[.string s] w fun e w' => e = .returned (.bool true) ∧ Below w.heap.size w w' := by
  have hn := (getL_lt hg).2.2
  have hpre := hasPrefix_put hg
  have hp : ∀ w, Calls Try.prog 12 #[.int .u64 n] w fun e w' => e = .returned (.string ⟨(putL n).toArray⟩) ∧ Below w.heap.size w w' := fun w => put_any n w (by omega) (by omega)
  have hh : ∀ w, Calls Try.prog 16 #[.string s, .string ⟨(putL n).toArray⟩] w fun e w' => e = .returned (.bool true) ∧ w = w' := fun w =>
    (Try.strings_HasPrefix s ⟨(putL n).toArray⟩ w).mono fun e w' ⟨h1, h2⟩ => ⟨by rw [h1]; exact congrArg (fun b => Ending.returned (.bool b)) hpre, h2.symm⟩
  generalize putL n = q at *
  have H := Lib.hid hg
  have HP := Lib.hid hp
  have HH := Lib.hid hh
  clear hg hp hh hpre
  go_enter Try.func4, Try.ntmps4
  go_wp2_with fail
  refine (awake_any _).mono ?_; rintro e w1 ⟨rfl, hb1⟩
  go_wp2_with fail
  refine (get_some s _ (by omega) _ _ H.out).mono ?_; rintro e w2 ⟨rfl, hb2⟩
  go_wp2_with fail
  refine (rget_some s _ (by omega) _ _ H.out).mono ?_; rintro e w3 ⟨rfl, hb3⟩
  go_wp2_with fail
  refine (HP.out _).mono ?_; rintro e w4 ⟨rfl, hb4⟩
  go_wp2_with fail
  refine (HH.out _).mono ?_; rintro e w5 ⟨rfl, rfl⟩
  go_wp2_with fail
  go_ret
  exact ⟨rfl, below2 (below2 (below2 hb1 hb2) hb3) hb4⟩
end Go.Proofs.Ytjlkbjmclajlcaa
