/- The walks of Few, Same and of the two PutList. -/
import Derived.Test.YtjlkbjmclajlcaaWireGetList
namespace Go.Proofs.Ytjlkbjmclajlcaa
open Go.RowKit Go.GxYtjlkbjmclajlcaa Go.BigFrame

/-- A slice of strings in memory below block B. -/
def StrsAt (B : Nat) (w : World) (a : Option Addr) (ls : List (List UInt8)) : Prop :=
  ∀ (j : Nat) (l : List UInt8), ls[j]? = some l → ∃ b off, a = some ⟨b, off, none⟩ ∧ b < B ∧ w.cell? ⟨b, off + j, none⟩ = some (.string ⟨l.toArray⟩)
theorem StrsAt.below {B B' : Nat} {w w' : World} {a : Option Addr} {ls : List (List UInt8)} (h : StrsAt B w a ls) (hb : Below B' w w') (hB : B ≤ B') : StrsAt B w' a ls :=
  fun j l hl => let ⟨b, off, h1, h2, h3⟩ := h j l hl; ⟨b, off, h1, h2, (hb.cell (p := ⟨b, off + j, none⟩) (show b < B' by omega)).trans h3⟩
theorem StrsAt.mono {B B' : Nat} {w : World} {a : Option Addr} {ls : List (List UInt8)} (h : StrsAt B w a ls) (hB : B ≤ B') : StrsAt B' w a ls :=
  fun j l hl => let ⟨b, off, h1, h2, h3⟩ := h j l hl; ⟨b, off, h1, by omega, h3⟩
theorem strs_of_own {w : World} {base : Nat} {e : TypeId} {v : Value} {n : Nat} {ls : List (List UInt8)} (h : w.ownsRow base e 1 v n (strCellsOf ls)) : ∃ a c, v = .slice a ls.length c ∧ StrsAt w.heap.size w a ls := by
  have hc := @World.ownsRow.cells w base e 1 v n _ h
  have hlt := h.lt
  obtain ⟨h1, h2⟩ := h
  have hn : ls.length = n := by simpa [strCellsOf] using h1
  subst hn
  rcases h2 with ⟨rfl, h3⟩ | ⟨g, cap, cur, rfl, _⟩
  · have : ls = [] := List.length_eq_zero_iff.1 h3
    subst this
    exact ⟨none, 0, rfl, fun j l hl => by simp at hl⟩
  · refine ⟨_, _, rfl, fun j l hl => ⟨g, 0, rfl, (hlt g rfl).2, ?_⟩⟩
    have := hc rfl j (.string ⟨l.toArray⟩) (by simp [strCellsOf, hl])
    have e1 : (⟨g, 0, none⟩ : Addr).add j = ⟨g, 0 + j, none⟩ := by unfold Addr.add; split <;> simp_all
    rwa [e1] at this

/-- The bytes of all strings. -/
def sumL (ls : List (List UInt8)) : Nat := (ls.map List.length).sum
theorem sumL_take (ls : List (List UInt8)) (j : Nat) (l : List UInt8) (h : ls[j]? = some l) : sumL (ls.take (j + 1)) = sumL (ls.take j) + l.length := by
  unfold sumL
  rw [List.take_add_one, h]; simp
theorem sumL_le (ls : List (List UInt8)) (M : Nat) (h : ∀ l ∈ ls, l.length ≤ M) : sumL ls ≤ ls.length * M := by
  unfold sumL
  induction ls with
  | nil => simp
  | cons l ls ih =>
    have := ih fun x hx => h x (List.mem_cons_of_mem _ hx)
    have := h l (List.mem_cons_self ..)
    simp only [List.map_cons, List.sum_cons, List.length_cons, Nat.add_mul]
    omega

set_option maxHeartbeats 400000 in
theorem few_long (w : World) (a : Option Addr) (c : Nat) (ls : List (List UInt8)) (h : 300 < ls.length) (hm : ls.length ≤ 9223372036854775807) (hl : StrsAt w.heap.size w a ls) :
    Calls Try.prog 26 #[.slice a ls.length c] w fun e w' => e = .returned (.bool false) ∧ w = w' := by
  have HL := Lib.hid hl
  clear hl
  generalize hn0 : ls.length = n at *
  have hn := Lib.hid hn0
  clear hn0
  go_enter Try.func26, Try.ntmps26
  go_wp2_with fail
  go_loop [3, 4] (fun q i => ∃ (j : Nat) (x : Int), q = .int .i64 x ∧ i = .int .i64 j ∧ j ≤ n) (fun _ i => n - (intOf i).toNat)
  case atStart => exact ⟨0, 0, rfl, rfl, Nat.zero_le _⟩
  case round =>
    obtain ⟨j, x, rfl, rfl, hj⟩ := hrel
    by_cases hlt : j < n
    · obtain ⟨b, off, ha, hb, hc⟩ := HL.out j _ (List.getElem?_eq_getElem (by rw [hn.out]; exact hlt))
      subst ha
      generalize (⟨(ls[j]'(by rw [hn.out]; exact hlt)).toArray⟩ : ByteArray) = z at *
      go_wp2_with fail
      go_round
      case rel => exact ⟨j + 1, _, rfl, by go_num, by omega⟩
      case measure => simp [intOf]; omega
    · obtain rfl : j = n := by omega
      go_wp2_with fail
      go_ret
      exact ⟨rfl, rfl⟩
set_option maxHeartbeats 400000 in
theorem few_short (w : World) (a : Option Addr) (c : Nat) (ls : List (List UInt8)) (h : ls.length ≤ 300) (hm : ∀ l ∈ ls, l.length ≤ 140737488355328) (hl : StrsAt w.heap.size w a ls) :
    Calls Try.prog 26 #[.slice a ls.length c] w fun e w' => e = .returned (.bool (decide (sumL ls ≤ 5000))) ∧ w = w' := by
  have HL := Lib.hid hl
  have HM := Lib.hid hm
  clear hl hm
  generalize hn0 : ls.length = n at *
  have hn := Lib.hid hn0
  clear hn0
  go_enter Try.func26, Try.ntmps26
  go_wp2_with fail
  go_loop [3, 4] (fun q i => ∃ (j : Nat) (x : Int), q = .int .i64 x ∧ i = .int .i64 j ∧ j ≤ n ∧ 0 ≤ x ∧ x ≤ 42221246506598400 ∧ Hid (x = sumL (ls.take j))) (fun _ i => n - (intOf i).toNat)
  case atStart => exact ⟨0, 0, rfl, rfl, Nat.zero_le _, by omega, by omega, by simp [Hid, sumL]⟩
  case round =>
    obtain ⟨j, x, rfl, rfl, hj, hx0, hx1, hx⟩ := hrel
    by_cases hlt : j < n
    · have hjl : j < ls.length := by rw [hn.out]; exact hlt
      obtain ⟨b, off, ha, hb, hc⟩ := HL.out j _ (List.getElem?_eq_getElem hjl)
      subst ha
      have hz := list_of_string ⟨(ls[j]).toArray⟩
      have hzl : (ls[j]).length ≤ 140737488355328 := HM.out _ (List.getElem_mem hjl)
      have hs1 := sumL_take ls j _ (List.getElem?_eq_getElem hjl)
      have hs2 : sumL (ls.take (j + 1)) ≤ (ls.take (j + 1)).length * 140737488355328 := sumL_le _ _ fun l hl => HM.out l (List.mem_of_mem_take hl)
      have hs3 : (ls.take (j + 1)).length ≤ 300 := by simp; omega
      have hxs : Hid (x + (ls[j].length : Int) = sumL (ls.take (j + 1)) ∧ sumL (ls.take (j + 1)) ≤ 42221246506598400) := by
        have := hx.out
        refine ⟨by omega, Nat.le_trans hs2 ?_⟩
        have := Nat.mul_le_mul_right 140737488355328 hs3
        omega
      have hxb := hxs.out
      have hsz : (⟨(ls[j]).toArray⟩ : ByteArray).size = ls[j].length := by rw [← hz]
      have hxb1 : x + (ls[j].length : Int) ≤ 42221246506598400 := by omega
      clear hs1 hs2 hs3 hz hxb
      generalize (ls[j]).length = zl at *
      generalize (⟨(ls[j]).toArray⟩ : ByteArray) = z at *
      go_wp2_with fail
      go_round
      case rel => exact ⟨j + 1, _, rfl, by go_num, by omega, by omega, by omega, hxs.out.1⟩
      case measure => simp [intOf]; omega
    · obtain rfl : j = n := by omega
      have hxe : x = sumL ls := by
        have := hx.out
        rw [List.take_of_length_le (by have := hn.out; omega)] at this
        exact this
      have hd : decide (x ≤ 5000) = decide (sumL ls ≤ 5000) := by rw [hxe]; exact decide_eq_decide.2 (by omega)
      have Hd := Lib.hid hd
      clear hd hxe
      go_wp2_with fail
      go_ret
      rw [← Hd.out]
      exact ⟨rfl, rfl⟩
end Go.Proofs.Ytjlkbjmclajlcaa
