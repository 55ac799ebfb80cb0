/- Plain mathematics of the wire codes: bytes of numbers; no program in sight. -/
import Derived.Lib.Hide
import Derived.Lib.BitFns
import Derived.Lib.Bytes
namespace Go.Proofs.Ytjlkbjmclajlcaa

/-- The k low bytes of a number, the greatest first. -/
def beB (n : Nat) : Nat → List UInt8
  | 0 => []
  | k + 1 => UInt8.ofNat (n / 256 ^ k) :: beB n k

theorem beB_len (n k : Nat) : (beB n k).length = k := by
  induction k with
  | zero => rfl
  | succ k ih => simp [beB, ih]

/-- The number of bytes of a number. -/
def blen (n : Nat) : Nat := (Lib.bitLen n + 7) / 8

/-- The code of a number. -/
def putL (n : Nat) : List UInt8 := if n < 240 then [UInt8.ofNat n] else UInt8.ofNat (239 + blen n) :: beB n (blen n)

/-- The number of a list of bytes, the greatest first. -/
def valB (l : List UInt8) : Nat := l.foldl (fun a c => a * 256 + c.toNat) 0

theorem blen_zero : blen 0 = 0 := by decide
theorem blen_small_all : ∀ n : Fin 256, n.val = 0 ∨ blen n.val = 1 := by decide +kernel
theorem blen_small (n : Nat) (h0 : 0 < n) (h : n < 256) : blen n = 1 := by
  rcases blen_small_all ⟨n, h⟩ with h1 | h1
  · simp at h1; omega
  · exact h1
theorem blen_step (n : Nat) (h : 256 ≤ n) (h64 : n < 18446744073709551616) : blen n = blen (n / 256) + 1 := by
  unfold blen
  rw [Lib.bitLen_shift8 n h h64]
  omega
theorem blen_div (n : Nat) (h0 : 0 < n) (h64 : n < 18446744073709551616) : blen n = blen (n / 256) + 1 := by
  by_cases h : n < 256
  · rw [blen_small n h0 h, Nat.div_eq_of_lt h, blen_zero]
  · exact blen_step n (by omega) h64
theorem blen_bound : ∀ (k n : Nat), 0 < n → n < 18446744073709551616 → blen n = k → 256 ^ (k - 1) ≤ n ∧ n < 256 ^ k ∧ 1 ≤ k := by
  intro k
  induction k with
  | zero => intro n h0 h64 hk; rw [blen_div n h0 h64] at hk; omega
  | succ k ih =>
    intro n h0 h64 hk
    by_cases h : n < 256
    · rw [blen_small n h0 h] at hk
      obtain rfl : k = 0 := by omega
      exact ⟨by simp; omega, by simpa using h, by omega⟩
    · have hb := blen_step n (by omega) h64
      have := ih (n / 256) (by omega) (by omega) (by omega)
      obtain ⟨a, b, c⟩ := this
      refine ⟨?_, ?_, by omega⟩
      · have e : 256 ^ (k + 1 - 1) = 256 ^ (k - 1) * 256 := by
          rw [← Nat.pow_succ]; congr 1; omega
        rw [e]
        exact Nat.le_trans (Nat.mul_le_mul_right 256 a) (Nat.div_mul_le_self n 256)
      · rw [Nat.pow_succ]
        exact Nat.lt_of_lt_of_le (show n < (n / 256 + 1) * 256 by clear a b ih hb hk; omega) (Nat.mul_le_mul_right 256 b)
theorem pow_mono {a b : Nat} (h : a ≤ b) : 256 ^ a ≤ 256 ^ b := Nat.pow_le_pow_right (by decide) h
theorem blen_le8 (n : Nat) (h64 : n < 18446744073709551616) : blen n ≤ 8 := by
  by_cases h0 : 0 < n
  · obtain ⟨a, b, c⟩ := blen_bound _ n h0 h64 rfl
    by_cases h : blen n ≤ 8
    · exact h
    · have := pow_mono (show 8 ≤ blen n - 1 by omega)
      have e : (256 : Nat) ^ 8 = 18446744073709551616 := by decide
      omega
  · obtain rfl : n = 0 := by omega
    rw [blen_zero]; omega
theorem blen_iff (n k : Nat) (hk : 1 ≤ k) (h64 : n < 18446744073709551616) : blen n = k ↔ 256 ^ (k - 1) ≤ n ∧ n < 256 ^ k := by
  constructor
  · intro h
    by_cases h0 : 0 < n
    · have := blen_bound k n h0 h64 h
      exact ⟨this.1, this.2.1⟩
    · obtain rfl : n = 0 := by omega
      rw [blen_zero] at h; omega
  · intro ⟨h1, h2⟩
    have h0 : 0 < n := by have := Nat.pow_pos (n := k - 1) (show 0 < 256 by decide); omega
    obtain ⟨a, b, c⟩ := blen_bound _ n h0 h64 rfl
    rcases Nat.lt_trichotomy (blen n) k with h | h | h
    · have := pow_mono (show blen n ≤ k - 1 by omega); omega
    · exact h
    · have := pow_mono (show k ≤ blen n - 1 by omega); omega

theorem beB_snoc (n : Nat) : ∀ k, beB n (k + 1) = beB (n / 256) k ++ [UInt8.ofNat n]
  | 0 => by simp [beB]
  | k + 1 => by
    rw [beB, beB_snoc n k, beB, Nat.pow_succ, Nat.mul_comm, ← Nat.div_div_eq_div_mul]
    rfl
theorem valB_snoc (l : List UInt8) (c : UInt8) : valB (l ++ [c]) = valB l * 256 + c.toNat := by simp [valB]
theorem snoc_ind {α : Type} {P : List α → Prop} (h0 : P []) (h1 : ∀ l c, P l → P (l ++ [c])) (l : List α) : P l := by
  have h : ∀ m : List α, P m.reverse := by
    intro m
    induction m with
    | nil => exact h0
    | cons c m ih => rw [List.reverse_cons]; exact h1 _ _ ih
  have := h l.reverse
  rwa [List.reverse_reverse] at this
theorem valB_lt (l : List UInt8) : valB l < 256 ^ l.length := by
  refine snoc_ind (P := fun l => valB l < 256 ^ l.length) ?_ ?_ l
  · simp [valB]
  · intro l c ih
    rw [valB_snoc, List.length_append, List.length_singleton, Nat.pow_succ]
    have h1 := c.toNat_lt
    have h2 := Nat.mul_le_mul_right 256 (show valB l + 1 ≤ 256 ^ l.length by omega)
    refine Nat.lt_of_lt_of_le (show valB l * 256 + c.toNat < (valB l + 1) * 256 by clear h2 ih; omega) h2
theorem beB_valB (l : List UInt8) : beB (valB l) l.length = l := by
  refine snoc_ind (P := fun l => beB (valB l) l.length = l) rfl ?_ l
  · intro l c ih
    rw [List.length_append, List.length_singleton, beB_snoc, valB_snoc]
    have h := c.toNat_lt
    rw [show (valB l * 256 + c.toNat) / 256 = valB l by omega, ih]
    congr 2
    rw [← UInt8.toNat_inj]
    simp
theorem valB_beB (n : Nat) : ∀ k, valB (beB n k) = n % 256 ^ k := by
  intro k
  induction k generalizing n with
  | zero => simp [beB, valB]; omega
  | succ k ih =>
    rw [beB_snoc, valB_snoc, ih, Nat.pow_succ, Nat.mul_comm (256 ^ k) 256, Nat.mod_mul]
    simp [Nat.mul_comm]; omega

theorem ofNat_inj {a b : Nat} (ha : a < 256) (hb : b < 256) (h : UInt8.ofNat a = UInt8.ofNat b) : a = b := by
  have := congrArg UInt8.toNat h
  simp at this
  omega
theorem put_eq_iff (r : List UInt8) (h1 : 1 ≤ r.length) (h8 : r.length ≤ 8) : putL (valB r) = UInt8.ofNat (239 + r.length) :: r ↔ ¬ (valB r < 240 ∨ blen (valB r) ≠ r.length) := by
  have hv : valB r < 18446744073709551616 := by
    have h2 := valB_lt r
    have h3 := pow_mono h8
    have h4 : (256 : Nat) ^ 8 = 18446744073709551616 := by decide
    omega
  unfold putL
  by_cases h : valB r < 240
  · rw [if_pos h]
    constructor
    · intro e
      have := congrArg List.length e
      simp at this
      subst this
      simp at h1
    · intro h'; exact absurd (Or.inl h) h'
  · rw [if_neg h]
    have hb := blen_le8 _ hv
    constructor
    · intro e
      have := ofNat_inj (by omega) (by omega) (List.cons.inj e).1
      omega
    · intro h'
      have : blen (valB r) = r.length := by omega
      rw [this, beB_valB]

end Go.Proofs.Ytjlkbjmclajlcaa
