/- Plain laws of the wire codes: a code is read back, whatever follows; what is read is a code. -/
import Derived.Test.YtjlkbjmclajlcaaWireOpen
namespace Go.Proofs.Ytjlkbjmclajlcaa

theorem toNat_ofNat (n : Nat) (h : n < 256) : (UInt8.ofNat n).toNat = n := by simp; omega
theorem putL_pos (n : Nat) : 1 ≤ (putL n).length := by unfold putL; split <;> simp
theorem get_put (n : Nat) (h : n < 18446744073709551616) (rest : List UInt8) : getL (putL n ++ rest) = some (n, (putL n).length) := by
  unfold putL
  by_cases h1 : n < 240
  · rw [if_pos h1, List.singleton_append, getL_cons, toNat_ofNat n (by omega), if_pos h1]; rfl
  · have hk := blen_le8 n h
    have hb := blen_bound _ n (by omega) h rfl
    rw [if_neg h1, List.cons_append, getL_cons, toNat_ofNat _ (by omega), if_neg (by omega), if_neg]
    · have e : List.take (239 + blen n - 239) (beB n (blen n) ++ rest) = beB n (blen n) := by
        rw [show 239 + blen n - 239 = (beB n (blen n)).length by rw [beB_len]; omega, List.take_left']
        rfl
      rw [e]
      unfold getT
      rw [valB_beB, Nat.mod_eq_of_lt hb.2.1, beB_len, if_neg (by omega)]
      simp [beB_len]
    · simp [beB_len]; omega
theorem get_prefix {s : List UInt8} {n k : Nat} (h : getL s = some (n, k)) : putL n = s.take k ∧ k ≤ s.length := by
  have hlt := getL_lt h
  refine ⟨?_, hlt.2.1⟩
  cases s with
  | nil => cases h
  | cons c r =>
    rw [getL_cons] at h
    have hc := c.toNat_lt
    split at h
    · rename_i h1
      simp at h; obtain ⟨rfl, rfl⟩ := h
      unfold putL
      rw [if_pos h1]; simp
    · split at h
      · cases h
      · rename_i h1 h2
        simp only [List.length_cons] at h2
        have hl : (r.take (c.toNat - 239)).length = c.toNat - 239 := by simp; omega
        have hn := put_eq_iff (r.take (c.toNat - 239)) (by omega) (by omega)
        obtain ⟨h3, h4⟩ := getT_lt h
        unfold getT at h
        split at h
        · cases h
        · rename_i h5
          have h6 := hn.2 h5
          rw [← h4] at h6
          rw [h6, hl, h3, hl, show 239 + (c.toNat - 239) = c.toNat by omega, List.take_succ_cons]
          simp
theorem hasPrefix_put {s : List UInt8} {n k : Nat} (h : getL s = some (n, k)) : Lib.hasPrefix s (putL n) = true := by
  unfold Lib.hasPrefix
  rw [List.isPrefixOf_iff_prefix, (get_prefix h).1]
  exact List.take_prefix _ _
theorem gs_ps (l rest : List UInt8) (h : l.length < 18446744073709551616) : gsL (psL l ++ rest) = some (l, (psL l).length) := by
  unfold psL
  rw [List.append_assoc, gs_len _ (get_put l.length h _)]
  rw [if_neg (by simp), List.drop_left' rfl, List.take_left' rfl]
  simp
theorem ps_prefix {s l : List UInt8} {m : Nat} (h : gsL s = some (l, m)) : psL l = s.take m ∧ m ≤ s.length := by
  cases hg : getL s with
  | none => unfold gsL at h; rw [hg] at h; cases h
  | some p =>
    obtain ⟨n, k⟩ := p
    rw [gs_len _ hg] at h
    obtain ⟨h1, h2⟩ := get_prefix hg
    split at h
    · cases h
    · rename_i h3
      simp only [Option.some.injEq, Prod.mk.injEq] at h
      obtain ⟨rfl, rfl⟩ := h
      have hl : ((s.drop k).take n).length = n := by simp; omega
      refine ⟨?_, by omega⟩
      rw [psL, hl, h1, List.take_add]
end Go.Proofs.Ytjlkbjmclajlcaa
