/- Lists of strings: what PutList and GetList compute; the walks of the two GetList. -/
import Derived.Test.YtjlkbjmclajlcaaWireDet
import Derived.Test.YtjlkbjmclajlcaaBuilder
namespace Go.Proofs.Ytjlkbjmclajlcaa
open Go.RowKit Go.GxYtjlkbjmclajlcaa Go.BigFrame

/-- The code of a list of strings. -/
def plL (ls : List (List UInt8)) : List UInt8 := putL ls.length ++ (ls.map psL).flatten
/-- n strings from a place on. -/
def glN : Nat → List UInt8 → Nat → Option (List (List UInt8) × Nat)
  | 0, _, p => some ([], p)
  | n + 1, s, p => match gsL (s.drop p) with
    | none => none
    | some (l, k) => (glN n s (p + k)).map fun q => (l :: q.1, q.2)
/-- The list at the beginning of a string, and the length of its code. -/
def glL (s : List UInt8) : Option (List (List UInt8) × Nat) :=
  match getL s with
  | none => none
  | some (n, k) => glN n s k
theorem gs_pos {s l : List UInt8} {k : Nat} (h : gsL s = some (l, k)) : 1 ≤ k ∧ k ≤ s.length ∧ k = (psL l).length := by
  obtain ⟨h1, h2⟩ := ps_prefix h
  have h3 := congrArg List.length h1
  have h4 := putL_pos l.length
  simp [psL] at h3
  refine ⟨?_, h2, ?_⟩
  · omega
  · rw [h1]; simp; omega
theorem glN_le : ∀ (n : Nat) (s : List UInt8) (p : Nat) (r : List (List UInt8)) (m : Nat), p ≤ s.length → glN n s p = some (r, m) → p + n ≤ m ∧ m ≤ s.length
  | 0, s, p, r, m, hp, h => by simp [glN] at h; omega
  | n + 1, s, p, r, m, hp, h => by
    unfold glN at h
    cases hg : gsL (s.drop p) with
    | none => rw [hg] at h; cases h
    | some q =>
      obtain ⟨l, k⟩ := q
      rw [hg] at h
      have h1 := gs_pos hg
      simp at h1
      simp only [Option.map_eq_some_iff] at h
      obtain ⟨⟨r', m'⟩, h2, h3⟩ := h
      simp only [Prod.mk.injEq] at h3
      have := glN_le n s (p + k) r' m' (by omega) h2
      omega
theorem glN_none {n : Nat} {s : List UInt8} {p : Nat} (hp : p ≤ s.length) (h : s.length - p < n) : glN n s p = none := by
  cases hg : glN n s p with
  | none => rfl
  | some q => have := glN_le n s p q.1 q.2 hp hg; omega
theorem glN_zero (s : List UInt8) (p : Nat) : glN 0 s p = some ([], p) := rfl
theorem glN_succ_none {n : Nat} {s : List UInt8} {p : Nat} (h : gsL (s.drop p) = none) : glN (n + 1) s p = none := by unfold glN; rw [h]
theorem glN_succ_some {n : Nat} {s : List UInt8} {p : Nat} {l : List UInt8} {k : Nat} (h : gsL (s.drop p) = some (l, k)) : glN (n + 1) s p = (glN n s (p + k)).map fun q => (l :: q.1, q.2) := by
  rw [glN, h]
/-- How far a list has been read: i of n strings, the place p. -/
def Read (n : Nat) (s : List UInt8) (k i p : Nat) (ls : List (List UInt8)) : Prop :=
  i ≤ n ∧ ls.length = i ∧ k + i ≤ p ∧ p ≤ s.length ∧ glN n s k = (glN (n - i) s p).map fun q => (ls ++ q.1, q.2)
theorem Read.start {n : Nat} {s : List UInt8} {k : Nat} (hk : k ≤ s.length) : Read n s k 0 k [] := by
  refine ⟨Nat.zero_le _, rfl, Nat.le_refl _, hk, ?_⟩
  cases glN n s k <;> simp
theorem Read.step {n : Nat} {s : List UInt8} {k i p : Nat} {ls : List (List UInt8)} (h : Read n s k i p ls) (hi : i < n) {l : List UInt8} {m : Nat} (hg : gsL (s.drop p) = some (l, m)) : Read n s k (i + 1) (p + m) (ls ++ [l]) := by
  obtain ⟨h1, h2, h3, h4, h5⟩ := h
  have hp := gs_pos hg
  simp at hp
  refine ⟨hi, by simp [h2], by omega, by omega, ?_⟩
  rw [h5, show n - i = (n - (i + 1)) + 1 by omega, glN_succ_some hg]
  cases glN (n - (i + 1)) s (p + m) <;> simp
theorem Read.stop {n : Nat} {s : List UInt8} {k i p : Nat} {ls : List (List UInt8)} (h : Read n s k i p ls) (hi : i < n) (hg : gsL (s.drop p) = none) : glN n s k = none := by
  obtain ⟨h1, h2, h3, h4, h5⟩ := h
  rw [h5, show n - i = (n - (i + 1)) + 1 by omega, glN_succ_none hg]; rfl
theorem Read.done {n : Nat} {s : List UInt8} {k p : Nat} {ls : List (List UInt8)} (h : Read n s k n p ls) : glN n s k = some (ls, p) := by
  obtain ⟨h1, h2, h3, h4, h5⟩ := h
  rw [h5, Nat.sub_self, glN_zero]; simp
theorem glL_none {s : List UInt8} (h : getL s = none) : glL s = none := by unfold glL; rw [h]
theorem glL_some {s : List UInt8} {n k : Nat} (h : getL s = some (n, k)) : glL s = glN n s k := by unfold glL; rw [h]
/-- A row of strings. -/
def strCellsOf (ls : List (List UInt8)) : List Value := ls.map fun l => Value.string ⟨l.toArray⟩
theorem strCells_one (ls : List (List UInt8)) : ∀ u ∈ strCellsOf ls, u.oneCell' = true := by
  intro u hu
  obtain ⟨b, _, rfl⟩ := List.mem_map.1 hu
  rfl
/-- The results of GetList. -/
def GlPost (t : TypeId) (w : World) (o : Option (List (List UInt8) × Nat)) (e : Ending) (w' : World) : Prop :=
  match o with
  | none => e = .returned (.tuple #[.slice none 0 0, .int .i64 0, .int .i64 2]) ∧ Below w.heap.size w w'
  | some (ls, m) => ∃ v, e = .returned (.tuple #[v, .int .i64 m, .int .i64 0]) ∧ w'.ownsRow w.heap.size t 1 v ls.length (strCellsOf ls) ∧ Below w.heap.size w w'
theorem infoStr : (Try.prog.info? 9).map (fun i => (i.zero, i.size, i.bytes)) = some (some (.string ⟨#[]⟩), 1, 16) := by kernel_rfl
theorem drop_string (s : ByteArray) (p : Nat) (hp : p ≤ s.size) : (s.extract p s.size).data.toList = s.data.toList.drop p ∧ (s.extract p s.size).size = s.size - p := by
  have h1 := extract_toList s p s.size
  rw [List.take_of_length_le (by simp)] at h1
  refine ⟨h1, ?_⟩
  have := list_of_string (s.extract p s.size)
  rw [h1] at this
  rw [← this]; simp
end Go.Proofs.Ytjlkbjmclajlcaa
