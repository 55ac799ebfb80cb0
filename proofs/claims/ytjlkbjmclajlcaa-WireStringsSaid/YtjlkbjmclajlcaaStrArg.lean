/- An argument of type []string, opened. -/
import Derived.Test.YtjlkbjmclajlcaaWireLaw4
import Derived.Test.YtjlkbjmclajlcaaGxOwn
import Derived.SliceStrings
import Derived.SizedLaws
namespace Go.Proofs.Ytjlkbjmclajlcaa
open Go.ChangeShapes Go.WideShapes Go.ChangeAt Go.RowKit Go.GxYtjlkbjmclajlcaa
open Go.WideMaps Go.WideElems
section
variable {H : Type} {enc : TypeId × Value → H} {P : Program}
theorem weightsAll_mem {e : TypeId} : ∀ {ds : List (DataW H)} {d : DataW H}, d ∈ ds → ∀ n ∈ d.weights P e, n ∈ DataW.weightsAll P e ds
  | d0 :: ds, d, h, n, hn => by
    simp only [DataW.weightsAll, List.mem_append]
    rcases List.mem_cons.1 h with rfl | h
    · exact Or.inl hn
    · exact Or.inr (weightsAll_mem h n hn)
theorem cell_spot {w : World} {a : Addr} {v : Value} (h : w.cell? a = some v) : a.spot = none ∧ a.block < w.heap.size := by
  unfold World.cell? at h
  split at h
  · rename_i hb
    split at h
    · cases h
    · rename_i hs
      refine ⟨by cases hx : a.spot <;> simp_all, (Array.getElem?_eq_some_iff.1 hb).1⟩
  · cases h
theorem strArg_of {W : World} {base : Nat} {T E : TypeId} {r : Reach} {v : Value} {d : DataW H} {p : List MemPlace} (hT : P.underlying T = some (.slice E)) (hE : P.underlying E = some .string) (hc : P.cellsOf E = 1)
    (hv : Value.okWide P W r base T v) (h : DataW.Trod enc P W 0 (fun _ => true) true T v d p) (hw : ∀ n ∈ d.weights P T, n ≤ reachBytes) :
    ∃ a n c ls, v = .slice a n c ∧ StrArg W a n c ls := by
  obtain ⟨a0, len, cap, rfl⟩ := okWide_slice hT hv
  obtain ⟨fuel, hf⟩ := h
  rcases open_strings hT hE hc hf with ⟨hcs, hx⟩ | ⟨a, len', cap', ss, hcs, _, hl, hm, hz, hx, hcell, hws⟩
  · simp [Value.cells] at hcs
    obtain ⟨rfl, rfl, rfl⟩ := hcs
    exact ⟨none, 0, 0, [], rfl, ⟨rfl, by omega, fun _ => rfl, (fun l hl => by simp at hl), (fun j l hl => by simp at hl)⟩⟩
  · simp [Value.cells] at hcs
    obtain ⟨rfl, rfl, rfl⟩ := hcs
    simp only [if_true] at hz
    simp only [Prod.mk.injEq] at hx
    obtain ⟨rfl, _⟩ := hx
    refine ⟨some a, len, cap, (ss.take len).map (·.data.toList), rfl, ⟨by simp; omega, by unfold maxLen at hm; omega, (fun h => by cases h), ?_, ?_⟩⟩
    · intro l hlm
      obtain ⟨s, hs, rfl⟩ := List.mem_map.1 hlm
      have h1 : (DataW.lit (.string s.data.toList) : DataW H) ∈ strs (ss.take len) := by
        unfold strs; exact List.mem_map.2 ⟨s, hs, rfl⟩
      have h2 := weightsAll_mem (P := P) (e := E) h1 s.data.toList.length (by simp [DataW.weights])
      have h3 := hw s.data.toList.length (by
        simp only [DataW.weights, hT, List.mem_cons, List.mem_append]
        exact Or.inr (Or.inl h2))
      have : reachBytes = 140737488351232 := rfl
      omega
    · intro j l hj
      rw [List.getElem?_map, Option.map_eq_some_iff] at hj
      obtain ⟨s, hs, rfl⟩ := hj
      rw [List.getElem?_take] at hs
      split at hs
      · rename_i hjl
        have hjs : j < ss.length := by omega
        have h0 := hcell 0 (by omega)
        have e0 : a.add 0 = a := by simp [Addr.add]
        rw [e0] at h0
        obtain ⟨hsp, hblk⟩ := cell_spot h0
        have hj2 := hcell j hjs
        have ea : a.add j = ⟨a.block, a.off + j, none⟩ := by
          obtain ⟨b, o, sp⟩ := a
          simp only at hsp
          subst hsp
          unfold Addr.add; split <;> simp_all
        rw [ea] at hj2
        refine ⟨a.block, a.off, ?_, hblk, ?_⟩
        · obtain ⟨b, o, sp⟩ := a
          simp only at hsp
          subst hsp; rfl
        · rw [hj2, List.getD, hs]; rfl
      · cases hs
end
theorem cells_string : Try.prog.cellsOf 9 = 1 := by kernel_rfl
end Go.Proofs.Ytjlkbjmclajlcaa
