/- The walk of PutList. -/
import Derived.Test.YtjlkbjmclajlcaaWireSame
namespace Go.Proofs.Ytjlkbjmclajlcaa
open Go.RowKit Go.GxYtjlkbjmclajlcaa Go.BigFrame

set_option maxHeartbeats 1000000 in
set_option maxRecDepth 100000 in
theorem putList_any (w : World) (B : Nat) (hBw : B ≤ w.heap.size) (a : Option Addr) (c : Nat) (ls : List (List UInt8)) (hf : FewL ls) (hl : StrsAt B w a ls) :
    Calls Try.prog 27 #[.slice a ls.length c] w fun e w' => e = .returned (.string ⟨(plL ls).toArray⟩) ∧ Below w.heap.size w w' := by
  have HL := Lib.hid hl
  have HF := Lib.hid hf
  have hnb : ls.length ≤ 1000000 := hf.1
  clear hl hf
  generalize hn0 : ls.length = n at *
  have hn := Lib.hid hn0
  clear hn0
  have hnb' := builder_new w
  have hbA : Below w.heap.size w (w.alloc (Obj.cells #[Value.pointer none, Value.slice none 0 0] 53)) := (Below.refl _ _).alloc (Nat.le_refl _) _
  go_enter Try.func27, Try.ntmps27
  go_wp2_with fail
  refine (put_any _ _ (by omega) (by omega)).mono ?_; rintro e w1 ⟨rfl, hb1⟩
  rw [Int.toNat_natCast]
  have hB1 := builder_below hnb' hb1
  have hbB : Below w.heap.size w w1 := hbA.trans (hb1.mono hbA.size)
  clear hnb' hbA hb1
  have hpl := putL_len n (by omega)
  have hps := list_of_string ⟨(putL n).toArray⟩
  generalize hq0 : putL n = q at *
  have Hq := Lib.hid hq0
  clear hq0
  go_wp2_with fail
  refine (writeString_any w.heap.size w.heap.size [] ⟨q.toArray⟩ w1 hB1 (by rw [← hps]; simp; omega) hbB.size).mono ?_; rintro e w2 ⟨rfl, hB2, hb2⟩
  have hbC : Below w.heap.size w w2 := hbB.trans hb2
  have hB2 : Lib.IsBuilder 53 5 w.heap.size w.heap.size (Lib.byteCells q) w2 := hB2
  clear hB1 hbB hb2 hps
  go_wp2_with fail
  go_loopw [14] (fun i wr => ∃ (j : Nat) (z : List UInt8), i = .int .i64 j ∧ j ≤ n ∧ z.length ≤ 20000000 ∧ Hid (z = q ++ ((ls.take j).map psL).flatten) ∧ Lib.IsBuilder 53 5 w.heap.size w.heap.size (Lib.byteCells z) wr ∧ Below w.heap.size w wr) (fun i _ => n - (intOf i).toNat)
  case atStart => exact ⟨0, q, rfl, Nat.zero_le _, by omega, by simp [Hid], hB2, hbC⟩
  case round =>
    clear hB2 hbC
    obtain ⟨j, z, rfl, hj, hz, hzl, hB, hb⟩ := hrel
    by_cases hlt : j < n
    · have hj1 : j < ls.length := by rw [hn.out]; exact hlt
      obtain ⟨b, off, ha, hbb, hc⟩ := (HL.out.below hb hBw) j _ (List.getElem?_eq_getElem hj1)
      subst ha
      have hll : (ls[j]).length ≤ 1000000 := Nat.le_trans (mem_sumL (List.getElem_mem hj1)) HF.out.2
      have hsz := list_of_string ⟨(ls[j]).toArray⟩
      have hps : ∀ w, Calls Try.prog 19 #[.string ⟨(ls[j]).toArray⟩] w fun e w' => e = .returned (.string ⟨(psL ls[j]).toArray⟩) ∧ Below w.heap.size w w' := fun w =>
        putString_any ⟨(ls[j]).toArray⟩ w (by rw [← hsz]; simp; omega)
      have hz2 : Hid (z ++ psL ls[j] = q ++ ((ls.take (j + 1)).map psL).flatten) := by
        show _ = _
        rw [psf_take ls j _ (List.getElem?_eq_getElem hj1), ← List.append_assoc, ← hzl.out]
      have hz3 : (z ++ psL ls[j]).length ≤ 20000000 := by
        rw [hz2.out, List.length_append]
        have := HF.out.psf (j + 1)
        omega
      have hpl2 : (psL ls[j]).length ≤ 1000009 := by have := psL_len ls[j] (by omega); omega
      have hsz2 := list_of_string ⟨(psL ls[j]).toArray⟩
      have hsz2' : (⟨(psL ls[j]).toArray⟩ : ByteArray).data.toList = psL ls[j] := by simp
      rw [hsz2'] at hsz2
      clear hll hsz hsz2'
      generalize psL ls[j] = y at *
      generalize (⟨(ls[j]).toArray⟩ : ByteArray) = x at *
      have HPS := Lib.hid hps
      clear hps hzl
      go_wp2_with fail
      refine (HPS.out _).mono ?_; rintro e w3 ⟨rfl, hb3⟩
      have hB3 := builder_below hB hb3
      have hb4 : Below w.heap.size w w3 := hb.trans (hb3.mono hb.size)
      clear hB hb3 hb
      go_wp2_with fail
      refine (writeString_any w.heap.size w.heap.size (Lib.byteCells z) ⟨y.toArray⟩ w3 hB3 (by rw [Lib.byteCells_length]; omega) hb4.size).mono ?_; rintro e w4 ⟨rfl, hB4, hb5⟩
      have hB5 : Lib.IsBuilder 53 5 w.heap.size w.heap.size (Lib.byteCells (z ++ y)) w4 := by rw [Lib.byteCells_append]; exact hB4
      have hb6 : Below w.heap.size w w4 := hb4.trans hb5
      clear hB3 hb4 hB4 hb5
      go_wp2_with fail
      go_roundw
      case rel => exact ⟨j + 1, z ++ y, by go_num, by omega, hz3, hz2, hB5, hb6⟩
      case measure => simp [intOf]; omega
    · obtain rfl : j = n := by omega
      have hz2 : Hid (z = plL ls) := by
        have := hzl.out
        rw [List.take_of_length_le (Nat.le_of_eq hn.out), ← Hq.out] at this
        show _ = _
        unfold plL
        rw [hn.out, ← this]
      go_wp2_with fail
      refine (Try.Builder_String_any w.heap.size w.heap.size z wr hB hb.size).mono ?_; rintro e w5 ⟨rfl, hb5⟩
      go_wp2_with fail
      go_ret
      rw [← hz2.out]
      exact ⟨rfl, hb.trans hb5⟩
theorem clone_any (w : World) (a : Option Addr) (c : Nat) (ls : List (List UInt8)) (hf : FewL ls) (hl : StrsAt w.heap.size w a ls) (hnil : a = none → c = 0) :
    Calls Try.prog 28 #[.slice a ls.length c] w fun e w' => ∃ a' c', e = .returned (.slice a' ls.length c') ∧ StrsAt w'.heap.size w' a' ls ∧ Below w.heap.size w w' := by
  cases a with
  | none =>
    have h0 : ls = [] := by
      cases ls with
      | nil => rfl
      | cons l ls => obtain ⟨b, off, h, _⟩ := hl 0 l rfl; cases h
    subst h0
    refine (Try.slices_Clone_string_nil 0 c w).mono ?_
    rintro e w' ⟨rfl, rfl⟩
    exact ⟨none, 0, rfl, fun j l hj => by simp at hj, Below.refl _ _⟩
  | some ad =>
    by_cases h0 : ls = []
    · subst h0
      refine (Try.slices_Clone_string_zero ad c w).mono ?_
      rintro e w' ⟨v, rfl, hown, _, hb⟩
      obtain ⟨a', c', rfl⟩ := own_shape hown
      exact ⟨a', c', rfl, fun j l hj => by simp at hj, hb⟩
    · have hpos : 0 < ls.length := List.length_pos_iff.2 h0
      obtain ⟨b, off, had, hb0, _⟩ := hl 0 _ (List.getElem?_eq_getElem hpos)
      cases had
      have hz : ∀ j, j < (ls.map fun l => (⟨l.toArray⟩ : ByteArray)).length → w.cell? ⟨b, off + j, none⟩ = some (.string ((ls.map fun l => (⟨l.toArray⟩ : ByteArray)).getD j ByteArray.empty)) := by
        intro j hj
        rw [List.length_map] at hj
        obtain ⟨b', off', h1, h2, h3⟩ := hl j _ (List.getElem?_eq_getElem hj)
        cases h1
        rw [h3]
        simp [List.getD, List.getElem?_eq_getElem hj]
      refine (Try.slices_Clone_string b off ls.length c _ w (by simp) (by have := hf.1; omega) hz).mono ?_
      rintro e w' ⟨v, rfl, hown, _, hb⟩
      have hown2 : w'.ownsRow w.heap.size 9 1 v ls.length (strCellsOf ls) := by
        have e : ((ls.map fun l => (⟨l.toArray⟩ : ByteArray)).take ls.length).map Value.string = strCellsOf ls := by
          rw [List.take_of_length_le (by simp), List.map_map]; rfl
        rw [e] at hown; exact hown
      obtain ⟨a', c', rfl, hst⟩ := strs_of_own hown2
      exact ⟨a', c', rfl, hst, hb⟩
end Go.Proofs.Ytjlkbjmclajlcaa
