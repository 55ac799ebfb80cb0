/- The walks of Same and of the two PutList. -/
import Derived.Test.YtjlkbjmclajlcaaWireFew
namespace Go.Proofs.Ytjlkbjmclajlcaa
open Go.RowKit Go.GxYtjlkbjmclajlcaa Go.BigFrame

set_option maxHeartbeats 400000 in
theorem same_len (w : World) (a a' : Option Addr) (n n' c c' : Nat) (h : n ≠ n') (hm : n ≤ 9223372036854775807) (hm' : n' ≤ 9223372036854775807) :
    Calls Try.prog 29 #[.slice a n c, .slice a' n' c'] w fun e w' => e = .returned (.bool false) ∧ Below w.heap.size w w' := by
  have hne : ((n : Int) != (n' : Int)) = true := by rw [bne_iff_ne]; omega
  clear h
  go_enter Try.func29, Try.ntmps29
  go_wp2_with fail
  go_ret
  exact ⟨rfl, Below.refl _ _⟩
set_option maxHeartbeats 400000 in
theorem same_eqlen (w : World) (B : Nat) (hBw : B ≤ w.heap.size) (a a' : Option Addr) (c c' : Nat) (ls ms : List (List UInt8)) (h : ls.length = ms.length) (hm : ls.length ≤ 9223372036854775807) (hl : StrsAt B w a ls) (hl' : StrsAt B w a' ms) :
    Calls Try.prog 29 #[.slice a ls.length c, .slice a' ls.length c'] w fun e w' => e = .returned (.bool (decide (ls = ms))) ∧ Below w.heap.size w w' := by
  have HL := Lib.hid hl
  have HL' := Lib.hid hl'
  have HM := Lib.hid h
  clear hl hl' h
  generalize hn0 : ls.length = n at *
  have hn := Lib.hid hn0
  clear hn0
  have hne : ((n : Int) != (n : Int)) = false := by simp
  go_enter Try.func29, Try.ntmps29
  go_wp2_with fail
  go_loopw [5] (fun i wr => ∃ (j : Nat), i = .int .i64 j ∧ j ≤ n ∧ Hid (ls.take j = ms.take j) ∧ Below w.heap.size w wr) (fun i _ => n - (intOf i).toNat)
  case atStart => exact ⟨0, rfl, Nat.zero_le _, rfl, Below.refl _ _⟩
  case round =>
    obtain ⟨j, rfl, hj, heq, hb⟩ := hrel
    by_cases hlt : j < n
    · have hj1 : j < ls.length := by rw [hn.out]; exact hlt
      have hj2 : j < ms.length := by rw [← HM.out]; exact hlt
      obtain ⟨b, off, ha, hbb, hc⟩ := (HL.out.below hb hBw) j _ (List.getElem?_eq_getElem hj1)
      obtain ⟨b', off', ha', hbb', hc'⟩ := (HL'.out.below hb hBw) j _ (List.getElem?_eq_getElem hj2)
      subst ha ha'
      have hz1 : (⟨(ls[j]).toArray⟩ : ByteArray).toList = ls[j] := ByteArray.toList_mk _
      have hz2 : (⟨(ms[j]).toArray⟩ : ByteArray).toList = ms[j] := ByteArray.toList_mk _
      by_cases hx : ls[j] = ms[j]
      · have hcmp : ((⟨(ls[j]).toArray⟩ : ByteArray).toList == (⟨(ms[j]).toArray⟩ : ByteArray).toList) = true := by rw [hz1, hz2, hx]; simp
        have hst : Hid (ls.take (j + 1) = ms.take (j + 1)) := by
          show _ = _
          rw [List.take_add_one, List.take_add_one, heq.out, List.getElem?_eq_getElem hj1, List.getElem?_eq_getElem hj2, hx]
        clear hz1 hz2 hx heq
        generalize (⟨(ls[j]).toArray⟩ : ByteArray) = z1 at *
        generalize (⟨(ms[j]).toArray⟩ : ByteArray) = z2 at *
        go_wp2_with fail
        go_quiet (fail)
        go_wp2_with fail
        go_roundw
        case rel => exact ⟨j + 1, by go_num, by omega, hst, below_drewN hb _⟩
        case measure => simp [intOf]; omega
      · have hcmp : ((⟨(ls[j]).toArray⟩ : ByteArray).toList == (⟨(ms[j]).toArray⟩ : ByteArray).toList) = false := by rw [hz1, hz2, beq_eq_false_iff_ne]; exact hx
        have hres : decide (ls = ms) = false := decide_eq_false fun e => hx (by subst e; rfl)
        have Hres := Lib.hid hres
        clear hz1 hz2 hx heq hres
        generalize (⟨(ls[j]).toArray⟩ : ByteArray) = z1 at *
        generalize (⟨(ms[j]).toArray⟩ : ByteArray) = z2 at *
        go_wp2_with fail
        go_quiet (fail)
        go_wp2_with fail
        go_ret
        rw [Hres.out]
        exact ⟨rfl, below_drewN hb _⟩
    · obtain rfl : j = n := by omega
      have hres : decide (ls = ms) = true := decide_eq_true (by
        have := heq.out
        rw [List.take_of_length_le (Nat.le_of_eq hn.out), List.take_of_length_le (Nat.le_of_eq HM.out.symm)] at this
        exact this)
      have Hres := Lib.hid hres
      clear hres
      go_wp2_with fail
      go_ret
      rw [Hres.out]
      exact ⟨rfl, hb⟩
theorem same_any (w : World) (B : Nat) (hBw : B ≤ w.heap.size) (a a' : Option Addr) (c c' : Nat) (ls ms : List (List UInt8)) (hm : ls.length ≤ 9223372036854775807) (hm' : ms.length ≤ 9223372036854775807) (hl : StrsAt B w a ls) (hl' : StrsAt B w a' ms) :
    Calls Try.prog 29 #[.slice a ls.length c, .slice a' ms.length c'] w fun e w' => e = .returned (.bool (decide (ls = ms))) ∧ Below w.heap.size w w' := by
  by_cases h : ls.length = ms.length
  · rw [← h]
    exact same_eqlen w B hBw a a' c c' ls ms h hm hl hl'
  · rw [decide_eq_false (fun e => h (by rw [e]))]
    exact same_len w a a' _ _ c c' h hm hm'

theorem psL_len (l : List UInt8) (h : l.length < 18446744073709551616) : (psL l).length ≤ l.length + 9 := by
  have := putL_len l.length h
  simp [psL]; omega
theorem psf_len (ls : List (List UInt8)) (h : ∀ l ∈ ls, l.length < 18446744073709551616) : ((ls.map psL).flatten).length ≤ sumL ls + 9 * ls.length := by
  unfold sumL
  induction ls with
  | nil => simp
  | cons l ls ih =>
    have h1 := ih fun x hx => h x (List.mem_cons_of_mem _ hx)
    have h2 := psL_len l (h l (List.mem_cons_self ..))
    simp only [List.map_cons, List.flatten_cons, List.length_append, List.sum_cons, List.length_cons]
    omega
theorem psf_take (ls : List (List UInt8)) (j : Nat) (l : List UInt8) (h : ls[j]? = some l) : ((ls.take (j + 1)).map psL).flatten = ((ls.take j).map psL).flatten ++ psL l := by
  rw [List.take_add_one, h]; simp
/-- A list whose code is no larger than memory. -/
def FewL (ls : List (List UInt8)) : Prop := ls.length ≤ 1000000 ∧ sumL ls ≤ 1000000
theorem mem_sumL {ls : List (List UInt8)} {l : List UInt8} (h : l ∈ ls) : l.length ≤ sumL ls := by
  unfold sumL
  induction ls with
  | nil => cases h
  | cons x xs ih =>
    simp only [List.map_cons, List.sum_cons]
    rcases List.mem_cons.1 h with rfl | h
    · omega
    · have := ih h; omega
theorem sumL_take_le (ls : List (List UInt8)) (j : Nat) : sumL (ls.take j) ≤ sumL ls := by
  have := congrArg sumL (List.take_append_drop j ls)
  unfold sumL at *
  rw [List.map_append, List.sum_append] at this
  omega
theorem FewL.psf {ls : List (List UInt8)} (h : FewL ls) (j : Nat) : (((ls.take j).map psL).flatten).length ≤ 10000000 := by
  have h1 := psf_len (ls.take j) fun l hl => by have := mem_sumL (List.mem_of_mem_take hl); have := h.2; omega
  have h2 := sumL_take_le ls j
  have h3 : (ls.take j).length ≤ ls.length := by simp; omega
  have := h.1; have := h.2
  omega

set_option maxHeartbeats 400000 in
theorem rputList_any (w : World) (B : Nat) (hBw : B ≤ w.heap.size) (a : Option Addr) (c : Nat) (ls : List (List UInt8)) (hf : FewL ls) (hl : StrsAt B w a ls) :
    Calls Try.prog 32 #[.slice a ls.length c] w fun e w' => e = .returned (.string ⟨(plL ls).toArray⟩) ∧ Below w.heap.size w w' := by
  have HL := Lib.hid hl
  have HF := Lib.hid hf
  have hnb : ls.length ≤ 1000000 := hf.1
  clear hl hf
  generalize hn0 : ls.length = n at *
  have hn := Lib.hid hn0
  clear hn0
  go_enter Try.func32, Try.ntmps32
  go_wp2_with fail
  refine (rput_any _ _ (by omega) (by omega)).mono ?_; rintro e w1 ⟨rfl, hb1⟩
  rw [Int.toNat_natCast]
  go_wp2_with fail
  go_loopw [3, 4] (fun q i wr => ∃ (j : Nat) (z : ByteArray), q = .string z ∧ i = .int .i64 j ∧ j ≤ n ∧ z.size ≤ 20000000 ∧ Hid (z.data.toList = putL n ++ ((ls.take j).map psL).flatten) ∧ Below w.heap.size w wr) (fun _ i _ => n - (intOf i).toNat)
  case atStart => exact ⟨0, _, rfl, rfl, Nat.zero_le _, by rw [← list_of_string]; have := putL_len n (by omega); simp; omega, by simp [Hid], hb1⟩
  case round =>
    obtain ⟨j, z, rfl, rfl, hj, hz, hzl, hb⟩ := hrel
    by_cases hlt : j < n
    · have hj1 : j < ls.length := by rw [hn.out]; exact hlt
      obtain ⟨b, off, ha, hbb, hc⟩ := (HL.out.below hb hBw) j _ (List.getElem?_eq_getElem hj1)
      subst ha
      have hll : (ls[j]).length ≤ 1000000 := Nat.le_trans (mem_sumL (List.getElem_mem hj1)) HF.out.2
      have hsz := list_of_string ⟨(ls[j]).toArray⟩
      have hps : ∀ w, Calls Try.prog 33 #[.string ⟨(ls[j]).toArray⟩] w fun e w' => e = .returned (.string ⟨(psL ls[j]).toArray⟩) ∧ Below w.heap.size w w' := fun w =>
        rputString_any ⟨(ls[j]).toArray⟩ w (by rw [← hsz]; simp; omega)
      have hz2 : Hid ((z ++ ⟨(psL ls[j]).toArray⟩ : ByteArray).data.toList = putL n ++ ((ls.take (j + 1)).map psL).flatten) := by
        show _ = _
        rw [psf_take ls j _ (List.getElem?_eq_getElem hj1), ← List.append_assoc, ← hzl.out]
        simp
      have hz3 : (z ++ ⟨(psL ls[j]).toArray⟩ : ByteArray).size ≤ 20000000 := by
        rw [← list_of_string, hz2.out, List.length_append]
        have := HF.out.psf (j + 1)
        have := putL_len n (by omega)
        omega
      have hsz2 : (⟨(psL ls[j]).toArray⟩ : ByteArray).size ≤ 20000000 := by rw [← list_of_string]; have := psL_len ls[j] (by omega); simp; omega
      clear hll hsz
      generalize (⟨(psL ls[j]).toArray⟩ : ByteArray) = y at *
      generalize (⟨(ls[j]).toArray⟩ : ByteArray) = x at *
      have HPS := Lib.hid hps
      clear hps hzl
      go_wp2_with fail
      refine (HPS.out _).mono ?_; rintro e w2 ⟨rfl, hb2⟩
      go_wp2_with fail
      go_roundw
      case rel => exact ⟨j + 1, _, rfl, by go_num, by omega, hz3, hz2, hb.trans (hb2.mono hb.size)⟩
      case measure => simp [intOf]; omega
    · obtain rfl : j = n := by omega
      have hz2 : Hid (z = ⟨(plL ls).toArray⟩) := by
        have := hzl.out
        rw [List.take_of_length_le (Nat.le_of_eq hn.out)] at this
        show _ = _
        unfold plL
        rw [hn.out, ← this]
      go_wp2_with fail
      go_ret
      rw [← hz2.out]
      exact ⟨rfl, hb⟩
end Go.Proofs.Ytjlkbjmclajlcaa
