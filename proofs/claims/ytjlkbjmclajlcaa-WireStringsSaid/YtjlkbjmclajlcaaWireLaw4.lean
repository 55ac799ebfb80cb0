/- The walks of WirePrefix and WireStrings. -/
import Derived.Test.YtjlkbjmclajlcaaWireLaw3
namespace Go.Proofs.Ytjlkbjmclajlcaa
open Go.RowKit Go.GxYtjlkbjmclajlcaa Go.BigFrame

/-- Few's answer. -/
def fewB (ls : List (List UInt8)) : Bool := decide (ls.length ≤ 300 ∧ sumL ls ≤ 5000)
/-- An argument of type []string. -/
structure StrArg (w : World) (a : Option Addr) (n c : Nat) (ls : List (List UInt8)) : Prop where
  len : ls.length = n
  top : n ≤ 9223372036854775807
  nil : a = none → c = 0
  each : ∀ l ∈ ls, l.length ≤ 140737488355328
  cells : StrsAt w.heap.size w a ls
theorem StrArg.below {w w' : World} {a : Option Addr} {n c : Nat} {ls : List (List UInt8)} (h : StrArg w a n c ls) (hb : Below w.heap.size w w') : StrArg w' a n c ls :=
  ⟨h.len, h.top, h.nil, h.each, (h.cells.below hb (Nat.le_refl _)).mono hb.size⟩
theorem few_arg {w : World} {a : Option Addr} {n c : Nat} {ls : List (List UInt8)} (h : StrArg w a n c ls) (b : Bool) (hb : fewB ls = b) :
    Calls Try.prog 26 #[.slice a n c] w fun e w' => e = .returned (.bool b) ∧ w = w' := by
  have h1 := h.len
  subst h1
  by_cases hn : ls.length ≤ 300
  · refine (few_short w a c ls hn h.each h.cells).mono ?_
    rintro e w' ⟨rfl, rfl⟩
    refine ⟨?_, rfl⟩
    rw [← hb, fewB]
    congr 2
    exact decide_eq_decide.2 ⟨fun h => ⟨hn, h⟩, fun h => h.2⟩
  · refine (few_long w a c ls (by omega) h.top h.cells).mono ?_
    rintro e w' ⟨rfl, rfl⟩
    refine ⟨?_, rfl⟩
    rw [← hb, fewB, decide_eq_false (fun h => hn h.1)]
theorem few_true {ls : List (List UInt8)} (h : fewB ls = true) : FewL ls := by
  have := of_decide_eq_true h
  exact ⟨by omega, by omega⟩
theorem clone_arg {w : World} {a : Option Addr} {n c : Nat} {ls : List (List UInt8)} (h : StrArg w a n c ls) (hf : FewL ls) :
    Calls Try.prog 28 #[.slice a n c] w fun e w' => ∃ a' c', e = .returned (.slice a' n c') ∧ StrsAt w'.heap.size w' a' ls ∧ Below w.heap.size w w' := by
  have h1 := h.len
  subst h1
  exact clone_any w a c ls hf h.cells h.nil
theorem putList_at {w : World} {a : Option Addr} {n c : Nat} {ls : List (List UInt8)} (hn : ls.length = n) (hf : FewL ls) (h : StrsAt w.heap.size w a ls) :
    Calls Try.prog 27 #[.slice a n c] w fun e w' => e = .returned (.string ⟨(plL ls).toArray⟩) ∧ Below w.heap.size w w' := by
  subst hn
  exact putList_any w w.heap.size (Nat.le_refl _) a c ls hf h
theorem rputList_at {w : World} {a : Option Addr} {n c : Nat} {ls : List (List UInt8)} (hn : ls.length = n) (hf : FewL ls) (h : StrsAt w.heap.size w a ls) :
    Calls Try.prog 32 #[.slice a n c] w fun e w' => e = .returned (.string ⟨(plL ls).toArray⟩) ∧ Below w.heap.size w w' := by
  subst hn
  exact rputList_any w w.heap.size (Nat.le_refl _) a c ls hf h
theorem same_arg {w : World} {a a' : Option Addr} {n n' c c' : Nat} {ls ms : List (List UInt8)} (h : StrArg w a n c ls) (h' : StrArg w a' n' c' ms) :
    Calls Try.prog 29 #[.slice a n c, .slice a' n' c'] w fun e w' => e = .returned (.bool (decide (ls = ms))) ∧ Below w.heap.size w w' := by
  have h1 := h.len
  have h2 := h'.len
  subst h1 h2
  exact same_any w w.heap.size (Nat.le_refl _) a a' c c' ls ms h.top h'.top h.cells h'.cells

set_option maxHeartbeats 400000 in
theorem wirePrefix_few1 (w : World) (a a' : Option Addr) (n n' c c' : Nat) (ls : List (List UInt8)) (h : StrArg w a n c ls) (hf : fewB ls = false) :
    Calls Try.prog 8 #[.slice a n c, .slice a' n' c'] w fun e w' => e = .returned (.bool true) ∧ Below w.heap.size w w' := by
  have H := Lib.hid h
  have HF := Lib.hid hf
  clear h hf
  go_enter Try.func8, Try.ntmps8
  go_wp2_with fail
  refine (awake_any _).mono ?_; rintro e w1 ⟨rfl, hb1⟩
  go_wp2_with fail
  refine (few_arg (H.out.below hb1) false HF.out).mono ?_; rintro e w2 ⟨rfl, rfl⟩
  go_wp2_with fail
  refine (awake_any _).mono ?_; rintro e w2 ⟨rfl, hb2⟩
  go_wp2_with fail
  go_ret
  exact ⟨rfl, below2 hb1 hb2⟩
set_option maxHeartbeats 400000 in
theorem wirePrefix_few2 (w : World) (a a' : Option Addr) (n n' c c' : Nat) (ls ms : List (List UInt8)) (h : StrArg w a n c ls) (h' : StrArg w a' n' c' ms) (hf : fewB ls = true) (hf' : fewB ms = false) :
    Calls Try.prog 8 #[.slice a n c, .slice a' n' c'] w fun e w' => e = .returned (.bool true) ∧ Below w.heap.size w w' := by
  have H := Lib.hid h
  have H' := Lib.hid h'
  have HF := Lib.hid hf
  have HF' := Lib.hid hf'
  clear h hf h' hf'
  go_enter Try.func8, Try.ntmps8
  go_wp2_with fail
  refine (awake_any _).mono ?_; rintro e w1 ⟨rfl, hb1⟩
  go_wp2_with fail
  refine (few_arg (H.out.below hb1) true HF.out).mono ?_; rintro e w2 ⟨rfl, rfl⟩
  go_wp2_with fail
  refine (few_arg (H'.out.below hb1) false HF'.out).mono ?_; rintro e w2 ⟨rfl, rfl⟩
  go_wp2_with fail
  refine (awake_any _).mono ?_; rintro e w2 ⟨rfl, hb2⟩
  go_wp2_with fail
  go_ret
  exact ⟨rfl, below2 hb1 hb2⟩
set_option maxHeartbeats 1000000 in
theorem wirePrefix_main (w : World) (a a' : Option Addr) (n n' c c' : Nat) (ls ms : List (List UInt8)) (h : StrArg w a n c ls) (h' : StrArg w a' n' c' ms) (hf : fewB ls = true) (hf' : fewB ms = true) :
    Calls Try.prog 8 #[.slice a n c, .slice a' n' c'] w fun e w' => e = .returned (.bool true) ∧ Below w.heap.size w w' := by
  have hp1 : ∀ w, Calls Try.prog 16 #[.string ⟨(plL ls).toArray⟩, .string ⟨(plL ms).toArray⟩] w fun e w' => e = .returned (.bool (decide (ls = ms))) ∧ w = w' := fun w =>
    (Try.strings_HasPrefix ⟨(plL ls).toArray⟩ ⟨(plL ms).toArray⟩ w).mono fun e w' ⟨h1, h2⟩ => ⟨by rw [h1]; exact congrArg (fun b => Ending.returned (.bool b)) (pl_inj (few_true hf) (few_true hf')), h2.symm⟩
  have hp2 : ∀ w, Calls Try.prog 16 #[.string ⟨(plL ms).toArray⟩, .string ⟨(plL ls).toArray⟩] w fun e w' => e = .returned (.bool (decide (ls = ms))) ∧ w = w' := fun w =>
    (Try.strings_HasPrefix ⟨(plL ms).toArray⟩ ⟨(plL ls).toArray⟩ w).mono fun e w' ⟨h1, h2⟩ => ⟨by rw [h1]; exact congrArg (fun b => Ending.returned (.bool b)) ((pl_inj (few_true hf') (few_true hf)).trans (decide_eq_decide.2 eq_comm)), h2.symm⟩
  have hput1 := fun (w : World) (a : Option Addr) (c : Nat) => putList_at (w := w) (a := a) (c := c) h.len (few_true hf)
  have hput2 := fun (w : World) (a : Option Addr) (c : Nat) => putList_at (w := w) (a := a) (c := c) h'.len (few_true hf')
  have hsm := fun (w : World) (h : StrArg w a n c ls) (h' : StrArg w a' n' c' ms) => same_arg h h'
  generalize (⟨(plL ls).toArray⟩ : ByteArray) = q at *
  generalize (⟨(plL ms).toArray⟩ : ByteArray) = q' at *
  generalize decide (ls = ms) = d at *
  have H := Lib.hid h
  have H' := Lib.hid h'
  have HF := Lib.hid hf
  have HF' := Lib.hid hf'
  have HP1 := Lib.hid hp1
  have HP2 := Lib.hid hp2
  have HPut1 := Lib.hid hput1
  have HPut2 := Lib.hid hput2
  have HSM := Lib.hid hsm
  clear h hf h' hf' hp1 hp2 hput1 hput2 hsm
  have hdd : (d == d) = true := by simp
  cases d
  all_goals
    go_enter Try.func8, Try.ntmps8
    go_wp2_with fail
    refine (awake_any _).mono ?_; rintro e w1 ⟨rfl, hb1⟩
    go_wp2_with fail
    refine (few_arg (H.out.below hb1) true HF.out).mono ?_; rintro e w2 ⟨rfl, rfl⟩
    go_wp2_with fail
    refine (few_arg (H'.out.below hb1) true HF'.out).mono ?_; rintro e w2 ⟨rfl, rfl⟩
    go_wp2_with fail
    refine (clone_arg (H.out.below hb1) (few_true HF.out)).mono ?_; rintro e w2 ⟨a2, c2, rfl, hs2, hb2⟩
    go_wp2_with fail
    refine (HPut1.out _ a2 c2 hs2).mono ?_; rintro e w3 ⟨rfl, hb3⟩
    have hb4 := below2 (below2 hb1 hb2) hb3
    clear hb1 hb2 hb3 hs2
    go_wp2_with fail
    refine (clone_arg (H'.out.below hb4) (few_true HF'.out)).mono ?_; rintro e w5 ⟨a5, c5, rfl, hs5, hb5⟩
    go_wp2_with fail
    refine (HPut2.out _ a5 c5 hs5).mono ?_; rintro e w6 ⟨rfl, hb6⟩
    have hb7 := below2 (below2 hb4 hb5) hb6
    clear hb4 hb5 hb6 hs5
    go_wp2_with fail
    refine (HP1.out _).mono ?_; rintro e w8 ⟨rfl, rfl⟩
    go_wp2_with fail
    refine (HSM.out _ (H.out.below hb7) (H'.out.below hb7)).mono ?_; rintro e w9 ⟨rfl, hb9⟩
    have hb10 := below2 hb7 hb9
    clear hb7 hb9
    go_wp2_with fail
    refine (HP2.out _).mono ?_; rintro e w11 ⟨rfl, rfl⟩
    go_wp2_with fail
    refine (HSM.out _ (H.out.below hb10) (H'.out.below hb10)).mono ?_; rintro e w12 ⟨rfl, hb12⟩
    go_wp2_with fail
    go_ret
    exact ⟨rfl, below2 hb10 hb12⟩
theorem pl_len {ls : List (List UInt8)} (hf : FewL ls) : (plL ls).length ≤ 10000009 := by
  have h1 := hf.psf ls.length
  rw [List.take_of_length_le (Nat.le_refl _)] at h1
  have h2 := putL_len ls.length hf.lens.1
  unfold plL
  simp only [List.length_append]
  omega
/-- A string put ahead of another one. -/
theorem cat_list (q : List UInt8) (rest : ByteArray) : ((⟨q.toArray⟩ : ByteArray) ++ rest).data.toList = q ++ rest.data.toList := by simp
theorem cat_size (q : List UInt8) (rest : ByteArray) : ((⟨q.toArray⟩ : ByteArray) ++ rest).size = q.length + rest.size := by
  rw [← list_of_string, cat_list, List.length_append, list_of_string]

set_option maxHeartbeats 400000 in
theorem wireStrings_few (w : World) (a : Option Addr) (n c : Nat) (ls : List (List UInt8)) (rest : ByteArray) (h : StrArg w a n c ls) (hf : fewB ls = false) :
    Calls Try.prog 10 #[.slice a n c, .string rest] w fun e w' => e = .returned (.bool true) ∧ Below w.heap.size w w' := by
  have H := Lib.hid h
  have HF := Lib.hid hf
  clear h hf
  go_enter Try.func10, Try.ntmps10
  go_wp2_with fail
  refine (awake_any _).mono ?_; rintro e w1 ⟨rfl, hb1⟩
  go_wp2_with fail
  refine (few_arg (H.out.below hb1) false HF.out).mono ?_; rintro e w2 ⟨rfl, rfl⟩
  go_wp2_with fail
  refine (awake_any _).mono ?_; rintro e w2 ⟨rfl, hb2⟩
  go_wp2_with fail
  go_ret
  exact ⟨rfl, below2 hb1 hb2⟩
set_option maxHeartbeats 400000 in
theorem wireStrings_long (w : World) (a : Option Addr) (n c : Nat) (ls : List (List UInt8)) (rest : ByteArray) (h : StrArg w a n c ls) (hf : fewB ls = true) (hr : 100 < rest.size) (_hr : rest.size ≤ 9223372036854775807) :
    Calls Try.prog 10 #[.slice a n c, .string rest] w fun e w' => e = .returned (.bool true) ∧ Below w.heap.size w w' := by
  have H := Lib.hid h
  have HF := Lib.hid hf
  clear h hf
  go_enter Try.func10, Try.ntmps10
  go_wp2_with fail
  refine (awake_any _).mono ?_; rintro e w1 ⟨rfl, hb1⟩
  go_wp2_with fail
  refine (few_arg (H.out.below hb1) true HF.out).mono ?_; rintro e w2 ⟨rfl, rfl⟩
  go_wp2_with fail
  refine (awake_any _).mono ?_; rintro e w2 ⟨rfl, hb2⟩
  go_wp2_with fail
  go_ret
  exact ⟨rfl, below2 hb1 hb2⟩
set_option maxHeartbeats 2000000 in
set_option maxRecDepth 100000 in
theorem wireStrings_main (w : World) (a : Option Addr) (n c : Nat) (ls : List (List UInt8)) (rest : ByteArray) (h : StrArg w a n c ls) (hf : fewB ls = true) (hr : rest.size ≤ 100) :
    Calls Try.prog 10 #[.slice a n c, .string rest] w fun e w' => e = .returned (.bool true) ∧ Below w.heap.size w w' := by
  have hF := few_true hf
  have hnb : n ≤ 1000000 := by have := h.len; have := hF.1; omega
  have hpll := pl_len hF
  have hsz := cat_size (plL ls) rest
  have hql := list_of_string ⟨(plL ls).toArray⟩
  have hql' : (⟨(plL ls).toArray⟩ : ByteArray).size = (plL ls).length := hql.symm
  have hget : ∀ w, Calls Try.prog 30 #[.string ((⟨(plL ls).toArray⟩ : ByteArray) ++ rest)] w fun e w' => ∃ a c, e = .returned (.tuple #[.slice a n c, .int .i64 (plL ls).length, .int .i64 0]) ∧ StrsAt w'.heap.size w' a ls ∧ Below w.heap.size w w' := fun w => by
    have := getList_some ((⟨(plL ls).toArray⟩ : ByteArray) ++ rest) w (by rw [hsz]; omega) ls (plL ls).length (by rw [cat_list]; exact gl_pl ls _ hF.lens.1 hF.lens.2)
    rw [h.len] at this
    exact this
  have hput1 := fun (w : World) (a : Option Addr) (c : Nat) => putList_at (w := w) (a := a) (c := c) h.len hF
  have hput2 := fun (w : World) (a : Option Addr) (c : Nat) => rputList_at (w := w) (a := a) (c := c) h.len hF
  clear hsz hql
  generalize (plL ls).length = m at *
  generalize (⟨(plL ls).toArray⟩ : ByteArray) = q at *
  have H := Lib.hid h
  have HF := Lib.hid hf
  have HG := Lib.hid hget
  have HPut1 := Lib.hid hput1
  have HPut2 := Lib.hid hput2
  clear h hf hF hget hput1 hput2
  go_enter Try.func10, Try.ntmps10
  go_wp2_with fail
  refine (awake_any _).mono ?_; rintro e w1 ⟨rfl, hb1⟩
  go_wp2_with fail
  refine (few_arg (H.out.below hb1) true HF.out).mono ?_; rintro e w2 ⟨rfl, rfl⟩
  go_wp2_with fail
  refine (clone_arg (H.out.below hb1) (few_true HF.out)).mono ?_; rintro e w2 ⟨a2, c2, rfl, hs2, hb2⟩
  go_wp2_with fail
  refine (HPut1.out _ a2 c2 hs2).mono ?_; rintro e w3 ⟨rfl, hb3⟩
  have hb4 := below2 (below2 hb1 hb2) hb3
  clear hb1 hb2 hb3 hs2
  go_wp2_with fail
  refine (HG.out _).mono ?_; rintro e w5 ⟨a5, c5, rfl, hs5, hb5⟩
  have hb6 := below2 hb4 hb5
  have HS5 := Lib.hid hs5
  clear hb4 hb5 hs5
  go_wp2_with fail
  refine (HPut2.out _ a c (H.out.below hb6).cells).mono ?_; rintro e w7 ⟨rfl, hb7⟩
  have hb8 := below2 hb6 hb7
  have HS7 := Lib.hid ((HS5.out.below hb7 (Nat.le_refl _)).mono hb7.size)
  clear hb6 hb7 HS5
  go_wp2_with fail
  refine (same_true _ _ (Nat.le_refl _) a a5 c c5 n ls H.out.len.symm (by omega) (H.out.below hb8).cells HS7.out).mono ?_; rintro e w9 ⟨rfl, hb9⟩
  have hb10 := below2 hb8 hb9
  clear hb8 hb9 HS7
  go_wp2_with fail
  go_loopw [61] (fun i wr => ∃ (j : Nat), i = .int .i64 j ∧ j ≤ n ∧ Below w.heap.size w wr) (fun i _ => n - (intOf i).toNat)
  case atStart => exact ⟨0, rfl, Nat.zero_le _, hb10⟩
  case round =>
    clear hb10
    obtain ⟨j, rfl, hj, hb⟩ := hrel
    by_cases hlt : j < n
    · have hj1 : j < ls.length := by rw [H.out.len]; exact hlt
      obtain ⟨b, off, ha, hbb, hc⟩ := (H.out.below hb).cells j _ (List.getElem?_eq_getElem hj1)
      subst ha
      have hll : (ls[j]).length ≤ 1000000 := Nat.le_trans (mem_sumL (List.getElem_mem hj1)) (few_true HF.out).2
      have hpsl := psL_len ls[j] (by omega)
      have hsz := list_of_string ⟨(ls[j]).toArray⟩
      have hps : ∀ w, Calls Try.prog 19 #[.string ⟨(ls[j]).toArray⟩] w fun e w' => e = .returned (.string ⟨(psL ls[j]).toArray⟩) ∧ Below w.heap.size w w' := fun w =>
        putString_any ⟨(ls[j]).toArray⟩ w (by rw [← hsz]; simp; omega)
      have hrps : ∀ w, Calls Try.prog 33 #[.string ⟨(ls[j]).toArray⟩] w fun e w' => e = .returned (.string ⟨(psL ls[j]).toArray⟩) ∧ Below w.heap.size w w' := fun w =>
        rputString_any ⟨(ls[j]).toArray⟩ w (by rw [← hsz]; simp; omega)
      have hcs := cat_size (psL ls[j]) rest
      have hgs : ∀ w, Calls Try.prog 17 #[.string ((⟨(psL ls[j]).toArray⟩ : ByteArray) ++ rest)] w fun e w' => e = .returned (.tuple #[.string ⟨(ls[j]).toArray⟩, .int .i64 (psL ls[j]).length, .int .i64 0]) ∧ Below w.heap.size w w' := fun w =>
        getString_some _ w (by rw [hcs]; omega) ls[j] (psL ls[j]).length (by rw [cat_list]; exact gs_ps _ _ (by omega))
      have hysz : (⟨(psL ls[j]).toArray⟩ : ByteArray).size = (psL ls[j]).length := (list_of_string ⟨(psL ls[j]).toArray⟩).symm
      have hk : (psL ls[j]).length ≤ 1000009 := by omega
      clear hll hsz hcs
      generalize (psL ls[j]).length = k at *
      generalize (⟨(psL ls[j]).toArray⟩ : ByteArray) = y at *
      generalize (⟨(ls[j]).toArray⟩ : ByteArray) = x at *
      have HPS := Lib.hid hps
      have HRPS := Lib.hid hrps
      have HGS := Lib.hid hgs
      clear hps hrps hgs
      go_wp2_with fail
      refine (HPS.out _).mono ?_; rintro e w2 ⟨rfl, hb2⟩
      have hb3 : Below w.heap.size w w2 := hb.trans (hb2.mono hb.size)
      go_wp2_with fail
      refine (HGS.out _).mono ?_; rintro e w4 ⟨rfl, hb4⟩
      have hb5 : Below w.heap.size w w4 := hb3.trans (hb4.mono hb3.size)
      go_wp2_with fail
      refine (HRPS.out _).mono ?_; rintro e w6 ⟨rfl, hb6⟩
      have hb7 : Below w.heap.size w w6 := hb5.trans (hb6.mono hb5.size)
      clear hb hb2 hb3 hb4 hb5 hb6
      go_wp2_with fail
      go_roundw
      case rel => exact ⟨j + 1, by go_num, by omega, hb7⟩
      case measure => simp [intOf]; omega
    · obtain rfl : j = n := by omega
      go_wp2_with fail
      go_ret
      exact ⟨rfl, hb⟩
end Go.Proofs.Ytjlkbjmclajlcaa
