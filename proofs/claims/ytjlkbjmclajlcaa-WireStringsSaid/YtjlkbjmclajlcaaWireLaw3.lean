/- The laws on lists: plain laws, and the walk of WireGetList. -/
import Derived.Test.YtjlkbjmclajlcaaWirePL
namespace Go.Proofs.Ytjlkbjmclajlcaa
open Go.RowKit Go.GxYtjlkbjmclajlcaa Go.BigFrame

theorem glN_prefix : ∀ (n : Nat) (s : List UInt8) (p : Nat) (r : List (List UInt8)) (m : Nat), p ≤ s.length → glN n s p = some (r, m) → r.length = n ∧ (r.map psL).flatten = (s.drop p).take (m - p) ∧ sumL r ≤ m - p
  | 0, s, p, r, m, hp, h => by
    simp [glN] at h; obtain ⟨rfl, rfl⟩ := h; simp [sumL]
  | n + 1, s, p, r, m, hp, h => by
    cases hg : gsL (s.drop p) with
    | none => rw [glN_succ_none hg] at h; cases h
    | some q =>
      obtain ⟨l, k⟩ := q
      rw [glN_succ_some hg] at h
      obtain ⟨h1, h2, h3⟩ := gs_pos hg
      obtain ⟨h4, h5⟩ := ps_prefix hg
      simp at h2
      simp only [Option.map_eq_some_iff] at h
      obtain ⟨⟨r', m'⟩, h6, h7⟩ := h
      simp only [Prod.mk.injEq] at h7
      obtain ⟨rfl, rfl⟩ := h7
      obtain ⟨h8, h9, h10⟩ := glN_prefix n s (p + k) r' m' (by omega) h6
      have h11 := glN_le n s (p + k) r' m' (by omega) h6
      have h12 : l.length ≤ k := by rw [h3]; simp [psL]
      refine ⟨by simp [h8], ?_, ?_⟩
      · rw [List.map_cons, List.flatten_cons, h9, h4, show m' - p = k + (m' - (p + k)) by omega, List.take_add, List.drop_drop]
      · unfold sumL at *
        simp only [List.map_cons, List.sum_cons]
        omega
theorem gl_prefix {s : List UInt8} {ls : List (List UInt8)} {m : Nat} (h : glL s = some (ls, m)) : plL ls = s.take m ∧ m ≤ s.length ∧ ls.length ≤ s.length ∧ sumL ls ≤ s.length := by
  cases hg : getL s with
  | none => rw [glL_none hg] at h; cases h
  | some p =>
    obtain ⟨n, k⟩ := p
    rw [glL_some hg] at h
    obtain ⟨h1, h2⟩ := get_prefix hg
    obtain ⟨h3, h4, h5⟩ := glN_prefix n s k ls m h2 h
    have h6 := glN_le n s k ls m h2 h
    refine ⟨?_, by omega, by omega, by omega⟩
    unfold plL
    rw [h3, h4, h1, ← List.take_add, show k + (m - k) = m by omega]
theorem glN_pl : ∀ (ls : List (List UInt8)) (a rest : List UInt8), (∀ l ∈ ls, l.length < 18446744073709551616) → glN ls.length (a ++ ((ls.map psL).flatten ++ rest)) a.length = some (ls, a.length + ((ls.map psL).flatten).length)
  | [], a, rest, _ => by simp [glN]
  | l :: ls, a, rest, h => by
    have h1 : gsL ((a ++ (((l :: ls).map psL).flatten ++ rest)).drop a.length) = some (l, (psL l).length) := by
      rw [List.drop_left' rfl, List.map_cons, List.flatten_cons, List.append_assoc]
      exact gs_ps l _ (h l (List.mem_cons_self ..))
    rw [List.length_cons, glN_succ_some h1]
    have h2 := glN_pl ls (a ++ psL l) rest fun x hx => h x (List.mem_cons_of_mem _ hx)
    rw [List.length_append, List.append_assoc] at h2
    rw [List.map_cons, List.flatten_cons, List.append_assoc, h2]
    simp only [Option.map_some, List.length_append, Nat.add_assoc]
theorem gl_pl (ls : List (List UInt8)) (rest : List UInt8) (hn : ls.length < 18446744073709551616) (h : ∀ l ∈ ls, l.length < 18446744073709551616) : glL (plL ls ++ rest) = some (ls, (plL ls).length) := by
  unfold plL
  rw [List.append_assoc, glL_some (get_put ls.length hn _), glN_pl ls _ _ h, List.length_append]
theorem FewL.lens {ls : List (List UInt8)} (h : FewL ls) : ls.length < 18446744073709551616 ∧ ∀ l ∈ ls, l.length < 18446744073709551616 :=
  ⟨by have := h.1; omega, fun l hl => by have := mem_sumL hl; have := h.2; omega⟩
theorem pl_inj {l m : List (List UInt8)} (hl : FewL l) (hm : FewL m) : Lib.hasPrefix (plL l) (plL m) = decide (l = m) := by
  by_cases h : l = m
  · subst h
    rw [decide_eq_true rfl]
    unfold Lib.hasPrefix
    rw [List.isPrefixOf_iff_prefix]; exact List.prefix_refl _
  · rw [decide_eq_false h]
    cases hp : Lib.hasPrefix (plL l) (plL m) with
    | false => rfl
    | true =>
      unfold Lib.hasPrefix at hp
      rw [List.isPrefixOf_iff_prefix] at hp
      obtain ⟨r, hr⟩ := hp
      have h1 := gl_pl m r hm.lens.1 hm.lens.2
      have h2 := gl_pl l [] hl.lens.1 hl.lens.2
      rw [List.append_nil, ← hr, h1] at h2
      simp only [Option.some.injEq, Prod.mk.injEq] at h2
      exact absurd h2.1.symm h

theorem getList_none (s : ByteArray) (w : World) (hs : s.size ≤ 1099511627776) (h : glL s.data.toList = none) :
    Calls Try.prog 30 #[.string s] w fun e w' => e = .returned (.tuple #[.slice none 0 0, .int .i64 0, .int .i64 2]) ∧ Below w.heap.size w w' := by
  have := getList_any s w hs
  rw [h] at this
  exact this
theorem rgetList_none (s : ByteArray) (w : World) (hs : s.size ≤ 1099511627776) (h : glL s.data.toList = none) :
    Calls Try.prog 31 #[.string s] w fun e w' => e = .returned (.tuple #[.slice none 0 0, .int .i64 0, .int .i64 2]) ∧ Below w.heap.size w w' := by
  have := rgetList_any s w hs
  rw [h] at this
  exact this
theorem getList_some (s : ByteArray) (w : World) (hs : s.size ≤ 1099511627776) (ls : List (List UInt8)) (m : Nat) (h : glL s.data.toList = some (ls, m)) :
    Calls Try.prog 30 #[.string s] w fun e w' => ∃ a c, e = .returned (.tuple #[.slice a ls.length c, .int .i64 m, .int .i64 0]) ∧ StrsAt w'.heap.size w' a ls ∧ Below w.heap.size w w' := by
  have := getList_any s w hs
  rw [h] at this
  refine this.mono ?_
  rintro e w' ⟨v, rfl, hown, hb⟩
  obtain ⟨a, c, rfl, hst⟩ := strs_of_own hown
  exact ⟨a, c, rfl, hst, hb⟩
theorem rgetList_some (s : ByteArray) (w : World) (hs : s.size ≤ 1099511627776) (ls : List (List UInt8)) (m : Nat) (h : glL s.data.toList = some (ls, m)) :
    Calls Try.prog 31 #[.string s] w fun e w' => ∃ a c, e = .returned (.tuple #[.slice a ls.length c, .int .i64 m, .int .i64 0]) ∧ StrsAt w'.heap.size w' a ls ∧ Below w.heap.size w w' := by
  have := rgetList_any s w hs
  rw [h] at this
  refine this.mono ?_
  rintro e w' ⟨v, rfl, hown, hb⟩
  obtain ⟨a, c, rfl, hst⟩ := strs_of_own hown
  exact ⟨a, c, rfl, hst, hb⟩
theorem same_true (w : World) (B : Nat) (hBw : B ≤ w.heap.size) (a a' : Option Addr) (c c' n : Nat) (ls : List (List UInt8)) (hn : n = ls.length) (hm : n ≤ 9223372036854775807) (hl : StrsAt B w a ls) (hl' : StrsAt B w a' ls) :
    Calls Try.prog 29 #[.slice a n c, .slice a' n c'] w fun e w' => e = .returned (.bool true) ∧ Below w.heap.size w w' := by
  subst hn
  have := same_any w B hBw a a' c c' ls ls hm hm hl hl'
  rw [decide_eq_true rfl] at this
  exact this

set_option maxHeartbeats 400000 in
theorem wireGetList_long (s : ByteArray) (h : 1000 < s.size) (_hs : s.size ≤ 9223372036854775807) (w : World) :
    Calls Try.prog 9 #[.string s] w fun e w' => e = .returned (.bool true) ∧ Below w.heap.size w w' := by
  go_enter Try.func9, Try.ntmps9
  go_wp2_with fail
  refine (awake_any _).mono ?_; rintro e w1 ⟨rfl, hb1⟩
  go_wp2_with fail
  refine (awake_any _).mono ?_; rintro e w2 ⟨rfl, hb2⟩
  go_wp2_with fail
  go_ret
  exact ⟨rfl, below2 hb1 hb2⟩
set_option maxHeartbeats 400000 in
theorem wireGetList_none (s : ByteArray) (h : s.size ≤ 1000) (hg : glL s.data.toList = none) (w : World) :
    Calls Try.prog 9 #[.string s] w fun e w' => e = .returned (.bool true) ∧ Below w.heap.size w w' := by
  have H := Lib.hid hg
  clear hg
  go_enter Try.func9, Try.ntmps9
  go_wp2_with fail
  refine (awake_any _).mono ?_; rintro e w1 ⟨rfl, hb1⟩
  go_wp2_with fail
  refine (getList_none s _ (by omega) H.out).mono ?_; rintro e w2 ⟨rfl, hb2⟩
  go_wp2_with fail
  refine (rgetList_none s _ (by omega) H.out).mono ?_; rintro e w3 ⟨rfl, hb3⟩
  go_wp2_with fail
  refine wp_region_later w3.heap.size (by kernel_rfl) (by kernel_rfl) ?_
  repeat (any_goals (go_big_quiet_step ((go_at_call 29; exact later_call (Nat.le_refl _) (same_true _ 0 (Nat.zero_le _) none none 0 0 0 [] rfl (by omega) (fun j l hj => by simp at hj) (fun j l hj => by simp at hj))))))
  refine wpQuiet_nil ?_
  intro _ hw'
  obtain ⟨⟨w4, hb4⟩, rfl⟩ := hw'
  go_wp2_with fail
  go_ret
  exact ⟨rfl, below2 (below2 (below2 hb1 hb2) hb3) hb4⟩
set_option maxHeartbeats 400000 in
theorem wireGetList_some (s : ByteArray) (h : s.size ≤ 1000) (ls : List (List UInt8)) (m : Nat) (hg : glL s.data.toList = some (ls, m)) (w : World) :
    Calls Try.prog 9 #[.string s] w fun e w' => e = .returned (.bool true) ∧ Below w.heap.size w w' := by
  obtain ⟨hpre, hm, hn, hsum⟩ := gl_prefix hg
  rw [list_of_string] at hm hn hsum
  have hf : FewL ls := ⟨by omega, by omega⟩
  have hsl := run_slice_to (P := Try.prog) 9 Try.underlying9 s m hm
  have he0 : s.extract 0 m = ⟨(plL ls).toArray⟩ := by
    have e := extract_toList s 0 m
    rw [List.drop_zero, Nat.sub_zero, ← hpre] at e
    rw [← e]
  rw [he0] at hsl
  have H := Lib.hid hg
  have HF := Lib.hid hf
  generalize hn0 : ls.length = n at *
  have Hn := Lib.hid hn0
  have hpl : ∀ (w : World) (B : Nat), B ≤ w.heap.size → ∀ a c, StrsAt B w a ls → Calls Try.prog 27 #[.slice a n c] w fun e w' => e = .returned (.string ⟨(plL ls).toArray⟩) ∧ Below w.heap.size w w' := fun w B hB a c hst => by
    rw [← hn0]; exact putList_any w B hB a c ls HF.out hst
  have HPL := Lib.hid hpl
  clear hg hpre he0 hf hpl hn0
  generalize (⟨(plL ls).toArray⟩ : ByteArray) = q at *
  go_enter Try.func9, Try.ntmps9
  go_wp2_with fail
  refine (awake_any _).mono ?_; rintro e w1 ⟨rfl, hb1⟩
  go_wp2_with fail
  refine (getList_some s _ (by omega) ls m H.out).mono ?_; rintro e w2 ⟨a2, c2, rfl, hst2, hb2⟩
  rw [Hn.out]
  have HS2 := Lib.hid hst2
  clear hst2
  go_wp2_with fail
  refine (rgetList_some s _ (by omega) ls m H.out).mono ?_; rintro e w3 ⟨a3, c3, rfl, hst3, hb3⟩
  rw [Hn.out]
  have HS2' := Lib.hid ((HS2.out.below hb3 (Nat.le_refl _)).mono hb3.size)
  have HS3 := Lib.hid hst3
  clear hst3
  go_wp2_with fail
  refine wp_region_later w3.heap.size (by kernel_rfl) (by kernel_rfl) ?_
  repeat (any_goals (go_big_quiet_step (first
    | (go_at_call 29; exact later_call (Nat.le_refl _) (same_true _ w3.heap.size (Later.below _).size a2 a3 c2 c3 n ls Hn.out.symm (by omega) (HS2'.out.below (Later.below _) (Nat.le_refl _)) (HS3.out.below (Later.below _) (Nat.le_refl _))))
    | (go_at_call 27; exact later_call (Nat.le_refl _) (HPL.out _ w3.heap.size (Later.below _).size a3 c3 (HS3.out.below (Later.below _) (Nat.le_refl _)))))))
  refine wpQuiet_nil ?_
  intro _ hw'
  obtain ⟨⟨w4, hb4⟩, rfl⟩ := hw'
  go_wp2_with fail
  go_ret
  exact ⟨rfl, below2 (below2 (below2 hb1 hb2) hb3) hb4⟩
end Go.Proofs.Ytjlkbjmclajlcaa
