/- The walks of the two GetList. -/
import Derived.Test.YtjlkbjmclajlcaaWireList
namespace Go.Proofs.Ytjlkbjmclajlcaa
open Go.RowKit Go.GxYtjlkbjmclajlcaa Go.BigFrame


set_option maxHeartbeats 400000 in
theorem getList_none1 (s : ByteArray) (w : World) (hs : s.size ≤ 9223372036854775807) (h : getL s.data.toList = none) :
    Calls Try.prog 30 #[.string s] w fun e w' => e = .returned (.tuple #[.slice none 0 0, .int .i64 0, .int .i64 2]) ∧ Below w.heap.size w w' := by
  have H := Lib.hid h
  clear h
  go_enter Try.func30, Try.ntmps30
  go_wp2_with (go_at_call 13; refine (get_none _ _ hs H.out).mono ?_; rintro e w1 ⟨rfl, hb⟩)
  go_ret3
  exact ⟨rfl, hb⟩

set_option maxHeartbeats 400000 in
theorem getList_none2 (s : ByteArray) (w : World) (hs : s.size ≤ 9223372036854775807) (n k : Nat) (h : getL s.data.toList = some (n, k)) (hk : k ≤ s.size) (hn : n < 18446744073709551616) (h2 : (s.size : Int) - k < n) :
    Calls Try.prog 30 #[.string s] w fun e w' => e = .returned (.tuple #[.slice none 0 0, .int .i64 0, .int .i64 2]) ∧ Below w.heap.size w w' := by
  have H := Lib.hid h
  clear h
  go_enter Try.func30, Try.ntmps30
  go_wp2_with (go_at_call 13; refine (get_some _ _ hs n k H.out).mono ?_; rintro e w1 ⟨rfl, hb⟩)
  go_ret3
  exact ⟨rfl, hb⟩

set_option maxHeartbeats 1000000 in
theorem getList_loop (s : ByteArray) (w : World) (hs : s.size ≤ 1099511627776) (n k : Nat) (h : getL s.data.toList = some (n, k)) (hk : k ≤ s.size) (hn : n < 18446744073709551616) (h2 : (n : Int) ≤ (s.size : Int) - k) :
    Calls Try.prog 30 #[.string s] w fun e w' => GlPost 9 w (glN n s.data.toList k) e w' := by
  obtain ⟨i0, hi, hz0, hz1, hz2⟩ := info_parts infoStr
  have hlen := list_of_string s
  have hst := Lib.hid (Read.start (n := n) (s := s.data.toList) (k := k) (by omega))
  have H := Lib.hid h
  have Hlen := Lib.hid hlen
  clear h hlen
  go_enter Try.func30, Try.ntmps30
  go_wp2_with (go_at_call 13; refine (get_some _ _ (by omega) n k H.out).mono ?_; rintro e w1 ⟨rfl, hb0⟩)
  go_loopw [6, 8, 30] (fun p v i wr => ∃ (i' q : Nat) (ls : List (List UInt8)), p = .int .i64 q ∧ i = .int .u64 i' ∧ Hid (Read n s.data.toList k i' q ls) ∧ wr.ownsRow w.heap.size 9 1 v ls.length (strCellsOf ls) ∧ Below w.heap.size w wr) (fun _ _ i _ => n - (intOf i).toNat)
  case atStart => exact ⟨0, k, [], rfl, rfl, hst.out, World.ownsRow_nil _ _ _ _, hb0⟩
  case round =>
    obtain ⟨i', q, ls, rfl, rfl, hr, hown, hb⟩ := hrel
    have hBs := hb.size
    have hrr := hr.out
    have hq1 : k + i' ≤ q := hrr.2.2.1
    have hq2 : q ≤ s.size := by have := hrr.2.2.2.1; rw [Hlen.out] at this; exact this
    have hin : i' ≤ n := hrr.1
    have hll : Hid (ls.length = i') := hrr.2.1
    clear hrr
    by_cases hlt : i' < n
    · have hsl := run_slice_from (P := Try.prog) 9 Try.underlying9 s q hq2
      obtain ⟨hd1, hd2⟩ := drop_string s q hq2
      generalize s.extract q s.size = t at *
      have Hd1 := Lib.hid hd1
      have Hd2 := Lib.hid hd2
      clear hd1 hd2
      cases hg : gsL (s.data.toList.drop q) with
      | none =>
        have hstop := Lib.hid (hr.out.stop hlt hg)
        have HG : Hid (gsL t.data.toList = none) := by rw [Hd1.out]; exact hg
        clear hg
        go_wp2_with (go_at_call 17; refine (getString_none _ _ (by rw [Hd2.out]; omega) HG.out).mono ?_; rintro e w2 ⟨rfl, hb2⟩)
        go_ret3
        rw [hstop.out]
        exact ⟨rfl, hb.trans (hb2.mono hBs)⟩
      | some pr =>
        obtain ⟨l, m⟩ := pr
        have hstep := Lib.hid (hr.out.step hlt hg)
        have hpos := gs_pos hg
        have hml : m ≤ s.size - q := by have := hpos.2.1; simp at this; rw [← Hlen.out]; simpa using this
        have HG : Hid (gsL t.data.toList = some (l, m)) := by rw [Hd1.out]; exact hg
        clear hg hpos
        go_wp2_with fail
        refine (getString_some _ _ (by rw [Hd2.out]; omega) l m HG.out).mono ?_
        rintro e w2 ⟨rfl, hb2⟩
        have hown2 := own_below hown hb2
        have hb3 : Below w.heap.size w w2 := hb.trans (hb2.mono hBs)
        have hB3 := hb3.size
        clear hown hb2 hb hr
        go_wp2_with (at_builtin; refine append_new _ [_] 41 9 i0 (.string ⟨#[]⟩) 1 16 (.tmp 43) (.tmp 45) w.heap.size 1 1 rfl rfl rfl Try.underlying41 hi hz0 hz1 hz2 rfl (by decide) _ _ _ rfl hown2 rfl ?c2 ?c3 ?c4 hB3 ?_)
        case c2 => intro u hu; simp at hu; subst hu; rfl
        case c3 => rw [hll.out]; unfold maxLen; omega
        case c4 => rw [hll.out]; omega
        intro v' w3 hown3 hg3 _
        have hb4 : Below w.heap.size w w3 := hb3.grown hg3 hB3 (fun k hk => (hown2.lt k hk).1)
        have hown4 : w3.ownsRow w.heap.size 9 1 v' (ls ++ [l]).length (strCellsOf (ls ++ [l])) := by
          rw [List.length_append]
          have e : strCellsOf (ls ++ [l]) = strCellsOf ls ++ [Value.string ⟨l.toArray⟩] := by simp [strCellsOf]
          rw [e]; exact hown3
        clear hown2 hown3 hg3 hb3
        go_wp2
        go_roundw
        case rel => exact ⟨i' + 1, q + m, ls ++ [l], by go_num, by go_num, hstep, hown4, hb4⟩
        case measure => simp [intOf]; omega
    · obtain rfl : i' = n := by omega
      obtain ⟨av, cv, rfl⟩ := own_shape hown
      have hdone := Lib.hid hr.out.done
      go_wp2_with fail
      go_ret3
      rw [hdone.out]
      exact ⟨_, rfl, hown, hb⟩
theorem getList_any (s : ByteArray) (w : World) (hs : s.size ≤ 1099511627776) :
    Calls Try.prog 30 #[.string s] w fun e w' => GlPost 9 w (glL s.data.toList) e w' := by
  cases hg : getL s.data.toList with
  | none => rw [glL_none hg]; exact getList_none1 s w (by omega) hg
  | some p =>
    obtain ⟨n, k⟩ := p
    obtain ⟨h1, h2, h3⟩ := getL_lt hg
    rw [list_of_string] at h2
    rw [glL_some hg]
    by_cases h4 : (s.size : Int) - k < n
    · rw [glN_none (by rw [list_of_string]; exact h2) (by rw [list_of_string]; omega)]
      exact getList_none2 s w (by omega) n k hg h2 h3 h4
    · exact getList_loop s w hs n k hg h2 h3 (by omega)

set_option maxHeartbeats 400000 in
theorem rgetList_none1 (s : ByteArray) (w : World) (hs : s.size ≤ 9223372036854775807) (h : getL s.data.toList = none) :
    Calls Try.prog 31 #[.string s] w fun e w' => e = .returned (.tuple #[.slice none 0 0, .int .i64 0, .int .i64 2]) ∧ Below w.heap.size w w' := by
  have H := Lib.hid h
  clear h
  go_enter Try.func31, Try.ntmps31
  go_wp2_with (go_at_call 15; refine (rget_none _ _ hs H.out).mono ?_; rintro e w1 ⟨rfl, hb⟩)
  go_ret3
  exact ⟨rfl, hb⟩

set_option maxHeartbeats 1000000 in
theorem rgetList_loop (s : ByteArray) (w : World) (hs : s.size ≤ 1099511627776) (n k : Nat) (h : getL s.data.toList = some (n, k)) (hk : k ≤ s.size) (hn : n < 18446744073709551616) :
    Calls Try.prog 31 #[.string s] w fun e w' => GlPost 9 w (glN n s.data.toList k) e w' := by
  obtain ⟨i0, hi, hz0, hz1, hz2⟩ := info_parts infoStr
  have hlen := list_of_string s
  have hst := Lib.hid (Read.start (n := n) (s := s.data.toList) (k := k) (by omega))
  have H := Lib.hid h
  have Hlen := Lib.hid hlen
  clear h hlen
  go_enter Try.func31, Try.ntmps31
  go_wp2_with (go_at_call 15; refine (rget_some _ _ (by omega) n k H.out).mono ?_; rintro e w1 ⟨rfl, hb0⟩)
  go_loopw [6, 8, 9] (fun p v i wr => ∃ (i' q : Nat) (ls : List (List UInt8)), p = .int .i64 q ∧ i = .int .u64 i' ∧ Hid (Read n s.data.toList k i' q ls) ∧ wr.ownsRow w.heap.size 9 1 v ls.length (strCellsOf ls) ∧ Below w.heap.size w wr) (fun _ _ i _ => n - (intOf i).toNat)
  case atStart => exact ⟨0, k, [], rfl, rfl, hst.out, World.ownsRow_nil _ _ _ _, hb0⟩
  case round =>
    obtain ⟨i', q, ls, rfl, rfl, hr, hown, hb⟩ := hrel
    have hBs := hb.size
    have hrr := hr.out
    have hq1 : k + i' ≤ q := hrr.2.2.1
    have hq2 : q ≤ s.size := by have := hrr.2.2.2.1; rw [Hlen.out] at this; exact this
    have hin : i' ≤ n := hrr.1
    have hll : Hid (ls.length = i') := hrr.2.1
    clear hrr
    by_cases hlt : i' < n
    · have hsl := run_slice_from (P := Try.prog) 9 Try.underlying9 s q hq2
      obtain ⟨hd1, hd2⟩ := drop_string s q hq2
      generalize s.extract q s.size = t at *
      have Hd1 := Lib.hid hd1
      have Hd2 := Lib.hid hd2
      clear hd1 hd2
      cases hg : gsL (s.data.toList.drop q) with
      | none =>
        have hstop := Lib.hid (hr.out.stop hlt hg)
        have HG : Hid (gsL t.data.toList = none) := by rw [Hd1.out]; exact hg
        clear hg
        go_wp2_with (go_at_call 18; refine (rgetString_none _ _ (by rw [Hd2.out]; omega) HG.out).mono ?_; rintro e w2 ⟨rfl, hb2⟩)
        go_ret3
        rw [hstop.out]
        exact ⟨rfl, hb.trans (hb2.mono hBs)⟩
      | some pr =>
        obtain ⟨l, m⟩ := pr
        have hstep := Lib.hid (hr.out.step hlt hg)
        have hpos := gs_pos hg
        have hml : m ≤ s.size - q := by have := hpos.2.1; simp at this; rw [← Hlen.out]; simpa using this
        have HG : Hid (gsL t.data.toList = some (l, m)) := by rw [Hd1.out]; exact hg
        clear hg hpos
        go_wp2_with fail
        refine (rgetString_some _ _ (by rw [Hd2.out]; omega) l m HG.out).mono ?_
        rintro e w2 ⟨rfl, hb2⟩
        have hown2 := own_below hown hb2
        have hb3 : Below w.heap.size w w2 := hb.trans (hb2.mono hBs)
        have hB3 := hb3.size
        clear hown hb2 hb hr
        go_wp2_with (at_builtin; refine append_new _ [_] 41 9 i0 (.string ⟨#[]⟩) 1 16 (.tmp 38) (.tmp 40) w.heap.size 1 1 rfl rfl rfl Try.underlying41 hi hz0 hz1 hz2 rfl (by decide) _ _ _ rfl hown2 rfl ?c2 ?c3 ?c4 hB3 ?_)
        case c2 => intro u hu; simp at hu; subst hu; rfl
        case c3 => rw [hll.out]; unfold maxLen; omega
        case c4 => rw [hll.out]; omega
        intro v' w3 hown3 hg3 _
        have hb4 : Below w.heap.size w w3 := hb3.grown hg3 hB3 (fun k hk => (hown2.lt k hk).1)
        have hown4 : w3.ownsRow w.heap.size 9 1 v' (ls ++ [l]).length (strCellsOf (ls ++ [l])) := by
          rw [List.length_append]
          have e : strCellsOf (ls ++ [l]) = strCellsOf ls ++ [Value.string ⟨l.toArray⟩] := by simp [strCellsOf]
          rw [e]; exact hown3
        clear hown2 hown3 hg3 hb3
        go_wp2
        go_roundw
        case rel => exact ⟨i' + 1, q + m, ls ++ [l], by go_num, by go_num, hstep, hown4, hb4⟩
        case measure => simp [intOf]; omega
    · obtain rfl : i' = n := by omega
      obtain ⟨av, cv, rfl⟩ := own_shape hown
      have hdone := Lib.hid hr.out.done
      go_wp2_with fail
      go_ret3
      rw [hdone.out]
      exact ⟨_, rfl, hown, hb⟩
theorem rgetList_any (s : ByteArray) (w : World) (hs : s.size ≤ 1099511627776) :
    Calls Try.prog 31 #[.string s] w fun e w' => GlPost 9 w (glL s.data.toList) e w' := by
  cases hg : getL s.data.toList with
  | none => rw [glL_none hg]; exact rgetList_none1 s w (by omega) hg
  | some p =>
    obtain ⟨n, k⟩ := p
    obtain ⟨h1, h2, h3⟩ := getL_lt hg
    rw [list_of_string] at h2
    rw [glL_some hg]
    exact rgetList_loop s w hs n k hg h2 h3
end Go.Proofs.Ytjlkbjmclajlcaa
