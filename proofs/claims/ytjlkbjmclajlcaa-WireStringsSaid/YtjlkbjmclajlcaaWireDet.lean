/- The check sum notices one changed byte, and two exchanged neighbours; bytes in a block of the call's own. -/
import Derived.Test.YtjlkbjmclajlcaaWireLaw2
namespace Go.Proofs.Ytjlkbjmclajlcaa
open Go.RowKit Go.GxYtjlkbjmclajlcaa Go.BigFrame

theorem chk_a_diff : ∀ (l : List UInt8) (p q : Nat × Nat), p.1 < 65521 → q.1 < 65521 → p.1 ≠ q.1 → (l.foldl chkS p).1 ≠ (l.foldl chkS q).1
  | [], _, _, _, _, h => h
  | c :: l, p, q, hp, hq, h => by
    rw [List.foldl_cons, List.foldl_cons]
    have hc := c.toNat_lt
    exact chk_a_diff l _ _ (by simp only [chkS]; omega) (by simp only [chkS]; omega) (by simp only [chkS]; omega)
theorem chk_b_diff : ∀ (l : List UInt8) (p q : Nat × Nat), p.1 = q.1 → p.2 < 65521 → q.2 < 65521 → p.2 ≠ q.2 → (l.foldl chkS p).2 ≠ (l.foldl chkS q).2
  | [], _, _, _, _, _, h => h
  | c :: l, p, q, he, hp, hq, h => by
    rw [List.foldl_cons, List.foldl_cons]
    have hc := c.toNat_lt
    exact chk_b_diff l _ _ (by simp only [chkS, he]) (by simp only [chkS]; omega) (by simp only [chkS]; omega) (by simp only [chkS, he]; omega)
theorem chk_lt : ∀ (l : List UInt8) (p : Nat × Nat), p.1 < 65521 → p.2 < 65521 → (l.foldl chkS p).1 < 65521 ∧ (l.foldl chkS p).2 < 65521
  | [], _, h1, h2 => ⟨h1, h2⟩
  | c :: l, p, h1, h2 => by
    rw [List.foldl_cons]
    exact chk_lt l _ (by simp only [chkS]; omega) (by simp only [chkS]; omega)
theorem chkL_inj {l m : List UInt8} (h : chkL l = chkL m) : (chkP l).1 = (chkP m).1 ∧ (chkP l).2 = (chkP m).2 := by
  have h1 := chkP_lt l
  have h2 := chkP_lt m
  unfold chkL at h
  omega
theorem chk_change (l m : List UInt8) (x y : UInt8) (h : x ≠ y) : chkL (l ++ x :: m) ≠ chkL (l ++ y :: m) := by
  intro he
  have h1 := (chkL_inj he).1
  unfold chkP at h1
  rw [List.foldl_append, List.foldl_append, List.foldl_cons, List.foldl_cons] at h1
  have hl := chk_lt l (1, 0) (by decide) (by decide)
  have hx := x.toNat_lt
  have hy := y.toNat_lt
  have hxy : x.toNat ≠ y.toNat := fun e => h (UInt8.toNat_inj.1 e)
  exact chk_a_diff m _ _ (by simp only [chkS]; omega) (by simp only [chkS]; omega) (by simp only [chkS]; omega) h1
theorem chk_swap (l m : List UInt8) (x y : UInt8) (h : x ≠ y) : chkL (l ++ x :: y :: m) ≠ chkL (l ++ y :: x :: m) := by
  intro he
  have h1 := (chkL_inj he).2
  unfold chkP at h1
  rw [List.foldl_append, List.foldl_append, List.foldl_cons, List.foldl_cons, List.foldl_cons, List.foldl_cons] at h1
  have hl := chk_lt l (1, 0) (by decide) (by decide)
  have hx := x.toNat_lt
  have hy := y.toNat_lt
  have hxy : x.toNat ≠ y.toNat := fun e => h (UInt8.toNat_inj.1 e)
  generalize List.foldl chkS (1, 0) l = p at *
  exact chk_b_diff m _ _ (by simp only [chkS]; omega) (by simp only [chkS]; omega) (by simp only [chkS]; omega) (by simp only [chkS]; omega) h1
/-- The four bytes of the check sum say it. -/
theorem head_inj {c d : Nat} (hc : c < 4294967296) (hd : d < 4294967296) (h1 : UInt8.ofNat (c / 16777216) = UInt8.ofNat (d / 16777216)) (h2 : UInt8.ofNat (c / 65536) = UInt8.ofNat (d / 65536))
    (h3 : UInt8.ofNat (c / 256) = UInt8.ofNat (d / 256)) (h4 : UInt8.ofNat c = UInt8.ofNat d) : c = d := by
  have e1 := congrArg UInt8.toNat h1
  have e2 := congrArg UInt8.toNat h2
  have e3 := congrArg UInt8.toNat h3
  have e4 := congrArg UInt8.toNat h4
  simp at e1 e2 e3 e4
  omega
theorem seal_head {l m : List UInt8} {a b c d : UInt8} (h : sealL l = a :: b :: c :: d :: m) : l = m ∧ ∀ k, sealL k = a :: b :: c :: d :: k → chkL k = chkL l := by
  unfold sealL at h
  simp only [List.cons.injEq] at h
  obtain ⟨h1, h2, h3, h4, rfl⟩ := h
  refine ⟨rfl, fun k hk => ?_⟩
  unfold sealL at hk
  simp only [List.cons.injEq] at hk
  obtain ⟨k1, k2, k3, k4, _⟩ := hk
  exact head_inj (chkL_lt k) (chkL_lt l) (k1.trans h1.symm) (k2.trans h2.symm) (k3.trans h3.symm) (k4.trans h4.symm)
/-- A sealed string in which the byte at i is b. -/
theorem seal_set (l : List UInt8) (i : Nat) (b : UInt8) (hi : i < (sealL l).length) : (sealL (((sealL l).set i b).drop 4) == (sealL l).set i b) = decide ((sealL l)[i] = b) := by
  by_cases hb : (sealL l)[i] = b
  · have e : (sealL l).set i b = sealL l := by rw [← hb]; exact List.set_getElem_self hi
    rw [e]
    simp [hb]
    rfl
  · rw [decide_eq_false hb, beq_eq_false_iff_ne]
    intro he
    by_cases h4 : i < 4
    · have e : ((sealL l).set i b).drop 4 = l := by
        rw [List.drop_set_of_lt h4]; rfl
      rw [e] at he
      apply hb
      have : ((sealL l).set i b)[i]'(by simpa using hi) = b := by simp
      rw [← this]
      congr 1
    · obtain ⟨k, rfl⟩ : ∃ k, i = k + 4 := ⟨i - 4, by omega⟩
      have hk : k < l.length := by rw [sealL_len] at hi; omega
      have e : (sealL l).set (k + 4) b = UInt8.ofNat (chkL l / 16777216) :: UInt8.ofNat (chkL l / 65536) :: UInt8.ofNat (chkL l / 256) :: UInt8.ofNat (chkL l) :: l.set k b := rfl
      have hg : (sealL l)[k + 4]'hi = l[k] := rfl
      rw [hg] at hb
      rw [e] at he
      have h2 := (seal_head (l := l) (m := l) rfl).2 (l.set k b) he
      have e1 : l = l.take k ++ l[k] :: l.drop (k + 1) := by rw [← List.drop_eq_getElem_cons hk, List.take_append_drop]
      have e2 : l.set k b = l.take k ++ b :: l.drop (k + 1) := by rw [List.set_eq_take_append_cons_drop, if_pos hk]
      rw [e2] at h2
      have h3 : chkL l = chkL (l.take k ++ l[k] :: l.drop (k + 1)) := congrArg chkL e1
      rw [h3] at h2
      exact chk_change _ _ _ _ (fun h => hb h.symm) h2
/-- A sealed string in which two different neighbours were exchanged. -/
theorem seal_swap (l : List UInt8) (i : Nat) (hi : i + 1 < (sealL l).length) (h4 : 4 ≤ i) (hne : (sealL l)[i] ≠ (sealL l)[i + 1]) (r : List UInt8) (hr : r = ((sealL l).set i (sealL l)[i + 1]).set (i + 1) (sealL l)[i]) :
    (sealL (r.drop 4) == r) = false := by
  rw [beq_eq_false_iff_ne]
  intro he
  obtain ⟨k, rfl⟩ : ∃ k, i = k + 4 := ⟨i - 4, by omega⟩
  have hk : k + 1 < l.length := by rw [sealL_len] at hi; omega
  have hg : (sealL l)[k + 4]'(by omega) = l[k] := rfl
  have hg1 : (sealL l)[k + 4 + 1]'hi = l[k + 1] := rfl
  rw [hg, hg1] at hne hr
  have e : r = UInt8.ofNat (chkL l / 16777216) :: UInt8.ofNat (chkL l / 65536) :: UInt8.ofNat (chkL l / 256) :: UInt8.ofNat (chkL l) :: (l.set k l[k + 1]).set (k + 1) l[k] := hr
  rw [e] at he
  have h2 := (seal_head (l := l) (m := l) rfl).2 ((l.set k l[k + 1]).set (k + 1) l[k]) he
  have e1 : l = l.take k ++ l[k] :: l[k + 1] :: l.drop (k + 1 + 1) := by
    rw [← List.drop_eq_getElem_cons hk, ← List.drop_eq_getElem_cons (by omega), List.take_append_drop]
  have e2 : (l.set k l[k + 1]).set (k + 1) l[k] = l.take k ++ l[k + 1] :: l[k] :: l.drop (k + 1 + 1) := by
    rw [List.set_eq_take_append_cons_drop, if_pos (by simp; omega), List.take_set, List.set_eq_take_append_cons_drop, if_pos (by simp; omega), List.drop_set_of_lt (by omega), List.take_take, Nat.min_eq_left (by omega)]
    simp
  rw [e2] at h2
  have h3 : chkL l = chkL (l.take k ++ l[k] :: l[k + 1] :: l.drop (k + 1 + 1)) := congrArg chkL e1
  rw [h3] at h2
  exact chk_swap _ _ _ _ (fun h => hne h.symm) h2

/-- The bytes of a block. -/
structure BytesAt (w : World) (g : Nat) (L : List UInt8) : Prop where
  cell : ∀ (j : Nat) (c : UInt8), L[j]? = some c → w.cell? ⟨g, j, none⟩ = some (Value.int .u8 (c.toNat : Int))
  free : ∀ j : Nat, j < L.length → w.frozen? ⟨g, j, none⟩ = false
theorem BytesAt.set {w : World} {g : Nat} {L : List UInt8} (h : BytesAt w g L) (i : Nat) (b : UInt8) (hi : i < L.length) : BytesAt (w.setCell ⟨g, i, none⟩ (.int .u8 (b.toNat : Int))) g (L.set i b) := by
  constructor
  · intro j c hj
    rw [List.getElem?_set] at hj
    split at hj
    · rename_i hij
      subst hij
      cases hj
      exact World.cell?_setCell_same _ _ _ (h.cell i _ (List.getElem?_eq_getElem hi))
    · rename_i hij
      have hne : (⟨g, i, none⟩ : Addr) ≠ ⟨g, j, none⟩ := by intro e; cases e; exact hij rfl
      rw [World.cell?_setCell_other (h := hne)]
      exact h.cell j c hj
  · intro j hj
    rw [World.frozen?_setCell]
    exact h.free j (by simpa using hj)
theorem BytesAt.string {P : Program} {w : World} {g : Nat} {L : List UInt8} (h : BytesAt w g L) (src dst e : TypeId) (hs : P.underlying src = some (.slice e)) (he : P.underlying e = some (.int .u8)) (hd : P.underlying dst = some .string) (n cap : Nat) (hn : n = L.length) :
    (convert src dst (.slice (some ⟨g, 0, none⟩) n cap)).run P w = .ok (.string ⟨L.toArray⟩) w := by
  subst hn
  refine run_convert_bytes_back w src dst e ⟨g, 0, none⟩ cap L hs he hd fun j hj => ?_
  have e1 : (⟨g, 0, none⟩ : Addr).add j = ⟨g, j, none⟩ := by unfold Addr.add; split <;> simp_all
  rw [e1]
  exact h.cell j _ (List.getElem?_eq_getElem hj)
theorem BytesAt.below {w w' : World} {g : Nat} {L : List UInt8} (h : BytesAt w g L) {B : Nat} (hb : Below B w w') (hg : g < B) : BytesAt w' g L :=
  ⟨fun j c hj => (hb.cell hg).trans (h.cell j c hj), fun j hj => (hb.frozen hg).trans (h.free j hj)⟩
theorem BytesAt.size {w : World} {g : Nat} {L : List UInt8} (h : BytesAt w g L) (h0 : 0 < L.length) : g < w.heap.size := by
  have := h.cell 0 _ (List.getElem?_eq_getElem h0)
  unfold World.cell? at this
  rcases Nat.lt_or_ge g w.heap.size with h1 | h1
  · exact h1
  · rw [Array.getElem?_eq_none h1] at this; cases this

set_option maxHeartbeats 400000 in
theorem det_long (s : ByteArray) (a b : Int) (h : 5000 < s.size) (_hs : s.size ≤ 9223372036854775807) (w : World) :
    Calls Try.prog 7 #[.string s, .int .u16 a, .int .u8 b] w fun e w' => e = .returned (.bool true) ∧ Below w.heap.size w w' := by
  go_enter Try.func7, Try.ntmps7
  go_wp2_with fail
  refine (awake_any _).mono ?_; rintro e w1 ⟨rfl, hb1⟩
  go_wp2_with fail
  refine (awake_any _).mono ?_; rintro e w2 ⟨rfl, hb2⟩
  go_wp2_with fail
  go_ret
  exact ⟨rfl, below2 hb1 hb2⟩

/-- What Open returns at bytes. -/
theorem open_bytes (q : ByteArray) (L : List UInt8) (hq : q = ⟨L.toArray⟩) (h4 : 4 ≤ L.length) (hs : L.length ≤ 140737488355328) : ∃ (y : ByteArray), ∀ w, Calls Try.prog 20 #[.string q] w fun e w' =>
    e = .returned (.tuple #[.string y, .int .i64 (if sealL (L.drop 4) == L then 0 else 19)]) ∧ Below w.heap.size w w' := by
  have hl := list_of_string q
  have hql : q.data.toList = L := by rw [hq]
  rw [hql] at hl
  cases hb : (sealL (L.drop 4) == L) with
  | true => exact ⟨_, fun w => by have := open_any q w (by omega) (by omega) true (by rw [hql]; exact hb); rw [hql] at this; exact this⟩
  | false => exact ⟨_, fun w => by have := open_any q w (by omega) (by omega) false (by rw [hql]; exact hb); rw [hql] at this; exact this⟩

set_option maxHeartbeats 1000000 in
set_option maxRecDepth 100000 in
theorem det_main (s : ByteArray) (a : Int) (b : UInt8) (h : s.size ≤ 5000) (ha0 : 0 ≤ a) (ha : a < 65536) (w : World) :
    Calls Try.prog 7 #[.string s, .int .u16 a, .int .u8 b.toNat] w fun e w' => e = .returned (.bool true) ∧ Below w.heap.size w w' := by
  obtain ⟨L, hL⟩ : ∃ L, L = sealL s.data.toList := ⟨_, rfl⟩
  have hlen : L.length = s.size + 4 := by rw [hL, sealL_len, list_of_string]
  have hsl : ∀ w, Calls Try.prog 25 #[.string s] w fun e w' => e = .returned (.string ⟨L.toArray⟩) ∧ Below w.heap.size w w' := fun w => by rw [hL]; exact rseal_any s w (by omega)
  have hset : ∀ (i : Nat) (b : UInt8) (hi : i < L.length), (sealL ((L.set i b).drop 4) == L.set i b) = decide (L[i] = b) := by subst hL; exact fun i b hi => seal_set s.data.toList i b hi
  have hswap : ∀ (i : Nat) (hi : i + 1 < L.length), 4 ≤ i → L[i] ≠ L[i + 1] → ∀ r, r = (L.set i L[i + 1]).set (i + 1) L[i] → (sealL (r.drop 4) == r) = false := by subst hL; exact fun i hi h4 hne => seal_swap s.data.toList i hi h4 hne
  have hql := list_of_string ⟨L.toArray⟩
  generalize hq : (⟨L.toArray⟩ : ByteArray) = q at *
  have hqd : q.data.toList = L := by rw [← hq]
  generalize hn : s.size + 4 = n at *
  have hqn : q.size = n := by rw [← hql, hqd, hlen]
  obtain ⟨i, hi⟩ : ∃ i : Nat, a % (n : Int) = i := ⟨(a % (n : Int)).toNat, by rw [Int.toNat_of_nonneg (Int.emod_nonneg _ (by omega))]⟩
  have hin : i < n := by have := Int.emod_lt_of_pos a (b := n) (by omega); omega
  obtain ⟨old, hold⟩ : ∃ old, L[i]? = some old := ⟨_, List.getElem?_eq_getElem (by omega)⟩
  have Hlen := Lib.hid hlen
  have HS := Lib.hid hsl
  have Hset := Lib.hid hset
  have Hswap := Lib.hid hswap
  have Hold := Lib.hid hold
  have Hq := Lib.hid hq
  have Hqd := Lib.hid hqd
  have Hqn := Lib.hid hqn
  have hn2 : n ≤ 5004 := by omega
  have hn3 : 4 ≤ n := by omega
  clear hlen hsl hset hswap hold hq hqd hqn hL hql hn
  go_enter Try.func7, Try.ntmps7
  go_wp2_with fail
  refine (awake_any _).mono ?_; rintro e w1 ⟨rfl, hb1⟩
  go_wp2_with fail
  refine (HS.out _).mono ?_; rintro e w2 ⟨rfl, hb2⟩
  obtain ⟨cap, w3, hcv, hb3, hsz3, hc3, hf3⟩ := bytes_of_string (P := Try.prog) w2 9 39 5 q Try.underlying9 Try.underlying39 Try.underlying5
  rw [Hqn.out] at hcv hf3
  rw [Hqd.out] at hc3
  have HB3 : BytesAt w3 w2.heap.size L := ⟨hc3, fun j hj => hf3 j (by rw [← Hlen.out]; exact hj)⟩
  clear hc3 hf3
  have hg1 := HB3.cell i old Hold.out
  have hg2 := HB3.free i (by rw [Hlen.out]; exact hin)
  have HB4 := HB3.set i b (by rw [Hlen.out]; exact hin)
  have hcv4 := HB4.string (P := Try.prog) 39 9 5 Try.underlying39 Try.underlying5 Try.underlying9 n cap (by rw [List.length_set, Hlen.out])
  generalize hg : w2.heap.size = g at *
  have hob := Hset.out i b (by rw [Hlen.out]; exact hin)
  have hLi : L[i]'(by rw [Hlen.out]; exact hin) = old := by
    have := Hold.out
    rw [List.getElem?_eq_getElem (by rw [Hlen.out]; exact hin)] at this
    exact Option.some.inj this
  rw [hLi] at hob
  obtain ⟨y4, ho4⟩ := open_bytes _ (L.set i b) rfl (by rw [List.length_set, Hlen.out]; exact hn3) (by rw [List.length_set, Hlen.out]; omega)
  rw [hob] at ho4
  clear hob
  obtain ⟨r4, hr4⟩ : ∃ r : Int, r = if decide (old = b) = true then 0 else 19 := ⟨_, rfl⟩
  rw [← hr4] at ho4
  have hr : (!(r4 == 19) == ((b.toNat : Int) != (old.toNat : Int))) = false := by
    rw [hr4]
    by_cases hob : old = b
    · subst hob; simp
    · have : ¬ (b.toNat : Int) = old.toNat := fun e => hob (UInt8.toNat_inj.1 (by omega)).symm
      simp [hob, this]
  clear hr4
  generalize (⟨(L.set i b).toArray⟩ : ByteArray) = q4 at *
  have HO4 := Lib.hid ho4
  clear ho4
  have Hg := Lib.hid hg
  have HLi := Lib.hid hLi
  clear hg hLi
  go_wp2_with fail
  refine (HO4.out _).mono ?_; rintro e w5 ⟨rfl, hb5⟩
  have hg5 : g < w3.heap.size := HB3.size (by rw [Hlen.out]; omega)
  have HB5 := HB4.below hb5 (by simpa using hg5)
  have hc5 := HB5.cell i b (by rw [List.getElem?_set_self (by rw [Hlen.out]; exact hin)])
  have hf5 := HB5.free i (by rw [List.length_set, Hlen.out]; exact hin)
  have HB6 := HB5.set i old (by rw [List.length_set, Hlen.out]; exact hin)
  have e6 : (L.set i b).set i old = L := by
    rw [List.set_set]
    have := HLi.out
    rw [← this]; exact List.set_getElem_self _
  rw [e6] at HB6
  clear e6
  have hgw : w.heap.size ≤ g := by rw [← Hg.out]; have := hb1.size; have := hb2.size; omega
  have hb6 : Below w.heap.size w (w5.setCell ⟨g, i, none⟩ (.int .u8 (old.toNat : Int))) := by
    have h1 : Below w.heap.size w w3 := (below2 hb1 hb2).trans (hb3.mono hgw)
    have h2 : Below w.heap.size w (w3.setCell ⟨g, i, none⟩ (.int .u8 (b.toNat : Int))) := h1.setCell (p := ⟨g, i, none⟩) hgw _
    exact (h2.trans (hb5.mono h2.size)).setCell (p := ⟨g, i, none⟩) hgw _
  go_wp2_with fail
  clear hb1 hb2 hb3 hcv hsz3 HB3 hg1 hg2 HB4 hcv4 HO4 hb5 hg5 HB5 hc5 hf5 hr
  generalize w5.setCell ⟨g, i, none⟩ (.int .u8 (old.toNat : Int)) = w6 at *
  have hg6 : g < w6.heap.size := HB6.size (by rw [Hlen.out]; omega)
  have hc6 := HB6.cell i old Hold.out
  have hf6 := HB6.free i (by rw [Hlen.out]; exact hin)
  by_cases h4 : (i : Int) < 4
  · go_quiet (fail)
    go_wp2_with fail
    go_ret
    exact ⟨rfl, below_drewN hb6 _⟩
  · by_cases hl : i + 1 = n
    · have hl2 : ((i : Int) + 1 == (n : Int)) = true := by rw [beq_iff_eq]; omega
      go_quiet (fail)
      go_wp2_with fail
      go_ret
      exact ⟨rfl, below_drewN hb6 _⟩
    · have hl2 : ((i : Int) + 1 == (n : Int)) = false := by rw [beq_eq_false_iff_ne]; omega
      obtain ⟨nx, hnx⟩ : ∃ nx, L[i + 1]? = some nx := ⟨_, List.getElem?_eq_getElem (by rw [Hlen.out]; omega)⟩
      have hin1 : i + 1 < n := by omega
      have hc7 := HB6.cell (i + 1) nx hnx
      have hf7 := HB6.free (i + 1) (by rw [Hlen.out]; omega)
      have Hnx := Lib.hid hnx
      clear hnx hl
      by_cases hsame : nx = old
      · have hs2 : ((old.toNat : Int) == (nx.toNat : Int)) = true := by rw [hsame]; simp
        go_quiet (fail)
        go_wp2_with fail
        go_ret
        exact ⟨rfl, below_drewN hb6 _⟩
      · have hs2 : ((old.toNat : Int) == (nx.toNat : Int)) = false := by
          rw [beq_eq_false_iff_ne]; intro e; exact hsame (UInt8.toNat_inj.1 (by omega)).symm
        go_quiet (fail)
        go_wp2_with fail
        have HB7 : BytesAt (w6.drewN nq) g L := ⟨HB6.cell, HB6.free⟩
        have hb7 := below_drewN hb6 nq
        clear hc6 hf6 hc7 hf7 HB6 hb6 hg6
        generalize w6.drewN nq = w7 at *
        have hc6 := HB7.cell i old Hold.out
        have hf6 := HB7.free i (by rw [Hlen.out]; exact hin)
        have hc7 := HB7.cell (i + 1) nx Hnx.out
        have hf7 := HB7.free (i + 1) (by rw [Hlen.out]; omega)
        have HB8 := (HB7.set i nx (by rw [Hlen.out]; exact hin)).set (i + 1) old (by rw [List.length_set, Hlen.out]; exact hin1)
        have hb8 := ((hb7.setCell (p := ⟨g, i, none⟩) hgw (.int .u8 (nx.toNat : Int))).setCell (p := ⟨g, i + 1, none⟩) hgw (.int .u8 (old.toNat : Int))).drew
        have HB9 : BytesAt ((w7.setCell ⟨g, i, none⟩ (.int .u8 (nx.toNat : Int))).setCell ⟨g, i + 1, none⟩ (.int .u8 (old.toNat : Int))).drew g ((L.set i nx).set (i + 1) old) := ⟨HB8.cell, HB8.free⟩
        clear HB8
        go_region
        clear hc6 hf6 hc7 hf7 HB7 hb7
        generalize ((w7.setCell ⟨g, i, none⟩ (.int .u8 (nx.toNat : Int))).setCell ⟨g, i + 1, none⟩ (.int .u8 (old.toNat : Int))).drew = w8 at *
        have hcv8 := HB9.string (P := Try.prog) 39 9 5 Try.underlying39 Try.underlying5 Try.underlying9 n cap (by rw [List.length_set, List.length_set, Hlen.out])
        obtain ⟨y9, ho9⟩ := open_bytes _ ((L.set i nx).set (i + 1) old) rfl (by rw [List.length_set, List.length_set, Hlen.out]; exact hn3) (by rw [List.length_set, List.length_set, Hlen.out]; omega)
        have hsw : (sealL (((L.set i nx).set (i + 1) old).drop 4) == (L.set i nx).set (i + 1) old) = false := by
          have e1 := HLi.out
          have e2 : L[i + 1]'(by rw [Hlen.out]; exact hin1) = nx := by
            have := Hnx.out
            rw [List.getElem?_eq_getElem (by rw [Hlen.out]; exact hin1)] at this
            exact Option.some.inj this
          exact Hswap.out i (by rw [Hlen.out]; exact hin1) (by omega) (by rw [e1, e2]; exact fun e => hsame e.symm) _ (by rw [e1, e2])
        rw [hsw] at ho9
        clear hsw
        generalize (⟨((L.set i nx).set (i + 1) old).toArray⟩ : ByteArray) = q9 at *
        have HO9 := Lib.hid ho9
        clear ho9
        go_wp2_with fail
        refine (HO9.out _).mono ?_; rintro e w9 ⟨rfl, hb9⟩
        go_wp2_with fail
        go_ret
        exact ⟨rfl, below2 hb8 hb9⟩
end Go.Proofs.Ytjlkbjmclajlcaa
