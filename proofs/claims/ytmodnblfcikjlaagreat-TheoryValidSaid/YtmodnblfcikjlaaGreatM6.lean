/- Part 6 of what the proofs stand on: plain functions of the program, and that they are its functions. -/
import Derived.Test.YtmodnblfcikjlaaGreatM5
import Derived.Test.YtmodnblfcikjlaaGreatM3
import Derived.Test.YtmodnblfcikjlaaGreatM4
import Derived.KernelRfl
import Derived.SliceStrings
import Derived.SizedLaws
import Derived.Test.YtmodnblfcikjlaaGreatM1
import Derived.ProofKit
import Derived.Test.YtmodnblfcikjlaaGreatRows
set_option linter.unusedVariables false
set_option linter.unusedSimpArgs false
namespace Go.AmYtmodnblfcikjlaaGreat
open Go Go.GxYtmodnblfcikjlaaGreat
theorem ofP_sz (t : T) : szP (ofP t).1 ≤ 400 := by
  unfold ofP
  split
  · exact Nat.zero_le _
  · rename_i h
    split
    · exact Nat.zero_le _
    · split
      · exact Nat.zero_le _
      · have h1 := colP_sz t [] 1
        have h2 := validE_sz (Decidable.of_not_not h)
        have h3 : szP ([] : List Pw) = 0 := rfl
        show szP (colP t [] 1) ≤ _
        omega
theorem mulP_sz (a b : List Pw) : szP (mulP a b).1 ≤ 160000 := by
  unfold mulP
  split
  · exact Nat.zero_le _
  · rename_i h1
    split
    · exact Nat.zero_le _
    · rename_i h2
      split
      · exact Nat.zero_le _
      · split
        · exact Nat.zero_le _
        · obtain ⟨_, _, h, _⟩ := mul_bounds (Decidable.of_not_not h1) (Decidable.of_not_not h2) b.length
          rw [List.take_length] at h
          exact h
theorem raise_ev (b e : T) (hb : chkE b = 0) (hsb : size b ≤ 1000000000) (hse : size e ≤ 1000000000) : Ev (fun m _ => theory_raise m b e) (raiT b e) := by
  refine Ev.succ ?_
  simp only [theory_raise_e, theory_raise_s0, re_eq]
  have fin : ∀ (l : List Pw) (x : T), szP l ≤ 1000000000 → Ev (fun m _ => cond (ieq (l.length : Int) 0) (some (x, (0 : Int))) (obind (exponent_Term m l) fun v => cond (bnot (ieq v.2 0)) (some (T.mk 0 [] 0 [], v.2)) (obind (theory_app m [101, 120, 112] [x, v.1]) fun w => some (w, 0)))) (expT x l) := by
    intro l x hl
    unfold expT
    refine Ev.ite (fun h => ?_) fun h => ?_
    · rw [ieq_t] at h
      rw [if_pos (by omega)]; exact Ev.pure _
    · rw [ieq_f] at h
      rw [if_neg (by omega)]
      refine Ev.bind (eterm_ev l hl) (Ev.ite (fun h => ?_) fun h => ?_)
      · rw [bnt, ieq_f] at h
        rw [if_pos h]; exact Ev.pure _
      · rw [bnf, ieq_t] at h
        rw [if_neg (by omega)]
        exact Ev.bind (app_ev _ _) (Ev.pure _)
  unfold raiT
  refine Ev.bind (eof_ev e hse) (Ev.ite (fun h => ?_) fun h => ?_)
  · rw [bnt, ieq_f] at h
    rw [if_pos h]; exact Ev.pure _
  rw [bnf, ieq_t] at h
  rw [if_neg (by omega)]
  refine Ev.bind (is_ev _ _) (Ev.ite (fun hx => ?_) fun hx => ?_)
  · rw [if_pos (show isN b nExp = true from hx)]
    have h1 := kid_sz b 1
    refine Ev.some (kid_of (i := 1) hb hx (a := 2) (b := 2) (c := 1) (by decide) (by decide)) (Ev.bind (eof_ev _ (by omega)) (Ev.ite (fun h2 => ?_) fun h2 => ?_))
    · rw [bnt, ieq_f] at h2
      rw [if_pos h2]; exact Ev.pure _
    rw [bnf, ieq_t] at h2
    rw [if_neg (by omega)]
    have h3 := ofP_sz (kid b 1)
    have h4 := ofP_sz e
    have h5 := mulP_sz (ofP (kid b 1)).1 (ofP e).1
    refine Ev.bind (emul_ev _ _ (by omega) (by omega)) (Ev.ite (fun h2 => ?_) fun h2 => ?_)
    · rw [bnt, ieq_f] at h2
      rw [if_pos h2]; exact Ev.pure _
    rw [bnf, ieq_t] at h2
    rw [if_neg (by omega)]
    exact Ev.some (kid_of (i := 0) hb hx (a := 2) (b := 2) (c := 1) (by decide) (by decide)) (fin _ _ (by omega))
  · rw [if_neg (by rw [show isN b nExp = false from hx]; decide)]
    have h4 := ofP_sz e
    exact fin _ _ (by omega)
theorem power_ev (b e : T) (hb : chkE b = 0) (hsb : size b ≤ 1000000000) (hse : size e ≤ 1000000000) : Ev (fun m _ => ref09_power m b e) (raiT b e) := by
  refine Ev.succ ?_
  simp only [ref09_power_e, ref09_power_s0, re_eq]
  have fin : ∀ (l : List Pw) (x : T), szP l ≤ 1000000000 → Ev (fun m _ => cond (ieq (l.length : Int) 0) (some (x, (0 : Int))) (obind (ref06_Term m l) fun v => cond (bnot (ieq v.2 0)) (some (T.mk 0 [] 0 [], v.2)) (obind (ref01_App m [101, 120, 112] [x, v.1]) fun w => some (w, 0)))) (expT x l) := by
    intro l x hl
    unfold expT
    refine Ev.ite (fun h => ?_) fun h => ?_
    · rw [ieq_t] at h
      rw [if_pos (by omega)]; exact Ev.pure _
    · rw [ieq_f] at h
      rw [if_neg (by omega)]
      refine Ev.bind (rterm_ev l hl) (Ev.ite (fun h => ?_) fun h => ?_)
      · rw [bnt, ieq_f] at h
        rw [if_pos h]; exact Ev.pure _
      · rw [bnf, ieq_t] at h
        rw [if_neg (by omega)]
        exact Ev.bind (rapp_ev _ _ (by simp)) (Ev.pure _)
  unfold raiT
  refine Ev.bind (rof_ev e hse) (Ev.ite (fun h => ?_) fun h => ?_)
  · rw [bnt, ieq_f] at h
    rw [if_pos h]; exact Ev.pure _
  rw [bnf, ieq_t] at h
  rw [if_neg (by omega)]
  refine Ev.bind (ris_ev _ _) (Ev.ite (fun hx => ?_) fun hx => ?_)
  · rw [if_pos (show isN b nExp = true from hx)]
    have h1 := kid_sz b 1
    refine Ev.some (kid_of (i := 1) hb hx (a := 2) (b := 2) (c := 1) (by decide) (by decide)) (Ev.bind (rof_ev _ (by omega)) (Ev.ite (fun h2 => ?_) fun h2 => ?_))
    · rw [bnt, ieq_f] at h2
      rw [if_pos h2]; exact Ev.pure _
    rw [bnf, ieq_t] at h2
    rw [if_neg (by omega)]
    have h3 := ofP_sz (kid b 1)
    have h4 := ofP_sz e
    have h5 := mulP_sz (ofP (kid b 1)).1 (ofP e).1
    refine Ev.bind (rmul_ev _ _ (by omega) (by omega)) (Ev.ite (fun h2 => ?_) fun h2 => ?_)
    · rw [bnt, ieq_f] at h2
      rw [if_pos h2]; exact Ev.pure _
    rw [bnf, ieq_t] at h2
    rw [if_neg (by omega)]
    exact Ev.some (kid_of (i := 0) hb hx (a := 2) (b := 2) (c := 1) (by decide) (by decide)) (fin _ _ (by omega))
  · rw [if_neg (by rw [show isN b nExp = false from hx]; decide)]
    have h4 := ofP_sz e
    exact fin _ _ (by omega)
/- The last step, by names. -/
theorem finN_des {t : T} (h : isD t.name = true) : finN t = (desT t, 0) := by unfold finN; rw [if_pos h]
theorem finN_xor {t : T} (h : t.name = nXor) : finN t = sumX t.kids := by unfold finN; rw [if_neg (by rw [h]; decide), if_pos h]
theorem finN_mul {t : T} (h : t.name = nMul ∨ t.name = nInv ∨ t.name = nOne) : finN t = prodT t := by
  unfold finN
  rw [if_neg (by rcases h with h | h | h <;> rw [h] <;> decide), if_neg (by rcases h with h | h | h <;> rw [h] <;> decide), if_pos h]
theorem finN_exp {t : T} (h : t.name = nExp) : finN t = raiT (kid t 0) (kid t 1) := by
  unfold finN
  rw [if_neg (by rw [h]; decide), if_neg (by rw [h]; decide), if_neg (by rw [h]; decide), if_pos h]
theorem finN_else {t : T} (h1 : isD t.name = false) (h2 : t.name ≠ nXor) (h3 : ¬ (t.name = nMul ∨ t.name = nInv ∨ t.name = nOne)) (h4 : t.name ≠ nExp) : finN t = (t, 0) := by
  unfold finN
  rw [if_neg (by rw [h1]; decide), if_neg h2, if_neg h3, if_neg h4]
theorem kind_D (n : List UInt8) : (symOf n).2.2 = 3 ↔ isD n = true := by
  constructor
  · intro h
    rcases symOf_rows n with h1 | ⟨r, hr, hn, h1⟩
    · rw [symOf_none h1] at h; cases h
    · rw [symOf_some h1] at h
      have : symL.all (fun r => !decide (r.2.2.2 = 3) || isD r.1) = true := by decide
      have := List.all_eq_true.1 this r hr
      rw [decide_eq_true h] at this
      rw [← hn]; exact this
  · intro h
    unfold isD at h
    simp only [Bool.or_eq_true, beq_iff_eq] at h
    rcases h with ((((hn | hn) | hn) | hn) | hn) | hn <;> rw [hn] <;> decide
/-- The kids' normal forms. -/
noncomputable def nks (l : List T) : List T := (l.map norT).map (·.1)
theorem nks_len (l : List T) : (nks l).length = l.length := by unfold nks; simp
theorem nks_sz (l : List T) : szL (nks l) ≤ 402 * szL l := by
  induction l with
  | nil => exact Nat.le_refl _
  | cons k l ih =>
    have := norT_sz k
    show szL ((norT k).1 :: nks l) ≤ _
    rw [szL_cons, szL_cons]; omega
theorem nks_succ {l : List T} {i : Nat} {x : T} (h : l[i]? = some x) : nks (l.take (i + 1)) = nks (l.take i) ++ [(norT x).1] := by
  unfold nks
  rw [take_succ_of h, List.map_append, List.map_append]; rfl
noncomputable def erN (l : List T) : Int := ((l.map norT).map (·.2)).foldl thn 0
theorem erN_drop {l : List T} {i : Nat} {x : T} (h : l.drop i = x :: l.drop (i + 1)) : erN (l.drop i) = if (norT x).2 ≠ 0 then (norT x).2 else erN (l.drop (i + 1)) := by
  unfold erN
  rw [h, List.map_cons, List.map_cons]
  by_cases hx : (norT x).2 = 0
  · rw [if_neg (by omega), hx]; rfl
  · rw [if_pos hx]; exact foldl_thn_ne _ hx
theorem norT_er {t : T} (h3 : t.kind = 3) : norT t = if erN t.kids ≠ 0 then (zT, erN t.kids) else finN (apT t.name (nks t.kids)) := by rw [norT_eq, if_neg (fun h => h h3)]; rfl
theorem nks_chk {t : T} (h3 : t.kind = 3) (hc : chkE t = 0) (he : ∀ k ∈ t.kids, (norT k).2 = 0) : chkE (apT t.name (nks t.kids)) = 0 ∧ ∀ k ∈ nks t.kids, chkE k = 0 := by
  obtain ⟨g1, g2⟩ := chkE_zero h3 hc
  have hk : ∀ k ∈ nks t.kids, chkE k = 0 := fun k hk => by
    obtain ⟨q, hq, rfl⟩ := List.mem_map.1 hk
    obtain ⟨j, hj, rfl⟩ := List.mem_map.1 hq
    exact norT_chk j (g2 j hj) (he j hj)
  exact ⟨chk_of (chkK_nor h3 g1) hk, hk⟩
theorem normal_ev (t : T) : size t ≤ 2000 → chkE t = 0 → Ev (fun m _ => theory_normal m t) (norT t) := by
  induction t using T.ind with
  | h t ih =>
    intro hs hc
    have hl := kids_lt t
    have hz := size_eq t
    refine Ev.succ ?_
    simp only [theory_normal_e, theory_normal_s0, re_eq]
    by_cases h3 : t.kind = 3
    rotate_left
    · refine Ev.ct (bnt.2 (ieq_f.2 h3)) (Ev.ret (norT_leaf h3).symm)
    refine Ev.cf (bnf.2 (ieq_t.2 h3)) ?_
    rw [norT_er h3]
    have hck := (chkE_zero h3 hc).2
    have key := ev_list (P := fun i => (∀ k ∈ t.kids.take i, (norT k).2 = 0) → Ev (fun m k => theory_normal_L m (theory_normal m) k t.kids t.kids.length i t.kind t.name t.sort t.kids 0 [] 0 3 t.name 0 [] (nks (t.kids.take i))) (if erN (t.kids.drop i) ≠ 0 then (zT, erN (t.kids.drop i)) else finN (apT t.name (nks t.kids)))) t.kids (by omega)
      (fun hlen he => by
        refine Ev.loop ?_
        simp only [theory_normal_l1, theory_normal_s1, re_eq]
        refine Ev.cf hlen ?_
        rw [List.take_length] at he ⊢
        rw [List.drop_length, if_neg (show ¬ erN [] ≠ 0 from fun h => h rfl)]
        obtain ⟨c1, c2⟩ := nks_chk h3 hc he
        have s1 := nks_sz t.kids
        have s2 : szL t.kids + 1 = size t := by unfold szL; omega
        have hnl := nks_len t.kids
        generalize nks t.kids = ks at *
        have hu : T.mk 3 t.name 0 ks = apT t.name ks := rfl
        rw [hu]
        have su : size (apT t.name ks) = 1 + szL ks := size_eq _
        have des : isD t.name = true → Ev (fun m _ => obind (theory_destroy m (apT t.name ks)) fun v => some (v, (0 : Int))) (finN (apT t.name ks)) := fun hd => by
          rw [finN_des (show isD (apT t.name ks).name = true from hd)]
          exact Ev.bind (destroy_ev _ rfl c1 hd (by omega)) (Ev.pure _)
        have prod : t.name = nMul ∨ t.name = nInv ∨ t.name = nOne → Ev (fun m _ => obind (exponent_Of m (apT t.name ks)) fun v => cond (bnot (ieq v.2 0)) (some (T.mk 0 [] 0 [], v.2)) (obind (exponent_Term m v.1) fun w => some (w.1, w.2))) (finN (apT t.name ks)) := fun hm => by
          rw [finN_mul (show (apT t.name ks).name = nMul ∨ (apT t.name ks).name = nInv ∨ (apT t.name ks).name = nOne from hm)]
          unfold prodT
          have h4 := ofP_sz (apT t.name ks)
          refine Ev.bind (eof_ev _ (by omega)) (Ev.ite (fun h => ?_) fun h => ?_)
          · rw [bnt, ieq_f] at h
            rw [if_pos h]; exact Ev.pure _
          · rw [bnf, ieq_t] at h
            rw [if_neg (by omega)]
            exact Ev.bind (eterm_ev _ (by omega)) (Ev.pure _)
        refine Ev.ite (fun h => des (by rw [seq_t.1 h]; decide)) fun h1 => ?_
        refine Ev.ite (fun h => des (by rw [seq_t.1 h]; decide)) fun h2 => ?_
        refine Ev.ite (fun h => des (by rw [seq_t.1 h]; decide)) fun h3' => ?_
        refine Ev.ite (fun h => des (by rw [seq_t.1 h]; decide)) fun h4 => ?_
        refine Ev.ite (fun h => des (by rw [seq_t.1 h]; decide)) fun h5 => ?_
        refine Ev.ite (fun h => des (by rw [seq_t.1 h]; decide)) fun h6 => ?_
        refine Ev.ite (fun h => ?_) fun h7 => ?_
        · rw [finN_xor (show (apT t.name ks).name = nXor from seq_t.1 h)]
          exact Ev.bind (xsum_ev ks (by omega)) (Ev.pure _)
        refine Ev.ite (fun h => prod (.inl (seq_t.1 h))) fun h8 => ?_
        refine Ev.ite (fun h => prod (.inr (.inl (seq_t.1 h)))) fun h9 => ?_
        refine Ev.ite (fun h => prod (.inr (.inr (seq_t.1 h)))) fun h10 => ?_
        refine Ev.ite (fun h => ?_) fun h11 => ?_
        · have hn : t.name = nExp := seq_t.1 h
          rw [finN_exp (show (apT t.name ks).name = nExp from hn)]
          have isE : isN (apT t.name ks) nExp = true := isN_t.2 ⟨rfl, hn⟩
          have q0 := kid_sz (apT t.name ks) 0
          have q1 := kid_sz (apT t.name ks) 1
          refine Ev.some (kid_of (t := apT t.name ks) (i := 0) c1 isE (a := 2) (b := 2) (c := 1) (by decide) (by decide)) (Ev.some (kid_of (t := apT t.name ks) (i := 1) c1 isE (a := 2) (b := 2) (c := 1) (by decide) (by decide)) ?_)
          exact Ev.bind (raise_ev _ _ (kid_cl chk_cl chk_zT rfl c1 0) (by omega) (by omega)) (Ev.pure _)
        · rw [finN_else (t := apT t.name ks) (show isD t.name = false from by
              rw [← Bool.not_eq_true]
              intro hd
              unfold isD at hd
              simp only [Bool.or_eq_true, beq_iff_eq] at hd
              rcases hd with ((((hn | hn) | hn) | hn) | hn) | hn
              · exact seq_f.1 h1 hn
              · exact seq_f.1 h2 hn
              · exact seq_f.1 h3' hn
              · exact seq_f.1 h4 hn
              · exact seq_f.1 h5 hn
              · exact seq_f.1 h6 hn) (seq_f.1 h7) (fun h => by rcases h with h | h | h; exact seq_f.1 h8 h; exact seq_f.1 h9 h; exact seq_f.1 h10 h) (seq_f.1 h11)]
          exact Ev.pure _)
      (fun i x hx hd hlen hg hi hP he => by
        refine Ev.loop ?_
        simp only [theory_normal_l1, theory_normal_s1, re_eq]
        have hm := List.mem_of_getElem? hx
        have hlt := kid_lt t x hm
        rw [erN_drop hd]
        refine Ev.ct hlen (Ev.some hg (Ev.bind (ih x hm (by omega) (hck x hm)) (Ev.ite (fun h => ?_) fun h => ?_)))
        · rw [bnt, ieq_f] at h
          rw [if_pos (show (if (norT x).2 ≠ 0 then (norT x).2 else erN (t.kids.drop (i + 1))) ≠ 0 from by rw [if_pos h]; exact h), if_pos h]
          exact Ev.pure _
        · rw [bnf, ieq_t] at h
          rw [if_neg (show ¬ (norT x).2 ≠ 0 from by omega)]
          have h4 : (nks (t.kids.take i)).length ≤ t.kids.length := by rw [nks_len, List.length_take]; omega
          refine Ev.ct (room_t (by omega) (by omega)) ?_
          have hP := hP fun k hk => by
            rw [take_succ_of hx] at hk
            rcases List.mem_append.1 hk with hk | hk
            · exact he k hk
            · rw [List.mem_singleton.1 hk]; exact h
          rw [hi]
          refine hP.congr fun m k => ?_
          rw [nks_succ hx])
    have hk3 := h3
    refine Ev.diag (L := fun m k => theory_normal_L m (theory_normal m) k t.kids t.kids.length 0 t.kind t.name t.sort t.kids 0 [] 0 3 t.name 0 [] []) ?_
    exact (key 0 (Nat.zero_le _)) (fun k hk => by rw [List.take_zero] at hk; cases hk)
theorem rnormal_ev (t : T) : size t ≤ 2000 → chkE t = 0 → srtT t → Ev (fun m _ => ref09_normal m t) (norT t) := by
  induction t using T.ind with
  | h t ih =>
    intro hs hc hso
    have hl := kids_lt t
    have hz := size_eq t
    refine Ev.succ ?_
    simp only [ref09_normal_e, ref09_normal_s0, re_eq]
    by_cases h3 : t.kind = 3
    rotate_left
    · refine Ev.ct (bnt.2 (ieq_f.2 h3)) (Ev.ret (norT_leaf h3).symm)
    refine Ev.cf (bnf.2 (ieq_t.2 h3)) ?_
    rw [norT_er h3]
    have hck := (chkE_zero h3 hc).2
    have key := ev_list (P := fun i => (∀ k ∈ t.kids.take i, (norT k).2 = 0) → Ev (fun m k => ref09_normal_L m (ref09_normal m) k i t.kind t.name t.sort t.kids 0 [] 0 [] (nks (t.kids.take i))) (if erN (t.kids.drop i) ≠ 0 then (zT, erN (t.kids.drop i)) else finN (apT t.name (nks t.kids)))) t.kids (by omega)
      (fun hlen he => by
        refine Ev.loop ?_
        simp only [ref09_normal_l1, ref09_normal_s1, re_eq]
        refine Ev.cf hlen ?_
        rw [List.take_length] at he ⊢
        rw [List.drop_length, if_neg (show ¬ erN [] ≠ 0 from fun h => h rfl)]
        obtain ⟨c1, c2⟩ := nks_chk h3 hc he
        have o1 : srtT (apT t.name (nks t.kids)) := srt_app _ _ fun k hk => by
          obtain ⟨q, hq, rfl⟩ := List.mem_map.1 hk
          obtain ⟨j, hj, rfl⟩ := List.mem_map.1 hq
          exact norT_cl srt_cl srt_zT srt_app j (srt_cl t h3 hso j hj)
        have s1 := nks_sz t.kids
        have s2 : szL t.kids + 1 = size t := by unfold szL; omega
        have hnl := nks_len t.kids
        generalize nks t.kids = ks at *
        have su : size (apT t.name ks) = 1 + szL ks := size_eq _
        have prod : t.name = nMul ∨ t.name = nInv ∨ t.name = nOne → Ev (fun m _ => obind (ref09_product m (apT t.name ks)) fun w => some (w.1, w.2)) (finN (apT t.name ks)) := fun hm => by
          rw [finN_mul (show (apT t.name ks).name = nMul ∨ (apT t.name ks).name = nInv ∨ (apT t.name ks).name = nOne from hm)]
          have h4 := ofP_sz (apT t.name ks)
          have : Ev (fun m _ => ref09_product m (apT t.name ks)) (prodT (apT t.name ks)) := by
            refine Ev.succ ?_
            simp only [ref09_product_e, ref09_product_s0, re_eq]
            unfold prodT
            refine Ev.bind (rof_ev _ (by omega)) (Ev.ite (fun h => ?_) fun h => ?_)
            · rw [bnt, ieq_f] at h
              rw [if_pos h]; exact Ev.pure _
            · rw [bnf, ieq_t] at h
              rw [if_neg (by omega)]
              exact Ev.bind (rterm_ev _ (by omega)) (Ev.pure _)
          exact Ev.bind this (Ev.pure _)
        have hksl := len_szL ks
        refine Ev.bind (rapp_ev t.name ks (by omega)) (Ev.bind (kind_ev t.name) (Ev.ite (fun h => ?_) fun h1 => ?_))
        · have hd := (kind_D t.name).1 (ieq_t.1 h)
          rw [finN_des (show isD (apT t.name ks).name = true from hd)]
          exact Ev.bind (rdestroy_ev _ rfl c1 o1 hd (by omega)) (Ev.pure _)
        refine Ev.ite (fun h => ?_) fun h7 => ?_
        · rw [finN_xor (show (apT t.name ks).name = nXor from seq_t.1 h)]
          exact Ev.bind (rsum_ev ks (by omega)) (Ev.pure _)
        refine Ev.ite (fun h => prod (.inl (seq_t.1 h))) fun h8 => ?_
        refine Ev.ite (fun h => prod (.inr (.inl (seq_t.1 h)))) fun h9 => ?_
        refine Ev.ite (fun h => prod (.inr (.inr (seq_t.1 h)))) fun h10 => ?_
        refine Ev.ite (fun h => ?_) fun h11 => ?_
        · have hn : t.name = nExp := seq_t.1 h
          rw [finN_exp (show (apT t.name ks).name = nExp from hn)]
          have isE : isN (apT t.name ks) nExp = true := isN_t.2 ⟨rfl, hn⟩
          have q0 := kid_sz (apT t.name ks) 0
          have q1 := kid_sz (apT t.name ks) 1
          refine Ev.some (kid_of (t := apT t.name ks) (i := 0) c1 isE (a := 2) (b := 2) (c := 1) (by decide) (by decide)) (Ev.some (kid_of (t := apT t.name ks) (i := 1) c1 isE (a := 2) (b := 2) (c := 1) (by decide) (by decide)) ?_)
          exact Ev.bind (power_ev _ _ (kid_cl chk_cl chk_zT rfl c1 0) (by omega) (by omega)) (Ev.pure _)
        · rw [finN_else (t := apT t.name ks) (show isD t.name = false from by
              rw [← Bool.not_eq_true, ← kind_D]
              exact ieq_f.1 h1) (seq_f.1 h7) (fun h => by rcases h with h | h | h; exact seq_f.1 h8 h; exact seq_f.1 h9 h; exact seq_f.1 h10 h) (seq_f.1 h11)]
          exact Ev.pure _)
      (fun i x hx hd hlen hg hi hP he => by
        refine Ev.loop ?_
        simp only [ref09_normal_l1, ref09_normal_s1, re_eq]
        have hm := List.mem_of_getElem? hx
        have hlt := kid_lt t x hm
        rw [erN_drop hd]
        refine Ev.ct hlen (Ev.some hg (Ev.bind (ih x hm (by omega) (hck x hm) (srt_cl t h3 hso x hm)) (Ev.ite (fun h => ?_) fun h => ?_)))
        · rw [bnt, ieq_f] at h
          rw [if_pos (show (if (norT x).2 ≠ 0 then (norT x).2 else erN (t.kids.drop (i + 1))) ≠ 0 from by rw [if_pos h]; exact h), if_pos h]
          exact Ev.pure _
        · rw [bnf, ieq_t] at h
          rw [if_neg (show ¬ (norT x).2 ≠ 0 from by omega)]
          have h4 : (nks (t.kids.take i)).length ≤ t.kids.length := by rw [nks_len, List.length_take]; omega
          refine Ev.ct (room_t (by omega) (by omega)) ?_
          have hP := hP fun k hk => by
            rw [take_succ_of hx] at hk
            rcases List.mem_append.1 hk with hk | hk
            · exact he k hk
            · rw [List.mem_singleton.1 hk]; exact h
          rw [hi]
          refine hP.congr fun m k => ?_
          rw [nks_succ hx])
    refine Ev.diag (L := fun m k => ref09_normal_L m (ref09_normal m) k 0 t.kind t.name t.sort t.kids 0 [] 0 [] []) ?_
    exact (key 0 (Nat.zero_le _)) (fun k hk => by rw [List.take_zero] at hk; cases hk)
theorem normalT_eq (t : T) : normalT t = if vthE t ≠ 0 then (zT, vthE t) else if (norT t).2 ≠ 0 then (zT, (norT t).2) else if validE (norT t).1 ≠ 0 then (zT, validE (norT t).1) else norT t := rfl
theorem tNormal_ev (t : T) (hs : size t ≤ 1000000000) : Ev (fun m _ => theory_Normal m t) (normalT t) := by
  refine Ev.succ ?_
  simp only [theory_Normal_e, theory_Normal_s0, re_eq]
  rw [normalT_eq]
  refine Ev.bind (tvth_ev t hs) (Ev.ite (fun h => ?_) fun h => ?_)
  · rw [bnt, ieq_f] at h
    rw [if_pos h]; exact Ev.pure _
  rw [bnf, ieq_t] at h
  rw [if_neg (by omega)]
  obtain ⟨hv, hc⟩ := vthE_zero h
  have hz := validE_sz hv
  have hn := norT_sz t
  refine Ev.bind (normal_ev t (by omega) hc) (Ev.ite (fun h2 => ?_) fun h2 => ?_)
  · rw [ieq_t] at h2
    rw [if_neg (by omega)]
    refine Ev.bind (tvalid_ev _ (by omega)) (Ev.ite (fun h3 => ?_) fun h3 => ?_)
    · rw [bnt, ieq_f] at h3
      rw [if_pos h3]; exact Ev.pure _
    · rw [bnf, ieq_t] at h3
      rw [if_neg (by omega)]
      exact Ev.ret (by rw [← h2])
  · rw [ieq_f] at h2
    rw [if_pos h2]
    exact Ev.ct (bnt.2 (ieq_f.2 h2)) (Ev.pure _)
theorem rNormal_ev (t : T) (hs : size t ≤ 1000000000) : Ev (fun m _ => ref09_Normal m t) (normalT t) := by
  refine Ev.succ ?_
  simp only [ref09_Normal_e, ref09_Normal_s0, re_eq]
  rw [normalT_eq]
  refine Ev.bind (rvth_ev t hs) (Ev.ite (fun h => ?_) fun h => ?_)
  · rw [bnt, ieq_f] at h
    rw [if_pos h]; exact Ev.pure _
  rw [bnf, ieq_t] at h
  rw [if_neg (by omega)]
  obtain ⟨hv, hc⟩ := vthE_zero h
  have hz := validE_sz hv
  have hn := norT_sz t
  refine Ev.bind (rnormal_ev t (by omega) hc (srt_nodes t (valid_nodes hv))) (Ev.ite (fun h2 => ?_) fun h2 => ?_)
  · rw [bnt, ieq_f] at h2
    rw [if_pos h2]; exact Ev.pure _
  rw [bnf, ieq_t] at h2
  rw [if_neg (by omega)]
  refine Ev.bind (rvalid_ev _ (by omega)) (Ev.ite (fun h3 => ?_) fun h3 => ?_)
  · rw [bnt, ieq_f] at h3
    rw [if_pos h3]; exact Ev.pure _
  · rw [bnf, ieq_t] at h3
    rw [if_neg (by omega)]
    exact Ev.ret (by rw [← h2])
theorem normalT_sz (t : T) : size (normalT t).1 ≤ 400 := by
  rw [normalT_eq]
  have := size_zT
  split
  · show size zT ≤ _; omega
  · split
    · show size zT ≤ _; omega
    · split
      · show size zT ≤ _; omega
      · rename_i h
        exact validE_sz (Decidable.of_not_not h)
end Go.AmYtmodnblfcikjlaaGreat
namespace Go.AmYtmodnblfcikjlaaGreat
open Go Go.GxYtmodnblfcikjlaaGreat
end Go.AmYtmodnblfcikjlaaGreat
namespace Go.AmYtmodnblfcikjlaaGreat
open Go Go.GxYtmodnblfcikjlaaGreat
noncomputable def everyT (p : List UInt8 → Bool) : T → Bool := T.para fun t rs => (!(t.kind == 3) || p t.name) && rs.all id
theorem everyT_eq (p : List UInt8 → Bool) (t : T) : everyT p t = ((!(t.kind == 3) || p t.name) && (t.kids.map (everyT p)).all id) := T.para_eq _ _
noncomputable def allT : T → List T := T.para fun t rs => t :: rs.flatten
theorem allT_eq (t : T) : allT t = t :: (t.kids.map allT).flatten := T.para_eq _ _
theorem allT_len (t : T) : (allT t).length = size t := by
  refine T.ind (P := fun t => (allT t).length = size t) ?_ t
  intro t ih
  rw [allT_eq, size_eq, List.length_cons, List.length_flatten, List.map_map]
  have : t.kids.map (List.length ∘ allT) = t.kids.map size := List.map_congr_left fun k hk => ih k hk
  rw [this]; omega
theorem allT_every (p : List UInt8 → Bool) (t : T) : (allT t).all (fun u => !(u.kind == 3) || p u.name) = everyT p t := by
  refine T.ind (P := fun t => (allT t).all (fun u => !(u.kind == 3) || p u.name) = everyT p t) ?_ t
  intro t ih
  rw [allT_eq, everyT_eq, List.all_cons, List.all_flatten]
  congr 1
  rw [List.all_map, List.all_map]
  rw [Bool.eq_iff_iff, List.all_eq_true, List.all_eq_true]
  exact ⟨fun h k hk => (ih k hk).symm.trans (h k hk), fun h k hk => (ih k hk).trans (h k hk)⟩
/-- No destructor; no symbol of sums or exponents either. -/
def pPl (n : List UInt8) : Bool := bnot (ieq (symOf n).2.2 3)
def algN (n : List UInt8) : Bool := n == nXor || n == nZero || n == nExp || n == nMul || n == nInv || n == nOne
def pFr (n : List UInt8) : Bool := !algN n && pPl n
theorem plain1_ev (n : List UInt8) : Ev (fun m _ => theory_Plain_1 m n) (pPl n) := by
  refine Ev.succ ?_
  simp only [theory_Plain_1_e, theory_Plain_1_s0]
  refine Ev.bind (symbol_ev n) (Ev.ret ?_)
  unfold pPl
  rw [← symS_two]
theorem alg_of {n x : List UInt8} (h : n = x) (hx : algN x = true) : algN n = true := by rw [h]; exact hx
theorem alg_no {n : List UInt8} (h1 : n ≠ nXor) (h2 : n ≠ nZero) (h3 : n ≠ nExp) (h4 : n ≠ nMul) (h5 : n ≠ nInv) : algN n = (n == nOne) := by
  unfold algN
  rw [beq_eq_false_iff_ne.2 h1, beq_eq_false_iff_ne.2 h2, beq_eq_false_iff_ne.2 h3, beq_eq_false_iff_ne.2 h4, beq_eq_false_iff_ne.2 h5]; rfl
theorem free1_ev (n : List UInt8) : Ev (fun m _ => theory_Free_1 m n) (pFr n) := by
  refine Ev.succ ?_
  simp only [theory_Free_1_e, theory_Free_1_s0]
  have bad : algN n = true → Ev (fun _ _ => some false) (pFr n) := fun h => Ev.ret (by unfold pFr; rw [h]; rfl)
  refine Ev.ite (fun h => bad (alg_of (seq_t.1 h) (by decide))) fun h1 => ?_
  refine Ev.ite (fun h => bad (alg_of (seq_t.1 h) (by decide))) fun h2 => ?_
  refine Ev.ite (fun h => bad (alg_of (seq_t.1 h) (by decide))) fun h3 => ?_
  refine Ev.ite (fun h => bad (alg_of (seq_t.1 h) (by decide))) fun h4 => ?_
  refine Ev.ite (fun h => bad (alg_of (seq_t.1 h) (by decide))) fun h5 => ?_
  refine Ev.ite (fun h => bad (alg_of (seq_t.1 h) (by decide))) fun h6 => ?_
  refine Ev.bind (symbol_ev n) (Ev.ret ?_)
  unfold pFr pPl
  rw [alg_no (seq_f.1 h1) (seq_f.1 h2) (seq_f.1 h3) (seq_f.1 h4) (seq_f.1 h5), show (n == nOne) = false from beq_eq_false_iff_ne.2 (seq_f.1 h6), ← symS_two]; rfl
theorem ralg_ev (n : List UInt8) : Ev (fun m _ => ref09_algebraic m n) (algN n) := by
  refine Ev.succ ?_
  simp only [ref09_algebraic_e, ref09_algebraic_s0]
  have good : algN n = true → Ev (fun _ _ => some true) (algN n) := fun h => Ev.ret h.symm
  refine Ev.ite (fun h => good (alg_of (seq_t.1 h) (by decide))) fun h1 => ?_
  refine Ev.ite (fun h => good (alg_of (seq_t.1 h) (by decide))) fun h2 => ?_
  refine Ev.ite (fun h => good (alg_of (seq_t.1 h) (by decide))) fun h3 => ?_
  refine Ev.ite (fun h => good (alg_of (seq_t.1 h) (by decide))) fun h4 => ?_
  refine Ev.ite (fun h => good (alg_of (seq_t.1 h) (by decide))) fun h5 => ?_
  refine Ev.ret ?_
  rw [alg_no (seq_f.1 h1) (seq_f.1 h2) (seq_f.1 h3) (seq_f.1 h4) (seq_f.1 h5)]; rfl
theorem everyP_ev (t : T) : size t ≤ 1000000000 → Ev (fun m _ => theory_every_of_46 m t) (everyT pPl t) := by
  induction t using T.ind with
  | h t ih =>
    intro hs
    have hl := kids_lt t
    refine Ev.succ ?_
    simp only [theory_every_of_46_e, theory_every_of_46_s0]
    have key := ev_list (P := fun i => Ev (fun m k => theory_every_of_46_L m (theory_every_of_46 m) k t.kids t.kids.length i) (((t.kids.drop i).map (everyT pPl)).all id)) t.kids (by omega)
      (fun hc => by
        refine Ev.loop ?_
        simp only [theory_every_of_46_l1, theory_every_of_46_s1]
        refine Ev.cf hc (Ev.ret ?_)
        rw [List.drop_length]; rfl)
      (fun i x hx hd hc hg hi hP => by
        refine Ev.loop ?_
        simp only [theory_every_of_46_l1, theory_every_of_46_s1, re_eq]
        have hm := List.mem_of_getElem? hx
        have h1 := kid_lt t x hm
        rw [hd, List.map_cons, List.all_cons]
        refine Ev.ct hc (Ev.some hg (Ev.bind (ih x hm (by omega)) (Ev.ite (fun hb => ?_) fun hb => ?_)))
        · rw [bnt] at hb
          rw [hb]; exact Ev.pure _
        · rw [bnf] at hb
          rw [hb, hi]
          exact hP)
    have main : Ev (fun m _ => theory_every_of_46_L m (theory_every_of_46 m) m t.kids t.kids.length 0) ((t.kids.map (everyT pPl)).all id) :=
      Ev.diag (L := fun m k => theory_every_of_46_L m (theory_every_of_46 m) k t.kids t.kids.length 0) ((key 0 (Nat.zero_le _)).res (by rw [List.drop_zero]))
    rw [everyT_eq]
    refine Ev.ite (fun h3 => ?_) fun h3 => ?_
    · rw [ieq_t] at h3
      have hk : (!(t.kind == 3)) = false := by rw [h3]; rfl
      rw [hk, Bool.false_or]
      refine Ev.bind (plain1_ev t.name) (Ev.ite (fun h => ?_) fun h => ?_)
      · rw [bnt] at h
        rw [h]; exact Ev.pure _
      · rw [bnf] at h
        rw [h]; exact main
    · rw [ieq_f] at h3
      have hk : (!(t.kind == 3)) = true := by rw [Bool.not_eq_true', beq_eq_false_iff_ne]; exact h3
      rw [hk, Bool.true_or]
      exact main
theorem everyF_ev (t : T) : size t ≤ 1000000000 → Ev (fun m _ => theory_every_of_42 m t) (everyT pFr t) := by
  induction t using T.ind with
  | h t ih =>
    intro hs
    have hl := kids_lt t
    refine Ev.succ ?_
    simp only [theory_every_of_42_e, theory_every_of_42_s0]
    have key := ev_list (P := fun i => Ev (fun m k => theory_every_of_42_L m (theory_every_of_42 m) k t.kids t.kids.length i) (((t.kids.drop i).map (everyT pFr)).all id)) t.kids (by omega)
      (fun hc => by
        refine Ev.loop ?_
        simp only [theory_every_of_42_l1, theory_every_of_42_s1]
        refine Ev.cf hc (Ev.ret ?_)
        rw [List.drop_length]; rfl)
      (fun i x hx hd hc hg hi hP => by
        refine Ev.loop ?_
        simp only [theory_every_of_42_l1, theory_every_of_42_s1, re_eq]
        have hm := List.mem_of_getElem? hx
        have h1 := kid_lt t x hm
        rw [hd, List.map_cons, List.all_cons]
        refine Ev.ct hc (Ev.some hg (Ev.bind (ih x hm (by omega)) (Ev.ite (fun hb => ?_) fun hb => ?_)))
        · rw [bnt] at hb
          rw [hb]; exact Ev.pure _
        · rw [bnf] at hb
          rw [hb, hi]
          exact hP)
    have main : Ev (fun m _ => theory_every_of_42_L m (theory_every_of_42 m) m t.kids t.kids.length 0) ((t.kids.map (everyT pFr)).all id) :=
      Ev.diag (L := fun m k => theory_every_of_42_L m (theory_every_of_42 m) k t.kids t.kids.length 0) ((key 0 (Nat.zero_le _)).res (by rw [List.drop_zero]))
    rw [everyT_eq]
    refine Ev.ite (fun h3 => ?_) fun h3 => ?_
    · rw [ieq_t] at h3
      have hk : (!(t.kind == 3)) = false := by rw [h3]; rfl
      rw [hk, Bool.false_or]
      refine Ev.bind (free1_ev t.name) (Ev.ite (fun h => ?_) fun h => ?_)
      · rw [bnt] at h
        rw [h]; exact Ev.pure _
      · rw [bnf] at h
        rw [h]; exact main
    · rw [ieq_f] at h3
      have hk : (!(t.kind == 3)) = true := by rw [Bool.not_eq_true', beq_eq_false_iff_ne]; exact h3
      rw [hk, Bool.true_or]
      exact main

theorem rall_ev (t : T) : size t ≤ 1000000000 → Ev (fun m _ => ref01_All m t) (allT t) := by
  induction t using T.ind with
  | h t ih =>
    intro hs
    have hl := kids_lt t
    have hln := allT_len t
    refine Ev.succ ?_
    simp only [ref01_All_e, ref01_All_s0, re_eq]
    rw [allT_eq] at hln ⊢
    have hpre : ∀ i, ((t.kids.take i).map allT).flatten.length ≤ (t.kids.map allT).flatten.length := fun i => by
      have := congrArg (fun l => (l.map allT).flatten.length) (List.take_append_drop i t.kids)
      simp only [List.map_append, List.flatten_append, List.length_append] at this
      omega
    have key := ev_list (P := fun i => Ev (fun m k => ref01_All_L m (ref01_All m) k i t.kind t.name t.sort t.kids (t :: ((t.kids.take i).map allT).flatten)) (t :: (t.kids.map allT).flatten)) t.kids (by omega)
      (fun hc => by
        refine Ev.loop ?_
        simp only [ref01_All_l1, ref01_All_s1]
        refine Ev.cf hc ?_
        rw [List.take_length]; exact Ev.pure _)
      (fun i x hx hd hc hg hi hP => by
        refine Ev.loop ?_
        simp only [ref01_All_l1, ref01_All_s1, re_eq]
        have hm := List.mem_of_getElem? hx
        have h1 := kid_lt t x hm
        have h2 := hpre (i + 1)
        have e : ((t.kids.take (i + 1)).map allT).flatten = ((t.kids.take i).map allT).flatten ++ allT x := by
          rw [take_succ_of hx, List.map_append, List.flatten_append]; simp
        rw [e, List.length_append] at h2
        rw [e] at hP
        rw [List.length_cons] at hln
        refine Ev.ct hc (Ev.some hg (Ev.bind (ih x hm (by omega)) (Ev.ct (room_t (by rw [List.length_cons]; omega) (by omega)) ?_)))
        rw [hi]
        exact hP)
    refine Ev.diag (L := fun m k => ref01_All_L m (ref01_All m) k 0 t.kind t.name t.sort t.kids [t]) ?_
    exact key 0 (Nat.zero_le _)
noncomputable def freeB (t : T) : Bool := decide (vthE t = 0) && everyT pFr t
theorem tfree_ev (t : T) (hs : size t ≤ 1000000000) : Ev (fun m _ => theory_Free m t) (freeB t) := by
  refine Ev.succ ?_
  simp only [theory_Free_e, theory_Free_s0, re_eq]
  unfold freeB
  refine Ev.bind (tvth_ev t hs) (Ev.ite (fun h => ?_) fun h => ?_)
  · rw [ieq_t] at h
    rw [decide_eq_true h, Bool.true_and]
    exact Ev.bind (everyF_ev t hs) (Ev.pure _)
  · rw [ieq_f] at h
    rw [decide_eq_false h, Bool.false_and]; exact Ev.pure _
theorem rfree_ev (t : T) (hs : size t ≤ 1000000000) : Ev (fun m _ => ref09_Free m t) (freeB t) := by
  refine Ev.succ ?_
  simp only [ref09_Free_e, ref09_Free_s0, re_eq]
  unfold freeB
  refine Ev.bind (rvth_ev t hs) (Ev.ite (fun h => ?_) fun h => ?_)
  · rw [bnt, ieq_f] at h
    rw [decide_eq_false h, Bool.false_and]; exact Ev.pure _
  rw [bnf, ieq_t] at h
  rw [decide_eq_true h, Bool.true_and, ← allT_every]
  refine Ev.bind (rall_ev t hs) ?_
  have hln := allT_len t
  generalize allT t = l at *
  have key := ev_list (P := fun i => Ev (fun m k => ref09_Free_L m k l i) ((l.drop i).all fun u => !(u.kind == 3) || pFr u.name)) l (by omega)
    (fun hc => by
      refine Ev.loop ?_
      simp only [ref09_Free_l1, ref09_Free_s1]
      refine Ev.cf hc (Ev.ret ?_)
      rw [List.drop_length]; rfl)
    (fun i x hx hd hc hg hi hP => by
      refine Ev.loop ?_
      simp only [ref09_Free_l1, ref09_Free_s1]
      rw [hd, List.all_cons]
      refine Ev.ct hc (Ev.some hg (Ev.ite (fun h3 => ?_) fun h3 => ?_))
      · rw [ieq_t] at h3
        have hk : (!(x.kind == 3)) = false := by rw [h3]; rfl
        rw [hk, Bool.false_or]
        unfold pFr at hP ⊢
        refine Ev.some hg (Ev.bind (ralg_ev x.name) (Ev.ite (fun ha => ?_) fun ha => ?_))
        · rw [ha]; exact Ev.pure _
        rw [ha]
        refine Ev.some hg (Ev.bind (kind_ev x.name) (Ev.ite (fun hk3 => ?_) fun hk3 => ?_))
        · unfold pPl
          rw [hk3]; exact Ev.pure _
        · rw [hi]
          refine hP.res ?_
          have : pPl x.name = true := by unfold pPl; rw [hk3]; rfl
          rw [this]; rfl
      · rw [ieq_f] at h3
        have hk : (!(x.kind == 3)) = true := by rw [Bool.not_eq_true', beq_eq_false_iff_ne]; exact h3
        rw [hk, Bool.true_or, hi, Bool.true_and]
        exact hP)
  refine Ev.diag (L := fun m k => ref09_Free_L m k l 0) ?_
  exact (key 0 (Nat.zero_le _)).res (by rw [List.drop_zero])
noncomputable def plainB (t : T) : Bool := decide ((normalT t).2 = 0) && (sameT (normalT t).1 t && everyT pPl t)
theorem tplain_ev (t : T) (hs : size t ≤ 1000000000) : Ev (fun m _ => theory_Plain m t) (plainB t) := by
  have h1 := normalT_sz t
  refine Ev.succ ?_
  simp only [theory_Plain_e, theory_Plain_s0, re_eq]
  unfold plainB
  refine Ev.bind (tNormal_ev t hs) (Ev.ite (fun h => ?_) fun h => ?_)
  · rw [ieq_t] at h
    rw [decide_eq_true h, Bool.true_and]
    refine Ev.bind (tsame_ev _ _ (by omega) hs) (Ev.ite (fun h2 => ?_) fun h2 => ?_)
    · rw [h2, Bool.true_and]
      exact Ev.bind (everyP_ev t hs) (Ev.pure _)
    · rw [h2, Bool.false_and]; exact Ev.pure _
  · rw [ieq_f] at h
    rw [decide_eq_false h, Bool.false_and]; exact Ev.pure _
theorem rplain_ev (t : T) (hs : size t ≤ 1000000000) : Ev (fun m _ => ref09_Plain m t) (plainB t) := by
  have h1 := normalT_sz t
  refine Ev.succ ?_
  simp only [ref09_Plain_e, ref09_Plain_s0, re_eq]
  unfold plainB
  refine Ev.bind (rNormal_ev t hs) (Ev.ite (fun h => ?_) fun h => ?_)
  · rw [bnt, ieq_f] at h
    rw [decide_eq_false h, Bool.false_and]; exact Ev.pure _
  rw [bnf, ieq_t] at h
  rw [decide_eq_true h, Bool.true_and, sameT_comm]
  refine Ev.bind (rsame_ev _ _ hs (by omega)) (Ev.ite (fun h2 => ?_) fun h2 => ?_)
  · rw [bnt] at h2
    rw [h2, Bool.false_and]; exact Ev.pure _
  rw [bnf] at h2
  rw [h2, Bool.true_and, ← allT_every]
  refine Ev.bind (rall_ev t hs) ?_
  have hln := allT_len t
  generalize allT t = l at *
  have key := ev_list (P := fun i => Ev (fun m k => ref09_Plain_L m k l i) ((l.drop i).all fun u => !(u.kind == 3) || pPl u.name)) l (by omega)
    (fun hc => by
      refine Ev.loop ?_
      simp only [ref09_Plain_l1, ref09_Plain_s1]
      refine Ev.cf hc (Ev.ret ?_)
      rw [List.drop_length]; rfl)
    (fun i x hx hd hc hg hi hP => by
      refine Ev.loop ?_
      simp only [ref09_Plain_l1, ref09_Plain_s1]
      rw [hd, List.all_cons]
      refine Ev.ct hc (Ev.some hg (Ev.ite (fun h3 => ?_) fun h3 => ?_))
      · rw [ieq_t] at h3
        have hk : (!(x.kind == 3)) = false := by rw [h3]; rfl
        rw [hk, Bool.false_or]
        refine Ev.some hg (Ev.bind (kind_ev x.name) (Ev.ite (fun hk3 => ?_) fun hk3 => ?_))
        · have : pPl x.name = false := by unfold pPl; rw [hk3]; rfl
          rw [this]; exact Ev.pure _
        · rw [hi]
          refine hP.res ?_
          have : pPl x.name = true := by unfold pPl; rw [hk3]; rfl
          rw [this]; rfl
      · rw [ieq_f] at h3
        have hk : (!(x.kind == 3)) = true := by rw [Bool.not_eq_true', beq_eq_false_iff_ne]; exact h3
        rw [hk, Bool.true_or, hi, Bool.true_and]
        exact hP)
  refine Ev.diag (L := fun m k => ref09_Plain_L m k l 0) ?_
  exact (key 0 (Nat.zero_le _)).res (by rw [List.drop_zero])
theorem beqB_self (b : Bool) : beqB b b = true := by cases b <;> rfl
theorem theoryValid_ev (t : T) (hf : FitT t) : Ev (fun m _ => law09_TheoryValid m t) true := by
  obtain ⟨s, hsm, hs⟩ := small_ev [t] (by show 1 < 2 ^ 62; decide) (fun u hu => by rw [List.mem_singleton.1 hu]; exact hf)
  refine Ev.succ ?_
  simp only [law09_TheoryValid_e, law09_TheoryValid_s0, re_eq]
  refine Ev.bind awake_ev (Ev.cf rfl (Ev.bind hsm ?_))
  cases s with
  | false => exact Ev.ct rfl (Ev.bind awake_ev (Ev.pure _))
  | true =>
    obtain ⟨_, h⟩ := hs rfl
    have z := (h t (by simp)).1
    refine Ev.cf rfl (Ev.bind (tvth_ev t (by omega)) (Ev.bind (rvth_ev t (by omega)) (Ev.ct (ieq_t.2 rfl) ?_)))
    refine Ev.bind (tfree_ev t (by omega)) (Ev.bind (rfree_ev t (by omega)) (Ev.ct (beqB_self _) ?_))
    exact Ev.bind (tplain_ev t (by omega)) (Ev.bind (rplain_ev t (by omega)) (Ev.ret (beqB_self _)))
end Go.AmYtmodnblfcikjlaaGreat
namespace Go.AmYtmodnblfcikjlaaGreat
open Go Go.RowKit Go.GxYtmodnblfcikjlaaGreat

/-- A function that turns nothing; one that turns boxes and rows. -/
structure FI where
  fn : Func
  args : List ATy
  res : List Ty
  loop : List (Nat × List (Tmp × Co))
  F : Nat → ArgsV args → Option (ResV res)
structure SI where
  fn : Func
  args : List SA
  res : List RA
  loop : List (Nat × List (Tmp × Co))
  F : Nat → SArgs args → Option (SOut args × RV res)
inductive En where
  | pure (l : List (List Nat × FI))
  | st (i : SI)
  | hp (g : Sig)
  | hs (g : SSig)
inductive Tr where
  | leaf
  | node (k : Nat) (l r : Tr) (x : En)
def Tr.get : Tr → Nat → Option En
  | .leaf, _ => none
  | .node k l r x, f => match Nat.beq f k with
    | true => some x
    | false => match Nat.blt f k with
      | true => Tr.get l f
      | false => Tr.get r f
def findG (gs : List Nat) : List (List Nat × FI) → Option FI
  | [] => none
  | p :: r => match natsEq p.1 gs with
    | true => some p.2
    | false => findG gs r
def findLp (r : Nat) : List (Nat × List (Tmp × Co)) → Option (List (Tmp × Co))
  | [] => none
  | p :: l => match Nat.beq p.1 r with
    | true => some p.2
    | false => findLp r l
structure Tb where
  ty : Nat → Option TD
  el : Nat → Option Ty
  tr : Tr
def Tb.has (b : Tb) (f : Nat) : Bool := match b.tr.get f with
  | some (.pure _) => true
  | some (.hp _) => true
  | _ => false
def Tb.pf (b : Tb) (m f : Nat) (gs : List Nat) : Option Sig := match b.tr.get f with
  | some (.pure l) => match findG gs l with
    | some i => some ⟨i.args, i.res, i.F m⟩
    | none => none
  | some (.hp g) => gsel gs [] (some g) none
  | _ => none
def Tb.sf (b : Tb) (m f : Nat) : Option SSig := match b.tr.get f with
  | some (.st i) => some ⟨i.args, i.res, i.F m⟩
  | some (.hs g) => some g
  | _ => none
def Tb.tc (b : Tb) (m : Nat) (lp : List (Nat × List (Tmp × Co))) (nt np : Nat) : TC := ⟨b.ty, b.el, b.has, b.pf m, b.sf m, fun r => findLp r lp, fun _ => none, nt, np⟩
def Tb.runP (b : Tb) (m : Nat) (i : FI) (k : Nat) (st : List It) (E : Env) (σ : TS) : Option (ResV i.res) :=
  runL (b.tc m i.loop i.fn.ntmps 0) (finT (b.tc m i.loop i.fn.ntmps 0) i.res i.fn.results.toList) stepsN k st E σ
def Tb.runS (b : Tb) (m : Nat) (i : SI) (k : Nat) (st : List It) (E : Env) (σ : TS) : Option (SOut i.args × RV i.res) :=
  runL (b.tc m i.loop i.fn.ntmps (nBox i.args)) (finS (b.tc m i.loop i.fn.ntmps (nBox i.args)) i.args i.res i.fn.results.toList) stepsN k st E σ
/-- A whole call; at the head of a loop. -/
def Tb.runP1 (b : Tb) (m : Nat) (i : FI) (gs : List Nat) (a : ArgsV i.args) : Option (ResV i.res) := b.runP m i (m + 1) [.code (bodyC i.fn)] (envOf 0 (tvAs i.args a gs)) ⟨[], []⟩
def Tb.runS1 (b : Tb) (m : Nat) (i : SI) (a : SArgs i.args) : Option (SOut i.args × RV i.res) := b.runS m i (m + 1) [.code (bodyC i.fn)] (envOf 0 (sEnv i.args 0 0 a)) ⟨sBx i.args a, sRw i.args a⟩
def Tb.PL (b : Tb) (i : FI) (r : Nat) (m k : Nat) (E : Env) (σ : TS) : Option (ResV i.res) := b.runP m i k (stL i.fn r) E σ
def Tb.QL (b : Tb) (i : SI) (r : Nat) (m k : Nat) (E : Env) (σ : TS) : Option (SOut i.args × RV i.res) := b.runS m i k (stL i.fn r) E σ
/-- The contracts' machine with fuel m. -/
def Tb.at (b : Tb) (m : Nat) : TC := b.tc m [] 0 0
/-- Loops: the plain ones are the machine's. -/
theorem lab1 {α : Type} {M : Nat → α} {z : α} {s : α → α} (h0 : z = M 0) (hM : ∀ k, M (k + 1) = s (M k)) (k : Nat) : nrec z s k = M k := by
  induction k with
  | zero => exact h0
  | succ k ih => rw [hM, ← ih]; rfl

def fnB (fn : Func) (n : Nat) : Bool := bodyOk fn && Nat.ble n fn.ntmps
def En.ok : En → Bool
  | .pure l => l.all fun p => fnB p.2.fn p.2.args.length
  | .st i => fnB i.fn i.args.length
  | _ => true
def Tr.ok : Tr → Bool
  | .leaf => true
  | .node _ l r x => x.ok && (l.ok && r.ok)
/-- The program's functions are those of the table, the plain functions are what they answer; what is proved by hand. -/
def EnsOk (P : Program) (b : Tb) (f : Nat) (l : List (List Nat × FI)) : Prop := match l with
  | [] => True
  | p :: r => P.funcs[f]? = some p.2.fn ∧ (∀ a, p.2.F 0 a = none) ∧ (∀ m a, p.2.F (m + 1) a = b.runP1 m p.2 p.1 a) ∧ EnsOk P b f r
def En.prog (P : Program) (b : Tb) (f : Nat) : En → Prop
  | .pure l => EnsOk P b f l ∧ l ≠ []
  | .st i => P.funcs[f]? = some i.fn ∧ (∀ a, i.F 0 a = none) ∧ ∀ m a, i.F (m + 1) a = b.runS1 m i a
  | .hp g => ∀ c : TC, (∀ gs, c.pf f gs = gsel gs [] (some g) none) → PrimOk P f (pureP (sigP c f))
  | .hs g => PrimOk P f (sgP g)
def Tr.prog (P : Program) (b : Tb) : Tr → Prop
  | .leaf => True
  | .node k l r x => x.prog P b k ∧ l.prog P b ∧ r.prog P b
theorem Tr.get_spec {P : Program} {b : Tb} : ∀ {t : Tr} {f : Nat} {x : En}, t.get f = some x → t.ok = true → t.prog P b → x.ok = true ∧ x.prog P b f
  | .leaf, f, x, h, _, _ => by cases h
  | .node k l r y, f, x, h, ho, ⟨p1, p2, p3⟩ => by
    simp only [Tr.ok, Bool.and_eq_true] at ho
    obtain ⟨o1, o2, o3⟩ := ho
    simp only [Tr.get] at h
    split at h
    · rename_i hb
      cases h
      rw [Nat.eq_of_beq_eq_true hb]
      exact ⟨o1, p1⟩
    · split at h
      · exact Tr.get_spec h o2 p2
      · exact Tr.get_spec h o3 p3
theorem findG_mem {gs : List Nat} : ∀ {l : List (List Nat × FI)} {i : FI}, findG gs l = some i → (gs, i) ∈ l
  | [], i, h => by cases h
  | p :: r, i, h => by
    simp only [findG] at h
    split at h
    · rename_i hb
      cases h
      rw [← natsEq_eq hb]
      exact List.mem_cons_self ..
    · exact List.mem_cons_of_mem _ (findG_mem h)
theorem EnsOk.mem {P : Program} {b : Tb} {f : Nat} : ∀ {l : List (List Nat × FI)} {p : List Nat × FI}, EnsOk P b f l → p ∈ l → P.funcs[f]? = some p.2.fn ∧ (∀ a, p.2.F 0 a = none) ∧ (∀ m a, p.2.F (m + 1) a = b.runP1 m p.2 p.1 a)
  | [], p, _, h => by cases h
  | q :: r, p, ⟨h1, h2, h3, h4⟩, h => by
    rcases List.mem_cons.1 h with rfl | h
    · exact ⟨h1, h2, h3⟩
    · exact EnsOk.mem h4 h
theorem bodyC_some {fn : Func} (h : bodyOk fn = true) : fn.body = some (bodyC fn) := by
  unfold bodyOk at h
  unfold bodyC
  cases hb : fn.body with
  | none => rw [hb] at h; cases h
  | some c => rfl
theorem fnB_spec {fn : Func} {n : Nat} (h : fnB fn n = true) : bodyOk fn = true ∧ n ≤ fn.ntmps := by
  unfold fnB at h
  rw [Bool.and_eq_true] at h
  exact ⟨h.1, Nat.le_of_ble_eq_true h.2⟩
/-- A function of the program answers as its plain function does, whatever functions it is handed. -/
theorem fn_stepG {P : Program} {pc : PC} (hC : CfgOk P pc.cfg) {c' : TC} {f : FuncId} {fn : Func} (hf : P.funcs[f]? = some fn) (hb : bodyOk fn = true)
    (h : ∀ gs g, c'.pf f gs = some g → ∃ c : TC, { c.pc with pur := pc.pur } = pc ∧ c.nt = fn.ntmps ∧ c.np = 0 ∧ g.args.length ≤ fn.ntmps ∧ ∃ N k, ∀ a, g.fn a = runL c (finT c g.res fn.results.toList) N k [.code (bodyC fn)] (envOf 0 (tvAs g.args a gs)) ⟨[], []⟩) : PrimOk P f (pureP (sigP c' f)) := by
  refine prim_pure hC hf hb (sigP c' f) fun ys r hp => ?_
  unfold sigP at hp
  split at hp <;> try cases hp
  rename_i g hg
  split at hp <;> try cases hp
  rename_i a ha
  split at hp <;> cases hp
  rename_i v hv
  obtain ⟨c, hpc, hnt, hnp, h1, N, k, h2⟩ := h _ g hg
  refine ⟨encAs g.args a (fnsA ys), _, c.pc.pur, encAs_sub g.args ha, fun z hz => hz, ?_⟩
  rw [← hpc]
  exact fn_ok (bodyC_some hb) hnt hnp (by rw [encAs_len]; exact h1) (encAs_ok g.args a (fnsA ys)) (by rw [← h2 a]; exact hv)
theorem Tb.has_pf {b : Tb} {m f : Nat} {gs : List Nat} {g : Sig} (h : b.pf m f gs = some g) : (∃ l i, b.tr.get f = some (.pure l) ∧ findG gs l = some i ∧ g = ⟨i.args, i.res, i.F m⟩) ∨ (∃ g', b.tr.get f = some (.hp g')) := by
  unfold Tb.pf at h
  split at h
  · rename_i l hl
    split at h <;> cases h
    exact .inl ⟨l, _, hl, ‹_›, rfl⟩
  · exact .inr ⟨_, ‹_›⟩
  · cases h
/-- All contracts, at every depth. -/
theorem Tb.all_ok {P : Program} {b : Tb} (hm : P.follows .mixedOrders = true) (ht : ∀ t d, b.ty t = some d → tdOf P t = some d) (ho : b.tr.ok = true) (hp : b.tr.prog P b) : ∀ m, CfgOk P (b.at m).pc.cfg := by
  have hand : ∀ {c : TC} {g : Sig} {f m : Nat}, c.pf = b.pf m → b.tr.get f = some (.hp g) → PrimOk P f (pureP (sigP c f)) := by
    intro c g f m hc hg
    refine (Tr.get_spec hg ho hp).2 c fun gs => ?_
    rw [hc]
    unfold Tb.pf
    rw [hg]
  have hasE : ∀ {m : Nat} {f : Nat}, (b.at m).has f = true → (∃ l, b.tr.get f = some (.pure l)) ∨ ∃ g, b.tr.get f = some (.hp g) := by
    intro m f h
    have h : b.has f = true := h
    unfold Tb.has at h
    split at h
    · exact .inl ⟨_, ‹_›⟩
    · exact .inr ⟨_, ‹_›⟩
    · cases h
  have sfE : ∀ {m : Nat} {f : Nat} {g : SSig}, (b.at m).sf f = some g → (∃ i, b.tr.get f = some (.st i) ∧ g = ⟨i.args, i.res, i.F m⟩) ∨ b.tr.get f = some (.hs g) := by
    intro m f g h
    have h : b.sf m f = some g := h
    unfold Tb.sf at h
    split at h
    · cases h; exact .inl ⟨_, ‹_›, rfl⟩
    · cases h; exact .inr ‹_›
    · cases h
  have fnOkP : ∀ {f : Nat} {l : List (List Nat × FI)}, b.tr.get f = some (.pure l) → ∃ fn, P.funcs[f]? = some fn ∧ bodyOk fn = true ∧ ∀ gs i, findG gs l = some i → i.fn = fn ∧ i.args.length ≤ fn.ntmps ∧ (∀ a, i.F 0 a = none) ∧ ∀ m a, i.F (m + 1) a = b.runP1 m i gs a := by
    intro f l hl
    obtain ⟨h1, h2⟩ := Tr.get_spec hl ho hp
    obtain ⟨h2, h3⟩ := h2
    have h1 := List.all_eq_true.1 (show l.all _ = true from h1)
    cases l with
    | nil => exact absurd rfl h3
    | cons p r =>
      refine ⟨p.2.fn, (h2.mem (List.mem_cons_self ..)).1, (fnB_spec (h1 p (List.mem_cons_self ..))).1, fun gs i hi => ?_⟩
      have hm := findG_mem hi
      obtain ⟨e1, e4, e5⟩ := h2.mem hm
      have e2 := (h2.mem (List.mem_cons_self ..)).1
      rw [e2] at e1
      have e3 : p.2.fn = i.fn := Option.some.inj e1
      refine ⟨e3.symm, ?_, e4, e5⟩
      rw [e3]
      exact (fnB_spec (h1 _ hm)).2
  intro m
  induction m with
  | zero =>
    refine cfg_ok hm ht (fun f hf => ?_) fun f g hg => ?_
    · rcases hasE hf with ⟨l, hl⟩ | ⟨g, hg⟩
      · obtain ⟨fn, f1, f2, f3⟩ := fnOkP hl
        refine prim_zero (fnOk_of f1 f2) fun gs g a h => ?_
        have h : b.pf 0 f gs = some g := h
        rcases Tb.has_pf h with ⟨l', i, g1, g2, rfl⟩ | ⟨g', g1⟩
        · rw [hl] at g1; cases g1
          exact (f3 gs i g2).2.2.1 a
        · rw [hl] at g1; cases g1
      · exact hand rfl hg
    · rcases sfE hg with ⟨i, hi, rfl⟩ | hh
      · obtain ⟨h1, h2, h3, _⟩ := Tr.get_spec hi ho hp
        exact prim_zeroS (fnOk_of h2 (fnB_spec h1).1) h3
      · exact (Tr.get_spec hh ho hp).2
  | succ m ih =>
    refine cfg_ok hm ht (fun f hf => ?_) fun f g hg => ?_
    · rcases hasE hf with ⟨l, hl⟩ | ⟨g, hg⟩
      · obtain ⟨fn, f1, f2, f3⟩ := fnOkP hl
        refine fn_stepG ih f1 f2 fun gs g h => ?_
        have h : b.pf (m + 1) f gs = some g := h
        rcases Tb.has_pf h with ⟨l', i, g1, g2, rfl⟩ | ⟨g', g1⟩
        · rw [hl] at g1; cases g1
          obtain ⟨rfl, h4, _, h5⟩ := f3 gs i g2
          exact ⟨b.tc m i.loop i.fn.ntmps 0, rfl, rfl, rfl, h4, stepsN, m + 1, fun a => h5 m a⟩
        · rw [hl] at g1; cases g1
      · exact hand rfl hg
    · rcases sfE hg with ⟨i, hi, rfl⟩ | hh
      · obtain ⟨h1, h2, _, h5⟩ := Tr.get_spec hi ho hp
        obtain ⟨h3, h4⟩ := fnB_spec h1
        exact fn_stepS (c := b.tc m i.loop i.fn.ntmps (nBox i.args)) (ih.pur _) h2 h3 (bodyC_some h3) rfl _ rfl h4 ⟨stepsN, m + 1, fun a => h5 m a⟩
      · exact (Tr.get_spec hh ho hp).2
/-- A function of the table as a contract. -/
theorem Tb.prim {P : Program} {b : Tb} (h : ∀ m, CfgOk P (b.at m).pc.cfg) (m : Nat) {f : Nat} (hf : b.has f = true) : PrimOk P f (pureP (sigP (b.at m) f)) := by
  refine (h m).prim f _ ?_
  show PC.prim _ f = _
  unfold PC.prim
  have : (b.at m).pc.pf f = some (sigP (b.at m) f) := by
    show (match (b.at m).has f with | true => some (sigP (b.at m) f) | false => none) = _
    rw [show (b.at m).has f = true from hf]
  rw [this]
end Go.AmYtmodnblfcikjlaaGreat
namespace Go.AmYtmodnblfcikjlaaGreat
open Go Go.GxYtmodnblfcikjlaaGreat
set_option linter.unusedVariables false
set_option maxRecDepth 100000
noncomputable def i3 : FI := ⟨Go.Proofs.Tryz.f3, [.val .term], [.bool], [], fun m x => law09_TheoryNormal m x.1⟩
noncomputable def i4 : FI := ⟨Go.Proofs.Tryz.f4, [.val .term, .val .term, .val .term], [.bool], [], fun m x => law09_TheoryEqual m x.1 x.2.1 x.2.2.1⟩
noncomputable def i5 : FI := ⟨Go.Proofs.Tryz.f5, [.val .term], [.bool], [], fun m x => law09_TheoryValid m x.1⟩
noncomputable def i7 : FI := ⟨Go.Proofs.Tryz.f7, [], [.bool], [], fun m x => law09_awake m⟩
noncomputable def i8 : FI := ⟨Go.Proofs.Tryz.f8, [.val (.list .term)], [.bool], [(4, [(8, .list .term), (9, .keep), (10, .keep)])], fun m x => law09_small m x.1⟩
noncomputable def i9 : FI := ⟨Go.Proofs.Tryz.f9, [.val .term], [.term, (.int .i64)], [], fun m x => theory_Normal m x.1⟩
noncomputable def i10 : FI := ⟨Go.Proofs.Tryz.f10, [.val .term], [.term, (.int .i64)], [], fun m x => ref09_Normal m x.1⟩
noncomputable def i11 : FI := ⟨Go.Proofs.Tryz.f11, [.val .term, .val .term], [.bool], [], fun m x => ref01_Same m x.1 x.2.1⟩
noncomputable def i12 : FI := ⟨Go.Proofs.Tryz.f12, [.val .term, .val .term], [.bool], [], fun m x => theory_Equal m x.1 x.2.1⟩
noncomputable def i13 : FI := ⟨Go.Proofs.Tryz.f13, [.val .term, .val .term], [.bool], [], fun m x => ref09_Equal m x.1 x.2.1⟩
noncomputable def i14 : FI := ⟨Go.Proofs.Tryz.f14, [.val .term], [(.int .i64)], [], fun m x => theory_Valid m x.1⟩
noncomputable def i15 : FI := ⟨Go.Proofs.Tryz.f15, [.val .term], [(.int .i64)], [], fun m x => ref09_Valid m x.1⟩
noncomputable def i16 : FI := ⟨Go.Proofs.Tryz.f16, [.val .term], [.bool], [], fun m x => theory_Free m x.1⟩
noncomputable def i17 : FI := ⟨Go.Proofs.Tryz.f17, [.val .term], [.bool], [(5, [(3, .list .term), (4, .keep)])], fun m x => ref09_Free m x.1⟩
noncomputable def i18 : FI := ⟨Go.Proofs.Tryz.f18, [.val .term], [.bool], [], fun m x => theory_Plain m x.1⟩
noncomputable def i19 : FI := ⟨Go.Proofs.Tryz.f19, [.val .term], [.bool], [(6, [(5, .list .term), (6, .keep)])], fun m x => ref09_Plain m x.1⟩
noncomputable def i24 : FI := ⟨Go.Proofs.Tryz.f24, [], [(.list (.pair .str (.pair (.int .i64) (.pair (.int .i64) (.int .i64)))))], [], fun m x => ref09_Symbols m⟩
noncomputable def i25 : FI := ⟨Go.Proofs.Tryz.f25, [.val .term], [(.list .term)], [(3, [(1, .box [.keep, .keep, .keep, .list .term]), (3, .row .term true), (4, .keep)])], fun m x => ref01_All m x.1⟩
noncomputable def i26 : FI := ⟨Go.Proofs.Tryz.f26, [.val .term, .val .str], [.bool], [], fun m x => ref09_Is m x.1 x.2.1⟩
noncomputable def i29 : FI := ⟨Go.Proofs.Tryz.f29, [.val .str, .val .str], [.bool], [], fun m x => law09_leads m x.1 x.2.1⟩
noncomputable def i30 : FI := ⟨Go.Proofs.Tryz.f30, [.val .str], [.term], [], fun m x => law09_parse m x.1⟩
noncomputable def i31 : FI := ⟨Go.Proofs.Tryz.f31, [.val (.list .term), .val (.int .i64), .val (.int .i64)], [.bool], [(4, [(0, .list .term), (2, .keep), (7, .keep)])], fun m x => ref01_Few m x.1 x.2.1 x.2.2.1⟩
noncomputable def i32 : FI := ⟨Go.Proofs.Tryz.f32, [.val .term], [(.int .i64)], [(3, [(1, .box [.keep, .keep, .keep, .list .term]), (3, .keep), (4, .keep)])], fun m x => ref01_Depth m x.1⟩
noncomputable def i33 : FI := ⟨Go.Proofs.Tryz.f33, [.val .term], [.term, (.int .i64)], [(5, [(1, .box [.keep, .keep, .keep, .list .term]), (2, .box [.keep, .keep, .keep, .row .term false]), (4, .box [.keep, .keep, .keep, .row .term false]), (19, .list .term), (20, .keep), (21, .keep)])], fun m x => theory_normal m x.1⟩
noncomputable def i34 : FI := ⟨Go.Proofs.Tryz.f34, [.val .term], [(.int .i64)], [], fun m x => term_Valid m x.1⟩
noncomputable def i35 : FI := ⟨Go.Proofs.Tryz.f35, [.val .term], [.term, (.int .i64)], [(5, [(1, .box [.keep, .keep, .keep, .list .term]), (2, .box [.keep, .keep, .keep, .row .term false]), (4, .row .term false), (5, .keep)])], fun m x => ref09_normal m x.1⟩
noncomputable def i36 : FI := ⟨Go.Proofs.Tryz.f36, [.val .term], [(.int .i64)], [], fun m x => ref01_Valid m x.1⟩
noncomputable def i37 : FI := ⟨Go.Proofs.Tryz.f37, [.val .term, .val .term], [(.int .i64)], [(18, [(2, .box [.keep, .keep, .keep, .list .term]), (3, .box [.keep, .keep, .keep, .list .term]), (9, .keep)])], fun m x => ref01_Compare m x.1 x.2.1⟩
noncomputable def i38 : FI := ⟨Go.Proofs.Tryz.f38, [.val .term, .val .term], [.bool], [], fun m x => theory_same m x.1 x.2.1⟩
noncomputable def i39 : FI := ⟨Go.Proofs.Tryz.f39, [.val .term], [(.int .i64)], [(13, [(1, .box [.keep, .keep, .keep, .list .term]), (38, .list .term), (39, .keep), (40, .keep)]), (22, [(62, .list .term), (63, .keep), (64, .keep)])], fun m x => theory_check m x.1⟩
noncomputable def i40 : FI := ⟨Go.Proofs.Tryz.f40, [.val .term], [(.int .i64)], [(11, [(1, .box [.keep, .keep, .keep, .list .term]), (4, .keep)])], fun m x => ref09_nodes m x.1⟩
noncomputable def i41 : FI := ⟨Go.Proofs.Tryz.f41, [.val .term, .fn], [.bool], [(4, [(1, .keep), (18, .list .term), (19, .keep), (20, .keep)])], fun m x => theory_every_of_46 m x.1⟩
noncomputable def i41_1 : FI := ⟨Go.Proofs.Tryz.f41, [.val .term, .fn], [.bool], [(4, [(1, .keep), (18, .list .term), (19, .keep), (20, .keep)])], fun m x => theory_every_of_42 m x.1⟩
noncomputable def i42 : FI := ⟨Go.Proofs.Tryz.f42, [.val .str], [.bool], [], fun m x => theory_Free_1 m x.1⟩
noncomputable def i43 : FI := ⟨Go.Proofs.Tryz.f43, [.val .str], [(.pair .str (.pair (.int .i64) (.pair (.int .i64) (.int .i64))))], [(2, [(0, .keep), (2, .box [.keep, .keep, .keep, .keep]), (5, .list (.pair .str (.pair (.int .i64) (.pair (.int .i64) (.int .i64))))), (6, .keep), (7, .keep)])], fun m x => theory_symbol m x.1⟩
noncomputable def i44 : FI := ⟨Go.Proofs.Tryz.f44, [.val .str], [.bool], [], fun m x => ref09_algebraic m x.1⟩
noncomputable def i45 : FI := ⟨Go.Proofs.Tryz.f45, [.val .str], [(.int .i64)], [(3, [(0, .keep), (3, .list (.pair .str (.pair (.int .i64) (.pair (.int .i64) (.int .i64))))), (4, .keep)])], fun m x => ref09_Kind m x.1⟩
noncomputable def i46 : FI := ⟨Go.Proofs.Tryz.f46, [.val .str], [.bool], [], fun m x => theory_Plain_1 m x.1⟩
noncomputable def i50 : FI := ⟨Go.Proofs.Tryz.f50, [.val .str, .val (.list .term)], [.term], [], fun m x => theory_app m x.1 x.2.1⟩
noncomputable def i52 : FI := ⟨Go.Proofs.Tryz.f52, [.val .str, .val (.list .term)], [.term], [], fun m x => ref01_App m x.1 x.2.1⟩
noncomputable def i60 : FI := ⟨Go.Proofs.Tryz.f60, [.val .str], [.term, (.int .i64)], [], fun m x => ref01_Parse m x.1⟩
noncomputable def i61 : FI := ⟨Go.Proofs.Tryz.f61, [.val .term, .val (.int .i64)], [(.int .i64)], [(5, [(1, .keep), (2, .box [.keep, .keep, .keep, .list .term]), (5, .keep)])], fun m x => ref01_budget m x.1 x.2.1⟩
noncomputable def i62 : FI := ⟨Go.Proofs.Tryz.f62, [.val .term], [.term], [], fun m x => theory_destroy m x.1⟩
noncomputable def i63 : FI := ⟨Go.Proofs.Tryz.f63, [.val (.list .term)], [.term, (.int .i64)], [(6, [(2, .box [.keep, .keep, .keep, .row .term true]), (5, .list .term), (15, .list .term), (16, .keep), (17, .keep)])], fun m x => xor_Sum m x.1⟩
noncomputable def i64 : FI := ⟨Go.Proofs.Tryz.f64, [.val .term], [(.list (.pair .term (.int .i64))), (.int .i64)], [], fun m x => exponent_Of m x.1⟩
noncomputable def i65 : FI := ⟨Go.Proofs.Tryz.f65, [.val (.list (.pair .term (.int .i64)))], [.term, (.int .i64)], [(6, [(2, .box [.keep, .keep, .keep, .row .term false]), (5, .row .term false), (6, .row .term false), (18, .list (.pair .term (.int .i64))), (19, .keep), (20, .keep)]), (11, [(2, .box [.keep, .keep, .keep, .row .term false]), (5, .row .term false), (6, .row .term false), (8, .box [.keep, .keep, .keep, .list .term, .keep]), (18, .list (.pair .term (.int .i64))), (19, .keep), (20, .keep), (34, .keep), (35, .keep)]), (15, [(2, .box [.keep, .keep, .keep, .row .term false]), (5, .row .term false), (6, .row .term false), (8, .box [.keep, .keep, .keep, .list .term, .keep]), (18, .list (.pair .term (.int .i64))), (19, .keep), (20, .keep), (46, .keep), (47, .keep)])], fun m x => exponent_Term m x.1⟩
noncomputable def i66 : FI := ⟨Go.Proofs.Tryz.f66, [.val .term, .val .term], [.term, (.int .i64)], [], fun m x => theory_raise m x.1 x.2.1⟩
noncomputable def i67 : SI := ⟨Go.Proofs.Tryz.f67, [.val .term, .val (.int .i64), .box (.int .i64), .box (.int .i64)], [.val (.int .i64)], [(17, [(1, .keep), (2, .box [.keep]), (3, .box [.keep]), (57, .list .term), (58, .keep), (59, .keep)])], fun m x => term_check m x.1 x.2.1 x.2.2.1 x.2.2.2.1⟩
noncomputable def i68 : FI := ⟨Go.Proofs.Tryz.f68, [.val .term], [.term, .bool], [], fun m x => ref09_destroy m x.1⟩
noncomputable def i69 : FI := ⟨Go.Proofs.Tryz.f69, [.val (.list .term)], [.term, (.int .i64)], [(6, [(0, .list .term), (2, .box [.keep, .keep, .keep, .row .term true]), (5, .list .term), (6, .keep)])], fun m x => ref08_Sum m x.1⟩
noncomputable def i70 : FI := ⟨Go.Proofs.Tryz.f70, [.val .term], [.term, (.int .i64)], [], fun m x => ref09_product m x.1⟩
noncomputable def i71 : FI := ⟨Go.Proofs.Tryz.f71, [.val .term, .val .term], [.term, (.int .i64)], [], fun m x => ref09_power m x.1 x.2.1⟩
noncomputable def i72 : FI := ⟨Go.Proofs.Tryz.f72, [.val .term], [(.int .i64)], [(5, [(1, .box [.keep, .keep, .keep, .list .term]), (4, .keep)])], fun m x => ref01_nodes m x.1⟩
noncomputable def i73 : FI := ⟨Go.Proofs.Tryz.f73, [.val .term], [(.int .i64)], [(3, [(1, .box [.keep, .keep, .keep, .list .term]), (3, .keep), (4, .keep)])], fun m x => ref01_Size m x.1⟩
noncomputable def i74 : FI := ⟨Go.Proofs.Tryz.f74, [.val (.int .i64), .val (.int .i64)], [(.int .i64)], [], fun m x => ref01_number m x.1 x.2.1⟩
noncomputable def i75 : FI := ⟨Go.Proofs.Tryz.f75, [.val .term, .val .term], [(.int .i64)], [(11, [(2, .box [.keep, .keep, .keep, .list .term]), (3, .box [.keep, .keep, .keep, .list .term]), (5, .keep), (6, .keep)])], fun m x => term_Compare m x.1 x.2.1⟩
noncomputable def i76 : FI := ⟨Go.Proofs.Tryz.f76, [.val .term], [.bool], [(3, [(1, .box [.keep, .keep, .keep, .list .term]), (3, .list (.pair .str (.pair (.int .i64) (.pair (.int .i64) (.int .i64))))), (4, .keep)])], fun m x => ref09_fits m x.1⟩
noncomputable def i77 : FI := ⟨Go.Proofs.Tryz.f77, [.val .term], [.bool], [(4, [(1, .box [.keep, .keep, .keep, .list .term]), (3, .keep)])], fun m x => ref09_agents m x.1⟩
noncomputable def i80 : FI := ⟨Go.Proofs.Tryz.f80, [.val .term], [.term], [(4, [(1, .box [.keep, .keep, .keep, .row .term false]), (2, .box [.keep, .keep, .keep, .row .term false]), (9, .list .term), (10, .keep), (11, .keep)])], fun m x => term_clone m x.1⟩
noncomputable def i84 : FI := ⟨Go.Proofs.Tryz.f84, [.val .term, .val (.list (.int .i64)), .val .term], [.term, (.int .i64)], [(4, [(5, .box [.keep, .keep, .keep, .list .term]), (6, .box [.keep, .keep, .keep, .row .term false]), (8, .box [.keep, .keep, .keep, .list .term]), (9, .box []), (14, .list (.int .i64)), (15, .keep), (16, .keep)])], fun m x => term_Replace m x.1 x.2.1 x.2.2.1⟩
noncomputable def i90 : FI := ⟨Go.Proofs.Tryz.f90, [.val .str, .val (.int .i64)], [.term, .str, .bool], [(13, [(0, .keep), (1, .keep), (4, .box [.keep, .keep, .keep, .row .term false]), (7, .box [.keep, .keep, .keep, .row .term false])])], fun m x => ref01_read m x.1 x.2.1⟩
noncomputable def i91 : FI := ⟨Go.Proofs.Tryz.f91, [.val .term, .val .str], [.bool], [], fun m x => theory_is m x.1 x.2.1⟩
noncomputable def i92 : FI := ⟨Go.Proofs.Tryz.f92, [.val (.list .term), .val (.list .term)], [(.int .i64)], [(4, [(14, .list .term), (15, .keep), (16, .keep)])], fun m x => xor_right m x.1 x.2.1⟩
noncomputable def i93 : FI := ⟨Go.Proofs.Tryz.f93, [.val (.list .term), .val (.list .term)], [(.list .term)], [(2, [(0, .list .term), (1, .list .term), (5, .row .term false)])], fun m x => xor_plus m x.1 x.2.1⟩
noncomputable def i94 : FI := ⟨Go.Proofs.Tryz.f94, [.val .term], [(.list .term)], [(6, [(3, .list .term), (31, .list .term), (32, .keep), (33, .keep)])], fun m x => xor_summands m x.1⟩
noncomputable def i95 : FI := ⟨Go.Proofs.Tryz.f95, [.val (.list .term)], [(.list .term)], [(3, [(3, .row .term false), (9, .list .term), (10, .keep), (11, .keep)])], fun m x => xor_own m x.1⟩
noncomputable def i96 : SI := ⟨Go.Proofs.Tryz.f96, [.row (.pair .term (.int .i64)), .val .term, .val (.int .i64)], [.row (.pair .term (.int .i64)), .val .bool], [(12, [(0, .row (.pair .term (.int .i64)) false), (2, .keep), (52, .list .term), (53, .keep), (54, .keep)])], fun m x => exponent_collect m x.1 x.2.1 x.2.2.1⟩
noncomputable def i97 : FI := ⟨Go.Proofs.Tryz.f97, [.val (.list (.pair .term (.int .i64)))], [(.int .i64)], [(4, [(0, .list (.pair .term (.int .i64))), (9, .list (.pair .term (.int .i64))), (10, .keep), (11, .keep)])], fun m x => exponent_valid m x.1⟩
noncomputable def i98 : FI := ⟨Go.Proofs.Tryz.f98, [.val .term], [.term], [(3, [(1, .box [.keep, .keep, .keep, .row .term false]), (2, .box [.keep, .keep, .keep, .row .term false]), (10, .row .term false), (11, .keep), (12, .keep)])], fun m x => exponent_clone m x.1⟩
noncomputable def i99 : FI := ⟨Go.Proofs.Tryz.f99, [.val .str, .val (.list .term)], [.term], [], fun m x => exponent_app m x.1 x.2.1⟩
noncomputable def i100 : FI := ⟨Go.Proofs.Tryz.f100, [.val (.list (.list .term))], [(.list .term)], [(3, [(0, .list (.list .term)), (3, .keep), (9, .list (.list .term)), (10, .keep), (11, .keep)]), (11, [(6, .row .term false), (25, .list (.list .term)), (26, .keep), (27, .keep)])], fun m x => slices_Concat_api_Term_api_Term m x.1⟩
noncomputable def i101 : FI := ⟨Go.Proofs.Tryz.f101, [.val (.list (.pair .term (.int .i64))), .val (.list (.pair .term (.int .i64)))], [(.list (.pair .term (.int .i64))), (.int .i64)], [(9, [(8, .row (.pair .term (.int .i64)) false), (23, .list (.pair .term (.int .i64))), (24, .keep), (25, .keep)])], fun m x => exponent_Mul m x.1 x.2.1⟩
noncomputable def i102 : FI := ⟨Go.Proofs.Tryz.f102, [.val .str], [.bool], [(4, [(0, .keep), (38, .keep), (39, .keep)])], fun m x => term_isName m x.1⟩
noncomputable def i103 : FI := ⟨Go.Proofs.Tryz.f103, [.val (.list .term), .val .term], [(.int .i64)], [(4, [(0, .list .term), (3, .box [.keep, .keep, .keep, .list .term]), (5, .keep)])], fun m x => ref08_valid m x.1 x.2.1⟩
noncomputable def i104 : FI := ⟨Go.Proofs.Tryz.f104, [], [.term], [], fun m x => ref08_zero m⟩
noncomputable def i105 : FI := ⟨Go.Proofs.Tryz.f105, [.val (.list .term), .val (.list .term)], [(.list .term)], [(3, [(1, .list .term), (5, .plist .term), (6, .keep)])], fun m x => ref08_Plus m x.1 x.2.1⟩
noncomputable def i106 : FI := ⟨Go.Proofs.Tryz.f106, [.val .term], [(.list .term)], [(7, [(1, .box [.keep, .keep, .keep, .list .term]), (3, .list .term), (4, .keep)])], fun m x => ref08_Summands m x.1⟩
noncomputable def i107 : FI := ⟨Go.Proofs.Tryz.f107, [.val (.list .term)], [.term], [], fun m x => ref08_Term m x.1⟩
noncomputable def i108 : FI := ⟨Go.Proofs.Tryz.f108, [.val .term], [(.list (.pair .term (.int .i64))), (.int .i64)], [], fun m x => ref06_Of m x.1⟩
noncomputable def i109 : FI := ⟨Go.Proofs.Tryz.f109, [.val (.list (.pair .term (.int .i64)))], [.term, (.int .i64)], [], fun m x => ref06_Term m x.1⟩
noncomputable def i110 : FI := ⟨Go.Proofs.Tryz.f110, [.val (.list (.pair .term (.int .i64))), .val (.list (.pair .term (.int .i64)))], [(.list (.pair .term (.int .i64))), (.int .i64)], [(9, [(1, .list (.pair .term (.int .i64))), (8, .row (.pair .term (.int .i64)) false), (9, .keep)])], fun m x => ref06_Mul m x.1 x.2.1⟩
noncomputable def i111 : FI := ⟨Go.Proofs.Tryz.f111, [.val .term], [(.int .i64)], [], fun m x => ref01_node m x.1⟩
noncomputable def i112 : FI := ⟨Go.Proofs.Tryz.f112, [.val (.int .i64), .val (.int .i64)], [(.int .i64)], [], fun m x => term_sign m x.1 x.2.1⟩
noncomputable def i113 : FI := ⟨Go.Proofs.Tryz.f113, [.val .term], [(.int .i64)], [(3, [(3, .keep), (7, .list .term), (8, .keep), (9, .keep)])], fun m x => term_Size m x.1⟩
noncomputable def i126 : FI := ⟨Go.Proofs.Tryz.f126, [.val .str], [.str], [(2, [(0, .keep), (3, .keep)])], fun m x => ref01_name m x.1⟩
noncomputable def i127 : FI := ⟨Go.Proofs.Tryz.f127, [.val .str], [.bool], [(4, [(0, .keep), (3, .keep)])], fun m x => ref01_IsName m x.1⟩
noncomputable def i128 : FI := ⟨Go.Proofs.Tryz.f128, [.val .term, .val .str], [.term, .str, .bool], [(5, [(1, .keep), (2, .box [.keep, .keep, .keep, .list .term]), (4, .box [.keep, .keep, .keep, .row .term false]), (7, .keep), (8, .keep)])], fun m x => ref01_leaf m x.1 x.2.1⟩
noncomputable def i129 : FI := ⟨Go.Proofs.Tryz.f129, [.val .term], [.bool], [], fun m x => exponent_symbol m x.1⟩
noncomputable def i130 : SI := ⟨Go.Proofs.Tryz.f130, [.row (.pair .term (.int .i64)), .val (.pair .term (.int .i64))], [.row (.pair .term (.int .i64))], [], fun m x => exponent_insert m x.1 x.2.1⟩
noncomputable def i133 : SI := ⟨Go.Proofs.Tryz.f133, [.val (.list (.pair .term (.int .i64)))], [.row (.pair .term (.int .i64))], [(3, [(3, .row (.pair .term (.int .i64)) false), (6, .list (.pair .term (.int .i64))), (7, .keep), (8, .keep)])], fun m x => exponent_copied m x.1⟩
noncomputable def i134 : FI := ⟨Go.Proofs.Tryz.f134, [.val (.list (.pair .term (.int .i64)))], [(.list (.pair .term (.int .i64))), (.int .i64)], [], fun m x => exponent_result m x.1⟩
noncomputable def i135 : FI := ⟨Go.Proofs.Tryz.f135, [.val (.int .u8)], [.bool], [], fun m x => term_part m x.1⟩
noncomputable def i136 : FI := ⟨Go.Proofs.Tryz.f136, [.val (.list .term), .val .term], [(.list .term)], [(5, [(0, .list .term), (3, .box [.keep, .keep, .keep, .list .term]), (5, .row .term false), (6, .keep)])], fun m x => ref08_toggle m x.1 x.2.1⟩
noncomputable def i137 : FI := ⟨Go.Proofs.Tryz.f137, [.val .term], [.bool], [(7, [(1, .box [.keep, .keep, .keep, .list .term]), (3, .keep), (4, .keep)])], fun m x => ref06_arity m x.1⟩
noncomputable def i138 : SI := ⟨Go.Proofs.Tryz.f138, [.row (.pair .term (.int .i64)), .val .term, .val (.int .i64)], [.row (.pair .term (.int .i64))], [(6, [(0, .row (.pair .term (.int .i64)) false), (2, .keep), (4, .box [.keep, .keep, .keep, .list .term]), (7, .keep)])], fun m x => ref06_collect m x.1 x.2.1 x.2.2.1⟩
noncomputable def i139 : FI := ⟨Go.Proofs.Tryz.f139, [.val (.list (.pair .term (.int .i64)))], [(.int .i64)], [(4, [(0, .list (.pair .term (.int .i64))), (3, .keep)])], fun m x => ref06_Valid m x.1⟩
noncomputable def i140 : FI := ⟨Go.Proofs.Tryz.f140, [.val (.list (.pair .term (.int .i64)))], [(.list .term)], [(3, [(0, .list (.pair .term (.int .i64))), (3, .row .term false), (4, .keep)]), (6, [(0, .list (.pair .term (.int .i64))), (3, .row .term false), (4, .keep), (5, .keep)]), (10, [(0, .list (.pair .term (.int .i64))), (3, .row .term false), (6, .keep)]), (13, [(0, .list (.pair .term (.int .i64))), (3, .row .term false), (6, .keep), (7, .keep)])], fun m x => ref06_operands m x.1⟩
noncomputable def i141 : SI := ⟨Go.Proofs.Tryz.f141, [.row (.pair .term (.int .i64)), .val .term, .val (.int .i64)], [.row (.pair .term (.int .i64))], [(4, [(0, .row (.pair .term (.int .i64)) false), (2, .keep), (4, .box [.keep, .keep, .keep, .list .term]), (7, .row (.pair .term (.int .i64)) false), (8, .keep), (9, .keep)])], fun m x => ref06_add m x.1 x.2.1 x.2.2.1⟩
noncomputable def i142 : FI := ⟨Go.Proofs.Tryz.f142, [.val (.list (.pair .term (.int .i64)))], [(.int .i64)], [(2, [(0, .list (.pair .term (.int .i64))), (3, .keep)])], fun m x => ref06_inRange m x.1⟩
noncomputable def i150 : FI := ⟨Go.Proofs.Tryz.f150, [.val (.list .term), .val .term], [.bool], [(2, [(0, .list .term), (3, .box [.keep, .keep, .keep, .list .term]), (5, .keep)])], fun m x => ref01_Has m x.1 x.2.1⟩
noncomputable def i154 : FI := ⟨Go.Proofs.Tryz.f154, [.val (.int .u8)], [.bool], [], fun m x => ref01_letter m x.1⟩
noncomputable def i155 : FI := ⟨Go.Proofs.Tryz.f155, [.val (.int .u8)], [.bool], [], fun m x => ref01_digit m x.1⟩
noncomputable def i156 : FI := ⟨Go.Proofs.Tryz.f156, [.val (.int .i64)], [.str], [], fun m x => ref01_word m x.1⟩
noncomputable def i157 : FI := ⟨Go.Proofs.Tryz.f157, [.val (.list (.pair .term (.int .i64))), .val .term, .fn], [(.int .i64), .bool], [(3, [(0, .list (.pair .term (.int .i64))), (2, .keep), (4, .box [.keep, .keep, .keep, .list .term]), (8, .keep), (9, .keep), (10, .keep)])], fun m x => slices_BinarySearchFunc_api_Power_api_Power_api_Term_of_158 m x.1 x.2.1⟩
noncomputable def i158 : FI := ⟨Go.Proofs.Tryz.f158, [.val (.pair .term (.int .i64)), .val .term], [(.int .i64)], [], fun m x => exponent_insert_1 m x.1 x.2.1⟩
noncomputable def i161 : FI := ⟨Go.Proofs.Tryz.f161, [.val (.list (.pair .term (.int .i64))), .fn], [.bool], [], fun m x => slices_ContainsFunc_api_Power_api_Power_of_162 m x.1⟩
noncomputable def i162 : FI := ⟨Go.Proofs.Tryz.f162, [.val (.pair .term (.int .i64))], [.bool], [], fun m x => exponent_result_1 m x.1⟩
noncomputable def i163 : FI := ⟨Go.Proofs.Tryz.f163, [.val (.list .term), .val .term], [(.list .term)], [(4, [(0, .list .term), (3, .box [.keep, .keep, .keep, .list .term]), (5, .row .term false), (6, .keep), (7, .keep)])], fun m x => ref01_Add m x.1 x.2.1⟩
noncomputable def i164 : FI := ⟨Go.Proofs.Tryz.f164, [.val .term], [.bool], [], fun m x => ref06_special m x.1⟩
noncomputable def i172 : FI := ⟨Go.Proofs.Tryz.f172, [.val (.list (.pair .term (.int .i64))), .fn], [(.int .i64)], [(2, [(0, .list (.pair .term (.int .i64))), (1, .keep), (7, .keep), (8, .keep)])], fun m x => slices_IndexFunc_api_Power_api_Power_of_162 m x.1⟩
def elT (f : Nat) : Option Ty :=
cond (Nat.blt f 76)
 (cond (Nat.blt f 37)
 (cond (Nat.blt f 34)
 (cond (Nat.beq f 22) (some .term) (none))
 (cond (Nat.beq f 34) (some (.pair .term .term)) (none)))
 (cond (Nat.blt f 45)
 (cond (Nat.beq f 37) (some (.pair .str (.pair (.int .i64) (.pair (.int .i64) (.int .i64))))) (none))
 (cond (Nat.blt f 65)
 (cond (Nat.beq f 45) (some (.pair (.int .i64) (.list (.int .i64)))) (none))
 (cond (Nat.beq f 65) (some (.int .i64)) (none)))))
 (cond (Nat.blt f 123)
 (cond (Nat.blt f 88)
 (cond (Nat.beq f 76) (some (.pair .term (.int .i64))) (none))
 (cond (Nat.beq f 88) (some (.pair .term .term)) (none)))
 (cond (Nat.blt f 131)
 (cond (Nat.beq f 123) (some (.pair .term .term)) (none))
 (cond (Nat.blt f 151)
 (cond (Nat.beq f 131) (some (.list .term)) (none))
 (cond (Nat.beq f 151) (some .str) (none)))))
noncomputable def tb : Tb := ⟨tyT, elT, .node 77 (.node 37 (.node 18 (.node 11 (.node 7 (.node 4 (.node 3 .leaf .leaf (.pure [([], i3)])) (.node 5 .leaf .leaf (.pure [([], i5)])) (.pure [([], i4)])) (.node 9 (.node 8 .leaf .leaf (.pure [([], i8)])) (.node 10 .leaf .leaf (.pure [([], i10)])) (.pure [([], i9)])) (.pure [([], i7)])) (.node 15 (.node 13 (.node 12 .leaf .leaf (.pure [([], i12)])) (.node 14 .leaf .leaf (.pure [([], i14)])) (.pure [([], i13)])) (.node 17 (.node 16 .leaf .leaf (.pure [([], i16)])) .leaf (.pure [([], i17)])) (.pure [([], i15)])) (.pure [([], i11)])) (.node 30 (.node 25 (.node 23 (.node 19 .leaf .leaf (.pure [([], i19)])) (.node 24 .leaf .leaf (.pure [([], i24)])) (.hp ⟨[], [(.list (.pair .str (.pair (.int .i64) (.pair (.int .i64) (.int .i64)))))], fun x => theory_Symbols 0⟩)) (.node 29 (.node 26 .leaf .leaf (.pure [([], i26)])) .leaf (.pure [([], i29)])) (.pure [([], i25)])) (.node 34 (.node 32 (.node 31 .leaf .leaf (.pure [([], i31)])) (.node 33 .leaf .leaf (.pure [([], i33)])) (.pure [([], i32)])) (.node 36 (.node 35 .leaf .leaf (.pure [([], i35)])) .leaf (.pure [([], i36)])) (.pure [([], i34)])) (.pure [([], i30)])) (.pure [([], i18)])) (.node 63 (.node 45 (.node 41 (.node 39 (.node 38 .leaf .leaf (.pure [([], i38)])) (.node 40 .leaf .leaf (.pure [([], i40)])) (.pure [([], i39)])) (.node 43 (.node 42 .leaf .leaf (.pure [([], i42)])) (.node 44 .leaf .leaf (.pure [([], i44)])) (.pure [([], i43)])) (.pure [([46], i41), ([42], i41_1)])) (.node 60 (.node 50 (.node 46 .leaf .leaf (.pure [([], i46)])) (.node 52 .leaf .leaf (.pure [([], i52)])) (.pure [([], i50)])) (.node 62 (.node 61 .leaf .leaf (.pure [([], i61)])) .leaf (.pure [([], i62)])) (.pure [([], i60)])) (.pure [([], i45)])) (.node 70 (.node 67 (.node 65 (.node 64 .leaf .leaf (.pure [([], i64)])) (.node 66 .leaf .leaf (.pure [([], i66)])) (.pure [([], i65)])) (.node 69 (.node 68 .leaf .leaf (.pure [([], i68)])) .leaf (.pure [([], i69)])) (.st i67)) (.node 74 (.node 72 (.node 71 .leaf .leaf (.pure [([], i71)])) (.node 73 .leaf .leaf (.pure [([], i73)])) (.pure [([], i72)])) (.node 76 (.node 75 .leaf .leaf (.pure [([], i75)])) .leaf (.pure [([], i76)])) (.pure [([], i74)])) (.pure [([], i70)])) (.pure [([], i63)])) (.pure [([], i37)])) (.node 127 (.node 102 (.node 95 (.node 91 (.node 84 (.node 80 .leaf .leaf (.pure [([], i80)])) (.node 90 .leaf .leaf (.pure [([], i90)])) (.pure [([], i84)])) (.node 93 (.node 92 .leaf .leaf (.pure [([], i92)])) (.node 94 .leaf .leaf (.pure [([], i94)])) (.pure [([], i93)])) (.pure [([], i91)])) (.node 99 (.node 97 (.node 96 .leaf .leaf (.st i96)) (.node 98 .leaf .leaf (.pure [([], i98)])) (.pure [([], i97)])) (.node 101 (.node 100 .leaf .leaf (.pure [([], i100)])) .leaf (.pure [([], i101)])) (.pure [([], i99)])) (.pure [([], i95)])) (.node 109 (.node 106 (.node 104 (.node 103 .leaf .leaf (.pure [([], i103)])) (.node 105 .leaf .leaf (.pure [([], i105)])) (.pure [([], i104)])) (.node 108 (.node 107 .leaf .leaf (.pure [([], i107)])) .leaf (.pure [([], i108)])) (.pure [([], i106)])) (.node 113 (.node 111 (.node 110 .leaf .leaf (.pure [([], i110)])) (.node 112 .leaf .leaf (.pure [([], i112)])) (.pure [([], i111)])) (.node 126 (.node 114 .leaf .leaf (.hp ⟨[.val .str, .val .str], [(.int .i64)], fun x => strings_Compare 0 x.1 x.2.1⟩)) .leaf (.pure [([], i126)])) (.pure [([], i113)])) (.pure [([], i109)])) (.pure [([], i102)])) (.node 142 (.node 135 (.node 131 (.node 129 (.node 128 .leaf .leaf (.pure [([], i128)])) (.node 130 .leaf .leaf (.st i130)) (.pure [([], i129)])) (.node 133 (.node 132 .leaf .leaf (.hs ⟨[.nil, .val (.int .i64)], [.row .term], fun x => slices_Grow_api_Term_api_Term 0 x.1⟩)) (.node 134 .leaf .leaf (.pure [([], i134)])) (.st i133)) (.hs ⟨[.val (.list .term)], [.row .term], fun x => slices_Clone_api_Term_api_Term 0 x.1⟩)) (.node 139 (.node 137 (.node 136 .leaf .leaf (.pure [([], i136)])) (.node 138 .leaf .leaf (.st i138)) (.pure [([], i137)])) (.node 141 (.node 140 .leaf .leaf (.pure [([], i140)])) .leaf (.st i141)) (.pure [([], i139)])) (.pure [([], i135)])) (.node 159 (.node 156 (.node 154 (.node 150 .leaf .leaf (.pure [([], i150)])) (.node 155 .leaf .leaf (.pure [([], i155)])) (.pure [([], i154)])) (.node 158 (.node 157 .leaf .leaf (.pure [([158], i157)])) .leaf (.pure [([], i158)])) (.pure [([], i156)])) (.node 163 (.node 161 (.node 160 .leaf .leaf (.hs ⟨[.row (.pair .term (.int .i64)), .val (.int .i64), .val (.int .i64)], [.row (.pair .term (.int .i64))], fun x => slices_Delete_api_Power_api_Power 0 x.1 x.2.1 x.2.2.1⟩)) (.node 162 .leaf .leaf (.pure [([], i162)])) (.pure [([162], i161)])) (.node 172 (.node 164 .leaf .leaf (.pure [([], i164)])) .leaf (.pure [([162], i172)])) (.pure [([], i163)])) (.hs ⟨[.row (.pair .term (.int .i64)), .val (.int .i64), .val (.list (.pair .term (.int .i64)))], [.row (.pair .term (.int .i64))], fun x => slices_Insert_api_Power_api_Power 0 x.1 x.2.1 x.2.2.1⟩)) (.pure [([], i142)])) (.pure [([], i127)])) (.pure [([], i77)])⟩
end Go.AmYtmodnblfcikjlaaGreat
namespace Go.AmYtmodnblfcikjlaaGreat
open Go Go.GxYtmodnblfcikjlaaGreat
set_option linter.unusedVariables false
set_option maxRecDepth 100000
theorem term_part_ok (m : Nat) (a0 : Int) : term_part (m + 1) a0 = tb.runP1 m i135 [] (a0, ()) := by kernel_rfl
noncomputable def term_isName_M1 (m k : Nat) (x0 : List UInt8) (x1 : Int) (x2 : Int) := tb.PL i102 4 m k [(0, .s x0), (38, .i .i64 x1), (39, .i .i64 x2)] ⟨[], []⟩
theorem term_isName_lab (m k : Nat) : term_isName_L m k = term_isName_M1 m k := lab1 (M := fun k => term_isName_M1 m k) rfl (fun _ => by kernel_rfl) k
theorem term_isName_ok (m : Nat) (a0 : Y8) : term_isName (m + 1) a0 = tb.runP1 m i102 [] (a0, ()) := (congrArg (a₁ := term_isName_L m m) (fun L => term_isName_s0 m L a0) (term_isName_lab m m)).trans (by kernel_rfl)
noncomputable def term_check_M1 (m k : Nat) (x0 : Int) (x1 : List (T)) (x2 : Int) (x3 : Int) (x4 : Int) (x5 : Int) := tb.QL i67 17 m k [(1, .i .i64 x0), (2, .ptr 0 0), (3, .ptr 1 0), (57, .sl .term x1 1), (58, .i .i64 x2), (59, .i .i64 x3)] ⟨[[.i .i64 x4], [.i .i64 x5]], []⟩
theorem term_check_lab (m k : Nat) : term_check_L m (term_check m) k = term_check_M1 m k := lab1 (M := fun k => term_check_M1 m k) rfl (fun _ => by kernel_rfl) k
theorem term_check_ok (m : Nat) (a0 : T) (a1 : Int) (a2 : Int) (a3 : Int) : term_check (m + 1) a0 a1 a2 a3 = tb.runS1 m i67 (a0, a1, a2, a3, ()) := (congrArg (a₁ := term_check_L m (term_check m) m) (fun L => term_check_s0 m (term_check m) L a0 a1 a2 a3) (term_check_lab m m)).trans (by kernel_rfl)
theorem term_Valid_ok (m : Nat) (a0 : T) : term_Valid (m + 1) a0 = tb.runP1 m i34 [] (a0, ()) := by kernel_rfl
noncomputable def theory_symbol_M1 (m k : Nat) (x0 : List UInt8) (x1 : List (Y8 × (Int × (Int × Int)))) (x2 : Int) (x3 : Int) (x4 : List UInt8) (x5 : Int) (x6 : Int) (x7 : Int) := tb.PL i43 2 m k [(0, .s x0), (2, .ptr 0 0), (5, .sl (.pair .str (.pair (.int .i64) (.pair (.int .i64) (.int .i64)))) x1 1), (6, .i .i64 x2), (7, .i .i64 x3)] ⟨[[.s x4, .i .i64 x5, .i .i64 x6, .i .i64 x7]], []⟩
theorem theory_symbol_lab (m k : Nat) : theory_symbol_L m k = theory_symbol_M1 m k := lab1 (M := fun k => theory_symbol_M1 m k) rfl (fun _ => by kernel_rfl) k
theorem theory_symbol_ok (m : Nat) (a0 : Y8) : theory_symbol (m + 1) a0 = tb.runP1 m i43 [] (a0, ()) := (congrArg (a₁ := theory_symbol_L m m) (fun L => theory_symbol_s0 m L a0) (theory_symbol_lab m m)).trans (by kernel_rfl)
noncomputable def theory_check_M1 (m k : Nat) (x0 : List (T)) (x1 : Int) (x2 : Int) (x3 : Int) (x4 : List UInt8) (x5 : Int) (x6 : List (T)) := tb.PL i39 13 m k [(1, .ptr 0 0), (38, .sl .term x0 1), (39, .i .i64 x1), (40, .i .i64 x2)] ⟨[[.i .i64 x3, .s x4, .i .i64 x5, .sl .term x6 1]], []⟩
noncomputable def theory_check_M2 (m k : Nat) (x0 : List (T)) (x1 : Int) (x2 : Int) := tb.PL i39 22 m k [(62, .sl .term x0 1), (63, .i .i64 x1), (64, .i .i64 x2)] ⟨[], []⟩
theorem theory_check_lab (m k : Nat) : theory_check_L m (theory_check m) k = (theory_check_M1 m k, theory_check_M2 m k) := lab1 (M := fun k => (theory_check_M1 m k, theory_check_M2 m k)) rfl (fun _ => by kernel_rfl) k
theorem theory_check_ok (m : Nat) (a0 : T) : theory_check (m + 1) a0 = tb.runP1 m i39 [] (a0, ()) := (congrArg (a₁ := theory_check_L m (theory_check m) m) (fun L => theory_check_s0 m (theory_check m) L.1 L.2 a0) (theory_check_lab m m)).trans (by kernel_rfl)
theorem theory_Valid_ok (m : Nat) (a0 : T) : theory_Valid (m + 1) a0 = tb.runP1 m i14 [] (a0, ()) := by kernel_rfl
theorem term_sign_ok (m : Nat) (a0 : Int) (a1 : Int) : term_sign (m + 1) a0 a1 = tb.runP1 m i112 [] (a0, a1, ()) := by kernel_rfl
noncomputable def term_Size_M1 (m k : Nat) (x0 : Int) (x1 : List (T)) (x2 : Int) (x3 : Int) := tb.PL i113 3 m k [(3, .i .i64 x0), (7, .sl .term x1 1), (8, .i .i64 x2), (9, .i .i64 x3)] ⟨[], []⟩
theorem term_Size_lab (m k : Nat) : term_Size_L m (term_Size m) k = term_Size_M1 m k := lab1 (M := fun k => term_Size_M1 m k) rfl (fun _ => by kernel_rfl) k
theorem term_Size_ok (m : Nat) (a0 : T) : term_Size (m + 1) a0 = tb.runP1 m i113 [] (a0, ()) := (congrArg (a₁ := term_Size_L m (term_Size m) m) (fun L => term_Size_s0 m (term_Size m) L a0) (term_Size_lab m m)).trans (by kernel_rfl)
noncomputable def term_Compare_M1 (m k : Nat) (x0 : Int) (x1 : Int) (x2 : Int) (x3 : List UInt8) (x4 : Int) (x5 : List (T)) (x6 : Int) (x7 : List UInt8) (x8 : Int) (x9 : List (T)) := tb.PL i75 11 m k [(2, .ptr 0 0), (3, .ptr 1 0), (5, .i .i64 x0), (6, .i .i64 x1)] ⟨[[.i .i64 x2, .s x3, .i .i64 x4, .sl .term x5 1], [.i .i64 x6, .s x7, .i .i64 x8, .sl .term x9 1]], []⟩
theorem term_Compare_lab (m k : Nat) : term_Compare_L m (term_Compare m) k = term_Compare_M1 m k := lab1 (M := fun k => term_Compare_M1 m k) rfl (fun _ => by kernel_rfl) k
theorem term_Compare_ok (m : Nat) (a0 : T) (a1 : T) : term_Compare (m + 1) a0 a1 = tb.runP1 m i75 [] (a0, a1, ()) := (congrArg (a₁ := term_Compare_L m (term_Compare m) m) (fun L => term_Compare_s0 m (term_Compare m) L a0 a1) (term_Compare_lab m m)).trans (by kernel_rfl)
theorem theory_same_ok (m : Nat) (a0 : T) (a1 : T) : theory_same (m + 1) a0 a1 = tb.runP1 m i38 [] (a0, a1, ()) := by kernel_rfl
theorem theory_is_ok (m : Nat) (a0 : T) (a1 : Y8) : theory_is (m + 1) a0 a1 = tb.runP1 m i91 [] (a0, a1, ()) := by kernel_rfl
theorem theory_destroy_ok (m : Nat) (a0 : T) : theory_destroy (m + 1) a0 = tb.runP1 m i62 [] (a0, ()) := by kernel_rfl
noncomputable def slices_Concat_api_Term_api_Term_M1 (m k : Nat) (x0 : List (TL)) (x1 : Int) (x2 : List (TL)) (x3 : Int) (x4 : Int) := tb.PL i100 3 m k [(0, .sl (.list .term) x0 1), (3, .i .i64 x1), (9, .sl (.list .term) x2 1), (10, .i .i64 x3), (11, .i .i64 x4)] ⟨[], []⟩
noncomputable def slices_Concat_api_Term_api_Term_M2 (m k : Nat) (x0 : List (TL)) (x1 : Int) (x2 : Int) (x3 : List (T)) := tb.PL i100 11 m k [(6, .row 0 0), (25, .sl (.list .term) x0 1), (26, .i .i64 x1), (27, .i .i64 x2)] ⟨[], [⟨.term, x3, 0, 0, false⟩]⟩
theorem slices_Concat_api_Term_api_Term_lab (m k : Nat) : slices_Concat_api_Term_api_Term_L m k = (slices_Concat_api_Term_api_Term_M1 m k, slices_Concat_api_Term_api_Term_M2 m k) := lab1 (M := fun k => (slices_Concat_api_Term_api_Term_M1 m k, slices_Concat_api_Term_api_Term_M2 m k)) rfl (fun _ => by kernel_rfl) k
theorem slices_Concat_api_Term_api_Term_ok (m : Nat) (a0 : List TL) : slices_Concat_api_Term_api_Term (m + 1) a0 = tb.runP1 m i100 [] (a0, ()) := (congrArg (a₁ := slices_Concat_api_Term_api_Term_L m m) (fun L => slices_Concat_api_Term_api_Term_s0 m L.1 L.2 a0) (slices_Concat_api_Term_api_Term_lab m m)).trans (by kernel_rfl)
noncomputable def xor_right_M1 (m k : Nat) (x0 : List (T)) (x1 : Int) (x2 : Int) := tb.PL i92 4 m k [(14, .sl .term x0 1), (15, .i .i64 x1), (16, .i .i64 x2)] ⟨[], []⟩
theorem xor_right_lab (m k : Nat) : xor_right_L m k = xor_right_M1 m k := lab1 (M := fun k => xor_right_M1 m k) rfl (fun _ => by kernel_rfl) k
theorem xor_right_ok (m : Nat) (a0 : TL) (a1 : TL) : xor_right (m + 1) a0 a1 = tb.runP1 m i92 [] (a0, a1, ()) := (congrArg (a₁ := xor_right_L m m) (fun L => xor_right_s0 m L a0 a1) (xor_right_lab m m)).trans (by kernel_rfl)
noncomputable def xor_plus_M1 (m k : Nat) (x0 : List (T)) (x1 : List (T)) (x2 : List (T)) := tb.PL i93 2 m k [(0, .sl .term x0 1), (1, .sl .term x1 1), (5, .row 0 0)] ⟨[], [⟨.term, x2, 0, 0, false⟩]⟩
theorem xor_plus_lab (m k : Nat) : xor_plus_L m k = xor_plus_M1 m k := lab1 (M := fun k => xor_plus_M1 m k) rfl (fun _ => by kernel_rfl) k
theorem xor_plus_ok (m : Nat) (a0 : TL) (a1 : TL) : xor_plus (m + 1) a0 a1 = tb.runP1 m i93 [] (a0, a1, ()) := (congrArg (a₁ := xor_plus_L m m) (fun L => xor_plus_s0 m L a0 a1) (xor_plus_lab m m)).trans (by kernel_rfl)
noncomputable def xor_summands_M1 (m k : Nat) (x0 : List (T)) (x1 : List (T)) (x2 : Int) (x3 : Int) := tb.PL i94 6 m k [(3, .sl .term x0 1), (31, .sl .term x1 1), (32, .i .i64 x2), (33, .i .i64 x3)] ⟨[], []⟩
theorem xor_summands_lab (m k : Nat) : xor_summands_L m (xor_summands m) k = xor_summands_M1 m k := lab1 (M := fun k => xor_summands_M1 m k) rfl (fun _ => by kernel_rfl) k
theorem xor_summands_ok (m : Nat) (a0 : T) : xor_summands (m + 1) a0 = tb.runP1 m i94 [] (a0, ()) := (congrArg (a₁ := xor_summands_L m (xor_summands m) m) (fun L => xor_summands_s0 m (xor_summands m) L a0) (xor_summands_lab m m)).trans (by kernel_rfl)
noncomputable def term_clone_M1 (m k : Nat) (x0 : List (T)) (x1 : Int) (x2 : Int) (x3 : Int) (x4 : List UInt8) (x5 : Int) (x6 : Int) (x7 : List UInt8) (x8 : Int) (x9 : List (T)) (x10 : List (T)) := tb.PL i80 4 m k [(1, .ptr 0 0), (2, .ptr 1 0), (9, .sl .term x0 1), (10, .i .i64 x1), (11, .i .i64 x2)] ⟨[[.i .i64 x3, .s x4, .i .i64 x5, .row 0 0], [.i .i64 x6, .s x7, .i .i64 x8, .row 1 0]], [⟨.term, x9, 0, 0, false⟩, ⟨.term, x10, 0, 0, false⟩]⟩
theorem term_clone_lab (m k : Nat) : term_clone_L m (term_clone m) k = term_clone_M1 m k := lab1 (M := fun k => term_clone_M1 m k) rfl (fun _ => by kernel_rfl) k
theorem term_clone_ok (m : Nat) (a0 : T) : term_clone (m + 1) a0 = tb.runP1 m i80 [] (a0, ()) := (congrArg (a₁ := term_clone_L m (term_clone m) m) (fun L => term_clone_s0 m (term_clone m) L a0) (term_clone_lab m m)).trans (by kernel_rfl)
noncomputable def term_Replace_M1 (m k : Nat) (x0 : List (Int)) (x1 : Int) (x2 : Int) (x3 : Int) (x4 : List UInt8) (x5 : Int) (x6 : List (T)) (x7 : Int) (x8 : List UInt8) (x9 : Int) (x10 : Int) (x11 : List UInt8) (x12 : Int) (x13 : List (T)) (x14 : List (T)) := tb.PL i84 4 m k [(5, .ptr 0 0), (6, .ptr 1 0), (8, .ptr 2 0), (9, .ptr 2 0), (14, .sl (.int .i64) x0 1), (15, .i .i64 x1), (16, .i .i64 x2)] ⟨[[.i .i64 x3, .s x4, .i .i64 x5, .sl .term x6 1], [.i .i64 x7, .s x8, .i .i64 x9, .row 0 0], [.i .i64 x10, .s x11, .i .i64 x12, .sl .term x13 1]], [⟨.term, x14, 0, 0, false⟩]⟩
theorem term_Replace_lab (m k : Nat) : term_Replace_L m k = term_Replace_M1 m k := lab1 (M := fun k => term_Replace_M1 m k) rfl (fun _ => by kernel_rfl) k
theorem term_Replace_ok (m : Nat) (a0 : T) (a1 : List Int) (a2 : T) : term_Replace (m + 1) a0 a1 a2 = tb.runP1 m i84 [] (a0, a1, a2, ()) := (congrArg (a₁ := term_Replace_L m m) (fun L => term_Replace_s0 m L a0 a1 a2) (term_Replace_lab m m)).trans (by kernel_rfl)
noncomputable def xor_own_M1 (m k : Nat) (x0 : List (T)) (x1 : Int) (x2 : Int) (x3 : List (T)) := tb.PL i95 3 m k [(3, .row 0 0), (9, .sl .term x0 1), (10, .i .i64 x1), (11, .i .i64 x2)] ⟨[], [⟨.term, x3, 0, 0, false⟩]⟩
theorem xor_own_lab (m k : Nat) : xor_own_L m (xor_own m) k = xor_own_M1 m k := lab1 (M := fun k => xor_own_M1 m k) rfl (fun _ => by kernel_rfl) k
theorem xor_own_ok (m : Nat) (a0 : TL) : xor_own (m + 1) a0 = tb.runP1 m i95 [] (a0, ()) := (congrArg (a₁ := xor_own_L m (xor_own m) m) (fun L => xor_own_s0 m (xor_own m) L a0) (xor_own_lab m m)).trans (by kernel_rfl)
noncomputable def xor_Sum_M1 (m k : Nat) (x0 : List (T)) (x1 : List (T)) (x2 : Int) (x3 : Int) (x4 : Int) (x5 : List UInt8) (x6 : Int) (x7 : List (T)) := tb.PL i63 6 m k [(2, .ptr 0 0), (5, .sl .term x0 1), (15, .sl .term x1 1), (16, .i .i64 x2), (17, .i .i64 x3)] ⟨[[.i .i64 x4, .s x5, .i .i64 x6, .row 0 0]], [⟨.term, x7, 0, 0, true⟩]⟩
theorem xor_Sum_lab (m k : Nat) : xor_Sum_L m k = xor_Sum_M1 m k := lab1 (M := fun k => xor_Sum_M1 m k) rfl (fun _ => by kernel_rfl) k
theorem xor_Sum_ok (m : Nat) (a0 : TL) : xor_Sum (m + 1) a0 = tb.runP1 m i63 [] (a0, ()) := (congrArg (a₁ := xor_Sum_L m m) (fun L => xor_Sum_s0 m L a0) (xor_Sum_lab m m)).trans (by kernel_rfl)
theorem exponent_symbol_ok (m : Nat) (a0 : T) : exponent_symbol (m + 1) a0 = tb.runP1 m i129 [] (a0, ()) := by kernel_rfl
noncomputable def exponent_clone_M1 (m k : Nat) (x0 : Int) (x1 : Int) (x2 : Int) (x3 : List UInt8) (x4 : Int) (x5 : Int) (x6 : List UInt8) (x7 : Int) (x8 : List (T)) (x9 : List (T)) := tb.PL i98 3 m k [(1, .ptr 0 0), (2, .ptr 1 0), (10, .row 0 0), (11, .i .i64 x0), (12, .i .i64 x1)] ⟨[[.i .i64 x2, .s x3, .i .i64 x4, .row 0 0], [.i .i64 x5, .s x6, .i .i64 x7, .row 1 0]], [⟨.term, x8, 0, 0, false⟩, ⟨.term, x9, 0, 0, false⟩]⟩
theorem exponent_clone_lab (m k : Nat) : exponent_clone_L m (exponent_clone m) k = exponent_clone_M1 m k := lab1 (M := fun k => exponent_clone_M1 m k) rfl (fun _ => by kernel_rfl) k
theorem exponent_clone_ok (m : Nat) (a0 : T) : exponent_clone (m + 1) a0 = tb.runP1 m i98 [] (a0, ()) := (congrArg (a₁ := exponent_clone_L m (exponent_clone m) m) (fun L => exponent_clone_s0 m (exponent_clone m) L a0) (exponent_clone_lab m m)).trans (by kernel_rfl)
theorem exponent_insert_1_ok (m : Nat) (a0 : T × Int) (a1 : T) : exponent_insert_1 (m + 1) a0 a1 = tb.runP1 m i158 [] (a0, a1, ()) := by kernel_rfl
noncomputable def slices_BinarySearchFunc_api_Power_api_Power_api_Term_of_158_M1 (m k : Nat) (x0 : List (T × Int)) (x1 : Int) (x2 : Int) (x3 : Int) (x4 : Int) (x5 : List UInt8) (x6 : Int) (x7 : List (T)) := tb.PL i157 3 m k [(0, .sl (.pair .term (.int .i64)) x0 1), (2, .fn 158 []), (4, .ptr 0 0), (8, .i .i64 x1), (9, .i .i64 x2), (10, .i .i64 x3)] ⟨[[.i .i64 x4, .s x5, .i .i64 x6, .sl .term x7 1]], []⟩
theorem slices_BinarySearchFunc_api_Power_api_Power_api_Term_of_158_lab (m k : Nat) : slices_BinarySearchFunc_api_Power_api_Power_api_Term_of_158_L m k = slices_BinarySearchFunc_api_Power_api_Power_api_Term_of_158_M1 m k := lab1 (M := fun k => slices_BinarySearchFunc_api_Power_api_Power_api_Term_of_158_M1 m k) rfl (fun _ => by kernel_rfl) k
theorem slices_BinarySearchFunc_api_Power_api_Power_api_Term_of_158_ok (m : Nat) (a0 : List (T × Int)) (a1 : T) : slices_BinarySearchFunc_api_Power_api_Power_api_Term_of_158 (m + 1) a0 a1 = tb.runP1 m i157 [158] (a0, a1, ()) := (congrArg (a₁ := slices_BinarySearchFunc_api_Power_api_Power_api_Term_of_158_L m m) (fun L => slices_BinarySearchFunc_api_Power_api_Power_api_Term_of_158_s0 m L a0 a1) (slices_BinarySearchFunc_api_Power_api_Power_api_Term_of_158_lab m m)).trans (by kernel_rfl)
theorem exponent_insert_ok (m : Nat) (a0 : List (T × Int)) (a1 : T × Int) : exponent_insert (m + 1) a0 a1 = tb.runS1 m i130 (a0, a1, ()) := by kernel_rfl
noncomputable def exponent_collect_M1 (m k : Nat) (x0 : Int) (x1 : List (T)) (x2 : Int) (x3 : Int) (x4 : List (T × Int)) := tb.QL i96 12 m k [(0, .row 0 0), (2, .i .i64 x0), (52, .sl .term x1 1), (53, .i .i64 x2), (54, .i .i64 x3)] ⟨[], [⟨(.pair .term (.int .i64)), x4, 0, 0, false⟩]⟩
theorem exponent_collect_lab (m k : Nat) : exponent_collect_L m (exponent_collect m) k = exponent_collect_M1 m k := lab1 (M := fun k => exponent_collect_M1 m k) rfl (fun _ => by kernel_rfl) k
theorem exponent_collect_ok (m : Nat) (a0 : List (T × Int)) (a1 : T) (a2 : Int) : exponent_collect (m + 1) a0 a1 a2 = tb.runS1 m i96 (a0, a1, a2, ()) := (congrArg (a₁ := exponent_collect_L m (exponent_collect m) m) (fun L => exponent_collect_s0 m (exponent_collect m) L a0 a1 a2) (exponent_collect_lab m m)).trans (by kernel_rfl)
theorem exponent_Of_ok (m : Nat) (a0 : T) : exponent_Of (m + 1) a0 = tb.runP1 m i64 [] (a0, ()) := by kernel_rfl
noncomputable def exponent_valid_M1 (m k : Nat) (x0 : List (T × Int)) (x1 : List (T × Int)) (x2 : Int) (x3 : Int) := tb.PL i97 4 m k [(0, .sl (.pair .term (.int .i64)) x0 1), (9, .sl (.pair .term (.int .i64)) x1 1), (10, .i .i64 x2), (11, .i .i64 x3)] ⟨[], []⟩
theorem exponent_valid_lab (m k : Nat) : exponent_valid_L m k = exponent_valid_M1 m k := lab1 (M := fun k => exponent_valid_M1 m k) rfl (fun _ => by kernel_rfl) k
theorem exponent_valid_ok (m : Nat) (a0 : List (T × Int)) : exponent_valid (m + 1) a0 = tb.runP1 m i97 [] (a0, ()) := (congrArg (a₁ := exponent_valid_L m m) (fun L => exponent_valid_s0 m L a0) (exponent_valid_lab m m)).trans (by kernel_rfl)
theorem exponent_app_ok (m : Nat) (a0 : Y8) (a1 : TL) : exponent_app (m + 1) a0 a1 = tb.runP1 m i99 [] (a0, a1, ()) := by kernel_rfl
noncomputable def exponent_Term_M1 (m k : Nat) (x0 : List (T × Int)) (x1 : Int) (x2 : Int) (x3 : Int) (x4 : List UInt8) (x5 : Int) (x6 : List (T)) (x7 : List (T)) (x8 : List (T)) := tb.PL i65 6 m k [(2, .ptr 0 0), (5, .row 1 0), (6, .row 2 0), (18, .sl (.pair .term (.int .i64)) x0 1), (19, .i .i64 x1), (20, .i .i64 x2)] ⟨[[.i .i64 x3, .s x4, .i .i64 x5, .row 0 0]], [⟨.term, x6, 0, 0, false⟩, ⟨.term, x7, 0, 0, false⟩, ⟨.term, x8, 0, 0, false⟩]⟩
noncomputable def exponent_Term_M2 (m k : Nat) (x0 : List (T × Int)) (x1 : Int) (x2 : Int) (x3 : Int) (x4 : Int) (x5 : Int) (x6 : List UInt8) (x7 : Int) (x8 : Int) (x9 : List UInt8) (x10 : Int) (x11 : List (T)) (x12 : Int) (x13 : List (T)) (x14 : List (T)) (x15 : List (T)) := tb.PL i65 11 m k [(2, .ptr 0 0), (5, .row 1 0), (6, .row 2 0), (8, .ptr 1 0), (18, .sl (.pair .term (.int .i64)) x0 1), (19, .i .i64 x1), (20, .i .i64 x2), (34, .i .i64 x3), (35, .i .i64 x4)] ⟨[[.i .i64 x5, .s x6, .i .i64 x7, .row 0 0], [.i .i64 x8, .s x9, .i .i64 x10, .sl .term x11 1, .i .i64 x12]], [⟨.term, x13, 0, 0, false⟩, ⟨.term, x14, 0, 0, false⟩, ⟨.term, x15, 0, 0, false⟩]⟩
noncomputable def exponent_Term_M3 (m k : Nat) (x0 : List (T × Int)) (x1 : Int) (x2 : Int) (x3 : Int) (x4 : Int) (x5 : Int) (x6 : List UInt8) (x7 : Int) (x8 : Int) (x9 : List UInt8) (x10 : Int) (x11 : List (T)) (x12 : Int) (x13 : List (T)) (x14 : List (T)) (x15 : List (T)) := tb.PL i65 15 m k [(2, .ptr 0 0), (5, .row 1 0), (6, .row 2 0), (8, .ptr 1 0), (18, .sl (.pair .term (.int .i64)) x0 1), (19, .i .i64 x1), (20, .i .i64 x2), (46, .i .i64 x3), (47, .i .i64 x4)] ⟨[[.i .i64 x5, .s x6, .i .i64 x7, .row 0 0], [.i .i64 x8, .s x9, .i .i64 x10, .sl .term x11 1, .i .i64 x12]], [⟨.term, x13, 0, 0, false⟩, ⟨.term, x14, 0, 0, false⟩, ⟨.term, x15, 0, 0, false⟩]⟩
theorem exponent_Term_lab (m k : Nat) : exponent_Term_L m k = (exponent_Term_M1 m k, exponent_Term_M2 m k, exponent_Term_M3 m k) := lab1 (M := fun k => (exponent_Term_M1 m k, exponent_Term_M2 m k, exponent_Term_M3 m k)) rfl (fun _ => by kernel_rfl) k
theorem exponent_Term_ok (m : Nat) (a0 : List (T × Int)) : exponent_Term (m + 1) a0 = tb.runP1 m i65 [] (a0, ()) := (congrArg (a₁ := exponent_Term_L m m) (fun L => exponent_Term_s0 m L.1 L.2.1 L.2.2 a0) (exponent_Term_lab m m)).trans (by kernel_rfl)
theorem theory_app_ok (m : Nat) (a0 : Y8) (a1 : TL) : theory_app (m + 1) a0 a1 = tb.runP1 m i50 [] (a0, a1, ()) := by kernel_rfl
noncomputable def exponent_copied_M1 (m k : Nat) (x0 : List (T × Int)) (x1 : Int) (x2 : Int) (x3 : List (T × Int)) := tb.QL i133 3 m k [(3, .row 0 0), (6, .sl (.pair .term (.int .i64)) x0 1), (7, .i .i64 x1), (8, .i .i64 x2)] ⟨[], [⟨(.pair .term (.int .i64)), x3, 0, 0, false⟩]⟩
theorem exponent_copied_lab (m k : Nat) : exponent_copied_L m k = exponent_copied_M1 m k := lab1 (M := fun k => exponent_copied_M1 m k) rfl (fun _ => by kernel_rfl) k
theorem exponent_copied_ok (m : Nat) (a0 : List (T × Int)) : exponent_copied (m + 1) a0 = tb.runS1 m i133 (a0, ()) := (congrArg (a₁ := exponent_copied_L m m) (fun L => exponent_copied_s0 m L a0) (exponent_copied_lab m m)).trans (by kernel_rfl)
theorem exponent_result_1_ok (m : Nat) (a0 : T × Int) : exponent_result_1 (m + 1) a0 = tb.runP1 m i162 [] (a0, ()) := by kernel_rfl
noncomputable def slices_IndexFunc_api_Power_api_Power_of_162_M1 (m k : Nat) (x0 : List (T × Int)) (x1 : Int) (x2 : Int) := tb.PL i172 2 m k [(0, .sl (.pair .term (.int .i64)) x0 1), (1, .fn 162 []), (7, .i .i64 x1), (8, .i .i64 x2)] ⟨[], []⟩
theorem slices_IndexFunc_api_Power_api_Power_of_162_lab (m k : Nat) : slices_IndexFunc_api_Power_api_Power_of_162_L m k = slices_IndexFunc_api_Power_api_Power_of_162_M1 m k := lab1 (M := fun k => slices_IndexFunc_api_Power_api_Power_of_162_M1 m k) rfl (fun _ => by kernel_rfl) k
theorem slices_IndexFunc_api_Power_api_Power_of_162_ok (m : Nat) (a0 : List (T × Int)) : slices_IndexFunc_api_Power_api_Power_of_162 (m + 1) a0 = tb.runP1 m i172 [162] (a0, ()) := (congrArg (a₁ := slices_IndexFunc_api_Power_api_Power_of_162_L m m) (fun L => slices_IndexFunc_api_Power_api_Power_of_162_s0 m L a0) (slices_IndexFunc_api_Power_api_Power_of_162_lab m m)).trans (by kernel_rfl)
theorem slices_ContainsFunc_api_Power_api_Power_of_162_ok (m : Nat) (a0 : List (T × Int)) : slices_ContainsFunc_api_Power_api_Power_of_162 (m + 1) a0 = tb.runP1 m i161 [162] (a0, ()) := by kernel_rfl
theorem exponent_result_ok (m : Nat) (a0 : List (T × Int)) : exponent_result (m + 1) a0 = tb.runP1 m i134 [] (a0, ()) := by kernel_rfl
noncomputable def exponent_Mul_M1 (m k : Nat) (x0 : List (T × Int)) (x1 : Int) (x2 : Int) (x3 : List (T × Int)) := tb.PL i101 9 m k [(8, .row 0 0), (23, .sl (.pair .term (.int .i64)) x0 1), (24, .i .i64 x1), (25, .i .i64 x2)] ⟨[], [⟨(.pair .term (.int .i64)), x3, 0, 0, false⟩]⟩
theorem exponent_Mul_lab (m k : Nat) : exponent_Mul_L m k = exponent_Mul_M1 m k := lab1 (M := fun k => exponent_Mul_M1 m k) rfl (fun _ => by kernel_rfl) k
theorem exponent_Mul_ok (m : Nat) (a0 : List (T × Int)) (a1 : List (T × Int)) : exponent_Mul (m + 1) a0 a1 = tb.runP1 m i101 [] (a0, a1, ()) := (congrArg (a₁ := exponent_Mul_L m m) (fun L => exponent_Mul_s0 m L a0 a1) (exponent_Mul_lab m m)).trans (by kernel_rfl)
theorem theory_raise_ok (m : Nat) (a0 : T) (a1 : T) : theory_raise (m + 1) a0 a1 = tb.runP1 m i66 [] (a0, a1, ()) := by kernel_rfl
noncomputable def theory_normal_M1 (m k : Nat) (x0 : List (T)) (x1 : Int) (x2 : Int) (x3 : Int) (x4 : List UInt8) (x5 : Int) (x6 : List (T)) (x7 : Int) (x8 : List UInt8) (x9 : Int) (x10 : Int) (x11 : List UInt8) (x12 : Int) (x13 : List (T)) (x14 : List (T)) := tb.PL i33 5 m k [(1, .ptr 0 0), (2, .ptr 1 0), (4, .ptr 2 0), (19, .sl .term x0 1), (20, .i .i64 x1), (21, .i .i64 x2)] ⟨[[.i .i64 x3, .s x4, .i .i64 x5, .sl .term x6 1], [.i .i64 x7, .s x8, .i .i64 x9, .row 0 0], [.i .i64 x10, .s x11, .i .i64 x12, .row 1 0]], [⟨.term, x13, 0, 0, false⟩, ⟨.term, x14, 0, 0, false⟩]⟩
theorem theory_normal_lab (m k : Nat) : theory_normal_L m (theory_normal m) k = theory_normal_M1 m k := lab1 (M := fun k => theory_normal_M1 m k) rfl (fun _ => by kernel_rfl) k
theorem theory_normal_ok (m : Nat) (a0 : T) : theory_normal (m + 1) a0 = tb.runP1 m i33 [] (a0, ()) := (congrArg (a₁ := theory_normal_L m (theory_normal m) m) (fun L => theory_normal_s0 m (theory_normal m) L a0) (theory_normal_lab m m)).trans (by kernel_rfl)
theorem theory_Normal_ok (m : Nat) (a0 : T) : theory_Normal (m + 1) a0 = tb.runP1 m i9 [] (a0, ()) := by kernel_rfl
theorem theory_Plain_1_ok (m : Nat) (a0 : Y8) : theory_Plain_1 (m + 1) a0 = tb.runP1 m i46 [] (a0, ()) := by kernel_rfl
noncomputable def theory_every_of_46_M1 (m k : Nat) (x0 : List (T)) (x1 : Int) (x2 : Int) := tb.PL i41 4 m k [(1, .fn 46 []), (18, .sl .term x0 1), (19, .i .i64 x1), (20, .i .i64 x2)] ⟨[], []⟩
theorem theory_every_of_46_lab (m k : Nat) : theory_every_of_46_L m (theory_every_of_46 m) k = theory_every_of_46_M1 m k := lab1 (M := fun k => theory_every_of_46_M1 m k) rfl (fun _ => by kernel_rfl) k
theorem theory_every_of_46_ok (m : Nat) (a0 : T) : theory_every_of_46 (m + 1) a0 = tb.runP1 m i41 [46] (a0, ()) := (congrArg (a₁ := theory_every_of_46_L m (theory_every_of_46 m) m) (fun L => theory_every_of_46_s0 m (theory_every_of_46 m) L a0) (theory_every_of_46_lab m m)).trans (by kernel_rfl)
theorem theory_Plain_ok (m : Nat) (a0 : T) : theory_Plain (m + 1) a0 = tb.runP1 m i18 [] (a0, ()) := by kernel_rfl
noncomputable def ref01_Size_M1 (m k : Nat) (x0 : Int) (x1 : Int) (x2 : Int) (x3 : List UInt8) (x4 : Int) (x5 : List (T)) := tb.PL i73 3 m k [(1, .ptr 0 0), (3, .i .i64 x0), (4, .i .i64 x1)] ⟨[[.i .i64 x2, .s x3, .i .i64 x4, .sl .term x5 1]], []⟩
theorem ref01_Size_lab (m k : Nat) : ref01_Size_L m (ref01_Size m) k = ref01_Size_M1 m k := lab1 (M := fun k => ref01_Size_M1 m k) rfl (fun _ => by kernel_rfl) k
theorem ref01_Size_ok (m : Nat) (a0 : T) : ref01_Size (m + 1) a0 = tb.runP1 m i73 [] (a0, ()) := (congrArg (a₁ := ref01_Size_L m (ref01_Size m) m) (fun L => ref01_Size_s0 m (ref01_Size m) L a0) (ref01_Size_lab m m)).trans (by kernel_rfl)
theorem ref01_number_ok (m : Nat) (a0 : Int) (a1 : Int) : ref01_number (m + 1) a0 a1 = tb.runP1 m i74 [] (a0, a1, ()) := by kernel_rfl
noncomputable def ref01_Compare_M1 (m k : Nat) (x0 : Int) (x1 : Int) (x2 : List UInt8) (x3 : Int) (x4 : List (T)) (x5 : Int) (x6 : List UInt8) (x7 : Int) (x8 : List (T)) := tb.PL i37 18 m k [(2, .ptr 0 0), (3, .ptr 1 0), (9, .i .i64 x0)] ⟨[[.i .i64 x1, .s x2, .i .i64 x3, .sl .term x4 1], [.i .i64 x5, .s x6, .i .i64 x7, .sl .term x8 1]], []⟩
theorem ref01_Compare_lab (m k : Nat) : ref01_Compare_L m (ref01_Compare m) k = ref01_Compare_M1 m k := lab1 (M := fun k => ref01_Compare_M1 m k) rfl (fun _ => by kernel_rfl) k
theorem ref01_Compare_ok (m : Nat) (a0 : T) (a1 : T) : ref01_Compare (m + 1) a0 a1 = tb.runP1 m i37 [] (a0, a1, ()) := (congrArg (a₁ := ref01_Compare_L m (ref01_Compare m) m) (fun L => ref01_Compare_s0 m (ref01_Compare m) L a0 a1) (ref01_Compare_lab m m)).trans (by kernel_rfl)
theorem ref01_Same_ok (m : Nat) (a0 : T) (a1 : T) : ref01_Same (m + 1) a0 a1 = tb.runP1 m i11 [] (a0, a1, ()) := by kernel_rfl
noncomputable def ref01_Depth_M1 (m k : Nat) (x0 : Int) (x1 : Int) (x2 : Int) (x3 : List UInt8) (x4 : Int) (x5 : List (T)) := tb.PL i32 3 m k [(1, .ptr 0 0), (3, .i .i64 x0), (4, .i .i64 x1)] ⟨[[.i .i64 x2, .s x3, .i .i64 x4, .sl .term x5 1]], []⟩
theorem ref01_Depth_lab (m k : Nat) : ref01_Depth_L m (ref01_Depth m) k = ref01_Depth_M1 m k := lab1 (M := fun k => ref01_Depth_M1 m k) rfl (fun _ => by kernel_rfl) k
theorem ref01_Depth_ok (m : Nat) (a0 : T) : ref01_Depth (m + 1) a0 = tb.runP1 m i32 [] (a0, ()) := (congrArg (a₁ := ref01_Depth_L m (ref01_Depth m) m) (fun L => ref01_Depth_s0 m (ref01_Depth m) L a0) (ref01_Depth_lab m m)).trans (by kernel_rfl)
theorem ref01_letter_ok (m : Nat) (a0 : Int) : ref01_letter (m + 1) a0 = tb.runP1 m i154 [] (a0, ()) := by kernel_rfl
theorem ref01_digit_ok (m : Nat) (a0 : Int) : ref01_digit (m + 1) a0 = tb.runP1 m i155 [] (a0, ()) := by kernel_rfl
noncomputable def ref01_IsName_M1 (m k : Nat) (x0 : List UInt8) (x1 : Int) := tb.PL i127 4 m k [(0, .s x0), (3, .i .i64 x1)] ⟨[], []⟩
theorem ref01_IsName_lab (m k : Nat) : ref01_IsName_L m k = ref01_IsName_M1 m k := lab1 (M := fun k => ref01_IsName_M1 m k) rfl (fun _ => by kernel_rfl) k
theorem ref01_IsName_ok (m : Nat) (a0 : Y8) : ref01_IsName (m + 1) a0 = tb.runP1 m i127 [] (a0, ()) := (congrArg (a₁ := ref01_IsName_L m m) (fun L => ref01_IsName_s0 m L a0) (ref01_IsName_lab m m)).trans (by kernel_rfl)
theorem ref01_node_ok (m : Nat) (a0 : T) : ref01_node (m + 1) a0 = tb.runP1 m i111 [] (a0, ()) := by kernel_rfl
noncomputable def ref01_nodes_M1 (m k : Nat) (x0 : Int) (x1 : Int) (x2 : List UInt8) (x3 : Int) (x4 : List (T)) := tb.PL i72 5 m k [(1, .ptr 0 0), (4, .i .i64 x0)] ⟨[[.i .i64 x1, .s x2, .i .i64 x3, .sl .term x4 1]], []⟩
theorem ref01_nodes_lab (m k : Nat) : ref01_nodes_L m (ref01_nodes m) k = ref01_nodes_M1 m k := lab1 (M := fun k => ref01_nodes_M1 m k) rfl (fun _ => by kernel_rfl) k
theorem ref01_nodes_ok (m : Nat) (a0 : T) : ref01_nodes (m + 1) a0 = tb.runP1 m i72 [] (a0, ()) := (congrArg (a₁ := ref01_nodes_L m (ref01_nodes m) m) (fun L => ref01_nodes_s0 m (ref01_nodes m) L a0) (ref01_nodes_lab m m)).trans (by kernel_rfl)
theorem ref01_Valid_ok (m : Nat) (a0 : T) : ref01_Valid (m + 1) a0 = tb.runP1 m i36 [] (a0, ()) := by kernel_rfl
noncomputable def ref01_name_M1 (m k : Nat) (x0 : List UInt8) (x1 : Int) := tb.PL i126 2 m k [(0, .s x0), (3, .i .i64 x1)] ⟨[], []⟩
theorem ref01_name_lab (m k : Nat) : ref01_name_L m k = ref01_name_M1 m k := lab1 (M := fun k => ref01_name_M1 m k) rfl (fun _ => by kernel_rfl) k
theorem ref01_name_ok (m : Nat) (a0 : Y8) : ref01_name (m + 1) a0 = tb.runP1 m i126 [] (a0, ()) := (congrArg (a₁ := ref01_name_L m m) (fun L => ref01_name_s0 m L a0) (ref01_name_lab m m)).trans (by kernel_rfl)
theorem ref01_word_ok (m : Nat) (a0 : Int) : ref01_word (m + 1) a0 = tb.runP1 m i156 [] (a0, ()) := by kernel_rfl
noncomputable def ref01_leaf_M1 (m k : Nat) (x0 : List UInt8) (x1 : List UInt8) (x2 : Int) (x3 : Int) (x4 : List UInt8) (x5 : Int) (x6 : List (T)) (x7 : Int) (x8 : List UInt8) (x9 : Int) (x10 : List (T)) := tb.PL i128 5 m k [(1, .s x0), (2, .ptr 0 0), (4, .ptr 1 0), (7, .s x1), (8, .i .i64 x2)] ⟨[[.i .i64 x3, .s x4, .i .i64 x5, .sl .term x6 1], [.i .i64 x7, .s x8, .i .i64 x9, .row 0 0]], [⟨.term, x10, 0, 0, false⟩]⟩
theorem ref01_leaf_lab (m k : Nat) : ref01_leaf_L m k = ref01_leaf_M1 m k := lab1 (M := fun k => ref01_leaf_M1 m k) rfl (fun _ => by kernel_rfl) k
theorem ref01_leaf_ok (m : Nat) (a0 : T) (a1 : Y8) : ref01_leaf (m + 1) a0 a1 = tb.runP1 m i128 [] (a0, a1, ()) := (congrArg (a₁ := ref01_leaf_L m m) (fun L => ref01_leaf_s0 m L a0 a1) (ref01_leaf_lab m m)).trans (by kernel_rfl)
noncomputable def ref01_read_M1 (m k : Nat) (x0 : List UInt8) (x1 : Int) (x2 : Int) (x3 : List UInt8) (x4 : Int) (x5 : Int) (x6 : List UInt8) (x7 : Int) (x8 : List (T)) (x9 : List (T)) := tb.PL i90 13 m k [(0, .s x0), (1, .i .i64 x1), (4, .ptr 0 0), (7, .ptr 1 0)] ⟨[[.i .i64 x2, .s x3, .i .i64 x4, .row 0 0], [.i .i64 x5, .s x6, .i .i64 x7, .row 1 0]], [⟨.term, x8, 0, 0, false⟩, ⟨.term, x9, 0, 0, false⟩]⟩
theorem ref01_read_lab (m k : Nat) : ref01_read_L m (ref01_read m) k = ref01_read_M1 m k := lab1 (M := fun k => ref01_read_M1 m k) rfl (fun _ => by kernel_rfl) k
theorem ref01_read_ok (m : Nat) (a0 : Y8) (a1 : Int) : ref01_read (m + 1) a0 a1 = tb.runP1 m i90 [] (a0, a1, ()) := (congrArg (a₁ := ref01_read_L m (ref01_read m) m) (fun L => ref01_read_s0 m (ref01_read m) L a0 a1) (ref01_read_lab m m)).trans (by kernel_rfl)
theorem ref01_Parse_ok (m : Nat) (a0 : Y8) : ref01_Parse (m + 1) a0 = tb.runP1 m i60 [] (a0, ()) := by kernel_rfl
theorem law09_parse_ok (m : Nat) (a0 : Y8) : law09_parse (m + 1) a0 = tb.runP1 m i30 [] (a0, ()) := by kernel_rfl
theorem law09_leads_ok (m : Nat) (a0 : Y8) (a1 : Y8) : law09_leads (m + 1) a0 a1 = tb.runP1 m i29 [] (a0, a1, ()) := by kernel_rfl
theorem law09_awake_ok (m : Nat) : law09_awake (m + 1) = tb.runP1 m i7 [] (()) := by kernel_rfl
noncomputable def ref01_budget_M1 (m k : Nat) (x0 : Int) (x1 : Int) (x2 : Int) (x3 : List UInt8) (x4 : Int) (x5 : List (T)) := tb.PL i61 5 m k [(1, .i .i64 x0), (2, .ptr 0 0), (5, .i .i64 x1)] ⟨[[.i .i64 x2, .s x3, .i .i64 x4, .sl .term x5 1]], []⟩
theorem ref01_budget_lab (m k : Nat) : ref01_budget_L m (ref01_budget m) k = ref01_budget_M1 m k := lab1 (M := fun k => ref01_budget_M1 m k) rfl (fun _ => by kernel_rfl) k
theorem ref01_budget_ok (m : Nat) (a0 : T) (a1 : Int) : ref01_budget (m + 1) a0 a1 = tb.runP1 m i61 [] (a0, a1, ()) := (congrArg (a₁ := ref01_budget_L m (ref01_budget m) m) (fun L => ref01_budget_s0 m (ref01_budget m) L a0 a1) (ref01_budget_lab m m)).trans (by kernel_rfl)
noncomputable def ref01_Few_M1 (m k : Nat) (x0 : List (T)) (x1 : Int) (x2 : Int) := tb.PL i31 4 m k [(0, .sl .term x0 1), (2, .i .i64 x1), (7, .i .i64 x2)] ⟨[], []⟩
theorem ref01_Few_lab (m k : Nat) : ref01_Few_L m k = ref01_Few_M1 m k := lab1 (M := fun k => ref01_Few_M1 m k) rfl (fun _ => by kernel_rfl) k
theorem ref01_Few_ok (m : Nat) (a0 : TL) (a1 : Int) (a2 : Int) : ref01_Few (m + 1) a0 a1 a2 = tb.runP1 m i31 [] (a0, a1, a2, ()) := (congrArg (a₁ := ref01_Few_L m m) (fun L => ref01_Few_s0 m L a0 a1 a2) (ref01_Few_lab m m)).trans (by kernel_rfl)
noncomputable def law09_small_M1 (m k : Nat) (x0 : List (T)) (x1 : Int) (x2 : Int) := tb.PL i8 4 m k [(8, .sl .term x0 1), (9, .i .i64 x1), (10, .i .i64 x2)] ⟨[], []⟩
theorem law09_small_lab (m k : Nat) : law09_small_L m k = law09_small_M1 m k := lab1 (M := fun k => law09_small_M1 m k) rfl (fun _ => by kernel_rfl) k
theorem law09_small_ok (m : Nat) (a0 : TL) : law09_small (m + 1) a0 = tb.runP1 m i8 [] (a0, ()) := (congrArg (a₁ := law09_small_L m m) (fun L => law09_small_s0 m L a0) (law09_small_lab m m)).trans (by kernel_rfl)
theorem ref09_Symbols_ok (m : Nat) : ref09_Symbols (m + 1) = tb.runP1 m i24 [] (()) := by kernel_rfl
noncomputable def ref09_Kind_M1 (m k : Nat) (x0 : List UInt8) (x1 : List (Y8 × (Int × (Int × Int)))) (x2 : Int) := tb.PL i45 3 m k [(0, .s x0), (3, .sl (.pair .str (.pair (.int .i64) (.pair (.int .i64) (.int .i64)))) x1 1), (4, .i .i64 x2)] ⟨[], []⟩
theorem ref09_Kind_lab (m k : Nat) : ref09_Kind_L m k = ref09_Kind_M1 m k := lab1 (M := fun k => ref09_Kind_M1 m k) rfl (fun _ => by kernel_rfl) k
theorem ref09_Kind_ok (m : Nat) (a0 : Y8) : ref09_Kind (m + 1) a0 = tb.runP1 m i45 [] (a0, ()) := (congrArg (a₁ := ref09_Kind_L m m) (fun L => ref09_Kind_s0 m L a0) (ref09_Kind_lab m m)).trans (by kernel_rfl)
noncomputable def ref09_fits_M1 (m k : Nat) (x0 : List (Y8 × (Int × (Int × Int)))) (x1 : Int) (x2 : Int) (x3 : List UInt8) (x4 : Int) (x5 : List (T)) := tb.PL i76 3 m k [(1, .ptr 0 0), (3, .sl (.pair .str (.pair (.int .i64) (.pair (.int .i64) (.int .i64)))) x0 1), (4, .i .i64 x1)] ⟨[[.i .i64 x2, .s x3, .i .i64 x4, .sl .term x5 1]], []⟩
theorem ref09_fits_lab (m k : Nat) : ref09_fits_L m k = ref09_fits_M1 m k := lab1 (M := fun k => ref09_fits_M1 m k) rfl (fun _ => by kernel_rfl) k
theorem ref09_fits_ok (m : Nat) (a0 : T) : ref09_fits (m + 1) a0 = tb.runP1 m i76 [] (a0, ()) := (congrArg (a₁ := ref09_fits_L m m) (fun L => ref09_fits_s0 m L a0) (ref09_fits_lab m m)).trans (by kernel_rfl)
noncomputable def ref09_agents_M1 (m k : Nat) (x0 : Int) (x1 : Int) (x2 : List UInt8) (x3 : Int) (x4 : List (T)) := tb.PL i77 4 m k [(1, .ptr 0 0), (3, .i .i64 x0)] ⟨[[.i .i64 x1, .s x2, .i .i64 x3, .sl .term x4 1]], []⟩
theorem ref09_agents_lab (m k : Nat) : ref09_agents_L m k = ref09_agents_M1 m k := lab1 (M := fun k => ref09_agents_M1 m k) rfl (fun _ => by kernel_rfl) k
theorem ref09_agents_ok (m : Nat) (a0 : T) : ref09_agents (m + 1) a0 = tb.runP1 m i77 [] (a0, ()) := (congrArg (a₁ := ref09_agents_L m m) (fun L => ref09_agents_s0 m L a0) (ref09_agents_lab m m)).trans (by kernel_rfl)
noncomputable def ref09_nodes_M1 (m k : Nat) (x0 : Int) (x1 : Int) (x2 : List UInt8) (x3 : Int) (x4 : List (T)) := tb.PL i40 11 m k [(1, .ptr 0 0), (4, .i .i64 x0)] ⟨[[.i .i64 x1, .s x2, .i .i64 x3, .sl .term x4 1]], []⟩
theorem ref09_nodes_lab (m k : Nat) : ref09_nodes_L m (ref09_nodes m) k = ref09_nodes_M1 m k := lab1 (M := fun k => ref09_nodes_M1 m k) rfl (fun _ => by kernel_rfl) k
theorem ref09_nodes_ok (m : Nat) (a0 : T) : ref09_nodes (m + 1) a0 = tb.runP1 m i40 [] (a0, ()) := (congrArg (a₁ := ref09_nodes_L m (ref09_nodes m) m) (fun L => ref09_nodes_s0 m (ref09_nodes m) L a0) (ref09_nodes_lab m m)).trans (by kernel_rfl)
theorem ref09_Valid_ok (m : Nat) (a0 : T) : ref09_Valid (m + 1) a0 = tb.runP1 m i15 [] (a0, ()) := by kernel_rfl
theorem ref01_App_ok (m : Nat) (a0 : Y8) (a1 : TL) : ref01_App (m + 1) a0 a1 = tb.runP1 m i52 [] (a0, a1, ()) := by kernel_rfl
theorem ref09_Is_ok (m : Nat) (a0 : T) (a1 : Y8) : ref09_Is (m + 1) a0 a1 = tb.runP1 m i26 [] (a0, a1, ()) := by kernel_rfl
theorem ref09_destroy_ok (m : Nat) (a0 : T) : ref09_destroy (m + 1) a0 = tb.runP1 m i68 [] (a0, ()) := by kernel_rfl
noncomputable def ref08_valid_M1 (m k : Nat) (x0 : List (T)) (x1 : Int) (x2 : Int) (x3 : List UInt8) (x4 : Int) (x5 : List (T)) := tb.PL i103 4 m k [(0, .sl .term x0 1), (3, .ptr 0 0), (5, .i .i64 x1)] ⟨[[.i .i64 x2, .s x3, .i .i64 x4, .sl .term x5 1]], []⟩
theorem ref08_valid_lab (m k : Nat) : ref08_valid_L m k = ref08_valid_M1 m k := lab1 (M := fun k => ref08_valid_M1 m k) rfl (fun _ => by kernel_rfl) k
theorem ref08_valid_ok (m : Nat) (a0 : TL) (a1 : T) : ref08_valid (m + 1) a0 a1 = tb.runP1 m i103 [] (a0, a1, ()) := (congrArg (a₁ := ref08_valid_L m m) (fun L => ref08_valid_s0 m L a0 a1) (ref08_valid_lab m m)).trans (by kernel_rfl)
theorem ref08_zero_ok (m : Nat) : ref08_zero (m + 1) = tb.runP1 m i104 [] (()) := by kernel_rfl
noncomputable def ref01_Has_M1 (m k : Nat) (x0 : List (T)) (x1 : Int) (x2 : Int) (x3 : List UInt8) (x4 : Int) (x5 : List (T)) := tb.PL i150 2 m k [(0, .sl .term x0 1), (3, .ptr 0 0), (5, .i .i64 x1)] ⟨[[.i .i64 x2, .s x3, .i .i64 x4, .sl .term x5 1]], []⟩
theorem ref01_Has_lab (m k : Nat) : ref01_Has_L m k = ref01_Has_M1 m k := lab1 (M := fun k => ref01_Has_M1 m k) rfl (fun _ => by kernel_rfl) k
theorem ref01_Has_ok (m : Nat) (a0 : TL) (a1 : T) : ref01_Has (m + 1) a0 a1 = tb.runP1 m i150 [] (a0, a1, ()) := (congrArg (a₁ := ref01_Has_L m m) (fun L => ref01_Has_s0 m L a0 a1) (ref01_Has_lab m m)).trans (by kernel_rfl)
noncomputable def ref01_Add_M1 (m k : Nat) (x0 : List (T)) (x1 : Bool) (x2 : Int) (x3 : Int) (x4 : List UInt8) (x5 : Int) (x6 : List (T)) (x7 : List (T)) := tb.PL i163 4 m k [(0, .sl .term x0 1), (3, .ptr 0 0), (5, .row 0 0), (6, .b x1), (7, .i .i64 x2)] ⟨[[.i .i64 x3, .s x4, .i .i64 x5, .sl .term x6 1]], [⟨.term, x7, 0, 0, false⟩]⟩
theorem ref01_Add_lab (m k : Nat) : ref01_Add_L m k = ref01_Add_M1 m k := lab1 (M := fun k => ref01_Add_M1 m k) rfl (fun _ => by kernel_rfl) k
theorem ref01_Add_ok (m : Nat) (a0 : TL) (a1 : T) : ref01_Add (m + 1) a0 a1 = tb.runP1 m i163 [] (a0, a1, ()) := (congrArg (a₁ := ref01_Add_L m m) (fun L => ref01_Add_s0 m L a0 a1) (ref01_Add_lab m m)).trans (by kernel_rfl)
noncomputable def ref08_toggle_M1 (m k : Nat) (x0 : List (T)) (x1 : Int) (x2 : Int) (x3 : List UInt8) (x4 : Int) (x5 : List (T)) (x6 : List (T)) := tb.PL i136 5 m k [(0, .sl .term x0 1), (3, .ptr 0 0), (5, .row 0 0), (6, .i .i64 x1)] ⟨[[.i .i64 x2, .s x3, .i .i64 x4, .sl .term x5 1]], [⟨.term, x6, 0, 0, false⟩]⟩
theorem ref08_toggle_lab (m k : Nat) : ref08_toggle_L m k = ref08_toggle_M1 m k := lab1 (M := fun k => ref08_toggle_M1 m k) rfl (fun _ => by kernel_rfl) k
theorem ref08_toggle_ok (m : Nat) (a0 : TL) (a1 : T) : ref08_toggle (m + 1) a0 a1 = tb.runP1 m i136 [] (a0, a1, ()) := (congrArg (a₁ := ref08_toggle_L m m) (fun L => ref08_toggle_s0 m L a0 a1) (ref08_toggle_lab m m)).trans (by kernel_rfl)
noncomputable def ref08_Plus_M1 (m k : Nat) (x0 : List (T)) (x1 : List (T)) (x2 : Int) := tb.PL i105 3 m k [(1, .sl .term x0 1), (5, .sl .term x1 1), (6, .i .i64 x2)] ⟨[], []⟩
theorem ref08_Plus_lab (m k : Nat) : ref08_Plus_L m k = ref08_Plus_M1 m k := lab1 (M := fun k => ref08_Plus_M1 m k) rfl (fun _ => by kernel_rfl) k
theorem ref08_Plus_ok (m : Nat) (a0 : TL) (a1 : TL) : ref08_Plus (m + 1) a0 a1 = tb.runP1 m i105 [] (a0, a1, ()) := (congrArg (a₁ := ref08_Plus_L m m) (fun L => ref08_Plus_s0 m L a0 a1) (ref08_Plus_lab m m)).trans (by kernel_rfl)
noncomputable def ref08_Summands_M1 (m k : Nat) (x0 : List (T)) (x1 : Int) (x2 : Int) (x3 : List UInt8) (x4 : Int) (x5 : List (T)) := tb.PL i106 7 m k [(1, .ptr 0 0), (3, .sl .term x0 1), (4, .i .i64 x1)] ⟨[[.i .i64 x2, .s x3, .i .i64 x4, .sl .term x5 1]], []⟩
theorem ref08_Summands_lab (m k : Nat) : ref08_Summands_L m (ref08_Summands m) k = ref08_Summands_M1 m k := lab1 (M := fun k => ref08_Summands_M1 m k) rfl (fun _ => by kernel_rfl) k
theorem ref08_Summands_ok (m : Nat) (a0 : T) : ref08_Summands (m + 1) a0 = tb.runP1 m i106 [] (a0, ()) := (congrArg (a₁ := ref08_Summands_L m (ref08_Summands m) m) (fun L => ref08_Summands_s0 m (ref08_Summands m) L a0) (ref08_Summands_lab m m)).trans (by kernel_rfl)
theorem ref08_Term_ok (m : Nat) (a0 : TL) : ref08_Term (m + 1) a0 = tb.runP1 m i107 [] (a0, ()) := by kernel_rfl
noncomputable def ref08_Sum_M1 (m k : Nat) (x0 : List (T)) (x1 : List (T)) (x2 : Int) (x3 : Int) (x4 : List UInt8) (x5 : Int) (x6 : List (T)) := tb.PL i69 6 m k [(0, .sl .term x0 1), (2, .ptr 0 0), (5, .sl .term x1 1), (6, .i .i64 x2)] ⟨[[.i .i64 x3, .s x4, .i .i64 x5, .row 0 0]], [⟨.term, x6, 0, 0, true⟩]⟩
theorem ref08_Sum_lab (m k : Nat) : ref08_Sum_L m k = ref08_Sum_M1 m k := lab1 (M := fun k => ref08_Sum_M1 m k) rfl (fun _ => by kernel_rfl) k
theorem ref08_Sum_ok (m : Nat) (a0 : TL) : ref08_Sum (m + 1) a0 = tb.runP1 m i69 [] (a0, ()) := (congrArg (a₁ := ref08_Sum_L m m) (fun L => ref08_Sum_s0 m L a0) (ref08_Sum_lab m m)).trans (by kernel_rfl)
theorem ref06_special_ok (m : Nat) (a0 : T) : ref06_special (m + 1) a0 = tb.runP1 m i164 [] (a0, ()) := by kernel_rfl
noncomputable def ref06_arity_M1 (m k : Nat) (x0 : Int) (x1 : Int) (x2 : Int) (x3 : List UInt8) (x4 : Int) (x5 : List (T)) := tb.PL i137 7 m k [(1, .ptr 0 0), (3, .i .i64 x0), (4, .i .i64 x1)] ⟨[[.i .i64 x2, .s x3, .i .i64 x4, .sl .term x5 1]], []⟩
theorem ref06_arity_lab (m k : Nat) : ref06_arity_L m (ref06_arity m) k = ref06_arity_M1 m k := lab1 (M := fun k => ref06_arity_M1 m k) rfl (fun _ => by kernel_rfl) k
theorem ref06_arity_ok (m : Nat) (a0 : T) : ref06_arity (m + 1) a0 = tb.runP1 m i137 [] (a0, ()) := (congrArg (a₁ := ref06_arity_L m (ref06_arity m) m) (fun L => ref06_arity_s0 m (ref06_arity m) L a0) (ref06_arity_lab m m)).trans (by kernel_rfl)
noncomputable def ref06_add_M1 (m k : Nat) (x0 : Int) (x1 : Bool) (x2 : Int) (x3 : Int) (x4 : List UInt8) (x5 : Int) (x6 : List (T)) (x7 : List (T × Int)) (x8 : List (T × Int)) := tb.QL i141 4 m k [(0, .row 0 0), (2, .i .i64 x0), (4, .ptr 0 0), (7, .row 1 0), (8, .b x1), (9, .i .i64 x2)] ⟨[[.i .i64 x3, .s x4, .i .i64 x5, .sl .term x6 1]], [⟨(.pair .term (.int .i64)), x7, 0, 0, false⟩, ⟨(.pair .term (.int .i64)), x8, 0, 0, false⟩]⟩
theorem ref06_add_lab (m k : Nat) : ref06_add_L m k = ref06_add_M1 m k := lab1 (M := fun k => ref06_add_M1 m k) rfl (fun _ => by kernel_rfl) k
theorem ref06_add_ok (m : Nat) (a0 : List (T × Int)) (a1 : T) (a2 : Int) : ref06_add (m + 1) a0 a1 a2 = tb.runS1 m i141 (a0, a1, a2, ()) := (congrArg (a₁ := ref06_add_L m m) (fun L => ref06_add_s0 m L a0 a1 a2) (ref06_add_lab m m)).trans (by kernel_rfl)
noncomputable def ref06_collect_M1 (m k : Nat) (x0 : Int) (x1 : Int) (x2 : Int) (x3 : List UInt8) (x4 : Int) (x5 : List (T)) (x6 : List (T × Int)) := tb.QL i138 6 m k [(0, .row 0 0), (2, .i .i64 x0), (4, .ptr 0 0), (7, .i .i64 x1)] ⟨[[.i .i64 x2, .s x3, .i .i64 x4, .sl .term x5 1]], [⟨(.pair .term (.int .i64)), x6, 0, 0, false⟩]⟩
theorem ref06_collect_lab (m k : Nat) : ref06_collect_L m (ref06_collect m) k = ref06_collect_M1 m k := lab1 (M := fun k => ref06_collect_M1 m k) rfl (fun _ => by kernel_rfl) k
theorem ref06_collect_ok (m : Nat) (a0 : List (T × Int)) (a1 : T) (a2 : Int) : ref06_collect (m + 1) a0 a1 a2 = tb.runS1 m i138 (a0, a1, a2, ()) := (congrArg (a₁ := ref06_collect_L m (ref06_collect m) m) (fun L => ref06_collect_s0 m (ref06_collect m) L a0 a1 a2) (ref06_collect_lab m m)).trans (by kernel_rfl)
theorem ref06_Of_ok (m : Nat) (a0 : T) : ref06_Of (m + 1) a0 = tb.runP1 m i108 [] (a0, ()) := by kernel_rfl
noncomputable def ref06_Valid_M1 (m k : Nat) (x0 : List (T × Int)) (x1 : Int) := tb.PL i139 4 m k [(0, .sl (.pair .term (.int .i64)) x0 1), (3, .i .i64 x1)] ⟨[], []⟩
theorem ref06_Valid_lab (m k : Nat) : ref06_Valid_L m k = ref06_Valid_M1 m k := lab1 (M := fun k => ref06_Valid_M1 m k) rfl (fun _ => by kernel_rfl) k
theorem ref06_Valid_ok (m : Nat) (a0 : List (T × Int)) : ref06_Valid (m + 1) a0 = tb.runP1 m i139 [] (a0, ()) := (congrArg (a₁ := ref06_Valid_L m m) (fun L => ref06_Valid_s0 m L a0) (ref06_Valid_lab m m)).trans (by kernel_rfl)
noncomputable def ref06_operands_M1 (m k : Nat) (x0 : List (T × Int)) (x1 : Int) (x2 : List (T)) := tb.PL i140 3 m k [(0, .sl (.pair .term (.int .i64)) x0 1), (3, .row 0 0), (4, .i .i64 x1)] ⟨[], [⟨.term, x2, 0, 0, false⟩]⟩
noncomputable def ref06_operands_M2 (m k : Nat) (x0 : List (T × Int)) (x1 : Int) (x2 : Int) (x3 : List (T)) := tb.PL i140 6 m k [(0, .sl (.pair .term (.int .i64)) x0 1), (3, .row 0 0), (4, .i .i64 x1), (5, .i .i64 x2)] ⟨[], [⟨.term, x3, 0, 0, false⟩]⟩
noncomputable def ref06_operands_M3 (m k : Nat) (x0 : List (T × Int)) (x1 : Int) (x2 : List (T)) := tb.PL i140 10 m k [(0, .sl (.pair .term (.int .i64)) x0 1), (3, .row 0 0), (6, .i .i64 x1)] ⟨[], [⟨.term, x2, 0, 0, false⟩]⟩
noncomputable def ref06_operands_M4 (m k : Nat) (x0 : List (T × Int)) (x1 : Int) (x2 : Int) (x3 : List (T)) := tb.PL i140 13 m k [(0, .sl (.pair .term (.int .i64)) x0 1), (3, .row 0 0), (6, .i .i64 x1), (7, .i .i64 x2)] ⟨[], [⟨.term, x3, 0, 0, false⟩]⟩
theorem ref06_operands_lab (m k : Nat) : ref06_operands_L m k = (ref06_operands_M1 m k, ref06_operands_M2 m k, ref06_operands_M3 m k, ref06_operands_M4 m k) := lab1 (M := fun k => (ref06_operands_M1 m k, ref06_operands_M2 m k, ref06_operands_M3 m k, ref06_operands_M4 m k)) rfl (fun _ => by kernel_rfl) k
theorem ref06_operands_ok (m : Nat) (a0 : List (T × Int)) : ref06_operands (m + 1) a0 = tb.runP1 m i140 [] (a0, ()) := (congrArg (a₁ := ref06_operands_L m m) (fun L => ref06_operands_s0 m L.1 L.2.1 L.2.2.1 L.2.2.2 a0) (ref06_operands_lab m m)).trans (by kernel_rfl)
theorem ref06_Term_ok (m : Nat) (a0 : List (T × Int)) : ref06_Term (m + 1) a0 = tb.runP1 m i109 [] (a0, ()) := by kernel_rfl
theorem ref09_product_ok (m : Nat) (a0 : T) : ref09_product (m + 1) a0 = tb.runP1 m i70 [] (a0, ()) := by kernel_rfl
noncomputable def ref06_inRange_M1 (m k : Nat) (x0 : List (T × Int)) (x1 : Int) := tb.PL i142 2 m k [(0, .sl (.pair .term (.int .i64)) x0 1), (3, .i .i64 x1)] ⟨[], []⟩
theorem ref06_inRange_lab (m k : Nat) : ref06_inRange_L m k = ref06_inRange_M1 m k := lab1 (M := fun k => ref06_inRange_M1 m k) rfl (fun _ => by kernel_rfl) k
theorem ref06_inRange_ok (m : Nat) (a0 : List (T × Int)) : ref06_inRange (m + 1) a0 = tb.runP1 m i142 [] (a0, ()) := (congrArg (a₁ := ref06_inRange_L m m) (fun L => ref06_inRange_s0 m L a0) (ref06_inRange_lab m m)).trans (by kernel_rfl)
noncomputable def ref06_Mul_M1 (m k : Nat) (x0 : List (T × Int)) (x1 : Int) (x2 : List (T × Int)) := tb.PL i110 9 m k [(1, .sl (.pair .term (.int .i64)) x0 1), (8, .row 0 0), (9, .i .i64 x1)] ⟨[], [⟨(.pair .term (.int .i64)), x2, 0, 0, false⟩]⟩
theorem ref06_Mul_lab (m k : Nat) : ref06_Mul_L m k = ref06_Mul_M1 m k := lab1 (M := fun k => ref06_Mul_M1 m k) rfl (fun _ => by kernel_rfl) k
theorem ref06_Mul_ok (m : Nat) (a0 : List (T × Int)) (a1 : List (T × Int)) : ref06_Mul (m + 1) a0 a1 = tb.runP1 m i110 [] (a0, a1, ()) := (congrArg (a₁ := ref06_Mul_L m m) (fun L => ref06_Mul_s0 m L a0 a1) (ref06_Mul_lab m m)).trans (by kernel_rfl)
theorem ref09_power_ok (m : Nat) (a0 : T) (a1 : T) : ref09_power (m + 1) a0 a1 = tb.runP1 m i71 [] (a0, a1, ()) := by kernel_rfl
noncomputable def ref09_normal_M1 (m k : Nat) (x0 : Int) (x1 : Int) (x2 : List UInt8) (x3 : Int) (x4 : List (T)) (x5 : Int) (x6 : List UInt8) (x7 : Int) (x8 : List (T)) (x9 : List (T)) := tb.PL i35 5 m k [(1, .ptr 0 0), (2, .ptr 1 0), (4, .row 1 0), (5, .i .i64 x0)] ⟨[[.i .i64 x1, .s x2, .i .i64 x3, .sl .term x4 1], [.i .i64 x5, .s x6, .i .i64 x7, .row 0 0]], [⟨.term, x8, 0, 0, false⟩, ⟨.term, x9, 0, 0, false⟩]⟩
theorem ref09_normal_lab (m k : Nat) : ref09_normal_L m (ref09_normal m) k = ref09_normal_M1 m k := lab1 (M := fun k => ref09_normal_M1 m k) rfl (fun _ => by kernel_rfl) k
theorem ref09_normal_ok (m : Nat) (a0 : T) : ref09_normal (m + 1) a0 = tb.runP1 m i35 [] (a0, ()) := (congrArg (a₁ := ref09_normal_L m (ref09_normal m) m) (fun L => ref09_normal_s0 m (ref09_normal m) L a0) (ref09_normal_lab m m)).trans (by kernel_rfl)
theorem ref09_Normal_ok (m : Nat) (a0 : T) : ref09_Normal (m + 1) a0 = tb.runP1 m i10 [] (a0, ()) := by kernel_rfl
theorem law09_TheoryNormal_ok (m : Nat) (a0 : T) : law09_TheoryNormal (m + 1) a0 = tb.runP1 m i3 [] (a0, ()) := by kernel_rfl
theorem theory_Equal_ok (m : Nat) (a0 : T) (a1 : T) : theory_Equal (m + 1) a0 a1 = tb.runP1 m i12 [] (a0, a1, ()) := by kernel_rfl
theorem ref09_Equal_ok (m : Nat) (a0 : T) (a1 : T) : ref09_Equal (m + 1) a0 a1 = tb.runP1 m i13 [] (a0, a1, ()) := by kernel_rfl
theorem law09_TheoryEqual_ok (m : Nat) (a0 : T) (a1 : T) (a2 : T) : law09_TheoryEqual (m + 1) a0 a1 a2 = tb.runP1 m i4 [] (a0, a1, a2, ()) := by kernel_rfl
theorem theory_Free_1_ok (m : Nat) (a0 : Y8) : theory_Free_1 (m + 1) a0 = tb.runP1 m i42 [] (a0, ()) := by kernel_rfl
noncomputable def theory_every_of_42_M1 (m k : Nat) (x0 : List (T)) (x1 : Int) (x2 : Int) := tb.PL i41_1 4 m k [(1, .fn 42 []), (18, .sl .term x0 1), (19, .i .i64 x1), (20, .i .i64 x2)] ⟨[], []⟩
theorem theory_every_of_42_lab (m k : Nat) : theory_every_of_42_L m (theory_every_of_42 m) k = theory_every_of_42_M1 m k := lab1 (M := fun k => theory_every_of_42_M1 m k) rfl (fun _ => by kernel_rfl) k
theorem theory_every_of_42_ok (m : Nat) (a0 : T) : theory_every_of_42 (m + 1) a0 = tb.runP1 m i41_1 [42] (a0, ()) := (congrArg (a₁ := theory_every_of_42_L m (theory_every_of_42 m) m) (fun L => theory_every_of_42_s0 m (theory_every_of_42 m) L a0) (theory_every_of_42_lab m m)).trans (by kernel_rfl)
theorem theory_Free_ok (m : Nat) (a0 : T) : theory_Free (m + 1) a0 = tb.runP1 m i16 [] (a0, ()) := by kernel_rfl
noncomputable def ref01_All_M1 (m k : Nat) (x0 : Int) (x1 : Int) (x2 : List UInt8) (x3 : Int) (x4 : List (T)) (x5 : List (T)) := tb.PL i25 3 m k [(1, .ptr 0 0), (3, .row 0 0), (4, .i .i64 x0)] ⟨[[.i .i64 x1, .s x2, .i .i64 x3, .sl .term x4 1]], [⟨.term, x5, 0, 0, true⟩]⟩
theorem ref01_All_lab (m k : Nat) : ref01_All_L m (ref01_All m) k = ref01_All_M1 m k := lab1 (M := fun k => ref01_All_M1 m k) rfl (fun _ => by kernel_rfl) k
theorem ref01_All_ok (m : Nat) (a0 : T) : ref01_All (m + 1) a0 = tb.runP1 m i25 [] (a0, ()) := (congrArg (a₁ := ref01_All_L m (ref01_All m) m) (fun L => ref01_All_s0 m (ref01_All m) L a0) (ref01_All_lab m m)).trans (by kernel_rfl)
theorem ref09_algebraic_ok (m : Nat) (a0 : Y8) : ref09_algebraic (m + 1) a0 = tb.runP1 m i44 [] (a0, ()) := by kernel_rfl
noncomputable def ref09_Free_M1 (m k : Nat) (x0 : List (T)) (x1 : Int) := tb.PL i17 5 m k [(3, .sl .term x0 1), (4, .i .i64 x1)] ⟨[], []⟩
theorem ref09_Free_lab (m k : Nat) : ref09_Free_L m k = ref09_Free_M1 m k := lab1 (M := fun k => ref09_Free_M1 m k) rfl (fun _ => by kernel_rfl) k
theorem ref09_Free_ok (m : Nat) (a0 : T) : ref09_Free (m + 1) a0 = tb.runP1 m i17 [] (a0, ()) := (congrArg (a₁ := ref09_Free_L m m) (fun L => ref09_Free_s0 m L a0) (ref09_Free_lab m m)).trans (by kernel_rfl)
noncomputable def ref09_Plain_M1 (m k : Nat) (x0 : List (T)) (x1 : Int) := tb.PL i19 6 m k [(5, .sl .term x0 1), (6, .i .i64 x1)] ⟨[], []⟩
theorem ref09_Plain_lab (m k : Nat) : ref09_Plain_L m k = ref09_Plain_M1 m k := lab1 (M := fun k => ref09_Plain_M1 m k) rfl (fun _ => by kernel_rfl) k
theorem ref09_Plain_ok (m : Nat) (a0 : T) : ref09_Plain (m + 1) a0 = tb.runP1 m i19 [] (a0, ()) := (congrArg (a₁ := ref09_Plain_L m m) (fun L => ref09_Plain_s0 m L a0) (ref09_Plain_lab m m)).trans (by kernel_rfl)
theorem law09_TheoryValid_ok (m : Nat) (a0 : T) : law09_TheoryValid (m + 1) a0 = tb.runP1 m i5 [] (a0, ()) := by kernel_rfl
end Go.AmYtmodnblfcikjlaaGreat
namespace Go.AmYtmodnblfcikjlaaGreat
open Go Go.GxYtmodnblfcikjlaaGreat
set_option linter.unusedVariables false
set_option maxRecDepth 100000
theorem tb_ok : ∀ m, CfgOk Go.Proofs.Tryz.prog (tb.at m).pc.cfg := Tb.all_ok (by kernel_rfl) tyT_ok (by kernel_rfl) ⟨⟨⟨Go.Proofs.Tryz.func77, fun _ => rfl, fun m a => ref09_agents_ok m a.1, trivial⟩, List.cons_ne_nil _ _⟩, ⟨⟨⟨Go.Proofs.Tryz.func37, fun _ => rfl, fun m a => ref01_Compare_ok m a.1 a.2.1, trivial⟩, List.cons_ne_nil _ _⟩, ⟨⟨⟨Go.Proofs.Tryz.func18, fun _ => rfl, fun m a => theory_Plain_ok m a.1, trivial⟩, List.cons_ne_nil _ _⟩, ⟨⟨⟨Go.Proofs.Tryz.func11, fun _ => rfl, fun m a => ref01_Same_ok m a.1 a.2.1, trivial⟩, List.cons_ne_nil _ _⟩, ⟨⟨⟨Go.Proofs.Tryz.func7, fun _ => rfl, fun m a => law09_awake_ok m, trivial⟩, List.cons_ne_nil _ _⟩, ⟨⟨⟨Go.Proofs.Tryz.func4, fun _ => rfl, fun m a => law09_TheoryEqual_ok m a.1 a.2.1 a.2.2.1, trivial⟩, List.cons_ne_nil _ _⟩, ⟨⟨⟨Go.Proofs.Tryz.func3, fun _ => rfl, fun m a => law09_TheoryNormal_ok m a.1, trivial⟩, List.cons_ne_nil _ _⟩, trivial, trivial⟩, ⟨⟨⟨Go.Proofs.Tryz.func5, fun _ => rfl, fun m a => law09_TheoryValid_ok m a.1, trivial⟩, List.cons_ne_nil _ _⟩, trivial, trivial⟩⟩, ⟨⟨⟨Go.Proofs.Tryz.func9, fun _ => rfl, fun m a => theory_Normal_ok m a.1, trivial⟩, List.cons_ne_nil _ _⟩, ⟨⟨⟨Go.Proofs.Tryz.func8, fun _ => rfl, fun m a => law09_small_ok m a.1, trivial⟩, List.cons_ne_nil _ _⟩, trivial, trivial⟩, ⟨⟨⟨Go.Proofs.Tryz.func10, fun _ => rfl, fun m a => ref09_Normal_ok m a.1, trivial⟩, List.cons_ne_nil _ _⟩, trivial, trivial⟩⟩⟩, ⟨⟨⟨Go.Proofs.Tryz.func15, fun _ => rfl, fun m a => ref09_Valid_ok m a.1, trivial⟩, List.cons_ne_nil _ _⟩, ⟨⟨⟨Go.Proofs.Tryz.func13, fun _ => rfl, fun m a => ref09_Equal_ok m a.1 a.2.1, trivial⟩, List.cons_ne_nil _ _⟩, ⟨⟨⟨Go.Proofs.Tryz.func12, fun _ => rfl, fun m a => theory_Equal_ok m a.1 a.2.1, trivial⟩, List.cons_ne_nil _ _⟩, trivial, trivial⟩, ⟨⟨⟨Go.Proofs.Tryz.func14, fun _ => rfl, fun m a => theory_Valid_ok m a.1, trivial⟩, List.cons_ne_nil _ _⟩, trivial, trivial⟩⟩, ⟨⟨⟨Go.Proofs.Tryz.func17, fun _ => rfl, fun m a => ref09_Free_ok m a.1, trivial⟩, List.cons_ne_nil _ _⟩, ⟨⟨⟨Go.Proofs.Tryz.func16, fun _ => rfl, fun m a => theory_Free_ok m a.1, trivial⟩, List.cons_ne_nil _ _⟩, trivial, trivial⟩, trivial⟩⟩⟩, ⟨⟨⟨Go.Proofs.Tryz.func30, fun _ => rfl, fun m a => law09_parse_ok m a.1, trivial⟩, List.cons_ne_nil _ _⟩, ⟨⟨⟨Go.Proofs.Tryz.func25, fun _ => rfl, fun m a => ref01_All_ok m a.1, trivial⟩, List.cons_ne_nil _ _⟩, ⟨fun c hc => hand_theory_Symbols (m := 0) hc, ⟨⟨⟨Go.Proofs.Tryz.func19, fun _ => rfl, fun m a => ref09_Plain_ok m a.1, trivial⟩, List.cons_ne_nil _ _⟩, trivial, trivial⟩, ⟨⟨⟨Go.Proofs.Tryz.func24, fun _ => rfl, fun m a => ref09_Symbols_ok m, trivial⟩, List.cons_ne_nil _ _⟩, trivial, trivial⟩⟩, ⟨⟨⟨Go.Proofs.Tryz.func29, fun _ => rfl, fun m a => law09_leads_ok m a.1 a.2.1, trivial⟩, List.cons_ne_nil _ _⟩, ⟨⟨⟨Go.Proofs.Tryz.func26, fun _ => rfl, fun m a => ref09_Is_ok m a.1 a.2.1, trivial⟩, List.cons_ne_nil _ _⟩, trivial, trivial⟩, trivial⟩⟩, ⟨⟨⟨Go.Proofs.Tryz.func34, fun _ => rfl, fun m a => term_Valid_ok m a.1, trivial⟩, List.cons_ne_nil _ _⟩, ⟨⟨⟨Go.Proofs.Tryz.func32, fun _ => rfl, fun m a => ref01_Depth_ok m a.1, trivial⟩, List.cons_ne_nil _ _⟩, ⟨⟨⟨Go.Proofs.Tryz.func31, fun _ => rfl, fun m a => ref01_Few_ok m a.1 a.2.1 a.2.2.1, trivial⟩, List.cons_ne_nil _ _⟩, trivial, trivial⟩, ⟨⟨⟨Go.Proofs.Tryz.func33, fun _ => rfl, fun m a => theory_normal_ok m a.1, trivial⟩, List.cons_ne_nil _ _⟩, trivial, trivial⟩⟩, ⟨⟨⟨Go.Proofs.Tryz.func36, fun _ => rfl, fun m a => ref01_Valid_ok m a.1, trivial⟩, List.cons_ne_nil _ _⟩, ⟨⟨⟨Go.Proofs.Tryz.func35, fun _ => rfl, fun m a => ref09_normal_ok m a.1, trivial⟩, List.cons_ne_nil _ _⟩, trivial, trivial⟩, trivial⟩⟩⟩⟩, ⟨⟨⟨Go.Proofs.Tryz.func63, fun _ => rfl, fun m a => xor_Sum_ok m a.1, trivial⟩, List.cons_ne_nil _ _⟩, ⟨⟨⟨Go.Proofs.Tryz.func45, fun _ => rfl, fun m a => ref09_Kind_ok m a.1, trivial⟩, List.cons_ne_nil _ _⟩, ⟨⟨⟨Go.Proofs.Tryz.func41, fun _ => rfl, fun m a => theory_every_of_46_ok m a.1, ⟨Go.Proofs.Tryz.func41, fun _ => rfl, fun m a => theory_every_of_42_ok m a.1, trivial⟩⟩, List.cons_ne_nil _ _⟩, ⟨⟨⟨Go.Proofs.Tryz.func39, fun _ => rfl, fun m a => theory_check_ok m a.1, trivial⟩, List.cons_ne_nil _ _⟩, ⟨⟨⟨Go.Proofs.Tryz.func38, fun _ => rfl, fun m a => theory_same_ok m a.1 a.2.1, trivial⟩, List.cons_ne_nil _ _⟩, trivial, trivial⟩, ⟨⟨⟨Go.Proofs.Tryz.func40, fun _ => rfl, fun m a => ref09_nodes_ok m a.1, trivial⟩, List.cons_ne_nil _ _⟩, trivial, trivial⟩⟩, ⟨⟨⟨Go.Proofs.Tryz.func43, fun _ => rfl, fun m a => theory_symbol_ok m a.1, trivial⟩, List.cons_ne_nil _ _⟩, ⟨⟨⟨Go.Proofs.Tryz.func42, fun _ => rfl, fun m a => theory_Free_1_ok m a.1, trivial⟩, List.cons_ne_nil _ _⟩, trivial, trivial⟩, ⟨⟨⟨Go.Proofs.Tryz.func44, fun _ => rfl, fun m a => ref09_algebraic_ok m a.1, trivial⟩, List.cons_ne_nil _ _⟩, trivial, trivial⟩⟩⟩, ⟨⟨⟨Go.Proofs.Tryz.func60, fun _ => rfl, fun m a => ref01_Parse_ok m a.1, trivial⟩, List.cons_ne_nil _ _⟩, ⟨⟨⟨Go.Proofs.Tryz.func50, fun _ => rfl, fun m a => theory_app_ok m a.1 a.2.1, trivial⟩, List.cons_ne_nil _ _⟩, ⟨⟨⟨Go.Proofs.Tryz.func46, fun _ => rfl, fun m a => theory_Plain_1_ok m a.1, trivial⟩, List.cons_ne_nil _ _⟩, trivial, trivial⟩, ⟨⟨⟨Go.Proofs.Tryz.func52, fun _ => rfl, fun m a => ref01_App_ok m a.1 a.2.1, trivial⟩, List.cons_ne_nil _ _⟩, trivial, trivial⟩⟩, ⟨⟨⟨Go.Proofs.Tryz.func62, fun _ => rfl, fun m a => theory_destroy_ok m a.1, trivial⟩, List.cons_ne_nil _ _⟩, ⟨⟨⟨Go.Proofs.Tryz.func61, fun _ => rfl, fun m a => ref01_budget_ok m a.1 a.2.1, trivial⟩, List.cons_ne_nil _ _⟩, trivial, trivial⟩, trivial⟩⟩⟩, ⟨⟨⟨Go.Proofs.Tryz.func70, fun _ => rfl, fun m a => ref09_product_ok m a.1, trivial⟩, List.cons_ne_nil _ _⟩, ⟨⟨Go.Proofs.Tryz.func67, fun _ => rfl, fun m a => term_check_ok m a.1 a.2.1 a.2.2.1 a.2.2.2.1⟩, ⟨⟨⟨Go.Proofs.Tryz.func65, fun _ => rfl, fun m a => exponent_Term_ok m a.1, trivial⟩, List.cons_ne_nil _ _⟩, ⟨⟨⟨Go.Proofs.Tryz.func64, fun _ => rfl, fun m a => exponent_Of_ok m a.1, trivial⟩, List.cons_ne_nil _ _⟩, trivial, trivial⟩, ⟨⟨⟨Go.Proofs.Tryz.func66, fun _ => rfl, fun m a => theory_raise_ok m a.1 a.2.1, trivial⟩, List.cons_ne_nil _ _⟩, trivial, trivial⟩⟩, ⟨⟨⟨Go.Proofs.Tryz.func69, fun _ => rfl, fun m a => ref08_Sum_ok m a.1, trivial⟩, List.cons_ne_nil _ _⟩, ⟨⟨⟨Go.Proofs.Tryz.func68, fun _ => rfl, fun m a => ref09_destroy_ok m a.1, trivial⟩, List.cons_ne_nil _ _⟩, trivial, trivial⟩, trivial⟩⟩, ⟨⟨⟨Go.Proofs.Tryz.func74, fun _ => rfl, fun m a => ref01_number_ok m a.1 a.2.1, trivial⟩, List.cons_ne_nil _ _⟩, ⟨⟨⟨Go.Proofs.Tryz.func72, fun _ => rfl, fun m a => ref01_nodes_ok m a.1, trivial⟩, List.cons_ne_nil _ _⟩, ⟨⟨⟨Go.Proofs.Tryz.func71, fun _ => rfl, fun m a => ref09_power_ok m a.1 a.2.1, trivial⟩, List.cons_ne_nil _ _⟩, trivial, trivial⟩, ⟨⟨⟨Go.Proofs.Tryz.func73, fun _ => rfl, fun m a => ref01_Size_ok m a.1, trivial⟩, List.cons_ne_nil _ _⟩, trivial, trivial⟩⟩, ⟨⟨⟨Go.Proofs.Tryz.func76, fun _ => rfl, fun m a => ref09_fits_ok m a.1, trivial⟩, List.cons_ne_nil _ _⟩, ⟨⟨⟨Go.Proofs.Tryz.func75, fun _ => rfl, fun m a => term_Compare_ok m a.1 a.2.1, trivial⟩, List.cons_ne_nil _ _⟩, trivial, trivial⟩, trivial⟩⟩⟩⟩⟩, ⟨⟨⟨Go.Proofs.Tryz.func127, fun _ => rfl, fun m a => ref01_IsName_ok m a.1, trivial⟩, List.cons_ne_nil _ _⟩, ⟨⟨⟨Go.Proofs.Tryz.func102, fun _ => rfl, fun m a => term_isName_ok m a.1, trivial⟩, List.cons_ne_nil _ _⟩, ⟨⟨⟨Go.Proofs.Tryz.func95, fun _ => rfl, fun m a => xor_own_ok m a.1, trivial⟩, List.cons_ne_nil _ _⟩, ⟨⟨⟨Go.Proofs.Tryz.func91, fun _ => rfl, fun m a => theory_is_ok m a.1 a.2.1, trivial⟩, List.cons_ne_nil _ _⟩, ⟨⟨⟨Go.Proofs.Tryz.func84, fun _ => rfl, fun m a => term_Replace_ok m a.1 a.2.1 a.2.2.1, trivial⟩, List.cons_ne_nil _ _⟩, ⟨⟨⟨Go.Proofs.Tryz.func80, fun _ => rfl, fun m a => term_clone_ok m a.1, trivial⟩, List.cons_ne_nil _ _⟩, trivial, trivial⟩, ⟨⟨⟨Go.Proofs.Tryz.func90, fun _ => rfl, fun m a => ref01_read_ok m a.1 a.2.1, trivial⟩, List.cons_ne_nil _ _⟩, trivial, trivial⟩⟩, ⟨⟨⟨Go.Proofs.Tryz.func93, fun _ => rfl, fun m a => xor_plus_ok m a.1 a.2.1, trivial⟩, List.cons_ne_nil _ _⟩, ⟨⟨⟨Go.Proofs.Tryz.func92, fun _ => rfl, fun m a => xor_right_ok m a.1 a.2.1, trivial⟩, List.cons_ne_nil _ _⟩, trivial, trivial⟩, ⟨⟨⟨Go.Proofs.Tryz.func94, fun _ => rfl, fun m a => xor_summands_ok m a.1, trivial⟩, List.cons_ne_nil _ _⟩, trivial, trivial⟩⟩⟩, ⟨⟨⟨Go.Proofs.Tryz.func99, fun _ => rfl, fun m a => exponent_app_ok m a.1 a.2.1, trivial⟩, List.cons_ne_nil _ _⟩, ⟨⟨⟨Go.Proofs.Tryz.func97, fun _ => rfl, fun m a => exponent_valid_ok m a.1, trivial⟩, List.cons_ne_nil _ _⟩, ⟨⟨Go.Proofs.Tryz.func96, fun _ => rfl, fun m a => exponent_collect_ok m a.1 a.2.1 a.2.2.1⟩, trivial, trivial⟩, ⟨⟨⟨Go.Proofs.Tryz.func98, fun _ => rfl, fun m a => exponent_clone_ok m a.1, trivial⟩, List.cons_ne_nil _ _⟩, trivial, trivial⟩⟩, ⟨⟨⟨Go.Proofs.Tryz.func101, fun _ => rfl, fun m a => exponent_Mul_ok m a.1 a.2.1, trivial⟩, List.cons_ne_nil _ _⟩, ⟨⟨⟨Go.Proofs.Tryz.func100, fun _ => rfl, fun m a => slices_Concat_api_Term_api_Term_ok m a.1, trivial⟩, List.cons_ne_nil _ _⟩, trivial, trivial⟩, trivial⟩⟩⟩, ⟨⟨⟨Go.Proofs.Tryz.func109, fun _ => rfl, fun m a => ref06_Term_ok m a.1, trivial⟩, List.cons_ne_nil _ _⟩, ⟨⟨⟨Go.Proofs.Tryz.func106, fun _ => rfl, fun m a => ref08_Summands_ok m a.1, trivial⟩, List.cons_ne_nil _ _⟩, ⟨⟨⟨Go.Proofs.Tryz.func104, fun _ => rfl, fun m a => ref08_zero_ok m, trivial⟩, List.cons_ne_nil _ _⟩, ⟨⟨⟨Go.Proofs.Tryz.func103, fun _ => rfl, fun m a => ref08_valid_ok m a.1 a.2.1, trivial⟩, List.cons_ne_nil _ _⟩, trivial, trivial⟩, ⟨⟨⟨Go.Proofs.Tryz.func105, fun _ => rfl, fun m a => ref08_Plus_ok m a.1 a.2.1, trivial⟩, List.cons_ne_nil _ _⟩, trivial, trivial⟩⟩, ⟨⟨⟨Go.Proofs.Tryz.func108, fun _ => rfl, fun m a => ref06_Of_ok m a.1, trivial⟩, List.cons_ne_nil _ _⟩, ⟨⟨⟨Go.Proofs.Tryz.func107, fun _ => rfl, fun m a => ref08_Term_ok m a.1, trivial⟩, List.cons_ne_nil _ _⟩, trivial, trivial⟩, trivial⟩⟩, ⟨⟨⟨Go.Proofs.Tryz.func113, fun _ => rfl, fun m a => term_Size_ok m a.1, trivial⟩, List.cons_ne_nil _ _⟩, ⟨⟨⟨Go.Proofs.Tryz.func111, fun _ => rfl, fun m a => ref01_node_ok m a.1, trivial⟩, List.cons_ne_nil _ _⟩, ⟨⟨⟨Go.Proofs.Tryz.func110, fun _ => rfl, fun m a => ref06_Mul_ok m a.1 a.2.1, trivial⟩, List.cons_ne_nil _ _⟩, trivial, trivial⟩, ⟨⟨⟨Go.Proofs.Tryz.func112, fun _ => rfl, fun m a => term_sign_ok m a.1 a.2.1, trivial⟩, List.cons_ne_nil _ _⟩, trivial, trivial⟩⟩, ⟨⟨⟨Go.Proofs.Tryz.func126, fun _ => rfl, fun m a => ref01_name_ok m a.1, trivial⟩, List.cons_ne_nil _ _⟩, ⟨fun c hc => hand_strings_Compare (m := 0) hc, trivial, trivial⟩, trivial⟩⟩⟩⟩, ⟨⟨⟨Go.Proofs.Tryz.func142, fun _ => rfl, fun m a => ref06_inRange_ok m a.1, trivial⟩, List.cons_ne_nil _ _⟩, ⟨⟨⟨Go.Proofs.Tryz.func135, fun _ => rfl, fun m a => term_part_ok m a.1, trivial⟩, List.cons_ne_nil _ _⟩, ⟨hand_slices_Clone_api_Term_api_Term (m := 0), ⟨⟨⟨Go.Proofs.Tryz.func129, fun _ => rfl, fun m a => exponent_symbol_ok m a.1, trivial⟩, List.cons_ne_nil _ _⟩, ⟨⟨⟨Go.Proofs.Tryz.func128, fun _ => rfl, fun m a => ref01_leaf_ok m a.1 a.2.1, trivial⟩, List.cons_ne_nil _ _⟩, trivial, trivial⟩, ⟨⟨Go.Proofs.Tryz.func130, fun _ => rfl, fun m a => exponent_insert_ok m a.1 a.2.1⟩, trivial, trivial⟩⟩, ⟨⟨Go.Proofs.Tryz.func133, fun _ => rfl, fun m a => exponent_copied_ok m a.1⟩, ⟨hand_slices_Grow_api_Term_api_Term (m := 0), trivial, trivial⟩, ⟨⟨⟨Go.Proofs.Tryz.func134, fun _ => rfl, fun m a => exponent_result_ok m a.1, trivial⟩, List.cons_ne_nil _ _⟩, trivial, trivial⟩⟩⟩, ⟨⟨⟨Go.Proofs.Tryz.func139, fun _ => rfl, fun m a => ref06_Valid_ok m a.1, trivial⟩, List.cons_ne_nil _ _⟩, ⟨⟨⟨Go.Proofs.Tryz.func137, fun _ => rfl, fun m a => ref06_arity_ok m a.1, trivial⟩, List.cons_ne_nil _ _⟩, ⟨⟨⟨Go.Proofs.Tryz.func136, fun _ => rfl, fun m a => ref08_toggle_ok m a.1 a.2.1, trivial⟩, List.cons_ne_nil _ _⟩, trivial, trivial⟩, ⟨⟨Go.Proofs.Tryz.func138, fun _ => rfl, fun m a => ref06_collect_ok m a.1 a.2.1 a.2.2.1⟩, trivial, trivial⟩⟩, ⟨⟨Go.Proofs.Tryz.func141, fun _ => rfl, fun m a => ref06_add_ok m a.1 a.2.1 a.2.2.1⟩, ⟨⟨⟨Go.Proofs.Tryz.func140, fun _ => rfl, fun m a => ref06_operands_ok m a.1, trivial⟩, List.cons_ne_nil _ _⟩, trivial, trivial⟩, trivial⟩⟩⟩, ⟨hand_slices_Insert_api_Power_api_Power (m := 0), ⟨⟨⟨Go.Proofs.Tryz.func156, fun _ => rfl, fun m a => ref01_word_ok m a.1, trivial⟩, List.cons_ne_nil _ _⟩, ⟨⟨⟨Go.Proofs.Tryz.func154, fun _ => rfl, fun m a => ref01_letter_ok m a.1, trivial⟩, List.cons_ne_nil _ _⟩, ⟨⟨⟨Go.Proofs.Tryz.func150, fun _ => rfl, fun m a => ref01_Has_ok m a.1 a.2.1, trivial⟩, List.cons_ne_nil _ _⟩, trivial, trivial⟩, ⟨⟨⟨Go.Proofs.Tryz.func155, fun _ => rfl, fun m a => ref01_digit_ok m a.1, trivial⟩, List.cons_ne_nil _ _⟩, trivial, trivial⟩⟩, ⟨⟨⟨Go.Proofs.Tryz.func158, fun _ => rfl, fun m a => exponent_insert_1_ok m a.1 a.2.1, trivial⟩, List.cons_ne_nil _ _⟩, ⟨⟨⟨Go.Proofs.Tryz.func157, fun _ => rfl, fun m a => slices_BinarySearchFunc_api_Power_api_Power_api_Term_of_158_ok m a.1 a.2.1, trivial⟩, List.cons_ne_nil _ _⟩, trivial, trivial⟩, trivial⟩⟩, ⟨⟨⟨Go.Proofs.Tryz.func163, fun _ => rfl, fun m a => ref01_Add_ok m a.1 a.2.1, trivial⟩, List.cons_ne_nil _ _⟩, ⟨⟨⟨Go.Proofs.Tryz.func161, fun _ => rfl, fun m a => slices_ContainsFunc_api_Power_api_Power_of_162_ok m a.1, trivial⟩, List.cons_ne_nil _ _⟩, ⟨hand_slices_Delete_api_Power_api_Power (m := 0), trivial, trivial⟩, ⟨⟨⟨Go.Proofs.Tryz.func162, fun _ => rfl, fun m a => exponent_result_1_ok m a.1, trivial⟩, List.cons_ne_nil _ _⟩, trivial, trivial⟩⟩, ⟨⟨⟨Go.Proofs.Tryz.func172, fun _ => rfl, fun m a => slices_IndexFunc_api_Power_api_Power_of_162_ok m a.1, trivial⟩, List.cons_ne_nil _ _⟩, ⟨⟨⟨Go.Proofs.Tryz.func164, fun _ => rfl, fun m a => ref06_special_ok m a.1, trivial⟩, List.cons_ne_nil _ _⟩, trivial, trivial⟩, trivial⟩⟩⟩⟩⟩⟩
end Go.AmYtmodnblfcikjlaaGreat
namespace Go.AmYtmodnblfcikjlaaGreat
open Go Go.GxYtmodnblfcikjlaaGreat Go.RowKit
open Go.ChangeShapes Go.WideShapes Go.ChangeAt Go.WideMaps Go.WideElems

theorem addr_add' (b o j : Nat) : (⟨b, o, none⟩ : Addr).add j = ⟨b, o + j, none⟩ := by unfold Addr.add; split <;> simp_all
mutual
/-- A type of the program is read as a plain type. -/
def tyM (P : Program) : Nat → Ty → TypeId → Bool
  | 0, _, _ => false
  | _ + 1, .int k, t => match P.underlying t with
    | some (.int k') => decide (k' = k) && decide (P.cellsOf t = 1)
    | _ => false
  | _ + 1, .bool, t => match P.underlying t with
    | some .bool => decide (P.cellsOf t = 1)
    | _ => false
  | _ + 1, .str, t => match P.underlying t with
    | some .string => decide (P.cellsOf t = 1)
    | _ => false
  | n + 1, .list a, t => match P.underlying t with
    | some (.slice e) => decide (P.cellsOf t = 1) && decide (P.cellsOf e = a.size) && decide (0 < P.bytesOf e) && tyM P n a e
    | _ => false
  | n + 1, .term, t => termM P n t
  | n + 1, .pair a b, t => match P.underlying t with
    | some (.struct fs) => decide (P.cellsOf t = a.size + b.size) && fsM P n (.pair a b) 0 fs.toList
    | _ => false
  | n + 1, .one a, t => match P.underlying t with
    | some (.struct fs) => decide (P.cellsOf t = a.size) && fsM P n a 0 fs.toList
    | _ => false
def fsM (P : Program) : Nat → Ty → Nat → List Field → Bool
  | 0, _, _, _ => false
  | n + 1, τ, off, [f] => decide (f.offset = off) && decide (P.cellsOf f.type = τ.size) && tyM P n τ f.type
  | n + 1, .pair a b, off, f :: g :: r => decide (f.offset = off) && decide (P.cellsOf f.type = a.size) && tyM P n a f.type && fsM P n b (off + a.size) (g :: r)
  | _ + 1, _, _, _ => false
def termM (P : Program) : Nat → TypeId → Bool
  | 0, _ => false
  | n + 1, t => match P.underlying t with
    | some (.struct fs) => match fs.toList with
      | [f0, f1, f2, f3] => decide (P.cellsOf t = 4) && decide (f0.offset = 0) && decide (f1.offset = 1) && decide (f2.offset = 2) && decide (f3.offset = 3) && decide (P.cellsOf f3.type = 1) &&
          tyM P n (.int .i64) f0.type && tyM P n .str f1.type && tyM P n (.int .i64) f2.type && (match P.underlying f3.type with
          | some (.slice e) => decide (e = t) && decide (0 < P.bytesOf t)
          | _ => false)
      | _ => false
    | _ => false
end
/-- Bounds of a plain value. -/
def FitV : (τ : Ty) → Val τ → Prop
  | .int k, n => k.min ≤ n ∧ n ≤ k.max
  | .bool, _ => True
  | .str, s => s.length < 2 ^ 62
  | .term, t => FitT t
  | .list a, l => l.length < 2 ^ 62 ∧ ∀ x ∈ l, FitV a x
  | .pair a b, p => FitV a p.1 ∧ FitV b p.2
  | .one a, v => FitV a v
/-- All of a world's memory, to read. -/
def ghW (W : World) : Gh := ⟨fun b o => match W.cell? ⟨b, o, none⟩ with | some u => if u.oneCell' = true then some u else none | none => none, 0, fun _ => 0, 0, fun _ => 0, fun _ => 0, fun _ => 0, fun _ => 0⟩
theorem ghW_mem {W : World} {b o : Nat} {u : Value} : (ghW W).mem b o = some u ↔ W.cell? ⟨b, o, none⟩ = some u ∧ u.oneCell' = true := by
  show (match W.cell? ⟨b, o, none⟩ with | some u => if u.oneCell' = true then some u else none | none => none) = some u ↔ _
  cases W.cell? ⟨b, o, none⟩ with
  | none => simp
  | some v =>
    simp only [Option.some.injEq]
    constructor
    · intro h
      split at h
      · cases h; exact ⟨rfl, ‹_›⟩
      · cases h
    · rintro ⟨rfl, h⟩
      rw [if_pos h]
theorem ghW_inv (W : World) : Inv (ghW W) emp W :=
  ⟨rfl, rfl, fun b o u h => ghW_mem.1 h, fun i cs h => (by cases h), fun i j h => absurd h (Nat.not_lt_zero _), fun i h => absurd h (Nat.not_lt_zero _), fun r R h => (by cases h), fun r r' h => absurd h (Nat.not_lt_zero _)⟩
theorem cells_len {W : World} {base : Nat} {a : Addr} : ∀ {n : Nat} {cs : List Value}, W.cells? base a n = some cs → cs.length = n ∧ ∀ j u, cs[j]? = some u → W.cell? (a.add j) = some u := by
  intro n cs h
  unfold World.cells? at h
  split at h
  case isFalse => cases h
  have h1 := mapM_some_length h
  rw [List.length_range] at h1
  refine ⟨h1, fun j u hj => ?_⟩
  have hlt := getElem?_lt hj
  have := mapM_some_get h j j (by rw [List.getElem?_range (by omega)])
  rw [this]; exact hj
section
variable {H : Type} {enc : TypeId × Value → H} {P : Program} {W : World}
def ValAt (enc : TypeId × Value → H) (P : Program) (W : World) (fuel : Nat) : Prop := ∀ (n : Nat) (τ : Ty) (t : TypeId) (cs : List Value) (x : DataW H × List MemPlace), tyM P n τ t = true → DataW.trod enc P W 0 (fun _ => true) true fuel t cs = some x → (∀ k ∈ x.1.weights P t, k ≤ reachBytes) →
  ∃ v : Val τ, RepL (ghW W) (encV τ v) cs ∧ (∀ u ∈ cs, u.oneCell' = true) ∧ FitV τ v
theorem weightsAll_mem {e : TypeId} : ∀ {ds : List (DataW H)} {d : DataW H}, d ∈ ds → ∀ n ∈ d.weights P e, n ∈ DataW.weightsAll P e ds
  | d0 :: ds, d, h, n, hn => by
    simp only [DataW.weightsAll, List.mem_append]
    rcases List.mem_cons.1 h with rfl | h
    · exact Or.inl hn
    · exact Or.inr (weightsAll_mem h n hn)
theorem reach_62 {n k : Nat} (h : n * k ≤ reachBytes) (hk : 0 < k) : n < 2 ^ 62 := by
  have : n * 1 ≤ n * k := Nat.mul_le_mul_left _ hk
  have h2 : reachBytes = 140737488351232 := rfl
  omega
theorem choice_lt {α β : Type} {n : Nat} {Q : Nat → α → β → Prop} (h0 : 0 < n) (h : ∀ i, i < n → ∃ a b, Q i a b) : ∃ (f : Nat → α) (g : Nat → β), ∀ i, i < n → Q i (f i) (g i) := by
  obtain ⟨a0, b0, _⟩ := h 0 h0
  refine ⟨fun i => if hi : i < n then (h i hi).choose else a0, fun i => if hi : i < n then (h i hi).choose_spec.choose else b0, fun i hi => ?_⟩
  simp only [dif_pos hi]
  exact (h i hi).choose_spec.choose_spec
theorem rep1 {Γ : Gh} {x : AV} {u : Value} (h : Rep Γ x u) : RepL Γ [x] [u] := RepL.cons h RepL.nil
/-- A slice. -/
theorem slice_val {fuel : Nat} (hA : ∀ f, f < fuel → ValAt enc P W f) {a : Ty} {t e : TypeId} {m : Nat} {cs : List Value} {x : DataW H × List MemPlace} (ht : P.underlying t = some (.slice e)) (hc : P.cellsOf e = a.size) (hb : 0 < P.bytesOf e) (hm : tyM P m a e = true)
    (h : DataW.trod enc P W 0 (fun _ => true) true fuel t cs = some x) (hw : ∀ k ∈ x.1.weights P t, k ≤ reachBytes) :
    ∃ (l : List (Val a)) (u : Value), cs = [u] ∧ u.oneCell' = true ∧ Rep (ghW W) (.sl a.size (l.map (encV a)) 1) u ∧ l.length < 2 ^ 62 ∧ ∀ v ∈ l, FitV a v := by
  rcases DataW.trod_slice ht h with ⟨rfl, rfl⟩ | ⟨ad, len, cap, elems, rest, n, rfl, rfl, rfl, _, hl, _, hlen, hel, _, _⟩
  · refine ⟨[], _, rfl, rfl, ?_, by simp, (by intro v hv; cases hv)⟩
    exact .sl _ _ _ none 0 0 0 0 (fun _ _ => undef) rfl (fun _ => Nat.le_refl _) (fun h => by omega) (by intro e he; cases he) (by intro e he; cases he) (Ty.size_pos a) (.inl rfl) (by intro i e j x hi; cases hi) (by intro i e j x hi; cases hi)
  · have hwt : (elems.length + rest.length) * P.bytesOf e ≤ reachBytes ∧ ∀ k ∈ DataW.weightsAll P e (elems.map (·.1)), k ≤ reachBytes := by
      simp only [DataW.weights, ht, List.length_map, List.mem_cons, List.mem_append] at hw
      exact ⟨hw _ (.inl rfl), fun k hk => hw k (.inr (.inl hk))⟩
    have each : ∀ i, i < len → ∃ (v : Val a) (us : List Value), RepL (ghW W) (encV a v) us ∧ (∀ u ∈ us, u.oneCell' = true) ∧ FitV a v ∧ (∀ j u, us[j]? = some u → W.cell? ((ad.add (i * a.size)).add j) = some u) := by
      intro i hi
      have h1 := hel i hi
      rw [List.getElem?_eq_getElem (by omega), hc, Option.bind_eq_some_iff] at h1
      obtain ⟨us, h2, h3⟩ := h1
      obtain ⟨q1, q2⟩ := cells_len h2
      obtain ⟨v, g1, g2, g3⟩ := hA n (Nat.lt_succ_self _) m a e us _ hm h3 fun k hk => hwt.2 k (weightsAll_mem (List.mem_map_of_mem (List.getElem_mem _)) k hk)
      exact ⟨v, us, g1, g2, g3, q2⟩
    by_cases h0 : len = 0
    · subst h0
      refine ⟨[], _, rfl, rfl, ?_, by simp, (by intro v hv; cases hv)⟩
      exact .sl _ _ _ _ 0 cap 0 0 (fun _ _ => undef) rfl (fun _ => hl) (fun h => by omega) (by intro e he; cases he) (by intro e he; cases he) (Ty.size_pos a) (.inl rfl) (by intro i e j x hi; cases hi) (by intro i e j x hi; cases hi)
    -- the address
    obtain ⟨b, o, rfl⟩ : ∃ b o, ad = ⟨b, o, none⟩ := by
      obtain ⟨v, us, g1, _, _, g4⟩ := each 0 (by omega)
      have hl1 : us.length = a.size := by rw [g1.len]; exact encV_len a v
      have hp := Ty.size_pos a
      have h1 := g4 0 _ (List.getElem?_eq_getElem (by omega))
      rw [Nat.zero_mul] at h1
      have e1 : (ad.add 0).add 0 = ad := rfl
      rw [e1] at h1
      obtain ⟨b, o, sp⟩ := ad
      unfold World.cell? at h1
      split at h1
      · split at h1
        · cases h1
        · rename_i hs
          cases sp with
          | none => exact ⟨b, o, rfl⟩
          | some s => simp at hs
      · cases h1
    obtain ⟨vv, uu, hvu⟩ := choice_lt (by omega : 0 < len) each
    have w1 := fun i hi => (hvu i hi).1
    have w2 := fun i hi => (hvu i hi).2.1
    have w3 := fun i hi => (hvu i hi).2.2.1
    have w4 := fun i hi => (hvu i hi).2.2.2
    have hget : ∀ i, i < len → ((List.range len).map vv)[i]? = some (vv i) := fun i hi => by rw [List.getElem?_map, List.getElem?_range hi]; rfl
    have hcell : ∀ (i : Nat) (e' : List AV) (j : Nat) (y : AV), (((List.range len).map vv).map (encV a))[i]? = some e' → e'[j]? = some y → i < len ∧ ∃ u, (uu i)[j]? = some u ∧ Rep (ghW W) y u ∧ (ghW W).mem b (o + i * a.size + j) = some u := by
      intro i e' j y h1 h2
      have hi : i < len := by have := getElem?_lt h1; simpa using this
      rw [List.getElem?_map, hget i hi] at h1
      cases h1
      obtain ⟨u, q1, q2⟩ := (w1 i hi).get h2
      refine ⟨hi, u, q1, q2, ghW_mem.2 ⟨?_, w2 i hi u (List.mem_of_getElem? q1)⟩⟩
      have := w4 i hi j u q1
      rw [addr_add', addr_add'] at this
      exact this
    refine ⟨(List.range len).map vv, _, rfl, rfl, ?_, ?_, ?_⟩
    · refine .sl _ _ _ _ len cap b o (fun i j => (uu i).getD j undef) (by simp) (fun _ => hl) (fun h => by omega) ?_ ?_ (Ty.size_pos a) (.inr rfl) ?_ ?_
      · intro e' he
        obtain ⟨v, _, rfl⟩ := List.mem_map.1 he
        exact encV_len a v
      · intro e' he
        obtain ⟨v, _, rfl⟩ := List.mem_map.1 he
        exact encV_plain a v
      · intro i e' j y h1 h2
        obtain ⟨_, u, q1, q2, q3⟩ := hcell i e' j y h1 h2
        rw [List.getD_eq_getElem?_getD, q1]; exact q3
      · intro i e' j y h1 h2
        obtain ⟨_, u, q1, q2, q3⟩ := hcell i e' j y h1 h2
        rw [List.getD_eq_getElem?_getD, q1]; exact q2
    · rw [List.length_map, List.length_range, ← hlen]
      refine reach_62 (k := P.bytesOf e) (Nat.le_trans (Nat.mul_le_mul_right _ ?_) hwt.1) hb
      omega
    · intro v hv
      obtain ⟨i, hi, rfl⟩ := List.mem_map.1 hv
      exact w3 i (List.mem_range.1 hi)
/-- The fields of a struct. -/
theorem fields_val {fuel : Nat} (hA : ValAt enc P W fuel) : ∀ (n : Nat) (τ : Ty) (off : Nat) (fs : List Field) (cs : List Value) (xs : List (DataW H × List MemPlace)), fsM P n τ off fs = true → xs.length = fs.length →
    (∀ (i : Nat) (f : Field), fs[i]? = some f → DataW.trod enc P W 0 (fun _ => true) true fuel f.type ((cs.drop f.offset).take (P.cellsOf f.type)) = xs[i]?) → (∀ k ∈ DataW.weightsEach P (fs.map (·.type)) (xs.map (·.1)), k ≤ reachBytes) → off + τ.size ≤ cs.length →
    ∃ v : Val τ, RepL (ghW W) (encV τ v) ((cs.drop off).take τ.size) ∧ (∀ u ∈ (cs.drop off).take τ.size, u.oneCell' = true) ∧ FitV τ v := by
  intro n
  induction n with
  | zero => intro τ off fs cs xs h; simp [fsM] at h
  | succ n ih =>
    intro τ off fs cs xs h hl hx hw hlen
    have one : ∀ f x, fs = [f] → xs = [x] → (decide (f.offset = off) && decide (P.cellsOf f.type = τ.size) && tyM P n τ f.type) = true → ∃ v : Val τ, RepL (ghW W) (encV τ v) ((cs.drop off).take τ.size) ∧ (∀ u ∈ (cs.drop off).take τ.size, u.oneCell' = true) ∧ FitV τ v := by
      intro f x hf hxs h
      simp only [Bool.and_eq_true, decide_eq_true_eq] at h
      obtain ⟨⟨h1, h2⟩, h3⟩ := h
      subst hf; subst hxs
      have h4 := hx 0 f rfl
      rw [h1, h2] at h4
      exact hA n τ f.type _ x h3 h4 fun k hk => hw k (by simp only [List.map_cons, List.map_nil, DataW.weightsEach, List.append_nil]; exact hk)
    cases fs with
    | nil => cases τ <;> simp [fsM] at h
    | cons f r =>
      cases xs with
      | nil => simp at hl
      | cons x xs =>
        cases r with
        | nil =>
          have hxn : xs = [] := List.eq_nil_of_length_eq_zero (by simpa using hl)
          subst hxn
          refine one f x rfl rfl ?_
          cases τ <;> exact h
        | cons g r =>
          cases τ with
          | pair a b =>
            simp only [fsM, Bool.and_eq_true, decide_eq_true_eq] at h
            obtain ⟨⟨⟨h1, h2⟩, h3⟩, h4⟩ := h
            have h5 := hx 0 f rfl
            rw [h1, h2] at h5
            have hsz : off + (a.size + b.size) ≤ cs.length := hlen
            simp only [List.map_cons, DataW.weightsEach, List.mem_append] at hw
            obtain ⟨v, v1, v2, v3⟩ := hA n a f.type _ x h3 h5 fun k hk => hw k (.inl hk)
            obtain ⟨v', v1', v2', v3'⟩ := ih b (off + a.size) (g :: r) cs xs h4 (by simpa using hl) (fun i f' hf' => hx (i + 1) f' hf') (fun k hk => hw k (.inr hk)) (by omega)
            have e : (cs.drop off).take (a.size + b.size) = (cs.drop off).take a.size ++ (cs.drop (off + a.size)).take b.size := by
              rw [List.take_add, List.drop_drop]
            refine ⟨(v, v'), ?_, ?_, v3, v3'⟩
            · show RepL _ (encV a v ++ encV b v') ((cs.drop off).take (a.size + b.size))
              rw [e]; exact v1.append v1'
            · show ∀ u ∈ (cs.drop off).take (a.size + b.size), _
              rw [e]
              intro u hu
              exact (List.mem_append.1 hu).elim (v2 u) (v2' u)
          | _ => simp [fsM] at h
theorem rep_int {Γ : Gh} (k : IntKind) (n : Int) : RepL Γ (encV (.int k) n) [.int k n] := rep1 (.v _ rfl)
theorem trod_val : ∀ fuel, ValAt enc P W fuel := by
  intro fuel
  induction fuel using Nat.strongRecOn with
  | ind fuel ihA =>
    have ints : ∀ {k : IntKind} {t : TypeId} {cs : List Value} {x : DataW H × List MemPlace} {f : Nat}, P.underlying t = some (.int k) → DataW.trod enc P W 0 (fun _ => true) true f t cs = some x → ∃ n : Int, cs = [.int k n] ∧ k.min ≤ n ∧ n ≤ k.max := by
      intro k t cs x f ht h
      obtain ⟨n, rfl, _, hwf⟩ := DataW.trod_int ht h
      simp only [Lit.wf, Bool.and_eq_true, decide_eq_true_eq] at hwf
      exact ⟨n, rfl, hwf⟩
    have strs : ∀ {t : TypeId} {cs : List Value} {x : DataW H × List MemPlace} {f : Nat}, P.underlying t = some .string → DataW.trod enc P W 0 (fun _ => true) true f t cs = some x → (∀ k ∈ x.1.weights P t, k ≤ reachBytes) → ∃ s : ByteArray, cs = [.string s] ∧ s.data.toList.length < 2 ^ 62 := by
      intro t cs x f ht h hw
      obtain ⟨s, rfl, rfl, _⟩ := DataW.trod_string ht h
      refine ⟨s, rfl, ?_⟩
      have := hw s.data.toList.length (by simp [DataW.weights])
      exact reach_62 (k := 1) (by omega) (by decide)
    intro n τ t cs x hm h hw
    cases n with
    | zero => cases τ <;> simp [tyM] at hm
    | succ n =>
    cases τ with
    | int k =>
      simp only [tyM] at hm
      split at hm
      · rename_i k' ht
        simp only [Bool.and_eq_true, decide_eq_true_eq] at hm
        obtain ⟨rfl, _⟩ := hm
        obtain ⟨i, rfl, h1, h2⟩ := ints ht h
        exact ⟨i, rep_int _ _, by intro u hu; rw [List.mem_singleton.1 hu]; rfl, h1, h2⟩
      · cases hm
    | bool =>
      simp only [tyM] at hm
      split at hm
      · rename_i ht
        obtain ⟨b, rfl, _⟩ := DataW.trod_bool ht h
        exact ⟨b, rep1 (.v _ rfl), by intro u hu; rw [List.mem_singleton.1 hu]; rfl, trivial⟩
      · cases hm
    | str =>
      simp only [tyM] at hm
      split at hm
      · rename_i ht
        obtain ⟨s, rfl, h1⟩ := strs ht h hw
        refine ⟨s.data.toList, ?_, by intro u hu; rw [List.mem_singleton.1 hu]; rfl, h1⟩
        exact rep1 (.v _ rfl)
      · cases hm
    | list a =>
      simp only [tyM] at hm
      split at hm
      · rename_i e ht
        simp only [Bool.and_eq_true, decide_eq_true_eq] at hm
        obtain ⟨⟨⟨_, hc⟩, hb⟩, hm⟩ := hm
        obtain ⟨l, u, rfl, h1, h2, h3, h4⟩ := slice_val (fun f hf => ihA f hf) ht hc hb hm h hw
        exact ⟨l, rep1 h2, by intro u' hu; rw [List.mem_singleton.1 hu]; exact h1, h3, h4⟩
      · cases hm
    | pair a b =>
      simp only [tyM] at hm
      split at hm
      · rename_i fs ht
        simp only [Bool.and_eq_true, decide_eq_true_eq] at hm
        obtain ⟨hc, hm⟩ := hm
        obtain ⟨xs, f, rfl, rfl, h1, h2, h3⟩ := DataW.trod_struct ht h
        have hsz : (Ty.pair a b).size = a.size + b.size := rfl
        obtain ⟨v, v1, v2, v3⟩ := fields_val (ihA f (Nat.lt_succ_self _)) n (.pair a b) 0 fs.toList cs xs hm (by simpa using h2) (fun i g hg => h3 i g (by simpa using hg)) (by simpa [DataW.weights, ht] using hw) (by rw [h1, hc, hsz]; omega)
        rw [List.drop_zero, List.take_of_length_le (by rw [h1, hc, hsz]; exact Nat.le_refl _)] at v1 v2
        exact ⟨v, v1, v2, v3⟩
      · cases hm
    | one a =>
      simp only [tyM] at hm
      split at hm
      · rename_i fs ht
        simp only [Bool.and_eq_true, decide_eq_true_eq] at hm
        obtain ⟨hc, hm⟩ := hm
        obtain ⟨xs, f, rfl, rfl, h1, h2, h3⟩ := DataW.trod_struct ht h
        obtain ⟨v, v1, v2, v3⟩ := fields_val (ihA f (Nat.lt_succ_self _)) n a 0 fs.toList cs xs hm (by simpa using h2) (fun i g hg => h3 i g (by simpa using hg)) (by simpa [DataW.weights, ht] using hw) (by rw [h1, hc]; omega)
        rw [List.drop_zero, List.take_of_length_le (by rw [h1, hc]; exact Nat.le_refl _)] at v1 v2
        exact ⟨v, v1, v2, v3⟩
      · cases hm
    | term =>
      have hm0 := hm
      simp only [tyM] at hm
      cases n with
      | zero => simp [termM] at hm
      | succ n =>
      simp only [termM] at hm
      split at hm
      case h_2 => cases hm
      rename_i fs ht
      split at hm
      case h_2 => cases hm
      rename_i f0 f1 f2 f3 hfs
      simp only [Bool.and_eq_true, decide_eq_true_eq] at hm
      obtain ⟨⟨⟨⟨⟨⟨⟨⟨⟨hc, o0⟩, o1⟩, o2⟩, o3⟩, hc3⟩, m0⟩, m1⟩, m2⟩, m3⟩ := hm
      split at m3
      case h_2 => cases m3
      rename_i e ht3
      simp only [Bool.and_eq_true, decide_eq_true_eq] at m3
      obtain ⟨rfl, hb⟩ := m3
      obtain ⟨xs, f, rfl, rfl, h1, h2, h3⟩ := DataW.trod_struct ht h
      have hsz : fs.size = 4 := by rw [← Array.length_toList, hfs]; rfl
      rw [hsz] at h2
      rw [hc] at h1
      obtain ⟨c0, c1, c2, c3, rfl⟩ : ∃ c0 c1 c2 c3, cs = [c0, c1, c2, c3] := by
        match cs, h1 with
        | [a, b, c, d], _ => exact ⟨a, b, c, d, rfl⟩
      obtain ⟨x0, x1, x2, x3, rfl⟩ : ∃ x0 x1 x2 x3, xs = [x0, x1, x2, x3] := by
        match xs, h2 with
        | [a, b, c, d], _ => exact ⟨a, b, c, d, rfl⟩
      have fg : ∀ i g, [f0, f1, f2, f3][i]? = some g → fs[i]? = some g := fun i g hg => by rw [← hfs, Array.getElem?_toList] at hg; exact hg
      have s0 := h3 0 f0 (fg 0 _ rfl)
      have s1 := h3 1 f1 (fg 1 _ rfl)
      have s2 := h3 2 f2 (fg 2 _ rfl)
      have s3 := h3 3 f3 (fg 3 _ rfl)
      have cOf : ∀ {τ : Ty} {t : TypeId}, (∃ k, τ = .int k) ∨ τ = .str → tyM P n τ t = true → P.cellsOf t = 1 := by
        intro τ t hτ hm
        cases n with
        | zero => cases τ <;> simp [tyM] at hm
        | succ n =>
          rcases hτ with ⟨k, rfl⟩ | rfl
          · simp only [tyM] at hm
            split at hm
            · simp only [Bool.and_eq_true, decide_eq_true_eq] at hm; exact hm.2
            · cases hm
          · simp only [tyM] at hm
            split at hm
            · exact of_decide_eq_true hm
            · cases hm
      have uInt : ∀ {k : IntKind} {t : TypeId}, tyM P n (.int k) t = true → P.underlying t = some (.int k) := by
        intro k t hm
        cases n with
        | zero => simp [tyM] at hm
        | succ n =>
          simp only [tyM] at hm
          split at hm
          · rename_i k' ht
            simp only [Bool.and_eq_true, decide_eq_true_eq] at hm
            rw [ht, hm.1]
          · cases hm
      have uStr : ∀ {t : TypeId}, tyM P n .str t = true → P.underlying t = some .string := by
        intro t hm
        cases n with
        | zero => simp [tyM] at hm
        | succ n =>
          simp only [tyM] at hm
          split at hm
          · assumption
          · cases hm
      rw [o0, cOf (.inl ⟨_, rfl⟩) m0] at s0
      rw [o1, cOf (.inr rfl) m1] at s1
      rw [o2, cOf (.inl ⟨_, rfl⟩) m2] at s2
      rw [o3, hc3] at s3
      have hwE : ∀ k ∈ DataW.weightsEach P [f0.type, f1.type, f2.type, f3.type] [x0.1, x1.1, x2.1, x3.1], k ≤ reachBytes := by
        intro k hk
        refine hw k ?_
        simp only [DataW.weights, ht, hfs]
        exact hk
      simp only [DataW.weightsEach, List.mem_append] at hwE
      obtain ⟨i0, e0, _, _⟩ := ints (uInt m0) (f := f) (x := x0) s0
      obtain ⟨i1, e1, b1⟩ := strs (uStr m1) (f := f) (x := x1) s1 fun k hk => hwE k (.inr (.inl hk))
      obtain ⟨i2, e2, _, _⟩ := ints (uInt m2) (f := f) (x := x2) s2
      obtain ⟨l, u, e3, b3, r3, l3, v3⟩ := slice_val (a := .term) (fun g hg => ihA g (Nat.lt_succ_of_lt hg)) ht3 hc hb hm0 s3 fun k hk => hwE k (.inr (.inr (.inr (.inl hk))))
      have g0 : c0 = .int .i64 i0 := by simpa using e0
      have g1 : c1 = .string i1 := by simpa using e1
      have g2 : c2 = .int .i64 i2 := by simpa using e2
      have g3 : c3 = u := by simpa using e3
      subst g0; subst g1; subst g2; subst g3
      refine ⟨.mk i0 i1.data.toList i2 l, ?_, ?_, (fitT_eq _).2 ⟨l3, b1, v3⟩⟩
      · show RepL _ (encT1 _) _
        rw [encT1, encL1_eq]
        exact RepL.cons (.v _ rfl) (RepL.cons (.v _ rfl) (RepL.cons (.v _ rfl) (rep1 r3)))
      · intro u hu
        simp only [List.mem_cons, List.not_mem_nil, or_false] at hu
        rcases hu with rfl | rfl | rfl | rfl
        · rfl
        · rfl
        · rfl
        · exact b3
end
end Go.AmYtmodnblfcikjlaaGreat
namespace Go.GxYtmodnblfcikjlaaGreat
open Go.RowKit Go.ChangeShapes Go.WideShapes Go.ChangeAt
open Go.WideMaps Go.WideElems
section
variable {H : Type} {enc : TypeId × Value → H} {P : Program}

theorem trodAll_below (hl : laidOutB P = true) {W W' : World} (hb : Below W.heap.size W W') : ∀ {ts : List TypeId} {vs : List Value} {ds : List (DataW H)} {ps : List MemPlace},
    (∀ t ∈ ts, P.readableRec t = true ∧ t < P.types.size) → DataW.TrodAll enc P W 0 (fun _ => true) true ts vs ds ps → (∀ x ∈ ps, x.block < W.heap.size) →
    DataW.TrodAll enc P W' 0 (fun b => decide (b < W.heap.size)) true ts vs ds ps
  | [], [], [], _, _, h, _ => h
  | t :: ts, v :: vs, d :: ds, _, hr, ⟨p, q, h1, h2, he⟩, hlt => by
    subst he
    refine ⟨p, q, ?_, ?_, rfl⟩
    · exact Below.trod hl (hr t (List.mem_cons_self ..)).1 (hr t (List.mem_cons_self ..)).2 h1 hb fun x hx => hlt x (List.mem_append_left _ hx)
    · exact trodAll_below hl hb (fun t ht => hr t (List.mem_cons_of_mem _ ht)) h2 fun x hx => hlt x (List.mem_append_right _ hx)
  | [], [], _ :: _, _, _, h, _ => h.elim
  | [], _ :: _, _, _, _, h, _ => h.elim
  | _ :: _, [], _, _, _, h, _ => h.elim
  | _ :: _, _ :: _, [], _, _, h, _ => h.elim

theorem law_post {f : Func} {s : ChangeSpec} {apart fresh handsOn : Bool} {W W' : World} {args : Array Value} {ds gs : List (DataW H)} {before : List MemPlace} {ts : List TypeId} {T : TypeId}
    (hl : laidOutB P = true) (hts : f.params.toList = ts) (hr : ts.all (fun t => P.readableRec t && decide (t < P.types.size)) = true) (hv : s.vars = [])
    (hrt : f.resultTypes = #[T]) (hT : P.underlying T = some .bool)
    (hW : DataW.Whole enc P f.params.toList s.vars apart W args.toList ds gs before)
    (hres : (s.fn H (ds ++ gs)).results = [.lit (.bool true)]) (hargs : (s.fn H (ds ++ gs)).args = ds) (hvs : (s.fn H (ds ++ gs)).vars = [])
    (hb : Below W.heap.size W W') : s.post enc P f apart fresh handsOn false W args (.bool true) W' := by
  have hW' := hW
  have hlt := fun x hx => hW'.lt x hx
  obtain ⟨p, q, hA, hV, rfl, hfz, hnd⟩ := hW
  rw [hv] at hV
  have hgs : gs = [] ∧ q = [] := trodVars_none hV
  obtain ⟨rfl, rfl⟩ := hgs
  rw [List.append_nil] at *
  refine ⟨ds, [], p, [], p, [], ?_, ?_, ?_, ?_, ?_, fun h => by cases h⟩
  · exact hW'
  · rw [hrt, List.append_nil, hres]
    exact trodAll_mk1 (shut_bool hT _)
  · rw [List.append_nil, hargs]
    refine trodAll_below hl hb (ts := f.params.toList) ?_ hA hlt
    intro t ht
    rw [hts] at ht
    have := List.all_eq_true.1 hr t ht
    simpa using this
  · rw [List.append_nil, hvs, hv]
    rfl
  · exact hb.frame _
end
end Go.GxYtmodnblfcikjlaaGreat
namespace Go.Proofs.YtmodnblfcikjlaaGreat
theorem Tryz.own : ownKnob Tryz.prog.godebug = none := by kernel_rfl
theorem Tryz.laidOut : laidOutB Tryz.prog = true := by kernel_rfl
end Go.Proofs.YtmodnblfcikjlaaGreat
namespace Go.AmYtmodnblfcikjlaaGreat
open Go Go.GxYtmodnblfcikjlaaGreat Go.RowKit

theorem dpack_enc : ∀ (τ : Ty) (v : Val τ), dpackV τ (encA τ v) = some v := by
  intro τ v
  have h := decV_enc τ v
  cases τ <;> exact h
def allVal : List ATy → Bool
  | [] => true
  | .val _ :: r => allVal r
  | .fn :: _ => false
theorem dparse_encAs : ∀ (ts : List ATy) (a : ArgsV ts), allVal ts = true → dparseA ts (encAs ts a []) = some a ∧ fnsA (encAs ts a []) = []
  | [], _, _ => ⟨rfl, rfl⟩
  | .val τ :: r, a, h => by
    obtain ⟨h1, h2⟩ := dparse_encAs r a.2 h
    constructor
    · show pVal (dpackV τ) (dparseA r) (encA τ a.1 :: encAs r a.2 []) = _
      simp only [pVal, dpack_enc, h1]
    · show fnsA (encA τ a.1 :: encAs r a.2 []) = []
      have := (dpackV_plain (dpack_enc τ a.1)).2
      cases hx : encA τ a.1 <;> first | exact h2 | exact absurd hx (this _ _)
  | .fn :: _, _, h => by cases h
/-- A law that answers true. -/
theorem law_calls {P : Program} {f : FuncId} {c : TC} (hp : PrimOk P f (pureP (sigP c f))) {ts : List ATy} {fn : ArgsV ts → Option (ResV [.bool])} (hg : c.pf f [] = some ⟨ts, [.bool], fn⟩) (ht : allVal ts = true) {a : ArgsV ts} (hv : fn a = some true)
    {W : World} {vals : List Value} (hr : RepL (ghW W) (encAs ts a []) vals) : Calls P f vals.toArray W fun e w' => e = .returned (.bool true) ∧ Below W.heap.size W w' := by
  obtain ⟨h1, h2⟩ := dparse_encAs ts a ht
  have hs : sigP c f (encAs ts a []) = some (.v (.bool true)) := by
    unfold sigP
    rw [h2, hg]
    simp only
    rw [h1]
    simp only
    rw [hv]
    rfl
  have hpp : pureP (sigP c f) emp (encAs ts a []) = some (.v (.bool true), none) := by
    show (match sigP c f (encAs ts a []) with | some v => some (v, none) | none => none) = _
    rw [hs]
  have := hp.2 (ghW W) emp W (encAs ts a []) vals _ (ghW_inv W) hr hpp
  refine Calls.mono this ?_
  rintro e w' ⟨v, Γ', rfl, hx, _, hrv, _⟩
  have hv := v_inv hrv
  subst hv
  refine ⟨rfl, hx.os, hx.tape, hx.output, hx.size, fun b hb => hx.block b hb ?_⟩
  rintro (⟨i, hi, _⟩ | ⟨r, hr, _⟩)
  · exact absurd hi (Nat.not_lt_zero _)
  · exact absurd hr (Nat.not_lt_zero _)
theorem rep_of_cells {Γ : Gh} {τ : Ty} {x : Val τ} {v : Value} (h : RepL Γ (encV τ x) v.cells.toList) (h1 : ∀ u ∈ v.cells.toList, u.oneCell' = true) (hs : τ.agg = true → τ.size ≠ 1) (hna : τ.agg = false → ∀ cs, v ≠ .agg cs) : Rep Γ (encA τ x) v := by
  have hlen := h.len
  rw [encV_len] at hlen
  have agg : encA τ x = .agg (encV τ x) → τ.agg = true → Rep Γ (encA τ x) v := by
    intro he ha
    rw [he]
    have hne := hs ha
    cases v with
    | agg cs => exact .agg _ _ h.len h1 h.rep
    | _ => exact absurd (show τ.size = 1 by rw [← hlen]; rfl) hne
  have one : ∀ {y : AV}, encV τ x = [y] → encA τ x = y → τ.agg = false → Rep Γ (encA τ x) v := by
    intro y he hy ha
    have hc : v.cells = #[v] := by
      cases v with
      | agg cs => exact absurd rfl (hna ha cs)
      | _ => rfl
    rw [he, hc] at h
    rw [hy]
    exact h.rep 0 y v rfl rfl
  cases τ with
  | term => exact agg rfl rfl
  | pair a b => exact agg rfl rfl
  | one a => exact agg rfl rfl
  | _ => exact one rfl rfl rfl
open Go.ChangeShapes Go.WideShapes Go.ChangeAt Go.WideMaps Go.WideElems
theorem not_agg {P : Program} {n : Nat} {τ : Ty} {t : TypeId} {W : World} {base : Nat} {v : Value} (hm : tyM P n τ t = true) (hv : Value.okWide P W .any base t v) : τ.agg = false → ∀ cs, v ≠ .agg cs := by
  intro ha cs
  cases n with
  | zero => cases τ <;> simp [tyM] at hm
  | succ n =>
  cases τ with
  | int k =>
    simp only [tyM] at hm
    split at hm
    · rename_i ht; obtain ⟨_, rfl⟩ := okWide_int ht hv; intro h; cases h
    · cases hm
  | bool =>
    simp only [tyM] at hm
    split at hm
    · rename_i ht; obtain ⟨_, rfl⟩ := okWide_bool ht hv; intro h; cases h
    · cases hm
  | str =>
    simp only [tyM] at hm
    split at hm
    · rename_i ht; obtain ⟨_, rfl⟩ := okWide_string ht hv; intro h; cases h
    · cases hm
  | list a =>
    simp only [tyM] at hm
    split at hm
    · rename_i e ht; obtain ⟨_, _, _, rfl⟩ := okWide_slice ht hv; intro h; cases h
    · cases hm
  | _ => cases ha
/-- An argument, as a plain value. -/
theorem arg_val {H : Type} {enc : TypeId × Value → H} {P : Program} {W : World} {n : Nat} {τ : Ty} {t : TypeId} {v : Value} {d : DataW H} {ps : List MemPlace} {base : Nat} (hm : tyM P n τ t = true) (hs : τ.agg = true → τ.size ≠ 1) (hv : Value.okWide P W .any base t v)
    (h : DataW.Trod enc P W 0 (fun _ => true) true t v d ps) (hw : ∀ k ∈ d.weights P t, k ≤ reachBytes) : ∃ x : Val τ, Rep (ghW W) (encA τ x) v ∧ FitV τ x := by
  obtain ⟨fuel, hf⟩ := h
  obtain ⟨x, h1, h2, h3⟩ := trod_val fuel n τ t v.cells.toList (d, ps) hm hf hw
  exact ⟨x, rep_of_cells h1 h2 hs (not_agg hm hv), h3⟩
end Go.AmYtmodnblfcikjlaaGreat
