/- Part 5 of what the proofs stand on: plain functions of the program, and that they are its functions. -/
import Derived.Test.YtmodnblfcikjlaaM4
import Derived.KernelRfl
import Derived.Test.YtmodnblfcikjlaaM3
import Derived.SliceStrings
import Derived.SizedLaws
import Derived.Test.YtmodnblfcikjlaaM1
import Derived.ProofKit
import Derived.Test.YtmodnblfcikjlaaRows
set_option linter.unusedVariables false
set_option linter.unusedSimpArgs false
namespace Go.AmYtmodnblfcikjlaa
open Go Go.GxYtmodnblfcikjlaa Go.Lib
theorem is_ev (t : T) (n : List UInt8) : Ev (fun m _ => theory_is m t n) (isN t n) := by
  refine Ev.succ ?_
  simp only [theory_is_e, theory_is_s0]
  unfold isN
  refine Ev.ite (fun h => ?_) fun h => ?_
  · rw [ieq_t] at h; exact Ev.ret (by rw [h]; rfl)
  · rw [ieq_f] at h; exact Ev.ret (by rw [show (t.kind == 3) = false from beq_eq_false_iff_ne.2 h]; rfl)
theorem ris_ev (t : T) (n : List UInt8) : Ev (fun m _ => ref09_Is m t n) (isN t n) := by
  refine Ev.succ ?_
  simp only [ref09_Is_e, ref09_Is_s0]
  unfold isN
  refine Ev.ite (fun h => ?_) fun h => ?_
  · rw [ieq_t] at h; exact Ev.ret (by rw [h]; rfl)
  · rw [ieq_f] at h; exact Ev.ret (by rw [show (t.kind == 3) = false from beq_eq_false_iff_ne.2 h]; rfl)
theorem app_ev (n : List UInt8) (l : List T) : Ev (fun m _ => theory_app m n l) (apT n l) := Ev.succ (Ev.pure _)
theorem rapp_ev (n : List UInt8) (l : List T) (hl : l.length ≤ 1000000000) : Ev (fun m _ => ref01_App m n l) (apT n l) := by
  refine Ev.succ ?_
  simp only [ref01_App_e, ref01_App_s0]
  refine Ev.ct (room_t (by simp; omega) (by omega)) ?_
  refine Ev.case (fun h => ?_) fun x t h => ?_
  · subst h; exact Ev.pure _
  · subst h; exact Ev.pure _
/-- The symbol of a name. -/
def symS (n : List UInt8) : List UInt8 × Int × Int × Int := (symL.find? fun r => r.1 == n).getD ([], 0, 0, 0)
theorem symS_two (n : List UInt8) : (symS n).2 = symOf n := by
  unfold symS symOf
  cases symL.find? fun r => r.1 == n <;> rfl
theorem symbol_ev (n : List UInt8) : Ev (fun m _ => theory_symbol m n) (symS n) := by
  refine Ev.succ ?_
  simp only [theory_symbol_e, theory_symbol_s0]
  refine Ev.bind (a := symL) (Ev.pure _) ?_
  have key := ev_list (P := fun i => Ev (fun m k => theory_symbol_L m k n symL symL.length i [] 0 0 0) (((symL.drop i).find? fun r => r.1 == n).getD ([], 0, 0, 0))) symL (by decide)
    (fun hc => by
      refine Ev.loop ?_
      simp only [theory_symbol_l1, theory_symbol_s1]
      refine Ev.cf hc ?_
      exact Ev.pure _)
    (fun i x hx hd hc hg hi hP => by
      refine Ev.loop ?_
      simp only [theory_symbol_l1, theory_symbol_s1]
      refine Ev.ct hc (Ev.some hg ?_)
      rw [hd, List.find?_cons, hi]
      refine Ev.ite (fun h => ?_) fun h => ?_
      · exact Ev.ret (by rw [show (x.1 == n) = true from h]; rfl)
      · rw [show (x.1 == n) = false from h]; exact hP)
  refine Ev.diag (L := fun m k => theory_symbol_L m k n symL symL.length 0 [] 0 0 0) ?_
  exact key 0 (Nat.zero_le _)
/-- What an arity says. -/
theorem chkK_len {t : T} (h3 : t.kind = 3) (h : chkK t = 0) : (symOf t.name).2.2 ≠ 0 ∧ (symOf t.name).1 ≤ (t.kids.length : Int) ∧ (t.kids.length : Int) ≤ (symOf t.name).2.1 ∧ privB t = false := by
  unfold chkK at h
  rw [if_neg (show ¬ t.kind ≠ 3 from fun hh => hh h3)] at h
  split at h
  · omega
  rename_i h1
  split at h
  · omega
  rename_i h2
  split at h
  · omega
  rename_i h4
  exact ⟨h1, by omega, by omega, by simpa using h4⟩
theorem kid_get {t : T} {i : Nat} (h : i < t.kids.length) : lget t.kids (i : Int) = some (kid t i) := by
  rw [lget_nat]
  unfold kid
  rw [List.getD_eq_getElem?_getD, List.getElem?_eq_getElem h]; rfl
theorem kid_0 {t : T} (h : 0 < t.kids.length) : lget t.kids 0 = some (kid t 0) := kid_get (i := 0) h
theorem kid_1 {t : T} (h : 1 < t.kids.length) : lget t.kids 1 = some (kid t 1) := kid_get (i := 1) h
theorem kid_mem {t : T} {i : Nat} (h : i < t.kids.length) : kid t i ∈ t.kids := by
  unfold kid
  rw [List.getD_eq_getElem?_getD, List.getElem?_eq_getElem h]
  exact List.getElem_mem h
theorem isN_t {t : T} {n : List UInt8} : isN t n = true ↔ t.kind = 3 ∧ t.name = n := by
  unfold isN
  rw [Bool.and_eq_true, beq_iff_eq, beq_iff_eq]
theorem tcheck_ev (t : T) : size t ≤ 1000000000 → Ev (fun m _ => theory_check m t) (chkE t) := by
  induction t using T.ind with
  | h t ih =>
    intro hs
    refine Ev.succ ?_
    simp only [theory_check_e, theory_check_s0]
    have hl := kids_lt t
    rw [chkE_eq]
    refine Ev.ite (fun h => ?_) fun h3 => ?_
    · rw [bnt, ieq_f] at h; exact Ev.ret (by rw [if_pos h])
    rw [bnf, ieq_t] at h3
    rw [if_neg (show ¬ t.kind ≠ 3 from fun hh => hh h3)]
    have k2 := ev_list (P := fun i => Ev (fun m k => (theory_check_L m (theory_check m) k).2 t.kids t.kids.length i) (((t.kids.drop i).map chkE).foldl thn 0)) t.kids (by omega)
      (fun hc => by
        refine Ev.loop ?_
        simp only [theory_check_l2, theory_check_s2]
        refine Ev.cf hc ?_
        exact Ev.ret (by simp))
      (fun i x hx hd hc hg hi hP => by
        refine Ev.loop ?_
        simp only [theory_check_l2, theory_check_s2, re_eq]
        have hm := List.mem_of_getElem? hx
        have h1 := kid_lt t x hm
        refine Ev.ct hc (Ev.some hg (Ev.bind (ih x hm (by omega)) ?_))
        rw [hd, List.map_cons, foldl_thn_zero, hi]
        refine Ev.ite (fun h => ?_) fun h => ?_
        · rw [bnt, ieq_f] at h; exact Ev.ret (by rw [foldl_thn_ne _ h])
        · rw [bnf, ieq_t] at h; rw [h]; exact hP)
    have k2' : Ev (fun m k => (theory_check_L m (theory_check m) k).2 t.kids t.kids.length 0) ((t.kids.map chkE).foldl thn 0) := (k2 0 (Nat.zero_le _)).res (by rw [List.drop_zero])
    have k1 := ev_list (P := fun i => Ev (fun m k => (theory_check_L m (theory_check m) k).1 t.kids t.kids.length i t.kind t.name t.sort t.kids) (if (t.kids.drop i).any (fun k => decide (k.kind = 3) || decide (k.sort ≠ 1)) = true then 10 else (t.kids.map chkE).foldl thn 0)) t.kids (by omega)
      (fun hc => by
        refine Ev.loop ?_
        simp only [theory_check_l1, theory_check_s1]
        refine Ev.cf hc ?_
        refine k2'.res ?_
        rw [List.drop_length]; rfl)
      (fun i x hx hd hc hg hi hP => by
        refine Ev.loop ?_
        simp only [theory_check_l1, theory_check_s1, re_eq]
        refine Ev.ct hc (Ev.some hg ?_)
        rw [hd, List.any_cons, hi]
        refine Ev.ite (fun h => ?_) fun h => ?_
        · rw [ieq_t] at h; exact Ev.ret (by rw [decide_eq_true h]; rfl)
        rw [ieq_f] at h
        rw [decide_eq_false h]
        refine Ev.ite (fun h' => ?_) fun h' => ?_
        · rw [bnt, ieq_f] at h'; exact Ev.ret (by rw [decide_eq_true h']; rfl)
        · rw [bnf, ieq_t] at h'; rw [decide_eq_false (fun hh => hh h')]; exact hP)
    have fin2 : chkK t = 0 → Ev (fun m _ => (theory_check_L m (theory_check m) m).2 t.kids t.kids.length 0) ((t.kids.map chkE).foldl thn (chkK t)) := fun h => by
      rw [h]
      exact Ev.diag (L := fun m k => (theory_check_L m (theory_check m) k).2 t.kids t.kids.length 0) k2'
    have fin1 : privB t = t.kids.any (fun k => decide (k.kind = 3) || decide (k.sort ≠ 1)) → chkK t = (if privB t = true then 10 else 0) → Ev (fun m _ => (theory_check_L m (theory_check m) m).1 t.kids t.kids.length 0 t.kind t.name t.sort t.kids) ((t.kids.map chkE).foldl thn (chkK t)) := fun hp h => by
      refine (Ev.diag (L := fun m k => (theory_check_L m (theory_check m) k).1 t.kids t.kids.length 0 t.kind t.name t.sort t.kids) (k1 0 (Nat.zero_le _))).res ?_
      rw [List.drop_zero, ← hp, h]
      split
      · rw [foldl_thn_ne _ (by decide)]
      · rfl
    refine Ev.bind (symbol_ev t.name) ?_
    rw [symS_two]
    have hK : chkK t = if (symOf t.name).2.2 = 0 then 10 else if (t.kids.length : Int) < (symOf t.name).1 ∨ (symOf t.name).2.1 < (t.kids.length : Int) then 6 else if privB t = true then 10 else 0 := by
      unfold chkK
      rw [if_neg (show ¬ t.kind ≠ 3 from fun hh => hh h3)]
    refine Ev.ite (fun h => ?_) fun h => ?_
    · rw [ieq_t] at h; rw [if_pos h] at hK; exact Ev.ret (by rw [hK, foldl_thn_ne _ (by decide)])
    rw [ieq_f] at h
    rw [if_neg h] at hK
    refine Ev.ite (fun h1 => ?_) fun h1 => ?_
    · rw [ilt_t] at h1; rw [if_pos (.inl h1)] at hK; exact Ev.ret (by rw [hK, foldl_thn_ne _ (by decide)])
    rw [ilt_f] at h1
    refine Ev.ite (fun h2 => ?_) fun h2 => ?_
    · rw [ilt_t] at h2; rw [if_pos (.inr h2)] at hK; exact Ev.ret (by rw [hK, foldl_thn_ne _ (by decide)])
    rw [ilt_f] at h2
    rw [if_neg (by omega)] at hK
    refine Ev.ite (fun hn => ?_) fun hn => ?_
    · rw [seq_t] at hn
      refine fin1 ?_ hK
      unfold privB
      rw [hn, if_neg (by decide), if_pos (.inl rfl)]
    rw [seq_f] at hn
    refine Ev.ite (fun hn' => ?_) fun hn' => ?_
    · rw [seq_t] at hn'
      refine fin1 ?_ hK
      unfold privB
      rw [hn', if_neg (by decide), if_pos (.inr rfl)]
    rw [seq_f] at hn'
    refine Ev.ite (fun hw => ?_) fun hw => ?_
    · rw [seq_t] at hw
      have hpos : 0 < t.kids.length := by
        rw [hw, show (symOf [110, 101, 119]).1 = 1 from by decide] at h1
        omega
      refine Ev.some (kid_0 hpos) ?_
      have hp : privB t = decide ((kid t 0).kind ≠ 2) := by
        unfold privB
        rw [if_pos (show t.name = nNew from hw)]
      refine Ev.ite (fun hh => ?_) fun hh => ?_
      · rw [bnt, ieq_f] at hh
        rw [hp, decide_eq_true hh, if_pos rfl] at hK
        exact Ev.ret (by rw [hK, foldl_thn_ne _ (by decide)])
      · rw [bnf, ieq_t] at hh
        rw [hp, decide_eq_false (fun g => g hh)] at hK
        exact fin2 hK
    · rw [seq_f] at hw
      refine fin2 ?_
      have : privB t = false := by
        unfold privB
        rw [if_neg (show ¬ t.name = nNew from hw), if_neg (fun h => h.elim hn hn')]
      rw [this] at hK
      exact hK
theorem tvth_ev (t : T) (hs : size t ≤ 1000000000) : Ev (fun m _ => theory_Valid m t) (vthE t) := by
  refine Ev.succ ?_
  simp only [theory_Valid_e, theory_Valid_s0, re_eq]
  unfold vthE
  refine Ev.bind (tvalid_ev t hs) ?_
  refine Ev.ite (fun h => ?_) fun h => ?_
  · rw [bnt, ieq_f] at h; exact Ev.ret (by rw [thn_ne h])
  · rw [bnf, ieq_t] at h; rw [h]; exact Ev.bind (tcheck_ev t hs) (Ev.pure _)
/-- The reference's checks. -/
theorem kind_ev (n : List UInt8) : Ev (fun m _ => ref09_Kind m n) (symOf n).2.2 := by
  refine Ev.succ ?_
  simp only [ref09_Kind_e, ref09_Kind_s0]
  refine Ev.bind (a := symL) (Ev.succ (Ev.pure _)) ?_
  have key := ev_list (P := fun i => Ev (fun m k => ref09_Kind_L m k n symL i) (((symL.drop i).find? fun r => r.1 == n).getD ([], 0, 0, 0)).2.2.2) symL (by decide)
    (fun hc => by
      refine Ev.loop ?_
      simp only [ref09_Kind_l1, ref09_Kind_s1]
      refine Ev.cf hc ?_
      exact Ev.pure _)
    (fun i x hx hd hc hg hi hP => by
      refine Ev.loop ?_
      simp only [ref09_Kind_l1, ref09_Kind_s1]
      refine Ev.ct hc (Ev.some hg ?_)
      rw [hd, List.find?_cons, hi]
      refine Ev.ite (fun h => ?_) fun h => ?_
      · refine Ev.some hg (Ev.ret ?_)
        rw [show (x.1 == n) = true from h]; rfl
      · rw [show (x.1 == n) = false from h]; exact hP)
  refine Ev.diag (L := fun m k => ref09_Kind_L m k n symL 0) ?_
  exact (key 0 (Nat.zero_le _)).res (by rw [← symS_two]; rfl)
theorem fits_ev (t : T) : Ev (fun m _ => ref09_fits m t) (fitR symL t.name t.kids.length) := by
  refine Ev.succ ?_
  simp only [ref09_fits_e, ref09_fits_s0]
  refine Ev.bind (a := symL) (Ev.succ (Ev.pure _)) ?_
  have key := ev_list (P := fun i => Ev (fun m k => ref09_fits_L m k symL i t.kind t.name t.sort t.kids) (fitR (symL.drop i) t.name t.kids.length)) symL (by decide)
    (fun hc => by
      refine Ev.loop ?_
      simp only [ref09_fits_l1, ref09_fits_s1]
      refine Ev.cf hc ?_
      exact Ev.pure _)
    (fun i x hx hd hc hg hi hP => by
      refine Ev.loop ?_
      simp only [ref09_fits_l1, ref09_fits_s1]
      refine Ev.ct hc (Ev.some hg ?_)
      rw [hd, fitR_cons, hi]
      refine Ev.ite (fun h => ?_) fun h => ?_
      · rw [if_pos (show (x.1 == t.name) = true from h)]
        refine Ev.some hg ?_
        refine Ev.ite (fun h' => ?_) fun h' => ?_
        · rw [ile_t] at h'
          refine Ev.some hg (Ev.ret ?_)
          rw [decide_eq_true h']; rfl
        · rw [ile_f] at h'
          exact Ev.ret (by rw [decide_eq_false (by omega)]; rfl)
      · rw [if_neg (by rw [show (x.1 == t.name) = false from h]; decide)]; exact hP)
  refine Ev.diag (L := fun m k => ref09_fits_L m k symL 0 t.kind t.name t.sort t.kids) ?_
  exact key 0 (Nat.zero_le _)
theorem agents_ev (t : T) (hl : t.kids.length < 2 ^ 62) (hpos : t.name = nNew → 0 < t.kids.length) : Ev (fun m _ => ref09_agents m t) (agentsB t) := by
  refine Ev.succ ?_
  simp only [ref09_agents_e, ref09_agents_s0]
  unfold agentsB
  refine Ev.ite (fun h => ?_) fun h => ?_
  · rw [seq_t] at h
    rw [if_pos (show t.name = nNew from h)]
    refine Ev.some (kid_0 (hpos h)) (Ev.pure _)
  rw [seq_f] at h
  rw [if_neg (show ¬ t.name = nNew from h)]
  have key := ev_list (P := fun i => Ev (fun m k => ref09_agents_L m k i t.kind t.name t.sort t.kids) (agB (t.kids.drop i))) t.kids hl
    (fun hc => by
      refine Ev.loop ?_
      simp only [ref09_agents_l1, ref09_agents_s1]
      refine Ev.cf hc ?_
      exact Ev.ret (by rw [List.drop_length]; rfl))
    (fun i x hx hd hc hg hi hP => by
      refine Ev.loop ?_
      simp only [ref09_agents_l1, ref09_agents_s1]
      refine Ev.ct hc (Ev.some hg ?_)
      rw [hd, agB_cons, hi]
      refine Ev.ite (fun h => ?_) fun h => ?_
      · exact Ev.ret (by rw [show (x.kind == 3) = true from h]; rfl)
      rw [show (x.kind == 3) = false from h]
      refine Ev.some hg ?_
      refine Ev.ite (fun h' => ?_) fun h' => ?_
      · rw [bnt, ieq_f] at h'
        exact Ev.ret (by rw [show (x.sort != 1) = true from bne_iff_ne.2 h']; rfl)
      · rw [bnf, ieq_t] at h'
        rw [show (x.sort != 1) = false by rw [h']; rfl]
        exact hP)
  refine Ev.diag (L := fun m k => ref09_agents_L m k 0 t.kind t.name t.sort t.kids) ?_
  exact (key 0 (Nat.zero_le _)).res (by rw [List.drop_zero])
theorem rnodes_ev (t : T) : size t ≤ 1000000000 → Ev (fun m _ => ref09_nodes m t) (chkE t) := by
  induction t using T.ind with
  | h t ih =>
    intro hs
    refine Ev.succ ?_
    simp only [ref09_nodes_e, ref09_nodes_s0, re_eq]
    have hl := kids_lt t
    rw [chkE_eq]
    refine Ev.ite (fun h => ?_) fun h3 => ?_
    · rw [bnt, ieq_f] at h; exact Ev.ret (by rw [if_pos h])
    rw [bnf, ieq_t] at h3
    rw [if_neg (show ¬ t.kind ≠ 3 from fun hh => hh h3), ← chkRK_eq t h3]
    have key := ev_list (P := fun i => Ev (fun m k => ref09_nodes_L m (ref09_nodes m) k i t.kind t.name t.sort t.kids) (((t.kids.drop i).map chkE).foldl thn 0)) t.kids (by omega)
      (fun hc => by
        refine Ev.loop ?_
        simp only [ref09_nodes_l1, ref09_nodes_s1]
        refine Ev.cf hc ?_
        exact Ev.ret (by simp))
      (fun i x hx hd hc hg hi hP => by
        refine Ev.loop ?_
        simp only [ref09_nodes_l1, ref09_nodes_s1, re_eq]
        have hm := List.mem_of_getElem? hx
        have h1 := kid_lt t x hm
        refine Ev.ct hc (Ev.some hg (Ev.bind (ih x hm (by omega)) ?_))
        rw [hd, List.map_cons, foldl_thn_zero, hi]
        refine Ev.ite (fun h => ?_) fun h => ?_
        · rw [bnt, ieq_f] at h; exact Ev.ret (by rw [foldl_thn_ne _ h])
        · rw [bnf, ieq_t] at h; rw [h]; exact hP)
    have fin : chkRK t = 0 → Ev (fun m _ => ref09_nodes_L m (ref09_nodes m) m 0 t.kind t.name t.sort t.kids) ((t.kids.map chkE).foldl thn (chkRK t)) := fun h => by
      rw [h]
      exact (Ev.diag (L := fun m k => ref09_nodes_L m (ref09_nodes m) k 0 t.kind t.name t.sort t.kids) (key 0 (Nat.zero_le _))).res (by rw [List.drop_zero])
    unfold chkRK at fin ⊢
    refine Ev.bind (kind_ev t.name) ?_
    refine Ev.ite (fun h => ?_) fun h => ?_
    · rw [ieq_t] at h; rw [if_pos h]; exact Ev.ret (by rw [foldl_thn_ne _ (by decide)])
    rw [ieq_f] at h
    rw [if_neg h] at fin ⊢
    refine Ev.bind (fits_ev t) ?_
    cases hf : fitR symL t.name t.kids.length with
    | false =>
      refine Ev.ct rfl ?_
      rw [if_pos rfl]; exact Ev.ret (by rw [foldl_thn_ne _ (by decide)])
    | true =>
      rw [hf, if_neg (by decide)] at fin
      rw [if_neg (by decide)]
      refine Ev.cf rfl ?_
      refine Ev.ite (fun h2 => ?_) fun h2 => ?_
      · rw [ieq_t] at h2
        refine Ev.bind (agents_ev t (by omega) fun hn => ?_) ?_
        · obtain ⟨k1, k2, k3, k4, k5, k6, k7⟩ := symOf_kind h
          have h6 := k6 h2
          unfold fitR at hf
          rw [k1, k2, Bool.true_and, Bool.and_eq_true, decide_eq_true_iff] at hf
          omega
        cases ha : agentsB t with
        | false =>
          refine Ev.ct rfl ?_
          rw [if_pos ⟨h2, rfl⟩]
          exact Ev.ret (by rw [foldl_thn_ne _ (by decide)])
        | true =>
          rw [ha, if_neg (by rintro ⟨_, h⟩; cases h)] at fin
          rw [if_neg (by rintro ⟨_, h⟩; cases h)]
          exact Ev.cf rfl (fin rfl)
      · rw [ieq_f] at h2
        rw [if_neg (by rintro ⟨h, _⟩; exact h2 h)] at fin ⊢
        exact fin rfl
theorem rvth_ev (t : T) (hs : size t ≤ 1000000000) : Ev (fun m _ => ref09_Valid m t) (vthE t) := by
  refine Ev.succ ?_
  simp only [ref09_Valid_e, ref09_Valid_s0, re_eq]
  unfold vthE
  refine Ev.bind (rvalid_ev t hs) ?_
  refine Ev.ite (fun h => ?_) fun h => ?_
  · rw [bnt, ieq_f] at h; exact Ev.ret (by rw [thn_ne h])
  · rw [bnf, ieq_t] at h; rw [h]; exact Ev.bind (rnodes_ev t hs) (Ev.pure _)
end Go.AmYtmodnblfcikjlaa
namespace Go.GxYtmodnblfcikjlaa

def Asc (l : List T) : Prop := l.Pairwise fun a b => cmpT a b = -1
theorem cmpT_lt_irrefl {a : T} : cmpT a a ≠ -1 := by rw [cmpT_self]; decide
theorem cmpT_gt {a b : T} : cmpT a b = 1 ↔ cmpT b a = -1 := by
  have := cmpT_cmp.anti a b; omega
theorem cmpT_tri (a b : T) : cmpT a b = -1 ∨ a = b ∨ cmpT b a = -1 := by
  have h := cmpT_cmp.rng a b
  have h2 := cmpT_cmp.anti a b
  rcases h with h | h | h
  · exact .inl h
  · exact .inr (.inl (cmpT_zero a b h))
  · exact .inr (.inr (by omega))
theorem cmpT_tr {a b c : T} (h1 : cmpT a b = -1) (h2 : cmpT b c = -1) : cmpT a c = -1 := cmpT_cmp.trans a b c h1 h2
theorem asc_cons {x : T} {l : List T} : Asc (x :: l) ↔ (∀ y ∈ l, cmpT x y = -1) ∧ Asc l := List.pairwise_cons
theorem asc_ext : ∀ (l m : List T), Asc l → Asc m → (∀ x, x ∈ l ↔ x ∈ m) → l = m
  | [], [], _, _, _ => rfl
  | [], y :: m, _, _, h => absurd ((h y).2 (List.mem_cons_self ..)) (by simp)
  | x :: l, [], _, _, h => absurd ((h x).1 (List.mem_cons_self ..)) (by simp)
  | x :: l, y :: m, hl, hm, h => by
    obtain ⟨hl1, hl2⟩ := asc_cons.1 hl
    obtain ⟨hm1, hm2⟩ := asc_cons.1 hm
    have hx := (h x).1 (List.mem_cons_self ..)
    have hy := (h y).2 (List.mem_cons_self ..)
    have e : x = y := by
      rcases List.mem_cons.1 hx with e | hx
      · exact e
      rcases List.mem_cons.1 hy with e | hy
      · exact e.symm
      exact absurd (cmpT_tr (hl1 y hy) (hm1 x hx)) cmpT_lt_irrefl
    subst e
    rw [asc_ext l m hl2 hm2 fun z => ?_]
    constructor
    · intro hz
      rcases List.mem_cons.1 ((h z).1 (List.mem_cons_of_mem _ hz)) with e | h'
      · subst e; exact absurd (hl1 z hz) cmpT_lt_irrefl
      · exact h'
    · intro hz
      rcases List.mem_cons.1 ((h z).2 (List.mem_cons_of_mem _ hz)) with e | h'
      · subst e; exact absurd (hm1 z hz) cmpT_lt_irrefl
      · exact h'

/-- The sum of ascending lists: what lies in one of both alone. -/
theorem plusX_spec (n : Nat) : ∀ (a b : List T), a.length + b.length ≤ n → Asc a → Asc b → Asc (plusX a b) ∧ (∀ x, x ∈ plusX a b ↔ ¬(x ∈ a ↔ x ∈ b)) := by
  induction n with
  | zero =>
    intro a b h _ _
    obtain rfl : a = [] := List.length_eq_zero_iff.1 (by omega)
    obtain rfl : b = [] := List.length_eq_zero_iff.1 (by omega)
    rw [plusX]
    exact ⟨List.Pairwise.nil, by simp⟩
  | succ n ih =>
    intro a b h ha hb
    match a, b with
    | [], b => rw [plusX]; exact ⟨hb, by simp⟩
    | x :: a, [] => rw [plusX]; exact ⟨ha, by simp [Classical.or_iff_not_imp_left]⟩
    | x :: a, y :: b =>
      rw [plusX]
      obtain ⟨ha1, ha2⟩ := asc_cons.1 ha
      obtain ⟨hb1, hb2⟩ := asc_cons.1 hb
      simp only [List.length_cons] at h
      by_cases h1 : cmpT x y = -1
      · rw [if_pos h1]
        obtain ⟨k1, k2⟩ := ih a (y :: b) (by simp; omega) ha2 hb
        have hxn : x ∉ y :: b := by
          intro h
          rcases List.mem_cons.1 h with e | h
          · subst e; exact cmpT_lt_irrefl h1
          · exact cmpT_lt_irrefl (cmpT_tr h1 (hb1 x h))
        have hxa : x ∉ a := fun h => cmpT_lt_irrefl (ha1 x h)
        refine ⟨asc_cons.2 ⟨fun z hz => ?_, k1⟩, fun z => ?_⟩
        · have := (k2 z).1 hz
          by_cases hza : z ∈ a
          · exact ha1 z hza
          · have hzb : z ∈ y :: b := by
              by_cases hzb : z ∈ y :: b
              · exact hzb
              · exact absurd ⟨fun h => absurd h hza, fun h => absurd h hzb⟩ this
            rcases List.mem_cons.1 hzb with e | h'
            · rw [e]; exact h1
            · exact cmpT_tr h1 (hb1 z h')
        · rw [List.mem_cons, k2, List.mem_cons (a := z) (b := x)]
          by_cases e : z = x
          · subst e
            simp [hxn]
          · simp [e]
      · rw [if_neg h1]
        by_cases h2 : cmpT x y = 1
        · rw [if_pos h2]
          have h3 := cmpT_gt.1 h2
          obtain ⟨k1, k2⟩ := ih (x :: a) b (by simp; omega) ha hb2
          have hyn : y ∉ x :: a := by
            intro h
            rcases List.mem_cons.1 h with e | h
            · subst e; exact cmpT_lt_irrefl h3
            · exact cmpT_lt_irrefl (cmpT_tr h3 (ha1 y h))
          have hyb : y ∉ b := fun h => cmpT_lt_irrefl (hb1 y h)
          refine ⟨asc_cons.2 ⟨fun z hz => ?_, k1⟩, fun z => ?_⟩
          · have := (k2 z).1 hz
            by_cases hzb : z ∈ b
            · exact hb1 z hzb
            · have hza : z ∈ x :: a := by
                by_cases hza : z ∈ x :: a
                · exact hza
                · exact absurd ⟨fun h => absurd h hza, fun h => absurd h hzb⟩ this
              rcases List.mem_cons.1 hza with e | h'
              · rw [e]; exact h3
              · exact cmpT_tr h3 (ha1 z h')
          · rw [List.mem_cons, k2, List.mem_cons (a := z) (b := y)]
            by_cases e : z = y
            · subst e
              simp [hyn]
            · simp [e]
        · rw [if_neg h2]
          have h3 : cmpT x y = 0 := by have := cmpT_cmp.rng x y; omega
          have e := cmpT_zero x y h3
          subst e
          obtain ⟨k1, k2⟩ := ih a b (by omega) ha2 hb2
          refine ⟨k1, fun z => ?_⟩
          rw [k2, List.mem_cons, List.mem_cons]
          by_cases e : z = x
          · subst e
            have : z ∉ a := fun h => cmpT_lt_irrefl (ha1 z h)
            have : z ∉ b := fun h => cmpT_lt_irrefl (hb1 z h)
            simp [*]
          · simp [e]
theorem plusX_asc {a b : List T} (ha : Asc a) (hb : Asc b) : Asc (plusX a b) := (plusX_spec _ a b (Nat.le_refl _) ha hb).1
theorem plusX_mem {a b : List T} (ha : Asc a) (hb : Asc b) (x : T) : x ∈ plusX a b ↔ ¬(x ∈ a ↔ x ∈ b) := (plusX_spec _ a b (Nat.le_refl _) ha hb).2 x
theorem plusX_len : ∀ (n : Nat) (a b : List T), a.length + b.length ≤ n → (plusX a b).length ≤ a.length + b.length
  | _, [], b, _ => by rw [plusX]; simp
  | _, x :: a, [], _ => by rw [plusX]; simp
  | 0, x :: a, y :: b, h => by simp at h
  | n + 1, x :: a, y :: b, h => by
    simp only [List.length_cons] at h
    rw [plusX]
    split
    · have := plusX_len n a (y :: b) (by simp; omega)
      simp at this ⊢; omega
    · split
      · have := plusX_len n (x :: a) b (by simp; omega)
        simp at this ⊢; omega
      · have := plusX_len n a b (by omega)
        simp; omega
theorem foldPlus_asc : ∀ (ls : List (List T)) (a : List T), Asc a → (∀ l ∈ ls, Asc l) → Asc (ls.foldl plusX a)
  | [], _, h, _ => h
  | l :: ls, a, h, k => foldPlus_asc ls _ (plusX_asc h (k l (List.mem_cons_self ..))) fun m hm => k m (List.mem_cons_of_mem _ hm)
theorem sumsX_asc (t : T) : Asc (sumsX t) := by
  refine T.ind (P := fun t => Asc (sumsX t)) ?_ t
  intro t ih
  rw [sumsX_eq]
  split
  · exact List.Pairwise.nil
  · split
    · exact foldPlus_asc _ _ List.Pairwise.nil fun l hl => by
        obtain ⟨k, hk, rfl⟩ := List.mem_map.1 hl
        exact ih k hk
    · exact List.pairwise_singleton _ _
theorem foldPlus_len : ∀ (ls : List (List T)) (a : List T), (ls.foldl plusX a).length ≤ a.length + (ls.map List.length).sum
  | [], _ => by simp
  | l :: ls, a => by
    have h1 := foldPlus_len ls (plusX a l)
    have h2 := plusX_len _ a l (Nat.le_refl _)
    simp only [List.foldl_cons, List.map_cons, List.sum_cons]
    omega
theorem sumsX_len (t : T) : (sumsX t).length ≤ size t := by
  refine T.ind (P := fun t => (sumsX t).length ≤ size t) ?_ t
  intro t ih
  rw [sumsX_eq, size_eq]
  split
  · simp
  · split
    · refine Nat.le_trans (foldPlus_len _ _) ?_
      have : ∀ l : List T, (∀ k ∈ l, (sumsX k).length ≤ size k) → ((l.map sumsX).map List.length).sum ≤ (l.map size).sum := by
        intro l
        induction l with
        | nil => simp
        | cons x l ihl =>
          intro h
          have h1 := h x (List.mem_cons_self ..)
          have h2 := ihl fun k hk => h k (List.mem_cons_of_mem _ hk)
          simp only [List.map_cons, List.sum_cons]; omega
      have := this t.kids ih
      simp at this ⊢; omega
    · simp

/-- The reference: a term put in, or taken out. -/
noncomputable def addS (t : T) (s : List T × Bool) (x : T) : List T × Bool :=
  if s.2 = false ∧ cmpT t x ≤ 0 then (s.1 ++ (if cmpT t x < 0 then [t] else []) ++ [x], true) else (s.1 ++ [x], s.2)
noncomputable def addR (l : List T) (t : T) : List T := if (l.foldl (addS t) ([], false)).2 then (l.foldl (addS t) ([], false)).1 else (l.foldl (addS t) ([], false)).1 ++ [t]
noncomputable def togR (l : List T) (t : T) : List T := if l.any (fun x => sameT x t) then l.filter (fun x => !sameT x t) else addR l t
noncomputable def plusR (a b : List T) : List T := b.foldl togR a
theorem addS_done (t : T) : ∀ (l out : List T), l.foldl (addS t) (out, true) = (out ++ l, true)
  | [], out => by simp
  | x :: l, out => by
    have e : addS t (out, true) x = (out ++ [x], true) := by simp [addS]
    rw [List.foldl_cons, e, addS_done t l]
    simp
noncomputable def insX : List T → T → List T
  | [], t => [t]
  | x :: l, t => if cmpT t x < 0 then t :: x :: l else if cmpT t x = 0 then x :: l else x :: insX l t
theorem addS_start (t : T) : ∀ (l out : List T), (if (l.foldl (addS t) (out, false)).2 then (l.foldl (addS t) (out, false)).1 else (l.foldl (addS t) (out, false)).1 ++ [t]) = out ++ insX l t
  | [], out => by simp [insX]
  | x :: l, out => by
    rw [List.foldl_cons]
    by_cases h : cmpT t x ≤ 0
    · have e : addS t (out, false) x = (out ++ (if cmpT t x < 0 then [t] else []) ++ [x], true) := by simp [addS, h]
      rw [e, addS_done, insX]
      by_cases h0 : cmpT t x < 0
      · simp [h0]
      · have : cmpT t x = 0 := by omega
        simp [this]
    · have e : addS t (out, false) x = (out ++ [x], false) := by simp [addS, h]
      rw [e, addS_start t l, insX, if_neg (by omega), if_neg (by omega)]
      simp
theorem addR_ins (l : List T) (t : T) : addR l t = insX l t := by
  have := addS_start t l []
  simpa [addR] using this
theorem insX_mem (t : T) : ∀ (l : List T) (x : T), x ∈ insX l t ↔ x ∈ l ∨ x = t
  | [], x => by simp [insX]
  | y :: l, x => by
    rw [insX]
    split
    · simp only [List.mem_cons]
      constructor
      · rintro (h | h | h) <;> simp [h]
      · rintro ((h | h) | h) <;> simp [h]
    · split
      · rename_i h
        have := cmpT_zero t y h
        subst this
        simp only [List.mem_cons]
        constructor
        · rintro (h | h) <;> simp [h]
        · rintro ((h | h) | h) <;> simp [h]
      · rw [List.mem_cons, insX_mem t l x, List.mem_cons]
        constructor
        · rintro (h | h | h) <;> simp [h]
        · rintro ((h | h) | h) <;> simp [h]
theorem insX_asc (t : T) : ∀ (l : List T), Asc l → Asc (insX l t)
  | [], _ => List.pairwise_singleton _ _
  | y :: l, h => by
    obtain ⟨h1, h2⟩ := asc_cons.1 h
    rw [insX]
    have hr := cmpT_cmp.rng t y
    split
    · have hlt : cmpT t y = -1 := by omega
      refine asc_cons.2 ⟨fun z hz => ?_, h⟩
      rcases List.mem_cons.1 hz with e | hz
      · rw [e]; exact hlt
      · exact cmpT_tr hlt (h1 z hz)
    · split
      · exact h
      · refine asc_cons.2 ⟨fun z hz => ?_, insX_asc t l h2⟩
        rcases (insX_mem t l z).1 hz with hz | e
        · exact h1 z hz
        · rw [e]; exact cmpT_gt.1 (by omega)
theorem sameT_iff {a b : T} : sameT a b = true ↔ a = b := by unfold sameT; exact decide_eq_true_iff
theorem togR_spec {l : List T} (h : Asc l) (t : T) : Asc (togR l t) ∧ ∀ x, x ∈ togR l t ↔ ¬(x ∈ l ↔ x = t) := by
  unfold togR
  by_cases hm : t ∈ l
  · have h1 : (l.any fun x => sameT x t) = true := List.any_eq_true.2 ⟨t, hm, sameT_iff.2 rfl⟩
    rw [if_pos h1]
    refine ⟨List.Pairwise.filter _ h, fun x => ?_⟩
    rw [List.mem_filter]
    by_cases e : x = t
    · subst e
      simp [hm, sameT_iff.2 rfl]
    · have : sameT x t = false := by
        cases hh : sameT x t
        · rfl
        · exact absurd (sameT_iff.1 hh) e
      simp [e, this]
  · rw [if_neg (fun hh => by
      obtain ⟨x, hx, he⟩ := List.any_eq_true.1 hh
      exact hm (by rw [← sameT_iff.1 he]; exact hx)), addR_ins]
    refine ⟨insX_asc t l h, fun x => ?_⟩
    rw [insX_mem]
    by_cases e : x = t
    · subst e; simp [hm]
    · simp [e]
theorem plusR_spec : ∀ (b a : List T), Asc a → Asc b → Asc (plusR a b) ∧ ∀ x, x ∈ plusR a b ↔ ¬(x ∈ a ↔ x ∈ b)
  | [], a, ha, _ => ⟨ha, fun x => by simp [plusR]⟩
  | y :: b, a, ha, hb => by
    obtain ⟨hb1, hb2⟩ := asc_cons.1 hb
    obtain ⟨k1, k2⟩ := togR_spec ha y
    obtain ⟨m1, m2⟩ := plusR_spec b (togR a y) k1 hb2
    refine ⟨m1, fun x => ?_⟩
    rw [show plusR a (y :: b) = plusR (togR a y) b from rfl, m2, k2, List.mem_cons]
    by_cases e : x = y
    · subst e
      have : x ∉ b := fun h => cmpT_lt_irrefl (hb1 x h)
      by_cases hx : x ∈ a <;> simp [this, hx]
    · by_cases hx : x ∈ a <;> by_cases hy : x ∈ b <;> simp [e, hx, hy]
/-- The reference's sum of ascending lists is the program's. -/
theorem plusR_eq {a b : List T} (ha : Asc a) (hb : Asc b) : plusR a b = plusX a b :=
  asc_ext _ _ (plusR_spec b a ha hb).1 (plusX_asc ha hb) fun x => by rw [(plusR_spec b a ha hb).2, plusX_mem ha hb]
end Go.GxYtmodnblfcikjlaa
namespace Go.AmYtmodnblfcikjlaa
theorem awake_try (n : Nat) : law09_awake (n + 3000) = some true := by kernel_rfl
end Go.AmYtmodnblfcikjlaa
namespace Go.AmYtmodnblfcikjlaa
open Go Go.GxYtmodnblfcikjlaa Go.Lib
theorem vthE_zero {t : T} (h : vthE t = 0) : validE t = 0 ∧ chkE t = 0 := by
  unfold vthE at h
  exact thn_zero h
theorem arity_of {t : T} (h : chkE t = 0) {n : List UInt8} (hn : isN t n = true) {a b c : Int} (hs : symOf n = (a, b, c)) : a ≤ (t.kids.length : Int) ∧ (t.kids.length : Int) ≤ b ∧ ∀ k ∈ t.kids, chkE k = 0 := by
  obtain ⟨h3, rfl⟩ := isN_t.1 hn
  obtain ⟨h1, h2⟩ := chkE_zero h3 h
  obtain ⟨_, g1, g2, _⟩ := chkK_len h3 h1
  rw [hs] at g1 g2
  exact ⟨g1, g2, h2⟩
noncomputable def keyT (t : T) : T × Int :=
  if vthE t ≠ 0 then (zT, vthE t) else if isN t nEnc = true then (kid t 1, 0) else if isN t nAenc = false then (zT, 10) else if isN (kid t 1) nPk = false then (zT, 4) else (kid (kid t 1) 0, 0)
theorem tkey_ev (t : T) (hs : size t ≤ 1000000000) : Ev (fun m _ => theory_Key m t) (keyT t) := by
  refine Ev.succ ?_
  simp only [theory_Key_e, theory_Key_s0, re_eq]
  unfold keyT
  refine Ev.bind (tvth_ev t hs) ?_
  refine Ev.ite (fun h => ?_) fun h => ?_
  · rw [bnt, ieq_f] at h; exact Ev.ret (by rw [if_pos h]; rfl)
  rw [bnf, ieq_t] at h
  have hc := (vthE_zero h).2
  rw [if_neg (fun g => g h)]
  refine Ev.bind (is_ev t nEnc) ?_
  have hk : ∀ x ∈ t.kids, size x ≤ 1000000000 := fun x hx => by have := kid_lt t x hx; omega
  refine Ev.ite (fun he => ?_) fun he => ?_
  · rw [if_pos he]
    obtain ⟨a1, a2, _⟩ := arity_of hc he (a := 2) (b := 2) (c := 1) (by decide)
    have hl : 1 < t.kids.length := by omega
    refine Ev.some (kid_1 hl) (Ev.bind (copied_ev _ (hk _ (kid_mem hl))) (Ev.pure _))
  rw [if_neg (by rw [he]; decide)]
  refine Ev.bind (is_ev t nAenc) ?_
  refine Ev.ite (fun ha => ?_) fun ha => ?_
  · rw [bnt] at ha; exact Ev.ret (by rw [if_pos ha]; rfl)
  rw [bnf] at ha
  rw [if_neg (by rw [ha]; decide)]
  obtain ⟨a1, a2, hcl⟩ := arity_of hc ha (a := 2) (b := 2) (c := 1) (by decide)
  have hl : 1 < t.kids.length := by omega
  refine Ev.some (kid_1 hl) (Ev.bind (is_ev _ nPk) ?_)
  refine Ev.ite (fun hp => ?_) fun hp => ?_
  · rw [bnt] at hp; exact Ev.ret (by rw [if_pos hp]; rfl)
  rw [bnf] at hp
  rw [if_neg (by rw [hp]; decide)]
  obtain ⟨b1, b2, _⟩ := arity_of (hcl _ (kid_mem hl)) hp (a := 1) (b := 1) (c := 1) (by decide)
  have hl2 : 0 < (kid t 1).kids.length := by omega
  have h1 := hk _ (kid_mem hl)
  have h2 := kid_lt _ _ (kid_mem hl2)
  refine Ev.some (kid_1 hl) (Ev.some (kid_0 hl2) (Ev.bind (copied_ev _ (by omega)) (Ev.pure _)))
theorem rkey_ev (t : T) (hs : size t ≤ 1000000000) : Ev (fun m _ => ref09_Key m t) (keyT t) := by
  refine Ev.succ ?_
  simp only [ref09_Key_e, ref09_Key_s0, re_eq]
  unfold keyT
  refine Ev.bind (rvth_ev t hs) ?_
  refine Ev.ite (fun h => ?_) fun h => ?_
  · rw [bnt, ieq_f] at h; exact Ev.ret (by rw [if_pos h]; rfl)
  rw [bnf, ieq_t] at h
  have hc := (vthE_zero h).2
  rw [if_neg (fun g => g h)]
  refine Ev.bind (ris_ev t nEnc) ?_
  refine Ev.ite (fun he => ?_) fun he => ?_
  · rw [if_pos he]
    obtain ⟨a1, a2, _⟩ := arity_of hc he (a := 2) (b := 2) (c := 1) (by decide)
    have hl : 1 < t.kids.length := by omega
    refine Ev.some (kid_1 hl) (Ev.pure _)
  rw [if_neg (by rw [he]; decide)]
  refine Ev.bind (ris_ev t nAenc) ?_
  refine Ev.ite (fun ha => ?_) fun ha => ?_
  · rw [bnt] at ha; exact Ev.ret (by rw [if_pos ha]; rfl)
  rw [bnf] at ha
  rw [if_neg (by rw [ha]; decide)]
  obtain ⟨a1, a2, hcl⟩ := arity_of hc ha (a := 2) (b := 2) (c := 1) (by decide)
  have hl : 1 < t.kids.length := by omega
  refine Ev.some (kid_1 hl) (Ev.bind (ris_ev _ nPk) ?_)
  refine Ev.ite (fun hp => ?_) fun hp => ?_
  · rw [bnt] at hp; exact Ev.ret (by rw [if_pos hp]; rfl)
  rw [bnf] at hp
  rw [if_neg (by rw [hp]; decide)]
  obtain ⟨b1, b2, _⟩ := arity_of (hcl _ (kid_mem hl)) hp (a := 1) (b := 1) (c := 1) (by decide)
  have hl2 : 0 < (kid t 1).kids.length := by omega
  refine Ev.some (kid_1 hl) (Ev.some (kid_0 hl2) (Ev.pure _))
/-- Tuples. -/
noncomputable def untT : T → List T := T.para fun t rs => if isN t nPair = true ∧ t.kids.length = 2 then kid t 0 :: rs.getD 1 [] else [t]
theorem untT_eq (t : T) : untT t = if isN t nPair = true ∧ t.kids.length = 2 then kid t 0 :: untT (kid t 1) else [t] := by
  have h : untT t = if isN t nPair = true ∧ t.kids.length = 2 then kid t 0 :: (t.kids.map untT).getD 1 [] else [t] := T.para_eq _ _
  rw [h]
  split
  · rename_i hh
    congr 1
    rw [List.getD_eq_getElem?_getD, List.getElem?_map, List.getElem?_eq_getElem (show 1 < t.kids.length by omega)]
    unfold kid
    rw [List.getD_eq_getElem?_getD, List.getElem?_eq_getElem (show 1 < t.kids.length by omega)]
    rfl
  · rfl
theorem untT_small : ∀ (n : Nat) (t : T), size t ≤ n → (untT t).length ≤ size t ∧ ∀ x ∈ untT t, size x ≤ size t := by
  intro n
  induction n with
  | zero => intro t h; have := size_pos t; omega
  | succ n ih =>
    intro t h
    rw [untT_eq]
    split
    · rename_i hh
      have h0 := kid_lt t _ (kid_mem (t := t) (i := 0) (by omega))
      have h1 := kid_lt t _ (kid_mem (t := t) (i := 1) (by omega))
      obtain ⟨g1, g2⟩ := ih (kid t 1) (by omega)
      refine ⟨by rw [List.length_cons]; omega, fun x hx => ?_⟩
      rcases List.mem_cons.1 hx with rfl | hx
      · omega
      · have := g2 x hx; omega
    · refine ⟨by have := size_pos t; simp; omega, fun x hx => ?_⟩
      rw [List.mem_singleton.1 hx]; exact Nat.le_refl _
theorem tunt_loop : ∀ (n : Nat) (t : T), size t ≤ n → ∀ acc : List T, acc.length + size t ≤ 1000000000 → Ev (fun m k => theory_Untuple_L m k t.kind t.name t.sort t.kids acc) (acc ++ untT t) := by
  intro n
  induction n with
  | zero => intro t h; have := size_pos t; omega
  | succ n ih =>
    intro t h acc ha
    have hp := size_pos t
    have hs : size t ≤ 1000000000 := by omega
    refine Ev.loop ?_
    simp only [theory_Untuple_l1, theory_Untuple_s1, re_eq]
    rw [show T.mk t.kind t.name t.sort t.kids = t from re_eq t]
    rw [untT_eq]
    have last : Ev (fun m _ => obind (theory_copied m t) fun v => cond (room (acc.length + 1) 56) (some (acc ++ [v])) none) (acc ++ [t]) :=
      Ev.bind (copied_ev t hs) (Ev.ct (room_t (by omega) (by omega)) (Ev.pure _))
    refine Ev.bind (is_ev t nPair) ?_
    refine Ev.ite (fun hi => ?_) fun hi => ?_
    · refine Ev.ite (fun h2 => ?_) fun h2 => ?_
      · rw [ieq_t] at h2
        have h2 : t.kids.length = 2 := by omega
        rw [if_pos ⟨hi, h2⟩]
        have h0 : 0 < t.kids.length := by omega
        have h1 : 1 < t.kids.length := by omega
        have l0 := kid_lt t _ (kid_mem h0)
        have l1 := kid_lt t _ (kid_mem h1)
        refine Ev.some (kid_0 h0) (Ev.bind (copied_ev _ (by omega)) (Ev.ct (room_t (by omega) (by omega)) (Ev.some (kid_1 h1) ?_)))
        refine (ih (kid t 1) (by omega) (acc ++ [kid t 0]) (by rw [List.length_append, List.length_singleton]; omega)).res ?_
        rw [List.append_assoc]; rfl
      · rw [ieq_f] at h2
        rw [if_neg (by omega)]
        exact last
    · rw [if_neg (by rw [hi]; rintro ⟨h, _⟩; cases h)]
      exact last
theorem tunt_ev (t : T) (hs : size t ≤ 1000000000) : Ev (fun m _ => theory_Untuple m t) (untT t) := by
  refine Ev.succ ?_
  simp only [theory_Untuple_e, theory_Untuple_s0]
  exact Ev.diag (L := fun m k => theory_Untuple_L m k t.kind t.name t.sort t.kids []) ((tunt_loop _ t (Nat.le_refl _) [] (by simpa using hs)).res rfl)
theorem runt_ev : ∀ (n : Nat) (t : T), size t ≤ n → size t ≤ 1000000000 → Ev (fun m _ => ref09_Untuple m t) (untT t) := by
  intro n
  induction n with
  | zero => intro t h; have := size_pos t; omega
  | succ n ih =>
    intro t h hs
    refine Ev.succ ?_
    simp only [ref09_Untuple_e, ref09_Untuple_s0, re_eq]
    rw [untT_eq]
    refine Ev.bind (ris_ev t nPair) ?_
    refine Ev.ite (fun hi => ?_) fun hi => ?_
    · rw [bnt] at hi
      rw [if_neg (by rw [hi]; rintro ⟨h, _⟩; cases h)]
      exact Ev.pure _
    rw [bnf] at hi
    refine Ev.ite (fun h2 => ?_) fun h2 => ?_
    · rw [bnt, ieq_f] at h2
      rw [if_neg (by omega)]
      exact Ev.pure _
    rw [bnf, ieq_t] at h2
    have h2 : t.kids.length = 2 := by omega
    rw [if_pos ⟨hi, h2⟩]
    have h0 : 0 < t.kids.length := by omega
    have h1 : 1 < t.kids.length := by omega
    have l1 := kid_lt t _ (kid_mem h1)
    obtain ⟨g1, _⟩ := untT_small _ (kid t 1) (Nat.le_refl _)
    refine Ev.some (kid_0 h0) (Ev.some (kid_1 h1) (Ev.bind (ih _ (by omega) (by omega)) (Ev.ct (room_t (by simp; omega) (by omega)) ?_)))
    refine Ev.case (fun h => ?_) fun x r h => ?_
    · rw [h]; exact Ev.pure _
    · rw [h]; exact Ev.pure _
theorem awake_ev : Ev (fun m _ => law09_awake m) true := ⟨3000, fun m k hm _ => by
  obtain ⟨n, rfl⟩ : ∃ n, m = n + 3000 := ⟨m - 3000, by omega⟩
  exact awake_try n⟩
theorem small_ev (l : List T) (hl : l.length < 2 ^ 62) (hf : ∀ t ∈ l, FitT t) : ∃ b, Ev (fun m _ => law09_small m l) b ∧ (b = true → l.length ≤ 4 ∧ ∀ t ∈ l, size t ≤ 120 ∧ depT t ≤ 30) := by
  have hfew := few_ev l hl hf 4 120 (by decide) (by decide)
  cases hb : decide (l.length ≤ 4) && fewL l 120 with
  | false =>
    refine ⟨false, ?_, fun h => by cases h⟩
    refine Ev.succ ?_
    simp only [law09_small_e, law09_small_s0]
    exact Ev.bind hfew (Ev.ct (by rw [hb]; rfl) (Ev.pure _))
  | true =>
    rw [Bool.and_eq_true, decide_eq_true_iff] at hb
    have hsz : ∀ t ∈ l, size t ≤ 120 := fun t ht => by have := few_size (by decide) hb.2 t ht; omega
    have key := ev_list (P := fun i => Ev (fun m k => law09_small_L m k l l.length i) ((l.drop i).all fun t => decide (depT t ≤ 30))) l hl
      (fun hc => by
        refine Ev.loop ?_
        simp only [law09_small_l1, law09_small_s1]
        refine Ev.cf hc ?_
        exact Ev.ret (by simp))
      (fun i x hx hd hc hg hi hP => by
        refine Ev.loop ?_
        simp only [law09_small_l1, law09_small_s1, re_eq]
        have hm := List.mem_of_getElem? hx
        have := hsz x hm
        refine Ev.ct hc (Ev.some hg (Ev.bind (rdepth_ev x (by omega)) ?_))
        rw [hd, List.all_cons, hi]
        refine Ev.ite (fun h => ?_) fun h => ?_
        · rw [ilt_t] at h; exact Ev.ret (by rw [decide_eq_false (by omega)]; rfl)
        · rw [ilt_f] at h; rw [decide_eq_true (by omega)]; exact hP)
    refine ⟨l.all fun t => decide (depT t ≤ 30), ?_, fun h => ⟨hb.1, fun t ht => ⟨hsz t ht, of_decide_eq_true (List.all_eq_true.1 h t ht)⟩⟩⟩
    refine Ev.succ ?_
    simp only [law09_small_e, law09_small_s0]
    refine Ev.bind hfew (Ev.cf (by rw [hb.2, decide_eq_true hb.1]; rfl) ?_)
    exact Ev.diag (L := fun m k => law09_small_L m k l l.length 0) ((key 0 (Nat.zero_le _)).res (by rw [List.drop_zero]))
theorem keyT_size (t : T) : size (keyT t).1 ≤ size t := by
  have hp := size_pos t
  have hz : size zT = 1 := size_eq zT
  have hk : ∀ (t : T) (i : Nat), size (kid t i) ≤ size t := fun t i => by
    by_cases h : i < t.kids.length
    · exact Nat.le_of_lt (kid_lt t _ (kid_mem h))
    · have : kid t i = zT := by unfold kid; rw [List.getD_eq_getElem?_getD, List.getElem?_eq_none (by omega)]; rfl
      rw [this, hz]; exact size_pos t
  unfold keyT
  split
  · show size zT ≤ _; omega
  split
  · exact hk t 1
  split
  · show size zT ≤ _; omega
  split
  · show size zT ≤ _; omega
  · exact Nat.le_trans (hk _ 0) (hk t 1)
theorem theoryKey_ev (t : T) (hf : FitT t) : Ev (fun m _ => law09_TheoryKey m t) true := by
  refine Ev.succ ?_
  simp only [law09_TheoryKey_e, law09_TheoryKey_s0, re_eq]
  refine Ev.bind awake_ev (Ev.cf rfl ?_)
  obtain ⟨b, hb, hsm⟩ := small_ev [t] (by simp) (fun x hx => by rw [List.mem_singleton.1 hx]; exact hf)
  refine Ev.bind hb ?_
  cases b with
  | false => exact Ev.ct rfl (Ev.bind awake_ev (Ev.pure _))
  | true =>
    have hs := ((hsm rfl).2 t (List.mem_singleton.2 rfl)).1
    have hk := keyT_size t
    obtain ⟨u1, u2⟩ := untT_small _ t (Nat.le_refl _)
    refine Ev.cf rfl (Ev.bind (tkey_ev t (by omega)) (Ev.bind (rkey_ev t (by omega)) (Ev.ct (ieq_t.2 rfl) ?_)))
    refine Ev.bind (rsame_ev _ _ (by omega) (by omega)) (Ev.ct (sameT_iff.2 rfl) ?_)
    refine Ev.bind (tunt_ev t (by omega)) (Ev.bind (runt_ev _ t (Nat.le_refl _) (by omega)) ?_)
    refine Ev.bind (lists_ev _ _ (by omega) (fun x hx => by have := u2 x hx; omega) (fun x hx => by have := u2 x hx; omega)) ?_
    exact Ev.ret (decide_eq_true rfl)
end Go.AmYtmodnblfcikjlaa
namespace Go.AmYtmodnblfcikjlaa
open Go Go.GxYtmodnblfcikjlaa
def pairT (a b : T) : T := apT nPair [a, b]
theorem size_pair (a b : T) : size (pairT a b) = 1 + size a + size b := by
  rw [size_eq]; show 1 + (size a + (size b + 0)) = _; omega
theorem size_foldr (b : T) : ∀ l : List T, size (l.foldr pairT b) = (l.map size).sum + l.length + size b
  | [] => by simp
  | x :: l => by rw [List.foldr_cons, size_pair, size_foldr b l]; simp only [List.map_cons, List.sum_cons, List.length_cons]; omega
theorem foldr_take {l : List T} {i : Nat} {x b : T} (h : l[i]? = some x) : (l.take (i + 1)).foldr pairT b = (l.take i).foldr pairT (pairT x b) := by
  rw [List.take_add_one, h, List.foldr_append]; rfl
/-- The tuple of a list that is not empty. -/
def tupT (l : List T) : T := l.dropLast.foldr pairT (l.getLastD zT)
noncomputable def tupE (l : List T) : T × Int := if l.length = 0 then (zT, 8) else if vthE (tupT l) ≠ 0 then (zT, vthE (tupT l)) else (tupT l, 0)
theorem sum_take_le' (l : List T) (i : Nat) : ((l.take i).map size).sum ≤ (l.map size).sum := sum_take_le size l i
theorem isub_nat {a b : Nat} (h : b ≤ a) : isub (a : Int) (b : Int) = ((a - b : Nat) : Int) := by unfold isub; omega
theorem ttuple_loop (l : List T) (hl : (l.map size).sum + l.length ≤ 100000) : ∀ (i : Nat) (out : T), i ≤ l.length → size out ≤ 1000000 → ∀ (i1 : Int), i1 = (i : Int) - 1 → ((l.take i).map size).sum + i + size out ≤ 1000000 →
    Ev (fun m k => (theory_Tuple_L m k).2 l i1 0 [] 0 out.kind out.name out.sort out.kids []) (if vthE ((l.take i).foldr pairT out) ≠ 0 then (zT, vthE ((l.take i).foldr pairT out)) else ((l.take i).foldr pairT out, 0)) := by
  intro i
  induction i with
  | zero =>
    intro out _ ho i1 hi1 _
    subst hi1
    refine Ev.loop ?_
    simp only [theory_Tuple_l2, theory_Tuple_s2, re_eq]
    rw [show T.mk out.kind out.name out.sort out.kids = out from re_eq out]
    refine Ev.cf rfl (Ev.bind (tvth_ev out (by omega)) ?_)
    show Ev _ (if vthE out ≠ 0 then (zT, vthE out) else (out, 0))
    refine Ev.ite (fun h => ?_) fun h => ?_
    · rw [bnt, ieq_f] at h; exact Ev.ret (by rw [if_pos h]; rfl)
    · rw [bnf, ieq_t] at h; exact Ev.ret (by rw [if_neg (fun g => g h)])
  | succ i ih =>
    intro out hi ho i1 hi1 hsz
    subst hi1
    refine Ev.loop ?_
    simp only [theory_Tuple_l2, theory_Tuple_s2, re_eq]
    rw [show T.mk out.kind out.name out.sort out.kids = out from re_eq out]
    have hlt : i < l.length := by omega
    have hget := List.getElem?_eq_getElem hlt
    have hmem := List.getElem_mem hlt
    have h1 := mem_le_sum l _ hmem
    rw [show (((i + 1 : Nat) : Int) - 1) = ((i : Nat) : Int) by omega]
    refine Ev.ct (ile_t.2 (by omega)) (Ev.some (by rw [lget_nat]; exact hget) (Ev.bind (copied_ev _ (by omega)) (Ev.bind (app_ev _ _) ?_)))
    rw [foldr_take hget]
    have hs2 : ((l.take (i + 1)).map size).sum = ((l.take i).map size).sum + size l[i] := sum_take_succ size l i _ hget
    have hs3 := sum_take_le' l (i + 1)
    refine ih (pairT l[i] out) (by omega) (by rw [size_pair]; omega) _ ?_ (by rw [size_pair]; omega)
    rw [show (isub ((i : Nat) : Int) 1) = ((i : Nat) : Int) - 1 from rfl, iw_id (by omega)]
theorem rtuple_loop (l : List T) (hl : (l.map size).sum + l.length ≤ 100000) : ∀ (i : Nat) (out : T), i ≤ l.length → size out ≤ 1000000 → ∀ (i1 : Int), i1 = (i : Int) - 1 → ((l.take i).map size).sum + i + size out ≤ 1000000 →
    Ev (fun m k => ref09_Tuple_L m k l i1 0 [] 0 out.kind out.name out.sort out.kids []) (if vthE ((l.take i).foldr pairT out) ≠ 0 then (zT, vthE ((l.take i).foldr pairT out)) else ((l.take i).foldr pairT out, 0)) := by
  intro i
  induction i with
  | zero =>
    intro out _ ho i1 hi1 _
    subst hi1
    refine Ev.loop ?_
    simp only [ref09_Tuple_l1, ref09_Tuple_s1, re_eq]
    rw [show T.mk out.kind out.name out.sort out.kids = out from re_eq out]
    refine Ev.cf rfl (Ev.bind (rvth_ev out (by omega)) ?_)
    show Ev _ (if vthE out ≠ 0 then (zT, vthE out) else (out, 0))
    refine Ev.ite (fun h => ?_) fun h => ?_
    · rw [bnt, ieq_f] at h; exact Ev.ret (by rw [if_pos h]; rfl)
    · rw [bnf, ieq_t] at h; exact Ev.ret (by rw [if_neg (fun g => g h)])
  | succ i ih =>
    intro out hi ho i1 hi1 hsz
    subst hi1
    refine Ev.loop ?_
    simp only [ref09_Tuple_l1, ref09_Tuple_s1, re_eq]
    rw [show T.mk out.kind out.name out.sort out.kids = out from re_eq out]
    have hlt : i < l.length := by omega
    have hget := List.getElem?_eq_getElem hlt
    have hmem := List.getElem_mem hlt
    have h1 := mem_le_sum l _ hmem
    rw [show (((i + 1 : Nat) : Int) - 1) = ((i : Nat) : Int) by omega]
    refine Ev.ct (ile_t.2 (by omega)) (Ev.some (by rw [lget_nat]; exact hget) (Ev.bind (rapp_ev _ _ (by simp)) ?_))
    rw [foldr_take hget]
    have hs2 : ((l.take (i + 1)).map size).sum = ((l.take i).map size).sum + size l[i] := sum_take_succ size l i _ hget
    have hs3 := sum_take_le' l (i + 1)
    refine ih (pairT l[i] out) (by omega) (by rw [size_pair]; omega) _ ?_ (by rw [size_pair]; omega)
    rw [show (isub ((i : Nat) : Int) 1) = ((i : Nat) : Int) - 1 from rfl, iw_id (by omega)]
theorem last_get {l : List T} (h : l.length ≠ 0) : lget l (iw .i64 (isub (l.length : Int) 1)) = some (l.getLastD zT) ∨ 2 ^ 62 ≤ l.length := by
  by_cases hb : l.length < 2 ^ 62
  · left
    rw [show isub (l.length : Int) 1 = ((l.length - 1 : Nat) : Int) by unfold isub; omega, iw_id (by omega), lget_nat]
    rw [← List.getLast?_eq_getElem?]
    cases l with
    | nil => exact absurd rfl h
    | cons x l => rfl
  · right; omega
theorem tuple_ends {l : List T} (h : l.length ≠ 0) : (l.take (l.length - 1)).foldr pairT (l.getLastD zT) = tupT l := by
  unfold tupT
  rw [List.dropLast_eq_take]
theorem last_mem {l : List T} (h : l.length ≠ 0) : l.getLastD zT ∈ l := by
  cases l with
  | nil => exact absurd rfl h
  | cons x l => rw [List.getLastD_cons]; exact List.getLast_mem (List.cons_ne_nil x l) |> fun hh => by simpa [List.getLastD_cons, List.getLast_eq_getLastD] using hh
theorem ttuple_ev (l : List T) (hl : (l.map size).sum + l.length ≤ 400) : Ev (fun m _ => theory_Tuple m l) (tupE l) := by
  refine Ev.succ ?_
  simp only [theory_Tuple_e, theory_Tuple_s0, re_eq]
  unfold tupE
  refine Ev.ite (fun h => ?_) fun h => ?_
  · rw [ieq_t] at h; exact Ev.ret (by rw [if_pos (by omega)]; rfl)
  rw [ieq_f] at h
  have h0 : l.length ≠ 0 := by omega
  rw [if_neg h0]
  refine Ev.cf (ilt_f.2 (by omega)) ?_
  have hm := mem_le_sum l _ (last_mem h0)
  refine Ev.some ((last_get h0).resolve_right (by omega)) (Ev.bind (copied_ev _ (by omega)) ?_)
  have := ttuple_loop l (by omega) (l.length - 1) (l.getLastD zT) (by omega) (by omega) (iw .i64 (isub (l.length : Int) 2)) (by rw [show isub (l.length : Int) 2 = (l.length : Int) - 2 from rfl, iw_id (by omega)]; omega) (by have := sum_take_le' l (l.length - 1); omega)
  rw [tuple_ends h0] at this
  exact Ev.diag (L := fun m k => (theory_Tuple_L m k).2 l (iw .i64 (isub (l.length : Int) 2)) 0 [] 0 (l.getLastD zT).kind (l.getLastD zT).name (l.getLastD zT).sort (l.getLastD zT).kids []) this
theorem rtuple_ev (l : List T) (hl : (l.map size).sum + l.length ≤ 400) : Ev (fun m _ => ref09_Tuple m l) (tupE l) := by
  refine Ev.succ ?_
  simp only [ref09_Tuple_e, ref09_Tuple_s0, re_eq]
  unfold tupE
  refine Ev.ite (fun h => ?_) fun h => ?_
  · rw [ieq_t] at h; exact Ev.ret (by rw [if_pos (by omega)]; rfl)
  rw [ieq_f] at h
  have h0 : l.length ≠ 0 := by omega
  rw [if_neg h0]
  have hm := mem_le_sum l _ (last_mem h0)
  refine Ev.some ((last_get h0).resolve_right (by omega)) ?_
  have := rtuple_loop l (by omega) (l.length - 1) (l.getLastD zT) (by omega) (by omega) (iw .i64 (isub (l.length : Int) 2)) (by rw [show isub (l.length : Int) 2 = (l.length : Int) - 2 from rfl, iw_id (by omega)]; omega) (by have := sum_take_le' l (l.length - 1); omega)
  rw [tuple_ends h0] at this
  exact Ev.diag (L := fun m k => ref09_Tuple_L m k l (iw .i64 (isub (l.length : Int) 2)) 0 [] 0 (l.getLastD zT).kind (l.getLastD zT).name (l.getLastD zT).sort (l.getLastD zT).kids []) this
theorem unt_pair (a b : T) : untT (pairT a b) = a :: untT b := by
  rw [untT_eq, if_pos ⟨by unfold pairT isN apT; rfl, rfl⟩]; rfl
theorem unt_tup {b : T} (hb : isN b nPair = false) : ∀ l : List T, untT (l.foldr pairT b) = l ++ [b]
  | [] => by rw [List.foldr_nil, untT_eq, if_neg (by rw [hb]; rintro ⟨h, _⟩; cases h)]; rfl
  | x :: l => by rw [List.foldr_cons, unt_pair, unt_tup hb l]; rfl
theorem tup_list : ∀ {l : List T}, l.length ≠ 0 → l.dropLast ++ [l.getLastD zT] = l
  | [], h => absurd rfl h
  | [x], _ => rfl
  | x :: y :: l, _ => by
    have := tup_list (l := y :: l) (by simp)
    rw [List.dropLast_cons_of_ne_nil (by simp), List.cons_append]
    congr 1
theorem theoryTuple_ev (l : List T) (hf : l.length < 2 ^ 62 ∧ ∀ x ∈ l, FitT x) : Ev (fun m _ => law09_TheoryTuple m l) true := by
  refine Ev.succ ?_
  simp only [law09_TheoryTuple_e, law09_TheoryTuple_s0, re_eq]
  refine Ev.bind awake_ev (Ev.cf rfl ?_)
  refine Ev.bind (few_ev l hf.1 hf.2 20 200 (by decide) (by decide)) ?_
  cases hb : decide (l.length ≤ 20) && fewL l 200 with
  | false => exact Ev.ct rfl (Ev.bind awake_ev (Ev.pure _))
  | true =>
    rw [Bool.and_eq_true, decide_eq_true_iff] at hb
    have hs := fewL_size l 200 (by decide) hb.2
    have hz : size zT = 1 := size_eq zT
    refine Ev.cf rfl (Ev.bind (ttuple_ev l (by omega)) (Ev.bind (rtuple_ev l (by omega)) ?_))
    have hsz : size (tupE l).1 ≤ 1000 := by
      unfold tupE
      split
      · show size zT ≤ _; omega
      rename_i h0
      split
      · show size zT ≤ _; omega
      · show size (tupT l) ≤ _
        unfold tupT
        rw [size_foldr, List.dropLast_eq_take, List.length_take]
        have := sum_take_le' l (l.length - 1)
        have := mem_le_sum l _ (last_mem h0)
        omega
    have same : Ev (fun m _ => ref01_Same m (tupE l).1 (tupE l).1) true := (rsame_ev _ _ (by omega) (by omega)).res (sameT_iff.2 rfl)
    refine Ev.cf (bnf.2 (ieq_t.2 rfl)) (Ev.bind same (Ev.cf rfl ?_))
    refine Ev.ite (fun h => ?_) fun h => ?_
    · exact Ev.ct (ieq_t.2 rfl) (Ev.bind same (Ev.pure _))
    rw [bnf, ieq_t] at h
    have h0 : l.length ≠ 0 := by
      intro h0
      unfold tupE at h
      rw [if_pos h0] at h
      exact absurd h (by decide)
    have ht : (tupE l).1 = tupT l := by
      unfold tupE at h ⊢
      rw [if_neg h0] at h ⊢
      split
      · rename_i hh
        rw [if_pos hh] at h
        exact absurd h hh
      · rfl
    refine Ev.some ((last_get h0).resolve_right (by omega)) (Ev.bind (ris_ev _ nPair) ?_)
    refine Ev.ite (fun hp => ?_) fun hp => ?_
    · exact Ev.ct (ieq_t.2 rfl) (Ev.bind same (Ev.pure _))
    · rw [ht] at hsz ⊢
      refine Ev.bind (tunt_ev _ (by omega)) ?_
      have hu : untT (tupT l) = l := by
        unfold tupT
        rw [unt_tup hp, tup_list h0]
      rw [hu]
      refine Ev.bind (lists_ev l l hf.1 (fun x hx => by have := mem_le_sum l x hx; omega) (fun x hx => by have := mem_le_sum l x hx; omega)) ?_
      exact Ev.ret (decide_eq_true rfl)
end Go.AmYtmodnblfcikjlaa
namespace Go.AmYtmodnblfcikjlaa
open Go Go.RowKit Go.GxYtmodnblfcikjlaa

/-- A function that turns nothing; one that turns boxes and rows. -/
structure FI where
  fn : Func
  args : List ATy
  res : List Ty
  loop : List (Nat × List (Tmp × Co))
  F : Nat → ArgsV args → Option (ResV res)
structure SI where
  fn : Func
  args : List SA
  res : List RA
  loop : List (Nat × List (Tmp × Co))
  F : Nat → SArgs args → Option (SOut args × RV res)
inductive En where
  | pure (l : List (List Nat × FI))
  | st (i : SI)
  | hp (g : Sig)
  | hs (g : SSig)
inductive Tr where
  | leaf
  | node (k : Nat) (l r : Tr) (x : En)
def Tr.get : Tr → Nat → Option En
  | .leaf, _ => none
  | .node k l r x, f => match Nat.beq f k with
    | true => some x
    | false => match Nat.blt f k with
      | true => Tr.get l f
      | false => Tr.get r f
def findG (gs : List Nat) : List (List Nat × FI) → Option FI
  | [] => none
  | p :: r => match natsEq p.1 gs with
    | true => some p.2
    | false => findG gs r
def findLp (r : Nat) : List (Nat × List (Tmp × Co)) → Option (List (Tmp × Co))
  | [] => none
  | p :: l => match Nat.beq p.1 r with
    | true => some p.2
    | false => findLp r l
structure Tb where
  ty : Nat → Option TD
  el : Nat → Option Ty
  tr : Tr
def Tb.has (b : Tb) (f : Nat) : Bool := match b.tr.get f with
  | some (.pure _) => true
  | some (.hp _) => true
  | _ => false
def Tb.pf (b : Tb) (m f : Nat) (gs : List Nat) : Option Sig := match b.tr.get f with
  | some (.pure l) => match findG gs l with
    | some i => some ⟨i.args, i.res, i.F m⟩
    | none => none
  | some (.hp g) => gsel gs [] (some g) none
  | _ => none
def Tb.sf (b : Tb) (m f : Nat) : Option SSig := match b.tr.get f with
  | some (.st i) => some ⟨i.args, i.res, i.F m⟩
  | some (.hs g) => some g
  | _ => none
def Tb.tc (b : Tb) (m : Nat) (lp : List (Nat × List (Tmp × Co))) (nt np : Nat) : TC := ⟨b.ty, b.el, b.has, b.pf m, b.sf m, fun r => findLp r lp, fun _ => none, nt, np⟩
def Tb.runP (b : Tb) (m : Nat) (i : FI) (k : Nat) (st : List It) (E : Env) (σ : TS) : Option (ResV i.res) :=
  runL (b.tc m i.loop i.fn.ntmps 0) (finT (b.tc m i.loop i.fn.ntmps 0) i.res i.fn.results.toList) stepsN k st E σ
def Tb.runS (b : Tb) (m : Nat) (i : SI) (k : Nat) (st : List It) (E : Env) (σ : TS) : Option (SOut i.args × RV i.res) :=
  runL (b.tc m i.loop i.fn.ntmps (nBox i.args)) (finS (b.tc m i.loop i.fn.ntmps (nBox i.args)) i.args i.res i.fn.results.toList) stepsN k st E σ
/-- A whole call; at the head of a loop. -/
def Tb.runP1 (b : Tb) (m : Nat) (i : FI) (gs : List Nat) (a : ArgsV i.args) : Option (ResV i.res) := b.runP m i (m + 1) [.code (bodyC i.fn)] (envOf 0 (tvAs i.args a gs)) ⟨[], []⟩
def Tb.runS1 (b : Tb) (m : Nat) (i : SI) (a : SArgs i.args) : Option (SOut i.args × RV i.res) := b.runS m i (m + 1) [.code (bodyC i.fn)] (envOf 0 (sEnv i.args 0 0 a)) ⟨sBx i.args a, sRw i.args a⟩
def Tb.PL (b : Tb) (i : FI) (r : Nat) (m k : Nat) (E : Env) (σ : TS) : Option (ResV i.res) := b.runP m i k (stL i.fn r) E σ
def Tb.QL (b : Tb) (i : SI) (r : Nat) (m k : Nat) (E : Env) (σ : TS) : Option (SOut i.args × RV i.res) := b.runS m i k (stL i.fn r) E σ
/-- The contracts' machine with fuel m. -/
def Tb.at (b : Tb) (m : Nat) : TC := b.tc m [] 0 0
/-- Loops: the plain ones are the machine's. -/
theorem lab1 {α : Type} {M : Nat → α} {z : α} {s : α → α} (h0 : z = M 0) (hM : ∀ k, M (k + 1) = s (M k)) (k : Nat) : nrec z s k = M k := by
  induction k with
  | zero => exact h0
  | succ k ih => rw [hM, ← ih]; rfl

def fnB (fn : Func) (n : Nat) : Bool := bodyOk fn && Nat.ble n fn.ntmps
def En.ok : En → Bool
  | .pure l => l.all fun p => fnB p.2.fn p.2.args.length
  | .st i => fnB i.fn i.args.length
  | _ => true
def Tr.ok : Tr → Bool
  | .leaf => true
  | .node _ l r x => x.ok && (l.ok && r.ok)
/-- The program's functions are those of the table, the plain functions are what they answer; what is proved by hand. -/
def EnsOk (P : Program) (b : Tb) (f : Nat) (l : List (List Nat × FI)) : Prop := match l with
  | [] => True
  | p :: r => P.funcs[f]? = some p.2.fn ∧ (∀ a, p.2.F 0 a = none) ∧ (∀ m a, p.2.F (m + 1) a = b.runP1 m p.2 p.1 a) ∧ EnsOk P b f r
def En.prog (P : Program) (b : Tb) (f : Nat) : En → Prop
  | .pure l => EnsOk P b f l ∧ l ≠ []
  | .st i => P.funcs[f]? = some i.fn ∧ (∀ a, i.F 0 a = none) ∧ ∀ m a, i.F (m + 1) a = b.runS1 m i a
  | .hp g => ∀ c : TC, (∀ gs, c.pf f gs = gsel gs [] (some g) none) → PrimOk P f (pureP (sigP c f))
  | .hs g => PrimOk P f (sgP g)
def Tr.prog (P : Program) (b : Tb) : Tr → Prop
  | .leaf => True
  | .node k l r x => x.prog P b k ∧ l.prog P b ∧ r.prog P b
theorem Tr.get_spec {P : Program} {b : Tb} : ∀ {t : Tr} {f : Nat} {x : En}, t.get f = some x → t.ok = true → t.prog P b → x.ok = true ∧ x.prog P b f
  | .leaf, f, x, h, _, _ => by cases h
  | .node k l r y, f, x, h, ho, ⟨p1, p2, p3⟩ => by
    simp only [Tr.ok, Bool.and_eq_true] at ho
    obtain ⟨o1, o2, o3⟩ := ho
    simp only [Tr.get] at h
    split at h
    · rename_i hb
      cases h
      rw [Nat.eq_of_beq_eq_true hb]
      exact ⟨o1, p1⟩
    · split at h
      · exact Tr.get_spec h o2 p2
      · exact Tr.get_spec h o3 p3
theorem findG_mem {gs : List Nat} : ∀ {l : List (List Nat × FI)} {i : FI}, findG gs l = some i → (gs, i) ∈ l
  | [], i, h => by cases h
  | p :: r, i, h => by
    simp only [findG] at h
    split at h
    · rename_i hb
      cases h
      rw [← natsEq_eq hb]
      exact List.mem_cons_self ..
    · exact List.mem_cons_of_mem _ (findG_mem h)
theorem EnsOk.mem {P : Program} {b : Tb} {f : Nat} : ∀ {l : List (List Nat × FI)} {p : List Nat × FI}, EnsOk P b f l → p ∈ l → P.funcs[f]? = some p.2.fn ∧ (∀ a, p.2.F 0 a = none) ∧ (∀ m a, p.2.F (m + 1) a = b.runP1 m p.2 p.1 a)
  | [], p, _, h => by cases h
  | q :: r, p, ⟨h1, h2, h3, h4⟩, h => by
    rcases List.mem_cons.1 h with rfl | h
    · exact ⟨h1, h2, h3⟩
    · exact EnsOk.mem h4 h
theorem bodyC_some {fn : Func} (h : bodyOk fn = true) : fn.body = some (bodyC fn) := by
  unfold bodyOk at h
  unfold bodyC
  cases hb : fn.body with
  | none => rw [hb] at h; cases h
  | some c => rfl
theorem fnB_spec {fn : Func} {n : Nat} (h : fnB fn n = true) : bodyOk fn = true ∧ n ≤ fn.ntmps := by
  unfold fnB at h
  rw [Bool.and_eq_true] at h
  exact ⟨h.1, Nat.le_of_ble_eq_true h.2⟩
/-- A function of the program answers as its plain function does, whatever functions it is handed. -/
theorem fn_stepG {P : Program} {pc : PC} (hC : CfgOk P pc.cfg) {c' : TC} {f : FuncId} {fn : Func} (hf : P.funcs[f]? = some fn) (hb : bodyOk fn = true)
    (h : ∀ gs g, c'.pf f gs = some g → ∃ c : TC, c.pc = pc ∧ c.nt = fn.ntmps ∧ c.np = 0 ∧ g.args.length ≤ fn.ntmps ∧ ∃ N k, ∀ a, g.fn a = runL c (finT c g.res fn.results.toList) N k [.code (bodyC fn)] (envOf 0 (tvAs g.args a gs)) ⟨[], []⟩) : PrimOk P f (pureP (sigP c' f)) := by
  refine prim_pure hC hf hb (sigP c' f) fun ys r hp => ?_
  unfold sigP at hp
  split at hp <;> try cases hp
  rename_i g hg
  split at hp <;> try cases hp
  rename_i a ha
  split at hp <;> cases hp
  rename_i v hv
  obtain ⟨c, rfl, hnt, hnp, h1, N, k, h2⟩ := h _ g hg
  refine ⟨encAs g.args a (fnsA ys), _, encAs_sub g.args ha, fun z hz => hz, ?_⟩
  exact fn_ok (bodyC_some hb) hnt hnp (by rw [encAs_len]; exact h1) (encAs_ok g.args a (fnsA ys)) (by rw [← h2 a]; exact hv)
theorem Tb.has_pf {b : Tb} {m f : Nat} {gs : List Nat} {g : Sig} (h : b.pf m f gs = some g) : (∃ l i, b.tr.get f = some (.pure l) ∧ findG gs l = some i ∧ g = ⟨i.args, i.res, i.F m⟩) ∨ (∃ g', b.tr.get f = some (.hp g')) := by
  unfold Tb.pf at h
  split at h
  · rename_i l hl
    split at h <;> cases h
    exact .inl ⟨l, _, hl, ‹_›, rfl⟩
  · exact .inr ⟨_, ‹_›⟩
  · cases h
/-- All contracts, at every depth. -/
theorem Tb.all_ok {P : Program} {b : Tb} (hm : P.follows .mixedOrders = true) (ht : ∀ t d, b.ty t = some d → tdOf P t = some d) (ho : b.tr.ok = true) (hp : b.tr.prog P b) : ∀ m, CfgOk P (b.at m).pc.cfg := by
  have hand : ∀ {c : TC} {g : Sig} {f m : Nat}, c.pf = b.pf m → b.tr.get f = some (.hp g) → PrimOk P f (pureP (sigP c f)) := by
    intro c g f m hc hg
    refine (Tr.get_spec hg ho hp).2 c fun gs => ?_
    rw [hc]
    unfold Tb.pf
    rw [hg]
  have hasE : ∀ {m : Nat} {f : Nat}, (b.at m).has f = true → (∃ l, b.tr.get f = some (.pure l)) ∨ ∃ g, b.tr.get f = some (.hp g) := by
    intro m f h
    have h : b.has f = true := h
    unfold Tb.has at h
    split at h
    · exact .inl ⟨_, ‹_›⟩
    · exact .inr ⟨_, ‹_›⟩
    · cases h
  have sfE : ∀ {m : Nat} {f : Nat} {g : SSig}, (b.at m).sf f = some g → (∃ i, b.tr.get f = some (.st i) ∧ g = ⟨i.args, i.res, i.F m⟩) ∨ b.tr.get f = some (.hs g) := by
    intro m f g h
    have h : b.sf m f = some g := h
    unfold Tb.sf at h
    split at h
    · cases h; exact .inl ⟨_, ‹_›, rfl⟩
    · cases h; exact .inr ‹_›
    · cases h
  have fnOkP : ∀ {f : Nat} {l : List (List Nat × FI)}, b.tr.get f = some (.pure l) → ∃ fn, P.funcs[f]? = some fn ∧ bodyOk fn = true ∧ ∀ gs i, findG gs l = some i → i.fn = fn ∧ i.args.length ≤ fn.ntmps ∧ (∀ a, i.F 0 a = none) ∧ ∀ m a, i.F (m + 1) a = b.runP1 m i gs a := by
    intro f l hl
    obtain ⟨h1, h2⟩ := Tr.get_spec hl ho hp
    obtain ⟨h2, h3⟩ := h2
    have h1 := List.all_eq_true.1 (show l.all _ = true from h1)
    cases l with
    | nil => exact absurd rfl h3
    | cons p r =>
      refine ⟨p.2.fn, (h2.mem (List.mem_cons_self ..)).1, (fnB_spec (h1 p (List.mem_cons_self ..))).1, fun gs i hi => ?_⟩
      have hm := findG_mem hi
      obtain ⟨e1, e4, e5⟩ := h2.mem hm
      have e2 := (h2.mem (List.mem_cons_self ..)).1
      rw [e2] at e1
      have e3 : p.2.fn = i.fn := Option.some.inj e1
      refine ⟨e3.symm, ?_, e4, e5⟩
      rw [e3]
      exact (fnB_spec (h1 _ hm)).2
  intro m
  induction m with
  | zero =>
    refine cfg_ok hm ht (fun f hf => ?_) fun f g hg => ?_
    · rcases hasE hf with ⟨l, hl⟩ | ⟨g, hg⟩
      · obtain ⟨fn, f1, f2, f3⟩ := fnOkP hl
        refine prim_zero (fnOk_of f1 f2) fun gs g a h => ?_
        have h : b.pf 0 f gs = some g := h
        rcases Tb.has_pf h with ⟨l', i, g1, g2, rfl⟩ | ⟨g', g1⟩
        · rw [hl] at g1; cases g1
          exact (f3 gs i g2).2.2.1 a
        · rw [hl] at g1; cases g1
      · exact hand rfl hg
    · rcases sfE hg with ⟨i, hi, rfl⟩ | hh
      · obtain ⟨h1, h2, h3, _⟩ := Tr.get_spec hi ho hp
        exact prim_zeroS (fnOk_of h2 (fnB_spec h1).1) h3
      · exact (Tr.get_spec hh ho hp).2
  | succ m ih =>
    refine cfg_ok hm ht (fun f hf => ?_) fun f g hg => ?_
    · rcases hasE hf with ⟨l, hl⟩ | ⟨g, hg⟩
      · obtain ⟨fn, f1, f2, f3⟩ := fnOkP hl
        refine fn_stepG ih f1 f2 fun gs g h => ?_
        have h : b.pf (m + 1) f gs = some g := h
        rcases Tb.has_pf h with ⟨l', i, g1, g2, rfl⟩ | ⟨g', g1⟩
        · rw [hl] at g1; cases g1
          obtain ⟨rfl, h4, _, h5⟩ := f3 gs i g2
          exact ⟨b.tc m i.loop i.fn.ntmps 0, rfl, rfl, rfl, h4, stepsN, m + 1, fun a => h5 m a⟩
        · rw [hl] at g1; cases g1
      · exact hand rfl hg
    · rcases sfE hg with ⟨i, hi, rfl⟩ | hh
      · obtain ⟨h1, h2, _, h5⟩ := Tr.get_spec hi ho hp
        obtain ⟨h3, h4⟩ := fnB_spec h1
        exact fn_stepS (c := b.tc m i.loop i.fn.ntmps (nBox i.args)) ih h2 h3 (bodyC_some h3) rfl _ rfl h4 ⟨stepsN, m + 1, fun a => h5 m a⟩
      · exact (Tr.get_spec hh ho hp).2
/-- A function of the table as a contract. -/
theorem Tb.prim {P : Program} {b : Tb} (h : ∀ m, CfgOk P (b.at m).pc.cfg) (m : Nat) {f : Nat} (hf : b.has f = true) : PrimOk P f (pureP (sigP (b.at m) f)) := by
  refine (h m).prim f _ ?_
  show PC.prim _ f = _
  unfold PC.prim
  have : (b.at m).pc.pf f = some (sigP (b.at m) f) := by
    show (match (b.at m).has f with | true => some (sigP (b.at m) f) | false => none) = _
    rw [show (b.at m).has f = true from hf]
  rw [this]
end Go.AmYtmodnblfcikjlaa
namespace Go.AmYtmodnblfcikjlaa
open Go Go.GxYtmodnblfcikjlaa
set_option linter.unusedVariables false
set_option maxRecDepth 100000
noncomputable def i3 : FI := ⟨Go.Proofs.Try.f3, [.val .term], [.bool], [], fun m x => law09_TheoryKey m x.1⟩
noncomputable def i4 : FI := ⟨Go.Proofs.Try.f4, [.val (.list .term)], [.bool], [], fun m x => law09_TheoryTuple m x.1⟩
noncomputable def i5 : FI := ⟨Go.Proofs.Try.f5, [], [.bool], [], fun m x => law09_awake m⟩
noncomputable def i6 : FI := ⟨Go.Proofs.Try.f6, [.val (.list .term)], [.bool], [(4, [(8, .list .term), (9, .keep), (10, .keep)])], fun m x => law09_small m x.1⟩
noncomputable def i7 : FI := ⟨Go.Proofs.Try.f7, [.val .term], [.term, (.int .i64)], [], fun m x => theory_Key m x.1⟩
noncomputable def i8 : FI := ⟨Go.Proofs.Try.f8, [.val .term], [.term, (.int .i64)], [], fun m x => ref09_Key m x.1⟩
noncomputable def i9 : FI := ⟨Go.Proofs.Try.f9, [.val .term, .val .term], [.bool], [], fun m x => ref01_Same m x.1 x.2.1⟩
noncomputable def i10 : FI := ⟨Go.Proofs.Try.f10, [.val (.list .term), .val (.list .term)], [.bool], [(4, [(0, .list .term), (1, .list .term), (5, .keep)])], fun m x => ref01_Lists m x.1 x.2.1⟩
noncomputable def i11 : FI := ⟨Go.Proofs.Try.f11, [.val .term], [(.list .term)], [(2, [(1, .box [.keep, .keep, .keep, .list .term]), (3, .row .term false)])], fun m x => theory_Untuple m x.1⟩
noncomputable def i12 : FI := ⟨Go.Proofs.Try.f12, [.val .term], [(.list .term)], [], fun m x => ref09_Untuple m x.1⟩
noncomputable def i13 : FI := ⟨Go.Proofs.Try.f13, [.val (.list .term), .val (.int .i64), .val (.int .i64)], [.bool], [(4, [(0, .list .term), (2, .keep), (7, .keep)])], fun m x => ref01_Few m x.1 x.2.1 x.2.2.1⟩
noncomputable def i14 : FI := ⟨Go.Proofs.Try.f14, [.val (.list .term)], [.term, (.int .i64)], [(6, [(0, .list .term), (2, .box [.keep, .keep, .keep, .row .term false]), (18, .keep), (19, .keep)]), (15, [(0, .list .term), (2, .box [.keep, .keep, .keep, .row .term false]), (7, .box [.keep, .keep, .keep, .list .term]), (8, .keep)])], fun m x => theory_Tuple m x.1⟩
noncomputable def i15 : FI := ⟨Go.Proofs.Try.f15, [.val (.list .term)], [.term, (.int .i64)], [(5, [(0, .list .term), (2, .box [.keep, .keep, .keep, .row .term false]), (4, .box [.keep, .keep, .keep, .list .term]), (5, .keep)])], fun m x => ref09_Tuple m x.1⟩
noncomputable def i16 : FI := ⟨Go.Proofs.Try.f16, [.val .term, .val .str], [.bool], [], fun m x => ref09_Is m x.1 x.2.1⟩
noncomputable def i17 : FI := ⟨Go.Proofs.Try.f17, [.val .str, .val .str], [.bool], [], fun m x => law09_leads m x.1 x.2.1⟩
noncomputable def i18 : FI := ⟨Go.Proofs.Try.f18, [.val .term], [.bool], [], fun m x => theory_Plain m x.1⟩
noncomputable def i19 : FI := ⟨Go.Proofs.Try.f19, [.val .str], [.term], [], fun m x => law09_parse m x.1⟩
noncomputable def i20 : FI := ⟨Go.Proofs.Try.f20, [.val .term], [(.int .i64)], [(3, [(1, .box [.keep, .keep, .keep, .list .term]), (3, .keep), (4, .keep)])], fun m x => ref01_Depth m x.1⟩
noncomputable def i21 : FI := ⟨Go.Proofs.Try.f21, [.val .term], [(.int .i64)], [], fun m x => theory_Valid m x.1⟩
noncomputable def i22 : FI := ⟨Go.Proofs.Try.f22, [.val .term, .val .str], [.bool], [], fun m x => theory_is m x.1 x.2.1⟩
noncomputable def i23 : FI := ⟨Go.Proofs.Try.f23, [.val .term], [.term], [], fun m x => theory_copied m x.1⟩
noncomputable def i24 : FI := ⟨Go.Proofs.Try.f24, [.val .term], [(.int .i64)], [], fun m x => ref09_Valid m x.1⟩
noncomputable def i25 : FI := ⟨Go.Proofs.Try.f25, [.val .term, .val .term], [(.int .i64)], [(18, [(2, .box [.keep, .keep, .keep, .list .term]), (3, .box [.keep, .keep, .keep, .list .term]), (9, .keep)])], fun m x => ref01_Compare m x.1 x.2.1⟩
noncomputable def i26 : FI := ⟨Go.Proofs.Try.f26, [.val .term, .val (.int .i64)], [(.int .i64)], [(5, [(1, .keep), (2, .box [.keep, .keep, .keep, .list .term]), (5, .keep)])], fun m x => ref01_budget m x.1 x.2.1⟩
noncomputable def i27 : FI := ⟨Go.Proofs.Try.f27, [.val .str, .val (.list .term)], [.term], [], fun m x => theory_app m x.1 x.2.1⟩
noncomputable def i28 : FI := ⟨Go.Proofs.Try.f28, [.val .str, .val (.list .term)], [.term], [], fun m x => ref01_App m x.1 x.2.1⟩
noncomputable def i29 : FI := ⟨Go.Proofs.Try.f29, [.val .term], [.term, (.int .i64)], [], fun m x => theory_Normal m x.1⟩
noncomputable def i30 : FI := ⟨Go.Proofs.Try.f30, [.val .term, .val .term], [.bool], [], fun m x => theory_same m x.1 x.2.1⟩
noncomputable def i31 : FI := ⟨Go.Proofs.Try.f31, [.val .term, .fn], [.bool], [(4, [(1, .keep), (18, .list .term), (19, .keep), (20, .keep)])], fun m x => theory_every_of_32 m x.1⟩
noncomputable def i32 : FI := ⟨Go.Proofs.Try.f32, [.val .str], [.bool], [], fun m x => theory_Plain_1 m x.1⟩
noncomputable def i33 : FI := ⟨Go.Proofs.Try.f33, [.val .str], [(.pair .str (.pair (.int .i64) (.pair (.int .i64) (.int .i64))))], [(2, [(0, .keep), (2, .box [.keep, .keep, .keep, .keep]), (5, .list (.pair .str (.pair (.int .i64) (.pair (.int .i64) (.int .i64))))), (6, .keep), (7, .keep)])], fun m x => theory_symbol m x.1⟩
noncomputable def i34 : FI := ⟨Go.Proofs.Try.f34, [.val .str], [.term, (.int .i64)], [], fun m x => ref01_Parse m x.1⟩
noncomputable def i35 : FI := ⟨Go.Proofs.Try.f35, [.val .term], [(.int .i64)], [], fun m x => term_Valid m x.1⟩
noncomputable def i36 : FI := ⟨Go.Proofs.Try.f36, [.val .term], [(.int .i64)], [(13, [(1, .box [.keep, .keep, .keep, .list .term]), (38, .list .term), (39, .keep), (40, .keep)]), (22, [(62, .list .term), (63, .keep), (64, .keep)])], fun m x => theory_check m x.1⟩
noncomputable def i37 : FI := ⟨Go.Proofs.Try.f37, [.val .term, .val (.list (.int .i64))], [.term, (.int .i64)], [(2, [(2, .box [.keep, .keep, .keep, .list .term]), (4, .box [.keep, .keep, .keep, .row .term false]), (8, .list (.int .i64)), (9, .keep), (10, .keep)])], fun m x => term_At m x.1 x.2.1⟩
noncomputable def i38 : FI := ⟨Go.Proofs.Try.f38, [.val .term], [(.int .i64)], [], fun m x => ref01_Valid m x.1⟩
noncomputable def i39 : FI := ⟨Go.Proofs.Try.f39, [.val .term], [(.int .i64)], [(11, [(1, .box [.keep, .keep, .keep, .list .term]), (4, .keep)])], fun m x => ref09_nodes m x.1⟩
noncomputable def i40 : FI := ⟨Go.Proofs.Try.f40, [.val (.int .i64), .val (.int .i64)], [(.int .i64)], [], fun m x => ref01_number m x.1 x.2.1⟩
noncomputable def i41 : FI := ⟨Go.Proofs.Try.f41, [.val .term], [(.int .i64)], [(3, [(1, .box [.keep, .keep, .keep, .list .term]), (3, .keep), (4, .keep)])], fun m x => ref01_Size m x.1⟩
noncomputable def i42 : FI := ⟨Go.Proofs.Try.f42, [.val .term], [.term, (.int .i64)], [(5, [(1, .box [.keep, .keep, .keep, .list .term]), (2, .box [.keep, .keep, .keep, .row .term false]), (4, .box [.keep, .keep, .keep, .row .term false]), (19, .list .term), (20, .keep), (21, .keep)])], fun m x => theory_normal m x.1⟩
noncomputable def i43 : FI := ⟨Go.Proofs.Try.f43, [.val .term, .val .term], [(.int .i64)], [(11, [(2, .box [.keep, .keep, .keep, .list .term]), (3, .box [.keep, .keep, .keep, .list .term]), (5, .keep), (6, .keep)])], fun m x => term_Compare m x.1 x.2.1⟩
noncomputable def i45 : FI := ⟨Go.Proofs.Try.f45, [.val .str, .val (.int .i64)], [.term, .str, .bool], [(13, [(0, .keep), (1, .keep), (4, .box [.keep, .keep, .keep, .row .term false]), (7, .box [.keep, .keep, .keep, .row .term false])])], fun m x => ref01_read m x.1 x.2.1⟩
noncomputable def i46 : SI := ⟨Go.Proofs.Try.f46, [.val .term, .val (.int .i64), .box (.int .i64), .box (.int .i64)], [.val (.int .i64)], [(17, [(1, .keep), (2, .box [.keep]), (3, .box [.keep]), (57, .list .term), (58, .keep), (59, .keep)])], fun m x => term_check m x.1 x.2.1 x.2.2.1 x.2.2.2.1⟩
noncomputable def i47 : FI := ⟨Go.Proofs.Try.f47, [.val .term], [.term], [(4, [(1, .box [.keep, .keep, .keep, .row .term false]), (2, .box [.keep, .keep, .keep, .row .term false]), (9, .list .term), (10, .keep), (11, .keep)])], fun m x => term_clone m x.1⟩
noncomputable def i48 : FI := ⟨Go.Proofs.Try.f48, [.val .term], [(.int .i64)], [(5, [(1, .box [.keep, .keep, .keep, .list .term]), (4, .keep)])], fun m x => ref01_nodes m x.1⟩
noncomputable def i49 : FI := ⟨Go.Proofs.Try.f49, [.val .str], [(.int .i64)], [(3, [(0, .keep), (3, .list (.pair .str (.pair (.int .i64) (.pair (.int .i64) (.int .i64))))), (4, .keep)])], fun m x => ref09_Kind m x.1⟩
noncomputable def i50 : FI := ⟨Go.Proofs.Try.f50, [.val .term], [.bool], [(3, [(1, .box [.keep, .keep, .keep, .list .term]), (3, .list (.pair .str (.pair (.int .i64) (.pair (.int .i64) (.int .i64))))), (4, .keep)])], fun m x => ref09_fits m x.1⟩
noncomputable def i51 : FI := ⟨Go.Proofs.Try.f51, [.val .term], [.bool], [(4, [(1, .box [.keep, .keep, .keep, .list .term]), (3, .keep)])], fun m x => ref09_agents m x.1⟩
noncomputable def i52 : FI := ⟨Go.Proofs.Try.f52, [.val .term], [.term], [], fun m x => theory_destroy m x.1⟩
noncomputable def i53 : FI := ⟨Go.Proofs.Try.f53, [.val (.list .term)], [.term, (.int .i64)], [(6, [(2, .box [.keep, .keep, .keep, .row .term true]), (5, .list .term), (15, .list .term), (16, .keep), (17, .keep)])], fun m x => xor_Sum m x.1⟩
noncomputable def i54 : FI := ⟨Go.Proofs.Try.f54, [.val .term], [(.list (.pair .term (.int .i64))), (.int .i64)], [], fun m x => exponent_Of m x.1⟩
noncomputable def i55 : FI := ⟨Go.Proofs.Try.f55, [.val (.list (.pair .term (.int .i64)))], [.term, (.int .i64)], [(6, [(2, .box [.keep, .keep, .keep, .row .term false]), (5, .row .term false), (6, .row .term false), (18, .list (.pair .term (.int .i64))), (19, .keep), (20, .keep)]), (11, [(2, .box [.keep, .keep, .keep, .row .term false]), (5, .row .term false), (6, .row .term false), (8, .box [.keep, .keep, .keep, .list .term, .keep]), (18, .list (.pair .term (.int .i64))), (19, .keep), (20, .keep), (34, .keep), (35, .keep)]), (15, [(2, .box [.keep, .keep, .keep, .row .term false]), (5, .row .term false), (6, .row .term false), (8, .box [.keep, .keep, .keep, .list .term, .keep]), (18, .list (.pair .term (.int .i64))), (19, .keep), (20, .keep), (46, .keep), (47, .keep)])], fun m x => exponent_Term m x.1⟩
noncomputable def i56 : FI := ⟨Go.Proofs.Try.f56, [.val .term, .val .term], [.term, (.int .i64)], [], fun m x => theory_raise m x.1 x.2.1⟩
noncomputable def i57 : FI := ⟨Go.Proofs.Try.f57, [.val (.int .i64), .val (.int .i64)], [(.int .i64)], [], fun m x => term_sign m x.1 x.2.1⟩
noncomputable def i58 : FI := ⟨Go.Proofs.Try.f58, [.val .term], [(.int .i64)], [(3, [(3, .keep), (7, .list .term), (8, .keep), (9, .keep)])], fun m x => term_Size m x.1⟩
noncomputable def i61 : FI := ⟨Go.Proofs.Try.f61, [.val .str], [.str], [(2, [(0, .keep), (3, .keep)])], fun m x => ref01_name m x.1⟩
noncomputable def i62 : FI := ⟨Go.Proofs.Try.f62, [.val .str], [.bool], [(4, [(0, .keep), (3, .keep)])], fun m x => ref01_IsName m x.1⟩
noncomputable def i63 : FI := ⟨Go.Proofs.Try.f63, [.val .term, .val .str], [.term, .str, .bool], [(5, [(1, .keep), (2, .box [.keep, .keep, .keep, .list .term]), (4, .box [.keep, .keep, .keep, .row .term false]), (7, .keep), (8, .keep)])], fun m x => ref01_leaf m x.1 x.2.1⟩
noncomputable def i64 : FI := ⟨Go.Proofs.Try.f64, [.val .str], [.bool], [(4, [(0, .keep), (38, .keep), (39, .keep)])], fun m x => term_isName m x.1⟩
noncomputable def i65 : FI := ⟨Go.Proofs.Try.f65, [.val .term], [(.int .i64)], [], fun m x => ref01_node m x.1⟩
noncomputable def i66 : FI := ⟨Go.Proofs.Try.f66, [], [(.list (.pair .str (.pair (.int .i64) (.pair (.int .i64) (.int .i64)))))], [], fun m x => ref09_Symbols m⟩
noncomputable def i67 : FI := ⟨Go.Proofs.Try.f67, [.val (.list .term), .val (.list .term)], [(.int .i64)], [(4, [(14, .list .term), (15, .keep), (16, .keep)])], fun m x => xor_right m x.1 x.2.1⟩
noncomputable def i68 : FI := ⟨Go.Proofs.Try.f68, [.val (.list .term), .val (.list .term)], [(.list .term)], [(2, [(0, .list .term), (1, .list .term), (5, .row .term false)])], fun m x => xor_plus m x.1 x.2.1⟩
noncomputable def i69 : FI := ⟨Go.Proofs.Try.f69, [.val .term], [(.list .term)], [(6, [(3, .list .term), (31, .list .term), (32, .keep), (33, .keep)])], fun m x => xor_summands m x.1⟩
noncomputable def i70 : FI := ⟨Go.Proofs.Try.f70, [.val (.list .term)], [(.list .term)], [(3, [(3, .row .term false), (9, .list .term), (10, .keep), (11, .keep)])], fun m x => xor_own m x.1⟩
noncomputable def i71 : SI := ⟨Go.Proofs.Try.f71, [.row (.pair .term (.int .i64)), .val .term, .val (.int .i64)], [.row (.pair .term (.int .i64)), .val .bool], [(12, [(0, .row (.pair .term (.int .i64)) false), (2, .keep), (52, .list .term), (53, .keep), (54, .keep)])], fun m x => exponent_collect m x.1 x.2.1 x.2.2.1⟩
noncomputable def i72 : FI := ⟨Go.Proofs.Try.f72, [.val (.list (.pair .term (.int .i64)))], [(.int .i64)], [(4, [(0, .list (.pair .term (.int .i64))), (9, .list (.pair .term (.int .i64))), (10, .keep), (11, .keep)])], fun m x => exponent_valid m x.1⟩
noncomputable def i73 : FI := ⟨Go.Proofs.Try.f73, [.val .term], [.term], [(3, [(1, .box [.keep, .keep, .keep, .row .term false]), (2, .box [.keep, .keep, .keep, .row .term false]), (10, .row .term false), (11, .keep), (12, .keep)])], fun m x => exponent_clone m x.1⟩
noncomputable def i74 : FI := ⟨Go.Proofs.Try.f74, [.val .str, .val (.list .term)], [.term], [], fun m x => exponent_app m x.1 x.2.1⟩
noncomputable def i75 : FI := ⟨Go.Proofs.Try.f75, [.val (.list (.list .term))], [(.list .term)], [(3, [(0, .list (.list .term)), (3, .keep), (9, .list (.list .term)), (10, .keep), (11, .keep)]), (11, [(6, .row .term false), (25, .list (.list .term)), (26, .keep), (27, .keep)])], fun m x => slices_Concat_api_Term_api_Term m x.1⟩
noncomputable def i76 : FI := ⟨Go.Proofs.Try.f76, [.val (.list (.pair .term (.int .i64))), .val (.list (.pair .term (.int .i64)))], [(.list (.pair .term (.int .i64))), (.int .i64)], [(9, [(8, .row (.pair .term (.int .i64)) false), (23, .list (.pair .term (.int .i64))), (24, .keep), (25, .keep)])], fun m x => exponent_Mul m x.1 x.2.1⟩
noncomputable def i78 : FI := ⟨Go.Proofs.Try.f78, [.val (.int .u8)], [.bool], [], fun m x => ref01_letter m x.1⟩
noncomputable def i79 : FI := ⟨Go.Proofs.Try.f79, [.val (.int .u8)], [.bool], [], fun m x => ref01_digit m x.1⟩
noncomputable def i80 : FI := ⟨Go.Proofs.Try.f80, [.val (.int .i64)], [.str], [], fun m x => ref01_word m x.1⟩
noncomputable def i81 : FI := ⟨Go.Proofs.Try.f81, [.val (.int .u8)], [.bool], [], fun m x => term_part m x.1⟩
noncomputable def i82 : FI := ⟨Go.Proofs.Try.f82, [.val .term, .val (.list (.int .i64)), .val .term], [.term, (.int .i64)], [(4, [(5, .box [.keep, .keep, .keep, .list .term]), (6, .box [.keep, .keep, .keep, .row .term false]), (8, .box [.keep, .keep, .keep, .list .term]), (9, .box []), (14, .list (.int .i64)), (15, .keep), (16, .keep)])], fun m x => term_Replace m x.1 x.2.1 x.2.2.1⟩
noncomputable def i83 : FI := ⟨Go.Proofs.Try.f83, [.val .term], [.bool], [], fun m x => exponent_symbol m x.1⟩
noncomputable def i84 : SI := ⟨Go.Proofs.Try.f84, [.row (.pair .term (.int .i64)), .val (.pair .term (.int .i64))], [.row (.pair .term (.int .i64))], [], fun m x => exponent_insert m x.1 x.2.1⟩
noncomputable def i87 : SI := ⟨Go.Proofs.Try.f87, [.val (.list (.pair .term (.int .i64)))], [.row (.pair .term (.int .i64))], [(3, [(3, .row (.pair .term (.int .i64)) false), (6, .list (.pair .term (.int .i64))), (7, .keep), (8, .keep)])], fun m x => exponent_copied m x.1⟩
noncomputable def i88 : FI := ⟨Go.Proofs.Try.f88, [.val (.list (.pair .term (.int .i64)))], [(.list (.pair .term (.int .i64))), (.int .i64)], [], fun m x => exponent_result m x.1⟩
noncomputable def i90 : FI := ⟨Go.Proofs.Try.f90, [.val (.list (.pair .term (.int .i64))), .val .term, .fn], [(.int .i64), .bool], [(3, [(0, .list (.pair .term (.int .i64))), (2, .keep), (4, .box [.keep, .keep, .keep, .list .term]), (8, .keep), (9, .keep), (10, .keep)])], fun m x => slices_BinarySearchFunc_api_Power_api_Power_api_Term_of_91 m x.1 x.2.1⟩
noncomputable def i91 : FI := ⟨Go.Proofs.Try.f91, [.val (.pair .term (.int .i64)), .val .term], [(.int .i64)], [], fun m x => exponent_insert_1 m x.1 x.2.1⟩
noncomputable def i94 : FI := ⟨Go.Proofs.Try.f94, [.val (.list (.pair .term (.int .i64))), .fn], [.bool], [], fun m x => slices_ContainsFunc_api_Power_api_Power_of_95 m x.1⟩
noncomputable def i95 : FI := ⟨Go.Proofs.Try.f95, [.val (.pair .term (.int .i64))], [.bool], [], fun m x => exponent_result_1 m x.1⟩
noncomputable def i98 : FI := ⟨Go.Proofs.Try.f98, [.val (.list (.pair .term (.int .i64))), .fn], [(.int .i64)], [(2, [(0, .list (.pair .term (.int .i64))), (1, .keep), (7, .keep), (8, .keep)])], fun m x => slices_IndexFunc_api_Power_api_Power_of_95 m x.1⟩
def elT (f : Nat) : Option Ty :=
cond (Nat.blt f 62)
 (cond (Nat.blt f 54)
 (cond (Nat.beq f 22) (some .term) (none))
 (cond (Nat.blt f 60)
 (cond (Nat.beq f 54) (some (.pair .str (.pair (.int .i64) (.pair (.int .i64) (.int .i64))))) (none))
 (cond (Nat.beq f 60) (some (.int .i64)) (none))))
 (cond (Nat.blt f 85)
 (cond (Nat.beq f 62) (some (.pair .term (.int .i64))) (none))
 (cond (Nat.blt f 89)
 (cond (Nat.beq f 85) (some (.list .term)) (none))
 (cond (Nat.beq f 89) (some .str) (none))))
noncomputable def tb : Tb := ⟨tyT, elT, .node 48 (.node 25 (.node 14 (.node 8 (.node 5 (.node 4 (.node 3 .leaf .leaf (.pure [([], i3)])) .leaf (.pure [([], i4)])) (.node 7 (.node 6 .leaf .leaf (.pure [([], i6)])) .leaf (.pure [([], i7)])) (.pure [([], i5)])) (.node 11 (.node 10 (.node 9 .leaf .leaf (.pure [([], i9)])) .leaf (.pure [([], i10)])) (.node 13 (.node 12 .leaf .leaf (.pure [([], i12)])) .leaf (.pure [([], i13)])) (.pure [([], i11)])) (.pure [([], i8)])) (.node 20 (.node 17 (.node 16 (.node 15 .leaf .leaf (.pure [([], i15)])) .leaf (.pure [([], i16)])) (.node 19 (.node 18 .leaf .leaf (.pure [([], i18)])) .leaf (.pure [([], i19)])) (.pure [([], i17)])) (.node 23 (.node 22 (.node 21 .leaf .leaf (.pure [([], i21)])) .leaf (.pure [([], i22)])) (.node 24 .leaf .leaf (.pure [([], i24)])) (.pure [([], i23)])) (.pure [([], i20)])) (.pure [([], i14)])) (.node 37 (.node 31 (.node 28 (.node 27 (.node 26 .leaf .leaf (.pure [([], i26)])) .leaf (.pure [([], i27)])) (.node 30 (.node 29 .leaf .leaf (.pure [([], i29)])) .leaf (.pure [([], i30)])) (.pure [([], i28)])) (.node 34 (.node 33 (.node 32 .leaf .leaf (.pure [([], i32)])) .leaf (.pure [([], i33)])) (.node 36 (.node 35 .leaf .leaf (.pure [([], i35)])) .leaf (.pure [([], i36)])) (.pure [([], i34)])) (.pure [([32], i31)])) (.node 43 (.node 40 (.node 39 (.node 38 .leaf .leaf (.pure [([], i38)])) .leaf (.pure [([], i39)])) (.node 42 (.node 41 .leaf .leaf (.pure [([], i41)])) .leaf (.pure [([], i42)])) (.pure [([], i40)])) (.node 46 (.node 45 (.node 44 .leaf .leaf (.hp ⟨[], [(.list (.pair .str (.pair (.int .i64) (.pair (.int .i64) (.int .i64)))))], fun x => theory_Symbols 0⟩)) .leaf (.pure [([], i45)])) (.node 47 .leaf .leaf (.pure [([], i47)])) (.st i46)) (.pure [([], i43)])) (.pure [([], i37)])) (.pure [([], i25)])) (.node 72 (.node 61 (.node 54 (.node 51 (.node 50 (.node 49 .leaf .leaf (.pure [([], i49)])) .leaf (.pure [([], i50)])) (.node 53 (.node 52 .leaf .leaf (.pure [([], i52)])) .leaf (.pure [([], i53)])) (.pure [([], i51)])) (.node 57 (.node 56 (.node 55 .leaf .leaf (.pure [([], i55)])) .leaf (.pure [([], i56)])) (.node 59 (.node 58 .leaf .leaf (.pure [([], i58)])) .leaf (.hp ⟨[.val .str, .val .str], [(.int .i64)], fun x => strings_Compare 0 x.1 x.2.1⟩)) (.pure [([], i57)])) (.pure [([], i54)])) (.node 67 (.node 64 (.node 63 (.node 62 .leaf .leaf (.pure [([], i62)])) .leaf (.pure [([], i63)])) (.node 66 (.node 65 .leaf .leaf (.pure [([], i65)])) .leaf (.pure [([], i66)])) (.pure [([], i64)])) (.node 70 (.node 69 (.node 68 .leaf .leaf (.pure [([], i68)])) .leaf (.pure [([], i69)])) (.node 71 .leaf .leaf (.st i71)) (.pure [([], i70)])) (.pure [([], i67)])) (.pure [([], i61)])) (.node 85 (.node 79 (.node 75 (.node 74 (.node 73 .leaf .leaf (.pure [([], i73)])) .leaf (.pure [([], i74)])) (.node 78 (.node 76 .leaf .leaf (.pure [([], i76)])) .leaf (.pure [([], i78)])) (.pure [([], i75)])) (.node 82 (.node 81 (.node 80 .leaf .leaf (.pure [([], i80)])) .leaf (.pure [([], i81)])) (.node 84 (.node 83 .leaf .leaf (.pure [([], i83)])) .leaf (.st i84)) (.pure [([], i82)])) (.pure [([], i79)])) (.node 92 (.node 88 (.node 87 (.node 86 .leaf .leaf (.hs ⟨[.nil, .val (.int .i64)], [.row .term], fun x => slices_Grow_api_Term_api_Term 0 x.1⟩)) .leaf (.st i87)) (.node 91 (.node 90 .leaf .leaf (.pure [([91], i90)])) .leaf (.pure [([], i91)])) (.pure [([], i88)])) (.node 95 (.node 94 (.node 93 .leaf .leaf (.hs ⟨[.row (.pair .term (.int .i64)), .val (.int .i64), .val (.int .i64)], [.row (.pair .term (.int .i64))], fun x => slices_Delete_api_Power_api_Power 0 x.1 x.2.1 x.2.2.1⟩)) .leaf (.pure [([95], i94)])) (.node 98 .leaf .leaf (.pure [([95], i98)])) (.pure [([], i95)])) (.hs ⟨[.row (.pair .term (.int .i64)), .val (.int .i64), .val (.list (.pair .term (.int .i64)))], [.row (.pair .term (.int .i64))], fun x => slices_Insert_api_Power_api_Power 0 x.1 x.2.1 x.2.2.1⟩)) (.hs ⟨[.val (.list .term)], [.row .term], fun x => slices_Clone_api_Term_api_Term 0 x.1⟩)) (.pure [([], i72)])) (.pure [([], i48)])⟩
end Go.AmYtmodnblfcikjlaa
namespace Go.AmYtmodnblfcikjlaa
open Go Go.GxYtmodnblfcikjlaa
set_option linter.unusedVariables false
set_option maxRecDepth 100000
theorem ref01_number_ok (m : Nat) (a0 : Int) (a1 : Int) : ref01_number (m + 1) a0 a1 = tb.runP1 m i40 [] (a0, a1, ()) := by kernel_rfl
noncomputable def ref01_Size_M1 (m k : Nat) (x0 : Int) (x1 : Int) (x2 : Int) (x3 : List UInt8) (x4 : Int) (x5 : List (T)) := tb.PL i41 3 m k [(1, .ptr 0 0), (3, .i .i64 x0), (4, .i .i64 x1)] ⟨[[.i .i64 x2, .s x3, .i .i64 x4, .sl .term x5 1]], []⟩
theorem ref01_Size_lab (m k : Nat) : ref01_Size_L m (ref01_Size m) k = ref01_Size_M1 m k := lab1 (M := fun k => ref01_Size_M1 m k) rfl (fun _ => by kernel_rfl) k
theorem ref01_Size_ok (m : Nat) (a0 : T) : ref01_Size (m + 1) a0 = tb.runP1 m i41 [] (a0, ()) := (congrArg (a₁ := ref01_Size_L m (ref01_Size m) m) (fun L => ref01_Size_s0 m (ref01_Size m) L a0) (ref01_Size_lab m m)).trans (by kernel_rfl)
noncomputable def ref01_Compare_M1 (m k : Nat) (x0 : Int) (x1 : Int) (x2 : List UInt8) (x3 : Int) (x4 : List (T)) (x5 : Int) (x6 : List UInt8) (x7 : Int) (x8 : List (T)) := tb.PL i25 18 m k [(2, .ptr 0 0), (3, .ptr 1 0), (9, .i .i64 x0)] ⟨[[.i .i64 x1, .s x2, .i .i64 x3, .sl .term x4 1], [.i .i64 x5, .s x6, .i .i64 x7, .sl .term x8 1]], []⟩
theorem ref01_Compare_lab (m k : Nat) : ref01_Compare_L m (ref01_Compare m) k = ref01_Compare_M1 m k := lab1 (M := fun k => ref01_Compare_M1 m k) rfl (fun _ => by kernel_rfl) k
theorem ref01_Compare_ok (m : Nat) (a0 : T) (a1 : T) : ref01_Compare (m + 1) a0 a1 = tb.runP1 m i25 [] (a0, a1, ()) := (congrArg (a₁ := ref01_Compare_L m (ref01_Compare m) m) (fun L => ref01_Compare_s0 m (ref01_Compare m) L a0 a1) (ref01_Compare_lab m m)).trans (by kernel_rfl)
theorem ref01_Same_ok (m : Nat) (a0 : T) (a1 : T) : ref01_Same (m + 1) a0 a1 = tb.runP1 m i9 [] (a0, a1, ()) := by kernel_rfl
noncomputable def ref01_Depth_M1 (m k : Nat) (x0 : Int) (x1 : Int) (x2 : Int) (x3 : List UInt8) (x4 : Int) (x5 : List (T)) := tb.PL i20 3 m k [(1, .ptr 0 0), (3, .i .i64 x0), (4, .i .i64 x1)] ⟨[[.i .i64 x2, .s x3, .i .i64 x4, .sl .term x5 1]], []⟩
theorem ref01_Depth_lab (m k : Nat) : ref01_Depth_L m (ref01_Depth m) k = ref01_Depth_M1 m k := lab1 (M := fun k => ref01_Depth_M1 m k) rfl (fun _ => by kernel_rfl) k
theorem ref01_Depth_ok (m : Nat) (a0 : T) : ref01_Depth (m + 1) a0 = tb.runP1 m i20 [] (a0, ()) := (congrArg (a₁ := ref01_Depth_L m (ref01_Depth m) m) (fun L => ref01_Depth_s0 m (ref01_Depth m) L a0) (ref01_Depth_lab m m)).trans (by kernel_rfl)
theorem ref01_letter_ok (m : Nat) (a0 : Int) : ref01_letter (m + 1) a0 = tb.runP1 m i78 [] (a0, ()) := by kernel_rfl
theorem ref01_digit_ok (m : Nat) (a0 : Int) : ref01_digit (m + 1) a0 = tb.runP1 m i79 [] (a0, ()) := by kernel_rfl
noncomputable def ref01_IsName_M1 (m k : Nat) (x0 : List UInt8) (x1 : Int) := tb.PL i62 4 m k [(0, .s x0), (3, .i .i64 x1)] ⟨[], []⟩
theorem ref01_IsName_lab (m k : Nat) : ref01_IsName_L m k = ref01_IsName_M1 m k := lab1 (M := fun k => ref01_IsName_M1 m k) rfl (fun _ => by kernel_rfl) k
theorem ref01_IsName_ok (m : Nat) (a0 : Y8) : ref01_IsName (m + 1) a0 = tb.runP1 m i62 [] (a0, ()) := (congrArg (a₁ := ref01_IsName_L m m) (fun L => ref01_IsName_s0 m L a0) (ref01_IsName_lab m m)).trans (by kernel_rfl)
theorem ref01_node_ok (m : Nat) (a0 : T) : ref01_node (m + 1) a0 = tb.runP1 m i65 [] (a0, ()) := by kernel_rfl
noncomputable def ref01_nodes_M1 (m k : Nat) (x0 : Int) (x1 : Int) (x2 : List UInt8) (x3 : Int) (x4 : List (T)) := tb.PL i48 5 m k [(1, .ptr 0 0), (4, .i .i64 x0)] ⟨[[.i .i64 x1, .s x2, .i .i64 x3, .sl .term x4 1]], []⟩
theorem ref01_nodes_lab (m k : Nat) : ref01_nodes_L m (ref01_nodes m) k = ref01_nodes_M1 m k := lab1 (M := fun k => ref01_nodes_M1 m k) rfl (fun _ => by kernel_rfl) k
theorem ref01_nodes_ok (m : Nat) (a0 : T) : ref01_nodes (m + 1) a0 = tb.runP1 m i48 [] (a0, ()) := (congrArg (a₁ := ref01_nodes_L m (ref01_nodes m) m) (fun L => ref01_nodes_s0 m (ref01_nodes m) L a0) (ref01_nodes_lab m m)).trans (by kernel_rfl)
theorem ref01_Valid_ok (m : Nat) (a0 : T) : ref01_Valid (m + 1) a0 = tb.runP1 m i38 [] (a0, ()) := by kernel_rfl
noncomputable def ref01_name_M1 (m k : Nat) (x0 : List UInt8) (x1 : Int) := tb.PL i61 2 m k [(0, .s x0), (3, .i .i64 x1)] ⟨[], []⟩
theorem ref01_name_lab (m k : Nat) : ref01_name_L m k = ref01_name_M1 m k := lab1 (M := fun k => ref01_name_M1 m k) rfl (fun _ => by kernel_rfl) k
theorem ref01_name_ok (m : Nat) (a0 : Y8) : ref01_name (m + 1) a0 = tb.runP1 m i61 [] (a0, ()) := (congrArg (a₁ := ref01_name_L m m) (fun L => ref01_name_s0 m L a0) (ref01_name_lab m m)).trans (by kernel_rfl)
theorem ref01_word_ok (m : Nat) (a0 : Int) : ref01_word (m + 1) a0 = tb.runP1 m i80 [] (a0, ()) := by kernel_rfl
noncomputable def ref01_leaf_M1 (m k : Nat) (x0 : List UInt8) (x1 : List UInt8) (x2 : Int) (x3 : Int) (x4 : List UInt8) (x5 : Int) (x6 : List (T)) (x7 : Int) (x8 : List UInt8) (x9 : Int) (x10 : List (T)) := tb.PL i63 5 m k [(1, .s x0), (2, .ptr 0 0), (4, .ptr 1 0), (7, .s x1), (8, .i .i64 x2)] ⟨[[.i .i64 x3, .s x4, .i .i64 x5, .sl .term x6 1], [.i .i64 x7, .s x8, .i .i64 x9, .row 0 0]], [⟨.term, x10, 0, 0, false⟩]⟩
theorem ref01_leaf_lab (m k : Nat) : ref01_leaf_L m k = ref01_leaf_M1 m k := lab1 (M := fun k => ref01_leaf_M1 m k) rfl (fun _ => by kernel_rfl) k
theorem ref01_leaf_ok (m : Nat) (a0 : T) (a1 : Y8) : ref01_leaf (m + 1) a0 a1 = tb.runP1 m i63 [] (a0, a1, ()) := (congrArg (a₁ := ref01_leaf_L m m) (fun L => ref01_leaf_s0 m L a0 a1) (ref01_leaf_lab m m)).trans (by kernel_rfl)
noncomputable def ref01_read_M1 (m k : Nat) (x0 : List UInt8) (x1 : Int) (x2 : Int) (x3 : List UInt8) (x4 : Int) (x5 : Int) (x6 : List UInt8) (x7 : Int) (x8 : List (T)) (x9 : List (T)) := tb.PL i45 13 m k [(0, .s x0), (1, .i .i64 x1), (4, .ptr 0 0), (7, .ptr 1 0)] ⟨[[.i .i64 x2, .s x3, .i .i64 x4, .row 0 0], [.i .i64 x5, .s x6, .i .i64 x7, .row 1 0]], [⟨.term, x8, 0, 0, false⟩, ⟨.term, x9, 0, 0, false⟩]⟩
theorem ref01_read_lab (m k : Nat) : ref01_read_L m (ref01_read m) k = ref01_read_M1 m k := lab1 (M := fun k => ref01_read_M1 m k) rfl (fun _ => by kernel_rfl) k
theorem ref01_read_ok (m : Nat) (a0 : Y8) (a1 : Int) : ref01_read (m + 1) a0 a1 = tb.runP1 m i45 [] (a0, a1, ()) := (congrArg (a₁ := ref01_read_L m (ref01_read m) m) (fun L => ref01_read_s0 m (ref01_read m) L a0 a1) (ref01_read_lab m m)).trans (by kernel_rfl)
theorem ref01_Parse_ok (m : Nat) (a0 : Y8) : ref01_Parse (m + 1) a0 = tb.runP1 m i34 [] (a0, ()) := by kernel_rfl
theorem law09_parse_ok (m : Nat) (a0 : Y8) : law09_parse (m + 1) a0 = tb.runP1 m i19 [] (a0, ()) := by kernel_rfl
theorem term_part_ok (m : Nat) (a0 : Int) : term_part (m + 1) a0 = tb.runP1 m i81 [] (a0, ()) := by kernel_rfl
noncomputable def term_isName_M1 (m k : Nat) (x0 : List UInt8) (x1 : Int) (x2 : Int) := tb.PL i64 4 m k [(0, .s x0), (38, .i .i64 x1), (39, .i .i64 x2)] ⟨[], []⟩
theorem term_isName_lab (m k : Nat) : term_isName_L m k = term_isName_M1 m k := lab1 (M := fun k => term_isName_M1 m k) rfl (fun _ => by kernel_rfl) k
theorem term_isName_ok (m : Nat) (a0 : Y8) : term_isName (m + 1) a0 = tb.runP1 m i64 [] (a0, ()) := (congrArg (a₁ := term_isName_L m m) (fun L => term_isName_s0 m L a0) (term_isName_lab m m)).trans (by kernel_rfl)
noncomputable def term_check_M1 (m k : Nat) (x0 : Int) (x1 : List (T)) (x2 : Int) (x3 : Int) (x4 : Int) (x5 : Int) := tb.QL i46 17 m k [(1, .i .i64 x0), (2, .ptr 0 0), (3, .ptr 1 0), (57, .sl .term x1 1), (58, .i .i64 x2), (59, .i .i64 x3)] ⟨[[.i .i64 x4], [.i .i64 x5]], []⟩
theorem term_check_lab (m k : Nat) : term_check_L m (term_check m) k = term_check_M1 m k := lab1 (M := fun k => term_check_M1 m k) rfl (fun _ => by kernel_rfl) k
theorem term_check_ok (m : Nat) (a0 : T) (a1 : Int) (a2 : Int) (a3 : Int) : term_check (m + 1) a0 a1 a2 a3 = tb.runS1 m i46 (a0, a1, a2, a3, ()) := (congrArg (a₁ := term_check_L m (term_check m) m) (fun L => term_check_s0 m (term_check m) L a0 a1 a2 a3) (term_check_lab m m)).trans (by kernel_rfl)
theorem term_Valid_ok (m : Nat) (a0 : T) : term_Valid (m + 1) a0 = tb.runP1 m i35 [] (a0, ()) := by kernel_rfl
noncomputable def theory_symbol_M1 (m k : Nat) (x0 : List UInt8) (x1 : List (Y8 × (Int × (Int × Int)))) (x2 : Int) (x3 : Int) (x4 : List UInt8) (x5 : Int) (x6 : Int) (x7 : Int) := tb.PL i33 2 m k [(0, .s x0), (2, .ptr 0 0), (5, .sl (.pair .str (.pair (.int .i64) (.pair (.int .i64) (.int .i64)))) x1 1), (6, .i .i64 x2), (7, .i .i64 x3)] ⟨[[.s x4, .i .i64 x5, .i .i64 x6, .i .i64 x7]], []⟩
theorem theory_symbol_lab (m k : Nat) : theory_symbol_L m k = theory_symbol_M1 m k := lab1 (M := fun k => theory_symbol_M1 m k) rfl (fun _ => by kernel_rfl) k
theorem theory_symbol_ok (m : Nat) (a0 : Y8) : theory_symbol (m + 1) a0 = tb.runP1 m i33 [] (a0, ()) := (congrArg (a₁ := theory_symbol_L m m) (fun L => theory_symbol_s0 m L a0) (theory_symbol_lab m m)).trans (by kernel_rfl)
noncomputable def theory_check_M1 (m k : Nat) (x0 : List (T)) (x1 : Int) (x2 : Int) (x3 : Int) (x4 : List UInt8) (x5 : Int) (x6 : List (T)) := tb.PL i36 13 m k [(1, .ptr 0 0), (38, .sl .term x0 1), (39, .i .i64 x1), (40, .i .i64 x2)] ⟨[[.i .i64 x3, .s x4, .i .i64 x5, .sl .term x6 1]], []⟩
noncomputable def theory_check_M2 (m k : Nat) (x0 : List (T)) (x1 : Int) (x2 : Int) := tb.PL i36 22 m k [(62, .sl .term x0 1), (63, .i .i64 x1), (64, .i .i64 x2)] ⟨[], []⟩
theorem theory_check_lab (m k : Nat) : theory_check_L m (theory_check m) k = (theory_check_M1 m k, theory_check_M2 m k) := lab1 (M := fun k => (theory_check_M1 m k, theory_check_M2 m k)) rfl (fun _ => by kernel_rfl) k
theorem theory_check_ok (m : Nat) (a0 : T) : theory_check (m + 1) a0 = tb.runP1 m i36 [] (a0, ()) := (congrArg (a₁ := theory_check_L m (theory_check m) m) (fun L => theory_check_s0 m (theory_check m) L.1 L.2 a0) (theory_check_lab m m)).trans (by kernel_rfl)
theorem theory_Valid_ok (m : Nat) (a0 : T) : theory_Valid (m + 1) a0 = tb.runP1 m i21 [] (a0, ()) := by kernel_rfl
theorem theory_is_ok (m : Nat) (a0 : T) (a1 : Y8) : theory_is (m + 1) a0 a1 = tb.runP1 m i22 [] (a0, a1, ()) := by kernel_rfl
theorem term_sign_ok (m : Nat) (a0 : Int) (a1 : Int) : term_sign (m + 1) a0 a1 = tb.runP1 m i57 [] (a0, a1, ()) := by kernel_rfl
noncomputable def term_Size_M1 (m k : Nat) (x0 : Int) (x1 : List (T)) (x2 : Int) (x3 : Int) := tb.PL i58 3 m k [(3, .i .i64 x0), (7, .sl .term x1 1), (8, .i .i64 x2), (9, .i .i64 x3)] ⟨[], []⟩
theorem term_Size_lab (m k : Nat) : term_Size_L m (term_Size m) k = term_Size_M1 m k := lab1 (M := fun k => term_Size_M1 m k) rfl (fun _ => by kernel_rfl) k
theorem term_Size_ok (m : Nat) (a0 : T) : term_Size (m + 1) a0 = tb.runP1 m i58 [] (a0, ()) := (congrArg (a₁ := term_Size_L m (term_Size m) m) (fun L => term_Size_s0 m (term_Size m) L a0) (term_Size_lab m m)).trans (by kernel_rfl)
noncomputable def term_Compare_M1 (m k : Nat) (x0 : Int) (x1 : Int) (x2 : Int) (x3 : List UInt8) (x4 : Int) (x5 : List (T)) (x6 : Int) (x7 : List UInt8) (x8 : Int) (x9 : List (T)) := tb.PL i43 11 m k [(2, .ptr 0 0), (3, .ptr 1 0), (5, .i .i64 x0), (6, .i .i64 x1)] ⟨[[.i .i64 x2, .s x3, .i .i64 x4, .sl .term x5 1], [.i .i64 x6, .s x7, .i .i64 x8, .sl .term x9 1]], []⟩
theorem term_Compare_lab (m k : Nat) : term_Compare_L m (term_Compare m) k = term_Compare_M1 m k := lab1 (M := fun k => term_Compare_M1 m k) rfl (fun _ => by kernel_rfl) k
theorem term_Compare_ok (m : Nat) (a0 : T) (a1 : T) : term_Compare (m + 1) a0 a1 = tb.runP1 m i43 [] (a0, a1, ()) := (congrArg (a₁ := term_Compare_L m (term_Compare m) m) (fun L => term_Compare_s0 m (term_Compare m) L a0 a1) (term_Compare_lab m m)).trans (by kernel_rfl)
theorem theory_same_ok (m : Nat) (a0 : T) (a1 : T) : theory_same (m + 1) a0 a1 = tb.runP1 m i30 [] (a0, a1, ()) := by kernel_rfl
theorem theory_destroy_ok (m : Nat) (a0 : T) : theory_destroy (m + 1) a0 = tb.runP1 m i52 [] (a0, ()) := by kernel_rfl
noncomputable def slices_Concat_api_Term_api_Term_M1 (m k : Nat) (x0 : List (TL)) (x1 : Int) (x2 : List (TL)) (x3 : Int) (x4 : Int) := tb.PL i75 3 m k [(0, .sl (.list .term) x0 1), (3, .i .i64 x1), (9, .sl (.list .term) x2 1), (10, .i .i64 x3), (11, .i .i64 x4)] ⟨[], []⟩
noncomputable def slices_Concat_api_Term_api_Term_M2 (m k : Nat) (x0 : List (TL)) (x1 : Int) (x2 : Int) (x3 : List (T)) := tb.PL i75 11 m k [(6, .row 0 0), (25, .sl (.list .term) x0 1), (26, .i .i64 x1), (27, .i .i64 x2)] ⟨[], [⟨.term, x3, 0, 0, false⟩]⟩
theorem slices_Concat_api_Term_api_Term_lab (m k : Nat) : slices_Concat_api_Term_api_Term_L m k = (slices_Concat_api_Term_api_Term_M1 m k, slices_Concat_api_Term_api_Term_M2 m k) := lab1 (M := fun k => (slices_Concat_api_Term_api_Term_M1 m k, slices_Concat_api_Term_api_Term_M2 m k)) rfl (fun _ => by kernel_rfl) k
theorem slices_Concat_api_Term_api_Term_ok (m : Nat) (a0 : List TL) : slices_Concat_api_Term_api_Term (m + 1) a0 = tb.runP1 m i75 [] (a0, ()) := (congrArg (a₁ := slices_Concat_api_Term_api_Term_L m m) (fun L => slices_Concat_api_Term_api_Term_s0 m L.1 L.2 a0) (slices_Concat_api_Term_api_Term_lab m m)).trans (by kernel_rfl)
noncomputable def xor_right_M1 (m k : Nat) (x0 : List (T)) (x1 : Int) (x2 : Int) := tb.PL i67 4 m k [(14, .sl .term x0 1), (15, .i .i64 x1), (16, .i .i64 x2)] ⟨[], []⟩
theorem xor_right_lab (m k : Nat) : xor_right_L m k = xor_right_M1 m k := lab1 (M := fun k => xor_right_M1 m k) rfl (fun _ => by kernel_rfl) k
theorem xor_right_ok (m : Nat) (a0 : TL) (a1 : TL) : xor_right (m + 1) a0 a1 = tb.runP1 m i67 [] (a0, a1, ()) := (congrArg (a₁ := xor_right_L m m) (fun L => xor_right_s0 m L a0 a1) (xor_right_lab m m)).trans (by kernel_rfl)
noncomputable def xor_plus_M1 (m k : Nat) (x0 : List (T)) (x1 : List (T)) (x2 : List (T)) := tb.PL i68 2 m k [(0, .sl .term x0 1), (1, .sl .term x1 1), (5, .row 0 0)] ⟨[], [⟨.term, x2, 0, 0, false⟩]⟩
theorem xor_plus_lab (m k : Nat) : xor_plus_L m k = xor_plus_M1 m k := lab1 (M := fun k => xor_plus_M1 m k) rfl (fun _ => by kernel_rfl) k
theorem xor_plus_ok (m : Nat) (a0 : TL) (a1 : TL) : xor_plus (m + 1) a0 a1 = tb.runP1 m i68 [] (a0, a1, ()) := (congrArg (a₁ := xor_plus_L m m) (fun L => xor_plus_s0 m L a0 a1) (xor_plus_lab m m)).trans (by kernel_rfl)
noncomputable def xor_summands_M1 (m k : Nat) (x0 : List (T)) (x1 : List (T)) (x2 : Int) (x3 : Int) := tb.PL i69 6 m k [(3, .sl .term x0 1), (31, .sl .term x1 1), (32, .i .i64 x2), (33, .i .i64 x3)] ⟨[], []⟩
theorem xor_summands_lab (m k : Nat) : xor_summands_L m (xor_summands m) k = xor_summands_M1 m k := lab1 (M := fun k => xor_summands_M1 m k) rfl (fun _ => by kernel_rfl) k
theorem xor_summands_ok (m : Nat) (a0 : T) : xor_summands (m + 1) a0 = tb.runP1 m i69 [] (a0, ()) := (congrArg (a₁ := xor_summands_L m (xor_summands m) m) (fun L => xor_summands_s0 m (xor_summands m) L a0) (xor_summands_lab m m)).trans (by kernel_rfl)
noncomputable def term_clone_M1 (m k : Nat) (x0 : List (T)) (x1 : Int) (x2 : Int) (x3 : Int) (x4 : List UInt8) (x5 : Int) (x6 : Int) (x7 : List UInt8) (x8 : Int) (x9 : List (T)) (x10 : List (T)) := tb.PL i47 4 m k [(1, .ptr 0 0), (2, .ptr 1 0), (9, .sl .term x0 1), (10, .i .i64 x1), (11, .i .i64 x2)] ⟨[[.i .i64 x3, .s x4, .i .i64 x5, .row 0 0], [.i .i64 x6, .s x7, .i .i64 x8, .row 1 0]], [⟨.term, x9, 0, 0, false⟩, ⟨.term, x10, 0, 0, false⟩]⟩
theorem term_clone_lab (m k : Nat) : term_clone_L m (term_clone m) k = term_clone_M1 m k := lab1 (M := fun k => term_clone_M1 m k) rfl (fun _ => by kernel_rfl) k
theorem term_clone_ok (m : Nat) (a0 : T) : term_clone (m + 1) a0 = tb.runP1 m i47 [] (a0, ()) := (congrArg (a₁ := term_clone_L m (term_clone m) m) (fun L => term_clone_s0 m (term_clone m) L a0) (term_clone_lab m m)).trans (by kernel_rfl)
noncomputable def term_Replace_M1 (m k : Nat) (x0 : List (Int)) (x1 : Int) (x2 : Int) (x3 : Int) (x4 : List UInt8) (x5 : Int) (x6 : List (T)) (x7 : Int) (x8 : List UInt8) (x9 : Int) (x10 : Int) (x11 : List UInt8) (x12 : Int) (x13 : List (T)) (x14 : List (T)) := tb.PL i82 4 m k [(5, .ptr 0 0), (6, .ptr 1 0), (8, .ptr 2 0), (9, .ptr 2 0), (14, .sl (.int .i64) x0 1), (15, .i .i64 x1), (16, .i .i64 x2)] ⟨[[.i .i64 x3, .s x4, .i .i64 x5, .sl .term x6 1], [.i .i64 x7, .s x8, .i .i64 x9, .row 0 0], [.i .i64 x10, .s x11, .i .i64 x12, .sl .term x13 1]], [⟨.term, x14, 0, 0, false⟩]⟩
theorem term_Replace_lab (m k : Nat) : term_Replace_L m k = term_Replace_M1 m k := lab1 (M := fun k => term_Replace_M1 m k) rfl (fun _ => by kernel_rfl) k
theorem term_Replace_ok (m : Nat) (a0 : T) (a1 : List Int) (a2 : T) : term_Replace (m + 1) a0 a1 a2 = tb.runP1 m i82 [] (a0, a1, a2, ()) := (congrArg (a₁ := term_Replace_L m m) (fun L => term_Replace_s0 m L a0 a1 a2) (term_Replace_lab m m)).trans (by kernel_rfl)
noncomputable def xor_own_M1 (m k : Nat) (x0 : List (T)) (x1 : Int) (x2 : Int) (x3 : List (T)) := tb.PL i70 3 m k [(3, .row 0 0), (9, .sl .term x0 1), (10, .i .i64 x1), (11, .i .i64 x2)] ⟨[], [⟨.term, x3, 0, 0, false⟩]⟩
theorem xor_own_lab (m k : Nat) : xor_own_L m (xor_own m) k = xor_own_M1 m k := lab1 (M := fun k => xor_own_M1 m k) rfl (fun _ => by kernel_rfl) k
theorem xor_own_ok (m : Nat) (a0 : TL) : xor_own (m + 1) a0 = tb.runP1 m i70 [] (a0, ()) := (congrArg (a₁ := xor_own_L m (xor_own m) m) (fun L => xor_own_s0 m (xor_own m) L a0) (xor_own_lab m m)).trans (by kernel_rfl)
noncomputable def xor_Sum_M1 (m k : Nat) (x0 : List (T)) (x1 : List (T)) (x2 : Int) (x3 : Int) (x4 : Int) (x5 : List UInt8) (x6 : Int) (x7 : List (T)) := tb.PL i53 6 m k [(2, .ptr 0 0), (5, .sl .term x0 1), (15, .sl .term x1 1), (16, .i .i64 x2), (17, .i .i64 x3)] ⟨[[.i .i64 x4, .s x5, .i .i64 x6, .row 0 0]], [⟨.term, x7, 0, 0, true⟩]⟩
theorem xor_Sum_lab (m k : Nat) : xor_Sum_L m k = xor_Sum_M1 m k := lab1 (M := fun k => xor_Sum_M1 m k) rfl (fun _ => by kernel_rfl) k
theorem xor_Sum_ok (m : Nat) (a0 : TL) : xor_Sum (m + 1) a0 = tb.runP1 m i53 [] (a0, ()) := (congrArg (a₁ := xor_Sum_L m m) (fun L => xor_Sum_s0 m L a0) (xor_Sum_lab m m)).trans (by kernel_rfl)
theorem exponent_symbol_ok (m : Nat) (a0 : T) : exponent_symbol (m + 1) a0 = tb.runP1 m i83 [] (a0, ()) := by kernel_rfl
noncomputable def exponent_clone_M1 (m k : Nat) (x0 : Int) (x1 : Int) (x2 : Int) (x3 : List UInt8) (x4 : Int) (x5 : Int) (x6 : List UInt8) (x7 : Int) (x8 : List (T)) (x9 : List (T)) := tb.PL i73 3 m k [(1, .ptr 0 0), (2, .ptr 1 0), (10, .row 0 0), (11, .i .i64 x0), (12, .i .i64 x1)] ⟨[[.i .i64 x2, .s x3, .i .i64 x4, .row 0 0], [.i .i64 x5, .s x6, .i .i64 x7, .row 1 0]], [⟨.term, x8, 0, 0, false⟩, ⟨.term, x9, 0, 0, false⟩]⟩
theorem exponent_clone_lab (m k : Nat) : exponent_clone_L m (exponent_clone m) k = exponent_clone_M1 m k := lab1 (M := fun k => exponent_clone_M1 m k) rfl (fun _ => by kernel_rfl) k
theorem exponent_clone_ok (m : Nat) (a0 : T) : exponent_clone (m + 1) a0 = tb.runP1 m i73 [] (a0, ()) := (congrArg (a₁ := exponent_clone_L m (exponent_clone m) m) (fun L => exponent_clone_s0 m (exponent_clone m) L a0) (exponent_clone_lab m m)).trans (by kernel_rfl)
theorem exponent_insert_1_ok (m : Nat) (a0 : T × Int) (a1 : T) : exponent_insert_1 (m + 1) a0 a1 = tb.runP1 m i91 [] (a0, a1, ()) := by kernel_rfl
noncomputable def slices_BinarySearchFunc_api_Power_api_Power_api_Term_of_91_M1 (m k : Nat) (x0 : List (T × Int)) (x1 : Int) (x2 : Int) (x3 : Int) (x4 : Int) (x5 : List UInt8) (x6 : Int) (x7 : List (T)) := tb.PL i90 3 m k [(0, .sl (.pair .term (.int .i64)) x0 1), (2, .fn 91 []), (4, .ptr 0 0), (8, .i .i64 x1), (9, .i .i64 x2), (10, .i .i64 x3)] ⟨[[.i .i64 x4, .s x5, .i .i64 x6, .sl .term x7 1]], []⟩
theorem slices_BinarySearchFunc_api_Power_api_Power_api_Term_of_91_lab (m k : Nat) : slices_BinarySearchFunc_api_Power_api_Power_api_Term_of_91_L m k = slices_BinarySearchFunc_api_Power_api_Power_api_Term_of_91_M1 m k := lab1 (M := fun k => slices_BinarySearchFunc_api_Power_api_Power_api_Term_of_91_M1 m k) rfl (fun _ => by kernel_rfl) k
theorem slices_BinarySearchFunc_api_Power_api_Power_api_Term_of_91_ok (m : Nat) (a0 : List (T × Int)) (a1 : T) : slices_BinarySearchFunc_api_Power_api_Power_api_Term_of_91 (m + 1) a0 a1 = tb.runP1 m i90 [91] (a0, a1, ()) := (congrArg (a₁ := slices_BinarySearchFunc_api_Power_api_Power_api_Term_of_91_L m m) (fun L => slices_BinarySearchFunc_api_Power_api_Power_api_Term_of_91_s0 m L a0 a1) (slices_BinarySearchFunc_api_Power_api_Power_api_Term_of_91_lab m m)).trans (by kernel_rfl)
theorem exponent_insert_ok (m : Nat) (a0 : List (T × Int)) (a1 : T × Int) : exponent_insert (m + 1) a0 a1 = tb.runS1 m i84 (a0, a1, ()) := by kernel_rfl
noncomputable def exponent_collect_M1 (m k : Nat) (x0 : Int) (x1 : List (T)) (x2 : Int) (x3 : Int) (x4 : List (T × Int)) := tb.QL i71 12 m k [(0, .row 0 0), (2, .i .i64 x0), (52, .sl .term x1 1), (53, .i .i64 x2), (54, .i .i64 x3)] ⟨[], [⟨(.pair .term (.int .i64)), x4, 0, 0, false⟩]⟩
theorem exponent_collect_lab (m k : Nat) : exponent_collect_L m (exponent_collect m) k = exponent_collect_M1 m k := lab1 (M := fun k => exponent_collect_M1 m k) rfl (fun _ => by kernel_rfl) k
theorem exponent_collect_ok (m : Nat) (a0 : List (T × Int)) (a1 : T) (a2 : Int) : exponent_collect (m + 1) a0 a1 a2 = tb.runS1 m i71 (a0, a1, a2, ()) := (congrArg (a₁ := exponent_collect_L m (exponent_collect m) m) (fun L => exponent_collect_s0 m (exponent_collect m) L a0 a1 a2) (exponent_collect_lab m m)).trans (by kernel_rfl)
theorem exponent_Of_ok (m : Nat) (a0 : T) : exponent_Of (m + 1) a0 = tb.runP1 m i54 [] (a0, ()) := by kernel_rfl
noncomputable def exponent_valid_M1 (m k : Nat) (x0 : List (T × Int)) (x1 : List (T × Int)) (x2 : Int) (x3 : Int) := tb.PL i72 4 m k [(0, .sl (.pair .term (.int .i64)) x0 1), (9, .sl (.pair .term (.int .i64)) x1 1), (10, .i .i64 x2), (11, .i .i64 x3)] ⟨[], []⟩
theorem exponent_valid_lab (m k : Nat) : exponent_valid_L m k = exponent_valid_M1 m k := lab1 (M := fun k => exponent_valid_M1 m k) rfl (fun _ => by kernel_rfl) k
theorem exponent_valid_ok (m : Nat) (a0 : List (T × Int)) : exponent_valid (m + 1) a0 = tb.runP1 m i72 [] (a0, ()) := (congrArg (a₁ := exponent_valid_L m m) (fun L => exponent_valid_s0 m L a0) (exponent_valid_lab m m)).trans (by kernel_rfl)
theorem exponent_app_ok (m : Nat) (a0 : Y8) (a1 : TL) : exponent_app (m + 1) a0 a1 = tb.runP1 m i74 [] (a0, a1, ()) := by kernel_rfl
noncomputable def exponent_Term_M1 (m k : Nat) (x0 : List (T × Int)) (x1 : Int) (x2 : Int) (x3 : Int) (x4 : List UInt8) (x5 : Int) (x6 : List (T)) (x7 : List (T)) (x8 : List (T)) := tb.PL i55 6 m k [(2, .ptr 0 0), (5, .row 1 0), (6, .row 2 0), (18, .sl (.pair .term (.int .i64)) x0 1), (19, .i .i64 x1), (20, .i .i64 x2)] ⟨[[.i .i64 x3, .s x4, .i .i64 x5, .row 0 0]], [⟨.term, x6, 0, 0, false⟩, ⟨.term, x7, 0, 0, false⟩, ⟨.term, x8, 0, 0, false⟩]⟩
noncomputable def exponent_Term_M2 (m k : Nat) (x0 : List (T × Int)) (x1 : Int) (x2 : Int) (x3 : Int) (x4 : Int) (x5 : Int) (x6 : List UInt8) (x7 : Int) (x8 : Int) (x9 : List UInt8) (x10 : Int) (x11 : List (T)) (x12 : Int) (x13 : List (T)) (x14 : List (T)) (x15 : List (T)) := tb.PL i55 11 m k [(2, .ptr 0 0), (5, .row 1 0), (6, .row 2 0), (8, .ptr 1 0), (18, .sl (.pair .term (.int .i64)) x0 1), (19, .i .i64 x1), (20, .i .i64 x2), (34, .i .i64 x3), (35, .i .i64 x4)] ⟨[[.i .i64 x5, .s x6, .i .i64 x7, .row 0 0], [.i .i64 x8, .s x9, .i .i64 x10, .sl .term x11 1, .i .i64 x12]], [⟨.term, x13, 0, 0, false⟩, ⟨.term, x14, 0, 0, false⟩, ⟨.term, x15, 0, 0, false⟩]⟩
noncomputable def exponent_Term_M3 (m k : Nat) (x0 : List (T × Int)) (x1 : Int) (x2 : Int) (x3 : Int) (x4 : Int) (x5 : Int) (x6 : List UInt8) (x7 : Int) (x8 : Int) (x9 : List UInt8) (x10 : Int) (x11 : List (T)) (x12 : Int) (x13 : List (T)) (x14 : List (T)) (x15 : List (T)) := tb.PL i55 15 m k [(2, .ptr 0 0), (5, .row 1 0), (6, .row 2 0), (8, .ptr 1 0), (18, .sl (.pair .term (.int .i64)) x0 1), (19, .i .i64 x1), (20, .i .i64 x2), (46, .i .i64 x3), (47, .i .i64 x4)] ⟨[[.i .i64 x5, .s x6, .i .i64 x7, .row 0 0], [.i .i64 x8, .s x9, .i .i64 x10, .sl .term x11 1, .i .i64 x12]], [⟨.term, x13, 0, 0, false⟩, ⟨.term, x14, 0, 0, false⟩, ⟨.term, x15, 0, 0, false⟩]⟩
theorem exponent_Term_lab (m k : Nat) : exponent_Term_L m k = (exponent_Term_M1 m k, exponent_Term_M2 m k, exponent_Term_M3 m k) := lab1 (M := fun k => (exponent_Term_M1 m k, exponent_Term_M2 m k, exponent_Term_M3 m k)) rfl (fun _ => by kernel_rfl) k
theorem exponent_Term_ok (m : Nat) (a0 : List (T × Int)) : exponent_Term (m + 1) a0 = tb.runP1 m i55 [] (a0, ()) := (congrArg (a₁ := exponent_Term_L m m) (fun L => exponent_Term_s0 m L.1 L.2.1 L.2.2 a0) (exponent_Term_lab m m)).trans (by kernel_rfl)
theorem theory_app_ok (m : Nat) (a0 : Y8) (a1 : TL) : theory_app (m + 1) a0 a1 = tb.runP1 m i27 [] (a0, a1, ()) := by kernel_rfl
noncomputable def exponent_copied_M1 (m k : Nat) (x0 : List (T × Int)) (x1 : Int) (x2 : Int) (x3 : List (T × Int)) := tb.QL i87 3 m k [(3, .row 0 0), (6, .sl (.pair .term (.int .i64)) x0 1), (7, .i .i64 x1), (8, .i .i64 x2)] ⟨[], [⟨(.pair .term (.int .i64)), x3, 0, 0, false⟩]⟩
theorem exponent_copied_lab (m k : Nat) : exponent_copied_L m k = exponent_copied_M1 m k := lab1 (M := fun k => exponent_copied_M1 m k) rfl (fun _ => by kernel_rfl) k
theorem exponent_copied_ok (m : Nat) (a0 : List (T × Int)) : exponent_copied (m + 1) a0 = tb.runS1 m i87 (a0, ()) := (congrArg (a₁ := exponent_copied_L m m) (fun L => exponent_copied_s0 m L a0) (exponent_copied_lab m m)).trans (by kernel_rfl)
theorem exponent_result_1_ok (m : Nat) (a0 : T × Int) : exponent_result_1 (m + 1) a0 = tb.runP1 m i95 [] (a0, ()) := by kernel_rfl
noncomputable def slices_IndexFunc_api_Power_api_Power_of_95_M1 (m k : Nat) (x0 : List (T × Int)) (x1 : Int) (x2 : Int) := tb.PL i98 2 m k [(0, .sl (.pair .term (.int .i64)) x0 1), (1, .fn 95 []), (7, .i .i64 x1), (8, .i .i64 x2)] ⟨[], []⟩
theorem slices_IndexFunc_api_Power_api_Power_of_95_lab (m k : Nat) : slices_IndexFunc_api_Power_api_Power_of_95_L m k = slices_IndexFunc_api_Power_api_Power_of_95_M1 m k := lab1 (M := fun k => slices_IndexFunc_api_Power_api_Power_of_95_M1 m k) rfl (fun _ => by kernel_rfl) k
theorem slices_IndexFunc_api_Power_api_Power_of_95_ok (m : Nat) (a0 : List (T × Int)) : slices_IndexFunc_api_Power_api_Power_of_95 (m + 1) a0 = tb.runP1 m i98 [95] (a0, ()) := (congrArg (a₁ := slices_IndexFunc_api_Power_api_Power_of_95_L m m) (fun L => slices_IndexFunc_api_Power_api_Power_of_95_s0 m L a0) (slices_IndexFunc_api_Power_api_Power_of_95_lab m m)).trans (by kernel_rfl)
theorem slices_ContainsFunc_api_Power_api_Power_of_95_ok (m : Nat) (a0 : List (T × Int)) : slices_ContainsFunc_api_Power_api_Power_of_95 (m + 1) a0 = tb.runP1 m i94 [95] (a0, ()) := by kernel_rfl
theorem exponent_result_ok (m : Nat) (a0 : List (T × Int)) : exponent_result (m + 1) a0 = tb.runP1 m i88 [] (a0, ()) := by kernel_rfl
noncomputable def exponent_Mul_M1 (m k : Nat) (x0 : List (T × Int)) (x1 : Int) (x2 : Int) (x3 : List (T × Int)) := tb.PL i76 9 m k [(8, .row 0 0), (23, .sl (.pair .term (.int .i64)) x0 1), (24, .i .i64 x1), (25, .i .i64 x2)] ⟨[], [⟨(.pair .term (.int .i64)), x3, 0, 0, false⟩]⟩
theorem exponent_Mul_lab (m k : Nat) : exponent_Mul_L m k = exponent_Mul_M1 m k := lab1 (M := fun k => exponent_Mul_M1 m k) rfl (fun _ => by kernel_rfl) k
theorem exponent_Mul_ok (m : Nat) (a0 : List (T × Int)) (a1 : List (T × Int)) : exponent_Mul (m + 1) a0 a1 = tb.runP1 m i76 [] (a0, a1, ()) := (congrArg (a₁ := exponent_Mul_L m m) (fun L => exponent_Mul_s0 m L a0 a1) (exponent_Mul_lab m m)).trans (by kernel_rfl)
theorem theory_raise_ok (m : Nat) (a0 : T) (a1 : T) : theory_raise (m + 1) a0 a1 = tb.runP1 m i56 [] (a0, a1, ()) := by kernel_rfl
noncomputable def theory_normal_M1 (m k : Nat) (x0 : List (T)) (x1 : Int) (x2 : Int) (x3 : Int) (x4 : List UInt8) (x5 : Int) (x6 : List (T)) (x7 : Int) (x8 : List UInt8) (x9 : Int) (x10 : Int) (x11 : List UInt8) (x12 : Int) (x13 : List (T)) (x14 : List (T)) := tb.PL i42 5 m k [(1, .ptr 0 0), (2, .ptr 1 0), (4, .ptr 2 0), (19, .sl .term x0 1), (20, .i .i64 x1), (21, .i .i64 x2)] ⟨[[.i .i64 x3, .s x4, .i .i64 x5, .sl .term x6 1], [.i .i64 x7, .s x8, .i .i64 x9, .row 0 0], [.i .i64 x10, .s x11, .i .i64 x12, .row 1 0]], [⟨.term, x13, 0, 0, false⟩, ⟨.term, x14, 0, 0, false⟩]⟩
theorem theory_normal_lab (m k : Nat) : theory_normal_L m (theory_normal m) k = theory_normal_M1 m k := lab1 (M := fun k => theory_normal_M1 m k) rfl (fun _ => by kernel_rfl) k
theorem theory_normal_ok (m : Nat) (a0 : T) : theory_normal (m + 1) a0 = tb.runP1 m i42 [] (a0, ()) := (congrArg (a₁ := theory_normal_L m (theory_normal m) m) (fun L => theory_normal_s0 m (theory_normal m) L a0) (theory_normal_lab m m)).trans (by kernel_rfl)
theorem theory_Normal_ok (m : Nat) (a0 : T) : theory_Normal (m + 1) a0 = tb.runP1 m i29 [] (a0, ()) := by kernel_rfl
theorem law09_leads_ok (m : Nat) (a0 : Y8) (a1 : Y8) : law09_leads (m + 1) a0 a1 = tb.runP1 m i17 [] (a0, a1, ()) := by kernel_rfl
theorem theory_Plain_1_ok (m : Nat) (a0 : Y8) : theory_Plain_1 (m + 1) a0 = tb.runP1 m i32 [] (a0, ()) := by kernel_rfl
noncomputable def theory_every_of_32_M1 (m k : Nat) (x0 : List (T)) (x1 : Int) (x2 : Int) := tb.PL i31 4 m k [(1, .fn 32 []), (18, .sl .term x0 1), (19, .i .i64 x1), (20, .i .i64 x2)] ⟨[], []⟩
theorem theory_every_of_32_lab (m k : Nat) : theory_every_of_32_L m (theory_every_of_32 m) k = theory_every_of_32_M1 m k := lab1 (M := fun k => theory_every_of_32_M1 m k) rfl (fun _ => by kernel_rfl) k
theorem theory_every_of_32_ok (m : Nat) (a0 : T) : theory_every_of_32 (m + 1) a0 = tb.runP1 m i31 [32] (a0, ()) := (congrArg (a₁ := theory_every_of_32_L m (theory_every_of_32 m) m) (fun L => theory_every_of_32_s0 m (theory_every_of_32 m) L a0) (theory_every_of_32_lab m m)).trans (by kernel_rfl)
theorem theory_Plain_ok (m : Nat) (a0 : T) : theory_Plain (m + 1) a0 = tb.runP1 m i18 [] (a0, ()) := by kernel_rfl
theorem law09_awake_ok (m : Nat) : law09_awake (m + 1) = tb.runP1 m i5 [] (()) := by kernel_rfl
noncomputable def ref01_budget_M1 (m k : Nat) (x0 : Int) (x1 : Int) (x2 : Int) (x3 : List UInt8) (x4 : Int) (x5 : List (T)) := tb.PL i26 5 m k [(1, .i .i64 x0), (2, .ptr 0 0), (5, .i .i64 x1)] ⟨[[.i .i64 x2, .s x3, .i .i64 x4, .sl .term x5 1]], []⟩
theorem ref01_budget_lab (m k : Nat) : ref01_budget_L m (ref01_budget m) k = ref01_budget_M1 m k := lab1 (M := fun k => ref01_budget_M1 m k) rfl (fun _ => by kernel_rfl) k
theorem ref01_budget_ok (m : Nat) (a0 : T) (a1 : Int) : ref01_budget (m + 1) a0 a1 = tb.runP1 m i26 [] (a0, a1, ()) := (congrArg (a₁ := ref01_budget_L m (ref01_budget m) m) (fun L => ref01_budget_s0 m (ref01_budget m) L a0 a1) (ref01_budget_lab m m)).trans (by kernel_rfl)
noncomputable def ref01_Few_M1 (m k : Nat) (x0 : List (T)) (x1 : Int) (x2 : Int) := tb.PL i13 4 m k [(0, .sl .term x0 1), (2, .i .i64 x1), (7, .i .i64 x2)] ⟨[], []⟩
theorem ref01_Few_lab (m k : Nat) : ref01_Few_L m k = ref01_Few_M1 m k := lab1 (M := fun k => ref01_Few_M1 m k) rfl (fun _ => by kernel_rfl) k
theorem ref01_Few_ok (m : Nat) (a0 : TL) (a1 : Int) (a2 : Int) : ref01_Few (m + 1) a0 a1 a2 = tb.runP1 m i13 [] (a0, a1, a2, ()) := (congrArg (a₁ := ref01_Few_L m m) (fun L => ref01_Few_s0 m L a0 a1 a2) (ref01_Few_lab m m)).trans (by kernel_rfl)
noncomputable def law09_small_M1 (m k : Nat) (x0 : List (T)) (x1 : Int) (x2 : Int) := tb.PL i6 4 m k [(8, .sl .term x0 1), (9, .i .i64 x1), (10, .i .i64 x2)] ⟨[], []⟩
theorem law09_small_lab (m k : Nat) : law09_small_L m k = law09_small_M1 m k := lab1 (M := fun k => law09_small_M1 m k) rfl (fun _ => by kernel_rfl) k
theorem law09_small_ok (m : Nat) (a0 : TL) : law09_small (m + 1) a0 = tb.runP1 m i6 [] (a0, ()) := (congrArg (a₁ := law09_small_L m m) (fun L => law09_small_s0 m L a0) (law09_small_lab m m)).trans (by kernel_rfl)
noncomputable def term_At_M1 (m k : Nat) (x0 : List (Int)) (x1 : Int) (x2 : Int) (x3 : Int) (x4 : List UInt8) (x5 : Int) (x6 : List (T)) (x7 : Int) (x8 : List UInt8) (x9 : Int) (x10 : List (T)) := tb.PL i37 2 m k [(2, .ptr 0 0), (4, .ptr 1 0), (8, .sl (.int .i64) x0 1), (9, .i .i64 x1), (10, .i .i64 x2)] ⟨[[.i .i64 x3, .s x4, .i .i64 x5, .sl .term x6 1], [.i .i64 x7, .s x8, .i .i64 x9, .row 0 0]], [⟨.term, x10, 0, 0, false⟩]⟩
theorem term_At_lab (m k : Nat) : term_At_L m k = term_At_M1 m k := lab1 (M := fun k => term_At_M1 m k) rfl (fun _ => by kernel_rfl) k
theorem term_At_ok (m : Nat) (a0 : T) (a1 : List Int) : term_At (m + 1) a0 a1 = tb.runP1 m i37 [] (a0, a1, ()) := (congrArg (a₁ := term_At_L m m) (fun L => term_At_s0 m L a0 a1) (term_At_lab m m)).trans (by kernel_rfl)
theorem theory_copied_ok (m : Nat) (a0 : T) : theory_copied (m + 1) a0 = tb.runP1 m i23 [] (a0, ()) := by kernel_rfl
theorem theory_Key_ok (m : Nat) (a0 : T) : theory_Key (m + 1) a0 = tb.runP1 m i7 [] (a0, ()) := by kernel_rfl
theorem ref09_Is_ok (m : Nat) (a0 : T) (a1 : Y8) : ref09_Is (m + 1) a0 a1 = tb.runP1 m i16 [] (a0, a1, ()) := by kernel_rfl
theorem ref09_Symbols_ok (m : Nat) : ref09_Symbols (m + 1) = tb.runP1 m i66 [] (()) := by kernel_rfl
noncomputable def ref09_Kind_M1 (m k : Nat) (x0 : List UInt8) (x1 : List (Y8 × (Int × (Int × Int)))) (x2 : Int) := tb.PL i49 3 m k [(0, .s x0), (3, .sl (.pair .str (.pair (.int .i64) (.pair (.int .i64) (.int .i64)))) x1 1), (4, .i .i64 x2)] ⟨[], []⟩
theorem ref09_Kind_lab (m k : Nat) : ref09_Kind_L m k = ref09_Kind_M1 m k := lab1 (M := fun k => ref09_Kind_M1 m k) rfl (fun _ => by kernel_rfl) k
theorem ref09_Kind_ok (m : Nat) (a0 : Y8) : ref09_Kind (m + 1) a0 = tb.runP1 m i49 [] (a0, ()) := (congrArg (a₁ := ref09_Kind_L m m) (fun L => ref09_Kind_s0 m L a0) (ref09_Kind_lab m m)).trans (by kernel_rfl)
noncomputable def ref09_fits_M1 (m k : Nat) (x0 : List (Y8 × (Int × (Int × Int)))) (x1 : Int) (x2 : Int) (x3 : List UInt8) (x4 : Int) (x5 : List (T)) := tb.PL i50 3 m k [(1, .ptr 0 0), (3, .sl (.pair .str (.pair (.int .i64) (.pair (.int .i64) (.int .i64)))) x0 1), (4, .i .i64 x1)] ⟨[[.i .i64 x2, .s x3, .i .i64 x4, .sl .term x5 1]], []⟩
theorem ref09_fits_lab (m k : Nat) : ref09_fits_L m k = ref09_fits_M1 m k := lab1 (M := fun k => ref09_fits_M1 m k) rfl (fun _ => by kernel_rfl) k
theorem ref09_fits_ok (m : Nat) (a0 : T) : ref09_fits (m + 1) a0 = tb.runP1 m i50 [] (a0, ()) := (congrArg (a₁ := ref09_fits_L m m) (fun L => ref09_fits_s0 m L a0) (ref09_fits_lab m m)).trans (by kernel_rfl)
noncomputable def ref09_agents_M1 (m k : Nat) (x0 : Int) (x1 : Int) (x2 : List UInt8) (x3 : Int) (x4 : List (T)) := tb.PL i51 4 m k [(1, .ptr 0 0), (3, .i .i64 x0)] ⟨[[.i .i64 x1, .s x2, .i .i64 x3, .sl .term x4 1]], []⟩
theorem ref09_agents_lab (m k : Nat) : ref09_agents_L m k = ref09_agents_M1 m k := lab1 (M := fun k => ref09_agents_M1 m k) rfl (fun _ => by kernel_rfl) k
theorem ref09_agents_ok (m : Nat) (a0 : T) : ref09_agents (m + 1) a0 = tb.runP1 m i51 [] (a0, ()) := (congrArg (a₁ := ref09_agents_L m m) (fun L => ref09_agents_s0 m L a0) (ref09_agents_lab m m)).trans (by kernel_rfl)
noncomputable def ref09_nodes_M1 (m k : Nat) (x0 : Int) (x1 : Int) (x2 : List UInt8) (x3 : Int) (x4 : List (T)) := tb.PL i39 11 m k [(1, .ptr 0 0), (4, .i .i64 x0)] ⟨[[.i .i64 x1, .s x2, .i .i64 x3, .sl .term x4 1]], []⟩
theorem ref09_nodes_lab (m k : Nat) : ref09_nodes_L m (ref09_nodes m) k = ref09_nodes_M1 m k := lab1 (M := fun k => ref09_nodes_M1 m k) rfl (fun _ => by kernel_rfl) k
theorem ref09_nodes_ok (m : Nat) (a0 : T) : ref09_nodes (m + 1) a0 = tb.runP1 m i39 [] (a0, ()) := (congrArg (a₁ := ref09_nodes_L m (ref09_nodes m) m) (fun L => ref09_nodes_s0 m (ref09_nodes m) L a0) (ref09_nodes_lab m m)).trans (by kernel_rfl)
theorem ref09_Valid_ok (m : Nat) (a0 : T) : ref09_Valid (m + 1) a0 = tb.runP1 m i24 [] (a0, ()) := by kernel_rfl
theorem ref09_Key_ok (m : Nat) (a0 : T) : ref09_Key (m + 1) a0 = tb.runP1 m i8 [] (a0, ()) := by kernel_rfl
noncomputable def ref01_Lists_M1 (m k : Nat) (x0 : List (T)) (x1 : List (T)) (x2 : Int) := tb.PL i10 4 m k [(0, .sl .term x0 1), (1, .sl .term x1 1), (5, .i .i64 x2)] ⟨[], []⟩
theorem ref01_Lists_lab (m k : Nat) : ref01_Lists_L m k = ref01_Lists_M1 m k := lab1 (M := fun k => ref01_Lists_M1 m k) rfl (fun _ => by kernel_rfl) k
theorem ref01_Lists_ok (m : Nat) (a0 : TL) (a1 : TL) : ref01_Lists (m + 1) a0 a1 = tb.runP1 m i10 [] (a0, a1, ()) := (congrArg (a₁ := ref01_Lists_L m m) (fun L => ref01_Lists_s0 m L a0 a1) (ref01_Lists_lab m m)).trans (by kernel_rfl)
noncomputable def theory_Untuple_M1 (m k : Nat) (x0 : Int) (x1 : List UInt8) (x2 : Int) (x3 : List (T)) (x4 : List (T)) := tb.PL i11 2 m k [(1, .ptr 0 0), (3, .row 0 0)] ⟨[[.i .i64 x0, .s x1, .i .i64 x2, .sl .term x3 1]], [⟨.term, x4, 0, 0, false⟩]⟩
theorem theory_Untuple_lab (m k : Nat) : theory_Untuple_L m k = theory_Untuple_M1 m k := lab1 (M := fun k => theory_Untuple_M1 m k) rfl (fun _ => by kernel_rfl) k
theorem theory_Untuple_ok (m : Nat) (a0 : T) : theory_Untuple (m + 1) a0 = tb.runP1 m i11 [] (a0, ()) := (congrArg (a₁ := theory_Untuple_L m m) (fun L => theory_Untuple_s0 m L a0) (theory_Untuple_lab m m)).trans (by kernel_rfl)
theorem ref09_Untuple_ok (m : Nat) (a0 : T) : ref09_Untuple (m + 1) a0 = tb.runP1 m i12 [] (a0, ()) := by kernel_rfl
theorem law09_TheoryKey_ok (m : Nat) (a0 : T) : law09_TheoryKey (m + 1) a0 = tb.runP1 m i3 [] (a0, ()) := by kernel_rfl
noncomputable def theory_Tuple_M1 (m k : Nat) (x0 : List (T)) (x1 : Int) (x2 : Int) (x3 : Int) (x4 : List UInt8) (x5 : Int) (x6 : List (T)) := tb.PL i14 6 m k [(0, .sl .term x0 1), (2, .ptr 0 0), (18, .i .i64 x1), (19, .i .i64 x2)] ⟨[[.i .i64 x3, .s x4, .i .i64 x5, .row 0 0]], [⟨.term, x6, 0, 0, false⟩]⟩
noncomputable def theory_Tuple_M2 (m k : Nat) (x0 : List (T)) (x1 : Int) (x2 : Int) (x3 : List UInt8) (x4 : Int) (x5 : Int) (x6 : List UInt8) (x7 : Int) (x8 : List (T)) (x9 : List (T)) := tb.PL i14 15 m k [(0, .sl .term x0 1), (2, .ptr 0 0), (7, .ptr 1 0), (8, .i .i64 x1)] ⟨[[.i .i64 x2, .s x3, .i .i64 x4, .row 0 0], [.i .i64 x5, .s x6, .i .i64 x7, .sl .term x8 1]], [⟨.term, x9, 0, 0, false⟩]⟩
theorem theory_Tuple_lab (m k : Nat) : theory_Tuple_L m k = (theory_Tuple_M1 m k, theory_Tuple_M2 m k) := lab1 (M := fun k => (theory_Tuple_M1 m k, theory_Tuple_M2 m k)) rfl (fun _ => by kernel_rfl) k
theorem theory_Tuple_ok (m : Nat) (a0 : TL) : theory_Tuple (m + 1) a0 = tb.runP1 m i14 [] (a0, ()) := (congrArg (a₁ := theory_Tuple_L m m) (fun L => theory_Tuple_s0 m L.1 L.2 a0) (theory_Tuple_lab m m)).trans (by kernel_rfl)
theorem ref01_App_ok (m : Nat) (a0 : Y8) (a1 : TL) : ref01_App (m + 1) a0 a1 = tb.runP1 m i28 [] (a0, a1, ()) := by kernel_rfl
noncomputable def ref09_Tuple_M1 (m k : Nat) (x0 : List (T)) (x1 : Int) (x2 : Int) (x3 : List UInt8) (x4 : Int) (x5 : Int) (x6 : List UInt8) (x7 : Int) (x8 : List (T)) (x9 : List (T)) := tb.PL i15 5 m k [(0, .sl .term x0 1), (2, .ptr 0 0), (4, .ptr 1 0), (5, .i .i64 x1)] ⟨[[.i .i64 x2, .s x3, .i .i64 x4, .row 0 0], [.i .i64 x5, .s x6, .i .i64 x7, .sl .term x8 1]], [⟨.term, x9, 0, 0, false⟩]⟩
theorem ref09_Tuple_lab (m k : Nat) : ref09_Tuple_L m k = ref09_Tuple_M1 m k := lab1 (M := fun k => ref09_Tuple_M1 m k) rfl (fun _ => by kernel_rfl) k
theorem ref09_Tuple_ok (m : Nat) (a0 : TL) : ref09_Tuple (m + 1) a0 = tb.runP1 m i15 [] (a0, ()) := (congrArg (a₁ := ref09_Tuple_L m m) (fun L => ref09_Tuple_s0 m L a0) (ref09_Tuple_lab m m)).trans (by kernel_rfl)
theorem law09_TheoryTuple_ok (m : Nat) (a0 : TL) : law09_TheoryTuple (m + 1) a0 = tb.runP1 m i4 [] (a0, ()) := by kernel_rfl
end Go.AmYtmodnblfcikjlaa
namespace Go.AmYtmodnblfcikjlaa
open Go Go.GxYtmodnblfcikjlaa
set_option linter.unusedVariables false
set_option maxRecDepth 100000
theorem tb_ok : ∀ m, CfgOk Go.Proofs.Try.prog (tb.at m).pc.cfg := Tb.all_ok (by kernel_rfl) tyT_ok (by kernel_rfl) ⟨⟨⟨Go.Proofs.Try.func48, fun _ => rfl, fun m a => ref01_nodes_ok m a.1, trivial⟩, List.cons_ne_nil _ _⟩, ⟨⟨⟨Go.Proofs.Try.func25, fun _ => rfl, fun m a => ref01_Compare_ok m a.1 a.2.1, trivial⟩, List.cons_ne_nil _ _⟩, ⟨⟨⟨Go.Proofs.Try.func14, fun _ => rfl, fun m a => theory_Tuple_ok m a.1, trivial⟩, List.cons_ne_nil _ _⟩, ⟨⟨⟨Go.Proofs.Try.func8, fun _ => rfl, fun m a => ref09_Key_ok m a.1, trivial⟩, List.cons_ne_nil _ _⟩, ⟨⟨⟨Go.Proofs.Try.func5, fun _ => rfl, fun m a => law09_awake_ok m, trivial⟩, List.cons_ne_nil _ _⟩, ⟨⟨⟨Go.Proofs.Try.func4, fun _ => rfl, fun m a => law09_TheoryTuple_ok m a.1, trivial⟩, List.cons_ne_nil _ _⟩, ⟨⟨⟨Go.Proofs.Try.func3, fun _ => rfl, fun m a => law09_TheoryKey_ok m a.1, trivial⟩, List.cons_ne_nil _ _⟩, trivial, trivial⟩, trivial⟩, ⟨⟨⟨Go.Proofs.Try.func7, fun _ => rfl, fun m a => theory_Key_ok m a.1, trivial⟩, List.cons_ne_nil _ _⟩, ⟨⟨⟨Go.Proofs.Try.func6, fun _ => rfl, fun m a => law09_small_ok m a.1, trivial⟩, List.cons_ne_nil _ _⟩, trivial, trivial⟩, trivial⟩⟩, ⟨⟨⟨Go.Proofs.Try.func11, fun _ => rfl, fun m a => theory_Untuple_ok m a.1, trivial⟩, List.cons_ne_nil _ _⟩, ⟨⟨⟨Go.Proofs.Try.func10, fun _ => rfl, fun m a => ref01_Lists_ok m a.1 a.2.1, trivial⟩, List.cons_ne_nil _ _⟩, ⟨⟨⟨Go.Proofs.Try.func9, fun _ => rfl, fun m a => ref01_Same_ok m a.1 a.2.1, trivial⟩, List.cons_ne_nil _ _⟩, trivial, trivial⟩, trivial⟩, ⟨⟨⟨Go.Proofs.Try.func13, fun _ => rfl, fun m a => ref01_Few_ok m a.1 a.2.1 a.2.2.1, trivial⟩, List.cons_ne_nil _ _⟩, ⟨⟨⟨Go.Proofs.Try.func12, fun _ => rfl, fun m a => ref09_Untuple_ok m a.1, trivial⟩, List.cons_ne_nil _ _⟩, trivial, trivial⟩, trivial⟩⟩⟩, ⟨⟨⟨Go.Proofs.Try.func20, fun _ => rfl, fun m a => ref01_Depth_ok m a.1, trivial⟩, List.cons_ne_nil _ _⟩, ⟨⟨⟨Go.Proofs.Try.func17, fun _ => rfl, fun m a => law09_leads_ok m a.1 a.2.1, trivial⟩, List.cons_ne_nil _ _⟩, ⟨⟨⟨Go.Proofs.Try.func16, fun _ => rfl, fun m a => ref09_Is_ok m a.1 a.2.1, trivial⟩, List.cons_ne_nil _ _⟩, ⟨⟨⟨Go.Proofs.Try.func15, fun _ => rfl, fun m a => ref09_Tuple_ok m a.1, trivial⟩, List.cons_ne_nil _ _⟩, trivial, trivial⟩, trivial⟩, ⟨⟨⟨Go.Proofs.Try.func19, fun _ => rfl, fun m a => law09_parse_ok m a.1, trivial⟩, List.cons_ne_nil _ _⟩, ⟨⟨⟨Go.Proofs.Try.func18, fun _ => rfl, fun m a => theory_Plain_ok m a.1, trivial⟩, List.cons_ne_nil _ _⟩, trivial, trivial⟩, trivial⟩⟩, ⟨⟨⟨Go.Proofs.Try.func23, fun _ => rfl, fun m a => theory_copied_ok m a.1, trivial⟩, List.cons_ne_nil _ _⟩, ⟨⟨⟨Go.Proofs.Try.func22, fun _ => rfl, fun m a => theory_is_ok m a.1 a.2.1, trivial⟩, List.cons_ne_nil _ _⟩, ⟨⟨⟨Go.Proofs.Try.func21, fun _ => rfl, fun m a => theory_Valid_ok m a.1, trivial⟩, List.cons_ne_nil _ _⟩, trivial, trivial⟩, trivial⟩, ⟨⟨⟨Go.Proofs.Try.func24, fun _ => rfl, fun m a => ref09_Valid_ok m a.1, trivial⟩, List.cons_ne_nil _ _⟩, trivial, trivial⟩⟩⟩⟩, ⟨⟨⟨Go.Proofs.Try.func37, fun _ => rfl, fun m a => term_At_ok m a.1 a.2.1, trivial⟩, List.cons_ne_nil _ _⟩, ⟨⟨⟨Go.Proofs.Try.func31, fun _ => rfl, fun m a => theory_every_of_32_ok m a.1, trivial⟩, List.cons_ne_nil _ _⟩, ⟨⟨⟨Go.Proofs.Try.func28, fun _ => rfl, fun m a => ref01_App_ok m a.1 a.2.1, trivial⟩, List.cons_ne_nil _ _⟩, ⟨⟨⟨Go.Proofs.Try.func27, fun _ => rfl, fun m a => theory_app_ok m a.1 a.2.1, trivial⟩, List.cons_ne_nil _ _⟩, ⟨⟨⟨Go.Proofs.Try.func26, fun _ => rfl, fun m a => ref01_budget_ok m a.1 a.2.1, trivial⟩, List.cons_ne_nil _ _⟩, trivial, trivial⟩, trivial⟩, ⟨⟨⟨Go.Proofs.Try.func30, fun _ => rfl, fun m a => theory_same_ok m a.1 a.2.1, trivial⟩, List.cons_ne_nil _ _⟩, ⟨⟨⟨Go.Proofs.Try.func29, fun _ => rfl, fun m a => theory_Normal_ok m a.1, trivial⟩, List.cons_ne_nil _ _⟩, trivial, trivial⟩, trivial⟩⟩, ⟨⟨⟨Go.Proofs.Try.func34, fun _ => rfl, fun m a => ref01_Parse_ok m a.1, trivial⟩, List.cons_ne_nil _ _⟩, ⟨⟨⟨Go.Proofs.Try.func33, fun _ => rfl, fun m a => theory_symbol_ok m a.1, trivial⟩, List.cons_ne_nil _ _⟩, ⟨⟨⟨Go.Proofs.Try.func32, fun _ => rfl, fun m a => theory_Plain_1_ok m a.1, trivial⟩, List.cons_ne_nil _ _⟩, trivial, trivial⟩, trivial⟩, ⟨⟨⟨Go.Proofs.Try.func36, fun _ => rfl, fun m a => theory_check_ok m a.1, trivial⟩, List.cons_ne_nil _ _⟩, ⟨⟨⟨Go.Proofs.Try.func35, fun _ => rfl, fun m a => term_Valid_ok m a.1, trivial⟩, List.cons_ne_nil _ _⟩, trivial, trivial⟩, trivial⟩⟩⟩, ⟨⟨⟨Go.Proofs.Try.func43, fun _ => rfl, fun m a => term_Compare_ok m a.1 a.2.1, trivial⟩, List.cons_ne_nil _ _⟩, ⟨⟨⟨Go.Proofs.Try.func40, fun _ => rfl, fun m a => ref01_number_ok m a.1 a.2.1, trivial⟩, List.cons_ne_nil _ _⟩, ⟨⟨⟨Go.Proofs.Try.func39, fun _ => rfl, fun m a => ref09_nodes_ok m a.1, trivial⟩, List.cons_ne_nil _ _⟩, ⟨⟨⟨Go.Proofs.Try.func38, fun _ => rfl, fun m a => ref01_Valid_ok m a.1, trivial⟩, List.cons_ne_nil _ _⟩, trivial, trivial⟩, trivial⟩, ⟨⟨⟨Go.Proofs.Try.func42, fun _ => rfl, fun m a => theory_normal_ok m a.1, trivial⟩, List.cons_ne_nil _ _⟩, ⟨⟨⟨Go.Proofs.Try.func41, fun _ => rfl, fun m a => ref01_Size_ok m a.1, trivial⟩, List.cons_ne_nil _ _⟩, trivial, trivial⟩, trivial⟩⟩, ⟨⟨Go.Proofs.Try.func46, fun _ => rfl, fun m a => term_check_ok m a.1 a.2.1 a.2.2.1 a.2.2.2.1⟩, ⟨⟨⟨Go.Proofs.Try.func45, fun _ => rfl, fun m a => ref01_read_ok m a.1 a.2.1, trivial⟩, List.cons_ne_nil _ _⟩, ⟨fun c hc => hand_theory_Symbols (m := 0) hc, trivial, trivial⟩, trivial⟩, ⟨⟨⟨Go.Proofs.Try.func47, fun _ => rfl, fun m a => term_clone_ok m a.1, trivial⟩, List.cons_ne_nil _ _⟩, trivial, trivial⟩⟩⟩⟩⟩, ⟨⟨⟨Go.Proofs.Try.func72, fun _ => rfl, fun m a => exponent_valid_ok m a.1, trivial⟩, List.cons_ne_nil _ _⟩, ⟨⟨⟨Go.Proofs.Try.func61, fun _ => rfl, fun m a => ref01_name_ok m a.1, trivial⟩, List.cons_ne_nil _ _⟩, ⟨⟨⟨Go.Proofs.Try.func54, fun _ => rfl, fun m a => exponent_Of_ok m a.1, trivial⟩, List.cons_ne_nil _ _⟩, ⟨⟨⟨Go.Proofs.Try.func51, fun _ => rfl, fun m a => ref09_agents_ok m a.1, trivial⟩, List.cons_ne_nil _ _⟩, ⟨⟨⟨Go.Proofs.Try.func50, fun _ => rfl, fun m a => ref09_fits_ok m a.1, trivial⟩, List.cons_ne_nil _ _⟩, ⟨⟨⟨Go.Proofs.Try.func49, fun _ => rfl, fun m a => ref09_Kind_ok m a.1, trivial⟩, List.cons_ne_nil _ _⟩, trivial, trivial⟩, trivial⟩, ⟨⟨⟨Go.Proofs.Try.func53, fun _ => rfl, fun m a => xor_Sum_ok m a.1, trivial⟩, List.cons_ne_nil _ _⟩, ⟨⟨⟨Go.Proofs.Try.func52, fun _ => rfl, fun m a => theory_destroy_ok m a.1, trivial⟩, List.cons_ne_nil _ _⟩, trivial, trivial⟩, trivial⟩⟩, ⟨⟨⟨Go.Proofs.Try.func57, fun _ => rfl, fun m a => term_sign_ok m a.1 a.2.1, trivial⟩, List.cons_ne_nil _ _⟩, ⟨⟨⟨Go.Proofs.Try.func56, fun _ => rfl, fun m a => theory_raise_ok m a.1 a.2.1, trivial⟩, List.cons_ne_nil _ _⟩, ⟨⟨⟨Go.Proofs.Try.func55, fun _ => rfl, fun m a => exponent_Term_ok m a.1, trivial⟩, List.cons_ne_nil _ _⟩, trivial, trivial⟩, trivial⟩, ⟨fun c hc => hand_strings_Compare (m := 0) hc, ⟨⟨⟨Go.Proofs.Try.func58, fun _ => rfl, fun m a => term_Size_ok m a.1, trivial⟩, List.cons_ne_nil _ _⟩, trivial, trivial⟩, trivial⟩⟩⟩, ⟨⟨⟨Go.Proofs.Try.func67, fun _ => rfl, fun m a => xor_right_ok m a.1 a.2.1, trivial⟩, List.cons_ne_nil _ _⟩, ⟨⟨⟨Go.Proofs.Try.func64, fun _ => rfl, fun m a => term_isName_ok m a.1, trivial⟩, List.cons_ne_nil _ _⟩, ⟨⟨⟨Go.Proofs.Try.func63, fun _ => rfl, fun m a => ref01_leaf_ok m a.1 a.2.1, trivial⟩, List.cons_ne_nil _ _⟩, ⟨⟨⟨Go.Proofs.Try.func62, fun _ => rfl, fun m a => ref01_IsName_ok m a.1, trivial⟩, List.cons_ne_nil _ _⟩, trivial, trivial⟩, trivial⟩, ⟨⟨⟨Go.Proofs.Try.func66, fun _ => rfl, fun m a => ref09_Symbols_ok m, trivial⟩, List.cons_ne_nil _ _⟩, ⟨⟨⟨Go.Proofs.Try.func65, fun _ => rfl, fun m a => ref01_node_ok m a.1, trivial⟩, List.cons_ne_nil _ _⟩, trivial, trivial⟩, trivial⟩⟩, ⟨⟨⟨Go.Proofs.Try.func70, fun _ => rfl, fun m a => xor_own_ok m a.1, trivial⟩, List.cons_ne_nil _ _⟩, ⟨⟨⟨Go.Proofs.Try.func69, fun _ => rfl, fun m a => xor_summands_ok m a.1, trivial⟩, List.cons_ne_nil _ _⟩, ⟨⟨⟨Go.Proofs.Try.func68, fun _ => rfl, fun m a => xor_plus_ok m a.1 a.2.1, trivial⟩, List.cons_ne_nil _ _⟩, trivial, trivial⟩, trivial⟩, ⟨⟨Go.Proofs.Try.func71, fun _ => rfl, fun m a => exponent_collect_ok m a.1 a.2.1 a.2.2.1⟩, trivial, trivial⟩⟩⟩⟩, ⟨hand_slices_Clone_api_Term_api_Term (m := 0), ⟨⟨⟨Go.Proofs.Try.func79, fun _ => rfl, fun m a => ref01_digit_ok m a.1, trivial⟩, List.cons_ne_nil _ _⟩, ⟨⟨⟨Go.Proofs.Try.func75, fun _ => rfl, fun m a => slices_Concat_api_Term_api_Term_ok m a.1, trivial⟩, List.cons_ne_nil _ _⟩, ⟨⟨⟨Go.Proofs.Try.func74, fun _ => rfl, fun m a => exponent_app_ok m a.1 a.2.1, trivial⟩, List.cons_ne_nil _ _⟩, ⟨⟨⟨Go.Proofs.Try.func73, fun _ => rfl, fun m a => exponent_clone_ok m a.1, trivial⟩, List.cons_ne_nil _ _⟩, trivial, trivial⟩, trivial⟩, ⟨⟨⟨Go.Proofs.Try.func78, fun _ => rfl, fun m a => ref01_letter_ok m a.1, trivial⟩, List.cons_ne_nil _ _⟩, ⟨⟨⟨Go.Proofs.Try.func76, fun _ => rfl, fun m a => exponent_Mul_ok m a.1 a.2.1, trivial⟩, List.cons_ne_nil _ _⟩, trivial, trivial⟩, trivial⟩⟩, ⟨⟨⟨Go.Proofs.Try.func82, fun _ => rfl, fun m a => term_Replace_ok m a.1 a.2.1 a.2.2.1, trivial⟩, List.cons_ne_nil _ _⟩, ⟨⟨⟨Go.Proofs.Try.func81, fun _ => rfl, fun m a => term_part_ok m a.1, trivial⟩, List.cons_ne_nil _ _⟩, ⟨⟨⟨Go.Proofs.Try.func80, fun _ => rfl, fun m a => ref01_word_ok m a.1, trivial⟩, List.cons_ne_nil _ _⟩, trivial, trivial⟩, trivial⟩, ⟨⟨Go.Proofs.Try.func84, fun _ => rfl, fun m a => exponent_insert_ok m a.1 a.2.1⟩, ⟨⟨⟨Go.Proofs.Try.func83, fun _ => rfl, fun m a => exponent_symbol_ok m a.1, trivial⟩, List.cons_ne_nil _ _⟩, trivial, trivial⟩, trivial⟩⟩⟩, ⟨hand_slices_Insert_api_Power_api_Power (m := 0), ⟨⟨⟨Go.Proofs.Try.func88, fun _ => rfl, fun m a => exponent_result_ok m a.1, trivial⟩, List.cons_ne_nil _ _⟩, ⟨⟨Go.Proofs.Try.func87, fun _ => rfl, fun m a => exponent_copied_ok m a.1⟩, ⟨hand_slices_Grow_api_Term_api_Term (m := 0), trivial, trivial⟩, trivial⟩, ⟨⟨⟨Go.Proofs.Try.func91, fun _ => rfl, fun m a => exponent_insert_1_ok m a.1 a.2.1, trivial⟩, List.cons_ne_nil _ _⟩, ⟨⟨⟨Go.Proofs.Try.func90, fun _ => rfl, fun m a => slices_BinarySearchFunc_api_Power_api_Power_api_Term_of_91_ok m a.1 a.2.1, trivial⟩, List.cons_ne_nil _ _⟩, trivial, trivial⟩, trivial⟩⟩, ⟨⟨⟨Go.Proofs.Try.func95, fun _ => rfl, fun m a => exponent_result_1_ok m a.1, trivial⟩, List.cons_ne_nil _ _⟩, ⟨⟨⟨Go.Proofs.Try.func94, fun _ => rfl, fun m a => slices_ContainsFunc_api_Power_api_Power_of_95_ok m a.1, trivial⟩, List.cons_ne_nil _ _⟩, ⟨hand_slices_Delete_api_Power_api_Power (m := 0), trivial, trivial⟩, trivial⟩, ⟨⟨⟨Go.Proofs.Try.func98, fun _ => rfl, fun m a => slices_IndexFunc_api_Power_api_Power_of_95_ok m a.1, trivial⟩, List.cons_ne_nil _ _⟩, trivial, trivial⟩⟩⟩⟩⟩⟩
end Go.AmYtmodnblfcikjlaa
namespace Go.AmYtmodnblfcikjlaa
open Go Go.GxYtmodnblfcikjlaa Go.RowKit
open Go.ChangeShapes Go.WideShapes Go.ChangeAt Go.WideMaps Go.WideElems

theorem addr_add' (b o j : Nat) : (⟨b, o, none⟩ : Addr).add j = ⟨b, o + j, none⟩ := by unfold Addr.add; split <;> simp_all
mutual
/-- A type of the program is read as a plain type. -/
def tyM (P : Program) : Nat → Ty → TypeId → Bool
  | 0, _, _ => false
  | _ + 1, .int k, t => match P.underlying t with
    | some (.int k') => decide (k' = k) && decide (P.cellsOf t = 1)
    | _ => false
  | _ + 1, .bool, t => match P.underlying t with
    | some .bool => decide (P.cellsOf t = 1)
    | _ => false
  | _ + 1, .str, t => match P.underlying t with
    | some .string => decide (P.cellsOf t = 1)
    | _ => false
  | n + 1, .list a, t => match P.underlying t with
    | some (.slice e) => decide (P.cellsOf t = 1) && decide (P.cellsOf e = a.size) && decide (0 < P.bytesOf e) && tyM P n a e
    | _ => false
  | n + 1, .term, t => termM P n t
  | n + 1, .pair a b, t => match P.underlying t with
    | some (.struct fs) => decide (P.cellsOf t = a.size + b.size) && fsM P n (.pair a b) 0 fs.toList
    | _ => false
  | n + 1, .one a, t => match P.underlying t with
    | some (.struct fs) => decide (P.cellsOf t = a.size) && fsM P n a 0 fs.toList
    | _ => false
def fsM (P : Program) : Nat → Ty → Nat → List Field → Bool
  | 0, _, _, _ => false
  | n + 1, τ, off, [f] => decide (f.offset = off) && decide (P.cellsOf f.type = τ.size) && tyM P n τ f.type
  | n + 1, .pair a b, off, f :: g :: r => decide (f.offset = off) && decide (P.cellsOf f.type = a.size) && tyM P n a f.type && fsM P n b (off + a.size) (g :: r)
  | _ + 1, _, _, _ => false
def termM (P : Program) : Nat → TypeId → Bool
  | 0, _ => false
  | n + 1, t => match P.underlying t with
    | some (.struct fs) => match fs.toList with
      | [f0, f1, f2, f3] => decide (P.cellsOf t = 4) && decide (f0.offset = 0) && decide (f1.offset = 1) && decide (f2.offset = 2) && decide (f3.offset = 3) && decide (P.cellsOf f3.type = 1) &&
          tyM P n (.int .i64) f0.type && tyM P n .str f1.type && tyM P n (.int .i64) f2.type && (match P.underlying f3.type with
          | some (.slice e) => decide (e = t) && decide (0 < P.bytesOf t)
          | _ => false)
      | _ => false
    | _ => false
end
/-- Bounds of a plain value. -/
def FitV : (τ : Ty) → Val τ → Prop
  | .int k, n => k.min ≤ n ∧ n ≤ k.max
  | .bool, _ => True
  | .str, s => s.length < 2 ^ 62
  | .term, t => FitT t
  | .list a, l => l.length < 2 ^ 62 ∧ ∀ x ∈ l, FitV a x
  | .pair a b, p => FitV a p.1 ∧ FitV b p.2
  | .one a, v => FitV a v
/-- All of a world's memory, to read. -/
def ghW (W : World) : Gh := ⟨fun b o => match W.cell? ⟨b, o, none⟩ with | some u => if u.oneCell' = true then some u else none | none => none, 0, fun _ => 0, 0, fun _ => 0, fun _ => 0, fun _ => 0, fun _ => 0⟩
theorem ghW_mem {W : World} {b o : Nat} {u : Value} : (ghW W).mem b o = some u ↔ W.cell? ⟨b, o, none⟩ = some u ∧ u.oneCell' = true := by
  show (match W.cell? ⟨b, o, none⟩ with | some u => if u.oneCell' = true then some u else none | none => none) = some u ↔ _
  cases W.cell? ⟨b, o, none⟩ with
  | none => simp
  | some v =>
    simp only [Option.some.injEq]
    constructor
    · intro h
      split at h
      · cases h; exact ⟨rfl, ‹_›⟩
      · cases h
    · rintro ⟨rfl, h⟩
      rw [if_pos h]
theorem ghW_inv (W : World) : Inv (ghW W) emp W :=
  ⟨rfl, rfl, fun b o u h => ghW_mem.1 h, fun i cs h => (by cases h), fun i j h => absurd h (Nat.not_lt_zero _), fun i h => absurd h (Nat.not_lt_zero _), fun r R h => (by cases h), fun r r' h => absurd h (Nat.not_lt_zero _)⟩
theorem cells_len {W : World} {base : Nat} {a : Addr} : ∀ {n : Nat} {cs : List Value}, W.cells? base a n = some cs → cs.length = n ∧ ∀ j u, cs[j]? = some u → W.cell? (a.add j) = some u := by
  intro n cs h
  unfold World.cells? at h
  split at h
  case isFalse => cases h
  have h1 := mapM_some_length h
  rw [List.length_range] at h1
  refine ⟨h1, fun j u hj => ?_⟩
  have hlt := getElem?_lt hj
  have := mapM_some_get h j j (by rw [List.getElem?_range (by omega)])
  rw [this]; exact hj
section
variable {H : Type} {enc : TypeId × Value → H} {P : Program} {W : World}
def ValAt (enc : TypeId × Value → H) (P : Program) (W : World) (fuel : Nat) : Prop := ∀ (n : Nat) (τ : Ty) (t : TypeId) (cs : List Value) (x : DataW H × List MemPlace), tyM P n τ t = true → DataW.trod enc P W 0 (fun _ => true) true fuel t cs = some x → (∀ k ∈ x.1.weights P t, k ≤ reachBytes) →
  ∃ v : Val τ, RepL (ghW W) (encV τ v) cs ∧ (∀ u ∈ cs, u.oneCell' = true) ∧ FitV τ v
theorem weightsAll_mem {e : TypeId} : ∀ {ds : List (DataW H)} {d : DataW H}, d ∈ ds → ∀ n ∈ d.weights P e, n ∈ DataW.weightsAll P e ds
  | d0 :: ds, d, h, n, hn => by
    simp only [DataW.weightsAll, List.mem_append]
    rcases List.mem_cons.1 h with rfl | h
    · exact Or.inl hn
    · exact Or.inr (weightsAll_mem h n hn)
theorem reach_62 {n k : Nat} (h : n * k ≤ reachBytes) (hk : 0 < k) : n < 2 ^ 62 := by
  have : n * 1 ≤ n * k := Nat.mul_le_mul_left _ hk
  have h2 : reachBytes = 140737488351232 := rfl
  omega
theorem choice_lt {α β : Type} {n : Nat} {Q : Nat → α → β → Prop} (h0 : 0 < n) (h : ∀ i, i < n → ∃ a b, Q i a b) : ∃ (f : Nat → α) (g : Nat → β), ∀ i, i < n → Q i (f i) (g i) := by
  obtain ⟨a0, b0, _⟩ := h 0 h0
  refine ⟨fun i => if hi : i < n then (h i hi).choose else a0, fun i => if hi : i < n then (h i hi).choose_spec.choose else b0, fun i hi => ?_⟩
  simp only [dif_pos hi]
  exact (h i hi).choose_spec.choose_spec
theorem rep1 {Γ : Gh} {x : AV} {u : Value} (h : Rep Γ x u) : RepL Γ [x] [u] := RepL.cons h RepL.nil
/-- A slice. -/
theorem slice_val {fuel : Nat} (hA : ∀ f, f < fuel → ValAt enc P W f) {a : Ty} {t e : TypeId} {m : Nat} {cs : List Value} {x : DataW H × List MemPlace} (ht : P.underlying t = some (.slice e)) (hc : P.cellsOf e = a.size) (hb : 0 < P.bytesOf e) (hm : tyM P m a e = true)
    (h : DataW.trod enc P W 0 (fun _ => true) true fuel t cs = some x) (hw : ∀ k ∈ x.1.weights P t, k ≤ reachBytes) :
    ∃ (l : List (Val a)) (u : Value), cs = [u] ∧ u.oneCell' = true ∧ Rep (ghW W) (.sl a.size (l.map (encV a)) 1) u ∧ l.length < 2 ^ 62 ∧ ∀ v ∈ l, FitV a v := by
  rcases DataW.trod_slice ht h with ⟨rfl, rfl⟩ | ⟨ad, len, cap, elems, rest, n, rfl, rfl, rfl, _, hl, _, hlen, hel, _, _⟩
  · refine ⟨[], _, rfl, rfl, ?_, by simp, (by intro v hv; cases hv)⟩
    exact .sl _ _ _ none 0 0 0 0 (fun _ _ => undef) rfl (fun _ => Nat.le_refl _) (fun h => by omega) (by intro e he; cases he) (by intro e he; cases he) (Ty.size_pos a) (.inl rfl) (by intro i e j x hi; cases hi) (by intro i e j x hi; cases hi)
  · have hwt : (elems.length + rest.length) * P.bytesOf e ≤ reachBytes ∧ ∀ k ∈ DataW.weightsAll P e (elems.map (·.1)), k ≤ reachBytes := by
      simp only [DataW.weights, ht, List.length_map, List.mem_cons, List.mem_append] at hw
      exact ⟨hw _ (.inl rfl), fun k hk => hw k (.inr (.inl hk))⟩
    have each : ∀ i, i < len → ∃ (v : Val a) (us : List Value), RepL (ghW W) (encV a v) us ∧ (∀ u ∈ us, u.oneCell' = true) ∧ FitV a v ∧ (∀ j u, us[j]? = some u → W.cell? ((ad.add (i * a.size)).add j) = some u) := by
      intro i hi
      have h1 := hel i hi
      rw [List.getElem?_eq_getElem (by omega), hc, Option.bind_eq_some_iff] at h1
      obtain ⟨us, h2, h3⟩ := h1
      obtain ⟨q1, q2⟩ := cells_len h2
      obtain ⟨v, g1, g2, g3⟩ := hA n (Nat.lt_succ_self _) m a e us _ hm h3 fun k hk => hwt.2 k (weightsAll_mem (List.mem_map_of_mem (List.getElem_mem _)) k hk)
      exact ⟨v, us, g1, g2, g3, q2⟩
    by_cases h0 : len = 0
    · subst h0
      refine ⟨[], _, rfl, rfl, ?_, by simp, (by intro v hv; cases hv)⟩
      exact .sl _ _ _ _ 0 cap 0 0 (fun _ _ => undef) rfl (fun _ => hl) (fun h => by omega) (by intro e he; cases he) (by intro e he; cases he) (Ty.size_pos a) (.inl rfl) (by intro i e j x hi; cases hi) (by intro i e j x hi; cases hi)
    -- the address
    obtain ⟨b, o, rfl⟩ : ∃ b o, ad = ⟨b, o, none⟩ := by
      obtain ⟨v, us, g1, _, _, g4⟩ := each 0 (by omega)
      have hl1 : us.length = a.size := by rw [g1.len]; exact encV_len a v
      have hp := Ty.size_pos a
      have h1 := g4 0 _ (List.getElem?_eq_getElem (by omega))
      rw [Nat.zero_mul] at h1
      have e1 : (ad.add 0).add 0 = ad := rfl
      rw [e1] at h1
      obtain ⟨b, o, sp⟩ := ad
      unfold World.cell? at h1
      split at h1
      · split at h1
        · cases h1
        · rename_i hs
          cases sp with
          | none => exact ⟨b, o, rfl⟩
          | some s => simp at hs
      · cases h1
    obtain ⟨vv, uu, hvu⟩ := choice_lt (by omega : 0 < len) each
    have w1 := fun i hi => (hvu i hi).1
    have w2 := fun i hi => (hvu i hi).2.1
    have w3 := fun i hi => (hvu i hi).2.2.1
    have w4 := fun i hi => (hvu i hi).2.2.2
    have hget : ∀ i, i < len → ((List.range len).map vv)[i]? = some (vv i) := fun i hi => by rw [List.getElem?_map, List.getElem?_range hi]; rfl
    have hcell : ∀ (i : Nat) (e' : List AV) (j : Nat) (y : AV), (((List.range len).map vv).map (encV a))[i]? = some e' → e'[j]? = some y → i < len ∧ ∃ u, (uu i)[j]? = some u ∧ Rep (ghW W) y u ∧ (ghW W).mem b (o + i * a.size + j) = some u := by
      intro i e' j y h1 h2
      have hi : i < len := by have := getElem?_lt h1; simpa using this
      rw [List.getElem?_map, hget i hi] at h1
      cases h1
      obtain ⟨u, q1, q2⟩ := (w1 i hi).get h2
      refine ⟨hi, u, q1, q2, ghW_mem.2 ⟨?_, w2 i hi u (List.mem_of_getElem? q1)⟩⟩
      have := w4 i hi j u q1
      rw [addr_add', addr_add'] at this
      exact this
    refine ⟨(List.range len).map vv, _, rfl, rfl, ?_, ?_, ?_⟩
    · refine .sl _ _ _ _ len cap b o (fun i j => (uu i).getD j undef) (by simp) (fun _ => hl) (fun h => by omega) ?_ ?_ (Ty.size_pos a) (.inr rfl) ?_ ?_
      · intro e' he
        obtain ⟨v, _, rfl⟩ := List.mem_map.1 he
        exact encV_len a v
      · intro e' he
        obtain ⟨v, _, rfl⟩ := List.mem_map.1 he
        exact encV_plain a v
      · intro i e' j y h1 h2
        obtain ⟨_, u, q1, q2, q3⟩ := hcell i e' j y h1 h2
        rw [List.getD_eq_getElem?_getD, q1]; exact q3
      · intro i e' j y h1 h2
        obtain ⟨_, u, q1, q2, q3⟩ := hcell i e' j y h1 h2
        rw [List.getD_eq_getElem?_getD, q1]; exact q2
    · rw [List.length_map, List.length_range, ← hlen]
      refine reach_62 (k := P.bytesOf e) (Nat.le_trans (Nat.mul_le_mul_right _ ?_) hwt.1) hb
      omega
    · intro v hv
      obtain ⟨i, hi, rfl⟩ := List.mem_map.1 hv
      exact w3 i (List.mem_range.1 hi)
/-- The fields of a struct. -/
theorem fields_val {fuel : Nat} (hA : ValAt enc P W fuel) : ∀ (n : Nat) (τ : Ty) (off : Nat) (fs : List Field) (cs : List Value) (xs : List (DataW H × List MemPlace)), fsM P n τ off fs = true → xs.length = fs.length →
    (∀ (i : Nat) (f : Field), fs[i]? = some f → DataW.trod enc P W 0 (fun _ => true) true fuel f.type ((cs.drop f.offset).take (P.cellsOf f.type)) = xs[i]?) → (∀ k ∈ DataW.weightsEach P (fs.map (·.type)) (xs.map (·.1)), k ≤ reachBytes) → off + τ.size ≤ cs.length →
    ∃ v : Val τ, RepL (ghW W) (encV τ v) ((cs.drop off).take τ.size) ∧ (∀ u ∈ (cs.drop off).take τ.size, u.oneCell' = true) ∧ FitV τ v := by
  intro n
  induction n with
  | zero => intro τ off fs cs xs h; simp [fsM] at h
  | succ n ih =>
    intro τ off fs cs xs h hl hx hw hlen
    have one : ∀ f x, fs = [f] → xs = [x] → (decide (f.offset = off) && decide (P.cellsOf f.type = τ.size) && tyM P n τ f.type) = true → ∃ v : Val τ, RepL (ghW W) (encV τ v) ((cs.drop off).take τ.size) ∧ (∀ u ∈ (cs.drop off).take τ.size, u.oneCell' = true) ∧ FitV τ v := by
      intro f x hf hxs h
      simp only [Bool.and_eq_true, decide_eq_true_eq] at h
      obtain ⟨⟨h1, h2⟩, h3⟩ := h
      subst hf; subst hxs
      have h4 := hx 0 f rfl
      rw [h1, h2] at h4
      exact hA n τ f.type _ x h3 h4 fun k hk => hw k (by simp only [List.map_cons, List.map_nil, DataW.weightsEach, List.append_nil]; exact hk)
    cases fs with
    | nil => cases τ <;> simp [fsM] at h
    | cons f r =>
      cases xs with
      | nil => simp at hl
      | cons x xs =>
        cases r with
        | nil =>
          have hxn : xs = [] := List.eq_nil_of_length_eq_zero (by simpa using hl)
          subst hxn
          refine one f x rfl rfl ?_
          cases τ <;> exact h
        | cons g r =>
          cases τ with
          | pair a b =>
            simp only [fsM, Bool.and_eq_true, decide_eq_true_eq] at h
            obtain ⟨⟨⟨h1, h2⟩, h3⟩, h4⟩ := h
            have h5 := hx 0 f rfl
            rw [h1, h2] at h5
            have hsz : off + (a.size + b.size) ≤ cs.length := hlen
            simp only [List.map_cons, DataW.weightsEach, List.mem_append] at hw
            obtain ⟨v, v1, v2, v3⟩ := hA n a f.type _ x h3 h5 fun k hk => hw k (.inl hk)
            obtain ⟨v', v1', v2', v3'⟩ := ih b (off + a.size) (g :: r) cs xs h4 (by simpa using hl) (fun i f' hf' => hx (i + 1) f' hf') (fun k hk => hw k (.inr hk)) (by omega)
            have e : (cs.drop off).take (a.size + b.size) = (cs.drop off).take a.size ++ (cs.drop (off + a.size)).take b.size := by
              rw [List.take_add, List.drop_drop]
            refine ⟨(v, v'), ?_, ?_, v3, v3'⟩
            · show RepL _ (encV a v ++ encV b v') ((cs.drop off).take (a.size + b.size))
              rw [e]; exact v1.append v1'
            · show ∀ u ∈ (cs.drop off).take (a.size + b.size), _
              rw [e]
              intro u hu
              exact (List.mem_append.1 hu).elim (v2 u) (v2' u)
          | _ => simp [fsM] at h
theorem rep_int {Γ : Gh} (k : IntKind) (n : Int) : RepL Γ (encV (.int k) n) [.int k n] := rep1 (.v _ rfl)
theorem trod_val : ∀ fuel, ValAt enc P W fuel := by
  intro fuel
  induction fuel using Nat.strongRecOn with
  | ind fuel ihA =>
    have ints : ∀ {k : IntKind} {t : TypeId} {cs : List Value} {x : DataW H × List MemPlace} {f : Nat}, P.underlying t = some (.int k) → DataW.trod enc P W 0 (fun _ => true) true f t cs = some x → ∃ n : Int, cs = [.int k n] ∧ k.min ≤ n ∧ n ≤ k.max := by
      intro k t cs x f ht h
      obtain ⟨n, rfl, _, hwf⟩ := DataW.trod_int ht h
      simp only [Lit.wf, Bool.and_eq_true, decide_eq_true_eq] at hwf
      exact ⟨n, rfl, hwf⟩
    have strs : ∀ {t : TypeId} {cs : List Value} {x : DataW H × List MemPlace} {f : Nat}, P.underlying t = some .string → DataW.trod enc P W 0 (fun _ => true) true f t cs = some x → (∀ k ∈ x.1.weights P t, k ≤ reachBytes) → ∃ s : ByteArray, cs = [.string s] ∧ s.data.toList.length < 2 ^ 62 := by
      intro t cs x f ht h hw
      obtain ⟨s, rfl, rfl, _⟩ := DataW.trod_string ht h
      refine ⟨s, rfl, ?_⟩
      have := hw s.data.toList.length (by simp [DataW.weights])
      exact reach_62 (k := 1) (by omega) (by decide)
    intro n τ t cs x hm h hw
    cases n with
    | zero => cases τ <;> simp [tyM] at hm
    | succ n =>
    cases τ with
    | int k =>
      simp only [tyM] at hm
      split at hm
      · rename_i k' ht
        simp only [Bool.and_eq_true, decide_eq_true_eq] at hm
        obtain ⟨rfl, _⟩ := hm
        obtain ⟨i, rfl, h1, h2⟩ := ints ht h
        exact ⟨i, rep_int _ _, by intro u hu; rw [List.mem_singleton.1 hu]; rfl, h1, h2⟩
      · cases hm
    | bool =>
      simp only [tyM] at hm
      split at hm
      · rename_i ht
        obtain ⟨b, rfl, _⟩ := DataW.trod_bool ht h
        exact ⟨b, rep1 (.v _ rfl), by intro u hu; rw [List.mem_singleton.1 hu]; rfl, trivial⟩
      · cases hm
    | str =>
      simp only [tyM] at hm
      split at hm
      · rename_i ht
        obtain ⟨s, rfl, h1⟩ := strs ht h hw
        refine ⟨s.data.toList, ?_, by intro u hu; rw [List.mem_singleton.1 hu]; rfl, h1⟩
        exact rep1 (.v _ rfl)
      · cases hm
    | list a =>
      simp only [tyM] at hm
      split at hm
      · rename_i e ht
        simp only [Bool.and_eq_true, decide_eq_true_eq] at hm
        obtain ⟨⟨⟨_, hc⟩, hb⟩, hm⟩ := hm
        obtain ⟨l, u, rfl, h1, h2, h3, h4⟩ := slice_val (fun f hf => ihA f hf) ht hc hb hm h hw
        exact ⟨l, rep1 h2, by intro u' hu; rw [List.mem_singleton.1 hu]; exact h1, h3, h4⟩
      · cases hm
    | pair a b =>
      simp only [tyM] at hm
      split at hm
      · rename_i fs ht
        simp only [Bool.and_eq_true, decide_eq_true_eq] at hm
        obtain ⟨hc, hm⟩ := hm
        obtain ⟨xs, f, rfl, rfl, h1, h2, h3⟩ := DataW.trod_struct ht h
        have hsz : (Ty.pair a b).size = a.size + b.size := rfl
        obtain ⟨v, v1, v2, v3⟩ := fields_val (ihA f (Nat.lt_succ_self _)) n (.pair a b) 0 fs.toList cs xs hm (by simpa using h2) (fun i g hg => h3 i g (by simpa using hg)) (by simpa [DataW.weights, ht] using hw) (by rw [h1, hc, hsz]; omega)
        rw [List.drop_zero, List.take_of_length_le (by rw [h1, hc, hsz]; exact Nat.le_refl _)] at v1 v2
        exact ⟨v, v1, v2, v3⟩
      · cases hm
    | one a =>
      simp only [tyM] at hm
      split at hm
      · rename_i fs ht
        simp only [Bool.and_eq_true, decide_eq_true_eq] at hm
        obtain ⟨hc, hm⟩ := hm
        obtain ⟨xs, f, rfl, rfl, h1, h2, h3⟩ := DataW.trod_struct ht h
        obtain ⟨v, v1, v2, v3⟩ := fields_val (ihA f (Nat.lt_succ_self _)) n a 0 fs.toList cs xs hm (by simpa using h2) (fun i g hg => h3 i g (by simpa using hg)) (by simpa [DataW.weights, ht] using hw) (by rw [h1, hc]; omega)
        rw [List.drop_zero, List.take_of_length_le (by rw [h1, hc]; exact Nat.le_refl _)] at v1 v2
        exact ⟨v, v1, v2, v3⟩
      · cases hm
    | term =>
      have hm0 := hm
      simp only [tyM] at hm
      cases n with
      | zero => simp [termM] at hm
      | succ n =>
      simp only [termM] at hm
      split at hm
      case h_2 => cases hm
      rename_i fs ht
      split at hm
      case h_2 => cases hm
      rename_i f0 f1 f2 f3 hfs
      simp only [Bool.and_eq_true, decide_eq_true_eq] at hm
      obtain ⟨⟨⟨⟨⟨⟨⟨⟨⟨hc, o0⟩, o1⟩, o2⟩, o3⟩, hc3⟩, m0⟩, m1⟩, m2⟩, m3⟩ := hm
      split at m3
      case h_2 => cases m3
      rename_i e ht3
      simp only [Bool.and_eq_true, decide_eq_true_eq] at m3
      obtain ⟨rfl, hb⟩ := m3
      obtain ⟨xs, f, rfl, rfl, h1, h2, h3⟩ := DataW.trod_struct ht h
      have hsz : fs.size = 4 := by rw [← Array.length_toList, hfs]; rfl
      rw [hsz] at h2
      rw [hc] at h1
      obtain ⟨c0, c1, c2, c3, rfl⟩ : ∃ c0 c1 c2 c3, cs = [c0, c1, c2, c3] := by
        match cs, h1 with
        | [a, b, c, d], _ => exact ⟨a, b, c, d, rfl⟩
      obtain ⟨x0, x1, x2, x3, rfl⟩ : ∃ x0 x1 x2 x3, xs = [x0, x1, x2, x3] := by
        match xs, h2 with
        | [a, b, c, d], _ => exact ⟨a, b, c, d, rfl⟩
      have fg : ∀ i g, [f0, f1, f2, f3][i]? = some g → fs[i]? = some g := fun i g hg => by rw [← hfs, Array.getElem?_toList] at hg; exact hg
      have s0 := h3 0 f0 (fg 0 _ rfl)
      have s1 := h3 1 f1 (fg 1 _ rfl)
      have s2 := h3 2 f2 (fg 2 _ rfl)
      have s3 := h3 3 f3 (fg 3 _ rfl)
      have cOf : ∀ {τ : Ty} {t : TypeId}, (∃ k, τ = .int k) ∨ τ = .str → tyM P n τ t = true → P.cellsOf t = 1 := by
        intro τ t hτ hm
        cases n with
        | zero => cases τ <;> simp [tyM] at hm
        | succ n =>
          rcases hτ with ⟨k, rfl⟩ | rfl
          · simp only [tyM] at hm
            split at hm
            · simp only [Bool.and_eq_true, decide_eq_true_eq] at hm; exact hm.2
            · cases hm
          · simp only [tyM] at hm
            split at hm
            · exact of_decide_eq_true hm
            · cases hm
      have uInt : ∀ {k : IntKind} {t : TypeId}, tyM P n (.int k) t = true → P.underlying t = some (.int k) := by
        intro k t hm
        cases n with
        | zero => simp [tyM] at hm
        | succ n =>
          simp only [tyM] at hm
          split at hm
          · rename_i k' ht
            simp only [Bool.and_eq_true, decide_eq_true_eq] at hm
            rw [ht, hm.1]
          · cases hm
      have uStr : ∀ {t : TypeId}, tyM P n .str t = true → P.underlying t = some .string := by
        intro t hm
        cases n with
        | zero => simp [tyM] at hm
        | succ n =>
          simp only [tyM] at hm
          split at hm
          · assumption
          · cases hm
      rw [o0, cOf (.inl ⟨_, rfl⟩) m0] at s0
      rw [o1, cOf (.inr rfl) m1] at s1
      rw [o2, cOf (.inl ⟨_, rfl⟩) m2] at s2
      rw [o3, hc3] at s3
      have hwE : ∀ k ∈ DataW.weightsEach P [f0.type, f1.type, f2.type, f3.type] [x0.1, x1.1, x2.1, x3.1], k ≤ reachBytes := by
        intro k hk
        refine hw k ?_
        simp only [DataW.weights, ht, hfs]
        exact hk
      simp only [DataW.weightsEach, List.mem_append] at hwE
      obtain ⟨i0, e0, _, _⟩ := ints (uInt m0) (f := f) (x := x0) s0
      obtain ⟨i1, e1, b1⟩ := strs (uStr m1) (f := f) (x := x1) s1 fun k hk => hwE k (.inr (.inl hk))
      obtain ⟨i2, e2, _, _⟩ := ints (uInt m2) (f := f) (x := x2) s2
      obtain ⟨l, u, e3, b3, r3, l3, v3⟩ := slice_val (a := .term) (fun g hg => ihA g (Nat.lt_succ_of_lt hg)) ht3 hc hb hm0 s3 fun k hk => hwE k (.inr (.inr (.inr (.inl hk))))
      have g0 : c0 = .int .i64 i0 := by simpa using e0
      have g1 : c1 = .string i1 := by simpa using e1
      have g2 : c2 = .int .i64 i2 := by simpa using e2
      have g3 : c3 = u := by simpa using e3
      subst g0; subst g1; subst g2; subst g3
      refine ⟨.mk i0 i1.data.toList i2 l, ?_, ?_, (fitT_eq _).2 ⟨l3, b1, v3⟩⟩
      · show RepL _ (encT1 _) _
        rw [encT1, encL1_eq]
        exact RepL.cons (.v _ rfl) (RepL.cons (.v _ rfl) (RepL.cons (.v _ rfl) (rep1 r3)))
      · intro u hu
        simp only [List.mem_cons, List.not_mem_nil, or_false] at hu
        rcases hu with rfl | rfl | rfl | rfl
        · rfl
        · rfl
        · rfl
        · exact b3
end
end Go.AmYtmodnblfcikjlaa
namespace Go.GxYtmodnblfcikjlaa
open Go.RowKit Go.ChangeShapes Go.WideShapes Go.ChangeAt
open Go.WideMaps Go.WideElems
section
variable {H : Type} {enc : TypeId × Value → H} {P : Program}

theorem trodAll_below (hl : laidOutB P = true) {W W' : World} (hb : Below W.heap.size W W') : ∀ {ts : List TypeId} {vs : List Value} {ds : List (DataW H)} {ps : List MemPlace},
    (∀ t ∈ ts, P.readableRec t = true ∧ t < P.types.size) → DataW.TrodAll enc P W 0 (fun _ => true) true ts vs ds ps → (∀ x ∈ ps, x.block < W.heap.size) →
    DataW.TrodAll enc P W' 0 (fun b => decide (b < W.heap.size)) true ts vs ds ps
  | [], [], [], _, _, h, _ => h
  | t :: ts, v :: vs, d :: ds, _, hr, ⟨p, q, h1, h2, he⟩, hlt => by
    subst he
    refine ⟨p, q, ?_, ?_, rfl⟩
    · exact Below.trod hl (hr t (List.mem_cons_self ..)).1 (hr t (List.mem_cons_self ..)).2 h1 hb fun x hx => hlt x (List.mem_append_left _ hx)
    · exact trodAll_below hl hb (fun t ht => hr t (List.mem_cons_of_mem _ ht)) h2 fun x hx => hlt x (List.mem_append_right _ hx)
  | [], [], _ :: _, _, _, h, _ => h.elim
  | [], _ :: _, _, _, _, h, _ => h.elim
  | _ :: _, [], _, _, _, h, _ => h.elim
  | _ :: _, _ :: _, [], _, _, h, _ => h.elim

theorem law_post {f : Func} {s : ChangeSpec} {apart fresh handsOn : Bool} {W W' : World} {args : Array Value} {ds gs : List (DataW H)} {before : List MemPlace} {ts : List TypeId} {T : TypeId}
    (hl : laidOutB P = true) (hts : f.params.toList = ts) (hr : ts.all (fun t => P.readableRec t && decide (t < P.types.size)) = true) (hv : s.vars = [])
    (hrt : f.resultTypes = #[T]) (hT : P.underlying T = some .bool)
    (hW : DataW.Whole enc P f.params.toList s.vars apart W args.toList ds gs before)
    (hres : (s.fn H (ds ++ gs)).results = [.lit (.bool true)]) (hargs : (s.fn H (ds ++ gs)).args = ds) (hvs : (s.fn H (ds ++ gs)).vars = [])
    (hb : Below W.heap.size W W') : s.post enc P f apart fresh handsOn false W args (.bool true) W' := by
  have hW' := hW
  have hlt := fun x hx => hW'.lt x hx
  obtain ⟨p, q, hA, hV, rfl, hfz, hnd⟩ := hW
  rw [hv] at hV
  have hgs : gs = [] ∧ q = [] := trodVars_none hV
  obtain ⟨rfl, rfl⟩ := hgs
  rw [List.append_nil] at *
  refine ⟨ds, [], p, [], p, [], ?_, ?_, ?_, ?_, ?_, fun h => by cases h⟩
  · exact hW'
  · rw [hrt, List.append_nil, hres]
    exact trodAll_mk1 (shut_bool hT _)
  · rw [List.append_nil, hargs]
    refine trodAll_below hl hb (ts := f.params.toList) ?_ hA hlt
    intro t ht
    rw [hts] at ht
    have := List.all_eq_true.1 hr t ht
    simpa using this
  · rw [List.append_nil, hvs, hv]
    rfl
  · exact hb.frame _
end
end Go.GxYtmodnblfcikjlaa
namespace Go.Proofs.Ytmodnblfcikjlaa
theorem Try.own : ownKnob Try.prog.godebug = none := by kernel_rfl
theorem Try.laidOut : laidOutB Try.prog = true := by kernel_rfl
theorem u64_of_wf {x : Int} (h : (Lit.int .u64 x).wf = true) : 0 ≤ x ∧ x < 18446744073709551616 := by
  simp [Lit.wf, IntKind.min, IntKind.max, IntKind.signed, IntKind.bits] at h
  omega
theorem u16_of_wf {x : Int} (h : (Lit.int .u16 x).wf = true) : 0 ≤ x ∧ x < 65536 := by
  simp [Lit.wf, IntKind.min, IntKind.max, IntKind.signed, IntKind.bits] at h
  omega
theorem u8_of_wf {x : Int} (h : (Lit.int .u8 x).wf = true) : 0 ≤ x ∧ x < 256 := by
  simp [Lit.wf, IntKind.min, IntKind.max, IntKind.signed, IntKind.bits] at h
  omega
end Go.Proofs.Ytmodnblfcikjlaa
namespace Go.AmYtmodnblfcikjlaa
open Go Go.GxYtmodnblfcikjlaa Go.RowKit

theorem dpack_enc : ∀ (τ : Ty) (v : Val τ), dpackV τ (encA τ v) = some v := by
  intro τ v
  have h := decV_enc τ v
  cases τ <;> exact h
def allVal : List ATy → Bool
  | [] => true
  | .val _ :: r => allVal r
  | .fn :: _ => false
theorem dparse_encAs : ∀ (ts : List ATy) (a : ArgsV ts), allVal ts = true → dparseA ts (encAs ts a []) = some a ∧ fnsA (encAs ts a []) = []
  | [], _, _ => ⟨rfl, rfl⟩
  | .val τ :: r, a, h => by
    obtain ⟨h1, h2⟩ := dparse_encAs r a.2 h
    constructor
    · show pVal (dpackV τ) (dparseA r) (encA τ a.1 :: encAs r a.2 []) = _
      simp only [pVal, dpack_enc, h1]
    · show fnsA (encA τ a.1 :: encAs r a.2 []) = []
      have := (dpackV_plain (dpack_enc τ a.1)).2
      cases hx : encA τ a.1 <;> first | exact h2 | exact absurd hx (this _ _)
  | .fn :: _, _, h => by cases h
/-- A law that answers true. -/
theorem law_calls {P : Program} {f : FuncId} {c : TC} (hp : PrimOk P f (pureP (sigP c f))) {ts : List ATy} {fn : ArgsV ts → Option (ResV [.bool])} (hg : c.pf f [] = some ⟨ts, [.bool], fn⟩) (ht : allVal ts = true) {a : ArgsV ts} (hv : fn a = some true)
    {W : World} {vals : List Value} (hr : RepL (ghW W) (encAs ts a []) vals) : Calls P f vals.toArray W fun e w' => e = .returned (.bool true) ∧ Below W.heap.size W w' := by
  obtain ⟨h1, h2⟩ := dparse_encAs ts a ht
  have hs : sigP c f (encAs ts a []) = some (.v (.bool true)) := by
    unfold sigP
    rw [h2, hg]
    simp only
    rw [h1]
    simp only
    rw [hv]
    rfl
  have hpp : pureP (sigP c f) emp (encAs ts a []) = some (.v (.bool true), none) := by
    show (match sigP c f (encAs ts a []) with | some v => some (v, none) | none => none) = _
    rw [hs]
  have := hp.2 (ghW W) emp W (encAs ts a []) vals _ (ghW_inv W) hr hpp
  refine Calls.mono this ?_
  rintro e w' ⟨v, Γ', rfl, hx, _, hrv, _⟩
  have hv := v_inv hrv
  subst hv
  refine ⟨rfl, hx.os, hx.tape, hx.output, hx.size, fun b hb => hx.block b hb ?_⟩
  rintro (⟨i, hi, _⟩ | ⟨r, hr, _⟩)
  · exact absurd hi (Nat.not_lt_zero _)
  · exact absurd hr (Nat.not_lt_zero _)
theorem rep_of_cells {Γ : Gh} {τ : Ty} {x : Val τ} {v : Value} (h : RepL Γ (encV τ x) v.cells.toList) (h1 : ∀ u ∈ v.cells.toList, u.oneCell' = true) (hs : τ.agg = true → τ.size ≠ 1) (hna : τ.agg = false → ∀ cs, v ≠ .agg cs) : Rep Γ (encA τ x) v := by
  have hlen := h.len
  rw [encV_len] at hlen
  have agg : encA τ x = .agg (encV τ x) → τ.agg = true → Rep Γ (encA τ x) v := by
    intro he ha
    rw [he]
    have hne := hs ha
    cases v with
    | agg cs => exact .agg _ _ h.len h1 h.rep
    | _ => exact absurd (show τ.size = 1 by rw [← hlen]; rfl) hne
  have one : ∀ {y : AV}, encV τ x = [y] → encA τ x = y → τ.agg = false → Rep Γ (encA τ x) v := by
    intro y he hy ha
    have hc : v.cells = #[v] := by
      cases v with
      | agg cs => exact absurd rfl (hna ha cs)
      | _ => rfl
    rw [he, hc] at h
    rw [hy]
    exact h.rep 0 y v rfl rfl
  cases τ with
  | term => exact agg rfl rfl
  | pair a b => exact agg rfl rfl
  | one a => exact agg rfl rfl
  | _ => exact one rfl rfl rfl
open Go.ChangeShapes Go.WideShapes Go.ChangeAt Go.WideMaps Go.WideElems
theorem not_agg {P : Program} {n : Nat} {τ : Ty} {t : TypeId} {W : World} {base : Nat} {v : Value} (hm : tyM P n τ t = true) (hv : Value.okWide P W .any base t v) : τ.agg = false → ∀ cs, v ≠ .agg cs := by
  intro ha cs
  cases n with
  | zero => cases τ <;> simp [tyM] at hm
  | succ n =>
  cases τ with
  | int k =>
    simp only [tyM] at hm
    split at hm
    · rename_i ht; obtain ⟨_, rfl⟩ := okWide_int ht hv; intro h; cases h
    · cases hm
  | bool =>
    simp only [tyM] at hm
    split at hm
    · rename_i ht; obtain ⟨_, rfl⟩ := okWide_bool ht hv; intro h; cases h
    · cases hm
  | str =>
    simp only [tyM] at hm
    split at hm
    · rename_i ht; obtain ⟨_, rfl⟩ := okWide_string ht hv; intro h; cases h
    · cases hm
  | list a =>
    simp only [tyM] at hm
    split at hm
    · rename_i e ht; obtain ⟨_, _, _, rfl⟩ := okWide_slice ht hv; intro h; cases h
    · cases hm
  | _ => cases ha
/-- An argument, as a plain value. -/
theorem arg_val {H : Type} {enc : TypeId × Value → H} {P : Program} {W : World} {n : Nat} {τ : Ty} {t : TypeId} {v : Value} {d : DataW H} {ps : List MemPlace} {base : Nat} (hm : tyM P n τ t = true) (hs : τ.agg = true → τ.size ≠ 1) (hv : Value.okWide P W .any base t v)
    (h : DataW.Trod enc P W 0 (fun _ => true) true t v d ps) (hw : ∀ k ∈ d.weights P t, k ≤ reachBytes) : ∃ x : Val τ, Rep (ghW W) (encA τ x) v ∧ FitV τ x := by
  obtain ⟨fuel, hf⟩ := h
  obtain ⟨x, h1, h2, h3⟩ := trod_val fuel n τ t v.cells.toList (d, ps) hm hf hw
  exact ⟨x, rep_of_cells h1 h2 hs (not_agg hm hv), h3⟩
end Go.AmYtmodnblfcikjlaa
