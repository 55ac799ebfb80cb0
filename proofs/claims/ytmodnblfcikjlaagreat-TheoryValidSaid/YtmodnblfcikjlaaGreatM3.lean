/- Part 3 of what the proofs stand on: plain functions of the program, and that they are its functions. -/
import Derived.Test.YtmodnblfcikjlaaGreatM2
import Derived.KernelRfl
import Derived.Test.YtmodnblfcikjlaaGreatProg
import Derived.Test.YtmodnblfcikjlaaGreatM1
import Derived.Shelf.Small.Strs
import Derived.Laws.OwnMore
import Derived.OneCell
import Derived.Deep.DeepAppendRoom
import Derived.Deep.Onto
import Derived.ArgAppend
import Derived.Deep.RegionLaw
import Derived.Laws.CopyOwn
import Derived.Lib.AppendZerosOnto
import Derived.Lib.AppendZeros
import Derived.Lib.Overlaps
import Derived.Laws.Externs
import Derived.Deep.DeepCutAuto
import Derived.Handy
import Derived.IntWalk
set_option linter.unusedVariables false
set_option linter.unusedSimpArgs false
namespace Go.AmYtmodnblfcikjlaaGreat
open Go Go.RowKit Go.GxYtmodnblfcikjlaaGreat

section
variable {α : Type} {N : Nat × Nat} {m : Mp} {E : Env} {τ : TS} {tm : List AV} {σ : St} {K : KT α} {r : α} {p : Option (AV × Option St)} {c : TC} {C : Cfg}
theorem bin_sim {d : Option TD} {op : BinOp} {x y : TV} {x' y' : AV} {K' : TV → Option α} (hx : OK m x x') (hy : OK m y y') (h : binT d op x y K' = some r) :
    ∃ z v, K' z = some r ∧ OK m z (.v v) ∧ ((∃ a b, x' = .v (.bool a) ∧ y' = .v (.bool b) ∧ isBool d = true ∧ ((op = .eql ∧ v = .bool (beqB a b)) ∨ (op = .neq ∧ v = .bool (bnot (beqB a b))))) ∨ ∃ a b, x' = .v a ∧ y' = .v b ∧ (∀ p q, ¬ (a = .bool p ∧ b = .bool q)) ∧ binA op a b = some v) := by
  unfold binT at h
  split at h
  · rename_i k a k' b
    cases hx; cases hy
    split at h
    · obtain ⟨h1, h2⟩ := cond_some' h
      exact ⟨_, _, h2, rfl, .inr ⟨_, _, rfl, rfl, by simp, by simp only [binA, h1]⟩⟩
    · obtain ⟨h1, h2⟩ := cond_some' h
      exact ⟨_, _, h2, rfl, .inr ⟨_, _, rfl, rfl, by simp, by simp only [binA, h1]⟩⟩
    · rename_i n1 n2
      split at h <;> try cases h
      rename_i hk
      obtain ⟨z, v, h1, h2, h3⟩ := int_sim (m := m) h
      refine ⟨z, v, h1, h3, .inr ⟨_, _, rfl, rfl, by simp, ?_⟩⟩
      unfold binA
      cases op <;> first | (exact absurd rfl n1) | (exact absurd rfl n2) | (simp only [hk]; exact h2)
  · cases hx; cases hy
    obtain ⟨z, v, h1, h2, h3⟩ := str_sim (m := m) h
    exact ⟨z, v, h1, h3, .inr ⟨_, _, rfl, rfl, by simp, h2⟩⟩
  · cases hx; cases hy
    split at h <;> try cases h
    · rename_i hb
      exact ⟨_, _, h, rfl, .inl ⟨_, _, rfl, rfl, hb, .inl ⟨rfl, rfl⟩⟩⟩
    · rename_i hb
      exact ⟨_, _, h, rfl, .inl ⟨_, _, rfl, rfl, hb, .inr ⟨rfl, rfl⟩⟩⟩
  · cases h
theorem isBool_spec {d : Option TD} (h : isBool d = true) : ∃ a b c z, d = some ⟨a, b, c, z, .bool⟩ := by
  unfold isBool at h
  split at h
  · exact ⟨_, _, _, _, rfl⟩
  · cases h
theorem zip_keys (E : Env) (tm : List AV) (hr : Rel N m E τ tm σ) : ∀ l : List (Nat × Operand), (l.map fun p => (p.1, evT E p.2)).map (·.1) = (l.map fun p => (p.1, aev tm p.2)).map (·.1) ∧ OKL m ((l.map fun p => (p.1, evT E p.2)).map (·.2)) ((l.map fun p => (p.1, aev tm p.2)).map (·.2))
  | [] => ⟨rfl, rfl⟩
  | x :: l => ⟨by simp, ⟨_, _, rfl, hr.ev x.2, (zip_keys E tm hr l).2⟩⟩
theorem rpt_load (hr : Rel N m E τ tm σ) {id ver sv : Nat} {i : Int} {cs : List TV} {o : Nat} {y : AV} {R : TRow} (ho : OK m (.rpt id ver sv i cs o) y) (hR : τ.rw[id]? = some R) (h1 : R.ver = ver) (h2 : R.sv = sv) :
    (∃ r j ds Q, y = .rpt r j o Q.ver ∧ m.r id = some r ∧ i = ((j : Nat) : Int) ∧ σ.rw[r]? = some Q ∧ Q.c[j]? = some ds ∧ OKL m cs ds ∧ j < R.l.length ∧ Q.ver = m.v id ∧ Q.k = R.τ.size ∧ decLs (decV R.τ) Q.c = some R.l ∧ Q.fz ≤ Q.c.length ∧ (R.sh = false → Q.fz = 0)) ∨
    ∃ ds, y = .ept ds o ∧ OKL m cs ds ∧ R.sh = true := by
  obtain ⟨R', g1, _, _, _, g2⟩ := ho
  rw [hr.rw, hR] at g1; cases g1
  have := hr.rows id R (by rw [hr.rw]; exact hR)
  rcases g2 h1 h2 with ⟨r, j, ds, k1, k2, k0, k3, k4, k5⟩ | ⟨ds, k1, k2, k3, k4⟩
  · rw [k1] at this
    obtain ⟨Q, q1, q2, q3, q4, q5, q6, q7⟩ := this
    exact .inl ⟨r, j, ds, Q, by rw [q3]; exact k2, k1, k0, q1, by rw [q2]; exact k4, k5, k3, q3, q4, q5, q6, q7⟩
  · rw [k1] at this
    refine .inr ⟨ds, k2, k4, ?_⟩
    cases hs : R.sh with
    | true => rfl
    | false =>
      have hl := this hs
      rw [hl] at k3
      exact absurd k3 (Nat.lt_irrefl 0)
theorem all_zip {β : Type} (f : β → AV) : ∀ (l : List (Nat × β)) (n : Nat), ((l.zipIdx n).all fun p => decide (p.1.1 = p.2)) = true → (∀ q ∈ l, True) → ∀ P : AV → Bool, (∀ q ∈ l, P (f q.2) = true) →
    (((l.map fun p => (p.1, f p.2)).zipIdx n).all fun p => decide (p.1.1 = p.2) && P p.1.2) = true
  | [], n, _, _, P, _ => rfl
  | a :: l, n, h, _, P, hP => by
    simp only [List.zipIdx_cons, List.all_cons, Bool.and_eq_true, List.map_cons] at h ⊢
    exact ⟨⟨h.1, hP a (List.mem_cons_self ..)⟩, all_zip f l (n + 1) h.2 (fun _ _ => trivial) P fun q hq => hP q (List.mem_cons_of_mem _ hq)⟩
theorem packL_cells (hq : RowsOK m σ) {a : Ty} {E : Env} {tm : List AV} (hr : Rel N m E τ tm σ) : ∀ {l : List (Nat × Operand)} {vs : List (Val a)}, packL m.rw a (l.map fun p => evT E p.2) = some vs →
    ∀ p ∈ l, (cellsOf (aev tm p.2)).length = a.size ∧ ((cellsOf (aev tm p.2)).all fun x => plainC (purC σ.rw x)) = true
  | [], vs, h, p, hp => by cases hp
  | q :: l, vs, h, p, hp => by
    simp only [List.map_cons, packL] at h
    split at h <;> try cases h
    rename_i v hv
    split at h <;> cases h
    rename_i hvs
    rcases List.mem_cons.1 hp with rfl | hp
    · have := (pack_ok hq hv (hr.ev p.2)).2
      obtain ⟨pre, h1, h2, h3, _⟩ := dparse_spec a (full_some.1 this)
      rw [List.append_nil] at h1
      refine ⟨by rw [← h2, ← h1, List.length_map], ?_⟩
      rw [List.all_eq_true]
      intro x hx
      exact h3 _ (by rw [← h1]; exact List.mem_map_of_mem hx)
    · exact packL_cells hq hr hvs p hp
theorem lsub_str (y : List UInt8) (l h : Int) : (⟨(lsub y l h).toArray⟩ : ByteArray) = xsub ⟨y.toArray⟩ l.toNat h.toNat := by
  unfold lsub xsub
  rw [ByteArray.ext_iff]
  simp [ByteArray.data_extract, List.drop_take]
theorem noRs1_cells {x : TV} {y : AV} (h : OK m x y) (hc : (cellsT x).all noRs1 = true) : OKL m (cellsT x) (cellsOf y) ∧ (cellsOf y).all isC = true ∧ ∀ z ∈ cellsOf y, rsC z = [] := by
  have hct : (cellsT x).all isCT = true := by
    rw [List.all_eq_true] at hc ⊢
    intro z hz
    have := hc z hz
    cases z <;> first | rfl | (cases this)
  obtain ⟨g1, g2⟩ := h.cells hct
  refine ⟨g1, g2, fun z hz => ?_⟩
  have := noRs1s_ok g1 hc
  rw [List.flatMap_eq_nil_iff] at this
  exact this z hz
theorem plain_pur {y : AV} (h : rsC y = []) (hp : plainC (purC σ.rw y) = true) : plainC y = true := by
  cases y <;> first | rfl | exact hp | (simp [rsC] at h)
theorem opEq_ev {tm : List AV} {a b : Operand} (h : opEq a b = true) : aev tm a = aev tm b := by
  unfold opEq at h
  split at h
  · rw [Nat.eq_of_beq_eq_true h]
  · simp only [Bool.and_eq_true, decide_eq_true_eq] at h
    rw [h.1, h.2]
  · cases h
/-- Cells that tell the same. -/
def LvE (x y : AV) : Prop := x = y ∨ ∃ k es n n', x = .sl k es (n + 1) ∧ y = .sl k es (n' + 1)
inductive LvL : List AV → List AV → Prop
  | nil : LvL [] []
  | cons {x y : AV} {xs ys : List AV} : LvE x y → LvL xs ys → LvL (x :: xs) (y :: ys)
theorem LvE.v {x : Value} {y : AV} (h : LvE (.v x) y) : y = .v x := by
  rcases h with rfl | ⟨_, _, _, _, h, _⟩
  · rfl
  · cases h
theorem LvE.dlist {a : Ty} {x y : AV} (h : LvE x y) {l : List (Val a)} (hl : dlist a x = some l) : dlist a y = some l := by
  rcases h with rfl | ⟨_, _, _, _, rfl, rfl⟩
  · exact hl
  · exact hl
theorem dparse_lv : ∀ (a : Ty) {cs cs' : List AV} {v : Val a} {r : List AV}, LvL cs cs' → dparse a cs = some (v, r) → ∃ r', LvL r r' ∧ dparse a cs' = some (v, r')
  | .int k, cs, cs', v, r, hL, h => by
    change dInt k cs = _ at h
    unfold dInt at h
    split at h <;> try cases h
    split at h <;> cases h
    rename_i hk
    cases hL with
    | cons h1 h2 =>
      have := h1.v
      subst this
      exact ⟨_, h2, by show dInt _ _ = _; simp only [dInt, hk]⟩
  | .bool, cs, cs', v, r, hL, h => by
    change dBool cs = _ at h
    unfold dBool at h
    split at h <;> cases h
    cases hL with
    | cons h1 h2 =>
      have := h1.v
      subst this
      exact ⟨_, h2, rfl⟩
  | .str, cs, cs', v, r, hL, h => by
    change dStr cs = _ at h
    unfold dStr at h
    split at h <;> cases h
    cases hL with
    | cons h1 h2 =>
      have := h1.v
      subst this
      exact ⟨_, h2, rfl⟩
  | .term, cs, cs', v, r, hL, h => by
    change dTerm cs = _ at h
    unfold dTerm at h
    split at h <;> try cases h
    split at h <;> cases h
    rename_i hd
    obtain ⟨k, n, s, x, l, he, h1, rfl⟩ := decT1_inv hd
    cases he
    cases hL with
    | cons a1 hL => cases hL with
      | cons a2 hL => cases hL with
        | cons a3 hL => cases hL with
          | cons a4 hL =>
            have := a1.v; subst this
            have := a2.v; subst this
            have := a3.v; subst this
            rw [← dlist_term] at h1
            have h1 := a4.dlist h1
            rw [dlist_term] at h1
            exact ⟨_, hL, by show dTerm _ = _; simp only [dTerm, decT1, h1]⟩
  | .list a, cs, cs', v, r, hL, h => by
    change dLst _ cs = _ at h
    unfold dLst at h
    split at h <;> try cases h
    split at h <;> cases h
    rename_i hd
    cases hL with
    | cons h1 h2 =>
      have hd : dlist a _ = some v := hd
      have hd : decList a.size (fun e => full (dparse a e)) _ = some v := h1.dlist hd
      exact ⟨_, h2, by show dLst _ _ = _; simp only [dLst, hd]⟩
  | .pair a b, cs, cs', v, r, hL, h => by
    obtain ⟨r1, h1, h2⟩ := pPair_some.1 h
    obtain ⟨r1', g1, g2⟩ := dparse_lv a hL h1
    obtain ⟨r2', g3, g4⟩ := dparse_lv b g1 h2
    exact ⟨r2', g3, pPair_some.2 ⟨_, g2, g4⟩⟩
  | .one a, cs, cs', v, r, hL, h => dparse_lv a hL h
theorem lv_pur : ∀ {cs : List AV}, (∀ y ∈ cs, plainC y = true) → LvL (cs.map (purC σ.rw)) cs
  | [], _ => .nil
  | y :: cs, h => by
    refine .cons ?_ (lv_pur fun z hz => h z (List.mem_cons_of_mem _ hz))
    have := h y (List.mem_cons_self ..)
    cases y with
    | v x => exact .inl rfl
    | sl k es f =>
      cases f with
      | zero => exact .inl rfl
      | succ f => exact .inr ⟨k, es, 0, f, rfl, rfl⟩
    | _ => cases this
theorem decV_pur {a : Ty} {cs : List AV} {v : Val a} (hp : ∀ y ∈ cs, plainC y = true) (h : decV a (cs.map (purC σ.rw)) = some v) : decV a cs = some v := by
  obtain ⟨rs, h1, h3⟩ := dparse_lv a (lv_pur hp) (full_some.1 h)
  cases h1
  exact full_some.2 h3
/-- What the typed machine does the plain machine does. -/
theorem step_sim {op : Op} (hty : C.ty = c.ty) (hr : Rel N m E τ tm σ) (h : stepT c E τ op K = some r) : Sim N m E τ tm σ K r (stepOp C tm σ op) := by
  cases op with
  | move x => exact .same hr h rfl (hr.ev x)
  | assign x => exact .same hr h rfl (hr.ev x)
  | pick x a b =>
    simp only [stepT] at h
    split at h <;> try cases h
    rename_i y hy
    have hx := hr.ev x
    rw [hy] at hx
    cases y with
    | true => exact .same hr h (by simp only [stepOp, show aev tm x = _ from hx]) (hr.ev a)
    | false => exact .same hr h (by simp only [stepOp, show aev tm x = _ from hx]) (hr.ev b)
  | alloc e =>
    simp only [stepT] at h
    split at h <;> try cases h
    rename_i d hd
    split at h <;> try cases h
    rename_i hz
    obtain ⟨m', h1, h2, h3⟩ := hr.alloc (ofBases_ok (m := m) hz)
    exact .to h (by simp only [stepOp, hty, hd, hz]) h1 h2 h3
  | box e x =>
    simp only [stepT] at h
    split at h <;> try cases h
    rename_i d hd
    split at h <;> try cases h
    rename_i hz
    obtain ⟨g1, g2⟩ := (hr.ev x).cells hz
    obtain ⟨m', h1, h2, h3⟩ := hr.alloc g1
    exact .to h (by simp only [stepOp, hty, hd, g2]) h1 h2 h3
  | build t parts =>
    simp only [stepT] at h
    split at h <;> try cases h
    rename_i _ _ _ z fs hd
    split at h <;> try cases h
    rename_i hz
    split at h <;> try cases h
    rename_i cs hcs
    obtain ⟨ds, h1, h2⟩ := fill_sim (zip_keys E tm hr parts.toList) (ofBases_ok (m := m) hz) hcs
    exact .same hr h (by simp only [stepOp, hty, hd, hz]; erw [h1]) ⟨ds, rfl, h2⟩
  | buildSlice t n parts =>
    simp only [stepT] at h
    split at h <;> try cases h
    rename_i _ _ _ _ _ k _ _ a hd he
    split at h <;> try cases h
    rename_i hb
    simp only [Bool.and_eq_true, decide_eq_true_eq] at hb
    obtain ⟨⟨⟨⟨hk, hn⟩, hnk⟩, hk0⟩, hz⟩ := hb
    split at h <;> try cases h
    rename_i vs hvs
    rw [← hr.rw] at hvs
    have hq := hr.rows
    have hcells := packL_cells hq hr hvs
    have hdec := packL_ok hq hvs (by have := hr.evs (parts.toList.map (·.2)); simpa [List.map_map, Function.comp_def] using this)
    have hpo : partsOk k n σ.rw (parts.toList.map fun p => (p.1, aev tm p.2)) = true := by
      unfold partsOk
      have h1 : (parts.toList.map fun p => (p.1, aev tm p.2)).length = n := by simpa using hn
      simp only [h1, decide_true, hnk, hk0, Bool.true_and, Bool.and_true]
      have := all_zip (aev tm) parts.toList 0 hz (fun _ _ => trivial) (fun x => decide ((cellsOf x).length = k) && ((cellsOf x).all fun y => plainC (purC σ.rw y)))
        fun q hq' => by obtain ⟨a1, a2⟩ := hcells q hq'; rw [a1, a2, hk]; simp
      rw [List.all_eq_true] at this ⊢
      intro p hp
      have := this p hp
      simpa [Bool.and_assoc] using this
    have hok : ∀ m' : Mp, OK m' (.sl a vs 2) (.sl k (parts.toList.map fun p => (cellsOf (aev tm p.2)).map (purC σ.rw)) 2) := by
      intro m'
      refine ⟨?_, Nat.le_refl _⟩
      subst hk
      show decList _ _ (.sl _ _ 2) = _
      simp only [decList, neqN, decide_true]
      simpa [List.map_map, Function.comp_def] using hdec
    have hst : stepOp C tm σ (.buildSlice t n parts) = match parts.toList.flatMap fun p => rsA (aev tm p.2) with
        | [] => some (.sl k (parts.toList.map fun p => (cellsOf (aev tm p.2)).map (purC σ.rw)) 2, none)
        | r :: l => some (.sl k (parts.toList.map fun p => (cellsOf (aev tm p.2)).map (purC σ.rw)) 2, some { σ with rw := frz σ.rw (r :: l), wrr := (r :: l) ++ σ.wrr }) := by
      simp only [stepOp, hty, hd, hpo]
      rfl
    rw [hst]
    split at h
    · rename_i hno
      have hno' : parts.toList.flatMap (fun p => rsA (aev tm p.2)) = [] := by
        have := noRss_ok (xs := parts.toList.map fun p => evT E p.2) (ys := parts.toList.map fun p => aev tm p.2) (by rw [List.all_map]; exact hno) (by have := hr.evs (parts.toList.map (·.2)); simpa [List.map_map, Function.comp_def] using this)
        rwa [List.flatMap_map] at this
      rw [hno']
      exact .same hr h rfl (hok m)
    · split
      · exact ⟨_, some (shA τ), _, none, shM m, h, rfl, shM_le m, hr.share rfl hq.sh, hok _, fun h => by cases h⟩
      · exact .to h rfl (shM_le m) (hr.share (σ' := { σ with rw := frz σ.rw _, wrr := _ }) rfl (hq.frz _ _)) (hok _)
  | load t a =>
    simp only [stepT] at h
    split at h <;> try cases h
    rename_i d hd
    have ha := hr.ev a
    split at h <;> try cases h
    · rename_i b o he
      rw [he] at ha
      obtain ⟨_, ha⟩ := ha
      split at h <;> try cases h
      rename_i cs hcs
      split at h <;> try cases h
      rename_i x hx
      obtain ⟨ds, g1, g2⟩ := hr.box b cs hcs
      obtain ⟨y, g3, g4⟩ := part_sim g2 hx
      exact .same hr h (by simp only [stepOp, hty, hd, ha, loadA, g1, g3]) g4
    · rename_i cs o he
      rw [he] at ha
      obtain ⟨ds, ha, g2⟩ := ha
      split at h <;> try cases h
      rename_i x hx
      obtain ⟨y, g3, g4⟩ := part_sim g2 hx
      exact .same hr h (by simp only [stepOp, hty, hd, ha, loadA, g3]) g4
    · rename_i id ver sv i cs o he
      rw [he] at ha
      split at h <;> try cases h
      rename_i R hR
      split at h <;> try cases h
      rename_i hv
      rw [Bool.and_eq_true] at hv
      split at h <;> try cases h
      rename_i x hx
      rcases rpt_load hr ha hR (Nat.eq_of_beq_eq_true hv.1) (Nat.eq_of_beq_eq_true hv.2) with ⟨r', j, ds, Q, k1, _, _, k2, k3, k4, _⟩ | ⟨ds, k1, k4, _⟩
      · obtain ⟨y, g3, g4⟩ := part_sim k4 hx
        have kl : rowLd Q j Q.ver = some ds := by unfold rowLd; rw [if_pos rfl]; exact k3
        exact .same hr h (by simp only [stepOp, hty, hd, k1, loadA, k2, kl, g3]) g4
      · obtain ⟨y, g3, g4⟩ := part_sim k4 hx
        exact .same hr h (by simp only [stepOp, hty, hd, k1, loadA, g3]) g4
  | store t a x =>
    simp only [stepT] at h
    split at h <;> try cases h
    rotate_left
    · rename_i d id ver sv i cs o hd he
      have ha := hr.ev a
      rw [he] at ha
      split at h <;> try cases h
      rename_i R hR
      split at h <;> try cases h
      rename_i hc
      simp only [Bool.and_eq_true, decide_eq_true_eq, Bool.not_eq_true'] at hc
      obtain ⟨⟨⟨⟨⟨c1, c2⟩, c3⟩, c4⟩, c5⟩, c6⟩ := hc
      split at h <;> try cases h
      rename_i v hv
      rcases rpt_load hr ha hR (Nat.eq_of_beq_eq_true c1) (Nat.eq_of_beq_eq_true c2) with ⟨r', j, ds, Q, k1, krr, ki, k2, k3, k4, kj, kv, kk, kd, kf, ks⟩ | ⟨ds, k1, k4, ks⟩
      rotate_left
      · rw [c3] at ks; cases ks
      obtain ⟨z1, z2, z3⟩ := noRs1_cells (hr.ev x) c6
      have hpar := fullT_some hv
      have hcat : OKL m (cs.take o ++ (cellsT (evT E x) ++ cs.drop (o + d.size))) (ds.take o ++ (cellsOf (aev tm x) ++ ds.drop (o + d.size))) := (k4.take o).append (z1.append (k4.drop _))
      rw [← hr.rw] at hpar
      obtain ⟨rs, p1, p2⟩ := parse_ok hr.rows R.τ hpar hcat
      cases p2
      have hpl : ∀ y ∈ ds, plainC y = true := by
        obtain ⟨w, _, hw⟩ := decLs_get' kd k3
        obtain ⟨pre, h1, _, h3, _⟩ := dparse_spec R.τ (full_some.1 hw)
        rw [List.append_nil] at h1
        rw [h1]; exact h3
      have hdl : ds.length = R.τ.size := by
        obtain ⟨w, _, hw⟩ := decLs_get' kd k3
        obtain ⟨pre, h1, h2, _⟩ := dparse_spec R.τ (full_some.1 hw)
        rw [List.append_nil] at h1
        rw [h1]; exact h2
      have hxp : ∀ y ∈ cellsOf (aev tm x), plainC y = true := by
        obtain ⟨pre, h1, _, h3, _⟩ := dparse_spec R.τ p1
        rw [List.map_nil, List.append_nil] at h1
        intro y hy
        have := h3 (purC σ.rw y) (by rw [← h1]; exact List.mem_map_of_mem (List.mem_append.2 (.inr (List.mem_append.2 (.inl hy)))))
        exact plain_pur (z3 y hy) this
      have hdec : decV R.τ (ds.take o ++ (cellsOf (aev tm x) ++ ds.drop (o + d.size))) = some v := by
        have : decV R.τ ((ds.take o ++ (cellsOf (aev tm x) ++ ds.drop (o + d.size))).map (purC σ.rw)) = some v := full_some.2 p1
        exact decV_pur (fun y hy => by
          rcases List.mem_append.1 hy with hy | hy
          · exact hpl y (List.mem_of_mem_take hy)
          · rcases List.mem_append.1 hy with hy | hy
            · exact hxp y hy
            · exact hpl y (List.mem_of_mem_drop hy)) this
      have hset := decLs_set kd j hdec
      have hrl : r' < σ.rw.length := getElem?_lt k2
      have hcl : (cellsOf (aev tm x)).length = d.size := by rw [z1.len]; exact c4
      have hol : o + d.size ≤ ds.length := by rw [k4.len]; exact c5
      have hro : rowSt Q j o Q.ver d.size (cellsOf (aev tm x)) = some { Q with c := Q.c.set j (ds.take o ++ (cellsOf (aev tm x) ++ ds.drop (o + d.size))) } := by
        unfold rowSt
        have e1 : (decide (Q.ver = Q.ver ∧ Q.fz ≤ j ∧ o + d.size ≤ Q.k ∧ (cellsOf (aev tm x)).length = d.size) && (cellsOf (aev tm x)).all plainC) = true := by
          rw [Bool.and_eq_true, decide_eq_true_eq, List.all_eq_true]
          exact ⟨⟨rfl, by rw [ks c3]; exact Nat.zero_le _, by rw [kk, ← hdl]; exact hol, hcl⟩, hxp⟩
        rw [e1, k3]
      have hlset : lset R.l i v = R.l.set j v := by
        unfold lset
        rw [if_pos (by rw [ki]; exact Int.natCast_nonneg j), ki]; rfl
      obtain ⟨m', g1, g2, _⟩ := hr.rowUpd (R2 := ⟨R.τ, lset R.l i v, R.ver, R.sv + 1, R.sh⟩) hR (m.r id) (m.v id) (Q.c.set j (ds.take o ++ (cellsOf (aev tm x) ++ ds.drop (o + d.size)))) (Nat.le_refl _) (Nat.le_succ _)
        (fun _ => ⟨by show (lset R.l i v).length = _; rw [hlset, List.length_set], rfl, rfl, rfl, (fun h => by have : R.sv + 1 = R.sv := h; omega), (fun h => by rw [krr] at h; cases h)⟩) (σ' := { σ with rw := σ.rw.set r' { Q with c := Q.c.set j (ds.take o ++ (cellsOf (aev tm x) ++ ds.drop (o + d.size))) }, wrr := r' :: σ.wrr }) rfl
        (by
          rw [krr]
          refine ⟨{ Q with c := Q.c.set j (ds.take o ++ (cellsOf (aev tm x) ++ ds.drop (o + d.size))) }, by show (σ.rw.set r' _)[r']? = _; rw [List.getElem?_set_self hrl], rfl, kv, kk, ?_, ?_, ks⟩
          · show decLs (decV R.τ) (Q.c.set j _) = some (lset R.l i v)
            rw [hlset]; exact hset
          · show Q.fz ≤ (Q.c.set j _).length
            rw [List.length_set]; exact kf)
        (fun id' r'' h1 h2 h3 => by
          have hne := hr.others hR krr h1 h2 h3
          refine ⟨fun he => by rw [krr] at he; exact hne (Option.some.inj he).symm, fun Q' hQ' => ?_⟩
          show (σ.rw.set r' _)[r'']? = _
          rw [List.getElem?_set_ne (Ne.symm hne)]; exact hQ')
      exact .to h (by simp only [stepOp, hty, hd, k1, k2, hro]; rfl) g1 g2 ⟨_, rfl, rfl⟩
    rename_i d b o hd he
    have ha := hr.ev a
    rw [he] at ha
    obtain ⟨hb, ha⟩ := ha
    split at h <;> try cases h
    rename_i cs hcs
    split at h <;> try cases h
    rename_i hc
    simp only [Bool.and_eq_true, decide_eq_true_eq] at hc
    obtain ⟨⟨h1, h2⟩, h3⟩ := hc
    obtain ⟨ds, g1, g2⟩ := hr.box b cs hcs
    obtain ⟨k1, k2⟩ := (hr.ev x).cells h3
    have e1 : (cellsOf (aev tm x)).length = d.size := by rw [k1.len]; exact h1
    have e2 : o + d.size ≤ ds.length := by rw [g2.len]; exact h2
    exact .to h (by simp only [stepOp, hty, hd, ha, g1, e1, e2, k2, decide_true, Bool.and_self]; rfl) (.refl m) (hr.setBox hb ((g2.take o).append (k1.append (g2.drop (o + d.size)))) _) ⟨_, rfl, rfl⟩
  | makeSlice t n mm =>
    simp only [stepT] at h
    split at h <;> try cases h
    rename_i _ _ _ _ _ k bytes z a' ik a hd he hn
    split at h <;> try cases h
    rename_i hc
    simp only [Bool.and_eq_true, decide_eq_true_eq] at hc
    obtain ⟨⟨⟨⟨c1, c2⟩, c3⟩, c4⟩, c5⟩ := hc
    split at h <;> try cases h
    rename_i v hv
    obtain ⟨hm, h⟩ := cond_some h
    obtain ⟨m1, m2, m3⟩ := of_decide_eq_true hm
    have hnv := hr.ev n
    rw [hn] at hnv
    have hnv : aev tm n = .v (.int ik a) := hnv
    have hmv : aev tm mm = .v (.int ik a) := by rw [← opEq_ev c1]; exact hnv
    have hq0 : RowsOK mp0 σ := fun id R h => by cases h
    have hpar := fullT_some hv
    obtain ⟨rs, p1, p2⟩ := parse_ok (m := mp0) hq0 a' hpar (ofBases_ok c5)
    cases p2
    have hzv : (z.map AV.v).map (purC σ.rw) = z.map AV.v := by rw [List.map_map]; exact List.map_congr_left fun _ _ => rfl
    rw [hzv] at p1
    have hd1 : decV a' (z.map AV.v) = some v := full_some.2 p1
    have hplz : (z.map AV.v).all plainC = true := by rw [List.all_map, List.all_eq_true]; intro _ _; rfl
    have hcond : decide (0 ≤ a ∧ a.toNat * bytes ≤ 2 ^ 47 ∧ a.toNat < 2 ^ 62 ∧ 0 < k ∧ z.length = k) = true := decide_eq_true ⟨m1, m2, m3, c3, c4⟩
    have hst : stepOp C tm σ (.makeSlice t n mm) = match neqN a.toNat 0 with
        | true => some (.sl k [] 2, none)
        | false => some (.rs σ.rw.length 0 a.toNat 0 false, some { σ with rw := σ.rw ++ [⟨k, List.replicate a.toNat (z.map .v), 0, 0⟩] }) := by
      simp only [stepOp, hty, hd, hnv, hmv, true_and, hcond, c5, hplz, Bool.and_self]
      cases neqN a.toNat 0 <;> rfl
    have hreps := decLs_rep hd1 a.toNat
    by_cases ha : a.toNat = 0
    · obtain ⟨m', g1, g2, g3⟩ := hr.rowAdd (σ' := σ) ⟨a', List.replicate a.toNat v, 0, 0, false⟩ none 0 [] rfl (fun _ => by show List.replicate a.toNat v = []; rw [ha]; rfl) (fun r Q h => h) (fun r h => by cases h) (y := .sl k [] 2) ⟨by show decList a'.size (decV a') (.sl k [] 2) = some (List.replicate a.toNat v); rw [ha, c2]; simp only [decList, neqN, decide_true]; rfl, Nat.le_refl _⟩ rfl
      refine ⟨_, some _, .sl k [] 2, none, m', h, ?_, g1, g2, g3, fun h => by cases h⟩
      have : neqN a.toNat 0 = true := by simp [neqN, ha]
      rw [hst, this]
    · obtain ⟨m', g1, g2, g3⟩ := hr.rowNew hreps
      rw [List.length_replicate] at g3
      refine .to h (y := .rs σ.rw.length 0 a.toNat 0 false) ?_ g1 g2 g3
      have : neqN a.toNat 0 = false := by simp [neqN, ha]
      rw [hst, this, c2]
  | nilCheck x =>
    simp only [stepT] at h
    have ha := hr.ev x
    split at h <;> try cases h
    · rename_i b o he
      rw [he] at ha
      exact .same hr h (by simp only [stepOp, ha.2]) ⟨ha.1, rfl⟩
    · rename_i cs o he
      rw [he] at ha
      obtain ⟨ds, ha, g⟩ := ha
      exact .same hr h (by simp only [stepOp, ha]) ⟨ds, rfl, g⟩
    · rename_i id ver sv i cs o he
      rw [he] at ha
      have ha' := ha
      obtain ⟨R, _, _, _, hy, _⟩ := ha
      rcases hy with ⟨r', j, ep, hy⟩ | ⟨ds, hy⟩
      · exact .same hr h (y := .rpt r' j o ep) (by simp only [stepOp, hy]) (by rw [← hy]; exact ha')
      · exact .same hr h (y := .ept ds o) (by simp only [stepOp, hy]) (by rw [← hy]; exact ha')
  | binOp op t x y u =>
    simp only [stepT] at h
    obtain ⟨z, v, h1, h2, h3⟩ := bin_sim (hr.ev x) (hr.ev y) h
    refine .same hr h1 ?_ h2
    rcases h3 with ⟨a, b, e1, e2, e3, h4⟩ | ⟨a, b, e1, e2, e3, h4⟩
    · obtain ⟨p1, p2, p3, p4, hd⟩ := isBool_spec e3
      rcases h4 with ⟨rfl, rfl⟩ | ⟨rfl, rfl⟩ <;> simp only [stepOp, e1, e2, hty, hd]
    · simp only [stepOp, e1, e2]
      split
      · rename_i p q hp hq
        cases hp; cases hq
        exact absurd ⟨rfl, rfl⟩ (e3 p q)
      · rename_i hp hq
        cases hp; cases hq
        rw [h4]
      · rename_i n1 n2
        exact absurd rfl (n2 _ _ rfl)
  | unOp op t x =>
    simp only [stepT] at h
    have ha := hr.ev x
    split at h <;> try cases h
    · rename_i k n he
      rw [he] at ha
      exact .same hr h (by simp only [stepOp, show aev tm x = _ from ha, unA]) rfl
    · rename_i b he
      rw [he] at ha
      exact .same hr h (by simp only [stepOp, show aev tm x = _ from ha, unA]) rfl
  | convert s d x =>
    simp only [stepT] at h
    have ha := hr.ev x
    split at h <;> try cases h
    · rename_i h1 h2 h3
      rw [h3] at ha
      exact .same hr h (by simp only [stepOp, hty, h1, h2, show aev tm x = _ from ha]) rfl
    · rename_i h1 h2 h3
      rw [h3] at ha
      exact .same hr h (by simp only [stepOp, hty, h1, h2, show aev tm x = _ from ha]) rfl
  | makeFunc f fs cs =>
    cases f with
    | func f =>
      simp only [stepT] at h
      split at h <;> try cases h
      rename_i hf
      exact .same hr h (by simp only [stepOp, hf]) ⟨_, rfl, hr.evs _⟩
    | _ => simp only [stepT] at h; cases h
  | slice t x lo hi mx =>
    cases mx with
    | some q => simp only [stepT] at h; cases h
    | none =>
    simp only [stepT] at h
    have ha := hr.ev x
    split at h <;> try cases h
    · rename_i y hd he
      rw [he] at ha
      split at h <;> try cases h
      rename_i hh hhe
      split at h <;> try cases h
      rename_i l hle
      obtain ⟨c1, h⟩ := cond_some h
      obtain ⟨c2, h⟩ := cond_some h
      have hxl : xlen ⟨y.toArray⟩ = y.length := by simp [xlen, ByteArray.size]
      have b1 := bound_sim hr (d := y.length) hhe (Nat.le_refl _) c1
      have b2 := bound_sim hr (d := 0) hle (Nat.zero_le _) c2
      refine .same hr h (y := .v (.string (xsub ⟨y.toArray⟩ l.toNat hh.toNat))) ?_ ?_
      · simp only [stepOp, hty, hd, show aev tm x = _ from ha, hxl, b1, b2]
      · show AV.v _ = AV.v _
        rw [← lsub_str]
    · rename_i a y lv hd he
      rw [he] at ha
      split at h <;> try cases h
      rename_i hk
      rw [Bool.and_eq_true] at hk
      have hk1 := of_decide_eq_true hk.1
      split at h <;> try cases h
      rename_i hh hhe
      split at h <;> try cases h
      rename_i l hle
      obtain ⟨c1, h⟩ := cond_some h
      obtain ⟨c2, h⟩ := cond_some h
      have b1 := bound_sim hr (d := y.length) hhe (Nat.le_refl _) c1
      have b2 := bound_sim hr (d := 0) hle (Nat.zero_le _) c2
      obtain ⟨hdl, _⟩ := ha
      rcases dlist_v hdl with ⟨h1, rfl⟩ | ⟨es, n, h1, h2⟩
      · refine .same hr h (y := .v (.slice none 0 0)) ?_ ?_
        · simp only [List.length_nil] at b1
          simp only [stepOp, hty, hd, h1, b1, b2]
        · refine ⟨?_, by decide⟩
          show some [] = some (lsub [] l hh)
          simp [lsub]
      · have hsl : slen es = y.length := decLs_len h2
        refine .same hr h (y := .sl a.size (ssub es l.toNat hh.toNat) (lvS (n + 1) (neqN hh.toNat y.length))) ?_ ?_
        · simp only [stepOp, hty, hd, h1, hk1, neqN, decide_true, hsl, b1, b2, show pos (n + 1) = true from by simp [pos], Bool.and_self]
        · have hlv : ∃ q, lvS (n + 1) (neqN hh.toNat y.length) = q + 1 := by unfold lvS; split <;> exact ⟨_, rfl⟩
          obtain ⟨q, hq⟩ := hlv
          rw [hq]
          refine ⟨?_, Nat.succ_le_succ (Nat.zero_le _)⟩
          show decList _ _ (.sl _ _ (q + 1)) = _
          simp only [decList, hk1, neqN, decide_true]
          exact decLs_drop _ (decLs_take _ h2)
    · rename_i hd he
      rw [he] at ha
      split at h <;> try cases h
      rename_i hh hhe
      split at h <;> try cases h
      rename_i l hle
      obtain ⟨c1, h⟩ := cond_some h
      obtain ⟨c2, h⟩ := cond_some h
      have b1 := bound_sim hr (d := 0) hhe (Nat.le_refl _) c1
      have b2 := bound_sim hr (d := 0) hle (Nat.zero_le _) c2
      exact .same hr h (y := .v (.slice none 0 0)) (by simp only [stepOp, hty, hd, show aev tm x = _ from ha, b1, b2]) rfl
  | fieldAddr t x i =>
    simp only [stepT] at h
    split at h <;> try cases h
    rename_i hd
    split at h <;> try cases h
    rename_i off size g hf
    split at h <;> try cases h
    have ha := hr.ev x
    split at h <;> try cases h
    · rename_i b o he
      rw [he] at ha
      exact .same hr h (by simp only [stepOp, hty, hd, hf, ha.2]) ⟨ha.1, rfl⟩
    · rename_i cs o he
      rw [he] at ha
      obtain ⟨ds, ha, hg⟩ := ha
      exact .same hr h (by simp only [stepOp, hty, hd, hf, ha]) ⟨ds, rfl, hg⟩
    · rename_i id ver sv j cs o he
      rw [he] at ha
      obtain ⟨R, k1, k2, k3, hy, k4⟩ := ha
      rcases hy with ⟨r', q, ep, hy⟩ | ⟨ds, hy⟩
      · refine .same hr h (y := .rpt r' q (o + off) ep) (by simp only [stepOp, hty, hd, hf, hy]) ⟨R, k1, k2, k3, .inl ⟨_, _, _, rfl⟩, fun e1 e2 => ?_⟩
        rcases k4 e1 e2 with ⟨r2, i2, ds, z1, z2, z0, z3, z4, z5⟩ | ⟨ds, z1, z2, _⟩
        · rw [hy] at z2
          cases z2
          exact .inl ⟨_, _, ds, z1, rfl, z0, z3, z4, z5⟩
        · rw [hy] at z2; cases z2
      · refine .same hr h (y := .ept ds (o + off)) (by simp only [stepOp, hty, hd, hf, hy]) ⟨R, k1, k2, k3, .inr ⟨_, rfl⟩, fun e1 e2 => ?_⟩
        rcases k4 e1 e2 with ⟨r2, i2, ds, z1, z2, _⟩ | ⟨ds', z1, z2, z3, z4⟩
        · rw [hy] at z2; cases z2
        · rw [hy] at z2
          cases z2
          exact .inr ⟨ds, z1, rfl, z3, z4⟩
  | field t x i =>
    simp only [stepT] at h
    have ha := hr.ev x
    split at h <;> try cases h
    rename_i cs hd he
    split at h <;> try cases h
    rename_i off size g hf
    split at h <;> try cases h
    rename_i y hy
    rw [he] at ha
    obtain ⟨ds, ha, hg⟩ := ha
    obtain ⟨z, g1, g2⟩ := part_sim hg hy
    exact .same hr h (by simp only [stepOp, hty, hd, ha, hf, g1]) g2
  | indexAddr t x i =>
    simp only [stepT] at h
    have ha := hr.ev x
    have hi := hr.ev i
    split at h <;> try cases h
    rename_i _ _ _ _ _ k _ _ ik j hd hj
    rw [hj] at hi
    have hi : aev tm i = .v (.int ik j) := hi
    split at h <;> try cases h
    · rename_i a l lv he
      rw [he] at ha
      split at h <;> try cases h
      rename_i hk
      have hk := of_decide_eq_true hk
      obtain ⟨v, hv, h⟩ := obind_some h
      obtain ⟨j0, hv⟩ := lget_some hv
      obtain ⟨hdl, _⟩ := ha
      rcases dlist_v hdl with ⟨h1, rfl⟩ | ⟨es, n, h1, h2⟩
      · simp at hv
      · obtain ⟨e, g1, g2⟩ := decLs_get h2 hv
        refine .same hr h (y := .ept e 0) ?_ ⟨e, rfl, cells_full g2⟩
        have hsg : sget es j = some e := by unfold sget; rw [if_pos j0]; exact g1
        simp only [stepOp, hty, hd, hi, h1, hk, neqN, decide_true, hsg]
    · rename_i id ver he
      rw [he] at ha
      split at h <;> try cases h
      rename_i R hR
      split at h <;> try cases h
      rename_i hv
      rw [Bool.and_eq_true] at hv
      have hv1 := Nat.eq_of_beq_eq_true hv.1
      have hk := of_decide_eq_true hv.2
      obtain ⟨v, hv, h⟩ := obind_some h
      obtain ⟨j0, hv⟩ := lget_some hv
      obtain ⟨R', g1, g2, g3, g4⟩ := ha
      rw [hr.rw, hR] at g1; cases g1
      have g4 := g4 hv1
      rcases row_cur hr.rows (by rw [hr.rw]; exact hR) g4 with ⟨rr, Q, hrr, hy, q1, q2, q3, q4, q5, _⟩ | ⟨hno, _, hq, _⟩
      · obtain ⟨e, z1, z2⟩ := decLs_get q5 hv
        have hl := decLs_len q5
        have hjl : j.toNat < Q.c.length := getElem?_lt z1
        refine .same hr h (y := .rpt rr (0 + j.toNat) 0 Q.ver) ?_ ?_
        · have : rowIx Q k 0 Q.c.length Q.ver j = some (0 + j.toNat) := by
            unfold rowIx
            rw [if_pos ⟨q4.trans hk, j0, by omega, rfl, by omega⟩]
          simp only [stepOp, hty, hd, hi, hy, q1, this]
        · refine ⟨R, by rw [hr.rw]; exact hR, by omega, Nat.le_refl _, .inl ⟨_, _, _, rfl⟩, fun _ _ => .inl ⟨rr, j.toNat, e, hrr, by rw [Nat.zero_add, q3], by omega, by omega, by rw [← q2]; exact z1, cells_full z2⟩⟩
      · rcases dlist_v hq with ⟨_, hl⟩ | ⟨es, n, h1, h2⟩
        · rw [hl] at hv
          simp at hv
        · obtain ⟨e, g1, g2'⟩ := decLs_get h2 hv
          refine .same hr h (y := .ept e 0) ?_ ⟨R, by rw [hr.rw]; exact hR, by omega, Nat.le_refl _, .inr ⟨_, rfl⟩, fun _ _ => .inr ⟨e, hno, rfl, Nat.lt_of_le_of_lt (Nat.zero_le _) (getElem?_lt hv), cells_full g2'⟩⟩
          have hsg : sget es j = some e := by unfold sget; rw [if_pos j0]; exact g1
          simp only [stepOp, hty, hd, hi, h1, hk, neqN, decide_true, hsg]
  | index t x i =>
    simp only [stepT] at h
    have ha := hr.ev x
    have hi := hr.ev i
    split at h <;> try cases h
    rename_i y ik j hd he hj
    rw [he] at ha
    rw [hj] at hi
    obtain ⟨v, hv, h⟩ := obind_some h
    obtain ⟨j0, hv⟩ := lget_some hv
    refine .same hr h (y := .v (.int .u8 v.toNat)) ?_ rfl
    have : xget ⟨y.toArray⟩ j = some (v.toNat : Int) := by
      unfold xget
      rw [if_pos j0]
      show (match y[j.toNat]? with | some b => some ((b.toNat : Nat) : Int) | none => none) = _
      rw [hv]
    simp only [stepOp, hty, hd, show aev tm x = _ from ha, show aev tm i = _ from hi, this]
  | extract x i =>
    simp only [stepT] at h
    have ha := hr.ev x
    split at h <;> try cases h
    rename_i vs he
    rw [he] at ha
    obtain ⟨ds, ha, hg⟩ := ha
    split at h <;> try cases h
    rename_i y hy
    obtain ⟨z, g1, g2⟩ := hg.get hy
    exact .same hr h (by simp only [stepOp, ha, g1]) g2
  | _ => simp only [stepT] at h; cases h
end
end Go.AmYtmodnblfcikjlaaGreat
namespace Go.AmYtmodnblfcikjlaaGreat
open Go Go.RowKit Go.GxYtmodnblfcikjlaaGreat

def fnsA : List AV → List Nat
  | [] => []
  | .fn f _ :: l => f :: fnsA l
  | _ :: l => fnsA l
def dFn {γ : Type} (q : List AV → Option γ) : List AV → Option γ
  | .fn _ [] :: xs => q xs
  | _ => none
def dparseA : (ts : List ATy) → List AV → Option (ArgsV ts)
  | [] => pNil
  | .val τ :: r => pVal (dpackV τ) (dparseA r)
  | .fn :: r => dFn (dparseA r)
def encR : (ts : List Ty) → ResV ts → List AV
  | [], _ => []
  | [a], v => [encA a v]
  | a :: b :: r, v => encA a v.1 :: encR (b :: r) v.2
/-- A contract as a function of plain values. -/
def sigP (c : TC) (f : Nat) (ys : List AV) : Option AV := match c.pf f (fnsA ys) with
  | some g => match dparseA g.args ys with
    | some a => match g.fn a with
      | some v => some (oneOf (encR g.res v))
      | none => none
    | none => none
  | none => none
/-- A contract that turns boxes and rows: what it is handed, in the numbers of its own state. -/
def rowArg (σ : St) (τ : Ty) (nr : Nat) : AV → Option (List (Val τ) × Nat)
  | .rs j lo n ep f => match σ.rw[nr]? with
    | some R => match decide (j = nr ∧ lo = 0 ∧ f = false ∧ R.k = τ.size ∧ R.ver = ep ∧ n = R.c.length ∧ R.fz = 0) with
      | true => match decLs (decV τ) R.c with
        | some l => some (l, nr + 1)
        | none => none
      | false => none
    | none => none
  | y => match dlist τ y, decide (2 ≤ lvl y) with
    | some [], true => some ([], nr)
    | _, _ => none
def boxArg (σ : St) (τ : Ty) (nb : Nat) : AV → Option (Val τ)
  | .ptr j 0 => match Nat.beq j nb, σ.bx[nb]? with
    | true, some ds => decV τ ds
    | _, _ => none
  | _ => none
def isNilA : AV → Bool
  | .v (.slice none 0 0) => true
  | _ => false
theorem isNilA_eq {y : AV} (h : isNilA y = true) : y = .v (.slice none 0 0) := by
  unfold isNilA at h
  split at h
  · rfl
  · cases h
def dS (σ : St) : (sas : List SA) → Nat → Nat → List AV → Option (SArgs sas)
  | [], nb, nr, [] => match decide (nb = σ.bx.length ∧ nr = σ.rw.length) with
    | true => some ()
    | false => none
  | .val τ :: r, nb, nr, y :: ys => match dpackV τ y with
    | some v => match dS σ r nb nr ys with
      | some vs => some (v, vs)
      | none => none
    | none => none
  | .row τ :: r, nb, nr, y :: ys => match rowArg σ τ nr y with
    | some (l, nr') => match dS σ r nb nr' ys with
      | some vs => some (l, vs)
      | none => none
    | none => none
  | .box τ :: r, nb, nr, y :: ys => match boxArg σ τ nb y with
    | some v => match dS σ r (nb + 1) nr ys with
      | some vs => some (v, vs)
      | none => none
    | none => none
  | .nil :: r, nb, nr, y :: ys => match isNilA y with
    | true => dS σ r nb nr ys
    | false => none
  | _, _, _, _ => none
def boxE : (sas : List SA) → SOut sas → List (List AV)
  | [], _ => []
  | .box τ :: r, o => encV τ o.1 :: boxE r o.2
  | .nil :: r, o => boxE r o
  | .val _ :: r, o => boxE r o
  | .row _ :: r, o => boxE r o
def resE : (rs : List RA) → Nat → RV rs → List AV
  | [], _, _ => []
  | .val τ :: r, L, v => encA τ v.1 :: resE r L v.2
  | .row _ :: r, L, v => .rs L 0 v.1.length 0 false :: resE r (L + 1) v.2
def rowE : (rs : List RA) → RV rs → List Row
  | [], _ => []
  | .val _ :: r, v => rowE r v.2
  | .row τ :: r, v => ⟨τ.size, v.1.map (encV τ), 0, 0⟩ :: rowE r v.2
def sgP (g : SSig) (σ : St) (ys : List AV) : Option (AV × Option St) := match dS σ g.args 0 0 ys with
  | some a => match g.fn a with
    | some v => some (oneOf (resE g.res σ.rw.length v.2), some ⟨boxE g.args v.1, σ.rw.map killR ++ rowE g.res v.2, List.range σ.bx.length, List.range σ.rw.length⟩)
    | none => none
  | none => none
def TC.pc (c : TC) : PC := ⟨c.ty, fun f => match c.has f with
  | true => some (sigP c f)
  | false => none, fun f => match c.sf f with
  | some g => some (sgP g)
  | none => none, c.pur⟩

theorem TC.raw_eq (c : TC) : c.pc.cfg.raw = c.rawT := by
  show c.pc.raw = c.rawT
  funext f
  unfold PC.raw TC.rawT
  have e1 : c.pc.pf f = match c.has f with | true => some (sigP c f) | false => none := rfl
  have e2 : c.pc.sp f = match c.sf f with | some g => some (sgP g) | none => none := rfl
  rw [e1, e2]
  cases c.has f with
  | true => rfl
  | false =>
    cases c.sf f with
    | none => rfl
    | some g => rfl
section
variable {α : Type} {N : Nat × Nat} {m : Mp} {E : Env} {τ : TS} {tm : List AV} {σ : St} {K : KT α} {r : α} {p : Option (AV × Option St)} {c : TC} {C : Cfg}
theorem plain_refs : ∀ {cs : List AV}, (∀ x ∈ cs, plainC x = true) → rbL cs = [] ∧ rrL cs = []
  | [], _ => ⟨rfl, rfl⟩
  | x :: cs, h => by
    obtain ⟨h1, h2⟩ := plain_refs fun y hy => h y (List.mem_cons_of_mem _ hy)
    have hx := h x (List.mem_cons_self ..)
    rw [rbL, rrL, h1, h2]
    cases x <;> first | exact ⟨rfl, rfl⟩ | (simp [plainC] at hx)
theorem dpackV_plain {a : Ty} {y : AV} {v : Val a} (h : dpackV a y = some v) : noRef y = true ∧ ∀ f cs, y ≠ .fn f cs := by
  unfold dpackV at h
  split at h
  case h_2 => cases h
  obtain ⟨pre, h1, _, h3, _⟩ := dparse_spec a (full_some.1 h)
  rw [List.append_nil] at h1
  rw [← h1] at h3
  cases y with
  | agg cs =>
    obtain ⟨g1, g2⟩ := plain_refs (cs := cs) h3
    refine ⟨?_, fun f cs h => by cases h⟩
    unfold noRef
    rw [rb, rr, g1, g2]; rfl
  | v x => exact ⟨rfl, fun f cs h => by cases h⟩
  | sl k es n => exact ⟨rfl, fun f cs h => by cases h⟩
  | _ => have := h3 _ (List.mem_singleton.2 rfl); simp [plainC] at this
theorem encA_noRef : ∀ (a : Ty) (v : Val a), noRef (encA a v) = true
  | .int _, _ => rfl
  | .bool, _ => rfl
  | .str, _ => rfl
  | .list _, _ => rfl
  | .term, v => by
    obtain ⟨g1, g2⟩ := plain_refs (encV_plain .term v)
    show noRef (.agg _) = true
    unfold noRef
    rw [rb, rr, g1, g2]; rfl
  | .pair a b, v => by
    obtain ⟨g1, g2⟩ := plain_refs (encV_plain (.pair a b) v)
    show noRef (.agg _) = true
    unfold noRef
    rw [rb, rr, g1, g2]; rfl
  | .one a, v => by
    obtain ⟨g1, g2⟩ := plain_refs (encV_plain (.one a) v)
    show noRef (.agg _) = true
    unfold noRef
    rw [rb, rr, g1, g2]; rfl
theorem plain_cells {y : AV} (h : ∀ z ∈ cellsOf y, plainC z = true) : rb y = [] ∧ rr y = [] := by
  cases y with
  | agg cs =>
    obtain ⟨g1, g2⟩ := plain_refs (cs := cs) h
    exact ⟨by rw [rb, g1], by rw [rr, g2]⟩
  | _ => exact plain_none (h _ (List.mem_singleton.2 rfl))
/-- Cells that name no row. -/
theorem cells_arg (hq : RowsOK m σ) {a : Ty} {cs : List TV} {ds : List AV} {v : Val a} (h1 : ∀ y ∈ ds, rsC y = []) (h2 : fullT (parse m.rw a cs) = some v) (ho : OKL m cs ds) : decV a ds = some v ∧ ∀ y ∈ ds, plainC y = true := by
  obtain ⟨rs, p1, p2⟩ := parse_ok hq a (fullT_some h2) ho
  cases p2
  have hp : ∀ y ∈ ds, plainC y = true := by
    obtain ⟨pre, h1', _, h3, _⟩ := dparse_spec a p1
    rw [List.map_nil, List.append_nil] at h1'
    intro y hy
    exact plain_pur (h1 y hy) (h3 _ (by rw [← h1']; exact List.mem_map_of_mem hy))
  exact ⟨decV_pur hp (full_some.2 p1), hp⟩
theorem val_arg (hq : RowsOK m σ) {a : Ty} {x : TV} {y : AV} {v : Val a} (h1 : noRs x = true) (h2 : packV m.rw a x = some v) (ho : OK m x y) : dpackV a y = some v ∧ rb y = [] ∧ rr y = [] := by
  obtain ⟨g1, g2⟩ := pack_ok hq h2 ho
  have hrs := noRs_ok h1 ho
  have hno : ∀ z ∈ cellsOf y, rsC z = [] := by
    intro z hz
    cases y with
    | agg cs => exact List.flatMap_eq_nil_iff.1 hrs z hz
    | _ => cases List.mem_singleton.1 hz; exact hrs
  have hp : ∀ z ∈ cellsOf y, plainC z = true := by
    obtain ⟨pre, h1', _, h3, _⟩ := dparse_spec a (full_some.1 g2)
    rw [List.append_nil] at h1'
    intro z hz
    exact plain_pur (hno z hz) (h3 _ (by rw [← h1']; exact List.mem_map_of_mem hz))
  obtain ⟨e1, e2⟩ := plain_cells hp
  refine ⟨?_, e1, e2⟩
  have hd : decV a (cellsOf y) = some v := decV_pur hp g2
  unfold dpackV at g1 ⊢
  have hag : isAggA (purA σ.rw y) = isAggA y := by
    cases y with
    | agg cs => rfl
    | rs r lo n ep f => simp [cellsOf, rsC] at hno
    | _ => rfl
  rw [hag] at g1
  split at g1
  · exact hd
  · cases g1
theorem ren_plain {fb fr : Nat → Nat} {y : AV} (h1 : rb y = []) (h2 : rr y = []) : ren fb fr y = y := ren_none y h1 h2
theorem idx_mid {pre post : List Nat} {b : Nat} (h : (pre ++ b :: post).Nodup) : (pre ++ b :: post).idxOf b = pre.length := idx_get h (by rw [List.getElem?_append_right (Nat.le_refl _)]; simp)
theorem vals_sim (hr : Rel N m E τ tm σ) : ∀ {sas : List SA} {xs : List TV} {ys : List AV} {a : SArgs sas} {bs rs : List Nat}, sVals τ sas xs = some (a, bs, rs) → OKL m xs ys →
    rbL ys = bs.map m.b ∧ rrL ys = rs.filterMap m.r ∧ (∀ b ∈ bs, b < m.nb ∧ ∃ ds, σ.bx[m.b b]? = some ds ∧ rbL ds = [] ∧ rrL ds = []) ∧ (∀ id ∈ rs, id < m.rw.length) ∧
    ∀ (preB preR : List Nat), (preB ++ bs.map m.b).Nodup → (preR ++ rs.filterMap m.r).Nodup →
      dS (subSt σ (preB ++ bs.map m.b) (preR ++ rs.filterMap m.r)) sas preB.length preR.length (renL (fun b => (preB ++ bs.map m.b).idxOf b) (fun r => (preR ++ rs.filterMap m.r).idxOf r) ys) = some a := by
  intro sas
  induction sas with
  | nil =>
    intro xs ys a bs rs h ho
    cases xs with
    | cons x xs => simp [sVals] at h
    | nil =>
      cases ho
      simp only [sVals, Option.some.injEq, Prod.mk.injEq] at h
      obtain ⟨_, rfl, rfl⟩ := h
      refine ⟨rfl, rfl, by simp, by simp, fun preB preR _ _ => ?_⟩
      simp [renL, dS, subSt]
  | cons k sas ih =>
    intro xs ys a bs rs h ho
    cases xs with
    | nil => cases k <;> simp [sVals] at h
    | cons x xs =>
    obtain ⟨y, ys, rfl, hy, hys⟩ := ho
    cases k with
    | val t =>
      simp only [sVals] at h
      split at h <;> try cases h
      rename_i v hno hv
      split at h <;> cases h
      rename_i vs bs' rs' hvs
      obtain ⟨i1, i2, i3, i4, i5⟩ := ih hvs hys
      obtain ⟨g1, g2, g3⟩ := val_arg hr.rows hno (by rw [hr.rw]; exact hv) hy
      refine ⟨by rw [rbL, g2, i1]; rfl, by rw [rrL, g3, i2]; rfl, i3, i4, fun preB preR hb hR => ?_⟩
      rw [renL, ren_plain g2 g3, dS, g1]
      simp only
      rw [i5 preB preR hb hR]
    | nil =>
      cases x with
      | nil =>
        have h : sVals τ sas xs = some (a, bs, rs) := h
        have hy : y = .v (.slice none 0 0) := hy
        subst hy
        obtain ⟨i1, i2, i3, i4, i5⟩ := ih h hys
        refine ⟨by rw [rbL, i1]; rfl, by rw [rrL, i2]; rfl, i3, i4, fun preB preR hb hR => ?_⟩
        show dS _ (.nil :: sas) _ _ (.v (.slice none 0 0) :: renL _ _ ys) = _
        exact i5 preB preR hb hR
      | _ => simp [sVals] at h
    | row t =>
      simp only [sVals] at h
      split at h <;> try cases h
      rename_i l ids hl
      split at h <;> cases h
      rename_i vs rs' hvs
      obtain ⟨i1, i2, i3, i4, i5⟩ := ih hvs hys
      have emp : dlist t y = some l → l = [] → 2 ≤ lvl y → ids.filterMap m.r = [] → (∀ id ∈ ids, id < m.rw.length) → rbL (y :: ys) = bs.map m.b ∧ rrL (y :: ys) = (ids ++ rs').filterMap m.r ∧ (∀ b ∈ bs, b < m.nb ∧ ∃ ds, σ.bx[m.b b]? = some ds ∧ rbL ds = [] ∧ rrL ds = []) ∧ (∀ id ∈ ids ++ rs', id < m.rw.length) ∧
          ∀ (preB preR : List Nat), (preB ++ bs.map m.b).Nodup → (preR ++ (ids ++ rs').filterMap m.r).Nodup →
            dS (subSt σ (preB ++ bs.map m.b) (preR ++ (ids ++ rs').filterMap m.r)) (.row t :: sas) preB.length preR.length (renL (fun b => (preB ++ bs.map m.b).idxOf b) (fun r => (preR ++ (ids ++ rs').filterMap m.r).idxOf r) (y :: ys)) = some (l, vs) := by
        intro hd hl hlv hids hlt
        have hyp : rb y = [] ∧ rr y = [] := by
          rcases dlist_v hd with ⟨rfl, _⟩ | ⟨es, n, rfl, _⟩ <;> exact ⟨rfl, rfl⟩
        refine ⟨by rw [rbL, hyp.1, i1]; rfl, by rw [rrL, hyp.2, i2, List.filterMap_append, hids], i3, fun id hid => (List.mem_append.1 hid).elim (hlt id) (i4 id), fun preB preR hb hR => ?_⟩
        rw [List.filterMap_append, hids, List.nil_append] at hR ⊢
        have hrow : rowArg (subSt σ (preB ++ bs.map m.b) (preR ++ rs'.filterMap m.r)) t preR.length y = some ([], preR.length) := by
          subst hl
          rcases dlist_v hd with ⟨rfl, _⟩ | ⟨es, n, rfl, _⟩
          · simp only [rowArg, hd, decide_eq_true hlv]
          · simp only [rowArg, hd, decide_eq_true hlv]
        rw [renL, ren_plain hyp.1 hyp.2, dS, hrow]
        simp only
        rw [i5 preB preR hb hR, hl]
      unfold rowS at hl
      split at hl
      · cases hl
        cases hy
        exact emp rfl rfl (Nat.le_refl _) rfl (by simp)
      · split at hl <;> cases hl
        rename_i hc hlv
        obtain ⟨e, he⟩ := castL_some hc
        subst e
        obtain ⟨hy1, hy2⟩ := hy
        have he : _ = _ := he
        subst he
        exact emp hy1 rfl (Nat.le_trans (of_decide_eq_true hlv) hy2) rfl (by simp)
      · rename_i id ver
        split at hl <;> try cases hl
        rename_i R hR
        split at hl <;> try cases hl
        rename_i hv
        rw [Bool.and_eq_true, Bool.not_eq_true'] at hv
        split at hl <;> cases hl
        rename_i hc
        obtain ⟨e, he⟩ := castL_some hc
        subst e
        have he : R.l = l := he
        subst he
        obtain ⟨R', k1, _, _, k2⟩ := hy
        have hR' : m.rw[id]? = some R := by rw [hr.rw]; exact hR
        rw [hR'] at k1; cases k1
        have hlt : ∀ i ∈ [id], i < m.rw.length := by intro i hi; rw [List.mem_singleton.1 hi]; exact getElem?_lt hR'
        rcases row_cur hr.rows hR' (k2 (Nat.eq_of_beq_eq_true hv.1)) with ⟨rr', Q, q0, rfl, q1, q2, q3, q4, q5, q6, q7⟩ | ⟨q0, q1, q2, q3⟩
        · have hfm : ([id] ++ rs').filterMap m.r = rr' :: rs'.filterMap m.r := by simp [q0]
          refine ⟨by rw [rbL, i1]; rfl, by rw [rrL, i2, hfm]; rfl, i3, fun i hi => (List.mem_append.1 hi).elim (hlt i) (i4 i), fun preB preR hb hRn => ?_⟩
          rw [hfm] at hRn ⊢
          have hidx := idx_mid hRn
          have hget : (subSt σ (preB ++ bs.map m.b) (preR ++ rr' :: rs'.filterMap m.r)).rw[preR.length]? = some Q := by
            show ((preR ++ rr' :: rs'.filterMap m.r).map fun r => σ.rw.getD r ⟨0, [], 0, 0⟩)[preR.length]? = _
            rw [List.getElem?_map, List.getElem?_append_right (Nat.le_refl _), Nat.sub_self, List.getElem?_cons_zero]
            show some (σ.rw.getD rr' _) = _
            rw [getD_of q1]
          have hrow : rowArg (subSt σ (preB ++ bs.map m.b) (preR ++ rr' :: rs'.filterMap m.r)) R.τ preR.length (.rs preR.length 0 Q.c.length Q.ver false) = some (R.l, preR.length + 1) := by
            simp only [rowArg, hget, q4, q7 hv.2, and_self, decide_true, q5]
          rw [renL, ren, hidx, dS, hrow]
          simp only
          have := i5 preB (preR ++ [rr']) hb (by rw [List.append_assoc]; exact hRn)
          rw [List.append_assoc, List.length_append] at this
          have this : dS (subSt σ (preB ++ bs.map m.b) (preR ++ rr' :: rs'.filterMap m.r)) sas preB.length (preR.length + 1) (renL (fun b => (preB ++ bs.map m.b).idxOf b) (fun r => (preR ++ rr' :: rs'.filterMap m.r).idxOf r) ys) = some vs := this
          rw [this]
        · exact emp q2 (q1 hv.2) q3 (by simp [q0]) hlt
      · cases hl
    | box t =>
      simp only [sVals] at h
      split at h <;> try cases h
      rename_i v b hb0
      split at h <;> cases h
      rename_i vs bs' hvs
      obtain ⟨i1, i2, i3, i4, i5⟩ := ih hvs hys
      unfold boxS at hb0
      split at hb0 <;> try cases hb0
      split at hb0 <;> try cases hb0
      rename_i cs hcs
      split at hb0 <;> cases hb0
      rename_i hno hv
      obtain ⟨hbn, rfl⟩ := hy
      obtain ⟨ds, d1, d2⟩ := hr.box _ cs hcs
      have hrs : ∀ y ∈ ds, rsC y = [] := List.flatMap_eq_nil_iff.1 (noRs1s_ok d2 hno)
      obtain ⟨g1, g2⟩ := cells_arg hr.rows hrs (by rw [hr.rw]; exact hv) d2
      obtain ⟨p1, p2⟩ := plain_refs g2
      refine ⟨by rw [rbL, i1]; rfl, by rw [rrL, i2]; rfl, fun b' hb' => ?_, i4, fun preB preR hbN hR => ?_⟩
      · rcases List.mem_cons.1 hb' with rfl | hb'
        · exact ⟨hbn, ds, d1, p1, p2⟩
        · exact i3 b' hb'
      · rw [List.map_cons] at hbN ⊢
        have hidx := idx_mid hbN
        have hget : (subSt σ (preB ++ m.b b :: bs'.map m.b) (preR ++ rs.filterMap m.r)).bx[preB.length]? = some ds := by
          show ((preB ++ m.b b :: bs'.map m.b).map fun b => renL _ _ (σ.bx.getD b []))[preB.length]? = _
          rw [List.getElem?_map, List.getElem?_append_right (Nat.le_refl _), Nat.sub_self, List.getElem?_cons_zero]
          show some (renL _ _ (σ.bx.getD (m.b b) [])) = _
          rw [getD_of d1, renL_none ds p1 p2]
        have hbox : boxArg (subSt σ (preB ++ m.b b :: bs'.map m.b) (preR ++ rs.filterMap m.r)) t preB.length (.ptr preB.length 0) = some v := by
          simp only [boxArg, Nat.beq_refl, hget, g1]
        rw [renL, ren, hidx, dS, hbox]
        simp only
        have := i5 (preB ++ [m.b b]) preR (by rw [List.append_assoc]; exact hbN) hR
        rw [List.append_assoc, List.length_append] at this
        have this : dS (subSt σ (preB ++ m.b b :: bs'.map m.b) (preR ++ rs.filterMap m.r)) sas (preB.length + 1) preR.length (renL (fun b' => (preB ++ m.b b :: bs'.map m.b).idxOf b') (fun r => (preR ++ rs.filterMap m.r).idxOf r) ys) = some vs := this
        rw [this]
theorem nd_of : ∀ {l : List Nat}, l.Nodup → nd l = true
  | [], _ => rfl
  | b :: l, h => by
    rw [List.nodup_cons] at h
    rw [nd, nd_of h.2]
    simp [h.1]
theorem news_nd : ∀ {l seen : List Nat}, l.Nodup → (∀ b ∈ l, b ∉ seen) → news seen l = l
  | [], seen, _, _ => rfl
  | b :: l, seen, h, hs => by
    rw [List.nodup_cons] at h
    rw [news]
    have : seen.contains b = false := by
      have := hs b (List.mem_cons_self ..)
      simpa using this
    rw [this]
    simp only
    rw [news_nd h.2 fun c hc hm => by
      rcases List.mem_cons.1 hm with rfl | hm
      · exact h.1 hc
      · exact hs c (List.mem_cons_of_mem _ hc) hm]
theorem flat_nil {α : Type} {f : α → List Nat} {l : List α} (h : ∀ x ∈ l, f x = []) : l.flatMap f = [] := List.flatMap_eq_nil_iff.2 h
theorem subOk_of {ys : List AV} {B R : List Nat} (h1 : rbL ys = B) (h2 : rrL ys = R) (hB : B.Nodup) (hR : R.Nodup) (hb : ∀ b ∈ B, ∃ ds, σ.bx[b]? = some ds ∧ rbL ds = [] ∧ rrL ds = []) (hr : ∀ r ∈ R, r < σ.rw.length) :
    bids σ ys = B ∧ rids σ ys = R ∧ subOk σ ys = true := by
  have c1 : ∀ b ∈ B, rbL (σ.bx.getD b []) = [] := fun b hb' => by obtain ⟨ds, d1, d2, _⟩ := hb b hb'; rw [getD_of d1]; exact d2
  have c2 : ∀ b ∈ B, rrL (σ.bx.getD b []) = [] := fun b hb' => by obtain ⟨ds, d1, _, d2⟩ := hb b hb'; rw [getD_of d1]; exact d2
  have e1 : bids σ ys = B := by
    unfold bids
    rw [h1, news_nd hB (by simp)]
    cases σ.bx.length with
    | zero => rfl
    | succ n => rw [closeB, flat_nil c1]; rfl
  have e2 : rids σ ys = R := by
    unfold rids
    rw [e1, h2, flat_nil c2, List.append_nil, news_nd hR (by simp)]
  refine ⟨e1, e2, ?_⟩
  unfold subOk
  rw [e1, e2, h1, h2, nd_of hB, nd_of hR]
  simp only [Bool.true_and, Bool.and_eq_true, List.all_eq_true, List.contains_iff_mem, decide_eq_true_eq]
  refine ⟨⟨⟨fun _ h => h, fun _ h => h⟩, fun b hb' => ?_⟩, hr⟩
  obtain ⟨ds, d1, d2, d3⟩ := hb b hb'
  rw [getD_of d1, d2, d3]
  exact ⟨⟨getElem?_lt d1, by simp⟩, by simp⟩
theorem ren_oneOf {fb fr : Nat → Nat} : ∀ l : List AV, ren fb fr (oneOf l) = oneOf (renL fb fr l)
  | [] => rfl
  | [x] => rfl
  | x :: y :: l => rfl
theorem ren_resE {B R : List Nat} {bn rn : Nat} : ∀ (rs : List RA) (j : Nat) (v : RV rs), renL (backN B bn) (backN R rn) (resE rs (R.length + j) v) = resE rs (rn + j) v
  | [], j, v => rfl
  | .val a :: rs, j, v => by
    obtain ⟨h1, h2⟩ := noRef_spec (encA_noRef a v.1)
    rw [resE, renL, ren_plain h1 h2, ren_resE rs j v.2]; rfl
  | .row a :: rs, j, v => by
    have : backN R rn (R.length + j) = rn + j := by
      unfold backN
      rw [List.getElem?_eq_none (by omega)]
      show rn + (R.length + j - R.length) = _
      omega
    rw [resE, renL, ren, this]
    have h := ren_resE (B := B) (R := R) (bn := bn) (rn := rn) rs (j + 1) v.2
    rw [← Nat.add_assoc, ← Nat.add_assoc] at h
    rw [h]; rfl
theorem ren_boxE {fb fr : Nat → Nat} : ∀ (sas : List SA) (o : SOut sas), (boxE sas o).map (renL fb fr) = boxE sas o
  | [], o => rfl
  | .nil :: sas, o => ren_boxE sas o
  | .val _ :: sas, o => ren_boxE sas o
  | .row _ :: sas, o => ren_boxE sas o
  | .box a :: sas, o => by
    obtain ⟨h1, h2⟩ := plain_refs (encV_plain a o.1)
    rw [boxE, List.map_cons, renL_none _ h1 h2, ren_boxE sas o.2]
theorem setAll_app {β : Type} : ∀ (rs : List Nat) (l ks ns : List β), ks.length = rs.length → ∃ l', setAll l rs (ks ++ ns) = l' ++ ns ∧ l'.length = l.length ∧ ∀ r, r ∉ rs → l'[r]? = l[r]?
  | [], l, ks, ns, h => by
    have : ks = [] := List.eq_nil_of_length_eq_zero h
    subst this
    exact ⟨l, by simp [setAll], rfl, fun _ _ => rfl⟩
  | r :: rs, l, [], ns, h => by simp at h
  | r :: rs, l, k :: ks, ns, h => by
    obtain ⟨l', h1, h2, h3⟩ := setAll_app rs (l.set r k) ks ns (by simpa using h)
    refine ⟨l', h1, by rw [h2, List.length_set], fun q hq => ?_⟩
    rw [h3 q fun hm => hq (List.mem_cons_of_mem _ hm), List.getElem?_set_ne (by intro he; subst he; exact hq (List.mem_cons_self ..))]
def BxL (m : Mp) : List (List TV) → List (List AV) → Prop
  | [], ys => ys = []
  | x :: xs, ys => ∃ y r, ys = y :: r ∧ OKL m x y ∧ BxL m xs r
theorem boxO_ok : ∀ (sas : List SA) (o : SOut sas), BxL m (boxO sas o) (boxE sas o)
  | [], o => rfl
  | .nil :: sas, o => boxO_ok sas o
  | .val _ :: sas, o => boxO_ok sas o
  | .row _ :: sas, o => boxO_ok sas o
  | .box a :: sas, o => ⟨_, _, rfl, cells_full (decV_enc a o.1), boxO_ok sas o.2⟩
theorem boxes_sim : ∀ (bs : List Nat) {τ : TS} {σ : St} {xs : List (List TV)} {ys : List (List AV)}, Rel N m E τ tm σ → BxL m xs ys → xs.length = bs.length → (∀ b ∈ bs, b < m.nb) →
    Rel N m E ⟨setBs τ.bx bs xs, τ.rw⟩ tm { σ with bx := setAll σ.bx (bs.map m.b) ys }
  | [], τ, σ, xs, ys, hr, hx, hl, _ => by
    have : xs = [] := List.eq_nil_of_length_eq_zero hl
    subst this
    cases hx
    show Rel N m E τ tm { σ with bx := σ.bx ++ [] }
    rw [List.append_nil]; exact hr
  | b :: bs, τ, σ, xs, ys, hr, hx, hl, hb => by
    cases xs with
    | nil => simp at hl
    | cons x xs =>
      obtain ⟨y, r, rfl, h1, h2⟩ := hx
      have := hr.setBox (hb b (List.mem_cons_self ..)) h1 σ.wr
      exact boxes_sim bs this h2 (by simpa using hl) fun c hc => hb c (List.mem_cons_of_mem _ hc)
theorem modify_set {β : Type} {l : List β} {i : Nat} {x : β} {f : β → β} (h : l[i]? = some x) : l.modify i f = l.set i (f x) := by
  apply List.ext_getElem?
  intro j
  rw [List.getElem?_modify, List.getElem?_set]
  by_cases he : i = j
  · subst he
    rw [h, if_pos rfl, if_pos (getElem?_lt h)]
    simp
  · rw [if_neg he]
    cases l[j]? with
    | none => rfl
    | some y => simp [he]
theorem kill_sim : ∀ (ids : List Nat) {m : Mp} {τ : TS}, Rel N m E τ tm σ → (∀ id ∈ ids, id < m.rw.length) →
    ∃ m', MLe m m' ∧ Rel N m' E ⟨τ.bx, killT τ.rw ids⟩ tm σ ∧ m'.nb = m.nb ∧ m'.b = m.b ∧ m'.rw.length = m.rw.length ∧ (∀ i r, m'.r i = some r → m.r i = some r ∧ i ∉ ids)
  | [], m, τ, hr, _ => ⟨m, .refl m, hr, rfl, rfl, rfl, fun i r h => ⟨h, by simp⟩⟩
  | id :: ids, m, τ, hr, hl => by
    have hid := hl id (List.mem_cons_self ..)
    have h0 := List.getElem?_eq_getElem hid
    generalize hRe : m.rw[id] = R at h0
    have hle : MLe m (m.upd id ⟨R.τ, [], R.ver + 1, R.sv, false⟩ none 0 []) := upd_le h0 (Nat.le_succ _) (Nat.le_refl _) (fun h => by have : R.ver + 1 = R.ver := h; omega)
    have hr1 : Rel N (m.upd id ⟨R.τ, [], R.ver + 1, R.sv, false⟩ none 0 []) E ⟨τ.bx, τ.rw.modify id fun R => ⟨R.τ, [], R.ver + 1, R.sv, false⟩⟩ tm σ := by
      refine hr.to hle ?_ rfl rfl rfl (upd_rows h0 hr.rows (fun _ => rfl) fun _ _ _ _ _ _ h => h) ?_
      · show m.rw.set id _ = τ.rw.modify id _
        rw [← hr.rw, modify_set h0]
      · intro i i' r g1 g2 e1 e2
        change i < (m.rw.set id _).length at g1
        change i' < (m.rw.set id _).length at g2
        change (if i = id then none else m.r i) = some r at e1
        change (if i' = id then none else m.r i') = some r at e2
        simp at g1 g2
        split at e1 <;> split at e2 <;> first | (cases e1; done) | (cases e2; done) | exact hr.rinj i i' r g1 g2 e1 e2
    obtain ⟨m', k1, k2, k3, k4, k5, k6⟩ := kill_sim ids hr1 (fun i hi => by show i < (m.rw.set id _).length; rw [List.length_set]; exact hl i (List.mem_cons_of_mem _ hi))
    refine ⟨m', hle.trans k1, k2, k3, k4, by rw [k5]; show (m.rw.set id _).length = _; rw [List.length_set], fun i r h => ?_⟩
    obtain ⟨q1, q2⟩ := k6 i r h
    have q1 : (if i = id then none else m.r i) = some r := q1
    split at q1
    · cases q1
    · rename_i hne
      exact ⟨q1, fun hm => (List.mem_cons.1 hm).elim hne q2⟩
theorem rows_sim : ∀ (rs : List RA) {m : Mp} {τ : TS} {L : Nat} {v : RV rs}, Rel N m E τ tm σ → (∀ id r, id < m.rw.length → m.r id = some r → r < L) → (∀ (k : Nat) (Q : Row), (rowE rs v)[k]? = some Q → σ.rw[L + k]? = some Q) →
    ∃ m', MLe m m' ∧ Rel N m' E ⟨τ.bx, τ.rw ++ rowO rs v⟩ tm σ ∧ OKL m' (resS rs τ.rw.length v) (resE rs L v)
  | [], m, τ, L, v, hr, _, _ => ⟨m, .refl m, by show Rel N m E ⟨τ.bx, τ.rw ++ []⟩ tm σ; rw [List.append_nil]; exact hr, rfl⟩
  | .val a :: rs, m, τ, L, v, hr, hf, hq => by
    obtain ⟨m', h1, h2, h3⟩ := rows_sim rs (v := v.2) hr hf hq
    exact ⟨m', h1, h2, _, _, rfl, toTV_ok a v.1, h3⟩
  | .row a :: rs, m, τ, L, v, hr, hf, hq => by
    have hle := add_le m ⟨a, v.1, 0, 0, false⟩ (some L) 0 (v.1.map (encV a))
    have hg : rowGood σ ⟨a, v.1, 0, 0, false⟩ (some L) 0 (v.1.map (encV a)) := ⟨⟨a.size, v.1.map (encV a), 0, 0⟩, hq 0 _ rfl, rfl, rfl, rfl, decLs_map (decV_enc a) v.1, Nat.zero_le _, fun _ => rfl⟩
    have hr1 : Rel N (m.add ⟨a, v.1, 0, 0, false⟩ (some L) 0 (v.1.map (encV a))) E ⟨τ.bx, τ.rw ++ [⟨a, v.1, 0, 0, false⟩]⟩ tm σ := by
      refine hr.to hle (by show m.rw ++ _ = _; rw [hr.rw]) rfl rfl rfl (add_rows hr.rows hg fun _ _ h => h) ?_
      intro id id' r h1 h2 e1 e2
      change id < (m.rw ++ [_]).length at h1
      change id' < (m.rw ++ [_]).length at h2
      change (if id = m.rw.length then some L else m.r id) = some r at e1
      change (if id' = m.rw.length then some L else m.r id') = some r at e2
      simp at h1 h2
      split at e1 <;> split at e2
      · omega
      · have := hf id' r (by omega) e2; cases e1; omega
      · have := hf id r (by omega) e1; cases e2; omega
      · exact hr.rinj id id' r (by omega) (by omega) e1 e2
    obtain ⟨m', h1, h2, h3⟩ := rows_sim rs (v := v.2) (L := L + 1) hr1 (fun id r h1 e1 => by
      change id < (m.rw ++ [_]).length at h1
      change (if id = m.rw.length then some L else m.r id) = some r at e1
      simp at h1
      split at e1
      · cases e1; omega
      · have := hf id r (by omega) e1; omega) (fun k Q hk => by
      have := hq (k + 1) Q hk
      rw [← this]; congr 1; omega)
    refine ⟨m', hle.trans h1, ?_, _, _, rfl, ?_, ?_⟩
    · have h2 : Rel N m' E ⟨τ.bx, (τ.rw ++ [⟨a, v.1, 0, 0, false⟩]) ++ rowO rs v.2⟩ tm σ := h2
      rw [List.append_assoc] at h2
      exact h2
    · have hrow : OK (m.add ⟨a, v.1, 0, 0, false⟩ (some L) 0 (v.1.map (encV a))) (.row τ.rw.length 0) (.rs L 0 v.1.length 0 false) := by
        refine ⟨⟨a, v.1, 0, 0, false⟩, ?_, Nat.zero_le _, .inr (.inr ⟨_, _, _, _, _, rfl⟩), fun _ => ?_⟩
        · show (m.rw ++ _)[τ.rw.length]? = _
          rw [hr.rw]; simp
        · show rowAt (if τ.rw.length = m.rw.length then some L else m.r τ.rw.length) (if τ.rw.length = m.rw.length then 0 else m.v τ.rw.length) a v.1 _
          rw [if_pos (by rw [hr.rw]), if_pos (by rw [hr.rw])]; rfl
      exact hrow.mono h1
    · have h3 : OKL m' (resS rs (τ.rw ++ ([⟨a, v.1, 0, 0, false⟩] : List TRow)).length v.2) (resE rs (L + 1) v.2) := h3
      rw [List.length_append] at h3
      exact h3
theorem sVals_len {τ : TS} : ∀ {sas : List SA} {xs : List TV} {a : SArgs sas} {bs rs : List Nat}, sVals τ sas xs = some (a, bs, rs) → ∀ o : SOut sas, (boxO sas o).length = bs.length
  | [], xs, a, bs, rs, h, o => by
    cases xs with
    | nil => simp only [sVals, Option.some.injEq, Prod.mk.injEq] at h; rw [← h.2.1]; rfl
    | cons x xs => simp [sVals] at h
  | .nil :: sas, xs, a, bs, rs, h, o => by
    cases xs with
    | nil => simp [sVals] at h
    | cons x xs =>
      cases x with
      | nil => exact sVals_len (sas := sas) h o
      | _ => simp [sVals] at h
  | .val t :: sas, xs, a, bs, rs, h, o => by
    cases xs with
    | nil => simp [sVals] at h
    | cons x xs =>
      simp only [sVals] at h
      split at h <;> try cases h
      split at h <;> cases h
      rename_i hvs
      exact sVals_len (sas := sas) hvs o
  | .row t :: sas, xs, a, bs, rs, h, o => by
    cases xs with
    | nil => simp [sVals] at h
    | cons x xs =>
      simp only [sVals] at h
      split at h <;> try cases h
      split at h <;> cases h
      rename_i hvs
      exact sVals_len (sas := sas) hvs o
  | .box t :: sas, xs, a, bs, rs, h, o => by
    cases xs with
    | nil => simp [sVals] at h
    | cons x xs =>
      simp only [sVals] at h
      split at h <;> try cases h
      split at h <;> cases h
      rename_i hvs
      rw [boxO, List.length_cons, List.length_cons, sVals_len (sas := sas) hvs o.2]
theorem ndN_nd : ∀ {l : List Nat}, ndN l = true → l.Nodup
  | [], _ => List.nodup_nil
  | b :: l, h => by
    rw [ndN, Bool.and_eq_true, List.all_eq_true] at h
    refine List.nodup_cons.2 ⟨fun hm => ?_, ndN_nd h.2⟩
    have := h.1 b hm
    simp at this
theorem map_nd {f : Nat → Nat} : ∀ {l : List Nat}, l.Nodup → (∀ a ∈ l, ∀ b ∈ l, f a = f b → a = b) → (l.map f).Nodup
  | [], _, _ => List.nodup_nil
  | b :: l, h, hi => by
    rw [List.nodup_cons] at h
    rw [List.map_cons, List.nodup_cons]
    refine ⟨fun hm => ?_, map_nd h.2 fun a ha c hc => hi a (List.mem_cons_of_mem _ ha) c (List.mem_cons_of_mem _ hc)⟩
    obtain ⟨c, hc, he⟩ := List.mem_map.1 hm
    have := hi c (List.mem_cons_of_mem _ hc) b (List.mem_cons_self ..) he
    subst this
    exact h.1 hc
theorem fm_nd {f : Nat → Option Nat} : ∀ {l : List Nat}, l.Nodup → (∀ a ∈ l, ∀ b ∈ l, ∀ r, f a = some r → f b = some r → a = b) → (l.filterMap f).Nodup
  | [], _, _ => List.nodup_nil
  | b :: l, h, hi => by
    rw [List.nodup_cons] at h
    have ih := fm_nd h.2 fun a ha c hc => hi a (List.mem_cons_of_mem _ ha) c (List.mem_cons_of_mem _ hc)
    cases hb : f b with
    | none => rw [List.filterMap_cons_none hb]; exact ih
    | some r =>
      rw [List.filterMap_cons_some hb, List.nodup_cons]
      refine ⟨fun hm => ?_, ih⟩
      obtain ⟨c, hc, he⟩ := List.mem_filterMap.1 hm
      have := hi c (List.mem_cons_of_mem _ hc) b (List.mem_cons_self ..) r he hb
      subst this
      exact h.1 hc
theorem oneOf_any {xs : List TV} {ys : List AV} (h : OKL m xs ys) : OK m (oneOfT xs) (oneOf ys) := by
  cases xs with
  | nil => cases h; exact ⟨[], rfl, rfl⟩
  | cons x xs =>
    obtain ⟨y, r, rfl, h1, h2⟩ := h
    cases xs with
    | nil => cases h2; exact h1
    | cons x' xs =>
      obtain ⟨y', r', rfl, h3, h4⟩ := h2
      show OK m (.tup (x :: x' :: xs)) (.tup (y :: y' :: r'))
      exact (⟨y :: y' :: r', rfl, y, _, rfl, h1, y', _, rfl, h3, h4⟩ : ∃ ds, AV.tup (y :: y' :: r') = .tup ds ∧ OKL m (x :: x' :: xs) ds)
theorem killT_len (ids : List Nat) : ∀ rw : List TRow, (killT rw ids).length = rw.length := by
  induction ids with
  | nil => intro rw; rfl
  | cons a ids ih =>
    intro rw
    show (killT (rw.modify a _) ids).length = _
    rw [ih, List.length_modify]
theorem callS_sim {f : Nat} {xs : List TV} {ys : List AV} (hr : Rel N m E τ tm σ) (ho : OKL m xs ys) (hh : c.has f = false) (h : callST c τ f xs K = some r) : Sim N m E τ tm σ K r (pcall c.pc f σ ys) := by
  unfold callST at h
  split at h
  case h_2 => cases h
  rename_i g hg
  split at h
  case h_2 => cases h
  rename_i a bs rs hvs
  split at h
  case h_2 => cases h
  rename_i hnd
  rw [Bool.and_eq_true] at hnd
  obtain ⟨v, hv, h⟩ := obind_some h
  obtain ⟨i1, i2, i3, i4, i5⟩ := vals_sim hr hvs ho
  have nb := map_nd (f := m.b) (ndN_nd hnd.1) fun x hx y hy he => hr.inj x y (i3 x hx).1 (i3 y hy).1 he
  have nr := fm_nd (f := m.r) (ndN_nd hnd.2) fun x hx y hy q e1 e2 => hr.rinj x y q (i4 x hx) (i4 y hy) e1 e2
  have hRlt : ∀ q ∈ rs.filterMap m.r, q < σ.rw.length := fun q hq => by
    obtain ⟨id, h1, h2⟩ := List.mem_filterMap.1 hq
    exact hr.row_lt (i4 id h1) h2
  obtain ⟨s1, s2, s3⟩ := subOk_of (σ := σ) i1 i2 nb nr (fun b hb => by obtain ⟨b0, h1, rfl⟩ := List.mem_map.1 hb; exact (i3 b0 h1).2) hRlt
  have hd := i5 [] [] nb nr
  rw [List.nil_append, List.nil_append] at hd
  generalize hB : bs.map m.b = B at *
  generalize hR : rs.filterMap m.r = R at *
  have hsg : sgP g (subSt σ B R) (renL (fun b => B.idxOf b) (fun r => R.idxOf r) ys) = some (oneOf (resE g.res R.length v.2), some ⟨boxE g.args v.1, (subSt σ B R).rw.map killR ++ rowE g.res v.2, List.range (subSt σ B R).bx.length, List.range (subSt σ B R).rw.length⟩) := by
    unfold sgP
    have hd : dS (subSt σ B R) g.args 0 0 (renL (fun b => B.idxOf b) (fun r => R.idxOf r) ys) = some a := hd
    rw [hd]
    simp only [hv]
    have : (subSt σ B R).rw.length = R.length := List.length_map ..
    rw [this]
  have hpc : pcall c.pc f σ ys = some (oneOf (resE g.res σ.rw.length v.2), some (backSt σ B R ⟨boxE g.args v.1, (subSt σ B R).rw.map killR ++ rowE g.res v.2, List.range (subSt σ B R).bx.length, List.range (subSt σ B R).rw.length⟩)) := by
    unfold pcall
    have e1 : c.pc.pf f = none := by show (match c.has f with | true => some (sigP c f) | false => none) = _; rw [hh]
    have e2 : c.pc.sp f = some (sgP g) := by show (match c.sf f with | some g => some (sgP g) | none => none) = _; rw [hg]
    rw [e1, e2]
    simp only
    unfold callB
    rw [s3, s1, s2]
    simp only [hsg, backA]
    have := ren_resE (B := B) (R := R) (bn := σ.bx.length) (rn := σ.rw.length) g.res 0 v.2
    rw [Nat.add_zero, Nat.add_zero] at this
    rw [ren_oneOf, this]
  -- the state behind it
  obtain ⟨m1, k1, k2, k3, k4, k5, k6⟩ := kill_sim rs hr i4
  have hbx := boxes_sim bs (xs := boxO g.args v.1) (ys := boxE g.args v.1) k2 (boxO_ok g.args v.1) (sVals_len hvs v.1) fun b hb => by rw [k3]; exact (i3 b hb).1
  rw [k4, hB] at hbx
  obtain ⟨l', l1, l2, l3⟩ := setAll_app R σ.rw ((subSt σ B R).rw.map killR) (rowE g.res v.2) (by rw [List.length_map]; exact List.length_map ..)
  have hbs : backSt σ B R ⟨boxE g.args v.1, (subSt σ B R).rw.map killR ++ rowE g.res v.2, List.range (subSt σ B R).bx.length, List.range (subSt σ B R).rw.length⟩ = ⟨setAll σ.bx B (boxE g.args v.1), l' ++ rowE g.res v.2, (List.range (subSt σ B R).bx.length).map (backN B σ.bx.length) ++ σ.wr, (List.range (subSt σ B R).rw.length).map (backN R σ.rw.length) ++ σ.wrr⟩ := by
    unfold backSt
    simp only [ren_boxE, l1]
  have hlow : ∀ id r, id < m1.rw.length → m1.r id = some r → r < σ.rw.length := fun id r h1 h2 => hr.row_lt (by rw [← k5]; exact h1) (k6 id r h2).1
  have hrel : Rel N m1 E ⟨setBs τ.bx bs (boxO g.args v.1), killT τ.rw rs⟩ tm ⟨setAll σ.bx B (boxE g.args v.1), l' ++ rowE g.res v.2, (List.range (subSt σ B R).bx.length).map (backN B σ.bx.length) ++ σ.wr, (List.range (subSt σ B R).rw.length).map (backN R σ.rw.length) ++ σ.wrr⟩ := by
    refine hbx.rowsTo rfl fun id Rw hRw => (hbx.rows id Rw hRw).later fun q Q hq hQ => ?_
    obtain ⟨q1, q2⟩ := k6 id q hq
    have hql := hr.row_lt (by rw [← k5]; exact getElem?_lt hRw) q1
    show (l' ++ _)[q]? = _
    rw [List.getElem?_append_left (by rw [l2]; exact hql), l3 q fun hm => ?_]
    · exact hQ
    · rw [← hR] at hm
      obtain ⟨id', h1, h2⟩ := List.mem_filterMap.1 hm
      have := hr.rinj id id' q (by rw [← k5]; exact getElem?_lt hRw) (i4 id' h1) q1 h2
      subst this
      exact q2 h1
  obtain ⟨m2, z1, z2, z3⟩ := rows_sim g.res (L := σ.rw.length) (v := v.2) hrel hlow fun k Q hk => by
    show (l' ++ rowE g.res v.2)[σ.rw.length + k]? = _
    rw [List.getElem?_append_right (by rw [l2]; omega), l2, Nat.add_sub_cancel_left]
    exact hk
  rw [hpc, hbs]
  rw [killT_len] at z3
  exact .to h rfl (k1.trans z1) z2 (oneOf_any z3)
end
end Go.AmYtmodnblfcikjlaaGreat
namespace Go.AmYtmodnblfcikjlaaGreat
open Go Go.RowKit Go.GxYtmodnblfcikjlaaGreat

section
variable {α : Type} {N : Nat × Nat} {m : Mp} {E : Env} {τ : TS} {tm : List AV} {σ : St} {K : KT α} {r : α} {p : Option (AV × Option St)} {c : TC} {C : Cfg}
theorem packV_fn {rw : List TRow} {a : Ty} {f : Nat} {cs : List TV} {v : Val a} (h : packV rw a (.fn f cs) = some v) : False := by
  unfold packV at h
  cases a with
  | int k => cases h
  | bool => cases h
  | str => cases h
  | list a => cases h
  | term => cases h
  | pair a b => cases h
  | one a => cases h
theorem pVal_some {σ β γ : Type} {p : σ → Option β} {q : List σ → Option γ} {xs : List σ} {v : β × γ} (h : pVal p q xs = some v) : ∃ x r, xs = x :: r ∧ p x = some v.1 ∧ q r = some v.2 := by
  unfold pVal at h
  split at h <;> try cases h
  split at h <;> try cases h
  split at h <;> cases h
  exact ⟨_, _, rfl, by assumption, by assumption⟩
theorem parseA_ok (hq : RowsOK m σ) : ∀ (ts : List ATy) {xs : List TV} {ys : List AV} {v : ArgsV ts}, parseA m.rw ts xs = some v → OKL m xs ys →
    dparseA ts (ys.map (purA σ.rw)) = some v ∧ fnsA (ys.map (purA σ.rw)) = fnsOf xs ∧ noRefs (ys.map (purA σ.rw)) = true
  | [], xs, ys, v, h, ho => by
    cases xs with
    | nil => cases ho; exact ⟨rfl, rfl, rfl⟩
    | cons x xs => cases h
  | .val a :: ts, xs, ys, v, h, ho => by
    obtain ⟨x, xs, rfl, hw, hws⟩ := pVal_some h
    obtain ⟨y, r, rfl, h1, h2⟩ := ho
    obtain ⟨g1, _⟩ := pack_ok hq hw h1
    obtain ⟨k1, k2, k3⟩ := parseA_ok hq ts hws h2
    obtain ⟨p1, p2⟩ := dpackV_plain g1
    refine ⟨?_, ?_, ?_⟩
    · show pVal _ _ (purA σ.rw y :: r.map (purA σ.rw)) = _
      simp only [pVal, g1, k1]
    · rw [List.map_cons]
      have e1 : fnsA (purA σ.rw y :: r.map (purA σ.rw)) = fnsA (r.map (purA σ.rw)) := by
        generalize purA σ.rw y = z at p2
        cases z <;> first | rfl | exact absurd rfl (p2 _ _)
      have e2 : fnsOf (x :: xs) = fnsOf xs := by
        cases x <;> first | rfl | exact (packV_fn hw).elim
      rw [e1, e2, k2]
    · rw [List.map_cons]
      unfold noRefs at k3 ⊢
      rw [List.all_cons, p1, k3]; rfl
  | .fn :: ts, xs, ys, v, h, ho => by
    change pFn _ xs = _ at h
    unfold pFn at h
    split at h
    case h_2 => cases h
    obtain ⟨y, r, rfl, ⟨ds, rfl, hd⟩, h2⟩ := ho
    cases hd
    obtain ⟨k1, k2, k3⟩ := parseA_ok hq ts h h2
    refine ⟨k1, ?_, ?_⟩
    · show _ :: fnsA _ = _ :: fnsOf _
      rw [k2]
    · unfold noRefs at k3 ⊢
      rw [List.map_cons, List.all_cons, k3]; rfl
theorem encR_ok : ∀ (ts : List Ty) (v : ResV ts), OKL m (unL ts v) (encR ts v) ∧ noRefs (encR ts v) = true
  | [], _ => ⟨rfl, rfl⟩
  | [a], v => ⟨⟨_, _, rfl, toTV_ok a v, rfl⟩, by show (noRef (encA a v) && true) = true; rw [encA_noRef]; rfl⟩
  | a :: b :: r, v => by
    obtain ⟨h1, h2⟩ := encR_ok (b :: r) v.2
    refine ⟨⟨_, _, rfl, toTV_ok a v.1, h1⟩, ?_⟩
    show (noRef (encA a v.1) && noRefs (encR (b :: r) v.2)) = true
    rw [encA_noRef, h2]; rfl
theorem noRef_tup {l : List AV} (h : noRefs l = true) : noRef (.tup l) = true := by
  have := noRefs_spec h
  unfold noRef
  rw [rb, rr, this.1, this.2]; rfl
theorem oneOf_ok {xs : List TV} {ys : List AV} (h : OKL m xs ys) (hn : noRefs ys = true) : OK m (oneOfT xs) (oneOf ys) ∧ noRef (oneOf ys) = true := by
  cases xs with
  | nil => cases h; exact ⟨⟨[], rfl, rfl⟩, rfl⟩
  | cons x xs =>
    obtain ⟨y, r, rfl, h1, h2⟩ := h
    cases xs with
    | nil =>
      cases h2
      have : noRef y = true := by
        unfold noRefs at hn
        simpa using hn
      exact ⟨h1, this⟩
    | cons x' xs =>
      obtain ⟨y', r', rfl, h3, h4⟩ := h2
      exact ⟨⟨_, rfl, ⟨_, _, rfl, h1, _, _, rfl, h3, h4⟩⟩, noRef_tup hn⟩
theorem scal_one {a : Ty} (h : isScT a = true) (v : Val a) : isV (encA a v) = true := by
  cases a <;> first | rfl | (cases h)
theorem scal_all : ∀ {ts : List Ty} (v : ResV ts), ts.all isScT = true → (encR ts v).all isV = true
  | [], _, _ => rfl
  | [a], v, h => by
    have : isScT a = true := by simpa using h
    show (isV (encA a v) && true) = true
    rw [scal_one this]; rfl
  | a :: b :: r, v, h => by
    rw [List.all_cons, Bool.and_eq_true] at h
    show (isV (encA a v.1) && (encR (b :: r) v.2).all isV) = true
    rw [scal_one h.1, scal_all v.2 h.2]; rfl
theorem scal_res {ts : List Ty} {v : ResV ts} (h : ts.all isScT = true) : isScal (oneOf (encR ts v)) = true := by
  have := scal_all v h
  revert this
  cases encR ts v with
  | nil => intro _; rfl
  | cons x l =>
    cases l with
    | nil =>
      intro hx
      have hx : isV x = true := by simpa using hx
      show isScal x = true
      cases x <;> first | rfl | (cases hx)
    | cons y l => intro hx; exact hx
theorem call_sim {f : Nat} {xs : List TV} {ys : List AV} (hr : Rel N m E τ tm σ) (ho : OKL m xs ys) (h : callT c τ f xs K = some r) : Sim N m E τ tm σ K r (pcall c.pc f σ ys) := by
  unfold callT at h
  split at h
  case h_2 => cases h
  case h_3 hh => exact callS_sim hr ho hh h
  rename_i g hh hg
  split at h <;> try cases h
  rename_i a ha
  obtain ⟨v, hv, h⟩ := obind_some h
  rw [← hr.rw] at ha
  obtain ⟨g1, g2, g3⟩ := parseA_ok hr.rows g.args ha ho
  obtain ⟨e1, e2⟩ := encR_ok (m := m) g.res v
  obtain ⟨e3, e4⟩ := oneOf_ok e1 e2
  have hp : c.pc.pf f = some (sigP c f) := by show (match c.has f with | true => some (sigP c f) | false => none) = _; rw [hh]
  have hs : sigP c f (ys.map (purA σ.rw)) = some (oneOf (encR g.res v)) := by
    unfold sigP
    rw [g2, hg]
    simp only [g1, hv]
  have hst : pcall c.pc f σ ys = match isScal (oneOf (encR g.res v)), ys.flatMap rsA with
      | true, _ => some (oneOf (encR g.res v), none)
      | _, [] => some (oneOf (encR g.res v), none)
      | _, r :: l => some (oneOf (encR g.res v), some { σ with rw := frz σ.rw (r :: l), wrr := (r :: l) ++ σ.wrr }) := by
    unfold pcall
    simp only [hp, g3, hs, e4]
    rfl
  rw [hst]
  split at h
  · rename_i hno
    rcases Bool.or_eq_true_iff.1 hno with hno | hno
    · rw [noRss_ok hno ho]
      refine .same hr h ?_ e3
      cases isScal (oneOf (encR g.res v)) <;> rfl
    · rw [scal_res hno]
      exact .same hr h rfl e3
  · split
    · exact ⟨_, some (shA τ), _, none, shM m, h, rfl, shM_le m, hr.share rfl hr.rows.sh, e3.mono (shM_le m), fun h => by cases h⟩
    · exact ⟨_, some (shA τ), _, none, shM m, h, rfl, shM_le m, hr.share rfl hr.rows.sh, e3.mono (shM_le m), fun h => by cases h⟩
    · exact .to h rfl (shM_le m) (hr.share (σ' := { σ with rw := frz σ.rw _, wrr := _ }) rfl (hr.rows.frz _ _)) (e3.mono (shM_le m))
end
end Go.AmYtmodnblfcikjlaaGreat
namespace Go.AmYtmodnblfcikjlaaGreat
open Go Go.RowKit Go.GxYtmodnblfcikjlaaGreat
section
variable {α : Type} {N : Nat × Nat} {m : Mp} {E : Env} {τ : TS} {tm : List AV} {σ : St} {K : KT α} {r : α} {p : Option (AV × Option St)} {c : TC} {C : Cfg}
theorem uni_ok {a : Ty} {es : List (List AV)} {l : List (Val a)} (h : decLs (decV a) es = some l) : uni a.size es = true := by
  unfold uni
  rw [List.all_eq_true]
  intro e he
  obtain ⟨i, hi⟩ := List.getElem?_of_mem he
  obtain ⟨v, _, h2⟩ := decLs_get' h hi
  obtain ⟨pre, p1, p2, p3, _⟩ := dparse_spec a (full_some.1 h2)
  rw [List.append_nil] at p1
  rw [p1]
  simp only [Bool.and_eq_true, decide_eq_true_eq, List.all_eq_true]
  exact ⟨p2, p3⟩
theorem room_spec {n bytes : Nat} (h : room n bytes = true) : n * bytes ≤ 2 ^ 47 ∧ n < 2 ^ 62 := of_decide_eq_true h
theorem app_sim {bytes : Nat} {a : Ty} {s : TV} {xs : List (Val a)} {y : AV} {es : List (List AV)} (hr : Rel N m E τ tm σ) (ho : OK m s y) (hd : decLs (decV a) es = some xs) (h : appT a.size bytes τ a s xs K = some r) :
    Sim N m E τ tm σ K r (appendA a.size bytes σ y es) := by
  have hlen := decLs_len hd
  unfold appT at h
  split at h
  · -- nil
    cases ho
    unfold lcase at h
    split at h
    · have : es = [] := List.eq_nil_of_length_eq_zero (by simpa using hlen)
      subst this
      exact .same hr h rfl rfl
    · rename_i x rest
      obtain ⟨h1, h⟩ := cond_some h
      obtain ⟨q1, q2⟩ := room_spec h1
      obtain ⟨m', g1, g2, g3⟩ := hr.rowNew hd
      have hn : neqN (slen es) 0 = false := by simp [neqN, slen, hlen]
      have hle : es.length = rest.length + 1 := by simpa using hlen
      have hrn : rowNew a.size bytes es = some (⟨a.size, es, 0, 0⟩, es.length) := by
        unfold Go.AmYtmodnblfcikjlaaGreat.rowNew
        rw [if_pos ⟨by rw [hle]; exact q1, by rw [hle]; exact q2⟩]
      refine .to h (y := .rs σ.rw.length 0 es.length 0 false) (by simp only [appendA, hn, hrn]) g1 g2 ?_
      rw [hlen]; exact g3
  · -- a list
    rename_i a' l lv
    split at h <;> try cases h
    rename_i hlv
    have hlv := of_decide_eq_true hlv
    split at h <;> try cases h
    rename_i l hl
    obtain ⟨e, rfl⟩ := castL_some hl
    subst e
    obtain ⟨h1, h⟩ := cond_some h
    obtain ⟨q1, q2⟩ := room_spec h1
    unfold lcase at h
    split at h
    · have : es = [] := List.eq_nil_of_length_eq_zero (by simpa using hlen)
      subst this
      refine .same hr h ?_ ho
      rcases dlist_v ho.1 with ⟨rfl, _⟩ | ⟨es0, n, rfl, _⟩ <;> rfl
    rename_i x rest _
    have hn : neqN (slen es) 0 = false := by simp [neqN, slen, hlen]
    have hle : es.length = rest.length + 1 := by simpa using hlen
    obtain ⟨ho1, ho2⟩ := ho
    rcases dlist_v ho1 with ⟨rfl, hl0⟩ | ⟨es0, n, rfl, h2⟩
    · have hl0 : l = [] := hl0
      subst hl0
      obtain ⟨m', g1, g2, g3⟩ := hr.rowNew hd
      have hrn : rowNew a'.size bytes es = some (⟨a'.size, es, 0, 0⟩, es.length) := by
        unfold Go.AmYtmodnblfcikjlaaGreat.rowNew
        rw [if_pos ⟨by rw [hle]; simpa using q1, by rw [hle]; simpa using q2⟩]
      refine .to h (y := .rs σ.rw.length 0 es.length 0 false) (by simp only [appendA, hn, hrn]) g1 g2 ?_
      rw [hlen]; exact g3
    · have hd2 := decLs_append h2 hd
      have hlen2 := decLs_len hd2
      obtain ⟨m', g1, g2, g3⟩ := hr.rowNew hd2
      have hrn : rowNew a'.size bytes (sapp es0 es) = some (⟨a'.size, sapp es0 es, 0, 0⟩, (sapp es0 es).length) := by
        unfold Go.AmYtmodnblfcikjlaaGreat.rowNew sapp
        have : (es0 ++ es).length = l.length + (x :: rest).length := by rw [hlen2, List.length_append]
        rw [if_pos ⟨by rw [this]; exact q1, by rw [this]; exact q2⟩]
      have hc : (decide (1 < n + 1) && neqN a'.size a'.size && uni a'.size es0) = true := by
        have : 1 < n + 1 := Nat.lt_of_lt_of_le hlv ho2
        simp only [decide_eq_true this, neqN, decide_true, uni_ok h2, Bool.and_self]
      refine .to h (y := .rs σ.rw.length 0 (sapp es0 es).length 0 false) (by simp only [appendA, hn, hc, hrn]; rfl) g1 g2 ?_
      show OK m' _ (.rs _ 0 (es0 ++ es).length 0 false)
      rw [hlen2]; exact g3
  · -- a row
    rename_i id ver
    split at h <;> try cases h
    rename_i R hR
    split at h <;> try cases h
    rename_i hv
    have hv : R.ver = ver := Nat.eq_of_beq_eq_true hv
    split at h <;> try cases h
    rename_i l hl
    obtain ⟨e, rfl⟩ := castL_some hl
    subst e
    obtain ⟨h1, h⟩ := cond_some h
    obtain ⟨q1, q2⟩ := room_spec h1
    obtain ⟨R', g1, g2, g3, g4⟩ := ho
    rw [hr.rw, hR] at g1; cases g1
    have hR' : m.rw[id]? = some R := by rw [hr.rw]; exact hR
    have gy := g4 hv
    clear g4
    subst hv
    rcases row_cur hr.rows hR' gy with ⟨rr, Q, hrr, hy, k1, k2, kv, k3, k4, kf, ks⟩ | ⟨hrr, hq, hy, hlv⟩
    · have hQl := decLs_len k4
      have hrl : rr < σ.rw.length := getElem?_lt k1
      by_cases he : xs = []
      · subst he
        have : es = [] := List.eq_nil_of_length_eq_zero (by simpa using hlen)
        subst this
        obtain ⟨m', z1, z2, z3⟩ := hr.rowUpd (R2 := ⟨R.τ, R.l ++ [], R.ver + 1, R.sv, R.sh⟩) hR (m.r id) (m.v id) (m.q id) (Nat.le_succ _) (Nat.le_refl _) (fun h => by have : R.ver + 1 = R.ver := h; omega) (σ' := σ) rfl
          (by rw [hrr]; exact ⟨Q, k1, k2, kv, k3, by rw [List.append_nil]; exact k4, kf, ks⟩) fun id' r'' hne hlt hr'' => ⟨fun hee => by rw [hrr] at hee; exact hr.others hR hrr hne hlt hr'' (Option.some.inj hee).symm, fun _ h => h⟩
        refine ⟨_, some _, y, none, m', h, by rw [hy]; rfl, z1, z2, z3 y ?_, fun h => by cases h⟩
        rw [hrr]
        show y = .rs rr 0 (R.l ++ []).length (m.v id) false
        rw [hy, List.append_nil, kv, hQl]
      · have hn : neqN (slen es) 0 = false := by
          have : es.length ≠ 0 := by rw [hlen]; exact fun h => he (List.eq_nil_of_length_eq_zero h)
          simp [neqN, slen, this]
        have hap : rowAp Q R.τ.size 0 Q.c.length Q.ver false bytes es = some ({ Q with c := Q.c ++ es, ver := Q.ver + 1 }, Q.c.length + es.length) := by
          unfold rowAp
          rw [if_pos ⟨k3, rfl, rfl, rfl, rfl, kf, by rw [hlen, hQl]; exact q1, by rw [hlen, hQl]; exact q2⟩]
        obtain ⟨m', z1, z2, z3⟩ := hr.rowUpd (R2 := ⟨R.τ, R.l ++ xs, R.ver + 1, R.sv, R.sh⟩) hR (some rr) (Q.ver + 1) (Q.c ++ es) (Nat.le_succ _) (Nat.le_refl _) (fun h => by have : R.ver + 1 = R.ver := h; omega)
          (σ' := { σ with rw := σ.rw.set rr { Q with c := Q.c ++ es, ver := Q.ver + 1 }, wrr := rr :: σ.wrr }) rfl
          ⟨{ Q with c := Q.c ++ es, ver := Q.ver + 1 }, by show (σ.rw.set rr _)[rr]? = _; rw [List.getElem?_set_self hrl], rfl, rfl, k3, decLs_append k4 hd, by show Q.fz ≤ (Q.c ++ es).length; rw [List.length_append]; omega, ks⟩ fun id' r'' hne hlt hr'' => by
            have hnr := hr.others hR hrr hne hlt hr''
            exact ⟨fun hee => hnr (Option.some.inj hee).symm, fun Q' hQ' => by show (σ.rw.set rr _)[r'']? = _; rw [List.getElem?_set_ne (Ne.symm hnr)]; exact hQ'⟩
        refine .to h (y := .rs rr 0 (Q.c.length + es.length) (Q.ver + 1) false) (by rw [hy]; simp only [appendA, hn, k1, hap]) z1 z2 (z3 _ ?_)
        show _ = AV.rs rr 0 (R.l ++ xs).length (Q.ver + 1) false
        rw [List.length_append, hQl, hlen]
    · have hnoR : ∀ id' r'', id' ≠ id → id' < m.rw.length → m.r id' = some r'' → r'' < σ.rw.length := fun _ _ _ hlt h => hr.row_lt hlt h
      by_cases he : xs = []
      · subst he
        have : es = [] := List.eq_nil_of_length_eq_zero (by simpa using hlen)
        subst this
        obtain ⟨m', z1, z2, z3⟩ := hr.rowUpd (R2 := ⟨R.τ, R.l ++ [], R.ver + 1, R.sv, R.sh⟩) hR none 0 [] (Nat.le_succ _) (Nat.le_refl _) (fun h => by have : R.ver + 1 = R.ver := h; omega) (σ' := σ) rfl
          (fun hs => by show R.l ++ [] = []; rw [hq hs]; rfl) fun id' r'' hne hlt hr'' => ⟨fun hee => (by cases hee), fun _ h => h⟩
        refine ⟨_, some _, y, none, m', h, ?_, z1, z2, z3 y ⟨by show dlist R.τ y = some (R.l ++ []); rw [List.append_nil]; exact hy, hlv⟩, fun h => by cases h⟩
        rcases dlist_v hy with ⟨rfl, _⟩ | ⟨es, n, rfl, _⟩ <;> rfl
      · have hn : neqN (slen es) 0 = false := by
          have : es.length ≠ 0 := by rw [hlen]; exact fun h => he (List.eq_nil_of_length_eq_zero h)
          simp [neqN, slen, this]
        have key : ∀ es2, decLs (decV R.τ) es2 = some (R.l ++ xs) → appendA R.τ.size bytes σ y es = (match Go.AmYtmodnblfcikjlaaGreat.rowNew R.τ.size bytes es2 with | some (R, n) => some (.rs σ.rw.length 0 n 0 false, some { σ with rw := σ.rw ++ [R] }) | none => none) → Sim N m E τ tm σ K r (appendA R.τ.size bytes σ y es) := by
          intro es2 hd2 hap
          have hle := decLs_len hd2
          rw [List.length_append] at hle
          have hrn : rowNew R.τ.size bytes es2 = some (⟨R.τ.size, es2, 0, 0⟩, es2.length) := by
            unfold Go.AmYtmodnblfcikjlaaGreat.rowNew
            rw [if_pos ⟨by rw [hle]; exact q1, by rw [hle]; exact q2⟩]
          obtain ⟨m', z1, z2, z3⟩ := hr.rowUpd (R2 := ⟨R.τ, R.l ++ xs, R.ver + 1, R.sv, R.sh⟩) hR (some σ.rw.length) 0 es2 (Nat.le_succ _) (Nat.le_refl _) (fun h => by have : R.ver + 1 = R.ver := h; omega)
            (σ' := { σ with rw := σ.rw ++ [⟨R.τ.size, es2, 0, 0⟩] }) rfl
            ⟨⟨R.τ.size, es2, 0, 0⟩, by show (σ.rw ++ [_])[σ.rw.length]? = _; simp, rfl, rfl, rfl, hd2, Nat.zero_le _, fun _ => rfl⟩ fun id' r'' hne hlt hr'' => by
              have := hnoR id' r'' hne hlt hr''
              exact ⟨fun hee => by have := Option.some.inj hee; omega, fun Q' hQ' => by show (σ.rw ++ [_])[r'']? = _; rw [List.getElem?_append_left this]; exact hQ'⟩
          refine .to h (y := .rs σ.rw.length 0 es2.length 0 false) (by rw [hap, hrn]) z1 z2 (z3 _ ?_)
          show _ = AV.rs σ.rw.length 0 (R.l ++ xs).length 0 false
          rw [List.length_append, hle]
        rcases dlist_v hy with ⟨rfl, hl⟩ | ⟨es0, n, rfl, hl⟩
        · exact key es (by rw [hl]; exact hd) (by simp only [appendA, hn]; rfl)
        · have hc : (decide (1 < n + 1) && neqN R.τ.size R.τ.size && uni R.τ.size es0) = true := by
            have : 1 < n + 1 := hlv
            simp only [decide_eq_true this, neqN, decide_true, uni_ok hl, Bool.and_self]
          exact key (sapp es0 es) (decLs_append hl hd) (by simp only [appendA, hn, hc]; rfl)
  · cases h
end
end Go.AmYtmodnblfcikjlaaGreat
namespace Go.AmYtmodnblfcikjlaaGreat
open Go Go.RowKit Go.GxYtmodnblfcikjlaaGreat
section
variable {α : Type} {N : Nat × Nat} {m : Mp} {E : Env} {τ : TS} {tm : List AV} {σ : St} {K : KT α} {r : α} {p : Option (AV × Option St)} {c : TC} {C : Cfg}
theorem isTys_any {m' : Mp} : ∀ {xs : List TV} {ys : List AV}, (xs.all fun | .i .. | .b _ | .s _ | .c _ | .nil | .sl .. => true | _ => false) = true → OKL m xs ys → OKL m' xs ys
  | [], _, _, h => h
  | x :: xs, _, h, ⟨y, r, rfl, h1, h2⟩ => by
    rw [List.all_cons, Bool.and_eq_true] at h
    refine ⟨y, r, rfl, ?_, isTys_any h.2 h2⟩
    have h := h.1
    cases x <;> first | exact h1 | (cases h)
theorem plain_any {m' : Mp} {x : TV} {y : AV} (h : plainT x = true) (ho : OK m x y) : OK m' x y := by
  cases x with
  | fn f cs =>
    have : cs = [] := by simpa [plainT, List.isEmpty_iff] using h
    subst this
    obtain ⟨ds, rfl, hd⟩ := ho
    cases hd
    exact ⟨[], rfl, rfl⟩
  | agg cs =>
    obtain ⟨ds, rfl, hd⟩ := ho
    exact ⟨ds, rfl, isTys_any h hd⟩
  | _ => first | exact ho | (cases h)
structure MvOK (m : Mp) (tm : List AV) (σ : St) (M : Mv) (m' : Mp) : Prop where
  rw : m'.rw = M.rw
  nb : m'.nb = M.bx.length
  box : ∀ b cs, M.bx[b]? = some cs → ∃ ds, σ.bx[m'.b b]? = some ds ∧ OKL m' cs ds
  src : ∀ b', b' < m'.nb → ∃ b, assoc M.mb b = some b' ∧ m'.b b' = m.b b ∧ b < m.nb
  mb : ∀ b b', assoc M.mb b = some b' → b' < m'.nb ∧ m'.b b' = m.b b
  rows : RowsOK m' σ
  rsrc : ∀ id' r, id' < m'.rw.length → m'.r id' = some r → ∃ id, assoc M.mr id = some id' ∧ m.r id = some r ∧ id < m.rw.length
  mr : ∀ id id', assoc M.mr id = some id' → ∃ R R', m.rw[id]? = some R ∧ m'.rw[id']? = some R' ∧ R'.ver = 0 ∧ (∀ y, rowAt (m.r id) (m.v id) R.τ R.l y → rowAt (m'.r id') (m'.v id') R'.τ R'.l y)
  env : ∀ t, OK m' (get M.E t) (tm.getD t .dead)
theorem assoc_cons {b b' k v : Nat} {l : List (Nat × Nat)} (h : assoc ((k, v) :: l) b = some b') : (k = b ∧ v = b') ∨ (k ≠ b ∧ assoc l b = some b') := by
  simp only [assoc] at h
  split at h
  · rename_i hk
    cases h
    exact .inl ⟨Nat.eq_of_beq_eq_true hk, rfl⟩
  · rename_i hk
    exact .inr ⟨fun he => by rw [he] at hk; simp at hk, h⟩
theorem assoc_self {k v : Nat} {l : List (Nat × Nat)} : assoc ((k, v) :: l) k = some v := by simp [assoc]
theorem assoc_ne {b k v : Nat} {l : List (Nat × Nat)} (h : k ≠ b) : assoc ((k, v) :: l) b = assoc l b := by
  simp only [assoc]
  split
  · rename_i hk; exact absurd (Nat.eq_of_beq_eq_true hk) h
  · rfl
theorem MvOK.addRow {M : Mv} {m' : Mp} (h : MvOK m tm σ M m') (R2 : TRow) (ro : Option Nat) (vo : Nat) (qo : List (List AV)) {mr' : List (Nat × Nat)} (h0 : R2.ver = 0)
    (h1 : rowGood σ R2 ro vo qo)
    (h2 : (mr' = M.mr ∧ ro = none) ∨ ∃ id R, assoc M.mr id = none ∧ mr' = (id, M.rw.length) :: M.mr ∧ ro = m.r id ∧ m.rw[id]? = some R ∧ ∀ y, rowAt (m.r id) (m.v id) R.τ R.l y → rowAt ro vo R2.τ R2.l y) :
    ∃ m'', MLe m' m'' ∧ MvOK m tm σ { M with rw := M.rw ++ [R2], mr := mr' } m'' ∧ ∀ y, rowAt ro vo R2.τ R2.l y → OK m'' (.row M.rw.length 0) y := by
  have hle : MLe m' (m'.add R2 ro vo qo) := add_le _ _ _ _ _
  have ga : ∀ {id : Nat} {R : TRow}, m'.rw[id]? = some R → (m'.rw ++ [R2])[id]? = some R ∧ ¬ id = m'.rw.length := fun h => ⟨by rw [List.getElem?_append_left (getElem?_lt h)]; exact h, Nat.ne_of_lt (getElem?_lt h)⟩
  refine ⟨m'.add R2 ro vo qo, hle, ?_, ?_⟩
  · refine ⟨by show m'.rw ++ _ = M.rw ++ _; rw [h.rw], h.nb, ?_, h.src, h.mb, add_rows h.rows h1 fun _ _ h => h, ?_, ?_, fun t => (h.env t).mono hle⟩
    · intro b cs hb
      obtain ⟨ds, g1, g2⟩ := h.box b cs hb
      exact ⟨ds, g1, g2.mono hle⟩
    · intro id' r hlt he
      change id' < (m'.rw ++ [_]).length at hlt
      change (if id' = m'.rw.length then ro else m'.r id') = some r at he
      simp at hlt
      split at he
      · rename_i hid
        rcases h2 with ⟨_, hn⟩ | ⟨id, R, g1, g2, g3, g4, _⟩
        · rw [hn] at he; cases he
        · refine ⟨id, ?_, by rw [← g3]; exact he, getElem?_lt g4⟩
          show assoc mr' id = some id'
          rw [g2, assoc_self, hid, h.rw]
      · obtain ⟨id, k1, k2, k3⟩ := h.rsrc id' r (by omega) he
        refine ⟨id, ?_, k2, k3⟩
        show assoc mr' id = some id'
        rcases h2 with ⟨hm, _⟩ | ⟨id0, R, g1, g2, _⟩
        · rw [hm]; exact k1
        · rw [g2, assoc_ne]
          · exact k1
          · intro hee
            subst hee
            rw [g1] at k1; cases k1
    · intro id id' hid
      change assoc mr' id = some id' at hid
      have old : assoc M.mr id = some id' → ∃ R R', m.rw[id]? = some R ∧ (m'.rw ++ [R2])[id']? = some R' ∧ R'.ver = 0 ∧ (∀ y, rowAt (m.r id) (m.v id) R.τ R.l y → rowAt (if id' = m'.rw.length then ro else m'.r id') (if id' = m'.rw.length then vo else m'.v id') R'.τ R'.l y) := by
        intro hid
        obtain ⟨R0, R', k1, k2, k3, k4⟩ := h.mr id id' hid
        obtain ⟨q1, q2⟩ := ga k2
        exact ⟨R0, R', k1, q1, k3, by rw [if_neg q2, if_neg q2]; exact k4⟩
      rcases h2 with ⟨hm, _⟩ | ⟨id0, R, g1, g2, g3, g4, g5⟩
      · rw [hm] at hid
        exact old hid
      · rw [g2] at hid
        rcases assoc_cons hid with ⟨rfl, rfl⟩ | ⟨_, hid⟩
        · refine ⟨R, R2, g4, by show (m'.rw ++ _)[M.rw.length]? = _; rw [h.rw]; simp, h0, ?_⟩
          show ∀ y, _ → rowAt (if M.rw.length = m'.rw.length then ro else m'.r M.rw.length) (if M.rw.length = m'.rw.length then vo else m'.v M.rw.length) _ _ y
          rw [if_pos (by rw [h.rw]), if_pos (by rw [h.rw])]; exact g5
        · exact old hid
  · intro y hy
    refine ⟨R2, by show (m'.rw ++ _)[M.rw.length]? = _; rw [h.rw]; simp, Nat.zero_le _, hy.ish, fun _ => ?_⟩
    show rowAt (if M.rw.length = m'.rw.length then ro else m'.r M.rw.length) (if M.rw.length = m'.rw.length then vo else m'.v M.rw.length) _ _ y
    rw [if_pos (by rw [h.rw]), if_pos (by rw [h.rw])]; exact hy
theorem MvOK.addBox {M : Mv} {m' : Mp} (h : MvOK m tm σ M m') {b : Nat} (hb : b < m.nb) (hn : assoc M.mb b = none) {ys : List TV} {ds : List AV} (hd : σ.bx[m.b b]? = some ds) (ho : OKL m' ys ds) :
    ∃ m'', MLe m' m'' ∧ MvOK m tm σ { M with bx := M.bx ++ [ys], mb := (b, M.bx.length) :: M.mb } m'' ∧ OK m'' (.ptr M.bx.length 0) (.ptr (m.b b) 0) := by
  have hle : MLe m' { m' with b := fun i => if i = m'.nb then m.b b else m'.b i, nb := m'.nb + 1 } :=
    ⟨Nat.le_succ _, fun i hi => if_neg (Nat.ne_of_lt hi), fun id R h => ⟨R, h, Nat.le_refl _, Nat.le_refl _, fun _ => ⟨rfl, rfl, rfl, rfl, (fun _ => rfl), fun _ _ h => h⟩⟩⟩
  refine ⟨_, hle, ?_, ?_⟩
  · refine ⟨h.rw, by show m'.nb + 1 = (M.bx ++ [ys]).length; rw [h.nb]; simp, ?_, ?_, ?_, h.rows, h.rsrc, h.mr, fun t => (h.env t).mono hle⟩
    · intro i cs hi
      change (M.bx ++ [ys])[i]? = some cs at hi
      show ∃ ds, σ.bx[if i = m'.nb then m.b b else m'.b i]? = some ds ∧ _
      by_cases he : i = m'.nb
      · rw [if_pos he]
        rw [he, h.nb] at hi
        simp at hi
        subst hi
        exact ⟨ds, hd, ho.mono hle⟩
      · rw [if_neg he]
        have hlt : i < M.bx.length := by have := getElem?_lt hi; simp at this; have := h.nb; omega
        rw [List.getElem?_append_left hlt] at hi
        obtain ⟨ds', g1, g2⟩ := h.box i cs hi
        exact ⟨ds', g1, g2.mono hle⟩
    · intro b' hb'
      change b' < m'.nb + 1 at hb'
      show ∃ b0, assoc ((b, M.bx.length) :: M.mb) b0 = some b' ∧ (if b' = m'.nb then m.b b else m'.b b') = m.b b0 ∧ b0 < m.nb
      by_cases he : b' = m'.nb
      · exact ⟨b, by rw [assoc_self, he, h.nb], if_pos he, hb⟩
      · obtain ⟨b0, g1, g2, g3⟩ := h.src b' (by omega)
        refine ⟨b0, ?_, by rw [if_neg he]; exact g2, g3⟩
        rw [assoc_ne]
        · exact g1
        · intro hee; subst hee; rw [hn] at g1; cases g1
    · intro b0 b' hb'
      change assoc ((b, M.bx.length) :: M.mb) b0 = some b' at hb'
      show b' < m'.nb + 1 ∧ (if b' = m'.nb then m.b b else m'.b b') = m.b b0
      rcases assoc_cons hb' with ⟨rfl, rfl⟩ | ⟨_, hb'⟩
      · rw [← h.nb]
        exact ⟨Nat.lt_succ_self _, if_pos rfl⟩
      · obtain ⟨g1, g2⟩ := h.mb b0 b' hb'
        exact ⟨by omega, by rw [if_neg (Nat.ne_of_lt g1)]; exact g2⟩
  · refine ⟨?_, ?_⟩
    · show M.bx.length < m'.nb + 1
      rw [h.nb]; exact Nat.lt_succ_self _
    · show _ = AV.ptr (if M.bx.length = m'.nb then m.b b else m'.b M.bx.length) 0
      rw [if_pos h.nb.symm]
mutual
theorem mvT_ok (hr : Rel N m E τ tm σ) : ∀ (co : Co) {x : TV} {y : AV} {M : Mv} {m' : Mp} {K : TV → Mv → Option α} {r : α}, mvT τ co x M K = some r → OK m x y → MvOK m tm σ M m' →
    ∃ x' M' m'', K x' M' = some r ∧ MLe m' m'' ∧ MvOK m tm σ M' m'' ∧ OK m'' x' y ∧ M'.E = M.E
  | .keep, x, y, M, m', K, r, h, ho, hM => by
    simp only [mvT] at h
    split at h
    · rename_i hp
      exact ⟨x, M, m', h, .refl m', hM, plain_any hp ho, rfl⟩
    · exact ⟨.dead, M, m', h, .refl m', hM, trivial, rfl⟩
  | .list a, x, y, M, m', K, r, h, ho, hM => by
    simp only [mvT] at h
    split at h
    · cases ho
      exact ⟨_, M, m', h, .refl m', hM, ⟨rfl, by decide⟩, rfl⟩
    · split at h <;> try cases h
      rename_i l hl
      obtain ⟨e, rfl⟩ := castL_some hl
      subst e
      exact ⟨_, M, m', h, .refl m', hM, ⟨ho.1, dlist_lvl ho.1⟩, rfl⟩
    · exact ⟨.dead, M, m', h, .refl m', hM, trivial, rfl⟩
  | .plist a, x, y, M, m', K, r, h, ho, hM => by
    simp only [mvT] at h
    split at h
    · cases ho
      exact ⟨_, M, m', h, .refl m', hM, ⟨rfl, by decide⟩, rfl⟩
    · split at h <;> try cases h
      rename_i l hl
      obtain ⟨e, rfl⟩ := castL_some hl
      subst e
      exact ⟨_, M, m', h, .refl m', hM, ⟨ho.1, dlist_lvl ho.1⟩, rfl⟩
    · exact ⟨.dead, M, m', h, .refl m', hM, trivial, rfl⟩
  | .row a sh, x, y, M, m', K, r, h, ho, hM => by
    simp only [mvT] at h
    split at h
    · cases ho
      obtain ⟨m'', g1, g2, g3⟩ := hM.addRow ⟨a, [], 0, 0, sh⟩ none 0 [] rfl (fun _ => rfl) (.inl ⟨rfl, rfl⟩)
      exact ⟨_, _, m'', h, g1, g2, g3 _ ⟨rfl, Nat.le_refl _⟩, rfl⟩
    · rename_i a' l lv
      split at h <;> try cases h
      rename_i l hl hlv
      obtain ⟨e, rfl⟩ := castL_some hl
      subst e
      have hlv := of_decide_eq_true hlv
      obtain ⟨ho1, ho2⟩ := ho
      split at h
      · obtain ⟨m'', g1, g2, g3⟩ := hM.addRow ⟨a', l, 0, 0, true⟩ none 0 [] rfl (fun h => by cases h) (.inl ⟨rfl, rfl⟩)
        exact ⟨_, _, m'', h, g1, g2, g3 _ ⟨ho1, by omega⟩, rfl⟩
      · split at h <;> try cases h
        rename_i hnil
        have hnil : l = [] := hnil
        subst hnil
        obtain ⟨m'', g1, g2, g3⟩ := hM.addRow ⟨a', [], 0, 0, false⟩ none 0 [] rfl (fun _ => rfl) (.inl ⟨rfl, rfl⟩)
        exact ⟨_, _, m'', h, g1, g2, g3 _ ⟨ho1, by omega⟩, rfl⟩
    · rename_i id ver
      split at h <;> try cases h
      rename_i R hR
      split at h <;> try cases h
      rename_i hv
      rw [Bool.and_eq_true] at hv
      have hsh := hv.2
      have hv : R.ver = ver := Nat.eq_of_beq_eq_true hv.1
      split at h <;> try cases h
      rename_i l hl
      obtain ⟨e, rfl⟩ := castL_some hl
      subst e
      obtain ⟨R', k1, _, _, k2⟩ := ho
      rw [hr.rw, hR] at k1; cases k1
      have hy := k2 hv
      have hR' : m.rw[id]? = some R := by rw [hr.rw]; exact hR
      split at h
      · rename_i id' has
        obtain ⟨R0, R1, z1, z2, z3, z4⟩ := hM.mr id id' has
        rw [hR'] at z1; cases z1
        exact ⟨_, M, m', h, .refl m', hM, ⟨R1, z2, Nat.zero_le _, hy.ish, fun _ => z4 y hy⟩, rfl⟩
      · rename_i has
        have hrow := hr.rows id R hR'
        have hrow2 : rowGood σ ⟨R.τ, R.l, 0, 0, sh⟩ (m.r id) (m.v id) (m.q id) := by
          have hs : sh = false → R.sh = false := by
            intro h0
            rw [h0] at hsh
            simpa using hsh
          revert hrow
          cases m.r id with
          | none => intro hrow h0; exact hrow (hs h0)
          | some rr =>
            rintro ⟨Q, q1, q2, q3, q4, q5, q6, q7⟩
            exact ⟨Q, q1, q2, q3, q4, q5, q6, fun h0 => q7 (hs h0)⟩
        obtain ⟨m'', g1, g2, g3⟩ := hM.addRow ⟨R.τ, R.l, 0, 0, sh⟩ (m.r id) (m.v id) (m.q id) rfl hrow2 (.inr ⟨id, R, has, rfl, rfl, hR', fun _ h => h⟩)
        exact ⟨_, _, m'', h, g1, g2, g3 y hy, rfl⟩
    · cases h
  | .box cs, x, y, M, m', K, r, h, ho, hM => by
    simp only [mvT] at h
    split at h
    case h_2 => cases h
    rename_i b
    obtain ⟨hb, rfl⟩ := ho
    split at h
    · rename_i b' has
      obtain ⟨g1, g2⟩ := hM.mb b b' has
      exact ⟨_, M, m', h, .refl m', hM, ⟨g1, by rw [g2]⟩, rfl⟩
    · split at h <;> try cases h
      rename_i xs hxs
      obtain ⟨ds, k1, k2⟩ := hr.box b xs hxs
      obtain ⟨ys, M', m'', q1, q2, q3, q4, q5⟩ := mvL_ok hr cs h k2 hM
      split at q1
      case h_2 => cases q1
      rename_i has
      obtain ⟨m3, z1, z2, z3⟩ := q3.addBox hb has k1 q4
      exact ⟨_, _, m3, q1, q2.trans z1, z2, z3, q5⟩
theorem mvL_ok (hr : Rel N m E τ tm σ) : ∀ (cs : List Co) {xs : List TV} {ys : List AV} {M : Mv} {m' : Mp} {K : List TV → Mv → Option α} {r : α}, mvL τ cs xs M K = some r → OKL m xs ys → MvOK m tm σ M m' →
    ∃ xs' M' m'', K xs' M' = some r ∧ MLe m' m'' ∧ MvOK m tm σ M' m'' ∧ OKL m'' xs' ys ∧ M'.E = M.E
  | [], xs, ys, M, m', K, r, h, ho, hM => by
    cases xs with
    | nil => simp only [mvL] at h; cases ho; exact ⟨[], M, m', h, .refl m', hM, rfl, rfl⟩
    | cons x xs => simp only [mvL] at h; cases h
  | co :: cs, xs, ys, M, m', K, r, h, ho, hM => by
    cases xs with
    | nil => simp only [mvL] at h; cases h
    | cons x xs =>
      simp only [mvL] at h
      obtain ⟨y, rr, rfl, h1, h2⟩ := ho
      obtain ⟨x', M1, m1, q1, q2, q3, q4, q5⟩ := mvT_ok hr co h h1 hM
      obtain ⟨xs', M2, m2, z1, z2, z3, z4, z5⟩ := mvL_ok hr cs q1 h2 q3
      exact ⟨x' :: xs', M2, m2, z1, q2.trans z2, z3, ⟨y, rr, rfl, q4.mono z2, z4⟩, z5.trans q5⟩
end
theorem get_app {E : Env} {t : Nat} {x : TV} {s : Nat} {y : AV} {m' : Mp} (h1 : OK m' (get E s) y) (h2 : t = s → OK m' x y) : OK m' (get (E ++ [(t, x)]) s) y := by
  induction E with
  | nil =>
    simp only [List.nil_append, get]
    split
    · rename_i hk; exact h2 (Nat.eq_of_beq_eq_true hk)
    · trivial
  | cons q E ih =>
    simp only [List.cons_append, get] at h1 ⊢
    split
    · rename_i hk; rw [hk] at h1; exact h1
    · rename_i hk; rw [hk] at h1; exact ih h1
theorem pinB_ok {mb : List (Nat × Nat)} : ∀ {n : Nat}, pinB mb n = true → ∀ i, i < n → assoc mb i = some i
  | 0, _, i, hi => absurd hi (Nat.not_lt_zero _)
  | n + 1, h, i, hi => by
    rw [pinB, Bool.and_eq_true] at h
    by_cases he : i = n
    · subst he
      have h := h.1
      split at h
      · rename_i j hj
        rw [hj, ← Nat.eq_of_beq_eq_true h]
      · cases h
    · exact pinB_ok h.2 i (by omega)
theorem MvOK.rel (hr : Rel N m E τ tm σ) {M : Mv} {m' : Mp} (h : MvOK m tm σ M m') (hp : pinB M.mb N.2 = true) : Rel N m' M.E ⟨M.bx, M.rw⟩ tm σ := by
  refine ⟨hr.len, h.env, h.rw, h.nb, h.box, ?_, h.rows, ?_, fun i hi => ?_⟩
  rotate_right
  · have has := pinB_ok hp i hi
    obtain ⟨g1, g2⟩ := h.mb i i has
    exact ⟨g1, g2.trans (hr.pin i hi).2⟩
  · intro b1 b2 h1 h2 he
    obtain ⟨c1, g1, g2, g3⟩ := h.src b1 h1
    obtain ⟨c2, k1, k2, k3⟩ := h.src b2 h2
    have : c1 = c2 := hr.inj c1 c2 g3 k3 (by rw [← g2, ← k2, he])
    subst this
    rw [g1] at k1
    exact Option.some.inj k1
  · intro i1 i2 r h1 h2 e1 e2
    obtain ⟨c1, g1, g2, g3⟩ := h.rsrc i1 r h1 e1
    obtain ⟨c2, k1, k2, k3⟩ := h.rsrc i2 r h2 e2
    have : c1 = c2 := hr.rinj c1 c2 r g3 k3 g2 k2
    subst this
    rw [g1] at k1
    exact Option.some.inj k1
theorem mvE_ok (hr : Rel N m E τ tm σ) : ∀ (l : List (Tmp × Co)) {M : Mv} {m' : Mp} {K : Env → TS → Option α} {r : α}, mvE N.2 τ E l M K = some r → MvOK m tm σ M m' →
    ∃ E' τ' m'', K E' τ' = some r ∧ Rel N m'' E' τ' tm σ
  | [], M, m', K, r, h, hM => by
    simp only [mvE] at h
    split at h <;> try cases h
    rename_i hp
    exact ⟨_, _, m', h, hM.rel hr hp⟩
  | (t, co) :: l, M, m', K, r, h, hM => by
    simp only [mvE] at h
    obtain ⟨x', M1, m1, q1, q2, q3, q4, q5⟩ := mvT_ok hr co h (hr.env t) hM
    refine mvE_ok hr l q1 (m' := m1) ?_
    refine ⟨q3.rw, q3.nb, q3.box, q3.src, q3.mb, q3.rows, q3.rsrc, q3.mr, fun s => ?_⟩
    exact get_app (q3.env s) fun he => by subst he; exact q4
theorem mv_ok (hr : Rel N m E τ tm σ) {l : List (Tmp × Co)} {K : Env → TS → Option α} {r : α} (h : mvE N.2 τ E l ⟨[], [], [], [], []⟩ K = some r) : ∃ E' τ' m'', K E' τ' = some r ∧ Rel N m'' E' τ' tm σ :=
  mvE_ok hr l (m' := mp0) h
    ⟨rfl, rfl, fun b cs h => by simp at h, fun b' h => absurd h (Nat.not_lt_zero _), fun b b' h => by simp [assoc] at h, fun id R h => (by cases h), fun id r h => absurd h (Nat.not_lt_zero _), fun id id' h => by simp [assoc] at h, fun t => trivial⟩
end
end Go.AmYtmodnblfcikjlaaGreat
namespace Go.AmYtmodnblfcikjlaaGreat
open Go Go.RowKit Go.GxYtmodnblfcikjlaaGreat
section
variable {α : Type} {N : Nat × Nat} {m : Mp} {E : Env} {τ : TS} {tm : List AV} {σ : St} {K : KT α} {r : α} {p : Option (AV × Option St)} {c : TC} {C : Cfg}
theorem builtin_sim {b : Builtin} {ts : Array TypeId} {xs : List TV} {ys : List AV} (hty : C.ty = c.ty) (hr : Rel N m E τ tm σ) (ho : OKL m xs ys) (h : builtinT c τ b ts xs K = some r) : Sim N m E τ tm σ K r (builtinA C σ b ts ys) := by
  unfold builtinT at h
  split at h
  · rename_i x
    obtain ⟨y, r', rfl, h1, h2⟩ := ho
    cases h2
    split at h <;> try cases h
    rename_i t ht
    split at h <;> try cases h
    rename_i d hd
    split at h <;> try cases h
    · rename_i s hk
      cases h1
      refine .same hr h (y := .v (.int .i64 s.length)) ?_ rfl
      have : xlen ⟨s.toArray⟩ = s.length := by simp [xlen, ByteArray.size]
      simp only [builtinA, ht, hty, hd, lenA, hk, isString, this]
    · rename_i hk
      cases h1
      refine .same hr h (y := .v (.int .i64 0)) ?_ rfl
      simp only [builtinA, ht, hty, hd, lenA, hk, isSlice]
      rfl
    · rename_i a l lv hk
      refine .same hr h (y := .v (.int .i64 l.length)) ?_ rfl
      rcases dlist_v h1.1 with ⟨rfl, hl⟩ | ⟨es, n, rfl, hl⟩
      · rw [hl]
        simp only [builtinA, ht, hty, hd, lenA, hk, isSlice]
        rfl
      · have := decLs_len hl
        simp only [builtinA, ht, hty, hd, lenA, hk, isSlice, slen, this]
    · rename_i id ver hk
      split at h <;> try cases h
      rename_i R hR
      split at h <;> try cases h
      rename_i hv
      obtain ⟨R', g1, _, _, g2⟩ := h1
      rw [hr.rw, hR] at g1; cases g1
      have hy := g2 (Nat.eq_of_beq_eq_true hv)
      refine .same hr h (y := .v (.int .i64 R.l.length)) ?_ rfl
      rcases row_cur hr.rows (by rw [hr.rw]; exact hR) hy with ⟨r, Q, _, rfl, _, _, _, _, g5, _⟩ | ⟨_, _, hd', _⟩
      · simp only [builtinA, ht, hty, hd, lenA, hk, isSlice]
        rw [decLs_len g5]
      · rcases dlist_v hd' with ⟨rfl, hl⟩ | ⟨es, n, rfl, hl⟩
        · rw [hl]
          simp only [builtinA, ht, hty, hd, lenA, hk, isSlice]
          rfl
        · have := decLs_len hl
          simp only [builtinA, ht, hty, hd, lenA, hk, isSlice, slen, this]
  · rename_i s x
    obtain ⟨y, r1, rfl, h1, z, r2, rfl, h2, h3⟩ := ho
    cases h3
    split at h <;> try cases h
    rename_i t u ht hu
    split at h <;> try cases h
    rename_i k bytes zz _ _ _ _ _ _ _ _ a hd1 hd2 he
    split at h <;> try cases h
    rename_i hc
    simp only [Bool.and_eq_true, decide_eq_true_eq] at hc
    obtain ⟨⟨hk0, hz⟩, hk⟩ := hc
    split at h <;> try cases h
    rename_i xs hxs
    rw [← hr.rw] at hxs
    obtain ⟨es, g1, g2, _⟩ := list_ok hr.rows hxs h2
    have := app_sim (bytes := bytes) hr h1 g2 (by rw [← hk]; exact h)
    rw [← hk] at g1 this
    have hu' : uni k es = true := by rw [hk]; exact uni_ok g2
    have e : builtinA C σ .append ts [y, z] = appendA k bytes σ y es := by
      simp only [builtinA, ht, hu, hty, hd1, hd2, hk0, hz, decide_true, Bool.and_self, g1, hu']
    rw [e]; exact this
  · obtain ⟨y, r1, rfl, h1, z, r2, rfl, h2, h3⟩ := ho
    cases h3; cases h1; cases h2
    split at h <;> try cases h
    rename_i hk
    exact .same hr h (by simp only [builtinA, hk]) rfl
  · obtain ⟨y, r1, rfl, h1, z, r2, rfl, h2, h3⟩ := ho
    cases h3; cases h1; cases h2
    split at h <;> try cases h
    rename_i hk
    exact .same hr h (by simp only [builtinA, hk]) rfl
  · cases h
theorem op_sim {op : Op} (hr : Rel N m E τ tm σ) (h : opT c E τ op K = some r) : Sim N m E τ tm σ K r (popA c.pc tm σ op) := by
  unfold opT at h
  split at h
  · exact builtin_sim (C := c.pc.cfg) rfl hr (hr.evs _) h
  · rename_i g args ts
    split at h <;> try cases h
    rename_i f hg
    have hv := hr.ev g
    rw [hg] at hv
    obtain ⟨ds, hv, hd⟩ := hv
    cases hd
    have := call_sim hr (hr.evs args.toList) h
    have e : popA c.pc tm σ (.call ⟨.value g, args, ts⟩) = pcall c.pc f σ (args.toList.map (aev tm)) := by
      simp only [popA, hv, List.append_nil]
    rw [e]; exact this
  · cases h
  · rename_i n1 n2 n3
    have := step_sim (C := c.pc.cfg) rfl hr h
    have e : popA c.pc tm σ op = stepOp c.pc.cfg tm σ op := by
      unfold popA
      split
      · exact absurd rfl (n1 _ _ _)
      · exact absurd rfl (n2 _ _ _)
      · exact absurd rfl (n3 _)
      · rfl
    rw [e]; exact this
theorem Rel.put (hr : Rel c.n2 m E τ tm σ) {d : Option Tmp} {x : TV} {y : AV} (ho : OK m x y) {K : Env → Option α} (h : putT c E d x K = some r) : ∃ E', K E' = some r ∧ Rel c.n2 m E' τ (putA tm d y) σ := by
  unfold putT at h
  split at h
  · exact ⟨E, h, hr⟩
  · rename_i d
    split at h <;> try cases h
    rename_i hd
    have hd : d < c.nt := Nat.lt_of_succ_le (by simpa [Nat.blt] using hd)
    refine ⟨_, h, ?_⟩
    refine ⟨by show (tm.set d y).length = _; rw [List.length_set]; exact hr.len, fun t => ?_, hr.rw, hr.nb, hr.box, hr.inj, hr.rows, hr.rinj, hr.pin⟩
    show OK m (get ((d, x) :: E) t) ((tm.set d y).getD t .dead)
    have hdl : d < tm.length := by rw [hr.len]; exact hd
    simp only [get]
    split
    · rename_i hk
      have hk : d = t := Nat.eq_of_beq_eq_true hk
      subst hk
      rw [List.getD_eq_getElem?_getD, List.getElem?_set_self hdl]
      exact ho
    · rename_i hk
      have hk : d ≠ t := fun he => by rw [he] at hk; simp at hk
      have := hr.env t
      rw [List.getD_eq_getElem?_getD, List.getElem?_set_ne hk, ← List.getD_eq_getElem?_getD]
      exact this
theorem Rel.know (hr : Rel N m E τ tm σ) {d : Nat} {x : TV} (h : OK m x (tm.getD d .dead)) : Rel N m ((d, x) :: E) τ tm σ := by
  refine ⟨hr.len, fun t => ?_, hr.rw, hr.nb, hr.box, hr.inj, hr.rows, hr.rinj, hr.pin⟩
  simp only [get]
  split
  · rename_i hk
    have hk : d = t := Nat.eq_of_beq_eq_true hk
    subst hk; exact h
  · exact hr.env t
theorem want_sim {ops : Array Oper} {o : Oper} {K : Bool → Env → Option α} (hr : Rel N m E τ tm σ) (h : wantT ops E o K = some r) : ∃ w E', wantA ops tm o = some w ∧ K w E' = some r ∧ Rel N m E' τ tm σ := by
  unfold wantT at h
  unfold wantA
  split at h
  · rename_i hg
    exact ⟨true, E, by rw [hg], h, hr⟩
  · rename_i j want hg
    rw [hg]
    simp only
    split at h <;> try cases h
    rename_i d hd
    rw [hd]
    simp only
    have hx := hr.env d
    split at h <;> try cases h
    · rename_i x hgx
      rw [hgx] at hx
      have hx : tm.getD d .dead = .v (.bool x) := hx
      rw [hx]
      cases want with
      | true =>
        cases x with
        | true => exact ⟨true, _, rfl, h, hr.know hx⟩
        | false => exact ⟨false, _, rfl, h, hr.know hx⟩
      | false =>
        cases x with
        | true => exact ⟨false, _, rfl, h, hr.know hx⟩
        | false => exact ⟨true, _, rfl, h, hr.know hx⟩
    · rename_i hgx
      rw [hgx] at hx
      obtain ⟨ds, hx, hd⟩ := hx
      cases hd
      rw [hx]
      exact ⟨false, E, rfl, h, hr⟩
variable {Q : Ex → S → Prop} {k : List It}
theorem ops_sim {ops : Array Oper} {draw : Bool} : ∀ {l : List Oper} {m : Mp} {E : Env} {τ : TS} {tm : List AV} {σ : St} {Kf : Env → TS → Option α}, opsT c ops draw l E τ Kf = some r → Rel c.n2 m E τ tm σ →
    (∀ m E τ tm σ, Kf E τ = some r → Rel c.n2 m E τ tm σ → Go c.pc Q k .normal ⟨tm, σ⟩) → Go c.pc Q (.ops ops draw l :: k) .normal ⟨tm, σ⟩
  | [], m, E, τ, tm, σ, Kf, h, hr, hK => by
    rw [go_ops_nil]
    exact hK m E τ tm σ h hr
  | o :: rest, m, E, τ, tm, σ, Kf, h, hr, hK => by
    simp only [opsT] at h
    rw [go_ops]
    obtain ⟨w, E', hw, h, hr⟩ := want_sim hr h
    rw [hw]
    cases w with
    | true =>
      rw [want_true]
      simp only at h
      obtain ⟨x, τ', y, σ', m', h, hp, hle, hr', ho, hs⟩ := op_sim hr h
      rw [hp]
      cases τ' with
      | none =>
        rw [hs rfl] at hr' ⊢
        rw [put_one]
        obtain ⟨E2, h, hr2⟩ := hr'.put ho h
        exact ops_sim h hr2 hK
      | some τ' =>
        simp only at h
        split at h <;> try cases h
        rename_i hd
        obtain ⟨E2, h, hr2⟩ := Rel.put (τ := τ') hr' ho h
        cases σ' with
        | none =>
          rw [put_one]
          exact ops_sim h hr2 hK
        | some σ' =>
          rw [put_two]
          exact ⟨by rw [TC.raw_eq]; exact hd, ops_sim h hr2 hK⟩
    | false =>
      rw [want_false]
      simp only at h
      obtain ⟨E2, h, hr2⟩ := hr.put (x := .tup []) (y := undefA) ⟨[], rfl, rfl⟩ h
      exact ops_sim h hr2 hK
variable {fin : Env → TS → Option α} {L : List It → Env → TS → Option α} {Qr : α → Ex → S → Prop}
def FinOK (c : TC) (fin : Env → TS → Option α) (Qr : α → Ex → S → Prop) : Prop := ∀ E τ r m tm σ, fin E τ = some r → Rel c.n2 m E τ tm σ → ∀ e, e = .ret ∨ e = .normal → Qr r e ⟨tm, σ⟩
def LOK (c : TC) (L : List It → Env → TS → Option α) (Qr : α → Ex → S → Prop) : Prop := ∀ st E τ r m tm σ, L st E τ = some r → Rel c.n2 m E τ tm σ → Go c.pc (Qr r) st .normal ⟨tm, σ⟩
theorem box_sim (hr : Rel N m E τ tm σ) {ops : Array Oper} {k : Nat} {t : Tmp} {b : Nat} (h : boxT E ops k t = some b) : b < m.nb ∧ boxAt' tm ops k t = some (m.b b) := by
  unfold boxT at h
  unfold boxAt'
  split at h <;> try cases h
  rename_i u hu
  split at h <;> cases h
  rename_i o hg
  have := hr.env u
  rw [hg] at this
  obtain ⟨h1, h2⟩ := this
  rw [hu]
  simp only
  rw [h2]
  exact ⟨h1, rfl⟩
theorem apart1_sim (hr : Rel N m E τ tm σ) {ops : Array Oper} {j i : Nat} {o q : Oper} (h : apart1T E ops j o i q = true) : apart1 tm ops j o i q = true := by
  unfold apart1T at h
  unfold apart1
  split at h
  case h_2 => cases h
  rename_i h1 h2
  split at h
  case h_2 => cases h
  rename_i x y hx hy
  obtain ⟨a1, a2⟩ := box_sim hr hx
  obtain ⟨b1, b2⟩ := box_sim hr hy
  simp only [h1, h2, a2, b2]
  have hne : x ≠ y := fun he => by rw [he] at h; simp at h
  have : m.b x ≠ m.b y := fun he => hne (hr.inj x y a1 b1 he)
  have hb : Nat.beq (m.b x) (m.b y) = false := by
    cases hb : Nat.beq (m.b x) (m.b y) with
    | true => exact absurd (Nat.eq_of_beq_eq_true hb) this
    | false => rfl
  rw [hb]; rfl
theorem gate_sim (hr : Rel N m E τ tm σ) {ops : Array Oper} {d : Bool} {raw : Nat → Bool} (h : gateT raw E ops d = true) : gateA raw tm ops d = true := by
  cases d with
  | false => rfl
  | true =>
    show okDraw raw tm ops = true
    simp only [gateT, List.all_eq_true, Bool.and_eq_true, decide_eq_true_eq, Bool.or_eq_true, Bool.not_eq_true'] at h
    simp only [okDraw, List.all_eq_true, Bool.and_eq_true, decide_eq_true_eq, Bool.or_eq_true, Bool.not_eq_true']
    intro p hp
    obtain ⟨g1, g2⟩ := h p hp
    refine ⟨g1, fun q hq => ?_⟩
    rcases g2 q hq with (g | g) | g
    · exact .inl (.inl g)
    · refine .inl (.inr ?_)
      unfold barsT at g
      unfold bars
      rw [Bool.or_eq_false_iff] at g ⊢
      refine ⟨g.1, ?_⟩
      rw [Bool.and_eq_false_iff] at *
      rcases g.2 with g | g
      · exact .inl g
      · right
        simp only [Bool.not_eq_false', Bool.or_eq_true] at g
        unfold apartA
        simp only [Bool.not_eq_false', Bool.or_eq_true]
        exact g.imp (apart1_sim hr) (apart1_sim hr)
    · exact .inr g
theorem setB_ok (hr : Rel N m E τ tm σ) {x : Operand} {b : Bool} (h : evT E x = .b b) {b' : Bool} (hb : b = b') : Rel N m (setB E x b') τ tm σ := by
  subst hb
  unfold setB
  split
  · rename_i t
    refine hr.know ?_
    have := hr.env t
    have h : get E t = .b b := h
    rw [h] at this; exact this
  · exact hr
/-- A slot of a loop whose row is a list from here on. -/
theorem pur_rel (hr : Rel N m E τ tm σ) (t : Nat) {x' : TV} (hx : rsA (tm.getD t .dead) = [] → OK (shM m) x' (tm.getD t .dead)) (hp : rsA (tm.getD t .dead) ≠ [] → OK (shM m) x' (purA σ.rw (tm.getD t .dead))) :
    Rel N (shM m) ((t, x') :: E) (shA τ) (pur1 ⟨tm, σ⟩ t).tm (pur1 ⟨tm, σ⟩ t).σ := by
  unfold pur1
  cases hrs : rsA (tm.getD t .dead) with
  | nil =>
    simp only [hrs]
    exact (hr.share rfl hr.rows.sh).know (hx hrs)
  | cons q l =>
    simp only [hrs]
    have hp := hp (by rw [hrs]; intro h; cases h)
    have h1 := hr.share (σ' := { σ with rw := frz σ.rw (q :: l), wrr := (q :: l) ++ σ.wrr }) rfl (hr.rows.frz _ _)
    have hlt : t < tm.length := by
      apply Nat.lt_of_not_le
      intro hle
      rw [List.getD_eq_getElem?_getD, List.getElem?_eq_none hle] at hrs
      cases hrs
    refine ⟨by rw [List.length_set]; exact h1.len, fun u => ?_, h1.rw, h1.nb, h1.box, h1.inj, h1.rows, h1.rinj, h1.pin⟩
    simp only [get]
    split
    · rename_i hk
      have hk : t = u := Nat.eq_of_beq_eq_true hk
      subst hk
      rw [List.getD_eq_getElem?_getD, List.getElem?_set_self hlt]
      exact hp
    · rename_i hk
      have hk : t ≠ u := fun he => by rw [he] at hk; simp at hk
      rw [List.getD_eq_getElem?_getD, List.getElem?_set_ne hk, ← List.getD_eq_getElem?_getD]
      exact h1.env u
theorem pur1_same {t : Nat} (h : rsA (tm.getD t .dead) = []) : pur1 ⟨tm, σ⟩ t = ⟨tm, σ⟩ := by
  unfold pur1
  simp only [h]
theorem pur1_sim (hr : Rel N m E τ tm σ) {t : Nat} {a : Ty} {K : Env → TS → Option α} (h : pur1T E τ t a K = some r) :
    ∃ E' τ' m', K E' τ' = some r ∧ Rel N m' E' τ' (pur1 ⟨tm, σ⟩ t).tm (pur1 ⟨tm, σ⟩ t).σ := by
  have ho := hr.env t
  unfold pur1T at h
  have same : rsA (tm.getD t .dead) = [] → K E τ = some r → ∃ E' τ' m', K E' τ' = some r ∧ Rel N m' E' τ' (pur1 ⟨tm, σ⟩ t).tm (pur1 ⟨tm, σ⟩ t).σ := fun h1 h2 => by
    rw [pur1_same h1]
    exact ⟨E, τ, m, h2, hr⟩
  split at h
  · rename_i he
    rw [he] at ho
    exact same (by rw [show tm.getD t .dead = _ from ho]; rfl) h
  · rename_i he
    rw [he] at ho
    exact same (by rw [show tm.getD t .dead = _ from ho]; rfl) h
  · rename_i he
    rw [he] at ho
    exact same (by rw [show tm.getD t .dead = _ from ho]; rfl) h
  · rename_i he
    rw [he] at ho
    exact same (by rw [show tm.getD t .dead = _ from ho.2]; rfl) h
  · rename_i he
    rw [he] at ho
    exact same (by rw [show tm.getD t .dead = _ from ho]; rfl) h
  · rename_i he
    rw [he] at ho
    refine same ?_ h
    rcases dlist_v ho.1 with ⟨h1, _⟩ | ⟨es, n, h1, _⟩ <;> (rw [h1]; rfl)
  · rename_i id ver he
    rw [he] at ho
    split at h <;> try cases h
    rename_i R hR
    split at h <;> try cases h
    rename_i hv
    have hv' : R.ver = ver := Nat.eq_of_beq_eq_true hv
    split at h <;> try cases h
    rename_i l hl
    have hL : listT m.rw a (.row id ver) = some l := by
      unfold listT
      rw [hr.rw]
      simp only [hR, hv]
      exact hl
    obtain ⟨es, g1, g2, g3⟩ := list_ok hr.rows hL ho
    obtain ⟨e, rfl⟩ := castL_some hl
    subst e
    have e1 : ∀ y : AV, (∀ cs, y ≠ .agg cs) → purA σ.rw y = purC σ.rw y := fun y hy => by cases y <;> first | rfl | exact absurd rfl (hy _)
    obtain ⟨R', k1, _, ki, k3⟩ := ho
    have hna : ∀ cs, tm.getD t .dead ≠ .agg cs := by
      intro cs hc
      rw [hc] at ki
      rcases ki with h | ⟨_, _, _, h⟩ | ⟨_, _, _, _, _, h⟩ <;> cases h
    refine ⟨_, _, _, h, pur_rel hr t (fun hn => ?_) fun _ => ?_⟩
    · have hk := k3 (by rw [hr.rw, hR] at k1; cases k1; exact hv')
      have hd : ∃ y, y = tm.getD t .dead := ⟨_, rfl⟩
      obtain ⟨y, hy⟩ := hd
      rw [← hy] at hk hn ⊢
      rw [hr.rw, hR] at k1; cases k1
      revert hk
      unfold rowAt
      cases m.r id with
      | none => intro hk; exact ⟨hk.1, Nat.le_trans (by decide) hk.2⟩
      | some q => intro hk; rw [hk] at hn; cases hn
    · rw [e1 _ hna]
      exact ⟨g3, dlist_lvl g3⟩
  · rename_i he
    refine ⟨_, _, shM m, h, ?_⟩
    have := pur_rel hr t (x' := .dead) (fun _ => trivial) fun _ => trivial
    refine ⟨this.len, fun u => ?_, this.rw, this.nb, this.box, this.inj, this.rows, this.rinj, this.pin⟩
    by_cases hu : t = u
    · subst hu; rw [he]; trivial
    · have h2 := this.env u
      simp only [get] at h2
      rw [show Nat.beq t u = false from by
        cases hb : Nat.beq t u with
        | true => exact absurd (Nat.eq_of_beq_eq_true hb) hu
        | false => rfl] at h2
      exact h2
  · cases h
theorem pur_sim : ∀ (l : List (Tmp × Co)) {m : Mp} {E : Env} {τ : TS} {tm : List AV} {σ : St} {K : Env → TS → Option α} {r : α}, Rel N m E τ tm σ → purT l E τ K = some r →
    ∃ E' τ' m', K E' τ' = some r ∧ Rel N m' E' τ' (purS (purSlots l) ⟨tm, σ⟩).tm (purS (purSlots l) ⟨tm, σ⟩).σ
  | [], m, E, τ, tm, σ, K, r, hr, h => ⟨E, τ, m, h, hr⟩
  | (t, co) :: l, m, E, τ, tm, σ, K, r, hr, h => by
    cases co with
    | plist a =>
      rw [purT] at h
      obtain ⟨E1, τ1, m1, h1, hr1⟩ := pur1_sim hr h
      exact pur_sim l hr1 h1
    | _ => simp only [purT] at h; exact pur_sim l hr h
theorem run_sim (hf : FinOK c fin Qr) (hL : LOK c L Qr) : ∀ (n : Nat) {st : List It} {e : Ex} {E : Env} {τ : TS} {r : α} {m : Mp} {tm : List AV} {σ : St}, runT c fin L n st e E τ = some r → Rel c.n2 m E τ tm σ → Go c.pc (Qr r) st e ⟨tm, σ⟩ := by
  intro n
  induction n with
  | zero => intro st e E τ r m tm σ h hr; simp [runT] at h
  | succ n ih =>
    intro st e E τ r m tm σ h hr
    cases st with
    | nil =>
      simp only [runT] at h
      rw [go_nil]
      cases e with
      | exit i => cases h
      | normal => exact hf E τ r m tm σ h hr _ (.inr rfl)
      | ret => exact hf E τ r m tm σ h hr _ (.inl rfl)
    | cons it k =>
      cases it with
      | ops os d l => simp [runT] at h
      | blk id =>
        simp only [runT] at h
        cases e with
        | exit i =>
          simp only at h
          rw [go_blk_exit]
          split at h
          · rename_i hi
            have hi : i = id := Nat.eq_of_beq_eq_true hi
            rw [if_pos hi]
            split at h
            · obtain ⟨E', τ', m', h, hr'⟩ := mv_ok hr h
              exact hL k E' τ' r m' tm σ h hr'
            · exact ih h hr
          · rename_i hi
            have hi : i ≠ id := fun he => by rw [he] at hi; simp at hi
            rw [if_neg hi]
            exact ih h hr
        | normal =>
          simp only at h
          rw [go_blk_normal]
          split at h
          · obtain ⟨E', τ', m', h, hr'⟩ := mv_ok hr h
            exact hL k E' τ' r m' tm σ h hr'
          · exact ih h hr
        | ret => rw [go_blk_ret]; simp only at h; exact ih h hr
      | code cd =>
        cases e with
        | exit i => simp only [runT] at h; rw [go_code_exit]; exact ih h hr
        | ret => simp only [runT] at h; rw [go_code_ret]; exact ih h hr
        | normal =>
          simp only [runT] at h
          cases cd with
          | skip => rw [go_skip']; exact ih h hr
          | label l => rw [go_label]; exact ih h hr
          | region id ops d =>
            obtain ⟨l⟩ := ops
            rw [go_region]
            simp only at h
            split at h <;> try cases h
            rename_i hg
            exact ⟨by rw [TC.raw_eq]; exact gate_sim hr hg, ops_sim h hr fun m E τ tm σ h hr => ih h hr⟩
          | seq a b => rw [go_seq]; exact ih h hr
          | cond x a b =>
            simp only at h
            rw [go_cond]
            split at h <;> try cases h
            rename_i y hy
            have hv := hr.ev x
            rw [hy] at hv
            have hv : aev tm x = .v (.bool y) := hv
            rw [hv]
            cases y with
            | true => rw [goIf_true]; exact ih h (setB_ok hr hy rfl)
            | false => rw [goIf_false]; exact ih h (setB_ok hr hy rfl)
          | block id b => rw [go_block]; exact ih h hr
          | loop b =>
            simp only at h
            split at h <;> try cases h
            rename_i l hl
            obtain ⟨E1, τ1, m1, h, hr1⟩ := pur_sim l hr h
            obtain ⟨E', τ', m', h, hr'⟩ := mv_ok hr1 h
            rw [← go_pur, show c.pc.pur b = purSlots l from by show c.pur b = _; unfold TC.pur; rw [hl]]
            exact hL _ E' τ' r m' _ _ h hr'
          | exit id => rw [go_exit]; exact ih h hr
          | ret => rw [go_retc]; exact ih h hr
          | _ => simp only at h; cases h
theorem start_sim (hf : FinOK c fin Qr) (hL : LOK c L Qr) (n : Nat) : LOK c (fun st E τ => startT c fin L n st E τ) Qr := by
  intro st E τ r m tm σ h hr
  simp only [startT] at h
  split at h
  · rename_i b k
    rw [go_loop]
    split at h
    · rename_i l hl
      obtain ⟨E1, τ1, m1, h, hr1⟩ := pur_sim l hr h
      rw [show c.pc.pur b = purSlots l from by show c.pur b = _; unfold TC.pur; rw [hl]]
      exact run_sim hf hL n h hr1
    · rename_i hl
      rw [show c.pc.pur b = [] from by show c.pur b = _; unfold TC.pur; rw [hl]]
      exact run_sim hf hL n h hr
  · exact run_sim hf hL n h hr
theorem runL_sim (hf : FinOK c fin Qr) (n : Nat) : ∀ k, LOK c (runL c fin n k) Qr
  | 0 => fun st E τ r m tm σ h => by simp [runL] at h
  | k + 1 => by
    intro st E τ r m tm σ h hr
    exact start_sim hf (runL_sim hf n k) n st E τ r m tm σ h hr

/- What is handed back. -/
theorem res_sim (hr : Rel c.n2 m E τ tm σ) {rv : ResultVar} {x : TV} (h : resT c E τ rv = some x) : ∃ y, resultA c.pc.cfg tm σ rv = some y ∧ OK m x y := by
  cases rv with
  | tmp t => cases h; exact ⟨_, rfl, hr.env t⟩
  | cell a t =>
    simp only [resT] at h
    split at h <;> try cases h
    rename_i d b o hd ha
    have hv := hr.env a
    rw [ha] at hv
    obtain ⟨hb, hv⟩ := hv
    split at h <;> try cases h
    rename_i cs hcs
    obtain ⟨ds, g1, g2⟩ := hr.box b cs hcs
    obtain ⟨y, g3, g4⟩ := part_sim g2 h
    refine ⟨y, ?_, g4⟩
    have e : c.pc.cfg.ty t = some d := hd
    simp only [resultA, e, hv, loadA, g1, g3]
theorem pub_one {y : AV} : pubC 0 σ.rw y = purC σ.rw y := by
  cases y <;> rfl
theorem pub_pur (y : AV) (h : ∀ vs, y ≠ .tup vs) : pubA 0 σ.rw y = purA σ.rw y := by
  cases y with
  | agg cs =>
    show AV.agg (cs.map (pubC 0 σ.rw)) = .agg (cs.map (purC σ.rw))
    rw [List.map_congr_left fun x _ => pub_one]
  | _ => rfl
theorem sub_enc {a : Ty} {y : AV} {v : Val a} (h : dpackV a y = some v) : Sub y (encA a v) := by
  unfold dpackV at h
  split at h
  case h_2 => cases h
  rename_i hb
  have hb : a.agg = isAggA y := by simpa [beqB] using hb
  obtain ⟨pre, h1, _, h3, h4, _⟩ := dparse_spec a (full_some.1 h)
  rw [List.append_nil] at h1
  rw [← h1] at h4
  have agg : ∀ e : List AV, a.agg = true → SubL (cellsOf y) e → Sub y (.agg e) := by
    intro e ha hs
    rw [hb] at ha
    cases y with
    | agg cs => exact subL_agg hs
    | _ => cases ha
  have one : ∀ e : AV, a.agg = false → SubL (cellsOf y) [e] → Sub y e := by
    intro e ha hs
    rw [hb] at ha
    have : cellsOf y = [y] := by cases y <;> first | rfl | (cases ha)
    rw [this] at hs
    cases hs with
    | cons h _ => exact h
  cases a with
  | int k => exact one _ rfl h4
  | bool => exact one _ rfl h4
  | str => exact one _ rfl h4
  | list a => exact one _ rfl h4
  | term => exact agg _ rfl h4
  | pair a b => exact agg _ rfl h4
  | one a => exact agg _ rfl h4
theorem fin_one (hr : Rel c.n2 m E τ tm σ) {a : Ty} {rv : ResultVar} {x : TV} {v : Val a} (h1 : resT c E τ rv = some x) (h2 : packV τ.rw a x = some v) : ∃ y, resultA c.pc.cfg tm σ rv = some y ∧ (∀ vs, y ≠ .tup vs) ∧ noRef (pubA 0 σ.rw y) = true ∧ Sub (pubA 0 σ.rw y) (encA a v) := by
  obtain ⟨y, g1, g2⟩ := res_sim hr h1
  rw [← hr.rw] at h2
  obtain ⟨g3, _⟩ := pack_ok hr.rows h2 g2
  have ht : ∀ vs, y ≠ .tup vs := by
    rintro vs rfl
    have := (dpackV_plain g3).1
    unfold dpackV at g3
    split at g3
    · obtain ⟨pre, p1, _, p3, _⟩ := dparse_spec a (full_some.1 g3)
      rw [List.append_nil] at p1
      have := p3 (.tup vs) (by rw [← p1]; exact List.mem_singleton.2 rfl)
      cases this
    · cases g3
  refine ⟨y, g1, ht, ?_, ?_⟩
  · rw [pub_pur y ht]; exact (dpackV_plain g3).1
  · rw [pub_pur y ht]; exact sub_enc g3
theorem fin_all (hr : Rel c.n2 m E τ tm σ) : ∀ {ts : List Ty} {rs : List ResultVar} {v : ResV ts}, finT c ts rs E τ = some v →
    ∃ l, resultsL c.pc.cfg tm σ rs = some l ∧ (∀ y ∈ l, ∀ vs, y ≠ AV.tup vs) ∧ noRefs (l.map (pubA 0 σ.rw)) = true ∧ SubL (l.map (pubA 0 σ.rw)) (encR ts v)
  | [], rs, v, h => by
    cases rs with
    | nil => exact ⟨[], rfl, by simp, rfl, .nil⟩
    | cons a l => simp only [finT] at h; cases h
  | [a], rs, v, h => by
    cases rs with
    | nil => simp only [finT] at h; cases h
    | cons rv rs =>
      cases rs with
      | cons _ _ => simp only [finT] at h; cases h
      | nil =>
        simp only [finT] at h
        split at h <;> try cases h
        rename_i x hx
        obtain ⟨y, g1, g2, g3, g4⟩ := fin_one hr hx h
        refine ⟨[y], by simp only [resultsL, g1], by simpa using g2, ?_, .cons g4 .nil⟩
        show (noRef _ && true) = true
        rw [g3]; rfl
  | a :: b :: ts, rs, v, h => by
    cases rs with
    | nil => simp only [finT] at h; cases h
    | cons rv rs =>
      simp only [finT] at h
      split at h <;> try cases h
      rename_i x hx
      split at h <;> try cases h
      rename_i w hw
      split at h <;> cases h
      rename_i ws hws
      obtain ⟨y, g1, g2, g3, g4⟩ := fin_one hr hx hw
      obtain ⟨l, k1, k2, k3, k4⟩ := fin_all hr hws
      refine ⟨y :: l, by simp only [resultsL, g1, k1], ?_, ?_, .cons g4 k4⟩
      · intro z hz
        rcases List.mem_cons.1 hz with rfl | hz
        · exact g2
        · exact k2 z hz
      · rw [List.map_cons]
        unfold noRefs at k3 ⊢
        rw [List.all_cons, g3, k3]; rfl
theorem refs_of {x : AV} (h : noRef x = true) : refs 0 0 x = false := by
  obtain ⟨h1, h2⟩ := noRef_spec h
  unfold refs
  rw [h1, h2]; rfl
theorem fin_sim {ts : List Ty} {rs : List ResultVar} : FinOK c (finT c ts rs) (fun v => Ret c.pc rs fun z => Sub z (oneOf (encR ts v))) := by
  intro E τ v m tm σ h hr e he
  refine ⟨he, ?_⟩
  obtain ⟨l, g1, g2, g3, g4⟩ := fin_all hr h
  rw [g1]
  show refs 0 0 (pubT 0 σ.rw (oneOf l)) = false ∧ Sub (pubT 0 σ.rw (oneOf l)) (oneOf (encR ts v))
  have hlen : l.length = (encR ts v).length := by rw [← g4.len, List.length_map]
  have key : pubT 0 σ.rw (oneOf l) = oneOf (l.map (pubA 0 σ.rw)) := by
    match l, g2 with
    | [], _ => rfl
    | [y], g2 =>
      have := g2 y (List.mem_singleton.2 rfl)
      show pubT 0 σ.rw y = pubA 0 σ.rw y
      cases y <;> first | rfl | exact absurd rfl (this _)
    | y :: z :: l, _ => rfl
  rw [key]
  constructor
  · apply refs_of
    match l, g3 with
    | [], _ => rfl
    | [y], g3 =>
      show noRef (pubA 0 σ.rw y) = true
      simpa [noRefs] using g3
    | y :: z :: l, g3 => exact noRef_tup g3
  · match l, encR ts v, g4 with
    | [], [], _ => exact .refl _
    | [y], [z], .cons h _ => exact h
    | y :: y' :: l, z :: z' :: k, h => exact h.tup
theorem env_ok {m : Mp} : ∀ (n : Nat) {xs : List TV} {ys : List AV} {pre : List AV} {post : List AV}, OKL m xs ys → pre.length = n → ∀ t, OK m (get (envOf n xs) t) ((pre ++ (ys ++ post)).getD t .dead)
  | n, [], ys, pre, post, h, hn, t => trivial
  | n, x :: xs, ys, pre, post, ⟨y, r, he, h1, h2⟩, hn, t => by
    subst he
    simp only [envOf, get]
    split
    · rename_i hk
      have hk : n = t := Nat.eq_of_beq_eq_true hk
      subst hk
      rw [List.getD_eq_getElem?_getD, List.getElem?_append_right (by omega), hn, Nat.sub_self]
      exact h1
    · have := env_ok (m := m) (n + 1) (pre := pre ++ [y]) (post := post) h2 (by simp [hn]) t
      simpa using this
/-- A function by its code. -/
theorem fn_ok {ts : List Ty} {fn : Func} {cd : Code} (hc : fn.body = some cd) {n k : Nat} {xs : List TV} {ys : List AV} {v : ResV ts} (hnt : c.nt = fn.ntmps) (hnp : c.np = 0) (hle : ys.length ≤ fn.ntmps) (ho : OKL mp0 xs ys)
    (h : runL c (finT c ts fn.results.toList) n k [.code cd] (envOf 0 xs) ⟨[], []⟩ = some v) : GoB c.pc (fun z => Sub z (oneOf (encR ts v))) fn ys := by
  unfold GoB
  rw [hc]
  have hr : Rel c.n2 mp0 (envOf 0 xs) ⟨[], []⟩ (ys ++ List.replicate (fn.ntmps - ys.length) .dead) emp := by
    refine ⟨by show _ = c.nt; rw [List.length_append, List.length_replicate, hnt]; omega, fun t => ?_, rfl, rfl, fun b cs h => by simp at h, fun b b' h => absurd h (Nat.not_lt_zero _), fun id R h => (by cases h), fun id id' r h => absurd h (Nat.not_lt_zero _), fun i hi => absurd hi (by show ¬ i < c.np; rw [hnp]; exact Nat.not_lt_zero _)⟩
    have := env_ok (m := mp0) 0 (pre := []) (post := List.replicate (fn.ntmps - ys.length) .dead) ho rfl t
    simpa using this
  exact runL_sim fin_sim n k _ _ _ _ _ _ _ h hr
end
end Go.AmYtmodnblfcikjlaaGreat
namespace Go.AmYtmodnblfcikjlaaGreat
open Go Go.RowKit Go.GxYtmodnblfcikjlaaGreat
section
variable {α : Type} {m : Mp} {E : Env} {τ : TS} {tm : List AV} {σ : St} {c : TC}
/- Where it begins. -/
theorem toTV_pack {a : Ty} {y : AV} {v : Val a} (h : dpackV a y = some v) : OK m (toTV a v) y := by
  unfold dpackV at h
  split at h
  case h_2 => cases h
  rename_i hb
  have hb : a.agg = isAggA y := by simpa [beqB] using hb
  have hc : OKL m (cellsV a v) (cellsOf y) := cells_full h
  have agg : a.agg = true → ∃ ds, y = .agg ds ∧ OKL m (cellsV a v) ds := by
    intro ha
    rw [hb] at ha
    cases y with
    | agg cs => exact ⟨cs, rfl, hc⟩
    | _ => cases ha
  have one : a.agg = false → cellsOf y = [y] := by
    intro ha
    rw [hb] at ha
    cases y <;> first | rfl | (cases ha)
  cases a with
  | term => exact agg rfl
  | pair a b => exact agg rfl
  | one a => exact agg rfl
  | int k => rw [one rfl] at hc; obtain ⟨z, r, he, h1, _⟩ := hc; cases he; exact h1
  | bool => rw [one rfl] at hc; obtain ⟨z, r, he, h1, _⟩ := hc; cases he; exact h1
  | str => rw [one rfl] at hc; obtain ⟨z, r, he, h1, _⟩ := hc; cases he; exact h1
  | list a => rw [one rfl] at hc; obtain ⟨z, r, he, h1, _⟩ := hc; cases he; exact h1
/-- The rows that stand by now. -/
structure StOK (m : Mp) (σ : St) (nb nr : Nat) : Prop where
  b : ∀ i, m.b i = i
  nb : m.nb = nb
  rows : RowsOK m σ
  low : ∀ id r, id < m.rw.length → m.r id = some r → r < nr
  rinj : ∀ id id' r, id < m.rw.length → id' < m.rw.length → m.r id = some r → m.r id' = some r → id = id'
  zero : ∀ (id : Nat) (R : TRow), m.rw[id]? = some R → R.ver = 0
theorem StOK.add {nb nr : Nat} (h : StOK m σ nb nr) {a : Ty} {l : List (Val a)} {ro : Option Nat} {vo : Nat} {qo : List (List AV)} {nr' : Nat} (hg : rowGood σ ⟨a, l, 0, 0, false⟩ ro vo qo) (h1 : nr ≤ nr') (h2 : ∀ r, ro = some r → nr ≤ r ∧ r < nr') : StOK (m.add ⟨a, l, 0, 0, false⟩ ro vo qo) σ nb nr' := by
  refine ⟨h.b, h.nb, add_rows h.rows hg fun _ _ h => h, ?_, ?_, ?_⟩
  · intro id r hl he
    change id < (m.rw ++ [_]).length at hl
    change (if id = m.rw.length then ro else m.r id) = some r at he
    simp at hl
    split at he
    · exact (h2 r he).2
    · have := h.low id r (by omega) he; omega
  · intro id id' r l1 l2 e1 e2
    change id < (m.rw ++ [_]).length at l1
    change id' < (m.rw ++ [_]).length at l2
    change (if id = m.rw.length then ro else m.r id) = some r at e1
    change (if id' = m.rw.length then ro else m.r id') = some r at e2
    simp at l1 l2
    split at e1 <;> split at e2
    · omega
    · have := h.low id' r (by omega) e2; have := (h2 r e1).1; omega
    · have := h.low id r (by omega) e1; have := (h2 r e2).1; omega
    · exact h.rinj id id' r (by omega) (by omega) e1 e2
  · intro id R hR
    change (m.rw ++ [_])[id]? = some R at hR
    rw [List.getElem?_append] at hR
    split at hR
    · exact h.zero id R hR
    · cases hx : id - m.rw.length with
      | zero => rw [hx] at hR; cases hR; rfl
      | succ n => rw [hx] at hR; cases hR
theorem begin_sim : ∀ (sas : List SA) {m : Mp} {nb nr : Nat} {ys : List AV} {a : SArgs sas}, dS σ sas nb nr ys = some a → StOK m σ nb nr →
    ∃ m' nb' nr', MLe m m' ∧ StOK m' σ nb' nr' ∧ nb' = σ.bx.length ∧ m'.rw = m.rw ++ sRw sas a ∧ nb + (sBx sas a).length = nb' ∧ OKL m' (sEnv sas nb m.rw.length a) ys ∧ ys.length = sas.length ∧
      ∀ (i : Nat) (cs : List TV), (sBx sas a)[i]? = some cs → ∃ ds, σ.bx[nb + i]? = some ds ∧ OKL m' cs ds
  | [], m, nb, nr, ys, a, h, hm => by
    cases ys with
    | cons y ys => simp [dS] at h
    | nil =>
      simp only [dS] at h
      split at h <;> try cases h
      rename_i hd
      have hd := of_decide_eq_true hd
      exact ⟨m, nb, nr, .refl m, hm, hd.1, (List.append_nil _).symm, rfl, rfl, rfl, fun i cs h => by cases h⟩
  | .nil :: sas, m, nb, nr, ys, a, h, hm => by
    obtain ⟨ys', rfl, h⟩ : ∃ ys', ys = .v (.slice none 0 0) :: ys' ∧ dS σ sas nb nr ys' = some a := by
      cases ys with
      | nil => simp [dS] at h
      | cons y ys =>
        simp only [dS] at h
        split at h
        · rename_i hn
          exact ⟨ys, by rw [isNilA_eq hn], h⟩
        · cases h
    obtain ⟨m', nb', nr', h1, h2, h3, h4, h5, h6, h7, h8⟩ := begin_sim sas h hm
    exact ⟨m', nb', nr', h1, h2, h3, h4, h5, ⟨_, _, rfl, rfl, h6⟩, by rw [List.length_cons, List.length_cons, h7], h8⟩
  | .val t :: sas, m, nb, nr, ys, a, h, hm => by
    cases ys with
    | nil => simp [dS] at h
    | cons y ys =>
      simp only [dS] at h
      split at h <;> try cases h
      rename_i v hv
      split at h <;> cases h
      rename_i vs hvs
      obtain ⟨m', nb', nr', h1, h2, h3, h4, h5, h6, h7, h8⟩ := begin_sim sas hvs hm
      exact ⟨m', nb', nr', h1, h2, h3, h4, h5, ⟨_, _, rfl, toTV_pack hv, h6⟩, by rw [List.length_cons, List.length_cons, h7], h8⟩
  | .box t :: sas, m, nb, nr, ys, a, h, hm => by
    cases ys with
    | nil => simp [dS] at h
    | cons y ys =>
      simp only [dS] at h
      split at h <;> try cases h
      rename_i v hv
      split at h <;> cases h
      rename_i vs hvs
      unfold boxArg at hv
      split at hv <;> try cases hv
      split at hv <;> try cases hv
      rename_i j _ _ ds hj hds
      have hj := Nat.eq_of_beq_eq_true hj
      subst hj
      have hm2 : StOK { m with nb := m.nb + 1 } σ (j + 1) nr := ⟨hm.b, by show m.nb + 1 = _; rw [hm.nb], hm.rows, hm.low, hm.rinj, hm.zero⟩
      have hle : MLe m { m with nb := m.nb + 1 } := ⟨Nat.le_succ _, fun _ _ => rfl, fun id R h => ⟨R, h, Nat.le_refl _, Nat.le_refl _, fun _ => ⟨rfl, rfl, rfl, rfl, (fun _ => rfl), fun _ _ h => h⟩⟩⟩
      obtain ⟨m', nb', nr', h1, h2, h3, h4, h5, h6, h7, h8⟩ := begin_sim sas hvs hm2
      have hnb : m'.nb = nb' := h2.nb
      refine ⟨m', nb', nr', hle.trans h1, h2, h3, h4, (by have : (sBx (.box t :: sas) (v, vs)).length = (sBx sas vs).length + 1 := rfl; omega), ⟨_, _, rfl, ⟨by rw [hnb]; omega, by rw [h2.b]⟩, h6⟩, by rw [List.length_cons, List.length_cons, h7], fun i cs hi => ?_⟩
      cases i with
      | zero => cases hi; exact ⟨ds, hds, cells_full hv⟩
      | succ i =>
        obtain ⟨ds', g1, g2⟩ := h8 i cs hi
        exact ⟨ds', by rw [← g1]; congr 1; omega, g2⟩
  | .row t :: sas, m, nb, nr, ys, a, h, hm => by
    cases ys with
    | nil => simp [dS] at h
    | cons y ys =>
      simp only [dS] at h
      split at h <;> try cases h
      rename_i l nr1 hl
      split at h <;> cases h
      rename_i vs hvs
      have step : ∀ ro vo qo, rowGood σ ⟨t, l, 0, 0, false⟩ ro vo qo → nr ≤ nr1 → (∀ r, ro = some r → nr ≤ r ∧ r < nr1) → rowAt ro vo t l y →
          ∃ m' nb' nr', MLe m m' ∧ StOK m' σ nb' nr' ∧ nb' = σ.bx.length ∧ m'.rw = m.rw ++ sRw (.row t :: sas) (l, vs) ∧ nb + (sBx (.row t :: sas) (l, vs)).length = nb' ∧ OKL m' (sEnv (.row t :: sas) nb m.rw.length (l, vs)) (y :: ys) ∧ (y :: ys).length = (SA.row t :: sas).length ∧
            ∀ (i : Nat) (cs : List TV), (sBx (.row t :: sas) (l, vs))[i]? = some cs → ∃ ds, σ.bx[nb + i]? = some ds ∧ OKL m' cs ds := by
        intro ro vo qo hg hle1 hro hat
        have hle := add_le m ⟨t, l, 0, 0, false⟩ ro vo qo
        obtain ⟨m', nb', nr', h1, h2, h3, h4, h5, h6, h7, h8⟩ := begin_sim sas hvs (hm.add hg hle1 hro)
        have hok : OK (m.add ⟨t, l, 0, 0, false⟩ ro vo qo) (.row m.rw.length 0) y := by
          refine ⟨⟨t, l, 0, 0, false⟩, by show (m.rw ++ _)[m.rw.length]? = _; simp, Nat.zero_le _, hat.ish, fun _ => ?_⟩
          show rowAt (if m.rw.length = m.rw.length then ro else m.r m.rw.length) (if m.rw.length = m.rw.length then vo else m.v m.rw.length) t l y
          rw [if_pos rfl, if_pos rfl]; exact hat
        have hlen : (m.add ⟨t, l, 0, 0, false⟩ ro vo qo).rw.length = m.rw.length + 1 := by show (m.rw ++ [_]).length = _; simp
        refine ⟨m', nb', nr', hle.trans h1, h2, h3, ?_, h5, ⟨_, _, rfl, hok.mono h1, by rw [hlen] at h6; exact h6⟩, by rw [List.length_cons, List.length_cons, h7], h8⟩
        rw [h4]
        show (m.rw ++ [_]) ++ _ = _
        rw [List.append_assoc]; rfl
      have nils : dlist t y = some [] → 2 ≤ lvl y → l = [] → nr1 = nr → ∃ m' nb' nr', MLe m m' ∧ StOK m' σ nb' nr' ∧ nb' = σ.bx.length ∧ m'.rw = m.rw ++ sRw (.row t :: sas) (l, vs) ∧ nb + (sBx (.row t :: sas) (l, vs)).length = nb' ∧ OKL m' (sEnv (.row t :: sas) nb m.rw.length (l, vs)) (y :: ys) ∧ (y :: ys).length = (SA.row t :: sas).length ∧
            ∀ (i : Nat) (cs : List TV), (sBx (.row t :: sas) (l, vs))[i]? = some cs → ∃ ds, σ.bx[nb + i]? = some ds ∧ OKL m' cs ds := by
        intro hd hlv hl0 hn
        refine step none 0 [] (fun _ => hl0) (by omega) (fun r h => by cases h) ?_
        rw [hl0]; exact ⟨hd, hlv⟩
      unfold rowArg at hl
      split at hl
      · split at hl <;> try cases hl
        rename_i R hR
        split at hl <;> try cases hl
        rename_i hd
        split at hl <;> cases hl
        rename_i hdec
        obtain ⟨rfl, rfl, rfl, e4, rfl, rfl, e7⟩ := of_decide_eq_true hd
        refine step (some _) R.ver R.c ⟨R, hR, rfl, rfl, e4, hdec, by rw [e7]; exact Nat.zero_le _, fun _ => e7⟩ (Nat.le_succ _) (fun r h => by cases h; omega) ?_
        show _ = _
        rw [decLs_len hdec]
      · split at hl
        · rename_i hd hlv
          cases hl
          exact nils hd (of_decide_eq_true hlv) rfl rfl
        · cases hl

/- What it ends with. -/
theorem subL_of {a : Ty} {ds : List AV} {v : Val a} (h : decV a ds = some v) : SubL ds (encV a v) := by
  obtain ⟨pre, h1, _, _, h4, _⟩ := dparse_spec a (full_some.1 h)
  rw [List.append_nil] at h1
  rw [h1]; exact h4
theorem outB_sim (hr : Rel c.n2 m E τ tm σ) : ∀ (sas : List SA) {n : Nat} {o : SOut sas} {q : Bool}, outB τ sas n = some (o, q) →
    ∀ (i : Nat) (cs : List AV), (boxE sas o)[i]? = some cs → ∃ ds, σ.bx[m.b (n + i)]? = some ds ∧ SubL (ds.map (purC σ.rw)) cs ∧ rbL cs = [] ∧ rrL cs = [] ∧ (q = true → ∀ x ∈ ds, rsC x = [])
  | [], n, o, q, h, i, cs, hi => by cases hi
  | .nil :: sas, n, o, q, h, i, cs, hi => outB_sim hr sas (o := o) h i cs hi
  | .val _ :: sas, n, o, q, h, i, cs, hi => outB_sim hr sas (o := o) h i cs hi
  | .row _ :: sas, n, o, q, h, i, cs, hi => outB_sim hr sas (o := o) h i cs hi
  | .box t :: sas, n, o, q, h, i, cs, hi => by
    simp only [outB] at h
    split at h <;> try cases h
    rename_i xs hxs
    split at h <;> cases h
    rename_i v o' q' hv ho
    cases i with
    | zero =>
      cases hi
      obtain ⟨ds, d1, d2⟩ := hr.box n xs hxs
      rw [← hr.rw] at hv
      obtain ⟨rs, p1, p2⟩ := parse_ok hr.rows t (fullT_some hv) d2
      cases p2
      obtain ⟨g1, g2⟩ := plain_refs (encV_plain t v)
      refine ⟨ds, d1, subL_of (full_some.2 p1), g1, g2, fun hq x hx => ?_⟩
      rw [Bool.and_eq_true] at hq
      exact List.flatMap_eq_nil_iff.1 (noRs1s_ok d2 hq.1) x hx
    | succ i =>
      obtain ⟨ds, g1, g2, g3, g4, g5⟩ := outB_sim hr sas ho i cs hi
      refine ⟨ds, by rw [← g1]; congr 2; omega, g2, g3, g4, fun hq => g5 (by rw [Bool.and_eq_true] at hq; exact hq.2)⟩
def rowSrc (σ : St) (fs : List Nat) (a : Ty) (v : List (Val a)) (y : AV) : Option Nat → Prop
  | some j => ∃ Q, y = .rs j 0 Q.c.length Q.ver false ∧ σ.rw[j]? = some Q ∧ Q.k = a.size ∧ Q.fz = 0 ∧ decLs (decV a) Q.c = some v ∧ j ∉ fs
  | none => v = [] ∧ dlist a y = some [] ∧ 2 ≤ lvl y
/-- Results, and where the rows among them come from. -/
inductive FR (σ : St) (fs : List Nat) : (rs : List RA) → RV rs → List AV → List (Option Nat × Row) → Prop
  | nil : FR σ fs [] () [] []
  | val {a : Ty} {rs : List RA} {v : Val a} {vs : RV rs} {y : AV} {ys : List AV} {news : List (Option Nat × Row)} (h : Sub (purA σ.rw y) (encA a v)) (hf : ∀ r ∈ rsA y, r ∈ fs) (t : FR σ fs rs vs ys news) : FR σ fs (.val a :: rs) (v, vs) (y :: ys) news
  | row {a : Ty} {rs : List RA} {v : List (Val a)} {vs : RV rs} {y : AV} {ys : List AV} {news : List (Option Nat × Row)} {so : Option Nat}
      (h : rowSrc σ fs a v y so)
      (t : FR σ fs rs vs ys news) : FR σ fs (.row a :: rs) (v, vs) (y :: ys) ((so, ⟨a.size, v.map (encV a), 0, 0⟩) :: news)
theorem outR_res (hr : Rel c.n2 m E τ tm σ) : ∀ {rs : List RA} {l : List ResultVar} {v : RV rs} {ids : List Nat} {q : Bool}, outR c E τ rs l = some (v, ids, q) → (∀ id ∈ ids, id < m.rw.length) ∧
    ∃ ys, resultsL c.pc.cfg tm σ l = some ys ∧ ∀ fs, (((∀ y ∈ ys, ∀ r ∈ rsA y, r ∈ fs) ∧ ids = []) ∨ (q = true ∧ fs = [])) → ∃ news, FR σ fs rs v ys news ∧ news.map (·.2) = rowE rs v ∧ news.filterMap (·.1) = ids.filterMap m.r
  | [], l, v, ids, q, h => by
    cases l with
    | cons a l => simp [outR] at h
    | nil =>
      simp only [outR, Option.some.injEq, Prod.mk.injEq] at h
      obtain ⟨_, rfl, _⟩ := h
      exact ⟨by simp, [], rfl, fun fs _ => ⟨[], .nil, rfl, rfl⟩⟩
  | .val a :: rs, l, v, ids, q, h => by
    cases l with
    | nil => simp [outR] at h
    | cons rv l =>
      simp only [outR] at h
      split at h <;> try cases h
      rename_i x hx
      split at h <;> cases h
      rename_i w vs q' hw hvs
      obtain ⟨y, g1, g2⟩ := res_sim hr hx
      obtain ⟨k0, ys, k1, k2⟩ := outR_res hr hvs
      rw [← hr.rw] at hw
      obtain ⟨p1, _⟩ := pack_ok hr.rows hw g2
      refine ⟨k0, y :: ys, by simp only [resultsL, g1, k1], fun fs hfs => ?_⟩
      obtain ⟨news, n1, n2, n3⟩ := k2 fs (hfs.imp (fun h => ⟨fun y hy => h.1 y (List.mem_cons_of_mem _ hy), h.2⟩) fun h => ⟨(Bool.and_eq_true _ _ ▸ h.1 : noRs x = true ∧ q' = true).2, h.2⟩)
      refine ⟨news, .val (sub_enc p1) ?_ n1, n2, n3⟩
      rcases hfs with h | h
      · exact h.1 y (List.mem_cons_self ..)
      · have hno := (Bool.and_eq_true _ _ ▸ h.1 : noRs x = true ∧ q' = true).1
        rw [noRs_ok hno g2]
        intro r hr; cases hr
  | .row a :: rs, l, v, ids, q, h => by
    cases l with
    | nil => simp [outR] at h
    | cons rv l =>
      simp only [outR] at h
      split at h <;> try cases h
      rename_i x hx
      split at h <;> cases h
      rename_i w i vs ids' hw hvs
      obtain ⟨y, g1, g2⟩ := res_sim hr hx
      obtain ⟨k0, ys, k1, k2⟩ := outR_res hr hvs
      have key : ∀ so, (so = none → i.filterMap m.r = []) → (∀ j, so = some j → i.filterMap m.r = [j]) → (∀ id ∈ i, id < m.rw.length) →
          (∀ fs, fs = [] ∨ i = [] → rowSrc σ fs a w y so) →
          (∀ id ∈ i ++ ids', id < m.rw.length) ∧ ∃ ys', resultsL c.pc.cfg tm σ (rv :: l) = some ys' ∧ ∀ fs, (((∀ y ∈ ys', ∀ r ∈ rsA y, r ∈ fs) ∧ i ++ ids' = []) ∨ (q = true ∧ fs = [])) → ∃ news, FR σ fs (.row a :: rs) (w, vs) ys' news ∧ news.map (·.2) = rowE (.row a :: rs) (w, vs) ∧ news.filterMap (·.1) = (i ++ ids').filterMap m.r := by
        intro so s1 s2 s3 s4
        refine ⟨fun id hid => (List.mem_append.1 hid).elim (s3 id) (k0 id), y :: ys, by simp only [resultsL, g1, k1], fun fs hfs => ?_⟩
        obtain ⟨news, n1, n2, n3⟩ := k2 fs (hfs.imp (fun h => ⟨fun y hy => h.1 y (List.mem_cons_of_mem _ hy), (List.append_eq_nil_iff.1 h.2).2⟩) fun h => h)
        refine ⟨(so, ⟨a.size, w.map (encV a), 0, 0⟩) :: news, .row (s4 fs (hfs.elim (fun h => .inr (List.append_eq_nil_iff.1 h.2).1) fun h => .inl h.2)) n1, by rw [List.map_cons, n2]; rfl, ?_⟩
        rw [List.filterMap_append, ← n3]
        cases so with
        | none => rw [s1 rfl]; rfl
        | some j => rw [s2 j rfl]; rfl
      unfold rowS at hw
      split at hw
      · cases hw
        cases g2
        exact key none (fun _ => rfl) (fun j h => by cases h) (by simp) fun _ _ => ⟨rfl, rfl, Nat.le_refl _⟩
      · split at hw <;> cases hw
        rename_i hc hlv
        obtain ⟨e, he⟩ := castL_some hc
        subst e
        have he : _ = _ := he
        subst he
        obtain ⟨hy1, hy2⟩ := g2
        exact key none (fun _ => rfl) (fun j h => by cases h) (by simp) fun _ _ => ⟨rfl, hy1, Nat.le_trans (of_decide_eq_true hlv) hy2⟩
      · rename_i id ver
        split at hw <;> try cases hw
        rename_i R hR
        split at hw <;> try cases hw
        rename_i hv
        rw [Bool.and_eq_true, Bool.not_eq_true'] at hv
        split at hw <;> cases hw
        rename_i hc
        obtain ⟨e, he⟩ := castL_some hc
        subst e
        have he : R.l = w := he
        subst he
        obtain ⟨R', z1, _, _, z2⟩ := g2
        have hR' : m.rw[id]? = some R := by rw [hr.rw]; exact hR
        rw [hR'] at z1; cases z1
        have hlt : ∀ i ∈ [id], i < m.rw.length := by intro i hi; rw [List.mem_singleton.1 hi]; exact getElem?_lt hR'
        rcases row_cur hr.rows hR' (z2 (Nat.eq_of_beq_eq_true hv.1)) with ⟨j, Q, q0, hy, q1, q2, q3, q4, q5, q6, q7⟩ | ⟨q0, q1, q2, q3⟩
        · refine key (some j) (fun h => by cases h) (fun j' h => by cases h; simp [q0]) hlt fun fs hfs => ⟨Q, hy, q1, q4, q7 hv.2, q5, ?_⟩
          rcases hfs with rfl | h
          · simp
          · cases h
        · have hl := q1 hv.2
          refine key none (fun _ => by simp [q0]) (fun j h => by cases h) hlt fun fs _ => ⟨hl, ?_, q3⟩
          rw [← hl]; exact q2
      · cases hw
theorem FR.len {fs : List Nat} {rs : List RA} {v : RV rs} {ys : List AV} {news : List (Option Nat × Row)} (h : FR σ fs rs v ys news) : ∀ L, ys.length = (resE rs L v).length := by
  induction h with
  | nil => intro L; rfl
  | val h hf t ih => intro L; rw [resE, List.length_cons, List.length_cons, ih L]
  | row h t ih => intro L; rw [resE, List.length_cons, List.length_cons, ih (L + 1)]
theorem FR.newOk {fs : List Nat} {rs : List RA} {v : RV rs} {ys : List AV} {news : List (Option Nat × Row)} (h : FR σ fs rs v ys news) : ∀ (i : Nat) (so : Option Nat) (R : Row), news[i]? = some (so, R) → NewOk σ fs so R := by
  induction h with
  | nil => intro i so R h; cases h
  | val h hf t ih => exact ih
  | @row a rs v vs y ys news so h t ih =>
    intro i so' R hi
    cases i with
    | succ i => exact ih i so' R hi
    | zero =>
      cases hi
      refine ⟨rfl, rfl, Ty.size_pos a, ?_, ?_, ?_⟩
      · intro e he
        obtain ⟨w, _, rfl⟩ := List.mem_map.1 he
        exact encV_len a w
      · intro e he
        obtain ⟨w, _, rfl⟩ := List.mem_map.1 he
        exact encV_plain a w
      · cases so with
        | none => show v.map (encV a) = []; rw [h.1]; rfl
        | some j =>
          obtain ⟨Q, _, q1, q2, q3, q4, q5⟩ := h
          refine ⟨Q, q1, q2, q3, by show Q.c.length = (v.map (encV a)).length; rw [decLs_len q4, List.length_map], fun i e e' h1 h2 => ?_, q5⟩
          obtain ⟨w, w1, w2⟩ := decLs_get' q4 h1
          have h2 : (v.map (encV a))[i]? = some e' := h2
          rw [List.getElem?_map, w1] at h2
          cases h2
          exact subL_of w2
theorem FR.rep {Γ1 : Gh} {w1 : World} {mm : Nat → Nat → Option Value} {fs : List Nat} (h1 : Inv Γ1 σ w1) (hm : Le Γ1 { Γ1 with mem := mm }) (hfz : ∀ r ∈ fs, ∀ R, σ.rw[r]? = some R → Frozen { Γ1 with mem := mm } r R) (nb L : Nat) (all : List (Option Nat × Row)) {rs : List RA} {v : RV rs} {ys : List AV} {news : List (Option Nat × Row)} (h : FR σ fs rs v ys news) :
    ∀ (pre : List (Option Nat × Row)), all = pre ++ news → ∀ us, RepL Γ1 ys us → RepL (newGh Γ1 mm nb L all) (resE rs (L + pre.length) v) us := by
  induction h with
  | nil => intro pre _ us hu; rw [hu.nil_inv]; exact .nil
  | @val a rs v vs y ys news h hf t ih =>
    intro pre he us hu
    obtain ⟨u, r, rfl, g1, g2⟩ := hu.uncons
    obtain ⟨p1, p2⟩ := noRef_spec (encA_noRef a v)
    exact .cons (none_rep (Γ := { Γ1 with mem := mm }) (fun _ _ _ h => h) (h _ _ (purA_ok h1 hm (fun q hq R hR => hfz q (hf q hq) R hR) g1)) p1 p2) (ih pre he r g2)
  | @row a rs v vs y ys news so h t ih =>
    intro pre he us hu
    obtain ⟨u, r, rfl, g1, g2⟩ := hu.uncons
    have hall : all[pre.length]? = some (so, ⟨a.size, v.map (encV a), 0, 0⟩) := by rw [he, List.getElem?_append_right (Nat.le_refl _), Nat.sub_self]; rfl
    have hlt : pre.length < all.length := getElem?_lt hall
    have hnl : ¬ L + pre.length < L := by omega
    have hsub : L + pre.length - L = pre.length := by omega
    refine .cons ?_ ?_
    · cases so with
      | some j =>
        obtain ⟨Q, rfl, q1, q2, q3, q4, q5⟩ := h
        have H := h1.row j Q q1
        cases g1 with
        | rs _ _ _ _ _ a' cap hr hv hc hf hl =>
          have hl := hl (H.ver (by rw [q3]; exact Nat.zero_le _)).symm
          have hle := decLs_len q4
          rw [hle] at hc
          rw [hle]
          show Rep (newGh Γ1 mm nb L all) (.rs (L + pre.length) 0 v.length 0 false) (.slice a' v.length cap)
          refine .rs _ _ _ _ _ a' cap (by show L + pre.length < L + all.length; omega) (Nat.zero_le _) hc (fun h => by cases h) fun _ => ?_
          have ec : (newGh Γ1 mm nb L all).cur (L + pre.length) = Γ1.cur j := by
            show (if L + pre.length < L then _ else match all[L + pre.length - L]? with | some (some j, _) => Γ1.cur j | _ => 0) = _
            rw [if_neg hnl, hsub, hall]
          have es : (newGh Γ1 mm nb L all).sz (L + pre.length) = Γ1.sz j := by
            show (if L + pre.length < L then _ else match all[L + pre.length - L]? with | some (some j, _) => Γ1.sz j | _ => 0) = _
            rw [if_neg hnl, hsub, hall]
          have ek : (newGh Γ1 mm nb L all).k (L + pre.length) = Γ1.k j := by
            show (if L + pre.length < L then _ else match all[L + pre.length - L]? with | some p => p.2.k | none => 1) = _
            rw [if_neg hnl, hsub, hall, ← H.k, q2]
          rw [ec, es, ek]
          exact hl
      | none =>
        obtain ⟨rfl, q1, q2⟩ := h
        have hu0 : ∃ a', u = .slice a' 0 0 := by
          rcases dlist_v q1 with ⟨rfl, _⟩ | ⟨es, n, rfl, hd⟩
          · exact ⟨none, v_inv g1⟩
          · have : es = [] := List.eq_nil_of_length_eq_zero (decLs_len hd)
            subst this
            cases g1 with
            | sl _ _ _ a' n' cap b o us hn hc hf =>
              have h2 : 1 < n + 1 := q2
              have := hf h2
              refine ⟨a', ?_⟩
              have hn : n' = 0 := hn
              rw [this, hn]
        obtain ⟨a', rfl⟩ := hu0
        refine .rs _ _ _ _ _ a' 0 (by show L + pre.length < L + all.length; omega) (Nat.zero_le _) (Nat.le_refl _) (fun h => by cases h) fun _ => ⟨.inl rfl, by rw [Nat.add_zero, Nat.zero_mul]; exact Nat.zero_le _⟩
    · have := ih (pre ++ [(so, ⟨a.size, v.map (encV a), 0, 0⟩)]) (by rw [he, List.append_assoc]; rfl) r g2
      rw [List.length_append] at this
      exact this
theorem rep_oneOf {Γ1 Γ2 : Gh} {ys zs : List AV} {u : Value} (hl : ys.length = zs.length) (h : ∀ us, RepL Γ1 ys us → RepL Γ2 zs us) (hr : Rep Γ1 (oneOf ys) u) : Rep Γ2 (oneOf zs) u := by
  match ys, zs, hl with
  | [], [], _ =>
    cases hr with
    | tup cs us hn hr => exact .tup [] us hn (h us ⟨hn, hr⟩).rep
  | [y], [z], _ =>
    obtain ⟨u', r, he, h1, _⟩ := (h [u] (.cons hr .nil)).uncons
    cases he
    exact h1
  | y :: y' :: ys, z :: z' :: zs, hl =>
    cases hr with
    | tup cs us hn hr => exact .tup _ us (by rw [hn]; exact hl) (h us ⟨hn, hr⟩).rep
theorem fm_get {β : Type} {f : β → Option Nat} : ∀ {l : List β}, (l.filterMap f).Nodup → ∀ (a b j : Nat) (x y : β), l[a]? = some x → l[b]? = some y → f x = some j → f y = some j → a = b
  | [], _, a, b, j, x, y, h, _, _, _ => by cases h
  | z :: l, hn, a, b, j, x, y, ha, hb, hx, hy => by
    have ht : (l.filterMap f).Nodup := by
      cases hz : f z with
      | none => rw [List.filterMap_cons_none hz] at hn; exact hn
      | some q => rw [List.filterMap_cons_some hz] at hn; exact (List.nodup_cons.1 hn).2
    have hout : ∀ {i : Nat} {w : β}, l[i]? = some w → f z = some j → f w = some j → False := fun hi hz hw => by
      rw [List.filterMap_cons_some hz] at hn
      exact (List.nodup_cons.1 hn).1 (List.mem_filterMap.2 ⟨_, List.mem_of_getElem? hi, hw⟩)
    cases a with
    | zero =>
      cases b with
      | zero => rfl
      | succ b => cases ha; exact (hout hb hx hy).elim
    | succ a =>
      cases b with
      | zero => cases hb; exact (hout ha hy hx).elim
      | succ b => rw [fm_get ht a b j x y ha hb hx hy]
def nBox : List SA → Nat
  | [] => 0
  | .box _ :: r => nBox r + 1
  | .nil :: r => nBox r
  | .val _ :: r => nBox r
  | .row _ :: r => nBox r
theorem boxE_len : ∀ (sas : List SA) (o : SOut sas), (boxE sas o).length = nBox sas
  | [], _ => rfl
  | .nil :: sas, o => boxE_len sas o
  | .val _ :: sas, o => boxE_len sas o
  | .row _ :: sas, o => boxE_len sas o
  | .box _ :: sas, o => by rw [boxE, List.length_cons, boxE_len sas o.2, nBox]
theorem sBx_len : ∀ (sas : List SA) (a : SArgs sas), (sBx sas a).length = nBox sas
  | [], _ => rfl
  | .nil :: sas, a => sBx_len sas a
  | .val _ :: sas, a => sBx_len sas a.2
  | .row _ :: sas, a => sBx_len sas a.2
  | .box _ :: sas, a => by rw [sBx, List.length_cons, sBx_len sas a.2, nBox]
/-- A function that turns boxes and rows, by its code. -/
theorem prim_state {P : Program} {c : TC} (hC : CfgOk P c.pc.cfg) {f : FuncId} {fn : Func} {cd : Code} (hf : P.funcs[f]? = some fn) (hb : bodyOk fn = true) (hc : fn.body = some cd) (hnt : c.nt = fn.ntmps) (g : SSig) (hnp : c.np = nBox g.args) (hlen : g.args.length ≤ fn.ntmps)
    (h : ∀ a v, g.fn a = some v → ∃ n k, runL c (finS c g.args g.res fn.results.toList) n k [.code cd] (envOf 0 (sEnv g.args 0 0 a)) ⟨sBx g.args a, sRw g.args a⟩ = some v) : PrimOk P f (sgP g) := by
  unfold bodyOk at hb
  rw [hc] at hb
  simp only [Bool.and_eq_true, Bool.not_eq_true'] at hb
  obtain ⟨hdr, hname⟩ := hb
  refine ⟨⟨fn, hf, by rw [hc]; rfl, hname⟩, fun Γ σ w args vals r hi hr hp => ?_⟩
  unfold sgP at hp
  split at hp <;> try cases hp
  rename_i a ha
  split at hp <;> cases hp
  rename_i v hv
  obtain ⟨N, k, hrun⟩ := h a v hv
  have h0 : StOK ⟨fun i => i, 0, fun _ => none, fun _ => 0, fun _ => [], []⟩ σ 0 0 := ⟨fun _ => rfl, rfl, fun id R h => (by cases h), fun id r h => absurd h (Nat.not_lt_zero _), fun id id' r h => absurd h (Nat.not_lt_zero _), fun id R h => (by cases h)⟩
  obtain ⟨m, nb', nr', s1, s2, s3, s4, s5, s6, s7, s8⟩ := begin_sim g.args ha h0
  have hal : args.length ≤ fn.ntmps := by rw [s7]; exact hlen
  have hnb : σ.bx.length = nBox g.args := by rw [← s3, ← s5, sBx_len]; omega
  have hrel : Rel c.n2 m (envOf 0 (sEnv g.args 0 0 a)) ⟨sBx g.args a, sRw g.args a⟩ (args ++ List.replicate (fn.ntmps - args.length) .dead) { σ with wr := [], wrr := [] } := by
    refine ⟨by show _ = c.nt; rw [List.length_append, List.length_replicate, hnt]; omega, fun t => ?_, s4, by show m.nb = (sBx g.args a).length; rw [s2.nb]; omega, fun b cs hb => ?_, fun b b' _ _ he => by rw [s2.b, s2.b] at he; exact he, s2.rows, s2.rinj, fun i hi => ⟨?_, s2.b i⟩⟩
    · have := env_ok (m := m) 0 (pre := []) (post := List.replicate (fn.ntmps - args.length) .dead) s6 rfl t
      simpa using this
    · obtain ⟨ds, d1, d2⟩ := s8 b cs hb
      rw [Nat.zero_add] at d1
      exact ⟨ds, by rw [s2.b]; exact d1, d2⟩
    · have hi : i < c.np := hi
      rw [s2.nb, s3, hnb, ← hnp]; exact hi
  have hgo : Go c.pc (fun e s => (e = .ret ∨ e = .normal) ∧ ∃ m E τ, Rel c.n2 m E τ s.tm s.σ ∧ finS c g.args g.res fn.results.toList E τ = some v) [.code cd] .normal ⟨args ++ List.replicate (fn.ntmps - args.length) .dead, { σ with wr := [], wrr := [] }⟩ :=
    runL_sim (Qr := fun v e s => (e = .ret ∨ e = .normal) ∧ ∃ m E τ, Rel c.n2 m E τ s.tm s.σ ∧ finS c g.args g.res fn.results.toList E τ = some v) (fun E τ r m tm σ h hr e he => ⟨he, m, E, τ, hr, h⟩) N k _ _ _ _ _ _ _ hrun hrel
  obtain ⟨n, e, s', g3, hee, m2, E2, τ2, hr2, hfin⟩ := hgo
  unfold CallsTo
  refine calls_of_wp hf hc ?_
  have hi' : Inv Γ (enterA fn σ args).σ w := hi.wr rfl rfl
  have ht : TmRep Γ (enterA fn σ args).tm { tmps := vals.toArray ++ Array.replicate (fn.ntmps - vals.toArray.size) undef, defers := [] } := by
    show RepL Γ (args ++ List.replicate (fn.ntmps - args.length) .dead) (vals.toArray ++ Array.replicate (fn.ntmps - vals.toArray.size) undef).toList
    rw [Array.toList_append, Array.toList_replicate]
    have : vals.toArray.size = args.length := by simpa using hr.len
    rw [this]
    exact hr.append (replicate_rep Γ _)
  refine wp_mono (exec_ok hC n cd _ e s' hdr (pexec_ok g3) Γ w _ hi' ht rfl) ?_
  rintro e' a' w' ⟨rfl, hd, Γ', x1, x2, x3, x4⟩
  unfold finS at hfin
  split at hfin <;> try cases hfin
  rename_i o q vv ids q' hoB hoR
  split at hfin <;> cases hfin
  rename_i hcond
  rw [Bool.and_eq_true] at hcond
  obtain ⟨hids, ys, hys, hFR⟩ := outR_res hr2 hoR
  obtain ⟨vr, q1, q2⟩ := results_ok hC.ty x2 x3 (fn := fn) (r := oneOf ys) (by unfold resultsA; rw [hys])
  have hbox := outB_sim hr2 g.args hoB
  have hfs : ∃ fs, (∀ (i : Nat) (cs : List AV), (boxE g.args o)[i]? = some cs → ∃ ds, s'.σ.bx[i]? = some ds ∧ SubL (ds.map (purC s'.σ.rw)) cs ∧ rbL cs = [] ∧ rrL cs = [] ∧ ∀ x ∈ ds, ∀ r ∈ rsC x, r ∈ fs) ∧ (((∀ y ∈ ys, ∀ r ∈ rsA y, r ∈ fs) ∧ ids = []) ∨ (q' = true ∧ fs = [])) := by
    have pinned : ∀ (i : Nat) (cs : List AV), (boxE g.args o)[i]? = some cs → m2.b (0 + i) = i := fun i cs hi => by
      have hl := getElem?_lt hi
      rw [boxE_len, ← hnp] at hl
      rw [Nat.zero_add]; exact (hr2.pin i hl).2
    rcases Bool.or_eq_true_iff.1 hcond.2 with hc | hc
    · refine ⟨(s'.σ.bx.flatMap fun ds => ds.flatMap rsC) ++ ys.flatMap rsA, fun i cs hi => ?_, .inl ⟨fun y hy r hr => List.mem_append.2 (.inr (List.mem_flatMap.2 ⟨y, hy, hr⟩)), by simpa [List.isEmpty_iff] using hc⟩⟩
      obtain ⟨ds, d1, d2, d3, d4, _⟩ := hbox i cs hi
      rw [pinned i cs hi] at d1
      exact ⟨ds, d1, d2, d3, d4, fun x hx r hr => List.mem_append.2 (.inl (List.mem_flatMap.2 ⟨ds, List.mem_of_getElem? d1, List.mem_flatMap.2 ⟨x, hx, hr⟩⟩))⟩
    · rw [Bool.and_eq_true] at hc
      refine ⟨[], fun i cs hi => ?_, .inr ⟨hc.2, rfl⟩⟩
      obtain ⟨ds, d1, d2, d3, d4, d5⟩ := hbox i cs hi
      rw [pinned i cs hi] at d1
      exact ⟨ds, d1, d2, d3, d4, fun x hx r hr => by rw [d5 hc.1 x hx] at hr; cases hr⟩
  obtain ⟨fs, f1, f2⟩ := hfs
  obtain ⟨news, n1, n2, n3⟩ := hFR fs f2
  have hnd : (news.filterMap (·.1)).Nodup := by
    rw [n3]
    exact fm_nd (ndN_nd hcond.1) fun x hx y hy q e1 e2 => hr2.rinj x y q (hids x hx) (hids y hy) e1 e2
  obtain ⟨mm, z1, z2, z3, z4⟩ := settle (σ0 := σ) hi x1 x2 x4.bl (boxE g.args o) (by rw [boxE_len, hnb]) fs f1 news n1.newOk (fun a b j R R' h1 h2 => fm_get hnd a b j _ _ h1 h2 rfl rfl) (List.range σ.bx.length) (List.range σ.rw.length)
  have hrep : Rep (newGh Γ' mm σ.bx.length σ.rw.length news) (oneOf (resE g.res σ.rw.length vv)) vr := by
    refine rep_oneOf (n1.len _) (fun us hu => ?_) q2
    exact n1.rep x2 z1.le z2 σ.bx.length σ.rw.length news [] rfl us hu
  rw [n2] at z4
  have hkeep : Keeps { σ with wr := [], wrr := [] } ⟨boxE g.args o, σ.rw.map killR ++ rowE g.res vv, List.range σ.bx.length, List.range σ.rw.length⟩ := by
    refine ⟨by show σ.bx.length ≤ (boxE g.args o).length; rw [boxE_len, hnb]; exact Nat.le_refl _, by show σ.rw.length ≤ (σ.rw.map killR ++ _).length; rw [List.length_append, List.length_map]; exact Nat.le_add_right _ _, fun i hi hn => absurd (List.mem_range.2 hi) hn, fun i hi hn => absurd (List.mem_range.2 hi) hn, fun i h => (by cases h), fun i h => (by cases h)⟩
  have fin : a'.defers = [] ∧ ∃ v, (results fn a'.tmps).run P w' = .ok v w' ∧ ∃ v_1 Γ', Ending.returned v = .returned v_1 ∧ Ext Γ w Γ' w' ∧ Inv Γ' ⟨boxE g.args o, σ.rw.map killR ++ rowE g.res vv, List.range σ.bx.length, List.range σ.rw.length⟩ w' ∧ Rep Γ' (oneOf (resE g.res σ.rw.length vv)) v_1 ∧ Keeps { σ with wr := [], wrr := [] } ⟨boxE g.args o, σ.rw.map killR ++ rowE g.res vv, List.range σ.bx.length, List.range σ.rw.length⟩ :=
    ⟨hd, vr, q1, vr, _, rfl, z3, z4, hrep, hkeep⟩
  rcases hee with rfl | rfl
  · exact fin
  · exact fin
end
end Go.AmYtmodnblfcikjlaaGreat
namespace Go.AmYtmodnblfcikjlaaGreat
open Go Go.RowKit Go.GxYtmodnblfcikjlaaGreat

/-- Recursion over fuel. -/
def nrec {α : Type} (z : α) (s : α → α) : Nat → α := fun k => Nat.rec (motive := fun _ => α) z (fun _ ih => s ih) k
def nrecM {α : Type} (z : α) (s : Nat → α → α) : Nat → α := fun k => Nat.rec (motive := fun _ => α) z (fun m ih => s m ih) k
abbrev Y8 := List UInt8
abbrev TL := List T
/-- Steps between two heads of loops. -/
def stepsN : Nat := 4000
def findL (r : Nat) : Code → List It → Option (List It)
  | .seq a b, k => match findL r a (.code b :: k) with
    | some x => some x
    | none => findL r b k
  | .cond _ a b, k => match findL r a k with
    | some x => some x
    | none => findL r b k
  | .block id b, k => findL r b (.blk id :: k)
  | .loop b, k => match Nat.beq (firstReg b) r with
    | true => some (.code (.loop b) :: k)
    | false => findL r b (.code (.loop b) :: k)
  | _, _ => none
def bodyC (f : Func) : Code := match f.body with
  | some c => c
  | none => .skip
def stL (f : Func) (r : Nat) : List It := match findL r (bodyC f) [] with
  | some x => x
  | none => []
def natsEq : List Nat → List Nat → Bool
  | [], [] => true
  | a :: l, b :: m => Nat.beq a b && natsEq l m
  | _, _ => false
def gsel (a b : List Nat) (x y : Option Sig) : Option Sig := cond (natsEq a b) x y
theorem natsEq_eq : ∀ {a b : List Nat}, natsEq a b = true → a = b
  | [], [], _ => rfl
  | a :: l, b :: m, h => by
    simp only [natsEq, Bool.and_eq_true] at h
    rw [Nat.eq_of_beq_eq_true h.1, natsEq_eq h.2]
  | [], _ :: _, h => by cases h
  | _ :: _, [], h => by cases h
theorem gsel_some {a b : List Nat} {x y : Option Sig} {g : Sig} (h : gsel a b x y = some g) : (a = b ∧ x = some g) ∨ y = some g := by
  unfold gsel at h
  cases hb : natsEq a b with
  | true => rw [hb] at h; exact .inl ⟨natsEq_eq hb, h⟩
  | false => rw [hb] at h; exact .inr h
def tvAs : (ts : List ATy) → ArgsV ts → List Nat → List TV
  | [], _, _ => []
  | .val τ :: r, a, gs => toTV τ a.1 :: tvAs r a.2 gs
  | .fn :: r, a, g :: gs => .fn g [] :: tvAs r a gs
  | .fn :: r, a, [] => .dead :: tvAs r a []
def encAs : (ts : List ATy) → ArgsV ts → List Nat → List AV
  | [], _, _ => []
  | .val τ :: r, a, gs => encA τ a.1 :: encAs r a.2 gs
  | .fn :: r, a, g :: gs => .fn g [] :: encAs r a gs
  | .fn :: r, a, [] => .dead :: encAs r a []
theorem encAs_len : ∀ (ts : List ATy) (a : ArgsV ts) (gs : List Nat), (encAs ts a gs).length = ts.length
  | [], _, _ => rfl
  | .val τ :: r, a, gs => by simp [encAs, encAs_len r]
  | .fn :: r, a, g :: gs => by simp [encAs, encAs_len r]
  | .fn :: r, a, [] => by simp [encAs, encAs_len r]
theorem encAs_ok {m : Mp} : ∀ (ts : List ATy) (a : ArgsV ts) (gs : List Nat), OKL m (tvAs ts a gs) (encAs ts a gs)
  | [], _, _ => rfl
  | .val τ :: r, a, gs => ⟨_, _, rfl, toTV_ok τ a.1, encAs_ok r a.2 gs⟩
  | .fn :: r, a, g :: gs => ⟨_, _, rfl, ⟨[], rfl, rfl⟩, encAs_ok r a gs⟩
  | .fn :: r, a, [] => ⟨_, _, rfl, trivial, encAs_ok r a []⟩
theorem encAs_sub : ∀ (ts : List ATy) {ys : List AV} {a : ArgsV ts}, dparseA ts ys = some a → SubL ys (encAs ts a (fnsA ys))
  | [], ys, a, h => by
    cases ys with
    | nil => exact .nil
    | cons y ys => cases h
  | .val τ :: r, ys, a, h => by
    obtain ⟨y, ys, rfl, h1, h2⟩ := pVal_some h
    have hf : fnsA (y :: ys) = fnsA ys := by
      have := (dpackV_plain h1).2
      cases y <;> first | rfl | exact absurd rfl (this _ _)
    rw [hf]
    exact .cons (sub_enc h1) (encAs_sub r h2)
  | .fn :: r, ys, a, h => by
    change dFn _ ys = _ at h
    unfold dFn at h
    split at h
    case h_2 => cases h
    exact .cons (.refl _) (encAs_sub r h)
theorem fnOk_of {P : Program} {f : FuncId} {fn : Func} (hf : P.funcs[f]? = some fn) (hb : bodyOk fn = true) : FnOk P f := by
  unfold bodyOk at hb
  cases hc : fn.body with
  | none => rw [hc] at hb; cases hb
  | some cd =>
    rw [hc] at hb
    simp only [Bool.and_eq_true, Bool.not_eq_true'] at hb
    exact ⟨fn, hf, by rw [hc]; rfl, hb.2⟩
theorem prim_zero {P : Program} {c : TC} {f : FuncId} (hf : FnOk P f) (h : ∀ gs g a, c.pf f gs = some g → g.fn a = none) : PrimOk P f (pureP (sigP c f)) := by
  refine ⟨hf, fun Γ σ w args vals r hi hr hp => ?_⟩
  have : ∀ ys, sigP c f ys = none := by
    intro ys
    unfold sigP
    split
    · rename_i g hg
      split
      · rename_i a ha
        rw [h _ g a hg]
      · rfl
    · rfl
  unfold pureP at hp
  split at hp <;> try cases hp
  rw [this] at hp
  cases hp
theorem prim_zeroS {P : Program} {f : FuncId} {g : SSig} (hf : FnOk P f) (h : ∀ a, g.fn a = none) : PrimOk P f (sgP g) := by
  refine ⟨hf, fun Γ σ w args vals r hi hr hp => ?_⟩
  unfold sgP at hp
  split at hp <;> try cases hp
  rw [h] at hp
  cases hp
/-- A function that turns boxes and rows answers as its plain function does. -/
theorem fn_stepS {P : Program} {c : TC} (hC : CfgOk P c.pc.cfg) {f : FuncId} {fn : Func} {cd : Code} (hf : P.funcs[f]? = some fn) (hb : bodyOk fn = true) (hc : fn.body = some cd) (hnt : c.nt = fn.ntmps) (g : SSig) (hnp : c.np = nBox g.args) (hlen : g.args.length ≤ fn.ntmps)
    (h : ∃ N k, ∀ a, g.fn a = runL c (finS c g.args g.res fn.results.toList) N k [.code cd] (envOf 0 (sEnv g.args 0 0 a)) ⟨sBx g.args a, sRw g.args a⟩) : PrimOk P f (sgP g) := by
  obtain ⟨N, k, h⟩ := h
  exact prim_state hC hf hb hc hnt g hnp hlen fun a v hv => ⟨N, k, by rw [← h a]; exact hv⟩
theorem cfg_ok {P : Program} {c : TC} (hm : P.follows .mixedOrders = true) (ht : ∀ t d, c.ty t = some d → tdOf P t = some d) (h : ∀ f, c.has f = true → PrimOk P f (pureP (sigP c f))) (h2 : ∀ f g, c.sf f = some g → PrimOk P f (sgP g)) : CfgOk P c.pc.cfg := by
  refine ⟨hm, ht, (fun f fn h => by cases h), fun f p hp => ?_⟩
  have hp : c.pc.prim f = some p := hp
  unfold PC.prim at hp
  have e1 : c.pc.pf f = match c.has f with | true => some (sigP c f) | false => none := rfl
  have e2 : c.pc.sp f = match c.sf f with | some g => some (sgP g) | none => none := rfl
  rw [e1, e2] at hp
  cases hh : c.has f with
  | true =>
    rw [hh] at hp
    cases hp
    exact h f hh
  | false =>
    rw [hh] at hp
    cases hg : c.sf f with
    | none => rw [hg] at hp; cases hp
    | some g =>
      rw [hg] at hp
      cases hp
      exact h2 f g hg
end Go.AmYtmodnblfcikjlaaGreat
namespace Go.AmYtmodnblfcikjlaaGreat
open Go

inductive TyTr where
  | leaf
  | node (k : Nat) (d : TD) (l r : TyTr)
def TyTr.get : TyTr → Nat → Option TD
  | .leaf, _ => none
  | .node k d l r, t => match Nat.beq t k with
    | true => some d
    | false => match Nat.blt t k with
      | true => l.get t
      | false => r.get t
def TyTr.ok (P : Program) : TyTr → Prop
  | .leaf => True
  | .node k d l r => tdOf P k = some d ∧ l.ok P ∧ r.ok P
theorem TyTr.get_ok {P : Program} : ∀ {x : TyTr} {t : Nat} {d : TD}, x.ok P → x.get t = some d → tdOf P t = some d
  | .leaf, t, d, _, h => by cases h
  | .node k d' l r, t, d, ⟨h1, h2, h3⟩, h => by
    simp only [TyTr.get] at h
    split at h
    · rename_i hb
      cases h
      rw [Nat.eq_of_beq_eq_true hb]; exact h1
    · split at h
      · exact get_ok h2 h
      · exact get_ok h3 h
def tyTree : TyTr := (.node 88 ⟨1, 24, false, [Value.slice none 0 0], TK.slice 117 8 112 [Value.int IntKind.i64 (0), Value.string { data := { toList := [] } }, Value.int IntKind.i64 (0), Value.slice none 0 0, Value.int IntKind.i64 (0), Value.string { data := { toList := [] } }, Value.int IntKind.i64 (0), Value.slice none 0 0]⟩
  (.node 20 ⟨1, 16, false, [Value.nilIface], TK.other⟩
  (.node 11 ⟨1, 16, false, [Value.string { data := { toList := [] } }], TK.string⟩
  (.node 6 ⟨1, 1, false, [Value.int IntKind.u8 (0)], TK.int IntKind.u8⟩
  (.node 4 ⟨1, 1, false, [Value.bool false], TK.bool⟩
  (.node 3 ⟨1, 8, false, [Value.int IntKind.i64 (0)], TK.int IntKind.i64⟩
  (.node 2 ⟨1, 8, false, [Value.int IntKind.i64 (0)], TK.int IntKind.i64⟩
  .leaf
  .leaf)
  .leaf)
  (.node 5 ⟨1, 1, false, [Value.int IntKind.u8 (0)], TK.int IntKind.u8⟩
  .leaf
  .leaf))
  (.node 9 ⟨1, 16, false, [Value.string { data := { toList := [] } }], TK.string⟩
  (.node 8 ⟨4, 24, true, [Value.int IntKind.i64 (0), Value.int IntKind.i64 (0), Value.bool false, Value.int IntKind.u8 (0)], TK.struct [(0, 1, false), (1, 1, false), (2, 1, false), (3, 1, false)]⟩
  (.node 7 ⟨4, 24, true, [Value.int IntKind.i64 (0), Value.int IntKind.i64 (0), Value.bool false, Value.int IntKind.u8 (0)], TK.struct [(0, 1, false), (1, 1, false), (2, 1, false), (3, 1, false)]⟩
  .leaf
  .leaf)
  .leaf)
  (.node 10 ⟨1, 16, false, [Value.string { data := { toList := [] } }], TK.string⟩
  .leaf
  .leaf)))
  (.node 16 ⟨1, 8, false, [Value.pointer none], TK.other⟩
  (.node 14 ⟨2, 24, true, [Value.string { data := { toList := [] } }, Value.int IntKind.u64 (0)], TK.struct [(0, 1, false), (1, 1, false)]⟩
  (.node 13 ⟨2, 24, true, [Value.string { data := { toList := [] } }, Value.int IntKind.u64 (0)], TK.struct [(0, 1, false), (1, 1, false)]⟩
  (.node 12 ⟨1, 8, false, [Value.int IntKind.u64 (0)], TK.int IntKind.u64⟩
  .leaf
  .leaf)
  .leaf)
  (.node 15 ⟨1, 8, false, [Value.pointer none], TK.other⟩
  .leaf
  .leaf))
  (.node 18 ⟨1, 8, true, [Value.pointer none], TK.struct [(0, 1, false)]⟩
  (.node 17 ⟨1, 8, false, [Value.pointer none], TK.other⟩
  .leaf
  .leaf)
  (.node 19 ⟨1, 8, true, [Value.pointer none], TK.struct [(0, 1, false)]⟩
  .leaf
  .leaf))))
  (.node 39 ⟨4, 40, true, [Value.string { data := { toList := [] } }, Value.int IntKind.i64 (0), Value.int IntKind.i64 (0), Value.int IntKind.i64 (0)], TK.struct [(0, 1, false), (1, 1, false), (2, 1, false), (3, 1, false)]⟩
  (.node 27 ⟨1, 8, false, [Value.int IntKind.i64 (0)], TK.int IntKind.i64⟩
  (.node 23 ⟨4, 56, true, [Value.int IntKind.i64 (0), Value.string { data := { toList := [] } }, Value.int IntKind.i64 (0), Value.slice none 0 0], TK.struct [(0, 1, false), (1, 1, false), (2, 1, false), (3, 1, false)]⟩
  (.node 22 ⟨1, 24, false, [Value.slice none 0 0], TK.slice 24 4 56 [Value.int IntKind.i64 (0), Value.string { data := { toList := [] } }, Value.int IntKind.i64 (0), Value.slice none 0 0]⟩
  (.node 21 ⟨1, 4, false, [Value.int IntKind.i32 (0)], TK.int IntKind.i32⟩
  .leaf
  .leaf)
  .leaf)
  (.node 24 ⟨4, 56, true, [Value.int IntKind.i64 (0), Value.string { data := { toList := [] } }, Value.int IntKind.i64 (0), Value.slice none 0 0], TK.struct [(0, 1, false), (1, 1, false), (2, 1, false), (3, 1, false)]⟩
  .leaf
  .leaf))
  (.node 37 ⟨1, 24, false, [Value.slice none 0 0], TK.slice 39 4 40 [Value.string { data := { toList := [] } }, Value.int IntKind.i64 (0), Value.int IntKind.i64 (0), Value.int IntKind.i64 (0)]⟩
  (.node 34 ⟨1, 24, false, [Value.slice none 0 0], TK.slice 42 8 112 [Value.int IntKind.i64 (0), Value.string { data := { toList := [] } }, Value.int IntKind.i64 (0), Value.slice none 0 0, Value.int IntKind.i64 (0), Value.string { data := { toList := [] } }, Value.int IntKind.i64 (0), Value.slice none 0 0]⟩
  .leaf
  .leaf)
  (.node 38 ⟨4, 40, true, [Value.string { data := { toList := [] } }, Value.int IntKind.i64 (0), Value.int IntKind.i64 (0), Value.int IntKind.i64 (0)], TK.struct [(0, 1, false), (1, 1, false), (2, 1, false), (3, 1, false)]⟩
  .leaf
  .leaf)))
  (.node 66 ⟨2, 32, true, [Value.int IntKind.i64 (0), Value.slice none 0 0], TK.struct [(0, 1, false), (1, 1, false)]⟩
  (.node 45 ⟨1, 24, false, [Value.slice none 0 0], TK.slice 67 2 32 [Value.int IntKind.i64 (0), Value.slice none 0 0]⟩
  (.node 42 ⟨8, 112, true, [Value.int IntKind.i64 (0), Value.string { data := { toList := [] } }, Value.int IntKind.i64 (0), Value.slice none 0 0, Value.int IntKind.i64 (0), Value.string { data := { toList := [] } }, Value.int IntKind.i64 (0), Value.slice none 0 0], TK.struct [(0, 4, true), (4, 4, true)]⟩
  (.node 41 ⟨8, 112, true, [Value.int IntKind.i64 (0), Value.string { data := { toList := [] } }, Value.int IntKind.i64 (0), Value.slice none 0 0, Value.int IntKind.i64 (0), Value.string { data := { toList := [] } }, Value.int IntKind.i64 (0), Value.slice none 0 0], TK.struct [(0, 4, true), (4, 4, true)]⟩
  .leaf
  .leaf)
  .leaf)
  (.node 65 ⟨1, 24, false, [Value.slice none 0 0], TK.slice 3 1 8 [Value.int IntKind.i64 (0)]⟩
  .leaf
  .leaf))
  (.node 76 ⟨1, 24, false, [Value.slice none 0 0], TK.slice 103 5 64 [Value.int IntKind.i64 (0), Value.string { data := { toList := [] } }, Value.int IntKind.i64 (0), Value.slice none 0 0, Value.int IntKind.i64 (0)]⟩
  (.node 67 ⟨2, 32, true, [Value.int IntKind.i64 (0), Value.slice none 0 0], TK.struct [(0, 1, false), (1, 1, false)]⟩
  .leaf
  .leaf)
  (.node 82 ⟨1, 8, false, [Value.pointer none], TK.other⟩
  .leaf
  .leaf)))))
  (.node 159 ⟨1, 8, false, [Value.int IntKind.i64 (0)], TK.int IntKind.i64⟩
  (.node 119 ⟨2, 24, true, [Value.string { data := { toList := [] } }, Value.int IntKind.i64 (0)], TK.struct [(0, 1, false), (1, 1, false)]⟩
  (.node 114 ⟨2, 24, true, [Value.string { data := { toList := [] } }, Value.int IntKind.i64 (0)], TK.struct [(0, 1, false), (1, 1, false)]⟩
  (.node 111 ⟨1, 8, false, [Value.map none], TK.other⟩
  (.node 103 ⟨5, 64, true, [Value.int IntKind.i64 (0), Value.string { data := { toList := [] } }, Value.int IntKind.i64 (0), Value.slice none 0 0, Value.int IntKind.i64 (0)], TK.struct [(0, 4, true), (4, 1, false)]⟩
  (.node 102 ⟨5, 64, true, [Value.int IntKind.i64 (0), Value.string { data := { toList := [] } }, Value.int IntKind.i64 (0), Value.slice none 0 0, Value.int IntKind.i64 (0)], TK.struct [(0, 4, true), (4, 1, false)]⟩
  .leaf
  .leaf)
  .leaf)
  (.node 113 ⟨2, 24, true, [Value.string { data := { toList := [] } }, Value.int IntKind.i64 (0)], TK.struct [(0, 1, false), (1, 1, false)]⟩
  .leaf
  .leaf))
  (.node 117 ⟨8, 112, true, [Value.int IntKind.i64 (0), Value.string { data := { toList := [] } }, Value.int IntKind.i64 (0), Value.slice none 0 0, Value.int IntKind.i64 (0), Value.string { data := { toList := [] } }, Value.int IntKind.i64 (0), Value.slice none 0 0], TK.struct [(0, 4, true), (4, 4, true)]⟩
  (.node 116 ⟨8, 112, true, [Value.int IntKind.i64 (0), Value.string { data := { toList := [] } }, Value.int IntKind.i64 (0), Value.slice none 0 0, Value.int IntKind.i64 (0), Value.string { data := { toList := [] } }, Value.int IntKind.i64 (0), Value.slice none 0 0], TK.struct [(0, 4, true), (4, 4, true)]⟩
  .leaf
  .leaf)
  (.node 118 ⟨1, 8, false, [Value.map none], TK.other⟩
  .leaf
  .leaf)))
  (.node 127 ⟨8, 112, true, [Value.int IntKind.i64 (0), Value.string { data := { toList := [] } }, Value.int IntKind.i64 (0), Value.slice none 0 0, Value.int IntKind.i64 (0), Value.string { data := { toList := [] } }, Value.int IntKind.i64 (0), Value.slice none 0 0], TK.struct [(0, 4, true), (4, 4, true)]⟩
  (.node 123 ⟨1, 24, false, [Value.slice none 0 0], TK.slice 127 8 112 [Value.int IntKind.i64 (0), Value.string { data := { toList := [] } }, Value.int IntKind.i64 (0), Value.slice none 0 0, Value.int IntKind.i64 (0), Value.string { data := { toList := [] } }, Value.int IntKind.i64 (0), Value.slice none 0 0]⟩
  (.node 121 ⟨1, 8, false, [Value.pointer none], TK.other⟩
  (.node 120 ⟨2, 24, true, [Value.string { data := { toList := [] } }, Value.int IntKind.i64 (0)], TK.struct [(0, 1, false), (1, 1, false)]⟩
  .leaf
  .leaf)
  .leaf)
  (.node 126 ⟨8, 112, true, [Value.int IntKind.i64 (0), Value.string { data := { toList := [] } }, Value.int IntKind.i64 (0), Value.slice none 0 0, Value.int IntKind.i64 (0), Value.string { data := { toList := [] } }, Value.int IntKind.i64 (0), Value.slice none 0 0], TK.struct [(0, 4, true), (4, 4, true)]⟩
  .leaf
  .leaf))
  (.node 151 ⟨1, 24, false, [Value.slice none 0 0], TK.slice 9 1 16 [Value.string { data := { toList := [] } }]⟩
  (.node 131 ⟨1, 24, false, [Value.slice none 0 0], TK.slice 22 1 24 [Value.slice none 0 0]⟩
  .leaf
  .leaf)
  (.node 152 ⟨1, 8, false, [Value.int IntKind.u64 (0)], TK.int IntKind.u64⟩
  .leaf
  .leaf))))
  (.node 183 ⟨0, 0, true, [], TK.struct [(0, 0, true)]⟩
  (.node 179 ⟨4, 40, true, [Value.pointer none, Value.pointer none, Value.pointer none, Value.string { data := { toList := [] } }], TK.struct [(0, 1, false), (1, 1, false), (2, 1, false), (3, 1, false)]⟩
  (.node 170 ⟨1, 8, false, [Value.int IntKind.u64 (0)], TK.int IntKind.u64⟩
  (.node 168 ⟨1, 8, false, [Value.int IntKind.u64 (0)], TK.int IntKind.u64⟩
  (.node 166 ⟨1, 4, false, [Value.int IntKind.u32 (0)], TK.int IntKind.u32⟩
  .leaf
  .leaf)
  .leaf)
  (.node 175 ⟨1, 8, false, [Value.pointer none], TK.other⟩
  .leaf
  .leaf))
  (.node 181 ⟨0, 0, true, [], TK.array 0 16 1⟩
  (.node 180 ⟨4, 40, true, [Value.pointer none, Value.pointer none, Value.pointer none, Value.string { data := { toList := [] } }], TK.struct [(0, 1, false), (1, 1, false), (2, 1, false), (3, 1, false)]⟩
  .leaf
  .leaf)
  (.node 182 ⟨0, 0, true, [], TK.struct [(0, 0, true)]⟩
  .leaf
  .leaf)))
  (.node 190 ⟨1, 4, false, [Value.int IntKind.i32 (0)], TK.int IntKind.i32⟩
  (.node 188 ⟨1, 8, false, [Value.pointer none], TK.other⟩
  (.node 186 ⟨1, 1, false, [Value.int IntKind.u8 (0)], TK.int IntKind.u8⟩
  (.node 185 ⟨1, 1, false, [Value.int IntKind.u8 (0)], TK.int IntKind.u8⟩
  .leaf
  .leaf)
  .leaf)
  (.node 189 ⟨1, 4, false, [Value.int IntKind.i32 (0)], TK.int IntKind.i32⟩
  .leaf
  .leaf))
  (.node 192 ⟨11, 48, true, [Value.int IntKind.u64 (0), Value.int IntKind.u64 (0), Value.int IntKind.u32 (0), Value.int IntKind.u8 (0), Value.int IntKind.u8 (0), Value.int IntKind.u8 (0), Value.int IntKind.u8 (0), Value.nilFunc, Value.pointer none, Value.int IntKind.i32 (0), Value.int IntKind.i32 (0)], TK.struct [(0, 1, false), (1, 1, false), (2, 1, false), (3, 1, false), (4, 1, false), (5, 1, false), (6, 1, false), (7, 1, false), (8, 1, false), (9, 1, false), (10, 1, false)]⟩
  (.node 191 ⟨11, 48, true, [Value.int IntKind.u64 (0), Value.int IntKind.u64 (0), Value.int IntKind.u32 (0), Value.int IntKind.u8 (0), Value.int IntKind.u8 (0), Value.int IntKind.u8 (0), Value.int IntKind.u8 (0), Value.nilFunc, Value.pointer none, Value.int IntKind.i32 (0), Value.int IntKind.i32 (0)], TK.struct [(0, 1, false), (1, 1, false), (2, 1, false), (3, 1, false), (4, 1, false), (5, 1, false), (6, 1, false), (7, 1, false), (8, 1, false), (9, 1, false), (10, 1, false)]⟩
  .leaf
  .leaf)
  (.node 193 ⟨1, 8, false, [Value.pointer none], TK.other⟩
  .leaf
  .leaf))))))
def tyT (t : Nat) : Option TD := tyTree.get t
theorem tyT_ok (t : Nat) (d : TD) (h : tyT t = some d) : tdOf Go.Proofs.Tryz.prog t = some d :=
  TyTr.get_ok (show TyTr.ok Go.Proofs.Tryz.prog tyTree from ⟨by kernel_rfl, ⟨by kernel_rfl, ⟨by kernel_rfl, ⟨by kernel_rfl, ⟨by kernel_rfl, ⟨by kernel_rfl, ⟨by kernel_rfl, trivial, trivial⟩, trivial⟩, ⟨by kernel_rfl, trivial, trivial⟩⟩, ⟨by kernel_rfl, ⟨by kernel_rfl, ⟨by kernel_rfl, trivial, trivial⟩, trivial⟩, ⟨by kernel_rfl, trivial, trivial⟩⟩⟩, ⟨by kernel_rfl, ⟨by kernel_rfl, ⟨by kernel_rfl, ⟨by kernel_rfl, trivial, trivial⟩, trivial⟩, ⟨by kernel_rfl, trivial, trivial⟩⟩, ⟨by kernel_rfl, ⟨by kernel_rfl, trivial, trivial⟩, ⟨by kernel_rfl, trivial, trivial⟩⟩⟩⟩, ⟨by kernel_rfl, ⟨by kernel_rfl, ⟨by kernel_rfl, ⟨by kernel_rfl, ⟨by kernel_rfl, trivial, trivial⟩, trivial⟩, ⟨by kernel_rfl, trivial, trivial⟩⟩, ⟨by kernel_rfl, ⟨by kernel_rfl, trivial, trivial⟩, ⟨by kernel_rfl, trivial, trivial⟩⟩⟩, ⟨by kernel_rfl, ⟨by kernel_rfl, ⟨by kernel_rfl, ⟨by kernel_rfl, trivial, trivial⟩, trivial⟩, ⟨by kernel_rfl, trivial, trivial⟩⟩, ⟨by kernel_rfl, ⟨by kernel_rfl, trivial, trivial⟩, ⟨by kernel_rfl, trivial, trivial⟩⟩⟩⟩⟩, ⟨by kernel_rfl, ⟨by kernel_rfl, ⟨by kernel_rfl, ⟨by kernel_rfl, ⟨by kernel_rfl, ⟨by kernel_rfl, trivial, trivial⟩, trivial⟩, ⟨by kernel_rfl, trivial, trivial⟩⟩, ⟨by kernel_rfl, ⟨by kernel_rfl, trivial, trivial⟩, ⟨by kernel_rfl, trivial, trivial⟩⟩⟩, ⟨by kernel_rfl, ⟨by kernel_rfl, ⟨by kernel_rfl, ⟨by kernel_rfl, trivial, trivial⟩, trivial⟩, ⟨by kernel_rfl, trivial, trivial⟩⟩, ⟨by kernel_rfl, ⟨by kernel_rfl, trivial, trivial⟩, ⟨by kernel_rfl, trivial, trivial⟩⟩⟩⟩, ⟨by kernel_rfl, ⟨by kernel_rfl, ⟨by kernel_rfl, ⟨by kernel_rfl, ⟨by kernel_rfl, trivial, trivial⟩, trivial⟩, ⟨by kernel_rfl, trivial, trivial⟩⟩, ⟨by kernel_rfl, ⟨by kernel_rfl, trivial, trivial⟩, ⟨by kernel_rfl, trivial, trivial⟩⟩⟩, ⟨by kernel_rfl, ⟨by kernel_rfl, ⟨by kernel_rfl, ⟨by kernel_rfl, trivial, trivial⟩, trivial⟩, ⟨by kernel_rfl, trivial, trivial⟩⟩, ⟨by kernel_rfl, ⟨by kernel_rfl, trivial, trivial⟩, ⟨by kernel_rfl, trivial, trivial⟩⟩⟩⟩⟩⟩) h
end Go.AmYtmodnblfcikjlaaGreat
namespace Go.Proofs
open Go.Shelf
def Tryz.lays106_ren : Go.Shelf.Ren := ⟨fun | 106 => 114 | 213 => 143 | 265 => 165 | n => n, fun | 9 => 9 | 3 => 3 | n => n, fun | n => n⟩
theorem Tryz.lays106 : Go.Proofs.Lays.n106 Tryz.prog Tryz.lays106_ren := {
  mixed := by kernel_rfl
  f106 := Tryz.func114.trans (congrArg some (by kernel_rfl))
  f213 := Tryz.func143.trans (congrArg some (by kernel_rfl))
  f265 := Tryz.func165.trans (congrArg some (by kernel_rfl))
  t3 := Tryz.underlying3
  a3 := Tryz.isAgg3
  z3 := Tryz.sizeOf3
  v3 := Tryz.zeroValue3
  t9 := Tryz.underlying9
  a9 := Tryz.isAgg9
  z9 := Tryz.sizeOf9
  v9 := Tryz.zeroValue9 }
open Go.RowKit in
theorem Tryz.strings_Compare (a b : ByteArray) (w : World) :
    Calls Tryz.prog 114 #[.string a, .string b] w fun e w' => e = .returned (.int .i64 (Lib.compareBytes a.data.toList b.data.toList)) ∧ w' = w := Any.strings_Compare Tryz.lays106 a b w
end Go.Proofs
namespace Go.AmYtmodnblfcikjlaaGreat
open Go Go.RowKit Go.GxYtmodnblfcikjlaaGreat

/-- The cells of a list in memory. -/
structure RowCells (Γ : Gh) (w : World) (a : Option Addr) (n k : Nat) (cs : List (List AV)) : Prop where
  len : cs.length = n
  size : ∀ e ∈ cs, e.length = k
  plain : ∀ e ∈ cs, ∀ x ∈ e, plainC x = true
  at_ : cs = [] ∨ ∃ b o, a = some ⟨b, o, none⟩ ∧ ∀ (i : Nat) (e : List AV) (j : Nat) (x : AV), cs[i]? = some e → e[j]? = some x → ∃ u, w.cell? ⟨b, o + (i * k + j), none⟩ = some u ∧ Rep Γ x u ∧ u.oneCell' = true
theorem cells_of {Γ : Gh} {σ : St} {w : World} (hi : Inv Γ σ w) {a : Ty} {y : AV} {l : List (Val a)} {u : Value} (hd : dlist a y = some l) (hr : Rep Γ y u) : ∃ p n c, u = .slice p n c ∧ n ≤ c ∧ RowCells Γ w p n a.size (l.map (encV a)) := by
  rcases dlist_v hd with ⟨rfl, rfl⟩ | ⟨es, n, rfl, h⟩
  · have := v_inv hr
    subst this
    exact ⟨none, 0, 0, rfl, Nat.le_refl _, rfl, (by intro e he; cases he), (by intro e he; cases he), .inl rfl⟩
  · cases hr with
    | sl k es f p n' c b o us hn hc hf hk hp h0 ha hm hr =>
      have hlen := decLs_len h
      refine ⟨p, n', c, rfl, hc (Nat.succ_pos _), by rw [List.length_map, hn, hlen], ?_, ?_, ?_⟩
      · intro e he
        obtain ⟨v, _, rfl⟩ := List.mem_map.1 he
        exact encV_len a v
      · intro e he
        obtain ⟨v, _, rfl⟩ := List.mem_map.1 he
        exact encV_plain a v
      · rcases ha with ha | ha
        · left
          have : l = [] := List.eq_nil_of_length_eq_zero (by rw [← hlen, ha]; rfl)
          rw [this]; rfl
        · right
          refine ⟨b, o, ha, fun i e j x h1 h2 => ?_⟩
          rw [List.getElem?_map] at h1
          cases hl : l[i]? with
          | none => rw [hl] at h1; cases h1
          | some v =>
            rw [hl] at h1; cases h1
            obtain ⟨e0, g1, g2⟩ := decLs_get h hl
            obtain ⟨x0, g3, g4⟩ := (subL_of g2).get j x h2
            have hmm := hm i e0 j x0 g1 g3
            obtain ⟨q1, q2⟩ := hi.mem _ _ _ hmm
            exact ⟨us i j, by rw [← Nat.add_assoc]; exact q1, g4 _ _ (hr i e0 j x0 g1 g3), q2⟩
/-- The row that a function hands back: nothing, or a block that it made. -/
def Fresh (w : World) (k n : Nat) (xs : List Value) (v : Value) (w' : World) : Prop :=
  Below w.heap.size w w' ∧ ((n = 0 ∧ ∃ a, v = .slice a 0 0) ∨ ∃ (g cap : Nat) (cur : Array Value) (e : TypeId), v = .slice (some ⟨g, 0, none⟩) n cap ∧ w.heap.size ≤ g ∧ w'.heap[g]? = some (.cells cur e (0, 0)) ∧ n ≤ cap ∧ cap * k ≤ cur.size ∧ ∀ (j : Nat) (u : Value), xs[j]? = some u → cur[j]? = some u)
theorem fresh_calls {P : Program} {f : FuncId} {Γ : Gh} {σ : St} {w : World} {vals : List Value} {a : Ty} {l : List (Val a)} {xs : List Value} (hi : Inv Γ σ w) (hb0 : σ.bx = []) (hr0 : σ.rw = [])
    (hx : ∀ (i : Nat) (e : List AV) (j : Nat) (x : AV), (l.map (encV a))[i]? = some e → e[j]? = some x → ∃ u, xs[i * a.size + j]? = some u ∧ Rep Γ x u ∧ u.oneCell' = true)
    (h : Calls P f vals.toArray w fun e w' => ∃ v, e = .returned v ∧ Fresh w a.size l.length xs v w') :
    CallsTo P Γ σ w f vals (oneOf (resE [.row a] σ.rw.length (l, ())), some ⟨[], σ.rw.map killR ++ rowE [.row a] (l, ()), List.range σ.bx.length, List.range σ.rw.length⟩) := by
  refine Calls.mono h ?_
  rintro e w' ⟨v, rfl, hbl, hv⟩
  have hi' := hi.later hbl
  have hkeep : Keeps { σ with wr := [], wrr := [] } ⟨[], σ.rw.map killR ++ rowE [.row a] (l, ()), List.range σ.bx.length, List.range σ.rw.length⟩ :=
    ⟨by rw [hb0]; exact Nat.le_refl _, by show σ.rw.length ≤ _; rw [hr0]; exact Nat.zero_le _, fun i hi _ => (by have hi : i < σ.bx.length := hi; rw [hb0] at hi; exact absurd hi (Nat.not_lt_zero _)), fun i hi _ => (by have hi : i < σ.rw.length := hi; rw [hr0] at hi; exact absurd hi (Nat.not_lt_zero _)), fun i h => (by cases h), fun i h => (by cases h)⟩
  rcases hv with ⟨hn, p, rfl⟩ | ⟨g, cap, cur, et, rfl, g1, g2, g3, g4, g5⟩
  · have hl : l = [] := List.eq_nil_of_length_eq_zero hn
    subst hl
    obtain ⟨mm, z1, z2, z3, z4⟩ := settle (σ0 := σ) (σ1 := σ) hi (below_ext hbl) hi' (Nat.le_refl _) [] (by rw [hb0]) [] (fun i cs h => by cases h) [(none, ⟨a.size, [], 0, 0⟩)]
      (fun i so R h => by
        cases i with
        | zero => cases h; exact ⟨rfl, rfl, Ty.size_pos a, (by intro e he; cases he), (by intro e he; cases he), rfl⟩
        | succ i => cases h)
      (fun i j q R R' h1 h2 => by cases i <;> cases h1) (List.range σ.bx.length) (List.range σ.rw.length)
    refine ⟨_, _, rfl, z3, z4, ?_, hkeep⟩
    show Rep _ (.rs σ.rw.length 0 0 0 false) _
    exact .rs _ _ _ _ _ p 0 (by show σ.rw.length < σ.rw.length + 1; omega) (Nat.zero_le _) (Nat.le_refl _) (fun h => by cases h) fun _ => ⟨.inl rfl, by rw [Nat.add_zero, Nat.zero_mul]; exact Nat.zero_le _⟩
  · obtain ⟨Γ', f1, f2, f3⟩ := row_new hi (Ty.size_pos a) (c := l.map (encV a)) (fun e he => by obtain ⟨v, _, rfl⟩ := List.mem_map.1 he; exact encV_len a v) (fun e he => by obtain ⟨v, _, rfl⟩ := List.mem_map.1 he; exact encV_plain a v) (vs := cur) (by rw [List.length_map]; exact Nat.le_trans (Nat.mul_le_mul_right _ g3) g4)
      (fun i e j x h1 h2 => by
        obtain ⟨u, u1, u2⟩ := hx i e j x h1 h2
        exact ⟨u, g5 _ _ u1, u2⟩) (cap := cap) (by rw [List.length_map]; exact g3) g4 hbl g1 g2
    rw [List.length_map] at f3
    refine ⟨_, Γ', rfl, f1, ?_, f3, hkeep⟩
    have : ({ σ with rw := σ.rw ++ [⟨a.size, l.map (encV a), 0, 0⟩] } : St).bx = [] := hb0
    exact f2.wr this.symm (by show σ.rw.map killR ++ _ = σ.rw ++ _; rw [hr0]; rfl)
end Go.AmYtmodnblfcikjlaaGreat
namespace Go.GxYtmodnblfcikjlaaGreat
open Go.RowKit

/-- A block of plain cells. -/
def Blk (w : World) (g : Nat) (e : TypeId) (cur : Array Value) : Prop := w.heap[g]? = some (.cells cur e (0, 0))
theorem Blk.cell {w : World} {g : Nat} {e : TypeId} {cur : Array Value} (h : Blk w g e cur) (i : Nat) : w.cell? ⟨g, i, none⟩ = cur[i]? := by
  unfold Blk at h
  simp [World.cell?, h]
theorem Blk.free {w : World} {g : Nat} {e : TypeId} {cur : Array Value} (h : Blk w g e cur) (i : Nat) : w.frozen? ⟨g, i, none⟩ = false := by
  unfold Blk at h
  simp [World.frozen?, h]
theorem Blk.later {w w' : World} {g : Nat} {e : TypeId} {cur : Array Value} (h : Blk w g e cur) (hb : Below w.heap.size w w') : Blk w' g e cur := by
  unfold Blk at h ⊢
  rw [hb.block g (lt_of_block h)]; exact h
theorem Blk.same {w w' : World} {g : Nat} {e : TypeId} {cur : Array Value} (h : Blk w g e cur) (hb : w'.heap[g]? = w.heap[g]?) : Blk w' g e cur := by
  unfold Blk at h ⊢
  rw [hb]; exact h
theorem Blk.set {w : World} {g : Nat} {e : TypeId} {cur : Array Value} (h : Blk w g e cur) (i : Nat) (v : Value) : Blk (w.setCell ⟨g, i, none⟩ v) g e (cur.setIfInBounds i v) := by
  unfold Blk at h ⊢
  have hlt := lt_of_block h
  have h' : w.heap[g] = .cells cur e (0, 0) := by simpa [Array.getElem?_eq_getElem hlt] using h
  show (w.heap.modify g _)[g]? = _
  rw [Array.getElem?_eq_getElem (by simpa using hlt), Array.getElem_modify_self, h']
  rfl
/-- Four cells of a row are written. -/
theorem row_store {w : World} {g : Nat} {e : TypeId} {cur : Array Value} (h : Blk w g e cur) (o : Nat) (x0 x1 x2 x3 : Value) (ho : o + 4 ≤ cur.size) :
    ∃ w' cur', (((w.setCell ⟨g, o, none⟩ x0).setCell ⟨g, o + 1, none⟩ x1).setCell ⟨g, o + 2, none⟩ x2).setCell ⟨g, o + 3, none⟩ x3 = w' ∧ Blk w' g e cur' ∧ cur'.size = cur.size ∧
      cur'[o]? = some x0 ∧ cur'[o + 1]? = some x1 ∧ cur'[o + 2]? = some x2 ∧ cur'[o + 3]? = some x3 ∧ (∀ i, i < o → cur'[i]? = cur[i]?) ∧
      (∀ B, B ≤ g → ∀ w0, Below B w0 w → Below B w0 w') ∧ w'.heap.size = w.heap.size ∧ (∀ k, k ≠ g → w'.heap[k]? = w.heap[k]?) ∧ (∀ a, w'.frozen? a = w.frozen? a) := by
  refine ⟨_, _, rfl, (((h.set o x0).set (o + 1) x1).set (o + 2) x2).set (o + 3) x3, by simp, ?_, ?_, ?_, ?_, fun i hi => ?_, fun B hB w0 h => (((h.setCell hB _).setCell hB _).setCell hB _).setCell hB _, by simp, fun k hk => ?_, fun a => by simp⟩
  · simp [Array.getElem?_setIfInBounds]; omega
  · simp [Array.getElem?_setIfInBounds]; omega
  · simp [Array.getElem?_setIfInBounds]; omega
  · simp [Array.getElem?_setIfInBounds]; omega
  · simp only [Array.getElem?_setIfInBounds]
    rw [if_neg (by omega), if_neg (by omega), if_neg (by omega), if_neg (by omega)]
  · rw [Below.heap_setCell _ _ _ _ hk, Below.heap_setCell _ _ _ _ hk, Below.heap_setCell _ _ _ _ hk, Below.heap_setCell _ _ _ _ hk]
/-- The first terms of a row. -/
def TopR (Q : Nat → Prop) (w : World) (cur : Array Value) (l : List T) : Prop :=
  ∀ (k : Nat) (x : T), l[k]? = some x → ∃ cs : List Value, cs.length = 4 ∧ (∀ (i : Nat) (c : Value), cs[i]? = some c → cur[k * 4 + i]? = some c) ∧ TermC Q w x cs
theorem TopR.nil {Q : Nat → Prop} {w : World} {cur : Array Value} : TopR Q w cur [] := fun k x h => by simp at h
theorem TopR.kids {Q Q' : Nat → Prop} {w : World} {g : Nat} {e : TypeId} {cur : Array Value} {l : List T} (h : TopR Q w cur l) (hb : Blk w g e cur) (hg : Q' g) (hQ : ∀ b, Q b → Q' b) : KidsC Q' w (some ⟨g, 0, none⟩) l := fun k x hk => by
  obtain ⟨cs, h1, h2, h3⟩ := h k x hk
  exact ⟨g, 0, cs, rfl, hg, h1, fun i c hc => by rw [Nat.zero_add, hb.cell]; exact h2 i c hc, h3.mono hQ x⟩
theorem TopR.next {Q Q' : Nat → Prop} {w w' : World} {cur cur' : Array Value} {l : List T} (h : TopR Q w cur l) (hw : ∀ b, Q b → w'.heap[b]? = w.heap[b]?) (hQ : ∀ b, Q b → Q' b) (hc : ∀ i, i < l.length * 4 → cur'[i]? = cur[i]?) : TopR Q' w' cur' l := fun k x hk => by
  obtain ⟨cs, h1, h2, h3⟩ := h k x hk
  have hl := (List.getElem?_eq_some_iff.1 hk).1
  refine ⟨cs, h1, fun i c hc' => ?_, (h3.keep hw x).mono hQ x⟩
  have hi := (List.getElem?_eq_some_iff.1 hc').1
  rw [hc _ (by omega)]; exact h2 i c hc'
end Go.GxYtmodnblfcikjlaaGreat
namespace Go.GxYtmodnblfcikjlaaGreat
open Go.RowKit
end Go.GxYtmodnblfcikjlaaGreat
namespace Go.GxYtmodnblfcikjlaaGreat
open Go.RowKit

theorem run_copyK {P : Program} (w : World) (dT sT ty elem : TypeId) (size g o dLen dCap : Nat) (a : Addr) (sLen sCap : Nat) (cur : Array Value) (t : TypeId) (cs : List Value)
    (hu : P.underlying dT = some (.slice elem)) (hs : (P.info? elem).map (·.size) = some size)
    (hg : w.heap[g]? = some (.cells cur t (0, 0))) (hn : cs.length = Nat.min sLen dLen * size)
    (hsrc : ∀ j v, cs[j]? = some v → w.cell? (a.add j) = some v) (hfit : o + cs.length ≤ cur.size) (h1 : ∀ v ∈ cs, v.oneCell' = true) :
    (Builtin.copy_ #[dT, sT] ty #[.slice (some ⟨g, o, none⟩) dLen dCap, .slice (some a) sLen sCap]).run P w =
      .ok (goInt (Nat.min sLen dLen)) (w.setRow g (cur.toList.take o ++ cs ++ cur.toList.drop (o + cs.length)).toArray) := by
  have hl := run_loadCells_list (P := P) w a cs hsrc
  have hst := run_storeCells_at P g o t cs 0 cur w hg (by simpa using hfit) h1
  cases hq : P.info? elem with
  | none => simp [hq] at hs
  | some i =>
    have hi : i.size = size := by simpa [hq] using hs
    rw [hn] at hl
    simp [Builtin.copy_, run_underlying hu, Builtin.lenOf, Builtin.firstCells, sizeOf, typeInfo, hq, hi, hl, hst]
theorem run_clearK {P : Program} (w : World) (t e ty : TypeId) (z : Value) (ht : P.underlying t = some (.slice e)) (hv : ∀ w, (zeroValue e).run P w = .ok z w) (g o n c : Nat) (hn : 0 < n) (cur : Array Value) (tb : TypeId)
    (hg : w.heap[g]? = some (.cells cur tb (0, 0))) (hfit : o + n * z.cells.size ≤ cur.size) (h1 : ∀ v ∈ (Builtin.zeroCells z.cells n).toList, v.oneCell' = true) :
    (Builtin.clear_ #[t] ty #[.slice (some ⟨g, o, none⟩) n c]).run P w = .ok (.tuple #[]) (w.setRow g (cur.toList.take o ++ (Builtin.zeroCells z.cells n).toList ++ cur.toList.drop (o + (Builtin.zeroCells z.cells n).toList.length)).toArray) := by
  have hst := run_storeCells_at P g o tb (Builtin.zeroCells z.cells n).toList 0 cur w hg (by simpa [Builtin.zeroCells] using hfit) h1
  obtain ⟨m, rfl⟩ : ∃ m, n = m + 1 := ⟨n - 1, by omega⟩
  simp only [Nat.add_zero] at hst
  simp [Builtin.clear_, run_underlying ht, hv, hst]
/-- What a row becomes. -/
structure Wrote (w w' : World) (g : Nat) (t : TypeId) (new : List Value) : Prop where
  blk : Blk w' g t new.toArray
  other : ∀ k, k ≠ g → w'.heap[k]? = w.heap[k]?
  size : w'.heap.size = w.heap.size
  below : ∀ B, B ≤ g → ∀ w0, Below B w0 w → Below B w0 w'
  os : w'.os = w.os
  tape : w'.tape = w.tape
  output : w'.output = w.output
theorem wrote_setRow {w : World} {g : Nat} {t : TypeId} {cur : Array Value} (h : Blk w g t cur) (new : List Value) : Wrote w (w.setRow g new.toArray) g t new :=
  ⟨setRow_heap w g cur _ t _ h, fun k hk => setRow_other w g k _ hk, by simp [World.setRow], fun _ hB _ hb => below_setRow hb hB _, rfl, rfl, rfl⟩
theorem step_copyK {P : Program} {ops : Array Oper} {o : Oper} {a : Act} {w : World} {K : Act → World → Prop} {Q : Exit → Act → World → Prop} {E : Prop} (hgd : o.guard = none) (d s : Operand) (dT sT : TypeId)
    (ho : o.op = .call { callee := .builtin .copy, args := #[d, s], argTypes := #[dT, sT] }) (elem : TypeId) (size : Nat) (hu : P.underlying dT = some (.slice elem)) (hsz : (P.info? elem).map (·.size) = some size)
    (g off dLen dCap : Nat) (ad : Addr) (sLen sCap : Nat) (hd : a.eval d = .slice (some ⟨g, off, none⟩) dLen dCap) (hs : a.eval s = .slice (some ad) sLen sCap)
    (cur : Array Value) (t : TypeId) (hg : Blk w g t cur) (cs : List Value) (hn : cs.length = Nat.min sLen dLen * size)
    (hsrc : ∀ j v, cs[j]? = some v → w.cell? (ad.add j) = some v) (hfit : off + cs.length ≤ cur.size) (h1 : ∀ v ∈ cs, v.oneCell' = true)
    (h : ∀ w', Wrote w w' g t (cur.toList.take off ++ cs ++ cur.toList.drop (off + cs.length)) → K (a.put o.dst (goInt (Nat.min sLen dLen))) w') :
    if Region.wanted o (yielded ops a.tmps) = true then Oper.wp P o a w K Q else E := by
  have hw : Region.wanted o (yielded ops a.tmps) = true := by simp [Region.wanted, hgd]
  rw [if_pos hw]
  have hrun := run_copyK (P := P) w dT sT o.type elem size g off dLen dCap ad sLen sCap cur t cs hu hsz hg hn hsrc hfit h1
  unfold Oper.wp
  simp [execOp, ho, resolve, invoke, builtin, hd, hs, hrun, Result.andThen]
  have hh := h _ (wrote_setRow hg (cur.toList.take off ++ cs ++ cur.toList.drop (off + cs.length)))
  rw [List.append_assoc] at hh
  exact hh
theorem setCells_wrote (g : Nat) (t : TypeId) : ∀ (vs : List Value) (o : Nat) (w : World) (cur : Array Value), Blk w g t cur → o + vs.length ≤ cur.size → Wrote w (w.setCells g o vs) g t (cur.toList.take o ++ vs ++ cur.toList.drop (o + vs.length))
  | [], o, w, cur, h, _ => by
    refine ⟨?_, fun _ _ => rfl, rfl, fun _ _ _ h => h, rfl, rfl, rfl⟩
    simp only [List.append_nil, List.length_nil, Nat.add_zero, List.take_append_drop, Array.toArray_toList]
    exact h
  | v :: r, o, w, cur, h, hl => by
    have ih := setCells_wrote g t r (o + 1) (w.setCell ⟨g, o, none⟩ v) (cur.setIfInBounds o v) (h.set o v) (by simp at hl ⊢; omega)
    have e := list_seg_step cur.toList o v r (by simp at hl ⊢; omega)
    rw [World.setCells]
    refine ⟨?_, fun k hk => (ih.other k hk).trans (Below.heap_setCell _ _ _ _ hk), ih.size.trans (by simp), fun B hB w0 hb => ih.below B hB w0 (hb.setCell hB _), ih.os, ih.tape, ih.output⟩
    have hb := ih.blk
    have e2 : (cur.setIfInBounds o v).toList.take (o + 1) ++ r ++ (cur.setIfInBounds o v).toList.drop (o + 1 + r.length) = cur.toList.take o ++ v :: r ++ cur.toList.drop (o + (v :: r).length) := by
      simpa [Array.toList_setIfInBounds] using e
    rwa [e2] at hb
/-- The lists: a gap is made, and filled. -/
theorem gap_fill (k : Nat) (cur xs ys : List Value) (i n : Nat) (hx : cur.take (n * k) = xs) (hc : n * k + k ≤ cur.length) (hi : i * k ≤ n * k) (hy : ys.length = k) (c1 : List Value)
    (h1 : c1 = cur.take (i * k + k) ++ xs.drop (i * k) ++ cur.drop (i * k + k + (xs.drop (i * k)).length)) :
    c1.length = cur.length ∧ (c1.take (i * k) ++ ys ++ c1.drop (i * k + ys.length)).length = cur.length ∧ (c1.take (i * k) ++ ys ++ c1.drop (i * k + ys.length)).take (n * k + k) = xs.take (i * k) ++ ys ++ xs.drop (i * k) := by
  generalize n * k = N at *
  generalize i * k = I at *
  have hxl : xs.length = N := by rw [← hx, List.length_take]; omega
  have hdl : (xs.drop I).length = N - I := by rw [List.length_drop, hxl]
  have hl1 : c1.length = cur.length := by rw [h1]; simp only [List.length_append, List.length_take, List.length_drop, hxl]; omega
  refine ⟨hl1, ?_, ?_⟩
  · simp only [List.length_append, List.length_take, List.length_drop, hl1, hy]; omega
  · have e1 : c1.take I = xs.take I := by
      rw [h1, List.append_assoc, List.take_append_of_le_length (by rw [List.length_take]; omega), List.take_take, ← hx, List.take_take]
      congr 1; omega
    have e2 : c1.drop (I + k) = xs.drop I ++ cur.drop (I + k + (xs.drop I).length) := by
      rw [h1, List.append_assoc, List.drop_append_of_le_length (by rw [List.length_take]; omega), List.drop_eq_nil_of_le (by rw [List.length_take]; omega), List.nil_append]
    rw [hy, e1, e2, ← List.append_assoc, List.take_append_of_le_length (by simp only [List.length_append, List.length_take, hy, hdl, hxl]; omega), List.take_of_length_le (by simp only [List.length_append, List.length_take, hy, hdl, hxl]; omega)]
/-- The lists: a new row takes the head, the gap and the tail. -/
theorem gap_new (k : Nat) (new xs ys : List Value) (i n : Nat) (hn : new.take (i * k) = xs.take (i * k)) (hxl : xs.length = n * k) (hc : n * k + k ≤ new.length) (hi : i * k ≤ n * k) (hy : ys.length = k) (c1 : List Value)
    (h1 : c1 = new.take (i * k) ++ ys ++ new.drop (i * k + ys.length)) :
    c1.length = new.length ∧ (c1.take (i * k + k) ++ xs.drop (i * k) ++ c1.drop (i * k + k + (xs.drop (i * k)).length)).length = new.length ∧
      (c1.take (i * k + k) ++ xs.drop (i * k) ++ c1.drop (i * k + k + (xs.drop (i * k)).length)).take (n * k + k) = xs.take (i * k) ++ ys ++ xs.drop (i * k) := by
  generalize n * k = N at *
  generalize i * k = I at *
  have hdl : (xs.drop I).length = N - I := by rw [List.length_drop, hxl]
  have hl1 : c1.length = new.length := by rw [h1]; simp only [List.length_append, List.length_take, List.length_drop, hy]; omega
  refine ⟨hl1, ?_, ?_⟩
  · simp only [List.length_append, List.length_take, List.length_drop, hl1, hxl]; omega
  · have e1 : c1.take (I + k) = xs.take I ++ ys := by
      rw [h1, List.take_append_of_le_length (by simp only [List.length_append, List.length_take, hy]; omega), List.take_of_length_le (by simp only [List.length_append, List.length_take, hy]; omega), hn]
    rw [e1, List.take_append_of_le_length (by simp only [List.length_append, List.length_take, hy, hdl, hxl]; omega), List.take_of_length_le (by simp only [List.length_append, List.length_take, hy, hdl, hxl]; omega)]
/-- What a call that turns a row answers: the row, in its block or in a new one. -/
def RowGo (k : Nat) (w : World) (g sz n : Nat) (xs : List Value) (e : Ending) (w' : World) : Prop :=
  ∃ (g' cap : Nat) (cur : Array Value) (et : TypeId), e = .returned (.slice (some ⟨g', 0, none⟩) n cap) ∧ w'.heap[g']? = some (.cells cur et (0, 0)) ∧ n ≤ cap ∧ cap * k ≤ cur.size ∧ cur.toList.take (n * k) = xs ∧
    ((g' = g ∧ cur.size = sz) ∨ w.heap.size ≤ g') ∧ w'.os = w.os ∧ w'.tape = w.tape ∧ w'.output = w.output ∧ w.heap.size ≤ w'.heap.size ∧ ∀ b, b < w.heap.size → b ≠ g → w'.heap[b]? = w.heap[b]?
/-- Two slices in two blocks, the second of which is plain memory. -/
theorem run_overlaps_no {P : Program} (w : World) (tS tR e : TypeId) (ht : P.underlying tS = some (.slice e)) (size : Nat) (hz : ∀ w, (Go.sizeOf e).run P w = .ok size w)
    (a b : Addr) (la ca lb cb : Nat) (hne : a.block ≠ b.block) (tA tB : TypeId) (kA kB : Nat)
    (hsa : w.shape? a.block = some (tA, kA)) (hkA : kA ≠ 0) (hsb : w.shape? b.block = some (tB, kB))
    (hfb : w.frozen? b = false) (hfe : w.frozen? { block := b.block, off := kB } = false) :
    (Extern.SlicesOverlaps.overlaps #[tS, tS] #[tR] #[.slice (some a) la ca, .slice (some b) lb cb]).run P w = .ok (.bool false) w := by
  have hnb : (a.block != b.block) = true := by simpa using hne
  have hnb' : (a.block == b.block) = false := by simpa using hne
  change Sem.run P (α := Value) (do
    let some t := (#[tS, tS] : Array TypeId)[0]? | stuck "slices.overlaps: no parameter types"
    let .slice elem ← underlying t | stuck "slices.overlaps: slice type expected"
    let size ← sizeOf elem
    match (some a : Option Addr), (some b : Option Addr) with
    | some a, some b =>
      if la = 0 ∨ lb = 0 ∨ size = 0 then pure (Value.bool false)
      else if a.block != b.block && (← frozen a) && (← frozen b) then unsupported .addressObserved
      else do
        if a.block != b.block then do
          noView a; noView b
          if ← mayBeOne a b then return Value.bool ((← choose _) == 1)
        pure (Value.bool (a.block == b.block && a.off < b.off + lb * size && b.off < a.off + la * size))
    | _, _ => pure (Value.bool false)) w = _
  by_cases h0 : la = 0 ∨ lb = 0 ∨ size = 0
  · simp [run_underlying ht, hz, h0]
  · cases kA with
    | zero => exact absurd rfl hkA
    | succ kA =>
      cases hfa : w.frozen? a with
      | true => simp [run_underlying ht, hz, h0, hnb, hnb', frozen, noView, viewAt, mayBeOne, stringish, shape, Sem.run, hsa, hsb, hfb, hfe, hfa]
      | false =>
        cases hfk : w.frozen? { block := a.block, off := kA + 1 } with
        | true => simp [run_underlying ht, hz, h0, hnb, hnb', frozen, noView, viewAt, mayBeOne, stringish, shape, Sem.run, hsa, hsb, hfb, hfe, hfa, hfk]
        | false => simp [run_underlying ht, hz, h0, hnb, hnb', frozen, noView, viewAt, mayBeOne, stringish, shape, Sem.run, hsa, hsb, hfb, hfe, hfa, hfk]
theorem cell_shape {w : World} {a : Addr} {u : Value} (ha : a.spot = none) (h : w.cell? a = some u) : ∃ t n, w.shape? a.block = some (t, n) ∧ n ≠ 0 := by
  unfold World.cell? at h
  split at h
  · rename_i c e f hh
    refine ⟨e, c.size, by simp [World.shape?, hh], fun h0 => ?_⟩
    have : c = #[] := Array.eq_empty_of_size_eq_zero h0
    subst this
    simp [ha] at h
  · cases h
end Go.GxYtmodnblfcikjlaaGreat
namespace Go.AmYtmodnblfcikjlaaGreat
open Go Go.RowKit Go.GxYtmodnblfcikjlaaGreat

theorem settle1 {Γ Γ1 : Gh} {σ σ1 : St} {w w1 : World} {a : Ty} {l : List (Val a)} (hi : Inv Γ σ w) (hx : Ext Γ w Γ1 w1) (h1 : Inv Γ1 σ1 w1) (hb0 : σ.bx = []) {j : Nat} {Q : Row} (hq : σ1.rw[j]? = some Q) (hk : Q.k = a.size) (hfz : Q.fz = 0) (hc : decLs (decV a) Q.c = some l) {u : Value} (hr : Rep Γ1 (.rs j 0 l.length Q.ver false) u) :
    ∃ Γ2, Ext Γ w Γ2 w1 ∧ Inv Γ2 ⟨[], σ.rw.map killR ++ rowE [.row a] (l, ()), List.range σ.bx.length, List.range σ.rw.length⟩ w1 ∧ Rep Γ2 (oneOf (resE [.row a] σ.rw.length (l, ()))) u ∧
      Keeps { σ with wr := [], wrr := [] } ⟨[], σ.rw.map killR ++ rowE [.row a] (l, ()), List.range σ.bx.length, List.range σ.rw.length⟩ := by
  have hkeep : Keeps { σ with wr := [], wrr := [] } ⟨[], σ.rw.map killR ++ rowE [.row a] (l, ()), List.range σ.bx.length, List.range σ.rw.length⟩ :=
    ⟨by rw [hb0]; exact Nat.le_refl _, by show σ.rw.length ≤ (σ.rw.map killR ++ _).length; rw [List.length_append, List.length_map]; exact Nat.le_add_right _ _, fun i hi _ => (by have hi : i < σ.bx.length := hi; rw [hb0] at hi; exact absurd hi (Nat.not_lt_zero _)), fun i hi hn => absurd (List.mem_range.2 hi) hn, fun i h => (by cases h), fun i h => (by cases h)⟩
  obtain ⟨mm, z1, z2, z3, z4⟩ := settle (σ0 := σ) (σ1 := σ1) hi hx h1 (by rw [hb0]; exact Nat.zero_le _) [] (by rw [hb0]) [] (fun i cs h => by cases h) [(some j, ⟨a.size, l.map (encV a), 0, 0⟩)]
    (fun i so R h => by
      cases i with
      | zero =>
        cases h
        refine ⟨rfl, rfl, Ty.size_pos a, fun e he => ?_, fun e he => ?_, Q, hq, hk, hfz, by rw [List.length_map]; exact decLs_len hc, fun i e e' g1 g2 => ?_, (by simp)⟩
        · obtain ⟨v, _, rfl⟩ := List.mem_map.1 he
          exact encV_len a v
        · obtain ⟨v, _, rfl⟩ := List.mem_map.1 he
          exact encV_plain a v
        · obtain ⟨v, g3, g4⟩ := decLs_get' hc g1
          have g2 : (l.map (encV a))[i]? = some e' := g2
          rw [List.getElem?_map, g3] at g2
          cases g2
          exact subL_of g4
      | succ i => cases h)
    (fun i j q R R' h1 h2 => by
      cases i with
      | succ i => cases h1
      | zero => cases j with
        | zero => rfl
        | succ j => cases h2) (List.range σ.bx.length) (List.range σ.rw.length)
  refine ⟨_, z3, z4, ?_, hkeep⟩
  have H := h1.row j Q hq
  cases hr with
  | rs _ _ _ _ _ a' cap hr hv hc' hf hl =>
    have hl := hl (H.ver (by rw [hfz]; exact Nat.zero_le _)).symm
    show Rep _ (.rs σ.rw.length 0 l.length 0 false) _
    have hnl : ¬ σ.rw.length < σ.rw.length := Nat.lt_irrefl _
    have hsub : σ.rw.length - σ.rw.length = 0 := Nat.sub_self _
    refine .rs _ _ _ _ _ a' cap (by show σ.rw.length < σ.rw.length + 1; omega) (Nat.zero_le _) hc' (fun h => by cases h) fun _ => ?_
    have ec : (newGh Γ1 mm σ.bx.length σ.rw.length [(some j, ⟨a.size, l.map (encV a), 0, 0⟩)]).cur σ.rw.length = Γ1.cur j := by
      show (if σ.rw.length < σ.rw.length then _ else match [((some j : Option Nat), (⟨a.size, l.map (encV a), 0, 0⟩ : Row))][σ.rw.length - σ.rw.length]? with | some (some j, _) => Γ1.cur j | _ => 0) = _
      rw [if_neg hnl, hsub]; rfl
    have es : (newGh Γ1 mm σ.bx.length σ.rw.length [(some j, ⟨a.size, l.map (encV a), 0, 0⟩)]).sz σ.rw.length = Γ1.sz j := by
      show (if σ.rw.length < σ.rw.length then 0 else match [((some j : Option Nat), (⟨a.size, l.map (encV a), 0, 0⟩ : Row))][σ.rw.length - σ.rw.length]? with | some (some j, _) => Γ1.sz j | _ => 0) = _
      rw [if_neg hnl, hsub]; rfl
    have ek : (newGh Γ1 mm σ.bx.length σ.rw.length [(some j, ⟨a.size, l.map (encV a), 0, 0⟩)]).k σ.rw.length = Γ1.k j := by
      show (if σ.rw.length < σ.rw.length then _ else match [((some j : Option Nat), (⟨a.size, l.map (encV a), 0, 0⟩ : Row))][σ.rw.length - σ.rw.length]? with | some p => p.2.k | none => 1) = _
      rw [if_neg hnl, hsub, ← H.k, hk]; rfl
    rw [ec, es, ek]
    exact hl
/-- Cells of elements, one behind the other. -/
def CellsAre (Γ : Gh) (k : Nat) (c : List (List AV)) (xs : List Value) : Prop := ∀ (i : Nat) (e : List AV) (j : Nat) (x : AV), c[i]? = some e → e[j]? = some x → ∃ u, xs[i * k + j]? = some u ∧ Rep Γ x u ∧ u.oneCell' = true
theorem CellsAre.take {Γ : Gh} {k : Nat} {c : List (List AV)} {xs : List Value} (h : CellsAre Γ k c xs) (hk : ∀ e ∈ c, e.length = k) (n : Nat) : CellsAre Γ k (c.take n) (xs.take (n * k)) := by
  intro i e j x h1 h2
  rw [List.getElem?_take] at h1
  split at h1
  case isFalse => cases h1
  rename_i hin
  obtain ⟨u, u1, u2⟩ := h i e j x h1 h2
  refine ⟨u, ?_, u2⟩
  have hj : j < k := by have := getElem?_lt h2; rwa [hk e (List.mem_of_getElem? h1)] at this
  have : (i + 1) * k ≤ n * k := Nat.mul_le_mul_right _ hin
  rw [Nat.succ_mul] at this
  rw [List.getElem?_take, if_pos (by omega)]
  exact u1
theorem CellsAre.drop {Γ : Gh} {k : Nat} {c : List (List AV)} {xs : List Value} (h : CellsAre Γ k c xs) (n : Nat) : CellsAre Γ k (c.drop n) (xs.drop (n * k)) := by
  intro i e j x h1 h2
  rw [List.getElem?_drop] at h1
  obtain ⟨u, u1, u2⟩ := h _ e j x h1 h2
  refine ⟨u, ?_, u2⟩
  rw [List.getElem?_drop, ← Nat.add_assoc, ← Nat.add_mul]
  exact u1
theorem CellsAre.app {Γ : Gh} {k : Nat} {c c' : List (List AV)} {xs ys : List Value} (h : CellsAre Γ k c xs) (h' : CellsAre Γ k c' ys) (hl : xs.length = c.length * k) (hk : ∀ e ∈ c, e.length = k) : CellsAre Γ k (c ++ c') (xs ++ ys) := app_cells hl hk h h'
/-- A call that turns the one row that it is handed. -/
theorem turn_calls {P : Program} {f : FuncId} {Γ : Gh} {σ : St} {w : World} {vals : List Value} {a : Ty} {R : Row} {l : List (Val a)} {c : List (List AV)} {xs : List Value} {n : Nat} (hi : Inv Γ σ w) (hb0 : σ.bx = []) (hr0 : σ.rw[0]? = some R) (hk : R.k = a.size) (hfz : R.fz = 0) (hz : Γ.sz 0 ≠ 0) (hn : n = l.length)
    (hdec : decLs (decV a) c = some l) (hkl : ∀ e ∈ c, e.length = a.size) (hpl : ∀ e ∈ c, ∀ x ∈ e, plainC x = true) (hx : CellsAre Γ a.size c xs)
    (h : Calls P f vals.toArray w (RowGo a.size w (Γ.cur 0) (Γ.sz 0) n xs)) :
    CallsTo P Γ σ w f vals (oneOf (resE [.row a] σ.rw.length (l, ())), some ⟨[], σ.rw.map killR ++ rowE [.row a] (l, ()), List.range σ.bx.length, List.range σ.rw.length⟩) := by
  subst hn
  refine Calls.mono h ?_
  rintro e w' ⟨g, cap, cur, et, rfl, h1, h2, h3, h4, h5, h6, h7, h8, h9, h10⟩
  have H := hi.row 0 R hr0
  have hcl : c.length = l.length := decLs_len hdec
  have hun : ∀ off, Γ.mem (Γ.cur 0) off = none := fun off => H.un hz off (by rw [hfz, Nat.zero_mul]; exact Nat.zero_le _)
  obtain ⟨Γ1, e1, i1, r1⟩ := row_turn (w' := w') hi hr0 (R' := ⟨R.k, c, R.ver + 1, 0⟩) (by rw [hfz]; exact Nat.zero_le _) rfl (g := g) (vs := cur) (e := et) (.inl rfl) (fun e he => (hkl e he).trans hk.symm) hpl (Nat.zero_le _) h1
    (by show c.length * R.k ≤ _; rw [hcl, hk]; exact Nat.le_trans (Nat.mul_le_mul_right _ h2) h3)
    (fun off _ => by
      rcases h5 with ⟨rfl, _⟩ | h5
      · exact hun off
      · cases hm : Γ.mem g off with
        | none => rfl
        | some u => have := hi.mem_lt hm; omega)
    (fun i e j x g1 g2 => by
      obtain ⟨u, u1, u2⟩ := hx i e j x g1 g2
      refine ⟨u, ?_, u2⟩
      rw [hk, ← Array.getElem?_toList]
      have hlt : i * a.size + j < l.length * a.size := by
        have hi' : i < l.length := by have := getElem?_lt g1; rwa [← hcl]
        have hj : j < a.size := by have := getElem?_lt g2; rwa [hkl e (List.mem_of_getElem? g1)] at this
        have : (i + 1) * a.size ≤ l.length * a.size := Nat.mul_le_mul_right _ hi'
        rw [Nat.succ_mul] at this
        omega
      rw [← h4, List.getElem?_take, if_pos hlt] at u1
      exact u1)
    (fun b o u hm => by
      have hb : b ≠ Γ.cur 0 := fun he => by rw [he, hun] at hm; cases hm
      rw [show w'.cell? _ = w.cell? _ from World.cell?_of_block (h10 b (hi.mem_lt hm) hb)]
      exact (hi.mem b o u hm).1)
    (fun b hb hor => h10 b hb (hor.elim id fun h0 => absurd h0 hz))
    (by
      rcases h5 with ⟨rfl, _⟩ | h5
      · exact .inl ⟨rfl, hz⟩
      · exact .inr h5) h6 h7 h8 h9 σ.wrr
  have hget : ({ σ with rw := σ.rw.set 0 ⟨R.k, c, R.ver + 1, 0⟩, wrr := σ.wrr } : St).rw[0]? = some ⟨R.k, c, R.ver + 1, 0⟩ := by
    show (σ.rw.set 0 _)[0]? = _
    rw [List.getElem?_set_self (getElem?_lt hr0)]
  obtain ⟨Γ2, z1, z2, z3, z4⟩ := settle1 (l := l) hi e1 i1 hb0 hget hk rfl hdec (r1 l.length cap h2 (by rw [hk]; exact h3))
  exact ⟨_, Γ2, rfl, z1, z2, z3, z4⟩
/-- The elements of a row that a call is handed. -/
theorem row_cells {Γ : Gh} {σ : St} {w : World} (hi : Inv Γ σ w) {R : Row} {r : Nat} (hr0 : σ.rw[r]? = some R) (hz : Γ.sz r ≠ 0) {et : TypeId} {cur : Array Value} (hb : w.heap[Γ.cur r]? = some (.cells cur et (0, 0))) (i : Nat) (e : List AV) (j : Nat) (x : AV) (h1 : R.c[i]? = some e) (h2 : e[j]? = some x) :
    ∃ u, cur[i * R.k + j]? = some u ∧ Rep Γ x u ∧ u.oneCell' = true := by
  obtain ⟨u, u1, u2⟩ := (hi.row r R hr0).cells i e j x h1 h2
  refine ⟨u, ?_, u2⟩
  simpa [World.cell?, hb] using u1
/-- Cells as one list. -/
theorem one_all {cs : List (List AV)} {k : Nat} {xs : List Value} (hk : ∀ e ∈ cs, e.length = k) (h0 : 0 < k) (hl : xs.length = cs.length * k)
    (h : ∀ (i : Nat) (e : List AV) (j : Nat) (x : AV), cs[i]? = some e → e[j]? = some x → ∃ u, xs[i * k + j]? = some u ∧ u.oneCell' = true) : ∀ u ∈ xs, u.oneCell' = true := by
  intro u hu
  obtain ⟨q, hq⟩ := List.getElem?_of_mem hu
  have hlt := getElem?_lt hq
  rw [hl] at hlt
  have hqd : q / k < cs.length := (Nat.div_lt_iff_lt_mul h0).2 hlt
  have hm : q % k < k := Nat.mod_lt _ h0
  have he := hk _ (List.getElem_mem hqd)
  obtain ⟨u', h1, h2⟩ := h (q / k) _ (q % k) _ (List.getElem?_eq_getElem hqd) (List.getElem?_eq_getElem (by rw [he]; exact hm))
  rw [show q / k * k + q % k = q by rw [Nat.mul_comm]; exact Nat.div_add_mod q k] at h1
  rw [h1] at hq
  cases hq
  exact h2
theorem dS_val {σ : St} {τ : Ty} {r : List SA} {nb nr : Nat} {ys : List AV} {a : SArgs (.val τ :: r)} (h : dS σ (.val τ :: r) nb nr ys = some a) : ∃ y ys', ys = y :: ys' ∧ dpackV τ y = some a.1 ∧ dS σ r nb nr ys' = some a.2 := by
  cases ys with
  | nil => simp [dS] at h
  | cons y ys =>
    simp only [dS] at h
    split at h <;> try cases h
    rename_i v hv
    split at h <;> cases h
    exact ⟨y, ys, rfl, hv, ‹_›⟩
theorem dS_row {σ : St} {τ : Ty} {r : List SA} {nb nr : Nat} {ys : List AV} {a : SArgs (.row τ :: r)} (h : dS σ (.row τ :: r) nb nr ys = some a) : ∃ y ys' nr', ys = y :: ys' ∧ rowArg σ τ nr y = some (a.1, nr') ∧ dS σ r nb nr' ys' = some a.2 := by
  cases ys with
  | nil => simp [dS] at h
  | cons y ys =>
    simp only [dS] at h
    split at h <;> try cases h
    rename_i l nr' hl
    split at h <;> cases h
    exact ⟨y, ys, nr', rfl, hl, ‹_›⟩
theorem dS_nil {σ : St} {nb nr : Nat} {ys : List AV} {a : SArgs []} (h : dS σ [] nb nr ys = some a) : ys = [] ∧ nb = σ.bx.length ∧ nr = σ.rw.length := by
  cases ys with
  | cons y ys => simp [dS] at h
  | nil =>
    simp only [dS] at h
    split at h <;> cases h
    rename_i hd
    exact ⟨rfl, of_decide_eq_true hd⟩
/-- A row that a call is handed first. -/
theorem rowArg_cases {σ : St} {τ : Ty} {y : AV} {l : List (Val τ)} {nr : Nat} (h : rowArg σ τ 0 y = some (l, nr)) :
    (nr = 1 ∧ ∃ R, y = .rs 0 0 R.c.length R.ver false ∧ σ.rw[0]? = some R ∧ R.k = τ.size ∧ R.fz = 0 ∧ decLs (decV τ) R.c = some l) ∨ (nr = 0 ∧ l = [] ∧ (y = .v (.slice none 0 0) ∨ ∃ f, y = .sl τ.size [] f ∧ 2 ≤ f)) := by
  unfold rowArg at h
  split at h
  · split at h <;> try cases h
    rename_i R hR
    split at h <;> try cases h
    rename_i hd
    obtain ⟨rfl, rfl, rfl, h1, rfl, rfl, h2⟩ := of_decide_eq_true hd
    split at h <;> cases h
    exact .inl ⟨rfl, R, rfl, hR, h1, h2, ‹_›⟩
  · split at h <;> cases h
    rename_i h1 h2
    refine .inr ⟨rfl, rfl, ?_⟩
    have h2 := of_decide_eq_true h2
    rcases dlist_v h1 with ⟨rfl, _⟩ | ⟨es, n, rfl, hd⟩
    · exact .inl rfl
    · have : es = [] := List.eq_nil_of_length_eq_zero (decLs_len hd)
      subst this
      exact .inr ⟨_, rfl, h2⟩

/-- A value that a call is handed. -/
theorem val_rep {Γ : Gh} {τ : Ty} {y : AV} {v : Val τ} {u : Value} (h : dpackV τ y = some v) (hr : Rep Γ y u) : Rep Γ (encA τ v) u := sub_enc h _ _ hr
theorem list_dlist {a : Ty} (l : List (Val a)) : dlist a (.sl a.size (l.map (encV a)) 1) = some l := by
  show decList a.size (decV a) _ = some l
  simp only [decList]
  rw [show neqN a.size a.size = true from decide_eq_true rfl]
  exact decLs_map (fun v => decV_enc a v) l
structure SliceTy (P : Program) (a : Ty) (tS tE : TypeId) (bytes : Nat) : Prop where
  td : ∃ q1 q2 q3 q4 z, tdOf P tS = some ⟨q1, q2, q3, q4, .slice tE a.size bytes z⟩ ∧ z.length = a.size
def onlyTy (t : TypeId) (d : TD) : Cfg := ⟨fun t' => if t' = t then some d else none, fun _ => none, fun _ => none, fun _ => false, fun _ => []⟩
theorem append_go {P : Program} {a : Ty} {tS tE : TypeId} {bytes : Nat} (hT : SliceTy P a tS tE bytes) {Γ : Gh} {σ : St} {w : World} (hi : Inv Γ σ w) {s : AV} {sv xv : Value} {es : List (List AV)} {f : Nat} (hs : Rep Γ s sv) (hx : Rep Γ (.sl a.size es f) xv) (hk : ∀ e ∈ es, e.length = a.size) (hp : ∀ e ∈ es, ∀ x ∈ e, plainC x = true) {x : AV} {σ' : Option St} (h : appendA a.size bytes σ s es = some (x, σ')) (ty : TypeId) :
    ∃ v w' Γ', (Builtin.append_ #[tS, tS] ty #[sv, xv]).run P w = .ok v w' ∧ Ext Γ w Γ' w' ∧ Inv Γ' (turn σ σ') w' ∧ Rep Γ' x v := by
  obtain ⟨q1, q2, q3, q4, z, h1, h2⟩ := hT.td
  refine st_append (C := onlyTy tS ⟨q1, q2, q3, q4, .slice tE a.size bytes z⟩) (fun t d ht => ?_) hi hs hx (t := tS) (u := tS) rfl rfl (if_pos rfl) (if_pos rfl) (Ty.size_pos a) h2 (xs := es) ?_ ?_ h
  · simp only [onlyTy] at ht
    split at ht
    · rename_i e; cases ht; rw [e]; exact h1
    · cases ht
  · simp only [elems]
    rw [show neqN a.size a.size = true from decide_eq_true rfl]
  · unfold uni
    rw [List.all_eq_true]
    intro e he
    rw [Bool.and_eq_true]
    exact ⟨decide_eq_true (hk e he), List.all_eq_true.2 (hp e he)⟩
theorem addr_add (b o j : Nat) : (⟨b, o, none⟩ : Addr).add j = ⟨b, o + j, none⟩ := by unfold Addr.add; split <;> simp_all
theorem hand_ins {P : Program} {N : FuncId} {a : Ty} {tS tE : TypeId} {bytes : Nat} (hf : FnOk P N) (hT : SliceTy P a tS tE bytes) (hb : bytes ≤ 2 ^ 24)
    (hend : ∀ (w : World) (p : Option Addr) (n c : Nat) (ad : Addr) (c2 : Nat) (v' : Value) (w' : World), n ≤ 100000 → (Builtin.append_ #[tS, tS] tS #[.slice p n c, .slice (some ad) 1 c2]).run P w = .ok v' w' → Calls P N #[.slice p n c, .int .i64 n, .slice (some ad) 1 c2] w fun e w1 => e = .returned v' ∧ w1 = w')
    (hroom : ∀ (w : World) (g n c i : Nat) (et : TypeId) (cur : Array Value) (xs : List Value), Blk w g et cur → c * a.size ≤ cur.size → cur.toList.take (n * a.size) = xs → (∀ u ∈ xs, u.oneCell' = true) → ∀ (g2 o2 c2 : Nat) (ys : List Value), ys.length = a.size → (∀ j u, ys[j]? = some u → w.cell? ⟨g2, o2 + j, none⟩ = some u) → (∀ u ∈ ys, u.oneCell' = true) → g2 ≠ g → n ≤ 100000 → i < n → n + 1 ≤ c →
      Calls P N #[.slice (some ⟨g, 0, none⟩) n c, .int .i64 i, .slice (some ⟨g2, o2, none⟩) 1 c2] w (RowGo a.size w g cur.size (n + 1) (xs.take (i * a.size) ++ ys ++ xs.drop (i * a.size))))
    (hgrow : ∀ (w : World) (g n i : Nat) (et : TypeId) (cur : Array Value) (xs : List Value), Blk w g et cur → n * a.size ≤ cur.size → cur.toList.take (n * a.size) = xs → (∀ u ∈ xs, u.oneCell' = true) → ∀ (g2 o2 c2 : Nat) (ys : List Value), ys.length = a.size → (∀ j u, ys[j]? = some u → w.cell? ⟨g2, o2 + j, none⟩ = some u) → (∀ u ∈ ys, u.oneCell' = true) → n ≤ 100000 → i < n →
      Calls P N #[.slice (some ⟨g, 0, none⟩) n n, .int .i64 i, .slice (some ⟨g2, o2, none⟩) 1 c2] w (RowGo a.size w g cur.size (n + 1) (xs.take (i * a.size) ++ ys ++ xs.drop (i * a.size))))
    {fn : List (Val a) → Int → List (Val a) → Option (Unit × List (Val a) × Unit)} (hfn : ∀ l i v r, fn l i v = some r → (∃ e, v = [e]) ∧ 0 ≤ i ∧ i ≤ l.length ∧ l.length ≤ 100000 ∧ r = ((), l.take i.toNat ++ (v ++ l.drop i.toNat), ())) :
    PrimOk P N (sgP ⟨[.row a, .val (.int .i64), .val (.list a)], [.row a], fun x => fn x.1 x.2.1 x.2.2.1⟩) := by
  refine ⟨hf, fun Γ σ w args vals r hi hr hp => ?_⟩
  unfold sgP at hp
  split at hp <;> try cases hp
  rename_i x hx
  split at hp <;> cases hp
  rename_i v0 hv0
  obtain ⟨l, i, v, _⟩ := x
  obtain ⟨⟨e, rfl⟩, hi0, hil, hl, rfl⟩ := hfn _ _ _ _ hv0
  obtain ⟨i, rfl⟩ := Int.eq_ofNat_of_zero_le hi0
  have hil : i ≤ l.length := Int.ofNat_le.1 hil
  have hl : l.length ≤ 100000 := hl
  obtain ⟨y0, ys0, nr, rfl, hy0, hx⟩ := dS_row hx
  obtain ⟨y1, ys1, rfl, hy1, hx⟩ := dS_val hx
  obtain ⟨y2, ys2, rfl, hy2, hx⟩ := dS_val hx
  obtain ⟨rfl, hbx, hrw⟩ := dS_nil hx
  obtain ⟨u0, r0, rfl, hu0, hr⟩ := hr.uncons
  obtain ⟨u1, r1, rfl, hu1, hr⟩ := hr.uncons
  obtain ⟨u2, r2, rfl, hu2, hr⟩ := hr.uncons
  have := hr.nil_inv
  subst this
  have hu1 := v_inv (val_rep hy1 hu1)
  subst hu1
  have hb0 : σ.bx = [] := List.eq_nil_of_length_eq_zero hbx.symm
  have hL : Rep Γ (.sl a.size ([e].map (encV a)) 1) u2 := val_rep hy2 hu2
  obtain ⟨p2, n2, c2, rfl, hn2, hC⟩ := cells_of hi (list_dlist [e]) hL
  have hn2' : n2 = 1 := by rw [← hC.len]; rfl
  subst hn2'
  rcases hC.at_ with hC0 | ⟨b2, o2, rfl, hC1⟩
  · cases hC0
  obtain ⟨ys, y1', y2', y3, y4⟩ := cells_list (Γ := Γ) (Ty.size_pos a) hC.size hC1
  have y1'' : ys.length = a.size := by rw [y1']; exact Nat.one_mul _
  have hne1 : neqN (slen [encV a e]) 0 = false := rfl
  have hadd : ∀ (b o j : Nat), (⟨b, o, none⟩ : Addr).add j = ⟨b, o + j, none⟩ := addr_add
  have hcells : ∀ j u, ys[j]? = some u → w.cell? ⟨b2, o2 + j, none⟩ = some u := fun j u hj => by rw [← hadd]; exact y2' j u hj
  have hsz : (1 : Nat) * bytes ≤ 2 ^ 47 := by omega
  have hk1 : ∀ q ∈ [encV a e], q.length = a.size := by intro q hq; rw [List.mem_singleton.1 hq]; exact encV_len a e
  have hp1 : ∀ q ∈ [encV a e], ∀ x ∈ q, plainC x = true := by intro q hq; rw [List.mem_singleton.1 hq]; exact encV_plain a e
  rcases rowArg_cases hy0 with ⟨hnr, R, rfl, hR, hRk, hRf, hRd⟩ | ⟨hnr, hl0, hy⟩
  · have H := hi.row 0 R hR
    have hcl : R.c.length = l.length := decLs_len hRd
    cases hu0 with
    | rs _ _ _ _ _ p cap hr1 hr2 hr3 hr4 hr5 =>
    obtain ⟨hp0, hfit⟩ := hr5 (H.ver (by rw [hRf]; exact Nat.zero_le _)).symm
    by_cases hin : i = l.length
    · -- at the end
      have happ : appendA a.size bytes σ (.rs 0 0 R.c.length R.ver false) [encV a e] = some (.rs 0 0 (R.c.length + 1) (R.ver + 1) false, some { σ with rw := σ.rw.set 0 { R with c := R.c ++ [encV a e], ver := R.ver + 1 }, wrr := 0 :: σ.wrr }) := by
        have hcond : R.k = a.size ∧ R.ver = R.ver ∧ R.c.length = R.c.length ∧ (0 : Nat) = 0 ∧ false = false ∧ R.fz ≤ R.c.length ∧ (R.c.length + [encV a e].length) * bytes ≤ 2 ^ 47 ∧ R.c.length + [encV a e].length < 2 ^ 62 := by
          refine ⟨hRk, rfl, rfl, rfl, rfl, by rw [hRf]; exact Nat.zero_le _, ?_, ?_⟩
          · have : (R.c.length + 1) * bytes ≤ 100001 * 2 ^ 24 := Nat.mul_le_mul (by omega) hb
            show (R.c.length + 1) * bytes ≤ _
            omega
          · show R.c.length + 1 < _; omega
        have hap : rowAp R a.size 0 R.c.length R.ver false bytes [encV a e] = some ({ R with c := R.c ++ [encV a e], ver := R.ver + 1 }, R.c.length + 1) := if_pos hcond
        simp only [appendA, hne1, hR, hap]
      obtain ⟨v', w', Γ', g1, g2, g3, g4⟩ := append_go hT hi (.rs 0 0 _ _ _ p cap hr1 hr2 hr3 hr4 hr5) hL hk1 hp1 happ tS
      have hcall := hend w p R.c.length cap ⟨b2, o2, none⟩ c2 v' w' (by omega) g1
      rw [show ((R.c.length : Nat) : Int) = ((i : Nat) : Int) by omega] at hcall
      refine Calls.mono hcall ?_
      rintro e1 w1 ⟨rfl, rfl⟩
      have hget : (turn σ (some { σ with rw := σ.rw.set 0 { R with c := R.c ++ [encV a e], ver := R.ver + 1 }, wrr := 0 :: σ.wrr })).rw[0]? = some { R with c := R.c ++ [encV a e], ver := R.ver + 1 } := by
        show (σ.rw.set 0 _)[0]? = _
        rw [List.getElem?_set_self (getElem?_lt hR)]
      have hd : decLs (decV a) (R.c ++ [encV a e]) = some (l ++ [e]) := decLs_append hRd (decLs_map (fun v => decV_enc a v) [e])
      have hlist : l.take ((i : Nat) : Int).toNat ++ ([e] ++ l.drop ((i : Nat) : Int).toNat) = l ++ [e] := by
        rw [Int.toNat_natCast, hin, List.take_length, List.drop_length, List.append_nil]
      obtain ⟨Γ2, z1, z2, z3, z4⟩ := settle1 (l := l ++ [e]) hi g2 g3 hb0 hget hRk hRf hd (u := v') (by rw [List.length_append, ← hcl]; exact g4)
      rw [hlist]
      exact ⟨_, Γ2, rfl, z1, z2, z3, z4⟩
    · -- within
      have hpos : cap ≠ 0 := by omega
      have hpe : p = some ⟨Γ.cur 0, 0, none⟩ := by
        rcases hp0 with h | h
        · exact absurd h hpos
        · rw [h, Nat.zero_mul]
      subst hpe
      have hk0 := Ty.size_pos a
      have hck : 1 * a.size ≤ cap * a.size := Nat.mul_le_mul_right _ (by omega)
      rw [← H.k, hRk, Nat.zero_add] at hfit
      have hz : Γ.sz 0 ≠ 0 := by omega
      obtain ⟨vs, et, hvs, hvsz⟩ := H.blk hz
      have hca : CellsAre Γ a.size R.c (vs.toList.take (R.c.length * a.size)) := by
        have hh : CellsAre Γ a.size R.c vs.toList := fun q e j x q1 q2 => by
          obtain ⟨u, u1, u2⟩ := row_cells hi hR hz hvs q e j x q1 q2
          rw [hRk] at u1
          exact ⟨u, by rw [Array.getElem?_toList]; exact u1, u2⟩
        have := hh.take (fun e he => (H.len e he).trans hRk) R.c.length
        rwa [List.take_length] at this
      have hlk : ∀ e ∈ R.c, e.length = a.size := fun e he => (H.len e he).trans hRk
      have hnk : R.c.length * a.size ≤ vs.size := by rw [hvsz]; exact Nat.le_trans (Nat.mul_le_mul_right _ hr3) hfit
      have hxl : (vs.toList.take (R.c.length * a.size)).length = R.c.length * a.size := by rw [List.length_take, Array.length_toList]; exact Nat.min_eq_left hnk
      have h1 := one_all hlk hk0 hxl (fun q e j x q1 q2 => by obtain ⟨u, u1, u2, u3⟩ := hca q e j x q1 q2; exact ⟨u, u1, u3⟩)
      have hne : b2 ≠ Γ.cur 0 := by
        intro he
        have hj := hC1
        cases hL with
        | sl _ _ _ _ _ _ b o us s1 s2 s3 s4 s5 s6 s7 s8 s9 =>
          rcases s7 with s7 | s7
          · cases s7
          · cases s7
            have hel := encV_len a e
            have hm := s8 0 (encV a e) 0 _ rfl (List.getElem?_eq_getElem (by rw [hel]; exact hk0))
            have := H.un hz (o2 + 0 * a.size + 0) (by rw [hRf, Nat.zero_mul]; exact Nat.zero_le _)
            rw [he, this] at hm
            cases hm
      have hgo : Calls P N #[.slice (some ⟨Γ.cur 0, 0, none⟩) R.c.length cap, .int .i64 i, .slice (some ⟨b2, o2, none⟩) 1 c2] w (RowGo a.size w (Γ.cur 0) (Γ.sz 0) (R.c.length + 1) ((vs.toList.take (R.c.length * a.size)).take (i * a.size) ++ ys ++ (vs.toList.take (R.c.length * a.size)).drop (i * a.size))) := by
        rw [← hvsz]
        by_cases hroom' : R.c.length + 1 ≤ cap
        · exact hroom w (Γ.cur 0) R.c.length cap i et vs _ hvs (by rw [hvsz]; exact hfit) rfl h1 b2 o2 c2 ys y1'' hcells y3 hne (by omega) (by omega) hroom'
        · obtain rfl : cap = R.c.length := by omega
          exact hgrow w (Γ.cur 0) R.c.length i et vs _ hvs hnk rfl h1 b2 o2 c2 ys y1'' hcells y3 (by omega) (by omega)
      have hik : i * a.size ≤ R.c.length * a.size := Nat.mul_le_mul_right _ (by omega)
      have hdec : decLs (decV a) (R.c.take i ++ [encV a e] ++ R.c.drop i) = some (l.take i ++ [e] ++ l.drop i) := decLs_append (decLs_append (decLs_take i hRd) (decLs_map (fun v => decV_enc a v) [e])) (decLs_drop i hRd)
      have hlist : l.take ((i : Nat) : Int).toNat ++ ([e] ++ l.drop ((i : Nat) : Int).toNat) = l.take i ++ [e] ++ l.drop i := by rw [Int.toNat_natCast, List.append_assoc]
      rw [hlist]
      refine turn_calls hi hb0 hR hRk hRf hz (n := R.c.length + 1) ?_ hdec (fun q hq => ?_) (fun q hq => ?_) ?_ hgo
      · simp only [List.length_append, List.length_take, List.length_drop, List.length_singleton]; omega
      · rcases List.mem_append.1 hq with hq | hq
        · rcases List.mem_append.1 hq with hq | hq
          · exact hlk q (List.mem_of_mem_take hq)
          · exact hk1 q hq
        · exact hlk q (List.mem_of_mem_drop hq)
      · rcases List.mem_append.1 hq with hq | hq
        · rcases List.mem_append.1 hq with hq | hq
          · exact H.plain q (List.mem_of_mem_take hq)
          · exact hp1 q hq
        · exact H.plain q (List.mem_of_mem_drop hq)
      · have hy4 : CellsAre Γ a.size [encV a e] ys := y4
        have ht := hca.take hlk i
        have hd := hca.drop i
        refine CellsAre.app (CellsAre.app ht hy4 ?_ fun q hq => hlk q (List.mem_of_mem_take hq)) hd ?_ ?_
        · rw [List.length_take, hxl, List.length_take, Nat.min_eq_left hik, Nat.min_eq_left (by omega)]
        · rw [List.length_append, List.length_append, List.length_take, hxl, List.length_take, Nat.min_eq_left hik, Nat.min_eq_left (by omega), y1'', List.length_singleton, Nat.succ_mul]
        · intro q hq
          rcases List.mem_append.1 hq with hq | hq
          · exact hlk q (List.mem_of_mem_take hq)
          · exact hk1 q hq
  · -- nothing was there
    subst hl0
    have hi0 : i = 0 := by simpa using hil
    subst hi0
    have hrow : rowNew a.size bytes [encV a e] = some (⟨a.size, [encV a e], 0, 0⟩, 1) := if_pos ⟨hsz, by show (1 : Nat) < _; omega⟩
    have happ : appendA a.size bytes σ y0 [encV a e] = some (.rs σ.rw.length 0 1 0 false, some { σ with rw := σ.rw ++ [⟨a.size, [encV a e], 0, 0⟩] }) ∧ ∃ p, u0 = .slice p 0 0 := by
      rcases hy with rfl | ⟨f, rfl, hf2⟩
      · refine ⟨?_, none, v_inv hu0⟩
        simp only [appendA, hne1, hrow]
      · refine ⟨?_, ?_⟩
        · have e1 : (decide (1 < f) && neqN a.size a.size && uni a.size []) = true := by
            rw [decide_eq_true (show 1 < f by omega), show neqN a.size a.size = true from decide_eq_true rfl]; rfl
          simp only [appendA, hne1, e1, show sapp [] [encV a e] = [encV a e] from rfl, hrow]
        · cases hu0 with
          | sl _ _ _ p n cap b o us s1 s2 s3 =>
            have h1 : n = 0 := by simpa using s1
            have h2 := s3 (by omega)
            subst h1; subst h2
            exact ⟨p, rfl⟩
    obtain ⟨happ, p, rfl⟩ := happ
    obtain ⟨v', w', Γ', g1, g2, g3, g4⟩ := append_go hT hi hu0 hL hk1 hp1 happ tS
    refine Calls.mono (hend w p 0 0 ⟨b2, o2, none⟩ c2 v' w' (by omega) g1) ?_
    rintro e1 w1 ⟨rfl, rfl⟩
    have hget : (turn σ (some { σ with rw := σ.rw ++ [⟨a.size, [encV a e], 0, 0⟩] })).rw[σ.rw.length]? = some ⟨a.size, [encV a e], 0, 0⟩ := by
      show (σ.rw ++ _)[σ.rw.length]? = _
      rw [List.getElem?_append_right (Nat.le_refl _)]; simp
    obtain ⟨Γ2, z1, z2, z3, z4⟩ := settle1 (l := [e]) hi g2 g3 hb0 hget rfl rfl (decLs_map (fun v => decV_enc a v) [e]) (u := v') g4
    exact ⟨_, Γ2, rfl, z1, z2, z3, z4⟩
/-- The row that a call is handed, in memory. -/
theorem row_mem {Γ : Gh} {σ : St} {w : World} (hi : Inv Γ σ w) {a : Ty} {R : Row} (hR : σ.rw[0]? = some R) (hRk : R.k = a.size) (hRf : R.fz = 0) {u0 : Value} (hu0 : Rep Γ (.rs 0 0 R.c.length R.ver false) u0) :
    ∃ p cap, u0 = .slice p R.c.length cap ∧ R.c.length ≤ cap ∧ (cap = 0 ∨ p = some ⟨Γ.cur 0, 0, none⟩ ∧ Γ.sz 0 ≠ 0 ∧ ∃ vs et, Blk w (Γ.cur 0) et vs ∧ vs.size = Γ.sz 0 ∧ cap * a.size ≤ vs.size ∧ CellsAre Γ a.size R.c (vs.toList.take (R.c.length * a.size)) ∧ (vs.toList.take (R.c.length * a.size)).length = R.c.length * a.size ∧ (∀ u ∈ vs.toList.take (R.c.length * a.size), u.oneCell' = true)) := by
  have H := hi.row 0 R hR
  cases hu0 with
  | rs _ _ _ _ _ p cap hr1 hr2 hr3 hr4 hr5 =>
  obtain ⟨hp0, hfit⟩ := hr5 (H.ver (by rw [hRf]; exact Nat.zero_le _)).symm
  refine ⟨p, cap, rfl, hr3, ?_⟩
  by_cases hpos : cap = 0
  · exact .inl hpos
  right
  have hpe : p = some ⟨Γ.cur 0, 0, none⟩ := by
    rcases hp0 with h | h
    · exact absurd h hpos
    · rw [h, Nat.zero_mul]
  subst hpe
  have hk0 := Ty.size_pos a
  have hck : 1 * a.size ≤ cap * a.size := Nat.mul_le_mul_right _ (by omega)
  rw [← H.k, hRk, Nat.zero_add] at hfit
  have hz : Γ.sz 0 ≠ 0 := by omega
  obtain ⟨vs, et, hvs, hvsz⟩ := H.blk hz
  have hca : CellsAre Γ a.size R.c (vs.toList.take (R.c.length * a.size)) := by
    have hh : CellsAre Γ a.size R.c vs.toList := fun q e j x q1 q2 => by
      obtain ⟨u, u1, u2⟩ := row_cells hi hR hz hvs q e j x q1 q2
      rw [hRk] at u1
      exact ⟨u, by rw [Array.getElem?_toList]; exact u1, u2⟩
    have := hh.take (fun e he => (H.len e he).trans hRk) R.c.length
    rwa [List.take_length] at this
  have hlk : ∀ e ∈ R.c, e.length = a.size := fun e he => (H.len e he).trans hRk
  have hnk : R.c.length * a.size ≤ vs.size := by rw [hvsz]; exact Nat.le_trans (Nat.mul_le_mul_right _ hr3) hfit
  have hxl : (vs.toList.take (R.c.length * a.size)).length = R.c.length * a.size := by rw [List.length_take, Array.length_toList]; exact Nat.min_eq_left hnk
  have h1 := one_all hlk hk0 hxl (fun q e j x q1 q2 => by obtain ⟨u, u1, u2, u3⟩ := hca q e j x q1 q2; exact ⟨u, u1, u3⟩)
  exact ⟨rfl, hz, vs, et, hvs, hvsz, by rw [hvsz]; exact hfit, hca, hxl, h1⟩
theorem hand_del {P : Program} {N : FuncId} {a : Ty} (hf : FnOk P N)
    (hdel : ∀ (w : World) (g m c i : Nat) (et : TypeId) (cur : Array Value) (xs : List Value), Blk w g et cur → c * a.size ≤ cur.size → cur.toList.take ((m + 1) * a.size) = xs → (∀ u ∈ xs, u.oneCell' = true) → m ≤ 100000 → i ≤ m → m + 1 ≤ c →
      Calls P N #[.slice (some ⟨g, 0, none⟩) (m + 1) c, .int .i64 i, .int .i64 ((i : Int) + 1)] w (RowGo a.size w g cur.size m (xs.take (i * a.size) ++ xs.drop ((i + 1) * a.size))))
    {fn : List (Val a) → Int → Int → Option (Unit × List (Val a) × Unit)} (hfn : ∀ l i j r, fn l i j = some r → j = i + 1 ∧ 0 ≤ i ∧ i < l.length ∧ l.length ≤ 100000 ∧ r = ((), l.take i.toNat ++ l.drop (i.toNat + 1), ())) :
    PrimOk P N (sgP ⟨[.row a, .val (.int .i64), .val (.int .i64)], [.row a], fun x => fn x.1 x.2.1 x.2.2.1⟩) := by
  refine ⟨hf, fun Γ σ w args vals r hi hr hp => ?_⟩
  unfold sgP at hp
  split at hp <;> try cases hp
  rename_i x hx
  split at hp <;> cases hp
  rename_i v0 hv0
  obtain ⟨l, i, j, _⟩ := x
  obtain ⟨hj, hi0, hil, hl, rfl⟩ := hfn _ _ _ _ hv0
  have hj : j = i + 1 := hj
  subst hj
  obtain ⟨i, rfl⟩ := Int.eq_ofNat_of_zero_le hi0
  have hil : i < l.length := Int.ofNat_lt.1 hil
  have hl : l.length ≤ 100000 := hl
  obtain ⟨y0, ys0, nr, rfl, hy0, hx⟩ := dS_row hx
  obtain ⟨y1, ys1, rfl, hy1, hx⟩ := dS_val hx
  obtain ⟨y2, ys2, rfl, hy2, hx⟩ := dS_val hx
  obtain ⟨rfl, hbx, hrw⟩ := dS_nil hx
  obtain ⟨u0, r0, rfl, hu0, hr⟩ := hr.uncons
  obtain ⟨u1, r1, rfl, hu1, hr⟩ := hr.uncons
  obtain ⟨u2, r2, rfl, hu2, hr⟩ := hr.uncons
  have := hr.nil_inv
  subst this
  have hu1 := v_inv (val_rep hy1 hu1)
  subst hu1
  have hu2 := v_inv (val_rep hy2 hu2)
  subst hu2
  have hb0 : σ.bx = [] := List.eq_nil_of_length_eq_zero hbx.symm
  rcases rowArg_cases hy0 with ⟨hnr, R, rfl, hR, hRk, hRf, hRd⟩ | ⟨hnr, hl0, hy⟩
  · have H := hi.row 0 R hR
    have hcl : R.c.length = l.length := decLs_len hRd
    have hlk : ∀ e ∈ R.c, e.length = a.size := fun e he => (H.len e he).trans hRk
    obtain ⟨p, cap, rfl, hcap, h | ⟨rfl, hz, vs, et, hvs, hvsz, hfit, hca, hxl, h1⟩⟩ := row_mem hi hR hRk hRf hu0
    · omega
    · obtain ⟨m, hm⟩ : ∃ m, R.c.length = m + 1 := ⟨R.c.length - 1, by omega⟩
      have hik : (i + 1) * a.size ≤ R.c.length * a.size := Nat.mul_le_mul_right _ (by omega)
      have hgo := hdel w (Γ.cur 0) m cap i et vs _ hvs hfit (by rw [← hm]) h1 (by omega) (by omega) (by omega)
      rw [← hm, hvsz] at hgo
      have hdec : decLs (decV a) (R.c.take i ++ R.c.drop (i + 1)) = some (l.take ((i : Nat) : Int).toNat ++ l.drop (((i : Nat) : Int).toNat + 1)) := by
        rw [Int.toNat_natCast]
        exact decLs_append (decLs_take i hRd) (decLs_drop (i + 1) hRd)
      refine turn_calls hi hb0 hR hRk hRf hz (n := m) ?_ hdec (fun q hq => ?_) (fun q hq => ?_) ?_ hgo
      · rw [Int.toNat_natCast]; simp only [List.length_append, List.length_take, List.length_drop]; omega
      · rcases List.mem_append.1 hq with hq | hq
        · exact hlk q (List.mem_of_mem_take hq)
        · exact hlk q (List.mem_of_mem_drop hq)
      · rcases List.mem_append.1 hq with hq | hq
        · exact H.plain q (List.mem_of_mem_take hq)
        · exact H.plain q (List.mem_of_mem_drop hq)
      · refine CellsAre.app (hca.take hlk i) (hca.drop (i + 1)) ?_ fun q hq => hlk q (List.mem_of_mem_take hq)
        rw [Nat.succ_mul] at hik
        rw [List.length_take, hxl, List.length_take, Nat.min_eq_left (by omega), Nat.min_eq_left (by omega)]
  · have hl0 : l = [] := hl0
    subst hl0
    exact absurd hil (Nat.not_lt_zero _)
theorem hand_clone {P : Program} {N : FuncId} {a : Ty} (hf : FnOk P N) {most : Nat}
    (hcl : ∀ (w : World) (p : Option Addr) (n c : Nat) (xs : List Value), xs.length = n * a.size → (n = 0 ∨ ∃ ad, p = some ad ∧ ∀ j u, xs[j]? = some u → w.cell? (ad.add j) = some u) → (∀ u ∈ xs, u.oneCell' = true) → n ≤ most → Calls P N #[.slice p n c] w fun e w' => ∃ v, e = .returned v ∧ Fresh w a.size n xs v w')
    {fn : List (Val a) → Option (Unit × List (Val a) × Unit)} (hfn : ∀ l r, fn l = some r → l.length ≤ most ∧ r = ((), l, ())) :
    PrimOk P N (sgP ⟨[.val (.list a)], [.row a], fun x => fn x.1⟩) := by
  refine ⟨hf, fun Γ σ w args vals r hi hr hp => ?_⟩
  unfold sgP at hp
  split at hp <;> try cases hp
  rename_i x hx
  split at hp <;> cases hp
  rename_i v0 hv0
  obtain ⟨l, _⟩ := x
  obtain ⟨hl, rfl⟩ := hfn _ _ hv0
  have hl : l.length ≤ most := hl
  obtain ⟨y0, ys0, rfl, hy0, hx⟩ := dS_val hx
  obtain ⟨rfl, hbx, hrw⟩ := dS_nil hx
  obtain ⟨u0, r0, rfl, hu0, hr⟩ := hr.uncons
  have := hr.nil_inv
  subst this
  have hb0 : σ.bx = [] := List.eq_nil_of_length_eq_zero hbx.symm
  have hr0 : σ.rw = [] := List.eq_nil_of_length_eq_zero hrw.symm
  have hL : Rep Γ (.sl a.size (l.map (encV a)) 1) u0 := val_rep hy0 hu0
  obtain ⟨p, n, c, rfl, hn, hC⟩ := cells_of hi (list_dlist l) hL
  have hn' : l.length = n := by rw [← hC.len, List.length_map]
  subst hn'
  rcases hC.at_ with hC0 | ⟨b, o, rfl, hC1⟩
  · have hl0 : l.length = 0 := by rw [← List.length_map (f := encV a), hC0]; rfl
    refine fresh_calls (xs := []) hi hb0 hr0 (fun i e j x h1 => by rw [hC0] at h1; cases h1) ?_
    exact hcl w p l.length c [] (by rw [hl0]; simp) (.inl hl0) (fun u hu => by cases hu) hl
  · obtain ⟨xs, x1, x2, x3, x4⟩ := cells_list (Γ := Γ) (Ty.size_pos a) hC.size hC1
    refine fresh_calls (xs := xs) hi hb0 hr0 x4 ?_
    exact hcl w _ l.length c xs (by rw [x1, List.length_map]) (.inr ⟨_, rfl, x2⟩) x3 hl
theorem dS_nil1 {σ : St} {r : List SA} {nb nr : Nat} {ys : List AV} {a : SArgs (.nil :: r)} (h : dS σ (.nil :: r) nb nr ys = some a) : ∃ ys', ys = .v (.slice none 0 0) :: ys' ∧ dS σ r nb nr ys' = some a := by
  cases ys with
  | nil => simp [dS] at h
  | cons y ys =>
    simp only [dS] at h
    split at h
    · rename_i hn
      exact ⟨ys, by rw [isNilA_eq hn], h⟩
    · cases h
/-- Room for what will be appended to nothing. -/
theorem hand_grow {P : Program} {N : FuncId} {a : Ty} (hf : FnOk P N) {most : Nat}
    (hg : ∀ (w : World) (n : Nat), n ≤ most → Calls P N #[.slice none 0 0, .int .i64 n] w fun e w' => ∃ v, e = .returned v ∧ Fresh w a.size 0 [] v w')
    {fn : Int → Option (Unit × List (Val a) × Unit)} (hfn : ∀ n r, fn n = some r → 0 ≤ n ∧ n ≤ most ∧ r = ((), [], ())) :
    PrimOk P N (sgP ⟨[.nil, .val (.int .i64)], [.row a], fun x => fn x.1⟩) := by
  refine ⟨hf, fun Γ σ w args vals r hi hr hp => ?_⟩
  unfold sgP at hp
  split at hp <;> try cases hp
  rename_i x hx
  split at hp <;> cases hp
  rename_i v0 hv0
  obtain ⟨ys0, rfl, hx⟩ := dS_nil1 hx
  obtain ⟨n, _⟩ := x
  obtain ⟨hn0, hn1, rfl⟩ := hfn _ _ hv0
  obtain ⟨n, rfl⟩ := Int.eq_ofNat_of_zero_le hn0
  have hn1 : n ≤ most := Int.ofNat_le.1 hn1
  obtain ⟨y1, ys1, rfl, hy1, hx⟩ := dS_val hx
  obtain ⟨rfl, hbx, hrw⟩ := dS_nil hx
  obtain ⟨u0, r0, rfl, hu0, hr⟩ := hr.uncons
  obtain ⟨u1, r1, rfl, hu1, hr⟩ := hr.uncons
  have := hr.nil_inv
  subst this
  have hu0 := v_inv hu0
  subst hu0
  have hu1 := v_inv (val_rep hy1 hu1)
  subst hu1
  exact fresh_calls (a := a) (l := []) (xs := []) hi (List.eq_nil_of_length_eq_zero hbx.symm) (List.eq_nil_of_length_eq_zero hrw.symm) (fun i e j x h1 => by cases h1) (hg w n hn1)
end Go.AmYtmodnblfcikjlaaGreat
