/- Part 2 of what the proofs stand on: plain functions of the program, and that they are its functions. -/
import Derived.Test.YtmodnblfcikjlaaGreatM1
import Derived.Laws.Sem
import Derived.Orders
set_option linter.unusedVariables false
set_option linter.unusedSimpArgs false
namespace Go.AmYtmodnblfcikjlaaGreat
open Go Go.RowKit

/-- What a call comes to. -/
def CallsTo (P : Program) (Γ : Gh) (σ : St) (w : World) (f : FuncId) (vals : List Value) (r : AV × Option St) : Prop :=
  Calls P f vals.toArray w fun e w' => ∃ v Γ', e = .returned v ∧ Ext Γ w Γ' w' ∧ Inv Γ' (turn σ r.2) w' ∧ Rep Γ' r.1 v ∧ Keeps { σ with wr := [], wrr := [] } (turn { σ with wr := [], wrr := [] } r.2)
def FnOk (P : Program) (f : FuncId) : Prop := ∃ fn, P.funcs[f]? = some fn ∧ fn.body.isNone = false ∧ (fn.name == "runtime.NumGoroutine") = false
/-- A function by its contract. -/
def PrimOk (P : Program) (f : FuncId) (p : St → List AV → Option (AV × Option St)) : Prop :=
  FnOk P f ∧ ∀ Γ σ w args vals r, Inv Γ σ w → RepL Γ args vals → p σ args = some r → CallsTo P Γ σ w f vals r
structure CfgOk (P : Program) (C : Cfg) : Prop where
  mixed : P.follows .mixedOrders = true
  ty : ∀ t d, C.ty t = some d → tdOf P t = some d
  fn : ∀ f fn, C.fn f = some fn → P.funcs[f]? = some fn ∧ (fn.name == "runtime.NumGoroutine") = false ∧ ∀ c, fn.body = some c → drawsOk c = true
  prim : ∀ f p, C.prim f = some p → PrimOk P f p

theorem callFunc_enter {P : Program} {f : FuncId} (h : FnOk P f) (args : Array Value) (w : World) : (callFunc f args).run P w = .ok (.enter f args) w := by
  obtain ⟨fn, h1, h2, h3⟩ := h
  have hp : (program).run P w = .ok P w := rfl
  unfold callFunc
  simp only [Sem.run_bind, hp, Result.andThen_ok, h1, h3, h2, Bool.false_eq_true, if_false]
  rfl

/-- The frame of a call, the call's value. -/
abbrev TmRep (Γ : Gh) (tm : List AV) (a : Act) : Prop := RepL Γ tm a.tmps.toList
theorem TmRep.get {Γ : Gh} {tm : List AV} {a : Act} (h : TmRep Γ tm a) (t : Nat) : Rep Γ (tm.getD t .dead) (a.tmps.getD t undef) := by
  rw [List.getD_eq_getElem?_getD]
  cases hx : tm[t]? with
  | none => exact .dead _
  | some x =>
    obtain ⟨u, hu, hr⟩ := RepL.get h hx
    have : a.tmps.getD t undef = u := by
      rw [Array.getElem?_toList] at hu
      simp [Array.getD_eq_getD_getElem?, hu]
    rw [this]; exact hr
theorem ofC_rep (Γ : Gh) (y : Value) : Rep Γ (ofC y) y := by
  unfold ofC
  split
  · rename_i h; exact .v y h
  · exact .dead _
theorem ofConst_rep (Γ : Gh) (y : Value) : Rep Γ (ofConst y) y := by
  unfold ofConst
  split
  · rename_i cs
    split
    · rename_i h
      obtain ⟨h1, h2⟩ := base_reps (Γ := Γ) h
      have := Rep.agg (Γ := Γ) (cs.toList.map .v) cs.toList h1.len h2 h1.rep
      simpa using this
    · exact .dead _
  · rename_i vs
    split
    · rename_i h
      have : vs = #[] := by rw [← Array.toArray_toList (xs := vs), h]
      subst this
      exact .tup [] [] rfl fun i x u h => by simp at h
    · exact .dead _
  · exact ofC_rep Γ _
theorem TmRep.ev {Γ : Gh} {tm : List AV} {a : Act} (h : TmRep Γ tm a) (y : Operand) : Rep Γ (aev tm y) (a.eval y) := by
  cases y with
  | tmp t => exact h.get t
  | const x => exact ofConst_rep Γ x
  | func f => exact .fn f [] [] rfl fun i x u h => by simp at h
  | global g => exact .dead _
theorem TmRep.put {Γ : Gh} {tm : List AV} {a : Act} (h : TmRep Γ tm a) (d : Option Tmp) {x : AV} {u : Value} (hr : Rep Γ x u) : TmRep Γ (putA tm d x) (a.put d u) := by
  cases d with
  | none => exact h
  | some d =>
    show RepL Γ (tm.set d x) (a.tmps.setIfInBounds d u).toList
    rw [Array.toList_setIfInBounds]
    exact RepL.set h d hr

section
variable {P : Program} {C : Cfg} {Γ : Gh} {σ : St} {w : World}

theorem results_ok (hC : ∀ t d, C.ty t = some d → tdOf P t = some d) (hi : Inv Γ σ w) {fn : Func} {tm : List AV} {a : Act} (ht : TmRep Γ tm a) {r : AV} (h : resultsA C fn ⟨tm, σ⟩ = some r) : ∃ v, (results fn a.tmps).run P w = .ok v w ∧ Rep Γ r v := by
  have key : ∀ (rs : List ResultVar) (l : List AV), resultsL C tm σ rs = some l → ∃ vs : List Value, (rs.mapM (fun (x : ResultVar) => (match x with
      | .tmp t => pure (a.tmps.getD t undef)
      | .cell b t => do loadVar t (← asAddr (a.tmps.getD b undef)) : Sem Value))).run P w = .ok vs w ∧ RepL Γ l vs := by
    intro rs
    induction rs with
    | nil => intro l h; simp only [resultsL, Option.some.injEq] at h; subst h; exact ⟨[], by simp, .nil⟩
    | cons x rs ih =>
      intro l h
      simp only [resultsL] at h
      split at h <;> try cases h
      rename_i y hy
      split at h <;> cases h
      rename_i ys hys
      obtain ⟨vs, g1, g2⟩ := ih ys hys
      have one : ∃ v, (match x with
      | .tmp t => pure (a.tmps.getD t undef)
      | .cell b t => do loadVar t (← asAddr (a.tmps.getD b undef)) : Sem Value).run P w = .ok v w ∧ Rep Γ y v := by
        cases x with
        | tmp t => simp only [resultA, Option.some.injEq] at hy; subst hy; exact ⟨_, rfl, ht.get t⟩
        | cell b t =>
          simp only [resultA] at hy
          split at hy <;> try cases hy
          rename_i d hd
          obtain ⟨v, A, q1, q2, q3⟩ := load_ok hi (hC t d hd) (ht.get b) hy
          refine ⟨v, ?_, q3⟩
          simp [Sem.run_bind', q1, asAddr, q2]
      obtain ⟨v, e1, e2⟩ := one
      refine ⟨v :: vs, ?_, .cons e2 g2⟩
      rw [List.mapM_cons]
      simp only [Sem.run_bind, e1, Result.andThen_ok, g1]
      rfl
  simp only [resultsA] at h
  split at h <;> cases h
  rename_i l hl
  obtain ⟨vs, g1, g2⟩ := key _ _ hl
  unfold results
  rw [Array.mapM_eq_mapM_toList]
  have hm : (List.toArray <$> (fn.results.toList.mapM (fun (x : ResultVar) => (match x with
      | .tmp t => pure (a.tmps.getD t undef)
      | .cell b t => do loadVar t (← asAddr (a.tmps.getD b undef)) : Sem Value)))).run P w = .ok vs.toArray w := by
    rw [Sem.run_map, g1]; rfl
  refine ⟨if h : vs.toArray.size = 1 then vs.toArray[0] else .tuple vs.toArray, ?_, ?_⟩
  · rw [Sem.run_bind]
    exact (congrArg (fun r => Result.andThen r _) hm).trans rfl
  · unfold oneOf
    split
    · rename_i y
      obtain ⟨u, rs, rfl, h1, h2⟩ := g2.uncons
      rw [h2.nil_inv]
      simpa using h1
    · rename_i hne
      have : vs.toArray.size ≠ 1 := by
        intro hs
        have hl := g2.len
        simp only [List.size_toArray] at hs
        rw [hs] at hl
        match l, hl with
        | [y], _ => exact hne y rfl
      rw [dif_neg this]
      exact .tup _ _ g2.len g2.rep

def Ex.toExit : Ex → Exit
  | .normal => .normal
  | .exit id => .exit id
  | .ret => .ret
/-- What is to be shown of code. -/
def CodeOk (P : Program) (ex : Exec) : Prop :=
  ∀ c s e s', drawsOk c = true → ex c s = some (e, s') → ∀ Γ w a, Inv Γ s.σ w → TmRep Γ s.tm a → a.defers = [] →
    c.wp P (fun e' a' w' => e' = e.toExit ∧ a'.defers = [] ∧ ∃ Γ', Ext Γ w Γ' w' ∧ Inv Γ' s'.σ w' ∧ TmRep Γ' s'.tm a' ∧ Keeps s.σ s'.σ) a w

theorem replicate_rep (Γ : Gh) : ∀ n : Nat, RepL Γ (List.replicate n .dead) (List.replicate n undef)
  | 0 => .nil
  | n + 1 => .cons (.dead _) (replicate_rep Γ n)
theorem callF_fn (hC : CfgOk P C) {ex : Exec} {f : FuncId} {args : List AV} {r : AV × Option St} (h : callF C ex σ f args = some r) : FnOk P f := by
  unfold callF at h
  split at h
  · rename_i p hp
    exact (hC.prim f p hp).1
  · split at h <;> try cases h
    rename_i fn hfn
    split at h <;> try cases h
    rename_i c hc
    obtain ⟨h1, h2, _⟩ := hC.fn f fn hfn
    exact ⟨fn, h1, by rw [hc]; rfl, h2⟩
theorem callF_ok (hC : CfgOk P C) {ex : Exec} (hx : CodeOk P ex) {f : FuncId} {args : List AV} {vals : List Value} {r : AV × Option St} (hi : Inv Γ σ w) (hr : RepL Γ args vals) (h : callF C ex σ f args = some r) : CallsTo P Γ σ w f vals r := by
  unfold callF at h
  split at h
  · rename_i p hp
    exact (hC.prim f p hp).2 Γ σ w args vals r hi hr h
  · split at h <;> try cases h
    rename_i fn hfn
    split at h <;> try cases h
    rename_i c hc
    obtain ⟨h1, h2, h3⟩ := hC.fn f fn hfn
    have go : ∀ e s', ex c (enterA fn σ args) = some (e, s') → (e = .ret ∨ e = .normal) → leaveA C fn σ s' = some r → CallsTo P Γ σ w f vals r := by
      intro e s' he hee hl
      unfold CallsTo
      refine calls_of_wp h1 hc ?_
      have hi' : Inv Γ (enterA fn σ args).σ w := hi.wr rfl rfl
      have ht : TmRep Γ (enterA fn σ args).tm { tmps := vals.toArray ++ Array.replicate (fn.ntmps - vals.toArray.size) undef, defers := [] } := by
        show RepL Γ (args ++ List.replicate (fn.ntmps - args.length) .dead) (vals.toArray ++ Array.replicate (fn.ntmps - vals.toArray.size) undef).toList
        rw [Array.toList_append, Array.toList_replicate]
        have : vals.toArray.size = args.length := by simpa using hr.len
        rw [this]
        exact hr.append (replicate_rep Γ _)
      refine wp_mono (hx c _ e s' (h3 c hc) he Γ w _ hi' ht rfl) ?_
      rintro e' a' w' ⟨rfl, hd, Γ', g1, g2, g3, g4⟩
      unfold leaveA at hl
      split at hl <;> cases hl
      rename_i rv hrv
      obtain ⟨v, q1, q2⟩ := results_ok hC.ty g2 g3 hrv
      obtain ⟨⟨Γ2, u1, u2, u3⟩, u4⟩ := ret_ok hi g1 g2 g4 q2
      have : a'.defers = [] ∧ ∃ v, (results fn a'.tmps).run P w' = .ok v w' ∧ ∃ v_1 Γ', Ending.returned v = .returned v_1 ∧ Ext Γ w Γ' w' ∧ Inv Γ' (turn σ (retRule σ rv s'.σ).2) w' ∧ Rep Γ' (retRule σ rv s'.σ).1 v_1 ∧ Keeps { σ with wr := [], wrr := [] } (turn { σ with wr := [], wrr := [] } (retRule σ rv s'.σ).2) :=
        ⟨hd, v, q1, v, Γ2, rfl, u1, u2, u3, u4⟩
      rcases hee with rfl | rfl
      · exact this
      · exact this
    split at h
    · rename_i s' he; exact go _ _ he (.inl rfl) h
    · rename_i s' he; exact go _ _ he (.inr rfl) h
    · cases h

/-- What a call comes to for the caller. -/
def CallsB (P : Program) (Γ : Gh) (σ : St) (w : World) (f : FuncId) (vals : List Value) (r : AV × Option St) : Prop :=
  Calls P f vals.toArray w fun e w' => ∃ v Γ', e = .returned v ∧ Ext Γ w Γ' w' ∧ Inv Γ' (turn σ r.2) w' ∧ Rep Γ' r.1 v ∧ Keeps σ (turn σ r.2)
theorem sub_args {bs rs : List Nat} (hs : SubOk σ bs rs) : ∀ {args : List AV} {vals : List Value}, RepL Γ args vals → (∀ b ∈ rbL args, b ∈ bs) → (∀ r ∈ rrL args, r ∈ rs) → RepL (subGh Γ bs rs) (renL (fun b => bs.idxOf b) (fun r => rs.idxOf r) args) vals
  | [], vals, h, _, _ => by rw [h.nil_inv]; exact .nil
  | x :: args, vals, h, hb, hr => by
    obtain ⟨u, us, rfl, h1, h2⟩ := h.uncons
    exact .cons (sub_rep hs h1 (fun b hx => hb b (by simp [rbL, hx])) fun r hx => hr r (by simp [rrL, hx])) (sub_args hs h2 (fun b hx => hb b (by simp [rbL, hx])) fun r hx => hr r (by simp [rrL, hx]))
theorem callB_ok {f : FuncId} {args : List AV} {vals : List Value} {call : St → List AV → Option (AV × Option St)} (hc : ∀ Γ σ args r, Inv Γ σ w → RepL Γ args vals → call σ args = some r → CallsTo P Γ σ w f vals r)
    {r : AV × Option St} (hi : Inv Γ σ w) (hr : RepL Γ args vals) (h : callB σ args call = some r) : CallsB P Γ σ w f vals r := by
  unfold callB at h
  split at h <;> try cases h
  rename_i hs0
  obtain ⟨hs, hb, hrr⟩ := sub_of hs0
  split at h <;> cases h
  rename_i r hcall
  refine (hc _ _ _ _ (sub_inv hs hi) (sub_args hs hr hb hrr) hcall).mono ?_
  rintro e w' ⟨v, Γs, he, hx, hj, hrep, hk⟩
  have hrep' := back_rep hs hi hx hrep
  rw [hi.nb, hi.nr] at hrep'
  obtain ⟨r1, r2⟩ := r
  cases r2 with
  | none =>
    refine ⟨v, _, he, back_ext hs hi hx, ?_, hrep', .refl _⟩
    have hb := back_inv hs hi hx hj
    obtain ⟨e1, e2⟩ := back_sub hs
    exact hb.wr e1.symm e2.symm
  | some σs => exact ⟨v, _, he, back_ext hs hi hx, back_inv hs hi hx hj, hrep', back_keeps hs hk⟩
theorem CallsB.after {f : FuncId} {vals : List Value} {Γ1 : Gh} {σ1 : St} {r : AV × Option St} (h : CallsB P Γ1 σ1 w f vals r) (hx : Ext Γ w Γ1 w) (hk : Keeps σ σ1) : CallsB P Γ σ w f vals (match r with | (x, none) => (x, some σ1) | r => r) := by
  refine Calls.mono h ?_
  rintro e w' ⟨v, Γ', he, h1, h2, h3, h4⟩
  obtain ⟨r1, r2⟩ := r
  cases r2 with
  | none => exact ⟨v, Γ', he, hx.trans h1, h2, h3, hk.trans h4⟩
  | some σs => exact ⟨v, Γ', he, hx.trans h1, h2, h3, hk.trans h4⟩
theorem pur_args (hi : Inv Γ σ w) {m : Nat → Nat → Option Value} (hl : Le Γ { Γ with mem := m }) : ∀ {args : List AV} {vals : List Value}, (∀ r ∈ args.flatMap rsA, ∀ R, σ.rw[r]? = some R → Frozen { Γ with mem := m } r R) → RepL Γ args vals → RepL { Γ with mem := m } (args.map (purA σ.rw)) vals
  | [], vals, _, h => by rw [h.nil_inv]; exact .nil
  | x :: args, vals, hf, h => by
    obtain ⟨u, us, rfl, h1, h2⟩ := h.uncons
    exact .cons (purA_ok hi hl (fun r hr => hf r (by simp [hr])) h1) (pur_args hi hl (fun r hr => hf r (by simp only [List.flatMap_cons, List.mem_append]; exact .inr hr)) h2)
theorem scal_rep {Γ Γ' : Gh} {x : AV} {u : Value} (h : isScal x = true) (hr : Rep Γ x u) : Rep Γ' x u := by
  cases hr with
  | v _ hb => exact .v _ hb
  | tup cs us hn hr =>
    refine .tup cs us hn fun i x u hx hu => ?_
    have hv : isV x = true := (List.all_eq_true.1 h) x (List.mem_of_getElem? hx)
    have := hr i x u hx hu
    cases x with
    | v y => have := v_inv this; subst this; exact .v _ (by have := hr i _ _ hx hu; cases this; assumption)
    | _ => cases hv
  | _ => cases h
theorem ids_nil {args : List AV} (h1 : rbL args = []) (h2 : rrL args = []) : bids σ args = [] ∧ rids σ args = [] := by
  have hb : bids σ args = [] := by
    unfold bids
    rw [h1]
    show closeB σ.bx σ.bx.length [] = []
    cases σ.bx.length with
    | zero => rfl
    | succ n => rfl
  refine ⟨hb, ?_⟩
  unfold rids
  rw [hb, h2]
  rfl
theorem callB_scal {f : FuncId} {args : List AV} {vals : List Value} {call : St → List AV → Option (AV × Option St)} (hc : ∀ Γ σ args r, Inv Γ σ w → RepL Γ args vals → call σ args = some r → CallsTo P Γ σ w f vals r)
    {x : AV} {Γ0 : Gh} {σ0 : St} (h0 : Inv Γ0 σ0 w) (hi : Inv Γ σ w) (hr : RepL Γ args vals) (h : callB σ args call = some (x, none)) (h1 : rbL args = []) (h2 : rrL args = []) (hx : isScal x = true) : CallsB P Γ0 σ0 w f vals (x, none) := by
  obtain ⟨i1, i2⟩ := ids_nil (σ := σ) h1 h2
  unfold callB at h
  split at h <;> try cases h
  rename_i hs0
  obtain ⟨hs, hb, hrr⟩ := sub_of hs0
  split at h <;> try cases h
  rename_i r hcall
  have hback := Option.some.inj h
  rw [i1, i2] at hs
  refine (hc _ _ _ _ (sub_inv (by rw [i1, i2]; exact hs) hi) (sub_args (by rw [i1, i2]; exact hs) hr hb hrr) hcall).mono ?_
  rintro e w' ⟨v, Γs, he, hx', hj, hrep, hk⟩
  rw [i1, i2] at hx'
  have hrep' := back_rep hs hi hx' hrep
  rw [hi.nb, hi.nr] at hrep'
  have hxe : x = ren (backN [] σ.bx.length) (backN [] σ.rw.length) r.1 := by
    rw [i1, i2] at hback
    obtain ⟨r1, r2⟩ := r
    cases r2 <;> cases hback
    rfl
  rw [← hxe] at hrep'
  have hbl : Below w.heap.size w w' := ⟨hx'.os, hx'.tape, hx'.output, hx'.size, fun b hb => hx'.block b hb fun ho => by
    rcases ho with ⟨i, hi, _⟩ | ⟨i, hi, _⟩ <;> exact absurd hi (Nat.not_lt_zero _)⟩
  exact ⟨v, Γ0, he, below_ext hbl, h0.later hbl, scal_rep hx hrep', .refl _⟩
theorem doCall_ok (hC : CfgOk P C) {ex : Exec} (hx : CodeOk P ex) {f : FuncId} {args : List AV} {vals : List Value} {r : AV × Option St} (hi : Inv Γ σ w) (hr : RepL Γ args vals) (h : doCall C ex σ f args = some r) : CallsB P Γ σ w f vals r := by
  have hc : ∀ Γ σ args r, Inv Γ σ w → RepL Γ args vals → callF C ex σ f args = some r → CallsTo P Γ σ w f vals r := fun _ _ _ _ => callF_ok hC hx
  unfold doCall at h
  unfold handA at h
  cases hraw : C.raw f with
  | true =>
    rw [hraw] at h
    exact callB_ok hc hi hr h
  | false =>
    rw [hraw] at h
    simp only at h
    cases hrs : args.flatMap rsA with
    | nil =>
      rw [hrs] at h
      exact callB_ok hc hi (pur_args (m := Γ.mem) hi (Le.refl _) (by rw [hrs]; intro r hr; cases hr) hr) h
    | cons q l =>
      rw [hrs] at h
      simp only [orElse] at h
      obtain ⟨m, m1, m2, m3⟩ := freeze_all (q :: l) hi ((q :: l) ++ σ.wrr)
      have ha := pur_args hi m1.le (by rw [hrs]; exact m3) hr
      cases hcb : callB { σ with rw := frz σ.rw (q :: l), wrr := (q :: l) ++ σ.wrr } (args.map (purA σ.rw)) (fun σ args => callF C ex σ f args) with
      | none => rw [hcb] at h; cases h
      | some r0 =>
        rw [hcb] at h
        have := (callB_ok hc m2 ha hcb).after (mem_ext m1 w) (keeps_frz (q :: l))
        obtain ⟨x, o⟩ := r0
        cases o with
        | none =>
          simp only at h
          split at h
          · rename_i hs
            cases h
            simp only [Bool.and_eq_true, List.isEmpty_iff] at hs
            exact callB_scal hc hi m2 ha hcb hs.1.2 hs.2 hs.1.1
          · cases h; exact this
        | some σs => cases h; exact this
theorem callB_some {args : List AV} {call : St → List AV → Option (AV × Option St)} {r : AV × Option St} (h : callB σ args call = some r) : ∃ σ' args' r', call σ' args' = some r' := by
  unfold callB at h
  split at h <;> try cases h
  split at h <;> cases h
  exact ⟨_, _, _, by assumption⟩
theorem doCall_fn (hC : CfgOk P C) {ex : Exec} {f : FuncId} {args : List AV} {r : AV × Option St} (h : doCall C ex σ f args = some r) : FnOk P f := by
  unfold doCall at h
  split at h
  · obtain ⟨_, _, _, h'⟩ := callB_some h; exact callF_fn hC h'
  · rename_i σ' _
    cases hcb : callB σ' _ (fun σ args => callF C ex σ f args) with
    | none => rw [hcb] at h; cases h
    | some r0 => obtain ⟨_, _, _, h'⟩ := callB_some hcb; exact callF_fn hC h'

/-- One operation. -/
theorem op_ok (hC : CfgOk P C) {ex : Exec} (hx : CodeOk P ex) {tm : List AV} {a : Act} {o : Oper} {x : AV} {σ' : Option St} (hi : Inv Γ σ w) (ht : TmRep Γ tm a) (h : opA C ex tm σ o.op = some (x, σ')) : OpWp P Γ σ w o a x σ' := by
  by_cases hcall : ∃ c, o.op = .call c
  · obtain ⟨c, ho⟩ := hcall
    rw [ho] at h
    have hargs : RepL Γ (c.args.toList.map (aev tm)) (c.args.toList.map a.eval) := repL_map ht.ev _
    simp only [opA] at h
    split at h
    · rename_i b hb
      obtain ⟨⟨v, w', Γ', h1, h2, h3, h4⟩, hk⟩ := bi_ok (P := P) (ty := o.type) (cs := c.args.map fun | .const _ => true | _ => false) hC.ty hi hargs h
      refine OpOk.wp ⟨_, v, w', Γ', ?_, .inl rfl, h2, h3, h4⟩ hk
      have e : (c.args.toList.map a.eval).toArray = c.args.map a.eval := by rw [← Array.toList_map]
      rw [e] at h1
      unfold execOp
      rw [ho]
      simp only [resolve, hb, Sem.run_bind]
      exact h1
    · split at h <;> try cases h
      rename_i f caps hcal
      have hcv : ∃ g, c.callee = .value g ∧ aev tm g = .fn f caps := by
        unfold calleeA at hcal
        split at hcal <;> try cases hcal
        rename_i g hg
        split at hcal <;> cases hcal
        rename_i hf
        exact ⟨g, hg, hf⟩
      obtain ⟨g, hg, hf⟩ := hcv
      have hfr := hf ▸ ht.ev g
      generalize hgv : a.eval g = gv at hfr
      cases hfr with
      | fn f caps us hn hrr =>
        have hfn := doCall_fn hC h
        have hcl := doCall_ok hC hx hi (hargs.append (RepL.mk hn hrr)) h
        intro next Q hnext
        unfold Oper.wp
        have hrun : (execOp a.eval o).run P w = .ok (.enter f ((c.args.toList.map a.eval ++ us).toArray)) w := by
          unfold execOp
          rw [ho]
          simp only [resolve, hg, hgv, Deferred.ofValue, Sem.run_bind]
          have e : c.args.map a.eval ++ us.toArray = (c.args.toList.map a.eval ++ us).toArray := by
            rw [← Array.toList_map]; simp
          rw [← e, Array.empty_append]
          exact callFunc_enter hfn _ w
        rw [hrun, Oper.upon_enter]
        refine Calls.mono hcl ?_
        rintro e w' ⟨v, Γ', rfl, h1, h2, h3, h4⟩
        exact hnext v w' Γ' h1 h2 h3 h4
  · have h' : stepOp C tm σ o.op = some (x, σ') := by
      unfold opA at h
      split at h
      · rename_i c hc; exact absurd ⟨c, hc⟩ hcall
      · exact h
    exact (st_ok hC.ty hi ht.ev h').wp (step_keeps h')
end
end Go.AmYtmodnblfcikjlaaGreat
namespace Go.AmYtmodnblfcikjlaaGreat
open Go Go.RowKit

section
variable {P : Program} {C : Cfg} {Γ : Gh} {σ : St} {w : World} {ops : Array Oper}

theorem want_ok {tm : List AV} {a : Act} {o : Oper} {b : Bool} (ht : TmRep Γ tm a) (h : wantA ops tm o = some b) : Region.wanted o (yielded ops a.tmps) = b := by
  unfold wantA at h
  unfold Region.wanted
  split at h
  · rename_i hg; cases h; rw [hg]
  · rename_i j want hg
    rw [hg]
    simp only
    split at h <;> try cases h
    rename_i d hd
    have hr := ht.get d
    unfold yielded
    rw [hd]
    simp only [Option.bind_some]
    split at h
    · rename_i c hc
      cases h
      rw [hc] at hr
      have := v_inv hr
      rw [Array.getD_eq_getD_getElem?] at this
      cases hx : a.tmps[d]? with
      | none => rw [hx] at this; cases this
      | some v => rw [hx] at this; cases this; simp [beqB]
    · rename_i hc
      cases h
      rw [hc] at hr
      generalize hu : a.tmps.getD d undef = u at hr
      cases hr with
      | tup cs us hn hrr =>
        rw [Array.getD_eq_getD_getElem?] at hu
        cases hx : a.tmps[d]? with
        | none => simp
        | some v => rw [hx] at hu; simp at hu; subst hu; simp
    · cases h

theorem ops_ok (hC : CfgOk P C) {ex : Exec} (hx : CodeOk P ex) {draw : Bool} {Q : Exit → Act → World → Prop} {s' : S} : ∀ (rest : List Oper) (i : Nat) (s : S) (Γ : Gh) (w : World) (a : Act), (∀ j, rest[j]? = ops[i + j]?) → runOps C ex ops draw rest s = some s' → Inv Γ s.σ w → TmRep Γ s.tm a →
    (∀ Γ' w' a', Ext Γ w Γ' w' → Inv Γ' s'.σ w' → TmRep Γ' s'.tm a' → Keeps s.σ s'.σ → a'.defers = a.defers → Q .normal a' w') → wpOps P ops Q (List.range' i rest.length) a w
  | [], i, s, Γ, w, a, _, h, hi, ht, hq => by
    simp only [runOps, Option.some.injEq] at h
    subst h
    exact hq Γ w a (.refl _ _) hi ht (.refl _) rfl
  | o :: rest, i, s, Γ, w, a, hl, h, hi, ht, hq => by
    have ho : ops[i]? = some o := by simpa using (hl 0).symm
    have hl' : ∀ j, rest[j]? = ops[i + 1 + j]? := fun j => by have := hl (j + 1); simpa [Nat.add_assoc, Nat.add_comm 1 j] using this
    simp only [List.length_cons, List.range'_succ, wpOps, ho]
    have go : ∀ x σ', opA C ex s.tm s.σ o.op = some (x, σ') → runOps C ex ops draw rest ⟨putA s.tm o.dst x, turn s.σ σ'⟩ = some s' → o.wp P a w (wpOps P ops Q (List.range' (i + 1) rest.length)) Q := by
      intro x σ' hop hrun
      refine op_ok hC hx hi ht hop _ _ ?_
      intro u w' Γ' e1 e2 e3 e4
      refine ops_ok hC hx rest (i + 1) _ Γ' w' _ hl' hrun e2 (TmRep.put (RepL.mono e1.le ht) o.dst e3) ?_
      intro Γ2 w2 a2 g1 g2 g3 g4 g5
      exact hq Γ2 w2 a2 (e1.trans g1) g2 g3 (e4.trans g4) (by rw [g5]; cases hd : o.dst <;> rfl)
    simp only [runOps] at h
    split at h
    · rename_i hw
      rw [if_pos (want_ok ht hw)]
      left
      split at h
      · rename_i x hop
        exact go x none hop h
      · rename_i x σ' hop
        split at h
        · cases h
        · exact go x (some σ') hop h
      · cases h
    · rename_i hw
      rw [if_neg (by rw [want_ok ht hw]; exact Bool.false_ne_true)]
      refine ops_ok hC hx rest (i + 1) _ Γ w _ hl' h hi (TmRep.put ht o.dst (.tup [] [] rfl fun i x u h => by simp at h)) ?_
      intro Γ2 w2 a2 g1 g2 g3 g4 g5
      exact hq Γ2 w2 a2 g1 g2 g3 g4 (by rw [g5]; cases hd : o.dst <;> rfl)
    · cases h
end
end Go.AmYtmodnblfcikjlaaGreat
namespace Go.AmYtmodnblfcikjlaaGreat
open Go Go.RowKit

section
variable {P : Program} {C : Cfg} {Γ : Gh} {σ : St} {w : World} {ops : Array Oper} {ex : Exec}

/-- One operation's step: what it yields. -/
def StepA (C : Cfg) (ex : Exec) (ops : Array Oper) (o : Oper) (s : S) (y : AV × Option St) : Prop :=
  (wantA ops s.tm o = some true ∧ opA C ex s.tm s.σ o.op = some y) ∨ (wantA ops s.tm o = some false ∧ y = (undefA, none))
def putS (s : S) (o : Oper) (y : AV × Option St) : S := ⟨putA s.tm o.dst y.1, turn s.σ y.2⟩
/-- The state behind those of the first k operations that are of the set. -/
def F (ops : List Oper) (l : List (AV × Option St)) (s0 : S) (L : Nat → Bool) : Nat → S
  | 0 => s0
  | k + 1 => match ops[k]?, l[k]?, L k with
    | some o, some y, true => putS (F ops l s0 L k) o y
    | _, _, _ => F ops l s0 L k
def allL : Nat → Bool := fun _ => true

theorem F_cons (o : Oper) (rest : List Oper) (y : AV × Option St) (l : List (AV × Option St)) (s : S) : ∀ k, F (o :: rest) (y :: l) s allL (k + 1) = F rest l (putS s o y) allL k
  | 0 => rfl
  | k + 1 => by
    show (match (o :: rest)[k + 1]?, (y :: l)[k + 1]?, allL (k + 1) with
      | some o', some y', true => putS (F (o :: rest) (y :: l) s allL (k + 1)) o' y'
      | _, _, _ => F (o :: rest) (y :: l) s allL (k + 1)) = _
    rw [F_cons o rest y l s k]
    simp only [List.getElem?_cons_succ]
    rfl
theorem run_trace : ∀ (rest : List Oper) (s s' : S), runOps C ex ops true rest s = some s' → ∃ l, l.length = rest.length ∧ F rest l s allL rest.length = s' ∧
    ∀ i o, rest[i]? = some o → ∃ y, l[i]? = some y ∧ StepA C ex ops o (F rest l s allL i) y ∧ (y.2.isSome = true → loudOp C.raw o.op = true)
  | [], s, s', h => by
    simp only [runOps, Option.some.injEq] at h
    exact ⟨[], rfl, h, fun i o hi => by simp at hi⟩
  | o :: rest, s, s', h => by
    have go : ∀ y, StepA C ex ops o s y → (y.2.isSome = true → loudOp C.raw o.op = true) → runOps C ex ops true rest (putS s o y) = some s' → ∃ l, l.length = (o :: rest).length ∧ F (o :: rest) l s allL (o :: rest).length = s' ∧
        ∀ i o', (o :: rest)[i]? = some o' → ∃ y, l[i]? = some y ∧ StepA C ex ops o' (F (o :: rest) l s allL i) y ∧ (y.2.isSome = true → loudOp C.raw o'.op = true) := by
      intro y hy hloud hrun
      obtain ⟨l, h1, h2, h3⟩ := run_trace rest _ s' hrun
      refine ⟨y :: l, by simp [h1], ?_, fun i o' hi => ?_⟩
      · rw [List.length_cons, F_cons]; exact h2
      · cases i with
        | zero => simp at hi; subst hi; exact ⟨y, rfl, hy, hloud⟩
        | succ i =>
          rw [F_cons]
          simpa using h3 i o' (by simpa using hi)
    simp only [runOps] at h
    split at h
    · rename_i hw
      split at h
      · rename_i x hop
        exact go (x, none) (.inl ⟨hw, hop⟩) (by simp) h
      · rename_i x σ' hop
        split at h
        · cases h
        · rename_i hl
          exact go (x, some σ') (.inl ⟨hw, hop⟩) (fun _ => by simpa using hl) h
      · cases h
    · rename_i hw
      exact go (undefA, none) (.inr ⟨hw, rfl⟩) (by simp) h
    · cases h

/- An operation looks at nothing but its operands, and at the store only if it reads. -/
theorem aev_congr {tm tm' : List AV} {xs : List Operand} (h : ∀ t ∈ xs.filterMap (fun | .tmp t => some t | _ => none), tm.getD t .dead = tm'.getD t .dead) : ∀ x ∈ xs, aev tm x = aev tm' x := by
  intro x hx
  cases x with
  | tmp t => exact h t (List.mem_filterMap.2 ⟨_, hx, rfl⟩)
  | _ => rfl
theorem op_congr {tm tm' : List AV} {op : Op} (h : ∀ x ∈ op.operands.toList, aev tm x = aev tm' x) : opA C ex tm σ op = opA C ex tm' σ op := by
  have pairs : ∀ ps : Array (Nat × Operand), (∀ x ∈ ps.toList.map (·.2), aev tm x = aev tm' x) → (ps.toList.map fun p => (p.1, aev tm p.2)) = ps.toList.map fun p => (p.1, aev tm' p.2) := fun ps hp =>
    List.map_congr_left fun p hm => by rw [hp p.2 (List.mem_map.2 ⟨p, hm, rfl⟩)]
  cases op with
  | call c =>
    have ha : c.args.toList.map (aev tm) = c.args.toList.map (aev tm') := List.map_congr_left fun x hx => h x (by
      simp only [Op.operands, Call.operands]
      cases c.callee <;> simp [hx] <;> (right; simpa using hx))
    simp only [opA, ha]
    cases hc : c.callee with
    | builtin b => rfl
    | value f =>
      have hf : aev tm f = aev tm' f := h f (by simp [Op.operands, Call.operands, hc])
      simp only [calleeA, hf]
    | invoke r n => rfl
  | build t ps => simp only [opA, stepOp, pairs ps (fun x hx => h x (by simpa [Op.operands] using hx))]
  | buildSlice t n ps =>
    have hp := pairs ps (fun x hx => h x (by simpa [Op.operands] using hx))
    have e1 : (ps.toList.flatMap fun p => rsA (aev tm p.2)) = ps.toList.flatMap fun p => rsA (aev tm' p.2) := by
      have := congrArg (fun l => List.flatMap (fun p : Nat × AV => rsA p.2) l) hp
      simpa [List.flatMap_map] using this
    have e2 : (ps.toList.map fun p => (cellsOf (aev tm p.2)).map (purC σ.rw)) = ps.toList.map fun p => (cellsOf (aev tm' p.2)).map (purC σ.rw) := by
      have := congrArg (fun l => List.map (fun p : Nat × AV => (cellsOf p.2).map (purC σ.rw)) l) hp
      simpa [List.map_map, Function.comp] using this
    simp only [opA, stepOp, hp, e1, e2]
  | makeFunc f fs cs =>
    have hcs : cs.toList.map (aev tm) = cs.toList.map (aev tm') := List.map_congr_left fun x hx => h x (by simp only [Op.operands, Array.toList_append, List.mem_append]; exact .inr hx)
    cases f <;> simp only [opA, stepOp, hcs]
  | slice t x lo hi m =>
    cases m with
    | some m => simp [opA, stepOp]
    | none =>
      have h1 : aev tm x = aev tm' x := h x (by simp [Op.operands])
      have h2 : lo.map (aev tm) = lo.map (aev tm') := by
        cases lo with
        | none => rfl
        | some y => simp only [Option.map_some]; rw [h y (by simp [Op.operands])]
      have h3 : hi.map (aev tm) = hi.map (aev tm') := by
        cases hi with
        | none => rfl
        | some y => simp only [Option.map_some]; rw [h y (by simp [Op.operands])]
      simp only [opA, stepOp, h1, h2, h3]
  | move x => simp only [opA, stepOp, h x (by simp [Op.operands])]
  | assign x => simp only [opA, stepOp, h x (by simp [Op.operands])]
  | pick c a b => simp only [opA, stepOp, h c (by simp [Op.operands]), h a (by simp [Op.operands]), h b (by simp [Op.operands])]
  | box e x => simp only [opA, stepOp, h x (by simp [Op.operands])]
  | load t x => simp only [opA, stepOp, h x (by simp [Op.operands])]
  | store t x y => simp only [opA, stepOp, h x (by simp [Op.operands]), h y (by simp [Op.operands])]
  | makeSlice t x y => simp only [opA, stepOp, h x (by simp [Op.operands]), h y (by simp [Op.operands])]
  | nilCheck x => simp only [opA, stepOp, h x (by simp [Op.operands])]
  | binOp op t x y u => simp only [opA, stepOp, h x (by simp [Op.operands]), h y (by simp [Op.operands])]
  | unOp op t x => simp only [opA, stepOp, h x (by simp [Op.operands])]
  | convert s t x => simp only [opA, stepOp, h x (by simp [Op.operands])]
  | fieldAddr t x i => simp only [opA, stepOp, h x (by simp [Op.operands])]
  | field t x i => simp only [opA, stepOp, h x (by simp [Op.operands])]
  | indexAddr t x y => simp only [opA, stepOp, h x (by simp [Op.operands]), h y (by simp [Op.operands])]
  | index t x y => simp only [opA, stepOp, h x (by simp [Op.operands]), h y (by simp [Op.operands])]
  | extract x i => simp only [opA, stepOp, h x (by simp [Op.operands])]
  | _ => simp only [opA, stepOp]
theorem want_congr {tm tm' : List AV} {o : Oper} (h : ∀ t ∈ looks ops o, tm.getD t .dead = tm'.getD t .dead) : wantA ops tm o = wantA ops tm' o := by
  unfold wantA
  cases hg : o.guard with
  | none => rfl
  | some p =>
    obtain ⟨j, want⟩ := p
    simp only
    cases hd : (ops[j]?).bind (·.dst) with
    | none => rfl
    | some d =>
      simp only
      rw [h d (by simp [looks, hg, hd])]
theorem op_still {tm : List AV} {τ : St} {op : Op} {x : AV} (hr : readsOp op = false) (hl : loudOp C.raw op = false) (h : opA C ex tm σ op = some (x, none)) : opA C ex tm τ op = some (x, none) := by
  cases op with
  | call c =>
    obtain ⟨cl, ar, at'⟩ := c
    cases cl with
    | builtin b =>
      cases b <;> try (simp [readsOp] at hr; done)
      all_goals
        simp only [opA] at h ⊢
        rw [← h]
        generalize ar.toList.map (aev tm) = args
        unfold builtinA
        rcases args with _ | ⟨p, _ | ⟨q, _ | ⟨r, l⟩⟩⟩ <;> first
          | rfl
          | (cases p <;> first | rfl | (rename_i v; cases v <;> first | rfl | (cases q <;> first | rfl | (rename_i v'; cases v' <;> rfl))))
    | value f => simp [readsOp] at hr
    | invoke r n => simp [readsOp] at hr
  | load t x => simp [readsOp] at hr
  | store t x y => simp [readsOp] at hr
  | buildSlice t n ps => simp [readsOp] at hr
  | indexAddr t x y => simp [readsOp] at hr
  | slice t x lo hi m => cases m <;> exact h
  | alloc e =>
    simp only [opA, stepOp] at h
    repeat' (first | (cases h; done) | split at h)
  | box e y =>
    simp only [opA, stepOp] at h
    repeat' (first | (cases h; done) | split at h)
  | makeFunc f fs cs => cases f <;> exact h
  | makeSlice t a b =>
    simp only [opA, stepOp] at h ⊢
    split at h <;> try cases h
    split at h <;> try cases h
    rename_i hc
    split at h <;> cases h
    rename_i hn
    simp only [hc, hn]
  | _ => exact h
end
end Go.AmYtmodnblfcikjlaaGreat
namespace Go.AmYtmodnblfcikjlaaGreat
open Go Go.RowKit

theorem masks_pre : ∀ (r : List Oper) (bs : List Nat), ∃ t, masks r bs = bs ++ t
  | [], bs => ⟨[], by simp [masks]⟩
  | o :: r, bs => by
    obtain ⟨t, ht⟩ := masks_pre r (bs ++ [closeM bs o])
    exact ⟨closeM bs o :: t, by rw [masks, ht]; simp⟩
theorem masks_get : ∀ (r : List Oper) (bs : List Nat) (k : Nat) (o : Oper), r[k]? = some o → (masks r bs).getD (bs.length + k) 0 = closeM ((masks r bs).take (bs.length + k)) o
  | [], bs, k, o, h => by simp at h
  | q :: r, bs, 0, o, h => by
    simp at h; subst h
    obtain ⟨t, ht⟩ := masks_pre r (bs ++ [closeM bs q])
    rw [masks, ht]
    simp [List.getD_eq_getElem?_getD]
  | q :: r, bs, k + 1, o, h => by
    rw [masks]
    have := masks_get r (bs ++ [closeM bs q]) k o (by simpa using h)
    rw [List.length_append, List.length_singleton, Nat.add_assoc, Nat.add_comm 1 k] at this
    exact this
theorem fold_bit (bs : List Nat) (j : Nat) : ∀ (xs : List Nat) (m : Nat), (xs.foldl (fun m e => m ||| (2 ^ e ||| bs.getD e 0)) m).testBit j = true → m.testBit j = true ∨ ∃ e ∈ xs, e = j ∨ (bs.getD e 0).testBit j = true
  | [], m, h => .inl h
  | e :: xs, m, h => by
    rw [List.foldl_cons] at h
    rcases fold_bit bs j xs _ h with h | ⟨e', he, h⟩
    · rw [Nat.testBit_or, Nat.testBit_or, Nat.testBit_two_pow] at h
      simp only [Bool.or_eq_true, decide_eq_true_eq] at h
      rcases h with h | h | h
      · exact .inl h
      · exact .inr ⟨e, List.mem_cons_self .., .inl h⟩
      · exact .inr ⟨e, List.mem_cons_self .., .inr h⟩
    · exact .inr ⟨e', List.mem_cons_of_mem _ he, h⟩
theorem mask_bit {ops : List Oper} {i j : Nat} {o : Oper} (ho : ops[i]? = some o) (h : ((masks ops []).getD i 0).testBit j = true) : ∃ e ∈ preds o, e = j ∨ (e < i ∧ ((masks ops []).getD e 0).testBit j = true) := by
  have hg := masks_get ops [] i o ho
  simp only [List.length_nil, Nat.zero_add] at hg
  rw [hg] at h
  rcases fold_bit _ _ _ _ h with h | ⟨e, he, h⟩
  · simp at h
  · refine ⟨e, he, h.imp_right fun h => ?_⟩
    rw [List.getD_eq_getElem?_getD, List.getElem?_take] at h
    split at h
    · rename_i hlt
      exact ⟨hlt, by rw [List.getD_eq_getElem?_getD]; exact h⟩
    · simp at h

section
variable {P : Program} {C : Cfg} {Γ : Gh} {σ : St} {w : World} {ops : Array Oper} {ex : Exec} {l : List (AV × Option St)} {s0 : S} {L : Nat → Bool}

def Down (ops : Array Oper) (L : Nat → Bool) : Prop := ∀ i o, ops[i]? = some o → L i = true → ∀ e ∈ preds o, L e = true
theorem reach (hd : Down ops L) {j : Nat} : ∀ (i : Nat) (o : Oper), ops[i]? = some o → (∀ e ∈ preds o, L e = true) → ((masks ops.toList []).getD i 0).testBit j = true → L j = true := by
  intro i
  induction i using Nat.strongRecOn with
  | _ i ih =>
    intro o ho hp hb
    obtain ⟨e, he, h⟩ := mask_bit (by simpa using ho) hb
    rcases h with rfl | ⟨hlt, hb'⟩
    · exact hp _ he
    · have hsz : e < ops.size := Nat.lt_trans hlt (Array.getElem?_eq_some_iff.1 ho).1
      exact ih e hlt ops[e] (Array.getElem?_eq_getElem hsz) (hd e _ (Array.getElem?_eq_getElem hsz) (hp e he)) hb'
theorem okDraw_spec {raw : Nat → Bool} {tm : List AV} (h : okDraw raw tm ops = true) : (∀ (j : Nat) (o : Oper), ops[j]? = some o → ∀ e ∈ preds o, e < j) ∧
    ∀ (i j : Nat) (o q : Oper), ops[j]? = some o → ops[i]? = some q → i ≠ j → bars raw tm ops j o i q = true → ((masks ops.toList []).getD (max i j) 0).testBit (min i j) = true := by
  have mem : ∀ (i : Nat) (o : Oper), ops[i]? = some o → (o, i) ∈ ops.toList.zipIdx := fun i o ho => by
    rw [List.mem_zipIdx_iff_getElem?]; simpa using ho
  simp only [okDraw, List.all_eq_true, Bool.and_eq_true, decide_eq_true_eq, Bool.or_eq_true, Bool.not_eq_true'] at h
  refine ⟨fun j o ho => (h (o, j) (mem j o ho)).1, fun i j o q ho hq hne hb => ?_⟩
  rcases (h (o, j) (mem j o ho)).2 (q, i) (mem i q hq) with (h' | h') | h'
  · exact absurd h' hne
  · rw [hb] at h'; cases h'
  · exact h'
theorem ord {raw : Nat → Bool} {tm : List AV} (hk : okDraw raw tm ops = true) (hd : Down ops L) {i j : Nat} {o q : Oper} (ho : ops[j]? = some o) (hq : ops[i]? = some q) (hne : i ≠ j) (hb : bars raw tm ops j o i q = true) (hL : L j = false) (hp : ∀ e ∈ preds o, L e = true) : (i < j → L i = true) ∧ (j < i → L i = false) := by
  have hbit := (okDraw_spec hk).2 i j o q ho hq hne hb
  constructor
  · intro hlt
    rw [Nat.max_eq_right (Nat.le_of_lt hlt), Nat.min_eq_left (Nat.le_of_lt hlt)] at hbit
    exact reach hd j o ho hp hbit
  · intro hlt
    rw [Nat.max_eq_left (Nat.le_of_lt hlt), Nat.min_eq_right (Nat.le_of_lt hlt)] at hbit
    cases hLi : L i with
    | false => rfl
    | true =>
      have := reach hd i q hq (hd i q hq hLi) hbit
      rw [hL] at this; cases this

/-- What is known of the run in the order of the text. -/
def Traced (C : Cfg) (ex : Exec) (ops : Array Oper) (l : List (AV × Option St)) (s0 : S) : Prop :=
  ∀ (i : Nat) (o : Oper), ops[i]? = some o → ∃ y, l[i]? = some y ∧ StepA C ex ops o (F ops.toList l s0 allL i) y ∧ (y.2.isSome = true → loudOp C.raw o.op = true)

theorem putS_get (s : S) (o : Oper) (y : AV × Option St) (t : Nat) (h : o.dst ≠ some t) : (putS s o y).tm.getD t .dead = s.tm.getD t .dead := by
  unfold putS
  cases hd : o.dst with
  | none => rfl
  | some d =>
    show (s.tm.set d y.1).getD t .dead = _
    rw [List.getD_eq_getElem?_getD, List.getD_eq_getElem?_getD, List.getElem?_set_ne]
    intro e; rw [hd, e] at h; exact h rfl
theorem putS_len (s : S) (o : Oper) (y : AV × Option St) : (putS s o y).tm.length = s.tm.length := by
  unfold putS
  cases hd : o.dst with
  | none => rfl
  | some d => exact List.length_set ..
theorem putS_at (s : S) (o : Oper) (y : AV × Option St) (t : Nat) (h : o.dst = some t) : (putS s o y).tm.getD t .dead = if t < s.tm.length then y.1 else .dead := by
  unfold putS
  rw [h]
  show (s.tm.set t y.1).getD t .dead = _
  rw [List.getD_eq_getElem?_getD, List.getElem?_set]
  simp only [if_true]
  split <;> rfl
theorem putS_σ (s : S) (o : Oper) (y : AV × Option St) (h : y.2 = none) : (putS s o y).σ = s.σ := by
  unfold putS
  rw [h]; rfl
theorem putS_comm (s : S) (o q : Oper) (y z : AV × Option St) (hd : ∀ d, q.dst = some d → o.dst ≠ some d) (hs : y.2 = none ∨ z.2 = none) : putS (putS s o y) q z = putS (putS s q z) o y := by
  unfold putS
  simp only
  congr 1
  · cases ho : o.dst with
    | none => rfl
    | some d =>
      cases hq : q.dst with
      | none => rfl
      | some e =>
        show (s.tm.set d y.1).set e z.1 = (s.tm.set e z.1).set d y.1
        exact List.set_comm _ _ fun h => hd e hq (by rw [ho, h])
  · rcases hs with h | h
    · rw [h]; rfl
    · rw [h]; rfl
theorem F_step (hT : Traced C ex ops l s0) {k : Nat} {q : Oper} (hq : ops[k]? = some q) : ∃ y, l[k]? = some y ∧ (y.2.isSome = true → loudOp C.raw q.op = true) ∧ ∀ L, F ops.toList l s0 L (k + 1) = if L k = true then putS (F ops.toList l s0 L k) q y else F ops.toList l s0 L k := by
  obtain ⟨y, h1, _, h3⟩ := hT k q hq
  refine ⟨y, h1, h3, fun L => ?_⟩
  have hq' : ops.toList[k]? = some q := by simpa using hq
  simp only [F, hq', h1]
  cases L k <;> rfl
theorem F_len (L : Nat → Bool) : ∀ k, (F ops.toList l s0 L k).tm.length = s0.tm.length
  | 0 => rfl
  | k + 1 => by
    simp only [F]
    split
    · rw [putS_len]; exact F_len L k
    · exact F_len L k
theorem F_ext {L' : Nat → Bool} : ∀ k, (∀ i, i < k → L i = L' i) → F ops.toList l s0 L k = F ops.toList l s0 L' k
  | 0, _ => rfl
  | k + 1, h => by
    simp only [F]
    rw [F_ext k fun i hi => h i (by omega), h k (by omega)]
theorem size_get {k : Nat} (h : k < ops.size) : ∃ q, ops[k]? = some q := ⟨ops[k], Array.getElem?_eq_getElem h⟩

/- Stores and loads of different boxes. -/
theorem writers_none {t : Tmp} (h : writers ops.toList t = []) {k : Nat} {q : Oper} (hq : ops[k]? = some q) : q.dst ≠ some t := by
  intro hd
  have hm : (q, k) ∈ ops.toList.zipIdx := by rw [List.mem_zipIdx_iff_getElem?]; simpa using hq
  have : (q, k) ∈ writers ops.toList t := List.mem_filter.2 ⟨hm, by simp [dstIs, hd]⟩
  rw [h] at this
  cases this
theorem writers_one {t : Tmp} {o : Oper} {i : Nat} (h : writers ops.toList t = [(o, i)]) : ops[i]? = some o ∧ o.dst = some t ∧ ∀ (k : Nat) (q : Oper), ops[k]? = some q → k ≠ i → q.dst ≠ some t := by
  have h0 : (o, i) ∈ writers ops.toList t := by rw [h]; exact List.mem_singleton.2 rfl
  obtain ⟨h1, h2⟩ := List.mem_filter.1 h0
  rw [List.mem_zipIdx_iff_getElem?] at h1
  refine ⟨by simpa using h1, ?_, fun k q hq hne hd => ?_⟩
  · unfold dstIs at h2
    cases hd : o.dst with
    | none => rw [hd] at h2; cases h2
    | some d => rw [hd] at h2; rw [Nat.eq_of_beq_eq_true h2]
  · have hm : (q, k) ∈ ops.toList.zipIdx := by rw [List.mem_zipIdx_iff_getElem?]; simpa using hq
    have : (q, k) ∈ writers ops.toList t := List.mem_filter.2 ⟨hm, by simp [dstIs, hd]⟩
    rw [h] at this
    have := List.mem_singleton.1 this
    cases this
    exact hne rfl
theorem unwritten (hT : Traced C ex ops l s0) {t : Tmp} {a b : Nat} (h : ∀ k q, a ≤ k → ops[k]? = some q → q.dst ≠ some t) : a ≤ b → b ≤ ops.size → (F ops.toList l s0 L b).tm.getD t .dead = (F ops.toList l s0 L a).tm.getD t .dead := by
  intro hab
  induction b with
  | zero =>
    intro _
    have h0 : a = 0 := Nat.le_zero.1 hab
    rw [h0]
  | succ b ih =>
    intro hle
    by_cases he : a = b + 1
    · rw [he]
    · obtain ⟨q, hq⟩ := size_get (ops := ops) (k := b) (by omega)
      obtain ⟨y, _, _, hF⟩ := F_step hT hq
      rw [hF]
      split
      · rw [putS_get _ _ _ _ (h b q (by omega) hq)]; exact ih (by omega) (by omega)
      · exact ih (by omega) (by omega)
theorem root_val (hT : Traced C ex ops l s0) {k : Nat} {t : Tmp} {b : Nat} (hk : k ≤ ops.size) (h : boxAt' s0.tm ops k t = some b) : (∃ o, (F ops.toList l s0 allL k).tm.getD t .dead = .ptr b o) ∨ (F ops.toList l s0 allL k).tm.getD t .dead = .tup [] ∨ (F ops.toList l s0 allL k).tm.getD t .dead = .dead := by
  unfold boxAt' at h
  split at h
  case h_2 => cases h
  rename_i u hu
  split at h <;> cases h
  rename_i off hb
  unfold rootA at hu
  split at hu
  · rename_i hw
    cases hu
    left
    refine ⟨off, ?_⟩
    rw [unwritten hT (a := 0) (fun k q _ hq => writers_none hw hq) (Nat.zero_le _) hk]
    exact hb
  · rename_i o i hw
    obtain ⟨ho, hd, hother⟩ := writers_one hw
    split at hu
    case h_2 => cases hu
    rename_i ty u' fi hop
    split at hu
    case h_2 => cases hu
    rename_i hwu hik
    cases hu
    have hik := of_decide_eq_true hik
    have hsz : i < ops.size := (Array.getElem?_eq_some_iff.1 ho).1
    rw [unwritten hT (a := i + 1) (fun k q hle hq => hother k q hq (by omega)) (by omega) hk]
    obtain ⟨y, h1, h2, _⟩ := hT i o ho
    obtain ⟨z, h3, _, hF⟩ := F_step hT ho
    rw [h1] at h3; cases h3
    rw [hF, if_pos (show allL i = true from rfl), putS_at _ _ _ _ hd]
    split
    · rcases h2 with ⟨_, h2⟩ | ⟨_, h2⟩
      · rw [hop] at h2
        have hv : aev (F ops.toList l s0 allL i).tm (.tmp u) = .ptr b off := by
          show (F ops.toList l s0 allL i).tm.getD u .dead = _
          rw [unwritten hT (a := 0) (fun k q _ hq => writers_none hwu hq) (Nat.zero_le _) (by omega)]
          exact hb
        simp only [opA, stepOp] at h2
        split at h2 <;> try cases h2
        split at h2 <;> try cases h2
        split at h2 <;> try cases h2
        rw [hv] at h2
        cases h2
        exact .inl ⟨_, rfl⟩
      · rw [h2]; exact .inr (.inl rfl)
    · exact .inr (.inr rfl)
  · cases hu
theorem not_loud_load {raw : Nat → Bool} {o : Oper} {t : TypeId} {a : Operand} (h : o.op = .load t a) : loudOp raw o.op = false := by rw [h]; rfl
theorem apart_loud {tm : List AV} {j i : Nat} {o q : Oper} (hq : loudOp C.raw q.op = true) (ho : ∀ t a b, o.op = .load t (.tmp a) → boxAt' tm ops j a ≠ some b) : apartA tm ops j o i q = false := by
  unfold apartA
  rw [Bool.or_eq_false_iff]
  constructor
  · unfold apart1
    split
    · rename_i h1 h2
      rw [not_loud_load h2] at hq; cases hq
    · rfl
  · unfold apart1
    split
    · rename_i t a v t' b h1 h2
      split
      · rename_i x y hx hy
        exact absurd hy (ho _ _ _ h2)
      · rfl
    · rfl
theorem apart_spec {tm : List AV} {j i : Nat} {o q : Oper} {t : TypeId} {a : Tmp} (ho : o.op = .load t (.tmp a)) (h : apartA tm ops j o i q = true) : ∃ t' c v x y, q.op = .store t' (.tmp c) v ∧ boxAt' tm ops i c = some x ∧ boxAt' tm ops j a = some y ∧ x ≠ y := by
  unfold apartA at h
  rw [Bool.or_eq_true] at h
  rcases h with h | h
  · unfold apart1 at h
    split at h
    · rename_i h1 _
      rw [ho] at h1; cases h1
    · cases h
  · unfold apart1 at h
    split at h
    · rename_i t1 a1 v1 t2 b2 h1 h2
      rw [ho] at h2; cases h2
      split at h
      · rename_i x y hx hy
        exact ⟨_, _, _, x, y, h1, hx, hy, fun he => by rw [he] at h; simp at h⟩
      · cases h
    · cases h
theorem store_box_only {s : S} {q : Oper} {t : TypeId} {c : Tmp} {v : Operand} {x : AV} {σ' : St} (hq : q.op = .store t (.tmp c) v) (h : opA C ex s.tm s.σ q.op = some (x, some σ')) : (∃ b o, s.tm.getD c .dead = .ptr b o ∧ ∀ b', b' ≠ b → σ'.bx[b']? = s.σ.bx[b']?) ∨ ∃ r i o ep, s.tm.getD c .dead = .rpt r i o ep := by
  rw [hq] at h
  simp only [opA, stepOp] at h
  split at h <;> try cases h
  · rename_i d b o hd hc
    split at h <;> try cases h
    split at h <;> cases h
    exact .inl ⟨b, o, hc, fun b' hne => by simp only [List.getElem?_set_ne (Ne.symm hne)]⟩
  · rename_i d r i o ep hd hc
    exact .inr ⟨r, i, o, ep, hc⟩

variable (hT : Traced C ex ops l s0) (hk : okDraw C.raw s0.tm ops = true) (hd : Down ops L) {j : Nat} {o : Oper} (ho : ops[j]? = some o) (hL : L j = false) (hp : ∀ e ∈ preds o, L e = true)
include hT hk hd ho hL hp
theorem slot_same {t : Nat} (ht : t ∈ looks ops o) : (F ops.toList l s0 L ops.size).tm.getD t .dead = (F ops.toList l s0 allL j).tm.getD t .dead := by
  have hj : j < ops.size := (Array.getElem?_eq_some_iff.1 ho).1
  have bar : ∀ {k : Nat} {q : Oper}, ops[k]? = some q → k ≠ j → q.dst = some t → (k < j → L k = true) ∧ (j < k → L k = false) := fun hq hne hdst =>
    ord hk hd ho hq hne (by simp [bars, hdst, ht]) hL hp
  have low : ∀ k, k ≤ j → (F ops.toList l s0 L k).tm.getD t .dead = (F ops.toList l s0 allL k).tm.getD t .dead := by
    intro k
    induction k with
    | zero => intro _; rfl
    | succ k ih =>
      intro hle
      obtain ⟨q, hq⟩ := size_get (ops := ops) (k := k) (by omega)
      obtain ⟨y, _, _, hF⟩ := F_step hT hq
      rw [hF L, hF allL, if_pos (show allL k = true from rfl)]
      by_cases hdst : q.dst = some t
      · rw [if_pos ((bar hq (by omega) hdst).1 (by omega)), putS_at _ _ _ _ hdst, putS_at _ _ _ _ hdst, F_len, F_len]
      · rw [putS_get _ _ _ _ hdst]
        split
        · rw [putS_get _ _ _ _ hdst]; exact ih (by omega)
        · exact ih (by omega)
  have high : ∀ m, j + m ≤ ops.size → (F ops.toList l s0 L (j + m)).tm.getD t .dead = (F ops.toList l s0 L j).tm.getD t .dead := by
    intro m
    induction m with
    | zero => intro _; rfl
    | succ m ih =>
      intro hle
      obtain ⟨q, hq⟩ := size_get (ops := ops) (k := j + m) (by omega)
      obtain ⟨y, _, _, hF⟩ := F_step hT hq
      show (F ops.toList l s0 L (j + m + 1)).tm.getD t .dead = _
      rw [hF L]
      split
      · rename_i hLm
        have hm : m ≠ 0 := fun h => by subst h; rw [Nat.add_zero, hL] at hLm; cases hLm
        rw [putS_get _ _ _ _ fun hdst => by have := (bar hq (by omega) hdst).2 (by omega); rw [this] at hLm; cases hLm]
        exact ih (by omega)
      · exact ih (by omega)
  have := high (ops.size - j) (by omega)
  rw [show j + (ops.size - j) = ops.size by omega] at this
  rw [this, low j (Nat.le_refl _)]
theorem store_same (hr : (readsOp o.op || loudOp C.raw o.op) = true) (hna : ∀ t a b, o.op = .load t (.tmp a) → boxAt' s0.tm ops j a ≠ some b) : (F ops.toList l s0 L ops.size).σ = (F ops.toList l s0 allL j).σ := by
  have hj : j < ops.size := (Array.getElem?_eq_some_iff.1 ho).1
  have bar : ∀ {k : Nat} {q : Oper}, ops[k]? = some q → k ≠ j → loudOp C.raw q.op = true → (k < j → L k = true) ∧ (j < k → L k = false) := fun hq hne hl =>
    ord hk hd ho hq hne (by simp only [bars, clash, hl, hr, apart_loud hl hna, Bool.and_true, Bool.or_true, Bool.not_false]) hL hp
  have low : ∀ k, k ≤ j → (F ops.toList l s0 L k).σ = (F ops.toList l s0 allL k).σ := by
    intro k
    induction k with
    | zero => intro _; rfl
    | succ k ih =>
      intro hle
      obtain ⟨q, hq⟩ := size_get (ops := ops) (k := k) (by omega)
      obtain ⟨y, _, hl, hF⟩ := F_step hT hq
      rw [hF L, hF allL, if_pos (show allL k = true from rfl)]
      cases hy : y.2 with
      | none =>
        rw [putS_σ _ _ _ hy]
        split
        · rw [putS_σ _ _ _ hy]; exact ih (by omega)
        · exact ih (by omega)
      | some σ' =>
        rw [if_pos ((bar hq (by omega) (hl (by rw [hy]; rfl))).1 (by omega))]
        simp [putS, hy, turn]
  have high : ∀ m, j + m ≤ ops.size → (F ops.toList l s0 L (j + m)).σ = (F ops.toList l s0 L j).σ := by
    intro m
    induction m with
    | zero => intro _; rfl
    | succ m ih =>
      intro hle
      obtain ⟨q, hq⟩ := size_get (ops := ops) (k := j + m) (by omega)
      obtain ⟨y, _, hl, hF⟩ := F_step hT hq
      show (F ops.toList l s0 L (j + m + 1)).σ = _
      rw [hF L]
      split
      · rename_i hLm
        have hm : m ≠ 0 := fun h => by subst h; rw [Nat.add_zero, hL] at hLm; cases hLm
        cases hy : y.2 with
        | none => rw [putS_σ _ _ _ hy]; exact ih (by omega)
        | some σ' =>
          have := (bar hq (by omega) (hl (by rw [hy]; rfl))).2 (by omega)
          rw [this] at hLm; cases hLm
      · exact ih (by omega)
  have := high (ops.size - j) (by omega)
  rw [show j + (ops.size - j) = ops.size by omega] at this
  rw [this, low j (Nat.le_refl _)]
theorem load_same {t : TypeId} {a : Tmp} {b' : Nat} (hop : o.op = .load t (.tmp a)) (hbx : boxAt' s0.tm ops j a = some b') : (F ops.toList l s0 L ops.size).σ.bx[b']? = (F ops.toList l s0 allL j).σ.bx[b']? := by
  have hj : j < ops.size := (Array.getElem?_eq_some_iff.1 ho).1
  have hrd : readsOp o.op = true := by rw [hop]; rfl
  -- a loud operation: in order with this one, or it leaves the box alone
  have dich : ∀ {k : Nat} {q : Oper} {y : AV × Option St} {σ' : St}, ops[k]? = some q → l[k]? = some y → k ≠ j → y.2 = some σ' → loudOp C.raw q.op = true →
      ((k < j → L k = true) ∧ (j < k → L k = false)) ∨ σ'.bx[b']? = (F ops.toList l s0 allL k).σ.bx[b']? := by
    intro k q y σ' hq hy hne hy2 hl
    cases hap : apartA s0.tm ops j o k q with
    | false => exact .inl (ord hk hd ho hq hne (by simp only [bars, clash, hl, hrd, hap, Bool.and_true, Bool.true_or, Bool.or_true, Bool.not_false]) hL hp)
    | true =>
      right
      obtain ⟨t', c, v, x, y', h1, h2, h3, h4⟩ := apart_spec hop hap
      rw [hbx] at h3; cases h3
      obtain ⟨z, hz, hstep, _⟩ := hT k q hq
      rw [hy] at hz; cases hz
      obtain ⟨y1, y2⟩ := y
      simp only at hy2
      subst hy2
      rcases hstep with ⟨_, hs⟩ | ⟨_, hs⟩
      · have hks : k ≤ ops.size := Nat.le_of_lt (Array.getElem?_eq_some_iff.1 hq).1
        rcases store_box_only h1 hs with ⟨b, off, g1, g2⟩ | ⟨r', i', o', ep', g1⟩
        · rcases root_val hT hks h2 with ⟨off', g3⟩ | g3 | g3
          · rw [g3] at g1; cases g1
            exact g2 b' (Ne.symm h4)
          · rw [g3] at g1; cases g1
          · rw [g3] at g1; cases g1
        · rcases root_val hT hks h2 with ⟨off', g3⟩ | g3 | g3
          · rw [g3] at g1; cases g1
          · rw [g3] at g1; cases g1
          · rw [g3] at g1; cases g1
      · cases hs
  have low : ∀ k, k ≤ j → (F ops.toList l s0 L k).σ.bx[b']? = (F ops.toList l s0 allL k).σ.bx[b']? := by
    intro k
    induction k with
    | zero => intro _; rfl
    | succ k ih =>
      intro hle
      obtain ⟨q, hq⟩ := size_get (ops := ops) (k := k) (by omega)
      obtain ⟨y, hyl, hl, hF⟩ := F_step hT hq
      rw [hF L, hF allL, if_pos (show allL k = true from rfl)]
      cases hy : y.2 with
      | none =>
        rw [putS_σ _ _ _ hy]
        split
        · rw [putS_σ _ _ _ hy]; exact ih (by omega)
        · exact ih (by omega)
      | some σ' =>
        rcases dich hq hyl (by omega) hy (hl (by rw [hy]; rfl)) with h | h
        · rw [if_pos (h.1 (by omega))]
          simp [putS, hy, turn]
        · have e : ∀ s : S, (putS s q y).σ = σ' := fun s => by simp [putS, hy, turn]
          rw [e, h]
          split
          · rw [e, h]
          · exact ih (by omega)
  have high : ∀ m, j + m ≤ ops.size → (F ops.toList l s0 L (j + m)).σ.bx[b']? = (F ops.toList l s0 L j).σ.bx[b']? := by
    intro m
    induction m with
    | zero => intro _; rfl
    | succ m ih =>
      intro hle
      obtain ⟨q, hq⟩ := size_get (ops := ops) (k := j + m) (by omega)
      obtain ⟨y, hyl, hl, hF⟩ := F_step hT hq
      show (F ops.toList l s0 L (j + m + 1)).σ.bx[b']? = _
      rw [hF L]
      split
      · rename_i hLm
        have hm : m ≠ 0 := fun h => by subst h; rw [Nat.add_zero, hL] at hLm; cases hLm
        cases hy : y.2 with
        | none => rw [putS_σ _ _ _ hy]; exact ih (by omega)
        | some σ' =>
          have hlq := hl (by rw [hy]; rfl)
          rcases dich hq hyl (by omega) hy hlq with h | h
          · have := h.2 (by omega)
            rw [this] at hLm; cases hLm
          · have e : (putS (F ops.toList l s0 L (j + m)) q y).σ = σ' := by simp [putS, hy, turn]
            rw [e, h]
            -- between the two nothing touches the box
            have hq' : ∀ n, j + n ≤ j + m → (F ops.toList l s0 allL (j + n)).σ.bx[b']? = (F ops.toList l s0 allL j).σ.bx[b']? := by
              intro n
              induction n with
              | zero => intro _; rfl
              | succ n ihn =>
                intro hn
                obtain ⟨q2, hq2⟩ := size_get (ops := ops) (k := j + n) (by omega)
                obtain ⟨y2, hy2l, hl2, hF2⟩ := F_step hT hq2
                show (F ops.toList l s0 allL (j + n + 1)).σ.bx[b']? = _
                rw [hF2 allL, if_pos (show allL (j + n) = true from rfl)]
                cases hy2 : y2.2 with
                | none => rw [putS_σ _ _ _ hy2]; exact ihn (by omega)
                | some σ2 =>
                  have hl2q := hl2 (by rw [hy2]; rfl)
                  by_cases hn0 : n = 0
                  · subst hn0
                    rw [Nat.add_zero] at hq2
                    rw [ho] at hq2; cases hq2
                    rw [hop] at hl2q; cases hl2q
                  rcases dich hq2 hy2l (by omega) hy2 hl2q with h' | h'
                  · -- it lies ahead of the other loud one, which has come up
                    exfalso
                    have hno := h'.2 (by omega)
                    have hna2 : ∀ t a b, q.op = .load t (.tmp a) → boxAt' s0.tm ops (j + m) a ≠ some b := fun t a b hh => by rw [hh] at hlq; cases hlq
                    have hb : bars C.raw s0.tm ops (j + m) q (j + n) q2 = true := by
                      simp only [bars, clash, hlq, hl2q, apart_loud hl2q hna2, Bool.and_true, Bool.or_true, Bool.not_false]
                    have hbit := (okDraw_spec hk).2 (j + n) (j + m) q q2 hq hq2 (by omega) hb
                    rw [Nat.max_eq_right (by omega), Nat.min_eq_left (by omega)] at hbit
                    have := reach hd (j + m) q hq (hd (j + m) q hq hLm) hbit
                    rw [hno] at this; cases this
                  · have e2 : (putS (F ops.toList l s0 allL (j + n)) q2 y2).σ = σ2 := by simp [putS, hy2, turn]
                    rw [e2, h']
                    exact ihn (by omega)
            rw [hq' m (Nat.le_refl _), low j (Nat.le_refl _)]
      · exact ih (by omega)
  have := high (ops.size - j) (by omega)
  rw [show j + (ops.size - j) = ops.size by omega] at this
  rw [this, low j (Nat.le_refl _)]
/-- The next operation, whichever it is, does what it does in the order of the text. -/
theorem step_any : ∃ y, StepA C ex ops o (F ops.toList l s0 L ops.size) y ∧ F ops.toList l s0 (fun i => decide (i = j) || L i) ops.size = putS (F ops.toList l s0 L ops.size) o y := by
  have hj : j < ops.size := (Array.getElem?_eq_some_iff.1 ho).1
  obtain ⟨y, hy1, hy2, hy3⟩ := hT j o ho
  refine ⟨y, ?_, ?_⟩
  · have hw := want_congr (ops := ops) (o := o) fun t ht => slot_same hT hk hd ho hL hp ht
    have hops := op_congr (C := C) (ex := ex) (op := o.op) (σ := (F ops.toList l s0 L ops.size).σ) (aev_congr (xs := o.op.operands.toList) fun t ht => slot_same hT hk hd ho hL hp (t := t) (by
      simp only [looks, List.mem_append]; exact .inl (.inr ht)))
    rcases hy2 with ⟨h1, h2⟩ | ⟨h1, h2⟩
    · refine .inl ⟨hw.trans h1, ?_⟩
      rw [hops]
      by_cases hr : (readsOp o.op || loudOp C.raw o.op) = true
      · by_cases hld : ∃ t a b, o.op = .load t (.tmp a) ∧ boxAt' s0.tm ops j a = some b
        · obtain ⟨t, a, b, e1, e2⟩ := hld
          have hb := load_same hT hk hd ho hL hp e1 e2
          rw [e1] at h2 ⊢
          have hjs : j ≤ ops.size := Nat.le_of_lt hj
          simp only [opA, stepOp] at h2 ⊢
          split at h2 <;> try cases h2
          rename_i d hd'
          have hv : aev (F ops.toList l s0 allL j).tm (.tmp a) = (F ops.toList l s0 allL j).tm.getD a .dead := rfl
          rw [hv] at h2 ⊢
          rcases root_val hT hjs e2 with ⟨off, g⟩ | g | g
          · rw [g] at h2 ⊢
            simp only [loadA] at h2 ⊢
            rw [hb]; exact h2
          · rw [g] at h2; cases h2
          · rw [g] at h2; cases h2
        · rw [store_same hT hk hd ho hL hp hr (fun t a b h1 h2' => hld ⟨t, a, b, h1, h2'⟩)]; exact h2
      · simp only [Bool.not_eq_true, Bool.or_eq_false_iff] at hr
        obtain ⟨x, z⟩ := y
        cases z with
        | none => exact op_still hr.1 hr.2 h2
        | some σ' => have := hy3 rfl; rw [hr.2] at this; cases this
    · exact .inr ⟨hw.trans h1, h2⟩
  · have eqj : ∀ k, k ≠ j → (decide (k = j) || L k) = L k := fun k hk => by simp [hk]
    have low : F ops.toList l s0 (fun i => decide (i = j) || L i) j = F ops.toList l s0 L j := F_ext j fun i hi => eqj i (by omega)
    have high : ∀ m, j + 1 + m ≤ ops.size → F ops.toList l s0 (fun i => decide (i = j) || L i) (j + 1 + m) = putS (F ops.toList l s0 L (j + 1 + m)) o y := by
      intro m
      induction m with
      | zero =>
        intro _
        obtain ⟨z, hz, _, hF⟩ := F_step hT ho
        rw [hy1] at hz; cases hz
        show F _ _ _ _ (j + 1) = putS (F _ _ _ _ (j + 1)) o y
        rw [hF, hF, if_pos (by simp), low, hL]
        simp
      | succ m ih =>
        intro hle
        obtain ⟨q, hq⟩ := size_get (ops := ops) (k := j + 1 + m) (by omega)
        obtain ⟨z, _, hl, hF⟩ := F_step hT hq
        show F _ _ _ _ (j + 1 + m + 1) = putS (F _ _ _ _ (j + 1 + m + 1)) o y
        rw [hF, hF]
        have e := eqj (j + 1 + m) (by omega)
        rw [e, ih (by omega)]
        split
        · rename_i hLm
          refine putS_comm _ _ _ _ _ (fun d hqd hod => ?_) ?_
          · have := (ord hk hd ho hq (by omega) (by simp [bars, hqd, looks, hod]) hL hp).2 (by omega)
            rw [this] at hLm; cases hLm
          · cases hy : y.2 with
            | none => exact .inl rfl
            | some σ1 =>
              cases hz : z.2 with
              | none => exact .inr rfl
              | some σ2 =>
                have := (ord hk hd ho hq (by omega) (by
                  have hlo := hy3 (by rw [hy]; rfl)
                  have hlq := hl (by rw [hz]; rfl)
                  simp only [bars, clash, hlq, hlo, apart_loud (tm := s0.tm) (ops := ops) (j := j) (i := j + 1 + m) (o := o) hlq (fun t a b hh => by rw [hh] at hlo; cases hlo), Bool.or_true, Bool.and_true, Bool.not_false]) hL hp).2 (by omega)
                rw [this] at hLm; cases hLm
        · rfl
    have := high (ops.size - (j + 1)) (by omega)
    rw [show j + 1 + (ops.size - (j + 1)) = ops.size by omega] at this
    exact this
end
end Go.AmYtmodnblfcikjlaaGreat
namespace Go.AmYtmodnblfcikjlaaGreat
open Go Go.RowKit

section
variable {P : Program} {C : Cfg} {Γ : Gh} {σ : St} {w : World} {ops : Array Oper} {ex : Exec} {l : List (AV × Option St)} {s0 : S}

theorem listed_all {listed : Array Bool} (h : listed.toList.countP (fun b => !b) = 0) : ∀ i, i < listed.size → listed.getD i false = true := by
  intro i hi
  rw [List.countP_eq_zero] at h
  have := h listed[i] (by simp)
  simp only [Bool.not_eq_true', Bool.not_eq_false] at this
  rw [Array.getD_eq_getD_getElem?, Array.getElem?_eq_getElem hi]
  simpa using this
theorem any_ok (hC : CfgOk P C) (hx : CodeOk P ex) (hT : Traced C ex ops l s0) (hk : okDraw C.raw s0.tm ops = true) {Q : Exit → Act → World → Prop} : ∀ (fuel : Nat) (listed : Array Bool) (Γ : Gh) (w : World) (a : Act), listed.size = ops.size → listed.toList.countP (fun b => !b) = fuel → Down ops (fun i => listed.getD i false) →
    Inv Γ (F ops.toList l s0 (fun i => listed.getD i false) ops.size).σ w → TmRep Γ (F ops.toList l s0 (fun i => listed.getD i false) ops.size).tm a →
    (∀ Γ' w' a', Ext Γ w Γ' w' → Inv Γ' (F ops.toList l s0 allL ops.size).σ w' → TmRep Γ' (F ops.toList l s0 allL ops.size).tm a' → Keeps (F ops.toList l s0 (fun i => listed.getD i false) ops.size).σ (F ops.toList l s0 allL ops.size).σ → a'.defers = a.defers → Q .normal a' w') →
    wpAny P .any ops Q fuel listed a w := by
  intro fuel
  induction fuel with
  | zero =>
    intro listed Γ w a hsz hct hd hi ht hq
    have hall := listed_all hct
    have hnil : Region.ready .any ops listed = [] := by
      apply List.eq_nil_iff_forall_not_mem.2
      intro j hj
      obtain ⟨h1, o, ho, _⟩ := mem_ready.1 hj
      have hlt : j < listed.size := by rw [hsz]; exact (Array.getElem?_eq_some_iff.1 ho).1
      have h2 := hall j hlt
      rw [Array.getD_eq_getD_getElem?, Array.getElem?_eq_getElem hlt] at h1 h2
      simp at h1 h2
      rw [h1] at h2; cases h2
    have hF : F ops.toList l s0 (fun i => listed.getD i false) ops.size = F ops.toList l s0 allL ops.size := F_ext _ fun i hi => hall i (by rw [hsz]; exact hi)
    rw [hF] at hi ht
    exact ⟨hnil, hq Γ w a (.refl _ _) hi ht (by rw [hF]; exact .refl _) rfl⟩
  | succ fuel ih =>
    intro listed Γ w a hsz hct hd hi ht hq
    refine ⟨fun hnil => ?_, fun j hj => ?_⟩
    · exfalso
      -- the least that has not come up is ready
      have hex : ∃ i, i < listed.size ∧ listed.getD i false = false := by
        apply Classical.byContradiction
        intro hno
        have : listed.toList.countP (fun b => !b) = 0 := by
          rw [List.countP_eq_zero]
          intro b hb
          obtain ⟨i, hi', rfl⟩ := List.getElem_of_mem hb
          intro hb'
          refine hno ⟨i, by simpa using hi', ?_⟩
          rw [Array.getD_eq_getD_getElem?, Array.getElem?_eq_getElem (by simpa using hi')]
          simpa using hb'
        rw [hct] at this; cases this
      obtain ⟨i0, h0, h1⟩ := hex
      have key : ∀ i, i < listed.size → listed.getD i false = false → False := by
        intro i
        induction i using Nat.strongRecOn with
        | _ i ih' =>
          intro hi' hf
          obtain ⟨o, ho⟩ := size_get (ops := ops) (k := i) (by rw [← hsz]; exact hi')
          have hr : i ∈ Region.ready .any ops listed := by
            refine mem_ready.2 ⟨?_, o, ho, fun e he hb => ?_⟩
            · rw [Array.getD_eq_getD_getElem?, Array.getElem?_eq_getElem hi'] at hf ⊢
              simpa using hf
            · have hep : e.on ∈ preds o := List.mem_map.2 ⟨e, List.mem_filter.2 ⟨by simpa using he, hb⟩, rfl⟩
              have hlt := (okDraw_spec hk).1 i o ho e.on hep
              cases hc : listed.getD e.on false with
              | true => rfl
              | false => exact (ih' e.on hlt (by omega) hc).elim
          rw [hnil] at hr; cases hr
      exact key i0 h0 h1
    · obtain ⟨h1, o, ho, hall⟩ := mem_ready.1 hj
      have hjn : j < ops.size := (Array.getElem?_eq_some_iff.1 ho).1
      have hL : listed.getD j false = false := by
        rw [Array.getD_eq_getD_getElem?, Array.getElem?_eq_getElem (by rw [hsz]; exact hjn)] at h1 ⊢
        simpa using h1
      have hp : ∀ e ∈ preds o, listed.getD e false = true := fun e he => by
        obtain ⟨ed, hed, rfl⟩ := List.mem_map.1 he
        have := List.mem_filter.1 hed
        exact hall ed (by simpa using this.1) this.2
      obtain ⟨y, hy, hFn⟩ := step_any hT hk hd ho hL hp
      have hset : (fun i => (listed.setIfInBounds j true).getD i false) = fun i => decide (i = j) || listed.getD i false := by
        funext i
        by_cases hij : i = j
        · subst hij
          rw [Array.getD_eq_getD_getElem?, Array.getElem?_setIfInBounds_self_of_lt (by rw [hsz]; exact hjn)]
          simp
        · rw [getD_set_ne false (Ne.symm hij)]
          simp [hij]
      have hsz' : (listed.setIfInBounds j true).size = ops.size := by rw [Array.size_setIfInBounds, hsz]
      have hct' : (listed.setIfInBounds j true).toList.countP (fun b => !b) = fuel := by
        have hjl : j < listed.toList.length := by simp [hsz, hjn]
        rw [Array.toList_setIfInBounds, List.countP_set (h := hjl), hct]
        have : listed.toList[j] = false := by
          rw [Array.getD_eq_getD_getElem?, Array.getElem?_eq_getElem (by rw [hsz]; exact hjn)] at hL
          simpa using hL
        rw [this]; simp
      have hd' : Down ops (fun i => (listed.setIfInBounds j true).getD i false) := by
        rw [hset]
        intro i q hq' hi' e he
        simp only [Bool.or_eq_true, decide_eq_true_eq] at hi' ⊢
        rcases hi' with rfl | hi'
        · rw [ho] at hq'; cases hq'; exact .inr (hp e he)
        · exact .inr (hd i q hq' hi' e he)
      unfold wpOp
      rw [ho]
      simp only
      have next : ∀ Γ' w' u, Ext Γ w Γ' w' → Inv Γ' (turn (F ops.toList l s0 (fun i => listed.getD i false) ops.size).σ y.2) w' → Rep Γ' y.1 u → Keeps (F ops.toList l s0 (fun i => listed.getD i false) ops.size).σ (turn (F ops.toList l s0 (fun i => listed.getD i false) ops.size).σ y.2) →
          wpAny P .any ops Q fuel (listed.setIfInBounds j true) (a.put o.dst u) w' := by
        intro Γ' w' u e1 e2 e3 e4
        have hF' : F ops.toList l s0 (fun i => (listed.setIfInBounds j true).getD i false) ops.size = putS (F ops.toList l s0 (fun i => listed.getD i false) ops.size) o y := by rw [hset]; exact hFn
        refine ih (listed.setIfInBounds j true) Γ' w' (a.put o.dst u) hsz' hct' hd' ?_ ?_ ?_
        · rw [hF']; exact e2
        · rw [hF']; exact TmRep.put (RepL.mono e1.le ht) o.dst e3
        · intro Γ2 w2 a2 g1 g2 g3 g4 g5
          rw [hF'] at g4
          exact hq Γ2 w2 a2 (e1.trans g1) g2 g3 (e4.trans g4) (by rw [g5]; cases hd : o.dst <;> rfl)
      rcases hy with ⟨hw, hop⟩ | ⟨hw, rfl⟩
      · rw [if_pos (want_ok ht hw)]
        left
        refine op_ok hC hx hi ht hop _ _ ?_
        intro u w' Γ' e1 e2 e3 e4
        exact next Γ' w' u e1 e2 e3 e4
      · rw [if_neg (by rw [want_ok ht hw]; exact Bool.false_ne_true)]
        exact next Γ w undef (.refl _ _) hi (.tup [] [] rfl fun i x u h => by simp at h) (.refl _)
theorem region_ok (hC : CfgOk P C) (hx : CodeOk P ex) {id : Nat} {draw : Bool} {s s' : S} (hk : gateA C.raw s.tm ops draw = true) (h : runOps C ex ops draw ops.toList s = some s') {a : Act} {Q : Exit → Act → World → Prop} (hi : Inv Γ s.σ w) (ht : TmRep Γ s.tm a)
    (hq : ∀ Γ' w' a', Ext Γ w Γ' w' → Inv Γ' s'.σ w' → TmRep Γ' s'.tm a' → Keeps s.σ s'.σ → a'.defers = a.defers → Q .normal a' w') : (Code.region id ops draw).wp P Q a w := by
  cases draw with
  | false =>
    refine wp_region ?_
    have := ops_ok hC hx (ops := ops) ops.toList 0 s Γ w a (by simp) h hi ht hq
    rw [Array.length_toList, ← List.range_eq_range'] at this
    exact this
  | true =>
    obtain ⟨l, h1, h2, h3⟩ := run_trace ops.toList s s' h
    have hT : Traced C ex ops l s := fun i o ho => h3 i o (by simpa using ho)
    rw [Array.length_toList] at h2
    have hk : okDraw C.raw s.tm ops = true := hk
    have hF0 : ∀ k, F ops.toList l s (fun i => (Array.replicate ops.size false).getD i false) k = s := by
      intro k
      induction k with
      | zero => rfl
      | succ k ih =>
        simp only [F]
        have : (Array.replicate ops.size false).getD k false = false := by
          rw [Array.getD_eq_getD_getElem?, Array.getElem?_replicate]; split <;> rfl
        rw [this]
        split
        · rename_i hf; cases hf
        · exact ih
    refine wp_region_any hC.mixed ?_
    refine any_ok hC hx hT hk ops.size _ Γ _ a (by simp) (by rw [Array.toList_replicate, List.countP_replicate]; simp) ?_ ?_ ?_ ?_
    · intro i q hq' hi'
      exfalso
      have : (Array.replicate ops.size false).getD i false = false := by
        rw [Array.getD_eq_getD_getElem?, Array.getElem?_replicate]; split <;> rfl
      have hi' : (Array.replicate ops.size false).getD i false = true := hi'
      rw [this] at hi'; cases hi'
    · rw [hF0]; exact hi.drew
    · rw [hF0]; exact ht
    · intro Γ' w' a' g1 g2 g3 g4 g5
      rw [hF0] at g4
      rw [h2] at g2 g3 g4
      exact hq Γ' w' a' ((Ext.drew Γ w).trans g1) g2 g3 g4 g5

/-- What is to be shown of one code. -/
def COk (P : Program) (ex : Exec) (c : Code) : Prop :=
  ∀ s e s', drawsOk c = true → ex c s = some (e, s') → ∀ Γ w a, Inv Γ s.σ w → TmRep Γ s.tm a → a.defers = [] →
    c.wp P (fun e' a' w' => e' = e.toExit ∧ a'.defers = [] ∧ ∃ Γ', Ext Γ w Γ' w' ∧ Inv Γ' s'.σ w' ∧ TmRep Γ' s'.tm a' ∧ Keeps s.σ s'.σ) a w

theorem pur1_ok {s : S} {a : Act} (hi : Inv Γ s.σ w) (ht : TmRep Γ s.tm a) (t : Nat) :
    ∃ Γ', Ext Γ w Γ' w ∧ Inv Γ' (pur1 s t).σ w ∧ TmRep Γ' (pur1 s t).tm a ∧ Keeps s.σ (pur1 s t).σ := by
  unfold pur1
  cases hr : rsA (s.tm.getD t .dead) with
  | nil => exact ⟨Γ, .refl _ _, hi, ht, .refl _⟩
  | cons r l =>
    obtain ⟨m, m1, m2, m3⟩ := freeze_all (r :: l) hi ((r :: l) ++ s.σ.wrr)
    refine ⟨_, mem_ext m1 w, m2, ?_, keeps_frz (r :: l)⟩
    have hl : Le Γ { Γ with mem := m } := (mem_ext m1 w).le
    have hp := purA_ok hi hl (fun q hq => m3 q (by rw [← hr]; exact hq)) (ht.get t)
    have ht' : RepL { Γ with mem := m } s.tm a.tmps.toList := RepL.mono hl ht
    refine ⟨by rw [List.length_set]; exact ht'.len, fun i x u hx hu => ?_⟩
    by_cases hit : t = i
    · subst hit
      rw [List.getElem?_set_self (by have := getElem?_lt hx; simpa using this)] at hx
      cases hx
      have : a.tmps.getD t undef = u := by
        rw [Array.getD_eq_getD_getElem?, ← Array.getElem?_toList, hu]; rfl
      rw [this] at hp
      exact hp
    · rw [List.getElem?_set_ne hit] at hx
      exact ht'.rep i x u hx hu
theorem purS_ok {a : Act} : ∀ (ts : List Nat) {s : S} {Γ : Gh}, Inv Γ s.σ w → TmRep Γ s.tm a →
    ∃ Γ', Ext Γ w Γ' w ∧ Inv Γ' (purS ts s).σ w ∧ TmRep Γ' (purS ts s).tm a ∧ Keeps s.σ (purS ts s).σ
  | [], s, Γ, hi, ht => ⟨Γ, .refl _ _, hi, ht, .refl _⟩
  | t :: ts, s, Γ, hi, ht => by
    obtain ⟨Γ1, a1, a2, a3, a4⟩ := pur1_ok hi ht t
    obtain ⟨Γ2, b1, b2, b3, b4⟩ := purS_ok ts a2 a3
    exact ⟨Γ2, a1.trans b1, b2, b3, a4.trans b4⟩
theorem loop_ok {b : Code} {n : Nat} (hbody : ∀ m, m < n → COk P (exec C m) b) {s : S} {e : Ex} {s' : S} (hk : drawsOk b = true) (h : exec C n (.loop b) s = some (e, s')) {a : Act} (hi : Inv Γ s.σ w) (ht : TmRep Γ s.tm a) (hdf : a.defers = []) :
    (Code.loop b).wp P (fun e' a' w' => e' = e.toExit ∧ a'.defers = [] ∧ ∃ Γ', Ext Γ w Γ' w' ∧ Inv Γ' s'.σ w' ∧ TmRep Γ' s'.tm a' ∧ Keeps s.σ s'.σ) a w := by
  let J : Nat → Act → World → Prop := fun m a1 w1 => m ≤ n ∧ ∃ s1 Γ1, exec C m (.loop b) s1 = some (e, s') ∧ Ext Γ w Γ1 w1 ∧ Inv Γ1 s1.σ w1 ∧ TmRep Γ1 s1.tm a1 ∧ a1.defers = [] ∧ Keeps s.σ s1.σ
  have hleast : ∀ a1 w1, (∃ m, J m a1 w1) → ∃ m, J m a1 w1 ∧ ∀ k, J k a1 w1 → m ≤ k := by
    rintro a1 w1 ⟨m, hm⟩
    induction m using Nat.strongRecOn with
    | _ m ih =>
      by_cases hk : ∃ k, k < m ∧ J k a1 w1
      · obtain ⟨k, hk1, hk2⟩ := hk
        exact ih k hk1 hk2
      · exact ⟨m, hm, fun k hJ => Nat.le_of_not_lt fun hlt => hk ⟨k, hlt, hJ⟩⟩
  classical
  let μ : Act → World → Nat := fun a1 w1 => if h : ∃ m, J m a1 w1 then Classical.choose (hleast a1 w1 h) else 0
  have hμ : ∀ a1 w1, (h : ∃ m, J m a1 w1) → J (μ a1 w1) a1 w1 ∧ ∀ k, J k a1 w1 → μ a1 w1 ≤ k := by
    intro a1 w1 h
    have : μ a1 w1 = Classical.choose (hleast a1 w1 h) := dif_pos h
    rw [this]
    exact Classical.choose_spec (hleast a1 w1 h)
  refine wp_loop (fun a1 w1 => ∃ m, J m a1 w1) μ ⟨n, Nat.le_refl _, s, Γ, h, .refl _ _, hi, ht, hdf, .refl _⟩ ?_
  intro a1 w1 hJ
  obtain ⟨hJ1, _⟩ := hμ a1 w1 hJ
  obtain ⟨hmn, s1, Γ1, h1, h2, h3, h4, h5, h6⟩ := hJ1
  generalize hm : μ a1 w1 = m at *
  cases m with
  | zero => simp [exec] at h1
  | succ m =>
    simp only [exec, stepC] at h1
    obtain ⟨Γp, p1, p2, p3, p4⟩ := purS_ok (C.pur b) h3 h4
    have run : ∀ e1 s2, exec C m b (purS (C.pur b) s1) = some (e1, s2) → (e1 = .normal ∧ exec C m (.loop b) s2 = some (e, s') ∨ (e1 ≠ .normal ∧ e1 = e ∧ s2 = s')) →
        b.wp P (Exit.then (fun a' w' => (∃ m, J m a' w') ∧ μ a' w' < m + 1) (fun e' a' w' => e' = e.toExit ∧ a'.defers = [] ∧ ∃ Γ', Ext Γ w Γ' w' ∧ Inv Γ' s'.σ w' ∧ TmRep Γ' s'.tm a' ∧ Keeps s.σ s'.σ)) a1 w1 := by
      intro e1 s2 hb hor
      refine wp_mono (hbody m hmn _ e1 s2 hk hb Γp w1 a1 p2 p3 h5) ?_
      rintro e' a' w' ⟨rfl, g0, Γ2, g1, g2, g3, g4⟩
      have g1 := p1.trans g1
      have g4 := p4.trans g4
      rcases hor with ⟨rfl, hl⟩ | ⟨hne, rfl, rfl⟩
      · have hJ' : J m a' w' := ⟨Nat.le_of_succ_le hmn, s2, Γ2, hl, h2.trans g1, g2, g3, g0, h6.trans g4⟩
        exact ⟨⟨m, hJ'⟩, Nat.lt_succ_of_le ((hμ a' w' ⟨m, hJ'⟩).2 m hJ')⟩
      · cases e1 with
        | normal => exact absurd rfl hne
        | exit id => exact ⟨rfl, g0, Γ2, h2.trans g1, g2, g3, h6.trans g4⟩
        | ret => exact ⟨rfl, g0, Γ2, h2.trans g1, g2, g3, h6.trans g4⟩
    cases hb : exec C m b (purS (C.pur b) s1) with
    | none => rw [hb] at h1; cases h1
    | some r =>
      obtain ⟨e1, s2⟩ := r
      rw [hb] at h1
      cases e1 with
      | normal => exact run _ _ hb (.inl ⟨rfl, h1⟩)
      | exit id => simp only [Option.some.injEq, Prod.mk.injEq] at h1; exact run _ _ hb (.inr ⟨by simp, h1.1, h1.2⟩)
      | ret => simp only [Option.some.injEq, Prod.mk.injEq] at h1; exact run _ _ hb (.inr ⟨by simp, h1.1, h1.2⟩)
/-- WHAT THE PLAIN MACHINE ANSWERS THE MODEL ANSWERS. -/
theorem exec_ok (hC : CfgOk P C) : ∀ n, CodeOk P (exec C n) := by
  intro n
  induction n using Nat.strongRecOn with
  | _ n ih =>
    cases n with
    | zero => intro c s e s' _ h; simp [exec] at h
    | succ n =>
      have ihn := ih n (Nat.lt_succ_self n)
      intro c s e s' hk h Γ w a hi ht hdf
      cases c with
      | skip =>
        simp only [exec, stepC, Option.some.injEq, Prod.mk.injEq] at h
        obtain ⟨rfl, rfl⟩ := h
        exact wp_skip ⟨rfl, hdf, Γ, .refl _ _, hi, ht, .refl _⟩
      | label k =>
        simp only [exec, stepC, Option.some.injEq, Prod.mk.injEq] at h
        obtain ⟨rfl, rfl⟩ := h
        exact wp_label ⟨rfl, hdf, Γ, .refl _ _, hi, ht, .refl _⟩
      | exit id =>
        simp only [exec, stepC, Option.some.injEq, Prod.mk.injEq] at h
        obtain ⟨rfl, rfl⟩ := h
        exact wp_exit ⟨rfl, hdf, Γ, .refl _ _, hi, ht, .refl _⟩
      | ret =>
        simp only [exec, stepC, Option.some.injEq, Prod.mk.injEq] at h
        obtain ⟨rfl, rfl⟩ := h
        exact wp_ret ⟨rfl, hdf, Γ, .refl _ _, hi, ht, .refl _⟩
      | region id ops draw =>
        simp only [exec, stepC] at h
        split at h <;> cases h
        rename_i hgate hrun
        refine region_ok hC ihn hgate hrun hi ht ?_
        intro Γ' w' a' g1 g2 g3 g4 g5
        exact ⟨rfl, by rw [g5, hdf], Γ', g1, g2, g3, g4⟩
      | seq x y =>
        simp only [exec, stepC] at h
        simp only [drawsOk, Bool.and_eq_true] at hk
        refine wp_seq ?_
        cases hx : exec C n x s with
        | none => rw [hx] at h; cases h
        | some r =>
          obtain ⟨e1, s1⟩ := r
          rw [hx] at h
          refine wp_mono (ihn x s e1 s1 hk.1 hx Γ w a hi ht hdf) ?_
          rintro e' a' w' ⟨rfl, g0, Γ2, g1, g2, g3, g4⟩
          cases e1 with
          | normal =>
            refine wp_mono (ihn y s1 e s' hk.2 h Γ2 w' a' g2 g3 g0) ?_
            rintro e'' a'' w'' ⟨rfl, q0, Γ3, q1, q2, q3, q4⟩
            exact ⟨rfl, q0, Γ3, g1.trans q1, q2, q3, g4.trans q4⟩
          | exit id => cases h; exact ⟨rfl, g0, Γ2, g1, g2, g3, g4⟩
          | ret => cases h; exact ⟨rfl, g0, Γ2, g1, g2, g3, g4⟩
      | cond c x y =>
        simp only [exec, stepC] at h
        simp only [drawsOk, Bool.and_eq_true] at hk
        have hc := TmRep.ev ht c
        split at h
        · rename_i hcv
          rw [hcv] at hc
          exact wp_cond_true (v_inv hc) (ihn x s e s' hk.1 h Γ w a hi ht hdf)
        · rename_i hcv
          rw [hcv] at hc
          exact wp_cond_false (v_inv hc) (ihn y s e s' hk.2 h Γ w a hi ht hdf)
        · cases h
      | block id b =>
        simp only [exec, stepC] at h
        simp only [drawsOk] at hk
        refine wp_block ?_
        cases hx : exec C n b s with
        | none => rw [hx] at h; cases h
        | some r =>
          obtain ⟨e1, s1⟩ := r
          rw [hx] at h
          refine wp_mono (ihn b s e1 s1 hk hx Γ w a hi ht hdf) ?_
          rintro e' a' w' ⟨rfl, g0, Γ2, g1, g2, g3, g4⟩
          cases e1 with
          | normal => cases h; exact ⟨rfl, g0, Γ2, g1, g2, g3, g4⟩
          | ret => cases h; exact ⟨rfl, g0, Γ2, g1, g2, g3, g4⟩
          | exit i =>
            simp only [Option.some.injEq, Prod.mk.injEq] at h
            obtain ⟨h1, rfl⟩ := h
            show if i = id then _ else _
            split
            · rename_i hid
              rw [if_pos hid] at h1
              subst h1
              exact ⟨rfl, g0, Γ2, g1, g2, g3, g4⟩
            · rename_i hid
              rw [if_neg hid] at h1
              subst h1
              exact ⟨rfl, g0, Γ2, g1, g2, g3, g4⟩
      | loop b =>
        exact loop_ok (n := n + 1) (fun m hm => fun s e s' hk h => ih m hm b s e s' hk h) hk h hi ht hdf
      | _ => simp only [exec, stepC] at h; cases h
end
end Go.AmYtmodnblfcikjlaaGreat
namespace Go.AmYtmodnblfcikjlaaGreat
open Go Go.RowKit

/-- Types; functions that are pure, by what they answer. -/
structure PC where
  ty : Nat → Option TD
  pf : Nat → Option (List AV → Option AV)
  sp : Nat → Option (St → List AV → Option (AV × Option St))
  pur : Code → List Nat
def emp : St := ⟨[], [], [], []⟩
def noRef (x : AV) : Bool := (rb x).isEmpty && (rr x).isEmpty
def noRefs (xs : List AV) : Bool := xs.all noRef
/-- A pure function as a contract. -/
def pureP (p : List AV → Option AV) : St → List AV → Option (AV × Option St) := fun σ args =>
  match σ with
  | ⟨[], [], [], []⟩ => match p args with
    | some v => some (v, none)
    | none => none
  | _ => none
def PC.prim (c : PC) (f : Nat) : Option (St → List AV → Option (AV × Option St)) := match c.pf f with | some p => some (pureP p) | none => c.sp f
def PC.raw (c : PC) (f : Nat) : Bool := match c.pf f with | some _ => false | none => (c.sp f).isSome
def PC.cfg (c : PC) : Cfg := ⟨c.ty, fun _ => none, c.prim, c.raw, c.pur⟩
def pcall (c : PC) (f : Nat) (σ : St) (args : List AV) : Option (AV × Option St) :=
  match c.pf f with
  | some p => match noRefs (args.map (purA σ.rw)) with
    | true => match p (args.map (purA σ.rw)) with
      | some v => match noRef v with
        | true => match isScal v, args.flatMap rsA with
          | true, _ => some (v, none)
          | _, [] => some (v, none)
          | _, r :: l => some (v, some { σ with rw := frz σ.rw (r :: l), wrr := (r :: l) ++ σ.wrr })
        | false => none
      | none => none
    | false => none
  | none => match c.sp f with
    | some p => callB σ args p
    | none => none
def popA (c : PC) (tm : List AV) (σ : St) (op : Op) : Option (AV × Option St) :=
  match op with
  | .call ⟨.builtin b, args, ts⟩ => builtinA c.cfg σ b ts (args.toList.map (aev tm))
  | .call ⟨.value g, args, _⟩ => match aev tm g with
    | .fn f caps => pcall c f σ (args.toList.map (aev tm) ++ caps)
    | _ => none
  | .call _ => none
  | op => stepOp c.cfg tm σ op
def prunOps (c : PC) (ops : Array Oper) (draw : Bool) : List Oper → S → Option S
  | [], s => some s
  | o :: rest, s => match wantA ops s.tm o with
    | some true => match popA c s.tm s.σ o.op with
      | some (x, none) => prunOps c ops draw rest ⟨putA s.tm o.dst x, s.σ⟩
      | some (x, some σ') => match draw && !loudOp c.cfg.raw o.op with
        | true => none
        | false => prunOps c ops draw rest ⟨putA s.tm o.dst x, σ'⟩
      | none => none
    | some false => prunOps c ops draw rest ⟨putA s.tm o.dst undefA, s.σ⟩
    | none => none
def pstep (c : PC) (ex : Exec) : Exec
  | .skip, s => some (.normal, s)
  | .label _, s => some (.normal, s)
  | .region _ ops draw, s => match gateA c.cfg.raw s.tm ops draw, prunOps c ops draw ops.toList s with
    | true, some s' => some (.normal, s')
    | _, _ => none
  | .seq a b, s => match ex a s with
    | some (.normal, s') => ex b s'
    | r => r
  | .cond t x y, s => match aev s.tm t with
    | .v (.bool true) => ex x s
    | .v (.bool false) => ex y s
    | _ => none
  | .block id b, s => match ex b s with
    | some (.exit i, s') => some (if i = id then .normal else .exit i, s')
    | r => r
  | .loop b, s => match ex b (purS (c.pur b) s) with
    | some (.normal, s') => ex (.loop b) s'
    | r => r
  | .exit id, s => some (.exit id, s)
  | .ret, s => some (.ret, s)
  | _, _ => none
def pexec (c : PC) : Nat → Exec
  | 0 => fun _ _ => none
  | n + 1 => pstep c (pexec c n)

/- What it answers the plain machine answers. -/
mutual
theorem ren_none {fb fr : Nat → Nat} : ∀ x : AV, rb x = [] → rr x = [] → ren fb fr x = x
  | .v _, _, _ => rfl
  | .dead, _, _ => rfl
  | .sl .., _, _ => rfl
  | .rs .., _, h => by simp [rr] at h
  | .ptr .., h, _ => by simp [rb] at h
  | .rpt .., _, h => by simp [rr] at h
  | .ept .., _, _ => rfl
  | .fn f cs, h, g => by rw [ren, renL_none cs (by simpa [rb] using h) (by simpa [rr] using g)]
  | .agg cs, h, g => by rw [ren, renL_none cs (by simpa [rb] using h) (by simpa [rr] using g)]
  | .tup cs, h, g => by rw [ren, renL_none cs (by simpa [rb] using h) (by simpa [rr] using g)]
theorem renL_none {fb fr : Nat → Nat} : ∀ xs : List AV, rbL xs = [] → rrL xs = [] → renL fb fr xs = xs
  | [], _, _ => rfl
  | x :: xs, h, g => by
    simp only [rbL, rrL, List.append_eq_nil_iff] at h g
    rw [renL, ren_none x h.1 g.1, renL_none xs h.2 g.2]
end
theorem noRef_spec {x : AV} (h : noRef x = true) : rb x = [] ∧ rr x = [] := by
  simpa [noRef, List.isEmpty_iff] using h
theorem noRefs_spec : ∀ {xs : List AV}, noRefs xs = true → rbL xs = [] ∧ rrL xs = []
  | [], _ => ⟨rfl, rfl⟩
  | x :: xs, h => by
    simp only [noRefs, List.all_cons, Bool.and_eq_true] at h
    obtain ⟨h1, h2⟩ := noRef_spec h.1
    obtain ⟨h3, h4⟩ := noRefs_spec (xs := xs) h.2
    exact ⟨by rw [rbL, h1, h3]; rfl, by rw [rrL, h2, h4]; rfl⟩
theorem callB_pure {σ : St} {args : List AV} {p : List AV → Option AV} {v : AV} (ha : noRefs args = true) (hp : p args = some v) (hv : noRef v = true) : callB σ args (fun σ args => pureP p σ args) = some (v, none) := by
  obtain ⟨h1, h2⟩ := noRefs_spec ha
  obtain ⟨h3, h4⟩ := noRef_spec hv
  have hb : bids σ args = [] := by
    unfold bids
    rw [h1]
    show closeB σ.bx σ.bx.length [] = []
    cases σ.bx.length with
    | zero => rfl
    | succ n => rfl
  have hr : rids σ args = [] := by
    unfold rids
    rw [hb, h2]
    rfl
  unfold callB
  have hs : subOk σ args = true := by
    unfold subOk
    rw [hb, hr, h1, h2]; rfl
  rw [hs]
  simp only
  rw [hb, hr, renL_none args h1 h2]
  have : subSt σ [] [] = ⟨[], [], [], []⟩ := rfl
  rw [this]
  simp only [pureP, hp, backA]
  rw [ren_none v h3 h4]
theorem pcall_ok {c : PC} {ex : Exec} {f : Nat} {σ : St} {args : List AV} {r : AV × Option St} (h : pcall c f σ args = some r) : doCall c.cfg ex σ f args = some r := by
  unfold pcall at h
  split at h
  rotate_left
  · rename_i hp
    split at h <;> try cases h
    rename_i p hsp
    have hraw : c.cfg.raw f = true := by show c.raw f = true; unfold PC.raw; rw [hp, hsp]; rfl
    have hcf : (fun (σ : St) args => callF c.cfg ex σ f args) = p := by
      funext σ args
      unfold callF
      simp only [PC.cfg, PC.prim, hp, hsp]
    unfold doCall handA
    rw [hraw]
    simp only
    rw [hcf]
    exact h
  rename_i p hp
  split at h <;> try cases h
  rename_i ha
  split at h <;> try cases h
  rename_i v hv
  split at h <;> try cases h
  rename_i hn
  have hcf : ∀ σ : St, (fun (σ : St) args => callF c.cfg ex σ f args) = fun σ args => pureP p σ args := fun _ => by
    funext σ args
    unfold callF
    simp only [PC.cfg, PC.prim, hp]
  have hraw : c.cfg.raw f = false := by show c.raw f = false; unfold PC.raw; rw [hp]
  unfold doCall handA
  rw [hraw]
  obtain ⟨z1, z2⟩ := noRefs_spec ha
  cases hrs : args.flatMap rsA with
  | nil =>
    have : r = (v, none) := by
      rw [hrs] at h
      cases hs : isScal v <;> rw [hs] at h <;> cases h <;> rfl
    subst this
    simp only
    rw [hcf σ]
    exact callB_pure ha hv hn
  | cons q l =>
    simp only
    rw [hcf σ, callB_pure ha hv hn]
    simp only [orElse, z1, z2, List.isEmpty_nil, Bool.and_true]
    rw [hrs] at h
    cases hs : isScal v with
    | true => rw [hs] at h; exact h
    | false => rw [hs] at h; exact h
theorem popA_ok {c : PC} {ex : Exec} {tm : List AV} {σ : St} {op : Op} {r : AV × Option St} (h : popA c tm σ op = some r) : opA c.cfg ex tm σ op = some r := by
  unfold popA at h
  split at h
  · exact h
  · rename_i g args ts
    split at h <;> try cases h
    rename_i f caps hf
    simp only [opA, calleeA, hf]
    exact pcall_ok h
  · cases h
  · rename_i op h1 h2 h3
    unfold opA
    split
    · rename_i cl
      obtain ⟨cl, ar, ts⟩ := cl
      cases cl with
      | builtin b => exact absurd rfl (h1 b ar ts)
      | value g => exact absurd rfl (h2 g ar ts)
      | invoke r n => exact absurd rfl (h3 _)
    · exact h
theorem prunOps_ok {c : PC} {ex : Exec} {ops : Array Oper} {draw : Bool} : ∀ {l : List Oper} {s s' : S}, prunOps c ops draw l s = some s' → runOps c.cfg ex ops draw l s = some s'
  | [], s, s', h => h
  | o :: rest, s, s', h => by
    simp only [prunOps] at h
    simp only [runOps]
    split at h
    · rename_i hw
      rw [hw]
      simp only
      split at h
      · rename_i x hop
        rw [popA_ok hop]
        exact prunOps_ok h
      · rename_i x σ' hop
        rw [popA_ok hop]
        simp only
        split at h
        · cases h
        · rename_i hd
          rw [hd]
          exact prunOps_ok h
      · cases h
    · rename_i hw
      rw [hw]
      exact prunOps_ok h
    · cases h
theorem pexec_ok {c : PC} : ∀ {n : Nat} {cd : Code} {s : S} {r : Ex × S}, pexec c n cd s = some r → exec c.cfg n cd s = some r := by
  intro n
  induction n with
  | zero => intro cd s r h; simp [pexec] at h
  | succ n ih =>
    intro cd s r h
    simp only [pexec] at h
    simp only [exec]
    cases cd with
    | region id ops draw =>
      simp only [pstep] at h
      simp only [stepC]
      split at h <;> cases h
      rename_i hg hr
      rw [prunOps_ok hr, hg]
    | seq a b =>
      simp only [pstep] at h
      simp only [stepC]
      split at h
      · rename_i s' ha; rw [ih ha]; exact ih h
      · rename_i r' ha
        cases hx : pexec c n a s with
        | none => rw [hx] at h; cases h
        | some q =>
          rw [hx] at h; cases h
          rw [ih hx]
          obtain ⟨e, s'⟩ := r
          cases e with
          | normal => exact absurd hx (ha s')
          | exit i => rfl
          | ret => rfl
    | cond t x y =>
      simp only [pstep] at h
      simp only [stepC]
      split at h
      · rename_i ht; rw [ht]; exact ih h
      · rename_i ht; rw [ht]; exact ih h
      · cases h
    | block id b =>
      simp only [pstep] at h
      simp only [stepC]
      cases hx : pexec c n b s with
      | none => rw [hx] at h; cases h
      | some q => rw [hx] at h; rw [ih hx]; exact h
    | loop b =>
      simp only [pstep] at h
      simp only [stepC]
      cases hx : pexec c n b (purS (c.pur b) s) with
      | none => rw [hx] at h; cases h
      | some q =>
        rw [hx] at h; rw [show exec c.cfg n b (purS (c.cfg.pur b) s) = _ from ih hx]
        obtain ⟨e, s'⟩ := q
        cases e with
        | normal => exact ih h
        | exit i => exact h
        | ret => exact h
    | _ => exact h
theorem pexec_mono {c : PC} : ∀ {n : Nat} {cd : Code} {s : S} {r : Ex × S}, pexec c n cd s = some r → pexec c (n + 1) cd s = some r := by
  intro n
  induction n with
  | zero => intro cd s r h; simp [pexec] at h
  | succ n ih =>
    intro cd s r h
    rw [pexec] at h ⊢
    cases cd with
    | seq a b =>
      simp only [pstep] at h ⊢
      split at h
      · rename_i s' ha; rw [ih ha]; exact ih h
      · rename_i r' ha
        cases hx : pexec c n a s with
        | none => rw [hx] at h; cases h
        | some q =>
          rw [hx] at h; cases h
          rw [ih hx]
          obtain ⟨e, s'⟩ := r
          cases e with
          | normal => exact absurd hx (ha s')
          | exit i => rfl
          | ret => rfl
    | cond t x y =>
      simp only [pstep] at h ⊢
      split at h
      · rename_i ht; exact ih h
      · rename_i ht; exact ih h
      · cases h
    | block id b =>
      simp only [pstep] at h ⊢
      cases hx : pexec c n b s with
      | none => rw [hx] at h; cases h
      | some q => rw [hx] at h; rw [ih hx]; exact h
    | loop b =>
      simp only [pstep] at h ⊢
      cases hx : pexec c n b (purS (c.pur b) s) with
      | none => rw [hx] at h; cases h
      | some q =>
        rw [hx] at h; rw [ih hx]
        obtain ⟨e, s'⟩ := q
        cases e with
        | normal => exact ih h
        | exit i => exact h
        | ret => exact h
    | _ => exact h
theorem pexec_le {c : PC} {n m : Nat} (hle : n ≤ m) {cd : Code} {s : S} {r : Ex × S} (h : pexec c n cd s = some r) : pexec c m cd s = some r := by
  induction hle with
  | refl => exact h
  | step _ ih => exact pexec_mono ih

/-- Code comes to an end that K tells of. -/
def Run (c : PC) (cd : Code) (s : S) (K : Ex → S → Prop) : Prop := ∃ n e s', pexec c n cd s = some (e, s') ∧ K e s'
inductive It where
  | code (c : Code) | blk (id : Nat) | ops (os : Array Oper) (draw : Bool) (rest : List Oper)
def Go (c : PC) (Q : Ex → S → Prop) : List It → Ex → S → Prop
  | [], e, s => Q e s
  | .code cd :: k, .normal, s => Run c cd s fun e s' => Go c Q k e s'
  | .code _ :: k, e, s => Go c Q k e s
  | .blk id :: k, .exit i, s => Go c Q k (if i = id then .normal else .exit i) s
  | .blk _ :: k, e, s => Go c Q k e s
  | .ops os d rest :: k, .normal, s => ∃ s', prunOps c os d rest s = some s' ∧ Go c Q k .normal s'
  | .ops _ _ _ :: k, e, s => Go c Q k e s
section
variable {c : PC} {Q : Ex → S → Prop} {k : List It} {tm : List AV} {σ : St} {s : S}
theorem run_of {cd : Code} {K : Ex → S → Prop} (h : ∀ n, ∀ r, pstep c (pexec c n) cd s = some r ↔ r = (.normal, s)) : Run c cd s K ↔ K .normal s := by
  constructor
  · rintro ⟨n, e, s', h1, h2⟩
    cases n with
    | zero => simp [pexec] at h1
    | succ n => have := (h n _).1 h1; cases this; exact h2
  · intro hk; exact ⟨1, _, _, (h 0 _).2 rfl, hk⟩
theorem go_nil (e : Ex) : Go c Q [] e s = Q e s := rfl
theorem go_skip' : Go c Q (.code .skip :: k) .normal s = Go c Q k .normal s :=
  propext (run_of (c := c) (s := s) (cd := .skip) (K := fun e s' => Go c Q k e s') fun n r => ⟨fun h => by cases h; rfl, fun h => by rw [h]; rfl⟩)
theorem go_label (l : Nat) : Go c Q (.code (.label l) :: k) .normal s = Go c Q k .normal s :=
  propext (run_of (c := c) (s := s) (cd := .label l) (K := fun e s' => Go c Q k e s') fun n r => ⟨fun h => by cases h; rfl, fun h => by rw [h]; rfl⟩)
theorem go_exit (id : Nat) : Go c Q (.code (.exit id) :: k) .normal s = Go c Q k (.exit id) s := by
  apply propext
  constructor
  · rintro ⟨n, e, s', h1, h2⟩
    cases n with
    | zero => simp [pexec] at h1
    | succ n => simp only [pexec, pstep, Option.some.injEq, Prod.mk.injEq] at h1; obtain ⟨rfl, rfl⟩ := h1; exact h2
  · intro h; exact ⟨1, _, _, rfl, h⟩
theorem go_retc : Go c Q (.code .ret :: k) .normal s = Go c Q k .ret s := by
  apply propext
  constructor
  · rintro ⟨n, e, s', h1, h2⟩
    cases n with
    | zero => simp [pexec] at h1
    | succ n => simp only [pexec, pstep, Option.some.injEq, Prod.mk.injEq] at h1; obtain ⟨rfl, rfl⟩ := h1; exact h2
  · intro h; exact ⟨1, _, _, rfl, h⟩
theorem go_code_ret (cd : Code) : Go c Q (.code cd :: k) .ret s = Go c Q k .ret s := rfl
theorem go_code_exit (cd : Code) (i : Nat) : Go c Q (.code cd :: k) (.exit i) s = Go c Q k (.exit i) s := rfl
theorem go_blk_normal (id : Nat) : Go c Q (.blk id :: k) .normal s = Go c Q k .normal s := rfl
theorem go_blk_ret (id : Nat) : Go c Q (.blk id :: k) .ret s = Go c Q k .ret s := rfl
theorem go_blk_exit (id i : Nat) : Go c Q (.blk id :: k) (.exit i) s = Go c Q k (if i = id then .normal else .exit i) s := rfl
theorem go_seq (a b : Code) : Go c Q (.code (.seq a b) :: k) .normal s = Go c Q (.code a :: .code b :: k) .normal s := by
  apply propext
  show Run c (.seq a b) s (fun e s' => Go c Q k e s') ↔ Run c a s fun e s' => Go c Q (.code b :: k) e s'
  constructor
  · rintro ⟨n, e, s', h1, h2⟩
    cases n with
    | zero => simp [pexec] at h1
    | succ n =>
      simp only [pexec, pstep] at h1
      split at h1
      · rename_i s1 ha; exact ⟨n, _, s1, ha, n, e, s', h1, h2⟩
      · rename_i hne
        refine ⟨n, e, s', h1, ?_⟩
        cases e with
        | normal => exact absurd h1 (hne s')
        | exit i => exact h2
        | ret => exact h2
  · rintro ⟨n, e, s1, h1, h2⟩
    cases e with
    | normal =>
      obtain ⟨m, e, s', h3, h4⟩ := h2
      refine ⟨n + m + 1, e, s', ?_, h4⟩
      simp only [pexec, pstep]
      rw [pexec_le (by omega) h1]
      exact pexec_le (by omega) h3
    | exit i => exact ⟨n + 1, _, s1, by simp only [pexec, pstep]; rw [h1], h2⟩
    | ret => exact ⟨n + 1, _, s1, by simp only [pexec, pstep]; rw [h1], h2⟩
theorem go_block (id : Nat) (b : Code) : Go c Q (.code (.block id b) :: k) .normal s = Go c Q (.code b :: .blk id :: k) .normal s := by
  apply propext
  show Run c (.block id b) s (fun e s' => Go c Q k e s') ↔ Run c b s fun e s' => Go c Q (.blk id :: k) e s'
  constructor
  · rintro ⟨n, e, s', h1, h2⟩
    cases n with
    | zero => simp [pexec] at h1
    | succ n =>
      simp only [pexec, pstep] at h1
      cases hx : pexec c n b s with
      | none => rw [hx] at h1; cases h1
      | some q =>
        rw [hx] at h1
        obtain ⟨e1, s1⟩ := q
        refine ⟨n, e1, s1, hx, ?_⟩
        cases e1 <;> (simp only [Option.some.injEq, Prod.mk.injEq] at h1; obtain ⟨rfl, rfl⟩ := h1; exact h2)
  · rintro ⟨n, e, s1, h1, h2⟩
    cases e with
    | normal => exact ⟨n + 1, _, s1, by simp only [pexec, pstep]; rw [h1], h2⟩
    | exit i => exact ⟨n + 1, _, s1, by simp only [pexec, pstep]; rw [h1], h2⟩
    | ret => exact ⟨n + 1, _, s1, by simp only [pexec, pstep]; rw [h1], h2⟩
theorem go_loop (b : Code) : Go c Q (.code (.loop b) :: k) .normal s = Go c Q (.code b :: .code (.loop b) :: k) .normal (purS (c.pur b) s) := by
  apply propext
  show Run c (.loop b) s (fun e s' => Go c Q k e s') ↔ Run c b (purS (c.pur b) s) fun e s' => Go c Q (.code (.loop b) :: k) e s'
  constructor
  · rintro ⟨n, e, s', h1, h2⟩
    cases n with
    | zero => simp [pexec] at h1
    | succ n =>
      simp only [pexec, pstep] at h1
      split at h1
      · rename_i s1 ha; exact ⟨n, _, s1, ha, n, e, s', h1, h2⟩
      · rename_i hne
        refine ⟨n, e, s', h1, ?_⟩
        cases e with
        | normal => exact absurd h1 (hne s')
        | exit i => exact h2
        | ret => exact h2
  · rintro ⟨n, e, s1, h1, h2⟩
    cases e with
    | normal =>
      obtain ⟨m, e, s', h3, h4⟩ := h2
      refine ⟨n + m + 1, e, s', ?_, h4⟩
      simp only [pexec, pstep]
      rw [pexec_le (by omega) h1]
      exact pexec_le (by omega) h3
    | exit i => exact ⟨n + 1, _, s1, by simp only [pexec, pstep]; rw [h1], h2⟩
    | ret => exact ⟨n + 1, _, s1, by simp only [pexec, pstep]; rw [h1], h2⟩
theorem pur_clean (rw : List Row) (y : AV) : rsA (purA rw y) = [] := by
  have h1 : ∀ x, rsC (purC rw x) = [] := by
    intro x
    cases x with
    | rs r lo n ep f =>
      simp only [purC]
      split
      · split <;> rfl
      · rfl
    | _ => rfl
  cases y with
  | agg cs =>
    show (cs.map (purC rw)).flatMap rsC = []
    rw [List.flatMap_map]
    exact List.flatMap_eq_nil_iff.2 fun x _ => h1 x
  | rs r lo n ep f =>
    show rsA (purC rw (.rs r lo n ep f)) = []
    simp only [purC]
    split
    · split <;> rfl
    · rfl
  | _ => rfl
def Clean (ts : List Nat) (s : S) : Prop := ∀ t ∈ ts, rsA (s.tm.getD t .dead) = []
theorem pur1_clean (s : S) (t u : Nat) (h : u = t ∨ rsA (s.tm.getD u .dead) = []) : rsA ((pur1 s t).tm.getD u .dead) = [] := by
  unfold pur1
  cases hr : rsA (s.tm.getD t .dead) with
  | nil =>
    rcases h with rfl | h
    · exact hr
    · exact h
  | cons r l =>
    show rsA ((s.tm.set t _).getD u .dead) = []
    by_cases hu : t = u
    · subst hu
      have hlt : t < s.tm.length := by
        apply Nat.lt_of_not_le
        intro hle
        rw [List.getD_eq_getElem?_getD, List.getElem?_eq_none hle] at hr
        cases hr
      rw [List.getD_eq_getElem?_getD, List.getElem?_set_self hlt]
      exact pur_clean _ _
    · rw [List.getD_eq_getElem?_getD, List.getElem?_set_ne hu, ← List.getD_eq_getElem?_getD]
      rcases h with rfl | h
      · exact absurd rfl hu
      · exact h
theorem purS_clean : ∀ (ts : List Nat) (s : S) (us : List Nat), Clean us s → Clean (us ++ ts) (purS ts s)
  | [], s, us, h => by rw [List.append_nil]; exact h
  | t :: ts, s, us, h => by
    have := purS_clean ts (pur1 s t) (us ++ [t]) (fun u hu => pur1_clean s t u (by
      rcases List.mem_append.1 hu with hu | hu
      · exact .inr (h u hu)
      · exact .inl (by simpa using hu)))
    rw [List.append_assoc] at this
    exact this
theorem purS_id : ∀ (ts : List Nat) (s : S), Clean ts s → purS ts s = s
  | [], s, h => rfl
  | t :: ts, s, h => by
    have e : pur1 s t = s := by unfold pur1; rw [h t (List.mem_cons_self ..)]
    show purS ts (pur1 s t) = s
    rw [e]
    exact purS_id ts s fun u hu => h u (List.mem_cons_of_mem _ hu)
theorem go_pur (b : Code) : Go c Q (.code (.loop b) :: k) .normal (purS (c.pur b) s) = Go c Q (.code (.loop b) :: k) .normal s := by
  rw [go_loop, go_loop, purS_id _ _ (by have := purS_clean (c.pur b) s [] (fun _ h => by cases h); simpa using this)]
/-- Which way. -/
def goIf (c : PC) (Q : Ex → S → Prop) (k : List It) (s : S) (x y : Code) : AV → Prop
  | .v (.bool true) => Go c Q (.code x :: k) .normal s
  | .v (.bool false) => Go c Q (.code y :: k) .normal s
  | _ => False
theorem go_cond (t : Operand) (x y : Code) : Go c Q (.code (.cond t x y) :: k) .normal ⟨tm, σ⟩ = goIf c Q k ⟨tm, σ⟩ x y (aev tm t) := by
  apply propext
  show Run c (.cond t x y) ⟨tm, σ⟩ (fun e s' => Go c Q k e s') ↔ _
  constructor
  · rintro ⟨n, e, s', h1, h2⟩
    cases n with
    | zero => simp [pexec] at h1
    | succ n =>
      simp only [pexec, pstep] at h1
      split at h1
      · rename_i ht; rw [ht]; exact ⟨n, e, s', h1, h2⟩
      · rename_i ht; rw [ht]; exact ⟨n, e, s', h1, h2⟩
      · cases h1
  · intro h
    unfold goIf at h
    split at h
    · rename_i ht; obtain ⟨n, e, s', h1, h2⟩ := h; exact ⟨n + 1, e, s', by simp only [pexec, pstep, ht]; exact h1, h2⟩
    · rename_i ht; obtain ⟨n, e, s', h1, h2⟩ := h; exact ⟨n + 1, e, s', by simp only [pexec, pstep, ht]; exact h1, h2⟩
    · exact h.elim
theorem goIf_true (x y : Code) : goIf c Q k s x y (.v (.bool true)) = Go c Q (.code x :: k) .normal s := rfl
theorem goIf_false (x y : Code) : goIf c Q k s x y (.v (.bool false)) = Go c Q (.code y :: k) .normal s := rfl
theorem go_region (id : Nat) (l : List Oper) (d : Bool) : Go c Q (.code (.region id ⟨l⟩ d) :: k) .normal s = (gateA c.cfg.raw s.tm ⟨l⟩ d = true ∧ Go c Q (.ops ⟨l⟩ d l :: k) .normal s) := by
  apply propext
  constructor
  · rintro ⟨n, e, s', h1, h2⟩
    cases n with
    | zero => simp [pexec] at h1
    | succ n =>
      simp only [pexec, pstep] at h1
      split at h1 <;> cases h1
      rename_i hg hr
      exact ⟨hg, _, hr, h2⟩
  · rintro ⟨hg, s', h1, h2⟩
    exact ⟨1, .normal, s', by simp only [pexec, pstep]; rw [hg, h1], h2⟩
theorem go_ops_nil (os : Array Oper) (d : Bool) : Go c Q (.ops os d [] :: k) .normal s = Go c Q k .normal s := by
  apply propext
  constructor
  · rintro ⟨s', h1, h2⟩; simp only [prunOps, Option.some.injEq] at h1; subst h1; exact h2
  · intro h; exact ⟨s, rfl, h⟩
/-- Behind an operation. -/
def goPut (c : PC) (Q : Ex → S → Prop) (k : List It) (os : Array Oper) (d l : Bool) (rest : List Oper) (dst : Option Tmp) (tm : List AV) (σ : St) : Option (AV × Option St) → Prop
  | some (x, none) => Go c Q (.ops os d rest :: k) .normal ⟨putA tm dst x, σ⟩
  | some (x, some σ') => (d && !l) = false ∧ Go c Q (.ops os d rest :: k) .normal ⟨putA tm dst x, σ'⟩
  | none => False
def goWant (c : PC) (Q : Ex → S → Prop) (k : List It) (os : Array Oper) (d : Bool) (rest : List Oper) (o : Oper) (tm : List AV) (σ : St) : Option Bool → Prop
  | some true => goPut c Q k os d (loudOp c.cfg.raw o.op) rest o.dst tm σ (popA c tm σ o.op)
  | some false => Go c Q (.ops os d rest :: k) .normal ⟨putA tm o.dst undefA, σ⟩
  | none => False
theorem go_ops (os : Array Oper) (d : Bool) (o : Oper) (rest : List Oper) : Go c Q (.ops os d (o :: rest) :: k) .normal ⟨tm, σ⟩ = goWant c Q k os d rest o tm σ (wantA os tm o) := by
  apply propext
  constructor
  · rintro ⟨s', h1, h2⟩
    simp only [prunOps] at h1
    unfold goWant
    split at h1
    · rename_i hw
      unfold goPut
      split at h1
      · rename_i x hp; exact ⟨s', h1, h2⟩
      · rename_i x σ' hp
        split at h1
        · cases h1
        · rename_i hd; exact ⟨hd, s', h1, h2⟩
      · cases h1
    · rename_i hw; exact ⟨s', h1, h2⟩
    · cases h1
  · intro h
    unfold goWant at h
    split at h
    · rename_i hw
      unfold goPut at h
      split at h
      · rename_i x hp
        obtain ⟨s', h1, h2⟩ := h
        exact ⟨s', by simp only [prunOps, hw, hp]; exact h1, h2⟩
      · rename_i x σ' hp
        obtain ⟨hd, s', h1, h2⟩ := h
        exact ⟨s', by simp only [prunOps, hw, hp, hd]; exact h1, h2⟩
      · exact h.elim
    · rename_i hw
      obtain ⟨s', h1, h2⟩ := h
      exact ⟨s', by simp only [prunOps, hw]; exact h1, h2⟩
    · exact h.elim
end
end Go.AmYtmodnblfcikjlaaGreat
namespace Go.AmYtmodnblfcikjlaaGreat
open Go Go.RowKit

/-- What y tells x tells too. -/
def Sub (x y : AV) : Prop := ∀ Γ u, Rep Γ x u → Rep Γ y u
theorem Sub.refl (x : AV) : Sub x x := fun _ _ h => h
inductive SubL : List AV → List AV → Prop
  | nil : SubL [] []
  | cons {x y : AV} {xs ys : List AV} : Sub x y → SubL xs ys → SubL (x :: xs) (y :: ys)
theorem SubL.refl : ∀ xs, SubL xs xs
  | [] => .nil
  | x :: xs => .cons (.refl x) (.refl xs)
theorem SubL.rep {Γ : Gh} : ∀ {xs ys : List AV} {us : List Value}, SubL xs ys → RepL Γ xs us → RepL Γ ys us
  | _, _, _, .nil, h => h
  | _, _, us, .cons h t, g => by
    obtain ⟨u, r, rfl, h1, h2⟩ := g.uncons
    exact .cons (h Γ u h1) (t.rep h2)
theorem SubL.tup {xs ys : List AV} (h : SubL xs ys) : Sub (.tup xs) (.tup ys) := by
  intro Γ u hu
  cases hu with
  | tup cs us hn hr =>
    have := h.rep (RepL.mk hn hr)
    exact .tup _ _ this.len this.rep

theorem body_ok {P : Program} {C : Cfg} {Γ : Gh} {σ : St} {w : World} (hC : CfgOk P C) {f : FuncId} {fn : Func} {c : Code} (h1 : P.funcs[f]? = some fn) (hc : fn.body = some c) (hd : drawsOk c = true) {args : List AV} {vals : List Value} {r : AV × Option St} (hi : Inv Γ σ w) (hr : RepL Γ args vals)
    {n : Nat} {e : Ex} {s' : S} (he : exec C n c (enterA fn σ args) = some (e, s')) (hee : e = .ret ∨ e = .normal) (hl : leaveA C fn σ s' = some r) : CallsTo P Γ σ w f vals r := by
  unfold CallsTo
  refine calls_of_wp h1 hc ?_
  have hi' : Inv Γ (enterA fn σ args).σ w := hi.wr rfl rfl
  have ht : TmRep Γ (enterA fn σ args).tm { tmps := vals.toArray ++ Array.replicate (fn.ntmps - vals.toArray.size) undef, defers := [] } := by
    show RepL Γ (args ++ List.replicate (fn.ntmps - args.length) .dead) (vals.toArray ++ Array.replicate (fn.ntmps - vals.toArray.size) undef).toList
    rw [Array.toList_append, Array.toList_replicate]
    have : vals.toArray.size = args.length := by simpa using hr.len
    rw [this]
    exact hr.append (replicate_rep Γ _)
  refine wp_mono (exec_ok hC n c _ e s' hd he Γ w _ hi' ht rfl) ?_
  rintro e' a' w' ⟨rfl, hd, Γ', g1, g2, g3, g4⟩
  unfold leaveA at hl
  split at hl <;> cases hl
  rename_i rv hrv
  obtain ⟨v, q1, q2⟩ := results_ok hC.ty g2 g3 hrv
  obtain ⟨⟨Γ2, u1, u2, u3⟩, u4⟩ := ret_ok hi g1 g2 g4 q2
  have : a'.defers = [] ∧ ∃ v, (results fn a'.tmps).run P w' = .ok v w' ∧ ∃ v_1 Γ', Ending.returned v = .returned v_1 ∧ Ext Γ w Γ' w' ∧ Inv Γ' (turn σ (retRule σ rv s'.σ).2) w' ∧ Rep Γ' (retRule σ rv s'.σ).1 v_1 ∧ Keeps { σ with wr := [], wrr := [] } (turn { σ with wr := [], wrr := [] } (retRule σ rv s'.σ).2) :=
    ⟨hd, v, q1, v, Γ2, rfl, u1, u2, u3, u4⟩
  rcases hee with rfl | rfl
  · exact this
  · exact this

/-- The end of a pure function: what it hands back is as said. -/
def Ret (c : PC) (rs : List ResultVar) (Pr : AV → Prop) (e : Ex) (s : S) : Prop :=
  (e = .ret ∨ e = .normal) ∧ match resultsL c.cfg s.tm s.σ rs with
    | some l => refs 0 0 (pubT 0 s.σ.rw (oneOf l)) = false ∧ Pr (pubT 0 s.σ.rw (oneOf l))
    | none => False
/-- A function runs to its end. -/
def GoB (c : PC) (Pr : AV → Prop) (fn : Func) (args : List AV) : Prop :=
  match fn.body with
  | some cd => Go c (Ret c fn.results.toList Pr) [.code cd] .normal ⟨args ++ List.replicate (fn.ntmps - args.length) .dead, emp⟩
  | none => False
def bodyOk (fn : Func) : Bool := match fn.body with
  | some cd => drawsOk cd && !(fn.name == "runtime.NumGoroutine")
  | none => false
/-- A pure function by its code. -/
theorem CfgOk.pur {P : Program} {C : Cfg} (h : CfgOk P C) (p : Code → List Nat) : CfgOk P { C with pur := p } := ⟨h.mixed, h.ty, h.fn, h.prim⟩
theorem prim_pure {P : Program} {c : PC} (hC : CfgOk P c.cfg) {f : FuncId} {fn : Func} (hf : P.funcs[f]? = some fn) (hb : bodyOk fn = true) (p : List AV → Option AV)
    (h : ∀ args r, p args = some r → ∃ args' Pr p, SubL args args' ∧ (∀ v, Pr v → Sub v r) ∧ GoB { c with pur := p } Pr fn args') : PrimOk P f (pureP p) := by
  unfold bodyOk at hb
  cases hc : fn.body with
  | none => rw [hc] at hb; cases hb
  | some cd =>
  rw [hc] at hb
  simp only [Bool.and_eq_true, Bool.not_eq_true'] at hb
  obtain ⟨hd, hn⟩ := hb
  refine ⟨⟨fn, hf, by rw [hc]; rfl, hn⟩, fun Γ σ w args vals r hi hr hp => ?_⟩
  unfold pureP at hp
  split at hp <;> try cases hp
  split at hp <;> cases hp
  rename_i v hv
  obtain ⟨args', Pr, pp, g1, g2, hgo⟩ := h args v hv
  have hC : CfgOk P (PC.cfg { c with pur := pp }) := hC.pur pp
  unfold GoB at hgo
  rw [hc] at hgo
  obtain ⟨n, e, s', g3, g4, g0⟩ := hgo
  split at g0
  case h_2 => exact g0.elim
  rename_i l hl
  obtain ⟨g6, g7⟩ := g0
  have g5 : resultsA (PC.cfg { c with pur := pp }) fn s' = some (oneOf l) := by
    unfold resultsA
    rw [hl]
  generalize oneOf l = rv at g5 g6 g7
  have hl : leaveA (PC.cfg { c with pur := pp }) fn emp s' = some (pubT 0 s'.σ.rw rv, none) := by
    unfold leaveA
    rw [g5]
    simp only [retRule]
    have f1 : (s'.σ.wr.filter fun b => decide (b < emp.bx.length)) = [] := List.filter_eq_nil_iff.2 fun b _ => by simp [emp]
    have f2 : (s'.σ.wrr.filter fun b => decide (b < emp.rw.length)) = [] := List.filter_eq_nil_iff.2 fun b _ => by simp [emp]
    have hk : keeps emp rv s'.σ = false := by
      unfold keeps
      rw [f1]
      show (refs 0 0 (pubT 0 s'.σ.rw rv) || false) = false
      rw [g6]; rfl
    rw [hk, f1, f2]
    rfl
  have hcall := body_ok (f := f) (σ := emp) hC hf hc hd hi (g1.rep hr) (pexec_ok g3) g4 hl
  refine Calls.mono hcall ?_
  rintro e' w' ⟨v', Γ', q1, q2, q3, q4, q5⟩
  exact ⟨v', Γ', q1, q2, q3, g2 _ g7 Γ' v' q4, q5⟩

section
variable {c : PC} {Q : Ex → S → Prop} {k : List It} {tm : List AV} {σ : St} {os : Array Oper} {d : Bool} {rest : List Oper} {dst : Option Tmp}
def goVal (c : PC) (Q : Ex → S → Prop) (k : List It) (os : Array Oper) (d : Bool) (rest : List Oper) (dst : Option Tmp) (tm : List AV) (σ : St) (x : AV) : Prop := Go c Q (.ops os d rest :: k) .normal ⟨putA tm dst x, σ⟩
theorem put_one (l : Bool) (x : AV) : goPut c Q k os d l rest dst tm σ (some (x, none)) = goVal c Q k os d rest dst tm σ x := rfl
theorem put_two (l : Bool) (x : AV) (σ' : St) : goPut c Q k os d l rest dst tm σ (some (x, some σ')) = ((d && !l) = false ∧ goVal c Q k os d rest dst tm σ' x) := rfl
theorem want_true (o : Oper) : goWant c Q k os d rest o tm σ (some true) = goPut c Q k os d (loudOp c.cfg.raw o.op) rest o.dst tm σ (popA c tm σ o.op) := rfl
theorem want_false (o : Oper) : goWant c Q k os d rest o tm σ (some false) = Go c Q (.ops os d rest :: k) .normal ⟨putA tm o.dst undefA, σ⟩ := rfl
end
end Go.AmYtmodnblfcikjlaaGreat
namespace Go.GxYtmodnblfcikjlaaGreat
open Go.RowKit

/-- A term. -/
inductive T where
  | mk (kind : Int) (name : List UInt8) (sort : Int) (kids : List T)
namespace T
def kind : T → Int | mk k _ _ _ => k
def name : T → List UInt8 | mk _ n _ _ => n
def sort : T → Int | mk _ _ s _ => s
def kids : T → List T | mk _ _ _ l => l
/-- A function of a term out of those of its kids. -/
noncomputable def para {α : Type} (f : T → List α → α) (t : T) : α :=
  T.rec (motive_1 := fun _ => α) (motive_2 := fun _ => List α) (fun k n s l ih => f (mk k n s l) ih) [] (fun _ _ a b => a :: b) t
theorem para_eq {α : Type} (f : T → List α → α) (t : T) : para f t = f t (t.kids.map (para f)) := by
  obtain ⟨k, n, s, l⟩ := t
  show f (mk k n s l) _ = f (mk k n s l) _
  congr 1
  show T.rec_1 (motive_1 := fun _ => α) (motive_2 := fun _ => List α) _ _ _ l = l.map (para f)
  induction l with
  | nil => rfl
  | cons a l ih => exact congrArg (para f a :: ·) ih
theorem ind {P : T → Prop} (h : ∀ t, (∀ k ∈ t.kids, P k) → P t) (t : T) : P t :=
  T.rec (motive_1 := P) (motive_2 := fun l => ∀ k ∈ l, P k) (fun _ _ _ _ ih => h _ ih) (fun k hk => by cases hk)
    (fun a l ha hl k hk => by rcases List.mem_cons.1 hk with rfl | hk; exact ha; exact hl k hk) t
end T

/-- A slice whose elements take k cells each. -/
def SliceC {α : Type} (k : Nat) (R : α → List Value → Prop) (Q : Nat → Prop) (w : World) (a : Option Addr) (xs : List α) : Prop :=
  ∀ (j : Nat) (x : α), xs[j]? = some x → ∃ b off cs, a = some ⟨b, off, none⟩ ∧ Q b ∧ cs.length = k ∧ (∀ (i : Nat) (c : Value), cs[i]? = some c → w.cell? ⟨b, off + j * k + i, none⟩ = some c) ∧ R x cs
/-- The cells of a term. -/
noncomputable def TermC (Q : Nat → Prop) (w : World) : T → List Value → Prop :=
  T.para fun t rs cs => ∃ a c, cs = [.int .i64 t.kind, .string ⟨t.name.toArray⟩, .int .i64 t.sort, .slice a rs.length c] ∧ SliceC 4 (fun r cs => r cs) Q w a rs
theorem termC_iff {Q : Nat → Prop} {w : World} {t : T} {cs : List Value} :
    TermC Q w t cs ↔ ∃ a c, cs = [.int .i64 t.kind, .string ⟨t.name.toArray⟩, .int .i64 t.sort, .slice a t.kids.length c] ∧ SliceC 4 (TermC Q w) Q w a t.kids := by
  unfold TermC
  rw [T.para_eq]
  simp only [List.length_map]
  refine exists_congr fun a => exists_congr fun c => and_congr Iff.rfl ?_
  constructor
  · intro h j x hj
    obtain ⟨b, off, cs, h1, h2, h3, h4, h5⟩ := h j _ (by rw [List.getElem?_map, hj]; rfl)
    exact ⟨b, off, cs, h1, h2, h3, h4, h5⟩
  · intro h j r hj
    rw [List.getElem?_map, Option.map_eq_some_iff] at hj
    obtain ⟨x, hx, rfl⟩ := hj
    exact h j x hx
theorem SliceC.mono {α : Type} {k : Nat} {R R' : α → List Value → Prop} {Q Q' : Nat → Prop} {w : World} {a : Option Addr} {xs : List α} (h : SliceC k R Q w a xs) (hQ : ∀ b, Q b → Q' b) (hR : ∀ x ∈ xs, ∀ cs, R x cs → R' x cs) : SliceC k R' Q' w a xs :=
  fun j x hj => let ⟨b, off, cs, h1, h2, h3, h4, h5⟩ := h j x hj; ⟨b, off, cs, h1, hQ b h2, h3, h4, hR x (List.mem_of_getElem? hj) cs h5⟩
theorem SliceC.below {α : Type} {k : Nat} {R R' : α → List Value → Prop} {Q : Nat → Prop} {w w' : World} {a : Option Addr} {xs : List α} (h : SliceC k R Q w a xs) (hb : ∀ b, Q b → w'.heap[b]? = w.heap[b]?) (hR : ∀ x ∈ xs, ∀ cs, R x cs → R' x cs) : SliceC k R' Q w' a xs :=
  fun j x hj => let ⟨b, off, cs, h1, h2, h3, h4, h5⟩ := h j x hj; ⟨b, off, cs, h1, h2, h3, fun i c hc => (World.cell?_of_block (w := w) (a := ⟨b, off + j * k + i, none⟩) (hb b h2)).trans (h4 i c hc), hR x (List.mem_of_getElem? hj) cs h5⟩
theorem TermC.mono {Q Q' : Nat → Prop} {w : World} (hQ : ∀ b, Q b → Q' b) (t : T) : ∀ {cs : List Value}, TermC Q w t cs → TermC Q' w t cs := by
  refine T.ind (P := fun t => ∀ {cs : List Value}, TermC Q w t cs → TermC Q' w t cs) ?_ t
  intro t ih cs h
  rw [termC_iff] at h ⊢
  obtain ⟨a, c, h1, h2⟩ := h
  exact ⟨a, c, h1, h2.mono hQ fun x hx cs h => ih x hx h⟩
theorem TermC.keep {Q : Nat → Prop} {w w' : World} (hb : ∀ b, Q b → w'.heap[b]? = w.heap[b]?) (t : T) : ∀ {cs : List Value}, TermC Q w t cs → TermC Q w' t cs := by
  refine T.ind (P := fun t => ∀ {cs : List Value}, TermC Q w t cs → TermC Q w' t cs) ?_ t
  intro t ih cs h
  rw [termC_iff] at h ⊢
  obtain ⟨a, c, h1, h2⟩ := h
  exact ⟨a, c, h1, h2.below hb fun x hx cs h => ih x hx h⟩
/-- A term's value. -/
def termV (t : T) (a : Option Addr) (c : Nat) : List Value := [.int .i64 t.kind, .string ⟨t.name.toArray⟩, .int .i64 t.sort, .slice a t.kids.length c]
/-- The kids of a term. -/
def KidsC (Q : Nat → Prop) (w : World) (a : Option Addr) (l : List T) : Prop := SliceC 4 (TermC Q w) Q w a l
theorem TermC.mk {Q : Nat → Prop} {w : World} {t : T} {a : Option Addr} {c : Nat} (h : KidsC Q w a t.kids) : TermC Q w t (termV t a c) := termC_iff.2 ⟨a, c, rfl, h⟩
theorem TermC.out {Q : Nat → Prop} {w : World} {t : T} {cs : List Value} (h : TermC Q w t cs) : ∃ a c, cs = termV t a c ∧ KidsC Q w a t.kids := termC_iff.1 h
theorem KidsC.mono {Q Q' : Nat → Prop} {w : World} {a : Option Addr} {l : List T} (hQ : ∀ b, Q b → Q' b) (h : KidsC Q w a l) : KidsC Q' w a l := SliceC.mono h hQ fun _ _ _ h => h.mono hQ
theorem KidsC.keep {Q : Nat → Prop} {w w' : World} {a : Option Addr} {l : List T} (hb : ∀ b, Q b → w'.heap[b]? = w.heap[b]?) (h : KidsC Q w a l) : KidsC Q w' a l := SliceC.below h hb fun x _ _ h => h.keep hb x
/-- The j-th kid. -/
theorem KidsC.at {Q : Nat → Prop} {w : World} {a : Option Addr} {l : List T} (h : KidsC Q w a l) {j : Nat} {x : T} (hj : l[j]? = some x) :
    ∃ b off a' c', a = some ⟨b, off, none⟩ ∧ Q b ∧ w.cell? ⟨b, off + j * 4, none⟩ = some (.int .i64 x.kind) ∧ w.cell? ⟨b, off + j * 4 + 1, none⟩ = some (.string ⟨x.name.toArray⟩) ∧
      w.cell? ⟨b, off + j * 4 + 2, none⟩ = some (.int .i64 x.sort) ∧ w.cell? ⟨b, off + j * 4 + 3, none⟩ = some (.slice a' x.kids.length c') ∧ KidsC Q w a' x.kids := by
  obtain ⟨b, off, cs, h1, h2, h3, h4, h5⟩ := h j x hj
  obtain ⟨a', c', rfl, h6⟩ := h5.out
  exact ⟨b, off, a', c', h1, h2, h4 0 _ rfl, h4 1 _ rfl, h4 2 _ rfl, h4 3 _ rfl, h6⟩
/-- All blocks lie in the world. -/
def InW (Q : Nat → Prop) (w : World) : Prop := ∀ b, Q b → b < w.heap.size
theorem InW.below {Q : Nat → Prop} {w w' : World} (h : InW Q w) (hb : Below w.heap.size w w') : InW Q w' := fun b hq => Nat.lt_of_lt_of_le (h b hq) hb.size
theorem KidsC.later {Q : Nat → Prop} {w w' : World} {a : Option Addr} {l : List T} (h : KidsC Q w a l) (hQ : InW Q w) (hb : Below w.heap.size w w') : KidsC Q w' a l := h.keep fun b hq => hb.block b (hQ b hq)
theorem TermC.later {Q : Nat → Prop} {w w' : World} {t : T} {cs : List Value} (h : TermC Q w t cs) (hQ : InW Q w) (hb : Below w.heap.size w w') : TermC Q w' t cs := h.keep (fun b hq => hb.block b (hQ b hq)) t
end Go.GxYtmodnblfcikjlaaGreat
namespace Go.AmYtmodnblfcikjlaaGreat
open Go Go.GxYtmodnblfcikjlaaGreat

/-- A term, part by part. -/
def re (t : T) : T := .mk t.kind t.name t.sort t.kids
theorem re_eq (t : T) : re t = t := by obtain ⟨k, n, s, l⟩ := t; rfl
/-- Types of plain values. -/
inductive Ty where
  | int (k : IntKind) | bool | str | term | list (a : Ty) | pair (a b : Ty) | one (a : Ty)
  deriving DecidableEq
@[reducible] def Val : Ty → Type
  | .int _ => Int
  | .bool => Bool
  | .str => List UInt8
  | .term => T
  | .list a => List (Val a)
  | .pair a b => Val a × Val b
  | .one a => Val a
def Ty.size : Ty → Nat
  | .term => 4
  | .pair a b => a.size + b.size
  | .one a => a.size
  | _ => 1

/-- Values of a run. -/
inductive TV where
  | i (k : IntKind) (n : Int)
  | b (x : Bool)
  | s (x : List UInt8)
  | c (x : Value)
  | nil
  | sl (τ : Ty) (l : List (Val τ)) (lv : Nat)
  | row (id ver : Nat)
  | ptr (b o : Nat)
  | rpt (id ver sv : Nat) (i : Int) (cs : List TV) (o : Nat)
  | ept (cs : List TV) (o : Nat)
  | fn (f : FuncId) (caps : List TV)
  | agg (cs : List TV)
  | tup (vs : List TV)
  | dead
structure TRow where
  τ : Ty
  l : List (Val τ)
  ver : Nat
  sv : Nat
  sh : Bool
structure TS where
  bx : List (List TV)
  rw : List TRow
abbrev Env := List (Nat × TV)

def get : Env → Nat → TV
  | [], _ => .dead
  | p :: E, t => match Nat.beq p.1 t with
    | true => p.2
    | false => get E t
def ofBase : Value → TV
  | .bool b => .b b
  | .int k n => .i k n
  | .string s => .s s.data.toList
  | .slice none 0 0 => .nil
  | x => match base x with
    | true => .c x
    | false => .dead
def ofConstT : Value → TV
  | .agg cs => match cs.toList.all base with
    | true => .agg (cs.toList.map ofBase)
    | false => .dead
  | .tuple vs => match vs.toList with
    | [] => .tup []
    | _ => .dead
  | x => ofBase x
def evT (E : Env) : Operand → TV
  | .tmp t => get E t
  | .const x => ofConstT x
  | .func f => .fn f []
  | .global _ => .dead
def cellsT : TV → List TV
  | .agg cs => cs
  | x => [x]
def isCT : TV → Bool
  | .agg _ | .tup _ | .dead => false
  | _ => true

/-- A value as cells. -/
def cellsV : (τ : Ty) → Val τ → List TV
  | .int k, n => [.i k n]
  | .bool, b => [.b b]
  | .str, s => [.s s]
  | .term, t => [.i .i64 t.kind, .s t.name, .i .i64 t.sort, .sl .term t.kids 1]
  | .list a, l => [.sl a l 1]
  | .pair a b, p => cellsV a p.1 ++ cellsV b p.2
  | .one a, v => cellsV a v
def toTV : (τ : Ty) → Val τ → TV
  | .int k, n => .i k n
  | .bool, b => .b b
  | .str, s => .s s
  | .list a, l => .sl a l 1
  | .term, t => .agg (cellsV .term t)
  | .pair a b, p => .agg (cellsV (.pair a b) p)
  | .one a, v => .agg (cellsV (.one a) v)
def castL {τ : Ty} (l : List (Val τ)) (a : Ty) : Option (List (Val a)) := if h : τ = a then some (h ▸ l) else none
/-- A slice as a list. -/
def listT (rw : List TRow) (a : Ty) : TV → Option (List (Val a))
  | .nil => some []
  | .sl _ l _ => castL l a
  | .row id ver => match rw[id]? with
    | some R => match Nat.beq R.ver ver with
      | true => castL R.l a
      | false => none
    | none => none
  | _ => none
/- Cells as a value, and what is left of them. -/
def pInt (k : IntKind) : List TV → Option (Int × List TV)
  | .i k' n :: r => match decide (k' = k) with
    | true => some (n, r)
    | false => none
  | _ => none
def pBool : List TV → Option (Bool × List TV)
  | .b x :: r => some (x, r)
  | _ => none
def pStr : List TV → Option (List UInt8 × List TV)
  | .s x :: r => some (x, r)
  | _ => none
def pTerm (ls : TV → Option (List T)) : List TV → Option (T × List TV)
  | .i .i64 k :: .s n :: .i .i64 s :: x :: r => match ls x with
    | some l => some (.mk k n s l, r)
    | none => none
  | _ => none
def pList {β : Type} (ls : TV → Option β) : List TV → Option (β × List TV)
  | x :: r => match ls x with
    | some l => some (l, r)
    | none => none
  | _ => none
def pPair {σ β γ : Type} (p : List σ → Option (β × List σ)) (q : List σ → Option (γ × List σ)) (cs : List σ) : Option ((β × γ) × List σ) := match p cs with
  | some (x, r) => match q r with
    | some (y, r) => some ((x, y), r)
    | none => none
  | none => none
def parse (rw : List TRow) : (τ : Ty) → List TV → Option (Val τ × List TV)
  | .int k => pInt k
  | .bool => pBool
  | .str => pStr
  | .term => pTerm (listT rw .term)
  | .list a => pList (listT rw a)
  | .pair a b => pPair (parse rw a) (parse rw b)
  | .one a => parse rw a
def Ty.agg : Ty → Bool
  | .term | .pair _ _ | .one _ => true
  | _ => false
def fullT {β : Type} : Option (β × List TV) → Option β
  | some (v, []) => some v
  | _ => none
def isAggT : TV → Bool
  | .agg _ => true
  | _ => false
def packV (rw : List TRow) (τ : Ty) (x : TV) : Option (Val τ) := match beqB τ.agg (isAggT x) with
  | true => fullT (parse rw τ (cellsT x))
  | false => none
def packL (rw : List TRow) (τ : Ty) : List TV → Option (List (Val τ))
  | [] => some []
  | x :: l => match packV rw τ x with
    | some v => match packL rw τ l with
      | some vs => some (v :: vs)
      | none => none
    | none => none
def noRs1 : TV → Bool
  | .i .. | .b _ | .s _ | .c _ | .nil | .sl .. | .fn .. => true
  | _ => false
/-- It hands over no row of the run. -/
def noRs : TV → Bool
  | .agg cs => cs.all noRs1
  | x => noRs1 x

/-- Arguments: values, or functions that are named. -/
inductive ATy where
  | val (τ : Ty) | fn
@[reducible] def ArgsV : List ATy → Type
  | [] => Unit
  | .val τ :: r => Val τ × ArgsV r
  | .fn :: r => ArgsV r
@[reducible] def ResV : List Ty → Type
  | [] => Unit
  | [a] => Val a
  | a :: b :: r => Val a × ResV (b :: r)
def pNil {σ : Type} : List σ → Option Unit
  | [] => some ()
  | _ => none
def pVal {σ β γ : Type} (p : σ → Option β) (q : List σ → Option γ) : List σ → Option (β × γ)
  | x :: xs => match p x with
    | some v => match q xs with
      | some vs => some (v, vs)
      | none => none
    | none => none
  | [] => none
def pFn {γ : Type} (q : List TV → Option γ) : List TV → Option γ
  | .fn _ [] :: xs => q xs
  | _ => none
def parseA (rw : List TRow) : (ts : List ATy) → List TV → Option (ArgsV ts)
  | [] => pNil
  | .val τ :: r => pVal (packV rw τ) (parseA rw r)
  | .fn :: r => pFn (parseA rw r)
def fnsOf : List TV → List Nat
  | [] => []
  | .fn f _ :: l => f :: fnsOf l
  | _ :: l => fnsOf l
def unL : (ts : List Ty) → ResV ts → List TV
  | [], _ => []
  | [a], v => [toTV a v]
  | a :: b :: r, v => toTV a v.1 :: unL (b :: r) v.2
def oneOfT : List TV → TV
  | [x] => x
  | l => .tup l
structure Sig where
  args : List ATy
  res : List Ty
  fn : ArgsV args → Option (ResV res)
/-- Arguments of a call that turns boxes and rows; its results. -/
inductive SA where
  | val (τ : Ty) | row (τ : Ty) | box (τ : Ty) | nil
inductive RA where
  | val (τ : Ty) | row (τ : Ty)
@[reducible] def SArgs : List SA → Type
  | [] => Unit
  | .val τ :: r => Val τ × SArgs r
  | .row τ :: r => List (Val τ) × SArgs r
  | .box τ :: r => Val τ × SArgs r
  | .nil :: r => SArgs r
@[reducible] def SOut : List SA → Type
  | [] => Unit
  | .box τ :: r => Val τ × SOut r
  | .nil :: r => SOut r
  | .val _ :: r => SOut r
  | .row _ :: r => SOut r
@[reducible] def RV : List RA → Type
  | [] => Unit
  | .val τ :: r => Val τ × RV r
  | .row τ :: r => List (Val τ) × RV r
structure SSig where
  args : List SA
  res : List RA
  fn : SArgs args → Option (SOut args × RV res)
/-- How a value goes over a loop's head. -/
inductive Co where
  | keep | row (τ : Ty) (sh : Bool) | list (τ : Ty) | plist (τ : Ty) | box (cs : List Co)
structure TC where
  ty : Nat → Option TD
  el : Nat → Option Ty
  has : Nat → Bool
  pf : Nat → List Nat → Option Sig
  sf : Nat → Option SSig
  loop : Nat → Option (List (Tmp × Co))
  join : Nat → Option (List (Tmp × Co))
  nt : Nat
  np : Nat
/-- Functions whose calls turn boxes and rows. -/
def TC.rawT (c : TC) (f : Nat) : Bool := match c.has f with
  | true => false
  | false => match c.sf f with
    | some _ => true
    | none => false
abbrev TC.n2 (c : TC) : Nat × Nat := (c.nt, c.np)

/- Steps that hang on what is not known yet. -/
def obind {α β : Type} (x : Option α) (k : α → Option β) : Option β := match x with
  | some a => k a
  | none => none
def lcase {α β : Type} (l : List β) (a : α) (f : β → List β → α) : α := match l with
  | [] => a
  | x :: r => f x r
def lget {α : Type} (l : List α) (j : Int) : Option α := if 0 ≤ j then l[j.toNat]? else none
def inb (i : Int) (y : Nat) : Bool := decide (0 ≤ i ∧ i ≤ y)
def lset {α : Type} (l : List α) (j : Int) (v : α) : List α := if 0 ≤ j then l.set j.toNat v else l
def mroom (n : Int) (bytes : Nat) : Bool := decide (0 ≤ n ∧ n.toNat * bytes ≤ 2 ^ 47 ∧ n.toNat < 2 ^ 62)
def opEq : Operand → Operand → Bool
  | .tmp a, .tmp b => Nat.beq a b
  | .const (.int k a), .const (.int k' b) => decide (k = k') && decide (a = b)
  | _, _ => false
/-- All rows are shared from here on. -/
def shA (σ : TS) : TS := ⟨σ.bx, σ.rw.map fun R => ⟨R.τ, R.l, R.ver, R.sv, true⟩⟩
def isScT : Ty → Bool
  | .int _ | .bool | .str => true
  | _ => false
def lsub {α : Type} (l : List α) (a b : Int) : List α := (l.take b.toNat).drop a.toNat
def sroom (a b : List UInt8) : Bool := decide (((a.length + b.length : Nat) : Int) ≤ IntKind.i64.max)
def room (n bytes : Nat) : Bool := decide (n * bytes ≤ 2 ^ 47 ∧ n < 2 ^ 62)
def seq' (a b : List UInt8) : Bool := a == b
def slt (a b : List UInt8) : Bool := Op.bytesLess a b

section
variable {α : Type}
abbrev KT (α : Type) := TV → Option TS → Option α
def intT (op : BinOp) (k : IntKind) (a b : Int) (K : TV → Option α) : Option α :=
  match op with
  | .add => K (.i k (iw k (iadd a b)))
  | .sub => K (.i k (iw k (isub a b)))
  | .mul => K (.i k (iw k (imul a b)))
  | .quo => cond (ieq b 0) none (K (.i k (iw k (iquo a b))))
  | .rem => cond (ieq b 0) none (K (.i k (irem a b)))
  | .and => K (.i k (ibit .and k a b))
  | .or => K (.i k (ibit .or k a b))
  | .xor => K (.i k (ibit .xor k a b))
  | .andNot => K (.i k (ibit .andNot k a b))
  | .eql => K (.b (ieq a b))
  | .neq => K (.b (bnot (ieq a b)))
  | .lss => K (.b (ilt a b))
  | .leq => K (.b (ile a b))
  | .gtr => K (.b (ilt b a))
  | .geq => K (.b (ile b a))
  | _ => none
def strT (op : BinOp) (x y : List UInt8) (K : TV → Option α) : Option α :=
  match op with
  | .add => cond (sroom x y) (K (.s (x ++ y))) none
  | .eql => K (.b (seq' x y))
  | .neq => K (.b (bnot (seq' x y)))
  | .lss => K (.b (slt x y))
  | .leq => K (.b (xor' (slt x y) (seq' x y)))
  | .gtr => K (.b (bnot (xor' (slt x y) (seq' x y))))
  | .geq => K (.b (bnot (slt x y)))
  | _ => none
def isBool : Option TD → Bool
  | some ⟨_, _, _, _, .bool⟩ => true
  | _ => false
def binT (d : Option TD) (op : BinOp) (x y : TV) (K : TV → Option α) : Option α :=
  match x, y with
  | .i k a, .i k' b => match op with
    | .shl => cond (ilt b 0) none (K (.i k (ishl k a b)))
    | .shr => cond (ilt b 0) none (K (.i k (ishr k a b)))
    | op => match decide (k = k') with
      | true => intT op k a b K
      | false => none
  | .s a, .s b => strT op a b K
  | .b a, .b b => match op, isBool d with
    | .eql, true => K (.b (beqB a b))
    | .neq, true => K (.b (bnot (beqB a b)))
    | _, _ => none
  | _, _ => none
def fillT (place : Nat → Option (Nat × Nat)) (cells : List TV) : List (Nat × TV) → Option (List TV)
  | [] => some cells
  | (i, x) :: rest => match place i with
    | none => none
    | some (off, size) => match decide ((cellsT x).length = size) && decide (off + size ≤ cells.length) && (cellsT x).all isCT with
      | true => fillT place (cells.take off ++ (cellsT x ++ cells.drop (off + size))) rest
      | false => none
def partT (agg : Bool) (size : Nat) (cs : List TV) (o : Nat) : Option TV :=
  match agg with
  | true => match decide (o + size ≤ cs.length) with
    | true => some (.agg ((cs.drop o).take size))
    | false => none
  | false => cs[o]?
def boundT (d : Int) (E : Env) : Option Operand → Option Int
  | none => some d
  | some x => match evT E x with
    | .i _ n => some n
    | _ => none
/-- Operations but calls. -/
def stepT (c : TC) (E : Env) (σ : TS) (op : Op) (K : KT α) : Option α :=
  match op with
  | .move x | .assign x => K (evT E x) none
  | .pick x a b => match evT E x with
    | .b y => cond y (K (evT E a) none) (K (evT E b) none)
    | _ => none
  | .alloc e => match c.ty e with
    | some d => match d.zero.all base with
      | true => K (.ptr σ.bx.length 0) (some { σ with bx := σ.bx ++ [d.zero.map ofBase] })
      | false => none
    | none => none
  | .box e x => match c.ty e with
    | some _ => match (cellsT (evT E x)).all isCT with
      | true => K (.ptr σ.bx.length 0) (some { σ with bx := σ.bx ++ [cellsT (evT E x)] })
      | false => none
    | none => none
  | .build t parts => match c.ty t with
    | some ⟨_, _, _, z, .struct fs⟩ => match z.all base with
      | true => match fillT (fun i => match fs[i]? with | some f => some (f.1, f.2.1) | none => none) (z.map ofBase) (parts.toList.map fun p => (p.1, evT E p.2)) with
        | some cs => K (.agg cs) none
        | none => none
      | false => none
    | _ => none
  | .buildSlice t n parts => match c.ty t, c.el t with
    | some ⟨_, _, _, _, .slice _ k _ _⟩, some τ => match decide (k = τ.size) && decide (parts.size = n) && decide (n * k ≤ 2 ^ 24) && decide (0 < k) && (parts.toList.zipIdx.all fun p => decide (p.1.1 = p.2)) with
      | true => match packL σ.rw τ (parts.toList.map fun p => evT E p.2) with
        | some vs => K (.sl τ vs 2) (match (parts.toList.all fun p => noRs (evT E p.2)) with | true => none | false => some (shA σ))
        | none => none
      | false => none
    | _, _ => none
  | .load t a => match c.ty t with
    | some d => match evT E a with
      | .ptr b o => match σ.bx[b]? with
        | some cs => match partT d.agg d.size cs o with
          | some x => K x none
          | none => none
        | none => none
      | .ept cs o => match partT d.agg d.size cs o with
        | some x => K x none
        | none => none
      | .rpt id ver sv _ cs o => match σ.rw[id]? with
        | some R => match Nat.beq R.ver ver && Nat.beq R.sv sv with
          | true => match partT d.agg d.size cs o with
            | some x => K x none
            | none => none
          | false => none
        | none => none
      | _ => none
    | none => none
  | .store t a x => match c.ty t, evT E a with
    | some d, .ptr b o => match σ.bx[b]? with
      | some cs => match decide ((cellsT (evT E x)).length = d.size) && decide (o + d.size ≤ cs.length) && (cellsT (evT E x)).all isCT with
        | true => K (.tup []) (some { σ with bx := σ.bx.set b (cs.take o ++ (cellsT (evT E x) ++ cs.drop (o + d.size))) })
        | false => none
      | none => none
    | some d, .rpt id ver sv i cs o => match σ.rw[id]? with
      | some R => match Nat.beq R.ver ver && Nat.beq R.sv sv && !R.sh && decide ((cellsT (evT E x)).length = d.size) && decide (o + d.size ≤ cs.length) && (cellsT (evT E x)).all noRs1 with
        | true => match fullT (parse σ.rw R.τ (cs.take o ++ (cellsT (evT E x) ++ cs.drop (o + d.size)))) with
          | some v => K (.tup []) (some { σ with rw := σ.rw.set id ⟨R.τ, lset R.l i v, R.ver, R.sv + 1, R.sh⟩ })
          | none => none
        | false => none
      | none => none
    | _, _ => none
  | .makeSlice t n m => match c.ty t, c.el t, evT E n with
    | some ⟨_, _, _, _, .slice _ k bytes z⟩, some τ, .i _ a => match opEq n m && decide (k = τ.size) && decide (0 < k) && decide (z.length = k) && z.all base with
      | true => match fullT (parse [] τ (z.map ofBase)) with
        | some v => cond (mroom a bytes) (K (.row σ.rw.length 0) (some { σ with rw := σ.rw ++ [⟨τ, List.replicate a.toNat v, 0, 0, false⟩] })) none
        | none => none
      | false => none
    | _, _, _ => none
  | .nilCheck x => match evT E x with
    | .ptr b o => K (.ptr b o) none
    | .ept cs o => K (.ept cs o) none
    | .rpt id ver sv i cs o => K (.rpt id ver sv i cs o) none
    | _ => none
  | .binOp op t x y _ => binT (c.ty t) op (evT E x) (evT E y) fun v => K v none
  | .unOp op _ x => match op, evT E x with
    | .neg, .i k n => K (.i k (iw k (isub 0 n))) none
    | .not, .b y => K (.b (bnot y)) none
    | _, _ => none
  | .convert s d x => match c.ty s, c.ty d, evT E x with
    | some _, some ⟨_, _, _, _, .int k⟩, .i _ n => K (.i k (iw k n)) none
    | some _, some ⟨_, _, _, _, .string⟩, .s y => K (.s y) none
    | _, _, _ => none
  | .makeFunc (.func f) fs cs => match fs.toList with
    | [] => K (.fn f (cs.toList.map (evT E))) none
    | _ => none
  | .slice t x lo hi none => match c.ty t, evT E x with
    | some ⟨_, _, _, _, .string⟩, .s y => match boundT y.length E hi with
      | some h => match boundT 0 E lo with
        | some l => cond (inb h y.length) (cond (inb l h.toNat) (K (.s (lsub y l h)) none) none) none
        | none => none
      | none => none
    | some ⟨_, _, _, _, .slice _ k _ _⟩, .sl τ y lv => match decide (τ.size = k) && pos lv with
      | true => match boundT y.length E hi with
        | some h => match boundT 0 E lo with
          | some l => cond (inb h y.length) (cond (inb l h.toNat) (K (.sl τ (lsub y l h) 1) none) none) none
          | none => none
        | none => none
      | false => none
    | some ⟨_, _, _, _, .slice _ _ _ _⟩, .nil => match boundT 0 E hi with
      | some h => match boundT 0 E lo with
        | some l => cond (inb h 0) (cond (inb l h.toNat) (K .nil none) none) none
        | none => none
      | none => none
    | _, _ => none
  | .fieldAddr t x i => match c.ty t with
    | some ⟨_, _, _, _, .struct fs⟩ => match fs[i]? with
      | some (off, size, _) => match size with
        | 0 => none
        | _ + 1 => match evT E x with
          | .ptr b o => K (.ptr b (o + off)) none
          | .ept cs o => K (.ept cs (o + off)) none
          | .rpt id ver sv i cs o => K (.rpt id ver sv i cs (o + off)) none
          | _ => none
      | none => none
    | _ => none
  | .field t x i => match c.ty t, evT E x with
    | some ⟨_, _, _, _, .struct fs⟩, .agg cs => match fs[i]? with
      | some (off, size, g) => match partT g size cs off with
        | some y => K y none
        | none => none
      | none => none
    | _, _ => none
  | .indexAddr t x i => match c.ty t, evT E i with
    | some ⟨_, _, _, _, .slice _ k _ _⟩, .i _ j => match evT E x with
      | .sl τ l _ => match decide (τ.size = k) with
        | true => obind (lget l j) fun v => K (.ept (cellsV τ v) 0) none
        | false => none
      | .row id ver => match σ.rw[id]? with
        | some R => match Nat.beq R.ver ver && decide (R.τ.size = k) with
          | true => obind (lget R.l j) fun v => K (.rpt id ver R.sv j (cellsV R.τ v) 0) none
          | false => none
        | none => none
      | _ => none
    | _, _ => none
  | .index t x i => match c.ty t, evT E x, evT E i with
    | some ⟨_, _, _, _, .string⟩, .s y, .i _ j => obind (lget y j) fun v => K (.i .u8 v.toNat) none
    | _, _, _ => none
  | .extract x i => match evT E x with
    | .tup vs => match vs[i]? with
      | some y => K y none
      | none => none
    | _ => none
  | _ => none
def appT (k bytes : Nat) (σ : TS) (τ : Ty) (s : TV) (xs : List (Val τ)) (K : KT α) : Option α :=
  match s with
  | .nil => lcase xs (K .nil none) fun x r => cond (room (r.length + 1) bytes) (K (.row σ.rw.length 0) (some { σ with rw := σ.rw ++ [⟨τ, x :: r, 0, 0, false⟩] })) none
  | .sl τ' l lv => match decide (1 < lv) with
    | true => match castL l τ with
      | some l => cond (room (l.length + xs.length) bytes) (lcase xs (K s none) fun x r => K (.row σ.rw.length 0) (some { σ with rw := σ.rw ++ [⟨τ, l ++ (x :: r), 0, 0, false⟩] })) none
      | none => none
    | false => none
  | .row id ver => match σ.rw[id]? with
    | some R => match Nat.beq R.ver ver with
      | true => match castL R.l τ with
        | some l => cond (room (l.length + xs.length) bytes) (K (.row id (ver + 1)) (some { σ with rw := σ.rw.set id ⟨τ, l ++ xs, ver + 1, R.sv, R.sh⟩ })) none
        | none => none
      | false => none
    | none => none
  | _ => none
def builtinT (c : TC) (σ : TS) (b : Builtin) (ts : Array TypeId) (args : List TV) (K : KT α) : Option α :=
  match b, args with
  | .len, [x] => match ts[0]? with
    | some t => match c.ty t with
      | some d => match d.k, x with
        | .string, .s y => K (.i .i64 y.length) none
        | .slice .., .nil => K (.i .i64 0) none
        | .slice .., .sl _ l _ => K (.i .i64 l.length) none
        | .slice .., .row id ver => match σ.rw[id]? with
          | some R => match Nat.beq R.ver ver with
            | true => K (.i .i64 R.l.length) none
            | false => none
          | none => none
        | _, _ => none
      | none => none
    | none => none
  | .append, [s, x] => match ts[0]?, ts[1]? with
    | some t, some u => match c.ty t, c.ty u, c.el t with
      | some ⟨_, _, _, _, .slice _ k bytes z⟩, some ⟨_, _, _, _, .slice _ _ _ _⟩, some τ => match decide (0 < k) && decide (z.length = k) && decide (k = τ.size) with
        | true => match listT σ.rw τ x with
          | some xs => appT k bytes σ τ s xs K
          | none => none
        | false => none
      | _, _, _ => none
    | _, _ => none
  | .max, [.i k a, .i k' b] => match decide (k = k') with | true => K (.i k (imax a b)) none | false => none
  | .min, [.i k a, .i k' b] => match decide (k = k') with | true => K (.i k (imin a b)) none | false => none
  | _, _ => none
def rowS (rw : List TRow) (τ : Ty) : TV → Option (List (Val τ) × List Nat)
  | .nil => some ([], [])
  | .sl a l lv => match castL l τ, decide (1 < lv) with
    | some [], true => some ([], [])
    | _, _ => none
  | .row id ver => match rw[id]? with
    | some R => match Nat.beq R.ver ver && !R.sh with
      | true => match castL R.l τ with
        | some l => some (l, [id])
        | none => none
      | false => none
    | none => none
  | _ => none
def boxS (rw : List TRow) (bx : List (List TV)) (τ : Ty) : TV → Option (Val τ × Nat)
  | .ptr b 0 => match bx[b]? with
    | some cs => match cs.all noRs1, fullT (parse rw τ cs) with
      | true, some v => some (v, b)
      | _, _ => none
    | none => none
  | _ => none
/-- What a call that turns boxes and rows is handed: values, boxes, rows. -/
def sVals (σ : TS) : (sas : List SA) → List TV → Option (SArgs sas × List Nat × List Nat)
  | [], [] => some ((), [], [])
  | .val τ :: r, x :: xs => match noRs x, packV σ.rw τ x with
    | true, some v => match sVals σ r xs with
      | some (vs, q) => some ((v, vs), q)
      | none => none
    | _, _ => none
  | .row τ :: r, x :: xs => match rowS σ.rw τ x with
    | some (l, ids) => match sVals σ r xs with
      | some (vs, bs, rs) => some ((l, vs), bs, ids ++ rs)
      | none => none
    | none => none
  | .box τ :: r, x :: xs => match boxS σ.rw σ.bx τ x with
    | some (v, b) => match sVals σ r xs with
      | some (vs, bs, rs) => some ((v, vs), b :: bs, rs)
      | none => none
    | none => none
  | .nil :: r, .nil :: xs => sVals σ r xs
  | _, _ => none
def ndN : List Nat → Bool
  | [] => true
  | b :: l => (l.all fun c => !Nat.beq b c) && ndN l
def killT (rw : List TRow) (ids : List Nat) : List TRow := ids.foldl (fun l i => l.modify i fun R => ⟨R.τ, [], R.ver + 1, R.sv, false⟩) rw
def boxO : (sas : List SA) → SOut sas → List (List TV)
  | [], _ => []
  | .box τ :: r, o => cellsV τ o.1 :: boxO r o.2
  | .nil :: r, o => boxO r o
  | .val _ :: r, o => boxO r o
  | .row _ :: r, o => boxO r o
def setBs (bx : List (List TV)) : List Nat → List (List TV) → List (List TV)
  | b :: bs, x :: xs => setBs (bx.set b x) bs xs
  | _, _ => bx
def resS : (rs : List RA) → Nat → RV rs → List TV
  | [], _, _ => []
  | .val τ :: r, L, v => toTV τ v.1 :: resS r L v.2
  | .row _ :: r, L, v => .row L 0 :: resS r (L + 1) v.2
def rowO : (rs : List RA) → RV rs → List TRow
  | [], _ => []
  | .val _ :: r, v => rowO r v.2
  | .row τ :: r, v => ⟨τ, v.1, 0, 0, false⟩ :: rowO r v.2
def callST (c : TC) (σ : TS) (f : Nat) (args : List TV) (K : KT α) : Option α := match c.sf f with
  | some g => match sVals σ g.args args with
    | some (a, bs, rs) => match ndN bs && ndN rs with
      | true => obind (g.fn a) fun v => K (oneOfT (resS g.res σ.rw.length v.2)) (some ⟨setBs σ.bx bs (boxO g.args v.1), killT σ.rw rs ++ rowO g.res v.2⟩)
      | false => none
    | none => none
  | none => none
def callT (c : TC) (σ : TS) (f : Nat) (args : List TV) (K : KT α) : Option α :=
  match c.has f, c.pf f (fnsOf args) with
  | true, some g => match parseA σ.rw g.args args with
    | some sas => obind (g.fn sas) fun v => K (oneOfT (unL g.res v)) (match args.all noRs || g.res.all isScT with | true => none | false => some (shA σ))
    | none => none
  | true, none => none
  | false, _ => callST c σ f args K
def opT (c : TC) (E : Env) (σ : TS) (op : Op) (K : KT α) : Option α :=
  match op with
  | .call ⟨.builtin b, args, ts⟩ => builtinT c σ b ts (args.toList.map (evT E)) K
  | .call ⟨.value g, args, _⟩ => match evT E g with
    | .fn f [] => callT c σ f (args.toList.map (evT E)) K
    | _ => none
  | .call _ => none
  | op => stepT c E σ op K
def putT (c : TC) (E : Env) (d : Option Tmp) (x : TV) (K : Env → Option α) : Option α := match d with
  | none => K E
  | some d => match Nat.blt d c.nt with
    | true => K ((d, x) :: E)
    | false => none
def wantT (ops : Array Oper) (E : Env) (o : Oper) (K : Bool → Env → Option α) : Option α :=
  match o.guard with
  | none => K true E
  | some (j, want) => match (ops[j]?).bind (·.dst) with
    | none => none
    | some d => match get E d with
      | .b x => match want with
        | true => cond x (K true ((d, .b true) :: E)) (K false ((d, .b false) :: E))
        | false => cond x (K false ((d, .b true) :: E)) (K true ((d, .b false) :: E))
      | .tup [] => K false E
      | _ => none
def opsT (c : TC) (ops : Array Oper) (draw : Bool) : List Oper → Env → TS → (Env → TS → Option α) → Option α
  | [], E, σ, K => K E σ
  | o :: rest, E, σ, K => wantT ops E o fun w E => match w with
    | true => opT c E σ o.op fun x σ' => match σ' with
      | none => putT c E o.dst x fun E => opsT c ops draw rest E σ K
      | some σ' => match draw && !loudOp c.rawT o.op with
        | true => none
        | false => putT c E o.dst x fun E => opsT c ops draw rest E σ' K
    | false => putT c E o.dst (.tup []) fun E => opsT c ops draw rest E σ K

/- Over a loop's head. -/
structure Mv where
  E : Env
  bx : List (List TV)
  rw : List TRow
  mb : List (Nat × Nat)
  mr : List (Nat × Nat)
def assoc (l : List (Nat × Nat)) (b : Nat) : Option Nat := match l with
  | [] => none
  | p :: r => match Nat.beq p.1 b with
    | true => some p.2
    | false => assoc r b
def plainT : TV → Bool
  | .i .. | .b _ | .s _ | .c _ | .nil | .sl .. => true
  | .fn _ cs => cs.isEmpty
  | .agg cs => cs.all fun | .i .. | .b _ | .s _ | .c _ | .nil | .sl .. => true | _ => false
  | _ => false
mutual
def mvT (σ : TS) (co : Co) (x : TV) (m : Mv) (K : TV → Mv → Option α) : Option α :=
  match co with
  | .keep => match plainT x with
    | true => K x m
    | false => K .dead m
  | .list τ => match x with
    | .nil => K (.sl τ [] 1) m
    | .sl a l _ => match castL l τ with
      | some l => K (.sl τ l 1) m
      | none => none
    | _ => K .dead m
  | .plist τ => match x with
    | .nil => K (.sl τ [] 1) m
    | .sl a l _ => match castL l τ with
      | some l => K (.sl τ l 1) m
      | none => none
    | _ => K .dead m
  | .row τ sh => match x with
    | .nil => K (.row m.rw.length 0) { m with rw := m.rw ++ [⟨τ, [], 0, 0, sh⟩] }
    | .sl a l lv => match castL l τ, decide (1 < lv) with
      | some l, true => match sh with
        | true => K (.row m.rw.length 0) { m with rw := m.rw ++ [⟨τ, l, 0, 0, true⟩] }
        | false => match l with
          | [] => K (.row m.rw.length 0) { m with rw := m.rw ++ [⟨τ, [], 0, 0, false⟩] }
          | _ => none
      | _, _ => none
    | .row id ver => match σ.rw[id]? with
      | some R => match Nat.beq R.ver ver && (sh || !R.sh) with
        | true => match castL R.l τ with
          | some l => match assoc m.mr id with
            | some id' => K (.row id' 0) m
            | none => K (.row m.rw.length 0) { m with rw := m.rw ++ [⟨τ, l, 0, 0, sh⟩], mr := (id, m.rw.length) :: m.mr }
          | none => none
        | false => none
      | none => none
    | _ => none
  | .box cs => match x with
    | .ptr b 0 => match assoc m.mb b with
      | some b' => K (.ptr b' 0) m
      | none => match σ.bx[b]? with
        | some xs => mvL σ cs xs m fun ys m => match assoc m.mb b with
          | none => K (.ptr m.bx.length 0) { m with bx := m.bx ++ [ys], mb := (b, m.bx.length) :: m.mb }
          | some _ => none
        | none => none
    | _ => none
def mvL (σ : TS) (cs : List Co) (xs : List TV) (m : Mv) (K : List TV → Mv → Option α) : Option α :=
  match cs, xs with
  | [], [] => K [] m
  | co :: cs, x :: xs => mvT σ co x m fun y m => mvL σ cs xs m fun ys m => K (y :: ys) m
  | _, _ => none
end
/-- The first boxes keep their numbers. -/
def pinB (mb : List (Nat × Nat)) : Nat → Bool
  | 0 => true
  | n + 1 => (match assoc mb n with | some j => Nat.beq n j | none => false) && pinB mb n
def mvE (np : Nat) (σ : TS) (E : Env) : List (Tmp × Co) → Mv → (Env → TS → Option α) → Option α
  | [], m, K => match pinB m.mb np with
    | true => K m.E ⟨m.bx, m.rw⟩
    | false => none
  | (t, co) :: r, m, K => mvT σ co (get E t) m fun y m => mvE np σ E r { m with E := m.E ++ [(t, y)] } K

/-- Rows that are lists from a loop's head on: they are shared. -/
def pur1T (E : Env) (σ : TS) (t : Tmp) (τ : Ty) (K : Env → TS → Option α) : Option α := match get E t with
  | .i .. => K E σ
  | .b _ => K E σ
  | .s _ => K E σ
  | .c _ => K E σ
  | .nil => K E σ
  | .sl .. => K E σ
  | .row id ver => match σ.rw[id]? with
    | some R => match Nat.beq R.ver ver with
      | true => match castL R.l τ with
        | some l => K ((t, .sl τ l 1) :: E) (shA σ)
        | none => none
      | false => none
    | none => none
  | .dead => K E (shA σ)
  | _ => none
def purT : List (Tmp × Co) → Env → TS → (Env → TS → Option α) → Option α
  | [], E, σ, K => K E σ
  | (t, co) :: r, E, σ, K => match co with
    | .plist τ => pur1T E σ t τ fun E σ => purT r E σ K
    | _ => purT r E σ K
def boxT (E : Env) (ops : Array Oper) (k : Nat) (t : Tmp) : Option Nat := match rootA ops k t with
  | some u => match get E u with
    | .ptr b _ => some b
    | _ => none
  | none => none
def apart1T (E : Env) (ops : Array Oper) (j : Nat) (o : Oper) (i : Nat) (q : Oper) : Bool := match o.op, q.op with
  | .store _ (.tmp a) _, .load _ (.tmp b) => match boxT E ops j a, boxT E ops i b with
    | some x, some y => !Nat.beq x y
    | _, _ => false
  | _, _ => false
def barsT (raw : Nat → Bool) (E : Env) (ops : Array Oper) (j : Nat) (o : Oper) (i : Nat) (q : Oper) : Bool :=
  (match q.dst with | some d => (looks ops o).contains d | none => false) || (clash raw o q && !(apart1T E ops j o i q || apart1T E ops i q j o))
def gateT (raw : Nat → Bool) (E : Env) (ops : Array Oper) (draw : Bool) : Bool := match draw with
  | true =>
    let b := masks ops.toList []
    ops.toList.zipIdx.all fun (o, j) => ((preds o).all fun e => decide (e < j)) && ops.toList.zipIdx.all fun (q, i) =>
      decide (i = j) || !barsT raw E ops j o i q || (b.getD (max i j) 0).testBit (min i j)
  | false => true
def firstReg : Code → Nat
  | .region id _ _ => id
  | .seq a _ => firstReg a
  | .block _ b => firstReg b
  | .loop b => firstReg b
  | .cond _ a _ => firstReg a
  | _ => 0
def purSlots : List (Tmp × Co) → List Nat
  | [] => []
  | (t, co) :: r => match co with
    | .plist _ => t :: purSlots r
    | _ => purSlots r
def TC.pur (c : TC) (b : Code) : List Nat := match c.loop (firstReg b) with
  | some l => purSlots l
  | none => []
def setB (E : Env) (x : Operand) (b : Bool) : Env := match x with
  | .tmp t => (t, .b b) :: E
  | _ => E
/-- Up to the next loop's head. -/
def runT (c : TC) (fin : Env → TS → Option α) (L : List It → Env → TS → Option α) : Nat → List It → Ex → Env → TS → Option α
  | 0, _, _, _, _ => none
  | _ + 1, [], e, E, σ => match e with
    | .exit _ => none
    | _ => fin E σ
  | N + 1, .code cd :: k, e, E, σ => match e with
    | .normal => match cd with
      | .skip => runT c fin L N k .normal E σ
      | .label _ => runT c fin L N k .normal E σ
      | .region _ ops d => match gateT c.rawT E ops d with
        | true => opsT c ops d ops.toList E σ fun E σ => runT c fin L N k .normal E σ
        | false => none
      | .seq a b => runT c fin L N (.code a :: .code b :: k) .normal E σ
      | .cond x a b => match evT E x with
        | .b y => cond y (runT c fin L N (.code a :: k) .normal (setB E x true) σ) (runT c fin L N (.code b :: k) .normal (setB E x false) σ)
        | _ => none
      | .block id b => runT c fin L N (.code b :: .blk id :: k) .normal E σ
      | .loop b => match c.loop (firstReg b) with
        | some l => purT l E σ fun E σ => mvE c.np σ E l ⟨[], [], [], [], []⟩ fun E σ => L (.code (.loop b) :: k) E σ
        | none => none
      | .exit id => runT c fin L N k (.exit id) E σ
      | .ret => runT c fin L N k .ret E σ
      | _ => none
    | e => runT c fin L N k e E σ
  | N + 1, .blk id :: k, e, E, σ => match e with
    | .exit i => match Nat.beq i id with
      | true => match c.join id with
        | some l => mvE c.np σ E l ⟨[], [], [], [], []⟩ fun E σ => L k E σ
        | none => runT c fin L N k .normal E σ
      | false => runT c fin L N k (.exit i) E σ
    | .normal => match c.join id with
      | some l => mvE c.np σ E l ⟨[], [], [], [], []⟩ fun E σ => L k E σ
      | none => runT c fin L N k .normal E σ
    | .ret => runT c fin L N k .ret E σ
  | _ + 1, .ops .. :: _, _, _, _ => none
def startT (c : TC) (fin : Env → TS → Option α) (L : List It → Env → TS → Option α) (N : Nat) (st : List It) (E : Env) (σ : TS) : Option α :=
  match st with
  | .code (.loop b) :: k => match c.loop (firstReg b) with
    | some l => purT l E σ fun E σ => runT c fin L N (.code b :: .code (.loop b) :: k) .normal E σ
    | none => runT c fin L N (.code b :: .code (.loop b) :: k) .normal E σ
  | st => runT c fin L N st .normal E σ
def runL (c : TC) (fin : Env → TS → Option α) (N : Nat) : Nat → List It → Env → TS → Option α
  | 0 => fun _ _ _ => none
  | n + 1 => startT c fin (runL c fin N n) N
end
/-- What is handed back. -/
def resT (c : TC) (E : Env) (σ : TS) : ResultVar → Option TV
  | .tmp t => some (get E t)
  | .cell a t => match c.ty t, get E a with
    | some d, .ptr b o => match σ.bx[b]? with
      | some cs => partT d.agg d.size cs o
      | none => none
    | _, _ => none
def finT (c : TC) : (ts : List Ty) → List ResultVar → Env → TS → Option (ResV ts)
  | [], [], _, _ => some ()
  | [a], [r], E, σ => match resT c E σ r with
    | some x => packV σ.rw a x
    | none => none
  | a :: b :: ts, r :: rs, E, σ => match resT c E σ r with
    | some x => match packV σ.rw a x with
      | some v => match finT c (b :: ts) rs E σ with
        | some vs => some (v, vs)
        | none => none
      | none => none
    | none => none
  | _, _, _, _ => none
/- A call that turns boxes and rows: where it begins, what it ends with. -/
def sEnv : (sas : List SA) → Nat → Nat → SArgs sas → List TV
  | [], _, _, _ => []
  | .val τ :: r, nb, nr, a => toTV τ a.1 :: sEnv r nb nr a.2
  | .row _ :: r, nb, nr, a => .row nr 0 :: sEnv r nb (nr + 1) a.2
  | .box _ :: r, nb, nr, a => .ptr nb 0 :: sEnv r (nb + 1) nr a.2
  | .nil :: r, nb, nr, a => .nil :: sEnv r nb nr a
def sBx : (sas : List SA) → SArgs sas → List (List TV)
  | [], _ => []
  | .nil :: r, a => sBx r a
  | .val _ :: r, a => sBx r a.2
  | .row _ :: r, a => sBx r a.2
  | .box τ :: r, a => cellsV τ a.1 :: sBx r a.2
def sRw : (sas : List SA) → SArgs sas → List TRow
  | [], _ => []
  | .nil :: r, a => sRw r a
  | .val _ :: r, a => sRw r a.2
  | .row τ :: r, a => ⟨τ, a.1, 0, 0, false⟩ :: sRw r a.2
  | .box _ :: r, a => sRw r a.2
def outB (σ : TS) : (sas : List SA) → Nat → Option (SOut sas × Bool)
  | [], _ => some ((), true)
  | .nil :: r, n => outB σ r n
  | .val _ :: r, n => outB σ r n
  | .row _ :: r, n => outB σ r n
  | .box τ :: r, n => match σ.bx[n]? with
    | some cs => match fullT (parse σ.rw τ cs), outB σ r (n + 1) with
      | some v, some (o, q) => some ((v, o), cs.all noRs1 && q)
      | _, _ => none
    | none => none
def outR (c : TC) (E : Env) (σ : TS) : (rs : List RA) → List ResultVar → Option (RV rs × List Nat × Bool)
  | [], [] => some ((), [], true)
  | .val a :: rs, r :: l => match resT c E σ r with
    | some x => match packV σ.rw a x, outR c E σ rs l with
      | some v, some (vs, ids, q) => some ((v, vs), ids, noRs x && q)
      | _, _ => none
    | none => none
  | .row a :: rs, r :: l => match resT c E σ r with
    | some x => match rowS σ.rw a x, outR c E σ rs l with
      | some (v, i), some (vs, ids, q) => some ((v, vs), i ++ ids, q)
      | _, _ => none
    | none => none
  | _, _ => none
def finS (c : TC) (sas : List SA) (rs : List RA) (l : List ResultVar) (E : Env) (σ : TS) : Option (SOut sas × RV rs) := match outB σ sas 0, outR c E σ rs l with
  | some (o, q), some (v, ids, q') => match ndN ids && (ids.isEmpty || (q && q')) with
    | true => some (o, v)
    | false => none
  | _, _ => none
def envOf : Nat → List TV → Env
  | _, [] => []
  | n, x :: l => (n, x) :: envOf (n + 1) l
end Go.AmYtmodnblfcikjlaaGreat
namespace Go.AmYtmodnblfcikjlaaGreat
open Go Go.RowKit Go.GxYtmodnblfcikjlaaGreat

mutual
/-- The cells of a term. -/
def encT : T → List AV
  | .mk k n s l => [.v (.int .i64 k), .v (.string ⟨n.toArray⟩), .v (.int .i64 s), .sl 4 (encL l) 0]
def encL : List T → List (List AV)
  | [] => []
  | t :: l => encT t :: encL l
end
mutual
def decS : AV → Option (List T)
  | .v (.slice none 0 0) => some []
  | .sl 4 es _ => decL es
  | _ => none
def decL : List (List AV) → Option (List T)
  | [] => some []
  | e :: es => match decT e with
    | some t => match decL es with
      | some l => some (t :: l)
      | none => none
    | none => none
def decT : List AV → Option T
  | [.v (.int .i64 k), .v (.string n), .v (.int .i64 s), x] => match decS x with
    | some l => some (.mk k n.data.toList s l)
    | none => none
  | _ => none
end
mutual
theorem dec_encT : ∀ t : T, decT (encT t) = some t
  | .mk k n s l => by
    rw [encT, decT, decS, dec_encL l]
theorem dec_encL : ∀ l : List T, decL (encL l) = some l
  | [] => by rw [encL, decL]
  | t :: l => by rw [encL, decL, dec_encT t, dec_encL l]
end
theorem SubL.len : ∀ {xs ys : List AV}, SubL xs ys → xs.length = ys.length
  | _, _, .nil => rfl
  | _, _, .cons _ t => by simp [t.len]
theorem SubL.get : ∀ {xs ys : List AV}, SubL xs ys → ∀ (i : Nat) (y : AV), ys[i]? = some y → ∃ x, xs[i]? = some x ∧ Sub x y
  | _, _, .nil, i, y, h => by simp at h
  | _, _, .cons a t, 0, y, h => by simp at h; subst h; exact ⟨_, rfl, a⟩
  | _, _, .cons a t, i + 1, y, h => by simpa using t.get i y (by simpa using h)
theorem subL_agg {xs ys : List AV} (h : SubL xs ys) : Sub (.agg xs) (.agg ys) := by
  intro Γ u hu
  cases hu with
  | agg cs us hn h1 hr =>
    have := h.rep (RepL.mk hn hr)
    exact .agg _ _ this.len h1 this.rep
/- Terms stay closed in a run. -/
end Go.AmYtmodnblfcikjlaaGreat
namespace Go.AmYtmodnblfcikjlaaGreat
open Go Go.RowKit

def killR (R : Row) : Row := ⟨R.k, [], 0, 1⟩
theorem none_rep {Γ Γ' : Gh} {x : AV} {u : Value} (hm : ∀ b o u, Γ.mem b o = some u → Γ'.mem b o = some u) (h : Rep Γ x u) (h1 : rb x = []) (h2 : rr x = []) : Rep Γ' x u := by
  have := ren_rep (Γ' := Γ') (fb := fun b => b) (fr := fun r => r) hm h (by rw [h1]; intro b hb; cases hb) (by rw [h2]; intro b hb; cases hb)
  rwa [ren_id] at this
theorem rbL_mem : ∀ {cs : List AV}, rbL cs = [] → ∀ x ∈ cs, rb x = []
  | [], _, x, hx => by cases hx
  | y :: cs, h, x, hx => by
    simp only [rbL, List.append_eq_nil_iff] at h
    rcases List.mem_cons.1 hx with rfl | hx
    · exact h.1
    · exact rbL_mem h.2 x hx
theorem rrL_mem : ∀ {cs : List AV}, rrL cs = [] → ∀ x ∈ cs, rr x = []
  | [], _, x, hx => by cases hx
  | y :: cs, h, x, hx => by
    simp only [rrL, List.append_eq_nil_iff] at h
    rcases List.mem_cons.1 hx with rfl | hx
    · exact h.1
    · exact rrL_mem h.2 x hx
theorem none_repL {Γ Γ' : Gh} {cs : List AV} {us : List Value} (hm : ∀ b o u, Γ.mem b o = some u → Γ'.mem b o = some u) (h : RepL Γ cs us) (h1 : rbL cs = []) (h2 : rrL cs = []) : RepL Γ' cs us :=
  ⟨h.len, fun i x u hx hu => none_rep hm (h.rep i x u hx hu) (rbL_mem h1 x (List.mem_of_getElem? hx)) (rrL_mem h2 x (List.mem_of_getElem? hx))⟩
theorem plain_none {x : AV} (h : plainC x = true) : rb x = [] ∧ rr x = [] := (plain_ren (fb := fun b => b) (fr := fun r => r) h).2
/-- Rows that are handed back: where they come from, what they are. -/
structure NewOk (σ1 : St) (fs : List Nat) (so : Option Nat) (R : Row) : Prop where
  fz : R.fz = 0
  ver : R.ver = 0
  pos : 0 < R.k
  len : ∀ e ∈ R.c, e.length = R.k
  plain : ∀ e ∈ R.c, ∀ x ∈ e, plainC x = true
  src : match so with
    | none => R.c = []
    | some j => ∃ Q, σ1.rw[j]? = some Q ∧ Q.k = R.k ∧ Q.fz = 0 ∧ Q.c.length = R.c.length ∧ (∀ (i : Nat) (e e' : List AV), Q.c[i]? = some e → R.c[i]? = some e' → SubL e e') ∧ j ∉ fs
def newGh (Γ1 : Gh) (m : Nat → Nat → Option Value) (nb L : Nat) (news : List (Option Nat × Row)) : Gh :=
  { mem := m, nb := nb, β := Γ1.β, nr := L + news.length, ver := fun r => if r < L then Γ1.ver r + 1 else 0,
    k := fun r => if r < L then Γ1.k r else match news[r - L]? with | some p => p.2.k | none => 1,
    cur := fun r => if r < L then Γ1.cur r else match news[r - L]? with | some (some j, _) => Γ1.cur j | _ => 0,
    sz := fun r => if r < L then 0 else match news[r - L]? with | some (some j, _) => Γ1.sz j | _ => 0 }
theorem settle {Γ0 Γ1 : Gh} {σ0 σ1 : St} {w0 w1 : World} (h0 : Inv Γ0 σ0 w0) (hx : Ext Γ0 w0 Γ1 w1) (h1 : Inv Γ1 σ1 w1) (hbl : σ0.bx.length ≤ σ1.bx.length)
    (outs : List (List AV)) (hol : outs.length = σ0.bx.length) (fs : List Nat) (hob : ∀ (i : Nat) (cs : List AV), outs[i]? = some cs → ∃ ds, σ1.bx[i]? = some ds ∧ SubL (ds.map (purC σ1.rw)) cs ∧ rbL cs = [] ∧ rrL cs = [] ∧ ∀ x ∈ ds, ∀ r ∈ rsC x, r ∈ fs)
    (news : List (Option Nat × Row)) (hn : ∀ (a : Nat) (so : Option Nat) (R : Row), news[a]? = some (so, R) → NewOk σ1 fs so R) (hd : ∀ (a b j : Nat) (R R' : Row), news[a]? = some (some j, R) → news[b]? = some (some j, R') → a = b) (wl wrl : List Nat) :
    ∃ m, Fz Γ1 m ∧ (∀ r ∈ fs, ∀ R, σ1.rw[r]? = some R → Frozen { Γ1 with mem := m } r R) ∧ Ext Γ0 w0 (newGh Γ1 m σ0.bx.length σ0.rw.length news) w1 ∧ Inv (newGh Γ1 m σ0.bx.length σ0.rw.length news) ⟨outs, σ0.rw.map killR ++ news.map (·.2), wl, wrl⟩ w1 := by
  obtain ⟨m, m1, m2, m3⟩ := freeze_all fs h1 σ1.wrr
  have hnb : σ0.bx.length ≤ Γ1.nb := by rw [h1.nb]; exact hbl
  have hm1 : ∀ b o u, Γ1.mem b o = some u → m b o = some u := m1.le.mem
  -- where a new row lies
  have hsrc : ∀ {r : Nat}, ¬ r < σ0.rw.length → (newGh Γ1 m σ0.bx.length σ0.rw.length news).sz r ≠ 0 → ∃ j R Q, news[r - σ0.rw.length]? = some (some j, R) ∧ σ1.rw[j]? = some Q ∧ RowAt { Γ1 with mem := m } w1 j Q ∧ (newGh Γ1 m σ0.bx.length σ0.rw.length news).cur r = Γ1.cur j ∧ (newGh Γ1 m σ0.bx.length σ0.rw.length news).sz r = Γ1.sz j := by
    intro r hr hz
    have hz' : (if r < σ0.rw.length then 0 else match news[r - σ0.rw.length]? with | some (some j, _) => Γ1.sz j | _ => 0) ≠ 0 := hz
    rw [if_neg hr] at hz'
    split at hz'
    · rename_i j R hnj
      obtain ⟨Q, q1, _, _, _, _, q6⟩ := (hn _ _ _ hnj).src
      refine ⟨j, R, Q, hnj, q1, m2.row j Q (by show (frz σ1.rw fs)[j]? = _; rw [frz_get fs _ j q6]; exact q1), ?_, ?_⟩
      · show (if r < σ0.rw.length then _ else match news[r - σ0.rw.length]? with | some (some j, _) => Γ1.cur j | _ => 0) = _
        rw [if_neg hr, hnj]
      · show (if r < σ0.rw.length then _ else match news[r - σ0.rw.length]? with | some (some j, _) => Γ1.sz j | _ => 0) = _
        rw [if_neg hr, hnj]
    · exact absurd rfl hz'
  have hold : ∀ {r : Nat}, r < σ0.rw.length → (newGh Γ1 m σ0.bx.length σ0.rw.length news).sz r = 0 := fun hr => if_pos hr
  refine ⟨m, m1, m3, ⟨⟨fun b o u h => hm1 _ _ _ (hx.le.mem b o u h), by rw [h0.nb]; exact Nat.le_refl _, fun i hi => hx.le.β i hi, by rw [h0.nr]; exact Nat.le_add_right _ _, fun r hr => ?_, fun r hr => ?_, fun r hr he => ?_⟩, hx.os, hx.tape, hx.output, hx.size, hx.block, ?_, ?_⟩, ?_⟩
  · rw [h0.nr] at hr
    exact (if_pos hr).trans (hx.le.k r (by rw [h0.nr]; exact hr))
  · have := hx.le.ver r hr
    rw [h0.nr] at hr
    show Γ0.ver r ≤ (if r < σ0.rw.length then Γ1.ver r + 1 else 0)
    rw [if_pos hr]; omega
  · have := hx.le.ver r hr
    rw [h0.nr] at hr
    have he : (if r < σ0.rw.length then Γ1.ver r + 1 else 0) = Γ0.ver r := he
    rw [if_pos hr] at he; omega
  · rintro b (⟨i, hi, hb⟩ | ⟨r, hr, hz, hb⟩)
    · exact hx.own b (.inl ⟨i, Nat.lt_of_lt_of_le hi hnb, hb⟩)
    · by_cases hlt : r < σ0.rw.length
      · exact absurd (hold hlt) hz
      · obtain ⟨j, R, Q, _, q2, _, q4, q5⟩ := hsrc hlt hz
        exact hx.own b (.inr ⟨j, by rw [h1.nr]; exact getElem?_lt q2, by rw [← q5]; exact hz, by rw [← q4]; exact hb⟩)
  · intro b o u hm
    rcases m1.own b o u hm with h | h
    · exact hx.memg b o u h
    · exact .inr (hx.own b h)
  · refine ⟨hol.symm, by show σ0.rw.length + news.length = _; simp, fun b o u h => m2.mem b o u h, ?_, fun i j hi hj he => h1.inj i j (Nat.lt_of_lt_of_le hi hnb) (Nat.lt_of_lt_of_le hj hnb) he, fun i hi o => m2.boxmem i (Nat.lt_of_lt_of_le hi hnb) o, ?_, ?_⟩
    · intro i cs hi
      obtain ⟨ds, d1, d2, d3, d4, d5⟩ := hob i cs hi
      obtain ⟨vs, e, v1, v2, v3⟩ := h1.box i ds d1
      refine ⟨vs, e, v1, ?_, v3⟩
      have hp : RepL { Γ1 with mem := m } (ds.map (purC σ1.rw)) vs.toList := by
        refine ⟨by rw [List.length_map]; exact v2.len, fun a x u hx hu => ?_⟩
        rw [List.getElem?_map] at hx
        cases hxa : ds[a]? with
        | none => rw [hxa] at hx; cases hx
        | some x0 =>
          rw [hxa] at hx; cases hx
          exact pur_ok h1 m1.le (fun r hr R hR => m3 r (d5 x0 (List.mem_of_getElem? hxa) r hr) R hR) (v2.rep a x0 u hxa hu)
      exact none_repL (Γ := { Γ1 with mem := m }) (fun _ _ _ h => h) (d2.rep hp) d3 d4
    · intro r R hR
      have hR : (σ0.rw.map killR ++ news.map (·.2))[r]? = some R := hR
      by_cases hlt : r < σ0.rw.length
      · rw [List.getElem?_append_left (by rw [List.length_map]; exact hlt), List.getElem?_map] at hR
        cases hr0 : σ0.rw[r]? with
        | none => rw [hr0] at hR; cases hR
        | some R0 =>
          rw [hr0] at hR; cases hR
          have H := h0.row r R0 hr0
          have hz := hold hlt
          refine ⟨?_, fun h => absurd h (by show ¬ 1 ≤ 0; omega), H.pos, (by intro e he; cases he), (by intro e he; cases he), .inl rfl, fun h => absurd hz h, by show 0 * _ ≤ _; rw [Nat.zero_mul]; exact Nat.zero_le _, fun h => absurd hz h, (by intro i e j x hi; cases hi), fun h => absurd hz h⟩
          show R0.k = (if r < σ0.rw.length then Γ1.k r else _)
          rw [if_pos hlt, H.k]
          exact (hx.le.k r (by rw [h0.nr]; exact hlt)).symm
      · rw [List.getElem?_append_right (by rw [List.length_map]; omega), List.length_map, List.getElem?_map] at hR
        cases hr0 : news[r - σ0.rw.length]? with
        | none => rw [hr0] at hR; cases hR
        | some p =>
          rw [hr0] at hR; cases hR
          obtain ⟨so, R⟩ := p
          have hN := hn _ _ _ hr0
          have hk : R.k = (newGh Γ1 m σ0.bx.length σ0.rw.length news).k r := by
            show _ = (if r < σ0.rw.length then _ else match news[r - σ0.rw.length]? with | some p => p.2.k | none => 1)
            rw [if_neg hlt, hr0]
          have hver : R.ver = (newGh Γ1 m σ0.bx.length σ0.rw.length news).ver r := by
            show _ = (if r < σ0.rw.length then _ else 0)
            rw [if_neg hlt]; exact hN.ver
          cases so with
          | none =>
            have hc : R.c = [] := hN.src
            have hz : (newGh Γ1 m σ0.bx.length σ0.rw.length news).sz r = 0 := by
              show (if r < σ0.rw.length then 0 else match news[r - σ0.rw.length]? with | some (some j, _) => Γ1.sz j | _ => 0) = 0
              rw [if_neg hlt, hr0]
            exact ⟨hk, fun _ => hver, hN.pos, hN.len, hN.plain, .inl hc, fun h => absurd hz h, by show R.c.length * _ ≤ _; rw [hc]; simp, fun h => absurd hz h, (by intro i e j x hi; change R.c[i]? = _ at hi; rw [hc] at hi; cases hi), fun h => absurd hz h⟩
          | some j =>
            obtain ⟨Q, q1, q2, q3, q4, q5, q6⟩ := hN.src
            have H : RowAt { Γ1 with mem := m } w1 j Q := m2.row j Q (by show (frz σ1.rw fs)[j]? = _; rw [frz_get fs _ j q6]; exact q1)
            have hcu : (newGh Γ1 m σ0.bx.length σ0.rw.length news).cur r = Γ1.cur j := by
              show (if r < σ0.rw.length then _ else match news[r - σ0.rw.length]? with | some (some j, _) => Γ1.cur j | _ => 0) = _
              rw [if_neg hlt, hr0]
            have hsz : (newGh Γ1 m σ0.bx.length σ0.rw.length news).sz r = Γ1.sz j := by
              show (if r < σ0.rw.length then _ else match news[r - σ0.rw.length]? with | some (some j, _) => Γ1.sz j | _ => 0) = _
              rw [if_neg hlt, hr0]
            refine ⟨hk, fun _ => hver, hN.pos, hN.len, hN.plain, .inr (by show R.fz ≤ _; rw [hN.fz]; exact Nat.zero_le _), fun hz => ?_, ?_, fun hz off ho => ?_, ?_, fun hz i hi => ?_⟩
            · rw [hsz] at hz
              obtain ⟨vs, e, b1, b2⟩ := H.blk hz
              exact ⟨vs, e, by rw [hcu]; exact b1, by rw [hsz]; exact b2⟩
            · show R.c.length * R.k ≤ _
              rw [hsz, ← q4, ← q2]; exact H.fit
            · rw [hsz] at hz
              rw [hcu]
              refine H.un hz off ?_
              rw [q3, Nat.zero_mul]; exact Nat.zero_le _
            · intro i e' jj x' hi hj
              have hi : R.c[i]? = some e' := hi
              have hil : i < Q.c.length := by rw [q4]; exact getElem?_lt hi
              obtain ⟨x, hx', hsub⟩ := (q5 i _ e' (List.getElem?_eq_getElem hil) hi).get jj x' hj
              obtain ⟨u, u1, u2, u3⟩ := H.cells i _ jj x (List.getElem?_eq_getElem hil) hx'
              obtain ⟨p1, p2⟩ := plain_none (hN.plain e' (List.mem_of_getElem? hi) x' (List.mem_of_getElem? hj))
              refine ⟨u, ?_, none_rep (Γ := { Γ1 with mem := m }) (fun _ _ _ h => h) (hsub _ _ u2) p1 p2, u3⟩
              show w1.cell? ⟨_, i * R.k + jj, none⟩ = _
              rw [hcu, ← q2]; exact u1
            · rw [hsz] at hz
              rw [hcu]
              exact H.nbx hz i (Nat.lt_of_lt_of_le hi hnb)
    · intro r r' hr hr' hne z1 z2
      by_cases e1 : r < σ0.rw.length
      · exact absurd (hold e1) z1
      by_cases e2 : r' < σ0.rw.length
      · exact absurd (hold e2) z2
      obtain ⟨j, R, Q, a1, a2, _, a4, a5⟩ := hsrc e1 z1
      obtain ⟨j', R', Q', b1, b2, _, b4, b5⟩ := hsrc e2 z2
      rw [a4, b4]
      refine h1.apart j j' (by rw [h1.nr]; exact getElem?_lt a2) (by rw [h1.nr]; exact getElem?_lt b2) (fun he => ?_) (by rw [← a5]; exact z1) (by rw [← b5]; exact z2)
      subst he
      have := hd _ _ _ _ _ a1 b1
      omega
end Go.AmYtmodnblfcikjlaaGreat
namespace Go.AmYtmodnblfcikjlaaGreat
open Go Go.RowKit Go.GxYtmodnblfcikjlaaGreat

def decLs {β : Type} (f : List AV → Option β) : List (List AV) → Option (List β)
  | [] => some []
  | e :: es => match f e with
    | some v => match decLs f es with
      | some vs => some (v :: vs)
      | none => none
    | none => none
mutual
def decS1 : AV → Option (List T)
  | .v (.slice none 0 0) => some []
  | .sl 4 es (_ + 1) => decL1 es
  | _ => none
def decL1 : List (List AV) → Option (List T)
  | [] => some []
  | e :: es => match decT1 e with
    | some t => match decL1 es with
      | some l => some (t :: l)
      | none => none
    | none => none
def decT1 : List AV → Option T
  | [.v (.int .i64 k), .v (.string n), .v (.int .i64 s), x] => match decS1 x with
    | some l => some (.mk k n.data.toList s l)
    | none => none
  | _ => none
end
def full {β : Type} : Option (β × List AV) → Option β
  | some (v, []) => some v
  | _ => none
def decList (k : Nat) {β : Type} (f : List AV → Option β) : AV → Option (List β)
  | .v (.slice none 0 0) => some []
  | .sl k' es (_ + 1) => match neqN k' k with
    | true => decLs f es
    | false => none
  | _ => none
def dInt (k : IntKind) : List AV → Option (Int × List AV)
  | .v (.int k' n) :: r => match decide (k' = k) with
    | true => some (n, r)
    | false => none
  | _ => none
def dBool : List AV → Option (Bool × List AV)
  | .v (.bool b) :: r => some (b, r)
  | _ => none
def dStr : List AV → Option (List UInt8 × List AV)
  | .v (.string s) :: r => some (s.data.toList, r)
  | _ => none
def dTerm : List AV → Option (T × List AV)
  | a :: b :: c :: d :: r => match decT1 [a, b, c, d] with
    | some t => some (t, r)
    | none => none
  | _ => none
def dLst {β : Type} (ls : AV → Option β) : List AV → Option (β × List AV)
  | x :: r => match ls x with
    | some l => some (l, r)
    | none => none
  | _ => none
def dparse : (τ : Ty) → List AV → Option (Val τ × List AV)
  | .int k => dInt k
  | .bool => dBool
  | .str => dStr
  | .term => dTerm
  | .list a => dLst (decList a.size (fun e => full (dparse a e)))
  | .pair a b => pPair (dparse a) (dparse b)
  | .one a => dparse a
def decV (τ : Ty) (e : List AV) : Option (Val τ) := full (dparse τ e)
def dlist (τ : Ty) (x : AV) : Option (List (Val τ)) := decList τ.size (decV τ) x

mutual
def encT1 : T → List AV
  | .mk k n s l => [.v (.int .i64 k), .v (.string ⟨n.toArray⟩), .v (.int .i64 s), .sl 4 (encL1 l) 1]
def encL1 : List T → List (List AV)
  | [] => []
  | t :: l => encT1 t :: encL1 l
end
def encV : (τ : Ty) → Val τ → List AV
  | .int k, n => [.v (.int k n)]
  | .bool, b => [.v (.bool b)]
  | .str, s => [.v (.string ⟨s.toArray⟩)]
  | .term, t => encT1 t
  | .list a, l => [.sl a.size (l.map (encV a)) 1]
  | .pair a b, p => encV a p.1 ++ encV b p.2
  | .one a, v => encV a v
def encA : (τ : Ty) → Val τ → AV
  | .int k, n => .v (.int k n)
  | .bool, b => .v (.bool b)
  | .str, s => .v (.string ⟨s.toArray⟩)
  | .list a, l => .sl a.size (l.map (encV a)) 1
  | .term, t => .agg (encV .term t)
  | .pair a b, p => .agg (encV (.pair a b) p)
  | .one a, v => .agg (encV (.one a) v)

theorem decLs_cons {β : Type} {f : List AV → Option β} {e : List AV} {es : List (List AV)} {l : List β} : decLs f (e :: es) = some l ↔ ∃ v vs, f e = some v ∧ decLs f es = some vs ∧ l = v :: vs := by
  constructor
  · intro h
    simp only [decLs] at h
    split at h <;> try cases h
    split at h <;> cases h
    exact ⟨_, _, by assumption, by assumption, rfl⟩
  · rintro ⟨v, vs, h1, h2, rfl⟩
    simp only [decLs, h1, h2]
theorem decLs_len {β : Type} {f : List AV → Option β} : ∀ {es : List (List AV)} {l : List β}, decLs f es = some l → es.length = l.length
  | [], l, h => by cases h; rfl
  | e :: es, l, h => by
    obtain ⟨v, vs, _, h2, rfl⟩ := decLs_cons.1 h
    simp [decLs_len h2]
theorem decLs_get {β : Type} {f : List AV → Option β} : ∀ {es : List (List AV)} {l : List β}, decLs f es = some l → ∀ {i : Nat} {v : β}, l[i]? = some v → ∃ e, es[i]? = some e ∧ f e = some v
  | [], l, h, i, v, hv => by cases h; simp at hv
  | e :: es, l, h, i, v, hv => by
    obtain ⟨w, vs, h1, h2, rfl⟩ := decLs_cons.1 h
    cases i with
    | zero => simp at hv; subst hv; exact ⟨e, rfl, h1⟩
    | succ i => exact decLs_get h2 (by simpa using hv)
theorem decLs_get' {β : Type} {f : List AV → Option β} : ∀ {es : List (List AV)} {l : List β}, decLs f es = some l → ∀ {i : Nat} {e : List AV}, es[i]? = some e → ∃ v, l[i]? = some v ∧ f e = some v
  | [], l, h, i, v, hv => by simp at hv
  | e :: es, l, h, i, v, hv => by
    obtain ⟨w, vs, h1, h2, rfl⟩ := decLs_cons.1 h
    cases i with
    | zero => simp at hv; subst hv; exact ⟨w, rfl, h1⟩
    | succ i => exact decLs_get' h2 (by simpa using hv)
theorem decLs_append {β : Type} {f : List AV → Option β} : ∀ {es fs : List (List AV)} {l m : List β}, decLs f es = some l → decLs f fs = some m → decLs f (es ++ fs) = some (l ++ m)
  | [], fs, l, m, h, g => by cases h; exact g
  | e :: es, fs, l, m, h, g => by
    obtain ⟨v, vs, h1, h2, rfl⟩ := decLs_cons.1 h
    exact decLs_cons.2 ⟨v, vs ++ m, h1, decLs_append h2 g, rfl⟩
theorem decLs_take {β : Type} {f : List AV → Option β} : ∀ (n : Nat) {es : List (List AV)} {l : List β}, decLs f es = some l → decLs f (es.take n) = some (l.take n)
  | 0, es, l, h => by simp; rfl
  | n + 1, [], l, h => by cases h; rfl
  | n + 1, e :: es, l, h => by
    obtain ⟨v, vs, h1, h2, rfl⟩ := decLs_cons.1 h
    exact decLs_cons.2 ⟨v, vs.take n, h1, decLs_take n h2, rfl⟩
theorem decLs_drop {β : Type} {f : List AV → Option β} : ∀ (n : Nat) {es : List (List AV)} {l : List β}, decLs f es = some l → decLs f (es.drop n) = some (l.drop n)
  | 0, es, l, h => by simpa using h
  | n + 1, [], l, h => by cases h; rfl
  | n + 1, e :: es, l, h => by
    obtain ⟨v, vs, h1, h2, rfl⟩ := decLs_cons.1 h
    simpa using decLs_drop n h2
theorem decLs_map {β : Type} {f : List AV → Option β} {g : β → List AV} (h : ∀ v, f (g v) = some v) : ∀ l : List β, decLs f (l.map g) = some l
  | [] => rfl
  | v :: l => decLs_cons.2 ⟨v, l, h v, decLs_map h l, rfl⟩
theorem decL1_eq : ∀ es : List (List AV), decL1 es = decLs decT1 es
  | [] => rfl
  | e :: es => by
    rw [decL1, decLs, decL1_eq es]
    cases decT1 e with
    | none => rfl
    | some t => cases decLs decT1 es <;> rfl
theorem full_some {β : Type} {x : Option (β × List AV)} {v : β} : full x = some v ↔ x = some (v, []) := by
  unfold full
  split
  · simp
  · rename_i h
    constructor
    · intro h; cases h
    · intro e; exact absurd e (h v)
theorem decT1_inv {cs : List AV} {t : T} (h : decT1 cs = some t) : ∃ k n s x l, cs = [.v (.int .i64 k), .v (.string n), .v (.int .i64 s), x] ∧ decS1 x = some l ∧ t = .mk k n.data.toList s l := by
  unfold decT1 at h
  split at h
  · split at h <;> cases h
    exact ⟨_, _, _, _, _, rfl, by assumption, rfl⟩
  · cases h
theorem decV_term (e : List AV) : decV .term e = decT1 e := by
  show full (dTerm e) = decT1 e
  unfold dTerm
  split
  · rename_i a b c d r
    cases r with
    | nil =>
      cases hd : decT1 [a, b, c, d] with
      | none => rfl
      | some t => rfl
    | cons x r =>
      have hn : decT1 (a :: b :: c :: d :: x :: r) = none := by
        unfold decT1
        split
        · rename_i h; simp at h
        · rfl
      rw [hn]
      cases hd : decT1 [a, b, c, d] with
      | none => rfl
      | some t => rfl
  · rename_i h
    cases hd : decT1 e with
    | none => rfl
    | some t =>
      obtain ⟨k, n, s, x, l, rfl, _, _⟩ := decT1_inv hd
      exact absurd rfl (h _ _ _ _ _)
theorem dlist_term (x : AV) : dlist .term x = decS1 x := by
  have hf : (decV .term : List AV → Option T) = decT1 := funext decV_term
  unfold dlist decList decS1
  split
  · rfl
  · rename_i k' es n
    by_cases hk : k' = 4
    · subst hk
      show decLs (decV .term) es = decL1 es
      rw [hf, decL1_eq]
    · have : neqN k' Ty.term.size = false := by simp [neqN, hk, Ty.size]
      rw [this]
      simp only
      split
      · rename_i h; cases h
      · rename_i h; cases h; exact absurd rfl hk
      · rfl
  · rename_i h1 h2
    split
    · rename_i h; exact absurd rfl h1
    · rename_i es n h; exact absurd rfl (h2 _ _ _)
    · rfl
/- What a list of cells tells, its value tells. -/
theorem sub_sl1 {es es' : List (List AV)} {k f : Nat} (hf : 0 < f) (hn : es.length = es'.length) (hk : ∀ e ∈ es', e.length = k) (hp : ∀ e ∈ es', ∀ x ∈ e, plainC x = true)
    (hs : ∀ (i : Nat) (e e' : List AV), es[i]? = some e → es'[i]? = some e' → SubL e e') : Sub (.sl k es f) (.sl k es' 1) := by
  intro Γ u hu
  cases hu with
  | sl k es f a n cap b o us h1 h2 h3 h4 h5 h6 h7 h8 h9 =>
    have get : ∀ (i : Nat) (e' : List AV) (j : Nat) (y : AV), es'[i]? = some e' → e'[j]? = some y → ∃ e x, es[i]? = some e ∧ e[j]? = some x ∧ Sub x y := by
      intro i e' j y hi hj
      have hlt : i < es.length := by rw [hn]; exact getElem?_lt hi
      have he := List.getElem?_eq_getElem hlt
      obtain ⟨x, hx, hsub⟩ := (hs i _ e' he hi).get j y hj
      exact ⟨_, x, he, hx, hsub⟩
    refine .sl k es' 1 a n cap b o us (by rw [h1, hn]) (fun _ => h2 hf) (fun h => absurd h (by decide)) hk hp h6 ?_ ?_ ?_
    · rcases h7 with h7 | h7
      · left
        subst h7
        exact List.length_eq_zero_iff.1 hn.symm
      · exact .inr h7
    · intro i e' j y hi hj
      obtain ⟨e, x, q1, q2, _⟩ := get i e' j y hi hj
      exact h8 i e j x q1 q2
    · intro i e' j y hi hj
      obtain ⟨e, x, q1, q2, q3⟩ := get i e' j y hi hj
      exact q3 Γ _ (h9 i e j x q1 q2)
theorem sub_nil1 (k : Nat) (hk : 0 < k) : Sub (.v (.slice none 0 0)) (.sl k [] 1) := by
  intro Γ u hu
  have := v_inv hu
  subst this
  exact .sl k [] 1 none 0 0 0 0 (fun _ _ => undef) rfl (fun _ => Nat.le_refl _) (fun h => absurd h (by decide)) (by simp) (by simp) hk (.inl rfl) (by simp) (by simp)
theorem encL1_eq : ∀ l : List T, encL1 l = l.map encT1
  | [] => rfl
  | t :: l => by rw [encL1, encL1_eq l]; rfl
theorem encT1_len (t : T) : (encT1 t).length = 4 := by obtain ⟨k, n, s, l⟩ := t; rw [encT1]; rfl
theorem encT1_plain (t : T) : ∀ x ∈ encT1 t, plainC x = true := by
  obtain ⟨k, n, s, l⟩ := t
  intro x hx
  rw [encT1] at hx
  simp at hx
  rcases hx with rfl | rfl | rfl | rfl <;> rfl
theorem encV_len : ∀ (τ : Ty) (v : Val τ), (encV τ v).length = τ.size
  | .int _, _ => rfl
  | .bool, _ => rfl
  | .str, _ => rfl
  | .term, t => encT1_len t
  | .list _, _ => rfl
  | .pair a b, p => by rw [encV, List.length_append, encV_len a, encV_len b]; rfl
  | .one a, v => by rw [encV, encV_len a]; rfl
theorem encV_plain : ∀ (τ : Ty) (v : Val τ), ∀ x ∈ encV τ v, plainC x = true
  | .int _, _, x, h => by simp [encV] at h; subst h; rfl
  | .bool, _, x, h => by simp [encV] at h; subst h; rfl
  | .str, _, x, h => by simp [encV] at h; subst h; rfl
  | .term, t, x, h => encT1_plain t x h
  | .list _, _, x, h => by simp [encV] at h; subst h; rfl
  | .pair a b, p, x, h => by
    rw [encV] at h
    rcases List.mem_append.1 h with h | h
    · exact encV_plain a _ x h
    · exact encV_plain b _ x h
  | .one a, v, x, h => encV_plain a v x h
theorem subT1 (t : T) : ∀ cs, decT1 cs = some t → SubL cs (encT1 t) ∧ ∀ x ∈ cs, plainC x = true := by
  refine T.ind (P := fun t => ∀ cs, decT1 cs = some t → SubL cs (encT1 t) ∧ ∀ x ∈ cs, plainC x = true) ?_ t
  intro t ih cs h
  obtain ⟨k, n, s, x, l, rfl, h1, rfl⟩ := decT1_inv h
  have hn : (⟨n.data.toList.toArray⟩ : ByteArray) = n := by cases n; simp
  have key : Sub x (.sl 4 (encL1 l) 1) ∧ plainC x = true := by
    unfold decS1 at h1
    split at h1
    · cases h1; rw [encL1]; exact ⟨sub_nil1 4 (by decide), rfl⟩
    · rename_i es lv
      refine ⟨?_, rfl⟩
      rw [decL1_eq] at h1
      rw [encL1_eq]
      refine sub_sl1 (Nat.succ_pos _) (by rw [decLs_len h1, List.length_map]) ?_ ?_ ?_
      · intro e he
        obtain ⟨t', _, rfl⟩ := List.mem_map.1 he
        exact encT1_len t'
      · intro e he
        obtain ⟨t', _, rfl⟩ := List.mem_map.1 he
        exact encT1_plain t'
      · intro i e e' hi hi'
        obtain ⟨t', q1, q2⟩ := decLs_get' h1 hi
        rw [List.getElem?_map, q1] at hi'
        simp at hi'
        subst hi'
        exact (ih t' (List.mem_of_getElem? q1) e q2).1
    · cases h1
  refine ⟨?_, ?_⟩
  · rw [encT1, hn]
    exact .cons (.refl _) (.cons (.refl _) (.cons (.refl _) (.cons key.1 .nil)))
  · intro y hy
    simp at hy
    rcases hy with rfl | rfl | rfl | rfl
    · rfl
    · rfl
    · rfl
    · exact key.2
theorem SubL.append : ∀ {a b c d : List AV}, SubL a b → SubL c d → SubL (a ++ c) (b ++ d)
  | _, _, _, _, .nil, g => g
  | _, _, _, _, .cons h t, g => .cons h (t.append g)
theorem Ty.size_pos : ∀ τ : Ty, 0 < τ.size
  | .int _ => Nat.one_pos
  | .bool => Nat.one_pos
  | .str => Nat.one_pos
  | .term => by decide
  | .list _ => Nat.one_pos
  | .pair a b => Nat.lt_of_lt_of_le (Ty.size_pos a) (Nat.le_add_right _ _)
  | .one a => Ty.size_pos a
theorem pPair_some {σ β γ : Type} {p : List σ → Option (β × List σ)} {q : List σ → Option (γ × List σ)} {cs : List σ} {v : β × γ} {r : List σ} : pPair p q cs = some (v, r) ↔ ∃ r1, p cs = some (v.1, r1) ∧ q r1 = some (v.2, r) := by
  unfold pPair
  constructor
  · intro h
    split at h <;> try cases h
    split at h <;> cases h
    exact ⟨_, by assumption, by assumption⟩
  · rintro ⟨r1, h1, h2⟩
    rw [h1]
    simp only [h2]
/-- What lies behind the cells that are read does not matter. -/
theorem dparse_more : ∀ (τ : Ty) {cs : List AV} {v : Val τ} {r : List AV} (s : List AV), dparse τ cs = some (v, r) → dparse τ (cs ++ s) = some (v, r ++ s)
  | .int k, cs, v, r, s, h => by
    change dInt k cs = _ at h
    show dInt k (cs ++ s) = _
    unfold dInt at h
    split at h <;> try cases h
    split at h <;> cases h
    rename_i hk
    simp only [List.cons_append, dInt, hk]
  | .bool, cs, v, r, s, h => by
    change dBool cs = _ at h
    unfold dBool at h
    split at h <;> cases h
    rfl
  | .str, cs, v, r, s, h => by
    change dStr cs = _ at h
    unfold dStr at h
    split at h <;> cases h
    rfl
  | .term, cs, v, r, s, h => by
    change dTerm cs = _ at h
    unfold dTerm at h
    split at h <;> try cases h
    split at h <;> cases h
    rename_i hd
    show dTerm _ = _
    simp only [List.cons_append, dTerm, hd]
  | .list a, cs, v, r, s, h => by
    change dLst _ cs = _ at h
    unfold dLst at h
    split at h <;> try cases h
    split at h <;> cases h
    rename_i hd
    show dLst _ _ = _
    simp only [List.cons_append, dLst, hd]
  | .pair a b, cs, v, r, s, h => by
    obtain ⟨r1, h1, h2⟩ := pPair_some.1 h
    exact pPair_some.2 ⟨_, dparse_more a s h1, dparse_more b s h2⟩
  | .one a, cs, v, r, s, h => dparse_more a s h
theorem dparse_spec : ∀ (τ : Ty) {cs : List AV} {v : Val τ} {r : List AV}, dparse τ cs = some (v, r) → ∃ pre, cs = pre ++ r ∧ pre.length = τ.size ∧ (∀ x ∈ pre, plainC x = true) ∧ SubL pre (encV τ v) ∧ dparse τ pre = some (v, [])
  | .int k, cs, v, r, h => by
    change dInt k cs = _ at h
    unfold dInt at h
    split at h <;> try cases h
    split at h <;> cases h
    rename_i hk
    have hk' := of_decide_eq_true hk
    subst hk'
    exact ⟨[_], rfl, rfl, by simp [plainC], .refl _, by show dInt _ _ = _; simp [dInt]⟩
  | .bool, cs, v, r, h => by
    change dBool cs = _ at h
    unfold dBool at h
    split at h <;> cases h
    exact ⟨[_], rfl, rfl, by simp [plainC], .refl _, rfl⟩
  | .str, cs, v, r, h => by
    change dStr cs = _ at h
    unfold dStr at h
    split at h <;> cases h
    rename_i s
    have hn : (⟨s.data.toList.toArray⟩ : ByteArray) = s := by cases s; simp
    exact ⟨[_], rfl, rfl, by simp [plainC], by rw [encV, hn]; exact .refl _, rfl⟩
  | .term, cs, v, r, h => by
    change dTerm cs = _ at h
    unfold dTerm at h
    split at h <;> try cases h
    split at h <;> cases h
    rename_i hd
    obtain ⟨h1, h2⟩ := subT1 _ _ hd
    exact ⟨_, rfl, rfl, h2, h1, by show dTerm _ = _; simp only [dTerm, hd]⟩
  | .list a, cs, v, r, h => by
    change dLst _ cs = _ at h
    unfold dLst at h
    split at h <;> try cases h
    rename_i x r'
    split at h <;> cases h
    rename_i hd
    refine ⟨[x], rfl, rfl, ?_, ?_, by show dLst _ _ = _; simp only [dLst, hd]⟩
    · intro y hy
      simp at hy; subst hy
      unfold decList at hd
      split at hd
      · rfl
      · rfl
      · cases hd
    · rw [encV]
      refine .cons ?_ .nil
      unfold decList at hd
      split at hd
      · cases hd; exact sub_nil1 _ (Ty.size_pos a)
      · rename_i k' es n
        split at hd
        · rename_i hk
          have hk := of_decide_eq_true hk
          subst hk
          refine sub_sl1 (Nat.succ_pos _) (by rw [decLs_len hd, List.length_map]) ?_ ?_ ?_
          · intro e he
            obtain ⟨w, _, rfl⟩ := List.mem_map.1 he
            exact encV_len a w
          · intro e he
            obtain ⟨w, _, rfl⟩ := List.mem_map.1 he
            exact encV_plain a w
          · intro i e e' hi hi'
            obtain ⟨w, q1, q2⟩ := decLs_get' hd hi
            rw [List.getElem?_map, q1] at hi'
            simp at hi'
            subst hi'
            obtain ⟨pre, p1, _, _, p4, _⟩ := dparse_spec a (full_some.1 q2)
            rw [List.append_nil] at p1
            rw [p1]; exact p4
        · cases hd
      · cases hd
  | .pair a b, cs, v, r, h => by
    obtain ⟨r1, h1, h2⟩ := pPair_some.1 h
    obtain ⟨p, e1, l1, q1, s1, d1⟩ := dparse_spec a h1
    obtain ⟨p', e2, l2, q2, s2, d2⟩ := dparse_spec b h2
    refine ⟨p ++ p', by rw [e1, e2, List.append_assoc], by rw [List.length_append, l1, l2]; rfl, ?_, by rw [encV]; exact s1.append s2, ?_⟩
    · intro x hx
      rcases List.mem_append.1 hx with hx | hx
      · exact q1 x hx
      · exact q2 x hx
    · exact pPair_some.2 ⟨p', by have := dparse_more a p' d1; simpa using this, d2⟩
  | .one a, cs, v, r, h => dparse_spec a h
theorem decT1_enc (t : T) : decT1 (encT1 t) = some t := by
  refine T.ind (P := fun t => decT1 (encT1 t) = some t) ?_ t
  intro t ih
  obtain ⟨k, n, s, l⟩ := t
  have : decL1 (encL1 l) = some l := by
    rw [decL1_eq, encL1_eq]
    have ih : ∀ x ∈ l, decT1 (encT1 x) = some x := ih
    have key : ∀ m : List T, (∀ x ∈ m, decT1 (encT1 x) = some x) → decLs decT1 (m.map encT1) = some m := by
      intro m
      induction m with
      | nil => intro _; rfl
      | cons x m ih2 => intro h; exact decLs_cons.2 ⟨x, m, h x (List.mem_cons_self ..), ih2 fun y hy => h y (List.mem_cons_of_mem _ hy), rfl⟩
    exact key l ih
  rw [encT1, decT1, decS1, this]
theorem dparse_enc : ∀ (τ : Ty) (v : Val τ), dparse τ (encV τ v) = some (v, [])
  | .int k, v => by show dInt k [_] = _; simp [dInt]
  | .bool, v => rfl
  | .str, v => by show dStr _ = _; simp [dStr, encV]
  | .term, t => by
    have := decV_term (encT1 t)
    rw [decT1_enc] at this
    exact full_some.1 this
  | .list a, l => by
    have hl : decLs (fun e => full (dparse a e)) (l.map (encV a)) = some l := decLs_map (fun v => by rw [dparse_enc a v]; rfl) l
    show dLst _ [_] = _
    simp only [dLst, decList, neqN, decide_true, hl]
  | .pair a b, v => pPair_some.2 ⟨_, dparse_more a _ (dparse_enc a v.1), by rw [List.nil_append]; exact dparse_enc b v.2⟩
  | .one a, v => dparse_enc a v
end Go.AmYtmodnblfcikjlaaGreat
namespace Go.AmYtmodnblfcikjlaaGreat
open Go Go.RowKit Go.GxYtmodnblfcikjlaaGreat

structure Mp where
  b : Nat → Nat
  nb : Nat
  r : Nat → Option Nat
  v : Nat → Nat
  q : Nat → List (List AV)
  rw : List TRow
def mp0 : Mp := ⟨fun _ => 0, 0, fun _ => none, fun _ => 0, fun _ => [], []⟩
def lvl : AV → Nat
  | .v _ => 2
  | .sl _ _ n => n
  | _ => 0
/-- A row of the typed machine: a row, or a slice whose capacity is its length. -/
def rowAt (r : Option Nat) (v : Nat) (τ : Ty) (l : List (Val τ)) (y : AV) : Prop := match r with
  | some r => y = .rs r 0 l.length v false
  | none => dlist τ y = some l ∧ 2 ≤ lvl y
def sliceish (y : AV) : Prop := y = .v (.slice none 0 0) ∨ (∃ k es n, y = .sl k es n) ∨ ∃ r lo n ep f, y = .rs r lo n ep f
theorem dlist_ish {τ : Ty} {y : AV} {l : List (Val τ)} (h : dlist τ y = some l) : sliceish y := by
  unfold dlist decList at h
  split at h
  · exact .inl rfl
  · exact .inr (.inl ⟨_, _, _, rfl⟩)
  · cases h
theorem rowAt.ish {r : Option Nat} {v : Nat} {τ : Ty} {l : List (Val τ)} {y : AV} (h : rowAt r v τ l y) : sliceish y := by
  cases r with
  | some r => exact .inr (.inr ⟨_, _, _, _, _, h⟩)
  | none => exact dlist_ish h.1
def rowOK (m : Mp) (id ver : Nat) (y : AV) : Prop :=
  ∃ R, m.rw[id]? = some R ∧ ver ≤ R.ver ∧ sliceish y ∧ (R.ver = ver → rowAt (m.r id) (m.v id) R.τ R.l y)
mutual
def OK (m : Mp) : TV → AV → Prop
  | .i k n, y => y = .v (.int k n)
  | .b x, y => y = .v (.bool x)
  | .s x, y => y = .v (.string ⟨x.toArray⟩)
  | .c v, y => base v = true ∧ y = .v v
  | .nil, y => y = .v (.slice none 0 0)
  | .sl τ l lv, y => dlist τ y = some l ∧ lv ≤ lvl y
  | .row id ver, y => rowOK m id ver y
  | .ptr b o, y => b < m.nb ∧ y = .ptr (m.b b) o
  | .rpt id ver sv i cs o, y => ∃ R, m.rw[id]? = some R ∧ ver ≤ R.ver ∧ sv ≤ R.sv ∧ ((∃ r j ep, y = .rpt r j o ep) ∨ ∃ ds, y = .ept ds o) ∧ (R.ver = ver → R.sv = sv → (∃ r j ds, m.r id = some r ∧ y = .rpt r j o (m.v id) ∧ i = ((j : Nat) : Int) ∧ j < R.l.length ∧ (m.q id)[j]? = some ds ∧ OKL m cs ds) ∨ ∃ ds, m.r id = none ∧ y = .ept ds o ∧ 0 < R.l.length ∧ OKL m cs ds)
  | .ept cs o, y => ∃ ds, y = .ept ds o ∧ OKL m cs ds
  | .fn f cs, y => ∃ ds, y = .fn f ds ∧ OKL m cs ds
  | .agg cs, y => ∃ ds, y = .agg ds ∧ OKL m cs ds
  | .tup cs, y => ∃ ds, y = .tup ds ∧ OKL m cs ds
  | .dead, _ => True
def OKL (m : Mp) : List TV → List AV → Prop
  | [], ys => ys = []
  | x :: xs, ys => ∃ y r, ys = y :: r ∧ OK m x y ∧ OKL m xs r
end
structure MLe (m m' : Mp) : Prop where
  nb : m.nb ≤ m'.nb
  b : ∀ i, i < m.nb → m'.b i = m.b i
  row : ∀ id R, m.rw[id]? = some R → ∃ R', m'.rw[id]? = some R' ∧ R.ver ≤ R'.ver ∧ R.sv ≤ R'.sv ∧ (R'.ver = R.ver → R'.l.length = R.l.length ∧ m'.r id = m.r id ∧ m'.v id = m.v id ∧ R'.τ = R.τ ∧ (R'.sv = R.sv → m'.q id = m.q id) ∧ (m.r id = none → ∀ y, dlist R.τ y = some R.l → dlist R'.τ y = some R'.l))
theorem MLe.refl (m : Mp) : MLe m m := ⟨Nat.le_refl _, fun _ _ => rfl, fun _ R h => ⟨R, h, Nat.le_refl _, Nat.le_refl _, fun _ => ⟨rfl, rfl, rfl, rfl, fun _ => rfl, fun _ _ h => h⟩⟩⟩
theorem MLe.trans {a b c : Mp} (h : MLe a b) (g : MLe b c) : MLe a c where
  nb := Nat.le_trans h.nb g.nb
  b := fun i hi => (g.b i (Nat.lt_of_lt_of_le hi h.nb)).trans (h.b i hi)
  row := fun id R hR => by
    obtain ⟨R1, h1, h2, h3, h4⟩ := h.row id R hR
    obtain ⟨R2, g1, g2, g3, g4⟩ := g.row id R1 h1
    refine ⟨R2, g1, Nat.le_trans h2 g2, Nat.le_trans h3 g3, fun he => ?_⟩
    have e1 : R1.ver = R.ver := by omega
    have e2 : R2.ver = R1.ver := by omega
    obtain ⟨a1, a2, a3, a4, a5, a6⟩ := h4 e1
    obtain ⟨b1, b2, b3, b4, b5, b6⟩ := g4 e2
    exact ⟨b1.trans a1, b2.trans a2, b3.trans a3, b4.trans a4, fun hs => (b5 (by omega)).trans (a5 (by omega)), fun hn y hy => b6 (a2.trans hn) y (a6 hn y hy)⟩
theorem rowOK.mono {m m' : Mp} (hm : MLe m m') {id ver : Nat} {y : AV} (h : rowOK m id ver y) : rowOK m' id ver y := by
  obtain ⟨R, h1, h2, h3, h4⟩ := h
  obtain ⟨R', g1, g2, _, g3⟩ := hm.row id R h1
  refine ⟨R', g1, Nat.le_trans h2 g2, h3, fun he => ?_⟩
  have e1 : R'.ver = R.ver := by omega
  obtain ⟨a, b, c, d, _, k⟩ := g3 e1
  have h4 := h4 (by omega)
  rw [b, c]
  revert h4 k
  cases m.r id with
  | some r =>
    intro _ h4
    show y = .rs r 0 R'.l.length (m.v id) false
    rw [a]; exact h4
  | none => intro k h4; exact ⟨k rfl y h4.1, h4.2⟩
mutual
theorem OK.mono {m m' : Mp} (hm : MLe m m') : ∀ {x : TV} {y : AV}, OK m x y → OK m' x y
  | .i .., y, h => h
  | .b .., y, h => h
  | .s .., y, h => h
  | .c .., y, h => h
  | .nil, y, h => h
  | .sl .., y, h => h
  | .row .., y, h => rowOK.mono hm h
  | .ptr b o, y, h => ⟨Nat.lt_of_lt_of_le h.1 hm.nb, by rw [hm.b _ h.1]; exact h.2⟩
  | .rpt id ver sv _ cs o, y, h => by
    obtain ⟨R, h1, h2, h2', h3, h4⟩ := h
    obtain ⟨R', g1, g2, g2', g3⟩ := hm.row id R h1
    refine ⟨R', g1, Nat.le_trans h2 g2, Nat.le_trans h2' g2', h3, fun he hs => ?_⟩
    have e1 : R'.ver = R.ver := by omega
    have e2 : R'.sv = R.sv := by omega
    obtain ⟨a, b, c, _, d, _⟩ := g3 e1
    rcases h4 (by omega) (by omega) with ⟨r, j, ds, k1, k2, k0, k3, k4, k5⟩ | ⟨ds, k1, k2, k3, k4⟩
    · exact .inl ⟨r, j, ds, b.trans k1, by rw [c]; exact k2, k0, by rw [a]; exact k3, by rw [d e2]; exact k4, OKL.mono hm k5⟩
    · exact .inr ⟨ds, b.trans k1, k2, by rw [a]; exact k3, OKL.mono hm k4⟩
  | .ept cs o, y, ⟨ds, h1, h2⟩ => ⟨ds, h1, OKL.mono hm h2⟩
  | .fn f cs, y, ⟨ds, h1, h2⟩ => ⟨ds, h1, OKL.mono hm h2⟩
  | .agg cs, y, ⟨ds, h1, h2⟩ => ⟨ds, h1, OKL.mono hm h2⟩
  | .tup cs, y, ⟨ds, h1, h2⟩ => ⟨ds, h1, OKL.mono hm h2⟩
  | .dead, y, h => trivial
theorem OKL.mono {m m' : Mp} (hm : MLe m m') : ∀ {xs : List TV} {ys : List AV}, OKL m xs ys → OKL m' xs ys
  | [], ys, h => h
  | x :: xs, ys, ⟨y, r, h1, h2, h3⟩ => ⟨y, r, h1, OK.mono hm h2, OKL.mono hm h3⟩
end
theorem OKL.nil (m : Mp) : OKL m [] [] := rfl
theorem OKL.cons {m : Mp} {x : TV} {y : AV} {xs : List TV} {ys : List AV} (h : OK m x y) (g : OKL m xs ys) : OKL m (x :: xs) (y :: ys) := ⟨y, ys, rfl, h, g⟩
theorem OKL.len {m : Mp} : ∀ {xs : List TV} {ys : List AV}, OKL m xs ys → ys.length = xs.length
  | [], _, h => by cases h; rfl
  | _ :: _, _, ⟨_, _, rfl, _, h⟩ => by simp [h.len]
theorem OKL.get {m : Mp} : ∀ {xs : List TV} {ys : List AV}, OKL m xs ys → ∀ {i : Nat} {x : TV}, xs[i]? = some x → ∃ y, ys[i]? = some y ∧ OK m x y
  | [], _, _, i, x, hx => by simp at hx
  | _ :: _, _, ⟨y, r, rfl, h1, h2⟩, 0, x, hx => by simp at hx; subst hx; exact ⟨y, rfl, h1⟩
  | _ :: _, _, ⟨y, r, rfl, h1, h2⟩, i + 1, x, hx => by simpa using h2.get (by simpa using hx)
theorem OKL.append {m : Mp} : ∀ {xs : List TV} {ys : List AV} {xs' : List TV} {ys' : List AV}, OKL m xs ys → OKL m xs' ys' → OKL m (xs ++ xs') (ys ++ ys')
  | [], _, _, _, h, g => by cases h; exact g
  | _ :: _, _, _, _, ⟨y, r, rfl, h1, h2⟩, g => ⟨y, _, rfl, h1, h2.append g⟩
theorem OKL.take {m : Mp} (n : Nat) : ∀ {xs : List TV} {ys : List AV}, OKL m xs ys → OKL m (xs.take n) (ys.take n) := by
  induction n with
  | zero => intro xs ys _; simp; exact rfl
  | succ n ih =>
    intro xs ys h
    cases xs with
    | nil => cases h; exact rfl
    | cons x xs => obtain ⟨y, r, rfl, h1, h2⟩ := h; exact ⟨y, _, rfl, h1, ih h2⟩
theorem OKL.drop {m : Mp} (n : Nat) : ∀ {xs : List TV} {ys : List AV}, OKL m xs ys → OKL m (xs.drop n) (ys.drop n) := by
  induction n with
  | zero => intro xs ys h; simpa using h
  | succ n ih =>
    intro xs ys h
    cases xs with
    | nil => cases h; exact rfl
    | cons x xs => obtain ⟨y, r, rfl, h1, h2⟩ := h; simpa using ih h2
theorem OKL.split {m : Mp} : ∀ {xs xs' : List TV} {ys : List AV}, OKL m (xs ++ xs') ys → ∃ a b, ys = a ++ b ∧ OKL m xs a ∧ OKL m xs' b
  | [], _, ys, h => ⟨[], ys, rfl, rfl, h⟩
  | _ :: _, _, _, ⟨y, r, rfl, h1, h2⟩ => by
    obtain ⟨a, b, rfl, h3, h4⟩ := h2.split
    exact ⟨y :: a, b, rfl, ⟨y, a, rfl, h1, h3⟩, h4⟩
theorem ofBase_ok {m : Mp} {v : Value} (h : base v = true) : OK m (ofBase v) (.v v) := by
  unfold ofBase
  split
  · exact rfl
  · exact rfl
  · rename_i s
    show AV.v (.string s) = .v (.string ⟨s.data.toList.toArray⟩)
    cases s; simp
  · exact rfl
  · rw [h]; exact ⟨h, rfl⟩
theorem ofBases_ok {m : Mp} : ∀ {l : List Value}, l.all base = true → OKL m (l.map ofBase) (l.map .v)
  | [], _ => rfl
  | x :: l, h => by
    rw [List.all_cons, Bool.and_eq_true] at h
    exact ⟨_, _, rfl, ofBase_ok h.1, ofBases_ok h.2⟩
theorem ofBase_any {m : Mp} (v : Value) : OK m (ofBase v) (ofC v) := by
  unfold ofC
  cases h : base v with
  | true => exact ofBase_ok h
  | false =>
    have : ofBase v = .dead := by
      unfold ofBase
      split
      · simp [base] at h
      · simp [base] at h
      · simp [base] at h
      · simp [base] at h
      · rw [h]
    rw [this]; trivial
theorem ofConst_ok {m : Mp} (v : Value) : OK m (ofConstT v) (ofConst v) := by
  cases v with
  | agg cs =>
    show OK m (match cs.toList.all base with | true => TV.agg (cs.toList.map ofBase) | false => .dead) (match cs.toList.all base with | true => .agg (cs.toList.map .v) | false => .dead)
    cases h : cs.toList.all base with
    | true => exact ⟨_, rfl, ofBases_ok h⟩
    | false => trivial
  | tuple vs =>
    show OK m (match vs.toList with | [] => TV.tup [] | _ => .dead) (match vs.toList with | [] => .tup [] | _ => .dead)
    cases vs.toList with
    | nil => exact ⟨_, rfl, rfl⟩
    | cons a l => trivial
  | bool b => exact ofBase_any (.bool b)
  | int k n => exact ofBase_any (.int k n)
  | float k n => exact ofBase_any (.float k n)
  | complex k a b => exact ofBase_any (.complex k a b)
  | string s => exact ofBase_any (.string s)
  | pointer a => exact ofBase_any (.pointer a)
  | slice a n c => exact ofBase_any (.slice a n c)
  | map r => exact ofBase_any (.map r)
  | chan r => exact ofBase_any (.chan r)
  | func f a b => exact ofBase_any (.func f a b)
  | nilFunc => exact ofBase_any (.nilFunc)
  | iface t v => exact ofBase_any (.iface t v)
  | nilIface => exact ofBase_any (.nilIface)
def rowGood (σ : St) (R : TRow) (ro : Option Nat) (vo : Nat) (qo : List (List AV)) : Prop := match ro with
  | some r => ∃ Q, σ.rw[r]? = some Q ∧ Q.c = qo ∧ Q.ver = vo ∧ Q.k = R.τ.size ∧ decLs (decV R.τ) Q.c = some R.l ∧ Q.fz ≤ Q.c.length ∧ (R.sh = false → Q.fz = 0)
  | none => R.sh = false → R.l = []
def RowsOK (m : Mp) (σ : St) : Prop := ∀ id R, m.rw[id]? = some R → rowGood σ R (m.r id) (m.v id) (m.q id)
structure Rel (N : Nat × Nat) (m : Mp) (E : Env) (τ : TS) (tm : List AV) (σ : St) : Prop where
  len : tm.length = N.1
  env : ∀ t, OK m (get E t) (tm.getD t .dead)
  rw : m.rw = τ.rw
  nb : m.nb = τ.bx.length
  box : ∀ b cs, τ.bx[b]? = some cs → ∃ ds, σ.bx[m.b b]? = some ds ∧ OKL m cs ds
  inj : ∀ b b', b < m.nb → b' < m.nb → m.b b = m.b b' → b = b'
  rows : RowsOK m σ
  rinj : ∀ id id' r, id < m.rw.length → id' < m.rw.length → m.r id = some r → m.r id' = some r → id = id'
  pin : ∀ i, i < N.2 → i < m.nb ∧ m.b i = i
theorem pin_mono {m m' : Mp} {n : Nat} (hl : MLe m m') (h : ∀ i, i < n → i < m.nb ∧ m.b i = i) : ∀ i, i < n → i < m'.nb ∧ m'.b i = i := fun i hi =>
  ⟨Nat.lt_of_lt_of_le (h i hi).1 hl.nb, (hl.b i (h i hi).1).trans (h i hi).2⟩
theorem Rel.ev {N : Nat × Nat} {m : Mp} {E : Env} {τ : TS} {tm : List AV} {σ : St} (h : Rel N m E τ tm σ) (x : Operand) : OK m (evT E x) (aev tm x) := by
  cases x with
  | tmp t => exact h.env t
  | const v => exact ofConst_ok v
  | func f => exact ⟨_, rfl, rfl⟩
  | global g => trivial
theorem Rel.evs {N : Nat × Nat} {m : Mp} {E : Env} {τ : TS} {tm : List AV} {σ : St} (h : Rel N m E τ tm σ) : ∀ l : List Operand, OKL m (l.map (evT E)) (l.map (aev tm))
  | [] => rfl
  | x :: l => ⟨_, _, rfl, h.ev x, h.evs l⟩

/- Cells. -/
theorem dlist_v {τ : Ty} {y : AV} {l : List (Val τ)} (h : dlist τ y = some l) : y = .v (.slice none 0 0) ∧ l = [] ∨ ∃ es n, y = .sl τ.size es (n + 1) ∧ decLs (decV τ) es = some l := by
  unfold dlist decList at h
  split at h
  · cases h; exact .inl ⟨rfl, rfl⟩
  · rename_i k es n
    split at h
    · rename_i hk
      have := of_decide_eq_true hk
      subst this
      exact .inr ⟨es, n, rfl, h⟩
    · cases h
  · cases h
theorem OK.one {m : Mp} {x : TV} {y : AV} (h : OK m x y) (hc : isCT x = true) : isC y = true ∧ cellsT x = [x] ∧ cellsOf y = [y] := by
  cases x with
  | i => cases h; exact ⟨rfl, rfl, rfl⟩
  | b => cases h; exact ⟨rfl, rfl, rfl⟩
  | s => cases h; exact ⟨rfl, rfl, rfl⟩
  | c => obtain ⟨_, rfl⟩ := h; exact ⟨rfl, rfl, rfl⟩
  | nil => cases h; exact ⟨rfl, rfl, rfl⟩
  | sl τ l lv =>
    obtain ⟨h, _⟩ := h
    rcases dlist_v h with ⟨rfl, _⟩ | ⟨es, n, rfl, _⟩ <;> exact ⟨rfl, rfl, rfl⟩
  | row id ver =>
    obtain ⟨R, _, _, h, _⟩ := h
    rcases h with rfl | ⟨k, es, j, rfl⟩ | ⟨r, lo, n, ep, f, rfl⟩ <;> exact ⟨rfl, rfl, rfl⟩
  | ptr b o => obtain ⟨_, rfl⟩ := h; exact ⟨rfl, rfl, rfl⟩
  | rpt id ver sv i cs o => obtain ⟨R, _, _, _, h, _⟩ := h; rcases h with ⟨r, i, ep, rfl⟩ | ⟨ds, rfl⟩ <;> exact ⟨rfl, rfl, rfl⟩
  | ept cs o => obtain ⟨ds, rfl, _⟩ := h; exact ⟨rfl, rfl, rfl⟩
  | fn f cs => obtain ⟨ds, rfl, _⟩ := h; exact ⟨rfl, rfl, rfl⟩
  | agg cs => simp [isCT] at hc
  | tup cs => simp [isCT] at hc
  | dead => simp [isCT] at hc
theorem OKL.allC {m : Mp} : ∀ {xs : List TV} {ys : List AV}, OKL m xs ys → xs.all isCT = true → ys.all isC = true
  | [], _, h, _ => by cases h; rfl
  | x :: xs, _, ⟨y, r, rfl, h1, h2⟩, h => by
    rw [List.all_cons, Bool.and_eq_true] at h
    rw [List.all_cons, (h1.one h.1).1, h2.allC h.2]; rfl
theorem OK.cells {m : Mp} {x : TV} {y : AV} (h : OK m x y) (hc : (cellsT x).all isCT = true) : OKL m (cellsT x) (cellsOf y) ∧ (cellsOf y).all isC = true := by
  have one : isCT x = true → OKL m (cellsT x) (cellsOf y) ∧ (cellsOf y).all isC = true := by
    intro h1
    obtain ⟨a, b, c⟩ := h.one h1
    rw [b, c]
    exact ⟨⟨y, [], rfl, h, rfl⟩, by simp [a]⟩
  cases x with
  | agg cs =>
    obtain ⟨ds, rfl, hd⟩ := h
    exact ⟨hd, hd.allC hc⟩
  | tup cs => simp [cellsT, isCT] at hc
  | dead => simp [cellsT, isCT] at hc
  | _ => exact one rfl
/-- The cells of a value are those that decode to it. -/
theorem decS1_lvl {x : AV} {l : List T} (h : decS1 x = some l) : 1 ≤ lvl x := by
  unfold decS1 at h
  split at h
  · exact Nat.le_succ _
  · exact Nat.succ_le_succ (Nat.zero_le _)
  · cases h
theorem dlist_lvl {τ : Ty} {y : AV} {l : List (Val τ)} (h : dlist τ y = some l) : 1 ≤ lvl y := by
  rcases dlist_v h with ⟨rfl, _⟩ | ⟨es, n, rfl, _⟩
  · exact Nat.le_succ _
  · exact Nat.succ_le_succ (Nat.zero_le _)
theorem cells_ok {m : Mp} : ∀ (τ : Ty) {cs : List AV} {v : Val τ} {r : List AV}, dparse τ cs = some (v, r) → ∃ pre, cs = pre ++ r ∧ OKL m (cellsV τ v) pre
  | .int k, cs, v, r, h => by
    change dInt k cs = _ at h
    unfold dInt at h
    split at h <;> try cases h
    split at h <;> cases h
    rename_i hk
    have hk' := of_decide_eq_true hk
    subst hk'
    exact ⟨[_], rfl, ⟨_, _, rfl, rfl, rfl⟩⟩
  | .bool, cs, v, r, h => by
    change dBool cs = _ at h
    unfold dBool at h
    split at h <;> cases h
    exact ⟨[_], rfl, ⟨_, _, rfl, rfl, rfl⟩⟩
  | .str, cs, v, r, h => by
    change dStr cs = _ at h
    unfold dStr at h
    split at h <;> cases h
    rename_i s
    exact ⟨[_], rfl, ⟨_, _, rfl, by show AV.v (.string s) = .v (.string ⟨s.data.toList.toArray⟩); cases s; simp, rfl⟩⟩
  | .term, cs, v, r, h => by
    change dTerm cs = _ at h
    unfold dTerm at h
    split at h <;> try cases h
    split at h <;> cases h
    rename_i hd
    obtain ⟨k, n, s, x, l, hl, h1, rfl⟩ := decT1_inv hd
    cases hl
    refine ⟨_, rfl, ⟨_, _, rfl, rfl, _, _, rfl, ?_, _, _, rfl, rfl, _, _, rfl, ⟨?_, decS1_lvl h1⟩, rfl⟩⟩
    · show AV.v (.string n) = .v (.string ⟨n.data.toList.toArray⟩); cases n; simp
    · rw [dlist_term]; exact h1
  | .list a, cs, v, r, h => by
    change dLst _ cs = _ at h
    unfold dLst at h
    split at h <;> try cases h
    split at h <;> cases h
    rename_i hd
    have hd : dlist a _ = some v := hd
    exact ⟨[_], rfl, ⟨_, _, rfl, ⟨hd, dlist_lvl hd⟩, rfl⟩⟩
  | .pair a b, cs, v, r, h => by
    obtain ⟨r1, h1, h2⟩ := pPair_some.1 h
    obtain ⟨p, e1, o1⟩ := cells_ok (m := m) a h1
    obtain ⟨p', e2, o2⟩ := cells_ok (m := m) b h2
    exact ⟨p ++ p', by rw [e1, e2, List.append_assoc], o1.append o2⟩
  | .one a, cs, v, r, h => cells_ok (m := m) a h
theorem cells_full {m : Mp} {τ : Ty} {e : List AV} {v : Val τ} (h : decV τ e = some v) : OKL m (cellsV τ v) e := by
  obtain ⟨pre, h1, h2⟩ := cells_ok (m := m) τ (full_some.1 h)
  rw [List.append_nil] at h1
  rw [h1]; exact h2
theorem decV_enc (τ : Ty) (v : Val τ) : decV τ (encV τ v) = some v := full_some.2 (dparse_enc τ v)
theorem toTV_ok {m : Mp} : ∀ (τ : Ty) (v : Val τ), OK m (toTV τ v) (encA τ v)
  | .int k, v => rfl
  | .bool, v => rfl
  | .str, v => rfl
  | .list a, v => by
    have h : OKL m (cellsV (.list a) v) (encV (.list a) v) := cells_full (decV_enc (.list a) v)
    obtain ⟨y, r, h1, h2, _⟩ := h
    cases h1
    exact h2
  | .term, v => ⟨_, rfl, cells_full (decV_enc .term v)⟩
  | .pair a b, v => ⟨_, rfl, cells_full (decV_enc (.pair a b) v)⟩
  | .one a, v => ⟨_, rfl, cells_full (decV_enc (.one a) v)⟩
end Go.AmYtmodnblfcikjlaaGreat
namespace Go.AmYtmodnblfcikjlaaGreat
open Go Go.RowKit Go.GxYtmodnblfcikjlaaGreat

def turnT (τ : TS) : Option TS → TS
  | none => τ
  | some τ' => τ'
def Sim {α : Type} (N : Nat × Nat) (m : Mp) (E : Env) (τ : TS) (tm : List AV) (σ : St) (K : KT α) (r : α) (p : Option (AV × Option St)) : Prop :=
  ∃ x τ' y σ' m', K x τ' = some r ∧ p = some (y, σ') ∧ MLe m m' ∧ Rel N m' E (turnT τ τ') tm (turn σ σ') ∧ OK m' x y ∧ (τ' = none → σ' = none)
section
variable {α : Type} {N : Nat × Nat} {m : Mp} {E : Env} {τ : TS} {tm : List AV} {σ : St} {K : KT α} {r : α} {p : Option (AV × Option St)}
theorem Sim.same {x : TV} {y : AV} (hr : Rel N m E τ tm σ) (h : K x none = some r) (hp : p = some (y, none)) (ho : OK m x y) : Sim N m E τ tm σ K r p :=
  ⟨x, none, y, none, m, h, hp, .refl m, hr, ho, fun _ => rfl⟩
theorem Sim.to {x : TV} {y : AV} {τ' : TS} {σ' : St} {m' : Mp} (h : K x (some τ') = some r) (hp : p = some (y, some σ')) (h1 : MLe m m') (h2 : Rel N m' E τ' tm σ') (h3 : OK m' x y) : Sim N m E τ tm σ K r p :=
  ⟨x, some τ', y, some σ', m', h, hp, h1, h2, h3, fun h => by cases h⟩
theorem Rel.box_lt (hr : Rel N m E τ tm σ) {b : Nat} (h : b < m.nb) : m.b b < σ.bx.length := by
  rw [hr.nb] at h
  obtain ⟨ds, h1, _⟩ := hr.box b _ (List.getElem?_eq_getElem h)
  exact getElem?_lt h1
theorem Rel.alloc (hr : Rel N m E τ tm σ) {cs : List TV} {ds : List AV} (hc : OKL m cs ds) :
    ∃ m', MLe m m' ∧ Rel N m' E { τ with bx := τ.bx ++ [cs] } tm { σ with bx := σ.bx ++ [ds] } ∧ OK m' (.ptr τ.bx.length 0) (.ptr σ.bx.length 0) := by
  have hle : MLe m { m with b := fun i => if i = m.nb then σ.bx.length else m.b i, nb := m.nb + 1 } :=
    ⟨Nat.le_succ _, fun i hi => if_neg (Nat.ne_of_lt hi), fun id R h => ⟨R, h, Nat.le_refl _, Nat.le_refl _, fun _ => ⟨rfl, rfl, rfl, rfl, fun _ => rfl, fun _ _ h => h⟩⟩⟩
  refine ⟨_, hle, ?_, ?_⟩
  · refine ⟨hr.len, fun t => (hr.env t).mono hle, hr.rw, by show m.nb + 1 = _; rw [hr.nb]; simp, ?_, ?_, hr.rows, hr.rinj, pin_mono hle hr.pin⟩
    · intro b cs' hb
      show ∃ ds', (σ.bx ++ [ds])[if b = m.nb then σ.bx.length else m.b b]? = some ds' ∧ _
      by_cases hlt : b < τ.bx.length
      · rw [List.getElem?_append_left hlt] at hb
        obtain ⟨ds', h1, h2⟩ := hr.box b cs' hb
        rw [if_neg (by rw [hr.nb]; omega), List.getElem?_append_left (getElem?_lt h1)]
        exact ⟨ds', h1, h2.mono hle⟩
      · have hbl : b < (τ.bx ++ [cs]).length := getElem?_lt hb
        simp at hbl
        have hbe : b = τ.bx.length := by omega
        subst hbe
        simp at hb
        subst hb
        rw [if_pos hr.nb.symm]
        exact ⟨ds, by simp, hc.mono hle⟩
    · intro b b' hb hb' he
      change b < m.nb + 1 at hb
      change b' < m.nb + 1 at hb'
      change (if b = m.nb then σ.bx.length else m.b b) = (if b' = m.nb then σ.bx.length else m.b b') at he
      split at he <;> split at he
      · omega
      · have := hr.box_lt (b := b') (by omega); omega
      · have := hr.box_lt (b := b) (by omega); omega
      · exact hr.inj b b' (by omega) (by omega) he
  · refine ⟨?_, ?_⟩
    · show τ.bx.length < m.nb + 1
      rw [hr.nb]; exact Nat.lt_succ_self _
    · show AV.ptr σ.bx.length 0 = .ptr (if τ.bx.length = m.nb then σ.bx.length else m.b τ.bx.length) 0
      rw [if_pos hr.nb.symm]
theorem Rel.setBox (hr : Rel N m E τ tm σ) {b : Nat} {cs : List TV} {ds : List AV} (hb : b < m.nb) (hc : OKL m cs ds) (w : List Nat) : Rel N m E { τ with bx := τ.bx.set b cs } tm { σ with bx := σ.bx.set (m.b b) ds, wr := w } := by
  refine ⟨hr.len, hr.env, hr.rw, by rw [hr.nb]; simp, ?_, hr.inj, hr.rows, hr.rinj, hr.pin⟩
  intro i cs' hi
  have hil : i < m.nb := by rw [hr.nb]; have := getElem?_lt hi; simpa using this
  by_cases he : i = b
  · subst he
    have hlt : i < τ.bx.length := by rw [← hr.nb]; exact hil
    simp only [List.getElem?_set_self hlt, Option.some.injEq] at hi
    subst hi
    exact ⟨ds, by simp only [List.getElem?_set_self (hr.box_lt hb)], hc⟩
  · simp only [List.getElem?_set_ne (Ne.symm he)] at hi
    obtain ⟨ds', h1, h2⟩ := hr.box i cs' hi
    have hne : m.b b ≠ m.b i := fun h => he (hr.inj _ _ hil hb h.symm)
    exact ⟨ds', by simp only [List.getElem?_set_ne hne]; exact h1, h2⟩
theorem Rel.rowsTo (hr : Rel N m E τ tm σ) {σ' : St} (h1 : σ'.bx = σ.bx) (h2 : RowsOK m σ') : Rel N m E τ tm σ' :=
  ⟨hr.len, hr.env, hr.rw, hr.nb, by rw [h1]; exact hr.box, hr.inj, h2, hr.rinj, hr.pin⟩
theorem frz_keep {r : Nat} {Q : Row} (hl : Q.fz ≤ Q.c.length) : ∀ (rs : List Nat) {rw : List Row}, rw[r]? = some Q → ∃ Q', (frz rw rs)[r]? = some Q' ∧ Q'.c = Q.c ∧ Q'.k = Q.k ∧ Q'.ver = Q.ver ∧ Q'.fz ≤ Q'.c.length := by
  intro rs
  induction rs generalizing Q with
  | nil => intro rw h; exact ⟨Q, h, rfl, rfl, rfl, hl⟩
  | cons a rs ih =>
    intro rw h
    have : ∃ Q1, (rw.modify a frz1)[r]? = some Q1 ∧ Q1.c = Q.c ∧ Q1.k = Q.k ∧ Q1.ver = Q.ver ∧ Q1.fz ≤ Q1.c.length := by
      rw [List.getElem?_modify, h]
      by_cases he : a = r
      · exact ⟨frz1 Q, by simp [he], rfl, rfl, rfl, Nat.max_le.2 ⟨hl, Nat.le_refl _⟩⟩
      · exact ⟨Q, by simp [he], rfl, rfl, rfl, hl⟩
    obtain ⟨Q1, g1, g2, g3, g4, g5⟩ := this
    obtain ⟨Q2, k1, k2, k3, k4, k5⟩ := ih (Q := Q1) g5 g1
    exact ⟨Q2, k1, k2.trans g2, k3.trans g3, k4.trans g4, k5⟩
def shM (m : Mp) : Mp := { m with rw := m.rw.map fun R => ⟨R.τ, R.l, R.ver, R.sv, true⟩ }
theorem shM_get {id : Nat} {R : TRow} (h : (shM m).rw[id]? = some R) : ∃ R0, m.rw[id]? = some R0 ∧ R = ⟨R0.τ, R0.l, R0.ver, R0.sv, true⟩ := by
  change (m.rw.map _)[id]? = some R at h
  rw [List.getElem?_map] at h
  cases h0 : m.rw[id]? with
  | none => rw [h0] at h; cases h
  | some R0 => rw [h0] at h; cases h; exact ⟨R0, rfl, rfl⟩
theorem shM_le (m : Mp) : MLe m (shM m) := by
  refine ⟨Nat.le_refl _, fun _ _ => rfl, fun id R h => ⟨⟨R.τ, R.l, R.ver, R.sv, true⟩, ?_, Nat.le_refl _, Nat.le_refl _, fun _ => ⟨rfl, rfl, rfl, rfl, fun _ => rfl, fun _ _ h => h⟩⟩⟩
  show (m.rw.map _)[id]? = _
  rw [List.getElem?_map, h]; rfl
theorem RowsOK.frz (h : RowsOK m σ) (rs w : List Nat) : RowsOK (shM m) { σ with rw := frz σ.rw rs, wrr := w } := by
  intro id R hR
  obtain ⟨R0, h0, rfl⟩ := shM_get hR
  have := h id R0 h0
  show match m.r id with | some r => ∃ Q, (Go.AmYtmodnblfcikjlaaGreat.frz σ.rw rs)[r]? = some Q ∧ Q.c = m.q id ∧ Q.ver = m.v id ∧ Q.k = R0.τ.size ∧ decLs (decV R0.τ) Q.c = some R0.l ∧ Q.fz ≤ Q.c.length ∧ (true = false → Q.fz = 0) | none => true = false → R0.l = []
  cases hr : m.r id with
  | some r =>
    rw [hr] at this
    obtain ⟨Q, h1, h2, h3, h4, h5, h6, _⟩ := this
    obtain ⟨Q', g1, g2, g3, g4, g5⟩ := frz_keep h6 (rw := σ.rw) rs h1
    exact ⟨Q', g1, g2.trans h2, g4.trans h3, g3.trans h4, by rw [g2]; exact h5, g5, fun h => by cases h⟩
  | none => intro h; cases h
theorem RowsOK.sh (h : RowsOK m σ) : RowsOK (shM m) σ := by
  intro id R hR
  obtain ⟨R0, h0, rfl⟩ := shM_get hR
  have := h id R0 h0
  show match m.r id with | some r => ∃ Q, σ.rw[r]? = some Q ∧ Q.c = m.q id ∧ Q.ver = m.v id ∧ Q.k = R0.τ.size ∧ decLs (decV R0.τ) Q.c = some R0.l ∧ Q.fz ≤ Q.c.length ∧ (true = false → Q.fz = 0) | none => true = false → R0.l = []
  cases hr : m.r id with
  | some r =>
    rw [hr] at this
    obtain ⟨Q, h1, h2, h3, h4, h5, h6, _⟩ := this
    exact ⟨Q, h1, h2, h3, h4, h5, h6, fun h => by cases h⟩
  | none => intro h; cases h
/-- Rows are shared. -/
theorem Rel.share (hr : Rel N m E τ tm σ) {σ' : St} (h1 : σ'.bx = σ.bx) (h2 : RowsOK (shM m) σ') : Rel N (shM m) E (shA τ) tm σ' := by
  refine ⟨hr.len, fun t => (hr.env t).mono (shM_le m), by show m.rw.map _ = τ.rw.map _; rw [hr.rw], hr.nb, ?_, hr.inj, h2, ?_, hr.pin⟩
  · intro b cs hb
    obtain ⟨ds, g1, g2⟩ := hr.box b cs hb
    exact ⟨ds, by rw [h1]; exact g1, g2.mono (shM_le m)⟩
  · intro id id' r e1 e2 e3 e4
    have l : (shM m).rw.length = m.rw.length := List.length_map ..
    exact hr.rinj id id' r (l ▸ e1) (l ▸ e2) e3 e4

theorem int_sim {op : BinOp} {k : IntKind} {a b : Int} {K' : TV → Option α} {r : α} (h : intT op k a b K' = some r) : ∃ x z, K' x = some r ∧ intA op k a b = some z ∧ OK m x (.v z) := by
  cases op <;> simp only [intT] at h <;> first
    | (cases h; done)
    | exact ⟨_, _, h, rfl, rfl⟩
    | skip
  all_goals (
    cases hb : ieq b 0 with
    | true => rw [hb] at h; cases h
    | false => rw [hb] at h; exact ⟨_, _, h, by simp only [intA, hb], rfl⟩)
theorem room_str {a b : List UInt8} (h : sroom a b = true) : xapp ⟨a.toArray⟩ ⟨b.toArray⟩ = some ⟨(a ++ b).toArray⟩ := by
  have h := of_decide_eq_true h
  unfold xapp
  have e1 : (⟨a.toArray⟩ : ByteArray).size = a.length := by simp [ByteArray.size]
  have e2 : (⟨b.toArray⟩ : ByteArray).size = b.length := by simp [ByteArray.size]
  rw [if_neg (by rw [e1, e2]; omega)]
  congr 1
theorem xeq_seq (a b : List UInt8) : xeq ⟨a.toArray⟩ ⟨b.toArray⟩ = seq' a b := by
  simp [xeq, seq']
theorem xlt_slt (a b : List UInt8) : xlt ⟨a.toArray⟩ ⟨b.toArray⟩ = slt a b := by
  simp [xlt, slt]
theorem str_sim {op : BinOp} {a b : List UInt8} {K' : TV → Option α} {r : α} (h : strT op a b K' = some r) : ∃ x z, K' x = some r ∧ strA op ⟨a.toArray⟩ ⟨b.toArray⟩ = some z ∧ OK m x (.v z) := by
  cases op <;> simp only [strT] at h <;> first
    | (cases h; done)
    | (refine ⟨_, _, h, rfl, ?_⟩; simp only [xeq_seq, xlt_slt]; exact rfl)
    | skip
  cases hb : sroom a b with
  | false => rw [hb] at h; cases h
  | true => rw [hb] at h; exact ⟨_, _, h, by simp only [strA, room_str hb], rfl⟩
theorem fill_sim {place : Nat → Option (Nat × Nat)} : ∀ {l : List (Nat × TV)} {l' : List (Nat × AV)} {cells : List TV} {cells' : List AV} {cs : List TV},
    (l.map (·.1) = l'.map (·.1) ∧ OKL m (l.map (·.2)) (l'.map (·.2))) → OKL m cells cells' → fillT place cells l = some cs → ∃ ds, fillA place cells' l' = some ds ∧ OKL m cs ds
  | [], l', cells, cells', cs, hl, hc, h => by
    have : l' = [] := by cases l' with | nil => rfl | cons a b => simp at hl
    subst this
    cases h
    exact ⟨cells', rfl, hc⟩
  | (i, x) :: l, l', cells, cells', cs, hl, hc, h => by
    cases l' with
    | nil => simp at hl
    | cons q l' =>
      obtain ⟨j, y⟩ := q
      simp only [List.map_cons, List.cons.injEq] at hl
      obtain ⟨⟨rfl, hl1⟩, y', r', he, hx, hl2⟩ := hl
      cases he
      simp only [fillT] at h
      simp only [fillA]
      split at h <;> try cases h
      rename_i off size hp
      split at h <;> try cases h
      rename_i hb
      simp only [Bool.and_eq_true, decide_eq_true_eq] at hb
      obtain ⟨⟨h1, h2⟩, h3⟩ := hb
      obtain ⟨g1, g2⟩ := hx.cells h3
      rw [hp]
      have e1 : (cellsOf y).length = size := by rw [g1.len]; exact h1
      have e2 : off + size ≤ cells'.length := by rw [hc.len]; exact h2
      simp only [e1, e2, g2, decide_true, Bool.and_self]
      exact fill_sim ⟨hl1, hl2⟩ ((hc.take off).append (g1.append (hc.drop (off + size)))) h
theorem part_sim {agg : Bool} {size o : Nat} {cs : List TV} {ds : List AV} {x : TV} (hc : OKL m cs ds) (h : partT agg size cs o = some x) : ∃ y, partOf agg size ds o = some y ∧ OK m x y := by
  unfold partT at h
  unfold partOf
  cases agg with
  | true =>
    simp only at h ⊢
    split at h <;> cases h
    rename_i hb
    rw [← hc.len] at hb
    rw [hb]
    exact ⟨_, rfl, _, rfl, (hc.drop o).take size⟩
  | false => exact hc.get h
theorem bound_sim (hr : Rel N m E τ tm σ) {y : Nat} {d : Nat} {hi : Option Operand} {n : Int} (h : boundT d E hi = some n) (hd : d ≤ y) (hb : inb n y = true) : optA d y (hi.map (aev tm)) = some n.toNat := by
  have hb := of_decide_eq_true hb
  cases hi with
  | none =>
    simp only [boundT, Option.some.injEq] at h
    subst h
    simp [optA]
  | some x =>
    simp only [boundT] at h
    split at h <;> cases h
    rename_i k hx
    have := hr.ev x
    rw [hx] at this
    show boundA y (aev tm x) = _
    rw [this]
    show bnd y n = _
    unfold bnd
    rw [if_pos hb]
theorem lget_some {β : Type} {l : List β} {j : Int} {v : β} (h : lget l j = some v) : 0 ≤ j ∧ l[j.toNat]? = some v := by
  unfold lget at h
  split at h
  · exact ⟨by assumption, h⟩
  · cases h
theorem obind_some {β γ : Type} {x : Option β} {k : β → Option γ} {r : γ} (h : obind x k = some r) : ∃ v, x = some v ∧ k v = some r := by
  unfold obind at h
  split at h
  · exact ⟨_, rfl, h⟩
  · cases h
theorem cond_some {b : Bool} {x : Option α} {r : α} (h : cond b x none = some r) : b = true ∧ x = some r := by
  cases b with
  | true => exact ⟨rfl, h⟩
  | false => cases h
theorem cond_some' {b : Bool} {x : Option α} {r : α} (h : cond b none x = some r) : b = false ∧ x = some r := by
  cases b with
  | true => cases h
  | false => exact ⟨rfl, h⟩
end
end Go.AmYtmodnblfcikjlaaGreat
namespace Go.AmYtmodnblfcikjlaaGreat
open Go Go.RowKit Go.GxYtmodnblfcikjlaaGreat

def isAggA : AV → Bool
  | .agg _ => true
  | _ => false
def dpackV (τ : Ty) (y : AV) : Option (Val τ) := match beqB τ.agg (isAggA y) with
  | true => decV τ (cellsOf y)
  | false => none
section
variable {α : Type} {N : Nat × Nat} {m : Mp} {E : Env} {τ : TS} {tm : List AV} {σ : St} {K : KT α} {r : α} {p : Option (AV × Option St)}
theorem castL_some {a b : Ty} {l : List (Val a)} {l' : List (Val b)} (h : castL l b = some l') : ∃ e : a = b, e ▸ l = l' := by
  unfold castL at h
  split at h
  · rename_i e; cases h; exact ⟨e, rfl⟩
  · cases h
theorem rowEl_all (Q : Row) : rowEl Q Q.k 0 Q.c.length Q.ver = some Q.c := by
  unfold rowEl
  rw [if_pos ⟨rfl, rfl, by omega⟩]
  simp
/-- A row that is what it was last made. -/
theorem row_cur (hq : RowsOK m σ) {id : Nat} {R : TRow} {y : AV} (hR : m.rw[id]? = some R) (h : rowAt (m.r id) (m.v id) R.τ R.l y) :
    (∃ r Q, m.r id = some r ∧ y = .rs r 0 Q.c.length Q.ver false ∧ σ.rw[r]? = some Q ∧ Q.c = m.q id ∧ Q.ver = m.v id ∧ Q.k = R.τ.size ∧ decLs (decV R.τ) Q.c = some R.l ∧ Q.fz ≤ Q.c.length ∧ (R.sh = false → Q.fz = 0)) ∨
    (m.r id = none ∧ (R.sh = false → R.l = []) ∧ dlist R.τ y = some R.l ∧ 2 ≤ lvl y) := by
  have hq := hq id R hR
  cases hr : m.r id with
  | some r =>
    rw [hr] at hq h
    obtain ⟨Q, g1, g2, g3, g4, g5, g6⟩ := hq
    refine .inl ⟨r, Q, rfl, ?_, g1, g2, g3, g4, g5, g6⟩
    rw [decLs_len g5, g3]
    exact h
  | none =>
    rw [hr] at hq h
    exact .inr ⟨rfl, hq, h.1, h.2⟩
theorem dlist_els {a : Ty} {y : AV} {l : List (Val a)} (rw' : List Row) (h : dlist a y = some l) : ∃ es, elems rw' a.size y = some es ∧ decLs (decV a) es = some l ∧ dlist a (purC rw' y) = some l := by
  rcases dlist_v h with ⟨rfl, h2⟩ | ⟨es, n, rfl, h2⟩
  · rw [h2]; exact ⟨[], rfl, rfl, rfl⟩
  · refine ⟨es, by simp only [elems, neqN, decide_true], h2, ?_⟩
    show dlist _ (.sl _ es 1) = _
    simp only [dlist, decList, neqN, decide_true]
    exact h2
theorem list_ok (hq : RowsOK m σ) {a : Ty} {x : TV} {y : AV} {l : List (Val a)} (h : listT m.rw a x = some l) (ho : OK m x y) :
    ∃ es, elems σ.rw a.size y = some es ∧ decLs (decV a) es = some l ∧ dlist a (purC σ.rw y) = some l := by
  unfold listT at h
  split at h
  · cases h
    cases ho
    exact ⟨[], rfl, rfl, rfl⟩
  · obtain ⟨e, rfl⟩ := castL_some h
    subst e
    exact dlist_els _ ho.1
  · rename_i id ver
    split at h <;> try cases h
    rename_i R hR
    split at h <;> try cases h
    rename_i hv
    have hv : R.ver = ver := Nat.eq_of_beq_eq_true hv
    obtain ⟨e, rfl⟩ := castL_some h
    subst e
    obtain ⟨R', h1, _, _, h3⟩ := ho
    rw [hR] at h1; cases h1
    rcases row_cur hq hR (h3 hv) with ⟨r, Q, _, rfl, g1, _, _, g4, g5, _⟩ | ⟨_, _, g2, _⟩
    · refine ⟨Q.c, ?_, g5, ?_⟩
      · simp only [elems, g1]
        rw [← g4]
        exact rowEl_all Q
      · simp only [purC, g1, rowEl_all Q, dlist, decList]
        rw [← g4]
        simp only [neqN, decide_true]
        exact g5
    · exact dlist_els _ g2
  · cases h
theorem parse_ok (hq : RowsOK m σ) : ∀ (a : Ty) {cs : List TV} {v : Val a} {r : List TV} {ds : List AV}, parse m.rw a cs = some (v, r) → OKL m cs ds → ∃ rs, dparse a (ds.map (purC σ.rw)) = some (v, rs.map (purC σ.rw)) ∧ OKL m r rs
  | .int k, cs, v, r, ds, h, ho => by
    change pInt k cs = _ at h
    unfold pInt at h
    split at h <;> try cases h
    split at h <;> cases h
    rename_i hk
    obtain ⟨y, rs, rfl, hy, hr⟩ := ho
    cases hy
    exact ⟨rs, by show dInt _ _ = _; simp only [List.map_cons, purC, dInt, hk], hr⟩
  | .bool, cs, v, r, ds, h, ho => by
    change pBool cs = _ at h
    unfold pBool at h
    split at h <;> cases h
    obtain ⟨y, rs, rfl, hy, hr⟩ := ho
    cases hy
    exact ⟨rs, rfl, hr⟩
  | .str, cs, v, r, ds, h, ho => by
    change pStr cs = _ at h
    unfold pStr at h
    split at h <;> cases h
    obtain ⟨y, rs, rfl, hy, hr⟩ := ho
    cases hy
    exact ⟨rs, by show dStr _ = _; simp only [List.map_cons, purC, dStr], hr⟩
  | .term, cs, v, r, ds, h, ho => by
    change pTerm _ cs = _ at h
    unfold pTerm at h
    split at h <;> try cases h
    split at h <;> cases h
    rename_i hl
    obtain ⟨y1, r1, rfl, hy1, y2, r2, rfl, hy2, y3, r3, rfl, hy3, y4, r4, rfl, hy4, hr⟩ := ho
    cases hy1; cases hy2; cases hy3
    obtain ⟨es, _, _, hd⟩ := list_ok hq hl hy4
    rw [dlist_term] at hd
    refine ⟨r4, ?_, hr⟩
    show dTerm (.v (.int .i64 _) :: .v (.string ⟨_⟩) :: .v (.int .i64 _) :: purC σ.rw y4 :: r4.map (purC σ.rw)) = _
    generalize purC σ.rw y4 = z at hd
    simp only [dTerm, decT1, hd]
  | .list a, cs, v, r, ds, h, ho => by
    change pList _ cs = _ at h
    unfold pList at h
    split at h <;> try cases h
    split at h <;> cases h
    rename_i hl
    obtain ⟨y, rs, rfl, hy, hr⟩ := ho
    obtain ⟨es, _, _, hd⟩ := list_ok hq hl hy
    have hd : decList a.size (fun e => full (dparse a e)) (purC σ.rw y) = some v := hd
    exact ⟨rs, by show dLst _ _ = _; simp only [List.map_cons, dLst, hd], hr⟩
  | .pair a b, cs, v, r, ds, h, ho => by
    obtain ⟨r1, h1, h2⟩ := pPair_some.1 h
    obtain ⟨rs1, g1, g2⟩ := parse_ok hq a h1 ho
    obtain ⟨rs2, k1, k2⟩ := parse_ok hq b h2 g2
    exact ⟨rs2, pPair_some.2 ⟨_, g1, k1⟩, k2⟩
  | .one a, cs, v, r, ds, h, ho => parse_ok hq a h ho
theorem fullT_some {β : Type} {x : Option (β × List TV)} {v : β} (h : fullT x = some v) : x = some (v, []) := by
  unfold fullT at h
  split at h
  · cases h; rfl
  · cases h
theorem purA_cells (rw : List Row) {y : AV} (h : isAggA y = false) : isAggA (purA rw y) = false ∧ cellsOf (purA rw y) = [purC rw y] ∧ cellsOf y = [y] := by
  cases y with
  | agg cs => cases h
  | rs r lo n ep f =>
    cases hR : rw[r]? with
    | none => simp [purA, purC, hR, isAggA, cellsOf]
    | some R => cases hE : rowEl R R.k lo n ep <;> simp [purA, purC, hR, hE, isAggA, cellsOf]
  | _ => exact ⟨rfl, rfl, rfl⟩
theorem pack_ok (hq : RowsOK m σ) {a : Ty} {x : TV} {y : AV} {v : Val a} (h : packV m.rw a x = some v) (ho : OK m x y) :
    dpackV a (purA σ.rw y) = some v ∧ decV a ((cellsOf y).map (purC σ.rw)) = some v := by
  unfold packV at h
  split at h
  case h_2 => cases h
  rename_i hb
  have hb : a.agg = isAggT x := by simpa [beqB] using hb
  have h := fullT_some h
  have key : OKL m (cellsT x) (cellsOf y) → decV a ((cellsOf y).map (purC σ.rw)) = some v := by
    intro hc
    obtain ⟨rs, g1, g2⟩ := parse_ok hq a h hc
    cases g2
    exact full_some.2 g1
  by_cases hx : isAggT x = true
  · cases x with
    | agg cs =>
      obtain ⟨ds, rfl, hd⟩ := ho
      refine ⟨?_, key hd⟩
      unfold dpackV
      rw [hb]
      exact key hd
    | _ => cases hx
  · have hx : isAggT x = false := by simpa using hx
    have hct : cellsT x = [x] := by cases x <;> first | rfl | (cases hx)
    have hy : isAggA y = false := by
      cases x with
      | agg cs => cases hx
      | i => cases ho; rfl
      | b => cases ho; rfl
      | s => cases ho; rfl
      | c => obtain ⟨_, rfl⟩ := ho; rfl
      | nil => cases ho; rfl
      | sl τ l lv =>
        obtain ⟨ho, _⟩ := ho
        rcases dlist_v ho with ⟨rfl, _⟩ | ⟨es, n, rfl, _⟩ <;> rfl
      | row id ver =>
        obtain ⟨R, _, _, ho, _⟩ := ho
        rcases ho with rfl | ⟨k, es, j, rfl⟩ | ⟨r, lo, n, ep, f, rfl⟩ <;> rfl
      | ptr b o => obtain ⟨_, rfl⟩ := ho; rfl
      | rpt id ver sv i cs o => obtain ⟨R, _, _, _, ho, _⟩ := ho; rcases ho with ⟨r, i, ep, rfl⟩ | ⟨ds, rfl⟩ <;> rfl
      | ept cs o => obtain ⟨ds, rfl, _⟩ := ho; rfl
      | fn f cs => obtain ⟨ds, rfl, _⟩ := ho; rfl
      | tup cs => obtain ⟨ds, rfl, _⟩ := ho; rfl
      | dead =>
        exfalso
        rw [hct] at h
        have hag : a.agg = false := by rw [hb]; rfl
        cases a with
        | int k => cases h
        | bool => cases h
        | str => cases h
        | list a => cases h
        | term => cases hag
        | pair a b => cases hag
        | one a => cases hag
    obtain ⟨e1, e2, e3⟩ := purA_cells σ.rw hy
    have hc : OKL m (cellsT x) (cellsOf y) := by rw [hct, e3]; exact ⟨y, [], rfl, ho, rfl⟩
    refine ⟨?_, key hc⟩
    unfold dpackV
    rw [e1, hb, hx, e2]
    have := key hc
    rw [e3] at this
    exact this
theorem noRs1_ok {x : TV} {y : AV} (ho : OK m x y) (h : noRs1 x = true) : rsC y = [] ∧ isAggA y = false := by
  cases x with
  | i => cases ho; exact ⟨rfl, rfl⟩
  | b => cases ho; exact ⟨rfl, rfl⟩
  | s => cases ho; exact ⟨rfl, rfl⟩
  | c => obtain ⟨_, rfl⟩ := ho; exact ⟨rfl, rfl⟩
  | nil => cases ho; exact ⟨rfl, rfl⟩
  | sl τ l lv =>
    obtain ⟨ho, _⟩ := ho
    rcases dlist_v ho with ⟨rfl, _⟩ | ⟨es, n, rfl, _⟩ <;> exact ⟨rfl, rfl⟩
  | fn f cs => obtain ⟨ds, rfl, _⟩ := ho; exact ⟨rfl, rfl⟩
  | _ => cases h
theorem noRs1s_ok : ∀ {xs : List TV} {ys : List AV}, OKL m xs ys → xs.all noRs1 = true → ys.flatMap rsC = []
  | [], _, h, _ => by cases h; rfl
  | x :: xs, _, ⟨y, r, rfl, h1, h2⟩, h => by
    rw [List.all_cons, Bool.and_eq_true] at h
    rw [List.flatMap_cons, (noRs1_ok h1 h.1).1, noRs1s_ok h2 h.2]; rfl
theorem rsA_one {y : AV} (h1 : rsC y = []) (h2 : isAggA y = false) : rsA y = [] := by
  cases y <;> first | (cases h2; done) | exact h1
theorem noRs_ok {x : TV} {y : AV} (h : noRs x = true) (ho : OK m x y) : rsA y = [] := by
  cases x with
  | agg cs =>
    obtain ⟨ds, rfl, hd⟩ := ho
    exact noRs1s_ok hd h
  | _ => obtain ⟨a, b⟩ := noRs1_ok ho h; exact rsA_one a b
theorem noRss_ok : ∀ {xs : List TV} {ys : List AV}, xs.all noRs = true → OKL m xs ys → ys.flatMap rsA = []
  | [], _, _, h => by cases h; rfl
  | x :: xs, _, h, ⟨y, r, rfl, h1, h2⟩ => by
    rw [List.all_cons, Bool.and_eq_true] at h
    rw [List.flatMap_cons, noRs_ok h.1 h1, noRss_ok h.2 h2]; rfl
theorem packL_ok (hq : RowsOK m σ) {a : Ty} : ∀ {xs : List TV} {ys : List AV} {vs : List (Val a)}, packL m.rw a xs = some vs → OKL m xs ys →
    decLs (decV a) (ys.map fun y => (cellsOf y).map (purC σ.rw)) = some vs
  | [], ys, vs, h, ho => by cases ho; cases h; rfl
  | x :: xs, ys, vs, h, ⟨y, r, he, h1, h2⟩ => by
    subst he
    simp only [packL] at h
    split at h <;> try cases h
    rename_i v hv
    split at h <;> cases h
    rename_i vs hvs
    exact decLs_cons.2 ⟨v, vs, (pack_ok hq hv h1).2, packL_ok hq hvs h2, rfl⟩
end
end Go.AmYtmodnblfcikjlaaGreat
namespace Go.AmYtmodnblfcikjlaaGreat
open Go Go.RowKit Go.GxYtmodnblfcikjlaaGreat

def Mp.add (m : Mp) (R : TRow) (ro : Option Nat) (vo : Nat) (qo : List (List AV)) : Mp :=
  ⟨m.b, m.nb, fun i => if i = m.rw.length then ro else m.r i, fun i => if i = m.rw.length then vo else m.v i, fun i => if i = m.rw.length then qo else m.q i, m.rw ++ [R]⟩
def Mp.upd (m : Mp) (id : Nat) (R : TRow) (ro : Option Nat) (vo : Nat) (qo : List (List AV)) : Mp :=
  ⟨m.b, m.nb, fun i => if i = id then ro else m.r i, fun i => if i = id then vo else m.v i, fun i => if i = id then qo else m.q i, m.rw.set id R⟩
section
variable {α : Type} {N : Nat × Nat} {m : Mp} {E : Env} {τ : TS} {tm : List AV} {σ : St} {K : KT α} {r : α} {p : Option (AV × Option St)} {c : TC} {C : Cfg} {R R2 : TRow} {ro : Option Nat} {vo : Nat} {qo : List (List AV)} {id : Nat}
theorem add_le (m : Mp) (R : TRow) (ro : Option Nat) (vo : Nat) (qo : List (List AV)) : MLe m (m.add R ro vo qo) := by
  refine ⟨Nat.le_refl _, fun i _ => rfl, fun id R' h => ?_⟩
  have hlt := getElem?_lt h
  have hne : ¬ id = m.rw.length := Nat.ne_of_lt hlt
  exact ⟨R', by show (m.rw ++ _)[id]? = _; rw [List.getElem?_append_left hlt]; exact h, Nat.le_refl _, Nat.le_refl _, fun _ => ⟨rfl, if_neg hne, if_neg hne, rfl, fun _ => if_neg hne, fun _ _ h => h⟩⟩
theorem rowGood.later {σ' : St} (h : rowGood σ R ro vo qo) (hk : ∀ r Q, ro = some r → σ.rw[r]? = some Q → σ'.rw[r]? = some Q) : rowGood σ' R ro vo qo := by
  cases ro with
  | none => exact h
  | some r =>
    obtain ⟨Q, h1, h2⟩ := h
    exact ⟨Q, hk r Q rfl h1, h2⟩
theorem add_rows {σ' : St} (hq : RowsOK m σ) (hn : rowGood σ' R ro vo qo) (hk : ∀ (r : Nat) (Q : Row), σ.rw[r]? = some Q → σ'.rw[r]? = some Q) : RowsOK (m.add R ro vo qo) σ' := by
  intro id R' hR
  change (m.rw ++ [R])[id]? = some R' at hR
  show rowGood σ' R' (if id = m.rw.length then ro else m.r id) (if id = m.rw.length then vo else m.v id) (if id = m.rw.length then qo else m.q id)
  by_cases he : id = m.rw.length
  · subst he
    rw [if_pos rfl, if_pos rfl, if_pos rfl]
    simp at hR
    subst hR
    exact hn
  · rw [if_neg he, if_neg he, if_neg he]
    have hlt : id < m.rw.length := by have := getElem?_lt hR; simp at this; omega
    rw [List.getElem?_append_left hlt] at hR
    exact (hq id R' hR).later fun r Q _ h => hk r Q h
theorem upd_le (h0 : m.rw[id]? = some R) (hv : R.ver ≤ R2.ver) (hs : R.sv ≤ R2.sv) (hc : R2.ver = R.ver → R2.l.length = R.l.length ∧ ro = m.r id ∧ vo = m.v id ∧ R2.τ = R.τ ∧ (R2.sv = R.sv → qo = m.q id) ∧ (m.r id = none → ∀ y, dlist R.τ y = some R.l → dlist R2.τ y = some R2.l)) : MLe m (m.upd id R2 ro vo qo) := by
  have hid := getElem?_lt h0
  refine ⟨Nat.le_refl _, fun i _ => rfl, fun i R' h => ?_⟩
  by_cases he : i = id
  · subst he
    rw [h0] at h; cases h
    refine ⟨R2, by show (m.rw.set i R2)[i]? = _; rw [List.getElem?_set_self hid], hv, hs, fun h => ?_⟩
    obtain ⟨a, b, c, d, e, f⟩ := hc h
    exact ⟨a, (if_pos rfl).trans b, (if_pos rfl).trans c, d, fun h => (if_pos rfl).trans (e h), f⟩
  · exact ⟨R', by show (m.rw.set id R2)[i]? = _; rw [List.getElem?_set_ne (Ne.symm he)]; exact h, Nat.le_refl _, Nat.le_refl _, fun _ => ⟨rfl, if_neg he, if_neg he, rfl, fun _ => if_neg he, fun _ _ h => h⟩⟩
theorem upd_rows {σ' : St} (h0 : m.rw[id]? = some R) (hq : RowsOK m σ) (hn : rowGood σ' R2 ro vo qo) (hk : ∀ id' r Q, id' ≠ id → id' < m.rw.length → m.r id' = some r → σ.rw[r]? = some Q → σ'.rw[r]? = some Q) : RowsOK (m.upd id R2 ro vo qo) σ' := by
  have hid := getElem?_lt h0
  intro i R' hR
  change (m.rw.set id R2)[i]? = some R' at hR
  show rowGood σ' R' (if i = id then ro else m.r i) (if i = id then vo else m.v i) (if i = id then qo else m.q i)
  by_cases he : i = id
  · subst he
    rw [if_pos rfl, if_pos rfl, if_pos rfl]
    rw [List.getElem?_set_self hid] at hR
    cases hR
    exact hn
  · rw [if_neg he, if_neg he, if_neg he]
    rw [List.getElem?_set_ne (Ne.symm he)] at hR
    exact (hq i R' hR).later fun r Q h1 h2 => hk i r Q he (getElem?_lt hR) h1 h2
theorem Rel.to {m' : Mp} {rw' : List TRow} {σ' : St} (hr : Rel N m E τ tm σ) (hle : MLe m m') (h1 : m'.rw = rw') (h2 : m'.nb = m.nb) (h3 : m'.b = m.b) (hb : σ'.bx = σ.bx) (hq : RowsOK m' σ')
    (hi : ∀ i i' r, i < m'.rw.length → i' < m'.rw.length → m'.r i = some r → m'.r i' = some r → i = i') : Rel N m' E { τ with rw := rw' } tm σ' := by
  refine ⟨hr.len, fun t => (hr.env t).mono hle, h1, by rw [h2]; exact hr.nb, ?_, by rw [h2, h3]; exact hr.inj, hq, hi, pin_mono hle hr.pin⟩
  intro b cs hbb
  obtain ⟨ds, g1, g2⟩ := hr.box b cs hbb
  exact ⟨ds, by rw [hb, h3]; exact g1, g2.mono hle⟩
theorem Rel.row_lt (hr : Rel N m E τ tm σ) {id r : Nat} (h : id < m.rw.length) (he : m.r id = some r) : r < σ.rw.length := by
  have := hr.rows id _ (List.getElem?_eq_getElem h)
  rw [he] at this
  obtain ⟨Q, h1, _⟩ := this
  exact getElem?_lt h1
theorem Rel.rowAdd {σ' : St} (hr : Rel N m E τ tm σ) (R : TRow) (ro : Option Nat) (vo : Nat) (qo : List (List AV)) (hb : σ'.bx = σ.bx) (hn : rowGood σ' R ro vo qo) (hk : ∀ (r : Nat) (Q : Row), σ.rw[r]? = some Q → σ'.rw[r]? = some Q) (hf : ∀ r, ro = some r → σ.rw.length ≤ r) {y : AV} (hy : rowAt ro vo R.τ R.l y) (h0 : R.ver = 0) :
    ∃ m', MLe m m' ∧ Rel N m' E { τ with rw := τ.rw ++ [R] } tm σ' ∧ OK m' (.row τ.rw.length 0) y := by
  refine ⟨m.add R ro vo qo, add_le _ _ _ _ _, hr.to (add_le _ _ _ _ _) (by show m.rw ++ _ = _; rw [hr.rw]) rfl rfl hb (add_rows hr.rows hn hk) ?_, ?_⟩
  · intro id id' r h1 h2 e1 e2
    change id < (m.rw ++ [_]).length at h1
    change id' < (m.rw ++ [_]).length at h2
    change (if id = m.rw.length then ro else m.r id) = some r at e1
    change (if id' = m.rw.length then ro else m.r id') = some r at e2
    simp at h1 h2
    split at e1 <;> split at e2
    · omega
    · have := hr.row_lt (by omega) e2
      have := hf r e1
      omega
    · have := hr.row_lt (by omega) e1
      have := hf r e2
      omega
    · exact hr.rinj id id' r (by omega) (by omega) e1 e2
  · refine ⟨R, ?_, Nat.zero_le _, hy.ish, fun _ => ?_⟩
    · show (m.rw ++ _)[τ.rw.length]? = _
      rw [hr.rw]; simp
    · show rowAt (if τ.rw.length = m.rw.length then ro else m.r τ.rw.length) (if τ.rw.length = m.rw.length then vo else m.v τ.rw.length) _ _ y
      rw [if_pos (by rw [hr.rw]), if_pos (by rw [hr.rw])]; exact hy
theorem Rel.rowNew (hr : Rel N m E τ tm σ) {a : Ty} {es : List (List AV)} {l : List (Val a)} (hd : decLs (decV a) es = some l) :
    ∃ m', MLe m m' ∧ Rel N m' E { τ with rw := τ.rw ++ [⟨a, l, 0, 0, false⟩] } tm { σ with rw := σ.rw ++ [⟨a.size, es, 0, 0⟩] } ∧ OK m' (.row τ.rw.length 0) (.rs σ.rw.length 0 l.length 0 false) :=
  hr.rowAdd (σ' := { σ with rw := σ.rw ++ [⟨a.size, es, 0, 0⟩] }) ⟨a, l, 0, 0, false⟩ (some σ.rw.length) 0 es rfl ⟨⟨a.size, es, 0, 0⟩, by show (σ.rw ++ [_])[σ.rw.length]? = _; simp, rfl, rfl, rfl, hd, Nat.zero_le _, fun _ => rfl⟩
    (fun r Q h => by show (σ.rw ++ _)[r]? = _; rw [List.getElem?_append_left (getElem?_lt h)]; exact h) (fun r h => by cases h; exact Nat.le_refl _) rfl rfl
/-- A row turns. -/
theorem Rel.rowUpd (hr : Rel N m E τ tm σ) (h0 : τ.rw[id]? = some R) (ro : Option Nat) (vo : Nat) (qo : List (List AV)) (hv : R.ver ≤ R2.ver) (hs : R.sv ≤ R2.sv) (hc : R2.ver = R.ver → R2.l.length = R.l.length ∧ ro = m.r id ∧ vo = m.v id ∧ R2.τ = R.τ ∧ (R2.sv = R.sv → qo = m.q id) ∧ (m.r id = none → ∀ y, dlist R.τ y = some R.l → dlist R2.τ y = some R2.l)) {σ' : St} (hb : σ'.bx = σ.bx) (hn : rowGood σ' R2 ro vo qo)
    (hk : ∀ id' r, id' ≠ id → id' < m.rw.length → m.r id' = some r → ro ≠ some r ∧ ∀ Q, σ.rw[r]? = some Q → σ'.rw[r]? = some Q) :
    ∃ m', MLe m m' ∧ Rel N m' E { τ with rw := τ.rw.set id R2 } tm σ' ∧ (∀ y, rowAt ro vo R2.τ R2.l y → OK m' (.row id R2.ver) y) := by
  have h0' : m.rw[id]? = some R := by rw [hr.rw]; exact h0
  have hid := getElem?_lt h0'
  have hle : MLe m (m.upd id R2 ro vo qo) := upd_le h0' hv hs hc
  refine ⟨m.upd id R2 ro vo qo, hle, hr.to hle (by show m.rw.set id R2 = _; rw [hr.rw]) rfl rfl hb (upd_rows h0' hr.rows hn fun id' r Q h1 h2 h3 h4 => (hk id' r h1 h2 h3).2 Q h4) ?_, fun y hy => ?_⟩
  · intro i i' r g1 g2 e1 e2
    change i < (m.rw.set id R2).length at g1
    change i' < (m.rw.set id R2).length at g2
    change (if i = id then ro else m.r i) = some r at e1
    change (if i' = id then ro else m.r i') = some r at e2
    simp at g1 g2
    split at e1 <;> split at e2
    · omega
    · rename_i a b
      exact absurd e1 (hk i' r b g2 e2).1
    · rename_i a b
      exact absurd e2 (hk i r a g1 e1).1
    · exact hr.rinj i i' r g1 g2 e1 e2
  · refine ⟨R2, ?_, Nat.le_refl _, hy.ish, fun _ => ?_⟩
    · show (m.rw.set id R2)[id]? = _
      rw [List.getElem?_set_self hid]
    · show rowAt (if id = id then ro else m.r id) (if id = id then vo else m.v id) _ _ y
      rw [if_pos rfl, if_pos rfl]; exact hy
/-- Where another row lies. -/
theorem Rel.others (hr : Rel N m E τ tm σ) (h0 : τ.rw[id]? = some R) {rr : Nat} (hrr : m.r id = some rr) {id' r : Nat} (h1 : id' ≠ id) (h2 : id' < m.rw.length) (h3 : m.r id' = some r) : r ≠ rr := fun he =>
  h1 (hr.rinj id' id rr h2 (by rw [hr.rw]; exact getElem?_lt h0) (he ▸ h3) hrr)
theorem decLs_set {β : Type} {f : List AV → Option β} : ∀ {es : List (List AV)} {l : List β}, decLs f es = some l → ∀ (j : Nat) {e : List AV} {v : β}, f e = some v → decLs f (es.set j e) = some (l.set j v)
  | [], l, h, j, e, v, hv => by cases h; rfl
  | e' :: es, l, h, j, e, v, hv => by
    obtain ⟨w, vs, h1, h2, rfl⟩ := decLs_cons.1 h
    cases j with
    | zero => exact decLs_cons.2 ⟨v, vs, hv, h2, rfl⟩
    | succ j => exact decLs_cons.2 ⟨w, vs.set j v, h1, decLs_set h2 j hv, rfl⟩
theorem decLs_rep {β : Type} {f : List AV → Option β} {e : List AV} {v : β} (h : f e = some v) : ∀ n : Nat, decLs f (List.replicate n e) = some (List.replicate n v)
  | 0 => rfl
  | n + 1 => decLs_cons.2 ⟨v, _, h, decLs_rep h n, rfl⟩
end
end Go.AmYtmodnblfcikjlaaGreat
